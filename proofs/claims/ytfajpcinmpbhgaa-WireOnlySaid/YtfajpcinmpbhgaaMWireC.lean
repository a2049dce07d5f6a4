/- Texts as bytes (chapter 18): what program and document put and get; the examples. -/
import Derived.Test.YtfajpcinmpbhgaaMWireB
import Derived.Lib.Strings
namespace Go.Proofs.Ytfajpcinmpbhgaa.M
open Go.RowKit Go.Proofs.Ytfajpcinmpbhgaa.P Go.Proofs.YtfajpcinmpbhgaaW.PrintWords Go.Proofs.YtfajpcinmpbhgaaW.PrintLast Go.Proofs.YtfajpcinmpbhgaaW.PrintMore

/-- A number's bytes. -/
def putB (v : Nat) : ByteArray := ⟨(wire_putL v).toArray⟩
theorem putB_size (v : Nat) : (putB v).size = (wire_putL v).length := by unfold putB; simp [ByteArray.size]
theorem putB_data (v : Nat) : (putB v).data.toList = wire_putL v := rfl
theorem put_spec (v : Nat) (h : v < 18446744073709551616) : wire_Put.f (v : Int) = some (putB v) := by
  unfold wire_Put.f
  rw [if_pos (by omega)]
  rfl
theorem one_byte (x : Int) (n : Nat) (h : x % 256 = (n : Int)) : strOfNums [x % 256] = ⟨#[UInt8.ofNat n]⟩ := by
  unfold strOfNums
  rw [h]
  rfl
theorem bytes_eq {a b : ByteArray} (h : a.data.toList = b.data.toList) : a = b := by
  apply ByteArray.ext
  exact Array.toList_inj.mp h
theorem data_app (a b : ByteArray) : (a ++ b).data.toList = a.data.toList ++ b.data.toList := by rw [ByteArray.data_append, Array.toList_append]
theorem ref_put_loop : ∀ (d v k : Nat) (out : ByteArray), v < 18446744073709551616 → v < 2 ^ (7 * d) ∨ v = 0 → d + out.size ≤ 100 → d + 2 ≤ k → cleatref18_Put.l0 k (v : Int) out = some (out ++ putB v) := by
  intro d
  induction d with
  | zero =>
    intro v k out hbig hv ho hk
    obtain ⟨k, rfl⟩ : ∃ m, k = m + 1 := ⟨k - 1, by omega⟩
    obtain rfl : v = 0 := by
      simp only [Nat.mul_zero, Nat.pow_zero] at hv
      omega
    simp only [cleatref18_Put.l0]
    rw [if_neg (by omega), Option.bind_some, one_byte _ 0 (by rfl), if_pos (by show out.size + 1 ≤ _; omega)]
    congr 2
    apply bytes_eq
    rw [putB_data, wire_putL_less 0 (by decide)]
  | succ d ih =>
    intro v k out hbig hv ho hk
    obtain ⟨k, rfl⟩ : ∃ m, k = m + 1 := ⟨k - 1, by omega⟩
    simp only [cleatref18_Put.l0]
    by_cases hlt : v < 128
    · rw [if_neg (by omega), Option.bind_some, one_byte _ v (by omega), if_pos (by show out.size + 1 ≤ _; omega)]
      congr 2
      apply bytes_eq
      rw [putB_data, wire_putL_less v hlt]
    · have hv2 : v < 128 * 2 ^ (7 * d) := by
        rcases hv with h | h
        · rwa [pow7] at h
        · omega
      have hv64 : v % 128 + 128 < 256 := by omega
      rw [if_pos (by omega), Option.bind_some, one_byte _ (v % 128 + 128) (by
        rw [show Int.tmod (v : Int) 128 = ((v % 128 : Nat) : Int) by rw [Int.tmod_eq_emod_of_nonneg (by omega)]; omega, u64_self _ (by omega) (by omega)]; omega), if_pos (by show out.size + 1 ≤ _; omega)]
      rw [show Int.tdiv (v : Int) 128 = ((v / 128 : Nat) : Int) by rw [Int.tdiv_eq_ediv_of_nonneg (by omega)]; omega, u64_self _ (by omega) (by omega),
        ih (v / 128) k _ (by omega) (by left; omega) (by show d + (out ++ (⟨#[UInt8.ofNat (v % 128 + 128)]⟩ : ByteArray)).size ≤ 100; rw [ByteArray.size_append]; show d + (out.size + 1) ≤ 100; omega) (by omega)]
      congr 1
      apply bytes_eq
      rw [data_app, data_app, data_app, putB_data, putB_data, wire_putL_more v hlt]
      simp
theorem ref_put_spec (k v : Nat) (hk : 12 ≤ k) (h : v < 18446744073709551616) : cleatref18_Put.f k (v : Int) = some (putB v) := by
  have e : (2 : Nat) ^ (7 * 10) = 1180591620717411303424 := by decide
  unfold cleatref18_Put.f
  rw [ref_put_loop 10 v k _ h (.inl (by omega)) (by decide) hk]
  congr 1
/-- Ints are put. -/
theorem zig_bits (n : Int) (h0 : -9223372036854775808 ≤ n) (h1 : n < 9223372036854775808) : Go.bits .xor .u64 (IntKind.u64.wrap (IntKind.u64.wrap n * 2)) (IntKind.u64.wrap (n / 9223372036854775808)) = (zig n : Int) := by
  unfold zig
  by_cases h : 0 ≤ n
  · rw [if_pos h, u64_self n h (by omega), u64_self _ (by omega) (by omega), show n / 9223372036854775808 = 0 by omega, u64_self 0 (by decide) (by decide), u64_xor _ _ (by omega) (by omega) (by decide) (by decide)]
    rw [show (0 : Int).toNat = 0 from rfl, Nat.xor_zero]
    omega
  · rw [if_neg h]
    have e1 : IntKind.u64.wrap n = n + 18446744073709551616 := by rw [IntKind.wrap_u64]; omega
    have e2 : IntKind.u64.wrap ((n + 18446744073709551616) * 2) = 2 * n + 18446744073709551616 := by rw [IntKind.wrap_u64]; omega
    have e3 : IntKind.u64.wrap (n / 9223372036854775808) = 18446744073709551615 := by rw [show n / 9223372036854775808 = -1 by omega]; decide
    have e4 : Go.bits .xor .u64 (2 * n + 18446744073709551616) 18446744073709551615 = Go.bits .xor .u64 18446744073709551615 (2 * n + 18446744073709551616) := by
      rw [u64_xor _ _ (by omega) (by omega) (by decide) (by decide), u64_xor _ _ (by decide) (by decide) (by omega) (by omega), Nat.xor_comm]
    rw [e1, e2, e3, e4, xor_ones_u64 _ (by omega) (by omega)]
    omega
theorem putint_spec (n : Int) (h0 : -9223372036854775808 ≤ n) (h1 : n < 9223372036854775808) : wire_PutInt.f n = some (putB (zig n)) := by
  unfold wire_PutInt.f
  rw [zig_bits n h0 h1, put_spec _ (zig_lt n h0 h1)]
  rfl
theorem ref_putint_spec (k : Nat) (n : Int) (hk : 12 ≤ k) (h0 : -9223372036854775808 ≤ n) (h1 : n < 9223372036854775808) : cleatref18_PutInt.f k n = some (putB (zig n)) := by
  have hz := zig_lt n h0 h1
  unfold cleatref18_PutInt.f cleatref10_Of.f
  by_cases h : 0 ≤ n
  · rw [if_pos h, Option.bind_some, if_neg (by simp), u64_self n h (by omega), u64_self _ (by omega) (by omega)]
    have e : (2 * n : Int) = (zig n : Int) := by unfold zig; rw [if_pos h]; omega
    rw [e, ref_put_spec k _ hk hz]
    rfl
  · have e : ∀ x : Int, x = -n → IntKind.u64.wrap (IntKind.u64.wrap (2 * IntKind.u64.wrap (x - 1)) + 1) = (zig n : Int) := by
      intro x hx
      subst hx
      unfold zig
      rw [if_neg h, u64_self (-n - 1) (by omega) (by omega), u64_self (2 * (-n - 1)) (by omega) (by omega), u64_self _ (by omega) (by omega)]
      omega
    by_cases hm : n = -9223372036854775808
    · rw [if_neg h, if_pos hm, Option.bind_some, if_pos rfl]
      show ((cleatref18_Put.f k (IntKind.u64.wrap (IntKind.u64.wrap (2 * IntKind.u64.wrap (9223372036854775808 - 1)) + 1))).bind fun t => some t) = _
      rw [e 9223372036854775808 (by omega), ref_put_spec k _ hk hz]
      rfl
    · rw [if_neg h, if_neg hm, Option.bind_some, if_pos rfl]
      show ((cleatref18_Put.f k (IntKind.u64.wrap (IntKind.u64.wrap (2 * IntKind.u64.wrap (IntKind.u64.wrap (wrap64 (-n)) - 1)) + 1))).bind fun t => some t) = _
      rw [e _ (by rw [wrap64_self _ (by omega) (by omega), u64_self _ (by omega) (by omega)]), ref_put_spec k _ hk hz]
      rfl
/-- Texts are put. -/
def putT (s : ByteArray) : ByteArray := putB s.size ++ s
theorem putT_data (s : ByteArray) : (putT s).data.toList = wire_putL s.size ++ s.data.toList := by unfold putT; rw [data_app, putB_data]
theorem putT_size (s : ByteArray) : (putT s).size = (wire_putL s.size).length + s.size := by unfold putT; rw [ByteArray.size_append, putB_size]
theorem puttext_spec (s : ByteArray) (h : s.size ≤ 100000000000000) : wire_PutText.f s = some (putT s) := by
  unfold wire_PutText.f
  rw [if_pos (by omega)]
  exact congrArg some (bytes_eq (by rw [putT_data]))
theorem ref_puttext_spec (k : Nat) (s : ByteArray) (hk : 12 ≤ k) (h : s.size ≤ 100000000000000) : cleatref18_PutText.f k s = some (putT s) := by
  have := wire_putL_ten s.size (by omega)
  unfold cleatref18_PutText.f
  rw [ref_put_spec k s.size hk (by omega), Option.bind_some, if_pos (by rw [putB_size]; omega)]
  rfl
/-- Texts are got. -/
def textV (s : ByteArray) (most : Int) : ByteArray × Int × Int :=
  if most < 0 ∨ 1000000 < most then (⟨#[]⟩, 0, 1) else
  let p := getL s.data.toList 0 0
  if p.2.2 = 0 then (if most < (p.1 : Int) then (⟨#[]⟩, 0, 2) else if (s.size : Int) - p.2.1 < (p.1 : Int) then (⟨#[]⟩, 0, 9) else (s.extract p.2.1 (p.2.1 + p.1), (p.2.1 : Int) + p.1, 0)) else (⟨#[]⟩, 0, (p.2.2 : Int))
theorem got_le (s : ByteArray) : (getL s.data.toList 0 0).2.1 ≤ s.size ∧ (getL s.data.toList 0 0).1 < 18446744073709551616 := by
  rcases get_cases0 s.data.toList with ⟨y, rest, h1, h2, h4⟩ | ⟨e, _, h4⟩
  · rw [h4]
    have := congrArg List.length h1
    simp at this
    exact ⟨by show (wire_putL y).length ≤ s.size; omega, h2⟩
  · rw [h4]; exact ⟨Nat.zero_le _, Nat.zero_lt_of_lt (Nat.lt_succ_self _)⟩
theorem gettext_spec (k : Nat) (s : ByteArray) (most : Int) (hk : 30 ≤ k) (hs : s.size ≤ 100000000000000) : wire_GetText.f k s most = some (textV s most) := by
  obtain ⟨k, rfl⟩ : ∃ m, k = m + 1 := ⟨k - 1, by omega⟩
  have hle := got_le s
  have j : ∀ b : Bool, b = decide (most < 0 ∨ 1000000 < most) → wire_GetText.j0 (k + 1) s most b = some (textV s most) := by
    intro b hb
    unfold textV
    simp only [wire_GetText.j0]
    by_cases hm : most < 0 ∨ 1000000 < most
    · rw [if_pos hm, if_pos (by rw [hb]; exact decide_eq_true hm)]
    · rw [if_neg hm, if_neg (by rw [hb, decide_eq_false hm]; decide), get_spec k s (by omega), Option.bind_some]
      generalize getL s.data.toList 0 0 = p at *
      obtain ⟨v, n, e⟩ := p
      simp only at hle ⊢
      show (if ((e : Nat) : Int) = 0 then (if ((v : Nat) : Int) > IntKind.u64.wrap most then _ else _) else _) = _
      by_cases he : e = 0
      · rw [if_pos (by omega), if_pos he, u64_self most (by omega) (by omega)]
        by_cases hv : most < (v : Int)
        · rw [if_pos hv, if_pos hv]
        · rw [if_neg hv, if_neg hv]
          show (if wrap64 ((v : Nat) : Int) > wrap64 ((s.size : Int) - ((n : Nat) : Int)) then _ else _) = _
          rw [wrap64_self (v : Int) (by omega) (by omega), wrap64_self ((s.size : Int) - (n : Int)) (by omega) (by omega)]
          by_cases hl : (s.size : Int) - n < (v : Int)
          · rw [if_pos hl, if_pos hl]
          · rw [if_neg hl, if_neg hl]
            show (if 0 ≤ ((n : Nat) : Int) then (if ((n : Nat) : Int) ≤ (s.size : Int) then (if 0 ≤ ((v : Nat) : Int) then (if ((v : Nat) : Int) ≤ ((s.extract n s.size).size : Int) then some ((s.extract n s.size).extract 0 v, wrap64 ((n : Int) + wrap64 (v : Int)), (0 : Int)) else none) else none) else none) else none) = _
            rw [if_pos (by omega), if_pos (by omega), if_pos (by omega), if_pos (by rw [ByteArray.size_extract]; omega), wrap64_self (v : Int) (by omega) (by omega), wrap64_self _ (by omega) (by omega), ByteArray.extract_extract, Nat.add_zero, Nat.min_eq_left (by omega)]
      · rw [if_neg (by omega), if_neg he]
        rfl
  unfold wire_GetText.f
  by_cases h : most < 0
  · rw [if_pos h]; exact j _ (decide_eq_true (.inl h)).symm
  · rw [if_neg h]
    refine j _ ?_
    rw [Bool.eq_iff_iff, decide_eq_true_eq, decide_eq_true_eq]; omega
theorem ref_gettext_spec (k : Nat) (s : ByteArray) (most : Int) (hk : 100 ≤ k) (hs : s.size ≤ 100000000000000) : cleatref18_GetText.f k s most = some (textV s most) := by
  obtain ⟨k, rfl⟩ : ∃ m, k = m + 1 := ⟨k - 1, by omega⟩
  have hle := got_le s
  have j : ∀ b : Bool, b = decide (most < 0 ∨ 1000000 < most) → cleatref18_GetText.j0 (k + 1) s most b = some (textV s most) := by
    intro b hb
    unfold textV
    simp only [cleatref18_GetText.j0]
    by_cases hm : most < 0 ∨ 1000000 < most
    · rw [if_pos hm, if_pos (by rw [hb]; exact decide_eq_true hm)]
    · rw [if_neg hm, if_neg (by rw [hb, decide_eq_false hm]; decide), ref_get_spec k s (by omega), Option.bind_some]
      generalize getL s.data.toList 0 0 = p at *
      obtain ⟨v, n, e⟩ := p
      simp only at hle ⊢
      show (if ((e : Nat) : Int) = 0 then (if ((v : Nat) : Int) > IntKind.u64.wrap most then _ else _) else _) = _
      by_cases he : e = 0
      · rw [if_pos (by omega), if_pos he, u64_self most (by omega) (by omega)]
        by_cases hv : most < (v : Int)
        · rw [if_pos hv, if_pos hv]
        · rw [if_neg hv, if_neg hv]
          show (if wrap64 ((v : Nat) : Int) > wrap64 ((s.size : Int) - ((n : Nat) : Int)) then _ else (if 0 ≤ ((n : Nat) : Int) then (if ((n : Nat) : Int) ≤ wrap64 (((n : Nat) : Int) + wrap64 ((v : Nat) : Int)) then (if wrap64 (((n : Nat) : Int) + wrap64 ((v : Nat) : Int)) ≤ (s.size : Int) then some (s.extract n (wrap64 (((n : Nat) : Int) + wrap64 ((v : Nat) : Int))).toNat, wrap64 (((n : Nat) : Int) + wrap64 ((v : Nat) : Int)), (0 : Int)) else none) else none) else none)) = _
          rw [wrap64_self (v : Int) (by omega) (by omega), wrap64_self ((s.size : Int) - (n : Int)) (by omega) (by omega)]
          by_cases hl : (s.size : Int) - n < (v : Int)
          · rw [if_pos hl, if_pos hl]
          · rw [if_neg hl, if_neg hl, wrap64_self _ (by omega) (by omega), if_pos (by omega), if_pos (by omega), if_pos (by omega), show ((n : Int) + (v : Int)).toNat = n + v by omega]
      · rw [if_neg (by omega), if_neg he]
        rfl
  unfold cleatref18_GetText.f
  by_cases h : most < 0
  · rw [if_pos h]; exact j _ (decide_eq_true (.inl h)).symm
  · rw [if_neg h]
    refine j _ ?_
    rw [Bool.eq_iff_iff, decide_eq_true_eq, decide_eq_true_eq]; omega
theorem textV_cases (s : ByteArray) (most : Int) : (∃ e : Int, e ≠ 0 ∧ textV s most = (⟨#[]⟩, 0, e)) ∨
    (∃ y rest, s.data.toList = wire_putL y ++ rest ∧ (y : Int) ≤ most ∧ y ≤ 1000000 ∧ (wire_putL y).length + y ≤ s.size ∧ textV s most = (s.extract (wire_putL y).length ((wire_putL y).length + y), ((wire_putL y).length : Int) + y, 0)) := by
  unfold textV
  by_cases hm : most < 0 ∨ 1000000 < most
  · rw [if_pos hm]; exact .inl ⟨1, by decide, rfl⟩
  · rw [if_neg hm]
    have hle := got_le s
    rcases get_cases0 s.data.toList with ⟨y, rest, h1, h2, h4⟩ | ⟨e, he, h4⟩
    · rw [h4] at hle ⊢
      simp only [if_true] at hle ⊢
      by_cases hv : most < (y : Int)
      · rw [if_pos hv]; exact .inl ⟨2, by decide, rfl⟩
      · rw [if_neg hv]
        by_cases hl : (s.size : Int) - ((wire_putL y).length : Nat) < (y : Int)
        · rw [if_pos hl]; exact .inl ⟨9, by decide, rfl⟩
        · rw [if_neg hl]
          exact .inr ⟨y, rest, h1, by omega, by omega, by omega, rfl⟩
    · rw [h4]
      simp only
      rw [if_neg (by omega)]
      exact .inl ⟨(e : Int), by omega, rfl⟩
/-- The examples. -/
theorem put_300 : wire_putL 300 = [172, 2] := by rw [wire_putL_more 300 (by decide), wire_putL_less _ (by decide)]; rfl
theorem put_1 : wire_putL 1 = [1] := by rw [wire_putL_less 1 (by decide)]; rfl
theorem put_2 : wire_putL 2 = [2] := by rw [wire_putL_less 2 (by decide)]; rfl
theorem sent_ok (k : Nat) (h : 100 ≤ k) : cleatlaw18_sent.f k = some true := by
  have t1 : (⟨#[2, 97, 98, 99]⟩ : ByteArray).size = 4 := rfl
  unfold cleatlaw18_sent.f
  rw [get_spec k _ (by omega), Option.bind_some, get_spec k _ (by omega), Option.bind_some, get_spec k _ (by omega), Option.bind_some, gettext_spec k _ _ (by omega) (by rw [t1]; decide), Option.bind_some, gettext_spec k _ _ (by omega) (by rw [t1]; decide), Option.bind_some]
  have p300 : wire_Put.f 300 = some (putB 300) := put_spec 300 (by decide)
  have p1 : wire_PutInt.f (-1) = some (putB (zig (-1))) := putint_spec (-1) (by decide) (by decide)
  have pt : wire_PutText.f ⟨#[97, 98]⟩ = some (putT ⟨#[97, 98]⟩) := puttext_spec _ (by show 2 ≤ _; decide)
  rw [p300, Option.bind_some, if_pos (by rw [ByteArray.toList_eq, putB_data, put_300]), p1, Option.bind_some, if_pos (by rw [ByteArray.toList_eq, putB_data, show zig (-1) = 1 by decide, put_1]), pt, Option.bind_some,
    if_pos (by rw [ByteArray.toList_eq, putT_data, show (⟨#[97, 98]⟩ : ByteArray).size = 2 from rfl, put_2]; rfl)]
  have x1 : (textV ⟨#[2, 97, 98, 99]⟩ 9) = (⟨#[97, 98]⟩, 3, 0) := by decide +kernel
  rw [x1]
  rw [if_pos (by decide +kernel), if_pos (by decide +kernel), if_pos (by decide +kernel), if_pos (by decide +kernel), if_pos (by decide +kernel), if_pos (by decide +kernel), if_pos (by rw [ByteArray.toList_eq]), if_pos (by decide +kernel)]
  decide +kernel
end Go.Proofs.Ytfajpcinmpbhgaa.M
