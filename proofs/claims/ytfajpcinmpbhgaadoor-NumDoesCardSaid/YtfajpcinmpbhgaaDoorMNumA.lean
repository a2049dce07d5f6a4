/- Numbers as text (chapter 10): what is read of digits, as plain lists; both sides read the same. -/
import Derived.Test.YtfajpcinmpbhgaaDoorMGen
import Derived.Test.YtfajpcinmpbhgaaDoorPx1
import Derived.Test.YtfajpcinmpbhgaaDoorPx2
import Derived.Test.YtfajpcinmpbhgaaDoorPx3
import Derived.Test.YtfajpcinmpbhgaaDoorPx4
import Derived.Test.YtfajpcinmpbhgaaDoorPx4
namespace Go.Proofs.YtfajpcinmpbhgaaDoor.M
open Go.RowKit Go.Proofs.YtfajpcinmpbhgaaDoor.P Go.Proofs.YtfajpcinmpbhgaaDoorW.PrintWords Go.Proofs.YtfajpcinmpbhgaaDoorW.PrintLast Go.Proofs.YtfajpcinmpbhgaaDoorW.PrintMore
set_option linter.unusedVariables false

theorem nbytes_eq {a b : ByteArray} (h : a.data.toList = b.data.toList) : a = b := by
  cases a; cases b; simp at h; simp [h]
theorem ndata_app (a b : ByteArray) : (a ++ b).data.toList = a.data.toList ++ b.data.toList := by rw [ByteArray.data_append, Array.toList_append]

/-- A digit to the base. -/
def okd (b : Nat) (c : UInt8) : Bool := decide (0 ≤ num_dig (c.toNat : Int)) && decide (num_dig (c.toNat : Int) < (b : Int))
/-- The number that the digits say. -/
def numF (b : Nat) : List UInt8 → Nat → Nat
  | [], v => v
  | c :: l, v => numF b l (v * b + (num_dig (c.toNat : Int)).toNat)
def valB (b : Nat) (l : List UInt8) : Int × Int :=
  if l = [] then (0, 3) else if l.all (okd b) = true then (if 18446744073709551616 ≤ numF b l 0 then (0, 4) else ((numF b l 0 : Nat), 0)) else (0, 3)
def valL (l : List UInt8) : Int × Int := if l.take 2 = [48, 120] then valB 16 (l.drop 2) else valB 10 l

theorem dig_lt (c : Int) : num_dig c ≤ 15 := by unfold num_dig; repeat' split <;> omega
theorem dig_neg (c : Int) (h : num_dig c < 0) : num_dig c = -1 := by unfold num_dig at *; repeat' split at h <;> simp_all <;> omega
theorem dig_ascii (c : Int) (h : 0 ≤ num_dig c) : 48 ≤ c ∧ c ≤ 102 := by unfold num_dig at h; repeat' split at h <;> omega
theorem okd_iff (b : Nat) (c : UInt8) : okd b c = true ↔ 0 ≤ num_dig (c.toNat : Int) ∧ num_dig (c.toNat : Int) < (b : Int) := by simp [okd]
theorem digit_ok {b : Nat} {c : UInt8} (h : okd b c = true) : num_digit.f (c.toNat : Int) b = some (num_dig (c.toNat : Int), true) := by
  have := (okd_iff b c).1 h
  unfold num_digit.f
  rw [if_neg (by omega), decide_eq_true this.2]
theorem digit_not {b : Nat} {c : UInt8} (h : ¬ okd b c = true) : ∃ d, num_digit.f (c.toNat : Int) b = some (d, false) := by
  rw [okd_iff] at h
  unfold num_digit.f
  by_cases h0 : num_dig (c.toNat : Int) < 0
  · exact ⟨0, by rw [if_pos h0]⟩
  · exact ⟨num_dig (c.toNat : Int), by rw [if_neg h0, decide_eq_false (by omega)]⟩
theorem numF_le {b : Nat} (hb : 1 ≤ b) : ∀ (l : List UInt8) (v : Nat), v ≤ numF b l v
  | [], v => Nat.le_refl v
  | c :: l, v => by
    have h1 := numF_le hb l (v * b + (num_dig (c.toNat : Int)).toNat)
    have h2 : v * 1 ≤ v * b := Nat.mul_le_mul_left v hb
    show v ≤ numF b l _
    omega
theorem numF_app (b : Nat) : ∀ (l m : List UInt8) (v : Nat), numF b (l ++ m) v = numF b m (numF b l v)
  | [], m, v => rfl
  | c :: l, m, v => numF_app b l m _

/-- The sum of what is got and a digit is too great: the check says just so. -/
theorem over_iff {b : Nat} (hb : b = 10 ∨ b = 16) (v d : Int) (h0 : 0 ≤ d) (h1 : d ≤ 15) (v0 : 0 ≤ v) (v1 : v < 18446744073709551616) :
    (IntKind.u64.wrap (18446744073709551615 - d) / (b : Int) < v) ↔ 18446744073709551616 ≤ v * b + d := by
  rw [u64_self _ (by omega) (by omega)]
  rcases hb with rfl | rfl <;> omega

theorem loop_bad (b : Nat) : ∀ (l : List UInt8) (v : Int) (g : Bool), l.all (okd b) = false → num_loop (b : Int) l v g = some (0, 3)
  | [], v, g, h => by simp at h
  | c :: l, v, g, h => by
    unfold num_loop
    by_cases hc : okd b c = true
    · have hl : l.all (okd b) = false := by simpa [hc] using h
      have ha := dig_ascii _ ((okd_iff b c).1 hc).1
      rw [if_pos (by omega), digit_ok hc, Option.bind_some, if_pos rfl]
      exact loop_bad b l _ _ hl
    · obtain ⟨d, hd⟩ := digit_not hc
      by_cases h128 : c.toNat < 128
      · rw [if_pos h128, hd, Option.bind_some, if_neg (by simp)]
      · rw [if_neg h128]
theorem loop_great (b : Nat) : ∀ (l : List UInt8) (v : Int), l.all (okd b) = true → num_loop (b : Int) l v true = some (0, 4)
  | [], v, h => by unfold num_loop; rw [if_pos rfl]
  | c :: l, v, h => by
    have hc : okd b c = true ∧ l.all (okd b) = true := by simpa using h
    have ha := dig_ascii _ ((okd_iff b c).1 hc.1).1
    unfold num_loop
    rw [if_pos (by omega), digit_ok hc.1, Option.bind_some, if_pos rfl, Bool.true_or]
    exact loop_great b l _ hc.2
theorem loop_ok {b : Nat} (hb : b = 10 ∨ b = 16) : ∀ (l : List UInt8) (v : Nat), l.all (okd b) = true → v < 18446744073709551616 →
    num_loop (b : Int) l v false = some (if 18446744073709551616 ≤ numF b l v then ((0 : Int), (4 : Int)) else (((numF b l v : Nat) : Int), 0))
  | [], v, h, hv => by
    unfold num_loop
    rw [if_neg (by decide), show numF b [] v = v from rfl, if_neg (by omega)]
  | c :: l, v, h, hv => by
    have hc : okd b c = true ∧ l.all (okd b) = true := by simpa using h
    have hd := (okd_iff b c).1 hc.1
    have ha := dig_ascii _ hd.1
    have h15 := dig_lt (c.toNat : Int)
    obtain ⟨d, hdd⟩ := Int.eq_ofNat_of_zero_le hd.1
    have ho := over_iff hb (v : Int) d (by omega) (by omega) (by omega) (by omega)
    unfold num_loop
    rw [if_pos (by omega), digit_ok hc.1, Option.bind_some, if_pos rfl, hdd, Bool.false_or]
    have hF : numF b (c :: l) v = numF b l (v * b + d) := by
      show numF b l (v * b + (num_dig (c.toNat : Int)).toNat) = _
      rw [hdd, Int.toNat_natCast]
    rw [hF]
    by_cases hg : 18446744073709551616 ≤ v * b + d
    · have hm := numF_le (b := b) (by omega) l (v * b + d)
      rw [decide_eq_true (ho.2 (by omega)), if_pos (by omega)]
      exact loop_great b l _ hc.2
    · have e : IntKind.u64.wrap (IntKind.u64.wrap ((v : Int) * (b : Int)) + (d : Int)) = ((v * b + d : Nat) : Int) := by
        have e1 : (v : Int) * (b : Int) = ((v * b : Nat) : Int) := by push_cast; rfl
        rw [e1, u64_self ((v * b : Nat) : Int) (by omega) (by omega), u64_self _ (by omega) (by omega)]
        push_cast; rfl
      rw [decide_eq_false (by intro hh; have := ho.1 hh; omega), e]
      exact loop_ok hb l _ hc.2 (by omega)
theorem loop_val {b : Nat} (hb : b = 10 ∨ b = 16) (l : List UInt8) : (if l = [] then some ((0 : Int), (3 : Int)) else num_loop (b : Int) l 0 false) = some (valB b l) := by
  unfold valB
  by_cases h : l = []
  · rw [if_pos h, if_pos h]
  · rw [if_neg h, if_neg h]
    by_cases ha : l.all (okd b) = true
    · rw [if_pos ha]; exact loop_ok hb l 0 ha (by decide)
    · rw [if_neg ha]; exact loop_bad b l 0 false (by simpa using ha)

theorem cut_spec (s p : ByteArray) (hs : s.size ≤ 140737488351300) : strings_CutPrefix.f s p = some (if s.data.toList.take p.size = p.data.toList then (s.extract p.size s.size, true) else (s, false)) := by
  unfold strings_CutPrefix.f stringslite_CutPrefix.f stringslite_HasPrefix.f
  have e : (((p.size : Int) : Int)).toNat = p.size := Int.toNat_natCast _
  have hx : (s.extract 0 p.size).toList = s.data.toList.take p.size := by rw [ByteArray.toList_eq, Lib.extract_data, List.drop_zero, Nat.sub_zero]
  by_cases h1 : (s.size : Int) ≥ (p.size : Int)
  · rw [if_pos h1, if_pos (by omega), if_pos (by omega), Option.bind_some, e, hx, ByteArray.toList_eq]
    by_cases hh : s.data.toList.take p.size = p.data.toList
    · rw [if_pos (by rw [hh]; exact beq_self_eq_true _), if_pos (by omega), if_pos (by omega), Option.bind_some, if_pos hh]
    · rw [if_neg (by intro h; exact hh (by simpa using h)), Option.bind_some, if_neg hh]
  · rw [if_neg h1, Option.bind_some, if_neg (by simp), Option.bind_some, if_neg]
    intro hh
    have h3 : (s.data.toList.take p.size).length = p.data.toList.length := congrArg List.length hh
    have h4 : p.data.toList.length = p.size := by simp
    have h5 : s.data.toList.length = s.size := by simp
    rw [List.length_take, h4, h5] at h3
    omega

theorem value_eq (s : ByteArray) (hs : s.size ≤ 140737488351300) : num_Value.f s = some (valL s.data.toList) := by
  unfold num_Value.f valL
  rw [cut_spec s _ hs, Option.bind_some]
  by_cases hh : s.data.toList.take 2 = [48, 120]
  · have hp : (if s.data.toList.take (⟨#[48, 120]⟩ : ByteArray).size = (⟨#[48, 120]⟩ : ByteArray).data.toList then (s.extract (⟨#[48, 120]⟩ : ByteArray).size s.size, true) else (s, false)) = (s.extract 2 s.size, true) := if_pos hh
    have e : (s.extract 2 s.size).data.toList = s.data.toList.drop 2 := by
      rw [Lib.extract_data, List.take_of_length_le (by simp)]
    rw [hp, if_pos rfl, if_pos hh, e]
    exact loop_val (.inr rfl) _
  · have hp : (if s.data.toList.take (⟨#[48, 120]⟩ : ByteArray).size = (⟨#[48, 120]⟩ : ByteArray).data.toList then (s.extract (⟨#[48, 120]⟩ : ByteArray).size s.size, true) else (s, false)) = (s, false) := if_neg hh
    rw [hp, if_neg (by simp), if_neg hh]
    exact loop_val (.inl rfl) _

-- the document's side
theorem refdigit_j4 (k : Nat) (c b v : Int) (u : Bool) : cleatref10_digit.j4 (k + 1) c b v u = some (if (if u = true then (c - 65) % 256 + 10 else v) ≥ b then -1 else (if u = true then (c - 65) % 256 + 10 else v)) := by
  rw [cleatref10_digit.j4]
  cases u
  · simp only [Bool.false_eq_true, if_false]; split <;> rfl
  · simp only [if_true]; split <;> rfl
theorem refdigit_j3 (k : Nat) (c b v : Int) : cleatref10_digit.j3 (k + 2) c b v = some (if (if 65 ≤ c ∧ c ≤ 70 then (c - 65) % 256 + 10 else v) ≥ b then -1 else (if 65 ≤ c ∧ c ≤ 70 then (c - 65) % 256 + 10 else v)) := by
  rw [cleatref10_digit.j3]
  by_cases h : c ≥ 65
  · rw [if_pos h, refdigit_j4]
    by_cases h2 : c ≤ 70
    · simp only [h2, h, decide_true, if_true, and_self]
    · simp only [h2, decide_false, Bool.false_eq_true, if_false, and_false]
  · rw [if_neg h, refdigit_j4]
    have h' : ¬ 65 ≤ c := by omega
    simp only [h', Bool.false_eq_true, if_false, false_and]
theorem refdigit_j1 (k : Nat) (c b v : Int) : cleatref10_digit.j1 (k + 2) c b v = cleatref10_digit.j3 k c b (if 97 ≤ c ∧ c ≤ 102 then (c - 97) % 256 + 10 else v) := by
  rw [cleatref10_digit.j1]
  by_cases h : c ≥ 97
  · rw [if_pos h]
    rw [cleatref10_digit.j2]
    by_cases h2 : c ≤ 102
    · simp only [h2, h, decide_true, if_true, and_self]
    · simp only [h2, decide_false, Bool.false_eq_true, if_false, and_false]
  · rw [if_neg h]
    rw [cleatref10_digit.j2]
    have h' : ¬ 97 ≤ c := by omega
    simp only [h', Bool.false_eq_true, if_false, false_and]
theorem refdigit_spec (k : Nat) (c b : Int) (hk : 5 ≤ k) (hc0 : 0 ≤ c) (hc : c < 256) (hb : 0 ≤ b) : cleatref10_digit.f k c b = some (if num_dig c < b then num_dig c else -1) := by
  obtain ⟨k, rfl⟩ := Nat.exists_eq_add_of_le hk
  rw [show 5 + k = k + 1 + 1 + 1 + 1 + 1 by omega]
  have e : cleatref10_digit.f (k + 1 + 1 + 1 + 1 + 1) c b = cleatref10_digit.j1 (k + 2 + 2) c b (if 48 ≤ c ∧ c ≤ 57 then (c - 48) % 256 else -1) := by
    unfold cleatref10_digit.f
    by_cases h : c ≥ 48
    · rw [if_pos h]
      rw [cleatref10_digit.j0]
      by_cases h2 : c ≤ 57
      · simp only [h2, h, decide_true, if_true, and_self]
      · simp only [h2, decide_false, Bool.false_eq_true, if_false, and_false]
    · rw [if_neg h]
      rw [cleatref10_digit.j0]
      have h' : ¬ 48 ≤ c := by omega
      simp only [h', Bool.false_eq_true, if_false, false_and]
  rw [e, refdigit_j1, refdigit_j3]
  congr 1
  unfold num_dig
  by_cases h1 : 48 ≤ c ∧ c ≤ 57
  · rw [if_pos h1, if_neg (show ¬ (97 ≤ c ∧ c ≤ 102) by omega), if_neg (show ¬ (65 ≤ c ∧ c ≤ 70) by omega), if_pos h1]
    split <;> split <;> omega
  · by_cases h2 : 97 ≤ c ∧ c ≤ 102
    · rw [if_neg h1, if_pos h2, if_neg (show ¬ (65 ≤ c ∧ c ≤ 70) by omega), if_neg h1, if_pos h2]
      split <;> split <;> omega
    · by_cases h3 : 65 ≤ c ∧ c ≤ 70
      · rw [if_neg h1, if_neg h2, if_pos h3, if_neg h1, if_neg h2, if_pos h3]
        split <;> split <;> omega
      · rw [if_neg h1, if_neg h2, if_neg h3, if_neg h1, if_neg h2, if_neg h3]
        split <;> split <;> omega
theorem bt_at (s : ByteArray) (i : Nat) (h : i < s.size) : bt s (i : Int) = ((s.data.toList[i]'(by simpa using h)).toNat : Int) := by
  unfold bt
  rw [dif_pos (by simpa using h)]
  simp only [Int.toNat_natCast]
  rfl
theorem drop_at (s : ByteArray) (i : Nat) (h : i < s.size) : s.data.toList.drop i = (s.data.toList[i]'(by simpa using h)) :: s.data.toList.drop (i + 1) := List.drop_eq_getElem_cons (by simpa using h)
theorem byte_lt (c : UInt8) : (c.toNat : Int) < 256 := by have := c.toNat_lt; omega
theorem refdig_ok {b : Nat} {c : UInt8} (k : Nat) (hk : 5 ≤ k) (h : okd b c = true) : cleatref10_digit.f k (c.toNat : Int) (b : Int) = some (num_dig (c.toNat : Int)) := by
  rw [refdigit_spec k _ _ hk (by omega) (byte_lt c) (by omega), if_pos ((okd_iff b c).1 h).2]
theorem refdig_not {b : Nat} {c : UInt8} (k : Nat) (hk : 5 ≤ k) (h : ¬ okd b c = true) : cleatref10_digit.f k (c.toNat : Int) (b : Int) = some (-1) := by
  rw [refdigit_spec k _ _ hk (by omega) (byte_lt c) (by omega)]
  rw [okd_iff] at h
  by_cases h2 : num_dig (c.toNat : Int) < (b : Int)
  · rw [if_pos h2, dig_neg _ (by omega)]
  · rw [if_neg h2]
/-- The document's second run over the digits. -/
theorem ref_l1 {b : Nat} (hb : b = 10 ∨ b = 16) (s : ByteArray) (hs : s.size ≤ 100000) : ∀ (d i k v : Nat), i + d = s.size → d + 6 ≤ k → (s.data.toList.drop i).all (okd b) = true → v < 18446744073709551616 →
    cleatref10_Value.l1 k s (b : Int) (v : Int) (i : Int) = some (if 18446744073709551616 ≤ numF b (s.data.toList.drop i) v then ((0 : Int), (4 : Int)) else (((numF b (s.data.toList.drop i) v : Nat) : Int), 0))
  | d, i, 0, v, h, hk, ha, hv => by omega
  | 0, i, k + 1, v, h, hk, ha, hv => by
    rw [cleatref10_Value.l1]
    rw [if_neg (by omega), List.drop_eq_nil_of_le (by simp; omega), show numF b [] v = v from rfl, if_neg (by omega)]
  | d + 1, i, k + 1, v, h, hk, ha, hv => by
    rw [drop_at s i (by omega)] at ha ⊢
    have hc := (Bool.and_eq_true _ _).mp (by simpa using ha : (okd b (s.data.toList[i]'(by simp; omega)) && (s.data.toList.drop (i + 1)).all (okd b)) = true)
    have hd := (okd_iff b _).1 hc.1
    have h15 := dig_lt ((s.data.toList[i]'(by simp; omega)).toNat : Int)
    generalize hce : (s.data.toList[i]'(by simp; omega)) = c at *
    have hdd : num_dig (c.toNat : Int) = ((num_dig (c.toNat : Int)).toNat : Int) := by omega
    show _ = some (if 18446744073709551616 ≤ numF b (s.data.toList.drop (i + 1)) (v * b + (num_dig (c.toNat : Int)).toNat) then _ else (((numF b (s.data.toList.drop (i + 1)) (v * b + (num_dig (c.toNat : Int)).toNat) : Nat) : Int), 0))
    rw [cleatref10_Value.l1]
    rw [if_pos (by omega), if_pos (by omega), bt_at s i (by omega), hce, refdig_ok k (by omega) hc.1, Option.bind_some]
    generalize (num_dig (c.toNat : Int)).toNat = e at *
    rw [hdd] at h15 hd ⊢
    have hw : IntKind.u64.wrap (e : Int) = e := u64_self _ (by omega) (by omega)
    have hwb : IntKind.u64.wrap (b : Int) = b := u64_self _ (by omega) (by omega)
    have ho := over_iff hb (v : Int) e (by omega) (by omega) (by omega) (by omega)
    have ht : IntKind.u64.wrap (Int.tdiv (IntKind.u64.wrap (18446744073709551615 - (e : Int))) (b : Int)) = IntKind.u64.wrap (18446744073709551615 - (e : Int)) / (b : Int) := by
      have hz : IntKind.u64.wrap (18446744073709551615 - (e : Int)) = 18446744073709551615 - (e : Int) := u64_self _ (by omega) (by omega)
      rw [hz, Int.tdiv_eq_ediv_of_nonneg (by omega)]
      rcases hb with rfl | rfl <;> exact u64_self _ (by omega) (by omega)
    rw [hw, hwb, if_neg (by omega), ht]
    by_cases hg : 18446744073709551616 ≤ v * b + e
    · have hm := numF_le (b := b) (by omega) (s.data.toList.drop (i + 1)) (v * b + e)
      rw [if_pos (by show _ < _; exact ho.2 (by omega)), if_pos (by omega)]
    · have e1 : (b : Int) * (v : Int) = ((v * b : Nat) : Int) := by push_cast; exact Int.mul_comm _ _
      have e2 : IntKind.u64.wrap (IntKind.u64.wrap ((b : Int) * (v : Int)) + (e : Int)) = ((v * b + e : Nat) : Int) := by
        rw [e1, u64_self ((v * b : Nat) : Int) (by omega) (by omega), u64_self _ (by omega) (by omega)]
        push_cast; rfl
      rw [if_neg (by intro hh; have := ho.1 hh; omega), e2, wrap64_self _ (by omega) (by omega), show (i : Int) + 1 = ((i + 1 : Nat) : Int) by omega]
      exact ref_l1 hb s hs d (i + 1) k (v * b + e) (by omega) (by omega) hc.2 (by omega)
/-- The document's first run. -/
theorem ref_l0 {b : Nat} (hb : b = 10 ∨ b = 16) (s : ByteArray) (hs : s.size ≤ 100000) : ∀ (d i k : Nat), i + d = s.size → d + s.size + 7 ≤ k →
    cleatref10_Value.l0 k s (b : Int) (i : Int) = if (s.data.toList.drop i).all (okd b) = true then cleatref10_Value.l1 (k - d - 1) s (b : Int) 0 0 else some (0, 3)
  | d, i, 0, h, hk => by omega
  | 0, i, k + 1, h, hk => by
    rw [cleatref10_Value.l0]
    rw [if_neg (by omega), List.drop_eq_nil_of_le (by simp; omega), if_pos (by simp)]
    rfl
  | d + 1, i, k + 1, h, hk => by
    rw [drop_at s i (by omega), List.all_cons]
    rw [cleatref10_Value.l0]
    rw [if_pos (by omega), if_pos (by omega), bt_at s i (by omega)]
    generalize hce : (s.data.toList[i]'(by simp; omega)) = c
    by_cases hc : okd b c = true
    · have hd := (okd_iff b _).1 hc
      rw [refdig_ok k (by omega) hc, Option.bind_some, if_neg (by omega), wrap64_self _ (by omega) (by omega), show (i : Int) + 1 = ((i + 1 : Nat) : Int) by omega,
        ref_l0 hb s hs d (i + 1) k (by omega) (by omega), hc, Bool.true_and, show k + 1 - (d + 1) - 1 = k - d - 1 by omega]
    · rw [refdig_not k (by omega) hc, Option.bind_some, if_pos (by decide), if_neg (by simp [hc])]
theorem ref_j1 {b : Nat} (hb : b = 10 ∨ b = 16) (s : ByteArray) (hs : s.size ≤ 100000) (k : Nat) (hk : 2 * s.size + 8 ≤ k) : cleatref10_Value.j1 k s (b : Int) = some (valB b s.data.toList) := by
  obtain ⟨k, rfl⟩ := Nat.exists_eq_add_of_le hk
  rw [show 2 * s.size + 8 + k = 2 * s.size + 7 + k + 1 by omega]
  rw [cleatref10_Value.j1]
  unfold valB
  by_cases h0 : s.data.toList = []
  · have : s.size = 0 := by have := congrArg List.length h0; simpa using this
    rw [if_pos (by omega), if_pos h0]
  · have : s.size ≠ 0 := by
      intro e
      apply h0
      apply List.eq_nil_of_length_eq_zero
      simpa using e
    rw [if_neg (by omega), if_neg h0, show (0 : Int) = ((0 : Nat) : Int) from rfl, ref_l0 hb s hs s.size 0 _ (by omega) (by omega), List.drop_zero]
    by_cases ha : s.data.toList.all (okd b) = true
    · rw [if_pos ha, if_pos ha]
      have := ref_l1 hb s hs s.size 0 (2 * s.size + 7 + k - s.size - 1) 0 (by omega) (by omega) (by rw [List.drop_zero]; exact ha) (by decide)
      rw [List.drop_zero] at this
      exact this
    · rw [if_neg ha, if_neg ha]; rfl
theorem ref_value_eq (s : ByteArray) (hs : s.size ≤ 100000) (k : Nat) (hk : 2 * s.size + 9 ≤ k) : cleatref10_Value.f k s = some (valL s.data.toList) := by
  obtain ⟨k, rfl⟩ := Nat.exists_eq_add_of_le hk
  rw [show 2 * s.size + 9 + k = 2 * s.size + 8 + k + 1 by omega]
  have hj : ∀ (u : Bool), cleatref10_Value.j0 (2 * s.size + 8 + k + 1) s 10 u = if u = true then (if 2 ≤ (s.size : Int) then cleatref10_Value.j1 (2 * s.size + 8 + k) (s.extract 2 s.size) 16 else none) else cleatref10_Value.j1 (2 * s.size + 8 + k) s 10 := by
    intro u; rw [cleatref10_Value.j0]
  have hno := ref_j1 (.inl rfl) s hs (2 * s.size + 8 + k) (by omega)
  have hyes := ref_j1 (.inr rfl) (s.extract 2 s.size) (by rw [ByteArray.size_extract]; omega) (2 * s.size + 8 + k) (by rw [ByteArray.size_extract]; omega)
  have e : (s.extract 2 s.size).data.toList = s.data.toList.drop 2 := by
    rw [Lib.extract_data, List.take_of_length_le (by simp)]
  rw [e] at hyes
  have hl : s.data.toList.length = s.size := by simp
  unfold cleatref10_Value.f valL
  match hm : s.data.toList with
  | [] =>
    rw [hm] at hl
    simp at hl
    rw [if_neg (by omega), hj, if_neg (by decide), if_neg (by simp), ← hm]
    exact hno
  | [x] =>
    rw [hm] at hl
    simp at hl
    rw [if_neg (by omega), hj, if_neg (by decide), if_neg (by simp), ← hm]
    exact hno
  | x :: y :: m =>
    rw [hm] at hl
    simp at hl
    have b0 : bt s 0 = (x.toNat : Int) := by rw [show (0 : Int) = ((0 : Nat) : Int) from rfl, bt_at s 0 (by omega)]; simp [hm]
    have b1 : bt s 1 = (y.toNat : Int) := by rw [show (1 : Int) = ((1 : Nat) : Int) from rfl, bt_at s 1 (by omega)]; simp [hm]
    have tox : ∀ (z : UInt8) (n : UInt8), (z.toNat : Int) = (n.toNat : Int) ↔ z = n := fun z n => ⟨fun h => UInt8.toNat_inj.1 (by omega), fun h => by rw [h]⟩
    rw [if_pos (by omega), if_pos (by omega), b0, b1]
    by_cases hx : x = 48
    · subst hx
      rw [if_pos (by decide), if_pos (by omega), hj]
      by_cases hy : y = 120
      · subst hy
        rw [if_pos (by decide), if_pos (by omega), if_pos (by simp), ← hm]
        exact hyes
      · rw [if_neg (by intro h; exact hy ((tox y 120).1 (by simpa using h))), if_neg (by simp [hy]), ← hm]
        exact hno
    · rw [if_neg (by intro h; exact hx ((tox x 48).1 h)), hj, if_neg (by decide), if_neg (by simp [hx]), ← hm]
      exact hno

-- what is written
theorem dg_dig : ∀ d : Fin 16, num_dig ((num_dg d.val).toNat : Int) = (d.val : Int) := by decide +kernel
theorem dg_dig' (d : Nat) (h : d < 16) : num_dig ((num_dg d).toNat : Int) = (d : Int) := dg_dig ⟨d, h⟩
theorem digs_ok {b : Nat} (hb : b = 10 ∨ b = 16) : ∀ (n v : Nat), v ≤ n → (num_digs b v).all (okd b) = true ∧ numF b (num_digs b v) 0 = v
  | n, v, h => by
    by_cases hv : v < b
    · rw [num_digs_less hv]
      have e := dg_dig' v (by omega)
      constructor
      · rw [List.all_cons, List.all_nil, Bool.and_true]
        exact (okd_iff b _).2 (by rw [e]; omega)
      · show 0 * b + (num_dig ((num_dg v).toNat : Int)).toNat = v
        rw [e]; omega
    · match n, h with
      | 0, h => omega
      | n + 1, h =>
        have hd : v / b < v := Nat.div_lt_self (by omega) (by omega)
        have ih := digs_ok hb n (v / b) (by omega)
        have hm : v % b < b := Nat.mod_lt _ (by omega)
        have e := dg_dig' (v % b) (by omega)
        rw [num_digs_step (by omega) (by omega)]
        constructor
        · rw [List.all_append, ih.1, List.all_cons, List.all_nil, Bool.and_true, Bool.true_and]
          exact (okd_iff b _).2 (by rw [e]; omega)
        · rw [numF_app, ih.2]
          show v / b * b + (num_dig ((num_dg (v % b)).toNat : Int)).toNat = v
          rw [e, Int.toNat_natCast]
          exact Nat.div_add_mod' v b
theorem digs_head {b : Nat} (hb : b = 10 ∨ b = 16) : ∀ (n v : Nat), v ≤ n → ∃ l, num_digs b v = num_dg (if v = 0 then 0 else 1) :: l ∨ (0 < v ∧ ∃ d, 0 < d ∧ d < 16 ∧ num_digs b v = num_dg d :: l)
  | n, v, h => by
    by_cases hv : v < b
    · rw [num_digs_less hv]
      by_cases h0 : v = 0
      · exact ⟨[], .inl (by rw [if_pos h0, h0])⟩
      · exact ⟨[], .inr ⟨by omega, v, by omega, by omega, rfl⟩⟩
    · match n, h with
      | 0, h => omega
      | n + 1, h =>
        have hd : v / b < v := Nat.div_lt_self (by omega) (by omega)
        have hp : 0 < v / b := Nat.div_pos (by omega) (by omega)
        obtain ⟨l, ih⟩ := digs_head hb n (v / b) (by omega)
        rw [num_digs_step (by omega) (by omega)]
        rcases ih with ih | ⟨_, d, d0, d1, ih⟩
        · rw [if_neg (by omega)] at ih
          exact ⟨l ++ [num_dg (v % b)], .inr ⟨by omega, 1, by omega, by omega, by rw [ih]; rfl⟩⟩
        · exact ⟨l ++ [num_dg (v % b)], .inr ⟨by omega, d, d0, d1, by rw [ih]; rfl⟩⟩
theorem dg_48 : ∀ d : Fin 16, (num_dg d.val = 48) ↔ d.val = 0 := by decide +kernel
/-- A number's first digit is 0 just if the number is. -/
theorem digs_first {b : Nat} (hb : b = 10 ∨ b = 16) (v : Nat) : ∃ c l, num_digs b v = c :: l ∧ (c = 48 ↔ v = 0) := by
  obtain ⟨l, h⟩ := digs_head hb v v (Nat.le_refl v)
  rcases h with h | ⟨h0, d, d0, d1, h⟩
  · refine ⟨_, l, h, ?_⟩
    by_cases hv : v = 0
    · rw [if_pos hv]; exact ⟨fun _ => hv, fun _ => by decide⟩
    · rw [if_neg hv]; exact ⟨fun hh => absurd hh (by decide), fun hh => absurd hh hv⟩
  · refine ⟨_, l, h, ?_⟩
    have := dg_48 ⟨d, d1⟩
    exact ⟨fun hh => by have := this.1 hh; simp at this; omega, fun hh => by omega⟩
/-- Digits to base ten do not begin as a hex number does. -/
theorem ten_no_x (l : List UInt8) (h : l.all (okd 10) = true) : l.take 2 ≠ [48, 120] := by
  match l with
  | [] => simp
  | [x] => simp
  | x :: y :: m =>
    intro e
    have hy : y = 120 := by simp at e; exact e.2
    subst hy
    rw [List.all_cons, List.all_cons, show okd 10 120 = false by decide] at h
    simp at h
theorem valL_ten (l : List UInt8) (h : l.all (okd 10) = true) (hn : l ≠ []) : valL l = if 18446744073709551616 ≤ numF 10 l 0 then ((0 : Int), (4 : Int)) else (((numF 10 l 0 : Nat) : Int), 0) := by
  unfold valL valB
  rw [if_neg (ten_no_x l h), if_neg hn, if_pos h]
theorem valL_digs10 (v : Nat) (hv : v < 18446744073709551616) : valL (num_digs 10 v) = ((v : Int), 0) := by
  have h := digs_ok (.inl rfl) v v (Nat.le_refl v)
  rw [valL_ten _ h.1 (num_digs_ne 10 v), h.2, if_neg (by omega)]
theorem valL_digs16 (v : Nat) (hv : v < 18446744073709551616) : valL (48 :: 120 :: num_digs 16 v) = ((v : Int), 0) := by
  have h := digs_ok (.inr rfl) v v (Nat.le_refl v)
  unfold valL
  rw [if_pos (by simp), show (48 :: 120 :: num_digs 16 v).drop 2 = num_digs 16 v from rfl]
  unfold valB
  rw [if_neg (num_digs_ne 16 v), if_pos h.1, h.2, if_neg (by omega)]

def textB (v : Nat) : ByteArray := ⟨(num_digs 10 v).toArray⟩
def hexB (v : Nat) : ByteArray := ⟨#[48, 120]⟩ ++ ⟨(num_digs 16 v).toArray⟩
theorem textB_data (v : Nat) : (textB v).data.toList = num_digs 10 v := rfl
theorem hexB_data (v : Nat) : (hexB v).data.toList = 48 :: 120 :: num_digs 16 v := by unfold hexB; rw [ndata_app]; rfl
theorem textB_size (v : Nat) : (textB v).size = (num_digs 10 v).length := rfl
theorem hexB_size (v : Nat) : (hexB v).size = 2 + (num_digs 16 v).length := by unfold hexB; rw [ByteArray.size_append]; rfl
theorem text_eq (v : Nat) (hv : v < 18446744073709551616) : num_Text.f (v : Int) = some (textB v) := by
  unfold num_Text.f strconv_FormatUint_24.f
  rw [if_pos ⟨.inl rfl, by omega, by omega⟩, Option.bind_some, Int.toNat_natCast]; rfl
theorem hex_eq (v : Nat) (hv : v < 18446744073709551616) : num_Hex.f (v : Int) = some (hexB v) := by
  unfold num_Hex.f strconv_FormatUint_24.f
  have hl := num_digs_64 (.inr rfl) hv
  rw [if_pos ⟨.inr rfl, by omega, by omega⟩, Option.bind_some, Int.toNat_natCast]
  show (if 2 + (num_digs 16 v).length ≤ _ then _ else _) = _
  rw [if_pos (by omega)]; rfl
theorem reftext_eq (v : Nat) (hv : v < 18446744073709551616) : cleatref10_Text.f (v : Int) = some (textB v) := by
  unfold cleatref10_Text.f cleatref10_write.f
  rw [if_pos ⟨.inl rfl, by omega, by omega⟩, Option.bind_some, Int.toNat_natCast]; rfl
theorem refhex_eq (v : Nat) (hv : v < 18446744073709551616) : cleatref10_Hex.f (v : Int) = some (hexB v) := by
  unfold cleatref10_Hex.f cleatref10_write.f
  have hl := num_digs_64 (.inr rfl) hv
  rw [if_pos ⟨.inr rfl, by omega, by omega⟩, Option.bind_some, Int.toNat_natCast]
  show (if 2 + (num_digs 16 v).length ≤ _ then _ else _) = _
  rw [if_pos (by omega)]; rfl

-- signs and sums
def signedV (m : Bool) (v : Int) : Int × Int := if m = true then (if v ≤ 9223372036854775808 then (-v, 0) else (0, 4)) else if v < 9223372036854775808 then (v, 0) else (0, 4)
def ofV (n : Int) : Bool × Int := (decide (n < 0), if n < 0 then -n else n)
def sumV (a n : Int) : Int × Int := if 0 ≤ a + n ∧ a + n < 18446744073709551616 then (a + n, 0) else (0, 4)
theorem signedV_t (v : Int) : signedV true v = if v ≤ 9223372036854775808 then (-v, 0) else (0, 4) := rfl
theorem signedV_f (v : Int) : signedV false v = if v < 9223372036854775808 then (v, 0) else (0, 4) := rfl
theorem signed_eq (k : Nat) (m : Bool) (v : Int) (v0 : 0 ≤ v) (v1 : v < 18446744073709551616) : num_Signed.f (k + 1) m v = some (signedV m v) := by
  cases m
  · have e : num_Signed.f (k + 1) false v = if v < 9223372036854775808 then some (wrap64 v, 0) else some (0, 4) := by
      unfold num_Signed.f; rw [num_Signed.j0]; rfl
    rw [e, signedV_f]
    by_cases h : v < 9223372036854775808
    · rw [if_pos h, if_pos h, wrap64_self _ (by omega) (by omega)]
    · rw [if_neg h, if_neg h]
  · have e : num_Signed.f (k + 1) true v = if decide (v ≤ 9223372036854775808) = true then some (wrap64 (IntKind.u64.wrap (-v)), 0) else some (0, 4) := by
      unfold num_Signed.f; rw [num_Signed.j0]; rfl
    rw [e, signedV_t]
    by_cases h : v ≤ 9223372036854775808
    · have e : wrap64 (IntKind.u64.wrap (-v)) = -v := by rw [IntKind.wrap_u64]; unfold wrap64; omega
      rw [if_pos (decide_eq_true h), if_pos h, e]
    · rw [if_neg (by simpa using h), if_neg h]
theorem refsigned_eq (k : Nat) (m : Bool) (v : Int) (v0 : 0 ≤ v) (v1 : v < 18446744073709551616) : cleatref10_Signed.f (k + 2) m v = some (signedV m v) := by
  cases m
  · have e : cleatref10_Signed.f (k + 2) false v = if decide (v < 9223372036854775808) = true then some (wrap64 v, 0) else some (0, 4) := by
      unfold cleatref10_Signed.f; rw [cleatref10_Signed.j0, cleatref10_Signed.j1]; rfl
    rw [e, signedV_f]
    by_cases h : v < 9223372036854775808
    · rw [if_pos (decide_eq_true h), if_pos h, wrap64_self _ (by omega) (by omega)]
    · rw [if_neg (by simpa using h), if_neg h]
  · have e : cleatref10_Signed.f (k + 2) true v = if decide (v < 9223372036854775808) = true then some (wrap64 (-(wrap64 v)), 0) else if v = 9223372036854775808 then some (-9223372036854775808, 0) else some (0, 4) := by
      unfold cleatref10_Signed.f; rw [cleatref10_Signed.j0, cleatref10_Signed.j1]; rfl
    rw [e, signedV_t]
    by_cases h : v < 9223372036854775808
    · rw [if_pos (decide_eq_true h), if_pos (by omega), wrap64_self v (by omega) (by omega), wrap64_self _ (by omega) (by omega)]
    · rw [if_neg (by simpa using h)]
      by_cases h2 : v = 9223372036854775808
      · rw [if_pos h2, if_pos (by omega), h2]
      · rw [if_neg h2, if_neg (by omega)]
theorem of_eq (n : Int) (n0 : -9223372036854775808 ≤ n) (n1 : n < 9223372036854775808) : num_Of.f n = some (ofV n) := by
  unfold num_Of.f ofV
  have e : IntKind.u64.wrap (-(IntKind.u64.wrap n)) = if n = 0 then 0 else if n < 0 then -n else 18446744073709551616 - n := by
    rw [IntKind.wrap_u64, IntKind.wrap_u64]; repeat' split <;> omega
  by_cases h : n < 0
  · rw [if_pos h, if_pos h, decide_eq_true h, e, if_neg (by omega), if_pos h]
  · rw [if_neg h, if_neg h, decide_eq_false h, u64_self _ (by omega) (by omega)]
theorem refof_eq (n : Int) (n0 : -9223372036854775808 ≤ n) (n1 : n < 9223372036854775808) : cleatref10_Of.f n = some (ofV n) := by
  unfold cleatref10_Of.f ofV
  by_cases h : n < 0
  · rw [if_neg (by omega), if_pos h, decide_eq_true h]
    by_cases h2 : n = -9223372036854775808
    · rw [if_pos h2, h2]; rfl
    · rw [if_neg h2, wrap64_self _ (by omega) (by omega), u64_self _ (by omega) (by omega)]
  · rw [if_pos (by omega), if_neg h, decide_eq_false h, u64_self _ (by omega) (by omega)]
theorem sum_wrap (a n : Int) (a0 : 0 ≤ a) (a1 : a < 18446744073709551616) (n0 : -9223372036854775808 ≤ n) (n1 : n < 9223372036854775808) :
    IntKind.u64.wrap (a + (IntKind.u64.wrap n)) = if a + n < 0 then a + n + 18446744073709551616 else if a + n < 18446744073709551616 then a + n else a + n - 18446744073709551616 := by
  rw [IntKind.wrap_u64, IntKind.wrap_u64]; repeat' split <;> omega
theorem sum_eq (a n : Int) (a0 : 0 ≤ a) (a1 : a < 18446744073709551616) (n0 : -9223372036854775808 ≤ n) (n1 : n < 9223372036854775808) : num_Sum.f a n = some (sumV a n) := by
  unfold num_Sum.f sumV
  rw [of_eq n n0 n1, Option.bind_some, sum_wrap a n a0 a1 n0 n1]
  unfold ofV
  by_cases h : n < 0
  · rw [if_pos (decide_eq_true h), if_pos h]
    by_cases h2 : -n > a
    · rw [if_pos h2, if_neg (by omega)]
    · rw [if_neg h2, if_neg (show ¬ a + n < 0 by omega), if_pos (show a + n < 18446744073709551616 by omega), if_pos (by omega)]
  · rw [if_neg (by simpa using h), if_neg (show ¬ a + n < 0 by omega)]
    by_cases h2 : a + n < 18446744073709551616
    · rw [if_pos h2, if_neg (show ¬ a + n < a by omega), if_pos (by omega)]
    · rw [if_neg h2, if_pos (show a + n - 18446744073709551616 < a by omega), if_neg (by omega)]
theorem refsum_eq (k : Nat) (a n : Int) (a0 : 0 ≤ a) (a1 : a < 18446744073709551616) (n0 : -9223372036854775808 ≤ n) (n1 : n < 9223372036854775808) : cleatref10_Sum.f (k + 1) a n = some (sumV a n) := by
  unfold cleatref10_Sum.f sumV
  rw [refof_eq n n0 n1, Option.bind_some]
  unfold ofV
  simp only [cleatref10_Sum.j0]
  rw [u64_self (18446744073709551615 - a) (by omega) (by omega)]
  by_cases h : n < 0
  · simp only [h, decide_true, if_true]
    by_cases h2 : -n > a
    · rw [if_pos h2, if_neg (show ¬ (0 ≤ a + n ∧ a + n < 18446744073709551616) by omega)]
    · rw [if_neg h2, if_pos (show 0 ≤ a + n ∧ a + n < 18446744073709551616 by omega), u64_self _ (by omega) (by omega), Int.sub_neg]; rfl
  · simp only [h, decide_false, if_false, Bool.false_eq_true]
    by_cases h2 : a + n < 18446744073709551616
    · rw [if_neg (by simp; omega), if_pos (by omega), u64_self _ (by omega) (by omega)]
    · rw [if_pos (by simp; omega), if_neg (by omega)]

theorem val_lits : valL [48, 120, 70, 102] = (255, 0) ∧ valL [48, 49, 56] = (18, 0) ∧ valL [49, 56, 52, 52, 54, 55, 52, 52, 48, 55, 51, 55, 48, 57, 53, 53, 49, 54, 49, 54] = (0, 4) ∧ valL [48, 120] = (0, 3) := by decide +kernel
theorem hex255 : (hexB 255).data.toList = [48, 120, 102, 102] := by
  rw [hexB_data, num_digs_step (by decide) (by decide), num_digs_less (by decide)]; decide
theorem text0 : (textB 0).data.toList = [48] := by rw [textB_data, num_digs_less (by decide)]; decide
theorem counted_ok (k : Nat) : cleatlaw10_counted.f (k + 2) = some true := by
  unfold cleatlaw10_counted.f
  rw [value_eq _ (by decide), Option.bind_some, value_eq _ (by decide), Option.bind_some, value_eq _ (by decide), Option.bind_some, value_eq _ (by decide), Option.bind_some, val_lits.1, val_lits.2.1, val_lits.2.2.1, val_lits.2.2.2,
    signed_eq (k + 1) _ _ (by decide) (by decide), Option.bind_some, of_eq _ (by decide) (by decide), Option.bind_some, sum_eq _ _ (by decide) (by decide) (by decide) (by decide), Option.bind_some, sum_eq _ _ (by decide) (by decide) (by decide) (by decide), Option.bind_some,
    if_pos rfl, if_pos rfl, if_pos rfl, if_pos rfl, if_pos rfl, if_pos rfl, if_pos (by decide), if_pos (by decide), if_pos (by decide), if_pos (by decide), if_pos (by decide), if_pos (by decide), if_pos (by decide),
    show (255 : Int) = ((255 : Nat) : Int) from rfl, hex_eq 255 (by decide), Option.bind_some, ByteArray.toList_eq, hex255, if_pos rfl, show (0 : Int) = ((0 : Nat) : Int) from rfl, text_eq 0 (by decide), Option.bind_some, ByteArray.toList_eq, text0]
  rfl
end Go.Proofs.YtfajpcinmpbhgaaDoor.M
