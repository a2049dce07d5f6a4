/- Written for this claim by a program of this session: what the claim uses of lemmas and proved contracts of Go functions. -/
import Derived.Test.YtflojfcioojgbaaGreatDoorYAl7
import Derived.Lib.Strings
namespace Go.Proofs.YtflojfcioojgbaaGreatDoor.M
open Go.RowKit Go.Proofs.YtflojfcioojgbaaGreatDoor.P Go.Proofs.YtflojfcioojgbaaGreatDoorW.PrintWords Go.Proofs.YtflojfcioojgbaaGreatDoorW.PrintLast Go.Proofs.YtflojfcioojgbaaGreatDoorW.PrintMore
def putB (v : Nat) : ByteArray := ⟨(wire_putL v).toArray⟩
theorem putB_data (v : Nat) : (putB v).data.toList = wire_putL v := rfl
theorem put_spec (v : Nat) (h : v < 18446744073709551616) : wire_Put.f (v : Int) = some (putB v) := by
  unfold wire_Put.f
  rw [if_pos (by omega)]
  rfl
theorem bytes_eq {a b : ByteArray} (h : a.data.toList = b.data.toList) : a = b := by
  apply ByteArray.ext
  exact Array.toList_inj.mp h
theorem data_app (a b : ByteArray) : (a ++ b).data.toList = a.data.toList ++ b.data.toList := by rw [ByteArray.data_append, Array.toList_append]
def putT (s : ByteArray) : ByteArray := putB s.size ++ s
theorem putT_data (s : ByteArray) : (putT s).data.toList = wire_putL s.size ++ s.data.toList := by unfold putT; rw [data_app, putB_data]
theorem puttext_spec (s : ByteArray) (h : s.size ≤ 100000000000000) : wire_PutText.f s = some (putT s) := by
  unfold wire_PutText.f
  rw [if_pos (by omega)]
  exact congrArg some (bytes_eq (by rw [putT_data]))
def textV (s : ByteArray) (most : Int) : ByteArray × Int × Int :=
  if most < 0 ∨ 1000000 < most then (⟨#[]⟩, 0, 1) else
  let p := getL s.data.toList 0 0
  if p.2.2 = 0 then (if most < (p.1 : Int) then (⟨#[]⟩, 0, 2) else if (s.size : Int) - p.2.1 < (p.1 : Int) then (⟨#[]⟩, 0, 9) else (s.extract p.2.1 (p.2.1 + p.1), (p.2.1 : Int) + p.1, 0)) else (⟨#[]⟩, 0, (p.2.2 : Int))
theorem got_le (s : ByteArray) : (getL s.data.toList 0 0).2.1 ≤ s.size ∧ (getL s.data.toList 0 0).1 < 18446744073709551616 := by
  rcases get_cases0 s.data.toList with ⟨y, rest, h1, h2, h4⟩ | ⟨e, _, h4⟩
  · rw [h4]
    have := congrArg List.length h1
    simp at this
    exact ⟨by show (wire_putL y).length ≤ s.size; omega, h2⟩
  · rw [h4]; exact ⟨Nat.zero_le _, Nat.zero_lt_of_lt (Nat.lt_succ_self _)⟩
theorem gettext_spec (k : Nat) (s : ByteArray) (most : Int) (hk : 30 ≤ k) (hs : s.size ≤ 100000000000000) : wire_GetText.f k s most = some (textV s most) := by
  obtain ⟨k, rfl⟩ : ∃ m, k = m + 1 := ⟨k - 1, by omega⟩
  have hle := got_le s
  have j : ∀ b : Bool, b = decide (most < 0 ∨ 1000000 < most) → wire_GetText.j0 (k + 1) s most b = some (textV s most) := by
    intro b hb
    unfold textV
    simp only [wire_GetText.j0]
    by_cases hm : most < 0 ∨ 1000000 < most
    · rw [if_pos hm, if_pos (by rw [hb]; exact decide_eq_true hm)]
    · rw [if_neg hm, if_neg (by rw [hb, decide_eq_false hm]; decide), get_spec k s (by omega), Option.bind_some]
      generalize getL s.data.toList 0 0 = p at *
      obtain ⟨v, n, e⟩ := p
      simp only at hle ⊢
      show (if ((e : Nat) : Int) = 0 then (if ((v : Nat) : Int) > IntKind.u64.wrap most then _ else _) else _) = _
      by_cases he : e = 0
      · rw [if_pos (by omega), if_pos he, u64_self most (by omega) (by omega)]
        by_cases hv : most < (v : Int)
        · rw [if_pos hv, if_pos hv]
        · rw [if_neg hv, if_neg hv]
          show (if wrap64 ((v : Nat) : Int) > wrap64 ((s.size : Int) - ((n : Nat) : Int)) then _ else _) = _
          rw [wrap64_self (v : Int) (by omega) (by omega), wrap64_self ((s.size : Int) - (n : Int)) (by omega) (by omega)]
          by_cases hl : (s.size : Int) - n < (v : Int)
          · rw [if_pos hl, if_pos hl]
          · rw [if_neg hl, if_neg hl]
            show (if 0 ≤ ((n : Nat) : Int) then (if ((n : Nat) : Int) ≤ (s.size : Int) then (if 0 ≤ ((v : Nat) : Int) then (if ((v : Nat) : Int) ≤ ((s.extract n s.size).size : Int) then some ((s.extract n s.size).extract 0 v, wrap64 ((n : Int) + wrap64 (v : Int)), (0 : Int)) else none) else none) else none) else none) = _
            rw [if_pos (by omega), if_pos (by omega), if_pos (by omega), if_pos (by rw [ByteArray.size_extract]; omega), wrap64_self (v : Int) (by omega) (by omega), wrap64_self _ (by omega) (by omega), ByteArray.extract_extract, Nat.add_zero, Nat.min_eq_left (by omega)]
      · rw [if_neg (by omega), if_neg he]
        rfl
  unfold wire_GetText.f
  by_cases h : most < 0
  · rw [if_pos h]; exact j _ (decide_eq_true (.inl h)).symm
  · rw [if_neg h]
    refine j _ ?_
    rw [Bool.eq_iff_iff, decide_eq_true_eq, decide_eq_true_eq]; omega
theorem textV_cases (s : ByteArray) (most : Int) : (∃ e : Int, e ≠ 0 ∧ textV s most = (⟨#[]⟩, 0, e)) ∨
    (∃ y rest, s.data.toList = wire_putL y ++ rest ∧ (y : Int) ≤ most ∧ y ≤ 1000000 ∧ (wire_putL y).length + y ≤ s.size ∧ textV s most = (s.extract (wire_putL y).length ((wire_putL y).length + y), ((wire_putL y).length : Int) + y, 0)) := by
  unfold textV
  by_cases hm : most < 0 ∨ 1000000 < most
  · rw [if_pos hm]; exact .inl ⟨1, by decide, rfl⟩
  · rw [if_neg hm]
    have hle := got_le s
    rcases get_cases0 s.data.toList with ⟨y, rest, h1, h2, h4⟩ | ⟨e, he, h4⟩
    · rw [h4] at hle ⊢
      simp only [if_true] at hle ⊢
      by_cases hv : most < (y : Int)
      · rw [if_pos hv]; exact .inl ⟨2, by decide, rfl⟩
      · rw [if_neg hv]
        by_cases hl : (s.size : Int) - ((wire_putL y).length : Nat) < (y : Int)
        · rw [if_pos hl]; exact .inl ⟨9, by decide, rfl⟩
        · rw [if_neg hl]
          exact .inr ⟨y, rest, h1, by omega, by omega, by omega, rfl⟩
    · rw [h4]
      simp only
      rw [if_neg (by omega)]
      exact .inl ⟨(e : Int), by omega, rfl⟩
end Go.Proofs.YtflojfcioojgbaaGreatDoor.M
