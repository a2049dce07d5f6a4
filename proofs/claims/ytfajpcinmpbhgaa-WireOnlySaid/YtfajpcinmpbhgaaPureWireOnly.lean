/- What is got is put as it was: the Go law answers true. -/
import Derived.Test.YtfajpcinmpbhgaaPx6
import Derived.Test.YtfajpcinmpbhgaaMWireC
namespace Go.Proofs.Ytfajpcinmpbhgaa.Pure
open Go.RowKit Go.Proofs.Ytfajpcinmpbhgaa.P Go.Proofs.YtfajpcinmpbhgaaW.PrintWords Go.Proofs.YtfajpcinmpbhgaaW.PrintLast Go.Proofs.Ytfajpcinmpbhgaa.M

theorem only_j1 (k : Nat) (s : ByteArray) (most : Int) (hk : 100 ≤ k) (hs : s.size ≤ 2000) : cleatlaw18_WireOnly.j1 (k + 1) s most false = some true := by
  simp only [cleatlaw18_WireOnly.j1]
  rw [if_neg (by decide), gettext_spec k s most (by omega) (by omega), Option.bind_some, sent_ok k hk]
  rcases textV_cases s most with ⟨e, he, h⟩ | ⟨y, rest, h1, h2, h3, h4, h⟩
  · rw [h]
    simp only [Option.bind_some, if_true]
    rw [if_neg he, if_pos (by rw [ByteArray.toList_eq])]
    rfl
  · have hsz : (s.extract (wire_putL y).length ((wire_putL y).length + y)).size = y := by rw [ByteArray.size_extract]; omega
    have hpt : putT (s.extract (wire_putL y).length ((wire_putL y).length + y)) = s.extract 0 ((wire_putL y).length + y) := by
      apply bytes_eq
      rw [putT_data, hsz, Lib.extract_data, Lib.extract_data, h1, List.drop_left, List.drop_zero, Nat.sub_zero, Nat.add_sub_cancel_left, List.take_append, List.take_of_length_le (Nat.le_add_right _ _), Nat.add_sub_cancel_left]
    rw [h]
    simp only [Option.bind_some, if_true]
    rw [if_pos (by omega), if_pos (by omega), if_pos (by rw [hsz]; omega), puttext_spec _ (by rw [hsz]; omega), Option.bind_some, if_pos (by omega), show (((wire_putL y).length : Int) + (y : Int)).toNat = (wire_putL y).length + y by omega, hpt, beq_self_eq_true]
theorem only_j0 (k : Nat) (s : ByteArray) (most : Int) (hk : 100 ≤ k) (hs : s.size ≤ 2000) : cleatlaw18_WireOnly.j0 (k + 2) s most ((getL s.data.toList 0 0).2.1 : Int) ((getL s.data.toList 0 0).2.2 : Int) false = some true := by
  have hj := only_j1 k s most hk hs
  have hle := got_le s
  simp only [cleatlaw18_WireOnly.j0]
  rw [if_neg (by decide), getint_spec (k + 1) s (by omega), Option.bind_some, if_pos rfl]
  rcases get_cases0 s.data.toList with ⟨y, rest, h1, h2, h4⟩ | ⟨e, he, h4⟩
  · rw [h4] at hle ⊢
    have hle1 : (wire_putL y).length ≤ s.size := hle.1
    have hp := putL_pos y
    have hz := zag_in y h2
    show (if (0 : Int) = 0 then (if ((wire_putL y).length : Int) = ((wire_putL y).length : Int) then (if ((wire_putL y).length : Int) < 1 then _ else (if ((wire_putL y).length : Int) > (s.size : Int) then _ else ((wire_PutInt.f (zag y)).bind fun t208 => (if 0 ≤ ((wire_putL y).length : Int) then (if ((wire_putL y).length : Int) ≤ (s.size : Int) then (cleatlaw18_WireOnly.j1 (k + 1) s most (t208.toList != (s.extract 0 (((wire_putL y).length : Nat) : Int).toNat).toList)) else (none)) else (none))))) else _) else _) = _
    rw [if_pos rfl, if_pos rfl, if_neg (by omega), if_neg (by omega), putint_spec _ hz.1 hz.2, Option.bind_some, if_pos (by omega), if_pos (by omega), zig_zag, Int.toNat_natCast]
    have : putB y = s.extract 0 (wire_putL y).length := by
      apply bytes_eq
      rw [putB_data, Lib.extract_data, h1, List.drop_zero, Nat.sub_zero, List.take_left]
    rw [this, bne_self_eq_false]
    exact hj
  · rw [h4]
    show (if ((e : Nat) : Int) = 0 then _ else _) = _
    rw [if_neg (by omega)]
    exact hj
theorem WireOnly : cleatlaw18_WireOnly.Pure := by
  intro a0 a1 w0 w1
  refine ⟨102, ?_⟩
  unfold cleatlaw18_WireOnly.f
  by_cases hs : (a0.size : Int) > 2000
  · rw [if_pos hs]
  · have hj := only_j0 100 a0 a1 (by decide) (by omega)
    have hle := got_le a0
    rw [if_neg hs, get_spec 102 a0 (by decide), Option.bind_some]
    rcases get_cases0 a0.data.toList with ⟨y, rest, h1, h2, h4⟩ | ⟨e, he, h4⟩
    · rw [h4] at hle hj ⊢
      have hle1 : (wire_putL y).length ≤ a0.size := hle.1
      have hp := putL_pos y
      have ht := wire_putL_ten y h2
      show (if (0 : Int) = 0 then (if ((wire_putL y).length : Int) < 1 then _ else (if ((wire_putL y).length : Int) > (a0.size : Int) then _ else (if ((wire_putL y).length : Int) > 10 then _ else ((wire_Put.f (y : Int)).bind fun t204 => (if 0 ≤ ((wire_putL y).length : Int) then (if ((wire_putL y).length : Int) ≤ (a0.size : Int) then (cleatlaw18_WireOnly.j0 102 a0 a1 ((wire_putL y).length : Int) 0 (t204.toList != (a0.extract 0 (((wire_putL y).length : Nat) : Int).toNat).toList)) else (none)) else (none)))))) else _) = _
      rw [if_pos rfl, if_neg (by omega), if_neg (by omega), if_neg (by omega), put_spec y h2, Option.bind_some, if_pos (by omega), if_pos (by omega), Int.toNat_natCast]
      have : putB y = a0.extract 0 (wire_putL y).length := by
        apply bytes_eq
        rw [putB_data, Lib.extract_data, h1, List.drop_zero, Nat.sub_zero, List.take_left]
      rw [this, bne_self_eq_false]
      exact hj
    · rw [h4] at hj ⊢
      show (if ((e : Nat) : Int) = 0 then _ else _) = _
      rw [if_neg (by omega)]
      exact hj
end Go.Proofs.Ytfajpcinmpbhgaa.Pure
