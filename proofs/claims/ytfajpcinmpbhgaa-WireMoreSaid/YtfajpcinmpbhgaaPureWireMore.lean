/- A beginning of what is put asks for more: the Go law answers true. -/
import Derived.Test.YtfajpcinmpbhgaaPx2
import Derived.Test.YtfajpcinmpbhgaaMWireC
namespace Go.Proofs.Ytfajpcinmpbhgaa.Pure
open Go.RowKit Go.Proofs.Ytfajpcinmpbhgaa.P Go.Proofs.YtfajpcinmpbhgaaW.PrintWords Go.Proofs.YtfajpcinmpbhgaaW.PrintLast Go.Proofs.Ytfajpcinmpbhgaa.M

theorem WireMore : cleatlaw18_WireMore.Pure := by
  intro a0 a1 a2 w0 w1 w2
  have b0 := bounds_u64 w0
  obtain ⟨v, rfl⟩ := Int.eq_ofNat_of_zero_le b0.1
  refine ⟨201, ?_⟩
  unfold cleatlaw18_WireMore.f
  by_cases hs : (a1.size : Int) > 2000
  · rw [if_pos hs]
  · have jt : cleatlaw18_WireMore.j0 201 a2 (putB v) (putT a1) true = some true := by
      simp only [cleatlaw18_WireMore.j0]
      rw [if_pos trivial, sent_ok 200 (by decide)]
      rfl
    rw [if_neg hs, put_spec v (by omega), Option.bind_some, puttext_spec a1 (by omega), Option.bind_some]
    by_cases h0 : a2 < 0
    · rw [if_pos h0]; exact jt
    · rw [if_neg h0]
      by_cases h1 : a2 ≥ ((putT a1).size : Int)
      · rw [decide_eq_true h1]; exact jt
      · obtain ⟨n, rfl⟩ := Int.eq_ofNat_of_zero_le (show 0 ≤ a2 by omega)
        have hp := putT_size a1
        have h1' : n < (wire_putL a1.size).length + a1.size := by omega
        have hsl : a1.data.toList.length = a1.size := by simp
        have t3 := wire_putL_ten a1.size (by omega)
        have hsz : ((putT a1).extract 0 n).size = n := by rw [ByteArray.size_extract, hp]; omega
        have hd : ((putT a1).extract 0 n).data.toList = (wire_putL a1.size ++ a1.data.toList).take n := by rw [Lib.extract_data, putT_data, List.drop_zero, Nat.sub_zero]
        have ht : textV ((putT a1).extract 0 n) 2000 = (⟨#[]⟩, 0, 9) := by
          unfold textV
          rw [if_neg (by decide), hd]
          by_cases hn : n < (wire_putL a1.size).length
          · rw [List.take_append_of_le_length (by omega), get_more0 a1.size n (by omega) hn]
            rfl
          · have e : (wire_putL a1.size ++ a1.data.toList).take n = wire_putL a1.size ++ a1.data.toList.take (n - (wire_putL a1.size).length) := by
              rw [List.take_append, List.take_of_length_le (by omega)]
            rw [e, get_put0 a1.size _ (by omega)]
            show (if (0 : Nat) = 0 then (if (2000 : Int) < (a1.size : Int) then _ else (if (((putT a1).extract 0 n).size : Int) - ((wire_putL a1.size).length : Nat) < (a1.size : Int) then _ else _)) else _) = _
            rw [if_pos rfl, if_neg (by omega), if_pos (by rw [hsz]; omega)]
        rw [decide_eq_false h1]
        simp only [cleatlaw18_WireMore.j0]
        rw [if_neg (by decide), if_pos (by omega), if_pos (by omega), Int.toNat_natCast, gettext_spec 200 _ _ (by decide) (by rw [hsz]; omega), Option.bind_some, ht]
        by_cases hx : (n : Int) ≥ ((putB v).size : Int)
        · rw [if_pos hx, sent_ok 200 (by decide), Option.bind_some, if_pos rfl]
          rfl
        · rw [if_neg hx, if_pos (by omega), get_spec 200 _ (by decide), Option.bind_some, sent_ok 200 (by decide), Option.bind_some, if_pos rfl, if_pos rfl,
            Lib.extract_data, putB_data, List.drop_zero, Nat.sub_zero, get_more0 v n (by omega) (by rw [putB_size] at hx; omega)]
          rfl
end Go.Proofs.Ytfajpcinmpbhgaa.Pure
