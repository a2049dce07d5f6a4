/- What is put is got, whatever stands behind: the Go law answers true. -/
import Derived.Test.YtfajpcinmpbhgaaPx5
import Derived.Test.YtfajpcinmpbhgaaMWireC
namespace Go.Proofs.Ytfajpcinmpbhgaa.Pure
open Go.RowKit Go.Proofs.Ytfajpcinmpbhgaa.P Go.Proofs.YtfajpcinmpbhgaaW.PrintWords Go.Proofs.YtfajpcinmpbhgaaW.PrintLast Go.Proofs.Ytfajpcinmpbhgaa.M

theorem WireBack : cleatlaw18_WireBack.Pure := by
  intro a0 a1 a2 a3 w0 w1 w2 w3
  have b0 := bounds_u64 w0
  have b1 := bounds_i64 w1
  obtain ⟨v, rfl⟩ := Int.eq_ofNat_of_zero_le b0.1
  refine ⟨200, ?_⟩
  unfold cleatlaw18_WireBack.f
  have hw : wrap64 ((a2.size : Int) + (a3.size : Int)) = (a2.size : Int) + (a3.size : Int) := wrap64_self _ (by omega) (by omega)
  rw [hw]
  by_cases hs : (a2.size : Int) + (a3.size : Int) > 2000
  · rw [if_pos hs]
  · have hz := zig_lt a1 b1.1 b1.2
    have t1 := wire_putL_ten v (by omega)
    have t2 := wire_putL_ten (zig a1) hz
    have t3 := wire_putL_ten a2.size (by omega)
    have g1 := get_put0 v a3.data.toList (by omega)
    have g2 := get_put0 (zig a1) a3.data.toList hz
    have g3 := get_put0 a2.size (a2.data.toList ++ a3.data.toList) (by omega)
    have e1 : getL (putB v ++ a3).data.toList 0 0 = (v, (wire_putL v).length, 0) := by rw [data_app, putB_data]; exact g1
    have e2 : getL (putB (zig a1) ++ a3).data.toList 0 0 = (zig a1, (wire_putL (zig a1)).length, 0) := by rw [data_app, putB_data]; exact g2
    have e3 : getL (putT a2 ++ a3).data.toList 0 0 = (a2.size, (wire_putL a2.size).length, 0) := by rw [data_app, putT_data, List.append_assoc]; exact g3
    have hsz : (putT a2 ++ a3).size = (wire_putL a2.size).length + a2.size + a3.size := by rw [ByteArray.size_append, putT_size]
    have hsl : a2.data.toList.length = a2.size := by simp
    have ht : textV (putT a2 ++ a3) 2000 = (a2, ((wire_putL a2.size).length : Int) + a2.size, 0) := by
      unfold textV
      rw [if_neg (by decide), e3]
      show (if (0 : Nat) = 0 then (if (2000 : Int) < (a2.size : Int) then _ else (if ((putT a2 ++ a3).size : Int) - ((wire_putL a2.size).length : Nat) < (a2.size : Int) then _ else _)) else _) = _
      rw [if_pos rfl, if_neg (by omega), if_neg (by rw [hsz]; omega)]
      have : (putT a2 ++ a3).extract (wire_putL a2.size).length ((wire_putL a2.size).length + a2.size) = a2 := by
        apply bytes_eq
        rw [Lib.extract_data, data_app, putT_data, List.append_assoc, List.drop_left, Nat.add_sub_cancel_left, ← hsl, List.take_left]
      rw [this]
    rw [if_neg hs, put_spec v (by omega), Option.bind_some, putint_spec a1 b1.1 b1.2, Option.bind_some, puttext_spec a2 (by omega), Option.bind_some,
      if_pos (by rw [putB_size]; omega), get_spec 200 _ (by decide), Option.bind_some, if_pos (by rw [putB_size]; omega), getint_spec 200 _ (by decide), Option.bind_some, if_pos (by rw [putT_size]; omega), gettext_spec 200 _ _ (by decide) (by rw [hsz]; omega), Option.bind_some,
      sent_ok 200 (by decide), Option.bind_some, if_pos rfl, e1, e2, ht]
    simp [gi, putB_size, zag_zig, putT_size]
end Go.Proofs.Ytfajpcinmpbhgaa.Pure
