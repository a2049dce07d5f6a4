/- The law answers true at every input (chapter 10). -/
import Derived.Test.YtfajpcinmpbhgaaDoorPx5
import Derived.Test.YtfajpcinmpbhgaaDoorMNumA
namespace Go.Proofs.YtfajpcinmpbhgaaDoor.Pure
open Go.RowKit Go.Proofs.YtfajpcinmpbhgaaDoor.P Go.Proofs.YtfajpcinmpbhgaaDoorW.PrintWords Go.Proofs.YtfajpcinmpbhgaaDoorW.PrintLast Go.Proofs.YtfajpcinmpbhgaaDoor.M
set_option linter.unusedVariables false

theorem okd10 (c : UInt8) : okd 10 c = true ↔ 48 ≤ c.toNat ∧ c.toNat ≤ 57 := by
  rw [okd_iff]; unfold num_dig; repeat' split
  all_goals omega
theorem d10 (c : UInt8) (h : 48 ≤ c.toNat ∧ c.toNat ≤ 57) : (num_dig (c.toNat : Int)).toNat = c.toNat - 48 := by
  unfold num_dig; rw [if_pos (by omega)]; omega
theorem noughts_F (n : Nat) (l : List UInt8) : numF 10 (List.replicate n 48 ++ l) 0 = numF 10 l 0 := by
  induction n with
  | zero => rfl
  | succ n ih => exact ih
theorem noughts_ok (n : Nat) (l : List UInt8) (h : l.all (okd 10) = true) : (List.replicate n (48 : UInt8) ++ l).all (okd 10) = true := by
  rw [List.all_append, h, Bool.and_true, List.all_replicate]
  split
  · rfl
  · decide
/-- The sign behind. -/
theorem sign_at : ∀ d : Fin 10, ((⟨#[48, 49, 50, 51, 52, 53, 54, 55, 56, 57]⟩ : ByteArray).extract d.val (d.val + 1)).data.toList = [num_dg d.val] := by decide +kernel

theorem last_part (k : Nat) (s : ByteArray) (n d : Nat) (hs : s.size ≤ 100) (hn : n ≤ 30) (hd : d ≤ 9) (hall : s.data.toList.all (okd 10) = true) (t : ByteArray) (ht : t.data.toList = List.replicate n 48 ++ s.data.toList) :
    cleatlaw10_NumNoughts.l1 (k + 3) s (n : Int) (d : Int) (valL s.data.toList).1 (valL s.data.toList).2 t (n : Int) = some true := by
  have hl : s.data.toList.length = s.size := by simp
  have hts : t.size = n + s.size := by
    have := congrArg List.length ht
    simpa using this
  rw [cleatlaw10_NumNoughts.l1, if_neg (by omega), value_eq t (by omega), Option.bind_some, ht, ByteArray.toList_eq]
  by_cases h0 : s.data.toList = []
  · rw [if_pos h0, counted_ok k, Option.bind_some, if_pos rfl, h0, List.append_nil]
    have e0 : valL ([] : List UInt8) = (0, 3) := by decide
    rw [e0, if_pos rfl]
    by_cases hn0 : n = 0
    · subst hn0
      rw [List.replicate_zero, e0]; rfl
    · have hne : List.replicate n (48 : UInt8) ≠ [] := by simp [hn0]
      have hr := valL_ten (List.replicate n 48) (by have := noughts_ok n [] rfl; rwa [List.append_nil] at this) hne
      have hF := noughts_F n []
      rw [List.append_nil] at hF
      rw [hF, show numF 10 [] 0 = 0 from rfl, if_neg (by decide)] at hr
      rw [hr]
      have : ((n : Int) == 0) = false := by rw [beq_eq_false_iff_ne]; omega
      rw [this]; rfl
  · have hw : wrap64 ((d : Int) + 1) = ((d + 1 : Nat) : Int) := by rw [wrap64_self _ (by omega) (by omega)]; rfl
    have hx := sign_at ⟨d, by omega⟩
    have hxs : ((⟨#[48, 49, 50, 51, 52, 53, 54, 55, 56, 57]⟩ : ByteArray).extract d (d + 1)).size = 1 := by
      have := congrArg List.length hx
      rw [← ByteArray.size_data, ← Array.length_toList]; exact this
    have hdg := dg_dig' d (by omega)
    have hok : okd 10 (num_dg d) = true := (okd_iff 10 _).2 (by rw [hdg]; omega)
    rw [if_neg h0, if_pos (by omega), hw, if_pos (by omega), if_pos (by omega), Int.toNat_natCast, Int.toNat_natCast, if_pos (by rw [hxs]; omega), value_eq _ (by rw [ByteArray.size_append, hxs]; omega), Option.bind_some, ndata_app, hx]
    have hB := valL_ten (List.replicate n 48 ++ s.data.toList) (noughts_ok n _ hall) (by simp [h0])
    have hC := valL_ten (s.data.toList ++ [num_dg d]) (by rw [List.all_append, hall, List.all_cons, hok]; rfl) (by simp)
    have hA := valL_ten s.data.toList hall h0
    rw [noughts_F] at hB
    have hF : numF 10 (s.data.toList ++ [num_dg d]) 0 = numF 10 s.data.toList 0 * 10 + d := by
      rw [numF_app]
      show _ * 10 + (num_dig ((num_dg d).toNat : Int)).toNat = _
      rw [hdg, Int.toNat_natCast]
    rw [hF] at hC
    rw [hB, hA, hC]
    generalize numF 10 s.data.toList 0 = V
    by_cases hV : 18446744073709551616 ≤ V
    · rw [if_pos hV, if_pos (show 18446744073709551616 ≤ V * 10 + d by omega), if_neg (by decide), counted_ok k, Option.bind_some, if_pos rfl, if_pos rfl, if_pos rfl]; rfl
    · have hwd : IntKind.u64.wrap (d : Int) = d := u64_self _ (by omega) (by omega)
      have hwm : IntKind.u64.wrap (18446744073709551615 - (d : Int)) = 18446744073709551615 - d := u64_self _ (by omega) (by omega)
      have hwt : IntKind.u64.wrap (Int.tdiv (18446744073709551615 - (d : Int)) 10) = (18446744073709551615 - (d : Int)) / 10 := by
        rw [Int.tdiv_eq_ediv_of_nonneg (by omega)]; exact u64_self _ (by omega) (by omega)
      rw [if_neg hV, if_pos rfl, counted_ok k, Option.bind_some, if_pos rfl, if_pos rfl, if_pos rfl, hwd, hwm, hwt]
      by_cases hg : 18446744073709551616 ≤ V * 10 + d
      · have hg' : (V : Int) > (18446744073709551615 - (d : Int)) / 10 := by omega
        rw [if_pos hg, if_pos (by rw [decide_eq_true hg']; rfl), if_pos hg']
      · have hg' : ¬ (V : Int) > (18446744073709551615 - (d : Int)) / 10 := by omega
        rw [if_neg hg, if_pos (by rw [decide_eq_false hg']; rfl), if_neg hg', u64_self (10 * (V : Int)) (by omega) (by omega), u64_self _ (by omega) (by omega)]
        have : ((V * 10 + d : Nat) : Int) = 10 * (V : Int) + d := by omega
        show some (((V * 10 + d : Nat) : Int) == 10 * (V : Int) + d) = _
        rw [this, beq_self_eq_true]
theorem loop_part (s : ByteArray) (n d : Nat) (hs : s.size ≤ 100) (hn : n ≤ 30) (hd : d ≤ 9) (hall : s.data.toList.all (okd 10) = true) : ∀ (m i k : Nat) (t : ByteArray), i + m = n → t.data.toList = List.replicate i 48 ++ s.data.toList →
    cleatlaw10_NumNoughts.l1 (k + 3 + m) s (n : Int) (d : Int) (valL s.data.toList).1 (valL s.data.toList).2 t (i : Int) = some true
  | 0, i, k, t, hi, ht => by
    obtain rfl : i = n := by omega
    exact last_part k s i d hs hn hd hall t ht
  | m + 1, i, k, t, hi, ht => by
    have hts : t.size = i + s.size := by
      have := congrArg List.length ht
      simpa using this
    rw [show k + 3 + (m + 1) = k + 3 + m + 1 by omega, cleatlaw10_NumNoughts.l1, if_pos (by omega), if_pos (by omega), wrap64_self _ (by omega) (by omega), show (i : Int) + 1 = ((i + 1 : Nat) : Int) by omega]
    exact loop_part s n d hs hn hd hall m (i + 1) k _ (by omega) (by rw [ndata_app, ht]; rfl)
theorem scan_part (s : ByteArray) (n d : Nat) (hs : s.size ≤ 100) (hn : n ≤ 30) (hd : d ≤ 9) : ∀ (m i k : Nat), i + m = s.size → (s.data.toList.take i).all (okd 10) = true →
    cleatlaw10_NumNoughts.l0 (k + 40 + m) s (n : Int) (d : Int) (i : Int) = some true
  | 0, i, k, hi, ha => by
    rw [List.take_of_length_le (by simp; omega)] at ha
    rw [show k + 40 + 0 = k + 39 + 1 by omega, cleatlaw10_NumNoughts.l0, if_neg (by omega), value_eq s (by omega), Option.bind_some]
    have := loop_part s n d hs hn hd ha n 0 (k + 36 - n) s (by omega) (by simp)
    rw [show k + 36 - n + 3 + n = k + 39 by omega] at this
    exact this
  | m + 1, i, k, hi, ha => by
    rw [show k + 40 + (m + 1) = k + 40 + m + 1 by omega, cleatlaw10_NumNoughts.l0, if_pos (by omega), if_pos (by omega), M.bt_at s i (by omega)]
    have htk : s.data.toList.take (i + 1) = s.data.toList.take i ++ [s.data.toList[i]'(by simp; omega)] := (List.take_append_getElem (by simp; omega)).symm
    generalize (s.data.toList[i]'(by simp; omega)) = c at *
    by_cases h1 : (c.toNat : Int) < 48
    · rw [if_pos h1, show k + 40 + m = k + 38 + m + 2 by omega, counted_ok, Option.bind_some]
    · by_cases h2 : (c.toNat : Int) > 57
      · rw [if_neg h1, if_pos h2, show k + 40 + m = k + 38 + m + 2 by omega, counted_ok, Option.bind_some]
      · rw [if_neg h1, if_neg h2, wrap64_self _ (by omega) (by omega), show (i : Int) + 1 = ((i + 1 : Nat) : Int) by omega]
        exact scan_part s n d hs hn hd m (i + 1) k (by omega) (by rw [htk, List.all_append, ha, List.all_cons, (okd10 c).2 (by omega)]; rfl)
theorem NumNoughts : cleatlaw10_NumNoughts.Pure := by
  intro s n d w0 w1 w2
  refine ⟨0 + 40 + s.size + 1, ?_⟩
  have hj : ∀ (u : Bool), cleatlaw10_NumNoughts.j0 (0 + 40 + s.size + 1) s n d u = if u = true then some true else cleatlaw10_NumNoughts.l0 (0 + 40 + s.size) s n d 0 := by
    intro u
    rw [cleatlaw10_NumNoughts.j0, show 0 + 40 + s.size = 38 + s.size + 2 by omega, counted_ok, Option.bind_some]
  unfold cleatlaw10_NumNoughts.f
  have hjt := (hj true).trans (if_pos rfl)
  rw [hjt]
  by_cases h1 : (s.size : Int) > 100
  · rw [if_pos h1]
  · by_cases h2 : n < 0
    · rw [if_neg h1, if_pos h2]
    · by_cases h3 : n > 30
      · rw [if_neg h1, if_neg h2, if_pos h3]
      · by_cases h4 : d < 0
        · rw [if_neg h1, if_neg h2, if_neg h3, if_pos h4]
        · by_cases h5 : d > 9
          · rw [if_neg h1, if_neg h2, if_neg h3, if_neg h4, hj, if_pos (decide_eq_true h5)]
          · rw [if_neg h1, if_neg h2, if_neg h3, if_neg h4, hj, if_neg (by simpa using h5)]
            obtain ⟨n, rfl⟩ := Int.eq_ofNat_of_zero_le (show 0 ≤ n by omega)
            obtain ⟨d, rfl⟩ := Int.eq_ofNat_of_zero_le (show 0 ≤ d by omega)
            exact scan_part s n d (by omega) (by omega) (by omega) s.size 0 0 (by omega) (by simp)
end Go.Proofs.YtfajpcinmpbhgaaDoor.Pure
