/- Each operation is one of those of its name; those of a name rise, and have it: the Go law answers true. -/
import Derived.Test.YtbklmlbmbnnjkaaDoorRx20
import Derived.Test.YtbklmlbmbnnjkaaDoorMInstE
namespace Go.Proofs.YtbklmlbmbnnjkaaDoor.Pure
open Go.RowKit Go.Proofs.YtbklmlbmbnnjkaaDoor.R Go.Proofs.YtbklmlbmbnnjkaaDoorW.PrintWords Go.Proofs.YtbklmlbmbnnjkaaDoorW.PrintLast Go.Proofs.YtbklmlbmbnnjkaaDoor.M
set_option linter.unusedVariables false

theorem rd_nat (l : List Int) (i : Nat) (h : i < l.length) : rd l (i : Int) = l[i] := by
  show l.getD ((i : Int).toNat) 0 = l[i]
  rw [Int.toNat_natCast, List.getD_eq_getElem?_getD, List.getElem?_eq_getElem h]
  rfl
theorem back_l1 (op : Int) (name : ByteArray) (hs : shapeN op ≠ 0) (m : List Int) (hm : m = inst_opsL name 40 []) : ∀ (n i k : Nat), m.length - i = n → i ≤ m.length → 2 * n + 900 ≤ k → cleatlaw04_InstBack.l1 k op name true m (i : Int) = some true
  | 0, i, k, hn, hi, hk => by
    obtain ⟨k, rfl⟩ : ∃ q, k = q + 1 := ⟨k - 1, by omega⟩
    simp only [cleatlaw04_InstBack.l1]
    have := shapeN_le op
    rw [if_neg (by omega), shaped_at k (by omega), Option.bind_some, if_pos rfl, if_pos trivial, shape_at, Option.bind_some, if_pos (by omega), Option.bind_some, decide_eq_true (by omega)]
  | n + 1, i, k, hn, hi, hk => by
    obtain ⟨k, rfl⟩ : ∃ q, k = q + 2 := ⟨k - 2, by omega⟩
    have hl := opsL_len name 40 []
    have hl' : m.length ≤ 40 := by rw [hm]; simpa using hl
    have hsp := ops_spec name
    rw [← hm] at hsp
    have hmem : m[i]'(by omega) ∈ m := List.getElem_mem _
    obtain ⟨j, hj, h1, h2, h3⟩ := (hsp.2 _).1 hmem
    have hsj : shapeN (m[i]'(by omega)) ≠ 0 := by rw [hj]; intro h0; exact (shapeN_zero _).1 h0 ⟨by omega, by omega⟩
    have hw : wrap64 ((i : Int) + 1) = ((i + 1 : Nat) : Int) := by rw [w64s _ (by omega) (by omega)]; omega
    have hj2 : cleatlaw04_InstBack.j2 (k + 1) op name true m (i : Int) false = some true := by
      simp only [cleatlaw04_InstBack.j2]
      rw [if_neg (by decide), hw]
      exact back_l1 op name hs m hm n (i + 1) k (by omega) (by omega) (by omega)
    simp only [cleatlaw04_InstBack.l1]
    rw [if_pos (by omega), if_pos (by omega), rd_nat m i (by omega), name_at, if_neg hsj, Option.bind_some, if_pos rfl, if_pos (by rw [hj]; exact h3)]
    by_cases h0 : (i : Int) > 0
    · have hlt := List.pairwise_iff_getElem.1 hsp.1 (i - 1) i (by omega) (by omega) (by omega)
      rw [if_pos h0, w64s _ (by omega) (by omega), if_pos (by omega), if_pos (by omega), show ((i : Int) - 1) = ((i - 1 : Nat) : Int) by omega, rd_nat m (i - 1) (by omega), decide_eq_false (by omega)]
      exact hj2
    · rw [if_neg h0]; exact hj2
theorem back_l0 (op : Int) (name : ByteArray) (hs : shapeN op ≠ 0) (l : List Int) (hll : l.length ≤ 40) : ∀ (n i k : Nat) (b : Bool), l.length - i = n → i ≤ l.length → 2 * n + 1000 ≤ k → (b = true ∨ op ∈ l.drop i) → cleatlaw04_InstBack.l0 k op name b l (i : Int) = some true
  | 0, i, k, b, hn, hi, hk, hb => by
    obtain ⟨k, rfl⟩ : ∃ q, k = q + 1 := ⟨k - 1, by omega⟩
    have hb' : b = true := by
      rcases hb with h | h
      · exact h
      · rw [List.drop_eq_nil_of_le (by omega)] at h; simp at h
    subst hb'
    simp only [cleatlaw04_InstBack.l0]
    rw [if_neg (by omega)]
    have e : inst_Ops.f name = some (inst_opsL name 40 []) := rfl
    have hl := opsL_len name 40 []
    rw [e, Option.bind_some]
    exact back_l1 op name hs _ rfl (inst_opsL name 40 []).length 0 k (by omega) (by omega) (by simp at hl; omega)
  | n + 1, i, k, b, hn, hi, hk, hb => by
    obtain ⟨k, rfl⟩ : ∃ q, k = q + 1 := ⟨k - 1, by omega⟩
    have hw : wrap64 ((i : Int) + 1) = ((i + 1 : Nat) : Int) := by rw [w64s _ (by omega) (by omega)]; omega
    have hd : l.drop i = l[i]'(by omega) :: l.drop (i + 1) := List.drop_eq_getElem_cons (by omega)
    simp only [cleatlaw04_InstBack.l0]
    rw [if_pos (by omega), hw]
    cases b
    · rw [if_neg (by decide), if_pos (by omega), rd_nat l i (by omega)]
      refine back_l0 op name hs l hll n (i + 1) k _ (by omega) (by omega) (by omega) ?_
      rw [hd] at hb
      rcases hb with h | h
      · cases h
      · rcases List.mem_cons.1 h with h | h
        · exact .inl (by rw [h]; exact beq_self_eq_true _)
        · exact .inr h
    · rw [if_pos rfl]
      exact back_l0 op name hs l hll n (i + 1) k true (by omega) (by omega) (by omega) (.inl rfl)
theorem InstBack : cleatlaw04_InstBack.Pure := by
  intro op name _ _
  refine ⟨1200, ?_⟩
  unfold cleatlaw04_InstBack.f
  rw [name_at]
  by_cases hs : shapeN op = 0
  · rw [if_pos hs, Option.bind_some, if_neg (by decide), shaped_at 1200 (by omega), Option.bind_some, if_pos rfl, if_pos (by decide +kernel), shape_at, hs, Option.bind_some, if_pos (by rfl)]
    have h := (shapeN_zero op).1 hs
    by_cases h1 : op < 1
    · rw [if_pos h1]
    · rw [if_neg h1, decide_eq_true (by omega)]
  · have h1 : 1 ≤ op ∧ op ≤ 39 := Classical.byContradiction fun hn => hs ((shapeN_zero op).2 hn)
    have e : inst_Ops.f (inst_name op.toNat) = some (inst_opsL (inst_name op.toNat) 40 []) := rfl
    have hl := opsL_len (inst_name op.toNat) 40 []
    have hl' : (inst_opsL (inst_name op.toNat) 40 []).length ≤ 40 := by simpa using hl
    rw [if_neg hs, Option.bind_some, if_pos rfl, e, Option.bind_some]
    refine back_l0 op name hs _ hl' (inst_opsL (inst_name op.toNat) 40 []).length 0 1200 false (by omega) (by omega) (by omega) (.inr ?_)
    rw [List.drop_zero]
    exact ((ops_spec _).2 op).2 ⟨op.toNat, by omega, by omega, by omega, rfl⟩
end Go.Proofs.YtbklmlbmbnnjkaaDoor.Pure
