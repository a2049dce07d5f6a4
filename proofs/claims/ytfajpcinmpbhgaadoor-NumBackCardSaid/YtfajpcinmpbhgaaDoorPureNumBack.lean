/- The law answers true at every input (chapter 10). -/
import Derived.Test.YtfajpcinmpbhgaaDoorPx4
import Derived.Test.YtfajpcinmpbhgaaDoorMNumA
namespace Go.Proofs.YtfajpcinmpbhgaaDoor.Pure
open Go.RowKit Go.Proofs.YtfajpcinmpbhgaaDoor.P Go.Proofs.YtfajpcinmpbhgaaDoorW.PrintWords Go.Proofs.YtfajpcinmpbhgaaDoorW.PrintLast Go.Proofs.YtfajpcinmpbhgaaDoor.M
set_option linter.unusedVariables false

theorem NumBack : cleatlaw10_NumBack.Pure := by
  intro a w0
  have b0 := bounds_u64 w0
  obtain ⟨v, rfl⟩ := Int.eq_ofNat_of_zero_le b0.1
  have hv : v < 18446744073709551616 := by omega
  have l10 := num_digs_64 (.inl rfl) hv
  have l16 := num_digs_64 (.inr rfl) hv
  obtain ⟨c, l, hc, h48⟩ := digs_first (.inl rfl) v
  obtain ⟨d, m, hd, h48'⟩ := digs_first (.inr rfl) v
  have tox : ∀ (z : UInt8), ((z.toNat : Int) == 48) = decide (z = 48) := by
    intro z
    by_cases h : z = 48
    · subst h; decide
    · rw [decide_eq_false h, beq_eq_false_iff_ne]
      intro e
      exact h (UInt8.toNat_inj.1 (by show z.toNat = 48; omega))
  have s10 : (textB v).size = l.length + 1 := by rw [textB_size, hc]; rfl
  have s16 : (hexB v).size = 2 + (m.length + 1) := by rw [hexB_size, hd]; rfl
  rw [hc] at l10; rw [hd] at l16
  simp only [List.length_cons] at l10 l16
  have t0 : bt (textB v) 0 = (c.toNat : Int) := by
    rw [show (0 : Int) = ((0 : Nat) : Int) from rfl, M.bt_at _ 0 (by omega)]; simp [textB_data, hc]
  have t2 : bt (hexB v) 2 = (d.toNat : Int) := by
    rw [show (2 : Int) = ((2 : Nat) : Int) from rfl, M.bt_at _ 2 (by omega)]; simp [hexB_data, hd]
  have hz : ∀ (x : UInt8), (x = 48 ↔ v = 0) → (((v : Int) == 0) == ((x.toNat : Int) == 48)) = true := by
    intro x hx
    rw [tox]
    by_cases h : v = 0
    · subst h; rw [decide_eq_true (hx.2 rfl)]; rfl
    · rw [decide_eq_false (fun e => h (hx.1 e))]
      have : ((v : Int) == 0) = false := by rw [beq_eq_false_iff_ne]; omega
      rw [this]; rfl
  refine ⟨0 + 2, ?_⟩
  unfold cleatlaw10_NumBack.f
  rw [text_eq v hv, Option.bind_some, hex_eq v hv, Option.bind_some, value_eq _ (by omega), Option.bind_some, value_eq _ (by omega), Option.bind_some, textB_data, hexB_data, valL_digs10 v hv, valL_digs16 v hv,
    if_neg (by rw [ByteArray.toList_eq, textB_data]; exact num_digs_ne 10 v), if_neg (by omega), counted_ok 0, Option.bind_some, if_pos rfl, if_pos rfl, if_pos rfl, if_pos rfl, if_pos rfl, if_pos (by omega), t0, if_pos (hz c h48), if_pos (by omega), t2, if_pos (hz d h48'), if_pos (by omega), if_pos (by omega),
    ByteArray.toList_eq, Lib.extract_data, hexB_data]
  rfl
end Go.Proofs.YtfajpcinmpbhgaaDoor.Pure
