/- A near relocation's value stays where both places move: the Go law answers true for every kind and places. -/
import Derived.Test.YtkpkkjbigndnoaaDoorMFixB
import Derived.Test.YtkpkkjbigndnoaaDoorPx18
namespace Go.Proofs.YtkpkkjbigndnoaaDoor.Pure
open Go.RowKit Go.Proofs.YtkpkkjbigndnoaaDoor.P Go.Proofs.YtkpkkjbigndnoaaDoorW.PrintWords Go.Proofs.YtkpkkjbigndnoaaDoorW.PrintLast Go.Proofs.YtkpkkjbigndnoaaDoorW.PrintMore Go.Proofs.YtkpkkjbigndnoaaDoor.M
set_option linter.unusedVariables false
set_option linter.unusedSimpArgs false
theorem moved_far (a b y : Int) : IntKind.u64.wrap (IntKind.u64.wrap (b + y) - IntKind.u64.wrap (a + y)) = IntKind.u64.wrap (b - a) := by
  simp only [IntKind.wrap_u64]
  omega
theorem moved_pages (a b y : Int) (hy : y % 4096 = 0) (a0 : 0 ≤ a) (a1 : a < 18446744073709551616) (b0 : 0 ≤ b) (b1 : b < 18446744073709551616) (y0 : 0 ≤ y) (y1 : y < 18446744073709551616) :
    IntKind.u64.wrap ((IntKind.u64.wrap (b + y) - IntKind.u64.wrap (b + y) % 4096) - (IntKind.u64.wrap (a + y) - IntKind.u64.wrap (a + y) % 4096)) = IntKind.u64.wrap ((b - b % 4096) - (a - a % 4096)) := by
  simp only [IntKind.wrap_u64]
  omega
theorem moved_val (j a b y : Int) (hj : 2 ≤ j ∧ j ≤ 6) (hy : j = 6 → y % 4096 = 0) (a0 : 0 ≤ a) (a1 : a < 18446744073709551616) (b0 : 0 ≤ b) (b1 : b < 18446744073709551616) (y0 : 0 ≤ y) (y1 : y < 18446744073709551616) :
    ∃ p, fix_Value.f j a b = some p ∧ fix_Value.f j (IntKind.u64.wrap (a + y)) (IntKind.u64.wrap (b + y)) = some p := by
  have ha : 0 ≤ IntKind.u64.wrap (a + y) ∧ IntKind.u64.wrap (a + y) < 18446744073709551616 := by rw [IntKind.wrap_u64]; omega
  have hb : 0 ≤ IntKind.u64.wrap (b + y) ∧ IntKind.u64.wrap (b + y) < 18446744073709551616 := by rw [IntKind.wrap_u64]; omega
  have e : valN j (IntKind.u64.wrap (a + y)) (IntKind.u64.wrap (b + y)) = valN j a b := by
    unfold valN
    by_cases h6 : j < 6
    · rw [if_pos h6, if_pos h6, moved_far]
    · rw [if_neg h6, if_neg h6, if_pos (by omega), if_pos (by omega), moved_pages a b y (hy (by omega)) a0 a1 b0 b1 y0 y1]
  have hv : fix_Value.f j (IntKind.u64.wrap (a + y)) (IntKind.u64.wrap (b + y)) = fix_Value.f j a b := by
    unfold fix_Value.f
    rw [val_at j a b a0 a1 b0 b1, val_at j _ _ ha.1 ha.2 hb.1 hb.2, e, if_neg (show ¬ j = 1 by omega), if_neg (show ¬ j = 1 by omega)]
  rcases value_at j a b (by omega) a0 a1 b0 b1 with ⟨_, h⟩ | ⟨_, x, _, h⟩
  · exact ⟨_, h, by rw [hv]; exact h⟩
  · exact ⟨_, h, by rw [hv]; exact h⟩
theorem FixMoved : cleatlaw26_FixMoved.Pure := by
  intro a0 a1 a2 a3 w0 w1 w2 w3
  have b1 : 0 ≤ a1 ∧ a1 < 18446744073709551616 := by simp [Lit.wf, IntKind.min, IntKind.max, IntKind.bits, IntKind.signed] at w1; omega
  have b2 : 0 ≤ a2 ∧ a2 < 18446744073709551616 := by simp [Lit.wf, IntKind.min, IntKind.max, IntKind.bits, IntKind.signed] at w2; omega
  have b3 : 0 ≤ a3 ∧ a3 < 18446744073709551616 := by simp [Lit.wf, IntKind.min, IntKind.max, IntKind.bits, IntKind.signed] at w3; omega
  refine ⟨300, ?_⟩
  have key : ∀ y, (a0 = 6 → y % 4096 = 0) → 0 ≤ y → y < 18446744073709551616 → 2 ≤ a0 ∧ a0 ≤ 6 → cleatlaw26_FixMoved.j1 299 a0 a1 a2 y = some true := by
    intro y hy y0 y1 hj
    obtain ⟨p, h1, h2⟩ := moved_val a0 a1 a2 y hj hy b1.1 b1.2 b2.1 b2.2 y0 y1
    simp [cleatlaw26_FixMoved.j1, h1, h2, fixed_at 298 (by decide)]
  unfold cleatlaw26_FixMoved.f
  by_cases h2 : a0 < 2
  · rw [if_pos h2]
    simp [cleatlaw26_FixMoved.j0, fixed_at 299 (by decide)]
  · rw [if_neg h2]
    by_cases h6 : a0 > 6
    · have : (6 : Int) < a0 := h6
      simp [cleatlaw26_FixMoved.j0, fixed_at 299 (by decide), this]
    · have hd : decide (a0 > 6) = false := by simpa using h6
      rw [hd]
      simp only [cleatlaw26_FixMoved.j0]
      rw [if_neg (by decide)]
      by_cases h7 : a0 = 6
      · rw [if_pos h7]
        refine key _ (fun _ => ?_) ?_ ?_ (by omega)
        all_goals rw [Int.tmod_eq_emod_of_nonneg b3.1, IntKind.wrap_u64]
        all_goals omega
      · rw [if_neg h7]
        exact key a3 (fun e => absurd e h7) b3.1 b3.2 (by omega)
end Go.Proofs.YtkpkkjbigndnoaaDoor.Pure
