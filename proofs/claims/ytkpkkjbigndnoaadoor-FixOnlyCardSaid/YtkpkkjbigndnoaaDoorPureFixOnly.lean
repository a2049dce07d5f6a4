/- Only a word's number is turned: the Go law answers true for every kind, word and places. -/
import Derived.Test.YtkpkkjbigndnoaaDoorMFixB
import Derived.Test.YtkpkkjbigndnoaaDoorPx18
namespace Go.Proofs.YtkpkkjbigndnoaaDoor.Pure
open Go.RowKit Go.Proofs.YtkpkkjbigndnoaaDoor.P Go.Proofs.YtkpkkjbigndnoaaDoorW.PrintWords Go.Proofs.YtkpkkjbigndnoaaDoorW.PrintLast Go.Proofs.YtkpkkjbigndnoaaDoorW.PrintMore Go.Proofs.YtkpkkjbigndnoaaDoor.M
set_option linter.unusedVariables false
set_option linter.unusedSimpArgs false
theorem FixOnly : cleatlaw26_FixOnly.Pure := by
  intro a0 a1 a2 a3 w0 w1 w2 w3
  have b1 : 0 ≤ a1 ∧ a1 < 4294967296 := by simp [Lit.wf, IntKind.min, IntKind.max, IntKind.bits, IntKind.signed] at w1; omega
  have b2 : 0 ≤ a2 ∧ a2 < 18446744073709551616 := by simp [Lit.wf, IntKind.min, IntKind.max, IntKind.bits, IntKind.signed] at w2; omega
  have b3 : 0 ≤ a3 ∧ a3 < 18446744073709551616 := by simp [Lit.wf, IntKind.min, IntKind.max, IntKind.bits, IntKind.signed] at w3; omega
  obtain ⟨W, rfl⟩ := Int.eq_ofNat_of_zero_le b1.1
  refine ⟨1001, ?_⟩
  have hx := fixed_at 1001 (by decide)
  have hx9 := fixed_at 1000 (by decide)
  unfold cleatlaw26_FixOnly.f
  rcases word_at a0 a2 a3 W (by omega) b2.1 b2.2 b3.1 b3.2 with ⟨c, X, hf, j2, j9, hv, hval, hw, hX, him, hD, hE⟩ | ⟨e, he, hw, hr⟩
  · have hrg := val_range a0 a2 a3 b3.1
    replace hw := fix_Word.mono _ _ _ _ 1000 _ hw
    replace hf := part_Fits.mono _ _ 1000 _ hf
    replace hD := code_Decode.mono _ 1000 _ hD
    simp only [Nat.reduceAdd] at hw hf hD
    rw [hw, Option.bind_some, hval, Option.bind_some, hf, Option.bind_some, if_pos rfl, hD, Option.bind_some, if_pos rfl, if_pos rfl, if_pos (show (tup { c with im := valN a0 a2 a3 } 0).2.2.2.2.2.2.2.2.2.2 = 0 from rfl)]
    have hne : ((tup { c with im := valN a0 a2 a3 } 0).2.2.2.2.2.1 != wrap64 (IntKind.u64.wrap (valN a0 a2 a3))) = false := by
      rw [back64 _ hrg.1 hrg.2]
      simp [tup]
    simp only [hne]
    simp only [cleatlaw26_FixOnly.j0]
    rw [if_neg (by decide)]
    simp only [tup]
    rw [hE, Option.bind_some, hx9, Option.bind_some, if_pos rfl, if_pos rfl]
    simp
  · replace hw := fix_Word.mono _ _ _ _ 1000 _ hw
    simp only [Nat.reduceAdd] at hw
    rw [hw, Option.bind_some]
    rcases hr with hf | ⟨hf, hval⟩
    all_goals replace hf := part_Fits.mono _ _ 1000 _ hf
    all_goals simp only [Nat.reduceAdd] at hf
    · obtain ⟨p, hp⟩ : ∃ p, fix_Value.f a0 a2 a3 = some p := by
        by_cases hj : 2 ≤ a0 ∧ a0 ≤ 9
        · rcases value_at a0 a2 a3 hj b2.1 b2.2 b3.1 b3.2 with ⟨_, h⟩ | ⟨_, x, _, h⟩
          · exact ⟨_, h⟩
          · exact ⟨_, h⟩
        · by_cases h1 : a0 = 1
          · subst h1; exact ⟨_, rfl⟩
          · exact ⟨_, value_bad a0 a2 a3 (by omega)⟩
      rw [hp, Option.bind_some, hf, Option.bind_some, if_neg he, hx, Option.bind_some, if_pos rfl, if_pos rfl, if_neg (by decide)]
    · rw [hval, Option.bind_some, hf, Option.bind_some, if_neg he, hx, Option.bind_some, if_pos rfl, if_pos rfl, if_pos rfl]
      simp
end Go.Proofs.YtkpkkjbigndnoaaDoor.Pure
