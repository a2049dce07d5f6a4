/- Relocations (chapter 26): a word that is turned, there and back. -/
import Derived.Test.YtkpkkjbigndnoaaDoorMFixA
namespace Go.Proofs.YtkpkkjbigndnoaaDoor.M
open Go.RowKit Go.Proofs.YtkpkkjbigndnoaaDoor.P Go.Proofs.YtkpkkjbigndnoaaDoorW.PrintWords Go.Proofs.YtkpkkjbigndnoaaDoorW.PrintLast Go.Proofs.YtkpkkjbigndnoaaDoorW.PrintMore
set_option linter.unusedVariables false
set_option linter.unusedSimpArgs false
/-- A word that a kind fits, as an instruction; or it does not fit. -/
theorem fits_at (j : Int) (W : Nat) (hW : W < 4294967296) : part_Fits.f 1000 j (W : Int) = some false ∨
    (∃ (c : CI) (mk : Bool), part_Fits.f 1000 j (W : Int) = some true ∧ code_Decode.f 1000 (W : Int) = some (tup c 0) ∧ CI.is 1000 c = some true ∧ isB c mk = true ∧ code_Encode.f 1000 c.o c.d c.n c.m c.a c.im c.ms c.sh c.am c.cd = some ((W : Int), 0) ∧ c.im = 0 ∧ j ≠ 0 ∧ part_kinds.getD c.o.toNat 0 = j ∧ 0 ≤ c.ms ∧ c.ms < 18446744073709551616 ∧ 2 ≤ j ∧ j ≤ 9) := by
  rcases back_all W hW with hd | ⟨c, hd, hi, he, ho, m0, m1⟩
  · left
    unfold part_Fits.f
    rw [hd, Option.bind_some]
    rfl
  · obtain ⟨mk, t, hi2, hm⟩ := is_all c m0 m1
    have hb : isB c mk = true := by rw [hi] at hi2; exact (Option.some.inj hi2).symm
    obtain ⟨o1, o2⟩ := o_of c mk hb
    have hF : part_Fits.f 1000 j (W : Int) = (if c.im = 0 then if c.am = 0 then if j = 0 then some false else (part_kindOf.f c.o).bind fun t => some (t == j) else some false else some false) := by
      unfold part_Fits.f
      rw [hd]
      rfl
    by_cases h1 : c.im = 0
    · rw [if_pos h1] at hF
      by_cases h2 : c.am = 0
      · rw [if_pos h2] at hF
        by_cases h3 : j = 0
        · rw [if_pos h3] at hF; exact .inl hF
        · rw [if_neg h3] at hF
          unfold part_kindOf.f at hF
          rw [if_pos (by omega), Option.bind_some] at hF
          by_cases h4 : part_kinds.getD c.o.toNat 0 = j
          · right
            have hk := kinds_fin ⟨c.o.toNat, by omega⟩
            simp only [h4] at hk
            exact ⟨c, mk, by rw [hF, h4]; simp, hd, hi, hb, he, h1, h3, h4, m0, m1, by omega, by omega⟩
          · left
            have : (part_kinds.getD c.o.toNat 0 == j) = false := by simpa using h4
            rw [hF, this]
      · rw [if_neg h2] at hF; exact .inl hF
    · rw [if_neg h1] at hF; exact .inl hF
theorem enc_of (c : CI) (mk : Bool) (m0 : 0 ≤ c.ms) (m1 : c.ms < 18446744073709551616) (hb : isB c mk = true) (h3 : shapeN c.o ≠ 3) :
    ∃ W : Nat, W < 4294967296 ∧ code_Encode.f 1000 c.o c.d c.n c.m c.a c.im c.ms c.sh c.am c.cd = some ((W : Int), 0) ∧ code_Decode.f 1000 (W : Int) = some (tup c 0) := by
  obtain ⟨mk2, t, hi2, hm⟩ := is_all c m0 m1
  have hb2 : isB c mk2 = true := by
    unfold isB okB at hb ⊢
    simpa [h3] using hb
  rw [hb2] at hi2
  obtain ⟨e1, e2, e3, e4⟩ := enc_at 1000 (by decide) c mk2 t hi2 hb2 (fun e => absurd e h3)
  obtain ⟨d1, -⟩ := dec_at 1000 (by decide) c mk2 t (wordC c t) hi2 hb2 (fun e => absurd e h3) e2 e3 e4
  exact ⟨_, e2, e1, d1⟩
/-- A word that is turned. -/
theorem word_at (j a b : Int) (W : Nat) (hW : W < 4294967296) (a0 : 0 ≤ a) (a1 : a < 18446744073709551616) (b0 : 0 ≤ b) (b1 : b < 18446744073709551616) :
    (∃ (c : CI) (X : Nat) , part_Fits.f 1000 j (W : Int) = some true ∧ 2 ≤ j ∧ j ≤ 9 ∧ okV j (valN j a b) = true ∧ fix_Value.f j a b = some (IntKind.u64.wrap (valN j a b), 0) ∧ fix_Word.f 1000 j (W : Int) a b = some ((X : Int), 0) ∧ X < 4294967296 ∧ c.im = 0 ∧
      code_Decode.f 1000 (X : Int) = some (tup { c with im := valN j a b } 0) ∧ code_Encode.f 1000 c.o c.d c.n c.m c.a 0 c.ms c.sh c.am c.cd = some ((W : Int), 0)) ∨
    (∃ e, e ≠ 0 ∧ fix_Word.f 1000 j (W : Int) a b = some (0, e) ∧ (part_Fits.f 1000 j (W : Int) = some false ∨ part_Fits.f 1000 j (W : Int) = some true ∧ fix_Value.f j a b = some (0, e))) := by
  rcases fits_at j W hW with hf | ⟨c, mk, hf, hd, hi, hb, he, him, hj0, hk, m0, m1, j2, j9⟩
  · right
    by_cases hj : 2 ≤ j ∧ j ≤ 9
    · refine ⟨11, by decide, ?_, .inl hf⟩
      unfold fix_Word.f
      rw [if_pos hj, hf, Option.bind_some, if_neg (by decide)]
    · refine ⟨1, by decide, ?_, .inl hf⟩
      unfold fix_Word.f
      rw [if_neg hj]
  · rcases value_at j a b ⟨j2, j9⟩ a0 a1 b0 b1 with ⟨hv, hval⟩ | ⟨hv, e, he0, hval⟩
    · left
      have hr := val_range j a b b0
      have hok := turned_ok c mk hb him j (valN j a b) hk hj0 hv (fun h7 => val_low j a b h7 b0)
      obtain ⟨o1, o2⟩ := o_of c mk hb
      have hs := kinds_shape ⟨c.o.toNat, by omega⟩ (by simp only; rw [hk]; exact hj0)
      simp only [show ((c.o.toNat : Nat) : Int) = c.o by omega] at hs
      obtain ⟨X, hX, hE, hD⟩ := enc_of { c with im := valN j a b } mk m0 m1 hok hs.2.1
      refine ⟨c, X, hf, j2, j9, hv, hval, ?_, hX, him, hD, by rw [him] at he; exact he⟩
      unfold fix_Word.f
      rw [if_pos ⟨j2, j9⟩, hf, Option.bind_some, if_pos rfl, hval, Option.bind_some, if_pos rfl, hd, Option.bind_some, if_pos (show (tup c 0).2.2.2.2.2.2.2.2.2.2 = 0 from rfl), back64 _ hr.1 hr.2]
      exact hE
    · right
      refine ⟨e, he0, ?_, .inr ⟨hf, hval⟩⟩
      unfold fix_Word.f
      rw [if_pos ⟨j2, j9⟩, hf, Option.bind_some, if_pos rfl, hval, Option.bind_some, if_neg he0]
theorem fixed_bytes : fix_Apply.f 250 2 (⟨#[0, 0, 0, 148]⟩ : ByteArray) 64 56 = some (⟨#[254, 255, 255, 151]⟩, 0) := by decide +kernel
theorem fixed_none : (fix_Apply.f 250 2 (⟨#[0, 0, 0, 0]⟩ : ByteArray) 64 56).map (·.2) = some 11 := by decide +kernel
theorem fixed_goal : fix_Goal.f 250 2 (⟨#[254, 255, 255, 151]⟩ : ByteArray) 64 = some (56, 0) := by decide +kernel
theorem fixed_one : cleatlaw26_fixed.f 250 = some true := by
  unfold cleatlaw26_fixed.f
  obtain ⟨q, hq, hq2⟩ := Option.map_eq_some_iff.1 fixed_none
  rw [show fix_Value.f 6 8192 4100 = some (18446744073709551615, 0) by decide +kernel, Option.bind_some, show fix_Value.f 2 0 2 = some (0, 5) by decide +kernel, Option.bind_some, show fix_Value.f 3 0 1048576 = some (0, 4) by decide +kernel, Option.bind_some,
    fixed_bytes, Option.bind_some, fixed_goal, Option.bind_some, hq, Option.bind_some, show fix_Value.f 0 0 0 = some (0, 1) by decide +kernel, Option.bind_some, if_pos rfl, if_pos rfl, if_pos rfl, if_pos rfl, if_pos rfl, if_pos (by rw [ByteArray.toList_eq]), if_pos rfl, if_pos rfl, if_pos hq2]
  rfl
theorem fixed_at : ∀ k, 250 ≤ k → cleatlaw26_fixed.f k = some true
  | 0, h => by omega
  | k + 1, h => by
    by_cases hk : k + 1 = 250
    · rw [hk]; exact fixed_one
    · exact cleatlaw26_fixed.mono k true (fixed_at k (by omega))
end Go.Proofs.YtkpkkjbigndnoaaDoor.M
