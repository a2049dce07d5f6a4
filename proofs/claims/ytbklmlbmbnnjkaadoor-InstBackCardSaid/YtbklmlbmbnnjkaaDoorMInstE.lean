/- Names of operations: what the program tells (chapter 4). -/
import Derived.Test.YtbklmlbmbnnjkaaDoorMInstD
import Derived.Test.YtbklmlbmbnnjkaaDoorRx19
namespace Go.Proofs.YtbklmlbmbnnjkaaDoor.M
open Go.RowKit Go.Proofs.YtbklmlbmbnnjkaaDoor.R Go.Proofs.YtbklmlbmbnnjkaaDoorW.PrintWords Go.Proofs.YtbklmlbmbnnjkaaDoorW.PrintLast Go.Proofs.YtbklmlbmbnnjkaaDoorW.PrintMore
set_option linter.unusedVariables false
set_option linter.unusedSimpArgs false

theorem opsL_len (name : ByteArray) : ∀ (d : Nat) (out : List Int), (inst_opsL name d out).length ≤ out.length + d
  | 0, out => by simp [inst_opsL]
  | d + 1, out => by
    unfold inst_opsL
    refine Nat.le_trans (opsL_len name d _) ?_
    split <;> simp <;> omega
/-- What the operations of a name are. -/
theorem opsL_spec (name : ByteArray) : ∀ (d : Nat) (out : List Int), d ≤ 40 → out.Pairwise (· < ·) → (∀ x ∈ out, ∃ i : Nat, x = i ∧ 1 ≤ i ∧ i < 40 - d ∧ (inst_name i).toList = name.toList) →
    (inst_opsL name d out).Pairwise (· < ·) ∧ (∀ x, x ∈ inst_opsL name d out ↔ x ∈ out ∨ ∃ i : Nat, x = i ∧ 1 ≤ i ∧ 40 - d ≤ i ∧ i < 40 ∧ (inst_name i).toList = name.toList)
  | 0, out, hd, hp, ho => ⟨hp, fun x => ⟨fun h => .inl h, fun h => by
      rcases h with h | ⟨i, _, _, h1, h2, _⟩
      · exact h
      · omega⟩⟩
  | d + 1, out, hd, hp, ho => by
    rw [show inst_opsL name (d + 1) out = inst_opsL name d (if 0 < 39 - d ∧ (inst_name (39 - d)).toList = name.toList then out ++ [((39 - d : Nat) : Int)] else out) from rfl]
    by_cases hn : 0 < 39 - d ∧ (inst_name (39 - d)).toList = name.toList
    · rw [if_pos hn]
      have := opsL_spec name d (out ++ [((39 - d : Nat) : Int)]) (by omega) (by
        refine List.pairwise_append.2 ⟨hp, by simp, fun x hx y hy => ?_⟩
        obtain ⟨i, rfl, _, h2, _⟩ := ho x hx
        obtain rfl := List.mem_singleton.1 hy
        omega) (by
        intro x hx
        rcases List.mem_append.1 hx with hx | hx
        · obtain ⟨i, e, h1, h2, h3⟩ := ho x hx
          exact ⟨i, e, h1, by omega, h3⟩
        · obtain rfl := List.mem_singleton.1 hx
          exact ⟨39 - d, rfl, by omega, by omega, hn.2⟩)
      refine ⟨this.1, fun x => (this.2 x).trans ?_⟩
      constructor
      · rintro (h | ⟨i, e, h1, h2, h3, h4⟩)
        · rcases List.mem_append.1 h with h | h
          · exact .inl h
          · obtain rfl := List.mem_singleton.1 h
            exact .inr ⟨39 - d, rfl, by omega, by omega, by omega, hn.2⟩
        · exact .inr ⟨i, e, h1, by omega, h3, h4⟩
      · rintro (h | ⟨i, e, h1, h2, h3, h4⟩)
        · exact .inl (List.mem_append_left _ h)
        · by_cases hi : i = 39 - d
          · subst hi; subst e; exact .inl (by simp)
          · exact .inr ⟨i, e, h1, by omega, h3, h4⟩
    · rw [if_neg hn]
      have := opsL_spec name d out (by omega) hp (by
        intro x hx
        obtain ⟨i, e, h1, h2, h3⟩ := ho x hx
        exact ⟨i, e, h1, by omega, h3⟩)
      refine ⟨this.1, fun x => (this.2 x).trans ?_⟩
      constructor
      · rintro (h | ⟨i, e, h1, h2, h3, h4⟩)
        · exact .inl h
        · exact .inr ⟨i, e, h1, by omega, h3, h4⟩
      · rintro (h | ⟨i, e, h1, h2, h3, h4⟩)
        · exact .inl h
        · by_cases hi : i = 39 - d
          · subst hi; exact absurd ⟨by omega, h4⟩ hn
          · exact .inr ⟨i, e, h1, by omega, h3, h4⟩
theorem ops_spec (name : ByteArray) : (inst_opsL name 40 []).Pairwise (· < ·) ∧ (∀ x, x ∈ inst_opsL name 40 [] ↔ ∃ i : Nat, x = i ∧ 1 ≤ i ∧ i < 40 ∧ (inst_name i).toList = name.toList) := by
  have := opsL_spec name 40 [] (by omega) (by simp) (by simp)
  refine ⟨this.1, fun x => (this.2 x).trans ?_⟩
  constructor
  · rintro (h | ⟨i, e, h1, h2, h3, h4⟩)
    · simp at h
    · exact ⟨i, e, h1, h3, h4⟩
  · rintro ⟨i, e, h1, h3, h4⟩
    exact .inr ⟨i, e, h1, by omega, h3, h4⟩
end Go.Proofs.YtbklmlbmbnnjkaaDoor.M
