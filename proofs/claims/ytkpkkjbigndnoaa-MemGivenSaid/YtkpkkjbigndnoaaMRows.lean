/- Slices of structs of plain fields, read as lists. -/
import Derived.Test.YtkpkkjbigndnoaaPx0
import Derived.Deep.Slices
import Derived.Deep.Fields
import Derived.ChangeSame
import Derived.ProofKit
namespace Go.Proofs.Ytkpkkjbigndnoaa.M
open Go.ChangeShapes Go.WideShapes Go.Deep Go.RowKit Go.Proofs.YtkpkkjbigndnoaaW.PrintWords Go.Proofs.YtkpkkjbigndnoaaW.PrintLast
section
variable {H : Type} {enc : TypeId × Value → H} {P : Program} {w : World} {base : Nat} {spare : Nat → Bool} {held : Bool}
/-- A slice of structs of one-cell fields (turned from the guide's own lemma): each field's cell, and its own reading. -/
theorem slice_cells {t e : TypeId} {fs : Array Field} {fuel : Nat} {A : Option Addr} {len cap : Nat} {x : DataW H × List MemPlace} (ht : P.underlying t = some (.slice e)) (he : P.underlying e = some (.struct fs))
    (hone : oneCellFields P fs = true) (hC : P.cellsOf e = fs.size) (h : DataW.trod enc P w base spare held fuel t [.slice A len cap] = some x) :
    len ≤ cap ∧ len ≤ 9223372036854775807 ∧ (0 < len → ∃ ad, A = some ad ∧ ∀ i, i < len → ∃ cs : List Value, cs.length = fs.size ∧ (∀ j u, cs[j]? = some u → w.cell? (ad.add (i * fs.size + j)) = some u) ∧
      ∀ (j : Nat) (f : Field), fs[j]? = some f → ∃ (v : Value) (n : Nat) (y : DataW H × List MemPlace), cs[j]? = some v ∧ DataW.trod enc P w base spare held n f.type [v] = some y) := by
  rcases open_slice ht h with ⟨h0, _⟩ | ⟨a, len', cap', m, n, D, Pl, hcs, hb, hl, hm, hmm, hx, hi⟩
  · simp at h0
    obtain ⟨rfl, rfl, rfl⟩ := h0
    exact ⟨Nat.le_refl _, by omega, fun h => absurd h (by omega)⟩
  · simp at hcs
    obtain ⟨rfl, rfl, rfl⟩ := hcs
    have hml : len ≤ m := by rw [hmm]; split <;> omega
    refine ⟨hl, by unfold maxLen at hm; omega, fun _ => ⟨a, rfl, fun i hil => ?_⟩⟩
    obtain ⟨cs', hc, ht'⟩ := hi i (by omega)
    rw [hC] at hc
    obtain ⟨ys, n', hn', hy, hlen, hyl, hf⟩ := DataW.trod_struct he ht'
    obtain ⟨_, hcl, hat⟩ := World.cells?_some hc
    refine ⟨cs', hcl, ?_, ?_⟩
    · intro j u hu
      have hj : j < fs.size := by have := (List.getElem?_eq_some_iff.1 hu).1; omega
      have := hat j hj
      rw [← Go.Deep.add_add, this, hu]
    · intro j f hj
      obtain ⟨ho, hk⟩ := hone_of hone j f hj
      have hjl : j < fs.size := (Array.getElem?_eq_some_iff.1 hj).1
      have hv : cs'[j]? = some (cs'[j]'(by omega)) := List.getElem?_eq_getElem (by omega)
      have h1 := hf j f hj
      rw [ho, hk] at h1
      have hone' : (cs'.drop j).take 1 = [cs'[j]'(by omega)] := by
        rw [List.drop_eq_getElem_cons (by omega)]
        rfl
      rw [hone'] at h1
      have hys : ys[j]? = some (ys[j]'(by omega)) := List.getElem?_eq_getElem (by omega)
      exact ⟨_, _, _, hv, h1.trans hys⟩
end
/-- Cells that each read as a thing make a list that is read. -/
theorem rows_of {α : Type} (d : Kd α) (Good : α → Prop) {w : World} {A : Option Addr} {len : Nat} (hm : len ≤ 9223372036854775807)
    (h : 0 < len → ∃ ad, A = some ad ∧ ∀ i, i < len → ∃ (p : α) (c : List Value), c.length = d.sz ∧ d.K w p c ∧ Good p ∧ ∀ j u, c[j]? = some u → w.cell? (ad.add (i * d.sz + j)) = some u) :
    ∃ l : List α, l.length = len ∧ Kd.C d w A l.length l ∧ ∀ p, p ∈ l → Good p := by
  by_cases h0 : 0 < len
  · obtain ⟨ad, e, hi⟩ := h h0
    have hx : ∀ i, ∃ p : α, i < len → ∃ c : List Value, c.length = d.sz ∧ d.K w p c ∧ Good p ∧ ∀ j u, c[j]? = some u → w.cell? (ad.add (i * d.sz + j)) = some u := by
      intro i
      by_cases hl : i < len
      · obtain ⟨p, c, hc⟩ := hi i hl
        exact ⟨p, fun _ => ⟨c, hc⟩⟩
      · obtain ⟨p, _⟩ := hi 0 h0
        exact ⟨p, fun hh => absurd hh hl⟩
    refine ⟨(List.range len).map fun i => Classical.choose (hx i), by simp, ⟨rfl, by simpa using hm, fun _ => ⟨ad, e, ?_⟩⟩, ?_⟩
    · intro j p hj
      simp only [List.getElem?_map, Option.map_eq_some_iff] at hj
      obtain ⟨i, h1, h2⟩ := hj
      have hlt : j < len := by have := (List.getElem?_eq_some_iff.1 h1).1; simpa using this
      have hij : i = j := by rw [List.getElem?_range hlt] at h1; exact (Option.some.inj h1).symm
      subst hij
      obtain ⟨c, c1, c2, _, c4⟩ := Classical.choose_spec (hx i) hlt
      exact ⟨c, c1, by rw [← h2]; exact c2, c4⟩
    · intro p hp
      obtain ⟨i, h1, h2⟩ := List.mem_map.1 hp
      obtain ⟨c, _, _, c3, _⟩ := Classical.choose_spec (hx i) (List.mem_range.1 h1)
      rw [← h2]; exact c3
  · obtain rfl : len = 0 := by omega
    exact ⟨[], rfl, ⟨rfl, by simp, fun hh => absurd hh (by simp)⟩, fun p hp => absurd hp (by simp)⟩
end Go.Proofs.Ytkpkkjbigndnoaa.M
