/- Written for this claim by a program of this session: what the claim uses of lemmas and proved contracts of Go functions. -/
import Derived.Test.YtblnfngigdipcaaDoorZRenPx6
import Derived.Test.YtblnfngigdipcaaDoorZRenPx7
namespace Go.Proofs.YtblnfngigdipcaaDoor.M
open Go.RowKit Go.Proofs.YtblnfngigdipcaaDoor.P Go.Proofs.YtblnfngigdipcaaDoorW.PrintWords Go.Proofs.YtblnfngigdipcaaDoorW.PrintLast Go.Proofs.YtblnfngigdipcaaDoorW.PrintMore
set_option linter.unusedVariables false
set_option linter.unusedSimpArgs false
theorem w64s (x : Int) (h0 : -9223372036854775808 ≤ x) (h1 : x < 9223372036854775808) : wrap64 x = x := by unfold wrap64; omega
/-- One more among them, in its place. -/
def insR (v : Int) : Bool → List Int → List Int
  | done, [] => if done then [] else [v]
  | done, x :: xs => (if done = false ∧ v < x then [v] else []) ++ x :: insR v (done || decide (v ≤ x)) xs
theorem insR_done (v : Int) : ∀ l, insR v true l = l
  | [] => rfl
  | x :: xs => by simp [insR, insR_done v xs]
theorem insR_len (v : Int) : ∀ (l : List Int) (b : Bool), (insR v b l).length ≤ l.length + 1
  | [], b => by unfold insR; split <;> simp
  | x :: xs, b => by
    unfold insR
    cases b
    · by_cases h : v < x
      · rw [show (false || decide (v ≤ x)) = true by simp; omega, insR_done]
        simp [h]
      · have := insR_len v xs (false || decide (v ≤ x))
        simp [h] at this ⊢
        omega
    · rw [Bool.true_or, insR_done]; simp
theorem insR_mem (v y : Int) : ∀ l, y ∈ insR v false l ↔ y = v ∨ y ∈ l
  | [] => by simp [insR]
  | x :: xs => by
    unfold insR
    by_cases h : v < x
    · rw [show (false || decide (v ≤ x)) = true by simp; omega, insR_done]
      simp [h]
    · by_cases h2 : v ≤ x
      · rw [show (false || decide (v ≤ x)) = true by simp; omega, insR_done]
        have : v = x := by omega
        subst this
        simp
      · rw [show (false || decide (v ≤ x)) = false by simp; omega]
        simp [h, insR_mem v y xs]
        constructor
        · rintro (h | h | h) <;> simp [h]
        · rintro (h | h | h) <;> simp [h]
theorem insR_lt (v : Int) : ∀ l : List Int, l.Pairwise (· < ·) → (insR v false l).Pairwise (· < ·)
  | [], _ => by simp [insR]
  | x :: xs, hp => by
    have hp' := List.pairwise_cons.1 hp
    unfold insR
    by_cases h : v < x
    · rw [show (false || decide (v ≤ x)) = true by simp; omega, insR_done]
      simp only [h, and_self, if_true, List.cons_append, List.nil_append]
      refine List.pairwise_cons.2 ⟨fun z hz => ?_, hp⟩
      rcases List.mem_cons.1 hz with rfl | hz
      · exact h
      · have := hp'.1 z hz; omega
    · by_cases h2 : v ≤ x
      · rw [show (false || decide (v ≤ x)) = true by simp; omega, insR_done]
        simpa [h] using hp
      · rw [show (false || decide (v ≤ x)) = false by simp; omega]
        simp only [h, and_false, if_false, List.nil_append]
        refine List.pairwise_cons.2 ⟨fun z hz => ?_, insR_lt v xs hp'.2⟩
        rcases (insR_mem v z xs).1 hz with rfl | hz
        · omega
        · exact hp'.1 z hz
/-- Two rising rows that have the same are the same. -/
theorem rising_eq : ∀ (a b : List Int), a.Pairwise (· < ·) → b.Pairwise (· < ·) → (∀ x, x ∈ a ↔ x ∈ b) → a = b
  | [], [], _, _, _ => rfl
  | [], y :: ys, _, _, h => by have := (h y).2 (by simp); simp at this
  | x :: xs, [], _, _, h => by have := (h x).1 (by simp); simp at this
  | x :: xs, y :: ys, ha, hb, h => by
    have ha' := List.pairwise_cons.1 ha
    have hb' := List.pairwise_cons.1 hb
    have e : x = y := by
      rcases List.mem_cons.1 ((h x).1 (by simp)) with e | e
      · exact e
      · rcases List.mem_cons.1 ((h y).2 (by simp)) with e2 | e2
        · exact e2.symm
        · have h1 := hb'.1 x e
          have h2 := ha'.1 y e2
          omega
    subst e
    rw [rising_eq xs ys ha'.2 hb'.2 fun z => ?_]
    constructor
    · intro hz
      rcases List.mem_cons.1 ((h z).1 (by simp [hz])) with e | e
      · subst e; have := ha'.1 z hz; omega
      · exact e
    · intro hz
      rcases List.mem_cons.1 ((h z).2 (by simp [hz])) with e | e
      · subst e; have := hb'.1 z hz; omega
      · exact e
theorem compact_inv (d : Array Int) (hs : ∀ i j, i ≤ j → j < d.size → d[i]! ≤ d[j]!) : ∀ m, m ≤ d.size →
    (∀ x ∈ Lib.compactUpTo d m, ∃ j, j < m ∧ d[j]! = x) ∧ (∀ j, j < m → d[j]! ∈ Lib.compactUpTo d m) ∧ (Lib.compactUpTo d m).Pairwise (· < ·)
  | 0, _ => by simp [Lib.compactUpTo]
  | m + 1, hm => by
    obtain ⟨h1, h2, h3⟩ := compact_inv d hs m (by omega)
    rw [Lib.compactUpTo_succ]
    by_cases hk : Lib.keeps d m = true
    · rw [if_pos hk]
      simp only [Lib.keeps, decide_eq_true_eq] at hk
      refine ⟨fun x hx => ?_, fun j hj => ?_, ?_⟩
      · rcases List.mem_append.1 hx with hx | hx
        · obtain ⟨j, hj, e⟩ := h1 x hx; exact ⟨j, by omega, e⟩
        · exact ⟨m, by omega, (List.mem_singleton.1 hx).symm⟩
      · by_cases e : j = m
        · subst e; simp
        · exact List.mem_append_left _ (h2 j (by omega))
      · refine List.pairwise_append.2 ⟨h3, by simp, fun x hx y hy => ?_⟩
        obtain rfl := List.mem_singleton.1 hy
        obtain ⟨j, hj, rfl⟩ := h1 x hx
        rcases hk with hk | hk
        · omega
        · have a := hs j (m - 1) (by omega) (by omega)
          have b := hs (m - 1) m (by omega) (by omega)
          omega
    · rw [if_neg hk, List.append_nil]
      have hk' : m ≠ 0 ∧ d[m]! = d[m - 1]! := by
        simp only [Lib.keeps, decide_eq_true_eq] at hk
        exact ⟨fun h => hk (.inl h), Classical.byContradiction fun h => hk (.inr h)⟩
      refine ⟨fun x hx => ?_, fun j hj => ?_, h3⟩
      · obtain ⟨j, hj, e⟩ := h1 x hx; exact ⟨j, by omega, e⟩
      · by_cases e : j = m
        · subst e; rw [hk'.2]; exact h2 _ (by omega)
        · exact h2 j (by omega)
theorem sortc_spec (l : List Int) : (∀ x, x ∈ Lib.compact (l.mergeSort fun x y => decide (x ≤ y)) ↔ x ∈ l) ∧ (Lib.compact (l.mergeSort fun x y => decide (x ≤ y))).Pairwise (· < ·) := by
  have hs : (l.mergeSort fun x y => decide (x ≤ y)).Pairwise (fun x y => decide (x ≤ y) = true) :=
    List.pairwise_mergeSort (fun a b c h1 h2 => by simp at *; omega) (fun a b => by simp; omega) l
  generalize hz : (l.mergeSort fun x y => decide (x ≤ y)) = z at *
  have hm : ∀ x, x ∈ z ↔ x ∈ l := fun x => by rw [← hz]; exact List.mem_mergeSort
  have hs' : ∀ i j, i ≤ j → j < z.toArray.size → z.toArray[i]! ≤ z.toArray[j]! := by
    intro i j hij hj
    have hj' : j < z.length := by simpa using hj
    rw [getElem!_pos z.toArray i (by simp; omega), getElem!_pos z.toArray j hj]
    by_cases e : i = j
    · subst e; exact Int.le_refl _
    · have := List.pairwise_iff_getElem.1 hs i j (by omega) hj' (by omega)
      simpa using this
  obtain ⟨h1, h2, h3⟩ := compact_inv z.toArray hs' z.length (by simp)
  refine ⟨fun x => ?_, h3⟩
  rw [← hm]
  constructor
  · intro hx
    obtain ⟨j, hj, e⟩ := h1 x hx
    rw [getElem!_pos z.toArray j (by simpa using hj)] at e
    rw [← e]; simp
  · intro hx
    obtain ⟨j, hj, e⟩ := List.mem_iff_getElem.1 hx
    have := h2 j hj
    rw [getElem!_pos z.toArray j (by simpa using hj)] at this
    rw [← e]
    have h' : z[j] ∈ Lib.compactUpTo z.toArray z.length := by simpa using this
    exact h'
theorem same_loop (l : List Int) (h : l.length < 1000) : ∀ (n i k : Nat), l.length - i = n → i ≤ l.length → n + 1 ≤ k → cleatref04_Same.l0 k l l (i : Int) = some true
  | 0, i, k, hn, hi, hk => by
    obtain ⟨k, rfl⟩ : ∃ m, k = m + 1 := ⟨k - 1, by omega⟩
    simp only [cleatref04_Same.l0]
    rw [if_neg (by omega)]
  | n + 1, i, k, hn, hi, hk => by
    obtain ⟨k, rfl⟩ : ∃ m, k = m + 1 := ⟨k - 1, by omega⟩
    simp only [cleatref04_Same.l0]
    rw [if_pos (by omega), if_pos (by omega), if_pos (by omega), if_true, w64s _ (by omega) (by omega)]
    exact same_loop l h n (i + 1) k (by omega) (by omega) (by omega)
theorem same_refl (k : Nat) (l : List Int) (h : l.length < 1000) (hk : l.length + 1 ≤ k) : cleatref04_Same.f k l l = some true := by
  unfold cleatref04_Same.f
  rw [if_pos rfl]
  exact same_loop l h _ 0 k rfl (by omega) (by omega)
end Go.Proofs.YtblnfngigdipcaaDoor.M
