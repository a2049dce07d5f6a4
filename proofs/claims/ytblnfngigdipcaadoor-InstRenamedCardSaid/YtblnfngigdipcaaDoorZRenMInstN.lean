/- Written for this claim by a program of this session: what the claim uses of lemmas and proved contracts of Go functions. -/
import Derived.Test.YtblnfngigdipcaaDoorZRenMInstC
namespace Go.Proofs.YtblnfngigdipcaaDoor.M
open Go.RowKit Go.Proofs.YtblnfngigdipcaaDoor.P Go.Proofs.YtblnfngigdipcaaDoorW.PrintWords Go.Proofs.YtblnfngigdipcaaDoorW.PrintLast Go.Proofs.YtblnfngigdipcaaDoorW.PrintMore
set_option linter.unusedVariables false
set_option linter.unusedSimpArgs false
/-- The places changed. -/
def swp (a b v : Int) : Int := if v = a then b else if v = b then a else v
theorem swp_swp (a b v : Int) : swp a b (swp a b v) = v := by
  unfold swp
  split
  · subst v; split
    · assumption
    · rw [if_pos rfl]
  · split
    · subst v; rw [if_pos rfl]
    · rfl
theorem swp_lt {a b : Int} (ha : a ≤ 30) (hb : b ≤ 30) (v : Int) : swp a b v < 31 ↔ v < 31 := by
  unfold swp; split
  · omega
  · split <;> omega
theorem swp_range {a b : Int} (ha : 0 ≤ a ∧ a ≤ 30) (hb : 0 ≤ b ∧ b ≤ 30) {v : Int} (hv : 0 ≤ v ∧ v ≤ 31) : 0 ≤ swp a b v ∧ swp a b v ≤ 31 := by
  unfold swp; split
  · omega
  · split <;> omega
theorem swp_31 {a b : Int} (ha : a ≤ 30) (hb : b ≤ 30) (v : Int) : swp a b v = 31 ↔ v = 31 := by
  unfold swp; split
  · omega
  · split <;> omega
/-- A register of a field that a shape has, or has not. -/
def swF (c : Bool) (a b v : Int) : Int := if c = true then swp a b v else v
def hasD (s : Int) : Bool := decide (s ≤ 10) || decide (s = 16)
def hasN (s : Int) : Bool := (decide (2 ≤ s) && decide (s ≤ 8)) || decide (s = 13) || decide (s = 16)
def hasM (s : Int) : Bool := (decide (4 ≤ s) && decide (s ≤ 6)) || decide (s = 16)
def hasA (s : Int) : Bool := decide (s = 6)
theorem has_shape : ∀ s : Fin 17, 1 ≤ s.val → (inst_sh s.val).1 = hasD s.val ∧ (inst_sh s.val).2.1 = hasN s.val ∧ (inst_sh s.val).2.2.1 = hasM s.val ∧ (inst_sh s.val).2.2.2.1 = hasA s.val := by decide +kernel
theorem has_shape_ (s : Nat) (h : s ≤ 16) (h1 : s ≠ 0) : (inst_sh s).1 = hasD s ∧ (inst_sh s).2.1 = hasN s ∧ (inst_sh s).2.2.1 = hasM s ∧ (inst_sh s).2.2.2.1 = hasA s := has_shape ⟨s, by omega⟩ (by show 1 ≤ s; omega)
theorem keep_fin : ∀ n : Fin 40, (keepB n.val || ((n.val : Int) == 3)) = true → hasD (inst_shape n.val) = true := by decide +kernel
theorem shapeN_shape {op : Int} (h1 : 1 ≤ op) (h2 : op ≤ 39) : ((shapeN op : Nat) : Int) = inst_shape op.toNat := by
  unfold shapeN
  rw [if_neg (by omega), if_neg (by omega)]
  have h := (shape_fin ⟨op.toNat, by omega⟩).2.1
  simp only at h
  omega
theorem keep_has {op : Int} (h0 : shapeN op ≠ 0) (h : (keepB op || op == 3) = true) : hasD (shapeN op) = true := by
  obtain ⟨h1, h2⟩ : 1 ≤ op ∧ op ≤ 39 := by
    by_cases hc : 1 ≤ op ∧ op ≤ 39
    · exact hc
    · exact absurd ((shapeN_zero op).2 hc) h0
  rw [shapeN_shape h1 h2]
  have e : ((op.toNat : Nat) : Int) = op := by omega
  have := keep_fin ⟨op.toNat, by omega⟩
  simp only [e] at this
  exact this h
theorem regB_swF {c : Bool} {a b v : Int} (ha : 0 ≤ a ∧ a ≤ 30) (hb : 0 ≤ b ∧ b ≤ 30) (h : regB c v = true) : regB c (swF c a b v) = true := by
  unfold regB swF at *
  cases c
  · simpa using h
  · simp only [if_true, decide_eq_true_eq] at h ⊢
    exact swp_range ha hb h
theorem swF_swF (c : Bool) (a b v : Int) : swF c a b (swF c a b v) = v := by
  unfold swF; cases c
  · rfl
  · simp only [if_true]; exact swp_swp a b v
section
variable {op d n m x imm mask shift amount cond a b : Int} {mk : Bool}
def swOk (a b op d n m x imm mask shift amount cond : Int) (mk : Bool) : Bool := okB op (swF (hasD (shapeN op)) a b d) (swF (hasN (shapeN op)) a b n) (swF (hasM (shapeN op)) a b m) (swF (hasA (shapeN op)) a b x) imm mask shift amount cond mk
theorem ok_swap (ha : 0 ≤ a ∧ a ≤ 30) (hb : 0 ≤ b ∧ b ≤ 30) (h : okB op d n m x imm mask shift amount cond mk = true) : swOk a b op d n m x imm mask shift amount cond mk = true := by
  unfold swOk
  unfold okB at h ⊢
  simp only [Bool.and_eq_true, Bool.not_eq_true', beq_eq_false_iff_ne] at h ⊢
  obtain ⟨⟨⟨⟨⟨⟨⟨⟨⟨h0, h1⟩, h2⟩, h3⟩, h4⟩, h5⟩, h6⟩, h7⟩, h8⟩, h9⟩ := h
  obtain ⟨e1, e2, e3, e4⟩ := has_shape_ (shapeN op) (shapeN_le op) h0
  rw [e1] at h1 ⊢
  rw [e2] at h2 ⊢
  rw [e3] at h3 ⊢
  rw [e4] at h4 ⊢
  exact ⟨⟨⟨⟨⟨⟨⟨⟨⟨h0, regB_swF ha hb h1⟩, regB_swF ha hb h2⟩, regB_swF ha hb h3⟩, regB_swF ha hb h4⟩, h5⟩, h6⟩, h7⟩, h8⟩, h9⟩
theorem ok_shape (h : okB op d n m x imm mask shift amount cond mk = true) : shapeN op ≠ 0 := by
  unfold okB at h
  simp only [Bool.and_eq_true, Bool.not_eq_true', beq_eq_false_iff_ne] at h
  exact h.1.1.1.1.1.1.1.1.1
/-- What is read of the places changed. -/
def swR (a b op d n m x : Int) : List Int := refR op (swF (hasD (shapeN op)) a b d) (swF (hasN (shapeN op)) a b n) (swF (hasM (shapeN op)) a b m) (swF (hasA (shapeN op)) a b x)
theorem read_swap (ha : 0 ≤ a ∧ a ≤ 30) (hb : 0 ≤ b ∧ b ≤ 30) (h0 : shapeN op ≠ 0) (h37 : op ≠ 37) (v : Int) (hv : v ∈ refR op d n m x) : swp a b v ∈ swR a b op d n m x := by
  obtain ⟨e1, e2, e3, e4⟩ := has_shape_ (shapeN op) (shapeN_le op) h0
  have kh := keep_has h0
  unfold swR
  unfold refR at hv ⊢
  simp only [rput_mem, e2, e3, e4, Bool.and_eq_true, Bool.or_eq_true, decide_eq_true_eq] at hv ⊢
  have lt := swp_lt ha.2 hb.2
  rcases hv with ⟨h, rfl⟩ | ⟨h, rfl⟩ | ⟨h, rfl⟩ | ⟨h, rfl⟩ | ⟨h, rfl⟩ | h
  · exact absurd (by simpa using h) h37
  · have hd : hasD (shapeN op) = true := kh (by simpa using h.2)
    exact .inr (.inl ⟨⟨by rw [hd, swF, if_pos rfl]; exact (lt _).2 h.1, h.2⟩, by rw [hd, swF, if_pos rfl]⟩)
  · exact .inr (.inr (.inl ⟨⟨h.1, by rw [h.1, swF, if_pos rfl]; exact (lt _).2 h.2⟩, by rw [h.1, swF, if_pos rfl]⟩))
  · exact .inr (.inr (.inr (.inl ⟨⟨h.1, by rw [h.1, swF, if_pos rfl]; exact (lt _).2 h.2⟩, by rw [h.1, swF, if_pos rfl]⟩)))
  · exact .inr (.inr (.inr (.inr (.inl ⟨⟨h.1, by rw [h.1, swF, if_pos rfl]; exact h.2.imp (fun q => (lt _).2 q) id⟩, by rw [h.1, swF, if_pos rfl]⟩))))
  · simp at h
theorem len_le_of_sub : ∀ (l m : List Int), l.Nodup → (∀ x, x ∈ l → x ∈ m) → l.length ≤ m.length
  | [], m, _, _ => by simp
  | y :: l, m, hn, h => by
    have hy := h y (by simp)
    obtain ⟨hn1, hn2⟩ := List.nodup_cons.1 hn
    have := len_le_of_sub l (m.erase y) hn2 fun x hx => (List.mem_erase_of_ne (fun e => by subst e; exact hn1 hx)).2 (h x (by simp [hx]))
    rw [List.length_erase_of_mem hy] at this
    have : 0 < m.length := List.length_pos_of_mem hy
    simp only [List.length_cons]
    omega
theorem nodup_of_lt {l : List Int} (h : l.Pairwise (· < ·)) : l.Nodup := h.imp fun h e => by omega
theorem map_swp_nodup (a b : Int) {l : List Int} (h : l.Nodup) : (l.map (swp a b)).Nodup := by
  rw [List.Nodup, List.pairwise_map]
  refine h.imp ?_
  intro x y hxy e
  exact hxy (by rw [← swp_swp a b x, e, swp_swp])
theorem len_swap (ha : 0 ≤ a ∧ a ≤ 30) (hb : 0 ≤ b ∧ b ≤ 30) (h0 : shapeN op ≠ 0) (h37 : op ≠ 37) : (refR op d n m x).length = (swR a b op d n m x).length := by
  have h1 : ∀ (d n m x : Int), (refR op d n m x).length ≤ (swR a b op d n m x).length := by
    intro d n m x
    have := len_le_of_sub ((refR op d n m x).map (swp a b)) (swR a b op d n m x) (map_swp_nodup a b (nodup_of_lt (refR_lt _ _ _ _ _))) (by
      intro y hy
      obtain ⟨v, hv, rfl⟩ := List.mem_map.1 hy
      exact read_swap ha hb h0 h37 v hv)
    simpa using this
  refine Nat.le_antisymm (h1 d n m x) ?_
  have := h1 (swF (hasD (shapeN op)) a b d) (swF (hasN (shapeN op)) a b n) (swF (hasM (shapeN op)) a b m) (swF (hasA (shapeN op)) a b x)
  unfold swR at this ⊢
  simpa only [swF_swF] using this
theorem wr_swap (ha : 0 ≤ a ∧ a ≤ 30) (hb : 0 ≤ b ∧ b ≤ 30) (h0 : shapeN op ≠ 0) (h30 : op ≠ 30) (h35 : op ≠ 35) :
    (wrV true op (swF (hasD (shapeN op)) a b d)).2 = (wrV true op d).2 ∧ ((wrV true op d).2 = true → swp a b (wrV true op d).1 = (wrV true op (swF (hasD (shapeN op)) a b d)).1) := by
  obtain ⟨e1, _, _, _⟩ := has_shape_ (shapeN op) (shapeN_le op) h0
  have h31 := swp_31 ha.2 hb.2 d
  unfold wrV
  rw [e1]
  by_cases hk : keepB op = true
  · rw [if_pos (.inr hk), if_pos (.inr hk)]
    exact ⟨rfl, fun h => absurd h (by decide)⟩
  · have hk' : keepB op = false := by simpa using hk
    by_cases hd : hasD (shapeN op) = true
    · rw [hd]
      simp only [swF, if_true, hk', h30, h35]
      by_cases hs : spB op = true
      · simp [hs]
      · have hs' : spB op = false := by simpa using hs
        by_cases hd31 : d = 31
        · have h5 : swp a b 31 = 31 := (swp_31 ha.2 hb.2 31).2 rfl
          simp [hs', hd31, h5]
        · have : ¬ swp a b d = 31 := fun e => hd31 (h31.1 e)
          simp [hs', hd31, this]
    · have hd' : hasD (shapeN op) = false := by simpa using hd
      rw [hd']
      simp [swF, hk', h30, h35]
end
end Go.Proofs.YtblnfngigdipcaaDoor.M
