/- Written for this claim by a program of this session: what the claim uses of lemmas and proved contracts of Go functions. -/
import Derived.Test.YtbklmlbmbnnjkaaDoorZOwnRx18
import Derived.Test.YtbklmlbmbnnjkaaDoorZOwnMInstM
namespace Go.Proofs.YtbklmlbmbnnjkaaDoor.Pure
open Go.RowKit Go.Proofs.YtbklmlbmbnnjkaaDoor.R Go.Proofs.YtbklmlbmbnnjkaaDoorW.PrintWords Go.Proofs.YtbklmlbmbnnjkaaDoorW.PrintLast Go.Proofs.YtbklmlbmbnnjkaaDoor.M
set_option linter.unusedVariables false
theorem rd_own (l : List Int) (i : Nat) (h : i < l.length) : rd l (i : Int) = l[i] := by
  show l.getD ((i : Int).toNat) 0 = l[i]
  rw [Int.toNat_natCast, List.getD_eq_getElem?_getD, List.getElem?_eq_getElem h]
  rfl
theorem has_loop (l : List Int) (v : Int) (h : l.length < 1000) : ∀ (n i k : Nat), l.length - i = n → i ≤ l.length → n + 1 ≤ k → cleatlaw04_has.l0 k l v (i : Int) = some (decide (v ∈ l.drop i))
  | 0, i, k, hn, hi, hk => by
    obtain ⟨k, rfl⟩ : ∃ m, k = m + 1 := ⟨k - 1, by omega⟩
    simp only [cleatlaw04_has.l0]
    rw [if_neg (by omega), List.drop_eq_nil_of_le (by omega)]
    rfl
  | n + 1, i, k, hn, hi, hk => by
    obtain ⟨k, rfl⟩ : ∃ m, k = m + 1 := ⟨k - 1, by omega⟩
    have hd : l.drop i = l[i]'(by omega) :: l.drop (i + 1) := List.drop_eq_getElem_cons (by omega)
    simp only [cleatlaw04_has.l0]
    rw [if_pos (by omega), if_pos (by omega), rd_own l i (by omega), hd]
    by_cases hv : l[i]'(by omega) = v
    · rw [if_pos hv]; simp [hv]
    · rw [if_neg hv, w64s _ (by omega) (by omega)]
      have := has_loop l v h n (i + 1) k (by omega) (by omega) (by omega)
      rw [show ((i : Int) + 1) = ((i + 1 : Nat) : Int) by omega, this]
      congr 1
      rw [Bool.eq_iff_iff, decide_eq_true_eq, decide_eq_true_eq, List.mem_cons]
      exact ⟨.inr, fun h => h.resolve_left fun e => hv e.symm⟩
theorem has_own (k : Nat) (l : List Int) (v : Int) (h : l.length < 1000) (hk : l.length + 1 ≤ k) : cleatlaw04_has.f k l v = some (decide (v ∈ l)) := has_loop l v h l.length 0 k (by omega) (by omega) hk
theorem ok_regs {op d n m a imm mask shift amount cond : Int} {mk : Bool} (h : okB op d n m a imm mask shift amount cond mk = true) :
    shapeN op ≠ 0 ∧ regB (inst_sh (shapeN op)).1 d = true ∧ regB (inst_sh (shapeN op)).2.1 n = true ∧ regB (inst_sh (shapeN op)).2.2.1 m = true ∧ regB (inst_sh (shapeN op)).2.2.2.1 a = true := by
  simp only [okB, Bool.and_eq_true, Bool.not_eq_true', beq_eq_false_iff_ne] at h
  obtain ⟨⟨⟨⟨⟨⟨⟨⟨⟨h0, h1⟩, h2⟩, h3⟩, h4⟩, _⟩, _⟩, _⟩, _⟩, _⟩ := h
  exact ⟨h0, h1, h2, h3, h4⟩
theorem regB_range {t : Bool} {v : Int} (h : regB t v = true) : 0 ≤ v ∧ v ≤ 31 := by
  unfold regB at h
  cases t
  · simp at h; omega
  · simpa using h
section
variable (op d n m a imm mask shift amount cond : Int) (x4 : Int) (x5 : Bool)
theorem own_end (k : Nat) (hk : 900 ≤ k) (hw : (x4, x5) = wrV true op d) :
    (if op = 30 then cleatlaw04_InstOwn.j2 k x4 x5 true op d n m a imm mask shift amount cond else cleatlaw04_InstOwn.j2 k x4 x5 (op == 35) op d n m a imm mask shift amount cond) = some true := by
  obtain ⟨k, rfl⟩ : ∃ q, k = q + 1 := ⟨k - 1, by omega⟩
  have hj : ∀ c : Bool, c = decide (op = 30 ∨ op = 35) → cleatlaw04_InstOwn.j2 (k + 1) x4 x5 c op d n m a imm mask shift amount cond = some true := by
    intro c hc
    simp only [cleatlaw04_InstOwn.j2]
    rw [shaped_at k (by omega), Option.bind_some, if_pos rfl]
    unfold wrV at hw
    split at hw
    · obtain ⟨rfl, rfl⟩ := Prod.mk.inj hw
      rw [if_neg (by decide)]; rfl
    · split at hw
      · rename_i h
        obtain ⟨rfl, rfl⟩ := Prod.mk.inj hw
        rw [if_pos rfl, hc, decide_eq_true h, if_pos rfl, if_pos rfl]
      · rename_i h
        split at hw
        · obtain ⟨rfl, rfl⟩ := Prod.mk.inj hw
          rw [if_neg (by decide)]; rfl
        · obtain ⟨rfl, rfl⟩ := Prod.mk.inj hw
          rw [if_pos rfl, hc, decide_eq_false h, if_neg (by decide), if_pos rfl]
  by_cases h30 : op = 30
  · rw [if_pos h30]; exact hj true (decide_eq_true (.inl h30)).symm
  · rw [if_neg h30]
    refine hj _ ?_
    rw [Bool.eq_iff_iff]; simp [h30]
theorem own_loop (l : List Int) (hl : l.length ≤ 5) (hp : l.Pairwise (· < ·)) (hr : ∀ x ∈ l, 0 ≤ x ∧ x ≤ 31 ∧ (x ∈ [d, n, m, a] ∨ op = 37 ∧ x = 0)) (hw : (x4, x5) = wrV true op d) :
    ∀ (q i k : Nat), l.length - i = q → i ≤ l.length → 2 * q + 910 ≤ k → cleatlaw04_InstOwn.l0 k l x4 x5 [d, n, m, a] (i : Int) op d n m a imm mask shift amount cond = some true
  | 0, i, k, hn, hi, hk => by
    obtain ⟨k, rfl⟩ : ∃ q, k = q + 1 := ⟨k - 1, by omega⟩
    simp only [cleatlaw04_InstOwn.l0]
    rw [if_neg (by omega)]
    exact own_end op d n m a imm mask shift amount cond x4 x5 k (by omega) hw
  | q + 1, i, k, hn, hi, hk => by
    obtain ⟨k, rfl⟩ : ∃ q, k = q + 2 := ⟨k - 2, by omega⟩
    have hmem : l[i]'(by omega) ∈ l := List.getElem_mem _
    obtain ⟨h1, h2, h3⟩ := hr _ hmem
    have hj1 : ∀ b : Bool, b = false → cleatlaw04_InstOwn.j1 (k + 1) l x4 x5 [d, n, m, a] (i : Int) b op d n m a imm mask shift amount cond = some true := by
      intro b hb
      subst hb
      simp only [cleatlaw04_InstOwn.j1]
      rw [if_neg (by decide), w64s _ (by omega) (by omega), show ((i : Int) + 1) = ((i + 1 : Nat) : Int) by omega]
      exact own_loop l hl hp hr hw q (i + 1) k (by omega) (by omega) (by omega)
    have hin : ((cleatlaw04_has.f (k + 1) [d, n, m, a] (l[i]'(by omega))).bind fun t => (if t = true then (cleatlaw04_InstOwn.j1 (k + 1) l x4 x5 [d, n, m, a] (i : Int) false op d n m a imm mask shift amount cond) else (if op = 37 then (cleatlaw04_InstOwn.j1 (k + 1) l x4 x5 [d, n, m, a] (i : Int) ((l[i]'(by omega)) != 0) op d n m a imm mask shift amount cond) else (cleatlaw04_InstOwn.j1 (k + 1) l x4 x5 [d, n, m, a] (i : Int) true op d n m a imm mask shift amount cond)))) = some true := by
      rw [has_own _ _ _ (by simp) (by simp; omega), Option.bind_some]
      by_cases hm : (l[i]'(by omega)) ∈ [d, n, m, a]
      · rw [if_pos (decide_eq_true hm)]; exact hj1 false rfl
      · rw [if_neg (by simpa using hm)]
        rcases h3 with h3 | ⟨h3, h4⟩
        · exact absurd h3 hm
        · rw [if_pos h3]; exact hj1 _ (by rw [h4]; rfl)
    simp only [cleatlaw04_InstOwn.l0]
    rw [if_pos (by omega), if_pos (by omega), rd_own l i (by omega), if_neg (by omega), if_neg (by omega)]
    by_cases h0 : (i : Int) > 0
    · have hlt := List.pairwise_iff_getElem.1 hp (i - 1) i (by omega) (by omega) (by omega)
      rw [if_pos h0, w64s _ (by omega) (by omega), if_pos (by omega), if_pos (by omega), show ((i : Int) - 1) = ((i - 1 : Nat) : Int) by omega, rd_own l (i - 1) (by omega), if_neg (by omega)]
      exact hin
    · rw [if_neg h0]; exact hin
end
theorem refR_range (op d n m a : Int) (hd : 0 ≤ d ∧ d ≤ 31) (hn : 0 ≤ n ∧ n ≤ 31) (hm : 0 ≤ m ∧ m ≤ 31) (ha : 0 ≤ a ∧ a ≤ 31) : ∀ x ∈ refR op d n m a, 0 ≤ x ∧ x ≤ 31 ∧ (x ∈ [d, n, m, a] ∨ op = 37 ∧ x = 0) := by
  intro x hx
  simp only [refR, rput_mem] at hx
  rcases hx with ⟨h, rfl⟩ | ⟨_, rfl⟩ | ⟨_, rfl⟩ | ⟨_, rfl⟩ | ⟨_, rfl⟩ | h
  · exact ⟨by omega, by omega, .inr ⟨by simpa using h, rfl⟩⟩
  · exact ⟨hd.1, hd.2, .inl (by simp)⟩
  · exact ⟨ha.1, ha.2, .inl (by simp)⟩
  · exact ⟨hm.1, hm.2, .inl (by simp)⟩
  · exact ⟨hn.1, hn.2, .inl (by simp)⟩
  · simp at h
theorem InstOwn (op d n m a imm mask shift amount cond : Int) (wm : (Lit.int .u64 mask).wf = true) : cleatlaw04_InstOwn.f 1000 op d n m a imm mask shift amount cond = some true := by
  obtain ⟨mk, h⟩ := inst_prog op d n m a imm mask shift amount cond wm
  obtain ⟨_, h1⟩ := h 1000 (by omega)
  unfold cleatlaw04_InstOwn.f
  rw [reads_at 1000 (by omega) _ _ _ _ _ _ _ _ _ _ _ h1, Option.bind_some, writes_at 1000 (by omega) _ _ _ _ _ _ _ _ _ _ _ h1, Option.bind_some, h1, Option.bind_some, rdV_eq]
  by_cases ok : okB op d n m a imm mask shift amount cond mk = true
  · obtain ⟨h0, r1, r2, r3, r4⟩ := ok_regs ok
    rw [ok, if_pos rfl, if_pos rfl]
    exact own_loop op d n m a imm mask shift amount cond _ _ (refR op d n m a) (refR_len op d n m a) (refR_lt op d n m a) (refR_range op d n m a (regB_range r1) (regB_range r2) (regB_range r3) (regB_range r4)) rfl (refR op d n m a).length 0 1000 (by omega) (by omega) (by have := refR_len op d n m a; omega)
  · have ok' : okB op d n m a imm mask shift amount cond mk = false := by simpa using ok
    rw [ok']
    simp only [Bool.false_eq_true, if_false]
    rw [shaped_at 1000 (by omega), Option.bind_some, if_pos rfl]
    rfl
theorem InstOwn_walk (a0 a1 a2 a3 a4 a5 a6 a7 a8 a9 : Int) (W : World) (w0 : (Lit.int .i64 a0).wf = true) (w1 : (Lit.int .i64 a1).wf = true) (w2 : (Lit.int .i64 a2).wf = true) (w3 : (Lit.int .i64 a3).wf = true) (w4 : (Lit.int .i64 a4).wf = true) (w5 : (Lit.int .i64 a5).wf = true) (w6 : (Lit.int .u64 a6).wf = true) (w7 : (Lit.int .i64 a7).wf = true) (w8 : (Lit.int .i64 a8).wf = true) (w9 : (Lit.int .i64 a9).wf = true) (hTab : TabW W) :
    Calls Tryd.prog 9 #[.agg #[.int .i64 a0, .int .i64 a1, .int .i64 a2, .int .i64 a3, .int .i64 a4, .int .i64 a5, .int .u64 a6, .int .i64 a7, .int .i64 a8, .int .i64 a9]] W fun e w' => e = .returned (.bool true) ∧ Below W.heap.size W w' :=
  cleatlaw04_InstOwn.calls 1000 a0 a1 a2 a3 a4 a5 a6 a7 a8 a9 true W (InstOwn a0 a1 a2 a3 a4 a5 a6 a7 a8 a9 w6) hTab
end Go.Proofs.YtbklmlbmbnnjkaaDoor.Pure
