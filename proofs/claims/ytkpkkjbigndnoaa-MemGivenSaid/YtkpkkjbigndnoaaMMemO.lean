/- A memory's deeds (chapter 7) as plain functions of its parts, and their contracts. -/
import Derived.Test.YtkpkkjbigndnoaaMMemN
namespace Go.Proofs.Ytkpkkjbigndnoaa.MW
open Go.RowKit Go.Proofs.Ytkpkkjbigndnoaa.P Go.Proofs.YtkpkkjbigndnoaaW.PrintWords Go.Proofs.YtkpkkjbigndnoaaW.PrintLast Go.Proofs.YtkpkkjbigndnoaaW.PrintMore
set_option linter.unusedVariables false
set_option linter.unusedSimpArgs false
/-- The bytes from a place on, of the first part that has them. -/
def mcut (p : MP) (at_ : Int) (n : Nat) : List Int := (p.d.drop (at_ - p.a).toNat).take n
/-- Where so many places are, and in which part. -/
def mat_ (L : List MP) (at_ n : Int) : Option (Nat × MP) := (mfind at_ n L).bind fun i => (L[i]?).map fun p => (i, p)
def mload (L : List MP) (at_ n : Int) : Int × Int := if n = 1 ∨ n = 8 then match mat_ L at_ n with | none => (0, 4) | some q => (leV (mcut q.2 at_ n.toNat), 0) else (0, 1)
def mstore (L : List MP) (at_ n v : Int) : Int × List MP :=
  if n = 1 ∨ n = 8 then match mat_ L at_ n with | none => (4, L) | some q => if q.2.k = 3 then (0, L.set q.1 { q.2 with d := setB q.2.d (at_ - q.2.a).toNat (leB v n.toNat) }) else (10, L) else (1, L)
def mword (L : List MP) (at_ : Int) : Int × Int := if at_ % 4 = 0 then match mat_ L at_ 4 with | none => (0, 4) | some q => if q.2.k = 1 then (leV (mcut q.2 at_ 4), 0) else (0, 10) else (0, 5)
def mtext (L : List MP) (at_ n : Int) : ByteArray × Int := if n < 0 ∨ n > 65536 then (⟨#[]⟩, 1) else if n = 0 then (⟨#[]⟩, 0) else match mat_ L at_ n with | none => (⟨#[]⟩, 4) | some q => (strOfNums (mcut q.2 at_ n.toNat), 0)
theorem mat_none {L : List MP} {at_ n : Int} (h : mat_ L at_ n = none) : ∀ p, p ∈ L → ¬ p.has at_ n := by
  unfold mat_ at h
  cases hf : mfind at_ n L with
  | none => exact mfind_none at_ n L hf
  | some i =>
    obtain ⟨⟨p, h1, h2⟩, h3⟩ := mfind_some at_ n L i hf
    rw [hf] at h
    simp [h1] at h
theorem mat_some {L : List MP} {at_ n : Int} {q : Nat × MP} (h : mat_ L at_ n = some q) : L[q.1]? = some q.2 ∧ q.2.has at_ n ∧ ∀ (j : Nat) p, j < q.1 → L[j]? = some p → ¬ p.has at_ n := by
  unfold mat_ at h
  cases hf : mfind at_ n L with
  | none => rw [hf] at h; cases h
  | some i =>
    obtain ⟨⟨p, h1, h2⟩, h3⟩ := mfind_some at_ n L i hf
    rw [hf] at h
    simp only [Option.bind_some, h1, Option.map_some, Option.some.injEq] at h
    subst h
    exact ⟨h1, h2, h3⟩
/-- A memory at block M whose bytes lie in blocks from lo on, below hi. -/
def MemOk (w : World) (M lo hi : Nat) (L : List MP) : Prop :=
  ∃ (A : Option Addr) (P c : Nat) (Q : List (MP × Nat)), MemIs w M A P c Q ∧ Q.map (·.1) = L ∧ (∀ q, q ∈ Q → lo ≤ q.2 ∧ q.2 < hi) ∧ (∀ q, q ∈ Q → q.1.good) ∧ Q.length ≤ 1000000
theorem MemOk.good {w : World} {M lo hi : Nat} {L : List MP} (h : MemOk w M lo hi L) : ∀ p, p ∈ L → p.good := by
  obtain ⟨A, P, c, Q, h1, h2, h3, h4, h5⟩ := h
  intro p hp
  rw [← h2] at hp
  obtain ⟨q, hq, rfl⟩ := List.mem_map.1 hp
  exact h4 q hq
theorem MemOk.below {w w' : World} {M lo hi : Nat} {L : List MP} (h : MemOk w M lo hi L) (hb : Below w.heap.size w w') : MemOk w' M lo hi L := by
  obtain ⟨A, P, c, Q, h1, h2, h3, h4, h5⟩ := h
  exact ⟨A, P, c, Q, h1.below hb, h2, h3, h4, h5⟩
/-- A world that has become another one by stores into bytes in blocks from lo on, below hi (and by new blocks). -/
structure StoredIn (w w' : World) (lo hi : Nat) : Prop where
  block : ∀ (k : Nat) (o : Obj), w.heap[k]? = some o → (¬ (lo ≤ k ∧ k < hi) ∨ ¬ ∃ cs, o = .cells cs 5 (0, 0)) → w'.heap[k]? = some o
  size : w.heap.size ≤ w'.heap.size
  below : ∀ (B : Nat) (U : World), Below B U w → B ≤ lo → B ≤ w.heap.size → Below B U w'
theorem StoredIn.of_below {w w' : World} (lo hi : Nat) (h : Below w.heap.size w w') : StoredIn w w' lo hi :=
  ⟨fun k o hk _ => (h.block k (Array.getElem?_eq_some_iff.1 hk).1).trans hk, h.size, fun B U hu _ hs => hu.trans (h.mono hs)⟩
theorem StoredIn.of_touch {w w' : World} {lo hi b : Nat} (h1 : lo ≤ b) (h2 : b < hi) (hb : ∃ cs, w.heap[b]? = some (.cells cs 5 (0, 0))) (h : Touch w w' b) : StoredIn w w' lo hi :=
  ⟨fun k o hk hor => by
    have hne : k ≠ b := by
      rintro rfl
      obtain ⟨cs, hcs⟩ := hb
      rcases hor with hor | hor
      · exact hor ⟨h1, h2⟩
      · rw [hcs] at hk; exact hor ⟨cs, (Option.some.inj hk).symm⟩
    exact (h.block k (Array.getElem?_eq_some_iff.1 hk).1 hne).trans hk, h.size, fun B U hu hl hs => h.below B U hu (Nat.le_trans hl h1) hs⟩
theorem StoredIn.refl (w : World) (lo hi : Nat) : StoredIn w w lo hi := StoredIn.of_below lo hi (Below.refl _ _)
theorem StoredIn.trans {w w1 w2 : World} {lo hi : Nat} (h : StoredIn w w1 lo hi) (g : StoredIn w1 w2 lo hi) : StoredIn w w2 lo hi :=
  ⟨fun k o hk hor => g.block k o (h.block k o hk hor) hor, Nat.le_trans h.size g.size, fun B U hu hl hs => g.below B U (h.below B U hu hl hs) hl (Nat.le_trans hs h.size)⟩
theorem MemOk.other {w w' : World} {M lo hi lo2 hi2 : Nat} {L : List MP} (h : MemOk w M lo hi L) (hs : StoredIn w w' lo2 hi2) (hd : hi ≤ lo2 ∨ hi2 ≤ lo) : MemOk w' M lo hi L := by
  obtain ⟨A, P, c, Q, h1, h2, h3, h4, h5⟩ := h
  refine ⟨A, P, c, Q, ⟨?_, h1.addr, ?_, ?_, ?_, h1.apart⟩, h2, h3, h4, h5⟩
  · exact hs.block M _ h1.head (.inr (by rintro ⟨cs, hcs⟩; injection hcs with _ hcs _; exact absurd hcs (by decide)))
  · intro hq
    obtain ⟨cur, hcur⟩ := h1.row hq
    exact ⟨cur, hs.block P _ hcur (.inr (by rintro ⟨cs, hcs⟩; injection hcs with _ hcs _; exact absurd hcs (by decide)))⟩
  · intro i q hq j v hv
    have hQ : Q ≠ [] := by intro e; rw [e] at hq; cases hq
    obtain ⟨cur, hcur⟩ := h1.row hQ
    have hP := hs.block P _ hcur (.inr (by rintro ⟨cs, hcs⟩; injection hcs with _ hcs _; exact absurd hcs (by decide)))
    exact (World.cell?_of_block (w := w) (hP.trans hcur.symm)).trans (h1.cells i q hq j v hv)
  · intro q hq
    have := h3 q hq
    exact hs.block q.2 _ (h1.data q hq) (.inl (by omega))
/-- What New tells. -/
def newV (l : List S37) : Int := if l.any badR = true then 1 else if l.any farR = true then 4 else if apartB (sortM (l.map mpOf)) = true then 0 else 7
def memL (l : List S37) : List MP := sortM (l.map mpOf)
theorem new_at (w : World) (A0 : Option Addr) (c0 : Nat) (l : List S37) (hr0 : Kd.C k37 w A0 l.length l) (hc0 : l.length ≤ c0) (hl : l.length ≤ 1000) (hw : ∀ r, r ∈ l → 0 ≤ r.f0 ∧ r.f0 < 18446744073709551616) :
    (newV l ≠ 0 → Calls Try.prog 7 #[.slice A0 l.length c0] w fun e w' => e = .returned (.tuple #[.pointer none, .int .i64 (newV l)]) ∧ Below w.heap.size w w') ∧
    (newV l = 0 → Calls Try.prog 7 #[.slice A0 l.length c0] w fun e w' => e = .returned (.tuple #[.pointer (some ⟨w.heap.size, 0, none⟩), .int .i64 0]) ∧ Below w.heap.size w w' ∧ MemOk w' w.heap.size w.heap.size w'.heap.size (memL l)) := by
  have h := new_calls w A0 c0 l hr0 hc0 hl hw
  constructor
  · intro hv
    refine h.mono ?_
    rintro e w' ⟨hb, hp⟩
    refine ⟨?_, hb⟩
    unfold NewPost at hp
    unfold newV at hv ⊢
    by_cases h1 : l.any badR = true
    · rw [if_pos h1] at hp ⊢; exact hp
    · rw [if_neg h1] at hp hv ⊢
      by_cases h2 : l.any farR = true
      · rw [if_pos h2] at hp ⊢; exact hp
      · rw [if_neg h2] at hp hv ⊢
        by_cases h3 : apartB (sortM (l.map mpOf)) = true
        · rw [if_pos h3] at hv; exact absurd rfl hv
        · rw [if_neg h3] at hp ⊢; exact hp
  · intro hv
    refine h.mono ?_
    rintro e w' ⟨hb, hp⟩
    unfold NewPost at hp
    unfold newV at hv
    by_cases h1 : l.any badR = true
    · rw [if_pos h1] at hv; exact absurd hv (by decide)
    · rw [if_neg h1] at hp hv
      by_cases h2 : l.any farR = true
      · rw [if_pos h2] at hv; exact absurd hv (by decide)
      · rw [if_neg h2] at hp hv
        by_cases h3 : apartB (sortM (l.map mpOf)) = true
        · rw [if_pos h3] at hp
          obtain ⟨A, P, c, Q, he, hM, hQ, hB⟩ := hp
          have hlen : Q.length = l.length := by
            have h4 := congrArg List.length hQ
            rw [List.length_map, (sortM_perm _).length_eq, List.length_map] at h4
            exact h4
          refine ⟨he, hb, A, P, c, Q, hM, hQ, fun q hq => ⟨hB q hq, (Array.getElem?_eq_some_iff.1 (hM.data q hq)).1⟩, ?_, by omega⟩
          intro q hq
          have hm : q.1 ∈ sortM (l.map mpOf) := by rw [← hQ]; exact List.mem_map.2 ⟨q, hq, rfl⟩
          obtain ⟨r, hr, e⟩ := List.mem_map.1 ((sortM_perm _).mem_iff.1 hm)
          rw [← e]
          refine good_of r ?_ ?_ (hw r hr).1
          · have := List.any_eq_false.1 (Bool.eq_false_iff.2 h1) r hr; simpa using this
          · have := List.any_eq_false.1 (Bool.eq_false_iff.2 h2) r hr; simpa using this
        · rw [if_neg h3] at hv; exact absurd hv (by decide)
theorem at_of {Q : List (MP × Nat)} {i : Nat} {p : MP} (h : (Q.map (·.1))[i]? = some p) : ∃ b, Q[i]? = some (p, b) := by
  rw [List.getElem?_map] at h
  obtain ⟨q, hq, rfl⟩ := Option.map_eq_some_iff.1 h
  exact ⟨q.2, hq⟩
theorem not_of {Q : List (MP × Nat)} {i : Nat} {at_ n : Int} (h : ∀ (j : Nat) p, j < i → (Q.map (·.1))[j]? = some p → ¬ p.has at_ n) : ∀ (j : Nat) q, j < i → Q[j]? = some q → ¬ q.1.has at_ n :=
  fun j q hj hq => h j q.1 hj (by rw [List.getElem?_map, hq]; rfl)
theorem load_at {w : World} {M lo hi : Nat} {L : List MP} (h : MemOk w M lo hi L) (at_ n : Int) (h0 : 0 ≤ at_) (h1 : at_ < 18446744073709551616) :
    Calls Try.prog 9 #[.pointer (some ⟨M, 0, none⟩), .int .u64 at_, .int .i64 n] w fun e w' => e = .returned (.tuple #[.int .u64 (mload L at_ n).1, .int .i64 (mload L at_ n).2]) ∧ Below w.heap.size w w' := by
  obtain ⟨A, P, c, Q, hM, rfl, hB, hg, hl⟩ := h
  unfold mload
  by_cases hn : n = 1 ∨ n = 8
  · rw [if_pos hn]
    cases ha : mat_ (Q.map (·.1)) at_ n with
    | none => exact load_none w M A P c Q at_ n hM hg hl h0 h1 hn (fun q hq => mat_none ha q.1 (List.mem_map.2 ⟨q, hq, rfl⟩))
    | some q =>
      obtain ⟨i, p⟩ := q
      obtain ⟨h2, h3, h4⟩ := mat_some ha
      obtain ⟨b, hb⟩ := at_of h2
      exact load_some w M A P c Q at_ n hM hg hl h0 h1 hn i p b hb h3 (not_of h4)
  · rw [if_neg hn]
    exact load_bad w M at_ n (by omega) (by omega)
theorem word_at {w : World} {M lo hi : Nat} {L : List MP} (h : MemOk w M lo hi L) (at_ : Int) (h0 : 0 ≤ at_) (h1 : at_ < 18446744073709551616) :
    Calls Try.prog 12 #[.pointer (some ⟨M, 0, none⟩), .int .u64 at_] w fun e w' => e = .returned (.tuple #[.int .u32 (mword L at_).1, .int .i64 (mword L at_).2]) ∧ Below w.heap.size w w' := by
  obtain ⟨A, P, c, Q, hM, rfl, hB, hg, hl⟩ := h
  unfold mword
  by_cases h4 : at_ % 4 = 0
  · rw [if_pos h4]
    cases ha : mat_ (Q.map (·.1)) at_ 4 with
    | none => exact word_none w M A P c Q at_ hM hg hl h0 h1 h4 (fun q hq => mat_none ha q.1 (List.mem_map.2 ⟨q, hq, rfl⟩))
    | some q =>
      obtain ⟨i, p⟩ := q
      obtain ⟨h2, h3, h5⟩ := mat_some ha
      obtain ⟨b, hb⟩ := at_of h2
      have := word_some w M A P c Q at_ hM hg hl h0 h1 h4 i p b hb h3 (not_of h5)
      simp only at this ⊢
      by_cases hk : p.k = 1
      · simp only [if_pos hk] at this ⊢; exact this
      · simp only [if_neg hk] at this ⊢; exact this
  · rw [if_neg h4]
    exact word_align w M at_ h0 h4
theorem text_at {w : World} {M lo hi : Nat} {L : List MP} (h : MemOk w M lo hi L) (at_ n : Int) (h0 : 0 ≤ at_) (h1 : at_ < 18446744073709551616) :
    Calls Try.prog 11 #[.pointer (some ⟨M, 0, none⟩), .int .u64 at_, .int .i64 n] w fun e w' => e = .returned (.tuple #[.string (mtext L at_ n).1, .int .i64 (mtext L at_ n).2]) ∧ Below w.heap.size w w' := by
  obtain ⟨A, P, c, Q, hM, rfl, hB, hg, hl⟩ := h
  unfold mtext
  by_cases hn : n < 0 ∨ n > 65536
  · rw [if_pos hn]
    exact text_bad w M at_ n hn
  · rw [if_neg hn]
    by_cases hz : n = 0
    · rw [if_pos hz]; subst hz
      exact text_zero w M at_
    · rw [if_neg hz]
      cases ha : mat_ (Q.map (·.1)) at_ n with
      | none => exact text_none w M A P c Q at_ n hM hg hl h0 h1 (by omega) (by omega) (fun q hq => mat_none ha q.1 (List.mem_map.2 ⟨q, hq, rfl⟩))
      | some q =>
        obtain ⟨i, p⟩ := q
        obtain ⟨h2, h3, h4⟩ := mat_some ha
        obtain ⟨b, hb⟩ := at_of h2
        exact text_some w M A P c Q at_ n hM hg hl h0 h1 (by omega) (by omega) i p b hb h3 (not_of h4)
theorem setB_isB (d : List Int) (o : Nat) (bs : List Int) (hd : isB d) (hb : isB bs) : isB (setB d o bs) := by
  intro x hx
  unfold setB at hx
  rcases List.mem_append.1 hx with hx | hx
  · rcases List.mem_append.1 hx with hx | hx
    · exact hd x (List.mem_of_mem_take hx)
    · exact hb x hx
  · exact hd x (List.mem_of_mem_drop hx)
theorem store_at {w : World} {M lo hi : Nat} {L : List MP} (h : MemOk w M lo hi L) (at_ n v : Int) (h0 : 0 ≤ at_) (h1 : at_ < 18446744073709551616) (v0 : 0 ≤ v) (v1 : v < 18446744073709551616) :
    Calls Try.prog 10 #[.pointer (some ⟨M, 0, none⟩), .int .u64 at_, .int .i64 n, .int .u64 v] w fun e w' => e = .returned (.int .i64 (mstore L at_ n v).1) ∧ StoredIn w w' lo hi ∧ MemOk w' M lo hi (mstore L at_ n v).2 := by
  have hok := h
  obtain ⟨A, P, c, Q, hM, rfl, hB, hg, hl⟩ := h
  unfold mstore
  by_cases hn : n = 1 ∨ n = 8
  · rw [if_pos hn]
    cases ha : mat_ (Q.map (·.1)) at_ n with
    | none => exact (store_none w M A P c Q at_ n v hM hg hl h0 h1 hn (fun q hq => mat_none ha q.1 (List.mem_map.2 ⟨q, hq, rfl⟩))).mono fun e w' ⟨he, hb⟩ => ⟨he, StoredIn.of_below lo hi hb, hok.below hb⟩
    | some q =>
      obtain ⟨i, p⟩ := q
      obtain ⟨h2, h3, h4⟩ := mat_some ha
      obtain ⟨b, hb⟩ := at_of h2
      simp only
      by_cases hk : p.k = 3
      · rw [if_pos hk]
        refine (store_some w M A P c Q at_ n v hM hg hl h0 h1 hn v0 v1 i p b hb h3 (not_of h4) hk).mono ?_
        rintro e w' ⟨he, hT, hM'⟩
        have hmem : (p, b) ∈ Q := List.mem_of_getElem? hb
        have hbb := hB _ hmem
        obtain ⟨g1, g2, g3, g4, g5, g6, g7⟩ := hg _ hmem
        simp only at g1 g2 g3 g4 g5 g6 g7
        obtain ⟨x1, x2, x3⟩ := h3
        refine ⟨he, StoredIn.of_touch hbb.1 hbb.2 ⟨_, hM.data _ hmem⟩ hT, A, P, c, _, hM', ?_, ?_, ?_, by rw [List.length_set]; exact hl⟩
        · rw [List.map_set]
        · intro q hq
          rcases List.mem_or_eq_of_mem_set hq with hq | rfl
          · exact hB q hq
          · exact hbb
        · intro q hq
          rcases List.mem_or_eq_of_mem_set hq with hq | rfl
          · exact hg q hq
          · have hlen := setB_length p.d (at_ - p.a).toNat (leB v n.toNat) (by rw [leB_length]; simp only at x1 x2 x3; omega)
            refine ⟨g1, g2, g3, g4, ?_, ?_, setB_isB _ _ _ g7 (leB_isB _ _)⟩
            · simp only [hlen]; exact g5
            · simp only [hlen]; exact g6
      · rw [if_neg hk]
        exact (store_kept w M A P c Q at_ n v hM hg hl h0 h1 hn i p b hb h3 (not_of h4) hk).mono fun e w' ⟨he, hb⟩ => ⟨he, StoredIn.of_below lo hi hb, hok.below hb⟩
  · rw [if_neg hn]
    exact (store_bad w M at_ n v (by omega) (by omega)).mono fun e w' ⟨he, hb⟩ => ⟨he, StoredIn.of_below lo hi hb, hok.below hb⟩
end Go.Proofs.Ytkpkkjbigndnoaa.MW
