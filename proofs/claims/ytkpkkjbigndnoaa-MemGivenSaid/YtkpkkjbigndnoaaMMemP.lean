/- A memory's deeds (chapter 7): a region as it was given; eight bytes one by one. No program in sight. -/
import Derived.Test.YtkpkkjbigndnoaaMMemL
import Derived.Test.YtkpkkjbigndnoaaPx2
namespace Go.Proofs.Ytkpkkjbigndnoaa.MW
open Go.RowKit Go.Proofs.Ytkpkkjbigndnoaa.P Go.Proofs.YtkpkkjbigndnoaaW.PrintWords Go.Proofs.YtkpkkjbigndnoaaW.PrintLast Go.Proofs.YtkpkkjbigndnoaaW.PrintMore
set_option linter.unusedVariables false
set_option linter.unusedSimpArgs false
theorem part_only {L : List MP} (h : apartB L = true) (hl : ∀ p, p ∈ L → 1 ≤ p.d.length) {i j : Nat} {p q : MP} (hi : L[i]? = some p) (hj : L[j]? = some q) (x : Int) {m n : Int} (hp : p.has x m) (hq : q.has x n) : i = j := by
  have hs := List.pairwise_iff_getElem.1 (apart_strict L hl h)
  obtain ⟨li, ei⟩ := List.getElem?_eq_some_iff.1 hi
  obtain ⟨lj, ej⟩ := List.getElem?_eq_some_iff.1 hj
  obtain ⟨p1, p2, p3⟩ := hp
  obtain ⟨q1, q2, q3⟩ := hq
  rcases Nat.lt_trichotomy i j with hlt | rfl | hlt
  · have := hs i j li lj hlt
    rw [ei, ej] at this
    omega
  · rfl
  · have := hs j i lj li hlt
    rw [ei, ej] at this
    omega
theorem mat_of {L : List MP} (h : apartB L = true) (hl : ∀ p, p ∈ L → 1 ≤ p.d.length) {i : Nat} {p : MP} (hi : L[i]? = some p) {x n : Int} (hp : p.has x n) : mat_ L x n = some (i, p) := by
  cases hm : mat_ L x n with
  | none => exact absurd hp (mat_none hm p (List.mem_of_getElem? hi))
  | some q =>
    obtain ⟨j, q⟩ := q
    obtain ⟨h1, h2, h3⟩ := mat_some hm
    simp only at h1 h2
    obtain rfl := part_only h hl hi h1 x hp h2
    rw [hi] at h1
    obtain rfl := Option.some.inj h1
    rfl
theorem mat_not {L : List MP} (h : apartB L = true) (hl : ∀ p, p ∈ L → 1 ≤ p.d.length) {i : Nat} {p : MP} (hi : L[i]? = some p) {x m n : Int} (hp : p.has x m) (hn : ¬ p.has x n) : mat_ L x n = none := by
  cases hm : mat_ L x n with
  | none => rfl
  | some q =>
    obtain ⟨j, q⟩ := q
    obtain ⟨h1, h2, h3⟩ := mat_some hm
    simp only at h1 h2
    obtain rfl := part_only h hl hi h1 x hp h2
    rw [hi] at h1
    obtain rfl := Option.some.inj h1
    exact absurd h2 hn
theorem str_bytes (y : ByteArray) : strOfNums (bytesOf y) = y := by
  unfold strOfNums bytesOf
  rw [List.map_map]
  have : ((fun n : Int => UInt8.ofNat n.toNat) ∘ fun b : UInt8 => (b.toNat : Int)) = id := by
    funext b
    simp
  rw [this, List.map_id]
theorem newV_zero {l : List S37} (h : newV l = 0) : (∀ r, r ∈ l → badR r = false) ∧ (∀ r, r ∈ l → farR r = false) ∧ apartB (memL l) = true := by
  unfold newV at h
  by_cases h1 : l.any badR = true
  · rw [if_pos h1] at h; exact absurd h (by decide)
  · rw [if_neg h1] at h
    by_cases h2 : l.any farR = true
    · rw [if_pos h2] at h; exact absurd h (by decide)
    · rw [if_neg h2] at h
      by_cases h3 : apartB (sortM (l.map mpOf)) = true
      · refine ⟨fun r hr => ?_, fun r hr => ?_, h3⟩
        · have := List.any_eq_false.1 (Bool.eq_false_iff.2 h1) r hr; simpa using this
        · have := List.any_eq_false.1 (Bool.eq_false_iff.2 h2) r hr; simpa using this
      · rw [if_neg h3] at h; exact absurd h (by decide)
theorem memL_good {l : List S37} (h : newV l = 0) (hw : ∀ r, r ∈ l → 0 ≤ r.f0) : ∀ p, p ∈ memL l → p.good := by
  obtain ⟨h1, h2, h3⟩ := newV_zero h
  intro p hp
  obtain ⟨r, hr, rfl⟩ := List.mem_map.1 ((sortM_perm _).mem_iff.1 hp)
  exact good_of r (h1 r hr) (h2 r hr) (hw r hr)
theorem given_pure {l : List S37} (h : newV l = 0) (hw : ∀ r, r ∈ l → 0 ≤ r.f0) (r : S37) (hr : r ∈ l) :
    mtext (memL l) r.f0 r.f2.size = (r.f2, 0) ∧ (mtext (memL l) r.f0 (r.f2.size + 1)).2 ≠ 0 ∧ mload (memL l) r.f0 1 = (bt r.f2 0, 0) ∧ 1 ≤ r.f2.size ∧ r.f2.size ≤ 65536 ∧ (mstore (memL l) r.f0 1 7).1 = if r.f1 = 3 then 0 else 10 := by
  have hg := memL_good h hw
  have hl : ∀ p, p ∈ memL l → 1 ≤ p.d.length := fun p hp => (hg p hp).2.2.2.2.1
  obtain ⟨h1, h2, h3⟩ := newV_zero h
  have hm : mpOf r ∈ memL l := (sortM_perm _).mem_iff.2 (List.mem_map.2 ⟨r, hr, rfl⟩)
  obtain ⟨i, hi⟩ := List.getElem?_of_mem hm
  have hgr := hg _ hm
  have hlen : (mpOf r).d.length = r.f2.size := bytesOf_length r.f2
  have ha : (mpOf r).a = r.f0 := rfl
  have hs1 := hgr.2.2.2.2.1
  have hs2 := hgr.2.2.2.2.2.1
  rw [hlen] at hs1 hs2
  have has_ : ∀ n : Int, n ≤ r.f2.size → (mpOf r).has r.f0 n := fun n hn => by
    unfold MP.has
    rw [ha, hlen]
    omega
  have e0 : ∀ n : Nat, mcut (mpOf r) r.f0 n = (bytesOf r.f2).take n := fun n => by
    unfold mcut
    rw [ha, Int.sub_self]
    rfl
  refine ⟨?_, ?_, ?_, hs1, hs2, ?_⟩
  · unfold mtext
    rw [if_neg (by omega), if_neg (by omega), mat_of h3 hl hi (has_ _ (Int.le_refl _))]
    simp only [e0]
    rw [Int.toNat_natCast, List.take_of_length_le (by rw [bytesOf_length]; exact Nat.le_refl _), str_bytes]
  · unfold mtext
    by_cases hb : ((r.f2.size : Int) + 1 < 0 ∨ (r.f2.size : Int) + 1 > 65536)
    · rw [if_pos hb]; decide
    · rw [if_neg hb, if_neg (by omega), mat_not h3 hl hi (has_ 1 (by omega)) (n := (r.f2.size : Int) + 1) (by unfold MP.has; rw [ha, hlen]; omega)]
      exact show (4 : Int) ≠ 0 by decide
  · unfold mload
    rw [if_pos (.inl rfl), mat_of h3 hl hi (has_ 1 (by omega))]
    have e1 : (1 : Int).toNat = 1 := rfl
    simp only [e1]
    rw [cut_one _ _ (by rw [ha, hlen]; omega), ha, Int.sub_self]
    have := rd_bytesOf r.f2 0
    rw [← this]
    rfl
  · unfold mstore
    rw [if_pos (.inl rfl), mat_of h3 hl hi (has_ 1 (by omega))]
    simp only
    by_cases hk : r.f1 = 3
    · rw [if_pos (show (mpOf r).k = 3 from hk), if_pos hk]
    · rw [if_neg (show ¬ (mpOf r).k = 3 from hk), if_neg hk]
theorem parts_pure {L : List MP} (h : apartB L = true) (hg : ∀ p, p ∈ L → p.good) (x : Int) (hx : 0 ≤ x) :
    ((mload L x 8).1 = 0 ∧ (mload L x 8).2 = 4 ∧ (mtext L x 8).2 = 4) ∨ ∃ d : List Int, d.length = 8 ∧ isB d ∧ mload L x 8 = (leV d, 0) ∧ mtext L x 8 = (strOfNums d, 0) ∧ (∀ k : Nat, k < 8 → mload L (x + k) 1 = (d.getD k 0, 0)) ∧
      (((mword L x).2 ≠ 0 ∧ (mword L x).1 = 0) ∨ mword L x = (leV (d.take 4), 0)) := by
  have hl : ∀ p, p ∈ L → 1 ≤ p.d.length := fun p hp => (hg p hp).2.2.2.2.1
  cases hm : mat_ L x 8 with
  | none =>
    left
    unfold mload mtext
    rw [if_pos (.inr rfl), if_neg (by decide), if_neg (by decide), hm]
    exact ⟨rfl, rfl, rfl⟩
  | some q =>
    obtain ⟨i, p⟩ := q
    obtain ⟨h1, h2, h3⟩ := mat_some hm
    simp only at h1 h2
    have hgp := hg p (List.mem_of_getElem? h1)
    obtain ⟨x1, x2, x3⟩ := h2
    have hlen : (mcut p x 8).length = 8 := by unfold mcut; rw [List.length_take, List.length_drop]; omega
    right
    refine ⟨mcut p x 8, hlen, fun y hy => hgp.2.2.2.2.2.2 y (List.mem_of_mem_drop (List.mem_of_mem_take hy)), ?_, ?_, ?_, ?_⟩
    · unfold mload
      rw [if_pos (.inr rfl), hm]
      rfl
    · unfold mtext
      rw [if_neg (by decide), if_neg (by decide), hm]
      rfl
    · intro k hk
      unfold mload
      rw [if_pos (.inl rfl), mat_of h hl h1 (x := x + k) (n := 1) (by unfold MP.has; omega)]
      have e1 : (1 : Int).toNat = 1 := rfl
      simp only [e1]
      rw [cut_one _ _ (by omega)]
      unfold mcut
      simp only [List.getD, List.getElem?_take, if_pos hk, List.getElem?_drop]
      rw [show (x - p.a).toNat + k = (x + (k : Int) - p.a).toNat by omega]
    · unfold mword
      by_cases h4 : x % 4 = 0
      · rw [if_pos h4, mat_of h hl h1 (x := x) (n := 4) (by unfold MP.has; omega)]
        simp only
        by_cases hk : p.k = 1
        · rw [if_pos hk]
          right
          have : mcut p x 4 = (mcut p x 8).take 4 := by unfold mcut; rw [List.take_take]; rfl
          rw [this]
        · rw [if_neg hk]
          left
          exact ⟨by decide, rfl⟩
      · rw [if_neg h4]
        left
        exact ⟨by decide, rfl⟩
theorem bytes_str (d : List Int) (h : isB d) : bytesOf (strOfNums d) = d := by
  unfold bytesOf
  rw [strOfNums_data, List.map_map]
  refine (List.map_congr_left fun x hx => ?_).trans (List.map_id d)
  have := h x hx
  simp only [Function.comp, id, UInt8.toNat_ofNat']
  omega
theorem bt_str (d : List Int) (h : isB d) (i : Nat) : bt (strOfNums d) i = d.getD i 0 := by
  rw [← rd_bytesOf, bytes_str d h]
  unfold rd
  rw [Int.toNat_natCast]
theorem leV_drop (d : List Int) (h : isB d) (i : Nat) (hi : i < d.length) : leV (d.drop i) % 256 = d.getD i 0 ∧ leV (d.drop i) / 256 = leV (d.drop (i + 1)) := by
  rw [List.drop_eq_getElem_cons hi]
  have := h _ (List.getElem_mem hi)
  show (d[i] + 256 * leV (d.drop (i + 1))) % 256 = _ ∧ (d[i] + 256 * leV (d.drop (i + 1))) / 256 = _
  simp only [List.getD, List.getElem?_eq_getElem hi, Option.getD_some]
  omega
theorem take4_str (d : List Int) : (strOfNums d).extract 0 4 = strOfNums (d.take 4) := by
  unfold strOfNums
  apply ByteArray.ext
  simp [List.map_take]
theorem number_step (k : Nat) (s : ByteArray) (v i p : Int) (h : i < s.size) (h8 : i < 8) (h0 : 0 ≤ i) (hp : cleatref01_Power.f k (wrap64 (8 * i)) = some p) :
    cleatref07_Number.l0 (k + 1) s v i = cleatref07_Number.l0 k s (IntKind.u64.wrap (v + IntKind.u64.wrap (IntKind.u64.wrap (bt s i) * p))) (wrap64 (i + 1)) := by
  simp only [cleatref07_Number.l0]
  rw [if_pos h, if_pos h8, if_pos h0, hp]
  rfl
theorem number_end (k : Nat) (s : ByteArray) (v i : Int) (h : ¬ i < s.size) : cleatref07_Number.l0 (k + 1) s v i = some v := by
  simp only [cleatref07_Number.l0]
  rw [if_neg h]
theorem number4 (d : List Int) (hB : isB d) (h : d.length = 4) : cleatref07_Number.f 40 (strOfNums d) = some (leV d) := by
  have hs : (strOfNums d).size = 4 := by rw [strOfNums_size, h]
  have hb := fun i => bt_str d hB i
  match d, h with
  | [b0, b1, b2, b3], _ =>
    have c0 := hB b0 (by simp)
    have c1 := hB b1 (by simp)
    have c2 := hB b2 (by simp)
    have c3 := hB b3 (by simp)
    have e0 : bt (strOfNums [b0, b1, b2, b3]) 0 = b0 := hb 0
    have e1 : bt (strOfNums [b0, b1, b2, b3]) 1 = b1 := hb 1
    have e2 : bt (strOfNums [b0, b1, b2, b3]) 2 = b2 := hb 2
    have e3 : bt (strOfNums [b0, b1, b2, b3]) 3 = b3 := hb 3
    unfold cleatref07_Number.f
    rw [number_step 39 _ 0 0 1 (by rw [hs]; decide) (by decide) (by decide) (by decide +kernel), show wrap64 (0 + 1) = 1 by unfold wrap64; omega, number_step 38 _ _ 1 256 (by rw [hs]; decide) (by decide) (by decide) (by decide +kernel), show wrap64 (1 + 1) = 2 by unfold wrap64; omega,
      number_step 37 _ _ 2 65536 (by rw [hs]; decide) (by decide) (by decide) (by decide +kernel), show wrap64 (2 + 1) = 3 by unfold wrap64; omega, number_step 36 _ _ 3 16777216 (by rw [hs]; decide) (by decide) (by decide) (by decide +kernel), show wrap64 (3 + 1) = 4 by unfold wrap64; omega]
    rw [number_end 35 _ _ 4 (by rw [hs]; decide), e0, e1, e2, e3]
    rw [show leV [b0, b1, b2, b3] = b0 + 256 * (b1 + 256 * (b2 + 256 * (b3 + 256 * 0))) from rfl]
    rw [IntKind.wrap_u64, IntKind.wrap_u64, IntKind.wrap_u64, IntKind.wrap_u64, IntKind.wrap_u64, IntKind.wrap_u64, IntKind.wrap_u64, IntKind.wrap_u64, IntKind.wrap_u64, IntKind.wrap_u64, IntKind.wrap_u64, IntKind.wrap_u64]
    congr 1
    omega
end Go.Proofs.Ytkpkkjbigndnoaa.MW
