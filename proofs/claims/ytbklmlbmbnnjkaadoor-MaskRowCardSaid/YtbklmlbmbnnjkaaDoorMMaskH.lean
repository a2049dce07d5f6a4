/- Masks by their bits (chapter 2): turned round, rotated, rows of ones. -/
import Derived.Test.YtbklmlbmbnnjkaaDoorMMaskG
namespace Go.Proofs.YtbklmlbmbnnjkaaDoor.M
open Go.RowKit Go.Proofs.YtbklmlbmbnnjkaaDoor.P Go.Proofs.YtbklmlbmbnnjkaaDoorW.PrintWords Go.Proofs.YtbklmlbmbnnjkaaDoorW.PrintLast Go.Proofs.YtbklmlbmbnnjkaaDoorW.PrintMore

theorem eq_of_bits64 {x y : Nat} (hx : x < 2 ^ 64) (hy : y < 2 ^ 64) (h : ∀ i, i < 64 → x.testBit i = y.testBit i) : x = y := by
  apply Nat.eq_of_testBit_eq
  intro i
  by_cases hi : i < 64
  · exact h i hi
  · have hp : (2 : Nat) ^ 64 ≤ 2 ^ i := Nat.pow_le_pow_right (by decide) (by omega)
    rw [Nat.testBit_lt_two_pow (Nat.lt_of_lt_of_le hx hp), Nat.testBit_lt_two_pow (Nat.lt_of_lt_of_le hy hp)]
theorem ones_bit (o i : Nat) : (2 ^ o - 1 : Nat).testBit i = decide (i < o) := Nat.testBit_two_pow_sub_one o i
theorem mask_bit (s o r i : Nat) (hs : Sz s) (ho : o < s) (hr : r < s) (hi : i < 64) : (maskN s o r).testBit i = decide ((i + r) % s < o) := by
  have h := rot_mask_lt o r s ho hr
  have hp := hs.pos
  unfold maskN
  rw [rep_bit _ s i hs h.2 hi, rot_bit _ r s _ hr h.1 (Nat.mod_lt _ (by omega)), ones_bit, Nat.mod_add_mod]
theorem mask_lt (s o r : Nat) (hs : Sz s) (ho : o < s) (hr : r < s) : maskN s o r < 2 ^ 64 := rep_lt _ s hs (rot_mask_lt o r s ho hr).2

/-- Is a number a mask? -/
def IsM (v : Nat) : Prop := ∃ s o r, Sz s ∧ 0 < o ∧ o < s ∧ r < s ∧ v = maskN s o r
theorem is_iff (k v : Nat) (hk : 700 ≤ k) (hv : v < 2 ^ 64) : ∃ b : Bool, mask_Is.f k (v : Int) = some b ∧ (b = true ↔ IsM v) := by
  rcases enc_cases k v hk hv with ⟨s, o, r, hs, h1, h2, h3, h4, _, he, _⟩ | ⟨_, he, _⟩
  · exact ⟨true, is_of_enc he, by simp only [true_iff]; exact ⟨s, o, r, hs, h1, h2, h3, h4⟩⟩
  · refine ⟨false, is_of_none he, ?_⟩
    simp only [Bool.false_eq_true, false_iff]
    rintro ⟨s, o, r, hs, h1, h2, h3, rfl⟩
    rw [told_spec k s o r (by omega) hs h1 h2 h3] at he
    have := (Prod.mk.inj (Prod.mk.inj (Prod.mk.inj (Option.some.inj he)).2).2).2
    omega

/-- A number is its lowest s bits again and again. -/
theorem isRep_iff (v s : Nat) (hs : Sz s) (hv : v < 2 ^ 64) : isRep v s = true ↔ ∀ i, i < 64 → v.testBit i = v.testBit (i % s) := by
  have hm : v % 2 ^ s < 2 ^ s := Nat.mod_lt _ (Nat.two_pow_pos s)
  have hp := hs.pos
  have low : ∀ i, (v % 2 ^ s).testBit (i % s) = v.testBit (i % s) := fun i => by
    rw [Nat.testBit_mod_two_pow, decide_eq_true (Nat.mod_lt i (by omega)), Bool.true_and]
  unfold isRep
  rw [beq_iff_eq]
  constructor
  · intro h i hi
    have := rep_bit (v % 2 ^ s) s i hs hm hi
    rw [h, low] at this
    exact this
  · intro h
    refine eq_of_bits64 (rep_lt _ s hs hm) hv fun i hi => ?_
    rw [rep_bit _ s i hs hm hi, low, h i hi]
theorem size_of_rep {v w : Nat} (h : ∀ s, Sz s → isRep v s = isRep w s) : sizeV v = sizeV w := by
  unfold sizeV
  rw [h 2 (by simp [Sz]), h 4 (by simp [Sz]), h 8 (by simp [Sz]), h 16 (by simp [Sz]), h 32 (by simp [Sz])]
theorem rep_iff_eq {v w : Nat} {s : Nat} (h : isRep v s = true ↔ isRep w s = true) : isRep v s = isRep w s := by
  rw [Bool.eq_iff_iff]; exact h

/-- All bits turned round. -/
def other (v : Nat) : Nat := 2 ^ 64 - 1 - v
theorem other_lt (v : Nat) : other v < 2 ^ 64 := by unfold other; omega
theorem other_bit (v i : Nat) (hv : v < 2 ^ 64) (hi : i < 64) : (other v).testBit i = !v.testBit i := by
  unfold other
  rw [Nat.sub_sub, Nat.add_comm 1 v, Nat.testBit_two_pow_sub_succ hv, decide_eq_true hi, Bool.true_and]
theorem other_other (v : Nat) (hv : v < 2 ^ 64) : other (other v) = v := by unfold other; omega
theorem other_rep (v s : Nat) (hs : Sz s) (hv : v < 2 ^ 64) : isRep (other v) s = isRep v s := by
  apply rep_iff_eq
  rw [isRep_iff _ s hs (other_lt v), isRep_iff _ s hs hv]
  have hp := hs.pos
  have hsl := hs.le
  constructor <;> intro h i hi
  · have := h i hi
    rw [other_bit v i hv hi, other_bit v _ hv (by have := Nat.mod_lt i (show s > 0 by omega); omega)] at this
    simpa using this
  · rw [other_bit v i hv hi, other_bit v _ hv (by have := Nat.mod_lt i (show s > 0 by omega); omega), h i hi]
theorem other_size (v : Nat) (hv : v < 2 ^ 64) : sizeV (other v) = sizeV v := size_of_rep fun s hs => other_rep v s hs hv
theorem turn_mod (i r s o : Nat) (hs : 0 < s) (ho : 0 < o) (hos : o < s) (hr : r < s) : (i + (r + s - o) % s) % s < s - o ↔ ¬ (i + r) % s < o := by
  have e : (i + (r + s - o) % s) % s = ((i + r) % s + (s - o)) % s := by
    rw [Nat.add_mod_mod, Nat.mod_add_mod]; congr 1; omega
  rw [e]
  have ht := Nat.mod_lt (i + r) hs
  generalize (i + r) % s = t at *
  by_cases h : t < o
  · rw [Nat.mod_eq_of_lt (by omega)]; omega
  · rw [Nat.mod_eq_sub_mod (by omega), Nat.mod_eq_of_lt (by omega)]; omega
theorem other_mask_to (v : Nat) (h : IsM v) : IsM (other v) := by
  obtain ⟨s, o, r, hs, h1, h2, h3, rfl⟩ := h
  have hp := hs.pos
  refine ⟨s, s - o, (r + s - o) % s, hs, by omega, by omega, Nat.mod_lt _ (by omega), ?_⟩
  refine eq_of_bits64 (other_lt _) (mask_lt _ _ _ hs (by omega) (Nat.mod_lt _ (by omega))) fun i hi => ?_
  rw [other_bit _ i (mask_lt _ _ _ hs h2 h3) hi, mask_bit s o r i hs h2 h3 hi, mask_bit s _ _ i hs (by omega) (Nat.mod_lt _ (by omega)) hi, ← decide_not, decide_eq_decide]
  exact (turn_mod i r s o (by omega) h1 h2 h3).symm
theorem other_mask (v : Nat) (hv : v < 2 ^ 64) : IsM (other v) ↔ IsM v :=
  ⟨fun h => by have := other_mask_to _ h; rwa [other_other v hv] at this, other_mask_to v⟩
theorem cnt_other : ∀ (n x : Nat), x < 2 ^ n → cnt n x + cnt n (2 ^ n - 1 - x) = n
  | 0, _, _ => rfl
  | n + 1, x, h => by
    have e : (2 : Nat) ^ (n + 1) = 2 * 2 ^ n := by rw [Nat.pow_succ, Nat.mul_comm]
    have ih := cnt_other n (x / 2) (by omega)
    unfold cnt
    rw [show (2 ^ (n + 1) - 1 - x) / 2 = 2 ^ n - 1 - x / 2 by omega, show (2 ^ (n + 1) - 1 - x) % 2 = 1 - x % 2 by omega]
    omega

/-- A rotated one. -/
theorem rot_rep_to (v b s : Nat) (hs : Sz s) (hb : b < 64) (hv : v < 2 ^ 64) (h : isRep v s = true) : isRep (rotN v b 64) s = true := by
  rw [isRep_iff _ s hs (rot_lt v b 64 (by omega) hv)]
  rw [isRep_iff _ s hs hv] at h
  have hp := hs.pos
  have hsl := hs.le
  intro i hi
  have hm := Nat.mod_lt i (show s > 0 by omega)
  rw [rot_bit v b 64 i hb hv hi, rot_bit v b 64 _ hb hv (by omega), h _ (Nat.mod_lt _ (by decide)), h ((i % s + b) % 64) (Nat.mod_lt _ (by decide)),
    Nat.mod_mod_of_dvd _ hs.dvd, Nat.mod_mod_of_dvd _ hs.dvd, Nat.mod_add_mod]
theorem rot_rep (v b s : Nat) (hs : Sz s) (hb : b < 64) (hv : v < 2 ^ 64) : isRep (rotN v b 64) s = isRep v s := by
  apply rep_iff_eq
  refine ⟨fun h => ?_, rot_rep_to v b s hs hb hv⟩
  have := rot_rep_to _ ((64 - b) % 64) s hs (Nat.mod_lt _ (by decide)) (rot_lt v b 64 (by omega) hv) h
  rwa [rot_back v b 64 hv hb] at this
theorem rot_size (v b : Nat) (hb : b < 64) (hv : v < 2 ^ 64) : sizeV (rotN v b 64) = sizeV v := size_of_rep fun s hs => rot_rep v b s hs hb hv
theorem rot_mask_to (v b : Nat) (hb : b < 64) (h : IsM v) : IsM (rotN v b 64) := by
  obtain ⟨s, o, r, hs, h1, h2, h3, rfl⟩ := h
  have hp := hs.pos
  have hl := mask_lt s o r hs h2 h3
  refine ⟨s, o, (b + r) % s, hs, h1, h2, Nat.mod_lt _ (by omega), ?_⟩
  refine eq_of_bits64 (rot_lt _ b 64 (by omega) hl) (mask_lt _ _ _ hs h2 (Nat.mod_lt _ (by omega))) fun i hi => ?_
  rw [rot_bit _ b 64 i hb hl hi, mask_bit s o r _ hs h2 h3 (Nat.mod_lt _ (by decide)), mask_bit s o _ i hs h2 (Nat.mod_lt _ (by omega)) hi, decide_eq_decide,
    Nat.add_mod_mod, Nat.add_mod, Nat.mod_mod_of_dvd _ hs.dvd, ← Nat.add_mod, Nat.add_assoc]
theorem rot_mask (v b : Nat) (hb : b < 64) (hv : v < 2 ^ 64) : IsM (rotN v b 64) ↔ IsM v := by
  refine ⟨fun h => ?_, rot_mask_to v b hb⟩
  have := rot_mask_to _ ((64 - b) % 64) (Nat.mod_lt _ (by decide)) h
  rwa [rot_back v b 64 hv hb] at this
theorem cnt_rot (v b : Nat) (hb : b < 64) (hv : v < 2 ^ 64) : cnt 64 (rotN v b 64) = cnt 64 v := by
  have h1 : v / 2 ^ b < 2 ^ (64 - b) := rot_hi v b 64 (by omega) hv
  have e1 : rotN v b 64 % 2 ^ (64 - b) = v / 2 ^ b := by
    unfold rotN; rw [Nat.mul_add_mod, Nat.mod_eq_of_lt h1]
  have e2 : rotN v b 64 / 2 ^ (64 - b) = v % 2 ^ b := by
    unfold rotN; rw [Nat.mul_add_div (Nat.two_pow_pos _), Nat.div_eq_of_lt h1, Nat.add_zero]
  have a1 := cnt_add (64 - b) b (rotN v b 64)
  have a2 := cnt_add b (64 - b) v
  rw [← cnt_mod (64 - b) (rotN v b 64), e1, e2, cnt_mod, show 64 - b + b = 64 by omega] at a1
  rw [show b + (64 - b) = 64 by omega] at a2
  omega

/-- What is as it was, rotated by t, is its lowest t bits again and again. -/
theorem rep_of_rot (v t : Nat) (ht : Sz t) (hlt : t < 64) (hv : v < 2 ^ 64) (h : rotN v t 64 = v) : isRep v t = true := by
  rw [isRep_iff v t ht hv]
  have hp := ht.pos
  intro i
  induction i using Nat.strongRecOn with
  | _ i ih =>
    intro hi
    by_cases h1 : i < t
    · rw [Nat.mod_eq_of_lt h1]
    · have h2 := ih (i - t) (by omega) (by omega)
      have h3 := rot_bit v t 64 (i - t) hlt hv (by omega)
      rw [h, Nat.sub_add_cancel (by omega), Nat.mod_eq_of_lt hi] at h3
      rw [← h3, h2, ← Nat.mod_eq_sub_mod (by omega)]
theorem rot_of_rep (v s : Nat) (hs : Sz s) (hv : v < 2 ^ 64) (h : isRep v s = true) : rotN v (s % 64) 64 = v := by
  have hp := hs.pos
  have hsl := hs.le
  rw [isRep_iff v s hs hv] at h
  refine eq_of_bits64 (rot_lt v _ 64 (by have := Nat.mod_lt s (show 64 > 0 by decide); omega) hv) hv fun i hi => ?_
  rw [rot_bit v _ 64 i (Nat.mod_lt _ (by decide)) hv hi, Nat.add_mod_mod, h _ (Nat.mod_lt _ (by decide)), Nat.mod_mod_of_dvd _ hs.dvd, Nat.add_mod_right, ← h i hi]
theorem half_sz (s : Nat) (hs : Sz s) (h2 : s ≠ 2) : Sz (s / 2) ∧ s / 2 < 64 ∧ s / 2 < s := by
  rcases hs with rfl | rfl | rfl | rfl | rfl | rfl <;> simp [Sz] at *

/-- Neither all bits nor none are a mask. -/
theorem not_mask_of (v : Nat) (b : Bool) (h : ∀ i, i < 64 → v.testBit i = b) : ¬ IsM v := by
  rintro ⟨s, o, r, hs, h1, h2, h3, rfl⟩
  have hp := hs.pos
  have hsl := hs.le
  have a := h ((s - r) % s) (by have := Nat.mod_lt (s - r) (show s > 0 by omega); omega)
  have c := h ((s - r + (s - 1)) % s) (by have := Nat.mod_lt (s - r + (s - 1)) (show s > 0 by omega); omega)
  have l1 := Nat.mod_lt (s - r) (show s > 0 by omega)
  have l2 := Nat.mod_lt (s - r + (s - 1)) (show s > 0 by omega)
  rw [mask_bit s o r _ hs h2 h3 (by omega), Nat.mod_add_mod, show s - r + r = s by omega, Nat.mod_self] at a
  rw [mask_bit s o r _ hs h2 h3 (by omega), Nat.mod_add_mod, show s - r + (s - 1) + r = s + (s - 1) by omega, Nat.add_mod_left, Nat.mod_eq_of_lt (by omega)] at c
  rw [decide_eq_true h1] at a
  rw [← a] at c
  have := of_decide_eq_true c
  omega
theorem rep_ones_bit (o s i : Nat) (hs : Sz s) (ho : o ≤ s) (hi : i < 64) : (rep (2 ^ o - 1) s).testBit i = decide (i % s < o) := by
  have hlt : 2 ^ o - 1 < 2 ^ s := by
    have := Nat.pow_le_pow_right (show 0 < 2 by decide) ho
    have := Nat.two_pow_pos o
    omega
  rw [rep_bit _ s i hs hlt hi, ones_bit]
theorem row_mask (o s : Nat) (hs : Sz s) (ho : o ≤ s) : IsM (rep (2 ^ o - 1) s) ↔ 0 < o ∧ o < s := by
  have hp := hs.pos
  have hlt : 2 ^ o - 1 < 2 ^ s := by
    have := Nat.pow_le_pow_right (show 0 < 2 by decide) ho
    have := Nat.two_pow_pos o
    omega
  constructor
  · intro h
    by_cases h0 : o = 0
    · exact absurd h (not_mask_of _ false fun i hi => by rw [rep_ones_bit o s i hs ho hi]; exact decide_eq_false (by omega))
    · by_cases h1 : o = s
      · exact absurd h (not_mask_of _ true fun i hi => by rw [rep_ones_bit o s i hs ho hi]; exact decide_eq_true (by have := Nat.mod_lt i (show s > 0 by omega); omega))
      · omega
  · rintro ⟨h1, h2⟩
    refine ⟨s, o, 0, hs, h1, h2, by omega, ?_⟩
    refine eq_of_bits64 (rep_lt _ s hs hlt) (mask_lt s o 0 hs h2 (by omega)) fun i hi => ?_
    rw [rep_ones_bit o s i hs ho hi, mask_bit s o 0 i hs h2 (by omega) hi, Nat.add_zero]
theorem gap_bit (o b i : Nat) (h : o ≤ b) : (2 ^ o - 1 + 2 ^ b : Nat).testBit i = (decide (i < o) || decide (i = b)) := by
  have hlt : 2 ^ o - 1 < 2 ^ b := by
    have := Nat.pow_le_pow_right (show 0 < 2 by decide) h
    have := Nat.two_pow_pos o
    omega
  have hb := Nat.testBit_two_pow_mul_add 1 hlt i
  rw [Nat.mul_one, Nat.add_comm, ones_bit] at hb
  rw [hb]
  by_cases h1 : i < b
  · rw [if_pos h1, decide_eq_false (show ¬ i = b by omega), Bool.or_false]
  · rw [if_neg h1, decide_eq_false (show ¬ i < o by omega), Bool.false_or]
    by_cases h2 : i = b
    · subst h2; rw [Nat.sub_self, decide_eq_true rfl]; rfl
    · rw [decide_eq_false h2, Nat.testBit_lt_two_pow]
      exact Nat.one_lt_two_pow (by omega)
/-- Two ones or more, and one more behind a gap, are no mask. -/
theorem gap_no_mask (o b : Nat) (h1 : 2 ≤ o) (h2 : o < b) (h3 : b < 63) : ¬ IsM (2 ^ o - 1 + 2 ^ b) := by
  rintro ⟨s, q, r, hs, k1, k2, k3, he⟩
  have hp := hs.pos
  have bit : ∀ i, i < 64 → ((i + r) % s < q ↔ (i < o ∨ i = b)) := fun i hi => by
    have e := gap_bit o b i (by omega)
    rw [he, mask_bit s q r i hs k2 k3 hi] at e
    have e2 := congrArg (· = true) e
    simp only [decide_eq_true_eq, Bool.or_eq_true] at e2
    exact Iff.of_eq e2
  have b0 := (bit 0 (by decide)).mpr (Or.inl (by omega))
  have b1 := (bit 1 (by decide)).mpr (Or.inl (by omega))
  have c0 := (bit b (by omega)).mpr (Or.inr rfl)
  have c1 := mt (bit (b + 1) (by omega)).mp (by omega)
  have c2 := mt (bit (b - 1) (by omega)).mp (by omega)
  have s1 : ∀ i, (i + 1 + r) % s = if (i + r) % s = s - 1 then 0 else (i + r) % s + 1 := fun i => by
    have hm := Nat.mod_lt (i + r) (show s > 0 by omega)
    rw [show i + 1 + r = (i + r) + 1 by omega, Nat.add_mod, Nat.mod_eq_of_lt (show 1 < s by omega)]
    split
    · rename_i h; rw [h, show s - 1 + 1 = s by omega, Nat.mod_self]
    · rw [Nat.mod_eq_of_lt (by omega)]
  have d1 := s1 b
  have d2 := s1 (b - 1)
  have d3 := s1 0
  rw [show b - 1 + 1 = b by omega] at d2
  rw [show 0 + 1 = 1 from rfl] at d3
  split at d1 <;> split at d2 <;> split at d3 <;> omega
theorem cnt_ones : ∀ (n o : Nat), o ≤ n → cnt n (2 ^ o - 1) = o
  | 0, o, h => by obtain rfl : o = 0 := by omega
                  rfl
  | n + 1, 0, _ => cnt_zero (n + 1)
  | n + 1, o + 1, h => by
    have e : (2 : Nat) ^ (o + 1) = 2 * 2 ^ o := by rw [Nat.pow_succ, Nat.mul_comm]
    have := Nat.two_pow_pos o
    unfold cnt
    rw [show (2 ^ (o + 1) - 1) / 2 = 2 ^ o - 1 by omega, cnt_ones n o (by omega)]
    omega
theorem cnt_one (n : Nat) (h : 0 < n) : cnt n 1 = 1 := by
  obtain ⟨m, rfl⟩ : ∃ m, n = m + 1 := ⟨n - 1, by omega⟩
  unfold cnt
  rw [cnt_zero]
theorem cnt_gap (o b : Nat) (h : o ≤ b) (hb : b < 64) : cnt 64 (2 ^ o - 1 + 2 ^ b) = o + 1 := by
  have hlt : 2 ^ o - 1 < 2 ^ b := by
    have := Nat.pow_le_pow_right (show 0 < 2 by decide) h
    have := Nat.two_pow_pos o
    omega
  have a := cnt_add b (64 - b) (2 ^ o - 1 + 2 ^ b)
  rw [show b + (64 - b) = 64 by omega, ← cnt_mod b, Nat.add_mod_right, Nat.mod_eq_of_lt hlt, cnt_ones b o h, Nat.add_div_right _ (Nat.two_pow_pos b), Nat.div_eq_of_lt hlt, cnt_one _ (by omega)] at a
  exact a
end Go.Proofs.YtbklmlbmbnnjkaaDoor.M
