/- Words and their operations (chapter 5): the bits of a shape's fields, and the one operation whose base is left beside them. -/
import Derived.Test.YtkpkkjbigndnoaaDoorMCodeT
import Derived.Test.YtkpkkjbigndnoaaDoorMInstA
import Derived.Test.YtkpkkjbigndnoaaDoorPx11
namespace Go.Proofs.YtkpkkjbigndnoaaDoor.M
open Go.RowKit Go.Proofs.YtkpkkjbigndnoaaDoor.P Go.Proofs.YtkpkkjbigndnoaaDoorW.PrintWords Go.Proofs.YtkpkkjbigndnoaaDoorW.PrintLast Go.Proofs.YtkpkkjbigndnoaaDoorW.PrintMore
set_option linter.unusedVariables false
set_option linter.unusedSimpArgs false
/-- The bits of a shape's fields. -/
def tL : List Nat := [0, 8388607, 8388607, 8388607, 14680063, 14680063, 2064383, 4194303, 4194303, 16777215, 1627389951, 67108863, 16777199, 992, 2097120, 0, 2094079]
theorem tL_at : ∀ s : Fin 17, wordV (onesL (partsOf ((s.val : Nat) : Int))) = (((tL.getD s.val 0 : Nat) : Int), 0) := by decide +kernel
theorem ones_good : ∀ s : Fin 17, (onesL (partsOf ((s.val : Nat) : Int))).length ≤ 40 ∧ (onesL (partsOf ((s.val : Nat) : Int))).all (fun f => decide (0 ≤ f.f2 ∧ f.f2 < 4294967296)) = true := by decide +kernel
theorem tL_lt : ∀ s : Fin 17, tL.getD s.val 0 < 4294967296 := by decide +kernel
def shp (i : Nat) : Nat := (inst_shape i).toNat
def baseN (i : Nat) : Nat := (baseL.getD i 0).toNat
theorem base_fin : ∀ i : Fin 40, baseL.getD i.val 0 = ((baseN i.val : Nat) : Int) ∧ baseN i.val < 4294967296 ∧ baseN i.val &&& tL.getD (shp i.val) 0 = 0 ∧ shp i.val ≤ 16 := by decide +kernel
theorem over_ones (k : Nat) (hk : 200 ≤ k) (s : Nat) (h : s ≤ 16) : code_over.f k 0 (onesL (partsOf (s : Int))) = some ((tL.getD s 0 : Nat) : Int) := by
  obtain ⟨h1, h2⟩ := ones_good ⟨s, by omega⟩
  have h3 := tL_at ⟨s, by omega⟩
  have h4 := tL_lt ⟨s, by omega⟩
  simp only at h1 h2 h3 h4
  unfold code_over.f
  rw [word_spec k _ hk h1 (fun f hf => by simpa [good] using List.all_eq_true.1 h2 f hf), Option.bind_some, h3, if_pos rfl]
  congr 1
  have := u32_or_nat 0 (tL.getD s 0) (by omega) h4
  simpa using this
/-- Is a word one of this operation? -/
def has (w i : Nat) : Prop := w &&& (4294967295 - tL.getD (shp i) 0) = baseN i
instance (w i : Nat) : Decidable (has w i) := by unfold has; infer_instance
def opF (w : Nat) : Nat → Nat → Nat
  | 0, _ => 0
  | d + 1, i => if i = 0 then opF w d (i + 1) else if has w i then i else opF w d (i + 1)
theorem shapeN_at (i : Nat) (h1 : 1 ≤ i) (h2 : i < 40) : shapeN (i : Int) = shp i := by
  unfold shapeN shp
  rw [if_neg (by omega), if_neg (by omega), Int.toNat_natCast]
theorem opGo_at (k : Nat) (hk : 200 ≤ k) (w : Nat) (hw : w < 4294967296) : ∀ d i, i + d = 40 → opGo k (w : Int) d i = some ((opF w d i : Nat) : Int)
  | 0, _, _ => rfl
  | d + 1, i, h => by
    unfold opGo opF
    rw [shape_at, Option.bind_some]
    by_cases h0 : i = 0
    · rw [if_pos h0, if_pos h0]; exact opGo_at k hk w hw d (i + 1) (by omega)
    · obtain ⟨b1, b2, b3, b4⟩ := base_fin ⟨i, by omega⟩
      simp only at b1 b2 b3 b4
      have h4 := tL_lt ⟨shp i, by omega⟩
      simp only at h4
      rw [if_neg h0, if_neg h0, shapeN_at i (by omega) (by omega), over_ones k hk _ b4, Option.bind_some, u32_andNot_nat _ _ hw h4, b1]
      by_cases hh : has w i
      · rw [if_pos hh, if_pos (by unfold has at hh; rw [hh])]
      · rw [if_neg hh, if_neg (by intro e; apply hh; unfold has; omega)]
        exact opGo_at k hk w hw d (i + 1) (by omega)
theorem op_at (k : Nat) (hk : 200 ≤ k) (w : Nat) (hw : w < 4294967296) : code_Opcode.f k (w : Int) = some ((opF w 40 0 : Nat) : Int) := opGo_at k hk w hw 40 0 rfl
theorem uniq_fin : ∀ i j : Fin 40, 1 ≤ i.val → 1 ≤ j.val → i.val ≠ j.val → baseN i.val &&& (4294967295 - tL.getD (shp j.val) 0) ≠ baseN j.val &&& (4294967295 - tL.getD (shp i.val) 0) := by decide +kernel
theorem has_uniq (w i j : Nat) (hi : has w i) (hj : has w j) (i1 : 1 ≤ i) (i2 : i < 40) (j1 : 1 ≤ j) (j2 : j < 40) : i = j := by
  apply Classical.byContradiction
  intro hne
  apply uniq_fin ⟨i, i2⟩ ⟨j, j2⟩ i1 j1 hne
  simp only
  unfold has at hi hj
  rw [← hi, ← hj, Nat.and_assoc, Nat.and_assoc, Nat.and_comm (4294967295 - tL.getD (shp i) 0)]
theorem opF_of (w i : Nat) (hi : has w i) (i1 : 1 ≤ i) (i2 : i < 40) : ∀ d j, j + d = 40 → j ≤ i → opF w d j = i
  | 0, j, h, hj => by omega
  | d + 1, j, h, hj => by
    unfold opF
    by_cases h0 : j = 0
    · rw [if_pos h0]; exact opF_of w i hi i1 i2 d (j + 1) (by omega) (by omega)
    · rw [if_neg h0]
      by_cases hh : has w j
      · rw [if_pos hh]; exact has_uniq w j i hh hi (by omega) (by omega) i1 i2
      · rw [if_neg hh]
        have : j ≠ i := by rintro rfl; exact hh hi
        exact opF_of w i hi i1 i2 d (j + 1) (by omega) (by omega)
theorem of_opF (w : Nat) : ∀ d j, j + d = 40 → opF w d j ≠ 0 → 1 ≤ opF w d j ∧ opF w d j < 40 ∧ has w (opF w d j)
  | 0, j, h, hn => absurd rfl hn
  | d + 1, j, h, hn => by
    unfold opF at hn ⊢
    by_cases h0 : j = 0
    · rw [if_pos h0] at hn ⊢; exact of_opF w d (j + 1) (by omega) hn
    · rw [if_neg h0] at hn ⊢
      by_cases hh : has w j
      · rw [if_pos hh]; exact ⟨by omega, by omega, hh⟩
      · rw [if_neg hh] at hn ⊢; exact of_opF w d (j + 1) (by omega) hn
/-- The fields' bits stay within them. -/
theorem orW_sub : ∀ (L : List Fld) (t t' w : Nat), scan L t = some t' → L.any bigF = false → (∀ i, w.testBit i = true → t.testBit i = true) →
    (∀ i, (orW L w).testBit i = true → t'.testBit i = true) ∧ (∀ i, t.testBit i = true → t'.testBit i = true) ∧ (∀ i, t'.testBit i = true → t.testBit i = true ∨ ∃ f, f ∈ L ∧ (mskN f).testBit i = true) ∧ ∀ f, f ∈ L → ∀ i, (mskN f).testBit i = true → t'.testBit i = true
  | [], t, t', w, hs, _, hsub => by
    unfold scan at hs
    obtain rfl := Option.some.inj hs
    exact ⟨hsub, fun _ h => h, fun _ h => .inl h, fun f hf => absurd hf (by simp)⟩
  | g :: l, t, t', w, hs, hb, hsub => by
    unfold scan at hs
    simp only [List.any_cons, Bool.or_eq_false_iff] at hb
    by_cases h1 : okF g = true
    · rw [if_pos h1] at hs
      by_cases h2 : t &&& mskN g = 0
      · rw [if_pos h2] at hs
        obtain ⟨i1, i2, i3, i4⟩ := orW_sub l (t ||| mskN g) t' (w ||| bitsN g) hs hb.2 (by
          intro i hi
          rw [Nat.testBit_or] at hi ⊢
          cases a : w.testBit i with
          | true => rw [hsub i a]; rfl
          | false => rw [a, Bool.false_or] at hi; rw [bits_sub g hb.1 i hi, Bool.or_true])
        refine ⟨i1, fun i hi => i2 i (by rw [Nat.testBit_or, hi]; rfl), fun i hi => ?_, fun f hf i hi => ?_⟩
        · rcases i3 i hi with h | ⟨f, hf, h⟩
          · rw [Nat.testBit_or] at h
            cases a : t.testBit i with
            | true => exact .inl rfl
            | false => rw [a, Bool.false_or] at h; exact .inr ⟨g, List.mem_cons_self .., h⟩
          · exact .inr ⟨f, List.mem_cons_of_mem _ hf, h⟩
        · rcases List.mem_cons.1 hf with rfl | hf
          · exact i2 i (by rw [Nat.testBit_or, hi, Bool.or_true])
          · exact i4 f hf i hi
      · rw [if_neg h2] at hs; exact absurd hs (by simp)
    · rw [if_neg h1] at hs; exact absurd hs (by simp)
theorem mask_bit (t i : Nat) (ht : t < 4294967296) (hi : i < 32) : (4294967295 - t).testBit i = !t.testBit i := by
  rw [show (4294967295 : Nat) - t = 2 ^ 32 - (t + 1) by omega, Nat.testBit_two_pow_sub_succ (by omega)]
  simp [hi]
/-- A word out of an operation's base and its fields: it is of this operation, and reads each field. -/
theorem word_has (op : Nat) (o1 : 1 ≤ op) (o2 : op < 40) (L : List Fld) (hs : scan L 0 = some (tL.getD (shp op) 0)) (hb : L.any bigF = false) :
    baseN op ||| orW L 0 < 4294967296 ∧ has (baseN op ||| orW L 0) op ∧ ∀ f, f ∈ L → (baseN op ||| orW L 0) / 2 ^ f.f0.toNat % 2 ^ f.f1.toNat = f.f2.toNat := by
  obtain ⟨-, b2, b3, b4⟩ := base_fin ⟨op, o2⟩
  simp only at b2 b3 b4
  have ht := tL_lt ⟨shp op, by omega⟩
  simp only at ht
  obtain ⟨-, hw, -, hf⟩ := word_fold L 0 _ 0 hs hb (by decide) (by decide) (by simp)
  obtain ⟨hsub, -, -, hin⟩ := orW_sub L 0 _ 0 hs hb (by simp)
  have e32 : (2 : Nat) ^ 32 = 4294967296 := by decide
  have hlt : baseN op ||| orW L 0 < 2 ^ 32 := Nat.or_lt_two_pow (by omega) hw
  have hbase : ∀ i, (tL.getD (shp op) 0).testBit i = true → (baseN op).testBit i = false := fun i hi => by
    cases c : (baseN op).testBit i with
    | false => rfl
    | true => exact absurd ⟨c, hi⟩ (and_zero_bits _ _ b3 i)
  refine ⟨by omega, ?_, ?_⟩
  · unfold has
    apply Nat.eq_of_testBit_eq
    intro i
    rw [Nat.testBit_and, Nat.testBit_or]
    by_cases hi : i < 32
    · rw [mask_bit _ i ht hi]
      cases c : (tL.getD (shp op) 0).testBit i with
      | true => rw [hbase i c]; simp
      | false =>
        have : (orW L 0).testBit i = false := by
          cases d : (orW L 0).testBit i with
          | false => rfl
          | true => rw [hsub i d] at c; cases c
        rw [this]; simp
    · have hz : ∀ x : Nat, x < 2 ^ 32 → x.testBit i = false := fun x hx => Nat.testBit_lt_two_pow (Nat.lt_of_lt_of_le hx (Nat.pow_le_pow_right (by decide) (by omega)))
      rw [hz (baseN op) (by omega), hz _ hw]; rfl
  · intro f hfm
    apply Nat.eq_of_testBit_eq
    intro i
    rw [Nat.testBit_mod_two_pow, Nat.testBit_div_two_pow, Nat.testBit_or]
    have hbig : f.f2.toNat < 2 ^ f.f1.toNat := by
      have := List.any_eq_false.1 hb f hfm
      unfold bigF at this
      simp at this
      omega
    by_cases hi : i < f.f1.toNat
    · rw [Nat.add_comm i, hf f hfm i hi]
      have : (tL.getD (shp op) 0).testBit (f.f0.toNat + i) = true := hin f hfm _ (by rw [msk_bit, decide_eq_true_eq]; omega)
      rw [hbase _ this]; simp [hi]
    · rw [Nat.testBit_lt_two_pow (Nat.lt_of_lt_of_le hbig (Nat.pow_le_pow_right (by decide) (by omega)))]
      simp [hi]
end Go.Proofs.YtkpkkjbigndnoaaDoor.M
