/- A word's fields, put into an instruction: what it tells of them (chapter 5). -/
import Derived.Test.YtkpkkjbigndnoaaDoorMCodeF
import Derived.Test.YtkpkkjbigndnoaaDoorMMaskX
namespace Go.Proofs.YtkpkkjbigndnoaaDoor.M
open Go.RowKit Go.Proofs.YtkpkkjbigndnoaaDoor.P Go.Proofs.YtkpkkjbigndnoaaDoorW.PrintWords Go.Proofs.YtkpkkjbigndnoaaDoorW.PrintLast Go.Proofs.YtkpkkjbigndnoaaDoorW.PrintMore
set_option linter.unusedVariables false
set_option linter.unusedSimpArgs false
def t3 (v : PD → Int) : T3 := ⟨v (.mk 0), v (.mk 1), v (.mk 2)⟩
set_option maxHeartbeats 4000000 in
theorem put_back (k : Nat) (o ms : Int) (s : Nat) (v : PD → Int) (hs : s ≤ 16) (hf : ∀ p, p ∈ partsOf (s : Int) → fitP p (v p)) (hm : s = 3 → mask_Decode.f k (v (.mk 0)) (v (.mk 1)) (v (.mk 2)) = some (ms, 0)) :
    ∃ c : CI, puts k v (partsOf (s : Int)) ⟨o, 0, 0, 0, 0, 0, 0, 0, 0, 0⟩ ⟨0, 0, 0⟩ = some (0, c) ∧ c.o = o ∧ (c.ms = if s = 3 then ms else 0) ∧ ∀ p, p ∈ partsOf (s : Int) → valP c (t3 v) p = v p := by
  have hs : s = 0 ∨ s = 1 ∨ s = 2 ∨ s = 3 ∨ s = 4 ∨ s = 5 ∨ s = 6 ∨ s = 7 ∨ s = 8 ∨ s = 9 ∨ s = 10 ∨ s = 11 ∨ s = 12 ∨ s = 13 ∨ s = 14 ∨ s = 15 ∨ s = 16 := by omega
  rcases hs with rfl | rfl | rfl | rfl | rfl | rfl | rfl | rfl | rfl | rfl | rfl | rfl | rfl | rfl | rfl | rfl | rfl
  all_goals simp [partsOf, fitP, PD.n_, PD.sg_] at hf
  all_goals (try simp at hm)
  all_goals simp [partsOf, puts, PD.put, valP, t3]
  all_goals (try rw [hm])
  all_goals first
    | omega
    | (rw [or4 _ _ (by omega) (by omega) (by omega) (by omega)]; omega)
    | (simp [wrap64]; done)
    | (simp [wrap64]; omega)
theorem put_fell (k : Nat) (o : Int) (v : PD → Int) (hm : mask_Decode.f k (v (.mk 0)) (v (.mk 1)) (v (.mk 2)) = some (0, 3)) :
    ∃ c : CI, puts k v (partsOf ((3 : Nat) : Int)) ⟨o, 0, 0, 0, 0, 0, 0, 0, 0, 0⟩ ⟨0, 0, 0⟩ = some (3, c) := by
  simp [partsOf, puts, PD.put]
  rw [hm]
  simp
theorem ones_big : ∀ s : Fin 17, (onesL (partsOf ((s.val : Nat) : Int))).any bigF = false := by decide +kernel
/-- Two words of one operation with the same in its fields are the same. -/
theorem word_ext (op : Nat) (o2 : op < 40) (V W : Nat) (hV : V < 4294967296) (hW : W < 4294967296) (h1 : has V op) (h2 : has W op) (hr : ∀ p, p ∈ partsOf ((shp op : Nat) : Int) → rawP (V : Int) p = rawP (W : Int) p) : V = W := by
  obtain ⟨-, -, -, b4⟩ := base_fin ⟨op, o2⟩
  simp only at b4
  have ht := tL_lt ⟨shp op, by omega⟩
  simp only at ht
  have hsc := scan_fin ⟨shp op, by omega⟩
  simp only at hsc
  have hsub := orW_sub (onesL (partsOf ((shp op : Nat) : Int))) 0 (tL.getD (shp op) 0) 0 hsc (ones_big ⟨shp op, by omega⟩) (by simp)
  obtain ⟨-, -, h3, -⟩ := hsub
  apply Nat.eq_of_testBit_eq
  intro i
  by_cases hi : i < 32
  · cases c : (tL.getD (shp op) 0).testBit i with
    | false =>
      have m1 := congrArg (fun x => Nat.testBit x i) h1
      have m2 := congrArg (fun x => Nat.testBit x i) h2
      simp only [Nat.testBit_and, mask_bit _ i ht hi, c, Bool.not_false, Bool.and_true] at m1 m2
      rw [m1, m2]
    | true =>
      rcases h3 i c with h | ⟨f, hf, h⟩
      · simp at h
      · obtain ⟨p, hp, rfl⟩ := List.mem_map.1 hf
        obtain ⟨s1, s2, s3, s4⟩ := sized_all ⟨shp op, by omega⟩ p hp
        have e := hr p hp
        rw [msk_bit, decide_eq_true_eq] at h
        simp only at h
        unfold rawP at e
        have hc : ∀ x a n : Nat, ((x : Nat) : Int) / 2 ^ a % 2 ^ n = ((x / 2 ^ a % 2 ^ n : Nat) : Int) := fun x a n => by simp
        rw [hc, hc] at e
        have e' := congrArg (fun x => Nat.testBit x (i - p.at_.toNat)) (Int.ofNat.inj e)
        simp only [Nat.testBit_mod_two_pow, Nat.testBit_div_two_pow] at e'
        have hd : i - p.at_.toNat < p.n_.toNat := by omega
        have hadd : i - p.at_.toNat + p.at_.toNat = i := by omega
        simpa [hd, hadd] using e'
  · have hz : ∀ x : Nat, x < 4294967296 → x.testBit i = false := fun x hx => Nat.testBit_lt_two_pow (Nat.lt_of_lt_of_le (show x < 2 ^ 32 by omega) (Nat.pow_le_pow_right (by decide) (by omega)))
    rw [hz V hV, hz W hW]
end Go.Proofs.YtkpkkjbigndnoaaDoor.M
