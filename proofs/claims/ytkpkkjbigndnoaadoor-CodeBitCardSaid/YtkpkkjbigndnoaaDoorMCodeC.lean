/- Every shape's fields: they fit, and are put back. -/
import Derived.Test.YtkpkkjbigndnoaaDoorMCodeB
namespace Go.Proofs.YtkpkkjbigndnoaaDoor.M
open Go.RowKit Go.Proofs.YtkpkkjbigndnoaaDoor.P Go.Proofs.YtkpkkjbigndnoaaDoorW.PrintWords Go.Proofs.YtkpkkjbigndnoaaDoorW.PrintLast Go.Proofs.YtkpkkjbigndnoaaDoorW.PrintMore
set_option linter.unusedVariables false
set_option linter.unusedSimpArgs false
theorem sh_0 : inst_sh 0 = (false, false, false, false, 0, 0, 0, 0, 0, 0, 0, false) := rfl
theorem sh_1 : inst_sh 1 = (true, false, false, false, 0, 65535, 1, 48, 16, 0, 0, false) := rfl
theorem sh_2 : inst_sh 2 = (true, true, false, false, 0, 4095, 1, 12, 12, 0, 0, true) := rfl
theorem sh_3 : inst_sh 3 = (true, true, false, false, 0, 0, 0, 0, 0, 0, 0, false) := rfl
theorem sh_4 : inst_sh 4 = (true, true, true, false, 0, 0, 0, 63, 1, 2, 0, false) := rfl
theorem sh_5 : inst_sh 5 = (true, true, true, false, 0, 0, 0, 63, 1, 3, 0, false) := rfl
theorem sh_6 : inst_sh 6 = (true, true, true, true, 0, 0, 0, 0, 0, 0, 0, false) := rfl
theorem sh_7 : inst_sh 7 = (true, true, false, false, 0, 32760, 8, 0, 0, 0, 0, true) := rfl
theorem sh_8 : inst_sh 8 = (true, true, false, false, 0, 4095, 1, 0, 0, 0, 0, true) := rfl
theorem sh_9 : inst_sh 9 = (true, false, false, false, (-1048576), 1048572, 4, 0, 0, 0, 0, false) := rfl
theorem sh_10 : inst_sh 10 = (true, false, false, false, (-1048576), 1048575, 1, 0, 0, 0, 0, false) := rfl
theorem sh_11 : inst_sh 11 = (false, false, false, false, (-134217728), 134217724, 4, 0, 0, 0, 0, false) := rfl
theorem sh_12 : inst_sh 12 = (false, false, false, false, (-1048576), 1048572, 4, 0, 0, 0, 13, false) := rfl
theorem sh_13 : inst_sh 13 = (false, true, false, false, 0, 0, 0, 0, 0, 0, 0, false) := rfl
theorem sh_14 : inst_sh 14 = (false, false, false, false, 0, 65535, 1, 0, 0, 0, 0, false) := rfl
theorem sh_15 : inst_sh 15 = (false, false, false, false, 0, 0, 0, 0, 0, 0, 0, false) := rfl
theorem sh_16 : inst_sh 16 = (true, true, true, false, 0, 0, 0, 0, 0, 0, 13, false) := rfl
def isB (c : CI) (mk : Bool) : Bool := okB c.o c.d c.n c.m c.a c.im c.ms c.sh c.am c.cd mk
theorem td (x b : Int) (h : x.tmod b = 0) : x.tdiv b = x / b := Int.tdiv_eq_ediv_of_dvd (Int.dvd_of_tmod_eq_zero h)
theorem tm (x b : Int) (h : x.tmod b = 0) : x % b = 0 := Int.emod_eq_zero_of_dvd (Int.dvd_of_tmod_eq_zero h)
theorem and3 (x : Int) (h0 : -9223372036854775808 ≤ x) (h1 : x < 9223372036854775808) : Go.bits .and .i64 x 3 = x % 4 := by
  have h3 : (BitVec.ofInt 64 3).toNat = 2 ^ 2 - 1 := by decide
  have key : (BitVec.ofInt 64 x &&& BitVec.ofInt 64 3).toNat = (x % ((2 ^ 64 : Nat) : Int)).toNat % 2 ^ 2 := by
    rw [BitVec.toNat_and, BitVec.toNat_ofInt, h3, Nat.and_two_pow_sub_one_eq_mod]
  show IntKind.i64.wrap ((BitVec.ofInt 64 x &&& BitVec.ofInt 64 3).toNat : Nat) = x % 4
  rw [key, IntKind.wrap_i64]
  omega
theorem or4 (l h : Int) (h0 : 0 ≤ l) (h1 : l < 4) (h2 : -262144 ≤ h) (h3 : h < 262144) : Go.bits .or .i64 l (wrap64 (h * 4)) = l + 4 * h := by
  obtain ⟨L, rfl⟩ := Int.eq_ofNat_of_zero_le h0
  rw [wrap64_self _ (by omega) (by omega)]
  obtain ⟨H, hH⟩ : ∃ H : Nat, ((h * 4) % ((2 ^ 64 : Nat) : Int)).toNat = 2 ^ 2 * H := ⟨((h * 4) % ((2 ^ 64 : Nat) : Int)).toNat / 4, by omega⟩
  have key : (BitVec.ofInt 64 (L : Int) ||| BitVec.ofInt 64 (h * 4)).toNat = 2 ^ 2 * H + L := by
    rw [BitVec.toNat_or, BitVec.toNat_ofInt, BitVec.toNat_ofInt, hH, show (((L : Nat) : Int) % ((2 ^ 64 : Nat) : Int)).toNat = L by omega, Nat.or_comm, Nat.two_pow_add_eq_or_of_lt (by omega)]
  show IntKind.i64.wrap ((BitVec.ofInt 64 (L : Int) ||| BitVec.ofInt 64 (h * 4)).toNat : Nat) = _
  rw [key, IntKind.wrap_i64]
  omega
set_option maxHeartbeats 4000000 in
theorem fit_all (k : Nat) (c : CI) (mk : Bool) (t : T3) (h : isB c mk = true) (hm : shapeN c.o = 3 → 0 ≤ t.t0 ∧ t.t0 < 2 ∧ 0 ≤ t.t1 ∧ t.t1 < 64 ∧ 0 ≤ t.t2 ∧ t.t2 < 64 ∧ mask_Encode.f k c.ms = some (t.t0, t.t1, t.t2, 0)) :
    ∀ p, p ∈ partsOf ((shapeN c.o : Nat) : Int) → getP k p c = some (valP c t p) ∧ fitP p (valP c t p) := by
  obtain ⟨o, d, n, m, a, im, ms, sh, am, cd⟩ := c
  obtain ⟨t0, t1, t2⟩ := t
  simp only [isB, okB] at h hm ⊢
  have hle := shapeN_le o
  generalize shapeN o = s at *
  have hs : s = 0 ∨ s = 1 ∨ s = 2 ∨ s = 3 ∨ s = 4 ∨ s = 5 ∨ s = 6 ∨ s = 7 ∨ s = 8 ∨ s = 9 ∨ s = 10 ∨ s = 11 ∨ s = 12 ∨ s = 13 ∨ s = 14 ∨ s = 15 ∨ s = 16 := by omega
  rcases hs with rfl | rfl | rfl | rfl | rfl | rfl | rfl | rfl | rfl | rfl | rfl | rfl | rfl | rfl | rfl | rfl | rfl
  all_goals simp only [sh_0, sh_1, sh_2, sh_3, sh_4, sh_5, sh_6, sh_7, sh_8, sh_9, sh_10, sh_11, sh_12, sh_13, sh_14, sh_15, sh_16] at h
  all_goals simp [regB, stepB] at h
  all_goals (try obtain ⟨⟨⟨⟨⟨⟨⟨⟨hd, hn⟩, hm_⟩, ha⟩, hi⟩, hamt⟩, hsh⟩, hcd⟩, hms⟩ := h)
  all_goals (try replace hsh := of_decide_eq_true hsh)
  all_goals (try replace hcd := of_decide_eq_true hcd)
  all_goals intro p hp
  all_goals simp [partsOf] at hp
  all_goals (try simp at hm)
  all_goals (repeat' (rcases hp with hp | hp))
  all_goals (try subst hp)
  all_goals simp [getP, PD.get, valP, fitP, PD.n_, PD.sg_, wrap64]
  all_goals first
    | omega
    | (rw [td _ _ hamt.2.2]; omega)
    | (rw [td _ _ hi.2.2]; omega)
    | (rw [and3 _ (by omega) (by omega)]; omega)
    | (rw [hm.2.2.2.2.2.2]; simp; omega)
set_option maxHeartbeats 4000000 in
theorem put_all (k : Nat) (c : CI) (mk : Bool) (t : T3) (h : isB c mk = true) (hm : shapeN c.o = 3 → mask_Decode.f k t.t0 t.t1 t.t2 = some (c.ms, 0)) :
    puts k (valP c t) (partsOf ((shapeN c.o : Nat) : Int)) ⟨c.o, 0, 0, 0, 0, 0, 0, 0, 0, 0⟩ ⟨0, 0, 0⟩ = some (0, c) := by
  obtain ⟨o, d, n, m, a, im, ms, sh, am, cd⟩ := c
  obtain ⟨t0, t1, t2⟩ := t
  simp only [isB, okB] at h hm ⊢
  have hle := shapeN_le o
  generalize shapeN o = s at *
  have hs : s = 0 ∨ s = 1 ∨ s = 2 ∨ s = 3 ∨ s = 4 ∨ s = 5 ∨ s = 6 ∨ s = 7 ∨ s = 8 ∨ s = 9 ∨ s = 10 ∨ s = 11 ∨ s = 12 ∨ s = 13 ∨ s = 14 ∨ s = 15 ∨ s = 16 := by omega
  rcases hs with rfl | rfl | rfl | rfl | rfl | rfl | rfl | rfl | rfl | rfl | rfl | rfl | rfl | rfl | rfl | rfl | rfl
  all_goals simp only [sh_0, sh_1, sh_2, sh_3, sh_4, sh_5, sh_6, sh_7, sh_8, sh_9, sh_10, sh_11, sh_12, sh_13, sh_14, sh_15, sh_16] at h
  all_goals simp [regB, stepB] at h
  all_goals (try obtain ⟨⟨⟨⟨⟨⟨⟨⟨hd, hn⟩, hm_⟩, ha⟩, hi⟩, hamt⟩, hsh⟩, hcd⟩, hms⟩ := h)
  all_goals (try replace hsh := of_decide_eq_true hsh)
  all_goals (try replace hcd := of_decide_eq_true hcd)
  all_goals (try simp at hm)
  all_goals simp [partsOf, puts, PD.put, valP]
  all_goals first
    | omega
    | (have := tm _ _ hamt.2.2; simp [wrap64]; omega)
    | (have := tm _ _ hi.2.2; simp [wrap64]; omega)
    | (simp [wrap64]; omega)
    | (rw [or4 _ _ (by omega) (by omega) (by omega) (by omega)]; omega)
    | (rw [hm]; simp; omega)
end Go.Proofs.YtkpkkjbigndnoaaDoor.M
