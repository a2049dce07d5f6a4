/- How many ones a number has: what math/bits.OnesCount64 tells (chapter 2). -/
import Derived.Test.YtbklmlbmbnnjkaaDoorMMaskB
namespace Go.Proofs.YtbklmlbmbnnjkaaDoor.M
open Go.RowKit Go.Proofs.YtbklmlbmbnnjkaaDoor.P Go.Proofs.YtbklmlbmbnnjkaaDoorW.PrintWords Go.Proofs.YtbklmlbmbnnjkaaDoorW.PrintLast Go.Proofs.YtbklmlbmbnnjkaaDoorW.PrintMore

theorem m1_32 : m1 32 = 6148914691236517205 := by decide +kernel
theorem m2_16 : m2 16 = 3689348814741910323 := by decide +kernel
theorem m3_8 : m3 8 = 1085102592571150095 := by decide +kernel
theorem and127_i64 (f : Nat) (h : f < 18446744073709551616) : Go.bits .and .i64 (wrap64 (f : Int)) 127 = ((f % 128 : Nat) : Int) := by
  have h1 : (BitVec.ofInt 64 (wrap64 (f : Int))).toNat = f := by
    rw [BitVec.toNat_ofInt]; unfold wrap64
    rw [show (((2 ^ 64 : Nat)) : Int) = 18446744073709551616 by decide]
    omega
  have h2 : (BitVec.ofInt 64 127).toNat = 127 := by decide
  show IntKind.i64.wrap ((BitVec.ofInt 64 (wrap64 (f : Int)) &&& BitVec.ofInt 64 127).toNat : Int) = _
  rw [BitVec.toNat_and, h1, h2, and127]
  have : f % 128 < 128 := Nat.mod_lt _ (by decide)
  rw [IntKind.wrap_i64]
  omega
theorem sum_step (c n : Nat) (h : c + c / n < 18446744073709551616) : IntKind.u64.wrap ((c : Int) + (c : Int) / (n : Int)) = ((c + c / n : Nat) : Int) := by
  have e : (c : Int) / (n : Int) = ((c / n : Nat) : Int) := (Int.natCast_ediv c n).symm
  rw [e]
  generalize c / n = q at *
  rw [u64_self _ (by omega) (by omega)]
  omega
theorem ones64_spec (x : Nat) (h : x < 2 ^ 64) : bits_OnesCount64.f (x : Int) = some ((cnt 64 x : Nat) : Int) := by
  have e64 : (2 : Nat) ^ 64 = 18446744073709551616 := by decide
  rw [e64] at h
  have s1 := stage1 32 x
  have s2 := stage2 16 x
  have s3 := stage3 8 x
  rw [m1_32] at s1
  rw [m2_16] at s2
  rw [m3_8] at s3
  have hA : IntKind.u64.wrap ((Go.bits .and .u64 ((x : Int) / 2) 6148914691236517205) + (Go.bits .and .u64 (x : Int) 6148914691236517205)) = ((lanes 2 32 x : Nat) : Int) := by
    have b1 : x / 2 &&& 6148914691236517205 ≤ 6148914691236517205 := Nat.and_le_right
    have b2 : x &&& 6148914691236517205 ≤ 6148914691236517205 := Nat.and_le_right
    rw [show (x : Int) / 2 = ((x / 2 : Nat) : Int) by omega, show (6148914691236517205 : Int) = ((6148914691236517205 : Nat) : Int) from rfl, tz_bits_and _ _ (by omega) (by omega), tz_bits_and _ _ (by omega) (by omega), ← s1, u64_self _ (by omega) (by omega)]
    omega
  have bA : lanes 2 32 x ≤ 12297829382473034410 := by
    have b1 : x / 2 &&& 6148914691236517205 ≤ 6148914691236517205 := Nat.and_le_right
    have b2 : x &&& 6148914691236517205 ≤ 6148914691236517205 := Nat.and_le_right
    omega
  have hB : IntKind.u64.wrap ((Go.bits .and .u64 (((lanes 2 32 x : Nat) : Int) / 4) 3689348814741910323) + (Go.bits .and .u64 ((lanes 2 32 x : Nat) : Int) 3689348814741910323)) = ((lanes 4 16 x : Nat) : Int) := by
    have b1 : lanes 2 32 x / 4 &&& 3689348814741910323 ≤ 3689348814741910323 := Nat.and_le_right
    have b2 : lanes 2 32 x &&& 3689348814741910323 ≤ 3689348814741910323 := Nat.and_le_right
    have s2' : (lanes 2 32 x / 4 &&& 3689348814741910323) + (lanes 2 32 x &&& 3689348814741910323) = lanes 4 16 x := s2
    rw [show ((lanes 2 32 x : Nat) : Int) / 4 = ((lanes 2 32 x / 4 : Nat) : Int) by omega, show (3689348814741910323 : Int) = ((3689348814741910323 : Nat) : Int) from rfl, tz_bits_and _ _ (by omega) (by omega), tz_bits_and _ _ (by omega) (by omega), ← s2', u64_self _ (by omega) (by omega)]
    omega
  have bB : lanes 4 16 x ≤ 7378697629483820646 := by
    have b1 : lanes 2 32 x / 4 &&& 3689348814741910323 ≤ 3689348814741910323 := Nat.and_le_right
    have b2 : lanes 2 32 x &&& 3689348814741910323 ≤ 3689348814741910323 := Nat.and_le_right
    have s2' : (lanes 2 32 x / 4 &&& 3689348814741910323) + (lanes 2 32 x &&& 3689348814741910323) = lanes 4 16 x := s2
    omega
  have hC : Go.bits .and .u64 (IntKind.u64.wrap (((lanes 4 16 x : Nat) : Int) / 16 + ((lanes 4 16 x : Nat) : Int))) 1085102592571150095 = ((lanes 8 8 x : Nat) : Int) := by
    have s3' : (lanes 4 16 x / 16 + lanes 4 16 x) &&& 1085102592571150095 = lanes 8 8 x := s3
    rw [u64_self _ (by omega) (by omega), show ((lanes 4 16 x : Nat) : Int) / 16 + ((lanes 4 16 x : Nat) : Int) = ((lanes 4 16 x / 16 + lanes 4 16 x : Nat) : Int) by omega, show (1085102592571150095 : Int) = ((1085102592571150095 : Nat) : Int) from rfl, tz_bits_and _ _ (by omega) (by omega), s3']
  obtain ⟨c0, c1, c2, c3, c4, c5, c6, c7, h0, h1, h2, h3, h4, h5, h6, h7, hl, hcnt⟩ := lanes8 x
  obtain ⟨q0, q1, q2, q3, q4⟩ := stage4 _ _ _ _ c0 c1 c2 c3 c4 c5 c6 c7 h0 h1 h2 h3 h4 h5 h6 h7 hl rfl rfl rfl
  unfold bits_OnesCount64.f
  rw [hA, hB, hC, hcnt]
  generalize lanes 8 8 x = c at *
  clear hcnt hC hl s1 s2 s3 hA hB bA bB h0 h1 h2 h3 h4 h5 h6 h7
  have eD : IntKind.u64.wrap ((c : Int) + (c : Int) / 256) = ((c + c / 256 : Nat) : Int) := sum_step c 256 q1
  rw [eD]
  generalize c + c / 256 = d at *
  have eE : IntKind.u64.wrap ((d : Int) + (d : Int) / 65536) = ((d + d / 65536 : Nat) : Int) := sum_step d 65536 q2
  rw [eE]
  generalize d + d / 65536 = e at *
  have eF : IntKind.u64.wrap ((e : Int) + (e : Int) / 4294967296) = ((e + e / 4294967296 : Nat) : Int) := sum_step e 4294967296 q3
  rw [eF, and127_i64 _ q3, q4]
theorem mask_ones_spec (x : Nat) (h : x < 2 ^ 64) : mask_Ones.f (x : Int) = some ((cnt 64 x : Nat) : Int) := by
  unfold mask_Ones.f
  rw [ones64_spec x h, Option.bind_some]
end Go.Proofs.YtbklmlbmbnnjkaaDoor.M
