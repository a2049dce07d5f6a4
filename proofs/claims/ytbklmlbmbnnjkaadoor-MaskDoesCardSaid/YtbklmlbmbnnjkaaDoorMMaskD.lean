/- How masks are told (chapter 2): what is no row of ones, turned, is told by nothing. -/
import Derived.Test.YtbklmlbmbnnjkaaDoorMMaskC
namespace Go.Proofs.YtbklmlbmbnnjkaaDoor.M
open Go.RowKit Go.Proofs.YtbklmlbmbnnjkaaDoor.P Go.Proofs.YtbklmlbmbnnjkaaDoorW.PrintWords Go.Proofs.YtbklmlbmbnnjkaaDoorW.PrintLast Go.Proofs.YtbklmlbmbnnjkaaDoorW.PrintMore

/-- So many ones, turned so far, again and again. -/
def maskN (s o r : Nat) : Nat := rep (rotN (2 ^ o - 1) r s) s
def fr (s : Nat) : Nat := if s = 64 then 0 else 64 - 2 * s
def nOf (s : Nat) : Int := if s = 64 then 1 else 0

theorem rot_back (x a s : Nat) (hx : x < 2 ^ s) (ha : a < s) : rotN (rotN x a s) ((s - a) % s) s = x := by
  have hm : (s - a) % s < s := Nat.mod_lt _ (by omega)
  have hl := rot_lt x a s (by omega) hx
  apply Nat.eq_of_testBit_eq
  intro i
  by_cases hi : i < s
  · rw [rot_bit _ _ s i hm hl hi, rot_bit x a s _ ha hx (Nat.mod_lt _ (by omega))]
    congr 1
    by_cases a0 : a = 0
    · subst a0
      rw [Nat.sub_zero, Nat.mod_self, Nat.add_zero, Nat.mod_mod, Nat.add_zero, Nat.mod_eq_of_lt hi]
    · rw [Nat.mod_eq_of_lt (show s - a < s by omega)]
      by_cases h : i < a
      · rw [Nat.mod_eq_of_lt (show i + (s - a) < s by omega), show i + (s - a) + a = i + s by omega, Nat.add_mod_right, Nat.mod_eq_of_lt hi]
      · rw [show i + (s - a) = (i - a) + s by omega, Nat.add_mod_right, Nat.mod_eq_of_lt (show i - a < s by omega), show i - a + a = i by omega, Nat.mod_eq_of_lt hi]
  · have hp : (2 : Nat) ^ s ≤ 2 ^ i := Nat.pow_le_pow_right (by decide) (by omega)
    rw [Nat.testBit_lt_two_pow (Nat.lt_of_lt_of_le (rot_lt _ _ s (Nat.le_of_lt hm) hl) hp), Nat.testBit_lt_two_pow (Nat.lt_of_lt_of_le hx hp)]
theorem full_fin : ∀ n : Fin 65, bits_Low.f 18446744073709551615 (n.val : Int) = some ((2 ^ n.val - 1 : Nat) : Int) := by decide +kernel
theorem full_low (o : Nat) (h : o ≤ 64) : bits_Low.f 18446744073709551615 (o : Int) = some ((2 ^ o - 1 : Nat) : Int) := full_fin ⟨o, by omega⟩
/-- Is a number some ones, not all, turned? -/
def Turned (x s o : Nat) : Prop := 0 < o ∧ o < s ∧ ∃ r, r < s ∧ rotN (2 ^ o - 1) r s = x
theorem j1_none (k x s o : Nat) (a : Int) (hk : 200 ≤ k) (hs : Sz s) (hx : x < 2 ^ s) (ho : 0 < o) (hos : o < s) (hno : ¬ Turned x s o) :
    mask_tell.j1 (k + 1) (x : Int) (s : Int) (o : Int) a = some (0, 0, 0) := by
  have hsl := hs.le
  simp only [mask_tell.j1]
  rw [rot_spec k _ _ _ hk (by omega) (nat_64 s x hsl hx), Option.bind_some, full_low o (by omega), Option.bind_some]
  have hp : 2 ≤ 2 ^ o := Nat.pow_le_pow_right (show 0 < 2 by decide) ho
  refine if_neg ?_
  intro he
  by_cases hr : 0 ≤ a ∧ a < s
  · obtain ⟨m, rfl⟩ : ∃ m : Nat, a = m := ⟨a.toNat, by omega⟩
    rw [rotV_nat x m s hs.sizeB (by omega), if_pos (by have := cast_pow s; omega)] at he
    apply hno
    refine ⟨ho, hos, (s - m) % s, Nat.mod_lt _ (by omega), ?_⟩
    have he' : rotN x m s = 2 ^ o - 1 := by exact Int.ofNat.inj he
    rw [← he']
    exact rot_back x m s hx (by omega)
  · rw [rotV_bad _ _ _ (by intro h; exact hr h.2)] at he
    have he' : (0 : Int) = ((2 ^ o - 1 : Nat) : Int) := he
    omega

set_option maxRecDepth 100000 in
theorem len_some (k : Nat) (x x2 : Int) : ∃ r, bits_Len64.j0 (k + 1) x x2 = some r := by
  rw [bits_Len64.j0]
  repeat' split
  all_goals first | exact ⟨_, rfl⟩ | (exfalso; omega)
theorem lz_some (k : Nat) (x : Int) : ∃ r, bits_LeadingZeros64.f (k + 1) x = some r := by
  have hl : ∃ r, bits_Len64.f (k + 1) x = some r := by
    unfold bits_Len64.f
    split
    · exact len_some k _ _
    · exact len_some k _ _
  obtain ⟨r, hr⟩ := hl
  unfold bits_LeadingZeros64.f
  rw [hr, Option.bind_some]
  exact ⟨_, rfl⟩
theorem cnt_zero : ∀ n, cnt n 0 = 0
  | 0 => rfl
  | n + 1 => by unfold cnt; rw [Nat.zero_mod, Nat.zero_div, cnt_zero n]
theorem cnt_low (s x : Nat) (hs : s ≤ 64) (hx : x < 2 ^ s) : cnt 64 x = cnt s x := by
  obtain ⟨d, hd⟩ : ∃ d, 64 = s + d := ⟨64 - s, by omega⟩
  rw [hd, cnt_add, Nat.div_eq_of_lt hx, cnt_zero, Nat.add_zero]
theorem tell_none (k v : Nat) (hk : 300 ≤ k) (hv : v < 2 ^ 64) (hno : ¬ Turned (v % 2 ^ sizeV v) (sizeV v) (cnt 64 (v % 2 ^ sizeV v))) : mask_tell.f k (v : Int) = some (0, 0, 0) := by
  have hs := sizeV_sz v
  have hsl := hs.le
  have hsp := hs.pos
  have hx : v % 2 ^ sizeV v < 2 ^ sizeV v := Nat.mod_lt _ (Nat.two_pow_pos _)
  have hx64 : v % 2 ^ sizeV v < 2 ^ 64 := Nat.lt_of_le_of_lt (Nat.mod_le _ _) hv
  have hle := cnt_le (sizeV v) (v % 2 ^ sizeV v)
  rw [← cnt_low _ _ hsl hx] at hle
  have e64 : (2 : Nat) ^ 64 = 18446744073709551616 := by decide
  unfold mask_tell.f
  rw [size_spec k v (by omega) hv, Option.bind_some, low_sz v _ hs hv, Option.bind_some, mask_ones_spec _ hx64, Option.bind_some]
  generalize cnt 64 (v % 2 ^ sizeV v) = o at *
  generalize v % 2 ^ sizeV v = x at *
  generalize sizeV v = s at *
  obtain ⟨k, rfl⟩ : ∃ m, k = m + 3 := ⟨k - 3, by omega⟩
  have done_ : ∀ b : Bool, (b = true) → mask_tell.j0 (k + 3) (x : Int) (s : Int) (o : Int) b = some (0, 0, 0) := by
    intro b hb
    simp only [mask_tell.j0]
    rw [if_pos hb]
  by_cases ho : o = 0
  · rw [if_pos (by omega)]
    exact done_ true rfl
  · rw [if_neg (by omega)]
    by_cases hos : o = s
    · exact done_ _ (by subst hos; exact beq_self_eq_true _)
    · have hj : ∀ a : Int, mask_tell.j1 (k + 2) (x : Int) (s : Int) (o : Int) a = some (0, 0, 0) := fun a => j1_none (k + 1) x s o a (by omega) hs hx (by omega) (by omega) hno
      simp only [mask_tell.j0]
      rw [if_neg (by rw [beq_iff_eq]; omega)]
      have htz : bits_TrailingZeros64.f (x : Int) = some ((Lib.ctz 64 x : Nat) : Int) := by
        unfold bits_TrailingZeros64.f
        rw [if_pos ⟨by omega, by omega⟩, Int.toNat_natCast]
      rw [htz, Option.bind_some]
      split
      · rw [if_pos (by rw [wrap64_self _ (by omega) (by omega)]; omega)]
        obtain ⟨l, hl⟩ := lz_some (k + 1) (Go.bits .xor .u64 18446744073709551615 (shl .u64 (x : Int) (wrap64 (64 - (s : Int)))))
        rw [hl, Option.bind_some, if_neg (by omega)]
        exact hj _
      · exact hj _
theorem not_odd_one (v : Nat) (hno : ¬ Turned (v % 2 ^ sizeV v) (sizeV v) (cnt 64 (v % 2 ^ sizeV v))) : v ≠ 4294967297 := by
  rintro rfl
  apply hno
  have e1 : sizeV 4294967297 = 32 := by decide
  rw [e1]
  exact ⟨by decide, by decide, 0, by decide, by decide⟩
theorem is_none (k v : Nat) (hk : 300 ≤ k) (hv : v < 2 ^ 64) (hno : ¬ Turned (v % 2 ^ sizeV v) (sizeV v) (cnt 64 (v % 2 ^ sizeV v))) : mask_Is.f k (v : Int) = some false := by
  have hne := not_odd_one v hno
  unfold mask_Is.f
  rw [tell_none k v hk hv hno, Option.bind_some, if_neg (by decide)]
  congr 1
  rw [beq_eq_false_iff_ne]
  omega
theorem encode_none (k v : Nat) (hk : 300 ≤ k) (hv : v < 2 ^ 64) (hno : ¬ Turned (v % 2 ^ sizeV v) (sizeV v) (cnt 64 (v % 2 ^ sizeV v))) : mask_Encode.f k (v : Int) = some (0, 0, 0, 3) := by
  unfold mask_Encode.f
  rw [is_none k v hk hv hno, Option.bind_some, if_neg (by decide)]
/-- Is the mask told by just its numbers? -/
def toldOk (s o r : Nat) : Bool := decide (mask_Encode.f 100 (maskN s o r : Nat) = some (nOf s, (r : Int), ((o - 1 + fr s : Nat) : Int), 0))
def toldAll (s o1 d : Nat) : Bool := (List.range d).all fun o => (List.range s).all fun r => toldOk s (o + o1) r
theorem toldAll_get {s o1 d : Nat} (h : toldAll s o1 d = true) (o r : Nat) (h1 : o1 ≤ o) (h2 : o < o1 + d) (hr : r < s) : mask_Encode.f 100 (maskN s o r : Nat) = some (nOf s, (r : Int), ((o - 1 + fr s : Nat) : Int), 0) := by
  unfold toldAll at h
  rw [List.all_eq_true] at h
  have ha := h (o - o1) (List.mem_range.mpr (by omega))
  rw [List.all_eq_true] at ha
  have hb := ha r (List.mem_range.mpr hr)
  rw [show o - o1 + o1 = o by omega] at hb
  exact of_decide_eq_true hb
end Go.Proofs.YtbklmlbmbnnjkaaDoor.M
