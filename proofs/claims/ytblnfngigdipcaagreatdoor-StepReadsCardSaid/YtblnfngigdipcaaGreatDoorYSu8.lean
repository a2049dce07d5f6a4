/- Written for this claim by a program of this session: what the claim uses of lemmas and proved contracts of Go functions. -/
import Derived.Test.YtblnfngigdipcaaGreatDoorYSu7
import Derived.Laws.IdiomStrings
import Derived.WalkSpells
namespace Go.Proofs.YtblnfngigdipcaaGreatDoor.MW
open Go.RowKit Go.Proofs.YtblnfngigdipcaaGreatDoor.P Go.Proofs.YtblnfngigdipcaaGreatDoorW.PrintWords Go.Proofs.YtblnfngigdipcaaGreatDoorW.PrintLast Go.Proofs.YtblnfngigdipcaaGreatDoorW.PrintMore
set_option linter.unusedVariables false
set_option linter.unusedSimpArgs false
structure MP where
  a : Int
  k : Int
  d : List Int
def encM (q : MP × Nat) : List Value := [.int .u64 q.1.a, .int .i64 q.1.k, .slice (some ⟨q.2, 0, none⟩) q.1.d.length q.1.d.length]
structure MemIs (w : World) (M : Nat) (A : Option Addr) (P c : Nat) (Q : List (MP × Nat)) : Prop where
  head : w.heap[M]? = some (.cells #[.slice A Q.length c] 112 (0, 0))
  addr : Q ≠ [] → A = some ⟨P, 0, none⟩
  row : Q ≠ [] → ∃ cur, w.heap[P]? = some (.cells cur 116 (0, 0))
  cells : ∀ (i : Nat) q, Q[i]? = some q → ∀ (j : Nat) v, (encM q)[j]? = some v → w.cell? ⟨P, i * 3 + j, none⟩ = some v
  data : ∀ q, q ∈ Q → w.heap[q.2]? = some (.cells (q.1.d.map (Value.int .u8)).toArray 5 (0, 0))
  apart : (Q.map (·.2)).Nodup
def MP.good (p : MP) : Prop := 0 ≤ p.a ∧ p.a ≤ 4611686018427387904 ∧ 1 ≤ p.k ∧ p.k ≤ 3 ∧ 1 ≤ p.d.length ∧ p.d.length ≤ 65536 ∧ ∀ x, x ∈ p.d → 0 ≤ x ∧ x < 256
def MP.has (p : MP) (at_ n : Int) : Prop := p.a ≤ at_ ∧ at_ - p.a < p.d.length ∧ n ≤ p.d.length - (at_ - p.a)
instance (p : MP) (at_ n : Int) : Decidable (p.has at_ n) := by unfold MP.has; infer_instance
def mfind (at_ n : Int) : List MP → Option Nat
  | [] => none
  | p :: ps => if p.has at_ n then some 0 else (mfind at_ n ps).map (· + 1)
theorem mfind_none (at_ n : Int) : ∀ (L : List MP), mfind at_ n L = none → ∀ p, p ∈ L → ¬ p.has at_ n
  | [], _, p, hp => by cases hp
  | q :: ps, h, p, hp => by
    unfold mfind at h
    split at h
    · cases h
    · rename_i hq
      rcases List.mem_cons.1 hp with rfl | hp
      · exact hq
      · exact mfind_none at_ n ps (by simpa using h) p hp
theorem mfind_some (at_ n : Int) : ∀ (L : List MP) (i : Nat), mfind at_ n L = some i → (∃ p, L[i]? = some p ∧ p.has at_ n) ∧ ∀ (j : Nat) p, j < i → L[j]? = some p → ¬ p.has at_ n
  | [], i, h => by cases h
  | q :: ps, i, h => by
    unfold mfind at h
    split at h
    · rename_i hq
      obtain rfl := Option.some.inj h
      exact ⟨⟨q, rfl, hq⟩, fun j p hj => by omega⟩
    · rename_i hq
      obtain ⟨i', hi', rfl⟩ := Option.map_eq_some_iff.1 h
      obtain ⟨⟨p, h1, h2⟩, h3⟩ := mfind_some at_ n ps i' hi'
      refine ⟨⟨p, by simpa using h1, h2⟩, fun j p hj hp => ?_⟩
      cases j with
      | zero => simp at hp; subst hp; exact hq
      | succ j => exact h3 j p (by omega) (by simpa using hp)
theorem MemIs.move {w w' : World} {M : Nat} {A : Option Addr} {P c : Nat} {Q : List (MP × Nat)} (h : MemIs w M A P c Q) (hm : ∀ k, k < w.heap.size → w'.heap[k]? = w.heap[k]?) : MemIs w' M A P c Q where
  head := (hm M (Array.getElem?_eq_some_iff.1 h.head).1).trans h.head
  addr := h.addr
  row := fun hq => by obtain ⟨cur, hc⟩ := h.row hq; exact ⟨cur, (hm P (Array.getElem?_eq_some_iff.1 hc).1).trans hc⟩
  cells := fun i q hq j v hv => by
    have hc := h.cells i q hq j v hv
    exact (World.cell?_of_block (w := w) (hm P (World.block_lt_of_cell? w ⟨P, i * 3 + j, none⟩ hc))).trans hc
  data := fun q hq => (hm q.2 (Array.getElem?_eq_some_iff.1 (h.data q hq)).1).trans (h.data q hq)
  apart := h.apart
theorem MemIs.below {w w' : World} {M : Nat} {A : Option Addr} {P c : Nat} {Q : List (MP × Nat)} (h : MemIs w M A P c Q) (hb : Below w.heap.size w w') : MemIs w' M A P c Q := h.move hb.block
theorem MemIs.part {w : World} {M : Nat} {A : Option Addr} {P c : Nat} {Q : List (MP × Nat)} (h : MemIs w M A P c Q) {i : Nat} {p : MP} {b : Nat} (hq : Q[i]? = some (p, b)) :
    A = some ⟨P, 0, none⟩ ∧ w.cell? ⟨P, i * 3, none⟩ = some (.int .u64 p.a) ∧ w.cell? ⟨P, i * 3 + 1, none⟩ = some (.int .i64 p.k) ∧ w.cell? ⟨P, i * 3 + 2, none⟩ = some (.slice (some ⟨b, 0, none⟩) p.d.length p.d.length) :=
  ⟨h.addr (by intro e; rw [e] at hq; cases hq), h.cells i _ hq 0 _ rfl, h.cells i _ hq 1 _ rfl, h.cells i _ hq 2 _ rfl⟩
set_option maxHeartbeats 4000000 in
set_option maxRecDepth 100000 in
theorem find_none (w : World) (M : Nat) (A : Option Addr) (P c : Nat) (Q : List (MP × Nat)) (at_ n : Int) (hM : MemIs w M A P c Q) (hg : ∀ q, q ∈ Q → q.1.good) (hl : Q.length ≤ 1000000) (h0 : 0 ≤ at_) (h1 : at_ < 18446744073709551616) (hn0 : 0 ≤ n) (hn1 : n ≤ 65536)
    (hf : ∀ q, q ∈ Q → ¬ q.1.has at_ n) :
    Calls Tryz.prog 76 #[.pointer (some ⟨M, 0, none⟩), .int .u64 at_, .int .i64 n] w fun e w' => e = .returned (.tuple #[.slice none 0 0, .int .i64 0]) ∧ Below w.heap.size w w' := by
  have hc0 : w.cell? ⟨M, 0, none⟩ = some (.slice A Q.length c) := (blk_cell hM.head 0).trans rfl
  have HM := aq hM
  have HG := aq hg
  have HF := aq hf
  have HL := aq hl
  have H1 := aq h1
  clear hM hg hf h1
  go_enter Tryz.func76, Tryz.ntmps76
  go_wp2
  clear hl
  go_loopg [16] Q.length (fun kq v16 wr => ∃ i : Nat, v16 = .int .i64 (i : Int) ∧ i + kq = Q.length ∧ Aside0 (Below w.heap.size w wr))
  case atStart => exact ⟨0, rfl, by omega, ⟨Below.refl _ _⟩⟩
  case round =>
    obtain ⟨i, rfl, hik, HB⟩ := hrel
    cases gk with
    | zero =>
      have hi : ¬ (i < Q.length) := by omega
      go_wp2
      go_ret2
      exact ⟨rfl, HB.out⟩
    | succ kq =>
      have hi : i < Q.length := by omega
      have HIK := aq hik
      clear hik
      obtain ⟨p, b, hq⟩ : ∃ p b, Q[i]? = some (p, b) := ⟨Q[i].1, Q[i].2, by rw [List.getElem?_eq_getElem hi]⟩
      have hmem : (p, b) ∈ Q := List.mem_of_getElem? hq
      obtain ⟨hA, c1, c2, c3⟩ := (HM.out.below HB.out).part hq
      subst hA
      obtain ⟨g1, g2, g3, g4, g5, g6, g7⟩ := HG.out _ hmem
      have hnot := HF.out _ hmem
      simp only at g1 g2 g3 g4 g5 g6 hnot
      unfold MP.has at hnot
      have HX := aq (And.intro hq hmem)
      clear g7 hq hmem
      have hz : i < 1000000 := by have := HL.out; omega
      by_cases x1 : p.a ≤ at_
      · have b1 : decide (at_ ≥ p.a) = true := by simp; omega
        have e1 : IntKind.u64.wrap (at_ - p.a) = at_ - p.a := by have := H1.out; rw [IntKind.wrap_u64]; omega
        by_cases x2 : at_ - p.a < p.d.length
        · have e2 : wrap64 (at_ - p.a) = at_ - p.a := by unfold wrap64; omega
          have e3 : wrap64 ((p.d.length : Int) - (at_ - p.a)) = (p.d.length : Int) - (at_ - p.a) := by unfold wrap64; omega
          have b2 : decide (at_ - p.a < (p.d.length : Int)) = true := by simp; omega
          have b3 : decide (n ≤ (p.d.length : Int) - (at_ - p.a)) = false := by simp; omega
          clear x1 x2 hnot
          go_wp2
          go_roundg kq
          case measure => omega
          case rel => exact ⟨i + 1, rfl, by have := HIK.out; omega, ⟨below_alloc HB.out _⟩⟩
        · have b2 : decide (at_ - p.a < (p.d.length : Int)) = false := by simp; omega
          clear x1 x2 hnot
          go_wp2
          go_roundg kq
          case measure => omega
          case rel => exact ⟨i + 1, rfl, by have := HIK.out; omega, ⟨below_alloc HB.out _⟩⟩
      · have b1 : decide (at_ ≥ p.a) = false := by simp; omega
        clear x1 hnot
        go_wp2
        go_roundg kq
        case measure => omega
        case rel => exact ⟨i + 1, rfl, by have := HIK.out; omega, ⟨below_alloc HB.out _⟩⟩
set_option maxHeartbeats 4000000 in
set_option maxRecDepth 100000 in
theorem find_some (w : World) (M : Nat) (A : Option Addr) (P c : Nat) (Q : List (MP × Nat)) (at_ n : Int) (hM : MemIs w M A P c Q) (hg : ∀ q, q ∈ Q → q.1.good) (hl : Q.length ≤ 1000000) (h0 : 0 ≤ at_) (h1 : at_ < 18446744073709551616) (hn0 : 0 ≤ n) (hn1 : n ≤ 65536)
    (i0 : Nat) (p0 : MP) (b0 : Nat) (hq0 : Q[i0]? = some (p0, b0)) (hh0 : p0.has at_ n) (hf : ∀ (j : Nat) q, j < i0 → Q[j]? = some q → ¬ q.1.has at_ n) :
    Calls Tryz.prog 76 #[.pointer (some ⟨M, 0, none⟩), .int .u64 at_, .int .i64 n] w fun e w' => e = .returned (.tuple #[.slice (some ⟨b0, (at_ - p0.a).toNat, none⟩) n.toNat (p0.d.length - (at_ - p0.a).toNat), .int .i64 p0.k]) ∧ Below w.heap.size w w' := by
  have hc0 : w.cell? ⟨M, 0, none⟩ = some (.slice A Q.length c) := (blk_cell hM.head 0).trans rfl
  have HM := aq hM
  have HG := aq hg
  have HF := aq hf
  have HL := aq hl
  have H1 := aq h1
  have HQ := aq hq0
  have HH := aq hh0
  have hi0 : i0 < Q.length := (List.getElem?_eq_some_iff.1 hq0).1
  have HI0 := aq hi0
  clear hM hg hf h1 hq0 hh0 hi0
  go_enter Tryz.func76, Tryz.ntmps76
  go_wp2
  clear hl
  go_loopg [16] i0 (fun kq v16 wr => ∃ i : Nat, v16 = .int .i64 (i : Int) ∧ i + kq = i0 ∧ Aside0 (Below w.heap.size w wr))
  case atStart => exact ⟨0, rfl, by omega, ⟨Below.refl _ _⟩⟩
  case round =>
    obtain ⟨i, rfl, hik, HB⟩ := hrel
    cases gk with
    | zero =>
      obtain rfl : i = i0 := by omega
      clear hik
      have hi := HI0.out
      have hz : i < 1000000 := by have := HL.out; omega
      have hmem : (p0, b0) ∈ Q := List.mem_of_getElem? HQ.out
      obtain ⟨hA, c1, c2, c3⟩ := (HM.out.below HB.out).part HQ.out
      subst hA
      obtain ⟨g1, g2, g3, g4, g5, g6, g7⟩ := HG.out _ hmem
      obtain ⟨x1, x2, x3⟩ := HH.out
      simp only at g1 g2 g3 g4 g5 g6
      clear g7 hmem
      have b1 : decide (at_ ≥ p0.a) = true := by simp; omega
      have e1 : IntKind.u64.wrap (at_ - p0.a) = at_ - p0.a := by have := H1.out; rw [IntKind.wrap_u64]; omega
      have e2 : wrap64 (at_ - p0.a) = at_ - p0.a := by unfold wrap64; omega
      have e3 : wrap64 ((p0.d.length : Int) - (at_ - p0.a)) = (p0.d.length : Int) - (at_ - p0.a) := by unfold wrap64; omega
      have b2 : decide (at_ - p0.a < (p0.d.length : Int)) = true := by simp; omega
      have b3 : decide (n ≤ (p0.d.length : Int) - (at_ - p0.a)) = true := by simp; omega
      have y0 : 0 ≤ at_ - p0.a := by omega
      go_wp2
      go_quiet (fail)
      go_wp2
      go_ret2
      exact ⟨rfl, pw_below_drewN (below_alloc HB.out _) _⟩
    | succ kq =>
      have hi : i < Q.length := by have := HI0.out; omega
      have hlt : i < i0 := by omega
      have HIK := aq hik
      clear hik
      obtain ⟨p, b, hq⟩ : ∃ p b, Q[i]? = some (p, b) := ⟨Q[i].1, Q[i].2, by rw [List.getElem?_eq_getElem hi]⟩
      have hmem : (p, b) ∈ Q := List.mem_of_getElem? hq
      obtain ⟨hA, c1, c2, c3⟩ := (HM.out.below HB.out).part hq
      subst hA
      obtain ⟨g1, g2, g3, g4, g5, g6, g7⟩ := HG.out _ hmem
      have hnot := HF.out _ _ hlt hq
      clear hlt
      simp only at g1 g2 g3 g4 g5 g6 hnot
      unfold MP.has at hnot
      have HX := aq (And.intro hq hmem)
      clear g7 hq hmem
      have hz : i < 1000000 := by have := HL.out; omega
      by_cases x1 : p.a ≤ at_
      · have b1 : decide (at_ ≥ p.a) = true := by simp; omega
        have e1 : IntKind.u64.wrap (at_ - p.a) = at_ - p.a := by have := H1.out; rw [IntKind.wrap_u64]; omega
        by_cases x2 : at_ - p.a < p.d.length
        · have e2 : wrap64 (at_ - p.a) = at_ - p.a := by unfold wrap64; omega
          have e3 : wrap64 ((p.d.length : Int) - (at_ - p.a)) = (p.d.length : Int) - (at_ - p.a) := by unfold wrap64; omega
          have b2 : decide (at_ - p.a < (p.d.length : Int)) = true := by simp; omega
          have b3 : decide (n ≤ (p.d.length : Int) - (at_ - p.a)) = false := by simp; omega
          clear x1 x2 hnot
          go_wp2
          go_roundg kq
          case measure => omega
          case rel => exact ⟨i + 1, rfl, by have := HIK.out; omega, ⟨below_alloc HB.out _⟩⟩
        · have b2 : decide (at_ - p.a < (p.d.length : Int)) = false := by simp; omega
          clear x1 x2 hnot
          go_wp2
          go_roundg kq
          case measure => omega
          case rel => exact ⟨i + 1, rfl, by have := HIK.out; omega, ⟨below_alloc HB.out _⟩⟩
      · have b1 : decide (at_ ≥ p.a) = false := by simp; omega
        clear x1 hnot
        go_wp2
        go_roundg kq
        case measure => omega
        case rel => exact ⟨i + 1, rfl, by have := HIK.out; omega, ⟨below_alloc HB.out _⟩⟩
def leV : List Int → Int
  | [] => 0
  | x :: xs => x + 256 * leV xs
def isB (l : List Int) : Prop := ∀ x, x ∈ l → 0 ≤ x ∧ x < 256
theorem leV_lt : ∀ (l : List Int), isB l → 0 ≤ leV l ∧ leV l < 256 ^ l.length
  | [], _ => by simp [leV]
  | x :: xs, h => by
    have h1 := leV_lt xs (fun y hy => h y (List.mem_cons_of_mem _ hy))
    have h2 := h x (List.mem_cons_self ..)
    rw [leV, List.length_cons, Int.pow_succ]
    omega
theorem leV_snoc : ∀ (l : List Int) (y : Int), leV (l ++ [y]) = leV l + y * 256 ^ l.length
  | [], y => by simp [leV]
  | x :: xs, y => by
    rw [List.cons_append, leV, leV_snoc xs y, leV, List.length_cons, Int.pow_succ, Int.mul_add]
    have : 256 * (y * 256 ^ xs.length) = y * (256 ^ xs.length * 256) := by rw [Int.mul_comm, Int.mul_assoc]
    omega
theorem or_shl (v x : Int) (i : Nat) (hi : i < 8) (h0 : 0 ≤ v) (h1 : v < 256 ^ i) (x0 : 0 ≤ x) (x1 : x < 256) : Go.bits .or .u64 v (shl .u64 (IntKind.u64.wrap x) (wrap64 (8 * (i : Int)))) = v + x * 256 ^ i := by
  obtain ⟨V, rfl⟩ := Int.eq_ofNat_of_zero_le h0
  obtain ⟨X, rfl⟩ := Int.eq_ofNat_of_zero_le x0
  have e : (2 : Nat) ^ (8 * i) = 256 ^ i := by rw [Nat.pow_mul]
  have e2 : ((256 ^ i : Nat) : Int) = (256 : Int) ^ i := by simp
  have hV : V < 2 ^ (8 * i) := by rw [e]; omega
  have hX : X * 2 ^ (8 * i) < 2 ^ 64 := by
    have h8 : 2 ^ (8 * i) * 256 ≤ 2 ^ 64 := by
      rw [show (256 : Nat) = 2 ^ 8 by decide, ← Nat.pow_add]
      exact Nat.pow_le_pow_right (by decide) (by omega)
    have h9 := Nat.mul_le_mul_right (2 ^ (8 * i)) (show X ≤ 255 by omega)
    have h10 := Nat.two_pow_pos (8 * i)
    omega
  have hs : shl .u64 (IntKind.u64.wrap (X : Int)) (wrap64 (8 * (i : Int))) = ((X * 2 ^ (8 * i) : Nat) : Int) := by
    unfold shl
    rw [show wrap64 (8 * (i : Int)) = ((8 * i : Nat) : Int) by unfold wrap64; omega, Int.toNat_natCast, show IntKind.u64.wrap (X : Int) = X by rw [IntKind.wrap_u64]; omega]
    rw [show min (8 * i) IntKind.u64.bits = 8 * i by show min (8 * i) 64 = _; omega, IntKind.wrap_u64]
    have : ((X * 2 ^ (8 * i) : Nat) : Int) = (X : Int) * 2 ^ (8 * i) := by simp
    rw [← this]
    have e64 : (2 : Nat) ^ 64 = 18446744073709551616 := by decide
    omega
  rw [hs]
  have hlt : 2 ^ (8 * i) * X + V < 2 ^ 64 := by
    have h8 : 2 ^ (8 * i) * 256 ≤ 2 ^ 64 := by
      rw [show (256 : Nat) = 2 ^ 8 by decide, ← Nat.pow_add]
      exact Nat.pow_le_pow_right (by decide) (by omega)
    have h9 := Nat.mul_le_mul_left (2 ^ (8 * i)) (show X + 1 ≤ 256 by omega)
    rw [Nat.mul_add, Nat.mul_one] at h9
    omega
  have e64 : (2 : Nat) ^ 64 = 18446744073709551616 := by decide
  have key : (BitVec.ofInt 64 (V : Int) ||| BitVec.ofInt 64 ((X * 2 ^ (8 * i) : Nat) : Int)).toNat = 2 ^ (8 * i) * X + V := by
    rw [BitVec.toNat_or, BitVec.toNat_ofInt, BitVec.toNat_ofInt, show (((V : Nat) : Int) % ((2 ^ 64 : Nat) : Int)).toNat = V by omega,
      show (((X * 2 ^ (8 * i) : Nat) : Int) % ((2 ^ 64 : Nat) : Int)).toNat = X * 2 ^ (8 * i) by omega, Nat.mul_comm X, Nat.or_comm, Nat.two_pow_add_eq_or_of_lt hV]
  show IntKind.u64.wrap ((BitVec.ofInt 64 (V : Int) ||| BitVec.ofInt 64 ((X * 2 ^ (8 * i) : Nat) : Int)).toNat : Nat) = _
  rw [key, IntKind.wrap_u64, ← e2, ← e]
  have : ((2 ^ (8 * i) * X + V : Nat) : Int) = (V : Int) + (X : Int) * ((2 ^ (8 * i) : Nat) : Int) := by
    rw [Nat.mul_comm]; simp; omega
  rw [this]
  omega
theorem number_loop (l : List Int) (hB : isB l) (h8 : l.length ≤ 8) : ∀ (d i k : Nat), i + d = l.length → d < k → mem_number.l0 k (leV (l.take i)) l (l.length : Int) (i : Int) = some (leV l)
  | 0, i, k + 1, hi, hk => by
    unfold mem_number.l0
    rw [if_neg (by omega), List.take_of_length_le (by omega)]
  | d + 1, i, k + 1, hi, hk => by
    have hlt : i < l.length := by omega
    unfold mem_number.l0
    rw [if_pos (by omega), if_pos (by omega), if_pos (by omega), if_pos (by unfold wrap64; omega)]
    have hx := hB _ (List.getElem_mem hlt)
    have hr : rd l (i : Int) = l[i] := by unfold rd; simp [List.getD, List.getElem?_eq_getElem hlt]
    have ht := leV_lt (l.take i) (fun y hy => hB y (List.mem_of_mem_take hy))
    rw [List.length_take, Nat.min_eq_left (by omega)] at ht
    rw [hr, or_shl _ _ i (by omega) ht.1 ht.2 hx.1 hx.2, show wrap64 ((i : Int) + 1) = ((i + 1 : Nat) : Int) by unfold wrap64; omega]
    have hs : leV (l.take i) + l[i] * 256 ^ i = leV (l.take (i + 1)) := by
      rw [List.take_succ_eq_append_getElem hlt, leV_snoc, List.length_take, Nat.min_eq_left (by omega)]
    rw [hs]
    exact number_loop l hB h8 d (i + 1) k (by omega) (by omega)
  | d, i, 0, hi, hk => by omega
theorem number_at (l : List Int) (hB : isB l) (h8 : l.length ≤ 8) : mem_number.f 20 l = some (leV l) := number_loop l hB h8 l.length 0 20 (by omega) (by omega)
theorem bytes_C {w : World} {b : Nat} {d : List Int} {t : TypeId} (h : w.heap[b]? = some (.cells (d.map (Value.int .u8)).toArray t (0, 0))) (o n : Nat) (hn : o + n ≤ d.length) (hm : n ≤ 9223372036854775807) : Kd.C (Kd.int .u8) w (some ⟨b, o, none⟩) n ((d.drop o).take n) := by
  refine ⟨by simp; omega, hm, fun h0 => ⟨_, rfl, fun j p hj => ⟨[.int .u8 p], rfl, rfl, fun i u hu => ?_⟩⟩⟩
  obtain ⟨rfl, rfl⟩ : i = 0 ∧ u = .int .u8 p := by
    cases i with
    | zero => simp at hu; exact ⟨rfl, hu.symm⟩
    | succ i => simp at hu
  have hjn : j < n := by
    have := (List.getElem?_eq_some_iff.1 hj).1
    simp at this; omega
  rw [List.getElem?_take, if_pos hjn, List.getElem?_drop] at hj
  show w.cell? ((⟨b, o, none⟩ : Addr).add (j * 1 + 0)) = _
  rw [show (⟨b, o, none⟩ : Addr).add (j * 1 + 0) = ⟨b, o + j, none⟩ by simp [Addr.add]]
  rw [blk_cell h]
  simp [hj]
theorem eq_nil0 (w : World) : (binOp .eql 93 (.slice none 0 0) (.slice none 0 0)).run Tryz.prog w = .ok (.bool true) w := Lib.run_eql_slice_nil w _ _ none 0 0 0 0 Tryz.underlying93
theorem eq_nil1 (w : World) (a : Addr) (n c : Nat) : (binOp .eql 93 (.slice (some a) n c) (.slice none 0 0)).run Tryz.prog w = .ok (.bool false) w := Lib.run_eql_slice_nil w _ _ (some a) n c 0 0 Tryz.underlying93
set_option maxRecDepth 100000 in
theorem ask_bad (w : World) (M : Nat) (at_ n : Int) (h1 : n ≠ 1) (h8 : n ≠ 8) :
    Calls Tryz.prog 110 #[.pointer (some ⟨M, 0, none⟩), .int .u64 at_, .int .i64 n] w fun e w' => e = .returned (.tuple #[.slice none 0 0, .int .i64 0, .int .i64 1]) ∧ Below w.heap.size w w' := by
  have b1 : (n == 1) = false := by simpa using h1
  have b8 : (n == 8) = false := by simpa using h8
  have d1 : (n != 1) = true := by simpa using h1
  have d8 : (n != 8) = true := by simpa using h8
  go_enter Tryz.func110, Tryz.ntmps110
  go_wp2
  go_ret3
  exact ⟨rfl, Below.refl _ _⟩
set_option maxRecDepth 100000 in
theorem ask_none (w : World) (M : Nat) (A : Option Addr) (P c : Nat) (Q : List (MP × Nat)) (at_ n : Int) (hM : MemIs w M A P c Q) (hg : ∀ q, q ∈ Q → q.1.good) (hl : Q.length ≤ 1000000) (h0 : 0 ≤ at_) (h1 : at_ < 18446744073709551616) (hn : n = 1 ∨ n = 8)
    (hf : ∀ q, q ∈ Q → ¬ q.1.has at_ n) :
    Calls Tryz.prog 110 #[.pointer (some ⟨M, 0, none⟩), .int .u64 at_, .int .i64 n] w fun e w' => e = .returned (.tuple #[.slice none 0 0, .int .i64 0, .int .i64 4]) ∧ Below w.heap.size w w' := by
  have HH := aq (find_none w M A P c Q at_ n hM hg hl h0 h1 (by omega) (by omega) hf)
  clear hM hg hl h1 hf
  have q0 := eq_nil0
  have q1 := eq_nil1
  rcases hn with rfl | rfl
  all_goals
    go_enter Tryz.func110, Tryz.ntmps110
    go_wp2_with (go_at_call 76; refine HH.out.mono ?_; rintro e w1 ⟨rfl, hb⟩; have HB := aq hb; clear hb)
    go_ret3
    exact ⟨rfl, HB.out⟩
set_option maxRecDepth 100000 in
theorem ask_some (w : World) (M : Nat) (A : Option Addr) (P c : Nat) (Q : List (MP × Nat)) (at_ n : Int) (hM : MemIs w M A P c Q) (hg : ∀ q, q ∈ Q → q.1.good) (hl : Q.length ≤ 1000000) (h0 : 0 ≤ at_) (h1 : at_ < 18446744073709551616) (hn : n = 1 ∨ n = 8)
    (i0 : Nat) (p0 : MP) (b0 : Nat) (hq0 : Q[i0]? = some (p0, b0)) (hh0 : p0.has at_ n) (hf : ∀ (j : Nat) q, j < i0 → Q[j]? = some q → ¬ q.1.has at_ n) :
    Calls Tryz.prog 110 #[.pointer (some ⟨M, 0, none⟩), .int .u64 at_, .int .i64 n] w fun e w' => e = .returned (.tuple #[.slice (some ⟨b0, (at_ - p0.a).toNat, none⟩) n.toNat (p0.d.length - (at_ - p0.a).toNat), .int .i64 p0.k, .int .i64 0]) ∧ Below w.heap.size w w' := by
  have HH := aq (find_some w M A P c Q at_ n hM hg hl h0 h1 (by omega) (by omega) i0 p0 b0 hq0 hh0 hf)
  clear hM hg hl h1 hf hq0 hh0
  generalize (at_ - p0.a).toNat = o at HH ⊢
  have q0 := eq_nil0
  have q1 := eq_nil1
  rcases hn with rfl | rfl
  all_goals
    go_enter Tryz.func110, Tryz.ntmps110
    go_wp2_with (go_at_call 76; refine HH.out.mono ?_; rintro e w1 ⟨rfl, hb⟩; have HB := aq hb; clear hb)
    go_ret3
    exact ⟨rfl, HB.out⟩
set_option maxRecDepth 100000 in
theorem load_bad (w : World) (M : Nat) (at_ n : Int) (h1 : n ≠ 1) (h8 : n ≠ 8) :
    Calls Tryz.prog 46 #[.pointer (some ⟨M, 0, none⟩), .int .u64 at_, .int .i64 n] w fun e w' => e = .returned (.tuple #[.int .u64 0, .int .i64 1]) ∧ Below w.heap.size w w' := by
  have HH := aq (ask_bad w M at_ n h1 h8)
  go_enter Tryz.func46, Tryz.ntmps46
  go_wp2_with (go_at_call 110; refine HH.out.mono ?_; rintro e w1 ⟨rfl, hb⟩; have HB := aq hb; clear hb)
  go_ret2
  exact ⟨rfl, HB.out⟩
set_option maxRecDepth 100000 in
theorem load_none (w : World) (M : Nat) (A : Option Addr) (P c : Nat) (Q : List (MP × Nat)) (at_ n : Int) (hM : MemIs w M A P c Q) (hg : ∀ q, q ∈ Q → q.1.good) (hl : Q.length ≤ 1000000) (h0 : 0 ≤ at_) (h1 : at_ < 18446744073709551616) (hn : n = 1 ∨ n = 8)
    (hf : ∀ q, q ∈ Q → ¬ q.1.has at_ n) :
    Calls Tryz.prog 46 #[.pointer (some ⟨M, 0, none⟩), .int .u64 at_, .int .i64 n] w fun e w' => e = .returned (.tuple #[.int .u64 0, .int .i64 4]) ∧ Below w.heap.size w w' := by
  have HH := aq (ask_none w M A P c Q at_ n hM hg hl h0 h1 hn hf)
  clear hM hg hl h1 hf hn
  go_enter Tryz.func46, Tryz.ntmps46
  go_wp2_with (go_at_call 110; refine HH.out.mono ?_; rintro e w1 ⟨rfl, hb⟩; have HB := aq hb; clear hb)
  go_ret2
  exact ⟨rfl, HB.out⟩
set_option maxHeartbeats 1000000 in
set_option maxRecDepth 100000 in
theorem load_some (w : World) (M : Nat) (A : Option Addr) (P c : Nat) (Q : List (MP × Nat)) (at_ n : Int) (hM : MemIs w M A P c Q) (hg : ∀ q, q ∈ Q → q.1.good) (hl : Q.length ≤ 1000000) (h0 : 0 ≤ at_) (h1 : at_ < 18446744073709551616) (hn : n = 1 ∨ n = 8)
    (i0 : Nat) (p0 : MP) (b0 : Nat) (hq0 : Q[i0]? = some (p0, b0)) (hh0 : p0.has at_ n) (hf : ∀ (j : Nat) q, j < i0 → Q[j]? = some q → ¬ q.1.has at_ n) :
    Calls Tryz.prog 46 #[.pointer (some ⟨M, 0, none⟩), .int .u64 at_, .int .i64 n] w fun e w' => e = .returned (.tuple #[.int .u64 (leV ((p0.d.drop (at_ - p0.a).toNat).take n.toNat)), .int .i64 0]) ∧ Below w.heap.size w w' := by
  have HH := aq (ask_some w M A P c Q at_ n hM hg hl h0 h1 hn i0 p0 b0 hq0 hh0 hf)
  have hmem : (p0, b0) ∈ Q := List.mem_of_getElem? hq0
  obtain ⟨g1, g2, g3, g4, g5, g6, g7⟩ := hg _ hmem
  obtain ⟨x1, x2, x3⟩ := hh0
  simp only at g5 g6 g7
  have hD := hM.data _ hmem
  simp only at hD
  have HM := aq hM
  obtain ⟨o, ho⟩ : ∃ o : Nat, o = (at_ - p0.a).toNat := ⟨_, rfl⟩
  have hon : o + n.toNat ≤ p0.d.length := by omega
  rw [← ho] at HH ⊢
  have hbs : isB ((p0.d.drop o).take n.toNat) := fun x hx => g7 x (List.mem_of_mem_drop (List.mem_of_mem_take hx))
  have hlen : ((p0.d.drop o).take n.toNat).length = n.toNat := by rw [List.length_take, List.length_drop]; omega
  have HC := aq (fun (w1 : World) (hb : Below w.heap.size w w1) => bytes_C ((hb.block _ (Array.getElem?_eq_some_iff.1 hD).1).trans hD) o n.toNat hon (by omega))
  have HN := aq (number_at _ hbs (by rw [hlen]; omega))
  have hcell : ∀ w1, Below w.heap.size w w1 → w1.cell? ⟨b0, o, none⟩ = some (.int .u8 (p0.d.getD o 0)) := fun w1 hb => by
    rw [blk_cell ((hb.block _ (Array.getElem?_eq_some_iff.1 hD).1).trans hD)]
    have : o < p0.d.length := by omega
    simp [List.getD, List.getElem?_eq_getElem this]
  have HCELL := aq hcell
  have h1v : n = 1 → leV ((p0.d.drop o).take n.toNat) = p0.d.getD o 0 := fun e => by
    subst e
    have : o < p0.d.length := by omega
    rw [show (1 : Int).toNat = 1 from rfl, List.drop_eq_getElem_cons this]
    show p0.d[o] + 256 * 0 = _
    simp only [List.getD, List.getElem?_eq_getElem this, Option.getD_some]
    omega
  have hx0 : 0 ≤ p0.d.getD o 0 ∧ p0.d.getD o 0 < 256 := by
    have : o < p0.d.length := by omega
    simp only [List.getD, List.getElem?_eq_getElem this, Option.getD_some]
    exact g7 _ (List.getElem_mem this)
  have HLEN := aq hlen
  have HON := aq hon
  clear hM hg hl h1 hf hq0 hD hcell g7 hmem hbs hlen x1 x2 x3 hon ho
  generalize hv : leV ((p0.d.drop o).take n.toNat) = v at *
  clear hv
  rcases hn with rfl | rfl
  · have e1 := h1v rfl
    clear h1v
    subst e1
    generalize p0.d.getD o 0 = x at *
    obtain ⟨y0, y1⟩ := hx0
    clear HC HN
    go_enter Tryz.func46, Tryz.ntmps46
    go_wp2_with (go_at_call 110; refine HH.out.mono ?_; rintro e w1 ⟨rfl, hb⟩; have hc := HCELL.out _ hb; have HB := aq hb; clear hb)
    go_ret2
    exact ⟨rfl, HB.out⟩
  · clear h1v hx0 HCELL
    generalize (p0.d.drop o).take (8 : Int).toNat = l at *
    have hl8 : l.length = 8 := HLEN.out
    have h8 : (8 : Int).toNat = 8 := rfl
    have HL8 := aq hl8
    clear hl8
    have hcap : 8 ≤ p0.d.length - o := by have := HON.out; omega
    generalize p0.d.length - o = cap at *
    have HCAP := aq hcap
    clear hcap h8
    go_enter Tryz.func46, Tryz.ntmps46
    go_wp2_with (first | (go_at_call 110; refine HH.out.mono ?_; rintro e w1 ⟨rfl, hb⟩; have HB := aq hb; clear hb) | (go_at_call 77; have hcall := mem_number.calls 20 (some ⟨b0, o, none⟩) cap l v _ (by rw [HL8.out]; exact HC.out _ HB.out) (by rw [HL8.out]; exact HCAP.out) HN.out; rw [HL8.out] at hcall; refine hcall.mono ?_; clear hcall; rintro e w2 ⟨rfl, ⟨nq, rfl⟩⟩))
    go_ret2
    exact ⟨rfl, pw_below_drewN HB.out _⟩
set_option maxRecDepth 100000 in
theorem word_align (w : World) (M : Nat) (at_ : Int) (h0 : 0 ≤ at_) (h4 : ¬ at_ % 4 = 0) :
    Calls Tryz.prog 25 #[.pointer (some ⟨M, 0, none⟩), .int .u64 at_] w fun e w' => e = .returned (.tuple #[.int .u32 0, .int .i64 5]) ∧ Below w.heap.size w w' := by
  have b1 : (at_ % 4 != 0) = true := by simpa using h4
  clear h4
  go_enter Tryz.func25, Tryz.ntmps25
  go_wp2
  go_ret2
  exact ⟨rfl, Below.refl _ _⟩
set_option maxRecDepth 100000 in
theorem word_none (w : World) (M : Nat) (A : Option Addr) (P c : Nat) (Q : List (MP × Nat)) (at_ : Int) (hM : MemIs w M A P c Q) (hg : ∀ q, q ∈ Q → q.1.good) (hl : Q.length ≤ 1000000) (h0 : 0 ≤ at_) (h1 : at_ < 18446744073709551616) (h4 : at_ % 4 = 0)
    (hf : ∀ q, q ∈ Q → ¬ q.1.has at_ 4) :
    Calls Tryz.prog 25 #[.pointer (some ⟨M, 0, none⟩), .int .u64 at_] w fun e w' => e = .returned (.tuple #[.int .u32 0, .int .i64 4]) ∧ Below w.heap.size w w' := by
  have HH := aq (find_none w M A P c Q at_ 4 hM hg hl h0 h1 (by omega) (by omega) hf)
  have b1 : (at_ % 4 != 0) = false := by simpa using h4
  have q0 := eq_nil0
  clear h4 hM hg hl h1 hf
  go_enter Tryz.func25, Tryz.ntmps25
  go_wp2_with (go_at_call 76; refine HH.out.mono ?_; rintro e w1 ⟨rfl, hb⟩; have HB := aq hb; clear hb)
  go_ret2
  exact ⟨rfl, HB.out⟩
set_option maxRecDepth 100000 in
theorem word_some (w : World) (M : Nat) (A : Option Addr) (P c : Nat) (Q : List (MP × Nat)) (at_ : Int) (hM : MemIs w M A P c Q) (hg : ∀ q, q ∈ Q → q.1.good) (hl : Q.length ≤ 1000000) (h0 : 0 ≤ at_) (h1 : at_ < 18446744073709551616) (h4 : at_ % 4 = 0)
    (i0 : Nat) (p0 : MP) (b0 : Nat) (hq0 : Q[i0]? = some (p0, b0)) (hh0 : p0.has at_ 4) (hf : ∀ (j : Nat) q, j < i0 → Q[j]? = some q → ¬ q.1.has at_ 4) :
    Calls Tryz.prog 25 #[.pointer (some ⟨M, 0, none⟩), .int .u64 at_] w fun e w' => e = .returned (.tuple (if p0.k = 1 then #[.int .u32 (leV ((p0.d.drop (at_ - p0.a).toNat).take 4)), .int .i64 0] else #[.int .u32 0, .int .i64 10])) ∧ Below w.heap.size w w' := by
  have HH := aq (find_some w M A P c Q at_ 4 hM hg hl h0 h1 (by omega) (by omega) i0 p0 b0 hq0 hh0 hf)
  have hmem : (p0, b0) ∈ Q := List.mem_of_getElem? hq0
  obtain ⟨g1, g2, g3, g4, g5, g6, g7⟩ := hg _ hmem
  obtain ⟨x1, x2, x3⟩ := hh0
  simp only at g5 g6 g7
  have hD := hM.data _ hmem
  simp only at hD
  obtain ⟨o, ho⟩ : ∃ o : Nat, o = (at_ - p0.a).toNat := ⟨_, rfl⟩
  have hon : o + 4 ≤ p0.d.length := by omega
  rw [← ho] at HH ⊢
  have hbs : isB ((p0.d.drop o).take 4) := fun x hx => g7 x (List.mem_of_mem_drop (List.mem_of_mem_take hx))
  have hlen : ((p0.d.drop o).take 4).length = 4 := by rw [List.length_take, List.length_drop]; omega
  have HC := aq (fun (w1 : World) (hb : Below w.heap.size w w1) => bytes_C ((hb.block _ (Array.getElem?_eq_some_iff.1 hD).1).trans hD) o 4 hon (by omega))
  have HN := aq (number_at _ hbs (by rw [hlen]; omega))
  have hv := leV_lt _ hbs
  rw [hlen] at hv
  have HL4 := aq hlen
  have hcap : 4 ≤ p0.d.length - o := by omega
  have HCAP := aq hcap
  have b1 : (at_ % 4 != 0) = false := by simpa using h4
  have q1 := eq_nil1
  clear h4 hM hg hl h1 hf hq0 hD g7 hmem hbs hlen x1 x2 x3 hon ho hcap
  generalize (p0.d.drop o).take 4 = l at *
  generalize p0.d.length - o = cap at *
  generalize leV l = v at *
  obtain ⟨v0, v1⟩ := hv
  have v2 : v < 4294967296 := by omega
  clear v1
  by_cases hk : p0.k = 1
  · rw [if_pos hk]
    rw [hk] at HH
    clear hk
    go_enter Tryz.func25, Tryz.ntmps25
    go_wp2_with (first | (go_at_call 76; refine HH.out.mono ?_; rintro e w1 ⟨rfl, hb⟩; have HB := aq hb; clear hb) | (go_at_call 77; have hcall := mem_number.calls 20 (some ⟨b0, o, none⟩) cap l v _ (by rw [HL4.out]; exact HC.out _ HB.out) (by rw [HL4.out]; exact HCAP.out) HN.out; rw [HL4.out] at hcall; refine hcall.mono ?_; clear hcall; rintro e w2 ⟨rfl, ⟨nq, rfl⟩⟩))
    go_ret2
    exact ⟨rfl, pw_below_drewN HB.out _⟩
  · rw [if_neg hk]
    have b2 : (p0.k != 1) = true := by simpa using hk
    clear hk
    generalize p0.k = kk at *
    go_enter Tryz.func25, Tryz.ntmps25
    go_wp2_with (first | (go_at_call 76; refine HH.out.mono ?_; rintro e w1 ⟨rfl, hb⟩; have HB := aq hb; clear hb))
    go_ret2
    exact ⟨rfl, HB.out⟩
def leB (v : Int) : Nat → List Int
  | 0 => []
  | n + 1 => v % 256 :: leB (v / 256) n
theorem leB_length : ∀ (n : Nat) (v : Int), (leB v n).length = n
  | 0, _ => rfl
  | n + 1, v => by rw [leB, List.length_cons, leB_length n]
theorem leB_get : ∀ (n i : Nat) (v : Int), i < n → (leB v n)[i]? = some (v / 256 ^ i % 256)
  | 0, _, _, h => absurd h (by omega)
  | n + 1, 0, v, _ => by simp [leB]
  | n + 1, i + 1, v, h => by
    rw [leB, List.getElem?_cons_succ, leB_get n i (v / 256) (by omega), Int.pow_succ, Int.mul_comm, Int.ediv_ediv_of_nonneg (by decide)]
theorem leB_isB : ∀ (n : Nat) (v : Int), isB (leB v n)
  | 0, _, x, hx => by cases hx
  | n + 1, v, x, hx => by
    rcases List.mem_cons.1 hx with rfl | hx
    · omega
    · exact leB_isB n _ x hx
def setB (d : List Int) (o : Nat) (bs : List Int) : List Int := d.take o ++ bs ++ d.drop (o + bs.length)
theorem setB_nil (d : List Int) (o : Nat) : setB d o [] = d := by simp [setB]
theorem setB_length (d : List Int) (o : Nat) (bs : List Int) (h : o + bs.length ≤ d.length) : (setB d o bs).length = d.length := by
  simp [setB]; omega
theorem setB_get (d : List Int) (o : Nat) (bs : List Int) (h : o + bs.length ≤ d.length) (j : Nat) : (setB d o bs)[j]? = if j < o then d[j]? else if j < o + bs.length then bs[j - o]? else d[j]? := by
  unfold setB
  by_cases h1 : j < o
  · rw [if_pos h1, List.append_assoc, List.getElem?_append_left (by rw [List.length_take]; omega), List.getElem?_take, if_pos h1]
  · rw [if_neg h1]
    by_cases h2 : j < o + bs.length
    · rw [if_pos h2, List.append_assoc, List.getElem?_append_right (by rw [List.length_take]; omega), List.length_take, Nat.min_eq_left (by omega), List.getElem?_append_left (by omega)]
    · rw [if_neg h2, List.getElem?_append_right (by rw [List.length_append, List.length_take]; omega), List.getElem?_drop]
      congr 1
      rw [List.length_append, List.length_take]
      omega
theorem setB_step (d : List Int) (o i : Nat) (bs : List Int) (h : o + bs.length ≤ d.length) (x : Int) (hx : bs[i]? = some x) : (setB d o (bs.take i)).set (o + i) x = setB d o (bs.take (i + 1)) := by
  have hi : i < bs.length := (List.getElem?_eq_some_iff.1 hx).1
  have l1 : (bs.take i).length = i := by rw [List.length_take]; omega
  have l2 : (bs.take (i + 1)).length = i + 1 := by rw [List.length_take]; omega
  have lA := setB_length d o (bs.take i) (by omega)
  apply List.ext_getElem?
  intro j
  rw [List.getElem?_set, setB_get d o _ (by omega), setB_get d o _ (by omega), l1, l2, lA, List.getElem?_take, List.getElem?_take]
  by_cases h1 : o + i = j
  · rw [if_pos h1, if_pos (by omega), if_neg (by omega), if_pos (by omega), if_pos (by omega), show j - o = i by omega, hx]
  · rw [if_neg h1]
    by_cases h2 : j < o
    · rw [if_pos h2, if_pos h2]
    · rw [if_neg h2, if_neg h2]
      by_cases h3 : j < o + i
      · rw [if_pos h3, if_pos (by omega), if_pos (by omega), if_pos (by omega)]
      · rw [if_neg h3, if_neg (by omega)]
structure Touch (w w' : World) (b : Nat) : Prop where
  block : ∀ k, k < w.heap.size → k ≠ b → w'.heap[k]? = w.heap[k]?
  size : w.heap.size ≤ w'.heap.size
  below : ∀ (B : Nat) (U : World), Below B U w → B ≤ b → B ≤ w.heap.size → Below B U w'
theorem Touch.of_below {w w' : World} (b : Nat) (h : Below w.heap.size w w') : Touch w w' b := ⟨fun k hk _ => h.block k hk, h.size, fun B U hu _ hs => hu.trans (h.mono hs)⟩
theorem Touch.set {w w' : World} {b : Nat} (h : Touch w w' b) (j : Nat) (v : Value) : Touch w (w'.setCell ⟨b, j, none⟩ v) b where
  block k hk hn := (Below.heap_setCell w' ⟨b, j, none⟩ v k hn).trans (h.block k hk hn)
  size := by have := h.size; simpa [World.setCell] using this
  below B U hu hb hs := (h.below B U hu hb hs).setCell hb _
theorem Touch.trans {w w1 w2 : World} {b : Nat} (h : Touch w w1 b) (g : Touch w1 w2 b) : Touch w w2 b where
  block k hk hn := (g.block k (Nat.lt_of_lt_of_le hk h.size) hn).trans (h.block k hk hn)
  size := Nat.le_trans h.size g.size
  below B U hu hb hs := g.below B U (h.below B U hu hb hs) hb (Nat.le_trans hs h.size)
theorem Touch.step {w w1 w2 : World} {b : Nat} (h : Touch w w1 b) (hb : Below w1.heap.size w1 w2) : Touch w w2 b := h.trans (Touch.of_below b hb)
theorem MemIs.stored {w w' : World} {M : Nat} {A : Option Addr} {P c : Nat} {Q : List (MP × Nat)} (h : MemIs w M A P c Q) {i : Nat} {p : MP} {b : Nat} (hq : Q[i]? = some (p, b)) (d : List Int) (hd : d.length = p.d.length)
    (hT : Touch w w' b) (hb : w'.heap[b]? = some (.cells (d.map (Value.int .u8)).toArray 5 (0, 0))) : MemIs w' M A P c (Q.set i ({ p with d := d }, b)) := by
  have hmem : (p, b) ∈ Q := List.mem_of_getElem? hq
  have hD := h.data _ hmem
  have hQ : Q ≠ [] := by intro e; rw [e] at hq; cases hq
  obtain ⟨cur, hcur⟩ := h.row hQ
  have hMb : M ≠ b := blk_ne h.head hD (by decide)
  have hPb : P ≠ b := blk_ne hcur hD (by decide)
  have hne : ∀ j q, j ≠ i → Q[j]? = some q → q.2 ≠ b := fun j q hj hjq e => by
    have hap := List.pairwise_iff_getElem.1 h.apart
    have h1 : (Q.map (·.2))[j]? = some q.2 := by rw [List.getElem?_map, hjq]; rfl
    have h2 : (Q.map (·.2))[i]? = some b := by rw [List.getElem?_map, hq]; rfl
    obtain ⟨l1, e1⟩ := List.getElem?_eq_some_iff.1 h1
    obtain ⟨l2, e2⟩ := List.getElem?_eq_some_iff.1 h2
    rcases Nat.lt_or_ge j i with hlt | hge
    · exact hap j i l1 l2 hlt (by rw [e1, e2, e])
    · exact hap i j l2 l1 (by omega) (by rw [e1, e2, e])
  refine ⟨?_, ?_, ?_, ?_, ?_, ?_⟩
  · rw [List.length_set]
    exact (hT.block M (Array.getElem?_eq_some_iff.1 h.head).1 hMb).trans h.head
  · exact fun _ => h.addr hQ
  · exact fun _ => ⟨cur, (hT.block P (Array.getElem?_eq_some_iff.1 hcur).1 hPb).trans hcur⟩
  · intro j q hjq k v hv
    have hc : w.cell? ⟨P, j * 3 + k, none⟩ = some v := by
      rw [List.getElem?_set] at hjq
      by_cases hij : i = j
      · subst hij
        rw [if_pos rfl, if_pos (List.getElem?_eq_some_iff.1 hq).1] at hjq
        obtain rfl := Option.some.inj hjq
        refine h.cells i _ hq k v ?_
        unfold encM at hv ⊢
        simp only [hd] at hv
        exact hv
      · rw [if_neg hij] at hjq
        exact h.cells j q hjq k v hv
    exact (World.cell?_of_block (w := w) (hT.block P (Array.getElem?_eq_some_iff.1 hcur).1 hPb)).trans hc
  · intro q hqm
    obtain ⟨j, hj⟩ := List.mem_iff_getElem?.1 hqm
    rw [List.getElem?_set] at hj
    by_cases hij : i = j
    · subst hij
      rw [if_pos rfl, if_pos (List.getElem?_eq_some_iff.1 hq).1] at hj
      obtain rfl := Option.some.inj hj
      exact hb
    · rw [if_neg hij] at hj
      have hqm' : q ∈ Q := List.mem_of_getElem? hj
      exact (hT.block q.2 (Array.getElem?_eq_some_iff.1 (h.data q hqm')).1 (hne j q (fun e => hij e.symm) hj)).trans (h.data q hqm')
  · have e : (Q.set i ({ p with d := d }, b)).map (·.2) = Q.map (·.2) := by
      apply List.ext_getElem?
      intro j
      rw [List.getElem?_map, List.getElem?_map, List.getElem?_set]
      by_cases hij : i = j
      · subst hij
        rw [if_pos rfl, if_pos (List.getElem?_eq_some_iff.1 hq).1, hq]
        rfl
      · rw [if_neg hij]
    rw [e]
    exact h.apart
set_option maxRecDepth 100000 in
theorem store_bad (w : World) (M : Nat) (at_ n v : Int) (h1 : n ≠ 1) (h8 : n ≠ 8) :
    Calls Tryz.prog 45 #[.pointer (some ⟨M, 0, none⟩), .int .u64 at_, .int .i64 n, .int .u64 v] w fun e w' => e = .returned (.int .i64 1) ∧ Below w.heap.size w w' := by
  have HH := aq (ask_bad w M at_ n h1 h8)
  go_enter Tryz.func45, Tryz.ntmps45
  go_wp2_with (go_at_call 110; refine HH.out.mono ?_; rintro e w1 ⟨rfl, hb⟩; have HB := aq hb; clear hb)
  go_ret
  exact ⟨rfl, HB.out⟩
set_option maxRecDepth 100000 in
theorem store_none (w : World) (M : Nat) (A : Option Addr) (P c : Nat) (Q : List (MP × Nat)) (at_ n v : Int) (hM : MemIs w M A P c Q) (hg : ∀ q, q ∈ Q → q.1.good) (hl : Q.length ≤ 1000000) (h0 : 0 ≤ at_) (h1 : at_ < 18446744073709551616) (hn : n = 1 ∨ n = 8)
    (hf : ∀ q, q ∈ Q → ¬ q.1.has at_ n) :
    Calls Tryz.prog 45 #[.pointer (some ⟨M, 0, none⟩), .int .u64 at_, .int .i64 n, .int .u64 v] w fun e w' => e = .returned (.int .i64 4) ∧ Below w.heap.size w w' := by
  have HH := aq (ask_none w M A P c Q at_ n hM hg hl h0 h1 hn hf)
  clear hM hg hl h1 hf hn
  go_enter Tryz.func45, Tryz.ntmps45
  go_wp2_with (go_at_call 110; refine HH.out.mono ?_; rintro e w1 ⟨rfl, hb⟩; have HB := aq hb; clear hb)
  go_ret
  exact ⟨rfl, HB.out⟩
set_option maxRecDepth 100000 in
theorem store_kept (w : World) (M : Nat) (A : Option Addr) (P c : Nat) (Q : List (MP × Nat)) (at_ n v : Int) (hM : MemIs w M A P c Q) (hg : ∀ q, q ∈ Q → q.1.good) (hl : Q.length ≤ 1000000) (h0 : 0 ≤ at_) (h1 : at_ < 18446744073709551616) (hn : n = 1 ∨ n = 8)
    (i0 : Nat) (p0 : MP) (b0 : Nat) (hq0 : Q[i0]? = some (p0, b0)) (hh0 : p0.has at_ n) (hf : ∀ (j : Nat) q, j < i0 → Q[j]? = some q → ¬ q.1.has at_ n) (hk : p0.k ≠ 3) :
    Calls Tryz.prog 45 #[.pointer (some ⟨M, 0, none⟩), .int .u64 at_, .int .i64 n, .int .u64 v] w fun e w' => e = .returned (.int .i64 10) ∧ Below w.heap.size w w' := by
  have HH := aq (ask_some w M A P c Q at_ n hM hg hl h0 h1 hn i0 p0 b0 hq0 hh0 hf)
  have b1 : (p0.k != 3) = true := by simpa using hk
  clear hM hg hl h1 hf hn hq0 hh0 hk
  generalize p0.k = k at *
  go_enter Tryz.func45, Tryz.ntmps45
  go_wp2_with (go_at_call 110; refine HH.out.mono ?_; rintro e w1 ⟨rfl, hb⟩; have HB := aq hb; clear hb)
  go_ret
  exact ⟨rfl, HB.out⟩
set_option maxHeartbeats 4000000 in
set_option maxRecDepth 100000 in
theorem store_some (w : World) (M : Nat) (A : Option Addr) (P c : Nat) (Q : List (MP × Nat)) (at_ n v : Int) (hM : MemIs w M A P c Q) (hg : ∀ q, q ∈ Q → q.1.good) (hl : Q.length ≤ 1000000) (h0 : 0 ≤ at_) (h1 : at_ < 18446744073709551616) (hn : n = 1 ∨ n = 8) (v0 : 0 ≤ v) (v1 : v < 18446744073709551616)
    (i0 : Nat) (p0 : MP) (b0 : Nat) (hq0 : Q[i0]? = some (p0, b0)) (hh0 : p0.has at_ n) (hf : ∀ (j : Nat) q, j < i0 → Q[j]? = some q → ¬ q.1.has at_ n) (hk : p0.k = 3) :
    Calls Tryz.prog 45 #[.pointer (some ⟨M, 0, none⟩), .int .u64 at_, .int .i64 n, .int .u64 v] w fun e w' => e = .returned (.int .i64 0) ∧ Touch w w' b0 ∧ MemIs w' M A P c (Q.set i0 ({ p0 with d := setB p0.d (at_ - p0.a).toNat (leB v n.toNat) }, b0)) := by
  have HH := aq (ask_some w M A P c Q at_ n hM hg hl h0 h1 hn i0 p0 b0 hq0 hh0 hf)
  have hmem : (p0, b0) ∈ Q := List.mem_of_getElem? hq0
  obtain ⟨x1, x2, x3⟩ := hh0
  have hD := hM.data _ hmem
  simp only at hD
  have HM := aq hM
  have HQ := aq hq0
  obtain ⟨o, ho⟩ : ∃ o : Nat, o = (at_ - p0.a).toNat := ⟨_, rfl⟩
  have hon : o + n.toNat ≤ p0.d.length := by omega
  rw [← ho] at HH ⊢
  rw [hk] at HH
  have HD := aq hD
  have HON := aq hon
  have HV := aq v1
  have hlb := leB_length n.toNat v
  have HLB := aq hlb
  have hsl := setB_length p0.d o (leB v n.toNat) (by omega)
  have HSL := aq hsl
  have hgB := leB_get n.toNat
  have HGB := aq (fun i (hi : i < n.toNat) => leB_get n.toNat i v hi)
  clear hM hg hl h1 hf hq0 hmem x1 x2 x3 ho hk hon hD v1 hlb hsl hgB
  generalize leB v n.toNat = bs at *
  have hend : ∀ w', Touch w w' b0 → w'.heap[b0]? = some (.cells ((setB p0.d o bs).map (Value.int .u8)).toArray 5 (0, 0)) → MemIs w' M A P c (Q.set i0 ({ p0 with d := setB p0.d o bs }, b0)) := fun w' hT hb => HM.out.stored HQ.out _ HSL.out hT hb
  have HE := aq hend
  clear hend
  have hstep : ∀ (wr : World) (i : Nat) (x : Int), bs[i]? = some x → wr.heap[b0]? = some (.cells ((setB p0.d o (bs.take i)).map (Value.int .u8)).toArray 5 (0, 0)) →
      (wr.setCell ⟨b0, o + i, none⟩ (.int .u8 x)).heap[b0]? = some (.cells ((setB p0.d o (bs.take (i + 1))).map (Value.int .u8)).toArray 5 (0, 0)) := fun wr i x hx hb => by
    rw [blk_set hb, List.setIfInBounds_toArray, ← setB_step p0.d o i bs (by have := HON.out; have := HLB.out; omega) x hx, List.map_set]
  have HS := aq hstep
  clear hstep
  have hold : ∀ (wr : World) (i : Nat), i < n.toNat → wr.heap[b0]? = some (.cells ((setB p0.d o (bs.take i)).map (Value.int .u8)).toArray 5 (0, 0)) → (∃ y, wr.cell? ⟨b0, o + i, none⟩ = some (.int .u8 y)) ∧ wr.frozen? ⟨b0, o + i, none⟩ = false := fun wr i hi hb => by
    refine ⟨?_, blk_frozen hb _⟩
    rw [blk_cell hb]
    have hl : (setB p0.d o (bs.take i)).length = p0.d.length := setB_length _ _ _ (by rw [List.length_take]; have := HON.out; have := HLB.out; omega)
    have hlt : o + i < (setB p0.d o (bs.take i)).length := by have := HON.out; omega
    exact ⟨(setB p0.d o (bs.take i))[o + i], by simp [List.getElem?_eq_getElem hlt]⟩
  have HO := aq hold
  clear hold
  generalize p0.d.length - o = cap at *
  rcases hn with rfl | rfl
  · have hnn : (1 : Int).toNat = 1 := rfl
    rw [hnn] at *
    clear hnn
    go_enter Tryz.func45, Tryz.ntmps45
    go_wp2_with (go_at_call 110; refine HH.out.mono ?_; rintro e w1 ⟨rfl, hb⟩; have HB := aq hb; clear hb)
    go_loopg [30] 1 (fun kq v30 wr => ∃ i : Nat, v30 = .int .i64 (i : Int) ∧ i + kq = 1 ∧ Aside0 (Touch w wr b0) ∧ Aside0 (wr.heap[b0]? = some (.cells ((setB p0.d o (bs.take i)).map (Value.int .u8)).toArray 5 (0, 0))))
    case atStart => exact ⟨0, rfl, by omega, ⟨Touch.of_below b0 HB.out⟩, ⟨by rw [List.take_zero, setB_nil]; exact (HB.out.block b0 (Array.getElem?_eq_some_iff.1 HD.out).1).trans HD.out⟩⟩
    case round =>
      obtain ⟨i, rfl, hik, HT, HK⟩ := hrel
      cases gk with
      | zero =>
        have hi : ¬ (i < 1) := by omega
        have HI := aq hik
        obtain rfl : i = 1 := by omega
        clear hik hi
        go_wp2
        go_ret
        refine ⟨rfl, HT.out, HE.out _ HT.out ?_⟩
        have := HK.out
        rwa [List.take_of_length_le (by have := HLB.out; omega)] at this
      | succ kq =>
        have hi : i < 1 := by omega
        obtain ⟨⟨y, hy⟩, hfz⟩ := HO.out wr i hi HK.out
        have hb := HGB.out i hi
        have HIK := aq hik
        clear hik
        obtain rfl : i = 0 := by omega
        clear hi
        have hx := hb
        rw [show v / 256 ^ 0 % 256 = v % 256 by simp] at hx
        have HX := aq hx
        clear hx hb
        rw [Nat.add_zero] at hy hfz
        go_wp2
        go_roundg kq
        case measure => omega
        case rel => exact ⟨0 + 1, rfl, by have := HIK.out; omega, ⟨HT.out.set _ _⟩, ⟨HS.out wr 0 _ HX.out HK.out⟩⟩
  · have hnn : (8 : Int).toNat = 8 := rfl
    rw [hnn] at *
    clear hnn
    go_enter Tryz.func45, Tryz.ntmps45
    go_wp2_with (go_at_call 110; refine HH.out.mono ?_; rintro e w1 ⟨rfl, hb⟩; have HB := aq hb; clear hb)
    go_loopg [30] 8 (fun kq v30 wr => ∃ i : Nat, v30 = .int .i64 (i : Int) ∧ i + kq = 8 ∧ Aside0 (Touch w wr b0) ∧ Aside0 (wr.heap[b0]? = some (.cells ((setB p0.d o (bs.take i)).map (Value.int .u8)).toArray 5 (0, 0))))
    case atStart => exact ⟨0, rfl, by omega, ⟨Touch.of_below b0 HB.out⟩, ⟨by rw [List.take_zero, setB_nil]; exact (HB.out.block b0 (Array.getElem?_eq_some_iff.1 HD.out).1).trans HD.out⟩⟩
    case round =>
      obtain ⟨i, rfl, hik, HT, HK⟩ := hrel
      cases gk with
      | zero =>
        have hi : ¬ (i < 8) := by omega
        have HI := aq hik
        obtain rfl : i = 8 := by omega
        clear hik hi
        go_wp2
        go_ret
        refine ⟨rfl, HT.out, HE.out _ HT.out ?_⟩
        have := HK.out
        rwa [List.take_of_length_le (by have := HLB.out; omega)] at this
      | succ kq =>
        have hi : i < 8 := by omega
        obtain ⟨⟨y, hy⟩, hfz⟩ := HO.out wr i hi HK.out
        have hb := HGB.out i hi
        have HIK := aq hik
        clear hik
        obtain rfl | rfl | rfl | rfl | rfl | rfl | rfl | rfl : i = 0 ∨ i = 1 ∨ i = 2 ∨ i = 3 ∨ i = 4 ∨ i = 5 ∨ i = 6 ∨ i = 7 := by omega
        · clear hi
          have hx := hb
          rw [show v / 256 ^ 0 % 256 = v % 256 by simp] at hx
          have HX := aq hx
          clear hx hb
          rw [Nat.add_zero] at hy hfz
          go_wp2
          go_roundg kq
          case measure => omega
          case rel => exact ⟨0 + 1, rfl, by have := HIK.out; omega, ⟨HT.out.set _ _⟩, ⟨HS.out wr 0 _ HX.out HK.out⟩⟩
        · clear hi
          have hx := hb
          rw [show v / 256 ^ 1 % 256 = v / 256 % 256 by rfl] at hx
          have HX := aq hx
          clear hx hb
          go_wp2
          go_roundg kq
          case measure => omega
          case rel => exact ⟨1 + 1, rfl, by have := HIK.out; omega, ⟨HT.out.set _ _⟩, ⟨HS.out wr 1 _ HX.out HK.out⟩⟩
        · clear hi
          have hx := hb
          rw [show v / 256 ^ 2 % 256 = v / 65536 % 256 by rfl] at hx
          have HX := aq hx
          clear hx hb
          go_wp2
          go_roundg kq
          case measure => omega
          case rel => exact ⟨2 + 1, rfl, by have := HIK.out; omega, ⟨HT.out.set _ _⟩, ⟨HS.out wr 2 _ HX.out HK.out⟩⟩
        · clear hi
          have hx := hb
          rw [show v / 256 ^ 3 % 256 = v / 16777216 % 256 by rfl] at hx
          have HX := aq hx
          clear hx hb
          go_wp2
          go_roundg kq
          case measure => omega
          case rel => exact ⟨3 + 1, rfl, by have := HIK.out; omega, ⟨HT.out.set _ _⟩, ⟨HS.out wr 3 _ HX.out HK.out⟩⟩
        · clear hi
          have hx := hb
          rw [show v / 256 ^ 4 % 256 = v / 4294967296 % 256 by rfl] at hx
          have HX := aq hx
          clear hx hb
          go_wp2
          go_roundg kq
          case measure => omega
          case rel => exact ⟨4 + 1, rfl, by have := HIK.out; omega, ⟨HT.out.set _ _⟩, ⟨HS.out wr 4 _ HX.out HK.out⟩⟩
        · clear hi
          have hx := hb
          rw [show v / 256 ^ 5 % 256 = v / 1099511627776 % 256 by rfl] at hx
          have HX := aq hx
          clear hx hb
          go_wp2
          go_roundg kq
          case measure => omega
          case rel => exact ⟨5 + 1, rfl, by have := HIK.out; omega, ⟨HT.out.set _ _⟩, ⟨HS.out wr 5 _ HX.out HK.out⟩⟩
        · clear hi
          have hx := hb
          rw [show v / 256 ^ 6 % 256 = v / 281474976710656 % 256 by rfl] at hx
          have HX := aq hx
          clear hx hb
          go_wp2
          go_roundg kq
          case measure => omega
          case rel => exact ⟨6 + 1, rfl, by have := HIK.out; omega, ⟨HT.out.set _ _⟩, ⟨HS.out wr 6 _ HX.out HK.out⟩⟩
        · clear hi
          have hx := hb
          rw [show v / 256 ^ 7 % 256 = v / 72057594037927936 % 256 by rfl] at hx
          have HX := aq hx
          clear hx hb
          go_wp2
          go_roundg kq
          case measure => omega
          case rel => exact ⟨7 + 1, rfl, by have := HIK.out; omega, ⟨HT.out.set _ _⟩, ⟨HS.out wr 7 _ HX.out HK.out⟩⟩
end Go.Proofs.YtblnfngigdipcaaGreatDoor.MW
namespace Go.Proofs.YtblnfngigdipcaaGreatDoor.ST
open Go.RowKit Go.Proofs.YtblnfngigdipcaaGreatDoor.P Go.Proofs.YtblnfngigdipcaaGreatDoorW.PrintWords Go.Proofs.YtblnfngigdipcaaGreatDoorW.PrintLast Go.Proofs.YtblnfngigdipcaaGreatDoorW.PrintMore
set_option linter.unusedVariables false
set_option linter.unusedSimpArgs false
def MacE (w : World) (M : Nat) (mp : Value) (i : INS) (t : Value) : Prop := ∃ c, Mac w M c mp i t
theorem MacE.of {w : World} {M : Nat} {c : CPU} {mp : Value} {i : INS} {t : Value} (h : Mac w M c mp i t) : MacE w M mp i t := ⟨c, h⟩
theorem MacE.ld_n {w : World} {M : Nat} {mp : Value} {i : INS} {t : Value} (h : MacE w M mp i t) : Sem.run Tryz.prog (Instr.loadAt 3 (.pointer (some ⟨M, 40, none⟩))) w = .ok (.int .i64 i.n) w := by
  obtain ⟨c, h⟩ := h
  exact load_int M 40 i.n w ((h.cell 40).trans rfl)
theorem MacE.ld_o {w : World} {M : Nat} {mp : Value} {i : INS} {t : Value} (h : MacE w M mp i t) : Sem.run Tryz.prog (Instr.loadAt 3 (.pointer (some ⟨M, 38, none⟩))) w = .ok (.int .i64 i.o) w := by
  obtain ⟨c, h⟩ := h
  exact load_int M 38 i.o w ((h.cell 38).trans rfl)
def CPU.near (c : CPU) (i : INS) : Int := IntKind.u64.wrap (c.pc + IntKind.u64.wrap i.im)
set_option maxHeartbeats 2000000 in
set_option maxRecDepth 100000 in
theorem branch_29 (c : CPU) (mp : Value) (i : INS) (t : Value) (M : Nat) (w : World) (hm : Mac w M c mp i t) (ho : i.o = 29) :
    Calls Tryz.prog 84 #[.pointer (some ⟨M, 0, none⟩)] w fun e w' => e = .returned (.bool true) ∧ Only w w' M ∧ Mac w' M (c.jump true (c.near i) false) mp i t := by
  have cp : w.cell? ⟨M, 32, none⟩ = some (.int .u64 c.pc) := (hm.cell 32).trans rfl
  have ci : w.cell? ⟨M, 43, none⟩ = some (.int .i64 i.im) := (hm.cell 43).trans rfl
  have HM1 := aq (show Mac w.drew M c mp i t from hm)
  have HO1 := aq (Only.of_below M (below_drew1 (Below.refl w.heap.size w)))
  clear hm
  have HN := aq (show CPU.near c i = IntKind.u64.wrap (c.pc + IntKind.u64.wrap i.im) from rfl)
  go_enter Tryz.func84, Tryz.ntmps84
  go_upto_region 1 with fail
  go_region
  rw [← HN.out]
  generalize w.drew = w1 at *
  clear cp ci HN
  have co : w1.cell? ⟨M, 38, none⟩ = some (.int .i64 i.o) := (HM1.out.cell 38).trans rfl
  rw [ho] at co
  go_wp2_with (go_at_call 158; refine (jump_at c mp i t M _ _ _ _ HM1.out).mono ?_; rintro e w3 ⟨rfl, ho, hm⟩; have HM3 := aq hm; have HO3 := aq (HO1.out.trans ho); clear ho hm)
  go_ret
  exact ⟨rfl, HO3.out, HM3.out⟩
set_option maxHeartbeats 2000000 in
set_option maxRecDepth 100000 in
theorem branch_30 (c : CPU) (mp : Value) (i : INS) (t : Value) (M : Nat) (w : World) (hm : Mac w M c mp i t) (ho : i.o = 30) :
    Calls Tryz.prog 84 #[.pointer (some ⟨M, 0, none⟩)] w fun e w' => e = .returned (.bool true) ∧ Only w w' M ∧ Mac w' M (c.jump true (c.near i) true) mp i t := by
  have cp : w.cell? ⟨M, 32, none⟩ = some (.int .u64 c.pc) := (hm.cell 32).trans rfl
  have ci : w.cell? ⟨M, 43, none⟩ = some (.int .i64 i.im) := (hm.cell 43).trans rfl
  have HM1 := aq (show Mac w.drew M c mp i t from hm)
  have HO1 := aq (Only.of_below M (below_drew1 (Below.refl w.heap.size w)))
  clear hm
  have HN := aq (show CPU.near c i = IntKind.u64.wrap (c.pc + IntKind.u64.wrap i.im) from rfl)
  go_enter Tryz.func84, Tryz.ntmps84
  go_upto_region 1 with fail
  go_region
  rw [← HN.out]
  generalize w.drew = w1 at *
  clear cp ci HN
  have co : w1.cell? ⟨M, 38, none⟩ = some (.int .i64 i.o) := (HM1.out.cell 38).trans rfl
  rw [ho] at co
  go_wp2_with (go_at_call 158; refine (jump_at c mp i t M _ _ _ _ HM1.out).mono ?_; rintro e w3 ⟨rfl, ho, hm⟩; have HM3 := aq hm; have HO3 := aq (HO1.out.trans ho); clear ho hm)
  go_ret
  exact ⟨rfl, HO3.out, HM3.out⟩
set_option maxHeartbeats 2000000 in
set_option maxRecDepth 100000 in
theorem branch_32 (c : CPU) (mp : Value) (i : INS) (t : Value) (M : Nat) (w : World) (hm : Mac w M c mp i t) (ho : i.o = 32) (d0 : 0 ≤ i.d) (d1 : i.d ≤ 31) :
    Calls Tryz.prog 84 #[.pointer (some ⟨M, 0, none⟩)] w fun e w' => e = .returned (.bool true) ∧ Only w w' M ∧ Mac w' M (c.jump (c.reg i.d false == 0) (c.near i) false) mp i t := by
  have cp : w.cell? ⟨M, 32, none⟩ = some (.int .u64 c.pc) := (hm.cell 32).trans rfl
  have ci : w.cell? ⟨M, 43, none⟩ = some (.int .i64 i.im) := (hm.cell 43).trans rfl
  have HM1 := aq (show Mac w.drew M c mp i t from hm)
  have HO1 := aq (Only.of_below M (below_drew1 (Below.refl w.heap.size w)))
  clear hm
  have HN := aq (show CPU.near c i = IntKind.u64.wrap (c.pc + IntKind.u64.wrap i.im) from rfl)
  go_enter Tryz.func84, Tryz.ntmps84
  go_upto_region 1 with fail
  go_region
  rw [← HN.out]
  generalize w.drew = w1 at *
  clear cp ci HN
  have co : w1.cell? ⟨M, 38, none⟩ = some (.int .i64 i.o) := (HM1.out.cell 38).trans rfl
  rw [ho] at co
  have cd : w1.cell? ⟨M, 39, none⟩ = some (.int .i64 i.d) := (HM1.out.cell 39).trans rfl
  have HG := aq (get_at c mp i t M i.d false w1 HM1.out d0 d1)
  clear d0 d1
  go_wp2_with (first | (go_at_call 160; refine HG.out.mono ?_; rintro e w2 ⟨rfl, hb⟩; have HM2 := aq (HM1.out.below hb); have HO2 := aq (HO1.out.trans (Only.of_below M hb)); clear hb) | (go_at_call 158; refine (jump_at c mp i t M _ _ _ _ HM2.out).mono ?_; rintro e w3 ⟨rfl, ho, hm⟩; have HM3 := aq hm; have HO3 := aq (HO2.out.trans ho); clear ho hm))
  go_ret
  exact ⟨rfl, HO3.out, HM3.out⟩
set_option maxHeartbeats 2000000 in
set_option maxRecDepth 100000 in
theorem branch_33 (c : CPU) (mp : Value) (i : INS) (t : Value) (M : Nat) (w : World) (hm : Mac w M c mp i t) (ho : i.o = 33) (d0 : 0 ≤ i.d) (d1 : i.d ≤ 31) :
    Calls Tryz.prog 84 #[.pointer (some ⟨M, 0, none⟩)] w fun e w' => e = .returned (.bool true) ∧ Only w w' M ∧ Mac w' M (c.jump (c.reg i.d false != 0) (c.near i) false) mp i t := by
  have cp : w.cell? ⟨M, 32, none⟩ = some (.int .u64 c.pc) := (hm.cell 32).trans rfl
  have ci : w.cell? ⟨M, 43, none⟩ = some (.int .i64 i.im) := (hm.cell 43).trans rfl
  have HM1 := aq (show Mac w.drew M c mp i t from hm)
  have HO1 := aq (Only.of_below M (below_drew1 (Below.refl w.heap.size w)))
  clear hm
  have HN := aq (show CPU.near c i = IntKind.u64.wrap (c.pc + IntKind.u64.wrap i.im) from rfl)
  go_enter Tryz.func84, Tryz.ntmps84
  go_upto_region 1 with fail
  go_region
  rw [← HN.out]
  generalize w.drew = w1 at *
  clear cp ci HN
  have co : w1.cell? ⟨M, 38, none⟩ = some (.int .i64 i.o) := (HM1.out.cell 38).trans rfl
  rw [ho] at co
  have cd : w1.cell? ⟨M, 39, none⟩ = some (.int .i64 i.d) := (HM1.out.cell 39).trans rfl
  have HG := aq (get_at c mp i t M i.d false w1 HM1.out d0 d1)
  clear d0 d1
  go_wp2_with (first | (go_at_call 160; refine HG.out.mono ?_; rintro e w2 ⟨rfl, hb⟩; have HM2 := aq (HM1.out.below hb); have HO2 := aq (HO1.out.trans (Only.of_below M hb)); clear hb) | (go_at_call 158; refine (jump_at c mp i t M _ _ _ _ HM2.out).mono ?_; rintro e w3 ⟨rfl, ho, hm⟩; have HM3 := aq hm; have HO3 := aq (HO2.out.trans ho); clear ho hm))
  go_ret
  exact ⟨rfl, HO3.out, HM3.out⟩
attribute [-go_sem] Instr.loadAt in
set_option maxHeartbeats 4000000 in
set_option maxRecDepth 100000 in
theorem branch_34 (c : CPU) (mp : Value) (i : INS) (t : Value) (M : Nat) (w : World) (hm : Mac w M c mp i t) (ho : i.o = 34) (n0 : 0 ≤ i.n) (n1 : i.n ≤ 31) :
    Calls Tryz.prog 84 #[.pointer (some ⟨M, 0, none⟩)] w fun e w' => e = .returned (.bool true) ∧ Only w w' M ∧ Mac w' M (c.jump true (c.reg i.n false) false) mp i t := by
  have hp := load_u64 M 32 c.pc w.drew ((hm.cell 32).trans rfl)
  have hi := load_int M 43 i.im w.drew ((hm.cell 43).trans rfl)
  have cp : w.cell? ⟨M, 32, none⟩ = some (.int .u64 c.pc) := (hm.cell 32).trans rfl
  have ci : w.cell? ⟨M, 43, none⟩ = some (.int .i64 i.im) := (hm.cell 43).trans rfl
  have HM1 := aq (show Mac w.drew M c mp i t from hm)
  have HO1 := aq (Only.of_below M (below_drew1 (Below.refl w.heap.size w)))
  clear hm
  have HN := aq (show CPU.near c i = IntKind.u64.wrap (c.pc + IntKind.u64.wrap i.im) from rfl)
  go_enter Tryz.func84, Tryz.ntmps84
  go_upto_region 1 with fail
  go_region
  rw [← HN.out]
  generalize w.drew = w1 at *
  clear cp ci HN hp hi
  have co : w1.cell? ⟨M, 38, none⟩ = some (.int .i64 i.o) := (HM1.out.cell 38).trans rfl
  rw [ho] at co
  have hc := load_int M 38 34 w1 co
  go_upto_region 17 with fail
  clear hc co
  have HM2 := aq (show Mac w1.drew M c mp i t from HM1.out)
  have HO2 := aq (HO1.out.trans (Only.of_below M (below_drew1 (Below.refl _ w1))))
  have hl1 := fun (w' : World) (h : MacE w' M mp i t) => h.ld_n
  have hl2 := fun (w' : World) (h : MacE w' M mp i t) => h.ld_o.trans (by rw [ho] : _ = Result.ok (.int .i64 34) w')
  have HG := aq (fun w hm => get_at c mp i t M i.n false w hm n0 n1)
  have HJ := aq (fun ta cl w hm => jump_at c mp i t M true ta cl w hm)
  clear n0 n1 ho HM1 HO1
  go_region_held3 (fun w' => MacE w' M mp i t) (with_reducible first | exact MacE.of HM2.out | exact MacE.of HM3.out | exact MacE.of HM4.out) (first | (go_at_call 160; refine (HG.out _ HM2.out).mono ?_; rintro e w3 ⟨rfl, hb⟩; have HM3 := aq (HM2.out.below hb); have HO3 := aq (HO2.out.trans (Only.of_below M hb)); clear hb) | (go_at_call 158; refine (HJ.out _ _ _ HM3.out).mono ?_; rintro e w4 ⟨rfl, ho, hm⟩; have HM4 := aq hm; have HO4 := aq (HO3.out.trans ho); clear ho hm))
  all_goals
    go_wp2
    go_ret
    exact ⟨rfl, HO4.out, HM4.out⟩
attribute [-go_sem] Instr.loadAt in
set_option maxHeartbeats 4000000 in
set_option maxRecDepth 100000 in
theorem branch_35 (c : CPU) (mp : Value) (i : INS) (t : Value) (M : Nat) (w : World) (hm : Mac w M c mp i t) (ho : i.o = 35) (n0 : 0 ≤ i.n) (n1 : i.n ≤ 31) :
    Calls Tryz.prog 84 #[.pointer (some ⟨M, 0, none⟩)] w fun e w' => e = .returned (.bool true) ∧ Only w w' M ∧ Mac w' M (c.jump true (c.reg i.n false) true) mp i t := by
  have hp := load_u64 M 32 c.pc w.drew ((hm.cell 32).trans rfl)
  have hi := load_int M 43 i.im w.drew ((hm.cell 43).trans rfl)
  have cp : w.cell? ⟨M, 32, none⟩ = some (.int .u64 c.pc) := (hm.cell 32).trans rfl
  have ci : w.cell? ⟨M, 43, none⟩ = some (.int .i64 i.im) := (hm.cell 43).trans rfl
  have HM1 := aq (show Mac w.drew M c mp i t from hm)
  have HO1 := aq (Only.of_below M (below_drew1 (Below.refl w.heap.size w)))
  clear hm
  have HN := aq (show CPU.near c i = IntKind.u64.wrap (c.pc + IntKind.u64.wrap i.im) from rfl)
  go_enter Tryz.func84, Tryz.ntmps84
  go_upto_region 1 with fail
  go_region
  rw [← HN.out]
  generalize w.drew = w1 at *
  clear cp ci HN hp hi
  have co : w1.cell? ⟨M, 38, none⟩ = some (.int .i64 i.o) := (HM1.out.cell 38).trans rfl
  rw [ho] at co
  have hc := load_int M 38 35 w1 co
  go_upto_region 17 with fail
  clear hc co
  have HM2 := aq (show Mac w1.drew M c mp i t from HM1.out)
  have HO2 := aq (HO1.out.trans (Only.of_below M (below_drew1 (Below.refl _ w1))))
  have hl1 := fun (w' : World) (h : MacE w' M mp i t) => h.ld_n
  have hl2 := fun (w' : World) (h : MacE w' M mp i t) => h.ld_o.trans (by rw [ho] : _ = Result.ok (.int .i64 35) w')
  have HG := aq (fun w hm => get_at c mp i t M i.n false w hm n0 n1)
  have HJ := aq (fun ta cl w hm => jump_at c mp i t M true ta cl w hm)
  clear n0 n1 ho HM1 HO1
  go_region_held3 (fun w' => MacE w' M mp i t) (with_reducible first | exact MacE.of HM2.out | exact MacE.of HM3.out | exact MacE.of HM4.out) (first | (go_at_call 160; refine (HG.out _ HM2.out).mono ?_; rintro e w3 ⟨rfl, hb⟩; have HM3 := aq (HM2.out.below hb); have HO3 := aq (HO2.out.trans (Only.of_below M hb)); clear hb) | (go_at_call 158; refine (HJ.out _ _ _ HM3.out).mono ?_; rintro e w4 ⟨rfl, ho, hm⟩; have HM4 := aq hm; have HO4 := aq (HO3.out.trans ho); clear ho hm))
  all_goals
    go_wp2
    go_ret
    exact ⟨rfl, HO4.out, HM4.out⟩
attribute [-go_sem] Instr.loadAt in
set_option maxHeartbeats 4000000 in
set_option maxRecDepth 100000 in
theorem branch_36 (c : CPU) (mp : Value) (i : INS) (t : Value) (M : Nat) (w : World) (hm : Mac w M c mp i t) (ho : i.o = 36) (n0 : 0 ≤ i.n) (n1 : i.n ≤ 31) :
    Calls Tryz.prog 84 #[.pointer (some ⟨M, 0, none⟩)] w fun e w' => e = .returned (.bool true) ∧ Only w w' M ∧ Mac w' M (c.jump true (c.reg i.n false) false) mp i t := by
  have hp := load_u64 M 32 c.pc w.drew ((hm.cell 32).trans rfl)
  have hi := load_int M 43 i.im w.drew ((hm.cell 43).trans rfl)
  have cp : w.cell? ⟨M, 32, none⟩ = some (.int .u64 c.pc) := (hm.cell 32).trans rfl
  have ci : w.cell? ⟨M, 43, none⟩ = some (.int .i64 i.im) := (hm.cell 43).trans rfl
  have HM1 := aq (show Mac w.drew M c mp i t from hm)
  have HO1 := aq (Only.of_below M (below_drew1 (Below.refl w.heap.size w)))
  clear hm
  have HN := aq (show CPU.near c i = IntKind.u64.wrap (c.pc + IntKind.u64.wrap i.im) from rfl)
  go_enter Tryz.func84, Tryz.ntmps84
  go_upto_region 1 with fail
  go_region
  rw [← HN.out]
  generalize w.drew = w1 at *
  clear cp ci HN hp hi
  have co : w1.cell? ⟨M, 38, none⟩ = some (.int .i64 i.o) := (HM1.out.cell 38).trans rfl
  rw [ho] at co
  have hc := load_int M 38 36 w1 co
  go_upto_region 17 with fail
  clear hc co
  have HM2 := aq (show Mac w1.drew M c mp i t from HM1.out)
  have HO2 := aq (HO1.out.trans (Only.of_below M (below_drew1 (Below.refl _ w1))))
  have hl1 := fun (w' : World) (h : MacE w' M mp i t) => h.ld_n
  have hl2 := fun (w' : World) (h : MacE w' M mp i t) => h.ld_o.trans (by rw [ho] : _ = Result.ok (.int .i64 36) w')
  have HG := aq (fun w hm => get_at c mp i t M i.n false w hm n0 n1)
  have HJ := aq (fun ta cl w hm => jump_at c mp i t M true ta cl w hm)
  clear n0 n1 ho HM1 HO1
  go_region_held3 (fun w' => MacE w' M mp i t) (with_reducible first | exact MacE.of HM2.out | exact MacE.of HM3.out | exact MacE.of HM4.out) (first | (go_at_call 160; refine (HG.out _ HM2.out).mono ?_; rintro e w3 ⟨rfl, hb⟩; have HM3 := aq (HM2.out.below hb); have HO3 := aq (HO2.out.trans (Only.of_below M hb)); clear hb) | (go_at_call 158; refine (HJ.out _ _ _ HM3.out).mono ?_; rintro e w4 ⟨rfl, ho, hm⟩; have HM4 := aq hm; have HO4 := aq (HO3.out.trans ho); clear ho hm))
  all_goals
    go_wp2
    go_ret
    exact ⟨rfl, HO4.out, HM4.out⟩
theorem MacE.ld_f {w : World} {M : Nat} {c : CPU} {mp : Value} {i : INS} {t : Value} (h : Mac w M c mp i t) : Sem.run Tryz.prog (Instr.loadAt 25 (.pointer (some ⟨M, 33, none⟩))) w = .ok (.agg (FL.a ⟨c.n, c.z, c.c, c.v⟩)) w :=
  run_loadAt_mid w M 33 25 (FL.l ⟨c.n, c.z, c.c, c.v⟩) _ (range_blk h 33 _ fun j v hj => by
    have hj4 : j < 4 := (List.getElem?_eq_some_iff.1 hj).1
    have : j = 0 ∨ j = 1 ∨ j = 2 ∨ j = 3 := by omega
    rcases this with rfl | rfl | rfl | rfl <;> exact hj) under_fl rfl info_fl
attribute [-go_sem] Instr.loadAt in
set_option maxHeartbeats 4000000 in
set_option maxRecDepth 100000 in
theorem branch_31 (c : CPU) (mp : Value) (i : INS) (t : Value) (M : Nat) (w : World) (hm : Mac w M c mp i t) (ho : i.o = 31) (b : Bool) (e2 : Int) (hF : ∀ w : World, Calls Tryz.prog 159 #[.int .i64 i.cd, .agg (FL.a ⟨c.n, c.z, c.c, c.v⟩)] w fun e_ w' => e_ = .returned (.tuple #[.bool b, .int .i64 e2]) ∧ Below w.heap.size w w') :
    Calls Tryz.prog 84 #[.pointer (some ⟨M, 0, none⟩)] w fun e w' => e = .returned (.bool true) ∧ Only w w' M ∧ Mac w' M (c.jump b (c.near i) false) mp i t := by
  have hp := load_u64 M 32 c.pc w.drew ((hm.cell 32).trans rfl)
  have hi := load_int M 43 i.im w.drew ((hm.cell 43).trans rfl)
  have HF := aq hF
  clear hF
  have cp : w.cell? ⟨M, 32, none⟩ = some (.int .u64 c.pc) := (hm.cell 32).trans rfl
  have ci : w.cell? ⟨M, 43, none⟩ = some (.int .i64 i.im) := (hm.cell 43).trans rfl
  have HM1 := aq (show Mac w.drew M c mp i t from hm)
  have HO1 := aq (Only.of_below M (below_drew1 (Below.refl w.heap.size w)))
  clear hm
  have HN := aq (show CPU.near c i = IntKind.u64.wrap (c.pc + IntKind.u64.wrap i.im) from rfl)
  go_enter Tryz.func84, Tryz.ntmps84
  go_upto_region 1 with fail
  go_region
  rw [← HN.out]
  generalize w.drew = w1 at *
  clear cp ci HN hp hi
  have co : w1.cell? ⟨M, 38, none⟩ = some (.int .i64 i.o) := (HM1.out.cell 38).trans rfl
  rw [ho] at co
  have hc := load_int M 38 31 w1 co
  go_upto_region 8 with fail
  clear hc co
  have HM2 := aq (show Mac w1.drew M c mp i t from HM1.out)
  have HO2 := aq (HO1.out.trans (Only.of_below M (below_drew1 (Below.refl _ w1))))
  have hl1 := fun (w' : World) (h : Mac w' M c mp i t) => load_int M 47 i.cd w' ((h.cell 47).trans rfl)
  have hl2 := fun (w' : World) (h : Mac w' M c mp i t) => MacE.ld_f h
  clear ho HM1 HO1
  go_region_held3 (fun w' => Mac w' M c mp i t) (with_reducible first | exact HM2.out | exact HM3.out) (first | (go_at_call 159; refine (HF.out _).mono ?_; rintro e w3 ⟨rfl, hb⟩; have HM3 := aq (HM2.out.below hb); have HO3 := aq (HO2.out.trans (Only.of_below M hb)); clear hb))
  all_goals
    go_wp2_with (go_at_call 158; refine (jump_at c mp i t M _ _ _ _ HM3.out).mono ?_; rintro e w4 ⟨rfl, ho, hm⟩; have HM4 := aq hm; have HO4 := aq (HO3.out.trans ho); clear ho hm)
    go_ret
    exact ⟨rfl, HO4.out, HM4.out⟩
set_option maxHeartbeats 2000000 in
set_option maxRecDepth 100000 in
theorem branch_no (c : CPU) (mp : Value) (i : INS) (t : Value) (M : Nat) (w : World) (hm : Mac w M c mp i t) (ho : ∀ n : Int, 29 ≤ n → n ≤ 36 → i.o ≠ n) :
    Calls Tryz.prog 84 #[.pointer (some ⟨M, 0, none⟩)] w fun e w' => e = .returned (.bool false) ∧ Only w w' M ∧ Mac w' M c mp i t := by
  have cp : w.cell? ⟨M, 32, none⟩ = some (.int .u64 c.pc) := (hm.cell 32).trans rfl
  have ci : w.cell? ⟨M, 43, none⟩ = some (.int .i64 i.im) := (hm.cell 43).trans rfl
  have HM1 := aq (show Mac w.drew M c mp i t from hm)
  have HO1 := aq (Only.of_below M (below_drew1 (Below.refl w.heap.size w)))
  clear hm
  have HN := aq (show CPU.near c i = IntKind.u64.wrap (c.pc + IntKind.u64.wrap i.im) from rfl)
  go_enter Tryz.func84, Tryz.ntmps84
  go_upto_region 1 with fail
  go_region
  rw [← HN.out]
  generalize w.drew = w1 at *
  clear cp ci HN
  have co : w1.cell? ⟨M, 38, none⟩ = some (.int .i64 i.o) := (HM1.out.cell 38).trans rfl
  have d29 : (i.o == 29) = false := by simpa using ho 29 (by decide) (by decide)
  have d30 : (i.o == 30) = false := by simpa using ho 30 (by decide) (by decide)
  have d31 : (i.o == 31) = false := by simpa using ho 31 (by decide) (by decide)
  have d32 : (i.o == 32) = false := by simpa using ho 32 (by decide) (by decide)
  have d33 : (i.o == 33) = false := by simpa using ho 33 (by decide) (by decide)
  have d34 : (i.o == 34) = false := by simpa using ho 34 (by decide) (by decide)
  have d35 : (i.o == 35) = false := by simpa using ho 35 (by decide) (by decide)
  have d36 : (i.o == 36) = false := by simpa using ho 36 (by decide) (by decide)
  go_wp2
  go_ret
  exact ⟨rfl, HO1.out, HM1.out⟩
set_option maxHeartbeats 2000000 in
set_option maxRecDepth 100000 in
theorem call_0 (c : CPU) (mp : Value) (i : INS) (t : Value) (M : Nat) (w : World) (hm : Mac w M c mp i t) (ho : i.im = 0) :
    Calls Tryz.prog 166 #[.pointer (some ⟨M, 0, none⟩)] w fun e w' => e = .returned (.int .i64 0) ∧ Only w w' M ∧ Mac w' M c mp i (.iface 225 (.int .u64 (c.x 0))) := by
  have ci : w.cell? ⟨M, 43, none⟩ = some (.int .i64 i.im) := (hm.cell 43).trans rfl
  have cx : w.cell? ⟨M, 0, none⟩ = some (.int .u64 (c.x 0)) := (hm.cell 0).trans rfl
  have ct : w.cell? ⟨M, 48, none⟩ = some t := (hm.cell 48).trans rfl
  have ft := hm.free 48
  have H := aq hm
  clear hm
  rw [ho] at ci
  go_enter Tryz.func166, Tryz.ntmps166
  go_wp2
  go_ret
  exact ⟨rfl, Only.set _ _ _ _, H.out.setT _⟩
set_option maxHeartbeats 2000000 in
set_option maxRecDepth 100000 in
theorem call_1 (c : CPU) (mp : Value) (i : INS) (t : Value) (M : Nat) (w : World) (hm : Mac w M c mp i t) (ho : i.im = 1) :
    Calls Tryz.prog 166 #[.pointer (some ⟨M, 0, none⟩)] w fun e w' => e = .returned (.int .i64 0) ∧ Only w w' M ∧ Mac w' M c mp i (.iface 223 (.int .u64 (c.x 0))) := by
  have ci : w.cell? ⟨M, 43, none⟩ = some (.int .i64 i.im) := (hm.cell 43).trans rfl
  have cx : w.cell? ⟨M, 0, none⟩ = some (.int .u64 (c.x 0)) := (hm.cell 0).trans rfl
  have ct : w.cell? ⟨M, 48, none⟩ = some t := (hm.cell 48).trans rfl
  have ft := hm.free 48
  have H := aq hm
  clear hm
  rw [ho] at ci
  go_enter Tryz.func166, Tryz.ntmps166
  go_wp2
  go_ret
  exact ⟨rfl, Only.set _ _ _ _, H.out.setT _⟩
set_option maxHeartbeats 2000000 in
set_option maxRecDepth 100000 in
theorem call_no (c : CPU) (mp : Value) (i : INS) (t : Value) (M : Nat) (w : World) (hm : Mac w M c mp i t) (h0 : i.im ≠ 0) (h1 : i.im ≠ 1) :
    Calls Tryz.prog 166 #[.pointer (some ⟨M, 0, none⟩)] w fun e w' => e = .returned (.int .i64 10) ∧ Below w.heap.size w w' := by
  have ci : w.cell? ⟨M, 43, none⟩ = some (.int .i64 i.im) := (hm.cell 43).trans rfl
  clear hm
  have d0 : (i.im == 0) = false := by simpa using h0
  have d1 : (i.im == 1) = false := by simpa using h1
  clear h0 h1
  go_enter Tryz.func166, Tryz.ntmps166
  go_wp2
  go_ret
  exact ⟨rfl, Below.refl _ _⟩
end Go.Proofs.YtblnfngigdipcaaGreatDoor.ST
