/- Written for this claim by a program of this session: what the claim uses of lemmas and proved contracts of Go functions. -/
import Derived.Test.YtflojfcioojgbaaGreatDoorYAl6
import Derived.Laws.IdiomStrings
import Derived.WalkSpells
namespace Go.Proofs.YtflojfcioojgbaaGreatDoor.MW
open Go.RowKit Go.Proofs.YtflojfcioojgbaaGreatDoor.P Go.Proofs.YtflojfcioojgbaaGreatDoorW.PrintWords Go.Proofs.YtflojfcioojgbaaGreatDoorW.PrintLast Go.Proofs.YtflojfcioojgbaaGreatDoorW.PrintMore
set_option linter.unusedVariables false
set_option linter.unusedSimpArgs false
structure MP where
  a : Int
  k : Int
  d : List Int
def encM (q : MP × Nat) : List Value := [.int .u64 q.1.a, .int .i64 q.1.k, .slice (some ⟨q.2, 0, none⟩) q.1.d.length q.1.d.length]
structure MemIs (w : World) (M : Nat) (A : Option Addr) (P c : Nat) (Q : List (MP × Nat)) : Prop where
  head : w.heap[M]? = some (.cells #[.slice A Q.length c] 122 (0, 0))
  addr : Q ≠ [] → A = some ⟨P, 0, none⟩
  row : Q ≠ [] → ∃ cur, w.heap[P]? = some (.cells cur 126 (0, 0))
  cells : ∀ (i : Nat) q, Q[i]? = some q → ∀ (j : Nat) v, (encM q)[j]? = some v → w.cell? ⟨P, i * 3 + j, none⟩ = some v
  data : ∀ q, q ∈ Q → w.heap[q.2]? = some (.cells (q.1.d.map (Value.int .u8)).toArray 5 (0, 0))
  apart : (Q.map (·.2)).Nodup
def MP.good (p : MP) : Prop := 0 ≤ p.a ∧ p.a ≤ 4611686018427387904 ∧ 1 ≤ p.k ∧ p.k ≤ 3 ∧ 1 ≤ p.d.length ∧ p.d.length ≤ 65536 ∧ ∀ x, x ∈ p.d → 0 ≤ x ∧ x < 256
def MP.has (p : MP) (at_ n : Int) : Prop := p.a ≤ at_ ∧ at_ - p.a < p.d.length ∧ n ≤ p.d.length - (at_ - p.a)
instance (p : MP) (at_ n : Int) : Decidable (p.has at_ n) := by unfold MP.has; infer_instance
def mfind (at_ n : Int) : List MP → Option Nat
  | [] => none
  | p :: ps => if p.has at_ n then some 0 else (mfind at_ n ps).map (· + 1)
theorem mfind_none (at_ n : Int) : ∀ (L : List MP), mfind at_ n L = none → ∀ p, p ∈ L → ¬ p.has at_ n
  | [], _, p, hp => by cases hp
  | q :: ps, h, p, hp => by
    unfold mfind at h
    split at h
    · cases h
    · rename_i hq
      rcases List.mem_cons.1 hp with rfl | hp
      · exact hq
      · exact mfind_none at_ n ps (by simpa using h) p hp
theorem mfind_some (at_ n : Int) : ∀ (L : List MP) (i : Nat), mfind at_ n L = some i → (∃ p, L[i]? = some p ∧ p.has at_ n) ∧ ∀ (j : Nat) p, j < i → L[j]? = some p → ¬ p.has at_ n
  | [], i, h => by cases h
  | q :: ps, i, h => by
    unfold mfind at h
    split at h
    · rename_i hq
      obtain rfl := Option.some.inj h
      exact ⟨⟨q, rfl, hq⟩, fun j p hj => by omega⟩
    · rename_i hq
      obtain ⟨i', hi', rfl⟩ := Option.map_eq_some_iff.1 h
      obtain ⟨⟨p, h1, h2⟩, h3⟩ := mfind_some at_ n ps i' hi'
      refine ⟨⟨p, by simpa using h1, h2⟩, fun j p hj hp => ?_⟩
      cases j with
      | zero => simp at hp; subst hp; exact hq
      | succ j => exact h3 j p (by omega) (by simpa using hp)
theorem MemIs.move {w w' : World} {M : Nat} {A : Option Addr} {P c : Nat} {Q : List (MP × Nat)} (h : MemIs w M A P c Q) (hm : ∀ k, k < w.heap.size → w'.heap[k]? = w.heap[k]?) : MemIs w' M A P c Q where
  head := (hm M (Array.getElem?_eq_some_iff.1 h.head).1).trans h.head
  addr := h.addr
  row := fun hq => by obtain ⟨cur, hc⟩ := h.row hq; exact ⟨cur, (hm P (Array.getElem?_eq_some_iff.1 hc).1).trans hc⟩
  cells := fun i q hq j v hv => by
    have hc := h.cells i q hq j v hv
    exact (World.cell?_of_block (w := w) (hm P (World.block_lt_of_cell? w ⟨P, i * 3 + j, none⟩ hc))).trans hc
  data := fun q hq => (hm q.2 (Array.getElem?_eq_some_iff.1 (h.data q hq)).1).trans (h.data q hq)
  apart := h.apart
theorem MemIs.below {w w' : World} {M : Nat} {A : Option Addr} {P c : Nat} {Q : List (MP × Nat)} (h : MemIs w M A P c Q) (hb : Below w.heap.size w w') : MemIs w' M A P c Q := h.move hb.block
theorem MemIs.part {w : World} {M : Nat} {A : Option Addr} {P c : Nat} {Q : List (MP × Nat)} (h : MemIs w M A P c Q) {i : Nat} {p : MP} {b : Nat} (hq : Q[i]? = some (p, b)) :
    A = some ⟨P, 0, none⟩ ∧ w.cell? ⟨P, i * 3, none⟩ = some (.int .u64 p.a) ∧ w.cell? ⟨P, i * 3 + 1, none⟩ = some (.int .i64 p.k) ∧ w.cell? ⟨P, i * 3 + 2, none⟩ = some (.slice (some ⟨b, 0, none⟩) p.d.length p.d.length) :=
  ⟨h.addr (by intro e; rw [e] at hq; cases hq), h.cells i _ hq 0 _ rfl, h.cells i _ hq 1 _ rfl, h.cells i _ hq 2 _ rfl⟩
set_option maxHeartbeats 4000000 in
set_option maxRecDepth 100000 in
theorem find_none (w : World) (M : Nat) (A : Option Addr) (P c : Nat) (Q : List (MP × Nat)) (at_ n : Int) (hM : MemIs w M A P c Q) (hg : ∀ q, q ∈ Q → q.1.good) (hl : Q.length ≤ 1000000) (h0 : 0 ≤ at_) (h1 : at_ < 18446744073709551616) (hn0 : 0 ≤ n) (hn1 : n ≤ 65536)
    (hf : ∀ q, q ∈ Q → ¬ q.1.has at_ n) :
    Calls Tryz.prog 45 #[.pointer (some ⟨M, 0, none⟩), .int .u64 at_, .int .i64 n] w fun e w' => e = .returned (.tuple #[.slice none 0 0, .int .i64 0]) ∧ Below w.heap.size w w' := by
  have hc0 : w.cell? ⟨M, 0, none⟩ = some (.slice A Q.length c) := (blk_cell hM.head 0).trans rfl
  have HM := aq hM
  have HG := aq hg
  have HF := aq hf
  have HL := aq hl
  have H1 := aq h1
  clear hM hg hf h1
  go_enter Tryz.func45, Tryz.ntmps45
  go_wp2
  clear hl
  go_loopg [16] Q.length (fun kq v16 wr => ∃ i : Nat, v16 = .int .i64 (i : Int) ∧ i + kq = Q.length ∧ Aside0 (Below w.heap.size w wr))
  case atStart => exact ⟨0, rfl, by omega, ⟨Below.refl _ _⟩⟩
  case round =>
    obtain ⟨i, rfl, hik, HB⟩ := hrel
    cases gk with
    | zero =>
      have hi : ¬ (i < Q.length) := by omega
      go_wp2
      go_ret2
      exact ⟨rfl, HB.out⟩
    | succ kq =>
      have hi : i < Q.length := by omega
      have HIK := aq hik
      clear hik
      obtain ⟨p, b, hq⟩ : ∃ p b, Q[i]? = some (p, b) := ⟨Q[i].1, Q[i].2, by rw [List.getElem?_eq_getElem hi]⟩
      have hmem : (p, b) ∈ Q := List.mem_of_getElem? hq
      obtain ⟨hA, c1, c2, c3⟩ := (HM.out.below HB.out).part hq
      subst hA
      obtain ⟨g1, g2, g3, g4, g5, g6, g7⟩ := HG.out _ hmem
      have hnot := HF.out _ hmem
      simp only at g1 g2 g3 g4 g5 g6 hnot
      unfold MP.has at hnot
      have HX := aq (And.intro hq hmem)
      clear g7 hq hmem
      have hz : i < 1000000 := by have := HL.out; omega
      by_cases x1 : p.a ≤ at_
      · have b1 : decide (at_ ≥ p.a) = true := by simp; omega
        have e1 : IntKind.u64.wrap (at_ - p.a) = at_ - p.a := by have := H1.out; rw [IntKind.wrap_u64]; omega
        by_cases x2 : at_ - p.a < p.d.length
        · have e2 : wrap64 (at_ - p.a) = at_ - p.a := by unfold wrap64; omega
          have e3 : wrap64 ((p.d.length : Int) - (at_ - p.a)) = (p.d.length : Int) - (at_ - p.a) := by unfold wrap64; omega
          have b2 : decide (at_ - p.a < (p.d.length : Int)) = true := by simp; omega
          have b3 : decide (n ≤ (p.d.length : Int) - (at_ - p.a)) = false := by simp; omega
          clear x1 x2 hnot
          go_wp2
          go_roundg kq
          case measure => omega
          case rel => exact ⟨i + 1, rfl, by have := HIK.out; omega, ⟨below_alloc HB.out _⟩⟩
        · have b2 : decide (at_ - p.a < (p.d.length : Int)) = false := by simp; omega
          clear x1 x2 hnot
          go_wp2
          go_roundg kq
          case measure => omega
          case rel => exact ⟨i + 1, rfl, by have := HIK.out; omega, ⟨below_alloc HB.out _⟩⟩
      · have b1 : decide (at_ ≥ p.a) = false := by simp; omega
        clear x1 hnot
        go_wp2
        go_roundg kq
        case measure => omega
        case rel => exact ⟨i + 1, rfl, by have := HIK.out; omega, ⟨below_alloc HB.out _⟩⟩
set_option maxHeartbeats 4000000 in
set_option maxRecDepth 100000 in
theorem find_some (w : World) (M : Nat) (A : Option Addr) (P c : Nat) (Q : List (MP × Nat)) (at_ n : Int) (hM : MemIs w M A P c Q) (hg : ∀ q, q ∈ Q → q.1.good) (hl : Q.length ≤ 1000000) (h0 : 0 ≤ at_) (h1 : at_ < 18446744073709551616) (hn0 : 0 ≤ n) (hn1 : n ≤ 65536)
    (i0 : Nat) (p0 : MP) (b0 : Nat) (hq0 : Q[i0]? = some (p0, b0)) (hh0 : p0.has at_ n) (hf : ∀ (j : Nat) q, j < i0 → Q[j]? = some q → ¬ q.1.has at_ n) :
    Calls Tryz.prog 45 #[.pointer (some ⟨M, 0, none⟩), .int .u64 at_, .int .i64 n] w fun e w' => e = .returned (.tuple #[.slice (some ⟨b0, (at_ - p0.a).toNat, none⟩) n.toNat (p0.d.length - (at_ - p0.a).toNat), .int .i64 p0.k]) ∧ Below w.heap.size w w' := by
  have hc0 : w.cell? ⟨M, 0, none⟩ = some (.slice A Q.length c) := (blk_cell hM.head 0).trans rfl
  have HM := aq hM
  have HG := aq hg
  have HF := aq hf
  have HL := aq hl
  have H1 := aq h1
  have HQ := aq hq0
  have HH := aq hh0
  have hi0 : i0 < Q.length := (List.getElem?_eq_some_iff.1 hq0).1
  have HI0 := aq hi0
  clear hM hg hf h1 hq0 hh0 hi0
  go_enter Tryz.func45, Tryz.ntmps45
  go_wp2
  clear hl
  go_loopg [16] i0 (fun kq v16 wr => ∃ i : Nat, v16 = .int .i64 (i : Int) ∧ i + kq = i0 ∧ Aside0 (Below w.heap.size w wr))
  case atStart => exact ⟨0, rfl, by omega, ⟨Below.refl _ _⟩⟩
  case round =>
    obtain ⟨i, rfl, hik, HB⟩ := hrel
    cases gk with
    | zero =>
      obtain rfl : i = i0 := by omega
      clear hik
      have hi := HI0.out
      have hz : i < 1000000 := by have := HL.out; omega
      have hmem : (p0, b0) ∈ Q := List.mem_of_getElem? HQ.out
      obtain ⟨hA, c1, c2, c3⟩ := (HM.out.below HB.out).part HQ.out
      subst hA
      obtain ⟨g1, g2, g3, g4, g5, g6, g7⟩ := HG.out _ hmem
      obtain ⟨x1, x2, x3⟩ := HH.out
      simp only at g1 g2 g3 g4 g5 g6
      clear g7 hmem
      have b1 : decide (at_ ≥ p0.a) = true := by simp; omega
      have e1 : IntKind.u64.wrap (at_ - p0.a) = at_ - p0.a := by have := H1.out; rw [IntKind.wrap_u64]; omega
      have e2 : wrap64 (at_ - p0.a) = at_ - p0.a := by unfold wrap64; omega
      have e3 : wrap64 ((p0.d.length : Int) - (at_ - p0.a)) = (p0.d.length : Int) - (at_ - p0.a) := by unfold wrap64; omega
      have b2 : decide (at_ - p0.a < (p0.d.length : Int)) = true := by simp; omega
      have b3 : decide (n ≤ (p0.d.length : Int) - (at_ - p0.a)) = true := by simp; omega
      have y0 : 0 ≤ at_ - p0.a := by omega
      go_wp2
      go_quiet (fail)
      go_wp2
      go_ret2
      exact ⟨rfl, pw_below_drewN (below_alloc HB.out _) _⟩
    | succ kq =>
      have hi : i < Q.length := by have := HI0.out; omega
      have hlt : i < i0 := by omega
      have HIK := aq hik
      clear hik
      obtain ⟨p, b, hq⟩ : ∃ p b, Q[i]? = some (p, b) := ⟨Q[i].1, Q[i].2, by rw [List.getElem?_eq_getElem hi]⟩
      have hmem : (p, b) ∈ Q := List.mem_of_getElem? hq
      obtain ⟨hA, c1, c2, c3⟩ := (HM.out.below HB.out).part hq
      subst hA
      obtain ⟨g1, g2, g3, g4, g5, g6, g7⟩ := HG.out _ hmem
      have hnot := HF.out _ _ hlt hq
      clear hlt
      simp only at g1 g2 g3 g4 g5 g6 hnot
      unfold MP.has at hnot
      have HX := aq (And.intro hq hmem)
      clear g7 hq hmem
      have hz : i < 1000000 := by have := HL.out; omega
      by_cases x1 : p.a ≤ at_
      · have b1 : decide (at_ ≥ p.a) = true := by simp; omega
        have e1 : IntKind.u64.wrap (at_ - p.a) = at_ - p.a := by have := H1.out; rw [IntKind.wrap_u64]; omega
        by_cases x2 : at_ - p.a < p.d.length
        · have e2 : wrap64 (at_ - p.a) = at_ - p.a := by unfold wrap64; omega
          have e3 : wrap64 ((p.d.length : Int) - (at_ - p.a)) = (p.d.length : Int) - (at_ - p.a) := by unfold wrap64; omega
          have b2 : decide (at_ - p.a < (p.d.length : Int)) = true := by simp; omega
          have b3 : decide (n ≤ (p.d.length : Int) - (at_ - p.a)) = false := by simp; omega
          clear x1 x2 hnot
          go_wp2
          go_roundg kq
          case measure => omega
          case rel => exact ⟨i + 1, rfl, by have := HIK.out; omega, ⟨below_alloc HB.out _⟩⟩
        · have b2 : decide (at_ - p.a < (p.d.length : Int)) = false := by simp; omega
          clear x1 x2 hnot
          go_wp2
          go_roundg kq
          case measure => omega
          case rel => exact ⟨i + 1, rfl, by have := HIK.out; omega, ⟨below_alloc HB.out _⟩⟩
      · have b1 : decide (at_ ≥ p.a) = false := by simp; omega
        clear x1 hnot
        go_wp2
        go_roundg kq
        case measure => omega
        case rel => exact ⟨i + 1, rfl, by have := HIK.out; omega, ⟨below_alloc HB.out _⟩⟩
def leV : List Int → Int
  | [] => 0
  | x :: xs => x + 256 * leV xs
def isB (l : List Int) : Prop := ∀ x, x ∈ l → 0 ≤ x ∧ x < 256
theorem leV_lt : ∀ (l : List Int), isB l → 0 ≤ leV l ∧ leV l < 256 ^ l.length
  | [], _ => by simp [leV]
  | x :: xs, h => by
    have h1 := leV_lt xs (fun y hy => h y (List.mem_cons_of_mem _ hy))
    have h2 := h x (List.mem_cons_self ..)
    rw [leV, List.length_cons, Int.pow_succ]
    omega
theorem leV_snoc : ∀ (l : List Int) (y : Int), leV (l ++ [y]) = leV l + y * 256 ^ l.length
  | [], y => by simp [leV]
  | x :: xs, y => by
    rw [List.cons_append, leV, leV_snoc xs y, leV, List.length_cons, Int.pow_succ, Int.mul_add]
    have : 256 * (y * 256 ^ xs.length) = y * (256 ^ xs.length * 256) := by rw [Int.mul_comm, Int.mul_assoc]
    omega
theorem or_shl (v x : Int) (i : Nat) (hi : i < 8) (h0 : 0 ≤ v) (h1 : v < 256 ^ i) (x0 : 0 ≤ x) (x1 : x < 256) : Go.bits .or .u64 v (shl .u64 (IntKind.u64.wrap x) (wrap64 (8 * (i : Int)))) = v + x * 256 ^ i := by
  obtain ⟨V, rfl⟩ := Int.eq_ofNat_of_zero_le h0
  obtain ⟨X, rfl⟩ := Int.eq_ofNat_of_zero_le x0
  have e : (2 : Nat) ^ (8 * i) = 256 ^ i := by rw [Nat.pow_mul]
  have e2 : ((256 ^ i : Nat) : Int) = (256 : Int) ^ i := by simp
  have hV : V < 2 ^ (8 * i) := by rw [e]; omega
  have hX : X * 2 ^ (8 * i) < 2 ^ 64 := by
    have h8 : 2 ^ (8 * i) * 256 ≤ 2 ^ 64 := by
      rw [show (256 : Nat) = 2 ^ 8 by decide, ← Nat.pow_add]
      exact Nat.pow_le_pow_right (by decide) (by omega)
    have h9 := Nat.mul_le_mul_right (2 ^ (8 * i)) (show X ≤ 255 by omega)
    have h10 := Nat.two_pow_pos (8 * i)
    omega
  have hs : shl .u64 (IntKind.u64.wrap (X : Int)) (wrap64 (8 * (i : Int))) = ((X * 2 ^ (8 * i) : Nat) : Int) := by
    unfold shl
    rw [show wrap64 (8 * (i : Int)) = ((8 * i : Nat) : Int) by unfold wrap64; omega, Int.toNat_natCast, show IntKind.u64.wrap (X : Int) = X by rw [IntKind.wrap_u64]; omega]
    rw [show min (8 * i) IntKind.u64.bits = 8 * i by show min (8 * i) 64 = _; omega, IntKind.wrap_u64]
    have : ((X * 2 ^ (8 * i) : Nat) : Int) = (X : Int) * 2 ^ (8 * i) := by simp
    rw [← this]
    have e64 : (2 : Nat) ^ 64 = 18446744073709551616 := by decide
    omega
  rw [hs]
  have hlt : 2 ^ (8 * i) * X + V < 2 ^ 64 := by
    have h8 : 2 ^ (8 * i) * 256 ≤ 2 ^ 64 := by
      rw [show (256 : Nat) = 2 ^ 8 by decide, ← Nat.pow_add]
      exact Nat.pow_le_pow_right (by decide) (by omega)
    have h9 := Nat.mul_le_mul_left (2 ^ (8 * i)) (show X + 1 ≤ 256 by omega)
    rw [Nat.mul_add, Nat.mul_one] at h9
    omega
  have e64 : (2 : Nat) ^ 64 = 18446744073709551616 := by decide
  have key : (BitVec.ofInt 64 (V : Int) ||| BitVec.ofInt 64 ((X * 2 ^ (8 * i) : Nat) : Int)).toNat = 2 ^ (8 * i) * X + V := by
    rw [BitVec.toNat_or, BitVec.toNat_ofInt, BitVec.toNat_ofInt, show (((V : Nat) : Int) % ((2 ^ 64 : Nat) : Int)).toNat = V by omega,
      show (((X * 2 ^ (8 * i) : Nat) : Int) % ((2 ^ 64 : Nat) : Int)).toNat = X * 2 ^ (8 * i) by omega, Nat.mul_comm X, Nat.or_comm, Nat.two_pow_add_eq_or_of_lt hV]
  show IntKind.u64.wrap ((BitVec.ofInt 64 (V : Int) ||| BitVec.ofInt 64 ((X * 2 ^ (8 * i) : Nat) : Int)).toNat : Nat) = _
  rw [key, IntKind.wrap_u64, ← e2, ← e]
  have : ((2 ^ (8 * i) * X + V : Nat) : Int) = (V : Int) + (X : Int) * ((2 ^ (8 * i) : Nat) : Int) := by
    rw [Nat.mul_comm]; simp; omega
  rw [this]
  omega
theorem number_loop (l : List Int) (hB : isB l) (h8 : l.length ≤ 8) : ∀ (d i k : Nat), i + d = l.length → d < k → mem_number.l0 k (leV (l.take i)) l (l.length : Int) (i : Int) = some (leV l)
  | 0, i, k + 1, hi, hk => by
    unfold mem_number.l0
    rw [if_neg (by omega), List.take_of_length_le (by omega)]
  | d + 1, i, k + 1, hi, hk => by
    have hlt : i < l.length := by omega
    unfold mem_number.l0
    rw [if_pos (by omega), if_pos (by omega), if_pos (by omega), if_pos (by unfold wrap64; omega)]
    have hx := hB _ (List.getElem_mem hlt)
    have hr : rd l (i : Int) = l[i] := by unfold rd; simp [List.getD, List.getElem?_eq_getElem hlt]
    have ht := leV_lt (l.take i) (fun y hy => hB y (List.mem_of_mem_take hy))
    rw [List.length_take, Nat.min_eq_left (by omega)] at ht
    rw [hr, or_shl _ _ i (by omega) ht.1 ht.2 hx.1 hx.2, show wrap64 ((i : Int) + 1) = ((i + 1 : Nat) : Int) by unfold wrap64; omega]
    have hs : leV (l.take i) + l[i] * 256 ^ i = leV (l.take (i + 1)) := by
      rw [List.take_succ_eq_append_getElem hlt, leV_snoc, List.length_take, Nat.min_eq_left (by omega)]
    rw [hs]
    exact number_loop l hB h8 d (i + 1) k (by omega) (by omega)
  | d, i, 0, hi, hk => by omega
theorem number_at (l : List Int) (hB : isB l) (h8 : l.length ≤ 8) : mem_number.f 20 l = some (leV l) := number_loop l hB h8 l.length 0 20 (by omega) (by omega)
theorem bytes_C {w : World} {b : Nat} {d : List Int} {t : TypeId} (h : w.heap[b]? = some (.cells (d.map (Value.int .u8)).toArray t (0, 0))) (o n : Nat) (hn : o + n ≤ d.length) (hm : n ≤ 9223372036854775807) : Kd.C (Kd.int .u8) w (some ⟨b, o, none⟩) n ((d.drop o).take n) := by
  refine ⟨by simp; omega, hm, fun h0 => ⟨_, rfl, fun j p hj => ⟨[.int .u8 p], rfl, rfl, fun i u hu => ?_⟩⟩⟩
  obtain ⟨rfl, rfl⟩ : i = 0 ∧ u = .int .u8 p := by
    cases i with
    | zero => simp at hu; exact ⟨rfl, hu.symm⟩
    | succ i => simp at hu
  have hjn : j < n := by
    have := (List.getElem?_eq_some_iff.1 hj).1
    simp at this; omega
  rw [List.getElem?_take, if_pos hjn, List.getElem?_drop] at hj
  show w.cell? ((⟨b, o, none⟩ : Addr).add (j * 1 + 0)) = _
  rw [show (⟨b, o, none⟩ : Addr).add (j * 1 + 0) = ⟨b, o + j, none⟩ by simp [Addr.add]]
  rw [blk_cell h]
  simp [hj]
theorem eq_nil0 (w : World) : (binOp .eql 63 (.slice none 0 0) (.slice none 0 0)).run Tryz.prog w = .ok (.bool true) w := Lib.run_eql_slice_nil w _ _ none 0 0 0 0 Tryz.underlying63
theorem eq_nil1 (w : World) (a : Addr) (n c : Nat) : (binOp .eql 63 (.slice (some a) n c) (.slice none 0 0)).run Tryz.prog w = .ok (.bool false) w := Lib.run_eql_slice_nil w _ _ (some a) n c 0 0 Tryz.underlying63
set_option maxRecDepth 100000 in
theorem word_align (w : World) (M : Nat) (at_ : Int) (h0 : 0 ≤ at_) (h4 : ¬ at_ % 4 = 0) :
    Calls Tryz.prog 76 #[.pointer (some ⟨M, 0, none⟩), .int .u64 at_] w fun e w' => e = .returned (.tuple #[.int .u32 0, .int .i64 5]) ∧ Below w.heap.size w w' := by
  have b1 : (at_ % 4 != 0) = true := by simpa using h4
  clear h4
  go_enter Tryz.func76, Tryz.ntmps76
  go_wp2
  go_ret2
  exact ⟨rfl, Below.refl _ _⟩
set_option maxRecDepth 100000 in
theorem word_none (w : World) (M : Nat) (A : Option Addr) (P c : Nat) (Q : List (MP × Nat)) (at_ : Int) (hM : MemIs w M A P c Q) (hg : ∀ q, q ∈ Q → q.1.good) (hl : Q.length ≤ 1000000) (h0 : 0 ≤ at_) (h1 : at_ < 18446744073709551616) (h4 : at_ % 4 = 0)
    (hf : ∀ q, q ∈ Q → ¬ q.1.has at_ 4) :
    Calls Tryz.prog 76 #[.pointer (some ⟨M, 0, none⟩), .int .u64 at_] w fun e w' => e = .returned (.tuple #[.int .u32 0, .int .i64 4]) ∧ Below w.heap.size w w' := by
  have HH := aq (find_none w M A P c Q at_ 4 hM hg hl h0 h1 (by omega) (by omega) hf)
  have b1 : (at_ % 4 != 0) = false := by simpa using h4
  have q0 := eq_nil0
  clear h4 hM hg hl h1 hf
  go_enter Tryz.func76, Tryz.ntmps76
  go_wp2_with (go_at_call 45; refine HH.out.mono ?_; rintro e w1 ⟨rfl, hb⟩; have HB := aq hb; clear hb)
  go_ret2
  exact ⟨rfl, HB.out⟩
set_option maxRecDepth 100000 in
theorem word_some (w : World) (M : Nat) (A : Option Addr) (P c : Nat) (Q : List (MP × Nat)) (at_ : Int) (hM : MemIs w M A P c Q) (hg : ∀ q, q ∈ Q → q.1.good) (hl : Q.length ≤ 1000000) (h0 : 0 ≤ at_) (h1 : at_ < 18446744073709551616) (h4 : at_ % 4 = 0)
    (i0 : Nat) (p0 : MP) (b0 : Nat) (hq0 : Q[i0]? = some (p0, b0)) (hh0 : p0.has at_ 4) (hf : ∀ (j : Nat) q, j < i0 → Q[j]? = some q → ¬ q.1.has at_ 4) :
    Calls Tryz.prog 76 #[.pointer (some ⟨M, 0, none⟩), .int .u64 at_] w fun e w' => e = .returned (.tuple (if p0.k = 1 then #[.int .u32 (leV ((p0.d.drop (at_ - p0.a).toNat).take 4)), .int .i64 0] else #[.int .u32 0, .int .i64 10])) ∧ Below w.heap.size w w' := by
  have HH := aq (find_some w M A P c Q at_ 4 hM hg hl h0 h1 (by omega) (by omega) i0 p0 b0 hq0 hh0 hf)
  have hmem : (p0, b0) ∈ Q := List.mem_of_getElem? hq0
  obtain ⟨g1, g2, g3, g4, g5, g6, g7⟩ := hg _ hmem
  obtain ⟨x1, x2, x3⟩ := hh0
  simp only at g5 g6 g7
  have hD := hM.data _ hmem
  simp only at hD
  obtain ⟨o, ho⟩ : ∃ o : Nat, o = (at_ - p0.a).toNat := ⟨_, rfl⟩
  have hon : o + 4 ≤ p0.d.length := by omega
  rw [← ho] at HH ⊢
  have hbs : isB ((p0.d.drop o).take 4) := fun x hx => g7 x (List.mem_of_mem_drop (List.mem_of_mem_take hx))
  have hlen : ((p0.d.drop o).take 4).length = 4 := by rw [List.length_take, List.length_drop]; omega
  have HC := aq (fun (w1 : World) (hb : Below w.heap.size w w1) => bytes_C ((hb.block _ (Array.getElem?_eq_some_iff.1 hD).1).trans hD) o 4 hon (by omega))
  have HN := aq (number_at _ hbs (by rw [hlen]; omega))
  have hv := leV_lt _ hbs
  rw [hlen] at hv
  have HL4 := aq hlen
  have hcap : 4 ≤ p0.d.length - o := by omega
  have HCAP := aq hcap
  have b1 : (at_ % 4 != 0) = false := by simpa using h4
  have q1 := eq_nil1
  clear h4 hM hg hl h1 hf hq0 hD g7 hmem hbs hlen x1 x2 x3 hon ho hcap
  generalize (p0.d.drop o).take 4 = l at *
  generalize p0.d.length - o = cap at *
  generalize leV l = v at *
  obtain ⟨v0, v1⟩ := hv
  have v2 : v < 4294967296 := by omega
  clear v1
  by_cases hk : p0.k = 1
  · rw [if_pos hk]
    rw [hk] at HH
    clear hk
    go_enter Tryz.func76, Tryz.ntmps76
    go_wp2_with (first | (go_at_call 45; refine HH.out.mono ?_; rintro e w1 ⟨rfl, hb⟩; have HB := aq hb; clear hb) | (go_at_call 47; have hcall := mem_number.calls 20 (some ⟨b0, o, none⟩) cap l v _ (by rw [HL4.out]; exact HC.out _ HB.out) (by rw [HL4.out]; exact HCAP.out) HN.out; rw [HL4.out] at hcall; refine hcall.mono ?_; clear hcall; rintro e w2 ⟨rfl, ⟨nq, rfl⟩⟩))
    go_ret2
    exact ⟨rfl, pw_below_drewN HB.out _⟩
  · rw [if_neg hk]
    have b2 : (p0.k != 1) = true := by simpa using hk
    clear hk
    generalize p0.k = kk at *
    go_enter Tryz.func76, Tryz.ntmps76
    go_wp2_with (first | (go_at_call 45; refine HH.out.mono ?_; rintro e w1 ⟨rfl, hb⟩; have HB := aq hb; clear hb))
    go_ret2
    exact ⟨rfl, HB.out⟩
set_option maxRecDepth 100000 in
theorem text_bad (w : World) (M : Nat) (at_ n : Int) (h : n < 0 ∨ n > 65536) :
    Calls Tryz.prog 23 #[.pointer (some ⟨M, 0, none⟩), .int .u64 at_, .int .i64 n] w fun e w' => e = .returned (.tuple #[.string ⟨#[]⟩, .int .i64 1]) ∧ Below w.heap.size w w' := by
  by_cases hn : n < 0
  · have b1 : decide (n < 0) = true := decide_eq_true hn
    clear h hn
    go_enter Tryz.func23, Tryz.ntmps23
    go_wp2
    go_ret2
    exact ⟨rfl, Below.refl _ _⟩
  · have b1 : decide (n < 0) = false := decide_eq_false hn
    have b2 : decide (n > 65536) = true := decide_eq_true (by omega)
    clear h hn
    go_enter Tryz.func23, Tryz.ntmps23
    go_wp2
    go_ret2
    exact ⟨rfl, Below.refl _ _⟩
set_option maxRecDepth 100000 in
theorem text_zero (w : World) (M : Nat) (at_ : Int) :
    Calls Tryz.prog 23 #[.pointer (some ⟨M, 0, none⟩), .int .u64 at_, .int .i64 0] w fun e w' => e = .returned (.tuple #[.string ⟨#[]⟩, .int .i64 0]) ∧ Below w.heap.size w w' := by
  go_enter Tryz.func23, Tryz.ntmps23
  go_wp2
  go_ret2
  exact ⟨rfl, Below.refl _ _⟩
set_option maxRecDepth 100000 in
theorem text_none (w : World) (M : Nat) (A : Option Addr) (P c : Nat) (Q : List (MP × Nat)) (at_ n : Int) (hM : MemIs w M A P c Q) (hg : ∀ q, q ∈ Q → q.1.good) (hl : Q.length ≤ 1000000) (h0 : 0 ≤ at_) (h1 : at_ < 18446744073709551616) (hn0 : 0 < n) (hn1 : n ≤ 65536)
    (hf : ∀ q, q ∈ Q → ¬ q.1.has at_ n) :
    Calls Tryz.prog 23 #[.pointer (some ⟨M, 0, none⟩), .int .u64 at_, .int .i64 n] w fun e w' => e = .returned (.tuple #[.string ⟨#[]⟩, .int .i64 4]) ∧ Below w.heap.size w w' := by
  have HH := aq (find_none w M A P c Q at_ n hM hg hl h0 h1 (by omega) (by omega) hf)
  have q0 := eq_nil0
  have b0 : decide (n < 0) = false := by simp; omega
  have b1 : decide (n > 65536) = false := by simp; omega
  have b2 : (n == 0) = false := by simp; omega
  clear hM hg hl h1 hf
  go_enter Tryz.func23, Tryz.ntmps23
  go_wp2_with (go_at_call 45; refine HH.out.mono ?_; rintro e w1 ⟨rfl, hb⟩; have HB := aq hb; clear hb)
  go_ret2
  exact ⟨rfl, HB.out⟩
set_option maxRecDepth 100000 in
theorem text_some (w : World) (M : Nat) (A : Option Addr) (P c : Nat) (Q : List (MP × Nat)) (at_ n : Int) (hM : MemIs w M A P c Q) (hg : ∀ q, q ∈ Q → q.1.good) (hl : Q.length ≤ 1000000) (h0 : 0 ≤ at_) (h1 : at_ < 18446744073709551616) (hn0 : 0 < n) (hn1 : n ≤ 65536)
    (i0 : Nat) (p0 : MP) (b0 : Nat) (hq0 : Q[i0]? = some (p0, b0)) (hh0 : p0.has at_ n) (hf : ∀ (j : Nat) q, j < i0 → Q[j]? = some q → ¬ q.1.has at_ n) :
    Calls Tryz.prog 23 #[.pointer (some ⟨M, 0, none⟩), .int .u64 at_, .int .i64 n] w fun e w' => e = .returned (.tuple #[.string (strOfNums ((p0.d.drop (at_ - p0.a).toNat).take n.toNat)), .int .i64 0]) ∧ Below w.heap.size w w' := by
  have HH := aq (find_some w M A P c Q at_ n hM hg hl h0 h1 (by omega) (by omega) i0 p0 b0 hq0 hh0 hf)
  have hmem : (p0, b0) ∈ Q := List.mem_of_getElem? hq0
  obtain ⟨x1, x2, x3⟩ := hh0
  have hD := hM.data _ hmem
  simp only at hD
  obtain ⟨o, ho⟩ : ∃ o : Nat, o = (at_ - p0.a).toNat := ⟨_, rfl⟩
  obtain ⟨m, hm⟩ : ∃ m : Nat, n = (m : Int) := ⟨n.toNat, by omega⟩
  subst hm
  have hon : o + m ≤ p0.d.length := by omega
  rw [← ho] at HH ⊢
  rw [Int.toNat_natCast] at HH ⊢
  have hlen : ((p0.d.drop o).take m).length = m := by rw [List.length_take, List.length_drop]; omega
  have HCV := aq (fun (w1 : World) (hb : Below w.heap.size w w1) (cap : Nat) => run_convert_bytes_arg (P := Tryz.prog) w1 63 5 Tryz.underlying63 Tryz.underlying5 b0 o m cap ((p0.d.drop o).take m) hlen (fun i hi => by
    rw [blk_cell ((hb.block _ (Array.getElem?_eq_some_iff.1 hD).1).trans hD)]
    have h1 : o + i < p0.d.length := by omega
    have h2 : ((p0.d.drop o).take m)[i]? = some p0.d[o + i] := by rw [List.getElem?_take, if_pos hi, List.getElem?_drop, List.getElem?_eq_getElem h1]
    simp [List.getD, h2, List.getElem?_eq_getElem h1]) 9 Tryz.underlying9)
  have q1 := eq_nil1
  have c0 : decide ((m : Int) < 0) = false := decide_eq_false (by omega)
  have c1 : decide ((m : Int) > 65536) = false := by simp; omega
  have c2 : ((m : Int) == 0) = false := by simp; omega
  clear hM hg hl h1 hf hq0 hD hmem hlen x1 x2 x3 hon ho
  generalize strOfNums ((p0.d.drop o).take m) = s at *
  generalize p0.d.length - o = cap at *
  go_enter Tryz.func23, Tryz.ntmps23
  go_wp2_with (go_at_call 45; refine HH.out.mono ?_; rintro e w1 ⟨rfl, hb⟩; have hcv := HCV.out _ hb cap; have HB := aq hb; clear hb)
  go_ret2
  exact ⟨rfl, HB.out⟩
structure Touch (w w' : World) (b : Nat) : Prop where
  block : ∀ k, k < w.heap.size → k ≠ b → w'.heap[k]? = w.heap[k]?
  size : w.heap.size ≤ w'.heap.size
  below : ∀ (B : Nat) (U : World), Below B U w → B ≤ b → B ≤ w.heap.size → Below B U w'
theorem Touch.of_below {w w' : World} (b : Nat) (h : Below w.heap.size w w') : Touch w w' b := ⟨fun k hk _ => h.block k hk, h.size, fun B U hu _ hs => hu.trans (h.mono hs)⟩
theorem Touch.set {w w' : World} {b : Nat} (h : Touch w w' b) (j : Nat) (v : Value) : Touch w (w'.setCell ⟨b, j, none⟩ v) b where
  block k hk hn := (Below.heap_setCell w' ⟨b, j, none⟩ v k hn).trans (h.block k hk hn)
  size := by have := h.size; simpa [World.setCell] using this
  below B U hu hb hs := (h.below B U hu hb hs).setCell hb _
theorem Touch.trans {w w1 w2 : World} {b : Nat} (h : Touch w w1 b) (g : Touch w1 w2 b) : Touch w w2 b where
  block k hk hn := (g.block k (Nat.lt_of_lt_of_le hk h.size) hn).trans (h.block k hk hn)
  size := Nat.le_trans h.size g.size
  below B U hu hb hs := g.below B U (h.below B U hu hb hs) hb (Nat.le_trans hs h.size)
theorem Touch.step {w w1 w2 : World} {b : Nat} (h : Touch w w1 b) (hb : Below w1.heap.size w1 w2) : Touch w w2 b := h.trans (Touch.of_below b hb)
theorem MemIs.stored {w w' : World} {M : Nat} {A : Option Addr} {P c : Nat} {Q : List (MP × Nat)} (h : MemIs w M A P c Q) {i : Nat} {p : MP} {b : Nat} (hq : Q[i]? = some (p, b)) (d : List Int) (hd : d.length = p.d.length)
    (hT : Touch w w' b) (hb : w'.heap[b]? = some (.cells (d.map (Value.int .u8)).toArray 5 (0, 0))) : MemIs w' M A P c (Q.set i ({ p with d := d }, b)) := by
  have hmem : (p, b) ∈ Q := List.mem_of_getElem? hq
  have hD := h.data _ hmem
  have hQ : Q ≠ [] := by intro e; rw [e] at hq; cases hq
  obtain ⟨cur, hcur⟩ := h.row hQ
  have hMb : M ≠ b := blk_ne h.head hD (by decide)
  have hPb : P ≠ b := blk_ne hcur hD (by decide)
  have hne : ∀ j q, j ≠ i → Q[j]? = some q → q.2 ≠ b := fun j q hj hjq e => by
    have hap := List.pairwise_iff_getElem.1 h.apart
    have h1 : (Q.map (·.2))[j]? = some q.2 := by rw [List.getElem?_map, hjq]; rfl
    have h2 : (Q.map (·.2))[i]? = some b := by rw [List.getElem?_map, hq]; rfl
    obtain ⟨l1, e1⟩ := List.getElem?_eq_some_iff.1 h1
    obtain ⟨l2, e2⟩ := List.getElem?_eq_some_iff.1 h2
    rcases Nat.lt_or_ge j i with hlt | hge
    · exact hap j i l1 l2 hlt (by rw [e1, e2, e])
    · exact hap i j l2 l1 (by omega) (by rw [e1, e2, e])
  refine ⟨?_, ?_, ?_, ?_, ?_, ?_⟩
  · rw [List.length_set]
    exact (hT.block M (Array.getElem?_eq_some_iff.1 h.head).1 hMb).trans h.head
  · exact fun _ => h.addr hQ
  · exact fun _ => ⟨cur, (hT.block P (Array.getElem?_eq_some_iff.1 hcur).1 hPb).trans hcur⟩
  · intro j q hjq k v hv
    have hc : w.cell? ⟨P, j * 3 + k, none⟩ = some v := by
      rw [List.getElem?_set] at hjq
      by_cases hij : i = j
      · subst hij
        rw [if_pos rfl, if_pos (List.getElem?_eq_some_iff.1 hq).1] at hjq
        obtain rfl := Option.some.inj hjq
        refine h.cells i _ hq k v ?_
        unfold encM at hv ⊢
        simp only [hd] at hv
        exact hv
      · rw [if_neg hij] at hjq
        exact h.cells j q hjq k v hv
    exact (World.cell?_of_block (w := w) (hT.block P (Array.getElem?_eq_some_iff.1 hcur).1 hPb)).trans hc
  · intro q hqm
    obtain ⟨j, hj⟩ := List.mem_iff_getElem?.1 hqm
    rw [List.getElem?_set] at hj
    by_cases hij : i = j
    · subst hij
      rw [if_pos rfl, if_pos (List.getElem?_eq_some_iff.1 hq).1] at hj
      obtain rfl := Option.some.inj hj
      exact hb
    · rw [if_neg hij] at hj
      have hqm' : q ∈ Q := List.mem_of_getElem? hj
      exact (hT.block q.2 (Array.getElem?_eq_some_iff.1 (h.data q hqm')).1 (hne j q (fun e => hij e.symm) hj)).trans (h.data q hqm')
  · have e : (Q.set i ({ p with d := d }, b)).map (·.2) = Q.map (·.2) := by
      apply List.ext_getElem?
      intro j
      rw [List.getElem?_map, List.getElem?_map, List.getElem?_set]
      by_cases hij : i = j
      · subst hij
        rw [if_pos rfl, if_pos (List.getElem?_eq_some_iff.1 hq).1, hq]
        rfl
      · rw [if_neg hij]
    rw [e]
    exact h.apart
end Go.Proofs.YtflojfcioojgbaaGreatDoor.MW
