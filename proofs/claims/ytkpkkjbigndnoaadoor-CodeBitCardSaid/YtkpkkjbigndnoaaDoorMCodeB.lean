/- An instruction's fields (chapter 5): what is got is put back. -/
import Derived.Test.YtkpkkjbigndnoaaDoorMCodeA
import Derived.Test.YtkpkkjbigndnoaaDoorPx12
namespace Go.Proofs.YtkpkkjbigndnoaaDoor.M
open Go.RowKit Go.Proofs.YtkpkkjbigndnoaaDoor.P Go.Proofs.YtkpkkjbigndnoaaDoorW.PrintWords Go.Proofs.YtkpkkjbigndnoaaDoorW.PrintLast Go.Proofs.YtkpkkjbigndnoaaDoorW.PrintMore
set_option linter.unusedVariables false
set_option linter.unusedSimpArgs false
/-- What a field of an instruction tells. -/
def valP (c : CI) (t : T3) : PD → Int
  | .d => c.d | .n => c.n | .m => c.m | .a => c.a | .sh => c.sh | .cond _ => c.cd
  | .imm _ _ b _ => c.im / b | .amt _ _ b => c.am / b | .lo => c.im % 4 | .hi => c.im / 4
  | .mk 0 => t.t0 | .mk 1 => t.t1 | .mk _ => t.t2
def fitP (p : PD) (v : Int) : Prop := if p.sg_ = true then -(2 ^ (p.n_.toNat - 1)) ≤ v ∧ v < 2 ^ (p.n_.toNat - 1) else 0 ≤ v ∧ v < 2 ^ p.n_.toNat
def encP (p : PD) (v : Int) : Int := if p.sg_ = true then v % 2 ^ p.n_.toNat else v
def getP (k : Nat) (p : PD) (c : CI) : Option Int := p.get k c.o c.d c.n c.m c.a c.im c.ms c.sh c.am c.cd
def sized (p : PD) : Prop := 1 ≤ p.n_ ∧ p.n_ ≤ 26 ∧ 0 ≤ p.at_ ∧ p.at_ + p.n_ ≤ 32
instance (p : PD) : Decidable (sized p) := by unfold sized; infer_instance
theorem sized_all : ∀ s : Fin 17, ∀ p, p ∈ partsOf ((s.val : Nat) : Int) → sized p := by decide +kernel
theorem pow26 (n : Nat) (h : n ≤ 26) : (2 : Int) ^ n ≤ 67108864 := pow_le n 26 h
theorem field_of (k : Nat) (hk : 100 ≤ k) (p : PD) (c : CI) (v : Int) (hs : sized p) (hg : getP k p c = some v) (hf : fitP p v) :
    p.fieldV k c.o c.d c.n c.m c.a c.im c.ms c.sh c.am c.cd = some (encP p v) := by
  obtain ⟨s1, s2, s3, s4⟩ := hs
  have hp := pow26 p.n_.toNat (by omega)
  have hq := pow26 (p.n_.toNat - 1) (by omega)
  unfold PD.fieldV
  unfold getP at hg
  rw [hg, Option.bind_some]
  unfold fitP at hf
  unfold encP
  by_cases hsg : p.sg_ = true
  · rw [if_pos hsg] at hf ⊢
    have e : packV v p.n_ = (v % 2 ^ p.n_.toNat, 0) := by
      unfold packV
      rw [if_pos (by omega), if_pos hf]
    rw [if_pos hsg, pack_spec k v p.n_ hk (by omega) (by omega) (by omega) (by omega), Option.bind_some, e, if_pos rfl]
  · rw [if_neg hsg] at hf ⊢
    rw [if_neg hsg]
    congr 1
    omega
def fldP (p : PD) (v : Int) : Fld := ⟨p.at_, p.n_, encP p v⟩
theorem fields_of (k : Nat) (hk : 100 ≤ k) (c : CI) (v : PD → Int) : ∀ ps : List PD, (∀ p, p ∈ ps → sized p) → (∀ p, p ∈ ps → getP k p c = some (v p) ∧ fitP p (v p)) →
    fieldsL k c.o c.d c.n c.m c.a c.im c.ms c.sh c.am c.cd ps = some (ps.map fun p => fldP p (v p))
  | [], _, _ => rfl
  | p :: ps, h1, h2 => by
    unfold fieldsL
    rw [field_of k hk p c (v p) (h1 p (List.mem_cons_self ..)) (h2 p (List.mem_cons_self ..)).1 (h2 p (List.mem_cons_self ..)).2, Option.bind_some,
      fields_of k hk c v ps (fun q hq => h1 q (List.mem_cons_of_mem _ hq)) (fun q hq => h2 q (List.mem_cons_of_mem _ hq)), Option.bind_some]
    rfl
theorem enc_lt (p : PD) (v : Int) (hs : sized p) (hf : fitP p v) : 0 ≤ encP p v ∧ encP p v < 2 ^ p.n_.toNat := by
  have hp := pow_pos p.n_.toNat
  unfold fitP at hf
  unfold encP
  by_cases hsg : p.sg_ = true
  · rw [if_pos hsg]
    exact ⟨Int.emod_nonneg _ (by omega), Int.emod_lt_of_pos _ hp⟩
  · rw [if_neg hsg] at hf ⊢
    exact hf
/-- What is read of a word's field. -/
def rawP (w : Int) (p : PD) : Int := w / 2 ^ p.at_.toNat % 2 ^ p.n_.toNat
def readP (w : Int) (p : PD) : Int := if p.sg_ = true then (if rawP w p < 2 ^ (p.n_.toNat - 1) then rawP w p else rawP w p - 2 ^ p.n_.toNat) else rawP w p
/-- The values put one after another. -/
def puts (k : Nat) (v : PD → Int) : List PD → CI → T3 → Option (Int × CI)
  | [], c, _ => some (0, c)
  | p :: ps, c, t => (p.put k c t (v p)).bind fun r => if r.1 = 0 then puts k v ps r.2.1 r.2.2 else some (r.1, r.2.1)
theorem two_pow_pred (n : Nat) (h : 1 ≤ n) : (2 : Int) ^ n = 2 * 2 ^ (n - 1) := by
  obtain ⟨m, rfl⟩ : ∃ m, n = m + 1 := ⟨n - 1, by omega⟩
  rw [Int.pow_succ, Nat.add_sub_cancel]; omega
theorem raw_lt (w : Int) (p : PD) : 0 ≤ rawP w p ∧ rawP w p < 2 ^ p.n_.toNat := by
  have hp := pow_pos p.n_.toNat
  exact ⟨Int.emod_nonneg _ (by omega), Int.emod_lt_of_pos _ hp⟩
theorem decGo_at (k : Nat) (hk : 100 ≤ k) (w : Int) (w0 : 0 ≤ w) (w1 : w < 4294967296) : ∀ (ps : List PD) (c : CI) (t : T3), (∀ p, p ∈ ps → sized p) → decGo k w ps c t = puts k (readP w) ps c t
  | [], _, _, _ => rfl
  | p :: ps, c, t, hs => by
    obtain ⟨s1, s2, s3, s4⟩ := hs p (List.mem_cons_self ..)
    have hp := pow26 p.n_.toNat (by omega)
    obtain ⟨r0, r1⟩ := raw_lt w p
    unfold decGo puts
    have ef : fieldV w p.at_ p.n_ = (rawP w p, 0) := by
      unfold fieldV
      rw [if_pos (by unfold okI; simp; omega)]
      rfl
    rw [field_spec w p.at_ p.n_ w0 w1, Option.bind_some, ef, if_pos rfl]
    have hv : (if p.sg_ = true then (bits_Signed.f k (rawP w p) p.n_).bind fun s => if s.2 = 0 then some s.1 else none else some (wrap64 (rawP w p))) = some (readP w p) := by
      unfold readP
      by_cases hsg : p.sg_ = true
      · have e : sgnV (rawP w p) p.n_ = (if rawP w p < 2 ^ (p.n_.toNat - 1) then rawP w p else rawP w p - 2 ^ p.n_.toNat, 0) := by
          unfold sgnV
          rw [if_pos (by omega), if_pos r1]
        rw [if_pos hsg, if_pos hsg, signed_spec k _ p.n_ hk r0 (by omega) (by omega) (by omega), Option.bind_some, e, if_pos rfl]
      · rw [if_neg hsg, if_neg hsg, wrap64_self _ (by omega) (by omega)]
    rw [hv, Option.bind_some]
    congr 1
    funext r
    rw [decGo_at k hk w w0 w1 ps r.2.1 r.2.2 (fun q hq => hs q (List.mem_cons_of_mem _ hq))]
theorem read_fit (w : Int) (p : PD) (hs : sized p) : fitP p (readP w p) ∧ encP p (readP w p) = rawP w p := by
  obtain ⟨s1, s2, s3, s4⟩ := hs
  obtain ⟨r0, r1⟩ := raw_lt w p
  have h2 := two_pow_pred p.n_.toNat (by omega)
  have hp := pow_pos (p.n_.toNat - 1)
  unfold fitP encP readP
  by_cases hsg : p.sg_ = true
  · simp only [if_pos hsg]
    by_cases hlt : rawP w p < 2 ^ (p.n_.toNat - 1)
    · rw [if_pos hlt]
      exact ⟨by omega, Int.emod_eq_of_lt r0 r1⟩
    · rw [if_neg hlt]
      refine ⟨by omega, ?_⟩
      rw [Int.sub_emod_right]
      exact Int.emod_eq_of_lt r0 r1
  · simp only [if_neg hsg]
    exact ⟨⟨r0, r1⟩, trivial⟩
theorem read_of (w : Int) (p : PD) (v : Int) (hs : sized p) (hf : fitP p v) (hr : rawP w p = encP p v) : readP w p = v := by
  obtain ⟨s1, s2, s3, s4⟩ := hs
  have h2 := two_pow_pred p.n_.toNat (by omega)
  have hp := pow_pos (p.n_.toNat - 1)
  unfold readP
  rw [hr]
  unfold fitP at hf
  unfold encP
  by_cases hsg : p.sg_ = true
  · simp only [if_pos hsg] at hf ⊢
    by_cases h0 : 0 ≤ v
    · rw [Int.emod_eq_of_lt h0 (by omega), if_pos hf.2]
    · have : v % 2 ^ p.n_.toNat = v + 2 ^ p.n_.toNat := by
        rw [← Int.add_emod_right, Int.emod_eq_of_lt (by omega) (by omega)]
      rw [this, if_neg (by omega)]
      omega
  · simp only [if_neg hsg]
end Go.Proofs.YtkpkkjbigndnoaaDoor.M
