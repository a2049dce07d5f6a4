/- Decode and Encode, back and there (chapter 5). -/
import Derived.Test.YtkpkkjbigndnoaaDoorMCodeG
namespace Go.Proofs.YtkpkkjbigndnoaaDoor.M
open Go.RowKit Go.Proofs.YtkpkkjbigndnoaaDoor.P Go.Proofs.YtkpkkjbigndnoaaDoorW.PrintWords Go.Proofs.YtkpkkjbigndnoaaDoorW.PrintLast Go.Proofs.YtkpkkjbigndnoaaDoorW.PrintMore
set_option linter.unusedVariables false
set_option linter.unusedSimpArgs false
theorem raw_of_fit (W : Int) (s : Nat) (hs : s ≤ 16) (p : PD) (hp : p ∈ partsOf ((s : Nat) : Int)) : fitP p (readP W p) ∧ encP p (readP W p) = rawP W p :=
  read_fit W p (sized_all ⟨s, by omega⟩ p hp)
/-- A word is none, or an instruction's, and that one's word. -/
theorem back_all (W : Nat) (hW : W < 4294967296) : code_Decode.f 1000 (W : Int) = some (tup CI.zero 11) ∨
    (∃ c : CI, code_Decode.f 1000 (W : Int) = some (tup c 0) ∧ CI.is 1000 c = some true ∧ code_Encode.f 1000 c.o c.d c.n c.m c.a c.im c.ms c.sh c.am c.cd = some ((W : Int), 0) ∧ code_Opcode.f 1000 (W : Int) = some c.o ∧ 0 ≤ c.ms ∧ c.ms < 18446744073709551616) := by
  have hop := op_at 1000 (by decide) W hW
  have hof := of_opF W 40 0 rfl
  generalize opF W 40 0 = op at hop hof
  have hle := shapeN_le ((op : Nat) : Int)
  have hsz : ∀ p, p ∈ partsOf ((shapeN ((op : Nat) : Int) : Nat) : Int) → sized p := sized_all ⟨shapeN ((op : Nat) : Int), by omega⟩
  have hfit := raw_of_fit (W : Int) (shapeN ((op : Nat) : Int)) hle
  have hdec : ∀ r, puts 1000 (readP (W : Int)) (partsOf ((shapeN ((op : Nat) : Int) : Nat) : Int)) ⟨(op : Int), 0, 0, 0, 0, 0, 0, 0, 0, 0⟩ ⟨0, 0, 0⟩ = some r →
      code_Decode.f 1000 (W : Int) = if r.1 = 0 then (r.2.is 1000).bind fun b => if b = true then some (tup r.2 0) else some (tup CI.zero 11) else some (tup CI.zero 11) := by
    intro r hr
    unfold code_Decode.f
    rw [hop, Option.bind_some, shape_at, Option.bind_some, decGo_at 1000 (by omega) W (by omega) (by omega) _ _ _ hsz, hr, Option.bind_some]
  have key : (∃ e c, e ≠ 0 ∧ puts 1000 (readP (W : Int)) (partsOf ((shapeN ((op : Nat) : Int) : Nat) : Int)) ⟨(op : Int), 0, 0, 0, 0, 0, 0, 0, 0, 0⟩ ⟨0, 0, 0⟩ = some (e, c)) ∨
      (∃ c : CI, puts 1000 (readP (W : Int)) (partsOf ((shapeN ((op : Nat) : Int) : Nat) : Int)) ⟨(op : Int), 0, 0, 0, 0, 0, 0, 0, 0, 0⟩ ⟨0, 0, 0⟩ = some (0, c) ∧ c.o = (op : Int) ∧ 0 ≤ c.ms ∧ c.ms < 18446744073709551616 ∧ (∀ p, p ∈ partsOf ((shapeN ((op : Nat) : Int) : Nat) : Int) → valP c (t3 (readP (W : Int))) p = readP (W : Int) p) ∧
        (shapeN ((op : Nat) : Int) = 3 → fits3 (t3 (readP (W : Int))) ∧ mask_Encode.f 1000 c.ms = some ((t3 (readP (W : Int))).t0, (t3 (readP (W : Int))).t1, (t3 (readP (W : Int))).t2, 0))) := by
    by_cases h3 : shapeN ((op : Nat) : Int) = 3
    · rw [h3] at hfit ⊢
      obtain ⟨f0, -⟩ := hfit (.mk 0) (by simp [partsOf])
      obtain ⟨f1, -⟩ := hfit (.mk 1) (by simp [partsOf])
      obtain ⟨f2, -⟩ := hfit (.mk 2) (by simp [partsOf])
      simp [fitP, PD.n_, PD.sg_] at f0 f1 f2
      obtain ⟨a, ha⟩ := Int.eq_ofNat_of_zero_le f0.1
      obtain ⟨b, hb⟩ := Int.eq_ofNat_of_zero_le f1.1
      obtain ⟨d, hd⟩ := Int.eq_ofNat_of_zero_le f2.1
      rcases MM.mask_here 1000 a b d (by decide) (by omega) (by omega) (by omega) with ⟨v, hv, h1, h2⟩ | h1
      · right
        rw [← ha, ← hb, ← hd] at h1 h2
        obtain ⟨c, c1, c2, c3, c4⟩ := put_back 1000 (op : Int) (v : Int) 3 (readP (W : Int)) (by decide) (fun p hp => (hfit p hp).1) (fun _ => h1)
        have e64 : (2 : Nat) ^ 64 = 18446744073709551616 := by decide
        rw [if_pos rfl] at c3
        refine ⟨c, c1, c2, by omega, by omega, c4, fun _ => ⟨?_, ?_⟩⟩
        · unfold fits3 t3
          simp only
          omega
        · rw [c3]; exact h2
      · left
        rw [← ha, ← hb, ← hd] at h1
        obtain ⟨c, hc⟩ := put_fell 1000 (op : Int) (readP (W : Int)) h1
        exact ⟨3, c, by decide, hc⟩
    · right
      obtain ⟨c, c1, c2, c3, c4⟩ := put_back 1000 (op : Int) 0 _ (readP (W : Int)) hle (fun p hp => (hfit p hp).1) (fun e => absurd e h3)
      rw [if_neg h3] at c3
      exact ⟨c, c1, c2, by omega, by omega, c4, fun e => absurd e h3⟩
  rcases key with ⟨e, c, he, hp⟩ | ⟨c, hp, ho, m0, m1, hv, ht⟩
  · left
    rw [hdec _ hp, if_neg he]
  · have hd := hdec _ hp
    rw [if_pos rfl] at hd
    obtain ⟨mk, t, hi, hm⟩ := is_all c m0 m1
    simp only [hi, Option.bind_some] at hd
    cases hb : isB c mk with
    | false =>
      rw [hb, if_neg (by decide)] at hd
      exact .inl hd
    | true =>
      rw [hb, if_pos rfl] at hd
      rw [hb] at hi
      right
      obtain ⟨o1, o2⟩ := o_of c mk hb
      obtain ⟨p1, p2, p3⟩ := hof (by omega)
      rw [← ho] at ht hv hfit
      obtain ⟨e1, e2, e3, e4⟩ := enc_at 1000 (by decide) c mk (t3 (readP (W : Int))) hi hb (fun e => by
        obtain ⟨g1, g2⟩ := ht e
        obtain ⟨g3, g4, g5, g6, g7, g8⟩ := g1
        exact ⟨g3, g4, g5, g6, g7, g8, g2⟩)
      have hop2 : c.o.toNat = op := by omega
      have hsh := shape_shp c.o o1 o2
      have hWW : wordC c (t3 (readP (W : Int))) = W := by
        refine word_ext op p2 _ _ e2 hW (hop2 ▸ e3) p3 (fun p hpp => ?_)
        rw [← hop2, ← hsh] at hpp
        rw [e4 p hpp, hv p hpp, (hfit p hpp).2]
      refine ⟨c, hd, hi, ?_, ?_, m0, m1⟩
      · rw [e1, hWW]
      · rw [hop, ho]
end Go.Proofs.YtkpkkjbigndnoaaDoor.M
