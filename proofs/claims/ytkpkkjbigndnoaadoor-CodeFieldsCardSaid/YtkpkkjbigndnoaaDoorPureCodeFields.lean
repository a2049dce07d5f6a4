/- Of two instructions the words (chapter 5): the Go law answers true for every two instructions. -/
import Derived.Test.YtkpkkjbigndnoaaDoorMCodeF
import Derived.Test.YtkpkkjbigndnoaaDoorPx14
namespace Go.Proofs.YtkpkkjbigndnoaaDoor.Pure
open Go.RowKit Go.Proofs.YtkpkkjbigndnoaaDoor.P Go.Proofs.YtkpkkjbigndnoaaDoorW.PrintWords Go.Proofs.YtkpkkjbigndnoaaDoorW.PrintLast Go.Proofs.YtkpkkjbigndnoaaDoorW.PrintMore Go.Proofs.YtkpkkjbigndnoaaDoor.M
set_option linter.unusedVariables false
set_option linter.unusedSimpArgs false
theorem there_all (c : CI) (m0 : 0 ≤ c.ms) (m1 : c.ms < 18446744073709551616) :
    (CI.is 1000 c = some false ∧ code_Encode.f 1000 c.o c.d c.n c.m c.a c.im c.ms c.sh c.am c.cd = some (0, 1)) ∨
    (∃ W : Nat, W < 4294967296 ∧ CI.is 1000 c = some true ∧ code_Encode.f 1000 c.o c.d c.n c.m c.a c.im c.ms c.sh c.am c.cd = some ((W : Int), 0) ∧ code_Decode.f 1000 (W : Int) = some (tup c 0) ∧ code_Opcode.f 1000 (W : Int) = some c.o ∧ ∃ t : T3, ∀ p, p ∈ partsOf ((shapeN c.o : Nat) : Int) → rawP W p = encP p (valP c t p) ∧ fitP p (valP c t p)) := by
  obtain ⟨mk, t, hi, hm⟩ := is_all c m0 m1
  cases hb : isB c mk with
  | false =>
    rw [hb] at hi
    refine .inl ⟨hi, ?_⟩
    unfold code_Encode.f
    unfold CI.is at hi
    rw [hi, Option.bind_some, if_neg (by decide)]
  | true =>
    rw [hb] at hi
    have hm3 := fun e : shapeN c.o = 3 => hm (isB_mask c mk hb e)
    obtain ⟨h1, h2, h3, h4⟩ := enc_at 1000 (by decide) c mk t hi hb (fun e => by obtain ⟨a1, a2, a3, a4, a5, a6, a7, a8⟩ := hm3 e; exact ⟨a1, a2, a3, a4, a5, a6, a7⟩)
    obtain ⟨h5, h6⟩ := dec_at 1000 (by decide) c mk t (wordC c t) hi hb hm3 h2 h3 h4
    exact .inr ⟨_, h2, hi, h1, h5, h6, t, fun p hp => ⟨h4 p hp, (fit_all 1000 c mk t hb (fun e => by obtain ⟨a1, a2, a3, a4, a5, a6, a7, a8⟩ := hm3 e; exact ⟨a1, a2, a3, a4, a5, a6, a7⟩) p hp).2⟩⟩
def isD : PD → Bool | .d => true | _ => false
def isN : PD → Bool | .n => true | _ => false
theorem has_d_ : ∀ s : Fin 17, (1 ≤ s.val ∧ s.val ≤ 10 ∨ s.val = 16) → (partsOf ((s.val : Nat) : Int)).any isD = true := by decide +kernel
theorem has_n_ : ∀ s : Fin 17, (2 ≤ s.val ∧ s.val ≤ 8 ∨ s.val = 13 ∨ s.val = 16) → (partsOf ((s.val : Nat) : Int)).any isN = true := by decide +kernel
theorem has_d (s : Nat) (h : s ≤ 16) (hs : 1 ≤ s ∧ s ≤ 10 ∨ s = 16) : PD.d ∈ partsOf ((s : Nat) : Int) := by
  obtain ⟨p, hp, hd⟩ := List.any_eq_true.1 (has_d_ ⟨s, by omega⟩ hs)
  cases p <;> simp [isD] at hd
  exact hp
theorem has_n (s : Nat) (h : s ≤ 16) (hs : 2 ≤ s ∧ s ≤ 8 ∨ s = 13 ∨ s = 16) : PD.n ∈ partsOf ((s : Nat) : Int) := by
  obtain ⟨p, hp, hd⟩ := List.any_eq_true.1 (has_n_ ⟨s, by omega⟩ hs)
  cases p <;> simp [isN] at hd
  exact hp
theorem field_d (W : Nat) (h : W < 4294967296) : bits_Field.f (W : Int) 0 5 = some (rawP W .d, 0) := by
  rw [field_spec _ _ _ (by omega) (by omega)]; rfl
theorem field_n (W : Nat) (h : W < 4294967296) : bits_Field.f (W : Int) 5 5 = some (rawP W .n, 0) := by
  rw [field_spec _ _ _ (by omega) (by omega)]; rfl
theorem same_words (V W : Nat) (a0 a1 a2 a3 a4 a5 a6 a7 a8 a9 b0 b1 b2 b3 b4 b5 b6 b7 b8 b9 : Int) (h1 : code_Encode.f 1000 a0 a1 a2 a3 a4 a5 a6 a7 a8 a9 = some ((V : Int), 0)) (h2 : code_Encode.f 1000 b0 b1 b2 b3 b4 b5 b6 b7 b8 b9 = some ((W : Int), 0))
    (d1 : code_Decode.f 1000 (V : Int) = some (a0, a1, a2, a3, a4, a5, a6, a7, a8, a9, 0)) (d2 : code_Decode.f 1000 (W : Int) = some (b0, b1, b2, b3, b4, b5, b6, b7, b8, b9, 0)) :
    (((V : Int) == (W : Int)) == (a0 == b0 && (a1 == b1 && (a2 == b2 && (a3 == b3 && (a4 == b4 && (a5 == b5 && (a6 == b6 && (a7 == b7 && (a8 == b8 && (a9 == b9))))))))))) = true := by
  by_cases h : V = W
  · subst h
    rw [d1] at d2
    simp only [Option.some.injEq, Prod.mk.injEq] at d2
    obtain ⟨rfl, rfl, rfl, rfl, rfl, rfl, rfl, rfl, rfl, rfl, _⟩ := d2
    simp
  · have hn : ((V : Int) == (W : Int)) = false := by simp; omega
    rw [hn]
    cases he : (a0 == b0 && (a1 == b1 && (a2 == b2 && (a3 == b3 && (a4 == b4 && (a5 == b5 && (a6 == b6 && (a7 == b7 && (a8 == b8 && (a9 == b9)))))))))) with
    | false => rfl
    | true =>
      simp only [Bool.and_eq_true, beq_iff_eq] at he
      obtain ⟨rfl, rfl, rfl, rfl, rfl, rfl, rfl, rfl, rfl, rfl⟩ := he
      rw [h1] at h2
      simp only [Option.some.injEq, Prod.mk.injEq] at h2
      omega
theorem CodeFields (a0 a1 a2 a3 a4 a5 a6 a7 a8 a9 b0 b1 b2 b3 b4 b5 b6 b7 b8 b9 : Int) (w6 : 0 ≤ a6 ∧ a6 < 18446744073709551616) (v6 : 0 ≤ b6 ∧ b6 < 18446744073709551616) : cleatlaw05_CodeFields.f 1000 a0 a1 a2 a3 a4 a5 a6 a7 a8 a9 b0 b1 b2 b3 b4 b5 b6 b7 b8 b9 = some true := by
  have hco := coded_at 999 (by decide)
  have hco7 := coded_at 997 (by decide)
  unfold cleatlaw05_CodeFields.f
  rcases there_all ⟨a0, a1, a2, a3, a4, a5, a6, a7, a8, a9⟩ w6.1 w6.2 with ⟨_, he⟩ | ⟨V, hV, _, he, hd, _, t, ht⟩
  · simp only at he
    rcases there_all ⟨b0, b1, b2, b3, b4, b5, b6, b7, b8, b9⟩ v6.1 v6.2 with ⟨_, hf⟩ | ⟨W, hW, _, hf, _⟩ <;> (simp only at hf; rw [he, Option.bind_some, hf, Option.bind_some, if_neg (by decide)]; simp [cleatlaw05_CodeFields.j0, hco])
  · simp only at he
    rcases there_all ⟨b0, b1, b2, b3, b4, b5, b6, b7, b8, b9⟩ v6.1 v6.2 with ⟨_, hf⟩ | ⟨W, hW, _, hf, hg, _⟩
    · simp only at hf
      rw [he, Option.bind_some, hf, Option.bind_some, if_pos rfl]
      simp [cleatlaw05_CodeFields.j0, hco]
    · simp only [tup] at hf hd hg
      have hsw := same_words V W _ _ _ _ _ _ _ _ _ _ _ _ _ _ _ _ _ _ _ _ he hf hd hg
      rw [he, Option.bind_some, hf, Option.bind_some, if_pos rfl]
      have hle := shapeN_le a0
      have hD := fun hs => ht .d (has_d (shapeN a0) hle hs)
      have hN := fun hs => ht .n (has_n (shapeN a0) hle hs)
      simp only [valP, encP, PD.sg_, fitP, PD.n_] at hD hN
      have eD : ∀ (_ : 1 ≤ shapeN a0 ∧ shapeN a0 ≤ 10 ∨ shapeN a0 = 16), wrap64 (rawP V .d) = a1 := fun hs => by
        obtain ⟨h1, h2⟩ := hD hs
        simp at h1 h2
        rw [h1]
        exact wrap64_self _ (by omega) (by omega)
      have eN : ∀ (_ : 2 ≤ shapeN a0 ∧ shapeN a0 ≤ 8 ∨ shapeN a0 = 13 ∨ shapeN a0 = 16), wrap64 (rawP V .n) = a2 := fun hs => by
        obtain ⟨h1, h2⟩ := hN hs
        simp at h1 h2
        rw [h1]
        exact wrap64_self _ (by omega) (by omega)
      simp only [cleatlaw05_CodeFields.j0]
      rw [if_neg (by decide), shape_at, Option.bind_some, field_d V hV, Option.bind_some, field_n V hV, Option.bind_some]
      have hend : ∀ b c : Bool, (b = true → 1 ≤ shapeN a0 ∧ shapeN a0 ≤ 10 ∨ shapeN a0 = 16) → (c = true → 2 ≤ shapeN a0 ∧ shapeN a0 ≤ 8 ∨ shapeN a0 = 13 ∨ shapeN a0 = 16) →
          cleatlaw05_CodeFields.j2 998 (V : Int) (W : Int) (rawP V .d) 0 (rawP V .n) 0 b c a0 a1 a2 a3 a4 a5 a6 a7 a8 a9 b0 b1 b2 b3 b4 b5 b6 b7 b8 b9 = some true := by
        intro b c hb hc
        simp only [cleatlaw05_CodeFields.j2]
        rw [hco7, Option.bind_some, if_pos rfl, if_pos hsw]
        simp only [if_true]
        cases b with
        | false =>
          rw [if_neg (by decide)]
          cases c with
          | false => rfl
          | true => rw [if_pos rfl, eN (hc rfl)]; simp
        | true =>
          rw [if_pos rfl, if_pos (eD (hb rfl))]
          cases c with
          | false => rfl
          | true => rw [if_pos rfl, eN (hc rfl)]; simp
      simp only [cleatlaw05_CodeFields.j1]
      repeat' split
      all_goals refine hend _ _ (fun h => ?_) (fun h => ?_)
      all_goals (try simp at h)
      all_goals omega
theorem CodeFields_walk (a0 a1 a2 a3 a4 a5 a6 a7 a8 a9 b0 b1 b2 b3 b4 b5 b6 b7 b8 b9 : Int) (W : World) (w0 : (Lit.int .i64 a0).wf = true) (w1 : (Lit.int .i64 a1).wf = true) (w2 : (Lit.int .i64 a2).wf = true) (w3 : (Lit.int .i64 a3).wf = true) (w4 : (Lit.int .i64 a4).wf = true) (w5 : (Lit.int .i64 a5).wf = true) (w6 : (Lit.int .u64 a6).wf = true) (w7 : (Lit.int .i64 a7).wf = true) (w8 : (Lit.int .i64 a8).wf = true) (w9 : (Lit.int .i64 a9).wf = true) (v0 : (Lit.int .i64 b0).wf = true) (v1 : (Lit.int .i64 b1).wf = true) (v2 : (Lit.int .i64 b2).wf = true) (v3 : (Lit.int .i64 b3).wf = true) (v4 : (Lit.int .i64 b4).wf = true) (v5 : (Lit.int .i64 b5).wf = true) (v6 : (Lit.int .u64 b6).wf = true) (v7 : (Lit.int .i64 b7).wf = true) (v8 : (Lit.int .i64 b8).wf = true) (v9 : (Lit.int .i64 b9).wf = true) (hTab : TabW W) :
    Calls Tryd.prog 6 #[.agg #[.int .i64 a0, .int .i64 a1, .int .i64 a2, .int .i64 a3, .int .i64 a4, .int .i64 a5, .int .u64 a6, .int .i64 a7, .int .i64 a8, .int .i64 a9], .agg #[.int .i64 b0, .int .i64 b1, .int .i64 b2, .int .i64 b3, .int .i64 b4, .int .i64 b5, .int .u64 b6, .int .i64 b7, .int .i64 b8, .int .i64 b9]] W fun e w' => e = .returned (.bool true) ∧ Below W.heap.size W w' :=
  cleatlaw05_CodeFields.calls 1000 a0 a1 a2 a3 a4 a5 a6 a7 a8 a9 b0 b1 b2 b3 b4 b5 b6 b7 b8 b9 true W (CodeFields a0 a1 a2 a3 a4 a5 a6 a7 a8 a9 b0 b1 b2 b3 b4 b5 b6 b7 b8 b9 (by simp [Lit.wf, IntKind.min, IntKind.max, IntKind.bits, IntKind.signed] at w6; omega) (by simp [Lit.wf, IntKind.min, IntKind.max, IntKind.bits, IntKind.signed] at v6; omega)) hTab
end Go.Proofs.YtkpkkjbigndnoaaDoor.Pure
