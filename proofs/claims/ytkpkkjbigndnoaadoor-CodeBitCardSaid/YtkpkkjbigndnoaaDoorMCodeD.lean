/- Encode and Decode (chapter 5), as plain functions of an instruction and a word. -/
import Derived.Test.YtkpkkjbigndnoaaDoorMCodeC
namespace Go.Proofs.YtkpkkjbigndnoaaDoor.M
open Go.RowKit Go.Proofs.YtkpkkjbigndnoaaDoor.P Go.Proofs.YtkpkkjbigndnoaaDoorW.PrintWords Go.Proofs.YtkpkkjbigndnoaaDoorW.PrintLast Go.Proofs.YtkpkkjbigndnoaaDoorW.PrintMore
set_option linter.unusedVariables false
set_option linter.unusedSimpArgs false
def rowP (v : PD → Int) (s : Nat) : List Fld := (partsOf (s : Int)).map fun p => fldP p (v p)
theorem scan_same : ∀ (L L' : List Fld) (t : Nat), L.map (fun f => (f.f0, f.f1)) = L'.map (fun f => (f.f0, f.f1)) → scan L t = scan L' t
  | [], [], _, _ => rfl
  | [], _ :: _, _, h => by simp at h
  | _ :: _, [], _, h => by simp at h
  | f :: l, g :: l', t, h => by
    simp only [List.map_cons, List.cons.injEq, Prod.mk.injEq] at h
    obtain ⟨⟨h0, h1⟩, h2⟩ := h
    unfold scan
    have e1 : okF f = okF g := by unfold okF; rw [h0, h1]
    have e2 : mskN f = mskN g := by unfold mskN; rw [h0, h1]
    rw [e1, e2, scan_same l l' _ h2]
theorem scan_fin : ∀ s : Fin 17, scan (onesL (partsOf ((s.val : Nat) : Int))) 0 = some (tL.getD s.val 0) := by decide +kernel
theorem scan_at (v : PD → Int) (s : Nat) (h : s ≤ 16) : scan (rowP v s) 0 = some (tL.getD s 0) := by
  rw [scan_same (rowP v s) (onesL (partsOf ((s : Nat) : Int))) 0 (by unfold rowP onesL fldP; rw [List.map_map, List.map_map]; rfl)]
  exact scan_fin ⟨s, by omega⟩
theorem row_small (v : PD → Int) (s : Nat) (h : s ≤ 16) (hf : ∀ p, p ∈ partsOf (s : Int) → fitP p (v p)) : (rowP v s).any bigF = false ∧ (∀ f, f ∈ rowP v s → good f) ∧ (rowP v s).length ≤ 40 := by
  refine ⟨?_, ?_, ?_⟩
  · rw [List.any_eq_false]
    intro f hm
    obtain ⟨p, hp, rfl⟩ := List.mem_map.1 hm
    have hs := sized_all ⟨s, by omega⟩ p hp
    obtain ⟨e0, e1⟩ := enc_lt p (v p) hs (hf p hp)
    have := cast_pow p.n_.toNat
    unfold bigF fldP
    simp only [decide_eq_true_eq]
    omega
  · intro f hm
    obtain ⟨p, hp, rfl⟩ := List.mem_map.1 hm
    have hs := sized_all ⟨s, by omega⟩ p hp
    obtain ⟨e0, e1⟩ := enc_lt p (v p) hs (hf p hp)
    obtain ⟨s1, s2, s3, s4⟩ := hs
    have := pow26 p.n_.toNat (by omega)
    unfold good fldP
    simp only
    omega
  · unfold rowP
    rw [List.length_map]
    have := parts_len (s : Int)
    omega
theorem over_at (k : Nat) (hk : 200 ≤ k) (b s : Nat) (v : PD → Int) (h : s ≤ 16) (hb : b < 4294967296) (hf : ∀ p, p ∈ partsOf (s : Int) → fitP p (v p)) :
    code_over.f k (b : Int) (rowP v s) = some ((b ||| orW (rowP v s) 0 : Nat) : Int) := by
  obtain ⟨h1, h2, h3⟩ := row_small v s h hf
  have hsc := scan_at v s h
  obtain ⟨-, hw, -, -⟩ := word_fold (rowP v s) 0 _ 0 hsc h1 (by decide) (by decide) (by simp)
  have e : wordV (rowP v s) = (((orW (rowP v s) 0 : Nat) : Int), 0) := by
    unfold wordV
    rw [hsc]
    simp only [h1, Bool.false_eq_true, if_false]
  unfold code_over.f
  rw [word_spec k _ hk h3 h2, Option.bind_some, e, if_pos rfl, u32_or_nat _ _ hb (by simpa using hw)]
/-- An instruction's word. -/
def wordC (c : CI) (t : T3) : Nat := baseN c.o.toNat ||| orW (rowP (valP c t) (shapeN c.o)) 0
theorem o_of (c : CI) (mk : Bool) (h : isB c mk = true) : 1 ≤ c.o ∧ c.o ≤ 39 := by
  apply Classical.byContradiction
  intro hn
  have := (shapeN_zero c.o).2 hn
  simp [isB, okB, this] at h
theorem shape_shp (o : Int) (h1 : 1 ≤ o) (h2 : o ≤ 39) : shapeN o = shp o.toNat := by
  have := shapeN_at o.toNat (by omega) (by omega)
  rwa [show ((o.toNat : Nat) : Int) = o by omega] at this
def fits3 (t : T3) : Prop := 0 ≤ t.t0 ∧ t.t0 < 2 ∧ 0 ≤ t.t1 ∧ t.t1 < 64 ∧ 0 ≤ t.t2 ∧ t.t2 < 64
theorem enc_at (k : Nat) (hk : 200 ≤ k) (c : CI) (mk : Bool) (t : T3) (hi : CI.is k c = some true) (h : isB c mk = true) (hm : shapeN c.o = 3 → 0 ≤ t.t0 ∧ t.t0 < 2 ∧ 0 ≤ t.t1 ∧ t.t1 < 64 ∧ 0 ≤ t.t2 ∧ t.t2 < 64 ∧ mask_Encode.f k c.ms = some (t.t0, t.t1, t.t2, 0)) :
    code_Encode.f k c.o c.d c.n c.m c.a c.im c.ms c.sh c.am c.cd = some (((wordC c t : Nat) : Int), 0) ∧ wordC c t < 4294967296 ∧ has (wordC c t) c.o.toNat ∧ ∀ p, p ∈ partsOf ((shapeN c.o : Nat) : Int) → rawP (wordC c t) p = encP p (valP c t p) := by
  obtain ⟨o1, o2⟩ := o_of c mk h
  have hfit := fit_all k c mk t h hm
  have hf : ∀ p, p ∈ partsOf ((shapeN c.o : Nat) : Int) → fitP p (valP c t p) := fun p hp => (hfit p hp).2
  have hle := shapeN_le c.o
  obtain ⟨b1, b2, -, -⟩ := base_fin ⟨c.o.toNat, by omega⟩
  simp only at b1 b2
  have hsc := scan_at (valP c t) (shapeN c.o) hle
  obtain ⟨h1, h2, h3⟩ := row_small (valP c t) (shapeN c.o) hle hf
  have hsz : ∀ p, p ∈ partsOf ((shapeN c.o : Nat) : Int) → sized p := sized_all ⟨shapeN c.o, by omega⟩
  have hss := shape_shp c.o o1 o2
  obtain ⟨w1, w2, w3⟩ := word_has c.o.toNat (by omega) (by omega) (rowP (valP c t) (shapeN c.o)) (by rw [← hss]; exact hsc) h1
  refine ⟨?_, w1, w2, ?_⟩
  · unfold code_Encode.f
    unfold CI.is at hi
    rw [hi, Option.bind_some, if_pos rfl, shape_at, Option.bind_some, fields_of k (by omega) c (valP c t) _ hsz hfit, Option.bind_some, b1]
    have ho := over_at k hk (baseN c.o.toNat) (shapeN c.o) (valP c t) hle b2 hf
    unfold rowP at ho
    rw [ho, Option.bind_some, if_pos (by omega)]
    rfl
  · intro p hp
    have hx := w3 (fldP p (valP c t p)) (List.mem_map.2 ⟨p, hp, rfl⟩)
    obtain ⟨e0, e1⟩ := enc_lt p (valP c t p) (hsz p hp) (hf p hp)
    unfold fldP at hx
    simp only at hx
    unfold rawP wordC
    have hc : ∀ x a n : Nat, ((x : Nat) : Int) / 2 ^ a % 2 ^ n = ((x / 2 ^ a % 2 ^ n : Nat) : Int) := fun x a n => by simp
    rw [hc, hx]
    omega
theorem puts_congr (k : Nat) (v v' : PD → Int) : ∀ (ps : List PD) (c : CI) (t : T3), (∀ p, p ∈ ps → v p = v' p) → puts k v ps c t = puts k v' ps c t
  | [], _, _, _ => rfl
  | p :: ps, c, t, h => by
    unfold puts
    rw [h p (List.mem_cons_self ..)]
    congr 1
    funext r
    rw [puts_congr k v v' ps r.2.1 r.2.2 (fun q hq => h q (List.mem_cons_of_mem _ hq))]
theorem dec_at (k : Nat) (hk : 200 ≤ k) (c : CI) (mk : Bool) (t : T3) (W : Nat) (hi : CI.is k c = some true) (h : isB c mk = true) (hm : shapeN c.o = 3 → 0 ≤ t.t0 ∧ t.t0 < 2 ∧ 0 ≤ t.t1 ∧ t.t1 < 64 ∧ 0 ≤ t.t2 ∧ t.t2 < 64 ∧ mask_Encode.f k c.ms = some (t.t0, t.t1, t.t2, 0) ∧ mask_Decode.f k t.t0 t.t1 t.t2 = some (c.ms, 0))
    (hW : W < 4294967296) (hh : has W c.o.toNat) (hr : ∀ p, p ∈ partsOf ((shapeN c.o : Nat) : Int) → rawP W p = encP p (valP c t p)) :
    code_Decode.f k W = some (tup c 0) ∧ code_Opcode.f k W = some c.o := by
  obtain ⟨o1, o2⟩ := o_of c mk h
  have hfit := fit_all k c mk t h (fun e => by obtain ⟨a1, a2, a3, a4, a5, a6, a7, a8⟩ := hm e; exact ⟨a1, a2, a3, a4, a5, a6, a7⟩)
  have hle := shapeN_le c.o
  have hsz : ∀ p, p ∈ partsOf ((shapeN c.o : Nat) : Int) → sized p := sized_all ⟨shapeN c.o, by omega⟩
  have hop : code_Opcode.f k W = some c.o := by
    rw [op_at k hk W hW, opF_of W c.o.toNat hh (by omega) (by omega) 40 0 rfl (by omega)]
    congr 1
    omega
  refine ⟨?_, hop⟩
  unfold code_Decode.f
  rw [hop, Option.bind_some, shape_at, Option.bind_some, decGo_at k (by omega) W (by omega) (by omega) _ _ _ hsz,
    puts_congr k (readP W) (valP c t) _ _ _ (fun p hp => read_of W p _ (hsz p hp) (hfit p hp).2 (hr p hp)),
    put_all k c mk t h (fun e => (hm e).2.2.2.2.2.2.2), Option.bind_some, if_pos rfl, hi, Option.bind_some, if_pos rfl]
end Go.Proofs.YtkpkkjbigndnoaaDoor.M
