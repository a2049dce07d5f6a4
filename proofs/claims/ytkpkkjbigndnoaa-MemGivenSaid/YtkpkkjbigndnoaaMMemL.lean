/- A memory's deeds (chapter 7): what is stored is loaded; parts that lie apart. No program in sight. -/
import Derived.Test.YtkpkkjbigndnoaaMMemO
namespace Go.Proofs.Ytkpkkjbigndnoaa.MW
open Go.RowKit Go.Proofs.Ytkpkkjbigndnoaa.P Go.Proofs.YtkpkkjbigndnoaaW.PrintWords Go.Proofs.YtkpkkjbigndnoaaW.PrintLast Go.Proofs.YtkpkkjbigndnoaaW.PrintMore
set_option linter.unusedVariables false
set_option linter.unusedSimpArgs false
theorem mfind_same (at_ n : Int) : ∀ (L L' : List MP), L.length = L'.length → (∀ (i : Nat) p q, L[i]? = some p → L'[i]? = some q → (p.has at_ n ↔ q.has at_ n)) → mfind at_ n L = mfind at_ n L'
  | [], [], _, _ => rfl
  | [], _ :: _, h, _ => by simp at h
  | _ :: _, [], h, _ => by simp at h
  | p :: ps, q :: qs, h, hh => by
    unfold mfind
    have h0 := hh 0 p q rfl rfl
    have ih := mfind_same at_ n ps qs (by simpa using h) (fun i x y hx hy => hh (i + 1) x y (by simpa using hx) (by simpa using hy))
    by_cases hp : p.has at_ n
    · rw [if_pos hp, if_pos (h0.1 hp)]
    · rw [if_neg hp, if_neg (fun e => hp (h0.2 e)), ih]
theorem mat_set {L : List MP} {i : Nat} {p : MP} (hp : L[i]? = some p) (d : List Int) (hd : d.length = p.d.length) (at_ n : Int) :
    mat_ (L.set i { p with d := d }) at_ n = (mat_ L at_ n).map fun q => (q.1, if q.1 = i then { p with d := d } else q.2) := by
  unfold mat_
  have hf : mfind at_ n (L.set i { p with d := d }) = mfind at_ n L := by
    refine mfind_same at_ n _ _ (by rw [List.length_set]) (fun j x y hx hy => ?_)
    rw [List.getElem?_set] at hx
    by_cases hij : i = j
    · subst hij
      rw [if_pos rfl, if_pos (List.getElem?_eq_some_iff.1 hp).1] at hx
      obtain rfl := Option.some.inj hx
      rw [hp] at hy
      obtain rfl := Option.some.inj hy
      unfold MP.has
      simp only [hd]
    · rw [if_neg hij] at hx
      rw [hx] at hy
      obtain rfl := Option.some.inj hy
      exact Iff.rfl
  rw [hf]
  cases hm : mfind at_ n L with
  | none => rfl
  | some j =>
    simp only [Option.bind_some]
    rw [List.getElem?_set]
    by_cases hij : i = j
    · subst hij
      rw [if_pos rfl, if_pos (List.getElem?_eq_some_iff.1 hp).1, hp]
      simp
    · rw [if_neg hij]
      cases hj : L[j]? with
      | none => rfl
      | some q => simp [show ¬ j = i from fun e => hij e.symm]
theorem cut_one (p : MP) (at_ : Int) (h : (at_ - p.a).toNat < p.d.length) : leV (mcut p at_ 1) = p.d.getD (at_ - p.a).toNat 0 := by
  unfold mcut
  rw [List.drop_eq_getElem_cons h]
  show p.d[(at_ - p.a).toNat] + 256 * 0 = _
  simp only [List.getD, List.getElem?_eq_getElem h, Option.getD_some]
  omega
theorem leV_leB : ∀ (n : Nat) (v : Int), 0 ≤ v → leV (leB v n) = v % 256 ^ n
  | 0, v, h => by simp [leB, leV]
  | n + 1, v, h => by
    rw [leB, leV, leV_leB n (v / 256) (by omega)]
    obtain ⟨V, rfl⟩ := Int.eq_ofNat_of_zero_le h
    have := Nat.mod_mul (x := V) (a := 256) (b := 256 ^ n)
    rw [Int.pow_succ, Int.mul_comm (256 ^ n) 256]
    have e : (((256 * 256 ^ n : Nat)) : Int) = 256 * 256 ^ n := by simp
    have e2 : (((256 ^ n : Nat)) : Int) = 256 ^ n := by simp
    rw [← e, ← e2, show (V : Int) / 256 = ((V / 256 : Nat) : Int) by omega, ← Int.natCast_emod, ← Int.natCast_emod, this]
    generalize V / 256 % 256 ^ n = z
    omega
theorem cut_set (p : MP) (at_ : Int) (bs : List Int) (h : (at_ - p.a).toNat + bs.length ≤ p.d.length) : mcut { p with d := setB p.d (at_ - p.a).toNat bs } at_ bs.length = bs := by
  unfold mcut setB
  simp only
  rw [List.append_assoc, List.drop_append_of_le_length (by rw [List.length_take]; omega), List.drop_eq_nil_of_le (by rw [List.length_take]; omega), List.nil_append, List.take_left]
theorem stores_pure (L : List MP) (at_ n v other : Int) (a0 : 0 ≤ at_) (o0 : 0 ≤ other) (v0 : 0 ≤ v) (v1 : v < 18446744073709551616) :
    (mload L other 1).2 = (mload (mstore L at_ n v).2 other 1).2 ∧ ((mstore L at_ n v).1 ≠ 0 → (mload L other 1).1 = (mload (mstore L at_ n v).2 other 1).1) ∧
    ((mstore L at_ n v).1 = 0 → (n = 1 ∨ n = 8) ∧ (mload (mstore L at_ n v).2 at_ n).2 = 0 ∧ (mload (mstore L at_ n v).2 at_ n).1 = (if n = 1 then v % 256 else v) ∧ ((at_ ≤ other ∧ other - at_ < n) ∨ (mload L other 1).1 = (mload (mstore L at_ n v).2 other 1).1)) := by
  unfold mstore
  by_cases hn : n = 1 ∨ n = 8
  · rw [if_pos hn]
    cases ha : mat_ L at_ n with
    | none => exact ⟨rfl, fun _ => rfl, fun h => absurd (show (4 : Int) = 0 from h) (by decide)⟩
    | some q =>
      obtain ⟨i, p⟩ := q
      obtain ⟨h2, h3, h4⟩ := mat_some ha
      simp only at h2 h3 ⊢
      by_cases hk : p.k = 3
      · simp only [if_pos hk]
        obtain ⟨x1, x2, x3⟩ := h3
        have hlb := leB_length n.toNat v
        have hlen := setB_length p.d (at_ - p.a).toNat (leB v n.toNat) (by rw [hlb]; omega)
        have hms := fun at2 n2 => mat_set h2 (setB p.d (at_ - p.a).toNat (leB v n.toNat)) hlen at2 n2
        refine ⟨?_, fun h => absurd rfl h, fun _ => ⟨hn, ?_, ?_, ?_⟩⟩
        · unfold mload
          rw [if_pos (.inl rfl), if_pos (.inl rfl), hms]
          cases mat_ L other 1 <;> rfl
        · unfold mload
          rw [if_pos hn, hms, ha]
          rfl
        · unfold mload
          rw [if_pos hn, hms, ha]
          simp only [Option.map_some, if_true]
          have hc := cut_set p at_ (leB v n.toNat) (by rw [hlb]; omega)
          rw [hlb] at hc
          rw [hc, leV_leB _ _ v0]
          rcases hn with rfl | rfl
          · rfl
          · rw [if_neg (by decide)]
            show v % 18446744073709551616 = v
            omega
        · unfold mload
          rw [if_pos (.inl rfl), if_pos (.inl rfl), hms]
          cases hb : mat_ L other 1 with
          | none => exact .inr rfl
          | some q2 =>
            obtain ⟨j, q⟩ := q2
            obtain ⟨g2, g3, g4⟩ := mat_some hb
            simp only at g2 g3
            simp only [Option.map_some]
            by_cases hji : j = i
            · subst hji
              rw [h2] at g2
              obtain rfl := Option.some.inj g2
              obtain ⟨y1, y2, y3⟩ := g3
              by_cases hin : at_ ≤ other ∧ other - at_ < n
              · exact .inl hin
              · right
                rw [if_pos rfl]
                have e1 : (1 : Int).toNat = 1 := rfl
                rw [e1, cut_one p other (by omega), cut_one _ other (by simp only [hlen]; omega)]
                simp only [List.getD, setB_get p.d _ (leB v n.toNat) (show (at_ - p.a).toNat + (leB v n.toNat).length ≤ p.d.length by rw [hlb]; omega), hlb]
                by_cases hlt : (other - p.a).toNat < (at_ - p.a).toNat
                · rw [if_pos hlt]
                · rw [if_neg hlt, if_neg (by omega)]
            · rw [if_neg hji]
              exact .inr rfl
      · simp only [if_neg hk]
        exact ⟨trivial, fun _ => trivial, fun h => absurd (show (10 : Int) = 0 from h) (by decide)⟩
  · rw [if_neg hn]
    exact ⟨rfl, fun _ => rfl, fun h => absurd (show (1 : Int) = 0 from h) (by decide)⟩
end Go.Proofs.Ytkpkkjbigndnoaa.MW
