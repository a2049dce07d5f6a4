/- A bit of no field (chapter 5): the Go law answers true for every word and number. -/
import Derived.Test.YtkpkkjbigndnoaaDoorMCodeH
import Derived.Test.YtkpkkjbigndnoaaDoorPx14
namespace Go.Proofs.YtkpkkjbigndnoaaDoor.Pure
open Go.RowKit Go.Proofs.YtkpkkjbigndnoaaDoor.P Go.Proofs.YtkpkkjbigndnoaaDoorW.PrintWords Go.Proofs.YtkpkkjbigndnoaaDoorW.PrintLast Go.Proofs.YtkpkkjbigndnoaaDoorW.PrintMore Go.Proofs.YtkpkkjbigndnoaaDoor.M
set_option linter.unusedVariables false
set_option linter.unusedSimpArgs false
theorem ref_shape_fin : ∀ n : Fin 40, cleatref04_Shape.f 1 ((n.val : Nat) : Int) = some ((shapeN ((n.val : Nat) : Int) : Nat) : Int) := by decide +kernel
theorem ref_shape_at (k : Nat) (hk : 1 ≤ k) (op : Int) : cleatref04_Shape.f k op = some ((shapeN op : Nat) : Int) := by
  by_cases h : 0 ≤ op ∧ op ≤ 39
  · obtain ⟨n, rfl⟩ := Int.eq_ofNat_of_zero_le h.1
    exact at_rounds (g := fun k => cleatref04_Shape.f k (n : Int)) (cleatref04_Shape.mono _) hk (ref_shape_fin ⟨n, by omega⟩)
  · have e : shapeN op = 0 := (shapeN_zero op).2 (by omega)
    rw [e]
    obtain ⟨k, rfl⟩ : ∃ m, k = m + 1 := ⟨k - 1, by omega⟩
    unfold cleatref04_Shape.f
    rw [Option.bind_some]
    by_cases h1 : op < 1
    · rw [if_pos h1]; simp only [cleatref04_Shape.j0]; rfl
    · rw [if_neg h1, decide_eq_true (show op > 39 by omega)]; simp only [cleatref04_Shape.j0]; rfl

def placesL (s : Nat) : List (Int × Int) := match s with
  | 1 => [(0, 5), (5, 16), (21, 2)]
  | 2 => [(0, 5), (5, 5), (10, 12), (22, 1)]
  | 3 => [(0, 5), (5, 5), (10, 6), (16, 6), (22, 1)]
  | 4 | 5 => [(0, 5), (5, 5), (10, 6), (16, 5), (22, 2)]
  | 6 => [(0, 5), (5, 5), (10, 5), (16, 5)]
  | 7 | 8 => [(0, 5), (5, 5), (10, 12)]
  | 9 => [(0, 5), (5, 19)]
  | 10 => [(0, 5), (5, 19), (29, 2)]
  | 11 => [(0, 26)]
  | 12 => [(0, 4), (5, 19)]
  | 13 => [(5, 5)]
  | 14 => [(5, 16)]
  | 16 => [(0, 5), (5, 5), (12, 4), (16, 5)]
  | _ => []
def flatP (L : List (Int × Int)) : List Value := L.flatMap fun p => [.int .i64 p.1, .int .i64 p.2]
def PlacesPost (s : Nat) (w : World) (e : Ending) (w' : World) : Prop :=
  Below w.heap.size w w' ∧ ((placesL s = [] ∧ e = .returned (.slice none 0 0)) ∨ (e = .returned (.slice (some ⟨w.heap.size, 0, none⟩) (placesL s).length (placesL s).length) ∧ w'.heap[w.heap.size]? = some (.cells (flatP (placesL s)).toArray 39 (0, 0))))
theorem top_ (w : World) (o : Obj) : (w.alloc o).heap[w.heap.size]? = some o := by
  show (w.heap.push o)[w.heap.size]? = some o
  simp
set_option maxHeartbeats 4000000 in
set_option maxRecDepth 100000 in
theorem places_calls (s : Nat) (hs : s ≤ 16) (w : World) : Calls Tryd.prog 16 #[.int .i64 s] w (PlacesPost s w) := by
  obtain ⟨n, rfl⟩ : ∃ n : Fin 17, s = n.val := ⟨⟨s, by omega⟩, rfl⟩
  clear hs
  match n with
  | ⟨0, _⟩ =>
    show Calls Tryd.prog 16 #[.int .i64 0] w (PlacesPost 0 w)
    generalize hQ : PlacesPost 0 w = Q
    go_enter Tryd.func16, Tryd.ntmps16
    go_wp2
    subst hQ
    exact ⟨Below.refl _ _, .inl ⟨rfl, rfl⟩⟩
  | ⟨1, _⟩ =>
    show Calls Tryd.prog 16 #[.int .i64 1] w (PlacesPost 1 w)
    generalize hQ : PlacesPost 1 w = Q
    go_enter Tryd.func16, Tryd.ntmps16
    go_wp2
    subst hQ
    exact ⟨below_alloc (Below.refl _ _) _, .inr ⟨rfl, top_ _ _⟩⟩
  | ⟨2, _⟩ =>
    show Calls Tryd.prog 16 #[.int .i64 2] w (PlacesPost 2 w)
    generalize hQ : PlacesPost 2 w = Q
    go_enter Tryd.func16, Tryd.ntmps16
    go_wp2
    subst hQ
    exact ⟨below_alloc (Below.refl _ _) _, .inr ⟨rfl, top_ _ _⟩⟩
  | ⟨3, _⟩ =>
    show Calls Tryd.prog 16 #[.int .i64 3] w (PlacesPost 3 w)
    generalize hQ : PlacesPost 3 w = Q
    go_enter Tryd.func16, Tryd.ntmps16
    go_wp2
    subst hQ
    exact ⟨below_alloc (Below.refl _ _) _, .inr ⟨rfl, top_ _ _⟩⟩
  | ⟨4, _⟩ =>
    show Calls Tryd.prog 16 #[.int .i64 4] w (PlacesPost 4 w)
    generalize hQ : PlacesPost 4 w = Q
    go_enter Tryd.func16, Tryd.ntmps16
    go_wp2
    subst hQ
    exact ⟨below_alloc (Below.refl _ _) _, .inr ⟨rfl, top_ _ _⟩⟩
  | ⟨5, _⟩ =>
    show Calls Tryd.prog 16 #[.int .i64 5] w (PlacesPost 5 w)
    generalize hQ : PlacesPost 5 w = Q
    go_enter Tryd.func16, Tryd.ntmps16
    go_wp2
    subst hQ
    exact ⟨below_alloc (Below.refl _ _) _, .inr ⟨rfl, top_ _ _⟩⟩
  | ⟨6, _⟩ =>
    show Calls Tryd.prog 16 #[.int .i64 6] w (PlacesPost 6 w)
    generalize hQ : PlacesPost 6 w = Q
    go_enter Tryd.func16, Tryd.ntmps16
    go_wp2
    subst hQ
    exact ⟨below_alloc (Below.refl _ _) _, .inr ⟨rfl, top_ _ _⟩⟩
  | ⟨7, _⟩ =>
    show Calls Tryd.prog 16 #[.int .i64 7] w (PlacesPost 7 w)
    generalize hQ : PlacesPost 7 w = Q
    go_enter Tryd.func16, Tryd.ntmps16
    go_wp2
    subst hQ
    exact ⟨below_alloc (Below.refl _ _) _, .inr ⟨rfl, top_ _ _⟩⟩
  | ⟨8, _⟩ =>
    show Calls Tryd.prog 16 #[.int .i64 8] w (PlacesPost 8 w)
    generalize hQ : PlacesPost 8 w = Q
    go_enter Tryd.func16, Tryd.ntmps16
    go_wp2
    subst hQ
    exact ⟨below_alloc (Below.refl _ _) _, .inr ⟨rfl, top_ _ _⟩⟩
  | ⟨9, _⟩ =>
    show Calls Tryd.prog 16 #[.int .i64 9] w (PlacesPost 9 w)
    generalize hQ : PlacesPost 9 w = Q
    go_enter Tryd.func16, Tryd.ntmps16
    go_wp2
    subst hQ
    exact ⟨below_alloc (Below.refl _ _) _, .inr ⟨rfl, top_ _ _⟩⟩
  | ⟨10, _⟩ =>
    show Calls Tryd.prog 16 #[.int .i64 10] w (PlacesPost 10 w)
    generalize hQ : PlacesPost 10 w = Q
    go_enter Tryd.func16, Tryd.ntmps16
    go_wp2
    subst hQ
    exact ⟨below_alloc (Below.refl _ _) _, .inr ⟨rfl, top_ _ _⟩⟩
  | ⟨11, _⟩ =>
    show Calls Tryd.prog 16 #[.int .i64 11] w (PlacesPost 11 w)
    generalize hQ : PlacesPost 11 w = Q
    go_enter Tryd.func16, Tryd.ntmps16
    go_wp2
    subst hQ
    exact ⟨below_alloc (Below.refl _ _) _, .inr ⟨rfl, top_ _ _⟩⟩
  | ⟨12, _⟩ =>
    show Calls Tryd.prog 16 #[.int .i64 12] w (PlacesPost 12 w)
    generalize hQ : PlacesPost 12 w = Q
    go_enter Tryd.func16, Tryd.ntmps16
    go_wp2
    subst hQ
    exact ⟨below_alloc (Below.refl _ _) _, .inr ⟨rfl, top_ _ _⟩⟩
  | ⟨13, _⟩ =>
    show Calls Tryd.prog 16 #[.int .i64 13] w (PlacesPost 13 w)
    generalize hQ : PlacesPost 13 w = Q
    go_enter Tryd.func16, Tryd.ntmps16
    go_wp2
    subst hQ
    exact ⟨below_alloc (Below.refl _ _) _, .inr ⟨rfl, top_ _ _⟩⟩
  | ⟨14, _⟩ =>
    show Calls Tryd.prog 16 #[.int .i64 14] w (PlacesPost 14 w)
    generalize hQ : PlacesPost 14 w = Q
    go_enter Tryd.func16, Tryd.ntmps16
    go_wp2
    subst hQ
    exact ⟨below_alloc (Below.refl _ _) _, .inr ⟨rfl, top_ _ _⟩⟩
  | ⟨15, _⟩ =>
    show Calls Tryd.prog 16 #[.int .i64 15] w (PlacesPost 15 w)
    generalize hQ : PlacesPost 15 w = Q
    go_enter Tryd.func16, Tryd.ntmps16
    go_wp2
    subst hQ
    exact ⟨Below.refl _ _, .inl ⟨rfl, rfl⟩⟩
  | ⟨16, _⟩ =>
    show Calls Tryd.prog 16 #[.int .i64 16] w (PlacesPost 16 w)
    generalize hQ : PlacesPost 16 w = Q
    go_enter Tryd.func16, Tryd.ntmps16
    go_wp2
    subst hQ
    exact ⟨below_alloc (Below.refl _ _) _, .inr ⟨rfl, top_ _ _⟩⟩
  | ⟨n + 17, h⟩ => exact absurd h (by omega)
theorem placesL_fin : ∀ s : Fin 17, (placesL s.val).length ≤ 5 ∧ ∀ p, p ∈ placesL s.val → 0 ≤ p.1 ∧ p.1 ≤ 40 ∧ 0 ≤ p.2 ∧ p.2 ≤ 40 := by decide +kernel
/-- Is a bit in one of the fields? -/
def inP (L : List (Int × Int)) (x : Int) : Bool := L.any fun p => decide (x ≥ p.1) && decide (x < p.1 + p.2)
theorem inP_at : ∀ s : Fin 17, ∀ i : Fin 32, inP (placesL s.val) ((i.val : Nat) : Int) = (tL.getD s.val 0).testBit i.val := by decide +kernel
def flipN (W a : Nat) : Nat := if W / 2 ^ a % 2 = 1 then W - 2 ^ a else W + 2 ^ a
theorem flip_bit (W a j : Nat) : (flipN W a).testBit j = if j = a then !W.testBit j else W.testBit j := by
  have hr : W % 2 ^ a < 2 ^ a := Nat.mod_lt _ (Nat.two_pow_pos a)
  have hW : W = 2 ^ a * (W / 2 ^ a) + W % 2 ^ a := (Nat.div_add_mod W (2 ^ a)).symm
  obtain ⟨A, hA⟩ : ∃ A, A = W / 2 ^ a := ⟨_, rfl⟩
  obtain ⟨r, hr2⟩ : ∃ r, r = W % 2 ^ a := ⟨_, rfl⟩
  rw [← hA, ← hr2] at hW
  rw [← hr2] at hr
  have hT : ∃ A', flipN W a = 2 ^ a * A' + r ∧ A' / 2 = A / 2 ∧ A' % 2 ≠ A % 2 := by
    unfold flipN
    rw [← hA]
    by_cases h : A % 2 = 1
    · rw [if_pos h]
      obtain ⟨B, rfl⟩ : ∃ B, A = B + 1 := ⟨A - 1, by omega⟩
      exact ⟨B, by rw [hW, Nat.mul_add]; omega, by omega, by omega⟩
    · rw [if_neg h]
      exact ⟨A + 1, by rw [hW, Nat.mul_add]; omega, by omega, by omega⟩
  obtain ⟨A', h1, h2, h3⟩ := hT
  rw [h1]
  conv => rhs; rw [hW]
  rw [Nat.testBit_two_pow_mul_add _ hr, Nat.testBit_two_pow_mul_add _ hr]
  by_cases hj : j < a
  · rw [if_pos hj, if_neg (by omega), if_pos hj]
  · rw [if_neg hj]
    by_cases he : j = a
    · subst he
      rw [if_pos rfl, if_neg hj, Nat.sub_self, Nat.testBit_zero, Nat.testBit_zero]
      rcases Nat.mod_two_eq_zero_or_one A with x | x <;> rcases Nat.mod_two_eq_zero_or_one A' with y | y <;> first | exact absurd (y.trans x.symm) h3 | (rw [x, y]; rfl)
    · rw [if_neg he, if_neg hj]
      obtain ⟨d, hd⟩ : ∃ d, j - a = d + 1 := ⟨j - a - 1, by omega⟩
      rw [hd, Nat.testBit_succ, Nat.testBit_succ, h2]
theorem flip_lt (W a : Nat) (ha : a < 32) (hW : W < 4294967296) : flipN W a < 4294967296 := by
  have : flipN W a < 2 ^ 32 := by
    apply Nat.lt_pow_two_of_testBit
    intro i hi
    rw [flip_bit, if_neg (by omega)]
    exact Nat.testBit_lt_two_pow (Nat.lt_of_lt_of_le (show W < 2 ^ 32 from hW) (Nat.pow_le_pow_right (by decide) hi))
  exact this
theorem turned_op (W a op : Nat) (ha : a < 32) (h : has W op) (o1 : 1 ≤ op) (o2 : op < 40) : (opF (flipN W a) 40 0 = op) ↔ (tL.getD (shp op) 0).testBit a = true := by
  have b4 := (base_fin ⟨op, o2⟩).2.2.2
  simp only at b4
  have ht := tL_lt ⟨shp op, by omega⟩
  simp only at ht
  constructor
  · intro he
    obtain ⟨-, -, h2⟩ := of_opF (flipN W a) 40 0 rfl (by omega)
    rw [he] at h2
    unfold has at h h2
    have e := congrArg (fun x => x.testBit a) (h2.trans h.symm)
    replace e : (flipN W a &&& (4294967295 - tL.getD (shp op) 0)).testBit a = (W &&& (4294967295 - tL.getD (shp op) 0)).testBit a := e
    rw [Nat.testBit_and, Nat.testBit_and, flip_bit, if_pos rfl, mask_bit _ _ ht ha] at e
    cases hb : (tL.getD (shp op) 0).testBit a with
    | true => rfl
    | false => rw [hb] at e; cases hw : W.testBit a <;> rw [hw] at e <;> simp at e
  · intro hb
    refine opF_of (flipN W a) op ?_ o1 o2 40 0 rfl (Nat.zero_le _)
    unfold has at h ⊢
    rw [← h]
    apply Nat.eq_of_testBit_eq
    intro i
    rw [Nat.testBit_and, Nat.testBit_and, flip_bit]
    by_cases hi : i = a
    · subst hi
      rw [mask_bit _ _ ht ha, hb]; simp
    · rw [if_neg hi]
theorem flip_fit (N a : Nat) (ha : a < 32) (hN : N < 4294967296) :
    (N / 2 ^ a % 2 = 1 → ((N : Int) - 2 ^ min a 32) % 4294967296 = ((flipN N a : Nat) : Int)) ∧ (N / 2 ^ a % 2 ≠ 1 → ((N : Int) + 2 ^ min a 32) % 4294967296 = ((flipN N a : Nat) : Int)) := by
  have hl := flip_lt N a ha hN
  have hp : 2 ^ a < 4294967296 := Nat.lt_of_lt_of_le (Nat.pow_lt_pow_right (by decide) ha) (by decide)
  have e : ((2 : Int) ^ min a 32) = ((2 ^ a : Nat) : Int) := by rw [Nat.min_eq_left (by omega)]; simp
  have hle : N / 2 ^ a % 2 = 1 → 2 ^ a ≤ N := fun h => by
    apply Classical.byContradiction
    intro hx
    rw [Nat.div_eq_of_lt (by omega)] at h
    exact absurd h (by decide)
  rw [e]
  refine ⟨fun h => ?_, fun h => ?_⟩
  · have hle := hle h
    unfold flipN at hl ⊢
    rw [if_pos h] at hl ⊢
    generalize 2 ^ a = P at *
    omega
  · unfold flipN at hl ⊢
    rw [if_neg h] at hl ⊢
    generalize 2 ^ a = P at *
    omega
theorem flat_get : ∀ (L : List (Int × Int)) (k : Nat) (p : Int × Int), L[k]? = some p → (flatP L)[2 * k]? = some (.int .i64 p.1) ∧ (flatP L)[2 * k + 1]? = some (.int .i64 p.2)
  | [], k, p, h => by simp at h
  | q :: L, 0, p, h => by
    obtain rfl : q = p := by simpa using h
    exact ⟨rfl, rfl⟩
  | q :: L, k + 1, p, h => by
    have ih := flat_get L k p (by simpa using h)
    exact ih
theorem take_snoc_ {α : Type} {l : List α} {i : Nat} {r : α} (h : l[i]? = some r) : l.take (i + 1) = l.take i ++ [r] := by
  rw [List.take_add_one, h]; rfl
theorem places_at (s : Nat) (hs : s ≤ 16) (w : World) : Calls Tryd.prog 16 #[.int .i64 s] w fun e w' => Below w.heap.size w w' ∧ ∃ (A : Option Addr) (b : Nat), e = .returned (.slice A (placesL s).length (placesL s).length) ∧
    ∀ (k : Nat) p, (placesL s)[k]? = some p → A = some ⟨b, 0, none⟩ ∧ w'.cell? ⟨b, 2 * k, none⟩ = some (.int .i64 p.1) ∧ w'.cell? ⟨b, 2 * k + 1, none⟩ = some (.int .i64 p.2) := by
  refine (places_calls s hs w).mono ?_
  rintro e w' ⟨hb, hp⟩
  refine ⟨hb, ?_⟩
  rcases hp with ⟨h1, h2⟩ | ⟨h1, h2⟩
  · exact ⟨none, 0, by rw [h1]; exact h2, fun k p hk => by rw [h1] at hk; simp at hk⟩
  · refine ⟨_, w.heap.size, h1, fun k p hk => ⟨rfl, ?_, ?_⟩⟩
    · rw [blk_cell h2]; simpa using (flat_get _ k p hk).1
    · rw [blk_cell h2]; simpa using (flat_get _ k p hk).2
set_option maxHeartbeats 8000000 in
set_option maxRecDepth 100000 in
theorem CodeBit_walk (a0 a1 : Int) (W : World) (w0 : (Lit.int .u32 a0).wf = true) (w1 : (Lit.int .i64 a1).wf = true) (hTab : TabW W) :
    Calls Tryd.prog 5 #[.int .u32 a0, .int .i64 a1] W fun e w' => e = .returned (.bool true) ∧ Below W.heap.size W w' := by
  have b0 : 0 ≤ a0 ∧ a0 < 4294967296 := by simp [Lit.wf, IntKind.min, IntKind.max, IntKind.bits, IntKind.signed] at w0; omega
  obtain ⟨N, rfl⟩ := Int.eq_ofNat_of_zero_le b0.1
  have hN : N < 4294967296 := by omega
  have hop := op_at 1000 (by decide) N hN
  have HOP := Aside0.mk (fun w => code_Opcode.calls 1000 (N : Int) _ w hop)
  have HCO := Aside0.mk (fun w (hb : Below W.heap.size W w) => cleatlaw05_coded.calls 1000 true w (coded_at 1000 (by decide)) (TabW.below hTab hb))
  have hf := field_spec (N : Int) a1 1 b0.1 b0.2
  have hgo := of_opF N 40 0 rfl
  obtain ⟨op, hope⟩ : ∃ op, op = opF N 40 0 := ⟨_, rfl⟩
  rw [← hope] at HOP hgo
  clear w0 w1 hTab b0
  by_cases h0 : op = 0 ∨ okI a1 1 = false
  · have HF := Aside0.mk (fun w => bits_Field.calls (N : Int) a1 1 (fieldV N a1 1).1 (fieldV N a1 1).2 w hf)
    have hd : op = 0 ∨ (op ≠ 0 ∧ (fieldV N a1 1).2 = 1) := by
      by_cases h : op = 0
      · exact .inl h
      · refine .inr ⟨h, ?_⟩
        unfold fieldV
        rw [if_neg (by rw [h0.resolve_left h]; decide)]
    generalize fieldV N a1 1 = q at *
    obtain ⟨q1, q2⟩ := q
    simp only at HF hd
    clear h0 hf hop
    rcases hd with rfl | ⟨hne, rfl⟩
    · clear hgo hope
      go_enter Tryd.func5, Tryd.ntmps5
      go_wp2_with fail
      refine (HOP.out _).mono ?_
      rintro e w1 ⟨rfl, hb⟩
      have HB1 := Aside0.mk hb
      clear hb
      go_wp2_with fail
      refine (HF.out _).mono ?_
      rintro e w2 ⟨rfl, ⟨n2, rfl⟩⟩
      go_wp2_with fail
      refine (HCO.out _ (pw_below_drewN HB1.out _)).mono ?_
      rintro e w3 ⟨rfl, hb⟩
      have HB3 := Aside0.mk (below_step (pw_below_drewN HB1.out n2) hb)
      clear hb
      go_wp2
      go_ret
      exact ⟨rfl, HB3.out⟩
    · obtain ⟨o1, o2, -⟩ := hgo hne
      have g0 : ((op : Nat) : Int) ≠ 0 := by omega
      have d1 : decide (((op : Nat) : Int) < 1) = false := decide_eq_false (by omega)
      have d2 : decide (((op : Nat) : Int) > 39) = false := decide_eq_false (by omega)
      have d3 : (((op : Nat) : Int) == 0) = false := by simpa using hne
      clear hgo hope hne o1 o2
      generalize ((op : Nat) : Int) = o at *
      clear g0
      go_enter Tryd.func5, Tryd.ntmps5
      go_wp2_with fail
      refine (HOP.out _).mono ?_
      rintro e w1 ⟨rfl, hb⟩
      have HB1 := Aside0.mk hb
      clear hb
      go_wp2_with fail
      refine (HF.out _).mono ?_
      rintro e w2 ⟨rfl, ⟨n2, rfl⟩⟩
      go_wp2_with fail
      refine (HCO.out _ (pw_below_drewN HB1.out _)).mono ?_
      rintro e w3 ⟨rfl, hb⟩
      have HB3 := Aside0.mk (below_step (pw_below_drewN HB1.out n2) hb)
      clear hb
      go_wp2_with fail
      refine (HCO.out _ HB3.out).mono ?_
      rintro e w4 ⟨rfl, hb⟩
      have HB4 := Aside0.mk (below_step HB3.out hb)
      clear hb
      go_wp2
      go_ret
      exact ⟨rfl, HB4.out⟩
  · have hne : op ≠ 0 := fun h => h0 (.inl h)
    have hok : okI a1 1 = true := by cases h : okI a1 1 with | true => rfl | false => exact absurd (.inr h) h0
    obtain ⟨o1, o2, hhas⟩ := hgo hne
    obtain ⟨a, M1, rfl, hM1, ha, -, -⟩ := okI_nat a1 1 hok
    have hfv : fieldV (N : Int) (a : Int) 1 = (((N / 2 ^ a % 2 : Nat) : Int), 0) := by
      unfold fieldV
      rw [if_pos hok, Int.toNat_natCast]
      simp
    rw [hfv] at hf
    have HF := Aside0.mk (fun w => bits_Field.calls (N : Int) a 1 _ _ w hf)
    obtain ⟨b1, b2, b3, b4⟩ := base_fin ⟨op, o2⟩
    simp only at b4
    have hsh := ref_shape_at 1000 (by decide) ((op : Nat) : Int)
    rw [shapeN_at op o1 o2] at hsh
    have HSH := Aside0.mk (fun w => cleatref04_Shape.calls 1000 _ _ w hsh)
    have HPL := Aside0.mk (fun w => places_at (shp op) b4 w)
    have hinp : inP (placesL (shp op)) (a : Int) = (tL.getD (shp op) 0).testBit a := inP_at ⟨shp op, by omega⟩ ⟨a, by omega⟩
    have hto := turned_op N a op (by omega) hhas o1 o2
    have hop2 := op_at 1000 (by decide) (flipN N a) (flip_lt N a (by omega) hN)
    have HOP2 := Aside0.mk (fun w => code_Opcode.calls 1000 _ _ w hop2)
    have hin : ((((opF (flipN N a) 40 0 : Nat) : Int) == ((op : Nat) : Int)) == inP (placesL (shp op)) (a : Int)) = true := by
      rw [hinp]
      cases hb : (tL.getD (shp op) 0).testBit a with
      | true => rw [hto.2 hb]; simp
      | false =>
        have : opF (flipN N a) 40 0 ≠ op := fun e => by rw [hto.1 e] at hb; cases hb
        simp; omega
    obtain ⟨hp2, hp3⟩ := flip_fit N a (by omega) hN
    have hpl := placesL_fin ⟨shp op, by omega⟩
    simp only at hpl
    have HLP := Aside0.mk hpl
    have HIN := Aside0.mk hin
    have d1 : decide (((op : Nat) : Int) < 1) = false := decide_eq_false (by omega)
    have d2 : decide (((op : Nat) : Int) > 39) = false := decide_eq_false (by omega)
    have d3 : decide ((a : Int) < 0) = false := decide_eq_false (by omega)
    have HA := Aside0.mk ha
    clear h0 hne hok hgo hope hhas hop hf hfv b1 b2 b3 b4 hsh hinp hto hop2 hin hpl o1 o2 ha hM1
    generalize placesL (shp op) = L at *
    generalize ((opF (flipN N a) 40 0 : Nat) : Int) = o2 at *
    generalize ((shp op : Nat) : Int) = sh at *
    generalize ((op : Nat) : Int) = o at *
    generalize ((flipN N a : Nat) : Int) = T at *
    generalize hbit : N / 2 ^ a % 2 = bit at *
    have hbb : bit = 0 ∨ bit = 1 := by omega
    clear hbit hN
    rcases hbb with rfl | rfl
    · have e1 := hp3 (by decide)
      clear hp2 hp3
      go_enter Tryd.func5, Tryd.ntmps5
      go_wp2_with fail
      refine (HOP.out _).mono ?_
      rintro e w1 ⟨rfl, hb⟩
      have HB1 := Aside0.mk hb
      clear hb
      go_wp2_with fail
      refine (HF.out _).mono ?_
      rintro e w2 ⟨rfl, ⟨n2, rfl⟩⟩
      go_wp2_with fail
      refine (HSH.out _).mono ?_
      rintro e w3 ⟨rfl, hb⟩
      have HB3 := Aside0.mk (below_step (pw_below_drewN HB1.out n2) hb)
      clear hb
      go_wp2_with fail
      refine (HPL.out _).mono ?_
      rintro e w4 ⟨hb, A, b, rfl, hcell⟩
      have HB4 := Aside0.mk (below_step HB3.out hb)
      have HCELL := Aside0.mk hcell
      clear hb hcell
      go_wp2_with fail
      go_loopg [9, 11] L.length (fun kq v9 v11 wr => ∃ k : Nat, v9 = .bool (inP (L.take k) (a : Int)) ∧ v11 = .int .i64 (k : Int) ∧ k + kq = L.length ∧ Aside0 (Below W.heap.size W wr) ∧ Aside0 (Below w4.heap.size w4 wr))
      case atStart => exact ⟨0, rfl, rfl, by omega, ⟨HB4.out⟩, ⟨Below.refl _ _⟩⟩
      case round =>
        obtain ⟨k, rfl, rfl, hik, HB, HBw⟩ := hrel
        cases gk with
        | zero =>
          obtain rfl : k = L.length := by omega
          clear hik
          rw [List.take_length]
          have hin := HIN.out
          generalize inP L (a : Int) = q at *
          go_wp2_with fail
          refine (HCO.out _ HB.out).mono ?_
          rintro e w5 ⟨rfl, hb⟩
          have HB5 := Aside0.mk (below_step HB.out hb)
          clear hb
          go_wp2_with fail
          refine (HOP2.out _).mono ?_
          rintro e w6 ⟨rfl, hb⟩
          have HB6 := Aside0.mk (below_step HB5.out hb)
          clear hb
          go_wp2
          go_ret
          exact ⟨rfl, HB6.out⟩
        | succ kq =>
          have hkl : k < L.length := by omega
          have hl5 := HLP.out.1
          have e2 : wrap64 ((k : Int) + 1) = ((k + 1 : Nat) : Int) := by unfold wrap64; omega
          obtain ⟨p, hp⟩ : ∃ p, L[k]? = some p := ⟨_, List.getElem?_eq_getElem hkl⟩
          obtain ⟨rfl, c1, c2⟩ := HCELL.out k p hp
          have c1 := pw_cell_below HBw.out c1
          have c2 := pw_cell_below HBw.out c2
          have hr := HLP.out.2 p (List.mem_of_getElem? hp)
          obtain ⟨p1, p2⟩ := p
          simp only [Nat.mul_comm 2 k] at c1 c2 hr
          have e3 : wrap64 (p1 + p2) = p1 + p2 := by unfold wrap64; omega
          have ht : inP (L.take (k + 1)) (a : Int) = (inP (L.take k) (a : Int) || (decide ((a : Int) ≥ p1) && decide ((a : Int) < p1 + p2))) := by
            unfold inP
            rw [take_snoc_ hp, List.any_append]
            simp
          have HT := Aside0.mk ht
          clear ht hr hp hl5
          generalize inP (L.take k) (a : Int) = q at *
          cases q with
          | true =>
            go_wp2_with fail
            go_quiet (fail)
            go_wp2
            go_roundg kq
            case measure => omega
            case rel => exact ⟨k + 1, by rw [HT.out]; simp [*], by rw [e2], by omega, ⟨pw_below_drewN HB.out _⟩, ⟨pw_below_drewN HBw.out _⟩⟩
          | false =>
            by_cases hge : (a : Int) ≥ p1
            · have g1 : decide ((a : Int) ≥ p1) = true := decide_eq_true hge
              go_wp2_with fail
              go_quiet (fail)
              go_wp2
              go_roundg kq
              case measure => omega
              case rel => exact ⟨k + 1, by rw [HT.out]; simp [*], by rw [e2], by omega, ⟨pw_below_drewN HB.out _⟩, ⟨pw_below_drewN HBw.out _⟩⟩
            · have g1 : decide ((a : Int) ≥ p1) = false := decide_eq_false hge
              go_wp2_with fail
              go_quiet (fail)
              go_wp2
              go_roundg kq
              case measure => omega
              case rel => exact ⟨k + 1, by rw [HT.out]; simp [*], by rw [e2], by omega, ⟨pw_below_drewN HB.out _⟩, ⟨pw_below_drewN HBw.out _⟩⟩
    · have e1 := hp2 rfl
      clear hp2 hp3
      go_enter Tryd.func5, Tryd.ntmps5
      go_wp2_with fail
      refine (HOP.out _).mono ?_
      rintro e w1 ⟨rfl, hb⟩
      have HB1 := Aside0.mk hb
      clear hb
      go_wp2_with fail
      refine (HF.out _).mono ?_
      rintro e w2 ⟨rfl, ⟨n2, rfl⟩⟩
      go_wp2_with fail
      refine (HSH.out _).mono ?_
      rintro e w3 ⟨rfl, hb⟩
      have HB3 := Aside0.mk (below_step (pw_below_drewN HB1.out n2) hb)
      clear hb
      go_wp2_with fail
      refine (HPL.out _).mono ?_
      rintro e w4 ⟨hb, A, b, rfl, hcell⟩
      have HB4 := Aside0.mk (below_step HB3.out hb)
      have HCELL := Aside0.mk hcell
      clear hb hcell
      go_wp2_with fail
      go_loopg [9, 11] L.length (fun kq v9 v11 wr => ∃ k : Nat, v9 = .bool (inP (L.take k) (a : Int)) ∧ v11 = .int .i64 (k : Int) ∧ k + kq = L.length ∧ Aside0 (Below W.heap.size W wr) ∧ Aside0 (Below w4.heap.size w4 wr))
      case atStart => exact ⟨0, rfl, rfl, by omega, ⟨HB4.out⟩, ⟨Below.refl _ _⟩⟩
      case round =>
        obtain ⟨k, rfl, rfl, hik, HB, HBw⟩ := hrel
        cases gk with
        | zero =>
          obtain rfl : k = L.length := by omega
          clear hik
          rw [List.take_length]
          have hin := HIN.out
          generalize inP L (a : Int) = q at *
          go_wp2_with fail
          refine (HCO.out _ HB.out).mono ?_
          rintro e w5 ⟨rfl, hb⟩
          have HB5 := Aside0.mk (below_step HB.out hb)
          clear hb
          go_wp2_with fail
          refine (HOP2.out _).mono ?_
          rintro e w6 ⟨rfl, hb⟩
          have HB6 := Aside0.mk (below_step HB5.out hb)
          clear hb
          go_wp2
          go_ret
          exact ⟨rfl, HB6.out⟩
        | succ kq =>
          have hkl : k < L.length := by omega
          have hl5 := HLP.out.1
          have e2 : wrap64 ((k : Int) + 1) = ((k + 1 : Nat) : Int) := by unfold wrap64; omega
          obtain ⟨p, hp⟩ : ∃ p, L[k]? = some p := ⟨_, List.getElem?_eq_getElem hkl⟩
          obtain ⟨rfl, c1, c2⟩ := HCELL.out k p hp
          have c1 := pw_cell_below HBw.out c1
          have c2 := pw_cell_below HBw.out c2
          have hr := HLP.out.2 p (List.mem_of_getElem? hp)
          obtain ⟨p1, p2⟩ := p
          simp only [Nat.mul_comm 2 k] at c1 c2 hr
          have e3 : wrap64 (p1 + p2) = p1 + p2 := by unfold wrap64; omega
          have ht : inP (L.take (k + 1)) (a : Int) = (inP (L.take k) (a : Int) || (decide ((a : Int) ≥ p1) && decide ((a : Int) < p1 + p2))) := by
            unfold inP
            rw [take_snoc_ hp, List.any_append]
            simp
          have HT := Aside0.mk ht
          clear ht hr hp hl5
          generalize inP (L.take k) (a : Int) = q at *
          cases q with
          | true =>
            go_wp2_with fail
            go_quiet (fail)
            go_wp2
            go_roundg kq
            case measure => omega
            case rel => exact ⟨k + 1, by rw [HT.out]; simp [*], by rw [e2], by omega, ⟨pw_below_drewN HB.out _⟩, ⟨pw_below_drewN HBw.out _⟩⟩
          | false =>
            by_cases hge : (a : Int) ≥ p1
            · have g1 : decide ((a : Int) ≥ p1) = true := decide_eq_true hge
              go_wp2_with fail
              go_quiet (fail)
              go_wp2
              go_roundg kq
              case measure => omega
              case rel => exact ⟨k + 1, by rw [HT.out]; simp [*], by rw [e2], by omega, ⟨pw_below_drewN HB.out _⟩, ⟨pw_below_drewN HBw.out _⟩⟩
            · have g1 : decide ((a : Int) ≥ p1) = false := decide_eq_false hge
              go_wp2_with fail
              go_quiet (fail)
              go_wp2
              go_roundg kq
              case measure => omega
              case rel => exact ⟨k + 1, by rw [HT.out]; simp [*], by rw [e2], by omega, ⟨pw_below_drewN HB.out _⟩, ⟨pw_below_drewN HBw.out _⟩⟩
end Go.Proofs.YtkpkkjbigndnoaaDoor.Pure
