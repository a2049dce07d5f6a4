/- Written for this claim by a program of this session (drive.py, over the print of the kit): Lean functions with the answers of Go functions, and the proofs that the Go code comes to these answers, under no condition but the readings of the arguments that each theorem names. -/
import Derived.Test.YtkpkkjbigndnoaaDoorPx0
import Derived.Test.YtkpkkjbigndnoaaDoorPx3
import Derived.Test.YtkpkkjbigndnoaaDoorPx6
import Derived.Test.YtkpkkjbigndnoaaDoorPx8
import Derived.Test.YtkpkkjbigndnoaaDoorPx9
import Derived.Test.YtkpkkjbigndnoaaDoorPx10
namespace Go.Proofs.YtkpkkjbigndnoaaDoor.P
open Go.RowKit Go.Proofs.YtkpkkjbigndnoaaDoorW.PrintWords Go.Proofs.YtkpkkjbigndnoaaDoorW.PrintLast Go.Proofs.YtkpkkjbigndnoaaDoorW.PrintMore
attribute [local go_sem] max2_int min2_int max_two min_two max_three min_three max_four min_four   -- for this text's walks alone
set_option linter.unusedVariables false
set_option linter.unusedSimpArgs false

/-! ### code_Opcode: function 14 -/
/-- The fields of a shape, all their bits 1. -/
def onesL (ps : List PD) : List S60 := ps.map fun p => ⟨p.at_, p.n_, IntKind.u32.wrap (IntKind.u32.wrap (2 ^ p.n_.toNat) - 1)⟩
def opGo (k : Nat) (w : Int) : Nat → Nat → Option Int
  | 0, _ => some 0
  | d + 1, i => (inst_Shape.f i).bind fun s => if i = 0 then opGo k w d (i + 1) else (code_over.f k 0 (onesL (partsOf s))).bind fun m => if Go.bits .andNot .u32 w m = baseL.getD i 0 then some i else opGo k w d (i + 1)
def code_Opcode.f (k : Nat) (w : Int) : Option Int := opGo k w 40 0
theorem opGo_mono (w : Int) (k : Nat) : ∀ d i, LeO (opGo k w d i) (opGo (k + 1) w d i)
  | 0, _ => LeO.refl _
  | d + 1, i => LeO.bind (LeO.refl _) (fun s => LeO.ite (opGo_mono w k d (i + 1)) (LeO.bind (code_over.mono _ _ k) (fun m => LeO.ite (LeO.refl _) (opGo_mono w k d (i + 1)))))
theorem code_Opcode.mono : ∀ w k, LeO (code_Opcode.f k w) (code_Opcode.f (k + 1) w) := fun w k => opGo_mono w k 40 0
def okN (l : List PD) : Bool := l.all fun p => decide (0 ≤ p.n_ ∧ p.n_ ≤ 26)
theorem ite_okN {c : Prop} [Decidable c] {a b : List PD} (ha : okN a = true) (hb : okN b = true) : okN (if c then a else b) = true := by
  by_cases h : c
  · rw [if_pos h]; exact ha
  · rw [if_neg h]; exact hb
theorem parts_okN (s : Int) : okN (partsOf s) = true := by
  unfold partsOf
  repeat (refine ite_okN (by decide) ?_)
  decide
theorem parts_n {s : Int} {p : PD} (h : p ∈ partsOf s) : 0 ≤ p.n_ ∧ p.n_ ≤ 26 := of_decide_eq_true (List.all_eq_true.1 (parts_okN s) p h)
set_option maxHeartbeats 16000000 in
set_option maxRecDepth 100000 in
theorem code_Opcode.calls (k : Nat) (a0 r : Int) (w : World) (h : code_Opcode.f k a0 = some r) :
    Calls Tryd.prog 14 #[.int .u32 a0] w fun e w' => e = .returned (.int .i64 r) ∧ Below w.heap.size w w' := by
  have H := Aside0.mk h
  clear h
  go_enter Tryd.func14, Tryd.ntmps14
  go_wp2_with (go_at_call 28; refine (code_bases.calls _).mono ?_; rintro e w1 ⟨rfl, hb1⟩; have HB1 := Aside0.mk hb1; clear hb1)
  go_loopg [9] 40 (fun kq v9 wr => ∃ i : Nat, v9 = .int .i64 (i : Int) ∧ i + kq = 40 ∧ Aside0 (opGo k a0 kq i = some r) ∧ Aside0 (Below w.heap.size w wr))
  case atStart => exact ⟨0, rfl, rfl, H, HB1⟩
  case round =>
    clear H
    obtain ⟨i, rfl, hik, HG, HW⟩ := hrel
    cases gk with
    | zero =>
      obtain rfl : i = 40 := by omega
      have hG := HG.out
      injection hG with hG
      subst hG
      go_wp2
      go_ret
      exact ⟨rfl, HW.out⟩
    | succ kq =>
      have hi : i < 40 := by omega
      have HIK := Aside0.mk hik
      have hG := HG.out
      clear hik HG
      obtain ⟨s, hs, hG⟩ := Option.bind_eq_some_iff.mp hG
      have HS := Aside0.mk hs
      have HG := Aside0.mk hG
      clear hs hG
      have hidx := base_index i hi
      obtain ⟨wo, rfl⟩ : ∃ wo : World, wo = wr := ⟨_, rfl⟩
      go_wp2_with (first | (go_at_call 18; refine (inst_Shape.calls _ _ _ HS.out).mono ?_; rintro e w2 ⟨rfl, hb2⟩; have HB2 := Aside0.mk (below_step HW.out hb2); clear hb2) | (go_at_call 25; refine (code_parts.calls s w.heap.size _ HB2.out.size).mono ?_; rintro e w3 ⟨A, T, R, cap, rfl, hp⟩; have HP := Aside0.mk hp; have HB3 := Aside0.mk (below_step HB2.out hp.below); clear hp))
      clear hidx
      have hHP := HP.out
      have HN := Aside0.mk hHP.addr
      have HPN := Aside0.mk (fun p (hp : p ∈ partsOf s) => parts_n hp)
      have HL5 := Aside0.mk (parts_len s)
      clear hHP
      have HROW := Aside0.mk HP.out.row
      clear HP
      generalize partsOf s = pds at *
      go_loopg [5, 17] pds.length (fun kj v5 v17 wr => ∃ (j : Nat) (xs : List S60), v17 = .int .i64 (j : Int) ∧ j + kj = pds.length ∧ Aside0 (xs = onesL (pds.take j)) ∧ Aside0 (Kd.R k60 60 wr w3.heap.size (fun _ => True) v5 xs) ∧ Aside0 (Below w3.heap.size w3 wr))
      case atStart => exact ⟨0, [], rfl, by omega, ⟨rfl⟩, ⟨Kd.R_nil _ _ _ _ _⟩, ⟨Below.refl _ _⟩⟩
      case round =>
        obtain ⟨j, xs, rfl, hjk, HX, HR, HWi⟩ := hrel
        cases gk with
        | zero =>
          obtain rfl : j = pds.length := by omega
          have hX := HX.out
          rw [List.take_length] at hX
          subst hX
          obtain ⟨Ar, cr, rfl, hlr, hCr⟩ := Kd.R_reads HR.out
          have HBW := Aside0.mk (below_step HB3.out HWi.out)
          have hG := HG.out
          by_cases h0 : i = 0
          · rw [if_pos h0] at hG
            have h00 : ¬ (0 : Int) < (i : Int) := by omega
            have HG2 := Aside0.mk hG
            clear hG HG
            go_wp2
            go_roundg kq
            case measure => omega
            case rel => exact ⟨i + 1, by (first | go_num | (subst h0; rfl)), by have := HIK.out; omega, HG2, HBW⟩
          · rw [if_neg h0] at hG
            obtain ⟨m, hm, hG⟩ := Option.bind_eq_some_iff.mp hG
            have HM := Aside0.mk hm
            have h00 : (0 : Int) < (i : Int) := by omega
            by_cases heq : Go.bits .andNot .u32 a0 m = baseL.getD i 0
            · rw [if_pos heq] at hG
              injection hG with hG
              subst hG
              have heq1 : (Go.bits .andNot .u32 a0 m == baseL[i]?.getD 0) = true := by simpa using heq
              clear heq hm HG
              go_wp2_with (go_at_call 27; refine (code_over.calls k _ _ _ _ _ _ hCr hlr HM.out).mono ?_; rintro e w5 ⟨rfl, hb5⟩; have HB5 := Aside0.mk (below_step HBW.out hb5); clear hb5)
              go_ret
              exact ⟨rfl, HB5.out⟩
            · rw [if_neg heq] at hG
              have HG2 := Aside0.mk hG
              have heq1 : (Go.bits .andNot .u32 a0 m == baseL[i]?.getD 0) = false := by simpa using heq
              clear heq hG hm HG
              go_wp2_with (go_at_call 27; refine (code_over.calls k _ _ _ _ _ _ hCr hlr HM.out).mono ?_; rintro e w5 ⟨rfl, hb5⟩; have HB5 := Aside0.mk (below_step HBW.out hb5); clear hb5)
              go_roundg kq
              case measure => omega
              case rel => exact ⟨i + 1, by go_num, by have := HIK.out; omega, HG2, HB5⟩
        | succ kj =>
          have hj : j < pds.length := by omega
          have HJK := Aside0.mk hjk
          obtain ⟨p, hp⟩ : ∃ p, pds[j]? = some p := ⟨pds[j], List.getElem?_eq_getElem hj⟩
          have hA := HN.out (by intro e; rw [e] at hj; simp at hj)
          subst hA
          obtain ⟨q, hq⟩ := HROW.out.get hp
          have hq := hq.below HWi.out
          rw [show 0 + 5 * j = j * 5 by omega] at hq
          obtain ⟨c0, c1, c2, c3, c4, hok⟩ := hq
          have hn := HPN.out p (List.mem_of_getElem? hp)
          obtain ⟨hn0, hn1⟩ := hn
          have HPJ := Aside0.mk hp
          clear hp hok hjk
          obtain ⟨Ao, co, rfl⟩ := Kd.R_slice HR.out
          have hx5 : xs.length < 5 := by rw [HX.out]; unfold onesL; rw [List.length_map, List.length_take]; have := HL5.out; omega
          have HX5 := Aside0.mk hx5
          clear hx5
          go_wp2
          have hB5 := below_alloc HWi.out (.cells #[.int .i64 p.at_, .int .i64 p.n_, .func (.func q.gf) #[] q.gc, .func (.func q.pf) #[] q.pc, .bool p.sg_] 58 (0, 0))
          have hR5 := Kd.R_alloc HR.out (.cells #[.int .i64 p.at_, .int .i64 p.n_, .func (.func q.gf) #[] q.gc, .func (.func q.pf) #[] q.pc, .bool p.sg_] 58 (0, 0))
          have hlast := cd_last wr (.cells #[.int .i64 p.at_, .int .i64 p.n_, .func (.func q.gf) #[] q.gc, .func (.func q.pf) #[] q.pc, .bool p.sg_] 58 (0, 0))
          generalize wr.alloc (.cells #[.int .i64 p.at_, .int .i64 p.n_, .func (.func q.gf) #[] q.gc, .func (.func q.pf) #[] q.pc, .bool p.sg_] 58 (0, 0)) = w5 at hB5 hR5 hlast ⊢
          obtain ⟨e0, e1, e2, e3, e4⟩ := cells5_ hlast
          have HB5 := Aside0.mk hB5
          have HR5 := Aside0.mk hR5
          clear hB5 hR5 hlast c0 c1 c2 c3 c4
          have hB6 := below_drew1 HB5.out
          have hR6 := Kd.R_drew HR5.out
          refine start_ (n := 13) (S := (fun w' => w'.cell? ⟨wr.heap.size, 0, none⟩ = some (.int .i64 p.at_) ∧ w'.cell? ⟨wr.heap.size, 1, none⟩ = some (.int .i64 p.n_))) (ds := [11, 12]) #[false, false, false, false, false, false, false, false, false, false, false, false, false] (by kernel_rfl) rfl rfl ⟨e0, e1⟩ (fun hHeld => ?_)
          generalize w5.drew = w6 at hB6 hR6 hHeld ⊢
          refine pure_ (i := 0) (N := some 21) (v := ?_) (a' := ?_) #[true, false, false, false, false, false, false, false, false, false, false, false, false] rfl rfl (by kernel_rfl) (fun _ _ _ h => h) (Or.inl ⟨by rfl, ?_⟩) ?_ ?_
          rotate_left
          · intro w'
            go_simp
            with_reducible rfl
          rotate_left
          · simp only [Act.put, List.setIfInBounds_toArray, List.set_cons_zero, List.set_cons_succ, i64_w, i32_w]
            rfl
          refine pure_ (i := 1) (N := some 22) (v := ?_) (a' := ?_) #[true, true, false, false, false, false, false, false, false, false, false, false, false] rfl rfl (by kernel_rfl) (fun _ _ _ h => h) (Or.inl ⟨by rfl, ?_⟩) ?_ ?_
          rotate_left
          · intro w'
            go_simp
            with_reducible rfl
          rotate_left
          · simp only [Act.put, List.setIfInBounds_toArray, List.set_cons_zero, List.set_cons_succ, i64_w, i32_w]
            rfl
          refine take_ (i := 2) (N := some 23) (v := ?_) (a' := ?_) #[true, true, true, false, false, false, false, false, false, false, false, false, false] rfl rfl (by kernel_rfl) (fun _ _ _ h => h) (Or.inl ⟨by rfl, ?_⟩) hHeld ?_ ?_
          rotate_left
          · rintro w' ⟨s0, s1⟩
            go_simp
            with_reducible rfl
          rotate_left
          · simp only [Act.put, List.setIfInBounds_toArray, List.set_cons_zero, List.set_cons_succ, i64_w, i32_w]
            rfl
          refine pure_ (i := 3) (N := some 24) (v := ?_) (a' := ?_) #[true, true, true, true, false, false, false, false, false, false, false, false, false] rfl rfl (by kernel_rfl) (fun _ _ _ h => h) (Or.inl ⟨by rfl, ?_⟩) ?_ ?_
          rotate_left
          · intro w'
            go_simp
            with_reducible rfl
          rotate_left
          · simp only [Act.put, List.setIfInBounds_toArray, List.set_cons_zero, List.set_cons_succ, i64_w, i32_w]
            rfl
          refine take_ (i := 4) (N := some 25) (v := ?_) (a' := ?_) #[true, true, true, true, true, false, false, false, false, false, false, false, false] rfl rfl (by kernel_rfl) (fun _ _ _ h => h) (Or.inl ⟨by rfl, ?_⟩) hHeld ?_ ?_
          rotate_left
          · rintro w' ⟨s0, s1⟩
            go_simp
            with_reducible rfl
          rotate_left
          · simp only [Act.put, List.setIfInBounds_toArray, List.set_cons_zero, List.set_cons_succ, i64_w, i32_w]
            rfl
          refine pure_ (i := 5) (N := some 26) (v := ?_) (a' := ?_) #[true, true, true, true, true, true, false, false, false, false, false, false, false] rfl rfl (by kernel_rfl) (fun _ _ _ h => h) (Or.inl ⟨by rfl, ?_⟩) ?_ ?_
          rotate_left
          · intro w'
            go_simp
            with_reducible rfl
          rotate_left
          · simp only [Act.put, List.setIfInBounds_toArray, List.set_cons_zero, List.set_cons_succ, i64_w, i32_w]
            rfl
          refine take_ (i := 6) (N := some 27) (v := ?_) (a' := ?_) #[true, true, true, true, true, true, true, false, false, false, false, false, false] rfl rfl (by kernel_rfl) (fun _ _ _ h => h) (Or.inl ⟨by rfl, ?_⟩) hHeld ?_ ?_
          rotate_left
          · rintro w' ⟨s0, s1⟩
            go_simp
            with_reducible rfl
          rotate_left
          · simp only [Act.put, List.setIfInBounds_toArray, List.set_cons_zero, List.set_cons_succ, i64_w, i32_w]
            rfl
          refine pure_ (i := 7) (N := some 28) (v := ?_) (a' := ?_) #[true, true, true, true, true, true, true, true, false, false, false, false, false] rfl rfl (by kernel_rfl) (fun _ _ _ h => h) (Or.inl ⟨by rfl, ?_⟩) ?_ ?_
          rotate_left
          · intro w'
            go_simp
            with_reducible rfl
          rotate_left
          · simp only [Act.put, List.setIfInBounds_toArray, List.set_cons_zero, List.set_cons_succ, i64_w, i32_w]
            rfl
          refine pure_ (i := 8) (N := some 29) (v := ?_) (a' := ?_) #[true, true, true, true, true, true, true, true, true, false, false, false, false] rfl rfl (by kernel_rfl) (fun _ _ _ h => h) (Or.inl ⟨by rfl, ?_⟩) ?_ ?_
          rotate_left
          · intro w'
            go_simp
            with_reducible rfl
          rotate_left
          · simp only [Act.put, List.setIfInBounds_toArray, List.set_cons_zero, List.set_cons_succ, i64_w, i32_w]
            rfl
          refine pure_ (i := 9) (N := some 30) (v := ?_) (a' := ?_) #[true, true, true, true, true, true, true, true, true, true, false, false, false] rfl rfl (by kernel_rfl) (fun _ _ _ h => h) (Or.inl ⟨by rfl, ?_⟩) ?_ ?_
          rotate_left
          · intro w'
            go_simp
            with_reducible rfl
          rotate_left
          · simp only [Act.put, List.setIfInBounds_toArray, List.set_cons_zero, List.set_cons_succ, i64_w, i32_w]
            rfl
          refine one_ (i := 10) (N := some 31) #[true, true, true, true, true, true, true, true, true, true, true, false, false] rfl rfl (by kernel_rfl) (by decide) (fun K hK => ?_)
          rw [if_pos (by rfl)]
          unfold Oper.wp
          go_simp
          refine hK.out _ _ ⟨pw_cell_below (below_alloc (Below.refl _ _) _) hHeld.1, pw_cell_below (below_alloc (Below.refl _ _) _) hHeld.2⟩ (fun hHeld => ?_)
          clear hK K
          refine last_ (i := 11) (N := some 32) #[true, true, true, true, true, true, true, true, true, true, true, true, false] rfl rfl (by kernel_rfl) (by decide) (fun K hK => ?_)
          refine Kd.R_append_step k60 (w0 := w3) w3.heap.size (by rfl) (.tmp 21) (.tmp 31) 52 60 (.agg #[.int .i64 0, .int .i64 0, .int .u32 0]) 24 rfl Tryd.underlying52 info_fld rfl (by decide) (by omega) (.slice Ao xs.length co) xs (⟨p.at_, p.n_, IntKind.u32.wrap (IntKind.u32.wrap (2 ^ p.n_.toNat) - 1)⟩ : S60) [.int .i64 p.at_, .int .i64 p.n_, .int .u32 (IntKind.u32.wrap (IntKind.u32.wrap (2 ^ p.n_.toNat) - 1))] (fun _ => True) (fun _ => False) rfl rfl ?aP (fun _ hk => hk.elim) (fun _ _ => trivial) hR6 hB6 (below_size hB6) ?aL ?_
          case aP => exact k60_mkM _ _ _ (⟨p.at_, p.n_, IntKind.u32.wrap (IntKind.u32.wrap (2 ^ p.n_.toNat) - 1)⟩ : S60)
          case aL => have := HX5.out; omega
          intro v1 w7 ho hb hg hat
          have HO := Aside0.mk ho
          have HB7 := Aside0.mk hb
          clear ho hb hg hat
          refine hK.out _ _ ?_
          clear hK K
          refine norm_ (a' := ?_) ?_ ?_
          rotate_left
          · show Act.put _ (some 32) _ = _
            simp only [Act.put, List.setIfInBounds_toArray, List.set_cons_zero, List.set_cons_succ, i64_w, i32_w]
            rfl
          refine pure_ (i := 12) (N := some 5) (v := ?_) (a' := ?_) #[true, true, true, true, true, true, true, true, true, true, true, true, true] rfl rfl (by kernel_rfl) (fun _ _ _ h => h) (Or.inl ⟨by rfl, ?_⟩) ?_ ?_
          rotate_left
          · intro w'
            go_simp
            with_reducible rfl
          rotate_left
          · simp only [Act.put, List.setIfInBounds_toArray, List.set_cons_zero, List.set_cons_succ, i64_w, i32_w]
            rfl
          refine done_ (by kernel_rfl) ?_
          go_wp2
          go_roundg kj
          case measure => omega
          case rel => exact ⟨j + 1, xs ++ [⟨p.at_, p.n_, IntKind.u32.wrap (IntKind.u32.wrap (2 ^ p.n_.toNat) - 1)⟩], by rw [show wrap64 ((j : Int) + 1) = ((j + 1 : Nat) : Int) by unfold wrap64; have h5 := HL5.out; have h6 := HJK.out; omega], by have := HJK.out; omega, ⟨by rw [HX.out]; unfold onesL; rw [List.take_add_one, HPJ.out, List.map_append]; rfl⟩, ⟨HO.out⟩, ⟨HB7.out⟩⟩

/-! ### bits_Field: function 15 -/
def bits_Field.f (a0 : Int) (a1 : Int) (a2 : Int) : Option (Int × Int) := (bits_right.f a1 a2).bind fun t156 => (if t156 = true then (if 0 ≤ a1 then ((bits_ones.f a2).bind fun t157 => (some (Go.bits .and .u32 (shr .u32 a0 a1) ((t157) % 4294967296), 0))) else (none)) else (some (0, 1)))
set_option maxHeartbeats 8000000 in
set_option maxRecDepth 100000 in
theorem bits_Field.calls (a0 : Int) (a1 : Int) (a2 : Int) (r1 : Int) (r2 : Int) (w : World) (h : bits_Field.f a0 a1 a2 = some (r1, r2)) :
    Calls Tryd.prog 15 #[.int .u32 a0, .int .i64 a1, .int .i64 a2] w fun e w' => e = .returned (.tuple #[.int .u32 r1, .int .i64 r2]) ∧ Drawn0 w w' := by
 have H : ((bits_right.f a1 a2).bind fun t156 => (if t156 = true then (if 0 ≤ a1 then ((bits_ones.f a2).bind fun t157 => (some (Go.bits .and .u32 (shr .u32 a0 a1) ((t157) % 4294967296), 0))) else (none)) else (some (0, 1)))) = some (r1, r2) := h
 clear h
 replace H := Option.bind_eq_some_iff.mp H
 obtain ⟨t156, A40, H⟩ := H
 replace H : (if t156 = true then (if 0 ≤ a1 then ((bits_ones.f a2).bind fun t157 => (some (Go.bits .and .u32 (shr .u32 a0 a1) ((t157) % 4294967296), 0))) else (none)) else (some (0, 1))) = some (r1, r2) := H
 have A4 := Aside0.mk A40
 clear A40
 by_cases c5 : t156 = true
 ·
  subst c5
  have H1 : (if 0 ≤ a1 then ((bits_ones.f a2).bind fun t157 => (some (Go.bits .and .u32 (shr .u32 a0 a1) ((t157) % 4294967296), 0))) else (none)) = some (r1, r2) := by rw [if_pos rfl] at H; exact H
  clear H
  have H := H1
  clear H1
  by_cases c6 : 0 ≤ a1
  ·
   rw [if_pos c6] at H
   have c6b0 := eq_true c6
   have c6b1 : decide (0 ≤ a1) = true := decide_eq_true c6
   clear c6
   obtain ⟨ji7, hji7⟩ : ∃ j_ : Int, (shr .u32 a0 a1) = j_ := ⟨_, rfl⟩
   replace H : ((bits_ones.f a2).bind fun t157 => (some (Go.bits .and .u32 (ji7) ((t157) % 4294967296), 0))) = some (r1, r2) := by first | (rw [hji7] at H; exact H) | (simp only [hji7] at H ⊢; exact H)
   (try rw [hji7] at A4)
   have hji7_ : (a0 / 2 ^ min a1.toNat 32) = ji7 := hji7
   have hji7z : a1 ≤ 32 → (a0 / 2 ^ a1.toNat) = ji7 := shr_small hji7
   replace H := Option.bind_eq_some_iff.mp H
   obtain ⟨t157, A80, H⟩ := H
   replace H : (some (Go.bits .and .u32 (ji7) ((t157) % 4294967296), 0)) = some (r1, r2) := H
   have A8 := Aside0.mk A80
   clear A80
   simp only [Option.some.injEq, Prod.mk.injEq] at H
   obtain ⟨rfl, rfl⟩ := H
   go_enter Tryd.func15, Tryd.ntmps15
   go_wp2_with (first | (go_at_call 36; (with_reducible refine (bits_right.calls a1 a2 true _ A4.out).mono ?_); rintro e w' ⟨rfl, ⟨nd, rfl⟩⟩; (try first | exact ⟨rfl, _, World.drewN_drewN _ _ _⟩ | exact ⟨rfl, _, Eq.trans (World.drewN_drewN _ _ _) (congrArg (World.drewN _) (Nat.add_assoc _ _ _))⟩)) | (go_at_call 37; (with_reducible refine (bits_ones.calls a2 t157 _ A8.out).mono ?_); rintro e w' ⟨rfl, ⟨nd, rfl⟩⟩; (try first | exact ⟨rfl, _, World.drewN_drewN _ _ _⟩ | exact ⟨rfl, _, Eq.trans (World.drewN_drewN _ _ _) (congrArg (World.drewN _) (Nat.add_assoc _ _ _))⟩)))
   repeat (go_quiet (first | (go_at_call 36; (with_reducible refine (bits_right.calls a1 a2 true _ A4.out).mono ?_); rintro e w' ⟨rfl, ⟨nd, rfl⟩⟩; (try first | exact ⟨rfl, _, World.drewN_drewN _ _ _⟩ | exact ⟨rfl, _, Eq.trans (World.drewN_drewN _ _ _) (congrArg (World.drewN _) (Nat.add_assoc _ _ _))⟩)) | (go_at_call 37; (with_reducible refine (bits_ones.calls a2 t157 _ A8.out).mono ?_); rintro e w' ⟨rfl, ⟨nd, rfl⟩⟩; (try first | exact ⟨rfl, _, World.drewN_drewN _ _ _⟩ | exact ⟨rfl, _, Eq.trans (World.drewN_drewN _ _ _) (congrArg (World.drewN _) (Nat.add_assoc _ _ _))⟩))); try go_wp2_with (first | (go_at_call 36; (with_reducible refine (bits_right.calls a1 a2 true _ A4.out).mono ?_); rintro e w' ⟨rfl, ⟨nd, rfl⟩⟩; (try first | exact ⟨rfl, _, World.drewN_drewN _ _ _⟩ | exact ⟨rfl, _, Eq.trans (World.drewN_drewN _ _ _) (congrArg (World.drewN _) (Nat.add_assoc _ _ _))⟩)) | (go_at_call 37; (with_reducible refine (bits_ones.calls a2 t157 _ A8.out).mono ?_); rintro e w' ⟨rfl, ⟨nd, rfl⟩⟩; (try first | exact ⟨rfl, _, World.drewN_drewN _ _ _⟩ | exact ⟨rfl, _, Eq.trans (World.drewN_drewN _ _ _) (congrArg (World.drewN _) (Nat.add_assoc _ _ _))⟩))))
   go_ret2
   exact ⟨by first | rfl | (simp; done) | (simp only [← hji7] <;> (first | rfl | simp)) | (simp [*]; done), by repeat (first | exact Drawn0.refl _ | apply Drawn0.step)⟩
  ·
   rw [if_neg c6] at H
   exact absurd H (by simp)
 ·
  replace c5 := Bool.eq_false_iff.mpr c5
  subst c5
  have H1 : (some (0, 1)) = some (r1, r2) := by rw [if_neg (show ¬ (false = true) by decide)] at H; exact H
  clear H
  have H := H1
  clear H1
  simp only [Option.some.injEq, Prod.mk.injEq] at H
  obtain ⟨rfl, rfl⟩ := H
  go_enter Tryd.func15, Tryd.ntmps15
  go_wp2_with (first | (go_at_call 36; (with_reducible refine (bits_right.calls a1 a2 false _ A4.out).mono ?_); rintro e w' ⟨rfl, ⟨nd, rfl⟩⟩; (try first | exact ⟨rfl, _, World.drewN_drewN _ _ _⟩ | exact ⟨rfl, _, Eq.trans (World.drewN_drewN _ _ _) (congrArg (World.drewN _) (Nat.add_assoc _ _ _))⟩)))
  repeat (go_quiet (first | (go_at_call 36; (with_reducible refine (bits_right.calls a1 a2 false _ A4.out).mono ?_); rintro e w' ⟨rfl, ⟨nd, rfl⟩⟩; (try first | exact ⟨rfl, _, World.drewN_drewN _ _ _⟩ | exact ⟨rfl, _, Eq.trans (World.drewN_drewN _ _ _) (congrArg (World.drewN _) (Nat.add_assoc _ _ _))⟩))); try go_wp2_with (first | (go_at_call 36; (with_reducible refine (bits_right.calls a1 a2 false _ A4.out).mono ?_); rintro e w' ⟨rfl, ⟨nd, rfl⟩⟩; (try first | exact ⟨rfl, _, World.drewN_drewN _ _ _⟩ | exact ⟨rfl, _, Eq.trans (World.drewN_drewN _ _ _) (congrArg (World.drewN _) (Nat.add_assoc _ _ _))⟩))))
  go_ret2
  exact ⟨by first | rfl | (simp; done) | (simp [*]; done), by repeat (first | exact Drawn0.refl _ | apply Drawn0.step)⟩

/-! ### bits_Signed: function 35 -/
def bits_Signed.j0 : Nat → Int → Int → Bool → Option (Int × Int)
 | 0, _, _, _ => none
 | k + 1, x0, x1, x6 => if x6 = true then (some (0, 1)) else ((bits_ones.f x1).bind fun t158 => (if (IntKind.u64.wrap (x0)) > t158 then (some (0, 4)) else (if 0 ≤ (wrap64 (64 - x1)) then (some (shr .i64 (shl .i64 (wrap64 (x0)) (wrap64 (64 - x1))) (wrap64 (64 - x1)), 0)) else (none))))
def bits_Signed.f (k : Nat) (a0 : Int) (a1 : Int) : Option (Int × Int) := if a1 < 1 then (bits_Signed.j0 k a0 a1 true) else (bits_Signed.j0 k a0 a1 (decide (a1 > 32)))
theorem bits_Signed.mono_l : ∀ k, (∀ y0 y1 y2, LeO (bits_Signed.j0 k y0 y1 y2) (bits_Signed.j0 (k + 1) y0 y1 y2))
 | 0 => fun _ _ _ r h => by simp [bits_Signed.j0] at h
 | k + 1 => by
  have ih0 := bits_Signed.mono_l k
  ·
   intro y0 y1 y2
   unfold bits_Signed.j0
   repeat' first
   | (with_reducible exact ih0 _ _ _)
   | (with_reducible exact LeO.refl _)
   | (with_reducible exact LeO.none _)
   | (with_reducible refine LeO.ite ?_ ?_)
   | (with_reducible refine LeO.bind ?_ (fun _ => ?_))
   | exact ih0 _ _ _
   | exact LeO.none _
   | refine LeO.ite ?_ ?_
   | refine LeO.bind ?_ (fun _ => ?_)
theorem bits_Signed.mono : ∀ a0 a1 k, LeO (bits_Signed.f k a0 a1) (bits_Signed.f (k + 1) a0 a1) := by
 intro a0 a1 k
 have ih0 := bits_Signed.mono_l k
 unfold bits_Signed.f
 repeat' first
   | (with_reducible exact ih0 _ _ _)
   | (with_reducible exact LeO.refl _)
   | (with_reducible exact LeO.none _)
   | (with_reducible refine LeO.ite ?_ ?_)
   | (with_reducible refine LeO.bind ?_ (fun _ => ?_))
   | exact ih0 _ _ _
   | exact LeO.none _
   | refine LeO.ite ?_ ?_
   | refine LeO.bind ?_ (fun _ => ?_)
set_option maxHeartbeats 8000000 in
set_option maxRecDepth 100000 in
theorem bits_Signed.calls (k : Nat) (a0 : Int) (a1 : Int) (r1 : Int) (r2 : Int) (w : World) (h : bits_Signed.f k a0 a1 = some (r1, r2)) :
    Calls Tryd.prog 35 #[.int .u32 a0, .int .i64 a1] w fun e w' => e = .returned (.tuple #[.int .i64 r1, .int .i64 r2]) ∧ Drawn0 w w' := by
 have H : (if a1 < 1 then (bits_Signed.j0 k a0 a1 true) else (bits_Signed.j0 k a0 a1 (decide (a1 > 32)))) = some (r1, r2) := h
 clear h
 have HC3 := Aside0.mk H
 clear H
 go_enter Tryd.func35, Tryd.ntmps35
 go_upto_region 1 with (fail)
 go_cut [6] (fun v6 wc => ∃ (kq : Nat) (x6_2 : Bool), v6 = .bool x6_2 ∧ Aside0 (bits_Signed.j0 kq a0 a1 x6_2 = some (r1, r2)) ∧ Aside0 (kq ≤ k) ∧ Drawn0 w wc)
 case first =>
  have H := HC3.out
  clear HC3
  (try (rw [drewN_self w]; have n0_ := fun n_ => pw_below_drewN HB.out n_; clear HB; generalize hq_ : World.drewN w _ = w; have HB := Aside0.mk (hq_ ▸ n0_ _); clear hq_ n0_))
  by_cases c4 : a1 < 1
  ·
   rw [if_pos c4] at H
   have c4b0 : decide (a1 < 1) = true := decide_eq_true c4
   clear c4
   (first | rw [c4b0] | (simp only [i64_w, i32_w]; rw [c4b0]) | skip)
   have H' := Aside0.mk H
   clear H
   go_wp2
   go_meet
   case rel => exact ⟨_, (true), (by first | rfl | (simp; done) | (simp [*]; done)), H', ⟨by first | omega | exact Nat.le_refl _⟩, by repeat (first | exact Drawn0.refl _ | apply Drawn0.step)⟩
  ·
   rw [if_neg c4] at H
   have c4b0 : decide (a1 < 1) = false := decide_eq_false c4
   clear c4
   (first | rw [c4b0] | (simp only [i64_w, i32_w]; rw [c4b0]) | skip)
   have H' := Aside0.mk H
   clear H
   go_wp2
   go_meet
   case rel => exact ⟨_, (decide (a1 > 32)), (by first | rfl | (simp; done) | (simp [*]; done)), H', ⟨by first | omega | exact Nat.le_refl _⟩, by repeat (first | exact Drawn0.refl _ | apply Drawn0.step)⟩
 case rest =>
  clear HC3
  try clear p2
  try clear c3
  try clear c4
  try clear c4b0
  obtain ⟨kq, x6_2, rfl, HA, HJ2, ⟨mc2, rfl⟩⟩ := hcut
  cases kq with
  | zero => exact absurd HA.out (by simp [bits_Signed.j0])
  | succ kj2 =>
   have H := HA.out
   clear HA
   simp only [bits_Signed.j0] at H
   by_cases c5 : x6_2 = true
   ·
    subst c5
    have H1 : (some (0, 1)) = some (r1, r2) := by rw [if_pos rfl] at H; exact H
    clear H
    have H := H1
    clear H1
    simp only [Option.some.injEq, Prod.mk.injEq] at H
    obtain ⟨rfl, rfl⟩ := H
    go_wp2
    go_ret2
    exact ⟨by first | rfl | (simp; done) | (simp [*]; done), by repeat (first | exact Drawn0.refl _ | apply Drawn0.step)⟩
   ·
    replace c5 := Bool.eq_false_iff.mpr c5
    subst c5
    have H1 : ((bits_ones.f a1).bind fun t158 => (if (IntKind.u64.wrap (a0)) > t158 then (some (0, 4)) else (if 0 ≤ (wrap64 (64 - a1)) then (some (shr .i64 (shl .i64 (wrap64 (a0)) (wrap64 (64 - a1))) (wrap64 (64 - a1)), 0)) else (none)))) = some (r1, r2) := by rw [if_neg (show ¬ (false = true) by decide)] at H; exact H
    clear H
    have H := H1
    clear H1
    replace H := Option.bind_eq_some_iff.mp H
    obtain ⟨t158, A60, H⟩ := H
    replace H : (if (IntKind.u64.wrap (a0)) > t158 then (some (0, 4)) else (if 0 ≤ (wrap64 (64 - a1)) then (some (shr .i64 (shl .i64 (wrap64 (a0)) (wrap64 (64 - a1))) (wrap64 (64 - a1)), 0)) else (none))) = some (r1, r2) := H
    have A6 := Aside0.mk A60
    clear A60
    by_cases c7 : (IntKind.u64.wrap (a0)) > t158
    ·
     rw [if_pos c7] at H
     have c7b0 : decide (t158 < (IntKind.u64.wrap (a0))) = true := decide_eq_true c7
     clear c7
     simp only [Option.some.injEq, Prod.mk.injEq] at H
     obtain ⟨rfl, rfl⟩ := H
     go_wp2_with (first | ((with_reducible refine gate_callee (f := 37) rfl ?_); refine goesL_ (some 17) rfl rfl Tryd.func37 (by kernel_rfl) rfl #[.int .i64 a1] rfl (by (try simp only [List.map_toArray, List.map_cons, List.map_nil]); first | done | rfl | (simp only [List.length_drop, List.length_take]; rfl)) ?_; (with_reducible refine (bits_ones.calls a1 t158 _ A6.out).mono ?_); rintro e w' ⟨rfl, ⟨nd, rfl⟩⟩; refine ⟨_, rfl, ?_⟩))
     go_ret2
     exact ⟨by first | rfl | (simp; done) | (simp [*]; done), by repeat (first | exact Drawn0.refl _ | apply Drawn0.step)⟩
    ·
     rw [if_neg c7] at H
     have c7b0 : decide (t158 < (IntKind.u64.wrap (a0))) = false := decide_eq_false c7
     clear c7
     obtain ⟨ji8, hji8⟩ : ∃ j_ : Int, (wrap64 (64 - a1)) = j_ := ⟨_, rfl⟩
     replace H : (if 0 ≤ (ji8) then (some (shr .i64 (shl .i64 (wrap64 (a0)) (ji8)) (ji8), 0)) else (none)) = some (r1, r2) := by first | (rw [hji8] at H; exact H) | (simp only [hji8] at H ⊢; exact H)
     (try rw [hji8] at A6)
     have hji8w : (IntKind.i64.wrap (64 - a1)) = ji8 := (i64_w _).trans hji8
     by_cases c9 : 0 ≤ (ji8)
     ·
      rw [if_pos c9] at H
      have c9b0 := eq_true c9
      have c9b1 : decide (0 ≤ (ji8)) = true := decide_eq_true c9
      clear c9
      obtain ⟨ji10, hji10⟩ : ∃ j_ : Int, (shl .i64 (wrap64 (a0)) (ji8)) = j_ := ⟨_, rfl⟩
      replace H : (some (shr .i64 (ji10) (ji8), 0)) = some (r1, r2) := by first | (rw [hji10] at H; exact H) | (simp only [hji10] at H ⊢; exact H)
      (try rw [hji10] at A6)
      have hji10_ : (IntKind.i64.wrap ((wrap64 (a0)) * 2 ^ min (ji8).toNat 64)) = ji10 := hji10
      have hji10z : (ji8) ≤ 64 → (IntKind.i64.wrap ((wrap64 (a0)) * 2 ^ (ji8).toNat)) = ji10 := shl_small hji10
      have hji10y : (wrap64 ((wrap64 (a0)) * 2 ^ min (ji8).toNat 64)) = ji10 := (i64_w _).symm.trans hji10_
      have hji10x : (ji8) ≤ 64 → (wrap64 ((wrap64 (a0)) * 2 ^ (ji8).toNat)) = ji10 := fun h_ => (i64_w _).symm.trans (hji10z h_)
      have c11b0 := eq_true (of_decide_eq_true (by first | (with_reducible assumption) | assumption) : 0 ≤ (ji8))
      obtain ⟨ji12, hji12⟩ : ∃ j_ : Int, (shr .i64 (ji10) (ji8)) = j_ := ⟨_, rfl⟩
      replace H : (some (ji12, 0)) = some (r1, r2) := by first | (rw [hji12] at H; exact H) | (simp only [hji12] at H ⊢; exact H)
      (try rw [hji12] at A6)
      have hji12_ : ((ji10) / 2 ^ min (ji8).toNat 64) = ji12 := hji12
      have hji12z : (ji8) ≤ 64 → ((ji10) / 2 ^ (ji8).toNat) = ji12 := shr_small hji12
      simp only [Option.some.injEq, Prod.mk.injEq] at H
      obtain ⟨rfl, rfl⟩ := H
      go_wp2_with (first | ((with_reducible refine gate_callee (f := 37) rfl ?_); refine goesL_ (some 17) rfl rfl Tryd.func37 (by kernel_rfl) rfl #[.int .i64 a1] rfl (by (try simp only [List.map_toArray, List.map_cons, List.map_nil]); first | done | rfl | (simp only [List.length_drop, List.length_take]; rfl)) ?_; (with_reducible refine (bits_ones.calls a1 t158 _ A6.out).mono ?_); rintro e w' ⟨rfl, ⟨nd, rfl⟩⟩; refine ⟨_, rfl, ?_⟩))
      go_ret2
      exact ⟨by first | rfl | (simp; done) | (simp only [← hji8, ← hji10, ← hji12] <;> (first | rfl | simp)) | (simp [*]; done), by repeat (first | exact Drawn0.refl _ | apply Drawn0.step)⟩
     ·
      rw [if_neg c9] at H
      exact absurd H (by simp)

end Go.Proofs.YtkpkkjbigndnoaaDoor.P
