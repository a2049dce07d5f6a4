/- Written for this claim by a program of this session: what the claim uses of lemmas and proved contracts of Go functions. -/
import Derived.Test.YtblnfngigdipcaaGreatDoorYSu2
import Derived.Test.YtblnfngigdipcaaGreatDoorProg
import Derived.Laws.EntriesVeiled
import Derived.Lib.TrailingZeros
import Derived.Deep.WholeRow
import Derived.Laws.Tables
namespace Go.Proofs.YtblnfngigdipcaaGreatDoor.P
open Go.RowKit Go.Proofs.YtblnfngigdipcaaGreatDoorW.PrintWords Go.Proofs.YtblnfngigdipcaaGreatDoorW.PrintLast Go.Proofs.YtblnfngigdipcaaGreatDoorW.PrintMore
attribute [local go_sem] max2_int min2_int max_two min_two max_three min_three max_four min_four
set_option linter.unusedVariables false
set_option linter.unusedSimpArgs false
def errW : Option Int → Value
  | none => .nilIface
  | some c => .iface 0 (.int .i64 c)
theorem errW_none : errW none = .nilIface := rfl
theorem errW_some (c : Int) : errW (some c) = .iface 0 (.int .i64 c) := rfl
structure S189 where
  f0 : Int
  f1 : Int
  f2 : Int
def z189 : S189 := ⟨(0 : Int), (0 : Int), (0 : Int)⟩
def k189 : Kd S189 := Kd.iso (Kd.pair (Kd.int .i64) (Kd.pair (Kd.int .i64) (Kd.int .u32))) (fun x : S189 => (x.f0, x.f1, x.f2))
theorem k189_open {w : World} {x : S189} {cs : List Value} (h : k189.K w x cs) : cs = [.int .i64 x.f0, .int .i64 x.f1, .int .u32 x.f2] := by
  obtain ⟨_, _, rfl, rfl, ⟨_, _, rfl, rfl, rfl⟩⟩ := h
  exact rfl
theorem k189_mkM (w : World) (base : Nat) (ok : Nat → Prop) (x : S189)  : k189.M w base ok x [.int .i64 x.f0, .int .i64 x.f1, .int .u32 x.f2] := ⟨[.int .i64 x.f0], [.int .i64 x.f1, .int .u32 x.f2], rfl, rfl, ⟨[.int .i64 x.f1], [.int .u32 x.f2], rfl, rfl, rfl⟩⟩
def rd_T189 (xs : List S189) (i : Int) : S189 := xs.getD i.toNat z189
theorem at_T189 {w : World} {A : Option Addr} {n : Nat} {xs : List S189} (h : Kd.C k189 w A n xs) (i : Int) (h0 : 0 ≤ i) (h1 : i < n) : ∃ ad , A = some ad ∧ w.cell? (ad.add (i.toNat * 3)) = some (.int .i64 (rd_T189 xs i).f0) ∧ w.cell? ⟨(ad.add (i.toNat * 3)).block, (ad.add (i.toNat * 3)).off + 1, none⟩ = some (.int .i64 (rd_T189 xs i).f1) ∧ w.cell? ⟨(ad.add (i.toNat * 3)).block, (ad.add (i.toNat * 3)).off + 2, none⟩ = some (.int .u32 (rd_T189 xs i).f2) := by
  obtain ⟨ad, c, e, _, hK, hc0⟩ := Kd.C_get h z189 i h0 h1
  have hc : ∀ j u, c[j]? = some u → w.cell? (ad.add (i.toNat * 3 + j)) = some u := hc0
  obtain rfl := k189_open hK
  exact ⟨ad, e, hc 0 _ rfl, by rw [← add_field _ _ 1 (by omega)]; exact hc 1 _ rfl, by rw [← add_field _ _ 2 (by omega)]; exact hc 2 _ rfl⟩
theorem quiet_drawn {P : Program} {f : FuncId} {args : Array Value} {w : World} {n : Nat} {v : Value}
    (h : Calls P f args (w.drewN n) fun e w' => e = .returned v ∧ Drawn0 (w.drewN n) w') : Calls P f args (w.drewN n) fun e w'' => e = .returned v ∧ ∃ m, w'' = w.drewN m :=
  Calls.quiet_of (h.mono fun _ _ ⟨he, hd⟩ => ⟨he, hd.out⟩)
theorem fieldF0 (a b c d : Value) (w : World) : Sem.run Tryz.prog (Instr.field 25 (.agg #[a, b, c, d]) 0) w = .ok a w := by kernel_rfl
theorem fieldF1 (a b c d : Value) (w : World) : Sem.run Tryz.prog (Instr.field 25 (.agg #[a, b, c, d]) 1) w = .ok b w := by kernel_rfl
theorem fieldF2 (a b c d : Value) (w : World) : Sem.run Tryz.prog (Instr.field 25 (.agg #[a, b, c, d]) 2) w = .ok c w := by kernel_rfl
theorem fieldF3 (a b c d : Value) (w : World) : Sem.run Tryz.prog (Instr.field 25 (.agg #[a, b, c, d]) 3) w = .ok d w := by kernel_rfl
attribute [go_sem] fieldF0 fieldF1 fieldF2 fieldF3
theorem fieldS0 (a b c d e f g h i j k l : Value) (w : World) : Sem.run Tryz.prog (Instr.field 149 (.agg #[a, b, c, d, e, f, g, h, i, j, k, l]) 0) w = .ok a w := by kernel_rfl
theorem fieldS1 (a b c d e f g h i j k l : Value) (w : World) : Sem.run Tryz.prog (Instr.field 149 (.agg #[a, b, c, d, e, f, g, h, i, j, k, l]) 1) w = .ok b w := by kernel_rfl
theorem fieldS2 (a b c d e f g h i j k l : Value) (w : World) : Sem.run Tryz.prog (Instr.field 149 (.agg #[a, b, c, d, e, f, g, h, i, j, k, l]) 2) w = .ok c w := by kernel_rfl
theorem fieldS3 (a b c d e f g h i j k l : Value) (w : World) : Sem.run Tryz.prog (Instr.field 149 (.agg #[a, b, c, d, e, f, g, h, i, j, k, l]) 3) w = .ok d w := by kernel_rfl
theorem fieldS4 (a b c d e f g h i j k l : Value) (w : World) : Sem.run Tryz.prog (Instr.field 149 (.agg #[a, b, c, d, e, f, g, h, i, j, k, l]) 4) w = .ok e w := by kernel_rfl
theorem fieldS5 (a b c d e f g h i j k l : Value) (w : World) : Sem.run Tryz.prog (Instr.field 149 (.agg #[a, b, c, d, e, f, g, h, i, j, k, l]) 5) w = .ok f w := by kernel_rfl
theorem fieldS6 (a b c d e f g h i j k l : Value) (w : World) : Sem.run Tryz.prog (Instr.field 149 (.agg #[a, b, c, d, e, f, g, h, i, j, k, l]) 6) w = .ok g w := by kernel_rfl
theorem fieldS7 (a b c d e f g h i j k l : Value) (w : World) : Sem.run Tryz.prog (Instr.field 149 (.agg #[a, b, c, d, e, f, g, h, i, j, k, l]) 7) w = .ok h w := by kernel_rfl
theorem fieldS8 (a b c d e f g h i j k l : Value) (w : World) : Sem.run Tryz.prog (Instr.field 149 (.agg #[a, b, c, d, e, f, g, h, i, j, k, l]) 8) w = .ok i w := by kernel_rfl
theorem fieldS9 (a b c d e f g h i j k l : Value) (w : World) : Sem.run Tryz.prog (Instr.field 149 (.agg #[a, b, c, d, e, f, g, h, i, j, k, l]) 9) w = .ok j w := by kernel_rfl
theorem fieldS10 (a b c d e f g h i j k l : Value) (w : World) : Sem.run Tryz.prog (Instr.field 149 (.agg #[a, b, c, d, e, f, g, h, i, j, k, l]) 10) w = .ok k w := by kernel_rfl
theorem fieldS11 (a b c d e f g h i j k l : Value) (w : World) : Sem.run Tryz.prog (Instr.field 149 (.agg #[a, b, c, d, e, f, g, h, i, j, k, l]) 11) w = .ok l w := by kernel_rfl
attribute [go_sem] fieldS0 fieldS1 fieldS2 fieldS3 fieldS4 fieldS5 fieldS6 fieldS7 fieldS8 fieldS9 fieldS10 fieldS11
structure TabW (w : World) : Prop where
  db : ∀ j, j < Lib.deBruijn64tab.length → w.cell? ⟨0, j, none⟩ = some (.int .u8 (Lib.deBruijn64tab.getD j 0 : Nat))
theorem TabW.below {w w1 : World} (h : TabW w) (hb : Below w.heap.size w w1) : TabW w1 := ⟨fun j hj => pw_cell_below hb (h.db j hj)⟩
theorem TabW.drew {w : World} (h : TabW w) : TabW w.drew := ⟨fun j hj => h.db j hj⟩
theorem TabW.drewN {w : World} (h : TabW w) (n : Nat) : TabW (w.drewN n) := ⟨fun j hj => h.db j hj⟩
def mask_sizes.f (ask : Int → Option Bool) : Option Int :=
  (ask 2).bind fun b => if b = true then some 2 else (ask 4).bind fun b => if b = true then some 4 else (ask 8).bind fun b => if b = true then some 8 else
  (ask 16).bind fun b => if b = true then some 16 else (ask 32).bind fun b => if b = true then some 32 else (ask 64).bind fun b => if b = true then some 64 else some 0
theorem qa_ (a : Act) (n : Tmp) (v : Value) : Act.put a (some n) v = { a with tmps := a.tmps.setIfInBounds n v } := rfl
theorem qb_ {α : Type} (l : List α) (i : Nat) (a : α) : l.toArray.setIfInBounds i a = (l.set i a).toArray := List.setIfInBounds_toArray ..
theorem qc_ {α : Type} (x : α) (xs : List α) (a : α) : (x :: xs).set 0 a = a :: xs := rfl
theorem qd_ {α : Type} (x : α) (xs : List α) (n : Nat) (a : α) : (x :: xs).set (n + 1) a = x :: xs.set n a := rfl
theorem cells3_ {w : World} {g : Nat} {t : TypeId} {v0 v1 v2 : Value} (h : w.heap[g]? = some (.cells #[v0, v1, v2] t (0, 0))) : w.cell? ⟨g, 0, none⟩ = some v0 ∧ w.cell? ⟨g, 1, none⟩ = some v1 ∧ w.cell? ⟨g, 2, none⟩ = some v2 := ⟨(blk_cell h 0).trans rfl, (blk_cell h 1).trans rfl, (blk_cell h 2).trans rfl⟩
theorem cells4_ {w : World} {g : Nat} {t : TypeId} {v0 v1 v2 v3 : Value} (h : w.heap[g]? = some (.cells #[v0, v1, v2, v3] t (0, 0))) : w.cell? ⟨g, 0, none⟩ = some v0 ∧ w.cell? ⟨g, 1, none⟩ = some v1 ∧ w.cell? ⟨g, 2, none⟩ = some v2 ∧ w.cell? ⟨g, 3, none⟩ = some v3 := ⟨(blk_cell h 0).trans rfl, (blk_cell h 1).trans rfl, (blk_cell h 2).trans rfl, (blk_cell h 3).trans rfl⟩
theorem cells5_ {w : World} {g : Nat} {t : TypeId} {v0 v1 v2 v3 v4 : Value} (h : w.heap[g]? = some (.cells #[v0, v1, v2, v3, v4] t (0, 0))) : w.cell? ⟨g, 0, none⟩ = some v0 ∧ w.cell? ⟨g, 1, none⟩ = some v1 ∧ w.cell? ⟨g, 2, none⟩ = some v2 ∧ w.cell? ⟨g, 3, none⟩ = some v3 ∧ w.cell? ⟨g, 4, none⟩ = some v4 := ⟨(blk_cell h 0).trans rfl, (blk_cell h 1).trans rfl, (blk_cell h 2).trans rfl, (blk_cell h 3).trans rfl, (blk_cell h 4).trans rfl⟩
theorem cells10_ {w : World} {g : Nat} {t : TypeId} {v0 v1 v2 v3 v4 v5 v6 v7 v8 v9 : Value} (h : w.heap[g]? = some (.cells #[v0, v1, v2, v3, v4, v5, v6, v7, v8, v9] t (0, 0))) : w.cell? ⟨g, 0, none⟩ = some v0 ∧ w.cell? ⟨g, 1, none⟩ = some v1 ∧ w.cell? ⟨g, 2, none⟩ = some v2 ∧ w.cell? ⟨g, 3, none⟩ = some v3 ∧ w.cell? ⟨g, 4, none⟩ = some v4 ∧ w.cell? ⟨g, 5, none⟩ = some v5 ∧ w.cell? ⟨g, 6, none⟩ = some v6 ∧ w.cell? ⟨g, 7, none⟩ = some v7 ∧ w.cell? ⟨g, 8, none⟩ = some v8 ∧ w.cell? ⟨g, 9, none⟩ = some v9 := ⟨(blk_cell h 0).trans rfl, (blk_cell h 1).trans rfl, (blk_cell h 2).trans rfl, (blk_cell h 3).trans rfl, (blk_cell h 4).trans rfl, (blk_cell h 5).trans rfl, (blk_cell h 6).trans rfl, (blk_cell h 7).trans rfl, (blk_cell h 8).trans rfl, (blk_cell h 9).trans rfl⟩
structure S61 where
  f0 : Int
  f1 : Int
  f2 : ByteArray
def z61 : S61 := ⟨(0 : Int), (0 : Int), (⟨#[]⟩ : ByteArray)⟩
def k61 : Kd S61 := Kd.iso (Kd.pair (Kd.int .u64) (Kd.pair (Kd.int .i64) Kd.string)) (fun x : S61 => (x.f0, x.f1, x.f2))
theorem k61_open {w : World} {x : S61} {cs : List Value} (h : k61.K w x cs) : cs = [.int .u64 x.f0, .int .i64 x.f1, .string x.f2] := by
  obtain ⟨_, _, rfl, rfl, ⟨_, _, rfl, rfl, rfl⟩⟩ := h
  exact rfl
theorem k61_mk (w : World) (x : S61)  : k61.K w x [.int .u64 x.f0, .int .i64 x.f1, .string x.f2] := ⟨[.int .u64 x.f0], [.int .i64 x.f1, .string x.f2], rfl, rfl, ⟨[.int .i64 x.f1], [.string x.f2], rfl, rfl, rfl⟩⟩
def rd_T61 (xs : List S61) (i : Int) : S61 := xs.getD i.toNat z61
theorem at_T61 {w : World} {A : Option Addr} {n : Nat} {xs : List S61} (h : Kd.C k61 w A n xs) (i : Int) (h0 : 0 ≤ i) (h1 : i < n) : ∃ ad , A = some ad ∧ w.cell? (ad.add (i.toNat * 3)) = some (.int .u64 (rd_T61 xs i).f0) ∧ w.cell? ⟨(ad.add (i.toNat * 3)).block, (ad.add (i.toNat * 3)).off + 1, none⟩ = some (.int .i64 (rd_T61 xs i).f1) ∧ w.cell? ⟨(ad.add (i.toNat * 3)).block, (ad.add (i.toNat * 3)).off + 2, none⟩ = some (.string (rd_T61 xs i).f2) := by
  obtain ⟨ad, c, e, _, hK, hc0⟩ := Kd.C_get h z61 i h0 h1
  have hc : ∀ j u, c[j]? = some u → w.cell? (ad.add (i.toNat * 3 + j)) = some u := hc0
  obtain rfl := k61_open hK
  exact ⟨ad, e, hc 0 _ rfl, by rw [← add_field _ _ 1 (by omega)]; exact hc 1 _ rfl, by rw [← add_field _ _ 2 (by omega)]; exact hc 2 _ rfl⟩
def flag_Shift.j0 : Nat → Int → Int → Int → Bool → Option (Int × Int)
 | 0, _, _, _, _ => none
 | k + 1, x0, x1, x2, x14 => if x14 = true then (some (0, 1)) else (if x1 = 0 then (if 0 ≤ x2 then (some (shl .u64 x0 x2, 0)) else (none)) else (if x1 = 3 then (if 0 ≤ (wrap64 (64 - x2)) then (if 0 ≤ x2 then (some (Go.bits .or .u64 (shr .u64 x0 x2) (shl .u64 x0 (wrap64 (64 - x2))), 0)) else (none)) else (none)) else (if x1 = 1 then (if 0 ≤ x2 then (some (Go.bits .or .u64 (shr .u64 x0 x2) 0, 0)) else (none)) else (if x1 = 2 then (if 0 ≤ x2 then (some (IntKind.u64.wrap (shr .i64 (wrap64 (x0)) x2), 0)) else (none)) else (some (0, 1))))))
def flag_Shift.f (k : Nat) (a0 : Int) (a1 : Int) (a2 : Int) : Option (Int × Int) := if a2 < 0 then (flag_Shift.j0 k a0 a1 a2 true) else (flag_Shift.j0 k a0 a1 a2 (decide (a2 ≥ 64)))
set_option maxHeartbeats 8000000 in
set_option maxRecDepth 100000 in
theorem flag_Shift.calls (k : Nat) (a0 : Int) (a1 : Int) (a2 : Int) (r1 : Int) (r2 : Int) (w : World) (h : flag_Shift.f k a0 a1 a2 = some (r1, r2)) :
    Calls Tryz.prog 368 #[.int .u64 a0, .int .i64 a1, .int .i64 a2] w fun e w' => e = .returned (.tuple #[.int .u64 r1, .int .i64 r2]) ∧ Drawn0 w w' := by
 have H : (if a2 < 0 then (flag_Shift.j0 k a0 a1 a2 true) else (flag_Shift.j0 k a0 a1 a2 (decide (a2 ≥ 64)))) = some (r1, r2) := h
 clear h
 have HC4 := aq H
 clear H
 go_enter Tryz.func368, Tryz.ntmps368
 go_upto_region 1 with (fail)
 go_cut [14] (fun v14 wc => ∃ (kq : Nat) (x14_3 : Bool), v14 = .bool x14_3 ∧ Aside0 (flag_Shift.j0 kq a0 a1 a2 x14_3 = some (r1, r2)) ∧ Aside0 (kq ≤ k) ∧ Drawn0 w wc)
 case first =>
  have H := HC4.out
  clear HC4
  (try (rw [drewN_self w]; have n0_ := fun n_ => pw_below_drewN HB.out n_; clear HB; generalize hq_ : World.drewN w _ = w; have HB := aq (hq_ ▸ n0_ _); clear hq_ n0_))
  by_cases c5 : a2 < 0
  ·
   rw [if_pos c5] at H
   have c5b0 : decide (a2 < 0) = true := decide_eq_true c5
   clear c5
   (first | rw [c5b0] | (simp only [i64_w, i32_w]; rw [c5b0]) | skip)
   have H' := aq H
   clear H
   go_wp2
   go_meet
   case rel => exact ⟨_, (true), (by first | rfl | (simp; done) | (simp [*]; done)), H', ⟨by first | omega | exact Nat.le_refl _⟩, by repeat (first | exact Drawn0.refl _ | apply Drawn0.step)⟩
  ·
   rw [if_neg c5] at H
   have c5b0 : decide (a2 < 0) = false := decide_eq_false c5
   clear c5
   (first | rw [c5b0] | (simp only [i64_w, i32_w]; rw [c5b0]) | skip)
   have H' := aq H
   clear H
   go_wp2
   go_meet
   case rel => exact ⟨_, (decide (a2 ≥ 64)), (by first | rfl | (simp; done) | (simp [*]; done)), H', ⟨by first | omega | exact Nat.le_refl _⟩, by repeat (first | exact Drawn0.refl _ | apply Drawn0.step)⟩
 case rest =>
  clear HC4
  try clear p2
  try clear c3
  try clear c5
  try clear c5b0
  obtain ⟨kq, x14_3, rfl, HA, HJ3, ⟨mc3, rfl⟩⟩ := hcut
  cases kq with
  | zero => exact absurd HA.out (by simp [flag_Shift.j0])
  | succ kj3 =>
   have H := HA.out
   clear HA
   simp only [flag_Shift.j0] at H
   by_cases c6 : x14_3 = true
   ·
    subst c6
    have H1 : (some (0, 1)) = some (r1, r2) := by rw [if_pos rfl] at H; exact H
    clear H
    have H := H1
    clear H1
    simp only [Option.some.injEq, Prod.mk.injEq] at H
    obtain ⟨rfl, rfl⟩ := H
    go_wp2
    go_ret2
    exact ⟨by first | rfl | (simp; done) | (simp [*]; done), by repeat (first | exact Drawn0.refl _ | apply Drawn0.step)⟩
   ·
    replace c6 := Bool.eq_false_iff.mpr c6
    subst c6
    have H1 : (if a1 = 0 then (if 0 ≤ a2 then (some (shl .u64 a0 a2, 0)) else (none)) else (if a1 = 3 then (if 0 ≤ (wrap64 (64 - a2)) then (if 0 ≤ a2 then (some (Go.bits .or .u64 (shr .u64 a0 a2) (shl .u64 a0 (wrap64 (64 - a2))), 0)) else (none)) else (none)) else (if a1 = 1 then (if 0 ≤ a2 then (some (Go.bits .or .u64 (shr .u64 a0 a2) 0, 0)) else (none)) else (if a1 = 2 then (if 0 ≤ a2 then (some (IntKind.u64.wrap (shr .i64 (wrap64 (a0)) a2), 0)) else (none)) else (some (0, 1)))))) = some (r1, r2) := by rw [if_neg (show ¬ (false = true) by decide)] at H; exact H
    clear H
    have H := H1
    clear H1
    by_cases c7 : a1 = 0
    ·
     rw [if_pos c7] at H
     have c7b0 : (a1 == 0) = true := beq_iff_eq.mpr c7
     have c7b1 : (a1 != 0) = false := bne_eq_false_iff_eq.mpr c7
     clear c7
     by_cases c8 : 0 ≤ a2
     ·
      rw [if_pos c8] at H
      have c8b0 := eq_true c8
      have c8b1 : decide (0 ≤ a2) = true := decide_eq_true c8
      clear c8
      obtain ⟨ji9, hji9⟩ : ∃ j_ : Int, (shl .u64 a0 a2) = j_ := ⟨_, rfl⟩
      replace H : (some (ji9, 0)) = some (r1, r2) := by first | (rw [hji9] at H; exact H) | (simp only [hji9] at H ⊢; exact H)
      have hji9_ : (IntKind.u64.wrap (a0 * 2 ^ min a2.toNat 64)) = ji9 := hji9
      have hji9z : a2 ≤ 64 → (IntKind.u64.wrap (a0 * 2 ^ a2.toNat)) = ji9 := shl_small hji9
      simp only [Option.some.injEq, Prod.mk.injEq] at H
      obtain ⟨rfl, rfl⟩ := H
      go_wp2
      go_ret2
      exact ⟨by first | rfl | (simp; done) | (simp only [← hji9] <;> (first | rfl | simp)) | (simp [*]; done), by repeat (first | exact Drawn0.refl _ | apply Drawn0.step)⟩
     ·
      rw [if_neg c8] at H
      exact absurd H (by simp)
    ·
     rw [if_neg c7] at H
     have c7b0 : (a1 == 0) = false := beq_eq_false_iff_ne.mpr c7
     have c7b1 : (a1 != 0) = true := bne_iff_ne.mpr c7
     by_cases c10 : a1 = 3
     ·
      rw [if_pos c10] at H
      have c10b0 : (a1 == 3) = true := beq_iff_eq.mpr c10
      have c10b1 : (a1 != 3) = false := bne_eq_false_iff_eq.mpr c10
      clear c10
      obtain ⟨ji11, hji11⟩ : ∃ j_ : Int, (wrap64 (64 - a2)) = j_ := ⟨_, rfl⟩
      replace H : (if 0 ≤ (ji11) then (if 0 ≤ a2 then (some (Go.bits .or .u64 (shr .u64 a0 a2) (shl .u64 a0 (ji11)), 0)) else (none)) else (none)) = some (r1, r2) := by first | (rw [hji11] at H; exact H) | (simp only [hji11] at H ⊢; exact H)
      have hji11w : (IntKind.i64.wrap (64 - a2)) = ji11 := (i64_w _).trans hji11
      by_cases c12 : 0 ≤ (ji11)
      ·
       rw [if_pos c12] at H
       have c12b0 := eq_true c12
       have c12b1 : decide (0 ≤ (ji11)) = true := decide_eq_true c12
       clear c12
       obtain ⟨ji13, hji13⟩ : ∃ j_ : Int, (shl .u64 a0 (ji11)) = j_ := ⟨_, rfl⟩
       replace H : (if 0 ≤ a2 then (some (Go.bits .or .u64 (shr .u64 a0 a2) (ji13), 0)) else (none)) = some (r1, r2) := by first | (rw [hji13] at H; exact H) | (simp only [hji13] at H ⊢; exact H)
       have hji13_ : (IntKind.u64.wrap (a0 * 2 ^ min (ji11).toNat 64)) = ji13 := hji13
       have hji13z : (ji11) ≤ 64 → (IntKind.u64.wrap (a0 * 2 ^ (ji11).toNat)) = ji13 := shl_small hji13
       by_cases c14 : 0 ≤ a2
       ·
        rw [if_pos c14] at H
        have c14b0 := eq_true c14
        have c14b1 : decide (0 ≤ a2) = true := decide_eq_true c14
        clear c14
        obtain ⟨ji15, hji15⟩ : ∃ j_ : Int, (shr .u64 a0 a2) = j_ := ⟨_, rfl⟩
        replace H : (some (Go.bits .or .u64 (ji15) (ji13), 0)) = some (r1, r2) := by first | (rw [hji15] at H; exact H) | (simp only [hji15] at H ⊢; exact H)
        have hji15_ : (a0 / 2 ^ min a2.toNat 64) = ji15 := hji15
        have hji15z : a2 ≤ 64 → (a0 / 2 ^ a2.toNat) = ji15 := shr_small hji15
        simp only [Option.some.injEq, Prod.mk.injEq] at H
        obtain ⟨rfl, rfl⟩ := H
        go_wp2
        go_ret2
        exact ⟨by first | rfl | (simp; done) | (simp only [← hji11, ← hji13, ← hji15] <;> (first | rfl | simp)) | (simp [*]; done), by repeat (first | exact Drawn0.refl _ | apply Drawn0.step)⟩
       ·
        rw [if_neg c14] at H
        exact absurd H (by simp)
      ·
       rw [if_neg c12] at H
       exact absurd H (by simp)
     ·
      rw [if_neg c10] at H
      have c10b0 : (a1 == 3) = false := beq_eq_false_iff_ne.mpr c10
      have c10b1 : (a1 != 3) = true := bne_iff_ne.mpr c10
      by_cases c16 : a1 = 1
      ·
       rw [if_pos c16] at H
       have c16b0 : (a1 == 1) = true := beq_iff_eq.mpr c16
       have c16b1 : (a1 != 1) = false := bne_eq_false_iff_eq.mpr c16
       clear c16
       by_cases c17 : 0 ≤ a2
       ·
        rw [if_pos c17] at H
        have c17b0 := eq_true c17
        have c17b1 : decide (0 ≤ a2) = true := decide_eq_true c17
        clear c17
        obtain ⟨ji18, hji18⟩ : ∃ j_ : Int, (shr .u64 a0 a2) = j_ := ⟨_, rfl⟩
        replace H : (some (Go.bits .or .u64 (ji18) 0, 0)) = some (r1, r2) := by first | (rw [hji18] at H; exact H) | (simp only [hji18] at H ⊢; exact H)
        have hji18_ : (a0 / 2 ^ min a2.toNat 64) = ji18 := hji18
        have hji18z : a2 ≤ 64 → (a0 / 2 ^ a2.toNat) = ji18 := shr_small hji18
        simp only [Option.some.injEq, Prod.mk.injEq] at H
        obtain ⟨rfl, rfl⟩ := H
        go_wp2
        go_ret2
        exact ⟨by first | rfl | (simp; done) | (simp only [← hji18] <;> (first | rfl | simp)) | (simp [*]; done), by repeat (first | exact Drawn0.refl _ | apply Drawn0.step)⟩
       ·
        rw [if_neg c17] at H
        exact absurd H (by simp)
      ·
       rw [if_neg c16] at H
       have c16b0 : (a1 == 1) = false := beq_eq_false_iff_ne.mpr c16
       have c16b1 : (a1 != 1) = true := bne_iff_ne.mpr c16
       by_cases c19 : a1 = 2
       ·
        rw [if_pos c19] at H
        have c19b0 : (a1 == 2) = true := beq_iff_eq.mpr c19
        have c19b1 : (a1 != 2) = false := bne_eq_false_iff_eq.mpr c19
        clear c19
        by_cases c20 : 0 ≤ a2
        ·
         rw [if_pos c20] at H
         have c20b0 := eq_true c20
         have c20b1 : decide (0 ≤ a2) = true := decide_eq_true c20
         clear c20
         obtain ⟨ji21, hji21⟩ : ∃ j_ : Int, (shr .i64 (wrap64 (a0)) a2) = j_ := ⟨_, rfl⟩
         replace H : (some (IntKind.u64.wrap (ji21), 0)) = some (r1, r2) := by first | (rw [hji21] at H; exact H) | (simp only [hji21] at H ⊢; exact H)
         have hji21_ : ((wrap64 (a0)) / 2 ^ min a2.toNat 64) = ji21 := hji21
         have hji21z : a2 ≤ 64 → ((wrap64 (a0)) / 2 ^ a2.toNat) = ji21 := shr_small hji21
         simp only [Option.some.injEq, Prod.mk.injEq] at H
         obtain ⟨rfl, rfl⟩ := H
         go_wp2
         go_ret2
         exact ⟨by first | rfl | (simp; done) | (simp only [← hji21] <;> (first | rfl | simp)) | (simp [*]; done), by repeat (first | exact Drawn0.refl _ | apply Drawn0.step)⟩
        ·
         rw [if_neg c20] at H
         exact absurd H (by simp)
       ·
        rw [if_neg c19] at H
        have c19b0 : (a1 == 2) = false := beq_eq_false_iff_ne.mpr c19
        have c19b1 : (a1 != 2) = true := bne_iff_ne.mpr c19
        simp only [Option.some.injEq, Prod.mk.injEq] at H
        obtain ⟨rfl, rfl⟩ := H
        go_wp2
        go_ret2
        exact ⟨by first | rfl | (simp; done) | (simp [*]; done), by repeat (first | exact Drawn0.refl _ | apply Drawn0.step)⟩
def flag_Of.f (a0 : Int) : Option (Bool × Bool × Bool × Bool) := some (decide (wrap64 a0 < 0), (a0 == 0), false, false)
theorem flag_Of.exact (a0 : Int) (w : World) :
    Calls Tryz.prog 352 #[.int .u64 a0] w fun e w' => e = .returned (.agg #[.bool (decide (wrap64 a0 < 0)), .bool (a0 == 0), .bool false, .bool false]) ∧
      w.alloc (.cells #[.bool (decide (wrap64 a0 < 0)), .bool (a0 == 0), .bool false, .bool false] 25) = w' := by
  go_enter Tryz.func352, Tryz.ntmps352
  go_wp2
  exact bodyPost_ret (v := .agg #[.bool (decide (wrap64 a0 < 0)), .bool (a0 == 0), .bool false, .bool false]) (by simp [results, Tryz.results352, go_sem]) rfl ⟨rfl, rfl⟩
theorem flag_Of.calls (a0 : Int) (r1 : Bool) (r2 : Bool) (r3 : Bool) (r4 : Bool) (w : World) (h : flag_Of.f a0 = some (r1, r2, r3, r4)) :
    Calls Tryz.prog 352 #[.int .u64 a0] w fun e w' => e = .returned (.agg #[.bool r1, .bool r2, .bool r3, .bool r4]) ∧ Below w.heap.size w w' := by
  simp only [flag_Of.f, Option.some.injEq, Prod.mk.injEq] at h
  obtain ⟨rfl, rfl, rfl, rfl⟩ := h
  refine (flag_Of.exact a0 w).mono ?_
  rintro e w1 ⟨rfl, rfl⟩
  exact ⟨rfl, (Below.refl _ _).alloc (Nat.le_refl _) _⟩
theorem run_Add64 (x y c : Int) (hx : 0 ≤ x) (hy : 0 ≤ y) (hc0 : 0 ≤ c) (hc : c ≤ 1) (w : World) :
    (callFunc 369 #[.int .u64 x, .int .u64 y, .int .u64 c]).run Tryz.prog w =
      .ok (.value (.tuple #[.int .u64 ((x + y + c) % 18446744073709551616), .int .u64 ((x + y + c) / 18446744073709551616)])) w := by
  rw [run_callFunc_extern Tryz.func369 (by kernel_rfl) (by kernel_rfl) (by kernel_rfl) (e := add64Entry) (by kernel_rfl), run_add64 x y c hx hy hc0 hc]
  rfl
def flag_sum (a0 a1 : Int) (a2 : Bool) : Int := (a0 + a1 + (if a2 = true then 1 else 0)) % 18446744073709551616
def flag_Add.f (a0 : Int) (a1 : Int) (a2 : Bool) : Option (Int × Bool × Bool × Bool × Bool) :=
  if 0 ≤ a0 then (if 0 ≤ a1 then some (flag_sum a0 a1 a2, decide (wrap64 (flag_sum a0 a1 a2) < 0), flag_sum a0 a1 a2 == 0, (a0 + a1 + (if a2 = true then 1 else 0)) / 18446744073709551616 == 1,
    decide (wrap64 (Go.bits .and .u64 (Go.bits .xor .u64 a0 (flag_sum a0 a1 a2)) (Go.bits .xor .u64 a1 (flag_sum a0 a1 a2))) < 0)) else none) else none
set_option maxHeartbeats 8000000 in
set_option maxRecDepth 100000 in
theorem flag_Add.calls (a0 : Int) (a1 : Int) (a2 : Bool) (r1 : Int) (r2 : Bool) (r3 : Bool) (r4 : Bool) (r5 : Bool) (w : World) (h : flag_Add.f a0 a1 a2 = some (r1, r2, r3, r4, r5)) :
    Calls Tryz.prog 350 #[.int .u64 a0, .int .u64 a1, .bool a2] w fun e w' => e = .returned (.tuple #[.int .u64 r1, .agg #[.bool r2, .bool r3, .bool r4, .bool r5]]) ∧ Below w.heap.size w w' := by
  by_cases h0 : 0 ≤ a0
  · by_cases h1 : 0 ≤ a1
    · simp only [flag_Add.f, h0, h1, if_true, Option.some.injEq, Prod.mk.injEq] at h
      obtain ⟨rfl, rfl, rfl, rfl, rfl⟩ := h
      cases a2
      · have hr := fun W => run_Add64 a0 a1 0 h0 h1 (by omega) (by omega) W
        simp only [flag_sum, Bool.false_eq_true, if_false, Int.add_zero]
        go_enter Tryz.func350, Tryz.ntmps350
        go_wp2_with (first | (go_at_call 352; refine (flag_Of.exact _ _).mono ?_; rintro e w1 ⟨rfl, rfl⟩))
        go_region
        all_goals go_wp2
        all_goals refine bodyPost_ret (v := .tuple #[.int .u64 _, .agg #[.bool _, .bool _, .bool _, .bool _]]) (by simp [results, Tryz.results350, go_sem]) rfl ⟨rfl, ?_⟩
        all_goals repeat (first | exact Below.refl _ _ | apply below_drew | apply below_alloc)
      · have hr := fun W => run_Add64 a0 a1 1 h0 h1 (by omega) (by omega) W
        simp only [flag_sum, if_true]
        go_enter Tryz.func350, Tryz.ntmps350
        go_wp2_with (first | (go_at_call 352; refine (flag_Of.exact _ _).mono ?_; rintro e w1 ⟨rfl, rfl⟩))
        go_region
        all_goals go_wp2
        all_goals refine bodyPost_ret (v := .tuple #[.int .u64 _, .agg #[.bool _, .bool _, .bool _, .bool _]]) (by simp [results, Tryz.results350, go_sem]) rfl ⟨rfl, ?_⟩
        all_goals repeat (first | exact Below.refl _ _ | apply below_drew | apply below_alloc)
    · simp [flag_Add.f, h1] at h
  · simp [flag_Add.f, h0] at h
def flag_Sub.f (a0 : Int) (a1 : Int) : Option (Int × Bool × Bool × Bool × Bool) := (flag_Add.f a0 (Go.bits .xor .u64 18446744073709551615 a1) true).bind fun bt126 => (some (bt126.1, bt126.2.1, bt126.2.2.1, bt126.2.2.2.1, bt126.2.2.2.2))
set_option maxHeartbeats 8000000 in
set_option maxRecDepth 100000 in
theorem flag_Sub.calls (a0 : Int) (a1 : Int) (r1 : Int) (r2 : Bool) (r3 : Bool) (r4 : Bool) (r5 : Bool) (w : World) (h : flag_Sub.f a0 a1 = some (r1, r2, r3, r4, r5)) :
    Calls Tryz.prog 351 #[.int .u64 a0, .int .u64 a1] w fun e w' => e = .returned (.tuple #[.int .u64 r1, .agg #[.bool r2, .bool r3, .bool r4, .bool r5]]) ∧ Below w.heap.size w w' := by
 have hu25 := Tryz.underlying25
 have HB := aq (Below.refl w.heap.size w)
 have H : ((flag_Add.f a0 (Go.bits .xor .u64 18446744073709551615 a1) true).bind fun bt126 => (some (bt126.1, bt126.2.1, bt126.2.2.1, bt126.2.2.2.1, bt126.2.2.2.2))) = some (r1, r2, r3, r4, r5) := h
 clear h
 replace H := Option.bind_eq_some_iff.mp H
 obtain ⟨⟨t126, t127, t128, t129, t130⟩, A30, H⟩ := H
 replace H : (some (t126, t127, t128, t129, t130)) = some (r1, r2, r3, r4, r5) := H
 have A3 := aq A30
 clear A30
 simp only [Option.some.injEq, Prod.mk.injEq] at H
 obtain ⟨rfl, rfl, rfl, rfl, rfl⟩ := H
 go_enter Tryz.func351, Tryz.ntmps351
 go_wp2_with (first | ((with_reducible refine gate_dst (N := 5) rfl ?_); refine box_event ?hg (N := 5) ?hd (cs := #[.bool false, .bool false, .bool false, .bool false]) (t := 25) ?hr ?_; (case hd => rfl); (case hg => rfl); (case hr => first | (go_simp; done) | (go_simp; rfl)); intro gb125 hg w4 hbox hb; have n0_ := aq (below_step (by repeat (first | (with_reducible first | exact HB.out | apply below_alloc | apply pw_below_drewN | apply below_drew1) | exact HB.out)) hb); have n1_ := aq (hbox); have n2_ := aq ((by rw [hg]; exact (below_size (by repeat (first | (with_reducible first | exact HB.out | apply below_alloc | apply pw_below_drewN | apply below_drew1) | exact HB.out))) : w.heap.size ≤ gb125)); have n3_ := aq ((by rw [hg]; exact (below_size (by repeat (first | (with_reducible first | exact HB.out | apply below_alloc | apply pw_below_drewN | apply below_drew1) | exact HB.out))) : w.heap.size ≤ gb125)); clear HB; have HB := n0_; have BK125 := n1_; have GW125 := n2_; have GE125 := n3_; clear n0_ n1_ n2_ n3_; clear hb hbox hg) | ((with_reducible refine gate_callee (f := 350) rfl ?_); refine goesL_ (some 9) rfl rfl Tryz.func350 (by kernel_rfl) rfl #[.int .u64 a0, .int .u64 (Go.bits .xor .u64 18446744073709551615 a1), .bool true] rfl (by (try simp only [List.map_toArray, List.map_cons, List.map_nil]); first | done | rfl | (simp only [List.length_drop, List.length_take]; rfl)) ?_; (with_reducible refine (flag_Add.calls a0 (Go.bits .xor .u64 18446744073709551615 a1) true t126 t127 t128 t129 t130 _ A3.out).mono ?_); rintro e w5 ⟨rfl, hb⟩; refine ⟨_, rfl, ?_⟩; have n0_ := aq (blk_below (g := gb125) (o := .cells #[.bool false, .bool false, .bool false, .bool false] 25 (0, 0)) (by (with_reducible repeat (first | refine blk_drewN ?_ _ | refine blk_drew ?_ | refine blk_alloc ?_ _)); exact BK125.out) hb); have n1_ := aq (below_step (by repeat (first | (with_reducible first | exact HB.out | apply below_alloc | apply pw_below_drewN | apply below_drew1 | refine below_set ?_ GE125.out) | exact HB.out)) hb); clear BK125; clear HB; have BK125 := n0_; have HB := n1_; clear n0_ n1_; (try clear hb); (try clear hb2); (try clear hk); (try clear hi); obtain ⟨hcz6_0, hcz6_1, hcz6_2, hcz6_3⟩ := cells4_ BK125.out; have hfz6_0 := fun j => blk_frozen BK125.out j))
 refine bodyPost_ret (results_tc rfl _ _ gb125 25 #[.bool t127, .bool t128, .bool t129, .bool t130] (0, 0) _ rfl (by (with_reducible repeat (first | refine blk_drewN ?_ _ | refine blk_drew ?_ | refine blk_alloc ?_ _)); refine blk_put (cs := #[.bool t127, .bool t128, .bool t129, .bool false]) ?_ 3 _ rfl; (with_reducible repeat (first | refine blk_drewN ?_ _ | refine blk_drew ?_ | refine blk_alloc ?_ _)); refine blk_put (cs := #[.bool t127, .bool t128, .bool false, .bool false]) ?_ 2 _ rfl; (with_reducible repeat (first | refine blk_drewN ?_ _ | refine blk_drew ?_ | refine blk_alloc ?_ _)); refine blk_put (cs := #[.bool t127, .bool false, .bool false, .bool false]) ?_ 1 _ rfl; (with_reducible repeat (first | refine blk_drewN ?_ _ | refine blk_drew ?_ | refine blk_alloc ?_ _)); refine blk_put (cs := #[.bool false, .bool false, .bool false, .bool false]) ?_ 0 _ rfl; (with_reducible repeat (first | refine blk_drewN ?_ _ | refine blk_drew ?_ | refine blk_alloc ?_ _)); exact BK125.out) Tryz.underlying25 rfl (by kernel_rfl)) rfl ?_
 exact ⟨by first | rfl | (simp [errW_none, errW_some] <;> rfl) | (simp [*, errW_none, errW_some] <;> rfl), by repeat (first | (with_reducible first | exact HB.out | apply below_alloc | apply pw_below_drewN | apply below_drew1 | refine below_set ?_ GE125.out) | exact HB.out)⟩
def flag_Holds.base (c : Int) (n z cc v : Bool) : Bool := if c = 0 then z else if c = 1 then cc else if c = 2 then n else if c = 3 then v else if c = 4 then cc && !z else if c = 5 then n == v else !z && n == v
def flag_Holds.f (a0 : Int) (a1_0 : Bool) (a1_1 : Bool) (a1_2 : Bool) (a1_3 : Bool) : Option (Bool × Int) :=
  if 0 ≤ a0 ∧ a0 < 14 then some (flag_Holds.base (a0 / 2) a1_0 a1_1 a1_2 a1_3 == decide (a0 % 2 = 0), 0) else some (false, 1)
set_option maxHeartbeats 4000000 in
theorem flag_Holds.ask1 (n z c v : Bool) (w : World) : Calls Tryz.prog 247 #[.agg #[.bool n, .bool z, .bool c, .bool v]] w fun e w' =>
    e = .returned (.bool z) ∧ ∃ k, (w.alloc (.cells #[.bool n, .bool z, .bool c, .bool v] 25)).drewN k = w' := by
  cases n <;> cases z <;> cases c <;> cases v <;>
    (go_enter Tryz.func247, Tryz.ntmps247; go_wp2; (try (go_quiet (fail))); (try go_wp2); go_ret; exact ⟨rfl, by first | exact ⟨0, rfl⟩ | exact ⟨_, rfl⟩⟩)
set_option maxHeartbeats 4000000 in
theorem flag_Holds.ask2 (n z c v : Bool) (w : World) : Calls Tryz.prog 248 #[.agg #[.bool n, .bool z, .bool c, .bool v]] w fun e w' =>
    e = .returned (.bool c) ∧ ∃ k, (w.alloc (.cells #[.bool n, .bool z, .bool c, .bool v] 25)).drewN k = w' := by
  cases n <;> cases z <;> cases c <;> cases v <;>
    (go_enter Tryz.func248, Tryz.ntmps248; go_wp2; (try (go_quiet (fail))); (try go_wp2); go_ret; exact ⟨rfl, by first | exact ⟨0, rfl⟩ | exact ⟨_, rfl⟩⟩)
set_option maxHeartbeats 4000000 in
theorem flag_Holds.ask3 (n z c v : Bool) (w : World) : Calls Tryz.prog 249 #[.agg #[.bool n, .bool z, .bool c, .bool v]] w fun e w' =>
    e = .returned (.bool n) ∧ ∃ k, (w.alloc (.cells #[.bool n, .bool z, .bool c, .bool v] 25)).drewN k = w' := by
  cases n <;> cases z <;> cases c <;> cases v <;>
    (go_enter Tryz.func249, Tryz.ntmps249; go_wp2; (try (go_quiet (fail))); (try go_wp2); go_ret; exact ⟨rfl, by first | exact ⟨0, rfl⟩ | exact ⟨_, rfl⟩⟩)
set_option maxHeartbeats 4000000 in
theorem flag_Holds.ask4 (n z c v : Bool) (w : World) : Calls Tryz.prog 250 #[.agg #[.bool n, .bool z, .bool c, .bool v]] w fun e w' =>
    e = .returned (.bool v) ∧ ∃ k, (w.alloc (.cells #[.bool n, .bool z, .bool c, .bool v] 25)).drewN k = w' := by
  cases n <;> cases z <;> cases c <;> cases v <;>
    (go_enter Tryz.func250, Tryz.ntmps250; go_wp2; (try (go_quiet (fail))); (try go_wp2); go_ret; exact ⟨rfl, by first | exact ⟨0, rfl⟩ | exact ⟨_, rfl⟩⟩)
set_option maxHeartbeats 4000000 in
theorem flag_Holds.ask5 (n z c v : Bool) (w : World) : Calls Tryz.prog 251 #[.agg #[.bool n, .bool z, .bool c, .bool v]] w fun e w' =>
    e = .returned (.bool (c && !z)) ∧ ∃ k, (w.alloc (.cells #[.bool n, .bool z, .bool c, .bool v] 25)).drewN k = w' := by
  cases n <;> cases z <;> cases c <;> cases v <;>
    (go_enter Tryz.func251, Tryz.ntmps251; go_wp2; (try (go_quiet (fail))); (try go_wp2); go_ret; exact ⟨rfl, by first | exact ⟨0, rfl⟩ | exact ⟨_, rfl⟩⟩)
set_option maxHeartbeats 4000000 in
theorem flag_Holds.ask6 (n z c v : Bool) (w : World) : Calls Tryz.prog 252 #[.agg #[.bool n, .bool z, .bool c, .bool v]] w fun e w' =>
    e = .returned (.bool (n == v)) ∧ ∃ k, (w.alloc (.cells #[.bool n, .bool z, .bool c, .bool v] 25)).drewN k = w' := by
  cases n <;> cases z <;> cases c <;> cases v <;>
    (go_enter Tryz.func252, Tryz.ntmps252; go_wp2; (try (go_quiet (fail))); (try go_wp2); go_ret; exact ⟨rfl, by first | exact ⟨0, rfl⟩ | exact ⟨_, rfl⟩⟩)
set_option maxHeartbeats 4000000 in
theorem flag_Holds.ask7 (n z c v : Bool) (w : World) : Calls Tryz.prog 253 #[.agg #[.bool n, .bool z, .bool c, .bool v]] w fun e w' =>
    e = .returned (.bool (!z && n == v)) ∧ ∃ k, (w.alloc (.cells #[.bool n, .bool z, .bool c, .bool v] 25)).drewN k = w' := by
  cases n <;> cases z <;> cases c <;> cases v <;>
    (go_enter Tryz.func253, Tryz.ntmps253; go_wp2; (try (go_quiet (fail))); (try go_wp2); go_ret; exact ⟨rfl, by first | exact ⟨0, rfl⟩ | exact ⟨_, rfl⟩⟩)
set_option maxHeartbeats 8000000 in
set_option maxRecDepth 100000 in
theorem flag_Holds.at0 (a1_0 : Bool) (a1_1 : Bool) (a1_2 : Bool) (a1_3 : Bool) (w : World) :
    Calls Tryz.prog 159 #[.int .i64 0, .agg #[.bool a1_0, .bool a1_1, .bool a1_2, .bool a1_3]] w fun e w' => e = .returned (.tuple #[.bool (a1_1 == true), .int .i64 0]) ∧ Below w.heap.size w w' := by
  go_enter Tryz.func159, Tryz.ntmps159
  go_wp2
  go_region_with (go_at_call 247; refine (flag_Holds.ask1 _ _ _ _ _).mono ?_; rintro e w1 ⟨rfl, k, rfl⟩)
  all_goals go_wp2
  all_goals go_ret2
  all_goals refine ⟨by simp [Act.put], ?_⟩
  all_goals repeat (first | exact Below.refl _ _ | apply below_drew | apply pw_below_drewN | apply below_alloc)
set_option maxHeartbeats 8000000 in
set_option maxRecDepth 100000 in
theorem flag_Holds.at1 (a1_0 : Bool) (a1_1 : Bool) (a1_2 : Bool) (a1_3 : Bool) (w : World) :
    Calls Tryz.prog 159 #[.int .i64 1, .agg #[.bool a1_0, .bool a1_1, .bool a1_2, .bool a1_3]] w fun e w' => e = .returned (.tuple #[.bool (a1_1 == false), .int .i64 0]) ∧ Below w.heap.size w w' := by
  go_enter Tryz.func159, Tryz.ntmps159
  go_wp2
  go_region_with (go_at_call 247; refine (flag_Holds.ask1 _ _ _ _ _).mono ?_; rintro e w1 ⟨rfl, k, rfl⟩)
  all_goals go_wp2
  all_goals go_ret2
  all_goals refine ⟨by simp [Act.put], ?_⟩
  all_goals repeat (first | exact Below.refl _ _ | apply below_drew | apply pw_below_drewN | apply below_alloc)
set_option maxHeartbeats 8000000 in
set_option maxRecDepth 100000 in
theorem flag_Holds.at2 (a1_0 : Bool) (a1_1 : Bool) (a1_2 : Bool) (a1_3 : Bool) (w : World) :
    Calls Tryz.prog 159 #[.int .i64 2, .agg #[.bool a1_0, .bool a1_1, .bool a1_2, .bool a1_3]] w fun e w' => e = .returned (.tuple #[.bool (a1_2 == true), .int .i64 0]) ∧ Below w.heap.size w w' := by
  go_enter Tryz.func159, Tryz.ntmps159
  go_wp2
  go_region_with (go_at_call 248; refine (flag_Holds.ask2 _ _ _ _ _).mono ?_; rintro e w1 ⟨rfl, k, rfl⟩)
  all_goals go_wp2
  all_goals go_ret2
  all_goals refine ⟨by simp [Act.put], ?_⟩
  all_goals repeat (first | exact Below.refl _ _ | apply below_drew | apply pw_below_drewN | apply below_alloc)
set_option maxHeartbeats 8000000 in
set_option maxRecDepth 100000 in
theorem flag_Holds.at3 (a1_0 : Bool) (a1_1 : Bool) (a1_2 : Bool) (a1_3 : Bool) (w : World) :
    Calls Tryz.prog 159 #[.int .i64 3, .agg #[.bool a1_0, .bool a1_1, .bool a1_2, .bool a1_3]] w fun e w' => e = .returned (.tuple #[.bool (a1_2 == false), .int .i64 0]) ∧ Below w.heap.size w w' := by
  go_enter Tryz.func159, Tryz.ntmps159
  go_wp2
  go_region_with (go_at_call 248; refine (flag_Holds.ask2 _ _ _ _ _).mono ?_; rintro e w1 ⟨rfl, k, rfl⟩)
  all_goals go_wp2
  all_goals go_ret2
  all_goals refine ⟨by simp [Act.put], ?_⟩
  all_goals repeat (first | exact Below.refl _ _ | apply below_drew | apply pw_below_drewN | apply below_alloc)
set_option maxHeartbeats 8000000 in
set_option maxRecDepth 100000 in
theorem flag_Holds.at4 (a1_0 : Bool) (a1_1 : Bool) (a1_2 : Bool) (a1_3 : Bool) (w : World) :
    Calls Tryz.prog 159 #[.int .i64 4, .agg #[.bool a1_0, .bool a1_1, .bool a1_2, .bool a1_3]] w fun e w' => e = .returned (.tuple #[.bool (a1_0 == true), .int .i64 0]) ∧ Below w.heap.size w w' := by
  go_enter Tryz.func159, Tryz.ntmps159
  go_wp2
  go_region_with (go_at_call 249; refine (flag_Holds.ask3 _ _ _ _ _).mono ?_; rintro e w1 ⟨rfl, k, rfl⟩)
  all_goals go_wp2
  all_goals go_ret2
  all_goals refine ⟨by simp [Act.put], ?_⟩
  all_goals repeat (first | exact Below.refl _ _ | apply below_drew | apply pw_below_drewN | apply below_alloc)
set_option maxHeartbeats 8000000 in
set_option maxRecDepth 100000 in
theorem flag_Holds.at5 (a1_0 : Bool) (a1_1 : Bool) (a1_2 : Bool) (a1_3 : Bool) (w : World) :
    Calls Tryz.prog 159 #[.int .i64 5, .agg #[.bool a1_0, .bool a1_1, .bool a1_2, .bool a1_3]] w fun e w' => e = .returned (.tuple #[.bool (a1_0 == false), .int .i64 0]) ∧ Below w.heap.size w w' := by
  go_enter Tryz.func159, Tryz.ntmps159
  go_wp2
  go_region_with (go_at_call 249; refine (flag_Holds.ask3 _ _ _ _ _).mono ?_; rintro e w1 ⟨rfl, k, rfl⟩)
  all_goals go_wp2
  all_goals go_ret2
  all_goals refine ⟨by simp [Act.put], ?_⟩
  all_goals repeat (first | exact Below.refl _ _ | apply below_drew | apply pw_below_drewN | apply below_alloc)
set_option maxHeartbeats 8000000 in
set_option maxRecDepth 100000 in
theorem flag_Holds.at6 (a1_0 : Bool) (a1_1 : Bool) (a1_2 : Bool) (a1_3 : Bool) (w : World) :
    Calls Tryz.prog 159 #[.int .i64 6, .agg #[.bool a1_0, .bool a1_1, .bool a1_2, .bool a1_3]] w fun e w' => e = .returned (.tuple #[.bool (a1_3 == true), .int .i64 0]) ∧ Below w.heap.size w w' := by
  go_enter Tryz.func159, Tryz.ntmps159
  go_wp2
  go_region_with (go_at_call 250; refine (flag_Holds.ask4 _ _ _ _ _).mono ?_; rintro e w1 ⟨rfl, k, rfl⟩)
  all_goals go_wp2
  all_goals go_ret2
  all_goals refine ⟨by simp [Act.put], ?_⟩
  all_goals repeat (first | exact Below.refl _ _ | apply below_drew | apply pw_below_drewN | apply below_alloc)
set_option maxHeartbeats 8000000 in
set_option maxRecDepth 100000 in
theorem flag_Holds.at7 (a1_0 : Bool) (a1_1 : Bool) (a1_2 : Bool) (a1_3 : Bool) (w : World) :
    Calls Tryz.prog 159 #[.int .i64 7, .agg #[.bool a1_0, .bool a1_1, .bool a1_2, .bool a1_3]] w fun e w' => e = .returned (.tuple #[.bool (a1_3 == false), .int .i64 0]) ∧ Below w.heap.size w w' := by
  go_enter Tryz.func159, Tryz.ntmps159
  go_wp2
  go_region_with (go_at_call 250; refine (flag_Holds.ask4 _ _ _ _ _).mono ?_; rintro e w1 ⟨rfl, k, rfl⟩)
  all_goals go_wp2
  all_goals go_ret2
  all_goals refine ⟨by simp [Act.put], ?_⟩
  all_goals repeat (first | exact Below.refl _ _ | apply below_drew | apply pw_below_drewN | apply below_alloc)
set_option maxHeartbeats 8000000 in
set_option maxRecDepth 100000 in
theorem flag_Holds.at8 (a1_0 : Bool) (a1_1 : Bool) (a1_2 : Bool) (a1_3 : Bool) (w : World) :
    Calls Tryz.prog 159 #[.int .i64 8, .agg #[.bool a1_0, .bool a1_1, .bool a1_2, .bool a1_3]] w fun e w' => e = .returned (.tuple #[.bool ((a1_2 && !a1_1) == true), .int .i64 0]) ∧ Below w.heap.size w w' := by
  go_enter Tryz.func159, Tryz.ntmps159
  go_wp2
  go_region_with (go_at_call 251; refine (flag_Holds.ask5 _ _ _ _ _).mono ?_; rintro e w1 ⟨rfl, k, rfl⟩)
  all_goals go_wp2
  all_goals go_ret2
  all_goals refine ⟨by simp [Act.put], ?_⟩
  all_goals repeat (first | exact Below.refl _ _ | apply below_drew | apply pw_below_drewN | apply below_alloc)
set_option maxHeartbeats 8000000 in
set_option maxRecDepth 100000 in
theorem flag_Holds.at9 (a1_0 : Bool) (a1_1 : Bool) (a1_2 : Bool) (a1_3 : Bool) (w : World) :
    Calls Tryz.prog 159 #[.int .i64 9, .agg #[.bool a1_0, .bool a1_1, .bool a1_2, .bool a1_3]] w fun e w' => e = .returned (.tuple #[.bool ((a1_2 && !a1_1) == false), .int .i64 0]) ∧ Below w.heap.size w w' := by
  go_enter Tryz.func159, Tryz.ntmps159
  go_wp2
  go_region_with (go_at_call 251; refine (flag_Holds.ask5 _ _ _ _ _).mono ?_; rintro e w1 ⟨rfl, k, rfl⟩)
  all_goals go_wp2
  all_goals go_ret2
  all_goals refine ⟨by simp [Act.put], ?_⟩
  all_goals repeat (first | exact Below.refl _ _ | apply below_drew | apply pw_below_drewN | apply below_alloc)
set_option maxHeartbeats 8000000 in
set_option maxRecDepth 100000 in
theorem flag_Holds.at10 (a1_0 : Bool) (a1_1 : Bool) (a1_2 : Bool) (a1_3 : Bool) (w : World) :
    Calls Tryz.prog 159 #[.int .i64 10, .agg #[.bool a1_0, .bool a1_1, .bool a1_2, .bool a1_3]] w fun e w' => e = .returned (.tuple #[.bool ((a1_0 == a1_3) == true), .int .i64 0]) ∧ Below w.heap.size w w' := by
  go_enter Tryz.func159, Tryz.ntmps159
  go_wp2
  go_region_with (go_at_call 252; refine (flag_Holds.ask6 _ _ _ _ _).mono ?_; rintro e w1 ⟨rfl, k, rfl⟩)
  all_goals go_wp2
  all_goals go_ret2
  all_goals refine ⟨by simp [Act.put], ?_⟩
  all_goals repeat (first | exact Below.refl _ _ | apply below_drew | apply pw_below_drewN | apply below_alloc)
set_option maxHeartbeats 8000000 in
set_option maxRecDepth 100000 in
theorem flag_Holds.at11 (a1_0 : Bool) (a1_1 : Bool) (a1_2 : Bool) (a1_3 : Bool) (w : World) :
    Calls Tryz.prog 159 #[.int .i64 11, .agg #[.bool a1_0, .bool a1_1, .bool a1_2, .bool a1_3]] w fun e w' => e = .returned (.tuple #[.bool ((a1_0 == a1_3) == false), .int .i64 0]) ∧ Below w.heap.size w w' := by
  go_enter Tryz.func159, Tryz.ntmps159
  go_wp2
  go_region_with (go_at_call 252; refine (flag_Holds.ask6 _ _ _ _ _).mono ?_; rintro e w1 ⟨rfl, k, rfl⟩)
  all_goals go_wp2
  all_goals go_ret2
  all_goals refine ⟨by simp [Act.put], ?_⟩
  all_goals repeat (first | exact Below.refl _ _ | apply below_drew | apply pw_below_drewN | apply below_alloc)
set_option maxHeartbeats 8000000 in
set_option maxRecDepth 100000 in
theorem flag_Holds.at12 (a1_0 : Bool) (a1_1 : Bool) (a1_2 : Bool) (a1_3 : Bool) (w : World) :
    Calls Tryz.prog 159 #[.int .i64 12, .agg #[.bool a1_0, .bool a1_1, .bool a1_2, .bool a1_3]] w fun e w' => e = .returned (.tuple #[.bool ((!a1_1 && a1_0 == a1_3) == true), .int .i64 0]) ∧ Below w.heap.size w w' := by
  go_enter Tryz.func159, Tryz.ntmps159
  go_wp2
  go_region_with (go_at_call 253; refine (flag_Holds.ask7 _ _ _ _ _).mono ?_; rintro e w1 ⟨rfl, k, rfl⟩)
  all_goals go_wp2
  all_goals go_ret2
  all_goals refine ⟨by simp [Act.put], ?_⟩
  all_goals repeat (first | exact Below.refl _ _ | apply below_drew | apply pw_below_drewN | apply below_alloc)
set_option maxHeartbeats 8000000 in
set_option maxRecDepth 100000 in
theorem flag_Holds.at13 (a1_0 : Bool) (a1_1 : Bool) (a1_2 : Bool) (a1_3 : Bool) (w : World) :
    Calls Tryz.prog 159 #[.int .i64 13, .agg #[.bool a1_0, .bool a1_1, .bool a1_2, .bool a1_3]] w fun e w' => e = .returned (.tuple #[.bool ((!a1_1 && a1_0 == a1_3) == false), .int .i64 0]) ∧ Below w.heap.size w w' := by
  go_enter Tryz.func159, Tryz.ntmps159
  go_wp2
  go_region_with (go_at_call 253; refine (flag_Holds.ask7 _ _ _ _ _).mono ?_; rintro e w1 ⟨rfl, k, rfl⟩)
  all_goals go_wp2
  all_goals go_ret2
  all_goals refine ⟨by simp [Act.put], ?_⟩
  all_goals repeat (first | exact Below.refl _ _ | apply below_drew | apply pw_below_drewN | apply below_alloc)
set_option maxHeartbeats 8000000 in
set_option maxRecDepth 100000 in
theorem flag_Holds.calls (a0 : Int) (a1_0 : Bool) (a1_1 : Bool) (a1_2 : Bool) (a1_3 : Bool) (r1 : Bool) (r2 : Int) (w : World) (h : flag_Holds.f a0 a1_0 a1_1 a1_2 a1_3 = some (r1, r2)) :
    Calls Tryz.prog 159 #[.int .i64 a0, .agg #[.bool a1_0, .bool a1_1, .bool a1_2, .bool a1_3]] w fun e w' => e = .returned (.tuple #[.bool r1, .int .i64 r2]) ∧ Below w.heap.size w w' := by
  by_cases hc : 0 ≤ a0 ∧ a0 < 14
  · rw [flag_Holds.f, if_pos hc] at h
    simp only [Option.some.injEq, Prod.mk.injEq] at h
    obtain ⟨rfl, rfl⟩ := h
    have : a0 = 0 ∨ a0 = 1 ∨ a0 = 2 ∨ a0 = 3 ∨ a0 = 4 ∨ a0 = 5 ∨ a0 = 6 ∨ a0 = 7 ∨ a0 = 8 ∨ a0 = 9 ∨ a0 = 10 ∨ a0 = 11 ∨ a0 = 12 ∨ a0 = 13 := by omega
    rcases this with rfl | rfl | rfl | rfl | rfl | rfl | rfl | rfl | rfl | rfl | rfl | rfl | rfl | rfl
    · exact flag_Holds.at0 _ _ _ _ _
    · exact flag_Holds.at1 _ _ _ _ _
    · exact flag_Holds.at2 _ _ _ _ _
    · exact flag_Holds.at3 _ _ _ _ _
    · exact flag_Holds.at4 _ _ _ _ _
    · exact flag_Holds.at5 _ _ _ _ _
    · exact flag_Holds.at6 _ _ _ _ _
    · exact flag_Holds.at7 _ _ _ _ _
    · exact flag_Holds.at8 _ _ _ _ _
    · exact flag_Holds.at9 _ _ _ _ _
    · exact flag_Holds.at10 _ _ _ _ _
    · exact flag_Holds.at11 _ _ _ _ _
    · exact flag_Holds.at12 _ _ _ _ _
    · exact flag_Holds.at13 _ _ _ _ _
  · rw [flag_Holds.f, if_neg hc] at h
    simp only [Option.some.injEq, Prod.mk.injEq] at h
    obtain ⟨rfl, rfl⟩ := h
    by_cases h0 : a0 < 0
    · go_enter Tryz.func159, Tryz.ntmps159
      go_wp2
      go_ret2
      exact ⟨rfl, by repeat (first | exact Below.refl _ _ | apply below_drew | apply pw_below_drewN | apply below_alloc)⟩
    · have h1 : 14 ≤ a0 := by omega
      clear hc
      go_enter Tryz.func159, Tryz.ntmps159
      go_wp2
      go_ret2
      exact ⟨rfl, by repeat (first | exact Below.refl _ _ | apply below_drew | apply pw_below_drewN | apply below_alloc)⟩
def mem_number.l0 : Nat → Int → List Int → Int → Int → Option (Int)
 | 0, _, _, _, _ => none
 | k + 1, x3, x6, x7, x8 => if x8 < x7 then (if 0 ≤ x8 then (if x8 < (x6.length : Int) then (if 0 ≤ (wrap64 (8 * x8)) then (mem_number.l0 k (Go.bits .or .u64 x3 (shl .u64 (IntKind.u64.wrap (rd x6 x8)) (wrap64 (8 * x8)))) x6 x7 (wrap64 (x8 + 1))) else (none)) else (none)) else (none)) else (some x3)
def mem_number.f (k : Nat) (l0 : List Int) : Option (Int) := mem_number.l0 k 0 l0 (l0.length : Int) 0
set_option maxHeartbeats 8000000 in
set_option maxRecDepth 100000 in
theorem mem_number.calls (k : Nat) (A0 : Option Addr) (c0 : Nat) (l0 : List Int) (r : Int) (w : World) (hr0 : Kd.C (Kd.int .u8) w A0 l0.length l0) (hc0 : l0.length ≤ c0) (h : mem_number.f k l0 = some r) :
    Calls Tryz.prog 77 #[.slice A0 l0.length c0] w fun e w' => e = .returned (.int .u64 r) ∧ Drawn0 w w' := by
 have HR0 := aq hr0
 have HC0 := aq hc0
 clear hr0 hc0
 have H : (mem_number.l0 k 0 l0 (l0.length : Int) 0) = some r := h
 clear h
 have H' := aq H
 clear H
 go_enter Tryz.func77, Tryz.ntmps77
 go_wp2
 go_loopg [3, 8] k (fun kq v3 v8 w' => ∃ (x3_1 : Int) (x8_1 : Int), v3 = .int .u64 x3_1 ∧ v8 = .int .i64 x8_1 ∧ Aside0 (mem_number.l0 kq x3_1 l0 (l0.length : Int) x8_1 = some r) ∧ Aside0 (kq ≤ k) ∧ Drawn0 w w')
 case atStart => exact ⟨(0), (0), (by first | rfl | (simp; done) | (simp [*]; done)), (by first | rfl | (simp; done) | (simp [*]; done)), H', ⟨Nat.le_refl _⟩, by repeat (first | exact Drawn0.refl _ | apply Drawn0.step)⟩
 case round =>
  clear H'
  obtain ⟨x3_1, x8_1, rfl, rfl, HA, HK1, ⟨m1, rfl⟩⟩ := hrel
  cases gk with
  | zero => exact absurd HA.out (by simp [mem_number.l0])
  | succ k1 =>
   have H := HA.out
   clear HA
   simp only [mem_number.l0] at H
   by_cases c2 : x8_1 < (l0.length : Int)
   ·
    rw [if_pos c2] at H
    have c2b0 : decide (x8_1 < (l0.length : Int)) = true := decide_eq_true c2
    clear c2
    by_cases c3 : 0 ≤ x8_1
    ·
     rw [if_pos c3] at H
     have c3b0 : decide (0 ≤ x8_1) = true := decide_eq_true c3
     clear c3
     by_cases c4 : x8_1 < (l0.length : Int)
     ·
      rw [if_pos c4] at H
      have c4b0 : decide (x8_1 < (l0.length : Int)) = true := decide_eq_true c4
      clear c4
      obtain ⟨ji5, hji5⟩ : ∃ j_ : Int, (wrap64 (8 * x8_1)) = j_ := ⟨_, rfl⟩
      replace H : (if 0 ≤ (ji5) then (mem_number.l0 k1 (Go.bits .or .u64 x3_1 (shl .u64 (IntKind.u64.wrap (rd l0 x8_1)) (ji5))) l0 (l0.length : Int) (wrap64 (x8_1 + 1))) else (none)) = some r := by first | (rw [hji5] at H; exact H) | (simp only [hji5] at H ⊢; exact H)
      have hji5w : (IntKind.i64.wrap (8 * x8_1)) = ji5 := (i64_w _).trans hji5
      by_cases c6 : 0 ≤ (ji5)
      ·
       rw [if_pos c6] at H
       have c6b0 := eq_true c6
       have c6b1 : decide (0 ≤ (ji5)) = true := decide_eq_true c6
       clear c6
       obtain ⟨ji7, hji7⟩ : ∃ j_ : Int, (shl .u64 (IntKind.u64.wrap (rd l0 x8_1)) (ji5)) = j_ := ⟨_, rfl⟩
       replace H : (mem_number.l0 k1 (Go.bits .or .u64 x3_1 (ji7)) l0 (l0.length : Int) (wrap64 (x8_1 + 1))) = some r := by first | (rw [hji7] at H; exact H) | (simp only [hji7] at H ⊢; exact H)
       have hji7_ : (IntKind.u64.wrap ((IntKind.u64.wrap (rd l0 x8_1)) * 2 ^ min (ji5).toNat 64)) = ji7 := hji7
       have hji7z : (ji5) ≤ 64 → (IntKind.u64.wrap ((IntKind.u64.wrap (rd l0 x8_1)) * 2 ^ (ji5).toNat)) = ji7 := shl_small hji7
       have H' := aq H
       clear H
       have p135 : 0 ≤ (x8_1 : Int) := of_decide_eq_true (by first | (with_reducible assumption) | assumption)
       have q135 : x8_1 < (l0.length : Int) := of_decide_eq_true (by first | (with_reducible assumption) | assumption)
       obtain ⟨ad135, e135, hx135_0⟩ := Kd.at_int HR0.out x8_1 p135 q135
       cases e135
       replace p135 := eq_true p135
       replace q135 := eq_true q135
       go_wp2
       go_roundg k1
       case measure => have := HK1.out; omega
       case rel => exact ⟨(Go.bits .or .u64 x3_1 (ji7)), (wrap64 (x8_1 + 1)), (by first | rfl | (simp; done) | (simp only [← hji7] <;> (first | rfl | simp)) | (simp [*]; done)), (by first | rfl | (simp; done) | (simp [*]; done)), H', ⟨by have := HK1.out; omega⟩, by repeat (first | exact Drawn0.refl _ | apply Drawn0.step)⟩
      ·
       rw [if_neg c6] at H
       exact absurd H (by simp)
     ·
      rw [if_neg c4] at H
      exact absurd H (by simp)
    ·
     rw [if_neg c3] at H
     exact absurd H (by simp)
   ·
    rw [if_neg c2] at H
    have c2b0 : decide (x8_1 < (l0.length : Int)) = false := decide_eq_false c2
    clear c2
    obtain rfl := Option.some.inj H
    go_wp2
    go_ret
    exact ⟨by first | rfl | (simp; done) | (simp [*]; done), by repeat (first | exact Drawn0.refl _ | apply Drawn0.step)⟩
def bits_ones.f (a0 : Int) : Option (Int) := if a0 ≥ 64 then (some 18446744073709551615) else (if 0 ≤ a0 then (some (IntKind.u64.wrap ((shl .u64 1 a0) - 1))) else (none))
set_option maxHeartbeats 8000000 in
set_option maxRecDepth 100000 in
theorem bits_ones.calls (a0 : Int) (r : Int) (w : World) (h : bits_ones.f a0 = some r) :
    Calls Tryz.prog 157 #[.int .i64 a0] w fun e w' => e = .returned (.int .u64 r) ∧ Drawn0 w w' := by
 have H : (if a0 ≥ 64 then (some 18446744073709551615) else (if 0 ≤ a0 then (some (IntKind.u64.wrap ((shl .u64 1 a0) - 1))) else (none))) = some r := h
 clear h
 by_cases c2 : a0 ≥ 64
 ·
  rw [if_pos c2] at H
  have c2b0 : decide (64 ≤ a0) = true := decide_eq_true c2
  clear c2
  obtain rfl := Option.some.inj H
  go_enter Tryz.func157, Tryz.ntmps157
  go_wp2
  go_ret
  exact ⟨by first | rfl | (simp; done) | (simp [*]; done), by repeat (first | exact Drawn0.refl _ | apply Drawn0.step)⟩
 ·
  rw [if_neg c2] at H
  have c2b0 : decide (64 ≤ a0) = false := decide_eq_false c2
  clear c2
  by_cases c3 : 0 ≤ a0
  ·
   rw [if_pos c3] at H
   have c3b0 := eq_true c3
   have c3b1 : decide (0 ≤ a0) = true := decide_eq_true c3
   clear c3
   obtain ⟨ji4, hji4⟩ : ∃ j_ : Int, (shl .u64 1 a0) = j_ := ⟨_, rfl⟩
   replace H : (some (IntKind.u64.wrap ((ji4) - 1))) = some r := by first | (rw [hji4] at H; exact H) | (simp only [hji4] at H ⊢; exact H)
   have hji4_ : (IntKind.u64.wrap (1 * 2 ^ min a0.toNat 64)) = ji4 := hji4
   have hji4z : a0 ≤ 64 → (IntKind.u64.wrap (1 * 2 ^ a0.toNat)) = ji4 := shl_small hji4
   have hji4u : (IntKind.u64.wrap (2 ^ min a0.toNat 64)) = ji4 := by have h_ := hji4_; rw [Int.one_mul] at h_; exact h_
   have hji4v : a0 ≤ 64 → (IntKind.u64.wrap (2 ^ a0.toNat)) = ji4 := fun hle_ => by have h_ := hji4z hle_; rw [Int.one_mul] at h_; exact h_
   obtain rfl := Option.some.inj H
   go_enter Tryz.func157, Tryz.ntmps157
   go_wp2
   go_ret
   exact ⟨by first | rfl | (simp; done) | (simp only [← hji4] <;> (first | rfl | simp)) | (simp [*]; done), by repeat (first | exact Drawn0.refl _ | apply Drawn0.step)⟩
  ·
   rw [if_neg c3] at H
   exact absurd H (by simp)
def bits_Low.f (a0 : Int) (a1 : Int) : Option (Int) := (bits_ones.f (mn (mx a1 0) 64)).bind fun t101 => (some (Go.bits .and .u64 a0 t101))
set_option maxHeartbeats 8000000 in
set_option maxRecDepth 100000 in
theorem bits_Low.calls (a0 : Int) (a1 : Int) (r : Int) (w : World) (h : bits_Low.f a0 a1 = some r) :
    Calls Tryz.prog 165 #[.int .u64 a0, .int .i64 a1] w fun e w' => e = .returned (.int .u64 r) ∧ Below w.heap.size w w' := by
 have HB := aq (Below.refl w.heap.size w)
 have H : ((bits_ones.f (mn (mx a1 0) 64)).bind fun t101 => (some (Go.bits .and .u64 a0 t101))) = some r := h
 clear h
 obtain ⟨ji3, hji3⟩ : ∃ j_ : Int, (mx a1 0) = j_ := ⟨_, rfl⟩
 replace H : ((bits_ones.f (mn (ji3) 64)).bind fun t101 => (some (Go.bits .and .u64 a0 t101))) = some r := by first | (rw [hji3] at H; exact H) | (simp only [hji3] at H ⊢; exact H)
 (try (have hji3l : 0 ≤ ji3 := by (rw [← hji3]; unfold mx; (repeat' split) <;> omega)))
 (try (have hji3m : 0 ≤ ji3 := by omega))
 have hji3_ : (if a1 < 0 then 0 else a1) = ji3 := hji3
 obtain ⟨ji4, hji4⟩ : ∃ j_ : Int, (mn (ji3) 64) = j_ := ⟨_, rfl⟩
 replace H : ((bits_ones.f (ji4)).bind fun t101 => (some (Go.bits .and .u64 a0 t101))) = some r := by first | (rw [hji4] at H; exact H) | (simp only [hji4] at H ⊢; exact H)
 have hji4_ : (if 64 < (ji3) then 64 else (ji3)) = ji4 := hji4
 replace H := Option.bind_eq_some_iff.mp H
 obtain ⟨t101, A50, H⟩ := H
 replace H : (some (Go.bits .and .u64 a0 t101)) = some r := H
 have A5 := aq A50
 clear A50
 obtain rfl := Option.some.inj H
 go_enter Tryz.func165, Tryz.ntmps165
 go_wp2_with (first | ((with_reducible refine gate_callee (f := 157) rfl ?_); refine goesL_ (some 9) rfl rfl Tryz.func157 (by kernel_rfl) rfl #[.int .i64 ji4] rfl (by (try simp only [List.map_toArray, List.map_cons, List.map_nil]); first | done | (simp only [hji4]; rfl) | rfl | (simp only [List.length_drop, List.length_take]; rfl)) ?_; (with_reducible refine (bits_ones.calls ji4 t101 _ A5.out).mono ?_); rintro e w' ⟨rfl, ⟨nd, rfl⟩⟩; refine ⟨_, rfl, ?_⟩))
 go_ret
 exact ⟨by first | rfl | (simp [errW_none, errW_some] <;> rfl) | (simp only [← hji3, ← hji4]; first | rfl | (simp [errW_none, errW_some] <;> rfl)) | (simp [*, errW_none, errW_some] <;> rfl), by repeat (first | (with_reducible first | exact HB.out | apply below_alloc | apply pw_below_drewN | apply below_drew1) | exact HB.out)⟩
def mask_again.l0 : Nat → Int → Int → Option (Int)
 | 0, _, _ => none
 | k + 1, x0, x1 => if x1 < 64 then (if 0 ≤ x1 then (mask_again.l0 k (Go.bits .or .u64 x0 (shl .u64 x0 x1)) (wrap64 (x1 * 2))) else (none)) else (some x0)
def mask_again.f (k : Nat) (a0 : Int) (a1 : Int) : Option (Int) := mask_again.l0 k a0 a1
theorem mask_again.mono_l : ∀ k, (∀ y0 y1, LeO (mask_again.l0 k y0 y1) (mask_again.l0 (k + 1) y0 y1))
 | 0 => fun _ _ r h => by simp [mask_again.l0] at h
 | k + 1 => by
  have ih0 := mask_again.mono_l k
  ·
   intro y0 y1
   unfold mask_again.l0
   repeat' first
   | (with_reducible exact ih0 _ _)
   | (with_reducible exact LeO.refl _)
   | (with_reducible exact LeO.none _)
   | (with_reducible refine LeO.ite ?_ ?_)
   | (with_reducible refine LeO.bind ?_ (fun _ => ?_))
   | exact ih0 _ _
   | exact LeO.none _
   | refine LeO.ite ?_ ?_
   | refine LeO.bind ?_ (fun _ => ?_)
theorem mask_again.mono : ∀ a0 a1 k, LeO (mask_again.f k a0 a1) (mask_again.f (k + 1) a0 a1) := by
 intro a0 a1 k
 have ih0 := mask_again.mono_l k
 unfold mask_again.f
 repeat' first
   | (with_reducible exact ih0 _ _)
   | (with_reducible exact LeO.refl _)
   | (with_reducible exact LeO.none _)
   | (with_reducible refine LeO.ite ?_ ?_)
   | (with_reducible refine LeO.bind ?_ (fun _ => ?_))
   | exact ih0 _ _
   | exact LeO.none _
   | refine LeO.ite ?_ ?_
   | refine LeO.bind ?_ (fun _ => ?_)
set_option maxHeartbeats 8000000 in
set_option maxRecDepth 100000 in
theorem mask_again.calls (k : Nat) (a0 : Int) (a1 : Int) (r : Int) (w : World) (h : mask_again.f k a0 a1 = some r) :
    Calls Tryz.prog 305 #[.int .u64 a0, .int .i64 a1] w fun e w' => e = .returned (.int .u64 r) ∧ Drawn0 w w' := by
 have H : (mask_again.l0 k a0 a1) = some r := h
 clear h
 have H' := aq H
 clear H
 go_enter Tryz.func305, Tryz.ntmps305
 go_wp2
 go_loopg [0, 1] k (fun kq v0 v1 w' => ∃ (x0_1 : Int) (x1_1 : Int), v0 = .int .u64 x0_1 ∧ v1 = .int .i64 x1_1 ∧ Aside0 (mask_again.l0 kq x0_1 x1_1 = some r) ∧ Aside0 (kq ≤ k) ∧ Drawn0 w w')
 case atStart => exact ⟨(a0), (a1), (by first | rfl | (simp; done) | (simp [*]; done)), (by first | rfl | (simp; done) | (simp [*]; done)), H', ⟨Nat.le_refl _⟩, by repeat (first | exact Drawn0.refl _ | apply Drawn0.step)⟩
 case round =>
  clear H'
  try clear p2
  obtain ⟨x0_1, x1_1, rfl, rfl, HA, HK1, ⟨m1, rfl⟩⟩ := hrel
  cases gk with
  | zero => exact absurd HA.out (by simp [mask_again.l0])
  | succ k1 =>
   have H := HA.out
   clear HA
   simp only [mask_again.l0] at H
   by_cases c3 : x1_1 < 64
   ·
    rw [if_pos c3] at H
    have c3b0 : decide (x1_1 < 64) = true := decide_eq_true c3
    clear c3
    by_cases c4 : 0 ≤ x1_1
    ·
     rw [if_pos c4] at H
     have c4b0 := eq_true c4
     have c4b1 : decide (0 ≤ x1_1) = true := decide_eq_true c4
     clear c4
     obtain ⟨ji5, hji5⟩ : ∃ j_ : Int, (shl .u64 x0_1 x1_1) = j_ := ⟨_, rfl⟩
     replace H : (mask_again.l0 k1 (Go.bits .or .u64 x0_1 (ji5)) (wrap64 (x1_1 * 2))) = some r := by first | (rw [hji5] at H; exact H) | (simp only [hji5] at H ⊢; exact H)
     have hji5_ : (IntKind.u64.wrap (x0_1 * 2 ^ min x1_1.toNat 64)) = ji5 := hji5
     have hji5z : x1_1 ≤ 64 → (IntKind.u64.wrap (x0_1 * 2 ^ x1_1.toNat)) = ji5 := shl_small hji5
     have H' := aq H
     clear H
     go_wp2
     go_roundg k1
     case measure => have := HK1.out; omega
     case rel => exact ⟨(Go.bits .or .u64 x0_1 (ji5)), (wrap64 (x1_1 * 2)), (by first | rfl | (simp; done) | (simp only [← hji5] <;> (first | rfl | simp)) | (simp [*]; done)), (by first | rfl | (simp; done) | (simp [*]; done)), H', ⟨by have := HK1.out; omega⟩, by repeat (first | exact Drawn0.refl _ | apply Drawn0.step)⟩
    ·
     rw [if_neg c4] at H
     exact absurd H (by simp)
   ·
    rw [if_neg c3] at H
    have c3b0 : decide (x1_1 < 64) = false := decide_eq_false c3
    clear c3
    obtain rfl := Option.some.inj H
    go_wp2
    go_ret
    exact ⟨by first | rfl | (simp; done) | (simp [*]; done), by repeat (first | exact Drawn0.refl _ | apply Drawn0.step)⟩
def mask_ask.f (k : Nat) (v size : Int) : Option Bool := (bits_Low.f v size).bind fun a => (mask_again.f k a size).bind fun b => some (b == v)
set_option maxHeartbeats 8000000 in
theorem mask_ask.calls (k : Nat) (v size : Int) (r : Bool) (B : Nat) (w : World) (hc : w.cell? ⟨B, 0, none⟩ = some (.int .u64 v)) (h : mask_ask.f k v size = some r) :
    Calls Tryz.prog 347 #[.int .i64 size, .pointer (some ⟨B, 0, none⟩)] w fun e w' => e = .returned (.bool r) ∧ Below w.heap.size w w' := by
  unfold mask_ask.f at h
  obtain ⟨a, h1, h⟩ := Option.bind_eq_some_iff.mp h
  obtain ⟨b, h2, h⟩ := Option.bind_eq_some_iff.mp h
  obtain rfl := Option.some.inj h
  have H1 := aq h1
  have H2 := aq h2
  clear h h1 h2
  go_enter Tryz.func347, Tryz.ntmps347
  go_wp2
  go_region_with (first | (go_at_call 165; refine (bits_Low.calls _ _ _ _ H1.out).mono ?_; rintro e w1 ⟨rfl, hb1⟩; have hc1 := pw_cell_below hb1 hc) | (go_at_call 305; refine (mask_again.calls _ _ _ _ _ H2.out).mono ?_; rintro e w2 ⟨rfl, ⟨n2, rfl⟩⟩))
  all_goals go_wp2
  all_goals go_ret
  all_goals exact ⟨rfl, by repeat (first | assumption | exact (below_drew (Below.refl _ _)).trans hb1 | exact Below.refl _ _ | apply below_drew | apply pw_below_drewN | apply below_alloc)⟩
set_option maxHeartbeats 8000000 in
theorem mask_Size.sizes (k : Nat) (v : Int) (r : Int) (B : Nat) (w : World) (hc0 : w.cell? ⟨B, 0, none⟩ = some (.int .u64 v)) (h : mask_sizes.f (mask_ask.f k v) = some r) :
    Calls Tryz.prog 303 #[.func (.func 347) #[] #[.pointer (some ⟨B, 0, none⟩)]] w fun e w' => e = .returned (.int .i64 r) ∧ Below w.heap.size w w' := by
  have hb0 := Below.refl w.heap.size w
  unfold mask_sizes.f at h
  go_enter Tryz.func303, Tryz.ntmps303
  go_wp2
  refine wp_loop_rounds 8 ?_
  obtain ⟨b0, h0, h⟩ := Option.bind_eq_some_iff.mp h
  have H0 := aq h0
  clear h0
  rw [rounds_succ]
  cases b0
  rotate_left
  · rw [if_pos rfl] at h
    obtain rfl := Option.some.inj h
    clear h
    go_wp2_with (first | (go_at_call 347; refine (mask_ask.calls k v _ _ B _ hc0 H0.out).mono ?_; rintro e w1 ⟨rfl, hn1⟩; have hb1 := below_then hb0 hb0.size hn1; have hc1 := pw_cell_below hn1 hc0))
    go_ret
    exact ⟨rfl, hb1⟩
  rw [if_neg (by decide)] at h
  have H := aq h
  clear h
  go_wp2_with (first | (go_at_call 347; refine (mask_ask.calls k v _ _ B _ hc0 H0.out).mono ?_; rintro e w1 ⟨rfl, hn1⟩; have hb1 := below_then hb0 hb0.size hn1; have hc1 := pw_cell_below hn1 hc0))
  replace h := H.out
  clear H
  obtain ⟨b1, h1, h⟩ := Option.bind_eq_some_iff.mp h
  have H1 := aq h1
  clear h1
  rw [rounds_succ]
  cases b1
  rotate_left
  · rw [if_pos rfl] at h
    obtain rfl := Option.some.inj h
    clear h
    go_wp2_with (first | (go_at_call 347; refine (mask_ask.calls k v _ _ B _ hc1 H1.out).mono ?_; rintro e w2 ⟨rfl, hn2⟩; have hb2 := below_then hb1 hb1.size hn2; have hc2 := pw_cell_below hn2 hc1))
    go_ret
    exact ⟨rfl, hb2⟩
  rw [if_neg (by decide)] at h
  have H := aq h
  clear h
  go_wp2_with (first | (go_at_call 347; refine (mask_ask.calls k v _ _ B _ hc1 H1.out).mono ?_; rintro e w2 ⟨rfl, hn2⟩; have hb2 := below_then hb1 hb1.size hn2; have hc2 := pw_cell_below hn2 hc1))
  replace h := H.out
  clear H
  obtain ⟨b2, h2, h⟩ := Option.bind_eq_some_iff.mp h
  have H2 := aq h2
  clear h2
  rw [rounds_succ]
  cases b2
  rotate_left
  · rw [if_pos rfl] at h
    obtain rfl := Option.some.inj h
    clear h
    go_wp2_with (first | (go_at_call 347; refine (mask_ask.calls k v _ _ B _ hc2 H2.out).mono ?_; rintro e w3 ⟨rfl, hn3⟩; have hb3 := below_then hb2 hb2.size hn3; have hc3 := pw_cell_below hn3 hc2))
    go_ret
    exact ⟨rfl, hb3⟩
  rw [if_neg (by decide)] at h
  have H := aq h
  clear h
  go_wp2_with (first | (go_at_call 347; refine (mask_ask.calls k v _ _ B _ hc2 H2.out).mono ?_; rintro e w3 ⟨rfl, hn3⟩; have hb3 := below_then hb2 hb2.size hn3; have hc3 := pw_cell_below hn3 hc2))
  replace h := H.out
  clear H
  obtain ⟨b3, h3, h⟩ := Option.bind_eq_some_iff.mp h
  have H3 := aq h3
  clear h3
  rw [rounds_succ]
  cases b3
  rotate_left
  · rw [if_pos rfl] at h
    obtain rfl := Option.some.inj h
    clear h
    go_wp2_with (first | (go_at_call 347; refine (mask_ask.calls k v _ _ B _ hc3 H3.out).mono ?_; rintro e w4 ⟨rfl, hn4⟩; have hb4 := below_then hb3 hb3.size hn4; have hc4 := pw_cell_below hn4 hc3))
    go_ret
    exact ⟨rfl, hb4⟩
  rw [if_neg (by decide)] at h
  have H := aq h
  clear h
  go_wp2_with (first | (go_at_call 347; refine (mask_ask.calls k v _ _ B _ hc3 H3.out).mono ?_; rintro e w4 ⟨rfl, hn4⟩; have hb4 := below_then hb3 hb3.size hn4; have hc4 := pw_cell_below hn4 hc3))
  replace h := H.out
  clear H
  obtain ⟨b4, h4, h⟩ := Option.bind_eq_some_iff.mp h
  have H4 := aq h4
  clear h4
  rw [rounds_succ]
  cases b4
  rotate_left
  · rw [if_pos rfl] at h
    obtain rfl := Option.some.inj h
    clear h
    go_wp2_with (first | (go_at_call 347; refine (mask_ask.calls k v _ _ B _ hc4 H4.out).mono ?_; rintro e w5 ⟨rfl, hn5⟩; have hb5 := below_then hb4 hb4.size hn5; have hc5 := pw_cell_below hn5 hc4))
    go_ret
    exact ⟨rfl, hb5⟩
  rw [if_neg (by decide)] at h
  have H := aq h
  clear h
  go_wp2_with (first | (go_at_call 347; refine (mask_ask.calls k v _ _ B _ hc4 H4.out).mono ?_; rintro e w5 ⟨rfl, hn5⟩; have hb5 := below_then hb4 hb4.size hn5; have hc5 := pw_cell_below hn5 hc4))
  replace h := H.out
  clear H
  obtain ⟨b5, h5, h⟩ := Option.bind_eq_some_iff.mp h
  have H5 := aq h5
  clear h5
  rw [rounds_succ]
  cases b5
  rotate_left
  · rw [if_pos rfl] at h
    obtain rfl := Option.some.inj h
    clear h
    go_wp2_with (first | (go_at_call 347; refine (mask_ask.calls k v _ _ B _ hc5 H5.out).mono ?_; rintro e w6 ⟨rfl, hn6⟩; have hb6 := below_then hb5 hb5.size hn6; have hc6 := pw_cell_below hn6 hc5))
    go_ret
    exact ⟨rfl, hb6⟩
  rw [if_neg (by decide)] at h
  have H := aq h
  clear h
  go_wp2_with (first | (go_at_call 347; refine (mask_ask.calls k v _ _ B _ hc5 H5.out).mono ?_; rintro e w6 ⟨rfl, hn6⟩; have hb6 := below_then hb5 hb5.size hn6; have hc6 := pw_cell_below hn6 hc5))
  replace h := H.out
  clear H
  obtain rfl := Option.some.inj h
  rw [rounds_succ]
  go_wp2
  go_ret
  exact ⟨rfl, hb6⟩
def mask_Size.f (k : Nat) (a0 : Int) : Option Int := mask_sizes.f (mask_ask.f k a0)
theorem mask_ask.mono : ∀ a0 a1 k, LeO (mask_ask.f k a0 a1) (mask_ask.f (k + 1) a0 a1) := by
  intro a0 a1 k
  unfold mask_ask.f
  exact LeO.bind (LeO.refl _) (fun _ => LeO.bind (mask_again.mono _ _ _) (fun _ => LeO.refl _))
theorem mask_Size.mono : ∀ a0 k, LeO (mask_Size.f k a0) (mask_Size.f (k + 1) a0) := by
  intro a0 k
  unfold mask_Size.f mask_sizes.f
  repeat' first
    | with_reducible exact LeO.refl _
    | with_reducible exact mask_ask.mono _ _ _
    | with_reducible refine LeO.ite ?_ ?_
    | with_reducible refine LeO.bind ?_ (fun _ => ?_)
set_option maxHeartbeats 8000000 in
theorem mask_Size.calls (k : Nat) (a0 : Int) (r : Int) (w : World) (h : mask_Size.f k a0 = some r) :
    Calls Tryz.prog 297 #[.int .u64 a0] w fun e w' => e = .returned (.int .i64 r) ∧ Below w.heap.size w w' := by
  go_enter Tryz.func297, Tryz.ntmps297
  go_wp2_with (first | (go_at_call 303; refine (mask_Size.sizes k a0 r w.heap.size _ (by simp) h).mono ?_; rintro e w1 ⟨rfl, hb1⟩))
  go_ret
  have hA := fun o => below_alloc (Below.refl w.heap.size w) o
  exact ⟨rfl, below_then (hA _) (hA _).size hb1⟩
def bits_OnesCount64.f (a0 : Int) : Option (Int) := some (Go.bits .and .i64 (wrap64 (IntKind.u64.wrap ((IntKind.u64.wrap ((IntKind.u64.wrap ((Go.bits .and .u64 (IntKind.u64.wrap (((IntKind.u64.wrap ((Go.bits .and .u64 ((IntKind.u64.wrap ((Go.bits .and .u64 (a0 / 2) 6148914691236517205) + (Go.bits .and .u64 a0 6148914691236517205))) / 4) 3689348814741910323) + (Go.bits .and .u64 (IntKind.u64.wrap ((Go.bits .and .u64 (a0 / 2) 6148914691236517205) + (Go.bits .and .u64 a0 6148914691236517205))) 3689348814741910323))) / 16) + (IntKind.u64.wrap ((Go.bits .and .u64 ((IntKind.u64.wrap ((Go.bits .and .u64 (a0 / 2) 6148914691236517205) + (Go.bits .and .u64 a0 6148914691236517205))) / 4) 3689348814741910323) + (Go.bits .and .u64 (IntKind.u64.wrap ((Go.bits .and .u64 (a0 / 2) 6148914691236517205) + (Go.bits .and .u64 a0 6148914691236517205))) 3689348814741910323))))) 1085102592571150095) + ((Go.bits .and .u64 (IntKind.u64.wrap (((IntKind.u64.wrap ((Go.bits .and .u64 ((IntKind.u64.wrap ((Go.bits .and .u64 (a0 / 2) 6148914691236517205) + (Go.bits .and .u64 a0 6148914691236517205))) / 4) 3689348814741910323) + (Go.bits .and .u64 (IntKind.u64.wrap ((Go.bits .and .u64 (a0 / 2) 6148914691236517205) + (Go.bits .and .u64 a0 6148914691236517205))) 3689348814741910323))) / 16) + (IntKind.u64.wrap ((Go.bits .and .u64 ((IntKind.u64.wrap ((Go.bits .and .u64 (a0 / 2) 6148914691236517205) + (Go.bits .and .u64 a0 6148914691236517205))) / 4) 3689348814741910323) + (Go.bits .and .u64 (IntKind.u64.wrap ((Go.bits .and .u64 (a0 / 2) 6148914691236517205) + (Go.bits .and .u64 a0 6148914691236517205))) 3689348814741910323))))) 1085102592571150095) / 256))) + ((IntKind.u64.wrap ((Go.bits .and .u64 (IntKind.u64.wrap (((IntKind.u64.wrap ((Go.bits .and .u64 ((IntKind.u64.wrap ((Go.bits .and .u64 (a0 / 2) 6148914691236517205) + (Go.bits .and .u64 a0 6148914691236517205))) / 4) 3689348814741910323) + (Go.bits .and .u64 (IntKind.u64.wrap ((Go.bits .and .u64 (a0 / 2) 6148914691236517205) + (Go.bits .and .u64 a0 6148914691236517205))) 3689348814741910323))) / 16) + (IntKind.u64.wrap ((Go.bits .and .u64 ((IntKind.u64.wrap ((Go.bits .and .u64 (a0 / 2) 6148914691236517205) + (Go.bits .and .u64 a0 6148914691236517205))) / 4) 3689348814741910323) + (Go.bits .and .u64 (IntKind.u64.wrap ((Go.bits .and .u64 (a0 / 2) 6148914691236517205) + (Go.bits .and .u64 a0 6148914691236517205))) 3689348814741910323))))) 1085102592571150095) + ((Go.bits .and .u64 (IntKind.u64.wrap (((IntKind.u64.wrap ((Go.bits .and .u64 ((IntKind.u64.wrap ((Go.bits .and .u64 (a0 / 2) 6148914691236517205) + (Go.bits .and .u64 a0 6148914691236517205))) / 4) 3689348814741910323) + (Go.bits .and .u64 (IntKind.u64.wrap ((Go.bits .and .u64 (a0 / 2) 6148914691236517205) + (Go.bits .and .u64 a0 6148914691236517205))) 3689348814741910323))) / 16) + (IntKind.u64.wrap ((Go.bits .and .u64 ((IntKind.u64.wrap ((Go.bits .and .u64 (a0 / 2) 6148914691236517205) + (Go.bits .and .u64 a0 6148914691236517205))) / 4) 3689348814741910323) + (Go.bits .and .u64 (IntKind.u64.wrap ((Go.bits .and .u64 (a0 / 2) 6148914691236517205) + (Go.bits .and .u64 a0 6148914691236517205))) 3689348814741910323))))) 1085102592571150095) / 256))) / 65536))) + ((IntKind.u64.wrap ((IntKind.u64.wrap ((Go.bits .and .u64 (IntKind.u64.wrap (((IntKind.u64.wrap ((Go.bits .and .u64 ((IntKind.u64.wrap ((Go.bits .and .u64 (a0 / 2) 6148914691236517205) + (Go.bits .and .u64 a0 6148914691236517205))) / 4) 3689348814741910323) + (Go.bits .and .u64 (IntKind.u64.wrap ((Go.bits .and .u64 (a0 / 2) 6148914691236517205) + (Go.bits .and .u64 a0 6148914691236517205))) 3689348814741910323))) / 16) + (IntKind.u64.wrap ((Go.bits .and .u64 ((IntKind.u64.wrap ((Go.bits .and .u64 (a0 / 2) 6148914691236517205) + (Go.bits .and .u64 a0 6148914691236517205))) / 4) 3689348814741910323) + (Go.bits .and .u64 (IntKind.u64.wrap ((Go.bits .and .u64 (a0 / 2) 6148914691236517205) + (Go.bits .and .u64 a0 6148914691236517205))) 3689348814741910323))))) 1085102592571150095) + ((Go.bits .and .u64 (IntKind.u64.wrap (((IntKind.u64.wrap ((Go.bits .and .u64 ((IntKind.u64.wrap ((Go.bits .and .u64 (a0 / 2) 6148914691236517205) + (Go.bits .and .u64 a0 6148914691236517205))) / 4) 3689348814741910323) + (Go.bits .and .u64 (IntKind.u64.wrap ((Go.bits .and .u64 (a0 / 2) 6148914691236517205) + (Go.bits .and .u64 a0 6148914691236517205))) 3689348814741910323))) / 16) + (IntKind.u64.wrap ((Go.bits .and .u64 ((IntKind.u64.wrap ((Go.bits .and .u64 (a0 / 2) 6148914691236517205) + (Go.bits .and .u64 a0 6148914691236517205))) / 4) 3689348814741910323) + (Go.bits .and .u64 (IntKind.u64.wrap ((Go.bits .and .u64 (a0 / 2) 6148914691236517205) + (Go.bits .and .u64 a0 6148914691236517205))) 3689348814741910323))))) 1085102592571150095) / 256))) + ((IntKind.u64.wrap ((Go.bits .and .u64 (IntKind.u64.wrap (((IntKind.u64.wrap ((Go.bits .and .u64 ((IntKind.u64.wrap ((Go.bits .and .u64 (a0 / 2) 6148914691236517205) + (Go.bits .and .u64 a0 6148914691236517205))) / 4) 3689348814741910323) + (Go.bits .and .u64 (IntKind.u64.wrap ((Go.bits .and .u64 (a0 / 2) 6148914691236517205) + (Go.bits .and .u64 a0 6148914691236517205))) 3689348814741910323))) / 16) + (IntKind.u64.wrap ((Go.bits .and .u64 ((IntKind.u64.wrap ((Go.bits .and .u64 (a0 / 2) 6148914691236517205) + (Go.bits .and .u64 a0 6148914691236517205))) / 4) 3689348814741910323) + (Go.bits .and .u64 (IntKind.u64.wrap ((Go.bits .and .u64 (a0 / 2) 6148914691236517205) + (Go.bits .and .u64 a0 6148914691236517205))) 3689348814741910323))))) 1085102592571150095) + ((Go.bits .and .u64 (IntKind.u64.wrap (((IntKind.u64.wrap ((Go.bits .and .u64 ((IntKind.u64.wrap ((Go.bits .and .u64 (a0 / 2) 6148914691236517205) + (Go.bits .and .u64 a0 6148914691236517205))) / 4) 3689348814741910323) + (Go.bits .and .u64 (IntKind.u64.wrap ((Go.bits .and .u64 (a0 / 2) 6148914691236517205) + (Go.bits .and .u64 a0 6148914691236517205))) 3689348814741910323))) / 16) + (IntKind.u64.wrap ((Go.bits .and .u64 ((IntKind.u64.wrap ((Go.bits .and .u64 (a0 / 2) 6148914691236517205) + (Go.bits .and .u64 a0 6148914691236517205))) / 4) 3689348814741910323) + (Go.bits .and .u64 (IntKind.u64.wrap ((Go.bits .and .u64 (a0 / 2) 6148914691236517205) + (Go.bits .and .u64 a0 6148914691236517205))) 3689348814741910323))))) 1085102592571150095) / 256))) / 65536))) / 4294967296)))) 127)
set_option maxHeartbeats 8000000 in
set_option maxRecDepth 100000 in
theorem bits_OnesCount64.calls (a0 : Int) (r : Int) (w : World) (h : bits_OnesCount64.f a0 = some r) :
    Calls Tryz.prog 348 #[.int .u64 a0] w fun e w' => e = .returned (.int .i64 r) ∧ Drawn0 w w' := by
 have H : (some (Go.bits .and .i64 (wrap64 (IntKind.u64.wrap ((IntKind.u64.wrap ((IntKind.u64.wrap ((Go.bits .and .u64 (IntKind.u64.wrap (((IntKind.u64.wrap ((Go.bits .and .u64 ((IntKind.u64.wrap ((Go.bits .and .u64 (a0 / 2) 6148914691236517205) + (Go.bits .and .u64 a0 6148914691236517205))) / 4) 3689348814741910323) + (Go.bits .and .u64 (IntKind.u64.wrap ((Go.bits .and .u64 (a0 / 2) 6148914691236517205) + (Go.bits .and .u64 a0 6148914691236517205))) 3689348814741910323))) / 16) + (IntKind.u64.wrap ((Go.bits .and .u64 ((IntKind.u64.wrap ((Go.bits .and .u64 (a0 / 2) 6148914691236517205) + (Go.bits .and .u64 a0 6148914691236517205))) / 4) 3689348814741910323) + (Go.bits .and .u64 (IntKind.u64.wrap ((Go.bits .and .u64 (a0 / 2) 6148914691236517205) + (Go.bits .and .u64 a0 6148914691236517205))) 3689348814741910323))))) 1085102592571150095) + ((Go.bits .and .u64 (IntKind.u64.wrap (((IntKind.u64.wrap ((Go.bits .and .u64 ((IntKind.u64.wrap ((Go.bits .and .u64 (a0 / 2) 6148914691236517205) + (Go.bits .and .u64 a0 6148914691236517205))) / 4) 3689348814741910323) + (Go.bits .and .u64 (IntKind.u64.wrap ((Go.bits .and .u64 (a0 / 2) 6148914691236517205) + (Go.bits .and .u64 a0 6148914691236517205))) 3689348814741910323))) / 16) + (IntKind.u64.wrap ((Go.bits .and .u64 ((IntKind.u64.wrap ((Go.bits .and .u64 (a0 / 2) 6148914691236517205) + (Go.bits .and .u64 a0 6148914691236517205))) / 4) 3689348814741910323) + (Go.bits .and .u64 (IntKind.u64.wrap ((Go.bits .and .u64 (a0 / 2) 6148914691236517205) + (Go.bits .and .u64 a0 6148914691236517205))) 3689348814741910323))))) 1085102592571150095) / 256))) + ((IntKind.u64.wrap ((Go.bits .and .u64 (IntKind.u64.wrap (((IntKind.u64.wrap ((Go.bits .and .u64 ((IntKind.u64.wrap ((Go.bits .and .u64 (a0 / 2) 6148914691236517205) + (Go.bits .and .u64 a0 6148914691236517205))) / 4) 3689348814741910323) + (Go.bits .and .u64 (IntKind.u64.wrap ((Go.bits .and .u64 (a0 / 2) 6148914691236517205) + (Go.bits .and .u64 a0 6148914691236517205))) 3689348814741910323))) / 16) + (IntKind.u64.wrap ((Go.bits .and .u64 ((IntKind.u64.wrap ((Go.bits .and .u64 (a0 / 2) 6148914691236517205) + (Go.bits .and .u64 a0 6148914691236517205))) / 4) 3689348814741910323) + (Go.bits .and .u64 (IntKind.u64.wrap ((Go.bits .and .u64 (a0 / 2) 6148914691236517205) + (Go.bits .and .u64 a0 6148914691236517205))) 3689348814741910323))))) 1085102592571150095) + ((Go.bits .and .u64 (IntKind.u64.wrap (((IntKind.u64.wrap ((Go.bits .and .u64 ((IntKind.u64.wrap ((Go.bits .and .u64 (a0 / 2) 6148914691236517205) + (Go.bits .and .u64 a0 6148914691236517205))) / 4) 3689348814741910323) + (Go.bits .and .u64 (IntKind.u64.wrap ((Go.bits .and .u64 (a0 / 2) 6148914691236517205) + (Go.bits .and .u64 a0 6148914691236517205))) 3689348814741910323))) / 16) + (IntKind.u64.wrap ((Go.bits .and .u64 ((IntKind.u64.wrap ((Go.bits .and .u64 (a0 / 2) 6148914691236517205) + (Go.bits .and .u64 a0 6148914691236517205))) / 4) 3689348814741910323) + (Go.bits .and .u64 (IntKind.u64.wrap ((Go.bits .and .u64 (a0 / 2) 6148914691236517205) + (Go.bits .and .u64 a0 6148914691236517205))) 3689348814741910323))))) 1085102592571150095) / 256))) / 65536))) + ((IntKind.u64.wrap ((IntKind.u64.wrap ((Go.bits .and .u64 (IntKind.u64.wrap (((IntKind.u64.wrap ((Go.bits .and .u64 ((IntKind.u64.wrap ((Go.bits .and .u64 (a0 / 2) 6148914691236517205) + (Go.bits .and .u64 a0 6148914691236517205))) / 4) 3689348814741910323) + (Go.bits .and .u64 (IntKind.u64.wrap ((Go.bits .and .u64 (a0 / 2) 6148914691236517205) + (Go.bits .and .u64 a0 6148914691236517205))) 3689348814741910323))) / 16) + (IntKind.u64.wrap ((Go.bits .and .u64 ((IntKind.u64.wrap ((Go.bits .and .u64 (a0 / 2) 6148914691236517205) + (Go.bits .and .u64 a0 6148914691236517205))) / 4) 3689348814741910323) + (Go.bits .and .u64 (IntKind.u64.wrap ((Go.bits .and .u64 (a0 / 2) 6148914691236517205) + (Go.bits .and .u64 a0 6148914691236517205))) 3689348814741910323))))) 1085102592571150095) + ((Go.bits .and .u64 (IntKind.u64.wrap (((IntKind.u64.wrap ((Go.bits .and .u64 ((IntKind.u64.wrap ((Go.bits .and .u64 (a0 / 2) 6148914691236517205) + (Go.bits .and .u64 a0 6148914691236517205))) / 4) 3689348814741910323) + (Go.bits .and .u64 (IntKind.u64.wrap ((Go.bits .and .u64 (a0 / 2) 6148914691236517205) + (Go.bits .and .u64 a0 6148914691236517205))) 3689348814741910323))) / 16) + (IntKind.u64.wrap ((Go.bits .and .u64 ((IntKind.u64.wrap ((Go.bits .and .u64 (a0 / 2) 6148914691236517205) + (Go.bits .and .u64 a0 6148914691236517205))) / 4) 3689348814741910323) + (Go.bits .and .u64 (IntKind.u64.wrap ((Go.bits .and .u64 (a0 / 2) 6148914691236517205) + (Go.bits .and .u64 a0 6148914691236517205))) 3689348814741910323))))) 1085102592571150095) / 256))) + ((IntKind.u64.wrap ((Go.bits .and .u64 (IntKind.u64.wrap (((IntKind.u64.wrap ((Go.bits .and .u64 ((IntKind.u64.wrap ((Go.bits .and .u64 (a0 / 2) 6148914691236517205) + (Go.bits .and .u64 a0 6148914691236517205))) / 4) 3689348814741910323) + (Go.bits .and .u64 (IntKind.u64.wrap ((Go.bits .and .u64 (a0 / 2) 6148914691236517205) + (Go.bits .and .u64 a0 6148914691236517205))) 3689348814741910323))) / 16) + (IntKind.u64.wrap ((Go.bits .and .u64 ((IntKind.u64.wrap ((Go.bits .and .u64 (a0 / 2) 6148914691236517205) + (Go.bits .and .u64 a0 6148914691236517205))) / 4) 3689348814741910323) + (Go.bits .and .u64 (IntKind.u64.wrap ((Go.bits .and .u64 (a0 / 2) 6148914691236517205) + (Go.bits .and .u64 a0 6148914691236517205))) 3689348814741910323))))) 1085102592571150095) + ((Go.bits .and .u64 (IntKind.u64.wrap (((IntKind.u64.wrap ((Go.bits .and .u64 ((IntKind.u64.wrap ((Go.bits .and .u64 (a0 / 2) 6148914691236517205) + (Go.bits .and .u64 a0 6148914691236517205))) / 4) 3689348814741910323) + (Go.bits .and .u64 (IntKind.u64.wrap ((Go.bits .and .u64 (a0 / 2) 6148914691236517205) + (Go.bits .and .u64 a0 6148914691236517205))) 3689348814741910323))) / 16) + (IntKind.u64.wrap ((Go.bits .and .u64 ((IntKind.u64.wrap ((Go.bits .and .u64 (a0 / 2) 6148914691236517205) + (Go.bits .and .u64 a0 6148914691236517205))) / 4) 3689348814741910323) + (Go.bits .and .u64 (IntKind.u64.wrap ((Go.bits .and .u64 (a0 / 2) 6148914691236517205) + (Go.bits .and .u64 a0 6148914691236517205))) 3689348814741910323))))) 1085102592571150095) / 256))) / 65536))) / 4294967296)))) 127)) = some r := h
 clear h
 obtain rfl := Option.some.inj H
 go_enter Tryz.func348, Tryz.ntmps348
 go_wp2
 go_ret
 exact ⟨by first | rfl | (simp; done) | (simp [*]; done), by repeat (first | exact Drawn0.refl _ | apply Drawn0.step)⟩
def mask_Ones.f (a0 : Int) : Option (Int) := (bits_OnesCount64.f a0).bind fun t102 => (some t102)
set_option maxHeartbeats 8000000 in
set_option maxRecDepth 100000 in
theorem mask_Ones.calls (a0 : Int) (r : Int) (w : World) (h : mask_Ones.f a0 = some r) :
    Calls Tryz.prog 298 #[.int .u64 a0] w fun e w' => e = .returned (.int .i64 r) ∧ Drawn0 w w' := by
 have H : ((bits_OnesCount64.f a0).bind fun t102 => (some t102)) = some r := h
 clear h
 replace H := Option.bind_eq_some_iff.mp H
 obtain ⟨t102, A20, H⟩ := H
 replace H : (some t102) = some r := H
 have A2 := aq A20
 clear A20
 obtain rfl := Option.some.inj H
 go_enter Tryz.func298, Tryz.ntmps298
 go_wp2_with (first | ((with_reducible refine gate_callee (f := 348) rfl ?_); refine goesL_ (some 4) rfl rfl Tryz.func348 (by kernel_rfl) rfl #[.int .u64 a0] rfl (by (try simp only [List.map_toArray, List.map_cons, List.map_nil]); first | done | rfl | (simp only [List.length_drop, List.length_take]; rfl)) ?_; (with_reducible refine (bits_OnesCount64.calls a0 t102 _ A2.out).mono ?_); rintro e w' ⟨rfl, ⟨nd, rfl⟩⟩; refine ⟨_, rfl, ?_⟩))
 go_ret
 exact ⟨by first | rfl | (simp; done) | (simp [*]; done), by repeat (first | exact Drawn0.refl _ | apply Drawn0.step)⟩
def bits_TrailingZeros64.f (a0 : Int) : Option Int := if 0 ≤ a0 ∧ a0 < 18446744073709551616 then some (Lib.ctz 64 a0.toNat : Nat) else none
theorem tz_bits_and (a b : Nat) (ha : a < 18446744073709551616) (hb : b < 18446744073709551616) : Go.bits .and .u64 (a : Int) (b : Int) = ((a &&& b : Nat) : Int) := by
  have hx : a &&& b < 2 ^ 64 := Nat.and_lt_two_pow _ (by omega)
  have h1 : (BitVec.ofInt 64 (a : Int)).toNat = a := by
    rw [BitVec.ofInt_natCast, BitVec.toNat_ofNat]; exact Nat.mod_eq_of_lt (by omega)
  have h2 : (BitVec.ofInt 64 (b : Int)).toNat = b := by
    rw [BitVec.ofInt_natCast, BitVec.toNat_ofNat]; exact Nat.mod_eq_of_lt (by omega)
  show IntKind.u64.wrap ((BitVec.ofInt 64 (a : Int) &&& BitVec.ofInt 64 (b : Int)).toNat : Int) = _
  rw [BitVec.toNat_and, h1, h2, IntKind.wrap_u64]
  omega
theorem tz_key (x a : Nat) (hx : x < 18446744073709551616) (hx0 : x ≠ 0) (hlow : x &&& (18446744073709551616 - x) = a) :
    IntKind.u64.wrap (Go.bits BinOp.and IntKind.u64 (x : Int) (IntKind.u64.wrap (-(x : Int))) * 285870213051353865) / 288230376151711744 = ((a * 285870213051353865 % 18446744073709551616 / 288230376151711744 : Nat) : Int) := by
  have e1 : IntKind.u64.wrap (-(x : Int)) = ((18446744073709551616 - x : Nat) : Int) := by rw [IntKind.wrap_u64]; omega
  rw [e1, tz_bits_and x _ hx (by omega), hlow, IntKind.wrap_u64]
  omega
set_option maxHeartbeats 1000000 in
theorem tz_core (x k idx : Nat) (w : World) (hx0 : ((x : Int) == 0) = false)
    (key : IntKind.u64.wrap (Go.bits BinOp.and IntKind.u64 (x : Int) (IntKind.u64.wrap (-(x : Int))) * 285870213051353865) / 288230376151711744 = (idx : Int))
    (hi : idx < 64) (hk : k < 64) (hcell : w.cell? ⟨0, idx, none⟩ = some (.int .u8 (k : Nat))) :
    Calls Tryz.prog 299 #[.int .u64 x] w fun e w' => e = .returned (.int .i64 k) ∧ w' = w := by
  go_enter Tryz.func299, Tryz.ntmps299
  go_wp2_with (simp only [key])
  go_ret
  exact ⟨rfl, rfl⟩
theorem tz_zero (w : World) : Calls Tryz.prog 299 #[.int .u64 0] w fun e w' => e = .returned (.int .i64 64) ∧ w' = w := by
  go_enter Tryz.func299, Tryz.ntmps299
  go_wp2
  go_ret
  exact ⟨rfl, rfl⟩
theorem bits_TrailingZeros64.calls (a0 : Int) (r : Int) (w : World) (h : bits_TrailingZeros64.f a0 = some r) (hTab : TabW w := by first | exact hTab | exact TabW.drew hTab | exact TabW.drewN hTab _ | exact TabW.below hTab (by repeat (first | (with_reducible first | exact HB.out | apply below_alloc | apply pw_below_drewN | apply below_drew1) | exact HB.out | exact Below.refl _ _))) :
    Calls Tryz.prog 299 #[.int .u64 a0] w fun e w' => e = .returned (.int .i64 r) ∧ Drawn0 w w' := by
  unfold bits_TrailingZeros64.f at h
  split at h
  · rename_i hx
    obtain ⟨x, rfl⟩ := Int.eq_ofNat_of_zero_le hx.1
    obtain rfl := Option.some.inj h
    rw [Int.toNat_natCast]
    by_cases hx0 : x = 0
    · subst hx0
      refine (tz_zero w).mono ?_
      rintro e w' ⟨he, rfl⟩
      exact ⟨he, Drawn0.refl _⟩
    · obtain ⟨hlow, hk⟩ := Lib.lowest_bit 64 x hx0 (by omega)
      obtain ⟨hi, htab⟩ := Lib.deBruijn64_at _ hk
      have hcell := hTab.db _ hi
      rw [htab] at hcell
      refine (tz_core x _ _ w (by simp; omega) (tz_key x _ (by omega) hx0 hlow) hi hk hcell).mono ?_
      rintro e w' ⟨he, rfl⟩
      exact ⟨he, Drawn0.refl _⟩
  · simp at h
def bits_Len64.j0 : Nat → Int → Int → Option (Int)
 | 0, _, _ => none
 | k + 1, x0, x2 => if x0 ≥ 65536 then (if (x0 / 65536) ≥ 256 then (if 0 ≤ (((x0 / 65536) / 256) % 256) then (if (((x0 / 65536) / 256) % 256) < 256 then (some (wrap64 ((wrap64 ((wrap64 (x2 + 16)) + 8)) + (wrap64 (bt (⟨#[0, 1, 2, 2, 3, 3, 3, 3, 4, 4, 4, 4, 4, 4, 4, 4, 5, 5, 5, 5, 5, 5, 5, 5, 5, 5, 5, 5, 5, 5, 5, 5, 6, 6, 6, 6, 6, 6, 6, 6, 6, 6, 6, 6, 6, 6, 6, 6, 6, 6, 6, 6, 6, 6, 6, 6, 6, 6, 6, 6, 6, 6, 6, 6, 7, 7, 7, 7, 7, 7, 7, 7, 7, 7, 7, 7, 7, 7, 7, 7, 7, 7, 7, 7, 7, 7, 7, 7, 7, 7, 7, 7, 7, 7, 7, 7, 7, 7, 7, 7, 7, 7, 7, 7, 7, 7, 7, 7, 7, 7, 7, 7, 7, 7, 7, 7, 7, 7, 7, 7, 7, 7, 7, 7, 7, 7, 7, 7, 8, 8, 8, 8, 8, 8, 8, 8, 8, 8, 8, 8, 8, 8, 8, 8, 8, 8, 8, 8, 8, 8, 8, 8, 8, 8, 8, 8, 8, 8, 8, 8, 8, 8, 8, 8, 8, 8, 8, 8, 8, 8, 8, 8, 8, 8, 8, 8, 8, 8, 8, 8, 8, 8, 8, 8, 8, 8, 8, 8, 8, 8, 8, 8, 8, 8, 8, 8, 8, 8, 8, 8, 8, 8, 8, 8, 8, 8, 8, 8, 8, 8, 8, 8, 8, 8, 8, 8, 8, 8, 8, 8, 8, 8, 8, 8, 8, 8, 8, 8, 8, 8, 8, 8, 8, 8, 8, 8, 8, 8, 8, 8, 8, 8, 8, 8, 8, 8, 8, 8, 8, 8, 8, 8, 8, 8, 8, 8]⟩ : ByteArray) (((x0 / 65536) / 256) % 256)))))) else (none)) else (none)) else (if 0 ≤ ((x0 / 65536) % 256) then (if ((x0 / 65536) % 256) < 256 then (some (wrap64 ((wrap64 (x2 + 16)) + (wrap64 (bt (⟨#[0, 1, 2, 2, 3, 3, 3, 3, 4, 4, 4, 4, 4, 4, 4, 4, 5, 5, 5, 5, 5, 5, 5, 5, 5, 5, 5, 5, 5, 5, 5, 5, 6, 6, 6, 6, 6, 6, 6, 6, 6, 6, 6, 6, 6, 6, 6, 6, 6, 6, 6, 6, 6, 6, 6, 6, 6, 6, 6, 6, 6, 6, 6, 6, 7, 7, 7, 7, 7, 7, 7, 7, 7, 7, 7, 7, 7, 7, 7, 7, 7, 7, 7, 7, 7, 7, 7, 7, 7, 7, 7, 7, 7, 7, 7, 7, 7, 7, 7, 7, 7, 7, 7, 7, 7, 7, 7, 7, 7, 7, 7, 7, 7, 7, 7, 7, 7, 7, 7, 7, 7, 7, 7, 7, 7, 7, 7, 7, 8, 8, 8, 8, 8, 8, 8, 8, 8, 8, 8, 8, 8, 8, 8, 8, 8, 8, 8, 8, 8, 8, 8, 8, 8, 8, 8, 8, 8, 8, 8, 8, 8, 8, 8, 8, 8, 8, 8, 8, 8, 8, 8, 8, 8, 8, 8, 8, 8, 8, 8, 8, 8, 8, 8, 8, 8, 8, 8, 8, 8, 8, 8, 8, 8, 8, 8, 8, 8, 8, 8, 8, 8, 8, 8, 8, 8, 8, 8, 8, 8, 8, 8, 8, 8, 8, 8, 8, 8, 8, 8, 8, 8, 8, 8, 8, 8, 8, 8, 8, 8, 8, 8, 8, 8, 8, 8, 8, 8, 8, 8, 8, 8, 8, 8, 8, 8, 8, 8, 8, 8, 8, 8, 8, 8, 8, 8, 8]⟩ : ByteArray) ((x0 / 65536) % 256)))))) else (none)) else (none))) else (if x0 ≥ 256 then (if 0 ≤ ((x0 / 256) % 256) then (if ((x0 / 256) % 256) < 256 then (some (wrap64 ((wrap64 (x2 + 8)) + (wrap64 (bt (⟨#[0, 1, 2, 2, 3, 3, 3, 3, 4, 4, 4, 4, 4, 4, 4, 4, 5, 5, 5, 5, 5, 5, 5, 5, 5, 5, 5, 5, 5, 5, 5, 5, 6, 6, 6, 6, 6, 6, 6, 6, 6, 6, 6, 6, 6, 6, 6, 6, 6, 6, 6, 6, 6, 6, 6, 6, 6, 6, 6, 6, 6, 6, 6, 6, 7, 7, 7, 7, 7, 7, 7, 7, 7, 7, 7, 7, 7, 7, 7, 7, 7, 7, 7, 7, 7, 7, 7, 7, 7, 7, 7, 7, 7, 7, 7, 7, 7, 7, 7, 7, 7, 7, 7, 7, 7, 7, 7, 7, 7, 7, 7, 7, 7, 7, 7, 7, 7, 7, 7, 7, 7, 7, 7, 7, 7, 7, 7, 7, 8, 8, 8, 8, 8, 8, 8, 8, 8, 8, 8, 8, 8, 8, 8, 8, 8, 8, 8, 8, 8, 8, 8, 8, 8, 8, 8, 8, 8, 8, 8, 8, 8, 8, 8, 8, 8, 8, 8, 8, 8, 8, 8, 8, 8, 8, 8, 8, 8, 8, 8, 8, 8, 8, 8, 8, 8, 8, 8, 8, 8, 8, 8, 8, 8, 8, 8, 8, 8, 8, 8, 8, 8, 8, 8, 8, 8, 8, 8, 8, 8, 8, 8, 8, 8, 8, 8, 8, 8, 8, 8, 8, 8, 8, 8, 8, 8, 8, 8, 8, 8, 8, 8, 8, 8, 8, 8, 8, 8, 8, 8, 8, 8, 8, 8, 8, 8, 8, 8, 8, 8, 8, 8, 8, 8, 8, 8, 8]⟩ : ByteArray) ((x0 / 256) % 256)))))) else (none)) else (none)) else (if 0 ≤ ((x0) % 256) then (if ((x0) % 256) < 256 then (some (wrap64 (x2 + (wrap64 (bt (⟨#[0, 1, 2, 2, 3, 3, 3, 3, 4, 4, 4, 4, 4, 4, 4, 4, 5, 5, 5, 5, 5, 5, 5, 5, 5, 5, 5, 5, 5, 5, 5, 5, 6, 6, 6, 6, 6, 6, 6, 6, 6, 6, 6, 6, 6, 6, 6, 6, 6, 6, 6, 6, 6, 6, 6, 6, 6, 6, 6, 6, 6, 6, 6, 6, 7, 7, 7, 7, 7, 7, 7, 7, 7, 7, 7, 7, 7, 7, 7, 7, 7, 7, 7, 7, 7, 7, 7, 7, 7, 7, 7, 7, 7, 7, 7, 7, 7, 7, 7, 7, 7, 7, 7, 7, 7, 7, 7, 7, 7, 7, 7, 7, 7, 7, 7, 7, 7, 7, 7, 7, 7, 7, 7, 7, 7, 7, 7, 7, 8, 8, 8, 8, 8, 8, 8, 8, 8, 8, 8, 8, 8, 8, 8, 8, 8, 8, 8, 8, 8, 8, 8, 8, 8, 8, 8, 8, 8, 8, 8, 8, 8, 8, 8, 8, 8, 8, 8, 8, 8, 8, 8, 8, 8, 8, 8, 8, 8, 8, 8, 8, 8, 8, 8, 8, 8, 8, 8, 8, 8, 8, 8, 8, 8, 8, 8, 8, 8, 8, 8, 8, 8, 8, 8, 8, 8, 8, 8, 8, 8, 8, 8, 8, 8, 8, 8, 8, 8, 8, 8, 8, 8, 8, 8, 8, 8, 8, 8, 8, 8, 8, 8, 8, 8, 8, 8, 8, 8, 8, 8, 8, 8, 8, 8, 8, 8, 8, 8, 8, 8, 8, 8, 8, 8, 8, 8, 8]⟩ : ByteArray) ((x0) % 256)))))) else (none)) else (none)))
def bits_Len64.f (k : Nat) (a0 : Int) : Option (Int) := if a0 ≥ 4294967296 then (bits_Len64.j0 k (a0 / 4294967296) 32) else (bits_Len64.j0 k a0 0)
theorem bits_Len64.mono_l : ∀ k, (∀ y0 y1, LeO (bits_Len64.j0 k y0 y1) (bits_Len64.j0 (k + 1) y0 y1))
 | 0 => fun _ _ r h => by simp [bits_Len64.j0] at h
 | k + 1 => by
  have ih0 := bits_Len64.mono_l k
  ·
   intro y0 y1
   unfold bits_Len64.j0
   repeat' first
   | (with_reducible exact ih0 _ _)
   | (with_reducible exact LeO.refl _)
   | (with_reducible exact LeO.none _)
   | (with_reducible refine LeO.ite ?_ ?_)
   | (with_reducible refine LeO.bind ?_ (fun _ => ?_))
   | exact ih0 _ _
   | exact LeO.none _
   | refine LeO.ite ?_ ?_
   | refine LeO.bind ?_ (fun _ => ?_)
theorem bits_Len64.mono : ∀ a0 k, LeO (bits_Len64.f k a0) (bits_Len64.f (k + 1) a0) := by
 intro a0 k
 have ih0 := bits_Len64.mono_l k
 unfold bits_Len64.f
 repeat' first
   | (with_reducible exact ih0 _ _)
   | (with_reducible exact LeO.refl _)
   | (with_reducible exact LeO.none _)
   | (with_reducible refine LeO.ite ?_ ?_)
   | (with_reducible refine LeO.bind ?_ (fun _ => ?_))
   | exact ih0 _ _
   | exact LeO.none _
   | refine LeO.ite ?_ ?_
   | refine LeO.bind ?_ (fun _ => ?_)
set_option maxHeartbeats 8000000 in
set_option maxRecDepth 100000 in
theorem bits_Len64.calls (k : Nat) (a0 : Int) (r : Int) (w : World) (h : bits_Len64.f k a0 = some r) :
    Calls Tryz.prog 219 #[.int .u64 a0] w fun e w' => e = .returned (.int .i64 r) ∧ Drawn0 w w' := by
 have H : (if a0 ≥ 4294967296 then (bits_Len64.j0 k (a0 / 4294967296) 32) else (bits_Len64.j0 k a0 0)) = some r := h
 clear h
 have HC2 := aq H
 clear H
 go_enter Tryz.func219, Tryz.ntmps219
 go_upto_if 4 with (fail)
 go_cut [0, 2] (fun v0 v2 wc => ∃ (kq : Nat) (x0_1 : Int) (x2_1 : Int), v0 = .int .u64 x0_1 ∧ v2 = .int .i64 x2_1 ∧ Aside0 (bits_Len64.j0 kq x0_1 x2_1 = some r) ∧ Aside0 (kq ≤ k) ∧ Drawn0 w wc)
 case first =>
  have H := HC2.out
  clear HC2
  (try (rw [drewN_self w]; have n0_ := fun n_ => pw_below_drewN HB.out n_; clear HB; generalize hq_ : World.drewN w _ = w; have HB := aq (hq_ ▸ n0_ _); clear hq_ n0_))
  by_cases c3 : a0 ≥ 4294967296
  ·
   rw [if_pos c3] at H
   have c3b0 : decide (4294967296 ≤ a0) = true := decide_eq_true c3
   clear c3
   (first | rw [c3b0] | (simp only [i64_w, i32_w]; rw [c3b0]) | skip)
   have H' := aq H
   clear H
   go_wp2
   go_meet
   case rel => exact ⟨_, (a0 / 4294967296), (32), (by first | rfl | (simp; done) | (simp [*]; done)), (by first | rfl | (simp; done) | (simp [*]; done)), H', ⟨by first | omega | exact Nat.le_refl _⟩, by repeat (first | exact Drawn0.refl _ | apply Drawn0.step)⟩
  ·
   rw [if_neg c3] at H
   have c3b0 : decide (4294967296 ≤ a0) = false := decide_eq_false c3
   clear c3
   (first | rw [c3b0] | (simp only [i64_w, i32_w]; rw [c3b0]) | skip)
   have H' := aq H
   clear H
   go_wp2
   go_meet
   case rel => exact ⟨_, (a0), (0), (by first | rfl | (simp; done) | (simp [*]; done)), (by first | rfl | (simp; done) | (simp [*]; done)), H', ⟨by first | omega | exact Nat.le_refl _⟩, by repeat (first | exact Drawn0.refl _ | apply Drawn0.step)⟩
 case rest =>
  clear HC2
  try clear c2
  try clear p2
  try clear c3
  try clear c3b0
  obtain ⟨kq, x0_1, x2_1, rfl, rfl, HA, HJ1, ⟨mc1, rfl⟩⟩ := hcut
  cases kq with
  | zero => exact absurd HA.out (by simp [bits_Len64.j0])
  | succ kj1 =>
   have H := HA.out
   clear HA
   simp only [bits_Len64.j0] at H
   by_cases c4 : x0_1 ≥ 65536
   ·
    rw [if_pos c4] at H
    have c4b0 : decide (65536 ≤ x0_1) = true := decide_eq_true c4
    clear c4
    by_cases c5 : (x0_1 / 65536) ≥ 256
    ·
     rw [if_pos c5] at H
     have c5b0 : decide (256 ≤ (x0_1 / 65536)) = true := decide_eq_true c5
     clear c5
     obtain ⟨ji6, hji6⟩ : ∃ j_ : Int, (((x0_1 / 65536) / 256) % 256) = j_ := ⟨_, rfl⟩
     replace H : (if 0 ≤ (ji6) then (if (ji6) < 256 then (some (wrap64 ((wrap64 ((wrap64 (x2_1 + 16)) + 8)) + (wrap64 (bt (⟨#[0, 1, 2, 2, 3, 3, 3, 3, 4, 4, 4, 4, 4, 4, 4, 4, 5, 5, 5, 5, 5, 5, 5, 5, 5, 5, 5, 5, 5, 5, 5, 5, 6, 6, 6, 6, 6, 6, 6, 6, 6, 6, 6, 6, 6, 6, 6, 6, 6, 6, 6, 6, 6, 6, 6, 6, 6, 6, 6, 6, 6, 6, 6, 6, 7, 7, 7, 7, 7, 7, 7, 7, 7, 7, 7, 7, 7, 7, 7, 7, 7, 7, 7, 7, 7, 7, 7, 7, 7, 7, 7, 7, 7, 7, 7, 7, 7, 7, 7, 7, 7, 7, 7, 7, 7, 7, 7, 7, 7, 7, 7, 7, 7, 7, 7, 7, 7, 7, 7, 7, 7, 7, 7, 7, 7, 7, 7, 7, 8, 8, 8, 8, 8, 8, 8, 8, 8, 8, 8, 8, 8, 8, 8, 8, 8, 8, 8, 8, 8, 8, 8, 8, 8, 8, 8, 8, 8, 8, 8, 8, 8, 8, 8, 8, 8, 8, 8, 8, 8, 8, 8, 8, 8, 8, 8, 8, 8, 8, 8, 8, 8, 8, 8, 8, 8, 8, 8, 8, 8, 8, 8, 8, 8, 8, 8, 8, 8, 8, 8, 8, 8, 8, 8, 8, 8, 8, 8, 8, 8, 8, 8, 8, 8, 8, 8, 8, 8, 8, 8, 8, 8, 8, 8, 8, 8, 8, 8, 8, 8, 8, 8, 8, 8, 8, 8, 8, 8, 8, 8, 8, 8, 8, 8, 8, 8, 8, 8, 8, 8, 8, 8, 8, 8, 8, 8, 8]⟩ : ByteArray) (ji6)))))) else (none)) else (none)) = some r := by first | (rw [hji6] at H; exact H) | (simp only [hji6] at H ⊢; exact H)
     by_cases c7 : 0 ≤ (ji6)
     ·
      rw [if_pos c7] at H
      have c7b0 : decide (0 ≤ (ji6)) = true := decide_eq_true c7
      clear c7
      by_cases c8 : (ji6) < 256
      ·
       rw [if_pos c8] at H
       have c8b0 : decide ((ji6) < 256) = true := decide_eq_true c8
       clear c8
       obtain rfl := Option.some.inj H
       have p9 : 0 ≤ ((ji6) : Int) := of_decide_eq_true (by first | (with_reducible assumption) | assumption)
       have q9 : (ji6) < (256 : Int) := of_decide_eq_true (by first | (with_reducible assumption) | assumption)
       have hx9 := bt_at (⟨#[0, 1, 2, 2, 3, 3, 3, 3, 4, 4, 4, 4, 4, 4, 4, 4, 5, 5, 5, 5, 5, 5, 5, 5, 5, 5, 5, 5, 5, 5, 5, 5, 6, 6, 6, 6, 6, 6, 6, 6, 6, 6, 6, 6, 6, 6, 6, 6, 6, 6, 6, 6, 6, 6, 6, 6, 6, 6, 6, 6, 6, 6, 6, 6, 7, 7, 7, 7, 7, 7, 7, 7, 7, 7, 7, 7, 7, 7, 7, 7, 7, 7, 7, 7, 7, 7, 7, 7, 7, 7, 7, 7, 7, 7, 7, 7, 7, 7, 7, 7, 7, 7, 7, 7, 7, 7, 7, 7, 7, 7, 7, 7, 7, 7, 7, 7, 7, 7, 7, 7, 7, 7, 7, 7, 7, 7, 7, 7, 8, 8, 8, 8, 8, 8, 8, 8, 8, 8, 8, 8, 8, 8, 8, 8, 8, 8, 8, 8, 8, 8, 8, 8, 8, 8, 8, 8, 8, 8, 8, 8, 8, 8, 8, 8, 8, 8, 8, 8, 8, 8, 8, 8, 8, 8, 8, 8, 8, 8, 8, 8, 8, 8, 8, 8, 8, 8, 8, 8, 8, 8, 8, 8, 8, 8, 8, 8, 8, 8, 8, 8, 8, 8, 8, 8, 8, 8, 8, 8, 8, 8, 8, 8, 8, 8, 8, 8, 8, 8, 8, 8, 8, 8, 8, 8, 8, 8, 8, 8, 8, 8, 8, 8, 8, 8, 8, 8, 8, 8, 8, 8, 8, 8, 8, 8, 8, 8, 8, 8, 8, 8, 8, 8, 8, 8, 8, 8]⟩ : ByteArray) (ji6)
       replace p9 := eq_true p9
       replace q9 := eq_true q9
       go_wp2
       go_ret
       exact ⟨by first | rfl | (simp; done) | (simp only [← hji6] <;> (first | rfl | simp)) | (simp [*]; done), by repeat (first | exact Drawn0.refl _ | apply Drawn0.step)⟩
      ·
       rw [if_neg c8] at H
       exact absurd H (by simp)
     ·
      rw [if_neg c7] at H
      exact absurd H (by simp)
    ·
     rw [if_neg c5] at H
     have c5b0 : decide (256 ≤ (x0_1 / 65536)) = false := decide_eq_false c5
     clear c5
     obtain ⟨ji10, hji10⟩ : ∃ j_ : Int, ((x0_1 / 65536) % 256) = j_ := ⟨_, rfl⟩
     replace H : (if 0 ≤ (ji10) then (if (ji10) < 256 then (some (wrap64 ((wrap64 (x2_1 + 16)) + (wrap64 (bt (⟨#[0, 1, 2, 2, 3, 3, 3, 3, 4, 4, 4, 4, 4, 4, 4, 4, 5, 5, 5, 5, 5, 5, 5, 5, 5, 5, 5, 5, 5, 5, 5, 5, 6, 6, 6, 6, 6, 6, 6, 6, 6, 6, 6, 6, 6, 6, 6, 6, 6, 6, 6, 6, 6, 6, 6, 6, 6, 6, 6, 6, 6, 6, 6, 6, 7, 7, 7, 7, 7, 7, 7, 7, 7, 7, 7, 7, 7, 7, 7, 7, 7, 7, 7, 7, 7, 7, 7, 7, 7, 7, 7, 7, 7, 7, 7, 7, 7, 7, 7, 7, 7, 7, 7, 7, 7, 7, 7, 7, 7, 7, 7, 7, 7, 7, 7, 7, 7, 7, 7, 7, 7, 7, 7, 7, 7, 7, 7, 7, 8, 8, 8, 8, 8, 8, 8, 8, 8, 8, 8, 8, 8, 8, 8, 8, 8, 8, 8, 8, 8, 8, 8, 8, 8, 8, 8, 8, 8, 8, 8, 8, 8, 8, 8, 8, 8, 8, 8, 8, 8, 8, 8, 8, 8, 8, 8, 8, 8, 8, 8, 8, 8, 8, 8, 8, 8, 8, 8, 8, 8, 8, 8, 8, 8, 8, 8, 8, 8, 8, 8, 8, 8, 8, 8, 8, 8, 8, 8, 8, 8, 8, 8, 8, 8, 8, 8, 8, 8, 8, 8, 8, 8, 8, 8, 8, 8, 8, 8, 8, 8, 8, 8, 8, 8, 8, 8, 8, 8, 8, 8, 8, 8, 8, 8, 8, 8, 8, 8, 8, 8, 8, 8, 8, 8, 8, 8, 8]⟩ : ByteArray) (ji10)))))) else (none)) else (none)) = some r := by first | (rw [hji10] at H; exact H) | (simp only [hji10] at H ⊢; exact H)
     by_cases c11 : 0 ≤ (ji10)
     ·
      rw [if_pos c11] at H
      have c11b0 : decide (0 ≤ (ji10)) = true := decide_eq_true c11
      clear c11
      by_cases c12 : (ji10) < 256
      ·
       rw [if_pos c12] at H
       have c12b0 : decide ((ji10) < 256) = true := decide_eq_true c12
       clear c12
       obtain rfl := Option.some.inj H
       have p13 : 0 ≤ ((ji10) : Int) := of_decide_eq_true (by first | (with_reducible assumption) | assumption)
       have q13 : (ji10) < (256 : Int) := of_decide_eq_true (by first | (with_reducible assumption) | assumption)
       have hx13 := bt_at (⟨#[0, 1, 2, 2, 3, 3, 3, 3, 4, 4, 4, 4, 4, 4, 4, 4, 5, 5, 5, 5, 5, 5, 5, 5, 5, 5, 5, 5, 5, 5, 5, 5, 6, 6, 6, 6, 6, 6, 6, 6, 6, 6, 6, 6, 6, 6, 6, 6, 6, 6, 6, 6, 6, 6, 6, 6, 6, 6, 6, 6, 6, 6, 6, 6, 7, 7, 7, 7, 7, 7, 7, 7, 7, 7, 7, 7, 7, 7, 7, 7, 7, 7, 7, 7, 7, 7, 7, 7, 7, 7, 7, 7, 7, 7, 7, 7, 7, 7, 7, 7, 7, 7, 7, 7, 7, 7, 7, 7, 7, 7, 7, 7, 7, 7, 7, 7, 7, 7, 7, 7, 7, 7, 7, 7, 7, 7, 7, 7, 8, 8, 8, 8, 8, 8, 8, 8, 8, 8, 8, 8, 8, 8, 8, 8, 8, 8, 8, 8, 8, 8, 8, 8, 8, 8, 8, 8, 8, 8, 8, 8, 8, 8, 8, 8, 8, 8, 8, 8, 8, 8, 8, 8, 8, 8, 8, 8, 8, 8, 8, 8, 8, 8, 8, 8, 8, 8, 8, 8, 8, 8, 8, 8, 8, 8, 8, 8, 8, 8, 8, 8, 8, 8, 8, 8, 8, 8, 8, 8, 8, 8, 8, 8, 8, 8, 8, 8, 8, 8, 8, 8, 8, 8, 8, 8, 8, 8, 8, 8, 8, 8, 8, 8, 8, 8, 8, 8, 8, 8, 8, 8, 8, 8, 8, 8, 8, 8, 8, 8, 8, 8, 8, 8, 8, 8, 8, 8]⟩ : ByteArray) (ji10)
       replace p13 := eq_true p13
       replace q13 := eq_true q13
       go_wp2
       go_ret
       exact ⟨by first | rfl | (simp; done) | (simp only [← hji10] <;> (first | rfl | simp)) | (simp [*]; done), by repeat (first | exact Drawn0.refl _ | apply Drawn0.step)⟩
      ·
       rw [if_neg c12] at H
       exact absurd H (by simp)
     ·
      rw [if_neg c11] at H
      exact absurd H (by simp)
   ·
    rw [if_neg c4] at H
    have c4b0 : decide (65536 ≤ x0_1) = false := decide_eq_false c4
    clear c4
    by_cases c14 : x0_1 ≥ 256
    ·
     rw [if_pos c14] at H
     have c14b0 : decide (256 ≤ x0_1) = true := decide_eq_true c14
     clear c14
     obtain ⟨ji15, hji15⟩ : ∃ j_ : Int, ((x0_1 / 256) % 256) = j_ := ⟨_, rfl⟩
     replace H : (if 0 ≤ (ji15) then (if (ji15) < 256 then (some (wrap64 ((wrap64 (x2_1 + 8)) + (wrap64 (bt (⟨#[0, 1, 2, 2, 3, 3, 3, 3, 4, 4, 4, 4, 4, 4, 4, 4, 5, 5, 5, 5, 5, 5, 5, 5, 5, 5, 5, 5, 5, 5, 5, 5, 6, 6, 6, 6, 6, 6, 6, 6, 6, 6, 6, 6, 6, 6, 6, 6, 6, 6, 6, 6, 6, 6, 6, 6, 6, 6, 6, 6, 6, 6, 6, 6, 7, 7, 7, 7, 7, 7, 7, 7, 7, 7, 7, 7, 7, 7, 7, 7, 7, 7, 7, 7, 7, 7, 7, 7, 7, 7, 7, 7, 7, 7, 7, 7, 7, 7, 7, 7, 7, 7, 7, 7, 7, 7, 7, 7, 7, 7, 7, 7, 7, 7, 7, 7, 7, 7, 7, 7, 7, 7, 7, 7, 7, 7, 7, 7, 8, 8, 8, 8, 8, 8, 8, 8, 8, 8, 8, 8, 8, 8, 8, 8, 8, 8, 8, 8, 8, 8, 8, 8, 8, 8, 8, 8, 8, 8, 8, 8, 8, 8, 8, 8, 8, 8, 8, 8, 8, 8, 8, 8, 8, 8, 8, 8, 8, 8, 8, 8, 8, 8, 8, 8, 8, 8, 8, 8, 8, 8, 8, 8, 8, 8, 8, 8, 8, 8, 8, 8, 8, 8, 8, 8, 8, 8, 8, 8, 8, 8, 8, 8, 8, 8, 8, 8, 8, 8, 8, 8, 8, 8, 8, 8, 8, 8, 8, 8, 8, 8, 8, 8, 8, 8, 8, 8, 8, 8, 8, 8, 8, 8, 8, 8, 8, 8, 8, 8, 8, 8, 8, 8, 8, 8, 8, 8]⟩ : ByteArray) (ji15)))))) else (none)) else (none)) = some r := by first | (rw [hji15] at H; exact H) | (simp only [hji15] at H ⊢; exact H)
     by_cases c16 : 0 ≤ (ji15)
     ·
      rw [if_pos c16] at H
      have c16b0 : decide (0 ≤ (ji15)) = true := decide_eq_true c16
      clear c16
      by_cases c17 : (ji15) < 256
      ·
       rw [if_pos c17] at H
       have c17b0 : decide ((ji15) < 256) = true := decide_eq_true c17
       clear c17
       obtain rfl := Option.some.inj H
       have p18 : 0 ≤ ((ji15) : Int) := of_decide_eq_true (by first | (with_reducible assumption) | assumption)
       have q18 : (ji15) < (256 : Int) := of_decide_eq_true (by first | (with_reducible assumption) | assumption)
       have hx18 := bt_at (⟨#[0, 1, 2, 2, 3, 3, 3, 3, 4, 4, 4, 4, 4, 4, 4, 4, 5, 5, 5, 5, 5, 5, 5, 5, 5, 5, 5, 5, 5, 5, 5, 5, 6, 6, 6, 6, 6, 6, 6, 6, 6, 6, 6, 6, 6, 6, 6, 6, 6, 6, 6, 6, 6, 6, 6, 6, 6, 6, 6, 6, 6, 6, 6, 6, 7, 7, 7, 7, 7, 7, 7, 7, 7, 7, 7, 7, 7, 7, 7, 7, 7, 7, 7, 7, 7, 7, 7, 7, 7, 7, 7, 7, 7, 7, 7, 7, 7, 7, 7, 7, 7, 7, 7, 7, 7, 7, 7, 7, 7, 7, 7, 7, 7, 7, 7, 7, 7, 7, 7, 7, 7, 7, 7, 7, 7, 7, 7, 7, 8, 8, 8, 8, 8, 8, 8, 8, 8, 8, 8, 8, 8, 8, 8, 8, 8, 8, 8, 8, 8, 8, 8, 8, 8, 8, 8, 8, 8, 8, 8, 8, 8, 8, 8, 8, 8, 8, 8, 8, 8, 8, 8, 8, 8, 8, 8, 8, 8, 8, 8, 8, 8, 8, 8, 8, 8, 8, 8, 8, 8, 8, 8, 8, 8, 8, 8, 8, 8, 8, 8, 8, 8, 8, 8, 8, 8, 8, 8, 8, 8, 8, 8, 8, 8, 8, 8, 8, 8, 8, 8, 8, 8, 8, 8, 8, 8, 8, 8, 8, 8, 8, 8, 8, 8, 8, 8, 8, 8, 8, 8, 8, 8, 8, 8, 8, 8, 8, 8, 8, 8, 8, 8, 8, 8, 8, 8, 8]⟩ : ByteArray) (ji15)
       replace p18 := eq_true p18
       replace q18 := eq_true q18
       go_wp2
       go_ret
       exact ⟨by first | rfl | (simp; done) | (simp only [← hji15] <;> (first | rfl | simp)) | (simp [*]; done), by repeat (first | exact Drawn0.refl _ | apply Drawn0.step)⟩
      ·
       rw [if_neg c17] at H
       exact absurd H (by simp)
     ·
      rw [if_neg c16] at H
      exact absurd H (by simp)
    ·
     rw [if_neg c14] at H
     have c14b0 : decide (256 ≤ x0_1) = false := decide_eq_false c14
     clear c14
     obtain ⟨ji19, hji19⟩ : ∃ j_ : Int, ((x0_1) % 256) = j_ := ⟨_, rfl⟩
     replace H : (if 0 ≤ (ji19) then (if (ji19) < 256 then (some (wrap64 (x2_1 + (wrap64 (bt (⟨#[0, 1, 2, 2, 3, 3, 3, 3, 4, 4, 4, 4, 4, 4, 4, 4, 5, 5, 5, 5, 5, 5, 5, 5, 5, 5, 5, 5, 5, 5, 5, 5, 6, 6, 6, 6, 6, 6, 6, 6, 6, 6, 6, 6, 6, 6, 6, 6, 6, 6, 6, 6, 6, 6, 6, 6, 6, 6, 6, 6, 6, 6, 6, 6, 7, 7, 7, 7, 7, 7, 7, 7, 7, 7, 7, 7, 7, 7, 7, 7, 7, 7, 7, 7, 7, 7, 7, 7, 7, 7, 7, 7, 7, 7, 7, 7, 7, 7, 7, 7, 7, 7, 7, 7, 7, 7, 7, 7, 7, 7, 7, 7, 7, 7, 7, 7, 7, 7, 7, 7, 7, 7, 7, 7, 7, 7, 7, 7, 8, 8, 8, 8, 8, 8, 8, 8, 8, 8, 8, 8, 8, 8, 8, 8, 8, 8, 8, 8, 8, 8, 8, 8, 8, 8, 8, 8, 8, 8, 8, 8, 8, 8, 8, 8, 8, 8, 8, 8, 8, 8, 8, 8, 8, 8, 8, 8, 8, 8, 8, 8, 8, 8, 8, 8, 8, 8, 8, 8, 8, 8, 8, 8, 8, 8, 8, 8, 8, 8, 8, 8, 8, 8, 8, 8, 8, 8, 8, 8, 8, 8, 8, 8, 8, 8, 8, 8, 8, 8, 8, 8, 8, 8, 8, 8, 8, 8, 8, 8, 8, 8, 8, 8, 8, 8, 8, 8, 8, 8, 8, 8, 8, 8, 8, 8, 8, 8, 8, 8, 8, 8, 8, 8, 8, 8, 8, 8]⟩ : ByteArray) (ji19)))))) else (none)) else (none)) = some r := by first | (rw [hji19] at H; exact H) | (simp only [hji19] at H ⊢; exact H)
     by_cases c20 : 0 ≤ (ji19)
     ·
      rw [if_pos c20] at H
      have c20b0 : decide (0 ≤ (ji19)) = true := decide_eq_true c20
      clear c20
      by_cases c21 : (ji19) < 256
      ·
       rw [if_pos c21] at H
       have c21b0 : decide ((ji19) < 256) = true := decide_eq_true c21
       clear c21
       obtain rfl := Option.some.inj H
       have p22 : 0 ≤ ((ji19) : Int) := of_decide_eq_true (by first | (with_reducible assumption) | assumption)
       have q22 : (ji19) < (256 : Int) := of_decide_eq_true (by first | (with_reducible assumption) | assumption)
       have hx22 := bt_at (⟨#[0, 1, 2, 2, 3, 3, 3, 3, 4, 4, 4, 4, 4, 4, 4, 4, 5, 5, 5, 5, 5, 5, 5, 5, 5, 5, 5, 5, 5, 5, 5, 5, 6, 6, 6, 6, 6, 6, 6, 6, 6, 6, 6, 6, 6, 6, 6, 6, 6, 6, 6, 6, 6, 6, 6, 6, 6, 6, 6, 6, 6, 6, 6, 6, 7, 7, 7, 7, 7, 7, 7, 7, 7, 7, 7, 7, 7, 7, 7, 7, 7, 7, 7, 7, 7, 7, 7, 7, 7, 7, 7, 7, 7, 7, 7, 7, 7, 7, 7, 7, 7, 7, 7, 7, 7, 7, 7, 7, 7, 7, 7, 7, 7, 7, 7, 7, 7, 7, 7, 7, 7, 7, 7, 7, 7, 7, 7, 7, 8, 8, 8, 8, 8, 8, 8, 8, 8, 8, 8, 8, 8, 8, 8, 8, 8, 8, 8, 8, 8, 8, 8, 8, 8, 8, 8, 8, 8, 8, 8, 8, 8, 8, 8, 8, 8, 8, 8, 8, 8, 8, 8, 8, 8, 8, 8, 8, 8, 8, 8, 8, 8, 8, 8, 8, 8, 8, 8, 8, 8, 8, 8, 8, 8, 8, 8, 8, 8, 8, 8, 8, 8, 8, 8, 8, 8, 8, 8, 8, 8, 8, 8, 8, 8, 8, 8, 8, 8, 8, 8, 8, 8, 8, 8, 8, 8, 8, 8, 8, 8, 8, 8, 8, 8, 8, 8, 8, 8, 8, 8, 8, 8, 8, 8, 8, 8, 8, 8, 8, 8, 8, 8, 8, 8, 8, 8, 8]⟩ : ByteArray) (ji19)
       replace p22 := eq_true p22
       replace q22 := eq_true q22
       go_wp2
       go_ret
       exact ⟨by first | rfl | (simp; done) | (simp only [← hji19] <;> (first | rfl | simp)) | (simp [*]; done), by repeat (first | exact Drawn0.refl _ | apply Drawn0.step)⟩
      ·
       rw [if_neg c21] at H
       exact absurd H (by simp)
     ·
      rw [if_neg c20] at H
      exact absurd H (by simp)
def bits_LeadingZeros64.f (k : Nat) (a0 : Int) : Option (Int) := (bits_Len64.f k a0).bind fun t103 => (some (wrap64 (64 - t103)))
theorem bits_LeadingZeros64.mono : ∀ a0 k, LeO (bits_LeadingZeros64.f k a0) (bits_LeadingZeros64.f (k + 1) a0) := by
 intro a0 k
 unfold bits_LeadingZeros64.f
 repeat' first
   | (with_reducible exact bits_Len64.mono _ _)
   | (with_reducible exact LeO.refl _)
   | (with_reducible exact LeO.none _)
   | (with_reducible refine LeO.ite ?_ ?_)
   | (with_reducible refine LeO.bind ?_ (fun _ => ?_))
   | exact bits_Len64.mono _ _
   | exact LeO.none _
   | refine LeO.ite ?_ ?_
   | refine LeO.bind ?_ (fun _ => ?_)
set_option maxHeartbeats 8000000 in
set_option maxRecDepth 100000 in
theorem bits_LeadingZeros64.calls (k : Nat) (a0 : Int) (r : Int) (w : World) (h : bits_LeadingZeros64.f k a0 = some r) :
    Calls Tryz.prog 300 #[.int .u64 a0] w fun e w' => e = .returned (.int .i64 r) ∧ Drawn0 w w' := by
 have H : ((bits_Len64.f k a0).bind fun t103 => (some (wrap64 (64 - t103)))) = some r := h
 clear h
 replace H := Option.bind_eq_some_iff.mp H
 obtain ⟨t103, A20, H⟩ := H
 replace H : (some (wrap64 (64 - t103))) = some r := H
 have A2 := aq A20
 clear A20
 obtain rfl := Option.some.inj H
 go_enter Tryz.func300, Tryz.ntmps300
 go_wp2_with (first | ((with_reducible refine gate_callee (f := 219) rfl ?_); refine goesL_ (some 4) rfl rfl Tryz.func219 (by kernel_rfl) rfl #[.int .u64 a0] rfl (by (try simp only [List.map_toArray, List.map_cons, List.map_nil]); first | done | rfl | (simp only [List.length_drop, List.length_take]; rfl)) ?_; (with_reducible refine (bits_Len64.calls k a0 t103 _ A2.out).mono ?_); rintro e w' ⟨rfl, ⟨nd, rfl⟩⟩; refine ⟨_, rfl, ?_⟩))
 go_ret
 exact ⟨by first | rfl | (simp; done) | (simp [*]; done), by repeat (first | exact Drawn0.refl _ | apply Drawn0.step)⟩
mutual
def bits_Rotate.l0 : Nat → Int → Int → Int → Bool → Int → Option (Int × Int)
 | 0, _, _, _, _, _ => none
 | k + 1, x0, x1, x2, x8, x10 => if x10 < 6 then (if x8 = true then (bits_Rotate.l0 k x0 x1 x2 true (wrap64 (x10 + 1))) else (if 0 ≤ x10 then (bits_Rotate.l0 k x0 x1 x2 (x2 == (shl .i64 2 x10)) (wrap64 (x10 + 1))) else (none))) else (if x8 = true then (if x1 < 0 then (bits_Rotate.j1 k x0 x1 x2 true) else (bits_Rotate.j1 k x0 x1 x2 (decide (x1 ≥ x2)))) else (bits_Rotate.j1 k x0 x1 x2 true))
def bits_Rotate.j1 : Nat → Int → Int → Int → Bool → Option (Int × Int)
 | 0, _, _, _, _ => none
 | k + 1, x0, x1, x2, x21 => if x21 = true then (some (0, 1)) else ((bits_ones.f x2).bind fun t104 => (if x0 > t104 then (some (0, 4)) else (if 0 ≤ x1 then (if 0 ≤ (wrap64 (x2 - x1)) then ((bits_Low.f (Go.bits .or .u64 (shr .u64 x0 x1) (shl .u64 x0 (wrap64 (x2 - x1)))) x2).bind fun t105 => (some (t105, 0))) else (none)) else (none))))
end
def bits_Rotate.f (k : Nat) (a0 : Int) (a1 : Int) (a2 : Int) : Option (Int × Int) := bits_Rotate.l0 k a0 a1 a2 false 0
theorem bits_Rotate.mono_l : ∀ k, (∀ y0 y1 y2 y3 y4, LeO (bits_Rotate.l0 k y0 y1 y2 y3 y4) (bits_Rotate.l0 (k + 1) y0 y1 y2 y3 y4)) ∧ (∀ y0 y1 y2 y3, LeO (bits_Rotate.j1 k y0 y1 y2 y3) (bits_Rotate.j1 (k + 1) y0 y1 y2 y3))
 | 0 => ⟨fun _ _ _ _ _ r h => by simp [bits_Rotate.l0] at h, fun _ _ _ _ r h => by simp [bits_Rotate.j1] at h⟩
 | k + 1 => by
  obtain ⟨ih0, ih1⟩ := bits_Rotate.mono_l k
  refine ⟨?_, ?_⟩
  ·
   intro y0 y1 y2 y3 y4
   unfold bits_Rotate.l0
   repeat' first
   | (with_reducible exact ih0 _ _ _ _ _)
   | (with_reducible exact ih1 _ _ _ _)
   | (with_reducible exact LeO.refl _)
   | (with_reducible exact LeO.none _)
   | (with_reducible refine LeO.ite ?_ ?_)
   | (with_reducible refine LeO.bind ?_ (fun _ => ?_))
   | exact ih0 _ _ _ _ _
   | exact ih1 _ _ _ _
   | exact LeO.none _
   | refine LeO.ite ?_ ?_
   | refine LeO.bind ?_ (fun _ => ?_)
  ·
   intro y0 y1 y2 y3
   unfold bits_Rotate.j1
   repeat' first
   | (with_reducible exact ih0 _ _ _ _ _)
   | (with_reducible exact ih1 _ _ _ _)
   | (with_reducible exact LeO.refl _)
   | (with_reducible exact LeO.none _)
   | (with_reducible refine LeO.ite ?_ ?_)
   | (with_reducible refine LeO.bind ?_ (fun _ => ?_))
   | exact ih0 _ _ _ _ _
   | exact ih1 _ _ _ _
   | exact LeO.none _
   | refine LeO.ite ?_ ?_
   | refine LeO.bind ?_ (fun _ => ?_)
theorem bits_Rotate.mono : ∀ a0 a1 a2 k, LeO (bits_Rotate.f k a0 a1 a2) (bits_Rotate.f (k + 1) a0 a1 a2) := by
 intro a0 a1 a2 k
 obtain ⟨ih0, ih1⟩ := bits_Rotate.mono_l k
 unfold bits_Rotate.f
 repeat' first
   | (with_reducible exact ih0 _ _ _ _ _)
   | (with_reducible exact ih1 _ _ _ _)
   | (with_reducible exact LeO.refl _)
   | (with_reducible exact LeO.none _)
   | (with_reducible refine LeO.ite ?_ ?_)
   | (with_reducible refine LeO.bind ?_ (fun _ => ?_))
   | exact ih0 _ _ _ _ _
   | exact ih1 _ _ _ _
   | exact LeO.none _
   | refine LeO.ite ?_ ?_
   | refine LeO.bind ?_ (fun _ => ?_)
def bits_Rotate.T11 : Bool × List (List Nat × List Nat) := (true, [([], []), ([], []), ([0, 1], [0, 1]), ([], []), ([], []), ([], []), ([4, 5], [4, 5]), ([3, 6], [3, 6]), ([2, 7], [2, 7]), ([], []), ([8, 9], [8, 9]), ([10, 10, 0, 1, 2, 3, 4, 5, 6, 7, 8, 9, 10], [10]), ([11, 0, 1, 2, 3, 4, 5, 6, 7, 8, 9, 10, 11], [])])
def bits_Rotate.B11 : List Nat := [0, 0, 3, 0, 0, 0, 48, 120, 255, 0, 1023, 2047, 4095]
theorem bits_Rotate.tab11 : rtab .any (opsOf Tryz.f301 11) = bits_Rotate.T11 := by kernel_rfl
theorem bits_Rotate.bits11 : waitsOk bits_Rotate.T11.2 bits_Rotate.B11 = true := by kernel_rfl
set_option maxHeartbeats 8000000 in
set_option maxRecDepth 100000 in
theorem bits_Rotate.calls (k : Nat) (a0 : Int) (a1 : Int) (a2 : Int) (r1 : Int) (r2 : Int) (w : World) (h : bits_Rotate.f k a0 a1 a2 = some (r1, r2)) :
    Calls Tryz.prog 301 #[.int .u64 a0, .int .i64 a1, .int .i64 a2] w fun e w' => e = .returned (.tuple #[.int .u64 r1, .int .i64 r2]) ∧ Below w.heap.size w w' := by
 have HB := aq (Below.refl w.heap.size w)
 have H : (bits_Rotate.l0 k a0 a1 a2 false 0) = some (r1, r2) := h
 clear h
 have H' := aq H
 clear H
 go_enter Tryz.func301, Tryz.ntmps301
 go_wp2
 go_loopg [8, 10] k (fun kq v8 v10 w' => ∃ (x8_1 : Bool) (x10_1 : Int), v8 = .bool x8_1 ∧ v10 = .int .i64 x10_1 ∧ Aside0 (bits_Rotate.l0 kq a0 a1 a2 x8_1 x10_1 = some (r1, r2)) ∧ Aside0 (kq ≤ k) ∧ Aside0 (Below w.heap.size w w'))
 case atStart => exact ⟨(false), (0), (by first | rfl | (simp; done) | (simp [*]; done)), (by first | rfl | (simp; done) | (simp [*]; done)), H', ⟨Nat.le_refl _⟩, ⟨by repeat (first | (with_reducible first | exact HB.out | apply below_alloc | apply pw_below_drewN | apply below_drew1) | exact HB.out)⟩⟩
 case round =>
  clear H'
  try clear p2
  try clear c3
  obtain ⟨x8_1, x10_1, rfl, rfl, HA, HK1, HB⟩ := hrel
  cases gk with
  | zero => exact absurd HA.out (by simp [bits_Rotate.l0])
  | succ k1 =>
   have H := HA.out
   clear HA
   simp only [bits_Rotate.l0] at H
   by_cases c4 : x10_1 < 6
   ·
    rw [if_pos c4] at H
    have c4b0 : decide (x10_1 < 6) = true := decide_eq_true c4
    clear c4
    by_cases c5 : x8_1 = true
    ·
     subst c5
     have H1 : (bits_Rotate.l0 k1 a0 a1 a2 true (wrap64 (x10_1 + 1))) = some (r1, r2) := by rw [if_pos rfl] at H; exact H
     clear H
     have H := H1
     clear H1
     have H' := aq H
     clear H
     go_wp2
     go_roundg k1
     case measure => have := HK1.out; omega
     case rel => exact ⟨(true), (wrap64 (x10_1 + 1)), (by first | rfl | (simp; done) | (simp [*]; done)), (by first | rfl | (simp; done) | (simp [*]; done)), H', ⟨by have := HK1.out; omega⟩, ⟨by repeat (first | (with_reducible first | exact HB.out | apply below_alloc | apply pw_below_drewN | apply below_drew1) | exact HB.out)⟩⟩
    ·
     replace c5 := Bool.eq_false_iff.mpr c5
     subst c5
     have H1 : (if 0 ≤ x10_1 then (bits_Rotate.l0 k1 a0 a1 a2 (a2 == (shl .i64 2 x10_1)) (wrap64 (x10_1 + 1))) else (none)) = some (r1, r2) := by rw [if_neg (show ¬ (false = true) by decide)] at H; exact H
     clear H
     have H := H1
     clear H1
     by_cases c6 : 0 ≤ x10_1
     ·
      rw [if_pos c6] at H
      have c6b0 := eq_true c6
      have c6b1 : decide (0 ≤ x10_1) = true := decide_eq_true c6
      clear c6
      obtain ⟨ji7, hji7⟩ : ∃ j_ : Int, (shl .i64 2 x10_1) = j_ := ⟨_, rfl⟩
      replace H : (bits_Rotate.l0 k1 a0 a1 a2 (a2 == (ji7)) (wrap64 (x10_1 + 1))) = some (r1, r2) := by first | (rw [hji7] at H; exact H) | (simp only [hji7] at H ⊢; exact H)
      have hji7_ : (IntKind.i64.wrap (2 * 2 ^ min x10_1.toNat 64)) = ji7 := hji7
      have hji7z : x10_1 ≤ 64 → (IntKind.i64.wrap (2 * 2 ^ x10_1.toNat)) = ji7 := shl_small hji7
      have hji7y : (wrap64 (2 * 2 ^ min x10_1.toNat 64)) = ji7 := (i64_w _).symm.trans hji7_
      have hji7x : x10_1 ≤ 64 → (wrap64 (2 * 2 ^ x10_1.toNat)) = ji7 := fun h_ => (i64_w _).symm.trans (hji7z h_)
      have H' := aq H
      clear H
      go_wp2
      go_roundg k1
      case measure => have := HK1.out; omega
      case rel => exact ⟨((a2 == (ji7))), (wrap64 (x10_1 + 1)), (by first | rfl | (simp; done) | (simp only [← hji7] <;> (first | rfl | simp)) | (simp [*]; done)), (by first | rfl | (simp; done) | (simp [*]; done)), H', ⟨by have := HK1.out; omega⟩, ⟨by repeat (first | (with_reducible first | exact HB.out | apply below_alloc | apply pw_below_drewN | apply below_drew1) | exact HB.out)⟩⟩
     ·
      rw [if_neg c6] at H
      exact absurd H (by simp)
   ·
    rw [if_neg c4] at H
    have c4b0 : decide (x10_1 < 6) = false := decide_eq_false c4
    clear c4
    have HC8 := aq H
    clear H
    go_upto_region 7 with (fail)
    go_cut [21] (fun v21 wc => ∃ (kq : Nat) (x21_7 : Bool), v21 = .bool x21_7 ∧ Aside0 (bits_Rotate.j1 kq a0 a1 a2 x21_7 = some (r1, r2)) ∧ Aside0 (kq ≤ k1) ∧ Aside0 (Below w.heap.size w wc))
    case first =>
     have H := HC8.out
     clear HC8
     (try (rw [drewN_self w]; have n0_ := fun n_ => pw_below_drewN HB.out n_; clear HB; generalize hq_ : World.drewN w _ = w; have HB := aq (hq_ ▸ n0_ _); clear hq_ n0_))
     by_cases c9 : x8_1 = true
     ·
      subst c9
      have H1 : (if a1 < 0 then (bits_Rotate.j1 k1 a0 a1 a2 true) else (bits_Rotate.j1 k1 a0 a1 a2 (decide (a1 ≥ a2)))) = some (r1, r2) := by rw [if_pos rfl] at H; exact H
      clear H
      have H := H1
      clear H1
      by_cases c10 : a1 < 0
      ·
       rw [if_pos c10] at H
       have c10b0 : decide (a1 < 0) = true := decide_eq_true c10
       clear c10
       (first | rw [c10b0] | (simp only [i64_w, i32_w]; rw [c10b0]) | skip)
       have H' := aq H
       clear H
       go_wp2
       go_meet
       case rel => exact ⟨_, (true), (by first | rfl | (simp; done) | (simp [*]; done)), H', ⟨by have := HK1.out; first | omega | exact Nat.le_refl _⟩, ⟨by repeat (first | (with_reducible first | exact HB.out | apply below_alloc | apply pw_below_drewN | apply below_drew1) | exact HB.out)⟩⟩
      ·
       rw [if_neg c10] at H
       have c10b0 : decide (a1 < 0) = false := decide_eq_false c10
       clear c10
       (first | rw [c10b0] | (simp only [i64_w, i32_w]; rw [c10b0]) | skip)
       have H' := aq H
       clear H
       go_wp2
       go_meet
       case rel => exact ⟨_, (decide (a1 ≥ a2)), (by first | rfl | (simp; done) | (simp [*]; done)), H', ⟨by have := HK1.out; first | omega | exact Nat.le_refl _⟩, ⟨by repeat (first | (with_reducible first | exact HB.out | apply below_alloc | apply pw_below_drewN | apply below_drew1) | exact HB.out)⟩⟩
     ·
      replace c9 := Bool.eq_false_iff.mpr c9
      subst c9
      have H1 : (bits_Rotate.j1 k1 a0 a1 a2 true) = some (r1, r2) := by rw [if_neg (show ¬ (false = true) by decide)] at H; exact H
      clear H
      have H := H1
      clear H1
      have H' := aq H
      clear H
      go_wp2
      go_meet
      case rel => exact ⟨_, (true), (by first | rfl | (simp; done) | (simp [*]; done)), H', ⟨by have := HK1.out; first | omega | exact Nat.le_refl _⟩, ⟨by repeat (first | (with_reducible first | exact HB.out | apply below_alloc | apply pw_below_drewN | apply below_drew1) | exact HB.out)⟩⟩
    case rest =>
     clear HC8
     try clear c1
     try clear p2
     try clear c3
     try clear c4
     try clear c4b0
     try clear c5
     try clear c6
     try clear c6b0
     try clear c6b1
     try clear p6
     try clear c9
     try clear c10
     try clear c10b0
     try clear p2
     obtain ⟨kq, x21_7, rfl, HA, HJ7, HB⟩ := hcut
     cases kq with
     | zero => exact absurd HA.out (by simp [bits_Rotate.j1])
     | succ kj7 =>
      have H := HA.out
      clear HA
      simp only [bits_Rotate.j1] at H
      by_cases c11 : x21_7 = true
      ·
       subst c11
       have H1 : (some (0, 1)) = some (r1, r2) := by rw [if_pos rfl] at H; exact H
       clear H
       have H := H1
       clear H1
       simp only [Option.some.injEq, Prod.mk.injEq] at H
       obtain ⟨rfl, rfl⟩ := H
       go_wp2
       go_ret2
       exact ⟨by first | rfl | (simp [errW_none, errW_some] <;> rfl) | (simp [*, errW_none, errW_some] <;> rfl), by repeat (first | (with_reducible first | exact HB.out | apply below_alloc | apply pw_below_drewN | apply below_drew1) | exact HB.out)⟩
      ·
       replace c11 := Bool.eq_false_iff.mpr c11
       subst c11
       have H1 : ((bits_ones.f a2).bind fun t104 => (if a0 > t104 then (some (0, 4)) else (if 0 ≤ a1 then (if 0 ≤ (wrap64 (a2 - a1)) then ((bits_Low.f (Go.bits .or .u64 (shr .u64 a0 a1) (shl .u64 a0 (wrap64 (a2 - a1)))) a2).bind fun t105 => (some (t105, 0))) else (none)) else (none)))) = some (r1, r2) := by rw [if_neg (show ¬ (false = true) by decide)] at H; exact H
       clear H
       have H := H1
       clear H1
       replace H := Option.bind_eq_some_iff.mp H
       obtain ⟨t104, A120, H⟩ := H
       replace H : (if a0 > t104 then (some (0, 4)) else (if 0 ≤ a1 then (if 0 ≤ (wrap64 (a2 - a1)) then ((bits_Low.f (Go.bits .or .u64 (shr .u64 a0 a1) (shl .u64 a0 (wrap64 (a2 - a1)))) a2).bind fun t105 => (some (t105, 0))) else (none)) else (none))) = some (r1, r2) := H
       have A12 := aq A120
       clear A120
       by_cases c13 : a0 > t104
       ·
        rw [if_pos c13] at H
        have c13b0 : decide (t104 < a0) = true := decide_eq_true c13
        clear c13
        simp only [Option.some.injEq, Prod.mk.injEq] at H
        obtain ⟨rfl, rfl⟩ := H
        go_wp2_with (first | ((with_reducible refine gate_callee (f := 157) rfl ?_); refine goesL_ (some 36) rfl rfl Tryz.func157 (by kernel_rfl) rfl #[.int .i64 a2] rfl (by (try simp only [List.map_toArray, List.map_cons, List.map_nil]); first | done | rfl | (simp only [List.length_drop, List.length_take]; rfl)) ?_; (with_reducible refine (bits_ones.calls a2 t104 _ A12.out).mono ?_); rintro e w' ⟨rfl, ⟨nd, rfl⟩⟩; refine ⟨_, rfl, ?_⟩))
        go_ret2
        exact ⟨by first | rfl | (simp [errW_none, errW_some] <;> rfl) | (simp [*, errW_none, errW_some] <;> rfl), by repeat (first | (with_reducible first | exact HB.out | apply below_alloc | apply pw_below_drewN | apply below_drew1) | exact HB.out)⟩
       ·
        rw [if_neg c13] at H
        have c13b0 : decide (t104 < a0) = false := decide_eq_false c13
        clear c13
        by_cases c14 : 0 ≤ a1
        ·
         rw [if_pos c14] at H
         have c14b0 := eq_true c14
         have c14b1 : decide (0 ≤ a1) = true := decide_eq_true c14
         clear c14
         obtain ⟨ji15, hji15⟩ : ∃ j_ : Int, (shr .u64 a0 a1) = j_ := ⟨_, rfl⟩
         replace H : (if 0 ≤ (wrap64 (a2 - a1)) then ((bits_Low.f (Go.bits .or .u64 (ji15) (shl .u64 a0 (wrap64 (a2 - a1)))) a2).bind fun t105 => (some (t105, 0))) else (none)) = some (r1, r2) := by first | (rw [hji15] at H; exact H) | (simp only [hji15] at H ⊢; exact H)
         (try rw [hji15] at A12)
         have hji15_ : (a0 / 2 ^ min a1.toNat 64) = ji15 := hji15
         have hji15z : a1 ≤ 64 → (a0 / 2 ^ a1.toNat) = ji15 := shr_small hji15
         obtain ⟨ji16, hji16⟩ : ∃ j_ : Int, (wrap64 (a2 - a1)) = j_ := ⟨_, rfl⟩
         replace H : (if 0 ≤ (ji16) then ((bits_Low.f (Go.bits .or .u64 (ji15) (shl .u64 a0 (ji16))) a2).bind fun t105 => (some (t105, 0))) else (none)) = some (r1, r2) := by first | (rw [hji16] at H; exact H) | (simp only [hji16] at H ⊢; exact H)
         (try rw [hji16] at A12)
         have hji16w : (IntKind.i64.wrap (a2 - a1)) = ji16 := (i64_w _).trans hji16
         by_cases c17 : 0 ≤ (ji16)
         ·
          rw [if_pos c17] at H
          have c17b0 := eq_true c17
          have c17b1 : decide (0 ≤ (ji16)) = true := decide_eq_true c17
          clear c17
          obtain ⟨ji18, hji18⟩ : ∃ j_ : Int, (shl .u64 a0 (ji16)) = j_ := ⟨_, rfl⟩
          replace H : ((bits_Low.f (Go.bits .or .u64 (ji15) (ji18)) a2).bind fun t105 => (some (t105, 0))) = some (r1, r2) := by first | (rw [hji18] at H; exact H) | (simp only [hji18] at H ⊢; exact H)
          (try rw [hji18] at A12)
          have hji18_ : (IntKind.u64.wrap (a0 * 2 ^ min (ji16).toNat 64)) = ji18 := hji18
          have hji18z : (ji16) ≤ 64 → (IntKind.u64.wrap (a0 * 2 ^ (ji16).toNat)) = ji18 := shl_small hji18
          replace H := Option.bind_eq_some_iff.mp H
          obtain ⟨t105, A190, H⟩ := H
          replace H : (some (t105, 0)) = some (r1, r2) := H
          have A19 := aq A190
          clear A190
          simp only [Option.some.injEq, Prod.mk.injEq] at H
          obtain ⟨rfl, rfl⟩ := H
          try go_wp2_with (first | ((with_reducible refine gate_callee (f := 157) rfl ?_); refine goesL_ (some 36) rfl rfl Tryz.func157 (by kernel_rfl) rfl #[.int .i64 a2] rfl (by (try simp only [List.map_toArray, List.map_cons, List.map_nil]); first | done | rfl | (simp only [List.length_drop, List.length_take]; rfl)) ?_; (with_reducible refine (bits_ones.calls a2 t104 _ A12.out).mono ?_); rintro e w' ⟨rfl, ⟨nd, rfl⟩⟩; refine ⟨_, rfl, ?_⟩))
          (try (rw [drewN_self wc]; generalize hq_ : World.drewN wc _ = wc; have n0_ : Aside0 (Below w.heap.size w wc) := ⟨by rw [← hq_]; exact (by repeat (first | (with_reducible first | exact HB.out | apply below_alloc | apply pw_below_drewN | apply below_drew1) | exact HB.out))⟩; clear HB hq_; have HB := n0_; clear n0_))
          have n0_ := aq (below_drew1 HB.out)
          clear HB
          have HB := n0_
          clear n0_
          refine start_ (n := 13) (S := fun w' => True) (ds := []) #[false, false, false, false, false, false, false, false, false, false, false, false, false] (by kernel_rfl) rfl rfl trivial (fun hHeld => ?_); refine with_tabW bits_Rotate.tab11 bits_Rotate.bits11 (fun HT_ HW_ => ?_)
          generalize wc.drew = w20 at HB hHeld ⊢
          refine pure_ (i := 0) (N := some 38) (v := ?_) (a' := ?_) #[true, false, false, false, false, false, false, false, false, false, false, false, false] rfl rfl (any_of HT_.out (by kernel_rfl)) (fun _ _ _ h => h) (Or.inl ⟨by rfl, ?_⟩) ?_ ?_
          rotate_left
          · intro w'; go_simp; with_reducible rfl
          rotate_left
          · simp only [qa_, qb_, qc_, qd_, i64_w, i32_w]; rfl
          refine pure_ (i := 1) (N := some 39) (v := ?_) (a' := ?_) #[true, true, false, false, false, false, false, false, false, false, false, false, false] rfl rfl (any_of HT_.out (by kernel_rfl)) (fun _ _ _ h => h) (Or.inl ⟨by rfl, ?_⟩) ?_ ?_
          rotate_left
          · intro w'; go_simp; with_reducible rfl
          rotate_left
          · simp only [qa_, qb_, qc_, qd_, i64_w, i32_w]; rfl
          refine pure_ (i := 2) (N := some 40) (v := ?_) (a' := ?_) #[true, true, true, false, false, false, false, false, false, false, false, false, false] rfl rfl (any_of HT_.out (by kernel_rfl)) (fun _ _ _ h => h) (Or.inl ⟨by rfl, ?_⟩) ?_ ?_
          rotate_left
          · intro w'; go_simp; with_reducible rfl
          rotate_left
          · simp only [qa_, qb_, qc_, qd_, i64_w, i32_w]; rfl
          refine pure_ (i := 3) (N := some 41) (v := ?_) (a' := ?_) #[true, true, true, true, false, false, false, false, false, false, false, false, false] rfl rfl (any_of HT_.out (by kernel_rfl)) (fun _ _ _ h => h) (Or.inl ⟨by rfl, ?_⟩) ?_ ?_
          rotate_left
          · intro w'; go_simp; with_reducible rfl
          rotate_left
          · simp only [qa_, qb_, qc_, qd_, i64_w, i32_w]; rfl
          refine pure_ (i := 4) (N := some 42) (v := ?_) (a' := ?_) #[true, true, true, true, true, false, false, false, false, false, false, false, false] rfl rfl (any_of HT_.out (by kernel_rfl)) (fun _ _ _ h => h) (Or.inl ⟨by rfl, ?_⟩) ?_ ?_
          rotate_left
          · intro w'; go_simp; with_reducible rfl
          rotate_left
          · simp only [qa_, qb_, qc_, qd_, i64_w, i32_w]; rfl
          refine pure_ (i := 5) (N := some 43) (v := ?_) (a' := ?_) #[true, true, true, true, true, true, false, false, false, false, false, false, false] rfl rfl (any_of HT_.out (by kernel_rfl)) (fun _ _ _ h => h) (Or.inl ⟨by rfl, ?_⟩) ?_ ?_
          rotate_left
          · intro w'; go_simp; with_reducible rfl
          rotate_left
          · simp only [qa_, qb_, qc_, qd_, i64_w, i32_w]; rfl
          refine pure_ (i := 6) (N := some 44) (v := ?_) (a' := ?_) #[true, true, true, true, true, true, true, false, false, false, false, false, false] rfl rfl (any_of HT_.out (by kernel_rfl)) (fun _ _ _ h => h) (Or.inl ⟨by rfl, ?_⟩) ?_ ?_
          rotate_left
          · intro w'; go_simp; with_reducible rfl
          rotate_left
          · simp only [qa_, qb_, qc_, qd_, i64_w, i32_w]; rfl
          refine pure_ (i := 7) (N := some 45) (v := ?_) (a' := ?_) #[true, true, true, true, true, true, true, true, false, false, false, false, false] rfl rfl (any_of HT_.out (by kernel_rfl)) (fun _ _ _ h => h) (Or.inl ⟨by rfl, ?_⟩) ?_ ?_
          rotate_left
          · intro w'; go_simp; with_reducible rfl
          rotate_left
          · simp only [qa_, qb_, qc_, qd_, i64_w, i32_w]; rfl
          refine pure_ (i := 8) (N := some 46) (v := ?_) (a' := ?_) #[true, true, true, true, true, true, true, true, true, false, false, false, false] rfl rfl (any_of HT_.out (by kernel_rfl)) (fun _ _ _ h => h) (Or.inl ⟨by rfl, ?_⟩) ?_ ?_
          rotate_left
          · intro w'; go_simp; with_reducible rfl
          rotate_left
          · simp only [qa_, qb_, qc_, qd_, i64_w, i32_w]; rfl
          refine pure_ (i := 9) (N := some 47) (v := ?_) (a' := ?_) #[true, true, true, true, true, true, true, true, true, true, false, false, false] rfl rfl (any_of HT_.out (by kernel_rfl)) (fun _ _ _ h => h) (Or.inl ⟨by rfl, ?_⟩) ?_ ?_
          rotate_left
          · intro w'; go_simp; with_reducible rfl
          rotate_left
          · simp only [qa_, qb_, qc_, qd_, i64_w, i32_w]; rfl
          refine one_ (i := 10) (N := some 48) #[true, true, true, true, true, true, true, true, true, true, true, false, false] rfl rfl (one_of HT_.out (by kernel_rfl)) (by decide) (fun K hK => ?_)
          refine goes_ Tryz.func165 (by kernel_rfl) rfl #[.int .u64 (Go.bits .or .u64 (ji15) (ji18)), .int .i64 a2] (by rfl) rfl rfl (by (try simp only [List.map_toArray, List.map_cons, List.map_nil]); first | done | (simp only [hji15, hji18]; rfl) | rfl | (simp only [List.length_drop, List.length_take]; rfl)) ?_
          with_reducible refine (bits_Low.calls (Go.bits .or .u64 (ji15) (ji18)) a2 t105 _ A19.out).mono ?_
          rintro e w21 ⟨rfl, hb⟩
          refine ⟨_, rfl, ?_⟩
          have n0_ := aq (below_step (by repeat (first | (with_reducible first | exact HB.out | apply below_alloc | apply pw_below_drewN | apply below_drew1) | exact HB.out)) hb)
          clear HB
          have HB := n0_
          clear n0_
          (try clear hb)
          (try clear hb2)
          (try clear hk)
          (try clear hi)
          refine hK.out _ _ trivial (fun hHeld => ?_)
          clear hK K
          refine norm_ (a' := ?_) ?_ ?_
          rotate_left
          ·
           show Act.put _ (some 48) _ = _
           simp only [qa_, qb_, qc_, qd_, i64_w, i32_w]
           rfl
          refine pure_ (i := 11) (N := some 6) (v := ?_) (a' := ?_) #[true, true, true, true, true, true, true, true, true, true, true, true, false] rfl rfl (any_of HT_.out (by kernel_rfl)) (fun _ _ _ h => h) (Or.inl ⟨by rfl, ?_⟩) ?_ ?_
          rotate_left
          · intro w'; go_simp; with_reducible rfl
          rotate_left
          · simp only [qa_, qb_, qc_, qd_, i64_w, i32_w]; rfl
          refine pure_ (i := 12) (N := some 7) (v := ?_) (a' := ?_) #[true, true, true, true, true, true, true, true, true, true, true, true, true] rfl rfl (any_of HT_.out (by kernel_rfl)) (fun _ _ _ h => h) (Or.inl ⟨by rfl, ?_⟩) ?_ ?_
          rotate_left
          · intro w'; go_simp; with_reducible rfl
          rotate_left
          · simp only [qa_, qb_, qc_, qd_, i64_w, i32_w]; rfl
          refine done_ (done_of HT_.out (by kernel_rfl)) ?_
          try go_wp2
          go_ret2
          exact ⟨by first | rfl | (simp [errW_none, errW_some] <;> rfl) | (simp only [← hji15, ← hji16, ← hji18]; first | rfl | (simp [errW_none, errW_some] <;> rfl)) | (simp [*, errW_none, errW_some] <;> rfl), by repeat (first | (with_reducible first | exact HB.out | apply below_alloc | apply pw_below_drewN | apply below_drew1) | exact HB.out)⟩
         ·
          rw [if_neg c17] at H
          exact absurd H (by simp)
        ·
         rw [if_neg c14] at H
         exact absurd H (by simp)
def mask_front.f (a0 : Int) : Option (Int) := if a0 = 64 then (some 0) else (some (wrap64 (64 - (wrap64 (2 * a0)))))
set_option maxHeartbeats 8000000 in
set_option maxRecDepth 100000 in
theorem mask_front.calls (a0 : Int) (r : Int) (w : World) (h : mask_front.f a0 = some r) :
    Calls Tryz.prog 302 #[.int .i64 a0] w fun e w' => e = .returned (.int .i64 r) ∧ Drawn0 w w' := by
 have H : (if a0 = 64 then (some 0) else (some (wrap64 (64 - (wrap64 (2 * a0)))))) = some r := h
 clear h
 by_cases c2 : a0 = 64
 ·
  rw [if_pos c2] at H
  have c2b0 : (a0 == 64) = true := beq_iff_eq.mpr c2
  have c2b1 : (a0 != 64) = false := bne_eq_false_iff_eq.mpr c2
  clear c2
  obtain rfl := Option.some.inj H
  go_enter Tryz.func302, Tryz.ntmps302
  go_wp2
  go_ret
  exact ⟨by first | rfl | (simp; done) | (simp [*]; done), by repeat (first | exact Drawn0.refl _ | apply Drawn0.step)⟩
 ·
  rw [if_neg c2] at H
  have c2b0 : (a0 == 64) = false := beq_eq_false_iff_ne.mpr c2
  have c2b1 : (a0 != 64) = true := bne_iff_ne.mpr c2
  obtain rfl := Option.some.inj H
  go_enter Tryz.func302, Tryz.ntmps302
  go_wp2
  go_ret
  exact ⟨by first | rfl | (simp; done) | (simp [*]; done), by repeat (first | exact Drawn0.refl _ | apply Drawn0.step)⟩
theorem eqA277 (d : Nat) (w : World) (x0 y0 : Int) (x1 y1 : Int) (x2 y2 : Int) :
    (Op.equalIn (d + 2) 277 (.agg #[.int .i64 x0, .int .i64 x1, .int .i64 x2]) (.agg #[.int .i64 y0, .int .i64 y1, .int .i64 y2])).run Tryz.prog w = .ok (x0 == y0 && (x1 == y1 && (x2 == y2))) w := by
  refine eqA_of Tryz.underlying277 (by kernel_rfl) ?_
  refine eqf_cons (by rfl) (by go_simp; rfl) (by go_simp; rfl) (by go_simp) ?_
  refine eqf_cons (by rfl) (by go_simp; rfl) (by go_simp; rfl) (by go_simp) ?_
  exact eqf_last (by rfl) (by go_simp; rfl) (by go_simp; rfl) (by go_simp)
end Go.Proofs.YtblnfngigdipcaaGreatDoor.P
namespace Go.Proofs.YtblnfngigdipcaaGreatDoor.P
open Go.RowKit Go.Proofs.YtblnfngigdipcaaGreatDoorW.PrintWords Go.Proofs.YtblnfngigdipcaaGreatDoorW.PrintLast Go.Proofs.YtblnfngigdipcaaGreatDoorW.PrintMore
attribute [local go_sem] max2_int min2_int max_two min_two max_three min_three max_four min_four
set_option linter.unusedVariables false
set_option linter.unusedSimpArgs false
attribute [local go_sem high] eqA277
def bb0_0 : Array Bool := #[false, false, false, false, false, false, false, false, false, false, false, false, false]
def bb0_1 : Array Bool := #[true, false, false, false, false, false, false, false, false, false, false, false, false]
def bb0_2 : Array Bool := #[true, true, false, false, false, false, false, false, false, false, false, false, false]
def bb0_3 : Array Bool := #[true, true, true, false, false, false, false, false, false, false, false, false, false]
def bb0_4 : Array Bool := #[true, true, true, true, false, false, false, false, false, false, false, false, false]
def bb0_5 : Array Bool := #[true, true, true, true, true, false, false, false, false, false, false, false, false]
def bb0_6 : Array Bool := #[true, true, true, true, true, true, false, false, false, false, false, false, false]
def bb0_7 : Array Bool := #[true, true, true, true, true, true, true, false, false, false, false, false, false]
def bb0_8 : Array Bool := #[true, true, true, true, true, true, true, true, false, false, false, false, false]
def bb0_9 : Array Bool := #[true, true, true, true, true, true, true, true, true, true, true, true, false]
def bb0_10 : Array Bool := #[true, true, true, true, true, true, true, true, true, false, false, false, false]
def bb0_11 : Array Bool := #[true, true, true, true, true, true, true, true, false, false, false, true, false]
def bb0_12 : Array Bool := #[true, true, true, true, true, true, true, true, true, true, false, false, false]
def bb0_13 : Array Bool := #[true, true, true, true, true, true, true, true, true, true, true, false, false]
def bb0_14 : Array Bool := #[true, true, true, true, true, true, true, true, true, false, false, true, false]
def bb0_15 : Array Bool := #[true, true, true, true, true, true, true, true, true, true, false, true, false]
def bb0_16 : Array Bool := #[true, true, true, true, true, true, true, true, true, true, true, true, true]
mutual
def mask_tell.j0 : Nat → Int → Int → Int → Bool → Option (Int × Int × Int)
 | 0, _, _, _, _ => none
 | k + 1, x0, x3, x4, x22 => if x22 = true then (some (0, 0, 0)) else ((bits_TrailingZeros64.f x0).bind fun t110 => (if t110 = 0 then (if 0 ≤ (wrap64 (64 - x3)) then ((bits_LeadingZeros64.f k (Go.bits .xor .u64 18446744073709551615 (shl .u64 x0 (wrap64 (64 - x3))))).bind fun t111 => (if x3 = 0 then (none) else (mask_tell.j1 k x0 x3 x4 (Int.tmod (wrap64 (x3 - t111)) x3)))) else (none)) else (mask_tell.j1 k x0 x3 x4 t110)))
def mask_tell.j1 : Nat → Int → Int → Int → Int → Option (Int × Int × Int)
 | 0, _, _, _, _ => none
 | k + 1, x0, x3, x4, x5 => (bits_Rotate.f k x0 x5 x3).bind fun bt112 => ((bits_Low.f 18446744073709551615 x4).bind fun t114 => (if bt112.1 = t114 then (if x3 = 0 then (none) else ((mask_front.f x3).bind fun t115 => (if x3 = 64 then (some (1, Int.tmod (wrap64 (x3 - x5)) x3, wrap64 ((wrap64 (x4 - 1)) + t115))) else (some (0, Int.tmod (wrap64 (x3 - x5)) x3, wrap64 ((wrap64 (x4 - 1)) + t115)))))) else (some (0, 0, 0))))
end
def mask_tell.f (k : Nat) (a0 : Int) : Option (Int × Int × Int) := (mask_Size.f k a0).bind fun t107 => ((bits_Low.f a0 t107).bind fun t108 => ((mask_Ones.f t108).bind fun t109 => (if t109 = 0 then (mask_tell.j0 k t108 t107 t109 true) else (mask_tell.j0 k t108 t107 t109 (t109 == t107)))))
theorem mask_tell.mono_l : ∀ k, (∀ y0 y1 y2 y3, LeO (mask_tell.j0 k y0 y1 y2 y3) (mask_tell.j0 (k + 1) y0 y1 y2 y3)) ∧ (∀ y0 y1 y2 y3, LeO (mask_tell.j1 k y0 y1 y2 y3) (mask_tell.j1 (k + 1) y0 y1 y2 y3))
 | 0 => ⟨fun _ _ _ _ r h => by simp [mask_tell.j0] at h, fun _ _ _ _ r h => by simp [mask_tell.j1] at h⟩
 | k + 1 => by
  obtain ⟨ih0, ih1⟩ := mask_tell.mono_l k
  refine ⟨?_, ?_⟩
  ·
   intro y0 y1 y2 y3
   unfold mask_tell.j0
   repeat' first
   | (with_reducible exact ih0 _ _ _ _)
   | (with_reducible exact ih1 _ _ _ _)
   | (with_reducible exact bits_LeadingZeros64.mono _ _)
   | (with_reducible exact bits_Rotate.mono _ _ _ _)
   | (with_reducible exact mask_Size.mono _ _)
   | (with_reducible exact LeO.refl _)
   | (with_reducible exact LeO.none _)
   | (with_reducible refine LeO.ite ?_ ?_)
   | (with_reducible refine LeO.bind ?_ (fun _ => ?_))
   | exact ih0 _ _ _ _
   | exact ih1 _ _ _ _
   | exact bits_LeadingZeros64.mono _ _
   | exact bits_Rotate.mono _ _ _ _
   | exact mask_Size.mono _ _
   | exact LeO.none _
   | refine LeO.ite ?_ ?_
   | refine LeO.bind ?_ (fun _ => ?_)
  ·
   intro y0 y1 y2 y3
   unfold mask_tell.j1
   repeat' first
   | (with_reducible exact ih0 _ _ _ _)
   | (with_reducible exact ih1 _ _ _ _)
   | (with_reducible exact bits_LeadingZeros64.mono _ _)
   | (with_reducible exact bits_Rotate.mono _ _ _ _)
   | (with_reducible exact mask_Size.mono _ _)
   | (with_reducible exact LeO.refl _)
   | (with_reducible exact LeO.none _)
   | (with_reducible refine LeO.ite ?_ ?_)
   | (with_reducible refine LeO.bind ?_ (fun _ => ?_))
   | exact ih0 _ _ _ _
   | exact ih1 _ _ _ _
   | exact bits_LeadingZeros64.mono _ _
   | exact bits_Rotate.mono _ _ _ _
   | exact mask_Size.mono _ _
   | exact LeO.none _
   | refine LeO.ite ?_ ?_
   | refine LeO.bind ?_ (fun _ => ?_)
theorem mask_tell.mono : ∀ a0 k, LeO (mask_tell.f k a0) (mask_tell.f (k + 1) a0) := by
 intro a0 k
 obtain ⟨ih0, ih1⟩ := mask_tell.mono_l k
 unfold mask_tell.f
 repeat' first
   | (with_reducible exact ih0 _ _ _ _)
   | (with_reducible exact ih1 _ _ _ _)
   | (with_reducible exact bits_LeadingZeros64.mono _ _)
   | (with_reducible exact bits_Rotate.mono _ _ _ _)
   | (with_reducible exact mask_Size.mono _ _)
   | (with_reducible exact LeO.refl _)
   | (with_reducible exact LeO.none _)
   | (with_reducible refine LeO.ite ?_ ?_)
   | (with_reducible refine LeO.bind ?_ (fun _ => ?_))
   | exact ih0 _ _ _ _
   | exact ih1 _ _ _ _
   | exact bits_LeadingZeros64.mono _ _
   | exact bits_Rotate.mono _ _ _ _
   | exact mask_Size.mono _ _
   | exact LeO.none _
   | refine LeO.ite ?_ ?_
   | refine LeO.bind ?_ (fun _ => ?_)
def mask_tell.T12 : Bool × List (List Nat × List Nat) := (true, [([], []), ([], []), ([0, 1], [0, 1]), ([], []), ([2, 3], [2, 3]), ([], []), ([5], [5]), ([], []), ([7], [7]), ([6, 8], [6, 8]), ([4, 9], [4, 9]), ([], []), ([11, 10, 8, 0, 1, 2, 3, 4, 5, 6, 7, 8, 9, 10, 11], [10, 11])])
def mask_tell.B12 : List Nat := [0, 0, 3, 0, 15, 0, 32, 0, 128, 480, 1023, 0, 4095]
theorem mask_tell.tab12 : rtab .any (opsOf Tryz.f220 12) = mask_tell.T12 := by kernel_rfl
theorem mask_tell.bits12 : waitsOk mask_tell.T12.2 mask_tell.B12 = true := by kernel_rfl
set_option maxHeartbeats 8000000 in
set_option maxRecDepth 100000 in
theorem mask_tell.calls (k : Nat) (a0 : Int) (r1 : Int) (r2 : Int) (r3 : Int) (w : World) (h : mask_tell.f k a0 = some (r1, r2, r3)) (hTab : TabW w := by first | exact hTab | exact TabW.drew hTab | exact TabW.drewN hTab _ | exact TabW.below hTab (by repeat (first | (with_reducible first | exact HB.out | apply below_alloc | apply pw_below_drewN | apply below_drew1) | refine Below.setCell ?_ (Aside0.out (by assumption)) _ | exact HB.out | exact Below.refl _ _))) :
    Calls Tryz.prog 220 #[.int .u64 a0] w fun e w' => e = .returned (.agg #[.int .i64 r1, .int .i64 r2, .int .i64 r3]) ∧ Below w.heap.size w w' := by
 have hu277 := Tryz.underlying277
 have HB := aq (Below.refl w.heap.size w)
 have H : ((mask_Size.f k a0).bind fun t107 => ((bits_Low.f a0 t107).bind fun t108 => ((mask_Ones.f t108).bind fun t109 => (if t109 = 0 then (mask_tell.j0 k t108 t107 t109 true) else (mask_tell.j0 k t108 t107 t109 (t109 == t107)))))) = some (r1, r2, r3) := h
 clear h
 replace H := Option.bind_eq_some_iff.mp H
 obtain ⟨t107, A20, H⟩ := H
 replace H : ((bits_Low.f a0 t107).bind fun t108 => ((mask_Ones.f t108).bind fun t109 => (if t109 = 0 then (mask_tell.j0 k t108 t107 t109 true) else (mask_tell.j0 k t108 t107 t109 (t109 == t107))))) = some (r1, r2, r3) := H
 have A2 := aq A20
 clear A20
 replace H := Option.bind_eq_some_iff.mp H
 obtain ⟨t108, A30, H⟩ := H
 replace H : ((mask_Ones.f t108).bind fun t109 => (if t109 = 0 then (mask_tell.j0 k t108 t107 t109 true) else (mask_tell.j0 k t108 t107 t109 (t109 == t107)))) = some (r1, r2, r3) := H
 have A3 := aq A30
 clear A30
 replace H := Option.bind_eq_some_iff.mp H
 obtain ⟨t109, A40, H⟩ := H
 replace H : (if t109 = 0 then (mask_tell.j0 k t108 t107 t109 true) else (mask_tell.j0 k t108 t107 t109 (t109 == t107))) = some (r1, r2, r3) := H
 have A4 := aq A40
 clear A40
 have HC5 := aq H
 clear H
 go_enter Tryz.func220, Tryz.ntmps220
 go_upto_region 4 with (first | ((with_reducible refine gate_dst (N := 2) rfl ?_); refine box_event ?hg (N := 2) ?hd (cs := #[.int .i64 0, .int .i64 0, .int .i64 0]) (t := 277) ?hr ?_; (case hd => rfl); (case hg => rfl); (case hr => first | (go_simp; done) | (go_simp; rfl)); intro gb106 hg w6 hbox hb; have n0_ := aq (below_step (by repeat (first | (with_reducible first | exact HB.out | apply below_alloc | apply pw_below_drewN | apply below_drew1) | exact HB.out)) hb); have n1_ := aq (hbox); have n2_ := aq ((by rw [hg]; exact (below_size (by repeat (first | (with_reducible first | exact HB.out | apply below_alloc | apply pw_below_drewN | apply below_drew1) | exact HB.out))) : w.heap.size ≤ gb106)); have n3_ := aq ((by rw [hg]; exact (below_size (by repeat (first | (with_reducible first | exact HB.out | apply below_alloc | apply pw_below_drewN | apply below_drew1) | exact HB.out))) : w.heap.size ≤ gb106)); clear HB; have HB := n0_; have BK106 := n1_; have GW106 := n2_; have GE106 := n3_; clear n0_ n1_ n2_ n3_; clear hb hbox hg) | ((with_reducible refine gate_callee (f := 297) rfl ?_); refine goesL_ (some 10) rfl rfl Tryz.func297 (by kernel_rfl) rfl #[.int .u64 a0] rfl (by (try simp only [List.map_toArray, List.map_cons, List.map_nil]); first | done | rfl | (simp only [List.length_drop, List.length_take]; rfl)) ?_; (with_reducible refine (mask_Size.calls k a0 t107 _ A2.out).mono ?_); rintro e w7 ⟨rfl, hb⟩; refine ⟨_, rfl, ?_⟩; have n0_ := aq (blk_below (g := gb106) (o := .cells #[.int .i64 0, .int .i64 0, .int .i64 0] 277 (0, 0)) (by (with_reducible repeat (first | refine blk_drewN ?_ _ | refine blk_drew ?_ | refine blk_alloc ?_ _)); exact BK106.out) hb); have n1_ := aq (below_step (by repeat (first | (with_reducible first | exact HB.out | apply below_alloc | apply pw_below_drewN | apply below_drew1 | refine below_set ?_ GE106.out) | exact HB.out)) hb); clear BK106; clear HB; have BK106 := n0_; have HB := n1_; clear n0_ n1_; (try clear hb); (try clear hb2); (try clear hk); (try clear hi)) | ((with_reducible refine gate_callee (f := 165) rfl ?_); refine goesL_ (some 13) rfl rfl Tryz.func165 (by kernel_rfl) rfl #[.int .u64 a0, .int .i64 t107] rfl (by (try simp only [List.map_toArray, List.map_cons, List.map_nil]); first | done | rfl | (simp only [List.length_drop, List.length_take]; rfl)) ?_; (with_reducible refine (bits_Low.calls a0 t107 t108 _ A3.out).mono ?_); rintro e w8 ⟨rfl, hb⟩; refine ⟨_, rfl, ?_⟩; have n0_ := aq (blk_below (g := gb106) (o := .cells #[.int .i64 0, .int .i64 0, .int .i64 0] 277 (0, 0)) (by (with_reducible repeat (first | refine blk_drewN ?_ _ | refine blk_drew ?_ | refine blk_alloc ?_ _)); exact BK106.out) hb); have n1_ := aq (below_step (by repeat (first | (with_reducible first | exact HB.out | apply below_alloc | apply pw_below_drewN | apply below_drew1 | refine below_set ?_ GE106.out) | exact HB.out)) hb); clear BK106; clear HB; have BK106 := n0_; have HB := n1_; clear n0_ n1_; (try clear hb); (try clear hb2); (try clear hk); (try clear hi)) | ((with_reducible refine gate_callee (f := 298) rfl ?_); refine goesL_ (some 15) rfl rfl Tryz.func298 (by kernel_rfl) rfl #[.int .u64 t108] rfl (by (try simp only [List.map_toArray, List.map_cons, List.map_nil]); first | done | rfl | (simp only [List.length_drop, List.length_take]; rfl)) ?_; (with_reducible refine (mask_Ones.calls t108 t109 _ A4.out).mono ?_); rintro e w' ⟨rfl, ⟨nd, rfl⟩⟩; refine ⟨_, rfl, ?_⟩))
 (try simp only [Act.put, List.setIfInBounds_toArray, List.set_cons_zero, List.set_cons_succ])
 go_cut [22] (fun v22 wc => ∃ (kq : Nat) (x22_4 : Bool), v22 = .bool x22_4 ∧ Aside0 (mask_tell.j0 kq t108 t107 t109 x22_4 = some (r1, r2, r3)) ∧ Aside0 (kq ≤ k) ∧ Aside0 (wc.heap[gb106]? = some (.cells #[.int .i64 0, .int .i64 0, .int .i64 0] 277 (0, 0))) ∧ Aside0 (Below w.heap.size w wc))
 case first =>
  have H := HC5.out
  clear HC5
  by_cases c9 : t109 = 0
  ·
   rw [if_pos c9] at H
   have c9b0 : (t109 == 0) = true := beq_iff_eq.mpr c9
   have c9b1 : (t109 != 0) = false := bne_eq_false_iff_eq.mpr c9
   clear c9
   (first | rw [c9b0] | (simp only [i64_w, i32_w]; rw [c9b0]) | skip)
   have H' := aq H
   clear H
   go_wp2
   go_meet
   case rel => exact ⟨_, (true), (by first | rfl | (simp; done) | (simp [*]; done)), H', ⟨by first | omega | exact Nat.le_refl _⟩, ⟨by (with_reducible repeat (first | refine blk_drewN ?_ _ | refine blk_drew ?_ | refine blk_alloc ?_ _)); exact BK106.out⟩, ⟨by repeat (first | (with_reducible first | exact HB.out | apply below_alloc | apply pw_below_drewN | apply below_drew1 | refine below_set ?_ GE106.out) | exact HB.out)⟩⟩
  ·
   rw [if_neg c9] at H
   have c9b0 : (t109 == 0) = false := beq_eq_false_iff_ne.mpr c9
   have c9b1 : (t109 != 0) = true := bne_iff_ne.mpr c9
   (first | rw [c9b0] | (simp only [i64_w, i32_w]; rw [c9b0]) | skip)
   have H' := aq H
   clear H
   go_wp2
   go_meet
   case rel => exact ⟨_, ((t109 == t107)), (by first | rfl | (simp; done) | (simp [*]; done)), H', ⟨by first | omega | exact Nat.le_refl _⟩, ⟨by (with_reducible repeat (first | refine blk_drewN ?_ _ | refine blk_drew ?_ | refine blk_alloc ?_ _)); exact BK106.out⟩, ⟨by repeat (first | (with_reducible first | exact HB.out | apply below_alloc | apply pw_below_drewN | apply below_drew1 | refine below_set ?_ GE106.out) | exact HB.out)⟩⟩
 case rest =>
  clear HC5
  try clear c1
  try clear c2
  try clear p2
  try clear c9
  try clear c9b0
  try clear c9b1
  obtain ⟨kq, x22_4, rfl, HA, HJ4, BK106, HB⟩ := hcut
  cases kq with
  | zero => exact absurd HA.out (by simp [mask_tell.j0])
  | succ kj4 =>
   have H := HA.out
   clear HA
   simp only [mask_tell.j0] at H
   by_cases c10 : x22_4 = true
   ·
    subst c10
    have H1 : (some (0, 0, 0)) = some (r1, r2, r3) := by rw [if_pos rfl] at H; exact H
    clear H
    have H := H1
    clear H1
    simp only [Option.some.injEq, Prod.mk.injEq] at H
    obtain ⟨rfl, rfl, rfl⟩ := H
    have hcz11_0 : wc.cell? ⟨gb106, 0, none⟩ = some (.int .i64 0) := (blk_cell BK106.out 0).trans rfl
    have hcz11_1 : wc.cell? ⟨gb106, 1, none⟩ = some (.int .i64 0) := (blk_cell BK106.out 1).trans rfl
    have hcz11_2 : wc.cell? ⟨gb106, 2, none⟩ = some (.int .i64 0) := (blk_cell BK106.out 2).trans rfl
    have hfz11_0 := blk_frozen BK106.out 0
    have hfz11_1 := blk_frozen BK106.out 1
    have hfz11_2 := blk_frozen BK106.out 2
    go_wp2
    refine bodyPost_ret (results_cell_row rfl _ _ gb106 277 #[.int .i64 0, .int .i64 0, .int .i64 0] (0, 0) _ rfl (by (with_reducible repeat (first | refine blk_drewN ?_ _ | refine blk_drew ?_ | refine blk_alloc ?_ _)); refine blk_put (cs := #[.int .i64 0, .int .i64 0, .int .i64 0]) ?_ 2 _ rfl; (with_reducible repeat (first | refine blk_drewN ?_ _ | refine blk_drew ?_ | refine blk_alloc ?_ _)); refine blk_put (cs := #[.int .i64 0, .int .i64 0, .int .i64 0]) ?_ 1 _ rfl; (with_reducible repeat (first | refine blk_drewN ?_ _ | refine blk_drew ?_ | refine blk_alloc ?_ _)); refine blk_put (cs := #[.int .i64 0, .int .i64 0, .int .i64 0]) ?_ 0 _ rfl; (with_reducible repeat (first | refine blk_drewN ?_ _ | refine blk_drew ?_ | refine blk_alloc ?_ _)); exact BK106.out) Tryz.underlying277 rfl (by kernel_rfl)) rfl ?_
    exact ⟨by first | rfl | (simp [errW_none, errW_some] <;> rfl) | (simp [*, errW_none, errW_some] <;> rfl), by repeat (first | (with_reducible first | exact HB.out | apply below_alloc | apply pw_below_drewN | apply below_drew1 | refine below_set ?_ GE106.out) | exact HB.out)⟩
   ·
    replace c10 := Bool.eq_false_iff.mpr c10
    subst c10
    have H1 : ((bits_TrailingZeros64.f t108).bind fun t110 => (if t110 = 0 then (if 0 ≤ (wrap64 (64 - t107)) then ((bits_LeadingZeros64.f kj4 (Go.bits .xor .u64 18446744073709551615 (shl .u64 t108 (wrap64 (64 - t107))))).bind fun t111 => (if t107 = 0 then (none) else (mask_tell.j1 kj4 t108 t107 t109 (Int.tmod (wrap64 (t107 - t111)) t107)))) else (none)) else (mask_tell.j1 kj4 t108 t107 t109 t110))) = some (r1, r2, r3) := by rw [if_neg (show ¬ (false = true) by decide)] at H; exact H
    clear H
    have H := H1
    clear H1
    replace H := Option.bind_eq_some_iff.mp H
    obtain ⟨t110, A120, H⟩ := H
    replace H : (if t110 = 0 then (if 0 ≤ (wrap64 (64 - t107)) then ((bits_LeadingZeros64.f kj4 (Go.bits .xor .u64 18446744073709551615 (shl .u64 t108 (wrap64 (64 - t107))))).bind fun t111 => (if t107 = 0 then (none) else (mask_tell.j1 kj4 t108 t107 t109 (Int.tmod (wrap64 (t107 - t111)) t107)))) else (none)) else (mask_tell.j1 kj4 t108 t107 t109 t110)) = some (r1, r2, r3) := H
    have A12 := aq A120
    clear A120
    have HC13 := aq H
    clear H
    go_upto_if 27 with (first | ((with_reducible refine gate_callee (f := 299) rfl ?_); refine goesL_ (some 25) rfl rfl Tryz.func299 (by kernel_rfl) rfl #[.int .u64 t108] rfl (by (try simp only [List.map_toArray, List.map_cons, List.map_nil]); first | done | rfl | (simp only [List.length_drop, List.length_take]; rfl)) ?_; (with_reducible refine (bits_TrailingZeros64.calls t108 t110 _ A12.out).mono ?_); rintro e w' ⟨rfl, ⟨nd, rfl⟩⟩; refine ⟨_, rfl, ?_⟩))
    (try simp only [Act.put, List.setIfInBounds_toArray, List.set_cons_zero, List.set_cons_succ])
    go_cut [5] (fun v5 wc => ∃ (kq : Nat) (x5_12 : Int), v5 = .int .i64 x5_12 ∧ Aside0 (mask_tell.j1 kq t108 t107 t109 x5_12 = some (r1, r2, r3)) ∧ Aside0 (kq ≤ kj4) ∧ Aside0 (wc.heap[gb106]? = some (.cells #[.int .i64 0, .int .i64 0, .int .i64 0] 277 (0, 0))) ∧ Aside0 (Below w.heap.size w wc))
    case first =>
     have H := HC13.out
     clear HC13
     by_cases c14 : t110 = 0
     ·
      rw [if_pos c14] at H
      have c14b0 : (t110 == 0) = true := beq_iff_eq.mpr c14
      have c14b1 : (t110 != 0) = false := bne_eq_false_iff_eq.mpr c14
      clear c14
      (first | rw [c14b0] | (simp only [i64_w, i32_w]; rw [c14b0]) | skip)
      obtain ⟨ji15, hji15⟩ : ∃ j_ : Int, (wrap64 (64 - t107)) = j_ := ⟨_, rfl⟩
      replace H : (if 0 ≤ (ji15) then ((bits_LeadingZeros64.f kj4 (Go.bits .xor .u64 18446744073709551615 (shl .u64 t108 (ji15)))).bind fun t111 => (if t107 = 0 then (none) else (mask_tell.j1 kj4 t108 t107 t109 (Int.tmod (wrap64 (t107 - t111)) t107)))) else (none)) = some (r1, r2, r3) := by first | (rw [hji15] at H; exact H) | (simp only [hji15] at H ⊢; exact H)
      have hji15w : (IntKind.i64.wrap (64 - t107)) = ji15 := (i64_w _).trans hji15
      by_cases c16 : 0 ≤ (ji15)
      ·
       rw [if_pos c16] at H
       have c16b0 := eq_true c16
       have c16b1 : decide (0 ≤ (ji15)) = true := decide_eq_true c16
       clear c16
       obtain ⟨ji17, hji17⟩ : ∃ j_ : Int, (shl .u64 t108 (ji15)) = j_ := ⟨_, rfl⟩
       replace H : ((bits_LeadingZeros64.f kj4 (Go.bits .xor .u64 18446744073709551615 (ji17))).bind fun t111 => (if t107 = 0 then (none) else (mask_tell.j1 kj4 t108 t107 t109 (Int.tmod (wrap64 (t107 - t111)) t107)))) = some (r1, r2, r3) := by first | (rw [hji17] at H; exact H) | (simp only [hji17] at H ⊢; exact H)
       have hji17_ : (IntKind.u64.wrap (t108 * 2 ^ min (ji15).toNat 64)) = ji17 := hji17
       have hji17z : (ji15) ≤ 64 → (IntKind.u64.wrap (t108 * 2 ^ (ji15).toNat)) = ji17 := shl_small hji17
       replace H := Option.bind_eq_some_iff.mp H
       obtain ⟨t111, A180, H⟩ := H
       replace H : (if t107 = 0 then (none) else (mask_tell.j1 kj4 t108 t107 t109 (Int.tmod (wrap64 (t107 - t111)) t107))) = some (r1, r2, r3) := H
       have A18 := aq A180
       clear A180
       by_cases c19 : t107 = 0
       ·
        rw [if_pos c19] at H
        exact absurd H (by simp)
       ·
        rw [if_neg c19] at H
        have c19b0 : (t107 == 0) = false := beq_eq_false_iff_ne.mpr c19
        have c19b1 : (t107 != 0) = true := bne_iff_ne.mpr c19
        have H' := aq H
        clear H
        go_wp2_with (first | ((with_reducible refine gate_callee (f := 300) rfl ?_); refine goesL_ (some 34) rfl rfl Tryz.func300 (by kernel_rfl) rfl #[.int .u64 (Go.bits .xor .u64 18446744073709551615 (ji17))] rfl (by (try simp only [List.map_toArray, List.map_cons, List.map_nil]); first | done | (simp only [hji17]; rfl) | rfl | (simp only [List.length_drop, List.length_take]; rfl)) ?_; (with_reducible refine (bits_LeadingZeros64.calls kj4 (Go.bits .xor .u64 18446744073709551615 (ji17)) t111 _ A18.out).mono ?_); rintro e w' ⟨rfl, ⟨nd, rfl⟩⟩; refine ⟨_, rfl, ?_⟩))
        go_meet
        case rel => exact ⟨_, (Int.tmod (wrap64 (t107 - t111)) t107), (by first | rfl | (simp; done) | (simp [*]; done)), H', ⟨by have := HJ4.out; first | omega | exact Nat.le_refl _⟩, ⟨by (with_reducible repeat (first | refine blk_drewN ?_ _ | refine blk_drew ?_ | refine blk_alloc ?_ _)); exact BK106.out⟩, ⟨by repeat (first | (with_reducible first | exact HB.out | apply below_alloc | apply pw_below_drewN | apply below_drew1 | refine below_set ?_ GE106.out) | exact HB.out)⟩⟩
      ·
       rw [if_neg c16] at H
       exact absurd H (by simp)
     ·
      rw [if_neg c14] at H
      have c14b0 : (t110 == 0) = false := beq_eq_false_iff_ne.mpr c14
      have c14b1 : (t110 != 0) = true := bne_iff_ne.mpr c14
      (first | rw [c14b0] | (simp only [i64_w, i32_w]; rw [c14b0]) | skip)
      have H' := aq H
      clear H
      go_wp2
      go_meet
      case rel => exact ⟨_, (t110), (by first | rfl | (simp; done) | (simp [*]; done)), H', ⟨by have := HJ4.out; first | omega | exact Nat.le_refl _⟩, ⟨by (with_reducible repeat (first | refine blk_drewN ?_ _ | refine blk_drew ?_ | refine blk_alloc ?_ _)); exact BK106.out⟩, ⟨by repeat (first | (with_reducible first | exact HB.out | apply below_alloc | apply pw_below_drewN | apply below_drew1 | refine below_set ?_ GE106.out) | exact HB.out)⟩⟩
    case rest =>
     clear HC13
     try clear c1
     try clear c2
     try clear p2
     try clear c3
     try clear p6
     try clear c9
     try clear c9b0
     try clear c9b1
     try clear c10
     try clear c14
     try clear c14b0
     try clear c14b1
     try clear c16
     try clear c16b0
     try clear c16b1
     try clear c19
     try clear c19b0
     try clear c19b1
     try clear hcz11_0 hcz11_1 hcz11_2
     try clear hfz11_0
     try clear p2
     obtain ⟨kq, x5_12, rfl, HA, HJ12, BK106, HB⟩ := hcut
     cases kq with
     | zero => exact absurd HA.out (by simp [mask_tell.j1])
     | succ kj12 =>
      have H := HA.out
      clear HA
      simp only [mask_tell.j1] at H
      replace H := Option.bind_eq_some_iff.mp H
      obtain ⟨⟨t112, t113⟩, A200, H⟩ := H
      replace H : ((bits_Low.f 18446744073709551615 t109).bind fun t114 => (if t112 = t114 then (if t107 = 0 then (none) else ((mask_front.f t107).bind fun t115 => (if t107 = 64 then (some (1, Int.tmod (wrap64 (t107 - x5_12)) t107, wrap64 ((wrap64 (t109 - 1)) + t115))) else (some (0, Int.tmod (wrap64 (t107 - x5_12)) t107, wrap64 ((wrap64 (t109 - 1)) + t115)))))) else (some (0, 0, 0)))) = some (r1, r2, r3) := H
      have A20 := aq A200
      clear A200
      replace H := Option.bind_eq_some_iff.mp H
      obtain ⟨t114, A210, H⟩ := H
      replace H : (if t112 = t114 then (if t107 = 0 then (none) else ((mask_front.f t107).bind fun t115 => (if t107 = 64 then (some (1, Int.tmod (wrap64 (t107 - x5_12)) t107, wrap64 ((wrap64 (t109 - 1)) + t115))) else (some (0, Int.tmod (wrap64 (t107 - x5_12)) t107, wrap64 ((wrap64 (t109 - 1)) + t115)))))) else (some (0, 0, 0))) = some (r1, r2, r3) := H
      have A21 := aq A210
      clear A210
      by_cases c22 : t112 = t114
      ·
       rw [if_pos c22] at H
       have c22b0 : (t112 == t114) = true := beq_iff_eq.mpr c22
       have c22b1 : (t112 != t114) = false := bne_eq_false_iff_eq.mpr c22
       clear c22
       by_cases c23 : t107 = 0
       ·
        rw [if_pos c23] at H
        exact absurd H (by simp)
       ·
        rw [if_neg c23] at H
        have c23b0 : (t107 == 0) = false := beq_eq_false_iff_ne.mpr c23
        have c23b1 : (t107 != 0) = true := bne_iff_ne.mpr c23
        replace H := Option.bind_eq_some_iff.mp H
        obtain ⟨t115, A240, H⟩ := H
        replace H : (if t107 = 64 then (some (1, Int.tmod (wrap64 (t107 - x5_12)) t107, wrap64 ((wrap64 (t109 - 1)) + t115))) else (some (0, Int.tmod (wrap64 (t107 - x5_12)) t107, wrap64 ((wrap64 (t109 - 1)) + t115)))) = some (r1, r2, r3) := H
        have A24 := aq A240
        clear A240
        by_cases c25 : t107 = 64
        ·
         rw [if_pos c25] at H
         have c25b0 : (t107 == 64) = true := beq_iff_eq.mpr c25
         have c25b1 : (t107 != 64) = false := bne_eq_false_iff_eq.mpr c25
         clear c25
         simp only [Option.some.injEq, Prod.mk.injEq] at H
         obtain ⟨rfl, rfl, rfl⟩ := H
         try go_wp2_with (first | ((with_reducible refine gate_callee (f := 301) rfl ?_); refine goesL_ (some 42) rfl rfl Tryz.func301 (by kernel_rfl) rfl #[.int .u64 t108, .int .i64 x5_12, .int .i64 t107] rfl (by (try simp only [List.map_toArray, List.map_cons, List.map_nil]); first | done | rfl | (simp only [List.length_drop, List.length_take]; rfl)) ?_; (with_reducible refine (bits_Rotate.calls kj12 t108 x5_12 t107 t112 t113 _ A20.out).mono ?_); rintro e w26 ⟨rfl, hb⟩; refine ⟨_, rfl, ?_⟩; have n0_ := aq (blk_below (g := gb106) (o := .cells #[.int .i64 0, .int .i64 0, .int .i64 0] 277 (0, 0)) (by (with_reducible repeat (first | refine blk_drewN ?_ _ | refine blk_drew ?_ | refine blk_alloc ?_ _)); exact BK106.out) hb); have n1_ := aq (below_step (by repeat (first | (with_reducible first | exact HB.out | apply below_alloc | apply pw_below_drewN | apply below_drew1 | refine below_set ?_ GE106.out) | exact HB.out)) hb); clear BK106; clear HB; have BK106 := n0_; have HB := n1_; clear n0_ n1_; (try clear hb); (try clear hb2); (try clear hk); (try clear hi)) | ((with_reducible refine gate_callee (f := 165) rfl ?_); refine goesL_ (some 47) rfl rfl Tryz.func165 (by kernel_rfl) rfl #[.int .u64 18446744073709551615, .int .i64 t109] rfl (by (try simp only [List.map_toArray, List.map_cons, List.map_nil]); first | done | rfl | (simp only [List.length_drop, List.length_take]; rfl)) ?_; (with_reducible refine (bits_Low.calls 18446744073709551615 t109 t114 _ A21.out).mono ?_); rintro e w27 ⟨rfl, hb⟩; refine ⟨_, rfl, ?_⟩; have n0_ := aq (blk_below (g := gb106) (o := .cells #[.int .i64 0, .int .i64 0, .int .i64 0] 277 (0, 0)) (by (with_reducible repeat (first | refine blk_drewN ?_ _ | refine blk_drew ?_ | refine blk_alloc ?_ _)); exact BK106.out) hb); have n1_ := aq (below_step (by repeat (first | (with_reducible first | exact HB.out | apply below_alloc | apply pw_below_drewN | apply below_drew1 | refine below_set ?_ GE106.out) | exact HB.out)) hb); clear BK106; clear HB; have BK106 := n0_; have HB := n1_; clear n0_ n1_; (try clear hb); (try clear hb2); (try clear hk); (try clear hi)))
         have n0_ := aq (blk_drew BK106.out)
         have n1_ := aq (below_drew1 HB.out)
         clear BK106
         clear HB
         have BK106 := n0_
         have HB := n1_
         clear n0_ n1_
         refine start_ (n := 13) (S := fun w' => True) (ds := []) bb0_0 (by kernel_rfl) rfl rfl trivial (fun hHeld => ?_); refine with_tabW mask_tell.tab12 mask_tell.bits12 (fun HT_ HW_ => ?_)
         generalize w27.drew = w28 at BK106 HB hHeld ⊢
         refine pure_ (i := 0) (N := some 50) (v := ?_) (a' := ?_) bb0_1 rfl rfl (any_of HT_.out (by kernel_rfl)) (fun _ _ _ h => h) (Or.inl ⟨by rfl, ?_⟩) ?_ ?_
         rotate_left
         · intro w'; go_simp; with_reducible rfl
         rotate_left
         · simp only [qa_, qb_, qc_, qd_, i64_w, i32_w]; rfl
         refine pure_ (i := 1) (N := some 51) (v := ?_) (a' := ?_) bb0_2 rfl rfl (any_of HT_.out (by kernel_rfl)) (fun _ _ _ h => h) (Or.inl ⟨by rfl, ?_⟩) ?_ ?_
         rotate_left
         · intro w'; go_simp; with_reducible rfl
         rotate_left
         · simp only [qa_, qb_, qc_, qd_, i64_w, i32_w]; rfl
         refine pure_ (i := 2) (N := some 52) (v := ?_) (a' := ?_) bb0_3 rfl rfl (any_of HT_.out (by kernel_rfl)) (fun _ _ _ h => h) (Or.inl ⟨by rfl, ?_⟩) ?_ ?_
         rotate_left
         · intro w'; go_simp; with_reducible rfl
         rotate_left
         · simp only [qa_, qb_, qc_, qd_, i64_w, i32_w]; rfl
         refine pure_ (i := 3) (N := some 53) (v := ?_) (a' := ?_) bb0_4 rfl rfl (any_of HT_.out (by kernel_rfl)) (fun _ _ _ h => h) (Or.inl ⟨by rfl, ?_⟩) ?_ ?_
         rotate_left
         · intro w'; go_simp; with_reducible rfl
         rotate_left
         · simp only [qa_, qb_, qc_, qd_, i64_w, i32_w]; rfl
         refine pure_ (i := 4) (N := some 54) (v := ?_) (a' := ?_) bb0_5 rfl rfl (any_of HT_.out (by kernel_rfl)) (fun _ _ _ h => h) (Or.inl ⟨by rfl, ?_⟩) ?_ ?_
         rotate_left
         · intro w'; go_simp; with_reducible rfl
         rotate_left
         · simp only [qa_, qb_, qc_, qd_, i64_w, i32_w]; rfl
         refine pure_ (i := 5) (N := some 55) (v := ?_) (a' := ?_) bb0_6 rfl rfl (any_of HT_.out (by kernel_rfl)) (fun _ _ _ h => h) (Or.inl ⟨by rfl, ?_⟩) ?_ ?_
         rotate_left
         · intro w'; go_simp; with_reducible rfl
         rotate_left
         · simp only [qa_, qb_, qc_, qd_, i64_w, i32_w]; rfl
         refine pure_ (i := 6) (N := some 56) (v := ?_) (a' := ?_) bb0_7 rfl rfl (any_of HT_.out (by kernel_rfl)) (fun _ _ _ h => h) (Or.inl ⟨by rfl, ?_⟩) ?_ ?_
         rotate_left
         · intro w'; go_simp; with_reducible rfl
         rotate_left
         · simp only [qa_, qb_, qc_, qd_, i64_w, i32_w]; rfl
         refine pure_ (i := 7) (N := some 57) (v := ?_) (a' := ?_) bb0_8 rfl rfl (any_of HT_.out (by kernel_rfl)) (fun _ _ _ h => h) (Or.inl ⟨by rfl, ?_⟩) ?_ ?_
         rotate_left
         · intro w'; go_simp; with_reducible rfl
         rotate_left
         · simp only [qa_, qb_, qc_, qd_, i64_w, i32_w]; rfl
         refine join_ (σ := Nat) 1 bb0_9 (fun s_ => [(58, .int .i64 t115), (8, .pointer (some ⟨s_, 0, none⟩)), (59, .int .i64 (wrap64 ((wrap64 (t109 - 1)) + t115))), (60, .agg #[.int .i64 0, .int .i64 (Int.tmod (wrap64 (t107 - x5_12)) t107), .int .i64 (wrap64 ((wrap64 (t109 - 1)) + t115))])]) (fun s_ w' => (w'.heap[gb106]? = some (.cells #[.int .i64 0, .int .i64 0, .int .i64 0] 277 (0, 0))) ∧ (w'.heap[s_]? = some (.cells #[.int .i64 0, .int .i64 0, .int .i64 0] 277 (0, 0))) ∧ (w.heap.size ≤ s_) ∧ (w.heap.size ≤ s_) ∧ (gb106 ≠ s_) ∧ (s_ ≠ gb106) ∧ (Below w.heap.size w w')) ?_ ?_
         rotate_left
         ·
          intro hCont
          refine two_ (i := 8) (j := 11) (Ni := some 58) (Nj := some 8) bb0_10 bb0_11 rfl rfl rfl rfl (two_of HT_.out (by kernel_rfl)) (by decide) (by decide) (fun K hK => ?_) (fun K hK => ?_)
          ·
           skip
           refine goes_ Tryz.func302 (by kernel_rfl) rfl #[.int .i64 t107] (by rfl) rfl rfl (by (try simp only [List.map_toArray, List.map_cons, List.map_nil]); first | done | rfl | (simp only [List.length_drop, List.length_take]; rfl)) ?_
           with_reducible refine (mask_front.calls t107 t115 _ A24.out).mono ?_
           rintro e w' ⟨rfl, ⟨nd, rfl⟩⟩
           refine ⟨_, rfl, ?_⟩
           refine hK.out _ _ trivial (fun hHeld => ?_)
           clear hK K
           refine norm_ (a' := ?_) ?_ ?_
           rotate_left
           ·
            show Act.put _ (some 58) _ = _
            simp only [qa_, qb_, qc_, qd_, i64_w, i32_w]
            rfl
           refine pure_ (i := 9) (N := some 59) (v := ?_) (a' := ?_) bb0_12 rfl rfl (any_of HT_.out (by kernel_rfl)) (fun _ _ _ h => h) (Or.inl ⟨by rfl, ?_⟩) ?_ ?_
           rotate_left
           · intro w'; go_simp; with_reducible rfl
           rotate_left
           · simp only [qa_, qb_, qc_, qd_, i64_w, i32_w]; rfl
           refine pure_ (i := 10) (N := some 60) (v := ?_) (a' := ?_) bb0_13 rfl rfl (any_of HT_.out (by kernel_rfl)) (fun _ _ _ h => h) (Or.inl ⟨by rfl, ?_⟩) ?_ ?_
           rotate_left
           · intro w'; go_simp; with_reducible rfl
           rotate_left
           · simp only [qa_, qb_, qc_, qd_, i64_w, i32_w]; rfl
           refine one_ (i := 11) (N := some 8) bb0_9 rfl rfl (one_of HT_.out (by kernel_rfl)) (by decide) (fun K hK => ?_)
           refine box_step ?hg (N := 8) ?hd (cs := #[.int .i64 0, .int .i64 0, .int .i64 0]) (t := 277) ?hr ?_; (case hd => rfl); (case hg => rfl); (case hr => first | (go_simp; done) | (go_simp; rfl))
           intro gb116 hg w29 hbox hb
           have n0_ := aq (blk_below (g := gb106) (o := .cells #[.int .i64 0, .int .i64 0, .int .i64 0] 277 (0, 0)) (by (with_reducible repeat (first | refine blk_drewN ?_ _ | refine blk_drew ?_ | refine blk_alloc ?_ _)); exact BK106.out) hb)
           have n1_ := aq (below_step (by repeat (first | (with_reducible first | exact HB.out | apply below_alloc | apply pw_below_drewN | apply below_drew1 | refine below_set ?_ GE106.out) | exact HB.out)) hb)
           have n2_ := aq (hbox)
           have n3_ := aq ((by rw [hg]; exact (below_size (by repeat (first | (with_reducible first | exact HB.out | apply below_alloc | apply pw_below_drewN | apply below_drew1 | refine below_set ?_ GE106.out) | exact HB.out))) : w.heap.size ≤ gb116))
           have n4_ := aq ((by rw [hg]; exact (below_size (by repeat (first | (with_reducible first | exact HB.out | apply below_alloc | apply pw_below_drewN | apply below_drew1 | refine below_set ?_ GE106.out) | exact HB.out))) : w.heap.size ≤ gb116))
           have n5_ := aq ((by rw [hg]; exact Nat.ne_of_lt (blk_lt (g := gb106) (o := .cells #[.int .i64 0, .int .i64 0, .int .i64 0] 277 (0, 0)) (by (with_reducible repeat (first | refine blk_drewN ?_ _ | refine blk_drew ?_ | refine blk_alloc ?_ _)); exact BK106.out)) : gb106 ≠ gb116))
           have n6_ := aq ((by rw [hg]; exact Nat.ne_of_gt (blk_lt (g := gb106) (o := .cells #[.int .i64 0, .int .i64 0, .int .i64 0] 277 (0, 0)) (by (with_reducible repeat (first | refine blk_drewN ?_ _ | refine blk_drew ?_ | refine blk_alloc ?_ _)); exact BK106.out)) : gb116 ≠ gb106))
           clear BK106
           clear HB
           have BK106 := n0_
           have HB := n1_
           have BK116 := n2_
           have GW116 := n3_
           have GE116 := n4_
           have NB106_116 := n5_
           have NB116_106 := n6_
           clear n0_ n1_ n2_ n3_ n4_ n5_ n6_
           clear hb hbox hg
           refine hK.out _ _ trivial (fun hHeld => ?_)
           clear hK K
           refine norm_ (a' := ?_) ?_ ?_
           rotate_left
           ·
            show Act.put _ (some 8) _ = _
            simp only [qa_, qb_, qc_, qd_, i64_w, i32_w]
            rfl
           exact norm_ (by simp only [putAll, Act.put, List.setIfInBounds_toArray, List.set_cons_zero, List.set_cons_succ]) (hCont (gb116) _ ⟨(by (with_reducible repeat (first | refine blk_drewN ?_ _ | refine blk_drew ?_ | refine blk_alloc ?_ _)); exact BK106.out), (by (with_reducible repeat (first | refine blk_drewN ?_ _ | refine blk_drew ?_ | refine blk_alloc ?_ _)); exact BK116.out), GW116.out, GE116.out, NB106_116.out, NB116_106.out, (by repeat (first | (with_reducible first | exact HB.out | apply below_alloc | apply pw_below_drewN | apply below_drew1 | refine below_set ?_ GE106.out | refine below_set ?_ GE116.out) | exact HB.out))⟩)
          ·
           skip
           refine box_step ?hg (N := 8) ?hd (cs := #[.int .i64 0, .int .i64 0, .int .i64 0]) (t := 277) ?hr ?_; (case hd => rfl); (case hg => rfl); (case hr => first | (go_simp; done) | (go_simp; rfl))
           intro gb116 hg w29 hbox hb
           have n0_ := aq (blk_below (g := gb106) (o := .cells #[.int .i64 0, .int .i64 0, .int .i64 0] 277 (0, 0)) (by (with_reducible repeat (first | refine blk_drewN ?_ _ | refine blk_drew ?_ | refine blk_alloc ?_ _)); exact BK106.out) hb)
           have n1_ := aq (below_step (by repeat (first | (with_reducible first | exact HB.out | apply below_alloc | apply pw_below_drewN | apply below_drew1 | refine below_set ?_ GE106.out) | exact HB.out)) hb)
           have n2_ := aq (hbox)
           have n3_ := aq ((by rw [hg]; exact (below_size (by repeat (first | (with_reducible first | exact HB.out | apply below_alloc | apply pw_below_drewN | apply below_drew1 | refine below_set ?_ GE106.out) | exact HB.out))) : w.heap.size ≤ gb116))
           have n4_ := aq ((by rw [hg]; exact (below_size (by repeat (first | (with_reducible first | exact HB.out | apply below_alloc | apply pw_below_drewN | apply below_drew1 | refine below_set ?_ GE106.out) | exact HB.out))) : w.heap.size ≤ gb116))
           have n5_ := aq ((by rw [hg]; exact Nat.ne_of_lt (blk_lt (g := gb106) (o := .cells #[.int .i64 0, .int .i64 0, .int .i64 0] 277 (0, 0)) (by (with_reducible repeat (first | refine blk_drewN ?_ _ | refine blk_drew ?_ | refine blk_alloc ?_ _)); exact BK106.out)) : gb106 ≠ gb116))
           have n6_ := aq ((by rw [hg]; exact Nat.ne_of_gt (blk_lt (g := gb106) (o := .cells #[.int .i64 0, .int .i64 0, .int .i64 0] 277 (0, 0)) (by (with_reducible repeat (first | refine blk_drewN ?_ _ | refine blk_drew ?_ | refine blk_alloc ?_ _)); exact BK106.out)) : gb116 ≠ gb106))
           clear BK106
           clear HB
           have BK106 := n0_
           have HB := n1_
           have BK116 := n2_
           have GW116 := n3_
           have GE116 := n4_
           have NB106_116 := n5_
           have NB116_106 := n6_
           clear n0_ n1_ n2_ n3_ n4_ n5_ n6_
           clear hb hbox hg
           refine hK.out _ _ trivial (fun hHeld => ?_)
           clear hK K
           refine norm_ (a' := ?_) ?_ ?_
           rotate_left
           ·
            show Act.put _ (some 8) _ = _
            simp only [qa_, qb_, qc_, qd_, i64_w, i32_w]
            rfl
           refine one_ (i := 8) (N := some 58) bb0_14 rfl rfl (one_of HT_.out (by kernel_rfl)) (by decide) (fun K hK => ?_)
           refine goes_ Tryz.func302 (by kernel_rfl) rfl #[.int .i64 t107] (by rfl) rfl rfl (by (try simp only [List.map_toArray, List.map_cons, List.map_nil]); first | done | rfl | (simp only [List.length_drop, List.length_take]; rfl)) ?_
           with_reducible refine (mask_front.calls t107 t115 _ A24.out).mono ?_
           rintro e w' ⟨rfl, ⟨nd, rfl⟩⟩
           refine ⟨_, rfl, ?_⟩
           refine hK.out _ _ trivial (fun hHeld => ?_)
           clear hK K
           refine norm_ (a' := ?_) ?_ ?_
           rotate_left
           ·
            show Act.put _ (some 58) _ = _
            simp only [qa_, qb_, qc_, qd_, i64_w, i32_w]
            rfl
           refine pure_ (i := 9) (N := some 59) (v := ?_) (a' := ?_) bb0_15 rfl rfl (any_of HT_.out (by kernel_rfl)) (fun _ _ _ h => h) (Or.inl ⟨by rfl, ?_⟩) ?_ ?_
           rotate_left
           · intro w'; go_simp; with_reducible rfl
           rotate_left
           · simp only [qa_, qb_, qc_, qd_, i64_w, i32_w]; rfl
           refine pure_ (i := 10) (N := some 60) (v := ?_) (a' := ?_) bb0_9 rfl rfl (any_of HT_.out (by kernel_rfl)) (fun _ _ _ h => h) (Or.inl ⟨by rfl, ?_⟩) ?_ ?_
           rotate_left
           · intro w'; go_simp; with_reducible rfl
           rotate_left
           · simp only [qa_, qb_, qc_, qd_, i64_w, i32_w]; rfl
           exact norm_ (by simp only [putAll, Act.put, List.setIfInBounds_toArray, List.set_cons_zero, List.set_cons_succ]) (hCont (gb116) _ ⟨(by (with_reducible repeat (first | refine blk_drewN ?_ _ | refine blk_drew ?_ | refine blk_alloc ?_ _)); exact BK106.out), (by (with_reducible repeat (first | refine blk_drewN ?_ _ | refine blk_drew ?_ | refine blk_alloc ?_ _)); exact BK116.out), GW116.out, GE116.out, NB106_116.out, NB116_106.out, (by repeat (first | (with_reducible first | exact HB.out | apply below_alloc | apply pw_below_drewN | apply below_drew1 | refine below_set ?_ GE106.out | refine below_set ?_ GE116.out) | exact HB.out))⟩)
         rintro gb116 w30 ⟨h0_, h1_, h2_, h3_, h4_, h5_, h6_⟩
         have n0_ : Aside0 (w30.heap[gb106]? = some (.cells #[.int .i64 0, .int .i64 0, .int .i64 0] 277 (0, 0))) := ⟨h0_⟩
         have n1_ : Aside0 (w30.heap[gb116]? = some (.cells #[.int .i64 0, .int .i64 0, .int .i64 0] 277 (0, 0))) := ⟨h1_⟩
         have n2_ : Aside0 (w.heap.size ≤ gb116) := ⟨h2_⟩
         have n3_ : Aside0 (w.heap.size ≤ gb116) := ⟨h3_⟩
         have n4_ : Aside0 (gb106 ≠ gb116) := ⟨h4_⟩
         have n5_ : Aside0 (gb116 ≠ gb106) := ⟨h5_⟩
         have n6_ : Aside0 (Below w.heap.size w w30) := ⟨h6_⟩
         clear BK106
         clear HB
         clear h0_ h1_ h2_ h3_ h4_ h5_ h6_
         have BK106 := n0_
         have BK116 := n1_
         have GW116 := n2_
         have GE116 := n3_
         have NB106_116 := n4_
         have NB116_106 := n5_
         have HB := n6_
         clear n0_ n1_ n2_ n3_ n4_ n5_ n6_
         have hHeld := trivial
         refine norm_ (a' := ?_) ?_ ?_
         rotate_left
         ·
          simp only [putAll, Act.put, List.setIfInBounds_toArray, List.set_cons_zero, List.set_cons_succ]
          rfl
         refine one_ (i := 12) (N := none) bb0_16 rfl rfl (one_of HT_.out (by kernel_rfl)) (by decide) (fun K hK => ?_)
         have hs31 : w30.cell? ⟨gb116, 0, none⟩ = some (.int .i64 0) := (blk_cell BK116.out 0).trans rfl
         have hfs31 := blk_frozen BK116.out 0
         have hns31_0 := NB106_116.out
         have hms31_0 := NB116_106.out
         have hs32 : w30.cell? ⟨gb116, 1, none⟩ = some (.int .i64 0) := (blk_cell BK116.out 1).trans rfl
         have hfs32 := blk_frozen BK116.out 1
         have hns32_0 := NB106_116.out
         have hms32_0 := NB116_106.out
         have hs33 : w30.cell? ⟨gb116, 2, none⟩ = some (.int .i64 0) := (blk_cell BK116.out 2).trans rfl
         have hfs33 := blk_frozen BK116.out 2
         have hns33_0 := NB106_116.out
         have hms33_0 := NB116_106.out
         refine skip_ (w1 := ?_) (by rfl) rfl ?_ ?_
         rotate_left
         ·
          go_simp
          rfl
         refine hK.out _ _ trivial (fun hHeld => ?_)
         clear hK K
         refine done_ (done_of HT_.out (by kernel_rfl)) ?_
         have hnb34 := NB116_106.out
         have hnc34 := NB106_116.out
         have hcz35_0 : w30.cell? ⟨gb116, 0, none⟩ = some (.int .i64 0) := (blk_cell BK116.out 0).trans rfl
         have hcz35_1 : w30.cell? ⟨gb116, 1, none⟩ = some (.int .i64 0) := (blk_cell BK116.out 1).trans rfl
         have hcz35_2 : w30.cell? ⟨gb116, 2, none⟩ = some (.int .i64 0) := (blk_cell BK116.out 2).trans rfl
         have hfz35_0 := blk_frozen BK116.out 0
         have hfz35_1 := blk_frozen BK116.out 1
         have hfz35_2 := blk_frozen BK116.out 2
         have hcz36_0 : w30.cell? ⟨gb106, 0, none⟩ = some (.int .i64 0) := (blk_cell BK106.out 0).trans rfl
         have hcz36_1 : w30.cell? ⟨gb106, 1, none⟩ = some (.int .i64 0) := (blk_cell BK106.out 1).trans rfl
         have hcz36_2 : w30.cell? ⟨gb106, 2, none⟩ = some (.int .i64 0) := (blk_cell BK106.out 2).trans rfl
         have hfz36_0 := blk_frozen BK106.out 0
         have hfz36_1 := blk_frozen BK106.out 1
         have hfz36_2 := blk_frozen BK106.out 2
         try go_wp2
         refine bodyPost_ret (results_cell_row rfl _ _ gb106 277 #[.int .i64 1, .int .i64 (Int.tmod (wrap64 (t107 - x5_12)) t107), .int .i64 (wrap64 ((wrap64 (t109 - 1)) + t115))] (0, 0) _ rfl (by (with_reducible repeat (first | refine blk_drewN ?_ _ | refine blk_drew ?_ | refine blk_alloc ?_ _)); refine blk_put (cs := #[.int .i64 1, .int .i64 (Int.tmod (wrap64 (t107 - x5_12)) t107), .int .i64 0]) ?_ 2 _ rfl; (with_reducible repeat (first | refine blk_drewN ?_ _ | refine blk_drew ?_ | refine blk_alloc ?_ _)); refine blk_put (cs := #[.int .i64 1, .int .i64 0, .int .i64 0]) ?_ 1 _ rfl; (with_reducible repeat (first | refine blk_drewN ?_ _ | refine blk_drew ?_ | refine blk_alloc ?_ _)); refine blk_put (cs := #[.int .i64 0, .int .i64 0, .int .i64 0]) ?_ 0 _ rfl; (with_reducible repeat (first | refine blk_drewN ?_ _ | refine blk_drew ?_ | refine blk_alloc ?_ _)); refine blk_far ?_ NB106_116.out _; (with_reducible repeat (first | refine blk_drewN ?_ _ | refine blk_drew ?_ | refine blk_alloc ?_ _)); refine blk_far ?_ NB106_116.out _; (with_reducible repeat (first | refine blk_drewN ?_ _ | refine blk_drew ?_ | refine blk_alloc ?_ _)); refine blk_far ?_ NB106_116.out _; (with_reducible repeat (first | refine blk_drewN ?_ _ | refine blk_drew ?_ | refine blk_alloc ?_ _)); refine blk_far ?_ NB106_116.out _; (with_reducible repeat (first | refine blk_drewN ?_ _ | refine blk_drew ?_ | refine blk_alloc ?_ _)); exact BK106.out) Tryz.underlying277 rfl (by kernel_rfl)) rfl ?_
         exact ⟨by first | rfl | (simp [errW_none, errW_some] <;> rfl) | (simp [*, errW_none, errW_some] <;> rfl), by repeat (first | (with_reducible first | exact HB.out | apply below_alloc | apply pw_below_drewN | apply below_drew1 | refine below_set ?_ GE106.out | refine below_set ?_ GE116.out) | exact HB.out)⟩
        ·
         rw [if_neg c25] at H
         have c25b0 : (t107 == 64) = false := beq_eq_false_iff_ne.mpr c25
         have c25b1 : (t107 != 64) = true := bne_iff_ne.mpr c25
         simp only [Option.some.injEq, Prod.mk.injEq] at H
         obtain ⟨rfl, rfl, rfl⟩ := H
         try go_wp2_with (first | ((with_reducible refine gate_callee (f := 301) rfl ?_); refine goesL_ (some 42) rfl rfl Tryz.func301 (by kernel_rfl) rfl #[.int .u64 t108, .int .i64 x5_12, .int .i64 t107] rfl (by (try simp only [List.map_toArray, List.map_cons, List.map_nil]); first | done | rfl | (simp only [List.length_drop, List.length_take]; rfl)) ?_; (with_reducible refine (bits_Rotate.calls kj12 t108 x5_12 t107 t112 t113 _ A20.out).mono ?_); rintro e w37 ⟨rfl, hb⟩; refine ⟨_, rfl, ?_⟩; have n0_ := aq (blk_below (g := gb106) (o := .cells #[.int .i64 0, .int .i64 0, .int .i64 0] 277 (0, 0)) (by (with_reducible repeat (first | refine blk_drewN ?_ _ | refine blk_drew ?_ | refine blk_alloc ?_ _)); exact BK106.out) hb); have n1_ := aq (below_step (by repeat (first | (with_reducible first | exact HB.out | apply below_alloc | apply pw_below_drewN | apply below_drew1 | refine below_set ?_ GE106.out) | exact HB.out)) hb); clear BK106; clear HB; have BK106 := n0_; have HB := n1_; clear n0_ n1_; (try clear hb); (try clear hb2); (try clear hk); (try clear hi)) | ((with_reducible refine gate_callee (f := 165) rfl ?_); refine goesL_ (some 47) rfl rfl Tryz.func165 (by kernel_rfl) rfl #[.int .u64 18446744073709551615, .int .i64 t109] rfl (by (try simp only [List.map_toArray, List.map_cons, List.map_nil]); first | done | rfl | (simp only [List.length_drop, List.length_take]; rfl)) ?_; (with_reducible refine (bits_Low.calls 18446744073709551615 t109 t114 _ A21.out).mono ?_); rintro e w38 ⟨rfl, hb⟩; refine ⟨_, rfl, ?_⟩; have n0_ := aq (blk_below (g := gb106) (o := .cells #[.int .i64 0, .int .i64 0, .int .i64 0] 277 (0, 0)) (by (with_reducible repeat (first | refine blk_drewN ?_ _ | refine blk_drew ?_ | refine blk_alloc ?_ _)); exact BK106.out) hb); have n1_ := aq (below_step (by repeat (first | (with_reducible first | exact HB.out | apply below_alloc | apply pw_below_drewN | apply below_drew1 | refine below_set ?_ GE106.out) | exact HB.out)) hb); clear BK106; clear HB; have BK106 := n0_; have HB := n1_; clear n0_ n1_; (try clear hb); (try clear hb2); (try clear hk); (try clear hi)))
         have n0_ := aq (blk_drew BK106.out)
         have n1_ := aq (below_drew1 HB.out)
         clear BK106
         clear HB
         have BK106 := n0_
         have HB := n1_
         clear n0_ n1_
         refine start_ (n := 13) (S := fun w' => True) (ds := []) bb0_0 (by kernel_rfl) rfl rfl trivial (fun hHeld => ?_); refine with_tabW mask_tell.tab12 mask_tell.bits12 (fun HT_ HW_ => ?_)
         generalize w38.drew = w39 at BK106 HB hHeld ⊢
         refine pure_ (i := 0) (N := some 50) (v := ?_) (a' := ?_) bb0_1 rfl rfl (any_of HT_.out (by kernel_rfl)) (fun _ _ _ h => h) (Or.inl ⟨by rfl, ?_⟩) ?_ ?_
         rotate_left
         · intro w'; go_simp; with_reducible rfl
         rotate_left
         · simp only [qa_, qb_, qc_, qd_, i64_w, i32_w]; rfl
         refine pure_ (i := 1) (N := some 51) (v := ?_) (a' := ?_) bb0_2 rfl rfl (any_of HT_.out (by kernel_rfl)) (fun _ _ _ h => h) (Or.inl ⟨by rfl, ?_⟩) ?_ ?_
         rotate_left
         · intro w'; go_simp; with_reducible rfl
         rotate_left
         · simp only [qa_, qb_, qc_, qd_, i64_w, i32_w]; rfl
         refine pure_ (i := 2) (N := some 52) (v := ?_) (a' := ?_) bb0_3 rfl rfl (any_of HT_.out (by kernel_rfl)) (fun _ _ _ h => h) (Or.inl ⟨by rfl, ?_⟩) ?_ ?_
         rotate_left
         · intro w'; go_simp; with_reducible rfl
         rotate_left
         · simp only [qa_, qb_, qc_, qd_, i64_w, i32_w]; rfl
         refine pure_ (i := 3) (N := some 53) (v := ?_) (a' := ?_) bb0_4 rfl rfl (any_of HT_.out (by kernel_rfl)) (fun _ _ _ h => h) (Or.inl ⟨by rfl, ?_⟩) ?_ ?_
         rotate_left
         · intro w'; go_simp; with_reducible rfl
         rotate_left
         · simp only [qa_, qb_, qc_, qd_, i64_w, i32_w]; rfl
         refine pure_ (i := 4) (N := some 54) (v := ?_) (a' := ?_) bb0_5 rfl rfl (any_of HT_.out (by kernel_rfl)) (fun _ _ _ h => h) (Or.inl ⟨by rfl, ?_⟩) ?_ ?_
         rotate_left
         · intro w'; go_simp; with_reducible rfl
         rotate_left
         · simp only [qa_, qb_, qc_, qd_, i64_w, i32_w]; rfl
         refine pure_ (i := 5) (N := some 55) (v := ?_) (a' := ?_) bb0_6 rfl rfl (any_of HT_.out (by kernel_rfl)) (fun _ _ _ h => h) (Or.inl ⟨by rfl, ?_⟩) ?_ ?_
         rotate_left
         · intro w'; go_simp; with_reducible rfl
         rotate_left
         · simp only [qa_, qb_, qc_, qd_, i64_w, i32_w]; rfl
         refine pure_ (i := 6) (N := some 56) (v := ?_) (a' := ?_) bb0_7 rfl rfl (any_of HT_.out (by kernel_rfl)) (fun _ _ _ h => h) (Or.inl ⟨by rfl, ?_⟩) ?_ ?_
         rotate_left
         · intro w'; go_simp; with_reducible rfl
         rotate_left
         · simp only [qa_, qb_, qc_, qd_, i64_w, i32_w]; rfl
         refine pure_ (i := 7) (N := some 57) (v := ?_) (a' := ?_) bb0_8 rfl rfl (any_of HT_.out (by kernel_rfl)) (fun _ _ _ h => h) (Or.inl ⟨by rfl, ?_⟩) ?_ ?_
         rotate_left
         · intro w'; go_simp; with_reducible rfl
         rotate_left
         · simp only [qa_, qb_, qc_, qd_, i64_w, i32_w]; rfl
         refine join_ (σ := Nat) 1 bb0_9 (fun s_ => [(58, .int .i64 t115), (8, .pointer (some ⟨s_, 0, none⟩)), (59, .int .i64 (wrap64 ((wrap64 (t109 - 1)) + t115))), (60, .agg #[.int .i64 0, .int .i64 (Int.tmod (wrap64 (t107 - x5_12)) t107), .int .i64 (wrap64 ((wrap64 (t109 - 1)) + t115))])]) (fun s_ w' => (w'.heap[gb106]? = some (.cells #[.int .i64 0, .int .i64 0, .int .i64 0] 277 (0, 0))) ∧ (w'.heap[s_]? = some (.cells #[.int .i64 0, .int .i64 0, .int .i64 0] 277 (0, 0))) ∧ (w.heap.size ≤ s_) ∧ (w.heap.size ≤ s_) ∧ (gb106 ≠ s_) ∧ (s_ ≠ gb106) ∧ (Below w.heap.size w w')) ?_ ?_
         rotate_left
         ·
          intro hCont
          refine two_ (i := 8) (j := 11) (Ni := some 58) (Nj := some 8) bb0_10 bb0_11 rfl rfl rfl rfl (two_of HT_.out (by kernel_rfl)) (by decide) (by decide) (fun K hK => ?_) (fun K hK => ?_)
          ·
           skip
           refine goes_ Tryz.func302 (by kernel_rfl) rfl #[.int .i64 t107] (by rfl) rfl rfl (by (try simp only [List.map_toArray, List.map_cons, List.map_nil]); first | done | rfl | (simp only [List.length_drop, List.length_take]; rfl)) ?_
           with_reducible refine (mask_front.calls t107 t115 _ A24.out).mono ?_
           rintro e w' ⟨rfl, ⟨nd, rfl⟩⟩
           refine ⟨_, rfl, ?_⟩
           refine hK.out _ _ trivial (fun hHeld => ?_)
           clear hK K
           refine norm_ (a' := ?_) ?_ ?_
           rotate_left
           ·
            show Act.put _ (some 58) _ = _
            simp only [qa_, qb_, qc_, qd_, i64_w, i32_w]
            rfl
           refine pure_ (i := 9) (N := some 59) (v := ?_) (a' := ?_) bb0_12 rfl rfl (any_of HT_.out (by kernel_rfl)) (fun _ _ _ h => h) (Or.inl ⟨by rfl, ?_⟩) ?_ ?_
           rotate_left
           · intro w'; go_simp; with_reducible rfl
           rotate_left
           · simp only [qa_, qb_, qc_, qd_, i64_w, i32_w]; rfl
           refine pure_ (i := 10) (N := some 60) (v := ?_) (a' := ?_) bb0_13 rfl rfl (any_of HT_.out (by kernel_rfl)) (fun _ _ _ h => h) (Or.inl ⟨by rfl, ?_⟩) ?_ ?_
           rotate_left
           · intro w'; go_simp; with_reducible rfl
           rotate_left
           · simp only [qa_, qb_, qc_, qd_, i64_w, i32_w]; rfl
           refine one_ (i := 11) (N := some 8) bb0_9 rfl rfl (one_of HT_.out (by kernel_rfl)) (by decide) (fun K hK => ?_)
           refine box_step ?hg (N := 8) ?hd (cs := #[.int .i64 0, .int .i64 0, .int .i64 0]) (t := 277) ?hr ?_; (case hd => rfl); (case hg => rfl); (case hr => first | (go_simp; done) | (go_simp; rfl))
           intro gb116 hg w40 hbox hb
           have n0_ := aq (blk_below (g := gb106) (o := .cells #[.int .i64 0, .int .i64 0, .int .i64 0] 277 (0, 0)) (by (with_reducible repeat (first | refine blk_drewN ?_ _ | refine blk_drew ?_ | refine blk_alloc ?_ _)); exact BK106.out) hb)
           have n1_ := aq (below_step (by repeat (first | (with_reducible first | exact HB.out | apply below_alloc | apply pw_below_drewN | apply below_drew1 | refine below_set ?_ GE106.out) | exact HB.out)) hb)
           have n2_ := aq (hbox)
           have n3_ := aq ((by rw [hg]; exact (below_size (by repeat (first | (with_reducible first | exact HB.out | apply below_alloc | apply pw_below_drewN | apply below_drew1 | refine below_set ?_ GE106.out) | exact HB.out))) : w.heap.size ≤ gb116))
           have n4_ := aq ((by rw [hg]; exact (below_size (by repeat (first | (with_reducible first | exact HB.out | apply below_alloc | apply pw_below_drewN | apply below_drew1 | refine below_set ?_ GE106.out) | exact HB.out))) : w.heap.size ≤ gb116))
           have n5_ := aq ((by rw [hg]; exact Nat.ne_of_lt (blk_lt (g := gb106) (o := .cells #[.int .i64 0, .int .i64 0, .int .i64 0] 277 (0, 0)) (by (with_reducible repeat (first | refine blk_drewN ?_ _ | refine blk_drew ?_ | refine blk_alloc ?_ _)); exact BK106.out)) : gb106 ≠ gb116))
           have n6_ := aq ((by rw [hg]; exact Nat.ne_of_gt (blk_lt (g := gb106) (o := .cells #[.int .i64 0, .int .i64 0, .int .i64 0] 277 (0, 0)) (by (with_reducible repeat (first | refine blk_drewN ?_ _ | refine blk_drew ?_ | refine blk_alloc ?_ _)); exact BK106.out)) : gb116 ≠ gb106))
           clear BK106
           clear HB
           have BK106 := n0_
           have HB := n1_
           have BK116 := n2_
           have GW116 := n3_
           have GE116 := n4_
           have NB106_116 := n5_
           have NB116_106 := n6_
           clear n0_ n1_ n2_ n3_ n4_ n5_ n6_
           clear hb hbox hg
           refine hK.out _ _ trivial (fun hHeld => ?_)
           clear hK K
           refine norm_ (a' := ?_) ?_ ?_
           rotate_left
           ·
            show Act.put _ (some 8) _ = _
            simp only [qa_, qb_, qc_, qd_, i64_w, i32_w]
            rfl
           exact norm_ (by simp only [putAll, Act.put, List.setIfInBounds_toArray, List.set_cons_zero, List.set_cons_succ]) (hCont (gb116) _ ⟨(by (with_reducible repeat (first | refine blk_drewN ?_ _ | refine blk_drew ?_ | refine blk_alloc ?_ _)); exact BK106.out), (by (with_reducible repeat (first | refine blk_drewN ?_ _ | refine blk_drew ?_ | refine blk_alloc ?_ _)); exact BK116.out), GW116.out, GE116.out, NB106_116.out, NB116_106.out, (by repeat (first | (with_reducible first | exact HB.out | apply below_alloc | apply pw_below_drewN | apply below_drew1 | refine below_set ?_ GE106.out | refine below_set ?_ GE116.out) | exact HB.out))⟩)
          ·
           skip
           refine box_step ?hg (N := 8) ?hd (cs := #[.int .i64 0, .int .i64 0, .int .i64 0]) (t := 277) ?hr ?_; (case hd => rfl); (case hg => rfl); (case hr => first | (go_simp; done) | (go_simp; rfl))
           intro gb116 hg w40 hbox hb
           have n0_ := aq (blk_below (g := gb106) (o := .cells #[.int .i64 0, .int .i64 0, .int .i64 0] 277 (0, 0)) (by (with_reducible repeat (first | refine blk_drewN ?_ _ | refine blk_drew ?_ | refine blk_alloc ?_ _)); exact BK106.out) hb)
           have n1_ := aq (below_step (by repeat (first | (with_reducible first | exact HB.out | apply below_alloc | apply pw_below_drewN | apply below_drew1 | refine below_set ?_ GE106.out) | exact HB.out)) hb)
           have n2_ := aq (hbox)
           have n3_ := aq ((by rw [hg]; exact (below_size (by repeat (first | (with_reducible first | exact HB.out | apply below_alloc | apply pw_below_drewN | apply below_drew1 | refine below_set ?_ GE106.out) | exact HB.out))) : w.heap.size ≤ gb116))
           have n4_ := aq ((by rw [hg]; exact (below_size (by repeat (first | (with_reducible first | exact HB.out | apply below_alloc | apply pw_below_drewN | apply below_drew1 | refine below_set ?_ GE106.out) | exact HB.out))) : w.heap.size ≤ gb116))
           have n5_ := aq ((by rw [hg]; exact Nat.ne_of_lt (blk_lt (g := gb106) (o := .cells #[.int .i64 0, .int .i64 0, .int .i64 0] 277 (0, 0)) (by (with_reducible repeat (first | refine blk_drewN ?_ _ | refine blk_drew ?_ | refine blk_alloc ?_ _)); exact BK106.out)) : gb106 ≠ gb116))
           have n6_ := aq ((by rw [hg]; exact Nat.ne_of_gt (blk_lt (g := gb106) (o := .cells #[.int .i64 0, .int .i64 0, .int .i64 0] 277 (0, 0)) (by (with_reducible repeat (first | refine blk_drewN ?_ _ | refine blk_drew ?_ | refine blk_alloc ?_ _)); exact BK106.out)) : gb116 ≠ gb106))
           clear BK106
           clear HB
           have BK106 := n0_
           have HB := n1_
           have BK116 := n2_
           have GW116 := n3_
           have GE116 := n4_
           have NB106_116 := n5_
           have NB116_106 := n6_
           clear n0_ n1_ n2_ n3_ n4_ n5_ n6_
           clear hb hbox hg
           refine hK.out _ _ trivial (fun hHeld => ?_)
           clear hK K
           refine norm_ (a' := ?_) ?_ ?_
           rotate_left
           ·
            show Act.put _ (some 8) _ = _
            simp only [qa_, qb_, qc_, qd_, i64_w, i32_w]
            rfl
           refine one_ (i := 8) (N := some 58) bb0_14 rfl rfl (one_of HT_.out (by kernel_rfl)) (by decide) (fun K hK => ?_)
           refine goes_ Tryz.func302 (by kernel_rfl) rfl #[.int .i64 t107] (by rfl) rfl rfl (by (try simp only [List.map_toArray, List.map_cons, List.map_nil]); first | done | rfl | (simp only [List.length_drop, List.length_take]; rfl)) ?_
           with_reducible refine (mask_front.calls t107 t115 _ A24.out).mono ?_
           rintro e w' ⟨rfl, ⟨nd, rfl⟩⟩
           refine ⟨_, rfl, ?_⟩
           refine hK.out _ _ trivial (fun hHeld => ?_)
           clear hK K
           refine norm_ (a' := ?_) ?_ ?_
           rotate_left
           ·
            show Act.put _ (some 58) _ = _
            simp only [qa_, qb_, qc_, qd_, i64_w, i32_w]
            rfl
           refine pure_ (i := 9) (N := some 59) (v := ?_) (a' := ?_) bb0_15 rfl rfl (any_of HT_.out (by kernel_rfl)) (fun _ _ _ h => h) (Or.inl ⟨by rfl, ?_⟩) ?_ ?_
           rotate_left
           · intro w'; go_simp; with_reducible rfl
           rotate_left
           · simp only [qa_, qb_, qc_, qd_, i64_w, i32_w]; rfl
           refine pure_ (i := 10) (N := some 60) (v := ?_) (a' := ?_) bb0_9 rfl rfl (any_of HT_.out (by kernel_rfl)) (fun _ _ _ h => h) (Or.inl ⟨by rfl, ?_⟩) ?_ ?_
           rotate_left
           · intro w'; go_simp; with_reducible rfl
           rotate_left
           · simp only [qa_, qb_, qc_, qd_, i64_w, i32_w]; rfl
           exact norm_ (by simp only [putAll, Act.put, List.setIfInBounds_toArray, List.set_cons_zero, List.set_cons_succ]) (hCont (gb116) _ ⟨(by (with_reducible repeat (first | refine blk_drewN ?_ _ | refine blk_drew ?_ | refine blk_alloc ?_ _)); exact BK106.out), (by (with_reducible repeat (first | refine blk_drewN ?_ _ | refine blk_drew ?_ | refine blk_alloc ?_ _)); exact BK116.out), GW116.out, GE116.out, NB106_116.out, NB116_106.out, (by repeat (first | (with_reducible first | exact HB.out | apply below_alloc | apply pw_below_drewN | apply below_drew1 | refine below_set ?_ GE106.out | refine below_set ?_ GE116.out) | exact HB.out))⟩)
         rintro gb116 w41 ⟨h0_, h1_, h2_, h3_, h4_, h5_, h6_⟩
         have n0_ : Aside0 (w41.heap[gb106]? = some (.cells #[.int .i64 0, .int .i64 0, .int .i64 0] 277 (0, 0))) := ⟨h0_⟩
         have n1_ : Aside0 (w41.heap[gb116]? = some (.cells #[.int .i64 0, .int .i64 0, .int .i64 0] 277 (0, 0))) := ⟨h1_⟩
         have n2_ : Aside0 (w.heap.size ≤ gb116) := ⟨h2_⟩
         have n3_ : Aside0 (w.heap.size ≤ gb116) := ⟨h3_⟩
         have n4_ : Aside0 (gb106 ≠ gb116) := ⟨h4_⟩
         have n5_ : Aside0 (gb116 ≠ gb106) := ⟨h5_⟩
         have n6_ : Aside0 (Below w.heap.size w w41) := ⟨h6_⟩
         clear BK106
         clear HB
         clear h0_ h1_ h2_ h3_ h4_ h5_ h6_
         have BK106 := n0_
         have BK116 := n1_
         have GW116 := n2_
         have GE116 := n3_
         have NB106_116 := n4_
         have NB116_106 := n5_
         have HB := n6_
         clear n0_ n1_ n2_ n3_ n4_ n5_ n6_
         have hHeld := trivial
         refine norm_ (a' := ?_) ?_ ?_
         rotate_left
         ·
          simp only [putAll, Act.put, List.setIfInBounds_toArray, List.set_cons_zero, List.set_cons_succ]
          rfl
         refine one_ (i := 12) (N := none) bb0_16 rfl rfl (one_of HT_.out (by kernel_rfl)) (by decide) (fun K hK => ?_)
         have hs42 : w41.cell? ⟨gb116, 0, none⟩ = some (.int .i64 0) := (blk_cell BK116.out 0).trans rfl
         have hfs42 := blk_frozen BK116.out 0
         have hns42_0 := NB106_116.out
         have hms42_0 := NB116_106.out
         have hs43 : w41.cell? ⟨gb116, 1, none⟩ = some (.int .i64 0) := (blk_cell BK116.out 1).trans rfl
         have hfs43 := blk_frozen BK116.out 1
         have hns43_0 := NB106_116.out
         have hms43_0 := NB116_106.out
         have hs44 : w41.cell? ⟨gb116, 2, none⟩ = some (.int .i64 0) := (blk_cell BK116.out 2).trans rfl
         have hfs44 := blk_frozen BK116.out 2
         have hns44_0 := NB106_116.out
         have hms44_0 := NB116_106.out
         refine skip_ (w1 := ?_) (by rfl) rfl ?_ ?_
         rotate_left
         ·
          go_simp
          rfl
         refine hK.out _ _ trivial (fun hHeld => ?_)
         clear hK K
         refine done_ (done_of HT_.out (by kernel_rfl)) ?_
         have hnb45 := NB116_106.out
         have hnc45 := NB106_116.out
         have hcz46_0 : w41.cell? ⟨gb116, 0, none⟩ = some (.int .i64 0) := (blk_cell BK116.out 0).trans rfl
         have hcz46_1 : w41.cell? ⟨gb116, 1, none⟩ = some (.int .i64 0) := (blk_cell BK116.out 1).trans rfl
         have hcz46_2 : w41.cell? ⟨gb116, 2, none⟩ = some (.int .i64 0) := (blk_cell BK116.out 2).trans rfl
         have hfz46_0 := blk_frozen BK116.out 0
         have hfz46_1 := blk_frozen BK116.out 1
         have hfz46_2 := blk_frozen BK116.out 2
         have hcz47_0 : w41.cell? ⟨gb106, 0, none⟩ = some (.int .i64 0) := (blk_cell BK106.out 0).trans rfl
         have hcz47_1 : w41.cell? ⟨gb106, 1, none⟩ = some (.int .i64 0) := (blk_cell BK106.out 1).trans rfl
         have hcz47_2 : w41.cell? ⟨gb106, 2, none⟩ = some (.int .i64 0) := (blk_cell BK106.out 2).trans rfl
         have hfz47_0 := blk_frozen BK106.out 0
         have hfz47_1 := blk_frozen BK106.out 1
         have hfz47_2 := blk_frozen BK106.out 2
         try go_wp2
         refine bodyPost_ret (results_cell_row rfl _ _ gb106 277 #[.int .i64 0, .int .i64 (Int.tmod (wrap64 (t107 - x5_12)) t107), .int .i64 (wrap64 ((wrap64 (t109 - 1)) + t115))] (0, 0) _ rfl (by (with_reducible repeat (first | refine blk_drewN ?_ _ | refine blk_drew ?_ | refine blk_alloc ?_ _)); refine blk_put (cs := #[.int .i64 0, .int .i64 (Int.tmod (wrap64 (t107 - x5_12)) t107), .int .i64 0]) ?_ 2 _ rfl; (with_reducible repeat (first | refine blk_drewN ?_ _ | refine blk_drew ?_ | refine blk_alloc ?_ _)); refine blk_put (cs := #[.int .i64 0, .int .i64 0, .int .i64 0]) ?_ 1 _ rfl; (with_reducible repeat (first | refine blk_drewN ?_ _ | refine blk_drew ?_ | refine blk_alloc ?_ _)); refine blk_put (cs := #[.int .i64 0, .int .i64 0, .int .i64 0]) ?_ 0 _ rfl; (with_reducible repeat (first | refine blk_drewN ?_ _ | refine blk_drew ?_ | refine blk_alloc ?_ _)); refine blk_far ?_ NB106_116.out _; (with_reducible repeat (first | refine blk_drewN ?_ _ | refine blk_drew ?_ | refine blk_alloc ?_ _)); refine blk_far ?_ NB106_116.out _; (with_reducible repeat (first | refine blk_drewN ?_ _ | refine blk_drew ?_ | refine blk_alloc ?_ _)); refine blk_far ?_ NB106_116.out _; (with_reducible repeat (first | refine blk_drewN ?_ _ | refine blk_drew ?_ | refine blk_alloc ?_ _)); exact BK106.out) Tryz.underlying277 rfl (by kernel_rfl)) rfl ?_
         exact ⟨by first | rfl | (simp [errW_none, errW_some] <;> rfl) | (simp [*, errW_none, errW_some] <;> rfl), by repeat (first | (with_reducible first | exact HB.out | apply below_alloc | apply pw_below_drewN | apply below_drew1 | refine below_set ?_ GE106.out | refine below_set ?_ GE116.out) | exact HB.out)⟩
      ·
       rw [if_neg c22] at H
       have c22b0 : (t112 == t114) = false := beq_eq_false_iff_ne.mpr c22
       have c22b1 : (t112 != t114) = true := bne_iff_ne.mpr c22
       simp only [Option.some.injEq, Prod.mk.injEq] at H
       obtain ⟨rfl, rfl, rfl⟩ := H
       go_wp2_with (first | ((with_reducible refine gate_callee (f := 301) rfl ?_); refine goesL_ (some 42) rfl rfl Tryz.func301 (by kernel_rfl) rfl #[.int .u64 t108, .int .i64 x5_12, .int .i64 t107] rfl (by (try simp only [List.map_toArray, List.map_cons, List.map_nil]); first | done | rfl | (simp only [List.length_drop, List.length_take]; rfl)) ?_; (with_reducible refine (bits_Rotate.calls kj12 t108 x5_12 t107 t112 t113 _ A20.out).mono ?_); rintro e w48 ⟨rfl, hb⟩; refine ⟨_, rfl, ?_⟩; have n0_ := aq (blk_below (g := gb106) (o := .cells #[.int .i64 0, .int .i64 0, .int .i64 0] 277 (0, 0)) (by (with_reducible repeat (first | refine blk_drewN ?_ _ | refine blk_drew ?_ | refine blk_alloc ?_ _)); exact BK106.out) hb); have n1_ := aq (below_step (by repeat (first | (with_reducible first | exact HB.out | apply below_alloc | apply pw_below_drewN | apply below_drew1 | refine below_set ?_ GE106.out) | exact HB.out)) hb); clear BK106; clear HB; have BK106 := n0_; have HB := n1_; clear n0_ n1_; (try clear hb); (try clear hb2); (try clear hk); (try clear hi)) | ((with_reducible refine gate_callee (f := 165) rfl ?_); refine goesL_ (some 47) rfl rfl Tryz.func165 (by kernel_rfl) rfl #[.int .u64 18446744073709551615, .int .i64 t109] rfl (by (try simp only [List.map_toArray, List.map_cons, List.map_nil]); first | done | rfl | (simp only [List.length_drop, List.length_take]; rfl)) ?_; (with_reducible refine (bits_Low.calls 18446744073709551615 t109 t114 _ A21.out).mono ?_); rintro e w49 ⟨rfl, hb⟩; refine ⟨_, rfl, ?_⟩; have n0_ := aq (blk_below (g := gb106) (o := .cells #[.int .i64 0, .int .i64 0, .int .i64 0] 277 (0, 0)) (by (with_reducible repeat (first | refine blk_drewN ?_ _ | refine blk_drew ?_ | refine blk_alloc ?_ _)); exact BK106.out) hb); have n1_ := aq (below_step (by repeat (first | (with_reducible first | exact HB.out | apply below_alloc | apply pw_below_drewN | apply below_drew1 | refine below_set ?_ GE106.out) | exact HB.out)) hb); clear BK106; clear HB; have BK106 := n0_; have HB := n1_; clear n0_ n1_; (try clear hb); (try clear hb2); (try clear hk); (try clear hi); obtain ⟨hcz50_0, hcz50_1, hcz50_2⟩ := cells3_ BK106.out; have hfz50_0 := fun j => blk_frozen BK106.out j))
       refine bodyPost_ret (results_cell_row rfl _ _ gb106 277 #[.int .i64 0, .int .i64 0, .int .i64 0] (0, 0) _ rfl (by (with_reducible repeat (first | refine blk_drewN ?_ _ | refine blk_drew ?_ | refine blk_alloc ?_ _)); refine blk_put (cs := #[.int .i64 0, .int .i64 0, .int .i64 0]) ?_ 2 _ rfl; (with_reducible repeat (first | refine blk_drewN ?_ _ | refine blk_drew ?_ | refine blk_alloc ?_ _)); refine blk_put (cs := #[.int .i64 0, .int .i64 0, .int .i64 0]) ?_ 1 _ rfl; (with_reducible repeat (first | refine blk_drewN ?_ _ | refine blk_drew ?_ | refine blk_alloc ?_ _)); refine blk_put (cs := #[.int .i64 0, .int .i64 0, .int .i64 0]) ?_ 0 _ rfl; (with_reducible repeat (first | refine blk_drewN ?_ _ | refine blk_drew ?_ | refine blk_alloc ?_ _)); exact BK106.out) Tryz.underlying277 rfl (by kernel_rfl)) rfl ?_
       exact ⟨by first | rfl | (simp [errW_none, errW_some] <;> rfl) | (simp [*, errW_none, errW_some] <;> rfl), by repeat (first | (with_reducible first | exact HB.out | apply below_alloc | apply pw_below_drewN | apply below_drew1 | refine below_set ?_ GE106.out) | exact HB.out)⟩
def mask_Is.f (k : Nat) (a0 : Int) : Option (Bool) := (mask_tell.f k a0).bind fun bt117 => (if (!(bt117.1 == 0) || (!(bt117.2.1 == 0) || (!(bt117.2.2 == 0)))) = true then (some true) else (some (a0 == 4294967297)))
theorem mask_Is.mono : ∀ a0 k, LeO (mask_Is.f k a0) (mask_Is.f (k + 1) a0) := by
 intro a0 k
 unfold mask_Is.f
 repeat' first
   | (with_reducible exact mask_tell.mono _ _)
   | (with_reducible exact LeO.refl _)
   | (with_reducible exact LeO.none _)
   | (with_reducible refine LeO.ite ?_ ?_)
   | (with_reducible refine LeO.bind ?_ (fun _ => ?_))
   | exact mask_tell.mono _ _
   | exact LeO.none _
   | refine LeO.ite ?_ ?_
   | refine LeO.bind ?_ (fun _ => ?_)
set_option maxHeartbeats 8000000 in
set_option maxRecDepth 100000 in
theorem mask_Is.calls (k : Nat) (a0 : Int) (r : Bool) (w : World) (h : mask_Is.f k a0 = some r) (hTab : TabW w := by first | exact hTab | exact TabW.drew hTab | exact TabW.drewN hTab _ | exact TabW.below hTab (by repeat (first | (with_reducible first | exact HB.out | apply below_alloc | apply pw_below_drewN | apply below_drew1) | refine Below.setCell ?_ (Aside0.out (by assumption)) _ | exact HB.out | exact Below.refl _ _))) :
    Calls Tryz.prog 145 #[.int .u64 a0] w fun e w' => e = .returned (.bool r) ∧ Below w.heap.size w w' := by
 have hu277 := Tryz.underlying277
 have HB := aq (Below.refl w.heap.size w)
 have H : ((mask_tell.f k a0).bind fun bt117 => (if (!(bt117.1 == 0) || (!(bt117.2.1 == 0) || (!(bt117.2.2 == 0)))) = true then (some true) else (some (a0 == 4294967297)))) = some r := h
 clear h
 replace H := Option.bind_eq_some_iff.mp H
 obtain ⟨⟨t117, t118, t119⟩, A20, H⟩ := H
 replace H : (if (!(t117 == 0) || (!(t118 == 0) || (!(t119 == 0)))) = true then (some true) else (some (a0 == 4294967297))) = some r := H
 have A2 := aq A20
 clear A20
 by_cases c3 : (!(t117 == 0) || (!(t118 == 0) || (!(t119 == 0)))) = true
 ·
  rw [if_pos c3] at H
  have c3b0 : (!(t117 == 0) || (!(t118 == 0) || (!(t119 == 0)))) = true := c3
  clear c3
  obtain rfl := Option.some.inj H
  go_enter Tryz.func145, Tryz.ntmps145
  go_wp2_with (first | ((with_reducible refine gate_callee (f := 220) rfl ?_); refine goesL_ (some 4) rfl rfl Tryz.func220 (by kernel_rfl) rfl #[.int .u64 a0] rfl (by (try simp only [List.map_toArray, List.map_cons, List.map_nil]); first | done | rfl | (simp only [List.length_drop, List.length_take]; rfl)) ?_; (with_reducible refine (mask_tell.calls k a0 t117 t118 t119 _ A2.out).mono ?_); rintro e w4 ⟨rfl, hb⟩; refine ⟨_, rfl, ?_⟩; have n0_ := aq (below_step (by repeat (first | (with_reducible first | exact HB.out | apply below_alloc | apply pw_below_drewN | apply below_drew1) | exact HB.out)) hb); clear HB; have HB := n0_; clear n0_; (try clear hb); (try clear hb2); (try clear hk); (try clear hi)))
  go_ret
  exact ⟨by first | rfl | (simp [errW_none, errW_some] <;> rfl) | (simp [*, errW_none, errW_some] <;> rfl), by repeat (first | (with_reducible first | exact HB.out | apply below_alloc | apply pw_below_drewN | apply below_drew1) | exact HB.out)⟩
 ·
  rw [if_neg c3] at H
  have c3b0 : (!(t117 == 0) || (!(t118 == 0) || (!(t119 == 0)))) = false := by simpa using c3
  clear c3
  obtain rfl := Option.some.inj H
  go_enter Tryz.func145, Tryz.ntmps145
  go_wp2_with (first | ((with_reducible refine gate_callee (f := 220) rfl ?_); refine goesL_ (some 4) rfl rfl Tryz.func220 (by kernel_rfl) rfl #[.int .u64 a0] rfl (by (try simp only [List.map_toArray, List.map_cons, List.map_nil]); first | done | rfl | (simp only [List.length_drop, List.length_take]; rfl)) ?_; (with_reducible refine (mask_tell.calls k a0 t117 t118 t119 _ A2.out).mono ?_); rintro e w5 ⟨rfl, hb⟩; refine ⟨_, rfl, ?_⟩; have n0_ := aq (below_step (by repeat (first | (with_reducible first | exact HB.out | apply below_alloc | apply pw_below_drewN | apply below_drew1) | exact HB.out)) hb); clear HB; have HB := n0_; clear n0_; (try clear hb); (try clear hb2); (try clear hk); (try clear hi)))
  go_ret
  exact ⟨by first | rfl | (simp [errW_none, errW_some] <;> rfl) | (simp [*, errW_none, errW_some] <;> rfl), by repeat (first | (with_reducible first | exact HB.out | apply below_alloc | apply pw_below_drewN | apply below_drew1) | exact HB.out)⟩
end Go.Proofs.YtblnfngigdipcaaGreatDoor.P
namespace Go.Proofs.YtblnfngigdipcaaGreatDoor.P
open Go.RowKit Go.Proofs.YtblnfngigdipcaaGreatDoorW.PrintWords Go.Proofs.YtblnfngigdipcaaGreatDoorW.PrintLast Go.Proofs.YtblnfngigdipcaaGreatDoorW.PrintMore
attribute [local go_sem] max2_int min2_int max_two min_two max_three min_three max_four min_four
set_option linter.unusedVariables false
set_option linter.unusedSimpArgs false
def mask_Encode.f (k : Nat) (a0 : Int) : Option (Int × Int × Int × Int) := (mask_Is.f k a0).bind fun t120 => (if t120 = true then ((mask_tell.f k a0).bind fun bt121 => (some (bt121.1, bt121.2.1, bt121.2.2, 0))) else (some (0, 0, 0, 3)))
theorem mask_Encode.mono : ∀ a0 k, LeO (mask_Encode.f k a0) (mask_Encode.f (k + 1) a0) := by
 intro a0 k
 unfold mask_Encode.f
 repeat' first
   | (with_reducible exact mask_Is.mono _ _)
   | (with_reducible exact mask_tell.mono _ _)
   | (with_reducible exact LeO.refl _)
   | (with_reducible exact LeO.none _)
   | (with_reducible refine LeO.ite ?_ ?_)
   | (with_reducible refine LeO.bind ?_ (fun _ => ?_))
   | exact mask_Is.mono _ _
   | exact mask_tell.mono _ _
   | exact LeO.none _
   | refine LeO.ite ?_ ?_
   | refine LeO.bind ?_ (fun _ => ?_)
set_option maxHeartbeats 8000000 in
set_option maxRecDepth 100000 in
theorem mask_Encode.calls (k : Nat) (a0 : Int) (r1 : Int) (r2 : Int) (r3 : Int) (r4 : Int) (w : World) (h : mask_Encode.f k a0 = some (r1, r2, r3, r4)) (hTab : TabW w := by first | exact hTab | exact TabW.drew hTab | exact TabW.drewN hTab _ | exact TabW.below hTab (by repeat (first | (with_reducible first | exact HB.out | apply below_alloc | apply pw_below_drewN | apply below_drew1) | refine Below.setCell ?_ (Aside0.out (by assumption)) _ | exact HB.out | exact Below.refl _ _))) :
    Calls Tryz.prog 231 #[.int .u64 a0] w fun e w' => e = .returned (.tuple #[.int .i64 r1, .int .i64 r2, .int .i64 r3, .int .i64 r4]) ∧ Below w.heap.size w w' := by
 have hu277 := Tryz.underlying277
 have HB := aq (Below.refl w.heap.size w)
 have H : ((mask_Is.f k a0).bind fun t120 => (if t120 = true then ((mask_tell.f k a0).bind fun bt121 => (some (bt121.1, bt121.2.1, bt121.2.2, 0))) else (some (0, 0, 0, 3)))) = some (r1, r2, r3, r4) := h
 clear h
 replace H := Option.bind_eq_some_iff.mp H
 obtain ⟨t120, A20, H⟩ := H
 replace H : (if t120 = true then ((mask_tell.f k a0).bind fun bt121 => (some (bt121.1, bt121.2.1, bt121.2.2, 0))) else (some (0, 0, 0, 3))) = some (r1, r2, r3, r4) := H
 have A2 := aq A20
 clear A20
 by_cases c3 : t120 = true
 ·
  subst c3
  have H1 : ((mask_tell.f k a0).bind fun bt121 => (some (bt121.1, bt121.2.1, bt121.2.2, 0))) = some (r1, r2, r3, r4) := by rw [if_pos rfl] at H; exact H
  clear H
  have H := H1
  clear H1
  replace H := Option.bind_eq_some_iff.mp H
  obtain ⟨⟨t121, t122, t123⟩, A40, H⟩ := H
  replace H : (some (t121, t122, t123, 0)) = some (r1, r2, r3, r4) := H
  have A4 := aq A40
  clear A40
  simp only [Option.some.injEq, Prod.mk.injEq] at H
  obtain ⟨rfl, rfl, rfl, rfl⟩ := H
  go_enter Tryz.func231, Tryz.ntmps231
  go_wp2_with (first | (go_at_call 145; (with_reducible refine (mask_Is.calls k a0 true _ A2.out).mono ?_); rintro e w5 ⟨rfl, hb⟩; have n0_ := aq (below_step (by repeat (first | (with_reducible first | exact HB.out | apply below_alloc | apply pw_below_drewN | apply below_drew1) | exact HB.out)) hb); clear HB; have HB := n0_; clear n0_; (try clear hb); (try clear hb2); (try clear hk); (try clear hi)) | (go_at_call 220; (with_reducible refine (mask_tell.calls k a0 t121 t122 t123 _ A4.out).mono ?_); rintro e w6 ⟨rfl, hb⟩; have n0_ := aq (below_step (by repeat (first | (with_reducible first | exact HB.out | apply below_alloc | apply pw_below_drewN | apply below_drew1) | exact HB.out)) hb); clear HB; have HB := n0_; clear n0_; (try clear hb); (try clear hb2); (try clear hk); (try clear hi)) | ((with_reducible refine gate_dst (N := 6) rfl ?_); refine box_event ?hg (N := 6) ?hd (cs := #[.int .i64 0, .int .i64 0, .int .i64 0]) (t := 277) ?hr ?_; (case hd => rfl); (case hg => rfl); (case hr => first | (go_simp; done) | (go_simp; rfl)); intro gb124 hg w7 hbox hb; have n0_ := aq (below_step (by repeat (first | (with_reducible first | exact HB.out | apply below_alloc | apply pw_below_drewN | apply below_drew1) | exact HB.out)) hb); have n1_ := aq (hbox); have n2_ := aq ((by rw [hg]; exact (below_size (by repeat (first | (with_reducible first | exact HB.out | apply below_alloc | apply pw_below_drewN | apply below_drew1) | exact HB.out))) : w.heap.size ≤ gb124)); have n3_ := aq ((by rw [hg]; exact (below_size (by repeat (first | (with_reducible first | exact HB.out | apply below_alloc | apply pw_below_drewN | apply below_drew1) | exact HB.out))) : w.heap.size ≤ gb124)); clear HB; have HB := n0_; have BK124 := n1_; have GW124 := n2_; have GE124 := n3_; clear n0_ n1_ n2_ n3_; clear hb hbox hg; obtain ⟨hcz8_0, hcz8_1, hcz8_2⟩ := cells3_ BK124.out; have hfz8_0 := fun j => blk_frozen BK124.out j))
  repeat (go_quiet (first | (go_at_call 145; (with_reducible refine (mask_Is.calls k a0 true _ A2.out).mono ?_); rintro e w5 ⟨rfl, hb⟩; have n0_ := aq (below_step (by repeat (first | (with_reducible first | exact HB.out | apply below_alloc | apply pw_below_drewN | apply below_drew1) | exact HB.out)) hb); clear HB; have HB := n0_; clear n0_; (try clear hb); (try clear hb2); (try clear hk); (try clear hi)) | (go_at_call 220; (with_reducible refine (mask_tell.calls k a0 t121 t122 t123 _ A4.out).mono ?_); rintro e w6 ⟨rfl, hb⟩; have n0_ := aq (below_step (by repeat (first | (with_reducible first | exact HB.out | apply below_alloc | apply pw_below_drewN | apply below_drew1) | exact HB.out)) hb); clear HB; have HB := n0_; clear n0_; (try clear hb); (try clear hb2); (try clear hk); (try clear hi)) | ((with_reducible refine gate_dst (N := 6) rfl ?_); refine box_event ?hg (N := 6) ?hd (cs := #[.int .i64 0, .int .i64 0, .int .i64 0]) (t := 277) ?hr ?_; (case hd => rfl); (case hg => rfl); (case hr => first | (go_simp; done) | (go_simp; rfl)); intro gb124 hg w7 hbox hb; have n0_ := aq (below_step (by repeat (first | (with_reducible first | exact HB.out | apply below_alloc | apply pw_below_drewN | apply below_drew1) | exact HB.out)) hb); have n1_ := aq (hbox); have n2_ := aq ((by rw [hg]; exact (below_size (by repeat (first | (with_reducible first | exact HB.out | apply below_alloc | apply pw_below_drewN | apply below_drew1) | exact HB.out))) : w.heap.size ≤ gb124)); have n3_ := aq ((by rw [hg]; exact (below_size (by repeat (first | (with_reducible first | exact HB.out | apply below_alloc | apply pw_below_drewN | apply below_drew1) | exact HB.out))) : w.heap.size ≤ gb124)); clear HB; have HB := n0_; have BK124 := n1_; have GW124 := n2_; have GE124 := n3_; clear n0_ n1_ n2_ n3_; clear hb hbox hg; obtain ⟨hcz8_0, hcz8_1, hcz8_2⟩ := cells3_ BK124.out; have hfz8_0 := fun j => blk_frozen BK124.out j)); try go_wp2_with (first | (go_at_call 145; (with_reducible refine (mask_Is.calls k a0 true _ A2.out).mono ?_); rintro e w5 ⟨rfl, hb⟩; have n0_ := aq (below_step (by repeat (first | (with_reducible first | exact HB.out | apply below_alloc | apply pw_below_drewN | apply below_drew1) | exact HB.out)) hb); clear HB; have HB := n0_; clear n0_; (try clear hb); (try clear hb2); (try clear hk); (try clear hi)) | (go_at_call 220; (with_reducible refine (mask_tell.calls k a0 t121 t122 t123 _ A4.out).mono ?_); rintro e w6 ⟨rfl, hb⟩; have n0_ := aq (below_step (by repeat (first | (with_reducible first | exact HB.out | apply below_alloc | apply pw_below_drewN | apply below_drew1) | exact HB.out)) hb); clear HB; have HB := n0_; clear n0_; (try clear hb); (try clear hb2); (try clear hk); (try clear hi)) | ((with_reducible refine gate_dst (N := 6) rfl ?_); refine box_event ?hg (N := 6) ?hd (cs := #[.int .i64 0, .int .i64 0, .int .i64 0]) (t := 277) ?hr ?_; (case hd => rfl); (case hg => rfl); (case hr => first | (go_simp; done) | (go_simp; rfl)); intro gb124 hg w7 hbox hb; have n0_ := aq (below_step (by repeat (first | (with_reducible first | exact HB.out | apply below_alloc | apply pw_below_drewN | apply below_drew1) | exact HB.out)) hb); have n1_ := aq (hbox); have n2_ := aq ((by rw [hg]; exact (below_size (by repeat (first | (with_reducible first | exact HB.out | apply below_alloc | apply pw_below_drewN | apply below_drew1) | exact HB.out))) : w.heap.size ≤ gb124)); have n3_ := aq ((by rw [hg]; exact (below_size (by repeat (first | (with_reducible first | exact HB.out | apply below_alloc | apply pw_below_drewN | apply below_drew1) | exact HB.out))) : w.heap.size ≤ gb124)); clear HB; have HB := n0_; have BK124 := n1_; have GW124 := n2_; have GE124 := n3_; clear n0_ n1_ n2_ n3_; clear hb hbox hg; obtain ⟨hcz8_0, hcz8_1, hcz8_2⟩ := cells3_ BK124.out; have hfz8_0 := fun j => blk_frozen BK124.out j)))
  refine bodyPost_ret (results_list (rs := [.tmp 2, .tmp 3, .tmp 4, .tmp 5]) rfl (by simp) (.tmp (.tmp (.tmp (.tmp .nil))))) rfl ?_
  exact ⟨by first | rfl | (simp [errW_none, errW_some] <;> rfl) | (simp [*, errW_none, errW_some] <;> rfl), by repeat (first | (with_reducible first | exact HB.out | apply below_alloc | apply pw_below_drewN | apply below_drew1 | refine below_set ?_ GE124.out) | exact HB.out)⟩
 ·
  replace c3 := Bool.eq_false_iff.mpr c3
  subst c3
  have H1 : (some (0, 0, 0, 3)) = some (r1, r2, r3, r4) := by rw [if_neg (show ¬ (false = true) by decide)] at H; exact H
  clear H
  have H := H1
  clear H1
  simp only [Option.some.injEq, Prod.mk.injEq] at H
  obtain ⟨rfl, rfl, rfl, rfl⟩ := H
  go_enter Tryz.func231, Tryz.ntmps231
  go_wp2_with (first | (go_at_call 145; (with_reducible refine (mask_Is.calls k a0 false _ A2.out).mono ?_); rintro e w9 ⟨rfl, hb⟩; have n0_ := aq (below_step (by repeat (first | (with_reducible first | exact HB.out | apply below_alloc | apply pw_below_drewN | apply below_drew1) | exact HB.out)) hb); clear HB; have HB := n0_; clear n0_; (try clear hb); (try clear hb2); (try clear hk); (try clear hi)))
  repeat (go_quiet (first | (go_at_call 145; (with_reducible refine (mask_Is.calls k a0 false _ A2.out).mono ?_); rintro e w9 ⟨rfl, hb⟩; have n0_ := aq (below_step (by repeat (first | (with_reducible first | exact HB.out | apply below_alloc | apply pw_below_drewN | apply below_drew1) | exact HB.out)) hb); clear HB; have HB := n0_; clear n0_; (try clear hb); (try clear hb2); (try clear hk); (try clear hi))); try go_wp2_with (first | (go_at_call 145; (with_reducible refine (mask_Is.calls k a0 false _ A2.out).mono ?_); rintro e w9 ⟨rfl, hb⟩; have n0_ := aq (below_step (by repeat (first | (with_reducible first | exact HB.out | apply below_alloc | apply pw_below_drewN | apply below_drew1) | exact HB.out)) hb); clear HB; have HB := n0_; clear n0_; (try clear hb); (try clear hb2); (try clear hk); (try clear hi))))
  refine bodyPost_ret (results_list (rs := [.tmp 2, .tmp 3, .tmp 4, .tmp 5]) rfl (by simp) (.tmp (.tmp (.tmp (.tmp .nil))))) rfl ?_
  exact ⟨by first | rfl | (simp [errW_none, errW_some] <;> rfl) | (simp [*, errW_none, errW_some] <;> rfl), by repeat (first | (with_reducible first | exact HB.out | apply below_alloc | apply pw_below_drewN | apply below_drew1) | exact HB.out)⟩
def mask_askD.f (s size : Int) : Option Bool := if size < 64 then (mask_front.f size).bind fun f => some (decide (s ≥ f)) else some false
set_option maxHeartbeats 8000000 in
theorem mask_askD.calls (s size : Int) (r : Bool) (B : Nat) (w : World) (hc : w.cell? ⟨B, 0, none⟩ = some (.int .i64 s)) (h : mask_askD.f s size = some r) :
    Calls Tryz.prog 304 #[.int .i64 size, .pointer (some ⟨B, 0, none⟩)] w fun e w' => e = .returned (.bool r) ∧ Below w.heap.size w w' := by
  unfold mask_askD.f at h
  by_cases h64 : size < 64
  · rw [if_pos h64] at h
    obtain ⟨a, h1, h⟩ := Option.bind_eq_some_iff.mp h
    obtain rfl := Option.some.inj h
    have H1 := aq h1
    clear h h1
    have d : decide (size < 64) = true := decide_eq_true h64
    go_enter Tryz.func304, Tryz.ntmps304
    go_wp2
    go_quiet ((go_at_call 302; refine quiet_drawn (mask_front.calls _ _ _ H1.out)))
    all_goals go_wp2
    all_goals go_ret
    exact ⟨rfl, by repeat (first | exact Below.refl _ _ | apply below_drew | apply pw_below_drewN | apply below_alloc)⟩
  · rw [if_neg h64] at h
    obtain rfl := Option.some.inj h
    clear h
    have d : decide (size < 64) = false := decide_eq_false h64
    go_enter Tryz.func304, Tryz.ntmps304
    go_wp2
    go_quiet (fail)
    all_goals go_wp2
    all_goals go_ret
    exact ⟨rfl, by repeat (first | exact Below.refl _ _ | apply below_drew | apply pw_below_drewN | apply below_alloc)⟩
set_option maxHeartbeats 8000000 in
theorem mask_Decode.sizes (v : Int) (r : Int) (B : Nat) (w : World) (hc0 : w.cell? ⟨B, 0, none⟩ = some (.int .i64 v)) (h : mask_sizes.f (mask_askD.f v) = some r) :
    Calls Tryz.prog 303 #[.func (.func 304) #[] #[.pointer (some ⟨B, 0, none⟩)]] w fun e w' => e = .returned (.int .i64 r) ∧ Below w.heap.size w w' := by
  have hb0 := Below.refl w.heap.size w
  unfold mask_sizes.f at h
  go_enter Tryz.func303, Tryz.ntmps303
  go_wp2
  refine wp_loop_rounds 8 ?_
  obtain ⟨b0, h0, h⟩ := Option.bind_eq_some_iff.mp h
  have H0 := aq h0
  clear h0
  rw [rounds_succ]
  cases b0
  rotate_left
  · rw [if_pos rfl] at h
    obtain rfl := Option.some.inj h
    clear h
    go_wp2_with (first | (go_at_call 304; refine (mask_askD.calls v _ _ B _ hc0 H0.out).mono ?_; rintro e w1 ⟨rfl, hn1⟩; have hb1 := below_then hb0 hb0.size hn1; have hc1 := pw_cell_below hn1 hc0))
    go_ret
    exact ⟨rfl, hb1⟩
  rw [if_neg (by decide)] at h
  have H := aq h
  clear h
  go_wp2_with (first | (go_at_call 304; refine (mask_askD.calls v _ _ B _ hc0 H0.out).mono ?_; rintro e w1 ⟨rfl, hn1⟩; have hb1 := below_then hb0 hb0.size hn1; have hc1 := pw_cell_below hn1 hc0))
  replace h := H.out
  clear H
  obtain ⟨b1, h1, h⟩ := Option.bind_eq_some_iff.mp h
  have H1 := aq h1
  clear h1
  rw [rounds_succ]
  cases b1
  rotate_left
  · rw [if_pos rfl] at h
    obtain rfl := Option.some.inj h
    clear h
    go_wp2_with (first | (go_at_call 304; refine (mask_askD.calls v _ _ B _ hc1 H1.out).mono ?_; rintro e w2 ⟨rfl, hn2⟩; have hb2 := below_then hb1 hb1.size hn2; have hc2 := pw_cell_below hn2 hc1))
    go_ret
    exact ⟨rfl, hb2⟩
  rw [if_neg (by decide)] at h
  have H := aq h
  clear h
  go_wp2_with (first | (go_at_call 304; refine (mask_askD.calls v _ _ B _ hc1 H1.out).mono ?_; rintro e w2 ⟨rfl, hn2⟩; have hb2 := below_then hb1 hb1.size hn2; have hc2 := pw_cell_below hn2 hc1))
  replace h := H.out
  clear H
  obtain ⟨b2, h2, h⟩ := Option.bind_eq_some_iff.mp h
  have H2 := aq h2
  clear h2
  rw [rounds_succ]
  cases b2
  rotate_left
  · rw [if_pos rfl] at h
    obtain rfl := Option.some.inj h
    clear h
    go_wp2_with (first | (go_at_call 304; refine (mask_askD.calls v _ _ B _ hc2 H2.out).mono ?_; rintro e w3 ⟨rfl, hn3⟩; have hb3 := below_then hb2 hb2.size hn3; have hc3 := pw_cell_below hn3 hc2))
    go_ret
    exact ⟨rfl, hb3⟩
  rw [if_neg (by decide)] at h
  have H := aq h
  clear h
  go_wp2_with (first | (go_at_call 304; refine (mask_askD.calls v _ _ B _ hc2 H2.out).mono ?_; rintro e w3 ⟨rfl, hn3⟩; have hb3 := below_then hb2 hb2.size hn3; have hc3 := pw_cell_below hn3 hc2))
  replace h := H.out
  clear H
  obtain ⟨b3, h3, h⟩ := Option.bind_eq_some_iff.mp h
  have H3 := aq h3
  clear h3
  rw [rounds_succ]
  cases b3
  rotate_left
  · rw [if_pos rfl] at h
    obtain rfl := Option.some.inj h
    clear h
    go_wp2_with (first | (go_at_call 304; refine (mask_askD.calls v _ _ B _ hc3 H3.out).mono ?_; rintro e w4 ⟨rfl, hn4⟩; have hb4 := below_then hb3 hb3.size hn4; have hc4 := pw_cell_below hn4 hc3))
    go_ret
    exact ⟨rfl, hb4⟩
  rw [if_neg (by decide)] at h
  have H := aq h
  clear h
  go_wp2_with (first | (go_at_call 304; refine (mask_askD.calls v _ _ B _ hc3 H3.out).mono ?_; rintro e w4 ⟨rfl, hn4⟩; have hb4 := below_then hb3 hb3.size hn4; have hc4 := pw_cell_below hn4 hc3))
  replace h := H.out
  clear H
  obtain ⟨b4, h4, h⟩ := Option.bind_eq_some_iff.mp h
  have H4 := aq h4
  clear h4
  rw [rounds_succ]
  cases b4
  rotate_left
  · rw [if_pos rfl] at h
    obtain rfl := Option.some.inj h
    clear h
    go_wp2_with (first | (go_at_call 304; refine (mask_askD.calls v _ _ B _ hc4 H4.out).mono ?_; rintro e w5 ⟨rfl, hn5⟩; have hb5 := below_then hb4 hb4.size hn5; have hc5 := pw_cell_below hn5 hc4))
    go_ret
    exact ⟨rfl, hb5⟩
  rw [if_neg (by decide)] at h
  have H := aq h
  clear h
  go_wp2_with (first | (go_at_call 304; refine (mask_askD.calls v _ _ B _ hc4 H4.out).mono ?_; rintro e w5 ⟨rfl, hn5⟩; have hb5 := below_then hb4 hb4.size hn5; have hc5 := pw_cell_below hn5 hc4))
  replace h := H.out
  clear H
  obtain ⟨b5, h5, h⟩ := Option.bind_eq_some_iff.mp h
  have H5 := aq h5
  clear h5
  rw [rounds_succ]
  cases b5
  rotate_left
  · rw [if_pos rfl] at h
    obtain rfl := Option.some.inj h
    clear h
    go_wp2_with (first | (go_at_call 304; refine (mask_askD.calls v _ _ B _ hc5 H5.out).mono ?_; rintro e w6 ⟨rfl, hn6⟩; have hb6 := below_then hb5 hb5.size hn6; have hc6 := pw_cell_below hn6 hc5))
    go_ret
    exact ⟨rfl, hb6⟩
  rw [if_neg (by decide)] at h
  have H := aq h
  clear h
  go_wp2_with (first | (go_at_call 304; refine (mask_askD.calls v _ _ B _ hc5 H5.out).mono ?_; rintro e w6 ⟨rfl, hn6⟩; have hb6 := below_then hb5 hb5.size hn6; have hc6 := pw_cell_below hn6 hc5))
  replace h := H.out
  clear H
  obtain rfl := Option.some.inj h
  rw [rounds_succ]
  go_wp2
  go_ret
  exact ⟨rfl, hb6⟩
def mask_Decode.size (a0 a2 : Int) : Option Int := if a0 = 0 then mask_sizes.f (mask_askD.f a2) else some 64
def mask_Decode.f (k : Nat) (a0 a1 a2 : Int) : Option (Int × Int) :=
  if 0 ≤ mn (mn a0 a1) a2 ∧ a0 ≤ 1 ∧ mx a1 a2 < 64 then (mask_Decode.size a0 a2).bind fun z => (mask_front.f z).bind fun fr =>
    if 1 ≤ wrap64 (wrap64 (a2 - fr) + 1) ∧ wrap64 (wrap64 (a2 - fr) + 1) < z ∧ a1 < z then
      (bits_Low.f 18446744073709551615 (wrap64 (wrap64 (a2 - fr) + 1))).bind fun u => (bits_Rotate.f k u a1 z).bind fun p => (mask_again.f k p.1 z).bind fun v => some (v, p.2)
    else some (0, 3)
  else some (0, 1)
theorem mask_Decode.mono : ∀ a0 a1 a2 k, LeO (mask_Decode.f k a0 a1 a2) (mask_Decode.f (k + 1) a0 a1 a2) := by
  intro a0 a1 a2 k
  unfold mask_Decode.f
  repeat' first
    | with_reducible exact LeO.refl _
    | with_reducible exact bits_Rotate.mono _ _ _ _
    | with_reducible exact mask_again.mono _ _ _
    | with_reducible refine LeO.ite ?_ ?_
    | with_reducible refine LeO.bind ?_ (fun _ => ?_)
set_option maxHeartbeats 8000000 in
theorem mask_Decode.calls (k : Nat) (a0 a1 a2 : Int) (r1 r2 : Int) (w : World) (h : mask_Decode.f k a0 a1 a2 = some (r1, r2)) :
    Calls Tryz.prog 234 #[.int .i64 a0, .int .i64 a1, .int .i64 a2] w fun e w' => e = .returned (.tuple #[.int .u64 r1, .int .i64 r2]) ∧ Below w.heap.size w w' := by
  unfold mask_Decode.f at h
  obtain ⟨m1, hm1⟩ : ∃ m1, mn a0 a1 = m1 := ⟨_, rfl⟩
  obtain ⟨m2, hm2⟩ : ∃ m2, mn m1 a2 = m2 := ⟨_, rfl⟩
  obtain ⟨m3, hm3⟩ : ∃ m3, mx a1 a2 = m3 := ⟨_, rfl⟩
  rw [hm1, hm2, hm3] at h
  have hm1_ : (if a1 < a0 then a1 else a0) = m1 := hm1
  have hm2_ : (if a2 < m1 then a2 else m1) = m2 := hm2
  have hm3_ : (if a1 < a2 then a2 else a1) = m3 := hm3
  clear hm1 hm2 hm3
  have hA := fun o => below_alloc (Below.refl w.heap.size w) o
  have hA1 := hA (.cells #[.int .i64 a2] 3)
  have hN : (w.alloc (.cells #[.int .i64 a2] 3)).cell? ⟨w.heap.size, 0, none⟩ = some (.int .i64 a2) := by simp
  by_cases hin : 0 ≤ m2 ∧ a0 ≤ 1 ∧ m3 < 64
  · rw [if_pos hin] at h
    obtain ⟨hi1, hi2, hi3⟩ := hin
    obtain ⟨z, hz, h⟩ := Option.bind_eq_some_iff.mp h
    obtain ⟨fr, hfr, h⟩ := Option.bind_eq_some_iff.mp h
    have HZ := aq hz
    have HF := aq hfr
    have H := aq h
    clear h hz hfr
    obtain ⟨o, ho⟩ : ∃ o, wrap64 (wrap64 (a2 - fr) + 1) = o := ⟨_, rfl⟩
    have H2 := H.out
    rw [ho] at H2
    clear H
    by_cases hz0 : a0 = 0
    · subst hz0
      by_cases hok : 1 ≤ o ∧ o < z ∧ a1 < z
      · rw [if_pos hok] at H2
        obtain ⟨ho1, ho2, ho3⟩ := hok
        obtain ⟨u, h1, H2⟩ := Option.bind_eq_some_iff.mp H2
        obtain ⟨p, h2, H2⟩ := Option.bind_eq_some_iff.mp H2
        obtain ⟨v, h3, H2⟩ := Option.bind_eq_some_iff.mp H2
        obtain ⟨p1, p2⟩ := p
        obtain ⟨rfl, rfl⟩ := Prod.mk.inj (Option.some.inj H2)
        have G1 := aq h1
        have G2 := aq h2
        have G3 := aq h3
        clear H2 h1 h2 h3
        go_enter Tryz.func234, Tryz.ntmps234
        go_wp2_with (first | (go_at_call 303; refine (mask_Decode.sizes a2 z w.heap.size _ hN HZ.out).mono ?_; rintro e w1 ⟨rfl, hb1⟩; have hc1 := pw_cell_below hb1 hN))
        all_goals go_quiet ((go_at_call 302; refine quiet_drawn (mask_front.calls _ _ _ HF.out)))
        go_wp2_with (first | (go_at_call 165; refine (bits_Low.calls _ _ _ _ G1.out).mono ?_; rintro e w2 ⟨rfl, hb2⟩) | (go_at_call 301; refine (bits_Rotate.calls _ _ _ _ _ _ _ G2.out).mono ?_; rintro e w3 ⟨rfl, hb3⟩) | (go_at_call 305; refine (mask_again.calls _ _ _ _ _ G3.out).mono ?_; rintro e w4 ⟨rfl, ⟨n4, rfl⟩⟩))
        go_ret2
        have B1 := fun n => pw_below_drewN (below_then hA1 hA1.size hb1) n
        have B2 := below_then (B1 _) (B1 _).size hb2
        exact ⟨rfl, pw_below_drewN (below_then B2 B2.size hb3) _⟩
      · rw [if_neg hok] at H2
        obtain ⟨rfl, rfl⟩ := Prod.mk.inj (Option.some.inj H2)
        clear H2
        rcases Int.lt_or_le o 1 with c1 | c1
        · go_enter Tryz.func234, Tryz.ntmps234
          go_wp2_with (first | (go_at_call 303; refine (mask_Decode.sizes a2 z w.heap.size _ hN HZ.out).mono ?_; rintro e w1 ⟨rfl, hb1⟩; have hc1 := pw_cell_below hb1 hN))
          all_goals go_quiet ((go_at_call 302; refine quiet_drawn (mask_front.calls _ _ _ HF.out)))
          all_goals go_wp2
          all_goals go_ret2
          all_goals exact ⟨rfl, pw_below_drewN (below_then hA1 hA1.size hb1) _⟩
        · rcases Int.lt_or_le o z with c2 | c2
          · have c3 : z ≤ a1 := by omega
            go_enter Tryz.func234, Tryz.ntmps234
            go_wp2_with (first | (go_at_call 303; refine (mask_Decode.sizes a2 z w.heap.size _ hN HZ.out).mono ?_; rintro e w1 ⟨rfl, hb1⟩; have hc1 := pw_cell_below hb1 hN))
            all_goals go_quiet ((go_at_call 302; refine quiet_drawn (mask_front.calls _ _ _ HF.out)))
            all_goals go_wp2
            all_goals go_ret2
            all_goals exact ⟨rfl, pw_below_drewN (below_then hA1 hA1.size hb1) _⟩
          · go_enter Tryz.func234, Tryz.ntmps234
            go_wp2_with (first | (go_at_call 303; refine (mask_Decode.sizes a2 z w.heap.size _ hN HZ.out).mono ?_; rintro e w1 ⟨rfl, hb1⟩; have hc1 := pw_cell_below hb1 hN))
            all_goals go_quiet ((go_at_call 302; refine quiet_drawn (mask_front.calls _ _ _ HF.out)))
            all_goals go_wp2
            all_goals go_ret2
            all_goals exact ⟨rfl, pw_below_drewN (below_then hA1 hA1.size hb1) _⟩
    · have hzz : ¬ a0 = 0 := hz0
      obtain rfl : z = 64 := by have := HZ.out; unfold mask_Decode.size at this; rw [if_neg hz0] at this; exact (Option.some.inj this).symm
      by_cases hok : 1 ≤ o ∧ o < 64 ∧ a1 < 64
      · rw [if_pos hok] at H2
        obtain ⟨ho1, ho2, ho3⟩ := hok
        obtain ⟨u, h1, H2⟩ := Option.bind_eq_some_iff.mp H2
        obtain ⟨p, h2, H2⟩ := Option.bind_eq_some_iff.mp H2
        obtain ⟨v, h3, H2⟩ := Option.bind_eq_some_iff.mp H2
        obtain ⟨p1, p2⟩ := p
        obtain ⟨rfl, rfl⟩ := Prod.mk.inj (Option.some.inj H2)
        have G1 := aq h1
        have G2 := aq h2
        have G3 := aq h3
        clear H2 h1 h2 h3
        go_enter Tryz.func234, Tryz.ntmps234
        go_wp2
        all_goals go_quiet ((go_at_call 302; refine quiet_drawn (mask_front.calls _ _ _ HF.out)))
        go_wp2_with (first | (go_at_call 165; refine (bits_Low.calls _ _ _ _ G1.out).mono ?_; rintro e w2 ⟨rfl, hb2⟩) | (go_at_call 301; refine (bits_Rotate.calls _ _ _ _ _ _ _ G2.out).mono ?_; rintro e w3 ⟨rfl, hb3⟩) | (go_at_call 305; refine (mask_again.calls _ _ _ _ _ G3.out).mono ?_; rintro e w4 ⟨rfl, ⟨n4, rfl⟩⟩))
        go_ret2
        have B1 := fun n => pw_below_drewN hA1 n
        have B2 := below_then (B1 _) (B1 _).size hb2
        exact ⟨rfl, pw_below_drewN (below_then B2 B2.size hb3) _⟩
      · rw [if_neg hok] at H2
        obtain ⟨rfl, rfl⟩ := Prod.mk.inj (Option.some.inj H2)
        clear H2
        rcases Int.lt_or_le o 1 with c1 | c1
        · go_enter Tryz.func234, Tryz.ntmps234
          go_wp2
          all_goals go_quiet ((go_at_call 302; refine quiet_drawn (mask_front.calls _ _ _ HF.out)))
          all_goals go_wp2
          all_goals go_ret2
          all_goals exact ⟨rfl, pw_below_drewN hA1 _⟩
        · rcases Int.lt_or_le o 64 with c2 | c2
          · have c3 : 64 ≤ a1 := by omega
            go_enter Tryz.func234, Tryz.ntmps234
            go_wp2
            all_goals go_quiet ((go_at_call 302; refine quiet_drawn (mask_front.calls _ _ _ HF.out)))
            all_goals go_wp2
            all_goals go_ret2
            all_goals exact ⟨rfl, pw_below_drewN hA1 _⟩
          · go_enter Tryz.func234, Tryz.ntmps234
            go_wp2
            all_goals go_quiet ((go_at_call 302; refine quiet_drawn (mask_front.calls _ _ _ HF.out)))
            all_goals go_wp2
            all_goals go_ret2
            all_goals exact ⟨rfl, pw_below_drewN hA1 _⟩
  · have hz : m2 < 0 ∨ 1 < a0 ∨ 64 ≤ m3 := by omega
    rw [if_neg hin] at h
    obtain ⟨rfl, rfl⟩ := Prod.mk.inj (Option.some.inj h)
    clear h hin
    rcases Int.lt_or_le m2 0 with c1 | c1
    · go_enter Tryz.func234, Tryz.ntmps234
      go_wp2
      go_ret2
      exact ⟨rfl, hA _⟩
    · rcases Int.lt_or_le 1 a0 with c2 | c2
      · go_enter Tryz.func234, Tryz.ntmps234
        go_wp2
        go_ret2
        exact ⟨rfl, hA _⟩
      · have c3 : 64 ≤ m3 := by omega
        go_enter Tryz.func234, Tryz.ntmps234
        go_wp2
        go_ret2
        exact ⟨rfl, hA _⟩
def inst_nameL : List ByteArray := [⟨#[]⟩, ⟨#[109, 111, 118, 122]⟩, ⟨#[109, 111, 118, 110]⟩, ⟨#[109, 111, 118, 107]⟩, ⟨#[97, 100, 100]⟩, ⟨#[115, 117, 98]⟩, ⟨#[97, 100, 100, 115]⟩, ⟨#[115, 117, 98, 115]⟩, ⟨#[97, 110, 100]⟩, ⟨#[111, 114, 114]⟩, ⟨#[101, 111, 114]⟩, ⟨#[97, 110, 100, 115]⟩, ⟨#[97, 100, 100]⟩, ⟨#[115, 117, 98]⟩, ⟨#[97, 100, 100, 115]⟩, ⟨#[115, 117, 98, 115]⟩, ⟨#[97, 110, 100]⟩, ⟨#[111, 114, 114]⟩, ⟨#[101, 111, 114]⟩, ⟨#[97, 110, 100, 115]⟩, ⟨#[109, 97, 100, 100]⟩, ⟨#[109, 115, 117, 98]⟩, ⟨#[108, 100, 114]⟩, ⟨#[115, 116, 114]⟩, ⟨#[108, 100, 114, 98]⟩, ⟨#[115, 116, 114, 98]⟩, ⟨#[108, 100, 114]⟩, ⟨#[97, 100, 114]⟩, ⟨#[97, 100, 114, 112]⟩, ⟨#[98]⟩, ⟨#[98, 108]⟩, ⟨#[98]⟩, ⟨#[99, 98, 122]⟩, ⟨#[99, 98, 110, 122]⟩, ⟨#[98, 114]⟩, ⟨#[98, 108, 114]⟩, ⟨#[114, 101, 116]⟩, ⟨#[115, 118, 99]⟩, ⟨#[110, 111, 112]⟩, ⟨#[99, 115, 101, 108]⟩]
def inst_shapeL : List Int := [0, 1, 1, 1, 2, 2, 2, 2, 3, 3, 3, 3, 4, 4, 4, 4, 5, 5, 5, 5, 6, 6, 7, 7, 8, 8, 9, 10, 10, 11, 11, 12, 9, 9, 13, 13, 13, 14, 15, 16]
def inst_name (i : Nat) : ByteArray := inst_nameL.getD i ⟨#[]⟩
def inst_shape (i : Nat) : Int := inst_shapeL.getD i 0
def inst_op (i : Nat) : Value := .agg #[.string (inst_name i), .int .i64 (inst_shape i)]
def inst_cells : Array Value := #[.string ⟨#[]⟩, .int .i64 0, .string ⟨#[109, 111, 118, 122]⟩, .int .i64 1, .string ⟨#[109, 111, 118, 110]⟩, .int .i64 1, .string ⟨#[109, 111, 118, 107]⟩, .int .i64 1, .string ⟨#[97, 100, 100]⟩, .int .i64 2, .string ⟨#[115, 117, 98]⟩, .int .i64 2, .string ⟨#[97, 100, 100, 115]⟩, .int .i64 2, .string ⟨#[115, 117, 98, 115]⟩, .int .i64 2, .string ⟨#[97, 110, 100]⟩, .int .i64 3, .string ⟨#[111, 114, 114]⟩, .int .i64 3, .string ⟨#[101, 111, 114]⟩, .int .i64 3, .string ⟨#[97, 110, 100, 115]⟩, .int .i64 3, .string ⟨#[97, 100, 100]⟩, .int .i64 4, .string ⟨#[115, 117, 98]⟩, .int .i64 4, .string ⟨#[97, 100, 100, 115]⟩, .int .i64 4, .string ⟨#[115, 117, 98, 115]⟩, .int .i64 4, .string ⟨#[97, 110, 100]⟩, .int .i64 5, .string ⟨#[111, 114, 114]⟩, .int .i64 5, .string ⟨#[101, 111, 114]⟩, .int .i64 5, .string ⟨#[97, 110, 100, 115]⟩, .int .i64 5, .string ⟨#[109, 97, 100, 100]⟩, .int .i64 6, .string ⟨#[109, 115, 117, 98]⟩, .int .i64 6, .string ⟨#[108, 100, 114]⟩, .int .i64 7, .string ⟨#[115, 116, 114]⟩, .int .i64 7, .string ⟨#[108, 100, 114, 98]⟩, .int .i64 8, .string ⟨#[115, 116, 114, 98]⟩, .int .i64 8, .string ⟨#[108, 100, 114]⟩, .int .i64 9, .string ⟨#[97, 100, 114]⟩, .int .i64 10, .string ⟨#[97, 100, 114, 112]⟩, .int .i64 10, .string ⟨#[98]⟩, .int .i64 11, .string ⟨#[98, 108]⟩, .int .i64 11, .string ⟨#[98]⟩, .int .i64 12, .string ⟨#[99, 98, 122]⟩, .int .i64 9, .string ⟨#[99, 98, 110, 122]⟩, .int .i64 9, .string ⟨#[98, 114]⟩, .int .i64 13, .string ⟨#[98, 108, 114]⟩, .int .i64 13, .string ⟨#[114, 101, 116]⟩, .int .i64 13, .string ⟨#[115, 118, 99]⟩, .int .i64 14, .string ⟨#[110, 111, 112]⟩, .int .i64 15, .string ⟨#[99, 115, 101, 108]⟩, .int .i64 16]
def inst_zeros : Array Value := #[.string ⟨#[]⟩, .int .i64 0, .string ⟨#[]⟩, .int .i64 0, .string ⟨#[]⟩, .int .i64 0, .string ⟨#[]⟩, .int .i64 0, .string ⟨#[]⟩, .int .i64 0, .string ⟨#[]⟩, .int .i64 0, .string ⟨#[]⟩, .int .i64 0, .string ⟨#[]⟩, .int .i64 0, .string ⟨#[]⟩, .int .i64 0, .string ⟨#[]⟩, .int .i64 0, .string ⟨#[]⟩, .int .i64 0, .string ⟨#[]⟩, .int .i64 0, .string ⟨#[]⟩, .int .i64 0, .string ⟨#[]⟩, .int .i64 0, .string ⟨#[]⟩, .int .i64 0, .string ⟨#[]⟩, .int .i64 0, .string ⟨#[]⟩, .int .i64 0, .string ⟨#[]⟩, .int .i64 0, .string ⟨#[]⟩, .int .i64 0, .string ⟨#[]⟩, .int .i64 0, .string ⟨#[]⟩, .int .i64 0, .string ⟨#[]⟩, .int .i64 0, .string ⟨#[]⟩, .int .i64 0, .string ⟨#[]⟩, .int .i64 0, .string ⟨#[]⟩, .int .i64 0, .string ⟨#[]⟩, .int .i64 0, .string ⟨#[]⟩, .int .i64 0, .string ⟨#[]⟩, .int .i64 0, .string ⟨#[]⟩, .int .i64 0, .string ⟨#[]⟩, .int .i64 0, .string ⟨#[]⟩, .int .i64 0, .string ⟨#[]⟩, .int .i64 0, .string ⟨#[]⟩, .int .i64 0, .string ⟨#[]⟩, .int .i64 0, .string ⟨#[]⟩, .int .i64 0, .string ⟨#[]⟩, .int .i64 0, .string ⟨#[]⟩, .int .i64 0, .string ⟨#[]⟩, .int .i64 0, .string ⟨#[]⟩, .int .i64 0, .string ⟨#[]⟩, .int .i64 0]
theorem inst_zero : (Tryz.prog.info? 153).map (fun i => (i.zero, i.size)) = some (some (.agg inst_zeros), 80) := by kernel_rfl
theorem inst_cells_one : inst_cells.all (·.oneCell') = true := by decide +kernel
theorem inst_build0 (W : World) : (Instr.build 152 #[]).run Tryz.prog W = .ok (inst_op 0) W := run_build W _ _ _ (by kernel_rfl)
theorem inst_build1 (W : World) : (Instr.build 152 #[(0, .string ⟨#[109, 111, 118, 122]⟩), (1, .int .i64 1)]).run Tryz.prog W = .ok (inst_op 1) W := run_build W _ _ _ (by kernel_rfl)
theorem inst_build2 (W : World) : (Instr.build 152 #[(0, .string ⟨#[109, 111, 118, 110]⟩), (1, .int .i64 1)]).run Tryz.prog W = .ok (inst_op 2) W := run_build W _ _ _ (by kernel_rfl)
theorem inst_build3 (W : World) : (Instr.build 152 #[(0, .string ⟨#[109, 111, 118, 107]⟩), (1, .int .i64 1)]).run Tryz.prog W = .ok (inst_op 3) W := run_build W _ _ _ (by kernel_rfl)
theorem inst_build4 (W : World) : (Instr.build 152 #[(0, .string ⟨#[97, 100, 100]⟩), (1, .int .i64 2)]).run Tryz.prog W = .ok (inst_op 4) W := run_build W _ _ _ (by kernel_rfl)
theorem inst_build5 (W : World) : (Instr.build 152 #[(0, .string ⟨#[115, 117, 98]⟩), (1, .int .i64 2)]).run Tryz.prog W = .ok (inst_op 5) W := run_build W _ _ _ (by kernel_rfl)
theorem inst_build6 (W : World) : (Instr.build 152 #[(0, .string ⟨#[97, 100, 100, 115]⟩), (1, .int .i64 2)]).run Tryz.prog W = .ok (inst_op 6) W := run_build W _ _ _ (by kernel_rfl)
theorem inst_build7 (W : World) : (Instr.build 152 #[(0, .string ⟨#[115, 117, 98, 115]⟩), (1, .int .i64 2)]).run Tryz.prog W = .ok (inst_op 7) W := run_build W _ _ _ (by kernel_rfl)
theorem inst_build8 (W : World) : (Instr.build 152 #[(0, .string ⟨#[97, 110, 100]⟩), (1, .int .i64 3)]).run Tryz.prog W = .ok (inst_op 8) W := run_build W _ _ _ (by kernel_rfl)
theorem inst_build9 (W : World) : (Instr.build 152 #[(0, .string ⟨#[111, 114, 114]⟩), (1, .int .i64 3)]).run Tryz.prog W = .ok (inst_op 9) W := run_build W _ _ _ (by kernel_rfl)
theorem inst_build10 (W : World) : (Instr.build 152 #[(0, .string ⟨#[101, 111, 114]⟩), (1, .int .i64 3)]).run Tryz.prog W = .ok (inst_op 10) W := run_build W _ _ _ (by kernel_rfl)
theorem inst_build11 (W : World) : (Instr.build 152 #[(0, .string ⟨#[97, 110, 100, 115]⟩), (1, .int .i64 3)]).run Tryz.prog W = .ok (inst_op 11) W := run_build W _ _ _ (by kernel_rfl)
theorem inst_build12 (W : World) : (Instr.build 152 #[(0, .string ⟨#[97, 100, 100]⟩), (1, .int .i64 4)]).run Tryz.prog W = .ok (inst_op 12) W := run_build W _ _ _ (by kernel_rfl)
theorem inst_build13 (W : World) : (Instr.build 152 #[(0, .string ⟨#[115, 117, 98]⟩), (1, .int .i64 4)]).run Tryz.prog W = .ok (inst_op 13) W := run_build W _ _ _ (by kernel_rfl)
theorem inst_build14 (W : World) : (Instr.build 152 #[(0, .string ⟨#[97, 100, 100, 115]⟩), (1, .int .i64 4)]).run Tryz.prog W = .ok (inst_op 14) W := run_build W _ _ _ (by kernel_rfl)
theorem inst_build15 (W : World) : (Instr.build 152 #[(0, .string ⟨#[115, 117, 98, 115]⟩), (1, .int .i64 4)]).run Tryz.prog W = .ok (inst_op 15) W := run_build W _ _ _ (by kernel_rfl)
theorem inst_build16 (W : World) : (Instr.build 152 #[(0, .string ⟨#[97, 110, 100]⟩), (1, .int .i64 5)]).run Tryz.prog W = .ok (inst_op 16) W := run_build W _ _ _ (by kernel_rfl)
theorem inst_build17 (W : World) : (Instr.build 152 #[(0, .string ⟨#[111, 114, 114]⟩), (1, .int .i64 5)]).run Tryz.prog W = .ok (inst_op 17) W := run_build W _ _ _ (by kernel_rfl)
theorem inst_build18 (W : World) : (Instr.build 152 #[(0, .string ⟨#[101, 111, 114]⟩), (1, .int .i64 5)]).run Tryz.prog W = .ok (inst_op 18) W := run_build W _ _ _ (by kernel_rfl)
theorem inst_build19 (W : World) : (Instr.build 152 #[(0, .string ⟨#[97, 110, 100, 115]⟩), (1, .int .i64 5)]).run Tryz.prog W = .ok (inst_op 19) W := run_build W _ _ _ (by kernel_rfl)
theorem inst_build20 (W : World) : (Instr.build 152 #[(0, .string ⟨#[109, 97, 100, 100]⟩), (1, .int .i64 6)]).run Tryz.prog W = .ok (inst_op 20) W := run_build W _ _ _ (by kernel_rfl)
theorem inst_build21 (W : World) : (Instr.build 152 #[(0, .string ⟨#[109, 115, 117, 98]⟩), (1, .int .i64 6)]).run Tryz.prog W = .ok (inst_op 21) W := run_build W _ _ _ (by kernel_rfl)
theorem inst_build22 (W : World) : (Instr.build 152 #[(0, .string ⟨#[108, 100, 114]⟩), (1, .int .i64 7)]).run Tryz.prog W = .ok (inst_op 22) W := run_build W _ _ _ (by kernel_rfl)
theorem inst_build23 (W : World) : (Instr.build 152 #[(0, .string ⟨#[115, 116, 114]⟩), (1, .int .i64 7)]).run Tryz.prog W = .ok (inst_op 23) W := run_build W _ _ _ (by kernel_rfl)
theorem inst_build24 (W : World) : (Instr.build 152 #[(0, .string ⟨#[108, 100, 114, 98]⟩), (1, .int .i64 8)]).run Tryz.prog W = .ok (inst_op 24) W := run_build W _ _ _ (by kernel_rfl)
theorem inst_build25 (W : World) : (Instr.build 152 #[(0, .string ⟨#[115, 116, 114, 98]⟩), (1, .int .i64 8)]).run Tryz.prog W = .ok (inst_op 25) W := run_build W _ _ _ (by kernel_rfl)
theorem inst_build26 (W : World) : (Instr.build 152 #[(0, .string ⟨#[108, 100, 114]⟩), (1, .int .i64 9)]).run Tryz.prog W = .ok (inst_op 26) W := run_build W _ _ _ (by kernel_rfl)
theorem inst_build27 (W : World) : (Instr.build 152 #[(0, .string ⟨#[97, 100, 114]⟩), (1, .int .i64 10)]).run Tryz.prog W = .ok (inst_op 27) W := run_build W _ _ _ (by kernel_rfl)
theorem inst_build28 (W : World) : (Instr.build 152 #[(0, .string ⟨#[97, 100, 114, 112]⟩), (1, .int .i64 10)]).run Tryz.prog W = .ok (inst_op 28) W := run_build W _ _ _ (by kernel_rfl)
theorem inst_build29 (W : World) : (Instr.build 152 #[(0, .string ⟨#[98]⟩), (1, .int .i64 11)]).run Tryz.prog W = .ok (inst_op 29) W := run_build W _ _ _ (by kernel_rfl)
theorem inst_build30 (W : World) : (Instr.build 152 #[(0, .string ⟨#[98, 108]⟩), (1, .int .i64 11)]).run Tryz.prog W = .ok (inst_op 30) W := run_build W _ _ _ (by kernel_rfl)
theorem inst_build31 (W : World) : (Instr.build 152 #[(0, .string ⟨#[98]⟩), (1, .int .i64 12)]).run Tryz.prog W = .ok (inst_op 31) W := run_build W _ _ _ (by kernel_rfl)
theorem inst_build32 (W : World) : (Instr.build 152 #[(0, .string ⟨#[99, 98, 122]⟩), (1, .int .i64 9)]).run Tryz.prog W = .ok (inst_op 32) W := run_build W _ _ _ (by kernel_rfl)
theorem inst_build33 (W : World) : (Instr.build 152 #[(0, .string ⟨#[99, 98, 110, 122]⟩), (1, .int .i64 9)]).run Tryz.prog W = .ok (inst_op 33) W := run_build W _ _ _ (by kernel_rfl)
theorem inst_build34 (W : World) : (Instr.build 152 #[(0, .string ⟨#[98, 114]⟩), (1, .int .i64 13)]).run Tryz.prog W = .ok (inst_op 34) W := run_build W _ _ _ (by kernel_rfl)
theorem inst_build35 (W : World) : (Instr.build 152 #[(0, .string ⟨#[98, 108, 114]⟩), (1, .int .i64 13)]).run Tryz.prog W = .ok (inst_op 35) W := run_build W _ _ _ (by kernel_rfl)
theorem inst_build36 (W : World) : (Instr.build 152 #[(0, .string ⟨#[114, 101, 116]⟩), (1, .int .i64 13)]).run Tryz.prog W = .ok (inst_op 36) W := run_build W _ _ _ (by kernel_rfl)
theorem inst_build37 (W : World) : (Instr.build 152 #[(0, .string ⟨#[115, 118, 99]⟩), (1, .int .i64 14)]).run Tryz.prog W = .ok (inst_op 37) W := run_build W _ _ _ (by kernel_rfl)
theorem inst_build38 (W : World) : (Instr.build 152 #[(0, .string ⟨#[110, 111, 112]⟩), (1, .int .i64 15)]).run Tryz.prog W = .ok (inst_op 38) W := run_build W _ _ _ (by kernel_rfl)
theorem inst_build39 (W : World) : (Instr.build 152 #[(0, .string ⟨#[99, 115, 101, 108]⟩), (1, .int .i64 16)]).run Tryz.prog W = .ok (inst_op 39) W := run_build W _ _ _ (by kernel_rfl)
theorem inst_buildAll (W : World) : (Instr.build 153 #[(0, inst_op 0), (1, inst_op 1), (2, inst_op 2), (3, inst_op 3), (4, inst_op 4), (5, inst_op 5), (6, inst_op 6), (7, inst_op 7), (8, inst_op 8), (9, inst_op 9), (10, inst_op 10), (11, inst_op 11), (12, inst_op 12), (13, inst_op 13), (14, inst_op 14), (15, inst_op 15), (16, inst_op 16), (17, inst_op 17), (18, inst_op 18), (19, inst_op 19), (20, inst_op 20), (21, inst_op 21), (22, inst_op 22), (23, inst_op 23), (24, inst_op 24), (25, inst_op 25), (26, inst_op 26), (27, inst_op 27), (28, inst_op 28), (29, inst_op 29), (30, inst_op 30), (31, inst_op 31), (32, inst_op 32), (33, inst_op 33), (34, inst_op 34), (35, inst_op 35), (36, inst_op 36), (37, inst_op 37), (38, inst_op 38), (39, inst_op 39)]).run Tryz.prog W = .ok (.agg inst_cells) W := run_build W _ _ _ (by kernel_rfl)
theorem inst_cells_size : inst_cells.size = 80 := rfl
theorem results_cell_ {P : Program} {fn : Func} {p : Tmp} {ty : TypeId} {b : Nat} {c : Array Value} {d : TypeDesc} (h : fn.results = #[.cell p ty]) (tmps : Array Value) (w : World) (ha : tmps.getD p undef = .pointer (some ⟨b, 0, none⟩))
    (hb : w.heap[b]? = some (.cells c ty (0, 0))) (hu : P.underlying ty = some d) (hd : (match d with | .array _ _ => true | .struct _ => true | _ => false) = true) (hi : (P.info? ty).map (·.size) = some c.size) : (results fn tmps).run P w = .ok (.agg c) w := by
  have hl := run_loadVar_row w b ty ty c (0, 0) d hb hu (by cases d <;> simp_all) hi
  have ha' : tmps[p]?.getD undef = .pointer (some ⟨b, 0, none⟩) := by simpa using ha
  simp [results, h, ha', asAddr, hl]
theorem heap_last_ (w : World) (o : Obj) : (w.alloc o).heap[w.heap.size]? = some o := by
  show (w.heap.push o)[w.heap.size]? = some o
  simp
attribute [-go_sem] Instr.build Instr.fill in
set_option maxHeartbeats 12800000 in
set_option maxRecDepth 100000 in
theorem inst_ops.calls (w : World) : Calls Tryz.prog 89 #[] w fun e w' => e = .returned (.agg inst_cells) ∧ Below w.heap.size w w' := by
  obtain ⟨hz, hs⟩ := zero_of_info inst_zero
  have hst := run_storeCells_new (P := Tryz.prog) w 153 inst_zeros inst_cells hs rfl inst_cells_one
  have hld := run_loadCellsFrom_new (P := Tryz.prog) w 153 inst_cells 80 rfl
  have hsz := inst_cells_size
  have hb0 := inst_build0
  have hb1 := inst_build1
  have hb2 := inst_build2
  have hb3 := inst_build3
  have hb4 := inst_build4
  have hb5 := inst_build5
  have hb6 := inst_build6
  have hb7 := inst_build7
  have hb8 := inst_build8
  have hb9 := inst_build9
  have hb10 := inst_build10
  have hb11 := inst_build11
  have hb12 := inst_build12
  have hb13 := inst_build13
  have hb14 := inst_build14
  have hb15 := inst_build15
  have hb16 := inst_build16
  have hb17 := inst_build17
  have hb18 := inst_build18
  have hb19 := inst_build19
  have hb20 := inst_build20
  have hb21 := inst_build21
  have hb22 := inst_build22
  have hb23 := inst_build23
  have hb24 := inst_build24
  have hb25 := inst_build25
  have hb26 := inst_build26
  have hb27 := inst_build27
  have hb28 := inst_build28
  have hb29 := inst_build29
  have hb30 := inst_build30
  have hb31 := inst_build31
  have hb32 := inst_build32
  have hb33 := inst_build33
  have hb34 := inst_build34
  have hb35 := inst_build35
  have hb36 := inst_build36
  have hb37 := inst_build37
  have hb38 := inst_build38
  have hb39 := inst_build39
  have hba := inst_buildAll
  go_enter Tryz.func89, Tryz.ntmps89
  go_wp2
  clear hba hb0 hb1 hb2 hb3 hb4 hb5 hb6 hb7 hb8 hb9 hb10 hb11 hb12 hb13 hb14 hb15 hb16 hb17 hb18 hb19 hb20 hb21 hb22 hb23 hb24 hb25 hb26 hb27 hb28 hb29 hb30 hb31 hb32 hb33 hb34 hb35 hb36 hb37 hb38 hb39
  refine bodyPost_ret (v := .agg inst_cells) (results_cell_ rfl _ _ rfl (heap_last_ w _) Tryz.underlying153 rfl hs) rfl ⟨rfl, (Below.refl _ _).alloc (Nat.le_refl _) _⟩
theorem inst_field1 (i : Nat) (W : World) : (Instr.field 152 (inst_op i) 1).run Tryz.prog W = .ok (.int .i64 (inst_shape i)) W := by kernel_rfl
theorem inst_index : ∀ (i : Nat) (_ : i < 40) (W : World), (Instr.index 153 (.agg inst_cells) (.int .i64 (i : Int))).run Tryz.prog W = .ok (inst_op i) W
  | 0, _, _ => by kernel_rfl
  | 1, _, _ => by kernel_rfl
  | 2, _, _ => by kernel_rfl
  | 3, _, _ => by kernel_rfl
  | 4, _, _ => by kernel_rfl
  | 5, _, _ => by kernel_rfl
  | 6, _, _ => by kernel_rfl
  | 7, _, _ => by kernel_rfl
  | 8, _, _ => by kernel_rfl
  | 9, _, _ => by kernel_rfl
  | 10, _, _ => by kernel_rfl
  | 11, _, _ => by kernel_rfl
  | 12, _, _ => by kernel_rfl
  | 13, _, _ => by kernel_rfl
  | 14, _, _ => by kernel_rfl
  | 15, _, _ => by kernel_rfl
  | 16, _, _ => by kernel_rfl
  | 17, _, _ => by kernel_rfl
  | 18, _, _ => by kernel_rfl
  | 19, _, _ => by kernel_rfl
  | 20, _, _ => by kernel_rfl
  | 21, _, _ => by kernel_rfl
  | 22, _, _ => by kernel_rfl
  | 23, _, _ => by kernel_rfl
  | 24, _, _ => by kernel_rfl
  | 25, _, _ => by kernel_rfl
  | 26, _, _ => by kernel_rfl
  | 27, _, _ => by kernel_rfl
  | 28, _, _ => by kernel_rfl
  | 29, _, _ => by kernel_rfl
  | 30, _, _ => by kernel_rfl
  | 31, _, _ => by kernel_rfl
  | 32, _, _ => by kernel_rfl
  | 33, _, _ => by kernel_rfl
  | 34, _, _ => by kernel_rfl
  | 35, _, _ => by kernel_rfl
  | 36, _, _ => by kernel_rfl
  | 37, _, _ => by kernel_rfl
  | 38, _, _ => by kernel_rfl
  | 39, _, _ => by kernel_rfl
  | i + 40, h, _ => absurd h (by omega)
theorem inst_index_int (a : Int) (h0 : 0 ≤ a) (h1 : a < 40) (W : World) : (Instr.index 153 (.agg inst_cells) (.int .i64 a)).run Tryz.prog W = .ok (inst_op a.toNat) W := by
  obtain ⟨i, rfl⟩ := Int.eq_ofNat_of_zero_le h0
  exact inst_index i (by omega) W
def inst_Shape.f (a0 : Int) : Option Int := some (if a0 < 1 then 0 else if a0 > 39 then 0 else inst_shape a0.toNat)
theorem inst_Shape.calls (a0 : Int) (r : Int) (w : World) (h : inst_Shape.f a0 = some r) :
    Calls Tryz.prog 30 #[.int .i64 a0] w fun e w' => e = .returned (.int .i64 r) ∧ Below w.heap.size w w' := by
  unfold inst_Shape.f at h
  obtain rfl := Option.some.inj h
  clear h
  by_cases h1 : a0 < 1
  · rw [if_pos h1]
    go_enter Tryz.func30, Tryz.ntmps30
    go_wp2
    go_ret
    exact ⟨rfl, Below.refl _ _⟩
  · by_cases h2 : a0 > 39
    · rw [if_neg h1, if_pos h2]
      go_enter Tryz.func30, Tryz.ntmps30
      go_wp2
      go_ret
      exact ⟨rfl, Below.refl _ _⟩
    · rw [if_neg h1, if_neg h2]
      have hi := inst_index_int a0 (by omega) (by omega)
      have hf := inst_field1
      go_enter Tryz.func30, Tryz.ntmps30
      go_wp2_with (first | (go_at_call 89; refine (inst_ops.calls _).mono ?_; rintro e w1 ⟨rfl, hb1⟩; have HB1 := aq hb1; clear hb1))
      go_ret
      exact ⟨rfl, HB1.out⟩
theorem code_must.ok (w : World) : Calls Tryz.prog 82 #[.int .i64 0] w fun e w' => e = .returned (.tuple #[]) ∧ w = w' := by
  go_enter Tryz.func82, Tryz.ntmps82
  go_wp2
  go_end0
  exact ⟨rfl, rfl⟩
theorem code_must.bad (x : Int) (w : World) (h : x ≠ 0) : Calls Tryz.prog 82 #[.int .i64 x] w fun e w' => e = .panicked [{ v := .iface 28 (.int .i64 x), recovered := false }] ∧ w = w' := by
  have h1 : (x != 0) = true := by simpa using h
  go_enter Tryz.func82, Tryz.ntmps82
  go_wp2
  exact ⟨rfl, rfl, rfl⟩
def bits_right.f (a0 : Int) (a1 : Int) : Option (Bool) := if a0 ≥ 0 then (if a0 < 32 then (if a1 ≥ 1 then (some (decide (a1 ≤ (wrap64 (32 - a0))))) else (some false)) else (some false)) else (some false)
set_option maxHeartbeats 8000000 in
set_option maxRecDepth 100000 in
theorem bits_right.calls (a0 : Int) (a1 : Int) (r : Bool) (w : World) (h : bits_right.f a0 a1 = some r) :
    Calls Tryz.prog 156 #[.int .i64 a0, .int .i64 a1] w fun e w' => e = .returned (.bool r) ∧ Drawn0 w w' := by
 have H : (if a0 ≥ 0 then (if a0 < 32 then (if a1 ≥ 1 then (some (decide (a1 ≤ (wrap64 (32 - a0))))) else (some false)) else (some false)) else (some false)) = some r := h
 clear h
 by_cases c3 : a0 ≥ 0
 ·
  rw [if_pos c3] at H
  have c3b0 : decide (0 ≤ a0) = true := decide_eq_true c3
  clear c3
  by_cases c4 : a0 < 32
  ·
   rw [if_pos c4] at H
   have c4b0 : decide (a0 < 32) = true := decide_eq_true c4
   clear c4
   by_cases c5 : a1 ≥ 1
   ·
    rw [if_pos c5] at H
    have c5b0 : decide (1 ≤ a1) = true := decide_eq_true c5
    clear c5
    obtain rfl := Option.some.inj H
    go_enter Tryz.func156, Tryz.ntmps156
    go_wp2
    go_ret
    exact ⟨by first | rfl | (simp; done) | (simp [*]; done), by repeat (first | exact Drawn0.refl _ | apply Drawn0.step)⟩
   ·
    rw [if_neg c5] at H
    have c5b0 : decide (1 ≤ a1) = false := decide_eq_false c5
    clear c5
    obtain rfl := Option.some.inj H
    go_enter Tryz.func156, Tryz.ntmps156
    go_wp2
    go_ret
    exact ⟨by first | rfl | (simp; done) | (simp [*]; done), by repeat (first | exact Drawn0.refl _ | apply Drawn0.step)⟩
  ·
   rw [if_neg c4] at H
   have c4b0 : decide (a0 < 32) = false := decide_eq_false c4
   clear c4
   obtain rfl := Option.some.inj H
   go_enter Tryz.func156, Tryz.ntmps156
   go_wp2
   go_ret
   exact ⟨by first | rfl | (simp; done) | (simp [*]; done), by repeat (first | exact Drawn0.refl _ | apply Drawn0.step)⟩
 ·
  rw [if_neg c3] at H
  have c3b0 : decide (0 ≤ a0) = false := decide_eq_false c3
  clear c3
  obtain rfl := Option.some.inj H
  go_enter Tryz.func156, Tryz.ntmps156
  go_wp2
  go_ret
  exact ⟨by first | rfl | (simp; done) | (simp [*]; done), by repeat (first | exact Drawn0.refl _ | apply Drawn0.step)⟩
def bits_big (f : S189) : Option Bool := (bits_ones.f f.f1).bind fun r => some (decide (IntKind.u64.wrap f.f2 > r))
def bits_anyBig : List S189 → Option Bool
  | [] => some false
  | f :: l => (bits_big f).bind fun b => if b = true then some true else bits_anyBig l
def api_Field_278.f (l0 : List S189) : Option Bool := bits_anyBig l0
set_option maxHeartbeats 8000000 in
theorem bits_big.calls (f : S189) (r : Bool) (w : World) (h : bits_big f = some r) :
    Calls Tryz.prog 279 #[.agg #[.int .i64 f.f0, .int .i64 f.f1, .int .u32 f.f2]] w fun e w' => e = .returned (.bool r) ∧ Below w.heap.size w w' := by
  obtain ⟨r1, h1, h2⟩ := Option.bind_eq_some_iff.mp h
  obtain rfl := Option.some.inj h2
  clear h h2
  have HH := aq h1
  clear h1
  go_enter Tryz.func279, Tryz.ntmps279
  go_wp2
  go_quiet ((go_at_call 157; refine quiet_drawn (bits_ones.calls _ _ _ HH.out)))
  go_wp2
  go_ret
  exact ⟨rfl, by repeat (first | exact Below.refl _ _ | apply below_drew | apply pw_below_drewN | apply below_alloc)⟩
def IdxPost (r : Bool) (w : World) (e : Ending) (w' : World) : Prop := ∃ i : Int, e = .returned (.int .i64 i) ∧ decide (0 ≤ i) = r ∧ Below w.heap.size w w'
theorem anyBig_at (l : List S189) (k : Nat) (h : k < l.length) : bits_anyBig (l.drop k) = (bits_big (rd_T189 l k)).bind fun b => if b = true then some true else bits_anyBig (l.drop (k + 1)) := by
  have e : rd_T189 l (k : Int) = l[k] := by unfold rd_T189; rw [Int.toNat_natCast]; simp [List.getD, h]
  rw [List.drop_eq_getElem_cons h, e]; rfl
set_option maxHeartbeats 8000000 in
theorem bits_index.calls (A0 : Option Addr) (c0 : Nat) (l0 : List S189) (r : Bool) (w : World) (hr0 : Kd.C k189 w A0 l0.length l0) (h : bits_anyBig l0 = some r) :
    Calls Tryz.prog 336 #[.slice A0 l0.length c0, .func (.func 279) #[] #[]] w (IdxPost r w) := by
  have hm := Kd.C_max hr0
  have HR := aq hr0
  clear hr0
  have HH := aq h
  clear h
  go_enter Tryz.func336, Tryz.ntmps336
  go_wp2
  go_loopw [8] (fun v8 wr => ∃ k : Nat, k ≤ l0.length ∧ v8 = .int .i64 k ∧ Aside0 (bits_anyBig (l0.drop k) = some r) ∧ Below w.heap.size w wr) (fun v8 _ => l0.length - (intOf v8).toNat)
  case atStart => exact ⟨0, Nat.zero_le _, rfl, HH, Below.refl _ _⟩
  case round =>
    obtain ⟨k, hk, rfl, HA, hb⟩ := hrel
    by_cases hlt : k < l0.length
    · have H := HA.out
      rw [anyBig_at l0 k hlt] at H
      obtain ⟨b, h1, h2⟩ := Option.bind_eq_some_iff.mp H
      clear H HA
      obtain ⟨ad, e1, hx0, hx1, hx2⟩ := at_T189 (Kd.C_below HR.out hb) (k : Int) (by omega) (by omega)
      cases e1
      rw [Int.toNat_natCast] at hx0 hx1 hx2
      have HB1 := aq h1
      have HB2 := aq h2
      clear h1 h2
      cases b
      · go_wp2_with (first | (go_at_call 279; refine (bits_big.calls (rd_T189 l0 k) false _ HB1.out).mono ?_; rintro e w1 ⟨rfl, hb1⟩))
        go_roundw
        case rel => exact ⟨k + 1, by omega, by go_num, ⟨by simpa using HB2.out⟩, below_then hb hb.size hb1⟩
        case measure => simp [intOf]; omega
      · have hr : r = true := by simpa using HB2.out.symm
        go_wp2_with (first | (go_at_call 279; refine (bits_big.calls (rd_T189 l0 k) true _ HB1.out).mono ?_; rintro e w1 ⟨rfl, hb1⟩))
        go_ret
        exact ⟨(k : Int), rfl, by rw [hr]; simp, below_then hb hb.size hb1⟩
    · have hr : r = false := by
        have H := HA.out
        rw [List.drop_of_length_le (by omega)] at H
        simpa [bits_anyBig] using H.symm
      go_wp2
      go_ret
      exact ⟨-1, rfl, by rw [hr]; simp, hb⟩
set_option maxHeartbeats 8000000 in
theorem api_Field_278.calls (A0 : Option Addr) (c0 : Nat) (l0 : List S189) (r : Bool) (w : World) (hr0 : Kd.C k189 w A0 l0.length l0) (hc0 : l0.length ≤ c0) (h : api_Field_278.f l0 = some r) :
    Calls Tryz.prog 278 #[.slice A0 l0.length c0, .func (.func 279) #[] #[]] w fun e w' => e = .returned (.bool r) ∧ Below w.heap.size w w' := by
  have HR := aq hr0
  clear hr0
  have HH := aq h
  clear h
  go_enter Tryz.func278, Tryz.ntmps278
  go_wp2_with (first | (go_at_call 336; refine (bits_index.calls A0 c0 l0 r _ HR.out HH.out).mono ?_; rintro e w1 ⟨i, rfl, hi, hb⟩))
  go_ret
  exact ⟨by rw [← hi]; rfl, hb⟩
end Go.Proofs.YtblnfngigdipcaaGreatDoor.P
