/- Written for this claim by a program of this session: what the claim uses of lemmas and proved contracts of Go functions. -/
import Derived.Test.YtflojfcioojgbaaGreatDoorYAl11
namespace Go.Proofs.YtflojfcioojgbaaGreatDoor.IM
open Go.RowKit Go.Proofs.YtflojfcioojgbaaGreatDoor.P Go.Proofs.YtflojfcioojgbaaGreatDoorW.PrintWords Go.Proofs.YtflojfcioojgbaaGreatDoorW.PrintLast Go.Proofs.YtflojfcioojgbaaGreatDoorW.PrintMore Go.Proofs.YtflojfcioojgbaaGreatDoor.MW Go.Proofs.YtflojfcioojgbaaGreatDoor.M Go.Proofs.YtflojfcioojgbaaGreatDoor.ST
set_option linter.unusedVariables false
set_option linter.unusedSimpArgs false
def exX : IMG := ⟨4, 0, []⟩
def exB : ByteArray := ⟨#[67, 76, 73, 77, 71, 1, 4, 0, 0]⟩
def exB8 : ByteArray := ⟨#[67, 76, 73, 77, 71, 1, 4, 0]⟩
theorem exX_nums : exX.nums := ⟨by decide, by decide, by decide, by decide, fun r hr => by cases hr⟩
theorem exX_new : newV ([] ++ [stk 0]) = 0 := by
  have hz : badR (stk 0) = false := by
    unfold badR stk
    simp [zs_size]
  have ha : ([] ++ [stk 0]).any badR = false := by
    show (badR (stk 0) || false) = false
    rw [hz]
    rfl
  have hf : ([] ++ [stk 0]).any farR = false := by rfl
  unfold newV
  rw [if_neg (by rw [ha]; decide), if_neg (by rw [hf]; decide), if_pos (by rfl)]
theorem exX_ok : okI exX = true := decide_eq_true ⟨by decide, by decide, by decide, by decide, by decide, rfl, exX_new⟩
theorem exX_put : putI exX = exB.data.toList := by
  unfold putI exX magicL
  have h4 : wire_putL 4 = [4] := by rw [wire_putL_less 4 (by decide)]; rfl
  have h0 : wire_putL 0 = [0] := by rw [wire_putL_less 0 (by decide)]; rfl
  simp only [List.length_nil]
  rw [show (4 : Int).toNat = 4 from rfl, show (0 : Int).toNat = 0 from rfl, h4, h0]
  rfl
theorem exX_get : getI exB = (exX, 0) := by
  have h := getI_put exX_nums exX_ok [] exB (by rw [List.append_nil, exX_put])
  rwa [if_pos rfl] at h
theorem exX_get8 : getI exB8 = (zeroI, 3) := by
  have h := getI_short exX_nums exX_ok exB exB8 exX_put.symm 8 (by rw [exX_put]; decide) rfl
  exact getI_bad (by rw [h]; decide)
theorem ex2_no : okI ⟨2, 0, []⟩ = false := decide_eq_false (fun h => absurd h.1 (by decide))
theorem ex2_nums : IMG.nums ⟨2, 0, []⟩ := ⟨by decide, by decide, by decide, by decide, fun r hr => by cases hr⟩
theorem nil_C (w : World) (A : Option Addr) : Kd.C k57 w A 0 ([] : List S57) := ⟨rfl, by decide, fun h => absurd h (by decide)⟩
theorem ex_put_at (w : World) : Calls Tryz.prog 10 #[.agg #[.int .u64 4, .int .u64 0, .slice none 0 0]] w fun e w' => e = .returned (.tuple #[.string ⟨#[67, 76, 73, 77, 71, 1, 4, 0, 0]⟩, .int .i64 0]) ∧ Below w.heap.size w w' := by
  refine (putI_at w 4 0 none 0 [] (nil_C _ _) (Nat.le_refl _) (by decide) exX_nums).mono ?_
  rintro e w' ⟨hb, rfl⟩
  refine ⟨?_, hb⟩
  have e1 : okI ⟨4, 0, []⟩ = true := exX_ok
  have e2 : putI ⟨4, 0, []⟩ = exB.data.toList := exX_put
  rw [e1, e2]
  rfl
theorem ex_get_at (w : World) : Calls Tryz.prog 13 #[.string ⟨#[67, 76, 73, 77, 71, 1, 4, 0, 0]⟩] w fun e w' => Below w.heap.size w w' ∧ ∃ A c, e = .returned (.tuple #[.agg #[.int .u64 4, .int .u64 0, .slice A 0 c], .int .i64 0]) := by
  refine (get_at w ⟨#[67, 76, 73, 77, 71, 1, 4, 0, 0]⟩ (by decide)).mono ?_
  rintro e w' ⟨hb, v, rfl, hr⟩
  rw [show getI ⟨#[67, 76, 73, 77, 71, 1, 4, 0, 0]⟩ = (exX, 0) from exX_get] at hr ⊢
  obtain ⟨A, c, rfl⟩ := Kd.R_slice hr
  exact ⟨hb, A, c, rfl⟩
theorem ex_get8_at (w : World) : Calls Tryz.prog 13 #[.string exB8] w fun e w' => Below w.heap.size w w' ∧ ∃ A c, e = .returned (.tuple #[.agg #[.int .u64 0, .int .u64 0, .slice A 0 c], .int .i64 3]) := by
  refine (get_at w exB8 (by decide)).mono ?_
  rintro e w' ⟨hb, v, rfl, hr⟩
  rw [exX_get8] at hr ⊢
  obtain ⟨A, c, rfl⟩ := Kd.R_slice hr
  exact ⟨hb, A, c, rfl⟩
theorem ex_load_at (w : World) : Calls Tryz.prog 21 #[.agg #[.int .u64 2, .int .u64 0, .slice none 0 0]] w fun e w' => e = .returned (.tuple #[.pointer none, .agg CPU.zero.a, .int .i64 1]) ∧ Below w.heap.size w w' :=
  load_off w 2 0 none 0 [] (nil_C _ _) (Nat.le_refl _) (by decide) ex2_nums ex2_no
theorem ex_is_at (w : World) (A : Option Addr) (c : Nat) : Calls Tryz.prog 12 #[.agg #[.int .u64 4, .int .u64 0, .slice A 0 c]] w fun e w' => e = .returned (.bool true) ∧ Below w.heap.size w w' := by
  have h := is_at w 4 0 A c [] (nil_C _ _) (Nat.zero_le _) (by decide) exX_nums
  have e1 : okI ⟨4, 0, []⟩ = true := exX_ok
  rw [e1] at h
  exact h
theorem ex_same_at (w : World) (B : Option Addr) (cb : Nat) : Calls Tryz.prog 16 #[.agg (trA (.slice B 0 cb) exT), .agg (trA (.slice none 0 0) exT)] w fun e w' => e = .returned (.bool true) ∧ Below w.heap.size w w' :=
  same_calls B none cb 0 exT w ⟨rfl, by decide, fun h => absurd h (by decide)⟩ (Nat.zero_le _) ⟨rfl, by decide, fun h => absurd h (by decide)⟩ (Nat.zero_le _) (by decide)
theorem one_Cr (w : World) (r : S57) : Kd.C k57 (w.alloc (.cells #[.int .u64 r.f0, .int .i64 r.f1, .string r.f2] 57)) (some ⟨w.heap.size, 0, none⟩) 1 [r] := by
  refine ⟨rfl, by decide, fun _ => ⟨_, rfl, ?_⟩⟩
  intro j p hj
  cases j with
  | zero =>
    have e : p = r := by simpa using hj.symm
    subst e
    refine ⟨[.int .u64 p.f0, .int .i64 p.f1, .string p.f2], rfl, k57_mk _ _, fun i u hu => ?_⟩
    have h := blk_cell (blk_new w (.cells #[.int .u64 p.f0, .int .i64 p.f1, .string p.f2] 57)) i
    have e : (⟨w.heap.size, 0, none⟩ : Addr).add (0 * k57.sz + i) = ⟨w.heap.size, i, none⟩ := by
      rw [Nat.zero_mul, Nat.zero_add]
      simp only [Addr.add]
      split <;> simp_all
    rw [e, h]
    simpa using hu
  | succ j => simp at hj
theorem ex_run_at (w : World) (hTab : TabW w) : Calls Tryz.prog 15 #[.agg #[.int .u64 64, .int .u64 8192, .slice (some ⟨w.heap.size, 0, none⟩) 1 1], .int .i64 5] (w.alloc (.cells #[.int .u64 64, .int .i64 1, .string exS] 57)) fun e w' => Below (w.alloc (.cells #[.int .u64 64, .int .i64 1, .string exS] 57)).heap.size (w.alloc (.cells #[.int .u64 64, .int .i64 1, .string exS] 57)) w' ∧ ∃ B cb, e = .returned (.agg (trA (.slice B 0 cb) exT)) :=
  exrun_at (w.alloc (.cells #[.int .u64 64, .int .i64 1, .string exS] 57)) (TabW.below hTab (below_alloc (Below.refl _ _) _)) _ 1 (one_Cr w exR) (Nat.le_refl _)
set_option maxHeartbeats 2000000 in
set_option maxRecDepth 100000 in
theorem stored_calls (w : World) (hTab : TabW w) : Calls Tryz.prog 11 #[] w fun e w' => e = .returned (.bool true) ∧ Below w.heap.size w w' := by
  have HT := aq (fun (W : World) (hb : Below w.heap.size w W) => TabW.below hTab hb)
  clear hTab
  go_enter Tryz.func11, Tryz.ntmps11
  go_upto_region 2 with (go_at_call 10; refine (ex_put_at _).mono ?_; rintro e w1 ⟨rfl, hb⟩; have HB1 := aq hb; clear hb)
  go_upto_region 3 with (go_at_call 13; refine (ex_get_at _).mono ?_; rintro e w2 ⟨hb, A2, c2, rfl⟩; have HB2 := aq (below_step HB1.out hb); clear hb HB1)
  have HX := aq (blk_new w2 (.cells #[.int .u64 4, .int .u64 0, .slice A2 0 c2] 25))
  have HB3 := aq (below_alloc HB2.out (.cells #[.int .u64 4, .int .u64 0, .slice A2 0 c2] 25))
  clear HB2
  generalize w2.alloc (.cells #[.int .u64 4, .int .u64 0, .slice A2 0 c2] 25) = w3 at *
  generalize w2.heap.size = X at *
  go_upto_region 4 with (go_at_call 13; refine (ex_get8_at _).mono ?_; rintro e w4 ⟨hb, A4, c4, rfl⟩; have HB4 := aq (below_step HB3.out hb); have HX4 := aq (blk_below HX.out hb); clear hb HB3 HX)
  have HX5 := aq (blk_alloc HX4.out (.cells #[.int .u64 0, .int .u64 0, .slice A4 0 c4] 25))
  have HB5 := aq (below_alloc HB4.out (.cells #[.int .u64 0, .int .u64 0, .slice A4 0 c4] 25))
  clear HB4 HX4
  generalize w4.alloc (.cells #[.int .u64 0, .int .u64 0, .slice A4 0 c4] 25) = w5 at *
  go_upto_region 5 with (first | (go_at_call 15; refine (ex_run_at _ (HT.out _ HB5.out)).mono ?_; rintro e w6 ⟨hb, B, cb, rfl⟩; have HB6 := aq (below_step (below_alloc HB5.out _) hb); have HX6 := aq (blk_below (blk_alloc HX5.out _) hb); clear hb HB5 HX5) | ((with_reducible refine gate_store (t := 38) (p := 7) (v := .tmp 28) rfl ?_); refine wpList_store_mid rfl 38 (.tmp 7) (.tmp 28) rfl w6.heap.size 0 (trA (.slice B 0 cb) exT) rfl rfl (there_blk (blk_new w6 (.cells (trA (.slice none 0 0) .zero) 38)) 0 5 (by decide)) info_tr (by simp [trA, Value.oneCell']) ?_))
  change Code.wp _ _ _ _ ((w6.alloc (.cells (trA (.slice none 0 0) .zero) 38)).setCells w6.heap.size 0 (trA (.slice B 0 cb) exT).toList)
  have HX7 := aq (blk_sets_far (trA (.slice B 0 cb) exT).toList 0 (Nat.ne_of_lt (blk_lt HX6.out)) (blk_alloc HX6.out (.cells (trA (.slice none 0 0) .zero) 38)))
  have HT7 := aq (tr_sets' (v' := .slice B 0 cb) (t' := exT) (blk_new w6 (.cells (trA (.slice none 0 0) .zero) 38)))
  have HB7 := aq (below_sets HB6.out.size (trA (.slice B 0 cb) exT).toList 0 (below_alloc HB6.out (.cells (trA (.slice none 0 0) .zero) 38)))
  clear HB6 HX6
  generalize (w6.alloc (.cells (trA (.slice none 0 0) .zero) 38)).setCells w6.heap.size 0 (trA (.slice B 0 cb) exT).toList = w7 at *
  generalize w6.heap.size = T7 at *
  go_upto_region 6 with (first | (go_at_call 21; refine (ex_load_at _).mono ?_; rintro e w8 ⟨rfl, hb⟩; have HB8 := aq (below_step HB7.out hb); have HX8 := aq (blk_below HX7.out hb); have HT8 := aq (blk_below HT7.out hb); clear hb HB7 HX7 HT7) | ((with_reducible refine gate_store (t := 49) (p := 9) (v := .tmp 33) rfl ?_); refine wpList_store_mid rfl 49 (.tmp 9) (.tmp 33) rfl w8.heap.size 0 CPU.zero.a rfl rfl (there_blk (blk_new w8 (.cells CPU.zero.a 49)) 0 37 (by decide)) info_cpu CPU.zero.one ?_))
  change Code.wp _ _ _ _ ((w8.alloc (.cells CPU.zero.a 49)).setCells w8.heap.size 0 CPU.zero.l)
  have HX9 := aq (blk_sets_far CPU.zero.l 0 (Nat.ne_of_lt (blk_lt HX8.out)) (blk_alloc HX8.out (.cells CPU.zero.a 49)))
  have HT9 := aq (blk_sets_far CPU.zero.l 0 (Nat.ne_of_lt (blk_lt HT8.out)) (blk_alloc HT8.out (.cells CPU.zero.a 49)))
  have HB9 := aq (below_sets HB8.out.size CPU.zero.l 0 (below_alloc HB8.out (.cells CPU.zero.a 49)))
  clear HB8 HX8 HT8
  generalize (w8.alloc (.cells CPU.zero.a 49)).setCells w8.heap.size 0 CPU.zero.l = w9 at *
  have x0 : w9.cell? ⟨X, 0, none⟩ = some (.int .u64 4) := (blk_cell HX9.out 0).trans rfl
  have x1 : w9.cell? ⟨X, 1, none⟩ = some (.int .u64 0) := (blk_cell HX9.out 1).trans rfl
  have x2 : w9.cell? ⟨X, 2, none⟩ = some (.slice A2 0 c2) := (blk_cell HX9.out 2).trans rfl
  have t0 : w9.cell? ⟨T7, 0, none⟩ = some (.slice B 0 cb) := (blk_cell HT9.out 0).trans rfl
  have t1 : w9.cell? ⟨T7, 1, none⟩ = some (.bool true) := (blk_cell HT9.out 1).trans rfl
  have t2 : w9.cell? ⟨T7, 2, none⟩ = some (.int .u64 0) := (blk_cell HT9.out 2).trans rfl
  have t3 : w9.cell? ⟨T7, 3, none⟩ = some (.int .i64 1) := (blk_cell HT9.out 3).trans rfl
  have t4 : w9.cell? ⟨T7, 4, none⟩ = some (.int .i64 0) := (blk_cell HT9.out 4).trans rfl
  go_wp2_with (first | (go_at_call 16; refine (ex_same_at _ B cb).mono ?_; rintro e wa ⟨rfl, hb⟩; have HBa := aq (below_step HB9.out hb); have HXa := aq (blk_below HX9.out hb); have y0 := (blk_cell HXa.out 0).trans rfl; have y1 := (blk_cell HXa.out 1).trans rfl; have y2 := (blk_cell HXa.out 2).trans rfl; clear hb) | (go_at_call 12; refine (ex_is_at _ A2 c2).mono ?_; rintro e wb ⟨rfl, hb⟩; have HBb := aq (below_step HBa.out hb); clear hb))
  go_ret
  exact ⟨rfl, HBb.out⟩
end Go.Proofs.YtflojfcioojgbaaGreatDoor.IM
namespace Go.Proofs.YtflojfcioojgbaaGreatDoor.Pure
open Go.RowKit Go.Proofs.YtflojfcioojgbaaGreatDoor.P Go.Proofs.YtflojfcioojgbaaGreatDoorW.PrintWords Go.Proofs.YtflojfcioojgbaaGreatDoorW.PrintLast Go.Proofs.YtflojfcioojgbaaGreatDoorW.PrintMore Go.Proofs.YtflojfcioojgbaaGreatDoor.MW Go.Proofs.YtflojfcioojgbaaGreatDoor.M Go.Proofs.YtflojfcioojgbaaGreatDoor.ST Go.Proofs.YtflojfcioojgbaaGreatDoor.IM
set_option linter.unusedVariables false
set_option linter.unusedSimpArgs false
set_option maxHeartbeats 2000000 in
set_option maxRecDepth 100000 in
theorem ImageOnly_walk (a0 : ByteArray) (W : World) (w0 : a0.size ≤ 140737488351232) (hTab : TabW W) :
    Calls Tryz.prog 4 #[.string a0] W fun e w' => e = .returned (.bool true) ∧ Below W.heap.size W w' := by
  by_cases hs : a0.size ≤ 6000
  · have d1 : ¬ (a0.size : Int) > 6000 := by omega
    have HS := aq (fun (U : World) (hb : Below W.heap.size W U) => stored_calls U (TabW.below hTab hb))
    have HG := aq (IM.get_at W a0 (by omega))
    clear hTab w0
    by_cases he : (getI a0).2 = 0
    · obtain ⟨h1, h2, h3, h4⟩ := getI_only he
      generalize hx : (getI a0).1 = x at *
      obtain ⟨en, st, l⟩ := x
      have hl : l.length ≤ 300 := by have := okI_len h1; simp only at this; omega
      have hg : getI a0 = (⟨en, st, l⟩, 0) := Prod.ext hx he
      have HP := aq (fun (U : World) (A : Option Addr) (c : Nat) (hC : Kd.C k57 U A l.length l) (hc : l.length ≤ c) => show Calls Tryz.prog 10 #[.agg #[.int .u64 en, .int .u64 st, .slice A l.length c]] U fun e w' => e = .returned (.tuple #[.string a0, .int .i64 0]) ∧ Below U.heap.size U w' from by
        refine (putI_at U en st A c l hC hc hl h2).mono ?_
        rintro e w' ⟨hb, rfl⟩
        refine ⟨?_, hb⟩
        rw [h1, if_pos rfl, if_pos rfl, show (⟨(putI ⟨en, st, l⟩).toArray⟩ : ByteArray) = a0 from bytes_eq (by rw [h3])])
      have HI := aq (fun (U : World) (A : Option Addr) (c : Nat) (hC : Kd.C k57 U A l.length l) (hc : l.length ≤ c) => show Calls Tryz.prog 12 #[.agg #[.int .u64 en, .int .u64 st, .slice A l.length c]] U fun e w' => e = .returned (.bool true) ∧ Below U.heap.size U w' from by
        have h := is_at U en st A c l hC hc hl h2
        rw [h1] at h
        exact h)
      have HG2 := aq (show Calls Tryz.prog 13 #[.string a0] W fun e w' => Below W.heap.size W w' ∧ ∃ A c, e = .returned (.tuple #[.agg #[.int .u64 en, .int .u64 st, .slice A l.length c], .int .i64 0]) ∧ Kd.C k57 w' A l.length l ∧ l.length ≤ c from by
        refine HG.out.mono ?_
        rintro e w' ⟨hb, v, rfl, hr⟩
        rw [hg] at hr ⊢
        obtain ⟨A, c, rfl, hlc, hC⟩ := Kd.R_reads hr
        exact ⟨hb, A, c, rfl, hC, hlc⟩)
      clear HG h1 h2 h3 h4 hx hg he hl
      go_enter Tryz.func4, Tryz.ntmps4
      go_upto_region 4 with (go_at_call 13; refine HG2.out.mono ?_; rintro e w1 ⟨hb, A, c, rfl, hC, hlc⟩; have HB1 := aq hb; have HC1 := aq hC; have HLC := aq hlc; clear hb hC hlc)
      have HX := aq (blk_new w1 (.cells #[.int .u64 en, .int .u64 st, .slice A l.length c] 25))
      have HB2 := aq (below_alloc HB1.out (.cells #[.int .u64 en, .int .u64 st, .slice A l.length c] 25))
      have HC2 := aq (Kd.C_alloc HC1.out (.cells #[.int .u64 en, .int .u64 st, .slice A l.length c] 25))
      clear HB1 HC1
      generalize w1.alloc (.cells #[.int .u64 en, .int .u64 st, .slice A l.length c] 25) = w2 at *
      generalize w1.heap.size = X at *
      have x0 : w2.cell? ⟨X, 0, none⟩ = some (.int .u64 en) := (blk_cell HX.out 0).trans rfl
      have x1 : w2.cell? ⟨X, 1, none⟩ = some (.int .u64 st) := (blk_cell HX.out 1).trans rfl
      have x2 : w2.cell? ⟨X, 2, none⟩ = some (.slice A l.length c) := (blk_cell HX.out 2).trans rfl
      go_upto_region 7 with (go_at_call 10; refine (HP.out w2 A c HC2.out HLC.out).mono ?_; rintro e w3 ⟨rfl, hb⟩; have HX3 := aq (blk_below HX.out hb); have HC3 := aq (Kd.C_below HC2.out hb); have HB3 := aq (below_step HB2.out hb); clear hb)
      clear x0 x1 x2 HX HC2 HB2
      go_wp2_with (first | (go_at_call 11; refine (HS.out _ HB3.out).mono ?_; rintro e w4 ⟨rfl, hb⟩; have HX4 := aq (blk_below HX3.out hb); have HC4 := aq (Kd.C_below HC3.out hb); have HB4 := aq (below_step HB3.out hb); clear hb; have x0 : w4.cell? ⟨X, 0, none⟩ = some (.int .u64 en) := (blk_cell HX4.out 0).trans rfl; have x1 : w4.cell? ⟨X, 1, none⟩ = some (.int .u64 st) := (blk_cell HX4.out 1).trans rfl; have x2 : w4.cell? ⟨X, 2, none⟩ = some (.slice A l.length c) := (blk_cell HX4.out 2).trans rfl) | (go_at_call 12; refine (HI.out w4 A c HC4.out HLC.out).mono ?_; rintro e w5 ⟨rfl, hb⟩; have HB5 := aq (below_step HB4.out hb); clear hb))
      go_ret
      exact ⟨rfl, HB5.out⟩
    · have hg := getI_bad he
      have HG2 := aq (show Calls Tryz.prog 13 #[.string a0] W fun e w' => Below W.heap.size W w' ∧ ∃ A c, e = .returned (.tuple #[.agg #[.int .u64 0, .int .u64 0, .slice A 0 c], .int .i64 3]) from by
        refine HG.out.mono ?_
        rintro e w' ⟨hb, v, rfl, hr⟩
        rw [hg] at hr ⊢
        obtain ⟨A, c, rfl⟩ := Kd.R_slice hr
        exact ⟨hb, A, c, rfl⟩)
      clear HG hg he
      go_enter Tryz.func4, Tryz.ntmps4
      go_upto_region 4 with (go_at_call 13; refine HG2.out.mono ?_; rintro e w1 ⟨hb, A, c, rfl⟩; have HB1 := aq hb; clear hb)
      have HX := aq (blk_new w1 (.cells #[.int .u64 0, .int .u64 0, .slice A 0 c] 25))
      have HB2 := aq (below_alloc HB1.out (.cells #[.int .u64 0, .int .u64 0, .slice A 0 c] 25))
      clear HB1
      generalize w1.alloc (.cells #[.int .u64 0, .int .u64 0, .slice A 0 c] 25) = w2 at *
      generalize w1.heap.size = X at *
      go_wp2_with (go_at_call 11; refine (HS.out _ HB2.out).mono ?_; rintro e w4 ⟨rfl, hb⟩; have HX4 := aq (blk_below HX.out hb); have HB4 := aq (below_step HB2.out hb); clear hb; have x2 : w4.cell? ⟨X, 2, none⟩ = some (.slice A 0 c) := (blk_cell HX4.out 2).trans rfl)
      go_ret
      exact ⟨rfl, HB4.out⟩
  · have d1 : (a0.size : Int) > 6000 := by omega
    go_enter Tryz.func4, Tryz.ntmps4
    go_wp2
    go_ret
    exact ⟨rfl, Below.refl _ _⟩
end Go.Proofs.YtflojfcioojgbaaGreatDoor.Pure
namespace Go.Proofs.YtflojfcioojgbaaGreatDoor.IM
open Go.RowKit Go.Proofs.YtflojfcioojgbaaGreatDoor.P Go.Proofs.YtflojfcioojgbaaGreatDoorW.PrintWords Go.Proofs.YtflojfcioojgbaaGreatDoorW.PrintLast Go.Proofs.YtflojfcioojgbaaGreatDoorW.PrintMore Go.Proofs.YtflojfcioojgbaaGreatDoor.MW Go.Proofs.YtflojfcioojgbaaGreatDoor.M Go.Proofs.YtflojfcioojgbaaGreatDoor.ST
set_option linter.unusedVariables false
set_option linter.unusedSimpArgs false
def RegsOk (l : List S57) : Prop := ∀ q, q ∈ l → (Lit.int .u64 q.f0).wf = true ∧ (Lit.int .i64 q.f1).wf = true ∧ q.f2.size ≤ maxLen
theorem arg_nums {en st : Int} {l : List S57} (h0 : (Lit.int .u64 en).wf = true) (h1 : (Lit.int .u64 st).wf = true) (h : RegsOk l) : IMG.nums ⟨en, st, l⟩ :=
  ⟨(bounds_u64 h0).1, (bounds_u64 h0).2, (bounds_u64 h1).1, (bounds_u64 h1).2, fun r hr => bounds_u64 (h r hr).1⟩
theorem big_calls (U : World) (en st : Int) (A : Option Addr) (c : Nat) (l : List S57) (hC : Kd.C k57 U A l.length l) (hc : l.length ≤ c) :
    ∃ b, (b = false → l.length ≤ 300) ∧ ∀ U' : World, Below U.heap.size U U' → Calls Tryz.prog 9 #[.agg #[.int .u64 en, .int .u64 st, .slice A l.length c]] U' fun e w' => e = .returned (.bool b) ∧ Below U'.heap.size U' w' := by
  obtain ⟨b, h, hb⟩ := big_f en st l
  exact ⟨b, hb, fun U' hB => cleatref27_Big.calls 100 en st A c l b U' (Kd.C_below hC hB) hc h⟩
theorem img_same (U : World) (x y : IMG) (A B : Option Addr) (c d : Nat) (hA : Kd.C k57 U A x.l.length x.l) (hc : x.l.length ≤ c) (hB : Kd.C k57 U B y.l.length y.l) (hd : y.l.length ≤ d) (hl : x.l.length ≤ 300) :
    ∃ b, (b = true ↔ x = y) ∧ Calls Tryz.prog 14 #[.agg #[.int .u64 x.en, .int .u64 x.st, .slice A x.l.length c], .agg #[.int .u64 y.en, .int .u64 y.st, .slice B y.l.length d]] U fun e w' => e = .returned (.bool b) ∧ Below U.heap.size U w' := by
  obtain ⟨b, h, hb⟩ := same_f x y hl
  exact ⟨b, hb, cleatref27_Same.calls 400 x.en x.st A c x.l y.en y.st B d y.l b U hA hc hB hd h⟩
theorem put_any (U : World) (en st : Int) (A : Option Addr) (c : Nat) (l : List S57) (hC : Kd.C k57 U A l.length l) (hc : l.length ≤ c) (hl : l.length ≤ 300) (hn : IMG.nums ⟨en, st, l⟩) :
    ∃ (s : ByteArray) (e : Int), (okI ⟨en, st, l⟩ = true → s = ⟨(putI ⟨en, st, l⟩).toArray⟩ ∧ e = 0) ∧ (okI ⟨en, st, l⟩ = false → s = ⟨#[]⟩ ∧ e = 1) ∧ ∀ U' : World, Below U.heap.size U U' → Calls Tryz.prog 10 #[.agg #[.int .u64 en, .int .u64 st, .slice A l.length c]] U' fun e' w' => e' = .returned (.tuple #[.string s, .int .i64 e]) ∧ Below U'.heap.size U' w' := by
  refine ⟨if okI ⟨en, st, l⟩ = true then ⟨(putI ⟨en, st, l⟩).toArray⟩ else ⟨#[]⟩, if okI ⟨en, st, l⟩ = true then 0 else 1, ?_, ?_, fun U' hB => ?_⟩
  · intro h; rw [if_pos h, if_pos h]; exact ⟨rfl, rfl⟩
  · intro h; rw [h]; exact ⟨rfl, rfl⟩
  · refine (putI_at U' en st A c l (Kd.C_below hC hB) hc hl hn).mono ?_
    rintro e w' ⟨hb, rfl⟩
    exact ⟨rfl, hb⟩
theorem putI_len {x : IMG} (hn : x.nums) (h : okI x = true) : (putI x).length ≤ 20000000 := by
  obtain ⟨hl, hf⟩ := okI_fit hn h
  have h1 := putRs_len hf
  have l1 := wire_putL_ten x.en.toNat (by have := hn.e0; have := hn.e1; omega)
  have l2 := wire_putL_ten x.st.toNat (by have := hn.s0; have := hn.s1; omega)
  have l3 := wire_putL_ten x.l.length (by omega)
  unfold putI magicL
  simp only [List.length_append, List.length_cons, List.length_nil]
  omega
theorem get_yes (U : World) (s : ByteArray) (en st : Int) (l : List S57) (hs : s.size ≤ 100000000000000) (hg : getI s = (⟨en, st, l⟩, 0)) : Calls Tryz.prog 13 #[.string s] U fun e w' => Below U.heap.size U w' ∧ ∃ A c, e = .returned (.tuple #[.agg #[.int .u64 en, .int .u64 st, .slice A l.length c], .int .i64 0]) ∧ Kd.C k57 w' A l.length l ∧ l.length ≤ c := by
  refine (IM.get_at U s hs).mono ?_
  rintro e w' ⟨hb, v, rfl, hr⟩
  rw [hg] at hr ⊢
  obtain ⟨A, c, rfl, hlc, hC⟩ := Kd.R_reads hr
  exact ⟨hb, A, c, rfl, hC, hlc⟩
theorem get_err (U : World) (s : ByteArray) (hs : s.size ≤ 100000000000000) (hg : getI s = (zeroI, 3)) : Calls Tryz.prog 13 #[.string s] U fun e w' => Below U.heap.size U w' ∧ ∃ A c, e = .returned (.tuple #[.agg #[.int .u64 0, .int .u64 0, .slice A 0 c], .int .i64 3]) := by
  refine (IM.get_at U s hs).mono ?_
  rintro e w' ⟨hb, v, rfl, hr⟩
  rw [hg] at hr ⊢
  obtain ⟨A, c, rfl⟩ := Kd.R_slice hr
  exact ⟨hb, A, c, rfl⟩
theorem get_some (U : World) (s : ByteArray) (hs : s.size ≤ 100000000000000) : Calls Tryz.prog 13 #[.string s] U fun e w' => Below U.heap.size U w' ∧ ∃ (a b : Int) (A : Option Addr) (n c : Nat), e = .returned (.tuple #[.agg #[.int .u64 a, .int .u64 b, .slice A n c], .int .i64 (getI s).2]) := by
  refine (IM.get_at U s hs).mono ?_
  rintro e w' ⟨hb, v, rfl, hr⟩
  obtain ⟨A, c, rfl⟩ := Kd.R_slice hr
  exact ⟨hb, _, _, A, _, c, rfl⟩
end Go.Proofs.YtflojfcioojgbaaGreatDoor.IM
namespace Go.Proofs.YtflojfcioojgbaaGreatDoor.Pure
open Go.RowKit Go.Proofs.YtflojfcioojgbaaGreatDoor.P Go.Proofs.YtflojfcioojgbaaGreatDoorW.PrintWords Go.Proofs.YtflojfcioojgbaaGreatDoorW.PrintLast Go.Proofs.YtflojfcioojgbaaGreatDoorW.PrintMore Go.Proofs.YtflojfcioojgbaaGreatDoor.MW Go.Proofs.YtflojfcioojgbaaGreatDoor.M Go.Proofs.YtflojfcioojgbaaGreatDoor.ST Go.Proofs.YtflojfcioojgbaaGreatDoor.IM
set_option linter.unusedVariables false
set_option linter.unusedSimpArgs false
set_option maxHeartbeats 4000000 in
set_option maxRecDepth 100000 in
theorem ImageSame_walk (en st : Int) (A : Option Addr) (c : Nat) (l : List S57) (en2 st2 : Int) (A2 : Option Addr) (c2 : Nat) (l2 : List S57) (W : World)
    (w0 : (Lit.int .u64 en).wf = true) (w1 : (Lit.int .u64 st).wf = true) (hC : Kd.C k57 W A l.length l) (hc : l.length ≤ c) (hg : RegsOk l)
    (v0 : (Lit.int .u64 en2).wf = true) (v1 : (Lit.int .u64 st2).wf = true) (hC2 : Kd.C k57 W A2 l2.length l2) (hc2 : l2.length ≤ c2) (hg2 : RegsOk l2) (hTab : TabW W) :
    Calls Tryz.prog 5 #[.agg #[.int .u64 en, .int .u64 st, .slice A l.length c], .agg #[.int .u64 en2, .int .u64 st2, .slice A2 l2.length c2]] W fun e w' => e = .returned (.bool true) ∧ Below W.heap.size W w' := by
  have hn := arg_nums w0 w1 hg
  have hn2 := arg_nums v0 v1 hg2
  have HS := aq (fun (U : World) (hb : Below W.heap.size W U) => stored_calls U (TabW.below hTab hb))
  obtain ⟨b1, hb1, hB1⟩ := big_calls W en st A c l hC hc
  obtain ⟨b2, hb2, hB2⟩ := big_calls W en2 st2 A2 c2 l2 hC2 hc2
  have HB1 := aq hB1
  have HB2 := aq hB2
  obtain ⟨W2, hW, h0, h1, hB⟩ := two_new W (.cells #[.int .u64 en, .int .u64 st, .slice A l.length c] 25) (.cells #[.int .u64 en2, .int .u64 st2, .slice A2 l2.length c2] 25)
  have HW := aq hW
  have H0 := aq h0
  have H1 := aq h1
  have HB := aq hB
  have HC := aq hC
  have HC2 := aq hC2
  have x0 : W2.cell? ⟨W.heap.size, 0, none⟩ = some (.int .u64 en) := (blk_cell h0 0).trans rfl
  have x1 : W2.cell? ⟨W.heap.size, 1, none⟩ = some (.int .u64 st) := (blk_cell h0 1).trans rfl
  have x2 : W2.cell? ⟨W.heap.size, 2, none⟩ = some (.slice A l.length c) := (blk_cell h0 2).trans rfl
  clear hTab hW h0 h1 hB hC hC2 hB1 hB2 w0 w1 v0 v1 hg hg2
  cases b1 with
  | true =>
    go_enter Tryz.func5, Tryz.ntmps5
    go_upto_region 1 with fail
    change Code.wp _ _ _ _ ((W.alloc (.cells #[.int .u64 en, .int .u64 st, .slice A l.length c] 25)).alloc (.cells #[.int .u64 en2, .int .u64 st2, .slice A2 l2.length c2] 25))
    rw [← HW.out]
    clear HW
    go_wp2_with (go_at_call 9; refine (HB1.out _ HB.out).mono ?_; rintro e w3 ⟨rfl, hb⟩; have HB3 := aq (below_step HB.out hb); clear hb)
    go_ret
    exact ⟨rfl, HB3.out⟩
  | false =>
    have hl := hb1 rfl
    cases b2 with
    | true =>
      go_enter Tryz.func5, Tryz.ntmps5
      go_upto_region 1 with fail
      change Code.wp _ _ _ _ ((W.alloc (.cells #[.int .u64 en, .int .u64 st, .slice A l.length c] 25)).alloc (.cells #[.int .u64 en2, .int .u64 st2, .slice A2 l2.length c2] 25))
      rw [← HW.out]
      clear HW
      go_wp2_with (first | (go_at_call 9; (with_reducible refine (HB1.out _ HB.out).mono ?_); rintro e w3 ⟨rfl, hb⟩; have HB3 := aq (below_step HB.out hb); have y0 : w3.cell? ⟨W.heap.size + 1, 0, none⟩ = some (.int .u64 en2) := (blk_cell (blk_below H1.out hb) 0).trans rfl; have y1 : w3.cell? ⟨W.heap.size + 1, 1, none⟩ = some (.int .u64 st2) := (blk_cell (blk_below H1.out hb) 1).trans rfl; have y2 : w3.cell? ⟨W.heap.size + 1, 2, none⟩ = some (.slice A2 l2.length c2) := (blk_cell (blk_below H1.out hb) 2).trans rfl; clear hb) | (go_at_call 9; refine (HB2.out _ HB3.out).mono ?_; rintro e w4 ⟨rfl, hb⟩; have HB4 := aq (below_step HB3.out hb); clear hb))
      go_ret
      exact ⟨rfl, HB4.out⟩
    | false =>
      have hl2 := hb2 rfl
      obtain ⟨s1, e1, p1, n1, hP1⟩ := put_any W en st A c l HC.out hc hl hn
      obtain ⟨s2, e2, p2, n2, hP2⟩ := put_any W en2 st2 A2 c2 l2 HC2.out hc2 hl2 hn2
      have HP1 := aq hP1
      have HP2 := aq hP2
      clear hP1 hP2 hb1 hb2
      cases hk : okI ⟨en, st, l⟩ with
      | false =>
        obtain ⟨rfl, rfl⟩ := n1 hk
        clear p1 n1 p2 n2 hk hn hn2
        go_enter Tryz.func5, Tryz.ntmps5
        go_upto_region 1 with fail
        change Code.wp _ _ _ _ ((W.alloc (.cells #[.int .u64 en, .int .u64 st, .slice A l.length c] 25)).alloc (.cells #[.int .u64 en2, .int .u64 st2, .slice A2 l2.length c2] 25))
        rw [← HW.out]
        clear HW
        go_upto_region 3 with (first | (go_at_call 9; (with_reducible refine (HB1.out _ HB.out).mono ?_); rintro e w3 ⟨rfl, hb⟩; have HB3 := aq (below_step HB.out hb); have G0 := aq (blk_below H0.out hb); have G1 := aq (blk_below H1.out hb); have y0 : w3.cell? ⟨W.heap.size + 1, 0, none⟩ = some (.int .u64 en2) := (blk_cell G1.out 0).trans rfl; have y1 : w3.cell? ⟨W.heap.size + 1, 1, none⟩ = some (.int .u64 st2) := (blk_cell G1.out 1).trans rfl; have y2 : w3.cell? ⟨W.heap.size + 1, 2, none⟩ = some (.slice A2 l2.length c2) := (blk_cell G1.out 2).trans rfl; clear hb) | (go_at_call 9; refine (HB2.out _ HB3.out).mono ?_; rintro e w4 ⟨rfl, hb⟩; have HB4 := aq (below_step HB3.out hb); have K0 := aq (blk_below G0.out hb); have K1 := aq (blk_below G1.out hb); clear hb))
        clear x0 x1 x2 y0 y1 y2 H0 H1 G0 G1 HB HB3
        have x0 : w4.cell? ⟨W.heap.size, 0, none⟩ = some (.int .u64 en) := (blk_cell K0.out 0).trans rfl
        have x1 : w4.cell? ⟨W.heap.size, 1, none⟩ = some (.int .u64 st) := (blk_cell K0.out 1).trans rfl
        have x2 : w4.cell? ⟨W.heap.size, 2, none⟩ = some (.slice A l.length c) := (blk_cell K0.out 2).trans rfl
        go_upto_region 4 with (go_at_call 10; refine (HP1.out _ HB4.out).mono ?_; rintro e w5 ⟨rfl, hb⟩; have HB5 := aq (below_step HB4.out hb); have L0 := aq (blk_below K0.out hb); have L1 := aq (blk_below K1.out hb); clear hb)
        clear x0 x1 x2 K0 K1 HB4
        have y0 : w5.cell? ⟨W.heap.size + 1, 0, none⟩ = some (.int .u64 en2) := (blk_cell L1.out 0).trans rfl
        have y1 : w5.cell? ⟨W.heap.size + 1, 1, none⟩ = some (.int .u64 st2) := (blk_cell L1.out 1).trans rfl
        have y2 : w5.cell? ⟨W.heap.size + 1, 2, none⟩ = some (.slice A2 l2.length c2) := (blk_cell L1.out 2).trans rfl
        go_upto_region 5 with (go_at_call 10; refine (HP2.out _ HB5.out).mono ?_; rintro e w6 ⟨rfl, hb⟩; have HB6 := aq (below_step HB5.out hb); have M0 := aq (blk_below L0.out hb); have M1 := aq (blk_below L1.out hb); clear hb)
        clear y0 y1 y2 L0 L1 HB5
        go_wp2_with (go_at_call 11; refine (HS.out _ HB6.out).mono ?_; rintro e w7 ⟨rfl, hb⟩; have HB7 := aq (below_step HB6.out hb); clear hb)
        go_ret
        exact ⟨rfl, HB7.out⟩
      | true =>
        obtain ⟨hs1, rfl⟩ := p1 hk
        cases hk2 : okI ⟨en2, st2, l2⟩ with
        | false =>
          obtain ⟨rfl, rfl⟩ := n2 hk2
          clear p1 n1 p2 n2 hk hk2 hn hn2 hs1
          go_enter Tryz.func5, Tryz.ntmps5
          go_upto_region 1 with fail
          change Code.wp _ _ _ _ ((W.alloc (.cells #[.int .u64 en, .int .u64 st, .slice A l.length c] 25)).alloc (.cells #[.int .u64 en2, .int .u64 st2, .slice A2 l2.length c2] 25))
          rw [← HW.out]
          clear HW
          go_upto_region 3 with (first | (go_at_call 9; (with_reducible refine (HB1.out _ HB.out).mono ?_); rintro e w3 ⟨rfl, hb⟩; have HB3 := aq (below_step HB.out hb); have G0 := aq (blk_below H0.out hb); have G1 := aq (blk_below H1.out hb); have y0 : w3.cell? ⟨W.heap.size + 1, 0, none⟩ = some (.int .u64 en2) := (blk_cell G1.out 0).trans rfl; have y1 : w3.cell? ⟨W.heap.size + 1, 1, none⟩ = some (.int .u64 st2) := (blk_cell G1.out 1).trans rfl; have y2 : w3.cell? ⟨W.heap.size + 1, 2, none⟩ = some (.slice A2 l2.length c2) := (blk_cell G1.out 2).trans rfl; clear hb) | (go_at_call 9; refine (HB2.out _ HB3.out).mono ?_; rintro e w4 ⟨rfl, hb⟩; have HB4 := aq (below_step HB3.out hb); have K0 := aq (blk_below G0.out hb); have K1 := aq (blk_below G1.out hb); clear hb))
          clear x0 x1 x2 y0 y1 y2 H0 H1 G0 G1 HB HB3
          have x0 : w4.cell? ⟨W.heap.size, 0, none⟩ = some (.int .u64 en) := (blk_cell K0.out 0).trans rfl
          have x1 : w4.cell? ⟨W.heap.size, 1, none⟩ = some (.int .u64 st) := (blk_cell K0.out 1).trans rfl
          have x2 : w4.cell? ⟨W.heap.size, 2, none⟩ = some (.slice A l.length c) := (blk_cell K0.out 2).trans rfl
          go_upto_region 4 with (go_at_call 10; refine (HP1.out _ HB4.out).mono ?_; rintro e w5 ⟨rfl, hb⟩; have HB5 := aq (below_step HB4.out hb); have L0 := aq (blk_below K0.out hb); have L1 := aq (blk_below K1.out hb); clear hb)
          clear x0 x1 x2 K0 K1 HB4
          have y0 : w5.cell? ⟨W.heap.size + 1, 0, none⟩ = some (.int .u64 en2) := (blk_cell L1.out 0).trans rfl
          have y1 : w5.cell? ⟨W.heap.size + 1, 1, none⟩ = some (.int .u64 st2) := (blk_cell L1.out 1).trans rfl
          have y2 : w5.cell? ⟨W.heap.size + 1, 2, none⟩ = some (.slice A2 l2.length c2) := (blk_cell L1.out 2).trans rfl
          go_upto_region 5 with (go_at_call 10; refine (HP2.out _ HB5.out).mono ?_; rintro e w6 ⟨rfl, hb⟩; have HB6 := aq (below_step HB5.out hb); have M0 := aq (blk_below L0.out hb); have M1 := aq (blk_below L1.out hb); clear hb)
          clear y0 y1 y2 L0 L1 HB5
          go_wp2_with (go_at_call 11; refine (HS.out _ HB6.out).mono ?_; rintro e w7 ⟨rfl, hb⟩; have HB7 := aq (below_step HB6.out hb); clear hb)
          go_ret
          exact ⟨rfl, HB7.out⟩
        | true =>
          obtain ⟨hs2, rfl⟩ := p2 hk2
          obtain ⟨b, hb, hSM⟩ : ∃ b, (b = true ↔ s1 = s2) ∧ ∀ U : World, Below W.heap.size W U → Calls Tryz.prog 14 #[.agg #[.int .u64 en, .int .u64 st, .slice A l.length c], .agg #[.int .u64 en2, .int .u64 st2, .slice A2 l2.length c2]] U fun e w' => e = .returned (.bool b) ∧ Below U.heap.size U w' := by
            obtain ⟨b, h, hb⟩ := same_f ⟨en, st, l⟩ ⟨en2, st2, l2⟩ hl
            refine ⟨b, ?_, fun U hB => cleatref27_Same.calls 400 en st A c l en2 st2 A2 c2 l2 b U (Kd.C_below HC.out hB) hc (Kd.C_below HC2.out hB) hc2 h⟩
            rw [hb]
            constructor
            · intro h
              rw [hs1, hs2, h]
            · intro h
              rw [hs1, hs2] at h
              have h3 := congrArg (fun x : ByteArray => x.data.toList) h
              exact putI_inj hn hn2 hk hk2 (by simpa using h3)
          have HSM := aq hSM
          clear p1 n1 p2 n2 hk hk2 hn hn2 hs1 hs2 hSM
          by_cases hq : s1 = s2
          · obtain rfl := hb.2 hq
            subst hq
            clear hb
            go_enter Tryz.func5, Tryz.ntmps5
            go_upto_region 1 with fail
            change Code.wp _ _ _ _ ((W.alloc (.cells #[.int .u64 en, .int .u64 st, .slice A l.length c] 25)).alloc (.cells #[.int .u64 en2, .int .u64 st2, .slice A2 l2.length c2] 25))
            rw [← HW.out]
            clear HW
            go_upto_region 3 with (first | (go_at_call 9; (with_reducible refine (HB1.out _ HB.out).mono ?_); rintro e w3 ⟨rfl, hb⟩; have HB3 := aq (below_step HB.out hb); have G0 := aq (blk_below H0.out hb); have G1 := aq (blk_below H1.out hb); have y0 : w3.cell? ⟨W.heap.size + 1, 0, none⟩ = some (.int .u64 en2) := (blk_cell G1.out 0).trans rfl; have y1 : w3.cell? ⟨W.heap.size + 1, 1, none⟩ = some (.int .u64 st2) := (blk_cell G1.out 1).trans rfl; have y2 : w3.cell? ⟨W.heap.size + 1, 2, none⟩ = some (.slice A2 l2.length c2) := (blk_cell G1.out 2).trans rfl; clear hb) | (go_at_call 9; refine (HB2.out _ HB3.out).mono ?_; rintro e w4 ⟨rfl, hb⟩; have HB4 := aq (below_step HB3.out hb); have K0 := aq (blk_below G0.out hb); have K1 := aq (blk_below G1.out hb); clear hb))
            clear x0 x1 x2 y0 y1 y2 H0 H1 G0 G1 HB HB3
            have x0 : w4.cell? ⟨W.heap.size, 0, none⟩ = some (.int .u64 en) := (blk_cell K0.out 0).trans rfl
            have x1 : w4.cell? ⟨W.heap.size, 1, none⟩ = some (.int .u64 st) := (blk_cell K0.out 1).trans rfl
            have x2 : w4.cell? ⟨W.heap.size, 2, none⟩ = some (.slice A l.length c) := (blk_cell K0.out 2).trans rfl
            go_upto_region 4 with (go_at_call 10; refine (HP1.out _ HB4.out).mono ?_; rintro e w5 ⟨rfl, hb⟩; have HB5 := aq (below_step HB4.out hb); have L0 := aq (blk_below K0.out hb); have L1 := aq (blk_below K1.out hb); clear hb)
            clear x0 x1 x2 K0 K1 HB4
            have y0 : w5.cell? ⟨W.heap.size + 1, 0, none⟩ = some (.int .u64 en2) := (blk_cell L1.out 0).trans rfl
            have y1 : w5.cell? ⟨W.heap.size + 1, 1, none⟩ = some (.int .u64 st2) := (blk_cell L1.out 1).trans rfl
            have y2 : w5.cell? ⟨W.heap.size + 1, 2, none⟩ = some (.slice A2 l2.length c2) := (blk_cell L1.out 2).trans rfl
            go_upto_region 5 with (go_at_call 10; refine (HP2.out _ HB5.out).mono ?_; rintro e w6 ⟨rfl, hb⟩; have HB6 := aq (below_step HB5.out hb); have M0 := aq (blk_below L0.out hb); have M1 := aq (blk_below L1.out hb); clear hb)
            clear y0 y1 y2 L0 L1 HB5
            have x0 : w6.cell? ⟨W.heap.size, 0, none⟩ = some (.int .u64 en) := (blk_cell M0.out 0).trans rfl
            go_wp2_with (first | (go_at_call 11; refine (HS.out _ HB6.out).mono ?_; rintro e w7 ⟨rfl, hb⟩; have HB7 := aq (below_step HB6.out hb); have N0 := aq (blk_below M0.out hb); have N1 := aq (blk_below M1.out hb); clear hb x0; have x0 : w7.cell? ⟨W.heap.size, 0, none⟩ = some (.int .u64 en) := (blk_cell N0.out 0).trans rfl; have x1 : w7.cell? ⟨W.heap.size, 1, none⟩ = some (.int .u64 st) := (blk_cell N0.out 1).trans rfl; have x2 : w7.cell? ⟨W.heap.size, 2, none⟩ = some (.slice A l.length c) := (blk_cell N0.out 2).trans rfl; have y0 : w7.cell? ⟨W.heap.size + 1, 0, none⟩ = some (.int .u64 en2) := (blk_cell N1.out 0).trans rfl; have y1 : w7.cell? ⟨W.heap.size + 1, 1, none⟩ = some (.int .u64 st2) := (blk_cell N1.out 1).trans rfl; have y2 : w7.cell? ⟨W.heap.size + 1, 2, none⟩ = some (.slice A2 l2.length c2) := (blk_cell N1.out 2).trans rfl) | (go_at_call 14; refine (HSM.out _ HB7.out).mono ?_; rintro e w8 ⟨rfl, hb⟩; have HB8 := aq (below_step HB7.out hb); clear hb))
            go_ret
            exact ⟨rfl, HB8.out⟩
          · obtain rfl : b = false := by cases b with | false => rfl | true => exact absurd (hb.1 rfl) hq
            clear hb
            have hqq : (s1.toList == s2.toList) = false := by
              rw [beq_eq_false_iff_ne, ByteArray.toList_eq, ByteArray.toList_eq]
              exact fun h => hq (bytes_eq h)
            go_enter Tryz.func5, Tryz.ntmps5
            go_upto_region 1 with fail
            change Code.wp _ _ _ _ ((W.alloc (.cells #[.int .u64 en, .int .u64 st, .slice A l.length c] 25)).alloc (.cells #[.int .u64 en2, .int .u64 st2, .slice A2 l2.length c2] 25))
            rw [← HW.out]
            clear HW
            go_upto_region 3 with (first | (go_at_call 9; (with_reducible refine (HB1.out _ HB.out).mono ?_); rintro e w3 ⟨rfl, hb⟩; have HB3 := aq (below_step HB.out hb); have G0 := aq (blk_below H0.out hb); have G1 := aq (blk_below H1.out hb); have y0 : w3.cell? ⟨W.heap.size + 1, 0, none⟩ = some (.int .u64 en2) := (blk_cell G1.out 0).trans rfl; have y1 : w3.cell? ⟨W.heap.size + 1, 1, none⟩ = some (.int .u64 st2) := (blk_cell G1.out 1).trans rfl; have y2 : w3.cell? ⟨W.heap.size + 1, 2, none⟩ = some (.slice A2 l2.length c2) := (blk_cell G1.out 2).trans rfl; clear hb) | (go_at_call 9; refine (HB2.out _ HB3.out).mono ?_; rintro e w4 ⟨rfl, hb⟩; have HB4 := aq (below_step HB3.out hb); have K0 := aq (blk_below G0.out hb); have K1 := aq (blk_below G1.out hb); clear hb))
            clear x0 x1 x2 y0 y1 y2 H0 H1 G0 G1 HB HB3
            have x0 : w4.cell? ⟨W.heap.size, 0, none⟩ = some (.int .u64 en) := (blk_cell K0.out 0).trans rfl
            have x1 : w4.cell? ⟨W.heap.size, 1, none⟩ = some (.int .u64 st) := (blk_cell K0.out 1).trans rfl
            have x2 : w4.cell? ⟨W.heap.size, 2, none⟩ = some (.slice A l.length c) := (blk_cell K0.out 2).trans rfl
            go_upto_region 4 with (go_at_call 10; refine (HP1.out _ HB4.out).mono ?_; rintro e w5 ⟨rfl, hb⟩; have HB5 := aq (below_step HB4.out hb); have L0 := aq (blk_below K0.out hb); have L1 := aq (blk_below K1.out hb); clear hb)
            clear x0 x1 x2 K0 K1 HB4
            have y0 : w5.cell? ⟨W.heap.size + 1, 0, none⟩ = some (.int .u64 en2) := (blk_cell L1.out 0).trans rfl
            have y1 : w5.cell? ⟨W.heap.size + 1, 1, none⟩ = some (.int .u64 st2) := (blk_cell L1.out 1).trans rfl
            have y2 : w5.cell? ⟨W.heap.size + 1, 2, none⟩ = some (.slice A2 l2.length c2) := (blk_cell L1.out 2).trans rfl
            go_upto_region 5 with (go_at_call 10; refine (HP2.out _ HB5.out).mono ?_; rintro e w6 ⟨rfl, hb⟩; have HB6 := aq (below_step HB5.out hb); have M0 := aq (blk_below L0.out hb); have M1 := aq (blk_below L1.out hb); clear hb)
            clear y0 y1 y2 L0 L1 HB5
            have x0 : w6.cell? ⟨W.heap.size, 0, none⟩ = some (.int .u64 en) := (blk_cell M0.out 0).trans rfl
            go_wp2_with (first | (go_at_call 11; refine (HS.out _ HB6.out).mono ?_; rintro e w7 ⟨rfl, hb⟩; have HB7 := aq (below_step HB6.out hb); have N0 := aq (blk_below M0.out hb); have N1 := aq (blk_below M1.out hb); clear hb x0; have x0 : w7.cell? ⟨W.heap.size, 0, none⟩ = some (.int .u64 en) := (blk_cell N0.out 0).trans rfl; have x1 : w7.cell? ⟨W.heap.size, 1, none⟩ = some (.int .u64 st) := (blk_cell N0.out 1).trans rfl; have x2 : w7.cell? ⟨W.heap.size, 2, none⟩ = some (.slice A l.length c) := (blk_cell N0.out 2).trans rfl; have y0 : w7.cell? ⟨W.heap.size + 1, 0, none⟩ = some (.int .u64 en2) := (blk_cell N1.out 0).trans rfl; have y1 : w7.cell? ⟨W.heap.size + 1, 1, none⟩ = some (.int .u64 st2) := (blk_cell N1.out 1).trans rfl; have y2 : w7.cell? ⟨W.heap.size + 1, 2, none⟩ = some (.slice A2 l2.length c2) := (blk_cell N1.out 2).trans rfl) | (go_at_call 14; refine (HSM.out _ HB7.out).mono ?_; rintro e w8 ⟨rfl, hb⟩; have HB8 := aq (below_step HB7.out hb); clear hb))
            go_ret
            exact ⟨rfl, HB8.out⟩
set_option maxHeartbeats 4000000 in
set_option maxRecDepth 100000 in
theorem ImageBack_walk (en st : Int) (A : Option Addr) (c : Nat) (l : List S57) (more : ByteArray) (at_ : Int) (W : World)
    (w0 : (Lit.int .u64 en).wf = true) (w1 : (Lit.int .u64 st).wf = true) (hC : Kd.C k57 W A l.length l) (hc : l.length ≤ c) (hg : RegsOk l) (wm : more.size ≤ 140737488351232) (wa : (Lit.int .i64 at_).wf = true) (hTab : TabW W) :
    Calls Tryz.prog 3 #[.agg #[.int .u64 en, .int .u64 st, .slice A l.length c], .string more, .int .i64 at_] W fun e w' => e = .returned (.bool true) ∧ Below W.heap.size W w' := by
  have hn := arg_nums w0 w1 hg
  have hat := bounds_i64 wa
  have HS := aq (fun (U : World) (hb : Below W.heap.size W U) => stored_calls U (TabW.below hTab hb))
  obtain ⟨b1, hb1, hB1⟩ := big_calls W en st A c l hC hc
  have HB1 := aq hB1
  have HB0 := aq (below_alloc (Below.refl W.heap.size W) (.cells #[.int .u64 en, .int .u64 st, .slice A l.length c] 25))
  have HX0 := aq (blk_new W (.cells #[.int .u64 en, .int .u64 st, .slice A l.length c] 25))
  have HC := aq hC
  have x0 : (W.alloc (.cells #[.int .u64 en, .int .u64 st, .slice A l.length c] 25)).cell? ⟨W.heap.size, 0, none⟩ = some (.int .u64 en) := (blk_cell HX0.out 0).trans rfl
  have x1 : (W.alloc (.cells #[.int .u64 en, .int .u64 st, .slice A l.length c] 25)).cell? ⟨W.heap.size, 1, none⟩ = some (.int .u64 st) := (blk_cell HX0.out 1).trans rfl
  have x2 : (W.alloc (.cells #[.int .u64 en, .int .u64 st, .slice A l.length c] 25)).cell? ⟨W.heap.size, 2, none⟩ = some (.slice A l.length c) := (blk_cell HX0.out 2).trans rfl
  clear hTab hC hB1 w0 w1 hg wa
  cases b1 with
  | true =>
    go_enter Tryz.func3, Tryz.ntmps3
    go_upto_region 1 with fail
    generalize W.alloc (.cells #[.int .u64 en, .int .u64 st, .slice A l.length c] 25) = W0 at *
    go_wp2_with (go_at_call 9; refine (HB1.out _ HB0.out).mono ?_; rintro e w3 ⟨rfl, hb⟩; have HB3 := aq (below_step HB0.out hb); have HX3 := aq (blk_below HX0.out hb); clear hb)
    go_ret
    exact ⟨rfl, HB3.out⟩
  | false =>
    have hl := hb1 rfl
    by_cases hm : more.size ≤ 100
    · have dm : ¬ (more.size : Int) > 100 := by omega
      obtain ⟨s1, e1, p1, n1, hP1⟩ := put_any W en st A c l HC.out hc hl hn
      have HP1 := aq hP1
      clear hP1 hb1
      cases hk : okI ⟨en, st, l⟩ with
      | false =>
        obtain ⟨rfl, rfl⟩ := n1 hk
        have HI := aq (fun (U : World) (hb : Below W.heap.size W U) => show Calls Tryz.prog 12 #[.agg #[.int .u64 en, .int .u64 st, .slice A l.length c]] U fun e w' => e = .returned (.bool false) ∧ Below U.heap.size U w' from by
          have h := is_at U en st A c l (Kd.C_below HC.out hb) hc hl hn
          rw [hk] at h
          exact h)
        clear p1 n1 hk hn
        go_enter Tryz.func3, Tryz.ntmps3
        go_upto_region 1 with fail
        generalize W.alloc (.cells #[.int .u64 en, .int .u64 st, .slice A l.length c] 25) = W0 at *
        go_upto_region 3 with (go_at_call 9; refine (HB1.out _ HB0.out).mono ?_; rintro e w3 ⟨rfl, hb⟩; have HB3 := aq (below_step HB0.out hb); have HX3 := aq (blk_below HX0.out hb); clear hb)
        clear x0 x1 x2 HX0 HB0
        have x0 : w3.cell? ⟨W.heap.size, 0, none⟩ = some (.int .u64 en) := (blk_cell HX3.out 0).trans rfl
        have x1 : w3.cell? ⟨W.heap.size, 1, none⟩ = some (.int .u64 st) := (blk_cell HX3.out 1).trans rfl
        have x2 : w3.cell? ⟨W.heap.size, 2, none⟩ = some (.slice A l.length c) := (blk_cell HX3.out 2).trans rfl
        go_upto_region 4 with (go_at_call 10; refine (HP1.out _ HB3.out).mono ?_; rintro e w4 ⟨rfl, hb⟩; have HB4 := aq (below_step HB3.out hb); have HX4 := aq (blk_below HX3.out hb); clear hb)
        clear x0 x1 x2 HX3 HB3
        go_wp2_with (first | (go_at_call 11; refine (HS.out _ HB4.out).mono ?_; rintro e w5 ⟨rfl, hb⟩; have HB5 := aq (below_step HB4.out hb); have HX5 := aq (blk_below HX4.out hb); clear hb; have x0 : w5.cell? ⟨W.heap.size, 0, none⟩ = some (.int .u64 en) := (blk_cell HX5.out 0).trans rfl; have x1 : w5.cell? ⟨W.heap.size, 1, none⟩ = some (.int .u64 st) := (blk_cell HX5.out 1).trans rfl; have x2 : w5.cell? ⟨W.heap.size, 2, none⟩ = some (.slice A l.length c) := (blk_cell HX5.out 2).trans rfl) | (go_at_call 12; refine (HI.out _ HB5.out).mono ?_; rintro e w6 ⟨rfl, hb⟩; have HB6 := aq (below_step HB5.out hb); clear hb))
        go_ret
        exact ⟨rfl, HB6.out⟩
      | true =>
        obtain ⟨hs1, rfl⟩ := p1 hk
        have hd1 : s1.data.toList = putI ⟨en, st, l⟩ := by rw [hs1]
        have hlen : s1.size ≤ 20000000 := by rw [← bsz, hd1]; exact putI_len hn hk
        have HG1 := aq (fun (U : World) => get_yes U s1 en st l (by omega) (by have h := getI_put hn hk [] s1 (by rw [hd1, List.append_nil]); rwa [if_pos rfl] at h))
        have HSM := aq (fun (U : World) (B : Option Addr) (d : Nat) (hb : Below W.heap.size W U) (hB : Kd.C k57 U B l.length l) (hd : l.length ≤ d) => show Calls Tryz.prog 14 #[.agg #[.int .u64 en, .int .u64 st, .slice A l.length c], .agg #[.int .u64 en, .int .u64 st, .slice B l.length d]] U fun e w' => e = .returned (.bool true) ∧ Below U.heap.size U w' from by
          obtain ⟨b, h, hq⟩ := img_same U ⟨en, st, l⟩ ⟨en, st, l⟩ A B c d (Kd.C_below HC.out hb) hc hB hd hl
          rw [h.2 rfl] at hq
          exact hq)
        have hg2 := getI_put hn hk more.data.toList (s1 ++ more) (by rw [data_app, hd1])
        have hsz : (s1 ++ more).size ≤ 100000000000000 := by rw [ByteArray.size_append]; omega
        have HG2 := aq (fun (U : World) => get_some U (s1 ++ more) hsz)
        have HG3 := aq (fun (U : World) (h0 : 0 ≤ at_) (h1 : at_ < (s1.size : Int)) => get_err U (s1.extract 0 at_.toNat) (by rw [ByteArray.size_extract]; omega) (getI_bad (by rw [getI_short hn hk s1 (s1.extract 0 at_.toNat) hd1 at_.toNat (by rw [← hd1, bsz]; omega) (by rw [Lib.extract_data]; simp)]; decide)))
        generalize hgg : (getI (s1 ++ more)).2 = gg at *
        by_cases hmz : more.size = 0
        · have hmd : more.data.toList = [] := List.eq_nil_of_length_eq_zero ((bsz more).trans hmz)
          obtain rfl : gg = 0 := by rw [if_pos hmd] at hg2; rw [← hgg, hg2]
          have z3 : more.toList.isEmpty = true := by rw [ByteArray.toList_eq, hmd]; rfl
          clear hg2 hgg p1 n1 hk hn hs1 hd1 hmd hmz
          go_enter Tryz.func3, Tryz.ntmps3
          go_upto_region 1 with fail
          generalize W.alloc (.cells #[.int .u64 en, .int .u64 st, .slice A l.length c] 25) = W0 at *
          go_upto_region 3 with (go_at_call 9; refine (HB1.out _ HB0.out).mono ?_; rintro e w3 ⟨rfl, hb⟩; have HB3 := aq (below_step HB0.out hb); have HX3 := aq (blk_below HX0.out hb); clear hb)
          clear x0 x1 x2 HX0 HB0
          have x0 : w3.cell? ⟨W.heap.size, 0, none⟩ = some (.int .u64 en) := (blk_cell HX3.out 0).trans rfl
          have x1 : w3.cell? ⟨W.heap.size, 1, none⟩ = some (.int .u64 st) := (blk_cell HX3.out 1).trans rfl
          have x2 : w3.cell? ⟨W.heap.size, 2, none⟩ = some (.slice A l.length c) := (blk_cell HX3.out 2).trans rfl
          go_upto_region 4 with (go_at_call 10; refine (HP1.out _ HB3.out).mono ?_; rintro e w4 ⟨rfl, hb⟩; have HB4 := aq (below_step HB3.out hb); have HX4 := aq (blk_below HX3.out hb); clear hb)
          clear x0 x1 x2 HX3 HB3
          go_upto_region 6 with fail
          go_upto_region 7 with (go_at_call 13; refine (HG1.out _).mono ?_; rintro e w5 ⟨hb, B, d, rfl, hB, hd⟩; have HB5 := aq (below_step HB4.out hb); have HX5 := aq (blk_below HX4.out hb); have HCB := aq hB; have HLD := aq hd; clear hb hB hd)
          have HY := aq (blk_new w5 (.cells #[.int .u64 en, .int .u64 st, .slice B l.length d] 25))
          have HB6 := aq (below_alloc HB5.out (.cells #[.int .u64 en, .int .u64 st, .slice B l.length d] 25))
          have HX6 := aq (blk_alloc HX5.out (.cells #[.int .u64 en, .int .u64 st, .slice B l.length d] 25))
          have HCB6 := aq (Kd.C_alloc HCB.out (.cells #[.int .u64 en, .int .u64 st, .slice B l.length d] 25))
          clear HB5 HX5 HCB HB4 HX4
          generalize w5.alloc (.cells #[.int .u64 en, .int .u64 st, .slice B l.length d] 25) = w6 at *
          generalize w5.heap.size = Y at *
          go_upto_region 8 with (go_at_call 13; refine (HG2.out _).mono ?_; rintro e w7 ⟨hb, a3, b3, B3, n3, d3, rfl⟩; have HB7 := aq (below_step HB6.out hb); have HX7 := aq (blk_below HX6.out hb); have HY7 := aq (blk_below HY.out hb); have HCB7 := aq (Kd.C_below HCB6.out hb); clear hb)
          have HB8 := aq (below_alloc HB7.out (.cells #[.int .u64 a3, .int .u64 b3, .slice B3 n3 d3] 25))
          have HX8 := aq (blk_alloc HX7.out (.cells #[.int .u64 a3, .int .u64 b3, .slice B3 n3 d3] 25))
          have HY8 := aq (blk_alloc HY7.out (.cells #[.int .u64 a3, .int .u64 b3, .slice B3 n3 d3] 25))
          have HCB8 := aq (Kd.C_alloc HCB7.out (.cells #[.int .u64 a3, .int .u64 b3, .slice B3 n3 d3] 25))
          clear HB6 HX6 HY HCB6 HB7 HX7 HY7 HCB7
          generalize w7.alloc (.cells #[.int .u64 a3, .int .u64 b3, .slice B3 n3 d3] 25) = w8 at *
          have x0 : w8.cell? ⟨W.heap.size, 0, none⟩ = some (.int .u64 en) := (blk_cell HX8.out 0).trans rfl
          have x1 : w8.cell? ⟨W.heap.size, 1, none⟩ = some (.int .u64 st) := (blk_cell HX8.out 1).trans rfl
          have x2 : w8.cell? ⟨W.heap.size, 2, none⟩ = some (.slice A l.length c) := (blk_cell HX8.out 2).trans rfl
          have y0 : w8.cell? ⟨Y, 0, none⟩ = some (.int .u64 en) := (blk_cell HY8.out 0).trans rfl
          have y1 : w8.cell? ⟨Y, 1, none⟩ = some (.int .u64 st) := (blk_cell HY8.out 1).trans rfl
          have y2 : w8.cell? ⟨Y, 2, none⟩ = some (.slice B l.length d) := (blk_cell HY8.out 2).trans rfl
          go_upto_region 10 with (go_at_call 14; refine (HSM.out _ B d HB8.out HCB8.out HLD.out).mono ?_; rintro e w9 ⟨rfl, hb⟩; have HB9 := aq (below_step HB8.out hb); clear hb)
          clear x0 x1 x2 y0 y1 y2 HX8 HY8 HCB8 HB8
          by_cases ha0 : at_ < 0
          · go_wp2_with (go_at_call 11; refine (HS.out _ HB9.out).mono ?_; rintro e wa ⟨rfl, hb⟩; have HBa := aq (below_step HB9.out hb); clear hb)
            go_ret
            exact ⟨rfl, HBa.out⟩
          · by_cases ha1 : at_ ≥ (s1.size : Int)
            · go_wp2_with (go_at_call 11; refine (HS.out _ HB9.out).mono ?_; rintro e wa ⟨rfl, hb⟩; have HBa := aq (below_step HB9.out hb); clear hb)
              go_ret
              exact ⟨rfl, HBa.out⟩
            · have h0 : 0 ≤ at_ := by omega
              have h1 : at_ ≤ (s1.size : Int) := by omega
              have m0 : decide (0 ≤ at_) = true := decide_eq_true h0
              have m1 : decide (at_ ≤ (s1.size : Int)) = true := decide_eq_true h1
              go_upto_region 13 with (go_at_call 13; refine (HG3.out _ h0 (by omega)).mono ?_; rintro e wa ⟨hb, B4, d4, rfl⟩; have HBa := aq (below_step HB9.out hb); clear hb)
              have HBb := aq (below_alloc HBa.out (.cells #[.int .u64 0, .int .u64 0, .slice B4 0 d4] 25))
              go_wp2_with (go_at_call 11; refine (HS.out _ HBb.out).mono ?_; rintro e wc ⟨rfl, hb⟩; have HBc := aq (below_step HBb.out hb); clear hb)
              go_ret
              exact ⟨rfl, HBc.out⟩
        · have hmd : more.data.toList ≠ [] := by intro h; have := bsz more; rw [h] at this; exact hmz this.symm
          obtain rfl : gg = 3 := by rw [if_neg hmd] at hg2; rw [← hgg, hg2]
          have z3 : more.toList.isEmpty = false := by rw [ByteArray.toList_eq]; cases hq : more.data.toList with | nil => exact absurd hq hmd | cons a b => rfl
          clear hg2 hgg p1 n1 hk hn hs1 hd1 hmd hmz
          go_enter Tryz.func3, Tryz.ntmps3
          go_upto_region 1 with fail
          generalize W.alloc (.cells #[.int .u64 en, .int .u64 st, .slice A l.length c] 25) = W0 at *
          go_upto_region 3 with (go_at_call 9; refine (HB1.out _ HB0.out).mono ?_; rintro e w3 ⟨rfl, hb⟩; have HB3 := aq (below_step HB0.out hb); have HX3 := aq (blk_below HX0.out hb); clear hb)
          clear x0 x1 x2 HX0 HB0
          have x0 : w3.cell? ⟨W.heap.size, 0, none⟩ = some (.int .u64 en) := (blk_cell HX3.out 0).trans rfl
          have x1 : w3.cell? ⟨W.heap.size, 1, none⟩ = some (.int .u64 st) := (blk_cell HX3.out 1).trans rfl
          have x2 : w3.cell? ⟨W.heap.size, 2, none⟩ = some (.slice A l.length c) := (blk_cell HX3.out 2).trans rfl
          go_upto_region 4 with (go_at_call 10; refine (HP1.out _ HB3.out).mono ?_; rintro e w4 ⟨rfl, hb⟩; have HB4 := aq (below_step HB3.out hb); have HX4 := aq (blk_below HX3.out hb); clear hb)
          clear x0 x1 x2 HX3 HB3
          go_upto_region 6 with fail
          go_upto_region 7 with (go_at_call 13; refine (HG1.out _).mono ?_; rintro e w5 ⟨hb, B, d, rfl, hB, hd⟩; have HB5 := aq (below_step HB4.out hb); have HX5 := aq (blk_below HX4.out hb); have HCB := aq hB; have HLD := aq hd; clear hb hB hd)
          have HY := aq (blk_new w5 (.cells #[.int .u64 en, .int .u64 st, .slice B l.length d] 25))
          have HB6 := aq (below_alloc HB5.out (.cells #[.int .u64 en, .int .u64 st, .slice B l.length d] 25))
          have HX6 := aq (blk_alloc HX5.out (.cells #[.int .u64 en, .int .u64 st, .slice B l.length d] 25))
          have HCB6 := aq (Kd.C_alloc HCB.out (.cells #[.int .u64 en, .int .u64 st, .slice B l.length d] 25))
          clear HB5 HX5 HCB HB4 HX4
          generalize w5.alloc (.cells #[.int .u64 en, .int .u64 st, .slice B l.length d] 25) = w6 at *
          generalize w5.heap.size = Y at *
          go_upto_region 8 with (go_at_call 13; refine (HG2.out _).mono ?_; rintro e w7 ⟨hb, a3, b3, B3, n3, d3, rfl⟩; have HB7 := aq (below_step HB6.out hb); have HX7 := aq (blk_below HX6.out hb); have HY7 := aq (blk_below HY.out hb); have HCB7 := aq (Kd.C_below HCB6.out hb); clear hb)
          have HB8 := aq (below_alloc HB7.out (.cells #[.int .u64 a3, .int .u64 b3, .slice B3 n3 d3] 25))
          have HX8 := aq (blk_alloc HX7.out (.cells #[.int .u64 a3, .int .u64 b3, .slice B3 n3 d3] 25))
          have HY8 := aq (blk_alloc HY7.out (.cells #[.int .u64 a3, .int .u64 b3, .slice B3 n3 d3] 25))
          have HCB8 := aq (Kd.C_alloc HCB7.out (.cells #[.int .u64 a3, .int .u64 b3, .slice B3 n3 d3] 25))
          clear HB6 HX6 HY HCB6 HB7 HX7 HY7 HCB7
          generalize w7.alloc (.cells #[.int .u64 a3, .int .u64 b3, .slice B3 n3 d3] 25) = w8 at *
          have x0 : w8.cell? ⟨W.heap.size, 0, none⟩ = some (.int .u64 en) := (blk_cell HX8.out 0).trans rfl
          have x1 : w8.cell? ⟨W.heap.size, 1, none⟩ = some (.int .u64 st) := (blk_cell HX8.out 1).trans rfl
          have x2 : w8.cell? ⟨W.heap.size, 2, none⟩ = some (.slice A l.length c) := (blk_cell HX8.out 2).trans rfl
          have y0 : w8.cell? ⟨Y, 0, none⟩ = some (.int .u64 en) := (blk_cell HY8.out 0).trans rfl
          have y1 : w8.cell? ⟨Y, 1, none⟩ = some (.int .u64 st) := (blk_cell HY8.out 1).trans rfl
          have y2 : w8.cell? ⟨Y, 2, none⟩ = some (.slice B l.length d) := (blk_cell HY8.out 2).trans rfl
          go_upto_region 10 with (go_at_call 14; refine (HSM.out _ B d HB8.out HCB8.out HLD.out).mono ?_; rintro e w9 ⟨rfl, hb⟩; have HB9 := aq (below_step HB8.out hb); clear hb)
          clear x0 x1 x2 y0 y1 y2 HX8 HY8 HCB8 HB8
          by_cases ha0 : at_ < 0
          · go_wp2_with (go_at_call 11; refine (HS.out _ HB9.out).mono ?_; rintro e wa ⟨rfl, hb⟩; have HBa := aq (below_step HB9.out hb); clear hb)
            go_ret
            exact ⟨rfl, HBa.out⟩
          · by_cases ha1 : at_ ≥ (s1.size : Int)
            · go_wp2_with (go_at_call 11; refine (HS.out _ HB9.out).mono ?_; rintro e wa ⟨rfl, hb⟩; have HBa := aq (below_step HB9.out hb); clear hb)
              go_ret
              exact ⟨rfl, HBa.out⟩
            · have h0 : 0 ≤ at_ := by omega
              have h1 : at_ ≤ (s1.size : Int) := by omega
              have m0 : decide (0 ≤ at_) = true := decide_eq_true h0
              have m1 : decide (at_ ≤ (s1.size : Int)) = true := decide_eq_true h1
              go_upto_region 13 with (go_at_call 13; refine (HG3.out _ h0 (by omega)).mono ?_; rintro e wa ⟨hb, B4, d4, rfl⟩; have HBa := aq (below_step HB9.out hb); clear hb)
              have HBb := aq (below_alloc HBa.out (.cells #[.int .u64 0, .int .u64 0, .slice B4 0 d4] 25))
              go_wp2_with (go_at_call 11; refine (HS.out _ HBb.out).mono ?_; rintro e wc ⟨rfl, hb⟩; have HBc := aq (below_step HBb.out hb); clear hb)
              go_ret
              exact ⟨rfl, HBc.out⟩
    · have dm : (more.size : Int) > 100 := by omega
      go_enter Tryz.func3, Tryz.ntmps3
      go_upto_region 1 with fail
      generalize W.alloc (.cells #[.int .u64 en, .int .u64 st, .slice A l.length c] 25) = W0 at *
      go_wp2_with (go_at_call 9; refine (HB1.out _ HB0.out).mono ?_; rintro e w3 ⟨rfl, hb⟩; have HB3 := aq (below_step HB0.out hb); have HX3 := aq (blk_below HX0.out hb); clear hb)
      go_ret
      exact ⟨rfl, HB3.out⟩
end Go.Proofs.YtflojfcioojgbaaGreatDoor.Pure
