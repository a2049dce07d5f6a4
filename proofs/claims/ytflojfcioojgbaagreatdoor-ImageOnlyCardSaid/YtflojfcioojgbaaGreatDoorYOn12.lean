/- Written for this claim by a program of this session: what the claim uses of lemmas and proved contracts of Go functions. -/
import Derived.Test.YtflojfcioojgbaaGreatDoorYOn11
namespace Go.Proofs.YtflojfcioojgbaaGreatDoor.IM
open Go.RowKit Go.Proofs.YtflojfcioojgbaaGreatDoor.P Go.Proofs.YtflojfcioojgbaaGreatDoorW.PrintWords Go.Proofs.YtflojfcioojgbaaGreatDoorW.PrintLast Go.Proofs.YtflojfcioojgbaaGreatDoorW.PrintMore Go.Proofs.YtflojfcioojgbaaGreatDoor.MW Go.Proofs.YtflojfcioojgbaaGreatDoor.M Go.Proofs.YtflojfcioojgbaaGreatDoor.ST
set_option linter.unusedVariables false
set_option linter.unusedSimpArgs false
def exX : IMG := ⟨4, 0, []⟩
def exB : ByteArray := ⟨#[67, 76, 73, 77, 71, 1, 4, 0, 0]⟩
def exB8 : ByteArray := ⟨#[67, 76, 73, 77, 71, 1, 4, 0]⟩
theorem exX_nums : exX.nums := ⟨by decide, by decide, by decide, by decide, fun r hr => by cases hr⟩
theorem exX_new : newV ([] ++ [stk 0]) = 0 := by
  have hz : badR (stk 0) = false := by
    unfold badR stk
    simp [zs_size]
  have ha : ([] ++ [stk 0]).any badR = false := by
    show (badR (stk 0) || false) = false
    rw [hz]
    rfl
  have hf : ([] ++ [stk 0]).any farR = false := by rfl
  unfold newV
  rw [if_neg (by rw [ha]; decide), if_neg (by rw [hf]; decide), if_pos (by rfl)]
theorem exX_ok : okI exX = true := decide_eq_true ⟨by decide, by decide, by decide, by decide, by decide, rfl, exX_new⟩
theorem exX_put : putI exX = exB.data.toList := by
  unfold putI exX magicL
  have h4 : wire_putL 4 = [4] := by rw [wire_putL_less 4 (by decide)]; rfl
  have h0 : wire_putL 0 = [0] := by rw [wire_putL_less 0 (by decide)]; rfl
  simp only [List.length_nil]
  rw [show (4 : Int).toNat = 4 from rfl, show (0 : Int).toNat = 0 from rfl, h4, h0]
  rfl
theorem exX_get : getI exB = (exX, 0) := by
  have h := getI_put exX_nums exX_ok [] exB (by rw [List.append_nil, exX_put])
  rwa [if_pos rfl] at h
theorem exX_get8 : getI exB8 = (zeroI, 3) := by
  have h := getI_short exX_nums exX_ok exB exB8 exX_put.symm 8 (by rw [exX_put]; decide) rfl
  exact getI_bad (by rw [h]; decide)
theorem ex2_no : okI ⟨2, 0, []⟩ = false := decide_eq_false (fun h => absurd h.1 (by decide))
theorem ex2_nums : IMG.nums ⟨2, 0, []⟩ := ⟨by decide, by decide, by decide, by decide, fun r hr => by cases hr⟩
theorem nil_C (w : World) (A : Option Addr) : Kd.C k57 w A 0 ([] : List S57) := ⟨rfl, by decide, fun h => absurd h (by decide)⟩
theorem ex_put_at (w : World) : Calls Tryz.prog 10 #[.agg #[.int .u64 4, .int .u64 0, .slice none 0 0]] w fun e w' => e = .returned (.tuple #[.string ⟨#[67, 76, 73, 77, 71, 1, 4, 0, 0]⟩, .int .i64 0]) ∧ Below w.heap.size w w' := by
  refine (putI_at w 4 0 none 0 [] (nil_C _ _) (Nat.le_refl _) (by decide) exX_nums).mono ?_
  rintro e w' ⟨hb, rfl⟩
  refine ⟨?_, hb⟩
  have e1 : okI ⟨4, 0, []⟩ = true := exX_ok
  have e2 : putI ⟨4, 0, []⟩ = exB.data.toList := exX_put
  rw [e1, e2]
  rfl
theorem ex_get_at (w : World) : Calls Tryz.prog 13 #[.string ⟨#[67, 76, 73, 77, 71, 1, 4, 0, 0]⟩] w fun e w' => Below w.heap.size w w' ∧ ∃ A c, e = .returned (.tuple #[.agg #[.int .u64 4, .int .u64 0, .slice A 0 c], .int .i64 0]) := by
  refine (get_at w ⟨#[67, 76, 73, 77, 71, 1, 4, 0, 0]⟩ (by decide)).mono ?_
  rintro e w' ⟨hb, v, rfl, hr⟩
  rw [show getI ⟨#[67, 76, 73, 77, 71, 1, 4, 0, 0]⟩ = (exX, 0) from exX_get] at hr ⊢
  obtain ⟨A, c, rfl⟩ := Kd.R_slice hr
  exact ⟨hb, A, c, rfl⟩
theorem ex_get8_at (w : World) : Calls Tryz.prog 13 #[.string exB8] w fun e w' => Below w.heap.size w w' ∧ ∃ A c, e = .returned (.tuple #[.agg #[.int .u64 0, .int .u64 0, .slice A 0 c], .int .i64 3]) := by
  refine (get_at w exB8 (by decide)).mono ?_
  rintro e w' ⟨hb, v, rfl, hr⟩
  rw [exX_get8] at hr ⊢
  obtain ⟨A, c, rfl⟩ := Kd.R_slice hr
  exact ⟨hb, A, c, rfl⟩
theorem ex_load_at (w : World) : Calls Tryz.prog 21 #[.agg #[.int .u64 2, .int .u64 0, .slice none 0 0]] w fun e w' => e = .returned (.tuple #[.pointer none, .agg CPU.zero.a, .int .i64 1]) ∧ Below w.heap.size w w' :=
  load_off w 2 0 none 0 [] (nil_C _ _) (Nat.le_refl _) (by decide) ex2_nums ex2_no
theorem ex_is_at (w : World) (A : Option Addr) (c : Nat) : Calls Tryz.prog 12 #[.agg #[.int .u64 4, .int .u64 0, .slice A 0 c]] w fun e w' => e = .returned (.bool true) ∧ Below w.heap.size w w' := by
  have h := is_at w 4 0 A c [] (nil_C _ _) (Nat.zero_le _) (by decide) exX_nums
  have e1 : okI ⟨4, 0, []⟩ = true := exX_ok
  rw [e1] at h
  exact h
theorem ex_same_at (w : World) (B : Option Addr) (cb : Nat) : Calls Tryz.prog 16 #[.agg (trA (.slice B 0 cb) exT), .agg (trA (.slice none 0 0) exT)] w fun e w' => e = .returned (.bool true) ∧ Below w.heap.size w w' :=
  same_calls B none cb 0 exT w ⟨rfl, by decide, fun h => absurd h (by decide)⟩ (Nat.zero_le _) ⟨rfl, by decide, fun h => absurd h (by decide)⟩ (Nat.zero_le _) (by decide)
theorem one_Cr (w : World) (r : S57) : Kd.C k57 (w.alloc (.cells #[.int .u64 r.f0, .int .i64 r.f1, .string r.f2] 57)) (some ⟨w.heap.size, 0, none⟩) 1 [r] := by
  refine ⟨rfl, by decide, fun _ => ⟨_, rfl, ?_⟩⟩
  intro j p hj
  cases j with
  | zero =>
    have e : p = r := by simpa using hj.symm
    subst e
    refine ⟨[.int .u64 p.f0, .int .i64 p.f1, .string p.f2], rfl, k57_mk _ _, fun i u hu => ?_⟩
    have h := blk_cell (blk_new w (.cells #[.int .u64 p.f0, .int .i64 p.f1, .string p.f2] 57)) i
    have e : (⟨w.heap.size, 0, none⟩ : Addr).add (0 * k57.sz + i) = ⟨w.heap.size, i, none⟩ := by
      rw [Nat.zero_mul, Nat.zero_add]
      simp only [Addr.add]
      split <;> simp_all
    rw [e, h]
    simpa using hu
  | succ j => simp at hj
theorem ex_run_at (w : World) (hTab : TabW w) : Calls Tryz.prog 15 #[.agg #[.int .u64 64, .int .u64 8192, .slice (some ⟨w.heap.size, 0, none⟩) 1 1], .int .i64 5] (w.alloc (.cells #[.int .u64 64, .int .i64 1, .string exS] 57)) fun e w' => Below (w.alloc (.cells #[.int .u64 64, .int .i64 1, .string exS] 57)).heap.size (w.alloc (.cells #[.int .u64 64, .int .i64 1, .string exS] 57)) w' ∧ ∃ B cb, e = .returned (.agg (trA (.slice B 0 cb) exT)) :=
  exrun_at (w.alloc (.cells #[.int .u64 64, .int .i64 1, .string exS] 57)) (TabW.below hTab (below_alloc (Below.refl _ _) _)) _ 1 (one_Cr w exR) (Nat.le_refl _)
set_option maxHeartbeats 2000000 in
set_option maxRecDepth 100000 in
theorem stored_calls (w : World) (hTab : TabW w) : Calls Tryz.prog 11 #[] w fun e w' => e = .returned (.bool true) ∧ Below w.heap.size w w' := by
  have HT := aq (fun (W : World) (hb : Below w.heap.size w W) => TabW.below hTab hb)
  clear hTab
  go_enter Tryz.func11, Tryz.ntmps11
  go_upto_region 2 with (go_at_call 10; refine (ex_put_at _).mono ?_; rintro e w1 ⟨rfl, hb⟩; have HB1 := aq hb; clear hb)
  go_upto_region 3 with (go_at_call 13; refine (ex_get_at _).mono ?_; rintro e w2 ⟨hb, A2, c2, rfl⟩; have HB2 := aq (below_step HB1.out hb); clear hb HB1)
  have HX := aq (blk_new w2 (.cells #[.int .u64 4, .int .u64 0, .slice A2 0 c2] 25))
  have HB3 := aq (below_alloc HB2.out (.cells #[.int .u64 4, .int .u64 0, .slice A2 0 c2] 25))
  clear HB2
  generalize w2.alloc (.cells #[.int .u64 4, .int .u64 0, .slice A2 0 c2] 25) = w3 at *
  generalize w2.heap.size = X at *
  go_upto_region 4 with (go_at_call 13; refine (ex_get8_at _).mono ?_; rintro e w4 ⟨hb, A4, c4, rfl⟩; have HB4 := aq (below_step HB3.out hb); have HX4 := aq (blk_below HX.out hb); clear hb HB3 HX)
  have HX5 := aq (blk_alloc HX4.out (.cells #[.int .u64 0, .int .u64 0, .slice A4 0 c4] 25))
  have HB5 := aq (below_alloc HB4.out (.cells #[.int .u64 0, .int .u64 0, .slice A4 0 c4] 25))
  clear HB4 HX4
  generalize w4.alloc (.cells #[.int .u64 0, .int .u64 0, .slice A4 0 c4] 25) = w5 at *
  go_upto_region 5 with (first | (go_at_call 15; refine (ex_run_at _ (HT.out _ HB5.out)).mono ?_; rintro e w6 ⟨hb, B, cb, rfl⟩; have HB6 := aq (below_step (below_alloc HB5.out _) hb); have HX6 := aq (blk_below (blk_alloc HX5.out _) hb); clear hb HB5 HX5) | ((with_reducible refine gate_store (t := 38) (p := 7) (v := .tmp 28) rfl ?_); refine wpList_store_mid rfl 38 (.tmp 7) (.tmp 28) rfl w6.heap.size 0 (trA (.slice B 0 cb) exT) rfl rfl (there_blk (blk_new w6 (.cells (trA (.slice none 0 0) .zero) 38)) 0 5 (by decide)) info_tr (by simp [trA, Value.oneCell']) ?_))
  change Code.wp _ _ _ _ ((w6.alloc (.cells (trA (.slice none 0 0) .zero) 38)).setCells w6.heap.size 0 (trA (.slice B 0 cb) exT).toList)
  have HX7 := aq (blk_sets_far (trA (.slice B 0 cb) exT).toList 0 (Nat.ne_of_lt (blk_lt HX6.out)) (blk_alloc HX6.out (.cells (trA (.slice none 0 0) .zero) 38)))
  have HT7 := aq (tr_sets' (v' := .slice B 0 cb) (t' := exT) (blk_new w6 (.cells (trA (.slice none 0 0) .zero) 38)))
  have HB7 := aq (below_sets HB6.out.size (trA (.slice B 0 cb) exT).toList 0 (below_alloc HB6.out (.cells (trA (.slice none 0 0) .zero) 38)))
  clear HB6 HX6
  generalize (w6.alloc (.cells (trA (.slice none 0 0) .zero) 38)).setCells w6.heap.size 0 (trA (.slice B 0 cb) exT).toList = w7 at *
  generalize w6.heap.size = T7 at *
  go_upto_region 6 with (first | (go_at_call 21; refine (ex_load_at _).mono ?_; rintro e w8 ⟨rfl, hb⟩; have HB8 := aq (below_step HB7.out hb); have HX8 := aq (blk_below HX7.out hb); have HT8 := aq (blk_below HT7.out hb); clear hb HB7 HX7 HT7) | ((with_reducible refine gate_store (t := 49) (p := 9) (v := .tmp 33) rfl ?_); refine wpList_store_mid rfl 49 (.tmp 9) (.tmp 33) rfl w8.heap.size 0 CPU.zero.a rfl rfl (there_blk (blk_new w8 (.cells CPU.zero.a 49)) 0 37 (by decide)) info_cpu CPU.zero.one ?_))
  change Code.wp _ _ _ _ ((w8.alloc (.cells CPU.zero.a 49)).setCells w8.heap.size 0 CPU.zero.l)
  have HX9 := aq (blk_sets_far CPU.zero.l 0 (Nat.ne_of_lt (blk_lt HX8.out)) (blk_alloc HX8.out (.cells CPU.zero.a 49)))
  have HT9 := aq (blk_sets_far CPU.zero.l 0 (Nat.ne_of_lt (blk_lt HT8.out)) (blk_alloc HT8.out (.cells CPU.zero.a 49)))
  have HB9 := aq (below_sets HB8.out.size CPU.zero.l 0 (below_alloc HB8.out (.cells CPU.zero.a 49)))
  clear HB8 HX8 HT8
  generalize (w8.alloc (.cells CPU.zero.a 49)).setCells w8.heap.size 0 CPU.zero.l = w9 at *
  have x0 : w9.cell? ⟨X, 0, none⟩ = some (.int .u64 4) := (blk_cell HX9.out 0).trans rfl
  have x1 : w9.cell? ⟨X, 1, none⟩ = some (.int .u64 0) := (blk_cell HX9.out 1).trans rfl
  have x2 : w9.cell? ⟨X, 2, none⟩ = some (.slice A2 0 c2) := (blk_cell HX9.out 2).trans rfl
  have t0 : w9.cell? ⟨T7, 0, none⟩ = some (.slice B 0 cb) := (blk_cell HT9.out 0).trans rfl
  have t1 : w9.cell? ⟨T7, 1, none⟩ = some (.bool true) := (blk_cell HT9.out 1).trans rfl
  have t2 : w9.cell? ⟨T7, 2, none⟩ = some (.int .u64 0) := (blk_cell HT9.out 2).trans rfl
  have t3 : w9.cell? ⟨T7, 3, none⟩ = some (.int .i64 1) := (blk_cell HT9.out 3).trans rfl
  have t4 : w9.cell? ⟨T7, 4, none⟩ = some (.int .i64 0) := (blk_cell HT9.out 4).trans rfl
  go_wp2_with (first | (go_at_call 16; refine (ex_same_at _ B cb).mono ?_; rintro e wa ⟨rfl, hb⟩; have HBa := aq (below_step HB9.out hb); have HXa := aq (blk_below HX9.out hb); have y0 := (blk_cell HXa.out 0).trans rfl; have y1 := (blk_cell HXa.out 1).trans rfl; have y2 := (blk_cell HXa.out 2).trans rfl; clear hb) | (go_at_call 12; refine (ex_is_at _ A2 c2).mono ?_; rintro e wb ⟨rfl, hb⟩; have HBb := aq (below_step HBa.out hb); clear hb))
  go_ret
  exact ⟨rfl, HBb.out⟩
end Go.Proofs.YtflojfcioojgbaaGreatDoor.IM
namespace Go.Proofs.YtflojfcioojgbaaGreatDoor.Pure
open Go.RowKit Go.Proofs.YtflojfcioojgbaaGreatDoor.P Go.Proofs.YtflojfcioojgbaaGreatDoorW.PrintWords Go.Proofs.YtflojfcioojgbaaGreatDoorW.PrintLast Go.Proofs.YtflojfcioojgbaaGreatDoorW.PrintMore Go.Proofs.YtflojfcioojgbaaGreatDoor.MW Go.Proofs.YtflojfcioojgbaaGreatDoor.M Go.Proofs.YtflojfcioojgbaaGreatDoor.ST Go.Proofs.YtflojfcioojgbaaGreatDoor.IM
set_option linter.unusedVariables false
set_option linter.unusedSimpArgs false
set_option maxHeartbeats 2000000 in
set_option maxRecDepth 100000 in
theorem ImageOnly_walk (a0 : ByteArray) (W : World) (w0 : a0.size ≤ 140737488351232) (hTab : TabW W) :
    Calls Tryz.prog 4 #[.string a0] W fun e w' => e = .returned (.bool true) ∧ Below W.heap.size W w' := by
  by_cases hs : a0.size ≤ 6000
  · have d1 : ¬ (a0.size : Int) > 6000 := by omega
    have HS := aq (fun (U : World) (hb : Below W.heap.size W U) => stored_calls U (TabW.below hTab hb))
    have HG := aq (IM.get_at W a0 (by omega))
    clear hTab w0
    by_cases he : (getI a0).2 = 0
    · obtain ⟨h1, h2, h3, h4⟩ := getI_only he
      generalize hx : (getI a0).1 = x at *
      obtain ⟨en, st, l⟩ := x
      have hl : l.length ≤ 300 := by have := okI_len h1; simp only at this; omega
      have hg : getI a0 = (⟨en, st, l⟩, 0) := Prod.ext hx he
      have HP := aq (fun (U : World) (A : Option Addr) (c : Nat) (hC : Kd.C k57 U A l.length l) (hc : l.length ≤ c) => show Calls Tryz.prog 10 #[.agg #[.int .u64 en, .int .u64 st, .slice A l.length c]] U fun e w' => e = .returned (.tuple #[.string a0, .int .i64 0]) ∧ Below U.heap.size U w' from by
        refine (putI_at U en st A c l hC hc hl h2).mono ?_
        rintro e w' ⟨hb, rfl⟩
        refine ⟨?_, hb⟩
        rw [h1, if_pos rfl, if_pos rfl, show (⟨(putI ⟨en, st, l⟩).toArray⟩ : ByteArray) = a0 from bytes_eq (by rw [h3])])
      have HI := aq (fun (U : World) (A : Option Addr) (c : Nat) (hC : Kd.C k57 U A l.length l) (hc : l.length ≤ c) => show Calls Tryz.prog 12 #[.agg #[.int .u64 en, .int .u64 st, .slice A l.length c]] U fun e w' => e = .returned (.bool true) ∧ Below U.heap.size U w' from by
        have h := is_at U en st A c l hC hc hl h2
        rw [h1] at h
        exact h)
      have HG2 := aq (show Calls Tryz.prog 13 #[.string a0] W fun e w' => Below W.heap.size W w' ∧ ∃ A c, e = .returned (.tuple #[.agg #[.int .u64 en, .int .u64 st, .slice A l.length c], .int .i64 0]) ∧ Kd.C k57 w' A l.length l ∧ l.length ≤ c from by
        refine HG.out.mono ?_
        rintro e w' ⟨hb, v, rfl, hr⟩
        rw [hg] at hr ⊢
        obtain ⟨A, c, rfl, hlc, hC⟩ := Kd.R_reads hr
        exact ⟨hb, A, c, rfl, hC, hlc⟩)
      clear HG h1 h2 h3 h4 hx hg he hl
      go_enter Tryz.func4, Tryz.ntmps4
      go_upto_region 4 with (go_at_call 13; refine HG2.out.mono ?_; rintro e w1 ⟨hb, A, c, rfl, hC, hlc⟩; have HB1 := aq hb; have HC1 := aq hC; have HLC := aq hlc; clear hb hC hlc)
      have HX := aq (blk_new w1 (.cells #[.int .u64 en, .int .u64 st, .slice A l.length c] 25))
      have HB2 := aq (below_alloc HB1.out (.cells #[.int .u64 en, .int .u64 st, .slice A l.length c] 25))
      have HC2 := aq (Kd.C_alloc HC1.out (.cells #[.int .u64 en, .int .u64 st, .slice A l.length c] 25))
      clear HB1 HC1
      generalize w1.alloc (.cells #[.int .u64 en, .int .u64 st, .slice A l.length c] 25) = w2 at *
      generalize w1.heap.size = X at *
      have x0 : w2.cell? ⟨X, 0, none⟩ = some (.int .u64 en) := (blk_cell HX.out 0).trans rfl
      have x1 : w2.cell? ⟨X, 1, none⟩ = some (.int .u64 st) := (blk_cell HX.out 1).trans rfl
      have x2 : w2.cell? ⟨X, 2, none⟩ = some (.slice A l.length c) := (blk_cell HX.out 2).trans rfl
      go_upto_region 7 with (go_at_call 10; refine (HP.out w2 A c HC2.out HLC.out).mono ?_; rintro e w3 ⟨rfl, hb⟩; have HX3 := aq (blk_below HX.out hb); have HC3 := aq (Kd.C_below HC2.out hb); have HB3 := aq (below_step HB2.out hb); clear hb)
      clear x0 x1 x2 HX HC2 HB2
      go_wp2_with (first | (go_at_call 11; refine (HS.out _ HB3.out).mono ?_; rintro e w4 ⟨rfl, hb⟩; have HX4 := aq (blk_below HX3.out hb); have HC4 := aq (Kd.C_below HC3.out hb); have HB4 := aq (below_step HB3.out hb); clear hb; have x0 : w4.cell? ⟨X, 0, none⟩ = some (.int .u64 en) := (blk_cell HX4.out 0).trans rfl; have x1 : w4.cell? ⟨X, 1, none⟩ = some (.int .u64 st) := (blk_cell HX4.out 1).trans rfl; have x2 : w4.cell? ⟨X, 2, none⟩ = some (.slice A l.length c) := (blk_cell HX4.out 2).trans rfl) | (go_at_call 12; refine (HI.out w4 A c HC4.out HLC.out).mono ?_; rintro e w5 ⟨rfl, hb⟩; have HB5 := aq (below_step HB4.out hb); clear hb))
      go_ret
      exact ⟨rfl, HB5.out⟩
    · have hg := getI_bad he
      have HG2 := aq (show Calls Tryz.prog 13 #[.string a0] W fun e w' => Below W.heap.size W w' ∧ ∃ A c, e = .returned (.tuple #[.agg #[.int .u64 0, .int .u64 0, .slice A 0 c], .int .i64 3]) from by
        refine HG.out.mono ?_
        rintro e w' ⟨hb, v, rfl, hr⟩
        rw [hg] at hr ⊢
        obtain ⟨A, c, rfl⟩ := Kd.R_slice hr
        exact ⟨hb, A, c, rfl⟩)
      clear HG hg he
      go_enter Tryz.func4, Tryz.ntmps4
      go_upto_region 4 with (go_at_call 13; refine HG2.out.mono ?_; rintro e w1 ⟨hb, A, c, rfl⟩; have HB1 := aq hb; clear hb)
      have HX := aq (blk_new w1 (.cells #[.int .u64 0, .int .u64 0, .slice A 0 c] 25))
      have HB2 := aq (below_alloc HB1.out (.cells #[.int .u64 0, .int .u64 0, .slice A 0 c] 25))
      clear HB1
      generalize w1.alloc (.cells #[.int .u64 0, .int .u64 0, .slice A 0 c] 25) = w2 at *
      generalize w1.heap.size = X at *
      go_wp2_with (go_at_call 11; refine (HS.out _ HB2.out).mono ?_; rintro e w4 ⟨rfl, hb⟩; have HX4 := aq (blk_below HX.out hb); have HB4 := aq (below_step HB2.out hb); clear hb; have x2 : w4.cell? ⟨X, 2, none⟩ = some (.slice A 0 c) := (blk_cell HX4.out 2).trans rfl)
      go_ret
      exact ⟨rfl, HB4.out⟩
  · have d1 : (a0.size : Int) > 6000 := by omega
    go_enter Tryz.func4, Tryz.ntmps4
    go_wp2
    go_ret
    exact ⟨rfl, Below.refl _ _⟩
end Go.Proofs.YtflojfcioojgbaaGreatDoor.Pure
