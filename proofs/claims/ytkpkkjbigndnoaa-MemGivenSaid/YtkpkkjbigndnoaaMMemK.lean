/- The chapter's example (chapter 7), and whether regions are too many. -/
import Derived.Test.YtkpkkjbigndnoaaMMemL
import Derived.Test.YtkpkkjbigndnoaaPx1
namespace Go.Proofs.Ytkpkkjbigndnoaa.MW
open Go.RowKit Go.Proofs.Ytkpkkjbigndnoaa.P Go.Proofs.YtkpkkjbigndnoaaW.PrintWords Go.Proofs.YtkpkkjbigndnoaaW.PrintLast Go.Proofs.YtkpkkjbigndnoaaW.PrintMore
set_option linter.unusedVariables false
set_option linter.unusedSimpArgs false
theorem one_region {w : World} {o : Obj} (r : S37) (ho : o = .cells #[.int .u64 r.f0, .int .i64 r.f1, .string r.f2] 37 (0, 0)) : Kd.C k37 (w.alloc o) (some ⟨w.heap.size, 0, none⟩) ([r] : List S37).length [r] := by
  subst ho
  refine ⟨rfl, by simp, fun _ => ⟨_, rfl, fun j p hj => ⟨[.int .u64 p.f0, .int .i64 p.f1, .string p.f2], rfl, k37_mk _ p, fun i u hu => ?_⟩⟩⟩
  obtain ⟨rfl, rfl⟩ : j = 0 ∧ p = r := by
    cases j with
    | zero => simp at hj; exact ⟨rfl, hj.symm⟩
    | succ j => simp at hj
  have ht := top_ w (.cells #[.int .u64 p.f0, .int .i64 p.f1, .string p.f2] 37 (0, 0))
  have hc := blk_cell ht i
  have e : (⟨w.heap.size, 0, none⟩ : Addr).add (0 * k37.sz + i) = ⟨w.heap.size, i, none⟩ := by
    rw [Nat.zero_mul, Nat.zero_add]
    unfold Addr.add
    split <;> simp_all
  rw [e, hc]
  simpa using hu
def keptR : S37 := ⟨16, 3, ⟨#[1, 2, 3, 4, 5, 6, 7, 8, 9]⟩⟩
def keptL : List MP := [⟨16, 3, [1, 2, 3, 4, 5, 6, 7, 8, 9]⟩]
theorem kept_new : newV [keptR] = 0 := by decide +kernel
theorem kept_mem : memL [keptR] = keptL := by rfl
theorem kept_1 : mload keptL 16 8 = (578437695752307201, 0) := by decide +kernel
theorem kept_2 : mload keptL 17 8 = (650777868590383874, 0) := by decide +kernel
theorem kept_3 : mload keptL 18 8 = (0, 4) := by decide +kernel
theorem kept_4 : mstore keptL 24 1 258 = (0, [⟨16, 3, [1, 2, 3, 4, 5, 6, 7, 8, 2]⟩]) := by rfl
theorem kept_5 : mtext [⟨16, 3, [1, 2, 3, 4, 5, 6, 7, 8, 2]⟩] 23 2 = (⟨#[8, 2]⟩, 0) := by rfl
theorem kept_new_at (w : World) : Calls Try.prog 7 #[.slice (some ⟨w.heap.size, 0, none⟩) 1 1] (w.alloc (.cells #[.int .u64 16, .int .i64 3, .string ⟨#[1, 2, 3, 4, 5, 6, 7, 8, 9]⟩] 37 (0, 0))) fun e w1 =>
    ∃ M lo hi, e = .returned (.tuple #[.pointer (some ⟨M, 0, none⟩), .int .i64 0]) ∧ Below w.heap.size w w1 ∧ w.heap.size ≤ lo ∧ MemOk w1 M lo hi keptL := by
  have hR := one_region (w := w) keptR rfl
  have hnew := (new_at (w.alloc (.cells #[.int .u64 16, .int .i64 3, .string ⟨#[1, 2, 3, 4, 5, 6, 7, 8, 9]⟩] 37 (0, 0))) (some ⟨w.heap.size, 0, none⟩) 1 [keptR] hR (by decide) (by decide) (by
    intro r hr
    rw [List.mem_singleton] at hr
    subst hr
    decide)).2 kept_new
  refine hnew.mono ?_
  rintro e w1 ⟨rfl, hb, hm⟩
  rw [kept_mem] at hm
  exact ⟨_, _, _, rfl, below_step (below_alloc (Below.refl _ _) _) hb, (below_alloc (Below.refl w.heap.size w) _).size, hm⟩
theorem kept_c1 {w : World} {M lo hi : Nat} (h : MemOk w M lo hi keptL) : Calls Try.prog 9 #[.pointer (some ⟨M, 0, none⟩), .int .u64 16, .int .i64 8] w fun e w' => e = .returned (.tuple #[.int .u64 578437695752307201, .int .i64 0]) ∧ Below w.heap.size w w' := by
  have := load_at h 16 8 (by decide) (by decide)
  rwa [kept_1] at this
theorem kept_c2 {w : World} {M lo hi : Nat} (h : MemOk w M lo hi keptL) : Calls Try.prog 9 #[.pointer (some ⟨M, 0, none⟩), .int .u64 17, .int .i64 8] w fun e w' => e = .returned (.tuple #[.int .u64 650777868590383874, .int .i64 0]) ∧ Below w.heap.size w w' := by
  have := load_at h 17 8 (by decide) (by decide)
  rwa [kept_2] at this
theorem kept_c3 {w : World} {M lo hi : Nat} (h : MemOk w M lo hi keptL) : Calls Try.prog 9 #[.pointer (some ⟨M, 0, none⟩), .int .u64 18, .int .i64 8] w fun e w' => e = .returned (.tuple #[.int .u64 0, .int .i64 4]) ∧ Below w.heap.size w w' := by
  have := load_at h 18 8 (by decide) (by decide)
  rwa [kept_3] at this
theorem kept_c4 {w : World} {M lo hi : Nat} (h : MemOk w M lo hi keptL) : Calls Try.prog 10 #[.pointer (some ⟨M, 0, none⟩), .int .u64 24, .int .i64 1, .int .u64 258] w fun e w' => e = .returned (.int .i64 0) ∧ StoredIn w w' lo hi ∧ MemOk w' M lo hi [⟨16, 3, [1, 2, 3, 4, 5, 6, 7, 8, 2]⟩] := by
  have := store_at h 24 1 258 (by decide) (by decide) (by decide) (by decide)
  rwa [kept_4] at this
theorem kept_c5 {w : World} {M lo hi : Nat} (h : MemOk w M lo hi [⟨16, 3, [1, 2, 3, 4, 5, 6, 7, 8, 2]⟩]) : Calls Try.prog 11 #[.pointer (some ⟨M, 0, none⟩), .int .u64 23, .int .i64 2] w fun e w' => e = .returned (.tuple #[.string ⟨#[8, 2]⟩, .int .i64 0]) ∧ Below w.heap.size w w' := by
  have := text_at h 23 2 (by decide) (by decide)
  rwa [kept_5] at this
set_option maxHeartbeats 4000000 in
set_option maxRecDepth 100000 in
theorem kept_calls (w : World) : Calls Try.prog 8 #[] w fun e w' => e = .returned (.bool true) ∧ Below w.heap.size w w' := by
  go_enter Try.func8, Try.ntmps8
  go_wp2_with fail
  refine (kept_new_at w).mono ?_
  rintro e w1 ⟨M, lo, hi, rfl, hb, hlo, hm⟩
  have HM := Aside0.mk hm
  have HB := Aside0.mk hb
  have HLO := Aside0.mk hlo
  clear hb hm hlo
  go_wp2_with fail
  refine (kept_c1 HM.out).mono ?_
  rintro e w2 ⟨rfl, hb⟩
  have HM2 := Aside0.mk (HM.out.below hb)
  have HB2 := Aside0.mk (below_step HB.out hb)
  clear hb
  go_wp2_with fail
  refine (kept_c2 HM2.out).mono ?_
  rintro e w3 ⟨rfl, hb⟩
  have HM3 := Aside0.mk (HM2.out.below hb)
  have HB3 := Aside0.mk (below_step HB2.out hb)
  clear hb
  go_wp2_with fail
  refine (kept_c3 HM3.out).mono ?_
  rintro e w4 ⟨rfl, hb⟩
  have HM4 := Aside0.mk (HM3.out.below hb)
  have HB4 := Aside0.mk (below_step HB3.out hb)
  clear hb
  go_wp2_with fail
  refine (kept_c4 HM4.out).mono ?_
  rintro e w5 ⟨rfl, hs, hm⟩
  have HM5 := Aside0.mk hm
  have HB5 := Aside0.mk (hs.below _ _ HB4.out HLO.out HB4.out.size)
  clear hs hm
  go_wp2_with fail
  refine (kept_c5 HM5.out).mono ?_
  rintro e w6 ⟨rfl, hb⟩
  have HB6 := Aside0.mk (below_step HB5.out hb)
  clear hb
  have hstr : ((⟨#[8, 2]⟩ : ByteArray).toList == ([8, 2] : List UInt8)) = true := by rw [ByteArray.toList_eq]; rfl
  go_wp2
  go_ret
  exact ⟨rfl, HB6.out⟩
end Go.Proofs.Ytkpkkjbigndnoaa.MW
