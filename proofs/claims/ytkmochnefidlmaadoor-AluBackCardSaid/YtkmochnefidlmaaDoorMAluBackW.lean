/- The walk of the law AluBack, whose closure holds two parameters (chapter 6). -/
import Derived.Test.YtkmochnefidlmaaDoorPx12
import Derived.Test.YtkmochnefidlmaaDoorPx12
import Derived.Test.YtkmochnefidlmaaDoorPx4
import Derived.Test.YtkmochnefidlmaaDoorPx4
namespace Go.Proofs.YtkmochnefidlmaaDoor.P
open Go.RowKit Go.Proofs.YtkmochnefidlmaaDoorW.PrintWords Go.Proofs.YtkmochnefidlmaaDoorW.PrintLast Go.Proofs.YtkmochnefidlmaaDoorW.PrintMore
set_option linter.unusedVariables false
set_option linter.unusedSimpArgs false

/-- Two numbers in memory, in the first two blocks of the call's own. -/
structure Cap (w : World) (s a : Int) (W : World) : Prop where
  c0 : W.cell? ⟨w.heap.size, 0, none⟩ = some (.int .i64 s)
  c1 : W.cell? ⟨w.heap.size + 1, 0, none⟩ = some (.int .i64 a)
  lt : w.heap.size + 1 < W.heap.size
  below : Below w.heap.size w W
  tab : TabW W
theorem Cap.step {w W W' : World} {s a : Int} (h : Cap w s a W) (hb : Below W.heap.size W W') : Cap w s a W' where
  c0 := pw_cell_below hb h.c0
  c1 := pw_cell_below hb h.c1
  lt := Nat.lt_of_lt_of_le h.lt hb.size
  below := below_step h.below hb
  tab := h.tab.below hb
theorem Cap.drewN {w W : World} {s a : Int} (h : Cap w s a W) (n : Nat) : Cap w s a (W.drewN n) :=
  ⟨h.c0, h.c1, h.lt, pw_below_drewN h.below n, h.tab.drewN n⟩
theorem Cap.start (w : World) (s a : Int) (h : TabW w) : Cap w s a ((w.alloc (.cells #[.int .i64 s] 3 (0, 0))).alloc (.cells #[.int .i64 a] 3 (0, 0))) where
  c0 := by
    have h1 := al_lt w (.cells #[.int .i64 s] 3 (0, 0))
    exact (blk_cell ((blk_alloc (heap_last_ w _) _)) 0).trans rfl
  c1 := (blk_cell (al2_last w _ _) 0).trans rfl
  lt := al2_lt w _ _
  below := below_alloc (below_alloc (Below.refl _ _) _) _
  tab := h.below (below_alloc (below_alloc (Below.refl _ _) _) _)
set_option maxHeartbeats 4000000 in
theorem back_op (n s a : Int) (w W : World) (h : Cap w s a W) :
    Calls Tryd.prog 8 #[.int .i64 n, .pointer (some ⟨w.heap.size, 0, none⟩), .pointer (some ⟨w.heap.size + 1, 0, none⟩)] W fun e W' => e = .returned (.agg #[.int .i64 n, .int .i64 0, .int .i64 0, .int .i64 0, .int .i64 0, .int .i64 0, .int .u64 0, .int .i64 s, .int .i64 a, .int .i64 0]) ∧ Cap w s a W' := by
  have hc0 := h.c0
  have hc1 := h.c1
  have hl := h.lt
  have hl0 : w.heap.size < W.heap.size := by omega
  have H := Aside0.mk h
  clear h
  go_enter Tryd.func8, Tryd.ntmps8
  go_wp2
  refine bodyPost_ret (v := .agg #[.int .i64 n, .int .i64 0, .int .i64 0, .int .i64 0, .int .i64 0, .int .i64 0, .int .u64 0, .int .i64 s, .int .i64 a, .int .i64 0]) (by simp [results, Tryd.results8, go_sem]) rfl ⟨rfl, H.out.step ?_⟩
  exact below_alloc (Below.refl _ _) _
theorem back_do_ (k : Nat) (o s a x1 x2 r : Int) (w W : World) (h : Cap w s a W) (hr : cleatlaw06_do.f k o 0 0 0 0 0 0 s a 0 0 x1 x2 0 = some r) :
    Calls Tryd.prog 9 #[.agg #[.int .i64 o, .int .i64 0, .int .i64 0, .int .i64 0, .int .i64 0, .int .i64 0, .int .u64 0, .int .i64 s, .int .i64 a, .int .i64 0], .agg #[.int .u64 0, .int .u64 x1, .int .u64 x2, .int .u64 0]] W fun e W' => e = .returned (.int .u64 r) ∧ Cap w s a W' := by
  have hTab := h.tab
  exact (cleatlaw06_do.calls k _ _ _ _ _ _ _ _ _ _ _ _ _ _ r W hr hTab).mono fun e W' ⟨he, hb⟩ => ⟨he, h.step hb⟩
theorem back_done_ (k : Nat) (s a : Int) (w W : World) (h : Cap w s a W) (hr : cleatlaw06_done.f k = some true) :
    Calls Tryd.prog 7 #[] W fun e W' => e = .returned (.bool true) ∧ Cap w s a W' := by
  have hTab := h.tab
  exact (cleatlaw06_done.calls k true W hr hTab).mono fun e W' ⟨he, hb⟩ => ⟨he, h.step hb⟩
theorem back_shift_ (k : Nat) (b s a r e : Int) (w W : World) (h : Cap w s a W) (hr : flag_Shift.f k b s a = some (r, e)) :
    Calls Tryd.prog 10 #[.int .u64 b, .int .i64 s, .int .i64 a] W fun e' W' => e' = .returned (.tuple #[.int .u64 r, .int .i64 e]) ∧ Cap w s a W' := by
  exact (flag_Shift.calls k b s a r e W hr).mono fun e' W' ⟨he, hd⟩ => ⟨he, by obtain ⟨n, rfl⟩ := hd.out; exact h.drewN n⟩
set_option maxHeartbeats 16000000 in
set_option maxRecDepth 100000 in
theorem back_out (k : Nat) (a b s c : Int) (w : World) (h : s < 0 ∨ s > 2 ∨ c < 0 ∨ c > 63) (hd : cleatlaw06_done.f k = some true) (hTab : TabW w) :
    Calls Tryd.prog 3 #[.int .u64 a, .int .u64 b, .int .i64 s, .int .i64 c] w fun e w' => e = .returned (.bool true) ∧ Below w.heap.size w w' := by
  have HC := Aside0.mk (Cap.start w s c hTab)
  have HD := Aside0.mk hd
  clear hd hTab
  by_cases h1 : s < 0
  · clear h
    go_enter Tryd.func3, Tryd.ntmps3
    go_wp2_with ((with_reducible refine (back_done_ k s c w _ HC.out HD.out).mono ?_); rintro e w1 ⟨rfl, hc⟩; (try clear HC); (try clear c0 c1); have HC := Aside0.mk hc; have c0 := hc.c0; have c1 := hc.c1; clear hc)
    go_ret
    exact ⟨rfl, HC.out.below⟩
  · by_cases h2 : 2 < s
    · clear h
      go_enter Tryd.func3, Tryd.ntmps3
      go_wp2_with ((with_reducible refine (back_done_ k s c w _ HC.out HD.out).mono ?_); rintro e w1 ⟨rfl, hc⟩; (try clear HC); (try clear c0 c1); have HC := Aside0.mk hc; have c0 := hc.c0; have c1 := hc.c1; clear hc)
      go_ret
      exact ⟨rfl, HC.out.below⟩
    · by_cases h3 : c < 0
      · clear h
        go_enter Tryd.func3, Tryd.ntmps3
        go_wp2_with ((with_reducible refine (back_done_ k s c w _ HC.out HD.out).mono ?_); rintro e w1 ⟨rfl, hc⟩; (try clear HC); (try clear c0 c1); have HC := Aside0.mk hc; have c0 := hc.c0; have c1 := hc.c1; clear hc)
        go_ret
        exact ⟨rfl, HC.out.below⟩
      · have h4 : 63 < c := by omega
        clear h
        go_enter Tryd.func3, Tryd.ntmps3
        go_wp2_with ((with_reducible refine (back_done_ k s c w _ HC.out HD.out).mono ?_); rintro e w1 ⟨rfl, hc⟩; (try clear HC); (try clear c0 c1); have HC := Aside0.mk hc; have c0 := hc.c0; have c1 := hc.c1; clear hc)
        go_ret
        exact ⟨rfl, HC.out.below⟩
set_option maxHeartbeats 16000000 in
set_option maxRecDepth 100000 in
theorem back_in (k : Nat) (a b s c : Int) (w : World) (sum one both any sh : Int) (h : ¬ (s < 0 ∨ s > 2 ∨ c < 0 ∨ c > 63)) (hd : cleatlaw06_done.f k = some true)
    (d1 : cleatlaw06_do.f k 12 0 0 0 0 0 0 s c 0 0 a b 0 = some sum) (d2 : cleatlaw06_do.f k 18 0 0 0 0 0 0 s c 0 0 a b 0 = some one) (d3 : cleatlaw06_do.f k 16 0 0 0 0 0 0 s c 0 0 a b 0 = some both) (d4 : cleatlaw06_do.f k 17 0 0 0 0 0 0 s c 0 0 a b 0 = some any)
    (d5 : flag_Shift.f k b s c = some (sh, 0)) (d6 : cleatlaw06_do.f k 13 0 0 0 0 0 0 s c 0 0 sum b 0 = some a) (d7 : cleatlaw06_do.f k 18 0 0 0 0 0 0 s c 0 0 one b 0 = some a)
    (e1 : any = IntKind.u64.wrap (both + one)) (e2 : IntKind.u64.wrap (a + sh) = IntKind.u64.wrap (any + both)) (hTab : TabW w) :
    Calls Tryd.prog 3 #[.int .u64 a, .int .u64 b, .int .i64 s, .int .i64 c] w fun e w' => e = .returned (.bool true) ∧ Below w.heap.size w w' := by
  have HC := Aside0.mk (Cap.start w s c hTab)
  have HD := Aside0.mk hd
  have D1 := Aside0.mk d1
  have D2 := Aside0.mk d2
  have D3 := Aside0.mk d3
  have D4 := Aside0.mk d4
  have D5 := Aside0.mk d5
  have D6 := Aside0.mk d6
  have D7 := Aside0.mk d7
  have E1 : (any == IntKind.u64.wrap (both + one)) = true := by simpa using e1
  have E2 : (IntKind.u64.wrap (a + sh) == IntKind.u64.wrap (any + both)) = true := by simpa using e2
  have h1 : ¬ s < 0 := by omega
  have h2 : ¬ 2 < s := by omega
  have h3 : ¬ c < 0 := by omega
  have h4 : ¬ 63 < c := by omega
  clear hd hTab d1 d2 d3 d4 d5 d6 d7 e1 e2 h
  go_enter Tryd.func3, Tryd.ntmps3
  go_wp2_with (first | ((with_reducible refine (back_op _ s c w _ HC.out).mono ?_); rintro e w1 ⟨rfl, hc⟩; (try clear HC); (try clear c0 c1); have HC := Aside0.mk hc; have c0 := hc.c0; have c1 := hc.c1; clear hc) | ((with_reducible refine (back_do_ k 12 s c a b sum w _ HC.out D1.out).mono ?_); rintro e w1 ⟨rfl, hc⟩; (try clear HC); (try clear c0 c1); have HC := Aside0.mk hc; have c0 := hc.c0; have c1 := hc.c1; clear hc) | ((with_reducible refine (back_do_ k 18 s c a b one w _ HC.out D2.out).mono ?_); rintro e w1 ⟨rfl, hc⟩; (try clear HC); (try clear c0 c1); have HC := Aside0.mk hc; have c0 := hc.c0; have c1 := hc.c1; clear hc) | ((with_reducible refine (back_do_ k 16 s c a b both w _ HC.out D3.out).mono ?_); rintro e w1 ⟨rfl, hc⟩; (try clear HC); (try clear c0 c1); have HC := Aside0.mk hc; have c0 := hc.c0; have c1 := hc.c1; clear hc) | ((with_reducible refine (back_do_ k 17 s c a b any w _ HC.out D4.out).mono ?_); rintro e w1 ⟨rfl, hc⟩; (try clear HC); (try clear c0 c1); have HC := Aside0.mk hc; have c0 := hc.c0; have c1 := hc.c1; clear hc) | ((with_reducible refine (back_do_ k 13 s c sum b a w _ HC.out D6.out).mono ?_); rintro e w1 ⟨rfl, hc⟩; (try clear HC); (try clear c0 c1); have HC := Aside0.mk hc; have c0 := hc.c0; have c1 := hc.c1; clear hc) | ((with_reducible refine (back_do_ k 18 s c one b a w _ HC.out D7.out).mono ?_); rintro e w1 ⟨rfl, hc⟩; (try clear HC); (try clear c0 c1); have HC := Aside0.mk hc; have c0 := hc.c0; have c1 := hc.c1; clear hc) | ((with_reducible refine (back_shift_ k b s c sh 0 w _ HC.out D5.out).mono ?_); rintro e w1 ⟨rfl, hc⟩; (try clear HC); (try clear c0 c1); have HC := Aside0.mk hc; have c0 := hc.c0; have c1 := hc.c1; clear hc) | ((with_reducible refine (back_done_ k s c w _ HC.out HD.out).mono ?_); rintro e w1 ⟨rfl, hc⟩; (try clear HC); (try clear c0 c1); have HC := Aside0.mk hc; have c0 := hc.c0; have c1 := hc.c1; clear hc))
  go_ret
  exact ⟨rfl, HC.out.below⟩
end Go.Proofs.YtkmochnefidlmaaDoor.P
