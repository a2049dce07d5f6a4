/- Written for this claim by a program of this session: what the claim uses of lemmas and proved contracts of Go functions. -/
import Derived.Test.YtflojfcioojgbaaGreatDoorYAl14
import Derived.Deep.Slices
import Derived.Deep.Fields
import Derived.ChangeSame
import Derived.ProofKit
namespace Go.Proofs.YtflojfcioojgbaaGreatDoor.M
open Go.ChangeShapes Go.WideShapes Go.Deep Go.RowKit Go.Proofs.YtflojfcioojgbaaGreatDoorW.PrintWords Go.Proofs.YtflojfcioojgbaaGreatDoorW.PrintLast
section
variable {H : Type} {enc : TypeId × Value → H} {P : Program} {w : World} {base : Nat} {spare : Nat → Bool} {held : Bool}
theorem slice_cells {t e : TypeId} {fs : Array Field} {fuel : Nat} {A : Option Addr} {len cap : Nat} {x : DataW H × List MemPlace} (ht : P.underlying t = some (.slice e)) (he : P.underlying e = some (.struct fs))
    (hone : oneCellFields P fs = true) (hC : P.cellsOf e = fs.size) (h : DataW.trod enc P w base spare held fuel t [.slice A len cap] = some x) :
    len ≤ cap ∧ len ≤ 9223372036854775807 ∧ (0 < len → ∃ ad, A = some ad ∧ ∀ i, i < len → ∃ cs : List Value, cs.length = fs.size ∧ (∀ j u, cs[j]? = some u → w.cell? (ad.add (i * fs.size + j)) = some u) ∧
      ∀ (j : Nat) (f : Field), fs[j]? = some f → ∃ (v : Value) (n : Nat) (y : DataW H × List MemPlace), cs[j]? = some v ∧ DataW.trod enc P w base spare held n f.type [v] = some y) := by
  rcases open_slice ht h with ⟨h0, _⟩ | ⟨a, len', cap', m, n, D, Pl, hcs, hb, hl, hm, hmm, hx, hi⟩
  · simp at h0
    obtain ⟨rfl, rfl, rfl⟩ := h0
    exact ⟨Nat.le_refl _, by omega, fun h => absurd h (by omega)⟩
  · simp at hcs
    obtain ⟨rfl, rfl, rfl⟩ := hcs
    have hml : len ≤ m := by rw [hmm]; split <;> omega
    refine ⟨hl, by unfold maxLen at hm; omega, fun _ => ⟨a, rfl, fun i hil => ?_⟩⟩
    obtain ⟨cs', hc, ht'⟩ := hi i (by omega)
    rw [hC] at hc
    obtain ⟨ys, n', hn', hy, hlen, hyl, hf⟩ := DataW.trod_struct he ht'
    obtain ⟨_, hcl, hat⟩ := World.cells?_some hc
    refine ⟨cs', hcl, ?_, ?_⟩
    · intro j u hu
      have hj : j < fs.size := by have := (List.getElem?_eq_some_iff.1 hu).1; omega
      have := hat j hj
      rw [← Go.Deep.add_add, this, hu]
    · intro j f hj
      obtain ⟨ho, hk⟩ := hone_of hone j f hj
      have hjl : j < fs.size := (Array.getElem?_eq_some_iff.1 hj).1
      have hv : cs'[j]? = some (cs'[j]'(by omega)) := List.getElem?_eq_getElem (by omega)
      have h1 := hf j f hj
      rw [ho, hk] at h1
      have hone' : (cs'.drop j).take 1 = [cs'[j]'(by omega)] := by
        rw [List.drop_eq_getElem_cons (by omega)]
        rfl
      rw [hone'] at h1
      have hys : ys[j]? = some (ys[j]'(by omega)) := List.getElem?_eq_getElem (by omega)
      exact ⟨_, _, _, hv, h1.trans hys⟩
end
theorem rows_of {α : Type} (d : Kd α) (Good : α → Prop) {w : World} {A : Option Addr} {len : Nat} (hm : len ≤ 9223372036854775807)
    (h : 0 < len → ∃ ad, A = some ad ∧ ∀ i, i < len → ∃ (p : α) (c : List Value), c.length = d.sz ∧ d.K w p c ∧ Good p ∧ ∀ j u, c[j]? = some u → w.cell? (ad.add (i * d.sz + j)) = some u) :
    ∃ l : List α, l.length = len ∧ Kd.C d w A l.length l ∧ ∀ p, p ∈ l → Good p := by
  by_cases h0 : 0 < len
  · obtain ⟨ad, e, hi⟩ := h h0
    have hx : ∀ i, ∃ p : α, i < len → ∃ c : List Value, c.length = d.sz ∧ d.K w p c ∧ Good p ∧ ∀ j u, c[j]? = some u → w.cell? (ad.add (i * d.sz + j)) = some u := by
      intro i
      by_cases hl : i < len
      · obtain ⟨p, c, hc⟩ := hi i hl
        exact ⟨p, fun _ => ⟨c, hc⟩⟩
      · obtain ⟨p, _⟩ := hi 0 h0
        exact ⟨p, fun hh => absurd hh hl⟩
    refine ⟨(List.range len).map fun i => Classical.choose (hx i), by simp, ⟨rfl, by simpa using hm, fun _ => ⟨ad, e, ?_⟩⟩, ?_⟩
    · intro j p hj
      simp only [List.getElem?_map, Option.map_eq_some_iff] at hj
      obtain ⟨i, h1, h2⟩ := hj
      have hlt : j < len := by have := (List.getElem?_eq_some_iff.1 h1).1; simpa using this
      have hij : i = j := by rw [List.getElem?_range hlt] at h1; exact (Option.some.inj h1).symm
      subst hij
      obtain ⟨c, c1, c2, _, c4⟩ := Classical.choose_spec (hx i) hlt
      exact ⟨c, c1, by rw [← h2]; exact c2, c4⟩
    · intro p hp
      obtain ⟨i, h1, h2⟩ := List.mem_map.1 hp
      obtain ⟨c, _, _, c3, _⟩ := Classical.choose_spec (hx i) (List.mem_range.1 h1)
      rw [← h2]; exact c3
  · obtain rfl : len = 0 := by omega
    exact ⟨[], rfl, ⟨rfl, by simp, fun hh => absurd hh (by simp)⟩, fun p hp => absurd hp (by simp)⟩
end Go.Proofs.YtflojfcioojgbaaGreatDoor.M
namespace Go.Proofs.YtflojfcioojgbaaGreatDoor.imageSame
set_option maxRecDepth 100000
open Go.ChangeShapes Go.WideShapes Go.ChangeAt Go.RowKit Go.Deep
open Go.ChangeMaps (open_string shut_string)
open Go.Proofs.YtflojfcioojgbaaGreatDoor
open Go.Proofs.YtflojfcioojgbaaGreatDoorW.PrintWords
set_option linter.unusedVariables false
theorem own : ownKnob Tryz.prog.godebug = none := by kernel_rfl
theorem laidOut : laidOutB Tryz.prog = true := by kernel_rfl
theorem open_fields {H : Type} {enc : TypeId × Value → H} {P : Program} {w : World} {base : Nat} {spare : Nat → Bool} {held : Bool} {r : Reach} {b0 : Nat} {t : TypeId} {fs : Array Field} {v : Value} {d : DataW H} {p : List MemPlace}
    (hs : P.underlying t = some (.struct fs)) (hone : oneCellFields P fs = true) (hC : P.cellsOf t = fs.size) (hv : Value.okWide P w r b0 t v) (h : DataW.Trod enc P w base spare held t v d p) :
    ∃ l : List Value, v = .agg ⟨l⟩ ∧ l.length = fs.size ∧ ∀ (j : Nat) (f : Field) (c : Value), fs[j]? = some f → l[j]? = some c → ∃ (n : Nat) (y : DataW H × List MemPlace), DataW.trod enc P w base spare held n f.type [c] = some y := by
  obtain ⟨cs, rfl, hsz⟩ := okWide_struct hs hv
  obtain ⟨l⟩ := cs
  have hlen : l.length = fs.size := by simpa using hsz.trans hC
  obtain ⟨fuel, hf⟩ := h
  obtain ⟨xs, n, _, hx, _, hxl, hg⟩ := DataW.trod_struct hs hf
  refine ⟨l, rfl, hlen, fun j f c hj hc => ?_⟩
  obtain ⟨o0, k0⟩ := hone_of hone j f hj
  have hjl : j < fs.size := (Array.getElem?_eq_some_iff.1 hj).1
  have h1 := hg j f hj
  rw [o0, k0] at h1
  have hjl2 : j < l.length := by omega
  have hone' : (l.drop j).take 1 = [c] := by
    rw [List.drop_eq_getElem_cons hjl2]
    have : l[j] = c := by rw [List.getElem?_eq_getElem hjl2] at hc; exact Option.some.inj hc
    simp [this]
  simp only [Value.cells] at h1
  rw [hone'] at h1
  have hys : xs[j]? = some (xs[j]'(by omega)) := List.getElem?_eq_getElem (by omega)
  exact ⟨_, _, h1.trans hys⟩
theorem open_R23 {H : Type} {enc : TypeId × Value → H} {w : World} {base : Nat} {spare : Nat → Bool} {held : Bool} {A : Option Addr} {len cap : Nat} {d : DataW H} {p : List MemPlace}
    (h : DataW.Trod enc Tryz.prog w base spare held 23 (.slice A len cap) d p) : ∃ l : List P.S57, l.length = len ∧ Kd.C P.k57 w A l.length l ∧ l.length ≤ cap ∧ ∀ q, q ∈ l → (Lit.int .u64 q.f0).wf = true ∧ (Lit.int .i64 q.f1).wf = true ∧ q.f2.size ≤ maxLen := by
  obtain ⟨fuel, hf⟩ := h
  obtain ⟨hl, hm, hc⟩ := M.slice_cells Tryz.underlying23 Tryz.underlying57 (by kernel_rfl) (by kernel_rfl) hf
  obtain ⟨l, h1, h2, h3⟩ := M.rows_of P.k57 (fun q => (Lit.int .u64 q.f0).wf = true ∧ (Lit.int .i64 q.f1).wf = true ∧ q.f2.size ≤ maxLen) hm (fun h0 => by
    obtain ⟨ad, e, hi⟩ := hc h0
    refine ⟨ad, e, fun i hlt => ?_⟩
    obtain ⟨cs, hcl, hcell, hfs⟩ := hi i hlt
    obtain ⟨v0, n0, y0, hv0, hy0⟩ := hfs 0 _ rfl
    obtain ⟨a0, e0, _, w0⟩ := DataW.trod_int Tryz.underlying22 hy0
    obtain rfl : v0 = .int .u64 a0 := by simpa using e0
    obtain ⟨v1, n1, y1, hv1, hy1⟩ := hfs 1 _ rfl
    obtain ⟨a1, e1, _, w1⟩ := DataW.trod_int Tryz.underlying3 hy1
    obtain rfl : v1 = .int .i64 a1 := by simpa using e1
    obtain ⟨v2, n2, y2, hv2, hy2⟩ := hfs 2 _ rfl
    obtain ⟨a2, e2, _, w2⟩ := DataW.trod_string Tryz.underlying9 hy2
    obtain rfl : v2 = .string a2 := by simpa using e2
    obtain rfl : cs = [.int .u64 a0, .int .i64 a1, .string a2] := by
      match cs, hcl with
      | [c0, c1, c2], _ => simp_all
    exact ⟨(⟨a0, a1, a2⟩ : P.S57), _, rfl, P.k57_mk w _, ⟨w0, w1, w2⟩, hcell⟩)
  exact ⟨l, h1, h2, by omega, h3⟩
theorem open_M25 {H : Type} {enc : TypeId × Value → H} {w : World} {base : Nat} {spare : Nat → Bool} {held : Bool} {r : Reach} {b0 : Nat} {v : Value} {d : DataW H} {p : List MemPlace}
    (hv : Value.okWide Tryz.prog w r b0 25 v) (h : DataW.Trod enc Tryz.prog w base spare held 25 v d p) : ∃ a0 : Int, ∃ a1 : Int, ∃ A2 : Option Addr, ∃ c2 : Nat, ∃ l2 : List P.S57, v = .agg #[.int .u64 a0, .int .u64 a1, .slice A2 l2.length c2] ∧ ((Lit.int .u64 a0).wf = true) ∧ ((Lit.int .u64 a1).wf = true) ∧ (Kd.C P.k57 w A2 l2.length l2) ∧ (l2.length ≤ c2) ∧ (∀ q, q ∈ l2 → (Lit.int .u64 q.f0).wf = true ∧ (Lit.int .i64 q.f1).wf = true ∧ q.f2.size ≤ maxLen) := by
  obtain ⟨l, rfl, hl, hf⟩ := open_fields Tryz.underlying25 (by kernel_rfl) (by kernel_rfl) hv h
  match l, hl with
  | [x0, x1, x2], _ =>
    obtain ⟨n0, y0, hy0⟩ := hf 0 _ _ rfl rfl
    obtain ⟨a0, e0, _, w0⟩ := DataW.trod_int Tryz.underlying22 hy0
    obtain rfl : x0 = .int .u64 a0 := by simpa using e0
    obtain ⟨n1, y1, hy1⟩ := hf 1 _ _ rfl rfl
    obtain ⟨a1, e1, _, w1⟩ := DataW.trod_int Tryz.underlying22 hy1
    obtain rfl : x1 = .int .u64 a1 := by simpa using e1
    obtain ⟨n2, y2, hy2⟩ := hf 2 _ _ rfl rfl
    obtain ⟨A2, m2, c2, e2⟩ : ∃ (A : Option Addr) (m c : Nat), x2 = .slice A m c := by
      rcases open_slice Tryz.underlying23 hy2 with ⟨h0, _⟩ | ⟨a, len, cap, _, _, _, _, h0, _⟩
      · exact ⟨none, 0, 0, by simpa using h0⟩
      · exact ⟨some a, len, cap, by simpa using h0⟩
    subst e2
    obtain ⟨d2, p2⟩ := y2
    obtain ⟨l2, hn2, hr2, hc2, hg2⟩ := open_R23 (show DataW.Trod enc Tryz.prog w base spare held 23 (.slice A2 m2 c2) d2 p2 from ⟨n2, hy2⟩)
    subst hn2
    exact ⟨a0, a1, A2, c2, l2, rfl, w0, w1, hr2, hc2, hg2⟩
theorem g0 : Tryz.prog.globalNamed "math/bits.deBruijn64tab" = some 1 := by kernel_rfl
theorem gT0 : (Tryz.prog.globals[1]?).map (·.type) = some 295 := by kernel_rfl
theorem cT0 : Tryz.prog.cellsOf 295 = 64 := by kernel_rfl
theorem cE0 : Tryz.prog.cellsOf 5 = 1 := by kernel_rfl
theorem dat0 : (Rows.laid_math_bits_deBruijn64tab : DataW Unit) = Lib.tabData .u8 (Lib.deBruijn64tab.map fun n : Nat => (n : Int)) := by kernel_rfl
theorem tabW {W : World} (h : laidMetH Tryz.prog Rows.imageSameRow.laid W) : P.TabW W := by
  have h0 : laidMet Tryz.prog [("math/bits.deBruijn64tab", Rows.laid_math_bits_deBruijn64tab)] W := h
  have t0 : Lib.TabIs Tryz.prog W "math/bits.deBruijn64tab" .u8 (Lib.deBruijn64tab.map fun n : Nat => (n : Int)) := by
    have hh := h0
    rw [dat0] at hh
    exact Lib.tabIs_of_head g0 gT0 Tryz.underlying295 Tryz.underlying5 cE0 cT0 hh
  refine ⟨fun j hj => ?_⟩
  have hc := t0.cell g0 j (by rw [List.length_map]; exact hj)
  rw [hc]
  simp [List.getD, hj]
theorem contract (H : Type) (enc : TypeId × Value → H) (W : World) (base : Nat) (args : Array Value) (ds gs : List (DataW H)) (before : List MemPlace)
    (hval0 : ∀ (j : Nat) t v, Tryz.f5.params[j]? = some t → args[j]? = some v → Value.okWide Tryz.prog W .any base t v)
    (hW : DataW.Whole enc Tryz.prog Tryz.f5.params.toList Rows.imageSameSpec.vars false W args.toList ds gs before)
    (hsz0 : (DataW.weightsEach Tryz.prog (Tryz.f5.params.toList ++ (OpenSpec.ofChange Rows.imageSameSpec).bare.plain.varTypes Tryz.prog) (ds ++ gs)).all (· ≤ reachBytes) = true) (hL : laidMetH Tryz.prog Rows.imageSameRow.laid W) :
    Calls Tryz.prog 5 args W fun e W' => ∃ v, e = .returned v ∧ Rows.imageSameSpec.post enc Tryz.prog Tryz.f5 false true false false W args v W' := by
  have hsz : (DataW.weightsEach Tryz.prog (Tryz.f5.params.toList ++ Rows.imageSameSpec.plain.varTypes Tryz.prog) (ds ++ gs)).all (· ≤ reachBytes) = true := hsz0
  have hval : ∀ (j : Nat) t v, Tryz.f5.params[j]? = some t → args[j]? = some v → Value.okWide Tryz.prog W .any base t v := hval0
  have hW' := hW
  obtain ⟨p, q, hA0, hV, rfl, hfz, hnd⟩ := hW
  have hA : DataW.TrodAll enc Tryz.prog W 0 (fun _ => true) true Tryz.f5.params.toList args.toList ds p := hA0
  rw [Tryz.params5] at hA hval hsz
  obtain ⟨v0, vs0, d0, ds0, p0, q0, hargs, rfl, rfl, h0, r0⟩ := trodAll_cons hA
  obtain ⟨v1, vs1, d1, ds1, p1, q1, rfl, rfl, rfl, h1, r1⟩ := trodAll_cons r0
  obtain ⟨rfl, rfl, rfl⟩ := trodAll_nil r1
  obtain rfl : args = #[v0, v1] := by cases args; simp_all
  obtain ⟨rfl, rfl⟩ := trodVars_none hV
  have k0 := h0
  have lt0 : ∀ x ∈ p0, x.block < W.heap.size := by obtain ⟨m, hm⟩ := k0; exact DataW.trod_lt m _ _ _ hm
  obtain ⟨a0_0, a0_1, A0_2, c0_2, l0_2, rfl, w0_0, w0_1, hr0_2, hc0_2, hg0_2⟩ := open_M25 (hval 0 25 v0 rfl rfl) h0
  have k1 := h1
  have lt1 : ∀ x ∈ p1, x.block < W.heap.size := by obtain ⟨m, hm⟩ := k1; exact DataW.trod_lt m _ _ _ hm
  obtain ⟨a1_0, a1_1, A1_2, c1_2, l1_2, rfl, w1_0, w1_1, hr1_2, hc1_2, hg1_2⟩ := open_M25 (hval 1 25 v1 rfl rfl) h1
  clear hA0 hval0 hsz0 hsz
  have hTab : P.TabW W := tabW hL
  refine (Pure.ImageSame_walk a0_0 a0_1 A0_2 c0_2 l0_2 a1_0 a1_1 A1_2 c1_2 l1_2 W w0_0 w0_1 hr0_2 hc0_2 hg0_2 w1_0 w1_1 hr1_2 hc1_2 hg1_2 hTab).mono fun e W' ⟨he, bel⟩ => ?_
  subst he
  exact ⟨_, rfl, _, _, _, [], _, [], hW', trodAll_mk1 (shut_bool Tryz.underlying4 _), (trodAll_cons_mk (Below.trod laidOut (by kernel_rfl) (of_decide_eq_true (by kernel_rfl)) k0 bel lt0) (trodAll_cons_mk (Below.trod laidOut (by kernel_rfl) (of_decide_eq_true (by kernel_rfl)) k1 bel lt1) trodAll_mk0)), rfl, bel.frame _, fun h => by cases h⟩
noncomputable def laidWorld (os : Os) : World :=
  { World.holding Tryz.prog os ⟨#[], #[], []⟩ with heap := ((World.holding Tryz.prog os ⟨#[], #[], []⟩).heap.modify 1 (fun o => match o with
      | .cells _ t frozen => .cells #[Value.int .u8 0, Value.int .u8 1, Value.int .u8 56, Value.int .u8 2, Value.int .u8 57, Value.int .u8 49, Value.int .u8 28, Value.int .u8 3, Value.int .u8 61, Value.int .u8 58, Value.int .u8 42, Value.int .u8 50, Value.int .u8 38, Value.int .u8 29, Value.int .u8 17, Value.int .u8 4, Value.int .u8 62, Value.int .u8 47, Value.int .u8 59, Value.int .u8 36, Value.int .u8 45, Value.int .u8 43, Value.int .u8 51, Value.int .u8 22, Value.int .u8 53, Value.int .u8 39, Value.int .u8 33, Value.int .u8 30, Value.int .u8 24, Value.int .u8 18, Value.int .u8 12, Value.int .u8 5, Value.int .u8 63, Value.int .u8 55, Value.int .u8 48, Value.int .u8 27, Value.int .u8 60, Value.int .u8 41, Value.int .u8 37, Value.int .u8 16, Value.int .u8 46, Value.int .u8 35, Value.int .u8 44, Value.int .u8 21, Value.int .u8 52, Value.int .u8 32, Value.int .u8 23, Value.int .u8 11, Value.int .u8 54, Value.int .u8 26, Value.int .u8 40, Value.int .u8 15, Value.int .u8 34, Value.int .u8 20, Value.int .u8 31, Value.int .u8 10, Value.int .u8 25, Value.int .u8 14, Value.int .u8 19, Value.int .u8 9, Value.int .u8 13, Value.int .u8 8, Value.int .u8 7, Value.int .u8 6] t frozen
      | o => o)) }
theorem laid_met (os : Os) : laidMet Tryz.prog Rows.imageSameRow.laid ((laidWorld os).forCall (fun _ _ => 0) ⟨#[], #[.agg #[.int .u64 0, .int .u64 0, .slice none 0 0], .agg #[.int .u64 0, .int .u64 0, .slice none 0 0]], []⟩).memory :=
  laidMet_of_run' 8 (by kernel_rfl) (by kernel_rfl)
theorem reads (os : Os) {H : Type} (enc : TypeId × Value → H) : ∃ places, DataW.whole enc Tryz.prog ((laidWorld os).forCall (fun _ _ => 0) ⟨#[], #[.agg #[.int .u64 0, .int .u64 0, .slice none 0 0], .agg #[.int .u64 0, .int .u64 0, .slice none 0 0]], []⟩).memory Tryz.f5.params.toList Rows.imageSameSpec.vars false (#[.agg #[.int .u64 0, .int .u64 0, .slice none 0 0], .agg #[.int .u64 0, .int .u64 0, .slice none 0 0]] : Array Value).toList 8 = some ([.agg [.lit (.int .u64 0), .lit (.int .u64 0), .nil], .agg [.lit (.int .u64 0), .lit (.int .u64 0), .nil]], [], places) :=
  ⟨[], by kernel_rfl⟩
set_option maxRecDepth 100000 in
theorem lifted (os : Os) (started : os.Started) (H : Type) (enc : TypeId × Value → H) (F : Stop.Interp) :
    ReturnsInHanded {} Tryz.checked os 5 .any ((OpenSpec.ofChange Rows.imageSameSpec).preRow enc Tryz.prog Tryz.f5 Rows.imageSameRow.domain false Rows.imageSameRow.laid) (((OpenSpec.ofChange Rows.imageSameSpec).at F).post enc Tryz.prog Tryz.f5 false true false false) := by
  obtain ⟨places, hx⟩ := reads os enc
  refine returnsInHanded_of_row (C := Tryz.checked) (s := OpenSpec.ofChange Rows.imageSameSpec) own started (by kernel_rfl) Tryz.func5
    (witness_row_at (enc := enc) (C := Tryz.checked) false (laidWorld os) #[.agg #[.int .u64 0, .int .u64 0, .slice none 0 0], .agg #[.int .u64 0, .int .u64 0, .slice none 0 0]] rfl (by kernel_rfl) (by kernel_rfl) (by kernel_rfl)
      (OpenSpec.preRow_of_cond 8 hx (by kernel_rfl) (fun k hk => by cases hk) (by kernel_rfl) (laid_met os))) ?_
  intro W base args ds gs before hval hW _ _ hz hL _ _
  exact contract H enc W base args ds gs before hval hW hz hL
theorem said : Rows.ImageSameSaid :=
  OpenClaim.holds_of_cond 5 Tryz.f5 rfl rfl rfl rfl rfl rfl rfl ⟨rfl, rfl, rfl, rfl, rfl⟩ rfl rfl rfl rfl rfl (by kernel_rfl) Tryz.func5 facts
    (of_decide_eq_true (by kernel_rfl)) (by unfold Func.isWrapper; first | (rw [if_pos (by decide +kernel)]; kernel_rfl) | (rw [if_neg (by decide +kernel)]; exact ⟨rfl, rfl⟩))
    (fun os started H enc _ F => by rw [OpenClaim.pre_eq_preRow]; exact lifted os started H enc F)
theorem plain (f : FuncId) (fn : Func) (hf : Tryz.pinned.checked.prog.funcNamed "cleat/cleatlaw27.ImageSame" = some f) (hfn : Tryz.pinned.checked.prog.funcs[f]? = some fn) :
    true = Tryz.pinned.checked.prog.looks [] ∧ ∀ (j : Nat) t, fn.params[j]? = some t → Tryz.pinned.checked.prog.wantsStandIn t = false := by
  obtain rfl : f = 5 := Option.some.inj ((show Tryz.prog.funcNamed "cleat/cleatlaw27.ImageSame" = some 5 by kernel_rfl).symm.trans hf) |>.symm
  obtain rfl : fn = Tryz.f5 := (Option.some.inj (Tryz.func5.symm.trans hfn)).symm
  refine ⟨by kernel_rfl, fun j t ht => ?_⟩
  rw [Tryz.params5] at ht
  have hm := Array.mem_of_getElem? ht
  simp only [List.mem_toArray, List.mem_cons, List.not_mem_nil, or_false] at hm
  rcases hm with rfl | rfl
  · exact (show Tryz.prog.wantsStandIn 25 = false by kernel_rfl)
  · exact (show Tryz.prog.wantsStandIn 25 = false by kernel_rfl)
theorem card : Rows.ImageSameCardSaid :=
  Claim7.holds_tied_plain_at .later [] _ _ _ _ said (fun _ h => by cases h) wfText (fun _ h => by cases h) imageSame_row_tie rfl ⟨rfl, rfl⟩ (by kernel_rfl) rfl plain goesT
#print axioms card
end Go.Proofs.YtflojfcioojgbaaGreatDoor.imageSame
namespace Go.Proofs.YtflojfcioojgbaaGreatDoor
theorem imageSame_card : Rows.ImageSameCardSaid := imageSame.card
end Go.Proofs.YtflojfcioojgbaaGreatDoor
namespace Go.Proofs.YtflojfcioojgbaaGreatDoor.imageBack
set_option maxRecDepth 100000
open Go.ChangeShapes Go.WideShapes Go.ChangeAt Go.RowKit Go.Deep
open Go.ChangeMaps (open_string shut_string)
open Go.Proofs.YtflojfcioojgbaaGreatDoor
open Go.Proofs.YtflojfcioojgbaaGreatDoorW.PrintWords
set_option linter.unusedVariables false
theorem own : ownKnob Tryz.prog.godebug = none := by kernel_rfl
theorem laidOut : laidOutB Tryz.prog = true := by kernel_rfl
theorem open_fields {H : Type} {enc : TypeId × Value → H} {P : Program} {w : World} {base : Nat} {spare : Nat → Bool} {held : Bool} {r : Reach} {b0 : Nat} {t : TypeId} {fs : Array Field} {v : Value} {d : DataW H} {p : List MemPlace}
    (hs : P.underlying t = some (.struct fs)) (hone : oneCellFields P fs = true) (hC : P.cellsOf t = fs.size) (hv : Value.okWide P w r b0 t v) (h : DataW.Trod enc P w base spare held t v d p) :
    ∃ l : List Value, v = .agg ⟨l⟩ ∧ l.length = fs.size ∧ ∀ (j : Nat) (f : Field) (c : Value), fs[j]? = some f → l[j]? = some c → ∃ (n : Nat) (y : DataW H × List MemPlace), DataW.trod enc P w base spare held n f.type [c] = some y := by
  obtain ⟨cs, rfl, hsz⟩ := okWide_struct hs hv
  obtain ⟨l⟩ := cs
  have hlen : l.length = fs.size := by simpa using hsz.trans hC
  obtain ⟨fuel, hf⟩ := h
  obtain ⟨xs, n, _, hx, _, hxl, hg⟩ := DataW.trod_struct hs hf
  refine ⟨l, rfl, hlen, fun j f c hj hc => ?_⟩
  obtain ⟨o0, k0⟩ := hone_of hone j f hj
  have hjl : j < fs.size := (Array.getElem?_eq_some_iff.1 hj).1
  have h1 := hg j f hj
  rw [o0, k0] at h1
  have hjl2 : j < l.length := by omega
  have hone' : (l.drop j).take 1 = [c] := by
    rw [List.drop_eq_getElem_cons hjl2]
    have : l[j] = c := by rw [List.getElem?_eq_getElem hjl2] at hc; exact Option.some.inj hc
    simp [this]
  simp only [Value.cells] at h1
  rw [hone'] at h1
  have hys : xs[j]? = some (xs[j]'(by omega)) := List.getElem?_eq_getElem (by omega)
  exact ⟨_, _, h1.trans hys⟩
theorem open_R23 {H : Type} {enc : TypeId × Value → H} {w : World} {base : Nat} {spare : Nat → Bool} {held : Bool} {A : Option Addr} {len cap : Nat} {d : DataW H} {p : List MemPlace}
    (h : DataW.Trod enc Tryz.prog w base spare held 23 (.slice A len cap) d p) : ∃ l : List P.S57, l.length = len ∧ Kd.C P.k57 w A l.length l ∧ l.length ≤ cap ∧ ∀ q, q ∈ l → (Lit.int .u64 q.f0).wf = true ∧ (Lit.int .i64 q.f1).wf = true ∧ q.f2.size ≤ maxLen := by
  obtain ⟨fuel, hf⟩ := h
  obtain ⟨hl, hm, hc⟩ := M.slice_cells Tryz.underlying23 Tryz.underlying57 (by kernel_rfl) (by kernel_rfl) hf
  obtain ⟨l, h1, h2, h3⟩ := M.rows_of P.k57 (fun q => (Lit.int .u64 q.f0).wf = true ∧ (Lit.int .i64 q.f1).wf = true ∧ q.f2.size ≤ maxLen) hm (fun h0 => by
    obtain ⟨ad, e, hi⟩ := hc h0
    refine ⟨ad, e, fun i hlt => ?_⟩
    obtain ⟨cs, hcl, hcell, hfs⟩ := hi i hlt
    obtain ⟨v0, n0, y0, hv0, hy0⟩ := hfs 0 _ rfl
    obtain ⟨a0, e0, _, w0⟩ := DataW.trod_int Tryz.underlying22 hy0
    obtain rfl : v0 = .int .u64 a0 := by simpa using e0
    obtain ⟨v1, n1, y1, hv1, hy1⟩ := hfs 1 _ rfl
    obtain ⟨a1, e1, _, w1⟩ := DataW.trod_int Tryz.underlying3 hy1
    obtain rfl : v1 = .int .i64 a1 := by simpa using e1
    obtain ⟨v2, n2, y2, hv2, hy2⟩ := hfs 2 _ rfl
    obtain ⟨a2, e2, _, w2⟩ := DataW.trod_string Tryz.underlying9 hy2
    obtain rfl : v2 = .string a2 := by simpa using e2
    obtain rfl : cs = [.int .u64 a0, .int .i64 a1, .string a2] := by
      match cs, hcl with
      | [c0, c1, c2], _ => simp_all
    exact ⟨(⟨a0, a1, a2⟩ : P.S57), _, rfl, P.k57_mk w _, ⟨w0, w1, w2⟩, hcell⟩)
  exact ⟨l, h1, h2, by omega, h3⟩
theorem open_M25 {H : Type} {enc : TypeId × Value → H} {w : World} {base : Nat} {spare : Nat → Bool} {held : Bool} {r : Reach} {b0 : Nat} {v : Value} {d : DataW H} {p : List MemPlace}
    (hv : Value.okWide Tryz.prog w r b0 25 v) (h : DataW.Trod enc Tryz.prog w base spare held 25 v d p) : ∃ a0 : Int, ∃ a1 : Int, ∃ A2 : Option Addr, ∃ c2 : Nat, ∃ l2 : List P.S57, v = .agg #[.int .u64 a0, .int .u64 a1, .slice A2 l2.length c2] ∧ ((Lit.int .u64 a0).wf = true) ∧ ((Lit.int .u64 a1).wf = true) ∧ (Kd.C P.k57 w A2 l2.length l2) ∧ (l2.length ≤ c2) ∧ (∀ q, q ∈ l2 → (Lit.int .u64 q.f0).wf = true ∧ (Lit.int .i64 q.f1).wf = true ∧ q.f2.size ≤ maxLen) := by
  obtain ⟨l, rfl, hl, hf⟩ := open_fields Tryz.underlying25 (by kernel_rfl) (by kernel_rfl) hv h
  match l, hl with
  | [x0, x1, x2], _ =>
    obtain ⟨n0, y0, hy0⟩ := hf 0 _ _ rfl rfl
    obtain ⟨a0, e0, _, w0⟩ := DataW.trod_int Tryz.underlying22 hy0
    obtain rfl : x0 = .int .u64 a0 := by simpa using e0
    obtain ⟨n1, y1, hy1⟩ := hf 1 _ _ rfl rfl
    obtain ⟨a1, e1, _, w1⟩ := DataW.trod_int Tryz.underlying22 hy1
    obtain rfl : x1 = .int .u64 a1 := by simpa using e1
    obtain ⟨n2, y2, hy2⟩ := hf 2 _ _ rfl rfl
    obtain ⟨A2, m2, c2, e2⟩ : ∃ (A : Option Addr) (m c : Nat), x2 = .slice A m c := by
      rcases open_slice Tryz.underlying23 hy2 with ⟨h0, _⟩ | ⟨a, len, cap, _, _, _, _, h0, _⟩
      · exact ⟨none, 0, 0, by simpa using h0⟩
      · exact ⟨some a, len, cap, by simpa using h0⟩
    subst e2
    obtain ⟨d2, p2⟩ := y2
    obtain ⟨l2, hn2, hr2, hc2, hg2⟩ := open_R23 (show DataW.Trod enc Tryz.prog w base spare held 23 (.slice A2 m2 c2) d2 p2 from ⟨n2, hy2⟩)
    subst hn2
    exact ⟨a0, a1, A2, c2, l2, rfl, w0, w1, hr2, hc2, hg2⟩
theorem g0 : Tryz.prog.globalNamed "math/bits.deBruijn64tab" = some 1 := by kernel_rfl
theorem gT0 : (Tryz.prog.globals[1]?).map (·.type) = some 295 := by kernel_rfl
theorem cT0 : Tryz.prog.cellsOf 295 = 64 := by kernel_rfl
theorem cE0 : Tryz.prog.cellsOf 5 = 1 := by kernel_rfl
theorem dat0 : (Rows.laid_math_bits_deBruijn64tab : DataW Unit) = Lib.tabData .u8 (Lib.deBruijn64tab.map fun n : Nat => (n : Int)) := by kernel_rfl
theorem tabW {W : World} (h : laidMetH Tryz.prog Rows.imageBackRow.laid W) : P.TabW W := by
  have h0 : laidMet Tryz.prog [("math/bits.deBruijn64tab", Rows.laid_math_bits_deBruijn64tab)] W := h
  have t0 : Lib.TabIs Tryz.prog W "math/bits.deBruijn64tab" .u8 (Lib.deBruijn64tab.map fun n : Nat => (n : Int)) := by
    have hh := h0
    rw [dat0] at hh
    exact Lib.tabIs_of_head g0 gT0 Tryz.underlying295 Tryz.underlying5 cE0 cT0 hh
  refine ⟨fun j hj => ?_⟩
  have hc := t0.cell g0 j (by rw [List.length_map]; exact hj)
  rw [hc]
  simp [List.getD, hj]
theorem contract (H : Type) (enc : TypeId × Value → H) (W : World) (base : Nat) (args : Array Value) (ds gs : List (DataW H)) (before : List MemPlace)
    (hval0 : ∀ (j : Nat) t v, Tryz.f3.params[j]? = some t → args[j]? = some v → Value.okWide Tryz.prog W .any base t v)
    (hW : DataW.Whole enc Tryz.prog Tryz.f3.params.toList Rows.imageBackSpec.vars false W args.toList ds gs before)
    (hsz0 : (DataW.weightsEach Tryz.prog (Tryz.f3.params.toList ++ (OpenSpec.ofChange Rows.imageBackSpec).bare.plain.varTypes Tryz.prog) (ds ++ gs)).all (· ≤ reachBytes) = true) (hL : laidMetH Tryz.prog Rows.imageBackRow.laid W) :
    Calls Tryz.prog 3 args W fun e W' => ∃ v, e = .returned v ∧ Rows.imageBackSpec.post enc Tryz.prog Tryz.f3 false true false false W args v W' := by
  have hsz : (DataW.weightsEach Tryz.prog (Tryz.f3.params.toList ++ Rows.imageBackSpec.plain.varTypes Tryz.prog) (ds ++ gs)).all (· ≤ reachBytes) = true := hsz0
  have hval : ∀ (j : Nat) t v, Tryz.f3.params[j]? = some t → args[j]? = some v → Value.okWide Tryz.prog W .any base t v := hval0
  have hW' := hW
  obtain ⟨p, q, hA0, hV, rfl, hfz, hnd⟩ := hW
  have hA : DataW.TrodAll enc Tryz.prog W 0 (fun _ => true) true Tryz.f3.params.toList args.toList ds p := hA0
  rw [Tryz.params3] at hA hval hsz
  obtain ⟨v0, vs0, d0, ds0, p0, q0, hargs, rfl, rfl, h0, r0⟩ := trodAll_cons hA
  obtain ⟨v1, vs1, d1, ds1, p1, q1, rfl, rfl, rfl, h1, r1⟩ := trodAll_cons r0
  obtain ⟨v2, vs2, d2, ds2, p2, q2, rfl, rfl, rfl, h2, r2⟩ := trodAll_cons r1
  obtain ⟨rfl, rfl, rfl⟩ := trodAll_nil r2
  obtain rfl : args = #[v0, v1, v2] := by cases args; simp_all
  obtain ⟨rfl, rfl⟩ := trodVars_none hV
  have k0 := h0
  have lt0 : ∀ x ∈ p0, x.block < W.heap.size := by obtain ⟨m, hm⟩ := k0; exact DataW.trod_lt m _ _ _ hm
  obtain ⟨a0_0, a0_1, A0_2, c0_2, l0_2, rfl, w0_0, w0_1, hr0_2, hc0_2, hg0_2⟩ := open_M25 (hval 0 25 v0 rfl rfl) h0
  have k1 := h1
  have lt1 : ∀ x ∈ p1, x.block < W.heap.size := by obtain ⟨m, hm⟩ := k1; exact DataW.trod_lt m _ _ _ hm
  obtain ⟨a1, rfl, rfl, rfl, y1⟩ := open_string Tryz.underlying9 (hval 1 9 v1 rfl rfl) h1
  have w1 : a1.size ≤ 140737488351232 := by
    have z := sized_string hsz (j := 1) (t := 9) rfl rfl
    rw [Array.length_toList] at z
    exact z
  have k2 := h2
  have lt2 : ∀ x ∈ p2, x.block < W.heap.size := by obtain ⟨m, hm⟩ := k2; exact DataW.trod_lt m _ _ _ hm
  obtain ⟨a2, rfl, rfl, rfl, w2⟩ := open_int Tryz.underlying3 (hval 2 3 v2 rfl rfl) h2
  clear hA0 hval0 hsz0 hsz
  have hTab : P.TabW W := tabW hL
  refine (Pure.ImageBack_walk a0_0 a0_1 A0_2 c0_2 l0_2 a1 a2 W w0_0 w0_1 hr0_2 hc0_2 hg0_2 w1 w2 hTab).mono fun e W' ⟨he, bel⟩ => ?_
  subst he
  exact ⟨_, rfl, _, _, _, [], _, [], hW', trodAll_mk1 (shut_bool Tryz.underlying4 _), (trodAll_cons_mk (Below.trod laidOut (by kernel_rfl) (of_decide_eq_true (by kernel_rfl)) k0 bel lt0) (trodAll_cons_mk (Below.trod laidOut (by kernel_rfl) (of_decide_eq_true (by kernel_rfl)) k1 bel lt1) (trodAll_cons_mk (Below.trod laidOut (by kernel_rfl) (of_decide_eq_true (by kernel_rfl)) k2 bel lt2) trodAll_mk0))), rfl, bel.frame _, fun h => by cases h⟩
noncomputable def laidWorld (os : Os) : World :=
  { World.holding Tryz.prog os ⟨#[], #[], []⟩ with heap := ((World.holding Tryz.prog os ⟨#[], #[], []⟩).heap.modify 1 (fun o => match o with
      | .cells _ t frozen => .cells #[Value.int .u8 0, Value.int .u8 1, Value.int .u8 56, Value.int .u8 2, Value.int .u8 57, Value.int .u8 49, Value.int .u8 28, Value.int .u8 3, Value.int .u8 61, Value.int .u8 58, Value.int .u8 42, Value.int .u8 50, Value.int .u8 38, Value.int .u8 29, Value.int .u8 17, Value.int .u8 4, Value.int .u8 62, Value.int .u8 47, Value.int .u8 59, Value.int .u8 36, Value.int .u8 45, Value.int .u8 43, Value.int .u8 51, Value.int .u8 22, Value.int .u8 53, Value.int .u8 39, Value.int .u8 33, Value.int .u8 30, Value.int .u8 24, Value.int .u8 18, Value.int .u8 12, Value.int .u8 5, Value.int .u8 63, Value.int .u8 55, Value.int .u8 48, Value.int .u8 27, Value.int .u8 60, Value.int .u8 41, Value.int .u8 37, Value.int .u8 16, Value.int .u8 46, Value.int .u8 35, Value.int .u8 44, Value.int .u8 21, Value.int .u8 52, Value.int .u8 32, Value.int .u8 23, Value.int .u8 11, Value.int .u8 54, Value.int .u8 26, Value.int .u8 40, Value.int .u8 15, Value.int .u8 34, Value.int .u8 20, Value.int .u8 31, Value.int .u8 10, Value.int .u8 25, Value.int .u8 14, Value.int .u8 19, Value.int .u8 9, Value.int .u8 13, Value.int .u8 8, Value.int .u8 7, Value.int .u8 6] t frozen
      | o => o)) }
theorem laid_met (os : Os) : laidMet Tryz.prog Rows.imageBackRow.laid ((laidWorld os).forCall (fun _ _ => 0) ⟨#[], #[.agg #[.int .u64 0, .int .u64 0, .slice none 0 0], .string ByteArray.empty, .int .i64 0], []⟩).memory :=
  laidMet_of_run' 8 (by kernel_rfl) (by kernel_rfl)
theorem reads (os : Os) {H : Type} (enc : TypeId × Value → H) : ∃ places, DataW.whole enc Tryz.prog ((laidWorld os).forCall (fun _ _ => 0) ⟨#[], #[.agg #[.int .u64 0, .int .u64 0, .slice none 0 0], .string ByteArray.empty, .int .i64 0], []⟩).memory Tryz.f3.params.toList Rows.imageBackSpec.vars false (#[.agg #[.int .u64 0, .int .u64 0, .slice none 0 0], .string ByteArray.empty, .int .i64 0] : Array Value).toList 8 = some ([.agg [.lit (.int .u64 0), .lit (.int .u64 0), .nil], .lit (.string []), .lit (.int .i64 0)], [], places) :=
  ⟨[], by kernel_rfl⟩
set_option maxRecDepth 100000 in
theorem lifted (os : Os) (started : os.Started) (H : Type) (enc : TypeId × Value → H) (F : Stop.Interp) :
    ReturnsInHanded {} Tryz.checked os 3 .any ((OpenSpec.ofChange Rows.imageBackSpec).preRow enc Tryz.prog Tryz.f3 Rows.imageBackRow.domain false Rows.imageBackRow.laid) (((OpenSpec.ofChange Rows.imageBackSpec).at F).post enc Tryz.prog Tryz.f3 false true false false) := by
  obtain ⟨places, hx⟩ := reads os enc
  refine returnsInHanded_of_row (C := Tryz.checked) (s := OpenSpec.ofChange Rows.imageBackSpec) own started (by kernel_rfl) Tryz.func3
    (witness_row_at (enc := enc) (C := Tryz.checked) false (laidWorld os) #[.agg #[.int .u64 0, .int .u64 0, .slice none 0 0], .string ByteArray.empty, .int .i64 0] rfl (by kernel_rfl) (by kernel_rfl) (by kernel_rfl)
      (OpenSpec.preRow_of_cond 8 hx (by kernel_rfl) (fun k hk => by cases hk) (by kernel_rfl) (laid_met os))) ?_
  intro W base args ds gs before hval hW _ _ hz hL _ _
  exact contract H enc W base args ds gs before hval hW hz hL
theorem said : Rows.ImageBackSaid :=
  OpenClaim.holds_of_cond 3 Tryz.f3 rfl rfl rfl rfl rfl rfl rfl ⟨rfl, rfl, rfl, rfl, rfl⟩ rfl rfl rfl rfl rfl (by kernel_rfl) Tryz.func3 facts
    (of_decide_eq_true (by kernel_rfl)) (by unfold Func.isWrapper; first | (rw [if_pos (by decide +kernel)]; kernel_rfl) | (rw [if_neg (by decide +kernel)]; exact ⟨rfl, rfl⟩))
    (fun os started H enc _ F => by rw [OpenClaim.pre_eq_preRow]; exact lifted os started H enc F)
theorem plain (f : FuncId) (fn : Func) (hf : Tryz.pinned.checked.prog.funcNamed "cleat/cleatlaw27.ImageBack" = some f) (hfn : Tryz.pinned.checked.prog.funcs[f]? = some fn) :
    true = Tryz.pinned.checked.prog.looks [] ∧ ∀ (j : Nat) t, fn.params[j]? = some t → Tryz.pinned.checked.prog.wantsStandIn t = false := by
  obtain rfl : f = 3 := Option.some.inj ((show Tryz.prog.funcNamed "cleat/cleatlaw27.ImageBack" = some 3 by kernel_rfl).symm.trans hf) |>.symm
  obtain rfl : fn = Tryz.f3 := (Option.some.inj (Tryz.func3.symm.trans hfn)).symm
  refine ⟨by kernel_rfl, fun j t ht => ?_⟩
  rw [Tryz.params3] at ht
  have hm := Array.mem_of_getElem? ht
  simp only [List.mem_toArray, List.mem_cons, List.not_mem_nil, or_false] at hm
  rcases hm with rfl | rfl | rfl
  · exact (show Tryz.prog.wantsStandIn 25 = false by kernel_rfl)
  · exact (show Tryz.prog.wantsStandIn 9 = false by kernel_rfl)
  · exact (show Tryz.prog.wantsStandIn 3 = false by kernel_rfl)
theorem card : Rows.ImageBackCardSaid :=
  Claim7.holds_tied_plain_at .later [] _ _ _ _ said (fun _ h => by cases h) wfText (fun _ h => by cases h) imageBack_row_tie rfl ⟨rfl, rfl⟩ (by kernel_rfl) rfl plain goesT
#print axioms card
end Go.Proofs.YtflojfcioojgbaaGreatDoor.imageBack
namespace Go.Proofs.YtflojfcioojgbaaGreatDoor
theorem imageBack_card : Rows.ImageBackCardSaid := imageBack.card
end Go.Proofs.YtflojfcioojgbaaGreatDoor
