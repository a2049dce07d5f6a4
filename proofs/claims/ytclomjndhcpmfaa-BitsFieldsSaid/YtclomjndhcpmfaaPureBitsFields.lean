/- A word has just the document's bits in a field, and fields make just that word, or are refused: the Go law answers true for every word, numbers and fields. -/
import Derived.Test.YtclomjndhcpmfaaPx13
import Derived.Test.YtclomjndhcpmfaaMWordC
namespace Go.Proofs.Ytclomjndhcpmfaa.PureFields
open Go.RowKit Go.Proofs.Ytclomjndhcpmfaa.P Go.Proofs.YtclomjndhcpmfaaW.PrintWords Go.Proofs.YtclomjndhcpmfaaW.PrintLast Go.Proofs.YtclomjndhcpmfaaW.PrintMore Go.Proofs.Ytclomjndhcpmfaa.M
theorem same_loop (L : List Fld) (hL : L.length ≤ 40) : ∀ (d i k : Nat), i + d = L.length → d < k → cleatref01_Same.l0 k L L i = some true := by
  intro d
  induction d with
  | zero =>
    intro i k hi hk
    obtain ⟨k, rfl⟩ : ∃ m, k = m + 1 := ⟨k - 1, by omega⟩
    rw [cleatref01_Same.l0, if_neg (by omega)]
  | succ d ih =>
    intro i k hi hk
    obtain ⟨k, rfl⟩ : ∃ m, k = m + 1 := ⟨k - 1, by omega⟩
    rw [cleatref01_Same.l0, if_pos (by omega), if_pos (by omega), if_pos (by omega), if_neg (by simp), wrap64_self ((i : Int) + 1) (by omega) (by omega)]
    exact ih (i + 1) k (by omega) (by omega)
theorem fields (w a n : Int) (L : List Fld) (w0 : 0 ≤ w) (w1 : w < 4294967296) (hg : ∀ f, f ∈ L → good f) : cleatlaw01_BitsFields.f 3000 w a n L = some true := by
  unfold cleatlaw01_BitsFields.f
  by_cases h : (L.length : Int) > 40
  · rw [if_pos h]
  · have hL : L.length ≤ 40 := by omega
    have hown : cleatref01_Own.f L = some L := by unfold cleatref01_Own.f; rw [if_pos (by simp; omega)]; rfl
    have hsame : cleatref01_Same.f 3000 L L = some true := by
      unfold cleatref01_Same.f
      rw [if_pos rfl]
      exact same_loop L hL L.length 0 3000 (by omega) (by omega)
    rw [if_neg h, hown, Option.bind_some, field_spec w a n w0 w1, Option.bind_some, ref_field_spec _ w a n (by omega) w0 w1, Option.bind_some, word_spec _ L (by omega) hL hg, Option.bind_some, ref_word_spec _ L (by omega) hL hg, Option.bind_some, told_ok _ (by omega), Option.bind_some,
      if_pos rfl, if_pos rfl, if_pos rfl, if_pos rfl, if_pos rfl, hsame]
    rfl
def Wf (f : Fld) : Prop := (Lit.int .i64 f.f0).wf = true ∧ (Lit.int .i64 f.f1).wf = true ∧ (Lit.int .u32 f.f2).wf = true
theorem BitsFields_walk (w a n : Int) (A3 : Option Addr) (c3 : Nat) (l3 : List Fld) (W : World) (h0 : (Lit.int .u32 w).wf = true) (_h1 : (Lit.int .i64 a).wf = true) (_h2 : (Lit.int .i64 n).wf = true)
    (hr3 : Kd.C k56 W A3 l3.length l3) (hc3 : l3.length ≤ c3) (hg3 : ∀ f, f ∈ l3 → (Lit.int .i64 f.f0).wf = true ∧ (Lit.int .i64 f.f1).wf = true ∧ (Lit.int .u32 f.f2).wf = true) :
    Calls Try.prog 11 #[.int .u32 w, .int .i64 a, .int .i64 n, .slice A3 l3.length c3] W fun e w' => e = .returned (.bool true) ∧ Below W.heap.size W w' :=
  cleatlaw01_BitsFields.calls 3000 w a n A3 c3 l3 true W hr3 hc3 (fields w a n l3 (bounds_u32 h0).1 (bounds_u32 h0).2 fun f hf => bounds_u32 (hg3 f hf).2.2)
end Go.Proofs.Ytclomjndhcpmfaa.PureFields
