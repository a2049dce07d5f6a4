/- What is stored is loaded: the Go law answers true for every regions and numbers. -/
import Derived.Test.YtkpkkjbigndnoaaMMemB
namespace Go.Proofs.Ytkpkkjbigndnoaa.Pure
open Go.RowKit Go.Proofs.Ytkpkkjbigndnoaa.P Go.Proofs.YtkpkkjbigndnoaaW.PrintWords Go.Proofs.YtkpkkjbigndnoaaW.PrintLast Go.Proofs.YtkpkkjbigndnoaaW.PrintMore Go.Proofs.Ytkpkkjbigndnoaa.MW
set_option linter.unusedVariables false
set_option linter.unusedSimpArgs false
set_option maxHeartbeats 8000000 in
set_option maxRecDepth 100000 in
theorem MemStores_walk (A0 : Option Addr) (c0 : Nat) (l0 : List S37) (a1 a2 a3 a4 : Int) (W : World) (hr0 : Kd.C k37 W A0 l0.length l0) (hc0 : l0.length ≤ c0)
    (hg0 : ∀ q, q ∈ l0 → (Lit.int .u64 q.f0).wf = true ∧ (Lit.int .i64 q.f1).wf = true ∧ q.f2.size ≤ maxLen) (w1 : (Lit.int .u64 a1).wf = true) (w2 : (Lit.int .i64 a2).wf = true) (w3 : (Lit.int .u64 a3).wf = true) (w4 : (Lit.int .u64 a4).wf = true) :
    Calls Try.prog 3 #[.slice A0 l0.length c0, .int .u64 a1, .int .i64 a2, .int .u64 a3, .int .u64 a4] W fun e w' => e = .returned (.bool true) ∧ Below W.heap.size W w' := by
  have b1 : 0 ≤ a1 ∧ a1 < 18446744073709551616 := by simp [Lit.wf, IntKind.min, IntKind.max, IntKind.bits, IntKind.signed] at w1; omega
  have b3 : 0 ≤ a3 ∧ a3 < 18446744073709551616 := by simp [Lit.wf, IntKind.min, IntKind.max, IntKind.bits, IntKind.signed] at w3; omega
  have b4 : 0 ≤ a4 ∧ a4 < 18446744073709551616 := by simp [Lit.wf, IntKind.min, IntKind.max, IntKind.bits, IntKind.signed] at w4; omega
  have hgl : ∀ r, r ∈ l0 → 0 ≤ r.f0 ∧ r.f0 < 18446744073709551616 := fun r hr => by
    have := (hg0 r hr).1
    simp [Lit.wf, IntKind.min, IntKind.max, IntKind.bits, IntKind.signed] at this; omega
  obtain ⟨b, hbig, hlen⟩ := big_at l0
  have HBIG := Aside0.mk (fun w => cleatref07_Big.calls 100 A0 c0 l0 b w)
  have HBE := Aside0.mk hbig
  have HR := Aside0.mk hr0
  have HC := Aside0.mk hc0
  clear hbig hg0 w1 w2 w3 w4
  cases b with
  | true =>
    clear hlen hgl b1 b3 b4
    go_enter Try.func3, Try.ntmps3
    go_wp2_with fail
    refine (HBIG.out _ HR.out HC.out HBE.out).mono ?_
    rintro e w1 ⟨rfl, ⟨n1, rfl⟩⟩
    go_wp2
    go_ret
    exact ⟨rfl, pw_below_drewN (Below.refl _ _) _⟩
  | false =>
    have hl := hlen rfl
    have HNEW := Aside0.mk (fun w (hR : Kd.C k37 w A0 l0.length l0) => new_at w A0 c0 l0 hR hc0 (by omega) hgl)
    clear hlen hgl hr0 hc0 hl
    by_cases hv : newV l0 = 0
    · have HV := Aside0.mk hv
      have hp := stores_pure (memL l0) a1 a2 a3 a4 b1.1 b4.1 b3.1 b3.2
      have HLO := Aside0.mk (fun (w : World) M lo hi (h : MemOk w M lo hi (memL l0)) => load_at h a4 1 b4.1 b4.2)
      have HST := Aside0.mk (fun (w : World) M lo hi (h : MemOk w M lo hi (memL l0)) => store_at h a1 a2 a3 b1.1 b1.2 b3.1 b3.2)
      have HLO2 := Aside0.mk (fun (w : World) M lo hi (h : MemOk w M lo hi (mstore (memL l0) a1 a2 a3).2) => load_at h a4 1 b4.1 b4.2)
      have HLO3 := Aside0.mk (fun (w : World) M lo hi (h : MemOk w M lo hi (mstore (memL l0) a1 a2 a3).2) => load_at h a1 a2 b1.1 b1.2)
      clear hv
      generalize mload (memL l0) a4 1 = x at *
      generalize mload (mstore (memL l0) a1 a2 a3).2 a4 1 = y at *
      generalize mload (mstore (memL l0) a1 a2 a3).2 a1 a2 = z at *
      generalize (mstore (memL l0) a1 a2 a3).1 = g at *
      generalize (mstore (memL l0) a1 a2 a3).2 = L2 at *
      generalize memL l0 = L at *
      obtain ⟨x1, x2⟩ := x
      obtain ⟨y1, y2⟩ := y
      obtain ⟨z1, z2⟩ := z
      simp only at hp HLO HLO2 HLO3
      obtain ⟨p1, p2, p3⟩ := hp
      subst p1
      have P2 := Aside0.mk p2
      have P3 := Aside0.mk p3
      have B1 := Aside0.mk b1
      have B3 := Aside0.mk b3
      have B4 := Aside0.mk b4
      clear p2 p3 b1 b3 b4
      go_enter Try.func3, Try.ntmps3
      go_wp2_with fail
      refine (HBIG.out _ HR.out HC.out HBE.out).mono ?_
      rintro e w1 ⟨rfl, ⟨n1, rfl⟩⟩
      go_wp2_with fail
      refine ((HNEW.out _ (Kd.C_below HR.out (pw_below_drewN (Below.refl _ _) _))).2 HV.out).mono ?_
      rintro e w2 ⟨rfl, hb, hm⟩
      have HM2 := Aside0.mk hm
      have HB2 := Aside0.mk (below_step (pw_below_drewN (Below.refl W.heap.size W) n1) hb)
      have HLE := Aside0.mk (show W.heap.size ≤ (W.drewN n1).heap.size from Nat.le_refl _)
      clear hb hm
      generalize (W.drewN n1).heap.size = M at *
      generalize w2.heap.size = hi at *
      go_wp2_with fail
      refine (HLO.out _ _ _ _ HM2.out).mono ?_
      rintro e w3 ⟨rfl, hb⟩
      have HM3 := Aside0.mk (HM2.out.below hb)
      have HB3 := Aside0.mk (below_step HB2.out hb)
      clear hb
      go_wp2_with fail
      refine (HST.out _ _ _ _ HM3.out).mono ?_
      rintro e w4 ⟨rfl, hs, hm⟩
      have HM4 := Aside0.mk hm
      have HB4 := Aside0.mk (hs.below _ _ HB3.out HLE.out HB3.out.size)
      clear hs hm
      go_wp2_with fail
      refine (HLO2.out _ _ _ _ HM4.out).mono ?_
      rintro e w5 ⟨rfl, hb⟩
      have HM5 := Aside0.mk (HM4.out.below hb)
      have HB5 := Aside0.mk (below_step HB4.out hb)
      clear hb
      go_wp2_with fail
      refine (HLO3.out _ _ _ _ HM5.out).mono ?_
      rintro e w6 ⟨rfl, hb⟩
      have HB6 := Aside0.mk (below_step HB5.out hb)
      clear hb
      by_cases hg : g = 0
      · subst hg
        obtain ⟨q1, q2, q3, q4⟩ := P3.out rfl
        subst q2
        have v0 : 0 ≤ a3 := B3.out.1
        rcases q1 with rfl | rfl
        · simp only [if_true, show ¬ (8 : Int) = 1 by decide, if_false] at q3
          subst q3
          by_cases hge : a1 ≤ a4
          · have c1 : decide (a4 ≥ a1) = true := decide_eq_true hge
            have e5 : IntKind.u64.wrap (a4 - a1) = a4 - a1 := by have := B4.out; have := B1.out; rw [IntKind.wrap_u64]; omega
            by_cases hlt : a4 - a1 < 1
            · have c2 : decide (a4 - a1 < 1) = true := decide_eq_true hlt
              clear q4 hge hlt
              go_wp2_with fail
              refine (kept_calls _).mono ?_
              rintro e w7 ⟨rfl, hb⟩
              have HB7 := Aside0.mk (below_step HB6.out hb)
              clear hb
              go_wp2
              go_ret
              exact ⟨by simp, HB7.out⟩
            · have e1 : x1 = y1 := q4.resolve_left (fun h => hlt h.2)
              subst e1
              have c2 : decide (a4 - a1 < 1) = false := decide_eq_false hlt
              clear q4 hge hlt
              go_wp2_with fail
              refine (kept_calls _).mono ?_
              rintro e w7 ⟨rfl, hb⟩
              have HB7 := Aside0.mk (below_step HB6.out hb)
              clear hb
              go_wp2
              go_ret
              exact ⟨by simp, HB7.out⟩
          · have c1 : decide (a4 ≥ a1) = false := decide_eq_false hge
            have e1 : x1 = y1 := q4.resolve_left (fun h => hge h.1)
            subst e1
            clear q4 hge
            go_wp2_with fail
            refine (kept_calls _).mono ?_
            rintro e w7 ⟨rfl, hb⟩
            have HB7 := Aside0.mk (below_step HB6.out hb)
            clear hb
            go_wp2
            go_ret
            exact ⟨by simp, HB7.out⟩
        · simp only [if_true, show ¬ (8 : Int) = 1 by decide, if_false] at q3
          subst q3
          by_cases hge : a1 ≤ a4
          · have c1 : decide (a4 ≥ a1) = true := decide_eq_true hge
            have e5 : IntKind.u64.wrap (a4 - a1) = a4 - a1 := by have := B4.out; have := B1.out; rw [IntKind.wrap_u64]; omega
            by_cases hlt : a4 - a1 < 8
            · have c2 : decide (a4 - a1 < 8) = true := decide_eq_true hlt
              clear q4 hge hlt
              go_wp2_with fail
              refine (kept_calls _).mono ?_
              rintro e w7 ⟨rfl, hb⟩
              have HB7 := Aside0.mk (below_step HB6.out hb)
              clear hb
              go_wp2
              go_ret
              exact ⟨by simp, HB7.out⟩
            · have e1 : x1 = y1 := q4.resolve_left (fun h => hlt h.2)
              subst e1
              have c2 : decide (a4 - a1 < 8) = false := decide_eq_false hlt
              clear q4 hge hlt
              go_wp2_with fail
              refine (kept_calls _).mono ?_
              rintro e w7 ⟨rfl, hb⟩
              have HB7 := Aside0.mk (below_step HB6.out hb)
              clear hb
              go_wp2
              go_ret
              exact ⟨by simp, HB7.out⟩
          · have c1 : decide (a4 ≥ a1) = false := decide_eq_false hge
            have e1 : x1 = y1 := q4.resolve_left (fun h => hge h.1)
            subst e1
            clear q4 hge
            go_wp2_with fail
            refine (kept_calls _).mono ?_
            rintro e w7 ⟨rfl, hb⟩
            have HB7 := Aside0.mk (below_step HB6.out hb)
            clear hb
            go_wp2
            go_ret
            exact ⟨by simp, HB7.out⟩
      · have e1 : x1 = y1 := P2.out hg
        subst e1
        have hb5 : (g != 0) = true := by simpa using hg
        clear hg
        go_wp2_with fail
        refine (kept_calls _).mono ?_
        rintro e w7 ⟨rfl, hb⟩
        have HB7 := Aside0.mk (below_step HB6.out hb)
        clear hb
        go_wp2
        go_ret
        exact ⟨by simp, HB7.out⟩
    · have HNV := Aside0.mk hv
      generalize newV l0 = v at *
      have hv' : (v != 0) = true := by simpa using hv
      clear hv b1 b3 b4
      go_enter Try.func3, Try.ntmps3
      go_wp2_with fail
      refine (HBIG.out _ HR.out HC.out HBE.out).mono ?_
      rintro e w1 ⟨rfl, ⟨n1, rfl⟩⟩
      go_wp2_with fail
      refine ((HNEW.out _ (Kd.C_below HR.out (pw_below_drewN (Below.refl _ _) _))).1 HNV.out).mono ?_
      rintro e w2 ⟨rfl, hb⟩
      have HB2 := Aside0.mk (below_step (pw_below_drewN (Below.refl W.heap.size W) n1) hb)
      clear hb
      go_wp2_with fail
      refine (kept_calls _).mono ?_
      rintro e w3 ⟨rfl, hb⟩
      have HB3 := Aside0.mk (below_step HB2.out hb)
      clear hb
      go_wp2
      go_ret
      exact ⟨rfl, HB3.out⟩
end Go.Proofs.Ytkpkkjbigndnoaa.Pure
