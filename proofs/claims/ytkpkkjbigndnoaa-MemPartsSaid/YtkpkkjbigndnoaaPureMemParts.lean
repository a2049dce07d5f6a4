/- Eight bytes are what is loaded one by one: the Go law answers true for every regions and place. -/
import Derived.Test.YtkpkkjbigndnoaaMMemB
import Derived.Test.YtkpkkjbigndnoaaMMemP
namespace Go.Proofs.Ytkpkkjbigndnoaa.Pure
open Go.RowKit Go.Proofs.Ytkpkkjbigndnoaa.P Go.Proofs.YtkpkkjbigndnoaaW.PrintWords Go.Proofs.YtkpkkjbigndnoaaW.PrintLast Go.Proofs.YtkpkkjbigndnoaaW.PrintMore Go.Proofs.Ytkpkkjbigndnoaa.MW
set_option linter.unusedVariables false
set_option linter.unusedSimpArgs false
set_option maxHeartbeats 8000000 in
set_option maxRecDepth 100000 in
theorem MemParts_walk (A0 : Option Addr) (c0 : Nat) (l0 : List S37) (a1 : Int) (W : World) (hr0 : Kd.C k37 W A0 l0.length l0) (hc0 : l0.length ≤ c0)
    (hg0 : ∀ q, q ∈ l0 → (Lit.int .u64 q.f0).wf = true ∧ (Lit.int .i64 q.f1).wf = true ∧ q.f2.size ≤ maxLen) (w1 : (Lit.int .u64 a1).wf = true) :
    Calls Try.prog 5 #[.slice A0 l0.length c0, .int .u64 a1] W fun e w' => e = .returned (.bool true) ∧ Below W.heap.size W w' := by
  have b1 : 0 ≤ a1 ∧ a1 < 18446744073709551616 := by simp [Lit.wf, IntKind.min, IntKind.max, IntKind.bits, IntKind.signed] at w1; omega
  have hgl : ∀ r, r ∈ l0 → 0 ≤ r.f0 ∧ r.f0 < 18446744073709551616 := fun r hr => by
    have := (hg0 r hr).1
    simp [Lit.wf, IntKind.min, IntKind.max, IntKind.bits, IntKind.signed] at this; omega
  obtain ⟨b, hbig, hlen⟩ := big_at l0
  have HBIG := Aside0.mk (fun w => cleatref07_Big.calls 100 A0 c0 l0 b w)
  have HBE := Aside0.mk hbig
  have HR := Aside0.mk hr0
  have HC := Aside0.mk hc0
  clear hbig hg0 w1
  by_cases hkp : b = true ∨ (9223372036854775807 : Int) < a1
  · have hd : b = true ∨ (b = false ∧ decide (a1 > 9223372036854775807) = true) := by
      rcases hkp with h | h
      · exact .inl h
      · cases b
        · exact .inr ⟨rfl, decide_eq_true h⟩
        · exact .inl rfl
    clear hlen hgl hkp
    rcases hd with rfl | ⟨rfl, hd⟩
    all_goals go_enter Try.func5, Try.ntmps5
    all_goals go_wp2_with fail
    all_goals refine (HBIG.out _ HR.out HC.out HBE.out).mono ?_
    all_goals rintro e w1 ⟨rfl, ⟨n1, rfl⟩⟩
    all_goals go_wp2_with fail
    all_goals refine (kept_calls _).mono ?_
    all_goals rintro e w3 ⟨rfl, hb⟩
    all_goals have HB3 := Aside0.mk (below_step (pw_below_drewN (Below.refl W.heap.size W) n1) hb)
    all_goals clear hb
    all_goals go_wp2
    all_goals go_ret
    all_goals exact ⟨rfl, HB3.out⟩
  · obtain ⟨rfl, hle⟩ : b = false ∧ ¬ (9223372036854775807 : Int) < a1 := by cases b <;> simp_all
    have hd : decide (a1 > 9223372036854775807) = false := decide_eq_false hle
    have hl := hlen rfl
    have HNEW := Aside0.mk (fun w (hR : Kd.C k37 w A0 l0.length l0) => new_at w A0 c0 l0 hR hc0 (by omega) hgl)
    by_cases hv : newV l0 = 0
    · have HV := Aside0.mk hv
      obtain ⟨_, _, hap⟩ := newV_zero hv
      have hp := parts_pure hap (memL_good hv (fun r hr => (hgl r hr).1)) a1 b1.1
      have HTX := Aside0.mk (fun (w : World) M lo hi (h : MemOk w M lo hi (memL l0)) => text_at h a1 8 b1.1 b1.2)
      have HLO := Aside0.mk (fun (w : World) M lo hi (h : MemOk w M lo hi (memL l0)) => load_at h a1 8 b1.1 b1.2)
      have HWO := Aside0.mk (fun (w : World) M lo hi (h : MemOk w M lo hi (memL l0)) => word_at h a1 b1.1 b1.2)
      have HLK := Aside0.mk (fun (k : Nat) (hk : k < 8) (w : World) M lo hi (h : MemOk w M lo hi (memL l0)) => load_at h (a1 + k) 1 (by omega) (by omega))
      clear hlen hgl hr0 hc0 hl hv hap hkp
      have B1 := Aside0.mk b1
      have HLE1 := Aside0.mk hle
      clear b1 hle
      rcases hp with ⟨p1, p2, p3⟩ | ⟨d, p1, p2, p3, p4, p5, p6⟩
      · clear HWO HLK
        generalize mload (memL l0) a1 8 = x at *
        generalize mtext (memL l0) a1 8 = y at *
        generalize memL l0 = L at *
        obtain ⟨x1, x2⟩ := x
        obtain ⟨y1, y2⟩ := y
        simp only at p1 p2 p3 HTX HLO
        subst p1; subst p2; subst p3
        go_enter Try.func5, Try.ntmps5
        go_wp2_with fail
        refine (HBIG.out _ HR.out HC.out HBE.out).mono ?_
        rintro e w1 ⟨rfl, ⟨n1, rfl⟩⟩
        go_wp2_with fail
        refine ((HNEW.out _ (Kd.C_below HR.out (pw_below_drewN (Below.refl _ _) _))).2 HV.out).mono ?_
        rintro e w2 ⟨rfl, hb, hm⟩
        have HM2 := Aside0.mk hm
        have HB2 := Aside0.mk (below_step (pw_below_drewN (Below.refl W.heap.size W) n1) hb)
        clear hb hm
        go_wp2_with fail
        refine (HLO.out _ _ _ _ HM2.out).mono ?_
        rintro e w3 ⟨rfl, hb⟩
        have HM3 := Aside0.mk (HM2.out.below hb)
        have HB3 := Aside0.mk (below_step HB2.out hb)
        clear hb
        go_wp2_with fail
        refine (HTX.out _ _ _ _ HM3.out).mono ?_
        rintro e w4 ⟨rfl, hb⟩
        have HB4 := Aside0.mk (below_step HB3.out hb)
        clear hb
        go_wp2_with fail
        refine (kept_calls _).mono ?_
        rintro e w5 ⟨rfl, hb⟩
        have HB5 := Aside0.mk (below_step HB4.out hb)
        clear hb
        go_wp2
        go_ret
        exact ⟨rfl, HB5.out⟩
      · rw [p3] at HLO
        rw [p4] at HTX
        have HLK2 := Aside0.mk (fun (k : Nat) (hk : k < 8) (w : World) M lo hi (h : MemOk w M lo hi (memL l0)) => by
          have := HLK.out k hk w M lo hi h
          rw [p5 k hk] at this
          exact this)
        have hsz : (strOfNums d).size = 8 := by rw [strOfNums_size, p1]
        have hbt : ∀ i : Nat, bt (strOfNums d) i = d.getD i 0 := fun i => bt_str d p2 i
        have hnum : cleatref07_Number.f 40 ((strOfNums d).extract 0 4) = some (leV (d.take 4)) := by
          rw [take4_str]
          exact number4 _ (fun x hx => p2 x (List.mem_of_mem_take hx)) (by rw [List.length_take]; omega)
        have hdr : ∀ i : Nat, i < 8 → leV (d.drop i) % 256 = d.getD i 0 ∧ leV (d.drop i) / 256 = leV (d.drop (i + 1)) := fun i hi => leV_drop d p2 i (by omega)
        have hgd : ∀ i : Nat, i < 8 → 0 ≤ d.getD i 0 ∧ d.getD i 0 < 256 := fun i hi => by
          have : i < d.length := by omega
          simp only [List.getD, List.getElem?_eq_getElem this, Option.getD_some]
          exact p2 _ (List.getElem_mem this)
        have hd0 : leV d = leV (d.drop 0) := rfl
        simp only [hd0] at HLO
        clear HLK p3 p4 p5 hd0
        have HNN := Aside0.mk (fun i : Nat => (leV_lt (d.drop i) (fun x hx => p2 x (List.mem_of_mem_drop hx))).1)
        have HN2 := Aside0.mk (fun i : Nat => show leV (d.drop i) < 18446744073709551616 from by
          have h1 := (leV_lt (d.drop i) (fun x hx => p2 x (List.mem_of_mem_drop hx))).2
          have h2 := Nat.pow_le_pow_right (show 256 > 0 by decide) (show (d.drop i).length ≤ 8 by rw [List.length_drop]; omega)
          have h3 : (256 : Int) ^ ((d.drop i).length) ≤ ((256 ^ 8 : Nat) : Int) := by exact_mod_cast h2
          have h4 : ((256 ^ 8 : Nat) : Int) = 18446744073709551616 := by rfl
          omega)
        have HBT := Aside0.mk hbt
        have HDR := Aside0.mk hdr
        have HGD := Aside0.mk hgd
        have HNUM := Aside0.mk hnum
        have HLT := Aside0.mk (leV_lt (d.take 4) (fun x hx => p2 x (List.mem_of_mem_take hx)))
        have hl4 : (d.take 4).length = 4 := by rw [List.length_take]; omega
        rw [hl4] at HLT
        have P6 := Aside0.mk p6
        clear hbt hdr hgd hnum p1 p2 hl4 p6
        generalize strOfNums d = s at *
        generalize leV (d.take 4) = v4 at *
        generalize mword (memL l0) a1 = y at *
        generalize memL l0 = L at *
        go_enter Try.func5, Try.ntmps5
        go_wp2_with fail
        refine (HBIG.out _ HR.out HC.out HBE.out).mono ?_
        rintro e w1 ⟨rfl, ⟨n1, rfl⟩⟩
        go_wp2_with fail
        refine ((HNEW.out _ (Kd.C_below HR.out (pw_below_drewN (Below.refl _ _) _))).2 HV.out).mono ?_
        rintro e w2 ⟨rfl, hb, hm⟩
        have HM2 := Aside0.mk hm
        have HB2 := Aside0.mk (below_step (pw_below_drewN (Below.refl W.heap.size W) n1) hb)
        clear hb hm
        generalize (W.drewN n1).heap.size = M at *
        generalize w2.heap.size = hi at *
        go_wp2_with fail
        refine (HLO.out _ _ _ _ HM2.out).mono ?_
        rintro e w3 ⟨rfl, hb⟩
        have HM3 := Aside0.mk (HM2.out.below hb)
        have HB3 := Aside0.mk (below_step HB2.out hb)
        clear hb
        go_wp2_with fail
        refine (HTX.out _ _ _ _ HM3.out).mono ?_
        rintro e w4 ⟨rfl, hb⟩
        have HM4 := Aside0.mk (HM3.out.below hb)
        have HB4 := Aside0.mk (below_step HB3.out hb)
        clear hb
        go_wp2_with fail
        go_loopg [7, 11] 8 (fun kq v7 v11 wr => ∃ i : Nat, v7 = .int .u64 (leV (d.drop i)) ∧ v11 = .int .i64 (i : Int) ∧ i + kq = 8 ∧ Aside0 (MemOk wr M M hi L) ∧ Aside0 (Below W.heap.size W wr))
        case atStart => exact ⟨0, rfl, rfl, by omega, ⟨HM4.out⟩, ⟨HB4.out⟩⟩
        case round =>
          obtain ⟨i, rfl, rfl, hik, HM, HB⟩ := hrel
          cases gk with
          | zero =>
            obtain rfl : i = 8 := by omega
            clear hik
            go_wp2_with fail
            refine (HWO.out _ _ _ _ HM.out).mono ?_
            rintro e w5 ⟨rfl, hb⟩
            have HB5 := Aside0.mk (below_step HB.out hb)
            clear hb
            have p6 := P6.out
            rcases p6 with ⟨q1, q2⟩ | q1
            · obtain ⟨y1, y2⟩ := y
              simp only at q1 q2
              subst q2
              have dy : (y2 != 0) = true := by simpa using q1
              have dz : (y2 == 0) = false := by simpa using q1
              clear q1
              go_wp2_with fail
              refine (kept_calls _).mono ?_
              rintro e w6 ⟨rfl, hb⟩
              have HB6 := Aside0.mk (below_step HB5.out hb)
              clear hb
              go_wp2
              go_ret
              exact ⟨rfl, HB6.out⟩
            · subst q1
              have n0 := HLT.out.1
              have n1 := HLT.out.2
              have nw : IntKind.u64.wrap v4 = v4 := by rw [IntKind.wrap_u64]; omega
              go_wp2_with fail
              refine (kept_calls _).mono ?_
              rintro e w6 ⟨rfl, hb⟩
              have HB6 := Aside0.mk (below_step HB5.out hb)
              clear hb
              clear n0 n1
              go_wp2_with fail
              refine (cleatref07_Number.calls 40 _ v4 _ HNUM.out).mono ?_
              rintro e w7 ⟨rfl, ⟨nq, rfl⟩⟩
              go_wp2
              go_ret
              exact ⟨by simp, pw_below_drewN HB6.out _⟩
          | succ kq =>
            have hi8 : i < 8 := by omega
            have e1 : IntKind.u64.wrap (a1 + (i : Int)) = a1 + i := by have := HLE1.out; have := B1.out; rw [IntKind.wrap_u64]; omega
            have e2 : wrap64 ((i : Int) + 1) = ((i + 1 : Nat) : Int) := by unfold wrap64; omega
            obtain ⟨f1, f2⟩ := HDR.out i hi8
            have f0 := HNN.out i
            have f3 : IntKind.u64.wrap (((s[i]'(by omega)).toNat : Nat) : Int) = d.getD i 0 := by
              have g := HGD.out i hi8
              have h2 : (((s[i]'(by omega)).toNat : Nat) : Int) = bt s (i : Int) := bt_at s (i : Int) (by omega)
              rw [h2, HBT.out i, IntKind.wrap_u64]
              omega
            have f4 : (leV (d.drop i)).tmod 256 = d.getD i 0 := by rw [Int.tmod_eq_emod_of_nonneg f0]; exact f1
            have f5 : (leV (d.drop i)).tdiv 256 = leV (d.drop (i + 1)) := by rw [Int.tdiv_eq_ediv_of_nonneg f0]; exact f2
            have f6 : IntKind.u64.wrap (leV (d.drop (i + 1))) = leV (d.drop (i + 1)) := by have := HNN.out (i + 1); have := HN2.out (i + 1); rw [IntKind.wrap_u64]; omega
            have HLI := Aside0.mk (HLK2.out i hi8)
            clear f0 f1 f2 HLK2 HDR HGD HBT HNN HN2
            generalize leV (d.drop i) = x at *
            generalize hx2 : leV (d.drop (i + 1)) = x2 at *
            have HX2 := Aside0.mk hx2
            clear hx2
            generalize d.getD i 0 = b at *
            go_wp2_with fail
            refine (HLI.out _ _ _ _ HM.out).mono ?_
            rintro e w5 ⟨rfl, hb⟩
            have HM5 := Aside0.mk (HM.out.below hb)
            have HB5 := Aside0.mk (below_step HB.out hb)
            clear hb
            go_wp2_with fail
            go_roundg kq
            case measure => omega
            case rel => exact ⟨i + 1, by rw [HX2.out], rfl, by omega, ⟨HM5.out⟩, ⟨HB5.out⟩⟩
    · have HNV := Aside0.mk hv
      generalize newV l0 = v at *
      have hv' : (v != 0) = true := by simpa using hv
      clear hlen hgl hr0 hc0 hl hv b1 hkp hle
      go_enter Try.func5, Try.ntmps5
      go_wp2_with fail
      refine (HBIG.out _ HR.out HC.out HBE.out).mono ?_
      rintro e w1 ⟨rfl, ⟨n1, rfl⟩⟩
      go_wp2_with fail
      refine ((HNEW.out _ (Kd.C_below HR.out (pw_below_drewN (Below.refl _ _) _))).1 HNV.out).mono ?_
      rintro e w2 ⟨rfl, hb⟩
      have HB2 := Aside0.mk (below_step (pw_below_drewN (Below.refl W.heap.size W) n1) hb)
      clear hb
      go_wp2_with fail
      refine (kept_calls _).mono ?_
      rintro e w3 ⟨rfl, hb⟩
      have HB3 := Aside0.mk (below_step HB2.out hb)
      clear hb
      go_wp2
      go_ret
      exact ⟨rfl, HB3.out⟩
end Go.Proofs.Ytkpkkjbigndnoaa.Pure
