/- A region reads as it was given: the Go law answers true for every regions and number. -/
import Derived.Test.YtkpkkjbigndnoaaMMemB
import Derived.Test.YtkpkkjbigndnoaaMMemP
namespace Go.Proofs.Ytkpkkjbigndnoaa.Pure
open Go.RowKit Go.Proofs.Ytkpkkjbigndnoaa.P Go.Proofs.YtkpkkjbigndnoaaW.PrintWords Go.Proofs.YtkpkkjbigndnoaaW.PrintLast Go.Proofs.YtkpkkjbigndnoaaW.PrintMore Go.Proofs.Ytkpkkjbigndnoaa.MW
set_option linter.unusedVariables false
set_option linter.unusedSimpArgs false
/-- A region's end told by what it puts and a saying of the world: what follows is shown once. -/
def puts (a : Act) : List (Nat × Value) → Act
  | [] => a
  | (n, v) :: l => puts (a.put (some n) v) l
def cutQ (a' : Act) (J : World → Prop) : Exit → Act → World → Prop
  | .normal, b, w' => b = a' ∧ J w'
  | _, _, _ => False
theorem cut_ok {a' b : Act} {J : World → Prop} {w' : World} (h : b = a') (hj : J w') : cutQ a' J .normal b w' := ⟨h, hj⟩
theorem region_cut {P : Program} {c : Code} {Q : Exit → Act → World → Prop} {a : Act} {w : World} (l : List (Nat × Value)) {J : World → Prop} (h : c.wp P (cutQ (puts a l) J) a w) (hq : ∀ w', J w' → Q .normal (puts a l) w') : c.wp P Q a w :=
  Code.wp_mono (fun e b w' hh => by
    cases e with
    | normal => obtain ⟨h1, h2⟩ := hh; subst h1; exact hq w' h2
    | _ => exact hh.elim) h
set_option maxHeartbeats 8000000 in
set_option maxRecDepth 100000 in
theorem MemGiven_walk (A0 : Option Addr) (c0 : Nat) (l0 : List S37) (a1 : Int) (W : World) (hr0 : Kd.C k37 W A0 l0.length l0) (hc0 : l0.length ≤ c0)
    (hg0 : ∀ q, q ∈ l0 → (Lit.int .u64 q.f0).wf = true ∧ (Lit.int .i64 q.f1).wf = true ∧ q.f2.size ≤ maxLen) (w1 : (Lit.int .i64 a1).wf = true) :
    Calls Try.prog 4 #[.slice A0 l0.length c0, .int .i64 a1] W fun e w' => e = .returned (.bool true) ∧ Below W.heap.size W w' := by
  have hgl : ∀ r, r ∈ l0 → 0 ≤ r.f0 ∧ r.f0 < 18446744073709551616 := fun r hr => by
    have := (hg0 r hr).1
    simp [Lit.wf, IntKind.min, IntKind.max, IntKind.bits, IntKind.signed] at this; omega
  obtain ⟨b, hbig, hlen⟩ := big_at l0
  have HBIG := Aside0.mk (fun w => cleatref07_Big.calls 100 A0 c0 l0 b w)
  have HBE := Aside0.mk hbig
  have HR := Aside0.mk hr0
  have HC := Aside0.mk hc0
  clear hbig hg0 w1
  cases b with
  | true =>
    clear hlen hgl
    go_enter Try.func4, Try.ntmps4
    go_wp2_with fail
    refine (HBIG.out _ HR.out HC.out HBE.out).mono ?_
    rintro e w1 ⟨rfl, ⟨n1, rfl⟩⟩
    go_wp2_with fail
    refine (kept_calls _).mono ?_
    rintro e w3 ⟨rfl, hb⟩
    have HB3 := Aside0.mk (below_step (pw_below_drewN (Below.refl W.heap.size W) n1) hb)
    clear hb
    go_wp2
    go_ret
    exact ⟨rfl, HB3.out⟩
  | false =>
    have hl := hlen rfl
    have HNEW := Aside0.mk (fun w (hR : Kd.C k37 w A0 l0.length l0) => new_at w A0 c0 l0 hR hc0 (by omega) hgl)
    by_cases hin : 0 ≤ a1 ∧ a1 < l0.length
    · obtain ⟨i0, i1⟩ := hin
      have d1 : decide (a1 < 0) = false := decide_eq_false (by omega)
      have d2 : decide (a1 ≥ (l0.length : Int)) = false := decide_eq_false (by omega)
      by_cases hv : newV l0 = 0
      · have HV := Aside0.mk hv
        have HAT := Aside0.mk (fun w (hR : Kd.C k37 w A0 l0.length l0) => at_T37 hR a1 i0 i1)
        have hmem : rd_T37 l0 a1 ∈ l0 := by
          unfold rd_T37
          have : a1.toNat < l0.length := by omega
          simp [List.getD, List.getElem?_eq_getElem this, List.getElem_mem]
        have hp := given_pure hv (fun r hr => (hgl r hr).1) _ hmem
        have hgr := hgl _ hmem
        generalize rd_T37 l0 a1 = r at *
        obtain ⟨r0, r1, r2⟩ := r
        simp only at hp hgr HAT
        obtain ⟨p1, p2, p3, p4, p5, p6⟩ := hp
        obtain ⟨sz, hsz⟩ : ∃ sz : Int, sz = (r2.size : Int) + 1 := ⟨_, rfl⟩
        rw [← hsz] at p2
        have HTX := Aside0.mk (fun (w : World) M lo hi (h : MemOk w M lo hi (memL l0)) => text_at h r0 r2.size hgr.1 hgr.2)
        have HTY := Aside0.mk (fun (w : World) M lo hi (h : MemOk w M lo hi (memL l0)) => text_at h r0 sz hgr.1 hgr.2)
        have HLO := Aside0.mk (fun (w : World) M lo hi (h : MemOk w M lo hi (memL l0)) => load_at h r0 1 hgr.1 hgr.2)
        have HST := Aside0.mk (fun (w : World) M lo hi (h : MemOk w M lo hi (memL l0)) => store_at h r0 1 7 hgr.1 hgr.2 (by decide) (by decide))
        rw [p1, p3] at *
        generalize mtext (memL l0) r0 sz = y at *
        generalize (mstore (memL l0) r0 1 7).1 = g at *
        generalize (mstore (memL l0) r0 1 7).2 = L2 at *
        generalize memL l0 = L at *
        obtain ⟨y1, y2⟩ := y
        simp only at p2 HTY
        have dy : (y2 != 0) = true := by simpa using p2
        have HSZ := Aside0.mk hsz
        clear hsz
        have P4 := Aside0.mk p4
        have P5 := Aside0.mk p5
        have P6 := Aside0.mk p6
        have I0 := Aside0.mk i0
        have I1 := Aside0.mk i1
        clear hlen hgl hr0 hc0 hl hv hmem p1 p2 p3 p4 p5 p6 hgr i0 i1
        go_enter Try.func4, Try.ntmps4
        go_wp2_with fail
        refine (HBIG.out _ HR.out HC.out HBE.out).mono ?_
        rintro e w1 ⟨rfl, ⟨n1, rfl⟩⟩
        go_wp2_with fail
        have HR1 := Aside0.mk (Kd.C_below HR.out (pw_below_drewN (Below.refl W.heap.size W) n1))
        refine ((HNEW.out _ HR1.out).2 HV.out).mono ?_
        rintro e w2 ⟨rfl, hb, hm⟩
        have HM2 := Aside0.mk hm
        have HB2 := Aside0.mk (below_step (pw_below_drewN (Below.refl W.heap.size W) n1) hb)
        have HLE := Aside0.mk (show W.heap.size ≤ (W.drewN n1).heap.size from Nat.le_refl _)
        clear hb hm
        generalize (W.drewN n1).heap.size = M at *
        generalize w2.heap.size = hi at *
        obtain ⟨ad, hA0, e0, e1, e2⟩ := HAT.out _ (Kd.C_below HR.out HB2.out)
        subst hA0
        have i0 := I0.out
        have i1 := I1.out
        obtain ⟨i, rfl⟩ : ∃ i : Nat, a1 = (i : Int) := ⟨a1.toNat, by omega⟩
        rw [Int.toNat_natCast] at e0 e1 e2
        go_wp2_with fail
        refine region_cut [(44, .pointer (some ⟨M, 0, none⟩)), (45, .slice (some ad) l0.length c0), (46, .int .i64 i), (47, .pointer (some (ad.add (i * 3)))), (48, .pointer (some (ad.add (i * 3)))), (49, .int .u64 r0), (50, .slice (some ad) l0.length c0), (51, .int .i64 i), (52, .pointer (some (ad.add (i * 3)))), (53, .pointer (some ⟨(ad.add (i * 3)).block, (ad.add (i * 3)).off + 2, none⟩)), (54, .string r2), (55, .int .i64 r2.size), (56, .tuple #[.string r2, .int .i64 0]), (43, .tuple #[.string r2, .int .i64 0]), (57, .string r2), (58, .int .i64 0), (7, .string r2), (8, .int .i64 0)] (J := fun w' => MemOk w' M M hi L ∧ Below W.heap.size W w') ?h ?q
        case h =>
          go_region_with (go_at_call 11; refine (HTX.out _ _ _ _ (HM2.out.below (by repeat (first | exact Below.refl _ _ | apply pw_below_drewN | apply below_drew1 | apply below_drew)))).mono ?_; rintro e w9 ⟨rfl, hb⟩; have HM9 := Aside0.mk (HM2.out.below (below_step (show Below w2.heap.size w2 _ from (by repeat (first | exact Below.refl _ _ | apply pw_below_drewN | apply below_drew1 | apply below_drew))) hb)); have HB9 := Aside0.mk (below_step (show Below W.heap.size W _ from by repeat (first | exact HB2.out | apply pw_below_drewN | apply below_drew1 | apply below_drew)) hb); clear hb)
          all_goals refine cut_ok ?_ ⟨HM9.out, HB9.out⟩
          all_goals simp only [puts, List.getElem_toArray, List.getElem_cons_succ, List.getElem_cons_zero, Act.put, List.setIfInBounds_toArray, List.set_cons_zero, List.set_cons_succ]
        rintro w3 ⟨hm, hb⟩
        have HM3 := Aside0.mk hm
        have HB3 := Aside0.mk hb
        clear hm hb
        simp only [puts, List.getElem_toArray, List.getElem_cons_succ, List.getElem_cons_zero, Act.put, List.setIfInBounds_toArray, List.set_cons_zero, List.set_cons_succ]
        obtain ⟨ad2, hA2, e0, e1, e2⟩ := HAT.out _ (Kd.C_below HR.out HB3.out)
        obtain rfl := Option.some.inj hA2
        rw [Int.toNat_natCast] at e0 e1 e2
        have es : wrap64 ((r2.size : Int) + 1) = sz := by have := P5.out; have := HSZ.out; unfold wrap64; omega
        have es2 : IntKind.i64.wrap ((r2.size : Int) + 1) = sz := by rw [i64_w]; exact es
        go_wp2_with fail
        refine region_cut [(60, .pointer (some ⟨M, 0, none⟩)), (61, .slice (some ad) l0.length c0), (62, .int .i64 i), (63, .pointer (some (ad.add (i * 3)))), (64, .pointer (some (ad.add (i * 3)))), (65, .int .u64 r0), (66, .slice (some ad) l0.length c0), (67, .int .i64 i), (68, .pointer (some (ad.add (i * 3)))), (69, .pointer (some ⟨(ad.add (i * 3)).block, (ad.add (i * 3)).off + 2, none⟩)), (70, .string r2), (71, .int .i64 r2.size), (72, .int .i64 sz), (73, .tuple #[.string y1, .int .i64 y2]), (59, .tuple #[.string y1, .int .i64 y2]), (74, .string y1), (75, .int .i64 y2), (9, .string y1), (10, .int .i64 y2)] (J := fun w' => MemOk w' M M hi L ∧ Below W.heap.size W w') ?h2 ?q2
        case h2 =>
          go_region_with (go_at_call 11; refine (HTY.out _ _ _ _ (HM3.out.below (by repeat (first | exact Below.refl _ _ | apply pw_below_drewN | apply below_drew1 | apply below_drew)))).mono ?_; rintro e w9 ⟨rfl, hb⟩; have HM9 := Aside0.mk (HM3.out.below (below_step (show Below w3.heap.size w3 _ from (by repeat (first | exact Below.refl _ _ | apply pw_below_drewN | apply below_drew1 | apply below_drew))) hb)); have HB9 := Aside0.mk (below_step (show Below W.heap.size W _ from by repeat (first | exact HB3.out | apply pw_below_drewN | apply below_drew1 | apply below_drew)) hb); clear hb)
          all_goals refine cut_ok ?_ ⟨HM9.out, HB9.out⟩
          all_goals simp only [puts, List.getElem_toArray, List.getElem_cons_succ, List.getElem_cons_zero, Act.put, List.setIfInBounds_toArray, List.set_cons_zero, List.set_cons_succ]
        rintro w4 ⟨hm, hb⟩
        have HM4 := Aside0.mk hm
        have HB4 := Aside0.mk hb
        clear hm hb
        simp only [puts, List.getElem_toArray, List.getElem_cons_succ, List.getElem_cons_zero, Act.put, List.setIfInBounds_toArray, List.set_cons_zero, List.set_cons_succ]
        obtain ⟨ad2, hA2, e0, e1, e2⟩ := HAT.out _ (Kd.C_below HR.out HB4.out)
        obtain rfl := Option.some.inj hA2
        rw [Int.toNat_natCast] at e0 e1 e2
        go_wp2_with fail
        refine (HLO.out _ _ _ _ HM4.out).mono ?_
        rintro e w5 ⟨rfl, hb⟩
        have HM5 := Aside0.mk (HM4.out.below hb)
        have HB5 := Aside0.mk (below_step HB4.out hb)
        clear hb
        obtain ⟨ad2, hA2, e0, e1, e2⟩ := HAT.out _ (Kd.C_below HR.out HB5.out)
        obtain rfl := Option.some.inj hA2
        rw [Int.toNat_natCast] at e0 e1 e2
        go_wp2_with fail
        refine (HST.out _ _ _ _ HM5.out).mono ?_
        rintro e w6 ⟨rfl, hs, hm⟩
        have HB6 := Aside0.mk (hs.below _ _ HB5.out HLE.out HB5.out.size)
        clear hs hm
        go_wp2_with fail
        refine (kept_calls _).mono ?_
        rintro e w7 ⟨rfl, hb⟩
        have HB7 := Aside0.mk (below_step HB6.out hb)
        clear hb
        obtain ⟨ad2, hA2, e0, e1, e2⟩ := HAT.out _ (Kd.C_below HR.out HB7.out)
        obtain rfl := Option.some.inj hA2
        rw [Int.toNat_natCast] at e0 e1 e2
        have p4 := P4.out
        have z3 : (r2.toList == ([] : List UInt8)) = false := by rw [ByteArray.toList_eq]; cases hq : r2.data.toList with | nil => exact absurd (by rw [← data_length r2, hq]; rfl) (show ¬ r2.size = 0 by omega) | cons a b => rfl
        have p6 := P6.out
        have bw : IntKind.u64.wrap (bt r2 0) = bt r2 0 := by
          have := bt_range r2 0
          rw [IntKind.wrap_u64]; omega
        have ix : (0 : Int) < r2.size := by omega
        by_cases hk : r1 = 3
        · rw [if_pos hk] at p6
          subst p6
          subst hk
          clear p4
          go_wp2
          all_goals first | (rename_i hx hne; exact absurd (bw.symm.trans (congrArg IntKind.u64.wrap (bt_at r2 0 hx).symm)) hne) | (go_ret; exact ⟨by simp, HB7.out⟩)
        · rw [if_neg hk] at p6
          subst p6
          have k3 : (r1 == 3) = false := by simpa using hk
          clear p4 hk
          go_wp2
          all_goals first | (rename_i hx hne; exact absurd (bw.symm.trans (congrArg IntKind.u64.wrap (bt_at r2 0 hx).symm)) hne) | (go_ret; exact ⟨by simp, HB7.out⟩)
      · have HNV := Aside0.mk hv
        clear hlen hgl hr0 hc0 hl i0 i1
        generalize newV l0 = v at *
        have hv' : (v != 0) = true := by simpa using hv
        clear hv
        go_enter Try.func4, Try.ntmps4
        go_wp2_with fail
        refine (HBIG.out _ HR.out HC.out HBE.out).mono ?_
        rintro e w1 ⟨rfl, ⟨n1, rfl⟩⟩
        go_wp2_with fail
        refine ((HNEW.out _ (Kd.C_below HR.out (pw_below_drewN (Below.refl _ _) _))).1 HNV.out).mono ?_
        rintro e w2 ⟨rfl, hb⟩
        have HB2 := Aside0.mk (below_step (pw_below_drewN (Below.refl W.heap.size W) n1) hb)
        clear hb
        go_wp2_with fail
        refine (kept_calls _).mono ?_
        rintro e w3 ⟨rfl, hb⟩
        have HB3 := Aside0.mk (below_step HB2.out hb)
        clear hb
        go_wp2
        go_ret
        exact ⟨rfl, HB3.out⟩
    · by_cases h0 : a1 < 0
      · have d1 : decide (a1 < 0) = true := decide_eq_true h0
        clear hlen hgl hr0 hc0 hl hin h0
        go_enter Try.func4, Try.ntmps4
        go_wp2_with fail
        refine (HBIG.out _ HR.out HC.out HBE.out).mono ?_
        rintro e w1 ⟨rfl, ⟨n1, rfl⟩⟩
        go_wp2_with fail
        refine (kept_calls _).mono ?_
        rintro e w3 ⟨rfl, hb⟩
        have HB3 := Aside0.mk (below_step (pw_below_drewN (Below.refl W.heap.size W) n1) hb)
        clear hb
        go_wp2
        go_ret
        exact ⟨rfl, HB3.out⟩
      · have d1 : decide (a1 < 0) = false := decide_eq_false h0
        have d2 : decide (a1 ≥ (l0.length : Int)) = true := decide_eq_true (by omega)
        clear hlen hgl hr0 hc0 hl hin h0
        go_enter Try.func4, Try.ntmps4
        go_wp2_with fail
        refine (HBIG.out _ HR.out HC.out HBE.out).mono ?_
        rintro e w1 ⟨rfl, ⟨n1, rfl⟩⟩
        go_wp2_with fail
        refine (kept_calls _).mono ?_
        rintro e w3 ⟨rfl, hb⟩
        have HB3 := Aside0.mk (below_step (pw_below_drewN (Below.refl W.heap.size W) n1) hb)
        clear hb
        go_wp2
        go_ret
        exact ⟨rfl, HB3.out⟩
end Go.Proofs.Ytkpkkjbigndnoaa.Pure
