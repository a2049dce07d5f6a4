/- Written for this claim by a program of this session: what the claim uses of lemmas and proved contracts of Go functions. -/
import Derived.Test.YtflojfcioojgbaaGreatDoorYAl10
import Derived.Lib.BufferWrite
import Derived.Laws.CopyOwn
namespace Go.Proofs.YtflojfcioojgbaaGreatDoor.MW
open Go.RowKit Go.Proofs.YtflojfcioojgbaaGreatDoor.P Go.Proofs.YtflojfcioojgbaaGreatDoorW.PrintWords Go.Proofs.YtflojfcioojgbaaGreatDoorW.PrintLast Go.Proofs.YtflojfcioojgbaaGreatDoorW.PrintMore
set_option linter.unusedVariables false
set_option linter.unusedSimpArgs false
def mpOf (r : S57) : MP := ⟨r.f0, r.f1, bytesOf r.f2⟩
def badR (r : S57) : Bool := decide (r.f1 < 1) || decide (r.f1 > 3) || decide (r.f2.size = 0) || decide (65536 < r.f2.size)
def farR (r : S57) : Bool := decide (r.f0 > 4611686018427387904)
def kdP : Kd (MP × Nat) where
  sz := 3
  E := []
  K := fun _ x cs => cs = encM x
  M := fun _ _ _ x cs => cs = encM x
  K_len := fun h => by rw [h]; rfl
  K_one := fun h u hu => by
    rw [h] at hu
    simp only [encM, List.mem_cons, List.not_mem_nil, or_false] at hu
    rcases hu with rfl | rfl | rfl <;> rfl
  K_below := fun _ h => h
  K_of_M := fun h => h
  M_mono := fun _ h => h
  M_bound := fun h => h
  M_move := fun _ h => h
  M_lower := fun _ h => h
theorem info_part : (Tryz.prog.info? 126).map (fun i => (i.zero, i.size, i.bytes)) = some (some (.agg #[.int .u64 0, .int .i64 0, .slice none 0 0]), 3, 40) := by kernel_rfl
theorem info_u8 : (Tryz.prog.info? 5).map (fun i => (i.zero, i.size, i.bytes)) = some (some (.int .u8 0), 1, 1) := by kernel_rfl
def zerosA (n : Nat) : Array Value := (List.replicate n (Value.int .u8 0)).toArray
set_option maxRecDepth 100000 in
theorem make_bytes (n : Nat) (hn : n ≤ 65536) (W : World) : (Instr.makeSlice 63 (.int .i64 (n : Int)) (.int .i64 (n : Int))).run Tryz.prog W = .ok (.slice (some ⟨W.heap.size, 0, none⟩) n n) (W.alloc (.cells (zerosA n) 5)) := by
  obtain ⟨i0, hi, hzz⟩ := Option.map_eq_some_iff.1 info_u8
  simp only [Prod.mk.injEq] at hzz
  obtain ⟨hz0, hz1, hz2⟩ := hzz
  have hr := run_make (P := Tryz.prog) W 63 5 i0 (.int .u8 0) Tryz.underlying63 hi hz0 .i64 .i64 (n : Int) (n : Int) (by omega) (by omega) (by rw [hz2]; omega) (by omega)
  simp only [Int.toNat_natCast] at hr
  rw [hr, hz1]
  congr 3
  have hc : (Value.int .u8 0).cells = #[.int .u8 0] := rfl
  unfold zerosA madeCells
  rw [hc]
  apply Array.ext
  · simp
  · intro i h1 h2
    simp [Nat.mod_one]
theorem top_ (w : World) (o : Obj) : (w.alloc o).heap[w.heap.size]? = some o := by
  show (w.heap.push o)[w.heap.size]? = some o
  simp
theorem wpList_copy_str {P : Program} {w : World} {ops : Array Oper} {rest : List Oper} {o : Oper} {a : Act} {Q : Exit → Act → World → Prop} (hgd : o.guard = none) (d s : Operand) (dT sT : TypeId)
    (ho : o.op = .call { callee := .builtin .copy, args := #[d, s], argTypes := #[dT, sT] }) (elem : TypeId) (hu : P.underlying dT = some (.slice elem)) (hsz : (P.info? elem).map (·.size) = some 1)
    (g dLen dCap : Nat) (y : ByteArray) (hd : a.eval d = .slice (some ⟨g, 0, none⟩) dLen dCap) (hs : a.eval s = .string y) (t : TypeId) (hg : w.heap[g]? = some (.cells (zerosA dLen) t (0, 0))) (hn : y.size = dLen)
    (h : ∀ w', w'.heap[g]? = some (.cells ((bytesOf y).map (Value.int .u8)).toArray t (0, 0)) → Touch w w' g → wpList P ops Q rest (a.put o.dst (goInt y.size)) w') :
    wpList P ops Q (o :: rest) a w := by
  refine wpList_plain hgd fun K hK => ?_
  have hrun := Lib.run_copy_row_string (P := P) w dT sT o.type elem g 0 dLen dCap y (zerosA dLen) t hu hsz hg (by omega) (by unfold zerosA; simp; omega)
  have hrow : ((zerosA dLen).toList.take 0 ++ Lib.byteCells y.data.toList ++ (zerosA dLen).toList.drop (0 + y.size)).toArray = ((bytesOf y).map (Value.int .u8)).toArray := by
    have h1 : (zerosA dLen).toList.drop (0 + y.size) = [] := List.drop_eq_nil_of_le (by unfold zerosA; simp; omega)
    rw [h1, List.take_zero, List.nil_append, List.append_nil]
    unfold Lib.byteCells bytesOf
    rw [List.map_map]
    rfl
  rw [hrow] at hrun
  unfold Oper.wp
  simp [execOp, ho, resolve, invoke, builtin, hd, hs, hrun, Result.andThen]
  refine hK _ _ (h _ (setRow_heap w g _ _ t _ hg) ⟨fun k hk hn => setRow_other w g k _ hn, by simp [World.setRow], fun B U hu hb _ => below_setRow hu hb _⟩)
theorem alloc3_ (wr : World) (o1 o2 o3 : Obj) : ∃ W, W = (((wr.alloc o1).alloc o2).alloc o3).drew ∧ W.heap[wr.heap.size]? = some o1 ∧ W.heap[wr.heap.size + 1]? = some o2 ∧ W.heap[wr.heap.size + 1 + 1]? = some o3 ∧ Below wr.heap.size wr W ∧ W.heap.size = wr.heap.size + 3 := by
  have s1 : (wr.alloc o1).heap.size = wr.heap.size + 1 := by show (wr.heap.push o1).size = _; simp
  have s2 : ((wr.alloc o1).alloc o2).heap.size = wr.heap.size + 1 + 1 := by show ((wr.heap.push o1).push o2).size = _; simp
  have t1 := top_ wr o1
  have t2 := top_ (wr.alloc o1) o2
  have t3 := top_ ((wr.alloc o1).alloc o2) o3
  rw [s1] at t2
  rw [s2] at t3
  have b2 := below_alloc (Below.refl (wr.alloc o1).heap.size (wr.alloc o1)) o2
  have b3 := below_alloc (Below.refl ((wr.alloc o1).alloc o2).heap.size ((wr.alloc o1).alloc o2)) o3
  refine ⟨_, rfl, ?_, ?_, t3, ?_, ?_⟩
  · exact (b3.block _ (by omega)).trans ((b2.block _ (by omega)).trans t1)
  · exact (b3.block _ (by omega)).trans t2
  · exact below_drew (below_alloc (below_alloc (below_alloc (Below.refl _ _) _) _) _)
  · show (((wr.heap.push o1).push o2).push o3).size = _
    simp
theorem size_u8 : (Tryz.prog.info? 5).map (·.size) = some 1 := by kernel_rfl
theorem part_grown {w w11 w12 : World} {M : Nat} {v : Value} {Q Q' : List (MP × Nat)} (hR : Kd.R kdP 126 w11 w.heap.size (fun _ => True) v Q) (hM : w11.heap[M]? = some (.cells #[v] 122 (0, 0)))
    (hD : ∀ q, q ∈ Q' → w.heap.size ≤ q.2 ∧ w11.heap[q.2]? = some (.cells (q.1.d.map (Value.int .u8)).toArray 5 (0, 0))) (hg : w11.grownBy w12 v.ownBlock) :
    w12.heap[M]? = some (.cells #[v] 122 (0, 0)) ∧ ∀ q, q ∈ Q' → w.heap.size ≤ q.2 ∧ w12.heap[q.2]? = some (.cells (q.1.d.map (Value.int .u8)).toArray 5 (0, 0)) :=
  ⟨blk_grown hM hg (Kd.R_ne hR hM (by decide)), fun q hq => ⟨(hD q hq).1, blk_grown (hD q hq).2 hg (Kd.R_ne hR (hD q hq).2 (by decide))⟩⟩
theorem part_put {w w12 : World} {M : Nat} {v v1 : Value} {Q : List (MP × Nat)} (hM0 : w.heap.size ≤ M) (hR : Kd.R kdP 126 w12 w.heap.size (fun _ => True) v1 Q) (hM : w12.heap[M]? = some (.cells #[v] 122 (0, 0)))
    (hD : ∀ q, q ∈ Q → w.heap.size ≤ q.2 ∧ w12.heap[q.2]? = some (.cells (q.1.d.map (Value.int .u8)).toArray 5 (0, 0))) (hB : Below w.heap.size w w12) :
    Kd.R kdP 126 (w12.setCell ⟨M, 0, none⟩ v1) w.heap.size (fun _ => True) v1 Q ∧ (w12.setCell ⟨M, 0, none⟩ v1).heap[M]? = some (.cells #[v1] 122 (0, 0)) ∧
    (∀ q, q ∈ Q → w.heap.size ≤ q.2 ∧ (w12.setCell ⟨M, 0, none⟩ v1).heap[q.2]? = some (.cells (q.1.d.map (Value.int .u8)).toArray 5 (0, 0))) ∧ Below w.heap.size w (w12.setCell ⟨M, 0, none⟩ v1) :=
  ⟨Kd.R_set hR hM (by decide) 0 v1, blk_set hM 0 v1, fun q hq => ⟨(hD q hq).1, (Below.heap_setCell w12 ⟨M, 0, none⟩ v1 q.2 (fun e => by
    have h1 := blk_ne (hD q hq).2 hM (by decide)
    exact h1 e)).trans (hD q hq).2⟩, hB.setCell hM0 _⟩
theorem take_snoc_ {α : Type} {l : List α} {i : Nat} {r : α} (h : l[i]? = some r) : l.take (i + 1) = l.take i ++ [r] := by
  rw [List.take_add_one, h]; rfl
theorem nodup_snoc_ {Q : List (MP × Nat)} {p : MP} {D : Nat} (h : (Q.map (·.2)).Nodup) (hn : ∀ q, q ∈ Q → q.2 ≠ D) : ((Q ++ [(p, D)]).map (·.2)).Nodup := by
  rw [List.map_append, List.nodup_append]
  refine ⟨h, by simp, ?_⟩
  intro a ha b hb
  simp only [List.map_cons, List.map_nil, List.mem_singleton] at hb
  obtain ⟨q, hq, rfl⟩ := List.mem_map.1 ha
  rw [hb]
  exact hn q hq
def cfP (x y : MP × Nat) : Int := Lib.compareInt x.1.a y.1.a
theorem isAggP (w : World) : (isAgg 126).run Tryz.prog w = .ok true w := by kernel_rfl
theorem sizeP (w : World) : (Go.sizeOf 126).run Tryz.prog w = .ok 3 w := by kernel_rfl
theorem ltP (x y : MP × Nat) : Go.Proofs.ltOf cfP x y = decide (x.1.a < y.1.a) := by
  unfold Go.Proofs.ltOf cfP Lib.compareInt
  by_cases h1 : x.1.a < y.1.a
  · simp [h1]
  · by_cases h2 : y.1.a < x.1.a <;> simp [h1, h2]
theorem swoP : Go.Sort.SWO (Go.Proofs.ltOf cfP) where
  irrefl x := by rw [ltP]; simp
  trans x y z h1 h2 := by rw [ltP] at *; simp at *; omega
  ntrans x y z h1 h2 := by rw [ltP] at *; simp at *; omega
instance : Inhabited MP := ⟨⟨0, 0, []⟩⟩
theorem nanP (x : Int) (W : World) : Calls Tryz.prog 95 #[.int .u64 x] W fun e w' => e = .returned (.bool false) ∧ W = w' := by
  go_enter Tryz.func95, Tryz.ntmps95
  go_wp2
  go_ret
  exact ⟨by simp, rfl⟩
theorem compareP (x y : Int) (W : World) : Calls Tryz.prog 74 #[.int .u64 x, .int .u64 y] W fun e w' => e = .returned (.int .i64 (Lib.compareInt x y)) ∧ W = w' := by
  unfold Lib.compareInt
  by_cases h1 : x < y
  · rw [if_pos h1]
    have b1 : decide (x < y) = true := decide_eq_true h1
    go_enter Tryz.func74, Tryz.ntmps74
    go_wp2_with (go_at_call 95; refine (nanP _ _).mono ?_; rintro e w' ⟨rfl, rfl⟩)
    go_ret
    exact ⟨rfl, rfl⟩
  · rw [if_neg h1]
    have b1 : decide (x < y) = false := decide_eq_false h1
    by_cases h2 : x > y
    · rw [if_pos h2]
      have b2 : decide (x > y) = true := decide_eq_true h2
      clear h1
      go_enter Tryz.func74, Tryz.ntmps74
      go_wp2_with (go_at_call 95; refine (nanP _ _).mono ?_; rintro e w' ⟨rfl, rfl⟩)
      go_ret
      exact ⟨rfl, rfl⟩
    · rw [if_neg h2]
      have b2 : decide (x > y) = false := decide_eq_false h2
      clear h1
      go_enter Tryz.func74, Tryz.ntmps74
      go_wp2_with (go_at_call 95; refine (nanP _ _).mono ?_; rintro e w' ⟨rfl, rfl⟩)
      go_ret
      exact ⟨rfl, rfl⟩
theorem closureP (x y : MP × Nat) (W : World) : Calls Tryz.prog 73 #[.agg (encM x).toArray, .agg (encM y).toArray] W fun e w' => e = .returned (.int .i64 (cfP x y)) ∧ ∃ q os', w' = Go.Sort.grow (W.drewN q) os' := by
  have hcon := aq (fun W' => compareP x.1.a y.1.a W')
  unfold encM cfP
  generalize Lib.compareInt x.1.a y.1.a = r at hcon ⊢
  go_enter Tryz.func73, Tryz.ntmps73
  go_wp2_with (go_at_call 74; refine (hcon.out _).mono ?_; rintro e w' ⟨rfl, rfl⟩)
  go_ret
  exact ⟨rfl, 0, _, by rw [Go.Sort.alloc_eq_grow, Go.Sort.alloc_eq_grow, Go.Sort.grow_grow]; rfl⟩
theorem cmpLaysP (blk off size : Nat) (w : World) : Go.Proofs.CmpLays Tryz.prog 73 #[] encM 3 cfP blk off size w := fun _ _ _ _ x y => closureP x y _
theorem sortP_any (P c : Nat) (Q : List (MP × Nat)) (w : World) (hH : Go.Sort.HoldsK encM 3 w P 0 Q.toArray) (hblk : P < w.heap.size) (hl : Q.length < 1000000) :
    Calls Tryz.prog 72 #[.slice (some ⟨P, 0, none⟩) Q.length c, .func (.func 73) #[] #[]] w fun e w' => e = .returned (.tuple #[]) ∧
      ∃ (Q' : List (MP × Nat)) (n : Nat) (os : Array Obj), Q'.Perm Q ∧ Q'.Pairwise (fun p q => p.1.a ≤ q.1.a) ∧ w' = Go.Proofs.sortWorldK encM 3 w P 0 n Q'.toArray os := by
  have eg : ∀ args w, (callFunc 73 args).run Tryz.prog w = .ok (.enter 73 args) w := enters_of Tryz.func73 (by kernel_rfl) rfl
  have hcon := Go.Proofs.AnyQ.slices_SortFunc Go.Proofs.Tryz.sortP 3 isAggP sizeP encM (fun _ => rfl) (fun x v hv => by simp [encM] at hv; rcases hv with rfl | rfl | rfl <;> rfl) cfP swoP 73 #[] P 0 c Q.toArray w eg (cmpLaysP P 0 _ w) hH hblk (by simp; omega)
  refine hcon.mono ?_
  rintro e w' ⟨rfl, d', n, os, hp, hs, rfl⟩
  obtain ⟨p1, p2, p3⟩ := hp
  obtain ⟨l⟩ := d'
  have hlen : l.length = Q.length := by simpa using p1
  refine ⟨rfl, l, n, os, ?_, ?_, rfl⟩
  · have p4 : (l.take Q.length).Perm Q := by simpa [hlen] using p3
    rwa [← hlen, List.take_length] at p4
  · rw [List.pairwise_iff_getElem]
    intro i j hi hj hij
    have h1 := hs i j (Nat.zero_le _) hij (by simp; omega)
    rw [ltP] at h1
    have e1 : (⟨l⟩ : Array (MP × Nat))[i]! = l[i] := by simp [getElem!_pos, hi]
    have e2 : (⟨l⟩ : Array (MP × Nat))[j]! = l[j] := by simp [getElem!_pos, hj]
    rw [e1, e2] at h1
    simp at h1
    exact h1
theorem holdsP {w : World} {base P c n : Nat} {ok : Nat → Prop} {Q : List (MP × Nat)} (h : Kd.R kdP 126 w base ok (.slice (some ⟨P, 0, none⟩) n c) Q) :
    Go.Sort.HoldsK encM 3 w P 0 Q.toArray ∧ (∃ cur, w.heap[P]? = some (.cells cur 126 (0, 0))) ∧ P < w.heap.size ∧ base ≤ P := by
  obtain ⟨A, c', e, hl, hC⟩ := Kd.R_reads h
  injection e with e1 e2 e3
  subst e1
  obtain ⟨inner, ho⟩ := Kd.R_own h
  obtain ⟨cur, hcur⟩ := own_typed ho P (by simp [Value.ownBlock])
  have hbase := own_base ho P (by simp [Value.ownBlock])
  refine ⟨?_, ⟨cur, hcur⟩, (Array.getElem?_eq_some_iff.1 hcur).1, hbase⟩
  intro j hj
  have hj' : j < Q.length * 3 := by
    have := hj
    rw [Go.Sort.size_flatK] at this
    simpa using this
  have hq : j / 3 < Q.length := by omega
  obtain ⟨h1, h2, h3⟩ := hC
  obtain ⟨ad, ead, hcell⟩ := h3 (by omega)
  obtain rfl := Option.some.inj ead
  obtain ⟨cs, hcs, hK, hc⟩ := hcell (j / 3) Q[j / 3] (List.getElem?_eq_getElem hq)
  have hK' : cs = encM Q[j / 3] := hK
  subst hK'
  have hm : j % 3 < (encM Q[j / 3]).length := by show j % 3 < 3; omega
  have hcc := hc (j % 3) _ (List.getElem?_eq_getElem hm)
  refine ⟨?_, blk_frozen hcur _⟩
  have hfl : (Go.Sort.flatK encM 3 Q.toArray)[j]! = (encM Q[j / 3])[j % 3] := by
    rw [Go.Sort.get_flatK _ _ _ _ (by simpa using hj')]
    have e1 : (Q.toArray)[j / 3]! = Q[j / 3] := by simp [getElem!_pos, hq]
    rw [e1]
    exact getElem!_pos (encM Q[j / 3]) (j % 3) hm
  rw [hfl]
  have hadd : (⟨P, 0, none⟩ : Addr).add (j / 3 * kdP.sz + j % 3) = ⟨P, 0 + j, none⟩ := by
    show (⟨P, 0, none⟩ : Addr).add (j / 3 * 3 + j % 3) = ⟨P, 0 + j, none⟩
    rw [show j / 3 * 3 + j % 3 = j by omega]
    unfold Addr.add
    split <;> simp_all
  rw [hadd] at hcc
  exact hcc
theorem sortW_ {w w' : World} {P n : Nat} {Q Q' : List (MP × Nat)} {os : Array Obj} (hH : Go.Sort.HoldsK encM 3 w P 0 Q.toArray) (hc : ∃ cur, w.heap[P]? = some (.cells cur 126 (0, 0))) (hP : P < w.heap.size) (hl : Q'.length = Q.length) (hw : w' = Go.Proofs.sortWorldK encM 3 w P 0 n Q'.toArray os) :
    Touch w w' P ∧ (∃ cur, w'.heap[P]? = some (.cells cur 126 (0, 0))) ∧ ∀ (i : Nat) q, Q'[i]? = some q → ∀ (j : Nat) v, (encM q)[j]? = some v → w'.cell? ⟨P, i * 3 + j, none⟩ = some v := by
  subst hw
  have hH' : Go.Sort.HoldsK encM 3 (Go.Proofs.sortWorldK encM 3 w P 0 n Q'.toArray os) P 0 Q'.toArray := by
    unfold Go.Proofs.sortWorldK
    exact Go.Sort.holdsK_grow encM 3 _ os P 0 _ (by simp [Go.Sort.putRowK, Go.Sort.ahead]; exact hP) (Go.Sort.holdsK_putRowK encM 3 _ P 0 Q.toArray _ (Go.Sort.holdsK_ahead encM 3 w n P 0 _ hH) (by simp [hl]))
  refine ⟨⟨?_, ?_, ?_⟩, ?_, ?_⟩
  · intro k hk hn
    unfold Go.Proofs.sortWorldK
    rw [Go.Sort.heap_grow_old _ _ (by simp [Go.Sort.putRowK, Go.Sort.ahead]; exact hk)]
    show ((w.heap.modify P _))[k]? = _
    rw [Array.getElem?_modify, if_neg (fun e => hn e.symm)]
  · unfold Go.Proofs.sortWorldK
    simp [Go.Sort.putRowK, Go.Sort.ahead]
  · intro B U hu hb hs
    refine hu.trans ⟨rfl, rfl, rfl, ?_, ?_⟩
    · unfold Go.Proofs.sortWorldK
      simp [Go.Sort.putRowK, Go.Sort.ahead]
    · intro k hk
      unfold Go.Proofs.sortWorldK
      rw [Go.Sort.heap_grow_old _ _ (by simp [Go.Sort.putRowK, Go.Sort.ahead]; omega)]
      show ((w.heap.modify P _))[k]? = _
      rw [Array.getElem?_modify, if_neg (by omega)]
  · obtain ⟨cur, hcur⟩ := hc
    unfold Go.Proofs.sortWorldK
    rw [Go.Sort.heap_grow_old _ _ (by simp [Go.Sort.putRowK, Go.Sort.ahead]; exact hP)]
    show ∃ cur, ((w.heap.modify P _))[P]? = _
    rw [Array.getElem?_modify, if_pos rfl, hcur]
    exact ⟨_, rfl⟩
  · intro i q hq j v hv
    have hi : i < Q'.length := (List.getElem?_eq_some_iff.1 hq).1
    have hj : j < 3 := by have := (List.getElem?_eq_some_iff.1 hv).1; exact this
    have hx := (Go.Sort.HoldsK.cell hH' (i := i) (c := j) (by simpa using hi) hj).1
    have e1 : (Q'.toArray)[i]! = q := by
      obtain ⟨_, e⟩ := List.getElem?_eq_some_iff.1 hq
      simp [getElem!_pos, hi, e]
    rw [e1] at hx
    have e2 : (encM q)[j]! = v := by
      obtain ⟨h1, e⟩ := List.getElem?_eq_some_iff.1 hv
      rw [getElem!_pos (encM q) j h1, e]
    rw [e2, Nat.zero_add] at hx
    exact hx
def insM (p : MP) : List MP → List MP
  | [] => [p]
  | q :: qs => if p.a ≤ q.a then p :: q :: qs else q :: insM p qs
def sortM : List MP → List MP
  | [] => []
  | p :: ps => insM p (sortM ps)
def apartB : List MP → Bool
  | [] => true
  | [_] => true
  | p :: q :: r => decide ((p.d.length : Int) ≤ q.a - p.a) && apartB (q :: r)
theorem insM_perm (p : MP) : ∀ L, (insM p L).Perm (p :: L)
  | [] => List.Perm.refl _
  | q :: qs => by
    unfold insM
    split
    · exact List.Perm.refl _
    · exact ((insM_perm p qs).cons q).trans (List.Perm.swap p q qs)
theorem sortM_perm : ∀ L, (sortM L).Perm L
  | [] => List.Perm.refl _
  | p :: ps => (insM_perm p _).trans ((sortM_perm ps).cons p)
theorem insM_sorted (p : MP) : ∀ L : List MP, L.Pairwise (fun x y => x.a ≤ y.a) → (insM p L).Pairwise (fun x y => x.a ≤ y.a)
  | [], _ => by simp [insM]
  | q :: qs, h => by
    unfold insM
    obtain ⟨h1, h2⟩ := List.pairwise_cons.1 h
    split
    · rename_i hle
      refine List.pairwise_cons.2 ⟨fun x hx => ?_, h⟩
      rcases List.mem_cons.1 hx with rfl | hx
      · exact hle
      · exact Int.le_trans hle (h1 x hx)
    · rename_i hle
      refine List.pairwise_cons.2 ⟨fun x hx => ?_, insM_sorted p qs h2⟩
      rcases List.mem_cons.1 ((insM_perm p qs).mem_iff.1 hx) with rfl | hx
      · omega
      · exact h1 x hx
theorem sortM_sorted : ∀ L : List MP, (sortM L).Pairwise (fun x y => x.a ≤ y.a)
  | [] => List.Pairwise.nil
  | p :: ps => insM_sorted p _ (sortM_sorted ps)
theorem apart_strict : ∀ L : List MP, (∀ p, p ∈ L → 1 ≤ p.d.length) → apartB L = true → L.Pairwise (fun x y => x.a + (x.d.length : Int) ≤ y.a)
  | [], _, _ => List.Pairwise.nil
  | [p], _, _ => by simp
  | p :: q :: r, hl, h => by
    unfold apartB at h
    simp only [Bool.and_eq_true, decide_eq_true_eq] at h
    have ih := apart_strict (q :: r) (fun x hx => hl x (List.mem_cons_of_mem _ hx)) h.2
    refine List.pairwise_cons.2 ⟨fun x hx => ?_, ih⟩
    rcases List.mem_cons.1 hx with rfl | hx
    · omega
    · have h1 := (List.pairwise_cons.1 ih).1 x hx
      have h2 := hl q (by simp)
      omega
theorem sorted_unique : ∀ (L L' : List MP), L.Perm L' → L.Pairwise (fun x y => x.a < y.a) → L'.Pairwise (fun x y => x.a ≤ y.a) → L = L'
  | [], L', hp, _, _ => by rw [List.nil_perm] at hp; exact hp.symm
  | x :: xs, [], hp, _, _ => by
    have := hp.length_eq
    simp at this
  | x :: xs, y :: ys, hp, h1, h2 => by
    obtain ⟨h3, h4⟩ := List.pairwise_cons.1 h1
    obtain ⟨h5, h6⟩ := List.pairwise_cons.1 h2
    have hxy : x = y := by
      apply Classical.byContradiction
      intro hne
      have hy : y ∈ xs := by
        rcases List.mem_cons.1 (hp.mem_iff.2 (List.mem_cons_self (a := y) (l := ys))) with e | e
        · exact absurd e.symm hne
        · exact e
      have hx : x ∈ ys := by
        rcases List.mem_cons.1 (hp.mem_iff.1 (List.mem_cons_self (a := x) (l := xs))) with e | e
        · exact absurd e hne
        · exact e
      have := h3 y hy
      have := h5 x hx
      omega
    subst hxy
    rw [sorted_unique xs ys (List.perm_cons x |>.1 hp) h4 h6]
theorem sort_unique (l L : List MP) (hp : L.Perm l) (hs : L.Pairwise (fun x y => x.a ≤ y.a)) (hl : ∀ p, p ∈ l → 1 ≤ p.d.length) : apartB L = apartB (sortM l) ∧ (apartB L = true → L = sortM l) := by
  have strict : ∀ X : List MP, (∀ p, p ∈ X → 1 ≤ p.d.length) → apartB X = true → X.Pairwise (fun x y => x.a < y.a) := fun X hX h =>
    List.Pairwise.imp_of_mem (fun {a b} ha hb hab => by have := hX a ha; omega) (apart_strict X hX h)
  have hLl : ∀ p, p ∈ L → 1 ≤ p.d.length := fun p hp' => hl p (hp.mem_iff.1 hp')
  have hSl : ∀ p, p ∈ sortM l → 1 ≤ p.d.length := fun p hp' => hl p ((sortM_perm l).mem_iff.1 hp')
  have e1 : apartB L = true → L = sortM l := fun h => sorted_unique L (sortM l) (hp.trans (sortM_perm l).symm) (strict L hLl h) (sortM_sorted l)
  have e2 : apartB (sortM l) = true → sortM l = L := fun h => sorted_unique (sortM l) L ((sortM_perm l).trans hp.symm) (strict _ hSl h) hs
  refine ⟨?_, e1⟩
  cases h : apartB L with
  | true => rw [← e1 h, h]
  | false =>
    cases h' : apartB (sortM l) with
    | false => rfl
    | true => rw [e2 h', h] at h'; cases h'
theorem apart_get : ∀ (L : List MP), apartB L = true → ∀ (i : Nat) p q, L[i]? = some p → L[i + 1]? = some q → (p.d.length : Int) ≤ q.a - p.a
  | [], _, i, p, q, h1, _ => by simp at h1
  | [x], _, i, p, q, h1, h2 => by simp at h2
  | x :: y :: r, h, i, p, q, h1, h2 => by
    unfold apartB at h
    simp only [Bool.and_eq_true, decide_eq_true_eq] at h
    cases i with
    | zero => simp at h1 h2; subst h1 h2; exact h.1
    | succ i => exact apart_get (y :: r) h.2 i p q (by simpa using h1) (by simpa using h2)
theorem apart_not : ∀ (L : List MP), apartB L = false → ∃ (t : Nat) (p q : MP), L[t]? = some p ∧ L[t + 1]? = some q ∧ ¬ (p.d.length : Int) ≤ q.a - p.a ∧ ∀ (i : Nat) x y, i < t → L[i]? = some x → L[i + 1]? = some y → (x.d.length : Int) ≤ y.a - x.a
  | [], h => by cases h
  | [x], h => by cases h
  | x :: y :: r, h => by
    unfold apartB at h
    by_cases hd : (x.d.length : Int) ≤ y.a - x.a
    · rw [decide_eq_true hd, Bool.true_and] at h
      obtain ⟨t, p, q, h1, h2, h3, h4⟩ := apart_not (y :: r) h
      refine ⟨t + 1, p, q, by simpa using h1, by simpa using h2, h3, fun i a b hi ha hb => ?_⟩
      cases i with
      | zero => simp at ha hb; subst ha hb; exact hd
      | succ i => exact h4 i a b (by omega) (by simpa using ha) (by simpa using hb)
    · exact ⟨0, x, y, rfl, rfl, hd, fun i a b hi => by omega⟩
def NewPost (l : List S57) (w : World) (e : Ending) (w' : World) : Prop :=
  if l.any badR = true then e = .returned (.tuple #[.pointer none, .int .i64 1])
  else if l.any farR = true then e = .returned (.tuple #[.pointer none, .int .i64 4])
  else if apartB (sortM (l.map mpOf)) = true then ∃ (A : Option Addr) (P c : Nat) (Q : List (MP × Nat)), e = .returned (.tuple #[.pointer (some ⟨w.heap.size, 0, none⟩), .int .i64 0]) ∧ MemIs w' w.heap.size A P c Q ∧ Q.map (·.1) = sortM (l.map mpOf) ∧ ∀ q, q ∈ Q → w.heap.size ≤ q.2
  else e = .returned (.tuple #[.pointer none, .int .i64 7])
def NewEnd (l : List S57) (w : World) (e : Ending) (w' : World) : Prop := Below w.heap.size w w' ∧ NewPost l w e w'
theorem good_of (r : S57) (hb : badR r = false) (hf : farR r = false) (h0 : 0 ≤ r.f0) : (mpOf r).good := by
  simp only [badR, Bool.or_eq_false_iff, decide_eq_false_iff_not] at hb
  simp only [farR, decide_eq_false_iff_not] at hf
  unfold mpOf MP.good
  simp only
  refine ⟨h0, by omega, by omega, by omega, ?_, ?_, ?_⟩
  · rw [bytesOf_length]; omega
  · rw [bytesOf_length]; omega
  · intro x hx
    simp only [bytesOf] at hx
    obtain ⟨b, _, rfl⟩ := List.mem_map.1 hx
    have := b.toNat_lt
    omega
set_option maxHeartbeats 8000000 in
set_option maxRecDepth 100000 in
theorem new_any (w : World) (A0 : Option Addr) (c0 : Nat) (l : List S57) (hr0 : Kd.C k57 w A0 l.length l) (hc0 : l.length ≤ c0) (hl : l.length ≤ 1000) (hw : ∀ r, r ∈ l → 0 ≤ r.f0 ∧ r.f0 < 18446744073709551616)
    (t : Nat) (ht : t ≤ l.length) (hg : ∀ r, r ∈ l.take t → badR r = false) (hb : t < l.length → ∃ r, l[t]? = some r ∧ badR r = true) :
    Calls Tryz.prog 52 #[.slice A0 l.length c0] w (NewEnd l w) := by
  have HR := aq hr0
  have HW := aq hw
  have HG := aq hg
  have HBAD := aq hb
  have HL := aq hl
  clear hr0 hw hg hb
  go_enter Tryz.func52, Tryz.ntmps52
  go_wp2
  go_loopg [5, 14] t (fun kq v5 v14 wr => ∃ (i : Nat) (Q : List (MP × Nat)) (v : Value), v5 = .bool ((l.take i).any farR) ∧ v14 = .int .i64 (i : Int) ∧ i + kq = t ∧ Aside0 (Kd.R kdP 126 wr w.heap.size (fun _ => True) v Q) ∧
    Aside0 (wr.heap[w.heap.size]? = some (.cells #[v] 122 (0, 0))) ∧ Aside0 (∀ q, q ∈ Q → w.heap.size ≤ q.2 ∧ wr.heap[q.2]? = some (.cells (q.1.d.map (Value.int .u8)).toArray 5 (0, 0))) ∧ Aside0 ((Q.map (·.2)).Nodup) ∧
    Aside0 (Q.map (·.1) = (l.take i).map mpOf) ∧ Aside0 (Below w.heap.size w wr) ∧ Aside0 (Q = [] → v = .slice none 0 0))
  case atStart => exact ⟨0, [], .slice none 0 0, rfl, rfl, by omega, ⟨Kd.R_nil _ _ _ _ _⟩, ⟨top_ _ _⟩, ⟨fun q hq => by cases hq⟩, ⟨List.nodup_nil⟩, ⟨rfl⟩, ⟨below_alloc (Below.refl _ _) _⟩, ⟨fun _ => rfl⟩⟩
  case round =>
    obtain ⟨i, Q, v, rfl, rfl, hik, HK, HM, HD, HA, HQ, HB, HN⟩ := hrel
    cases gk with
    | zero =>
      by_cases htl : t < l.length
      · obtain ⟨r, hr, hbad⟩ := HBAD.out htl
        obtain rfl : i = t := by omega
        clear hik
        have hrd : rd_T57 l (i : Int) = r := by unfold rd_T57; rw [Int.toNat_natCast]; simp [List.getD, hr]
        obtain ⟨ad, hA0, d0, d1, d2⟩ := at_T57 (Kd.C_below HR.out HB.out) (i : Int) (by omega) (by omega)
        subst hA0
        rw [hrd, Int.toNat_natCast] at d0 d1 d2
        have hpost : ∀ w', Below w.heap.size w w' → NewEnd l w (.returned (.tuple #[.pointer none, .int .i64 1])) w' := fun w' hb => ⟨hb, by
          unfold NewPost
          rw [if_pos (List.any_eq_true.2 ⟨r, List.mem_of_getElem? hr, hbad⟩)]⟩
        have HP := aq hpost
        clear hpost hr hrd
        obtain ⟨r0, r1, r2⟩ := r
        simp only at d0 d1 d2
        have hz : i < 1000 := by have := HL.out; omega
        simp only [badR, Bool.or_eq_true, decide_eq_true_eq] at hbad
        by_cases y1 : r1 < 1
        · have z1 : decide (r1 < 1) = true := decide_eq_true y1
          clear hbad y1
          go_wp2
          go_ret2
          exact HP.out _ (below_alloc HB.out _)
        · have z1 : decide (r1 < 1) = false := decide_eq_false y1
          by_cases y2 : r1 > 3
          · have z2 : decide (r1 > 3) = true := decide_eq_true y2
            clear hbad y1 y2
            go_wp2
            go_ret2
            exact HP.out _ (below_alloc HB.out _)
          · have z2 : decide (r1 > 3) = false := decide_eq_false y2
            by_cases y3 : r2.size = 0
            · have z3 : r2.toList.isEmpty = true := by rw [ByteArray.toList_eq]; cases hq : r2.data.toList with | nil => rfl | cons a b => have := data_length r2; rw [hq, y3] at this; simp at this
              clear hbad y1 y2 y3
              go_wp2
              go_ret2
              exact HP.out _ (below_alloc HB.out _)
            · have z3 : r2.toList.isEmpty = false := by rw [ByteArray.toList_eq]; cases hq : r2.data.toList with | nil => exact absurd (by rw [← data_length r2, hq]; rfl) y3 | cons a b => rfl
              have z4 : decide ((r2.size : Int) > 65536) = true := decide_eq_true (by omega)
              clear hbad y1 y2 y3
              go_wp2
              go_ret2
              exact HP.out _ (below_alloc HB.out _)
      · have hi : ¬ (i < l.length) := by omega
        obtain rfl : i = l.length := by omega
        have hnb : l.any badR = false := by
          rw [List.any_eq_false]
          intro r hr
          have := HG.out r (by rw [List.take_of_length_le (by omega)]; exact hr)
          simp [this]
        have hQ' : Q.map (·.1) = l.map mpOf := by have := HQ.out; rwa [List.take_of_length_le (Nat.le_refl _)] at this
        have HNB := aq hnb
        have HQ2 := aq hQ'
        rw [List.take_of_length_le (Nat.le_refl _)]
        clear hik hnb hQ' htl
        cases hf : l.any farR with
        | true =>
          have HF := aq hf
          clear hf
          go_wp2
          go_ret2
          refine ⟨HB.out, ?_⟩
          unfold NewPost
          rw [if_neg (by rw [HNB.out]; decide), if_pos HF.out]
          rfl
        | false =>
          have HF := aq hf
          clear hf
          have hql : Q.length = l.length := by have := congrArg List.length HQ2.out; simpa using this
          have HQL := aq hql
          clear hql
          have hM := HM.out
          have m0 : wr.cell? ⟨w.heap.size, 0, none⟩ = some v := (blk_cell hM 0).trans rfl
          clear hM
          by_cases hq0 : Q = []
          · have hv := HN.out hq0
            subst hv
            subst hq0
            have HS := aq (Go.Proofs.AnyF.slices_SortFunc_none Go.Proofs.Tryz.sortP none 0 (.func (.func 73) #[] #[]) wr)
            have hl0 : l.length = 0 := HQL.out.symm
            have HL0 := aq hl0
            clear hl0
            go_wp2_with (go_at_call 72; refine HS.out.mono ?_; rintro e w9 ⟨rfl, rfl⟩)
            refine wp_loop_rounds 1 ?_
            rw [rounds_succ]
            go_wp2
            go_ret2
            refine ⟨HB.out, ?_⟩
            unfold NewPost
            have hl : l = [] := List.eq_nil_of_length_eq_zero HL0.out
            rw [if_neg (by rw [HNB.out]; decide), if_neg (by rw [HF.out]; decide), hl]
            rw [if_pos (by rfl)]
            exact ⟨none, 0, 0, [], rfl, ⟨HM.out, fun h => absurd rfl h, fun h => absurd rfl h, fun i q h => by simp at h, fun q h => (by cases h), List.nodup_nil⟩, rfl, fun q h => (by cases h)⟩
          · obtain ⟨inner, ho⟩ := Kd.R_own HK.out
            obtain ⟨P, c, hv⟩ : ∃ P c, v = .slice (some ⟨P, 0, none⟩) Q.length c := by
              rcases ho.2 with ⟨_, h0⟩ | ⟨g, cap, cur, he, _⟩
              · exact absurd (List.eq_nil_of_length_eq_zero h0) hq0
              · exact ⟨g, cap, he⟩
            subst hv
            obtain ⟨hH, hcur, hPl, hPb⟩ := holdsP HK.out
            have HS := aq (sortP_any P c Q wr hH hPl (by have := HQL.out; omega))
            have hMP : w.heap.size ≠ P := by
              obtain ⟨cur, hcur⟩ := hcur
              exact blk_ne HM.out hcur (by decide)
            have hafter : ∀ (Q' : List (MP × Nat)) (n : Nat) (os : Array Obj) (w9 : World), Q'.Perm Q → w9 = Go.Proofs.sortWorldK encM 3 wr P 0 n Q'.toArray os →
                Below w.heap.size w w9 ∧ w9.heap[w.heap.size]? = some (.cells #[.slice (some ⟨P, 0, none⟩) Q.length c] 122 (0, 0)) ∧ MemIs w9 w.heap.size (some ⟨P, 0, none⟩) P c Q' ∧ Q'.length = Q.length := by
              intro Q' n os w9 hp hw
              have hlen := hp.length_eq
              obtain ⟨hT, hc', hcells⟩ := sortW_ hH hcur hPl hlen hw
              have hM9 : w9.heap[w.heap.size]? = some (.cells #[.slice (some ⟨P, 0, none⟩) Q.length c] 122 (0, 0)) := (hT.block _ (Array.getElem?_eq_some_iff.1 HM.out).1 hMP).trans HM.out
              refine ⟨hT.below _ _ HB.out hPb HB.out.size, hM9, ⟨by rw [hlen]; exact hM9, fun _ => rfl, fun _ => hc', hcells, ?_, ?_⟩, hlen⟩
              · intro q hq
                obtain ⟨a1, a2⟩ := HD.out q (hp.mem_iff.1 hq)
                obtain ⟨cur, hcur⟩ := hcur
                exact (hT.block q.2 (Array.getElem?_eq_some_iff.1 a2).1 (blk_ne a2 hcur (by decide))).trans a2
              · exact (hp.map (·.2)).nodup_iff.2 HA.out
            have HAF := aq hafter
            have HMP := aq hMP
            clear ho hH hcur hPl hPb hMP hafter
            generalize hqn : Q.length = n at m0 HS HAF ⊢
            have HQN := aq hqn
            clear hqn
            go_wp2_with (go_at_call 72; refine HS.out.mono ?_; rintro e w9 ⟨rfl, Q', n9, os, hp, hs, hw9⟩; obtain ⟨hB9, hM9, hMem9, hl9⟩ := HAF.out Q' n9 os w9 hp hw9; have m9 : w9.cell? ⟨w.heap.size, 0, none⟩ = some (.slice (some ⟨P, 0, none⟩) n c) := (blk_cell hM9 0).trans rfl; have HB9 := aq hB9; have HMem9 := aq hMem9; have HL9 := aq hl9; have HP := aq hp; have HSO := aq hs; clear hp hs hw9 hB9 hM9 hMem9 hl9)
            have hperm : (Q'.map (·.1)).Perm (l.map mpOf) := by rw [← HQ2.out]; exact HP.out.map _
            have hsrt : (Q'.map (·.1)).Pairwise (fun x y => x.a ≤ y.a) := List.pairwise_map.2 HSO.out
            have hgl : ∀ p, p ∈ l.map mpOf → p.good := by
              intro p hp
              obtain ⟨r, hr, rfl⟩ := List.mem_map.1 hp
              refine good_of r ?_ ?_ (HW.out r hr).1
              · have := List.any_eq_false.1 HNB.out r hr; simpa using this
              · have := List.any_eq_false.1 HF.out r hr; simpa using this
            have hgd : ∀ q, q ∈ Q' → q.1.good := fun q hq => hgl _ (hperm.mem_iff.1 (List.mem_map.2 ⟨q, hq, rfl⟩))
            have HGD := aq hgd
            obtain ⟨hu1, hu2⟩ := sort_unique (l.map mpOf) (Q'.map (·.1)) hperm hsrt (fun p hp => (hgl p hp).2.2.2.2.1)
            have HU1 := aq hu1
            have HU2 := aq hu2
            have hl9 := HL9.out
            have hbase : ∀ q, q ∈ Q' → w.heap.size ≤ q.2 := fun q hq => (HD.out q (HP.out.mem_iff.1 hq)).1
            have HBASE := aq hbase
            clear hperm hsrt hgl hgd hu1 hu2 hbase hl9
            cases hap : apartB (Q'.map (·.1)) with
            | true =>
              have HOK := aq (fun (j : Nat) x y (_ : j + 1 < n) => apart_get (Q'.map (·.1)) hap j x y)
              have HAP := aq hap
              clear hap
              go_loopg [80] n (fun kq v80 wx => ∃ i : Nat, v80 = .int .i64 (i : Int) ∧ i + kq = n ∧ Aside0 (Below w9.heap.size w9 wx))
              case atStart => exact ⟨0, rfl, by omega, ⟨Below.refl _ _⟩⟩
              case round =>
                obtain ⟨i, rfl, hik, HBx⟩ := hrel
                have hMem9 := HMem9.out
                cases gk with
                | zero =>
                  have hin : ¬ (i < n) := by omega
                  clear hMem9
                  go_wp2
                  go_ret2
                  refine ⟨below_step HB9.out HBx.out, ?_⟩
                  unfold NewPost
                  rw [if_neg (by rw [HNB.out]; decide), if_neg (by rw [HF.out]; decide), if_pos (by rw [← HU1.out]; exact HAP.out)]
                  exact ⟨_, P, c, Q', rfl, HMem9.out.below HBx.out, HU2.out HAP.out, HBASE.out⟩
                | succ kq =>
                  have hin : i < n := by omega
                  have hMx := hMem9.below HBx.out
                  have mx : wr.cell? ⟨w.heap.size, 0, none⟩ = some (.slice (some ⟨P, 0, none⟩) n c) := pw_cell_below HBx.out m9
                  have HIK := aq hik
                  clear hik
                  cases i with
                  | zero =>
                    have b0 : decide ((((0 : Nat) : Int)) > 0) = false := rfl
                    have b0' : decide ((0 : Int) > 0) = false := rfl
                    clear hMx hMem9
                    go_wp2
                    go_quiet (fail)
                    go_wp2
                    go_roundg kq
                    case measure => omega
                    case rel => exact ⟨1, rfl, by have := HIK.out; omega, ⟨pw_below_drewN HBx.out _⟩⟩
                  | succ j =>
                    obtain ⟨x, bx, y, by_, hx, hy⟩ : ∃ x bx y by_, Q'[j]? = some (x, bx) ∧ Q'[j + 1]? = some (y, by_) := by
                      have h1 : j < Q'.length := by have := HL9.out; omega
                      have h2 : j + 1 < Q'.length := by have := HL9.out; omega
                      exact ⟨Q'[j].1, Q'[j].2, Q'[j + 1].1, Q'[j + 1].2, by rw [List.getElem?_eq_getElem h1], by rw [List.getElem?_eq_getElem h2]⟩
                    obtain ⟨-, x1, x2, x3⟩ := hMx.part hx
                    obtain ⟨-, y1, y2, y3⟩ := hMx.part hy
                    have hok := HOK.out j x y (by have := HIK.out; omega) (by rw [List.getElem?_map, hx]; rfl) (by rw [List.getElem?_map, hy]; rfl)
                    obtain ⟨gx0, -, -, -, -, gx5, -⟩ := HGD.out _ (List.mem_of_getElem? hx)
                    obtain ⟨-, gy1, -, -, -, -, -⟩ := HGD.out _ (List.mem_of_getElem? hy)
                    simp only at gx0 gx5 gy1
                    clear hMx hMem9 hx hy x2 y2 y3
                    have e1 : IntKind.u64.wrap (y.a - x.a) = y.a - x.a := by rw [IntKind.wrap_u64]; omega
                    have b1 : decide (y.a - x.a < (x.d.length : Int)) = false := decide_eq_false (by omega)
                    have b0 : decide ((((j + 1 : Nat) : Int)) > 0) = true := decide_eq_true (by omega)
                    have hz : j < 1000 := by have := HL.out; have := HQL.out; have := HQN.out; omega
                    have s1 : IntKind.i64.wrap (((j + 1 : Nat) : Int) - 1) = (j : Int) := by rw [IntKind.wrap_i64]; omega
                    have s2 : IntKind.i64.wrap ((j : Int) + 1 - 1) = (j : Int) := by rw [IntKind.wrap_i64]; omega
                    have s3 : ((j : Int) + 1).toNat = j + 1 := by omega
                    go_wp2
                    go_quiet (fail)
                    go_wp2
                    go_roundg kq
                    case measure => omega
                    case rel => exact ⟨j + 2, rfl, by have := HIK.out; omega, ⟨pw_below_drewN HBx.out _⟩⟩
            | false =>
              obtain ⟨t2, x0, y0, h1, h2, h3, h4⟩ := apart_not _ hap
              have HOK := aq (fun (j : Nat) x y (hj : j + 1 < t2 + 1) => h4 j x y (by omega))
              have HAP := aq hap
              have H1 := aq h1
              have H2 := aq h2
              have H3 := aq h3
              have ht2 : t2 + 1 < n := by
                have := (List.getElem?_eq_some_iff.1 h2).1
                rw [List.length_map] at this
                have := HL9.out
                omega
              clear hap h1 h2 h3 h4
              go_loopg [80] (t2 + 1) (fun kq v80 wx => ∃ i : Nat, v80 = .int .i64 (i : Int) ∧ i + kq = t2 + 1 ∧ Aside0 (Below w9.heap.size w9 wx))
              case atStart => exact ⟨0, rfl, by omega, ⟨Below.refl _ _⟩⟩
              case round =>
                obtain ⟨i, rfl, hik, HBx⟩ := hrel
                have hMem9 := HMem9.out
                cases gk with
                | zero =>
                  obtain rfl : i = t2 + 1 := by omega
                  clear hik
                  have hMx := hMem9.below HBx.out
                  have mx : wr.cell? ⟨w.heap.size, 0, none⟩ = some (.slice (some ⟨P, 0, none⟩) n c) := pw_cell_below HBx.out m9
                  obtain ⟨q1, hx, e1⟩ : ∃ q1, Q'[t2]? = some q1 ∧ q1.1 = x0 := by
                    have := H1.out
                    rw [List.getElem?_map] at this
                    exact Option.map_eq_some_iff.1 this
                  obtain ⟨q2, hy, e2⟩ : ∃ q2, Q'[t2 + 1]? = some q2 ∧ q2.1 = y0 := by
                    have := H2.out
                    rw [List.getElem?_map] at this
                    exact Option.map_eq_some_iff.1 this
                  obtain ⟨x, bx⟩ := q1
                  obtain ⟨y, by_⟩ := q2
                  simp only at e1 e2
                  subst e1 e2
                  obtain ⟨-, x1, x2, x3⟩ := hMx.part hx
                  obtain ⟨-, y1, y2, y3⟩ := hMx.part hy
                  obtain ⟨gx0, -, -, -, -, gx5, -⟩ := HGD.out _ (List.mem_of_getElem? hx)
                  obtain ⟨-, gy1, -, -, -, -, -⟩ := HGD.out _ (List.mem_of_getElem? hy)
                  have hso : x.a ≤ y.a := by
                    obtain ⟨l1, e1⟩ := List.getElem?_eq_some_iff.1 hx
                    obtain ⟨l2, e2⟩ := List.getElem?_eq_some_iff.1 hy
                    have := List.pairwise_iff_getElem.1 HSO.out t2 (t2 + 1) l1 l2 (by omega)
                    rw [e1, e2] at this
                    exact this
                  simp only at gx0 gx5 gy1
                  clear hMx hMem9 hx hy x2 y2 y3
                  have e1 : IntKind.u64.wrap (y.a - x.a) = y.a - x.a := by rw [IntKind.wrap_u64]; omega
                  have b1 : decide (y.a - x.a < (x.d.length : Int)) = true := decide_eq_true (by have := H3.out; omega)
                  have b0 : decide ((((t2 + 1 : Nat) : Int)) > 0) = true := decide_eq_true (by omega)
                  have hz : t2 < 1000 := by have := HL.out; have := HQL.out; have := HQN.out; omega
                  have s1 : IntKind.i64.wrap (((t2 + 1 : Nat) : Int) - 1) = (t2 : Int) := by rw [IntKind.wrap_i64]; omega
                  have s2 : IntKind.i64.wrap ((t2 : Int) + 1 - 1) = (t2 : Int) := by rw [IntKind.wrap_i64]; omega
                  have s3 : ((t2 : Int) + 1).toNat = t2 + 1 := by omega
                  go_wp2
                  go_quiet (fail)
                  go_wp2
                  go_ret2
                  refine ⟨below_step HB9.out (pw_below_drewN HBx.out _), ?_⟩
                  unfold NewPost
                  rw [if_neg (by rw [HNB.out]; decide), if_neg (by rw [HF.out]; decide), if_neg (by rw [← HU1.out, HAP.out]; decide)]
                  rfl
                | succ kq =>
                  have hin : i < n := by omega
                  have hMx := hMem9.below HBx.out
                  have mx : wr.cell? ⟨w.heap.size, 0, none⟩ = some (.slice (some ⟨P, 0, none⟩) n c) := pw_cell_below HBx.out m9
                  have HIK := aq hik
                  clear hik
                  cases i with
                  | zero =>
                    have b0 : decide ((((0 : Nat) : Int)) > 0) = false := rfl
                    have b0' : decide ((0 : Int) > 0) = false := rfl
                    clear hMx hMem9
                    go_wp2
                    go_quiet (fail)
                    go_wp2
                    go_roundg kq
                    case measure => omega
                    case rel => exact ⟨1, rfl, by have := HIK.out; omega, ⟨pw_below_drewN HBx.out _⟩⟩
                  | succ j =>
                    obtain ⟨x, bx, y, by_, hx, hy⟩ : ∃ x bx y by_, Q'[j]? = some (x, bx) ∧ Q'[j + 1]? = some (y, by_) := by
                      have h1 : j < Q'.length := by have := HL9.out; omega
                      have h2 : j + 1 < Q'.length := by have := HL9.out; omega
                      exact ⟨Q'[j].1, Q'[j].2, Q'[j + 1].1, Q'[j + 1].2, by rw [List.getElem?_eq_getElem h1], by rw [List.getElem?_eq_getElem h2]⟩
                    obtain ⟨-, x1, x2, x3⟩ := hMx.part hx
                    obtain ⟨-, y1, y2, y3⟩ := hMx.part hy
                    have hok := HOK.out j x y (by have := HIK.out; omega) (by rw [List.getElem?_map, hx]; rfl) (by rw [List.getElem?_map, hy]; rfl)
                    obtain ⟨gx0, -, -, -, -, gx5, -⟩ := HGD.out _ (List.mem_of_getElem? hx)
                    obtain ⟨-, gy1, -, -, -, -, -⟩ := HGD.out _ (List.mem_of_getElem? hy)
                    simp only at gx0 gx5 gy1
                    clear hMx hMem9 hx hy x2 y2 y3
                    have e1 : IntKind.u64.wrap (y.a - x.a) = y.a - x.a := by rw [IntKind.wrap_u64]; omega
                    have b1 : decide (y.a - x.a < (x.d.length : Int)) = false := decide_eq_false (by omega)
                    have b0 : decide ((((j + 1 : Nat) : Int)) > 0) = true := decide_eq_true (by omega)
                    have hz : j < 1000 := by have := HL.out; have := HQL.out; have := HQN.out; omega
                    have s1 : IntKind.i64.wrap (((j + 1 : Nat) : Int) - 1) = (j : Int) := by rw [IntKind.wrap_i64]; omega
                    have s2 : IntKind.i64.wrap ((j : Int) + 1 - 1) = (j : Int) := by rw [IntKind.wrap_i64]; omega
                    have s3 : ((j : Int) + 1).toNat = j + 1 := by omega
                    go_wp2
                    go_quiet (fail)
                    go_wp2
                    go_roundg kq
                    case measure => omega
                    case rel => exact ⟨j + 2, rfl, by have := HIK.out; omega, ⟨pw_below_drewN HBx.out _⟩⟩
    | succ kq =>
      have hi : i < t := by omega
      have hil : i < l.length := by omega
      have HIK := aq hik
      clear hik
      obtain ⟨r, hr⟩ : ∃ r, l[i]? = some r := ⟨l[i], List.getElem?_eq_getElem hil⟩
      have hrd : rd_T57 l (i : Int) = r := by unfold rd_T57; rw [Int.toNat_natCast]; simp [List.getD, hr]
      obtain ⟨ad, hA0, d0, d1, d2⟩ := at_T57 (Kd.C_below HR.out HB.out) (i : Int) (by omega) (by omega)
      subst hA0
      rw [hrd, Int.toNat_natCast] at d0 d1 d2
      have hgood := HG.out r (List.mem_of_getElem? (by rw [List.getElem?_take, if_pos hi]; exact hr))
      obtain ⟨w0, w1⟩ := HW.out r (List.mem_of_getElem? hr)
      have HW1 := aq w1
      clear w1
      have HRI := aq hr
      clear hr hrd
      obtain ⟨r0, r1, r2⟩ := r
      simp only at d0 d1 d2 w0
      simp only [badR, Bool.or_eq_false_iff] at hgood
      obtain ⟨⟨⟨x1, x2⟩, x3⟩, x4⟩ := hgood
      have y3 : r2.size ≠ 0 := by simpa using x3
      have y4 : r2.size ≤ 65536 := by simpa using x4
      have z3 : r2.toList.isEmpty = false := by rw [ByteArray.toList_eq]; cases hq : r2.data.toList with | nil => exact absurd (by rw [← data_length r2, hq]; rfl) y3 | cons a b => rfl
      have z4 : decide ((r2.size : Int) > 65536) = false := by simp; omega
      have hz : i < 1000 := by have := HL.out; omega
      have hmk := make_bytes r2.size y4
      clear x3 x4
      generalize hf : (l.take i).any farR = f
      have HF := aq hf
      clear hf
      obtain ⟨g, HNX⟩ : ∃ g, Aside0 ((l.take (i + 1)).any farR = g) := ⟨_, ⟨rfl⟩⟩
      have hg : g = (f || decide (r0 > 4611686018427387904)) := by
        rw [← HNX.out, take_snoc_ HRI.out, List.any_append, HF.out]
        simp [farR]
      have hx : (f = false ∧ decide (r0 > 4611686018427387904) = true ∧ g = true) ∨ (f = false ∧ decide (r0 > 4611686018427387904) = false ∧ g = false) ∨ (f = true ∧ g = true) := by
        generalize decide (r0 > 4611686018427387904) = e at *
        cases f <;> cases e <;> simp [hg]
      clear hg
      rcases hx with ⟨rfl, e1, rfl⟩ | ⟨rfl, e1, rfl⟩ | ⟨rfl, rfl⟩
      all_goals
        go_wp2
        go_region
      all_goals first
        | (obtain ⟨W9, hW, k0, k1, k2, hB9, hs9⟩ := alloc3_ wr (.cells #[.int .u64 r0, .int .i64 r1, .string r2] 57) (.cells (zerosA r2.size) 5) (.cells #[.int .u64 r0, .int .i64 r1, .slice (some ⟨wr.heap.size + 1, 0, none⟩) r2.size r2.size] 126); rw [← hW]; clear hW; obtain ⟨D, hD⟩ : ∃ D, D = wr.heap.size + 1 := ⟨_, rfl⟩; obtain ⟨X, hX⟩ : ∃ X, X = wr.heap.size + 1 + 1 := ⟨_, rfl⟩; obtain ⟨Y, hY⟩ : ∃ Y, Y = wr.heap.size := ⟨_, rfl⟩; have hDX : D ≠ X ∧ Y ≠ D ∧ wr.heap.size ≤ D ∧ wr.heap.size ≤ Y := (by omega); simp only [← hX] at k2 ⊢; simp only [← hD] at k1 k2 ⊢; simp only [← hY] at k0 ⊢; clear hX hD hY; have q0 := cells3_ k0; have q2 := cells3_ k2; have K1 := aq k1; clear k0 k1 k2 hmk)
        | (obtain ⟨W9, hW, k0, k1, k2, hB9, hs9⟩ := alloc3_ wr (.cells #[.int .u64 r0, .int .i64 r1, .string r2] 57) (.cells #[.int .u64 r0, .int .i64 r1, .slice (some ⟨wr.heap.size + 1 + 1, 0, none⟩) r2.size r2.size] 126) (.cells (zerosA r2.size) 5); rw [← hW]; clear hW; obtain ⟨D, hD⟩ : ∃ D, D = wr.heap.size + 1 + 1 := ⟨_, rfl⟩; obtain ⟨X, hX⟩ : ∃ X, X = wr.heap.size + 1 := ⟨_, rfl⟩; obtain ⟨Y, hY⟩ : ∃ Y, Y = wr.heap.size := ⟨_, rfl⟩; have hDX : D ≠ X ∧ Y ≠ D ∧ wr.heap.size ≤ D ∧ wr.heap.size ≤ Y := (by omega); simp only [← hD] at k1 k2 ⊢; simp only [← hX] at k1 ⊢; simp only [← hY] at k0 ⊢; clear hX hD hY; have q0 := cells3_ k0; have q2 := cells3_ k1; have K1 := aq k2; clear k0 k1 k2 hmk)
      all_goals
        go_wp2_with (with_reducible refine wpList_copy_str rfl (.tmp 54) (.tmp 56) 63 9 rfl 5 Tryz.underlying63 size_u8 D r2.size r2.size r2 rfl rfl 5 K1.out rfl ?_)
        intro w10 hk10 hT10
        have l0 : w.heap.size < wr.heap.size := (Array.getElem?_eq_some_iff.1 HM.out).1
        obtain ⟨n1, n2, n3, n4⟩ := hDX
        have l1 : X < W9.heap.size := World.block_lt_of_cell? W9 ⟨X, 0, none⟩ q2.1
        have hMB : w10.heap[w.heap.size]? = some (.cells #[v] 122 (0, 0)) := (hT10.block _ (by omega) (by omega)).trans ((hB9.block _ l0).trans HM.out)
        have hX : w10.heap[X]? = W9.heap[X]? := hT10.block X l1 (fun e => n1 e.symm)
        have e0 : w10.cell? ⟨w.heap.size, 0, none⟩ = some v := (blk_cell hMB 0).trans rfl
        have e1 : w10.cell? ⟨X, 0, none⟩ = some (.int .u64 r0) := (World.cell?_of_block (w := W9) hX).trans q2.1
        have e2 : w10.cell? ⟨X, 1, none⟩ = some (.int .i64 r1) := (World.cell?_of_block (w := W9) hX).trans q2.2.1
        have e3 : w10.cell? ⟨X, 2, none⟩ = some (.slice (some ⟨D, 0, none⟩) r2.size r2.size) := (World.cell?_of_block (w := W9) hX).trans q2.2.2
        have hTT : Touch wr w10 D := (Touch.of_below D hB9).trans hT10
        have hTB : Below w.heap.size w w10 := hTT.below _ _ HB.out (by omega) (by omega)
        have hRr : Kd.R kdP 126 w10 w.heap.size (fun _ => True) v Q := by
          refine Kd.R_step HK.out (fun k _ hk => hTT.block k hk (by omega))
        have hDD : ∀ q, q ∈ Q ++ [(⟨r0, r1, bytesOf r2⟩, D)] → w.heap.size ≤ q.2 ∧ w10.heap[q.2]? = some (.cells (q.1.d.map (Value.int .u8)).toArray 5 (0, 0)) := by
          intro q hq
          rcases List.mem_append.1 hq with hq | hq
          · obtain ⟨a1, a2⟩ := HD.out q hq
            have a3 : q.2 < wr.heap.size := (Array.getElem?_eq_some_iff.1 a2).1
            exact ⟨a1, (hTT.block q.2 a3 (by omega)).trans a2⟩
          · rw [List.mem_singleton] at hq
            subst hq
            exact ⟨by simp only; omega, hk10⟩
        have hql : Q.length = i := by have := congrArg List.length HQ.out; simp at this; omega
        have hnd : ∀ q, q ∈ Q → q.2 ≠ D := fun q hq e => by
          have a3 : q.2 < wr.heap.size := (Array.getElem?_eq_some_iff.1 (HD.out q hq).2).1
          omega
        have HND := aq hnd
        clear hnd
        have HQL := aq (show Q.length < 1000 by omega)
        have HDD := aq hDD
        clear hDD hql
        have HM10 := aq hMB
        have HR10 := aq hRr
        have HB10 := aq hTB
        clear hk10 hT10 hMB hX hRr hTT hTB q0 q2 K1 hB9 hs9 l1 n1 n2
        go_wp2
        have hB11 := below_drew1 HB10.out
        have hR11 := Kd.R_drew HR10.out
        refine start_ (n := 11) (S := fun w' => w'.cell? ⟨w.heap.size, 0, none⟩ = some v ∧ (w'.cell? ⟨X, 0, none⟩ = some (.int .u64 r0) ∧ w'.cell? ⟨X, 1, none⟩ = some (.int .i64 r1) ∧ w'.cell? ⟨X, 2, none⟩ = some (.slice (some ⟨D, 0, none⟩) r2.size r2.size))) (ds := [7, 10]) #[false, false, false, false, false, false, false, false, false, false, false] (by kernel_rfl) rfl rfl ⟨e0, e1, e2, e3⟩ (fun hHeld => ?_)
        have hD11 := HDD.out; have hM11 := HM10.out; generalize hw11 : w10.drew = w11 at hB11 hR11 hHeld ⊢; have hh11 : w11.heap = w10.heap := by rw [← hw11]; rfl
        rw [← hh11] at hM11
        simp only [← hh11] at hD11
        have HD11 := aq hD11
        have HM11 := aq hM11
        have HB11 := aq hB11
        have HR11 := aq hR11
        clear hD11 hM11 hB11 hR11 hw11 hh11 e0 e1 e2 e3
        refine pure_ (i := 0) (N := some 58) (v := ?_) (a' := ?_) #[true, false, false, false, false, false, false, false, false, false, false] rfl rfl (by kernel_rfl) (fun _ _ _ h => h) (Or.inl ⟨by rfl, ?_⟩) ?_ ?_
        rotate_left
        · intro w'
          go_simp
          with_reducible rfl
        rotate_left
        · simp only [Act.put, List.setIfInBounds_toArray, List.set_cons_zero, List.set_cons_succ, i64_w, i32_w]
          rfl
        refine pure_ (i := 1) (N := some 59) (v := ?_) (a' := ?_) #[true, true, false, false, false, false, false, false, false, false, false] rfl rfl (by kernel_rfl) (fun _ _ _ h => h) (Or.inl ⟨by rfl, ?_⟩) ?_ ?_
        rotate_left
        · intro w'
          go_simp
          with_reducible rfl
        rotate_left
        · simp only [Act.put, List.setIfInBounds_toArray, List.set_cons_zero, List.set_cons_succ, i64_w, i32_w]
          rfl
        refine pure_ (i := 2) (N := some 60) (v := ?_) (a' := ?_) #[true, true, true, false, false, false, false, false, false, false, false] rfl rfl (by kernel_rfl) (fun _ _ _ h => h) (Or.inl ⟨by rfl, ?_⟩) ?_ ?_
        rotate_left
        · intro w'
          go_simp
          with_reducible rfl
        rotate_left
        · simp only [Act.put, List.setIfInBounds_toArray, List.set_cons_zero, List.set_cons_succ, i64_w, i32_w]
          rfl
        refine pure_ (i := 3) (N := some 61) (v := ?_) (a' := ?_) #[true, true, true, true, false, false, false, false, false, false, false] rfl rfl (by kernel_rfl) (fun _ _ _ h => h) (Or.inl ⟨by rfl, ?_⟩) ?_ ?_
        rotate_left
        · intro w'
          go_simp
          with_reducible rfl
        rotate_left
        · simp only [Act.put, List.setIfInBounds_toArray, List.set_cons_zero, List.set_cons_succ, i64_w, i32_w]
          rfl
        refine take_ (i := 4) (N := some 62) (v := ?_) (a' := ?_) #[true, true, true, true, true, false, false, false, false, false, false] rfl rfl (by kernel_rfl) (fun _ _ _ h => h) (Or.inl ⟨by rfl, ?_⟩) hHeld ?_ ?_
        rotate_left
        · rintro w' ⟨g0, g1, g2, g3⟩
          go_simp
          with_reducible rfl
        rotate_left
        · simp only [Act.put, List.setIfInBounds_toArray, List.set_cons_zero, List.set_cons_succ, i64_w, i32_w]
          rfl
        refine take_ (i := 5) (N := some 63) (v := ?_) (a' := ?_) #[true, true, true, true, true, true, false, false, false, false, false] rfl rfl (by kernel_rfl) (fun _ _ _ h => h) (Or.inl ⟨by rfl, ?_⟩) hHeld ?_ ?_
        rotate_left
        · rintro w' ⟨g0, g1, g2, g3⟩
          go_simp
          with_reducible rfl
        rotate_left
        · simp only [Act.put, List.setIfInBounds_toArray, List.set_cons_zero, List.set_cons_succ, i64_w, i32_w]
          rfl
        refine one_ (i := 6) (N := some 64) #[true, true, true, true, true, true, true, false, false, false, false] rfl rfl (by kernel_rfl) (by decide) (fun K hK => ?_)
        rw [if_pos (by rfl)]
        unfold Oper.wp
        go_simp
        refine hK.out _ _ ⟨pw_cell_below (below_alloc (Below.refl _ _) _) hHeld.1, pw_cell_below (below_alloc (Below.refl _ _) _) hHeld.2.1, pw_cell_below (below_alloc (Below.refl _ _) _) hHeld.2.2.1, pw_cell_below (below_alloc (Below.refl _ _) _) hHeld.2.2.2⟩ (fun hHeld => ?_)
        clear hK K
        refine last_ (i := 7) (N := some 65) #[true, true, true, true, true, true, true, true, false, false, false] rfl rfl (by kernel_rfl) (by decide) (fun K hK => ?_)
        refine Kd.R_append_step kdP (w0 := w) w.heap.size (by rfl) (.tmp 62) (.tmp 64) 120 126 (.agg #[.int .u64 0, .int .i64 0, .slice none 0 0]) 40 rfl Tryz.underlying120 info_part rfl (by decide) (by omega) v Q (⟨r0, r1, bytesOf r2⟩, D) [.int .u64 r0, .int .i64 r1, .slice (some ⟨D, 0, none⟩) r2.size r2.size] (fun _ => True) (fun _ => False) rfl rfl ?aP (fun _ hk => hk.elim) (fun _ _ => trivial) HR11.out HB11.out (below_size HB11.out) ?aL ?_
        case aP => show _ = encM _; unfold encM; simp only [bytesOf_length]
        case aL => have := HQL.out; omega
        intro v1 w12 ho hb hg hat
        have hMD := part_grown (w := w) HR11.out HM11.out HD11.out hg
        obtain ⟨A1, c1, rfl⟩ := Kd.R_slice ho
        have hres := part_put (w := w) (Nat.le_refl _) ho hMD.1 hMD.2 hb
        have m0 : w12.cell? ⟨w.heap.size, 0, none⟩ = some v := (blk_cell hMD.1 0).trans rfl
        have m1 : w12.frozen? ⟨w.heap.size, 0, none⟩ = false := blk_frozen hMD.1 0
        have HRES := aq hres
        clear ho hb hg hat hMD hres
        refine hK.out _ _ ?_
        clear hK K
        refine norm_ (a' := ?_) ?_ ?_
        rotate_left
        · show Act.put _ (some 65) _ = _
          simp only [Act.put, List.setIfInBounds_toArray, List.set_cons_zero, List.set_cons_succ, i64_w, i32_w]
          rfl
        refine pure_ (i := 8) (N := some 66) (v := ?_) (a' := ?_) #[true, true, true, true, true, true, true, true, true, false, false] rfl rfl (by kernel_rfl) (fun _ _ _ h => h) (Or.inl ⟨by rfl, ?_⟩) ?_ ?_
        rotate_left
        · intro w'
          go_simp
          with_reducible rfl
        rotate_left
        · simp only [Act.put, List.setIfInBounds_toArray, List.set_cons_zero, List.set_cons_succ, i64_w, i32_w]
          rfl
        refine pure_ (i := 9) (N := some 67) (v := ?_) (a' := ?_) #[true, true, true, true, true, true, true, true, true, true, false] rfl rfl (by kernel_rfl) (fun _ _ _ h => h) (Or.inl ⟨by rfl, ?_⟩) ?_ ?_
        rotate_left
        · intro w'
          go_simp
          with_reducible rfl
        rotate_left
        · simp only [Act.put, List.setIfInBounds_toArray, List.set_cons_zero, List.set_cons_succ, i64_w, i32_w]
          rfl
        refine last_ (i := 10) (N := none) #[true, true, true, true, true, true, true, true, true, true, true] rfl rfl (by kernel_rfl) (by decide) (fun K hK => ?_)
        rw [if_pos (by rfl)]
        unfold Oper.wp
        go_simp
        refine hK.out _ _ ?_
        clear hK K
        refine done_ (by kernel_rfl) ?_
        go_wp2
        go_roundg kq
        case measure => omega
        case rel =>
          obtain ⟨p1, p2, p3, p4⟩ := HRES.out
          have hll : (Q ++ [((⟨r0, r1, bytesOf r2⟩ : MP), D)]).length = Q.length + 1 := by simp
          rw [hll] at p1 p2 p3 p4
          refine ⟨i + 1, Q ++ [(⟨r0, r1, bytesOf r2⟩, D)], _, ?_, rfl, by have := HIK.out; omega, ⟨p1⟩, ⟨p2⟩, ⟨p3⟩, ⟨?_⟩, ⟨?_⟩, ⟨p4⟩, ⟨fun h => absurd h (by simp)⟩⟩
          · rw [HNX.out]
          · exact nodup_snoc_ HA.out HND.out
          · rw [take_snoc_ HRI.out, List.map_append, List.map_append, HQ.out]
            rfl
theorem first_bad (l : List S57) : ∃ t, t ≤ l.length ∧ (∀ r, r ∈ l.take t → badR r = false) ∧ (t < l.length → ∃ r, l[t]? = some r ∧ badR r = true) := by
  induction l with
  | nil => exact ⟨0, Nat.le_refl _, fun r hr => by simp at hr, fun h => by simp at h⟩
  | cons x xs ih =>
    obtain ⟨t, h1, h2, h3⟩ := ih
    cases hx : badR x with
    | true => exact ⟨0, Nat.zero_le _, fun r hr => by simp at hr, fun _ => ⟨x, rfl, hx⟩⟩
    | false =>
      refine ⟨t + 1, by simp; omega, fun r hr => ?_, fun h => ?_⟩
      · rw [List.take_succ_cons] at hr
        rcases List.mem_cons.1 hr with rfl | hr
        · exact hx
        · exact h2 r hr
      · obtain ⟨r, e1, e2⟩ := h3 (by simp at h; omega)
        exact ⟨r, by simpa using e1, e2⟩
theorem new_calls (w : World) (A0 : Option Addr) (c0 : Nat) (l : List S57) (hr0 : Kd.C k57 w A0 l.length l) (hc0 : l.length ≤ c0) (hl : l.length ≤ 1000) (hw : ∀ r, r ∈ l → 0 ≤ r.f0 ∧ r.f0 < 18446744073709551616) :
    Calls Tryz.prog 52 #[.slice A0 l.length c0] w (NewEnd l w) := by
  obtain ⟨t, h1, h2, h3⟩ := first_bad l
  exact new_any w A0 c0 l hr0 hc0 hl hw t h1 h2 h3
def mcut (p : MP) (at_ : Int) (n : Nat) : List Int := (p.d.drop (at_ - p.a).toNat).take n
def mat_ (L : List MP) (at_ n : Int) : Option (Nat × MP) := (mfind at_ n L).bind fun i => (L[i]?).map fun p => (i, p)
def mword (L : List MP) (at_ : Int) : Int × Int := if at_ % 4 = 0 then match mat_ L at_ 4 with | none => (0, 4) | some q => if q.2.k = 1 then (leV (mcut q.2 at_ 4), 0) else (0, 10) else (0, 5)
def mtext (L : List MP) (at_ n : Int) : ByteArray × Int := if n < 0 ∨ n > 65536 then (⟨#[]⟩, 1) else if n = 0 then (⟨#[]⟩, 0) else match mat_ L at_ n with | none => (⟨#[]⟩, 4) | some q => (strOfNums (mcut q.2 at_ n.toNat), 0)
theorem mat_none {L : List MP} {at_ n : Int} (h : mat_ L at_ n = none) : ∀ p, p ∈ L → ¬ p.has at_ n := by
  unfold mat_ at h
  cases hf : mfind at_ n L with
  | none => exact mfind_none at_ n L hf
  | some i =>
    obtain ⟨⟨p, h1, h2⟩, h3⟩ := mfind_some at_ n L i hf
    rw [hf] at h
    simp [h1] at h
theorem mat_some {L : List MP} {at_ n : Int} {q : Nat × MP} (h : mat_ L at_ n = some q) : L[q.1]? = some q.2 ∧ q.2.has at_ n ∧ ∀ (j : Nat) p, j < q.1 → L[j]? = some p → ¬ p.has at_ n := by
  unfold mat_ at h
  cases hf : mfind at_ n L with
  | none => rw [hf] at h; cases h
  | some i =>
    obtain ⟨⟨p, h1, h2⟩, h3⟩ := mfind_some at_ n L i hf
    rw [hf] at h
    simp only [Option.bind_some, h1, Option.map_some, Option.some.injEq] at h
    subst h
    exact ⟨h1, h2, h3⟩
def MemOk (w : World) (M lo hi : Nat) (L : List MP) : Prop :=
  ∃ (A : Option Addr) (P c : Nat) (Q : List (MP × Nat)), MemIs w M A P c Q ∧ Q.map (·.1) = L ∧ (∀ q, q ∈ Q → lo ≤ q.2 ∧ q.2 < hi) ∧ (∀ q, q ∈ Q → q.1.good) ∧ Q.length ≤ 1000000
theorem MemOk.good {w : World} {M lo hi : Nat} {L : List MP} (h : MemOk w M lo hi L) : ∀ p, p ∈ L → p.good := by
  obtain ⟨A, P, c, Q, h1, h2, h3, h4, h5⟩ := h
  intro p hp
  rw [← h2] at hp
  obtain ⟨q, hq, rfl⟩ := List.mem_map.1 hp
  exact h4 q hq
theorem MemOk.below {w w' : World} {M lo hi : Nat} {L : List MP} (h : MemOk w M lo hi L) (hb : Below w.heap.size w w') : MemOk w' M lo hi L := by
  obtain ⟨A, P, c, Q, h1, h2, h3, h4, h5⟩ := h
  exact ⟨A, P, c, Q, h1.below hb, h2, h3, h4, h5⟩
structure StoredIn (w w' : World) (lo hi : Nat) : Prop where
  block : ∀ (k : Nat) (o : Obj), w.heap[k]? = some o → (¬ (lo ≤ k ∧ k < hi) ∨ ¬ ∃ cs, o = .cells cs 5 (0, 0)) → w'.heap[k]? = some o
  size : w.heap.size ≤ w'.heap.size
  below : ∀ (B : Nat) (U : World), Below B U w → B ≤ lo → B ≤ w.heap.size → Below B U w'
theorem StoredIn.of_below {w w' : World} (lo hi : Nat) (h : Below w.heap.size w w') : StoredIn w w' lo hi :=
  ⟨fun k o hk _ => (h.block k (Array.getElem?_eq_some_iff.1 hk).1).trans hk, h.size, fun B U hu _ hs => hu.trans (h.mono hs)⟩
theorem StoredIn.refl (w : World) (lo hi : Nat) : StoredIn w w lo hi := StoredIn.of_below lo hi (Below.refl _ _)
theorem StoredIn.trans {w w1 w2 : World} {lo hi : Nat} (h : StoredIn w w1 lo hi) (g : StoredIn w1 w2 lo hi) : StoredIn w w2 lo hi :=
  ⟨fun k o hk hor => g.block k o (h.block k o hk hor) hor, Nat.le_trans h.size g.size, fun B U hu hl hs => g.below B U (h.below B U hu hl hs) hl (Nat.le_trans hs h.size)⟩
theorem MemOk.other {w w' : World} {M lo hi lo2 hi2 : Nat} {L : List MP} (h : MemOk w M lo hi L) (hs : StoredIn w w' lo2 hi2) (hd : hi ≤ lo2 ∨ hi2 ≤ lo) : MemOk w' M lo hi L := by
  obtain ⟨A, P, c, Q, h1, h2, h3, h4, h5⟩ := h
  refine ⟨A, P, c, Q, ⟨?_, h1.addr, ?_, ?_, ?_, h1.apart⟩, h2, h3, h4, h5⟩
  · exact hs.block M _ h1.head (.inr (by rintro ⟨cs, hcs⟩; injection hcs with _ hcs _; exact absurd hcs (by decide)))
  · intro hq
    obtain ⟨cur, hcur⟩ := h1.row hq
    exact ⟨cur, hs.block P _ hcur (.inr (by rintro ⟨cs, hcs⟩; injection hcs with _ hcs _; exact absurd hcs (by decide)))⟩
  · intro i q hq j v hv
    have hQ : Q ≠ [] := by intro e; rw [e] at hq; cases hq
    obtain ⟨cur, hcur⟩ := h1.row hQ
    have hP := hs.block P _ hcur (.inr (by rintro ⟨cs, hcs⟩; injection hcs with _ hcs _; exact absurd hcs (by decide)))
    exact (World.cell?_of_block (w := w) (hP.trans hcur.symm)).trans (h1.cells i q hq j v hv)
  · intro q hq
    have := h3 q hq
    exact hs.block q.2 _ (h1.data q hq) (.inl (by omega))
def newV (l : List S57) : Int := if l.any badR = true then 1 else if l.any farR = true then 4 else if apartB (sortM (l.map mpOf)) = true then 0 else 7
def memL (l : List S57) : List MP := sortM (l.map mpOf)
theorem new_at (w : World) (A0 : Option Addr) (c0 : Nat) (l : List S57) (hr0 : Kd.C k57 w A0 l.length l) (hc0 : l.length ≤ c0) (hl : l.length ≤ 1000) (hw : ∀ r, r ∈ l → 0 ≤ r.f0 ∧ r.f0 < 18446744073709551616) :
    (newV l ≠ 0 → Calls Tryz.prog 52 #[.slice A0 l.length c0] w fun e w' => e = .returned (.tuple #[.pointer none, .int .i64 (newV l)]) ∧ Below w.heap.size w w') ∧
    (newV l = 0 → Calls Tryz.prog 52 #[.slice A0 l.length c0] w fun e w' => e = .returned (.tuple #[.pointer (some ⟨w.heap.size, 0, none⟩), .int .i64 0]) ∧ Below w.heap.size w w' ∧ MemOk w' w.heap.size w.heap.size w'.heap.size (memL l)) := by
  have h := new_calls w A0 c0 l hr0 hc0 hl hw
  constructor
  · intro hv
    refine h.mono ?_
    rintro e w' ⟨hb, hp⟩
    refine ⟨?_, hb⟩
    unfold NewPost at hp
    unfold newV at hv ⊢
    by_cases h1 : l.any badR = true
    · rw [if_pos h1] at hp ⊢; exact hp
    · rw [if_neg h1] at hp hv ⊢
      by_cases h2 : l.any farR = true
      · rw [if_pos h2] at hp ⊢; exact hp
      · rw [if_neg h2] at hp hv ⊢
        by_cases h3 : apartB (sortM (l.map mpOf)) = true
        · rw [if_pos h3] at hv; exact absurd rfl hv
        · rw [if_neg h3] at hp ⊢; exact hp
  · intro hv
    refine h.mono ?_
    rintro e w' ⟨hb, hp⟩
    unfold NewPost at hp
    unfold newV at hv
    by_cases h1 : l.any badR = true
    · rw [if_pos h1] at hv; exact absurd hv (by decide)
    · rw [if_neg h1] at hp hv
      by_cases h2 : l.any farR = true
      · rw [if_pos h2] at hv; exact absurd hv (by decide)
      · rw [if_neg h2] at hp hv
        by_cases h3 : apartB (sortM (l.map mpOf)) = true
        · rw [if_pos h3] at hp
          obtain ⟨A, P, c, Q, he, hM, hQ, hB⟩ := hp
          have hlen : Q.length = l.length := by
            have h4 := congrArg List.length hQ
            rw [List.length_map, (sortM_perm _).length_eq, List.length_map] at h4
            exact h4
          refine ⟨he, hb, A, P, c, Q, hM, hQ, fun q hq => ⟨hB q hq, (Array.getElem?_eq_some_iff.1 (hM.data q hq)).1⟩, ?_, by omega⟩
          intro q hq
          have hm : q.1 ∈ sortM (l.map mpOf) := by rw [← hQ]; exact List.mem_map.2 ⟨q, hq, rfl⟩
          obtain ⟨r, hr, e⟩ := List.mem_map.1 ((sortM_perm _).mem_iff.1 hm)
          rw [← e]
          refine good_of r ?_ ?_ (hw r hr).1
          · have := List.any_eq_false.1 (Bool.eq_false_iff.2 h1) r hr; simpa using this
          · have := List.any_eq_false.1 (Bool.eq_false_iff.2 h2) r hr; simpa using this
        · rw [if_neg h3] at hv; exact absurd hv (by decide)
theorem at_of {Q : List (MP × Nat)} {i : Nat} {p : MP} (h : (Q.map (·.1))[i]? = some p) : ∃ b, Q[i]? = some (p, b) := by
  rw [List.getElem?_map] at h
  obtain ⟨q, hq, rfl⟩ := Option.map_eq_some_iff.1 h
  exact ⟨q.2, hq⟩
theorem not_of {Q : List (MP × Nat)} {i : Nat} {at_ n : Int} (h : ∀ (j : Nat) p, j < i → (Q.map (·.1))[j]? = some p → ¬ p.has at_ n) : ∀ (j : Nat) q, j < i → Q[j]? = some q → ¬ q.1.has at_ n :=
  fun j q hj hq => h j q.1 hj (by rw [List.getElem?_map, hq]; rfl)
theorem word_at {w : World} {M lo hi : Nat} {L : List MP} (h : MemOk w M lo hi L) (at_ : Int) (h0 : 0 ≤ at_) (h1 : at_ < 18446744073709551616) :
    Calls Tryz.prog 76 #[.pointer (some ⟨M, 0, none⟩), .int .u64 at_] w fun e w' => e = .returned (.tuple #[.int .u32 (mword L at_).1, .int .i64 (mword L at_).2]) ∧ Below w.heap.size w w' := by
  obtain ⟨A, P, c, Q, hM, rfl, hB, hg, hl⟩ := h
  unfold mword
  by_cases h4 : at_ % 4 = 0
  · rw [if_pos h4]
    cases ha : mat_ (Q.map (·.1)) at_ 4 with
    | none => exact word_none w M A P c Q at_ hM hg hl h0 h1 h4 (fun q hq => mat_none ha q.1 (List.mem_map.2 ⟨q, hq, rfl⟩))
    | some q =>
      obtain ⟨i, p⟩ := q
      obtain ⟨h2, h3, h5⟩ := mat_some ha
      obtain ⟨b, hb⟩ := at_of h2
      have := word_some w M A P c Q at_ hM hg hl h0 h1 h4 i p b hb h3 (not_of h5)
      simp only at this ⊢
      by_cases hk : p.k = 1
      · simp only [if_pos hk] at this ⊢; exact this
      · simp only [if_neg hk] at this ⊢; exact this
  · rw [if_neg h4]
    exact word_align w M at_ h0 h4
theorem text_at {w : World} {M lo hi : Nat} {L : List MP} (h : MemOk w M lo hi L) (at_ n : Int) (h0 : 0 ≤ at_) (h1 : at_ < 18446744073709551616) :
    Calls Tryz.prog 23 #[.pointer (some ⟨M, 0, none⟩), .int .u64 at_, .int .i64 n] w fun e w' => e = .returned (.tuple #[.string (mtext L at_ n).1, .int .i64 (mtext L at_ n).2]) ∧ Below w.heap.size w w' := by
  obtain ⟨A, P, c, Q, hM, rfl, hB, hg, hl⟩ := h
  unfold mtext
  by_cases hn : n < 0 ∨ n > 65536
  · rw [if_pos hn]
    exact text_bad w M at_ n hn
  · rw [if_neg hn]
    by_cases hz : n = 0
    · rw [if_pos hz]; subst hz
      exact text_zero w M at_
    · rw [if_neg hz]
      cases ha : mat_ (Q.map (·.1)) at_ n with
      | none => exact text_none w M A P c Q at_ n hM hg hl h0 h1 (by omega) (by omega) (fun q hq => mat_none ha q.1 (List.mem_map.2 ⟨q, hq, rfl⟩))
      | some q =>
        obtain ⟨i, p⟩ := q
        obtain ⟨h2, h3, h4⟩ := mat_some ha
        obtain ⟨b, hb⟩ := at_of h2
        exact text_some w M A P c Q at_ n hM hg hl h0 h1 (by omega) (by omega) i p b hb h3 (not_of h4)
end Go.Proofs.YtflojfcioojgbaaGreatDoor.MW
namespace Go.Proofs.YtflojfcioojgbaaGreatDoor.ST
open Go.RowKit Go.Proofs.YtflojfcioojgbaaGreatDoor.P Go.Proofs.YtflojfcioojgbaaGreatDoorW.PrintWords Go.Proofs.YtflojfcioojgbaaGreatDoorW.PrintLast Go.Proofs.YtflojfcioojgbaaGreatDoorW.PrintMore Go.Proofs.YtflojfcioojgbaaGreatDoor.MW
set_option linter.unusedVariables false
set_option linter.unusedSimpArgs false
structure Run (w0 w : World) (M mb lo hi : Nat) (L : List MP) (c : CPU) (i : INS) (t : Value) : Prop where
  mac : Mac w M c (.pointer (some ⟨mb, 0, none⟩)) i t
  mem : MemOk w mb lo hi L
  st : StoredIn w0 w lo hi
  base : w0.heap.size ≤ M
  top : hi ≤ w0.heap.size
theorem Run.step {w0 w w' : World} {M mb lo hi : Nat} {L : List MP} {c : CPU} {i : INS} {t : Value} (h : Run w0 w M mb lo hi L c i t) (hb : Below w.heap.size w w') : Run w0 w' M mb lo hi L c i t :=
  ⟨h.mac.below hb, h.mem.below hb, h.st.trans (StoredIn.of_below lo hi hb), h.base, h.top⟩
theorem MemOk.only {w w' : World} {M mb lo hi : Nat} {L : List MP} {A : Array Value} (h : MemOk w mb lo hi L) (hM : w.heap[M]? = some (.cells A 153 (0, 0))) (ho : Only w w' M) : MemOk w' mb lo hi L := by
  obtain ⟨R, P, cc, Q, hm, h2, h3, h4, h5⟩ := h
  have kp : ∀ (k : Nat) (cs : Array Value) (T : TypeId), T ≠ 153 → w.heap[k]? = some (.cells cs T (0, 0)) → w'.heap[k]? = some (.cells cs T (0, 0)) := by
    intro k cs T hT hk
    refine (ho.block k (blk_lt hk) ?_).trans hk
    rintro rfl
    rw [hM] at hk
    injection hk with hk
    injection hk with _ hk _
    exact hT hk.symm
  refine ⟨R, P, cc, Q, ⟨kp mb _ _ (by decide) hm.head, hm.addr, ?_, ?_, ?_, hm.apart⟩, h2, h3, h4, h5⟩
  · intro hq
    obtain ⟨cur, hcur⟩ := hm.row hq
    exact ⟨cur, kp P _ _ (by decide) hcur⟩
  · intro j q hq k v hv
    have hQ : Q ≠ [] := by intro e; rw [e] at hq; cases hq
    obtain ⟨cur, hcur⟩ := hm.row hQ
    exact (World.cell?_of_block (w := w) ((kp P _ _ (by decide) hcur).trans hcur.symm)).trans (hm.cells j q hq k v hv)
  · intro q hq
    exact kp q.2 _ _ (by decide) (hm.data q hq)
theorem Run.only {w0 w w' : World} {M mb lo hi : Nat} {L : List MP} {c c' : CPU} {i : INS} {t t' : Value} (h : Run w0 w M mb lo hi L c i t) (ho : Only w w' M) (hm : Mac w' M c' (.pointer (some ⟨mb, 0, none⟩)) i t') : Run w0 w' M mb lo hi L c' i t' := by
  refine ⟨hm, MemOk.only h.mem h.mac ho, ⟨?_, Nat.le_trans h.st.size ho.size, ?_⟩, h.base, h.top⟩
  · intro k o hk hor
    have hk0 : k < w0.heap.size := blk_lt hk
    have h1 := h.st.block k o hk hor
    exact (ho.block k (blk_lt h1) (by have := h.base; omega)).trans h1
  · intro B U hu hl hs
    exact ho.below B U (h.st.below B U hu hl hs) (Nat.le_trans hs h.base) (Nat.le_trans hs h.st.size)
structure CPU.ok (c : CPU) : Prop where
  x : ∀ n, 0 ≤ c.x n ∧ c.x n < 18446744073709551616
  sp : 0 ≤ c.sp ∧ c.sp < 18446744073709551616
  pc : 0 ≤ c.pc ∧ c.pc < 18446744073709551616
theorem CPU.ok.put {c : CPU} (h : c.ok) (n : Int) (st : Bool) (v : Int) (hv : 0 ≤ v ∧ v < 18446744073709551616) : (c.put n st v).ok := by
  unfold CPU.put
  split
  · refine ⟨fun k => ?_, h.sp, h.pc⟩
    unfold CPU.setX
    simp only
    split
    · exact hv
    · exact h.x k
  · split
    · exact ⟨h.x, hv, h.pc⟩
    · exact h
theorem row_range {w : World} {g : Nat} {t : TypeId} {cs : Array Value} (h : w.heap[g]? = some (.cells cs t (0, 0))) : w.rangeAt g 0 cs.toList := range_blk h 0 _ fun j v hj => by rw [Nat.zero_add, ← Array.getElem?_toList]; exact hj
theorem under_inst : Tryz.prog.underlying 148 = some (.struct (match Tryz.prog.underlying 148 with | some (.struct fs) => fs | _ => #[])) := by kernel_rfl
theorem info_inst : (Tryz.prog.info? 148).map (·.size) = some 10 := by kernel_rfl
set_option maxHeartbeats 4000000 in
set_option maxRecDepth 100000 in
theorem plain_37_0 (c : CPU) (i : INS) (t : Value) (w0 w : World) (M mb lo hi : Nat) (L : List MP) (h : Run w0 w M mb lo hi L c i t) (hc : c.ok) (ho : i.o = 37) (hi_ : i.im = 0) :
    Calls Tryz.prog 79 #[.pointer (some ⟨M, 0, none⟩)] w fun e w' => e = .returned (.int .i64 0) ∧ Run w0 w' M mb lo hi L c i (.iface 158 (.int .u64 (c.x 0))) := by
  have co : w.cell? ⟨M, 38, none⟩ = some (.int .i64 i.o) := (h.mac.cell 38).trans rfl
  rw [ho] at co
  have HR1 := aq h
  have HI := aq hi_
  clear h hc ho hi_
  go_enter Tryz.func79, Tryz.ntmps79
  go_wp2_with (go_at_call 112; refine (call_0 c (.pointer (some ⟨mb, 0, none⟩)) i t M _ HR1.out.mac HI.out).mono ?_; rintro e w2 ⟨rfl, ho, hm⟩; have HR2 := aq (HR1.out.only ho hm); clear ho hm)
  go_ret
  exact ⟨rfl, HR2.out⟩
def MacP (w : World) (M : Nat) (mp : Value) (i : INS) (t : Value) (pc : Int) : Prop := ∃ c, c.pc = pc ∧ Mac w M c mp i t
theorem CPU.put_pc (c : CPU) (n : Int) (st : Bool) (v : Int) : (c.put n st v).pc = c.pc := by
  unfold CPU.put
  split
  · rfl
  · split <;> rfl
theorem MacP.put {w : World} {M : Nat} {c : CPU} {mp : Value} {i : INS} {t : Value} {n v : Int} {st : Bool} (h : Mac w M (c.put n st v) mp i t) : MacP w M mp i t c.pc := ⟨_, CPU.put_pc c n st v, h⟩
end Go.Proofs.YtflojfcioojgbaaGreatDoor.ST
namespace Go.Proofs.YtflojfcioojgbaaGreatDoor.IM
open Go.RowKit Go.Proofs.YtflojfcioojgbaaGreatDoor.P Go.Proofs.YtflojfcioojgbaaGreatDoorW.PrintWords Go.Proofs.YtflojfcioojgbaaGreatDoorW.PrintLast Go.Proofs.YtflojfcioojgbaaGreatDoorW.PrintMore Go.Proofs.YtflojfcioojgbaaGreatDoor.MW Go.Proofs.YtflojfcioojgbaaGreatDoor.M
set_option linter.unusedVariables false
set_option linter.unusedSimpArgs false
def zs : ByteArray := ⟨(Lib.repeatL [0] 4096).toArray⟩
theorem zs_size : zs.size = 4096 := by show (Lib.repeatL [0] 4096).length = 4096; rw [Lib.repeatL_length]; rfl
def stk (s : Int) : S57 := ⟨s, 3, zs⟩
structure IMG where
  en : Int
  st : Int
  l : List S57
def ascI : List S57 → Bool
  | a :: b :: t => decide (a.f0 < b.f0) && ascI (b :: t)
  | _ => true
def okI (x : IMG) : Bool := decide (x.en % 4 = 0 ∧ x.st % 4096 = 0 ∧ x.en ≤ 4611686018427387904 ∧ x.st ≤ 4611686018427387904 ∧ x.l.length ≤ 256 ∧ ascI x.l = true ∧ newV (x.l ++ [stk x.st]) = 0)
structure IMG.nums (x : IMG) : Prop where
  e0 : 0 ≤ x.en
  e1 : x.en < 18446744073709551616
  s0 : 0 ≤ x.st
  s1 : x.st < 18446744073709551616
  f : ∀ r, r ∈ x.l → 0 ≤ r.f0 ∧ r.f0 < 18446744073709551616
def magicL : List UInt8 := [67, 76, 73, 77, 71, 1]
def putR (r : S57) : List UInt8 := wire_putL r.f0.toNat ++ (wire_putL (IntKind.u64.wrap r.f1).toNat ++ (wire_putL r.f2.size ++ r.f2.data.toList))
def putRs (l : List S57) : List UInt8 := (l.map putR).flatten
def putI (x : IMG) : List UInt8 := magicL ++ (wire_putL x.en.toNat ++ (wire_putL x.st.toNat ++ (wire_putL x.l.length ++ putRs x.l)))
abbrev RD := ByteArray × Bool
def RD.cut (q : RD) (n : Nat) : ByteArray := q.1.extract n q.1.size
def rdN (q : RD) : Nat × RD := ((getL q.1.data.toList 0 0).1, (q.cut (getL q.1.data.toList 0 0).2.1, q.2 || decide ((getL q.1.data.toList 0 0).2.2 ≠ 0)))
def rdT (q : RD) : ByteArray × RD := ((textV q.1 65536).1, (q.cut (textV q.1 65536).2.1.toNat, q.2 || decide ((textV q.1 65536).2.2 ≠ 0)))
def rdR (q : RD) : S57 × RD :=
  let a := rdN q; let k := rdN a.2; let t := rdT (k.2.1, k.2.2 || decide (3 < k.1))
  (⟨(a.1 : Int), IntKind.i64.wrap (k.1 : Int), t.1⟩, t.2)
def rdRs : Nat → RD → List S57 → List S57 × RD
  | 0, q, l => (l, q)
  | n + 1, q, l => if q.2 = true then (l, q) else rdRs n (rdR q).2 (l ++ [(rdR q).1])
def rd0 (s : ByteArray) : RD := if s.data.toList.take 6 = magicL then (s.extract 6 s.size, false) else (s, true)
def rdI (s : ByteArray) : IMG × RD :=
  let a := rdN (rd0 s); let b := rdN a.2; let c := rdN b.2; let r := rdRs (min c.1 256) (c.2.1, c.2.2 || decide (256 < c.1)) []
  (⟨(a.1 : Int), (b.1 : Int), r.1⟩, r.2)
def zeroI : IMG := ⟨0, 0, []⟩
def getI (s : ByteArray) : IMG × Int := if (rdI s).2.2 = true ∨ (rdI s).2.1.size ≠ 0 ∨ okI (rdI s).1 = false then (zeroI, 3) else ((rdI s).1, 0)
theorem bsz (b : ByteArray) : b.data.toList.length = b.size := by simp
theorem i64_self (x : Int) (h0 : -9223372036854775808 ≤ x) (h1 : x < 9223372036854775808) : IntKind.i64.wrap x = x := by rw [IntKind.wrap_i64]; omega
theorem cut_data (q : RD) (n : Nat) : (q.cut n).data.toList = q.1.data.toList.drop n := by
  unfold RD.cut
  rw [Lib.extract_data]
  exact List.take_of_length_le (by simp)
theorem rdN_ok {q : RD} (h : (rdN q).2.2 = false) : q.2 = false ∧ (rdN q).1 < 18446744073709551616 ∧ q.1.data.toList = wire_putL (rdN q).1 ++ (rdN q).2.1.data.toList := by
  have hc := cut_data q (getL q.1.data.toList 0 0).2.1
  unfold rdN at h ⊢
  rcases get_cases0 q.1.data.toList with ⟨y, rest, h1, h2, h4⟩ | ⟨e, he, h4⟩
  · rw [h4] at h hc ⊢
    simp only [Bool.or_eq_false_iff] at h ⊢
    refine ⟨h.1, h2, ?_⟩
    rw [hc, h1, List.drop_left]
  · rw [h4] at h
    simp only [Bool.or_eq_false_iff, decide_eq_false_iff_not] at h
    rcases he with rfl | rfl <;> exact absurd h.2 (by decide)
theorem rdT_ok {q : RD} (h : (rdT q).2.2 = false) : q.2 = false ∧ (rdT q).1.size ≤ 65536 ∧ q.1.data.toList = wire_putL (rdT q).1.size ++ ((rdT q).1.data.toList ++ (rdT q).2.1.data.toList) := by
  have hc := cut_data q (textV q.1 65536).2.1.toNat
  unfold rdT at h ⊢
  rcases textV_cases q.1 65536 with ⟨e, he, h4⟩ | ⟨y, rest, h1, h2, h3, h5, h4⟩
  · rw [h4] at h
    simp only [Bool.or_eq_false_iff, decide_eq_false_iff_not] at h
    exact absurd he (by simpa using h.2)
  · rw [h4] at h hc ⊢
    simp only [Bool.or_eq_false_iff] at h hc ⊢
    have hs : (q.1.extract (wire_putL y).length ((wire_putL y).length + y)).size = y := by rw [ByteArray.size_extract]; omega
    refine ⟨h.1, by rw [hs]; omega, ?_⟩
    rw [hs, hc, Lib.extract_data, h1, show (((wire_putL y).length : Int) + (y : Int)).toNat = (wire_putL y).length + y by omega, List.drop_left, Nat.add_sub_cancel_left, ← List.drop_drop, List.drop_left, List.take_append_drop]
theorem rdR_ok {q : RD} (h : (rdR q).2.2 = false) : q.2 = false ∧ 0 ≤ (rdR q).1.f0 ∧ (rdR q).1.f0 < 18446744073709551616 ∧ q.1.data.toList = putR (rdR q).1 ++ (rdR q).2.1.data.toList := by
  unfold rdR at h ⊢
  simp only at h ⊢
  obtain ⟨t1, t2, t3⟩ := rdT_ok h
  simp only [Bool.or_eq_false_iff, decide_eq_false_iff_not] at t1
  obtain ⟨k1, k2, k3⟩ := rdN_ok t1.1
  obtain ⟨a1, a2, a3⟩ := rdN_ok k1
  refine ⟨a1, by omega, by omega, ?_⟩
  unfold putR
  simp only
  rw [Int.toNat_natCast, show (IntKind.u64.wrap (IntKind.i64.wrap ((rdN (rdN q).2).1 : Int))).toNat = (rdN (rdN q).2).1 by
    rw [show IntKind.i64.wrap ((rdN (rdN q).2).1 : Int) = ((rdN (rdN q).2).1 : Int) from i64_self _ (by omega) (by omega), u64_self _ (by omega) (by omega), Int.toNat_natCast]]
  rw [a3, k3, t3]
  simp only [List.append_assoc]
theorem rdRs_ok : ∀ (n : Nat) (q : RD) (l : List S57), (rdRs n q l).2.2 = false → q.2 = false ∧ ∃ m, (rdRs n q l).1 = l ++ m ∧ m.length = n ∧ (∀ r, r ∈ m → 0 ≤ r.f0 ∧ r.f0 < 18446744073709551616) ∧ q.1.data.toList = putRs m ++ (rdRs n q l).2.1.data.toList
  | 0, q, l, h => ⟨h, [], by simp [rdRs], rfl, by simp, by simp [rdRs, putRs]⟩
  | n + 1, q, l, h => by
    unfold rdRs at h ⊢
    by_cases hq : q.2 = true
    · rw [if_pos hq] at h; rw [h] at hq; cases hq
    · rw [if_neg hq] at h ⊢
      obtain ⟨h1, m, h2, h3, h4, h5⟩ := rdRs_ok n _ _ h
      obtain ⟨r1, r2, r3, r4⟩ := rdR_ok h1
      refine ⟨r1, (rdR q).1 :: m, by rw [h2]; simp, by simp [h3], ?_, ?_⟩
      · intro r hr
        rcases List.mem_cons.1 hr with rfl | hr
        · exact ⟨r2, r3⟩
        · exact h4 r hr
      · rw [r4, h5]; simp [putRs]
theorem rd0_ok {s : ByteArray} (h : (rd0 s).2 = false) : s.data.toList = magicL ++ (rd0 s).1.data.toList := by
  unfold rd0 at h ⊢
  by_cases hm : s.data.toList.take 6 = magicL
  · rw [if_pos hm]
    have hc := cut_data (s, false) 6
    unfold RD.cut at hc
    simp only at hc ⊢
    rw [hc, ← hm, List.take_append_drop]
  · rw [if_neg hm] at h; cases h
theorem rdI_ok {s : ByteArray} (h : (rdI s).2.2 = false) : (rdI s).1.nums ∧ (rdI s).1.l.length ≤ 256 ∧ s.data.toList = putI (rdI s).1 ++ (rdI s).2.1.data.toList := by
  unfold rdI at h ⊢
  simp only at h ⊢
  have hs := @rd0_ok s
  generalize rd0 s = q0 at *
  have ha := @rdN_ok q0
  generalize rdN q0 = a at *
  obtain ⟨a, qa⟩ := a
  have hb := @rdN_ok qa
  simp only at ha h ⊢
  generalize rdN qa = b at *
  obtain ⟨b, qb⟩ := b
  have hc := @rdN_ok qb
  simp only at hb h ⊢
  generalize rdN qb = c at *
  obtain ⟨c, qc⟩ := c
  simp only at hc h ⊢
  have hr := rdRs_ok (min c 256) (qc.1, qc.2 || decide (256 < c)) [] h
  generalize rdRs (min c 256) (qc.1, qc.2 || decide (256 < c)) [] = r at *
  obtain ⟨l, r⟩ := r
  obtain ⟨h1, m, h2, h3, h4, h5⟩ := hr
  simp only [Bool.or_eq_false_iff, decide_eq_false_iff_not] at h1 h2 h5
  obtain ⟨c1, c2, c3⟩ := hc h1.1
  obtain ⟨b1, b2, b3⟩ := hb c1
  obtain ⟨a1, a2, a3⟩ := ha b1
  have hs := hs a1
  rw [List.nil_append] at h2
  subst h2
  have hmin : min c 256 = c := by omega
  rw [hmin] at h3
  refine ⟨⟨by simp only; omega, by simp only; omega, by simp only; omega, by simp only; omega, h4⟩, by simp only; omega, ?_⟩
  unfold putI
  simp only
  rw [h3, Int.toNat_natCast, Int.toNat_natCast, hs, a3, b3, c3, h5]
  simp only [List.append_assoc]
theorem getI_only {s : ByteArray} (h : (getI s).2 = 0) : okI (getI s).1 = true ∧ (getI s).1.nums ∧ putI (getI s).1 = s.data.toList ∧ getI s = ((rdI s).1, 0) := by
  unfold getI at h ⊢
  by_cases hb : (rdI s).2.2 = true ∨ (rdI s).2.1.size ≠ 0 ∨ okI (rdI s).1 = false
  · rw [if_pos hb] at h; cases h
  · rw [if_neg hb]
    have h1 : (rdI s).2.2 = false := by cases hx : (rdI s).2.2 <;> simp_all
    have h2 : (rdI s).2.1.size = 0 := by
      apply Classical.byContradiction; intro hx; exact hb (.inr (.inl hx))
    have h3 : okI (rdI s).1 = true := by cases hx : okI (rdI s).1 <;> simp_all
    obtain ⟨n1, n2, n3⟩ := rdI_ok h1
    have h4 : (rdI s).2.1.data.toList = [] := List.eq_nil_of_length_eq_zero ((bsz _).trans h2)
    rw [h4, List.append_nil] at n3
    exact ⟨h3, n1, n3.symm, rfl⟩
theorem getI_bad {s : ByteArray} (h : (getI s).2 ≠ 0) : getI s = (zeroI, 3) := by
  unfold getI at h ⊢
  by_cases hb : (rdI s).2.2 = true ∨ (rdI s).2.1.size ≠ 0 ∨ okI (rdI s).1 = false
  · rw [if_pos hb]
  · rw [if_neg hb] at h; exact absurd rfl h
theorem rdN_put (v : Nat) (m : List UInt8) (b : Bool) (hv : v < 18446744073709551616) : ∀ q : ByteArray, q.data.toList = wire_putL v ++ m → (rdN (q, b)).1 = v ∧ (rdN (q, b)).2.1.data.toList = m ∧ (rdN (q, b)).2.2 = b := by
  intro q hq
  have hc := cut_data (q, b) (getL q.data.toList 0 0).2.1
  unfold rdN
  simp only at hc ⊢
  rw [hc, hq, get_put0 v m hv]
  exact ⟨rfl, by simp, by simp⟩
theorem rdT_put (t : ByteArray) (m : List UInt8) (b : Bool) (ht : t.size ≤ 65536) : ∀ q : ByteArray, q.data.toList = wire_putL t.size ++ (t.data.toList ++ m) → (rdT (q, b)).1 = t ∧ (rdT (q, b)).2.1.data.toList = m ∧ (rdT (q, b)).2.2 = b := by
  intro q hq
  have hc := cut_data (q, b) (textV q 65536).2.1.toNat
  have hsz := congrArg List.length hq
  simp only [List.length_append, Array.length_toList] at hsz
  have hsl : t.data.toList.length = t.size := by simp
  have hq2 : q.data.size = q.size := rfl
  have ht2 : t.data.size = t.size := rfl
  have hv : textV q 65536 = (t, ((wire_putL t.size).length : Int) + t.size, 0) := by
    unfold textV
    rw [if_neg (by decide), hq, get_put0 t.size _ (by omega)]
    show (if (0 : Nat) = 0 then (if (65536 : Int) < (t.size : Int) then _ else (if (q.size : Int) - ((wire_putL t.size).length : Nat) < (t.size : Int) then _ else _)) else _) = _
    rw [if_pos rfl, if_neg (by omega), if_neg (by omega)]
    have : q.extract (wire_putL t.size).length ((wire_putL t.size).length + t.size) = t := by
      apply bytes_eq
      rw [Lib.extract_data, hq, List.drop_left, Nat.add_sub_cancel_left, ← hsl, List.take_left]
    rw [this]
  unfold rdT
  simp only at hc ⊢
  rw [hc, hv, hq]
  refine ⟨rfl, ?_, by simp⟩
  show (wire_putL t.size ++ (t.data.toList ++ m)).drop (((wire_putL t.size).length : Int) + (t.size : Int)).toNat = m
  rw [show (((wire_putL t.size).length : Int) + (t.size : Int)).toNat = (wire_putL t.size).length + t.data.toList.length by omega, ← List.drop_drop, List.drop_left, List.drop_left]
structure fitR (r : S57) : Prop where
  a0 : 0 ≤ r.f0
  a1 : r.f0 < 18446744073709551616
  k0 : 0 ≤ r.f1
  k1 : r.f1 ≤ 3
  d : r.f2.size ≤ 65536
theorem rdR_put {r : S57} (hr : fitR r) (m : List UInt8) (q : ByteArray) (hq : q.data.toList = putR r ++ m) : (rdR (q, false)).1 = r ∧ (rdR (q, false)).2.1.data.toList = m ∧ (rdR (q, false)).2.2 = false := by
  have e0 := hr.a0; have e1 := hr.a1; have e2 := hr.k0; have e3 := hr.k1
  obtain ⟨a1, a2, a3⟩ := rdN_put r.f0.toNat (wire_putL (IntKind.u64.wrap r.f1).toNat ++ (wire_putL r.f2.size ++ (r.f2.data.toList ++ m))) false (by omega) q (by rw [hq, putR]; simp only [List.append_assoc])
  have hk : IntKind.u64.wrap r.f1 = r.f1 := u64_self _ (by omega) (by omega)
  rw [hk] at a2
  have ea : (rdN (q, false)).2 = ((rdN (q, false)).2.1, false) := Prod.ext rfl a3
  obtain ⟨k1, k2, k3⟩ := rdN_put r.f1.toNat _ false (by omega) (rdN (q, false)).2.1 a2
  rw [← ea] at k1 k2 k3
  have ek : ((rdN (rdN (q, false)).2).2.1, (rdN (rdN (q, false)).2).2.2 || decide (3 < (rdN (rdN (q, false)).2).1)) = ((rdN (rdN (q, false)).2).2.1, false) := by
    rw [k1, k3, Bool.false_or, decide_eq_false (by omega)]
  obtain ⟨t1, t2, t3⟩ := rdT_put r.f2 m false hr.d (rdN (rdN (q, false)).2).2.1 k2
  unfold rdR
  simp only
  rw [ek, a1, k1, t1]
  refine ⟨?_, t2, t3⟩
  rw [show ((r.f0.toNat : Nat) : Int) = r.f0 by omega, show ((r.f1.toNat : Nat) : Int) = r.f1 by omega, show IntKind.i64.wrap r.f1 = r.f1 from i64_self _ (by omega) (by omega)]
theorem rdRs_put : ∀ (m : List S57) (l : List S57) (x : List UInt8) (q : ByteArray), (∀ r, r ∈ m → fitR r) → q.data.toList = putRs m ++ x → (rdRs m.length (q, false) l).1 = l ++ m ∧ (rdRs m.length (q, false) l).2.1.data.toList = x ∧ (rdRs m.length (q, false) l).2.2 = false
  | [], l, x, q, _, h => ⟨by simp [rdRs], by simpa [rdRs, putRs] using h, rfl⟩
  | r :: m, l, x, q, hf, h => by
    obtain ⟨r1, r2, r3⟩ := rdR_put (hf r (by simp)) (putRs m ++ x) q (by rw [h]; simp [putRs])
    have er : (rdR (q, false)).2 = ((rdR (q, false)).2.1, false) := Prod.ext rfl r3
    have ih := rdRs_put m (l ++ [r]) x _ (fun y hy => hf y (by simp [hy])) r2
    rw [← er] at ih
    rw [List.length_cons]
    unfold rdRs
    rw [if_neg (show ¬ (false = true) by decide), r1]
    refine ⟨?_, ih.2⟩
    rw [ih.1]; simp
theorem rdI_put {x : IMG} (hn : x.nums) (hl : x.l.length ≤ 256) (hf : ∀ r, r ∈ x.l → fitR r) (m : List UInt8) (s : ByteArray) (hs : s.data.toList = putI x ++ m) : (rdI s).1 = x ∧ (rdI s).2.1.data.toList = m ∧ (rdI s).2.2 = false := by
  obtain ⟨e0, e1, s0, s1, _⟩ := hn
  have h0 : rd0 s = (s.extract 6 s.size, false) := by
    unfold rd0
    rw [if_pos]
    rw [hs]
    unfold putI magicL
    rfl
  have d0 : (s.extract 6 s.size).data.toList = wire_putL x.en.toNat ++ (wire_putL x.st.toNat ++ (wire_putL x.l.length ++ (putRs x.l ++ m))) := by
    have := cut_data (s, false) 6
    unfold RD.cut at this
    simp only at this
    rw [this, hs]
    unfold putI magicL
    simp
  obtain ⟨a1, a2, a3⟩ := rdN_put _ _ false (by omega) _ d0
  rw [← h0] at a1 a2 a3
  have ea : (rdN (rd0 s)).2 = ((rdN (rd0 s)).2.1, false) := Prod.ext rfl a3
  obtain ⟨b1, b2, b3⟩ := rdN_put _ _ false (by omega) _ a2
  rw [← ea] at b1 b2 b3
  have eb : (rdN (rdN (rd0 s)).2).2 = ((rdN (rdN (rd0 s)).2).2.1, false) := Prod.ext rfl b3
  obtain ⟨c1, c2, c3⟩ := rdN_put _ _ false (by omega) _ b2
  rw [← eb] at c1 c2 c3
  have ec : ((rdN (rdN (rdN (rd0 s)).2).2).2.1, (rdN (rdN (rdN (rd0 s)).2).2).2.2 || decide (256 < (rdN (rdN (rdN (rd0 s)).2).2).1)) = ((rdN (rdN (rdN (rd0 s)).2).2).2.1, false) := by
    rw [c1, c3, Bool.false_or, decide_eq_false (by omega)]
  have hmin : min x.l.length 256 = x.l.length := by omega
  obtain ⟨r1, r2, r3⟩ := rdRs_put x.l [] m _ hf c2
  unfold rdI
  simp only
  rw [ec, c1, hmin, a1, b1, r1]
  refine ⟨?_, r2, r3⟩
  obtain ⟨en, st, l⟩ := x
  simp only [List.nil_append]
  rw [show ((en.toNat : Nat) : Int) = en by simp only at e0; omega, show ((st.toNat : Nat) : Int) = st by simp only at s0; omega]
theorem okI_fit {x : IMG} (hn : x.nums) (h : okI x = true) : x.l.length ≤ 256 ∧ ∀ r, r ∈ x.l → fitR r := by
  unfold okI at h
  obtain ⟨_, _, _, _, h5, _, h7⟩ := of_decide_eq_true h
  refine ⟨h5, fun r hr => ?_⟩
  have hb : badR r = false := by
    unfold newV at h7
    cases hb : badR r with
    | false => rfl
    | true =>
      rw [if_pos (List.any_eq_true.2 ⟨r, by simp [hr], hb⟩)] at h7
      cases h7
  unfold badR at hb
  simp only [Bool.or_eq_false_iff, decide_eq_false_iff_not] at hb
  obtain ⟨h1, h2⟩ := hn.f r hr
  exact ⟨h1, h2, by omega, by omega, by omega⟩
theorem getI_put {x : IMG} (hn : x.nums) (h : okI x = true) (m : List UInt8) (s : ByteArray) (hs : s.data.toList = putI x ++ m) : getI s = if m = [] then (x, 0) else (zeroI, 3) := by
  obtain ⟨hl, hf⟩ := okI_fit hn h
  obtain ⟨h1, h2, h3⟩ := rdI_put hn hl hf m s hs
  unfold getI
  have hz : (rdI s).2.1.size = m.length := by rw [← h2]; exact (bsz _).symm
  by_cases hm : m = []
  · rw [if_pos hm, if_neg, h1]
    rintro (h4 | h4 | h4)
    · rw [h3] at h4; cases h4
    · exact h4 (by rw [hz, hm]; rfl)
    · rw [h1, h] at h4; cases h4
  · rw [if_neg hm, if_pos]
    exact .inr (.inl (by rw [hz]; intro h4; exact hm (List.eq_nil_of_length_eq_zero h4)))
theorem putI_inj {x y : IMG} (hx : x.nums) (hy : y.nums) (h : okI x = true) (g : okI y = true) (e : putI x = putI y) : x = y := by
  have h1 := getI_put hx h [] ⟨(putI x).toArray⟩ (by simp)
  have h2 := getI_put hy g [] ⟨(putI x).toArray⟩ (by simp [e])
  rw [if_pos rfl] at h1 h2
  exact congrArg Prod.fst (h1.symm.trans h2)
theorem getI_short {x : IMG} (hx : x.nums) (h : okI x = true) (s t : ByteArray) (hs : s.data.toList = putI x) (n : Nat) (hn : n < (putI x).length) (ht : t.data.toList = s.data.toList.take n) : (getI t).2 = 3 := by
  by_cases h0 : (getI t).2 = 0
  · obtain ⟨g1, g2, g3, _⟩ := getI_only h0
    have h1 := getI_put g2 g1 ((putI x).drop n) s (by rw [g3, ht, hs, List.take_append_drop])
    have h2 := getI_put hx h [] s (by rw [hs, List.append_nil])
    rw [if_pos rfl] at h2
    rw [if_neg (by intro hd; have := congrArg List.length hd; simp at this; omega), h2] at h1
    have := congrArg Prod.snd h1
    cases this
  · rw [getI_bad h0]
theorem reg_eq (p q : S57) : (!(p.f0 == q.f0) || (!(p.f1 == q.f1) || (!(p.f2.toList == q.f2.toList)))) = !(decide (p.f0 = q.f0 ∧ p.f1 = q.f1 ∧ p.f2 = q.f2)) := by
  have e : (p.f2.toList == q.f2.toList) = decide (p.f2 = q.f2) := by
    rw [Bool.eq_iff_iff, beq_iff_eq, decide_eq_true_eq, ByteArray.toList_eq, ByteArray.toList_eq]
    exact ⟨fun h => bytes_eq h, fun h => by rw [h]⟩
  rw [e, Bool.eq_iff_iff]
  simp only [Bool.or_eq_true, Bool.not_eq_true', beq_eq_false_iff_ne, decide_eq_false_iff_not]
  by_cases h0 : p.f0 = q.f0 <;> by_cases h1 : p.f1 = q.f1 <;> by_cases h2 : p.f2 = q.f2 <;> simp [h0, h1, h2]
theorem same_loop (x y : List S57) (hl : x.length = y.length) (h300 : x.length ≤ 300) : ∀ (d i k : Nat), i + d = x.length → d + 1 ≤ k → ∃ b, cleatref07_Same.l0 k x y (i : Int) = some b ∧ (b = true ↔ x.drop i = y.drop i)
  | 0, i, k, hi, hk => by
    obtain ⟨k, rfl⟩ : ∃ m, k = m + 1 := ⟨k - 1, by omega⟩
    simp only [cleatref07_Same.l0]
    rw [if_neg (by omega), List.drop_of_length_le (by omega), List.drop_of_length_le (by omega)]
    exact ⟨true, rfl, by simp⟩
  | d + 1, i, k, hi, hk => by
    obtain ⟨k, rfl⟩ : ∃ m, k = m + 1 := ⟨k - 1, by omega⟩
    have hx : i < x.length := by omega
    have hy : i < y.length := by omega
    have rx : rd_T57 x (i : Int) = x[i] := by unfold rd_T57; rw [Int.toNat_natCast]; simp [List.getD, hx]
    have ry : rd_T57 y (i : Int) = y[i] := by unfold rd_T57; rw [Int.toNat_natCast]; simp [List.getD, hy]
    have hw : wrap64 ((i : Int) + 1) = ((i + 1 : Nat) : Int) := by unfold wrap64; omega
    obtain ⟨b, ih, ib⟩ := same_loop x y hl h300 d (i + 1) k (by omega) (by omega)
    simp only [cleatref07_Same.l0]
    rw [if_pos (by omega), if_pos (by omega), if_pos (by omega), rx, ry, reg_eq, hw, ih, List.drop_eq_getElem_cons hx, List.drop_eq_getElem_cons hy]
    by_cases he : x[i].f0 = y[i].f0 ∧ x[i].f1 = y[i].f1 ∧ x[i].f2 = y[i].f2
    · have e : x[i] = y[i] := by
        obtain ⟨a, b, c⟩ := he
        cases hp : x[i]; cases hq : y[i]
        rw [hp, hq] at a b c
        simp only at a b c
        rw [a, b, c]
      rw [decide_eq_true he, if_neg (by decide), e]
      exact ⟨b, rfl, ib.trans (Iff.intro (fun h => by rw [h]) (fun h => (List.cons.inj h).2))⟩
    · have e : x[i] ≠ y[i] := fun h => he (by rw [h]; exact ⟨rfl, rfl, rfl⟩)
      rw [decide_eq_false he, if_pos (by decide)]
      exact ⟨false, rfl, Iff.intro (fun h => by cases h) (fun h => absurd (List.cons.inj h).1 e)⟩
theorem same_f (x y : IMG) (hx : x.l.length ≤ 300) : ∃ b, cleatref27_Same.f 400 x.en x.st x.l y.en y.st y.l = some b ∧ (b = true ↔ x = y) := by
  obtain ⟨en, st, l⟩ := x
  obtain ⟨en2, st2, l2⟩ := y
  simp only at hx
  unfold cleatref27_Same.f cleatref07_Same.f
  simp only
  by_cases h1 : en = en2
  · rw [if_pos h1]
    by_cases h2 : st = st2
    · rw [if_pos h2]
      by_cases h3 : (l.length : Int) = (l2.length : Int)
      · obtain ⟨b, h, hb⟩ := same_loop l l2 (by omega) hx l.length 0 400 (by omega) (by omega)
        rw [if_pos h3]
        rw [show (((0 : Nat) : Int)) = (0 : Int) from rfl] at h
        rw [h, Option.bind_some]
        refine ⟨b, rfl, ?_⟩
        rw [hb, List.drop_zero, List.drop_zero, IMG.mk.injEq]
        exact Iff.intro (fun h => ⟨h1, h2, h⟩) (fun h => h.2.2)
      · rw [if_neg h3, Option.bind_some]
        refine ⟨false, rfl, Iff.intro (fun h => by cases h) (fun h => absurd ?_ h3)⟩
        rw [(IMG.mk.inj h).2.2]
    · rw [if_neg h2]
      exact ⟨false, rfl, Iff.intro (fun h => by cases h) (fun h => absurd (IMG.mk.inj h).2.1 h2)⟩
  · rw [if_neg h1]
    exact ⟨false, rfl, Iff.intro (fun h => by cases h) (fun h => absurd (IMG.mk.inj h).1 h1)⟩
theorem big_loop (en st : Int) (l : List S57) (h30 : l.length ≤ 30) : ∀ (d i k : Nat), i + d = l.length → 2 * d + 3 ≤ k → ∃ b, cleatref27_Big.l0 k (i : Int) en st l = some b
  | 0, i, k, hi, hk => by
    obtain ⟨k, rfl⟩ : ∃ m, k = m + 2 := ⟨k - 2, by omega⟩
    simp only [cleatref27_Big.l0]
    rw [if_neg (by omega)]
    simp only [cleatref27_Big.j1]
    rw [if_neg (by decide), if_neg (by omega)]
    exact ⟨_, rfl⟩
  | d + 1, i, k, hi, hk => by
    obtain ⟨k, rfl⟩ : ∃ m, k = m + 2 := ⟨k - 2, by omega⟩
    obtain ⟨b, ih⟩ := big_loop en st l h30 d (i + 1) k (by omega) (by omega)
    have hw : wrap64 ((i : Int) + 1) = ((i + 1 : Nat) : Int) := by unfold wrap64; omega
    simp only [cleatref27_Big.l0]
    rw [if_pos (by omega)]
    simp only [cleatref27_Big.j1]
    rw [decide_eq_true (show (l.length : Int) ≤ 30 by omega), if_pos rfl, if_pos (by omega), if_pos (by omega), hw, ih]
    (repeat' split) <;> exact ⟨_, rfl⟩
theorem big_f (en st : Int) (l : List S57) : ∃ b, cleatref27_Big.f 100 en st l = some b ∧ (b = false → l.length ≤ 300) := by
  unfold cleatref27_Big.f
  by_cases h30 : l.length ≤ 30
  · obtain ⟨b, h⟩ := big_loop en st l h30 l.length 0 100 (by omega) (by omega)
    exact ⟨b, h, fun _ => by omega⟩
  · simp only [cleatref27_Big.l0]
    by_cases h0 : (0 : Int) < (l.length : Int)
    · rw [if_pos h0]
      simp only [cleatref27_Big.j1]
      rw [decide_eq_false (show ¬ (l.length : Int) ≤ 30 by omega), if_neg (by decide), if_pos (by omega)]
      by_cases h256 : (l.length : Int) ≤ 256
      · rw [if_pos h256]; exact ⟨true, rfl, fun h => by cases h⟩
      · rw [if_neg h256]
        exact ⟨_, rfl, fun h => by have := of_decide_eq_false h; omega⟩
    · omega
end Go.Proofs.YtflojfcioojgbaaGreatDoor.IM
namespace Go.Proofs.YtflojfcioojgbaaGreatDoor.IM
open Go.RowKit Go.Proofs.YtflojfcioojgbaaGreatDoor.P Go.Proofs.YtflojfcioojgbaaGreatDoorW.PrintWords Go.Proofs.YtflojfcioojgbaaGreatDoorW.PrintLast Go.Proofs.YtflojfcioojgbaaGreatDoorW.PrintMore Go.Proofs.YtflojfcioojgbaaGreatDoor.MW Go.Proofs.YtflojfcioojgbaaGreatDoor.ST
set_option linter.unusedVariables false
set_option linter.unusedSimpArgs false
theorem rep_at (w : World) : Calls Tryz.prog 51 #[.string ⟨#[0]⟩, .int .i64 4096] w fun e w' => e = .returned (.string zs) ∧ Below w.heap.size w w' :=
  Tryz.strings_Repeat ⟨#[0]⟩ 4096 w (by decide) (by decide)
theorem nil_some (ad : Addr) (n c : Nat) (w : World) : (binOp .eql 23 (.slice (some ad) n c) (.slice none 0 0)).run Tryz.prog w = .ok (.bool false) w := by kernel_rfl
theorem nil_none (n c : Nat) (w : World) : (binOp .eql 23 (.slice none n c) (.slice none 0 0)).run Tryz.prog w = .ok (.bool true) w := by kernel_rfl
theorem info_reg : (Tryz.prog.info? 57).map (fun i => (i.zero, i.size, i.bytes)) = some (some (.agg #[(.int .u64 0), (.int .i64 0), (.string ⟨#[]⟩)]), 3, 32) := by kernel_rfl
theorem own_empty (w : World) (base : Nat) (hb : base ≤ w.heap.size) : Kd.R k57 57 (w.alloc (.cells #[] 57)) base (fun _ => True) (.slice (some ⟨w.heap.size, 0, none⟩) 0 0) [] :=
  ⟨fun _ _ => trivial, [], ⟨rfl, .inr ⟨w.heap.size, 0, #[], rfl, hb, blk_new w _, Nat.le_refl _, by decide, rfl, rfl⟩⟩, Reps.none _ _⟩
set_option maxHeartbeats 2000000 in
set_option maxRecDepth 100000 in
theorem clone_at (w : World) (A : Option Addr) (c : Nat) (l : List S57) (hC : Kd.C k57 w A l.length l) (hl : l.length ≤ 1000) :
    Calls Tryz.prog 53 #[.slice A l.length c] w fun e w' => ∃ v, e = .returned v ∧ Kd.R k57 57 w' w.heap.size (fun _ => True) v l ∧ Below w.heap.size w w' := by
  have HR0 := aq hC
  have HL := aq hl
  cases A with
  | none =>
    obtain rfl : l = [] := by
      rcases Nat.eq_zero_or_pos l.length with h0 | h0
      · exact List.eq_nil_of_length_eq_zero h0
      · obtain ⟨ad, h, _⟩ := hC.2.2 h0
        cases h
    clear hC hl
    have hn := fun w => nil_none 0 c w
    go_enter Tryz.func53, Tryz.ntmps53
    go_wp2
    go_ret
    exact ⟨_, rfl, Kd.R_nil _ _ _ _ _, Below.refl _ _⟩
  | some ad =>
    clear hC hl
    have hn := fun w => nil_some ad l.length c w
    have HB := aq (Below.refl w.heap.size w)
    go_enter Tryz.func53, Tryz.ntmps53
    go_upto_region 3 with fail
    go_wp2_with ((with_reducible refine gate_builtin (b := .append) (xs := #[.tmp 5, .tmp 6]) rfl ?_); at_builtin; refine Kd.R_append_rows k57 (w0 := w) w.heap.size rfl (.tmp 5) (.tmp 6) 23 57 (.agg #[(.int .u64 0), (.int .i64 0), (.string ⟨#[]⟩)]) 32 rfl Tryz.underlying23 info_reg rfl (by decide) (by omega) (.slice (some ⟨w.heap.size, 0, none⟩) 0 0) ([] : List (S57)) l _ _ _ (fun _ => True) (fun _ => False) rfl rfl (own_empty w _ (Nat.le_refl _)) (Kd.C_alloc HR0.out _) (fun _ _ h => h) (fun _ h => h.elim) (fun _ _ => trivial) (below_alloc HB.out _) (below_size (below_alloc HB.out _)) (by have := HL.out; simp; omega) ?_; intro v1 w3 ho hb hg hat; have HO := aq ho; have HB3 := aq hb; clear ho hb hg hat)
    go_ret
    exact ⟨_, rfl, HO.out, HB3.out⟩
theorem info_reg3 : (Tryz.prog.info? 57).map (·.size) = some 3 := by kernel_rfl
theorem under_reg : Tryz.prog.underlying 57 = some (.struct (match Tryz.prog.underlying 57 with | some (.struct fs) => fs | _ => #[])) := by kernel_rfl
def regA (a k : Int) (s : ByteArray) : Array Value := #[.int .u64 a, .int .i64 k, .string s]
theorem reg_one (a k : Int) (s : ByteArray) : (regA a k s).all (·.oneCell') = true := by simp [regA, Value.oneCell']
theorem new_reg (W : World) (a k : Int) (s : ByteArray) : Sem.run Tryz.prog (Instr.storeAt 57 (.pointer (some ⟨W.heap.size, 0, none⟩)) (.agg #[.int .u64 a, .int .i64 k, .string s])) (W.alloc (.cells #[.int .u64 0, .int .i64 0, .string ⟨#[]⟩] 57)) = .ok () (W.alloc (.cells (regA a k s) 57)) := run_storeAt_new W 57 _ _ info_reg3 rfl (reg_one a k s)
theorem box_reg {w : World} {H : Nat} {cs : Array Value} (h : w.heap[H]? = some (.cells cs 57 (0, 0))) (h3 : cs.size = 3) (a k : Int) (s : ByteArray) : Sem.run Tryz.prog (Instr.storeAt 57 (.pointer (some ⟨H, 0, none⟩)) (.agg #[.int .u64 a, .int .i64 k, .string s])) w = .ok () (w.setCells H 0 (regA a k s).toList) := run_storeAt_mid w H 0 57 (regA a k s) (there_blk h 0 3 (by show 0 + 3 ≤ cs.size; omega)) info_reg3 (reg_one a k s)
def memR.T : Bool × List (List Nat × List Nat) := (true, [([], []), ([0], [0]), ([1], [1]), ([], []), ([3], [3]), ([2, 4, 2], [2, 4]), ([5, 5], [5]), ([6], [6]), ([6], [6]), ([7, 6, 0, 1, 2, 3, 4, 5, 6, 7, 8], [7]), ([8, 9, 0, 1, 2, 3, 4, 5, 6, 7, 8, 9], [8])])
def memR.B : List Nat := [0, 1, 3, 0, 8, 31, 63, 127, 127, 511, 1023]
theorem memR.tab : rtab .any (opsOf Tryz.f32 2) = memR.T := by kernel_rfl
theorem memR.bits : waitsOk memR.T.2 memR.B = true := by kernel_rfl
theorem ld_segs (b j : Nat) (A : Option Addr) (n c : Nat) (w : World) (h : w.cell? ⟨b, j, none⟩ = some (.slice A n c)) : Sem.run Tryz.prog (Instr.loadAt 23 (.pointer (some ⟨b, j, none⟩))) w = .ok (.slice A n c) w := by go_simp
theorem img_cell {w : World} {g : Nat} {a b d : Value} {t : TypeId} (h : w.heap[g]? = some (.cells #[a, b, d] t (0, 0))) : w.cell? ⟨g, 1, none⟩ = some b := (blk_cell h 1).trans rfl
theorem one_C (w : World) (st : Int) : Kd.C k57 (w.alloc (.cells (regA st 3 zs) 57)) (some ⟨w.heap.size, 0, none⟩) 1 [stk st] := by
  refine ⟨rfl, by decide, fun _ => ⟨_, rfl, ?_⟩⟩
  intro j p hj
  cases j with
  | zero =>
    have e : p = stk st := by simpa using hj.symm
    subst e
    refine ⟨[.int .u64 st, .int .i64 3, .string zs], rfl, k57_mk _ _, fun i u hu => ?_⟩
    have h := blk_cell (blk_new w (.cells (regA st 3 zs) 57)) i
    have e : (⟨w.heap.size, 0, none⟩ : Addr).add (0 * k57.sz + i) = ⟨w.heap.size, i, none⟩ := by
      rw [Nat.zero_mul, Nat.zero_add]
      simp only [Addr.add]
      split <;> simp_all
    rw [e, h]
    simpa [regA] using hu
  | succ j => simp at hj
theorem new_both (w : World) (A0 : Option Addr) (c0 : Nat) (l : List S57) (hr0 : Kd.C k57 w A0 l.length l) (hc0 : l.length ≤ c0) (hl : l.length ≤ 1000) (hw : ∀ r, r ∈ l → 0 ≤ r.f0 ∧ r.f0 < 18446744073709551616) :
    Calls Tryz.prog 52 #[.slice A0 l.length c0] w fun e w' => Below w.heap.size w w' ∧ ∃ (p : Value) (n : Int), e = .returned (.tuple #[p, .int .i64 n]) ∧
      ((newV l ≠ 0 ∧ p = .pointer none ∧ n = newV l) ∨ (newV l = 0 ∧ p = .pointer (some ⟨w.heap.size, 0, none⟩) ∧ n = 0 ∧ MemOk w' w.heap.size w.heap.size w'.heap.size (memL l))) := by
  obtain ⟨h1, h2⟩ := new_at w A0 c0 l hr0 hc0 hl hw
  by_cases h : newV l = 0
  · refine (h2 h).mono ?_
    rintro e w' ⟨rfl, hb, hm⟩
    exact ⟨hb, _, _, rfl, .inr ⟨h, rfl, rfl, hm⟩⟩
  · refine (h1 h).mono ?_
    rintro e w' ⟨rfl, hb⟩
    exact ⟨hb, _, _, rfl, .inl ⟨h, rfl, rfl⟩⟩
attribute [-go_sem] Instr.storeAt in
set_option maxHeartbeats 2000000 in
set_option maxRecDepth 100000 in
theorem memory_at (w : World) (en st : Int) (A : Option Addr) (c : Nat) (l : List S57) (hC : Kd.C k57 w A l.length l) (hc : l.length ≤ c) (hl : l.length ≤ 300) (hg : ∀ r, r ∈ l → 0 ≤ r.f0 ∧ r.f0 < 18446744073709551616) (h0 : 0 ≤ st) (h1 : st < 18446744073709551616) :
    Calls Tryz.prog 32 #[.agg #[.int .u64 en, .int .u64 st, .slice A l.length c]] w fun e w' => Below w.heap.size w w' ∧
      ((newV (l ++ [stk st]) ≠ 0 ∧ e = .returned (.tuple #[.pointer none, .int .i64 (newV (l ++ [stk st]))])) ∨ (newV (l ++ [stk st]) = 0 ∧ ∃ M, w.heap.size ≤ M ∧ e = .returned (.tuple #[.pointer (some ⟨M, 0, none⟩), .int .i64 0]) ∧ MemOk w' M M w'.heap.size (memL (l ++ [stk st])))) := by
  have HR0 := aq (Kd.C_alloc hC (.cells #[.int .u64 en, .int .u64 st, .slice A l.length c] 25))
  have HK0 := aq (blk_new w (.cells #[.int .u64 en, .int .u64 st, .slice A l.length c] 25))
  have HB0 := aq (below_alloc (Below.refl w.heap.size w) (.cells #[.int .u64 en, .int .u64 st, .slice A l.length c] 25))
  have HL := aq hl
  have hgs : ∀ r, r ∈ l ++ [stk st] → 0 ≤ r.f0 ∧ r.f0 < 18446744073709551616 := by
    intro r hr
    rcases List.mem_append.1 hr with hr | hr
    · exact hg r hr
    · obtain rfl : r = stk st := by simpa using hr
      exact ⟨h0, h1⟩
  have HG := aq hgs
  clear hC hl hg hgs
  go_enter Tryz.func32, Tryz.ntmps32
  go_upto_region 1 with fail
  generalize w.alloc (.cells #[.int .u64 en, .int .u64 st, .slice A l.length c] 25) = w0 at *
  go_cut [4] (fun s4 wx => ∃ H : Nat, s4 = .pointer (some ⟨H, 0, none⟩) ∧ wx.heap[H]? = some (.cells #[.int .u64 st, .int .i64 3, .string zs] 57 (0, 0)) ∧ Below w0.heap.size w0 wx)
  case first =>
    have HK := HK0
    have HNE := aq (Nat.ne_of_lt (blk_lt HK0.out))
    have hst := fun W => new_reg W st 3 zs
    have HB := aq (Below.refl w0.heap.size w0)
    go_region_held3 (fun w' => w'.cell? ⟨w.heap.size, 1, none⟩ = some (.int .u64 st)) (with_reducible first | exact img_cell HK.out | exact img_cell (blk_drew HK.out) | exact img_cell (blk_alloc HK.out _) | exact img_cell (blk_alloc (blk_drew HK.out) _) | exact img_cell (blk_drew (blk_alloc HK.out _)) | exact img_cell (blk_sets_far _ 0 HNE.out HK.out)) ((go_at_call 51; refine (rep_at _).mono ?_; rintro e w1 ⟨rfl, hb⟩; (first | (have HZ := aq (blk_below (blk_new _ (.cells #[.int .u64 0, .int .i64 0, .string ⟨#[]⟩] 57)) hb); have hst2 := box_reg HZ.out rfl st 3 zs) | (have HZ := aq (blk_below (blk_drew (blk_new w0 (.cells #[.int .u64 0, .int .i64 0, .string ⟨#[]⟩] 57))) hb); have hst2 := box_reg HZ.out rfl st 3 zs) | skip); have HK := aq (blk_below (by first | exact HK.out | exact blk_alloc HK.out _ | exact blk_drew HK.out | exact blk_alloc (blk_drew HK.out) _ | exact blk_drew (blk_alloc HK.out _)) hb); have HB := aq (below_step (show Below w0.heap.size w0 _ from by repeat (first | exact Below.refl _ _ | apply below_drew1 | apply below_alloc)) hb); clear hb))
    all_goals
      go_wp2_with fail
      go_meet
      first
      | exact ⟨_, rfl, blk_new _ _, below_alloc HB.out _⟩
      | exact ⟨_, rfl, blk_sets (regA st 3 zs).toList 0 HZ.out, below_sets (Nat.le_refl _) _ 0 HB.out⟩
  case rest =>
    obtain ⟨H, rfl, hH, hb⟩ := hcut
    have HB1 := aq (below_step HB0.out hb)
    have HK1 := aq (blk_below HK0.out hb)
    have HR1 := aq (Kd.C_below HR0.out hb)
    have HH1 := aq hH
    clear hb hH HB0 HK0 HR0
    go_upto_region 2 with fail
    refine start_ (n := 11) (S := (fun w' => w'.cell? ⟨w.heap.size, 2, none⟩ = some (.slice A l.length c) ∧ w'.heap[H]? = some (.cells (regA st 3 zs) 57 (0, 0)) ∧ Kd.C k57 w' A l.length l ∧ Below w.heap.size w w')) (ds := [5, 6]) #[false, false, false, false, false, false, false, false, false, false, false] (by kernel_rfl) rfl rfl ⟨(blk_cell (blk_drew HK1.out) 2).trans rfl, blk_drew HH1.out, Kd.C_drew HR1.out, below_drew1 HB1.out⟩ (fun hHeld => ?_); refine with_tabW memR.tab memR.bits (fun HT_ HW_ => ?_)
    refine pu_ (i := 0) (N := some 9) (v := _) (any_of HT_.out (by kernel_rfl)) rfl rfl (by rfl) (fun _ _ _ h => h) (fun w' => by go_simp; with_reducible rfl) ?_; simp only [Act.put, List.setIfInBounds_toArray, List.set_cons_zero, List.set_cons_succ]
    refine tk_ (i := 1) (N := 10) (t := 23) (p := .tmp 9) (v := .slice A l.length c) (take_ofW HT_.out HW_.out (by kernel_rfl)) rfl (fun _ _ _ h => h) hHeld ?_ ?_; · exact fun w' h' => ld_segs _ 2 _ _ _ w' h'.1
    simp only [Act.put, List.setIfInBounds_toArray, List.set_cons_zero, List.set_cons_succ]
    refine tk_ (i := 3) (N := 12) (t := 57) (p := .tmp 4) (v := .agg (regA st 3 zs)) (take_ofW HT_.out HW_.out (by kernel_rfl)) rfl (fun _ _ _ h => h) hHeld ?_ ?_; · exact fun w' h' => run_loadAt_mid w' H 0 57 (regA st 3 zs).toList _ (range_blk h'.2.1 0 _ fun j v hj => by rw [Nat.zero_add]; simpa using hj) under_reg rfl info_reg3
    simp only [Act.put, List.setIfInBounds_toArray, List.set_cons_zero, List.set_cons_succ]
    refine join_ (σ := Value × Nat) 6 #[true, true, true, true, true, false, false, false, false, false, false] (fun s_ => [(11, s_.1), (13, .slice (some ⟨s_.2, 0, none⟩) 1 1)]) (fun s_ w' => Kd.R k57 57 w' w.heap.size (fun _ => True) s_.1 l ∧ Kd.C k57 w' (some ⟨s_.2, 0, none⟩) 1 [stk st] ∧ Below w.heap.size w w') ?_ ?_
    rotate_left
    · intro hCont
      refine two_ (i := 2) (j := 4) (Ni := some 11) (Nj := some 13) #[true, true, true, true, false, false, false, false, false, false, false] #[true, true, false, true, true, false, false, false, false, false, false] rfl rfl rfl rfl (two_of HT_.out (by kernel_rfl)) (by decide) (by decide) (fun K hK => ?_) (fun K hK => ?_)
      · refine call_ 53 #[.slice A l.length c] (by rfl) rfl (by unfold execOp; go_simp) ((clone_at _ A c l hHeld.2.2.1 (by have := HL.out; omega)).mono ?_)
        rintro e w2 ⟨v2, rfl, hr, hb⟩
        refine ⟨_, rfl, ?_⟩
        have hr2 := Kd.R_lower (base' := w.heap.size) hr hHeld.2.2.2.size
        refine hK.out _ _ ⟨pw_cell_below hb hHeld.1, blk_below hHeld.2.1 hb, Kd.C_below hHeld.2.2.1 hb, below_step hHeld.2.2.2 hb⟩ (fun hHeld => ?_)
        clear hK K
        simp only [Act.put, List.setIfInBounds_toArray, List.set_cons_zero, List.set_cons_succ]
        refine one_ (i := 4) (N := some 13) #[true, true, true, true, true, false, false, false, false, false, false] rfl rfl (one_of HT_.out (by kernel_rfl)) (by decide) (fun K hK => ?_)
        rw [if_pos (by rfl)]
        unfold Oper.wp
        go_simp
        refine hK.out _ _ ⟨pw_cell_below (below_alloc (Below.refl _ _) _) hHeld.1, blk_alloc hHeld.2.1 _, Kd.C_alloc hHeld.2.2.1 _, below_alloc hHeld.2.2.2 _⟩ (fun hHeld2 => ?_)
        clear hK K
        exact hCont (v2, w2.heap.size) _ ⟨Kd.R_alloc hr2 _, one_C w2 st, below_alloc hHeld.2.2.2 _⟩
      · rw [if_pos (by rfl)]
        unfold Oper.wp
        go_simp
        refine hK.out _ _ ⟨pw_cell_below (below_alloc (Below.refl _ _) _) hHeld.1, blk_alloc hHeld.2.1 _, Kd.C_alloc hHeld.2.2.1 _, below_alloc hHeld.2.2.2 _⟩ (fun hHeld2 => ?_)
        clear hK K
        simp only [Act.put, List.setIfInBounds_toArray, List.set_cons_zero, List.set_cons_succ]
        refine one_ (i := 2) (N := some 11) #[true, true, true, true, true, false, false, false, false, false, false] rfl rfl (one_of HT_.out (by kernel_rfl)) (by decide) (fun K hK => ?_)
        refine call_ 53 #[.slice A l.length c] (by rfl) rfl (by unfold execOp; go_simp) ((clone_at _ A c l hHeld2.2.2.1 (by have := HL.out; omega)).mono ?_)
        rintro e w2 ⟨v2, rfl, hr, hb⟩
        refine ⟨_, rfl, ?_⟩
        have hr2 := Kd.R_lower (base' := w.heap.size) hr hHeld2.2.2.2.size
        refine hK.out _ _ ⟨pw_cell_below hb hHeld2.1, blk_below hHeld2.2.1 hb, Kd.C_below hHeld2.2.2.1 hb, below_step hHeld2.2.2.2 hb⟩ (fun hHeld3 => ?_)
        clear hK K
        exact hCont (v2, _) _ ⟨hr2, Kd.C_below (one_C _ st) hb, below_step hHeld2.2.2.2 hb⟩
    rintro ⟨v2, g⟩ w2 ⟨hR, hC2, hB⟩
    simp only [putAll, Act.put, List.setIfInBounds_toArray, List.set_cons_zero, List.set_cons_succ]
    refine last_ (i := 5) (N := some 14) #[true, true, true, true, true, true, false, false, false, false, false] rfl rfl (one_of HT_.out (by kernel_rfl)) (by decide) (fun K hK => ?_)
    refine Kd.R_append_rows_step k57 (w0 := w) w.heap.size (by rfl) (.tmp 11) (.tmp 13) 23 57 (.agg #[(.int .u64 0), (.int .i64 0), (.string ⟨#[]⟩)]) 32 rfl Tryz.underlying23 info_reg rfl (by decide) (by omega) v2 l [stk st] (some ⟨g, 0, none⟩) 1 1 (fun _ => True) (fun _ => False) rfl rfl hR hC2 (fun _ _ h => h) (fun _ h => h.elim) (fun _ _ => trivial) hB (below_size hB) ?aL ?_
    case aL => have := HL.out; omega
    intro v3 w3 ho hb hg hat
    obtain ⟨A3, c3, rfl, hc3, hC3⟩ := Kd.R_reads ho
    have HN := aq (new_both w3 A3 c3 (l ++ [stk st]) hC3 hc3 (by have := HL.out; simp; omega) HG.out)
    have HB3 := aq hb
    refine hK.out _ _ ?_
    clear hK K hb hg hat hC3 hc3 ho hR hC2 hB
    refine norm_ (a' := ?_) ?_ ?_
    rotate_left
    · show Act.put _ (some 14) _ = _
      simp only [Act.put, List.setIfInBounds_toArray, List.set_cons_zero, List.set_cons_succ]
      rfl
    generalize (l ++ [stk st]).length = n3 at *
    refine last_ (i := 6) (N := some 15) #[true, true, true, true, true, true, true, false, false, false, false] rfl rfl (one_of HT_.out (by kernel_rfl)) (by decide) (fun K hK => ?_)
    refine call_ 52 #[.slice A3 n3 c3] (by rfl) rfl (by unfold execOp; go_simp) (HN.out.mono ?_)
    rintro e w4 ⟨hb, p4, n4, rfl, hP⟩
    have HP := aq hP
    have HB4 := aq (below_step HB3.out hb)
    have HW3 := aq HB3.out.size
    refine ⟨_, rfl, ?_⟩
    refine hK.out _ _ ?_
    clear hK K hb hP HN
    simp only [Act.put, List.setIfInBounds_toArray, List.set_cons_zero, List.set_cons_succ]
    refine pu_ (i := 7) (N := some 16) (v := _) (any_of HT_.out (by kernel_rfl)) rfl rfl (by rfl) (fun _ _ _ h => h) (fun w' => by go_simp; with_reducible rfl) ?_; simp only [Act.put, List.setIfInBounds_toArray, List.set_cons_zero, List.set_cons_succ]
    refine pu_ (i := 8) (N := some 17) (v := _) (any_of HT_.out (by kernel_rfl)) rfl rfl (by rfl) (fun _ _ _ h => h) (fun w' => by go_simp; with_reducible rfl) ?_; simp only [Act.put, List.setIfInBounds_toArray, List.set_cons_zero, List.set_cons_succ]
    refine pu_ (i := 9) (N := some 2) (v := _) (any_of HT_.out (by kernel_rfl)) rfl rfl (by rfl) (fun _ _ _ h => h) (fun w' => by go_simp; with_reducible rfl) ?_; simp only [Act.put, List.setIfInBounds_toArray, List.set_cons_zero, List.set_cons_succ]
    refine pu_ (i := 10) (N := some 3) (v := _) (any_of HT_.out (by kernel_rfl)) rfl rfl (by rfl) (fun _ _ _ h => h) (fun w' => by go_simp; with_reducible rfl) ?_; simp only [Act.put, List.setIfInBounds_toArray, List.set_cons_zero, List.set_cons_succ]
    refine done_ (done_of HT_.out (by kernel_rfl)) ?_
    go_wp2
    go_ret2
    refine ⟨HB4.out, ?_⟩
    rcases HP.out with ⟨h1, rfl, rfl⟩ | ⟨h1, rfl, rfl, hm⟩
    · exact .inl ⟨h1, rfl⟩
    · exact .inr ⟨h1, _, HW3.out, rfl, hm⟩
end Go.Proofs.YtflojfcioojgbaaGreatDoor.IM
namespace Go.Proofs.YtflojfcioojgbaaGreatDoor.IM
open Go.RowKit Go.Proofs.YtflojfcioojgbaaGreatDoor.P Go.Proofs.YtflojfcioojgbaaGreatDoorW.PrintWords Go.Proofs.YtflojfcioojgbaaGreatDoorW.PrintLast Go.Proofs.YtflojfcioojgbaaGreatDoorW.PrintMore Go.Proofs.YtflojfcioojgbaaGreatDoor.MW Go.Proofs.YtflojfcioojgbaaGreatDoor.M
set_option linter.unusedVariables false
set_option linter.unusedSimpArgs false
theorem asc_get : ∀ (L : List S57), ascI L = true → ∀ (i : Nat) p q, L[i]? = some p → L[i + 1]? = some q → p.f0 < q.f0
  | [], _, i, p, q, h1, _ => by simp at h1
  | [x], _, i, p, q, h1, h2 => by simp at h2
  | x :: y :: r, h, i, p, q, h1, h2 => by
    unfold ascI at h
    simp only [Bool.and_eq_true, decide_eq_true_eq] at h
    cases i with
    | zero => simp at h1 h2; subst h1 h2; exact h.1
    | succ i => exact asc_get (y :: r) h.2 i p q (by simpa using h1) (by simpa using h2)
theorem asc_not : ∀ (L : List S57), ascI L = false → ∃ (t : Nat) (p q : S57), L[t]? = some p ∧ L[t + 1]? = some q ∧ ¬ p.f0 < q.f0 ∧ ∀ (i : Nat) x y, i < t → L[i]? = some x → L[i + 1]? = some y → x.f0 < y.f0
  | [], h => by cases h
  | [x], h => by cases h
  | x :: y :: r, h => by
    unfold ascI at h
    by_cases hd : x.f0 < y.f0
    · rw [decide_eq_true hd, Bool.true_and] at h
      obtain ⟨t, p, q, h1, h2, h3, h4⟩ := asc_not (y :: r) h
      refine ⟨t + 1, p, q, by simpa using h1, by simpa using h2, h3, fun i a b hi ha hb => ?_⟩
      cases i with
      | zero => simp at ha hb; subst ha hb; exact hd
      | succ i => exact h4 i a b (by omega) (by simpa using ha) (by simpa using hb)
    · exact ⟨0, x, y, rfl, rfl, hd, fun i a b hi => by omega⟩
theorem okI_off {x : IMG} (h : ¬ (x.en % 4 = 0 ∧ x.st % 4096 = 0 ∧ x.en ≤ 4611686018427387904 ∧ x.st ≤ 4611686018427387904 ∧ x.l.length ≤ 256 ∧ ascI x.l = true ∧ newV (x.l ++ [stk x.st]) = 0)) : okI x = false := decide_eq_false h
set_option maxRecDepth 100000 in
theorem is_off (w : World) (en st : Int) (A : Option Addr) (c : Nat) (l : List S57) (e0 : 0 ≤ en) (h0 : 0 ≤ st) (hl : l.length ≤ 300) (h : ¬ (en % 4 = 0 ∧ st % 4096 = 0 ∧ en ≤ 4611686018427387904 ∧ st ≤ 4611686018427387904 ∧ l.length ≤ 256)) :
    Calls Tryz.prog 12 #[.agg #[.int .u64 en, .int .u64 st, .slice A l.length c]] w fun e w' => e = .returned (.bool false) ∧ Below w.heap.size w w' := by
  generalize l.length = n at *
  by_cases d1 : en % 4 = 0
  · by_cases d2 : st % 4096 = 0
    · by_cases d3 : max en st > 4611686018427387904
      · go_enter Tryz.func12, Tryz.ntmps12
        go_wp2
        go_ret
        exact ⟨rfl, below_alloc (Below.refl _ _) _⟩
      · have d4 : (n : Int) > 256 := by omega
        go_enter Tryz.func12, Tryz.ntmps12
        go_wp2
        go_ret
        exact ⟨rfl, below_alloc (Below.refl _ _) _⟩
    · go_enter Tryz.func12, Tryz.ntmps12
      go_wp2
      go_ret
      exact ⟨rfl, below_alloc (Below.refl _ _) _⟩
  · go_enter Tryz.func12, Tryz.ntmps12
    go_wp2
    go_ret
    exact ⟨rfl, below_alloc (Below.refl _ _) _⟩
set_option maxHeartbeats 2000000 in
set_option maxRecDepth 100000 in
theorem is_at (w : World) (en st : Int) (A : Option Addr) (c : Nat) (l : List S57) (hC : Kd.C k57 w A l.length l) (hc : l.length ≤ c) (hl : l.length ≤ 300) (hn : IMG.nums ⟨en, st, l⟩) :
    Calls Tryz.prog 12 #[.agg #[.int .u64 en, .int .u64 st, .slice A l.length c]] w fun e w' => e = .returned (.bool (okI ⟨en, st, l⟩)) ∧ Below w.heap.size w w' := by
  by_cases h : en % 4 = 0 ∧ st % 4096 = 0 ∧ en ≤ 4611686018427387904 ∧ st ≤ 4611686018427387904 ∧ l.length ≤ 256
  · obtain ⟨d1, d2, d3, d4, d5⟩ := h
    have e0 : 0 ≤ en := hn.e0
    have s0 : 0 ≤ st := hn.s0
    have dm : decide (max en st > 4611686018427387904) = false := decide_eq_false (by omega)
    have dn : decide ((l.length : Int) > 256) = false := decide_eq_false (by omega)
    have hM := fun (W : World) (hb : Below w.heap.size w W) => show Calls Tryz.prog 32 #[.agg #[.int .u64 en, .int .u64 st, .slice A l.length c]] W fun e w' => Below W.heap.size W w' ∧ ∃ (p : Value) (n : Int), e = .returned (.tuple #[p, .int .i64 n]) ∧ n = newV (l ++ [stk st]) from by
      refine (memory_at W en st A c l (Kd.C_below hC hb) hc hl hn.f hn.s0 hn.s1).mono ?_
      rintro e w' ⟨hb, ⟨h1, rfl⟩ | ⟨h1, M, h2, rfl, hm⟩⟩
      · exact ⟨hb, _, _, rfl, rfl⟩
      · exact ⟨hb, _, _, rfl, h1.symm⟩
    have x2 : (w.alloc (.cells #[.int .u64 en, .int .u64 st, .slice A l.length c] 25)).cell? ⟨w.heap.size, 2, none⟩ = some (.slice A l.length c) := (blk_cell (blk_new w _) 2).trans rfl
    have HC := aq hC
    have HM := aq hM
    have HF := aq hn.f
    have HD := aq (And.intro d1 (And.intro d2 (And.intro d3 (And.intro d4 d5))))
    have HX := aq (blk_new w (.cells #[.int .u64 en, .int .u64 st, .slice A l.length c] 25))
    have HB0 := aq (below_alloc (Below.refl w.heap.size w) (.cells #[.int .u64 en, .int .u64 st, .slice A l.length c] 25))
    have HS0 : (w.alloc (.cells #[.int .u64 en, .int .u64 st, .slice A l.length c] 25)).heap.size = w.heap.size + 1 := by simp
    have HS := aq HS0
    clear hC hM hn d3 d4 HS0
    generalize hn : l.length = n at *
    have HN := aq hn
    clear hn
    cases ha : ascI l with
    | true =>
      have HA := aq ha
      have HOK := aq (asc_get l ha)
      clear ha
      go_enter Tryz.func12, Tryz.ntmps12
      go_upto_region 3 with fail
      generalize w.alloc (.cells #[.int .u64 en, .int .u64 st, .slice A n c] 25) = w1 at *
      go_wp2
      go_loopg [33] n (fun kq v33 wx => ∃ i : Nat, v33 = .int .i64 (i : Int) ∧ i + kq = n ∧ Aside0 (Below w1.heap.size w1 wx))
      case atStart => exact ⟨0, rfl, by omega, ⟨Below.refl _ _⟩⟩
      case round =>
        obtain ⟨i, rfl, hik, HBx⟩ := hrel
        cases gk with
        | zero =>
          have hin : ¬ (i < n) := by omega
          clear hik
          have x2 : wr.cell? ⟨w.heap.size, 2, none⟩ = some (.slice A n c) := pw_cell_below HBx.out x2
          have x0 : wr.cell? ⟨w.heap.size, 0, none⟩ = some (.int .u64 en) := (blk_cell (blk_below HX.out HBx.out) 0).trans rfl
          have x1 : wr.cell? ⟨w.heap.size, 1, none⟩ = some (.int .u64 st) := (blk_cell (blk_below HX.out HBx.out) 1).trans rfl
          go_wp2_with (go_at_call 32; refine (HM.out _ (below_step HB0.out HBx.out)).mono ?_; rintro e w2 ⟨hb, p2, n2, rfl, hn2⟩; have HB2 := aq (below_step (below_step HB0.out HBx.out) hb); have HN2 := aq hn2; clear hb hn2)
          go_ret
          refine ⟨?_, HB2.out⟩
          have hk : okI ⟨en, st, l⟩ = (n2 == 0) := by
            unfold okI
            rw [Bool.eq_iff_iff, decide_eq_true_eq, beq_iff_eq, HN2.out]
            obtain ⟨g1, g2, g3, g4, g5⟩ := HD.out
            exact ⟨fun h => h.2.2.2.2.2.2, fun h => ⟨g1, g2, g3, g4, by have := HN.out; simp only; omega, HA.out, h⟩⟩
          rw [hk]
          rfl
        | succ kq =>
          have hin : i < n := by omega
          have x2 : wr.cell? ⟨w.heap.size, 2, none⟩ = some (.slice A n c) := pw_cell_below HBx.out x2
          have HIK := aq hik
          clear hik
          cases i with
          | zero =>
            have b0 : decide ((((0 : Nat) : Int)) > 0) = false := rfl
            have b0' : decide ((0 : Int) > 0) = false := rfl
            go_wp2
            go_quiet (fail)
            go_wp2
            go_roundg kq
            case measure => omega
            case rel => exact ⟨1, rfl, by have := HIK.out; omega, ⟨pw_below_drewN HBx.out _⟩⟩
          | succ j =>
            obtain ⟨p, q, hp, hq⟩ : ∃ p q, l[j]? = some p ∧ l[j + 1]? = some q := by
              have h2 : j + 1 < l.length := by have := HN.out; omega
              exact ⟨l[j], l[j + 1], by rw [List.getElem?_eq_getElem (by omega)], by rw [List.getElem?_eq_getElem h2]⟩
            have hCx := Kd.C_below HC.out (below_step HB0.out HBx.out)
            obtain ⟨ad, hA0, q0, -, -⟩ := at_T57 hCx ((j + 1 : Nat) : Int) (by omega) (by have := HN.out; omega)
            obtain ⟨ad2, hA2, p0, -, -⟩ := at_T57 hCx (j : Int) (by omega) (by have := HN.out; omega)
            subst hA0
            cases hA2
            have rq : rd_T57 l ((j + 1 : Nat) : Int) = q := by unfold rd_T57; rw [Int.toNat_natCast]; simp [List.getD, hq]
            have rp : rd_T57 l (j : Int) = p := by unfold rd_T57; rw [Int.toNat_natCast]; simp [List.getD, hp]
            rw [rq, Int.toNat_natCast] at q0
            rw [rp, Int.toNat_natCast] at p0
            have b0 : decide ((((j + 1 : Nat) : Int)) > 0) = true := decide_eq_true (by omega)
            have hz : j < 300 := by omega
            have s1 : IntKind.i64.wrap (((j + 1 : Nat) : Int) - 1) = (j : Int) := by rw [IntKind.wrap_i64]; omega
            have s2 : IntKind.i64.wrap ((j : Int) + 1 - 1) = (j : Int) := by rw [IntKind.wrap_i64]; omega
            have s3 : ((j : Int) + 1).toNat = j + 1 := by omega
            have hok := HOK.out j p q hp hq
            have b1 : decide (q.f0 ≤ p.f0) = false := decide_eq_false (by omega)
            clear hCx hp hq rq rp
            go_wp2
            go_quiet (fail)
            go_wp2
            go_roundg kq
            case measure => omega
            case rel => exact ⟨j + 2, rfl, by have := HIK.out; omega, ⟨pw_below_drewN HBx.out _⟩⟩
    | false =>
      have HA := aq ha
      obtain ⟨t2, y0, y1, g1, g2, g3, g4⟩ := asc_not l ha
      have HOK := aq (fun (j : Nat) p q (hj : j + 1 < t2 + 1) => g4 j p q (by omega))
      have H1 := aq g1
      have H2 := aq g2
      have H3 := aq g3
      have ht2 : t2 + 1 < n := by have := (List.getElem?_eq_some_iff.1 g2).1; have := HN.out; omega
      clear ha g1 g2 g3 g4
      go_enter Tryz.func12, Tryz.ntmps12
      go_upto_region 3 with fail
      generalize w.alloc (.cells #[.int .u64 en, .int .u64 st, .slice A n c] 25) = w1 at *
      go_wp2
      go_loopg [33] (t2 + 1) (fun kq v33 wx => ∃ i : Nat, v33 = .int .i64 (i : Int) ∧ i + kq = t2 + 1 ∧ Aside0 (Below w1.heap.size w1 wx))
      case atStart => exact ⟨0, rfl, by omega, ⟨Below.refl _ _⟩⟩
      case round =>
        obtain ⟨i, rfl, hik, HBx⟩ := hrel
        have x2 : wr.cell? ⟨w.heap.size, 2, none⟩ = some (.slice A n c) := pw_cell_below HBx.out x2
        have hin : i < n := by omega
        have HIK := aq hik
        cases i with
        | zero =>
          cases gk with
          | zero => exact absurd hik (by omega)
          | succ kq =>
            clear hik
            have b0 : decide ((((0 : Nat) : Int)) > 0) = false := rfl
            have b0' : decide ((0 : Int) > 0) = false := rfl
            go_wp2
            go_quiet (fail)
            go_wp2
            go_roundg kq
            case measure => omega
            case rel => exact ⟨1, rfl, by have := HIK.out; omega, ⟨pw_below_drewN HBx.out _⟩⟩
        | succ j =>
          clear hik
          cases gk with
          | zero =>
            obtain ⟨p, q, hp, hq⟩ : ∃ p q, l[j]? = some p ∧ l[j + 1]? = some q := by
              have h2 : j + 1 < l.length := by have := HN.out; omega
              exact ⟨l[j], l[j + 1], by rw [List.getElem?_eq_getElem (by omega)], by rw [List.getElem?_eq_getElem h2]⟩
            have hCx := Kd.C_below HC.out (below_step HB0.out HBx.out)
            obtain ⟨ad, hA0, q0, -, -⟩ := at_T57 hCx ((j + 1 : Nat) : Int) (by omega) (by have := HN.out; omega)
            obtain ⟨ad2, hA2, p0, -, -⟩ := at_T57 hCx (j : Int) (by omega) (by have := HN.out; omega)
            subst hA0
            cases hA2
            have rq : rd_T57 l ((j + 1 : Nat) : Int) = q := by unfold rd_T57; rw [Int.toNat_natCast]; simp [List.getD, hq]
            have rp : rd_T57 l (j : Int) = p := by unfold rd_T57; rw [Int.toNat_natCast]; simp [List.getD, hp]
            rw [rq, Int.toNat_natCast] at q0
            rw [rp, Int.toNat_natCast] at p0
            have b0 : decide ((((j + 1 : Nat) : Int)) > 0) = true := decide_eq_true (by omega)
            have hz : j < 300 := by omega
            have s1 : IntKind.i64.wrap (((j + 1 : Nat) : Int) - 1) = (j : Int) := by rw [IntKind.wrap_i64]; omega
            have s2 : IntKind.i64.wrap ((j : Int) + 1 - 1) = (j : Int) := by rw [IntKind.wrap_i64]; omega
            have s3 : ((j : Int) + 1).toNat = j + 1 := by omega
            obtain rfl : j = t2 := by have := HIK.out; omega
            obtain rfl : p = y0 := by have := H1.out; rw [hp] at this; exact Option.some.inj this
            obtain rfl : q = y1 := by have := H2.out; rw [hq] at this; exact Option.some.inj this
            have b1 : decide (q.f0 ≤ p.f0) = true := decide_eq_true (by have := H3.out; omega)
            clear hCx hp hq rq rp
            go_wp2
            go_quiet (fail)
            go_wp2
            go_ret
            refine ⟨?_, pw_below_drewN (below_step HB0.out HBx.out) _⟩
            have hk : okI ⟨en, st, l⟩ = false := okI_off (by
              rintro ⟨_, _, _, _, _, h6, _⟩
              have := HA.out
              simp only at h6
              rw [h6] at this
              cases this)
            rw [hk]
            rfl
          | succ kq =>
            obtain ⟨p, q, hp, hq⟩ : ∃ p q, l[j]? = some p ∧ l[j + 1]? = some q := by
              have h2 : j + 1 < l.length := by have := HN.out; omega
              exact ⟨l[j], l[j + 1], by rw [List.getElem?_eq_getElem (by omega)], by rw [List.getElem?_eq_getElem h2]⟩
            have hCx := Kd.C_below HC.out (below_step HB0.out HBx.out)
            obtain ⟨ad, hA0, q0, -, -⟩ := at_T57 hCx ((j + 1 : Nat) : Int) (by omega) (by have := HN.out; omega)
            obtain ⟨ad2, hA2, p0, -, -⟩ := at_T57 hCx (j : Int) (by omega) (by have := HN.out; omega)
            subst hA0
            cases hA2
            have rq : rd_T57 l ((j + 1 : Nat) : Int) = q := by unfold rd_T57; rw [Int.toNat_natCast]; simp [List.getD, hq]
            have rp : rd_T57 l (j : Int) = p := by unfold rd_T57; rw [Int.toNat_natCast]; simp [List.getD, hp]
            rw [rq, Int.toNat_natCast] at q0
            rw [rp, Int.toNat_natCast] at p0
            have b0 : decide ((((j + 1 : Nat) : Int)) > 0) = true := decide_eq_true (by omega)
            have hz : j < 300 := by omega
            have s1 : IntKind.i64.wrap (((j + 1 : Nat) : Int) - 1) = (j : Int) := by rw [IntKind.wrap_i64]; omega
            have s2 : IntKind.i64.wrap ((j : Int) + 1 - 1) = (j : Int) := by rw [IntKind.wrap_i64]; omega
            have s3 : ((j : Int) + 1).toNat = j + 1 := by omega
            have hok := HOK.out j p q (by have := HIK.out; omega) hp hq
            have b1 : decide (q.f0 ≤ p.f0) = false := decide_eq_false (by omega)
            clear hCx hp hq rq rp
            go_wp2
            go_quiet (fail)
            go_wp2
            go_roundg kq
            case measure => omega
            case rel => exact ⟨j + 2, rfl, by have := HIK.out; omega, ⟨pw_below_drewN HBx.out _⟩⟩
  · refine (is_off w en st A c l hn.e0 hn.s0 hl h).mono ?_
    rintro e w' ⟨rfl, hb⟩
    refine ⟨?_, hb⟩
    rw [okI_off]
    rintro ⟨g1, g2, g3, g4, g5, _⟩
    exact h ⟨g1, g2, g3, g4, g5⟩
end Go.Proofs.YtflojfcioojgbaaGreatDoor.IM
namespace Go.Proofs.YtflojfcioojgbaaGreatDoor.IM
open Go.RowKit Go.Proofs.YtflojfcioojgbaaGreatDoor.P Go.Proofs.YtflojfcioojgbaaGreatDoorW.PrintWords Go.Proofs.YtflojfcioojgbaaGreatDoorW.PrintLast Go.Proofs.YtflojfcioojgbaaGreatDoorW.PrintMore Go.Proofs.YtflojfcioojgbaaGreatDoor.MW Go.Proofs.YtflojfcioojgbaaGreatDoor.M Go.Proofs.YtflojfcioojgbaaGreatDoor.ST
set_option linter.unusedVariables false
set_option linter.unusedSimpArgs false
theorem put_calls (v : Int) (h0 : 0 ≤ v) (h1 : v < 18446744073709551616) (w : World) : Calls Tryz.prog 29 #[.int .u64 v] w fun e w' => e = .returned (.string (putB v.toNat)) ∧ Below w.heap.size w w' := by
  have h := put_spec v.toNat (by omega)
  rw [show ((v.toNat : Nat) : Int) = v by omega] at h
  exact wire_Put.calls v _ w h
theorem puttext_calls (s : ByteArray) (hs : s.size ≤ 100000000000000) (w : World) : Calls Tryz.prog 30 #[.string s] w fun e w' => e = .returned (.string (putT s)) ∧ Below w.heap.size w w' := wire_PutText.calls s _ w (puttext_spec s hs)
theorem bld_lies : liesAt Tryz.prog Tryz.prog.depth 65 ((([] : List Value).length + 2) / Tryz.prog.cellsOf 65) 0 65 1 = true := by kernel_rfl
theorem bcells_app (a b : List UInt8) : Lib.byteCells a ++ Lib.byteCells b = Lib.byteCells (a ++ b) := by simp [Lib.byteCells]
theorem scells (s : ByteArray) : Lib.strCells s = Lib.byteCells s.data.toList := by simp [Lib.strCells, Lib.byteCells]
theorem write_at (B b : Nat) (bs : List UInt8) (s : ByteArray) (w : World) (h : Bld 65 [] B b (Lib.byteCells bs) w) (hlen : bs.length + s.size ≤ 140737488355328) (hBw : B ≤ w.heap.size) :
    Calls Tryz.prog 27 #[.pointer (some ⟨b, 0, none⟩), .string s] w fun e w' => e = .returned (.tuple #[.int .i64 s.size, .nilIface]) ∧ Bld 65 [] B b (Lib.byteCells (bs ++ s.data.toList)) w' ∧ Below B w w' ∧ Lib.OthersKept 5 (some b) w w' := by
  refine (bld_writeString (by decide) bld_lies B b _ s w h (by rw [Lib.byteCells_length]; exact hlen) hBw).mono ?_
  rintro e w' ⟨rfl, h1, h2, h3⟩
  refine ⟨rfl, .inr ?_, h2, h3⟩
  rw [← bcells_app, ← scells]
  exact h1
def WrC (w : World) (C b : Nat) : Prop := w.heap[C]? = some (.cells #[.func (.func 27) #[.pointer (some ⟨b, 0, none⟩)] #[]] 66 (0, 0))
theorem load_wr {w : World} {C b : Nat} (h : WrC w C b) : w.cell? ⟨C, 0, none⟩ = some (.func (.func 27) #[.pointer (some ⟨b, 0, none⟩)] #[]) := (blk_cell h 0).trans rfl
theorem kept_below {e : TypeId} {b : Option Nat} {w w' : World} (h : Below w.heap.size w w') : Lib.OthersKept e b w w' := fun k o hk _ _ => (h.block k (blk_lt hk)).trans hk
theorem ld_wr (C b : Nat) (w : World) (h : w.cell? ⟨C, 0, none⟩ = some (.func (.func 27) #[.pointer (some ⟨b, 0, none⟩)] #[])) : Sem.run Tryz.prog (Instr.loadAt 66 (.pointer (some ⟨C, 0, none⟩))) w = .ok (.func (.func 27) #[.pointer (some ⟨b, 0, none⟩)] #[]) w := by go_simp
def numR.T : Bool × List (List Nat × List Nat) := (true, [([], []), ([], []), ([1], [1]), ([0, 2, 2], [0, 2])])
def numR.B : List Nat := [0, 0, 2, 7]
theorem numR.tab : rtab .any (opsOf Tryz.f28 0) = numR.T := by kernel_rfl
theorem numR.bits : waitsOk numR.T.2 numR.B = true := by kernel_rfl
theorem put_len (v : Int) (h1 : v < 18446744073709551616) : (putB v.toNat).size ≤ 10 := by
  rw [show (putB v.toNat).size = (wire_putL v.toNat).length by unfold putB; simp [ByteArray.size]]
  exact wire_putL_ten _ (by omega)
set_option maxRecDepth 100000 in
theorem num_at (B b C : Nat) (bs : List UInt8) (v : Int) (w : World) (h : Bld 65 [] B b (Lib.byteCells bs) w) (hC : WrC w C b) (h0 : 0 ≤ v) (h1 : v < 18446744073709551616) (hlen : bs.length + 10 ≤ 140737488355328) (hBw : B ≤ w.heap.size) :
    Calls Tryz.prog 28 #[.int .u64 v, .pointer (some ⟨C, 0, none⟩)] w fun e w' => e = .returned (.tuple #[]) ∧ Bld 65 [] B b (Lib.byteCells (bs ++ wire_putL v.toNat)) w' ∧ Below B w w' ∧ Lib.OthersKept 5 (some b) w w' := by
  have HP := aq (put_calls v h0 h1)
  have HB := aq h
  have HC := aq (load_wr hC)
  have HS := aq (put_len v h1)
  clear h hC h0 h1
  go_enter Tryz.func28, Tryz.ntmps28
  refine start_ (n := 4) (S := fun w' => w'.cell? ⟨C, 0, none⟩ = some (.func (.func 27) #[.pointer (some ⟨b, 0, none⟩)] #[]) ∧ Below w.heap.size w w') (ds := [3]) #[false, false, false, false] (by kernel_rfl) rfl rfl ⟨HC.out, below_drew1 (Below.refl _ _)⟩ (fun hHeld => ?_); refine with_tabW numR.tab numR.bits (fun HT_ HW_ => ?_)
  refine tk_ (i := 0) (N := 3) (t := 66) (p := .tmp 1) (v := .func (.func 27) #[.pointer (some ⟨b, 0, none⟩)] #[]) (take_ofW HT_.out HW_.out (by kernel_rfl)) rfl (fun _ _ _ h => h) hHeld ?_ ?_; · exact fun w' h' => ld_wr C b w' h'.1
  simp only [Act.put, List.setIfInBounds_toArray, List.set_cons_zero, List.set_cons_succ]
  refine pu_ (i := 1) (N := some 4) (v := _) (any_of HT_.out (by kernel_rfl)) rfl rfl (by rfl) (fun _ _ _ h => h) (fun w' => by go_simp; with_reducible rfl) ?_; simp only [Act.put, List.setIfInBounds_toArray, List.set_cons_zero, List.set_cons_succ]
  refine cl_ (i := 2) (N := some 5) 29 #[.int .u64 v] (one_of HT_.out (by kernel_rfl)) rfl rfl (by decide) (by rfl) (by unfold execOp; go_simp) (HP.out _) ?_; rintro e w1 ⟨rfl, hb⟩; refine ⟨_, rfl, ⟨pw_cell_below hb hHeld.1, below_step hHeld.2 hb⟩, fun hHeld => ?_⟩; simp only [Act.put, List.setIfInBounds_toArray, List.set_cons_zero, List.set_cons_succ]
  refine last_ (i := 3) (N := some 6) #[true, true, true, true] rfl rfl (one_of HT_.out (by kernel_rfl)) (by decide) (fun K hK => ?_)
  refine call_ 27 #[.pointer (some ⟨b, 0, none⟩), .string (putB v.toNat)] (by rfl) rfl (by unfold execOp; go_simp) ((write_at B b bs (putB v.toNat) w1 (HB.out.below hHeld.2) (by have := HS.out; omega) (Nat.le_trans hBw hHeld.2.size)).mono ?_)
  rintro e w2 ⟨rfl, g1, g2, g3⟩
  have H1 := aq g1
  have H2 := aq (((hHeld.2).mono hBw).trans g2)
  have H3 := aq ((kept_below (e := 5) (b := some b) hHeld.2).trans g3)
  refine ⟨_, rfl, ?_⟩
  refine hK.out _ _ ?_
  clear hK K g1 g2 g3
  refine done_ (done_of HT_.out (by kernel_rfl)) ?_
  go_end0
  exact ⟨rfl, H1.out, H2.out, H3.out⟩
structure PutS (u w : World) (X b C : Nat) (en st : Int) (A : Option Addr) (n c : Nat) (bs : List UInt8) : Prop where
  bld : Bld 65 [] b b (Lib.byteCells bs) w
  wr : WrC w C b
  x : w.heap[X]? = some (.cells #[.int .u64 en, .int .u64 st, .slice A n c] 25 (0, 0))
  bel : Below u.heap.size u w
  le : u.heap.size ≤ b
  lw : b ≤ w.heap.size
  ne : C ≠ b
  nx : X ≠ b
theorem PutS.step {u w w' : World} {X b C : Nat} {en st : Int} {A : Option Addr} {n c : Nat} {bs bs2 : List UInt8} (h : PutS u w X b C en st A n c bs) (g1 : Bld 65 [] b b (Lib.byteCells bs2) w') (g2 : Below b w w') (g3 : Lib.OthersKept 5 (some b) w w') : PutS u w' X b C en st A n c bs2 :=
  ⟨g1, g3 C _ h.wr (by simpa using h.ne) (fun _ _ e => by cases e), g3 X _ h.x (by simpa using h.nx) (fun _ _ e => by cases e), h.bel.trans (g2.mono h.le), h.le, Nat.le_trans h.lw g2.size, h.ne, h.nx⟩
theorem PutS.below {u w w' : World} {X b C : Nat} {en st : Int} {A : Option Addr} {n c : Nat} {bs : List UInt8} (h : PutS u w X b C en st A n c bs) (hb : Below w.heap.size w w') : PutS u w' X b C en st A n c bs :=
  ⟨h.bld.below hb, blk_below h.wr hb, blk_below h.x hb, below_step h.bel hb, h.le, Nat.le_trans h.lw hb.size, h.ne, h.nx⟩
theorem PutS.blt {u w : World} {X b C : Nat} {en st : Int} {A : Option Addr} {n c : Nat} {bs : List UInt8} (h : PutS u w X b C en st A n c bs) : b < w.heap.size := by
  obtain ⟨p, hp⟩ := bld_some h.bld
  obtain ⟨_, hb⟩ := hp.blk
  exact blk_lt hb
theorem PutS.new {u w1 : World} {X : Nat} {en st : Int} {A : Option Addr} {n c : Nat} (hb : Below u.heap.size u w1) (hx : w1.heap[X]? = some (.cells #[.int .u64 en, .int .u64 st, .slice A n c] 25 (0, 0))) :
    PutS u ((w1.alloc (.cells #[.pointer none, .slice none 0 0] 65)).alloc (.cells #[.func (.func 27) #[.pointer (some ⟨w1.heap.size, 0, none⟩)] #[]] 66)) X w1.heap.size (w1.heap.size + 1) en st A n c [] := by
  have h1 := bld_new 65 [] w1
  have h2 := h1.below (below_alloc (Below.refl _ _) (.cells #[.func (.func 27) #[.pointer (some ⟨w1.heap.size, 0, none⟩)] #[]] 66))
  refine ⟨h2, ?_, blk_alloc (blk_alloc hx _) _, below_alloc (below_alloc hb _) _, hb.size, ?_, by omega, Nat.ne_of_lt (blk_lt hx)⟩
  · have := blk_new (w1.alloc (.cells #[.pointer none, .slice none 0 0] 65)) (.cells #[.func (.func 27) #[.pointer (some ⟨w1.heap.size, 0, none⟩)] #[]] 66)
    unfold WrC
    rw [World.size_alloc] at this
    exact this
  · simp; omega
theorem putR_len {r : S57} (h : fitR r) : (putR r).length ≤ 65566 := by
  have h1 := h.a0; have h2 := h.a1; have h3 := h.k0; have h4 := h.k1; have h5 := h.d
  have e : IntKind.u64.wrap r.f1 = r.f1 := u64_self _ (by omega) (by omega)
  have g1 := wire_putL_ten r.f0.toNat (by omega)
  have g2 := wire_putL_ten r.f1.toNat (by omega)
  have g3 := wire_putL_ten r.f2.size (by omega)
  unfold putR
  rw [e]
  simp only [List.length_append, bsz]
  omega
theorem putRs_len : ∀ {l : List S57}, (∀ r, r ∈ l → fitR r) → (putRs l).length ≤ 65566 * l.length
  | [], _ => by simp [putRs]
  | r :: l, h => by
    have h1 := putR_len (h r (by simp))
    have h2 := putRs_len (l := l) (fun x hx => h x (by simp [hx]))
    have e : putRs (r :: l) = putR r ++ putRs l := by simp [putRs]
    rw [e, List.length_append, List.length_cons]
    omega
theorem ld_str (b j : Nat) (s : ByteArray) (w : World) (h : w.cell? ⟨b, j, none⟩ = some (.string s)) : Sem.run Tryz.prog (Instr.loadAt 9 (.pointer (some ⟨b, j, none⟩))) w = .ok (.string s) w := by go_simp
def putS.T : Bool × List (List Nat × List Nat) := (true, [([], []), ([], []), ([1], [1]), ([2], [2]), ([0, 3, 3], [0, 3])])
def putS.B : List Nat := [0, 0, 2, 6, 15]
theorem putS.tab : rtab .any (opsOf Tryz.f10 15) = putS.T := by kernel_rfl
theorem putS.bits : waitsOk putS.T.2 putS.B = true := by kernel_rfl
theorem putI_ne (x : IMG) : putI x ≠ [] := by unfold putI magicL; simp
theorem putRs_snoc (l : List S57) (r : S57) : putRs (l ++ [r]) = putRs l ++ putR r := by simp [putRs]
theorem PutS.write {u w : World} {X b C : Nat} {en st : Int} {A : Option Addr} {n c : Nat} {bs : List UInt8} (h : PutS u w X b C en st A n c bs) (s : ByteArray) (hl : bs.length + s.size ≤ 140737488355328) :
    Calls Tryz.prog 27 #[.pointer (some ⟨b, 0, none⟩), .string s] w fun e w' => e = .returned (.tuple #[.int .i64 s.size, .nilIface]) ∧ PutS u w' X b C en st A n c (bs ++ s.data.toList) ∧ Below b w w' ∧ Lib.OthersKept 5 (some b) w w' := by
  refine (write_at b b bs s w h.bld hl h.lw).mono ?_
  rintro e w' ⟨rfl, g1, g2, g3⟩
  exact ⟨rfl, h.step g1 g2 g3, g2, g3⟩
theorem PutS.num {u w : World} {X b C : Nat} {en st : Int} {A : Option Addr} {n c : Nat} {bs : List UInt8} (h : PutS u w X b C en st A n c bs) (v : Int) (h0 : 0 ≤ v) (h1 : v < 18446744073709551616) (hl : bs.length + 10 ≤ 140737488355328) :
    Calls Tryz.prog 28 #[.int .u64 v, .pointer (some ⟨C, 0, none⟩)] w fun e w' => e = .returned (.tuple #[]) ∧ PutS u w' X b C en st A n c (bs ++ wire_putL v.toNat) ∧ Below b w w' ∧ Lib.OthersKept 5 (some b) w w' := by
  refine (num_at b b C bs v w h.bld h.wr h0 h1 hl h.lw).mono ?_
  rintro e w' ⟨rfl, g1, g2, g3⟩
  exact ⟨rfl, h.step g1 g2 g3, g2, g3⟩
theorem okI_len {x : IMG} (h : okI x = true) : x.l.length ≤ 256 := by
  unfold okI at h
  exact (of_decide_eq_true h).2.2.2.2.1
set_option maxHeartbeats 2000000 in
set_option maxRecDepth 100000 in
theorem putI_at (w : World) (en st : Int) (A : Option Addr) (c : Nat) (l : List S57) (hC : Kd.C k57 w A l.length l) (hc : l.length ≤ c) (hl : l.length ≤ 300) (hn : IMG.nums ⟨en, st, l⟩) :
    Calls Tryz.prog 10 #[.agg #[.int .u64 en, .int .u64 st, .slice A l.length c]] w fun e w' => Below w.heap.size w w' ∧
      e = .returned (.tuple #[.string (if okI ⟨en, st, l⟩ = true then ⟨(putI ⟨en, st, l⟩).toArray⟩ else ⟨#[]⟩), .int .i64 (if okI ⟨en, st, l⟩ = true then 0 else 1)]) := by
  have HI := aq (fun (W : World) (hb : Below w.heap.size w W) => is_at W en st A c l (Kd.C_below hC hb) hc hl hn)
  have HX := aq (blk_new w (.cells #[.int .u64 en, .int .u64 st, .slice A l.length c] 25))
  have HB0 := aq (below_alloc (Below.refl w.heap.size w) (.cells #[.int .u64 en, .int .u64 st, .slice A l.length c] 25))
  have x0 : (w.alloc (.cells #[.int .u64 en, .int .u64 st, .slice A l.length c] 25)).cell? ⟨w.heap.size, 0, none⟩ = some (.int .u64 en) := (blk_cell (blk_new w _) 0).trans rfl
  have x1 : (w.alloc (.cells #[.int .u64 en, .int .u64 st, .slice A l.length c] 25)).cell? ⟨w.heap.size, 1, none⟩ = some (.int .u64 st) := (blk_cell (blk_new w _) 1).trans rfl
  have x2 : (w.alloc (.cells #[.int .u64 en, .int .u64 st, .slice A l.length c] 25)).cell? ⟨w.heap.size, 2, none⟩ = some (.slice A l.length c) := (blk_cell (blk_new w _) 2).trans rfl
  have HC := aq hC
  have HN := aq hn
  have HF := aq (okI_fit hn)
  clear hC hn
  cases hk : okI ⟨en, st, l⟩ with
  | false =>
    rw [hk] at HI
    clear hk
    go_enter Tryz.func10, Tryz.ntmps10
    go_upto_region 1 with fail
    generalize w.alloc (.cells #[.int .u64 en, .int .u64 st, .slice A l.length c] 25) = w0 at *
    go_wp2_with (go_at_call 12; refine (HI.out _ HB0.out).mono ?_; rintro e w1 ⟨rfl, hb⟩; have HB1 := aq (below_step HB0.out hb); clear hb)
    go_ret2
    exact ⟨HB1.out, rfl⟩
  | true =>
    obtain ⟨hlen, hfit⟩ := HF.out hk
    have HFT := aq hfit
    rw [hk] at HI
    clear hk HF hfit
    go_enter Tryz.func10, Tryz.ntmps10
    go_upto_region 1 with fail
    generalize w.alloc (.cells #[.int .u64 en, .int .u64 st, .slice A l.length c] 25) = w0 at *
    go_upto_region 3 with (go_at_call 12; refine (HI.out _ HB0.out).mono ?_; rintro e w1 ⟨rfl, hb⟩; have HB1 := aq (below_step HB0.out hb); have HX1 := aq (blk_below HX.out hb); clear hb)
    go_upto_region 6 with fail
    have HP := aq (PutS.new HB1.out HX1.out)
    clear x0 x1 x2
    generalize (w1.alloc (.cells #[.pointer none, .slice none 0 0] 65)).alloc (.cells #[.func (.func 27) #[.pointer (some ⟨w1.heap.size, 0, none⟩)] #[]] 66) = w2 at *
    generalize w1.heap.size + 1 = C at *
    generalize w1.heap.size = b at *
    clear HB1 HX1 HX HB0 HI
    have cw := load_wr HP.out.wr
    go_upto_region 7 with (go_at_call 27; refine (HP.out.write ⟨#[67, 76, 73, 77, 71, 1]⟩ (by decide)).mono ?_; rintro e w3 ⟨rfl, g1, -, -⟩; have HP1 := aq g1; clear g1)
    clear cw HP
    have x0 : w3.cell? ⟨w.heap.size, 0, none⟩ = some (.int .u64 en) := (blk_cell HP1.out.x 0).trans rfl
    go_upto_region 8 with (go_at_call 28; refine (HP1.out.num en HN.out.e0 HN.out.e1 (by decide)).mono ?_; rintro e w4 ⟨rfl, g1, -, -⟩; have HP := aq g1; clear g1)
    clear x0 HP1
    have x1 : w4.cell? ⟨w.heap.size, 1, none⟩ = some (.int .u64 st) := (blk_cell HP.out.x 1).trans rfl
    have l1 := wire_putL_ten en.toNat (by have := HN.out.e0; have := HN.out.e1; simp only at *; omega)
    have l2 := wire_putL_ten st.toNat (by have := HN.out.s0; have := HN.out.s1; simp only at *; omega)
    have l3 := wire_putL_ten l.length (by omega)
    have HL := aq (And.intro l1 (And.intro l2 l3))
    clear l1 l2 l3
    go_upto_region 9 with (go_at_call 28; refine (HP.out.num st HN.out.s0 HN.out.s1 (by have := HL.out; simp; omega)).mono ?_; rintro e w5 ⟨rfl, g1, -, -⟩; have HP1 := aq g1; clear g1)
    clear x1 HP
    have x2 : w5.cell? ⟨w.heap.size, 2, none⟩ = some (.slice A l.length c) := (blk_cell HP1.out.x 2).trans rfl
    have eu : IntKind.u64.wrap (l.length : Int) = (l.length : Int) := u64_self _ (by omega) (by omega)
    go_upto_region 10 with (go_at_call 28; refine (HP1.out.num (l.length : Int) (by omega) (by omega) (by have := HL.out; simp; omega)).mono ?_; rintro e w6 ⟨rfl, g1, -, -⟩; have HP := aq g1; clear g1)
    clear x2
    have x2 : w6.cell? ⟨w.heap.size, 2, none⟩ = some (.slice A l.length c) := (blk_cell HP.out.x 2).trans rfl
    obtain ⟨bs0, HP, hbs, hbl⟩ : ∃ bs0, Aside0 (PutS w w6 w.heap.size b C en st A l.length c bs0) ∧ bs0 ++ putRs l = putI ⟨en, st, l⟩ ∧ bs0.length ≤ 36 := ⟨_, HP, by unfold putI magicL; simp, by have := HL.out; simp; omega⟩
    have HBS := aq hbs
    have HBL := aq hbl
    clear hbs hbl HP1
    generalize hn : l.length = n at *
    have HNL := aq hn
    clear hn
    go_wp2
    clear x2
    go_loopg [33] n (fun kq v33 wx => ∃ i : Nat, v33 = .int .i64 (i : Int) ∧ i + kq = n ∧ Aside0 (PutS w wx w.heap.size b C en st A n c (bs0 ++ putRs (l.take i))))
    case atStart => exact ⟨0, rfl, by omega, ⟨by simpa [putRs] using HP.out⟩⟩
    case round =>
      obtain ⟨i, rfl, hik, HQ⟩ := hrel
      cases gk with
      | zero =>
        obtain rfl : i = n := by omega
        have hin : ¬ (i < i) := by omega
        have HE := aq (show bs0 ++ putRs (l.take i) = putI ⟨en, st, l⟩ by rw [List.take_of_length_le (by have := HNL.out; omega)]; exact HBS.out)
        clear hik
        go_wp2_with (go_at_call 31; refine (bld_string b b _ _ HQ.out.bld (by rw [HE.out]; exact putI_ne _)).mono ?_; rintro e w7 ⟨rfl, hb⟩; have HB7 := aq (HQ.out.bel.trans (hb.mono HQ.out.le)); clear hb)
        go_ret2
        exact ⟨HB7.out, by rw [HE.out]; rfl⟩
      | succ kq =>
        have hin : i < n := by omega
        have HIK := aq hik
        clear hik
        obtain ⟨r, hr⟩ : ∃ r, l[i]? = some r := ⟨l[i]'(by have := HNL.out; omega), List.getElem?_eq_getElem _⟩
        have hfr := HFT.out r (List.mem_of_getElem? hr)
        obtain ⟨ad, hA0, d0, d1, d2⟩ := at_T57 (Kd.C_below HC.out HQ.out.bel) (i : Int) (by omega) (by have := HNL.out; omega)
        have rr : rd_T57 l (i : Int) = r := by unfold rd_T57; rw [Int.toNat_natCast]; simp [List.getD, hr]
        rw [rr, Int.toNat_natCast] at d0 d1 d2
        subst hA0
        have HS := aq (show putRs (l.take (i + 1)) = putRs (l.take i) ++ putR r by rw [take_snoc_ hr, putRs_snoc])
        have hlen0 : (bs0 ++ putRs (l.take i)).length ≤ 20000000 := by
          have h1 := putRs_len (l := l.take i) (fun x hx => HFT.out x (List.mem_of_mem_take hx))
          have h2 : (l.take i).length ≤ 256 := by rw [List.length_take]; omega
          have := HBL.out
          rw [List.length_append]
          omega
        have HLB := aq hlen0
        have HFR := aq hfr
        clear rr hr hlen0 hfr
        obtain ⟨r0, r1, r2⟩ := r
        simp only at d0 d1 d2
        generalize hbi : bs0 ++ putRs (l.take i) = bs at *
        have HBI := aq hbi
        clear hbi
        have hz : i < 300 := by omega
        go_upto_region 13 with fail
        have HQ1 := aq (HQ.out.below (below_alloc (Below.refl _ _) (.cells #[.int .u64 r0, .int .i64 r1, .string r2] 57)))
        have HY := aq (blk_new wr (.cells #[.int .u64 r0, .int .i64 r1, .string r2] 57))
        have HGB := aq (show wr.heap.size ≠ b from Nat.ne_of_gt HQ.out.blt)
        clear HQ d0 d1 d2
        generalize wr.alloc (.cells #[.int .u64 r0, .int .i64 r1, .string r2] 57) = wy at *
        generalize wr.heap.size = g at *
        have y0 : wy.cell? ⟨g, 0, none⟩ = some (.int .u64 r0) := (blk_cell HY.out 0).trans rfl
        go_upto_region 14 with (go_at_call 28; refine (HQ1.out.num r0 HFR.out.a0 HFR.out.a1 (by have := HLB.out; omega)).mono ?_; rintro e w4 ⟨rfl, g1, -, g3⟩; have HP3 := aq g1; have HY1 := aq (g3 g _ HY.out (by simpa using HGB.out) (fun _ _ e => by cases e)); clear g1 g3)
        clear y0 HQ1 HY
        have y1 : w4.cell? ⟨g, 1, none⟩ = some (.int .i64 r1) := (blk_cell HY1.out 1).trans rfl
        have k0 : 0 ≤ r1 := HFR.out.k0
        have k1 : r1 ≤ 3 := HFR.out.k1
        have er : IntKind.u64.wrap r1 = r1 := u64_self _ (by omega) (by omega)
        have q1 := wire_putL_ten r0.toNat (by have := HFR.out.a0; have := HFR.out.a1; simp only at *; omega)
        have q2 := wire_putL_ten r1.toNat (by omega)
        have HQ1 := aq q1
        have HQ2 := aq q2
        clear q1 q2
        go_upto_region 15 with (go_at_call 28; refine (HP3.out.num r1 k0 (by omega) (by have := HLB.out; have := HQ1.out; rw [List.length_append]; omega)).mono ?_; rintro e w5 ⟨rfl, g1, -, g3⟩; have HP4 := aq g1; have HY2 := aq (g3 g _ HY1.out (by simpa using HGB.out) (fun _ _ e => by cases e)); clear g1 g3)
        clear y1 HP3 HY1
        refine start_ (n := 5) (S := fun w' => w'.cell? ⟨C, 0, none⟩ = some (.func (.func 27) #[.pointer (some ⟨b, 0, none⟩)] #[]) ∧ w'.cell? ⟨g, 2, none⟩ = some (.string r2) ∧ Below w5.heap.size w5 w') (ds := [4]) #[false, false, false, false, false] (by kernel_rfl) rfl rfl ⟨load_wr HP4.out.wr, (blk_cell HY2.out 2).trans rfl, below_drew1 (Below.refl _ _)⟩ (fun hHeld => ?_); refine with_tabW putS.tab putS.bits (fun HT_ HW_ => ?_)
        refine tk_ (i := 0) (N := 46) (t := 66) (p := .tmp 5) (v := .func (.func 27) #[.pointer (some ⟨b, 0, none⟩)] #[]) (take_ofW HT_.out HW_.out (by kernel_rfl)) rfl (fun _ _ _ h => h) hHeld ?_ ?_; · exact fun w' h' => ld_wr C b w' h'.1
        simp only [Act.put, List.setIfInBounds_toArray, List.set_cons_zero, List.set_cons_succ]
        refine pu_ (i := 1) (N := some 47) (v := _) (any_of HT_.out (by kernel_rfl)) rfl rfl (by rfl) (fun _ _ _ h => h) (fun w' => by go_simp; with_reducible rfl) ?_; simp only [Act.put, List.setIfInBounds_toArray, List.set_cons_zero, List.set_cons_succ]
        refine tk_ (i := 2) (N := 48) (t := 9) (p := .tmp 47) (v := .string r2) (take_ofW HT_.out HW_.out (by kernel_rfl)) rfl (fun _ _ _ h => h) hHeld ?_ ?_; · exact fun w' h' => ld_str g 2 r2 w' h'.2.1
        simp only [Act.put, List.setIfInBounds_toArray, List.set_cons_zero, List.set_cons_succ]
        refine cl_ (i := 3) (N := some 49) 30 #[.string r2] (one_of HT_.out (by kernel_rfl)) rfl rfl (by decide) (by rfl) (by unfold execOp; go_simp) (puttext_calls r2 (by have := HFR.out.d; simp only at this; omega) _) ?_; rintro e w6 ⟨rfl, hb⟩; refine ⟨_, rfl, ⟨pw_cell_below hb hHeld.1, pw_cell_below hb hHeld.2.1, below_step hHeld.2.2 hb⟩, fun hHeld => ?_⟩; simp only [Act.put, List.setIfInBounds_toArray, List.set_cons_zero, List.set_cons_succ]
        have hpt : (putT r2).size ≤ 65546 := by
          have h1 := HFR.out.d
          have h2 := wire_putL_ten r2.size (by simp only at h1; omega)
          have h3 := congrArg List.length (putT_data r2)
          rw [bsz, List.length_append, bsz] at h3
          simp only at h1
          omega
        refine last_ (i := 4) (N := some 50) #[true, true, true, true, true] rfl rfl (one_of HT_.out (by kernel_rfl)) (by decide) (fun K hK => ?_)
        refine call_ 27 #[.pointer (some ⟨b, 0, none⟩), .string (putT r2)] (by rfl) rfl (by unfold execOp; go_simp) (((HP4.out.below hHeld.2.2).write (putT r2) (by have := HLB.out; have := HQ1.out; have := HQ2.out; simp only [List.length_append]; omega)).mono ?_)
        rintro e w7 ⟨rfl, g1, -, -⟩
        have HP5 := aq g1
        refine ⟨_, rfl, ?_⟩
        refine hK.out _ _ ?_
        clear hK K g1
        refine done_ (done_of HT_.out (by kernel_rfl)) ?_
        go_wp2
        go_roundg kq
        case measure => omega
        case rel =>
          refine ⟨i + 1, rfl, by have := HIK.out; omega, ⟨?_⟩⟩
          have e : bs0 ++ putRs (l.take (i + 1)) = bs ++ wire_putL r0.toNat ++ wire_putL r1.toNat ++ (putT r2).data.toList := by
            rw [HS.out, ← List.append_assoc, HBI.out]
            unfold putR
            simp only
            rw [u64_self r1 (by have := HFR.out.k0; simp only at this; omega) (by have := HFR.out.k1; simp only at this; omega), putT_data]
            simp only [List.append_assoc]
          rw [e]
          exact HP5.out
end Go.Proofs.YtflojfcioojgbaaGreatDoor.IM
namespace Go.Proofs.YtflojfcioojgbaaGreatDoor.IM
open Go.RowKit Go.Proofs.YtflojfcioojgbaaGreatDoor.P Go.Proofs.YtflojfcioojgbaaGreatDoorW.PrintWords Go.Proofs.YtflojfcioojgbaaGreatDoorW.PrintLast Go.Proofs.YtflojfcioojgbaaGreatDoorW.PrintMore Go.Proofs.YtflojfcioojgbaaGreatDoor.MW Go.Proofs.YtflojfcioojgbaaGreatDoor.M
set_option linter.unusedVariables false
set_option linter.unusedSimpArgs false
def Rd (w : World) (R : Nat) (q : RD) : Prop := w.heap[R]? = some (.cells #[.string q.1, .bool q.2] 80 (0, 0))
theorem Rd.below {w w' : World} {R : Nat} {q : RD} (h : Rd w R q) (hb : Below w.heap.size w w') : Rd w' R q := blk_below h hb
theorem get_calls (s : ByteArray) (w : World) : Calls Tryz.prog 55 #[.string s] w fun e w' => e = .returned (.tuple #[.int .u64 ((getL s.data.toList 0 0).1 : Int), .int .i64 ((getL s.data.toList 0 0).2.1 : Int), .int .i64 ((getL s.data.toList 0 0).2.2 : Int)]) ∧ Below w.heap.size w w' := by
  have h := get_spec 22 s (by decide)
  refine (wire_Get.calls 22 s _ _ _ w h).mono ?_
  rintro e w' ⟨rfl, hd⟩
  exact ⟨rfl, hd.below⟩
theorem gettext_calls (s : ByteArray) (hs : s.size ≤ 100000000000000) (w : World) : Calls Tryz.prog 56 #[.string s, .int .i64 65536] w fun e w' => e = .returned (.tuple #[.string (textV s 65536).1, .int .i64 (textV s 65536).2.1, .int .i64 (textV s 65536).2.2]) ∧ Below w.heap.size w w' := by
  have h := gettext_spec 30 s 65536 (by decide) hs
  refine (wire_GetText.calls 30 s 65536 _ _ _ w h).mono ?_
  rintro e w' ⟨rfl, hd⟩
  exact ⟨rfl, hd.below⟩
theorem Rd.sets {w : World} {R : Nat} {q : RD} (h : Rd w R q) (s : ByteArray) (b : Bool) : Rd ((w.setCell ⟨R, 1, none⟩ (.bool b)).setCell ⟨R, 0, none⟩ (.string s)) R (s, b) := by
  have h1 := blk_set h 1 (.bool b)
  have h2 := blk_set h1 0 (.string s)
  unfold Rd; simpa using h2
theorem two_touch {w w1 : World} {R : Nat} (hb : Below w.heap.size w w1) (u v : Value) : MW.Touch w ((w1.setCell ⟨R, 1, none⟩ u).setCell ⟨R, 0, none⟩ v) R := ((MW.Touch.of_below R hb).set 1 u).set 0 v
set_option maxRecDepth 100000 in
theorem number_at (w : World) (R : Nat) (q : RD) (hR : Rd w R q) :
    Calls Tryz.prog 34 #[.pointer (some ⟨R, 0, none⟩)] w fun e w' => e = .returned (.int .u64 ((rdN q).1 : Int)) ∧ Rd w' R (rdN q).2 ∧ MW.Touch w w' R := by
  obtain ⟨s, b⟩ := q
  have hg := get_calls s
  have hle := got_le s
  have hcut : RD.cut (s, b) (getL s.data.toList 0 0).2.1 = s.extract (((getL s.data.toList 0 0).2.1 : Nat) : Int).toNat s.size := rfl
  have hbad : (b || decide ((getL s.data.toList 0 0).2.2 ≠ 0)) = (b || decide ((((getL s.data.toList 0 0).2.2 : Nat) : Int) ≠ 0)) := by congr 1; rw [Bool.eq_iff_iff, decide_eq_true_eq, decide_eq_true_eq]; omega
  unfold rdN
  simp only
  rw [hcut, hbad]
  have n0 : (0 : Int) ≤ (((getL s.data.toList 0 0).2.1 : Nat) : Int) := by omega
  have n1 : (((getL s.data.toList 0 0).2.1 : Nat) : Int) ≤ (s.size : Int) := by have := hle.1; omega
  clear hle hcut hbad
  generalize (((getL s.data.toList 0 0).2.1 : Nat) : Int) = n at *
  generalize (((getL s.data.toList 0 0).1 : Nat) : Int) = v at *
  generalize (((getL s.data.toList 0 0).2.2 : Nat) : Int) = e0 at *
  have m0 : decide (0 ≤ n) = true := decide_eq_true n0
  have m1 : decide (n ≤ (s.size : Int)) = true := decide_eq_true n1
  have c0 : w.cell? ⟨R, 0, none⟩ = some (.string s) := (blk_cell hR 0).trans rfl
  have HR := aq hR
  have HG := aq hg
  clear hg hR
  cases b with
  | true =>
    go_enter Tryz.func34, Tryz.ntmps34
    go_upto_region 2 with (go_at_call 55; refine (HG.out _).mono ?_; rintro e w1 ⟨rfl, hb⟩; have HB := aq hb; have HR1 := aq (HR.out.below hb); clear hb)
    have c1 : w1.cell? ⟨R, 1, none⟩ = some (.bool true) := (blk_cell HR1.out 1).trans rfl
    have f1 := blk_frozen HR1.out 1
    have d0 : w1.cell? ⟨R, 0, none⟩ = some (.string s) := (blk_cell HR1.out 0).trans rfl
    have f0 := blk_frozen HR1.out 0
    go_wp2
    go_ret
    exact ⟨rfl, HR1.out.sets _ _, two_touch HB.out _ _⟩
  | false =>
    have hx : (false || decide (e0 ≠ 0)) = (e0 != 0) := by rw [Bool.eq_iff_iff]; simp
    rw [hx]
    go_enter Tryz.func34, Tryz.ntmps34
    go_upto_region 2 with (go_at_call 55; refine (HG.out _).mono ?_; rintro e w1 ⟨rfl, hb⟩; have HB := aq hb; have HR1 := aq (HR.out.below hb); clear hb)
    have c1 : w1.cell? ⟨R, 1, none⟩ = some (.bool false) := (blk_cell HR1.out 1).trans rfl
    have f1 := blk_frozen HR1.out 1
    have d0 : w1.cell? ⟨R, 0, none⟩ = some (.string s) := (blk_cell HR1.out 0).trans rfl
    have f0 := blk_frozen HR1.out 0
    go_wp2
    go_ret
    exact ⟨rfl, HR1.out.sets _ _, two_touch HB.out _ _⟩
set_option maxRecDepth 100000 in
theorem text_at (w : World) (R : Nat) (q : RD) (hR : Rd w R q) (hs : q.1.size ≤ 100000000000000) :
    Calls Tryz.prog 35 #[.pointer (some ⟨R, 0, none⟩)] w fun e w' => e = .returned (.string (rdT q).1) ∧ Rd w' R (rdT q).2 ∧ MW.Touch w w' R := by
  obtain ⟨s, b⟩ := q
  have hg := gettext_calls s hs
  have hn : 0 ≤ (textV s 65536).2.1 ∧ (textV s 65536).2.1 ≤ (s.size : Int) := by
    rcases textV_cases s 65536 with ⟨e, he, h⟩ | ⟨y, rest, h1, h2, h3, h4, h⟩
    · rw [h]; exact ⟨Int.le_refl _, by simp only; omega⟩
    · rw [h]; simp only; omega
  unfold rdT RD.cut
  simp only
  clear hs
  generalize textV s 65536 = g at *
  obtain ⟨v, n, e0⟩ := g
  simp only at hg hn ⊢
  obtain ⟨n0, n1⟩ := hn
  have m0 : decide (0 ≤ n) = true := decide_eq_true n0
  have m1 : decide (n ≤ (s.size : Int)) = true := decide_eq_true n1
  have c0 : w.cell? ⟨R, 0, none⟩ = some (.string s) := (blk_cell hR 0).trans rfl
  have HR := aq hR
  have HG := aq hg
  clear hg hR
  cases b with
  | true =>
    go_enter Tryz.func35, Tryz.ntmps35
    go_upto_region 2 with (go_at_call 56; refine (HG.out _).mono ?_; rintro e w1 ⟨rfl, hb⟩; have HB := aq hb; have HR1 := aq (HR.out.below hb); clear hb)
    have c1 : w1.cell? ⟨R, 1, none⟩ = some (.bool true) := (blk_cell HR1.out 1).trans rfl
    have f1 := blk_frozen HR1.out 1
    have d0 : w1.cell? ⟨R, 0, none⟩ = some (.string s) := (blk_cell HR1.out 0).trans rfl
    have f0 := blk_frozen HR1.out 0
    go_wp2
    go_ret
    exact ⟨rfl, HR1.out.sets _ _, two_touch HB.out _ _⟩
  | false =>
    have hx : (false || decide (e0 ≠ 0)) = (e0 != 0) := by rw [Bool.eq_iff_iff]; simp
    rw [hx]
    go_enter Tryz.func35, Tryz.ntmps35
    go_upto_region 2 with (go_at_call 56; refine (HG.out _).mono ?_; rintro e w1 ⟨rfl, hb⟩; have HB := aq hb; have HR1 := aq (HR.out.below hb); clear hb)
    have c1 : w1.cell? ⟨R, 1, none⟩ = some (.bool false) := (blk_cell HR1.out 1).trans rfl
    have f1 := blk_frozen HR1.out 1
    have d0 : w1.cell? ⟨R, 0, none⟩ = some (.string s) := (blk_cell HR1.out 0).trans rfl
    have f0 := blk_frozen HR1.out 0
    go_wp2
    go_ret
    exact ⟨rfl, HR1.out.sets _ _, two_touch HB.out _ _⟩
end Go.Proofs.YtflojfcioojgbaaGreatDoor.IM
namespace Go.Proofs.YtflojfcioojgbaaGreatDoor.IM
open Go.RowKit Go.Proofs.YtflojfcioojgbaaGreatDoor.P Go.Proofs.YtflojfcioojgbaaGreatDoorW.PrintWords Go.Proofs.YtflojfcioojgbaaGreatDoorW.PrintLast Go.Proofs.YtflojfcioojgbaaGreatDoorW.PrintMore Go.Proofs.YtflojfcioojgbaaGreatDoor.MW Go.Proofs.YtflojfcioojgbaaGreatDoor.M Go.Proofs.YtflojfcioojgbaaGreatDoor.ST
set_option linter.unusedVariables false
set_option linter.unusedSimpArgs false
structure RdS (u w : World) (Z R : Nat) (q : RD) : Prop where
  rd : Rd w R q
  z : w.heap[Z]? = some (.cells #[.int .u64 0, .int .u64 0, .slice none 0 0] 25 (0, 0))
  bel : Below u.heap.size u w
  ur : u.heap.size ≤ R
  sz : q.1.size ≤ 100000000000000
theorem RdS.zr {u w : World} {Z R : Nat} {q : RD} (h : RdS u w Z R q) : Z ≠ R := blk_ne h.z h.rd (by decide)
theorem RdS.below {u w w' : World} {Z R : Nat} {q : RD} (h : RdS u w Z R q) (hb : Below w.heap.size w w') : RdS u w' Z R q := ⟨h.rd.below hb, blk_below h.z hb, below_step h.bel hb, h.ur, h.sz⟩
theorem RdS.touch {u w w' : World} {Z R : Nat} {q q' : RD} (h : RdS u w Z R q) (hr : Rd w' R q') (ht : MW.Touch w w' R) (hq : q'.1.size ≤ q.1.size) : RdS u w' Z R q' :=
  ⟨hr, (ht.block Z (blk_lt h.z) h.zr).trans h.z, ht.below _ _ h.bel h.ur h.bel.size, h.ur, Nat.le_trans hq h.sz⟩
theorem cut_le (q : RD) (n : Nat) : (q.cut n).size ≤ q.1.size := by unfold RD.cut; rw [ByteArray.size_extract]; omega
theorem RdS.num {u w : World} {Z R : Nat} {q : RD} (h : RdS u w Z R q) : Calls Tryz.prog 34 #[.pointer (some ⟨R, 0, none⟩)] w fun e w' => e = .returned (.int .u64 ((rdN q).1 : Int)) ∧ RdS u w' Z R (rdN q).2 ∧ MW.Touch w w' R := by
  refine (number_at w R q h.rd).mono ?_
  rintro e w' ⟨rfl, h1, h2⟩
  exact ⟨rfl, h.touch h1 h2 (cut_le _ _), h2⟩
theorem RdS.text {u w : World} {Z R : Nat} {q : RD} (h : RdS u w Z R q) : Calls Tryz.prog 35 #[.pointer (some ⟨R, 0, none⟩)] w fun e w' => e = .returned (.string (rdT q).1) ∧ RdS u w' Z R (rdT q).2 ∧ MW.Touch w w' R := by
  refine (text_at w R q h.rd h.sz).mono ?_
  rintro e w' ⟨rfl, h1, h2⟩
  exact ⟨rfl, h.touch h1 h2 (cut_le _ _), h2⟩
theorem RdS.bad {u w : World} {Z R : Nat} {q : RD} (h : RdS u w Z R q) (b : Bool) : RdS u (w.setCell ⟨R, 1, none⟩ (.bool b)) Z R (q.1, b) := by
  refine h.touch ?_ ((MW.Touch.of_below R (Below.refl _ _)).set 1 _) (Nat.le_refl _)
  have h1 := blk_set h.rd 1 (.bool b)
  unfold Rd
  simpa using h1
structure ImS (u w : World) (Z R X : Nat) (q : RD) (en st : Int) (v : Value) (l : List S57) : Prop where
  base : RdS u w Z R q
  x : w.heap[X]? = some (.cells #[.int .u64 en, .int .u64 st, v] 25 (0, 0))
  own : Kd.R k57 57 w u.heap.size (fun _ => True) v l
  ux : u.heap.size ≤ X
  zx : Z ≠ X
theorem reg_types (t : Nat) (h : 57 ≠ t) : ∀ q, q ∈ 57 :: (k57).E → q ≠ t := by
  intro q hq
  have : q = 57 := by simpa [k57, Kd.iso, Kd.pair, Kd.int, Kd.scalar, Kd.string] using hq
  rw [this]
  exact h
theorem ImS.touch {u w w' : World} {Z R X : Nat} {q q' : RD} {en st : Int} {v : Value} {l : List S57} (h : ImS u w Z R X q en st v l) (hb : RdS u w' Z R q') (ht : MW.Touch w w' R) : ImS u w' Z R X q' en st v l :=
  ⟨hb, (ht.block X (blk_lt h.x) (blk_ne h.x h.base.rd (by decide))).trans h.x,
    Kd.R_mono (Kd.R_keep (Kd.R_types h.own h.base.rd (reg_types _ (by decide))) (g := R) ⟨ht.size, fun i hi hn _ => ht.block i hi hn⟩ (fun _ hk => hk.2)) (fun _ hk => hk.1), h.ux, h.zx⟩
theorem ImS.below {u w w' : World} {Z R X : Nat} {q : RD} {en st : Int} {v : Value} {l : List S57} (h : ImS u w Z R X q en st v l) (hb : Below w.heap.size w w') : ImS u w' Z R X q en st v l :=
  ⟨h.base.below hb, blk_below h.x hb, Kd.R_below h.own hb, h.ux, h.zx⟩
theorem ImS.bad {u w : World} {Z R X : Nat} {q : RD} {en st : Int} {v : Value} {l : List S57} (h : ImS u w Z R X q en st v l) (b : Bool) : ImS u (w.setCell ⟨R, 1, none⟩ (.bool b)) Z R X (q.1, b) en st v l :=
  h.touch (h.base.bad b) ((MW.Touch.of_below R (Below.refl _ _)).set 1 _)
theorem ImS.put {u w w1 : World} {Z R X : Nat} {q : RD} {en st : Int} {v v1 : Value} {l l1 : List S57} (h : ImS u w Z R X q en st v l) (ho : Kd.R k57 57 w1 u.heap.size (fun _ => True) v1 l1) (hb : Below u.heap.size u w1) (hg : w.grownBy w1 v.ownBlock) :
    w1.heap[X]? = some (.cells #[.int .u64 en, .int .u64 st, v] 25 (0, 0)) ∧ ImS u (w1.setCell ⟨X, 2, none⟩ v1) Z R X q en st v1 l1 := by
  have nx : some X ≠ v.ownBlock := Kd.R_ne h.own h.x (by decide)
  have nz : some Z ≠ v.ownBlock := Kd.R_ne h.own h.base.z (by decide)
  have nr : some R ≠ v.ownBlock := Kd.R_ne h.own h.base.rd (by decide)
  have hx := (hg.block X (blk_lt h.x) nx).trans h.x
  have hz := (hg.block Z (blk_lt h.base.z) nz).trans h.base.z
  have hr : Rd w1 R q := (hg.block R (blk_lt h.base.rd) nr).trans h.base.rd
  have hxr : R ≠ X := blk_ne hr hx (by decide)
  refine ⟨hx, ⟨(Below.heap_setCell w1 ⟨X, 2, none⟩ v1 R hxr).trans hr, (Below.heap_setCell w1 ⟨X, 2, none⟩ v1 Z h.zx).trans hz, hb.setCell (p := ⟨X, 2, none⟩) h.ux v1, h.base.ur, h.base.sz⟩, ?_, Kd.R_set ho hx (reg_types _ (by decide)) 2 v1, h.ux, h.zx⟩
  have := blk_set hx 2 v1
  simpa using this
theorem cutpre_f (s : ByteArray) : strings_CutPrefix.f s ⟨#[67, 76, 73, 77, 71, 1]⟩ = some ((rd0 s).1, !(rd0 s).2) := by
  have hz : (⟨#[67, 76, 73, 77, 71, 1]⟩ : ByteArray).size = 6 := rfl
  have hd : (⟨#[67, 76, 73, 77, 71, 1]⟩ : ByteArray).toList = magicL := by rw [ByteArray.toList_eq]; rfl
  have hl := bsz s
  unfold strings_CutPrefix.f stringslite_CutPrefix.f stringslite_HasPrefix.f rd0
  rw [hz, hd]
  by_cases h6 : 6 ≤ s.size
  · rw [if_pos (show (s.size : Int) ≥ ((6 : Nat) : Int) by omega), if_pos (by decide), if_pos (show ((6 : Nat) : Int) ≤ (s.size : Int) by omega)]
    have he : (s.extract 0 (((6 : Nat) : Int)).toNat).toList = s.data.toList.take 6 := by
      rw [ByteArray.toList_eq, Lib.extract_data]
      simp
    rw [he]
    by_cases hm : s.data.toList.take 6 = magicL
    · rw [if_pos hm, hm]
      simp only [Option.bind_some, beq_self_eq_true, if_true]
      rw [if_pos (by decide), if_pos (show ((6 : Nat) : Int) ≤ (s.size : Int) by omega)]
      rfl
    · rw [if_neg hm]
      have : (s.data.toList.take 6 == magicL) = false := by simpa using hm
      rw [this]
      rfl
  · rw [if_neg (show ¬ (s.size : Int) ≥ ((6 : Nat) : Int) by omega)]
    have hm : ¬ s.data.toList.take 6 = magicL := by
      intro h
      have := congrArg List.length h
      rw [List.length_take, hl] at this
      simp only [magicL, List.length_cons, List.length_nil] at this
      omega
    rw [if_neg hm]
    rfl
theorem cutpre_calls (s : ByteArray) (w : World) : Calls Tryz.prog 33 #[.string s, .string ⟨#[67, 76, 73, 77, 71, 1]⟩] w fun e w' => e = .returned (.tuple #[.string (rd0 s).1, .bool (!(rd0 s).2)]) ∧ Below w.heap.size w w' := by
  refine (strings_CutPrefix.calls s _ _ _ w (cutpre_f s)).mono ?_
  rintro e w' ⟨rfl, hd⟩
  exact ⟨rfl, hd.below⟩
def getR.T : Bool × List (List Nat × List Nat) := (true, [([], []), ([0], [0]), ([], []), ([], []), ([3], [3]), ([], []), ([5], [5]), ([2, 4, 6], [2, 4, 6]), ([7], [7]), ([1, 8, 6], [1, 8]), ([0, 1, 2, 3, 4, 5, 6, 7, 8, 9], []), ([10, 9, 9, 0, 1, 2, 3, 4, 5, 6, 7, 8, 9], [9, 10])])
def getR.B : List Nat := [0, 1, 0, 0, 8, 0, 32, 124, 252, 511, 1023, 2047]
theorem getR.tab : rtab .any (opsOf Tryz.f13 12) = getR.T := by kernel_rfl
theorem getR.bits : waitsOk getR.T.2 getR.B = true := by kernel_rfl
theorem ld_segsV (b j : Nat) (v : Value) (w : World) (h : w.cell? ⟨b, j, none⟩ = some v) : Sem.run Tryz.prog (Instr.loadAt 23 (.pointer (some ⟨b, j, none⟩))) w = .ok v w := by go_simp
theorem rd0_le (s : ByteArray) : (rd0 s).1.size ≤ s.size := by
  unfold rd0
  split
  · rw [ByteArray.size_extract]; omega
  · exact Nat.le_refl _
theorem RdS.new {u w1 : World} {Z : Nat} (hz : w1.heap[Z]? = some (.cells #[.int .u64 0, .int .u64 0, .slice none 0 0] 25 (0, 0))) (hb : Below u.heap.size u w1) (q : RD) (hq : q.1.size ≤ 100000000000000) :
    RdS u (w1.alloc (.cells #[.string q.1, .bool q.2] 80)) Z w1.heap.size q := ⟨blk_new _ _, blk_alloc hz _, below_alloc hb _, hb.size, hq⟩
theorem ImS.new {u w1 : World} {Z R : Nat} {q : RD} (h : RdS u w1 Z R q) (en st : Int) : ImS u (w1.alloc (.cells #[.int .u64 en, .int .u64 st, .slice none 0 0] 25)) Z R w1.heap.size q en st (.slice none 0 0) [] :=
  ⟨h.below (below_alloc (Below.refl _ _) _), blk_new _ _, Kd.R_nil _ _ _ _ _, h.bel.size, Nat.ne_of_lt (blk_lt h.z)⟩
def imgA (a b : Int) (v : Value) : Array Value := #[.int .u64 a, .int .u64 b, v]
theorem info_img : (Tryz.prog.info? 25).map (·.size) = some 3 := by kernel_rfl
theorem under_img : Tryz.prog.underlying 25 = some (.struct (match Tryz.prog.underlying 25 with | some (.struct fs) => fs | _ => #[])) := by kernel_rfl
theorem img_one (a b : Int) (A : Option Addr) (n c : Nat) : (imgA a b (.slice A n c)).all (·.oneCell') = true := by simp [imgA, Value.oneCell']
theorem img_sets {w : World} {Z : Nat} {cs : Array Value} (h : w.heap[Z]? = some (.cells cs 25 (0, 0))) (hc : cs.size = 3) (a b : Int) (v : Value) : (w.setCells Z 0 (imgA a b v).toList).heap[Z]? = some (.cells (imgA a b v) 25 (0, 0)) := by
  have h1 := blk_sets (imgA a b v).toList 0 h
  rw [h1]
  congr 2
  obtain ⟨l⟩ := cs
  match l, hc with
  | [x, y, z], _ => simp [sets, imgA]
def GotP (s : ByteArray) (w : World) (e : Ending) (w' : World) : Prop := Below w.heap.size w w' ∧ ∃ v, e = .returned (.tuple #[.agg #[.int .u64 (getI s).1.en, .int .u64 (getI s).1.st, v], .int .i64 (getI s).2]) ∧ Kd.R k57 57 w' w.heap.size (fun _ => True) v (getI s).1.l
theorem sets_far {b i : Nat} (hi : i ≠ b) : ∀ (vs : List Value) (o : Nat) {w : World}, (w.setCells b o vs).heap[i]? = w.heap[i]?
  | [], _, _ => rfl
  | v :: vs, o, w => (sets_far hi vs (o + 1)).trans (Below.heap_setCell w ⟨b, o, none⟩ v i hi)
theorem got_bad {s : ByteArray} {u w : World} (hb : Below u.heap.size u w) (hg : getI s = (zeroI, 3)) :
    GotP s u (.returned (.tuple #[.agg (imgA 0 0 (.slice none 0 0)), .int .i64 3])) (w.setCells u.heap.size 0 (imgA 0 0 (.slice none 0 0)).toList) :=
  ⟨below_sets (Nat.le_refl _) _ 0 hb, .slice none 0 0, by rw [hg]; rfl, by rw [hg]; exact Kd.R_nil _ _ _ _ _⟩
theorem got_ok {s : ByteArray} {u w : World} {R X : Nat} {q : RD} {en st : Int} {A : Option Addr} {c : Nat} {l : List S57} (h : ImS u w u.heap.size R X q en st (.slice A l.length c) l) (hg : getI s = (⟨en, st, l⟩, 0)) :
    GotP s u (.returned (.tuple #[.agg (imgA en st (.slice A l.length c)), .int .i64 0])) (w.setCells u.heap.size 0 (imgA en st (.slice A l.length c)).toList) := by
  refine ⟨below_sets (Nat.le_refl _) _ 0 h.base.bel, .slice A l.length c, by rw [hg]; rfl, ?_⟩
  rw [hg]
  have h1 := Kd.R_types h.own h.base.z (reg_types _ (by decide))
  exact Kd.R_mono (Kd.R_keep h1 (g := u.heap.size) ⟨Nat.le_of_eq (size_sets _ _ _ _).symm, fun i _ hi _ => sets_far hi _ _⟩ (fun _ hk => hk.2)) (fun _ hk => hk.1)
set_option maxHeartbeats 4000000 in
set_option maxRecDepth 100000 in
theorem get_at (w : World) (s : ByteArray) (hs : s.size ≤ 100000000000000) : Calls Tryz.prog 13 #[.string s] w (GotP s w) := by
  have HC := aq (cutpre_calls s)
  have HZ := aq (blk_new w (.cells #[.int .u64 0, .int .u64 0, .slice none 0 0] 25))
  have HB0 := aq (below_alloc (Below.refl w.heap.size w) (.cells #[.int .u64 0, .int .u64 0, .slice none 0 0] 25))
  have hq0 := rd0_le s
  have HI := aq (show rdI s = (⟨((rdN (rd0 s)).1 : Int), ((rdN (rdN (rd0 s)).2).1 : Int), (rdRs (min (rdN (rdN (rdN (rd0 s)).2).2).1 256) ((rdN (rdN (rdN (rd0 s)).2).2).2.1, (rdN (rdN (rdN (rd0 s)).2).2).2.2 || decide (256 < (rdN (rdN (rdN (rd0 s)).2).2).1)) []).1⟩, (rdRs (min (rdN (rdN (rdN (rd0 s)).2).2).1 256) ((rdN (rdN (rdN (rd0 s)).2).2).2.1, (rdN (rdN (rdN (rd0 s)).2).2).2.2 || decide (256 < (rdN (rdN (rdN (rd0 s)).2).2).1)) []).2) from rfl)
  generalize rd0 s = q0 at *
  have hq1 : q0.1.size ≤ 100000000000000 := Nat.le_trans hq0 hs
  have HQ0 := aq hq1
  clear hq0 hq1
  go_enter Tryz.func13, Tryz.ntmps13
  go_upto_region 1 with fail
  generalize w.alloc (.cells #[.int .u64 0, .int .u64 0, .slice none 0 0] 25) = w0 at *
  go_upto_region 2 with (go_at_call 33; refine (HC.out _).mono ?_; rintro e w1 ⟨rfl, hb⟩; have HZ1 := aq (blk_below HZ.out hb); have HB1 := aq (below_step HB0.out hb); clear hb)
  clear HZ HB0 HC
  go_upto_region 4 with fail
  have HS := aq (RdS.new HZ1.out HB1.out q0 HQ0.out)
  clear HZ1 HB1 HQ0
  generalize w1.alloc (.cells #[.string q0.1, .bool q0.2] 80) = w2 at *
  generalize w1.heap.size = R at *
  go_upto_region 5 with (go_at_call 34; refine (HS.out.num).mono ?_; rintro e w3 ⟨rfl, g, -⟩; have HS1 := aq g; clear HS g; have HS := HS1; clear HS1)
  generalize ((rdN q0).1 : Int) = en at *
  generalize ((rdN (rdN q0).2).1 : Int) = st at *
  generalize (rdN (rdN q0).2).2 = q2 at *
  have HX := aq (ImS.new HS.out en st)
  clear HS
  generalize w3.alloc (.cells #[.int .u64 en, .int .u64 st, .slice none 0 0] 25) = w5 at *
  generalize w3.heap.size = X at *
  go_upto_region 6 with (go_at_call 34; refine (HX.out.base.num).mono ?_; rintro e w6 ⟨rfl, g1, g2⟩; have HX1 := aq (HX.out.touch g1 g2); clear HX g1 g2; have HX := HX1; clear HX1)
  have hn1 : (rdN q2).1 < 18446744073709551616 := (got_le q2.1).2
  generalize hn : (rdN q2).1 = n at *
  generalize (rdN q2).2 = q3 at *
  clear hn
  go_cut [9] (fun s9 wx => s9 = .int .u64 (n : Int) ∧ Aside0 (ImS w wx w.heap.size R X (q3.1, q3.2 || decide (256 < n)) en st (.slice none 0 0) []))
  case first =>
    have c1 : w6.cell? ⟨R, 1, none⟩ = some (.bool q3.2) := (blk_cell HX.out.base.rd 1).trans rfl
    have f1 := blk_frozen HX.out.base.rd 1
    cases hb : q3.2 with
    | true =>
      rw [hb] at c1
      have hb' : (q3.2 || decide (256 < n)) = (true || decide (256 < n)) := by rw [hb]
      rw [Bool.true_or] at hb'
      clear hb
      go_wp2
      go_meet
      exact ⟨rfl, ⟨by rw [hb']; exact HX.out.bad true⟩⟩
    | false =>
      rw [hb] at c1
      have hb' : (q3.2 || decide (256 < n)) = (false || decide (256 < n)) := by rw [hb]
      clear hb
      go_wp2
      go_meet
      have e : (false || decide (256 < n)) = decide (256 < (n : Int)) := by rw [Bool.false_or, Bool.eq_iff_iff, decide_eq_true_eq, decide_eq_true_eq]; omega
      exact ⟨rfl, ⟨by rw [hb', e]; exact HX.out.bad _⟩⟩
  case rest =>
    obtain ⟨rfl, HY⟩ := hcut
    clear HX
    have hin := hn1
    have em : min (n : Int) 256 = ((min n 256 : Nat) : Int) := by omega
    have hm : min n 256 ≤ 256 := by omega
    generalize (q3.1, q3.2 || decide (256 < n)) = q4 at *
    generalize min n 256 = m at *
    have HM := aq hm
    clear hin hn1 hm
    go_wp2
    go_loopg [44] m (fun kq v44 wx => ∃ (i : Nat) (q : RD) (v : Value) (l : List S57), v44 = .int .u64 (i : Int) ∧ i + kq = m ∧ Aside0 (rdRs kq q l = rdRs m q4 []) ∧ Aside0 (ImS w wx w.heap.size R X q en st v l) ∧ Aside0 (l.length ≤ i))
    case atStart => exact ⟨0, q4, _, _, rfl, by omega, ⟨rfl⟩, HY, ⟨Nat.le_refl _⟩⟩
    case round =>
      obtain ⟨i, q, v, l, rfl, hik, HRQ, HQ, HLI⟩ := hrel
      have HIK := aq hik
      cases gk with
      | zero =>
        have hin : ¬ (i < m) := by omega
        have HE := aq (show rdI s = (⟨en, st, l⟩, q) by rw [HI.out, ← HRQ.out]; rfl)
        clear hik
        have c1 : wr.cell? ⟨R, 1, none⟩ = some (.bool q.2) := (blk_cell HQ.out.base.rd 1).trans rfl
        have HQZ := aq HQ.out.base.z
        cases hb : q.2 with
        | true =>
          rw [hb] at c1
          have HG := aq (show getI s = (zeroI, 3) by unfold getI; rw [if_pos (.inl (by rw [HE.out]; exact hb))])
          clear hb
          go_wp2_with ((with_reducible refine gate_store (t := 25) (p := 2) (v := .tmp 93) rfl ?_); refine wpList_store_mid rfl 25 (.tmp 2) (.tmp 93) rfl w.heap.size 0 (imgA 0 0 (.slice none 0 0)) rfl rfl (there_blk HQZ.out 0 3 (by decide)) info_img (img_one 0 0 none 0 0) ?_)
          refine bodyPost_ret (results_list (rs := [.cell 2 25, .tmp 3]) rfl (by simp) (.cell w.heap.size 25 (imgA 0 0 (.slice none 0 0)) (0, 0) _ rfl (img_sets HQZ.out rfl _ _ _) under_img rfl info_img (.tmp .nil))) rfl ?_
          exact got_bad HQ.out.base.bel HG.out
        | false =>
          rw [hb] at c1
          have HB := aq hb
          clear hb
          have c0 : wr.cell? ⟨R, 0, none⟩ = some (.string q.1) := (blk_cell HQ.out.base.rd 0).trans rfl
          by_cases hz : q.1.size = 0
          · have hnums : IMG.nums ⟨en, st, l⟩ := by have := (rdI_ok (s := s) (by rw [HE.out]; exact HB.out)).1; rw [HE.out] at this; exact this
            have hl300 : l.length ≤ 300 := by have := HLI.out; have := HM.out; have := HIK.out; omega
            obtain ⟨A, c, hv, hlc, hCl⟩ := Kd.R_reads HQ.out.own
            subst hv
            have HIS := aq (is_at wr en st A c l hCl hlc hl300 hnums)
            have x0 : wr.cell? ⟨X, 0, none⟩ = some (.int .u64 en) := (blk_cell HQ.out.x 0).trans rfl
            have x1 : wr.cell? ⟨X, 1, none⟩ = some (.int .u64 st) := (blk_cell HQ.out.x 1).trans rfl
            have x2 : wr.cell? ⟨X, 2, none⟩ = some (.slice A l.length c) := (blk_cell HQ.out.x 2).trans rfl
            have z3 : q.1.toList.isEmpty = true := by rw [ByteArray.toList_eq]; cases hq : q.1.data.toList with | nil => rfl | cons a b => have := bsz q.1; rw [hq, hz] at this; simp at this
            cases hk : okI ⟨en, st, l⟩ with
            | true =>
              rw [hk] at HIS
              have HG := aq (show getI s = (⟨en, st, l⟩, 0) by unfold getI; rw [if_neg (by rw [HE.out]; rintro (h | h | h); (· rw [HB.out] at h; cases h); (· exact h hz); (· simp only at h; rw [hk] at h; cases h)), HE.out])
              clear hk hnums hl300 hlc hCl hz
              go_upto_region 16 with (go_at_call 12; refine HIS.out.mono ?_; rintro e wz ⟨rfl, hb⟩; have HQ2 := aq (HQ.out.below hb); have HZ2 := aq HQ2.out.base.z; clear hb)
              clear x0 x1 x2
              have y0 : wz.cell? ⟨X, 0, none⟩ = some (.int .u64 en) := (blk_cell HQ2.out.x 0).trans rfl
              have y1 : wz.cell? ⟨X, 1, none⟩ = some (.int .u64 st) := (blk_cell HQ2.out.x 1).trans rfl
              have y2 : wz.cell? ⟨X, 2, none⟩ = some (.slice A l.length c) := (blk_cell HQ2.out.x 2).trans rfl
              go_wp2_with ((with_reducible refine gate_store (t := 25) (p := 2) (v := .tmp 94) rfl ?_); refine wpList_store_mid rfl 25 (.tmp 2) (.tmp 94) rfl w.heap.size 0 (imgA en st (.slice A l.length c)) rfl rfl (there_blk HZ2.out 0 3 (by decide)) info_img (img_one _ _ _ _ _) ?_)
              refine bodyPost_ret (results_list (rs := [.cell 2 25, .tmp 3]) rfl (by simp) (.cell w.heap.size 25 (imgA en st (.slice A l.length c)) (0, 0) _ rfl (img_sets HZ2.out rfl _ _ _) under_img rfl info_img (.tmp .nil))) rfl ?_
              exact got_ok HQ2.out HG.out
            | false =>
              rw [hk] at HIS
              have HG := aq (show getI s = (zeroI, 3) by unfold getI; rw [if_pos (.inr (.inr (by rw [HE.out]; exact hk)))])
              clear hk hnums hl300 hlc hCl hz
              go_wp2_with (first | (go_at_call 12; refine HIS.out.mono ?_; rintro e wz ⟨rfl, hb⟩; have HQ2 := aq (HQ.out.below hb); have HZ2 := aq HQ2.out.base.z; clear hb) | ((with_reducible refine gate_store (t := 25) (p := 2) (v := .tmp 93) rfl ?_); refine wpList_store_mid rfl 25 (.tmp 2) (.tmp 93) rfl w.heap.size 0 (imgA 0 0 (.slice none 0 0)) rfl rfl (there_blk HZ2.out 0 3 (by decide)) info_img (img_one 0 0 none 0 0) ?_))
              refine bodyPost_ret (results_list (rs := [.cell 2 25, .tmp 3]) rfl (by simp) (.cell w.heap.size 25 (imgA 0 0 (.slice none 0 0)) (0, 0) _ rfl (img_sets HZ2.out rfl _ _ _) under_img rfl info_img (.tmp .nil))) rfl ?_
              exact got_bad HQ2.out.base.bel HG.out
          · have z3 : q.1.toList.isEmpty = false := by rw [ByteArray.toList_eq]; cases hq : q.1.data.toList with | nil => exact absurd (by rw [← bsz q.1, hq]; rfl) hz | cons a b => rfl
            have HG := aq (show getI s = (zeroI, 3) by unfold getI; rw [if_pos (.inr (.inl (by rw [HE.out]; exact hz)))])
            clear hz
            go_wp2_with ((with_reducible refine gate_store (t := 25) (p := 2) (v := .tmp 93) rfl ?_); refine wpList_store_mid rfl 25 (.tmp 2) (.tmp 93) rfl w.heap.size 0 (imgA 0 0 (.slice none 0 0)) rfl rfl (there_blk HQZ.out 0 3 (by decide)) info_img (img_one 0 0 none 0 0) ?_)
            refine bodyPost_ret (results_list (rs := [.cell 2 25, .tmp 3]) rfl (by simp) (.cell w.heap.size 25 (imgA 0 0 (.slice none 0 0)) (0, 0) _ rfl (img_sets HQZ.out rfl _ _ _) under_img rfl info_img (.tmp .nil))) rfl ?_
            exact got_bad HQ.out.base.bel HG.out
      | succ kq =>
        have hin : i < m := by omega
        clear hik
        have c1 : wr.cell? ⟨R, 1, none⟩ = some (.bool q.2) := (blk_cell HQ.out.base.rd 1).trans rfl
        have HQZ := aq HQ.out.base.z
        cases hb : q.2 with
        | true =>
          rw [hb] at c1
          have HE := aq (show rdI s = (⟨en, st, l⟩, q) by rw [HI.out, ← HRQ.out, rdRs, if_pos hb])
          have HG := aq (show getI s = (zeroI, 3) by unfold getI; rw [if_pos (.inl (by rw [HE.out]; exact hb))])
          clear hb
          go_wp2_with ((with_reducible refine gate_store (t := 25) (p := 2) (v := .tmp 93) rfl ?_); refine wpList_store_mid rfl 25 (.tmp 2) (.tmp 93) rfl w.heap.size 0 (imgA 0 0 (.slice none 0 0)) rfl rfl (there_blk HQZ.out 0 3 (by decide)) info_img (img_one 0 0 none 0 0) ?_)
          refine bodyPost_ret (results_list (rs := [.cell 2 25, .tmp 3]) rfl (by simp) (.cell w.heap.size 25 (imgA 0 0 (.slice none 0 0)) (0, 0) _ rfl (img_sets HQZ.out rfl _ _ _) under_img rfl info_img (.tmp .nil))) rfl ?_
          exact got_bad HQ.out.base.bel HG.out
        | false =>
          rw [hb] at c1
          have HRR := aq (show rdRs (kq + 1) q l = rdRs kq (rdT ((rdN (rdN q).2).2.1, (rdN (rdN q).2).2.2 || decide (3 < (rdN (rdN q).2).1))).2 (l ++ [⟨((rdN q).1 : Int), IntKind.i64.wrap ((rdN (rdN q).2).1 : Int), (rdT ((rdN (rdN q).2).2.1, (rdN (rdN q).2).2.2 || decide (3 < (rdN (rdN q).2).1))).1⟩]) by rw [rdRs, if_neg (by rw [hb]; decide)]; rfl)
          have hk1 : (rdN (rdN q).2).1 < 18446744073709551616 := (got_le (rdN q).2.1).2
          clear hb HQZ
          go_upto_region 11 with (go_at_call 34; refine (HQ.out.base.num).mono ?_; rintro e wn ⟨rfl, g1, g2⟩; have HQn := aq (HQ.out.touch g1 g2); clear HQ g1 g2; have HQ := HQn; clear HQn)
          clear c1
          generalize ((rdN q).1 : Int) = at_ at *
          generalize (rdN (rdN q).2).1 = kd at *
          generalize (rdN (rdN q).2).2 = qk at *
          go_cut [10, 11] (fun s10 s11 wx => s10 = .int .u64 at_ ∧ s11 = .int .u64 (kd : Int) ∧ Aside0 (ImS w wx w.heap.size R X (qk.1, qk.2 || decide (3 < kd)) en st v l))
          case first =>
            have c1 : wn.cell? ⟨R, 1, none⟩ = some (.bool qk.2) := (blk_cell HQ.out.base.rd 1).trans rfl
            have f1 := blk_frozen HQ.out.base.rd 1
            cases hb : qk.2 with
            | true =>
              rw [hb] at c1
              have hb' : (qk.2 || decide (3 < kd)) = true := by rw [hb, Bool.true_or]
              clear hb
              go_wp2
              go_meet
              exact ⟨rfl, rfl, ⟨by rw [hb']; exact HQ.out.bad true⟩⟩
            | false =>
              rw [hb] at c1
              have hb' : (qk.2 || decide (3 < kd)) = decide (3 < (kd : Int)) := by rw [hb, Bool.false_or, Bool.eq_iff_iff, decide_eq_true_eq, decide_eq_true_eq]; omega
              clear hb
              go_wp2
              go_meet
              exact ⟨rfl, rfl, ⟨by rw [hb']; exact HQ.out.bad _⟩⟩
          case rest =>
            obtain ⟨rfl, rfl, HQ1⟩ := hcut
            clear HQ
            generalize (qk.1, qk.2 || decide (3 < kd)) = qt at *
            generalize hkk : IntKind.i64.wrap (kd : Int) = kk at *
            go_upto_region 12 with fail
            have HB0 := aq (Below.refl wc.heap.size wc)
            obtain ⟨A0, c0, hv0⟩ := Kd.R_slice HQ1.out.own
            subst hv0
            refine start_ (n := 12) (S := fun w' => w'.cell? ⟨X, 2, none⟩ = some (.slice A0 l.length c0)) (ds := [9, 11]) #[false, false, false, false, false, false, false, false, false, false, false, false] (by kernel_rfl) rfl rfl ((blk_cell HQ1.out.x 2).trans rfl) (fun hHeld => ?_); refine with_tabW getR.tab getR.bits (fun HT_ HW_ => ?_)
            refine pu_ (i := 0) (N := some 65) (v := _) (any_of HT_.out (by kernel_rfl)) rfl rfl (by rfl) (fun _ _ _ h => h) (fun w' => by go_simp; with_reducible rfl) ?_; simp only [Act.put, List.setIfInBounds_toArray, List.set_cons_zero, List.set_cons_succ]
            refine tk_ (i := 1) (N := 66) (t := 23) (p := .tmp 65) (v := .slice A0 l.length c0) (take_ofW HT_.out HW_.out (by kernel_rfl)) rfl (fun _ _ _ h => h) hHeld ?_ ?_; · exact fun w' h' => ld_segsV X 2 _ w' h'
            simp only [Act.put, List.setIfInBounds_toArray, List.set_cons_zero, List.set_cons_succ]
            refine pu_ (i := 2) (N := some 67) (v := _) (any_of HT_.out (by kernel_rfl)) rfl rfl (by rfl) (fun _ _ _ h => h) (fun w' => by go_simp; with_reducible rfl) ?_; simp only [Act.put, List.setIfInBounds_toArray, List.set_cons_zero, List.set_cons_succ]
            refine pu_ (i := 3) (N := some 68) (v := _) (any_of HT_.out (by kernel_rfl)) rfl rfl (by rfl) (fun _ _ _ h => h) (fun w' => by go_simp; with_reducible rfl) ?_; simp only [Act.put, List.setIfInBounds_toArray, List.set_cons_zero, List.set_cons_succ]
            refine pu_ (i := 4) (N := some 69) (v := _) (any_of HT_.out (by kernel_rfl)) rfl rfl (by rfl) (fun _ _ _ h => h) (fun w' => by go_simp; with_reducible rfl) ?_; simp only [Act.put, List.setIfInBounds_toArray, List.set_cons_zero, List.set_cons_succ]
            refine pu_ (i := 5) (N := some 70) (v := _) (any_of HT_.out (by kernel_rfl)) rfl rfl (by rfl) (fun _ _ _ h => h) (fun w' => by go_simp; with_reducible rfl) ?_; simp only [Act.put, List.setIfInBounds_toArray, List.set_cons_zero, List.set_cons_succ]
            refine cl_ (i := 6) (N := some 71) 35 #[.pointer (some ⟨R, 0, none⟩)] (one_of HT_.out (by kernel_rfl)) rfl rfl (by decide) (by rfl) (by unfold execOp; go_simp) (HQ1.out.below (below_drew1 (Below.refl _ _))).base.text ?_; rintro e w7 ⟨rfl, g1, g2⟩; have HT := aq ((HQ1.out.below (below_drew1 (Below.refl _ _))).touch g1 g2); refine ⟨_, rfl, (blk_cell HT.out.x 2).trans rfl, fun hHeld => ?_⟩; simp only [Act.put, List.setIfInBounds_toArray, List.set_cons_zero, List.set_cons_succ]
            generalize (rdT qt).1 = tx at *
            generalize (rdT qt).2 = qn at *
            refine pu_ (i := 7) (N := some 72) (v := _) (any_of HT_.out (by kernel_rfl)) rfl rfl (by rfl) (fun _ _ _ h => h) (fun w' => by go_simp; with_reducible rfl) ?_; simp only [Act.put, List.setIfInBounds_toArray, List.set_cons_zero, List.set_cons_succ]
            refine one_ (i := 8) (N := some 73) #[true, true, true, true, true, true, true, true, true, false, false, false] rfl rfl (one_of HT_.out (by kernel_rfl)) (by decide) (fun K hK => ?_)
            rw [if_pos (by rfl)]
            unfold Oper.wp
            go_simp
            refine hK.out _ _ (pw_cell_below (below_alloc (Below.refl _ _) _) hHeld) (fun hHeld2 => ?_)
            clear hK K
            refine last_ (i := 9) (N := some 74) #[true, true, true, true, true, true, true, true, true, true, false, false] rfl rfl (one_of HT_.out (by kernel_rfl)) (by decide) (fun K hK => ?_)
            refine Kd.R_append_step k57 (w0 := w) w.heap.size (by rfl) (.tmp 66) (.tmp 73) 23 57 (.agg #[(.int .u64 0), (.int .i64 0), (.string ⟨#[]⟩)]) 32 rfl Tryz.underlying23 info_reg rfl (by decide) (by omega) (.slice A0 l.length c0) l (⟨at_, kk, tx⟩ : S57) [.int .u64 at_, .int .i64 kk, .string tx] (fun _ => True) (fun _ => False) rfl rfl (k57_mkM _ _ _ _) (fun _ hk => hk.elim) (fun _ _ => trivial) HT.out.own HT.out.base.bel HT.out.base.bel.size ?aL ?_
            case aL => have := HLI.out; have := HM.out; have := HIK.out; omega
            intro v1 w8 ho hb hg hat
            have hp := HT.out.put ho hb hg
            have m0 : w8.cell? ⟨X, 2, none⟩ = some (.slice A0 l.length c0) := (blk_cell hp.1 2).trans rfl
            have m1 : w8.frozen? ⟨X, 2, none⟩ = false := blk_frozen hp.1 2
            have HP := aq hp.2
            obtain ⟨A1, c1, hv1⟩ := Kd.R_slice ho
            subst hv1
            clear ho hb hg hat hp
            refine hK.out _ _ ?_
            clear hK K
            refine norm_ (a' := ?_) ?_ ?_
            rotate_left
            · show Act.put _ (some 74) _ = _
              simp only [Act.put, List.setIfInBounds_toArray, List.set_cons_zero, List.set_cons_succ]
              rfl
            refine pu_ (i := 10) (N := some 75) (v := _) (any_of HT_.out (by kernel_rfl)) rfl rfl (by rfl) (fun _ _ _ h => h) (fun w' => by go_simp; with_reducible rfl) ?_; simp only [Act.put, List.setIfInBounds_toArray, List.set_cons_zero, List.set_cons_succ]
            refine last_ (i := 11) (N := none) #[true, true, true, true, true, true, true, true, true, true, true, true] rfl rfl (one_of HT_.out (by kernel_rfl)) (by decide) (fun K hK => ?_)
            rw [if_pos (by rfl)]
            unfold Oper.wp
            go_simp
            refine hK.out _ _ ?_
            clear hK K
            refine done_ (done_of HT_.out (by kernel_rfl)) ?_
            have hz : i < 300 := by have := HM.out; omega
            go_wp2
            go_roundg kq
            case measure => omega
            case rel =>
              have hp2 := HP.out
              rw [show (l ++ [(⟨at_, kk, tx⟩ : S57)]).length = l.length + 1 by simp] at hp2
              refine ⟨i + 1, qn, _, _, rfl, by have := HIK.out; omega, ⟨HRR.out.symm.trans HRQ.out⟩, ⟨hp2⟩, ⟨by have := HLI.out; rw [List.length_append, List.length_singleton]; omega⟩⟩
end Go.Proofs.YtflojfcioojgbaaGreatDoor.IM
namespace Go.Proofs.YtflojfcioojgbaaGreatDoor.ST
open Go.RowKit Go.Proofs.YtflojfcioojgbaaGreatDoor.P Go.Proofs.YtflojfcioojgbaaGreatDoorW.PrintWords Go.Proofs.YtflojfcioojgbaaGreatDoorW.PrintLast Go.Proofs.YtflojfcioojgbaaGreatDoorW.PrintMore Go.Proofs.YtflojfcioojgbaaGreatDoor.MW
set_option linter.unusedVariables false
set_option linter.unusedSimpArgs false
def evA (k v : Int) : Array Value := #[.int .i64 k, .int .u64 v]
theorem info_ev : (Tryz.prog.info? 108).map (·.size) = some 2 := by kernel_rfl
theorem under_ev : Tryz.prog.underlying 108 = some (.struct (match Tryz.prog.underlying 108 with | some (.struct fs) => fs | _ => #[])) := by kernel_rfl
theorem ev_one (k v : Int) : (evA k v).all (·.oneCell') = true := by simp [evA, Value.oneCell']
theorem three_new (w : World) (o1 o2 o3 : Obj) : ∃ W, W = ((w.alloc o1).alloc o2).alloc o3 ∧ W.heap[w.heap.size]? = some o1 ∧ W.heap[w.heap.size + 1]? = some o2 ∧ W.heap[w.heap.size + 1 + 1]? = some o3 ∧ Below w.heap.size w W ∧ W.heap.size = w.heap.size + 1 + 1 + 1 := by
  refine ⟨_, rfl, blk_alloc (blk_alloc (blk_new w o1) o2) o3, ?_, ?_, below_alloc (below_alloc (below_alloc (Below.refl _ _) _) _) _, ?_⟩
  · have e : w.heap.size + 1 = (w.alloc o1).heap.size := by show _ = (w.heap.push o1).size; rw [Array.size_push]
    rw [e]
    exact blk_alloc (blk_new _ o2) o3
  · have e : w.heap.size + 1 + 1 = ((w.alloc o1).alloc o2).heap.size := by show _ = ((w.heap.push o1).push o2).size; rw [Array.size_push, Array.size_push]
    rw [e]
    exact blk_new _ o3
  · show (((w.heap.push o1).push o2).push o3).size = _
    rw [Array.size_push, Array.size_push, Array.size_push]
theorem two_sets {v : World} {b4 b5 : Nat} (h4 : v.heap[b4]? = some (.cells CPU.zero.a 49 (0, 0))) (h5 : v.heap[b5]? = some (.cells (evA 0 0) 108 (0, 0))) (hn : b4 ≠ b5) (c : CPU) (k u : Int) :
    ((v.setCells b4 0 c.l).setCells b5 0 (evA k u).toList).heap[b4]? = some (.cells c.a 49 (0, 0)) ∧ ((v.setCells b4 0 c.l).setCells b5 0 (evA k u).toList).heap[b5]? = some (.cells (evA k u) 108 (0, 0)) := by
  have f4 := blk_sets c.l 0 h4
  rw [CPU.sets_] at f4
  have f5 := blk_sets (evA k u).toList 0 (blk_sets_far c.l 0 hn.symm h5)
  have e : sets (evA 0 0) 0 (evA k u).toList = evA k u := by simp [sets, evA]
  rw [e] at f5
  exact ⟨blk_sets_far _ 0 hn f4, f5⟩
def INS.zero : INS := ⟨0, 0, 0, 0, 0, 0, 0, 0, 0, 0⟩
theorem new_inst (w2 : World) (i : INS) {b4 b5 : Nat} {U : World} {o4 o5 : Obj} (h4 : w2.heap[b4]? = some o4) (h5 : w2.heap[b5]? = some o5) (hB : Below U.heap.size U w2) (hBs : U.heap.size ≤ w2.heap.size) :
    ((w2.alloc (.cells INS.zero.v 148)).setCells w2.heap.size 0 i.v.toList).heap[w2.heap.size]? = some (.cells i.v 148 (0, 0)) ∧ ((w2.alloc (.cells INS.zero.v 148)).setCells w2.heap.size 0 i.v.toList).heap[b4]? = some o4 ∧ ((w2.alloc (.cells INS.zero.v 148)).setCells w2.heap.size 0 i.v.toList).heap[b5]? = some o5 ∧ Below U.heap.size U ((w2.alloc (.cells INS.zero.v 148)).setCells w2.heap.size 0 i.v.toList) := by
  refine ⟨?_, ?_, ?_, ?_⟩
  · have e : ST.sets INS.zero.v 0 i.v.toList = i.v := by simp [ST.sets, INS.v, INS.zero]
    have key : ∀ (vs : List Value) (A : Array Value), ST.sets INS.zero.v 0 vs = A → ((w2.alloc (.cells INS.zero.v 148)).setCells w2.heap.size 0 vs).heap[w2.heap.size]? = some (.cells A 148 (0, 0)) := by
      intro vs A hA
      rw [← hA]
      exact blk_sets vs 0 (blk_new w2 _)
    exact key _ _ e
  · generalize i.v.toList = vs
    exact blk_sets_far vs 0 (Nat.ne_of_lt (blk_lt h4)) (blk_alloc h4 _)
  · generalize i.v.toList = vs
    exact blk_sets_far vs 0 (Nat.ne_of_lt (blk_lt h5)) (blk_alloc h5 _)
  · generalize i.v.toList = vs
    exact below_sets hBs vs 0 (below_alloc hB _)
theorem inst_one (i : INS) : i.v.all (·.oneCell') = true := by simp [INS.v, Value.oneCell']
theorem MemOk.onlyC {w w' : World} {M mb lo hi : Nat} {L : List MP} {A : Array Value} (h : MemOk w mb lo hi L) (hM : w.heap[M]? = some (.cells A 49 (0, 0))) (ho : Only w w' M) : MemOk w' mb lo hi L := by
  obtain ⟨R, P, cc, Q, hm, h2, h3, h4, h5⟩ := h
  have kp : ∀ (k : Nat) (cs : Array Value) (T : TypeId), T ≠ 49 → w.heap[k]? = some (.cells cs T (0, 0)) → w'.heap[k]? = some (.cells cs T (0, 0)) := by
    intro k cs T hT hk
    refine (ho.block k (blk_lt hk) ?_).trans hk
    rintro rfl
    rw [hM] at hk
    injection hk with hk
    injection hk with _ hk _
    exact hT hk.symm
  refine ⟨R, P, cc, Q, ⟨kp mb _ _ (by decide) hm.head, hm.addr, ?_, ?_, ?_, hm.apart⟩, h2, h3, h4, h5⟩
  · intro hq
    obtain ⟨cur, hcur⟩ := hm.row hq
    exact ⟨cur, kp P _ _ (by decide) hcur⟩
  · intro j q hq k v hv
    have hQ : Q ≠ [] := by intro e; rw [e] at hq; cases hq
    obtain ⟨cur, hcur⟩ := hm.row hQ
    exact (World.cell?_of_block (w := w) ((kp P _ _ (by decide) hcur).trans hcur.symm)).trans (hm.cells j q hq k v hv)
  · intro q hq
    exact kp q.2 _ _ (by decide) (hm.data q hq)
theorem MemOk.onlyE {w w' : World} {M mb lo hi : Nat} {L : List MP} {A : Array Value} (h : MemOk w mb lo hi L) (hM : w.heap[M]? = some (.cells A 108 (0, 0))) (ho : Only w w' M) : MemOk w' mb lo hi L := by
  obtain ⟨R, P, cc, Q, hm, h2, h3, h4, h5⟩ := h
  have kp : ∀ (k : Nat) (cs : Array Value) (T : TypeId), T ≠ 108 → w.heap[k]? = some (.cells cs T (0, 0)) → w'.heap[k]? = some (.cells cs T (0, 0)) := by
    intro k cs T hT hk
    refine (ho.block k (blk_lt hk) ?_).trans hk
    rintro rfl
    rw [hM] at hk
    injection hk with hk
    injection hk with _ hk _
    exact hT hk.symm
  refine ⟨R, P, cc, Q, ⟨kp mb _ _ (by decide) hm.head, hm.addr, ?_, ?_, ?_, hm.apart⟩, h2, h3, h4, h5⟩
  · intro hq
    obtain ⟨cur, hcur⟩ := hm.row hq
    exact ⟨cur, kp P _ _ (by decide) hcur⟩
  · intro j q hq k v hv
    have hQ : Q ≠ [] := by intro e; rw [e] at hq; cases hq
    obtain ⟨cur, hcur⟩ := hm.row hQ
    exact (World.cell?_of_block (w := w) ((kp P _ _ (by decide) hcur).trans hcur.symm)).trans (hm.cells j q hq k v hv)
  · intro q hq
    exact kp q.2 _ _ (by decide) (hm.data q hq)
theorem StoredIn.sets {w v : World} {lo hi b : Nat} (h : StoredIn w v lo hi) (hb : w.heap.size ≤ b) (o : Nat) (vs : List Value) : StoredIn w (v.setCells b o vs) lo hi :=
  ⟨fun k ob hk hor => blk_sets_far vs o (by have := blk_lt hk; omega) (h.block k ob hk hor), by rw [size_sets]; exact h.size, fun B U hu hl hs => below_sets (Nat.le_trans hs hb) vs o (h.below B U hu hl hs)⟩
theorem two_end {w v : World} {b4 b5 mb lo hi : Nat} {L : List MP} (hs : StoredIn w v lo hi) (hm : MemOk v mb lo hi L) (h4 : v.heap[b4]? = some (.cells CPU.zero.a 49 (0, 0))) (h5 : v.heap[b5]? = some (.cells (evA 0 0) 108 (0, 0))) (hn : b4 ≠ b5) (g4 : w.heap.size ≤ b4) (g5 : w.heap.size ≤ b5) (c : CPU) (k u : Int) :
    StoredIn w ((v.setCells b4 0 c.l).setCells b5 0 (evA k u).toList) lo hi ∧ MemOk ((v.setCells b4 0 c.l).setCells b5 0 (evA k u).toList) mb lo hi L :=
  ⟨StoredIn.sets (StoredIn.sets hs g4 0 c.l) g5 0 _, MemOk.onlyE (MemOk.onlyC hm h4 (Only.sets v b4 0 c.l)) (blk_sets_far c.l 0 hn.symm h5) (Only.sets _ b5 0 _)⟩
theorem built_mc (c : CPU) (n : Nat) (i : INS) : Tryz.prog.built 153 [(0, .agg c.a), (1, .pointer (some ⟨n, 0, none⟩)), (2, .agg i.v)] = some (macA c (.pointer (some ⟨n, 0, none⟩)) i .nilIface) := by kernel_rfl
theorem build_mcA {ops : Array Oper} {rest : List Oper} {o : Oper} {a : Act} {Q : Exit → Act → World → Prop} {w : World} (c : CPU) (n : Nat) (i : INS) {x0 x1 x2 : Operand} (hg : o.guard = none) (ho : o.op = .build 153 #[(0, x0), (1, x1), (2, x2)]) (e0 : a.eval x0 = .agg c.a) (e1 : a.eval x1 = .pointer (some ⟨n, 0, none⟩)) (e2 : a.eval x2 = .agg i.v) (h : wpList Tryz.prog ops Q rest (a.put o.dst (.agg (macA c (.pointer (some ⟨n, 0, none⟩)) i .nilIface))) w) : wpList Tryz.prog ops Q (o :: rest) a w := by
  have e : (Tryz.prog.built 153 (((#[(0, x0), (1, x1), (2, x2)] : Array (Nat × Operand)).map fun (i, x) => (i, a.eval x)).toList)) = some (macA c (.pointer (some ⟨n, 0, none⟩)) i .nilIface) := by
    have e' : (((#[(0, x0), (1, x1), (2, x2)] : Array (Nat × Operand)).map fun (i, x) => (i, a.eval x)).toList) = [(0, .agg c.a), (1, .pointer (some ⟨n, 0, none⟩)), (2, .agg i.v)] := by simp [e0, e1, e2]
    rw [e']
    exact built_mc c n i
  refine wpList_build hg 153 #[(0, x0), (1, x1), (2, x2)] ho (by rw [e]; rfl) ?_
  rw [e]
  exact h
theorem Run.init {w3 : World} {c : CPU} {i : INS} {mb lo hi : Nat} {L : List MP} (hm : MemOk w3 mb lo hi L) (ht : hi ≤ w3.heap.size) : Run w3 (w3.alloc (.cells (macA c (.pointer (some ⟨mb, 0, none⟩)) i .nilIface) 153)) w3.heap.size mb lo hi L c i .nilIface := by
  have h1 := hm.below (below_alloc (Below.refl w3.heap.size w3) (.cells (macA c (.pointer (some ⟨mb, 0, none⟩)) i .nilIface) 153))
  have h2 := StoredIn.of_below lo hi (below_alloc (Below.refl w3.heap.size w3) (.cells (macA c (.pointer (some ⟨mb, 0, none⟩)) i .nilIface) 153))
  exact ⟨blk_new w3 _, h1, h2, Nat.le_refl _, ht⟩
def CPU.next (c : CPU) : CPU := { c with pc := IntKind.u64.wrap (c.pc + 4) }
theorem halted_event (v : Int) (w : World) : Calls Tryz.prog 288 #[.int .u64 v] w fun e w' => e = .returned (.agg (evA 2 v)) ∧ Below w.heap.size w w' := by
  go_enter Tryz.func288, Tryz.ntmps288
  go_wp2
  refine bodyPost_ret (results_cell_row rfl _ _ w.heap.size 108 (evA 2 v) (0, 0) _ rfl (blk_new w _) under_ev rfl info_ev) rfl ⟨rfl, below_alloc (Below.refl _ _) _⟩
theorem load_told (M j : Nat) (v : Value) (w : World) (h : w.cell? ⟨M, j, none⟩ = some v) : Sem.run Tryz.prog (Instr.loadAt 114 (.pointer (some ⟨M, j, none⟩))) w = .ok v w := by go_simp
def toldR.T : Bool × List (List Nat × List Nat) := (true, [([], []), ([0], [0]), ([1], [1]), ([2], [2]), ([], []), ([4], [4]), ([5], [5]), ([6], [6]), ([7], [7]), ([3, 8, 0, 1, 2, 3], [3]), ([8, 9, 0, 1, 2, 3, 4, 5, 6, 7, 8, 9], [8]), ([10, 0, 1, 2, 3, 4, 5, 6, 7, 8, 9, 10], [])])
def toldR.B : List Nat := [0, 1, 3, 7, 0, 16, 48, 112, 240, 511, 1023, 2047]
theorem toldR.tab : rtab .any (opsOf Tryz.f57 16) = toldR.T := by kernel_rfl
theorem toldR.bits : waitsOk toldR.T.2 toldR.B = true := by kernel_rfl
set_option maxHeartbeats 400000 in
set_option maxRecDepth 100000 in
theorem step_halted (k : Nat) (c c1 : CPU) (w : World) (mb lo hi : Nat) (L L1 : List MP) (v : Int) (hm : MemOk w mb lo hi L) (hc : c.ok) (hTab : TabW w) (htop : hi ≤ w.heap.size) (wd : Int) (i : INS) (hw : mword L c.pc = (wd, 0)) (hd : code_Decode.f k wd = some (i.o, i.d, i.n, i.m, i.a, i.im, i.ms, i.sh, i.am, i.cd, 0))
    (hbr : ∀ (w0 w1 : World) (M : Nat), Run w0 w1 M mb lo hi L c i .nilIface → Calls Tryz.prog 78 #[.pointer (some ⟨M, 0, none⟩)] w1 fun e w' => e = .returned (.bool false) ∧ Run w0 w' M mb lo hi L c i .nilIface)
    (hpl : ∀ (w0 w1 : World) (M : Nat), TabW w0 → Run w0 w1 M mb lo hi L c i .nilIface → Calls Tryz.prog 79 #[.pointer (some ⟨M, 0, none⟩)] w1 fun e w' => e = .returned (.int .i64 0) ∧ Run w0 w' M mb lo hi L1 c1 i (.iface 158 (.int .u64 v))) :
    Calls Tryz.prog 57 #[.agg c.a, .pointer (some ⟨mb, 0, none⟩)] w fun e w' => e = .returned (.tuple #[.agg (c1.next).a, .agg (evA 2 v), .int .i64 0]) ∧ StoredIn w w' lo hi ∧ MemOk w' mb lo hi L1 := by
  obtain ⟨W, hW, h2, h4, h5, hB, hS⟩ := three_new w (.cells c.a 49) (.cells CPU.zero.a 49) (.cells (evA 0 0) 108)
  have HW := aq hW
  have H2 := aq h2
  have H4 := aq h4
  have HBR := aq hbr
  have HPL := aq hpl
  have HTOP := aq htop
  have HMB := aq (fun (W : World) (hb : Below w.heap.size w W) => hm.below hb)
  have H5 := aq h5
  have HB := aq hB
  have HM := aq (hm.below hB)
  have cp : W.cell? ⟨w.heap.size, 32, none⟩ = some (.int .u64 c.pc) := (blk_cell h2 32).trans rfl
  have HWD := aq (fun (W : World) (hm : MemOk W mb lo hi L) => by have := word_at hm c.pc hc.pc.1 hc.pc.2; rw [hw] at this; exact this)
  have HDD := aq (fun (W : World) (hT : TabW W) => show Calls Tryz.prog 77 #[.int .u32 wd] W fun e w' => e = .returned (.tuple #[.agg i.v, .int .i64 0]) ∧ Below W.heap.size W w' from code_Decode.calls k wd i.o i.d i.n i.m i.a i.im i.ms i.sh i.am i.cd 0 W hd hT)
  have HT := aq (fun (W : World) (hb : Below w.heap.size w W) => TabW.below hTab hb)
  clear hW h2 h4 h5 hB hm hc hS hTab hw hd hbr hpl htop
  go_enter Tryz.func57, Tryz.ntmps57
  go_upto_region 1 with fail
  change Code.wp _ _ _ _ (((w.alloc (.cells c.a 49)).alloc (.cells CPU.zero.a 49)).alloc (.cells (evA 0 0) 108))
  rw [← HW.out]
  clear HW
  go_upto_region 4 with (go_at_call 76; refine (HWD.out _ HM.out).mono ?_; rintro e w1 ⟨rfl, hb⟩; have K2 := aq (blk_below H2.out hb); have K4 := aq (blk_below H4.out hb); have K5 := aq (blk_below H5.out hb); have KB := aq (below_step HB.out hb); clear hb)
  clear cp H2 H4 H5 HB
  go_upto_region 7 with (first | (go_at_call 77; refine (HDD.out _ (HT.out _ KB.out)).mono ?_; rintro e w2 ⟨rfl, hb⟩; have H2 := aq (blk_below K2.out hb); have H4 := aq (blk_below K4.out hb); have H5 := aq (blk_below K5.out hb); have HB := aq (below_step KB.out hb); clear hb) | ((with_reducible refine gate_store (t := 148) (p := 9) (v := .tmp 27) rfl ?_); refine wpList_store_mid rfl 148 (.tmp 9) (.tmp 27) rfl w2.heap.size 0 i.v rfl rfl (there_blk (blk_new w2 (.cells INS.zero.v 148)) 0 10 (by decide)) info_inst (inst_one i) ?_))
  have J := aq (new_inst w2 i H4.out H5.out HB.out HB.out.size)
  have J2 := aq (new_inst w2 i H2.out H5.out HB.out HB.out.size).2.1
  change Code.wp _ _ _ _ ((w2.alloc (.cells INS.zero.v 148)).setCells w2.heap.size 0 i.v.toList)
  generalize (w2.alloc (.cells INS.zero.v 148)).setCells w2.heap.size 0 i.v.toList = w3 at *
  clear K2 K4 K5 KB H2 H4 H5 HB
  have HR0 := aq (Run.init (c := c) (i := i) (HMB.out w3 J.out.2.2.2) (Nat.le_trans HTOP.out J.out.2.2.2.size))
  go_upto_region 8 with (first | ((with_reducible refine gate_dst (N := 34) rfl ?_); refine wpList_load_mid rfl 49 (.tmp 2) rfl w.heap.size 0 rfl c.l _ (c.range J2.out) under_cpu rfl info_cpu ?_) | ((with_reducible refine gate_dst (N := 36) rfl ?_); refine wpList_load_mid rfl 148 (.tmp 9) rfl w2.heap.size 0 rfl i.v.toList _ (row_range J.out.1) under_inst rfl info_inst ?_) | ((with_reducible refine gate_dst (N := 37) rfl ?_); refine build_mcA c mb i rfl rfl rfl rfl rfl ?_))
  generalize w3.alloc (.cells (macA c (.pointer (some ⟨mb, 0, none⟩)) i .nilIface) 153) = w4 at *
  go_upto_region 13 with (first | (go_at_call 78; refine (HBR.out w3 _ w3.heap.size HR0.out).mono ?_; rintro e w5 ⟨rfl, hr⟩; have HR1 := aq hr; clear hr) | (go_at_call 79; refine (HPL.out w3 _ w3.heap.size (HT.out _ J.out.2.2.2) HR1.out).mono ?_; rintro e w6 ⟨rfl, hr⟩; have HR5 := aq hr; clear hr))
  have cp6 : w6.cell? ⟨w3.heap.size, 32, none⟩ = some (.int .u64 c1.pc) := (HR5.out.mac.cell 32).trans rfl
  have fp6 := HR5.out.mac.free 32
  go_upto_region 14 with fail
  clear cp6 fp6
  have HR6 := aq (HR5.out.only (Only.set _ _ _ _) (HR5.out.mac.setPc (IntKind.u64.wrap (c1.pc + 4))))
  generalize w6.setCell ⟨w3.heap.size, 32, none⟩ (.int .u64 (IntKind.u64.wrap (c1.pc + 4))) = w7 at *
  clear HR5
  have HR5 := HR6
  clear HR6
  have G4 := aq (HR5.out.st.block _ _ J.out.2.1 (.inl (by have := HTOP.out; omega)))
  have G5 := aq (HR5.out.st.block _ _ J.out.2.2.1 (.inl (by have := HTOP.out; omega)))
  have S5 := aq ((StoredIn.of_below lo hi J.out.2.2.2).trans HR5.out.st)
  clear HR0 HR1 J J2
  have ct : w7.cell? ⟨w3.heap.size, 48, none⟩ = some (.iface 158 (.int .u64 v)) := (HR5.out.mac.cell 48).trans rfl
  have HR5 := aq (show Run w3 w7 w3.heap.size mb lo hi L1 c1.next i (.iface 158 (.int .u64 v)) from HR5.out)
  go_upto_region 16 with fail
  clear ct
  refine start_ (n := 12) (S := fun w' => Run w3 w' w3.heap.size mb lo hi L1 c1.next i (.iface 158 (.int .u64 v))) (ds := [9, 10]) #[false, false, false, false, false, false, false, false, false, false, false, false] (by kernel_rfl) rfl rfl (HR5.out.step (below_drew1 (Below.refl _ _))) (fun hHeld => ?_); refine with_tabW toldR.tab toldR.bits (fun HT_ HW_ => ?_)
  refine pu_ (i := 0) (N := some 72) (v := _) (any_of HT_.out (by kernel_rfl)) rfl rfl (by rfl) (fun _ _ _ h => h) (fun w' => by go_simp; with_reducible rfl) ?_; simp only [Act.put, List.setIfInBounds_toArray, List.set_cons_zero, List.set_cons_succ]
  refine pu_ (i := 1) (N := some 73) (v := _) (any_of HT_.out (by kernel_rfl)) rfl rfl (by rfl) (fun _ _ _ h => h) (fun w' => by go_simp; with_reducible rfl) ?_; simp only [Act.put, List.setIfInBounds_toArray, List.set_cons_zero, List.set_cons_succ]
  refine pu_ (i := 2) (N := some 74) (v := _) (any_of HT_.out (by kernel_rfl)) rfl rfl (by rfl) (fun _ _ _ h => h) (fun w' => by go_simp; with_reducible rfl) ?_; simp only [Act.put, List.setIfInBounds_toArray, List.set_cons_zero, List.set_cons_succ]
  refine tk_ (i := 3) (N := 75) (t := 49) (p := .tmp 74) (v := .agg c1.next.a) (take_ofW HT_.out HW_.out (by kernel_rfl)) rfl (fun _ _ _ h => h) hHeld ?_ ?_; · exact fun w' h' => h'.mac.load27
  simp only [Act.put, List.setIfInBounds_toArray, List.set_cons_zero, List.set_cons_succ]
  refine pu_ (i := 4) (N := some 76) (v := _) (any_of HT_.out (by kernel_rfl)) rfl rfl (by rfl) (fun _ _ _ h => h) (fun w' => by go_simp; with_reducible rfl) ?_; simp only [Act.put, List.setIfInBounds_toArray, List.set_cons_zero, List.set_cons_succ]
  refine pu_ (i := 5) (N := some 77) (v := _) (any_of HT_.out (by kernel_rfl)) rfl rfl (by rfl) (fun _ _ _ h => h) (fun w' => by go_simp; with_reducible rfl) ?_; simp only [Act.put, List.setIfInBounds_toArray, List.set_cons_zero, List.set_cons_succ]
  refine pu_ (i := 6) (N := some 78) (v := _) (any_of HT_.out (by kernel_rfl)) rfl rfl (by rfl) (fun _ _ _ h => h) (fun w' => by go_simp; with_reducible rfl) ?_; simp only [Act.put, List.setIfInBounds_toArray, List.set_cons_zero, List.set_cons_succ]
  refine tk_ (i := 7) (N := 79) (t := 114) (p := .tmp 78) (v := .iface 158 (.int .u64 v)) (take_ofW HT_.out HW_.out (by kernel_rfl)) rfl (fun _ _ _ h => h) hHeld ?_ ?_; · exact fun w' h' => load_told w3.heap.size 48 _ w' ((h'.mac.cell 48).trans rfl)
  simp only [Act.put, List.setIfInBounds_toArray, List.set_cons_zero, List.set_cons_succ]
  refine cl_ (i := 8) (N := some 80) 288 #[.int .u64 v] (one_of HT_.out (by kernel_rfl)) rfl rfl (by decide) (by rfl) (by unfold execOp; go_simp; rfl) (halted_event v _) ?_; rintro e w8 ⟨rfl, hb⟩; refine ⟨_, rfl, Run.step (w := w7.drew) hHeld hb, fun hHeld => ?_⟩; simp only [Act.put, List.setIfInBounds_toArray, List.set_cons_zero, List.set_cons_succ]
  have HR5 := aq hHeld
  have hb7 := below_step (show Below w7.heap.size w7 w7.drew from below_drew1 (Below.refl _ _)) hb
  have S5 := aq (S5.out.trans (StoredIn.of_below lo hi hb7))
  have G4 := aq (blk_below G4.out hb7)
  have G5 := aq (blk_below G5.out hb7)
  refine ls_ (i := 9) (one_of HT_.out (by kernel_rfl)) rfl (by decide) (run_storeAt_mid w8 (w.heap.size + 1) 0 49 c1.next.a (there_blk G4.out 0 37 (by decide)) info_cpu c1.next.one) ?_; simp only [List.setIfInBounds_toArray, List.set_cons_zero, List.set_cons_succ]
  refine ls_ (i := 10) (one_of HT_.out (by kernel_rfl)) rfl (by decide) (run_storeAt_mid _ (w.heap.size + 1 + 1) 0 108 (evA 2 v) (there_blk (blk_sets_far c1.next.l 0 (Nat.succ_ne_self _) G5.out) 0 2 (by decide)) info_ev (ev_one 2 v)) ?_; simp only [List.setIfInBounds_toArray, List.set_cons_zero, List.set_cons_succ]
  refine pu_ (i := 11) (N := some 6) (v := _) (any_of HT_.out (by kernel_rfl)) rfl rfl (by rfl) (fun _ _ _ h => h) (fun w' => by go_simp; with_reducible rfl) ?_; simp only [Act.put, List.setIfInBounds_toArray, List.set_cons_zero, List.set_cons_succ]
  refine done_ (done_of HT_.out (by kernel_rfl)) ?_
  go_wp2
  have F := aq (two_sets G4.out G5.out (by omega) c1.next 2 v)
  have FE := aq (two_end S5.out HR5.out.mem G4.out G5.out (by omega) (by omega) (by omega) c1.next 2 v)
  refine bodyPost_ret (results_list (rs := [.cell 4 49, .cell 5 108, .tmp 6]) rfl (by simp) (.cell (w.heap.size + 1) 49 c1.next.a (0, 0) _ rfl F.out.1 under_cpu rfl info_cpu (.cell (w.heap.size + 1 + 1) 108 (evA 2 v) (0, 0) _ rfl F.out.2 under_ev rfl info_ev (.tmp .nil)))) rfl ⟨rfl, FE.out⟩
structure PX where
  c : CPU
  k : Int
  u : Int
  e : Int
  L : List MP
structure TR where
  told : List Int
  halted : Bool
  code : Int
  steps : Int
  e : Int
def TR.zero : TR := ⟨[], false, 0, 0, 0⟩
def TR.add (t : TR) (k u : Int) : TR := ⟨if k = 1 then t.told ++ [u] else t.told, if k = 2 then true else t.halted, if k = 2 then u else t.code, t.steps + 1, t.e⟩
def runG (F : List MP → CPU → PX) : Nat → List MP → CPU → TR → CPU × TR × List MP
  | 0, L, c, t => (c, t, L)
  | n + 1, L, c, t => if t.halted = true then (c, t, L) else if (F L c).e = 0 then runG F n (F L c).L (F L c).c (t.add (F L c).k (F L c).u) else (c, { t with e := (F L c).e }, (F L c).L)
def tV (k u : Int) : Value := if k = 1 then .iface 156 (.int .u64 u) else if k = 2 then .iface 158 (.int .u64 u) else .nilIface
theorem four_new (w : World) (o1 o2 o3 o4 : Obj) : ∃ W, W = (((w.alloc o1).alloc o2).alloc o3).alloc o4 ∧ W.heap[w.heap.size]? = some o1 ∧ W.heap[w.heap.size + 1]? = some o2 ∧ W.heap[w.heap.size + 1 + 1]? = some o3 ∧ W.heap[w.heap.size + 1 + 1 + 1]? = some o4 ∧ Below w.heap.size w W := by
  have h2 := blk_new (w.alloc o1) o2
  have h3 := blk_new ((w.alloc o1).alloc o2) o3
  have h4 := blk_new (((w.alloc o1).alloc o2).alloc o3) o4
  rw [World.size_alloc] at h2
  rw [World.size_alloc, World.size_alloc] at h3
  rw [World.size_alloc, World.size_alloc, World.size_alloc] at h4
  exact ⟨_, rfl, blk_alloc (blk_alloc (blk_alloc (blk_new w o1) _) _) _, blk_alloc (blk_alloc h2 _) _, blk_alloc h3 _, h4, below_alloc (below_alloc (below_alloc (below_alloc (Below.refl _ _) _) _) _) _⟩
theorem of_at (k u : Int) (w : World) : Calls Tryz.prog 59 #[.agg (evA k u)] w fun e w' => e = .returned (tV k u) ∧ Below w.heap.size w w' := by
  unfold tV
  by_cases h1 : k = 1
  · subst h1
    rw [if_pos rfl]
    unfold evA
    go_enter Tryz.func59, Tryz.ntmps59
    go_wp2
    go_ret
    exact ⟨rfl, below_alloc (Below.refl _ _) _⟩
  · rw [if_neg h1]
    have d1 : (k == 1) = false := by simpa using h1
    by_cases h2 : k = 2
    · subst h2
      rw [if_pos rfl]
      clear h1
      unfold evA
      go_enter Tryz.func59, Tryz.ntmps59
      go_wp2
      go_ret
      exact ⟨rfl, below_alloc (Below.refl _ _) _⟩
    · rw [if_neg h2]
      have d2 : (k == 2) = false := by simpa using h2
      clear h1 h2
      unfold evA
      go_enter Tryz.func59, Tryz.ntmps59
      go_wp2
      go_ret
      exact ⟨rfl, below_alloc (Below.refl _ _) _⟩
def trA (v : Value) (t : TR) : Array Value := #[v, .bool t.halted, .int .u64 t.code, .int .i64 t.steps, .int .i64 t.e]
structure TrBox (w : World) (base T : Nat) (v : Value) (t : TR) : Prop where
  box : w.heap[T]? = some (.cells (trA v t) 38 (0, 0))
  row : w.ownsRow base 22 1 v t.told.length (nums .u64 t.told)
  low : base ≤ T
structure TKeep (w w' : World) (base T : Nat) : Prop where
  block : ∀ (k : Nat) (o : Obj), w.heap[k]? = some o → (k < base ∨ (k ≠ T ∧ ¬ ∃ cs, o = .cells cs 22 (0, 0))) → w'.heap[k]? = some o
  size : w.heap.size ≤ w'.heap.size
  below : ∀ (B : Nat) (U : World), Below B U w → B ≤ base → B ≤ w.heap.size → Below B U w'
theorem TKeep.of_below {w w' : World} (base T : Nat) (h : Below w.heap.size w w') : TKeep w w' base T :=
  ⟨fun k o hk _ => (h.block k (blk_lt hk)).trans hk, h.size, fun B U hu _ hs => hu.trans (h.mono hs)⟩
theorem TKeep.trans {w w1 w2 : World} {base T : Nat} (h : TKeep w w1 base T) (g : TKeep w1 w2 base T) : TKeep w w2 base T :=
  ⟨fun k o hk hor => g.block k o (h.block k o hk hor) hor, Nat.le_trans h.size g.size, fun B U hu hl hs => g.below B U (h.below B U hu hl hs) hl (Nat.le_trans hs h.size)⟩
theorem TKeep.set (w : World) {base T : Nat} (hb : base ≤ T) (j : Nat) (v : Value) : TKeep w (w.setCell ⟨T, j, none⟩ v) base T :=
  ⟨fun k o hk hor => (Below.heap_setCell w ⟨T, j, none⟩ v k (by show k ≠ T; rcases hor with h | h; omega; exact h.1)).trans hk, by simp, fun B U hu hl _ => hu.setCell (Nat.le_trans hl hb) v⟩
theorem TrBox.ne {w : World} {base T : Nat} {v : Value} {t : TR} (h : TrBox w base T v t) : ∀ k, v.ownBlock = some k → k ≠ T := by
  rintro k hk rfl
  rcases h.row.2 with ⟨rfl, _⟩ | ⟨g, cap, cur, rfl, _, hh, _⟩
  · cases hk
  · have e : g = k := by injection hk
    subst e
    rw [h.box] at hh
    injection hh with hh
    injection hh with _ hh _
    exact absurd hh (by decide)
theorem TrBox.below {w w' : World} {base T : Nat} {v : Value} {t : TR} (h : TrBox w base T v t) (hb : Below w.heap.size w w') : TrBox w' base T v t :=
  ⟨blk_below h.box hb, own_move h.row (fun k hk => hb.block k (own_lt h.row k hk)), h.low⟩
theorem TrBox.set {w : World} {base T : Nat} {v : Value} {t t' : TR} (h : TrBox w base T v t) (j : Nat) (x : Value) (ht : (trA v t).setIfInBounds j x = trA v t') (hl : t'.told = t.told) : TrBox (w.setCell ⟨T, j, none⟩ x) base T v t' :=
  ⟨blk_put h.box j x ht, by rw [hl]; exact ownsRow_setCell_other h.row (fun e => h.ne T e rfl) x, h.low⟩
theorem info_u64 : (Tryz.prog.info? 22).map (fun i => (i.zero, i.size, i.bytes)) = some (some (.int .u64 0), 1, 8) := by kernel_rfl
def TR.say (t : TR) (u : Int) : TR := { t with told := t.told ++ [u] }
def TR.halt (t : TR) (u : Int) : TR := { t with halted := true, code := u }
theorem said_grown {w w1 : World} {base T : Nat} {v v1 : Value} {t : TR} {u : Int} (h : TrBox w base T v t) (hown : w1.ownsRow base 22 1 v1 (t.told ++ [u]).length (nums .u64 (t.told ++ [u]))) (hg : w.grownBy w1 v.ownBlock) :
    w1.heap[T]? = some (.cells (trA v t) 38 (0, 0)) ∧ TKeep w (w1.setCell ⟨T, 0, none⟩ v1) base T ∧ TrBox (w1.setCell ⟨T, 0, none⟩ v1) base T v1 (t.say u) := by
  have hT : w1.heap[T]? = some (.cells (trA v t) 38 (0, 0)) := (hg.block T (blk_lt h.box) (fun e => h.ne T e.symm rfl)).trans h.box
  have hk1 : TKeep w w1 base T := ⟨fun k o hk hor => by
      refine (hg.block k (blk_lt hk) (fun e => ?_)).trans hk
      rcases h.row.2 with ⟨e1, _⟩ | ⟨g, cap, cur, e1, hbg, hh, _⟩
      · rw [e1] at e; cases e
      · rw [e1] at e
        have : k = g := by injection e
        subst this
        rcases hor with hor | hor
        · omega
        · rw [hh] at hk; exact hor.2 ⟨_, (Option.some.inj hk).symm⟩, hg.size, fun B U hu hl hs => hu.grown hg hs (fun k hk => Nat.le_trans hl (own_base h.row k hk))⟩
  refine ⟨hT, hk1.trans (TKeep.set w1 h.low 0 v1), ⟨blk_put hT 0 v1 rfl, ?_, h.low⟩⟩
  refine ownsRow_setCell_other hown (fun e => ?_) v1
  obtain ⟨cells, hc⟩ := own_typed hown T e
  rw [hT] at hc
  injection hc with hc
  injection hc with _ hc _
  exact absurd hc (by decide)
theorem ta_nil1 (W : World) : Sem.run Tryz.prog (Instr.typeAssert .nilIface 114 156 true) W = .ok (.tuple #[.int .u64 0, .bool false]) W := by kernel_rfl
theorem ta_nil2 (W : World) : Sem.run Tryz.prog (Instr.typeAssert .nilIface 114 158 true) W = .ok (.tuple #[.int .u64 0, .bool false]) W := by kernel_rfl
theorem ta_said1 (W : World) (v : Value) : Sem.run Tryz.prog (Instr.typeAssert (.iface 156 v) 114 156 true) W = .ok (.tuple #[v, .bool true]) W := by kernel_rfl
theorem ta_said2 (W : World) (v : Value) : Sem.run Tryz.prog (Instr.typeAssert (.iface 156 v) 114 158 true) W = .ok (.tuple #[.int .u64 0, .bool false]) W := by kernel_rfl
theorem ta_halt1 (W : World) (v : Value) : Sem.run Tryz.prog (Instr.typeAssert (.iface 158 v) 114 156 true) W = .ok (.tuple #[.int .u64 0, .bool false]) W := by kernel_rfl
theorem ta_halt2 (W : World) (v : Value) : Sem.run Tryz.prog (Instr.typeAssert (.iface 158 v) 114 158 true) W = .ok (.tuple #[v, .bool true]) W := by kernel_rfl
set_option maxRecDepth 100000 in
theorem tell_nil (T : Nat) (w : World) : Calls Tryz.prog 58 #[.pointer (some ⟨T, 0, none⟩), .nilIface] w fun e w' => e = .returned (.tuple #[]) ∧ w' = w := by
  have h1 := ta_nil1
  have h2 := ta_nil2
  go_enter Tryz.func58, Tryz.ntmps58
  go_wp2
  go_end0
  exact ⟨rfl, rfl⟩
set_option maxRecDepth 100000 in
theorem tell_halt (base T : Nat) (v : Value) (t : TR) (u : Int) (w : World) (h : TrBox w base T v t) : Calls Tryz.prog 58 #[.pointer (some ⟨T, 0, none⟩), .iface 158 (.int .u64 u)] w fun e w' => e = .returned (.tuple #[]) ∧ TKeep w w' base T ∧ TrBox w' base T v (t.halt u) := by
  have h1 := fun W => ta_halt1 W (.int .u64 u)
  have h2 := fun W => ta_halt2 W (.int .u64 u)
  have c1 : w.cell? ⟨T, 1, none⟩ = some (.bool t.halted) := (blk_cell h.box 1).trans rfl
  have c2 : w.cell? ⟨T, 2, none⟩ = some (.int .u64 t.code) := (blk_cell h.box 2).trans rfl
  have f1 := blk_frozen h.box 1
  have f2 := blk_frozen h.box 2
  have H := aq h
  clear h
  go_enter Tryz.func58, Tryz.ntmps58
  go_wp2
  go_end0
  have b1 : TrBox (w.setCell ⟨T, 1, none⟩ (.bool true)) base T v { t with halted := true } := H.out.set 1 (.bool true) rfl rfl
  refine ⟨rfl, (TKeep.set w H.out.low 1 (.bool true)).trans (TKeep.set _ b1.low 2 (.int .u64 u)), b1.set 2 (.int .u64 u) rfl rfl⟩
set_option maxRecDepth 100000 in
theorem tell_said (base T : Nat) (v : Value) (t : TR) (u : Int) (w : World) (h : TrBox w base T v t) (hl : t.told.length ≤ 1000000) : Calls Tryz.prog 58 #[.pointer (some ⟨T, 0, none⟩), .iface 156 (.int .u64 u)] w fun e w' => e = .returned (.tuple #[]) ∧ TKeep w w' base T ∧ ∃ v', TrBox w' base T v' (t.say u) := by
  have h1 := fun W => ta_said1 W (.int .u64 u)
  have h2 := fun W => ta_said2 W (.int .u64 u)
  obtain ⟨A, c, rfl⟩ := Go.Proofs.YtflojfcioojgbaaGreatDoorW.PrintWords.own_slice h.row
  have c0 : w.cell? ⟨T, 0, none⟩ = some (.slice A t.told.length c) := (blk_cell h.box 0).trans rfl
  have H := aq h
  have HL := aq hl
  clear h hl
  go_enter Tryz.func58, Tryz.ntmps58
  go_wp2_with (first | ((with_reducible refine gate_builtin (b := .append) (xs := #[.tmp 18, .tmp 20]) rfl ?_); at_builtin; refine print_append_num (w0 := w) base rfl (.tmp 18) (.tmp 20) 36 22 .u64 8 rfl Tryz.underlying36 info_u64 (by omega) (.slice A t.told.length c) t.told u rfl rfl H.out.row (Below.refl _ _) (Nat.le_of_lt (Nat.lt_of_le_of_lt H.out.low (blk_lt H.out.box))) (by have := HL.out; omega) ?_; intro v1 w1 hown hB hg hat; obtain ⟨A1, c1, rfl⟩ := Go.Proofs.YtflojfcioojgbaaGreatDoorW.PrintWords.own_slice hown; have hX := said_grown H.out hown hg; rw [show (t.told ++ [u]).length = t.told.length + 1 from List.length_append] at hX; have HX := aq hX; clear hX; have c0 := (blk_cell HX.out.1 0); have f0 := (blk_frozen HX.out.1 0); clear hown hB hg hat))
  go_end0
  exact ⟨rfl, HX.out.2.1, _, HX.out.2.2⟩
def TR.tell (t : TR) (k u : Int) : TR := ⟨if k = 1 then t.told ++ [u] else t.told, if k = 2 then true else t.halted, if k = 2 then u else t.code, t.steps, t.e⟩
theorem tell_at (base T : Nat) (v : Value) (t : TR) (k u : Int) (w : World) (h : TrBox w base T v t) (hl : t.told.length ≤ 1000000) : Calls Tryz.prog 58 #[.pointer (some ⟨T, 0, none⟩), tV k u] w fun e w' => e = .returned (.tuple #[]) ∧ TKeep w w' base T ∧ ∃ v', TrBox w' base T v' (t.tell k u) := by
  unfold tV TR.tell
  by_cases h1 : k = 1
  · subst h1
    exact tell_said base T v t u w h hl
  · rw [if_neg h1, if_neg h1]
    by_cases h2 : k = 2
    · subst h2
      refine (tell_halt base T v t u w h).mono ?_
      rintro e w' ⟨rfl, g1, g2⟩
      exact ⟨rfl, g1, v, g2⟩
    · rw [if_neg h2, if_neg h2, if_neg h2]
      refine (tell_nil T w).mono ?_
      rintro e w' ⟨rfl, rfl⟩
      exact ⟨rfl, TKeep.of_below base T (Below.refl _ _), v, h⟩
theorem MemOk.tkeep {w w' : World} {M lo hi base T : Nat} {L : List MP} (h : MemOk w M lo hi L) (hT : ∃ cs, w.heap[T]? = some (.cells cs 38 (0, 0))) (hk : TKeep w w' base T) : MemOk w' M lo hi L := by
  obtain ⟨R, P, cc, Q, hm, h2, h3, h4, h5⟩ := h
  obtain ⟨A, hT⟩ := hT
  have kp : ∀ (k : Nat) (cs : Array Value) (t : TypeId), t ≠ 38 → t ≠ 22 → w.heap[k]? = some (.cells cs t (0, 0)) → w'.heap[k]? = some (.cells cs t (0, 0)) := by
    intro k cs t h1 h2 hq
    refine hk.block k _ hq (.inr ⟨?_, ?_⟩)
    · rintro rfl
      rw [hT] at hq
      injection hq with hq
      injection hq with _ hq _
      exact h1 hq.symm
    · rintro ⟨cs', e⟩
      injection e with _ e _
      exact h2 e
  refine ⟨R, P, cc, Q, ⟨kp M _ _ (by decide) (by decide) hm.head, hm.addr, ?_, ?_, ?_, hm.apart⟩, h2, h3, h4, h5⟩
  · intro hq
    obtain ⟨cur, hcur⟩ := hm.row hq
    exact ⟨cur, kp P _ _ (by decide) (by decide) hcur⟩
  · intro j q hq k v hv
    have hQ : Q ≠ [] := by intro e; rw [e] at hq; cases hq
    obtain ⟨cur, hcur⟩ := hm.row hQ
    exact (World.cell?_of_block (w := w) ((kp P _ _ (by decide) (by decide) hcur).trans hcur.symm)).trans (hm.cells j q hq k v hv)
  · intro q hq
    exact kp q.2 _ _ (by decide) (by decide) (hm.data q hq)
theorem StoredIn.tkeep {w w1 w2 : World} {lo hi base T : Nat} (h : StoredIn w w1 lo hi) (hk : TKeep w1 w2 base T) (hb : w.heap.size ≤ base) : StoredIn w w2 lo hi :=
  ⟨fun k o hk1 hor => hk.block k o (h.block k o hk1 hor) (.inl (Nat.lt_of_lt_of_le (blk_lt hk1) hb)), Nat.le_trans h.size hk.size, fun B U hu hl hs => hk.below B U (h.below B U hu hl hs) (Nat.le_trans hs hb) (Nat.le_trans hs h.size)⟩
theorem TrBox.stored {w w' : World} {base T lo hi : Nat} {v : Value} {t : TR} (h : TrBox w base T v t) (hs : StoredIn w w' lo hi) (hb : hi ≤ base) : TrBox w' base T v t :=
  ⟨hs.block T _ h.box (.inl (by have := h.low; omega)), own_move h.row (fun k hk => by
    have h1 := own_base h.row k hk
    have h2 := own_lt h.row k hk
    obtain ⟨o, ho⟩ : ∃ o, w.heap[k]? = some o := ⟨_, Array.getElem?_eq_getElem h2⟩
    rw [ho]; exact hs.block k o ho (.inl (by omega))), h.low⟩
theorem TrBox.far {w : World} {base T b : Nat} {v : Value} {t : TR} (h : TrBox w base T v t) {A : Array Value} {ty : TypeId} (hb : w.heap[b]? = some (.cells A ty (0, 0))) (h1 : ty ≠ 38) (h2 : ty ≠ 22) (o : Nat) (vs : List Value) : TrBox (w.setCells b o vs) base T v t := by
  have n1 : T ≠ b := by
    rintro rfl
    rw [h.box] at hb
    injection hb with hb
    injection hb with _ hb _
    exact h1 hb.symm
  refine ⟨blk_sets_far vs o n1 h.box, own_move h.row (fun k hk => ?_), h.low⟩
  have n2 : k ≠ b := by
    rintro rfl
    obtain ⟨cells, hc⟩ := own_typed h.row k hk
    rw [hc] at hb
    injection hb with hb
    injection hb with _ hb _
    exact h2 hb.symm
  obtain ⟨o', ho⟩ : ∃ o, w.heap[k]? = some o := ⟨_, Array.getElem?_eq_getElem (own_lt h.row k hk)⟩
  rw [ho]
  exact blk_sets_far vs o n2 ho
variable (F : List MP → CPU → PX)
structure RunInv (w wr : World) (mb lo hi n kq : Nat) (L0 : List MP) (c0 : CPU) (L1 : List MP) (c1 : CPU) (v1 : Value) (t1 : TR) : Prop where
  b0 : wr.heap[w.heap.size]? = some (.cells c1.a 49 (0, 0))
  b1 : wr.heap[w.heap.size + 1]? = some (.cells CPU.zero.a 49 (0, 0))
  b2 : wr.heap[w.heap.size + 1 + 1]? = some (.cells (trA (.slice none 0 0) .zero) 38 (0, 0))
  tr : TrBox wr w.heap.size (w.heap.size + 1 + 1 + 1) v1 t1
  mem : MemOk wr mb lo hi L1
  st : StoredIn w wr lo hi
  ok : c1.ok
  run : runG F n L0 c0 .zero = runG F kq L1 c1 t1
  steps : t1.steps + kq = n
  err : t1.e = 0
  told : (t1.told.length : Int) ≤ t1.steps
theorem info_tr : (Tryz.prog.info? 38).map (·.size) = some 5 := by kernel_rfl
theorem under_tr : Tryz.prog.underlying 38 = some (.struct (match Tryz.prog.underlying 38 with | some (.struct fs) => fs | _ => #[])) := by kernel_rfl
theorem TKeep.sets {base T : Nat} (hb : base ≤ T) : ∀ (vs : List Value) (o : Nat) (w : World), TKeep w (w.setCells T o vs) base T
  | [], _, w => TKeep.of_below base T (Below.refl _ _)
  | v :: vs, o, w => (TKeep.set w hb o v).trans (TKeep.sets hb vs (o + 1) _)
theorem tr_one {w : World} {base T : Nat} {v : Value} {t : TR} (h : TrBox w base T v t) : (trA v t).all (·.oneCell') = true := by
  obtain ⟨A, c, rfl⟩ := Go.Proofs.YtflojfcioojgbaaGreatDoorW.PrintWords.own_slice h.row
  simp [trA, Value.oneCell']
theorem tr_sets (v v' : Value) (t t' : TR) : sets (trA v t) 0 (trA v' t').toList = trA v' t' := by simp [sets, trA]
structure RunEnd (w wr : World) (mb lo hi n : Nat) (L0 : List MP) (c0 : CPU) (L1 : List MP) (c1 : CPU) (v1 : Value) (t1 : TR) : Prop where
  b0 : wr.heap[w.heap.size]? = some (.cells c1.a 49 (0, 0))
  b1 : wr.heap[w.heap.size + 1]? = some (.cells CPU.zero.a 49 (0, 0))
  b2 : wr.heap[w.heap.size + 1 + 1]? = some (.cells (trA (.slice none 0 0) .zero) 38 (0, 0))
  tr : TrBox wr w.heap.size (w.heap.size + 1 + 1 + 1) v1 t1
  mem : MemOk wr mb lo hi L1
  st : StoredIn w wr lo hi
  run : runG F n L0 c0 .zero = (c1, t1, L1)
  ok : c1.ok
variable {F}
theorem run_fin {w wr : World} {mb lo hi n : Nat} {L0 L1 : List MP} {c0 c1 : CPU} {v1 : Value} {t1 : TR} (h : RunEnd F w wr mb lo hi n L0 c0 L1 c1 v1 t1) :
    ((wr.drew.setCells (w.heap.size + 1) 0 c1.l).heap[w.heap.size]? = some (.cells c1.a 49 (0, 0)) ∧ (wr.drew.setCells (w.heap.size + 1) 0 c1.l).heap[w.heap.size + 1 + 1 + 1]? = some (.cells (trA v1 t1) 38 (0, 0))) ∧
    (wr.drew.setCells (w.heap.size + 1) 0 c1.l).heap[w.heap.size + 1 + 1]? = some (.cells (trA (.slice none 0 0) .zero) 38 (0, 0)) ∧
    ((wr.drew.setCells (w.heap.size + 1) 0 c1.l).setCells (w.heap.size + 1 + 1) 0 (trA v1 t1).toList).heap[w.heap.size + 1]? = some (.cells c1.a 49 (0, 0)) ∧
    ((wr.drew.setCells (w.heap.size + 1) 0 c1.l).setCells (w.heap.size + 1 + 1) 0 (trA v1 t1).toList).heap[w.heap.size + 1 + 1]? = some (.cells (trA v1 t1) 38 (0, 0)) ∧
    ((wr.drew.setCells (w.heap.size + 1) 0 c1.l).setCells (w.heap.size + 1 + 1) 0 (trA v1 t1).toList).ownsRow w.heap.size 22 1 v1 t1.told.length (nums .u64 t1.told) ∧
    StoredIn w ((wr.drew.setCells (w.heap.size + 1) 0 c1.l).setCells (w.heap.size + 1 + 1) 0 (trA v1 t1).toList) lo hi ∧
    MemOk ((wr.drew.setCells (w.heap.size + 1) 0 c1.l).setCells (w.heap.size + 1 + 1) 0 (trA v1 t1).toList) mb lo hi L1 := by
  have hb : Below wr.heap.size wr wr.drew := below_drew1 (Below.refl _ _)
  have k0 : wr.drew.heap[w.heap.size]? = some (.cells c1.a 49 (0, 0)) := blk_below h.b0 hb
  have k1 : wr.drew.heap[w.heap.size + 1]? = some (.cells CPU.zero.a 49 (0, 0)) := blk_below h.b1 hb
  have k2 : wr.drew.heap[w.heap.size + 1 + 1]? = some (.cells (trA (.slice none 0 0) .zero) 38 (0, 0)) := blk_below h.b2 hb
  have kt := h.tr.below hb
  have km := h.mem.below hb
  have ks := h.st.trans (StoredIn.of_below lo hi hb)
  have n2 := blk_sets_far (b := w.heap.size + 1) c1.l 0 (show w.heap.size + 1 + 1 ≠ w.heap.size + 1 by omega) k2
  have n1 := blk_sets c1.l 0 k1
  rw [CPU.sets_] at n1
  have nt := kt.far k1 (by decide) (by decide) 0 c1.l
  have nm := MemOk.onlyC km k1 (Only.sets wr.drew (w.heap.size + 1) 0 c1.l)
  have ns := StoredIn.sets ks (show w.heap.size ≤ w.heap.size + 1 by omega) 0 c1.l
  have t2 := TKeep.sets (base := w.heap.size) (show w.heap.size ≤ w.heap.size + 1 + 1 by omega) (trA v1 t1).toList 0 (wr.drew.setCells (w.heap.size + 1) 0 c1.l)
  have q2 := blk_sets (trA v1 t1).toList 0 n2
  rw [tr_sets] at q2
  refine ⟨⟨blk_sets_far c1.l 0 (by omega) k0, nt.box⟩, n2, blk_sets_far _ 0 (by omega) n1, q2, ?_, StoredIn.tkeep ns t2 (Nat.le_refl _), MemOk.tkeep nm ⟨_, n2⟩ t2⟩
  refine own_move nt.row (fun k hk => ?_)
  have hne : k ≠ w.heap.size + 1 + 1 := by
    rintro rfl
    obtain ⟨cells, hc⟩ := own_typed nt.row _ hk
    rw [n2] at hc
    injection hc with hc
    injection hc with _ hc _
    exact absurd hc (by decide)
  obtain ⟨o', ho⟩ : ∃ o, (wr.drew.setCells (w.heap.size + 1) 0 c1.l).heap[k]? = some o := ⟨_, Array.getElem?_eq_getElem (own_lt nt.row k hk)⟩
  rw [ho]
  exact blk_sets_far _ 0 hne ho
section
variable {P : Program} {md : Region.Mode} {ops : Array Oper} {ds : List Nat} {S : World → Prop} {Q : Exit → Act → World → Prop}
theorem st_ {i : Nat} {t : TypeId} {p x : Operand} {fuel : Nat} {l : Array Bool} {a : Act} {w : World} {w1 : World} (hc : readyB md ops l (l.setIfInBounds i true) i = true) (hop : (ops[i]?).map (fun o => (o.dst, o.op, o.guard)) = some (none, .store t p x, none)) (hd : i ∉ ds)
    (hrun : Sem.run P (Instr.storeAt t (a.eval p) (a.eval x)) w = .ok () w1) (hS : S w1) (h : S w1 → wpAnyLast P md ops Q S ds fuel (l.setIfInBounds i true) a w1) : wpAnyLast P md ops Q S ds (fuel + 1) l a w := by
  cases hi : ops[i]? with
  | none => rw [hi] at hop; cases hop
  | some oi =>
    rw [hi] at hop
    simp only [Option.map_some, Option.some.injEq, Prod.mk.injEq] at hop
    obtain ⟨h1, h2, h3⟩ := hop
    refine one_ _ hi h1 hc hd fun K hK => ?_
    rw [if_pos (by unfold Region.wanted; rw [h3])]
    unfold Oper.wp
    rw [exec_store h2 hrun]
    show K (a.put oi.dst undef) w1
    rw [h1]
    exact hK.out _ _ hS h
end
def runR.T : Bool × List (List Nat × List Nat) := (true, [([], []), ([], []), ([0, 0], [0]), ([1, 2, 0, 1, 2], [1])])
def runR.B : List Nat := [0, 0, 1, 7]
theorem runR.tab : rtab .any (opsOf Tryz.f37 12) = runR.T := by kernel_rfl
theorem runR.bits : waitsOk runR.T.2 runR.B = true := by kernel_rfl
theorem run_none (L : List MP) (c : CPU) (t : TR) : runG F 0 L c t = (c, t, L) := rfl
theorem run_halted (n : Nat) (L : List MP) (c : CPU) (t : TR) (h : t.halted = true) : runG F n L c t = (c, t, L) := by
  cases n with
  | zero => rfl
  | succ n => unfold runG; rw [if_pos h]
theorem new_last (w : World) (o1 o2 : Obj) : ((w.alloc o1).alloc o2).heap[w.heap.size + 1]? = some o2 := by
  have e : w.heap.size + 1 = (w.alloc o1).heap.size := by show _ = (w.heap.push o1).size; rw [Array.size_push]
  rw [e]
  exact blk_new _ o2
structure RunMid (w wr : World) (mb lo hi N : Nat) (Lp : List MP) (c1 cp : CPU) (pk pu : Int) (v1 : Value) (t1 : TR) : Prop where
  b0 : wr.heap[w.heap.size]? = some (.cells c1.a 49 (0, 0))
  b1 : wr.heap[w.heap.size + 1]? = some (.cells CPU.zero.a 49 (0, 0))
  b2 : wr.heap[w.heap.size + 1 + 1]? = some (.cells (trA (.slice none 0 0) .zero) 38 (0, 0))
  tr : TrBox wr w.heap.size (w.heap.size + 1 + 1 + 1) v1 t1
  mem : MemOk wr mb lo hi Lp
  st : StoredIn w wr lo hi
  n0 : wr.heap[N]? = some (.cells cp.a 49 (0, 0))
  n1 : wr.heap[N + 1]? = some (.cells (evA pk pu) 108 (0, 0))
  big : w.heap.size + 1 + 1 + 1 < N
theorem run_mid {w wr w1 : World} {mb lo hi n k : Nat} {L0 L1 Lp : List MP} {c0 c1 : CPU} {v1 : Value} {t1 : TR} (h : RunInv F w wr mb lo hi n k L0 c0 L1 c1 v1 t1) (ht : hi ≤ w.heap.size) (hs : StoredIn wr w1 lo hi) (hm : MemOk w1 mb lo hi Lp) (cp : CPU) (pk pu : Int) :
    RunMid w ((((w1.alloc (.cells CPU.zero.a 49)).alloc (.cells (evA 0 0) 108)).setCells w1.heap.size 0 cp.l).setCells (w1.heap.size + 1) 0 (evA pk pu).toList) mb lo hi w1.heap.size Lp c1 cp pk pu v1 t1 := by
  have hbig : w.heap.size + 1 + 1 + 1 < w1.heap.size := Nat.lt_of_lt_of_le (blk_lt h.tr.box) hs.size
  have kb := fun (o : Nat) (q : Obj) (hq : wr.heap[o]? = some q) (hh : hi ≤ o) => hs.block o q hq (.inl (by omega))
  have x0 := kb _ _ h.b0 (by omega)
  have x1 := kb _ _ h.b1 (by omega)
  have x2 := kb _ _ h.b2 (by omega)
  have xt := h.tr.stored hs ht
  have xs := h.st.trans hs
  have g1 : Below w1.heap.size w1 ((w1.alloc (.cells CPU.zero.a 49)).alloc (.cells (evA 0 0) 108)) := below_alloc (below_alloc (Below.refl _ _) _) _
  have y4 : ((w1.alloc (.cells CPU.zero.a 49)).alloc (.cells (evA 0 0) 108)).heap[w1.heap.size]? = some (.cells CPU.zero.a 49 (0, 0)) := blk_alloc (blk_new w1 _) _
  have y5 := new_last w1 (.cells CPU.zero.a 49) (.cells (evA 0 0) 108)
  obtain ⟨z4, z5⟩ := two_sets y4 y5 (Nat.succ_ne_self _).symm cp pk pu
  have gg : Below w1.heap.size w1 ((((w1.alloc (.cells CPU.zero.a 49)).alloc (.cells (evA 0 0) 108)).setCells w1.heap.size 0 cp.l).setCells (w1.heap.size + 1) 0 (evA pk pu).toList) := below_sets (Nat.le_succ _) _ 0 (below_sets (Nat.le_refl _) _ 0 g1)
  exact ⟨blk_below x0 gg, blk_below x1 gg, blk_below x2 gg, xt.below gg, hm.below gg, xs.trans (StoredIn.of_below lo hi gg), z4, z5, hbig⟩
theorem RunMid.put {w wr : World} {mb lo hi N : Nat} {Lp : List MP} {c1 cp : CPU} {pk pu : Int} {v1 : Value} {t1 : TR} (h : RunMid w wr mb lo hi N Lp c1 cp pk pu v1 t1) :
    RunMid w (wr.setCells w.heap.size 0 cp.l) mb lo hi N Lp cp cp pk pu v1 t1 := by
  have g0 := blk_sets cp.l 0 h.b0
  rw [CPU.sets_] at g0
  have hN := h.big
  exact ⟨g0, blk_sets_far _ 0 (by omega) h.b1, blk_sets_far _ 0 (by omega) h.b2, h.tr.far h.b0 (by decide) (by decide) 0 cp.l, MemOk.onlyC h.mem h.b0 (Only.sets wr w.heap.size 0 cp.l), StoredIn.sets h.st (Nat.le_refl _) 0 cp.l, blk_sets_far _ 0 (by omega) h.n0, blk_sets_far _ 0 (by omega) h.n1, hN⟩
theorem RunMid.bad {w wr : World} {mb lo hi N n : Nat} {L0 Lp : List MP} {c0 c1 cp : CPU} {pk pu pe : Int} {v1 : Value} {t1 : TR} (h : RunMid w wr mb lo hi N Lp c1 cp pk pu v1 t1) (hr : runG F n L0 c0 .zero = (c1, { t1 with e := pe }, Lp)) (hok : c1.ok) :
    RunEnd F w (wr.setCell ⟨w.heap.size + 1 + 1 + 1, 4, none⟩ (.int .i64 pe)) mb lo hi n L0 c0 Lp c1 v1 { t1 with e := pe } := by
  have hk := TKeep.set wr h.tr.low 4 (.int .i64 pe)
  have kb := fun (o : Nat) (cs : Array Value) (t : TypeId) (h1 : o ≠ w.heap.size + 1 + 1 + 1) (h2 : t ≠ 22) (hq : wr.heap[o]? = some (.cells cs t (0, 0))) => hk.block o _ hq (.inr ⟨h1, by rintro ⟨cs', e⟩; injection e with _ e _; exact h2 e⟩)
  exact ⟨kb _ _ _ (by omega) (by decide) h.b0, kb _ _ _ (by omega) (by decide) h.b1, kb _ _ _ (by omega) (by decide) h.b2, h.tr.set 4 (.int .i64 pe) rfl rfl, MemOk.tkeep h.mem ⟨_, h.tr.box⟩ hk, StoredIn.tkeep h.st hk (Nat.le_refl _), hr, hok⟩
theorem RunMid.step {w wr : World} {mb lo hi N : Nat} {Lp : List MP} {c1 cp : CPU} {pk pu s : Int} {v1 : Value} {t1 : TR} (h : RunMid w wr mb lo hi N Lp c1 cp pk pu v1 t1) :
    RunMid w (wr.setCell ⟨w.heap.size + 1 + 1 + 1, 3, none⟩ (.int .i64 s)) mb lo hi N Lp c1 cp pk pu v1 { t1 with steps := s } := by
  have hk := TKeep.set wr h.tr.low 3 (.int .i64 s)
  have hN := h.big
  have kb := fun (o : Nat) (cs : Array Value) (t : TypeId) (h1 : o ≠ w.heap.size + 1 + 1 + 1) (h2 : t ≠ 22) (hq : wr.heap[o]? = some (.cells cs t (0, 0))) => hk.block o _ hq (.inr ⟨h1, by rintro ⟨cs', e⟩; injection e with _ e _; exact h2 e⟩)
  exact ⟨kb _ _ _ (by omega) (by decide) h.b0, kb _ _ _ (by omega) (by decide) h.b1, kb _ _ _ (by omega) (by decide) h.b2, h.tr.set 3 (.int .i64 s) rfl rfl, MemOk.tkeep h.mem ⟨_, h.tr.box⟩ hk, StoredIn.tkeep h.st hk (Nat.le_refl _), kb _ _ _ (by omega) (by decide) h.n0, kb _ _ _ (by omega) (by decide) h.n1, hN⟩
theorem RunMid.below {w wr wx : World} {mb lo hi N : Nat} {Lp : List MP} {c1 cp : CPU} {pk pu : Int} {v1 : Value} {t1 : TR} (h : RunMid w wr mb lo hi N Lp c1 cp pk pu v1 t1) (hb : Below wr.heap.size wr wx) :
    RunMid w wx mb lo hi N Lp c1 cp pk pu v1 t1 :=
  ⟨blk_below h.b0 hb, blk_below h.b1 hb, blk_below h.b2 hb, h.tr.below hb, h.mem.below hb, h.st.trans (StoredIn.of_below lo hi hb), blk_below h.n0 hb, blk_below h.n1 hb, h.big⟩
theorem RunMid.inv {w wr wx : World} {mb lo hi N n k : Nat} {L0 Lp : List MP} {c0 c1 cp : CPU} {pk pu : Int} {v1 v2 : Value} {t1 t2 : TR} (h : RunMid w wr mb lo hi N Lp c1 cp pk pu v1 t1) (hk : TKeep wr wx w.heap.size (w.heap.size + 1 + 1 + 1)) (ht : TrBox wx w.heap.size (w.heap.size + 1 + 1 + 1) v2 t2)
    (hok : c1.ok) (hrun : runG F n L0 c0 .zero = runG F k Lp c1 t2) (hst : t2.steps + k = n) (he : t2.e = 0) (htold : (t2.told.length : Int) ≤ t2.steps) : RunInv F w wx mb lo hi n k L0 c0 Lp c1 v2 t2 := by
  have kb := fun (o : Nat) (cs : Array Value) (t : TypeId) (h1 : o ≠ w.heap.size + 1 + 1 + 1) (h2 : t ≠ 22) (hq : wr.heap[o]? = some (.cells cs t (0, 0))) => hk.block o _ hq (.inr ⟨h1, by rintro ⟨cs', e⟩; injection e with _ e _; exact h2 e⟩)
  exact ⟨kb _ _ _ (by omega) (by decide) h.b0, kb _ _ _ (by omega) (by decide) h.b1, kb _ _ _ (by omega) (by decide) h.b2, ht, MemOk.tkeep h.mem ⟨_, h.tr.box⟩ hk, StoredIn.tkeep h.st hk (Nat.le_refl _), hok, hrun, hst, he, htold⟩
theorem add_told {t : TR} {k u : Int} (h : (t.told.length : Int) ≤ t.steps) : ((t.add k u).told.length : Int) ≤ (t.add k u).steps := by
  unfold TR.add
  simp only
  split
  · rw [List.length_append]; simp; omega
  · omega
theorem TabW.stored {w wr : World} {lo hi : Nat} (hT : TabW w) (h : StoredIn w wr lo hi) (hlo : 1 < lo) : TabW wr :=
  ⟨fun j hj => by
    have hc := hT.db j hj
    have hlt := World.block_lt_of_cell? w _ hc
    obtain ⟨o, ho⟩ : ∃ o, w.heap[1]? = some o := ⟨_, Array.getElem?_eq_getElem hlt⟩
    refine (World.cell?_of_block ?_).trans hc
    show wr.heap[1]? = w.heap[1]?
    rw [ho]
    exact h.block 1 o ho (.inl (by omega))⟩
theorem RunInv.next {w wr : World} {mb lo hi n k : Nat} {L0 L1 : List MP} {c0 c1 : CPU} {v1 : Value} {t1 : TR} (h : RunInv F w wr mb lo hi n (k + 1) L0 c0 L1 c1 v1 t1) :
    runG F n L0 c0 .zero = if t1.halted = true then (c1, t1, L1) else if (F L1 c1).e = 0 then runG F k (F L1 c1).L (F L1 c1).c (t1.add (F L1 c1).k (F L1 c1).u) else (c1, { t1 with e := (F L1 c1).e }, (F L1 c1).L) := by
  rw [h.run]; rfl
theorem RunInv.fin {w wr : World} {mb lo hi n kq : Nat} {L0 L1 : List MP} {c0 c1 : CPU} {v1 : Value} {t1 : TR} (h : RunInv F w wr mb lo hi n kq L0 c0 L1 c1 v1 t1) (hk : kq = 0 ∨ t1.halted = true) : RunEnd F w wr mb lo hi n L0 c0 L1 c1 v1 t1 :=
  ⟨h.b0, h.b1, h.b2, h.tr, h.mem, h.st, by rw [h.run]; rcases hk with rfl | hk; exact run_none _ _ _; exact run_halted _ _ _ _ hk, h.ok⟩
set_option maxHeartbeats 4000000 in
set_option maxRecDepth 100000 in
theorem run_any (F : List MP → CPU → PX) (Ok : List MP → CPU → Prop) (mb lo hi : Nat)
    (hF : ∀ (L : List MP) (c : CPU) (w : World), Ok L c → MemOk w mb lo hi L → c.ok → TabW w → hi ≤ w.heap.size → 1 < lo → Calls Tryz.prog 57 #[.agg c.a, .pointer (some ⟨mb, 0, none⟩)] w fun e w' => e = .returned (.tuple #[.agg (F L c).c.a, .agg (evA (F L c).k (F L c).u), .int .i64 (F L c).e]) ∧ StoredIn w w' lo hi ∧ MemOk w' mb lo hi (F L c).L ∧ (F L c).c.ok)
    (hOk : ∀ L c, Ok L c → (F L c).e = 0 → (F L c).k = 2 ∨ Ok (F L c).L (F L c).c) (n : Nat) (L : List MP) (c : CPU) (w : World) (hok0 : Ok L c) (hm : MemOk w mb lo hi L) (hc : c.ok) (hTab : TabW w) (htop : hi ≤ w.heap.size) (hlo : 1 < lo) (hn : n ≤ 100000) :
    Calls Tryz.prog 37 #[.agg c.a, .pointer (some ⟨mb, 0, none⟩), .int .i64 (n : Int)] w fun e w' => ∃ v, e = .returned (.tuple #[.agg (runG F n L c .zero).1.a, .agg (trA v (runG F n L c .zero).2.1)]) ∧ w'.ownsRow w.heap.size 22 1 v (runG F n L c .zero).2.1.told.length (nums .u64 (runG F n L c .zero).2.1.told) ∧ StoredIn w w' lo hi ∧ MemOk w' mb lo hi (runG F n L c .zero).2.2 ∧ (runG F n L c .zero).1.ok := by
  obtain ⟨W, hW, h0, h1, h2, h3, hB⟩ := four_new w (.cells c.a 49) (.cells CPU.zero.a 49) (.cells (trA (.slice none 0 0) .zero) 38) (.cells (trA (.slice none 0 0) .zero) 38)
  have HI := aq (show RunInv F w W mb lo hi n n L c L c (.slice none 0 0) .zero from ⟨h0, h1, h2, ⟨h3, ⟨rfl, .inl ⟨rfl, rfl⟩⟩, by omega⟩, hm.below hB, StoredIn.of_below lo hi hB, hc, rfl, by simp [TR.zero], rfl, by simp [TR.zero]⟩)
  have HW := aq hW
  have HT := aq hTab
  have HTOP := aq htop
  have HLO := aq hlo
  have HN := aq hn
  have HOK0 := aq (show TR.zero.halted = true ∨ Ok L c from .inr hok0)
  have HFF := aq hF
  have HOO := aq hOk
  have d1 : ¬ (n : Int) < 0 := by omega
  have d2 : ¬ (n : Int) > 100000 := by omega
  clear hW hF hOk h1 h2 h3 hB hm hc hTab htop hlo hn
  go_enter Tryz.func37, Tryz.ntmps37
  go_upto_region 2 with fail
  change Code.wp _ _ _ _ ((((w.alloc (.cells c.a 49)).alloc (.cells CPU.zero.a 49)).alloc (.cells (trA (.slice none 0 0) .zero) 38)).alloc (.cells (trA (.slice none 0 0) .zero) 38))
  rw [← HW.out]
  clear HW
  go_wp2
  go_loopg [11] n (fun kq v11 wr => ∃ (L1 : List MP) (c1 : CPU) (v1 : Value) (t1 : TR), Aside0 (RunInv F w wr mb lo hi n kq L c L1 c1 v1 t1) ∧ Aside0 (t1.halted = true ∨ Ok L1 c1))
  case atStart => exact ⟨L, c, _, .zero, HI, HOK0⟩
  case round =>
    obtain ⟨L1, c1, v1, t1, HR, HOK⟩ := hrel
    clear HI
    have c3 : wr.cell? ⟨w.heap.size + 1 + 1 + 1, 3, none⟩ = some (.int .i64 t1.steps) := (blk_cell HR.out.tr.box 3).trans rfl
    have c4 : wr.cell? ⟨w.heap.size + 1 + 1 + 1, 1, none⟩ = some (.bool t1.halted) := (blk_cell HR.out.tr.box 1).trans rfl
    by_cases hk : gk = 0
    · subst hk
      have ds : (t1.steps : Int) = n := by have := HR.out.steps; omega
      have d3 : decide (t1.steps < (n : Int)) = false := decide_eq_false (by omega)
      have HE := aq (HR.out.fin (.inl rfl))
      clear HR ds
      go_upto_region 12 with fail
      refine start_ (n := 4) (S := fun w' => w'.heap[w.heap.size]? = some (.cells c1.a 49 (0, 0)) ∧ w'.heap[w.heap.size + 1 + 1 + 1]? = some (.cells (trA v1 t1) 38 (0, 0))) (ds := [3]) #[false, false, false, false] (by kernel_rfl) rfl rfl ⟨HE.out.b0, HE.out.tr.box⟩ (fun hHeld => ?_); refine with_tabW runR.tab runR.bits (fun HT_ HW_ => ?_)
      refine tk_ (i := 0) (N := 49) (t := 49) (p := .tmp 3) (v := .agg c1.a) (take_ofW HT_.out HW_.out (by kernel_rfl)) rfl (fun _ _ _ h => h) hHeld ?_ ?_; · exact fun w' h' => run_loadAt_mid w' w.heap.size 0 49 c1.l _ (CPU.range c1 h'.1) under_cpu rfl info_cpu
      simp only [Act.put, List.setIfInBounds_toArray, List.set_cons_zero, List.set_cons_succ]
      refine tk_ (i := 1) (N := 50) (t := 38) (p := .tmp 8) (v := .agg (trA v1 t1)) (take_ofW HT_.out HW_.out (by kernel_rfl)) rfl (fun _ _ _ h => h) hHeld ?_ ?_; · exact fun w' h' => run_loadAt_mid w' (w.heap.size + 1 + 1 + 1) 0 38 (trA v1 t1).toList _ (row_range h'.2) under_tr rfl info_tr
      simp only [Act.put, List.setIfInBounds_toArray, List.set_cons_zero, List.set_cons_succ]
      have HF := aq (run_fin HE.out)
      refine st_ (i := 2) (one_of HT_.out (by kernel_rfl)) rfl (by decide) (run_storeAt_mid _ (w.heap.size + 1) 0 49 c1.a (there_blk HE.out.b1 0 37 (by decide)) info_cpu c1.one) HF.out.1 (fun hHeld => ?_); simp only [List.setIfInBounds_toArray, List.set_cons_zero, List.set_cons_succ]
      refine ls_ (i := 3) (one_of HT_.out (by kernel_rfl)) rfl (by decide) (run_storeAt_mid _ (w.heap.size + 1 + 1) 0 38 (trA v1 t1) (there_blk HF.out.2.1 0 5 (by decide)) info_tr (tr_one HE.out.tr)) ?_; simp only [List.setIfInBounds_toArray, List.set_cons_zero, List.set_cons_succ]
      refine done_ (done_of HT_.out (by kernel_rfl)) ?_
      go_wp2
      refine bodyPost_ret (results_list (rs := [.cell 6 49, .cell 7 38]) rfl (by simp) (.cell (w.heap.size + 1) 49 c1.a (0, 0) _ rfl HF.out.2.2.1 under_cpu rfl info_cpu (.cell (w.heap.size + 1 + 1) 38 (trA v1 t1) (0, 0) _ rfl HF.out.2.2.2.1 under_tr rfl info_tr .nil))) rfl ?_
      rw [HE.out.run]
      exact ⟨v1, rfl, HF.out.2.2.2.2.1, HF.out.2.2.2.2.2.1, HF.out.2.2.2.2.2.2, HE.out.ok⟩
    · have d3 : decide (t1.steps < (n : Int)) = true := decide_eq_true (by have := HR.out.steps; omega)
      by_cases hh : t1.halted = true
      · rw [hh] at c4
        have HE := aq (HR.out.fin (.inr hh))
        clear HR hh hk
        go_upto_region 12 with fail
        refine start_ (n := 4) (S := fun w' => w'.heap[w.heap.size]? = some (.cells c1.a 49 (0, 0)) ∧ w'.heap[w.heap.size + 1 + 1 + 1]? = some (.cells (trA v1 t1) 38 (0, 0))) (ds := [3]) #[false, false, false, false] (by kernel_rfl) rfl rfl ⟨HE.out.b0, HE.out.tr.box⟩ (fun hHeld => ?_); refine with_tabW runR.tab runR.bits (fun HT_ HW_ => ?_)
        refine tk_ (i := 0) (N := 49) (t := 49) (p := .tmp 3) (v := .agg c1.a) (take_ofW HT_.out HW_.out (by kernel_rfl)) rfl (fun _ _ _ h => h) hHeld ?_ ?_; · exact fun w' h' => run_loadAt_mid w' w.heap.size 0 49 c1.l _ (CPU.range c1 h'.1) under_cpu rfl info_cpu
        simp only [Act.put, List.setIfInBounds_toArray, List.set_cons_zero, List.set_cons_succ]
        refine tk_ (i := 1) (N := 50) (t := 38) (p := .tmp 8) (v := .agg (trA v1 t1)) (take_ofW HT_.out HW_.out (by kernel_rfl)) rfl (fun _ _ _ h => h) hHeld ?_ ?_; · exact fun w' h' => run_loadAt_mid w' (w.heap.size + 1 + 1 + 1) 0 38 (trA v1 t1).toList _ (row_range h'.2) under_tr rfl info_tr
        simp only [Act.put, List.setIfInBounds_toArray, List.set_cons_zero, List.set_cons_succ]
        have HF := aq (run_fin HE.out)
        refine st_ (i := 2) (one_of HT_.out (by kernel_rfl)) rfl (by decide) (run_storeAt_mid _ (w.heap.size + 1) 0 49 c1.a (there_blk HE.out.b1 0 37 (by decide)) info_cpu c1.one) HF.out.1 (fun hHeld => ?_); simp only [List.setIfInBounds_toArray, List.set_cons_zero, List.set_cons_succ]
        refine ls_ (i := 3) (one_of HT_.out (by kernel_rfl)) rfl (by decide) (run_storeAt_mid _ (w.heap.size + 1 + 1) 0 38 (trA v1 t1) (there_blk HF.out.2.1 0 5 (by decide)) info_tr (tr_one HE.out.tr)) ?_; simp only [List.setIfInBounds_toArray, List.set_cons_zero, List.set_cons_succ]
        refine done_ (done_of HT_.out (by kernel_rfl)) ?_
        go_wp2
        refine bodyPost_ret (results_list (rs := [.cell 6 49, .cell 7 38]) rfl (by simp) (.cell (w.heap.size + 1) 49 c1.a (0, 0) _ rfl HF.out.2.2.1 under_cpu rfl info_cpu (.cell (w.heap.size + 1 + 1) 38 (trA v1 t1) (0, 0) _ rfl HF.out.2.2.2.1 under_tr rfl info_tr .nil))) rfl ?_
        rw [HE.out.run]
        exact ⟨v1, rfl, HF.out.2.2.2.2.1, HF.out.2.2.2.2.2.1, HF.out.2.2.2.2.2.2, HE.out.ok⟩
      · have hh' : t1.halted = false := by simpa using hh
        rw [hh'] at c4
        obtain ⟨k, rfl⟩ : ∃ k, gk = k + 1 := ⟨gk - 1, by omega⟩
        have HTw := aq (TabW.stored HT.out HR.out.st HLO.out)
        have HTP := aq (Nat.le_trans HTOP.out HR.out.st.size)
        have hst := HR.out.next
        rw [if_neg hh] at hst
        have HS := aq hst
        clear hst hk hh
        have hok1 : Ok L1 c1 := by rcases HOK.out with h | h; (· exact absurd h (by rw [hh']; decide)); (· exact h)
        have HFC := aq (HFF.out L1 c1 wr hok1 HR.out.mem HR.out.ok HTw.out HTP.out HLO.out)
        have HON := aq (HOO.out L1 c1 hok1)
        clear hok1
        generalize hp : F L1 c1 = p at *
        obtain ⟨cp, pk, pu, pe, Lp⟩ := p
        go_upto_region 7 with (first | ((with_reducible refine gate_dst (N := 31) rfl ?_); refine wpList_load_mid rfl 49 (.tmp 3) rfl w.heap.size 0 rfl c1.l _ (c1.range HR.out.b0) under_cpu rfl info_cpu ?_) | (go_at_call 57; refine HFC.out.mono ?_; rintro e w1 ⟨rfl, hs, hm, hcp⟩; have HS1 := aq hs; have HM1 := aq hm; have HCP := aq hcp; clear hs hm hcp) | ((with_reducible refine gate_store (t := 49) (p := 9) (v := .tmp 34) rfl ?_); refine wpList_store_mid rfl 49 (.tmp 9) (.tmp 34) rfl w1.heap.size 0 cp.a rfl rfl (there_blk (blk_alloc (blk_new w1 (.cells CPU.zero.a 49)) _) 0 37 (by decide)) info_cpu cp.one ?_) | ((with_reducible refine gate_store (t := 108) (p := 10) (v := .tmp 35) rfl ?_); refine wpList_store_mid rfl 108 (.tmp 10) (.tmp 35) rfl (w1.heap.size + 1) 0 (evA pk pu) rfl rfl (there_blk (blk_sets_far cp.l 0 (Nat.succ_ne_self _) (new_last w1 (.cells CPU.zero.a 49) (.cells (evA 0 0) 108))) 0 2 (by decide)) info_ev (ev_one pk pu) ?_))
        have HM := aq (run_mid HR.out HTOP.out HS1.out HM1.out cp pk pu)
        change Code.wp _ _ _ _ ((((w1.alloc (.cells CPU.zero.a 49)).alloc (.cells (evA 0 0) 108)).setCells w1.heap.size 0 cp.l).setCells (w1.heap.size + 1) 0 (evA pk pu).toList)
        generalize (((w1.alloc (.cells CPU.zero.a 49)).alloc (.cells (evA 0 0) 108)).setCells w1.heap.size 0 cp.l).setCells (w1.heap.size + 1) 0 (evA pk pu).toList = w2 at *
        generalize w1.heap.size = N at *
        clear HS1 HM1 c3 c4 d3
        by_cases he : pe = 0
        · subst he
          go_upto_region 9 with fail
          go_upto_region 10 with (first | ((with_reducible refine gate_dst (N := 41) rfl ?_); refine wpList_load_mid rfl 49 (.tmp 9) rfl N 0 rfl cp.l _ (cp.range HM.out.n0) under_cpu rfl info_cpu ?_) | ((with_reducible refine gate_store (t := 49) (p := 3) (v := .tmp 41) rfl ?_); refine wpList_store_mid rfl 49 (.tmp 3) (.tmp 41) rfl w.heap.size 0 cp.a rfl rfl (there_blk HM.out.b0 0 37 (Nat.le_refl 37)) info_cpu cp.one ?_))
          have HM1 := aq (HM.out.put)
          change Code.wp _ _ _ _ (w2.setCells w.heap.size 0 cp.l)
          generalize w2.setCells w.heap.size 0 cp.l = w3 at *
          clear HM
          have c3 : w3.cell? ⟨w.heap.size + 1 + 1 + 1, 3, none⟩ = some (.int .i64 t1.steps) := (blk_cell HM1.out.tr.box 3).trans rfl
          have f3 := blk_frozen HM1.out.tr.box 3
          have hw : wrap64 (t1.steps + 1) = t1.steps + 1 := by have := HR.out.steps; have := HN.out; have := HR.out.told; unfold wrap64; omega
          go_upto_region 11 with fail
          rw [hw]
          have HM2 := aq (HM1.out.step (s := t1.steps + 1))
          generalize w3.setCell ⟨w.heap.size + 1 + 1 + 1, 3, none⟩ (.int .i64 (t1.steps + 1)) = w4 at *
          clear HM1 c3 f3 hw
          go_wp2_with (first | ((with_reducible refine gate_dst (N := 46) rfl ?_); refine wpList_load_mid rfl 108 (.tmp 10) rfl (N + 1) 0 rfl (evA pk pu).toList _ (row_range HM2.out.n1) under_ev rfl info_ev ?_) | (go_at_call 59; refine (of_at pk pu _).mono ?_; rintro e w5 ⟨rfl, hb⟩; have HM3 := aq (HM2.out.below hb); clear hb))
          have hpok : cp.ok := HCP.out
          refine (tell_at w.heap.size (w.heap.size + 1 + 1 + 1) v1 { t1 with steps := t1.steps + 1 } pk pu _ HM3.out.tr (by have := HR.out.told; have := HR.out.steps; have := HN.out; show t1.told.length ≤ 1000000; omega)).mono ?_
          rintro e w6 ⟨rfl, hk, v2, ht⟩
          have HI := aq (show RunInv F w w6 mb lo hi n k L c Lp cp v2 (t1.add pk pu) from HM3.out.inv hk ht hpok (HS.out.trans (if_pos (by trivial))) (by have := HR.out.steps; show t1.steps + 1 + (k : Int) = n; omega) HR.out.err (add_told HR.out.told))
          clear hk ht
          go_wp2
          go_roundg k
          case measure => omega
          case rel => exact ⟨Lp, cp, v2, t1.add pk pu, HI, ⟨by rcases HON.out (by trivial) with h | h; (· left; unfold TR.add; rw [if_pos h]); (· right; exact h)⟩⟩
        · have de : (pe != 0) = true := by simpa using he
          have f4 := blk_frozen HM.out.tr.box 4
          have c4 : w2.cell? ⟨w.heap.size + 1 + 1 + 1, 4, none⟩ = some (.int .i64 t1.e) := (blk_cell HM.out.tr.box 4).trans rfl
          have HE0 := aq (HM.out.bad (HS.out.trans (if_neg he)) HR.out.ok)
          clear HS
          go_upto_region 12 with fail
          generalize w2.setCell ⟨w.heap.size + 1 + 1 + 1, 4, none⟩ (.int .i64 pe) = w3 at *
          have HE := HE0
          clear HE0 HM c4 f4 de
          generalize ({ t1 with e := pe } : TR) = t2 at *
          refine start_ (n := 4) (S := fun w' => w'.heap[w.heap.size]? = some (.cells c1.a 49 (0, 0)) ∧ w'.heap[w.heap.size + 1 + 1 + 1]? = some (.cells (trA v1 t2) 38 (0, 0))) (ds := [3]) #[false, false, false, false] (by kernel_rfl) rfl rfl ⟨HE.out.b0, HE.out.tr.box⟩ (fun hHeld => ?_); refine with_tabW runR.tab runR.bits (fun HT_ HW_ => ?_)
          refine tk_ (i := 0) (N := 49) (t := 49) (p := .tmp 3) (v := .agg c1.a) (take_ofW HT_.out HW_.out (by kernel_rfl)) rfl (fun _ _ _ h => h) hHeld ?_ ?_; · exact fun w' h' => run_loadAt_mid w' w.heap.size 0 49 c1.l _ (CPU.range c1 h'.1) under_cpu rfl info_cpu
          simp only [Act.put, List.setIfInBounds_toArray, List.set_cons_zero, List.set_cons_succ]
          refine tk_ (i := 1) (N := 50) (t := 38) (p := .tmp 8) (v := .agg (trA v1 t2)) (take_ofW HT_.out HW_.out (by kernel_rfl)) rfl (fun _ _ _ h => h) hHeld ?_ ?_; · exact fun w' h' => run_loadAt_mid w' (w.heap.size + 1 + 1 + 1) 0 38 (trA v1 t2).toList _ (row_range h'.2) under_tr rfl info_tr
          simp only [Act.put, List.setIfInBounds_toArray, List.set_cons_zero, List.set_cons_succ]
          have HF := aq (run_fin HE.out)
          refine st_ (i := 2) (one_of HT_.out (by kernel_rfl)) rfl (by decide) (run_storeAt_mid _ (w.heap.size + 1) 0 49 c1.a (there_blk HE.out.b1 0 37 (by decide)) info_cpu c1.one) HF.out.1 (fun hHeld => ?_); simp only [List.setIfInBounds_toArray, List.set_cons_zero, List.set_cons_succ]
          refine ls_ (i := 3) (one_of HT_.out (by kernel_rfl)) rfl (by decide) (run_storeAt_mid _ (w.heap.size + 1 + 1) 0 38 (trA v1 t2) (there_blk HF.out.2.1 0 5 (by decide)) info_tr (tr_one HE.out.tr)) ?_; simp only [List.setIfInBounds_toArray, List.set_cons_zero, List.set_cons_succ]
          refine done_ (done_of HT_.out (by kernel_rfl)) ?_
          go_wp2
          refine bodyPost_ret (results_list (rs := [.cell 6 49, .cell 7 38]) rfl (by simp) (.cell (w.heap.size + 1) 49 c1.a (0, 0) _ rfl HF.out.2.2.1 under_cpu rfl info_cpu (.cell (w.heap.size + 1 + 1) 38 (trA v1 t2) (0, 0) _ rfl HF.out.2.2.2.1 under_tr rfl info_tr .nil))) rfl ?_
          rw [HE.out.run]
          exact ⟨v1, rfl, HF.out.2.2.2.2.1, HF.out.2.2.2.2.2.1, HF.out.2.2.2.2.2.2, HE.out.ok⟩
set_option maxHeartbeats 4000000 in
set_option maxRecDepth 100000 in
theorem same_calls (A B : Option Addr) (ca cb : Nat) (t : TR) (w : World) (hA : Kd.C (Kd.int .u64) w A t.told.length t.told) (hca : t.told.length ≤ ca) (hB : Kd.C (Kd.int .u64) w B t.told.length t.told) (hcb : t.told.length ≤ cb) (hl : t.told.length < 900) :
    Calls Tryz.prog 16 #[.agg (trA (.slice A t.told.length ca) t), .agg (trA (.slice B t.told.length cb) t)] w fun e w' => e = .returned (.bool true) ∧ Below w.heap.size w w' := by
  have RA := aq (Kd.reads_of_C (d := 0) hA)
  have RB := aq (Kd.reads_of_C (d := 0) hB)
  obtain ⟨l, h, c, s, e⟩ := t
  simp only at *
  have HL := aq hl
  obtain ⟨W, hW, h0, h1, hb⟩ := two_new w (.cells (trA (.slice A l.length ca) ⟨l, h, c, s, e⟩) 38) (.cells (trA (.slice B l.length cb) ⟨l, h, c, s, e⟩) 38)
  have HW := aq hW
  have H0 := aq h0
  have H1 := aq h1
  have HB := aq hb
  have a0 : W.cell? ⟨w.heap.size, 0, none⟩ = some (.slice A l.length ca) := (blk_cell h0 0).trans rfl
  have a1 : W.cell? ⟨w.heap.size, 1, none⟩ = some (.bool h) := (blk_cell h0 1).trans rfl
  have a2 : W.cell? ⟨w.heap.size, 2, none⟩ = some (.int .u64 c) := (blk_cell h0 2).trans rfl
  have a3 : W.cell? ⟨w.heap.size, 3, none⟩ = some (.int .i64 s) := (blk_cell h0 3).trans rfl
  have a4 : W.cell? ⟨w.heap.size, 4, none⟩ = some (.int .i64 e) := (blk_cell h0 4).trans rfl
  have b0 : W.cell? ⟨w.heap.size + 1, 0, none⟩ = some (.slice B l.length cb) := (blk_cell h1 0).trans rfl
  have b1 : W.cell? ⟨w.heap.size + 1, 1, none⟩ = some (.bool h) := (blk_cell h1 1).trans rfl
  have b2 : W.cell? ⟨w.heap.size + 1, 2, none⟩ = some (.int .u64 c) := (blk_cell h1 2).trans rfl
  have b3 : W.cell? ⟨w.heap.size + 1, 3, none⟩ = some (.int .i64 s) := (blk_cell h1 3).trans rfl
  have b4 : W.cell? ⟨w.heap.size + 1, 4, none⟩ = some (.int .i64 e) := (blk_cell h1 4).trans rfl
  clear hW h0 h1 hb hl hA hB hca hcb
  go_enter Tryz.func16, Tryz.ntmps16
  go_upto_region 1 with fail
  change Code.wp _ _ _ _ ((w.alloc (.cells (trA (.slice A l.length ca) ⟨l, h, c, s, e⟩) 38)).alloc (.cells (trA (.slice B l.length cb) ⟨l, h, c, s, e⟩) 38))
  rw [← HW.out]
  clear HW
  go_wp2
  clear a0 a1 a2 a3 a4 b0 b1 b2 b3 b4
  go_loopg [5] l.length (fun kq v5 wr => ∃ i : Nat, v5 = .int .i64 (i : Int) ∧ i + kq = l.length ∧ Aside0 (Below W.heap.size W wr))
  case atStart => exact ⟨0, rfl, by omega, ⟨Below.refl _ _⟩⟩
  case round =>
    obtain ⟨i, rfl, hik, HX⟩ := hrel
    have a0 : wr.cell? ⟨w.heap.size, 0, none⟩ = some (.slice A l.length ca) := (blk_cell (blk_below H0.out HX.out) 0).trans rfl
    have b0 : wr.cell? ⟨w.heap.size + 1, 0, none⟩ = some (.slice B l.length cb) := (blk_cell (blk_below H1.out HX.out) 0).trans rfl
    cases gk with
    | zero =>
      obtain rfl : i = l.length := by omega
      clear hik
      go_wp2
      go_ret
      exact ⟨rfl, below_step HB.out HX.out⟩
    | succ kq =>
      have hlt : i < l.length := by omega
      have hbw := below_step HB.out HX.out
      obtain ⟨x, rfl, ex⟩ := (RA.out.below hbw).at_ (i : Int) (by omega) (by omega)
      obtain ⟨y, rfl, ey⟩ := (RB.out.below hbw).at_ (i : Int) (by omega) (by omega)
      rw [Int.toNat_natCast] at ex ey
      generalize rdOf (0 : Int) l (i : Int) = v at *
      have hw : wrap64 ((i : Int) + 1) = ((i : Int) + 1) := by have := HL.out; unfold wrap64; omega
      have HIK := aq hik
      clear hik hbw
      go_wp2
      go_quiet (fail)
      go_wp2
      go_roundg kq
      case measure => omega
      case rel => exact ⟨i + 1, by rw [hw]; rfl, by have := HIK.out; omega, ⟨pw_below_drewN HX.out _⟩⟩
end Go.Proofs.YtflojfcioojgbaaGreatDoor.ST
namespace Go.Proofs.YtflojfcioojgbaaGreatDoor.IM
open Go.RowKit Go.Proofs.YtflojfcioojgbaaGreatDoor.P Go.Proofs.YtflojfcioojgbaaGreatDoorW.PrintWords Go.Proofs.YtflojfcioojgbaaGreatDoorW.PrintLast Go.Proofs.YtflojfcioojgbaaGreatDoorW.PrintMore Go.Proofs.YtflojfcioojgbaaGreatDoor.MW Go.Proofs.YtflojfcioojgbaaGreatDoor.M Go.Proofs.YtflojfcioojgbaaGreatDoor.ST
set_option linter.unusedVariables false
set_option linter.unusedSimpArgs false
def ldC (en sp : Int) : CPU := ⟨fun _ => 0, sp, en, false, false, false, false⟩
theorem cpu_sets {w : World} {Z : Nat} {c d : CPU} (h : w.heap[Z]? = some (.cells d.a 49 (0, 0))) : (w.setCells Z 0 c.l).heap[Z]? = some (.cells c.a 49 (0, 0)) := by
  have h1 := blk_sets c.l 0 h
  rwa [CPU.sets_] at h1
theorem store_cpu {w : World} {b : Nat} {d : CPU} (h : w.heap[b]? = some (.cells d.a 49 (0, 0))) (c : CPU) : Sem.run Tryz.prog (Instr.storeAt 49 (.pointer (some ⟨b, 0, none⟩)) (.agg c.a)) w = .ok () (w.setCells b 0 c.l) := run_storeAt_mid w b 0 49 c.a (there_blk h 0 37 (Nat.le_refl 37)) info_cpu c.one
theorem fin_cpu {u w : World} {b : Nat} (hb : Below u.heap.size u w) (h : u.heap.size ≤ b) (c : CPU) : Below u.heap.size u (w.setCells b 0 c.l) := below_sets h _ 0 hb
theorem MemOk.far {w : World} {M lo hi b : Nat} {L : List MP} {d : CPU} (h : MemOk w M lo hi L) (hb : w.heap[b]? = some (.cells d.a 49 (0, 0))) (c : CPU) : MemOk (w.setCells b 0 c.l) M lo hi L := MemOk.onlyC h hb (Only.sets w b 0 c.l)
set_option maxHeartbeats 1000000 in
set_option maxRecDepth 100000 in
theorem load_off (w : World) (en st : Int) (A : Option Addr) (c : Nat) (l : List S57) (hC : Kd.C k57 w A l.length l) (hc : l.length ≤ c) (hl : l.length ≤ 300) (hn : IMG.nums ⟨en, st, l⟩) (hk : okI ⟨en, st, l⟩ = false) :
    Calls Tryz.prog 21 #[.agg #[.int .u64 en, .int .u64 st, .slice A l.length c]] w fun e w' => e = .returned (.tuple #[.pointer none, .agg CPU.zero.a, .int .i64 1]) ∧ Below w.heap.size w w' := by
  have HI := aq (fun (W : World) (hb : Below w.heap.size w W) => is_at W en st A c l (Kd.C_below hC hb) hc hl hn)
  rw [hk] at HI
  obtain ⟨W, hW, h0, h1, hB⟩ := two_new w (.cells #[.int .u64 en, .int .u64 st, .slice A l.length c] 25) (.cells CPU.zero.a 49)
  have x0 : W.cell? ⟨w.heap.size, 0, none⟩ = some (.int .u64 en) := (blk_cell h0 0).trans rfl
  have x1 : W.cell? ⟨w.heap.size, 1, none⟩ = some (.int .u64 st) := (blk_cell h0 1).trans rfl
  have x2 : W.cell? ⟨w.heap.size, 2, none⟩ = some (.slice A l.length c) := (blk_cell h0 2).trans rfl
  have HW := aq hW
  have H1 := aq h1
  have HB := aq hB
  clear hW h0 h1 hB hC hn hk
  go_enter Tryz.func21, Tryz.ntmps21
  go_upto_region 1 with fail
  change Code.wp _ _ _ _ ((w.alloc (.cells #[.int .u64 en, .int .u64 st, .slice A l.length c] 25)).alloc (.cells CPU.zero.a 49))
  rw [← HW.out]
  clear HW
  go_upto_region 2 with (go_at_call 12; refine (HI.out _ HB.out).mono ?_; rintro e w1 ⟨rfl, hb⟩; have H2 := aq (blk_below H1.out hb); have HB2 := aq (below_step HB.out hb); clear hb)
  clear x0 x1 x2
  go_wp2_with (first | ((with_reducible refine gate_dst (N := 10) rfl ?_); refine build_cpu0 rfl rfl ?_) | ((with_reducible refine gate_store (t := 49) (p := 3) (v := .tmp 10) rfl ?_); refine wpList_store_mid rfl 49 (.tmp 3) (.tmp 10) rfl (w.heap.size + 1) 0 CPU.zero.a rfl rfl (there_blk H2.out 0 37 (by decide)) info_cpu CPU.zero.one ?_))
  refine bodyPost_ret (results_list (rs := [.tmp 2, .cell 3 49, .tmp 4]) rfl (by simp) (.tmp (.cell (w.heap.size + 1) 49 CPU.zero.a (0, 0) _ rfl (cpu_sets H2.out) under_cpu rfl info_cpu (.tmp .nil)))) rfl ?_
  exact ⟨rfl, fin_cpu HB2.out (by omega) _⟩
def loadR.T : Bool × List (List Nat × List Nat) := (true, [([], []), ([], []), ([1], [1]), ([], []), ([3], [3]), ([4], [4]), ([2, 5], [2, 5]), ([], []), ([0, 0], [0]), ([6, 8, 0, 1, 2, 3, 4, 5, 6, 8], [6]), ([7, 9, 0, 1, 2, 3, 4, 5, 6, 7, 8, 9], [7])])
def loadR.B : List Nat := [0, 0, 2, 0, 8, 24, 62, 0, 1, 383, 1023]
theorem loadR.tab : rtab .any (opsOf Tryz.f21 4) = loadR.T := by kernel_rfl
theorem loadR.bits : waitsOk loadR.T.2 loadR.B = true := by kernel_rfl
set_option maxHeartbeats 1000000 in
set_option maxRecDepth 100000 in
theorem load_ok (w : World) (en st : Int) (A : Option Addr) (c : Nat) (l : List S57) (hC : Kd.C k57 w A l.length l) (hc : l.length ≤ c) (hl : l.length ≤ 300) (hn : IMG.nums ⟨en, st, l⟩) (hk : okI ⟨en, st, l⟩ = true) :
    Calls Tryz.prog 21 #[.agg #[.int .u64 en, .int .u64 st, .slice A l.length c]] w fun e w' => Below w.heap.size w w' ∧ ∃ M hi, w.heap.size ≤ M ∧ hi ≤ w'.heap.size ∧ e = .returned (.tuple #[.pointer (some ⟨M, 0, none⟩), .agg (ldC en (st + 4096)).a, .int .i64 0]) ∧ MemOk w' M M hi (memL (l ++ [stk st])) := by
  have HI := aq (fun (W : World) (hb : Below w.heap.size w W) => is_at W en st A c l (Kd.C_below hC hb) hc hl hn)
  rw [hk] at HI
  have hk7 := hk
  unfold okI at hk7
  obtain ⟨_, _, _, h4, _, _, h7⟩ := of_decide_eq_true hk7
  simp only at h4 h7
  have HM := aq (fun (W : World) (hb : Below w.heap.size w W) => show Calls Tryz.prog 32 #[.agg #[.int .u64 en, .int .u64 st, .slice A l.length c]] W fun e w' => Below W.heap.size W w' ∧ ∃ M, W.heap.size ≤ M ∧ e = .returned (.tuple #[.pointer (some ⟨M, 0, none⟩), .int .i64 0]) ∧ MemOk w' M M w'.heap.size (memL (l ++ [stk st])) from by
    refine (memory_at W en st A c l (Kd.C_below hC hb) hc hl hn.f hn.s0 hn.s1).mono ?_
    rintro e w' ⟨hb, ⟨h1, rfl⟩ | ⟨h1, M, h2, rfl, hm⟩⟩
    · exact absurd h7 h1
    · exact ⟨hb, M, h2, rfl, hm⟩)
  have hst0 : 0 ≤ st := hn.s0
  have esp : IntKind.u64.wrap (st + 4096) = st + 4096 := u64_self _ (by omega) (by omega)
  generalize hcc : ldC en (st + 4096) = cc at *
  have HCE := aq (fun (X : Array Value) (h : X = (ldC en (st + 4096)).a) => show X = cc.a from h.trans (congrArg CPU.a hcc))
  clear hcc
  obtain ⟨W, hW, h0, h1, hB⟩ := two_new w (.cells #[.int .u64 en, .int .u64 st, .slice A l.length c] 25) (.cells CPU.zero.a 49)
  have x0 : W.cell? ⟨w.heap.size, 0, none⟩ = some (.int .u64 en) := (blk_cell h0 0).trans rfl
  have x1 : W.cell? ⟨w.heap.size, 1, none⟩ = some (.int .u64 st) := (blk_cell h0 1).trans rfl
  have x2 : W.cell? ⟨w.heap.size, 2, none⟩ = some (.slice A l.length c) := (blk_cell h0 2).trans rfl
  have HW := aq hW
  have H0 := aq h0
  have H1 := aq h1
  have HB := aq hB
  clear hW h0 h1 hB hC hn hk hk7 h4 h7 hst0
  go_enter Tryz.func21, Tryz.ntmps21
  go_upto_region 1 with fail
  change Code.wp _ _ _ _ ((w.alloc (.cells #[.int .u64 en, .int .u64 st, .slice A l.length c] 25)).alloc (.cells CPU.zero.a 49))
  rw [← HW.out]
  clear HW
  go_upto_region 3 with (go_at_call 12; refine (HI.out _ HB.out).mono ?_; rintro e w1 ⟨rfl, hb⟩; have H2 := aq (blk_below H1.out hb); have HX := aq (blk_below H0.out hb); have HB2 := aq (below_step HB.out hb); clear hb)
  clear x0 x1 x2
  have x0 : w1.cell? ⟨w.heap.size, 0, none⟩ = some (.int .u64 en) := (blk_cell HX.out 0).trans rfl
  have x1 : w1.cell? ⟨w.heap.size, 1, none⟩ = some (.int .u64 st) := (blk_cell HX.out 1).trans rfl
  have x2 : w1.cell? ⟨w.heap.size, 2, none⟩ = some (.slice A l.length c) := (blk_cell HX.out 2).trans rfl
  go_upto_region 4 with (go_at_call 32; refine (HM.out _ HB2.out).mono ?_; rintro e w2 ⟨hb, M, hM, rfl, hm⟩; have H4 := aq (blk_below H2.out hb); have H3 := aq (blk_below HX.out hb); have HB4 := aq (below_step HB2.out hb); have HM4 := aq hm; have HLE := aq (Nat.le_trans HB2.out.size hM); clear hb hm hM)
  clear x0 x1 x2 H0 H1 H2 HX HB HB2 HI HM
  refine start_ (n := 11) (S := fun w' => w'.cell? ⟨w.heap.size, 0, none⟩ = some (.int .u64 en) ∧ w'.cell? ⟨w.heap.size, 1, none⟩ = some (.int .u64 st)) (ds := [9]) #[false, false, false, false, false, false, false, false, false, false, false] (by kernel_rfl) rfl rfl ⟨(blk_cell H3.out 0).trans rfl, (blk_cell H3.out 1).trans rfl⟩ (fun hHeld => ?_); refine with_tabW loadR.tab loadR.bits (fun HT_ HW_ => ?_)
  refine pu_ (i := 0) (N := some 16) (v := _) (any_of HT_.out (by kernel_rfl)) rfl rfl (by rfl) (fun _ _ _ h => h) (fun w' => by go_simp; with_reducible rfl) ?_; simp only [Act.put, List.setIfInBounds_toArray, List.set_cons_zero, List.set_cons_succ]
  refine pu_ (i := 1) (N := some 17) (v := _) (any_of HT_.out (by kernel_rfl)) rfl rfl (by rfl) (fun _ _ _ h => h) (fun w' => by go_simp; with_reducible rfl) ?_; simp only [Act.put, List.setIfInBounds_toArray, List.set_cons_zero, List.set_cons_succ]
  refine pu_ (i := 3) (N := some 19) (v := _) (any_of HT_.out (by kernel_rfl)) rfl rfl (by rfl) (fun _ _ _ h => h) (fun w' => by go_simp; with_reducible rfl) ?_; simp only [Act.put, List.setIfInBounds_toArray, List.set_cons_zero, List.set_cons_succ]
  refine tk_ (i := 2) (N := 18) (t := 22) (p := .tmp 17) (v := .int .u64 en) (take_ofW HT_.out HW_.out (by kernel_rfl)) rfl (fun _ _ _ h => h) hHeld ?_ ?_; · exact fun w' h' => load_u64 w.heap.size 0 en w' h'.1
  simp only [Act.put, List.setIfInBounds_toArray, List.set_cons_zero, List.set_cons_succ]
  refine tk_ (i := 4) (N := 20) (t := 22) (p := .tmp 19) (v := .int .u64 st) (take_ofW HT_.out HW_.out (by kernel_rfl)) rfl (fun _ _ _ h => h) hHeld ?_ ?_; · exact fun w' h' => load_u64 w.heap.size 1 st w' h'.2
  simp only [Act.put, List.setIfInBounds_toArray, List.set_cons_zero, List.set_cons_succ]
  refine pu_ (i := 5) (N := some 21) (v := _) (any_of HT_.out (by kernel_rfl)) rfl rfl (by rfl) (fun _ _ _ h => h) (fun w' => by go_simp; with_reducible rfl) ?_; simp only [Act.put, List.setIfInBounds_toArray, List.set_cons_zero, List.set_cons_succ]
  refine pu_ (i := 6) (N := some 22) (v := .agg cc.a) (any_of HT_.out (by kernel_rfl)) rfl rfl (by rfl) (fun _ _ _ h => h) (fun w' => by go_simp; exact HCE.out _ rfl) ?_; simp only [Act.put, List.setIfInBounds_toArray, List.set_cons_zero, List.set_cons_succ]
  refine pu_ (i := 7) (N := some 23) (v := _) (any_of HT_.out (by kernel_rfl)) rfl rfl (by rfl) (fun _ _ _ h => h) (fun w' => by go_simp; with_reducible rfl) ?_; simp only [Act.put, List.setIfInBounds_toArray, List.set_cons_zero, List.set_cons_succ]
  refine pu_ (i := 8) (N := some 2) (v := _) (any_of HT_.out (by kernel_rfl)) rfl rfl (by rfl) (fun _ _ _ h => h) (fun w' => by go_simp; with_reducible rfl) ?_; simp only [Act.put, List.setIfInBounds_toArray, List.set_cons_zero, List.set_cons_succ]
  refine ls_ (i := 9) (one_of HT_.out (by kernel_rfl)) rfl (by decide) (store_cpu (w := w2.drew) H4.out cc) ?_; simp only [List.setIfInBounds_toArray, List.set_cons_zero, List.set_cons_succ]
  have HF := aq (cpu_sets (w := w2.drew) (c := cc) H4.out)
  have HBF := aq (fin_cpu (w := w2.drew) (b := w.heap.size + 1) (below_drew1 HB4.out) (by omega) cc)
  have HMF := aq (MemOk.far (w := w2.drew) (HM4.out.below (below_drew1 (Below.refl _ _))) H4.out cc)
  have HSF := aq (Nat.le_of_eq (size_sets (w.heap.size + 1) cc.l 0 w2.drew).symm)
  generalize w2.drew.setCells (w.heap.size + 1) 0 cc.l = w5 at *
  refine pu_ (i := 10) (N := some 4) (v := _) (any_of HT_.out (by kernel_rfl)) rfl rfl (by rfl) (fun _ _ _ h => h) (fun w' => by go_simp; with_reducible rfl) ?_; simp only [Act.put, List.setIfInBounds_toArray, List.set_cons_zero, List.set_cons_succ]
  refine done_ (done_of HT_.out (by kernel_rfl)) ?_
  go_wp2
  refine bodyPost_ret (results_list (rs := [.tmp 2, .cell 3 49, .tmp 4]) rfl (by simp) (.tmp (.cell (w.heap.size + 1) 49 cc.a (0, 0) _ rfl HF.out under_cpu rfl info_cpu (.tmp .nil)))) rfl ?_
  exact ⟨HBF.out, M, w2.heap.size, HLE.out, HSF.out, rfl, HMF.out⟩
def exS : ByteArray := ⟨#[1, 0, 0, 212]⟩
def exR : S57 := ⟨64, 1, exS⟩
def exL : List MP := [⟨64, 1, [1, 0, 0, 212]⟩, ⟨8192, 3, bytesOf zs⟩]
def exC : CPU := ⟨fun _ => 0, 12288, 64, false, false, false, false⟩
def exI : INS := ⟨37, 0, 0, 0, 0, 0, 0, 0, 0, 0⟩
theorem ex_sort (z : ByteArray) : sortM ([exR, ⟨8192, 3, z⟩].map mpOf) = [⟨64, 1, [1, 0, 0, 212]⟩, ⟨8192, 3, bytesOf z⟩] := by
  rfl
theorem ex_mem : memL ([exR] ++ [stk 8192]) = exL := ex_sort zs
theorem ex_new : newV ([exR] ++ [stk 8192]) = 0 := by
  have hz : badR (stk 8192) = false := by
    unfold badR stk
    simp [zs_size]
  have hr : badR exR = false := by decide +kernel
  have hf : ([exR] ++ [stk 8192]).any farR = false := by rfl
  have hs : apartB (sortM (([exR] ++ [stk 8192]).map mpOf)) = true := by
    show apartB (sortM ([exR, ⟨8192, 3, zs⟩].map mpOf)) = true
    rw [ex_sort]
    rfl
  have ha : ([exR] ++ [stk 8192]).any badR = false := by
    show (badR exR || (badR (stk 8192) || false)) = false
    rw [hr, hz]
    rfl
  unfold newV
  rw [if_neg (by rw [ha]; decide), if_neg (by rw [hf]; decide), if_pos hs]
theorem ex_word (d : List Int) : mword [⟨64, 1, [1, 0, 0, 212]⟩, ⟨8192, 3, d⟩] 64 = (3556769793, 0) := by rfl
theorem ex_dec : code_Decode.f 1000 3556769793 = some (37, 0, 0, 0, 0, 0, 0, 0, 0, 0, 0) := by kernel_rfl
theorem exC_ok : exC.ok := ⟨fun _ => ⟨by show (0 : Int) ≤ 0; decide, by show (0 : Int) < _; decide⟩, ⟨by decide, by decide⟩, ⟨by decide, by decide⟩⟩
def exF (_ : List MP) (_ : CPU) : PX := ⟨exC.next, 2, 0, 0, exL⟩
theorem ex_step (mb lo hi : Nat) (w : World) (hm : MemOk w mb lo hi exL) (hTab : TabW w) (htop : hi ≤ w.heap.size) : Calls Tryz.prog 57 #[.agg exC.a, .pointer (some ⟨mb, 0, none⟩)] w fun e w' => e = .returned (.tuple #[.agg (exC.next).a, .agg (evA 2 0), .int .i64 0]) ∧ StoredIn w w' lo hi ∧ MemOk w' mb lo hi exL :=
  step_halted 1000 exC exC w mb lo hi exL exL 0 hm exC_ok hTab htop 3556769793 exI (ex_word _) ex_dec
    (fun w0 w1 M hr => (branch_no exC _ exI _ M w1 hr.mac (fun n h1 h2 e => by have : (37 : Int) = n := e; omega)).mono (by
      rintro e w' ⟨rfl, ho, hm⟩
      exact ⟨rfl, hr.only ho hm⟩))
    (fun w0 w1 M _ hr => plain_37_0 exC exI .nilIface w0 w1 M mb lo hi exL hr exC_ok rfl rfl)
theorem next_ok {c : CPU} (h : c.ok) (h1 : c.pc + 4 < 18446744073709551616) : c.next.ok := ⟨h.x, h.sp, by have := h.pc; unfold CPU.next; simp only; rw [u64_self _ (by omega) h1]; omega⟩
theorem ex_run (n : Nat) (h1 : 1 ≤ n) (hn : n ≤ 100000) (w : World) (mb lo hi : Nat) (hm : MemOk w mb lo hi exL) (hTab : TabW w) (htop : hi ≤ w.heap.size) (hlo : 1 < lo) :
    Calls Tryz.prog 37 #[.agg exC.a, .pointer (some ⟨mb, 0, none⟩), .int .i64 (n : Int)] w fun e w' => ∃ v, e = .returned (.tuple #[.agg exC.next.a, .agg (trA v ⟨[], true, 0, 1, 0⟩)]) ∧ w'.ownsRow w.heap.size 22 1 v 0 [] ∧ StoredIn w w' lo hi := by
  have h := run_any exF (fun L c => L = exL ∧ c = exC) mb lo hi
    (fun L c w hLc hm hc hT ht hl => by
      obtain ⟨rfl, rfl⟩ := hLc
      refine (ex_step mb lo hi w hm hT ht).mono ?_
      rintro e w' ⟨rfl, h1, h2⟩
      exact ⟨rfl, h1, h2, next_ok exC_ok (by decide)⟩)
    (fun L c _ _ => .inl rfl) n exL exC w ⟨rfl, rfl⟩ hm exC_ok hTab htop hlo hn
  obtain ⟨m, rfl⟩ : ∃ m, n = m + 1 := ⟨n - 1, by omega⟩
  have e : runG exF (m + 1) exL exC .zero = (exC.next, ⟨[], true, 0, 1, 0⟩, exL) := by
    have e2 : ∀ k, runG exF k exL exC.next ⟨[], true, 0, 1, 0⟩ = (exC.next, ⟨[], true, 0, 1, 0⟩, exL) := fun k => by cases k <;> rfl
    exact e2 m
  rw [e] at h
  refine h.mono ?_
  rintro e w' ⟨v, h1, h2, h3, h4, h5⟩
  exact ⟨v, h1, h2, h3⟩
theorem ex_nums : IMG.nums ⟨64, 8192, [exR]⟩ := by
  refine ⟨by decide, by decide, by decide, by decide, fun r hr => ?_⟩
  obtain rfl : r = exR := by simpa using hr
  exact ⟨by decide, by decide⟩
theorem tr_sets' {w : World} {Z : Nat} {v v' : Value} {t t' : TR} (h : w.heap[Z]? = some (.cells (trA v t) 38 (0, 0))) : (w.setCells Z 0 (trA v' t').toList).heap[Z]? = some (.cells (trA v' t') 38 (0, 0)) := by
  have h1 := blk_sets (trA v' t').toList 0 h
  rwa [tr_sets] at h1
theorem ex_ok : okI ⟨64, 8192, [exR]⟩ = true := decide_eq_true ⟨by decide, by decide, by decide, by decide, by decide, rfl, ex_new⟩
theorem tab_lt {w : World} (h : TabW w) : 1 < w.heap.size := World.block_lt_of_cell? w _ (h.db 0 (by decide))
theorem exC_is : ldC 64 (8192 + 4096) = exC := rfl
def exT : TR := ⟨[], true, 0, 1, 0⟩
set_option maxHeartbeats 1000000 in
set_option maxRecDepth 100000 in
theorem exrun_at (w : World) (hTab : TabW w) (A : Option Addr) (c : Nat) (hC : Kd.C k57 w A 1 [exR]) (hc : 1 ≤ c) :
    Calls Tryz.prog 15 #[.agg #[.int .u64 64, .int .u64 8192, .slice A 1 c], .int .i64 5] w fun e w' => Below w.heap.size w w' ∧ ∃ B cb, e = .returned (.agg (trA (.slice B 0 cb) exT)) := by
  have HL := aq (fun (W : World) (hb : Below w.heap.size w W) => show Calls Tryz.prog 21 #[.agg #[.int .u64 64, .int .u64 8192, .slice A 1 c]] W fun e w' => Below W.heap.size W w' ∧ ∃ M hi, W.heap.size ≤ M ∧ hi ≤ w'.heap.size ∧ e = .returned (.tuple #[.pointer (some ⟨M, 0, none⟩), .agg exC.a, .int .i64 0]) ∧ MemOk w' M M hi exL from by
    have h := load_ok W 64 8192 A c [exR] (Kd.C_below hC hb) hc (by decide) ex_nums ex_ok
    rw [ex_mem, exC_is] at h
    exact h)
  obtain ⟨W, hW, h0, h1, hB⟩ := two_new w (.cells #[.int .u64 64, .int .u64 8192, .slice A 1 c] 25) (.cells (trA (.slice none 0 0) .zero) 38)
  have x0 : W.cell? ⟨w.heap.size, 0, none⟩ = some (.int .u64 64) := (blk_cell h0 0).trans rfl
  have x1 : W.cell? ⟨w.heap.size, 1, none⟩ = some (.int .u64 8192) := (blk_cell h0 1).trans rfl
  have x2 : W.cell? ⟨w.heap.size, 2, none⟩ = some (.slice A 1 c) := (blk_cell h0 2).trans rfl
  have HW := aq hW
  have H1 := aq h1
  have HB := aq hB
  have HT := aq (fun (W : World) (hb : Below w.heap.size w W) => TabW.below hTab hb)
  have HLT := aq (tab_lt hTab)
  clear hW h0 h1 hB hC hTab
  have HOKC := aq exC_ok
  have HR := aq (fun (w : World) (mb hi : Nat) (hm : MemOk w mb mb hi exL) (hT : TabW w) (ht : hi ≤ w.heap.size) (hl : 1 < mb) => show Calls Tryz.prog 37 #[.agg exC.a, .pointer (some ⟨mb, 0, none⟩), .int .i64 5] w fun e w' => ∃ v, e = .returned (.tuple #[.agg exC.next.a, .agg (trA v exT)]) ∧ w'.ownsRow w.heap.size 22 1 v 0 [] ∧ StoredIn w w' mb hi from ex_run 5 (by decide) (by decide) w mb mb hi hm hT ht hl)
  generalize exC.next = c9 at *
  generalize exC = c8 at *
  generalize exT = t9 at *
  go_enter Tryz.func15, Tryz.ntmps15
  go_upto_region 1 with fail
  change Code.wp _ _ _ _ ((w.alloc (.cells #[.int .u64 64, .int .u64 8192, .slice A 1 c] 25)).alloc (.cells (trA (.slice none 0 0) .zero) 38))
  rw [← HW.out]
  clear HW
  go_upto_region 2 with (first | (go_at_call 21; refine (HL.out _ HB.out).mono ?_; rintro e w1 ⟨hb, M, hi, hM, hhi, rfl, hm⟩; have H2 := aq (blk_below H1.out hb); have HB2 := aq (below_step HB.out hb); have HM2 := aq hm; have HI2 := aq hhi; have HML := aq (Nat.le_trans HB.out.size hM); clear hb hm hM hhi) | ((with_reducible refine gate_store (t := 49) (p := 6) (v := .tmp 14) rfl ?_); refine wpList_store_mid rfl 49 (.tmp 6) (.tmp 14) rfl w1.heap.size 0 c8.a rfl rfl (there_blk (blk_new w1 (.cells CPU.zero.a 49)) 0 37 (by decide)) info_cpu c8.one ?_))
  clear x0 x1 x2 H1 HB
  change Code.wp _ _ _ _ ((w1.alloc (.cells CPU.zero.a 49)).setCells w1.heap.size 0 c8.l)
  have HC6 := aq (cpu_sets (c := c8) (blk_new w1 (.cells CPU.zero.a 49)))
  have H3 := aq (blk_sets_far c8.l 0 (Nat.ne_of_lt (blk_lt H2.out)) (blk_alloc H2.out (.cells CPU.zero.a 49)))
  have HB3 := aq (fin_cpu (b := w1.heap.size) (below_alloc HB2.out (.cells CPU.zero.a 49)) HB2.out.size c8)
  have HM3 := aq (MemOk.far (HM2.out.below (below_alloc (Below.refl _ _) (.cells CPU.zero.a 49))) (blk_new w1 (.cells CPU.zero.a 49)) c8)
  have HI3 := aq (show hi ≤ ((w1.alloc (.cells CPU.zero.a 49)).setCells w1.heap.size 0 c8.l).heap.size from by rw [size_sets, World.size_alloc]; have := HI2.out; omega)
  clear H2 HB2 HM2 HI2
  generalize (w1.alloc (.cells CPU.zero.a 49)).setCells w1.heap.size 0 c8.l = w3 at *
  generalize w1.heap.size = C6 at *
  go_upto_region 4 with fail
  go_upto_region 5 with (first | ((with_reducible refine gate_dst (N := 21) rfl ?_); refine wpList_load_mid rfl 49 (.tmp 6) rfl C6 0 rfl c8.l _ (c8.range HC6.out) under_cpu rfl info_cpu ?_) | (go_at_call 37; refine (HR.out _ M hi HM3.out (HT.out _ HB3.out) HI3.out (Nat.lt_of_lt_of_le HLT.out HML.out)).mono ?_; rintro e w4 ⟨v, rfl, hown, hs⟩; obtain ⟨B, cb, rfl⟩ := Go.Proofs.YtflojfcioojgbaaGreatDoorW.PrintWords.own_slice hown; have H4 := aq (hs.block _ _ H3.out (.inr (by rintro ⟨cs, hcs⟩; injection hcs with _ hcs _; exact absurd hcs (by decide)))); have HB4 := aq (hs.below _ _ HB3.out HML.out HB3.out.size); clear hown hs) | ((with_reducible refine gate_store (t := 49) (p := 8) (v := .tmp 25) rfl ?_); refine wpList_store_mid rfl 49 (.tmp 8) (.tmp 25) rfl w4.heap.size 0 c9.a rfl rfl (there_blk (blk_alloc (blk_new w4 (.cells CPU.zero.a 49)) _) 0 37 (by decide)) info_cpu c9.one ?_) | ((with_reducible refine gate_store (t := 38) (p := 9) (v := .tmp 26) rfl ?_); refine wpList_store_mid rfl 38 (.tmp 9) (.tmp 26) rfl (w4.heap.size + 1) 0 (trA (.slice B 0 cb) t9) rfl rfl (there_blk (blk_sets_far c9.l 0 (Nat.succ_ne_self _) (new_last w4 (.cells CPU.zero.a 49) (.cells (trA (.slice none 0 0) .zero) 38))) 0 5 (by decide)) info_tr (by simp [trA, Value.oneCell']) ?_))
  change Code.wp _ _ _ _ ((((w4.alloc (.cells CPU.zero.a 49)).alloc (.cells (trA (.slice none 0 0) .zero) 38)).setCells w4.heap.size 0 c9.l).setCells (w4.heap.size + 1) 0 (trA (.slice B 0 cb) t9).toList)
  have H5 := aq (blk_sets_far (trA (.slice B 0 cb) t9).toList 0 (show w.heap.size + 1 ≠ w4.heap.size + 1 from by have := blk_lt H4.out; omega) (blk_sets_far c9.l 0 (Nat.ne_of_lt (blk_lt H4.out)) (blk_alloc (blk_alloc H4.out (.cells CPU.zero.a 49)) (.cells (trA (.slice none 0 0) .zero) 38))))
  have H9 := aq (tr_sets' (v' := .slice B 0 cb) (t' := t9) (blk_sets_far c9.l 0 (show w4.heap.size + 1 ≠ w4.heap.size from Nat.succ_ne_self _) (new_last w4 (.cells CPU.zero.a 49) (.cells (trA (.slice none 0 0) .zero) 38))))
  have HB5 := aq (below_sets (show w.heap.size ≤ w4.heap.size + 1 from Nat.le_succ_of_le HB4.out.size) (trA (.slice B 0 cb) t9).toList 0 (below_sets HB4.out.size c9.l 0 (below_alloc (below_alloc HB4.out (.cells CPU.zero.a 49)) (.cells (trA (.slice none 0 0) .zero) 38))))
  clear H3 HB3 HM3 HI3 H4 HB4 HC6
  generalize (((w4.alloc (.cells CPU.zero.a 49)).alloc (.cells (trA (.slice none 0 0) .zero) 38)).setCells w4.heap.size 0 c9.l).setCells (w4.heap.size + 1) 0 (trA (.slice B 0 cb) t9).toList = w5 at *
  generalize w4.heap.size + 1 = C9 at *
  go_wp2_with (first | ((with_reducible refine gate_dst (N := 27) rfl ?_); refine wpList_load_mid rfl 38 (.tmp 9) rfl C9 0 rfl (trA (.slice B 0 cb) t9).toList _ (row_range H9.out) under_tr rfl info_tr ?_) | ((with_reducible refine gate_store (t := 38) (p := 4) (v := .tmp 27) rfl ?_); refine wpList_store_mid rfl 38 (.tmp 4) (.tmp 27) rfl (w.heap.size + 1) 0 (trA (.slice B 0 cb) t9) rfl rfl (there_blk H5.out 0 5 (Nat.le_refl 5)) info_tr (by simp [trA, Value.oneCell']) ?_))
  refine bodyPost_ret (results_cell_row rfl _ _ (w.heap.size + 1) 38 (trA (.slice B 0 cb) t9) (0, 0) _ rfl (tr_sets' H5.out) under_tr rfl info_tr) rfl ?_
  exact ⟨below_sets (Nat.le_succ _) _ 0 HB5.out, B, cb, rfl⟩
end Go.Proofs.YtflojfcioojgbaaGreatDoor.IM
