/- A memory is made of regions (chapter 7): mem.New walked, with the library's sort by its contract. -/
import Derived.Test.YtkpkkjbigndnoaaMMemW
import Derived.Test.YtkpkkjbigndnoaaShelf
import Derived.Lib.BufferWrite
import Derived.Laws.CopyOwn
namespace Go.Proofs.Ytkpkkjbigndnoaa.MW
open Go.RowKit Go.Proofs.Ytkpkkjbigndnoaa.P Go.Proofs.YtkpkkjbigndnoaaW.PrintWords Go.Proofs.YtkpkkjbigndnoaaW.PrintLast Go.Proofs.YtkpkkjbigndnoaaW.PrintMore
set_option linter.unusedVariables false
set_option linter.unusedSimpArgs false
/-- A region as a part. -/
def mpOf (r : S37) : MP := ⟨r.f0, r.f1, bytesOf r.f2⟩
/-- Is a region none? -/
def badR (r : S37) : Bool := decide (r.f1 < 1) || decide (r.f1 > 3) || decide (r.f2.size = 0) || decide (65536 < r.f2.size)
def farR (r : S37) : Bool := decide (r.f0 > 4611686018427387904)
/-- A part and its bytes' block: three cells. -/
def kdP : Kd (MP × Nat) where
  sz := 3
  E := []
  K := fun _ x cs => cs = encM x
  M := fun _ _ _ x cs => cs = encM x
  K_len := fun h => by rw [h]; rfl
  K_one := fun h u hu => by
    rw [h] at hu
    simp only [encM, List.mem_cons, List.not_mem_nil, or_false] at hu
    rcases hu with rfl | rfl | rfl <;> rfl
  K_below := fun _ h => h
  K_of_M := fun h => h
  M_mono := fun _ h => h
  M_bound := fun h => h
  M_move := fun _ h => h
  M_lower := fun _ h => h
theorem info_part : (Try.prog.info? 51).map (fun i => (i.zero, i.size, i.bytes)) = some (some (.agg #[.int .u64 0, .int .i64 0, .slice none 0 0]), 3, 40) := by kernel_rfl
theorem info_u8 : (Try.prog.info? 5).map (fun i => (i.zero, i.size, i.bytes)) = some (some (.int .u8 0), 1, 1) := by kernel_rfl
def zerosA (n : Nat) : Array Value := (List.replicate n (Value.int .u8 0)).toArray
theorem make_bytes (n : Nat) (hn : n ≤ 65536) (W : World) : (Instr.makeSlice 49 (.int .i64 (n : Int)) (.int .i64 (n : Int))).run Try.prog W = .ok (.slice (some ⟨W.heap.size, 0, none⟩) n n) (W.alloc (.cells (zerosA n) 5)) := by
  obtain ⟨i0, hi, hzz⟩ := Option.map_eq_some_iff.1 info_u8
  simp only [Prod.mk.injEq] at hzz
  obtain ⟨hz0, hz1, hz2⟩ := hzz
  have hr := run_make (P := Try.prog) W 49 5 i0 (.int .u8 0) Try.underlying49 hi hz0 .i64 .i64 (n : Int) (n : Int) (by omega) (by omega) (by rw [hz2]; omega) (by omega)
  simp only [Int.toNat_natCast] at hr
  rw [hr, hz1]
  congr 3
  have hc : (Value.int .u8 0).cells = #[.int .u8 0] := rfl
  unfold zerosA madeCells
  rw [hc]
  apply Array.ext
  · simp
  · intro i h1 h2
    simp [Nat.mod_one]
theorem top_ (w : World) (o : Obj) : (w.alloc o).heap[w.heap.size]? = some o := by
  show (w.heap.push o)[w.heap.size]? = some o
  simp
theorem wpList_copy_str {P : Program} {w : World} {ops : Array Oper} {rest : List Oper} {o : Oper} {a : Act} {Q : Exit → Act → World → Prop} (hgd : o.guard = none) (d s : Operand) (dT sT : TypeId)
    (ho : o.op = .call { callee := .builtin .copy, args := #[d, s], argTypes := #[dT, sT] }) (elem : TypeId) (hu : P.underlying dT = some (.slice elem)) (hsz : (P.info? elem).map (·.size) = some 1)
    (g dLen dCap : Nat) (y : ByteArray) (hd : a.eval d = .slice (some ⟨g, 0, none⟩) dLen dCap) (hs : a.eval s = .string y) (t : TypeId) (hg : w.heap[g]? = some (.cells (zerosA dLen) t (0, 0))) (hn : y.size = dLen)
    (h : ∀ w', w'.heap[g]? = some (.cells ((bytesOf y).map (Value.int .u8)).toArray t (0, 0)) → Touch w w' g → wpList P ops Q rest (a.put o.dst (goInt y.size)) w') :
    wpList P ops Q (o :: rest) a w := by
  refine wpList_plain hgd fun K hK => ?_
  have hrun := Lib.run_copy_row_string (P := P) w dT sT o.type elem g 0 dLen dCap y (zerosA dLen) t hu hsz hg (by omega) (by unfold zerosA; simp; omega)
  have hrow : ((zerosA dLen).toList.take 0 ++ Lib.byteCells y.data.toList ++ (zerosA dLen).toList.drop (0 + y.size)).toArray = ((bytesOf y).map (Value.int .u8)).toArray := by
    have h1 : (zerosA dLen).toList.drop (0 + y.size) = [] := List.drop_eq_nil_of_le (by unfold zerosA; simp; omega)
    rw [h1, List.take_zero, List.nil_append, List.append_nil]
    unfold Lib.byteCells bytesOf
    rw [List.map_map]
    rfl
  rw [hrow] at hrun
  unfold Oper.wp
  simp [execOp, ho, resolve, invoke, builtin, hd, hs, hrun, Result.andThen]
  refine hK _ _ (h _ (setRow_heap w g _ _ t _ hg) ⟨fun k hk hn => setRow_other w g k _ hn, by simp [World.setRow], fun B U hu hb _ => below_setRow hu hb _⟩)
/-- Three new blocks, and a draw. -/
theorem alloc3_ (wr : World) (o1 o2 o3 : Obj) : ∃ W, W = (((wr.alloc o1).alloc o2).alloc o3).drew ∧ W.heap[wr.heap.size]? = some o1 ∧ W.heap[wr.heap.size + 1]? = some o2 ∧ W.heap[wr.heap.size + 1 + 1]? = some o3 ∧ Below wr.heap.size wr W ∧ W.heap.size = wr.heap.size + 3 := by
  have s1 : (wr.alloc o1).heap.size = wr.heap.size + 1 := by show (wr.heap.push o1).size = _; simp
  have s2 : ((wr.alloc o1).alloc o2).heap.size = wr.heap.size + 1 + 1 := by show ((wr.heap.push o1).push o2).size = _; simp
  have t1 := top_ wr o1
  have t2 := top_ (wr.alloc o1) o2
  have t3 := top_ ((wr.alloc o1).alloc o2) o3
  rw [s1] at t2
  rw [s2] at t3
  have b2 := below_alloc (Below.refl (wr.alloc o1).heap.size (wr.alloc o1)) o2
  have b3 := below_alloc (Below.refl ((wr.alloc o1).alloc o2).heap.size ((wr.alloc o1).alloc o2)) o3
  refine ⟨_, rfl, ?_, ?_, t3, ?_, ?_⟩
  · exact (b3.block _ (by omega)).trans ((b2.block _ (by omega)).trans t1)
  · exact (b3.block _ (by omega)).trans t2
  · exact below_drew (below_alloc (below_alloc (below_alloc (Below.refl _ _) _) _) _)
  · show (((wr.heap.push o1).push o2).push o3).size = _
    simp
theorem size_u8 : (Try.prog.info? 5).map (·.size) = some 1 := by kernel_rfl
theorem part_grown {w w11 w12 : World} {M : Nat} {v : Value} {Q Q' : List (MP × Nat)} (hR : Kd.R kdP 51 w11 w.heap.size (fun _ => True) v Q) (hM : w11.heap[M]? = some (.cells #[v] 46 (0, 0)))
    (hD : ∀ q, q ∈ Q' → w.heap.size ≤ q.2 ∧ w11.heap[q.2]? = some (.cells (q.1.d.map (Value.int .u8)).toArray 5 (0, 0))) (hg : w11.grownBy w12 v.ownBlock) :
    w12.heap[M]? = some (.cells #[v] 46 (0, 0)) ∧ ∀ q, q ∈ Q' → w.heap.size ≤ q.2 ∧ w12.heap[q.2]? = some (.cells (q.1.d.map (Value.int .u8)).toArray 5 (0, 0)) :=
  ⟨blk_grown hM hg (Kd.R_ne hR hM (by decide)), fun q hq => ⟨(hD q hq).1, blk_grown (hD q hq).2 hg (Kd.R_ne hR (hD q hq).2 (by decide))⟩⟩
theorem part_put {w w12 : World} {M : Nat} {v v1 : Value} {Q : List (MP × Nat)} (hM0 : w.heap.size ≤ M) (hR : Kd.R kdP 51 w12 w.heap.size (fun _ => True) v1 Q) (hM : w12.heap[M]? = some (.cells #[v] 46 (0, 0)))
    (hD : ∀ q, q ∈ Q → w.heap.size ≤ q.2 ∧ w12.heap[q.2]? = some (.cells (q.1.d.map (Value.int .u8)).toArray 5 (0, 0))) (hB : Below w.heap.size w w12) :
    Kd.R kdP 51 (w12.setCell ⟨M, 0, none⟩ v1) w.heap.size (fun _ => True) v1 Q ∧ (w12.setCell ⟨M, 0, none⟩ v1).heap[M]? = some (.cells #[v1] 46 (0, 0)) ∧
    (∀ q, q ∈ Q → w.heap.size ≤ q.2 ∧ (w12.setCell ⟨M, 0, none⟩ v1).heap[q.2]? = some (.cells (q.1.d.map (Value.int .u8)).toArray 5 (0, 0))) ∧ Below w.heap.size w (w12.setCell ⟨M, 0, none⟩ v1) :=
  ⟨Kd.R_set hR hM (by decide) 0 v1, blk_set hM 0 v1, fun q hq => ⟨(hD q hq).1, (Below.heap_setCell w12 ⟨M, 0, none⟩ v1 q.2 (fun e => by
    have h1 := blk_ne (hD q hq).2 hM (by decide)
    exact h1 e)).trans (hD q hq).2⟩, hB.setCell hM0 _⟩
theorem take_snoc_ {α : Type} {l : List α} {i : Nat} {r : α} (h : l[i]? = some r) : l.take (i + 1) = l.take i ++ [r] := by
  rw [List.take_add_one, h]; rfl
theorem nodup_snoc_ {Q : List (MP × Nat)} {p : MP} {D : Nat} (h : (Q.map (·.2)).Nodup) (hn : ∀ q, q ∈ Q → q.2 ≠ D) : ((Q ++ [(p, D)]).map (·.2)).Nodup := by
  rw [List.map_append, List.nodup_append]
  refine ⟨h, by simp, ?_⟩
  intro a ha b hb
  simp only [List.map_cons, List.map_nil, List.mem_singleton] at hb
  obtain ⟨q, hq, rfl⟩ := List.mem_map.1 ha
  rw [hb]
  exact hn q hq
/-! #### the sort -/
def cfP (x y : MP × Nat) : Int := Lib.compareInt x.1.a y.1.a
theorem isAggP (w : World) : (isAgg 51).run Try.prog w = .ok true w := by kernel_rfl
theorem sizeP (w : World) : (Go.sizeOf 51).run Try.prog w = .ok 3 w := by kernel_rfl
theorem ltP (x y : MP × Nat) : Go.Proofs.ltOf cfP x y = decide (x.1.a < y.1.a) := by
  unfold Go.Proofs.ltOf cfP Lib.compareInt
  by_cases h1 : x.1.a < y.1.a
  · simp [h1]
  · by_cases h2 : y.1.a < x.1.a <;> simp [h1, h2]
theorem swoP : Go.Sort.SWO (Go.Proofs.ltOf cfP) where
  irrefl x := by rw [ltP]; simp
  trans x y z h1 h2 := by rw [ltP] at *; simp at *; omega
  ntrans x y z h1 h2 := by rw [ltP] at *; simp at *; omega
instance : Inhabited MP := ⟨⟨0, 0, []⟩⟩
theorem nanP (x : Int) (W : World) : Calls Try.prog 23 #[.int .u64 x] W fun e w' => e = .returned (.bool false) ∧ W = w' := by
  go_enter Try.func23, Try.ntmps23
  go_wp2
  go_ret
  exact ⟨by simp, rfl⟩
theorem compareP (x y : Int) (W : World) : Calls Try.prog 16 #[.int .u64 x, .int .u64 y] W fun e w' => e = .returned (.int .i64 (Lib.compareInt x y)) ∧ W = w' := by
  unfold Lib.compareInt
  by_cases h1 : x < y
  · rw [if_pos h1]
    have b1 : decide (x < y) = true := decide_eq_true h1
    go_enter Try.func16, Try.ntmps16
    go_wp2_with (go_at_call 23; refine (nanP _ _).mono ?_; rintro e w' ⟨rfl, rfl⟩)
    go_ret
    exact ⟨rfl, rfl⟩
  · rw [if_neg h1]
    have b1 : decide (x < y) = false := decide_eq_false h1
    by_cases h2 : x > y
    · rw [if_pos h2]
      have b2 : decide (x > y) = true := decide_eq_true h2
      clear h1
      go_enter Try.func16, Try.ntmps16
      go_wp2_with (go_at_call 23; refine (nanP _ _).mono ?_; rintro e w' ⟨rfl, rfl⟩)
      go_ret
      exact ⟨rfl, rfl⟩
    · rw [if_neg h2]
      have b2 : decide (x > y) = false := decide_eq_false h2
      clear h1
      go_enter Try.func16, Try.ntmps16
      go_wp2_with (go_at_call 23; refine (nanP _ _).mono ?_; rintro e w' ⟨rfl, rfl⟩)
      go_ret
      exact ⟨rfl, rfl⟩
theorem closureP (x y : MP × Nat) (W : World) : Calls Try.prog 15 #[.agg (encM x).toArray, .agg (encM y).toArray] W fun e w' => e = .returned (.int .i64 (cfP x y)) ∧ ∃ q os', w' = Go.Sort.grow (W.drewN q) os' := by
  have hcon := Aside0.mk (fun W' => compareP x.1.a y.1.a W')
  unfold encM cfP
  generalize Lib.compareInt x.1.a y.1.a = r at hcon ⊢
  go_enter Try.func15, Try.ntmps15
  go_wp2_with (go_at_call 16; refine (hcon.out _).mono ?_; rintro e w' ⟨rfl, rfl⟩)
  go_ret
  exact ⟨rfl, 0, _, by rw [Go.Sort.alloc_eq_grow, Go.Sort.alloc_eq_grow, Go.Sort.grow_grow]; rfl⟩
theorem cmpLaysP (blk off size : Nat) (w : World) : Go.Proofs.CmpLays Try.prog 15 #[] encM 3 cfP blk off size w := fun _ _ _ _ x y => closureP x y _
theorem sortP_any (P c : Nat) (Q : List (MP × Nat)) (w : World) (hH : Go.Sort.HoldsK encM 3 w P 0 Q.toArray) (hblk : P < w.heap.size) (hl : Q.length < 1000000) :
    Calls Try.prog 14 #[.slice (some ⟨P, 0, none⟩) Q.length c, .func (.func 15) #[] #[]] w fun e w' => e = .returned (.tuple #[]) ∧
      ∃ (Q' : List (MP × Nat)) (n : Nat) (os : Array Obj), Q'.Perm Q ∧ Q'.Pairwise (fun p q => p.1.a ≤ q.1.a) ∧ w' = Go.Proofs.sortWorldK encM 3 w P 0 n Q'.toArray os := by
  have eg : ∀ args w, (callFunc 15 args).run Try.prog w = .ok (.enter 15 args) w := enters_of Try.func15 (by kernel_rfl) rfl
  have hcon := Go.Proofs.AnyQ.slices_SortFunc Go.Proofs.Try.sortP 3 isAggP sizeP encM (fun _ => rfl) (fun x v hv => by simp [encM] at hv; rcases hv with rfl | rfl | rfl <;> rfl) cfP swoP 15 #[] P 0 c Q.toArray w eg (cmpLaysP P 0 _ w) hH hblk (by simp; omega)
  refine hcon.mono ?_
  rintro e w' ⟨rfl, d', n, os, hp, hs, rfl⟩
  obtain ⟨p1, p2, p3⟩ := hp
  obtain ⟨l⟩ := d'
  have hlen : l.length = Q.length := by simpa using p1
  refine ⟨rfl, l, n, os, ?_, ?_, rfl⟩
  · have p4 : (l.take Q.length).Perm Q := by simpa [hlen] using p3
    rwa [← hlen, List.take_length] at p4
  · rw [List.pairwise_iff_getElem]
    intro i j hi hj hij
    have h1 := hs i j (Nat.zero_le _) hij (by simp; omega)
    rw [ltP] at h1
    have e1 : (⟨l⟩ : Array (MP × Nat))[i]! = l[i] := by simp [getElem!_pos, hi]
    have e2 : (⟨l⟩ : Array (MP × Nat))[j]! = l[j] := by simp [getElem!_pos, hj]
    rw [e1, e2] at h1
    simp at h1
    exact h1
theorem holdsP {w : World} {base P c n : Nat} {ok : Nat → Prop} {Q : List (MP × Nat)} (h : Kd.R kdP 51 w base ok (.slice (some ⟨P, 0, none⟩) n c) Q) :
    Go.Sort.HoldsK encM 3 w P 0 Q.toArray ∧ (∃ cur, w.heap[P]? = some (.cells cur 51 (0, 0))) ∧ P < w.heap.size ∧ base ≤ P := by
  obtain ⟨A, c', e, hl, hC⟩ := Kd.R_reads h
  injection e with e1 e2 e3
  subst e1
  obtain ⟨inner, ho⟩ := Kd.R_own h
  obtain ⟨cur, hcur⟩ := own_typed ho P (by simp [Value.ownBlock])
  have hbase := own_base ho P (by simp [Value.ownBlock])
  refine ⟨?_, ⟨cur, hcur⟩, (Array.getElem?_eq_some_iff.1 hcur).1, hbase⟩
  intro j hj
  have hj' : j < Q.length * 3 := by
    have := hj
    rw [Go.Sort.size_flatK] at this
    simpa using this
  have hq : j / 3 < Q.length := by omega
  obtain ⟨h1, h2, h3⟩ := hC
  obtain ⟨ad, ead, hcell⟩ := h3 (by omega)
  obtain rfl := Option.some.inj ead
  obtain ⟨cs, hcs, hK, hc⟩ := hcell (j / 3) Q[j / 3] (List.getElem?_eq_getElem hq)
  have hK' : cs = encM Q[j / 3] := hK
  subst hK'
  have hm : j % 3 < (encM Q[j / 3]).length := by show j % 3 < 3; omega
  have hcc := hc (j % 3) _ (List.getElem?_eq_getElem hm)
  refine ⟨?_, blk_frozen hcur _⟩
  have hfl : (Go.Sort.flatK encM 3 Q.toArray)[j]! = (encM Q[j / 3])[j % 3] := by
    rw [Go.Sort.get_flatK _ _ _ _ (by simpa using hj')]
    have e1 : (Q.toArray)[j / 3]! = Q[j / 3] := by simp [getElem!_pos, hq]
    rw [e1]
    exact getElem!_pos (encM Q[j / 3]) (j % 3) hm
  rw [hfl]
  have hadd : (⟨P, 0, none⟩ : Addr).add (j / 3 * kdP.sz + j % 3) = ⟨P, 0 + j, none⟩ := by
    show (⟨P, 0, none⟩ : Addr).add (j / 3 * 3 + j % 3) = ⟨P, 0 + j, none⟩
    rw [show j / 3 * 3 + j % 3 = j by omega]
    unfold Addr.add
    split <;> simp_all
  rw [hadd] at hcc
  exact hcc
theorem sortW_ {w w' : World} {P n : Nat} {Q Q' : List (MP × Nat)} {os : Array Obj} (hH : Go.Sort.HoldsK encM 3 w P 0 Q.toArray) (hc : ∃ cur, w.heap[P]? = some (.cells cur 51 (0, 0))) (hP : P < w.heap.size) (hl : Q'.length = Q.length) (hw : w' = Go.Proofs.sortWorldK encM 3 w P 0 n Q'.toArray os) :
    Touch w w' P ∧ (∃ cur, w'.heap[P]? = some (.cells cur 51 (0, 0))) ∧ ∀ (i : Nat) q, Q'[i]? = some q → ∀ (j : Nat) v, (encM q)[j]? = some v → w'.cell? ⟨P, i * 3 + j, none⟩ = some v := by
  subst hw
  have hH' : Go.Sort.HoldsK encM 3 (Go.Proofs.sortWorldK encM 3 w P 0 n Q'.toArray os) P 0 Q'.toArray := by
    unfold Go.Proofs.sortWorldK
    exact Go.Sort.holdsK_grow encM 3 _ os P 0 _ (by simp [Go.Sort.putRowK, Go.Sort.ahead]; exact hP) (Go.Sort.holdsK_putRowK encM 3 _ P 0 Q.toArray _ (Go.Sort.holdsK_ahead encM 3 w n P 0 _ hH) (by simp [hl]))
  refine ⟨⟨?_, ?_, ?_⟩, ?_, ?_⟩
  · intro k hk hn
    unfold Go.Proofs.sortWorldK
    rw [Go.Sort.heap_grow_old _ _ (by simp [Go.Sort.putRowK, Go.Sort.ahead]; exact hk)]
    show ((w.heap.modify P _))[k]? = _
    rw [Array.getElem?_modify, if_neg (fun e => hn e.symm)]
  · unfold Go.Proofs.sortWorldK
    simp [Go.Sort.putRowK, Go.Sort.ahead]
  · intro B U hu hb hs
    refine hu.trans ⟨rfl, rfl, rfl, ?_, ?_⟩
    · unfold Go.Proofs.sortWorldK
      simp [Go.Sort.putRowK, Go.Sort.ahead]
    · intro k hk
      unfold Go.Proofs.sortWorldK
      rw [Go.Sort.heap_grow_old _ _ (by simp [Go.Sort.putRowK, Go.Sort.ahead]; omega)]
      show ((w.heap.modify P _))[k]? = _
      rw [Array.getElem?_modify, if_neg (by omega)]
  · obtain ⟨cur, hcur⟩ := hc
    unfold Go.Proofs.sortWorldK
    rw [Go.Sort.heap_grow_old _ _ (by simp [Go.Sort.putRowK, Go.Sort.ahead]; exact hP)]
    show ∃ cur, ((w.heap.modify P _))[P]? = _
    rw [Array.getElem?_modify, if_pos rfl, hcur]
    exact ⟨_, rfl⟩
  · intro i q hq j v hv
    have hi : i < Q'.length := (List.getElem?_eq_some_iff.1 hq).1
    have hj : j < 3 := by have := (List.getElem?_eq_some_iff.1 hv).1; exact this
    have hx := (Go.Sort.HoldsK.cell hH' (i := i) (c := j) (by simpa using hi) hj).1
    have e1 : (Q'.toArray)[i]! = q := by
      obtain ⟨_, e⟩ := List.getElem?_eq_some_iff.1 hq
      simp [getElem!_pos, hi, e]
    rw [e1] at hx
    have e2 : (encM q)[j]! = v := by
      obtain ⟨h1, e⟩ := List.getElem?_eq_some_iff.1 hv
      rw [getElem!_pos (encM q) j h1, e]
    rw [e2, Nat.zero_add] at hx
    exact hx
/-! #### parts in order -/
def insM (p : MP) : List MP → List MP
  | [] => [p]
  | q :: qs => if p.a ≤ q.a then p :: q :: qs else q :: insM p qs
def sortM : List MP → List MP
  | [] => []
  | p :: ps => insM p (sortM ps)
/-- Does each part end where the next one begins, or ahead of it? -/
def apartB : List MP → Bool
  | [] => true
  | [_] => true
  | p :: q :: r => decide ((p.d.length : Int) ≤ q.a - p.a) && apartB (q :: r)
theorem insM_perm (p : MP) : ∀ L, (insM p L).Perm (p :: L)
  | [] => List.Perm.refl _
  | q :: qs => by
    unfold insM
    split
    · exact List.Perm.refl _
    · exact ((insM_perm p qs).cons q).trans (List.Perm.swap p q qs)
theorem sortM_perm : ∀ L, (sortM L).Perm L
  | [] => List.Perm.refl _
  | p :: ps => (insM_perm p _).trans ((sortM_perm ps).cons p)
theorem insM_sorted (p : MP) : ∀ L : List MP, L.Pairwise (fun x y => x.a ≤ y.a) → (insM p L).Pairwise (fun x y => x.a ≤ y.a)
  | [], _ => by simp [insM]
  | q :: qs, h => by
    unfold insM
    obtain ⟨h1, h2⟩ := List.pairwise_cons.1 h
    split
    · rename_i hle
      refine List.pairwise_cons.2 ⟨fun x hx => ?_, h⟩
      rcases List.mem_cons.1 hx with rfl | hx
      · exact hle
      · exact Int.le_trans hle (h1 x hx)
    · rename_i hle
      refine List.pairwise_cons.2 ⟨fun x hx => ?_, insM_sorted p qs h2⟩
      rcases List.mem_cons.1 ((insM_perm p qs).mem_iff.1 hx) with rfl | hx
      · omega
      · exact h1 x hx
theorem sortM_sorted : ∀ L : List MP, (sortM L).Pairwise (fun x y => x.a ≤ y.a)
  | [] => List.Pairwise.nil
  | p :: ps => insM_sorted p _ (sortM_sorted ps)
theorem apart_strict : ∀ L : List MP, (∀ p, p ∈ L → 1 ≤ p.d.length) → apartB L = true → L.Pairwise (fun x y => x.a + (x.d.length : Int) ≤ y.a)
  | [], _, _ => List.Pairwise.nil
  | [p], _, _ => by simp
  | p :: q :: r, hl, h => by
    unfold apartB at h
    simp only [Bool.and_eq_true, decide_eq_true_eq] at h
    have ih := apart_strict (q :: r) (fun x hx => hl x (List.mem_cons_of_mem _ hx)) h.2
    refine List.pairwise_cons.2 ⟨fun x hx => ?_, ih⟩
    rcases List.mem_cons.1 hx with rfl | hx
    · omega
    · have h1 := (List.pairwise_cons.1 ih).1 x hx
      have h2 := hl q (by simp)
      omega
theorem sorted_unique : ∀ (L L' : List MP), L.Perm L' → L.Pairwise (fun x y => x.a < y.a) → L'.Pairwise (fun x y => x.a ≤ y.a) → L = L'
  | [], L', hp, _, _ => by rw [List.nil_perm] at hp; exact hp.symm
  | x :: xs, [], hp, _, _ => by
    have := hp.length_eq
    simp at this
  | x :: xs, y :: ys, hp, h1, h2 => by
    obtain ⟨h3, h4⟩ := List.pairwise_cons.1 h1
    obtain ⟨h5, h6⟩ := List.pairwise_cons.1 h2
    have hxy : x = y := by
      apply Classical.byContradiction
      intro hne
      have hy : y ∈ xs := by
        rcases List.mem_cons.1 (hp.mem_iff.2 (List.mem_cons_self (a := y) (l := ys))) with e | e
        · exact absurd e.symm hne
        · exact e
      have hx : x ∈ ys := by
        rcases List.mem_cons.1 (hp.mem_iff.1 (List.mem_cons_self (a := x) (l := xs))) with e | e
        · exact absurd e hne
        · exact e
      have := h3 y hy
      have := h5 x hx
      omega
    subst hxy
    rw [sorted_unique xs ys (List.perm_cons x |>.1 hp) h4 h6]
theorem sort_unique (l L : List MP) (hp : L.Perm l) (hs : L.Pairwise (fun x y => x.a ≤ y.a)) (hl : ∀ p, p ∈ l → 1 ≤ p.d.length) : apartB L = apartB (sortM l) ∧ (apartB L = true → L = sortM l) := by
  have strict : ∀ X : List MP, (∀ p, p ∈ X → 1 ≤ p.d.length) → apartB X = true → X.Pairwise (fun x y => x.a < y.a) := fun X hX h =>
    List.Pairwise.imp_of_mem (fun {a b} ha hb hab => by have := hX a ha; omega) (apart_strict X hX h)
  have hLl : ∀ p, p ∈ L → 1 ≤ p.d.length := fun p hp' => hl p (hp.mem_iff.1 hp')
  have hSl : ∀ p, p ∈ sortM l → 1 ≤ p.d.length := fun p hp' => hl p ((sortM_perm l).mem_iff.1 hp')
  have e1 : apartB L = true → L = sortM l := fun h => sorted_unique L (sortM l) (hp.trans (sortM_perm l).symm) (strict L hLl h) (sortM_sorted l)
  have e2 : apartB (sortM l) = true → sortM l = L := fun h => sorted_unique (sortM l) L ((sortM_perm l).trans hp.symm) (strict _ hSl h) hs
  refine ⟨?_, e1⟩
  cases h : apartB L with
  | true => rw [← e1 h, h]
  | false =>
    cases h' : apartB (sortM l) with
    | false => rfl
    | true => rw [e2 h', h] at h'; cases h'
theorem apart_get : ∀ (L : List MP), apartB L = true → ∀ (i : Nat) p q, L[i]? = some p → L[i + 1]? = some q → (p.d.length : Int) ≤ q.a - p.a
  | [], _, i, p, q, h1, _ => by simp at h1
  | [x], _, i, p, q, h1, h2 => by simp at h2
  | x :: y :: r, h, i, p, q, h1, h2 => by
    unfold apartB at h
    simp only [Bool.and_eq_true, decide_eq_true_eq] at h
    cases i with
    | zero => simp at h1 h2; subst h1 h2; exact h.1
    | succ i => exact apart_get (y :: r) h.2 i p q (by simpa using h1) (by simpa using h2)
/-- The first that is not apart from the one ahead of it. -/
theorem apart_not : ∀ (L : List MP), apartB L = false → ∃ (t : Nat) (p q : MP), L[t]? = some p ∧ L[t + 1]? = some q ∧ ¬ (p.d.length : Int) ≤ q.a - p.a ∧ ∀ (i : Nat) x y, i < t → L[i]? = some x → L[i + 1]? = some y → (x.d.length : Int) ≤ y.a - x.a
  | [], h => by cases h
  | [x], h => by cases h
  | x :: y :: r, h => by
    unfold apartB at h
    by_cases hd : (x.d.length : Int) ≤ y.a - x.a
    · rw [decide_eq_true hd, Bool.true_and] at h
      obtain ⟨t, p, q, h1, h2, h3, h4⟩ := apart_not (y :: r) h
      refine ⟨t + 1, p, q, by simpa using h1, by simpa using h2, h3, fun i a b hi ha hb => ?_⟩
      cases i with
      | zero => simp at ha hb; subst ha hb; exact hd
      | succ i => exact h4 i a b (by omega) (by simpa using ha) (by simpa using hb)
    · exact ⟨0, x, y, rfl, rfl, hd, fun i a b hi => by omega⟩
/-- What New answers. -/
def NewPost (l : List S37) (w : World) (e : Ending) (w' : World) : Prop :=
  if l.any badR = true then e = .returned (.tuple #[.pointer none, .int .i64 1])
  else if l.any farR = true then e = .returned (.tuple #[.pointer none, .int .i64 4])
  else if apartB (sortM (l.map mpOf)) = true then ∃ (A : Option Addr) (P c : Nat) (Q : List (MP × Nat)), e = .returned (.tuple #[.pointer (some ⟨w.heap.size, 0, none⟩), .int .i64 0]) ∧ MemIs w' w.heap.size A P c Q ∧ Q.map (·.1) = sortM (l.map mpOf) ∧ ∀ q, q ∈ Q → w.heap.size ≤ q.2
  else e = .returned (.tuple #[.pointer none, .int .i64 7])
def NewEnd (l : List S37) (w : World) (e : Ending) (w' : World) : Prop := Below w.heap.size w w' ∧ NewPost l w e w'
theorem good_of (r : S37) (hb : badR r = false) (hf : farR r = false) (h0 : 0 ≤ r.f0) : (mpOf r).good := by
  simp only [badR, Bool.or_eq_false_iff, decide_eq_false_iff_not] at hb
  simp only [farR, decide_eq_false_iff_not] at hf
  unfold mpOf MP.good
  simp only
  refine ⟨h0, by omega, by omega, by omega, ?_, ?_, ?_⟩
  · rw [bytesOf_length]; omega
  · rw [bytesOf_length]; omega
  · intro x hx
    simp only [bytesOf] at hx
    obtain ⟨b, _, rfl⟩ := List.mem_map.1 hx
    have := b.toNat_lt
    omega
set_option maxHeartbeats 8000000 in
set_option maxRecDepth 100000 in
theorem new_any (w : World) (A0 : Option Addr) (c0 : Nat) (l : List S37) (hr0 : Kd.C k37 w A0 l.length l) (hc0 : l.length ≤ c0) (hl : l.length ≤ 1000) (hw : ∀ r, r ∈ l → 0 ≤ r.f0 ∧ r.f0 < 18446744073709551616)
    (t : Nat) (ht : t ≤ l.length) (hg : ∀ r, r ∈ l.take t → badR r = false) (hb : t < l.length → ∃ r, l[t]? = some r ∧ badR r = true) :
    Calls Try.prog 7 #[.slice A0 l.length c0] w (NewEnd l w) := by
  have HR := Aside0.mk hr0
  have HW := Aside0.mk hw
  have HG := Aside0.mk hg
  have HBAD := Aside0.mk hb
  have HL := Aside0.mk hl
  clear hr0 hw hg hb
  go_enter Try.func7, Try.ntmps7
  go_wp2
  go_loopg [5, 14] t (fun kq v5 v14 wr => ∃ (i : Nat) (Q : List (MP × Nat)) (v : Value), v5 = .bool ((l.take i).any farR) ∧ v14 = .int .i64 (i : Int) ∧ i + kq = t ∧ Aside0 (Kd.R kdP 51 wr w.heap.size (fun _ => True) v Q) ∧
    Aside0 (wr.heap[w.heap.size]? = some (.cells #[v] 46 (0, 0))) ∧ Aside0 (∀ q, q ∈ Q → w.heap.size ≤ q.2 ∧ wr.heap[q.2]? = some (.cells (q.1.d.map (Value.int .u8)).toArray 5 (0, 0))) ∧ Aside0 ((Q.map (·.2)).Nodup) ∧
    Aside0 (Q.map (·.1) = (l.take i).map mpOf) ∧ Aside0 (Below w.heap.size w wr) ∧ Aside0 (Q = [] → v = .slice none 0 0))
  case atStart => exact ⟨0, [], .slice none 0 0, rfl, rfl, by omega, ⟨Kd.R_nil _ _ _ _ _⟩, ⟨top_ _ _⟩, ⟨fun q hq => by cases hq⟩, ⟨List.nodup_nil⟩, ⟨rfl⟩, ⟨below_alloc (Below.refl _ _) _⟩, ⟨fun _ => rfl⟩⟩
  case round =>
    obtain ⟨i, Q, v, rfl, rfl, hik, HK, HM, HD, HA, HQ, HB, HN⟩ := hrel
    cases gk with
    | zero =>
      by_cases htl : t < l.length
      · obtain ⟨r, hr, hbad⟩ := HBAD.out htl
        obtain rfl : i = t := by omega
        clear hik
        have hrd : rd_T37 l (i : Int) = r := by unfold rd_T37; rw [Int.toNat_natCast]; simp [List.getD, hr]
        obtain ⟨ad, hA0, d0, d1, d2⟩ := at_T37 (Kd.C_below HR.out HB.out) (i : Int) (by omega) (by omega)
        subst hA0
        rw [hrd, Int.toNat_natCast] at d0 d1 d2
        have hpost : ∀ w', Below w.heap.size w w' → NewEnd l w (.returned (.tuple #[.pointer none, .int .i64 1])) w' := fun w' hb => ⟨hb, by
          unfold NewPost
          rw [if_pos (List.any_eq_true.2 ⟨r, List.mem_of_getElem? hr, hbad⟩)]⟩
        have HP := Aside0.mk hpost
        clear hpost hr hrd
        obtain ⟨r0, r1, r2⟩ := r
        simp only at d0 d1 d2
        have hz : i < 1000 := by have := HL.out; omega
        simp only [badR, Bool.or_eq_true, decide_eq_true_eq] at hbad
        by_cases y1 : r1 < 1
        · have z1 : decide (r1 < 1) = true := decide_eq_true y1
          clear hbad y1
          go_wp2
          go_ret2
          exact HP.out _ (below_alloc HB.out _)
        · have z1 : decide (r1 < 1) = false := decide_eq_false y1
          by_cases y2 : r1 > 3
          · have z2 : decide (r1 > 3) = true := decide_eq_true y2
            clear hbad y1 y2
            go_wp2
            go_ret2
            exact HP.out _ (below_alloc HB.out _)
          · have z2 : decide (r1 > 3) = false := decide_eq_false y2
            by_cases y3 : r2.size = 0
            · have z3 : r2.toList.isEmpty = true := by rw [ByteArray.toList_eq]; cases hq : r2.data.toList with | nil => rfl | cons a b => have := data_length r2; rw [hq, y3] at this; simp at this
              clear hbad y1 y2 y3
              go_wp2
              go_ret2
              exact HP.out _ (below_alloc HB.out _)
            · have z3 : r2.toList.isEmpty = false := by rw [ByteArray.toList_eq]; cases hq : r2.data.toList with | nil => exact absurd (by rw [← data_length r2, hq]; rfl) y3 | cons a b => rfl
              have z4 : decide ((r2.size : Int) > 65536) = true := decide_eq_true (by omega)
              clear hbad y1 y2 y3
              go_wp2
              go_ret2
              exact HP.out _ (below_alloc HB.out _)
      · have hi : ¬ (i < l.length) := by omega
        obtain rfl : i = l.length := by omega
        have hnb : l.any badR = false := by
          rw [List.any_eq_false]
          intro r hr
          have := HG.out r (by rw [List.take_of_length_le (by omega)]; exact hr)
          simp [this]
        have hQ' : Q.map (·.1) = l.map mpOf := by have := HQ.out; rwa [List.take_of_length_le (Nat.le_refl _)] at this
        have HNB := Aside0.mk hnb
        have HQ2 := Aside0.mk hQ'
        rw [List.take_of_length_le (Nat.le_refl _)]
        clear hik hnb hQ' htl
        cases hf : l.any farR with
        | true =>
          have HF := Aside0.mk hf
          clear hf
          go_wp2
          go_ret2
          refine ⟨HB.out, ?_⟩
          unfold NewPost
          rw [if_neg (by rw [HNB.out]; decide), if_pos HF.out]
          rfl
        | false =>
          have HF := Aside0.mk hf
          clear hf
          have hql : Q.length = l.length := by have := congrArg List.length HQ2.out; simpa using this
          have HQL := Aside0.mk hql
          clear hql
          have hM := HM.out
          have m0 : wr.cell? ⟨w.heap.size, 0, none⟩ = some v := (blk_cell hM 0).trans rfl
          clear hM
          by_cases hq0 : Q = []
          · have hv := HN.out hq0
            subst hv
            subst hq0
            have HS := Aside0.mk (Go.Proofs.AnyF.slices_SortFunc_none Go.Proofs.Try.sortP none 0 (.func (.func 15) #[] #[]) wr)
            have hl0 : l.length = 0 := HQL.out.symm
            have HL0 := Aside0.mk hl0
            clear hl0
            go_wp2_with (go_at_call 14; refine HS.out.mono ?_; rintro e w9 ⟨rfl, rfl⟩)
            refine wp_loop_rounds 1 ?_
            rw [rounds_succ]
            go_wp2
            go_ret2
            refine ⟨HB.out, ?_⟩
            unfold NewPost
            have hl : l = [] := List.eq_nil_of_length_eq_zero HL0.out
            rw [if_neg (by rw [HNB.out]; decide), if_neg (by rw [HF.out]; decide), hl]
            rw [if_pos (by rfl)]
            exact ⟨none, 0, 0, [], rfl, ⟨HM.out, fun h => absurd rfl h, fun h => absurd rfl h, fun i q h => by simp at h, fun q h => (by cases h), List.nodup_nil⟩, rfl, fun q h => (by cases h)⟩
          · obtain ⟨inner, ho⟩ := Kd.R_own HK.out
            obtain ⟨P, c, hv⟩ : ∃ P c, v = .slice (some ⟨P, 0, none⟩) Q.length c := by
              rcases ho.2 with ⟨_, h0⟩ | ⟨g, cap, cur, he, _⟩
              · exact absurd (List.eq_nil_of_length_eq_zero h0) hq0
              · exact ⟨g, cap, he⟩
            subst hv
            obtain ⟨hH, hcur, hPl, hPb⟩ := holdsP HK.out
            have HS := Aside0.mk (sortP_any P c Q wr hH hPl (by have := HQL.out; omega))
            have hMP : w.heap.size ≠ P := by
              obtain ⟨cur, hcur⟩ := hcur
              exact blk_ne HM.out hcur (by decide)
            have hafter : ∀ (Q' : List (MP × Nat)) (n : Nat) (os : Array Obj) (w9 : World), Q'.Perm Q → w9 = Go.Proofs.sortWorldK encM 3 wr P 0 n Q'.toArray os →
                Below w.heap.size w w9 ∧ w9.heap[w.heap.size]? = some (.cells #[.slice (some ⟨P, 0, none⟩) Q.length c] 46 (0, 0)) ∧ MemIs w9 w.heap.size (some ⟨P, 0, none⟩) P c Q' ∧ Q'.length = Q.length := by
              intro Q' n os w9 hp hw
              have hlen := hp.length_eq
              obtain ⟨hT, hc', hcells⟩ := sortW_ hH hcur hPl hlen hw
              have hM9 : w9.heap[w.heap.size]? = some (.cells #[.slice (some ⟨P, 0, none⟩) Q.length c] 46 (0, 0)) := (hT.block _ (Array.getElem?_eq_some_iff.1 HM.out).1 hMP).trans HM.out
              refine ⟨hT.below _ _ HB.out hPb HB.out.size, hM9, ⟨by rw [hlen]; exact hM9, fun _ => rfl, fun _ => hc', hcells, ?_, ?_⟩, hlen⟩
              · intro q hq
                obtain ⟨a1, a2⟩ := HD.out q (hp.mem_iff.1 hq)
                obtain ⟨cur, hcur⟩ := hcur
                exact (hT.block q.2 (Array.getElem?_eq_some_iff.1 a2).1 (blk_ne a2 hcur (by decide))).trans a2
              · exact (hp.map (·.2)).nodup_iff.2 HA.out
            have HAF := Aside0.mk hafter
            have HMP := Aside0.mk hMP
            clear ho hH hcur hPl hPb hMP hafter
            generalize hqn : Q.length = n at m0 HS HAF ⊢
            have HQN := Aside0.mk hqn
            clear hqn
            go_wp2_with (go_at_call 14; refine HS.out.mono ?_; rintro e w9 ⟨rfl, Q', n9, os, hp, hs, hw9⟩; obtain ⟨hB9, hM9, hMem9, hl9⟩ := HAF.out Q' n9 os w9 hp hw9; have m9 : w9.cell? ⟨w.heap.size, 0, none⟩ = some (.slice (some ⟨P, 0, none⟩) n c) := (blk_cell hM9 0).trans rfl; have HB9 := Aside0.mk hB9; have HMem9 := Aside0.mk hMem9; have HL9 := Aside0.mk hl9; have HP := Aside0.mk hp; have HSO := Aside0.mk hs; clear hp hs hw9 hB9 hM9 hMem9 hl9)
            have hperm : (Q'.map (·.1)).Perm (l.map mpOf) := by rw [← HQ2.out]; exact HP.out.map _
            have hsrt : (Q'.map (·.1)).Pairwise (fun x y => x.a ≤ y.a) := List.pairwise_map.2 HSO.out
            have hgl : ∀ p, p ∈ l.map mpOf → p.good := by
              intro p hp
              obtain ⟨r, hr, rfl⟩ := List.mem_map.1 hp
              refine good_of r ?_ ?_ (HW.out r hr).1
              · have := List.any_eq_false.1 HNB.out r hr; simpa using this
              · have := List.any_eq_false.1 HF.out r hr; simpa using this
            have hgd : ∀ q, q ∈ Q' → q.1.good := fun q hq => hgl _ (hperm.mem_iff.1 (List.mem_map.2 ⟨q, hq, rfl⟩))
            have HGD := Aside0.mk hgd
            obtain ⟨hu1, hu2⟩ := sort_unique (l.map mpOf) (Q'.map (·.1)) hperm hsrt (fun p hp => (hgl p hp).2.2.2.2.1)
            have HU1 := Aside0.mk hu1
            have HU2 := Aside0.mk hu2
            have hl9 := HL9.out
            have hbase : ∀ q, q ∈ Q' → w.heap.size ≤ q.2 := fun q hq => (HD.out q (HP.out.mem_iff.1 hq)).1
            have HBASE := Aside0.mk hbase
            clear hperm hsrt hgl hgd hu1 hu2 hbase hl9
            cases hap : apartB (Q'.map (·.1)) with
            | true =>
              have HOK := Aside0.mk (fun (j : Nat) x y (_ : j + 1 < n) => apart_get (Q'.map (·.1)) hap j x y)
              have HAP := Aside0.mk hap
              clear hap
              go_loopg [80] n (fun kq v80 wx => ∃ i : Nat, v80 = .int .i64 (i : Int) ∧ i + kq = n ∧ Aside0 (Below w9.heap.size w9 wx))
              case atStart => exact ⟨0, rfl, by omega, ⟨Below.refl _ _⟩⟩
              case round =>
                obtain ⟨i, rfl, hik, HBx⟩ := hrel
                have hMem9 := HMem9.out
                cases gk with
                | zero =>
                  have hin : ¬ (i < n) := by omega
                  clear hMem9
                  go_wp2
                  go_ret2
                  refine ⟨below_step HB9.out HBx.out, ?_⟩
                  unfold NewPost
                  rw [if_neg (by rw [HNB.out]; decide), if_neg (by rw [HF.out]; decide), if_pos (by rw [← HU1.out]; exact HAP.out)]
                  exact ⟨_, P, c, Q', rfl, HMem9.out.below HBx.out, HU2.out HAP.out, HBASE.out⟩
                | succ kq =>
                  have hin : i < n := by omega
                  have hMx := hMem9.below HBx.out
                  have mx : wr.cell? ⟨w.heap.size, 0, none⟩ = some (.slice (some ⟨P, 0, none⟩) n c) := pw_cell_below HBx.out m9
                  have HIK := Aside0.mk hik
                  clear hik
                  cases i with
                  | zero =>
                    have b0 : decide ((((0 : Nat) : Int)) > 0) = false := rfl
                    have b0' : decide ((0 : Int) > 0) = false := rfl
                    clear hMx hMem9
                    go_wp2
                    go_quiet (fail)
                    go_wp2
                    go_roundg kq
                    case measure => omega
                    case rel => exact ⟨1, rfl, by have := HIK.out; omega, ⟨pw_below_drewN HBx.out _⟩⟩
                  | succ j =>
                    obtain ⟨x, bx, y, by_, hx, hy⟩ : ∃ x bx y by_, Q'[j]? = some (x, bx) ∧ Q'[j + 1]? = some (y, by_) := by
                      have h1 : j < Q'.length := by have := HL9.out; omega
                      have h2 : j + 1 < Q'.length := by have := HL9.out; omega
                      exact ⟨Q'[j].1, Q'[j].2, Q'[j + 1].1, Q'[j + 1].2, by rw [List.getElem?_eq_getElem h1], by rw [List.getElem?_eq_getElem h2]⟩
                    obtain ⟨-, x1, x2, x3⟩ := hMx.part hx
                    obtain ⟨-, y1, y2, y3⟩ := hMx.part hy
                    have hok := HOK.out j x y (by have := HIK.out; omega) (by rw [List.getElem?_map, hx]; rfl) (by rw [List.getElem?_map, hy]; rfl)
                    obtain ⟨gx0, -, -, -, -, gx5, -⟩ := HGD.out _ (List.mem_of_getElem? hx)
                    obtain ⟨-, gy1, -, -, -, -, -⟩ := HGD.out _ (List.mem_of_getElem? hy)
                    simp only at gx0 gx5 gy1
                    clear hMx hMem9 hx hy x2 y2 y3
                    have e1 : IntKind.u64.wrap (y.a - x.a) = y.a - x.a := by rw [IntKind.wrap_u64]; omega
                    have b1 : decide (y.a - x.a < (x.d.length : Int)) = false := decide_eq_false (by omega)
                    have b0 : decide ((((j + 1 : Nat) : Int)) > 0) = true := decide_eq_true (by omega)
                    have hz : j < 1000 := by have := HL.out; have := HQL.out; have := HQN.out; omega
                    have s1 : IntKind.i64.wrap (((j + 1 : Nat) : Int) - 1) = (j : Int) := by rw [IntKind.wrap_i64]; omega
                    have s2 : IntKind.i64.wrap ((j : Int) + 1 - 1) = (j : Int) := by rw [IntKind.wrap_i64]; omega
                    have s3 : ((j : Int) + 1).toNat = j + 1 := by omega
                    go_wp2
                    go_quiet (fail)
                    go_wp2
                    go_roundg kq
                    case measure => omega
                    case rel => exact ⟨j + 2, rfl, by have := HIK.out; omega, ⟨pw_below_drewN HBx.out _⟩⟩
            | false =>
              obtain ⟨t2, x0, y0, h1, h2, h3, h4⟩ := apart_not _ hap
              have HOK := Aside0.mk (fun (j : Nat) x y (hj : j + 1 < t2 + 1) => h4 j x y (by omega))
              have HAP := Aside0.mk hap
              have H1 := Aside0.mk h1
              have H2 := Aside0.mk h2
              have H3 := Aside0.mk h3
              have ht2 : t2 + 1 < n := by
                have := (List.getElem?_eq_some_iff.1 h2).1
                rw [List.length_map] at this
                have := HL9.out
                omega
              clear hap h1 h2 h3 h4
              go_loopg [80] (t2 + 1) (fun kq v80 wx => ∃ i : Nat, v80 = .int .i64 (i : Int) ∧ i + kq = t2 + 1 ∧ Aside0 (Below w9.heap.size w9 wx))
              case atStart => exact ⟨0, rfl, by omega, ⟨Below.refl _ _⟩⟩
              case round =>
                obtain ⟨i, rfl, hik, HBx⟩ := hrel
                have hMem9 := HMem9.out
                cases gk with
                | zero =>
                  obtain rfl : i = t2 + 1 := by omega
                  clear hik
                  have hMx := hMem9.below HBx.out
                  have mx : wr.cell? ⟨w.heap.size, 0, none⟩ = some (.slice (some ⟨P, 0, none⟩) n c) := pw_cell_below HBx.out m9
                  obtain ⟨q1, hx, e1⟩ : ∃ q1, Q'[t2]? = some q1 ∧ q1.1 = x0 := by
                    have := H1.out
                    rw [List.getElem?_map] at this
                    exact Option.map_eq_some_iff.1 this
                  obtain ⟨q2, hy, e2⟩ : ∃ q2, Q'[t2 + 1]? = some q2 ∧ q2.1 = y0 := by
                    have := H2.out
                    rw [List.getElem?_map] at this
                    exact Option.map_eq_some_iff.1 this
                  obtain ⟨x, bx⟩ := q1
                  obtain ⟨y, by_⟩ := q2
                  simp only at e1 e2
                  subst e1 e2
                  obtain ⟨-, x1, x2, x3⟩ := hMx.part hx
                  obtain ⟨-, y1, y2, y3⟩ := hMx.part hy
                  obtain ⟨gx0, -, -, -, -, gx5, -⟩ := HGD.out _ (List.mem_of_getElem? hx)
                  obtain ⟨-, gy1, -, -, -, -, -⟩ := HGD.out _ (List.mem_of_getElem? hy)
                  have hso : x.a ≤ y.a := by
                    obtain ⟨l1, e1⟩ := List.getElem?_eq_some_iff.1 hx
                    obtain ⟨l2, e2⟩ := List.getElem?_eq_some_iff.1 hy
                    have := List.pairwise_iff_getElem.1 HSO.out t2 (t2 + 1) l1 l2 (by omega)
                    rw [e1, e2] at this
                    exact this
                  simp only at gx0 gx5 gy1
                  clear hMx hMem9 hx hy x2 y2 y3
                  have e1 : IntKind.u64.wrap (y.a - x.a) = y.a - x.a := by rw [IntKind.wrap_u64]; omega
                  have b1 : decide (y.a - x.a < (x.d.length : Int)) = true := decide_eq_true (by have := H3.out; omega)
                  have b0 : decide ((((t2 + 1 : Nat) : Int)) > 0) = true := decide_eq_true (by omega)
                  have hz : t2 < 1000 := by have := HL.out; have := HQL.out; have := HQN.out; omega
                  have s1 : IntKind.i64.wrap (((t2 + 1 : Nat) : Int) - 1) = (t2 : Int) := by rw [IntKind.wrap_i64]; omega
                  have s2 : IntKind.i64.wrap ((t2 : Int) + 1 - 1) = (t2 : Int) := by rw [IntKind.wrap_i64]; omega
                  have s3 : ((t2 : Int) + 1).toNat = t2 + 1 := by omega
                  go_wp2
                  go_quiet (fail)
                  go_wp2
                  go_ret2
                  refine ⟨below_step HB9.out (pw_below_drewN HBx.out _), ?_⟩
                  unfold NewPost
                  rw [if_neg (by rw [HNB.out]; decide), if_neg (by rw [HF.out]; decide), if_neg (by rw [← HU1.out, HAP.out]; decide)]
                  rfl
                | succ kq =>
                  have hin : i < n := by omega
                  have hMx := hMem9.below HBx.out
                  have mx : wr.cell? ⟨w.heap.size, 0, none⟩ = some (.slice (some ⟨P, 0, none⟩) n c) := pw_cell_below HBx.out m9
                  have HIK := Aside0.mk hik
                  clear hik
                  cases i with
                  | zero =>
                    have b0 : decide ((((0 : Nat) : Int)) > 0) = false := rfl
                    have b0' : decide ((0 : Int) > 0) = false := rfl
                    clear hMx hMem9
                    go_wp2
                    go_quiet (fail)
                    go_wp2
                    go_roundg kq
                    case measure => omega
                    case rel => exact ⟨1, rfl, by have := HIK.out; omega, ⟨pw_below_drewN HBx.out _⟩⟩
                  | succ j =>
                    obtain ⟨x, bx, y, by_, hx, hy⟩ : ∃ x bx y by_, Q'[j]? = some (x, bx) ∧ Q'[j + 1]? = some (y, by_) := by
                      have h1 : j < Q'.length := by have := HL9.out; omega
                      have h2 : j + 1 < Q'.length := by have := HL9.out; omega
                      exact ⟨Q'[j].1, Q'[j].2, Q'[j + 1].1, Q'[j + 1].2, by rw [List.getElem?_eq_getElem h1], by rw [List.getElem?_eq_getElem h2]⟩
                    obtain ⟨-, x1, x2, x3⟩ := hMx.part hx
                    obtain ⟨-, y1, y2, y3⟩ := hMx.part hy
                    have hok := HOK.out j x y (by have := HIK.out; omega) (by rw [List.getElem?_map, hx]; rfl) (by rw [List.getElem?_map, hy]; rfl)
                    obtain ⟨gx0, -, -, -, -, gx5, -⟩ := HGD.out _ (List.mem_of_getElem? hx)
                    obtain ⟨-, gy1, -, -, -, -, -⟩ := HGD.out _ (List.mem_of_getElem? hy)
                    simp only at gx0 gx5 gy1
                    clear hMx hMem9 hx hy x2 y2 y3
                    have e1 : IntKind.u64.wrap (y.a - x.a) = y.a - x.a := by rw [IntKind.wrap_u64]; omega
                    have b1 : decide (y.a - x.a < (x.d.length : Int)) = false := decide_eq_false (by omega)
                    have b0 : decide ((((j + 1 : Nat) : Int)) > 0) = true := decide_eq_true (by omega)
                    have hz : j < 1000 := by have := HL.out; have := HQL.out; have := HQN.out; omega
                    have s1 : IntKind.i64.wrap (((j + 1 : Nat) : Int) - 1) = (j : Int) := by rw [IntKind.wrap_i64]; omega
                    have s2 : IntKind.i64.wrap ((j : Int) + 1 - 1) = (j : Int) := by rw [IntKind.wrap_i64]; omega
                    have s3 : ((j : Int) + 1).toNat = j + 1 := by omega
                    go_wp2
                    go_quiet (fail)
                    go_wp2
                    go_roundg kq
                    case measure => omega
                    case rel => exact ⟨j + 2, rfl, by have := HIK.out; omega, ⟨pw_below_drewN HBx.out _⟩⟩
    | succ kq =>
      have hi : i < t := by omega
      have hil : i < l.length := by omega
      have HIK := Aside0.mk hik
      clear hik
      obtain ⟨r, hr⟩ : ∃ r, l[i]? = some r := ⟨l[i], List.getElem?_eq_getElem hil⟩
      have hrd : rd_T37 l (i : Int) = r := by unfold rd_T37; rw [Int.toNat_natCast]; simp [List.getD, hr]
      obtain ⟨ad, hA0, d0, d1, d2⟩ := at_T37 (Kd.C_below HR.out HB.out) (i : Int) (by omega) (by omega)
      subst hA0
      rw [hrd, Int.toNat_natCast] at d0 d1 d2
      have hgood := HG.out r (List.mem_of_getElem? (by rw [List.getElem?_take, if_pos hi]; exact hr))
      obtain ⟨w0, w1⟩ := HW.out r (List.mem_of_getElem? hr)
      have HW1 := Aside0.mk w1
      clear w1
      have HRI := Aside0.mk hr
      clear hr hrd
      obtain ⟨r0, r1, r2⟩ := r
      simp only at d0 d1 d2 w0
      simp only [badR, Bool.or_eq_false_iff] at hgood
      obtain ⟨⟨⟨x1, x2⟩, x3⟩, x4⟩ := hgood
      have y3 : r2.size ≠ 0 := by simpa using x3
      have y4 : r2.size ≤ 65536 := by simpa using x4
      have z3 : r2.toList.isEmpty = false := by rw [ByteArray.toList_eq]; cases hq : r2.data.toList with | nil => exact absurd (by rw [← data_length r2, hq]; rfl) y3 | cons a b => rfl
      have z4 : decide ((r2.size : Int) > 65536) = false := by simp; omega
      have hz : i < 1000 := by have := HL.out; omega
      have hmk := make_bytes r2.size y4
      clear x3 x4
      generalize hf : (l.take i).any farR = f
      have HF := Aside0.mk hf
      clear hf
      cases f
      · by_cases xf : farR ⟨r0, r1, r2⟩ = true
        · have e1 : decide (r0 > 4611686018427387904) = true := xf
          clear xf
          go_wp2
          go_region
          · obtain ⟨W9, hW, k0, k1, k2, hB9, hs9⟩ := alloc3_ wr (.cells #[.int .u64 r0, .int .i64 r1, .string r2] 37) (.cells (zerosA r2.size) 5) (.cells #[.int .u64 r0, .int .i64 r1, .slice (some ⟨wr.heap.size + 1, 0, none⟩) r2.size r2.size] 51)
            rw [← hW]
            clear hW
            obtain ⟨D, hD⟩ : ∃ D, D = wr.heap.size + 1 := ⟨_, rfl⟩
            obtain ⟨X, hX⟩ : ∃ X, X = wr.heap.size + 1 + 1 := ⟨_, rfl⟩
            obtain ⟨Y, hY⟩ : ∃ Y, Y = wr.heap.size := ⟨_, rfl⟩
            have hDX : D ≠ X ∧ Y ≠ D ∧ wr.heap.size ≤ D ∧ wr.heap.size ≤ Y := by omega
            simp only [← hX] at k2 ⊢
            simp only [← hD] at k1 k2 ⊢
            simp only [← hY] at k0 ⊢
            clear hX hD hY
            have q0 := cells3_ k0
            have q2 := cells3_ k2
            have K1 := Aside0.mk k1
            clear k0 k1 k2 hmk
            go_wp2_with (with_reducible refine wpList_copy_str rfl (.tmp 54) (.tmp 56) 49 9 rfl 5 Try.underlying49 size_u8 D r2.size r2.size r2 rfl rfl 5 K1.out rfl ?_)
            intro w10 hk10 hT10
            have l0 : w.heap.size < wr.heap.size := (Array.getElem?_eq_some_iff.1 HM.out).1
            obtain ⟨n1, n2, n3, n4⟩ := hDX
            have l1 : X < W9.heap.size := World.block_lt_of_cell? W9 ⟨X, 0, none⟩ q2.1
            have hMB : w10.heap[w.heap.size]? = some (.cells #[v] 46 (0, 0)) := (hT10.block _ (by omega) (by omega)).trans ((hB9.block _ l0).trans HM.out)
            have hX : w10.heap[X]? = W9.heap[X]? := hT10.block X l1 (fun e => n1 e.symm)
            have e0 : w10.cell? ⟨w.heap.size, 0, none⟩ = some v := (blk_cell hMB 0).trans rfl
            have e1 : w10.cell? ⟨X, 0, none⟩ = some (.int .u64 r0) := (World.cell?_of_block (w := W9) hX).trans q2.1
            have e2 : w10.cell? ⟨X, 1, none⟩ = some (.int .i64 r1) := (World.cell?_of_block (w := W9) hX).trans q2.2.1
            have e3 : w10.cell? ⟨X, 2, none⟩ = some (.slice (some ⟨D, 0, none⟩) r2.size r2.size) := (World.cell?_of_block (w := W9) hX).trans q2.2.2
            have hTT : Touch wr w10 D := (Touch.of_below D hB9).trans hT10
            have hTB : Below w.heap.size w w10 := hTT.below _ _ HB.out (by omega) (by omega)
            have hRr : Kd.R kdP 51 w10 w.heap.size (fun _ => True) v Q := by
              refine Kd.R_step HK.out (fun k _ hk => hTT.block k hk (by omega))
            have hDD : ∀ q, q ∈ Q ++ [(⟨r0, r1, bytesOf r2⟩, D)] → w.heap.size ≤ q.2 ∧ w10.heap[q.2]? = some (.cells (q.1.d.map (Value.int .u8)).toArray 5 (0, 0)) := by
              intro q hq
              rcases List.mem_append.1 hq with hq | hq
              · obtain ⟨a1, a2⟩ := HD.out q hq
                have a3 : q.2 < wr.heap.size := (Array.getElem?_eq_some_iff.1 a2).1
                exact ⟨a1, (hTT.block q.2 a3 (by omega)).trans a2⟩
              · rw [List.mem_singleton] at hq
                subst hq
                exact ⟨by simp only; omega, hk10⟩
            have hql : Q.length = i := by have := congrArg List.length HQ.out; simp at this; omega
            have hnd : ∀ q, q ∈ Q → q.2 ≠ D := fun q hq e => by
              have a3 : q.2 < wr.heap.size := (Array.getElem?_eq_some_iff.1 (HD.out q hq).2).1
              omega
            have HND := Aside0.mk hnd
            clear hnd
            have HQL := Aside0.mk (show Q.length < 1000 by omega)
            have HDD := Aside0.mk hDD
            clear hDD hql
            have HM10 := Aside0.mk hMB
            have HR10 := Aside0.mk hRr
            have HB10 := Aside0.mk hTB
            clear hk10 hT10 hMB hX hRr hTT hTB q0 q2 K1 hB9 hs9 l1 n1 n2
            go_wp2
            have hB11 := below_drew1 HB10.out
            have hR11 := Kd.R_drew HR10.out
            refine start_ (n := 11) (S := fun w' => w'.cell? ⟨w.heap.size, 0, none⟩ = some v ∧ (w'.cell? ⟨X, 0, none⟩ = some (.int .u64 r0) ∧ w'.cell? ⟨X, 1, none⟩ = some (.int .i64 r1) ∧ w'.cell? ⟨X, 2, none⟩ = some (.slice (some ⟨D, 0, none⟩) r2.size r2.size))) (ds := [7, 10]) #[false, false, false, false, false, false, false, false, false, false, false] (by kernel_rfl) rfl rfl ⟨e0, e1, e2, e3⟩ (fun hHeld => ?_)
            have hD11 := HDD.out; have hM11 := HM10.out; generalize hw11 : w10.drew = w11 at hB11 hR11 hHeld ⊢; have hh11 : w11.heap = w10.heap := by rw [← hw11]; rfl
            rw [← hh11] at hM11
            simp only [← hh11] at hD11
            have HD11 := Aside0.mk hD11
            have HM11 := Aside0.mk hM11
            have HB11 := Aside0.mk hB11
            have HR11 := Aside0.mk hR11
            clear hD11 hM11 hB11 hR11 hw11 hh11 e0 e1 e2 e3
            refine pure_ (i := 0) (N := some 58) (v := ?_) (a' := ?_) #[true, false, false, false, false, false, false, false, false, false, false] rfl rfl (by kernel_rfl) (fun _ _ _ h => h) (Or.inl ⟨by rfl, ?_⟩) ?_ ?_
            rotate_left
            · intro w'
              go_simp
              with_reducible rfl
            rotate_left
            · simp only [Act.put, List.setIfInBounds_toArray, List.set_cons_zero, List.set_cons_succ, i64_w, i32_w]
              rfl
            refine pure_ (i := 1) (N := some 59) (v := ?_) (a' := ?_) #[true, true, false, false, false, false, false, false, false, false, false] rfl rfl (by kernel_rfl) (fun _ _ _ h => h) (Or.inl ⟨by rfl, ?_⟩) ?_ ?_
            rotate_left
            · intro w'
              go_simp
              with_reducible rfl
            rotate_left
            · simp only [Act.put, List.setIfInBounds_toArray, List.set_cons_zero, List.set_cons_succ, i64_w, i32_w]
              rfl
            refine pure_ (i := 2) (N := some 60) (v := ?_) (a' := ?_) #[true, true, true, false, false, false, false, false, false, false, false] rfl rfl (by kernel_rfl) (fun _ _ _ h => h) (Or.inl ⟨by rfl, ?_⟩) ?_ ?_
            rotate_left
            · intro w'
              go_simp
              with_reducible rfl
            rotate_left
            · simp only [Act.put, List.setIfInBounds_toArray, List.set_cons_zero, List.set_cons_succ, i64_w, i32_w]
              rfl
            refine pure_ (i := 3) (N := some 61) (v := ?_) (a' := ?_) #[true, true, true, true, false, false, false, false, false, false, false] rfl rfl (by kernel_rfl) (fun _ _ _ h => h) (Or.inl ⟨by rfl, ?_⟩) ?_ ?_
            rotate_left
            · intro w'
              go_simp
              with_reducible rfl
            rotate_left
            · simp only [Act.put, List.setIfInBounds_toArray, List.set_cons_zero, List.set_cons_succ, i64_w, i32_w]
              rfl
            refine take_ (i := 4) (N := some 62) (v := ?_) (a' := ?_) #[true, true, true, true, true, false, false, false, false, false, false] rfl rfl (by kernel_rfl) (fun _ _ _ h => h) (Or.inl ⟨by rfl, ?_⟩) hHeld ?_ ?_
            rotate_left
            · rintro w' ⟨g0, g1, g2, g3⟩
              go_simp
              with_reducible rfl
            rotate_left
            · simp only [Act.put, List.setIfInBounds_toArray, List.set_cons_zero, List.set_cons_succ, i64_w, i32_w]
              rfl
            refine take_ (i := 5) (N := some 63) (v := ?_) (a' := ?_) #[true, true, true, true, true, true, false, false, false, false, false] rfl rfl (by kernel_rfl) (fun _ _ _ h => h) (Or.inl ⟨by rfl, ?_⟩) hHeld ?_ ?_
            rotate_left
            · rintro w' ⟨g0, g1, g2, g3⟩
              go_simp
              with_reducible rfl
            rotate_left
            · simp only [Act.put, List.setIfInBounds_toArray, List.set_cons_zero, List.set_cons_succ, i64_w, i32_w]
              rfl
            refine one_ (i := 6) (N := some 64) #[true, true, true, true, true, true, true, false, false, false, false] rfl rfl (by kernel_rfl) (by decide) (fun K hK => ?_)
            rw [if_pos (by rfl)]
            unfold Oper.wp
            go_simp
            refine hK.out _ _ ⟨pw_cell_below (below_alloc (Below.refl _ _) _) hHeld.1, pw_cell_below (below_alloc (Below.refl _ _) _) hHeld.2.1, pw_cell_below (below_alloc (Below.refl _ _) _) hHeld.2.2.1, pw_cell_below (below_alloc (Below.refl _ _) _) hHeld.2.2.2⟩ (fun hHeld => ?_)
            clear hK K
            refine last_ (i := 7) (N := some 65) #[true, true, true, true, true, true, true, true, false, false, false] rfl rfl (by kernel_rfl) (by decide) (fun K hK => ?_)
            refine Kd.R_append_step kdP (w0 := w) w.heap.size (by rfl) (.tmp 62) (.tmp 64) 44 51 (.agg #[.int .u64 0, .int .i64 0, .slice none 0 0]) 40 rfl Try.underlying44 info_part rfl (by decide) (by omega) v Q (⟨r0, r1, bytesOf r2⟩, D) [.int .u64 r0, .int .i64 r1, .slice (some ⟨D, 0, none⟩) r2.size r2.size] (fun _ => True) (fun _ => False) rfl rfl ?aP (fun _ hk => hk.elim) (fun _ _ => trivial) HR11.out HB11.out (below_size HB11.out) ?aL ?_
            case aP => show _ = encM _; unfold encM; simp only [bytesOf_length]
            case aL => have := HQL.out; omega
            intro v1 w12 ho hb hg hat
            have hMD := part_grown (w := w) HR11.out HM11.out HD11.out hg
            obtain ⟨A1, c1, rfl⟩ := Kd.R_slice ho
            have hres := part_put (w := w) (Nat.le_refl _) ho hMD.1 hMD.2 hb
            have m0 : w12.cell? ⟨w.heap.size, 0, none⟩ = some v := (blk_cell hMD.1 0).trans rfl
            have m1 : w12.frozen? ⟨w.heap.size, 0, none⟩ = false := blk_frozen hMD.1 0
            have HRES := Aside0.mk hres
            clear ho hb hg hat hMD hres
            refine hK.out _ _ ?_
            clear hK K
            refine norm_ (a' := ?_) ?_ ?_
            rotate_left
            · show Act.put _ (some 65) _ = _
              simp only [Act.put, List.setIfInBounds_toArray, List.set_cons_zero, List.set_cons_succ, i64_w, i32_w]
              rfl
            refine pure_ (i := 8) (N := some 66) (v := ?_) (a' := ?_) #[true, true, true, true, true, true, true, true, true, false, false] rfl rfl (by kernel_rfl) (fun _ _ _ h => h) (Or.inl ⟨by rfl, ?_⟩) ?_ ?_
            rotate_left
            · intro w'
              go_simp
              with_reducible rfl
            rotate_left
            · simp only [Act.put, List.setIfInBounds_toArray, List.set_cons_zero, List.set_cons_succ, i64_w, i32_w]
              rfl
            refine pure_ (i := 9) (N := some 67) (v := ?_) (a' := ?_) #[true, true, true, true, true, true, true, true, true, true, false] rfl rfl (by kernel_rfl) (fun _ _ _ h => h) (Or.inl ⟨by rfl, ?_⟩) ?_ ?_
            rotate_left
            · intro w'
              go_simp
              with_reducible rfl
            rotate_left
            · simp only [Act.put, List.setIfInBounds_toArray, List.set_cons_zero, List.set_cons_succ, i64_w, i32_w]
              rfl
            refine last_ (i := 10) (N := none) #[true, true, true, true, true, true, true, true, true, true, true] rfl rfl (by kernel_rfl) (by decide) (fun K hK => ?_)
            rw [if_pos (by rfl)]
            unfold Oper.wp
            go_simp
            refine hK.out _ _ ?_
            clear hK K
            refine done_ (by kernel_rfl) ?_
            go_wp2
            go_roundg kq
            case measure => omega
            case rel =>
              obtain ⟨p1, p2, p3, p4⟩ := HRES.out
              have hll : (Q ++ [((⟨r0, r1, bytesOf r2⟩ : MP), D)]).length = Q.length + 1 := by simp
              rw [hll] at p1 p2 p3 p4
              refine ⟨i + 1, Q ++ [(⟨r0, r1, bytesOf r2⟩, D)], _, ?_, rfl, by have := HIK.out; omega, ⟨p1⟩, ⟨p2⟩, ⟨p3⟩, ⟨?_⟩, ⟨?_⟩, ⟨p4⟩, ⟨fun h => absurd h (by simp)⟩⟩
              · rw [take_snoc_ HRI.out, List.any_append, HF.out]
                simp [farR, e1]
              · exact nodup_snoc_ HA.out HND.out
              · rw [take_snoc_ HRI.out, List.map_append, List.map_append, HQ.out]
                rfl
          · obtain ⟨W9, hW, k0, k1, k2, hB9, hs9⟩ := alloc3_ wr (.cells #[.int .u64 r0, .int .i64 r1, .string r2] 37) (.cells #[.int .u64 r0, .int .i64 r1, .slice (some ⟨wr.heap.size + 1 + 1, 0, none⟩) r2.size r2.size] 51) (.cells (zerosA r2.size) 5)
            rw [← hW]
            clear hW
            obtain ⟨D, hD⟩ : ∃ D, D = wr.heap.size + 1 + 1 := ⟨_, rfl⟩
            obtain ⟨X, hX⟩ : ∃ X, X = wr.heap.size + 1 := ⟨_, rfl⟩
            obtain ⟨Y, hY⟩ : ∃ Y, Y = wr.heap.size := ⟨_, rfl⟩
            have hDX : D ≠ X ∧ Y ≠ D ∧ wr.heap.size ≤ D ∧ wr.heap.size ≤ Y := by omega
            simp only [← hD] at k1 k2 ⊢
            simp only [← hX] at k1 ⊢
            simp only [← hY] at k0 ⊢
            clear hX hD hY
            have q0 := cells3_ k0
            have q2 := cells3_ k1
            have K1 := Aside0.mk k2
            clear k0 k1 k2 hmk
            go_wp2_with (with_reducible refine wpList_copy_str rfl (.tmp 54) (.tmp 56) 49 9 rfl 5 Try.underlying49 size_u8 D r2.size r2.size r2 rfl rfl 5 K1.out rfl ?_)
            intro w10 hk10 hT10
            have l0 : w.heap.size < wr.heap.size := (Array.getElem?_eq_some_iff.1 HM.out).1
            obtain ⟨n1, n2, n3, n4⟩ := hDX
            have l1 : X < W9.heap.size := World.block_lt_of_cell? W9 ⟨X, 0, none⟩ q2.1
            have hMB : w10.heap[w.heap.size]? = some (.cells #[v] 46 (0, 0)) := (hT10.block _ (by omega) (by omega)).trans ((hB9.block _ l0).trans HM.out)
            have hX : w10.heap[X]? = W9.heap[X]? := hT10.block X l1 (fun e => n1 e.symm)
            have e0 : w10.cell? ⟨w.heap.size, 0, none⟩ = some v := (blk_cell hMB 0).trans rfl
            have e1 : w10.cell? ⟨X, 0, none⟩ = some (.int .u64 r0) := (World.cell?_of_block (w := W9) hX).trans q2.1
            have e2 : w10.cell? ⟨X, 1, none⟩ = some (.int .i64 r1) := (World.cell?_of_block (w := W9) hX).trans q2.2.1
            have e3 : w10.cell? ⟨X, 2, none⟩ = some (.slice (some ⟨D, 0, none⟩) r2.size r2.size) := (World.cell?_of_block (w := W9) hX).trans q2.2.2
            have hTT : Touch wr w10 D := (Touch.of_below D hB9).trans hT10
            have hTB : Below w.heap.size w w10 := hTT.below _ _ HB.out (by omega) (by omega)
            have hRr : Kd.R kdP 51 w10 w.heap.size (fun _ => True) v Q := by
              refine Kd.R_step HK.out (fun k _ hk => hTT.block k hk (by omega))
            have hDD : ∀ q, q ∈ Q ++ [(⟨r0, r1, bytesOf r2⟩, D)] → w.heap.size ≤ q.2 ∧ w10.heap[q.2]? = some (.cells (q.1.d.map (Value.int .u8)).toArray 5 (0, 0)) := by
              intro q hq
              rcases List.mem_append.1 hq with hq | hq
              · obtain ⟨a1, a2⟩ := HD.out q hq
                have a3 : q.2 < wr.heap.size := (Array.getElem?_eq_some_iff.1 a2).1
                exact ⟨a1, (hTT.block q.2 a3 (by omega)).trans a2⟩
              · rw [List.mem_singleton] at hq
                subst hq
                exact ⟨by simp only; omega, hk10⟩
            have hql : Q.length = i := by have := congrArg List.length HQ.out; simp at this; omega
            have hnd : ∀ q, q ∈ Q → q.2 ≠ D := fun q hq e => by
              have a3 : q.2 < wr.heap.size := (Array.getElem?_eq_some_iff.1 (HD.out q hq).2).1
              omega
            have HND := Aside0.mk hnd
            clear hnd
            have HQL := Aside0.mk (show Q.length < 1000 by omega)
            have HDD := Aside0.mk hDD
            clear hDD hql
            have HM10 := Aside0.mk hMB
            have HR10 := Aside0.mk hRr
            have HB10 := Aside0.mk hTB
            clear hk10 hT10 hMB hX hRr hTT hTB q0 q2 K1 hB9 hs9 l1 n1 n2
            go_wp2
            have hB11 := below_drew1 HB10.out
            have hR11 := Kd.R_drew HR10.out
            refine start_ (n := 11) (S := fun w' => w'.cell? ⟨w.heap.size, 0, none⟩ = some v ∧ (w'.cell? ⟨X, 0, none⟩ = some (.int .u64 r0) ∧ w'.cell? ⟨X, 1, none⟩ = some (.int .i64 r1) ∧ w'.cell? ⟨X, 2, none⟩ = some (.slice (some ⟨D, 0, none⟩) r2.size r2.size))) (ds := [7, 10]) #[false, false, false, false, false, false, false, false, false, false, false] (by kernel_rfl) rfl rfl ⟨e0, e1, e2, e3⟩ (fun hHeld => ?_)
            have hD11 := HDD.out; have hM11 := HM10.out; generalize hw11 : w10.drew = w11 at hB11 hR11 hHeld ⊢; have hh11 : w11.heap = w10.heap := by rw [← hw11]; rfl
            rw [← hh11] at hM11
            simp only [← hh11] at hD11
            have HD11 := Aside0.mk hD11
            have HM11 := Aside0.mk hM11
            have HB11 := Aside0.mk hB11
            have HR11 := Aside0.mk hR11
            clear hD11 hM11 hB11 hR11 hw11 hh11 e0 e1 e2 e3
            refine pure_ (i := 0) (N := some 58) (v := ?_) (a' := ?_) #[true, false, false, false, false, false, false, false, false, false, false] rfl rfl (by kernel_rfl) (fun _ _ _ h => h) (Or.inl ⟨by rfl, ?_⟩) ?_ ?_
            rotate_left
            · intro w'
              go_simp
              with_reducible rfl
            rotate_left
            · simp only [Act.put, List.setIfInBounds_toArray, List.set_cons_zero, List.set_cons_succ, i64_w, i32_w]
              rfl
            refine pure_ (i := 1) (N := some 59) (v := ?_) (a' := ?_) #[true, true, false, false, false, false, false, false, false, false, false] rfl rfl (by kernel_rfl) (fun _ _ _ h => h) (Or.inl ⟨by rfl, ?_⟩) ?_ ?_
            rotate_left
            · intro w'
              go_simp
              with_reducible rfl
            rotate_left
            · simp only [Act.put, List.setIfInBounds_toArray, List.set_cons_zero, List.set_cons_succ, i64_w, i32_w]
              rfl
            refine pure_ (i := 2) (N := some 60) (v := ?_) (a' := ?_) #[true, true, true, false, false, false, false, false, false, false, false] rfl rfl (by kernel_rfl) (fun _ _ _ h => h) (Or.inl ⟨by rfl, ?_⟩) ?_ ?_
            rotate_left
            · intro w'
              go_simp
              with_reducible rfl
            rotate_left
            · simp only [Act.put, List.setIfInBounds_toArray, List.set_cons_zero, List.set_cons_succ, i64_w, i32_w]
              rfl
            refine pure_ (i := 3) (N := some 61) (v := ?_) (a' := ?_) #[true, true, true, true, false, false, false, false, false, false, false] rfl rfl (by kernel_rfl) (fun _ _ _ h => h) (Or.inl ⟨by rfl, ?_⟩) ?_ ?_
            rotate_left
            · intro w'
              go_simp
              with_reducible rfl
            rotate_left
            · simp only [Act.put, List.setIfInBounds_toArray, List.set_cons_zero, List.set_cons_succ, i64_w, i32_w]
              rfl
            refine take_ (i := 4) (N := some 62) (v := ?_) (a' := ?_) #[true, true, true, true, true, false, false, false, false, false, false] rfl rfl (by kernel_rfl) (fun _ _ _ h => h) (Or.inl ⟨by rfl, ?_⟩) hHeld ?_ ?_
            rotate_left
            · rintro w' ⟨g0, g1, g2, g3⟩
              go_simp
              with_reducible rfl
            rotate_left
            · simp only [Act.put, List.setIfInBounds_toArray, List.set_cons_zero, List.set_cons_succ, i64_w, i32_w]
              rfl
            refine take_ (i := 5) (N := some 63) (v := ?_) (a' := ?_) #[true, true, true, true, true, true, false, false, false, false, false] rfl rfl (by kernel_rfl) (fun _ _ _ h => h) (Or.inl ⟨by rfl, ?_⟩) hHeld ?_ ?_
            rotate_left
            · rintro w' ⟨g0, g1, g2, g3⟩
              go_simp
              with_reducible rfl
            rotate_left
            · simp only [Act.put, List.setIfInBounds_toArray, List.set_cons_zero, List.set_cons_succ, i64_w, i32_w]
              rfl
            refine one_ (i := 6) (N := some 64) #[true, true, true, true, true, true, true, false, false, false, false] rfl rfl (by kernel_rfl) (by decide) (fun K hK => ?_)
            rw [if_pos (by rfl)]
            unfold Oper.wp
            go_simp
            refine hK.out _ _ ⟨pw_cell_below (below_alloc (Below.refl _ _) _) hHeld.1, pw_cell_below (below_alloc (Below.refl _ _) _) hHeld.2.1, pw_cell_below (below_alloc (Below.refl _ _) _) hHeld.2.2.1, pw_cell_below (below_alloc (Below.refl _ _) _) hHeld.2.2.2⟩ (fun hHeld => ?_)
            clear hK K
            refine last_ (i := 7) (N := some 65) #[true, true, true, true, true, true, true, true, false, false, false] rfl rfl (by kernel_rfl) (by decide) (fun K hK => ?_)
            refine Kd.R_append_step kdP (w0 := w) w.heap.size (by rfl) (.tmp 62) (.tmp 64) 44 51 (.agg #[.int .u64 0, .int .i64 0, .slice none 0 0]) 40 rfl Try.underlying44 info_part rfl (by decide) (by omega) v Q (⟨r0, r1, bytesOf r2⟩, D) [.int .u64 r0, .int .i64 r1, .slice (some ⟨D, 0, none⟩) r2.size r2.size] (fun _ => True) (fun _ => False) rfl rfl ?aP (fun _ hk => hk.elim) (fun _ _ => trivial) HR11.out HB11.out (below_size HB11.out) ?aL ?_
            case aP => show _ = encM _; unfold encM; simp only [bytesOf_length]
            case aL => have := HQL.out; omega
            intro v1 w12 ho hb hg hat
            have hMD := part_grown (w := w) HR11.out HM11.out HD11.out hg
            obtain ⟨A1, c1, rfl⟩ := Kd.R_slice ho
            have hres := part_put (w := w) (Nat.le_refl _) ho hMD.1 hMD.2 hb
            have m0 : w12.cell? ⟨w.heap.size, 0, none⟩ = some v := (blk_cell hMD.1 0).trans rfl
            have m1 : w12.frozen? ⟨w.heap.size, 0, none⟩ = false := blk_frozen hMD.1 0
            have HRES := Aside0.mk hres
            clear ho hb hg hat hMD hres
            refine hK.out _ _ ?_
            clear hK K
            refine norm_ (a' := ?_) ?_ ?_
            rotate_left
            · show Act.put _ (some 65) _ = _
              simp only [Act.put, List.setIfInBounds_toArray, List.set_cons_zero, List.set_cons_succ, i64_w, i32_w]
              rfl
            refine pure_ (i := 8) (N := some 66) (v := ?_) (a' := ?_) #[true, true, true, true, true, true, true, true, true, false, false] rfl rfl (by kernel_rfl) (fun _ _ _ h => h) (Or.inl ⟨by rfl, ?_⟩) ?_ ?_
            rotate_left
            · intro w'
              go_simp
              with_reducible rfl
            rotate_left
            · simp only [Act.put, List.setIfInBounds_toArray, List.set_cons_zero, List.set_cons_succ, i64_w, i32_w]
              rfl
            refine pure_ (i := 9) (N := some 67) (v := ?_) (a' := ?_) #[true, true, true, true, true, true, true, true, true, true, false] rfl rfl (by kernel_rfl) (fun _ _ _ h => h) (Or.inl ⟨by rfl, ?_⟩) ?_ ?_
            rotate_left
            · intro w'
              go_simp
              with_reducible rfl
            rotate_left
            · simp only [Act.put, List.setIfInBounds_toArray, List.set_cons_zero, List.set_cons_succ, i64_w, i32_w]
              rfl
            refine last_ (i := 10) (N := none) #[true, true, true, true, true, true, true, true, true, true, true] rfl rfl (by kernel_rfl) (by decide) (fun K hK => ?_)
            rw [if_pos (by rfl)]
            unfold Oper.wp
            go_simp
            refine hK.out _ _ ?_
            clear hK K
            refine done_ (by kernel_rfl) ?_
            go_wp2
            go_roundg kq
            case measure => omega
            case rel =>
              obtain ⟨p1, p2, p3, p4⟩ := HRES.out
              have hll : (Q ++ [((⟨r0, r1, bytesOf r2⟩ : MP), D)]).length = Q.length + 1 := by simp
              rw [hll] at p1 p2 p3 p4
              refine ⟨i + 1, Q ++ [(⟨r0, r1, bytesOf r2⟩, D)], _, ?_, rfl, by have := HIK.out; omega, ⟨p1⟩, ⟨p2⟩, ⟨p3⟩, ⟨?_⟩, ⟨?_⟩, ⟨p4⟩, ⟨fun h => absurd h (by simp)⟩⟩
              · rw [take_snoc_ HRI.out, List.any_append, HF.out]
                simp [farR, e1]
              · exact nodup_snoc_ HA.out HND.out
              · rw [take_snoc_ HRI.out, List.map_append, List.map_append, HQ.out]
                rfl
        · have e1 : decide (r0 > 4611686018427387904) = false := by simpa [farR] using xf
          clear xf
          go_wp2
          go_region
          · obtain ⟨W9, hW, k0, k1, k2, hB9, hs9⟩ := alloc3_ wr (.cells #[.int .u64 r0, .int .i64 r1, .string r2] 37) (.cells (zerosA r2.size) 5) (.cells #[.int .u64 r0, .int .i64 r1, .slice (some ⟨wr.heap.size + 1, 0, none⟩) r2.size r2.size] 51)
            rw [← hW]
            clear hW
            obtain ⟨D, hD⟩ : ∃ D, D = wr.heap.size + 1 := ⟨_, rfl⟩
            obtain ⟨X, hX⟩ : ∃ X, X = wr.heap.size + 1 + 1 := ⟨_, rfl⟩
            obtain ⟨Y, hY⟩ : ∃ Y, Y = wr.heap.size := ⟨_, rfl⟩
            have hDX : D ≠ X ∧ Y ≠ D ∧ wr.heap.size ≤ D ∧ wr.heap.size ≤ Y := by omega
            simp only [← hX] at k2 ⊢
            simp only [← hD] at k1 k2 ⊢
            simp only [← hY] at k0 ⊢
            clear hX hD hY
            have q0 := cells3_ k0
            have q2 := cells3_ k2
            have K1 := Aside0.mk k1
            clear k0 k1 k2 hmk
            go_wp2_with (with_reducible refine wpList_copy_str rfl (.tmp 54) (.tmp 56) 49 9 rfl 5 Try.underlying49 size_u8 D r2.size r2.size r2 rfl rfl 5 K1.out rfl ?_)
            intro w10 hk10 hT10
            have l0 : w.heap.size < wr.heap.size := (Array.getElem?_eq_some_iff.1 HM.out).1
            obtain ⟨n1, n2, n3, n4⟩ := hDX
            have l1 : X < W9.heap.size := World.block_lt_of_cell? W9 ⟨X, 0, none⟩ q2.1
            have hMB : w10.heap[w.heap.size]? = some (.cells #[v] 46 (0, 0)) := (hT10.block _ (by omega) (by omega)).trans ((hB9.block _ l0).trans HM.out)
            have hX : w10.heap[X]? = W9.heap[X]? := hT10.block X l1 (fun e => n1 e.symm)
            have e0 : w10.cell? ⟨w.heap.size, 0, none⟩ = some v := (blk_cell hMB 0).trans rfl
            have e1 : w10.cell? ⟨X, 0, none⟩ = some (.int .u64 r0) := (World.cell?_of_block (w := W9) hX).trans q2.1
            have e2 : w10.cell? ⟨X, 1, none⟩ = some (.int .i64 r1) := (World.cell?_of_block (w := W9) hX).trans q2.2.1
            have e3 : w10.cell? ⟨X, 2, none⟩ = some (.slice (some ⟨D, 0, none⟩) r2.size r2.size) := (World.cell?_of_block (w := W9) hX).trans q2.2.2
            have hTT : Touch wr w10 D := (Touch.of_below D hB9).trans hT10
            have hTB : Below w.heap.size w w10 := hTT.below _ _ HB.out (by omega) (by omega)
            have hRr : Kd.R kdP 51 w10 w.heap.size (fun _ => True) v Q := by
              refine Kd.R_step HK.out (fun k _ hk => hTT.block k hk (by omega))
            have hDD : ∀ q, q ∈ Q ++ [(⟨r0, r1, bytesOf r2⟩, D)] → w.heap.size ≤ q.2 ∧ w10.heap[q.2]? = some (.cells (q.1.d.map (Value.int .u8)).toArray 5 (0, 0)) := by
              intro q hq
              rcases List.mem_append.1 hq with hq | hq
              · obtain ⟨a1, a2⟩ := HD.out q hq
                have a3 : q.2 < wr.heap.size := (Array.getElem?_eq_some_iff.1 a2).1
                exact ⟨a1, (hTT.block q.2 a3 (by omega)).trans a2⟩
              · rw [List.mem_singleton] at hq
                subst hq
                exact ⟨by simp only; omega, hk10⟩
            have hql : Q.length = i := by have := congrArg List.length HQ.out; simp at this; omega
            have hnd : ∀ q, q ∈ Q → q.2 ≠ D := fun q hq e => by
              have a3 : q.2 < wr.heap.size := (Array.getElem?_eq_some_iff.1 (HD.out q hq).2).1
              omega
            have HND := Aside0.mk hnd
            clear hnd
            have HQL := Aside0.mk (show Q.length < 1000 by omega)
            have HDD := Aside0.mk hDD
            clear hDD hql
            have HM10 := Aside0.mk hMB
            have HR10 := Aside0.mk hRr
            have HB10 := Aside0.mk hTB
            clear hk10 hT10 hMB hX hRr hTT hTB q0 q2 K1 hB9 hs9 l1 n1 n2
            go_wp2
            have hB11 := below_drew1 HB10.out
            have hR11 := Kd.R_drew HR10.out
            refine start_ (n := 11) (S := fun w' => w'.cell? ⟨w.heap.size, 0, none⟩ = some v ∧ (w'.cell? ⟨X, 0, none⟩ = some (.int .u64 r0) ∧ w'.cell? ⟨X, 1, none⟩ = some (.int .i64 r1) ∧ w'.cell? ⟨X, 2, none⟩ = some (.slice (some ⟨D, 0, none⟩) r2.size r2.size))) (ds := [7, 10]) #[false, false, false, false, false, false, false, false, false, false, false] (by kernel_rfl) rfl rfl ⟨e0, e1, e2, e3⟩ (fun hHeld => ?_)
            have hD11 := HDD.out; have hM11 := HM10.out; generalize hw11 : w10.drew = w11 at hB11 hR11 hHeld ⊢; have hh11 : w11.heap = w10.heap := by rw [← hw11]; rfl
            rw [← hh11] at hM11
            simp only [← hh11] at hD11
            have HD11 := Aside0.mk hD11
            have HM11 := Aside0.mk hM11
            have HB11 := Aside0.mk hB11
            have HR11 := Aside0.mk hR11
            clear hD11 hM11 hB11 hR11 hw11 hh11 e0 e1 e2 e3
            refine pure_ (i := 0) (N := some 58) (v := ?_) (a' := ?_) #[true, false, false, false, false, false, false, false, false, false, false] rfl rfl (by kernel_rfl) (fun _ _ _ h => h) (Or.inl ⟨by rfl, ?_⟩) ?_ ?_
            rotate_left
            · intro w'
              go_simp
              with_reducible rfl
            rotate_left
            · simp only [Act.put, List.setIfInBounds_toArray, List.set_cons_zero, List.set_cons_succ, i64_w, i32_w]
              rfl
            refine pure_ (i := 1) (N := some 59) (v := ?_) (a' := ?_) #[true, true, false, false, false, false, false, false, false, false, false] rfl rfl (by kernel_rfl) (fun _ _ _ h => h) (Or.inl ⟨by rfl, ?_⟩) ?_ ?_
            rotate_left
            · intro w'
              go_simp
              with_reducible rfl
            rotate_left
            · simp only [Act.put, List.setIfInBounds_toArray, List.set_cons_zero, List.set_cons_succ, i64_w, i32_w]
              rfl
            refine pure_ (i := 2) (N := some 60) (v := ?_) (a' := ?_) #[true, true, true, false, false, false, false, false, false, false, false] rfl rfl (by kernel_rfl) (fun _ _ _ h => h) (Or.inl ⟨by rfl, ?_⟩) ?_ ?_
            rotate_left
            · intro w'
              go_simp
              with_reducible rfl
            rotate_left
            · simp only [Act.put, List.setIfInBounds_toArray, List.set_cons_zero, List.set_cons_succ, i64_w, i32_w]
              rfl
            refine pure_ (i := 3) (N := some 61) (v := ?_) (a' := ?_) #[true, true, true, true, false, false, false, false, false, false, false] rfl rfl (by kernel_rfl) (fun _ _ _ h => h) (Or.inl ⟨by rfl, ?_⟩) ?_ ?_
            rotate_left
            · intro w'
              go_simp
              with_reducible rfl
            rotate_left
            · simp only [Act.put, List.setIfInBounds_toArray, List.set_cons_zero, List.set_cons_succ, i64_w, i32_w]
              rfl
            refine take_ (i := 4) (N := some 62) (v := ?_) (a' := ?_) #[true, true, true, true, true, false, false, false, false, false, false] rfl rfl (by kernel_rfl) (fun _ _ _ h => h) (Or.inl ⟨by rfl, ?_⟩) hHeld ?_ ?_
            rotate_left
            · rintro w' ⟨g0, g1, g2, g3⟩
              go_simp
              with_reducible rfl
            rotate_left
            · simp only [Act.put, List.setIfInBounds_toArray, List.set_cons_zero, List.set_cons_succ, i64_w, i32_w]
              rfl
            refine take_ (i := 5) (N := some 63) (v := ?_) (a' := ?_) #[true, true, true, true, true, true, false, false, false, false, false] rfl rfl (by kernel_rfl) (fun _ _ _ h => h) (Or.inl ⟨by rfl, ?_⟩) hHeld ?_ ?_
            rotate_left
            · rintro w' ⟨g0, g1, g2, g3⟩
              go_simp
              with_reducible rfl
            rotate_left
            · simp only [Act.put, List.setIfInBounds_toArray, List.set_cons_zero, List.set_cons_succ, i64_w, i32_w]
              rfl
            refine one_ (i := 6) (N := some 64) #[true, true, true, true, true, true, true, false, false, false, false] rfl rfl (by kernel_rfl) (by decide) (fun K hK => ?_)
            rw [if_pos (by rfl)]
            unfold Oper.wp
            go_simp
            refine hK.out _ _ ⟨pw_cell_below (below_alloc (Below.refl _ _) _) hHeld.1, pw_cell_below (below_alloc (Below.refl _ _) _) hHeld.2.1, pw_cell_below (below_alloc (Below.refl _ _) _) hHeld.2.2.1, pw_cell_below (below_alloc (Below.refl _ _) _) hHeld.2.2.2⟩ (fun hHeld => ?_)
            clear hK K
            refine last_ (i := 7) (N := some 65) #[true, true, true, true, true, true, true, true, false, false, false] rfl rfl (by kernel_rfl) (by decide) (fun K hK => ?_)
            refine Kd.R_append_step kdP (w0 := w) w.heap.size (by rfl) (.tmp 62) (.tmp 64) 44 51 (.agg #[.int .u64 0, .int .i64 0, .slice none 0 0]) 40 rfl Try.underlying44 info_part rfl (by decide) (by omega) v Q (⟨r0, r1, bytesOf r2⟩, D) [.int .u64 r0, .int .i64 r1, .slice (some ⟨D, 0, none⟩) r2.size r2.size] (fun _ => True) (fun _ => False) rfl rfl ?aP (fun _ hk => hk.elim) (fun _ _ => trivial) HR11.out HB11.out (below_size HB11.out) ?aL ?_
            case aP => show _ = encM _; unfold encM; simp only [bytesOf_length]
            case aL => have := HQL.out; omega
            intro v1 w12 ho hb hg hat
            have hMD := part_grown (w := w) HR11.out HM11.out HD11.out hg
            obtain ⟨A1, c1, rfl⟩ := Kd.R_slice ho
            have hres := part_put (w := w) (Nat.le_refl _) ho hMD.1 hMD.2 hb
            have m0 : w12.cell? ⟨w.heap.size, 0, none⟩ = some v := (blk_cell hMD.1 0).trans rfl
            have m1 : w12.frozen? ⟨w.heap.size, 0, none⟩ = false := blk_frozen hMD.1 0
            have HRES := Aside0.mk hres
            clear ho hb hg hat hMD hres
            refine hK.out _ _ ?_
            clear hK K
            refine norm_ (a' := ?_) ?_ ?_
            rotate_left
            · show Act.put _ (some 65) _ = _
              simp only [Act.put, List.setIfInBounds_toArray, List.set_cons_zero, List.set_cons_succ, i64_w, i32_w]
              rfl
            refine pure_ (i := 8) (N := some 66) (v := ?_) (a' := ?_) #[true, true, true, true, true, true, true, true, true, false, false] rfl rfl (by kernel_rfl) (fun _ _ _ h => h) (Or.inl ⟨by rfl, ?_⟩) ?_ ?_
            rotate_left
            · intro w'
              go_simp
              with_reducible rfl
            rotate_left
            · simp only [Act.put, List.setIfInBounds_toArray, List.set_cons_zero, List.set_cons_succ, i64_w, i32_w]
              rfl
            refine pure_ (i := 9) (N := some 67) (v := ?_) (a' := ?_) #[true, true, true, true, true, true, true, true, true, true, false] rfl rfl (by kernel_rfl) (fun _ _ _ h => h) (Or.inl ⟨by rfl, ?_⟩) ?_ ?_
            rotate_left
            · intro w'
              go_simp
              with_reducible rfl
            rotate_left
            · simp only [Act.put, List.setIfInBounds_toArray, List.set_cons_zero, List.set_cons_succ, i64_w, i32_w]
              rfl
            refine last_ (i := 10) (N := none) #[true, true, true, true, true, true, true, true, true, true, true] rfl rfl (by kernel_rfl) (by decide) (fun K hK => ?_)
            rw [if_pos (by rfl)]
            unfold Oper.wp
            go_simp
            refine hK.out _ _ ?_
            clear hK K
            refine done_ (by kernel_rfl) ?_
            go_wp2
            go_roundg kq
            case measure => omega
            case rel =>
              obtain ⟨p1, p2, p3, p4⟩ := HRES.out
              have hll : (Q ++ [((⟨r0, r1, bytesOf r2⟩ : MP), D)]).length = Q.length + 1 := by simp
              rw [hll] at p1 p2 p3 p4
              refine ⟨i + 1, Q ++ [(⟨r0, r1, bytesOf r2⟩, D)], _, ?_, rfl, by have := HIK.out; omega, ⟨p1⟩, ⟨p2⟩, ⟨p3⟩, ⟨?_⟩, ⟨?_⟩, ⟨p4⟩, ⟨fun h => absurd h (by simp)⟩⟩
              · rw [take_snoc_ HRI.out, List.any_append, HF.out]
                simp [farR, e1]
              · exact nodup_snoc_ HA.out HND.out
              · rw [take_snoc_ HRI.out, List.map_append, List.map_append, HQ.out]
                rfl
          · obtain ⟨W9, hW, k0, k1, k2, hB9, hs9⟩ := alloc3_ wr (.cells #[.int .u64 r0, .int .i64 r1, .string r2] 37) (.cells #[.int .u64 r0, .int .i64 r1, .slice (some ⟨wr.heap.size + 1 + 1, 0, none⟩) r2.size r2.size] 51) (.cells (zerosA r2.size) 5)
            rw [← hW]
            clear hW
            obtain ⟨D, hD⟩ : ∃ D, D = wr.heap.size + 1 + 1 := ⟨_, rfl⟩
            obtain ⟨X, hX⟩ : ∃ X, X = wr.heap.size + 1 := ⟨_, rfl⟩
            obtain ⟨Y, hY⟩ : ∃ Y, Y = wr.heap.size := ⟨_, rfl⟩
            have hDX : D ≠ X ∧ Y ≠ D ∧ wr.heap.size ≤ D ∧ wr.heap.size ≤ Y := by omega
            simp only [← hD] at k1 k2 ⊢
            simp only [← hX] at k1 ⊢
            simp only [← hY] at k0 ⊢
            clear hX hD hY
            have q0 := cells3_ k0
            have q2 := cells3_ k1
            have K1 := Aside0.mk k2
            clear k0 k1 k2 hmk
            go_wp2_with (with_reducible refine wpList_copy_str rfl (.tmp 54) (.tmp 56) 49 9 rfl 5 Try.underlying49 size_u8 D r2.size r2.size r2 rfl rfl 5 K1.out rfl ?_)
            intro w10 hk10 hT10
            have l0 : w.heap.size < wr.heap.size := (Array.getElem?_eq_some_iff.1 HM.out).1
            obtain ⟨n1, n2, n3, n4⟩ := hDX
            have l1 : X < W9.heap.size := World.block_lt_of_cell? W9 ⟨X, 0, none⟩ q2.1
            have hMB : w10.heap[w.heap.size]? = some (.cells #[v] 46 (0, 0)) := (hT10.block _ (by omega) (by omega)).trans ((hB9.block _ l0).trans HM.out)
            have hX : w10.heap[X]? = W9.heap[X]? := hT10.block X l1 (fun e => n1 e.symm)
            have e0 : w10.cell? ⟨w.heap.size, 0, none⟩ = some v := (blk_cell hMB 0).trans rfl
            have e1 : w10.cell? ⟨X, 0, none⟩ = some (.int .u64 r0) := (World.cell?_of_block (w := W9) hX).trans q2.1
            have e2 : w10.cell? ⟨X, 1, none⟩ = some (.int .i64 r1) := (World.cell?_of_block (w := W9) hX).trans q2.2.1
            have e3 : w10.cell? ⟨X, 2, none⟩ = some (.slice (some ⟨D, 0, none⟩) r2.size r2.size) := (World.cell?_of_block (w := W9) hX).trans q2.2.2
            have hTT : Touch wr w10 D := (Touch.of_below D hB9).trans hT10
            have hTB : Below w.heap.size w w10 := hTT.below _ _ HB.out (by omega) (by omega)
            have hRr : Kd.R kdP 51 w10 w.heap.size (fun _ => True) v Q := by
              refine Kd.R_step HK.out (fun k _ hk => hTT.block k hk (by omega))
            have hDD : ∀ q, q ∈ Q ++ [(⟨r0, r1, bytesOf r2⟩, D)] → w.heap.size ≤ q.2 ∧ w10.heap[q.2]? = some (.cells (q.1.d.map (Value.int .u8)).toArray 5 (0, 0)) := by
              intro q hq
              rcases List.mem_append.1 hq with hq | hq
              · obtain ⟨a1, a2⟩ := HD.out q hq
                have a3 : q.2 < wr.heap.size := (Array.getElem?_eq_some_iff.1 a2).1
                exact ⟨a1, (hTT.block q.2 a3 (by omega)).trans a2⟩
              · rw [List.mem_singleton] at hq
                subst hq
                exact ⟨by simp only; omega, hk10⟩
            have hql : Q.length = i := by have := congrArg List.length HQ.out; simp at this; omega
            have hnd : ∀ q, q ∈ Q → q.2 ≠ D := fun q hq e => by
              have a3 : q.2 < wr.heap.size := (Array.getElem?_eq_some_iff.1 (HD.out q hq).2).1
              omega
            have HND := Aside0.mk hnd
            clear hnd
            have HQL := Aside0.mk (show Q.length < 1000 by omega)
            have HDD := Aside0.mk hDD
            clear hDD hql
            have HM10 := Aside0.mk hMB
            have HR10 := Aside0.mk hRr
            have HB10 := Aside0.mk hTB
            clear hk10 hT10 hMB hX hRr hTT hTB q0 q2 K1 hB9 hs9 l1 n1 n2
            go_wp2
            have hB11 := below_drew1 HB10.out
            have hR11 := Kd.R_drew HR10.out
            refine start_ (n := 11) (S := fun w' => w'.cell? ⟨w.heap.size, 0, none⟩ = some v ∧ (w'.cell? ⟨X, 0, none⟩ = some (.int .u64 r0) ∧ w'.cell? ⟨X, 1, none⟩ = some (.int .i64 r1) ∧ w'.cell? ⟨X, 2, none⟩ = some (.slice (some ⟨D, 0, none⟩) r2.size r2.size))) (ds := [7, 10]) #[false, false, false, false, false, false, false, false, false, false, false] (by kernel_rfl) rfl rfl ⟨e0, e1, e2, e3⟩ (fun hHeld => ?_)
            have hD11 := HDD.out; have hM11 := HM10.out; generalize hw11 : w10.drew = w11 at hB11 hR11 hHeld ⊢; have hh11 : w11.heap = w10.heap := by rw [← hw11]; rfl
            rw [← hh11] at hM11
            simp only [← hh11] at hD11
            have HD11 := Aside0.mk hD11
            have HM11 := Aside0.mk hM11
            have HB11 := Aside0.mk hB11
            have HR11 := Aside0.mk hR11
            clear hD11 hM11 hB11 hR11 hw11 hh11 e0 e1 e2 e3
            refine pure_ (i := 0) (N := some 58) (v := ?_) (a' := ?_) #[true, false, false, false, false, false, false, false, false, false, false] rfl rfl (by kernel_rfl) (fun _ _ _ h => h) (Or.inl ⟨by rfl, ?_⟩) ?_ ?_
            rotate_left
            · intro w'
              go_simp
              with_reducible rfl
            rotate_left
            · simp only [Act.put, List.setIfInBounds_toArray, List.set_cons_zero, List.set_cons_succ, i64_w, i32_w]
              rfl
            refine pure_ (i := 1) (N := some 59) (v := ?_) (a' := ?_) #[true, true, false, false, false, false, false, false, false, false, false] rfl rfl (by kernel_rfl) (fun _ _ _ h => h) (Or.inl ⟨by rfl, ?_⟩) ?_ ?_
            rotate_left
            · intro w'
              go_simp
              with_reducible rfl
            rotate_left
            · simp only [Act.put, List.setIfInBounds_toArray, List.set_cons_zero, List.set_cons_succ, i64_w, i32_w]
              rfl
            refine pure_ (i := 2) (N := some 60) (v := ?_) (a' := ?_) #[true, true, true, false, false, false, false, false, false, false, false] rfl rfl (by kernel_rfl) (fun _ _ _ h => h) (Or.inl ⟨by rfl, ?_⟩) ?_ ?_
            rotate_left
            · intro w'
              go_simp
              with_reducible rfl
            rotate_left
            · simp only [Act.put, List.setIfInBounds_toArray, List.set_cons_zero, List.set_cons_succ, i64_w, i32_w]
              rfl
            refine pure_ (i := 3) (N := some 61) (v := ?_) (a' := ?_) #[true, true, true, true, false, false, false, false, false, false, false] rfl rfl (by kernel_rfl) (fun _ _ _ h => h) (Or.inl ⟨by rfl, ?_⟩) ?_ ?_
            rotate_left
            · intro w'
              go_simp
              with_reducible rfl
            rotate_left
            · simp only [Act.put, List.setIfInBounds_toArray, List.set_cons_zero, List.set_cons_succ, i64_w, i32_w]
              rfl
            refine take_ (i := 4) (N := some 62) (v := ?_) (a' := ?_) #[true, true, true, true, true, false, false, false, false, false, false] rfl rfl (by kernel_rfl) (fun _ _ _ h => h) (Or.inl ⟨by rfl, ?_⟩) hHeld ?_ ?_
            rotate_left
            · rintro w' ⟨g0, g1, g2, g3⟩
              go_simp
              with_reducible rfl
            rotate_left
            · simp only [Act.put, List.setIfInBounds_toArray, List.set_cons_zero, List.set_cons_succ, i64_w, i32_w]
              rfl
            refine take_ (i := 5) (N := some 63) (v := ?_) (a' := ?_) #[true, true, true, true, true, true, false, false, false, false, false] rfl rfl (by kernel_rfl) (fun _ _ _ h => h) (Or.inl ⟨by rfl, ?_⟩) hHeld ?_ ?_
            rotate_left
            · rintro w' ⟨g0, g1, g2, g3⟩
              go_simp
              with_reducible rfl
            rotate_left
            · simp only [Act.put, List.setIfInBounds_toArray, List.set_cons_zero, List.set_cons_succ, i64_w, i32_w]
              rfl
            refine one_ (i := 6) (N := some 64) #[true, true, true, true, true, true, true, false, false, false, false] rfl rfl (by kernel_rfl) (by decide) (fun K hK => ?_)
            rw [if_pos (by rfl)]
            unfold Oper.wp
            go_simp
            refine hK.out _ _ ⟨pw_cell_below (below_alloc (Below.refl _ _) _) hHeld.1, pw_cell_below (below_alloc (Below.refl _ _) _) hHeld.2.1, pw_cell_below (below_alloc (Below.refl _ _) _) hHeld.2.2.1, pw_cell_below (below_alloc (Below.refl _ _) _) hHeld.2.2.2⟩ (fun hHeld => ?_)
            clear hK K
            refine last_ (i := 7) (N := some 65) #[true, true, true, true, true, true, true, true, false, false, false] rfl rfl (by kernel_rfl) (by decide) (fun K hK => ?_)
            refine Kd.R_append_step kdP (w0 := w) w.heap.size (by rfl) (.tmp 62) (.tmp 64) 44 51 (.agg #[.int .u64 0, .int .i64 0, .slice none 0 0]) 40 rfl Try.underlying44 info_part rfl (by decide) (by omega) v Q (⟨r0, r1, bytesOf r2⟩, D) [.int .u64 r0, .int .i64 r1, .slice (some ⟨D, 0, none⟩) r2.size r2.size] (fun _ => True) (fun _ => False) rfl rfl ?aP (fun _ hk => hk.elim) (fun _ _ => trivial) HR11.out HB11.out (below_size HB11.out) ?aL ?_
            case aP => show _ = encM _; unfold encM; simp only [bytesOf_length]
            case aL => have := HQL.out; omega
            intro v1 w12 ho hb hg hat
            have hMD := part_grown (w := w) HR11.out HM11.out HD11.out hg
            obtain ⟨A1, c1, rfl⟩ := Kd.R_slice ho
            have hres := part_put (w := w) (Nat.le_refl _) ho hMD.1 hMD.2 hb
            have m0 : w12.cell? ⟨w.heap.size, 0, none⟩ = some v := (blk_cell hMD.1 0).trans rfl
            have m1 : w12.frozen? ⟨w.heap.size, 0, none⟩ = false := blk_frozen hMD.1 0
            have HRES := Aside0.mk hres
            clear ho hb hg hat hMD hres
            refine hK.out _ _ ?_
            clear hK K
            refine norm_ (a' := ?_) ?_ ?_
            rotate_left
            · show Act.put _ (some 65) _ = _
              simp only [Act.put, List.setIfInBounds_toArray, List.set_cons_zero, List.set_cons_succ, i64_w, i32_w]
              rfl
            refine pure_ (i := 8) (N := some 66) (v := ?_) (a' := ?_) #[true, true, true, true, true, true, true, true, true, false, false] rfl rfl (by kernel_rfl) (fun _ _ _ h => h) (Or.inl ⟨by rfl, ?_⟩) ?_ ?_
            rotate_left
            · intro w'
              go_simp
              with_reducible rfl
            rotate_left
            · simp only [Act.put, List.setIfInBounds_toArray, List.set_cons_zero, List.set_cons_succ, i64_w, i32_w]
              rfl
            refine pure_ (i := 9) (N := some 67) (v := ?_) (a' := ?_) #[true, true, true, true, true, true, true, true, true, true, false] rfl rfl (by kernel_rfl) (fun _ _ _ h => h) (Or.inl ⟨by rfl, ?_⟩) ?_ ?_
            rotate_left
            · intro w'
              go_simp
              with_reducible rfl
            rotate_left
            · simp only [Act.put, List.setIfInBounds_toArray, List.set_cons_zero, List.set_cons_succ, i64_w, i32_w]
              rfl
            refine last_ (i := 10) (N := none) #[true, true, true, true, true, true, true, true, true, true, true] rfl rfl (by kernel_rfl) (by decide) (fun K hK => ?_)
            rw [if_pos (by rfl)]
            unfold Oper.wp
            go_simp
            refine hK.out _ _ ?_
            clear hK K
            refine done_ (by kernel_rfl) ?_
            go_wp2
            go_roundg kq
            case measure => omega
            case rel =>
              obtain ⟨p1, p2, p3, p4⟩ := HRES.out
              have hll : (Q ++ [((⟨r0, r1, bytesOf r2⟩ : MP), D)]).length = Q.length + 1 := by simp
              rw [hll] at p1 p2 p3 p4
              refine ⟨i + 1, Q ++ [(⟨r0, r1, bytesOf r2⟩, D)], _, ?_, rfl, by have := HIK.out; omega, ⟨p1⟩, ⟨p2⟩, ⟨p3⟩, ⟨?_⟩, ⟨?_⟩, ⟨p4⟩, ⟨fun h => absurd h (by simp)⟩⟩
              · rw [take_snoc_ HRI.out, List.any_append, HF.out]
                simp [farR, e1]
              · exact nodup_snoc_ HA.out HND.out
              · rw [take_snoc_ HRI.out, List.map_append, List.map_append, HQ.out]
                rfl
      · obtain ⟨e, e1⟩ : ∃ e : Bool, decide (r0 > 4611686018427387904) = e := ⟨_, rfl⟩
        have E1 := Aside0.mk e1
        clear e1
        go_wp2
        go_region
        · obtain ⟨W9, hW, k0, k1, k2, hB9, hs9⟩ := alloc3_ wr (.cells #[.int .u64 r0, .int .i64 r1, .string r2] 37) (.cells (zerosA r2.size) 5) (.cells #[.int .u64 r0, .int .i64 r1, .slice (some ⟨wr.heap.size + 1, 0, none⟩) r2.size r2.size] 51)
          rw [← hW]
          clear hW
          obtain ⟨D, hD⟩ : ∃ D, D = wr.heap.size + 1 := ⟨_, rfl⟩
          obtain ⟨X, hX⟩ : ∃ X, X = wr.heap.size + 1 + 1 := ⟨_, rfl⟩
          obtain ⟨Y, hY⟩ : ∃ Y, Y = wr.heap.size := ⟨_, rfl⟩
          have hDX : D ≠ X ∧ Y ≠ D ∧ wr.heap.size ≤ D ∧ wr.heap.size ≤ Y := by omega
          simp only [← hX] at k2 ⊢
          simp only [← hD] at k1 k2 ⊢
          simp only [← hY] at k0 ⊢
          clear hX hD hY
          have q0 := cells3_ k0
          have q2 := cells3_ k2
          have K1 := Aside0.mk k1
          clear k0 k1 k2 hmk
          go_wp2_with (with_reducible refine wpList_copy_str rfl (.tmp 54) (.tmp 56) 49 9 rfl 5 Try.underlying49 size_u8 D r2.size r2.size r2 rfl rfl 5 K1.out rfl ?_)
          intro w10 hk10 hT10
          have l0 : w.heap.size < wr.heap.size := (Array.getElem?_eq_some_iff.1 HM.out).1
          obtain ⟨n1, n2, n3, n4⟩ := hDX
          have l1 : X < W9.heap.size := World.block_lt_of_cell? W9 ⟨X, 0, none⟩ q2.1
          have hMB : w10.heap[w.heap.size]? = some (.cells #[v] 46 (0, 0)) := (hT10.block _ (by omega) (by omega)).trans ((hB9.block _ l0).trans HM.out)
          have hX : w10.heap[X]? = W9.heap[X]? := hT10.block X l1 (fun e => n1 e.symm)
          have e0 : w10.cell? ⟨w.heap.size, 0, none⟩ = some v := (blk_cell hMB 0).trans rfl
          have e1 : w10.cell? ⟨X, 0, none⟩ = some (.int .u64 r0) := (World.cell?_of_block (w := W9) hX).trans q2.1
          have e2 : w10.cell? ⟨X, 1, none⟩ = some (.int .i64 r1) := (World.cell?_of_block (w := W9) hX).trans q2.2.1
          have e3 : w10.cell? ⟨X, 2, none⟩ = some (.slice (some ⟨D, 0, none⟩) r2.size r2.size) := (World.cell?_of_block (w := W9) hX).trans q2.2.2
          have hTT : Touch wr w10 D := (Touch.of_below D hB9).trans hT10
          have hTB : Below w.heap.size w w10 := hTT.below _ _ HB.out (by omega) (by omega)
          have hRr : Kd.R kdP 51 w10 w.heap.size (fun _ => True) v Q := by
            refine Kd.R_step HK.out (fun k _ hk => hTT.block k hk (by omega))
          have hDD : ∀ q, q ∈ Q ++ [(⟨r0, r1, bytesOf r2⟩, D)] → w.heap.size ≤ q.2 ∧ w10.heap[q.2]? = some (.cells (q.1.d.map (Value.int .u8)).toArray 5 (0, 0)) := by
            intro q hq
            rcases List.mem_append.1 hq with hq | hq
            · obtain ⟨a1, a2⟩ := HD.out q hq
              have a3 : q.2 < wr.heap.size := (Array.getElem?_eq_some_iff.1 a2).1
              exact ⟨a1, (hTT.block q.2 a3 (by omega)).trans a2⟩
            · rw [List.mem_singleton] at hq
              subst hq
              exact ⟨by simp only; omega, hk10⟩
          have hql : Q.length = i := by have := congrArg List.length HQ.out; simp at this; omega
          have hnd : ∀ q, q ∈ Q → q.2 ≠ D := fun q hq e => by
            have a3 : q.2 < wr.heap.size := (Array.getElem?_eq_some_iff.1 (HD.out q hq).2).1
            omega
          have HND := Aside0.mk hnd
          clear hnd
          have HQL := Aside0.mk (show Q.length < 1000 by omega)
          have HDD := Aside0.mk hDD
          clear hDD hql
          have HM10 := Aside0.mk hMB
          have HR10 := Aside0.mk hRr
          have HB10 := Aside0.mk hTB
          clear hk10 hT10 hMB hX hRr hTT hTB q0 q2 K1 hB9 hs9 l1 n1 n2
          go_wp2
          have hB11 := below_drew1 HB10.out
          have hR11 := Kd.R_drew HR10.out
          refine start_ (n := 11) (S := fun w' => w'.cell? ⟨w.heap.size, 0, none⟩ = some v ∧ (w'.cell? ⟨X, 0, none⟩ = some (.int .u64 r0) ∧ w'.cell? ⟨X, 1, none⟩ = some (.int .i64 r1) ∧ w'.cell? ⟨X, 2, none⟩ = some (.slice (some ⟨D, 0, none⟩) r2.size r2.size))) (ds := [7, 10]) #[false, false, false, false, false, false, false, false, false, false, false] (by kernel_rfl) rfl rfl ⟨e0, e1, e2, e3⟩ (fun hHeld => ?_)
          have hD11 := HDD.out; have hM11 := HM10.out; generalize hw11 : w10.drew = w11 at hB11 hR11 hHeld ⊢; have hh11 : w11.heap = w10.heap := by rw [← hw11]; rfl
          rw [← hh11] at hM11
          simp only [← hh11] at hD11
          have HD11 := Aside0.mk hD11
          have HM11 := Aside0.mk hM11
          have HB11 := Aside0.mk hB11
          have HR11 := Aside0.mk hR11
          clear hD11 hM11 hB11 hR11 hw11 hh11 e0 e1 e2 e3
          refine pure_ (i := 0) (N := some 58) (v := ?_) (a' := ?_) #[true, false, false, false, false, false, false, false, false, false, false] rfl rfl (by kernel_rfl) (fun _ _ _ h => h) (Or.inl ⟨by rfl, ?_⟩) ?_ ?_
          rotate_left
          · intro w'
            go_simp
            with_reducible rfl
          rotate_left
          · simp only [Act.put, List.setIfInBounds_toArray, List.set_cons_zero, List.set_cons_succ, i64_w, i32_w]
            rfl
          refine pure_ (i := 1) (N := some 59) (v := ?_) (a' := ?_) #[true, true, false, false, false, false, false, false, false, false, false] rfl rfl (by kernel_rfl) (fun _ _ _ h => h) (Or.inl ⟨by rfl, ?_⟩) ?_ ?_
          rotate_left
          · intro w'
            go_simp
            with_reducible rfl
          rotate_left
          · simp only [Act.put, List.setIfInBounds_toArray, List.set_cons_zero, List.set_cons_succ, i64_w, i32_w]
            rfl
          refine pure_ (i := 2) (N := some 60) (v := ?_) (a' := ?_) #[true, true, true, false, false, false, false, false, false, false, false] rfl rfl (by kernel_rfl) (fun _ _ _ h => h) (Or.inl ⟨by rfl, ?_⟩) ?_ ?_
          rotate_left
          · intro w'
            go_simp
            with_reducible rfl
          rotate_left
          · simp only [Act.put, List.setIfInBounds_toArray, List.set_cons_zero, List.set_cons_succ, i64_w, i32_w]
            rfl
          refine pure_ (i := 3) (N := some 61) (v := ?_) (a' := ?_) #[true, true, true, true, false, false, false, false, false, false, false] rfl rfl (by kernel_rfl) (fun _ _ _ h => h) (Or.inl ⟨by rfl, ?_⟩) ?_ ?_
          rotate_left
          · intro w'
            go_simp
            with_reducible rfl
          rotate_left
          · simp only [Act.put, List.setIfInBounds_toArray, List.set_cons_zero, List.set_cons_succ, i64_w, i32_w]
            rfl
          refine take_ (i := 4) (N := some 62) (v := ?_) (a' := ?_) #[true, true, true, true, true, false, false, false, false, false, false] rfl rfl (by kernel_rfl) (fun _ _ _ h => h) (Or.inl ⟨by rfl, ?_⟩) hHeld ?_ ?_
          rotate_left
          · rintro w' ⟨g0, g1, g2, g3⟩
            go_simp
            with_reducible rfl
          rotate_left
          · simp only [Act.put, List.setIfInBounds_toArray, List.set_cons_zero, List.set_cons_succ, i64_w, i32_w]
            rfl
          refine take_ (i := 5) (N := some 63) (v := ?_) (a' := ?_) #[true, true, true, true, true, true, false, false, false, false, false] rfl rfl (by kernel_rfl) (fun _ _ _ h => h) (Or.inl ⟨by rfl, ?_⟩) hHeld ?_ ?_
          rotate_left
          · rintro w' ⟨g0, g1, g2, g3⟩
            go_simp
            with_reducible rfl
          rotate_left
          · simp only [Act.put, List.setIfInBounds_toArray, List.set_cons_zero, List.set_cons_succ, i64_w, i32_w]
            rfl
          refine one_ (i := 6) (N := some 64) #[true, true, true, true, true, true, true, false, false, false, false] rfl rfl (by kernel_rfl) (by decide) (fun K hK => ?_)
          rw [if_pos (by rfl)]
          unfold Oper.wp
          go_simp
          refine hK.out _ _ ⟨pw_cell_below (below_alloc (Below.refl _ _) _) hHeld.1, pw_cell_below (below_alloc (Below.refl _ _) _) hHeld.2.1, pw_cell_below (below_alloc (Below.refl _ _) _) hHeld.2.2.1, pw_cell_below (below_alloc (Below.refl _ _) _) hHeld.2.2.2⟩ (fun hHeld => ?_)
          clear hK K
          refine last_ (i := 7) (N := some 65) #[true, true, true, true, true, true, true, true, false, false, false] rfl rfl (by kernel_rfl) (by decide) (fun K hK => ?_)
          refine Kd.R_append_step kdP (w0 := w) w.heap.size (by rfl) (.tmp 62) (.tmp 64) 44 51 (.agg #[.int .u64 0, .int .i64 0, .slice none 0 0]) 40 rfl Try.underlying44 info_part rfl (by decide) (by omega) v Q (⟨r0, r1, bytesOf r2⟩, D) [.int .u64 r0, .int .i64 r1, .slice (some ⟨D, 0, none⟩) r2.size r2.size] (fun _ => True) (fun _ => False) rfl rfl ?aP (fun _ hk => hk.elim) (fun _ _ => trivial) HR11.out HB11.out (below_size HB11.out) ?aL ?_
          case aP => show _ = encM _; unfold encM; simp only [bytesOf_length]
          case aL => have := HQL.out; omega
          intro v1 w12 ho hb hg hat
          have hMD := part_grown (w := w) HR11.out HM11.out HD11.out hg
          obtain ⟨A1, c1, rfl⟩ := Kd.R_slice ho
          have hres := part_put (w := w) (Nat.le_refl _) ho hMD.1 hMD.2 hb
          have m0 : w12.cell? ⟨w.heap.size, 0, none⟩ = some v := (blk_cell hMD.1 0).trans rfl
          have m1 : w12.frozen? ⟨w.heap.size, 0, none⟩ = false := blk_frozen hMD.1 0
          have HRES := Aside0.mk hres
          clear ho hb hg hat hMD hres
          refine hK.out _ _ ?_
          clear hK K
          refine norm_ (a' := ?_) ?_ ?_
          rotate_left
          · show Act.put _ (some 65) _ = _
            simp only [Act.put, List.setIfInBounds_toArray, List.set_cons_zero, List.set_cons_succ, i64_w, i32_w]
            rfl
          refine pure_ (i := 8) (N := some 66) (v := ?_) (a' := ?_) #[true, true, true, true, true, true, true, true, true, false, false] rfl rfl (by kernel_rfl) (fun _ _ _ h => h) (Or.inl ⟨by rfl, ?_⟩) ?_ ?_
          rotate_left
          · intro w'
            go_simp
            with_reducible rfl
          rotate_left
          · simp only [Act.put, List.setIfInBounds_toArray, List.set_cons_zero, List.set_cons_succ, i64_w, i32_w]
            rfl
          refine pure_ (i := 9) (N := some 67) (v := ?_) (a' := ?_) #[true, true, true, true, true, true, true, true, true, true, false] rfl rfl (by kernel_rfl) (fun _ _ _ h => h) (Or.inl ⟨by rfl, ?_⟩) ?_ ?_
          rotate_left
          · intro w'
            go_simp
            with_reducible rfl
          rotate_left
          · simp only [Act.put, List.setIfInBounds_toArray, List.set_cons_zero, List.set_cons_succ, i64_w, i32_w]
            rfl
          refine last_ (i := 10) (N := none) #[true, true, true, true, true, true, true, true, true, true, true] rfl rfl (by kernel_rfl) (by decide) (fun K hK => ?_)
          rw [if_pos (by rfl)]
          unfold Oper.wp
          go_simp
          refine hK.out _ _ ?_
          clear hK K
          refine done_ (by kernel_rfl) ?_
          go_wp2
          go_roundg kq
          case measure => omega
          case rel =>
            obtain ⟨p1, p2, p3, p4⟩ := HRES.out
            have hll : (Q ++ [((⟨r0, r1, bytesOf r2⟩ : MP), D)]).length = Q.length + 1 := by simp
            rw [hll] at p1 p2 p3 p4
            refine ⟨i + 1, Q ++ [(⟨r0, r1, bytesOf r2⟩, D)], _, ?_, rfl, by have := HIK.out; omega, ⟨p1⟩, ⟨p2⟩, ⟨p3⟩, ⟨?_⟩, ⟨?_⟩, ⟨p4⟩, ⟨fun h => absurd h (by simp)⟩⟩
            · rw [take_snoc_ HRI.out, List.any_append, HF.out]
              simp
            · exact nodup_snoc_ HA.out HND.out
            · rw [take_snoc_ HRI.out, List.map_append, List.map_append, HQ.out]
              rfl
        · obtain ⟨W9, hW, k0, k1, k2, hB9, hs9⟩ := alloc3_ wr (.cells #[.int .u64 r0, .int .i64 r1, .string r2] 37) (.cells #[.int .u64 r0, .int .i64 r1, .slice (some ⟨wr.heap.size + 1 + 1, 0, none⟩) r2.size r2.size] 51) (.cells (zerosA r2.size) 5)
          rw [← hW]
          clear hW
          obtain ⟨D, hD⟩ : ∃ D, D = wr.heap.size + 1 + 1 := ⟨_, rfl⟩
          obtain ⟨X, hX⟩ : ∃ X, X = wr.heap.size + 1 := ⟨_, rfl⟩
          obtain ⟨Y, hY⟩ : ∃ Y, Y = wr.heap.size := ⟨_, rfl⟩
          have hDX : D ≠ X ∧ Y ≠ D ∧ wr.heap.size ≤ D ∧ wr.heap.size ≤ Y := by omega
          simp only [← hD] at k1 k2 ⊢
          simp only [← hX] at k1 ⊢
          simp only [← hY] at k0 ⊢
          clear hX hD hY
          have q0 := cells3_ k0
          have q2 := cells3_ k1
          have K1 := Aside0.mk k2
          clear k0 k1 k2 hmk
          go_wp2_with (with_reducible refine wpList_copy_str rfl (.tmp 54) (.tmp 56) 49 9 rfl 5 Try.underlying49 size_u8 D r2.size r2.size r2 rfl rfl 5 K1.out rfl ?_)
          intro w10 hk10 hT10
          have l0 : w.heap.size < wr.heap.size := (Array.getElem?_eq_some_iff.1 HM.out).1
          obtain ⟨n1, n2, n3, n4⟩ := hDX
          have l1 : X < W9.heap.size := World.block_lt_of_cell? W9 ⟨X, 0, none⟩ q2.1
          have hMB : w10.heap[w.heap.size]? = some (.cells #[v] 46 (0, 0)) := (hT10.block _ (by omega) (by omega)).trans ((hB9.block _ l0).trans HM.out)
          have hX : w10.heap[X]? = W9.heap[X]? := hT10.block X l1 (fun e => n1 e.symm)
          have e0 : w10.cell? ⟨w.heap.size, 0, none⟩ = some v := (blk_cell hMB 0).trans rfl
          have e1 : w10.cell? ⟨X, 0, none⟩ = some (.int .u64 r0) := (World.cell?_of_block (w := W9) hX).trans q2.1
          have e2 : w10.cell? ⟨X, 1, none⟩ = some (.int .i64 r1) := (World.cell?_of_block (w := W9) hX).trans q2.2.1
          have e3 : w10.cell? ⟨X, 2, none⟩ = some (.slice (some ⟨D, 0, none⟩) r2.size r2.size) := (World.cell?_of_block (w := W9) hX).trans q2.2.2
          have hTT : Touch wr w10 D := (Touch.of_below D hB9).trans hT10
          have hTB : Below w.heap.size w w10 := hTT.below _ _ HB.out (by omega) (by omega)
          have hRr : Kd.R kdP 51 w10 w.heap.size (fun _ => True) v Q := by
            refine Kd.R_step HK.out (fun k _ hk => hTT.block k hk (by omega))
          have hDD : ∀ q, q ∈ Q ++ [(⟨r0, r1, bytesOf r2⟩, D)] → w.heap.size ≤ q.2 ∧ w10.heap[q.2]? = some (.cells (q.1.d.map (Value.int .u8)).toArray 5 (0, 0)) := by
            intro q hq
            rcases List.mem_append.1 hq with hq | hq
            · obtain ⟨a1, a2⟩ := HD.out q hq
              have a3 : q.2 < wr.heap.size := (Array.getElem?_eq_some_iff.1 a2).1
              exact ⟨a1, (hTT.block q.2 a3 (by omega)).trans a2⟩
            · rw [List.mem_singleton] at hq
              subst hq
              exact ⟨by simp only; omega, hk10⟩
          have hql : Q.length = i := by have := congrArg List.length HQ.out; simp at this; omega
          have hnd : ∀ q, q ∈ Q → q.2 ≠ D := fun q hq e => by
            have a3 : q.2 < wr.heap.size := (Array.getElem?_eq_some_iff.1 (HD.out q hq).2).1
            omega
          have HND := Aside0.mk hnd
          clear hnd
          have HQL := Aside0.mk (show Q.length < 1000 by omega)
          have HDD := Aside0.mk hDD
          clear hDD hql
          have HM10 := Aside0.mk hMB
          have HR10 := Aside0.mk hRr
          have HB10 := Aside0.mk hTB
          clear hk10 hT10 hMB hX hRr hTT hTB q0 q2 K1 hB9 hs9 l1 n1 n2
          go_wp2
          have hB11 := below_drew1 HB10.out
          have hR11 := Kd.R_drew HR10.out
          refine start_ (n := 11) (S := fun w' => w'.cell? ⟨w.heap.size, 0, none⟩ = some v ∧ (w'.cell? ⟨X, 0, none⟩ = some (.int .u64 r0) ∧ w'.cell? ⟨X, 1, none⟩ = some (.int .i64 r1) ∧ w'.cell? ⟨X, 2, none⟩ = some (.slice (some ⟨D, 0, none⟩) r2.size r2.size))) (ds := [7, 10]) #[false, false, false, false, false, false, false, false, false, false, false] (by kernel_rfl) rfl rfl ⟨e0, e1, e2, e3⟩ (fun hHeld => ?_)
          have hD11 := HDD.out; have hM11 := HM10.out; generalize hw11 : w10.drew = w11 at hB11 hR11 hHeld ⊢; have hh11 : w11.heap = w10.heap := by rw [← hw11]; rfl
          rw [← hh11] at hM11
          simp only [← hh11] at hD11
          have HD11 := Aside0.mk hD11
          have HM11 := Aside0.mk hM11
          have HB11 := Aside0.mk hB11
          have HR11 := Aside0.mk hR11
          clear hD11 hM11 hB11 hR11 hw11 hh11 e0 e1 e2 e3
          refine pure_ (i := 0) (N := some 58) (v := ?_) (a' := ?_) #[true, false, false, false, false, false, false, false, false, false, false] rfl rfl (by kernel_rfl) (fun _ _ _ h => h) (Or.inl ⟨by rfl, ?_⟩) ?_ ?_
          rotate_left
          · intro w'
            go_simp
            with_reducible rfl
          rotate_left
          · simp only [Act.put, List.setIfInBounds_toArray, List.set_cons_zero, List.set_cons_succ, i64_w, i32_w]
            rfl
          refine pure_ (i := 1) (N := some 59) (v := ?_) (a' := ?_) #[true, true, false, false, false, false, false, false, false, false, false] rfl rfl (by kernel_rfl) (fun _ _ _ h => h) (Or.inl ⟨by rfl, ?_⟩) ?_ ?_
          rotate_left
          · intro w'
            go_simp
            with_reducible rfl
          rotate_left
          · simp only [Act.put, List.setIfInBounds_toArray, List.set_cons_zero, List.set_cons_succ, i64_w, i32_w]
            rfl
          refine pure_ (i := 2) (N := some 60) (v := ?_) (a' := ?_) #[true, true, true, false, false, false, false, false, false, false, false] rfl rfl (by kernel_rfl) (fun _ _ _ h => h) (Or.inl ⟨by rfl, ?_⟩) ?_ ?_
          rotate_left
          · intro w'
            go_simp
            with_reducible rfl
          rotate_left
          · simp only [Act.put, List.setIfInBounds_toArray, List.set_cons_zero, List.set_cons_succ, i64_w, i32_w]
            rfl
          refine pure_ (i := 3) (N := some 61) (v := ?_) (a' := ?_) #[true, true, true, true, false, false, false, false, false, false, false] rfl rfl (by kernel_rfl) (fun _ _ _ h => h) (Or.inl ⟨by rfl, ?_⟩) ?_ ?_
          rotate_left
          · intro w'
            go_simp
            with_reducible rfl
          rotate_left
          · simp only [Act.put, List.setIfInBounds_toArray, List.set_cons_zero, List.set_cons_succ, i64_w, i32_w]
            rfl
          refine take_ (i := 4) (N := some 62) (v := ?_) (a' := ?_) #[true, true, true, true, true, false, false, false, false, false, false] rfl rfl (by kernel_rfl) (fun _ _ _ h => h) (Or.inl ⟨by rfl, ?_⟩) hHeld ?_ ?_
          rotate_left
          · rintro w' ⟨g0, g1, g2, g3⟩
            go_simp
            with_reducible rfl
          rotate_left
          · simp only [Act.put, List.setIfInBounds_toArray, List.set_cons_zero, List.set_cons_succ, i64_w, i32_w]
            rfl
          refine take_ (i := 5) (N := some 63) (v := ?_) (a' := ?_) #[true, true, true, true, true, true, false, false, false, false, false] rfl rfl (by kernel_rfl) (fun _ _ _ h => h) (Or.inl ⟨by rfl, ?_⟩) hHeld ?_ ?_
          rotate_left
          · rintro w' ⟨g0, g1, g2, g3⟩
            go_simp
            with_reducible rfl
          rotate_left
          · simp only [Act.put, List.setIfInBounds_toArray, List.set_cons_zero, List.set_cons_succ, i64_w, i32_w]
            rfl
          refine one_ (i := 6) (N := some 64) #[true, true, true, true, true, true, true, false, false, false, false] rfl rfl (by kernel_rfl) (by decide) (fun K hK => ?_)
          rw [if_pos (by rfl)]
          unfold Oper.wp
          go_simp
          refine hK.out _ _ ⟨pw_cell_below (below_alloc (Below.refl _ _) _) hHeld.1, pw_cell_below (below_alloc (Below.refl _ _) _) hHeld.2.1, pw_cell_below (below_alloc (Below.refl _ _) _) hHeld.2.2.1, pw_cell_below (below_alloc (Below.refl _ _) _) hHeld.2.2.2⟩ (fun hHeld => ?_)
          clear hK K
          refine last_ (i := 7) (N := some 65) #[true, true, true, true, true, true, true, true, false, false, false] rfl rfl (by kernel_rfl) (by decide) (fun K hK => ?_)
          refine Kd.R_append_step kdP (w0 := w) w.heap.size (by rfl) (.tmp 62) (.tmp 64) 44 51 (.agg #[.int .u64 0, .int .i64 0, .slice none 0 0]) 40 rfl Try.underlying44 info_part rfl (by decide) (by omega) v Q (⟨r0, r1, bytesOf r2⟩, D) [.int .u64 r0, .int .i64 r1, .slice (some ⟨D, 0, none⟩) r2.size r2.size] (fun _ => True) (fun _ => False) rfl rfl ?aP (fun _ hk => hk.elim) (fun _ _ => trivial) HR11.out HB11.out (below_size HB11.out) ?aL ?_
          case aP => show _ = encM _; unfold encM; simp only [bytesOf_length]
          case aL => have := HQL.out; omega
          intro v1 w12 ho hb hg hat
          have hMD := part_grown (w := w) HR11.out HM11.out HD11.out hg
          obtain ⟨A1, c1, rfl⟩ := Kd.R_slice ho
          have hres := part_put (w := w) (Nat.le_refl _) ho hMD.1 hMD.2 hb
          have m0 : w12.cell? ⟨w.heap.size, 0, none⟩ = some v := (blk_cell hMD.1 0).trans rfl
          have m1 : w12.frozen? ⟨w.heap.size, 0, none⟩ = false := blk_frozen hMD.1 0
          have HRES := Aside0.mk hres
          clear ho hb hg hat hMD hres
          refine hK.out _ _ ?_
          clear hK K
          refine norm_ (a' := ?_) ?_ ?_
          rotate_left
          · show Act.put _ (some 65) _ = _
            simp only [Act.put, List.setIfInBounds_toArray, List.set_cons_zero, List.set_cons_succ, i64_w, i32_w]
            rfl
          refine pure_ (i := 8) (N := some 66) (v := ?_) (a' := ?_) #[true, true, true, true, true, true, true, true, true, false, false] rfl rfl (by kernel_rfl) (fun _ _ _ h => h) (Or.inl ⟨by rfl, ?_⟩) ?_ ?_
          rotate_left
          · intro w'
            go_simp
            with_reducible rfl
          rotate_left
          · simp only [Act.put, List.setIfInBounds_toArray, List.set_cons_zero, List.set_cons_succ, i64_w, i32_w]
            rfl
          refine pure_ (i := 9) (N := some 67) (v := ?_) (a' := ?_) #[true, true, true, true, true, true, true, true, true, true, false] rfl rfl (by kernel_rfl) (fun _ _ _ h => h) (Or.inl ⟨by rfl, ?_⟩) ?_ ?_
          rotate_left
          · intro w'
            go_simp
            with_reducible rfl
          rotate_left
          · simp only [Act.put, List.setIfInBounds_toArray, List.set_cons_zero, List.set_cons_succ, i64_w, i32_w]
            rfl
          refine last_ (i := 10) (N := none) #[true, true, true, true, true, true, true, true, true, true, true] rfl rfl (by kernel_rfl) (by decide) (fun K hK => ?_)
          rw [if_pos (by rfl)]
          unfold Oper.wp
          go_simp
          refine hK.out _ _ ?_
          clear hK K
          refine done_ (by kernel_rfl) ?_
          go_wp2
          go_roundg kq
          case measure => omega
          case rel =>
            obtain ⟨p1, p2, p3, p4⟩ := HRES.out
            have hll : (Q ++ [((⟨r0, r1, bytesOf r2⟩ : MP), D)]).length = Q.length + 1 := by simp
            rw [hll] at p1 p2 p3 p4
            refine ⟨i + 1, Q ++ [(⟨r0, r1, bytesOf r2⟩, D)], _, ?_, rfl, by have := HIK.out; omega, ⟨p1⟩, ⟨p2⟩, ⟨p3⟩, ⟨?_⟩, ⟨?_⟩, ⟨p4⟩, ⟨fun h => absurd h (by simp)⟩⟩
            · rw [take_snoc_ HRI.out, List.any_append, HF.out]
              simp
            · exact nodup_snoc_ HA.out HND.out
            · rw [take_snoc_ HRI.out, List.map_append, List.map_append, HQ.out]
              rfl
theorem first_bad (l : List S37) : ∃ t, t ≤ l.length ∧ (∀ r, r ∈ l.take t → badR r = false) ∧ (t < l.length → ∃ r, l[t]? = some r ∧ badR r = true) := by
  induction l with
  | nil => exact ⟨0, Nat.le_refl _, fun r hr => by simp at hr, fun h => by simp at h⟩
  | cons x xs ih =>
    obtain ⟨t, h1, h2, h3⟩ := ih
    cases hx : badR x with
    | true => exact ⟨0, Nat.zero_le _, fun r hr => by simp at hr, fun _ => ⟨x, rfl, hx⟩⟩
    | false =>
      refine ⟨t + 1, by simp; omega, fun r hr => ?_, fun h => ?_⟩
      · rw [List.take_succ_cons] at hr
        rcases List.mem_cons.1 hr with rfl | hr
        · exact hx
        · exact h2 r hr
      · obtain ⟨r, e1, e2⟩ := h3 (by simp at h; omega)
        exact ⟨r, by simpa using e1, e2⟩
/-- New, by what its regions are. -/
theorem new_calls (w : World) (A0 : Option Addr) (c0 : Nat) (l : List S37) (hr0 : Kd.C k37 w A0 l.length l) (hc0 : l.length ≤ c0) (hl : l.length ≤ 1000) (hw : ∀ r, r ∈ l → 0 ≤ r.f0 ∧ r.f0 < 18446744073709551616) :
    Calls Try.prog 7 #[.slice A0 l.length c0] w (NewEnd l w) := by
  obtain ⟨t, h1, h2, h3⟩ := first_bad l
  exact new_any w A0 c0 l hr0 hc0 hl hw t h1 h2 h3
end Go.Proofs.Ytkpkkjbigndnoaa.MW
