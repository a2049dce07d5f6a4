/- Written for this claim by a program of this session: what the claim uses of lemmas and proved contracts of Go functions. -/
import Derived.Test.YtblnfngigdipcaaGreatDoorYSd10
import Derived.Lib.BufferWrite
import Derived.Laws.CopyOwn
set_option linter.unusedVariables false
set_option linter.unusedSimpArgs false
set_option maxHeartbeats 8000000
set_option maxRecDepth 100000
namespace Go.Proofs.YtblnfngigdipcaaGreatDoor.MW
open Go.RowKit Go.Proofs.YtblnfngigdipcaaGreatDoor.P Go.Proofs.YtblnfngigdipcaaGreatDoorW.PrintWords Go.Proofs.YtblnfngigdipcaaGreatDoorW.PrintLast Go.Proofs.YtblnfngigdipcaaGreatDoorW.PrintMore
def mpOf (r : S61) : MP := ⟨r.f0, r.f1, bytesOf r.f2⟩
def badR (r : S61) : Bool := decide (r.f1 < 1) || decide (r.f1 > 3) || decide (r.f2.size = 0) || decide (65536 < r.f2.size)
def farR (r : S61) : Bool := decide (r.f0 > 4611686018427387904)
def kdP : Kd (MP × Nat) where
 sz := 3
 E := []
 K := fun _ x cs => cs = encM x
 M := fun _ _ _ x cs => cs = encM x
 K_len := fun h => by rw [h]; rfl
 K_one := fun h u hu => by
  rw [h] at hu
  simp only [encM, List.mem_cons, List.not_mem_nil, or_false] at hu
  rcases hu with rfl | rfl | rfl <;> rfl
 K_below := fun _ h => h
 K_of_M := fun h => h
 M_mono := fun _ h => h
 M_bound := fun h => h
 M_move := fun _ h => h
 M_lower := fun _ h => h
theorem info_part : (Tryz.prog.info? 116).map (fun i => (i.zero, i.size, i.bytes)) = some (some (.agg #[.int .u64 0, .int .i64 0, .slice none 0 0]), 3, 40) := by kernel_rfl
theorem info_u8 : (Tryz.prog.info? 5).map (fun i => (i.zero, i.size, i.bytes)) = some (some (.int .u8 0), 1, 1) := by kernel_rfl
def zerosA (n : Nat) : Array Value := (List.replicate n (Value.int .u8 0)).toArray
theorem make_bytes (n : Nat) (hn : n ≤ 65536) (W : World) : (Instr.makeSlice 93 (.int .i64 (n : Int)) (.int .i64 (n : Int))).run Tryz.prog W = .ok (.slice (some ⟨W.heap.size, 0, none⟩) n n) (W.alloc (.cells (zerosA n) 5)) := by
 obtain ⟨i0, hi, hzz⟩ := Option.map_eq_some_iff.1 info_u8
 simp only [Prod.mk.injEq] at hzz
 obtain ⟨hz0, hz1, hz2⟩ := hzz
 have hr := run_make (P := Tryz.prog) W 93 5 i0 (.int .u8 0) Tryz.underlying93 hi hz0 .i64 .i64 (n : Int) (n : Int) (by omega) (by omega) (by rw [hz2]; omega) (by omega)
 simp only [Int.toNat_natCast] at hr
 rw [hr, hz1]
 congr 3
 have hc : (Value.int .u8 0).cells = #[.int .u8 0] := rfl
 unfold zerosA madeCells
 rw [hc]
 apply Array.ext
 ·simp
 ·intro i h1 h2
  simp [Nat.mod_one]
theorem top_ (w : World) (o : Obj) : (w.alloc o).heap[w.heap.size]? = some o := by
 show (w.heap.push o)[w.heap.size]? = some o
 simp
theorem wpList_copy_str {P : Program} {w : World} {ops : Array Oper} {rest : List Oper} {o : Oper} {a : Act} {Q : Exit → Act → World → Prop} (hgd : o.guard = none) (d s : Operand) (dT sT : TypeId)
  (ho : o.op = .call { callee := .builtin .copy, args := #[d, s], argTypes := #[dT, sT] }) (elem : TypeId) (hu : P.underlying dT = some (.slice elem)) (hsz : (P.info? elem).map (·.size) = some 1)
  (g dLen dCap : Nat) (y : ByteArray) (hd : a.eval d = .slice (some ⟨g, 0, none⟩) dLen dCap) (hs : a.eval s = .string y) (t : TypeId) (hg : w.heap[g]? = some (.cells (zerosA dLen) t (0, 0))) (hn : y.size = dLen)
  (h : ∀ w', w'.heap[g]? = some (.cells ((bytesOf y).map (Value.int .u8)).toArray t (0, 0)) → Touch w w' g → wpList P ops Q rest (a.put o.dst (goInt y.size)) w') :
  wpList P ops Q (o :: rest) a w := by
 refine wpList_plain hgd fun K hK => ?_
 have hrun := Lib.run_copy_row_string (P := P) w dT sT o.type elem g 0 dLen dCap y (zerosA dLen) t hu hsz hg (by omega) (by unfold zerosA; simp; omega)
 have hrow : ((zerosA dLen).toList.take 0 ++ Lib.byteCells y.data.toList ++ (zerosA dLen).toList.drop (0 + y.size)).toArray = ((bytesOf y).map (Value.int .u8)).toArray := by
  have h1 : (zerosA dLen).toList.drop (0 + y.size) = [] := List.drop_eq_nil_of_le (by unfold zerosA; simp; omega)
  rw [h1, List.take_zero, List.nil_append, List.append_nil]
  unfold Lib.byteCells bytesOf
  rw [List.map_map]
  rfl
 rw [hrow] at hrun
 unfold Oper.wp
 simp [execOp, ho, resolve, invoke, builtin, hd, hs, hrun, Result.andThen]
 refine hK _ _ (h _ (setRow_heap w g _ _ t _ hg) ⟨fun k hk hn => setRow_other w g k _ hn, by simp [World.setRow], fun B U hu hb _ => below_setRow hu hb _⟩)
theorem alloc3_ (wr : World) (o1 o2 o3 : Obj) : ∃ W, W = (((wr.alloc o1).alloc o2).alloc o3).drew ∧ W.heap[wr.heap.size]? = some o1 ∧ W.heap[wr.heap.size + 1]? = some o2 ∧ W.heap[wr.heap.size + 1 + 1]? = some o3 ∧ Below wr.heap.size wr W ∧ W.heap.size = wr.heap.size + 3 := by
 have s1 : (wr.alloc o1).heap.size = wr.heap.size + 1 := by show (wr.heap.push o1).size = _; simp
 have s2 : ((wr.alloc o1).alloc o2).heap.size = wr.heap.size + 1 + 1 := by show ((wr.heap.push o1).push o2).size = _; simp
 have t1 := top_ wr o1
 have t2 := top_ (wr.alloc o1) o2
 have t3 := top_ ((wr.alloc o1).alloc o2) o3
 rw [s1] at t2
 rw [s2] at t3
 have b2 := below_alloc (Below.refl (wr.alloc o1).heap.size (wr.alloc o1)) o2
 have b3 := below_alloc (Below.refl ((wr.alloc o1).alloc o2).heap.size ((wr.alloc o1).alloc o2)) o3
 refine ⟨_, rfl, ?_, ?_, t3, ?_, ?_⟩
 ·exact (b3.block _ (by omega)).trans ((b2.block _ (by omega)).trans t1)
 ·exact (b3.block _ (by omega)).trans t2
 ·exact below_drew (below_alloc (below_alloc (below_alloc (Below.refl _ _) _) _) _)
 ·show (((wr.heap.push o1).push o2).push o3).size = _
  simp
theorem size_u8 : (Tryz.prog.info? 5).map (·.size) = some 1 := by kernel_rfl
theorem part_grown {w w11 w12 : World} {M : Nat} {v : Value} {Q Q' : List (MP × Nat)} (hR : Kd.R kdP 116 w11 w.heap.size (fun _ => True) v Q) (hM : w11.heap[M]? = some (.cells #[v] 112 (0, 0)))
  (hD : ∀ q, q ∈ Q' → w.heap.size ≤ q.2 ∧ w11.heap[q.2]? = some (.cells (q.1.d.map (Value.int .u8)).toArray 5 (0, 0))) (hg : w11.grownBy w12 v.ownBlock) :
  w12.heap[M]? = some (.cells #[v] 112 (0, 0)) ∧ ∀ q, q ∈ Q' → w.heap.size ≤ q.2 ∧ w12.heap[q.2]? = some (.cells (q.1.d.map (Value.int .u8)).toArray 5 (0, 0)) :=
 ⟨blk_grown hM hg (Kd.R_ne hR hM (by decide)), fun q hq => ⟨(hD q hq).1, blk_grown (hD q hq).2 hg (Kd.R_ne hR (hD q hq).2 (by decide))⟩⟩
theorem part_put {w w12 : World} {M : Nat} {v v1 : Value} {Q : List (MP × Nat)} (hM0 : w.heap.size ≤ M) (hR : Kd.R kdP 116 w12 w.heap.size (fun _ => True) v1 Q) (hM : w12.heap[M]? = some (.cells #[v] 112 (0, 0)))
  (hD : ∀ q, q ∈ Q → w.heap.size ≤ q.2 ∧ w12.heap[q.2]? = some (.cells (q.1.d.map (Value.int .u8)).toArray 5 (0, 0))) (hB : Below w.heap.size w w12) :
  Kd.R kdP 116 (w12.setCell ⟨M, 0, none⟩ v1) w.heap.size (fun _ => True) v1 Q ∧ (w12.setCell ⟨M, 0, none⟩ v1).heap[M]? = some (.cells #[v1] 112 (0, 0)) ∧
  (∀ q, q ∈ Q → w.heap.size ≤ q.2 ∧ (w12.setCell ⟨M, 0, none⟩ v1).heap[q.2]? = some (.cells (q.1.d.map (Value.int .u8)).toArray 5 (0, 0))) ∧ Below w.heap.size w (w12.setCell ⟨M, 0, none⟩ v1) :=
 ⟨Kd.R_set hR hM (by decide) 0 v1, blk_set hM 0 v1, fun q hq => ⟨(hD q hq).1, (Below.heap_setCell w12 ⟨M, 0, none⟩ v1 q.2 (fun e => by
  have h1 := blk_ne (hD q hq).2 hM (by decide)
  exact h1 e)).trans (hD q hq).2⟩, hB.setCell hM0 _⟩
theorem take_snoc_ {α : Type} {l : List α} {i : Nat} {r : α} (h : l[i]? = some r) : l.take (i + 1) = l.take i ++ [r] := by
 rw [List.take_add_one, h]; rfl
theorem nodup_snoc_ {Q : List (MP × Nat)} {p : MP} {D : Nat} (h : (Q.map (·.2)).Nodup) (hn : ∀ q, q ∈ Q → q.2 ≠ D) : ((Q ++ [(p, D)]).map (·.2)).Nodup := by
 rw [List.map_append, List.nodup_append]
 refine ⟨h, by simp, ?_⟩
 intro a ha b hb
 simp only [List.map_cons, List.map_nil, List.mem_singleton] at hb
 obtain ⟨q, hq, rfl⟩ := List.mem_map.1 ha
 rw [hb]
 exact hn q hq
def cfP (x y : MP × Nat) : Int := Lib.compareInt x.1.a y.1.a
theorem isAggP (w : World) : (isAgg 116).run Tryz.prog w = .ok true w := by kernel_rfl
theorem sizeP (w : World) : (Go.sizeOf 116).run Tryz.prog w = .ok 3 w := by kernel_rfl
theorem ltP (x y : MP × Nat) : Go.Proofs.ltOf cfP x y = decide (x.1.a < y.1.a) := by
 unfold Go.Proofs.ltOf cfP Lib.compareInt
 by_cases h1 : x.1.a < y.1.a
 ·simp [h1]
 ·by_cases h2 : y.1.a < x.1.a <;> simp [h1, h2]
theorem swoP : Go.Sort.SWO (Go.Proofs.ltOf cfP) where
 irrefl x := by rw [ltP]; simp
 trans x y z h1 h2 := by rw [ltP] at *; simp at *; omega
 ntrans x y z h1 h2 := by rw [ltP] at *; simp at *; omega
instance : Inhabited MP := ⟨⟨0, 0, []⟩⟩
theorem nanP (x : Int) (W : World) : Calls Tryz.prog 142 #[.int .u64 x] W fun e w' => e = .returned (.bool false) ∧ W = w' := by
 go_enter Tryz.func142, Tryz.ntmps142
 go_wp2
 go_ret
 exact ⟨by simp, rfl⟩
theorem compareP (x y : Int) (W : World) : Calls Tryz.prog 73 #[.int .u64 x, .int .u64 y] W fun e w' => e = .returned (.int .i64 (Lib.compareInt x y)) ∧ W = w' := by
 unfold Lib.compareInt
 by_cases h1 : x < y
 ·rw [if_pos h1]
  have b1 : decide (x < y) = true := decide_eq_true h1
  go_enter Tryz.func73, Tryz.ntmps73
  go_wp2_with (go_at_call 142; refine (nanP _ _).mono ?_; rintro e w' ⟨rfl, rfl⟩)
  go_ret
  exact ⟨rfl, rfl⟩
 ·rw [if_neg h1]
  have b1 : decide (x < y) = false := decide_eq_false h1
  by_cases h2 : x > y
  ·rw [if_pos h2]
   have b2 : decide (x > y) = true := decide_eq_true h2
   clear h1
   go_enter Tryz.func73, Tryz.ntmps73
   go_wp2_with (go_at_call 142; refine (nanP _ _).mono ?_; rintro e w' ⟨rfl, rfl⟩)
   go_ret
   exact ⟨rfl, rfl⟩
  ·rw [if_neg h2]
   have b2 : decide (x > y) = false := decide_eq_false h2
   clear h1
   go_enter Tryz.func73, Tryz.ntmps73
   go_wp2_with (go_at_call 142; refine (nanP _ _).mono ?_; rintro e w' ⟨rfl, rfl⟩)
   go_ret
   exact ⟨rfl, rfl⟩
theorem closureP (x y : MP × Nat) (W : World) : Calls Tryz.prog 72 #[.agg (encM x).toArray, .agg (encM y).toArray] W fun e w' => e = .returned (.int .i64 (cfP x y)) ∧ ∃ q os', w' = Go.Sort.grow (W.drewN q) os' := by
 have hcon := aq (fun W' => compareP x.1.a y.1.a W')
 unfold encM cfP
 generalize Lib.compareInt x.1.a y.1.a = r at hcon ⊢
 go_enter Tryz.func72, Tryz.ntmps72
 go_wp2_with (go_at_call 73; refine (hcon.out _).mono ?_; rintro e w' ⟨rfl, rfl⟩)
 go_ret
 exact ⟨rfl, 0, _, by rw [Go.Sort.alloc_eq_grow, Go.Sort.alloc_eq_grow, Go.Sort.grow_grow]; rfl⟩
theorem cmpLaysP (blk off size : Nat) (w : World) : Go.Proofs.CmpLays Tryz.prog 72 #[] encM 3 cfP blk off size w := fun _ _ _ _ x y => closureP x y _
theorem sortP_any (P c : Nat) (Q : List (MP × Nat)) (w : World) (hH : Go.Sort.HoldsK encM 3 w P 0 Q.toArray) (hblk : P < w.heap.size) (hl : Q.length < 1000000) :
  Calls Tryz.prog 71 #[.slice (some ⟨P, 0, none⟩) Q.length c, .func (.func 72) #[] #[]] w fun e w' => e = .returned (.tuple #[]) ∧
   ∃ (Q' : List (MP × Nat)) (n : Nat) (os : Array Obj), Q'.Perm Q ∧ Q'.Pairwise (fun p q => p.1.a ≤ q.1.a) ∧ w' = Go.Proofs.sortWorldK encM 3 w P 0 n Q'.toArray os := by
 have eg : ∀ args w, (callFunc 72 args).run Tryz.prog w = .ok (.enter 72 args) w := enters_of Tryz.func72 (by kernel_rfl) rfl
 have hcon := Go.Proofs.AnyQ.slices_SortFunc Go.Proofs.Tryz.sortP 3 isAggP sizeP encM (fun _ => rfl) (fun x v hv => by simp [encM] at hv; rcases hv with rfl | rfl | rfl <;> rfl) cfP swoP 72 #[] P 0 c Q.toArray w eg (cmpLaysP P 0 _ w) hH hblk (by simp; omega)
 refine hcon.mono ?_
 rintro e w' ⟨rfl, d', n, os, hp, hs, rfl⟩
 obtain ⟨p1, p2, p3⟩ := hp
 obtain ⟨l⟩ := d'
 have hlen : l.length = Q.length := by simpa using p1
 refine ⟨rfl, l, n, os, ?_, ?_, rfl⟩
 ·have p4 : (l.take Q.length).Perm Q := by simpa [hlen] using p3
  rwa [← hlen, List.take_length] at p4
 ·rw [List.pairwise_iff_getElem]
  intro i j hi hj hij
  have h1 := hs i j (Nat.zero_le _) hij (by simp; omega)
  rw [ltP] at h1
  have e1 : (⟨l⟩ : Array (MP × Nat))[i]! = l[i] := by simp [getElem!_pos, hi]
  have e2 : (⟨l⟩ : Array (MP × Nat))[j]! = l[j] := by simp [getElem!_pos, hj]
  rw [e1, e2] at h1
  simp at h1
  exact h1
theorem holdsP {w : World} {base P c n : Nat} {ok : Nat → Prop} {Q : List (MP × Nat)} (h : Kd.R kdP 116 w base ok (.slice (some ⟨P, 0, none⟩) n c) Q) :
  Go.Sort.HoldsK encM 3 w P 0 Q.toArray ∧ (∃ cur, w.heap[P]? = some (.cells cur 116 (0, 0))) ∧ P < w.heap.size ∧ base ≤ P := by
 obtain ⟨A, c', e, hl, hC⟩ := Kd.R_reads h
 injection e with e1 e2 e3
 subst e1
 obtain ⟨inner, ho⟩ := Kd.R_own h
 obtain ⟨cur, hcur⟩ := own_typed ho P (by simp [Value.ownBlock])
 have hbase := own_base ho P (by simp [Value.ownBlock])
 refine ⟨?_, ⟨cur, hcur⟩, (Array.getElem?_eq_some_iff.1 hcur).1, hbase⟩
 intro j hj
 have hj' : j < Q.length * 3 := by
  have := hj
  rw [Go.Sort.size_flatK] at this
  simpa using this
 have hq : j / 3 < Q.length := by omega
 obtain ⟨h1, h2, h3⟩ := hC
 obtain ⟨ad, ead, hcell⟩ := h3 (by omega)
 obtain rfl := Option.some.inj ead
 obtain ⟨cs, hcs, hK, hc⟩ := hcell (j / 3) Q[j / 3] (List.getElem?_eq_getElem hq)
 have hK' : cs = encM Q[j / 3] := hK
 subst hK'
 have hm : j % 3 < (encM Q[j / 3]).length := by show j % 3 < 3; omega
 have hcc := hc (j % 3) _ (List.getElem?_eq_getElem hm)
 refine ⟨?_, blk_frozen hcur _⟩
 have hfl : (Go.Sort.flatK encM 3 Q.toArray)[j]! = (encM Q[j / 3])[j % 3] := by
  rw [Go.Sort.get_flatK _ _ _ _ (by simpa using hj')]
  have e1 : (Q.toArray)[j / 3]! = Q[j / 3] := by simp [getElem!_pos, hq]
  rw [e1]
  exact getElem!_pos (encM Q[j / 3]) (j % 3) hm
 rw [hfl]
 have hadd : (⟨P, 0, none⟩ : Addr).add (j / 3 * kdP.sz + j % 3) = ⟨P, 0 + j, none⟩ := by
  show (⟨P, 0, none⟩ : Addr).add (j / 3 * 3 + j % 3) = ⟨P, 0 + j, none⟩
  rw [show j / 3 * 3 + j % 3 = j by omega]
  unfold Addr.add
  split <;> simp_all
 rw [hadd] at hcc
 exact hcc
theorem sortW_ {w w' : World} {P n : Nat} {Q Q' : List (MP × Nat)} {os : Array Obj} (hH : Go.Sort.HoldsK encM 3 w P 0 Q.toArray) (hc : ∃ cur, w.heap[P]? = some (.cells cur 116 (0, 0))) (hP : P < w.heap.size) (hl : Q'.length = Q.length) (hw : w' = Go.Proofs.sortWorldK encM 3 w P 0 n Q'.toArray os) :
  Touch w w' P ∧ (∃ cur, w'.heap[P]? = some (.cells cur 116 (0, 0))) ∧ ∀ (i : Nat) q, Q'[i]? = some q → ∀ (j : Nat) v, (encM q)[j]? = some v → w'.cell? ⟨P, i * 3 + j, none⟩ = some v := by
 subst hw
 have hH' : Go.Sort.HoldsK encM 3 (Go.Proofs.sortWorldK encM 3 w P 0 n Q'.toArray os) P 0 Q'.toArray := by
  unfold Go.Proofs.sortWorldK
  exact Go.Sort.holdsK_grow encM 3 _ os P 0 _ (by simp [Go.Sort.putRowK, Go.Sort.ahead]; exact hP) (Go.Sort.holdsK_putRowK encM 3 _ P 0 Q.toArray _ (Go.Sort.holdsK_ahead encM 3 w n P 0 _ hH) (by simp [hl]))
 refine ⟨⟨?_, ?_, ?_⟩, ?_, ?_⟩
 ·intro k hk hn
  unfold Go.Proofs.sortWorldK
  rw [Go.Sort.heap_grow_old _ _ (by simp [Go.Sort.putRowK, Go.Sort.ahead]; exact hk)]
  show ((w.heap.modify P _))[k]? = _
  rw [Array.getElem?_modify, if_neg (fun e => hn e.symm)]
 ·unfold Go.Proofs.sortWorldK
  simp [Go.Sort.putRowK, Go.Sort.ahead]
 ·intro B U hu hb hs
  refine hu.trans ⟨rfl, rfl, rfl, ?_, ?_⟩
  ·unfold Go.Proofs.sortWorldK
   simp [Go.Sort.putRowK, Go.Sort.ahead]
  ·intro k hk
   unfold Go.Proofs.sortWorldK
   rw [Go.Sort.heap_grow_old _ _ (by simp [Go.Sort.putRowK, Go.Sort.ahead]; omega)]
   show ((w.heap.modify P _))[k]? = _
   rw [Array.getElem?_modify, if_neg (by omega)]
 ·obtain ⟨cur, hcur⟩ := hc
  unfold Go.Proofs.sortWorldK
  rw [Go.Sort.heap_grow_old _ _ (by simp [Go.Sort.putRowK, Go.Sort.ahead]; exact hP)]
  show ∃ cur, ((w.heap.modify P _))[P]? = _
  rw [Array.getElem?_modify, if_pos rfl, hcur]
  exact ⟨_, rfl⟩
 ·intro i q hq j v hv
  have hi : i < Q'.length := (List.getElem?_eq_some_iff.1 hq).1
  have hj : j < 3 := by have := (List.getElem?_eq_some_iff.1 hv).1; exact this
  have hx := (Go.Sort.HoldsK.cell hH' (i := i) (c := j) (by simpa using hi) hj).1
  have e1 : (Q'.toArray)[i]! = q := by
   obtain ⟨_, e⟩ := List.getElem?_eq_some_iff.1 hq
   simp [getElem!_pos, hi, e]
  rw [e1] at hx
  have e2 : (encM q)[j]! = v := by
   obtain ⟨h1, e⟩ := List.getElem?_eq_some_iff.1 hv
   rw [getElem!_pos (encM q) j h1, e]
  rw [e2, Nat.zero_add] at hx
  exact hx
def insM (p : MP) : List MP → List MP
 | [] => [p]
 | q :: qs => if p.a ≤ q.a then p :: q :: qs else q :: insM p qs
def sortM : List MP → List MP
 | [] => []
 | p :: ps => insM p (sortM ps)
def apartB : List MP → Bool
 | [] => true
 | [_] => true
 | p :: q :: r => decide ((p.d.length : Int) ≤ q.a - p.a) && apartB (q :: r)
theorem insM_perm (p : MP) : ∀ L, (insM p L).Perm (p :: L)
 | [] => List.Perm.refl _
 | q :: qs => by
  unfold insM
  split
  ·exact List.Perm.refl _
  ·exact ((insM_perm p qs).cons q).trans (List.Perm.swap p q qs)
theorem sortM_perm : ∀ L, (sortM L).Perm L
 | [] => List.Perm.refl _
 | p :: ps => (insM_perm p _).trans ((sortM_perm ps).cons p)
theorem insM_sorted (p : MP) : ∀ L : List MP, L.Pairwise (fun x y => x.a ≤ y.a) → (insM p L).Pairwise (fun x y => x.a ≤ y.a)
 | [], _ => by simp [insM]
 | q :: qs, h => by
  unfold insM
  obtain ⟨h1, h2⟩ := List.pairwise_cons.1 h
  split
  ·rename_i hle
   refine List.pairwise_cons.2 ⟨fun x hx => ?_, h⟩
   rcases List.mem_cons.1 hx with rfl | hx
   ·exact hle
   ·exact Int.le_trans hle (h1 x hx)
  ·rename_i hle
   refine List.pairwise_cons.2 ⟨fun x hx => ?_, insM_sorted p qs h2⟩
   rcases List.mem_cons.1 ((insM_perm p qs).mem_iff.1 hx) with rfl | hx
   ·omega
   ·exact h1 x hx
theorem sortM_sorted : ∀ L : List MP, (sortM L).Pairwise (fun x y => x.a ≤ y.a)
 | [] => List.Pairwise.nil
 | p :: ps => insM_sorted p _ (sortM_sorted ps)
theorem apart_strict : ∀ L : List MP, (∀ p, p ∈ L → 1 ≤ p.d.length) → apartB L = true → L.Pairwise (fun x y => x.a + (x.d.length : Int) ≤ y.a)
 | [], _, _ => List.Pairwise.nil
 | [p], _, _ => by simp
 | p :: q :: r, hl, h => by
  unfold apartB at h
  simp only [Bool.and_eq_true, decide_eq_true_eq] at h
  have ih := apart_strict (q :: r) (fun x hx => hl x (List.mem_cons_of_mem _ hx)) h.2
  refine List.pairwise_cons.2 ⟨fun x hx => ?_, ih⟩
  rcases List.mem_cons.1 hx with rfl | hx
  ·omega
  ·have h1 := (List.pairwise_cons.1 ih).1 x hx
   have h2 := hl q (by simp)
   omega
theorem sorted_unique : ∀ (L L' : List MP), L.Perm L' → L.Pairwise (fun x y => x.a < y.a) → L'.Pairwise (fun x y => x.a ≤ y.a) → L = L'
 | [], L', hp, _, _ => by rw [List.nil_perm] at hp; exact hp.symm
 | x :: xs, [], hp, _, _ => by
  have := hp.length_eq
  simp at this
 | x :: xs, y :: ys, hp, h1, h2 => by
  obtain ⟨h3, h4⟩ := List.pairwise_cons.1 h1
  obtain ⟨h5, h6⟩ := List.pairwise_cons.1 h2
  have hxy : x = y := by
   apply Classical.byContradiction
   intro hne
   have hy : y ∈ xs := by
    rcases List.mem_cons.1 (hp.mem_iff.2 (List.mem_cons_self (a := y) (l := ys))) with e | e
    ·exact absurd e.symm hne
    ·exact e
   have hx : x ∈ ys := by
    rcases List.mem_cons.1 (hp.mem_iff.1 (List.mem_cons_self (a := x) (l := xs))) with e | e
    ·exact absurd e hne
    ·exact e
   have := h3 y hy
   have := h5 x hx
   omega
  subst hxy
  rw [sorted_unique xs ys (List.perm_cons x |>.1 hp) h4 h6]
theorem sort_unique (l L : List MP) (hp : L.Perm l) (hs : L.Pairwise (fun x y => x.a ≤ y.a)) (hl : ∀ p, p ∈ l → 1 ≤ p.d.length) : apartB L = apartB (sortM l) ∧ (apartB L = true → L = sortM l) := by
 have strict : ∀ X : List MP, (∀ p, p ∈ X → 1 ≤ p.d.length) → apartB X = true → X.Pairwise (fun x y => x.a < y.a) := fun X hX h =>
  List.Pairwise.imp_of_mem (fun {a b} ha hb hab => by have := hX a ha; omega) (apart_strict X hX h)
 have hLl : ∀ p, p ∈ L → 1 ≤ p.d.length := fun p hp' => hl p (hp.mem_iff.1 hp')
 have hSl : ∀ p, p ∈ sortM l → 1 ≤ p.d.length := fun p hp' => hl p ((sortM_perm l).mem_iff.1 hp')
 have e1 : apartB L = true → L = sortM l := fun h => sorted_unique L (sortM l) (hp.trans (sortM_perm l).symm) (strict L hLl h) (sortM_sorted l)
 have e2 : apartB (sortM l) = true → sortM l = L := fun h => sorted_unique (sortM l) L ((sortM_perm l).trans hp.symm) (strict _ hSl h) hs
 refine ⟨?_, e1⟩
 cases h : apartB L with
 | true => rw [← e1 h, h]
 | false =>
  cases h' : apartB (sortM l) with
  | false => rfl
  | true => rw [e2 h', h] at h'; cases h'
theorem apart_get : ∀ (L : List MP), apartB L = true → ∀ (i : Nat) p q, L[i]? = some p → L[i + 1]? = some q → (p.d.length : Int) ≤ q.a - p.a
 | [], _, i, p, q, h1, _ => by simp at h1
 | [x], _, i, p, q, h1, h2 => by simp at h2
 | x :: y :: r, h, i, p, q, h1, h2 => by
  unfold apartB at h
  simp only [Bool.and_eq_true, decide_eq_true_eq] at h
  cases i with
  | zero => simp at h1 h2; subst h1 h2; exact h.1
  | succ i => exact apart_get (y :: r) h.2 i p q (by simpa using h1) (by simpa using h2)
theorem apart_not : ∀ (L : List MP), apartB L = false → ∃ (t : Nat) (p q : MP), L[t]? = some p ∧ L[t + 1]? = some q ∧ ¬ (p.d.length : Int) ≤ q.a - p.a ∧ ∀ (i : Nat) x y, i < t → L[i]? = some x → L[i + 1]? = some y → (x.d.length : Int) ≤ y.a - x.a
 | [], h => by cases h
 | [x], h => by cases h
 | x :: y :: r, h => by
  unfold apartB at h
  by_cases hd : (x.d.length : Int) ≤ y.a - x.a
  ·rw [decide_eq_true hd, Bool.true_and] at h
   obtain ⟨t, p, q, h1, h2, h3, h4⟩ := apart_not (y :: r) h
   refine ⟨t + 1, p, q, by simpa using h1, by simpa using h2, h3, fun i a b hi ha hb => ?_⟩
   cases i with
   | zero => simp at ha hb; subst ha hb; exact hd
   | succ i => exact h4 i a b (by omega) (by simpa using ha) (by simpa using hb)
  ·exact ⟨0, x, y, rfl, rfl, hd, fun i a b hi => by omega⟩
def NewPost (l : List S61) (w : World) (e : Ending) (w' : World) : Prop :=
 if l.any badR = true then e = .returned (.tuple #[.pointer none, .int .i64 1])
 else if l.any farR = true then e = .returned (.tuple #[.pointer none, .int .i64 4])
 else if apartB (sortM (l.map mpOf)) = true then ∃ (A : Option Addr) (P c : Nat) (Q : List (MP × Nat)), e = .returned (.tuple #[.pointer (some ⟨w.heap.size, 0, none⟩), .int .i64 0]) ∧ MemIs w' w.heap.size A P c Q ∧ Q.map (·.1) = sortM (l.map mpOf) ∧ ∀ q, q ∈ Q → w.heap.size ≤ q.2
 else e = .returned (.tuple #[.pointer none, .int .i64 7])
def NewEnd (l : List S61) (w : World) (e : Ending) (w' : World) : Prop := Below w.heap.size w w' ∧ NewPost l w e w'
theorem good_of (r : S61) (hb : badR r = false) (hf : farR r = false) (h0 : 0 ≤ r.f0) : (mpOf r).good := by
 simp only [badR, Bool.or_eq_false_iff, decide_eq_false_iff_not] at hb
 simp only [farR, decide_eq_false_iff_not] at hf
 unfold mpOf MP.good
 simp only
 refine ⟨h0, by omega, by omega, by omega, ?_, ?_, ?_⟩
 ·rw [bytesOf_length]; omega
 ·rw [bytesOf_length]; omega
 ·intro x hx
  simp only [bytesOf] at hx
  obtain ⟨b, _, rfl⟩ := List.mem_map.1 hx
  have := b.toNat_lt
  omega
theorem new_any (w : World) (A0 : Option Addr) (c0 : Nat) (l : List S61) (hr0 : Kd.C k61 w A0 l.length l) (hc0 : l.length ≤ c0) (hl : l.length ≤ 1000) (hw : ∀ r, r ∈ l → 0 ≤ r.f0 ∧ r.f0 < 18446744073709551616)
  (t : Nat) (ht : t ≤ l.length) (hg : ∀ r, r ∈ l.take t → badR r = false) (hb : t < l.length → ∃ r, l[t]? = some r ∧ badR r = true) :
  Calls Tryz.prog 22 #[.slice A0 l.length c0] w (NewEnd l w) := by
 have HR := aq hr0
 have HW := aq hw
 have HG := aq hg
 have HBAD := aq hb
 have HL := aq hl
 clear hr0 hw hg hb
 go_enter Tryz.func22, Tryz.ntmps22
 go_wp2
 go_loopg [5, 14] t (fun kq v5 v14 wr => ∃ (i : Nat) (Q : List (MP × Nat)) (v : Value), v5 = .bool ((l.take i).any farR) ∧ v14 = .int .i64 (i : Int) ∧ i + kq = t ∧ Aside0 (Kd.R kdP 116 wr w.heap.size (fun _ => True) v Q) ∧
  Aside0 (wr.heap[w.heap.size]? = some (.cells #[v] 112 (0, 0))) ∧ Aside0 (∀ q, q ∈ Q → w.heap.size ≤ q.2 ∧ wr.heap[q.2]? = some (.cells (q.1.d.map (Value.int .u8)).toArray 5 (0, 0))) ∧ Aside0 ((Q.map (·.2)).Nodup) ∧
  Aside0 (Q.map (·.1) = (l.take i).map mpOf) ∧ Aside0 (Below w.heap.size w wr) ∧ Aside0 (Q = [] → v = .slice none 0 0))
 case atStart => exact ⟨0, [], .slice none 0 0, rfl, rfl, by omega, ⟨Kd.R_nil _ _ _ _ _⟩, ⟨top_ _ _⟩, ⟨fun q hq => by cases hq⟩, ⟨List.nodup_nil⟩, ⟨rfl⟩, ⟨below_alloc (Below.refl _ _) _⟩, ⟨fun _ => rfl⟩⟩
 case round =>
  obtain ⟨i, Q, v, rfl, rfl, hik, HK, HM, HD, HA, HQ, HB, HN⟩ := hrel
  cases gk with
  | zero =>
   by_cases htl : t < l.length
   ·obtain ⟨r, hr, hbad⟩ := HBAD.out htl
    obtain rfl : i = t := by omega
    clear hik
    have hrd : rd_T61 l (i : Int) = r := by unfold rd_T61; rw [Int.toNat_natCast]; simp [List.getD, hr]
    obtain ⟨ad, hA0, d0, d1, d2⟩ := at_T61 (Kd.C_below HR.out HB.out) (i : Int) (by omega) (by omega)
    subst hA0
    rw [hrd, Int.toNat_natCast] at d0 d1 d2
    have hpost : ∀ w', Below w.heap.size w w' → NewEnd l w (.returned (.tuple #[.pointer none, .int .i64 1])) w' := fun w' hb => ⟨hb, by
     unfold NewPost
     rw [if_pos (List.any_eq_true.2 ⟨r, List.mem_of_getElem? hr, hbad⟩)]⟩
    have HP := aq hpost
    clear hpost hr hrd
    obtain ⟨r0, r1, r2⟩ := r
    simp only at d0 d1 d2
    have hz : i < 1000 := by have := HL.out; omega
    simp only [badR, Bool.or_eq_true, decide_eq_true_eq] at hbad
    by_cases y1 : r1 < 1
    ·have z1 : decide (r1 < 1) = true := decide_eq_true y1
     clear hbad y1
     go_wp2
     go_ret2
     exact HP.out _ (below_alloc HB.out _)
    ·have z1 : decide (r1 < 1) = false := decide_eq_false y1
     by_cases y2 : r1 > 3
     ·have z2 : decide (r1 > 3) = true := decide_eq_true y2
      clear hbad y1 y2
      go_wp2
      go_ret2
      exact HP.out _ (below_alloc HB.out _)
     ·have z2 : decide (r1 > 3) = false := decide_eq_false y2
      by_cases y3 : r2.size = 0
      ·have z3 : r2.toList.isEmpty = true := by rw [ByteArray.toList_eq]; cases hq : r2.data.toList with | nil => rfl | cons a b => have := data_length r2; rw [hq, y3] at this; simp at this
       clear hbad y1 y2 y3
       go_wp2
       go_ret2
       exact HP.out _ (below_alloc HB.out _)
      ·have z3 : r2.toList.isEmpty = false := by rw [ByteArray.toList_eq]; cases hq : r2.data.toList with | nil => exact absurd (by rw [← data_length r2, hq]; rfl) y3 | cons a b => rfl
       have z4 : decide ((r2.size : Int) > 65536) = true := decide_eq_true (by omega)
       clear hbad y1 y2 y3
       go_wp2
       go_ret2
       exact HP.out _ (below_alloc HB.out _)
   ·have hi : ¬ (i < l.length) := by omega
    obtain rfl : i = l.length := by omega
    have hnb : l.any badR = false := by
     rw [List.any_eq_false]
     intro r hr
     have := HG.out r (by rw [List.take_of_length_le (by omega)]; exact hr)
     simp [this]
    have hQ' : Q.map (·.1) = l.map mpOf := by have := HQ.out; rwa [List.take_of_length_le (Nat.le_refl _)] at this
    have HNB := aq hnb
    have HQ2 := aq hQ'
    rw [List.take_of_length_le (Nat.le_refl _)]
    clear hik hnb hQ' htl
    cases hf : l.any farR with
    | true =>
     have HF := aq hf
     clear hf
     go_wp2
     go_ret2
     refine ⟨HB.out, ?_⟩
     unfold NewPost
     rw [if_neg (by rw [HNB.out]; decide), if_pos HF.out]
     rfl
    | false =>
     have HF := aq hf
     clear hf
     have hql : Q.length = l.length := by have := congrArg List.length HQ2.out; simpa using this
     have HQL := aq hql
     clear hql
     have hM := HM.out
     have m0 : wr.cell? ⟨w.heap.size, 0, none⟩ = some v := (blk_cell hM 0).trans rfl
     clear hM
     by_cases hq0 : Q = []
     ·have hv := HN.out hq0
      subst hv
      subst hq0
      have HS := aq (Go.Proofs.AnyF.slices_SortFunc_none Go.Proofs.Tryz.sortP none 0 (.func (.func 72) #[] #[]) wr)
      have hl0 : l.length = 0 := HQL.out.symm
      have HL0 := aq hl0
      clear hl0
      go_wp2_with (go_at_call 71; refine HS.out.mono ?_; rintro e w9 ⟨rfl, rfl⟩)
      refine wp_loop_rounds 1 ?_
      rw [rounds_succ]
      go_wp2
      go_ret2
      refine ⟨HB.out, ?_⟩
      unfold NewPost
      have hl : l = [] := List.eq_nil_of_length_eq_zero HL0.out
      rw [if_neg (by rw [HNB.out]; decide), if_neg (by rw [HF.out]; decide), hl]
      rw [if_pos (by rfl)]
      exact ⟨none, 0, 0, [], rfl, ⟨HM.out, fun h => absurd rfl h, fun h => absurd rfl h, fun i q h => by simp at h, fun q h => (by cases h), List.nodup_nil⟩, rfl, fun q h => (by cases h)⟩
     ·obtain ⟨inner, ho⟩ := Kd.R_own HK.out
      obtain ⟨P, c, hv⟩ : ∃ P c, v = .slice (some ⟨P, 0, none⟩) Q.length c := by
       rcases ho.2 with ⟨_, h0⟩ | ⟨g, cap, cur, he, _⟩
       ·exact absurd (List.eq_nil_of_length_eq_zero h0) hq0
       ·exact ⟨g, cap, he⟩
      subst hv
      obtain ⟨hH, hcur, hPl, hPb⟩ := holdsP HK.out
      have HS := aq (sortP_any P c Q wr hH hPl (by have := HQL.out; omega))
      have hMP : w.heap.size ≠ P := by
       obtain ⟨cur, hcur⟩ := hcur
       exact blk_ne HM.out hcur (by decide)
      have hafter : ∀ (Q' : List (MP × Nat)) (n : Nat) (os : Array Obj) (w9 : World), Q'.Perm Q → w9 = Go.Proofs.sortWorldK encM 3 wr P 0 n Q'.toArray os →
        Below w.heap.size w w9 ∧ w9.heap[w.heap.size]? = some (.cells #[.slice (some ⟨P, 0, none⟩) Q.length c] 112 (0, 0)) ∧ MemIs w9 w.heap.size (some ⟨P, 0, none⟩) P c Q' ∧ Q'.length = Q.length := by
       intro Q' n os w9 hp hw
       have hlen := hp.length_eq
       obtain ⟨hT, hc', hcells⟩ := sortW_ hH hcur hPl hlen hw
       have hM9 : w9.heap[w.heap.size]? = some (.cells #[.slice (some ⟨P, 0, none⟩) Q.length c] 112 (0, 0)) := (hT.block _ (Array.getElem?_eq_some_iff.1 HM.out).1 hMP).trans HM.out
       refine ⟨hT.below _ _ HB.out hPb HB.out.size, hM9, ⟨by rw [hlen]; exact hM9, fun _ => rfl, fun _ => hc', hcells, ?_, ?_⟩, hlen⟩
       ·intro q hq
        obtain ⟨a1, a2⟩ := HD.out q (hp.mem_iff.1 hq)
        obtain ⟨cur, hcur⟩ := hcur
        exact (hT.block q.2 (Array.getElem?_eq_some_iff.1 a2).1 (blk_ne a2 hcur (by decide))).trans a2
       ·exact (hp.map (·.2)).nodup_iff.2 HA.out
      have HAF := aq hafter
      have HMP := aq hMP
      clear ho hH hcur hPl hPb hMP hafter
      generalize hqn : Q.length = n at m0 HS HAF ⊢
      have HQN := aq hqn
      clear hqn
      go_wp2_with (go_at_call 71; refine HS.out.mono ?_; rintro e w9 ⟨rfl, Q', n9, os, hp, hs, hw9⟩; obtain ⟨hB9, hM9, hMem9, hl9⟩ := HAF.out Q' n9 os w9 hp hw9; have m9 : w9.cell? ⟨w.heap.size, 0, none⟩ = some (.slice (some ⟨P, 0, none⟩) n c) := (blk_cell hM9 0).trans rfl; have HB9 := aq hB9; have HMem9 := aq hMem9; have HL9 := aq hl9; have HP := aq hp; have HSO := aq hs; clear hp hs hw9 hB9 hM9 hMem9 hl9)
      have hperm : (Q'.map (·.1)).Perm (l.map mpOf) := by rw [← HQ2.out]; exact HP.out.map _
      have hsrt : (Q'.map (·.1)).Pairwise (fun x y => x.a ≤ y.a) := List.pairwise_map.2 HSO.out
      have hgl : ∀ p, p ∈ l.map mpOf → p.good := by
       intro p hp
       obtain ⟨r, hr, rfl⟩ := List.mem_map.1 hp
       refine good_of r ?_ ?_ (HW.out r hr).1
       ·have := List.any_eq_false.1 HNB.out r hr; simpa using this
       ·have := List.any_eq_false.1 HF.out r hr; simpa using this
      have hgd : ∀ q, q ∈ Q' → q.1.good := fun q hq => hgl _ (hperm.mem_iff.1 (List.mem_map.2 ⟨q, hq, rfl⟩))
      have HGD := aq hgd
      obtain ⟨hu1, hu2⟩ := sort_unique (l.map mpOf) (Q'.map (·.1)) hperm hsrt (fun p hp => (hgl p hp).2.2.2.2.1)
      have HU1 := aq hu1
      have HU2 := aq hu2
      have hl9 := HL9.out
      have hbase : ∀ q, q ∈ Q' → w.heap.size ≤ q.2 := fun q hq => (HD.out q (HP.out.mem_iff.1 hq)).1
      have HBASE := aq hbase
      clear hperm hsrt hgl hgd hu1 hu2 hbase hl9
      cases hap : apartB (Q'.map (·.1)) with
      | true =>
       have HOK := aq (fun (j : Nat) x y (_ : j + 1 < n) => apart_get (Q'.map (·.1)) hap j x y)
       have HAP := aq hap
       clear hap
       go_loopg [80] n (fun kq v80 wx => ∃ i : Nat, v80 = .int .i64 (i : Int) ∧ i + kq = n ∧ Aside0 (Below w9.heap.size w9 wx))
       case atStart => exact ⟨0, rfl, by omega, ⟨Below.refl _ _⟩⟩
       case round =>
        obtain ⟨i, rfl, hik, HBx⟩ := hrel
        have hMem9 := HMem9.out
        cases gk with
        | zero =>
         have hin : ¬ (i < n) := by omega
         clear hMem9
         go_wp2
         go_ret2
         refine ⟨below_step HB9.out HBx.out, ?_⟩
         unfold NewPost
         rw [if_neg (by rw [HNB.out]; decide), if_neg (by rw [HF.out]; decide), if_pos (by rw [← HU1.out]; exact HAP.out)]
         exact ⟨_, P, c, Q', rfl, HMem9.out.below HBx.out, HU2.out HAP.out, HBASE.out⟩
        | succ kq =>
         have hin : i < n := by omega
         have hMx := hMem9.below HBx.out
         have mx : wr.cell? ⟨w.heap.size, 0, none⟩ = some (.slice (some ⟨P, 0, none⟩) n c) := pw_cell_below HBx.out m9
         have HIK := aq hik
         clear hik
         cases i with
         | zero =>
          have b0 : decide ((((0 : Nat) : Int)) > 0) = false := rfl
          have b0' : decide ((0 : Int) > 0) = false := rfl
          clear hMx hMem9
          go_wp2
          go_quiet (fail)
          go_wp2
          go_roundg kq
          case measure => omega
          case rel => exact ⟨1, rfl, by have := HIK.out; omega, ⟨pw_below_drewN HBx.out _⟩⟩
         | succ j =>
          obtain ⟨x, bx, y, by_, hx, hy⟩ : ∃ x bx y by_, Q'[j]? = some (x, bx) ∧ Q'[j + 1]? = some (y, by_) := by
           have h1 : j < Q'.length := by have := HL9.out; omega
           have h2 : j + 1 < Q'.length := by have := HL9.out; omega
           exact ⟨Q'[j].1, Q'[j].2, Q'[j + 1].1, Q'[j + 1].2, by rw [List.getElem?_eq_getElem h1], by rw [List.getElem?_eq_getElem h2]⟩
          obtain ⟨-, x1, x2, x3⟩ := hMx.part hx
          obtain ⟨-, y1, y2, y3⟩ := hMx.part hy
          have hok := HOK.out j x y (by have := HIK.out; omega) (by rw [List.getElem?_map, hx]; rfl) (by rw [List.getElem?_map, hy]; rfl)
          obtain ⟨gx0, -, -, -, -, gx5, -⟩ := HGD.out _ (List.mem_of_getElem? hx)
          obtain ⟨-, gy1, -, -, -, -, -⟩ := HGD.out _ (List.mem_of_getElem? hy)
          simp only at gx0 gx5 gy1
          clear hMx hMem9 hx hy x2 y2 y3
          have e1 : IntKind.u64.wrap (y.a - x.a) = y.a - x.a := by rw [IntKind.wrap_u64]; omega
          have b1 : decide (y.a - x.a < (x.d.length : Int)) = false := decide_eq_false (by omega)
          have b0 : decide ((((j + 1 : Nat) : Int)) > 0) = true := decide_eq_true (by omega)
          have hz : j < 1000 := by have := HL.out; have := HQL.out; have := HQN.out; omega
          have s1 : IntKind.i64.wrap (((j + 1 : Nat) : Int) - 1) = (j : Int) := by rw [IntKind.wrap_i64]; omega
          have s2 : IntKind.i64.wrap ((j : Int) + 1 - 1) = (j : Int) := by rw [IntKind.wrap_i64]; omega
          have s3 : ((j : Int) + 1).toNat = j + 1 := by omega
          go_wp2
          go_quiet (fail)
          go_wp2
          go_roundg kq
          case measure => omega
          case rel => exact ⟨j + 2, rfl, by have := HIK.out; omega, ⟨pw_below_drewN HBx.out _⟩⟩
      | false =>
       obtain ⟨t2, x0, y0, h1, h2, h3, h4⟩ := apart_not _ hap
       have HOK := aq (fun (j : Nat) x y (hj : j + 1 < t2 + 1) => h4 j x y (by omega))
       have HAP := aq hap
       have H1 := aq h1
       have H2 := aq h2
       have H3 := aq h3
       have ht2 : t2 + 1 < n := by
        have := (List.getElem?_eq_some_iff.1 h2).1
        rw [List.length_map] at this
        have := HL9.out
        omega
       clear hap h1 h2 h3 h4
       go_loopg [80] (t2 + 1) (fun kq v80 wx => ∃ i : Nat, v80 = .int .i64 (i : Int) ∧ i + kq = t2 + 1 ∧ Aside0 (Below w9.heap.size w9 wx))
       case atStart => exact ⟨0, rfl, by omega, ⟨Below.refl _ _⟩⟩
       case round =>
        obtain ⟨i, rfl, hik, HBx⟩ := hrel
        have hMem9 := HMem9.out
        cases gk with
        | zero =>
         obtain rfl : i = t2 + 1 := by omega
         clear hik
         have hMx := hMem9.below HBx.out
         have mx : wr.cell? ⟨w.heap.size, 0, none⟩ = some (.slice (some ⟨P, 0, none⟩) n c) := pw_cell_below HBx.out m9
         obtain ⟨q1, hx, e1⟩ : ∃ q1, Q'[t2]? = some q1 ∧ q1.1 = x0 := by
          have := H1.out
          rw [List.getElem?_map] at this
          exact Option.map_eq_some_iff.1 this
         obtain ⟨q2, hy, e2⟩ : ∃ q2, Q'[t2 + 1]? = some q2 ∧ q2.1 = y0 := by
          have := H2.out
          rw [List.getElem?_map] at this
          exact Option.map_eq_some_iff.1 this
         obtain ⟨x, bx⟩ := q1
         obtain ⟨y, by_⟩ := q2
         simp only at e1 e2
         subst e1 e2
         obtain ⟨-, x1, x2, x3⟩ := hMx.part hx
         obtain ⟨-, y1, y2, y3⟩ := hMx.part hy
         obtain ⟨gx0, -, -, -, -, gx5, -⟩ := HGD.out _ (List.mem_of_getElem? hx)
         obtain ⟨-, gy1, -, -, -, -, -⟩ := HGD.out _ (List.mem_of_getElem? hy)
         have hso : x.a ≤ y.a := by
          obtain ⟨l1, e1⟩ := List.getElem?_eq_some_iff.1 hx
          obtain ⟨l2, e2⟩ := List.getElem?_eq_some_iff.1 hy
          have := List.pairwise_iff_getElem.1 HSO.out t2 (t2 + 1) l1 l2 (by omega)
          rw [e1, e2] at this
          exact this
         simp only at gx0 gx5 gy1
         clear hMx hMem9 hx hy x2 y2 y3
         have e1 : IntKind.u64.wrap (y.a - x.a) = y.a - x.a := by rw [IntKind.wrap_u64]; omega
         have b1 : decide (y.a - x.a < (x.d.length : Int)) = true := decide_eq_true (by have := H3.out; omega)
         have b0 : decide ((((t2 + 1 : Nat) : Int)) > 0) = true := decide_eq_true (by omega)
         have hz : t2 < 1000 := by have := HL.out; have := HQL.out; have := HQN.out; omega
         have s1 : IntKind.i64.wrap (((t2 + 1 : Nat) : Int) - 1) = (t2 : Int) := by rw [IntKind.wrap_i64]; omega
         have s2 : IntKind.i64.wrap ((t2 : Int) + 1 - 1) = (t2 : Int) := by rw [IntKind.wrap_i64]; omega
         have s3 : ((t2 : Int) + 1).toNat = t2 + 1 := by omega
         go_wp2
         go_quiet (fail)
         go_wp2
         go_ret2
         refine ⟨below_step HB9.out (pw_below_drewN HBx.out _), ?_⟩
         unfold NewPost
         rw [if_neg (by rw [HNB.out]; decide), if_neg (by rw [HF.out]; decide), if_neg (by rw [← HU1.out, HAP.out]; decide)]
         rfl
        | succ kq =>
         have hin : i < n := by omega
         have hMx := hMem9.below HBx.out
         have mx : wr.cell? ⟨w.heap.size, 0, none⟩ = some (.slice (some ⟨P, 0, none⟩) n c) := pw_cell_below HBx.out m9
         have HIK := aq hik
         clear hik
         cases i with
         | zero =>
          have b0 : decide ((((0 : Nat) : Int)) > 0) = false := rfl
          have b0' : decide ((0 : Int) > 0) = false := rfl
          clear hMx hMem9
          go_wp2
          go_quiet (fail)
          go_wp2
          go_roundg kq
          case measure => omega
          case rel => exact ⟨1, rfl, by have := HIK.out; omega, ⟨pw_below_drewN HBx.out _⟩⟩
         | succ j =>
          obtain ⟨x, bx, y, by_, hx, hy⟩ : ∃ x bx y by_, Q'[j]? = some (x, bx) ∧ Q'[j + 1]? = some (y, by_) := by
           have h1 : j < Q'.length := by have := HL9.out; omega
           have h2 : j + 1 < Q'.length := by have := HL9.out; omega
           exact ⟨Q'[j].1, Q'[j].2, Q'[j + 1].1, Q'[j + 1].2, by rw [List.getElem?_eq_getElem h1], by rw [List.getElem?_eq_getElem h2]⟩
          obtain ⟨-, x1, x2, x3⟩ := hMx.part hx
          obtain ⟨-, y1, y2, y3⟩ := hMx.part hy
          have hok := HOK.out j x y (by have := HIK.out; omega) (by rw [List.getElem?_map, hx]; rfl) (by rw [List.getElem?_map, hy]; rfl)
          obtain ⟨gx0, -, -, -, -, gx5, -⟩ := HGD.out _ (List.mem_of_getElem? hx)
          obtain ⟨-, gy1, -, -, -, -, -⟩ := HGD.out _ (List.mem_of_getElem? hy)
          simp only at gx0 gx5 gy1
          clear hMx hMem9 hx hy x2 y2 y3
          have e1 : IntKind.u64.wrap (y.a - x.a) = y.a - x.a := by rw [IntKind.wrap_u64]; omega
          have b1 : decide (y.a - x.a < (x.d.length : Int)) = false := decide_eq_false (by omega)
          have b0 : decide ((((j + 1 : Nat) : Int)) > 0) = true := decide_eq_true (by omega)
          have hz : j < 1000 := by have := HL.out; have := HQL.out; have := HQN.out; omega
          have s1 : IntKind.i64.wrap (((j + 1 : Nat) : Int) - 1) = (j : Int) := by rw [IntKind.wrap_i64]; omega
          have s2 : IntKind.i64.wrap ((j : Int) + 1 - 1) = (j : Int) := by rw [IntKind.wrap_i64]; omega
          have s3 : ((j : Int) + 1).toNat = j + 1 := by omega
          go_wp2
          go_quiet (fail)
          go_wp2
          go_roundg kq
          case measure => omega
          case rel => exact ⟨j + 2, rfl, by have := HIK.out; omega, ⟨pw_below_drewN HBx.out _⟩⟩
  | succ kq =>
   have hi : i < t := by omega
   have hil : i < l.length := by omega
   have HIK := aq hik
   clear hik
   obtain ⟨r, hr⟩ : ∃ r, l[i]? = some r := ⟨l[i], List.getElem?_eq_getElem hil⟩
   have hrd : rd_T61 l (i : Int) = r := by unfold rd_T61; rw [Int.toNat_natCast]; simp [List.getD, hr]
   obtain ⟨ad, hA0, d0, d1, d2⟩ := at_T61 (Kd.C_below HR.out HB.out) (i : Int) (by omega) (by omega)
   subst hA0
   rw [hrd, Int.toNat_natCast] at d0 d1 d2
   have hgood := HG.out r (List.mem_of_getElem? (by rw [List.getElem?_take, if_pos hi]; exact hr))
   obtain ⟨w0, w1⟩ := HW.out r (List.mem_of_getElem? hr)
   have HW1 := aq w1
   clear w1
   have HRI := aq hr
   clear hr hrd
   obtain ⟨r0, r1, r2⟩ := r
   simp only at d0 d1 d2 w0
   simp only [badR, Bool.or_eq_false_iff] at hgood
   obtain ⟨⟨⟨x1, x2⟩, x3⟩, x4⟩ := hgood
   have y3 : r2.size ≠ 0 := by simpa using x3
   have y4 : r2.size ≤ 65536 := by simpa using x4
   have z3 : r2.toList.isEmpty = false := by rw [ByteArray.toList_eq]; cases hq : r2.data.toList with | nil => exact absurd (by rw [← data_length r2, hq]; rfl) y3 | cons a b => rfl
   have z4 : decide ((r2.size : Int) > 65536) = false := by simp; omega
   have hz : i < 1000 := by have := HL.out; omega
   have hmk := make_bytes r2.size y4
   clear x3 x4
   generalize hf : (l.take i).any farR = f
   have HF := aq hf
   clear hf
   obtain ⟨g, HNX⟩ : ∃ g, Aside0 ((l.take (i + 1)).any farR = g) := ⟨_, ⟨rfl⟩⟩
   have hg : g = (f || decide (r0 > 4611686018427387904)) := by
    rw [← HNX.out, take_snoc_ HRI.out, List.any_append, HF.out]
    simp [farR]
   have hx : (f = false ∧ decide (r0 > 4611686018427387904) = true ∧ g = true) ∨ (f = false ∧ decide (r0 > 4611686018427387904) = false ∧ g = false) ∨ (f = true ∧ g = true) := by
    generalize decide (r0 > 4611686018427387904) = e at *
    cases f <;> cases e <;> simp [hg]
   clear hg
   rcases hx with ⟨rfl, e1, rfl⟩ | ⟨rfl, e1, rfl⟩ | ⟨rfl, rfl⟩
   all_goals
    go_wp2
    go_region
   all_goals first
    | (obtain ⟨W9, hW, k0, k1, k2, hB9, hs9⟩ := alloc3_ wr (.cells #[.int .u64 r0, .int .i64 r1, .string r2] 61) (.cells (zerosA r2.size) 5) (.cells #[.int .u64 r0, .int .i64 r1, .slice (some ⟨wr.heap.size + 1, 0, none⟩) r2.size r2.size] 116); rw [← hW]; clear hW; obtain ⟨D, hD⟩ : ∃ D, D = wr.heap.size + 1 := ⟨_, rfl⟩; obtain ⟨X, hX⟩ : ∃ X, X = wr.heap.size + 1 + 1 := ⟨_, rfl⟩; obtain ⟨Y, hY⟩ : ∃ Y, Y = wr.heap.size := ⟨_, rfl⟩; have hDX : D ≠ X ∧ Y ≠ D ∧ wr.heap.size ≤ D ∧ wr.heap.size ≤ Y := (by omega); simp only [← hX] at k2 ⊢; simp only [← hD] at k1 k2 ⊢; simp only [← hY] at k0 ⊢; clear hX hD hY; have q0 := cells3_ k0; have q2 := cells3_ k2; have K1 := aq k1; clear k0 k1 k2 hmk)
    | (obtain ⟨W9, hW, k0, k1, k2, hB9, hs9⟩ := alloc3_ wr (.cells #[.int .u64 r0, .int .i64 r1, .string r2] 61) (.cells #[.int .u64 r0, .int .i64 r1, .slice (some ⟨wr.heap.size + 1 + 1, 0, none⟩) r2.size r2.size] 116) (.cells (zerosA r2.size) 5); rw [← hW]; clear hW; obtain ⟨D, hD⟩ : ∃ D, D = wr.heap.size + 1 + 1 := ⟨_, rfl⟩; obtain ⟨X, hX⟩ : ∃ X, X = wr.heap.size + 1 := ⟨_, rfl⟩; obtain ⟨Y, hY⟩ : ∃ Y, Y = wr.heap.size := ⟨_, rfl⟩; have hDX : D ≠ X ∧ Y ≠ D ∧ wr.heap.size ≤ D ∧ wr.heap.size ≤ Y := (by omega); simp only [← hD] at k1 k2 ⊢; simp only [← hX] at k1 ⊢; simp only [← hY] at k0 ⊢; clear hX hD hY; have q0 := cells3_ k0; have q2 := cells3_ k1; have K1 := aq k2; clear k0 k1 k2 hmk)
   all_goals
    go_wp2_with (with_reducible refine wpList_copy_str rfl (.tmp 54) (.tmp 56) 93 9 rfl 5 Tryz.underlying93 size_u8 D r2.size r2.size r2 rfl rfl 5 K1.out rfl ?_)
    intro w10 hk10 hT10
    have l0 : w.heap.size < wr.heap.size := (Array.getElem?_eq_some_iff.1 HM.out).1
    obtain ⟨n1, n2, n3, n4⟩ := hDX
    have l1 : X < W9.heap.size := World.block_lt_of_cell? W9 ⟨X, 0, none⟩ q2.1
    have hMB : w10.heap[w.heap.size]? = some (.cells #[v] 112 (0, 0)) := (hT10.block _ (by omega) (by omega)).trans ((hB9.block _ l0).trans HM.out)
    have hX : w10.heap[X]? = W9.heap[X]? := hT10.block X l1 (fun e => n1 e.symm)
    have e0 : w10.cell? ⟨w.heap.size, 0, none⟩ = some v := (blk_cell hMB 0).trans rfl
    have e1 : w10.cell? ⟨X, 0, none⟩ = some (.int .u64 r0) := (World.cell?_of_block (w := W9) hX).trans q2.1
    have e2 : w10.cell? ⟨X, 1, none⟩ = some (.int .i64 r1) := (World.cell?_of_block (w := W9) hX).trans q2.2.1
    have e3 : w10.cell? ⟨X, 2, none⟩ = some (.slice (some ⟨D, 0, none⟩) r2.size r2.size) := (World.cell?_of_block (w := W9) hX).trans q2.2.2
    have hTT : Touch wr w10 D := (Touch.of_below D hB9).trans hT10
    have hTB : Below w.heap.size w w10 := hTT.below _ _ HB.out (by omega) (by omega)
    have hRr : Kd.R kdP 116 w10 w.heap.size (fun _ => True) v Q := by
     refine Kd.R_step HK.out (fun k _ hk => hTT.block k hk (by omega))
    have hDD : ∀ q, q ∈ Q ++ [(⟨r0, r1, bytesOf r2⟩, D)] → w.heap.size ≤ q.2 ∧ w10.heap[q.2]? = some (.cells (q.1.d.map (Value.int .u8)).toArray 5 (0, 0)) := by
     intro q hq
     rcases List.mem_append.1 hq with hq | hq
     ·obtain ⟨a1, a2⟩ := HD.out q hq
      have a3 : q.2 < wr.heap.size := (Array.getElem?_eq_some_iff.1 a2).1
      exact ⟨a1, (hTT.block q.2 a3 (by omega)).trans a2⟩
     ·rw [List.mem_singleton] at hq
      subst hq
      exact ⟨by simp only; omega, hk10⟩
    have hql : Q.length = i := by have := congrArg List.length HQ.out; simp at this; omega
    have hnd : ∀ q, q ∈ Q → q.2 ≠ D := fun q hq e => by
     have a3 : q.2 < wr.heap.size := (Array.getElem?_eq_some_iff.1 (HD.out q hq).2).1
     omega
    have HND := aq hnd
    clear hnd
    have HQL := aq (show Q.length < 1000 by omega)
    have HDD := aq hDD
    clear hDD hql
    have HM10 := aq hMB
    have HR10 := aq hRr
    have HB10 := aq hTB
    clear hk10 hT10 hMB hX hRr hTT hTB q0 q2 K1 hB9 hs9 l1 n1 n2
    go_wp2
    have hB11 := below_drew1 HB10.out
    have hR11 := Kd.R_drew HR10.out
    refine start_ (n := 11) (S := fun w' => w'.cell? ⟨w.heap.size, 0, none⟩ = some v ∧ (w'.cell? ⟨X, 0, none⟩ = some (.int .u64 r0) ∧ w'.cell? ⟨X, 1, none⟩ = some (.int .i64 r1) ∧ w'.cell? ⟨X, 2, none⟩ = some (.slice (some ⟨D, 0, none⟩) r2.size r2.size))) (ds := [7, 10]) #[false, false, false, false, false, false, false, false, false, false, false] (by kernel_rfl) rfl rfl ⟨e0, e1, e2, e3⟩ (fun hHeld => ?_)
    have hD11 := HDD.out; have hM11 := HM10.out; generalize hw11 : w10.drew = w11 at hB11 hR11 hHeld ⊢; have hh11 : w11.heap = w10.heap := by rw [← hw11]; rfl
    rw [← hh11] at hM11
    simp only [← hh11] at hD11
    have HD11 := aq hD11
    have HM11 := aq hM11
    have HB11 := aq hB11
    have HR11 := aq hR11
    clear hD11 hM11 hB11 hR11 hw11 hh11 e0 e1 e2 e3
    refine pure_ (i := 0) (N := some 58) (v := ?_) (a' := ?_) #[true, false, false, false, false, false, false, false, false, false, false] rfl rfl (by kernel_rfl) (fun _ _ _ h => h) (Or.inl ⟨by rfl, ?_⟩) ?_ ?_
    rotate_left
    ·intro w'
     go_simp
     with_reducible rfl
    rotate_left
    ·simp only [Act.put, lq, lz, ls, i64_w, i32_w]
     rfl
    refine pure_ (i := 1) (N := some 59) (v := ?_) (a' := ?_) #[true, true, false, false, false, false, false, false, false, false, false] rfl rfl (by kernel_rfl) (fun _ _ _ h => h) (Or.inl ⟨by rfl, ?_⟩) ?_ ?_
    rotate_left
    ·intro w'
     go_simp
     with_reducible rfl
    rotate_left
    ·simp only [Act.put, lq, lz, ls, i64_w, i32_w]
     rfl
    refine pure_ (i := 2) (N := some 60) (v := ?_) (a' := ?_) #[true, true, true, false, false, false, false, false, false, false, false] rfl rfl (by kernel_rfl) (fun _ _ _ h => h) (Or.inl ⟨by rfl, ?_⟩) ?_ ?_
    rotate_left
    ·intro w'
     go_simp
     with_reducible rfl
    rotate_left
    ·simp only [Act.put, lq, lz, ls, i64_w, i32_w]
     rfl
    refine pure_ (i := 3) (N := some 61) (v := ?_) (a' := ?_) #[true, true, true, true, false, false, false, false, false, false, false] rfl rfl (by kernel_rfl) (fun _ _ _ h => h) (Or.inl ⟨by rfl, ?_⟩) ?_ ?_
    rotate_left
    ·intro w'
     go_simp
     with_reducible rfl
    rotate_left
    ·simp only [Act.put, lq, lz, ls, i64_w, i32_w]
     rfl
    refine take_ (i := 4) (N := some 62) (v := ?_) (a' := ?_) #[true, true, true, true, true, false, false, false, false, false, false] rfl rfl (by kernel_rfl) (fun _ _ _ h => h) (Or.inl ⟨by rfl, ?_⟩) hHeld ?_ ?_
    rotate_left
    ·rintro w' ⟨g0, g1, g2, g3⟩
     go_simp
     with_reducible rfl
    rotate_left
    ·simp only [Act.put, lq, lz, ls, i64_w, i32_w]
     rfl
    refine take_ (i := 5) (N := some 63) (v := ?_) (a' := ?_) #[true, true, true, true, true, true, false, false, false, false, false] rfl rfl (by kernel_rfl) (fun _ _ _ h => h) (Or.inl ⟨by rfl, ?_⟩) hHeld ?_ ?_
    rotate_left
    ·rintro w' ⟨g0, g1, g2, g3⟩
     go_simp
     with_reducible rfl
    rotate_left
    ·simp only [Act.put, lq, lz, ls, i64_w, i32_w]
     rfl
    refine one_ (i := 6) (N := some 64) #[true, true, true, true, true, true, true, false, false, false, false] rfl rfl (by kernel_rfl) (by decide) (fun K hK => ?_)
    rw [if_pos (by rfl)]
    unfold Oper.wp
    go_simp
    refine hK.out _ _ ⟨pw_cell_below (below_alloc (Below.refl _ _) _) hHeld.1, pw_cell_below (below_alloc (Below.refl _ _) _) hHeld.2.1, pw_cell_below (below_alloc (Below.refl _ _) _) hHeld.2.2.1, pw_cell_below (below_alloc (Below.refl _ _) _) hHeld.2.2.2⟩ (fun hHeld => ?_)
    clear hK K
    refine last_ (i := 7) (N := some 65) #[true, true, true, true, true, true, true, true, false, false, false] rfl rfl (by kernel_rfl) (by decide) (fun K hK => ?_)
    refine Kd.R_append_step kdP (w0 := w) w.heap.size (by rfl) (.tmp 62) (.tmp 64) 110 116 (.agg #[.int .u64 0, .int .i64 0, .slice none 0 0]) 40 rfl Tryz.underlying110 info_part rfl (by decide) (by omega) v Q (⟨r0, r1, bytesOf r2⟩, D) [.int .u64 r0, .int .i64 r1, .slice (some ⟨D, 0, none⟩) r2.size r2.size] (fun _ => True) (fun _ => False) rfl rfl ?aP (fun _ hk => hk.elim) (fun _ _ => trivial) HR11.out HB11.out (below_size HB11.out) ?aL ?_
    case aP => show _ = encM _; unfold encM; simp only [bytesOf_length]
    case aL => have := HQL.out; omega
    intro v1 w12 ho hb hg hat
    have hMD := part_grown (w := w) HR11.out HM11.out HD11.out hg
    obtain ⟨A1, c1, rfl⟩ := Kd.R_slice ho
    have hres := part_put (w := w) (Nat.le_refl _) ho hMD.1 hMD.2 hb
    have m0 : w12.cell? ⟨w.heap.size, 0, none⟩ = some v := (blk_cell hMD.1 0).trans rfl
    have m1 : w12.frozen? ⟨w.heap.size, 0, none⟩ = false := blk_frozen hMD.1 0
    have HRES := aq hres
    clear ho hb hg hat hMD hres
    refine hK.out _ _ ?_
    clear hK K
    refine norm_ (a' := ?_) ?_ ?_
    rotate_left
    ·show Act.put _ (some 65) _ = _
     simp only [Act.put, lq, lz, ls, i64_w, i32_w]
     rfl
    refine pure_ (i := 8) (N := some 66) (v := ?_) (a' := ?_) #[true, true, true, true, true, true, true, true, true, false, false] rfl rfl (by kernel_rfl) (fun _ _ _ h => h) (Or.inl ⟨by rfl, ?_⟩) ?_ ?_
    rotate_left
    ·intro w'
     go_simp
     with_reducible rfl
    rotate_left
    ·simp only [Act.put, lq, lz, ls, i64_w, i32_w]
     rfl
    refine pure_ (i := 9) (N := some 67) (v := ?_) (a' := ?_) #[true, true, true, true, true, true, true, true, true, true, false] rfl rfl (by kernel_rfl) (fun _ _ _ h => h) (Or.inl ⟨by rfl, ?_⟩) ?_ ?_
    rotate_left
    ·intro w'
     go_simp
     with_reducible rfl
    rotate_left
    ·simp only [Act.put, lq, lz, ls, i64_w, i32_w]
     rfl
    refine last_ (i := 10) (N := none) #[true, true, true, true, true, true, true, true, true, true, true] rfl rfl (by kernel_rfl) (by decide) (fun K hK => ?_)
    rw [if_pos (by rfl)]
    unfold Oper.wp
    go_simp
    refine hK.out _ _ ?_
    clear hK K
    refine done_ (by kernel_rfl) ?_
    go_wp2
    go_roundg kq
    case measure => omega
    case rel =>
     obtain ⟨p1, p2, p3, p4⟩ := HRES.out
     have hll : (Q ++ [((⟨r0, r1, bytesOf r2⟩ : MP), D)]).length = Q.length + 1 := by simp
     rw [hll] at p1 p2 p3 p4
     refine ⟨i + 1, Q ++ [(⟨r0, r1, bytesOf r2⟩, D)], _, ?_, rfl, by have := HIK.out; omega, ⟨p1⟩, ⟨p2⟩, ⟨p3⟩, ⟨?_⟩, ⟨?_⟩, ⟨p4⟩, ⟨fun h => absurd h (by simp)⟩⟩
     ·rw [HNX.out]
     ·exact nodup_snoc_ HA.out HND.out
     ·rw [take_snoc_ HRI.out, List.map_append, List.map_append, HQ.out]
      rfl
theorem first_bad (l : List S61) : ∃ t, t ≤ l.length ∧ (∀ r, r ∈ l.take t → badR r = false) ∧ (t < l.length → ∃ r, l[t]? = some r ∧ badR r = true) := by
 induction l with
 | nil => exact ⟨0, Nat.le_refl _, fun r hr => by simp at hr, fun h => by simp at h⟩
 | cons x xs ih =>
  obtain ⟨t, h1, h2, h3⟩ := ih
  cases hx : badR x with
  | true => exact ⟨0, Nat.zero_le _, fun r hr => by simp at hr, fun _ => ⟨x, rfl, hx⟩⟩
  | false =>
   refine ⟨t + 1, by simp; omega, fun r hr => ?_, fun h => ?_⟩
   ·rw [List.take_succ_cons] at hr
    rcases List.mem_cons.1 hr with rfl | hr
    ·exact hx
    ·exact h2 r hr
   ·obtain ⟨r, e1, e2⟩ := h3 (by simp at h; omega)
    exact ⟨r, by simpa using e1, e2⟩
theorem new_calls (w : World) (A0 : Option Addr) (c0 : Nat) (l : List S61) (hr0 : Kd.C k61 w A0 l.length l) (hc0 : l.length ≤ c0) (hl : l.length ≤ 1000) (hw : ∀ r, r ∈ l → 0 ≤ r.f0 ∧ r.f0 < 18446744073709551616) :
  Calls Tryz.prog 22 #[.slice A0 l.length c0] w (NewEnd l w) := by
 obtain ⟨t, h1, h2, h3⟩ := first_bad l
 exact new_any w A0 c0 l hr0 hc0 hl hw t h1 h2 h3
def mcut (p : MP) (at_ : Int) (n : Nat) : List Int := (p.d.drop (at_ - p.a).toNat).take n
def mat_ (L : List MP) (at_ n : Int) : Option (Nat × MP) := (mfind at_ n L).bind fun i => (L[i]?).map fun p => (i, p)
def mload (L : List MP) (at_ n : Int) : Int × Int := if n = 1 ∨ n = 8 then match mat_ L at_ n with | none => (0, 4) | some q => (leV (mcut q.2 at_ n.toNat), 0) else (0, 1)
def mstore (L : List MP) (at_ n v : Int) : Int × List MP :=
 if n = 1 ∨ n = 8 then match mat_ L at_ n with | none => (4, L) | some q => if q.2.k = 3 then (0, L.set q.1 { q.2 with d := setB q.2.d (at_ - q.2.a).toNat (leB v n.toNat) }) else (10, L) else (1, L)
def mword (L : List MP) (at_ : Int) : Int × Int := if at_ % 4 = 0 then match mat_ L at_ 4 with | none => (0, 4) | some q => if q.2.k = 1 then (leV (mcut q.2 at_ 4), 0) else (0, 10) else (0, 5)
theorem mat_none {L : List MP} {at_ n : Int} (h : mat_ L at_ n = none) : ∀ p, p ∈ L → ¬ p.has at_ n := by
 unfold mat_ at h
 cases hf : mfind at_ n L with
 | none => exact mfind_none at_ n L hf
 | some i =>
  obtain ⟨⟨p, h1, h2⟩, h3⟩ := mfind_some at_ n L i hf
  rw [hf] at h
  simp [h1] at h
theorem mat_some {L : List MP} {at_ n : Int} {q : Nat × MP} (h : mat_ L at_ n = some q) : L[q.1]? = some q.2 ∧ q.2.has at_ n ∧ ∀ (j : Nat) p, j < q.1 → L[j]? = some p → ¬ p.has at_ n := by
 unfold mat_ at h
 cases hf : mfind at_ n L with
 | none => rw [hf] at h; cases h
 | some i =>
  obtain ⟨⟨p, h1, h2⟩, h3⟩ := mfind_some at_ n L i hf
  rw [hf] at h
  simp only [Option.bind_some, h1, Option.map_some, Option.some.injEq] at h
  subst h
  exact ⟨h1, h2, h3⟩
def MemOk (w : World) (M lo hi : Nat) (L : List MP) : Prop :=
 ∃ (A : Option Addr) (P c : Nat) (Q : List (MP × Nat)), MemIs w M A P c Q ∧ Q.map (·.1) = L ∧ (∀ q, q ∈ Q → lo ≤ q.2 ∧ q.2 < hi) ∧ (∀ q, q ∈ Q → q.1.good) ∧ Q.length ≤ 1000000
theorem MemOk.good {w : World} {M lo hi : Nat} {L : List MP} (h : MemOk w M lo hi L) : ∀ p, p ∈ L → p.good := by
 obtain ⟨A, P, c, Q, h1, h2, h3, h4, h5⟩ := h
 intro p hp
 rw [← h2] at hp
 obtain ⟨q, hq, rfl⟩ := List.mem_map.1 hp
 exact h4 q hq
theorem MemOk.below {w w' : World} {M lo hi : Nat} {L : List MP} (h : MemOk w M lo hi L) (hb : Below w.heap.size w w') : MemOk w' M lo hi L := by
 obtain ⟨A, P, c, Q, h1, h2, h3, h4, h5⟩ := h
 exact ⟨A, P, c, Q, h1.below hb, h2, h3, h4, h5⟩
structure StoredIn (w w' : World) (lo hi : Nat) : Prop where
 block : ∀ (k : Nat) (o : Obj), w.heap[k]? = some o → (¬ (lo ≤ k ∧ k < hi) ∨ ¬ ∃ cs, o = .cells cs 5 (0, 0)) → w'.heap[k]? = some o
 size : w.heap.size ≤ w'.heap.size
 below : ∀ (B : Nat) (U : World), Below B U w → B ≤ lo → B ≤ w.heap.size → Below B U w'
theorem StoredIn.of_below {w w' : World} (lo hi : Nat) (h : Below w.heap.size w w') : StoredIn w w' lo hi :=
 ⟨fun k o hk _ => (h.block k (Array.getElem?_eq_some_iff.1 hk).1).trans hk, h.size, fun B U hu _ hs => hu.trans (h.mono hs)⟩
theorem StoredIn.of_touch {w w' : World} {lo hi b : Nat} (h1 : lo ≤ b) (h2 : b < hi) (hb : ∃ cs, w.heap[b]? = some (.cells cs 5 (0, 0))) (h : Touch w w' b) : StoredIn w w' lo hi :=
 ⟨fun k o hk hor => by
  have hne : k ≠ b := by
   rintro rfl
   obtain ⟨cs, hcs⟩ := hb
   rcases hor with hor | hor
   ·exact hor ⟨h1, h2⟩
   ·rw [hcs] at hk; exact hor ⟨cs, (Option.some.inj hk).symm⟩
  exact (h.block k (Array.getElem?_eq_some_iff.1 hk).1 hne).trans hk, h.size, fun B U hu hl hs => h.below B U hu (Nat.le_trans hl h1) hs⟩
theorem StoredIn.refl (w : World) (lo hi : Nat) : StoredIn w w lo hi := StoredIn.of_below lo hi (Below.refl _ _)
theorem StoredIn.trans {w w1 w2 : World} {lo hi : Nat} (h : StoredIn w w1 lo hi) (g : StoredIn w1 w2 lo hi) : StoredIn w w2 lo hi :=
 ⟨fun k o hk hor => g.block k o (h.block k o hk hor) hor, Nat.le_trans h.size g.size, fun B U hu hl hs => g.below B U (h.below B U hu hl hs) hl (Nat.le_trans hs h.size)⟩
theorem MemOk.other {w w' : World} {M lo hi lo2 hi2 : Nat} {L : List MP} (h : MemOk w M lo hi L) (hs : StoredIn w w' lo2 hi2) (hd : hi ≤ lo2 ∨ hi2 ≤ lo) : MemOk w' M lo hi L := by
 obtain ⟨A, P, c, Q, h1, h2, h3, h4, h5⟩ := h
 refine ⟨A, P, c, Q, ⟨?_, h1.addr, ?_, ?_, ?_, h1.apart⟩, h2, h3, h4, h5⟩
 ·exact hs.block M _ h1.head (.inr (by rintro ⟨cs, hcs⟩; injection hcs with _ hcs _; exact absurd hcs (by decide)))
 ·intro hq
  obtain ⟨cur, hcur⟩ := h1.row hq
  exact ⟨cur, hs.block P _ hcur (.inr (by rintro ⟨cs, hcs⟩; injection hcs with _ hcs _; exact absurd hcs (by decide)))⟩
 ·intro i q hq j v hv
  have hQ : Q ≠ [] := by intro e; rw [e] at hq; cases hq
  obtain ⟨cur, hcur⟩ := h1.row hQ
  have hP := hs.block P _ hcur (.inr (by rintro ⟨cs, hcs⟩; injection hcs with _ hcs _; exact absurd hcs (by decide)))
  exact (World.cell?_of_block (w := w) (hP.trans hcur.symm)).trans (h1.cells i q hq j v hv)
 ·intro q hq
  have := h3 q hq
  exact hs.block q.2 _ (h1.data q hq) (.inl (by omega))
def newV (l : List S61) : Int := if l.any badR = true then 1 else if l.any farR = true then 4 else if apartB (sortM (l.map mpOf)) = true then 0 else 7
def memL (l : List S61) : List MP := sortM (l.map mpOf)
theorem new_at (w : World) (A0 : Option Addr) (c0 : Nat) (l : List S61) (hr0 : Kd.C k61 w A0 l.length l) (hc0 : l.length ≤ c0) (hl : l.length ≤ 1000) (hw : ∀ r, r ∈ l → 0 ≤ r.f0 ∧ r.f0 < 18446744073709551616) :
  (newV l ≠ 0 → Calls Tryz.prog 22 #[.slice A0 l.length c0] w fun e w' => e = .returned (.tuple #[.pointer none, .int .i64 (newV l)]) ∧ Below w.heap.size w w') ∧
  (newV l = 0 → Calls Tryz.prog 22 #[.slice A0 l.length c0] w fun e w' => e = .returned (.tuple #[.pointer (some ⟨w.heap.size, 0, none⟩), .int .i64 0]) ∧ Below w.heap.size w w' ∧ MemOk w' w.heap.size w.heap.size w'.heap.size (memL l)) := by
 have h := new_calls w A0 c0 l hr0 hc0 hl hw
 constructor
 ·intro hv
  refine h.mono ?_
  rintro e w' ⟨hb, hp⟩
  refine ⟨?_, hb⟩
  unfold NewPost at hp
  unfold newV at hv ⊢
  by_cases h1 : l.any badR = true
  ·rw [if_pos h1] at hp ⊢; exact hp
  ·rw [if_neg h1] at hp hv ⊢
   by_cases h2 : l.any farR = true
   ·rw [if_pos h2] at hp ⊢; exact hp
   ·rw [if_neg h2] at hp hv ⊢
    by_cases h3 : apartB (sortM (l.map mpOf)) = true
    ·rw [if_pos h3] at hv; exact absurd rfl hv
    ·rw [if_neg h3] at hp ⊢; exact hp
 ·intro hv
  refine h.mono ?_
  rintro e w' ⟨hb, hp⟩
  unfold NewPost at hp
  unfold newV at hv
  by_cases h1 : l.any badR = true
  ·rw [if_pos h1] at hv; exact absurd hv (by decide)
  ·rw [if_neg h1] at hp hv
   by_cases h2 : l.any farR = true
   ·rw [if_pos h2] at hv; exact absurd hv (by decide)
   ·rw [if_neg h2] at hp hv
    by_cases h3 : apartB (sortM (l.map mpOf)) = true
    ·rw [if_pos h3] at hp
     obtain ⟨A, P, c, Q, he, hM, hQ, hB⟩ := hp
     have hlen : Q.length = l.length := by
      have h4 := congrArg List.length hQ
      rw [List.length_map, (sortM_perm _).length_eq, List.length_map] at h4
      exact h4
     refine ⟨he, hb, A, P, c, Q, hM, hQ, fun q hq => ⟨hB q hq, (Array.getElem?_eq_some_iff.1 (hM.data q hq)).1⟩, ?_, by omega⟩
     intro q hq
     have hm : q.1 ∈ sortM (l.map mpOf) := by rw [← hQ]; exact List.mem_map.2 ⟨q, hq, rfl⟩
     obtain ⟨r, hr, e⟩ := List.mem_map.1 ((sortM_perm _).mem_iff.1 hm)
     rw [← e]
     refine good_of r ?_ ?_ (hw r hr).1
     ·have := List.any_eq_false.1 (Bool.eq_false_iff.2 h1) r hr; simpa using this
     ·have := List.any_eq_false.1 (Bool.eq_false_iff.2 h2) r hr; simpa using this
    ·rw [if_neg h3] at hv; exact absurd hv (by decide)
theorem at_of {Q : List (MP × Nat)} {i : Nat} {p : MP} (h : (Q.map (·.1))[i]? = some p) : ∃ b, Q[i]? = some (p, b) := by
 rw [List.getElem?_map] at h
 obtain ⟨q, hq, rfl⟩ := Option.map_eq_some_iff.1 h
 exact ⟨q.2, hq⟩
theorem not_of {Q : List (MP × Nat)} {i : Nat} {at_ n : Int} (h : ∀ (j : Nat) p, j < i → (Q.map (·.1))[j]? = some p → ¬ p.has at_ n) : ∀ (j : Nat) q, j < i → Q[j]? = some q → ¬ q.1.has at_ n :=
 fun j q hj hq => h j q.1 hj (by rw [List.getElem?_map, hq]; rfl)
theorem load_at {w : World} {M lo hi : Nat} {L : List MP} (h : MemOk w M lo hi L) (at_ n : Int) (h0 : 0 ≤ at_) (h1 : at_ < 18446744073709551616) :
  Calls Tryz.prog 46 #[.pointer (some ⟨M, 0, none⟩), .int .u64 at_, .int .i64 n] w fun e w' => e = .returned (.tuple #[.int .u64 (mload L at_ n).1, .int .i64 (mload L at_ n).2]) ∧ Below w.heap.size w w' := by
 obtain ⟨A, P, c, Q, hM, rfl, hB, hg, hl⟩ := h
 unfold mload
 by_cases hn : n = 1 ∨ n = 8
 ·rw [if_pos hn]
  cases ha : mat_ (Q.map (·.1)) at_ n with
  | none => exact load_none w M A P c Q at_ n hM hg hl h0 h1 hn (fun q hq => mat_none ha q.1 (List.mem_map.2 ⟨q, hq, rfl⟩))
  | some q =>
   obtain ⟨i, p⟩ := q
   obtain ⟨h2, h3, h4⟩ := mat_some ha
   obtain ⟨b, hb⟩ := at_of h2
   exact load_some w M A P c Q at_ n hM hg hl h0 h1 hn i p b hb h3 (not_of h4)
 ·rw [if_neg hn]
  exact load_bad w M at_ n (by omega) (by omega)
theorem word_at {w : World} {M lo hi : Nat} {L : List MP} (h : MemOk w M lo hi L) (at_ : Int) (h0 : 0 ≤ at_) (h1 : at_ < 18446744073709551616) :
  Calls Tryz.prog 25 #[.pointer (some ⟨M, 0, none⟩), .int .u64 at_] w fun e w' => e = .returned (.tuple #[.int .u32 (mword L at_).1, .int .i64 (mword L at_).2]) ∧ Below w.heap.size w w' := by
 obtain ⟨A, P, c, Q, hM, rfl, hB, hg, hl⟩ := h
 unfold mword
 by_cases h4 : at_ % 4 = 0
 ·rw [if_pos h4]
  cases ha : mat_ (Q.map (·.1)) at_ 4 with
  | none => exact word_none w M A P c Q at_ hM hg hl h0 h1 h4 (fun q hq => mat_none ha q.1 (List.mem_map.2 ⟨q, hq, rfl⟩))
  | some q =>
   obtain ⟨i, p⟩ := q
   obtain ⟨h2, h3, h5⟩ := mat_some ha
   obtain ⟨b, hb⟩ := at_of h2
   have := word_some w M A P c Q at_ hM hg hl h0 h1 h4 i p b hb h3 (not_of h5)
   simp only at this ⊢
   by_cases hk : p.k = 1
   ·simp only [if_pos hk] at this ⊢; exact this
   ·simp only [if_neg hk] at this ⊢; exact this
 ·rw [if_neg h4]
  exact word_align w M at_ h0 h4
theorem setB_isB (d : List Int) (o : Nat) (bs : List Int) (hd : isB d) (hb : isB bs) : isB (setB d o bs) := by
 intro x hx
 unfold setB at hx
 rcases List.mem_append.1 hx with hx | hx
 ·rcases List.mem_append.1 hx with hx | hx
  ·exact hd x (List.mem_of_mem_take hx)
  ·exact hb x hx
 ·exact hd x (List.mem_of_mem_drop hx)
theorem store_at {w : World} {M lo hi : Nat} {L : List MP} (h : MemOk w M lo hi L) (at_ n v : Int) (h0 : 0 ≤ at_) (h1 : at_ < 18446744073709551616) (v0 : 0 ≤ v) (v1 : v < 18446744073709551616) :
  Calls Tryz.prog 45 #[.pointer (some ⟨M, 0, none⟩), .int .u64 at_, .int .i64 n, .int .u64 v] w fun e w' => e = .returned (.int .i64 (mstore L at_ n v).1) ∧ StoredIn w w' lo hi ∧ MemOk w' M lo hi (mstore L at_ n v).2 := by
 have hok := h
 obtain ⟨A, P, c, Q, hM, rfl, hB, hg, hl⟩ := h
 unfold mstore
 by_cases hn : n = 1 ∨ n = 8
 ·rw [if_pos hn]
  cases ha : mat_ (Q.map (·.1)) at_ n with
  | none => exact (store_none w M A P c Q at_ n v hM hg hl h0 h1 hn (fun q hq => mat_none ha q.1 (List.mem_map.2 ⟨q, hq, rfl⟩))).mono fun e w' ⟨he, hb⟩ => ⟨he, StoredIn.of_below lo hi hb, hok.below hb⟩
  | some q =>
   obtain ⟨i, p⟩ := q
   obtain ⟨h2, h3, h4⟩ := mat_some ha
   obtain ⟨b, hb⟩ := at_of h2
   simp only
   by_cases hk : p.k = 3
   ·rw [if_pos hk]
    refine (store_some w M A P c Q at_ n v hM hg hl h0 h1 hn v0 v1 i p b hb h3 (not_of h4) hk).mono ?_
    rintro e w' ⟨he, hT, hM'⟩
    have hmem : (p, b) ∈ Q := List.mem_of_getElem? hb
    have hbb := hB _ hmem
    obtain ⟨g1, g2, g3, g4, g5, g6, g7⟩ := hg _ hmem
    simp only at g1 g2 g3 g4 g5 g6 g7
    obtain ⟨x1, x2, x3⟩ := h3
    refine ⟨he, StoredIn.of_touch hbb.1 hbb.2 ⟨_, hM.data _ hmem⟩ hT, A, P, c, _, hM', ?_, ?_, ?_, by rw [List.length_set]; exact hl⟩
    ·rw [List.map_set]
    ·intro q hq
     rcases List.mem_or_eq_of_mem_set hq with hq | rfl
     ·exact hB q hq
     ·exact hbb
    ·intro q hq
     rcases List.mem_or_eq_of_mem_set hq with hq | rfl
     ·exact hg q hq
     ·have hlen := setB_length p.d (at_ - p.a).toNat (leB v n.toNat) (by rw [leB_length]; simp only at x1 x2 x3; omega)
      refine ⟨g1, g2, g3, g4, ?_, ?_, setB_isB _ _ _ g7 (leB_isB _ _)⟩
      ·simp only [hlen]; exact g5
      ·simp only [hlen]; exact g6
   ·rw [if_neg hk]
    exact (store_kept w M A P c Q at_ n v hM hg hl h0 h1 hn i p b hb h3 (not_of h4) hk).mono fun e w' ⟨he, hb⟩ => ⟨he, StoredIn.of_below lo hi hb, hok.below hb⟩
 ·rw [if_neg hn]
  exact (store_bad w M at_ n v (by omega) (by omega)).mono fun e w' ⟨he, hb⟩ => ⟨he, StoredIn.of_below lo hi hb, hok.below hb⟩
theorem one_region {w : World} {o : Obj} (r : S61) (ho : o = .cells #[.int .u64 r.f0, .int .i64 r.f1, .string r.f2] 61 (0, 0)) : Kd.C k61 (w.alloc o) (some ⟨w.heap.size, 0, none⟩) ([r] : List S61).length [r] := by
 subst ho
 refine ⟨rfl, by simp, fun _ => ⟨_, rfl, fun j p hj => ⟨[.int .u64 p.f0, .int .i64 p.f1, .string p.f2], rfl, k61_mk _ p, fun i u hu => ?_⟩⟩⟩
 obtain ⟨rfl, rfl⟩ : j = 0 ∧ p = r := by
  cases j with
  | zero => simp at hj; exact ⟨rfl, hj.symm⟩
  | succ j => simp at hj
 have ht := top_ w (.cells #[.int .u64 p.f0, .int .i64 p.f1, .string p.f2] 61 (0, 0))
 have hc := blk_cell ht i
 have e : (⟨w.heap.size, 0, none⟩ : Addr).add (0 * k61.sz + i) = ⟨w.heap.size, i, none⟩ := by
  rw [Nat.zero_mul, Nat.zero_add]
  unfold Addr.add
  split <;> simp_all
 rw [e, hc]
 simpa using hu
theorem big_loop (l : List S61) (hl : l.length ≤ 20) : ∀ (d i k : Nat), i + d = l.length → 2 * d + 2 ≤ k → ∃ b, cleatref07_Big.l0 k l (i : Int) = some b
 | 0, i, k, hi, hk => by
  obtain ⟨k, rfl⟩ : ∃ m, k = m + 2 := ⟨k - 2, by omega⟩
  simp only [cleatref07_Big.l0]
  rw [if_neg (by omega)]
  simp only [cleatref07_Big.j1]
  exact ⟨_, if_neg (by decide)⟩
 | d + 1, i, k, hi, hk => by
  obtain ⟨k, rfl⟩ : ∃ m, k = m + 2 := ⟨k - 2, by omega⟩
  obtain ⟨b, hb⟩ := big_loop l hl d (i + 1) k (by omega) (by omega)
  simp only [cleatref07_Big.l0]
  rw [if_pos (by omega), show decide ((l.length : Int) ≤ 20) = true by simp; omega]
  simp only [cleatref07_Big.j1]
  rw [if_pos trivial, if_pos (by omega), if_pos (by omega), show wrap64 ((i : Int) + 1) = ((i + 1 : Nat) : Int) by unfold wrap64; omega, hb]
  (repeat' split) <;> exact ⟨_, rfl⟩
theorem big_at (l : List S61) : ∃ b, cleatref07_Big.f 100 l = some b ∧ (b = false → l.length ≤ 20) := by
 by_cases hl : l.length ≤ 20
 ·obtain ⟨b, hb⟩ := big_loop l hl l.length 0 100 (by omega) (by omega)
  exact ⟨b, hb, fun _ => hl⟩
 ·refine ⟨true, ?_, fun h => by cases h⟩
  unfold cleatref07_Big.f
  simp only [cleatref07_Big.l0]
  rw [if_pos (by omega), show decide ((l.length : Int) ≤ 20) = false by simp; omega]
  simp only [cleatref07_Big.j1]
  rw [if_neg (by decide)]
  congr 1
  simp
  omega
end Go.Proofs.YtblnfngigdipcaaGreatDoor.MW
namespace Go.Proofs.YtblnfngigdipcaaGreatDoor.ST
open Go.RowKit Go.Proofs.YtblnfngigdipcaaGreatDoor.P Go.Proofs.YtblnfngigdipcaaGreatDoorW.PrintWords Go.Proofs.YtblnfngigdipcaaGreatDoorW.PrintLast Go.Proofs.YtblnfngigdipcaaGreatDoorW.PrintMore Go.Proofs.YtblnfngigdipcaaGreatDoor.MW
structure Run (w0 w : World) (M mb lo hi : Nat) (L : List MP) (c : CPU) (i : INS) (t : Value) : Prop where
 mac : Mac w M c (.pointer (some ⟨mb, 0, none⟩)) i t
 mem : MemOk w mb lo hi L
 st : StoredIn w0 w lo hi
 base : w0.heap.size ≤ M
 top : hi ≤ w0.heap.size
theorem Run.step {w0 w w' : World} {M mb lo hi : Nat} {L : List MP} {c : CPU} {i : INS} {t : Value} (h : Run w0 w M mb lo hi L c i t) (hb : Below w.heap.size w w') : Run w0 w' M mb lo hi L c i t :=
 ⟨h.mac.below hb, h.mem.below hb, h.st.trans (StoredIn.of_below lo hi hb), h.base, h.top⟩
theorem MemOk.only {w w' : World} {M mb lo hi : Nat} {L : List MP} {A : Array Value} (h : MemOk w mb lo hi L) (hM : w.heap[M]? = some (.cells A 143 (0, 0))) (ho : Only w w' M) : MemOk w' mb lo hi L := by
 obtain ⟨R, P, cc, Q, hm, h2, h3, h4, h5⟩ := h
 have kp : ∀ (k : Nat) (cs : Array Value) (T : TypeId), T ≠ 143 → w.heap[k]? = some (.cells cs T (0, 0)) → w'.heap[k]? = some (.cells cs T (0, 0)) := by
  intro k cs T hT hk
  refine (ho.block k (blk_lt hk) ?_).trans hk
  rintro rfl
  rw [hM] at hk
  injection hk with hk
  injection hk with _ hk _
  exact hT hk.symm
 refine ⟨R, P, cc, Q, ⟨kp mb _ _ (by decide) hm.head, hm.addr, ?_, ?_, ?_, hm.apart⟩, h2, h3, h4, h5⟩
 ·intro hq
  obtain ⟨cur, hcur⟩ := hm.row hq
  exact ⟨cur, kp P _ _ (by decide) hcur⟩
 ·intro j q hq k v hv
  have hQ : Q ≠ [] := by intro e; rw [e] at hq; cases hq
  obtain ⟨cur, hcur⟩ := hm.row hQ
  exact (World.cell?_of_block (w := w) ((kp P _ _ (by decide) hcur).trans hcur.symm)).trans (hm.cells j q hq k v hv)
 ·intro q hq
  exact kp q.2 _ _ (by decide) (hm.data q hq)
theorem Run.only {w0 w w' : World} {M mb lo hi : Nat} {L : List MP} {c c' : CPU} {i : INS} {t t' : Value} (h : Run w0 w M mb lo hi L c i t) (ho : Only w w' M) (hm : Mac w' M c' (.pointer (some ⟨mb, 0, none⟩)) i t') : Run w0 w' M mb lo hi L c' i t' := by
 refine ⟨hm, MemOk.only h.mem h.mac ho, ⟨?_, Nat.le_trans h.st.size ho.size, ?_⟩, h.base, h.top⟩
 ·intro k o hk hor
  have hk0 : k < w0.heap.size := blk_lt hk
  have h1 := h.st.block k o hk hor
  exact (ho.block k (blk_lt h1) (by have := h.base; omega)).trans h1
 ·intro B U hu hl hs
  exact ho.below B U (h.st.below B U hu hl hs) (Nat.le_trans hs h.base) (Nat.le_trans hs h.st.size)
theorem Run.stored {w0 w w' : World} {M mb lo hi : Nat} {L L' : List MP} {c : CPU} {i : INS} {t : Value} (h : Run w0 w M mb lo hi L c i t) (hs : StoredIn w w' lo hi) (hm : MemOk w' mb lo hi L') : Run w0 w' M mb lo hi L' c i t :=
 ⟨hs.block M _ h.mac (.inl (by have := h.base; have := h.top; omega)), hm, h.st.trans hs, h.base, h.top⟩
structure CPU.ok (c : CPU) : Prop where
 x : ∀ n, 0 ≤ c.x n ∧ c.x n < 18446744073709551616
 sp : 0 ≤ c.sp ∧ c.sp < 18446744073709551616
 pc : 0 ≤ c.pc ∧ c.pc < 18446744073709551616
theorem CPU.ok.reg {c : CPU} (h : c.ok) (n : Int) (st : Bool) : 0 ≤ c.reg n st ∧ c.reg n st < 18446744073709551616 := by
 unfold CPU.reg
 split
 ·exact h.x _
 ·split
  ·exact h.sp
  ·omega
theorem u64_range (v : Int) : 0 ≤ IntKind.u64.wrap v ∧ IntKind.u64.wrap v < 18446744073709551616 := by
 rw [IntKind.wrap_u64]; omega
theorem CPU.ok.put {c : CPU} (h : c.ok) (n : Int) (st : Bool) (v : Int) (hv : 0 ≤ v ∧ v < 18446744073709551616) : (c.put n st v).ok := by
 unfold CPU.put
 split
 ·refine ⟨fun k => ?_, h.sp, h.pc⟩
  unfold CPU.setX
  simp only
  split
  ·exact hv
  ·exact h.x k
 ·split
  ·exact ⟨h.x, hv, h.pc⟩
  ·exact h
theorem load_of (c : CPU) (i : INS) (t : Value) (w0 w : World) (M mb lo hi : Nat) (L : List MP) (h : Run w0 w M mb lo hi L c i t) (p n : Int) (p0 : 0 ≤ p) (p1 : p < 18446744073709551616) (d0 : 0 ≤ i.d) (d1 : i.d ≤ 31) :
  Calls Tryz.prog 161 #[.pointer (some ⟨M, 0, none⟩), .int .u64 p, .int .i64 n] w fun e w' => e = .returned (.int .i64 (mload L p n).2) ∧ Run w0 w' M mb lo hi L (if (mload L p n).2 = 0 then c.put i.d false (mload L p n).1 else c) i t := by
 have cm : w.cell? ⟨M, 37, none⟩ = some (.pointer (some ⟨mb, 0, none⟩)) := (h.mac.cell 37).trans rfl
 have HL := aq (fun w (hm : MemOk w mb lo hi L) => load_at hm p n p0 p1)
 have HP := aq (fun v w hm => put_at c (.pointer (some ⟨mb, 0, none⟩)) i t M v false w hm d0 d1)
 have H := aq h
 clear h p0 p1 d0 d1
 generalize mload L p n = r at *
 obtain ⟨v, e⟩ := r
 by_cases he : e = 0
 ·subst he
  rw [if_pos rfl]
  go_enter Tryz.func161, Tryz.ntmps161
  go_wp2_with fail
  refine (HL.out _ H.out.mem).mono ?_
  rintro e w1 ⟨rfl, hb⟩
  have H1 := aq (H.out.step hb)
  clear hb
  go_wp2_with fail
  refine (HP.out _ _ H1.out.mac).mono ?_
  rintro e w2 ⟨rfl, ho, hm⟩
  have H2 := aq (H1.out.only ho hm)
  clear ho hm
  go_wp2
  go_ret
  exact ⟨rfl, H2.out⟩
 ·rw [if_neg he]
  have de : (e == 0) = false := by simpa using he
  go_enter Tryz.func161, Tryz.ntmps161
  go_wp2_with fail
  refine (HL.out _ H.out.mem).mono ?_
  rintro e w1 ⟨rfl, hb⟩
  have H1 := aq (H.out.step hb)
  clear hb
  go_wp2
  go_ret
  exact ⟨rfl, H1.out⟩
theorem load_mp (M mb : Nat) (w : World) (h : w.cell? ⟨M, 37, none⟩ = some (.pointer (some ⟨mb, 0, none⟩))) : Sem.run Tryz.prog (Instr.loadAt 37 (.pointer (some ⟨M, 37, none⟩))) w = .ok (.pointer (some ⟨mb, 0, none⟩)) w := by go_simp
theorem MacE.ld_im {w : World} {M : Nat} {mp : Value} {i : INS} {t : Value} (h : MacE w M mp i t) : Sem.run Tryz.prog (Instr.loadAt 3 (.pointer (some ⟨M, 43, none⟩))) w = .ok (.int .i64 i.im) w := by
 obtain ⟨c, h⟩ := h
 exact load_int M 43 i.im w ((h.cell 43).trans rfl)
attribute [-go_sem] Instr.loadAt in
theorem store_of (c : CPU) (i : INS) (t : Value) (w0 w : World) (M mb lo hi : Nat) (L : List MP) (h : Run w0 w M mb lo hi L c i t) (hc : c.ok) (n : Int) (n0 : 0 ≤ i.n) (n1 : i.n ≤ 31) (d0 : 0 ≤ i.d) (d1 : i.d ≤ 31) :
  Calls Tryz.prog 163 #[.pointer (some ⟨M, 0, none⟩), .int .i64 n] w fun e w' => e = .returned (.int .i64 (mstore L (c.base i) n (c.reg i.d false)).1) ∧ Run w0 w' M mb lo hi (mstore L (c.base i) n (c.reg i.d false)).2 c i t := by
 have HR1 := aq (show Run w0 w.drew M mb lo hi L c i t from h.step (below_drew1 (Below.refl _ _)))
 have b0 := aq (show 0 ≤ c.base i from (u64_range _).1)
 have b1 := aq (show c.base i < 18446744073709551616 from (u64_range _).2)
 have r0 := aq (hc.reg i.d false).1
 have r1 := aq (hc.reg i.d false).2
 replace n0 := aq n0
 replace n1 := aq n1
 replace d0 := aq d0
 replace d1 := aq d1
 have hl1 := fun (w' : World) (h : Mac w' M c (.pointer (some ⟨mb, 0, none⟩)) i t) => load_mp M mb w' ((h.cell 37).trans rfl)
 have hl2 := fun (w' : World) (h : Mac w' M c (.pointer (some ⟨mb, 0, none⟩)) i t) => load_int M 39 i.d w' ((h.cell 39).trans rfl)
 clear h hc
 go_enter Tryz.func163, Tryz.ntmps163
 go_wp2
 go_region_held3 (fun w' => Mac w' M c (.pointer (some ⟨mb, 0, none⟩)) i t) (with_reducible first | exact HR1.out.mac | exact HR2.out.mac | exact HR3.out.mac | exact HR4.out.mac) (first | (go_at_call 162; refine (base_at c (.pointer (some ⟨mb, 0, none⟩)) i t M _ HR1.out.mac n0.out n1.out).mono ?_; rintro e w2 ⟨rfl, hb⟩; have HR2 := aq (HR1.out.step hb); clear hb) | (go_at_call 160; refine (get_at c (.pointer (some ⟨mb, 0, none⟩)) i t M i.d false _ HR2.out.mac d0.out d1.out).mono ?_; rintro e w3 ⟨rfl, hb⟩; have HR3 := aq (HR2.out.step hb); clear hb) | (go_at_call 45; refine (store_at HR3.out.mem _ _ _ b0.out b1.out r0.out r1.out).mono ?_; rintro e w4 ⟨rfl, hs, hm⟩; have HR4 := aq (HR3.out.stored hs hm); clear hs hm))
 all_goals
  go_wp2
  go_ret
  exact ⟨rfl, HR4.out⟩
theorem plain_22 (c : CPU) (i : INS) (t : Value) (w0 w : World) (M mb lo hi : Nat) (L : List MP) (h : Run w0 w M mb lo hi L c i t) (hc : c.ok) (ho : i.o = 22) (n0 : 0 ≤ i.n) (n1 : i.n ≤ 31) (d0 : 0 ≤ i.d) (d1 : i.d ≤ 31) :
  Calls Tryz.prog 85 #[.pointer (some ⟨M, 0, none⟩)] w fun e w' => e = .returned (.int .i64 (mload L (c.base i) 8).2) ∧ Run w0 w' M mb lo hi L (if (mload L (c.base i) 8).2 = 0 then c.put i.d false (mload L (c.base i) 8).1 else c) i t := by
 have co : w.cell? ⟨M, 38, none⟩ = some (.int .i64 i.o) := (h.mac.cell 38).trans rfl
 rw [ho] at co
 have HR1 := aq h
 have HC := aq hc
 have HL := aq (fun w h => load_of c i t w0 w M mb lo hi L h (c.base i) 8 (u64_range _).1 (u64_range _).2 d0 d1)
 clear h hc ho
 replace n0 := aq n0
 replace n1 := aq n1
 replace d0 := aq d0
 replace d1 := aq d1
 generalize mload L (c.base i) 8 = q at *
 generalize (if q.2 = 0 then c.put i.d false q.1 else c) = c2 at *
 go_enter Tryz.func85, Tryz.ntmps85
 go_wp2_with (first | (go_at_call 162; refine (base_at c (.pointer (some ⟨mb, 0, none⟩)) i t M _ HR1.out.mac n0.out n1.out).mono ?_; rintro e w2 ⟨rfl, hb⟩; have HR2 := aq (HR1.out.step hb); clear hb) | (go_at_call 161; refine (HL.out _ HR2.out).mono ?_; rintro e w3 ⟨rfl, hr⟩; have HR3 := aq hr; clear hr))
 go_ret
 exact ⟨rfl, HR3.out⟩
theorem plain_24 (c : CPU) (i : INS) (t : Value) (w0 w : World) (M mb lo hi : Nat) (L : List MP) (h : Run w0 w M mb lo hi L c i t) (hc : c.ok) (ho : i.o = 24) (n0 : 0 ≤ i.n) (n1 : i.n ≤ 31) (d0 : 0 ≤ i.d) (d1 : i.d ≤ 31) :
  Calls Tryz.prog 85 #[.pointer (some ⟨M, 0, none⟩)] w fun e w' => e = .returned (.int .i64 (mload L (c.base i) 1).2) ∧ Run w0 w' M mb lo hi L (if (mload L (c.base i) 1).2 = 0 then c.put i.d false (mload L (c.base i) 1).1 else c) i t := by
 have co : w.cell? ⟨M, 38, none⟩ = some (.int .i64 i.o) := (h.mac.cell 38).trans rfl
 rw [ho] at co
 have HR1 := aq h
 have HC := aq hc
 have HL := aq (fun w h => load_of c i t w0 w M mb lo hi L h (c.base i) 1 (u64_range _).1 (u64_range _).2 d0 d1)
 clear h hc ho
 replace n0 := aq n0
 replace n1 := aq n1
 replace d0 := aq d0
 replace d1 := aq d1
 generalize mload L (c.base i) 1 = q at *
 generalize (if q.2 = 0 then c.put i.d false q.1 else c) = c2 at *
 go_enter Tryz.func85, Tryz.ntmps85
 go_wp2_with (first | (go_at_call 162; refine (base_at c (.pointer (some ⟨mb, 0, none⟩)) i t M _ HR1.out.mac n0.out n1.out).mono ?_; rintro e w2 ⟨rfl, hb⟩; have HR2 := aq (HR1.out.step hb); clear hb) | (go_at_call 161; refine (HL.out _ HR2.out).mono ?_; rintro e w3 ⟨rfl, hr⟩; have HR3 := aq hr; clear hr))
 go_ret
 exact ⟨rfl, HR3.out⟩
theorem plain_23 (c : CPU) (i : INS) (t : Value) (w0 w : World) (M mb lo hi : Nat) (L : List MP) (h : Run w0 w M mb lo hi L c i t) (hc : c.ok) (ho : i.o = 23) (n0 : 0 ≤ i.n) (n1 : i.n ≤ 31) (d0 : 0 ≤ i.d) (d1 : i.d ≤ 31) :
  Calls Tryz.prog 85 #[.pointer (some ⟨M, 0, none⟩)] w fun e w' => e = .returned (.int .i64 (mstore L (c.base i) 8 (c.reg i.d false)).1) ∧ Run w0 w' M mb lo hi (mstore L (c.base i) 8 (c.reg i.d false)).2 c i t := by
 have co : w.cell? ⟨M, 38, none⟩ = some (.int .i64 i.o) := (h.mac.cell 38).trans rfl
 rw [ho] at co
 have HR1 := aq h
 have HC := aq hc
 clear h hc ho
 replace n0 := aq n0
 replace n1 := aq n1
 replace d0 := aq d0
 replace d1 := aq d1
 go_enter Tryz.func85, Tryz.ntmps85
 go_wp2_with (first | (go_at_call 163; refine (store_of c i t w0 _ M mb lo hi L HR1.out HC.out _ n0.out n1.out d0.out d1.out).mono ?_; rintro e w3 ⟨rfl, hr⟩; have HR3 := aq hr; clear hr))
 go_ret
 exact ⟨rfl, HR3.out⟩
theorem plain_25 (c : CPU) (i : INS) (t : Value) (w0 w : World) (M mb lo hi : Nat) (L : List MP) (h : Run w0 w M mb lo hi L c i t) (hc : c.ok) (ho : i.o = 25) (n0 : 0 ≤ i.n) (n1 : i.n ≤ 31) (d0 : 0 ≤ i.d) (d1 : i.d ≤ 31) :
  Calls Tryz.prog 85 #[.pointer (some ⟨M, 0, none⟩)] w fun e w' => e = .returned (.int .i64 (mstore L (c.base i) 1 (c.reg i.d false)).1) ∧ Run w0 w' M mb lo hi (mstore L (c.base i) 1 (c.reg i.d false)).2 c i t := by
 have co : w.cell? ⟨M, 38, none⟩ = some (.int .i64 i.o) := (h.mac.cell 38).trans rfl
 rw [ho] at co
 have HR1 := aq h
 have HC := aq hc
 clear h hc ho
 replace n0 := aq n0
 replace n1 := aq n1
 replace d0 := aq d0
 replace d1 := aq d1
 go_enter Tryz.func85, Tryz.ntmps85
 go_wp2_with (first | (go_at_call 163; refine (store_of c i t w0 _ M mb lo hi L HR1.out HC.out _ n0.out n1.out d0.out d1.out).mono ?_; rintro e w3 ⟨rfl, hr⟩; have HR3 := aq hr; clear hr))
 go_ret
 exact ⟨rfl, HR3.out⟩
theorem plain_38 (c : CPU) (i : INS) (t : Value) (w0 w : World) (M mb lo hi : Nat) (L : List MP) (h : Run w0 w M mb lo hi L c i t) (hc : c.ok) (ho : i.o = 38) :
  Calls Tryz.prog 85 #[.pointer (some ⟨M, 0, none⟩)] w fun e w' => e = .returned (.int .i64 0) ∧ Run w0 w' M mb lo hi L c i t := by
 have co : w.cell? ⟨M, 38, none⟩ = some (.int .i64 i.o) := (h.mac.cell 38).trans rfl
 rw [ho] at co
 have HR1 := aq h
 have HC := aq hc
 clear h hc ho
 go_enter Tryz.func85, Tryz.ntmps85
 go_wp2
 go_ret
 exact ⟨rfl, HR1.out⟩
theorem plain_37_0 (c : CPU) (i : INS) (t : Value) (w0 w : World) (M mb lo hi : Nat) (L : List MP) (h : Run w0 w M mb lo hi L c i t) (hc : c.ok) (ho : i.o = 37) (hi_ : i.im = 0) :
  Calls Tryz.prog 85 #[.pointer (some ⟨M, 0, none⟩)] w fun e w' => e = .returned (.int .i64 0) ∧ Run w0 w' M mb lo hi L c i (.iface 225 (.int .u64 (c.x 0))) := by
 have co : w.cell? ⟨M, 38, none⟩ = some (.int .i64 i.o) := (h.mac.cell 38).trans rfl
 rw [ho] at co
 have HR1 := aq h
 have HI := aq hi_
 clear h hc ho hi_
 go_enter Tryz.func85, Tryz.ntmps85
 go_wp2_with (go_at_call 166; refine (call_0 c (.pointer (some ⟨mb, 0, none⟩)) i t M _ HR1.out.mac HI.out).mono ?_; rintro e w2 ⟨rfl, ho, hm⟩; have HR2 := aq (HR1.out.only ho hm); clear ho hm)
 go_ret
 exact ⟨rfl, HR2.out⟩
theorem plain_37_1 (c : CPU) (i : INS) (t : Value) (w0 w : World) (M mb lo hi : Nat) (L : List MP) (h : Run w0 w M mb lo hi L c i t) (hc : c.ok) (ho : i.o = 37) (hi_ : i.im = 1) :
  Calls Tryz.prog 85 #[.pointer (some ⟨M, 0, none⟩)] w fun e w' => e = .returned (.int .i64 0) ∧ Run w0 w' M mb lo hi L c i (.iface 223 (.int .u64 (c.x 0))) := by
 have co : w.cell? ⟨M, 38, none⟩ = some (.int .i64 i.o) := (h.mac.cell 38).trans rfl
 rw [ho] at co
 have HR1 := aq h
 have HI := aq hi_
 clear h hc ho hi_
 go_enter Tryz.func85, Tryz.ntmps85
 go_wp2_with (go_at_call 166; refine (call_1 c (.pointer (some ⟨mb, 0, none⟩)) i t M _ HR1.out.mac HI.out).mono ?_; rintro e w2 ⟨rfl, ho, hm⟩; have HR2 := aq (HR1.out.only ho hm); clear ho hm)
 go_ret
 exact ⟨rfl, HR2.out⟩
theorem plain_37_no (c : CPU) (i : INS) (t : Value) (w0 w : World) (M mb lo hi : Nat) (L : List MP) (h : Run w0 w M mb lo hi L c i t) (hc : c.ok) (ho : i.o = 37) (hi0 : i.im ≠ 0) (hi1 : i.im ≠ 1) :
  Calls Tryz.prog 85 #[.pointer (some ⟨M, 0, none⟩)] w fun e w' => e = .returned (.int .i64 10) ∧ Run w0 w' M mb lo hi L c i t := by
 have co : w.cell? ⟨M, 38, none⟩ = some (.int .i64 i.o) := (h.mac.cell 38).trans rfl
 rw [ho] at co
 have HR1 := aq h
 have HI := aq (And.intro hi0 hi1)
 clear h hc ho hi0 hi1
 go_enter Tryz.func85, Tryz.ntmps85
 go_wp2_with (go_at_call 166; refine (call_no c (.pointer (some ⟨mb, 0, none⟩)) i t M _ HR1.out.mac HI.out.1 HI.out.2).mono ?_; rintro e w2 ⟨rfl, hb⟩; have HR2 := aq (HR1.out.step hb); clear hb)
 go_ret
 exact ⟨rfl, HR2.out⟩
def MacP (w : World) (M : Nat) (mp : Value) (i : INS) (t : Value) (pc : Int) : Prop := ∃ c, c.pc = pc ∧ Mac w M c mp i t
theorem MacP.of {w : World} {M : Nat} {c : CPU} {mp : Value} {i : INS} {t : Value} (h : Mac w M c mp i t) : MacP w M mp i t c.pc := ⟨c, rfl, h⟩
theorem CPU.put_pc (c : CPU) (n : Int) (st : Bool) (v : Int) : (c.put n st v).pc = c.pc := by
 unfold CPU.put
 split
 ·rfl
 ·split <;> rfl
theorem MacP.put {w : World} {M : Nat} {c : CPU} {mp : Value} {i : INS} {t : Value} {n v : Int} {st : Bool} (h : Mac w M (c.put n st v) mp i t) : MacP w M mp i t c.pc := ⟨_, CPU.put_pc c n st v, h⟩
theorem putif_pc (c : CPU) (n v e : Int) : (if e = 0 then c.put n false v else c).pc = c.pc := by
 split
 ·exact CPU.put_pc _ _ _ _
 ·rfl
theorem MacP.puti {w : World} {M : Nat} {c c2 : CPU} {mp : Value} {i : INS} {t : Value} (h : Mac w M c2 mp i t) (hp : c2.pc = c.pc) : MacP w M mp i t c.pc := ⟨c2, hp, h⟩
theorem MacP.ld_pc {w : World} {M : Nat} {mp : Value} {i : INS} {t : Value} {pc : Int} (h : MacP w M mp i t pc) : Sem.run Tryz.prog (Instr.loadAt 22 (.pointer (some ⟨M, 32, none⟩))) w = .ok (.int .u64 pc) w := by
 obtain ⟨c, rfl, h⟩ := h
 exact load_u64 M 32 c.pc w ((h.cell 32).trans rfl)
theorem MacP.ld_im {w : World} {M : Nat} {mp : Value} {i : INS} {t : Value} {pc : Int} (h : MacP w M mp i t pc) : Sem.run Tryz.prog (Instr.loadAt 3 (.pointer (some ⟨M, 43, none⟩))) w = .ok (.int .i64 i.im) w := by
 obtain ⟨c, _, h⟩ := h
 exact load_int M 43 i.im w ((h.cell 43).trans rfl)
attribute [-go_sem] Instr.loadAt in
theorem plain_26 (c : CPU) (i : INS) (t : Value) (w0 w : World) (M mb lo hi : Nat) (L : List MP) (h : Run w0 w M mb lo hi L c i t) (hc : c.ok) (ho : i.o = 26) (d0 : 0 ≤ i.d) (d1 : i.d ≤ 31) :
  Calls Tryz.prog 85 #[.pointer (some ⟨M, 0, none⟩)] w fun e w' => e = .returned (.int .i64 (mload L (c.near i) 8).2) ∧ Run w0 w' M mb lo hi L (if (mload L (c.near i) 8).2 = 0 then c.put i.d false (mload L (c.near i) 8).1 else c) i t := by
 have co : w.cell? ⟨M, 38, none⟩ = some (.int .i64 i.o) := (h.mac.cell 38).trans rfl
 rw [ho] at co
 have hc38 := load_int M 38 26 w co
 have HR1 := aq h
 have HR2 := aq (show Run w0 w.drew M mb lo hi L c i t from h.step (below_drew1 (Below.refl _ _)))
 have hl1 := fun (w' : World) (h : MacP w' M (.pointer (some ⟨mb, 0, none⟩)) i t c.pc) => h.ld_pc
 have hl2 := fun (w' : World) (h : MacP w' M (.pointer (some ⟨mb, 0, none⟩)) i t c.pc) => h.ld_im
 have HL := aq (fun w h => load_of c i t w0 w M mb lo hi L h (c.near i) 8 (u64_range _).1 (u64_range _).2 d0 d1)
 clear d0 d1
 generalize mload L (c.near i) 8 = q at *
 have HPC := aq (putif_pc c i.d q.1 q.2)
 generalize (if q.2 = 0 then c.put i.d false q.1 else c) = c2 at *
 clear h hc ho
 go_enter Tryz.func85, Tryz.ntmps85
 go_upto_region 12 with fail
 clear hc38 co HR1
 go_region_held3 (fun w' => MacP w' M (.pointer (some ⟨mb, 0, none⟩)) i t c.pc) (with_reducible first | exact MacP.of HR2.out.mac | exact MacP.of HR3.out.mac | exact MacP.puti HR4.out.mac HPC.out) (first | (go_at_call 161; refine (HL.out _ HR2.out).mono ?_; rintro e w3 ⟨rfl, hr⟩; have HR4 := aq hr; clear hr))
 all_goals
  go_wp2
  go_ret
  exact ⟨rfl, HR4.out⟩
attribute [-go_sem] Instr.loadAt in
theorem plain_27 (c : CPU) (i : INS) (t : Value) (w0 w : World) (M mb lo hi : Nat) (L : List MP) (h : Run w0 w M mb lo hi L c i t) (hc : c.ok) (ho : i.o = 27) (d0 : 0 ≤ i.d) (d1 : i.d ≤ 31) :
  Calls Tryz.prog 85 #[.pointer (some ⟨M, 0, none⟩)] w fun e w' => e = .returned (.int .i64 0) ∧ Run w0 w' M mb lo hi L (c.put i.d false (c.near i)) i t := by
 have co : w.cell? ⟨M, 38, none⟩ = some (.int .i64 i.o) := (h.mac.cell 38).trans rfl
 rw [ho] at co
 have hc38 := load_int M 38 27 w co
 have HR1 := aq h
 have HR2 := aq (show Run w0 w.drew M mb lo hi L c i t from h.step (below_drew1 (Below.refl _ _)))
 have hl1 := fun (w' : World) (h : MacP w' M (.pointer (some ⟨mb, 0, none⟩)) i t c.pc) => h.ld_pc
 have hl2 := fun (w' : World) (h : MacP w' M (.pointer (some ⟨mb, 0, none⟩)) i t c.pc) => h.ld_im
 have HP := aq (fun (w : World) (hm : Mac w M c (.pointer (some ⟨mb, 0, none⟩)) i t) => put_at c (.pointer (some ⟨mb, 0, none⟩)) i t M (c.near i) false w hm d0 d1)
 clear d0 d1
 clear h hc ho
 go_enter Tryz.func85, Tryz.ntmps85
 go_upto_region 14 with fail
 clear hc38 co HR1
 go_region_held3 (fun w' => MacP w' M (.pointer (some ⟨mb, 0, none⟩)) i t c.pc) (with_reducible first | exact MacP.of HR2.out.mac | exact MacP.of HR3.out.mac | exact MacP.put HR4.out.mac) (first | (go_at_call 164; refine (HP.out _ HR2.out.mac).mono ?_; rintro e w4 ⟨rfl, ho, hm⟩; have HR4 := aq (HR2.out.only ho hm); clear ho hm))
 all_goals
  go_wp2
  go_ret
  exact ⟨rfl, HR4.out⟩
attribute [-go_sem] Instr.loadAt in
theorem plain_28 (c : CPU) (i : INS) (t : Value) (w0 w : World) (M mb lo hi : Nat) (L : List MP) (h : Run w0 w M mb lo hi L c i t) (hc : c.ok) (ho : i.o = 28) (d0 : 0 ≤ i.d) (d1 : i.d ≤ 31) (lo_ : Int) (hlo : bits_Low.f c.pc 12 = some lo_) :
  Calls Tryz.prog 85 #[.pointer (some ⟨M, 0, none⟩)] w fun e w' => e = .returned (.int .i64 0) ∧ Run w0 w' M mb lo hi L (c.put i.d false (IntKind.u64.wrap (IntKind.u64.wrap (c.pc - lo_) + IntKind.u64.wrap (4096 * IntKind.u64.wrap i.im)))) i t := by
 have co : w.cell? ⟨M, 38, none⟩ = some (.int .i64 i.o) := (h.mac.cell 38).trans rfl
 rw [ho] at co
 have hc38 := load_int M 38 28 w co
 have HR1 := aq h
 have HR2 := aq (show Run w0 w.drew M mb lo hi L c i t from h.step (below_drew1 (Below.refl _ _)))
 have hl1 := fun (w' : World) (h : MacP w' M (.pointer (some ⟨mb, 0, none⟩)) i t c.pc) => h.ld_pc
 have hl2 := fun (w' : World) (h : MacP w' M (.pointer (some ⟨mb, 0, none⟩)) i t c.pc) => h.ld_im
 have HP := aq (fun (w : World) (hm : Mac w M c (.pointer (some ⟨mb, 0, none⟩)) i t) => put_at c (.pointer (some ⟨mb, 0, none⟩)) i t M (IntKind.u64.wrap (IntKind.u64.wrap (c.pc - lo_) + IntKind.u64.wrap (4096 * IntKind.u64.wrap i.im))) false w hm d0 d1)
 clear d0 d1
 replace hlo := aq hlo
 clear h hc ho
 go_enter Tryz.func85, Tryz.ntmps85
 go_upto_region 16 with fail
 clear hc38 co HR1
 go_region_held3 (fun w' => MacP w' M (.pointer (some ⟨mb, 0, none⟩)) i t c.pc) (with_reducible first | exact MacP.of HR2.out.mac | exact MacP.of HR3.out.mac | exact MacP.put HR4.out.mac) (first | (go_at_call 165; refine (bits_Low.calls _ _ _ _ hlo.out).mono ?_; rintro e w3 ⟨rfl, hb⟩; have HR3 := aq (HR2.out.step hb); clear hb) | (go_at_call 164; refine (HP.out _ HR3.out.mac).mono ?_; rintro e w4 ⟨rfl, ho, hm⟩; have HR4 := aq (HR3.out.only ho hm); clear ho hm))
 all_goals
  go_wp2
  go_ret
  exact ⟨rfl, HR4.out⟩
theorem Run.tab {w0 w : World} {M mb lo hi : Nat} {L : List MP} {c : CPU} {i : INS} {t : Value} (h : Run w0 w M mb lo hi L c i t) (hT : TabW w0) (hlo : 0 < lo) : TabW w :=
 ⟨fun j hj => by
  have hc := hT.db j hj
  have hlt := World.block_lt_of_cell? w0 _ hc
  have ho := Array.getElem?_eq_getElem (xs := w0.heap) hlt
  have h1 := h.st.block 0 _ ho (.inl (by omega))
  exact (World.cell?_of_block (w := w0) (h1.trans ho.symm)).trans hc⟩
theorem plain_data (k : Nat) (c : CPU) (i : INS) (t : Value) (w0 w : World) (M mb lo hi : Nat) (L : List MP) (s r wto : Int) (wr : Bool) (g : FL) (h : Run w0 w M mb lo hi L c i t) (hTab : TabW w)
  (ho : ∀ n, n ∈ [(22 : Int), 23, 24, 25, 26, 27, 28, 37, 38] → i.o ≠ n) (d0 : 0 ≤ i.d) (d1 : i.d ≤ 31) (n0 : 0 ≤ i.n) (n1 : i.n ≤ 31) (m0 : 0 ≤ i.m) (m1 : i.m ≤ 31) (a0 : 0 ≤ i.a) (a1 : i.a ≤ 31)
  (hs : inst_Shape.f i.o = some s) (his : alu_Is.f k i.o i.d i.n i.m i.a i.im i.ms i.sh i.am i.cd = some true) (hop : aluOps i.o) (hw : WkRet (alu_fn i.o) i (c.args i s) c.f r g) (hwr : inst_Writes.f k i.o i.d i.n i.m i.a i.im i.ms i.sh i.am i.cd = some (wto, wr)) :
  Calls Tryz.prog 85 #[.pointer (some ⟨M, 0, none⟩)] w fun e w' => e = .returned (.int .i64 0) ∧ Run w0 w' M mb lo hi L ((c.setF g).put i.d (wr && (wto == 31)) r) i t := by
 have co : w.cell? ⟨M, 38, none⟩ = some (.int .i64 i.o) := (h.mac.cell 38).trans rfl
 have HR1 := aq h
 have HD := aq (data_at k c _ i t M w s r wto wr g h.mac d0 d1 n0 n1 m0 m1 a0 a1 hs his hop hw hwr hTab)
 have d22 : (i.o == 22) = false := by simpa using ho 22 (by decide)
 have d23 : (i.o == 23) = false := by simpa using ho 23 (by decide)
 have d24 : (i.o == 24) = false := by simpa using ho 24 (by decide)
 have d25 : (i.o == 25) = false := by simpa using ho 25 (by decide)
 have d26 : (i.o == 26) = false := by simpa using ho 26 (by decide)
 have d27 : (i.o == 27) = false := by simpa using ho 27 (by decide)
 have d28 : (i.o == 28) = false := by simpa using ho 28 (by decide)
 have d37 : (i.o == 37) = false := by simpa using ho 37 (by decide)
 have d38 : (i.o == 38) = false := by simpa using ho 38 (by decide)
 clear h hTab ho n0 n1 m0 m1 a0 a1 hs his hop hw hwr d0 d1
 generalize ((c.setF g).put i.d (wr && (wto == 31)) r) = c2 at *
 go_enter Tryz.func85, Tryz.ntmps85
 go_wp2_with (go_at_call 167; refine HD.out.mono ?_; rintro e w2 ⟨rfl, ho, hm⟩; have HR2 := aq (HR1.out.only ho hm); clear ho hm)
 go_ret
 exact ⟨rfl, HR2.out⟩
end Go.Proofs.YtblnfngigdipcaaGreatDoor.ST
namespace Go.Proofs.YtblnfngigdipcaaGreatDoor.MW
open Go.RowKit Go.Proofs.YtblnfngigdipcaaGreatDoor.P Go.Proofs.YtblnfngigdipcaaGreatDoorW.PrintWords Go.Proofs.YtblnfngigdipcaaGreatDoorW.PrintLast Go.Proofs.YtblnfngigdipcaaGreatDoorW.PrintMore
theorem newV_zero {l : List S61} (h : newV l = 0) : (∀ r, r ∈ l → badR r = false) ∧ (∀ r, r ∈ l → farR r = false) ∧ apartB (memL l) = true := by
 unfold newV at h
 by_cases h1 : l.any badR = true
 ·rw [if_pos h1] at h; exact absurd h (by decide)
 ·rw [if_neg h1] at h
  by_cases h2 : l.any farR = true
  ·rw [if_pos h2] at h; exact absurd h (by decide)
  ·rw [if_neg h2] at h
   by_cases h3 : apartB (sortM (l.map mpOf)) = true
   ·refine ⟨fun r hr => ?_, fun r hr => ?_, h3⟩
    ·have := List.any_eq_false.1 (Bool.eq_false_iff.2 h1) r hr; simpa using this
    ·have := List.any_eq_false.1 (Bool.eq_false_iff.2 h2) r hr; simpa using this
   ·rw [if_neg h3] at h; exact absurd h (by decide)
theorem memL_good {l : List S61} (h : newV l = 0) (hw : ∀ r, r ∈ l → 0 ≤ r.f0) : ∀ p, p ∈ memL l → p.good := by
 obtain ⟨h1, h2, h3⟩ := newV_zero h
 intro p hp
 obtain ⟨r, hr, rfl⟩ := List.mem_map.1 ((sortM_perm _).mem_iff.1 hp)
 exact good_of r (h1 r hr) (h2 r hr) (hw r hr)
end Go.Proofs.YtblnfngigdipcaaGreatDoor.MW
namespace Go.Proofs.YtblnfngigdipcaaGreatDoor.ST
open Go.RowKit Go.Proofs.YtblnfngigdipcaaGreatDoor.P Go.Proofs.YtblnfngigdipcaaGreatDoorW.PrintWords Go.Proofs.YtblnfngigdipcaaGreatDoorW.PrintLast Go.Proofs.YtblnfngigdipcaaGreatDoorW.PrintMore Go.Proofs.YtblnfngigdipcaaGreatDoor.MW
def evA (k v : Int) : Array Value := #[.int .i64 k, .int .u64 v]
theorem info_ev : (Tryz.prog.info? 55).map (·.size) = some 2 := by kernel_rfl
theorem under_ev : Tryz.prog.underlying 55 = some (.struct (match Tryz.prog.underlying 55 with | some (.struct fs) => fs | _ => #[])) := by kernel_rfl
theorem ev_one (k v : Int) : (evA k v).all (·.oneCell') = true := by simp [evA, Value.oneCell']
theorem three_new (w : World) (o1 o2 o3 : Obj) : ∃ W, W = ((w.alloc o1).alloc o2).alloc o3 ∧ W.heap[w.heap.size]? = some o1 ∧ W.heap[w.heap.size + 1]? = some o2 ∧ W.heap[w.heap.size + 1 + 1]? = some o3 ∧ Below w.heap.size w W ∧ W.heap.size = w.heap.size + 1 + 1 + 1 := by
 refine ⟨_, rfl, blk_alloc (blk_alloc (blk_new w o1) o2) o3, ?_, ?_, below_alloc (below_alloc (below_alloc (Below.refl _ _) _) _) _, ?_⟩
 ·have e : w.heap.size + 1 = (w.alloc o1).heap.size := by show _ = (w.heap.push o1).size; rw [Array.size_push]
  rw [e]
  exact blk_alloc (blk_new _ o2) o3
 ·have e : w.heap.size + 1 + 1 = ((w.alloc o1).alloc o2).heap.size := by show _ = ((w.heap.push o1).push o2).size; rw [Array.size_push, Array.size_push]
  rw [e]
  exact blk_new _ o3
 ·show (((w.heap.push o1).push o2).push o3).size = _
  rw [Array.size_push, Array.size_push, Array.size_push]
theorem two_sets {v : World} {b4 b5 : Nat} (h4 : v.heap[b4]? = some (.cells CPU.zero.a 27 (0, 0))) (h5 : v.heap[b5]? = some (.cells (evA 0 0) 55 (0, 0))) (hn : b4 ≠ b5) (c : CPU) (k u : Int) :
  ((v.setCells b4 0 c.l).setCells b5 0 (evA k u).toList).heap[b4]? = some (.cells c.a 27 (0, 0)) ∧ ((v.setCells b4 0 c.l).setCells b5 0 (evA k u).toList).heap[b5]? = some (.cells (evA k u) 55 (0, 0)) := by
 have f4 := blk_sets c.l 0 h4
 rw [CPU.sets_] at f4
 have f5 := blk_sets (evA k u).toList 0 (blk_sets_far c.l 0 hn.symm h5)
 have e : sets (evA 0 0) 0 (evA k u).toList = evA k u := by simp [sets, evA]
 rw [e] at f5
 exact ⟨blk_sets_far _ 0 hn f4, f5⟩
theorem step_word (c : CPU) (w : World) (mb lo hi : Nat) (L : List MP) (hm : MemOk w mb lo hi L) (hc : c.ok) (he : (mword L c.pc).2 ≠ 0) :
  Calls Tryz.prog 27 #[.agg c.a, .pointer (some ⟨mb, 0, none⟩)] w fun e w' => e = .returned (.tuple #[.agg CPU.zero.a, .agg (evA 0 0), .int .i64 (mword L c.pc).2]) ∧ Below w.heap.size w w' := by
 obtain ⟨W, hW, h2, h4, h5, hB, hS⟩ := three_new w (.cells c.a 27) (.cells CPU.zero.a 27) (.cells (evA 0 0) 55)
 have HW := aq hW
 have H2 := aq h2
 have H4 := aq h4
 have H5 := aq h5
 have HB := aq hB
 have HM := aq (hm.below hB)
 have HC := aq hc.pc
 have cp : W.cell? ⟨w.heap.size, 32, none⟩ = some (.int .u64 c.pc) := (blk_cell h2 32).trans rfl
 have HWD := aq (fun (W : World) (hm : MemOk W mb lo hi L) => word_at hm c.pc hc.pc.1 hc.pc.2)
 clear hW h2 h4 h5 hB hm hc hS
 generalize mword L c.pc = q at *
 obtain ⟨wd, er⟩ := q
 have de : (er == 0) = false := by simpa using he
 clear he
 go_enter Tryz.func27, Tryz.ntmps27
 go_upto_region 1 with fail
 change Code.wp _ _ _ _ (((w.alloc (.cells c.a 27)).alloc (.cells CPU.zero.a 27)).alloc (.cells (evA 0 0) 55))
 rw [← HW.out]
 clear HW
 go_upto_region 3 with (go_at_call 25; refine (HWD.out _ HM.out).mono ?_; rintro e w1 ⟨rfl, hb⟩; have K4 := aq (blk_below H4.out hb); have K5 := aq (blk_below H5.out hb); have KB := aq (below_step HB.out hb); clear hb)
 refine wp_region_lit ?_
 refine build_cpu0 rfl rfl ?_
 go_wp2_with (first | ((with_reducible refine gate_store (t := 27) (p := 4) (v := .tmp 21) rfl ?_); refine wpList_store_mid rfl 27 (.tmp 4) (.tmp 21) rfl (w.heap.size + 1) 0 CPU.zero.a rfl rfl (there_blk K4.out 0 37 (by decide)) info_cpu CPU.zero.one ?_) | ((with_reducible refine gate_store (t := 55) (p := 5) (v := .tmp 22) rfl ?_); refine wpList_store_mid rfl 55 (.tmp 5) (.tmp 22) rfl (w.heap.size + 1 + 1) 0 (evA 0 0) rfl rfl (there_blk (blk_sets_far _ 0 (Nat.succ_ne_self _) K5.out) 0 2 (by decide)) info_ev (ev_one 0 0) ?_))
 have F := aq (two_sets K4.out K5.out (by omega) CPU.zero 0 0)
 have FB := aq (below_sets (by omega : w.heap.size ≤ w.heap.size + 1 + 1) (evA 0 0).toList 0 (below_sets (Nat.le_succ w.heap.size) CPU.zero.l 0 KB.out))
 refine bodyPost_ret (results_list (rs := [.cell 4 27, .cell 5 55, .tmp 6]) rfl (by simp) (.cell (w.heap.size + 1) 27 CPU.zero.a (0, 0) _ rfl F.out.1 under_cpu rfl info_cpu (.cell (w.heap.size + 1 + 1) 55 (evA 0 0) (0, 0) _ rfl F.out.2 under_ev rfl info_ev (.tmp .nil)))) rfl ⟨rfl, FB.out⟩
def INS.zero : INS := ⟨0, 0, 0, 0, 0, 0, 0, 0, 0, 0⟩
theorem new_inst (w2 : World) (i : INS) {b4 b5 : Nat} {U : World} {o4 o5 : Obj} (h4 : w2.heap[b4]? = some o4) (h5 : w2.heap[b5]? = some o5) (hB : Below U.heap.size U w2) (hBs : U.heap.size ≤ w2.heap.size) :
  ((w2.alloc (.cells INS.zero.v 51)).setCells w2.heap.size 0 i.v.toList).heap[w2.heap.size]? = some (.cells i.v 51 (0, 0)) ∧ ((w2.alloc (.cells INS.zero.v 51)).setCells w2.heap.size 0 i.v.toList).heap[b4]? = some o4 ∧ ((w2.alloc (.cells INS.zero.v 51)).setCells w2.heap.size 0 i.v.toList).heap[b5]? = some o5 ∧ Below U.heap.size U ((w2.alloc (.cells INS.zero.v 51)).setCells w2.heap.size 0 i.v.toList) := by
 refine ⟨?_, ?_, ?_, ?_⟩
 ·have e : ST.sets INS.zero.v 0 i.v.toList = i.v := by simp [ST.sets, INS.v, INS.zero]
  have key : ∀ (vs : List Value) (A : Array Value), ST.sets INS.zero.v 0 vs = A → ((w2.alloc (.cells INS.zero.v 51)).setCells w2.heap.size 0 vs).heap[w2.heap.size]? = some (.cells A 51 (0, 0)) := by
   intro vs A hA
   rw [← hA]
   exact blk_sets vs 0 (blk_new w2 _)
  exact key _ _ e
 ·generalize i.v.toList = vs
  exact blk_sets_far vs 0 (Nat.ne_of_lt (blk_lt h4)) (blk_alloc h4 _)
 ·generalize i.v.toList = vs
  exact blk_sets_far vs 0 (Nat.ne_of_lt (blk_lt h5)) (blk_alloc h5 _)
 ·generalize i.v.toList = vs
  exact below_sets hBs vs 0 (below_alloc hB _)
theorem inst_one (i : INS) : i.v.all (·.oneCell') = true := by simp [INS.v, Value.oneCell']
theorem step_dec (k : Nat) (c : CPU) (w : World) (mb lo hi : Nat) (L : List MP) (hm : MemOk w mb lo hi L) (hc : c.ok) (hTab : TabW w) (wd er : Int) (i : INS) (hw : mword L c.pc = (wd, 0)) (hd : code_Decode.f k wd = some (i.o, i.d, i.n, i.m, i.a, i.im, i.ms, i.sh, i.am, i.cd, er)) (he : er ≠ 0) :
  Calls Tryz.prog 27 #[.agg c.a, .pointer (some ⟨mb, 0, none⟩)] w fun e w' => e = .returned (.tuple #[.agg CPU.zero.a, .agg (evA 0 0), .int .i64 er]) ∧ Below w.heap.size w w' := by
 obtain ⟨W, hW, h2, h4, h5, hB, hS⟩ := three_new w (.cells c.a 27) (.cells CPU.zero.a 27) (.cells (evA 0 0) 55)
 have HW := aq hW
 have H4 := aq h4
 have H5 := aq h5
 have HB := aq hB
 have HM := aq (hm.below hB)
 have cp : W.cell? ⟨w.heap.size, 32, none⟩ = some (.int .u64 c.pc) := (blk_cell h2 32).trans rfl
 have HWD := aq (fun (W : World) (hm : MemOk W mb lo hi L) => by have := word_at hm c.pc hc.pc.1 hc.pc.2; rw [hw] at this; exact this)
 have HDD := aq (fun (W : World) (hT : TabW W) => show Calls Tryz.prog 26 #[.int .u32 wd] W fun e w' => e = .returned (.tuple #[.agg i.v, .int .i64 er]) ∧ Below W.heap.size W w' from code_Decode.calls k wd i.o i.d i.n i.m i.a i.im i.ms i.sh i.am i.cd er W hd hT)
 have HT := aq (fun (W : World) (hb : Below w.heap.size w W) => TabW.below hTab hb)
 clear hW h2 h4 h5 hB hm hc hS hTab hw hd
 have de : (er == 0) = false := by simpa using he
 clear he
 go_enter Tryz.func27, Tryz.ntmps27
 go_upto_region 1 with fail
 change Code.wp _ _ _ _ (((w.alloc (.cells c.a 27)).alloc (.cells CPU.zero.a 27)).alloc (.cells (evA 0 0) 55))
 rw [← HW.out]
 clear HW
 go_upto_region 4 with (go_at_call 25; refine (HWD.out _ HM.out).mono ?_; rintro e w1 ⟨rfl, hb⟩; have K4 := aq (blk_below H4.out hb); have K5 := aq (blk_below H5.out hb); have KB := aq (below_step HB.out hb); clear hb)
 clear cp H4 H5 HB
 go_upto_region 6 with (first | (go_at_call 26; refine (HDD.out _ (HT.out _ KB.out)).mono ?_; rintro e w2 ⟨rfl, hb⟩; have H4 := aq (blk_below K4.out hb); have H5 := aq (blk_below K5.out hb); have HB := aq (below_step KB.out hb); clear hb) | ((with_reducible refine gate_store (t := 51) (p := 9) (v := .tmp 27) rfl ?_); refine wpList_store_mid rfl 51 (.tmp 9) (.tmp 27) rfl w2.heap.size 0 i.v rfl rfl (there_blk (blk_new w2 (.cells INS.zero.v 51)) 0 10 (by decide)) info_inst (inst_one i) ?_))
 have J := aq (new_inst w2 i H4.out H5.out HB.out HB.out.size)
 change Code.wp _ _ _ _ ((w2.alloc (.cells INS.zero.v 51)).setCells w2.heap.size 0 i.v.toList)
 generalize (w2.alloc (.cells INS.zero.v 51)).setCells w2.heap.size 0 i.v.toList = w3 at *
 clear K4 K5 KB H4 H5 HB
 refine wp_region_lit ?_
 refine build_cpu0 rfl rfl ?_
 go_wp2_with (first | ((with_reducible refine gate_store (t := 27) (p := 4) (v := .tmp 31) rfl ?_); refine wpList_store_mid rfl 27 (.tmp 4) (.tmp 31) rfl (w.heap.size + 1) 0 CPU.zero.a rfl rfl (there_blk J.out.2.1 0 37 (by decide)) info_cpu CPU.zero.one ?_) | ((with_reducible refine gate_store (t := 55) (p := 5) (v := .tmp 32) rfl ?_); refine wpList_store_mid rfl 55 (.tmp 5) (.tmp 32) rfl (w.heap.size + 1 + 1) 0 (evA 0 0) rfl rfl (there_blk (blk_sets_far _ 0 (Nat.succ_ne_self _) J.out.2.2.1) 0 2 (by decide)) info_ev (ev_one 0 0) ?_))
 have F := aq (two_sets J.out.2.1 J.out.2.2.1 (by omega) CPU.zero 0 0)
 have FB := aq (below_sets (by omega : w.heap.size ≤ w.heap.size + 1 + 1) (evA 0 0).toList 0 (below_sets (Nat.le_succ w.heap.size) CPU.zero.l 0 J.out.2.2.2))
 refine bodyPost_ret (results_list (rs := [.cell 4 27, .cell 5 55, .tmp 6]) rfl (by simp) (.cell (w.heap.size + 1) 27 CPU.zero.a (0, 0) _ rfl F.out.1 under_cpu rfl info_cpu (.cell (w.heap.size + 1 + 1) 55 (evA 0 0) (0, 0) _ rfl F.out.2 under_ev rfl info_ev (.tmp .nil)))) rfl ⟨rfl, FB.out⟩
theorem MemOk.onlyC {w w' : World} {M mb lo hi : Nat} {L : List MP} {A : Array Value} (h : MemOk w mb lo hi L) (hM : w.heap[M]? = some (.cells A 27 (0, 0))) (ho : Only w w' M) : MemOk w' mb lo hi L := by
 obtain ⟨R, P, cc, Q, hm, h2, h3, h4, h5⟩ := h
 have kp : ∀ (k : Nat) (cs : Array Value) (T : TypeId), T ≠ 27 → w.heap[k]? = some (.cells cs T (0, 0)) → w'.heap[k]? = some (.cells cs T (0, 0)) := by
  intro k cs T hT hk
  refine (ho.block k (blk_lt hk) ?_).trans hk
  rintro rfl
  rw [hM] at hk
  injection hk with hk
  injection hk with _ hk _
  exact hT hk.symm
 refine ⟨R, P, cc, Q, ⟨kp mb _ _ (by decide) hm.head, hm.addr, ?_, ?_, ?_, hm.apart⟩, h2, h3, h4, h5⟩
 ·intro hq
  obtain ⟨cur, hcur⟩ := hm.row hq
  exact ⟨cur, kp P _ _ (by decide) hcur⟩
 ·intro j q hq k v hv
  have hQ : Q ≠ [] := by intro e; rw [e] at hq; cases hq
  obtain ⟨cur, hcur⟩ := hm.row hQ
  exact (World.cell?_of_block (w := w) ((kp P _ _ (by decide) hcur).trans hcur.symm)).trans (hm.cells j q hq k v hv)
 ·intro q hq
  exact kp q.2 _ _ (by decide) (hm.data q hq)
theorem MemOk.onlyE {w w' : World} {M mb lo hi : Nat} {L : List MP} {A : Array Value} (h : MemOk w mb lo hi L) (hM : w.heap[M]? = some (.cells A 55 (0, 0))) (ho : Only w w' M) : MemOk w' mb lo hi L := by
 obtain ⟨R, P, cc, Q, hm, h2, h3, h4, h5⟩ := h
 have kp : ∀ (k : Nat) (cs : Array Value) (T : TypeId), T ≠ 55 → w.heap[k]? = some (.cells cs T (0, 0)) → w'.heap[k]? = some (.cells cs T (0, 0)) := by
  intro k cs T hT hk
  refine (ho.block k (blk_lt hk) ?_).trans hk
  rintro rfl
  rw [hM] at hk
  injection hk with hk
  injection hk with _ hk _
  exact hT hk.symm
 refine ⟨R, P, cc, Q, ⟨kp mb _ _ (by decide) hm.head, hm.addr, ?_, ?_, ?_, hm.apart⟩, h2, h3, h4, h5⟩
 ·intro hq
  obtain ⟨cur, hcur⟩ := hm.row hq
  exact ⟨cur, kp P _ _ (by decide) hcur⟩
 ·intro j q hq k v hv
  have hQ : Q ≠ [] := by intro e; rw [e] at hq; cases hq
  obtain ⟨cur, hcur⟩ := hm.row hQ
  exact (World.cell?_of_block (w := w) ((kp P _ _ (by decide) hcur).trans hcur.symm)).trans (hm.cells j q hq k v hv)
 ·intro q hq
  exact kp q.2 _ _ (by decide) (hm.data q hq)
theorem StoredIn.sets {w v : World} {lo hi b : Nat} (h : StoredIn w v lo hi) (hb : w.heap.size ≤ b) (o : Nat) (vs : List Value) : StoredIn w (v.setCells b o vs) lo hi :=
 ⟨fun k ob hk hor => blk_sets_far vs o (by have := blk_lt hk; omega) (h.block k ob hk hor), by rw [size_sets]; exact h.size, fun B U hu hl hs => below_sets (Nat.le_trans hs hb) vs o (h.below B U hu hl hs)⟩
theorem two_end {w v : World} {b4 b5 mb lo hi : Nat} {L : List MP} (hs : StoredIn w v lo hi) (hm : MemOk v mb lo hi L) (h4 : v.heap[b4]? = some (.cells CPU.zero.a 27 (0, 0))) (h5 : v.heap[b5]? = some (.cells (evA 0 0) 55 (0, 0))) (hn : b4 ≠ b5) (g4 : w.heap.size ≤ b4) (g5 : w.heap.size ≤ b5) (c : CPU) (k u : Int) :
  StoredIn w ((v.setCells b4 0 c.l).setCells b5 0 (evA k u).toList) lo hi ∧ MemOk ((v.setCells b4 0 c.l).setCells b5 0 (evA k u).toList) mb lo hi L :=
 ⟨StoredIn.sets (StoredIn.sets hs g4 0 c.l) g5 0 _, MemOk.onlyE (MemOk.onlyC hm h4 (Only.sets v b4 0 c.l)) (blk_sets_far c.l 0 hn.symm h5) (Only.sets _ b5 0 _)⟩
theorem built_mc (c : CPU) (n : Nat) (i : INS) : Tryz.prog.built 143 [(0, .agg c.a), (1, .pointer (some ⟨n, 0, none⟩)), (2, .agg i.v)] = some (macA c (.pointer (some ⟨n, 0, none⟩)) i .nilIface) := by kernel_rfl
theorem build_mcA {ops : Array Oper} {rest : List Oper} {o : Oper} {a : Act} {Q : Exit → Act → World → Prop} {w : World} (c : CPU) (n : Nat) (i : INS) {x0 x1 x2 : Operand} (hg : o.guard = none) (ho : o.op = .build 143 #[(0, x0), (1, x1), (2, x2)]) (e0 : a.eval x0 = .agg c.a) (e1 : a.eval x1 = .pointer (some ⟨n, 0, none⟩)) (e2 : a.eval x2 = .agg i.v) (h : wpList Tryz.prog ops Q rest (a.put o.dst (.agg (macA c (.pointer (some ⟨n, 0, none⟩)) i .nilIface))) w) : wpList Tryz.prog ops Q (o :: rest) a w := by
 have e : (Tryz.prog.built 143 (((#[(0, x0), (1, x1), (2, x2)] : Array (Nat × Operand)).map fun (i, x) => (i, a.eval x)).toList)) = some (macA c (.pointer (some ⟨n, 0, none⟩)) i .nilIface) := by
  have e' : (((#[(0, x0), (1, x1), (2, x2)] : Array (Nat × Operand)).map fun (i, x) => (i, a.eval x)).toList) = [(0, .agg c.a), (1, .pointer (some ⟨n, 0, none⟩)), (2, .agg i.v)] := by simp [e0, e1, e2]
  rw [e']
  exact built_mc c n i
 refine wpList_build hg 143 #[(0, x0), (1, x1), (2, x2)] ho (by rw [e]; rfl) ?_
 rw [e]
 exact h
theorem Run.init {w3 : World} {c : CPU} {i : INS} {mb lo hi : Nat} {L : List MP} (hm : MemOk w3 mb lo hi L) (ht : hi ≤ w3.heap.size) : Run w3 (w3.alloc (.cells (macA c (.pointer (some ⟨mb, 0, none⟩)) i .nilIface) 143)) w3.heap.size mb lo hi L c i .nilIface := by
 have h1 := hm.below (below_alloc (Below.refl w3.heap.size w3) (.cells (macA c (.pointer (some ⟨mb, 0, none⟩)) i .nilIface) 143))
 have h2 := StoredIn.of_below lo hi (below_alloc (Below.refl w3.heap.size w3) (.cells (macA c (.pointer (some ⟨mb, 0, none⟩)) i .nilIface) 143))
 exact ⟨blk_new w3 _, h1, h2, Nat.le_refl _, ht⟩
theorem step_go (k : Nat) (c c1 : CPU) (w : World) (mb lo hi : Nat) (L : List MP) (hm : MemOk w mb lo hi L) (hc : c.ok) (hTab : TabW w) (htop : hi ≤ w.heap.size) (wd : Int) (i : INS) (hw : mword L c.pc = (wd, 0)) (hd : code_Decode.f k wd = some (i.o, i.d, i.n, i.m, i.a, i.im, i.ms, i.sh, i.am, i.cd, 0))
  (hbr : ∀ (w0 w1 : World) (M : Nat), Run w0 w1 M mb lo hi L c i .nilIface → Calls Tryz.prog 84 #[.pointer (some ⟨M, 0, none⟩)] w1 fun e w' => e = .returned (.bool true) ∧ Run w0 w' M mb lo hi L c1 i .nilIface) :
  Calls Tryz.prog 27 #[.agg c.a, .pointer (some ⟨mb, 0, none⟩)] w fun e w' => e = .returned (.tuple #[.agg c1.a, .agg (evA 0 0), .int .i64 0]) ∧ StoredIn w w' lo hi ∧ MemOk w' mb lo hi L := by
 obtain ⟨W, hW, h2, h4, h5, hB, hS⟩ := three_new w (.cells c.a 27) (.cells CPU.zero.a 27) (.cells (evA 0 0) 55)
 have HW := aq hW
 have H2 := aq h2
 have H4 := aq h4
 have HBR := aq hbr
 have HTOP := aq htop
 have HMB := aq (fun (W : World) (hb : Below w.heap.size w W) => hm.below hb)
 have H5 := aq h5
 have HB := aq hB
 have HM := aq (hm.below hB)
 have cp : W.cell? ⟨w.heap.size, 32, none⟩ = some (.int .u64 c.pc) := (blk_cell h2 32).trans rfl
 have HWD := aq (fun (W : World) (hm : MemOk W mb lo hi L) => by have := word_at hm c.pc hc.pc.1 hc.pc.2; rw [hw] at this; exact this)
 have HDD := aq (fun (W : World) (hT : TabW W) => show Calls Tryz.prog 26 #[.int .u32 wd] W fun e w' => e = .returned (.tuple #[.agg i.v, .int .i64 0]) ∧ Below W.heap.size W w' from code_Decode.calls k wd i.o i.d i.n i.m i.a i.im i.ms i.sh i.am i.cd 0 W hd hT)
 have HT := aq (fun (W : World) (hb : Below w.heap.size w W) => TabW.below hTab hb)
 clear hW h2 h4 h5 hB hm hc hS hTab hw hd hbr htop
 go_enter Tryz.func27, Tryz.ntmps27
 go_upto_region 1 with fail
 change Code.wp _ _ _ _ (((w.alloc (.cells c.a 27)).alloc (.cells CPU.zero.a 27)).alloc (.cells (evA 0 0) 55))
 rw [← HW.out]
 clear HW
 go_upto_region 4 with (go_at_call 25; refine (HWD.out _ HM.out).mono ?_; rintro e w1 ⟨rfl, hb⟩; have K2 := aq (blk_below H2.out hb); have K4 := aq (blk_below H4.out hb); have K5 := aq (blk_below H5.out hb); have KB := aq (below_step HB.out hb); clear hb)
 clear cp H2 H4 H5 HB
 go_upto_region 7 with (first | (go_at_call 26; refine (HDD.out _ (HT.out _ KB.out)).mono ?_; rintro e w2 ⟨rfl, hb⟩; have H2 := aq (blk_below K2.out hb); have H4 := aq (blk_below K4.out hb); have H5 := aq (blk_below K5.out hb); have HB := aq (below_step KB.out hb); clear hb) | ((with_reducible refine gate_store (t := 51) (p := 9) (v := .tmp 27) rfl ?_); refine wpList_store_mid rfl 51 (.tmp 9) (.tmp 27) rfl w2.heap.size 0 i.v rfl rfl (there_blk (blk_new w2 (.cells INS.zero.v 51)) 0 10 (by decide)) info_inst (inst_one i) ?_))
 have J := aq (new_inst w2 i H4.out H5.out HB.out HB.out.size)
 have J2 := aq (new_inst w2 i H2.out H5.out HB.out HB.out.size).2.1
 change Code.wp _ _ _ _ ((w2.alloc (.cells INS.zero.v 51)).setCells w2.heap.size 0 i.v.toList)
 generalize (w2.alloc (.cells INS.zero.v 51)).setCells w2.heap.size 0 i.v.toList = w3 at *
 clear K2 K4 K5 KB H2 H4 H5 HB
 have HR0 := aq (Run.init (c := c) (i := i) (HMB.out w3 J.out.2.2.2) (Nat.le_trans HTOP.out J.out.2.2.2.size))
 go_upto_region 8 with (first | ((with_reducible refine gate_dst (N := 34) rfl ?_); refine wpList_load_mid rfl 27 (.tmp 2) rfl w.heap.size 0 rfl c.l _ (c.range J2.out) under_cpu rfl info_cpu ?_) | ((with_reducible refine gate_dst (N := 36) rfl ?_); refine wpList_load_mid rfl 51 (.tmp 9) rfl w2.heap.size 0 rfl i.v.toList _ (row_range J.out.1) under_inst rfl info_inst ?_) | ((with_reducible refine gate_dst (N := 37) rfl ?_); refine build_mcA c mb i rfl rfl rfl rfl rfl ?_))
 generalize w3.alloc (.cells (macA c (.pointer (some ⟨mb, 0, none⟩)) i .nilIface) 143) = w4 at *
 go_upto_region 9 with (go_at_call 84; refine (HBR.out w3 _ w3.heap.size HR0.out).mono ?_; rintro e w5 ⟨rfl, hr⟩; have HR5 := aq hr; clear hr)
 have G4 := aq (HR5.out.st.block _ _ J.out.2.1 (.inl (by have := HTOP.out; omega)))
 have G5 := aq (HR5.out.st.block _ _ J.out.2.2.1 (.inl (by have := HTOP.out; omega)))
 have S5 := aq ((StoredIn.of_below lo hi J.out.2.2.2).trans HR5.out.st)
 clear HR0 J J2
 go_wp2_with (first | ((with_reducible refine gate_dst (N := 44) rfl ?_); refine wpList_load_mid rfl 27 (.tmp 43) rfl w3.heap.size 0 rfl c1.l _ HR5.out.mac.range under_cpu rfl info_cpu ?_) | ((with_reducible refine gate_store (t := 27) (p := 4) (v := .tmp 44) rfl ?_); refine wpList_store_mid rfl 27 (.tmp 4) (.tmp 44) rfl (w.heap.size + 1) 0 c1.a rfl rfl (there_blk G4.out 0 37 (by decide)) info_cpu c1.one ?_) | ((with_reducible refine gate_store (t := 55) (p := 5) (v := .tmp 45) rfl ?_); refine wpList_store_mid rfl 55 (.tmp 5) (.tmp 45) rfl (w.heap.size + 1 + 1) 0 (evA 0 0) rfl rfl (there_blk (blk_sets_far c1.l 0 (Nat.succ_ne_self _) G5.out) 0 2 (by decide)) info_ev (ev_one 0 0) ?_))
 have F := aq (two_sets G4.out G5.out (by omega) c1 0 0)
 have FE := aq (two_end S5.out HR5.out.mem G4.out G5.out (by omega) (by omega) (by omega) c1 0 0)
 refine bodyPost_ret (results_list (rs := [.cell 4 27, .cell 5 55, .tmp 6]) rfl (by simp) (.cell (w.heap.size + 1) 27 c1.a (0, 0) _ rfl F.out.1 under_cpu rfl info_cpu (.cell (w.heap.size + 1 + 1) 55 (evA 0 0) (0, 0) _ rfl F.out.2 under_ev rfl info_ev (.tmp .nil)))) rfl ⟨rfl, FE.out⟩
theorem step_err (k : Nat) (c c1 : CPU) (w : World) (mb lo hi : Nat) (L L1 : List MP) (t1 : Value) (er : Int) (he : er ≠ 0) (hm : MemOk w mb lo hi L) (hc : c.ok) (hTab : TabW w) (htop : hi ≤ w.heap.size) (wd : Int) (i : INS) (hw : mword L c.pc = (wd, 0)) (hd : code_Decode.f k wd = some (i.o, i.d, i.n, i.m, i.a, i.im, i.ms, i.sh, i.am, i.cd, 0))
  (hbr : ∀ (w0 w1 : World) (M : Nat), Run w0 w1 M mb lo hi L c i .nilIface → Calls Tryz.prog 84 #[.pointer (some ⟨M, 0, none⟩)] w1 fun e w' => e = .returned (.bool false) ∧ Run w0 w' M mb lo hi L c i .nilIface)
  (hpl : ∀ (w0 w1 : World) (M : Nat), TabW w0 → Run w0 w1 M mb lo hi L c i .nilIface → Calls Tryz.prog 85 #[.pointer (some ⟨M, 0, none⟩)] w1 fun e w' => e = .returned (.int .i64 er) ∧ Run w0 w' M mb lo hi L1 c1 i t1) :
  Calls Tryz.prog 27 #[.agg c.a, .pointer (some ⟨mb, 0, none⟩)] w fun e w' => e = .returned (.tuple #[.agg CPU.zero.a, .agg (evA 0 0), .int .i64 er]) ∧ StoredIn w w' lo hi ∧ MemOk w' mb lo hi L1 := by
 have de : (er == 0) = false := by simpa using he
 clear he
 obtain ⟨W, hW, h2, h4, h5, hB, hS⟩ := three_new w (.cells c.a 27) (.cells CPU.zero.a 27) (.cells (evA 0 0) 55)
 have HW := aq hW
 have H2 := aq h2
 have H4 := aq h4
 have HBR := aq hbr
 have HPL := aq hpl
 have HTOP := aq htop
 have HMB := aq (fun (W : World) (hb : Below w.heap.size w W) => hm.below hb)
 have H5 := aq h5
 have HB := aq hB
 have HM := aq (hm.below hB)
 have cp : W.cell? ⟨w.heap.size, 32, none⟩ = some (.int .u64 c.pc) := (blk_cell h2 32).trans rfl
 have HWD := aq (fun (W : World) (hm : MemOk W mb lo hi L) => by have := word_at hm c.pc hc.pc.1 hc.pc.2; rw [hw] at this; exact this)
 have HDD := aq (fun (W : World) (hT : TabW W) => show Calls Tryz.prog 26 #[.int .u32 wd] W fun e w' => e = .returned (.tuple #[.agg i.v, .int .i64 0]) ∧ Below W.heap.size W w' from code_Decode.calls k wd i.o i.d i.n i.m i.a i.im i.ms i.sh i.am i.cd 0 W hd hT)
 have HT := aq (fun (W : World) (hb : Below w.heap.size w W) => TabW.below hTab hb)
 clear hW h2 h4 h5 hB hm hc hS hTab hw hd hbr hpl htop
 go_enter Tryz.func27, Tryz.ntmps27
 go_upto_region 1 with fail
 change Code.wp _ _ _ _ (((w.alloc (.cells c.a 27)).alloc (.cells CPU.zero.a 27)).alloc (.cells (evA 0 0) 55))
 rw [← HW.out]
 clear HW
 go_upto_region 4 with (go_at_call 25; refine (HWD.out _ HM.out).mono ?_; rintro e w1 ⟨rfl, hb⟩; have K2 := aq (blk_below H2.out hb); have K4 := aq (blk_below H4.out hb); have K5 := aq (blk_below H5.out hb); have KB := aq (below_step HB.out hb); clear hb)
 clear cp H2 H4 H5 HB
 go_upto_region 7 with (first | (go_at_call 26; refine (HDD.out _ (HT.out _ KB.out)).mono ?_; rintro e w2 ⟨rfl, hb⟩; have H2 := aq (blk_below K2.out hb); have H4 := aq (blk_below K4.out hb); have H5 := aq (blk_below K5.out hb); have HB := aq (below_step KB.out hb); clear hb) | ((with_reducible refine gate_store (t := 51) (p := 9) (v := .tmp 27) rfl ?_); refine wpList_store_mid rfl 51 (.tmp 9) (.tmp 27) rfl w2.heap.size 0 i.v rfl rfl (there_blk (blk_new w2 (.cells INS.zero.v 51)) 0 10 (by decide)) info_inst (inst_one i) ?_))
 have J := aq (new_inst w2 i H4.out H5.out HB.out HB.out.size)
 have J2 := aq (new_inst w2 i H2.out H5.out HB.out HB.out.size).2.1
 change Code.wp _ _ _ _ ((w2.alloc (.cells INS.zero.v 51)).setCells w2.heap.size 0 i.v.toList)
 generalize (w2.alloc (.cells INS.zero.v 51)).setCells w2.heap.size 0 i.v.toList = w3 at *
 clear K2 K4 K5 KB H2 H4 H5 HB
 have HR0 := aq (Run.init (c := c) (i := i) (HMB.out w3 J.out.2.2.2) (Nat.le_trans HTOP.out J.out.2.2.2.size))
 go_upto_region 8 with (first | ((with_reducible refine gate_dst (N := 34) rfl ?_); refine wpList_load_mid rfl 27 (.tmp 2) rfl w.heap.size 0 rfl c.l _ (c.range J2.out) under_cpu rfl info_cpu ?_) | ((with_reducible refine gate_dst (N := 36) rfl ?_); refine wpList_load_mid rfl 51 (.tmp 9) rfl w2.heap.size 0 rfl i.v.toList _ (row_range J.out.1) under_inst rfl info_inst ?_) | ((with_reducible refine gate_dst (N := 37) rfl ?_); refine build_mcA c mb i rfl rfl rfl rfl rfl ?_))
 generalize w3.alloc (.cells (macA c (.pointer (some ⟨mb, 0, none⟩)) i .nilIface) 143) = w4 at *
 go_upto_region 12 with (first | (go_at_call 84; refine (HBR.out w3 _ w3.heap.size HR0.out).mono ?_; rintro e w5 ⟨rfl, hr⟩; have HR1 := aq hr; clear hr) | (go_at_call 85; refine (HPL.out w3 _ w3.heap.size (HT.out _ J.out.2.2.2) HR1.out).mono ?_; rintro e w6 ⟨rfl, hr⟩; have HR5 := aq hr; clear hr))
 have G4 := aq (HR5.out.st.block _ _ J.out.2.1 (.inl (by have := HTOP.out; omega)))
 have G5 := aq (HR5.out.st.block _ _ J.out.2.2.1 (.inl (by have := HTOP.out; omega)))
 have S5 := aq ((StoredIn.of_below lo hi J.out.2.2.2).trans HR5.out.st)
 clear HR0 HR1 J J2
 refine wp_region_lit ?_
 refine build_cpu0 rfl rfl ?_
 go_wp2_with (first | ((with_reducible refine gate_store (t := 27) (p := 4) (v := .tmp 50) rfl ?_); refine wpList_store_mid rfl 27 (.tmp 4) (.tmp 50) rfl (w.heap.size + 1) 0 CPU.zero.a rfl rfl (there_blk G4.out 0 37 (by decide)) info_cpu CPU.zero.one ?_) | ((with_reducible refine gate_store (t := 55) (p := 5) (v := .tmp 51) rfl ?_); refine wpList_store_mid rfl 55 (.tmp 5) (.tmp 51) rfl (w.heap.size + 1 + 1) 0 (evA 0 0) rfl rfl (there_blk (blk_sets_far CPU.zero.l 0 (Nat.succ_ne_self _) G5.out) 0 2 (by decide)) info_ev (ev_one 0 0) ?_))
 have F := aq (two_sets G4.out G5.out (by omega) CPU.zero 0 0)
 have FE := aq (two_end S5.out HR5.out.mem G4.out G5.out (by omega) (by omega) (by omega) CPU.zero 0 0)
 refine bodyPost_ret (results_list (rs := [.cell 4 27, .cell 5 55, .tmp 6]) rfl (by simp) (.cell (w.heap.size + 1) 27 CPU.zero.a (0, 0) _ rfl F.out.1 under_cpu rfl info_cpu (.cell (w.heap.size + 1 + 1) 55 (evA 0 0) (0, 0) _ rfl F.out.2 under_ev rfl info_ev (.tmp .nil)))) rfl ⟨rfl, FE.out⟩
def CPU.next (c : CPU) : CPU := { c with pc := IntKind.u64.wrap (c.pc + 4) }
theorem step_nil (k : Nat) (c c1 : CPU) (w : World) (mb lo hi : Nat) (L L1 : List MP) (hm : MemOk w mb lo hi L) (hc : c.ok) (hTab : TabW w) (htop : hi ≤ w.heap.size) (wd : Int) (i : INS) (hw : mword L c.pc = (wd, 0)) (hd : code_Decode.f k wd = some (i.o, i.d, i.n, i.m, i.a, i.im, i.ms, i.sh, i.am, i.cd, 0))
  (hbr : ∀ (w0 w1 : World) (M : Nat), Run w0 w1 M mb lo hi L c i .nilIface → Calls Tryz.prog 84 #[.pointer (some ⟨M, 0, none⟩)] w1 fun e w' => e = .returned (.bool false) ∧ Run w0 w' M mb lo hi L c i .nilIface)
  (hpl : ∀ (w0 w1 : World) (M : Nat), TabW w0 → Run w0 w1 M mb lo hi L c i .nilIface → Calls Tryz.prog 85 #[.pointer (some ⟨M, 0, none⟩)] w1 fun e w' => e = .returned (.int .i64 0) ∧ Run w0 w' M mb lo hi L1 c1 i .nilIface) :
  Calls Tryz.prog 27 #[.agg c.a, .pointer (some ⟨mb, 0, none⟩)] w fun e w' => e = .returned (.tuple #[.agg (c1.next).a, .agg (evA 0 0), .int .i64 0]) ∧ StoredIn w w' lo hi ∧ MemOk w' mb lo hi L1 := by
 obtain ⟨W, hW, h2, h4, h5, hB, hS⟩ := three_new w (.cells c.a 27) (.cells CPU.zero.a 27) (.cells (evA 0 0) 55)
 have HW := aq hW
 have H2 := aq h2
 have H4 := aq h4
 have HBR := aq hbr
 have HPL := aq hpl
 have HTOP := aq htop
 have HMB := aq (fun (W : World) (hb : Below w.heap.size w W) => hm.below hb)
 have H5 := aq h5
 have HB := aq hB
 have HM := aq (hm.below hB)
 have cp : W.cell? ⟨w.heap.size, 32, none⟩ = some (.int .u64 c.pc) := (blk_cell h2 32).trans rfl
 have HWD := aq (fun (W : World) (hm : MemOk W mb lo hi L) => by have := word_at hm c.pc hc.pc.1 hc.pc.2; rw [hw] at this; exact this)
 have HDD := aq (fun (W : World) (hT : TabW W) => show Calls Tryz.prog 26 #[.int .u32 wd] W fun e w' => e = .returned (.tuple #[.agg i.v, .int .i64 0]) ∧ Below W.heap.size W w' from code_Decode.calls k wd i.o i.d i.n i.m i.a i.im i.ms i.sh i.am i.cd 0 W hd hT)
 have HT := aq (fun (W : World) (hb : Below w.heap.size w W) => TabW.below hTab hb)
 clear hW h2 h4 h5 hB hm hc hS hTab hw hd hbr hpl htop
 go_enter Tryz.func27, Tryz.ntmps27
 go_upto_region 1 with fail
 change Code.wp _ _ _ _ (((w.alloc (.cells c.a 27)).alloc (.cells CPU.zero.a 27)).alloc (.cells (evA 0 0) 55))
 rw [← HW.out]
 clear HW
 go_upto_region 4 with (go_at_call 25; refine (HWD.out _ HM.out).mono ?_; rintro e w1 ⟨rfl, hb⟩; have K2 := aq (blk_below H2.out hb); have K4 := aq (blk_below H4.out hb); have K5 := aq (blk_below H5.out hb); have KB := aq (below_step HB.out hb); clear hb)
 clear cp H2 H4 H5 HB
 go_upto_region 7 with (first | (go_at_call 26; refine (HDD.out _ (HT.out _ KB.out)).mono ?_; rintro e w2 ⟨rfl, hb⟩; have H2 := aq (blk_below K2.out hb); have H4 := aq (blk_below K4.out hb); have H5 := aq (blk_below K5.out hb); have HB := aq (below_step KB.out hb); clear hb) | ((with_reducible refine gate_store (t := 51) (p := 9) (v := .tmp 27) rfl ?_); refine wpList_store_mid rfl 51 (.tmp 9) (.tmp 27) rfl w2.heap.size 0 i.v rfl rfl (there_blk (blk_new w2 (.cells INS.zero.v 51)) 0 10 (by decide)) info_inst (inst_one i) ?_))
 have J := aq (new_inst w2 i H4.out H5.out HB.out HB.out.size)
 have J2 := aq (new_inst w2 i H2.out H5.out HB.out HB.out.size).2.1
 change Code.wp _ _ _ _ ((w2.alloc (.cells INS.zero.v 51)).setCells w2.heap.size 0 i.v.toList)
 generalize (w2.alloc (.cells INS.zero.v 51)).setCells w2.heap.size 0 i.v.toList = w3 at *
 clear K2 K4 K5 KB H2 H4 H5 HB
 have HR0 := aq (Run.init (c := c) (i := i) (HMB.out w3 J.out.2.2.2) (Nat.le_trans HTOP.out J.out.2.2.2.size))
 go_upto_region 8 with (first | ((with_reducible refine gate_dst (N := 34) rfl ?_); refine wpList_load_mid rfl 27 (.tmp 2) rfl w.heap.size 0 rfl c.l _ (c.range J2.out) under_cpu rfl info_cpu ?_) | ((with_reducible refine gate_dst (N := 36) rfl ?_); refine wpList_load_mid rfl 51 (.tmp 9) rfl w2.heap.size 0 rfl i.v.toList _ (row_range J.out.1) under_inst rfl info_inst ?_) | ((with_reducible refine gate_dst (N := 37) rfl ?_); refine build_mcA c mb i rfl rfl rfl rfl rfl ?_))
 generalize w3.alloc (.cells (macA c (.pointer (some ⟨mb, 0, none⟩)) i .nilIface) 143) = w4 at *
 go_upto_region 13 with (first | (go_at_call 84; refine (HBR.out w3 _ w3.heap.size HR0.out).mono ?_; rintro e w5 ⟨rfl, hr⟩; have HR1 := aq hr; clear hr) | (go_at_call 85; refine (HPL.out w3 _ w3.heap.size (HT.out _ J.out.2.2.2) HR1.out).mono ?_; rintro e w6 ⟨rfl, hr⟩; have HR5 := aq hr; clear hr))
 have cp6 : w6.cell? ⟨w3.heap.size, 32, none⟩ = some (.int .u64 c1.pc) := (HR5.out.mac.cell 32).trans rfl
 have fp6 := HR5.out.mac.free 32
 go_upto_region 14 with fail
 clear cp6 fp6
 have HR6 := aq (HR5.out.only (Only.set _ _ _ _) (HR5.out.mac.setPc (IntKind.u64.wrap (c1.pc + 4))))
 generalize w6.setCell ⟨w3.heap.size, 32, none⟩ (.int .u64 (IntKind.u64.wrap (c1.pc + 4))) = w7 at *
 clear HR5
 have HR5 := HR6
 clear HR6
 have G4 := aq (HR5.out.st.block _ _ J.out.2.1 (.inl (by have := HTOP.out; omega)))
 have G5 := aq (HR5.out.st.block _ _ J.out.2.2.1 (.inl (by have := HTOP.out; omega)))
 have S5 := aq ((StoredIn.of_below lo hi J.out.2.2.2).trans HR5.out.st)
 clear HR0 HR1 J J2
 have ct : w7.cell? ⟨w3.heap.size, 48, none⟩ = some .nilIface := (HR5.out.mac.cell 48).trans rfl
 have HR5 := aq (show Run w3 w7 w3.heap.size mb lo hi L1 c1.next i .nilIface from HR5.out)
 go_wp2_with (first | ((with_reducible refine gate_dst (N := 70) rfl ?_); refine wpList_load_mid rfl 27 (.tmp 69) rfl w3.heap.size 0 rfl c1.next.l _ HR5.out.mac.range under_cpu rfl info_cpu ?_) | ((with_reducible refine gate_store (t := 27) (p := 4) (v := .tmp 70) rfl ?_); refine wpList_store_mid rfl 27 (.tmp 4) (.tmp 70) rfl (w.heap.size + 1) 0 c1.next.a rfl rfl (there_blk G4.out 0 37 (by decide)) info_cpu c1.next.one ?_) | ((with_reducible refine gate_store (t := 55) (p := 5) (v := .tmp 71) rfl ?_); refine wpList_store_mid rfl 55 (.tmp 5) (.tmp 71) rfl (w.heap.size + 1 + 1) 0 (evA 0 0) rfl rfl (there_blk (blk_sets_far c1.next.l 0 (Nat.succ_ne_self _) G5.out) 0 2 (by decide)) info_ev (ev_one 0 0) ?_))
 have F := aq (two_sets G4.out G5.out (by omega) c1.next 0 0)
 have FE := aq (two_end S5.out HR5.out.mem G4.out G5.out (by omega) (by omega) (by omega) c1.next 0 0)
 refine bodyPost_ret (results_list (rs := [.cell 4 27, .cell 5 55, .tmp 6]) rfl (by simp) (.cell (w.heap.size + 1) 27 c1.next.a (0, 0) _ rfl F.out.1 under_cpu rfl info_cpu (.cell (w.heap.size + 1 + 1) 55 (evA 0 0) (0, 0) _ rfl F.out.2 under_ev rfl info_ev (.tmp .nil)))) rfl ⟨rfl, FE.out⟩
theorem said_event (v : Int) (w : World) : Calls Tryz.prog 390 #[.int .u64 v] w fun e w' => e = .returned (.agg (evA 1 v)) ∧ Below w.heap.size w w' := by
 go_enter Tryz.func390, Tryz.ntmps390
 go_wp2
 refine bodyPost_ret (results_cell_row rfl _ _ w.heap.size 55 (evA 1 v) (0, 0) _ rfl (blk_new w _) under_ev rfl info_ev) rfl ⟨rfl, below_alloc (Below.refl _ _) _⟩
theorem halted_event (v : Int) (w : World) : Calls Tryz.prog 391 #[.int .u64 v] w fun e w' => e = .returned (.agg (evA 2 v)) ∧ Below w.heap.size w w' := by
 go_enter Tryz.func391, Tryz.ntmps391
 go_wp2
 refine bodyPost_ret (results_cell_row rfl _ _ w.heap.size 55 (evA 2 v) (0, 0) _ rfl (blk_new w _) under_ev rfl info_ev) rfl ⟨rfl, below_alloc (Below.refl _ _) _⟩
theorem load_told (M j : Nat) (v : Value) (w : World) (h : w.cell? ⟨M, j, none⟩ = some v) : Sem.run Tryz.prog (Instr.loadAt 123 (.pointer (some ⟨M, j, none⟩))) w = .ok v w := by go_simp
def toldR.T : Bool × List (List Nat × List Nat) := (true, [([], []), ([0], [0]), ([1], [1]), ([2], [2]), ([], []), ([4], [4]), ([5], [5]), ([6], [6]), ([7], [7]), ([3, 8, 0, 1, 2, 3], [3]), ([8, 9, 0, 1, 2, 3, 4, 5, 6, 7, 8, 9], [8]), ([10, 0, 1, 2, 3, 4, 5, 6, 7, 8, 9, 10], [])])
def toldR.B : List Nat := [0, 1, 3, 7, 0, 16, 48, 112, 240, 511, 1023, 2047]
theorem toldR.tab : rtab .any (opsOf Tryz.f27 16) = toldR.T := by kernel_rfl
theorem toldR.bits : waitsOk toldR.T.2 toldR.B = true := by kernel_rfl
theorem step_tell (T : TypeId) (F : FuncId) (K : Int) (hK : (T = 223 ∧ F = 390 ∧ K = 1) ∨ (T = 225 ∧ F = 391 ∧ K = 2)) (k : Nat) (c c1 : CPU) (w : World) (mb lo hi : Nat) (L L1 : List MP) (v : Int) (hm : MemOk w mb lo hi L) (hc : c.ok) (hTab : TabW w) (htop : hi ≤ w.heap.size) (wd : Int) (i : INS) (hw : mword L c.pc = (wd, 0)) (hd : code_Decode.f k wd = some (i.o, i.d, i.n, i.m, i.a, i.im, i.ms, i.sh, i.am, i.cd, 0))
  (hbr : ∀ (w0 w1 : World) (M : Nat), Run w0 w1 M mb lo hi L c i .nilIface → Calls Tryz.prog 84 #[.pointer (some ⟨M, 0, none⟩)] w1 fun e w' => e = .returned (.bool false) ∧ Run w0 w' M mb lo hi L c i .nilIface)
  (hpl : ∀ (w0 w1 : World) (M : Nat), TabW w0 → Run w0 w1 M mb lo hi L c i .nilIface → Calls Tryz.prog 85 #[.pointer (some ⟨M, 0, none⟩)] w1 fun e w' => e = .returned (.int .i64 0) ∧ Run w0 w' M mb lo hi L1 c1 i (.iface T (.int .u64 v))) :
  Calls Tryz.prog 27 #[.agg c.a, .pointer (some ⟨mb, 0, none⟩)] w fun e w' => e = .returned (.tuple #[.agg (c1.next).a, .agg (evA K v), .int .i64 0]) ∧ StoredIn w w' lo hi ∧ MemOk w' mb lo hi L1 := by
 obtain ⟨W, hW, h2, h4, h5, hB, hS⟩ := three_new w (.cells c.a 27) (.cells CPU.zero.a 27) (.cells (evA 0 0) 55)
 have HW := aq hW
 have H2 := aq h2
 have H4 := aq h4
 have HBR := aq hbr
 have HPL := aq hpl
 have HTOP := aq htop
 have HMB := aq (fun (W : World) (hb : Below w.heap.size w W) => hm.below hb)
 have H5 := aq h5
 have HB := aq hB
 have HM := aq (hm.below hB)
 have cp : W.cell? ⟨w.heap.size, 32, none⟩ = some (.int .u64 c.pc) := (blk_cell h2 32).trans rfl
 have HWD := aq (fun (W : World) (hm : MemOk W mb lo hi L) => by have := word_at hm c.pc hc.pc.1 hc.pc.2; rw [hw] at this; exact this)
 have HDD := aq (fun (W : World) (hT : TabW W) => show Calls Tryz.prog 26 #[.int .u32 wd] W fun e w' => e = .returned (.tuple #[.agg i.v, .int .i64 0]) ∧ Below W.heap.size W w' from code_Decode.calls k wd i.o i.d i.n i.m i.a i.im i.ms i.sh i.am i.cd 0 W hd hT)
 have HT := aq (fun (W : World) (hb : Below w.heap.size w W) => TabW.below hTab hb)
 clear hW h2 h4 h5 hB hm hc hS hTab hw hd hbr hpl htop
 go_enter Tryz.func27, Tryz.ntmps27
 go_upto_region 1 with fail
 change Code.wp _ _ _ _ (((w.alloc (.cells c.a 27)).alloc (.cells CPU.zero.a 27)).alloc (.cells (evA 0 0) 55))
 rw [← HW.out]
 clear HW
 go_upto_region 4 with (go_at_call 25; refine (HWD.out _ HM.out).mono ?_; rintro e w1 ⟨rfl, hb⟩; have K2 := aq (blk_below H2.out hb); have K4 := aq (blk_below H4.out hb); have K5 := aq (blk_below H5.out hb); have KB := aq (below_step HB.out hb); clear hb)
 clear cp H2 H4 H5 HB
 go_upto_region 7 with (first | (go_at_call 26; refine (HDD.out _ (HT.out _ KB.out)).mono ?_; rintro e w2 ⟨rfl, hb⟩; have H2 := aq (blk_below K2.out hb); have H4 := aq (blk_below K4.out hb); have H5 := aq (blk_below K5.out hb); have HB := aq (below_step KB.out hb); clear hb) | ((with_reducible refine gate_store (t := 51) (p := 9) (v := .tmp 27) rfl ?_); refine wpList_store_mid rfl 51 (.tmp 9) (.tmp 27) rfl w2.heap.size 0 i.v rfl rfl (there_blk (blk_new w2 (.cells INS.zero.v 51)) 0 10 (by decide)) info_inst (inst_one i) ?_))
 have J := aq (new_inst w2 i H4.out H5.out HB.out HB.out.size)
 have J2 := aq (new_inst w2 i H2.out H5.out HB.out HB.out.size).2.1
 change Code.wp _ _ _ _ ((w2.alloc (.cells INS.zero.v 51)).setCells w2.heap.size 0 i.v.toList)
 generalize (w2.alloc (.cells INS.zero.v 51)).setCells w2.heap.size 0 i.v.toList = w3 at *
 clear K2 K4 K5 KB H2 H4 H5 HB
 have HR0 := aq (Run.init (c := c) (i := i) (HMB.out w3 J.out.2.2.2) (Nat.le_trans HTOP.out J.out.2.2.2.size))
 go_upto_region 8 with (first | ((with_reducible refine gate_dst (N := 34) rfl ?_); refine wpList_load_mid rfl 27 (.tmp 2) rfl w.heap.size 0 rfl c.l _ (c.range J2.out) under_cpu rfl info_cpu ?_) | ((with_reducible refine gate_dst (N := 36) rfl ?_); refine wpList_load_mid rfl 51 (.tmp 9) rfl w2.heap.size 0 rfl i.v.toList _ (row_range J.out.1) under_inst rfl info_inst ?_) | ((with_reducible refine gate_dst (N := 37) rfl ?_); refine build_mcA c mb i rfl rfl rfl rfl rfl ?_))
 generalize w3.alloc (.cells (macA c (.pointer (some ⟨mb, 0, none⟩)) i .nilIface) 143) = w4 at *
 go_upto_region 13 with (first | (go_at_call 84; refine (HBR.out w3 _ w3.heap.size HR0.out).mono ?_; rintro e w5 ⟨rfl, hr⟩; have HR1 := aq hr; clear hr) | (go_at_call 85; refine (HPL.out w3 _ w3.heap.size (HT.out _ J.out.2.2.2) HR1.out).mono ?_; rintro e w6 ⟨rfl, hr⟩; have HR5 := aq hr; clear hr))
 have cp6 : w6.cell? ⟨w3.heap.size, 32, none⟩ = some (.int .u64 c1.pc) := (HR5.out.mac.cell 32).trans rfl
 have fp6 := HR5.out.mac.free 32
 go_upto_region 14 with fail
 clear cp6 fp6
 have HR6 := aq (HR5.out.only (Only.set _ _ _ _) (HR5.out.mac.setPc (IntKind.u64.wrap (c1.pc + 4))))
 generalize w6.setCell ⟨w3.heap.size, 32, none⟩ (.int .u64 (IntKind.u64.wrap (c1.pc + 4))) = w7 at *
 clear HR5
 have HR5 := HR6
 clear HR6
 have G4 := aq (HR5.out.st.block _ _ J.out.2.1 (.inl (by have := HTOP.out; omega)))
 have G5 := aq (HR5.out.st.block _ _ J.out.2.2.1 (.inl (by have := HTOP.out; omega)))
 have S5 := aq ((StoredIn.of_below lo hi J.out.2.2.2).trans HR5.out.st)
 clear HR0 HR1 J J2
 have ct : w7.cell? ⟨w3.heap.size, 48, none⟩ = some (.iface T (.int .u64 v)) := (HR5.out.mac.cell 48).trans rfl
 have HR5 := aq (show Run w3 w7 w3.heap.size mb lo hi L1 c1.next i (.iface T (.int .u64 v)) from HR5.out)
 go_upto_region 16 with fail
 clear ct
 refine start_ (n := 12) (S := fun w' => Run w3 w' w3.heap.size mb lo hi L1 c1.next i (.iface T (.int .u64 v))) (ds := [9, 10]) #[false, false, false, false, false, false, false, false, false, false, false, false] (by kernel_rfl) rfl rfl (HR5.out.step (below_drew1 (Below.refl _ _))) (fun hHeld => ?_); refine with_tabW toldR.tab toldR.bits (fun HT_ HW_ => ?_)
 refine pu_ (i := 0) (N := some 72) (v := _) (any_of HT_.out (by kernel_rfl)) rfl rfl (by rfl) (fun _ _ _ h => h) (fun w' => by go_simp; with_reducible rfl) ?_; simp only [Act.put, lq, lz, ls]
 refine pu_ (i := 1) (N := some 73) (v := _) (any_of HT_.out (by kernel_rfl)) rfl rfl (by rfl) (fun _ _ _ h => h) (fun w' => by go_simp; with_reducible rfl) ?_; simp only [Act.put, lq, lz, ls]
 refine pu_ (i := 2) (N := some 74) (v := _) (any_of HT_.out (by kernel_rfl)) rfl rfl (by rfl) (fun _ _ _ h => h) (fun w' => by go_simp; with_reducible rfl) ?_; simp only [Act.put, lq, lz, ls]
 refine tk_ (i := 3) (N := 75) (t := 27) (p := .tmp 74) (v := .agg c1.next.a) (take_ofW HT_.out HW_.out (by kernel_rfl)) rfl (fun _ _ _ h => h) hHeld ?_ ?_; · exact fun w' h' => h'.mac.load27
 simp only [Act.put, lq, lz, ls]
 refine pu_ (i := 4) (N := some 76) (v := _) (any_of HT_.out (by kernel_rfl)) rfl rfl (by rfl) (fun _ _ _ h => h) (fun w' => by go_simp; with_reducible rfl) ?_; simp only [Act.put, lq, lz, ls]
 refine pu_ (i := 5) (N := some 77) (v := _) (any_of HT_.out (by kernel_rfl)) rfl rfl (by rfl) (fun _ _ _ h => h) (fun w' => by go_simp; with_reducible rfl) ?_; simp only [Act.put, lq, lz, ls]
 refine pu_ (i := 6) (N := some 78) (v := _) (any_of HT_.out (by kernel_rfl)) rfl rfl (by rfl) (fun _ _ _ h => h) (fun w' => by go_simp; with_reducible rfl) ?_; simp only [Act.put, lq, lz, ls]
 refine tk_ (i := 7) (N := 79) (t := 123) (p := .tmp 78) (v := .iface T (.int .u64 v)) (take_ofW HT_.out HW_.out (by kernel_rfl)) rfl (fun _ _ _ h => h) hHeld ?_ ?_; · exact fun w' h' => load_told w3.heap.size 48 _ w' ((h'.mac.cell 48).trans rfl)
 simp only [Act.put, lq, lz, ls]
 refine cl_ (i := 8) (N := some 80) F #[.int .u64 v] (one_of HT_.out (by kernel_rfl)) rfl rfl (by rcases hK with ⟨rfl, rfl, rfl⟩ | ⟨rfl, rfl, rfl⟩ <;> decide) (by rfl) (by rcases hK with ⟨rfl, rfl, rfl⟩ | ⟨rfl, rfl, rfl⟩ <;> (unfold execOp; go_simp; rfl)) (show Calls Tryz.prog F #[.int .u64 v] _ fun e w' => e = .returned (.agg (evA K v)) ∧ Below _ _ w' by rcases hK with ⟨rfl, rfl, rfl⟩ | ⟨rfl, rfl, rfl⟩; exact said_event v _; exact halted_event v _) ?_; rintro e w8 ⟨rfl, hb⟩; refine ⟨_, rfl, Run.step (w := w7.drew) hHeld hb, fun hHeld => ?_⟩; simp only [Act.put, lq, lz, ls]
 have HR5 := aq hHeld
 have hb7 := below_step (show Below w7.heap.size w7 w7.drew from below_drew1 (Below.refl _ _)) hb
 have S5 := aq (S5.out.trans (StoredIn.of_below lo hi hb7))
 have G4 := aq (blk_below G4.out hb7)
 have G5 := aq (blk_below G5.out hb7)
 refine ls_ (i := 9) (one_of HT_.out (by kernel_rfl)) rfl (by decide) (run_storeAt_mid w8 (w.heap.size + 1) 0 27 c1.next.a (there_blk G4.out 0 37 (by decide)) info_cpu c1.next.one) ?_; simp only [lq, lz, ls]
 refine ls_ (i := 10) (one_of HT_.out (by kernel_rfl)) rfl (by decide) (run_storeAt_mid _ (w.heap.size + 1 + 1) 0 55 (evA K v) (there_blk (blk_sets_far c1.next.l 0 (Nat.succ_ne_self _) G5.out) 0 2 (by decide)) info_ev (ev_one K v)) ?_; simp only [lq, lz, ls]
 refine pu_ (i := 11) (N := some 6) (v := _) (any_of HT_.out (by kernel_rfl)) rfl rfl (by rfl) (fun _ _ _ h => h) (fun w' => by go_simp; with_reducible rfl) ?_; simp only [Act.put, lq, lz, ls]
 refine done_ (done_of HT_.out (by kernel_rfl)) ?_
 go_wp2
 have F := aq (two_sets G4.out G5.out (by omega) c1.next K v)
 have FE := aq (two_end S5.out HR5.out.mem G4.out G5.out (by omega) (by omega) (by omega) c1.next K v)
 refine bodyPost_ret (results_list (rs := [.cell 4 27, .cell 5 55, .tmp 6]) rfl (by simp) (.cell (w.heap.size + 1) 27 c1.next.a (0, 0) _ rfl F.out.1 under_cpu rfl info_cpu (.cell (w.heap.size + 1 + 1) 55 (evA K v) (0, 0) _ rfl F.out.2 under_ev rfl info_ev (.tmp .nil)))) rfl ⟨rfl, FE.out⟩
theorem step_said (k : Nat) (c c1 : CPU) (w : World) (mb lo hi : Nat) (L L1 : List MP) (v : Int) (hm : MemOk w mb lo hi L) (hc : c.ok) (hTab : TabW w) (htop : hi ≤ w.heap.size) (wd : Int) (i : INS) (hw : mword L c.pc = (wd, 0)) (hd : code_Decode.f k wd = some (i.o, i.d, i.n, i.m, i.a, i.im, i.ms, i.sh, i.am, i.cd, 0))
  (hbr : ∀ (w0 w1 : World) (M : Nat), Run w0 w1 M mb lo hi L c i .nilIface → Calls Tryz.prog 84 #[.pointer (some ⟨M, 0, none⟩)] w1 fun e w' => e = .returned (.bool false) ∧ Run w0 w' M mb lo hi L c i .nilIface)
  (hpl : ∀ (w0 w1 : World) (M : Nat), TabW w0 → Run w0 w1 M mb lo hi L c i .nilIface → Calls Tryz.prog 85 #[.pointer (some ⟨M, 0, none⟩)] w1 fun e w' => e = .returned (.int .i64 0) ∧ Run w0 w' M mb lo hi L1 c1 i (.iface 223 (.int .u64 v))) :
  Calls Tryz.prog 27 #[.agg c.a, .pointer (some ⟨mb, 0, none⟩)] w fun e w' => e = .returned (.tuple #[.agg (c1.next).a, .agg (evA 1 v), .int .i64 0]) ∧ StoredIn w w' lo hi ∧ MemOk w' mb lo hi L1 :=
 step_tell _ _ 1 (.inl ⟨rfl, rfl, rfl⟩) k c c1 w mb lo hi L L1 v hm hc hTab htop wd i hw hd hbr hpl
theorem step_halted (k : Nat) (c c1 : CPU) (w : World) (mb lo hi : Nat) (L L1 : List MP) (v : Int) (hm : MemOk w mb lo hi L) (hc : c.ok) (hTab : TabW w) (htop : hi ≤ w.heap.size) (wd : Int) (i : INS) (hw : mword L c.pc = (wd, 0)) (hd : code_Decode.f k wd = some (i.o, i.d, i.n, i.m, i.a, i.im, i.ms, i.sh, i.am, i.cd, 0))
  (hbr : ∀ (w0 w1 : World) (M : Nat), Run w0 w1 M mb lo hi L c i .nilIface → Calls Tryz.prog 84 #[.pointer (some ⟨M, 0, none⟩)] w1 fun e w' => e = .returned (.bool false) ∧ Run w0 w' M mb lo hi L c i .nilIface)
  (hpl : ∀ (w0 w1 : World) (M : Nat), TabW w0 → Run w0 w1 M mb lo hi L c i .nilIface → Calls Tryz.prog 85 #[.pointer (some ⟨M, 0, none⟩)] w1 fun e w' => e = .returned (.int .i64 0) ∧ Run w0 w' M mb lo hi L1 c1 i (.iface 225 (.int .u64 v))) :
  Calls Tryz.prog 27 #[.agg c.a, .pointer (some ⟨mb, 0, none⟩)] w fun e w' => e = .returned (.tuple #[.agg (c1.next).a, .agg (evA 2 v), .int .i64 0]) ∧ StoredIn w w' lo hi ∧ MemOk w' mb lo hi L1 :=
 step_tell _ _ 2 (.inr ⟨rfl, rfl, rfl⟩) k c c1 w mb lo hi L L1 v hm hc hTab htop wd i hw hd hbr hpl
end Go.Proofs.YtblnfngigdipcaaGreatDoor.ST
namespace Go.Proofs.YtblnfngigdipcaaGreatDoor.ST
open Go.RowKit Go.Proofs.YtblnfngigdipcaaGreatDoor.P Go.Proofs.YtblnfngigdipcaaGreatDoorW.PrintWords Go.Proofs.YtblnfngigdipcaaGreatDoorW.PrintLast Go.Proofs.YtblnfngigdipcaaGreatDoorW.PrintMore Go.Proofs.YtblnfngigdipcaaGreatDoor.MW Go.Proofs.YtblnfngigdipcaaGreatDoor.M
def flagB (cd : Int) (f : FL) : Bool := match flag_Holds.f cd f.n f.z f.c f.v with | some p => p.1 | none => false
def addV (a b : Int) (ci : Bool) : Int × FL := match flag_Add.f a b ci with | some (r, n, z, c, v) => (r, ⟨n, z, c, v⟩) | none => (0, ⟨false, false, false, false⟩)
def subV (a b : Int) : Int × FL := addV a (Go.bits .xor .u64 18446744073709551615 b) true
def ofF (r : Int) : FL := ⟨decide (wrap64 r < 0), r == 0, false, false⟩
def secV (i : INS) (m : Int) : Int := (secF ((shapeN i.o : Nat) : Int) i.im i.ms i.sh i.am m).getD 0
def aluV (i : INS) (x : ARG) (f : FL) : Int × FL :=
 if i.o = 1 then (secV i x.m, f)
 else if i.o = 2 then (Go.bits .xor .u64 18446744073709551615 (secV i x.m), f)
 else if i.o = 3 then (Go.bits .or .u64 (Go.bits .andNot .u64 x.d (shl .u64 65535 i.am)) (secV i x.m), f)
 else if i.o = 4 ∨ i.o = 12 then ((addV x.n (secV i x.m) false).1, f)
 else if i.o = 5 ∨ i.o = 13 then ((subV x.n (secV i x.m)).1, f)
 else if i.o = 6 ∨ i.o = 14 then addV x.n (secV i x.m) false
 else if i.o = 7 ∨ i.o = 15 then subV x.n (secV i x.m)
 else if i.o = 8 ∨ i.o = 16 then (Go.bits .and .u64 x.n (secV i x.m), f)
 else if i.o = 9 ∨ i.o = 17 then (Go.bits .or .u64 x.n (secV i x.m), f)
 else if i.o = 10 ∨ i.o = 18 then (Go.bits .xor .u64 x.n (secV i x.m), f)
 else if i.o = 11 ∨ i.o = 19 then (Go.bits .and .u64 x.n (secV i x.m), ofF (Go.bits .and .u64 x.n (secV i x.m)))
 else if i.o = 20 then (IntKind.u64.wrap (x.a + IntKind.u64.wrap (x.n * x.m)), f)
 else if i.o = 21 then (IntKind.u64.wrap (x.a - IntKind.u64.wrap (x.n * x.m)), f)
 else (if flagB i.cd f = true then x.n else x.m, f)
structure PL where
 c : CPU
 k : Int
 u : Int
 e : Int
 L : List MP
def ldF (L : List MP) (c : CPU) (i : INS) (p n : Int) : PL := ⟨if (mload L p n).2 = 0 then c.put i.d false (mload L p n).1 else c, 0, 0, (mload L p n).2, L⟩
def stF (L : List MP) (c : CPU) (i : INS) (n : Int) : PL := ⟨c, 0, 0, (mstore L (c.base i) n (c.reg i.d false)).1, (mstore L (c.base i) n (c.reg i.d false)).2⟩
def toSp (i : INS) : Bool := (wrV true i.o i.d).2 && ((wrV true i.o i.d).1 == 31)
def daF (L : List MP) (c : CPU) (i : INS) : PL := ⟨(c.setF (aluV i (c.args i ((shapeN i.o : Nat) : Int)) c.f).2).put i.d (toSp i) (aluV i (c.args i ((shapeN i.o : Nat) : Int)) c.f).1, 0, 0, 0, L⟩
def pageV (c : CPU) (i : INS) : Int := IntKind.u64.wrap (IntKind.u64.wrap (c.pc - c.pc % 4096) + IntKind.u64.wrap (4096 * IntKind.u64.wrap i.im))
def plF (L : List MP) (c : CPU) (i : INS) : PL :=
 if i.o = 22 then ldF L c i (c.base i) 8
 else if i.o = 23 then stF L c i 8
 else if i.o = 24 then ldF L c i (c.base i) 1
 else if i.o = 25 then stF L c i 1
 else if i.o = 26 then ldF L c i (c.near i) 8
 else if i.o = 27 then ⟨c.put i.d false (c.near i), 0, 0, 0, L⟩
 else if i.o = 28 then ⟨c.put i.d false (pageV c i), 0, 0, 0, L⟩
 else if i.o = 37 then ⟨c, if i.im = 0 then 2 else if i.im = 1 then 1 else 0, if i.im = 0 ∨ i.im = 1 then c.x 0 else 0, if i.im = 0 ∨ i.im = 1 then 0 else 10, L⟩
 else if i.o = 38 then ⟨c, 0, 0, 0, L⟩
 else daF L c i
def brF (c : CPU) (i : INS) : CPU :=
 if i.o = 29 then c.jump true (c.near i) false
 else if i.o = 30 then c.jump true (c.near i) true
 else if i.o = 31 then c.jump (flagB i.cd c.f) (c.near i) false
 else if i.o = 32 then c.jump (c.reg i.d false == 0) (c.near i) false
 else if i.o = 33 then c.jump (c.reg i.d false != 0) (c.near i) false
 else if i.o = 35 then c.jump true (c.reg i.n false) true
 else c.jump true (c.reg i.n false) false
def doF (L : List MP) (c : CPU) (i : INS) : PL :=
 if 29 ≤ i.o ∧ i.o ≤ 36 then ⟨brF c i, 0, 0, 0, L⟩
 else if (plF L c i).e = 0 then ⟨(plF L c i).c.next, (plF L c i).k, (plF L c i).u, 0, (plF L c i).L⟩
 else ⟨CPU.zero, 0, 0, (plF L c i).e, (plF L c i).L⟩
def decF (w : Int) : INS × Int := match code_Decode.f 1000 w with
 | some (o, d, n, m, a, im, ms, sh, am, cd, e) => (⟨o, d, n, m, a, im, ms, sh, am, cd⟩, e)
 | none => (⟨0, 0, 0, 0, 0, 0, 0, 0, 0, 0⟩, 11)
def stepF (L : List MP) (c : CPU) : PL :=
 if (mword L c.pc).2 = 0 then (if (decF (mword L c.pc).1).2 = 0 then doF L c (decF (mword L c.pc).1).1 else ⟨CPU.zero, 0, 0, (decF (mword L c.pc).1).2, L⟩)
 else ⟨CPU.zero, 0, 0, (mword L c.pc).2, L⟩
structure INS.okI (i : INS) : Prop where
 o : 1 ≤ i.o ∧ i.o ≤ 39
 d : 0 ≤ i.d ∧ i.d ≤ 31
 n : 0 ≤ i.n ∧ i.n ≤ 31
 m : 0 ≤ i.m ∧ i.m ≤ 31
 a : 0 ≤ i.a ∧ i.a ≤ 31
 am : 0 ≤ i.am
 ms : 0 ≤ i.ms ∧ i.ms < 18446744073709551616
theorem regB_in {t : Bool} {v : Int} (h : regB t v = true) : 0 ≤ v ∧ v ≤ 31 := by
 unfold regB at h
 cases t
 ·simp at h; omega
 ·simpa using h
theorem okI_of {i : INS} {mk : Bool} (h : okB i.o i.d i.n i.m i.a i.im i.ms i.sh i.am i.cd mk = true) (m0 : 0 ≤ i.ms) (m1 : i.ms < 18446744073709551616) : i.okI := by
 unfold okB at h
 simp only [Bool.and_eq_true] at h
 obtain ⟨⟨⟨⟨⟨⟨⟨⟨⟨h1, h2⟩, h3⟩, h4⟩, h5⟩, h6⟩, h7⟩, h8⟩, h9⟩, h10⟩ := h
 refine ⟨?_, regB_in h2, regB_in h3, regB_in h4, regB_in h5, ?_, m0, m1⟩
 ·apply Classical.byContradiction
  intro hn
  have : shapeN i.o = 0 := by
   unfold shapeN
   by_cases h0 : i.o < 1
   ·rw [if_pos h0]
   ·rw [if_neg h0, if_pos (by omega)]
  simp [this] at h1
 ·unfold stepB at h7
  split at h7
  ·simp at h7; omega
  ·simp at h7; omega
theorem CPU.put_x (c : CPU) (n : Int) (st : Bool) (v : Int) (k : Nat) (h0 : 0 ≤ n) (h : n ≠ (k : Int)) : (c.put n st v).x k = c.x k := by
 unfold CPU.put CPU.setX
 split
 ·simp only
  rw [if_neg (by omega)]
 ·split <;> rfl
theorem hasD_fin : ∀ n : Fin 40, 1 ≤ n.val → (inst_sh (shapeN ((n.val : Nat) : Int))).1 = decide (n.val ∉ [29, 30, 31, 34, 35, 36, 37, 38]) := by decide +kernel
def wD (o : Int) : Prop := (1 ≤ o ∧ o ≤ 22) ∨ o = 24 ∨ (26 ≤ o ∧ o ≤ 28) ∨ o = 39
theorem wr_D {o : Int} (d : Int) (h : wD o) : wrV true o d = if d = 31 ∧ spB o = false then (0, false) else (d, true) := by
 unfold wD at h
 have hk : keepB o = false := by unfold keepB; simp; omega
 have hd : (inst_sh (shapeN o)).1 = true := by
  have := hasD_fin ⟨o.toNat, by omega⟩ (by simp only; omega)
  have e : ((o.toNat : Nat) : Int) = o := by omega
  simp only [e] at this
  rw [this]
  simp; omega
 unfold wrV
 rw [hk, hd, if_neg (by simp), if_neg (by omega)]
 simp
theorem wr_keep {o : Int} (d : Int) (h : o = 23 ∨ o = 25 ∨ o = 32 ∨ o = 33) : wrV true o d = (0, false) := by
 unfold wrV
 rw [if_pos (.inr (by unfold keepB; simp; omega))]
theorem wr_call {o : Int} (d : Int) (h : o = 30 ∨ o = 35) : wrV true o d = (30, true) := by
 unfold wrV
 rw [if_neg (by unfold keepB; simp; omega), if_pos h]
theorem wr_none {o : Int} (d : Int) (h : o = 29 ∨ o = 31 ∨ o = 34 ∨ o = 36 ∨ o = 37 ∨ o = 38) : wrV true o d = (0, false) := by
 have hd : (inst_sh (shapeN o)).1 = false := by
  have := hasD_fin ⟨o.toNat, by omega⟩ (by simp only; omega)
  have e : ((o.toNat : Nat) : Int) = o := by omega
  simp only [e] at this
  rw [this]
  simp; omega
 unfold wrV
 rw [if_neg (by unfold keepB; simp; omega), if_neg (by omega), if_pos (.inl hd)]
theorem CPU.reg_set (c : CPU) (k : Nat) (v n : Int) (st : Bool) (h0 : 0 ≤ n) (h : n ≠ (k : Int) ∨ 31 ≤ n) : (c.setX k v).reg n st = c.reg n st := by
 unfold CPU.reg CPU.setX
 split
 ·simp only
  rw [if_neg (by omega)]
 ·rfl
theorem CPU.set_set (c : CPU) (k : Nat) (v u : Int) : (c.setX k v).setX k u = c.setX k u := by
 unfold CPU.setX
 simp only [CPU.mk.injEq, and_true]
 funext j
 split <;> rfl
theorem CPU.set_comm (c : CPU) (k j : Nat) (v u : Int) (h : k ≠ j) : (c.setX k v).setX j u = (c.setX j u).setX k v := by
 unfold CPU.setX
 simp only [CPU.mk.injEq, and_true]
 funext x
 by_cases h1 : x = k
 ·subst h1
  rw [if_neg h, if_pos rfl, if_pos rfl]
 ·rw [if_neg h1, if_neg h1]
def samePL (o d : Int) (k : Nat) (v : Int) (c : CPU) (p q : PL) : Prop :=
 q.e = p.e ∧ q.k = p.k ∧ q.u = p.u ∧ q.L = p.L ∧ (wrV true o d = ((k : Int), true) → q.c = p.c) ∧ (wrV true o d ≠ ((k : Int), true) → q.c = p.c.setX k v ∧ p.c.x k = c.x k)
theorem put_reads (c : CPU) (k : Nat) (v : Int) (d : Int) (st : Bool) (u : Int) (hk : k < 31) (h0 : 0 ≤ d) : (d = (k : Int) → (c.setX k v).put d st u = c.put d st u) ∧ (d ≠ (k : Int) → (c.setX k v).put d st u = (c.put d st u).setX k v) := by
 constructor
 ·rintro rfl
  unfold CPU.put
  rw [if_pos (by omega), if_pos (by omega)]
  exact CPU.set_set c k v u
 ·intro hd
  unfold CPU.put
  split
  ·exact CPU.set_comm c k d.toNat v u (by omega)
  ·split <;> rfl
theorem wr_D_k {o d : Int} {k : Nat} (h : wD o) (hk : k < 31) (hd : 0 ≤ d) : wrV true o d = ((k : Int), true) ↔ d = (k : Int) := by
 rw [wr_D d h]
 constructor
 ·intro e
  split at e
  ·simp at e
  ·simpa using e
 ·rintro rfl
  rw [if_neg (by omega)]
theorem put_same (L : List MP) (c : CPU) (k : Nat) (v : Int) {o d : Int} (st : Bool) (u a b e : Int) (h : wD o) (hk : k < 31) (hd : 0 ≤ d) : samePL o d k v c ⟨c.put d st u, a, b, e, L⟩ ⟨(c.setX k v).put d st u, a, b, e, L⟩ := by
 obtain ⟨h1, h2⟩ := put_reads c k v d st u hk hd
 refine ⟨rfl, rfl, rfl, rfl, fun hw => h1 ((wr_D_k h hk hd).1 hw), fun hw => ?_⟩
 have hn : d ≠ (k : Int) := fun e => hw ((wr_D_k h hk hd).2 e)
 exact ⟨h2 hn, CPU.put_x c d st u k hd hn⟩
theorem keep_same (L : List MP) (c : CPU) (k : Nat) (v : Int) {o d : Int} (a b e : Int) (h : wrV true o d = (0, false)) : samePL o d k v c ⟨c, a, b, e, L⟩ ⟨c.setX k v, a, b, e, L⟩ :=
 ⟨rfl, rfl, rfl, rfl, fun hw => by rw [h] at hw; simp at hw, fun _ => ⟨rfl, rfl⟩⟩
theorem ld_same (L : List MP) (c : CPU) (i : INS) (k : Nat) (v p n : Int) (h : wD i.o) (hk : k < 31) (hd : 0 ≤ i.d) (he : (ldF L c i p n).e = 0) : samePL i.o i.d k v c (ldF L c i p n) (ldF L (c.setX k v) i p n) := by
 unfold ldF at he ⊢
 simp only at he
 rw [if_pos he, if_pos he]
 exact put_same L c k v false _ _ _ _ h hk hd
theorem jump_same (L : List MP) (c : CPU) (k : Nat) (v : Int) {o d : Int} (is : Bool) (ta a b e : Int) (h : wrV true o d = (0, false)) : samePL o d k v c ⟨c.jump is ta false, a, b, e, L⟩ ⟨(c.setX k v).jump is ta false, a, b, e, L⟩ :=
 ⟨rfl, rfl, rfl, rfl, fun hw => by rw [h] at hw; simp at hw, fun _ => ⟨rfl, rfl⟩⟩
theorem call_same (L : List MP) (c : CPU) (k : Nat) (v : Int) {o d : Int} (is : Bool) (ta a b e : Int) (h : o = 30 ∨ o = 35) : samePL o d k v c ⟨c.jump is ta true, a, b, e, L⟩ ⟨(c.setX k v).jump is ta true, a, b, e, L⟩ := by
 have hw := wr_call d h
 unfold samePL
 rw [hw]
 have e1 : (c.setX k v).jump is ta true = { ((c.setX k v).setX 30 (IntKind.u64.wrap (c.pc + 4))) with pc := if is = true then ta else IntKind.u64.wrap (c.pc + 4) } := rfl
 have e2 : c.jump is ta true = { (c.setX 30 (IntKind.u64.wrap (c.pc + 4))) with pc := if is = true then ta else IntKind.u64.wrap (c.pc + 4) } := rfl
 refine ⟨rfl, rfl, rfl, rfl, fun hk => ?_, fun hk => ?_⟩
 ·have : k = 30 := by simp at hk; omega
  subst this
  simp only
  rw [e1, e2, CPU.set_set]
 ·have hn : k ≠ 30 := fun e => hk (by subst e; rfl)
  simp only
  rw [e1, e2, CPU.set_comm c k 30 _ _ hn]
  refine ⟨rfl, ?_⟩
  show (if k = 30 then _ else c.x k) = c.x k
  rw [if_neg hn]
theorem next_same {o d : Int} {k : Nat} {v : Int} {c : CPU} {p q : PL} (h : samePL o d k v c p q) : samePL o d k v c ⟨p.c.next, p.k, p.u, 0, p.L⟩ ⟨q.c.next, q.k, q.u, 0, q.L⟩ := by
 obtain ⟨h1, h2, h3, h4, h5, h6⟩ := h
 refine ⟨rfl, h2, h3, h4, fun hw => by simp only; rw [h5 hw], fun hw => ?_⟩
 obtain ⟨h7, h8⟩ := h6 hw
 simp only
 rw [h7]
 exact ⟨rfl, h8⟩
structure noRead (i : INS) (k : Nat) : Prop where
 sv : i.o = 37 → k ≠ 0
 d : i.d < 31 → keepB i.o = true ∨ i.o = 3 → i.d ≠ (k : Int)
 a : (inst_sh (shapeN i.o)).2.2.2.1 = true → i.a < 31 → i.a ≠ (k : Int)
 m : (inst_sh (shapeN i.o)).2.2.1 = true → i.m < 31 → i.m ≠ (k : Int)
 n : (inst_sh (shapeN i.o)).2.1 = true → i.n < 31 → i.n ≠ (k : Int)
theorem noRead_of {i : INS} {k : Nat} (h : (k : Int) ∉ refR i.o i.d i.n i.m i.a) : noRead i k := by
 unfold refR at h
 simp only [rput_mem, not_or] at h
 obtain ⟨h1, h2, h3, h4, h5, -⟩ := h
 refine ⟨fun e hk => h1 ⟨by simp [e], by simp [hk]⟩, fun e1 e2 ek => h2 ⟨by simp [e1]; rcases e2 with e2 | e2 <;> simp [e2], ek.symm⟩, fun e1 e2 ek => h3 ⟨by simp [e1, e2], ek.symm⟩, fun e1 e2 ek => h4 ⟨by simp [e1, e2], ek.symm⟩, fun e1 e2 ek => h5 ⟨by simp [e1, e2], ek.symm⟩⟩
theorem hasN_fin : ∀ n : Fin 40, 1 ≤ n.val → ((inst_sh (shapeN ((n.val : Nat) : Int))).2.1 = decide (n.val ∈ [4, 5, 6, 7, 8, 9, 10, 11, 12, 13, 14, 15, 16, 17, 18, 19, 20, 21, 22, 23, 24, 25, 34, 35, 36, 39])) ∧ ((inst_sh (shapeN ((n.val : Nat) : Int))).2.2.1 = decide (n.val ∈ [12, 13, 14, 15, 16, 17, 18, 19, 20, 21, 39])) ∧ ((inst_sh (shapeN ((n.val : Nat) : Int))).2.2.2.1 = decide (n.val ∈ [20, 21])) := by decide +kernel
theorem has_of {o : Int} (h : 1 ≤ o ∧ o ≤ 39) : ((inst_sh (shapeN o)).2.1 = decide (o ∈ [(4 : Int), 5, 6, 7, 8, 9, 10, 11, 12, 13, 14, 15, 16, 17, 18, 19, 20, 21, 22, 23, 24, 25, 34, 35, 36, 39])) ∧ ((inst_sh (shapeN o)).2.2.1 = decide (o ∈ [(12 : Int), 13, 14, 15, 16, 17, 18, 19, 20, 21, 39])) ∧ ((inst_sh (shapeN o)).2.2.2.1 = decide (o ∈ [(20 : Int), 21])) := by
 have := hasN_fin ⟨o.toNat, by omega⟩ (by simp only; omega)
 have e : ((o.toNat : Nat) : Int) = o := by omega
 simp only [e] at this
 obtain ⟨h1, h2, h3⟩ := this
 rw [h1, h2, h3]
 refine ⟨?_, ?_, ?_⟩ <;> (rw [decide_eq_decide]; simp only [List.mem_cons, List.not_mem_nil, or_false]; omega)
theorem sec_fin : ∀ n : Fin 40, 1 ≤ n.val → n.val ≤ 11 → shapeN ((n.val : Nat) : Int) = 1 ∨ shapeN ((n.val : Nat) : Int) = 2 ∨ shapeN ((n.val : Nat) : Int) = 3 := by decide +kernel
theorem sec_no {i : INS} (h : 1 ≤ i.o ∧ i.o ≤ 11) (m m' : Int) : secV i m = secV i m' := by
 have h3 := sec_fin ⟨i.o.toNat, by omega⟩ (by simp only; omega) (by simp only; omega)
 have e : ((i.o.toNat : Nat) : Int) = i.o := by omega
 simp only [e] at h3
 unfold secV secF
 rcases h3 with h | h | h <;> rw [h] <;> rfl
theorem alu_same (c : CPU) (i : INS) (k : Nat) (v : Int) (f : FL) (hi : i.okI) (hr : noRead i k) (h : (1 ≤ i.o ∧ i.o ≤ 21) ∨ i.o = 39) (hk : k < 31) :
  aluV i ((c.setX k v).args i ((shapeN i.o : Nat) : Int)) f = aluV i (c.args i ((shapeN i.o : Nat) : Int)) f := by
 obtain ⟨hN, hM, hA⟩ := has_of hi.o
 have rn : i.o ∈ [(4 : Int), 5, 6, 7, 8, 9, 10, 11, 12, 13, 14, 15, 16, 17, 18, 19, 20, 21, 22, 23, 24, 25, 34, 35, 36, 39] → ((c.setX k v).args i ((shapeN i.o : Nat) : Int)).n = (c.args i ((shapeN i.o : Nat) : Int)).n := fun hm => by
  rw [decide_eq_true hm] at hN
  exact CPU.reg_set c k v i.n _ hi.n.1 (by by_cases h1 : i.n < 31; exact .inl (hr.n hN h1); exact .inr (by omega))
 have rm : i.o ∈ [(12 : Int), 13, 14, 15, 16, 17, 18, 19, 20, 21, 39] → ((c.setX k v).args i ((shapeN i.o : Nat) : Int)).m = (c.args i ((shapeN i.o : Nat) : Int)).m := fun hm => by
  rw [decide_eq_true hm] at hM
  exact CPU.reg_set c k v i.m _ hi.m.1 (by by_cases h1 : i.m < 31; exact .inl (hr.m hM h1); exact .inr (by omega))
 have ra : i.o ∈ [(20 : Int), 21] → ((c.setX k v).args i ((shapeN i.o : Nat) : Int)).a = (c.args i ((shapeN i.o : Nat) : Int)).a := fun hm => by
  rw [decide_eq_true hm] at hA
  exact CPU.reg_set c k v i.a _ hi.a.1 (by by_cases h1 : i.a < 31; exact .inl (hr.a hA h1); exact .inr (by omega))
 have rd : i.o = 3 → ((c.setX k v).args i ((shapeN i.o : Nat) : Int)).d = (c.args i ((shapeN i.o : Nat) : Int)).d := fun hm =>
  CPU.reg_set c k v i.d _ hi.d.1 (by by_cases h1 : i.d < 31; exact .inl (hr.d h1 (.inr hm)); exact .inr (by omega))
 generalize (c.setX k v).args i ((shapeN i.o : Nat) : Int) = y at *
 generalize c.args i ((shapeN i.o : Nat) : Int) = x at *
 clear hN hM hA hr
 have ho := hi.o
 by_cases h11 : i.o ≤ 11
 ·have hs := sec_no ⟨ho.1, h11⟩ y.m x.m
  by_cases h3 : i.o ≤ 3
  ·by_cases e3 : i.o = 3
   ·unfold aluV; rw [hs, rd e3]; simp [e3]
   ·have : i.o = 1 ∨ i.o = 2 := by omega
    unfold aluV; rw [hs]; rcases this with e | e <;> simp [e]
  ·have hn := rn (by simp; omega)
   have : i.o = 4 ∨ i.o = 5 ∨ i.o = 6 ∨ i.o = 7 ∨ i.o = 8 ∨ i.o = 9 ∨ i.o = 10 ∨ i.o = 11 := by omega
   unfold aluV; rw [hs, hn]; rcases this with e | e | e | e | e | e | e | e <;> simp [e]
 ·have hn := rn (by simp; omega)
  have hm := rm (by simp; omega)
  by_cases h20 : i.o = 20 ∨ i.o = 21
  ·have ha := ra (by simp; omega)
   unfold aluV; rw [hm, hn, ha]; rcases h20 with e | e <;> simp [e]
  ·unfold aluV; rw [hm, hn]
   have : i.o = 12 ∨ i.o = 13 ∨ i.o = 14 ∨ i.o = 15 ∨ i.o = 16 ∨ i.o = 17 ∨ i.o = 18 ∨ i.o = 19 ∨ i.o = 39 := by omega
   rcases this with e | e | e | e | e | e | e | e | e <;> simp [e]
theorem base_same (c : CPU) (i : INS) (k : Nat) (v : Int) (hi : i.okI) (hr : noRead i k) (h : i.o = 22 ∨ i.o = 23 ∨ i.o = 24 ∨ i.o = 25) : (c.setX k v).base i = c.base i := by
 obtain ⟨hN, -, -⟩ := has_of hi.o
 rw [decide_eq_true (by simp; omega)] at hN
 unfold CPU.base
 rw [CPU.reg_set c k v i.n _ hi.n.1 (by by_cases h1 : i.n < 31; exact .inl (hr.n hN h1); exact .inr (by omega))]
theorem st_same (L : List MP) (c : CPU) (i : INS) (k : Nat) (v n : Int) (hi : i.okI) (hr : noRead i k) (h : i.o = 23 ∨ i.o = 25) : samePL i.o i.d k v c (stF L c i n) (stF L (c.setX k v) i n) := by
 unfold stF
 rw [base_same c i k v hi hr (by omega), CPU.reg_set c k v i.d _ hi.d.1 (by by_cases h1 : i.d < 31; exact .inl (hr.d h1 (.inl (by unfold keepB; simp; omega))); exact .inr (by omega))]
 exact keep_same _ c k v _ _ _ (wr_keep i.d (by omega))
theorem da_same (L : List MP) (c : CPU) (i : INS) (k : Nat) (v : Int) (hi : i.okI) (hr : noRead i k) (h : (1 ≤ i.o ∧ i.o ≤ 21) ∨ i.o = 39) (hk : k < 31) : samePL i.o i.d k v c (daF L c i) (daF L (c.setX k v) i) := by
 unfold daF
 rw [show (c.setX k v).f = c.f from rfl, alu_same c i k v c.f hi hr h hk]
 exact put_same L (c.setF (aluV i (c.args i ((shapeN i.o : Nat) : Int)) c.f).2) k v _ _ _ _ _ (by unfold wD; omega) hk hi.d.1
theorem pl_same (L : List MP) (c : CPU) (i : INS) (k : Nat) (v : Int) (hi : i.okI) (hr : noRead i k) (hk : k < 31) (hn : ¬ (29 ≤ i.o ∧ i.o ≤ 36)) :
  (plF L (c.setX k v) i).e = (plF L c i).e ∧ ((plF L c i).e = 0 → samePL i.o i.d k v c (plF L c i) (plF L (c.setX k v) i)) := by
 have ho := hi.o
 have hd := hi.d.1
 have of : ∀ {p q : PL}, samePL i.o i.d k v c p q → q.e = p.e ∧ (p.e = 0 → samePL i.o i.d k v c p q) := fun h => ⟨h.1, fun _ => h⟩
 unfold plF
 by_cases h22 : i.o = 22
 ·rw [if_pos h22, if_pos h22, base_same c i k v hi hr (by omega)]; exact ⟨rfl, ld_same L c i k v _ _ (by unfold wD; omega) hk hd⟩
 rw [if_neg h22, if_neg h22]
 by_cases h23 : i.o = 23
 ·rw [if_pos h23, if_pos h23]; exact of (st_same L c i k v 8 hi hr (.inl h23))
 rw [if_neg h23, if_neg h23]
 by_cases h24 : i.o = 24
 ·rw [if_pos h24, if_pos h24, base_same c i k v hi hr (by omega)]; exact ⟨rfl, ld_same L c i k v _ _ (by unfold wD; omega) hk hd⟩
 rw [if_neg h24, if_neg h24]
 by_cases h25 : i.o = 25
 ·rw [if_pos h25, if_pos h25]; exact of (st_same L c i k v 1 hi hr (.inr h25))
 rw [if_neg h25, if_neg h25]
 by_cases h26 : i.o = 26
 ·rw [if_pos h26, if_pos h26, show (c.setX k v).near i = c.near i from rfl]; exact ⟨rfl, ld_same L c i k v _ _ (by unfold wD; omega) hk hd⟩
 rw [if_neg h26, if_neg h26]
 by_cases h27 : i.o = 27
 ·rw [if_pos h27, if_pos h27]; exact of (put_same L c k v false _ _ _ _ (by unfold wD; omega) hk hd)
 rw [if_neg h27, if_neg h27]
 by_cases h28 : i.o = 28
 ·rw [if_pos h28, if_pos h28]; exact of (put_same L c k v false _ _ _ _ (by unfold wD; omega) hk hd)
 rw [if_neg h28, if_neg h28]
 by_cases h37 : i.o = 37
 ·rw [if_pos h37, if_pos h37]
  have hx : (c.setX k v).x 0 = c.x 0 := if_neg (fun e => hr.sv h37 e.symm)
  rw [hx]
  exact of (keep_same L c k v _ _ _ (wr_none i.d (by omega)))
 rw [if_neg h37, if_neg h37]
 by_cases h38 : i.o = 38
 ·rw [if_pos h38, if_pos h38]; exact of (keep_same L c k v _ _ _ (wr_none i.d (by omega)))
 rw [if_neg h38, if_neg h38]
 exact of (da_same L c i k v hi hr (by omega) hk)
theorem br_same (L : List MP) (c : CPU) (i : INS) (k : Nat) (v : Int) (hi : i.okI) (hr : noRead i k) (h : 29 ≤ i.o ∧ i.o ≤ 36) : samePL i.o i.d k v c ⟨brF c i, 0, 0, 0, L⟩ ⟨brF (c.setX k v) i, 0, 0, 0, L⟩ := by
 have rd : i.o = 32 ∨ i.o = 33 → (c.setX k v).reg i.d false = c.reg i.d false := fun hm =>
  CPU.reg_set c k v i.d _ hi.d.1 (by by_cases h1 : i.d < 31; exact .inl (hr.d h1 (.inl (by unfold keepB; simp; omega))); exact .inr (by omega))
 have rn : i.o = 34 ∨ i.o = 35 ∨ i.o = 36 → (c.setX k v).reg i.n false = c.reg i.n false := fun hm => by
  obtain ⟨hN, -, -⟩ := has_of hi.o
  rw [decide_eq_true (by simp; omega)] at hN
  exact CPU.reg_set c k v i.n _ hi.n.1 (by by_cases h1 : i.n < 31; exact .inl (hr.n hN h1); exact .inr (by omega))
 unfold brF
 by_cases h29 : i.o = 29
 ·rw [if_pos h29, if_pos h29]; exact jump_same L c k v _ _ _ _ _ (wr_none i.d (by omega))
 rw [if_neg h29, if_neg h29]
 by_cases h30 : i.o = 30
 ·rw [if_pos h30, if_pos h30]; exact call_same L c k v _ _ _ _ _ (.inl h30)
 rw [if_neg h30, if_neg h30]
 by_cases h31 : i.o = 31
 ·rw [if_pos h31, if_pos h31]; exact jump_same L c k v _ _ _ _ _ (wr_none i.d (by omega))
 rw [if_neg h31, if_neg h31]
 by_cases h32 : i.o = 32
 ·rw [if_pos h32, if_pos h32, rd (by omega)]; exact jump_same L c k v _ _ _ _ _ (wr_keep i.d (by omega))
 rw [if_neg h32, if_neg h32]
 by_cases h33 : i.o = 33
 ·rw [if_pos h33, if_pos h33, rd (by omega)]; exact jump_same L c k v _ _ _ _ _ (wr_keep i.d (by omega))
 rw [if_neg h33, if_neg h33]
 by_cases h35 : i.o = 35
 ·rw [if_pos h35, if_pos h35, rn (by omega)]; exact call_same L c k v _ _ _ _ _ (.inr h35)
 rw [if_neg h35, if_neg h35, rn (by omega)]
 exact jump_same L c k v _ _ _ _ _ (wr_none i.d (by omega))
theorem do_same (L : List MP) (c : CPU) (i : INS) (k : Nat) (v : Int) (hi : i.okI) (hr : noRead i k) (hk : k < 31) :
  (doF L (c.setX k v) i).e = (doF L c i).e ∧ (doF L (c.setX k v) i).k = (doF L c i).k ∧ (doF L (c.setX k v) i).u = (doF L c i).u ∧ ((doF L c i).e = 0 → samePL i.o i.d k v c (doF L c i) (doF L (c.setX k v) i)) := by
 unfold doF
 by_cases hb : 29 ≤ i.o ∧ i.o ≤ 36
 ·rw [if_pos hb, if_pos hb]
  have h := br_same L c i k v hi hr hb
  exact ⟨rfl, rfl, rfl, fun _ => h⟩
 ·rw [if_neg hb, if_neg hb]
  obtain ⟨h1, h2⟩ := pl_same L c i k v hi hr hk hb
  rw [h1]
  by_cases he : (plF L c i).e = 0
  ·rw [if_pos he, if_pos he]
   have h := next_same (h2 he)
   exact ⟨rfl, h.2.1, h.2.2.1, fun _ => h⟩
  ·rw [if_neg he, if_neg he]
   exact ⟨rfl, rfl, rfl, fun h0 => absurd h0 he⟩
structure TR where
 told : List Int
 halted : Bool
 code : Int
 steps : Int
 e : Int
def TR.zero : TR := ⟨[], false, 0, 0, 0⟩
def TR.add (t : TR) (k u : Int) : TR := ⟨if k = 1 then t.told ++ [u] else t.told, if k = 2 then true else t.halted, if k = 2 then u else t.code, t.steps + 1, t.e⟩
def runF : Nat → List MP → CPU → TR → CPU × TR × List MP
 | 0, L, c, t => (c, t, L)
 | n + 1, L, c, t => if t.halted = true then (c, t, L) else if (stepF L c).e = 0 then runF n (stepF L c).L (stepF L c).c (t.add (stepF L c).k (stepF L c).u) else (c, { t with e := (stepF L c).e }, (stepF L c).L)
def TR.on (t u : TR) : TR := ⟨t.told ++ u.told, u.halted, u.code, t.steps + u.steps, u.e⟩
def in64 (x : Int) : Prop := 0 ≤ x ∧ x < 18446744073709551616
theorem and_in (a b : Int) : in64 (Go.bits .and .u64 a b) := by unfold Go.bits; exact u64_range _
theorem or_in (a b : Int) : in64 (Go.bits .or .u64 a b) := by unfold Go.bits; exact u64_range _
theorem xor_in (a b : Int) : in64 (Go.bits .xor .u64 a b) := by unfold Go.bits; exact u64_range _
theorem zero_in : in64 0 := ⟨by decide, by decide⟩
theorem sum_in (a b : Int) (c : Bool) : in64 (flag_sum a b c) := by unfold flag_sum in64; split <;> omega
theorem add_in (a b : Int) (c : Bool) : in64 (addV a b c).1 := by
 unfold addV flag_Add.f
 split
 ·rename_i h
  split at h
  ·split at h
   ·simp only [Option.some.injEq, Prod.mk.injEq] at h
    rw [← h.1]
    exact sum_in _ _ _
   ·cases h
  ·cases h
 ·exact ⟨by decide, by decide⟩
theorem alu_in (i : INS) (x : ARG) (f : FL) (hn : in64 x.n) (hm : in64 x.m) (hV : in64 (secV i x.m)) : in64 (aluV i x f).1 := by
 have P : ∀ (q : Prop) [Decidable q] (a b : Int × FL), in64 a.1 → in64 b.1 → in64 (if q then a else b).1 := by
  intro q _ a b h1 h2
  by_cases hq : q
  ·rw [if_pos hq]; exact h1
  ·rw [if_neg hq]; exact h2
 have hc : in64 (if flagB i.cd f = true then x.n else x.m) := by
  by_cases hq : flagB i.cd f = true
  ·rw [if_pos hq]; exact hn
  ·rw [if_neg hq]; exact hm
 unfold aluV
 exact P _ _ _ hV (P _ _ _ (xor_in _ _) (P _ _ _ (or_in _ _) (P _ _ _ (add_in _ _ _) (P _ _ _ (add_in _ _ _) (P _ _ _ (add_in _ _ _) (P _ _ _ (add_in _ _ _) (P _ _ _ (and_in _ _) (P _ _ _ (or_in _ _) (P _ _ _ (xor_in _ _) (P _ _ _ (and_in _ _) (P _ _ _ (u64_range _) (P _ _ _ (u64_range _) hc))))))))))))
theorem CPU.ok.setF {c : CPU} (h : c.ok) (f : FL) : (c.setF f).ok := ⟨h.x, h.sp, h.pc⟩
theorem CPU.ok.next {c : CPU} (h : c.ok) : c.next.ok := ⟨h.x, h.sp, u64_range _⟩
theorem CPU.ok.jump {c : CPU} (h : c.ok) (is : Bool) (ta : Int) (call : Bool) (ht : in64 ta) : (c.jump is ta call).ok := by
 unfold CPU.jump
 refine ⟨fun k => ?_, ?_, ?_⟩
 ·cases call
  ·exact h.x k
  ·show 0 ≤ (if k = 30 then _ else c.x k) ∧ (if k = 30 then _ else c.x k) < _
   split
   ·exact u64_range _
   ·exact h.x k
 ·cases call <;> exact h.sp
 ·cases is
  ·exact u64_range _
  ·exact ht
theorem ok_zero : CPU.zero.ok := ⟨fun _ => zero_in, zero_in, zero_in⟩
theorem cut_isB {p : MP} (h : p.good) (x : Int) (n : Nat) : isB (mcut p x n) := fun y hy => h.2.2.2.2.2.2 y (List.mem_of_mem_drop (List.mem_of_mem_take hy))
theorem pow_256 (n k : Nat) (h : n ≤ k) : (256 : Int) ^ n ≤ 256 ^ k := by
 obtain ⟨d, rfl⟩ := Nat.exists_eq_add_of_le h
 rw [Int.pow_add]
 have h1 : (0 : Int) < 256 ^ n := Int.pow_pos (by decide)
 have h2 : (0 : Int) < 256 ^ d := Int.pow_pos (by decide)
 have := Int.mul_le_mul_of_nonneg_left (show (1 : Int) ≤ 256 ^ d by omega) (show (0 : Int) ≤ 256 ^ n by omega)
 omega
theorem cut_lt {p : MP} (h : p.good) (x : Int) (n k : Nat) (hk : n ≤ k) : 0 ≤ leV (mcut p x n) ∧ leV (mcut p x n) < 256 ^ k := by
 obtain ⟨h1, h2⟩ := leV_lt _ (cut_isB h x n)
 have h3 : (mcut p x n).length ≤ n := by unfold mcut; rw [List.length_take]; omega
 have := pow_256 _ k (Nat.le_trans h3 hk)
 omega
theorem load_in {L : List MP} (hL : ∀ p, p ∈ L → p.good) (x n : Int) : in64 (mload L x n).1 := by
 unfold mload
 split
 ·rename_i hn
  cases hm : mat_ L x n with
  | none => exact zero_in
  | some q =>
   have h1 := (mat_some hm).1
   have := cut_lt (hL q.2 (List.mem_of_getElem? h1)) x n.toNat 8 (by omega)
   exact ⟨this.1, by simpa using this.2⟩
 ·exact ⟨by decide, by decide⟩
theorem word_in {L : List MP} (hL : ∀ p, p ∈ L → p.good) (x : Int) : 0 ≤ (mword L x).1 ∧ (mword L x).1 < 4294967296 := by
 have w0 : 0 ≤ (0 : Int) ∧ (0 : Int) < 4294967296 := ⟨by decide, by decide⟩
 unfold mword
 split
 ·cases hm : mat_ L x 4 with
  | none => exact w0
  | some q =>
   have h1 := (mat_some hm).1
   simp only
   split
   ·have := cut_lt (hL q.2 (List.mem_of_getElem? h1)) x 4 4 (Nat.le_refl _)
    exact ⟨this.1, by simpa using this.2⟩
   ·exact ⟨by decide, by decide⟩
 ·exact ⟨by decide, by decide⟩
def secOk (i : INS) : Prop := ∀ m, in64 m → in64 (secV i m)
theorem ld_ok {L : List MP} (hL : ∀ p, p ∈ L → p.good) {c : CPU} (hc : c.ok) (i : INS) (p n : Int) : (ldF L c i p n).c.ok := by
 unfold ldF
 simp only
 split
 ·exact hc.put _ _ _ (load_in hL _ _)
 ·exact hc
theorem da_ok (L : List MP) {c : CPU} (hc : c.ok) (i : INS) (hs : secOk i) : (daF L c i).c.ok := by
 unfold daF
 exact (hc.setF _).put _ _ _ (alu_in i _ _ (hc.reg _ _) (hc.reg _ _) (hs _ (hc.reg _ _)))
theorem pl_ok {L : List MP} (hL : ∀ p, p ∈ L → p.good) {c : CPU} (hc : c.ok) (i : INS) (hs : secOk i) : (plF L c i).c.ok := by
 unfold plF
 repeat' split
 all_goals first
  | exact ld_ok hL hc i _ _
  | exact hc
  | exact hc.put _ _ _ (u64_range _)
  | exact da_ok L hc i hs
theorem br_ok {c : CPU} (hc : c.ok) (i : INS) : (brF c i).ok := by
 unfold brF
 repeat' split
 all_goals first
  | exact hc.jump _ _ _ (u64_range _)
  | exact hc.jump _ _ _ (hc.reg _ _)
theorem do_ok {L : List MP} (hL : ∀ p, p ∈ L → p.good) {c : CPU} (hc : c.ok) (i : INS) (hs : secOk i) : (doF L c i).c.ok := by
 unfold doF
 split
 ·exact br_ok hc i
 ·split
  ·exact (pl_ok hL hc i hs).next
  ·exact ok_zero
theorem do_told (L : List MP) {c : CPU} (hc : c.ok) (i : INS) : in64 (doF L c i).u := by
 have z : in64 0 := ⟨by decide, by decide⟩
 unfold doF
 split
 ·exact z
 ·split
  ·show in64 (plF L c i).u
   unfold plF
   repeat' split
   all_goals first
    | exact z
    | exact hc.x 0
  ·exact z
theorem shift_in (a b c : Int) : ∃ r e, (in64 a → in64 r) ∧ flag_Shift.f 1 a b c = some (r, e) := by
 have z : in64 0 := zero_in
 have s : ∀ x y, in64 (shl .u64 x y) := fun x y => by unfold shl; exact u64_range _
 unfold flag_Shift.f
 by_cases h0 : c < 0
 ·rw [if_pos h0]
  exact ⟨0, 1, fun _ => z, by simp [flag_Shift.j0]⟩
 ·rw [if_neg h0]
  by_cases h1 : c ≥ 64
  ·exact ⟨0, 1, fun _ => z, by simp [flag_Shift.j0, h1]⟩
  ·have hw : 0 ≤ wrap64 (64 - c) := by unfold wrap64; omega
   have h2 : 0 ≤ c := by omega
   simp only [flag_Shift.j0, h1, decide_false, Bool.false_eq_true, if_false, hw, h2, if_true]
   by_cases b0 : b = 0
   ·exact ⟨shl .u64 a c, 0, fun _ => s _ _, by rw [if_pos b0]⟩
   ·rw [if_neg b0]
    by_cases b3 : b = 3
    ·rw [if_pos b3]; exact ⟨_, _, fun _ => or_in _ _, rfl⟩
    ·rw [if_neg b3]
     by_cases b1 : b = 1
     ·rw [if_pos b1]; exact ⟨_, _, fun _ => or_in _ _, rfl⟩
     ·rw [if_neg b1]
      by_cases b2 : b = 2
      ·rw [if_pos b2]; exact ⟨_, _, fun _ => u64_range _, rfl⟩
      ·rw [if_neg b2]; exact ⟨_, _, fun _ => z, rfl⟩
theorem sec_some (i : INS) (hi : i.okI) (m : Int) : secF ((shapeN i.o : Nat) : Int) i.im i.ms i.sh i.am m = some (secV i m) ∧ (in64 m → in64 (secV i m)) := by
 unfold secV
 obtain ⟨p, pe, hp0, hp⟩ := shift_in (IntKind.u64.wrap i.im) 0 i.am
 obtain ⟨q, qe, hq0, hq⟩ := shift_in m i.sh i.am
 unfold secF
 by_cases c1 : ((shapeN i.o : Nat) : Int) = 1 ∨ ((shapeN i.o : Nat) : Int) = 2
 ·rw [if_pos c1, hp]
  exact ⟨rfl, fun _ => hp0 (u64_range _)⟩
 ·rw [if_neg c1]
  by_cases c2 : ((shapeN i.o : Nat) : Int) = 3
  ·rw [if_pos c2]
   exact ⟨rfl, fun _ => hi.ms⟩
  ·rw [if_neg c2, hq]
   exact ⟨rfl, hq0⟩
theorem okI_sec {i : INS} (hi : i.okI) : secOk i := fun m hm => (sec_some i hi m).2 hm
theorem decF_ok (w : Int) (h0 : 0 ≤ w) (h1 : w < 4294967296) :
  code_Decode.f 1000 w = some ((decF w).1.o, (decF w).1.d, (decF w).1.n, (decF w).1.m, (decF w).1.a, (decF w).1.im, (decF w).1.ms, (decF w).1.sh, (decF w).1.am, (decF w).1.cd, (decF w).2) ∧
  ((decF w).2 = 0 → (decF w).1.okI ∧ inst_Is.f 1000 (decF w).1.o (decF w).1.d (decF w).1.n (decF w).1.m (decF w).1.a (decF w).1.im (decF w).1.ms (decF w).1.sh (decF w).1.am (decF w).1.cd = some true) := by
 obtain ⟨W, rfl⟩ := Int.eq_ofNat_of_zero_le h0
 rcases back_all W (by omega) with h | ⟨c, h, hi, -, -, m0, m1⟩
 ·have e : decF (W : Int) = (⟨0, 0, 0, 0, 0, 0, 0, 0, 0, 0⟩, 11) := by unfold decF; rw [h]; rfl
  rw [e]
  exact ⟨h, fun h => absurd h (by decide)⟩
 ·have e : decF (W : Int) = (⟨c.o, c.d, c.n, c.m, c.a, c.im, c.ms, c.sh, c.am, c.cd⟩, 0) := by unfold decF; rw [h]; rfl
  rw [e]
  refine ⟨h, fun _ => ⟨?_, hi⟩⟩
  obtain ⟨mk, t, h2, -⟩ := is_all c m0 m1
  rw [hi] at h2
  have h3 := (Option.some.inj h2).symm
  exact okI_of (i := ⟨c.o, c.d, c.n, c.m, c.a, c.im, c.ms, c.sh, c.am, c.cd⟩) (mk := mk) h3 m0 m1
theorem step_ok {L : List MP} (hL : ∀ p, p ∈ L → p.good) {c : CPU} (hc : c.ok) : (stepF L c).c.ok := by
 unfold stepF
 split
 ·split
  ·rename_i h
   have hw := word_in hL c.pc
   exact do_ok hL hc _ (okI_sec ((decF_ok _ hw.1 hw.2).2 h).1)
  ·exact ok_zero
 ·exact ok_zero
theorem step_told {L : List MP} {c : CPU} (hc : c.ok) : in64 (stepF L c).u := by
 unfold stepF
 split
 ·split
  ·exact do_told L hc _
  ·exact zero_in
 ·exact zero_in
theorem add_calls (a b : Int) (ci : Bool) (ha : 0 ≤ a) (hb : 0 ≤ b) (w : World) : Calls Tryz.prog 350 #[.int .u64 a, .int .u64 b, .bool ci] w fun e w' => e = .returned (.tuple #[.int .u64 (addV a b ci).1, .agg (addV a b ci).2.a]) ∧ Below w.heap.size w w' := by
 obtain ⟨p, hp⟩ : ∃ p, flag_Add.f a b ci = some p := by unfold flag_Add.f; rw [if_pos ha, if_pos hb]; exact ⟨_, rfl⟩
 obtain ⟨r, n, z, c, v⟩ := p
 have e : addV a b ci = (r, ⟨n, z, c, v⟩) := by unfold addV; rw [hp]
 rw [e]
 exact flag_Add.calls a b ci r n z c v w hp
theorem sub_calls (a b : Int) (ha : 0 ≤ a) (w : World) : Calls Tryz.prog 351 #[.int .u64 a, .int .u64 b] w fun e w' => e = .returned (.tuple #[.int .u64 (subV a b).1, .agg (subV a b).2.a]) ∧ Below w.heap.size w w' := by
 have hx := (xor_in 18446744073709551615 b).1
 obtain ⟨p, hp⟩ : ∃ p, flag_Add.f a (Go.bits .xor .u64 18446744073709551615 b) true = some p := by unfold flag_Add.f; rw [if_pos ha, if_pos hx]; exact ⟨_, rfl⟩
 obtain ⟨r, n, z, c, v⟩ := p
 have e : subV a b = (r, ⟨n, z, c, v⟩) := by unfold subV addV; rw [hp]
 rw [e]
 exact flag_Sub.calls a b r n z c v w (by unfold flag_Sub.f; rw [hp]; rfl)
theorem holds_calls (cd : Int) (f : FL) (w : World) : ∃ e2, ∀ w, Calls Tryz.prog 159 #[.int .i64 cd, .agg f.a] w fun e_ w' => e_ = .returned (.tuple #[.bool (flagB cd f), .int .i64 e2]) ∧ Below w.heap.size w w' := by
 obtain ⟨p, hp⟩ : ∃ p, flag_Holds.f cd f.n f.z f.c f.v = some p := by unfold flag_Holds.f; split <;> exact ⟨_, rfl⟩
 obtain ⟨b, e2⟩ := p
 have e : flagB cd f = b := by unfold flagB; rw [hp]
 rw [e]
 exact ⟨e2, fun w => flag_Holds.calls cd f.n f.z f.c f.v b e2 w hp⟩
theorem of_calls (r : Int) (w : World) : Calls Tryz.prog 352 #[.int .u64 r] w fun e w' => e = .returned (.agg (ofF r).a) ∧ Below w.heap.size w w' :=
 flag_Of.calls r _ _ _ _ w rfl
theorem alu_op {i : INS} (h : (1 ≤ i.o ∧ i.o ≤ 21) ∨ i.o = 39) : aluOps i.o := by unfold aluOps; omega
theorem alu_ret (i : INS) (x : ARG) (f : FL) (hi : i.okI) (hn : in64 x.n) (hm : in64 x.m) (h : (1 ≤ i.o ∧ i.o ≤ 21) ∨ i.o = 39) : WkRet (alu_fn i.o) i x f (aluV i x f).1 (aluV i x f).2 := by
 have hV : SecV i x f (secV i x.m) := sec_of i x f _ _ (shape_at i.o) (sec_some i hi x.m).1
 have v0 := ((sec_some i hi x.m).2 hm).1
 have h8 := hi.am
 have n0 := hn.1
 have HA : WkRet 312 i x f (addV x.n (secV i x.m) false).1 (addV x.n (secV i x.m) false).2 := wk_adds i x f _ _ _ hV (add_calls _ _ _ n0 v0)
 have HS : WkRet 313 i x f (subV x.n (secV i x.m)).1 (subV x.n (secV i x.m)).2 := wk_subs i x f _ _ _ hV (sub_calls _ _ n0)
 have ho : i.o = 1 ∨ i.o = 2 ∨ i.o = 3 ∨ i.o = 4 ∨ i.o = 5 ∨ i.o = 6 ∨ i.o = 7 ∨ i.o = 8 ∨ i.o = 9 ∨ i.o = 10 ∨ i.o = 11 ∨ i.o = 12 ∨ i.o = 13 ∨ i.o = 14 ∨ i.o = 15 ∨ i.o = 16 ∨ i.o = 17 ∨ i.o = 18 ∨ i.o = 19 ∨ i.o = 20 ∨ i.o = 21 ∨ i.o = 39 := by omega
 rcases ho with e | e | e | e | e | e | e | e | e | e | e | e | e | e | e | e | e | e | e | e | e | e
 ·have e1 : alu_fn i.o = 307 := by rw [e]; rfl
  have e2 : aluV i x f = (secV i x.m, f) := by unfold aluV; simp [e]
  rw [e1, e2]
  exact wk_put i x f _ hV
 ·have e1 : alu_fn i.o = 308 := by rw [e]; rfl
  have e2 : aluV i x f = (Go.bits .xor .u64 18446744073709551615 (secV i x.m), f) := by unfold aluV; simp [e]
  rw [e1, e2]
  exact wk_not i x f _ hV
 ·have e1 : alu_fn i.o = 309 := by rw [e]; rfl
  have e2 : aluV i x f = (Go.bits .or .u64 (Go.bits .andNot .u64 x.d (shl .u64 65535 i.am)) (secV i x.m), f) := by unfold aluV; simp [e]
  rw [e1, e2]
  exact wk_keep i x f _ hV h8
 ·have e1 : alu_fn i.o = 310 := by rw [e]; rfl
  have e2 : aluV i x f = ((addV x.n (secV i x.m) false).1, f) := by unfold aluV; simp [e]
  rw [e1, e2]
  exact wk_add i x f _ _ HA
 ·have e1 : alu_fn i.o = 311 := by rw [e]; rfl
  have e2 : aluV i x f = ((subV x.n (secV i x.m)).1, f) := by unfold aluV; simp [e]
  rw [e1, e2]
  exact wk_sub i x f _ _ HS
 ·have e1 : alu_fn i.o = 312 := by rw [e]; rfl
  have e2 : aluV i x f = addV x.n (secV i x.m) false := by unfold aluV; simp [e]
  rw [e1, e2]
  exact HA
 ·have e1 : alu_fn i.o = 313 := by rw [e]; rfl
  have e2 : aluV i x f = subV x.n (secV i x.m) := by unfold aluV; simp [e]
  rw [e1, e2]
  exact HS
 ·have e1 : alu_fn i.o = 314 := by rw [e]; rfl
  have e2 : aluV i x f = (Go.bits .and .u64 x.n (secV i x.m), f) := by unfold aluV; simp [e]
  rw [e1, e2]
  exact wk_and i x f _ hV
 ·have e1 : alu_fn i.o = 315 := by rw [e]; rfl
  have e2 : aluV i x f = (Go.bits .or .u64 x.n (secV i x.m), f) := by unfold aluV; simp [e]
  rw [e1, e2]
  exact wk_orr i x f _ hV
 ·have e1 : alu_fn i.o = 316 := by rw [e]; rfl
  have e2 : aluV i x f = (Go.bits .xor .u64 x.n (secV i x.m), f) := by unfold aluV; simp [e]
  rw [e1, e2]
  exact wk_eor i x f _ hV
 ·have e1 : alu_fn i.o = 317 := by rw [e]; rfl
  have e2 : aluV i x f = (Go.bits .and .u64 x.n (secV i x.m), ofF (Go.bits .and .u64 x.n (secV i x.m))) := by unfold aluV; simp [e]
  rw [e1, e2]
  exact wk_ands i x f _ _ (wk_and i x f _ hV) (of_calls _)
 ·have e1 : alu_fn i.o = 310 := by rw [e]; rfl
  have e2 : aluV i x f = ((addV x.n (secV i x.m) false).1, f) := by unfold aluV; simp [e]
  rw [e1, e2]
  exact wk_add i x f _ _ HA
 ·have e1 : alu_fn i.o = 311 := by rw [e]; rfl
  have e2 : aluV i x f = ((subV x.n (secV i x.m)).1, f) := by unfold aluV; simp [e]
  rw [e1, e2]
  exact wk_sub i x f _ _ HS
 ·have e1 : alu_fn i.o = 312 := by rw [e]; rfl
  have e2 : aluV i x f = addV x.n (secV i x.m) false := by unfold aluV; simp [e]
  rw [e1, e2]
  exact HA
 ·have e1 : alu_fn i.o = 313 := by rw [e]; rfl
  have e2 : aluV i x f = subV x.n (secV i x.m) := by unfold aluV; simp [e]
  rw [e1, e2]
  exact HS
 ·have e1 : alu_fn i.o = 314 := by rw [e]; rfl
  have e2 : aluV i x f = (Go.bits .and .u64 x.n (secV i x.m), f) := by unfold aluV; simp [e]
  rw [e1, e2]
  exact wk_and i x f _ hV
 ·have e1 : alu_fn i.o = 315 := by rw [e]; rfl
  have e2 : aluV i x f = (Go.bits .or .u64 x.n (secV i x.m), f) := by unfold aluV; simp [e]
  rw [e1, e2]
  exact wk_orr i x f _ hV
 ·have e1 : alu_fn i.o = 316 := by rw [e]; rfl
  have e2 : aluV i x f = (Go.bits .xor .u64 x.n (secV i x.m), f) := by unfold aluV; simp [e]
  rw [e1, e2]
  exact wk_eor i x f _ hV
 ·have e1 : alu_fn i.o = 317 := by rw [e]; rfl
  have e2 : aluV i x f = (Go.bits .and .u64 x.n (secV i x.m), ofF (Go.bits .and .u64 x.n (secV i x.m))) := by unfold aluV; simp [e]
  rw [e1, e2]
  exact wk_ands i x f _ _ (wk_and i x f _ hV) (of_calls _)
 ·have e1 : alu_fn i.o = 318 := by rw [e]; rfl
  have e2 : aluV i x f = (IntKind.u64.wrap (x.a + IntKind.u64.wrap (x.n * x.m)), f) := by unfold aluV; simp [e]
  rw [e1, e2]
  exact wk_madd i x f
 ·have e1 : alu_fn i.o = 319 := by rw [e]; rfl
  have e2 : aluV i x f = (IntKind.u64.wrap (x.a - IntKind.u64.wrap (x.n * x.m)), f) := by unfold aluV; simp [e]
  rw [e1, e2]
  exact wk_msub i x f
 ·have e1 : alu_fn i.o = 320 := by rw [e]; rfl
  have e2 : aluV i x f = (if flagB i.cd f = true then x.n else x.m, f) := by unfold aluV; simp [e]
  rw [e1, e2]
  obtain ⟨q, hF⟩ := holds_calls i.cd f default
  cases hb : flagB i.cd f with
  | true => rw [hb] at hF; exact wk_csel_yes i x f q hF
  | false => rw [hb] at hF; exact wk_csel_no i x f q hF
theorem shape_alu : ∀ n : Fin 40, (1 ≤ n.val ∧ n.val ≤ 21) ∨ n.val = 39 → shapeN ((n.val : Nat) : Int) ≤ 6 ∨ shapeN ((n.val : Nat) : Int) = 16 := by decide +kernel
theorem alu_is (i : INS) (h : (1 ≤ i.o ∧ i.o ≤ 21) ∨ i.o = 39) (hI : inst_Is.f 1000 i.o i.d i.n i.m i.a i.im i.ms i.sh i.am i.cd = some true) : alu_Is.f 1000 i.o i.d i.n i.m i.a i.im i.ms i.sh i.am i.cd = some true := by
 have hs := shape_alu ⟨i.o.toNat, by omega⟩ (by simp only; omega)
 have e : ((i.o.toNat : Nat) : Int) = i.o := by omega
 simp only [e] at hs
 unfold alu_Is.f
 rw [shape_at, Option.bind_some, hI, Option.bind_some]
 generalize shapeN i.o = s at *
 rw [if_pos rfl]
 by_cases h6 : (s : Int) ≤ 6
 ·rw [if_pos h6]
 ·rw [if_neg h6]
  congr 1
  simp
  omega
theorem Low_12 (pc : Int) (h0 : 0 ≤ pc) (h1 : pc < 18446744073709551616) : bits_Low.f pc 12 = some (pc % 4096) := MM.low_nat pc 12 (by decide) h0 h1 12 (by decide)
def tV (k u : Int) : Value := if k = 1 then .iface 223 (.int .u64 u) else if k = 2 then .iface 225 (.int .u64 u) else .nilIface
section
variable {L : List MP} {c : CPU} {i : INS} {mb lo hi : Nat}
theorem br_at (hc : c.ok) (hi_ : i.okI) (h : 29 ≤ i.o ∧ i.o ≤ 36) (w0 w1 : World) (M : Nat) (hr : Run w0 w1 M mb lo hi L c i .nilIface) :
  Calls Tryz.prog 84 #[.pointer (some ⟨M, 0, none⟩)] w1 fun e w' => e = .returned (.bool true) ∧ Run w0 w' M mb lo hi L (brF c i) i .nilIface := by
 have en : ∀ c1, Calls Tryz.prog 84 #[.pointer (some ⟨M, 0, none⟩)] w1 (fun e w' => e = .returned (.bool true) ∧ Only w1 w' M ∧ Mac w' M c1 (.pointer (some ⟨mb, 0, none⟩)) i .nilIface) → brF c i = c1 → Calls Tryz.prog 84 #[.pointer (some ⟨M, 0, none⟩)] w1 fun e w' => e = .returned (.bool true) ∧ Run w0 w' M mb lo hi L (brF c i) i .nilIface := by
  intro c1 hcalls e
  rw [e]
  refine hcalls.mono ?_
  rintro e w' ⟨rfl, ho, hm⟩
  exact ⟨rfl, hr.only ho hm⟩
 have ho : i.o = 29 ∨ i.o = 30 ∨ i.o = 31 ∨ i.o = 32 ∨ i.o = 33 ∨ i.o = 34 ∨ i.o = 35 ∨ i.o = 36 := by omega
 rcases ho with e | e | e | e | e | e | e | e
 ·exact en _ (branch_29 c _ i _ M w1 hr.mac e) (by unfold brF; simp [e])
 ·exact en _ (branch_30 c _ i _ M w1 hr.mac e) (by unfold brF; simp [e])
 ·obtain ⟨q, hF⟩ := holds_calls i.cd c.f w1
  exact en _ (branch_31 c _ i _ M w1 hr.mac e (flagB i.cd c.f) q hF) (by unfold brF; simp [e])
 ·exact en _ (branch_32 c _ i _ M w1 hr.mac e hi_.d.1 hi_.d.2) (by unfold brF; simp [e])
 ·exact en _ (branch_33 c _ i _ M w1 hr.mac e hi_.d.1 hi_.d.2) (by unfold brF; simp [e])
 ·exact en _ (branch_34 c _ i _ M w1 hr.mac e hi_.n.1 hi_.n.2) (by unfold brF; simp [e])
 ·exact en _ (branch_35 c _ i _ M w1 hr.mac e hi_.n.1 hi_.n.2) (by unfold brF; simp [e])
 ·exact en _ (branch_36 c _ i _ M w1 hr.mac e hi_.n.1 hi_.n.2) (by unfold brF; simp [e])
theorem br_no (h : ¬ (29 ≤ i.o ∧ i.o ≤ 36)) (w0 w1 : World) (M : Nat) (hr : Run w0 w1 M mb lo hi L c i .nilIface) :
  Calls Tryz.prog 84 #[.pointer (some ⟨M, 0, none⟩)] w1 fun e w' => e = .returned (.bool false) ∧ Run w0 w' M mb lo hi L c i .nilIface := by
 refine (branch_no c _ i _ M w1 hr.mac (fun n h1 h2 e => h (by omega))).mono ?_
 rintro e w' ⟨rfl, ho, hm⟩
 exact ⟨rfl, hr.only ho hm⟩
theorem pl_at (hc : c.ok) (hi_ : i.okI) (hI : inst_Is.f 1000 i.o i.d i.n i.m i.a i.im i.ms i.sh i.am i.cd = some true) (hlo : 0 < lo) (h : ¬ (29 ≤ i.o ∧ i.o ≤ 36)) (w0 w1 : World) (M : Nat) (hT : TabW w0) (hr : Run w0 w1 M mb lo hi L c i .nilIface) :
  Calls Tryz.prog 85 #[.pointer (some ⟨M, 0, none⟩)] w1 fun e w' => e = .returned (.int .i64 (plF L c i).e) ∧ Run w0 w' M mb lo hi (plF L c i).L (plF L c i).c i (tV (plF L c i).k (plF L c i).u) := by
 have ho := hi_.o
 have t0 : tV 0 0 = .nilIface := rfl
 unfold plF
 by_cases h22 : i.o = 22
 ·rw [if_pos h22]; exact plain_22 c i _ w0 w1 M mb lo hi L hr hc h22 hi_.n.1 hi_.n.2 hi_.d.1 hi_.d.2
 rw [if_neg h22]
 by_cases h23 : i.o = 23
 ·rw [if_pos h23]; exact plain_23 c i _ w0 w1 M mb lo hi L hr hc h23 hi_.n.1 hi_.n.2 hi_.d.1 hi_.d.2
 rw [if_neg h23]
 by_cases h24 : i.o = 24
 ·rw [if_pos h24]; exact plain_24 c i _ w0 w1 M mb lo hi L hr hc h24 hi_.n.1 hi_.n.2 hi_.d.1 hi_.d.2
 rw [if_neg h24]
 by_cases h25 : i.o = 25
 ·rw [if_pos h25]; exact plain_25 c i _ w0 w1 M mb lo hi L hr hc h25 hi_.n.1 hi_.n.2 hi_.d.1 hi_.d.2
 rw [if_neg h25]
 by_cases h26 : i.o = 26
 ·rw [if_pos h26]; exact plain_26 c i _ w0 w1 M mb lo hi L hr hc h26 hi_.d.1 hi_.d.2
 rw [if_neg h26]
 by_cases h27 : i.o = 27
 ·rw [if_pos h27]; exact plain_27 c i _ w0 w1 M mb lo hi L hr hc h27 hi_.d.1 hi_.d.2
 rw [if_neg h27]
 by_cases h28 : i.o = 28
 ·rw [if_pos h28]; exact plain_28 c i _ w0 w1 M mb lo hi L hr hc h28 hi_.d.1 hi_.d.2 (c.pc % 4096) (Low_12 c.pc hc.pc.1 hc.pc.2)
 rw [if_neg h28]
 by_cases h37 : i.o = 37
 ·rw [if_pos h37]
  by_cases z0 : i.im = 0
  ·simp only [z0, true_or, if_true]
   exact plain_37_0 c i _ w0 w1 M mb lo hi L hr hc h37 z0
  ·by_cases z1 : i.im = 1
   ·simp only [z1, or_true, if_true, show ¬ (1 : Int) = 0 by decide, if_false]
    exact plain_37_1 c i _ w0 w1 M mb lo hi L hr hc h37 z1
   ·simp only [z0, z1, or_false, if_false]
    exact plain_37_no c i _ w0 w1 M mb lo hi L hr hc h37 z0 z1
 rw [if_neg h37]
 by_cases h38 : i.o = 38
 ·rw [if_pos h38]; exact plain_38 c i _ w0 w1 M mb lo hi L hr hc h38
 rw [if_neg h38]
 have hop : (1 ≤ i.o ∧ i.o ≤ 21) ∨ i.o = 39 := by omega
 have hw := writes_at 1000 (by decide) i.o i.d i.n i.m i.a i.im i.ms i.sh i.am i.cd true hI
 exact plain_data 1000 c i _ w0 w1 M mb lo hi L ((shapeN i.o : Nat) : Int) _ (wrV true i.o i.d).1 (wrV true i.o i.d).2 _ hr (hr.tab hT hlo)
  (fun n hn => by simp at hn; omega) hi_.d.1 hi_.d.2 hi_.n.1 hi_.n.2 hi_.m.1 hi_.m.2 hi_.a.1 hi_.a.2 (shape_at i.o) (alu_is i hop hI) (alu_op hop) (alu_ret i _ _ hi_ (hc.reg _ _) (hc.reg _ _) hop) hw
theorem pl_k (L : List MP) (c : CPU) (i : INS) : ((plF L c i).k = 0 ∧ (plF L c i).u = 0) ∨ (plF L c i).k = 1 ∨ (plF L c i).k = 2 := by
 unfold plF
 repeat' split
 all_goals first
  | exact .inl ⟨rfl, rfl⟩
  | exact .inr (.inl rfl)
  | exact .inr (.inr rfl)
  | (exfalso; omega)
end
theorem step_at (L : List MP) (c : CPU) (w : World) (mb lo hi : Nat) (hm : MemOk w mb lo hi L) (hc : c.ok) (hTab : TabW w) (htop : hi ≤ w.heap.size) (hlo : 0 < lo) :
  Calls Tryz.prog 27 #[.agg c.a, .pointer (some ⟨mb, 0, none⟩)] w fun e w' => e = .returned (.tuple #[.agg (stepF L c).c.a, .agg (evA (stepF L c).k (stepF L c).u), .int .i64 (stepF L c).e]) ∧ StoredIn w w' lo hi ∧ MemOk w' mb lo hi (stepF L c).L := by
 unfold stepF
 by_cases he : (mword L c.pc).2 = 0
 ·rw [if_pos he]
  have hwd := word_in hm.good c.pc
  have hw : mword L c.pc = ((mword L c.pc).1, 0) := by rw [← he]
  obtain ⟨hd, hok⟩ := decF_ok (mword L c.pc).1 hwd.1 hwd.2
  by_cases h0 : (decF (mword L c.pc).1).2 = 0
  ·rw [if_pos h0]
   obtain ⟨hi_, hI⟩ := hok h0
   rw [h0] at hd
   generalize (decF (mword L c.pc).1).1 = i at *
   unfold doF
   by_cases hb : 29 ≤ i.o ∧ i.o ≤ 36
   ·rw [if_pos hb]
    exact step_go 1000 c (brF c i) w mb lo hi L hm hc hTab htop _ i hw hd (br_at hc hi_ hb)
   ·rw [if_neg hb]
    have hp := fun w0 w1 M hT hr => pl_at (L := L) (mb := mb) (hi := hi) hc hi_ hI hlo hb w0 w1 M hT hr
    have hn := fun w0 w1 M hr => br_no (L := L) (c := c) (mb := mb) (lo := lo) (hi := hi) hb w0 w1 M hr
    have hk := pl_k L c i
    generalize plF L c i = p at *
    obtain ⟨c1, k, u, e, L1⟩ := p
    simp only at hk hp ⊢
    by_cases h1 : e = 0
    ·subst h1
     rw [if_pos rfl]
     rcases hk with ⟨rfl, rfl⟩ | rfl | rfl
     ·exact step_nil 1000 c c1 w mb lo hi L L1 hm hc hTab htop _ i hw hd hn hp
     ·exact step_said 1000 c c1 w mb lo hi L L1 u hm hc hTab htop _ i hw hd hn hp
     ·exact step_halted 1000 c c1 w mb lo hi L L1 u hm hc hTab htop _ i hw hd hn hp
    ·rw [if_neg h1]
     exact step_err 1000 c c1 w mb lo hi L L1 _ e h1 hm hc hTab htop _ i hw hd hn hp
  ·rw [if_neg h0]
   refine (step_dec 1000 c w mb lo hi L hm hc hTab (mword L c.pc).1 (decF (mword L c.pc).1).2 (decF (mword L c.pc).1).1 hw hd h0).mono ?_
   rintro e w' ⟨rfl, hb⟩
   exact ⟨rfl, StoredIn.of_below _ _ hb, hm.below hb⟩
 ·rw [if_neg he]
  refine (step_word c w mb lo hi L hm hc he).mono ?_
  rintro e w' ⟨rfl, hb⟩
  exact ⟨rfl, StoredIn.of_below _ _ hb, hm.below hb⟩
end Go.Proofs.YtblnfngigdipcaaGreatDoor.ST
namespace Go.Proofs.YtblnfngigdipcaaGreatDoor.ST
open Go.RowKit Go.Proofs.YtblnfngigdipcaaGreatDoor.P Go.Proofs.YtblnfngigdipcaaGreatDoorW.PrintWords Go.Proofs.YtblnfngigdipcaaGreatDoorW.PrintLast Go.Proofs.YtblnfngigdipcaaGreatDoorW.PrintMore Go.Proofs.YtblnfngigdipcaaGreatDoor.MW
theorem of_at (k u : Int) (w : World) : Calls Tryz.prog 75 #[.agg (evA k u)] w fun e w' => e = .returned (tV k u) ∧ Below w.heap.size w w' := by
 unfold tV
 by_cases h1 : k = 1
 ·subst h1
  rw [if_pos rfl]
  unfold evA
  go_enter Tryz.func75, Tryz.ntmps75
  go_wp2
  go_ret
  exact ⟨rfl, below_alloc (Below.refl _ _) _⟩
 ·rw [if_neg h1]
  have d1 : (k == 1) = false := by simpa using h1
  by_cases h2 : k = 2
  ·subst h2
   rw [if_pos rfl]
   clear h1
   unfold evA
   go_enter Tryz.func75, Tryz.ntmps75
   go_wp2
   go_ret
   exact ⟨rfl, below_alloc (Below.refl _ _) _⟩
  ·rw [if_neg h2]
   have d2 : (k == 2) = false := by simpa using h2
   clear h1 h2
   unfold evA
   go_enter Tryz.func75, Tryz.ntmps75
   go_wp2
   go_ret
   exact ⟨rfl, below_alloc (Below.refl _ _) _⟩
def trA (v : Value) (t : TR) : Array Value := #[v, .bool t.halted, .int .u64 t.code, .int .i64 t.steps, .int .i64 t.e]
structure TrBox (w : World) (base T : Nat) (v : Value) (t : TR) : Prop where
 box : w.heap[T]? = some (.cells (trA v t) 42 (0, 0))
 row : w.ownsRow base 22 1 v t.told.length (nums .u64 t.told)
 low : base ≤ T
structure TKeep (w w' : World) (base T : Nat) : Prop where
 block : ∀ (k : Nat) (o : Obj), w.heap[k]? = some o → (k < base ∨ (k ≠ T ∧ ¬ ∃ cs, o = .cells cs 22 (0, 0))) → w'.heap[k]? = some o
 size : w.heap.size ≤ w'.heap.size
 below : ∀ (B : Nat) (U : World), Below B U w → B ≤ base → B ≤ w.heap.size → Below B U w'
theorem TKeep.of_below {w w' : World} (base T : Nat) (h : Below w.heap.size w w') : TKeep w w' base T :=
 ⟨fun k o hk _ => (h.block k (blk_lt hk)).trans hk, h.size, fun B U hu _ hs => hu.trans (h.mono hs)⟩
theorem TKeep.trans {w w1 w2 : World} {base T : Nat} (h : TKeep w w1 base T) (g : TKeep w1 w2 base T) : TKeep w w2 base T :=
 ⟨fun k o hk hor => g.block k o (h.block k o hk hor) hor, Nat.le_trans h.size g.size, fun B U hu hl hs => g.below B U (h.below B U hu hl hs) hl (Nat.le_trans hs h.size)⟩
theorem TKeep.set (w : World) {base T : Nat} (hb : base ≤ T) (j : Nat) (v : Value) : TKeep w (w.setCell ⟨T, j, none⟩ v) base T :=
 ⟨fun k o hk hor => (Below.heap_setCell w ⟨T, j, none⟩ v k (by show k ≠ T; rcases hor with h | h; omega; exact h.1)).trans hk, by simp, fun B U hu hl _ => hu.setCell (Nat.le_trans hl hb) v⟩
theorem TrBox.ne {w : World} {base T : Nat} {v : Value} {t : TR} (h : TrBox w base T v t) : ∀ k, v.ownBlock = some k → k ≠ T := by
 rintro k hk rfl
 rcases h.row.2 with ⟨rfl, _⟩ | ⟨g, cap, cur, rfl, _, hh, _⟩
 ·cases hk
 ·have e : g = k := by injection hk
  subst e
  rw [h.box] at hh
  injection hh with hh
  injection hh with _ hh _
  exact absurd hh (by decide)
theorem TrBox.below {w w' : World} {base T : Nat} {v : Value} {t : TR} (h : TrBox w base T v t) (hb : Below w.heap.size w w') : TrBox w' base T v t :=
 ⟨blk_below h.box hb, own_move h.row (fun k hk => hb.block k (own_lt h.row k hk)), h.low⟩
theorem TrBox.set {w : World} {base T : Nat} {v : Value} {t t' : TR} (h : TrBox w base T v t) (j : Nat) (x : Value) (ht : (trA v t).setIfInBounds j x = trA v t') (hl : t'.told = t.told) : TrBox (w.setCell ⟨T, j, none⟩ x) base T v t' :=
 ⟨blk_put h.box j x ht, by rw [hl]; exact ownsRow_setCell_other h.row (fun e => h.ne T e rfl) x, h.low⟩
theorem info_u64 : (Tryz.prog.info? 22).map (fun i => (i.zero, i.size, i.bytes)) = some (some (.int .u64 0), 1, 8) := by kernel_rfl
def TR.say (t : TR) (u : Int) : TR := { t with told := t.told ++ [u] }
def TR.halt (t : TR) (u : Int) : TR := { t with halted := true, code := u }
theorem said_grown {w w1 : World} {base T : Nat} {v v1 : Value} {t : TR} {u : Int} (h : TrBox w base T v t) (hown : w1.ownsRow base 22 1 v1 (t.told ++ [u]).length (nums .u64 (t.told ++ [u]))) (hg : w.grownBy w1 v.ownBlock) :
  w1.heap[T]? = some (.cells (trA v t) 42 (0, 0)) ∧ TKeep w (w1.setCell ⟨T, 0, none⟩ v1) base T ∧ TrBox (w1.setCell ⟨T, 0, none⟩ v1) base T v1 (t.say u) := by
 have hT : w1.heap[T]? = some (.cells (trA v t) 42 (0, 0)) := (hg.block T (blk_lt h.box) (fun e => h.ne T e.symm rfl)).trans h.box
 have hk1 : TKeep w w1 base T := ⟨fun k o hk hor => by
   refine (hg.block k (blk_lt hk) (fun e => ?_)).trans hk
   rcases h.row.2 with ⟨e1, _⟩ | ⟨g, cap, cur, e1, hbg, hh, _⟩
   ·rw [e1] at e; cases e
   ·rw [e1] at e
    have : k = g := by injection e
    subst this
    rcases hor with hor | hor
    ·omega
    ·rw [hh] at hk; exact hor.2 ⟨_, (Option.some.inj hk).symm⟩, hg.size, fun B U hu hl hs => hu.grown hg hs (fun k hk => Nat.le_trans hl (own_base h.row k hk))⟩
 refine ⟨hT, hk1.trans (TKeep.set w1 h.low 0 v1), ⟨blk_put hT 0 v1 rfl, ?_, h.low⟩⟩
 refine ownsRow_setCell_other hown (fun e => ?_) v1
 obtain ⟨cells, hc⟩ := own_typed hown T e
 rw [hT] at hc
 injection hc with hc
 injection hc with _ hc _
 exact absurd hc (by decide)
theorem ta_nil1 (W : World) : Sem.run Tryz.prog (Instr.typeAssert .nilIface 123 223 true) W = .ok (.tuple #[.int .u64 0, .bool false]) W := by kernel_rfl
theorem ta_nil2 (W : World) : Sem.run Tryz.prog (Instr.typeAssert .nilIface 123 225 true) W = .ok (.tuple #[.int .u64 0, .bool false]) W := by kernel_rfl
theorem ta_said1 (W : World) (v : Value) : Sem.run Tryz.prog (Instr.typeAssert (.iface 223 v) 123 223 true) W = .ok (.tuple #[v, .bool true]) W := by kernel_rfl
theorem ta_said2 (W : World) (v : Value) : Sem.run Tryz.prog (Instr.typeAssert (.iface 223 v) 123 225 true) W = .ok (.tuple #[.int .u64 0, .bool false]) W := by kernel_rfl
theorem ta_halt1 (W : World) (v : Value) : Sem.run Tryz.prog (Instr.typeAssert (.iface 225 v) 123 223 true) W = .ok (.tuple #[.int .u64 0, .bool false]) W := by kernel_rfl
theorem ta_halt2 (W : World) (v : Value) : Sem.run Tryz.prog (Instr.typeAssert (.iface 225 v) 123 225 true) W = .ok (.tuple #[v, .bool true]) W := by kernel_rfl
theorem tell_nil (T : Nat) (w : World) : Calls Tryz.prog 74 #[.pointer (some ⟨T, 0, none⟩), .nilIface] w fun e w' => e = .returned (.tuple #[]) ∧ w' = w := by
 have h1 := ta_nil1
 have h2 := ta_nil2
 go_enter Tryz.func74, Tryz.ntmps74
 go_wp2
 go_end0
 exact ⟨rfl, rfl⟩
theorem tell_halt (base T : Nat) (v : Value) (t : TR) (u : Int) (w : World) (h : TrBox w base T v t) : Calls Tryz.prog 74 #[.pointer (some ⟨T, 0, none⟩), .iface 225 (.int .u64 u)] w fun e w' => e = .returned (.tuple #[]) ∧ TKeep w w' base T ∧ TrBox w' base T v (t.halt u) := by
 have h1 := fun W => ta_halt1 W (.int .u64 u)
 have h2 := fun W => ta_halt2 W (.int .u64 u)
 have c1 : w.cell? ⟨T, 1, none⟩ = some (.bool t.halted) := (blk_cell h.box 1).trans rfl
 have c2 : w.cell? ⟨T, 2, none⟩ = some (.int .u64 t.code) := (blk_cell h.box 2).trans rfl
 have f1 := blk_frozen h.box 1
 have f2 := blk_frozen h.box 2
 have H := aq h
 clear h
 go_enter Tryz.func74, Tryz.ntmps74
 go_wp2
 go_end0
 have b1 : TrBox (w.setCell ⟨T, 1, none⟩ (.bool true)) base T v { t with halted := true } := H.out.set 1 (.bool true) rfl rfl
 refine ⟨rfl, (TKeep.set w H.out.low 1 (.bool true)).trans (TKeep.set _ b1.low 2 (.int .u64 u)), b1.set 2 (.int .u64 u) rfl rfl⟩
theorem tell_said (base T : Nat) (v : Value) (t : TR) (u : Int) (w : World) (h : TrBox w base T v t) (hl : t.told.length ≤ 1000000) : Calls Tryz.prog 74 #[.pointer (some ⟨T, 0, none⟩), .iface 223 (.int .u64 u)] w fun e w' => e = .returned (.tuple #[]) ∧ TKeep w w' base T ∧ ∃ v', TrBox w' base T v' (t.say u) := by
 have h1 := fun W => ta_said1 W (.int .u64 u)
 have h2 := fun W => ta_said2 W (.int .u64 u)
 obtain ⟨A, c, rfl⟩ := Go.Proofs.YtblnfngigdipcaaGreatDoorW.PrintWords.own_slice h.row
 have c0 : w.cell? ⟨T, 0, none⟩ = some (.slice A t.told.length c) := (blk_cell h.box 0).trans rfl
 have H := aq h
 have HL := aq hl
 clear h hl
 go_enter Tryz.func74, Tryz.ntmps74
 go_wp2_with (first | ((with_reducible refine gate_builtin (b := .append) (xs := #[.tmp 18, .tmp 20]) rfl ?_); at_builtin; refine print_append_num (w0 := w) base rfl (.tmp 18) (.tmp 20) 40 22 .u64 8 rfl Tryz.underlying40 info_u64 (by omega) (.slice A t.told.length c) t.told u rfl rfl H.out.row (Below.refl _ _) (Nat.le_of_lt (Nat.lt_of_le_of_lt H.out.low (blk_lt H.out.box))) (by have := HL.out; omega) ?_; intro v1 w1 hown hB hg hat; obtain ⟨A1, c1, rfl⟩ := Go.Proofs.YtblnfngigdipcaaGreatDoorW.PrintWords.own_slice hown; have hX := said_grown H.out hown hg; rw [show (t.told ++ [u]).length = t.told.length + 1 from List.length_append] at hX; have HX := aq hX; clear hX; have c0 := (blk_cell HX.out.1 0); have f0 := (blk_frozen HX.out.1 0); clear hown hB hg hat))
 go_end0
 exact ⟨rfl, HX.out.2.1, _, HX.out.2.2⟩
def TR.tell (t : TR) (k u : Int) : TR := ⟨if k = 1 then t.told ++ [u] else t.told, if k = 2 then true else t.halted, if k = 2 then u else t.code, t.steps, t.e⟩
theorem tell_at (base T : Nat) (v : Value) (t : TR) (k u : Int) (w : World) (h : TrBox w base T v t) (hl : t.told.length ≤ 1000000) : Calls Tryz.prog 74 #[.pointer (some ⟨T, 0, none⟩), tV k u] w fun e w' => e = .returned (.tuple #[]) ∧ TKeep w w' base T ∧ ∃ v', TrBox w' base T v' (t.tell k u) := by
 unfold tV TR.tell
 by_cases h1 : k = 1
 ·subst h1
  exact tell_said base T v t u w h hl
 ·rw [if_neg h1, if_neg h1]
  by_cases h2 : k = 2
  ·subst h2
   refine (tell_halt base T v t u w h).mono ?_
   rintro e w' ⟨rfl, g1, g2⟩
   exact ⟨rfl, g1, v, g2⟩
  ·rw [if_neg h2, if_neg h2, if_neg h2]
   refine (tell_nil T w).mono ?_
   rintro e w' ⟨rfl, rfl⟩
   exact ⟨rfl, TKeep.of_below base T (Below.refl _ _), v, h⟩
theorem MemOk.tkeep {w w' : World} {M lo hi base T : Nat} {L : List MP} (h : MemOk w M lo hi L) (hT : ∃ cs, w.heap[T]? = some (.cells cs 42 (0, 0))) (hk : TKeep w w' base T) : MemOk w' M lo hi L := by
 obtain ⟨R, P, cc, Q, hm, h2, h3, h4, h5⟩ := h
 obtain ⟨A, hT⟩ := hT
 have kp : ∀ (k : Nat) (cs : Array Value) (t : TypeId), t ≠ 42 → t ≠ 22 → w.heap[k]? = some (.cells cs t (0, 0)) → w'.heap[k]? = some (.cells cs t (0, 0)) := by
  intro k cs t h1 h2 hq
  refine hk.block k _ hq (.inr ⟨?_, ?_⟩)
  ·rintro rfl
   rw [hT] at hq
   injection hq with hq
   injection hq with _ hq _
   exact h1 hq.symm
  ·rintro ⟨cs', e⟩
   injection e with _ e _
   exact h2 e
 refine ⟨R, P, cc, Q, ⟨kp M _ _ (by decide) (by decide) hm.head, hm.addr, ?_, ?_, ?_, hm.apart⟩, h2, h3, h4, h5⟩
 ·intro hq
  obtain ⟨cur, hcur⟩ := hm.row hq
  exact ⟨cur, kp P _ _ (by decide) (by decide) hcur⟩
 ·intro j q hq k v hv
  have hQ : Q ≠ [] := by intro e; rw [e] at hq; cases hq
  obtain ⟨cur, hcur⟩ := hm.row hQ
  exact (World.cell?_of_block (w := w) ((kp P _ _ (by decide) (by decide) hcur).trans hcur.symm)).trans (hm.cells j q hq k v hv)
 ·intro q hq
  exact kp q.2 _ _ (by decide) (by decide) (hm.data q hq)
theorem step_okW {w : World} {mb lo hi : Nat} {L : List MP} (hm : MemOk w mb lo hi L) {c : CPU} (hc : c.ok) : (stepF L c).c.ok := step_ok hm.good hc
theorem StoredIn.tkeep {w w1 w2 : World} {lo hi base T : Nat} (h : StoredIn w w1 lo hi) (hk : TKeep w1 w2 base T) (hb : w.heap.size ≤ base) : StoredIn w w2 lo hi :=
 ⟨fun k o hk1 hor => hk.block k o (h.block k o hk1 hor) (.inl (Nat.lt_of_lt_of_le (blk_lt hk1) hb)), Nat.le_trans h.size hk.size, fun B U hu hl hs => hk.below B U (h.below B U hu hl hs) (Nat.le_trans hs hb) (Nat.le_trans hs h.size)⟩
theorem TrBox.stored {w w' : World} {base T lo hi : Nat} {v : Value} {t : TR} (h : TrBox w base T v t) (hs : StoredIn w w' lo hi) (hb : hi ≤ base) : TrBox w' base T v t :=
 ⟨hs.block T _ h.box (.inl (by have := h.low; omega)), own_move h.row (fun k hk => by
  have h1 := own_base h.row k hk
  have h2 := own_lt h.row k hk
  obtain ⟨o, ho⟩ : ∃ o, w.heap[k]? = some o := ⟨_, Array.getElem?_eq_getElem h2⟩
  rw [ho]; exact hs.block k o ho (.inl (by omega))), h.low⟩
theorem TrBox.far {w : World} {base T b : Nat} {v : Value} {t : TR} (h : TrBox w base T v t) {A : Array Value} {ty : TypeId} (hb : w.heap[b]? = some (.cells A ty (0, 0))) (h1 : ty ≠ 42) (h2 : ty ≠ 22) (o : Nat) (vs : List Value) : TrBox (w.setCells b o vs) base T v t := by
 have n1 : T ≠ b := by
  rintro rfl
  rw [h.box] at hb
  injection hb with hb
  injection hb with _ hb _
  exact h1 hb.symm
 refine ⟨blk_sets_far vs o n1 h.box, own_move h.row (fun k hk => ?_), h.low⟩
 have n2 : k ≠ b := by
  rintro rfl
  obtain ⟨cells, hc⟩ := own_typed h.row k hk
  rw [hc] at hb
  injection hb with hb
  injection hb with _ hb _
  exact h2 hb.symm
 obtain ⟨o', ho⟩ : ∃ o, w.heap[k]? = some o := ⟨_, Array.getElem?_eq_getElem (own_lt h.row k hk)⟩
 rw [ho]
 exact blk_sets_far vs o n2 ho
structure RunInv (w wr : World) (mb lo hi n kq : Nat) (L0 : List MP) (c0 : CPU) (L1 : List MP) (c1 : CPU) (v1 : Value) (t1 : TR) : Prop where
 b0 : wr.heap[w.heap.size]? = some (.cells c1.a 27 (0, 0))
 b1 : wr.heap[w.heap.size + 1]? = some (.cells CPU.zero.a 27 (0, 0))
 b2 : wr.heap[w.heap.size + 1 + 1]? = some (.cells (trA (.slice none 0 0) .zero) 42 (0, 0))
 tr : TrBox wr w.heap.size (w.heap.size + 1 + 1 + 1) v1 t1
 mem : MemOk wr mb lo hi L1
 st : StoredIn w wr lo hi
 ok : c1.ok
 run : runF n L0 c0 .zero = runF kq L1 c1 t1
 steps : t1.steps + kq = n
 err : t1.e = 0
 told : (t1.told.length : Int) ≤ t1.steps
theorem info_tr : (Tryz.prog.info? 42).map (·.size) = some 5 := by kernel_rfl
theorem under_tr : Tryz.prog.underlying 42 = some (.struct (match Tryz.prog.underlying 42 with | some (.struct fs) => fs | _ => #[])) := by kernel_rfl
theorem TKeep.sets {base T : Nat} (hb : base ≤ T) : ∀ (vs : List Value) (o : Nat) (w : World), TKeep w (w.setCells T o vs) base T
 | [], _, w => TKeep.of_below base T (Below.refl _ _)
 | v :: vs, o, w => (TKeep.set w hb o v).trans (TKeep.sets hb vs (o + 1) _)
theorem tr_one {w : World} {base T : Nat} {v : Value} {t : TR} (h : TrBox w base T v t) : (trA v t).all (·.oneCell') = true := by
 obtain ⟨A, c, rfl⟩ := Go.Proofs.YtblnfngigdipcaaGreatDoorW.PrintWords.own_slice h.row
 simp [trA, Value.oneCell']
theorem tr_sets (v v' : Value) (t t' : TR) : sets (trA v t) 0 (trA v' t').toList = trA v' t' := by simp [sets, trA]
structure RunEnd (w wr : World) (mb lo hi n : Nat) (L0 : List MP) (c0 : CPU) (L1 : List MP) (c1 : CPU) (v1 : Value) (t1 : TR) : Prop where
 b0 : wr.heap[w.heap.size]? = some (.cells c1.a 27 (0, 0))
 b1 : wr.heap[w.heap.size + 1]? = some (.cells CPU.zero.a 27 (0, 0))
 b2 : wr.heap[w.heap.size + 1 + 1]? = some (.cells (trA (.slice none 0 0) .zero) 42 (0, 0))
 tr : TrBox wr w.heap.size (w.heap.size + 1 + 1 + 1) v1 t1
 mem : MemOk wr mb lo hi L1
 st : StoredIn w wr lo hi
 run : runF n L0 c0 .zero = (c1, t1, L1)
 ok : c1.ok
theorem run_fin {w wr : World} {mb lo hi n : Nat} {L0 L1 : List MP} {c0 c1 : CPU} {v1 : Value} {t1 : TR} (h : RunEnd w wr mb lo hi n L0 c0 L1 c1 v1 t1) :
  ((wr.drew.setCells (w.heap.size + 1) 0 c1.l).heap[w.heap.size]? = some (.cells c1.a 27 (0, 0)) ∧ (wr.drew.setCells (w.heap.size + 1) 0 c1.l).heap[w.heap.size + 1 + 1 + 1]? = some (.cells (trA v1 t1) 42 (0, 0))) ∧
  (wr.drew.setCells (w.heap.size + 1) 0 c1.l).heap[w.heap.size + 1 + 1]? = some (.cells (trA (.slice none 0 0) .zero) 42 (0, 0)) ∧
  ((wr.drew.setCells (w.heap.size + 1) 0 c1.l).setCells (w.heap.size + 1 + 1) 0 (trA v1 t1).toList).heap[w.heap.size + 1]? = some (.cells c1.a 27 (0, 0)) ∧
  ((wr.drew.setCells (w.heap.size + 1) 0 c1.l).setCells (w.heap.size + 1 + 1) 0 (trA v1 t1).toList).heap[w.heap.size + 1 + 1]? = some (.cells (trA v1 t1) 42 (0, 0)) ∧
  ((wr.drew.setCells (w.heap.size + 1) 0 c1.l).setCells (w.heap.size + 1 + 1) 0 (trA v1 t1).toList).ownsRow w.heap.size 22 1 v1 t1.told.length (nums .u64 t1.told) ∧
  StoredIn w ((wr.drew.setCells (w.heap.size + 1) 0 c1.l).setCells (w.heap.size + 1 + 1) 0 (trA v1 t1).toList) lo hi ∧
  MemOk ((wr.drew.setCells (w.heap.size + 1) 0 c1.l).setCells (w.heap.size + 1 + 1) 0 (trA v1 t1).toList) mb lo hi L1 := by
 have hb : Below wr.heap.size wr wr.drew := below_drew1 (Below.refl _ _)
 have k0 : wr.drew.heap[w.heap.size]? = some (.cells c1.a 27 (0, 0)) := blk_below h.b0 hb
 have k1 : wr.drew.heap[w.heap.size + 1]? = some (.cells CPU.zero.a 27 (0, 0)) := blk_below h.b1 hb
 have k2 : wr.drew.heap[w.heap.size + 1 + 1]? = some (.cells (trA (.slice none 0 0) .zero) 42 (0, 0)) := blk_below h.b2 hb
 have kt := h.tr.below hb
 have km := h.mem.below hb
 have ks := h.st.trans (StoredIn.of_below lo hi hb)
 have n2 := blk_sets_far (b := w.heap.size + 1) c1.l 0 (show w.heap.size + 1 + 1 ≠ w.heap.size + 1 by omega) k2
 have n1 := blk_sets c1.l 0 k1
 rw [CPU.sets_] at n1
 have nt := kt.far k1 (by decide) (by decide) 0 c1.l
 have nm := MemOk.onlyC km k1 (Only.sets wr.drew (w.heap.size + 1) 0 c1.l)
 have ns := StoredIn.sets ks (show w.heap.size ≤ w.heap.size + 1 by omega) 0 c1.l
 have t2 := TKeep.sets (base := w.heap.size) (show w.heap.size ≤ w.heap.size + 1 + 1 by omega) (trA v1 t1).toList 0 (wr.drew.setCells (w.heap.size + 1) 0 c1.l)
 have q2 := blk_sets (trA v1 t1).toList 0 n2
 rw [tr_sets] at q2
 refine ⟨⟨blk_sets_far c1.l 0 (by omega) k0, nt.box⟩, n2, blk_sets_far _ 0 (by omega) n1, q2, ?_, StoredIn.tkeep ns t2 (Nat.le_refl _), MemOk.tkeep nm ⟨_, n2⟩ t2⟩
 refine own_move nt.row (fun k hk => ?_)
 have hne : k ≠ w.heap.size + 1 + 1 := by
  rintro rfl
  obtain ⟨cells, hc⟩ := own_typed nt.row _ hk
  rw [n2] at hc
  injection hc with hc
  injection hc with _ hc _
  exact absurd hc (by decide)
 obtain ⟨o', ho⟩ : ∃ o, (wr.drew.setCells (w.heap.size + 1) 0 c1.l).heap[k]? = some o := ⟨_, Array.getElem?_eq_getElem (own_lt nt.row k hk)⟩
 rw [ho]
 exact blk_sets_far _ 0 hne ho
section
variable {P : Program} {md : Region.Mode} {ops : Array Oper} {ds : List Nat} {S : World → Prop} {Q : Exit → Act → World → Prop}
theorem st_ {i : Nat} {t : TypeId} {p x : Operand} {fuel : Nat} {l : Array Bool} {a : Act} {w : World} {w1 : World} (hc : readyB md ops l (l.setIfInBounds i true) i = true) (hop : (ops[i]?).map (fun o => (o.dst, o.op, o.guard)) = some (none, .store t p x, none)) (hd : i ∉ ds)
  (hrun : Sem.run P (Instr.storeAt t (a.eval p) (a.eval x)) w = .ok () w1) (hS : S w1) (h : S w1 → wpAnyLast P md ops Q S ds fuel (l.setIfInBounds i true) a w1) : wpAnyLast P md ops Q S ds (fuel + 1) l a w := by
 cases hi : ops[i]? with
 | none => rw [hi] at hop; cases hop
 | some oi =>
  rw [hi] at hop
  simp only [Option.map_some, Option.some.injEq, Prod.mk.injEq] at hop
  obtain ⟨h1, h2, h3⟩ := hop
  refine one_ _ hi h1 hc hd fun K hK => ?_
  rw [if_pos (by unfold Region.wanted; rw [h3])]
  unfold Oper.wp
  rw [exec_store h2 hrun]
  show K (a.put oi.dst undef) w1
  rw [h1]
  exact hK.out _ _ hS h
end
def runR.T : Bool × List (List Nat × List Nat) := (true, [([], []), ([], []), ([0, 0], [0]), ([1, 2, 0, 1, 2], [1])])
def runR.B : List Nat := [0, 0, 1, 7]
theorem runR.tab : rtab .any (opsOf Tryz.f23 12) = runR.T := by kernel_rfl
theorem runR.bits : waitsOk runR.T.2 runR.B = true := by kernel_rfl
theorem run_none (L : List MP) (c : CPU) (t : TR) : runF 0 L c t = (c, t, L) := rfl
theorem run_halted (n : Nat) (L : List MP) (c : CPU) (t : TR) (h : t.halted = true) : runF n L c t = (c, t, L) := by
 cases n with
 | zero => rfl
 | succ n => unfold runF; rw [if_pos h]
theorem new_last (w : World) (o1 o2 : Obj) : ((w.alloc o1).alloc o2).heap[w.heap.size + 1]? = some o2 := by
 have e : w.heap.size + 1 = (w.alloc o1).heap.size := by show _ = (w.heap.push o1).size; rw [Array.size_push]
 rw [e]
 exact blk_new _ o2
structure RunMid (w wr : World) (mb lo hi N : Nat) (Lp : List MP) (c1 cp : CPU) (pk pu : Int) (v1 : Value) (t1 : TR) : Prop where
 b0 : wr.heap[w.heap.size]? = some (.cells c1.a 27 (0, 0))
 b1 : wr.heap[w.heap.size + 1]? = some (.cells CPU.zero.a 27 (0, 0))
 b2 : wr.heap[w.heap.size + 1 + 1]? = some (.cells (trA (.slice none 0 0) .zero) 42 (0, 0))
 tr : TrBox wr w.heap.size (w.heap.size + 1 + 1 + 1) v1 t1
 mem : MemOk wr mb lo hi Lp
 st : StoredIn w wr lo hi
 n0 : wr.heap[N]? = some (.cells cp.a 27 (0, 0))
 n1 : wr.heap[N + 1]? = some (.cells (evA pk pu) 55 (0, 0))
 big : w.heap.size + 1 + 1 + 1 < N
theorem run_mid {w wr w1 : World} {mb lo hi n k : Nat} {L0 L1 Lp : List MP} {c0 c1 : CPU} {v1 : Value} {t1 : TR} (h : RunInv w wr mb lo hi n k L0 c0 L1 c1 v1 t1) (ht : hi ≤ w.heap.size) (hs : StoredIn wr w1 lo hi) (hm : MemOk w1 mb lo hi Lp) (cp : CPU) (pk pu : Int) :
  RunMid w ((((w1.alloc (.cells CPU.zero.a 27)).alloc (.cells (evA 0 0) 55)).setCells w1.heap.size 0 cp.l).setCells (w1.heap.size + 1) 0 (evA pk pu).toList) mb lo hi w1.heap.size Lp c1 cp pk pu v1 t1 := by
 have hbig : w.heap.size + 1 + 1 + 1 < w1.heap.size := Nat.lt_of_lt_of_le (blk_lt h.tr.box) hs.size
 have kb := fun (o : Nat) (q : Obj) (hq : wr.heap[o]? = some q) (hh : hi ≤ o) => hs.block o q hq (.inl (by omega))
 have x0 := kb _ _ h.b0 (by omega)
 have x1 := kb _ _ h.b1 (by omega)
 have x2 := kb _ _ h.b2 (by omega)
 have xt := h.tr.stored hs ht
 have xs := h.st.trans hs
 have g1 : Below w1.heap.size w1 ((w1.alloc (.cells CPU.zero.a 27)).alloc (.cells (evA 0 0) 55)) := below_alloc (below_alloc (Below.refl _ _) _) _
 have y4 : ((w1.alloc (.cells CPU.zero.a 27)).alloc (.cells (evA 0 0) 55)).heap[w1.heap.size]? = some (.cells CPU.zero.a 27 (0, 0)) := blk_alloc (blk_new w1 _) _
 have y5 := new_last w1 (.cells CPU.zero.a 27) (.cells (evA 0 0) 55)
 obtain ⟨z4, z5⟩ := two_sets y4 y5 (Nat.succ_ne_self _).symm cp pk pu
 have gg : Below w1.heap.size w1 ((((w1.alloc (.cells CPU.zero.a 27)).alloc (.cells (evA 0 0) 55)).setCells w1.heap.size 0 cp.l).setCells (w1.heap.size + 1) 0 (evA pk pu).toList) := below_sets (Nat.le_succ _) _ 0 (below_sets (Nat.le_refl _) _ 0 g1)
 exact ⟨blk_below x0 gg, blk_below x1 gg, blk_below x2 gg, xt.below gg, hm.below gg, xs.trans (StoredIn.of_below lo hi gg), z4, z5, hbig⟩
theorem RunMid.put {w wr : World} {mb lo hi N : Nat} {Lp : List MP} {c1 cp : CPU} {pk pu : Int} {v1 : Value} {t1 : TR} (h : RunMid w wr mb lo hi N Lp c1 cp pk pu v1 t1) :
  RunMid w (wr.setCells w.heap.size 0 cp.l) mb lo hi N Lp cp cp pk pu v1 t1 := by
 have g0 := blk_sets cp.l 0 h.b0
 rw [CPU.sets_] at g0
 have hN := h.big
 exact ⟨g0, blk_sets_far _ 0 (by omega) h.b1, blk_sets_far _ 0 (by omega) h.b2, h.tr.far h.b0 (by decide) (by decide) 0 cp.l, MemOk.onlyC h.mem h.b0 (Only.sets wr w.heap.size 0 cp.l), StoredIn.sets h.st (Nat.le_refl _) 0 cp.l, blk_sets_far _ 0 (by omega) h.n0, blk_sets_far _ 0 (by omega) h.n1, hN⟩
theorem RunMid.bad {w wr : World} {mb lo hi N n : Nat} {L0 Lp : List MP} {c0 c1 cp : CPU} {pk pu pe : Int} {v1 : Value} {t1 : TR} (h : RunMid w wr mb lo hi N Lp c1 cp pk pu v1 t1) (hr : runF n L0 c0 .zero = (c1, { t1 with e := pe }, Lp)) (hok : c1.ok) :
  RunEnd w (wr.setCell ⟨w.heap.size + 1 + 1 + 1, 4, none⟩ (.int .i64 pe)) mb lo hi n L0 c0 Lp c1 v1 { t1 with e := pe } := by
 have hk := TKeep.set wr h.tr.low 4 (.int .i64 pe)
 have kb := fun (o : Nat) (cs : Array Value) (t : TypeId) (h1 : o ≠ w.heap.size + 1 + 1 + 1) (h2 : t ≠ 22) (hq : wr.heap[o]? = some (.cells cs t (0, 0))) => hk.block o _ hq (.inr ⟨h1, by rintro ⟨cs', e⟩; injection e with _ e _; exact h2 e⟩)
 exact ⟨kb _ _ _ (by omega) (by decide) h.b0, kb _ _ _ (by omega) (by decide) h.b1, kb _ _ _ (by omega) (by decide) h.b2, h.tr.set 4 (.int .i64 pe) rfl rfl, MemOk.tkeep h.mem ⟨_, h.tr.box⟩ hk, StoredIn.tkeep h.st hk (Nat.le_refl _), hr, hok⟩
theorem RunMid.step {w wr : World} {mb lo hi N : Nat} {Lp : List MP} {c1 cp : CPU} {pk pu s : Int} {v1 : Value} {t1 : TR} (h : RunMid w wr mb lo hi N Lp c1 cp pk pu v1 t1) :
  RunMid w (wr.setCell ⟨w.heap.size + 1 + 1 + 1, 3, none⟩ (.int .i64 s)) mb lo hi N Lp c1 cp pk pu v1 { t1 with steps := s } := by
 have hk := TKeep.set wr h.tr.low 3 (.int .i64 s)
 have hN := h.big
 have kb := fun (o : Nat) (cs : Array Value) (t : TypeId) (h1 : o ≠ w.heap.size + 1 + 1 + 1) (h2 : t ≠ 22) (hq : wr.heap[o]? = some (.cells cs t (0, 0))) => hk.block o _ hq (.inr ⟨h1, by rintro ⟨cs', e⟩; injection e with _ e _; exact h2 e⟩)
 exact ⟨kb _ _ _ (by omega) (by decide) h.b0, kb _ _ _ (by omega) (by decide) h.b1, kb _ _ _ (by omega) (by decide) h.b2, h.tr.set 3 (.int .i64 s) rfl rfl, MemOk.tkeep h.mem ⟨_, h.tr.box⟩ hk, StoredIn.tkeep h.st hk (Nat.le_refl _), kb _ _ _ (by omega) (by decide) h.n0, kb _ _ _ (by omega) (by decide) h.n1, hN⟩
theorem RunMid.below {w wr wx : World} {mb lo hi N : Nat} {Lp : List MP} {c1 cp : CPU} {pk pu : Int} {v1 : Value} {t1 : TR} (h : RunMid w wr mb lo hi N Lp c1 cp pk pu v1 t1) (hb : Below wr.heap.size wr wx) :
  RunMid w wx mb lo hi N Lp c1 cp pk pu v1 t1 :=
 ⟨blk_below h.b0 hb, blk_below h.b1 hb, blk_below h.b2 hb, h.tr.below hb, h.mem.below hb, h.st.trans (StoredIn.of_below lo hi hb), blk_below h.n0 hb, blk_below h.n1 hb, h.big⟩
theorem RunMid.inv {w wr wx : World} {mb lo hi N n k : Nat} {L0 Lp : List MP} {c0 c1 cp : CPU} {pk pu : Int} {v1 v2 : Value} {t1 t2 : TR} (h : RunMid w wr mb lo hi N Lp c1 cp pk pu v1 t1) (hk : TKeep wr wx w.heap.size (w.heap.size + 1 + 1 + 1)) (ht : TrBox wx w.heap.size (w.heap.size + 1 + 1 + 1) v2 t2)
  (hok : c1.ok) (hrun : runF n L0 c0 .zero = runF k Lp c1 t2) (hst : t2.steps + k = n) (he : t2.e = 0) (htold : (t2.told.length : Int) ≤ t2.steps) : RunInv w wx mb lo hi n k L0 c0 Lp c1 v2 t2 := by
 have kb := fun (o : Nat) (cs : Array Value) (t : TypeId) (h1 : o ≠ w.heap.size + 1 + 1 + 1) (h2 : t ≠ 22) (hq : wr.heap[o]? = some (.cells cs t (0, 0))) => hk.block o _ hq (.inr ⟨h1, by rintro ⟨cs', e⟩; injection e with _ e _; exact h2 e⟩)
 exact ⟨kb _ _ _ (by omega) (by decide) h.b0, kb _ _ _ (by omega) (by decide) h.b1, kb _ _ _ (by omega) (by decide) h.b2, ht, MemOk.tkeep h.mem ⟨_, h.tr.box⟩ hk, StoredIn.tkeep h.st hk (Nat.le_refl _), hok, hrun, hst, he, htold⟩
theorem add_told {t : TR} {k u : Int} (h : (t.told.length : Int) ≤ t.steps) : ((t.add k u).told.length : Int) ≤ (t.add k u).steps := by
 unfold TR.add
 simp only
 split
 ·rw [List.length_append]; simp; omega
 ·omega
theorem TabW.stored {w wr : World} {lo hi : Nat} (hT : TabW w) (h : StoredIn w wr lo hi) (hlo : 0 < lo) : TabW wr :=
 ⟨fun j hj => by
  have hc := hT.db j hj
  have hlt := World.block_lt_of_cell? w _ hc
  obtain ⟨o, ho⟩ : ∃ o, w.heap[0]? = some o := ⟨_, Array.getElem?_eq_getElem hlt⟩
  refine (World.cell?_of_block ?_).trans hc
  show wr.heap[0]? = w.heap[0]?
  rw [ho]
  exact h.block 0 o ho (.inl (by omega))⟩
theorem RunInv.next {w wr : World} {mb lo hi n k : Nat} {L0 L1 : List MP} {c0 c1 : CPU} {v1 : Value} {t1 : TR} (h : RunInv w wr mb lo hi n (k + 1) L0 c0 L1 c1 v1 t1) :
  runF n L0 c0 .zero = if t1.halted = true then (c1, t1, L1) else if (stepF L1 c1).e = 0 then runF k (stepF L1 c1).L (stepF L1 c1).c (t1.add (stepF L1 c1).k (stepF L1 c1).u) else (c1, { t1 with e := (stepF L1 c1).e }, (stepF L1 c1).L) := by
 rw [h.run]; rfl
theorem RunInv.fin {w wr : World} {mb lo hi n kq : Nat} {L0 L1 : List MP} {c0 c1 : CPU} {v1 : Value} {t1 : TR} (h : RunInv w wr mb lo hi n kq L0 c0 L1 c1 v1 t1) (hk : kq = 0 ∨ t1.halted = true) : RunEnd w wr mb lo hi n L0 c0 L1 c1 v1 t1 :=
 ⟨h.b0, h.b1, h.b2, h.tr, h.mem, h.st, by rw [h.run]; rcases hk with rfl | hk; exact run_none _ _ _; exact run_halted _ _ _ _ hk, h.ok⟩
theorem run_at (n : Nat) (L : List MP) (c : CPU) (w : World) (mb lo hi : Nat) (hm : MemOk w mb lo hi L) (hc : c.ok) (hTab : TabW w) (htop : hi ≤ w.heap.size) (hlo : 0 < lo) (hn : n ≤ 100000) :
  Calls Tryz.prog 23 #[.agg c.a, .pointer (some ⟨mb, 0, none⟩), .int .i64 (n : Int)] w fun e w' => ∃ v, e = .returned (.tuple #[.agg (runF n L c .zero).1.a, .agg (trA v (runF n L c .zero).2.1)]) ∧ w'.ownsRow w.heap.size 22 1 v (runF n L c .zero).2.1.told.length (nums .u64 (runF n L c .zero).2.1.told) ∧ StoredIn w w' lo hi ∧ MemOk w' mb lo hi (runF n L c .zero).2.2 ∧ (runF n L c .zero).1.ok := by
 obtain ⟨W, hW, h0, h1, h2, h3, hB⟩ := four_new w (.cells c.a 27) (.cells CPU.zero.a 27) (.cells (trA (.slice none 0 0) .zero) 42) (.cells (trA (.slice none 0 0) .zero) 42)
 have HI := aq (show RunInv w W mb lo hi n n L c L c (.slice none 0 0) .zero from ⟨h0, h1, h2, ⟨h3, ⟨rfl, .inl ⟨rfl, rfl⟩⟩, by omega⟩, hm.below hB, StoredIn.of_below lo hi hB, hc, rfl, by simp [TR.zero], rfl, by simp [TR.zero]⟩)
 have HW := aq hW
 have HT := aq hTab
 have HTOP := aq htop
 have HLO := aq hlo
 have HN := aq hn
 have d1 : ¬ (n : Int) < 0 := by omega
 have d2 : ¬ (n : Int) > 100000 := by omega
 clear hW h0 h1 h2 h3 hB hm hc hTab htop hlo hn
 go_enter Tryz.func23, Tryz.ntmps23
 go_upto_region 2 with fail
 change Code.wp _ _ _ _ ((((w.alloc (.cells c.a 27)).alloc (.cells CPU.zero.a 27)).alloc (.cells (trA (.slice none 0 0) .zero) 42)).alloc (.cells (trA (.slice none 0 0) .zero) 42))
 rw [← HW.out]
 clear HW
 go_wp2
 go_loopg [11] n (fun kq v11 wr => ∃ (L1 : List MP) (c1 : CPU) (v1 : Value) (t1 : TR), Aside0 (RunInv w wr mb lo hi n kq L c L1 c1 v1 t1))
 case atStart => exact ⟨L, c, _, .zero, HI⟩
 case round =>
  obtain ⟨L1, c1, v1, t1, HR⟩ := hrel
  clear HI
  have c3 : wr.cell? ⟨w.heap.size + 1 + 1 + 1, 3, none⟩ = some (.int .i64 t1.steps) := (blk_cell HR.out.tr.box 3).trans rfl
  have c4 : wr.cell? ⟨w.heap.size + 1 + 1 + 1, 1, none⟩ = some (.bool t1.halted) := (blk_cell HR.out.tr.box 1).trans rfl
  by_cases hk : gk = 0
  ·subst hk
   have ds : (t1.steps : Int) = n := by have := HR.out.steps; omega
   have d3 : decide (t1.steps < (n : Int)) = false := decide_eq_false (by omega)
   have HE := aq (HR.out.fin (.inl rfl))
   clear HR ds
   go_upto_region 12 with fail
   refine start_ (n := 4) (S := fun w' => w'.heap[w.heap.size]? = some (.cells c1.a 27 (0, 0)) ∧ w'.heap[w.heap.size + 1 + 1 + 1]? = some (.cells (trA v1 t1) 42 (0, 0))) (ds := [3]) #[false, false, false, false] (by kernel_rfl) rfl rfl ⟨HE.out.b0, HE.out.tr.box⟩ (fun hHeld => ?_); refine with_tabW runR.tab runR.bits (fun HT_ HW_ => ?_)
   refine tk_ (i := 0) (N := 49) (t := 27) (p := .tmp 3) (v := .agg c1.a) (take_ofW HT_.out HW_.out (by kernel_rfl)) rfl (fun _ _ _ h => h) hHeld ?_ ?_; · exact fun w' h' => run_loadAt_mid w' w.heap.size 0 27 c1.l _ (CPU.range c1 h'.1) under_cpu rfl info_cpu
   simp only [Act.put, lq, lz, ls]
   refine tk_ (i := 1) (N := 50) (t := 42) (p := .tmp 8) (v := .agg (trA v1 t1)) (take_ofW HT_.out HW_.out (by kernel_rfl)) rfl (fun _ _ _ h => h) hHeld ?_ ?_; · exact fun w' h' => run_loadAt_mid w' (w.heap.size + 1 + 1 + 1) 0 42 (trA v1 t1).toList _ (row_range h'.2) under_tr rfl info_tr
   simp only [Act.put, lq, lz, ls]
   have HF := aq (run_fin HE.out)
   refine st_ (i := 2) (one_of HT_.out (by kernel_rfl)) rfl (by decide) (run_storeAt_mid _ (w.heap.size + 1) 0 27 c1.a (there_blk HE.out.b1 0 37 (by decide)) info_cpu c1.one) HF.out.1 (fun hHeld => ?_); simp only [lq, lz, ls]
   refine ls_ (i := 3) (one_of HT_.out (by kernel_rfl)) rfl (by decide) (run_storeAt_mid _ (w.heap.size + 1 + 1) 0 42 (trA v1 t1) (there_blk HF.out.2.1 0 5 (by decide)) info_tr (tr_one HE.out.tr)) ?_; simp only [lq, lz, ls]
   refine done_ (done_of HT_.out (by kernel_rfl)) ?_
   go_wp2
   refine bodyPost_ret (results_list (rs := [.cell 6 27, .cell 7 42]) rfl (by simp) (.cell (w.heap.size + 1) 27 c1.a (0, 0) _ rfl HF.out.2.2.1 under_cpu rfl info_cpu (.cell (w.heap.size + 1 + 1) 42 (trA v1 t1) (0, 0) _ rfl HF.out.2.2.2.1 under_tr rfl info_tr .nil))) rfl ?_
   rw [HE.out.run]
   exact ⟨v1, rfl, HF.out.2.2.2.2.1, HF.out.2.2.2.2.2.1, HF.out.2.2.2.2.2.2, HE.out.ok⟩
  ·have d3 : decide (t1.steps < (n : Int)) = true := decide_eq_true (by have := HR.out.steps; omega)
   by_cases hh : t1.halted = true
   ·rw [hh] at c4
    have HE := aq (HR.out.fin (.inr hh))
    clear HR hh hk
    go_upto_region 12 with fail
    refine start_ (n := 4) (S := fun w' => w'.heap[w.heap.size]? = some (.cells c1.a 27 (0, 0)) ∧ w'.heap[w.heap.size + 1 + 1 + 1]? = some (.cells (trA v1 t1) 42 (0, 0))) (ds := [3]) #[false, false, false, false] (by kernel_rfl) rfl rfl ⟨HE.out.b0, HE.out.tr.box⟩ (fun hHeld => ?_); refine with_tabW runR.tab runR.bits (fun HT_ HW_ => ?_)
    refine tk_ (i := 0) (N := 49) (t := 27) (p := .tmp 3) (v := .agg c1.a) (take_ofW HT_.out HW_.out (by kernel_rfl)) rfl (fun _ _ _ h => h) hHeld ?_ ?_; · exact fun w' h' => run_loadAt_mid w' w.heap.size 0 27 c1.l _ (CPU.range c1 h'.1) under_cpu rfl info_cpu
    simp only [Act.put, lq, lz, ls]
    refine tk_ (i := 1) (N := 50) (t := 42) (p := .tmp 8) (v := .agg (trA v1 t1)) (take_ofW HT_.out HW_.out (by kernel_rfl)) rfl (fun _ _ _ h => h) hHeld ?_ ?_; · exact fun w' h' => run_loadAt_mid w' (w.heap.size + 1 + 1 + 1) 0 42 (trA v1 t1).toList _ (row_range h'.2) under_tr rfl info_tr
    simp only [Act.put, lq, lz, ls]
    have HF := aq (run_fin HE.out)
    refine st_ (i := 2) (one_of HT_.out (by kernel_rfl)) rfl (by decide) (run_storeAt_mid _ (w.heap.size + 1) 0 27 c1.a (there_blk HE.out.b1 0 37 (by decide)) info_cpu c1.one) HF.out.1 (fun hHeld => ?_); simp only [lq, lz, ls]
    refine ls_ (i := 3) (one_of HT_.out (by kernel_rfl)) rfl (by decide) (run_storeAt_mid _ (w.heap.size + 1 + 1) 0 42 (trA v1 t1) (there_blk HF.out.2.1 0 5 (by decide)) info_tr (tr_one HE.out.tr)) ?_; simp only [lq, lz, ls]
    refine done_ (done_of HT_.out (by kernel_rfl)) ?_
    go_wp2
    refine bodyPost_ret (results_list (rs := [.cell 6 27, .cell 7 42]) rfl (by simp) (.cell (w.heap.size + 1) 27 c1.a (0, 0) _ rfl HF.out.2.2.1 under_cpu rfl info_cpu (.cell (w.heap.size + 1 + 1) 42 (trA v1 t1) (0, 0) _ rfl HF.out.2.2.2.1 under_tr rfl info_tr .nil))) rfl ?_
    rw [HE.out.run]
    exact ⟨v1, rfl, HF.out.2.2.2.2.1, HF.out.2.2.2.2.2.1, HF.out.2.2.2.2.2.2, HE.out.ok⟩
   ·have hh' : t1.halted = false := by simpa using hh
    rw [hh'] at c4
    obtain ⟨k, rfl⟩ : ∃ k, gk = k + 1 := ⟨gk - 1, by omega⟩
    have HTw := aq (TabW.stored HT.out HR.out.st HLO.out)
    have HTP := aq (Nat.le_trans HTOP.out HR.out.st.size)
    have hst := HR.out.next
    rw [if_neg hh] at hst
    have HS := aq hst
    clear hst hk hh
    generalize hp : stepF L1 c1 = p at *
    obtain ⟨cp, pk, pu, pe, Lp⟩ := p
    go_upto_region 7 with (first | ((with_reducible refine gate_dst (N := 31) rfl ?_); refine wpList_load_mid rfl 27 (.tmp 3) rfl w.heap.size 0 rfl c1.l _ (c1.range HR.out.b0) under_cpu rfl info_cpu ?_) | (go_at_call 27; refine (step_at L1 c1 _ mb lo hi HR.out.mem HR.out.ok HTw.out HTP.out HLO.out).mono ?_; rw [hp]; rintro e w1 ⟨rfl, hs, hm⟩; have HS1 := aq hs; have HM1 := aq hm; clear hs hm) | ((with_reducible refine gate_store (t := 27) (p := 9) (v := .tmp 34) rfl ?_); refine wpList_store_mid rfl 27 (.tmp 9) (.tmp 34) rfl w1.heap.size 0 cp.a rfl rfl (there_blk (blk_alloc (blk_new w1 (.cells CPU.zero.a 27)) _) 0 37 (by decide)) info_cpu cp.one ?_) | ((with_reducible refine gate_store (t := 55) (p := 10) (v := .tmp 35) rfl ?_); refine wpList_store_mid rfl 55 (.tmp 10) (.tmp 35) rfl (w1.heap.size + 1) 0 (evA pk pu) rfl rfl (there_blk (blk_sets_far cp.l 0 (Nat.succ_ne_self _) (new_last w1 (.cells CPU.zero.a 27) (.cells (evA 0 0) 55))) 0 2 (by decide)) info_ev (ev_one pk pu) ?_))
    have HM := aq (run_mid HR.out HTOP.out HS1.out HM1.out cp pk pu)
    change Code.wp _ _ _ _ ((((w1.alloc (.cells CPU.zero.a 27)).alloc (.cells (evA 0 0) 55)).setCells w1.heap.size 0 cp.l).setCells (w1.heap.size + 1) 0 (evA pk pu).toList)
    generalize (((w1.alloc (.cells CPU.zero.a 27)).alloc (.cells (evA 0 0) 55)).setCells w1.heap.size 0 cp.l).setCells (w1.heap.size + 1) 0 (evA pk pu).toList = w2 at *
    generalize w1.heap.size = N at *
    clear HS1 HM1 c3 c4 d3
    by_cases he : pe = 0
    ·subst he
     go_upto_region 9 with fail
     go_upto_region 10 with (first | ((with_reducible refine gate_dst (N := 41) rfl ?_); refine wpList_load_mid rfl 27 (.tmp 9) rfl N 0 rfl cp.l _ (cp.range HM.out.n0) under_cpu rfl info_cpu ?_) | ((with_reducible refine gate_store (t := 27) (p := 3) (v := .tmp 41) rfl ?_); refine wpList_store_mid rfl 27 (.tmp 3) (.tmp 41) rfl w.heap.size 0 cp.a rfl rfl (there_blk HM.out.b0 0 37 (Nat.le_refl 37)) info_cpu cp.one ?_))
     have HM1 := aq (HM.out.put)
     change Code.wp _ _ _ _ (w2.setCells w.heap.size 0 cp.l)
     generalize w2.setCells w.heap.size 0 cp.l = w3 at *
     clear HM
     have c3 : w3.cell? ⟨w.heap.size + 1 + 1 + 1, 3, none⟩ = some (.int .i64 t1.steps) := (blk_cell HM1.out.tr.box 3).trans rfl
     have f3 := blk_frozen HM1.out.tr.box 3
     have hw : wrap64 (t1.steps + 1) = t1.steps + 1 := by have := HR.out.steps; have := HN.out; have := HR.out.told; unfold wrap64; omega
     go_upto_region 11 with fail
     rw [hw]
     have HM2 := aq (HM1.out.step (s := t1.steps + 1))
     generalize w3.setCell ⟨w.heap.size + 1 + 1 + 1, 3, none⟩ (.int .i64 (t1.steps + 1)) = w4 at *
     clear HM1 c3 f3 hw
     go_wp2_with (first | ((with_reducible refine gate_dst (N := 46) rfl ?_); refine wpList_load_mid rfl 55 (.tmp 10) rfl (N + 1) 0 rfl (evA pk pu).toList _ (row_range HM2.out.n1) under_ev rfl info_ev ?_) | (go_at_call 75; refine (of_at pk pu _).mono ?_; rintro e w5 ⟨rfl, hb⟩; have HM3 := aq (HM2.out.below hb); clear hb))
     have hpok : cp.ok := by have h := step_okW HR.out.mem HR.out.ok; rw [hp] at h; exact h
     refine (tell_at w.heap.size (w.heap.size + 1 + 1 + 1) v1 { t1 with steps := t1.steps + 1 } pk pu _ HM3.out.tr (by have := HR.out.told; have := HR.out.steps; have := HN.out; show t1.told.length ≤ 1000000; omega)).mono ?_
     rintro e w6 ⟨rfl, hk, v2, ht⟩
     have HI := aq (show RunInv w w6 mb lo hi n k L c Lp cp v2 (t1.add pk pu) from HM3.out.inv hk ht hpok (HS.out.trans (if_pos (by trivial))) (by have := HR.out.steps; show t1.steps + 1 + (k : Int) = n; omega) HR.out.err (add_told HR.out.told))
     clear hk ht
     go_wp2
     go_roundg k
     case measure => omega
     case rel => exact ⟨Lp, cp, v2, t1.add pk pu, HI⟩
    ·have de : (pe != 0) = true := by simpa using he
     have f4 := blk_frozen HM.out.tr.box 4
     have c4 : w2.cell? ⟨w.heap.size + 1 + 1 + 1, 4, none⟩ = some (.int .i64 t1.e) := (blk_cell HM.out.tr.box 4).trans rfl
     have HE0 := aq (HM.out.bad (HS.out.trans (if_neg he)) HR.out.ok)
     clear HS
     go_upto_region 12 with fail
     generalize w2.setCell ⟨w.heap.size + 1 + 1 + 1, 4, none⟩ (.int .i64 pe) = w3 at *
     have HE := HE0
     clear HE0 HM c4 f4 de
     generalize ({ t1 with e := pe } : TR) = t2 at *
     refine start_ (n := 4) (S := fun w' => w'.heap[w.heap.size]? = some (.cells c1.a 27 (0, 0)) ∧ w'.heap[w.heap.size + 1 + 1 + 1]? = some (.cells (trA v1 t2) 42 (0, 0))) (ds := [3]) #[false, false, false, false] (by kernel_rfl) rfl rfl ⟨HE.out.b0, HE.out.tr.box⟩ (fun hHeld => ?_); refine with_tabW runR.tab runR.bits (fun HT_ HW_ => ?_)
     refine tk_ (i := 0) (N := 49) (t := 27) (p := .tmp 3) (v := .agg c1.a) (take_ofW HT_.out HW_.out (by kernel_rfl)) rfl (fun _ _ _ h => h) hHeld ?_ ?_; · exact fun w' h' => run_loadAt_mid w' w.heap.size 0 27 c1.l _ (CPU.range c1 h'.1) under_cpu rfl info_cpu
     simp only [Act.put, lq, lz, ls]
     refine tk_ (i := 1) (N := 50) (t := 42) (p := .tmp 8) (v := .agg (trA v1 t2)) (take_ofW HT_.out HW_.out (by kernel_rfl)) rfl (fun _ _ _ h => h) hHeld ?_ ?_; · exact fun w' h' => run_loadAt_mid w' (w.heap.size + 1 + 1 + 1) 0 42 (trA v1 t2).toList _ (row_range h'.2) under_tr rfl info_tr
     simp only [Act.put, lq, lz, ls]
     have HF := aq (run_fin HE.out)
     refine st_ (i := 2) (one_of HT_.out (by kernel_rfl)) rfl (by decide) (run_storeAt_mid _ (w.heap.size + 1) 0 27 c1.a (there_blk HE.out.b1 0 37 (by decide)) info_cpu c1.one) HF.out.1 (fun hHeld => ?_); simp only [lq, lz, ls]
     refine ls_ (i := 3) (one_of HT_.out (by kernel_rfl)) rfl (by decide) (run_storeAt_mid _ (w.heap.size + 1 + 1) 0 42 (trA v1 t2) (there_blk HF.out.2.1 0 5 (by decide)) info_tr (tr_one HE.out.tr)) ?_; simp only [lq, lz, ls]
     refine done_ (done_of HT_.out (by kernel_rfl)) ?_
     go_wp2
     refine bodyPost_ret (results_list (rs := [.cell 6 27, .cell 7 42]) rfl (by simp) (.cell (w.heap.size + 1) 27 c1.a (0, 0) _ rfl HF.out.2.2.1 under_cpu rfl info_cpu (.cell (w.heap.size + 1 + 1) 42 (trA v1 t2) (0, 0) _ rfl HF.out.2.2.2.1 under_tr rfl info_tr .nil))) rfl ?_
     rw [HE.out.run]
     exact ⟨v1, rfl, HF.out.2.2.2.2.1, HF.out.2.2.2.2.2.1, HF.out.2.2.2.2.2.2, HE.out.ok⟩
def badT : TR := ⟨[], false, 0, 0, 1⟩
theorem bad_end (w : World) (c : CPU) : ∃ W, W = (((w.alloc (.cells c.a 27)).alloc (.cells CPU.zero.a 27)).alloc (.cells (trA (.slice none 0 0) .zero) 42)).alloc (.cells (trA (.slice none 0 0) .zero) 42) ∧
  W.heap[w.heap.size + 1 + 1 + 1]? = some (.cells (trA (.slice none 0 0) .zero) 42 (0, 0)) ∧ ∀ W1, W1 = (W.setCell ⟨w.heap.size + 1 + 1 + 1, 4, none⟩ (.int .i64 1)).drew →
  (W1.heap[w.heap.size]? = some (.cells c.a 27 (0, 0)) ∧ W1.heap[w.heap.size + 1 + 1 + 1]? = some (.cells (trA (.slice none 0 0) badT) 42 (0, 0))) ∧
  W1.heap[w.heap.size + 1]? = some (.cells CPU.zero.a 27 (0, 0)) ∧
  ((W1.setCells (w.heap.size + 1) 0 c.l).heap[w.heap.size]? = some (.cells c.a 27 (0, 0)) ∧ (W1.setCells (w.heap.size + 1) 0 c.l).heap[w.heap.size + 1 + 1 + 1]? = some (.cells (trA (.slice none 0 0) badT) 42 (0, 0))) ∧
  (W1.setCells (w.heap.size + 1) 0 c.l).heap[w.heap.size + 1 + 1]? = some (.cells (trA (.slice none 0 0) .zero) 42 (0, 0)) ∧
  ((W1.setCells (w.heap.size + 1) 0 c.l).setCells (w.heap.size + 1 + 1) 0 (trA (.slice none 0 0) badT).toList).heap[w.heap.size + 1]? = some (.cells c.a 27 (0, 0)) ∧
  ((W1.setCells (w.heap.size + 1) 0 c.l).setCells (w.heap.size + 1 + 1) 0 (trA (.slice none 0 0) badT).toList).heap[w.heap.size + 1 + 1]? = some (.cells (trA (.slice none 0 0) badT) 42 (0, 0)) ∧
  Below w.heap.size w ((W1.setCells (w.heap.size + 1) 0 c.l).setCells (w.heap.size + 1 + 1) 0 (trA (.slice none 0 0) badT).toList) := by
 obtain ⟨W, hW, h0, h1, h2, h3, hB⟩ := four_new w (.cells c.a 27) (.cells CPU.zero.a 27) (.cells (trA (.slice none 0 0) .zero) 42) (.cells (trA (.slice none 0 0) .zero) 42)
 refine ⟨W, hW, h3, ?_⟩
 rintro W1 rfl
 have hd : Below (W.setCell ⟨w.heap.size + 1 + 1 + 1, 4, none⟩ (.int .i64 1)).heap.size (W.setCell ⟨w.heap.size + 1 + 1 + 1, 4, none⟩ (.int .i64 1)) (W.setCell ⟨w.heap.size + 1 + 1 + 1, 4, none⟩ (.int .i64 1)).drew := below_drew1 (Below.refl _ _)
 have far := fun (k : Nat) (q : Obj) (hk : k ≠ w.heap.size + 1 + 1 + 1) (hq : W.heap[k]? = some q) => blk_below ((Below.heap_setCell W ⟨w.heap.size + 1 + 1 + 1, 4, none⟩ (.int .i64 1) k hk).trans hq) hd
 have k0 := far _ _ (by omega) h0
 have k1 := far _ _ (by omega) h1
 have k2 := far _ _ (by omega) h2
 have k3 := blk_below (blk_put (cs' := trA (.slice none 0 0) badT) h3 4 (.int .i64 1) rfl) hd
 have n1 := blk_sets c.l 0 k1
 rw [CPU.sets_] at n1
 have n2 := blk_sets_far (b := w.heap.size + 1) c.l 0 (show w.heap.size + 1 + 1 ≠ w.heap.size + 1 by omega) k2
 have q2 := blk_sets (trA (.slice none 0 0) badT).toList 0 n2
 rw [tr_sets] at q2
 refine ⟨⟨k0, k3⟩, k1, ⟨blk_sets_far c.l 0 (by omega) k0, blk_sets_far c.l 0 (by omega) k3⟩, n2, blk_sets_far _ 0 (by omega) n1, q2, ?_⟩
 exact below_sets (by omega) _ 0 (below_sets (by omega) _ 0 (below_drew1 (below_set hB (by omega))))
theorem badR.tab : rtab .any (opsOf Tryz.f23 4) = runR.T := by kernel_rfl
theorem run_bad (n : Int) (c : CPU) (mb : Nat) (w : World) (h : n < 0 ∨ 100000 < n) : Calls Tryz.prog 23 #[.agg c.a, .pointer (some ⟨mb, 0, none⟩), .int .i64 n] w fun e w' => e = .returned (.tuple #[.agg c.a, .agg (trA (.slice none 0 0) badT)]) ∧ Below w.heap.size w w' := by
 obtain ⟨W, hW, h3, hE⟩ := bad_end w c
 have HW := aq hW
 have HE := aq (hE _ rfl)
 have c4 : W.cell? ⟨w.heap.size + 1 + 1 + 1, 4, none⟩ = some (.int .i64 0) := (blk_cell h3 4).trans rfl
 have f4 := blk_frozen h3 4
 have hcond : (decide (n < 0) = true) ∨ (decide (n < 0) = false ∧ decide (n > 100000) = true) := by
  by_cases h0 : n < 0
  ·exact .inl (decide_eq_true h0)
  ·exact .inr ⟨decide_eq_false h0, decide_eq_true (by omega)⟩
 clear hW h3 hE h
 rcases hcond with d1 | ⟨d1, d2⟩
 all_goals
  go_enter Tryz.func23, Tryz.ntmps23
  go_upto_region 2 with fail
  change Code.wp _ _ _ _ ((((w.alloc (.cells c.a 27)).alloc (.cells CPU.zero.a 27)).alloc (.cells (trA (.slice none 0 0) .zero) 42)).alloc (.cells (trA (.slice none 0 0) .zero) 42))
  rw [← HW.out]
  clear HW
  go_upto_region 4 with fail
  clear c4 f4
  refine start_ (n := 4) (S := fun w' => w'.heap[w.heap.size]? = some (.cells c.a 27 (0, 0)) ∧ w'.heap[w.heap.size + 1 + 1 + 1]? = some (.cells (trA (.slice none 0 0) badT) 42 (0, 0))) (ds := [3]) #[false, false, false, false] (by kernel_rfl) rfl rfl HE.out.1 (fun hHeld => ?_); refine with_tabW badR.tab runR.bits (fun HT_ HW_ => ?_)
  generalize (W.setCell ⟨w.heap.size + 1 + 1 + 1, 4, none⟩ (.int .i64 1)).drew = W1 at *
  refine tk_ (i := 0) (N := 19) (t := 27) (p := .tmp 3) (v := .agg c.a) (take_ofW HT_.out HW_.out (by kernel_rfl)) rfl (fun _ _ _ h => h) hHeld ?_ ?_; · exact fun w' h' => run_loadAt_mid w' w.heap.size 0 27 c.l _ (CPU.range c h'.1) under_cpu rfl info_cpu
  simp only [Act.put, lq, lz, ls]
  refine tk_ (i := 1) (N := 20) (t := 42) (p := .tmp 8) (v := .agg (trA (.slice none 0 0) badT)) (take_ofW HT_.out HW_.out (by kernel_rfl)) rfl (fun _ _ _ h => h) hHeld ?_ ?_; · exact fun w' h' => run_loadAt_mid w' (w.heap.size + 1 + 1 + 1) 0 42 (trA (.slice none 0 0) badT).toList _ (row_range h'.2) under_tr rfl info_tr
  simp only [Act.put, lq, lz, ls]
  refine st_ (i := 2) (one_of HT_.out (by kernel_rfl)) rfl (by decide) (run_storeAt_mid _ (w.heap.size + 1) 0 27 c.a (there_blk HE.out.2.1 0 37 (by decide)) info_cpu c.one) HE.out.2.2.1 (fun hHeld => ?_); simp only [lq, lz, ls]
  refine ls_ (i := 3) (one_of HT_.out (by kernel_rfl)) rfl (by decide) (run_storeAt_mid _ (w.heap.size + 1 + 1) 0 42 (trA (.slice none 0 0) badT) (there_blk HE.out.2.2.2.1 0 5 (by decide)) info_tr (by simp [trA, Value.oneCell'])) ?_; simp only [lq, lz, ls]
  refine done_ (done_of HT_.out (by kernel_rfl)) ?_
  go_wp2
  refine bodyPost_ret (results_list (rs := [.cell 6 27, .cell 7 42]) rfl (by simp) (.cell (w.heap.size + 1) 27 c.a (0, 0) _ rfl HE.out.2.2.2.2.1 under_cpu rfl info_cpu (.cell (w.heap.size + 1 + 1) 42 (trA (.slice none 0 0) badT) (0, 0) _ rfl HE.out.2.2.2.2.2.1 under_tr rfl info_tr .nil))) rfl ⟨rfl, HE.out.2.2.2.2.2.2⟩
theorem same_calls (A B : Option Addr) (ca cb : Nat) (t : TR) (w : World) (hA : Kd.C (Kd.int .u64) w A t.told.length t.told) (hca : t.told.length ≤ ca) (hB : Kd.C (Kd.int .u64) w B t.told.length t.told) (hcb : t.told.length ≤ cb) (hl : t.told.length < 900) :
  Calls Tryz.prog 24 #[.agg (trA (.slice A t.told.length ca) t), .agg (trA (.slice B t.told.length cb) t)] w fun e w' => e = .returned (.bool true) ∧ Below w.heap.size w w' := by
 have RA := aq (Kd.reads_of_C (d := 0) hA)
 have RB := aq (Kd.reads_of_C (d := 0) hB)
 obtain ⟨l, h, c, s, e⟩ := t
 simp only at *
 have HL := aq hl
 obtain ⟨W, hW, h0, h1, hb⟩ := two_new w (.cells (trA (.slice A l.length ca) ⟨l, h, c, s, e⟩) 42) (.cells (trA (.slice B l.length cb) ⟨l, h, c, s, e⟩) 42)
 have HW := aq hW
 have H0 := aq h0
 have H1 := aq h1
 have HB := aq hb
 have a0 : W.cell? ⟨w.heap.size, 0, none⟩ = some (.slice A l.length ca) := (blk_cell h0 0).trans rfl
 have a1 : W.cell? ⟨w.heap.size, 1, none⟩ = some (.bool h) := (blk_cell h0 1).trans rfl
 have a2 : W.cell? ⟨w.heap.size, 2, none⟩ = some (.int .u64 c) := (blk_cell h0 2).trans rfl
 have a3 : W.cell? ⟨w.heap.size, 3, none⟩ = some (.int .i64 s) := (blk_cell h0 3).trans rfl
 have a4 : W.cell? ⟨w.heap.size, 4, none⟩ = some (.int .i64 e) := (blk_cell h0 4).trans rfl
 have b0 : W.cell? ⟨w.heap.size + 1, 0, none⟩ = some (.slice B l.length cb) := (blk_cell h1 0).trans rfl
 have b1 : W.cell? ⟨w.heap.size + 1, 1, none⟩ = some (.bool h) := (blk_cell h1 1).trans rfl
 have b2 : W.cell? ⟨w.heap.size + 1, 2, none⟩ = some (.int .u64 c) := (blk_cell h1 2).trans rfl
 have b3 : W.cell? ⟨w.heap.size + 1, 3, none⟩ = some (.int .i64 s) := (blk_cell h1 3).trans rfl
 have b4 : W.cell? ⟨w.heap.size + 1, 4, none⟩ = some (.int .i64 e) := (blk_cell h1 4).trans rfl
 clear hW h0 h1 hb hl hA hB hca hcb
 go_enter Tryz.func24, Tryz.ntmps24
 go_upto_region 1 with fail
 change Code.wp _ _ _ _ ((w.alloc (.cells (trA (.slice A l.length ca) ⟨l, h, c, s, e⟩) 42)).alloc (.cells (trA (.slice B l.length cb) ⟨l, h, c, s, e⟩) 42))
 rw [← HW.out]
 clear HW
 go_wp2
 clear a0 a1 a2 a3 a4 b0 b1 b2 b3 b4
 go_loopg [5] l.length (fun kq v5 wr => ∃ i : Nat, v5 = .int .i64 (i : Int) ∧ i + kq = l.length ∧ Aside0 (Below W.heap.size W wr))
 case atStart => exact ⟨0, rfl, by omega, ⟨Below.refl _ _⟩⟩
 case round =>
  obtain ⟨i, rfl, hik, HX⟩ := hrel
  have a0 : wr.cell? ⟨w.heap.size, 0, none⟩ = some (.slice A l.length ca) := (blk_cell (blk_below H0.out HX.out) 0).trans rfl
  have b0 : wr.cell? ⟨w.heap.size + 1, 0, none⟩ = some (.slice B l.length cb) := (blk_cell (blk_below H1.out HX.out) 0).trans rfl
  cases gk with
  | zero =>
   obtain rfl : i = l.length := by omega
   clear hik
   go_wp2
   go_ret
   exact ⟨rfl, below_step HB.out HX.out⟩
  | succ kq =>
   have hlt : i < l.length := by omega
   have hbw := below_step HB.out HX.out
   obtain ⟨x, rfl, ex⟩ := (RA.out.below hbw).at_ (i : Int) (by omega) (by omega)
   obtain ⟨y, rfl, ey⟩ := (RB.out.below hbw).at_ (i : Int) (by omega) (by omega)
   rw [Int.toNat_natCast] at ex ey
   generalize rdOf (0 : Int) l (i : Int) = v at *
   have hw : wrap64 ((i : Int) + 1) = ((i : Int) + 1) := by have := HL.out; unfold wrap64; omega
   have HIK := aq hik
   clear hik hbw
   go_wp2
   go_quiet (fail)
   go_wp2
   go_roundg kq
   case measure => omega
   case rel => exact ⟨i + 1, by rw [hw]; rfl, by have := HIK.out; omega, ⟨pw_below_drewN HX.out _⟩⟩
def exD : ByteArray := ⟨#[224, 0, 128, 210, 33, 0, 0, 212, 1, 0, 0, 212]⟩
def exR : S61 := ⟨64, 1, exD⟩
def exL : List MP := [⟨64, 1, [224, 0, 128, 210, 33, 0, 0, 212, 1, 0, 0, 212]⟩]
def exC : CPU := ⟨fun _ => 0, 0, 64, false, false, false, false⟩
theorem ex_a : code_Encode.f 1000 1 0 0 0 0 7 0 0 0 0 = some (3531604192, 0) := by decide +kernel
theorem ex_b : code_Encode.f 1000 37 0 0 0 0 1 0 0 0 0 = some (3556769825, 0) := by decide +kernel
theorem ex_c : code_Encode.f 1000 37 0 0 0 0 0 0 0 0 0 = some (3556769793, 0) := by decide +kernel
theorem ex_put : cleatlaw08_put.f 1000 [3531604192, 3556769825, 3556769793] = some exD := by decide +kernel
theorem ex_new : newV [exR] = 0 := by decide +kernel
theorem ex_mem : memL [exR] = exL := by rfl
theorem ex_run : (runF 9 exL exC .zero).1.pc = 76 ∧ (runF 9 exL exC .zero).1.x 0 = 7 ∧ (runF 9 exL exC .zero).2.1.told = [7] ∧ (runF 9 exL exC .zero).2.1.halted = true ∧ (runF 9 exL exC .zero).2.1.code = 7 ∧ (runF 9 exL exC .zero).2.1.steps = 3 ∧ (runF 9 exL exC .zero).2.1.e = 0 := by decide +kernel
theorem ex_tr : (runF 9 exL exC .zero).2.1 = ⟨[7], true, 7, 3, 0⟩ := by
 obtain ⟨-, -, h1, h2, h3, h4, h5⟩ := ex_run
 generalize (runF 9 exL exC .zero).2.1 = t at *
 obtain ⟨a, b, c, d, e⟩ := t
 simp only at h1 h2 h3 h4 h5
 subst h1 h2 h3 h4 h5
 rfl
theorem own_kd {w : World} {base c : Nat} {e : TypeId} {k : IntKind} {A : Option Addr} {xs : List Int} (h : w.ownsRow base e 1 (.slice A xs.length c) xs.length (nums k xs)) : Kd.C (Kd.int k) w A xs.length xs ∧ xs.length ≤ c := by
 refine ⟨Kd.C_of_reads (d := 0) (own_reads' h), ?_⟩
 rcases h.2 with ⟨e1, h2⟩ | ⟨g, cap, cur, e1, _, _, h3, _⟩
 ·injection e1 with _ e2 e3; omega
 ·injection e1 with _ _ e3; omega
theorem ex_new_at (w : World) : Calls Tryz.prog 22 #[.slice (some ⟨w.heap.size, 0, none⟩) 1 1] (w.alloc (.cells #[.int .u64 64, .int .i64 1, .string exD] 61 (0, 0))) fun e w1 =>
  ∃ M lo hi, e = .returned (.tuple #[.pointer (some ⟨M, 0, none⟩), .int .i64 0]) ∧ Below w.heap.size w w1 ∧ w.heap.size ≤ lo ∧ hi ≤ w1.heap.size ∧ 0 < lo ∧ MemOk w1 M lo hi exL := by
 have hR := one_region (w := w) exR rfl
 have hnew := (new_at (w.alloc (.cells #[.int .u64 64, .int .i64 1, .string exD] 61 (0, 0))) (some ⟨w.heap.size, 0, none⟩) 1 [exR] hR (by decide) (by decide) (by
  intro r hr
  rw [List.mem_singleton] at hr
  subst hr
  decide)).2 ex_new
 refine hnew.mono ?_
 rintro e w1 ⟨rfl, hb, hm⟩
 rw [ex_mem] at hm
 have h1 : (w.alloc (.cells #[.int .u64 64, .int .i64 1, .string exD] 61 (0, 0))).heap.size = w.heap.size + 1 := by show (w.heap.push _).size = _; rw [Array.size_push]
 exact ⟨_, _, _, rfl, below_step (below_alloc (Below.refl _ _) _) hb, by omega, Nat.le_refl _, by omega, hm⟩
theorem exC_ok : exC.ok := ⟨fun _ => ⟨by show (0 : Int) ≤ 0; decide, by show (0 : Int) < _; decide⟩, ⟨by decide, by decide⟩, ⟨by decide, by decide⟩⟩
theorem two_boxes (w : World) (c : CPU) (v : Value) (t : TR) : ∃ W, W = (((w.alloc (.cells CPU.zero.a 27)).alloc (.cells (trA (.slice none 0 0) .zero) 42)).setCells w.heap.size 0 c.l).setCells (w.heap.size + 1) 0 (trA v t).toList ∧
  W.heap[w.heap.size]? = some (.cells c.a 27 (0, 0)) ∧ W.heap[w.heap.size + 1]? = some (.cells (trA v t) 42 (0, 0)) ∧ Below w.heap.size w W := by
 have y4 : ((w.alloc (.cells CPU.zero.a 27)).alloc (.cells (trA (.slice none 0 0) .zero) 42)).heap[w.heap.size]? = some (.cells CPU.zero.a 27 (0, 0)) := blk_alloc (blk_new w _) _
 have y5 := new_last w (.cells CPU.zero.a 27) (.cells (trA (.slice none 0 0) .zero) 42)
 have n4 := blk_sets c.l 0 y4
 rw [CPU.sets_] at n4
 have n5 := blk_sets_far (b := w.heap.size) c.l 0 (Nat.succ_ne_self _) y5
 have q5 := blk_sets (trA v t).toList 0 n5
 rw [tr_sets] at q5
 exact ⟨_, rfl, blk_sets_far _ 0 (Nat.succ_ne_self _).symm n4, q5, below_sets (Nat.le_succ _) _ 0 (below_sets (Nat.le_refl _) _ 0 (below_alloc (below_alloc (Below.refl _ _) _) _))⟩
theorem stepped_calls (w : World) (hTab : TabW w) : Calls Tryz.prog 19 #[] w fun e w' => e = .returned (.bool true) ∧ Below w.heap.size w w' := by
 have HT := aq hTab
 clear hTab
 go_enter Tryz.func19, Tryz.ntmps19
 go_wp2_with fail
 refine (code_Encode.calls 1000 1 0 0 0 0 7 0 0 0 0 _ _ w ex_a HT.out).mono ?_
 rintro e w1 ⟨rfl, hb⟩
 have HB1 := aq hb
 clear hb
 go_wp2_with fail
 refine (code_Encode.calls 1000 37 0 0 0 0 1 0 0 0 0 _ _ w1 ex_b (HT.out.below HB1.out)).mono ?_
 rintro e w2 ⟨rfl, hb⟩
 have HB2 := aq (below_step HB1.out hb)
 clear hb
 go_wp2_with fail
 refine (code_Encode.calls 1000 37 0 0 0 0 0 0 0 0 0 _ _ w2 ex_c (HT.out.below HB2.out)).mono ?_
 rintro e w3 ⟨rfl, hb⟩
 have HB3 := aq (below_step HB2.out hb)
 clear hb
 go_wp2_with fail
 have HK := own_kd (own_lit w3 0 47 .u32 [3531604192, 3556769825, 3556769793] (Nat.zero_le _) (by decide))
 refine (cleatlaw08_put.calls 1000 (some ⟨w3.heap.size, 0, none⟩) 3 [3531604192, 3556769825, 3556769793] exD _ HK.1 (by decide) ex_put).mono ?_
 rintro e w4 ⟨rfl, hb⟩
 have HB4 := aq (below_step (below_alloc HB3.out _) hb)
 clear hb HK
 go_wp2_with fail
 refine (ex_new_at w4).mono ?_
 rintro e w5 ⟨M, lo, hi, rfl, hb, hlo, hhi, hlo0, hm⟩
 have HM5 := aq hm
 have HB5 := aq (below_step HB4.out hb)
 have HLO := aq hlo0
 have HLW := aq (Nat.le_trans HB4.out.size hlo)
 have HHI := aq hhi
 clear hb hlo hhi hlo0 hm
 have HRUN := aq (run_at 9 exL exC w5 M lo hi HM5.out exC_ok (HT.out.below HB5.out) HHI.out HLO.out (by decide))
 have hex := ex_run
 have htr := ex_tr
 generalize hq : runF 9 exL exC .zero = q at *
 obtain ⟨c9, t9, L9⟩ := q
 simp only at htr hex
 subst htr
 obtain ⟨hpc, hx0, -⟩ := hex
 clear hq
 go_upto_region 6 with (first | (go_at_call 23; refine (HRUN.out).mono ?_; rintro e w6 ⟨v9, rfl, hown, hs, hm, -⟩; obtain ⟨A9, cc9, rfl⟩ := Go.Proofs.YtblnfngigdipcaaGreatDoorW.PrintWords.own_slice hown; have HO6 := aq hown; have HB6 := aq (hs.below _ _ HB5.out HLW.out HB5.out.size); clear hown hs hm) | ((with_reducible refine gate_store (t := 27) (p := 9) (v := .tmp 43) rfl ?_); refine wpList_store_mid rfl 27 (.tmp 9) (.tmp 43) rfl w6.heap.size 0 c9.a rfl rfl (there_blk (blk_alloc (blk_new w6 (.cells CPU.zero.a 27)) _) 0 37 (by decide)) info_cpu c9.one ?_) | ((with_reducible refine gate_store (t := 42) (p := 10) (v := .tmp 44) rfl ?_); refine wpList_store_mid rfl 42 (.tmp 10) (.tmp 44) rfl (w6.heap.size + 1) 0 (trA (.slice A9 1 cc9) ⟨[7], true, 7, 3, 0⟩) rfl rfl (there_blk (blk_sets_far c9.l 0 (Nat.succ_ne_self _) (new_last w6 (.cells CPU.zero.a 27) (.cells (trA (.slice none 0 0) .zero) 42))) 0 5 (by decide)) info_tr (by simp [trA, Value.oneCell']) ?_))
 obtain ⟨W7, hW7, g9, g10, hb7⟩ := two_boxes w6 c9 (.slice A9 1 cc9) ⟨[7], true, 7, 3, 0⟩
 have HB7 := aq (below_step HB6.out hb7)
 have HO7 := aq (own_move HO6.out (fun k hk => hb7.block k (own_lt HO6.out k hk)))
 have HG9 := aq g9
 have HG10 := aq g10
 have HW7 := aq hW7
 clear hW7 g9 g10 hb7 HB6 HO6
 change Code.wp _ _ _ _ ((((w6.alloc (.cells CPU.zero.a 27)).alloc (.cells (trA (.slice none 0 0) .zero) 42)).setCells w6.heap.size 0 c9.l).setCells (w6.heap.size + 1) 0 (trA (.slice A9 1 cc9) ⟨[7], true, 7, 3, 0⟩).toList)
 rw [← HW7.out]
 clear HW7
 generalize w6.heap.size = N at *
 have HRB := aq (run_bad (-1) exC M W7 (.inl (by decide)))
 go_upto_region 7 with (first | (go_at_call 23; refine (HRB.out).mono ?_; rintro e w8 ⟨rfl, hb⟩; have HB8 := aq (below_step HB7.out hb); have HO8 := aq (own_move HO7.out (fun k hk => hb.block k (own_lt HO7.out k hk))); have H9 := aq (blk_below HG9.out hb); have H10 := aq (blk_below HG10.out hb); clear hb) | ((with_reducible refine gate_store (t := 27) (p := 11) (v := .tmp 49) rfl ?_); refine wpList_store_mid rfl 27 (.tmp 11) (.tmp 49) rfl w8.heap.size 0 exC.a rfl rfl (there_blk (blk_alloc (blk_new w8 (.cells CPU.zero.a 27)) _) 0 37 (by decide)) info_cpu exC.one ?_) | ((with_reducible refine gate_store (t := 42) (p := 12) (v := .tmp 50) rfl ?_); refine wpList_store_mid rfl 42 (.tmp 12) (.tmp 50) rfl (w8.heap.size + 1) 0 (trA (.slice none 0 0) badT) rfl rfl (there_blk (blk_sets_far exC.l 0 (Nat.succ_ne_self _) (new_last w8 (.cells CPU.zero.a 27) (.cells (trA (.slice none 0 0) .zero) 42))) 0 5 (by decide)) info_tr (by simp [trA, Value.oneCell']) ?_))
 obtain ⟨W9, hW9, g11, g12, hb9⟩ := two_boxes w8 exC (.slice none 0 0) badT
 have HB9 := aq (below_step HB8.out hb9)
 have HO9 := aq (own_move HO8.out (fun k hk => hb9.block k (own_lt HO8.out k hk)))
 have K9 := aq (blk_below H9.out hb9)
 have K10 := aq (blk_below H10.out hb9)
 have K12 := aq g12
 have HW9 := aq hW9
 clear hW9 g11 g12 hb9 HB8 HO8 H9 H10
 change Code.wp _ _ _ _ ((((w8.alloc (.cells CPU.zero.a 27)).alloc (.cells (trA (.slice none 0 0) .zero) 42)).setCells w8.heap.size 0 exC.l).setCells (w8.heap.size + 1) 0 (trA (.slice none 0 0) badT).toList)
 rw [← HW9.out]
 clear HW9
 generalize w8.heap.size = N2 at *
 have c0 : W9.cell? ⟨N + 1, 0, none⟩ = some (.slice A9 1 cc9) := (blk_cell K10.out 0).trans rfl
 have c1 : W9.cell? ⟨N + 1, 1, none⟩ = some (.bool true) := (blk_cell K10.out 1).trans rfl
 have c2 : W9.cell? ⟨N + 1, 2, none⟩ = some (.int .u64 7) := (blk_cell K10.out 2).trans rfl
 have c3 : W9.cell? ⟨N + 1, 3, none⟩ = some (.int .i64 3) := (blk_cell K10.out 3).trans rfl
 have c4 : W9.cell? ⟨N + 1, 4, none⟩ = some (.int .i64 0) := (blk_cell K10.out 4).trans rfl
 have HLIT := aq (own_lit W9 0 22 .u64 [7] (Nat.zero_le _) (by decide))
 have HSAME := aq (fun (W : World) (hw : W = W9.alloc (.cells (nums .u64 [7]).toArray 22)) => same_calls A9 (some ⟨W9.heap.size, 0, none⟩) cc9 1 ⟨[7], true, 7, 3, 0⟩ W (by subst hw; exact (own_kd (own_move HO9.out (fun k hk => Below.heap_alloc W9 _ k (own_lt HO9.out k hk)))).1) (own_kd HO9.out).2 (by subst hw; exact (own_kd HLIT.out).1) (by decide) (by decide))
 have HPC := aq hpc
 have HX0 := aq hx0
 clear hpc hx0
 go_wp2_with (go_at_call 24; refine (HSAME.out _ rfl).mono ?_; rintro e w10 ⟨rfl, hb⟩; have HB10 := aq (below_step (below_alloc HB9.out _) hb); have gb := below_step (below_alloc (Below.refl W9.heap.size W9) _) hb; have x9 := blk_below K9.out gb; have x12 := blk_below K12.out gb; have e9 : w10.cell? ⟨N, 32, none⟩ = some (.int .u64 76) := (blk_cell x9 32).trans (by rw [← HPC.out]; rfl); have e0 : w10.cell? ⟨N, 0, none⟩ = some (.int .u64 7) := (blk_cell x9 0).trans (by rw [← HX0.out]; rfl); have e4 : w10.cell? ⟨N2 + 1, 4, none⟩ = some (.int .i64 1) := (blk_cell x12 4).trans rfl; clear hb gb x9 x12)
 go_ret
 exact ⟨rfl, HB10.out⟩
structure RB (w : World) (base N : Nat) (c : CPU) (A : Option Addr) (ca : Nat) (t : TR) : Prop where
 b0 : w.heap[N]? = some (.cells c.a 27 (0, 0))
 b1 : w.heap[N + 1]? = some (.cells (trA (.slice A t.told.length ca) t) 42 (0, 0))
 row : w.ownsRow base 22 1 (.slice A t.told.length ca) t.told.length (nums .u64 t.told)
 low : base ≤ N
theorem RB.below {w w' : World} {base N : Nat} {c : CPU} {A : Option Addr} {ca : Nat} {t : TR} (h : RB w base N c A ca t) (hb : Below w.heap.size w w') : RB w' base N c A ca t :=
 ⟨blk_below h.b0 hb, blk_below h.b1 hb, own_move h.row (fun k hk => hb.block k (own_lt h.row k hk)), h.low⟩
theorem RB.stored {w w' : World} {base N lo hi : Nat} {c : CPU} {A : Option Addr} {ca : Nat} {t : TR} (h : RB w base N c A ca t) (hs : StoredIn w w' lo hi) (hb : hi ≤ base) : RB w' base N c A ca t :=
 ⟨hs.block N _ h.b0 (.inl (by have := h.low; omega)), hs.block (N + 1) _ h.b1 (.inl (by have := h.low; omega)), own_move h.row (fun k hk => by
  have h1 := own_base h.row k hk
  obtain ⟨o, ho⟩ : ∃ o, w.heap[k]? = some o := ⟨_, Array.getElem?_eq_getElem (own_lt h.row k hk)⟩
  rw [ho]; exact hs.block k o ho (.inl (by omega))), h.low⟩
theorem RB.new (w : World) (base : Nat) (c : CPU) (A : Option Addr) (ca : Nat) (t : TR) (hr : w.ownsRow base 22 1 (.slice A t.told.length ca) t.told.length (nums .u64 t.told)) (hb : base ≤ w.heap.size) :
  ∃ W, W = (((w.alloc (.cells CPU.zero.a 27)).alloc (.cells (trA (.slice none 0 0) .zero) 42)).setCells w.heap.size 0 c.l).setCells (w.heap.size + 1) 0 (trA (.slice A t.told.length ca) t).toList ∧ RB W base w.heap.size c A ca t ∧ Below w.heap.size w W := by
 obtain ⟨W, hW, g1, g2, hbw⟩ := two_boxes w c (.slice A t.told.length ca) t
 exact ⟨W, hW, ⟨g1, g2, own_move hr (fun k hk => hbw.block k (own_lt hr k hk)), hb⟩, hbw⟩
theorem ld_bool (M j : Nat) (v : Bool) (w : World) (h : w.cell? ⟨M, j, none⟩ = some (.bool v)) : Sem.run Tryz.prog (Instr.loadAt 4 (.pointer (some ⟨M, j, none⟩))) w = .ok (.bool v) w := by go_simp
theorem ld_err (M j : Nat) (v : Int) (w : World) (h : w.cell? ⟨M, j, none⟩ = some (.int .i64 v)) : Sem.run Tryz.prog (Instr.loadAt 28 (.pointer (some ⟨M, j, none⟩))) w = .ok (.int .i64 v) w := by go_simp
theorem ld_row (M j : Nat) (A : Option Addr) (n c : Nat) (w : World) (h : w.cell? ⟨M, j, none⟩ = some (.slice A n c)) : Sem.run Tryz.prog (Instr.loadAt 40 (.pointer (some ⟨M, j, none⟩))) w = .ok (.slice A n c) w := by go_simp
theorem RB.c {w : World} {base N : Nat} {c : CPU} {A : Option Addr} {ca : Nat} {t : TR} (h : RB w base N c A ca t) :
  Sem.run Tryz.prog (Instr.loadAt 40 (.pointer (some ⟨N + 1, 0, none⟩))) w = .ok (.slice A t.told.length ca) w ∧ Sem.run Tryz.prog (Instr.loadAt 4 (.pointer (some ⟨N + 1, 1, none⟩))) w = .ok (.bool t.halted) w ∧ Sem.run Tryz.prog (Instr.loadAt 22 (.pointer (some ⟨N + 1, 2, none⟩))) w = .ok (.int .u64 t.code) w ∧ Sem.run Tryz.prog (Instr.loadAt 3 (.pointer (some ⟨N + 1, 3, none⟩))) w = .ok (.int .i64 t.steps) w ∧ Sem.run Tryz.prog (Instr.loadAt 28 (.pointer (some ⟨N + 1, 4, none⟩))) w = .ok (.int .i64 t.e) w :=
 ⟨ld_row _ _ _ _ _ w ((blk_cell h.b1 0).trans rfl), ld_bool _ _ _ w ((blk_cell h.b1 1).trans rfl), load_u64 _ _ _ w ((blk_cell h.b1 2).trans rfl), load_int _ _ _ w ((blk_cell h.b1 3).trans rfl), ld_err _ _ _ w ((blk_cell h.b1 4).trans rfl)⟩
end Go.Proofs.YtblnfngigdipcaaGreatDoor.ST
