/- Written for this claim by a program of this session: what the claim uses of lemmas and proved contracts of Go functions. -/
import Derived.Test.YtblnfngigdipcaaGreatDoorYSt9
import Derived.Shelf.SlSortCmp.NoneTotal
import Derived.Shelf.SlSortCmp.WholeK
import Derived.Shelf.SlGeneric
import Derived.Ground.SlsfProg
import Derived.Shelf.Strings.Builder1
import Derived.Shelf.Strings.Builder2
import Derived.Shelf.Small.Bits
import Derived.Shelf.Small.Wraps
import Derived.Shelf.Strconv.Itoa0
import Derived.Shelf.Strconv.Itoa1
import Derived.Shelf.LaysM
import Derived.Shelf.Strconv.Itoa2
import Derived.Shelf.Strconv.Itoa3
import Derived.Shelf.Sort.Plain
import Derived.Shelf.Strings.Prefix
import Derived.Shelf.Bits.Mul64
import Derived.Shelf.Slices.Turned
import Derived.Ground.Names2Prog
import Derived.Shelf.Slices.CompactI
import Derived.Shelf.Slices.SearchI
import Derived.Shelf.Slices.Cells
import Derived.Shelf.Slices.In.SortNone
namespace Go.Proofs
open Go.Shelf
def Tryz.sortP_ren : Go.Shelf.Ren := ⟨fun | 6 => 71 | 15 => 141 | 14 => 140 | 28 => 218 | 29 => 219 | 20 => 210 | 21 => 211 | 22 => 212 | 23 => 213 | 24 => 214 | 25 => 215 | 26 => 216 | 27 => 217 | 46 => 292 | 47 => 293 | 48 => 294 | 49 => 295 | 50 => 296 | 57 => 346 | n => n, fun | 22 => 110 | 24 => 116 | 25 => 119 | 3 => 3 | 39 => 221 | 0 => 0 | 53 => 47 | 55 => 22 | 4 => 4 | 46 => 270 | 45 => 269 | 50 => 62 | 5 => 5 | 9 => 9 | 66 => 317 | 70 => 320 | 76 => 347 | 77 => 348 | n => n, fun | n => n⟩
theorem Tryz.sortP : Go.Proofs.SlLaysF0.n6 Tryz.prog Tryz.sortP_ren := {
  mixed := by kernel_rfl
  f6 := ⟨Tryz.f71.name, by decide, Tryz.func71.trans (congrArg some (by kernel_rfl))⟩
  f14 := ⟨Tryz.f140.name, by decide, Tryz.func140.trans (congrArg some (by kernel_rfl))⟩
  f15 := Tryz.func141.trans (congrArg some (by kernel_rfl))
  f20 := ⟨Tryz.f210.name, by decide, Tryz.func210.trans (congrArg some (by kernel_rfl))⟩
  f21 := ⟨Tryz.f211.name, by decide, Tryz.func211.trans (congrArg some (by kernel_rfl))⟩
  f22 := ⟨Tryz.f212.name, by decide, Tryz.func212.trans (congrArg some (by kernel_rfl))⟩
  f23 := ⟨Tryz.f213.name, by decide, Tryz.func213.trans (congrArg some (by kernel_rfl))⟩
  f24 := ⟨Tryz.f214.name, by decide, Tryz.func214.trans (congrArg some (by kernel_rfl))⟩
  f25 := ⟨Tryz.f215.name, by decide, Tryz.func215.trans (congrArg some (by kernel_rfl))⟩
  f26 := ⟨Tryz.f216.name, by decide, Tryz.func216.trans (congrArg some (by kernel_rfl))⟩
  f27 := ⟨Tryz.f217.name, by decide, Tryz.func217.trans (congrArg some (by kernel_rfl))⟩
  f28 := Tryz.func218.trans (congrArg some (by kernel_rfl))
  f29 := Tryz.func219.trans (congrArg some (by kernel_rfl))
  f46 := ⟨Tryz.f292.name, by decide, Tryz.func292.trans (congrArg some (by kernel_rfl))⟩
  f47 := Tryz.func293.trans (congrArg some (by kernel_rfl))
  f48 := Tryz.func294.trans (congrArg some (by kernel_rfl))
  f49 := ⟨Tryz.f295.name, by decide, Tryz.func295.trans (congrArg some (by kernel_rfl))⟩
  f50 := ⟨Tryz.f296.name, by decide, Tryz.func296.trans (congrArg some (by kernel_rfl))⟩
  f57 := ⟨Tryz.f346.name, by decide, Tryz.func346.trans (congrArg some (by kernel_rfl))⟩
  t0 := Tryz.underlying0
  a0 := Tryz.isAgg0
  z0 := Tryz.sizeOf0
  v0 := Tryz.zeroValue0
  t3 := Tryz.underlying3
  a3 := Tryz.isAgg3
  z3 := Tryz.sizeOf3
  v3 := Tryz.zeroValue3
  t4 := Tryz.underlying4
  a4 := Tryz.isAgg4
  z4 := Tryz.sizeOf4
  v4 := Tryz.zeroValue4
  t5 := Tryz.underlying5
  a5 := Tryz.isAgg5
  z5 := Tryz.sizeOf5
  v5 := Tryz.zeroValue5
  t9 := Tryz.underlying9
  a9 := Tryz.isAgg9
  z9 := Tryz.sizeOf9
  v9 := Tryz.zeroValue9
  t22 := Tryz.underlying110
  a22 := Tryz.isAgg110
  z22 := Tryz.sizeOf110
  v22 := Tryz.zeroValue110
  t25 := Tryz.underlying119
  a25 := Tryz.isAgg119
  z25 := Tryz.sizeOf119
  v25 := Tryz.zeroValue119
  t39 := Tryz.underlying221
  a39 := Tryz.isAgg221
  z39 := Tryz.sizeOf221
  v39 := Tryz.zeroValue221
  t45 := Tryz.underlying269
  a45 := Tryz.isAgg269
  z45 := Tryz.sizeOf269
  v45 := Tryz.zeroValue269
  t46 := Tryz.underlying270
  a46 := Tryz.isAgg270
  z46 := Tryz.sizeOf270
  v46 := Tryz.zeroValue270
  t50 := Tryz.underlying62
  a50 := Tryz.isAgg62
  z50 := Tryz.sizeOf62
  v50 := Tryz.zeroValue62
  t53 := Tryz.underlying47
  a53 := Tryz.isAgg47
  z53 := Tryz.sizeOf47
  v53 := Tryz.zeroValue47
  t55 := Tryz.underlying22
  a55 := Tryz.isAgg22
  z55 := Tryz.sizeOf22
  v55 := Tryz.zeroValue22
  t66 := Tryz.underlying317
  a66 := Tryz.isAgg317
  z66 := Tryz.sizeOf317
  v66 := Tryz.zeroValue317
  t70 := Tryz.underlying320
  a70 := Tryz.isAgg320
  z70 := Tryz.sizeOf320
  v70 := Tryz.zeroValue320
  t76 := Tryz.underlying347
  a76 := Tryz.isAgg347
  z76 := Tryz.sizeOf347
  v76 := Tryz.zeroValue347
  t77 := Tryz.underlying348
  a77 := Tryz.isAgg348
  z77 := Tryz.sizeOf348
  v77 := Tryz.zeroValue348 }
def Tryz.lays128_ren : Go.Shelf.Ren := ⟨fun | 128 => 218 | n => n, fun | 51 => 47 | 3 => 3 | 4 => 4 | 46 => 221 | 5 => 5 | 9 => 9 | n => n, fun | n => n⟩
theorem Tryz.lays128 : Go.Proofs.Lays.n128 Tryz.prog Tryz.lays128_ren := {
  mixed := by kernel_rfl
  f128 := Tryz.func218.trans (congrArg some (by kernel_rfl))
  t3 := Tryz.underlying3
  a3 := Tryz.isAgg3
  z3 := Tryz.sizeOf3
  v3 := Tryz.zeroValue3
  t4 := Tryz.underlying4
  a4 := Tryz.isAgg4
  z4 := Tryz.sizeOf4
  v4 := Tryz.zeroValue4
  t5 := Tryz.underlying5
  a5 := Tryz.isAgg5
  z5 := Tryz.sizeOf5
  v5 := Tryz.zeroValue5
  t9 := Tryz.underlying9
  a9 := Tryz.isAgg9
  z9 := Tryz.sizeOf9
  v9 := Tryz.zeroValue9
  t46 := Tryz.underlying221
  a46 := Tryz.isAgg221
  z46 := Tryz.sizeOf221
  v46 := Tryz.zeroValue221
  t51 := Tryz.underlying47
  a51 := Tryz.isAgg47
  z51 := Tryz.sizeOf47
  v51 := Tryz.zeroValue47 }
theorem Tryz.bits_Len32 (x : Int) (w : World) (h0 : 0 ≤ x) (h1 : x ≤ 4294967295) :
    Calls Tryz.prog 218 #[.int .u32 x] w fun e w' => e = .returned (.int .i64 (Lib.bitLen x.toNat)) ∧ w' = w := Any.bits_Len32 Tryz.lays128 x w h0 h1
def Tryz.lays125_ren : Go.Shelf.Ren := ⟨fun | 125 => 141 | 128 => 218 | 129 => 219 | n => n, fun | 46 => 221 | 3 => 3 | 51 => 47 | 53 => 22 | 4 => 4 | 5 => 5 | 9 => 9 | n => n, fun | n => n⟩
theorem Tryz.lays125 : Go.Proofs.Lays.n125 Tryz.prog Tryz.lays125_ren := {
  mixed := by kernel_rfl
  f125 := Tryz.func141.trans (congrArg some (by kernel_rfl))
  f128 := Tryz.func218.trans (congrArg some (by kernel_rfl))
  f129 := Tryz.func219.trans (congrArg some (by kernel_rfl))
  t3 := Tryz.underlying3
  a3 := Tryz.isAgg3
  z3 := Tryz.sizeOf3
  v3 := Tryz.zeroValue3
  t4 := Tryz.underlying4
  a4 := Tryz.isAgg4
  z4 := Tryz.sizeOf4
  v4 := Tryz.zeroValue4
  t5 := Tryz.underlying5
  a5 := Tryz.isAgg5
  z5 := Tryz.sizeOf5
  v5 := Tryz.zeroValue5
  t9 := Tryz.underlying9
  a9 := Tryz.isAgg9
  z9 := Tryz.sizeOf9
  v9 := Tryz.zeroValue9
  t46 := Tryz.underlying221
  a46 := Tryz.isAgg221
  z46 := Tryz.sizeOf221
  v46 := Tryz.zeroValue221
  t51 := Tryz.underlying47
  a51 := Tryz.isAgg47
  z51 := Tryz.sizeOf47
  v51 := Tryz.zeroValue47
  t53 := Tryz.underlying22
  a53 := Tryz.isAgg22
  z53 := Tryz.sizeOf22
  v53 := Tryz.zeroValue22 }
theorem Tryz.bits_Len (x : Int) (w : World) (h0 : 0 ≤ x) (h1 : x ≤ 18446744073709551615) :
    Calls Tryz.prog 141 #[.int .u64 x] w fun e w' => e = .returned (.int .i64 (Lib.bitLen x.toNat)) ∧ w' = w := Any.bits_Len Tryz.lays125 x w h0 h1
def Tryz.lays134_ren : Go.Shelf.Ren := ⟨fun | 134 => 300 | 129 => 219 | n => n, fun | 53 => 22 | 3 => 3 | 4 => 4 | 46 => 221 | 5 => 5 | 9 => 9 | n => n, fun | n => n⟩
theorem Tryz.lays134 : Go.Proofs.Lays.n134 Tryz.prog Tryz.lays134_ren := {
  mixed := by kernel_rfl
  f129 := Tryz.func219.trans (congrArg some (by kernel_rfl))
  f134 := Tryz.func300.trans (congrArg some (by kernel_rfl))
  t3 := Tryz.underlying3
  a3 := Tryz.isAgg3
  z3 := Tryz.sizeOf3
  v3 := Tryz.zeroValue3
  t4 := Tryz.underlying4
  a4 := Tryz.isAgg4
  z4 := Tryz.sizeOf4
  v4 := Tryz.zeroValue4
  t5 := Tryz.underlying5
  a5 := Tryz.isAgg5
  z5 := Tryz.sizeOf5
  v5 := Tryz.zeroValue5
  t9 := Tryz.underlying9
  a9 := Tryz.isAgg9
  z9 := Tryz.sizeOf9
  v9 := Tryz.zeroValue9
  t46 := Tryz.underlying221
  a46 := Tryz.isAgg221
  z46 := Tryz.sizeOf221
  v46 := Tryz.zeroValue221
  t53 := Tryz.underlying22
  a53 := Tryz.isAgg22
  z53 := Tryz.sizeOf22
  v53 := Tryz.zeroValue22 }
theorem Tryz.bits_LeadingZeros64 (x : Int) (w : World) (h0 : 0 ≤ x) (h1 : x ≤ 18446744073709551615) :
    Calls Tryz.prog 300 #[.int .u64 x] w fun e w' => e = .returned (.int .i64 (64 - (Lib.bitLen x.toNat : Int))) ∧ w' = w := Any.bits_LeadingZeros64 Tryz.lays134 x w h0 h1
def Tryz.lays215_ren : Go.Shelf.Ren := ⟨fun | 215 => 324 | n => n, fun | 3 => 3 | 4 => 4 | n => n, fun | n => n⟩
theorem Tryz.lays215 : Go.Proofs.Lays.n215 Tryz.prog Tryz.lays215_ren := {
  mixed := by kernel_rfl
  f215 := Tryz.func324.trans (congrArg some (by kernel_rfl))
  t3 := Tryz.underlying3
  a3 := Tryz.isAgg3
  z3 := Tryz.sizeOf3
  v3 := Tryz.zeroValue3
  t4 := Tryz.underlying4
  a4 := Tryz.isAgg4
  z4 := Tryz.sizeOf4
  v4 := Tryz.zeroValue4 }
open Go.RowKit in
theorem Tryz.cmp_isNaN_int (x : Int) (w : World) :
    Calls Tryz.prog 324 #[.int .i64 x] w fun e w' => e = .returned (.bool false) ∧ w' = w := Any.cmp_isNaN_int Tryz.lays215 x w
def Tryz.lays129_ren : Go.Shelf.Ren := ⟨fun | 129 => 219 | n => n, fun | 53 => 22 | 3 => 3 | 4 => 4 | 46 => 221 | 5 => 5 | 9 => 9 | n => n, fun | n => n⟩
theorem Tryz.lays129 : Go.Proofs.Lays.n129 Tryz.prog Tryz.lays129_ren := {
  mixed := by kernel_rfl
  f129 := Tryz.func219.trans (congrArg some (by kernel_rfl))
  t3 := Tryz.underlying3
  a3 := Tryz.isAgg3
  z3 := Tryz.sizeOf3
  v3 := Tryz.zeroValue3
  t4 := Tryz.underlying4
  a4 := Tryz.isAgg4
  z4 := Tryz.sizeOf4
  v4 := Tryz.zeroValue4
  t5 := Tryz.underlying5
  a5 := Tryz.isAgg5
  z5 := Tryz.sizeOf5
  v5 := Tryz.zeroValue5
  t9 := Tryz.underlying9
  a9 := Tryz.isAgg9
  z9 := Tryz.sizeOf9
  v9 := Tryz.zeroValue9
  t46 := Tryz.underlying221
  a46 := Tryz.isAgg221
  z46 := Tryz.sizeOf221
  v46 := Tryz.zeroValue221
  t53 := Tryz.underlying22
  a53 := Tryz.isAgg22
  z53 := Tryz.sizeOf22
  v53 := Tryz.zeroValue22 }
theorem Tryz.bits_Len64 (x : Int) (w : World) (h0 : 0 ≤ x) (h1 : x ≤ 18446744073709551615) :
    Calls Tryz.prog 219 #[.int .u64 x] w fun e w' => e = .returned (.int .i64 (Lib.bitLen x.toNat)) ∧ w' = w := Any.bits_Len64 Tryz.lays129 x w h0 h1
end Go.Proofs
namespace Go.Proofs.YtblnfngigdipcaaGreatDoor.P
open Go.RowKit Go.Proofs.YtblnfngigdipcaaGreatDoorW.PrintWords Go.Proofs.YtblnfngigdipcaaGreatDoorW.PrintLast Go.Proofs.YtblnfngigdipcaaGreatDoorW.PrintMore
attribute [local go_sem] max2_int min2_int max_two min_two max_three min_three max_four min_four
set_option linter.unusedVariables false
set_option linter.unusedSimpArgs false
mutual
def cleatref07_Big.l0 : Nat → List (S61) → Int → Option (Bool)
 | 0, _, _ => none
 | k + 1, x0, x3 => if x3 < (x0.length : Int) then (cleatref07_Big.j1 k x0 x3 (decide ((x0.length : Int) ≤ 20))) else (cleatref07_Big.j1 k x0 x3 false)
def cleatref07_Big.j1 : Nat → List (S61) → Int → Bool → Option (Bool)
 | 0, _, _, _ => none
 | k + 1, x0, x3, x12 => if x12 = true then (if 0 ≤ x3 then (if x3 < (x0.length : Int) then (if (((rd_T61 x0 x3).f2).size : Int) > 600 then (if (((rd_T61 x0 x3).f2).size : Int) ≤ 65536 then (some true) else (if (((rd_T61 x0 x3).f2).size : Int) > 70000 then (some true) else (cleatref07_Big.l0 k x0 (wrap64 (x3 + 1))))) else (if (((rd_T61 x0 x3).f2).size : Int) > 70000 then (some true) else (cleatref07_Big.l0 k x0 (wrap64 (x3 + 1))))) else (none)) else (none)) else (some (decide ((x0.length : Int) > 20)))
end
def cleatref07_Big.f (k : Nat) (l0 : List (S61)) : Option (Bool) := cleatref07_Big.l0 k l0 0
set_option maxHeartbeats 8000000 in
set_option maxRecDepth 100000 in
theorem cleatref07_Big.calls (k : Nat) (A0 : Option Addr) (c0 : Nat) (l0 : List (S61)) (r : Bool) (w : World) (hr0 : Kd.C k61 w A0 l0.length l0) (hc0 : l0.length ≤ c0) (h : cleatref07_Big.f k l0 = some r) :
    Calls Tryz.prog 21 #[.slice A0 l0.length c0] w fun e w' => e = .returned (.bool r) ∧ Drawn0 w w' := by
 have HR0 := aq hr0
 have HC0 := aq hc0
 clear hr0 hc0
 have H : (cleatref07_Big.l0 k l0 0) = some r := h
 clear h
 have H' := aq H
 clear H
 go_enter Tryz.func21, Tryz.ntmps21
 go_wp2
 go_loopg [3] k (fun kq v3 w' => ∃ (x3_1 : Int), v3 = .int .i64 x3_1 ∧ Aside0 (cleatref07_Big.l0 kq l0 x3_1 = some r) ∧ Aside0 (kq ≤ k) ∧ Drawn0 w w')
 case atStart => exact ⟨(0), (by first | rfl | (simp; done) | (simp [*]; done)), H', ⟨Nat.le_refl _⟩, by repeat (first | exact Drawn0.refl _ | apply Drawn0.step)⟩
 case round =>
  clear H'
  obtain ⟨x3_1, rfl, HA, HK1, ⟨m1, rfl⟩⟩ := hrel
  cases gk with
  | zero => exact absurd HA.out (by simp [cleatref07_Big.l0])
  | succ k1 =>
   have H := HA.out
   clear HA
   simp only [cleatref07_Big.l0] at H
   have HC2 := aq H
   clear H
   go_upto_region 2 with (fail)
   go_cut [12] (fun v12 wc => ∃ (kq : Nat) (x12_1 : Bool), v12 = .bool x12_1 ∧ Aside0 (cleatref07_Big.j1 kq l0 x3_1 x12_1 = some r) ∧ Aside0 (kq ≤ k1) ∧ Drawn0 w wc)
   case first =>
    have H := HC2.out
    clear HC2
    (try (rw [drewN_self w]; have n0_ := fun n_ => pw_below_drewN HB.out n_; clear HB; generalize hq_ : World.drewN w _ = w; have HB := aq (hq_ ▸ n0_ _); clear hq_ n0_))
    by_cases c3 : x3_1 < (l0.length : Int)
    ·
     rw [if_pos c3] at H
     have c3b0 : decide (x3_1 < (l0.length : Int)) = true := decide_eq_true c3
     clear c3
     (first | rw [c3b0] | (simp only [i64_w, i32_w]; rw [c3b0]) | skip)
     have H' := aq H
     clear H
     go_wp2
     go_meet
     case rel => exact ⟨_, (decide ((l0.length : Int) ≤ 20)), (by first | rfl | (simp; done) | (simp [*]; done)), H', ⟨by have := HK1.out; first | omega | exact Nat.le_refl _⟩, by repeat (first | exact Drawn0.refl _ | apply Drawn0.step)⟩
    ·
     rw [if_neg c3] at H
     have c3b0 : decide (x3_1 < (l0.length : Int)) = false := decide_eq_false c3
     clear c3
     (first | rw [c3b0] | (simp only [i64_w, i32_w]; rw [c3b0]) | skip)
     have H' := aq H
     clear H
     go_wp2
     go_meet
     case rel => exact ⟨_, (false), (by first | rfl | (simp; done) | (simp [*]; done)), H', ⟨by have := HK1.out; first | omega | exact Nat.le_refl _⟩, by repeat (first | exact Drawn0.refl _ | apply Drawn0.step)⟩
   case rest =>
    clear HC2
    try clear c2
    try clear p2
    try clear c3
    try clear c3b0
    obtain ⟨kq, x12_1, rfl, HA, HJ1, ⟨mc1, rfl⟩⟩ := hcut
    cases kq with
    | zero => exact absurd HA.out (by simp [cleatref07_Big.j1])
    | succ kj1 =>
     have H := HA.out
     clear HA
     simp only [cleatref07_Big.j1] at H
     by_cases c4 : x12_1 = true
     ·
      subst c4
      have H1 : (if 0 ≤ x3_1 then (if x3_1 < (l0.length : Int) then (if (((rd_T61 l0 x3_1).f2).size : Int) > 600 then (if (((rd_T61 l0 x3_1).f2).size : Int) ≤ 65536 then (some true) else (if (((rd_T61 l0 x3_1).f2).size : Int) > 70000 then (some true) else (cleatref07_Big.l0 kj1 l0 (wrap64 (x3_1 + 1))))) else (if (((rd_T61 l0 x3_1).f2).size : Int) > 70000 then (some true) else (cleatref07_Big.l0 kj1 l0 (wrap64 (x3_1 + 1))))) else (none)) else (none)) = some r := by rw [if_pos rfl] at H; exact H
      clear H
      have H := H1
      clear H1
      by_cases c5 : 0 ≤ x3_1
      ·
       rw [if_pos c5] at H
       have c5b0 : decide (0 ≤ x3_1) = true := decide_eq_true c5
       clear c5
       by_cases c6 : x3_1 < (l0.length : Int)
       ·
        rw [if_pos c6] at H
        have c6b0 : decide (x3_1 < (l0.length : Int)) = true := decide_eq_true c6
        clear c6
        by_cases c7 : (((rd_T61 l0 x3_1).f2).size : Int) > 600
        ·
         rw [if_pos c7] at H
         have c7b0 : decide (600 < (((rd_T61 l0 x3_1).f2).size : Int)) = true := decide_eq_true c7
         have c7b1 : decide (600 < ((rd_T61 l0 x3_1).f2).size) = true := decide_eq_true (by omega)
         clear c7
         by_cases c8 : (((rd_T61 l0 x3_1).f2).size : Int) ≤ 65536
         ·
          rw [if_pos c8] at H
          have c8b0 : decide ((((rd_T61 l0 x3_1).f2).size : Int) ≤ 65536) = true := decide_eq_true c8
          have c8b1 : decide (((rd_T61 l0 x3_1).f2).size ≤ 65536) = true := decide_eq_true (by omega)
          clear c8
          obtain rfl := Option.some.inj H
          have p221 : 0 ≤ (x3_1 : Int) := of_decide_eq_true (by first | (with_reducible assumption) | assumption)
          have q221 : x3_1 < (l0.length : Int) := of_decide_eq_true (by first | (with_reducible assumption) | assumption)
          obtain ⟨ad221, e221, hx221_0, hx221_1, hx221_2⟩ := at_T61 HR0.out x3_1 p221 q221
          cases e221
          replace p221 := eq_true p221
          replace q221 := eq_true q221
          have p222 : 0 ≤ (x3_1 : Int) := of_decide_eq_true (by first | (with_reducible assumption) | assumption)
          have q222 : x3_1 < (l0.length : Int) := of_decide_eq_true (by first | (with_reducible assumption) | assumption)
          obtain ⟨ad222, e222, hx222_0, hx222_1, hx222_2⟩ := at_T61 HR0.out x3_1 p222 q222
          obtain rfl : ad221 = ad222 := (by injection e222)
          replace p222 := eq_true p222
          replace q222 := eq_true q222
          go_wp2
          go_ret
          exact ⟨by first | rfl | (simp; done) | (simp [*]; done), by repeat (first | exact Drawn0.refl _ | apply Drawn0.step)⟩
         ·
          rw [if_neg c8] at H
          have c8b0 : decide ((((rd_T61 l0 x3_1).f2).size : Int) ≤ 65536) = false := decide_eq_false c8
          have c8b1 : decide (((rd_T61 l0 x3_1).f2).size ≤ 65536) = false := decide_eq_false (by omega)
          clear c8
          by_cases c9 : (((rd_T61 l0 x3_1).f2).size : Int) > 70000
          ·
           rw [if_pos c9] at H
           have c9b0 : decide (70000 < (((rd_T61 l0 x3_1).f2).size : Int)) = true := decide_eq_true c9
           have c9b1 : decide (70000 < ((rd_T61 l0 x3_1).f2).size) = true := decide_eq_true (by omega)
           clear c9
           obtain rfl := Option.some.inj H
           have p221 : 0 ≤ (x3_1 : Int) := of_decide_eq_true (by first | (with_reducible assumption) | assumption)
           have q221 : x3_1 < (l0.length : Int) := of_decide_eq_true (by first | (with_reducible assumption) | assumption)
           obtain ⟨ad221, e221, hx221_0, hx221_1, hx221_2⟩ := at_T61 HR0.out x3_1 p221 q221
           cases e221
           replace p221 := eq_true p221
           replace q221 := eq_true q221
           have p222 : 0 ≤ (x3_1 : Int) := of_decide_eq_true (by first | (with_reducible assumption) | assumption)
           have q222 : x3_1 < (l0.length : Int) := of_decide_eq_true (by first | (with_reducible assumption) | assumption)
           obtain ⟨ad222, e222, hx222_0, hx222_1, hx222_2⟩ := at_T61 HR0.out x3_1 p222 q222
           obtain rfl : ad221 = ad222 := (by injection e222)
           replace p222 := eq_true p222
           replace q222 := eq_true q222
           have p223 : 0 ≤ (x3_1 : Int) := of_decide_eq_true (by first | (with_reducible assumption) | assumption)
           have q223 : x3_1 < (l0.length : Int) := of_decide_eq_true (by first | (with_reducible assumption) | assumption)
           obtain ⟨ad223, e223, hx223_0, hx223_1, hx223_2⟩ := at_T61 HR0.out x3_1 p223 q223
           obtain rfl : ad221 = ad223 := (by injection e223)
           replace p223 := eq_true p223
           replace q223 := eq_true q223
           go_wp2
           go_ret
           exact ⟨by first | rfl | (simp; done) | (simp [*]; done), by repeat (first | exact Drawn0.refl _ | apply Drawn0.step)⟩
          ·
           rw [if_neg c9] at H
           have c9b0 : decide (70000 < (((rd_T61 l0 x3_1).f2).size : Int)) = false := decide_eq_false c9
           have c9b1 : decide (70000 < ((rd_T61 l0 x3_1).f2).size) = false := decide_eq_false (by omega)
           clear c9
           have H' := aq H
           clear H
           have p221 : 0 ≤ (x3_1 : Int) := of_decide_eq_true (by first | (with_reducible assumption) | assumption)
           have q221 : x3_1 < (l0.length : Int) := of_decide_eq_true (by first | (with_reducible assumption) | assumption)
           obtain ⟨ad221, e221, hx221_0, hx221_1, hx221_2⟩ := at_T61 HR0.out x3_1 p221 q221
           cases e221
           replace p221 := eq_true p221
           replace q221 := eq_true q221
           have p222 : 0 ≤ (x3_1 : Int) := of_decide_eq_true (by first | (with_reducible assumption) | assumption)
           have q222 : x3_1 < (l0.length : Int) := of_decide_eq_true (by first | (with_reducible assumption) | assumption)
           obtain ⟨ad222, e222, hx222_0, hx222_1, hx222_2⟩ := at_T61 HR0.out x3_1 p222 q222
           obtain rfl : ad221 = ad222 := (by injection e222)
           replace p222 := eq_true p222
           replace q222 := eq_true q222
           have p223 : 0 ≤ (x3_1 : Int) := of_decide_eq_true (by first | (with_reducible assumption) | assumption)
           have q223 : x3_1 < (l0.length : Int) := of_decide_eq_true (by first | (with_reducible assumption) | assumption)
           obtain ⟨ad223, e223, hx223_0, hx223_1, hx223_2⟩ := at_T61 HR0.out x3_1 p223 q223
           obtain rfl : ad221 = ad223 := (by injection e223)
           replace p223 := eq_true p223
           replace q223 := eq_true q223
           go_wp2
           go_roundg kj1
           case measure => have := HK1.out; have := HJ1.out; omega
           case rel => exact ⟨(wrap64 (x3_1 + 1)), (by first | rfl | (simp; done) | (simp [*]; done)), H', ⟨by have := HK1.out; have := HJ1.out; omega⟩, by repeat (first | exact Drawn0.refl _ | apply Drawn0.step)⟩
        ·
         rw [if_neg c7] at H
         have c7b0 : decide (600 < (((rd_T61 l0 x3_1).f2).size : Int)) = false := decide_eq_false c7
         have c7b1 : decide (600 < ((rd_T61 l0 x3_1).f2).size) = false := decide_eq_false (by omega)
         clear c7
         by_cases c10 : (((rd_T61 l0 x3_1).f2).size : Int) > 70000
         ·
          rw [if_pos c10] at H
          have c10b0 : decide (70000 < (((rd_T61 l0 x3_1).f2).size : Int)) = true := decide_eq_true c10
          have c10b1 : decide (70000 < ((rd_T61 l0 x3_1).f2).size) = true := decide_eq_true (by omega)
          clear c10
          obtain rfl := Option.some.inj H
          have p221 : 0 ≤ (x3_1 : Int) := of_decide_eq_true (by first | (with_reducible assumption) | assumption)
          have q221 : x3_1 < (l0.length : Int) := of_decide_eq_true (by first | (with_reducible assumption) | assumption)
          obtain ⟨ad221, e221, hx221_0, hx221_1, hx221_2⟩ := at_T61 HR0.out x3_1 p221 q221
          cases e221
          replace p221 := eq_true p221
          replace q221 := eq_true q221
          have p224 : 0 ≤ (x3_1 : Int) := of_decide_eq_true (by first | (with_reducible assumption) | assumption)
          have q224 : x3_1 < (l0.length : Int) := of_decide_eq_true (by first | (with_reducible assumption) | assumption)
          obtain ⟨ad224, e224, hx224_0, hx224_1, hx224_2⟩ := at_T61 HR0.out x3_1 p224 q224
          obtain rfl : ad221 = ad224 := (by injection e224)
          replace p224 := eq_true p224
          replace q224 := eq_true q224
          go_wp2
          go_ret
          exact ⟨by first | rfl | (simp; done) | (simp [*]; done), by repeat (first | exact Drawn0.refl _ | apply Drawn0.step)⟩
         ·
          rw [if_neg c10] at H
          have c10b0 : decide (70000 < (((rd_T61 l0 x3_1).f2).size : Int)) = false := decide_eq_false c10
          have c10b1 : decide (70000 < ((rd_T61 l0 x3_1).f2).size) = false := decide_eq_false (by omega)
          clear c10
          have H' := aq H
          clear H
          have p221 : 0 ≤ (x3_1 : Int) := of_decide_eq_true (by first | (with_reducible assumption) | assumption)
          have q221 : x3_1 < (l0.length : Int) := of_decide_eq_true (by first | (with_reducible assumption) | assumption)
          obtain ⟨ad221, e221, hx221_0, hx221_1, hx221_2⟩ := at_T61 HR0.out x3_1 p221 q221
          cases e221
          replace p221 := eq_true p221
          replace q221 := eq_true q221
          have p224 : 0 ≤ (x3_1 : Int) := of_decide_eq_true (by first | (with_reducible assumption) | assumption)
          have q224 : x3_1 < (l0.length : Int) := of_decide_eq_true (by first | (with_reducible assumption) | assumption)
          obtain ⟨ad224, e224, hx224_0, hx224_1, hx224_2⟩ := at_T61 HR0.out x3_1 p224 q224
          obtain rfl : ad221 = ad224 := (by injection e224)
          replace p224 := eq_true p224
          replace q224 := eq_true q224
          go_wp2
          go_roundg kj1
          case measure => have := HK1.out; have := HJ1.out; omega
          case rel => exact ⟨(wrap64 (x3_1 + 1)), (by first | rfl | (simp; done) | (simp [*]; done)), H', ⟨by have := HK1.out; have := HJ1.out; omega⟩, by repeat (first | exact Drawn0.refl _ | apply Drawn0.step)⟩
       ·
        rw [if_neg c6] at H
        exact absurd H (by simp)
      ·
       rw [if_neg c5] at H
       exact absurd H (by simp)
     ·
      replace c4 := Bool.eq_false_iff.mpr c4
      subst c4
      have H1 : (some (decide ((l0.length : Int) > 20))) = some r := by rw [if_neg (show ¬ (false = true) by decide)] at H; exact H
      clear H
      have H := H1
      clear H1
      obtain rfl := Option.some.inj H
      go_wp2
      go_ret
      exact ⟨by first | rfl | (simp; done) | (simp [*]; done), by repeat (first | exact Drawn0.refl _ | apply Drawn0.step)⟩
theorem own_slice {W : World} {base n : Nat} {e : TypeId} {v : Value} {xs : List Value} (h : W.ownsRow base e 1 v n xs) : ∃ A c, v = .slice A n c := by
  rcases h.2 with ⟨rfl, rfl⟩ | ⟨g, cap, cur, rfl, _⟩
  · exact ⟨_, _, rfl⟩
  · exact ⟨_, _, rfl⟩
end Go.Proofs.YtblnfngigdipcaaGreatDoor.P
namespace Go.Proofs.YtblnfngigdipcaaGreatDoor.M
open Go.RowKit Go.Proofs.YtblnfngigdipcaaGreatDoor.P Go.Proofs.YtblnfngigdipcaaGreatDoorW.PrintWords Go.Proofs.YtblnfngigdipcaaGreatDoorW.PrintLast Go.Proofs.YtblnfngigdipcaaGreatDoorW.PrintMore
set_option linter.unusedVariables false
set_option linter.unusedSimpArgs false
theorem w64s (x : Int) (h0 : -9223372036854775808 ≤ x) (h1 : x < 9223372036854775808) : wrap64 x = x := by unfold wrap64; omega
theorem index_loop (l : List Int) (v : Int) (h : l.length < 1000) : ∀ (n i k : Nat), l.length - i = n → i ≤ l.length → n + 1 ≤ k →
    ∃ r, slices_Index_int_int.l0 k l v (l.length : Int) (i : Int) = some r ∧ (r ≥ 0 ↔ v ∈ l.drop i)
  | 0, i, k, hn, hi, hk => by
    obtain ⟨k, rfl⟩ : ∃ m, k = m + 1 := ⟨k - 1, by omega⟩
    simp only [slices_Index_int_int.l0]
    rw [if_neg (by omega), List.drop_eq_nil_of_le (by omega)]
    exact ⟨_, rfl, by simp⟩
  | n + 1, i, k, hn, hi, hk => by
    obtain ⟨k, rfl⟩ : ∃ m, k = m + 1 := ⟨k - 1, by omega⟩
    have hd : l.drop i = rd l (i : Int) :: l.drop (i + 1) := by
      rw [List.drop_eq_getElem_cons (show i < l.length by omega)]
      congr 1
      show l[i] = l.getD ((i : Int).toNat) 0
      rw [Int.toNat_natCast, List.getD_eq_getElem?_getD, List.getElem?_eq_getElem (show i < l.length by omega)]
      rfl
    simp only [slices_Index_int_int.l0]
    rw [if_pos (by omega), if_pos (by omega), if_pos (by omega), hd]
    by_cases hv : v = rd l (i : Int)
    · rw [if_pos hv]
      exact ⟨_, rfl, by simp [hv]⟩
    · rw [if_neg hv, w64s _ (by omega) (by omega)]
      obtain ⟨r, h1, h2⟩ := index_loop l v h n (i + 1) k (by omega) (by omega) (by omega)
      exact ⟨r, h1, by rw [h2]; simp [hv]⟩
theorem contains_at (k : Nat) (l : List Int) (v : Int) (h : l.length < 1000) (hk : l.length + 1 ≤ k) : slices_Contains_int_int.f k l v = some (decide (v ∈ l)) := by
  obtain ⟨r, h1, h2⟩ := index_loop l v h l.length 0 k (by omega) (by omega) hk
  unfold slices_Contains_int_int.f slices_Index_int_int.f
  have e : slices_Index_int_int.l0 k l v (l.length : Int) 0 = some r := h1
  rw [e, Option.bind_some]
  congr 1
  rw [Bool.eq_iff_iff]
  simpa using h2
def keepB (op : Int) : Bool := decide (op ∈ [(23 : Int), 25, 32, 33])
theorem keeps_at (k : Nat) (hk : 5 ≤ k) (op : Int) : inst_keeps.f k op = some (keepB op) := by
  unfold inst_keeps.f
  rw [contains_at k _ op (by simp) (by simp; omega), Option.bind_some]
  rfl
def spB (op : Int) : Bool := decide (op ∈ [(4 : Int), 5, 8, 9, 10])
def wrV (ok : Bool) (op d : Int) : Int × Bool :=
  if ok = false ∨ keepB op = true then (0, false) else if op = 30 ∨ op = 35 then (30, true) else if (inst_sh (shapeN op)).1 = false ∨ (d = 31 ∧ spB op = false) then (0, false) else (d, true)
theorem writes_at (k : Nat) (hk : 10 ≤ k) (op d n m a imm mask shift amount cond : Int) (ok : Bool) (hI : inst_Is.f k op d n m a imm mask shift amount cond = some ok) : inst_Writes.f k op d n m a imm mask shift amount cond = some (wrV ok op d) := by
  obtain ⟨k, rfl⟩ : ∃ m, k = m + 3 := ⟨k - 3, by omega⟩
  unfold inst_Writes.f
  rw [contains_at _ _ op (by simp) (by simp; omega), Option.bind_some, hI, Option.bind_some]
  rw [show decide (op ∈ [(4 : Int), 5, 8, 9, 10]) = spB op from rfl]
  have hj1 : ∀ b : Bool, inst_Writes.j1 (k + 2) (spB op) b op d n m a imm mask shift amount cond = some (if b = true then (30, true) else if (inst_sh (shapeN op)).1 = false ∨ (d = 31 ∧ spB op = false) then (0, false) else (d, true)) := by
    intro b
    simp only [inst_Writes.j1, shape_at, Option.bind_some, shapeOf_at _ (shapeN_le op), inst_Writes.j2]
    cases b <;> cases (inst_sh (shapeN op)).1 <;> cases spB op <;> by_cases hd : d = 31 <;> simp [hd]
  have hj0 : ∀ b : Bool, inst_Writes.j0 (k + 3) (spB op) b op d n m a imm mask shift amount cond = some (if b = true then (0, false) else if op = 30 ∨ op = 35 then (30, true) else if (inst_sh (shapeN op)).1 = false ∨ (d = 31 ∧ spB op = false) then (0, false) else (d, true)) := by
    intro b
    simp only [inst_Writes.j0, hj1]
    cases b
    · by_cases h30 : op = 30
      · simp [h30]
      · by_cases h35 : op = 35 <;> simp [h30, h35]
    · simp
  unfold wrV
  cases ok
  · rw [if_neg (by decide), hj0]; simp
  · rw [if_pos rfl, keeps_at _ (by omega), Option.bind_some, hj0]
    cases keepB op <;> simp
end Go.Proofs.YtblnfngigdipcaaGreatDoor.M
