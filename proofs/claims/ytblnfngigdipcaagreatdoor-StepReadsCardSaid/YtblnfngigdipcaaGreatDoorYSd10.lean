/- Written for this claim by a program of this session: what the claim uses of lemmas and proved contracts of Go functions. -/
import Derived.Test.YtblnfngigdipcaaGreatDoorYSu9
import Derived.Shelf.SlSortCmp.NoneTotal
import Derived.Shelf.SlSortCmp.WholeK
import Derived.Shelf.SlGeneric
import Derived.Ground.SlsfProg
import Derived.Shelf.Strings.Builder1
import Derived.Shelf.Strings.Builder2
import Derived.Shelf.Small.Bits
import Derived.Shelf.Small.Wraps
import Derived.Shelf.Strconv.Itoa0
import Derived.Shelf.Strconv.Itoa1
import Derived.Shelf.LaysM
import Derived.Shelf.Strconv.Itoa2
import Derived.Shelf.Strconv.Itoa3
import Derived.Shelf.Sort.Plain
import Derived.Shelf.Strings.Prefix
import Derived.Shelf.Bits.Mul64
import Derived.Shelf.Slices.Turned
import Derived.Ground.Names2Prog
import Derived.Shelf.Slices.CompactI
import Derived.Shelf.Slices.SearchI
import Derived.Shelf.Slices.Cells
import Derived.Shelf.Slices.In.SortNone
set_option linter.unusedVariables false
set_option linter.unusedSimpArgs false
set_option maxHeartbeats 8000000
set_option maxRecDepth 100000
namespace Go.Proofs
theorem lq {α : Type} {l : List α} {i : Nat} {a : α} : l.toArray.setIfInBounds i a = (l.set i a).toArray := List.setIfInBounds_toArray ..
theorem lz {α : Type} {a b : α} {l : List α} : (a :: l).set 0 b = b :: l := List.set_cons_zero
theorem ls {α : Type} {a b : α} {l : List α} {n : Nat} : (a :: l).set (n + 1) b = a :: l.set n b := List.set_cons_succ
end Go.Proofs
namespace Go.Proofs.YtblnfngigdipcaaGreatDoorW.PrintWords
namespace Kd
theorem reps_scalar {α : Type} {enc : α → Value} (xs : List α) : Reps (fun (x : α) (cs : List Value) => cs = [enc x]) 1 xs (encs enc xs) := by
 refine ⟨by simp [encs], fun j p hj => ?_⟩
 obtain ⟨hl, hp⟩ := List.getElem?_eq_some_iff.1 hj
 have hl' : j < (encs enc xs).length := by rw [encs_length]; exact hl
 rw [Nat.mul_one, List.drop_eq_getElem_cons hl']
 simp [encs, hp]
end Kd
end Go.Proofs.YtblnfngigdipcaaGreatDoorW.PrintWords
namespace Go.Proofs.YtblnfngigdipcaaGreatDoor.P
theorem info3 : (Tryz.prog.info? 3).map (fun i => (i.zero, i.size, i.bytes)) = some (some (.int .i64 0), 1, 8) := by kernel_rfl
end Go.Proofs.YtblnfngigdipcaaGreatDoor.P
namespace Go.Proofs
open Go.Shelf
def Tryz.sortP_ren : Go.Shelf.Ren := ⟨fun | 6 => 71 | 15 => 141 | 14 => 140 | 28 => 218 | 29 => 219 | 20 => 210 | 21 => 211 | 22 => 212 | 23 => 213 | 24 => 214 | 25 => 215 | 26 => 216 | 27 => 217 | 46 => 292 | 47 => 293 | 48 => 294 | 49 => 295 | 50 => 296 | 57 => 346 | n => n, fun | 22 => 110 | 24 => 116 | 25 => 119 | 3 => 3 | 39 => 221 | 0 => 0 | 53 => 47 | 55 => 22 | 4 => 4 | 46 => 270 | 45 => 269 | 50 => 62 | 5 => 5 | 9 => 9 | 66 => 317 | 70 => 320 | 76 => 347 | 77 => 348 | n => n, fun | n => n⟩
theorem Tryz.sortP : Go.Proofs.SlLaysF0.n6 Tryz.prog Tryz.sortP_ren := {
 mixed := by kernel_rfl
 f6 := ⟨Tryz.f71.name, by decide, Tryz.func71.trans (congrArg some (by kernel_rfl))⟩
 f14 := ⟨Tryz.f140.name, by decide, Tryz.func140.trans (congrArg some (by kernel_rfl))⟩
 f15 := Tryz.func141.trans (congrArg some (by kernel_rfl))
 f20 := ⟨Tryz.f210.name, by decide, Tryz.func210.trans (congrArg some (by kernel_rfl))⟩
 f21 := ⟨Tryz.f211.name, by decide, Tryz.func211.trans (congrArg some (by kernel_rfl))⟩
 f22 := ⟨Tryz.f212.name, by decide, Tryz.func212.trans (congrArg some (by kernel_rfl))⟩
 f23 := ⟨Tryz.f213.name, by decide, Tryz.func213.trans (congrArg some (by kernel_rfl))⟩
 f24 := ⟨Tryz.f214.name, by decide, Tryz.func214.trans (congrArg some (by kernel_rfl))⟩
 f25 := ⟨Tryz.f215.name, by decide, Tryz.func215.trans (congrArg some (by kernel_rfl))⟩
 f26 := ⟨Tryz.f216.name, by decide, Tryz.func216.trans (congrArg some (by kernel_rfl))⟩
 f27 := ⟨Tryz.f217.name, by decide, Tryz.func217.trans (congrArg some (by kernel_rfl))⟩
 f28 := Tryz.func218.trans (congrArg some (by kernel_rfl))
 f29 := Tryz.func219.trans (congrArg some (by kernel_rfl))
 f46 := ⟨Tryz.f292.name, by decide, Tryz.func292.trans (congrArg some (by kernel_rfl))⟩
 f47 := Tryz.func293.trans (congrArg some (by kernel_rfl))
 f48 := Tryz.func294.trans (congrArg some (by kernel_rfl))
 f49 := ⟨Tryz.f295.name, by decide, Tryz.func295.trans (congrArg some (by kernel_rfl))⟩
 f50 := ⟨Tryz.f296.name, by decide, Tryz.func296.trans (congrArg some (by kernel_rfl))⟩
 f57 := ⟨Tryz.f346.name, by decide, Tryz.func346.trans (congrArg some (by kernel_rfl))⟩
 t0 := Tryz.underlying0
 a0 := Tryz.isAgg0
 z0 := Tryz.sizeOf0
 v0 := Tryz.zeroValue0
 t3 := Tryz.underlying3
 a3 := Tryz.isAgg3
 z3 := Tryz.sizeOf3
 v3 := Tryz.zeroValue3
 t4 := Tryz.underlying4
 a4 := Tryz.isAgg4
 z4 := Tryz.sizeOf4
 v4 := Tryz.zeroValue4
 t5 := Tryz.underlying5
 a5 := Tryz.isAgg5
 z5 := Tryz.sizeOf5
 v5 := Tryz.zeroValue5
 t9 := Tryz.underlying9
 a9 := Tryz.isAgg9
 z9 := Tryz.sizeOf9
 v9 := Tryz.zeroValue9
 t22 := Tryz.underlying110
 a22 := Tryz.isAgg110
 z22 := Tryz.sizeOf110
 v22 := Tryz.zeroValue110
 t25 := Tryz.underlying119
 a25 := Tryz.isAgg119
 z25 := Tryz.sizeOf119
 v25 := Tryz.zeroValue119
 t39 := Tryz.underlying221
 a39 := Tryz.isAgg221
 z39 := Tryz.sizeOf221
 v39 := Tryz.zeroValue221
 t45 := Tryz.underlying269
 a45 := Tryz.isAgg269
 z45 := Tryz.sizeOf269
 v45 := Tryz.zeroValue269
 t46 := Tryz.underlying270
 a46 := Tryz.isAgg270
 z46 := Tryz.sizeOf270
 v46 := Tryz.zeroValue270
 t50 := Tryz.underlying62
 a50 := Tryz.isAgg62
 z50 := Tryz.sizeOf62
 v50 := Tryz.zeroValue62
 t53 := Tryz.underlying47
 a53 := Tryz.isAgg47
 z53 := Tryz.sizeOf47
 v53 := Tryz.zeroValue47
 t55 := Tryz.underlying22
 a55 := Tryz.isAgg22
 z55 := Tryz.sizeOf22
 v55 := Tryz.zeroValue22
 t66 := Tryz.underlying317
 a66 := Tryz.isAgg317
 z66 := Tryz.sizeOf317
 v66 := Tryz.zeroValue317
 t70 := Tryz.underlying320
 a70 := Tryz.isAgg320
 z70 := Tryz.sizeOf320
 v70 := Tryz.zeroValue320
 t76 := Tryz.underlying347
 a76 := Tryz.isAgg347
 z76 := Tryz.sizeOf347
 v76 := Tryz.zeroValue347
 t77 := Tryz.underlying348
 a77 := Tryz.isAgg348
 z77 := Tryz.sizeOf348
 v77 := Tryz.zeroValue348 }
def Tryz.lays128_ren : Go.Shelf.Ren := ⟨fun | 128 => 218 | n => n, fun | 51 => 47 | 3 => 3 | 4 => 4 | 46 => 221 | 5 => 5 | 9 => 9 | n => n, fun | n => n⟩
theorem Tryz.lays128 : Go.Proofs.Lays.n128 Tryz.prog Tryz.lays128_ren := {
 mixed := by kernel_rfl
 f128 := Tryz.func218.trans (congrArg some (by kernel_rfl))
 t3 := Tryz.underlying3
 a3 := Tryz.isAgg3
 z3 := Tryz.sizeOf3
 v3 := Tryz.zeroValue3
 t4 := Tryz.underlying4
 a4 := Tryz.isAgg4
 z4 := Tryz.sizeOf4
 v4 := Tryz.zeroValue4
 t5 := Tryz.underlying5
 a5 := Tryz.isAgg5
 z5 := Tryz.sizeOf5
 v5 := Tryz.zeroValue5
 t9 := Tryz.underlying9
 a9 := Tryz.isAgg9
 z9 := Tryz.sizeOf9
 v9 := Tryz.zeroValue9
 t46 := Tryz.underlying221
 a46 := Tryz.isAgg221
 z46 := Tryz.sizeOf221
 v46 := Tryz.zeroValue221
 t51 := Tryz.underlying47
 a51 := Tryz.isAgg47
 z51 := Tryz.sizeOf47
 v51 := Tryz.zeroValue47 }
theorem Tryz.bits_Len32 (x : Int) (w : World) (h0 : 0 ≤ x) (h1 : x ≤ 4294967295) :
  Calls Tryz.prog 218 #[.int .u32 x] w fun e w' => e = .returned (.int .i64 (Lib.bitLen x.toNat)) ∧ w' = w := Any.bits_Len32 Tryz.lays128 x w h0 h1
def Tryz.lays125_ren : Go.Shelf.Ren := ⟨fun | 125 => 141 | 128 => 218 | 129 => 219 | n => n, fun | 46 => 221 | 3 => 3 | 51 => 47 | 53 => 22 | 4 => 4 | 5 => 5 | 9 => 9 | n => n, fun | n => n⟩
theorem Tryz.lays125 : Go.Proofs.Lays.n125 Tryz.prog Tryz.lays125_ren := {
 mixed := by kernel_rfl
 f125 := Tryz.func141.trans (congrArg some (by kernel_rfl))
 f128 := Tryz.func218.trans (congrArg some (by kernel_rfl))
 f129 := Tryz.func219.trans (congrArg some (by kernel_rfl))
 t3 := Tryz.underlying3
 a3 := Tryz.isAgg3
 z3 := Tryz.sizeOf3
 v3 := Tryz.zeroValue3
 t4 := Tryz.underlying4
 a4 := Tryz.isAgg4
 z4 := Tryz.sizeOf4
 v4 := Tryz.zeroValue4
 t5 := Tryz.underlying5
 a5 := Tryz.isAgg5
 z5 := Tryz.sizeOf5
 v5 := Tryz.zeroValue5
 t9 := Tryz.underlying9
 a9 := Tryz.isAgg9
 z9 := Tryz.sizeOf9
 v9 := Tryz.zeroValue9
 t46 := Tryz.underlying221
 a46 := Tryz.isAgg221
 z46 := Tryz.sizeOf221
 v46 := Tryz.zeroValue221
 t51 := Tryz.underlying47
 a51 := Tryz.isAgg47
 z51 := Tryz.sizeOf47
 v51 := Tryz.zeroValue47
 t53 := Tryz.underlying22
 a53 := Tryz.isAgg22
 z53 := Tryz.sizeOf22
 v53 := Tryz.zeroValue22 }
theorem Tryz.bits_Len (x : Int) (w : World) (h0 : 0 ≤ x) (h1 : x ≤ 18446744073709551615) :
  Calls Tryz.prog 141 #[.int .u64 x] w fun e w' => e = .returned (.int .i64 (Lib.bitLen x.toNat)) ∧ w' = w := Any.bits_Len Tryz.lays125 x w h0 h1
def Tryz.lays134_ren : Go.Shelf.Ren := ⟨fun | 134 => 300 | 129 => 219 | n => n, fun | 53 => 22 | 3 => 3 | 4 => 4 | 46 => 221 | 5 => 5 | 9 => 9 | n => n, fun | n => n⟩
theorem Tryz.lays134 : Go.Proofs.Lays.n134 Tryz.prog Tryz.lays134_ren := {
 mixed := by kernel_rfl
 f129 := Tryz.func219.trans (congrArg some (by kernel_rfl))
 f134 := Tryz.func300.trans (congrArg some (by kernel_rfl))
 t3 := Tryz.underlying3
 a3 := Tryz.isAgg3
 z3 := Tryz.sizeOf3
 v3 := Tryz.zeroValue3
 t4 := Tryz.underlying4
 a4 := Tryz.isAgg4
 z4 := Tryz.sizeOf4
 v4 := Tryz.zeroValue4
 t5 := Tryz.underlying5
 a5 := Tryz.isAgg5
 z5 := Tryz.sizeOf5
 v5 := Tryz.zeroValue5
 t9 := Tryz.underlying9
 a9 := Tryz.isAgg9
 z9 := Tryz.sizeOf9
 v9 := Tryz.zeroValue9
 t46 := Tryz.underlying221
 a46 := Tryz.isAgg221
 z46 := Tryz.sizeOf221
 v46 := Tryz.zeroValue221
 t53 := Tryz.underlying22
 a53 := Tryz.isAgg22
 z53 := Tryz.sizeOf22
 v53 := Tryz.zeroValue22 }
theorem Tryz.bits_LeadingZeros64 (x : Int) (w : World) (h0 : 0 ≤ x) (h1 : x ≤ 18446744073709551615) :
  Calls Tryz.prog 300 #[.int .u64 x] w fun e w' => e = .returned (.int .i64 (64 - (Lib.bitLen x.toNat : Int))) ∧ w' = w := Any.bits_LeadingZeros64 Tryz.lays134 x w h0 h1
def Tryz.lays129_ren : Go.Shelf.Ren := ⟨fun | 129 => 219 | n => n, fun | 53 => 22 | 3 => 3 | 4 => 4 | 46 => 221 | 5 => 5 | 9 => 9 | n => n, fun | n => n⟩
theorem Tryz.lays129 : Go.Proofs.Lays.n129 Tryz.prog Tryz.lays129_ren := {
 mixed := by kernel_rfl
 f129 := Tryz.func219.trans (congrArg some (by kernel_rfl))
 t3 := Tryz.underlying3
 a3 := Tryz.isAgg3
 z3 := Tryz.sizeOf3
 v3 := Tryz.zeroValue3
 t4 := Tryz.underlying4
 a4 := Tryz.isAgg4
 z4 := Tryz.sizeOf4
 v4 := Tryz.zeroValue4
 t5 := Tryz.underlying5
 a5 := Tryz.isAgg5
 z5 := Tryz.sizeOf5
 v5 := Tryz.zeroValue5
 t9 := Tryz.underlying9
 a9 := Tryz.isAgg9
 z9 := Tryz.sizeOf9
 v9 := Tryz.zeroValue9
 t46 := Tryz.underlying221
 a46 := Tryz.isAgg221
 z46 := Tryz.sizeOf221
 v46 := Tryz.zeroValue221
 t53 := Tryz.underlying22
 a53 := Tryz.isAgg22
 z53 := Tryz.sizeOf22
 v53 := Tryz.zeroValue22 }
theorem Tryz.bits_Len64 (x : Int) (w : World) (h0 : 0 ≤ x) (h1 : x ≤ 18446744073709551615) :
  Calls Tryz.prog 219 #[.int .u64 x] w fun e w' => e = .returned (.int .i64 (Lib.bitLen x.toNat)) ∧ w' = w := Any.bits_Len64 Tryz.lays129 x w h0 h1
def Tryz.lays189_ren : Go.Shelf.Ren := ⟨fun | 189 => 91 | 125 => 141 | 257 => 169 | 128 => 218 | 129 => 219 | 294 => 255 | 295 => 256 | 296 => 257 | 297 => 258 | 298 => 259 | 299 => 260 | 216 => 261 | 300 => 262 | 301 => 263 | 328 => 321 | 329 => 293 | 330 => 294 | 331 => 322 | 332 => 323 | 215 => 324 | 343 => 353 | n => n, fun | 28 => 66 | 3 => 3 | 46 => 221 | 0 => 0 | 51 => 47 | 53 => 22 | 4 => 4 | 183 => 270 | 182 => 269 | 131 => 62 | 5 => 5 | 9 => 9 | 218 => 317 | 222 => 320 | 228 => 347 | 229 => 348 | n => n, fun | n => n⟩
theorem Tryz.lays189 : Go.Proofs.Lays.n189 Tryz.prog Tryz.lays189_ren := {
 mixed := by kernel_rfl
 f125 := Tryz.func141.trans (congrArg some (by kernel_rfl))
 f128 := Tryz.func218.trans (congrArg some (by kernel_rfl))
 f129 := Tryz.func219.trans (congrArg some (by kernel_rfl))
 f189 := Tryz.func91.trans (congrArg some (by kernel_rfl))
 f215 := Tryz.func324.trans (congrArg some (by kernel_rfl))
 f216 := Tryz.func261.trans (congrArg some (by kernel_rfl))
 f257 := Tryz.func169.trans (congrArg some (by kernel_rfl))
 f294 := Tryz.func255.trans (congrArg some (by kernel_rfl))
 f295 := Tryz.func256.trans (congrArg some (by kernel_rfl))
 f296 := Tryz.func257.trans (congrArg some (by kernel_rfl))
 f297 := Tryz.func258.trans (congrArg some (by kernel_rfl))
 f298 := Tryz.func259.trans (congrArg some (by kernel_rfl))
 f299 := Tryz.func260.trans (congrArg some (by kernel_rfl))
 f300 := Tryz.func262.trans (congrArg some (by kernel_rfl))
 f301 := Tryz.func263.trans (congrArg some (by kernel_rfl))
 f328 := Tryz.func321.trans (congrArg some (by kernel_rfl))
 f329 := Tryz.func293.trans (congrArg some (by kernel_rfl))
 f330 := Tryz.func294.trans (congrArg some (by kernel_rfl))
 f331 := Tryz.func322.trans (congrArg some (by kernel_rfl))
 f332 := Tryz.func323.trans (congrArg some (by kernel_rfl))
 f343 := Tryz.func353.trans (congrArg some (by kernel_rfl))
 t0 := Tryz.underlying0
 a0 := Tryz.isAgg0
 z0 := Tryz.sizeOf0
 v0 := Tryz.zeroValue0
 t3 := Tryz.underlying3
 a3 := Tryz.isAgg3
 z3 := Tryz.sizeOf3
 v3 := Tryz.zeroValue3
 t4 := Tryz.underlying4
 a4 := Tryz.isAgg4
 z4 := Tryz.sizeOf4
 v4 := Tryz.zeroValue4
 t5 := Tryz.underlying5
 a5 := Tryz.isAgg5
 z5 := Tryz.sizeOf5
 v5 := Tryz.zeroValue5
 t9 := Tryz.underlying9
 a9 := Tryz.isAgg9
 z9 := Tryz.sizeOf9
 v9 := Tryz.zeroValue9
 t28 := Tryz.underlying66
 a28 := Tryz.isAgg66
 z28 := Tryz.sizeOf66
 v28 := Tryz.zeroValue66
 t46 := Tryz.underlying221
 a46 := Tryz.isAgg221
 z46 := Tryz.sizeOf221
 v46 := Tryz.zeroValue221
 t51 := Tryz.underlying47
 a51 := Tryz.isAgg47
 z51 := Tryz.sizeOf47
 v51 := Tryz.zeroValue47
 t53 := Tryz.underlying22
 a53 := Tryz.isAgg22
 z53 := Tryz.sizeOf22
 v53 := Tryz.zeroValue22
 t131 := Tryz.underlying62
 a131 := Tryz.isAgg62
 z131 := Tryz.sizeOf62
 v131 := Tryz.zeroValue62
 t182 := Tryz.underlying269
 a182 := Tryz.isAgg269
 z182 := Tryz.sizeOf269
 v182 := Tryz.zeroValue269
 t183 := Tryz.underlying270
 a183 := Tryz.isAgg270
 z183 := Tryz.sizeOf270
 v183 := Tryz.zeroValue270
 t218 := Tryz.underlying317
 a218 := Tryz.isAgg317
 z218 := Tryz.sizeOf317
 v218 := Tryz.zeroValue317
 t222 := Tryz.underlying320
 a222 := Tryz.isAgg320
 z222 := Tryz.sizeOf320
 v222 := Tryz.zeroValue320
 t228 := Tryz.underlying347
 a228 := Tryz.isAgg347
 z228 := Tryz.sizeOf347
 v228 := Tryz.zeroValue347
 t229 := Tryz.underlying348
 a229 := Tryz.isAgg348
 z229 := Tryz.sizeOf348
 v229 := Tryz.zeroValue348 }
open Go.Sort Go.RowKit in
theorem Tryz.slices_Sort_int (blk off cap : Nat) (zs : List Int) (w : World) (hH : Holds (Value.int .i64) w blk off zs.toArray) (hblk : blk < w.heap.size) (hsz : zs.length < 4611686018427387904) :
  Calls Tryz.prog 91 #[.slice (some ⟨blk, off, none⟩) zs.length cap] w fun e w' =>
   e = .returned (.tuple #[]) ∧ ∃ n os, w' = grow (putRow (Value.int .i64) (Sort.ahead w n) blk off (zs.mergeSort fun x y => decide (x ≤ y)).toArray) os := Any.slices_Sort_int Tryz.lays189 blk off cap zs w hH hblk hsz
def Tryz.laysNm220_ren : Go.Shelf.Ren := ⟨fun | 20 => 92 | n => n, fun | 22 => 66 | 3 => 3 | 4 => 4 | 0 => 0 | n => n, fun | n => n⟩
theorem Tryz.laysNm220 : Go.Proofs.Lays2.n20 Tryz.prog Tryz.laysNm220_ren := {
 mixed := by kernel_rfl
 f20 := Tryz.func92.trans (congrArg some (by kernel_rfl))
 t0 := Tryz.underlying0
 a0 := Tryz.isAgg0
 z0 := Tryz.sizeOf0
 v0 := Tryz.zeroValue0
 t3 := Tryz.underlying3
 a3 := Tryz.isAgg3
 z3 := Tryz.sizeOf3
 v3 := Tryz.zeroValue3
 t4 := Tryz.underlying4
 a4 := Tryz.isAgg4
 z4 := Tryz.sizeOf4
 v4 := Tryz.zeroValue4
 t22 := Tryz.underlying66
 a22 := Tryz.isAgg66
 z22 := Tryz.sizeOf66
 v22 := Tryz.zeroValue66
 i3 := by kernel_rfl }
open Go.RowKit Go.Lib Go.Sort in
theorem Tryz.slices_Compact_int (blk off cap : Nat) (zs : List Int) (w : World) (hH : Holds (Value.int .i64) w blk off zs.toArray) (hsz : zs.length ≤ 9223372036854775807) (hcap : zs.length ≤ cap) :
  Calls Tryz.prog 92 #[.slice (some ⟨blk, off, none⟩) zs.length cap] w fun e w' => e = .returned (.slice (some ⟨blk, off, none⟩) (Lib.compact zs).length cap) ∧ ∃ q, w' = putRow (Value.int .i64) (Sort.ahead w q) blk off (Lib.compact zs ++ List.replicate (zs.length - (Lib.compact zs).length) 0).toArray := Any.slices_Compact_int Tryz.laysNm220 blk off cap zs w hH hsz hcap
open Go.RowKit Go.Lib Go.Sort in
theorem Tryz.slices_Compact_int_empty (a : Option Addr) (cap : Nat) (w : World) :
  Calls Tryz.prog 92 #[.slice a 0 cap] w fun e w' => e = .returned (.slice a 0 cap) ∧ w' = w := Any.slices_Compact_int_empty Tryz.laysNm220 a cap w
open Go.RowKit Go.Sort in
theorem Tryz.slices_Sort_int_none (p : Option Addr) (cap : Nat) (w : World) :
  Calls Tryz.prog 91 #[.slice p 0 cap] w fun e w' => e = .returned (.tuple #[]) ∧ w' = w := Any.slices_Sort_int_none Tryz.lays189 p cap w
end Go.Proofs
namespace Go.Proofs.YtblnfngigdipcaaGreatDoor.P
open Go.RowKit Go.Proofs.YtblnfngigdipcaaGreatDoorW.PrintWords Go.Proofs.YtblnfngigdipcaaGreatDoorW.PrintLast Go.Proofs.YtblnfngigdipcaaGreatDoorW.PrintMore
attribute [local go_sem] max2_int min2_int max_two min_two max_three min_three max_four min_four
mutual
def cleatref07_Big.l0 : Nat → List (S61) → Int → Option (Bool)
 | 0, _, _ => none
 | k + 1, x0, x3 => if x3 < (x0.length : Int) then (cleatref07_Big.j1 k x0 x3 (decide ((x0.length : Int) ≤ 20))) else (cleatref07_Big.j1 k x0 x3 false)
def cleatref07_Big.j1 : Nat → List (S61) → Int → Bool → Option (Bool)
 | 0, _, _, _ => none
 | k + 1, x0, x3, x12 => if x12 = true then (if 0 ≤ x3 then (if x3 < (x0.length : Int) then (if (((rd_T61 x0 x3).f2).size : Int) > 600 then (if (((rd_T61 x0 x3).f2).size : Int) ≤ 65536 then (some true) else (if (((rd_T61 x0 x3).f2).size : Int) > 70000 then (some true) else (cleatref07_Big.l0 k x0 (wrap64 (x3 + 1))))) else (if (((rd_T61 x0 x3).f2).size : Int) > 70000 then (some true) else (cleatref07_Big.l0 k x0 (wrap64 (x3 + 1))))) else (none)) else (none)) else (some (decide ((x0.length : Int) > 20)))
end
def cleatref07_Big.f (k : Nat) (l0 : List (S61)) : Option (Bool) := cleatref07_Big.l0 k l0 0
theorem cleatref07_Big.calls (k : Nat) (A0 : Option Addr) (c0 : Nat) (l0 : List (S61)) (r : Bool) (w : World) (hr0 : Kd.C k61 w A0 l0.length l0) (hc0 : l0.length ≤ c0) (h : cleatref07_Big.f k l0 = some r) :
  Calls Tryz.prog 21 #[.slice A0 l0.length c0] w fun e w' => e = .returned (.bool r) ∧ Drawn0 w w' := by
 have HR0 := aq hr0
 clear hr0
 unfold cleatref07_Big.f at h
 go_enter Tryz.func21, Tryz.ntmps21
 go_wp2_with fail
 go_loopg [3] k (fun kq v3 wr => ∃ j : Nat, v3 = .int .i64 (j : Int) ∧ cleatref07_Big.l0 kq l0 (j : Int) = some r ∧ Aside0 (wr = w))
 case atStart => exact ⟨0, rfl, h, ⟨rfl⟩⟩
 case round =>
  obtain ⟨j, rfl, hj, HW⟩ := hrel
  obtain rfl := HW.out
  clear h
  cases gk with
  | zero => exact absurd hj (by simp [cleatref07_Big.l0])
  | succ g =>
   unfold cleatref07_Big.l0 at hj
   cases g with
   | zero => exact absurd hj (by split <;> simp [cleatref07_Big.j1])
   | succ kq =>
    by_cases h1 : (j : Int) < (l0.length : Int)
    ·rw [if_pos h1] at hj
     unfold cleatref07_Big.j1 at hj
     by_cases h2 : (l0.length : Int) ≤ 20
     ·rw [decide_eq_true h2, if_pos rfl, if_pos (by omega), if_pos h1] at hj
      obtain ⟨ad, hA, f0, f1, f2⟩ := at_T61 HR0.out (j : Int) (by omega) (by omega)
      subst hA
      rw [Int.toNat_natCast] at f2
      have e2 : wrap64 ((j : Int) + 1) = ((j + 1 : Nat) : Int) := by unfold wrap64; omega
      rw [e2] at hj
      generalize (rd_T61 l0 (j : Int)).f2 = s at *
      have HJ := aq hj
      clear hj f0 f1
      have d1 : j < l0.length := by omega
      have d2 : l0.length ≤ 20 := by omega
      have hc : (decide ((s.size : Int) > 600) = true ∧ decide ((s.size : Int) ≤ 65536) = true ∧ r = true) ∨ (decide ((s.size : Int) > 600) = true ∧ decide ((s.size : Int) ≤ 65536) = false ∧ decide ((s.size : Int) > 70000) = true ∧ r = true) ∨ (decide ((s.size : Int) > 600) = true ∧ decide ((s.size : Int) ≤ 65536) = false ∧ decide ((s.size : Int) > 70000) = false ∧ cleatref07_Big.l0 kq l0 ((j + 1 : Nat) : Int) = some r) ∨ (decide ((s.size : Int) > 600) = false ∧ decide ((s.size : Int) > 70000) = false ∧ cleatref07_Big.l0 kq l0 ((j + 1 : Nat) : Int) = some r) := by
       have hj := HJ.out
       by_cases h3 : (s.size : Int) > 600
       ·rw [if_pos h3] at hj
        by_cases h4 : (s.size : Int) ≤ 65536
        ·rw [if_pos h4] at hj
         exact .inl ⟨decide_eq_true h3, decide_eq_true h4, (Option.some.inj hj).symm⟩
        ·rw [if_neg h4] at hj
         by_cases h5 : (s.size : Int) > 70000
         ·rw [if_pos h5] at hj
          exact .inr (.inl ⟨decide_eq_true h3, decide_eq_false h4, decide_eq_true h5, (Option.some.inj hj).symm⟩)
         ·rw [if_neg h5] at hj
          exact .inr (.inr (.inl ⟨decide_eq_true h3, decide_eq_false h4, decide_eq_false h5, hj⟩))
       ·rw [if_neg h3, if_neg (by omega)] at hj
        exact .inr (.inr (.inr ⟨decide_eq_false h3, decide_eq_false (by omega), hj⟩))
      clear e2 HJ
      rcases hc with ⟨h3, h4, rfl⟩ | ⟨h3, h4, h5, rfl⟩ | ⟨h3, h4, h5, hn⟩ | ⟨h3, h5, hn⟩
      ·go_wp2
       go_ret
       exact ⟨rfl, Drawn0.refl _⟩
      ·go_wp2
       go_ret
       exact ⟨rfl, Drawn0.refl _⟩
      all_goals
       have HN := aq hn
       clear hn
       have e2 : wrap64 ((j : Int) + 1) = ((j + 1 : Nat) : Int) := by unfold wrap64; omega
       go_wp2
       go_roundg kq
       case measure => omega
       case rel => exact ⟨j + 1, by first | rfl | (rw [e2]), HN.out, ⟨rfl⟩⟩
     ·rw [decide_eq_false h2, if_neg (by decide)] at hj
      obtain rfl := Option.some.inj hj
      clear hj
      have d1 : j < l0.length := by omega
      have d2 : ¬ l0.length ≤ 20 := by omega
      go_wp2
      go_ret
      exact ⟨by simp, Drawn0.refl _⟩
    ·rw [if_neg h1] at hj
     unfold cleatref07_Big.j1 at hj
     rw [if_neg (by decide)] at hj
     obtain rfl := Option.some.inj hj
     clear hj
     have d1 : ¬ j < l0.length := by omega
     go_wp2
     go_ret
     exact ⟨by simp, Drawn0.refl _⟩
def reads_put (has : Bool) (x : Int) (sp : Bool) (xs : List Int) : List Int := if has = true ∧ (x < 31 ∨ sp = true) then xs ++ [x] else xs
theorem reads_put_len (has : Bool) (x : Int) (sp : Bool) (xs : List Int) : (reads_put has x sp xs).length ≤ xs.length + 1 := by unfold reads_put; split <;> simp
theorem box_cell {W : World} {G : Nat} {v : Value} {t : TypeId} (h : W.heap[G]? = some (.cells #[v] t (0, 0))) : W.cell? ⟨G, 0, none⟩ = some v ∧ W.frozen? ⟨G, 0, none⟩ = false := by
 constructor
 ·simp [World.cell?, h]
 ·simp [World.frozen?, h]
theorem box_set {W : World} {G : Nat} {v u : Value} {t : TypeId} (h : W.heap[G]? = some (.cells #[v] t (0, 0))) : (W.setCell ⟨G, 0, none⟩ u).heap[G]? = some (.cells #[u] t (0, 0)) := by
 simp [World.setCell, Array.getElem?_modify, h]
theorem own_slice {W : World} {base n : Nat} {e : TypeId} {v : Value} {xs : List Value} (h : W.ownsRow base e 1 v n xs) : ∃ A c, v = .slice A n c := by
 rcases h.2 with ⟨rfl, rfl⟩ | ⟨g, cap, cur, rfl, _⟩
 ·exact ⟨_, _, rfl⟩
 ·exact ⟨_, _, rfl⟩
theorem own_set {W : World} {G n : Nat} {e : TypeId} {v u : Value} {xs : List Value} (h : W.ownsRow (G + 1) e 1 v n xs) : (W.setCell ⟨G, 0, none⟩ u).ownsRow (G + 1) e 1 v n xs :=
 own_move h fun k hk => Below.heap_setCell W _ u k (by have := own_base h k hk; show k ≠ G; omega)
theorem reads_putCalls (G : Nat) (v : Value) (xs : List Int) (has : Bool) (x : Int) (sp : Bool) (W : World) (hG : W.heap[G]? = some (.cells #[v] 66 (0, 0))) (hO : W.ownsRow (G + 1) 3 1 v xs.length (nums .i64 xs)) (hl : xs.length ≤ 100) (hlt : G + 1 ≤ W.heap.size) :
  Calls Tryz.prog 90 #[.bool has, .int .i64 x, .bool sp, .pointer (some ⟨G, 0, none⟩)] W fun e w' => e = .returned (.tuple #[]) ∧ ∃ v1, w'.heap[G]? = some (.cells #[v1] 66 (0, 0)) ∧
   w'.ownsRow (G + 1) 3 1 v1 (reads_put has x sp xs).length (nums .i64 (reads_put has x sp xs)) ∧ Below G W w' := by
 obtain ⟨hc, hf⟩ := box_cell hG
 obtain ⟨A, c, rfl⟩ := own_slice hO
 by_cases hp : has = true ∧ (x < 31 ∨ sp = true)
 ·have e : reads_put has x sp xs = xs ++ [x] := if_pos hp
  rw [e]
  have HO := aq hO
  have HG := aq hG
  have HL := aq hl
  have HT := aq hlt
  obtain ⟨rfl, hx⟩ := hp
  clear hO hG hl hlt e
  by_cases h31 : x < 31
  ·go_enter Tryz.func90, Tryz.ntmps90
   go_wp2_with (first | ((with_reducible refine gate_builtin (b := .append) (xs := #[.tmp 15, .tmp 17]) rfl ?_); at_builtin; refine print_append_num (w0 := W) (G + 1) rfl (.tmp 15) (.tmp 17) 66 3 .i64 8 rfl Tryz.underlying66 info3 (by omega) (.slice A xs.length c) xs x rfl rfl HO.out (Below.refl _ _) HT.out (by have := HL.out; omega) ?_; intro v1 w1 hown hB _ _; obtain ⟨A1, c1, rfl⟩ := own_slice hown; have hG1 := (hB.block G (by omega)).trans HG.out; have HC1 := aq (own_set (u := .slice A1 (xs ++ [x]).length c1) hown); have HC2 := aq (box_set (u := .slice A1 (xs ++ [x]).length c1) hG1); have HC3 := aq hB; obtain ⟨hc1, hf1⟩ := box_cell hG1; clear hG1 hown hB))
   refine bodyPost_end (results_none rfl _ _ _) rfl ?_
   have e1 := HC1.out
   have e2 := HC2.out
   simp only [List.length_append, List.length_singleton] at e1 e2 ⊢
   exact ⟨trivial, _, e2, e1, (HC3.out.mono (Nat.le_succ _)).setCell (Nat.le_refl _) _⟩
  ·have hs : sp = true := hx.resolve_left h31
   subst hs
   clear hx
   go_enter Tryz.func90, Tryz.ntmps90
   go_wp2_with (first | ((with_reducible refine gate_builtin (b := .append) (xs := #[.tmp 15, .tmp 17]) rfl ?_); at_builtin; refine print_append_num (w0 := W) (G + 1) rfl (.tmp 15) (.tmp 17) 66 3 .i64 8 rfl Tryz.underlying66 info3 (by omega) (.slice A xs.length c) xs x rfl rfl HO.out (Below.refl _ _) HT.out (by have := HL.out; omega) ?_; intro v1 w1 hown hB _ _; obtain ⟨A1, c1, rfl⟩ := own_slice hown; have hG1 := (hB.block G (by omega)).trans HG.out; have HC1 := aq (own_set (u := .slice A1 (xs ++ [x]).length c1) hown); have HC2 := aq (box_set (u := .slice A1 (xs ++ [x]).length c1) hG1); have HC3 := aq hB; obtain ⟨hc1, hf1⟩ := box_cell hG1; clear hG1 hown hB))
   refine bodyPost_end (results_none rfl _ _ _) rfl ?_
   have e1 := HC1.out
   have e2 := HC2.out
   simp only [List.length_append, List.length_singleton] at e1 e2 ⊢
   exact ⟨trivial, _, e2, e1, (HC3.out.mono (Nat.le_succ _)).setCell (Nat.le_refl _) _⟩
 ·have e : reads_put has x sp xs = xs := if_neg hp
  rw [e]
  have HO := aq hO
  have HG := aq hG
  clear hO hl hlt e
  cases has
  ·go_enter Tryz.func90, Tryz.ntmps90
   go_wp2
   refine bodyPost_end (results_none rfl _ _ _) rfl ?_
   exact ⟨rfl, _, HG.out, HO.out, Below.refl _ _⟩
  ·have h31 : ¬ x < 31 := fun h => hp ⟨rfl, .inl h⟩
   have hs : sp = false := by cases sp; rfl; exact absurd ⟨rfl, .inr rfl⟩ hp
   subst hs
   clear hp
   go_enter Tryz.func90, Tryz.ntmps90
   go_wp2
   refine bodyPost_end (results_none rfl _ _ _) rfl ?_
   exact ⟨rfl, _, HG.out, HO.out, Below.refl _ _⟩
theorem own_holds {W : World} {base g n c : Nat} {xs : List Int} (h : W.ownsRow base 3 1 (.slice (some ⟨g, 0, none⟩) n c) n (nums .i64 xs)) : Sort.Holds (Value.int .i64) W g 0 xs.toArray ∧ g < W.heap.size ∧ base ≤ g ∧ xs.length = n ∧ n ≤ c := by
 have hl : xs.length = n := by have := h.1; simp [nums] at this; exact this
 rcases h.2 with ⟨h2, _⟩ | ⟨g', cap, cur, he, hg, hh, hn, hm, hs, ht⟩
 ·simp at h2
 ·simp at he
  obtain ⟨rfl, rfl⟩ := he
  refine ⟨fun j hj => ?_, (Array.getElem?_eq_some_iff.1 hh).1, hg, hl, hn⟩
  have hj' : j < xs.length := by simpa using hj
  have hcur : cur[j]? = some (.int .i64 xs[j]) := by
   have e := congrArg (·[j]?) ht
   simp only [nums, List.getElem?_map, List.getElem?_eq_getElem hj', Option.map_some] at e
   rw [List.getElem?_take_of_lt (by omega)] at e
   simpa using e
  constructor
  ·simp [World.cell?, hh, hcur, hj']
  ·simp [World.frozen?, hh]
theorem put_own {W : World} {base g n c q : Nat} {os : Array Obj} {xs ys : List Int} (h : W.ownsRow base 3 1 (.slice (some ⟨g, 0, none⟩) n c) n (nums .i64 xs)) (hy : ys.length = xs.length) :
  (Sort.grow (Sort.putRow (Value.int .i64) (Sort.ahead W q) g 0 ys.toArray) os).ownsRow base 3 1 (.slice (some ⟨g, 0, none⟩) n c) n (nums .i64 ys) ∧ Below g W (Sort.grow (Sort.putRow (Value.int .i64) (Sort.ahead W q) g 0 ys.toArray) os) := by
 have hl : xs.length = n := by have := h.1; simp [nums] at this; exact this
 rcases h.2 with ⟨h2, _⟩ | ⟨g', cap, cur, he, hg, hh, hn, hm, hs, ht⟩
 ·simp at h2
 ·simp at he
  obtain ⟨rfl, rfl⟩ := he
  have hlt : g < W.heap.size := (Array.getElem?_eq_some_iff.1 hh).1
  have hheap : ∀ k, k < W.heap.size → (Sort.grow (Sort.putRow (Value.int .i64) (Sort.ahead W q) g 0 ys.toArray) os).heap[k]? = if g = k then (W.heap[k]?).map (Sort.onCells (Sort.putCells (Value.int .i64) 0 ys.toArray)) else W.heap[k]? := by
   intro k hk
   rw [Sort.heap_grow_old _ _ (by simpa [Sort.putRow, Sort.mapBlock, Sort.ahead] using hk)]
   simp [Sort.putRow, Sort.mapBlock, Sort.ahead, Array.getElem?_modify]
  refine ⟨⟨by simp [nums]; omega, .inr ⟨g, c, Sort.putCells (Value.int .i64) 0 ys.toArray cur, rfl, hg, ?_, hn, hm, ?_, ?_⟩⟩, ?_⟩
  ·rw [hheap g hlt, if_pos rfl, hh]; rfl
  ·simp [Sort.putCells, hs]
  ·apply List.ext_getElem?
   intro j
   simp only [nums, List.getElem?_map]
   by_cases hj : j < n
   ·rw [List.getElem?_take_of_lt (by omega)]
    have hjc : j < cur.size := by omega
    simp [Sort.putCells, List.getElem?_eq_getElem (show j < ys.length by omega), hjc, show j < ys.length by omega]
   ·rw [List.getElem?_eq_none (by simp; omega), List.getElem?_eq_none (by omega)]; rfl
  ·exact ⟨rfl, rfl, rfl, by simp [Sort.grow, Sort.putRow, Sort.mapBlock, Sort.ahead], fun k hk => by rw [hheap k (by omega), if_neg (by omega)]⟩
theorem own_cut {W : World} {base g n c : Nat} {ys zs : List Int} (h : W.ownsRow base 3 1 (.slice (some ⟨g, 0, none⟩) n c) n (nums .i64 (ys ++ zs))) : W.ownsRow base 3 1 (.slice (some ⟨g, 0, none⟩) ys.length c) ys.length (nums .i64 ys) := by
 have hl : ys.length + zs.length = n := by have := h.1; simp [nums] at this; exact this
 rcases h.2 with ⟨h2, _⟩ | ⟨g', cap, cur, he, hg, hh, hn, hm, hs, ht⟩
 ·simp at h2
 ·simp at he
  obtain ⟨rfl, rfl⟩ := he
  refine ⟨by simp [nums], .inr ⟨g, c, cur, rfl, hg, hh, by omega, hm, hs, ?_⟩⟩
  have e := congrArg (List.take ys.length) ht
  rw [List.take_take, Nat.min_eq_left (by omega)] at e
  rw [Nat.mul_one, e]
  simp [nums]
theorem own_R {W : World} {base : Nat} {v : Value} {xs : List Int} (h : W.ownsRow base 3 1 v xs.length (nums .i64 xs)) : Kd.R (Kd.int .i64) 3 W base (fun _ => True) v xs := ⟨fun _ _ => trivial, nums .i64 _, h, Kd.reps_scalar _⟩
theorem lt_alloc_ (w : World) (o : Obj) : w.heap.size < (w.alloc o).heap.size := by
 show w.heap.size < (w.heap.push o).size
 rw [Array.size_push]; exact Nat.lt_succ_self _
theorem reads_sort {W : World} {base : Nat} {v : Value} {xs : List Int} (h : W.ownsRow base 3 1 v xs.length (nums .i64 xs)) (hl : xs.length ≤ 100) :
  Calls Tryz.prog 91 #[v] W fun e w' => e = .returned (.tuple #[]) ∧ w'.ownsRow base 3 1 v (xs.mergeSort fun x y => decide (x ≤ y)).length (nums .i64 (xs.mergeSort fun x y => decide (x ≤ y))) ∧ Below base W w' := by
 rcases h.2 with ⟨h1, h2⟩ | ⟨g, cap, cur, rfl, hg, hh, hn, hm, hs, ht⟩
 ·subst h1
  have h0 : xs = [] := List.length_eq_zero_iff.1 h2
  subst h0
  refine (Tryz.slices_Sort_int_none _ _ W).mono ?_
  rintro e w' ⟨rfl, rfl⟩
  exact ⟨rfl, by simpa using h, Below.refl _ _⟩
 ·obtain ⟨a1, a2, a3, a4, a5⟩ := own_holds h
  refine (Tryz.slices_Sort_int g 0 cap xs W a1 a2 (by omega)).mono ?_
  rintro e w' ⟨rfl, n, os, rfl⟩
  have p := put_own (q := n) (os := os) (ys := xs.mergeSort fun x y => decide (x ≤ y)) h (by simp)
  refine ⟨rfl, ?_, p.2.mono a3⟩
  have := p.1
  simpa using this
theorem reads_compact {W : World} {base : Nat} {v : Value} {xs : List Int} (h : W.ownsRow base 3 1 v xs.length (nums .i64 xs)) (hl : xs.length ≤ 100) :
  Calls Tryz.prog 92 #[v] W fun e w' => ∃ v', e = .returned v' ∧ w'.ownsRow base 3 1 v' (Lib.compact xs).length (nums .i64 (Lib.compact xs)) ∧ Below base W w' := by
 rcases h.2 with ⟨h1, h2⟩ | ⟨g, cap, cur, rfl, hg, hh, hn, hm, hs, ht⟩
 ·subst h1
  have h0 : xs = [] := List.length_eq_zero_iff.1 h2
  subst h0
  refine (Tryz.slices_Compact_int_empty _ _ W).mono ?_
  rintro e w' ⟨rfl, rfl⟩
  exact ⟨_, rfl, h, Below.refl _ _⟩
 ·obtain ⟨a1, a2, a3, a4, a5⟩ := own_holds h
  refine (Tryz.slices_Compact_int g 0 cap xs W a1 (by omega) (by omega)).mono ?_
  rintro e w' ⟨rfl, q, rfl⟩
  have hc := Lib.compact_length_le xs
  have p := put_own (q := q) (os := #[]) (ys := Lib.compact xs ++ List.replicate (xs.length - (Lib.compact xs).length) 0) h (by simp; omega)
  rw [Sort.grow_empty] at p
  have p1 := p.1
  exact ⟨_, rfl, own_cut p1, p.2.mono a3⟩
theorem own_down {W : World} {base base' n : Nat} {e : TypeId} {v : Value} {xs : List Value} (h : W.ownsRow base e 1 v n xs) (hb : base' ≤ base) : W.ownsRow base' e 1 v n xs :=
 ⟨h.1, h.2.imp id fun ⟨g, cap, cur, a, b, c⟩ => ⟨g, cap, cur, a, Nat.le_trans hb b, c⟩⟩
theorem alloc2_last (w : World) (o1 o2 : Obj) : ((w.alloc o1).alloc o2).heap[w.heap.size + 1]? = some o2 := by
 have e : w.heap.size + 1 = (w.alloc o1).heap.size := by show _ = (w.heap.push o1).size; rw [Array.size_push]
 rw [e]
 exact heap_last_ (w.alloc o1) o2
theorem alloc2_size (w : World) (o1 o2 : Obj) : w.heap.size + 1 + 1 ≤ ((w.alloc o1).alloc o2).heap.size := by
 show _ ≤ ((w.heap.push o1).push o2).size
 rw [Array.size_push, Array.size_push]
 exact Nat.le_refl _
theorem own_nil_ (w : World) (base : Nat) (e : TypeId) : w.ownsRow base e 1 (.slice none 0 0) ([] : List Int).length (nums .i64 []) := ⟨rfl, .inl ⟨rfl, rfl⟩⟩
theorem reads_own_le {W : World} {base m : Nat} {v : Value} {has sp : Bool} {x : Int} {xs : List Int} (_h : W.ownsRow base 3 1 v (reads_put has x sp xs).length (nums .i64 (reads_put has x sp xs))) (hl : xs.length ≤ m) : (reads_put has x sp xs).length ≤ m + 1 :=
 Nat.le_trans (reads_put_len has x sp xs) (Nat.succ_le_succ hl)
def reads_all (sd sn sm sa stack kp : Bool) (op d n m a : Int) : List Int :=
 reads_put (op == 37) 0 false (reads_put (kp || op == 3) d false (reads_put sa a false (reads_put sm m false (reads_put sn n stack []))))
def inst_Reads.f (k : Nat) (a0_0 a0_1 a0_2 a0_3 a0_4 a0_5 a0_6 a0_7 a0_8 a0_9 : Int) : Option (List Int) :=
 (inst_Is.f k a0_0 a0_1 a0_2 a0_3 a0_4 a0_5 a0_6 a0_7 a0_8 a0_9).bind fun t => if t = true then
  (inst_Shape.f a0_0).bind fun n => (inst_shapeOf.f n).bind fun s => (inst_keeps.f k a0_0).bind fun kp =>
   some (Lib.compact ((reads_all s.1 s.2.1 s.2.2.1 s.2.2.2.1 s.2.2.2.2.2.2.2.2.2.2.2 kp a0_0 a0_1 a0_2 a0_3 a0_4).mergeSort fun x y => decide (x ≤ y)))
 else some []
theorem inst_Reads.calls (k : Nat) (a0_0 a0_1 a0_2 a0_3 a0_4 a0_5 a0_6 a0_7 a0_8 a0_9 : Int) (r : List Int) (w : World) (h : inst_Reads.f k a0_0 a0_1 a0_2 a0_3 a0_4 a0_5 a0_6 a0_7 a0_8 a0_9 = some r) (hTab : TabW w := by first | exact hTab | exact TabW.drew hTab | exact TabW.drewN hTab _ | exact TabW.below hTab (by repeat (first | (with_reducible first | exact HB.out | apply below_alloc | apply pw_below_drewN | apply below_drew1) | refine Below.setCell ?_ (Aside0.out (by assumption)) _ | exact HB.out | exact Below.refl _ _))) :
  Calls Tryz.prog 31 #[.agg #[.int .i64 a0_0, .int .i64 a0_1, .int .i64 a0_2, .int .i64 a0_3, .int .i64 a0_4, .int .i64 a0_5, .int .u64 a0_6, .int .i64 a0_7, .int .i64 a0_8, .int .i64 a0_9]] w fun e w' => ∃ v0_ : Value, e = .returned (v0_) ∧ Kd.R (Kd.int .i64) 3 w' w.heap.size (fun _ => True) v0_ r ∧ Below w.heap.size w w' := by
 unfold inst_Reads.f at h
 obtain ⟨t, ht, h⟩ := Option.bind_eq_some_iff.mp h
 have A1 := aq ht
 have HT := aq (fun (W : World) (hb : Below w.heap.size w W) => TabW.below hTab hb)
 clear ht hTab
 by_cases c : t = true
 ·subst c
  rw [if_pos rfl] at h
  obtain ⟨n, h1, h⟩ := Option.bind_eq_some_iff.mp h
  obtain ⟨⟨r1, r2, r3, r4, r5, r6, r7, r8, r9, r10, r11, r12⟩, h2, h⟩ := Option.bind_eq_some_iff.mp h
  obtain ⟨kp, h3, h⟩ := Option.bind_eq_some_iff.mp h
  have A2 := aq h1
  have A3 := aq h2
  have A4 := aq h3
  have A5 := aq (Option.some.inj h)
  clear h1 h2 h3 h
  go_enter Tryz.func31, Tryz.ntmps31
  go_wp2_with (first | (go_at_call 90; refine (reads_putCalls _ _ _ _ _ _ _ HG.out HO.out (Nat.le_trans HL.out (by decide)) HS.out).mono ?_; rintro e W1 ⟨rfl, v1, g1, o1, b1⟩; have n1_ := aq ((b1.block w.heap.size (by have := HW.out; omega)).trans BK.out); have n2_ := aq (HB.out.trans (b1.mono (by have := HW.out; omega))); have n3_ := aq ((b1.block w3.heap.size (by omega)).trans S3.out); have n4_ := aq (Nat.le_trans HS.out b1.size); have n5_ := aq (reads_own_le o1 HL.out); have n6_ := aq g1; have n7_ := aq o1; clear BK HB S3 HG HO HS HL g1 o1 b1 hcB0 hcB1 hcB2 hcB3 hcB4 hcS0 hcS1 hcS2 hcS3 hcG hfG; have BK := n1_; have HB := n2_; have S3 := n3_; have HS := n4_; have HL := n5_; have HG := n6_; have HO := n7_; clear n1_ n2_ n3_ n4_ n5_ n6_ n7_; have hcB0 := (blk_cell BK.out 0).trans rfl; have hcB1 := (blk_cell BK.out 1).trans rfl; have hcB2 := (blk_cell BK.out 2).trans rfl; have hcB3 := (blk_cell BK.out 3).trans rfl; have hcB4 := (blk_cell BK.out 4).trans rfl; have hcS0 := (blk_cell S3.out 0).trans rfl; have hcS1 := (blk_cell S3.out 1).trans rfl; have hcS2 := (blk_cell S3.out 2).trans rfl; have hcS3 := (blk_cell S3.out 3).trans rfl; obtain ⟨hcG, hfG⟩ := box_cell HG.out) | (go_at_call 90; refine (reads_putCalls (w3.heap.size + 1) (.slice none 0 0) [] _ _ _ _ (alloc2_last _ _ _) (own_nil_ _ _ _) (Nat.zero_le _) (alloc2_size _ _ _)).mono ?_; rintro e W1 ⟨rfl, v1, g1, o1, b1⟩; have HW := aq (Array.getElem?_eq_some_iff.1 BK.out).1; have n1_ := aq ((b1.block w.heap.size (by have := HW.out; omega)).trans (blk_alloc (blk_alloc BK.out _) _)); have n2_ := aq ((below_alloc (below_alloc HB.out _) _).trans (b1.mono (by have := HW.out; omega))); have n3_ := aq ((b1.block w3.heap.size (by omega)).trans (blk_alloc (heap_last_ w3 _) _)); have n4_ := aq (Nat.le_trans (alloc2_size w3 _ _) b1.size); have n5_ := aq (show (reads_put r2 a0_2 r12 []).length ≤ 1 from reads_put_len r2 a0_2 r12 []); have n6_ := aq g1; have n7_ := aq o1; clear BK HB hq2 g1 o1 b1; have BK := n1_; have HB := n2_; have S3 := n3_; have HS := n4_; have HL := n5_; have HG := n6_; have HO := n7_; clear n1_ n2_ n3_ n4_ n5_ n6_ n7_; have hcB0 := (blk_cell BK.out 0).trans rfl; have hcB1 := (blk_cell BK.out 1).trans rfl; have hcB2 := (blk_cell BK.out 2).trans rfl; have hcB3 := (blk_cell BK.out 3).trans rfl; have hcB4 := (blk_cell BK.out 4).trans rfl; have hcS0 := (blk_cell S3.out 0).trans rfl; have hcS1 := (blk_cell S3.out 1).trans rfl; have hcS2 := (blk_cell S3.out 2).trans rfl; have hcS3 := (blk_cell S3.out 3).trans rfl; obtain ⟨hcG, hfG⟩ := box_cell HG.out) | (go_at_call 79; refine (inst_Is.calls _ _ _ _ _ _ _ _ _ _ _ _ _ A1.out (HT.out _ (below_alloc (Below.refl _ _) _))).mono ?_; rintro e w1 ⟨rfl, hb1⟩; have bk1 : w1.heap[w.heap.size]? = some (.cells #[.int .i64 a0_0, .int .i64 a0_1, .int .i64 a0_2, .int .i64 a0_3, .int .i64 a0_4, .int .i64 a0_5, .int .u64 a0_6, .int .i64 a0_7, .int .i64 a0_8, .int .i64 a0_9] 51 (0, 0)) := (hb1.block w.heap.size (lt_alloc_ w _)).trans (heap_last_ w _); have hcA := (blk_cell bk1 0).trans rfl; have BK := aq bk1; have HB := aq (below_step (below_alloc (Below.refl _ _) _) hb1); clear hb1 bk1) | (go_at_call 30; refine (inst_Shape.calls _ _ _ A2.out).mono ?_; rintro e w2 ⟨rfl, hb2⟩; have n1_ := aq (blk_below BK.out hb2); have n2_ := aq (below_step HB.out hb2); clear BK HB hcA hb2; have BK := n1_; have HB := n2_; clear n1_ n2_) | (go_at_call 88; refine (inst_shapeOf.calls _ _ _ _ _ _ _ _ _ _ _ _ _ _ A3.out).mono ?_; rintro e w3 ⟨rfl, hb3⟩; have n1_ := aq (blk_below BK.out hb3); have n2_ := aq (below_step HB.out hb3); clear BK HB hb3; have BK := n1_; have HB := n2_; clear n1_ n2_; have hq2 := fun o o' => (blk_cell (blk_alloc (blk_alloc BK.out o) o') 2).trans rfl) | (go_at_call 87; refine (inst_keeps.calls _ _ _ _ A4.out).mono ?_; rintro e W1 ⟨rfl, b1⟩; have n1_ := aq (blk_below BK.out b1); have n2_ := aq (below_step HB.out b1); have n3_ := aq (blk_below S3.out b1); have n4_ := aq (Nat.le_trans HS.out b1.size); have n6_ := aq (blk_below HG.out b1); have n7_ := aq (own_move HO.out fun k hk => b1.block k (own_lt HO.out k hk)); clear BK HB S3 HG HO HS b1 hcB0 hcB1 hcB2 hcB3 hcB4 hcS0 hcS1 hcS2 hcS3 hcG hfG; have BK := n1_; have HB := n2_; have S3 := n3_; have HS := n4_; have HG := n6_; have HO := n7_; clear n1_ n2_ n3_ n4_ n6_ n7_; have hcB0 := (blk_cell BK.out 0).trans rfl; have hcB1 := (blk_cell BK.out 1).trans rfl; have hcB2 := (blk_cell BK.out 2).trans rfl; have hcB3 := (blk_cell BK.out 3).trans rfl; have hcB4 := (blk_cell BK.out 4).trans rfl; have hcS0 := (blk_cell S3.out 0).trans rfl; have hcS1 := (blk_cell S3.out 1).trans rfl; have hcS2 := (blk_cell S3.out 2).trans rfl; have hcS3 := (blk_cell S3.out 3).trans rfl; obtain ⟨hcG, hfG⟩ := box_cell HG.out) | (go_at_call 91; refine (reads_sort HO.out (Nat.le_trans HL.out (by decide))).mono ?_; rintro e W1 ⟨rfl, o1, b1⟩; have n2_ := aq (HB.out.trans (b1.mono (by have := HW.out; omega))); have n6_ := aq ((b1.block (w3.heap.size + 1) (by omega)).trans HG.out); have n7_ := aq o1; clear BK HB S3 HG HO HS b1 o1 hcB0 hcB1 hcB2 hcB3 hcB4 hcS0 hcS1 hcS2 hcS3 hcG hfG; have HB := n2_; have HG := n6_; have HO := n7_; clear n2_ n6_ n7_; obtain ⟨hcG, hfG⟩ := box_cell HG.out) | (go_at_call 92; refine (reads_compact HO.out (by have := HL.out; simp; omega)).mono ?_; rintro e W1 ⟨v9, rfl, o1, b1⟩; have n2_ := aq (HB.out.trans (b1.mono (by have := HW.out; omega))); have n7_ := aq o1; clear HB HG HO b1 o1 hcG hfG; have HB := n2_; have HO := n7_; clear n2_ n7_))
  have n1_ := aq (blk_drew BK.out); have n2_ := aq (below_drew1 HB.out); have n3_ := aq (blk_drew S3.out); have n4_ := aq (show w3.heap.size + 1 + 1 ≤ W1.drew.heap.size from HS.out); have n6_ := aq (blk_drew HG.out); have n7_ := aq (own_move (w1 := W1.drew) HO.out fun k hk => rfl); clear BK HB S3 HG HO HS hcB0 hcB1 hcB2 hcB3 hcB4 hcS0 hcS1 hcS2 hcS3 hcG hfG; have BK := n1_; have HB := n2_; have S3 := n3_; have HS := n4_; have HG := n6_; have HO := n7_; clear n1_ n2_ n3_ n4_ n6_ n7_
  have hS0 : W1.drew.cell? ⟨w.heap.size, 0, none⟩ = some (.int .i64 a0_0) ∧ W1.drew.cell? ⟨w.heap.size, 1, none⟩ = some (.int .i64 a0_1) := ⟨(blk_cell BK.out 0).trans rfl, (blk_cell BK.out 1).trans rfl⟩
  cases kp
  ·go_region_held3 (fun w' => w'.cell? ⟨w.heap.size, 0, none⟩ = some (.int .i64 a0_0) ∧ w'.cell? ⟨w.heap.size, 1, none⟩ = some (.int .i64 a0_1)) (exact ⟨(blk_cell BK.out 0).trans rfl, (blk_cell BK.out 1).trans rfl⟩) (first | (go_at_call 87; refine (inst_keeps.calls _ _ _ _ A4.out).mono ?_; rintro e W2 ⟨rfl, b1⟩; have n1_ := aq (blk_below BK.out b1); have n2_ := aq (below_step HB.out b1); have n3_ := aq (blk_below S3.out b1); have n4_ := aq (Nat.le_trans HS.out b1.size); have n6_ := aq (blk_below HG.out b1); have n7_ := aq (own_move HO.out fun k hk => b1.block k (own_lt HO.out k hk)); clear BK HB S3 HG HO HS b1; have BK := n1_; have HB := n2_; have S3 := n3_; have HS := n4_; have HG := n6_; have HO := n7_; clear n1_ n2_ n3_ n4_ n6_ n7_) | (go_at_call 90; refine (reads_putCalls _ _ _ _ _ _ _ HG.out HO.out (Nat.le_trans HL.out (by decide)) HS.out).mono ?_; rintro e W3 ⟨rfl, v1, g1, o1, b1⟩; have n1_ := aq ((b1.block w.heap.size (by have := HW.out; omega)).trans BK.out); have n2_ := aq (HB.out.trans (b1.mono (by have := HW.out; omega))); have n3_ := aq ((b1.block w3.heap.size (by omega)).trans S3.out); have n4_ := aq (Nat.le_trans HS.out b1.size); have n5_ := aq (reads_own_le o1 HL.out); have n6_ := aq g1; have n7_ := aq o1; clear BK HB S3 HG HO HS HL g1 o1 b1; have BK := n1_; have HB := n2_; have S3 := n3_; have HS := n4_; have HL := n5_; have HG := n6_; have HO := n7_; clear n1_ n2_ n3_ n4_ n5_ n6_ n7_))
   have hcB0 := (blk_cell BK.out 0).trans rfl; have hcB1 := (blk_cell BK.out 1).trans rfl; have hcB2 := (blk_cell BK.out 2).trans rfl; have hcB3 := (blk_cell BK.out 3).trans rfl; have hcB4 := (blk_cell BK.out 4).trans rfl; have hcS0 := (blk_cell S3.out 0).trans rfl; have hcS1 := (blk_cell S3.out 1).trans rfl; have hcS2 := (blk_cell S3.out 2).trans rfl; have hcS3 := (blk_cell S3.out 3).trans rfl; obtain ⟨hcG, hfG⟩ := box_cell HG.out
   go_wp2_with (first | (go_at_call 90; refine (reads_putCalls _ _ _ _ _ _ _ HG.out HO.out (Nat.le_trans HL.out (by decide)) HS.out).mono ?_; rintro e W1 ⟨rfl, v1, g1, o1, b1⟩; have n1_ := aq ((b1.block w.heap.size (by have := HW.out; omega)).trans BK.out); have n2_ := aq (HB.out.trans (b1.mono (by have := HW.out; omega))); have n3_ := aq ((b1.block w3.heap.size (by omega)).trans S3.out); have n4_ := aq (Nat.le_trans HS.out b1.size); have n5_ := aq (reads_own_le o1 HL.out); have n6_ := aq g1; have n7_ := aq o1; clear BK HB S3 HG HO HS HL g1 o1 b1 hcB0 hcB1 hcB2 hcB3 hcB4 hcS0 hcS1 hcS2 hcS3 hcG hfG; have BK := n1_; have HB := n2_; have S3 := n3_; have HS := n4_; have HL := n5_; have HG := n6_; have HO := n7_; clear n1_ n2_ n3_ n4_ n5_ n6_ n7_; have hcB0 := (blk_cell BK.out 0).trans rfl; have hcB1 := (blk_cell BK.out 1).trans rfl; have hcB2 := (blk_cell BK.out 2).trans rfl; have hcB3 := (blk_cell BK.out 3).trans rfl; have hcB4 := (blk_cell BK.out 4).trans rfl; have hcS0 := (blk_cell S3.out 0).trans rfl; have hcS1 := (blk_cell S3.out 1).trans rfl; have hcS2 := (blk_cell S3.out 2).trans rfl; have hcS3 := (blk_cell S3.out 3).trans rfl; obtain ⟨hcG, hfG⟩ := box_cell HG.out) | (go_at_call 91; refine (reads_sort HO.out (Nat.le_trans HL.out (by decide))).mono ?_; rintro e W1 ⟨rfl, o1, b1⟩; have n2_ := aq (HB.out.trans (b1.mono (by have := HW.out; omega))); have n6_ := aq ((b1.block (w3.heap.size + 1) (by omega)).trans HG.out); have n7_ := aq o1; clear BK HB S3 HG HO HS b1 o1 hcB0 hcB1 hcB2 hcB3 hcB4 hcS0 hcS1 hcS2 hcS3 hcG hfG; have HB := n2_; have HG := n6_; have HO := n7_; clear n2_ n6_ n7_; obtain ⟨hcG, hfG⟩ := box_cell HG.out) | (go_at_call 92; refine (reads_compact HO.out (by have := HL.out; simp; omega)).mono ?_; rintro e W1 ⟨v9, rfl, o1, b1⟩; have n2_ := aq (HB.out.trans (b1.mono (by have := HW.out; omega))); have n7_ := aq o1; clear HB HG HO b1 o1 hcG hfG; have HB := n2_; have HO := n7_; clear n2_ n7_))
   go_ret
   have ee := A5.out
   have oo := HO.out
   have hw := HW.out
   rw [← ee]
   exact ⟨_, rfl, own_R (own_down oo (by omega)), HB.out⟩
  ·clear hS0
   refine start_ (n := 12) (S := (fun w' => w'.cell? ⟨w.heap.size, 0, none⟩ = some (.int .i64 a0_0) ∧ w'.cell? ⟨w.heap.size, 1, none⟩ = some (.int .i64 a0_1))) (ds := []) #[false, false, false, false, false, false, false, false, false, false, false, false] (by kernel_rfl) rfl rfl ⟨(blk_cell BK.out 0).trans rfl, (blk_cell BK.out 1).trans rfl⟩ (fun hHeld => ?_)
   generalize W1.drew = W1 at BK HB S3 HS HG HO hHeld ⊢
   refine pure_ (i := 0) (N := some 34) (v := ?_) (a' := ?_) #[true, false, false, false, false, false, false, false, false, false, false, false] rfl rfl (by kernel_rfl) (fun _ _ _ h => h) (Or.inl ⟨by rfl, ?_⟩) ?_ ?_
   rotate_left
   ·intro w'
    go_simp
    with_reducible rfl
   rotate_left
   ·simp only [Act.put, lq, lz, ls, i64_w, i32_w]
    rfl
   refine pure_ (i := 1) (N := some 35) (v := ?_) (a' := ?_) #[true, true, false, false, false, false, false, false, false, false, false, false] rfl rfl (by kernel_rfl) (fun _ _ _ h => h) (Or.inl ⟨by rfl, ?_⟩) ?_ ?_
   rotate_left
   ·intro w'
    go_simp
    with_reducible rfl
   rotate_left
   ·simp only [Act.put, lq, lz, ls, i64_w, i32_w]
    rfl
   refine pure_ (i := 9) (N := some 43) (v := ?_) (a' := ?_) #[true, true, false, false, false, false, false, false, false, true, false, false] rfl rfl (by kernel_rfl) (fun _ _ _ h => h) (Or.inl ⟨by rfl, ?_⟩) ?_ ?_
   rotate_left
   ·intro w'
    go_simp
    with_reducible rfl
   rotate_left
   ·simp only [Act.put, lq, lz, ls, i64_w, i32_w]
    rfl
   refine take_ (i := 2) (N := some 36) (v := ?_) (a' := ?_) #[true, true, true, false, false, false, false, false, false, true, false, false] rfl rfl (by kernel_rfl) (fun _ _ _ h => h) (Or.inl ⟨by rfl, ?_⟩) hHeld ?_ ?_
   rotate_left
   ·rintro w' ⟨s0, s1⟩
    go_simp
    with_reducible rfl
   rotate_left
   ·simp only [Act.put, lq, lz, ls, i64_w, i32_w]
    rfl
   refine take_ (i := 10) (N := some 44) (v := ?_) (a' := ?_) #[true, true, true, false, false, false, false, false, false, true, true, false] rfl rfl (by kernel_rfl) (fun _ _ _ h => h) (Or.inl ⟨by rfl, ?_⟩) hHeld ?_ ?_
   rotate_left
   ·rintro w' ⟨s0, s1⟩
    go_simp
    with_reducible rfl
   rotate_left
   ·simp only [Act.put, lq, lz, ls, i64_w, i32_w]
    rfl
   refine one_ (i := 3) (N := some 37) #[true, true, true, true, false, false, false, false, false, true, true, false] rfl rfl (by kernel_rfl) (by decide) (fun K hK => ?_)
   refine call_ 87 #[.int .i64 a0_0] (by rfl) rfl (by unfold execOp; go_simp) ?_
   refine (inst_keeps.calls _ _ _ _ A4.out).mono ?_
   rintro e W2 ⟨rfl, b1⟩
   have n1_ := aq (blk_below BK.out b1)
   have n2_ := aq (below_step HB.out b1)
   have n3_ := aq (blk_below S3.out b1)
   have n4_ := aq (Nat.le_trans HS.out b1.size)
   have n6_ := aq (blk_below HG.out b1)
   have n7_ := aq (own_move HO.out fun k hk => b1.block k (own_lt HO.out k hk))
   clear BK HB S3 HG HO HS b1
   have BK := n1_
   have HB := n2_
   have S3 := n3_
   have HS := n4_
   have HG := n6_
   have HO := n7_
   clear n1_ n2_ n3_ n4_ n6_ n7_
   refine ⟨_, rfl, ?_⟩
   refine hK.out _ _ ⟨(blk_cell BK.out 0).trans rfl, (blk_cell BK.out 1).trans rfl⟩ (fun hHeld => ?_)
   clear hK K
   refine norm_ (a' := ?_) ?_ ?_
   rotate_left
   ·show Act.put _ (some 37) _ = _
    simp only [Act.put, lq, lz, ls, i64_w, i32_w]
    rfl
   refine pure_ (i := 4) (N := some 38) (v := ?_) (a' := ?_) #[true, true, true, true, true, false, false, false, false, true, true, false] rfl rfl (by kernel_rfl) (fun _ _ _ h => h) (Or.inl ⟨by rfl, ?_⟩) ?_ ?_
   rotate_left
   ·intro w'
    go_simp
    with_reducible rfl
   rotate_left
   ·simp only [Act.put, lq, lz, ls, i64_w, i32_w]
    rfl
   refine pure_ (i := 5) (N := some 39) (v := undef) (a' := ?_) #[true, true, true, true, true, true, false, false, false, true, true, false] rfl rfl (by kernel_rfl) (fun _ _ _ h => h) (Or.inr ⟨by rfl, rfl⟩) ?_ ?_
   rotate_left
   ·simp only [Act.put, lq, lz, ls, i64_w, i32_w]
    rfl
   refine pure_ (i := 6) (N := some 40) (v := undef) (a' := ?_) #[true, true, true, true, true, true, true, false, false, true, true, false] rfl rfl (by kernel_rfl) (fun _ _ _ h => h) (Or.inr ⟨by rfl, rfl⟩) ?_ ?_
   rotate_left
   ·simp only [Act.put, lq, lz, ls, i64_w, i32_w]
    rfl
   refine pure_ (i := 7) (N := some 41) (v := undef) (a' := ?_) #[true, true, true, true, true, true, true, true, false, true, true, false] rfl rfl (by kernel_rfl) (fun _ _ _ h => h) (Or.inr ⟨by rfl, rfl⟩) ?_ ?_
   rotate_left
   ·simp only [Act.put, lq, lz, ls, i64_w, i32_w]
    rfl
   refine pure_ (i := 8) (N := some 42) (v := ?_) (a' := ?_) #[true, true, true, true, true, true, true, true, true, true, true, false] rfl rfl (by kernel_rfl) (fun _ _ _ h => h) (Or.inl ⟨by rfl, ?_⟩) ?_ ?_
   rotate_left
   ·intro w'
    go_simp
    with_reducible rfl
   rotate_left
   ·simp only [Act.put, lq, lz, ls, i64_w, i32_w]
    rfl
   refine one_ (i := 11) (N := some 45) #[true, true, true, true, true, true, true, true, true, true, true, true] rfl rfl (by kernel_rfl) (by decide) (fun K hK => ?_)
   refine call_ 90 #[.bool true, .int .i64 a0_1, .bool false, .pointer (some ⟨w3.heap.size + 1, 0, none⟩)] (by rfl) rfl (by unfold execOp; go_simp) ?_
   refine (reads_putCalls _ _ _ _ _ _ _ HG.out HO.out (Nat.le_trans HL.out (by decide)) HS.out).mono ?_
   rintro e W3 ⟨rfl, v1, g1, o1, b1⟩
   have n1_ := aq ((b1.block w.heap.size (by have := HW.out; omega)).trans BK.out)
   have n2_ := aq (HB.out.trans (b1.mono (by have := HW.out; omega)))
   have n3_ := aq ((b1.block w3.heap.size (by omega)).trans S3.out)
   have n4_ := aq (Nat.le_trans HS.out b1.size)
   have n5_ := aq (reads_own_le o1 HL.out)
   have n6_ := aq g1
   have n7_ := aq o1
   clear BK HB S3 HG HO HS HL g1 o1 b1
   have BK := n1_
   have HB := n2_
   have S3 := n3_
   have HS := n4_
   have HL := n5_
   have HG := n6_
   have HO := n7_
   clear n1_ n2_ n3_ n4_ n5_ n6_ n7_
   refine ⟨_, rfl, ?_⟩
   refine hK.out _ _ ⟨(blk_cell BK.out 0).trans rfl, (blk_cell BK.out 1).trans rfl⟩ (fun hHeld => ?_)
   clear hK K
   refine norm_ (a' := ?_) ?_ ?_
   rotate_left
   ·show Act.put _ (some 45) _ = _
    simp only [Act.put, lq, lz, ls, i64_w, i32_w]
    rfl
   refine done_ (by kernel_rfl) ?_
   have hcB0 := (blk_cell BK.out 0).trans rfl; have hcB1 := (blk_cell BK.out 1).trans rfl; have hcB2 := (blk_cell BK.out 2).trans rfl; have hcB3 := (blk_cell BK.out 3).trans rfl; have hcB4 := (blk_cell BK.out 4).trans rfl; have hcS0 := (blk_cell S3.out 0).trans rfl; have hcS1 := (blk_cell S3.out 1).trans rfl; have hcS2 := (blk_cell S3.out 2).trans rfl; have hcS3 := (blk_cell S3.out 3).trans rfl; obtain ⟨hcG, hfG⟩ := box_cell HG.out
   go_wp2_with (first | (go_at_call 90; refine (reads_putCalls _ _ _ _ _ _ _ HG.out HO.out (Nat.le_trans HL.out (by decide)) HS.out).mono ?_; rintro e W1 ⟨rfl, v1, g1, o1, b1⟩; have n1_ := aq ((b1.block w.heap.size (by have := HW.out; omega)).trans BK.out); have n2_ := aq (HB.out.trans (b1.mono (by have := HW.out; omega))); have n3_ := aq ((b1.block w3.heap.size (by omega)).trans S3.out); have n4_ := aq (Nat.le_trans HS.out b1.size); have n5_ := aq (reads_own_le o1 HL.out); have n6_ := aq g1; have n7_ := aq o1; clear BK HB S3 HG HO HS HL g1 o1 b1 hcB0 hcB1 hcB2 hcB3 hcB4 hcS0 hcS1 hcS2 hcS3 hcG hfG; have BK := n1_; have HB := n2_; have S3 := n3_; have HS := n4_; have HL := n5_; have HG := n6_; have HO := n7_; clear n1_ n2_ n3_ n4_ n5_ n6_ n7_; have hcB0 := (blk_cell BK.out 0).trans rfl; have hcB1 := (blk_cell BK.out 1).trans rfl; have hcB2 := (blk_cell BK.out 2).trans rfl; have hcB3 := (blk_cell BK.out 3).trans rfl; have hcB4 := (blk_cell BK.out 4).trans rfl; have hcS0 := (blk_cell S3.out 0).trans rfl; have hcS1 := (blk_cell S3.out 1).trans rfl; have hcS2 := (blk_cell S3.out 2).trans rfl; have hcS3 := (blk_cell S3.out 3).trans rfl; obtain ⟨hcG, hfG⟩ := box_cell HG.out) | (go_at_call 91; refine (reads_sort HO.out (Nat.le_trans HL.out (by decide))).mono ?_; rintro e W1 ⟨rfl, o1, b1⟩; have n2_ := aq (HB.out.trans (b1.mono (by have := HW.out; omega))); have n6_ := aq ((b1.block (w3.heap.size + 1) (by omega)).trans HG.out); have n7_ := aq o1; clear BK HB S3 HG HO HS b1 o1 hcB0 hcB1 hcB2 hcB3 hcB4 hcS0 hcS1 hcS2 hcS3 hcG hfG; have HB := n2_; have HG := n6_; have HO := n7_; clear n2_ n6_ n7_; obtain ⟨hcG, hfG⟩ := box_cell HG.out) | (go_at_call 92; refine (reads_compact HO.out (by have := HL.out; simp; omega)).mono ?_; rintro e W1 ⟨v9, rfl, o1, b1⟩; have n2_ := aq (HB.out.trans (b1.mono (by have := HW.out; omega))); have n7_ := aq o1; clear HB HG HO b1 o1 hcG hfG; have HB := n2_; have HO := n7_; clear n2_ n7_))
   go_ret
   have ee := A5.out
   have oo := HO.out
   have hw := HW.out
   rw [← ee]
   exact ⟨_, rfl, own_R (own_down oo (by omega)), HB.out⟩
 ·rw [if_neg c] at h
  have A5 := aq (Option.some.inj h)
  obtain rfl : t = false := by simpa using c
  clear h c
  go_enter Tryz.func31, Tryz.ntmps31
  go_wp2_with (first | (go_at_call 79; refine (inst_Is.calls _ _ _ _ _ _ _ _ _ _ _ _ _ A1.out (HT.out _ (below_alloc (Below.refl _ _) _))).mono ?_; rintro e w1 ⟨rfl, hb1⟩; have HB := aq (below_step (below_alloc (Below.refl _ _) _) hb1); clear hb1))
  go_ret
  rw [← A5.out]
  exact ⟨_, rfl, own_R (own_nil_ _ _ _), HB.out⟩
end Go.Proofs.YtblnfngigdipcaaGreatDoor.P
namespace Go.Proofs.YtblnfngigdipcaaGreatDoor.M
open Go.RowKit Go.Proofs.YtblnfngigdipcaaGreatDoor.P Go.Proofs.YtblnfngigdipcaaGreatDoorW.PrintWords Go.Proofs.YtblnfngigdipcaaGreatDoorW.PrintLast Go.Proofs.YtblnfngigdipcaaGreatDoorW.PrintMore
theorem w64s (x : Int) (h0 : -9223372036854775808 ≤ x) (h1 : x < 9223372036854775808) : wrap64 x = x := by unfold wrap64; omega
def insR (v : Int) : Bool → List Int → List Int
 | done, [] => if done then [] else [v]
 | done, x :: xs => (if done = false ∧ v < x then [v] else []) ++ x :: insR v (done || decide (v ≤ x)) xs
theorem insR_done (v : Int) : ∀ l, insR v true l = l
 | [] => rfl
 | x :: xs => by simp [insR, insR_done v xs]
theorem insR_len (v : Int) : ∀ (l : List Int) (b : Bool), (insR v b l).length ≤ l.length + 1
 | [], b => by unfold insR; split <;> simp
 | x :: xs, b => by
  unfold insR
  cases b
  ·by_cases h : v < x
   ·rw [show (false || decide (v ≤ x)) = true by simp; omega, insR_done]
    simp [h]
   ·have := insR_len v xs (false || decide (v ≤ x))
    simp [h] at this ⊢
    omega
  ·rw [Bool.true_or, insR_done]; simp
theorem insR_mem (v y : Int) : ∀ l, y ∈ insR v false l ↔ y = v ∨ y ∈ l
 | [] => by simp [insR]
 | x :: xs => by
  unfold insR
  by_cases h : v < x
  ·rw [show (false || decide (v ≤ x)) = true by simp; omega, insR_done]
   simp [h]
  ·by_cases h2 : v ≤ x
   ·rw [show (false || decide (v ≤ x)) = true by simp; omega, insR_done]
    have : v = x := by omega
    subst this
    simp
   ·rw [show (false || decide (v ≤ x)) = false by simp; omega]
    simp [h, insR_mem v y xs]
    constructor
    ·rintro (h | h | h) <;> simp [h]
    ·rintro (h | h | h) <;> simp [h]
theorem insR_lt (v : Int) : ∀ l : List Int, l.Pairwise (· < ·) → (insR v false l).Pairwise (· < ·)
 | [], _ => by simp [insR]
 | x :: xs, hp => by
  have hp' := List.pairwise_cons.1 hp
  unfold insR
  by_cases h : v < x
  ·rw [show (false || decide (v ≤ x)) = true by simp; omega, insR_done]
   simp only [h, and_self, if_true, List.cons_append, List.nil_append]
   refine List.pairwise_cons.2 ⟨fun z hz => ?_, hp⟩
   rcases List.mem_cons.1 hz with rfl | hz
   ·exact h
   ·have := hp'.1 z hz; omega
  ·by_cases h2 : v ≤ x
   ·rw [show (false || decide (v ≤ x)) = true by simp; omega, insR_done]
    simpa [h] using hp
   ·rw [show (false || decide (v ≤ x)) = false by simp; omega]
    simp only [h, and_false, if_false, List.nil_append]
    refine List.pairwise_cons.2 ⟨fun z hz => ?_, insR_lt v xs hp'.2⟩
    rcases (insR_mem v z xs).1 hz with rfl | hz
    ·omega
    ·exact hp'.1 z hz
theorem rising_eq : ∀ (a b : List Int), a.Pairwise (· < ·) → b.Pairwise (· < ·) → (∀ x, x ∈ a ↔ x ∈ b) → a = b
 | [], [], _, _, _ => rfl
 | [], y :: ys, _, _, h => by have := (h y).2 (by simp); simp at this
 | x :: xs, [], _, _, h => by have := (h x).1 (by simp); simp at this
 | x :: xs, y :: ys, ha, hb, h => by
  have ha' := List.pairwise_cons.1 ha
  have hb' := List.pairwise_cons.1 hb
  have e : x = y := by
   rcases List.mem_cons.1 ((h x).1 (by simp)) with e | e
   ·exact e
   ·rcases List.mem_cons.1 ((h y).2 (by simp)) with e2 | e2
    ·exact e2.symm
    ·have h1 := hb'.1 x e
     have h2 := ha'.1 y e2
     omega
  subst e
  rw [rising_eq xs ys ha'.2 hb'.2 fun z => ?_]
  constructor
  ·intro hz
   rcases List.mem_cons.1 ((h z).1 (by simp [hz])) with e | e
   ·subst e; have := ha'.1 z hz; omega
   ·exact e
  ·intro hz
   rcases List.mem_cons.1 ((h z).2 (by simp [hz])) with e | e
   ·subst e; have := hb'.1 z hz; omega
   ·exact e
theorem compact_inv (d : Array Int) (hs : ∀ i j, i ≤ j → j < d.size → d[i]! ≤ d[j]!) : ∀ m, m ≤ d.size →
  (∀ x ∈ Lib.compactUpTo d m, ∃ j, j < m ∧ d[j]! = x) ∧ (∀ j, j < m → d[j]! ∈ Lib.compactUpTo d m) ∧ (Lib.compactUpTo d m).Pairwise (· < ·)
 | 0, _ => by simp [Lib.compactUpTo]
 | m + 1, hm => by
  obtain ⟨h1, h2, h3⟩ := compact_inv d hs m (by omega)
  rw [Lib.compactUpTo_succ]
  by_cases hk : Lib.keeps d m = true
  ·rw [if_pos hk]
   simp only [Lib.keeps, decide_eq_true_eq] at hk
   refine ⟨fun x hx => ?_, fun j hj => ?_, ?_⟩
   ·rcases List.mem_append.1 hx with hx | hx
    ·obtain ⟨j, hj, e⟩ := h1 x hx; exact ⟨j, by omega, e⟩
    ·exact ⟨m, by omega, (List.mem_singleton.1 hx).symm⟩
   ·by_cases e : j = m
    ·subst e; simp
    ·exact List.mem_append_left _ (h2 j (by omega))
   ·refine List.pairwise_append.2 ⟨h3, by simp, fun x hx y hy => ?_⟩
    obtain rfl := List.mem_singleton.1 hy
    obtain ⟨j, hj, rfl⟩ := h1 x hx
    rcases hk with hk | hk
    ·omega
    ·have a := hs j (m - 1) (by omega) (by omega)
     have b := hs (m - 1) m (by omega) (by omega)
     omega
  ·rw [if_neg hk, List.append_nil]
   have hk' : m ≠ 0 ∧ d[m]! = d[m - 1]! := by
    simp only [Lib.keeps, decide_eq_true_eq] at hk
    exact ⟨fun h => hk (.inl h), Classical.byContradiction fun h => hk (.inr h)⟩
   refine ⟨fun x hx => ?_, fun j hj => ?_, h3⟩
   ·obtain ⟨j, hj, e⟩ := h1 x hx; exact ⟨j, by omega, e⟩
   ·by_cases e : j = m
    ·subst e; rw [hk'.2]; exact h2 _ (by omega)
    ·exact h2 j (by omega)
theorem sortc_spec (l : List Int) : (∀ x, x ∈ Lib.compact (l.mergeSort fun x y => decide (x ≤ y)) ↔ x ∈ l) ∧ (Lib.compact (l.mergeSort fun x y => decide (x ≤ y))).Pairwise (· < ·) := by
 have hs : (l.mergeSort fun x y => decide (x ≤ y)).Pairwise (fun x y => decide (x ≤ y) = true) :=
  List.pairwise_mergeSort (fun a b c h1 h2 => by simp at *; omega) (fun a b => by simp; omega) l
 generalize hz : (l.mergeSort fun x y => decide (x ≤ y)) = z at *
 have hm : ∀ x, x ∈ z ↔ x ∈ l := fun x => by rw [← hz]; exact List.mem_mergeSort
 have hs' : ∀ i j, i ≤ j → j < z.toArray.size → z.toArray[i]! ≤ z.toArray[j]! := by
  intro i j hij hj
  have hj' : j < z.length := by simpa using hj
  rw [getElem!_pos z.toArray i (by simp; omega), getElem!_pos z.toArray j hj]
  by_cases e : i = j
  ·subst e; exact Int.le_refl _
  ·have := List.pairwise_iff_getElem.1 hs i j (by omega) hj' (by omega)
   simpa using this
 obtain ⟨h1, h2, h3⟩ := compact_inv z.toArray hs' z.length (by simp)
 refine ⟨fun x => ?_, h3⟩
 rw [← hm]
 constructor
 ·intro hx
  obtain ⟨j, hj, e⟩ := h1 x hx
  rw [getElem!_pos z.toArray j (by simpa using hj)] at e
  rw [← e]; simp
 ·intro hx
  obtain ⟨j, hj, e⟩ := List.mem_iff_getElem.1 hx
  have := h2 j hj
  rw [getElem!_pos z.toArray j (by simpa using hj)] at this
  rw [← e]
  have h' : z[j] ∈ Lib.compactUpTo z.toArray z.length := by simpa using this
  exact h'
theorem index_loop (l : List Int) (v : Int) (h : l.length < 1000) : ∀ (n i k : Nat), l.length - i = n → i ≤ l.length → n + 1 ≤ k →
  ∃ r, slices_Index_int_int.l0 k l v (l.length : Int) (i : Int) = some r ∧ (r ≥ 0 ↔ v ∈ l.drop i)
 | 0, i, k, hn, hi, hk => by
  obtain ⟨k, rfl⟩ : ∃ m, k = m + 1 := ⟨k - 1, by omega⟩
  simp only [slices_Index_int_int.l0]
  rw [if_neg (by omega), List.drop_eq_nil_of_le (by omega)]
  exact ⟨_, rfl, by simp⟩
 | n + 1, i, k, hn, hi, hk => by
  obtain ⟨k, rfl⟩ : ∃ m, k = m + 1 := ⟨k - 1, by omega⟩
  have hd : l.drop i = rd l (i : Int) :: l.drop (i + 1) := by
   rw [List.drop_eq_getElem_cons (show i < l.length by omega)]
   congr 1
   show l[i] = l.getD ((i : Int).toNat) 0
   rw [Int.toNat_natCast, List.getD_eq_getElem?_getD, List.getElem?_eq_getElem (show i < l.length by omega)]
   rfl
  simp only [slices_Index_int_int.l0]
  rw [if_pos (by omega), if_pos (by omega), if_pos (by omega), hd]
  by_cases hv : v = rd l (i : Int)
  ·rw [if_pos hv]
   exact ⟨_, rfl, by simp [hv]⟩
  ·rw [if_neg hv, w64s _ (by omega) (by omega)]
   obtain ⟨r, h1, h2⟩ := index_loop l v h n (i + 1) k (by omega) (by omega) (by omega)
   exact ⟨r, h1, by rw [h2]; simp [hv]⟩
theorem contains_at (k : Nat) (l : List Int) (v : Int) (h : l.length < 1000) (hk : l.length + 1 ≤ k) : slices_Contains_int_int.f k l v = some (decide (v ∈ l)) := by
 obtain ⟨r, h1, h2⟩ := index_loop l v h l.length 0 k (by omega) (by omega) hk
 unfold slices_Contains_int_int.f slices_Index_int_int.f
 have e : slices_Index_int_int.l0 k l v (l.length : Int) 0 = some r := h1
 rw [e, Option.bind_some]
 congr 1
 rw [Bool.eq_iff_iff]
 simpa using h2
def keepB (op : Int) : Bool := decide (op ∈ [(23 : Int), 25, 32, 33])
theorem keeps_at (k : Nat) (hk : 5 ≤ k) (op : Int) : inst_keeps.f k op = some (keepB op) := by
 unfold inst_keeps.f
 rw [contains_at k _ op (by simp) (by simp; omega), Option.bind_some]
 rfl
def spB (op : Int) : Bool := decide (op ∈ [(4 : Int), 5, 8, 9, 10])
def wrV (ok : Bool) (op d : Int) : Int × Bool :=
 if ok = false ∨ keepB op = true then (0, false) else if op = 30 ∨ op = 35 then (30, true) else if (inst_sh (shapeN op)).1 = false ∨ (d = 31 ∧ spB op = false) then (0, false) else (d, true)
theorem writes_at (k : Nat) (hk : 10 ≤ k) (op d n m a imm mask shift amount cond : Int) (ok : Bool) (hI : inst_Is.f k op d n m a imm mask shift amount cond = some ok) : inst_Writes.f k op d n m a imm mask shift amount cond = some (wrV ok op d) := by
 obtain ⟨k, rfl⟩ : ∃ m, k = m + 3 := ⟨k - 3, by omega⟩
 unfold inst_Writes.f
 rw [contains_at _ _ op (by simp) (by simp; omega), Option.bind_some, hI, Option.bind_some]
 rw [show decide (op ∈ [(4 : Int), 5, 8, 9, 10]) = spB op from rfl]
 have hj1 : ∀ b : Bool, inst_Writes.j1 (k + 2) (spB op) b op d n m a imm mask shift amount cond = some (if b = true then (30, true) else if (inst_sh (shapeN op)).1 = false ∨ (d = 31 ∧ spB op = false) then (0, false) else (d, true)) := by
  intro b
  simp only [inst_Writes.j1, shape_at, Option.bind_some, shapeOf_at _ (shapeN_le op), inst_Writes.j2]
  cases b <;> cases (inst_sh (shapeN op)).1 <;> cases spB op <;> by_cases hd : d = 31 <;> simp [hd]
 have hj0 : ∀ b : Bool, inst_Writes.j0 (k + 3) (spB op) b op d n m a imm mask shift amount cond = some (if b = true then (0, false) else if op = 30 ∨ op = 35 then (30, true) else if (inst_sh (shapeN op)).1 = false ∨ (d = 31 ∧ spB op = false) then (0, false) else (d, true)) := by
  intro b
  simp only [inst_Writes.j0, hj1]
  cases b
  ·by_cases h30 : op = 30
   ·simp [h30]
   ·by_cases h35 : op = 35 <;> simp [h30, h35]
  ·simp
 unfold wrV
 cases ok
 ·rw [if_neg (by decide), hj0]; simp
 ·rw [if_pos rfl, keeps_at _ (by omega), Option.bind_some, hj0]
  cases keepB op <;> simp
def rdL (op d n m a : Int) : List Int := reads_all (inst_sh (shapeN op)).1 (inst_sh (shapeN op)).2.1 (inst_sh (shapeN op)).2.2.1 (inst_sh (shapeN op)).2.2.2.1 (inst_sh (shapeN op)).2.2.2.2.2.2.2.2.2.2.2 (keepB op) op d n m a
def rdV (ok : Bool) (op d n m a : Int) : List Int := if ok = true then Lib.compact ((rdL op d n m a).mergeSort fun x y => decide (x ≤ y)) else []
theorem reads_at (k : Nat) (hk : 5 ≤ k) (op d n m a imm mask shift amount cond : Int) (ok : Bool) (hI : inst_Is.f k op d n m a imm mask shift amount cond = some ok) : inst_Reads.f k op d n m a imm mask shift amount cond = some (rdV ok op d n m a) := by
 unfold inst_Reads.f rdV
 rw [hI, Option.bind_some]
 cases ok
 ·rfl
 ·rw [if_pos rfl, if_pos rfl, shape_at, Option.bind_some, shapeOf_at _ (shapeN_le op), Option.bind_some, keeps_at k hk, Option.bind_some]
  rfl
def rput (c : Bool) (v : Int) (l : List Int) : List Int := if c = true then insR v false l else l
theorem rput_len (c : Bool) (v : Int) (l : List Int) : (rput c v l).length ≤ l.length + 1 := by unfold rput; split; exact insR_len v l false; omega
theorem rput_mem (c : Bool) (v : Int) (l : List Int) (x : Int) : x ∈ rput c v l ↔ (c = true ∧ x = v) ∨ x ∈ l := by
 unfold rput
 cases c
 ·simp
 ·simp [insR_mem]
theorem rput_lt (c : Bool) (v : Int) (l : List Int) (h : l.Pairwise (· < ·)) : (rput c v l).Pairwise (· < ·) := by
 unfold rput
 split
 ·exact insR_lt v l h
 ·exact h
theorem reads_put_mem (has : Bool) (v : Int) (sp : Bool) (l : List Int) (x : Int) : x ∈ reads_put has v sp l ↔ ((has && (decide (v < 31) || sp)) = true ∧ x = v) ∨ x ∈ l := by
 unfold reads_put
 by_cases h : has = true ∧ (v < 31 ∨ sp = true)
 ·rw [if_pos h]
  have : (has && (decide (v < 31) || sp)) = true := by simpa using h
  rw [this]
  simp [or_comm]
 ·rw [if_neg h]
  have : (has && (decide (v < 31) || sp)) = false := by
   rw [← Bool.not_eq_true]; simpa using h
  rw [this]
  simp
def refR (op d n m a : Int) : List Int :=
 rput (op == 37) 0 (rput (decide (d < 31) && (keepB op || op == 3)) d (rput ((inst_sh (shapeN op)).2.2.2.1 && decide (a < 31)) a (rput ((inst_sh (shapeN op)).2.2.1 && decide (m < 31)) m (rput ((inst_sh (shapeN op)).2.1 && (decide (n < 31) || (inst_sh (shapeN op)).2.2.2.2.2.2.2.2.2.2.2)) n []))))
theorem refR_lt (op d n m a : Int) : (refR op d n m a).Pairwise (· < ·) := rput_lt _ _ _ (rput_lt _ _ _ (rput_lt _ _ _ (rput_lt _ _ _ (rput_lt _ _ _ List.Pairwise.nil))))
theorem refR_len (op d n m a : Int) : (refR op d n m a).length ≤ 5 := by
 unfold refR
 refine Nat.le_trans (rput_len _ _ _) (Nat.succ_le_succ (Nat.le_trans (rput_len _ _ _) (Nat.succ_le_succ (Nat.le_trans (rput_len _ _ _) (Nat.succ_le_succ (Nat.le_trans (rput_len _ _ _) (Nat.succ_le_succ (rput_len _ _ _))))))))
theorem rd_mem (op d n m a x : Int) : x ∈ rdL op d n m a ↔ x ∈ refR op d n m a := by
 unfold rdL refR reads_all
 simp only [reads_put_mem, rput_mem, Bool.or_false, show decide ((0 : Int) < 31) = true by decide, Bool.and_true]
 rw [Bool.and_comm (decide (d < 31))]
theorem rdV_eq (ok : Bool) (op d n m a : Int) : rdV ok op d n m a = if ok = true then refR op d n m a else [] := by
 unfold rdV
 cases ok
 ·rfl
 ·rw [if_pos rfl, if_pos rfl]
  have h := sortc_spec (rdL op d n m a)
  exact rising_eq _ _ h.2 (refR_lt op d n m a) fun x => (h.1 x).trans (rd_mem op d n m a x)
end Go.Proofs.YtblnfngigdipcaaGreatDoor.M
