/- The contracts of library functions at this program, laid out of the shelf. -/
import Derived.Shelf.Small.Bits
import Derived.Shelf.Strconv.Itoa0
import Derived.Shelf.Sort.Plain
import Derived.Ground.Names2Prog
import Derived.Shelf.Slices.CompactI
import Derived.Shelf.Slices.SearchI
import Derived.Shelf.Slices.In.SortNone
import Derived.Test.YtmlfpniaknmmfaaProg
namespace Go.Proofs.Ytmlfpniaknmmfaa
open Go.Shelf
def lays128_ren : Go.Shelf.Ren := ⟨fun | 128 => 56 | n => n, fun | 51 => 122 | 3 => 3 | 4 => 4 | 46 => 111 | 5 => 5 | 9 => 9 | n => n, fun | n => n⟩
theorem lays128 : Go.Proofs.Lays.n128 Try.prog lays128_ren := {
  mixed := by kernel_rfl
  f128 := Try.func56.trans (congrArg some (by kernel_rfl))
  t3 := Try.underlying3
  a3 := Try.isAgg3
  z3 := Try.sizeOf3
  v3 := Try.zeroValue3
  t4 := Try.underlying4
  a4 := Try.isAgg4
  z4 := Try.sizeOf4
  v4 := Try.zeroValue4
  t5 := Try.underlying5
  a5 := Try.isAgg5
  z5 := Try.sizeOf5
  v5 := Try.zeroValue5
  t9 := Try.underlying9
  a9 := Try.isAgg9
  z9 := Try.sizeOf9
  v9 := Try.zeroValue9
  t46 := Try.underlying111
  a46 := Try.isAgg111
  z46 := Try.sizeOf111
  v46 := Try.zeroValue111
  t51 := Try.underlying122
  a51 := Try.isAgg122
  z51 := Try.sizeOf122
  v51 := Try.zeroValue122 }
theorem Try.bits_Len32 (x : Int) (w : World) (h0 : 0 ≤ x) (h1 : x ≤ 4294967295) :
    Calls Try.prog 56 #[.int .u32 x] w fun e w' => e = .returned (.int .i64 (Lib.bitLen x.toNat)) ∧ w' = w := Any.bits_Len32 lays128 x w h0 h1
def lays125_ren : Go.Shelf.Ren := ⟨fun | 125 => 45 | 128 => 56 | 129 => 57 | n => n, fun | 46 => 111 | 3 => 3 | 51 => 122 | 53 => 124 | 4 => 4 | 5 => 5 | 9 => 9 | n => n, fun | n => n⟩
theorem lays125 : Go.Proofs.Lays.n125 Try.prog lays125_ren := {
  mixed := by kernel_rfl
  f125 := Try.func45.trans (congrArg some (by kernel_rfl))
  f128 := Try.func56.trans (congrArg some (by kernel_rfl))
  f129 := Try.func57.trans (congrArg some (by kernel_rfl))
  t3 := Try.underlying3
  a3 := Try.isAgg3
  z3 := Try.sizeOf3
  v3 := Try.zeroValue3
  t4 := Try.underlying4
  a4 := Try.isAgg4
  z4 := Try.sizeOf4
  v4 := Try.zeroValue4
  t5 := Try.underlying5
  a5 := Try.isAgg5
  z5 := Try.sizeOf5
  v5 := Try.zeroValue5
  t9 := Try.underlying9
  a9 := Try.isAgg9
  z9 := Try.sizeOf9
  v9 := Try.zeroValue9
  t46 := Try.underlying111
  a46 := Try.isAgg111
  z46 := Try.sizeOf111
  v46 := Try.zeroValue111
  t51 := Try.underlying122
  a51 := Try.isAgg122
  z51 := Try.sizeOf122
  v51 := Try.zeroValue122
  t53 := Try.underlying124
  a53 := Try.isAgg124
  z53 := Try.sizeOf124
  v53 := Try.zeroValue124 }
theorem Try.bits_Len (x : Int) (w : World) (h0 : 0 ≤ x) (h1 : x ≤ 18446744073709551615) :
    Calls Try.prog 45 #[.int .u64 x] w fun e w' => e = .returned (.int .i64 (Lib.bitLen x.toNat)) ∧ w' = w := Any.bits_Len lays125 x w h0 h1
def lays129_ren : Go.Shelf.Ren := ⟨fun | 129 => 57 | n => n, fun | 53 => 124 | 3 => 3 | 4 => 4 | 46 => 111 | 5 => 5 | 9 => 9 | n => n, fun | n => n⟩
theorem lays129 : Go.Proofs.Lays.n129 Try.prog lays129_ren := {
  mixed := by kernel_rfl
  f129 := Try.func57.trans (congrArg some (by kernel_rfl))
  t3 := Try.underlying3
  a3 := Try.isAgg3
  z3 := Try.sizeOf3
  v3 := Try.zeroValue3
  t4 := Try.underlying4
  a4 := Try.isAgg4
  z4 := Try.sizeOf4
  v4 := Try.zeroValue4
  t5 := Try.underlying5
  a5 := Try.isAgg5
  z5 := Try.sizeOf5
  v5 := Try.zeroValue5
  t9 := Try.underlying9
  a9 := Try.isAgg9
  z9 := Try.sizeOf9
  v9 := Try.zeroValue9
  t46 := Try.underlying111
  a46 := Try.isAgg111
  z46 := Try.sizeOf111
  v46 := Try.zeroValue111
  t53 := Try.underlying124
  a53 := Try.isAgg124
  z53 := Try.sizeOf124
  v53 := Try.zeroValue124 }
theorem Try.bits_Len64 (x : Int) (w : World) (h0 : 0 ≤ x) (h1 : x ≤ 18446744073709551615) :
    Calls Try.prog 57 #[.int .u64 x] w fun e w' => e = .returned (.int .i64 (Lib.bitLen x.toNat)) ∧ w' = w := Any.bits_Len64 lays129 x w h0 h1
def lays189_ren : Go.Shelf.Ren := ⟨fun | 189 => 37 | 125 => 45 | 257 => 44 | 128 => 56 | 129 => 57 | 294 => 47 | 295 => 48 | 296 => 49 | 297 => 50 | 298 => 51 | 299 => 52 | 216 => 53 | 300 => 54 | 301 => 55 | 328 => 58 | 329 => 59 | 330 => 60 | 331 => 61 | 332 => 62 | 215 => 63 | 343 => 64 | n => n, fun | 28 => 52 | 3 => 3 | 46 => 111 | 0 => 0 | 51 => 122 | 53 => 124 | 4 => 4 | 183 => 114 | 182 => 113 | 131 => 119 | 5 => 5 | 9 => 9 | 218 => 125 | 222 => 129 | 228 => 131 | 229 => 132 | n => n, fun | n => n⟩
theorem lays189 : Go.Proofs.Lays.n189 Try.prog lays189_ren := {
  mixed := by kernel_rfl
  f125 := Try.func45.trans (congrArg some (by kernel_rfl))
  f128 := Try.func56.trans (congrArg some (by kernel_rfl))
  f129 := Try.func57.trans (congrArg some (by kernel_rfl))
  f189 := Try.func37.trans (congrArg some (by kernel_rfl))
  f215 := Try.func63.trans (congrArg some (by kernel_rfl))
  f216 := Try.func53.trans (congrArg some (by kernel_rfl))
  f257 := Try.func44.trans (congrArg some (by kernel_rfl))
  f294 := Try.func47.trans (congrArg some (by kernel_rfl))
  f295 := Try.func48.trans (congrArg some (by kernel_rfl))
  f296 := Try.func49.trans (congrArg some (by kernel_rfl))
  f297 := Try.func50.trans (congrArg some (by kernel_rfl))
  f298 := Try.func51.trans (congrArg some (by kernel_rfl))
  f299 := Try.func52.trans (congrArg some (by kernel_rfl))
  f300 := Try.func54.trans (congrArg some (by kernel_rfl))
  f301 := Try.func55.trans (congrArg some (by kernel_rfl))
  f328 := Try.func58.trans (congrArg some (by kernel_rfl))
  f329 := Try.func59.trans (congrArg some (by kernel_rfl))
  f330 := Try.func60.trans (congrArg some (by kernel_rfl))
  f331 := Try.func61.trans (congrArg some (by kernel_rfl))
  f332 := Try.func62.trans (congrArg some (by kernel_rfl))
  f343 := Try.func64.trans (congrArg some (by kernel_rfl))
  t0 := Try.underlying0
  a0 := Try.isAgg0
  z0 := Try.sizeOf0
  v0 := Try.zeroValue0
  t3 := Try.underlying3
  a3 := Try.isAgg3
  z3 := Try.sizeOf3
  v3 := Try.zeroValue3
  t4 := Try.underlying4
  a4 := Try.isAgg4
  z4 := Try.sizeOf4
  v4 := Try.zeroValue4
  t5 := Try.underlying5
  a5 := Try.isAgg5
  z5 := Try.sizeOf5
  v5 := Try.zeroValue5
  t9 := Try.underlying9
  a9 := Try.isAgg9
  z9 := Try.sizeOf9
  v9 := Try.zeroValue9
  t28 := Try.underlying52
  a28 := Try.isAgg52
  z28 := Try.sizeOf52
  v28 := Try.zeroValue52
  t46 := Try.underlying111
  a46 := Try.isAgg111
  z46 := Try.sizeOf111
  v46 := Try.zeroValue111
  t51 := Try.underlying122
  a51 := Try.isAgg122
  z51 := Try.sizeOf122
  v51 := Try.zeroValue122
  t53 := Try.underlying124
  a53 := Try.isAgg124
  z53 := Try.sizeOf124
  v53 := Try.zeroValue124
  t131 := Try.underlying119
  a131 := Try.isAgg119
  z131 := Try.sizeOf119
  v131 := Try.zeroValue119
  t182 := Try.underlying113
  a182 := Try.isAgg113
  z182 := Try.sizeOf113
  v182 := Try.zeroValue113
  t183 := Try.underlying114
  a183 := Try.isAgg114
  z183 := Try.sizeOf114
  v183 := Try.zeroValue114
  t218 := Try.underlying125
  a218 := Try.isAgg125
  z218 := Try.sizeOf125
  v218 := Try.zeroValue125
  t222 := Try.underlying129
  a222 := Try.isAgg129
  z222 := Try.sizeOf129
  v222 := Try.zeroValue129
  t228 := Try.underlying131
  a228 := Try.isAgg131
  z228 := Try.sizeOf131
  v228 := Try.zeroValue131
  t229 := Try.underlying132
  a229 := Try.isAgg132
  z229 := Try.sizeOf132
  v229 := Try.zeroValue132 }
open Go.Sort Go.RowKit in
theorem slices_Sort_int (blk off cap : Nat) (zs : List Int) (w : World) (hH : Holds (Value.int .i64) w blk off zs.toArray) (hblk : blk < w.heap.size) (hsz : zs.length < 4611686018427387904) :
    Calls Try.prog 37 #[.slice (some ⟨blk, off, none⟩) zs.length cap] w fun e w' =>
      e = .returned (.tuple #[]) ∧ ∃ n os, w' = grow (putRow (Value.int .i64) (Sort.ahead w n) blk off (zs.mergeSort fun x y => decide (x ≤ y)).toArray) os := Any.slices_Sort_int lays189 blk off cap zs w hH hblk hsz
def laysNm220_ren : Go.Shelf.Ren := ⟨fun | 20 => 38 | n => n, fun | 22 => 52 | 3 => 3 | 4 => 4 | 0 => 0 | n => n, fun | n => n⟩
theorem laysNm220 : Go.Proofs.Lays2.n20 Try.prog laysNm220_ren := {
  mixed := by kernel_rfl
  f20 := Try.func38.trans (congrArg some (by kernel_rfl))
  t0 := Try.underlying0
  a0 := Try.isAgg0
  z0 := Try.sizeOf0
  v0 := Try.zeroValue0
  t3 := Try.underlying3
  a3 := Try.isAgg3
  z3 := Try.sizeOf3
  v3 := Try.zeroValue3
  t4 := Try.underlying4
  a4 := Try.isAgg4
  z4 := Try.sizeOf4
  v4 := Try.zeroValue4
  t22 := Try.underlying52
  a22 := Try.isAgg52
  z22 := Try.sizeOf52
  v22 := Try.zeroValue52
  i3 := by kernel_rfl }
open Go.RowKit Go.Lib Go.Sort in
theorem slices_Compact_int_arr (blk off cap : Nat) (d : Array Int) (w : World) (hH : Holds encI w blk off d) (hsz : d.size ≤ 9223372036854775807) (hcap : d.size ≤ cap) :
    Calls Try.prog 38 #[.slice (some ⟨blk, off, none⟩) d.size cap] w fun e w' => e = .returned (.slice (some ⟨blk, off, none⟩) (compactUpTo d d.size).length cap) ∧ ∃ q, w' = putRow encI (Sort.ahead w q) blk off (compactUpTo d d.size ++ List.replicate (d.size - (compactUpTo d d.size).length) 0).toArray := Any.slices_Compact_int_arr laysNm220 blk off cap d w hH hsz hcap
open Go.RowKit Go.Lib Go.Sort in
theorem slices_Compact_int (blk off cap : Nat) (zs : List Int) (w : World) (hH : Holds (Value.int .i64) w blk off zs.toArray) (hsz : zs.length ≤ 9223372036854775807) (hcap : zs.length ≤ cap) :
    Calls Try.prog 38 #[.slice (some ⟨blk, off, none⟩) zs.length cap] w fun e w' => e = .returned (.slice (some ⟨blk, off, none⟩) (Lib.compact zs).length cap) ∧ ∃ q, w' = putRow (Value.int .i64) (Sort.ahead w q) blk off (Lib.compact zs ++ List.replicate (zs.length - (Lib.compact zs).length) 0).toArray := Any.slices_Compact_int laysNm220 blk off cap zs w hH hsz hcap
open Go.RowKit Go.Lib Go.Sort in
theorem slices_Compact_int_empty (a : Option Addr) (cap : Nat) (w : World) :
    Calls Try.prog 38 #[.slice a 0 cap] w fun e w' => e = .returned (.slice a 0 cap) ∧ w' = w := Any.slices_Compact_int_empty laysNm220 a cap w
def laysNm237_ren : Go.Shelf.Ren := ⟨fun | 37 => 63 | n => n, fun | 3 => 3 | 4 => 4 | n => n, fun | n => n⟩
theorem laysNm237 : Go.Proofs.Lays2.n37 Try.prog laysNm237_ren := {
  mixed := by kernel_rfl
  f37 := Try.func63.trans (congrArg some (by kernel_rfl))
  t3 := Try.underlying3
  a3 := Try.isAgg3
  z3 := Try.sizeOf3
  v3 := Try.zeroValue3
  t4 := Try.underlying4
  a4 := Try.isAgg4
  z4 := Try.sizeOf4
  v4 := Try.zeroValue4 }
open Go.RowKit Go.Lib in
theorem Try.cmp_isNaN_int2 (x : Int) (w : World) :
    Calls Try.prog 63 #[.int .i64 x] w fun e w' => e = .returned (.bool false) ∧ w' = w := Any.cmp_isNaN_int2 laysNm237 x w
def laysNm231_ren : Go.Shelf.Ren := ⟨fun | 31 => 53 | 37 => 63 | n => n, fun | 3 => 3 | 4 => 4 | n => n, fun | n => n⟩
theorem laysNm231 : Go.Proofs.Lays2.n31 Try.prog laysNm231_ren := {
  mixed := by kernel_rfl
  f31 := Try.func53.trans (congrArg some (by kernel_rfl))
  f37 := Try.func63.trans (congrArg some (by kernel_rfl))
  t3 := Try.underlying3
  a3 := Try.isAgg3
  z3 := Try.sizeOf3
  v3 := Try.zeroValue3
  t4 := Try.underlying4
  a4 := Try.isAgg4
  z4 := Try.sizeOf4
  v4 := Try.zeroValue4 }
open Go.RowKit Go.Lib in
theorem Try.cmp_Less_int2 (x y : Int) (w : World) :
    Calls Try.prog 53 #[.int .i64 x, .int .i64 y] w fun e w' => e = .returned (.bool (decide (x < y))) ∧ w' = w := Any.cmp_Less_int2 laysNm231 x y w
open Go.RowKit Go.Sort in
theorem slices_Sort_int_none (p : Option Addr) (cap : Nat) (w : World) :
    Calls Try.prog 37 #[.slice p 0 cap] w fun e w' => e = .returned (.tuple #[]) ∧ w' = w := Any.slices_Sort_int_none lays189 p cap w
end Go.Proofs.Ytmlfpniaknmmfaa
