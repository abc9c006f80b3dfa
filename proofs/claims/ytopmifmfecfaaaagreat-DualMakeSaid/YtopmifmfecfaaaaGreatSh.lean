/- The contracts of library functions at this program, laid out of the shelf. -/
import Derived.Shelf.Small.Bits
import Derived.Shelf.Strconv.Itoa0
import Derived.Shelf.Sort.Plain
import Derived.Shelf.Bits.Mul64
import Derived.Ground.Names2Prog
import Derived.Shelf.Slices.Clone
import Derived.Shelf.Slices.SearchI
import Derived.Shelf.Slices.In.SortNone
import Derived.Ground.SlgnProg
import Derived.Shelf.SlicesE.Clone
import Derived.Test.YtopmifmfecfaaaaGreatProg
namespace Go.Proofs.YtopmifmfecfaaaaGreat
open Go.Shelf
def lays128_ren : Go.Shelf.Ren := ⟨fun | 128 => 212 | n => n, fun | 51 => 223 | 3 => 3 | 4 => 4 | 46 => 208 | 5 => 5 | 9 => 9 | n => n, fun | n => n⟩
theorem lays128 : Go.Proofs.Lays.n128 Tryz.prog lays128_ren := {
  mixed := by kernel_rfl
  f128 := Tryz.func212.trans (congrArg some (by kernel_rfl))
  t3 := Tryz.underlying3
  a3 := Tryz.isAgg3
  z3 := Tryz.sizeOf3
  v3 := Tryz.zeroValue3
  t4 := Tryz.underlying4
  a4 := Tryz.isAgg4
  z4 := Tryz.sizeOf4
  v4 := Tryz.zeroValue4
  t5 := Tryz.underlying5
  a5 := Tryz.isAgg5
  z5 := Tryz.sizeOf5
  v5 := Tryz.zeroValue5
  t9 := Tryz.underlying9
  a9 := Tryz.isAgg9
  z9 := Tryz.sizeOf9
  v9 := Tryz.zeroValue9
  t46 := Tryz.underlying208
  a46 := Tryz.isAgg208
  z46 := Tryz.sizeOf208
  v46 := Tryz.zeroValue208
  t51 := Tryz.underlying223
  a51 := Tryz.isAgg223
  z51 := Tryz.sizeOf223
  v51 := Tryz.zeroValue223 }
theorem Tryz.bits_Len32 (x : Int) (w : World) (h0 : 0 ≤ x) (h1 : x ≤ 4294967295) :
    Calls Tryz.prog 212 #[.int .u32 x] w fun e w' => e = .returned (.int .i64 (Lib.bitLen x.toNat)) ∧ w' = w := Any.bits_Len32 lays128 x w h0 h1
def lays125_ren : Go.Shelf.Ren := ⟨fun | 125 => 202 | 128 => 212 | 129 => 213 | n => n, fun | 46 => 208 | 3 => 3 | 51 => 223 | 53 => 226 | 4 => 4 | 5 => 5 | 9 => 9 | n => n, fun | n => n⟩
theorem lays125 : Go.Proofs.Lays.n125 Tryz.prog lays125_ren := {
  mixed := by kernel_rfl
  f125 := Tryz.func202.trans (congrArg some (by kernel_rfl))
  f128 := Tryz.func212.trans (congrArg some (by kernel_rfl))
  f129 := Tryz.func213.trans (congrArg some (by kernel_rfl))
  t3 := Tryz.underlying3
  a3 := Tryz.isAgg3
  z3 := Tryz.sizeOf3
  v3 := Tryz.zeroValue3
  t4 := Tryz.underlying4
  a4 := Tryz.isAgg4
  z4 := Tryz.sizeOf4
  v4 := Tryz.zeroValue4
  t5 := Tryz.underlying5
  a5 := Tryz.isAgg5
  z5 := Tryz.sizeOf5
  v5 := Tryz.zeroValue5
  t9 := Tryz.underlying9
  a9 := Tryz.isAgg9
  z9 := Tryz.sizeOf9
  v9 := Tryz.zeroValue9
  t46 := Tryz.underlying208
  a46 := Tryz.isAgg208
  z46 := Tryz.sizeOf208
  v46 := Tryz.zeroValue208
  t51 := Tryz.underlying223
  a51 := Tryz.isAgg223
  z51 := Tryz.sizeOf223
  v51 := Tryz.zeroValue223
  t53 := Tryz.underlying226
  a53 := Tryz.isAgg226
  z53 := Tryz.sizeOf226
  v53 := Tryz.zeroValue226 }
theorem Tryz.bits_Len (x : Int) (w : World) (h0 : 0 ≤ x) (h1 : x ≤ 18446744073709551615) :
    Calls Tryz.prog 202 #[.int .u64 x] w fun e w' => e = .returned (.int .i64 (Lib.bitLen x.toNat)) ∧ w' = w := Any.bits_Len lays125 x w h0 h1
def lays129_ren : Go.Shelf.Ren := ⟨fun | 129 => 213 | n => n, fun | 53 => 226 | 3 => 3 | 4 => 4 | 46 => 208 | 5 => 5 | 9 => 9 | n => n, fun | n => n⟩
theorem lays129 : Go.Proofs.Lays.n129 Tryz.prog lays129_ren := {
  mixed := by kernel_rfl
  f129 := Tryz.func213.trans (congrArg some (by kernel_rfl))
  t3 := Tryz.underlying3
  a3 := Tryz.isAgg3
  z3 := Tryz.sizeOf3
  v3 := Tryz.zeroValue3
  t4 := Tryz.underlying4
  a4 := Tryz.isAgg4
  z4 := Tryz.sizeOf4
  v4 := Tryz.zeroValue4
  t5 := Tryz.underlying5
  a5 := Tryz.isAgg5
  z5 := Tryz.sizeOf5
  v5 := Tryz.zeroValue5
  t9 := Tryz.underlying9
  a9 := Tryz.isAgg9
  z9 := Tryz.sizeOf9
  v9 := Tryz.zeroValue9
  t46 := Tryz.underlying208
  a46 := Tryz.isAgg208
  z46 := Tryz.sizeOf208
  v46 := Tryz.zeroValue208
  t53 := Tryz.underlying226
  a53 := Tryz.isAgg226
  z53 := Tryz.sizeOf226
  v53 := Tryz.zeroValue226 }
theorem Tryz.bits_Len64 (x : Int) (w : World) (h0 : 0 ≤ x) (h1 : x ≤ 18446744073709551615) :
    Calls Tryz.prog 213 #[.int .u64 x] w fun e w' => e = .returned (.int .i64 (Lib.bitLen x.toNat)) ∧ w' = w := Any.bits_Len64 lays129 x w h0 h1
def lays189_ren : Go.Shelf.Ren := ⟨fun | 189 => 197 | 125 => 202 | 257 => 201 | 128 => 212 | 129 => 213 | 294 => 203 | 295 => 204 | 296 => 205 | 297 => 206 | 298 => 207 | 299 => 208 | 216 => 209 | 300 => 210 | 301 => 211 | 328 => 214 | 329 => 215 | 330 => 216 | 331 => 217 | 332 => 218 | 215 => 181 | 343 => 219 | n => n, fun | 28 => 22 | 3 => 3 | 46 => 208 | 0 => 0 | 51 => 223 | 53 => 226 | 4 => 4 | 183 => 246 | 182 => 245 | 131 => 67 | 5 => 5 | 9 => 9 | 218 => 253 | 222 => 257 | 228 => 259 | 229 => 260 | n => n, fun | n => n⟩
theorem lays189 : Go.Proofs.Lays.n189 Tryz.prog lays189_ren := {
  mixed := by kernel_rfl
  f125 := Tryz.func202.trans (congrArg some (by kernel_rfl))
  f128 := Tryz.func212.trans (congrArg some (by kernel_rfl))
  f129 := Tryz.func213.trans (congrArg some (by kernel_rfl))
  f189 := Tryz.func197.trans (congrArg some (by kernel_rfl))
  f215 := Tryz.func181.trans (congrArg some (by kernel_rfl))
  f216 := Tryz.func209.trans (congrArg some (by kernel_rfl))
  f257 := Tryz.func201.trans (congrArg some (by kernel_rfl))
  f294 := Tryz.func203.trans (congrArg some (by kernel_rfl))
  f295 := Tryz.func204.trans (congrArg some (by kernel_rfl))
  f296 := Tryz.func205.trans (congrArg some (by kernel_rfl))
  f297 := Tryz.func206.trans (congrArg some (by kernel_rfl))
  f298 := Tryz.func207.trans (congrArg some (by kernel_rfl))
  f299 := Tryz.func208.trans (congrArg some (by kernel_rfl))
  f300 := Tryz.func210.trans (congrArg some (by kernel_rfl))
  f301 := Tryz.func211.trans (congrArg some (by kernel_rfl))
  f328 := Tryz.func214.trans (congrArg some (by kernel_rfl))
  f329 := Tryz.func215.trans (congrArg some (by kernel_rfl))
  f330 := Tryz.func216.trans (congrArg some (by kernel_rfl))
  f331 := Tryz.func217.trans (congrArg some (by kernel_rfl))
  f332 := Tryz.func218.trans (congrArg some (by kernel_rfl))
  f343 := Tryz.func219.trans (congrArg some (by kernel_rfl))
  t0 := Tryz.underlying0
  a0 := Tryz.isAgg0
  z0 := Tryz.sizeOf0
  v0 := Tryz.zeroValue0
  t3 := Tryz.underlying3
  a3 := Tryz.isAgg3
  z3 := Tryz.sizeOf3
  v3 := Tryz.zeroValue3
  t4 := Tryz.underlying4
  a4 := Tryz.isAgg4
  z4 := Tryz.sizeOf4
  v4 := Tryz.zeroValue4
  t5 := Tryz.underlying5
  a5 := Tryz.isAgg5
  z5 := Tryz.sizeOf5
  v5 := Tryz.zeroValue5
  t9 := Tryz.underlying9
  a9 := Tryz.isAgg9
  z9 := Tryz.sizeOf9
  v9 := Tryz.zeroValue9
  t28 := Tryz.underlying22
  a28 := Tryz.isAgg22
  z28 := Tryz.sizeOf22
  v28 := Tryz.zeroValue22
  t46 := Tryz.underlying208
  a46 := Tryz.isAgg208
  z46 := Tryz.sizeOf208
  v46 := Tryz.zeroValue208
  t51 := Tryz.underlying223
  a51 := Tryz.isAgg223
  z51 := Tryz.sizeOf223
  v51 := Tryz.zeroValue223
  t53 := Tryz.underlying226
  a53 := Tryz.isAgg226
  z53 := Tryz.sizeOf226
  v53 := Tryz.zeroValue226
  t131 := Tryz.underlying67
  a131 := Tryz.isAgg67
  z131 := Tryz.sizeOf67
  v131 := Tryz.zeroValue67
  t182 := Tryz.underlying245
  a182 := Tryz.isAgg245
  z182 := Tryz.sizeOf245
  v182 := Tryz.zeroValue245
  t183 := Tryz.underlying246
  a183 := Tryz.isAgg246
  z183 := Tryz.sizeOf246
  v183 := Tryz.zeroValue246
  t218 := Tryz.underlying253
  a218 := Tryz.isAgg253
  z218 := Tryz.sizeOf253
  v218 := Tryz.zeroValue253
  t222 := Tryz.underlying257
  a222 := Tryz.isAgg257
  z222 := Tryz.sizeOf257
  v222 := Tryz.zeroValue257
  t228 := Tryz.underlying259
  a228 := Tryz.isAgg259
  z228 := Tryz.sizeOf259
  v228 := Tryz.zeroValue259
  t229 := Tryz.underlying260
  a229 := Tryz.isAgg260
  z229 := Tryz.sizeOf260
  v229 := Tryz.zeroValue260 }
open Go.Sort Go.RowKit in
theorem slices_Sort_int (blk off cap : Nat) (zs : List Int) (w : World) (hH : Holds (Value.int .i64) w blk off zs.toArray) (hblk : blk < w.heap.size) (hsz : zs.length < 4611686018427387904) :
    Calls Tryz.prog 197 #[.slice (some ⟨blk, off, none⟩) zs.length cap] w fun e w' =>
      e = .returned (.tuple #[]) ∧ ∃ n os, w' = grow (putRow (Value.int .i64) (Sort.ahead w n) blk off (zs.mergeSort fun x y => decide (x ≤ y)).toArray) os := Any.slices_Sort_int lays189 blk off cap zs w hH hblk hsz
def lays264_ren : Go.Shelf.Ren := ⟨fun | 264 => 174 | n => n, fun | 53 => 226 | 46 => 208 | n => n, fun | n => n⟩
theorem lays264 : Go.Proofs.Lays.n264 Tryz.prog lays264_ren := {
  mixed := by kernel_rfl
  f264 := Tryz.func174.trans (congrArg some (by kernel_rfl))
  t46 := Tryz.underlying208
  a46 := Tryz.isAgg208
  z46 := Tryz.sizeOf208
  v46 := Tryz.zeroValue208
  t53 := Tryz.underlying226
  a53 := Tryz.isAgg226
  z53 := Tryz.sizeOf226
  v53 := Tryz.zeroValue226 }
open Go.RowKit Go.Lib in
theorem Tryz.bits_Mul64 (x y : Nat) (hx : x < 18446744073709551616) (hy : y < 18446744073709551616) (w : World) :
    Calls Tryz.prog 174 #[.int .u64 x, .int .u64 y] w fun e w' => e = .returned (.tuple #[.int .u64 ((x * y / 18446744073709551616 : Nat) : Int), .int .u64 ((x * y % 18446744073709551616 : Nat) : Int)]) ∧ w' = w := Any.bits_Mul64 lays264 x y hx hy w
def lays212_ren : Go.Shelf.Ren := ⟨fun | 212 => 157 | 263 => 173 | 264 => 174 | n => n, fun | 46 => 208 | 51 => 223 | 146 => 224 | 53 => 226 | 148 => 227 | n => n, fun | n => n⟩
theorem lays212 : Go.Proofs.Lays.n212 Tryz.prog lays212_ren := {
  mixed := by kernel_rfl
  f212 := Tryz.func157.trans (congrArg some (by kernel_rfl))
  f263 := Tryz.func173.trans (congrArg some (by kernel_rfl))
  f264 := Tryz.func174.trans (congrArg some (by kernel_rfl))
  t46 := Tryz.underlying208
  a46 := Tryz.isAgg208
  z46 := Tryz.sizeOf208
  v46 := Tryz.zeroValue208
  t51 := Tryz.underlying223
  a51 := Tryz.isAgg223
  z51 := Tryz.sizeOf223
  v51 := Tryz.zeroValue223
  t53 := Tryz.underlying226
  a53 := Tryz.isAgg226
  z53 := Tryz.sizeOf226
  v53 := Tryz.zeroValue226
  t146 := Tryz.underlying224
  a146 := Tryz.isAgg224
  z146 := Tryz.sizeOf224
  v146 := Tryz.zeroValue224
  t148 := Tryz.underlying227
  a148 := Tryz.isAgg227
  z148 := Tryz.sizeOf227
  v148 := Tryz.zeroValue227 }
open Go.RowKit Go.Lib in
theorem Tryz.bits_Mul (x y : Nat) (hx : x < 18446744073709551616) (hy : y < 18446744073709551616) (w : World) :
    Calls Tryz.prog 157 #[.int .u64 x, .int .u64 y] w fun e w' => e = .returned (.tuple #[.int .u64 ((x * y / 18446744073709551616 : Nat) : Int), .int .u64 ((x * y % 18446744073709551616 : Nat) : Int)]) ∧ w' = w := Any.bits_Mul lays212 x y hx hy w
def laysNm215_ren : Go.Shelf.Ren := ⟨fun | 15 => 70 | n => n, fun | 22 => 22 | 3 => 3 | 4 => 4 | n => n, fun | n => n⟩
theorem laysNm215 : Go.Proofs.Lays2.n15 Tryz.prog laysNm215_ren := {
  mixed := by kernel_rfl
  f15 := Tryz.func70.trans (congrArg some (by kernel_rfl))
  t3 := Tryz.underlying3
  a3 := Tryz.isAgg3
  z3 := Tryz.sizeOf3
  v3 := Tryz.zeroValue3
  t4 := Tryz.underlying4
  a4 := Tryz.isAgg4
  z4 := Tryz.sizeOf4
  v4 := Tryz.zeroValue4
  t22 := Tryz.underlying22
  a22 := Tryz.isAgg22
  z22 := Tryz.sizeOf22
  v22 := Tryz.zeroValue22
  i3 := by kernel_rfl }
open Go.RowKit Go.Lib in
theorem slices_Clone_int (b off n c : Nat) (zs : List Int) (w : World) (hz : n ≤ zs.length) (hbig : n * 8 ≤ 140737488355328) (hc : ∀ j, j < zs.length → w.cell? ⟨b, off + j, none⟩ = some (.int .i64 (zs.getD j 0))) :
    Calls Tryz.prog 70 #[.slice (some ⟨b, off, none⟩) n c] w fun e w' => ∃ v', e = .returned v' ∧ w'.ownsRow w.heap.size 3 1 v' n ((zs.take n).map (Value.int .i64)) ∧ v' ≠ .slice none 0 0 ∧ Below w.heap.size w w' := Any.slices_Clone_int laysNm215 b off n c zs w hz hbig hc
open Go.RowKit Go.Lib in
theorem slices_Clone_int_nil (n c : Nat) (w : World) :
    Calls Tryz.prog 70 #[.slice none n c] w fun e w' => e = .returned (.slice none 0 0) ∧ w' = w := Any.slices_Clone_int_nil laysNm215 n c w
open Go.RowKit Go.Lib in
theorem slices_Clone_int_zero (a : Addr) (c : Nat) (w : World) :
    Calls Tryz.prog 70 #[.slice (some a) 0 c] w fun e w' => ∃ v', e = .returned v' ∧ w'.ownsRow w.heap.size 3 1 v' 0 [] ∧ v' ≠ .slice none 0 0 ∧ Below w.heap.size w w' := Any.slices_Clone_int_zero laysNm215 a c w
def laysNm237_ren : Go.Shelf.Ren := ⟨fun | 37 => 181 | n => n, fun | 3 => 3 | 4 => 4 | n => n, fun | n => n⟩
theorem laysNm237 : Go.Proofs.Lays2.n37 Tryz.prog laysNm237_ren := {
  mixed := by kernel_rfl
  f37 := Tryz.func181.trans (congrArg some (by kernel_rfl))
  t3 := Tryz.underlying3
  a3 := Tryz.isAgg3
  z3 := Tryz.sizeOf3
  v3 := Tryz.zeroValue3
  t4 := Tryz.underlying4
  a4 := Tryz.isAgg4
  z4 := Tryz.sizeOf4
  v4 := Tryz.zeroValue4 }
open Go.RowKit Go.Lib in
theorem Tryz.cmp_isNaN_int2 (x : Int) (w : World) :
    Calls Tryz.prog 181 #[.int .i64 x] w fun e w' => e = .returned (.bool false) ∧ w' = w := Any.cmp_isNaN_int2 laysNm237 x w
def laysNm231_ren : Go.Shelf.Ren := ⟨fun | 31 => 209 | 37 => 181 | n => n, fun | 3 => 3 | 4 => 4 | n => n, fun | n => n⟩
theorem laysNm231 : Go.Proofs.Lays2.n31 Tryz.prog laysNm231_ren := {
  mixed := by kernel_rfl
  f31 := Tryz.func209.trans (congrArg some (by kernel_rfl))
  f37 := Tryz.func181.trans (congrArg some (by kernel_rfl))
  t3 := Tryz.underlying3
  a3 := Tryz.isAgg3
  z3 := Tryz.sizeOf3
  v3 := Tryz.zeroValue3
  t4 := Tryz.underlying4
  a4 := Tryz.isAgg4
  z4 := Tryz.sizeOf4
  v4 := Tryz.zeroValue4 }
open Go.RowKit Go.Lib in
theorem Tryz.cmp_Less_int2 (x y : Int) (w : World) :
    Calls Tryz.prog 209 #[.int .i64 x, .int .i64 y] w fun e w' => e = .returned (.bool (decide (x < y))) ∧ w' = w := Any.cmp_Less_int2 laysNm231 x y w
open Go.RowKit Go.Sort in
theorem slices_Sort_int_none (p : Option Addr) (cap : Nat) (w : World) :
    Calls Tryz.prog 197 #[.slice p 0 cap] w fun e w' => e = .returned (.tuple #[]) ∧ w' = w := Any.slices_Sort_int_none lays189 p cap w
def laysSlE041_f70_ren : Go.Shelf.Ren := ⟨fun | 41 => 70 | n => n, fun | 22 => 22 | 23 => 3 | 4 => 4 | n => n, fun | n => n⟩
theorem laysSlE041_f70 : Go.Proofs.SlLaysE0.n41 Tryz.prog laysSlE041_f70_ren := {
  mixed := by kernel_rfl
  f41 := ⟨Tryz.f70.name, by decide, Tryz.func70.trans (congrArg some (by kernel_rfl))⟩
  t4 := Tryz.underlying4
  a4 := Tryz.isAgg4
  z4 := Tryz.sizeOf4
  v4 := Tryz.zeroValue4
  t22 := Tryz.underlying22
  a22 := Tryz.isAgg22
  z22 := Tryz.sizeOf22
  v22 := Tryz.zeroValue22 }
open Go.RowKit Go.Lib in
theorem slices_Clone_f70 (i0 : TypeInfo) (z : Value) (size bytes : Nat) (hi : Tryz.prog.info? 3 = some i0) (hz0 : i0.zero = some z) (hz1 : i0.size = size) (hz2 : i0.bytes = bytes) (hzs : z.cells.size = size) (hsz : 0 < size) (z23 : ∀ w, (Go.sizeOf 3).run Tryz.prog w = .ok size w) (b off n c : Nat) (news : List Value) (w : World) (hl : news.length = n * size) (hn : n ≤ maxLen) (hbig : n * bytes ≤ 140737488355328) (hc : ∀ j u, news[j]? = some u → w.cell? ⟨b, off + j, none⟩ = some u) (h1 : ∀ u ∈ news, u.oneCell' = true) :
    Calls Tryz.prog 70 #[.slice (some ⟨b, off, none⟩) n c] w fun e w' => ∃ v', e = .returned v' ∧ w'.ownsRow w.heap.size 3 size v' n news ∧ v' ≠ .slice none 0 0 ∧ Below w.heap.size w w' := AnyE.slices_Clone laysSlE041_f70 i0 z size bytes hi hz0 hz1 hz2 hzs hsz z23 b off n c news w hl hn hbig hc h1
def laysSlE041_f83_ren : Go.Shelf.Ren := ⟨fun | 41 => 83 | n => n, fun | 22 => 27 | 23 => 22 | 4 => 4 | n => n, fun | n => n⟩
theorem laysSlE041_f83 : Go.Proofs.SlLaysE0.n41 Tryz.prog laysSlE041_f83_ren := {
  mixed := by kernel_rfl
  f41 := ⟨Tryz.f83.name, by decide, Tryz.func83.trans (congrArg some (by kernel_rfl))⟩
  t4 := Tryz.underlying4
  a4 := Tryz.isAgg4
  z4 := Tryz.sizeOf4
  v4 := Tryz.zeroValue4
  t22 := Tryz.underlying27
  a22 := Tryz.isAgg27
  z22 := Tryz.sizeOf27
  v22 := Tryz.zeroValue27 }
open Go.RowKit Go.Lib in
theorem slices_Clone_f83 (i0 : TypeInfo) (z : Value) (size bytes : Nat) (hi : Tryz.prog.info? 22 = some i0) (hz0 : i0.zero = some z) (hz1 : i0.size = size) (hz2 : i0.bytes = bytes) (hzs : z.cells.size = size) (hsz : 0 < size) (z23 : ∀ w, (Go.sizeOf 22).run Tryz.prog w = .ok size w) (b off n c : Nat) (news : List Value) (w : World) (hl : news.length = n * size) (hn : n ≤ maxLen) (hbig : n * bytes ≤ 140737488355328) (hc : ∀ j u, news[j]? = some u → w.cell? ⟨b, off + j, none⟩ = some u) (h1 : ∀ u ∈ news, u.oneCell' = true) :
    Calls Tryz.prog 83 #[.slice (some ⟨b, off, none⟩) n c] w fun e w' => ∃ v', e = .returned v' ∧ w'.ownsRow w.heap.size 22 size v' n news ∧ v' ≠ .slice none 0 0 ∧ Below w.heap.size w w' := AnyE.slices_Clone laysSlE041_f83 i0 z size bytes hi hz0 hz1 hz2 hzs hsz z23 b off n c news w hl hn hbig hc h1
open Go.RowKit Go.Lib in
theorem slices_Clone_nil_f70 (n c : Nat) (w : World) :
    Calls Tryz.prog 70 #[.slice none n c] w fun e w' => e = .returned (.slice none 0 0) ∧ w' = w := AnyE.slices_Clone_nil laysSlE041_f70 n c w
open Go.RowKit Go.Lib in
theorem slices_Clone_nil_f83 (n c : Nat) (w : World) :
    Calls Tryz.prog 83 #[.slice none n c] w fun e w' => e = .returned (.slice none 0 0) ∧ w' = w := AnyE.slices_Clone_nil laysSlE041_f83 n c w
end Go.Proofs.YtopmifmfecfaaaaGreat
