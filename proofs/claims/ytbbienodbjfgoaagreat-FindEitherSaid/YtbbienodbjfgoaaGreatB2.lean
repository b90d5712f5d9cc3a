/- Texts that the walks of package find lean on: part 2. -/
import Derived.Shelf.Small.Bits
import Derived.Shelf.Strconv.Itoa0
import Derived.Shelf.Sort.Plain
import Derived.Shelf.Bits.Mul64
import Derived.Ground.Names2Prog
import Derived.Shelf.Slices.Clone
import Derived.Shelf.Slices.SearchI
import Derived.Shelf.Slices.In.SortNone
import Derived.Ground.SlgnProg
import Derived.Shelf.SlicesE.Clone
import Derived.Test.YtbbienodbjfgoaaGreatProg
import Derived.Sort.OwnSortedInts
import Derived.Lib.SliceRun
import Derived.Laws.OwnMore
import Derived.Laws.Cover3
import Derived.WalkSpells
import Derived.Test.YtbbienodbjfgoaaGreatB1
set_option linter.unusedVariables false
set_option linter.unusedSimpArgs false

namespace Go.Proofs
open Go.Shelf
def Tryz.lays128_ren : Go.Shelf.Ren := ⟨fun | 128 => 286 | n => n, fun | 51 => 364 | 3 => 3 | 4 => 4 | 46 => 316 | 5 => 5 | 9 => 9 | n => n, fun | n => n⟩
theorem Tryz.lays128 : Go.Proofs.Lays.n128 Tryz.prog Tryz.lays128_ren := {
  mixed := by kernel_rfl
  f128 := Tryz.func286.trans (congrArg some (by kernel_rfl))
  t3 := Tryz.underlying3
  a3 := Tryz.isAgg3
  z3 := Tryz.sizeOf3
  v3 := Tryz.zeroValue3
  t4 := Tryz.underlying4
  a4 := Tryz.isAgg4
  z4 := Tryz.sizeOf4
  v4 := Tryz.zeroValue4
  t5 := Tryz.underlying5
  a5 := Tryz.isAgg5
  z5 := Tryz.sizeOf5
  v5 := Tryz.zeroValue5
  t9 := Tryz.underlying9
  a9 := Tryz.isAgg9
  z9 := Tryz.sizeOf9
  v9 := Tryz.zeroValue9
  t46 := Tryz.underlying316
  a46 := Tryz.isAgg316
  z46 := Tryz.sizeOf316
  v46 := Tryz.zeroValue316
  t51 := Tryz.underlying364
  a51 := Tryz.isAgg364
  z51 := Tryz.sizeOf364
  v51 := Tryz.zeroValue364 }
theorem Tryz.bits_Len32 (x : Int) (w : World) (h0 : 0 ≤ x) (h1 : x ≤ 4294967295) :
    Calls Tryz.prog 286 #[.int .u32 x] w fun e w' => e = .returned (.int .i64 (Lib.bitLen x.toNat)) ∧ w' = w := Any.bits_Len32 Tryz.lays128 x w h0 h1
def Tryz.lays125_ren : Go.Shelf.Ren := ⟨fun | 125 => 219 | 128 => 286 | 129 => 287 | n => n, fun | 46 => 316 | 3 => 3 | 51 => 364 | 53 => 272 | 4 => 4 | 5 => 5 | 9 => 9 | n => n, fun | n => n⟩
theorem Tryz.lays125 : Go.Proofs.Lays.n125 Tryz.prog Tryz.lays125_ren := {
  mixed := by kernel_rfl
  f125 := Tryz.func219.trans (congrArg some (by kernel_rfl))
  f128 := Tryz.func286.trans (congrArg some (by kernel_rfl))
  f129 := Tryz.func287.trans (congrArg some (by kernel_rfl))
  t3 := Tryz.underlying3
  a3 := Tryz.isAgg3
  z3 := Tryz.sizeOf3
  v3 := Tryz.zeroValue3
  t4 := Tryz.underlying4
  a4 := Tryz.isAgg4
  z4 := Tryz.sizeOf4
  v4 := Tryz.zeroValue4
  t5 := Tryz.underlying5
  a5 := Tryz.isAgg5
  z5 := Tryz.sizeOf5
  v5 := Tryz.zeroValue5
  t9 := Tryz.underlying9
  a9 := Tryz.isAgg9
  z9 := Tryz.sizeOf9
  v9 := Tryz.zeroValue9
  t46 := Tryz.underlying316
  a46 := Tryz.isAgg316
  z46 := Tryz.sizeOf316
  v46 := Tryz.zeroValue316
  t51 := Tryz.underlying364
  a51 := Tryz.isAgg364
  z51 := Tryz.sizeOf364
  v51 := Tryz.zeroValue364
  t53 := Tryz.underlying272
  a53 := Tryz.isAgg272
  z53 := Tryz.sizeOf272
  v53 := Tryz.zeroValue272 }
theorem Tryz.bits_Len (x : Int) (w : World) (h0 : 0 ≤ x) (h1 : x ≤ 18446744073709551615) :
    Calls Tryz.prog 219 #[.int .u64 x] w fun e w' => e = .returned (.int .i64 (Lib.bitLen x.toNat)) ∧ w' = w := Any.bits_Len Tryz.lays125 x w h0 h1
def Tryz.lays129_ren : Go.Shelf.Ren := ⟨fun | 129 => 287 | n => n, fun | 53 => 272 | 3 => 3 | 4 => 4 | 46 => 316 | 5 => 5 | 9 => 9 | n => n, fun | n => n⟩
theorem Tryz.lays129 : Go.Proofs.Lays.n129 Tryz.prog Tryz.lays129_ren := {
  mixed := by kernel_rfl
  f129 := Tryz.func287.trans (congrArg some (by kernel_rfl))
  t3 := Tryz.underlying3
  a3 := Tryz.isAgg3
  z3 := Tryz.sizeOf3
  v3 := Tryz.zeroValue3
  t4 := Tryz.underlying4
  a4 := Tryz.isAgg4
  z4 := Tryz.sizeOf4
  v4 := Tryz.zeroValue4
  t5 := Tryz.underlying5
  a5 := Tryz.isAgg5
  z5 := Tryz.sizeOf5
  v5 := Tryz.zeroValue5
  t9 := Tryz.underlying9
  a9 := Tryz.isAgg9
  z9 := Tryz.sizeOf9
  v9 := Tryz.zeroValue9
  t46 := Tryz.underlying316
  a46 := Tryz.isAgg316
  z46 := Tryz.sizeOf316
  v46 := Tryz.zeroValue316
  t53 := Tryz.underlying272
  a53 := Tryz.isAgg272
  z53 := Tryz.sizeOf272
  v53 := Tryz.zeroValue272 }
theorem Tryz.bits_Len64 (x : Int) (w : World) (h0 : 0 ≤ x) (h1 : x ≤ 18446744073709551615) :
    Calls Tryz.prog 287 #[.int .u64 x] w fun e w' => e = .returned (.int .i64 (Lib.bitLen x.toNat)) ∧ w' = w := Any.bits_Len64 Tryz.lays129 x w h0 h1
def Tryz.lays189_ren : Go.Shelf.Ren := ⟨fun | 189 => 136 | 125 => 219 | 257 => 218 | 128 => 286 | 129 => 287 | 294 => 277 | 295 => 278 | 296 => 279 | 297 => 280 | 298 => 281 | 299 => 282 | 216 => 283 | 300 => 284 | 301 => 285 | 328 => 324 | 329 => 325 | 330 => 326 | 331 => 327 | 332 => 328 | 215 => 329 | 343 => 349 | n => n, fun | 28 => 25 | 3 => 3 | 46 => 316 | 0 => 0 | 51 => 364 | 53 => 272 | 4 => 4 | 183 => 358 | 182 => 357 | 131 => 136 | 5 => 5 | 9 => 9 | 218 => 394 | 222 => 398 | 228 => 416 | 229 => 417 | n => n, fun | n => n⟩
theorem Tryz.lays189 : Go.Proofs.Lays.n189 Tryz.prog Tryz.lays189_ren := {
  mixed := by kernel_rfl
  f125 := Tryz.func219.trans (congrArg some (by kernel_rfl))
  f128 := Tryz.func286.trans (congrArg some (by kernel_rfl))
  f129 := Tryz.func287.trans (congrArg some (by kernel_rfl))
  f189 := Tryz.func136.trans (congrArg some (by kernel_rfl))
  f215 := Tryz.func329.trans (congrArg some (by kernel_rfl))
  f216 := Tryz.func283.trans (congrArg some (by kernel_rfl))
  f257 := Tryz.func218.trans (congrArg some (by kernel_rfl))
  f294 := Tryz.func277.trans (congrArg some (by kernel_rfl))
  f295 := Tryz.func278.trans (congrArg some (by kernel_rfl))
  f296 := Tryz.func279.trans (congrArg some (by kernel_rfl))
  f297 := Tryz.func280.trans (congrArg some (by kernel_rfl))
  f298 := Tryz.func281.trans (congrArg some (by kernel_rfl))
  f299 := Tryz.func282.trans (congrArg some (by kernel_rfl))
  f300 := Tryz.func284.trans (congrArg some (by kernel_rfl))
  f301 := Tryz.func285.trans (congrArg some (by kernel_rfl))
  f328 := Tryz.func324.trans (congrArg some (by kernel_rfl))
  f329 := Tryz.func325.trans (congrArg some (by kernel_rfl))
  f330 := Tryz.func326.trans (congrArg some (by kernel_rfl))
  f331 := Tryz.func327.trans (congrArg some (by kernel_rfl))
  f332 := Tryz.func328.trans (congrArg some (by kernel_rfl))
  f343 := Tryz.func349.trans (congrArg some (by kernel_rfl))
  t0 := Tryz.underlying0
  a0 := Tryz.isAgg0
  z0 := Tryz.sizeOf0
  v0 := Tryz.zeroValue0
  t3 := Tryz.underlying3
  a3 := Tryz.isAgg3
  z3 := Tryz.sizeOf3
  v3 := Tryz.zeroValue3
  t4 := Tryz.underlying4
  a4 := Tryz.isAgg4
  z4 := Tryz.sizeOf4
  v4 := Tryz.zeroValue4
  t5 := Tryz.underlying5
  a5 := Tryz.isAgg5
  z5 := Tryz.sizeOf5
  v5 := Tryz.zeroValue5
  t9 := Tryz.underlying9
  a9 := Tryz.isAgg9
  z9 := Tryz.sizeOf9
  v9 := Tryz.zeroValue9
  t28 := Tryz.underlying25
  a28 := Tryz.isAgg25
  z28 := Tryz.sizeOf25
  v28 := Tryz.zeroValue25
  t46 := Tryz.underlying316
  a46 := Tryz.isAgg316
  z46 := Tryz.sizeOf316
  v46 := Tryz.zeroValue316
  t51 := Tryz.underlying364
  a51 := Tryz.isAgg364
  z51 := Tryz.sizeOf364
  v51 := Tryz.zeroValue364
  t53 := Tryz.underlying272
  a53 := Tryz.isAgg272
  z53 := Tryz.sizeOf272
  v53 := Tryz.zeroValue272
  t131 := Tryz.underlying136
  a131 := Tryz.isAgg136
  z131 := Tryz.sizeOf136
  v131 := Tryz.zeroValue136
  t182 := Tryz.underlying357
  a182 := Tryz.isAgg357
  z182 := Tryz.sizeOf357
  v182 := Tryz.zeroValue357
  t183 := Tryz.underlying358
  a183 := Tryz.isAgg358
  z183 := Tryz.sizeOf358
  v183 := Tryz.zeroValue358
  t218 := Tryz.underlying394
  a218 := Tryz.isAgg394
  z218 := Tryz.sizeOf394
  v218 := Tryz.zeroValue394
  t222 := Tryz.underlying398
  a222 := Tryz.isAgg398
  z222 := Tryz.sizeOf398
  v222 := Tryz.zeroValue398
  t228 := Tryz.underlying416
  a228 := Tryz.isAgg416
  z228 := Tryz.sizeOf416
  v228 := Tryz.zeroValue416
  t229 := Tryz.underlying417
  a229 := Tryz.isAgg417
  z229 := Tryz.sizeOf417
  v229 := Tryz.zeroValue417 }
open Go.Sort Go.RowKit in
theorem Tryz.slices_Sort_int (blk off cap : Nat) (zs : List Int) (w : World) (hH : Holds (Value.int .i64) w blk off zs.toArray) (hblk : blk < w.heap.size) (hsz : zs.length < 4611686018427387904) :
    Calls Tryz.prog 136 #[.slice (some ⟨blk, off, none⟩) zs.length cap] w fun e w' =>
      e = .returned (.tuple #[]) ∧ ∃ n os, w' = grow (putRow (Value.int .i64) (Sort.ahead w n) blk off (zs.mergeSort fun x y => decide (x ≤ y)).toArray) os := Any.slices_Sort_int Tryz.lays189 blk off cap zs w hH hblk hsz
def Tryz.lays264_ren : Go.Shelf.Ren := ⟨fun | 264 => 318 | n => n, fun | 53 => 272 | 46 => 316 | n => n, fun | n => n⟩
theorem Tryz.lays264 : Go.Proofs.Lays.n264 Tryz.prog Tryz.lays264_ren := {
  mixed := by kernel_rfl
  f264 := Tryz.func318.trans (congrArg some (by kernel_rfl))
  t46 := Tryz.underlying316
  a46 := Tryz.isAgg316
  z46 := Tryz.sizeOf316
  v46 := Tryz.zeroValue316
  t53 := Tryz.underlying272
  a53 := Tryz.isAgg272
  z53 := Tryz.sizeOf272
  v53 := Tryz.zeroValue272 }
open Go.RowKit Go.Lib in
theorem Tryz.bits_Mul64 (x y : Nat) (hx : x < 18446744073709551616) (hy : y < 18446744073709551616) (w : World) :
    Calls Tryz.prog 318 #[.int .u64 x, .int .u64 y] w fun e w' => e = .returned (.tuple #[.int .u64 ((x * y / 18446744073709551616 : Nat) : Int), .int .u64 ((x * y % 18446744073709551616 : Nat) : Int)]) ∧ w' = w := Any.bits_Mul64 Tryz.lays264 x y hx hy w
def Tryz.lays212_ren : Go.Shelf.Ren := ⟨fun | 212 => 255 | 263 => 317 | 264 => 318 | n => n, fun | 46 => 316 | 51 => 364 | 146 => 390 | 53 => 272 | 148 => 392 | n => n, fun | n => n⟩
theorem Tryz.lays212 : Go.Proofs.Lays.n212 Tryz.prog Tryz.lays212_ren := {
  mixed := by kernel_rfl
  f212 := Tryz.func255.trans (congrArg some (by kernel_rfl))
  f263 := Tryz.func317.trans (congrArg some (by kernel_rfl))
  f264 := Tryz.func318.trans (congrArg some (by kernel_rfl))
  t46 := Tryz.underlying316
  a46 := Tryz.isAgg316
  z46 := Tryz.sizeOf316
  v46 := Tryz.zeroValue316
  t51 := Tryz.underlying364
  a51 := Tryz.isAgg364
  z51 := Tryz.sizeOf364
  v51 := Tryz.zeroValue364
  t53 := Tryz.underlying272
  a53 := Tryz.isAgg272
  z53 := Tryz.sizeOf272
  v53 := Tryz.zeroValue272
  t146 := Tryz.underlying390
  a146 := Tryz.isAgg390
  z146 := Tryz.sizeOf390
  v146 := Tryz.zeroValue390
  t148 := Tryz.underlying392
  a148 := Tryz.isAgg392
  z148 := Tryz.sizeOf392
  v148 := Tryz.zeroValue392 }
open Go.RowKit Go.Lib in
theorem Tryz.bits_Mul (x y : Nat) (hx : x < 18446744073709551616) (hy : y < 18446744073709551616) (w : World) :
    Calls Tryz.prog 255 #[.int .u64 x, .int .u64 y] w fun e w' => e = .returned (.tuple #[.int .u64 ((x * y / 18446744073709551616 : Nat) : Int), .int .u64 ((x * y % 18446744073709551616 : Nat) : Int)]) ∧ w' = w := Any.bits_Mul Tryz.lays212 x y hx hy w
def Tryz.laysNm215_ren : Go.Shelf.Ren := ⟨fun | 15 => 208 | n => n, fun | 22 => 25 | 3 => 3 | 4 => 4 | n => n, fun | n => n⟩
theorem Tryz.laysNm215 : Go.Proofs.Lays2.n15 Tryz.prog Tryz.laysNm215_ren := {
  mixed := by kernel_rfl
  f15 := Tryz.func208.trans (congrArg some (by kernel_rfl))
  t3 := Tryz.underlying3
  a3 := Tryz.isAgg3
  z3 := Tryz.sizeOf3
  v3 := Tryz.zeroValue3
  t4 := Tryz.underlying4
  a4 := Tryz.isAgg4
  z4 := Tryz.sizeOf4
  v4 := Tryz.zeroValue4
  t22 := Tryz.underlying25
  a22 := Tryz.isAgg25
  z22 := Tryz.sizeOf25
  v22 := Tryz.zeroValue25
  i3 := by kernel_rfl }
open Go.RowKit Go.Lib in
theorem Tryz.slices_Clone_int (b off n c : Nat) (zs : List Int) (w : World) (hz : n ≤ zs.length) (hbig : n * 8 ≤ 140737488355328) (hc : ∀ j, j < zs.length → w.cell? ⟨b, off + j, none⟩ = some (.int .i64 (zs.getD j 0))) :
    Calls Tryz.prog 208 #[.slice (some ⟨b, off, none⟩) n c] w fun e w' => ∃ v', e = .returned v' ∧ w'.ownsRow w.heap.size 3 1 v' n ((zs.take n).map (Value.int .i64)) ∧ v' ≠ .slice none 0 0 ∧ Below w.heap.size w w' := Any.slices_Clone_int Tryz.laysNm215 b off n c zs w hz hbig hc
open Go.RowKit Go.Lib in
theorem Tryz.slices_Clone_int_nil (n c : Nat) (w : World) :
    Calls Tryz.prog 208 #[.slice none n c] w fun e w' => e = .returned (.slice none 0 0) ∧ w' = w := Any.slices_Clone_int_nil Tryz.laysNm215 n c w
open Go.RowKit Go.Lib in
theorem Tryz.slices_Clone_int_zero (a : Addr) (c : Nat) (w : World) :
    Calls Tryz.prog 208 #[.slice (some a) 0 c] w fun e w' => ∃ v', e = .returned v' ∧ w'.ownsRow w.heap.size 3 1 v' 0 [] ∧ v' ≠ .slice none 0 0 ∧ Below w.heap.size w w' := Any.slices_Clone_int_zero Tryz.laysNm215 a c w
def Tryz.laysNm237_ren : Go.Shelf.Ren := ⟨fun | 37 => 329 | n => n, fun | 3 => 3 | 4 => 4 | n => n, fun | n => n⟩
theorem Tryz.laysNm237 : Go.Proofs.Lays2.n37 Tryz.prog Tryz.laysNm237_ren := {
  mixed := by kernel_rfl
  f37 := Tryz.func329.trans (congrArg some (by kernel_rfl))
  t3 := Tryz.underlying3
  a3 := Tryz.isAgg3
  z3 := Tryz.sizeOf3
  v3 := Tryz.zeroValue3
  t4 := Tryz.underlying4
  a4 := Tryz.isAgg4
  z4 := Tryz.sizeOf4
  v4 := Tryz.zeroValue4 }
open Go.RowKit Go.Lib in
theorem Tryz.cmp_isNaN_int2 (x : Int) (w : World) :
    Calls Tryz.prog 329 #[.int .i64 x] w fun e w' => e = .returned (.bool false) ∧ w' = w := Any.cmp_isNaN_int2 Tryz.laysNm237 x w
def Tryz.laysNm231_ren : Go.Shelf.Ren := ⟨fun | 31 => 283 | 37 => 329 | n => n, fun | 3 => 3 | 4 => 4 | n => n, fun | n => n⟩
theorem Tryz.laysNm231 : Go.Proofs.Lays2.n31 Tryz.prog Tryz.laysNm231_ren := {
  mixed := by kernel_rfl
  f31 := Tryz.func283.trans (congrArg some (by kernel_rfl))
  f37 := Tryz.func329.trans (congrArg some (by kernel_rfl))
  t3 := Tryz.underlying3
  a3 := Tryz.isAgg3
  z3 := Tryz.sizeOf3
  v3 := Tryz.zeroValue3
  t4 := Tryz.underlying4
  a4 := Tryz.isAgg4
  z4 := Tryz.sizeOf4
  v4 := Tryz.zeroValue4 }
open Go.RowKit Go.Lib in
theorem Tryz.cmp_Less_int2 (x y : Int) (w : World) :
    Calls Tryz.prog 283 #[.int .i64 x, .int .i64 y] w fun e w' => e = .returned (.bool (decide (x < y))) ∧ w' = w := Any.cmp_Less_int2 Tryz.laysNm231 x y w
open Go.RowKit Go.Sort in
theorem Tryz.slices_Sort_int_none (p : Option Addr) (cap : Nat) (w : World) :
    Calls Tryz.prog 136 #[.slice p 0 cap] w fun e w' => e = .returned (.tuple #[]) ∧ w' = w := Any.slices_Sort_int_none Tryz.lays189 p cap w
def Tryz.laysSlE041_f208_ren : Go.Shelf.Ren := ⟨fun | 41 => 208 | n => n, fun | 22 => 25 | 23 => 3 | 4 => 4 | n => n, fun | n => n⟩
theorem Tryz.laysSlE041_f208 : Go.Proofs.SlLaysE0.n41 Tryz.prog Tryz.laysSlE041_f208_ren := {
  mixed := by kernel_rfl
  f41 := ⟨Tryz.f208.name, by decide, Tryz.func208.trans (congrArg some (by kernel_rfl))⟩
  t4 := Tryz.underlying4
  a4 := Tryz.isAgg4
  z4 := Tryz.sizeOf4
  v4 := Tryz.zeroValue4
  t22 := Tryz.underlying25
  a22 := Tryz.isAgg25
  z22 := Tryz.sizeOf25
  v22 := Tryz.zeroValue25 }
open Go.RowKit Go.Lib in
theorem Tryz.slices_Clone (i0 : TypeInfo) (z : Value) (size bytes : Nat) (hi : Tryz.prog.info? 3 = some i0) (hz0 : i0.zero = some z) (hz1 : i0.size = size) (hz2 : i0.bytes = bytes) (hzs : z.cells.size = size) (hsz : 0 < size) (z23 : ∀ w, (Go.sizeOf 3).run Tryz.prog w = .ok size w) (b off n c : Nat) (news : List Value) (w : World) (hl : news.length = n * size) (hn : n ≤ maxLen) (hbig : n * bytes ≤ 140737488355328) (hc : ∀ j u, news[j]? = some u → w.cell? ⟨b, off + j, none⟩ = some u) (h1 : ∀ u ∈ news, u.oneCell' = true) :
    Calls Tryz.prog 208 #[.slice (some ⟨b, off, none⟩) n c] w fun e w' => ∃ v', e = .returned v' ∧ w'.ownsRow w.heap.size 3 size v' n news ∧ v' ≠ .slice none 0 0 ∧ Below w.heap.size w w' := AnyE.slices_Clone Tryz.laysSlE041_f208 i0 z size bytes hi hz0 hz1 hz2 hzs hsz z23 b off n c news w hl hn hbig hc h1
open Go.RowKit Go.Lib in
theorem Tryz.slices_Clone_nil (n c : Nat) (w : World) :
    Calls Tryz.prog 208 #[.slice none n c] w fun e w' => e = .returned (.slice none 0 0) ∧ w' = w := AnyE.slices_Clone_nil Tryz.laysSlE041_f208 n c w
end Go.Proofs

/- slices.Sort at []int, as1 a contract. -/
namespace Go.Lag
open Go Go.RowKit Go.Proofs

def sortL (xs : List Int) : List Int := xs.mergeSort fun x y => decide (x ≤ y)

theorem EI_cells {k : IntKind} {cs : List Value} {xs : List Int} (h : Elems (EI k) cs xs) : cs = xs.map (Value.int k) := by
  apply List.ext_getElem? 
  intro i
  have hl : cs.length = xs.length := by have := h.1; simpa [EI] using this
  by_cases hi : i < xs.length
  · have h2 : (cs.drop (i * 1)).take 1 = [.int k xs[i]] := h.2 i xs[i] (by simp [hi])
    have h3 : ((cs.drop (i * 1)).take 1)[0]? = some (.int k xs[i]) := by rw [h2]; rfl
    rw [List.getElem?_take_of_lt (by omega), List.getElem?_drop] at h3
    simpa [hi] using h3
  · rw [List.getElem?_eq_none (by omega), List.getElem?_eq_none (by simp; omega)]
theorem EI_map {k : IntKind} (xs : List Int) : Elems (EI k) (xs.map (Value.int k)) xs := by
  refine ⟨by simp [EI], fun i x hi => ?_⟩
  show ((xs.map (Value.int k)).drop (i * 1)).take 1 = [.int k x]
  obtain ⟨h1, h2⟩ := List.getElem?_eq_some_iff.1 hi
  apply List.ext_getElem?
  intro j
  rcases Nat.eq_zero_or_pos j with rfl | hj
  · rw [List.getElem?_take_of_lt (by omega), List.getElem?_drop]; simp [hi]
  · rw [List.getElem?_take_eq_none (by omega)]; simp; omega

theorem sort_sp {v : Value} {xs : List Int} (hn : xs.length ≤ 100000000 := by first | assumption | omega) : Sp Tryz.prog 136 [v] [.rw (EI .i64) 3 v xs] fun u H' => u = .tuple #[] ∧ H' = [.rw (EI .i64) 3 v (sortL xs)] := by
  intro F w hw
  have hown : OwnS (EI .i64) w 0 3 v xs := hw.all _ (List.mem_cons_self ..)
  obtain ⟨cs, h1, h2⟩ := hown
  have hcs := EI_cells h2
  rcases h1.2.2 with ⟨rfl, h0⟩ | ⟨g, off, cap, cur, rfl, hb, hg, hnc, hcm, hle, hcur⟩
  · have : xs = [] := List.eq_nil_of_length_eq_zero h0
    subst this
    refine callsIn_wide.2 (Calls.mono (Tryz.slices_Sort_int_none none 0 w) ?_)
    rintro _ _ ⟨rfl, rfl⟩
    exact ⟨_, rfl, _, ⟨rfl, rfl⟩, by simpa [sortL] using hw⟩
  · have hsz : (EI .i64).sz = 1 := rfl
    rw [hsz] at hle
    have hH : Go.Sort.Holds (Value.int .i64) w g off xs.toArray := by
      intro j hj
      have hj' : j < xs.length := by simpa using hj
      refine ⟨?_, by simp [World.frozen?, At] at hg ⊢; simp [hg]⟩
      rw [hg.cell, hcur j (.int .i64 xs[j]) (by rw [hcs]; simp [hj'])]
      simp [hj']
    refine callsIn_wide.2 (Calls.mono (Tryz.slices_Sort_int g off cap xs w hH hg.lt (by omega)) ?_)
    rintro _ w' ⟨rfl, n, os, rfl⟩
    refine ⟨_, rfl, _, ⟨rfl, rfl⟩, ?_⟩
    have hperm : (sortL xs).length = xs.length := by simp [sortL]
    have g1 : w.grownBy (Go.Sort.grow (Go.Sort.putRow (Value.int .i64) (Go.Sort.ahead w n) g off (sortL xs).toArray) os) (some g) := by
      refine ⟨rfl, rfl, rfl, by simp, fun k hk hne => ?_⟩
      rw [Go.Sort.heap_grow_old _ _ (by simpa using hk)]
      have : g ≠ k := fun e => hne (by rw [e])
      simp [Go.Sort.putRow, Go.Sort.mapBlock, Go.Sort.ahead, Array.getElem?_modify, this]
    have hat : At (Go.Sort.grow (Go.Sort.putRow (Value.int .i64) (Go.Sort.ahead w n) g off (sortL xs).toArray) os) g (.cells (Go.Sort.putCells (Value.int .i64) off (sortL xs).toArray cur) 3 (0, 0)) := by
      show (Go.Sort.grow _ os).heap[g]? = _
      rw [Go.Sort.heap_grow_old _ _ (by simpa using hg.lt)]
      have hg' : w.heap[g]? = some (.cells cur 3 (0, 0)) := hg
      simp [Go.Sort.putRow, Go.Sort.mapBlock, Go.Sort.ahead, Array.getElem?_modify, hg', Go.Sort.onCells]
    refine Holds.put hw rfl g1 (fun k hk => by cases hk; rfl) ⟨(sortL xs).map (Value.int .i64), ⟨by simp [hperm, hsz], ?_, .inr ⟨g, off, cap, _, by rw [hperm], Nat.zero_le _, hat, by rw [hperm]; exact hnc, hcm, by rw [hsz]; simpa [Go.Sort.putCells] using hle, ?_⟩⟩, EI_map _⟩ fun k hk => .inl hk
    · intro u hu
      obtain ⟨x, _, rfl⟩ := List.mem_map.1 hu
      rfl
    · intro j u hj
      obtain ⟨h4, h5⟩ := List.getElem?_eq_some_iff.1 hj
      simp at h4
      rw [← h5]
      have : off + j < cur.size := by omega
      simp [Go.Sort.putCells, this, h4]
end Go.Lag

/- Plain facts on aliases, descriptions, weights. -/
namespace Go.Lag
open Go Go.RowKit
theorem alias_next {l : List Rep} {rank : Int → Nat} (h : Ends l rank) {q : Int} (hq : (!(aget (userM l) q).isSome || !decide (((aget (userM l) q).getD Rep.zero).kind = 7)) = false) :
    aliasL l q = aliasL l ((aget (userM l) q).getD Rep.zero).parcel ∧ rank ((aget (userM l) q).getD Rep.zero).parcel < rank q := by
  cases hu : aget (userM l) q with
  | none => simp [hu] at hq
  | some u =>
    simp [hu] at hq
    exact ⟨alias_step h hu hq, h.lt q u hu hq⟩
theorem alias_stop {l : List Rep} {q : Int} (hq : (!(aget (userM l) q).isSome || !decide (((aget (userM l) q).getD Rep.zero).kind = 7)) = true) : aliasL l q = q := by
  cases hu : aget (userM l) q with
  | none => exact alias_none hu
  | some u => simp [hu] at hq; exact alias_other hu hq
end Go.Lag

/- The beach: what is known of all parcels, frozen. -/
namespace Go.Lag
open Go Go.RowKit Go.Proofs
section
variable {r : Option Nat} {P : Program} {m : Nat} {l : Env} {H R : List Assn} {ty t : TypeId} {x y : Operand} {α : Type} {E : Value → α → Prop} {b : Nat} {mm : List (Int × α)}
/-- The pair at which the iterator over a frozen map stands. -/
theorem EnZ {Z : Hp} {o : Obj} {c : Nat} {vis : List (Int × α)} {p : Int × α} (hZo : Z b = some o) (hm : MapR E o mm) (hx : ev l x = some (ptr c 0) := by rfl)
    (hZ : Assn.zm Z ∈ H := by repeat (first | exact List.Mem.head _ | refine List.Mem.tail _ ?_)) (hp : Assn.iz c b o mm (vis ++ [p]) ∈ H := by repeat (first | exact List.Mem.head _ | refine List.Mem.tail _ ?_)) :
    DoesH r P (.entry x) ty l H fun v H' => ∃ u, v = .tuple #[.int .i64 p.1, u] ∧ H = H' := fun w hw => by
  obtain ⟨it, h3, h4⟩ := hw.all _ hp
  obtain ⟨v, q1, q2⟩ := y_entry (ty := ty) hx h3 (hw.all _ hZ _ _ hZo) hm h4
  exact q2.does ⟨_, ⟨v, rfl, rfl⟩, hw⟩
theorem EnO {c : Nat} {vis : List (Int × α)} {p : Int × α} (hx : ev l x = some (ptr c 0) := by rfl)
    (hp : Assn.mi E b c mm (vis ++ [p]) ∈ H := by repeat (first | exact List.Mem.head _ | refine List.Mem.tail _ ?_)) :
    DoesH r P (.entry x) ty l H fun v H' => ∃ u, v = .tuple #[.int .i64 p.1, u] ∧ H = H' := fun w hw => by
  obtain ⟨o, it, h1, h2, h3, h4⟩ := hw.all _ hp
  obtain ⟨v, q1, q2⟩ := y_entry (ty := ty) hx h3 h1 h2 h4
  exact q2.does ⟨_, ⟨v, rfl, rfl⟩, hw⟩
end
theorem OwnS.slzAt {α : Type} {E : Elem α} {w : World} {Z : Hp} {e : TypeId} {v : Value} {xs : List α} (h : OwnS E w 0 e v xs) (hz : ∀ b o, v.ownBlock = some b → w.heap[b]? = some o → Z b = some o) : SlZ E Z v xs := by
  obtain ⟨cs, h1, h2⟩ := h
  rcases h1.2.2 with ⟨rfl, hn⟩ | ⟨g, off, cap, cur, rfl, _, hg, hnc, hcm, _⟩
  · have : xs = [] := List.eq_nil_of_length_eq_zero hn
    subst this
    exact SlZ.nil E _
  · refine ⟨_, cap, rfl, hnc, hcm, fun i x hi => ?_⟩
    obtain ⟨g', o, ⟨A, n', c', hv, _, ha⟩, hk, hc⟩ := h1.elem (List.getElem?_eq_some_iff.1 hi).1
    injection hv with hA _ _
    injection hk with hk
    have hk' : g = g' := hk
    subst hk'
    refine ⟨_, _, _, _, hA, ha, h2.2 i x hi, fun j u hj => ?_⟩
    have := hc j u hj
    have hg' : w.heap[g]? = some (.cells cur e (0, 0)) := hg
    simp only [World.cell?, hg'] at this
    exact ⟨cur, e, (0, 0), hz g _ (by simp [Value.ownBlock]) hg', by simpa using this⟩
theorem frozRw {α : Type} {E : Elem α} {As : List Assn} {Z' : Hp} {w : World} {R : List Assn} {e : TypeId} {v : Value} {xs : List α} (h : Holds (As ++ R) w) (hf : ∀ A ∈ As, ∀ b o, A.fp b → w.heap[b]? = some o → Z' b = some o) (hA : Assn.rw E e v xs ∈ As) : SlZ E Z' v xs :=
  OwnS.slzAt (h.all _ (List.mem_append_left _ hA)) fun b o hb ho => hf _ hA b o hb ho

/-! ### The parcels of a beach -/
/-- Parcels that no alias hides. -/
def okB (l : List Rep) (p : Int) : Bool := !(aget (userM l) p).isSome || !decide (((aget (userM l) p).getD Rep.zero).kind = 7)
def idsL (l : List Rep) : List Int := sortL (((makerM l).map (·.1)).filter (okB l))
def parOf (l : List Rep) (p : Int) : Par := parcelP l (l.length + 1) p
def parsN (l : List Rep) (ps : List Int) : List (Int × Par) := ps.foldl (fun m p => aset m p (parOf l p)) []
def parsL (l : List Rep) : List (Int × Par) := parsN l (idsL l)
theorem parsN_snoc {l : List Rep} {ps : List Int} {i : Nat} {p : Int} (h : ps[i]? = some p) : aset (parsN l (ps.take i)) p (parOf l p) = parsN l (ps.take (i + 1)) := by
  rw [take_get h]; simp [parsN]
theorem sortL_mem {xs : List Int} {x : Int} : x ∈ sortL xs ↔ x ∈ xs := by simp [sortL]
theorem sortL_perm {xs ys : List Int} (h : xs.Perm ys) : sortL xs = sortL ys := by
  have hp : (sortL xs).Perm (sortL ys) := (List.mergeSort_perm xs _).trans (h.trans (List.mergeSort_perm ys _).symm)
  have hs : ∀ zs : List Int, (sortL zs).Pairwise (fun x y => x ≤ y) := fun zs => by
    have := List.pairwise_mergeSort (le := fun (x y : Int) => decide (x ≤ y)) (by simp; omega) (by simp; omega) zs
    simpa [sortL] using this
  exact List.Perm.eq_of_pairwise (fun a b _ _ h1 h2 => by omega) (hs xs) (hs ys) hp
theorem ids_mem {l : List Rep} {p : Int} (h : p ∈ idsL l) : (aget (makerM l) p).isSome = true := by
  have h1 := (List.mem_filter.1 (sortL_mem.1 h)).1
  rw [← ahas_eq]
  obtain ⟨q, hq, rfl⟩ := List.mem_map.1 h1
  simp only [ahas, List.any_eq_true]
  exact ⟨q, hq, by simp⟩
/-- A visited pair: its parcel is taken down, or not. -/
theorem ids_t {l : List Rep} {vis : List (Int × Rep)} {p : Int × Rep} (h : okB l p.1 = true) : ((vis ++ [p]).map (·.1)).filter (okB l) = (vis.map (·.1)).filter (okB l) ++ [p.1] := by simp [h]
theorem ids_f {l : List Rep} {vis : List (Int × Rep)} {p : Int × Rep} (h : okB l p.1 = false) : ((vis ++ [p]).map (·.1)).filter (okB l) = (vis.map (·.1)).filter (okB l) := by simp [h]
theorem ids_end {l : List Rep} {vis : List (Int × Rep)} (h : vis.Perm (makerM l)) : sortL ((vis.map (·.1)).filter (okB l)) = idsL l := sortL_perm ((h.map _).filter _)

/-- The beach of the reports l lies frozen at b. -/
structure BeaZ (Z : Hp) (b : Nat) (l : List Rep) (s : Nat) (iv : Value) (pb : Nat) : Prop where
  at_ : Z b = some (.cells [ptr s 0, iv, .map (some pb)].toArray 122 (0, 0))
  st : Sto' Z s l
  ids : SlZ (EI .i64) Z iv (idsL l)
  ps : MapZ ParV Z pb (parsL l)
theorem BeaZ.mono {Z Z' : Hp} {b s pb : Nat} {l : List Rep} {iv : Value} (h : BeaZ Z b l s iv pb) (hz : ZLe Z Z') : BeaZ Z' b l s iv pb :=
  ⟨hz _ _ h.at_, let ⟨lv, mb, ub, hb, q⟩ := h.st; ⟨lv, mb, ub, hb, q.mono hz⟩, h.ids.mono hz, h.ps.mono hz fun _ _ q => q⟩
theorem FzBea {m : Nat} {ds : List Deferred} {Q : Exit → Act → World → Prop} {l_ : Env} {R : List Assn} {x : Exit} {Z : Hp} {b s pb mb ub hb : Nat} {l : List Rep} {lv iv : Value} (hS : StoZ Z s l lv mb ub hb)
    (h : ∀ Z', ZLe Z Z' → BeaZ Z' b l s iv pb → PostH m ds x Q l_ (.zm Z' :: R)) :
    PostH m ds x Q l_ (.cl b [ptr s 0, iv, .map (some pb)] 122 :: .rw (EI .i64) 3 iv (idsL l) :: .mp ParV pb (parsL l) :: .zm Z :: R) := fun w hw => by
  have hw' : Holds ([.cl b [ptr s 0, iv, .map (some pb)] 122, .rw (EI .i64) 3 iv (idsL l), .mp ParV pb (parsL l)] ++ .zm Z :: R) w := hw
  obtain ⟨Z', q1, q2, q3⟩ := hw'.fzL (by intro A hA; simp at hA; rcases hA with rfl | rfl | rfl <;> rfl)
  exact h Z' q1 ⟨frozCl hw' q2 (by simp), ⟨_, _, _, _, hS.mono q1⟩, frozRw (e := 3) hw' q2 (by simp), frozMp hw' q2 (by simp)⟩ w q3
/-! ### Plain facts for looks -/
theorem nd_len {α : Type} : ∀ {xs ys : List α}, xs.Nodup → (∀ x ∈ xs, x ∈ ys) → xs.length ≤ ys.length
  | [], _, _, _ => Nat.zero_le _
  | x :: xs, ys, hn, hs => by
    obtain ⟨a, b, rfl⟩ := List.append_of_mem (hs x (List.mem_cons_self ..))
    have hn' := List.nodup_cons.1 hn
    have := nd_len (ys := a ++ b) hn'.2 fun z hz => by
      have h1 := hs z (List.mem_cons_of_mem _ hz)
      have h2 : z ≠ x := fun e => hn'.1 (e ▸ hz)
      simp only [List.mem_append, List.mem_cons] at h1 ⊢
      rcases h1 with h1 | h1 | h1
      · exact .inl h1
      · exact (h2 h1).elim
      · exact .inr h1
    simp only [List.length_append, List.length_cons] at this ⊢; omega
theorem aset_len {α : Type} (m : List (Int × α)) (k : Int) (a : α) : (aset m k a).length ≤ m.length + 1 := by
  induction m with
  | nil => simp [aset]
  | cons p m ih => obtain ⟨j, b⟩ := p; simp only [aset]; split <;> simp; omega
theorem putAll_len (x : Rep) : ∀ (ks : List Int) (m : List (Int × Rep)), (putAll m ks x).length ≤ m.length + ks.length
  | [], m => by simp [putAll]
  | k :: ks, m => by
    have h1 := putAll_len x ks (aset m k x)
    have h2 := aset_len m k x
    have h3 : putAll m (k :: ks) x = putAll (aset m k x) ks x := rfl
    rw [h3]; simp only [List.length_cons]; omega
theorem makes_len {x : Rep} (h : Small x) : (makesL x).length ≤ 8 := by
  obtain ⟨_, _, h3, h4⟩ := h
  simp only [makesL, List.length_map, List.length_range, makesN]
  repeat' split
  all_goals omega
theorem maker_len {l : List Rep} (h : ∀ x ∈ l, Small x) : (makerM l).length ≤ l.length * 8 := by
  have : ∀ (l : List Rep) (m : List (Int × Rep)), (∀ x ∈ l, Small x) → (l.foldl (fun m x => putAll m (makesL x) x) m).length ≤ m.length + l.length * 8 := by
    intro l
    induction l with
    | nil => intro m _; simp
    | cons x l ih =>
      intro m h
      have h1 := ih (putAll m (makesL x) x) fun y hy => h y (List.mem_cons_of_mem _ hy)
      have h2 := putAll_len x (makesL x) m
      have h3 := makes_len (h x (List.mem_cons_self ..))
      simp only [List.foldl_cons, List.length_cons]; omega
  simpa [makerM] using this l [] h
/-- A list that is checked: what the reports make and use comes to an end. -/
def GoodL (l : List Rep) : Prop := ∃ r1 r2, Made l r1 ∧ (∀ p, r1 p ≤ l.length) ∧ Ends l r2
theorem checked_rep {l : List Rep} (h : (checkE l).2 = 0) : ∀ y ∈ l, reportB y = true := by
  have hno : (List.range l.length).find? (fun i => !decide (folE (l.take i) (l[i]?.getD Rep.zero) = 0)) = none := by
    cases hf : (List.range l.length).find? (fun i => !decide (folE (l.take i) (l[i]?.getD Rep.zero) = 0)) with
    | none => rfl
    | some i =>
      have h1 := List.find?_some hf
      simp only [checkE, hf] at h
      simp [h] at h1
  intro y hy
  obtain ⟨i, hi, rfl⟩ := List.getElem_of_mem hy
  have h1 := List.find?_eq_none.1 hno i (by simpa using hi)
  simp [hi] at h1
  exact fol_rep h1
theorem count_len (l : List Rep) (k : Int) : (countL l k).length ≤ l.length := List.length_filter_le _ _
theorem parsN_get {l : List Rep} (ps : List Int) (p : Int) : aget (parsN l ps) p = if p ∈ ps then some (parOf l p) else none := by
  have : ∀ (ps : List Int) (m : List (Int × Par)), aget (ps.foldl (fun m p => aset m p (parOf l p)) m) p = if p ∈ ps then some (parOf l p) else aget m p := by
    intro ps
    induction ps with
    | nil => intro m; simp
    | cons q ps ih =>
      intro m
      simp only [List.foldl_cons, ih, aget_aset, List.mem_cons]
      by_cases h1 : p ∈ ps
      · simp [h1]
      · by_cases h2 : q = p
        · subst h2; simp
        · simp [h1, h2, Ne.symm h2]
  simpa [aget_nil, parsN] using this ps []
theorem parsL_get {l : List Rep} (p : Int) : aget (parsL l) p = if p ∈ idsL l then some (parOf l p) else none := parsN_get _ p
/-- What looks answers: why not, or 0. -/
def lookE (l : List Rep) (known : Int) (ps : List Int) : Int := if ¬ (checkE l).2 = 0 then (checkE l).2 else if ps.all (fun p => (aget (parsL (countL l known)) p).isSome) then 0 else 30
def LookZ' (Z : Hp) (l : List Rep) (known : Int) (ps : List Int) (bv : Value) : Prop :=
  (checkE l).2 = 0 ∧ (∀ p ∈ ps, (aget (parsL (countL l known)) p).isSome = true) ∧ ∃ b s iv pb, bv = ptr b 0 ∧ BeaZ Z b (countL l known) s iv pb
theorem look_e {l : List Rep} {known : Int} {ps : List Int} (h : ¬ (checkE l).2 = 0) : (checkE l).2 = lookE l known ps ∧ (lookE l known ps = 0 → False) := by
  simp [lookE, h]
theorem look_30 {l : List Rep} {known : Int} {ps : List Int} {i : Nat} {p : Int} (h : (checkE l).2 = 0) (hp : ps[i]? = some p) (hn : (aget (parsL (countL l known)) p).isSome = false) : 30 = lookE l known ps := by
  have : ps.all (fun p => (aget (parsL (countL l known)) p).isSome) = false := by
    rw [List.all_eq_false]; exact ⟨p, mem_get hp, by simp [hn]⟩
  simp [lookE, h, this]
theorem look_0 {l : List Rep} {known : Int} {ps : List Int} (h : (checkE l).2 = 0) (hp : ∀ p ∈ ps, (aget (parsL (countL l known)) p).isSome = true) : 0 = lookE l known ps := by
  have : ps.all (fun p => (aget (parsL (countL l known)) p).isSome) = true := List.all_eq_true.2 hp
  simp [lookE, h, this]
theorem look_step {l : List Rep} {known : Int} {ps : List Int} {i : Nat} {p : Int} (h : ∀ p ∈ ps.take i, (aget (parsL (countL l known)) p).isSome = true) (hx : ps[i]? = some p) (hs : (aget (parsL (countL l known)) p).isSome = true) :
    ∀ p ∈ ps.take (i + 1), (aget (parsL (countL l known)) p).isSome = true := by
  rw [take_get hx]; intro y hy
  rcases List.mem_append.1 hy with h1 | h1
  · exact h y h1
  · simp at h1; subst h1; exact hs
theorem vis_lt {α : Type} {vis mm : List α} {p : α} (hn : vis.Nodup) (hs : ∀ q ∈ vis, q ∈ mm) (hp : p ∈ mm) (hv : p ∉ vis) : vis.length < mm.length := by
  have := nd_len (xs := p :: vis) (ys := mm) (List.nodup_cons.2 ⟨hv, hn⟩) (fun z hz => (List.mem_cons.1 hz).elim (fun h => h ▸ hp) (hs z))
  simp only [List.length_cons] at this; omega
theorem vis_nd {α : Type} {vis : List α} {p : α} (hn : vis.Nodup) (hv : p ∉ vis) : (vis ++ [p]).Nodup := by
  rw [List.nodup_append]; refine ⟨hn, by simp, ?_⟩; intro a ha b hb e; simp at hb; subst hb; exact hv (e ▸ ha)
theorem vis_sub {α : Type} {vis mm : List α} {p : α} (hs : ∀ q ∈ vis, q ∈ mm) (hp : p ∈ mm) : ∀ q ∈ vis ++ [p], q ∈ mm := by
  intro q hq; rcases List.mem_append.1 hq with h | h
  · exact hs q h
  · simp at h; subst h; exact hp
section
variable {P : Program} {l : Env} {H : List Assn} {ty t e : TypeId} {x y : Operand} {b : Nat}
theorem LkP {k : Int} {mb : List (Int × Par)} {zv : Value} [hT : TMap P t e] [hz : TZero P e zv] (hx : ev l x = some (.map (some b)) := by rfl) (hy : ev l y = some (.int .i64 k) := by rfl)
    (hm : MapAt H ParV b mb := by first | exact MapAt.mp (by repeat (first | exact List.Mem.head _ | refine List.Mem.tail _ ?_)) | exact MapAt.mz (by assumption) (by repeat (first | exact List.Mem.head _ | refine List.Mem.tail _ ?_))) (hf : zv = parV Par.zero := by rfl) :
    YldH P (.lookup t x y false) ty l H (parV ((aget mb k).getD Par.zero)) := Lk parV Par.zero mb (fun _ _ h => h) hm hf hx hy
theorem LkP2 {k : Int} {mb : List (Int × Par)} {zv : Value} [hT : TMap P t e] [hz : TZero P e zv] (hx : ev l x = some (.map (some b)) := by rfl) (hy : ev l y = some (.int .i64 k) := by rfl)
    (hm : MapAt H ParV b mb := by first | exact MapAt.mp (by repeat (first | exact List.Mem.head _ | refine List.Mem.tail _ ?_)) | exact MapAt.mz (by assumption) (by repeat (first | exact List.Mem.head _ | refine List.Mem.tail _ ?_))) (hf : zv = parV Par.zero := by rfl) :
    YldH P (.lookup t x y true) ty l H (.tuple #[parV ((aget mb k).getD Par.zero), .bool (aget mb k).isSome]) := Lk2 parV Par.zero mb (fun _ _ h => h) hm hf hx hy
end
theorem ids_len (l : List Rep) : (idsL l).length ≤ (makerM l).length := by
  have h2 := List.length_filter_le (okB l) ((makerM l).map (·.1))
  simp only [List.length_map] at h2
  simpa [idsL, sortL] using h2
end Go.Lag

/- Rows of ints of one's own, written in place. -/
namespace Go.Lag
open Go Go.RowKit Go.Proofs
theorem splice_get (ds : List Value) : ∀ (cur : Array Value) (o k : Nat), o + ds.length ≤ cur.size → (splice cur o ds)[k]? = if o ≤ k ∧ k < o + ds.length then ds[k - o]? else cur[k]? := by
  induction ds with
  | nil => intro cur o k _; simp only [splice, List.length_nil]; rw [if_neg (by omega)]
  | cons d ds ih =>
    intro cur o k h
    simp only [List.length_cons] at h ⊢
    rw [splice, ih _ _ _ (by simp; omega)]
    by_cases h1 : o + 1 ≤ k ∧ k < o + 1 + ds.length
    · rw [if_pos h1, if_pos (by omega), show k - o = (k - (o + 1)) + 1 by omega]; rfl
    · rw [if_neg h1]
      by_cases h2 : k = o
      · subst h2
        rw [if_pos (by omega)]
        have : k < cur.size := by omega
        simp [this]
      · rw [if_neg (by omega)]
        simp [Array.getElem?_setIfInBounds, Ne.symm h2]
theorem splice_size (ds : List Value) : ∀ (cur : Array Value) (o : Nat), (splice cur o ds).size = cur.size := by
  induction ds with
  | nil => intro cur o; rfl
  | cons d ds ih => intro cur o; rw [splice, ih]; simp
variable {w w' : World} {v : Value} {xs : List Int} {kd : IntKind} {e : TypeId} {base : Nat}
/-- A row of ints of one's own that holds some. -/
theorem OwnS.ints (h : OwnS (EI kd) w base e v xs) (hne : 0 < xs.length) : ∃ g off cap cur, v = .slice (some ⟨g, off, none⟩) xs.length cap ∧ base ≤ g ∧ At w g (.cells cur e (0, 0)) ∧ xs.length ≤ cap ∧ cap ≤ maxLen ∧ off + cap ≤ cur.size ∧ ∀ j x, xs[j]? = some x → cur[off + j]? = some (.int kd x) := by
  obtain ⟨cs, ⟨h1, h2, h3⟩, h4⟩ := h
  have hcs := EI_cells h4
  have hsz : (EI kd).sz = 1 := rfl
  rcases h3 with ⟨rfl, h0⟩ | ⟨g, off, cap, cur, rfl, hb, hg, hnc, hcm, hle, hcur⟩
  · omega
  · exact ⟨g, off, cap, cur, rfl, hb, hg, hnc, hcm, by rw [hsz] at hle; omega, fun j x hj => hcur j _ (by rw [hcs]; simp [hj])⟩
theorem OwnS.mkInts {g off cap : Nat} {cur : Array Value} (hb : base ≤ g) (hg : At w g (.cells cur e (0, 0))) (hn : xs.length ≤ cap) (hm : cap ≤ maxLen) (hle : off + cap ≤ cur.size) (hc : ∀ j x, xs[j]? = some x → cur[off + j]? = some (.int kd x)) :
    OwnS (EI kd) w base e (.slice (some ⟨g, off, none⟩) xs.length cap) xs := by
  have hsz : (EI kd).sz = 1 := rfl
  refine ⟨xs.map (Value.int kd), ⟨by simp [hsz], ?_, .inr ⟨g, off, cap, cur, rfl, hb, hg, hn, hm, by rw [hsz]; omega, fun j u hj => ?_⟩⟩, EI_map xs⟩
  · intro u hu; obtain ⟨x, _, rfl⟩ := List.mem_map.1 hu; rfl
  · rw [List.getElem?_map] at hj
    cases hx : xs[j]? with
    | none => simp [hx] at hj
    | some x => simp [hx] at hj; subst hj; exact hc j x hx
section
variable {r : Option Nat} {P : Program} {m : Nat} {ds : List Deferred} {Q : Exit → Act → World → Prop} {l : Env} {H R : List Assn} {ty t : TypeId} {x y z : Operand} {rest : List Oper} {ops : Array Oper} {et : TypeId}
/-- An element of one's own row is written. -/
theorem StO {b o i : Nat} {a : Int} [hs : TSize P t 1] (he : ElemAt v 1 i b o) (hx : ev l x = some (ptr b o) := by rfl) (hy : ev l y = some (.int kd a) := by rfl) (hp : Pick (.rw (EI kd) e v xs) H R := by repeat (first | exact Pick.head | apply Pick.tail)) (hi : i < xs.length := by omega) :
    DoesH r P (.store t x y) ty l H fun u H' => H' = .rw (EI kd) e v (xs.set i a) :: R := fun w hw => by
  have hw1 := hw.pick hp
  obtain ⟨g, off, cap, cur, rfl, hb, hg, hnc, hcm, hle, hcur⟩ := OwnS.ints hw1.head (by omega)
  obtain ⟨A, n, c, hv, _, ha⟩ := he
  injection hv with hA _ _; injection hA with hA; subst hA
  have hbo : b = g ∧ o = off + i := by
    have := ha; rw [add_at] at this; injection this with h1 h2; exact ⟨h1.symm, by omega⟩
  obtain ⟨rfl, rfl⟩ := hbo
  refine d_store hs.h hx hy rfl hg (by omega) (by show (#[Value.int kd a].all _) = true; simp [Value.oneCell']) fun w' g1 hsz hat => ⟨_, rfl, hw1.put rfl g1 (fun k hk => by cases hk; rfl) ?_ fun k hk => .inl hk⟩
  have hl : (xs.set i a).length = xs.length := by simp
  show OwnS (EI kd) w' 0 e _ _
  rw [← hl]
  refine OwnS.mkInts hb hat (by omega) hcm (by rw [splice_size]; omega) fun j x hj => ?_
  rw [show (Value.int kd a).cells.toList = [.int kd a] from rfl, splice_get _ _ _ _ (by simp; omega)]
  simp only [List.length_cons, List.length_nil]
  rw [List.getElem?_set] at hj
  by_cases h1 : i = j
  · subst h1
    rw [if_pos rfl, if_pos hi] at hj
    injection hj with hj; subst hj
    rw [if_pos (by omega)]; simp
  · rw [if_neg h1] at hj
    rw [if_neg (by omega)]; exact hcur j x hj
theorem add0 (a : Addr) : a.add 0 = a := by simp [Addr.add]
/-- s[i:] of one's own row, still the row's. -/
theorem SlOf {k : IntKind} {i : Nat} {lo : Operand} [hT : TSlice P t et] [hs : TSize P et 1] (hx : ev l x = some v := by rfl) (hlo : ev l lo = some (.int k (i : Int)) := by rfl) (hp : Assn.rw (EI kd) e v xs ∈ H := by repeat (first | exact List.Mem.head _ | refine List.Mem.tail _ ?_)) (hle : i ≤ xs.length := by omega) :
    YldH P (.slice t x (some lo) none none) ty l H (slFrom 1 v i) := fun w hw => y_sliceFrom hT.h hs.h hx hlo rfl (OwnS.toR (hw.all _ hp)) hle
/-- clear(s[i:]). -/
theorem ClrO {i : Nat} [hT : TSlice P t et] [hz : TZero P et (.int kd 0)] (hx : ev l x = some (slFrom 1 v i) := by rfl) (hp : Pick (.rw (EI kd) e v xs) H R := by repeat (first | exact Pick.head | apply Pick.tail)) (hi : i < xs.length := by omega) :
    DoesH r P (.call { callee := .builtin .clear, args := #[x], argTypes := #[t] }) ty l H fun u H' => H' = .rw (EI kd) e v (xs.take i ++ List.replicate (xs.length - i) 0) :: R := fun w hw => by
  have hw1 := hw.pick hp
  obtain ⟨g, off, cap, cur, rfl, hb, hg, hnc, hcm, hle, hcur⟩ := OwnS.ints hw1.head (by omega)
  have hxv : slFrom 1 (.slice (some ⟨g, off, none⟩) xs.length cap) i = .slice (some ⟨g, off + i, none⟩) (xs.length - i) (cap - i) := by
    simp only [slFrom, sliced]
    rw [if_neg (by omega)]
    simp [Addr.add]
  rw [hxv] at hx
  intro ρ hρ
  have hT' := underlying_slice hT.h
  have hrun := Go.Lib.run_clear_slice (P := P) w t et ty (.int kd 0) hT' (fun w => run_zeroValue hz.h) rfl rfl g (off + i) (xs.length - i) (cap - i) (by omega)
    (fun j hj => by rw [hg.cell]; simp; omega) (fun j hj => by have hg' : w.heap[g]? = some (.cells cur e (0, 0)) := hg; simp [World.frozen?, hg'])
  simp [execOp, bare, resolve, invoke, builtin, hρ _ _ hx, hrun, upon]
  refine hw1.put rfl (grown_setCells _ _ _ _) (fun k hk => by cases hk; rfl) ?_ fun k hk => .inl hk
  have hl : (xs.take i ++ List.replicate (xs.length - i) (0 : Int)).length = xs.length := by simp; omega
  have key := OwnS.mkInts (kd := kd) (base := 0) (off := off) (cap := cap) (xs := xs.take i ++ List.replicate (xs.length - i) (0 : Int)) hb (at_setCells g e (0, 0) (List.replicate (xs.length - i) (.int kd 0)) w (off + i) cur hg) (by omega) hcm (by have := splice_size (List.replicate (xs.length - i) (.int kd 0)) cur (off + i); omega) fun j x hj => by
     have hjl := (List.getElem?_eq_some_iff.1 hj).1
     rw [hl] at hjl
     rw [splice_get _ _ _ _ (by simp; omega)]
     simp only [List.length_replicate]
     by_cases h1 : j < i
     · rw [if_neg (by omega)]
       rw [List.getElem?_append_left (by simp; omega), List.getElem?_take_of_lt h1] at hj
       exact hcur j x hj
     · rw [if_pos (by omega)]
       rw [List.getElem?_append_right (by simp; omega), List.getElem?_replicate] at hj
       rw [List.getElem?_replicate]
       simp only [List.length_take] at hj
       rw [if_pos (by omega)] at hj ⊢
       injection hj with hj; subst hj; rfl
  rw [hl] at key
  exact key
/-- s[:i] of one's own row: the row is shorter. -/
theorem SlOt {k : IntKind} {i d : Nat} {hi : Operand} {pos : String} {af : Array Edge} [hT : TSlice P t et] [hs : TSize P et 1] (h : ∀ v', RegH r P m ds ops Q rest ((d, v') :: l) (.rw (EI kd) e v' (xs.take i) :: R)) (hx : ev l x = some v := by rfl) (hhi : ev l hi = some (.int k (i : Int)) := by rfl)
    (hp : Pick (.rw (EI kd) e v xs) H R := by repeat (first | exact Pick.head | apply Pick.tail)) (hle : i ≤ xs.length := by omega) (h0 : 0 < xs.length := by omega) (hd : Nat.blt d m = true := by rfl) :
    RegH r P m ds ops Q (⟨some d, .slice t x none (some hi) none, ty, pos, af, none⟩ :: rest) l H := fun w hw => by
  have hw1 := hw.pick hp
  obtain ⟨g, off, cap, cur, rfl, hb, hg, hnc, hcm, hle2, hcur⟩ := OwnS.ints hw1.head h0
  have hl : (xs.take i).length = i := by simp; omega
  have hy : Yld P (.slice t x none (some hi) none) ty l w (.slice (some ⟨g, off, none⟩) (xs.take i).length cap) := by
    rw [hl]
    have hcap : (i : Int) ≤ cap := by omega
    have hcap0 : ¬ cap = 0 := by omega
    intro ρ hρ
    have hT' := underlying_slice hT.h
    simp [execOp, bare, hρ _ _ hx, hρ _ _ hhi, Instr.sliceAt, run_underlying hT', Instr.slice, Instr.sliceBounds, run_sliceBound, run_sizeOf hs.h, hcap, hcap0, Addr.add]
  refine Reg.y rfl hd hy (h _ w (hw1.put rfl (row := none) ⟨rfl, rfl, rfl, Nat.le_refl _, fun _ _ _ => rfl⟩ (by simp) ?_ fun k hk => .inl hk))
  exact OwnS.mkInts hb hg (by omega) hcm hle2 fun j x hj => by
    rw [List.getElem?_take] at hj
    split at hj
    · exact hcur j x hj
    · cases hj
end
theorem del_get {xs zs : List Int} {j : Nat} (h : zs.drop j = xs.drop j) : zs[j]? = xs[j]? := by
  have h1 : (zs.drop j)[0]? = (xs.drop j)[0]? := by rw [h]
  simpa using h1
theorem del_drop {xs zs : List Int} {j : Nat} (h : zs.drop j = xs.drop j) : zs.drop (j + 1) = xs.drop (j + 1) := by
  have h1 : (zs.drop j).drop 1 = (xs.drop j).drop 1 := by rw [h]
  simpa using h1
theorem del_set {xs zs : List Int} {j k : Nat} {a : Int} (hk : k < j) (h : zs.drop j = xs.drop j) : (zs.set k a).drop (j + 1) = xs.drop (j + 1) := by
  rw [List.drop_set_of_lt (by omega)]; exact del_drop h
theorem del_take {zs : List Int} {k : Nat} {a : Int} (hk : k < zs.length) : (zs.set k a).take (k + 1) = zs.take k ++ [a] := by
  rw [List.take_add_one, List.take_set_of_le (by omega)]; simp [hk]
theorem del_first {xs : List Int} {p : Int → Bool} {i : Nat} {x : Int} (hx : xs[i]? = some x) (hp : p x = true) (hn : ∀ y ∈ xs.take i, p y = false) : xs.take i = (xs.take (i + 1)).filter (fun x => !p x) := by
  rw [take_get hx, List.filter_append]
  have : (xs.take i).filter (fun x => !p x) = xs.take i := List.filter_eq_self.2 fun y hy => by simp [hn y hy]
  simp [this, hp]
theorem del_none {xs : List Int} {p : Int → Bool} (h : ∀ y ∈ xs, p y = false) : xs.filter (fun x => !p x) = xs := List.filter_eq_self.2 fun y hy => by simp [h y hy]
theorem idxF_ex {xs : List Int} {p : Int → Bool} (h : ¬ idxF p xs = -1) : ∃ (i : Nat) (x : Int), idxF p xs = (i : Int) ∧ xs[i]? = some x ∧ p x = true ∧ ∀ y ∈ xs.take i, p y = false := by
  unfold idxF at h ⊢
  cases hf : xs.findIdx? p with
  | none => simp [hf] at h
  | some i =>
    obtain ⟨hi, hp, hn⟩ := List.findIdx?_eq_some_iff_getElem.1 hf
    refine ⟨i, xs[i], rfl, by simp [hi], hp, fun y hy => ?_⟩
    obtain ⟨j, hj, rfl⟩ := List.getElem_of_mem hy
    simp only [List.length_take] at hj
    simpa using hn j (by omega)
theorem idxF_no {xs : List Int} {p : Int → Bool} (h : idxF p xs = -1) : ∀ y ∈ xs, p y = false := by
  unfold idxF at h
  cases hf : xs.findIdx? p with
  | none => exact List.findIdx?_eq_none_iff.1 hf
  | some i => simp [hf] at h
/-- Other ints of one's own are frozen too. -/
theorem Holds.fzE {Z : Hp} {R : List Assn} {w : World} (h : Holds (.rw (EI kd) e v xs :: .zm Z :: R) w) : ∃ Z', ZLe Z Z' ∧ SlZ (EI kd) Z' v xs ∧ Holds (.zm Z' :: R) w := by
  have hw' : Holds ([.rw (EI kd) e v xs] ++ .zm Z :: R) w := h
  obtain ⟨Z', q1, q2, q3⟩ := hw'.fzL (by intro A hA; simp at hA; subst hA; rfl)
  exact ⟨Z', q1, frozRw (e := e) hw' q2 (by simp), q3⟩
section
variable {r : Option Nat} {P : Program} {m : Nat} {ds : List Deferred} {Q : Exit → Act → World → Prop} {l : Env} {H R R' : List Assn} {rest : List Oper} {ops : Array Oper}
theorem FzI {Z : Hp} (h : ∀ Z', ZLe Z Z' → SlZ (EI kd) Z' v xs → RegH r P m ds ops Q rest l (.zm Z' :: R')) (hp : Pick (.rw (EI kd) e v xs) H R := by repeat (first | exact Pick.head | apply Pick.tail)) (hq : Pick (.zm Z) R R' := by repeat (first | exact Pick.head | apply Pick.tail)) :
    RegH r P m ds ops Q rest l H := fun w hw => by
  obtain ⟨Z', q1, q2, q3⟩ := Holds.fzE ((hw.perm (hp.trans (hq.cons _))))
  exact h Z' q1 q2 w q3
theorem FzIP {Z : Hp} {x : Exit} (h : ∀ Z', ZLe Z Z' → SlZ (EI kd) Z' v xs → PostH m ds x Q l (.zm Z' :: R')) (hp : Pick (.rw (EI kd) e v xs) H R := by repeat (first | exact Pick.head | apply Pick.tail)) (hq : Pick (.zm Z) R R' := by repeat (first | exact Pick.head | apply Pick.tail)) :
    PostH m ds x Q l H := fun w hw => by
  obtain ⟨Z', q1, q2, q3⟩ := Holds.fzE ((hw.perm (hp.trans (hq.cons _))))
  exact h Z' q1 q2 w q3
theorem NilRwP {α : Type} {x : Exit} (E : Elem α) (e : TypeId) (h : PostH m ds x Q l (.rw E e (.slice none 0 0) [] :: H)) : PostH m ds x Q l H := fun w hw =>
  h w (hw.push ⟨rfl, rfl, rfl, Nat.le_refl _, fun _ _ _ => rfl⟩ (OwnS.nil E w 0 e) fun k hk => by simp [Assn.fp, Value.ownBlock] at hk)
end
/-- Rows of parcels. -/
def EPr : Elem Par where
  sz := 12
  rep cs x := cs = parCells x
  len := by rintro cs x rfl; rfl
  one := by
    rintro cs x rfl u hu
    have : (parCells x).all (·.oneCell') = true := rfl
    exact List.all_eq_true.1 this u hu
theorem Take.app {L F : List Assn} : Take L (L ++ F) F := ⟨fun B hB => hB, fun w hw => hw⟩
end Go.Lag

/- slices.Clone at []int, as1 a contract. -/
namespace Go.Lag
open Go Go.RowKit Go.Proofs
theorem clone_push {F : List Assn} {w w' : World} {v : Value} {xs : List Int} (hw : Holds F w) (h1 : w'.ownsRow w.heap.size 3 1 v xs.length (xs.map (Value.int .i64))) (h2 : Go.RowKit.Below w.heap.size w w') : Holds (.rw (EI .i64) 3 v xs :: F) w' := by
  have g : w.grownBy w' none := ⟨h2.os, h2.tape, h2.output, h2.size, fun k hk _ => h2.block k hk⟩
  rcases h1.2 with ⟨rfl, hn⟩ | ⟨g', cap, cur, rfl, hb, hg, hnc, hcm, hsz, htk⟩
  · have : xs = [] := List.eq_nil_of_length_eq_zero hn
    subst this
    exact hw.push g (OwnS.nil _ _ _ _) fun k hk => by simp [Assn.fp, Value.ownBlock] at hk
  · refine hw.push g ?_ fun k hk => by simp [Assn.fp, Value.ownBlock] at hk; omega
    refine OwnS.mkInts (kd := .i64) (base := 0) (off := 0) (cur := cur) (Nat.zero_le _) hg hnc hcm (by omega) fun j x hj => ?_
    have hl := (List.getElem?_eq_some_iff.1 hj).1
    have h3 : (cur.toList.take (xs.length * 1))[j]? = some (.int .i64 x) := by rw [htk, List.getElem?_map, hj]; rfl
    rw [List.getElem?_take_of_lt (by omega)] at h3
    simpa using h3
theorem cloneI_sp {Z : Hp} {sv : Value} {xs : List Int} (hx : SlZ (EI .i64) Z sv xs := by assumption) (hn : xs.length ≤ 1000000 := by first | assumption | omega) : Sp Tryz.prog 208 [sv] [.zm Z] fun u H' => H' = [.rw (EI .i64) 3 u xs] := by
  intro F w hw
  have hz : ZOk Z w := hw.all (.zm Z) (List.mem_cons_self ..)
  obtain ⟨A, cap, rfl, h1, h2, h3⟩ := hx.toR hz
  have hw' : Holds F w := hw.tail
  cases A with
  | none =>
    have : xs = [] := by
      cases xs with
      | nil => rfl
      | cons x xs => obtain ⟨a, b, o, cs, h, _⟩ := h3 0 x rfl; cases h
    subst this
    refine callsIn_wide.2 (Calls.mono (Tryz.slices_Clone_int_nil _ _ w) ?_)
    rintro _ _ ⟨rfl, rfl⟩
    exact ⟨_, rfl, _, rfl, hw'.push ⟨rfl, rfl, rfl, Nat.le_refl _, fun _ _ _ => rfl⟩ (OwnS.nil _ _ _ _) fun k hk => by simp [Assn.fp, Value.ownBlock] at hk⟩
  | some a =>
    cases xs with
    | nil =>
      refine callsIn_wide.2 (Calls.mono (Tryz.slices_Clone_int_zero a cap w) ?_)
      rintro _ w' ⟨v', rfl, q1, _, q2⟩
      exact ⟨_, rfl, _, rfl, clone_push hw' q1 q2⟩
    | cons x xs =>
      obtain ⟨a', b, o, cs, ha, hb, hr, hc⟩ := h3 0 x rfl
      injection ha with ha; subst ha
      simp only [Nat.zero_mul, add0] at hb
      subst hb
      refine callsIn_wide.2 (Calls.mono (Tryz.slices_Clone_int b o _ cap (x :: xs) w (Nat.le_refl _) (by omega) ?_) ?_)
      · intro j hj
        obtain ⟨a', b', o', cs', ha', hb', hr', hc'⟩ := h3 j ((x :: xs)[j]) (by simp [hj])
        injection ha' with ha'; subst ha'
        have hsz : (EI .i64).sz = 1 := rfl
        rw [hsz, Nat.mul_one] at hb'
        have e1 : b' = b ∧ o' = o + j := by
          have : (⟨b, o, none⟩ : Addr).add j = ⟨b, o + j, none⟩ := by simp [Addr.add]
          rw [this] at hb'; injection hb' with h1 h2; exact ⟨h1.symm, h2.symm⟩
        obtain ⟨rfl, rfl⟩ := e1
        have hr' : cs' = [.int .i64 (x :: xs)[j]] := hr'
        subst hr'
        have := hc' 0 _ rfl
        have e2 : (x :: xs).getD j 0 = (x :: xs)[j] := by rw [List.getD_eq_getElem?_getD, List.getElem?_eq_getElem hj]; rfl
        rw [e2]; simpa only [Nat.add_zero] using this
      · rintro _ w' ⟨v', rfl, q1, _, q2⟩
        rw [List.take_length] at q1
        exact ⟨_, rfl, _, rfl, clone_push hw' q1 q2⟩
end Go.Lag
namespace Go.Lag
open Go Go.RowKit Go.Proofs
section
variable {L F : List Assn} {A B C : Assn}
theorem SubH.out1 : SubH (L ++ A :: F) (A :: (L ++ F)) := ⟨[], by simpa using List.perm_middle.symm⟩
theorem SubH.out2 : SubH (L ++ A :: B :: F) (A :: B :: (L ++ F)) := ⟨[], by
  simp only [List.append_nil]
  exact ((List.perm_middle (l₁ := L) (a := B) (l₂ := F)).symm.cons A).trans List.perm_middle.symm⟩
theorem SubH.in2 : SubH (A :: B :: (L ++ F)) (L ++ A :: B :: F) := ⟨[], by
  simp only [List.append_nil]
  exact (((List.perm_middle (l₁ := L) (a := B) (l₂ := F)).symm.cons A).trans List.perm_middle.symm).symm⟩
theorem SubH.in3 : SubH (C :: A :: B :: (L ++ F)) (C :: (L ++ A :: B :: F)) := ⟨[], by
  simp only [List.append_nil]
  exact ((((List.perm_middle (l₁ := L) (a := B) (l₂ := F)).symm.cons A).trans List.perm_middle.symm).symm).cons C⟩
end
section
variable {r : Option Nat} {P : Program} {m : Nat} {ds : List Deferred} {Q : Exit → Act → World → Prop} {l : Env} {H R : List Assn} {α : Type} {E : Value → α → Prop} {b c : Nat} {mm vis : List (Int × α)}
/-- A range over a map is given up. -/
theorem MiP {x : Exit} (h : PostH m ds x Q l (.mp E b mm :: R)) (hp : Pick (.mi E b c mm vis) H R := by repeat (first | exact Pick.head | apply Pick.tail)) : PostH m ds x Q l H := fun w hw => by
  have hw1 := hw.pick hp
  obtain ⟨o, it, h1, h2, h3, h4⟩ := hw1.head
  exact h w (hw1.swap (B' := .mp E b mm) ⟨o, h1, h2⟩ (fun k hk => .inl hk) rfl)
end
/-- What is visited is the beginning of some order of all. -/
theorem vis_ext {α : Type} : ∀ {vs mm : List α}, vs.Nodup → (∀ q ∈ vs, q ∈ mm) → ∃ rest, (vs ++ rest).Perm mm
  | [], mm, _, _ => ⟨mm, List.Perm.refl _⟩
  | x :: vs, mm, hn, hs => by
    obtain ⟨a, b, rfl⟩ := List.append_of_mem (hs x (List.mem_cons_self ..))
    have hn' := List.nodup_cons.1 hn
    obtain ⟨rest, hr⟩ := vis_ext (vs := vs) (mm := a ++ b) hn'.2 fun z hz => by
      have h1 := hs z (List.mem_cons_of_mem _ hz)
      have h2 : z ≠ x := fun e => hn'.1 (e ▸ hz)
      simp only [List.mem_append, List.mem_cons] at h1 ⊢
      rcases h1 with h1 | h1 | h1
      · exact .inl h1
      · exact (h2 h1).elim
      · exact .inr h1
    exact ⟨rest, (hr.cons x).trans List.perm_middle.symm⟩
theorem vis_keys {α : Type} {vis mm : List (Int × α)} {p : Int × α} (hn : vis.Nodup) (hs : ∀ q ∈ vis, q ∈ mm) (hp : p ∈ mm) (hv : p ∉ vis) : ∃ xs, xs.Perm (mm.map (·.1)) ∧ (vis.map (·.1) ++ [p.1]) <+: xs := by
  obtain ⟨rest, hr⟩ := vis_ext (vis_nd hn hv) (vis_sub hs hp)
  exact ⟨_, hr.map _, ⟨rest.map (·.1), by simp⟩⟩
theorem pre_len {S : List Int → Prop} {N : Nat} {pre : List Int} {x : Int} (hS : ∀ xs, S xs → xs.length ≤ N) (h : ∃ xs, S xs ∧ (pre ++ [x]) <+: xs) : pre.length + 1 ≤ N := by
  obtain ⟨xs, h1, h2⟩ := h
  have := h2.length_le
  have := hS xs h1
  simp at *; omega
end Go.Lag

/- What is reached by steps. -/
namespace Go.Lag
open Go Go.RowKit Go.Proofs
def visB (mm : List (Int × Bool)) (p : Int) : Bool := (aget mm p).getD false
def dfs (next : Int → List Int) : Nat → List (Int × Bool) → Int → List (Int × Bool)
  | 0, mm, _ => mm
  | n + 1, mm, p => if (aget mm p).getD false = true then mm else (next p).foldl (fun m q => dfs next n m q) (aset mm p true)
def cnt (U : List Int) (mm : List (Int × Bool)) : Nat := (U.filter fun q => !visB mm q).length
theorem visB_aset {mm : List (Int × Bool)} {p q : Int} : visB (aset mm p true) q = (decide (p = q) || visB mm q) := by
  unfold visB; rw [aget_aset]; by_cases h : p = q <;> simp [h]
theorem cnt_le {U : List Int} {mm mm' : List (Int × Bool)} (h : ∀ q, visB mm q = true → visB mm' q = true) : cnt U mm' ≤ cnt U mm := by
  unfold cnt
  induction U with
  | nil => simp
  | cons u U ih =>
    simp only [List.filter_cons]
    cases h1 : visB mm u with
    | true => simp [h u h1, ih]
    | false =>
      cases h2 : visB mm' u with
      | true => simp; omega
      | false => simp; omega
theorem cnt_aset {U : List Int} {mm : List (Int × Bool)} {p : Int} (hp : p ∈ U) (hv : visB mm p = false) : cnt U (aset mm p true) < cnt U mm := by
  have hle : ∀ U : List Int, cnt U (aset mm p true) ≤ cnt U mm := fun U => cnt_le fun q hq => by rw [visB_aset, hq]; simp
  obtain ⟨a, b, rfl⟩ := List.append_of_mem hp
  have h1 := hle a
  have h2 := hle b
  have e1 : cnt (a ++ p :: b) (aset mm p true) = cnt a (aset mm p true) + cnt b (aset mm p true) := by simp [cnt, List.filter_append, visB_aset]
  have e2 : cnt (a ++ p :: b) mm = cnt a mm + (cnt b mm + 1) := by simp [cnt, List.filter_append, hv]
  omega
theorem foldl_mono {next : Int → List Int} {n : Nat} (h : ∀ mm p q, visB mm q = true → visB (dfs next n mm p) q = true) : ∀ (ps : List Int) (mm : List (Int × Bool)) (q : Int), visB mm q = true → visB (ps.foldl (fun m q => dfs next n m q) mm) q = true
  | [], mm, q, hq => hq
  | p :: ps, mm, q, hq => foldl_mono h ps _ q (h mm p q hq)
theorem dfs_mono {next : Int → List Int} : ∀ (n : Nat) (mm : List (Int × Bool)) (p q : Int), visB mm q = true → visB (dfs next n mm p) q = true
  | 0, mm, p, q, hq => hq
  | n + 1, mm, p, q, hq => by
    unfold dfs
    split
    · exact hq
    · exact foldl_mono (dfs_mono n) _ _ q (by rw [visB_aset, hq]; simp)
theorem dfs_seen {next : Int → List Int} {n : Nat} {mm : List (Int × Bool)} {p : Int} (h : (aget mm p).getD false = true) : dfs next (n + 1) mm p = mm := by simp [dfs, h]
theorem dfs_new {next : Int → List Int} {n : Nat} {mm : List (Int × Bool)} {p : Int} (h : (aget mm p).getD false = false) : dfs next (n + 1) mm p = (next p).foldl (fun m q => dfs next n m q) (aset mm p true) := by simp [dfs, h]
theorem dfs_step {next : Int → List Int} {n : Nat} {mm m2 : List (Int × Bool)} {ps : List Int} {i : Nat} {q : Int} (h : m2 = (ps.take i).foldl (fun m q => dfs next n m q) mm) (hq : ps[i]? = some q) : dfs next n m2 q = (ps.take (i + 1)).foldl (fun m q => dfs next n m q) mm := by
  rw [take_get hq, h]; simp
theorem cnt_step {next : Int → List Int} {n : Nat} {U : List Int} {mm : List (Int × Bool)} {q : Int} (h : cnt U mm < n) : cnt U (dfs next n mm q) < n := Nat.lt_of_le_of_lt (cnt_le (dfs_mono n mm q)) h
theorem cnt_nil (U : List Int) : cnt U [] = U.length := by
  have : (fun q => !visB [] q) = fun _ : Int => true := by funext q; simp [visB, aget_nil]
  simp [cnt, this]
/-- What was made of a parcel, and of what it was made. -/
def backL (l : List Rep) (p : Int) : List Int := if ((aget (makerM l) p).getD Rep.zero).kind = 1 then [] else usesL ((aget (makerM l) p).getD Rep.zero)
def onL (l : List Rep) (p : Int) : List Int := if (aget (userM l) p).isSome then makesL ((aget (userM l) p).getD Rep.zero) else []
theorem user_small {l : List Rep} (h : ∀ x ∈ l, Small x) {p : Int} (hp : (aget (userM l) p).isSome = true) : Small ((aget (userM l) p).getD Rep.zero) := by
  obtain ⟨x, hx⟩ := Option.isSome_iff_exists.1 hp
  rw [hx]; exact h x (user_mem hx).1
end Go.Lag
namespace Go.Lag
open Go Go.RowKit Go.Proofs
theorem dfs_keys {next : Int → List Int} {U : List Int} (hU : ∀ p ∈ U, ∀ q ∈ next p, q ∈ U) : ∀ (n : Nat) (mm : List (Int × Bool)) (p : Int), p ∈ U → (mm.map (·.1)).Nodup → (∀ k ∈ mm.map (·.1), k ∈ U) → ((dfs next n mm p).map (·.1)).Nodup ∧ ∀ k ∈ (dfs next n mm p).map (·.1), k ∈ U := by
  intro n
  induction n with
  | zero => intro mm p _ h1 h2; exact ⟨h1, h2⟩
  | succ n ih =>
    intro mm p hp h1 h2
    unfold dfs
    split
    · exact ⟨h1, h2⟩
    · have key : ∀ (ps : List Int) (mm : List (Int × Bool)), (∀ q ∈ ps, q ∈ U) → (mm.map (·.1)).Nodup → (∀ k ∈ mm.map (·.1), k ∈ U) → ((ps.foldl (fun m q => dfs next n m q) mm).map (·.1)).Nodup ∧ ∀ k ∈ (ps.foldl (fun m q => dfs next n m q) mm).map (·.1), k ∈ U := by
        intro ps
        induction ps with
        | nil => intro mm _ h1 h2; exact ⟨h1, h2⟩
        | cons q ps ihp =>
          intro mm hq h1 h2
          obtain ⟨h3, h4⟩ := ih mm q (hq q (List.mem_cons_self ..)) h1 h2
          exact ihp _ (fun z hz => hq z (List.mem_cons_of_mem _ hz)) h3 h4
      refine key (next p) _ (hU p hp) (nodup_aset h1 p true) fun k hk => ?_
      rcases (mem_keys_aset mm p true k).1 hk with rfl | h
      · exact hp
      · exact h2 k h
theorem dfs_len {next : Int → List Int} {U : List Int} (hU : ∀ p ∈ U, ∀ q ∈ next p, q ∈ U) (n : Nat) {p : Int} (hp : p ∈ U) : (dfs next n [] p).length ≤ U.length := by
  obtain ⟨h1, h2⟩ := dfs_keys hU n [] p hp (by simp) (by simp)
  have := nd_len h1 h2
  simpa using this
/-- What looks hands back first. -/
theorem bv_one {Z : Hp} {l : List Rep} {e : Int} {bv : Value} (h0 : e = 0 → ∃ b s iv pb, bv = ptr b 0 ∧ BeaZ Z b l s iv pb) (h1 : ¬ e = 0 → bv = .pointer none) : bv.cells = [bv].toArray ∧ bv.oneCell' = true := by
  by_cases h : e = 0
  · obtain ⟨b, s, iv, pb, rfl, _⟩ := h0 h; exact ⟨rfl, rfl⟩
  · rw [h1 h]; exact ⟨rfl, rfl⟩
def foundL (l : List Rep) (p : Int) : Bool := ((aget (parsL l) p).getD Par.zero).found
def madeL (l : List Rep) : List Int := (makerM l).map (·.1)
theorem made_mem {l : List Rep} {p : Int} : p ∈ madeL l ↔ (aget (makerM l) p).isSome = true := by
  rw [← ahas_eq]; simp only [ahas, List.any_eq_true, madeL, List.mem_map]
  constructor
  · rintro ⟨q, hq, rfl⟩; exact ⟨q, hq, by simp⟩
  · rintro ⟨q, hq, h⟩; exact ⟨q, hq, by simpa using h⟩
theorem back_in {l : List Rep} {r1 : Int → Nat} (h : Made l r1) : ∀ p ∈ madeL l, ∀ q ∈ backL l p, q ∈ madeL l := by
  intro p hp q hq
  obtain ⟨x, hx⟩ := Option.isSome_iff_exists.1 (made_mem.1 hp)
  simp only [backL, hx, Option.getD_some] at hq
  split at hq
  · cases hq
  · rename_i hk; exact made_mem.2 (h.lt p x hx hk q hq).1
theorem aget_putAll_some {ks : List Int} {x : Rep} : ∀ {m : List (Int × Rep)} {p : Int}, (aget m p).isSome = true ∨ p ∈ ks → (aget (putAll m ks x) p).isSome = true := by
  induction ks with
  | nil => intro m p h; exact h.elim id fun h => by cases h
  | cons k ks ih =>
    intro m p h
    show (aget (putAll (aset m k x) ks x) p).isSome = true
    refine ih ?_
    rcases h with h | h
    · left; rw [aget_aset]; split <;> simp [h]
    · rcases List.mem_cons.1 h with rfl | h
      · left; rw [aget_aset]; simp
      · exact .inr h
theorem maker_some {l : List Rep} {x : Rep} {p : Int} (hx : x ∈ l) (hp : p ∈ makesL x) : (aget (makerM l) p).isSome = true := by
  have mono : ∀ (l : List Rep) (m : List (Int × Rep)), (aget m p).isSome = true → (aget (l.foldl (fun m x => putAll m (makesL x) x) m) p).isSome = true := by
    intro l
    induction l with
    | nil => intro m h; exact h
    | cons y l ih => intro m h; exact ih _ (aget_putAll_some (.inl h))
  obtain ⟨a, b, rfl⟩ := List.append_of_mem hx
  simp only [makerM, List.foldl_append, List.foldl_cons]
  exact mono b _ (aget_putAll_some (.inr hp))
theorem on_in {l : List Rep} : ∀ p ∈ madeL l, ∀ q ∈ onL l p, q ∈ madeL l := by
  intro p _ q hq
  unfold onL at hq
  split at hq
  · rename_i h
    obtain ⟨x, hx⟩ := Option.isSome_iff_exists.1 h
    rw [hx] at hq
    exact made_mem.2 (maker_some (user_mem hx).1 hq)
  · cases hq
theorem look_mem {l : List Rep} {known : Int} {ps : List Int} (h : lookE l known ps = 0) : (checkE l).2 = 0 ∧ ∀ p ∈ ps, p ∈ idsL (countL l known) := by
  unfold lookE at h
  by_cases hc : (checkE l).2 = 0
  · simp only [hc, not_true, if_false] at h
    split at h
    · rename_i ha
      refine ⟨hc, fun p hp => ?_⟩
      have := List.all_eq_true.1 ha p hp
      rw [parsL_get] at this
      split at this
      · assumption
      · cases this
    · cases h
  · simp [hc] at h
/-- The origins of a parcel, and what remains of it. -/
def originsL (l : List Rep) (p : Int) : List Int := (sortL ((dfs (backL l) ((makerM l).length + 1) [] p).map (·.1))).filter fun q => !!foundL l q
def remainsL (l : List Rep) (p : Int) : List Int := (sortL ((dfs (onL l) ((makerM l).length + 1) [] p).map (·.1))).filter fun q => !decide (0 < ((aget (parsL l) q).getD Par.zero).into)
def hiddenL (l : List Rep) (p : Int) : Bool := decide (0 < ((aget (parsL l) p).getD Par.zero).into)
end Go.Lag

/- The graph of a beach: plain. -/
namespace Go.Lag
open Go Go.RowKit Go.Proofs
def parL (l : List Rep) (p : Int) : Par := (aget (parsL l) p).getD Par.zero
def arcL (l : List Rep) (p : Int) : Arc := ⟨p, if (parL l p).found then 0 else (parL l p).from_, (parL l p).into, (parL l p).low, (parL l p).high⟩
def arcsL (l : List Rep) : List Arc := (idsL l).map (arcL l)
theorem arcs_pre {l : List Rep} {i : Nat} {p : Int} (h : (idsL l)[i]? = some p) : ∃ xs, xs = arcsL l ∧ (((idsL l).take i).map (arcL l) ++ [arcL l p]) <+: xs := by
  refine ⟨_, rfl, ?_⟩
  rw [map_take_succ h]
  exact (List.take_prefix _ _).map _
theorem pre_lenA {α : Type} {S : List α → Prop} {N : Nat} {pre : List α} {x : α} (hS : ∀ xs, S xs → xs.length ≤ N) (h : ∃ xs, S xs ∧ (pre ++ [x]) <+: xs) : pre.length + 1 ≤ N := by
  obtain ⟨xs, h1, h2⟩ := h
  have := h2.length_le
  have := hS xs h1
  simp at *; omega
end Go.Lag

/- Paths in the graph: plain. -/
namespace Go.Lag
open Go Go.RowKit Go.Proofs
theorem SubH.mid {Xs L F : List Assn} : SubH (Xs ++ (L ++ F)) (L ++ (Xs ++ F)) := ⟨[], by
  simp only [List.append_nil]
  rw [← List.append_assoc, ← List.append_assoc]
  exact List.perm_append_comm.append_right F⟩
section
variable {r : Option Nat} {P : Program} {m : Nat} {ds : List Deferred} {Q : Exit → Act → World → Prop} {l : Env} {H R : List Assn} {ty t : TypeId} {x y z : Operand} {rest : List Oper} {ops : Array Oper} {et : TypeId} {kd : IntKind} {e : TypeId} {v : Value} {xs : List Int}
/-- s[i:] of one's own row: the row is shorter. -/
theorem SlOd {k : IntKind} {i d : Nat} {lo : Operand} {pos : String} {af : Array Edge} [hT : TSlice P t et] [hs : TSize P et 1] (h : ∀ v', RegH r P m ds ops Q rest ((d, v') :: l) (.rw (EI kd) e v' (xs.drop i) :: R)) (hx : ev l x = some v := by rfl) (hlo : ev l lo = some (.int k (i : Int)) := by rfl)
    (hp : Pick (.rw (EI kd) e v xs) H R := by repeat (first | exact Pick.head | apply Pick.tail)) (hle : i ≤ xs.length := by omega) (h0 : 0 < xs.length := by omega) (hd : Nat.blt d m = true := by rfl) :
    RegH r P m ds ops Q (⟨some d, .slice t x (some lo) none none, ty, pos, af, none⟩ :: rest) l H := fun w hw => by
  have hw1 := hw.pick hp
  have hown : OwnS (EI kd) w 0 e v xs := hw1.head
  refine Reg.y rfl hd (y_sliceFrom hT.h hs.h hx hlo rfl hown.toR hle) (h _ w (hw1.put rfl (row := none) ⟨rfl, rfl, rfl, Nat.le_refl _, fun _ _ _ => rfl⟩ (by simp) ?_ fun k hk => .inl ?_))
  · obtain ⟨g, off, cap, cur, rfl, hb, hg, hnc, hcm, hle2, hcur⟩ := OwnS.ints hown h0
    have hl : (xs.drop i).length = xs.length - i := by simp
    show OwnS (EI kd) w 0 e (slFrom 1 (.slice (some ⟨g, off, none⟩) xs.length cap) i) (xs.drop i)
    by_cases hc : cap = i
    · have : slFrom 1 (.slice (some ⟨g, off, none⟩) xs.length cap) i = .slice (some ⟨g, off, none⟩) (xs.drop i).length (cap - i) := by
        simp only [slFrom, sliced, hl]; rw [if_pos (by omega)]
      rw [this]
      exact OwnS.mkInts hb hg (by omega) (by omega) (by omega) fun j x hj => by
        have := (List.getElem?_eq_some_iff.1 hj).1; omega
    · have : slFrom 1 (.slice (some ⟨g, off, none⟩) xs.length cap) i = .slice (some ⟨g, off + i, none⟩) (xs.drop i).length (cap - i) := by
        simp only [slFrom, sliced, hl]; rw [if_neg (by omega)]; simp [Addr.add]
      rw [this]
      exact OwnS.mkInts hb hg (by omega) (by omega) (by omega) fun j x hj => by
        rw [List.getElem?_drop] at hj
        rw [Nat.add_assoc]; exact hcur _ x hj
  · obtain ⟨g, off, cap, cur, rfl, hb, hg, hnc, hcm, hle2, hcur⟩ := OwnS.ints hown h0
    have hk' : (slFrom 1 (.slice (some ⟨g, off, none⟩) xs.length cap) i).ownBlock = some k := hk
    show (Value.slice (some ⟨g, off, none⟩) xs.length cap).ownBlock = some k
    by_cases hc : cap = i
    · simp only [slFrom, sliced] at hk'; rw [if_pos (by omega)] at hk'; exact hk'
    · simp only [slFrom, sliced] at hk'; rw [if_neg (by omega)] at hk'; by_cases hi0 : i = 0 <;> simpa [Value.ownBlock, Addr.add, hi0] using hk'
end

/-! ### The search -/
def Arc.zero : Arc := ⟨0, 0, 0, 0, 0⟩
def aAt (A : List Arc) (i : Int) : Arc := (A[i.toNat]?).getD Arc.zero
def fAt (fl : List Int) (i : Int) : Int := (fl[i.toNat]?).getD 0
structure BSt where
  by_ : List (Int × Stp)
  seen : List (Int × Bool)
  row : List Int
def push (s : BSt) (w : Int) (st : Stp) : BSt := ⟨aset s.by_ w st, aset s.seen w true, s.row ++ [w]⟩
def bUp (a : Arc) (f v : Int) (i : Int) (s : BSt) : BSt := if (decide (a.from_ = v) && !visB s.seen a.to && decide (f < a.high)) = true then push s a.to ⟨i, 1⟩ else s
def bDn (a : Arc) (f v : Int) (i : Int) (s : BSt) : BSt := if (decide (a.to = v) && !visB s.seen a.from_ && decide (a.low < f)) = true then push s a.from_ ⟨i, -1⟩ else s
def bArc (A : List Arc) (fl : List Int) (skip v : Int) (s : BSt) (i : Nat) : BSt :=
  if (i : Int) = skip then s else bDn (aAt A i) (fAt fl i) v i (bUp (aAt A i) (fAt fl i) v i s)
def bRow (A : List Arc) (fl : List Int) (skip v : Int) (s : BSt) (n : Nat) : BSt := (List.range n).foldl (bArc A fl skip v) s
def bfs (A : List Arc) (fl : List Int) (skip : Int) (want : Int → Bool) : Nat → BSt → Option Int × BSt
  | 0, s => (none, s)
  | n + 1, s => match s.row with
    | [] => (none, s)
    | v :: row => if want v then (some v, ⟨s.by_, s.seen, row⟩) else bfs A fl skip want n (bRow A fl skip v ⟨s.by_, s.seen, row⟩ A.length)
def prevA (A : List Arc) (st : Stp) : Int := if 0 < st.way then (aAt A st.arc).from_ else (aAt A st.arc).to
def trace (A : List Arc) (by_ : List (Int × Stp)) (from_ : Int) : Nat → Int → List Stp
  | 0, _ => []
  | n + 1, v => if v = from_ then [] else (aget by_ v).getD ⟨0, 0⟩ :: trace A by_ from_ n (prevA A ((aget by_ v).getD ⟨0, 0⟩))
/-- All ends of arcs, and from. -/
def ends (A : List Arc) (from_ : Int) : List Int := from_ :: (A.map (·.from_) ++ A.map (·.to))
def start (from_ : Int) : BSt := ⟨[], [(from_, true)], [from_]⟩
theorem aAt_mem {A : List Arc} {i : Nat} {a : Arc} (h : A[i]? = some a) : aAt A i = a := by simp [aAt, h]
theorem ends_from {A : List Arc} {from_ : Int} {i : Nat} (h : i < A.length) : (aAt A i).from_ ∈ ends A from_ := by
  rw [aAt_mem (List.getElem?_eq_getElem h)]
  exact List.mem_cons_of_mem _ (List.mem_append_left _ (List.mem_map_of_mem (List.getElem_mem h)))
theorem ends_to {A : List Arc} {from_ : Int} {i : Nat} (h : i < A.length) : (aAt A i).to ∈ ends A from_ := by
  rw [aAt_mem (List.getElem?_eq_getElem h)]
  exact List.mem_cons_of_mem _ (List.mem_append_right _ (List.mem_map_of_mem (List.getElem_mem h)))
/-- What is left to do. -/
def todo (A : List Arc) (from_ : Int) (s : BSt) : Nat := s.row.length + cnt (ends A from_) s.seen
theorem push_todo {A : List Arc} {from_ w : Int} {s : BSt} {st : Stp} (hw : w ∈ ends A from_) (hn : visB s.seen w = false) : todo A from_ (push s w st) ≤ todo A from_ s := by
  have := cnt_aset hw hn
  simp only [todo, push, List.length_append, List.length_cons, List.length_nil]; omega
theorem bUp_todo {A : List Arc} {from_ v : Int} {s : BSt} {i : Nat} {f : Int} (h : i < A.length) : todo A from_ (bUp (aAt A i) f v i s) ≤ todo A from_ s := by
  unfold bUp; split
  · rename_i h1; simp only [Bool.and_eq_true, Bool.not_eq_true'] at h1
    exact push_todo (ends_to h) h1.1.2
  · exact Nat.le_refl _
theorem bDn_todo {A : List Arc} {from_ v : Int} {s : BSt} {i : Nat} {f : Int} (h : i < A.length) : todo A from_ (bDn (aAt A i) f v i s) ≤ todo A from_ s := by
  unfold bDn; split
  · rename_i h1; simp only [Bool.and_eq_true, Bool.not_eq_true'] at h1
    exact push_todo (ends_from h) h1.1.2
  · exact Nat.le_refl _
theorem bRow_succ (A : List Arc) (fl : List Int) (skip v : Int) (s : BSt) (n : Nat) : bRow A fl skip v s (n + 1) = bArc A fl skip v (bRow A fl skip v s n) n := by
  simp [bRow, List.range_succ]
theorem bArc_todo {A : List Arc} {fl : List Int} {skip from_ v : Int} {s : BSt} {i : Nat} (h : i < A.length) : todo A from_ (bArc A fl skip v s i) ≤ todo A from_ s := by
  unfold bArc; split
  · exact Nat.le_refl _
  · exact Nat.le_trans (bDn_todo h) (bUp_todo h)
theorem bRow_todo {A : List Arc} {fl : List Int} {skip from_ v : Int} {s : BSt} : ∀ {n : Nat}, n ≤ A.length → todo A from_ (bRow A fl skip v s n) ≤ todo A from_ s
  | 0, _ => Nat.le_refl _
  | n + 1, h => by rw [bRow_succ]; exact Nat.le_trans (bArc_todo (by omega)) (bRow_todo (by omega))

/-- A step that leads to v. -/
def StOk (A : List Arc) (fl : List Int) (skip v : Int) (st : Stp) : Prop := 0 ≤ st.arc ∧ st.arc < (A.length : Int) ∧ ¬ st.arc = skip ∧
  ((st.way = 1 ∧ (aAt A st.arc).to = v ∧ fAt fl st.arc < (aAt A st.arc).high) ∨ (st.way = -1 ∧ (aAt A st.arc).from_ = v ∧ (aAt A st.arc).low < fAt fl st.arc))
/-- What the search keeps true; rk: how far a vertex lies. -/
structure BInv (A : List Arc) (fl : List Int) (skip from_ : Int) (s : BSt) (rk : Int → Nat) : Prop where
  fr : visB s.seen from_ = true
  by_ : ∀ v, visB s.seen v = true → ¬ v = from_ → ∃ st, aget s.by_ v = some st ∧ StOk A fl skip v st ∧ visB s.seen (prevA A st) = true ∧ rk (prevA A st) < rk v
  row : ∀ v ∈ s.row, visB s.seen v = true
  lt : ∀ v, visB s.seen v = true → rk v < s.seen.length
  le : s.seen.length + cnt (ends A from_) s.seen ≤ (ends A from_).length
theorem aset_new {α : Type} : ∀ {m : List (Int × α)} {k : Int} {a : α}, aget m k = none → (aset m k a).length = m.length + 1
  | [], k, a, _ => rfl
  | (j, b) :: m, k, a, h => by
    rw [aget_cons] at h
    by_cases hj : j = k
    · simp [hj] at h
    · simp only [hj, if_false] at h
      simp only [aset, hj, if_false, List.length_cons, aset_new h]
theorem aset_len' {α : Type} (m : List (Int × α)) (k : Int) (a : α) : m.length ≤ (aset m k a).length := by
  induction m with
  | nil => simp
  | cons p m ih => obtain ⟨j, b⟩ := p; simp only [aset]; split <;> simp; omega
def AllT (m : List (Int × Bool)) : Prop := ∀ k b, aget m k = some b → b = true
theorem AllT.none {m : List (Int × Bool)} (h : AllT m) {k : Int} (hv : visB m k = false) : aget m k = none := by
  cases hk : aget m k with
  | none => rfl
  | some b => have := h k b hk; subst this; simp [visB, hk] at hv
theorem AllT.aset {m : List (Int × Bool)} (h : AllT m) (k : Int) : AllT (aset m k true) := by
  intro j b hj
  rw [aget_aset] at hj
  split at hj
  · injection hj with hj; exact hj.symm
  · exact h j b hj
theorem start_inv (A : List Arc) (fl : List Int) (skip from_ : Int) : BInv A fl skip from_ (start from_) (fun _ => 0) := by
  have hv : ∀ v, visB (start from_).seen v = true → v = from_ := by
    intro v h
    simp only [start, visB, aget_cons, aget_nil] at h
    by_cases hj : from_ = v
    · exact hj.symm
    · simp [hj] at h
  have hf : visB (start from_).seen from_ = true := by simp [start, visB, aget_cons]
  refine ⟨hf, fun v h1 h2 => absurd (hv v h1) h2, fun v h => ?_, fun v _ => by simp [start], ?_⟩
  · simp only [start, List.mem_cons, List.not_mem_nil, or_false] at h; subst h; exact hf
  · have h1 := cnt_aset (U := ends A from_) (mm := []) (p := from_) (List.mem_cons_self ..) (by simp [visB, aget_nil])
    rw [cnt_nil] at h1
    have h2 : (start from_).seen = aset [] from_ true := rfl
    rw [h2]
    have : (aset ([] : List (Int × Bool)) from_ true).length = 1 := rfl
    omega
theorem push_inv {A : List Arc} {fl : List Int} {skip from_ v w : Int} {s : BSt} {rk : Int → Nat} {st : Stp} (h : BInv A fl skip from_ s rk) (ht : AllT s.seen) (hv : visB s.seen v = true) (hw : visB s.seen w = false) (hU : w ∈ ends A from_) (hs : StOk A fl skip w st) (hp : prevA A st = v) :
    BInv A fl skip from_ (push s w st) (fun x => if x = w then rk v + 1 else rk x) := by
  have hne : ∀ x, visB s.seen x = true → ¬ x = w := fun x hx e => by rw [e, hw] at hx; cases hx
  have hse : ∀ x, visB s.seen x = true → visB (push s w st).seen x = true := fun x hx => by simp only [push, visB_aset, hx, Bool.or_true]
  have hlen : (push s w st).seen.length = s.seen.length + 1 := aset_new (ht.none hw)
  refine ⟨hse _ h.fr, fun x hx hf => ?_, fun x hx => ?_, fun x hx => ?_, ?_⟩
  · by_cases hxw : x = w
    · subst hxw
      refine ⟨st, by simp [push, aget_aset], hs, by rw [hp]; exact hse _ hv, ?_⟩
      rw [hp]; simp [hne v hv]
    · have hx' : visB s.seen x = true := by simpa [push, visB_aset, Ne.symm hxw] using hx
      obtain ⟨st', h1, h2, h3, h4⟩ := h.by_ x hx' hf
      refine ⟨st', by simp [push, aget_aset, Ne.symm hxw, h1], h2, hse _ h3, ?_⟩
      simpa [hxw, hne _ h3] using h4
  · rcases List.mem_append.1 hx with h1 | h1
    · exact hse _ (h.row x h1)
    · simp at h1; subst h1; simp [push, visB_aset]
  · rw [hlen]
    by_cases hxw : x = w
    · simp only [hxw, if_true]; have := h.lt v hv; omega
    · have hx' : visB s.seen x = true := by simpa [push, visB_aset, Ne.symm hxw] using hx
      simp only [hxw, if_false]; have := h.lt x hx'; omega
  · rw [hlen]
    have := cnt_aset hU hw
    have h2 := h.le
    show s.seen.length + 1 + cnt _ (aset s.seen w true) ≤ _
    omega
theorem bUp_inv {A : List Arc} {fl : List Int} {skip from_ v : Int} {s : BSt} {rk : Int → Nat} {i : Nat} (hi : i < A.length) (hk : ¬ (i : Int) = skip) (h : BInv A fl skip from_ s rk) (ht : AllT s.seen) (hv : visB s.seen v = true) :
    (∃ rk', BInv A fl skip from_ (bUp (aAt A i) (fAt fl i) v i s) rk') ∧ AllT (bUp (aAt A i) (fAt fl i) v i s).seen ∧ visB (bUp (aAt A i) (fAt fl i) v i s).seen v = true := by
  unfold bUp; split
  · rename_i h1; simp only [Bool.and_eq_true, Bool.not_eq_true', decide_eq_true_eq] at h1
    exact ⟨⟨_, push_inv h ht hv h1.1.2 (ends_to hi) ⟨by simp, by simpa using hi, hk, .inl ⟨rfl, rfl, h1.2⟩⟩ (by simp [prevA, h1.1.1])⟩, ht.aset _, by simp [push, visB_aset, hv]⟩
  · exact ⟨⟨_, h⟩, ht, hv⟩
theorem bDn_inv {A : List Arc} {fl : List Int} {skip from_ v : Int} {s : BSt} {rk : Int → Nat} {i : Nat} (hi : i < A.length) (hk : ¬ (i : Int) = skip) (h : BInv A fl skip from_ s rk) (ht : AllT s.seen) (hv : visB s.seen v = true) :
    (∃ rk', BInv A fl skip from_ (bDn (aAt A i) (fAt fl i) v i s) rk') ∧ AllT (bDn (aAt A i) (fAt fl i) v i s).seen ∧ visB (bDn (aAt A i) (fAt fl i) v i s).seen v = true := by
  unfold bDn; split
  · rename_i h1; simp only [Bool.and_eq_true, Bool.not_eq_true', decide_eq_true_eq] at h1
    exact ⟨⟨_, push_inv h ht hv h1.1.2 (ends_from hi) ⟨by simp, by simpa using hi, hk, .inr ⟨rfl, rfl, h1.2⟩⟩ (by simp [prevA, h1.1.1])⟩, ht.aset _, by simp [push, visB_aset, hv]⟩
  · exact ⟨⟨_, h⟩, ht, hv⟩
/-- All that the search keeps true. -/
def BAll (A : List Arc) (fl : List Int) (skip from_ : Int) (s : BSt) : Prop := (∃ rk, BInv A fl skip from_ s rk) ∧ AllT s.seen
theorem bArc_inv {A : List Arc} {fl : List Int} {skip from_ v : Int} {s : BSt} {i : Nat} (hi : i < A.length) (h : BAll A fl skip from_ s) (hv : visB s.seen v = true) : BAll A fl skip from_ (bArc A fl skip v s i) ∧ visB (bArc A fl skip v s i).seen v = true := by
  obtain ⟨⟨rk, h⟩, ht⟩ := h
  unfold bArc; split
  · exact ⟨⟨⟨rk, h⟩, ht⟩, hv⟩
  · rename_i hk
    obtain ⟨⟨rk1, h1⟩, h2, h3⟩ := bUp_inv hi hk h ht hv
    obtain ⟨h4, h5, h6⟩ := bDn_inv hi hk h1 h2 h3
    exact ⟨⟨h4, h5⟩, h6⟩
theorem bRow_inv {A : List Arc} {fl : List Int} {skip from_ v : Int} {s : BSt} (h : BAll A fl skip from_ s) (hv : visB s.seen v = true) : ∀ {n : Nat}, n ≤ A.length → BAll A fl skip from_ (bRow A fl skip v s n) ∧ visB (bRow A fl skip v s n).seen v = true
  | 0, _ => ⟨h, hv⟩
  | n + 1, hn => by
    rw [bRow_succ]
    obtain ⟨h1, h2⟩ := bRow_inv h hv (n := n) (by omega)
    exact bArc_inv (by omega) h1 h2
theorem pop_inv {A : List Arc} {fl : List Int} {skip from_ : Int} {s : BSt} (h : BAll A fl skip from_ s) (k : Nat) : BAll A fl skip from_ ⟨s.by_, s.seen, s.row.drop k⟩ := by
  obtain ⟨⟨rk, h⟩, ht⟩ := h
  exact ⟨⟨rk, h.fr, h.by_, fun v hv => h.row v (List.mem_of_mem_drop hv), h.lt, h.le⟩, ht⟩
theorem start_all (A : List Arc) (fl : List Int) (skip from_ : Int) : BAll A fl skip from_ (start from_) :=
  ⟨⟨_, start_inv A fl skip from_⟩, fun k b h => by
    simp only [start, aget_cons, aget_nil] at h
    split at h
    · injection h with h; exact h.symm
    · cases h⟩
end Go.Lag

/- Paths in the graph: for the walk. -/
namespace Go.Lag
open Go Go.RowKit Go.Proofs
section
variable {A : List Arc} {fl : List Int} {skip from_ v : Int} {want : Int → Bool} {n : Nat} {s : BSt}
theorem bfs_found (hn : todo A from_ s < n) (hx : s.row[0]? = some v) (hw : want v = true) : bfs A fl skip want n s = (some v, ⟨s.by_, s.seen, s.row.drop 1⟩) := by
  obtain ⟨n, rfl⟩ : ∃ k, n = k + 1 := ⟨n - 1, by omega⟩
  obtain ⟨b, se, row⟩ := s
  cases row with
  | nil => simp at hx
  | cons u row => simp at hx; subst hx; simp [bfs, hw]
theorem bfs_next (hn : todo A from_ s < n) (hx : s.row[0]? = some v) (hw : want v = false) : bfs A fl skip want n s = bfs A fl skip want (n - 1) (bRow A fl skip v ⟨s.by_, s.seen, s.row.drop 1⟩ A.length) ∧ todo A from_ (bRow A fl skip v ⟨s.by_, s.seen, s.row.drop 1⟩ A.length) < n - 1 := by
  obtain ⟨n, rfl⟩ : ∃ k, n = k + 1 := ⟨n - 1, by omega⟩
  obtain ⟨b, se, row⟩ := s
  cases row with
  | nil => simp at hx
  | cons u row =>
    simp at hx; subst hx
    refine ⟨by simp [bfs, hw], ?_⟩
    refine Nat.lt_of_le_of_lt (bRow_todo (Nat.le_refl _)) ?_
    simp only [todo, List.length_cons, List.drop_succ_cons, List.drop_zero] at hn ⊢
    omega
theorem bfs_end (h : ¬ (0 : Int) < (s.row.length : Int)) : bfs A fl skip want n s = (none, s) := by
  obtain ⟨b, se, row⟩ := s
  have : row = [] := List.eq_nil_of_length_eq_zero (by simp at h ⊢; simpa using h)
  subst this
  cases n <;> rfl
theorem trace_step {b : List (Int × Stp)} {st : Stp} {v' : Int} {k : Nat} (hv : ¬ v = from_) (hb : aget b v = some st) (hp : prevA A st = v') (hk : 0 < k) : trace A b from_ k v = st :: trace A b from_ (k - 1) v' := by
  obtain ⟨k, rfl⟩ : ∃ j, k = j + 1 := ⟨k - 1, by omega⟩
  simp [trace, hv, hb, hp]
theorem trace_end {b : List (Int × Stp)} {k : Nat} : trace A b from_ k from_ = [] := by cases k <;> simp [trace]
theorem start_todo (A : List Arc) (from_ : Int) : todo A from_ (start from_) < 2 * A.length + 3 := by
  have h1 := (start_inv A [] 0 from_).le
  have h2 : (ends A from_).length = 2 * A.length + 1 := by simp [ends]; omega
  have h3 : (start from_).seen.length = 1 := rfl
  have h4 : (start from_).row.length = 1 := rfl
  simp only [todo]; omega
theorem seen_len {rk : Int → Nat} (h : BInv A fl skip from_ s rk) : s.seen.length ≤ 2 * A.length + 1 := by
  have h1 := h.le
  have h2 : (ends A from_).length = 2 * A.length + 1 := by simp [ends]; omega
  omega
variable {i : Nat} {a : Arc} {f : Int}
theorem fAt_mem (h : fl[i]? = some f) : fAt fl i = f := by simp [fAt, h]
theorem bArc_skip (h : (i : Int) = skip) : s = bArc A fl skip v s i := by simp [bArc, h]
theorem bArc_do (h : ¬ (i : Int) = skip) : bArc A fl skip v s i = bDn (aAt A i) (fAt fl i) v i (bUp (aAt A i) (fAt fl i) v i s) := by simp [bArc, h]
theorem bUp_t (hx : A[i]? = some a) (hf : fl[i]? = some f) (h1 : a.from_ = v) (h2 : (aget s.seen a.to).getD false = false) (h3 : f < a.high) : bUp (aAt A i) (fAt fl i) v i s = push s a.to ⟨i, 1⟩ := by
  rw [aAt_mem hx, fAt_mem hf]; exact if_pos (by simp [h1, visB, h2, h3])
theorem bUp_1 (hx : A[i]? = some a) (h1 : ¬ a.from_ = v) : bUp (aAt A i) (fAt fl i) v i s = s := by rw [aAt_mem hx]; exact if_neg (by simp [h1])
theorem bUp_2 (hx : A[i]? = some a) (h2 : (aget s.seen a.to).getD false = true) : bUp (aAt A i) (fAt fl i) v i s = s := by rw [aAt_mem hx]; exact if_neg (by simp [visB, h2])
theorem bUp_3 (hx : A[i]? = some a) (hf : fl[i]? = some f) (h3 : ¬ f < a.high) : bUp (aAt A i) (fAt fl i) v i s = s := by rw [aAt_mem hx, fAt_mem hf]; exact if_neg (by simp [h3])
theorem bDn_t (hx : A[i]? = some a) (hf : fl[i]? = some f) (h1 : a.to = v) (h2 : (aget s.seen a.from_).getD false = false) (h3 : a.low < f) : bDn (aAt A i) (fAt fl i) v i s = push s a.from_ ⟨i, -1⟩ := by
  rw [aAt_mem hx, fAt_mem hf]; exact if_pos (by simp [h1, visB, h2, h3])
theorem bDn_1 (hx : A[i]? = some a) (h1 : ¬ a.to = v) : bDn (aAt A i) (fAt fl i) v i s = s := by rw [aAt_mem hx]; exact if_neg (by simp [h1])
theorem bDn_2 (hx : A[i]? = some a) (h2 : (aget s.seen a.from_).getD false = true) : bDn (aAt A i) (fAt fl i) v i s = s := by rw [aAt_mem hx]; exact if_neg (by simp [visB, h2])
theorem bDn_3 (hx : A[i]? = some a) (hf : fl[i]? = some f) (h3 : ¬ a.low < f) : bDn (aAt A i) (fAt fl i) v i s = s := by rw [aAt_mem hx, fAt_mem hf]; exact if_neg (by simp [h3])
/-- The row holds no more than what is seen. -/
theorem row_le (h : todo A from_ s < n) : s.row.length < n := by unfold todo at h; omega
end
section
variable {r : Option Nat} {P : Program} {m : Nat} {ds : List Deferred} {Q : Exit → Act → World → Prop} {l : Env} {H R : List Assn} {ty t e : TypeId} {x y : Operand} {b : Nat} {rest : List Oper} {ops : Array Oper}
theorem LkS {k : Int} {mb : List (Int × Stp)} {zv : Value} [hT : TMap P t e] [hz : TZero P e zv] (hx : ev l x = some (.map (some b)) := by rfl) (hy : ev l y = some (.int .i64 k) := by rfl)
    (hm : MapAt H StpV b mb := by exact MapAt.mp (by repeat (first | exact List.Mem.head _ | refine List.Mem.tail _ ?_))) (hf : zv = stpV ⟨0, 0⟩ := by rfl) :
    YldH P (.lookup t x y false) ty l H (stpV ((aget mb k).getD ⟨0, 0⟩)) := Lk stpV ⟨0, 0⟩ mb (fun _ _ h => h) hm hf hx hy
/-- Where the elements of one's own row lie. -/
theorem KeW {α : Type} {E : Elem α} {v : Value} {xs : List α} {c : Code} (h : (∀ i, i < xs.length → ∃ b o, ElemAt v E.sz i b o) → WH r P m ds c Q l H) (hm : Assn.rw E e v xs ∈ H := by repeat (first | exact List.Mem.head _ | refine List.Mem.tail _ ?_)) : WH r P m ds c Q l H := fun w hw =>
  h (fun i hi => by
    obtain ⟨us, h1, h2⟩ : OwnS E w 0 e v xs := hw.all _ hm
    obtain ⟨b, o, h3, _, _⟩ := h1.elem hi
    exact ⟨b, o, h3⟩) w hw
end
end Go.Lag

/- Flows along paths, sides: plain. -/
namespace Go.Lag
open Go Go.RowKit Go.Proofs
def room1 (A : List Arc) (fl : List Int) (m : Int) (s : Stp) : Int := if 0 < s.way then min m ((aAt A s.arc).high - fAt fl s.arc) else min m (fAt fl s.arc - (aAt A s.arc).low)
def roomL (A : List Arc) (fl : List Int) (out : List Stp) (m : Int) : Int := out.foldl (room1 A fl) m
def lead1 (n : Int) (fl : List Int) (s : Stp) : List Int := fl.set s.arc.toNat (fAt fl s.arc + s.way * n)
def leadL (fl : List Int) (out : List Stp) (n : Int) : List Int := out.foldl (lead1 n) fl
theorem foldl_take_succ {α β : Type} {f : β → α → β} {b : β} {xs : List α} {i : Nat} {x : α} (h : xs[i]? = some x) : (xs.take (i + 1)).foldl f b = f ((xs.take i).foldl f b) x := by rw [take_get h]; simp
theorem aAt_int {A : List Arc} {k : Int} {a : Arc} (h : A[k.toNat]? = some a) : aAt A k = a := by simp [aAt, h]
theorem fAt_int {fl : List Int} {k f : Int} (h : fl[k.toNat]? = some f) : fAt fl k = f := by simp [fAt, h]
theorem room_t {A : List Arc} {fl : List Int} {m : Int} {s : Stp} {a : Arc} {f : Int} (hx : A[s.arc.toNat]? = some a) (hf : fl[s.arc.toNat]? = some f) (h : 0 < s.way) : min m (a.high - f) = room1 A fl m s := by
  rw [room1, if_pos h, aAt_int hx, fAt_int hf]
theorem room_f {A : List Arc} {fl : List Int} {m : Int} {s : Stp} {a : Arc} {f : Int} (hx : A[s.arc.toNat]? = some a) (hf : fl[s.arc.toNat]? = some f) (h : ¬ 0 < s.way) : min m (f - a.low) = room1 A fl m s := by
  rw [room1, if_neg h, aAt_int hx, fAt_int hf]
theorem lead_len (n : Int) : ∀ (out : List Stp) (fl : List Int), (out.foldl (lead1 n) fl).length = fl.length
  | [], fl => rfl
  | s :: out, fl => by rw [List.foldl_cons, lead_len n out]; simp [lead1]
theorem lead_1 {fl : List Int} {s : Stp} {f n : Int} (hf : fl[s.arc.toNat]? = some f) : fl.set s.arc.toNat (f + s.way * n) = lead1 n fl s := by rw [lead1, fAt_int hf]
/-- The reports across a set of vertices. -/
def moveB (x : Rep) : Bool := decide (x.kind = 2) || decide (x.kind = 3)
def acrossB (mm : List (Int × Bool)) (x : Rep) : Bool := moveB x && !((aget mm x.id).getD false == (aget mm 0).getD false)
def sideL (l : List Rep) (mm : List (Int × Bool)) : List Int := sortL ((l.filter (acrossB mm)).map (·.id))
theorem side_t {mm : List (Int × Bool)} {l : List Rep} {i : Nat} {x : Rep} (hx : l[i]? = some x) (h : acrossB mm x = true) : ((l.take i).filter (acrossB mm)).map (·.id) ++ [x.id] = ((l.take (i + 1)).filter (acrossB mm)).map (·.id) := by
  rw [take_get hx, List.filter_append]; simp [h]
theorem side_f {mm : List (Int × Bool)} {l : List Rep} {i : Nat} {x : Rep} (hx : l[i]? = some x) (h : acrossB mm x = false) : ((l.take i).filter (acrossB mm)).map (·.id) = ((l.take (i + 1)).filter (acrossB mm)).map (·.id) := by
  rw [take_get hx, List.filter_append]; simp [h]
/-- Bounds of arcs and flows. -/
def ABnd (A : List Arc) : Prop := ∀ a ∈ A, 0 ≤ a.low ∧ a.low ≤ 100000000 ∧ 0 ≤ a.high ∧ a.high ≤ 100000000
def FBnd (fl : List Int) (k : Int) : Prop := ∀ f ∈ fl, -k ≤ f ∧ f ≤ k
theorem FBnd.set {fl : List Int} {k k' : Int} (h : FBnd fl k) (hk : k ≤ k') {i : Nat} {f : Int} (hf : -k' ≤ f ∧ f ≤ k') : FBnd (fl.set i f) k' := by
  intro g hg
  rcases List.mem_or_eq_of_mem_set hg with h1 | h1
  · have := h g h1; omega
  · rw [h1]; exact hf
end Go.Lag

/- Augmenting along a path keeps all flows within their bounds: plain. -/
namespace Go.Lag
open Go Go.RowKit Go.Proofs
/-- The further end of an arc. -/
def far (A : List Arc) (rk : Int → Nat) (k : Int) : Nat := max (rk (aAt A k).from_) (rk (aAt A k).to)
theorem far_eq {A : List Arc} {fl : List Int} {skip v : Int} {rk : Int → Nat} {st : Stp} (h : StOk A fl skip v st) (hp : rk (prevA A st) < rk v) : far A rk st.arc = rk v := by
  obtain ⟨_, _, _, ⟨hw, ht, _⟩ | ⟨hw, ht, _⟩⟩ := h
  · simp only [prevA, hw] at hp
    rw [if_pos (by decide)] at hp
    simp only [far, ht]; omega
  · simp only [prevA, hw] at hp
    rw [if_neg (by decide)] at hp
    simp only [far, ht]; omega
/-- The steps of a path found. -/
theorem trace_spec {A : List Arc} {fl : List Int} {skip from_ : Int} {s : BSt} {rk : Int → Nat} (h : BInv A fl skip from_ s rk) : ∀ (k : Nat) (v : Int), visB s.seen v = true → rk v < k →
    (∀ st ∈ trace A s.by_ from_ k v, (∃ u, StOk A fl skip u st) ∧ far A rk st.arc ≤ rk v) ∧ ((trace A s.by_ from_ k v).map (·.arc)).Nodup ∧ (trace A s.by_ from_ k v).length ≤ rk v + 1
  | 0, v, _, hk => by omega
  | k + 1, v, hv, hk => by
    by_cases hf : v = from_
    · subst hf; simp [trace_end]
    · obtain ⟨st, h1, h2, h3, h4⟩ := h.by_ v hv hf
      have e := trace_step (A := A) (from_ := from_) (k := k + 1) hf h1 rfl (by omega)
      rw [e, Nat.add_sub_cancel]
      obtain ⟨i1, i2, i3⟩ := trace_spec h k (prevA A st) h3 (by omega)
      have hfar := far_eq h2 h4
      refine ⟨fun x hx => ?_, ?_, by simp only [List.length_cons]; omega⟩
      · rcases List.mem_cons.1 hx with rfl | hx
        · exact ⟨⟨v, h2⟩, by omega⟩
        · obtain ⟨j1, j2⟩ := i1 x hx; exact ⟨j1, by omega⟩
      · rw [List.map_cons, List.nodup_cons]
        refine ⟨fun hm => ?_, i2⟩
        obtain ⟨x, hx, he⟩ := List.mem_map.1 hm
        obtain ⟨_, j2⟩ := i1 x hx
        rw [he] at j2; omega
/-- What a step leaves free. -/
def free (A : List Arc) (fl : List Int) (s : Stp) : Int := if 0 < s.way then (aAt A s.arc).high - fAt fl s.arc else fAt fl s.arc - (aAt A s.arc).low
theorem room1_eq (A : List Arc) (fl : List Int) (m : Int) (s : Stp) : room1 A fl m s = min m (free A fl s) := by unfold room1 free; split <;> rfl
theorem roomL_le {A : List Arc} {fl : List Int} : ∀ (out : List Stp) (m : Int), roomL A fl out m ≤ m ∧ ∀ s ∈ out, roomL A fl out m ≤ free A fl s
  | [], m => ⟨Int.le_refl _, fun s hs => by cases hs⟩
  | s :: out, m => by
    have h1 : roomL A fl (s :: out) m = roomL A fl out (room1 A fl m s) := rfl
    obtain ⟨h2, h3⟩ := roomL_le (A := A) (fl := fl) out (room1 A fl m s)
    rw [h1]; rw [room1_eq] at h2 ⊢
    rw [room1_eq] at h3
    refine ⟨by omega, fun x hx => ?_⟩
    rcases List.mem_cons.1 hx with rfl | hx
    · omega
    · exact h3 x hx
theorem roomL_pos {A : List Arc} {fl : List Int} : ∀ (out : List Stp) (m : Int), 0 < m → (∀ s ∈ out, 0 < free A fl s) → 0 < roomL A fl out m
  | [], m, hm, _ => hm
  | s :: out, m, hm, h => by
    have h1 : roomL A fl (s :: out) m = roomL A fl out (room1 A fl m s) := rfl
    rw [h1]
    refine roomL_pos out _ ?_ fun x hx => h x (List.mem_cons_of_mem _ hx)
    rw [room1_eq]; have := h s (List.mem_cons_self ..); omega
theorem free_pos {A : List Arc} {fl : List Int} {skip v : Int} {st : Stp} (h : StOk A fl skip v st) : 0 < free A fl st := by
  obtain ⟨_, _, _, ⟨hw, _, hf⟩ | ⟨hw, _, hf⟩⟩ := h
  · unfold free; rw [hw, if_pos (by decide)]; omega
  · unfold free; rw [hw, if_neg (by decide)]; omega
/-- The flows of all arcs lie within their bounds. -/
def FOk (A : List Arc) (fl : List Int) : Prop := fl.length = A.length ∧ ∀ i, i < A.length → (aAt A (i : Int)).low ≤ fAt fl (i : Int) ∧ fAt fl (i : Int) ≤ (aAt A (i : Int)).high
theorem fAt_set {fl : List Int} {k : Nat} {f : Int} (hk : k < fl.length) (j : Nat) : fAt (fl.set k f) (j : Int) = if j = k then f else fAt fl (j : Int) := by
  simp only [fAt, Int.toNat_natCast, List.getElem?_set]
  by_cases h : k = j
  · subst h; simp [hk]
  · simp [h, Ne.symm h]
/-- What leading n along steps of different arcs makes of a flow. -/
theorem lead_at {n : Int} : ∀ (out : List Stp) (fl : List Int), (out.map (·.arc)).Nodup → (∀ s ∈ out, 0 ≤ s.arc ∧ s.arc < (fl.length : Int)) → ∀ j : Nat,
    (fAt (leadL fl out n) (j : Int) = fAt fl (j : Int) ∧ ∀ s ∈ out, ¬ s.arc = (j : Int)) ∨ ∃ s ∈ out, s.arc = (j : Int) ∧ fAt (leadL fl out n) (j : Int) = fAt fl (j : Int) + s.way * n
  | [], fl, _, _, j => .inl ⟨rfl, fun s hs => by cases hs⟩
  | s :: out, fl, hn, hr, j => by
    rw [List.map_cons, List.nodup_cons] at hn
    obtain ⟨ha, hb⟩ := hr s (List.mem_cons_self ..)
    have e : leadL fl (s :: out) n = leadL (lead1 n fl s) out n := rfl
    have hl : (lead1 n fl s).length = fl.length := by simp [lead1]
    have hat : fAt (lead1 n fl s) (j : Int) = if j = s.arc.toNat then fAt fl s.arc + s.way * n else fAt fl (j : Int) := fAt_set (by omega) j
    rw [e]
    rcases lead_at (n := n) out (lead1 n fl s) hn.2 (fun x hx => by rw [hl]; exact hr x (List.mem_cons_of_mem _ hx)) j with ⟨h1, h2⟩ | ⟨x, hx, h1, h2⟩
    · by_cases hj : j = s.arc.toNat
      · refine .inr ⟨s, List.mem_cons_self .., by omega, ?_⟩
        rw [h1, hat, if_pos hj, show s.arc = (j : Int) by omega]
      · refine .inl ⟨by rw [h1, hat, if_neg hj], fun x hx => ?_⟩
        rcases List.mem_cons.1 hx with rfl | hx
        · omega
        · exact h2 x hx
    · refine .inr ⟨x, List.mem_cons_of_mem _ hx, h1, ?_⟩
      have hj : ¬ j = s.arc.toNat := fun hj => hn.1 (List.mem_map.2 ⟨x, hx, by omega⟩)
      rw [h2, hat, if_neg hj]
theorem lead_ok {A : List Arc} {fl : List Int} {out : List Stp} {n : Int} (h : FOk A fl) (hn : (out.map (·.arc)).Nodup) (hr : ∀ s ∈ out, (0 ≤ s.arc ∧ s.arc < (A.length : Int)) ∧ (s.way = 1 ∨ s.way = -1) ∧ n ≤ free A fl s) (h0 : 0 ≤ n) : FOk A (leadL fl out n) := by
  refine ⟨by rw [leadL, lead_len]; exact h.1, fun i hi => ?_⟩
  obtain ⟨q1, q2⟩ := h.2 i hi
  rcases lead_at (n := n) out fl hn (fun s hs => by rw [h.1]; exact (hr s hs).1) i with ⟨h1, _⟩ | ⟨s, hs, h1, h2⟩
  · rw [h1]; exact ⟨q1, q2⟩
  · obtain ⟨_, hw, hf⟩ := hr s hs
    rw [h2]
    rcases hw with hw | hw
    · unfold free at hf; rw [hw, if_pos (by decide), h1] at hf; rw [hw]; omega
    · unfold free at hf; rw [hw, if_neg (by decide), h1] at hf; rw [hw]; omega
theorem FOk.bnd {A : List Arc} {fl : List Int} (h : FOk A fl) (hA : ABnd A) : FBnd fl 100000000 := by
  intro f hf
  obtain ⟨i, hi, rfl⟩ := List.getElem_of_mem hf
  have hi' : i < A.length := by rw [← h.1]; exact hi
  have h1 := h.2 i hi'
  have h2 : aAt A (i : Int) = A[i] := by simp [aAt, hi']
  have h3 : fAt fl (i : Int) = fl[i] := by simp [fAt, hi]
  rw [h2, h3] at h1
  have h4 := hA A[i] (List.getElem_mem hi')
  omega
/-- All of a path that a search has found: what room and lead ask. -/
structure PathOk (A : List Arc) (fl : List Int) (skip : Int) (out : List Stp) : Prop where
  nd : (out.map (·.arc)).Nodup
  rg : ∀ s ∈ out, 0 ≤ s.arc ∧ s.arc < (A.length : Int)
  wy : ∀ s ∈ out, s.way = 1 ∨ s.way = -1
  pos : ∀ s ∈ out, 0 < free A fl s
  sk : ∀ s ∈ out, ¬ s.arc = skip
  len : out.length ≤ 2 * A.length + 1
theorem StOk.path {A : List Arc} {fl : List Int} {skip v : Int} {st : Stp} (h : StOk A fl skip v st) : (0 ≤ st.arc ∧ st.arc < (A.length : Int)) ∧ (st.way = 1 ∨ st.way = -1) ∧ ¬ st.arc = skip :=
  ⟨⟨h.1, h.2.1⟩, h.2.2.2.imp (·.1) (·.1), h.2.2.1⟩
theorem bfs_all {A : List Arc} {fl : List Int} {skip from_ : Int} {want : Int → Bool} : ∀ (n : Nat) (s : BSt), BAll A fl skip from_ s → BAll A fl skip from_ (bfs A fl skip want n s).2 ∧ ∀ u, (bfs A fl skip want n s).1 = some u → visB (bfs A fl skip want n s).2.seen u = true ∧ want u = true
  | 0, s, h => ⟨h, fun u hu => by cases hu⟩
  | n + 1, s, h => by
    obtain ⟨b, se, row⟩ := s
    cases row with
    | nil => exact ⟨h, fun u hu => by cases hu⟩
    | cons v row =>
      have hv : visB se v = true := by obtain ⟨⟨rk, hb⟩, _⟩ := h; exact hb.row v (List.mem_cons_self ..)
      have hp := pop_inv h 1
      simp only [bfs]
      cases hw : want v with
      | true => exact ⟨hp, fun u hu => by injection hu with hu; subst hu; exact ⟨hv, hw⟩⟩
      | false => exact bfs_all n _ (bRow_inv hp hv (Nat.le_refl _)).1
theorem bfs_path {A : List Arc} {fl : List Int} {skip from_ : Int} {want : Int → Bool} {n : Nat} {u : Int} (h : (bfs A fl skip want n (start from_)).1 = some u) :
    PathOk A fl skip (trace A (bfs A fl skip want n (start from_)).2.by_ from_ (bfs A fl skip want n (start from_)).2.seen.length u) ∧ want u = true := by
  obtain ⟨h1, h2⟩ := bfs_all (want := want) n _ (start_all A fl skip from_)
  obtain ⟨h3, h4⟩ := h2 u h
  obtain ⟨⟨rk, hb⟩, _⟩ := h1
  obtain ⟨i1, i2, i3⟩ := trace_spec hb _ u h3 (hb.lt u h3)
  refine ⟨⟨i2, fun s hs => ?_, fun s hs => ?_, fun s hs => ?_, fun s hs => ?_, ?_⟩, h4⟩
  · obtain ⟨⟨v, hv⟩, _⟩ := i1 s hs; exact hv.path.1
  · obtain ⟨⟨v, hv⟩, _⟩ := i1 s hs; exact hv.path.2.1
  · obtain ⟨⟨v, hv⟩, _⟩ := i1 s hs; exact free_pos hv
  · obtain ⟨⟨v, hv⟩, _⟩ := i1 s hs; exact hv.path.2.2
  · have := hb.lt u h3; have := seen_len hb; omega
end Go.Lag

/- Balance: plain, and the operations that it asks. -/
namespace Go.Lag
open Go Go.RowKit Go.Proofs
section
variable {r : Option Nat} {P : Program} {l : Env} {H R : List Assn} {ty t u et : TypeId} {x y : Operand} {kd : IntKind}
theorem mapT_und {e : TypeId} (h : mapT P t = some e) : ∃ k, P.underlying t = some (.map k e) := by
  unfold mapT at h
  cases hu : P.underlying t with
  | none => simp [hu] at h
  | some d =>
    cases d with
    | map k e' =>
      simp only [hu] at h
      refine ⟨k, ?_⟩
      have : e' = e := by
        revert h
        cases P.underlying k with
        | none => intro h; cases h
        | some d => cases d <;> intro h <;> first | (cases h; done) | (injection h) | (split at h <;> first | (injection h) | cases h)
      rw [this]
    | _ => simp [hu] at h
/-- A map against nil. -/
theorem NeM {e : TypeId} {p : Option Nat} [hT : TMap P t e] (hx : ev l x = some (.map p) := by rfl) (hy : ev l y = some (.map none) := by rfl) : YldH P (.binOp .neq t x y u) ty l H (.bool (!p.isNone)) := fun w _ ρ hρ => by
  obtain ⟨k, hk⟩ := mapT_und hT.h
  have h1 := run_neq_map_nil w t k e p hk
  have h2 : (eqGuard .neq t x y (.map p) (.map none)).run P w = .ok () w := by cases x <;> cases y <;> simp [eqGuard]
  simp [execOp, bare, hρ _ _ hx, hρ _ _ hy, h1, h2]
/-- make([]int, n). -/
theorem Ms {n bytes : Nat} {kl kc : IntKind} [hT : TSlice P t et] [hz : TZero P et (.int kd 0)] [hs : TSize P et 1] [hb : TBytes P et bytes] (hx : ev l x = some (.int kl (n : Int)) := by rfl) (hy : ev l y = some (.int kc (n : Int)) := by rfl) (hn : n ≤ 10000000 := by omega) (hm : Nat.ble bytes 100 = true := by rfl) :
    DoesH r P (.makeSlice t x y) ty l H fun v H' => ∃ b, v = .slice (some ⟨b, 0, none⟩) n n ∧ H' = .rw (EI kd) et v (List.replicate n 0) :: H := fun w hw => by
  intro ρ hρ
  have hT' := underlying_slice hT.h
  have hm := Nat.le_of_ble_eq_true hm
  obtain ⟨i, hi⟩ : ∃ i, P.info? et = some i := by
    have := hs.h; unfold sizeT at this; cases h : P.info? et with
    | none => simp [h] at this
    | some i => exact ⟨i, rfl⟩
  have hsi : i.size = 1 := by have := hs.h; unfold sizeT at this; rw [hi] at this; simpa using this
  have hzi : i.zero = some (.int kd 0) := by have := hz.h; unfold zeroT at this; rw [hi] at this; simpa using this
  have hbi : i.bytes = bytes := by have := hb.h; unfold bytesT at this; rw [hi] at this; simpa using this
  obtain ⟨w', h1, h2, h3⟩ := run_makeSlice_full (P := P) (w := w) w.heap.size t et i (.int kd 0) 1 hT' hi hzi hsi kl kc n (by omega) (by rw [hbi]; calc bytes * n ≤ 100 * 10000000 := Nat.mul_le_mul hm hn
                                                                                                                                                    _ ≤ _ := by decide) (by simp only [maxLen]; omega) (Nat.le_refl _)
  simp [execOp, bare, hρ _ _ hx, hρ _ _ hy, h1, upon]
  refine hw.push h3 ?_ fun k hk => by simp [Assn.fp, Value.ownBlock] at hk; omega
  rcases h2.2 with ⟨h, _⟩ | ⟨g, cap, cur, hv, hb', hg, hnc, hcm, hsz, htk⟩
  · cases h
  · injection hv with hv1 hv2 hv3; injection hv1 with hv1; injection hv1 with hv1
    subst hv1 hv3
    have hl : (List.replicate n (0 : Int)).length = n := by simp
    have key := OwnS.mkInts (kd := kd) (base := 0) (off := 0) (cap := n) (xs := List.replicate n (0 : Int)) (Nat.zero_le _) hg (by omega) hcm (by omega) fun j x hj => by
      have hj' := (List.getElem?_eq_some_iff.1 hj).1
      rw [hl] at hj'
      have hx0 : x = 0 := by rw [List.getElem?_replicate, if_pos hj'] at hj; injection hj with hj; exact hj.symm
      subst hx0
      have h3 : (cur.toList.take (n * 1))[j]? = some (.int kd 0) := by
        rw [htk, show (Value.int kd 0).cells = #[.int kd 0] from rfl, toList_madeCells_one]
        simp [hj']
      rw [List.getElem?_take_of_lt (by omega)] at h3
      simpa using h3
    rw [hl] at key
    exact key
end
def gN (m : List (Int × Int)) (k : Int) : Int := (aget m k).getD 0
def mu1 (m : List (Int × Int)) (a : Arc) : List (Int × Int) := aset (aset m a.to (gN m a.to + a.low)) a.from_ (gN (aset m a.to (gN m a.to + a.low)) a.from_ - a.low)
def mu0 (A : List Arc) : List (Int × Int) := A.foldl mu1 []
abbrev BSta := List Int × List (Int × Int)
def pathTo (A : List Arc) (fl : List Int) (skip from_ : Int) (want : Int → Bool) : Option Int × BSt := bfs A fl skip want (2 * A.length + 3) (start from_)
def stepsTo (A : List Arc) (fl : List Int) (skip from_ : Int) (want : Int → Bool) (u : Int) : List Stp := trace A (pathTo A fl skip from_ want).2.by_ from_ (pathTo A fl skip from_ want).2.seen.length u
def lacks (mu : List (Int × Int)) (w : Int) : Bool := decide (gN mu w < 0)
/-- One path's worth. -/
def balStep (A : List Arc) (st : BSta) (v u : Int) : BSta :=
  let out := stepsTo A st.1 (-1) v (lacks st.2) u
  let k := roomL A st.1 out (min (gN st.2 v) (-gN st.2 u))
  let m1 := aset st.2 v (gN st.2 v - k)
  (leadL st.1 out k, aset m1 u (gN m1 u + k))
def balV (A : List Arc) : Nat → BSta → Int → BSta ⊕ List (Int × Bool)
  | 0, st, _ => .inl st
  | n + 1, st, v => if 0 < gN st.2 v then
      match (pathTo A st.1 (-1) v (lacks st.2)).1 with
      | none => .inr (pathTo A st.1 (-1) v (lacks st.2)).2.seen
      | some u => balV A n (balStep A st v u) v
    else .inl st
def balAll (A : List Arc) : List Int → BSta → BSta ⊕ List (Int × Bool)
  | [], st => .inl st
  | v :: vs, st => match balV A ((gN st.2 v).toNat + 1) st v with
    | .inl st' => balAll A vs st'
    | .inr s => .inr s
def nodesL (l : List Rep) : List Int := 0 :: l.map (·.id)
/-- What is kept true of a state. -/
structure BOk (A : List Arc) (st : BSta) : Prop where
  fl : FOk A st.1
  mu : ∀ w, -200000000000000 ≤ gN st.2 w ∧ gN st.2 w ≤ 200000000000000
theorem gN_aset (m : List (Int × Int)) (k a j : Int) : gN (aset m k a) j = if k = j then a else gN m j := by
  unfold gN; rw [aget_aset]; split <;> rfl
theorem balStep_ok {A : List Arc} {st : BSta} {v u : Int} (h : BOk A st) (hv : 0 < gN st.2 v) (hu : (pathTo A st.1 (-1) v (lacks st.2)).1 = some u) :
    BOk A (balStep A st v u) ∧ (gN (balStep A st v u).2 v).toNat < (gN st.2 v).toNat := by
  obtain ⟨hp, hw⟩ := bfs_path hu
  have hneg : gN st.2 u < 0 := by simpa [lacks] using hw
  have hne : ¬ v = u := fun e => by subst e; omega
  obtain ⟨hr1, hr2⟩ := roomL_le (A := A) (fl := st.1) (stepsTo A st.1 (-1) v (lacks st.2) u) (min (gN st.2 v) (-gN st.2 u))
  have hpos := roomL_pos (A := A) (fl := st.1) (stepsTo A st.1 (-1) v (lacks st.2) u) (min (gN st.2 v) (-gN st.2 u)) (by omega) hp.pos
  have hmu : ∀ w, gN (balStep A st v u).2 w = if u = w then gN st.2 u + roomL A st.1 (stepsTo A st.1 (-1) v (lacks st.2) u) (min (gN st.2 v) (-gN st.2 u)) else if v = w then gN st.2 v - roomL A st.1 (stepsTo A st.1 (-1) v (lacks st.2) u) (min (gN st.2 v) (-gN st.2 u)) else gN st.2 w := by
    intro w
    simp only [balStep, gN_aset, if_neg hne]
  refine ⟨⟨lead_ok h.fl hp.nd (fun s hs => ⟨hp.rg s hs, hp.wy s hs, hr2 s hs⟩) (by omega), fun w => ?_⟩, ?_⟩
  · rw [hmu]
    have h1 := h.mu u; have h2 := h.mu v; have h3 := h.mu w
    split
    · omega
    · split <;> omega
  · rw [hmu, if_neg (Ne.symm hne), if_pos rfl]; omega
theorem balV_step {A : List Arc} {n : Nat} {st : BSta} {v u : Int} (hn : (gN st.2 v).toNat < n) (hv : 0 < gN st.2 v) (hu : (pathTo A st.1 (-1) v (lacks st.2)).1 = some u) : balV A n st v = balV A (n - 1) (balStep A st v u) v := by
  obtain ⟨n, rfl⟩ : ∃ k, n = k + 1 := ⟨n - 1, by omega⟩
  simp only [balV, if_pos hv, hu, Nat.add_sub_cancel]
theorem balV_no {A : List Arc} {n : Nat} {st : BSta} {v : Int} (hn : (gN st.2 v).toNat < n) (hv : 0 < gN st.2 v) (hu : (pathTo A st.1 (-1) v (lacks st.2)).1 = none) : balV A n st v = .inr (pathTo A st.1 (-1) v (lacks st.2)).2.seen := by
  obtain ⟨n, rfl⟩ : ∃ k, n = k + 1 := ⟨n - 1, by omega⟩
  simp only [balV, if_pos hv, hu]
theorem balV_end {A : List Arc} {n : Nat} {st : BSta} {v : Int} (hv : ¬ 0 < gN st.2 v) : balV A n st v = .inl st := by
  cases n with
  | zero => rfl
  | succ n => simp only [balV, if_neg hv]
theorem balAll_ok {A : List Arc} {vs : List Int} {i : Nat} {v : Int} {st st' : BSta} (hx : vs[i]? = some v) (h : balV A ((gN st.2 v).toNat + 1) st v = .inl st') : balAll A (vs.drop i) st = balAll A (vs.drop (i + 1)) st' := by
  have : vs.drop i = v :: vs.drop (i + 1) := by
    have hi := (List.getElem?_eq_some_iff.1 hx).1
    rw [List.drop_eq_getElem_cons hi]; congr 1; have := List.getElem?_eq_some_iff.1 hx; exact this.2
  rw [this, balAll, h]
theorem balAll_no {A : List Arc} {vs : List Int} {i : Nat} {v : Int} {st : BSta} {s : List (Int × Bool)} (hx : vs[i]? = some v) (h : balV A ((gN st.2 v).toNat + 1) st v = .inr s) : balAll A (vs.drop i) st = .inr s := by
  have : vs.drop i = v :: vs.drop (i + 1) := by
    have hi := (List.getElem?_eq_some_iff.1 hx).1
    rw [List.drop_eq_getElem_cons hi]; congr 1; have := List.getElem?_eq_some_iff.1 hx; exact this.2
  rw [this, balAll, h]
theorem balAll_end {A : List Arc} {vs : List Int} {i : Nat} {st : BSta} (h : ¬ (i : Int) < (vs.length : Int)) : balAll A (vs.drop i) st = .inl st := by
  rw [List.drop_eq_nil_of_le (by omega)]; rfl
/-- A step leads at most as1 much as1 an arc can bear. -/
theorem room_max {A : List Arc} {st : BSta} {v u : Int} (h : BOk A st) (hA : ABnd A) (hv : 0 < gN st.2 v) (hu : (pathTo A st.1 (-1) v (lacks st.2)).1 = some u) :
    0 ≤ roomL A st.1 (stepsTo A st.1 (-1) v (lacks st.2) u) (min (gN st.2 v) (-gN st.2 u)) ∧ roomL A st.1 (stepsTo A st.1 (-1) v (lacks st.2) u) (min (gN st.2 v) (-gN st.2 u)) ≤ 100000000 := by
  obtain ⟨hp, hw⟩ := bfs_path hu
  have hneg : gN st.2 u < 0 := by simpa [lacks] using hw
  have hne : ¬ u = v := fun e => by subst e; omega
  obtain ⟨hr1, hr2⟩ := roomL_le (A := A) (fl := st.1) (stepsTo A st.1 (-1) v (lacks st.2) u) (min (gN st.2 v) (-gN st.2 u))
  have hpos := roomL_pos (A := A) (fl := st.1) (stepsTo A st.1 (-1) v (lacks st.2) u) (min (gN st.2 v) (-gN st.2 u)) (by omega) hp.pos
  refine ⟨by omega, ?_⟩
  obtain ⟨⟨⟨rk, hb⟩, _⟩, h2⟩ := bfs_all (fl := st.1) (skip := -1) (want := lacks st.2) (2 * A.length + 3) _ (start_all A st.1 (-1) v)
  have h3 := (h2 u hu).1
  obtain ⟨s, hs, _⟩ := hb.by_ u h3 hne
  have h4 := hb.lt u h3
  have e := trace_step (A := A) (k := (pathTo A st.1 (-1) v (lacks st.2)).2.seen.length) hne hs rfl (by unfold pathTo; omega)
  have hmem : s ∈ stepsTo A st.1 (-1) v (lacks st.2) u := by unfold stepsTo; rw [show trace A (pathTo A st.1 (-1) v (lacks st.2)).2.by_ v (pathTo A st.1 (-1) v (lacks st.2)).2.seen.length u = _ from e]; exact List.mem_cons_self ..
  have h5 := hr2 s hmem
  obtain ⟨hi0, hi1⟩ := hp.rg s hmem
  have h6 := h.fl.2 s.arc.toNat (by omega)
  rw [show ((s.arc.toNat : Nat) : Int) = s.arc by omega] at h6
  have h7 := hA (aAt A s.arc) (by
    have : s.arc.toNat < A.length := by omega
    simp only [aAt, List.getElem?_eq_getElem this, Option.getD_some]; exact List.getElem_mem _)
  unfold free at h5
  split at h5 <;> omega
/-! ### The least flows -/
def low0 (A : List Arc) (i : Nat) : List Int := (A.take i).map (·.low) ++ List.replicate (A.length - i) 0
theorem low0_len (A : List Arc) {i : Nat} (h : i ≤ A.length) : (low0 A i).length = A.length := by simp [low0]; omega
theorem low0_0 (A : List Arc) : List.replicate A.length (0 : Int) = low0 A 0 := by simp [low0]
theorem low0_set {A : List Arc} {i : Nat} {a : Arc} (hx : A[i]? = some a) : (low0 A i).set i a.low = low0 A (i + 1) := by
  have hi := (List.getElem?_eq_some_iff.1 hx).1
  unfold low0
  rw [take_get hx, List.set_append_right _ _ (by simp; omega)]
  obtain ⟨k, hk⟩ : ∃ k, A.length - i = k + 1 := ⟨A.length - i - 1, by omega⟩
  have h1 : i - ((A.take i).map (·.low)).length = 0 := by simp; omega
  have h2 : A.length - (i + 1) = k := by omega
  rw [h1, hk, h2, List.replicate_succ]
  simp
theorem low0_end {A : List Arc} {i : Nat} (h : ¬ (i : Int) < (A.length : Int)) : low0 A i = A.map (·.low) := by
  unfold low0; rw [take_all h, show A.length - i = 0 by omega]; simp
theorem gN_to {mu : List (Int × Int)} {k : Int} (h : ∀ w, -k ≤ gN mu w ∧ gN mu w ≤ k) {a : Arc} (ha : 0 ≤ a.low ∧ a.low ≤ 100000000) (w : Int) : -(k + 100000000) ≤ gN (aset mu a.to (gN mu a.to + a.low)) w ∧ gN (aset mu a.to (gN mu a.to + a.low)) w ≤ k + 100000000 := by
  rw [gN_aset]; have h1 := h w; have h2 := h a.to; split <;> omega
theorem gN_mu1 {mu : List (Int × Int)} {i : Nat} (h : ∀ w, -(200000000 * (i : Int)) ≤ gN mu w ∧ gN mu w ≤ 200000000 * (i : Int)) {a : Arc} (ha : 0 ≤ a.low ∧ a.low ≤ 100000000) (w : Int) :
    -(200000000 * ((i + 1 : Nat) : Int)) ≤ gN (mu1 mu a) w ∧ gN (mu1 mu a) w ≤ 200000000 * ((i + 1 : Nat) : Int) := by
  unfold mu1; rw [gN_aset]; have h1 := gN_to h ha w; have h2 := gN_to h ha a.from_; split <;> omega
theorem bal_start {A : List Arc} {mu : List (Int × Int)} (hl : ∀ a ∈ A, ¬ a.high < a.low) (hn : A.length ≤ 1000000) (h : ∀ w, -(200000000 * (A.length : Int)) ≤ gN mu w ∧ gN mu w ≤ 200000000 * (A.length : Int)) : BOk A (A.map (·.low), mu) := by
  refine ⟨⟨by simp, fun i hi => ?_⟩, fun w => by have := h w; show _ ≤ gN mu w ∧ gN mu w ≤ _; omega⟩
  have h1 : aAt A (i : Int) = A[i] := by simp [aAt, hi]
  have h2 : fAt (A.map (·.low)) (i : Int) = A[i].low := by simp [fAt, hi]
  rw [h1, h2]; have := hl A[i] (List.getElem_mem hi); omega
/-- What balance answers: the arc that cannot be, a side, or flows. -/
def balR (A : List Arc) (vs : List Int) : Option Arc × (BSta ⊕ List (Int × Bool)) := (A.find? (fun a => decide (a.high < a.low)), balAll A vs (A.map (·.low), mu0 A))
theorem find_here {A : List Arc} {i : Nat} {a : Arc} (hx : A[i]? = some a) (hn : ∀ b ∈ A.take i, ¬ b.high < b.low) (h : a.high < a.low) : A.find? (fun a => decide (a.high < a.low)) = some a := by
  have hi := (List.getElem?_eq_some_iff.1 hx).1
  have e : A = A.take i ++ a :: A.drop (i + 1) := by
    have := List.take_append_drop (i + 1) A
    rw [take_get hx, List.append_assoc] at this
    exact this.symm
  rw [e, List.find?_append]
  have : (A.take i).find? (fun a => decide (a.high < a.low)) = none := List.find?_eq_none.2 fun b hb => by simpa using hn b hb
  simp [this, h]
theorem find_no {A : List Arc} (hn : ∀ b ∈ A, ¬ b.high < b.low) : A.find? (fun a => decide (a.high < a.low)) = none := List.find?_eq_none.2 fun b hb => by simpa using hn b hb
theorem low_step {A : List Arc} {i : Nat} {a : Arc} (hn : ∀ b ∈ A.take i, ¬ b.high < b.low) (hx : A[i]? = some a) (h : ¬ a.high < a.low) : ∀ b ∈ A.take (i + 1), ¬ b.high < b.low := by
  rw [take_get hx]; intro b hb
  rcases List.mem_append.1 hb with h1 | h1
  · exact hn b h1
  · simp at h1; subst h1; exact h
theorem gN_sub {mu : List (Int × Int)} {B v k : Int} (h : ∀ w, -B ≤ gN mu w ∧ gN mu w ≤ B) (hk : 0 ≤ k ∧ k ≤ 100000000) (w : Int) : -(B + 100000000) ≤ gN (aset mu v (gN mu v - k)) w ∧ gN (aset mu v (gN mu v - k)) w ≤ B + 100000000 := by
  rw [gN_aset]; have h1 := h w; have h2 := h v; split <;> omega
end Go.Lag

/- Raising and sinking one flow: plain (printed by mkpf.py). -/
namespace Go.Lag
open Go Go.RowKit Go.Proofs

/-! ### raise -/
def raiseGap (A : List Arc) (fl : List Int) (i : Int) : Int := (aAt A i).high - fAt fl i
def raiseStep (A : List Arc) (fl : List Int) (i u : Int) : List Int :=
  let out := stepsTo A fl i (aAt A i).to (fun v => decide (v = (aAt A i).from_)) u
  let k := roomL A fl out (raiseGap A fl i)
  (leadL fl out k).set i.toNat (fAt (leadL fl out k) i + k)
def raiseN (A : List Arc) (i : Int) : Nat → List Int → List Int × Option (List (Int × Bool))
  | 0, fl => (fl, none)
  | n + 1, fl => if 0 < raiseGap A fl i then
      match (pathTo A fl i (aAt A i).to (fun v => decide (v = (aAt A i).from_))).1 with
      | none => (fl, some (pathTo A fl i (aAt A i).to (fun v => decide (v = (aAt A i).from_))).2.seen)
      | some u => raiseN A i n (raiseStep A fl i u)
    else (fl, none)
section
variable {A : List Arc} {fl : List Int} {i : Int} {n : Nat} {u : Int}
theorem raiseN_step (hn : (raiseGap A fl i).toNat < n) (hg : 0 < raiseGap A fl i) (hu : (pathTo A fl i (aAt A i).to (fun v => decide (v = (aAt A i).from_))).1 = some u) : raiseN A i n fl = raiseN A i (n - 1) (raiseStep A fl i u) := by
  obtain ⟨n, rfl⟩ : ∃ k, n = k + 1 := ⟨n - 1, by omega⟩
  simp only [raiseN, if_pos hg, hu, Nat.add_sub_cancel]
theorem raiseN_no (hn : (raiseGap A fl i).toNat < n) (hg : 0 < raiseGap A fl i) (hu : (pathTo A fl i (aAt A i).to (fun v => decide (v = (aAt A i).from_))).1 = none) : raiseN A i n fl = (fl, some (pathTo A fl i (aAt A i).to (fun v => decide (v = (aAt A i).from_))).2.seen) := by
  obtain ⟨n, rfl⟩ : ∃ k, n = k + 1 := ⟨n - 1, by omega⟩
  simp only [raiseN, if_pos hg, hu]
theorem raiseN_end (hg : ¬ 0 < raiseGap A fl i) : raiseN A i n fl = (fl, none) := by
  cases n with
  | zero => rfl
  | succ n => simp only [raiseN, if_neg hg]
theorem raise_room (h : FOk A fl) (hi : 0 ≤ i ∧ i < (A.length : Int)) (hA : ABnd A) (hg : 0 < raiseGap A fl i) (hu : (pathTo A fl i (aAt A i).to (fun v => decide (v = (aAt A i).from_))).1 = some u) :
    0 < roomL A fl (stepsTo A fl i (aAt A i).to (fun v => decide (v = (aAt A i).from_)) u) (raiseGap A fl i) ∧ roomL A fl (stepsTo A fl i (aAt A i).to (fun v => decide (v = (aAt A i).from_)) u) (raiseGap A fl i) ≤ 100000000 ∧
    fAt (leadL fl (stepsTo A fl i (aAt A i).to (fun v => decide (v = (aAt A i).from_)) u) (roomL A fl (stepsTo A fl i (aAt A i).to (fun v => decide (v = (aAt A i).from_)) u) (raiseGap A fl i))) i = fAt fl i := by
  have hp : PathOk A fl i (stepsTo A fl i (aAt A i).to (fun v => decide (v = (aAt A i).from_)) u) := (bfs_path hu).1
  obtain ⟨hr1, hr2⟩ := roomL_le (A := A) (fl := fl) (stepsTo A fl i (aAt A i).to (fun v => decide (v = (aAt A i).from_)) u) (raiseGap A fl i)
  have hpos := roomL_pos (A := A) (fl := fl) (stepsTo A fl i (aAt A i).to (fun v => decide (v = (aAt A i).from_)) u) (raiseGap A fl i) hg hp.pos
  have h6 := h.2 i.toNat (by omega)
  rw [show ((i.toNat : Nat) : Int) = i by omega] at h6
  have h7 := hA (aAt A i) (by
    have : i.toNat < A.length := by omega
    simp only [aAt, List.getElem?_eq_getElem this, Option.getD_some]; exact List.getElem_mem _)
  refine ⟨hpos, by unfold raiseGap at hr1 ⊢; omega, ?_⟩
  have hi2 : ((i.toNat : Nat) : Int) = i := by omega
  rcases lead_at (n := roomL A fl (stepsTo A fl i (aAt A i).to (fun v => decide (v = (aAt A i).from_)) u) (raiseGap A fl i)) _ fl hp.nd (fun s hs => by rw [h.1]; exact hp.rg s hs) i.toNat with ⟨h1, _⟩ | ⟨s, hs, h1, _⟩
  · rw [hi2] at h1; exact h1
  · exact absurd (h1.trans hi2) (hp.sk s hs)
theorem raiseStep_ok (h : FOk A fl) (hi : 0 ≤ i ∧ i < (A.length : Int)) (hA : ABnd A) (hg : 0 < raiseGap A fl i) (hu : (pathTo A fl i (aAt A i).to (fun v => decide (v = (aAt A i).from_))).1 = some u) :
    FOk A (raiseStep A fl i u) ∧ (raiseGap A (raiseStep A fl i u) i).toNat < (raiseGap A fl i).toNat := by
  obtain ⟨hk0, hk1, hk2⟩ := raise_room h hi hA hg hu
  have hp : PathOk A fl i (stepsTo A fl i (aAt A i).to (fun v => decide (v = (aAt A i).from_)) u) := (bfs_path hu).1
  obtain ⟨hr1, hr2⟩ := roomL_le (A := A) (fl := fl) (stepsTo A fl i (aAt A i).to (fun v => decide (v = (aAt A i).from_)) u) (raiseGap A fl i)
  have hok := lead_ok (n := roomL A fl (stepsTo A fl i (aAt A i).to (fun v => decide (v = (aAt A i).from_)) u) (raiseGap A fl i)) h hp.nd (fun s hs => ⟨hp.rg s hs, hp.wy s hs, hr2 s hs⟩) (by omega)
  have hi2 : ((i.toNat : Nat) : Int) = i := by omega
  have hat : ∀ j : Nat, fAt (raiseStep A fl i u) (j : Int) = if j = i.toNat then fAt fl i + roomL A fl (stepsTo A fl i (aAt A i).to (fun v => decide (v = (aAt A i).from_)) u) (raiseGap A fl i) else fAt (leadL fl (stepsTo A fl i (aAt A i).to (fun v => decide (v = (aAt A i).from_)) u) (roomL A fl (stepsTo A fl i (aAt A i).to (fun v => decide (v = (aAt A i).from_)) u) (raiseGap A fl i))) (j : Int) := by
    intro j
    unfold raiseStep
    simp only [hk2]
    exact fAt_set (by rw [hok.1]; omega) j
  have hati := hat i.toNat
  rw [if_pos rfl, hi2] at hati
  have hlow := h.2 i.toNat (by omega)
  rw [hi2] at hlow
  refine ⟨⟨by unfold raiseStep; simp only [List.length_set]; exact hok.1, fun j hj => ?_⟩, ?_⟩
  · rw [hat]
    split
    · rename_i e; subst e; rw [hi2]; unfold raiseGap at *; omega
    · exact hok.2 j hj
  · unfold raiseGap at hati hg hk0 hr1 ⊢; rw [hati]; omega
end

/-! ### sink -/
def sinkGap (A : List Arc) (fl : List Int) (i : Int) : Int := fAt fl i - (aAt A i).low
def sinkStep (A : List Arc) (fl : List Int) (i u : Int) : List Int :=
  let out := stepsTo A fl i (aAt A i).from_ (fun v => decide (v = (aAt A i).to)) u
  let k := roomL A fl out (sinkGap A fl i)
  (leadL fl out k).set i.toNat (fAt (leadL fl out k) i - k)
def sinkN (A : List Arc) (i : Int) : Nat → List Int → List Int × Option (List (Int × Bool))
  | 0, fl => (fl, none)
  | n + 1, fl => if 0 < sinkGap A fl i then
      match (pathTo A fl i (aAt A i).from_ (fun v => decide (v = (aAt A i).to))).1 with
      | none => (fl, some (pathTo A fl i (aAt A i).from_ (fun v => decide (v = (aAt A i).to))).2.seen)
      | some u => sinkN A i n (sinkStep A fl i u)
    else (fl, none)
section
variable {A : List Arc} {fl : List Int} {i : Int} {n : Nat} {u : Int}
theorem sinkN_step (hn : (sinkGap A fl i).toNat < n) (hg : 0 < sinkGap A fl i) (hu : (pathTo A fl i (aAt A i).from_ (fun v => decide (v = (aAt A i).to))).1 = some u) : sinkN A i n fl = sinkN A i (n - 1) (sinkStep A fl i u) := by
  obtain ⟨n, rfl⟩ : ∃ k, n = k + 1 := ⟨n - 1, by omega⟩
  simp only [sinkN, if_pos hg, hu, Nat.add_sub_cancel]
theorem sinkN_no (hn : (sinkGap A fl i).toNat < n) (hg : 0 < sinkGap A fl i) (hu : (pathTo A fl i (aAt A i).from_ (fun v => decide (v = (aAt A i).to))).1 = none) : sinkN A i n fl = (fl, some (pathTo A fl i (aAt A i).from_ (fun v => decide (v = (aAt A i).to))).2.seen) := by
  obtain ⟨n, rfl⟩ : ∃ k, n = k + 1 := ⟨n - 1, by omega⟩
  simp only [sinkN, if_pos hg, hu]
theorem sinkN_end (hg : ¬ 0 < sinkGap A fl i) : sinkN A i n fl = (fl, none) := by
  cases n with
  | zero => rfl
  | succ n => simp only [sinkN, if_neg hg]
theorem sink_room (h : FOk A fl) (hi : 0 ≤ i ∧ i < (A.length : Int)) (hA : ABnd A) (hg : 0 < sinkGap A fl i) (hu : (pathTo A fl i (aAt A i).from_ (fun v => decide (v = (aAt A i).to))).1 = some u) :
    0 < roomL A fl (stepsTo A fl i (aAt A i).from_ (fun v => decide (v = (aAt A i).to)) u) (sinkGap A fl i) ∧ roomL A fl (stepsTo A fl i (aAt A i).from_ (fun v => decide (v = (aAt A i).to)) u) (sinkGap A fl i) ≤ 100000000 ∧
    fAt (leadL fl (stepsTo A fl i (aAt A i).from_ (fun v => decide (v = (aAt A i).to)) u) (roomL A fl (stepsTo A fl i (aAt A i).from_ (fun v => decide (v = (aAt A i).to)) u) (sinkGap A fl i))) i = fAt fl i := by
  have hp : PathOk A fl i (stepsTo A fl i (aAt A i).from_ (fun v => decide (v = (aAt A i).to)) u) := (bfs_path hu).1
  obtain ⟨hr1, hr2⟩ := roomL_le (A := A) (fl := fl) (stepsTo A fl i (aAt A i).from_ (fun v => decide (v = (aAt A i).to)) u) (sinkGap A fl i)
  have hpos := roomL_pos (A := A) (fl := fl) (stepsTo A fl i (aAt A i).from_ (fun v => decide (v = (aAt A i).to)) u) (sinkGap A fl i) hg hp.pos
  have h6 := h.2 i.toNat (by omega)
  rw [show ((i.toNat : Nat) : Int) = i by omega] at h6
  have h7 := hA (aAt A i) (by
    have : i.toNat < A.length := by omega
    simp only [aAt, List.getElem?_eq_getElem this, Option.getD_some]; exact List.getElem_mem _)
  refine ⟨hpos, by unfold sinkGap at hr1 ⊢; omega, ?_⟩
  have hi2 : ((i.toNat : Nat) : Int) = i := by omega
  rcases lead_at (n := roomL A fl (stepsTo A fl i (aAt A i).from_ (fun v => decide (v = (aAt A i).to)) u) (sinkGap A fl i)) _ fl hp.nd (fun s hs => by rw [h.1]; exact hp.rg s hs) i.toNat with ⟨h1, _⟩ | ⟨s, hs, h1, _⟩
  · rw [hi2] at h1; exact h1
  · exact absurd (h1.trans hi2) (hp.sk s hs)
theorem sinkStep_ok (h : FOk A fl) (hi : 0 ≤ i ∧ i < (A.length : Int)) (hA : ABnd A) (hg : 0 < sinkGap A fl i) (hu : (pathTo A fl i (aAt A i).from_ (fun v => decide (v = (aAt A i).to))).1 = some u) :
    FOk A (sinkStep A fl i u) ∧ (sinkGap A (sinkStep A fl i u) i).toNat < (sinkGap A fl i).toNat := by
  obtain ⟨hk0, hk1, hk2⟩ := sink_room h hi hA hg hu
  have hp : PathOk A fl i (stepsTo A fl i (aAt A i).from_ (fun v => decide (v = (aAt A i).to)) u) := (bfs_path hu).1
  obtain ⟨hr1, hr2⟩ := roomL_le (A := A) (fl := fl) (stepsTo A fl i (aAt A i).from_ (fun v => decide (v = (aAt A i).to)) u) (sinkGap A fl i)
  have hok := lead_ok (n := roomL A fl (stepsTo A fl i (aAt A i).from_ (fun v => decide (v = (aAt A i).to)) u) (sinkGap A fl i)) h hp.nd (fun s hs => ⟨hp.rg s hs, hp.wy s hs, hr2 s hs⟩) (by omega)
  have hi2 : ((i.toNat : Nat) : Int) = i := by omega
  have hat : ∀ j : Nat, fAt (sinkStep A fl i u) (j : Int) = if j = i.toNat then fAt fl i - roomL A fl (stepsTo A fl i (aAt A i).from_ (fun v => decide (v = (aAt A i).to)) u) (sinkGap A fl i) else fAt (leadL fl (stepsTo A fl i (aAt A i).from_ (fun v => decide (v = (aAt A i).to)) u) (roomL A fl (stepsTo A fl i (aAt A i).from_ (fun v => decide (v = (aAt A i).to)) u) (sinkGap A fl i))) (j : Int) := by
    intro j
    unfold sinkStep
    simp only [hk2]
    exact fAt_set (by rw [hok.1]; omega) j
  have hati := hat i.toNat
  rw [if_pos rfl, hi2] at hati
  have hlow := h.2 i.toNat (by omega)
  rw [hi2] at hlow
  refine ⟨⟨by unfold sinkStep; simp only [List.length_set]; exact hok.1, fun j hj => ?_⟩, ?_⟩
  · rw [hat]
    split
    · rename_i e; subst e; rw [hi2]; unfold sinkGap at *; omega
    · exact hok.2 j hj
  · unfold sinkGap at hati hg hk0 hr1 ⊢; rw [hati]; omega
end
def seenSide (l : List Rep) (o : Option (List (Int × Bool))) : List Int := match o with | some s => sideL l s | none => []
theorem aAt_in {A : List Arc} {i : Int} (h : 0 ≤ i ∧ i < (A.length : Int)) : aAt A i ∈ A := by
  have : i.toNat < A.length := by omega
  simp only [aAt, List.getElem?_eq_getElem this, Option.getD_some]; exact List.getElem_mem _
theorem FOk.at {A : List Arc} {fl : List Int} {i : Int} (h : FOk A fl) (hi : 0 ≤ i ∧ i < (A.length : Int)) (hA : ABnd A) : 0 ≤ fAt fl i ∧ fAt fl i ≤ 100000000 ∧ (aAt A i).low ≤ fAt fl i ∧ fAt fl i ≤ (aAt A i).high := by
  have h6 := h.2 i.toNat (by omega)
  rw [show ((i.toNat : Nat) : Int) = i by omega] at h6
  have h7 := hA _ (aAt_in hi)
  omega
end Go.Lag

/- Bounds: plain. -/
namespace Go.Lag
open Go Go.RowKit Go.Proofs
def arcI (l : List Rep) (p : Int) : Int := idxF (fun a => decide (a.parcel = p)) (arcsL l)
theorem arcI_ok {l : List Rep} {p : Int} (hp : p ∈ idsL l) : 0 ≤ arcI l p ∧ arcI l p < ((arcsL l).length : Int) := by
  have h1 : decide (0 ≤ arcI l p) = (arcsL l).any (fun a => decide (a.parcel = p)) := idxF_pos
  have h2 : (arcsL l).any (fun a => decide (a.parcel = p)) = true := List.any_eq_true.2 ⟨arcL l p, List.mem_map_of_mem hp, by simp [arcL]⟩
  rw [h2] at h1
  have h3 : 0 ≤ arcI l p := by simpa using h1
  exact ⟨h3, idxF_lt' _ _ (by show ¬ arcI l p < 0; omega)⟩
def boundN (l : List Rep) (p : Int) (up : Bool) (fl : List Int) : List Int × Option (List (Int × Bool)) :=
  if up then raiseN (arcsL l) (arcI l p) ((raiseGap (arcsL l) fl (arcI l p)).toNat + 1) fl else sinkN (arcsL l) (arcI l p) ((sinkGap (arcsL l) fl (arcI l p)).toNat + 1) fl
theorem raiseN_ok {A : List Arc} {i : Int} (hi : 0 ≤ i ∧ i < (A.length : Int)) (hA : ABnd A) : ∀ (n : Nat) (fl : List Int), FOk A fl → FOk A (raiseN A i n fl).1
  | 0, fl, h => h
  | n + 1, fl, h => by
    simp only [raiseN]
    split
    · rename_i hg
      split
      · exact h
      · rename_i u hu; exact raiseN_ok hi hA n _ (raiseStep_ok h hi hA hg hu).1
    · exact h
theorem sinkN_ok {A : List Arc} {i : Int} (hi : 0 ≤ i ∧ i < (A.length : Int)) (hA : ABnd A) : ∀ (n : Nat) (fl : List Int), FOk A fl → FOk A (sinkN A i n fl).1
  | 0, fl, h => h
  | n + 1, fl, h => by
    simp only [sinkN]
    split
    · rename_i hg
      split
      · exact h
      · rename_i u hu; exact sinkN_ok hi hA n _ (sinkStep_ok h hi hA hg hu).1
    · exact h
theorem boundN_ok {l : List Rep} {p : Int} (hp : p ∈ idsL l) (hA : ABnd (arcsL l)) {up : Bool} {fl : List Int} (h : FOk (arcsL l) fl) : FOk (arcsL l) (boundN l p up fl).1 := by
  unfold boundN; split
  · exact raiseN_ok (arcI_ok hp) hA _ _ h
  · exact sinkN_ok (arcI_ok hp) hA _ _ h
theorem KeR {r : Option Nat} {P : Program} {m : Nat} {ds : List Deferred} {Q : Exit → Act → World → Prop} {l : Env} {H : List Assn} {rest : List Oper} {ops : Array Oper} {α : Type} {E : Elem α} {e : TypeId} {v : Value} {xs : List α} (h : (∀ i, i < xs.length → ∃ b o, ElemAt v E.sz i b o) → RegH r P m ds ops Q rest l H)
    (hm : Assn.rw E e v xs ∈ H := by repeat (first | exact List.Mem.head _ | refine List.Mem.tail _ ?_)) : RegH r P m ds ops Q rest l H := fun w hw =>
  h (fun i hi => by
    obtain ⟨us, h1, h2⟩ : OwnS E w 0 e v xs := hw.all _ hm
    obtain ⟨b, o, h3, _, _⟩ := h1.elem hi
    exact ⟨b, o, h3⟩) w hw
def balOf (l : List Rep) : Option BSta := match (arcsL l).find? (fun a => decide (a.high < a.low)), balAll (arcsL l) (nodesL l) ((arcsL l).map (·.low), mu0 (arcsL l)) with
  | none, .inl st => some st
  | _, _ => none
theorem balOf_some {l : List Rep} {st : BSta} (h1 : (arcsL l).find? (fun a => decide (a.high < a.low)) = none) (h2 : balAll (arcsL l) (nodesL l) ((arcsL l).map (·.low), mu0 (arcsL l)) = .inl st) : balOf l = some st := by simp only [balOf, h1, h2]
theorem balOf_none {l : List Rep} (h : (∃ a, (arcsL l).find? (fun a => decide (a.high < a.low)) = some a) ∨ ((arcsL l).find? (fun a => decide (a.high < a.low)) = none ∧ ∃ seen, balAll (arcsL l) (nodesL l) ((arcsL l).map (·.low), mu0 (arcsL l)) = .inr seen)) : balOf l = none := by
  rcases h with ⟨a, h⟩ | ⟨h1, s, h2⟩
  · simp only [balOf, h]
  · simp only [balOf, h1, h2]
def endL (l : List Rep) (p : Int) (up : Bool) (st : BSta) : Int := fAt (boundN l p up st.1).1 (arcI l p)
def weightE (l : List Rep) (known p : Int) : Int × Int × Int := if ¬ lookE l known [p] = 0 then (0, 0, lookE l known [p]) else match balOf (countL l known) with
  | none => (0, 0, 32)
  | some st => (endL (countL l known) p false st, endL (countL l known) p true st, 0)
/-- A parcel is there at an hour. -/
def presB (l : List Rep) (hour : Int) (a : Par) : Bool := decide (a.hour ≤ hour) && (decide (a.into = 0) || decide (hour < ((aget (userM l) a.id).getD Rep.zero).hour))
end Go.Lag

namespace Go.Lag
open Go Go.RowKit Go.Proofs
set_option maxRecDepth 100000 in
set_option maxHeartbeats 4000000 in
theorem in_sp {n low high : Int} : SpV Tryz.prog 116 [.int .i64 n, .int .i64 low, .int .i64 high] [] (.bool (inB n low high)) := by
 refine Sp.of 15 Tryz.func116 rfl rfl rfl ?_
 intro F
 refine Sr ?_
 refine Y As ?_
 refine Nq ?_
 refine Sr ?_
 refine Y Mv ?_
 refine Y Mv ?_
 refine Y Ge ?_
 refine Y Mv ?_
 refine Ga 3 3 true 13 (fun h2 => by
  refine Yg h2 Mv ?_
  refine Yg h2 Mv ?_
  refine Yg h2 Le ?_
  exact Gg) ?_
 refine Y PkA ?_
 refine Y As ?_
 refine Nq ?_
 refine Rt ?_
 refine Rv [] ?_
 exact ⟨congrArg Value.bool (by simp [inB, *]), rfl⟩

set_option maxRecDepth 100000 in
set_option maxHeartbeats 4000000 in
theorem isSpan_sp {lo hi : Int} : SpV Tryz.prog 321 [.agg [.int .i64 lo, .int .i64 hi].toArray] [] (.bool (spanB lo hi)) := by
 refine Sp.of 13 Tryz.func321 rfl rfl rfl ?_
 intro F
 refine Sr ?_
 refine Dbx (fun b1 => ?_)
 refine Y As ?_
 refine Nq ?_
 refine Sr ?_
 refine Y Fa ?_
 refine Y Ld ?_
 refine Y Fa ?_
 refine Y Ld ?_
 refine Cv (hs := in_sp) (h := ?_)
 refine Y Mv ?_
 refine Ga 3 5 true 11 (fun h2 => by
  refine Yg h2 Fa ?_
  refine Yg h2 Ld ?_
  refine Yg h2 Le ?_
  exact Gg) ?_
 refine Y PkA ?_
 refine Y As ?_
 refine Nq ?_
 refine Rt ?_
 refine Rv [] ?_
 exact ⟨congrArg Value.bool (by simp [spanB, *]), rfl⟩

set_option maxRecDepth 100000 in
set_option maxHeartbeats 4000000 in
theorem isParcel_sp {n : Int} : SpV Tryz.prog 322 [.int .i64 n] [] (.bool (parcelB n)) := by
 refine Sp.of 5 Tryz.func322 rfl rfl rfl ?_
 intro F
 refine Sr ?_
 refine Y As ?_
 refine Nq ?_
 refine Sr ?_
 refine Y Mv ?_
 refine Cv (hs := in_sp) (h := ?_)
 refine Y As ?_
 refine Nq ?_
 refine Rt ?_
 refine Rv [] ?_
 exact ⟨congrArg Value.bool (by simp [parcelB, *]), rfl⟩

end Go.Lag

namespace Go.Lag
open Go Go.RowKit Go.Proofs
set_option maxRecDepth 100000 in
set_option maxHeartbeats 4000000 in
theorem touches_sp {Z : Hp} {x : Rep} {pv : Value} (hp : SlZ (EI .i64) Z pv x.parts := by assumption) (hn : x.parts.length ≤ 1000) : Sp Tryz.prog 261 [repV x pv] [.zm Z] fun v H' => H' = [.rw (EI .i64) 3 v (touchesL x)] := by
 have hlen : ([x.parcel, x.other] ++ x.parts).length = x.parts.length + 2 := by simp
 refine Sp.of 27 Tryz.func261 rfl rfl rfl ?_
 intro F
 refine Sr ?_
 refine Dbx (fun b1 => ?_)
 refine Y As ?_
 refine Nq ?_
 refine Sr ?_
 refine Y As ?_
 refine Nq ?_
 refine Sq ?_
 refine Sr ?_
 refine Y Fa ?_
 refine Y Ld ?_
 refine Y Fa ?_
 refine Y Ld ?_
 refine D Bs ?_
 rintro _ _ ⟨b10, rfl, rfl⟩
 refine Y Fa ?_
 refine Y Ld ?_
 refine ToRwI [x.parcel, x.other] ?_
 refine D ApS ?_
 rintro v13 _ rfl
 refine Y Ln ?_
 refine Y Mv ?_
 refine Nq ?_
 refine Bk ?_
 refine NilRwW (EI .i64) 3 ?_
 refine Lp (fun n_ l_ H_ => ∃ (i : Nat) (vo : Value) (ys : List Int), n_ = ([x.parcel, x.other] ++ x.parts).length - i ∧ l_ = [(13, v13), (14, .int .i64 (([x.parcel, x.other] ++ x.parts).length : Int)), (15, .int .i64 (i : Int)), (3, vo)] ∧ H_ = .rw (EI .i64) 3 v13 ([x.parcel, x.other] ++ x.parts) :: .rw (EI .i64) 3 vo ys :: F ∧ (i ≤ ([x.parcel, x.other] ++ x.parts).length) ∧ (ys = (([x.parcel, x.other] ++ x.parts).take i).filter fun p => decide (0 < p)) ∧ (ys.length ≤ i)) ⟨0, (.slice none 0 0), [], rfl, rfl, rfl, (by omega), (by simp), (by simp)⟩ ⟨rfl, rfl, rfl, rfl, trivial⟩ ?_
 rintro _ _ _ ⟨i, vo, ys, rfl, rfl, rfl, hi, hys, hyl⟩
 refine Sr ?_
 refine Y Lt ?_
 refine Nq ?_
 refine Sq ?_
 refine Cp (fun h2 => ?_) fun h2 => ?_
 ·
  refine Sk ?_
  refine Pq ?_
  refine Sq ?_
  refine Bk ?_
  refine Sr ?_
  refine IxN fun x17 b17 o17 hx17 he17 => ?_
  refine Y Ld ?_
  refine Y As ?_
  refine Nq ?_
  refine Sr ?_
  refine Y Mv ?_
  refine Y Gr ?_
  refine Nq ?_
  refine Cp (fun h4 => ?_) fun h4 => ?_
  ·
   refine Rg ?_
   refine Y Mv ?_
   refine Y Mv ?_
   refine D Bs ?_
   rintro _ _ ⟨b23, rfl, rfl⟩
   refine D (Ap1 x17) ?_
   rintro v24 _ rfl
   refine Y As ?_
   refine Nl ?_
   refine Pb ?_
   refine Pq ?_
   refine Rg ?_
   refine Y Ad ?_
   refine Y Mv ?_
   refine Nl ?_
   refine Re ⟨(i + 1), v24, (ys ++ [x17]), rfl, rfl, rfl, (by omega), (filter_take_t hx17 hys (decide_eq_true h4)), (by first | omega | (simp; omega))⟩ (by omega) ⟨rfl, rfl, rfl, rfl, trivial⟩
  ·
   refine Sk ?_
   refine Pb ?_
   refine Pq ?_
   refine Rg ?_
   refine Y Ad ?_
   refine Y Mv ?_
   refine Nl ?_
   refine Re ⟨(i + 1), vo, ys, rfl, rfl, rfl, (by omega), (filter_take_f hx17 hys (decide_eq_false h4)), (by first | omega | (simp; omega))⟩ (by omega) ⟨rfl, rfl, rfl, rfl, trivial⟩
 ·
  refine Ex ?_
  refine Xt ?_
  refine Xt ?_
  refine Xb ?_
  refine Pq ?_
  refine Sr ?_
  refine Y Mv ?_
  refine Y As ?_
  refine Nq ?_
  refine Rt ?_
  refine Rv [.rw (EI .i64) 3 vo ys] ?_
  rw [show touchesL x = ys from (filter_take_end hys (by assumption)).symm]

end Go.Lag

namespace Go.Lag
open Go Go.RowKit Go.Proofs
set_option maxRecDepth 100000 in
set_option maxHeartbeats 4000000 in
theorem makes_sp {Z : Hp} {x : Rep} {pv : Value} (hp : SlZ (EI .i64) Z pv x.parts := by assumption) (hs : Small x) : Sp Tryz.prog 88 [repV x pv] [.zm Z] fun v H' => H' = [.rw (EI .i64) 3 v (makesL x)] := by
 obtain ⟨hs1, hs2, hs3, hs4⟩ := hs
 refine Sp.of 29 Tryz.func88 rfl rfl rfl ?_
 intro F
 refine Sr ?_
 refine Dbx (fun b1 => ?_)
 refine Y As ?_
 refine Nq ?_
 refine Sr ?_
 refine Y As ?_
 refine Nq ?_
 refine Cut (fun l_ H_ => ∃ n, n = makesN x ∧ l_ = [(1, ptr b1 0), (3, .int .i64 n)] ∧ H_ = .cl b1 (repCells x pv) 92 :: F) ?_ ?_
 ·
  refine Sr ?_
  refine Y Fa ?_
  refine Y Ld ?_
  refine Nq ?_
  refine Bk ?_
  refine Sq ?_
  refine Sr ?_
  refine Y Eq_ ?_
  refine Y As ?_
  refine Nq ?_
  refine Cp (fun h2 => ?_) fun h2 => ?_
  ·
   refine Sk ?_
   refine Pq ?_
   refine CtT (decide_eq_true h2) ?_
   refine Rg ?_
   refine Y As ?_
   refine Nl ?_
   refine Pb ?_
   refine Cx ⟨_, (by simp [makesN, *]), rfl, rfl⟩ ⟨rfl, rfl, trivial⟩
  ·
   refine Rg ?_
   refine Y Eq_ ?_
   refine Y As ?_
   refine Nl ?_
   refine Pq ?_
   refine Cp (fun h4 => ?_) fun h4 => ?_
   ·
    refine Rg ?_
    refine Y As ?_
    refine Nl ?_
    refine Pb ?_
    refine Cx ⟨_, (by simp [makesN, *]), rfl, rfl⟩ ⟨rfl, rfl, trivial⟩
   ·
    refine Sr ?_
    refine Y Eq_ ?_
    refine Y As ?_
    refine Nq ?_
    refine Cp (fun h6 => ?_) fun h6 => ?_
    ·
     refine Rg ?_
     refine Y Fa ?_
     refine Y Ld ?_
     refine Y As ?_
     refine Nl ?_
     refine Pb ?_
     refine Cx ⟨_, (by simp [makesN, *]), rfl, rfl⟩ ⟨rfl, rfl, trivial⟩
    ·
     refine Sk ?_
     refine Pb ?_
     refine Cx ⟨_, (by simp [makesN, *]), rfl, rfl⟩ ⟨rfl, rfl, trivial⟩
 ·
  rintro _ _ ⟨_, rfl, rfl, rfl⟩
  refine Sr ?_
  refine Y As ?_
  refine Nq ?_
  refine Sq ?_
  refine Sr ?_
  refine Y Mv ?_
  refine Y Mv ?_
  refine Nq ?_
  refine Bk ?_
  refine NilRwW (EI .i64) 3 ?_
  have hmn : makesN x ≤ 8 := by unfold makesN; split <;> (try split) <;> (try split) <;> omega
  refine Lp (fun n_ l_ H_ => ∃ (i : Nat) (vo : Value) (ys : List Int), n_ = (makesN x).toNat - i ∧ l_ = [(1, ptr b1 0), (15, .int .i64 (makesN x)), (16, .int .i64 (i : Int)), (4, vo)] ∧ H_ = .cl b1 (repCells x pv) 92 :: .rw (EI .i64) 3 vo ys :: F ∧ ((i : Int) ≤ max (makesN x) 0) ∧ (ys = makesI x i) ∧ (ys.length = i)) ⟨0, (.slice none 0 0), [], rfl, rfl, rfl, (by omega), (by simp [makesI]), (by simp)⟩ ⟨rfl, rfl, rfl, rfl, trivial⟩ ?_
  rintro _ _ _ ⟨i, vo, ys, rfl, rfl, rfl, hi, hys, hl⟩
  refine Sr ?_
  refine Y Lt ?_
  refine Nq ?_
  refine Sq ?_
  refine Cp (fun h8 => ?_) fun h8 => ?_
  ·
   refine Sk ?_
   refine Pq ?_
   refine Sq ?_
   refine Bk ?_
   refine Sr ?_
   refine Y Mv ?_
   refine Y As ?_
   refine Nq ?_
   refine Rg ?_
   refine Y Mv ?_
   refine Y Fa ?_
   refine Y Ld ?_
   refine Y Ml ?_
   refine Y Mv ?_
   refine Y Ad ?_
   refine D Bs ?_
   rintro _ _ ⟨b25, rfl, rfl⟩
   refine D (Ap1 (10 * x.id + (i : Int))) ?_
   rintro v26 _ rfl
   refine Y As ?_
   refine Nl ?_
   refine Pb ?_
   refine Pq ?_
   refine Rg ?_
   refine Y Ad ?_
   refine Y Mv ?_
   refine Nl ?_
   refine Re ⟨(i + 1), v26, (ys ++ [10 * x.id + (i : Int)]), rfl, rfl, rfl, (by omega), (by rw [hys]; exact makesI_succ x _), (by first | omega | (simp; omega))⟩ (by omega) ⟨rfl, rfl, rfl, rfl, trivial⟩
  ·
   refine Ex ?_
   refine Xt ?_
   refine Xt ?_
   refine Xb ?_
   refine Pq ?_
   refine Sr ?_
   refine Y Mv ?_
   refine Y As ?_
   refine Nq ?_
   refine Rt ?_
   refine Rv [.rw (EI .i64) 3 vo ys] ?_
   rw [hys, makesI_end (x := x) (by assumption) hi rfl]

set_option maxRecDepth 100000 in
set_option maxHeartbeats 4000000 in
theorem uses_sp {Z : Hp} {x : Rep} {pv : Value} (hp : SlZ (EI .i64) Z pv x.parts := by assumption) : Sp Tryz.prog 139 [repV x pv] [.zm Z] fun v H' => ∃ Z', SlZ (EI .i64) Z' v (usesL x) ∧ H' = [.zm Z'] := by
 refine Sp.of 19 Tryz.func139 rfl rfl rfl ?_
 intro F
 refine Sr ?_
 refine Dbx (fun b1 => ?_)
 refine Y As ?_
 refine Nq ?_
 refine Sq ?_
 refine Sr ?_
 refine Y Fa ?_
 refine Y Ld ?_
 refine Nq ?_
 refine Bk ?_
 refine Sr ?_
 refine Y Eq_ ?_
 refine Y As ?_
 refine Nq ?_
 refine Cp (fun h2 => ?_) fun h2 => ?_
 ·
  refine Sr ?_
  refine Y Fa ?_
  refine Y Ld ?_
  refine D Bs ?_
  rintro _ _ ⟨b9, rfl, rfl⟩
  refine ToRwI [x.parcel] ?_
  refine Fz fun Z9 hz9 => ?_
  refine Y As ?_
  refine Nq ?_
  refine Rt ?_
  refine Rb ?_
  refine Rh ?_
  refine Rv [.zm Z9] ?_
  exact ⟨_, by simpa [usesL, *] using hz9, rfl⟩
 ·
  refine Sr ?_
  refine Y Eq_ ?_
  refine Y As ?_
  refine Nq ?_
  refine Cp (fun h4 => ?_) fun h4 => ?_
  ·
   refine Sr ?_
   refine Y Fa ?_
   refine Y Ld ?_
   refine Y As ?_
   refine Nq ?_
   refine Rt ?_
   refine Rb ?_
   refine Rh ?_
   refine Rv [.zm Z] ?_
   exact ⟨_, by simp [usesL, *], rfl⟩
  ·
   refine Sr ?_
   refine Y Eq_ ?_
   refine Y As ?_
   refine Nq ?_
   refine Cp (fun h6 => ?_) fun h6 => ?_
   ·
    refine Sr ?_
    refine Y Fa ?_
    refine Y Ld ?_
    refine D Bs ?_
    rintro _ _ ⟨b18, rfl, rfl⟩
    refine ToRwI [x.other] ?_
    refine Fz fun Z18 hz18 => ?_
    refine Y As ?_
    refine Nq ?_
    refine Rt ?_
    refine Rb ?_
    refine Rh ?_
    refine Rv [.zm Z18] ?_
    exact ⟨_, by simpa [usesL, *] using hz18, rfl⟩
   ·
    refine Sk ?_
    refine Pb ?_
    refine Pq ?_
    refine Sr ?_
    refine Y As ?_
    refine Nq ?_
    refine Rt ?_
    refine Rv [.zm Z] ?_
    exact ⟨_, by simpa [usesL, *] using SlZ.nil (EI .i64) Z, rfl⟩

set_option maxRecDepth 100000 in
set_option maxHeartbeats 4000000 in
theorem indexI_sp {Z : Hp} {fk : FuncId} {ff fc : List Value} {preF : List Assn} {p : Int → Bool} {xs : List Int} {sv : Value} [TEnter Tryz.prog fk] (hf : ∀ a ∈ xs, Sp Tryz.prog fk (ff ++ [.int .i64 a] ++ fc) preF fun v H' => v = .bool (p a) ∧ preF = H') (hx : SlZ (EI .i64) Z sv xs := by assumption) : Sp Tryz.prog 140 [sv, .func (.func fk) ff.toArray fc.toArray] (.zm Z :: preF) fun v H' => v = .int .i64 (idxF p xs) ∧ preF = H' := by
 have hlen := hx.len_le
 refine Sp.of 19 Tryz.func140 rfl rfl rfl ?_
 intro F
 refine Sr ?_
 refine Y As ?_
 refine Nq ?_
 refine Sq ?_
 refine Sr ?_
 refine Y Mv ?_
 refine Y Ln ?_
 refine Y Mv ?_
 refine Nq ?_
 refine Bk ?_
 refine Lp (fun n_ l_ H_ => ∃ (i : Nat), n_ = xs.length - i ∧ l_ = [(0, sv), (1, .func (.func fk) ff.toArray fc.toArray), (7, .int .i64 (xs.length : Int)), (8, .int .i64 (i : Int))] ∧ H_ = .zm Z :: (preF ++ F) ∧ (i ≤ xs.length) ∧ (∀ y ∈ xs.take i, p y = false)) ⟨0, rfl, rfl, rfl, (by omega), (by simp)⟩ ⟨rfl, rfl, rfl, rfl, trivial⟩ ?_
 rintro _ _ _ ⟨i, rfl, rfl, rfl, hi, hno⟩
 refine Sr ?_
 refine Y Lt ?_
 refine Nq ?_
 refine Sq ?_
 refine Cp (fun h2 => ?_) fun h2 => ?_
 ·
  refine Sk ?_
  refine Pq ?_
  refine Sq ?_
  refine Bk ?_
  refine Sr ?_
  refine Y Mv ?_
  refine Y As ?_
  refine Nq ?_
  refine Sr ?_
  refine Y Mv ?_
  refine Y Mv ?_
  refine Y Mv ?_
  refine IxF (fun x => [.int .i64 x]) (fun x14 b14 o14 hx14 hc14 => ?_)
  refine Y Ld ?_
  refine D (Cc (hs := (hf _ (mem_get hx14))) (ht := Take.var)) ?_
  rintro _ _ ⟨_, ⟨rfl, rfl⟩, rfl⟩
  refine RegH.weak SubH.var ?_
  refine Nq ?_
  refine Ct (fun h4 => ?_) fun h4 => ?_
  ·
   refine Sr ?_
   refine Y Mv ?_
   refine Y As ?_
   refine Nq ?_
   refine Rt ?_
   refine Rb ?_
   refine Rh ?_
   refine Rh ?_
   refine Rb ?_
   refine Rh ?_
   refine Rv preF ?_
   exact ⟨congrArg (Value.int .i64) (idxF_found hx14 hno h4), rfl⟩
  ·
   refine Sk ?_
   refine Pb ?_
   refine Pq ?_
   refine Rg ?_
   refine Y Ad ?_
   refine Y Mv ?_
   refine Nl ?_
   refine Re ⟨(i + 1), rfl, rfl, rfl, (by omega), (any_take_succ hx14 hno h4)⟩ (by omega) ⟨rfl, rfl, rfl, rfl, trivial⟩
 ·
  refine Ex ?_
  refine Xt ?_
  refine Xt ?_
  refine Xb ?_
  refine Pq ?_
  refine Sr ?_
  refine Y As ?_
  refine Nq ?_
  refine Rt ?_
  refine Rv preF ?_
  exact ⟨congrArg (Value.int .i64) (idxF_none (by assumption) hno), rfl⟩

set_option maxRecDepth 100000 in
set_option maxHeartbeats 4000000 in
theorem indexR_sp {Z : Hp} {fk : FuncId} {ff fc : List Value} {preF : List Assn} {p : Rep → Bool} {xs : List Rep} {sv : Value} [TEnter Tryz.prog fk] (hf : ∀ a ∈ xs, ∀ pv, SlZ (EI .i64) Z pv a.parts → Sp Tryz.prog fk (ff ++ [repV a pv] ++ fc) preF fun v H' => v = .bool (p a) ∧ preF = H') (hx : SlZ (EZ Z) Z sv xs := by assumption) : Sp Tryz.prog 259 [sv, .func (.func fk) ff.toArray fc.toArray] (.zm Z :: preF) fun v H' => v = .int .i64 (idxF p xs) ∧ preF = H' := by
 have hlen := hx.len_le
 refine Sp.of 19 Tryz.func259 rfl rfl rfl ?_
 intro F
 refine Sr ?_
 refine Y As ?_
 refine Nq ?_
 refine Sq ?_
 refine Sr ?_
 refine Y Mv ?_
 refine Y Ln ?_
 refine Y Mv ?_
 refine Nq ?_
 refine Bk ?_
 refine Lp (fun n_ l_ H_ => ∃ (i : Nat), n_ = xs.length - i ∧ l_ = [(0, sv), (1, .func (.func fk) ff.toArray fc.toArray), (7, .int .i64 (xs.length : Int)), (8, .int .i64 (i : Int))] ∧ H_ = .zm Z :: (preF ++ F) ∧ (i ≤ xs.length) ∧ (∀ y ∈ xs.take i, p y = false)) ⟨0, rfl, rfl, rfl, (by omega), (by simp)⟩ ⟨rfl, rfl, rfl, rfl, trivial⟩ ?_
 rintro _ _ _ ⟨i, rfl, rfl, rfl, hi, hno⟩
 refine Sr ?_
 refine Y Lt ?_
 refine Nq ?_
 refine Sq ?_
 refine Cp (fun h2 => ?_) fun h2 => ?_
 ·
  refine Sk ?_
  refine Pq ?_
  refine Sq ?_
  refine Bk ?_
  refine Sr ?_
  refine Y Mv ?_
  refine Y As ?_
  refine Nq ?_
  refine Sr ?_
  refine Y Mv ?_
  refine Y Mv ?_
  refine Y Mv ?_
  refine IxR fun x14 b14 o14 pv14 hx14 hp14 hc14 => ?_
  refine Y LdN ?_
  refine D (Cc (hs := (hf _ (mem_get hx14) _ (by assumption))) (ht := Take.var)) ?_
  rintro _ _ ⟨_, ⟨rfl, rfl⟩, rfl⟩
  refine RegH.weak SubH.var ?_
  refine Nq ?_
  refine Ct (fun h4 => ?_) fun h4 => ?_
  ·
   refine Sr ?_
   refine Y Mv ?_
   refine Y As ?_
   refine Nq ?_
   refine Rt ?_
   refine Rb ?_
   refine Rh ?_
   refine Rh ?_
   refine Rb ?_
   refine Rh ?_
   refine Rv preF ?_
   exact ⟨congrArg (Value.int .i64) (idxF_found hx14 hno h4), rfl⟩
  ·
   refine Sk ?_
   refine Pb ?_
   refine Pq ?_
   refine Rg ?_
   refine Y Ad ?_
   refine Y Mv ?_
   refine Nl ?_
   refine Re ⟨(i + 1), rfl, rfl, rfl, (by omega), (any_take_succ hx14 hno h4)⟩ (by omega) ⟨rfl, rfl, rfl, rfl, trivial⟩
 ·
  refine Ex ?_
  refine Xt ?_
  refine Xt ?_
  refine Xb ?_
  refine Pq ?_
  refine Sr ?_
  refine Y As ?_
  refine Nq ?_
  refine Rt ?_
  refine Rv preF ?_
  exact ⟨congrArg (Value.int .i64) (idxF_none (by assumption) hno), rfl⟩

set_option maxRecDepth 100000 in
set_option maxHeartbeats 4000000 in
theorem indexA_sp {Z : Hp} {fk : FuncId} {ff fc : List Value} {preF : List Assn} {p : Arc → Bool} {xs : List Arc} {sv : Value} [TEnter Tryz.prog fk] (hf : ∀ a ∈ xs, Sp Tryz.prog fk (ff ++ [arcV a] ++ fc) preF fun v H' => v = .bool (p a) ∧ preF = H') (hx : SlZ (EA) Z sv xs := by assumption) : Sp Tryz.prog 151 [sv, .func (.func fk) ff.toArray fc.toArray] (.zm Z :: preF) fun v H' => v = .int .i64 (idxF p xs) ∧ preF = H' := by
 have hlen := hx.len_le
 refine Sp.of 19 Tryz.func151 rfl rfl rfl ?_
 intro F
 refine Sr ?_
 refine Y As ?_
 refine Nq ?_
 refine Sq ?_
 refine Sr ?_
 refine Y Mv ?_
 refine Y Ln ?_
 refine Y Mv ?_
 refine Nq ?_
 refine Bk ?_
 refine Lp (fun n_ l_ H_ => ∃ (i : Nat), n_ = xs.length - i ∧ l_ = [(0, sv), (1, .func (.func fk) ff.toArray fc.toArray), (7, .int .i64 (xs.length : Int)), (8, .int .i64 (i : Int))] ∧ H_ = .zm Z :: (preF ++ F) ∧ (i ≤ xs.length) ∧ (∀ y ∈ xs.take i, p y = false)) ⟨0, rfl, rfl, rfl, (by omega), (by simp)⟩ ⟨rfl, rfl, rfl, rfl, trivial⟩ ?_
 rintro _ _ _ ⟨i, rfl, rfl, rfl, hi, hno⟩
 refine Sr ?_
 refine Y Lt ?_
 refine Nq ?_
 refine Sq ?_
 refine Cp (fun h2 => ?_) fun h2 => ?_
 ·
  refine Sk ?_
  refine Pq ?_
  refine Sq ?_
  refine Bk ?_
  refine Sr ?_
  refine Y Mv ?_
  refine Y As ?_
  refine Nq ?_
  refine Sr ?_
  refine Y Mv ?_
  refine Y Mv ?_
  refine Y Mv ?_
  refine IxF (fun x => arcCells x) (fun x14 b14 o14 hx14 hc14 => ?_)
  refine Y LdN ?_
  refine D (Cc (hs := (hf _ (mem_get hx14))) (ht := Take.var)) ?_
  rintro _ _ ⟨_, ⟨rfl, rfl⟩, rfl⟩
  refine RegH.weak SubH.var ?_
  refine Nq ?_
  refine Ct (fun h4 => ?_) fun h4 => ?_
  ·
   refine Sr ?_
   refine Y Mv ?_
   refine Y As ?_
   refine Nq ?_
   refine Rt ?_
   refine Rb ?_
   refine Rh ?_
   refine Rh ?_
   refine Rb ?_
   refine Rh ?_
   refine Rv preF ?_
   exact ⟨congrArg (Value.int .i64) (idxF_found hx14 hno h4), rfl⟩
  ·
   refine Sk ?_
   refine Pb ?_
   refine Pq ?_
   refine Rg ?_
   refine Y Ad ?_
   refine Y Mv ?_
   refine Nl ?_
   refine Re ⟨(i + 1), rfl, rfl, rfl, (by omega), (any_take_succ hx14 hno h4)⟩ (by omega) ⟨rfl, rfl, rfl, rfl, trivial⟩
 ·
  refine Ex ?_
  refine Xt ?_
  refine Xt ?_
  refine Xb ?_
  refine Pq ?_
  refine Sr ?_
  refine Y As ?_
  refine Nq ?_
  refine Rt ?_
  refine Rv preF ?_
  exact ⟨congrArg (Value.int .i64) (idxF_none (by assumption) hno), rfl⟩

set_option maxRecDepth 100000 in
set_option maxHeartbeats 4000000 in
theorem indexS_sp {Z : Hp} {fk : FuncId} {ff fc : List Value} {preF : List Assn} {p : ByteArray → Bool} {xs : List ByteArray} {sv : Value} [TEnter Tryz.prog fk] (hf : ∀ a ∈ xs, Sp Tryz.prog fk (ff ++ [.string a] ++ fc) preF fun v H' => v = .bool (p a) ∧ preF = H') (hx : SlZ (ESt) Z sv xs := by assumption) : Sp Tryz.prog 350 [sv, .func (.func fk) ff.toArray fc.toArray] (.zm Z :: preF) fun v H' => v = .int .i64 (idxF p xs) ∧ preF = H' := by
 have hlen := hx.len_le
 refine Sp.of 19 Tryz.func350 rfl rfl rfl ?_
 intro F
 refine Sr ?_
 refine Y As ?_
 refine Nq ?_
 refine Sq ?_
 refine Sr ?_
 refine Y Mv ?_
 refine Y Ln ?_
 refine Y Mv ?_
 refine Nq ?_
 refine Bk ?_
 refine Lp (fun n_ l_ H_ => ∃ (i : Nat), n_ = xs.length - i ∧ l_ = [(0, sv), (1, .func (.func fk) ff.toArray fc.toArray), (7, .int .i64 (xs.length : Int)), (8, .int .i64 (i : Int))] ∧ H_ = .zm Z :: (preF ++ F) ∧ (i ≤ xs.length) ∧ (∀ y ∈ xs.take i, p y = false)) ⟨0, rfl, rfl, rfl, (by omega), (by simp)⟩ ⟨rfl, rfl, rfl, rfl, trivial⟩ ?_
 rintro _ _ _ ⟨i, rfl, rfl, rfl, hi, hno⟩
 refine Sr ?_
 refine Y Lt ?_
 refine Nq ?_
 refine Sq ?_
 refine Cp (fun h2 => ?_) fun h2 => ?_
 ·
  refine Sk ?_
  refine Pq ?_
  refine Sq ?_
  refine Bk ?_
  refine Sr ?_
  refine Y Mv ?_
  refine Y As ?_
  refine Nq ?_
  refine Sr ?_
  refine Y Mv ?_
  refine Y Mv ?_
  refine Y Mv ?_
  refine IxF (fun x => [.string x]) fun x14 b14 o14 hx14 hc14 => ?_
  refine Y Ld ?_
  refine D (Cc (hs := (hf _ (mem_get hx14))) (ht := Take.var)) ?_
  rintro _ _ ⟨_, ⟨rfl, rfl⟩, rfl⟩
  refine RegH.weak SubH.var ?_
  refine Nq ?_
  refine Ct (fun h4 => ?_) fun h4 => ?_
  ·
   refine Sr ?_
   refine Y Mv ?_
   refine Y As ?_
   refine Nq ?_
   refine Rt ?_
   refine Rb ?_
   refine Rh ?_
   refine Rh ?_
   refine Rb ?_
   refine Rh ?_
   refine Rv preF ?_
   exact ⟨congrArg (Value.int .i64) (idxF_found hx14 hno h4), rfl⟩
  ·
   refine Sk ?_
   refine Pb ?_
   refine Pq ?_
   refine Rg ?_
   refine Y Ad ?_
   refine Y Mv ?_
   refine Nl ?_
   refine Re ⟨(i + 1), rfl, rfl, rfl, (by omega), (any_take_succ hx14 hno h4)⟩ (by omega) ⟨rfl, rfl, rfl, rfl, trivial⟩
 ·
  refine Ex ?_
  refine Xt ?_
  refine Xt ?_
  refine Xb ?_
  refine Pq ?_
  refine Sr ?_
  refine Y As ?_
  refine Nq ?_
  refine Rt ?_
  refine Rv preF ?_
  exact ⟨congrArg (Value.int .i64) (idxF_none (by assumption) hno), rfl⟩

set_option maxRecDepth 100000 in
set_option maxHeartbeats 4000000 in
theorem indexB_sp {Z : Hp} {fk : FuncId} {ff fc : List Value} {preF : List Assn} {p : Int → Bool} {xs : List Int} {sv : Value} [TEnter Tryz.prog fk] (hf : ∀ a ∈ xs, Sp Tryz.prog fk (ff ++ [.int .u8 a] ++ fc) preF fun v H' => v = .bool (p a) ∧ preF = H') (hx : SlZ (EI .u8) Z sv xs := by assumption) : Sp Tryz.prog 337 [sv, .func (.func fk) ff.toArray fc.toArray] (.zm Z :: preF) fun v H' => v = .int .i64 (idxF p xs) ∧ preF = H' := by
 have hlen := hx.len_le
 refine Sp.of 19 Tryz.func337 rfl rfl rfl ?_
 intro F
 refine Sr ?_
 refine Y As ?_
 refine Nq ?_
 refine Sq ?_
 refine Sr ?_
 refine Y Mv ?_
 refine Y Ln ?_
 refine Y Mv ?_
 refine Nq ?_
 refine Bk ?_
 refine Lp (fun n_ l_ H_ => ∃ (i : Nat), n_ = xs.length - i ∧ l_ = [(0, sv), (1, .func (.func fk) ff.toArray fc.toArray), (7, .int .i64 (xs.length : Int)), (8, .int .i64 (i : Int))] ∧ H_ = .zm Z :: (preF ++ F) ∧ (i ≤ xs.length) ∧ (∀ y ∈ xs.take i, p y = false)) ⟨0, rfl, rfl, rfl, (by omega), (by simp)⟩ ⟨rfl, rfl, rfl, rfl, trivial⟩ ?_
 rintro _ _ _ ⟨i, rfl, rfl, rfl, hi, hno⟩
 refine Sr ?_
 refine Y Lt ?_
 refine Nq ?_
 refine Sq ?_
 refine Cp (fun h2 => ?_) fun h2 => ?_
 ·
  refine Sk ?_
  refine Pq ?_
  refine Sq ?_
  refine Bk ?_
  refine Sr ?_
  refine Y Mv ?_
  refine Y As ?_
  refine Nq ?_
  refine Sr ?_
  refine Y Mv ?_
  refine Y Mv ?_
  refine Y Mv ?_
  refine IxF (fun x => [.int .u8 x]) fun x14 b14 o14 hx14 hc14 => ?_
  refine Y Ld ?_
  refine D (Cc (hs := (hf _ (mem_get hx14))) (ht := Take.var)) ?_
  rintro _ _ ⟨_, ⟨rfl, rfl⟩, rfl⟩
  refine RegH.weak SubH.var ?_
  refine Nq ?_
  refine Ct (fun h4 => ?_) fun h4 => ?_
  ·
   refine Sr ?_
   refine Y Mv ?_
   refine Y As ?_
   refine Nq ?_
   refine Rt ?_
   refine Rb ?_
   refine Rh ?_
   refine Rh ?_
   refine Rb ?_
   refine Rh ?_
   refine Rv preF ?_
   exact ⟨congrArg (Value.int .i64) (idxF_found hx14 hno h4), rfl⟩
  ·
   refine Sk ?_
   refine Pb ?_
   refine Pq ?_
   refine Rg ?_
   refine Y Ad ?_
   refine Y Mv ?_
   refine Nl ?_
   refine Re ⟨(i + 1), rfl, rfl, rfl, (by omega), (any_take_succ hx14 hno h4)⟩ (by omega) ⟨rfl, rfl, rfl, rfl, trivial⟩
 ·
  refine Ex ?_
  refine Xt ?_
  refine Xt ?_
  refine Xb ?_
  refine Pq ?_
  refine Sr ?_
  refine Y As ?_
  refine Nq ?_
  refine Rt ?_
  refine Rv preF ?_
  exact ⟨congrArg (Value.int .i64) (idxF_none (by assumption) hno), rfl⟩

set_option maxRecDepth 100000 in
set_option maxHeartbeats 4000000 in
theorem indexV_sp {Z : Hp} {xs : List Int} {sv : Value} {v : Int} (hx : SlZ (EI .i64) Z sv xs := by assumption) : SpV Tryz.prog 200 [sv, .int .i64 v] [.zm Z] (.int .i64 (idxF (fun x => decide (v = x)) xs)) := by
 refine Sp.of 19 Tryz.func200 rfl rfl rfl ?_
 intro F
 have hlen := hx.len_le
 refine Sr ?_
 refine Y As ?_
 refine Nq ?_
 refine Sq ?_
 refine Sr ?_
 refine Y Mv ?_
 refine Y Ln ?_
 refine Y Mv ?_
 refine Nq ?_
 refine Bk ?_
 refine Lp (fun n_ l_ H_ => ∃ (i : Nat), n_ = xs.length - i ∧ l_ = [(0, sv), (1, .int .i64 v), (7, .int .i64 (xs.length : Int)), (8, .int .i64 (i : Int))] ∧ H_ = .zm Z :: F ∧ (i ≤ xs.length) ∧ (∀ y ∈ xs.take i, (fun x => decide (v = x)) y = false)) ⟨0, rfl, rfl, rfl, (by omega), (by simp)⟩ ⟨rfl, rfl, rfl, rfl, trivial⟩ ?_
 rintro _ _ _ ⟨i, rfl, rfl, rfl, hi, hno⟩
 refine Sr ?_
 refine Y Lt ?_
 refine Nq ?_
 refine Sq ?_
 refine Cp (fun h2 => ?_) fun h2 => ?_
 ·
  refine Sk ?_
  refine Pq ?_
  refine Sq ?_
  refine Bk ?_
  refine Sr ?_
  refine Y Mv ?_
  refine Y As ?_
  refine Nq ?_
  refine Sr ?_
  refine Y Mv ?_
  refine Y Mv ?_
  refine Y Mv ?_
  refine IxF (fun x => [.int .i64 x]) (fun x14 b14 o14 hx14 hc14 => ?_)
  refine Y Ld ?_
  refine Y Eq_ ?_
  refine Nq ?_
  refine Cp (fun h4 => ?_) fun h4 => ?_
  ·
   refine Sr ?_
   refine Y Mv ?_
   refine Y As ?_
   refine Nq ?_
   refine Rt ?_
   refine Rb ?_
   refine Rh ?_
   refine Rh ?_
   refine Rb ?_
   refine Rh ?_
   refine Rv [] ?_
   exact ⟨congrArg (Value.int .i64) (idxF_found hx14 hno (decide_eq_true h4)), rfl⟩
  ·
   refine Sk ?_
   refine Pb ?_
   refine Pq ?_
   refine Rg ?_
   refine Y Ad ?_
   refine Y Mv ?_
   refine Nl ?_
   refine Re ⟨(i + 1), rfl, rfl, rfl, (by omega), (any_take_succ hx14 hno (decide_eq_false h4))⟩ (by omega) ⟨rfl, rfl, rfl, rfl, trivial⟩
 ·
  refine Ex ?_
  refine Xt ?_
  refine Xt ?_
  refine Xb ?_
  refine Pq ?_
  refine Sr ?_
  refine Y As ?_
  refine Nq ?_
  refine Rt ?_
  refine Rv [] ?_
  exact ⟨congrArg (Value.int .i64) (idxF_none (by assumption) hno), rfl⟩

set_option maxRecDepth 100000 in
set_option maxHeartbeats 4000000 in
theorem hasV_sp {Z : Hp} {xs : List Int} {sv : Value} {v : Int} (hx : SlZ (EI .i64) Z sv xs := by assumption) : SpV Tryz.prog 114 [sv, .int .i64 v] [.zm Z] (.bool (hasB xs v)) := by
 refine Sp.of 9 Tryz.func114 rfl rfl rfl ?_
 intro F
 refine Sr ?_
 refine Y As ?_
 refine Nq ?_
 refine Sr ?_
 refine Y Mv ?_
 refine Y Mv ?_
 refine Cv (hs := indexV_sp) (h := ?_)
 refine Y Ge ?_
 refine Y As ?_
 refine Nq ?_
 refine Rt ?_
 refine Rv [] ?_
 exact ⟨congrArg Value.bool (idxF_has xs v), rfl⟩

end Go.Lag

namespace Go.Lag
open Go Go.RowKit Go.Proofs
set_option maxRecDepth 100000 in
set_option maxHeartbeats 4000000 in
theorem anyI_sp {Z : Hp} {fk : FuncId} {ff fc : List Value} {preF : List Assn} {p : Int → Bool} {xs : List Int} {sv : Value} [TEnter Tryz.prog fk] (hf : ∀ a ∈ xs, Sp Tryz.prog fk (ff ++ [.int .i64 a] ++ fc) preF fun v H' => v = .bool (p a) ∧ preF = H') (hx : SlZ (EI .i64) Z sv xs := by assumption) : Sp Tryz.prog 262 [sv, .func (.func fk) ff.toArray fc.toArray] (.zm Z :: preF) fun v H' => v = .bool (xs.any p) ∧ preF = H' := by
 refine Sp.of 9 Tryz.func262 rfl rfl rfl ?_
 intro F
 refine Sr ?_
 refine Y As ?_
 refine Nq ?_
 refine Sr ?_
 refine Y Mv ?_
 refine Y Mv ?_
 refine D (Cf (hs := (indexI_sp hf)) (ht := Take.ro rfl (List.Mem.head _) Take.var)) ?_
 rintro _ _ ⟨_, ⟨rfl, rfl⟩, rfl⟩
 refine RegH.weak SubH.var ?_
 refine Y Ge ?_
 refine Y As ?_
 refine Nq ?_
 refine Rt ?_
 refine Rv preF ?_
 exact ⟨congrArg Value.bool idxF_pos, rfl⟩

set_option maxRecDepth 100000 in
set_option maxHeartbeats 4000000 in
theorem anyR_sp {Z : Hp} {fk : FuncId} {ff fc : List Value} {preF : List Assn} {p : Rep → Bool} {xs : List Rep} {sv : Value} [TEnter Tryz.prog fk] (hf : ∀ a ∈ xs, ∀ pv, SlZ (EI .i64) Z pv a.parts → Sp Tryz.prog fk (ff ++ [repV a pv] ++ fc) preF fun v H' => v = .bool (p a) ∧ preF = H') (hx : SlZ (EZ Z) Z sv xs := by assumption) : Sp Tryz.prog 203 [sv, .func (.func fk) ff.toArray fc.toArray] (.zm Z :: preF) fun v H' => v = .bool (xs.any p) ∧ preF = H' := by
 refine Sp.of 9 Tryz.func203 rfl rfl rfl ?_
 intro F
 refine Sr ?_
 refine Y As ?_
 refine Nq ?_
 refine Sr ?_
 refine Y Mv ?_
 refine Y Mv ?_
 refine D (Cf (hs := (indexR_sp hf)) (ht := Take.ro rfl (List.Mem.head _) Take.var)) ?_
 rintro _ _ ⟨_, ⟨rfl, rfl⟩, rfl⟩
 refine RegH.weak SubH.var ?_
 refine Y Ge ?_
 refine Y As ?_
 refine Nq ?_
 refine Rt ?_
 refine Rv preF ?_
 exact ⟨congrArg Value.bool idxF_pos, rfl⟩

set_option maxRecDepth 100000 in
set_option maxHeartbeats 4000000 in
theorem anyS_sp {Z : Hp} {fk : FuncId} {ff fc : List Value} {preF : List Assn} {p : ByteArray → Bool} {xs : List ByteArray} {sv : Value} [TEnter Tryz.prog fk] (hf : ∀ a ∈ xs, Sp Tryz.prog fk (ff ++ [.string a] ++ fc) preF fun v H' => v = .bool (p a) ∧ preF = H') (hx : SlZ (ESt) Z sv xs := by assumption) : Sp Tryz.prog 330 [sv, .func (.func fk) ff.toArray fc.toArray] (.zm Z :: preF) fun v H' => v = .bool (xs.any p) ∧ preF = H' := by
 refine Sp.of 9 Tryz.func330 rfl rfl rfl ?_
 intro F
 refine Sr ?_
 refine Y As ?_
 refine Nq ?_
 refine Sr ?_
 refine Y Mv ?_
 refine Y Mv ?_
 refine D (Cf (hs := (indexS_sp hf)) (ht := Take.ro rfl (List.Mem.head _) Take.var)) ?_
 rintro _ _ ⟨_, ⟨rfl, rfl⟩, rfl⟩
 refine RegH.weak SubH.var ?_
 refine Y Ge ?_
 refine Y As ?_
 refine Nq ?_
 refine Rt ?_
 refine Rv preF ?_
 exact ⟨congrArg Value.bool idxF_pos, rfl⟩

set_option maxRecDepth 100000 in
set_option maxHeartbeats 4000000 in
theorem anyB_sp {Z : Hp} {fk : FuncId} {ff fc : List Value} {preF : List Assn} {p : Int → Bool} {xs : List Int} {sv : Value} [TEnter Tryz.prog fk] (hf : ∀ a ∈ xs, Sp Tryz.prog fk (ff ++ [.int .u8 a] ++ fc) preF fun v H' => v = .bool (p a) ∧ preF = H') (hx : SlZ (EI .u8) Z sv xs := by assumption) : Sp Tryz.prog 299 [sv, .func (.func fk) ff.toArray fc.toArray] (.zm Z :: preF) fun v H' => v = .bool (xs.any p) ∧ preF = H' := by
 refine Sp.of 9 Tryz.func299 rfl rfl rfl ?_
 intro F
 refine Sr ?_
 refine Y As ?_
 refine Nq ?_
 refine Sr ?_
 refine Y Mv ?_
 refine Y Mv ?_
 refine D (Cf (hs := (indexB_sp hf)) (ht := Take.ro rfl (List.Mem.head _) Take.var)) ?_
 rintro _ _ ⟨_, ⟨rfl, rfl⟩, rfl⟩
 refine RegH.weak SubH.var ?_
 refine Y Ge ?_
 refine Y As ?_
 refine Nq ?_
 refine Rt ?_
 refine Rv preF ?_
 exact ⟨congrArg Value.bool idxF_pos, rfl⟩

set_option maxRecDepth 100000 in
set_option maxHeartbeats 4000000 in
theorem names_sp {Z : Hp} {x : Rep} {pv : Value} {p : Int} (hp : SlZ (EI .i64) Z pv x.parts := by assumption) (hn : x.parts.length ≤ 1000 := by assumption) (hs : Small x := by assumption) : SpV Tryz.prog 264 [repV x pv, .int .i64 p] [.zm Z] (.bool (namesB x p)) := by
 refine Sp.of 15 Tryz.func264 rfl rfl rfl ?_
 intro F
 refine Sr ?_
 refine Dbx (fun b2 => ?_)
 refine Y As ?_
 refine Nq ?_
 refine Sr ?_
 refine Y LdN ?_
 refine D (Cf (hs := touches_sp (hn := by assumption))) ?_
 rintro v6 _ ⟨_, rfl, rfl⟩
 refine Fz fun Z6 hz6 => ?_
 refine Y Mv ?_
 refine Cv (hs := hasV_sp) (h := ?_)
 refine Y Mv ?_
 refine Ga 4 4 false 13 (fun h2 => by
  refine Yg h2 LdN ?_
  refine Gt h2 ?_
  refine D (Cf (hs := makes_sp (hs := by assumption))) ?_
  rintro v11 _ ⟨_, rfl, rfl⟩
  refine Fz fun Z11 hz11 => ?_
  refine Yg h2 Mv ?_
  refine Gt h2 ?_
  refine Cv (hs := hasV_sp) (h := ?_)
  exact Gg) ?_
 refine Y PkO ?_
 refine Y As ?_
 refine Nq ?_
 refine Rt ?_
 refine Rv [] ?_
 exact ⟨congrArg Value.bool (by simp [namesB, *]), rfl⟩

end Go.Lag

namespace Go.Lag
open Go Go.RowKit Go.Proofs
set_option maxRecDepth 100000 in
set_option maxHeartbeats 4000000 in
theorem isMark1_sp {c : Int} : SpV Tryz.prog 347 [.int .u8 c] [] (.bool (markCh c)) := by
 refine Sp.of 21 Tryz.func347 rfl rfl rfl ?_
 intro F
 refine Sr ?_
 refine Y As ?_
 refine Nq ?_
 refine Sr ?_
 refine Y Mv ?_
 refine Y Lt ?_
 refine Y Mv ?_
 refine Ga 2 2 false 7 (fun h2 => by
  refine Yg h2 Mv ?_
  refine Yg h2 Gr ?_
  exact Gg) ?_
 refine Y PkO ?_
 refine Y Mv ?_
 refine GcB 8 (fun h5 => ?_) fun h5 => ?_
 ·
  refine Gt h5 ?_
  refine Y Mv ?_
  refine Gt h5 ?_
  refine Y Lt ?_
  refine Gt h5 ?_
  refine Y Mv ?_
  refine GcD 11 (fun h7 => ?_) fun h7 => ?_
  ·
   refine Gf (decide_eq_true h7) ?_
   refine Gf (decide_eq_true h7) ?_
   refine Gt h5 ?_
   refine Y (PkT (hb := decide_eq_true h7)) ?_
   refine Y (PkT (hb := h5)) ?_
   refine Y Mv ?_
   refine Gt rfl ?_
   refine Y Mv ?_
   refine Gt rfl ?_
   refine Y Ne_ ?_
   refine Y (PkT (hb := rfl)) ?_
   refine Y As ?_
   refine Nq ?_
   refine Rt ?_
   refine Rv [] ?_
   exact ⟨congrArg Value.bool (by simp [markCh, *]), rfl⟩
  ·
   refine Gt (decide_eq_false h7) ?_
   refine Y Mv ?_
   refine Gt (decide_eq_false h7) ?_
   refine Y Gr ?_
   refine Gt h5 ?_
   refine Y (PkF (hb := decide_eq_false h7)) ?_
   refine Y (PkT (hb := h5)) ?_
   refine Y Mv ?_
   refine Ga 2 14 true 19 (fun h10 => by
    refine Yg h10 Mv ?_
    refine Yg h10 Ne_ ?_
    exact Gg) ?_
   refine Y PkA ?_
   refine Y As ?_
   refine Nq ?_
   refine Rt ?_
   refine Rv [] ?_
   exact ⟨congrArg Value.bool (by simp [markCh, *]), rfl⟩
 ·
  refine Gf h5 ?_
  refine Gf h5 ?_
  refine Gf h5 ?_
  refine Gu ?_
  refine Gu ?_
  refine Gf h5 ?_
  refine Y (PkF (hb := h5)) ?_
  refine Y Mv ?_
  refine Gf rfl ?_
  refine Gf rfl ?_
  refine Y (PkF (hb := rfl)) ?_
  refine Y As ?_
  refine Nq ?_
  refine Rt ?_
  refine Rv [] ?_
  exact ⟨congrArg Value.bool (by simp [markCh, *]), rfl⟩

set_option maxRecDepth 100000 in
set_option maxHeartbeats 4000000 in
theorem isName1_sp {c : Int} : SpV Tryz.prog 348 [.int .u8 c] [] (.bool (nameCh c)) := by
 refine Sp.of 21 Tryz.func348 rfl rfl rfl ?_
 intro F
 refine Sr ?_
 refine Y As ?_
 refine Nq ?_
 refine Sr ?_
 refine Y Mv ?_
 refine Y Lt ?_
 refine Y Mv ?_
 refine Ga 2 2 false 7 (fun h2 => by
  refine Yg h2 Mv ?_
  refine Yg h2 Gr ?_
  exact Gg) ?_
 refine Y PkO ?_
 refine Y Mv ?_
 refine GcB 8 (fun h5 => ?_) fun h5 => ?_
 ·
  refine Gt h5 ?_
  refine Y Mv ?_
  refine Gt h5 ?_
  refine Y Lt ?_
  refine Gt h5 ?_
  refine Y Mv ?_
  refine GcD 11 (fun h7 => ?_) fun h7 => ?_
  ·
   refine Gf (decide_eq_true h7) ?_
   refine Gf (decide_eq_true h7) ?_
   refine Gt h5 ?_
   refine Y (PkT (hb := decide_eq_true h7)) ?_
   refine Y (PkT (hb := h5)) ?_
   refine Y Mv ?_
   refine Gt rfl ?_
   refine Y Mv ?_
   refine Gt rfl ?_
   refine Y Ne_ ?_
   refine Y (PkT (hb := rfl)) ?_
   refine Y As ?_
   refine Nq ?_
   refine Rt ?_
   refine Rv [] ?_
   exact ⟨congrArg Value.bool (by simp [nameCh, *]), rfl⟩
  ·
   refine Gt (decide_eq_false h7) ?_
   refine Y Mv ?_
   refine Gt (decide_eq_false h7) ?_
   refine Y Gr ?_
   refine Gt h5 ?_
   refine Y (PkF (hb := decide_eq_false h7)) ?_
   refine Y (PkT (hb := h5)) ?_
   refine Y Mv ?_
   refine Ga 2 14 true 19 (fun h10 => by
    refine Yg h10 Mv ?_
    refine Yg h10 Ne_ ?_
    exact Gg) ?_
   refine Y PkA ?_
   refine Y As ?_
   refine Nq ?_
   refine Rt ?_
   refine Rv [] ?_
   exact ⟨congrArg Value.bool (by simp [nameCh, *]), rfl⟩
 ·
  refine Gf h5 ?_
  refine Gf h5 ?_
  refine Gf h5 ?_
  refine Gu ?_
  refine Gu ?_
  refine Gf h5 ?_
  refine Y (PkF (hb := h5)) ?_
  refine Y Mv ?_
  refine Gf rfl ?_
  refine Gf rfl ?_
  refine Y (PkF (hb := rfl)) ?_
  refine Y As ?_
  refine Nq ?_
  refine Rt ?_
  refine Rv [] ?_
  exact ⟨congrArg Value.bool (by simp [nameCh, *]), rfl⟩

set_option maxRecDepth 100000 in
set_option maxHeartbeats 4000000 in
theorem isMark_sp {s : ByteArray} : SpV Tryz.prog 319 [.string s] [] (.bool (markB s)) := by
 refine Sp.of 12 Tryz.func319 rfl rfl rfl ?_
 intro F
 refine Sr ?_
 refine Y As ?_
 refine Nq ?_
 refine Sr ?_
 refine Y Mv ?_
 refine Y LnS ?_
 refine Cv (hs := in_sp) (h := ?_)
 refine Y Mv ?_
 refine Ga 4 3 true 10 (fun h2 => by
  refine Yg h2 Mv ?_
  have hz := (inB_le h2).2
  refine Gt h2 ?_
  refine D Cb ?_
  rintro v8 _ ⟨Z8, hz8, rfl⟩
  refine Gt h2 ?_
  refine D (Cf (hs := (anyB_sp (ff := []) (fc := []) (preF := []) (p := markCh) fun a _ => (isMark1_sp (c := a)).mono fun _ _ h => ⟨h.1, h.2.symm⟩))) ?_
  rintro _ _ ⟨_, ⟨rfl, rfl⟩, rfl⟩
  refine Yg h2 Nt ?_
  exact Gg) ?_
 refine Y PkA ?_
 refine Y As ?_
 refine Nq ?_
 refine Rt ?_
 refine Rv [] ?_
 exact ⟨congrArg Value.bool (by simp [markB]), rfl⟩

set_option maxRecDepth 100000 in
set_option maxHeartbeats 4000000 in
theorem isName_sp {s : ByteArray} : SpV Tryz.prog 320 [.string s] [] (.bool (nameB s)) := by
 refine Sp.of 21 Tryz.func320 rfl rfl rfl ?_
 intro F
 obtain ⟨c, hc⟩ := first_ex s
 refine Sr ?_
 refine Y As ?_
 refine Nq ?_
 refine Sq ?_
 refine Sr ?_
 refine Y Mv ?_
 refine Y LnS ?_
 refine Cv (hs := in_sp) (h := ?_)
 refine Y Nt ?_
 refine Y Mv ?_
 refine Ga 3 4 false 10 (fun h2 => by
  refine Yg h2 Mv ?_
  have hz := (inB_le (nb_g h2)).1
  refine Yg h2 (By (hc (by omega))) ?_
  refine Yg h2 Lt ?_
  exact Gg) ?_
 refine Y PkO ?_
 refine Y Mv ?_
 refine Ga 3 9 false 15 (fun h5 => by
  refine Yg h5 Mv ?_
  have hz := (inB_le (name_1 h5)).1
  refine Yg h5 (By (hc (by omega))) ?_
  refine Yg h5 Gr ?_
  exact Gg) ?_
 refine Y PkO ?_
 refine Nq ?_
 refine Ct (fun h8 => ?_) fun h8 => ?_
 ·
  refine Sr ?_
  refine Y As ?_
  refine Nq ?_
  refine Rt ?_
  refine Rh ?_
  refine Rv [] ?_
  exact ⟨congrArg Value.bool (by rw [nameB_eq hc, h8]; rfl), rfl⟩
 ·
  refine Sk ?_
  refine Pq ?_
  refine Sr ?_
  refine Y Mv ?_
  have hz := name_size h8
  refine D Cb ?_
  rintro v18 _ ⟨Z18, hz18, rfl⟩
  refine D (Cf (hs := (anyB_sp (ff := []) (fc := []) (preF := []) (p := nameCh) fun a _ => (isName1_sp (c := a)).mono fun _ _ h => ⟨h.1, h.2.symm⟩))) ?_
  rintro _ _ ⟨_, ⟨rfl, rfl⟩, rfl⟩
  refine Y Nt ?_
  refine Y As ?_
  refine Nq ?_
  refine Rt ?_
  refine Rv [] ?_
  exact ⟨congrArg Value.bool (by rw [nameB_eq hc, h8]; simp), rfl⟩

set_option maxRecDepth 100000 in
set_option maxHeartbeats 4000000 in
theorem equalV_sp {Z Z2 : Hp} {xs ys : List Int} {sv tv : Value} (hx : SlZ (EI .i64) Z sv xs := by assumption) (hy : SlZ (EI .i64) Z2 tv ys := by assumption) : SpV Tryz.prog 323 [sv, tv] [.zm Z, .zm Z2] (.bool (decide (xs = ys))) := by
 refine Sp.of 26 Tryz.func323 rfl rfl rfl ?_
 intro F
 have hlen := hx.len_le
 refine Sr ?_
 refine Y As ?_
 refine Nq ?_
 refine Sq ?_
 refine Sr ?_
 refine Y Mv ?_
 refine Y Ln ?_
 refine Y Mv ?_
 refine Y Ln ?_
 refine Y Ne_ ?_
 refine Nq ?_
 refine Cn (fun h2 => ?_) fun h2 => ?_
 ·
  refine Sr ?_
  refine Y As ?_
  refine Nq ?_
  refine Rt ?_
  refine Rh ?_
  refine Rv [] ?_
  exact ⟨congrArg Value.bool (decide_eq_false fun h => h2 (by rw [h])).symm, rfl⟩
 ·
  refine Sk ?_
  refine Pq ?_
  refine Sq ?_
  refine Sr ?_
  refine Y Mv ?_
  refine Y Ln ?_
  refine Y Mv ?_
  refine Nq ?_
  refine Bk ?_
  refine Lp (fun n_ l_ H_ => ∃ (i : Nat), n_ = xs.length - i ∧ l_ = [(0, sv), (1, tv), (12, .int .i64 (xs.length : Int)), (13, .int .i64 (i : Int))] ∧ H_ = .zm Z :: .zm Z2 :: F ∧ (i ≤ xs.length) ∧ (xs.take i = ys.take i)) ⟨0, rfl, rfl, rfl, (by omega), (by simp)⟩ ⟨rfl, rfl, rfl, rfl, trivial⟩ ?_
  rintro _ _ _ ⟨i, rfl, rfl, rfl, hi, hq⟩
  refine Sr ?_
  refine Y Lt ?_
  refine Nq ?_
  refine Sq ?_
  refine Cp (fun h4 => ?_) fun h4 => ?_
  ·
   refine Sk ?_
   refine Pq ?_
   refine Sq ?_
   refine Bk ?_
   refine Sr ?_
   refine Y Mv ?_
   refine Y As ?_
   refine Nq ?_
   refine Drq (fun i => false) _ SubH.refl ?_
   refine Tk 0 [] rfl Mv ?_
   refine Tk 1 [] rfl Mv ?_
   obtain ⟨x18, b18, o18, hx18, he18, hc18⟩ := SlZ.atI hx i (by omega)
   refine Tk 2 [] rfl (IxY rfl rfl (by omega) he18) ?_
   refine Tk 3 [] rfl Ld ?_
   refine Tk 4 [] rfl Mv ?_
   refine Tk 5 [] rfl Mv ?_
   obtain ⟨x22, b22, o22, hx22, he22, hc22⟩ := SlZ.atI hy i (by omega)
   refine Tk 6 [] rfl (IxY rfl rfl (by omega) he22) ?_
   refine Tk 7 [] rfl Ld ?_
   refine Tk 8 [] rfl Ne_ ?_
   refine Anq ?_
   refine Cn (fun h6 => ?_) fun h6 => ?_
   ·
    refine Sr ?_
    refine Y As ?_
    refine Nq ?_
    refine Rt ?_
    refine Rb ?_
    refine Rh ?_
    refine Rh ?_
    refine Rb ?_
    refine Rh ?_
    refine Rv [] ?_
    exact ⟨congrArg Value.bool (decide_eq_false (ints_ne hx18 hx22 h6)).symm, rfl⟩
   ·
    refine Sk ?_
    refine Pb ?_
    refine Pq ?_
    refine Rg ?_
    refine Y Ad ?_
    refine Y Mv ?_
    refine Nl ?_
    refine Re ⟨(i + 1), rfl, rfl, rfl, (by omega), (ints_eq_take hq hx18 hx22 h6)⟩ (by omega) ⟨rfl, rfl, rfl, rfl, trivial⟩
  ·
   refine Ex ?_
   refine Xt ?_
   refine Xt ?_
   refine Xb ?_
   refine Pq ?_
   refine Sr ?_
   refine Y As ?_
   refine Nq ?_
   refine Rt ?_
   refine Rv [] ?_
   exact ⟨congrArg Value.bool (decide_eq_true (ints_eq hq (by omega) h4)).symm, rfl⟩

end Go.Lag

namespace Go.Lag
open Go Go.RowKit Go.Proofs
set_option maxRecDepth 100000 in
set_option maxHeartbeats 4000000 in
theorem fields_sp {Z : Hp} {x : Rep} {pv : Value} (hp : SlZ (EI .i64) Z pv x.parts := by assumption) : Sp Tryz.prog 257 [repV x pv] [.zm Z] fun v H' => ∃ pv', SlZ (EI .i64) Z pv' (fieldsR x).parts ∧ v = .tuple #[repV (fieldsR x) pv', .bool (fieldsB x)] ∧ H' = [] := by
 refine Sp.of 209 Tryz.func257 rfl rfl rfl ?_
 intro F
 have hlen := hp.len_le
 refine Sr ?_
 refine Dbx (fun b1 => ?_)
 refine Dal fun b2 => ?_
 refine Y As ?_
 refine Nq ?_
 refine Sr ?_
 refine Y Fa ?_
 refine Y Ld ?_
 refine Y Fa ?_
 refine Y Ld ?_
 refine Y Fa ?_
 refine Y Ld ?_
 refine Y Fa ?_
 refine Y Ld ?_
 refine Y Bd ?_
 refine Dal fun b4 => ?_
 refine Dsw ?_
 refine Nq ?_
 refine Sr ?_
 refine Nm b4 (repCells { Rep.zero with id := x.id, known := x.known, hour := x.hour, kind := x.kind } (.slice none 0 0)) ?_
 refine Y Fa ?_
 refine Y Ld ?_
 refine Y Fa ?_
 refine Y Ld ?_
 refine Cv (hs := in_sp) (h := ?_)
 refine Y As ?_
 refine Nq ?_
 refine Cut (fun l H => ∃ b pv', b = fieldsB x ∧ SlZ (EI .i64) Z pv' (fieldsR x).parts ∧ l = [(2, ptr b2 0), (4, ptr b4 0), (5, .bool b)] ∧ H = .cl b2 (repCells Rep.zero (.slice none 0 0)) 92 :: .cl b4 (repCells (fieldsR x) pv') 92 :: F) ?_ ?_
 ·
  refine Sr ?_
  refine Y Fa ?_
  refine Y Ld ?_
  refine Nq ?_
  refine Bk ?_
  refine Sr ?_
  refine Y Eq_ ?_
  refine Y As ?_
  refine Nq ?_
  refine Cp (fun h3 => ?_) fun h3 => ?_
  ·
   refine Drq (fun i => false) [.cl b1 (repCells x pv) 92] (by repeat (first | exact SubH.refl | exact SubH.nil | refine SubH.cons (by repeat (first | exact Pick.head | apply Pick.tail)) ?_ | refine SubH.skip ?_)) ?_
   refine Tk 0 [] rfl Fa ?_
   refine Tk 1 [] rfl Ld ?_
   refine Tk 2 [] rfl Fa ?_
   refine Tk 3 [] rfl Ld ?_
   refine Tk 4 [] rfl Fa ?_
   refine Tk 5 [] rfl Ld ?_
   refine Tk 6 [] rfl Fa ?_
   refine Tk 7 [] rfl LdN ?_
   refine Tk 8 [] rfl Fa ?_
   refine Tk 9 [] rfl Ld ?_
   refine Tk 10 [] rfl Fa ?_
   refine Gxn 11 rfl St ?_
   rintro _ _ rfl
   refine ⟨fun _ => (by repeat (first | exact SubH.refl | exact SubH.nil | refine SubH.cons (by repeat (first | exact Pick.head | apply Pick.tail)) ?_ | refine SubH.skip ?_)), ?_⟩
   refine Tk 12 [] rfl Fa ?_
   refine Gxn 13 rfl St ?_
   rintro _ _ rfl
   refine ⟨fun _ => (by repeat (first | exact SubH.refl | exact SubH.nil | refine SubH.cons (by repeat (first | exact Pick.head | apply Pick.tail)) ?_ | refine SubH.skip ?_)), ?_⟩
   refine Tk 14 [] rfl Fa ?_
   refine Gxn 15 rfl St ?_
   rintro _ _ rfl
   refine ⟨fun _ => (by repeat (first | exact SubH.refl | exact SubH.nil | refine SubH.cons (by repeat (first | exact Pick.head | apply Pick.tail)) ?_ | refine SubH.skip ?_)), ?_⟩
   refine Tk 16 [] rfl Fa ?_
   refine Gxn 17 rfl St ?_
   rintro _ _ rfl
   refine ⟨fun _ => (by repeat (first | exact SubH.refl | exact SubH.nil | refine SubH.cons (by repeat (first | exact Pick.head | apply Pick.tail)) ?_ | refine SubH.skip ?_)), ?_⟩
   refine Tk 18 [] rfl Fa ?_
   refine Gxn 19 rfl St ?_
   rintro _ _ rfl
   refine ⟨fun _ => (by repeat (first | exact SubH.refl | exact SubH.nil | refine SubH.cons (by repeat (first | exact Pick.head | apply Pick.tail)) ?_ | refine SubH.skip ?_)), ?_⟩
   refine Anq ?_
   refine Rg ?_
   refine Nm b4 (repCells (fieldsR x) (.slice none 0 0)) ?_ (hc := by rw [fieldsR_1 h3] <;> rfl)
   refine Y Mv ?_
   refine Y Mv ?_
   refine Ga 3 1 true 45 (fun h4 => by
    refine Yg h4 Fa ?_
    refine Yg h4 Ld ?_
    refine Gt h4 ?_
    refine Cv (hs := in_sp) (h := ?_)
    exact Gg) ?_
   refine Y PkA ?_
   refine Y Mv ?_
   refine Ga 3 6 true 50 (fun h7 => by
    refine Yg h7 Fa ?_
    refine Yg h7 Ld ?_
    refine Gt h7 ?_
    refine Cv (hs := isMark_sp) (h := ?_)
    exact Gg) ?_
   refine Y PkA ?_
   refine Y Mv ?_
   refine Ga 3 11 true 55 (fun h10 => by
    refine Yg h10 Fa ?_
    refine Yg h10 Ld ?_
    refine Gt h10 ?_
    refine Cv (hs := isName_sp) (h := ?_)
    exact Gg) ?_
   refine Y PkA ?_
   refine Y Mv ?_
   refine Ga 3 16 true 60 (fun h13 => by
    refine Yg h13 Fa ?_
    refine Yg h13 LdN ?_
    refine Gt h13 ?_
    refine Cv (hs := isSpan_sp) (h := ?_)
    exact Gg) ?_
   refine Y PkA ?_
   refine Y Mv ?_
   refine Ga 3 21 true 65 (fun h16 => by
    refine Yg h16 Fa ?_
    refine Yg h16 Ld ?_
    refine Gt h16 ?_
    refine Cv (hs := in_sp) (h := ?_)
    exact Gg) ?_
   refine Y PkA ?_
   refine Y As ?_
   refine Nl ?_
   refine Pb ?_
   refine Cx ⟨_, .slice none 0 0, (fieldsB_1 h3).symm, (by rw [fieldsR_1 h3]; exact SlZ.nil _ _), rfl, rfl⟩ ⟨rfl, rfl, rfl, trivial⟩
  ·
   refine Sr ?_
   refine Y Eq_ ?_
   refine Y As ?_
   refine Nq ?_
   refine Cp (fun h20 => ?_) fun h20 => ?_
   ·
    refine Drq (fun i => false) [.cl b1 (repCells x pv) 92] (by repeat (first | exact SubH.refl | exact SubH.nil | refine SubH.cons (by repeat (first | exact Pick.head | apply Pick.tail)) ?_ | refine SubH.skip ?_)) ?_
    refine Tk 0 [] rfl Fa ?_
    refine Tk 1 [] rfl Ld ?_
    refine Tk 2 [] rfl Fa ?_
    refine Tk 3 [] rfl Ld ?_
    refine Tk 4 [] rfl Fa ?_
    refine Gxn 5 rfl St ?_
    rintro _ _ rfl
    refine ⟨fun _ => (by repeat (first | exact SubH.refl | exact SubH.nil | refine SubH.cons (by repeat (first | exact Pick.head | apply Pick.tail)) ?_ | refine SubH.skip ?_)), ?_⟩
    refine Tk 6 [] rfl Fa ?_
    refine Gxn 7 rfl St ?_
    rintro _ _ rfl
    refine ⟨fun _ => (by repeat (first | exact SubH.refl | exact SubH.nil | refine SubH.cons (by repeat (first | exact Pick.head | apply Pick.tail)) ?_ | refine SubH.skip ?_)), ?_⟩
    refine Anq ?_
    refine Rg ?_
    refine Nm b4 (repCells (fieldsR x) (.slice none 0 0)) ?_ (hc := by rw [fieldsR_2 h20] <;> rfl)
    refine Y Mv ?_
    refine Y Mv ?_
    refine Ga 3 1 true 79 (fun h21 => by
     refine Yg h21 Fa ?_
     refine Yg h21 Ld ?_
     refine Gt h21 ?_
     refine Cv (hs := isParcel_sp) (h := ?_)
     exact Gg) ?_
    refine Y PkA ?_
    refine Y Mv ?_
    refine Ga 3 6 true 84 (fun h24 => by
     refine Yg h24 Fa ?_
     refine Yg h24 Ld ?_
     refine Gt h24 ?_
     refine Cv (hs := in_sp) (h := ?_)
     exact Gg) ?_
    refine Y PkA ?_
    refine Y As ?_
    refine Nl ?_
    refine Pb ?_
    refine Cx ⟨_, .slice none 0 0, (fieldsB_2 h20).symm, (by rw [fieldsR_2 h20]; exact SlZ.nil _ _), rfl, rfl⟩ ⟨rfl, rfl, rfl, trivial⟩
   ·
    refine Sr ?_
    refine Y Eq_ ?_
    refine Y As ?_
    refine Nq ?_
    refine Cp (fun h28 => ?_) fun h28 => ?_
    ·
     refine Sr ?_
     refine Y Fa ?_
     refine Y Ld ?_
     refine Y Fa ?_
     refine Dst ?_
     refine Nq ?_
     refine Sr ?_
     refine Nm b4 (repCells (fieldsR x) pv) ?_ (hc := by rw [fieldsR_3 h28] <;> rfl)
     refine Y Mv ?_
     refine Y Mv ?_
     refine Ga 4 1 true 96 (fun h29 => by
      refine Yg h29 Fa ?_
      refine Yg h29 Ld ?_
      refine Yg h29 Ln ?_
      refine Gt h29 ?_
      refine Cv (hs := in_sp) (h := ?_)
      exact Gg) ?_
     refine Y PkA ?_
     refine Y As ?_
     refine Nq ?_
     refine Sr ?_
     refine Y Fa ?_
     refine Y Ld ?_
     refine Y Ln ?_
     refine Y Mv ?_
     refine Nq ?_
     refine Bk ?_
     refine Lp (fun n_ l_ H_ => ∃ (i : Nat) (b : Bool), n_ = x.parts.length - i ∧ l_ = [(1, ptr b1 0), (2, ptr b2 0), (4, ptr b4 0), (5, .bool b), (99, pv), (100, .int .i64 (x.parts.length : Int)), (101, .int .i64 (i : Int))] ∧ H_ = .cl b1 (repCells x pv) 92 :: .cl b2 (repCells Rep.zero (.slice none 0 0)) 92 :: .cl b4 (repCells (fieldsR x) pv) 92 :: .zm Z :: F ∧ (i ≤ x.parts.length) ∧ (b = (inB x.hour 0 x.known && inB x.parts.length 2 8 && partsOk x.parts i))) ⟨0, _, rfl, rfl, rfl, (by omega), (by simp [partsOk])⟩ ⟨rfl, rfl, rfl, rfl, rfl, rfl, rfl, trivial⟩ ?_
     rintro _ _ _ ⟨i, b, rfl, rfl, rfl, hi, hb⟩
     refine Sr ?_
     refine Y Lt ?_
     refine Nq ?_
     refine Sq ?_
     refine Cp (fun h33 => ?_) fun h33 => ?_
     ·
      refine Sk ?_
      refine Pq ?_
      refine Sq ?_
      refine Bk ?_
      refine Sr ?_
      refine Y Mv ?_
      refine IxF (fun x => [.int .i64 x]) (fun x104 b104 o104 hx104 hc104 => ?_)
      refine Y Ld ?_
      refine Y As ?_
      refine Y As ?_
      refine Nq ?_
      refine Rg ?_
      refine Y Mv ?_
      refine Y Mv ?_
      refine Ga 2 1 true 109 (fun h34 => by
       refine Yg h34 Mv ?_
       refine Gt h34 ?_
       refine Cv (hs := isParcel_sp) (h := ?_)
       exact Gg) ?_
      refine Y PkA ?_
      refine Y Mv ?_
      refine Ga 8 5 true 119 (fun h37 => by
       refine Yg h37 Fa ?_
       refine Yg h37 Ld ?_
       refine Yg h37 Mv ?_
       refine Yg h37 Mv ?_
       have hz := SlZ.to hp (i := i) 1 (by omega)
       refine Yg h37 (SlT (i := i)) ?_
       refine Yg h37 Mv ?_
       refine Gt h37 ?_
       refine Cv (hs := hasV_sp) (h := ?_)
       refine Yg h37 Nt ?_
       exact Gg) ?_
      refine Y PkA ?_
      refine Y As ?_
      refine Nl ?_
      refine Pb ?_
      refine Pq ?_
      refine Rg ?_
      refine Y Ad ?_
      refine Y Mv ?_
      refine Nl ?_
      refine Re ⟨(i + 1), _, rfl, rfl, rfl, (by omega), (by rw [partsOk_succ hx104, hb]; simp [Bool.and_assoc])⟩ (by omega) ⟨rfl, rfl, rfl, rfl, rfl, rfl, rfl, trivial⟩
     ·
      refine Ex ?_
      refine Xt ?_
      refine Xt ?_
      refine Xb ?_
      refine Pb ?_
      refine Cx ⟨_, pv, fieldsB_3 h28 hb hi (by assumption), (by rw [fieldsR_3 h28]; exact hp), rfl, rfl⟩ ⟨rfl, rfl, rfl, trivial⟩
    ·
     refine Sr ?_
     refine Y Eq_ ?_
     refine Y As ?_
     refine Nq ?_
     refine Cp (fun h41 => ?_) fun h41 => ?_
     ·
      refine Drq (fun i => false) [.cl b1 (repCells x pv) 92] (by repeat (first | exact SubH.refl | exact SubH.nil | refine SubH.cons (by repeat (first | exact Pick.head | apply Pick.tail)) ?_ | refine SubH.skip ?_)) ?_
      refine Tk 0 [] rfl Fa ?_
      refine Tk 1 [] rfl Ld ?_
      refine Tk 2 [] rfl Fa ?_
      refine Tk 3 [] rfl LdN ?_
      refine Tk 4 [] rfl Fa ?_
      refine Gxn 5 rfl St ?_
      rintro _ _ rfl
      refine ⟨fun _ => (by repeat (first | exact SubH.refl | exact SubH.nil | refine SubH.cons (by repeat (first | exact Pick.head | apply Pick.tail)) ?_ | refine SubH.skip ?_)), ?_⟩
      refine Tk 6 [] rfl Fa ?_
      refine Gxn 7 rfl St ?_
      rintro _ _ rfl
      refine ⟨fun _ => (by repeat (first | exact SubH.refl | exact SubH.nil | refine SubH.cons (by repeat (first | exact Pick.head | apply Pick.tail)) ?_ | refine SubH.skip ?_)), ?_⟩
      refine Anq ?_
      refine Rg ?_
      refine Nm b4 (repCells (fieldsR x) (.slice none 0 0)) ?_ (hc := by rw [fieldsR_4 h41] <;> rfl)
      refine Y Mv ?_
      refine Y Mv ?_
      refine Ga 3 1 true 134 (fun h42 => by
       refine Yg h42 Fa ?_
       refine Yg h42 Ld ?_
       refine Gt h42 ?_
       refine Cv (hs := isParcel_sp) (h := ?_)
       exact Gg) ?_
      refine Y PkA ?_
      refine Y Mv ?_
      refine Ga 3 6 true 139 (fun h45 => by
       refine Yg h45 Fa ?_
       refine Yg h45 LdN ?_
       refine Gt h45 ?_
       refine Cv (hs := isSpan_sp) (h := ?_)
       exact Gg) ?_
      refine Y PkA ?_
      refine Y As ?_
      refine Nl ?_
      refine Pb ?_
      refine Cx ⟨_, .slice none 0 0, (fieldsB_4 h41).symm, (by rw [fieldsR_4 h41]; exact SlZ.nil _ _), rfl, rfl⟩ ⟨rfl, rfl, rfl, trivial⟩
     ·
      refine Sq ?_
      refine Sr ?_
      refine Y Eq_ ?_
      refine Y As ?_
      refine Nq ?_
      refine Cp (fun h49 => ?_) fun h49 => ?_
      ·
       refine Sk ?_
       refine Pq ?_
       refine CtT (decide_eq_true h49) ?_
       refine Drq (fun i => false) [.cl b1 (repCells x pv) 92] (by repeat (first | exact SubH.refl | exact SubH.nil | refine SubH.cons (by repeat (first | exact Pick.head | apply Pick.tail)) ?_ | refine SubH.skip ?_)) ?_
       refine Tk 0 [] rfl Fa ?_
       refine Tk 1 [] rfl Ld ?_
       refine Tk 2 [] rfl Fa ?_
       refine Tk 3 [] rfl Ld ?_
       refine Tk 4 [] rfl Fa ?_
       refine Gxn 5 rfl St ?_
       rintro _ _ rfl
       refine ⟨fun _ => (by repeat (first | exact SubH.refl | exact SubH.nil | refine SubH.cons (by repeat (first | exact Pick.head | apply Pick.tail)) ?_ | refine SubH.skip ?_)), ?_⟩
       refine Tk 6 [] rfl Fa ?_
       refine Gxn 7 rfl St ?_
       rintro _ _ rfl
       refine ⟨fun _ => (by repeat (first | exact SubH.refl | exact SubH.nil | refine SubH.cons (by repeat (first | exact Pick.head | apply Pick.tail)) ?_ | refine SubH.skip ?_)), ?_⟩
       refine Anq ?_
       refine Rg ?_
       refine Nm b4 (repCells (fieldsR x) (.slice none 0 0)) ?_ (hc := by rw [fieldsR_5 h49] <;> rfl)
       refine Y Mv ?_
       refine Y Mv ?_
       refine Ga 3 1 true 154 (fun h50 => by
        refine Yg h50 Fa ?_
        refine Yg h50 Ld ?_
        refine Gt h50 ?_
        refine Cv (hs := isParcel_sp) (h := ?_)
        exact Gg) ?_
       refine Y PkA ?_
       refine Y Mv ?_
       refine Ga 3 6 true 159 (fun h53 => by
        refine Yg h53 Fa ?_
        refine Yg h53 Ld ?_
        refine Gt h53 ?_
        refine Cv (hs := in_sp) (h := ?_)
        exact Gg) ?_
       refine Y PkA ?_
       refine Y As ?_
       refine Nl ?_
       refine Pb ?_
       refine Cx ⟨_, .slice none 0 0, (fieldsB_5 h49).symm, (by rw [fieldsR_5 h49]; exact SlZ.nil _ _), rfl, rfl⟩ ⟨rfl, rfl, rfl, trivial⟩
      ·
       refine Rg ?_
       refine Y Eq_ ?_
       refine Y As ?_
       refine Nl ?_
       refine Pq ?_
       refine Cp (fun h57 => ?_) fun h57 => ?_
       ·
        refine Drq (fun i => false) [.cl b1 (repCells x pv) 92] (by repeat (first | exact SubH.refl | exact SubH.nil | refine SubH.cons (by repeat (first | exact Pick.head | apply Pick.tail)) ?_ | refine SubH.skip ?_)) ?_
        refine Tk 0 [] rfl Fa ?_
        refine Tk 1 [] rfl Ld ?_
        refine Tk 2 [] rfl Fa ?_
        refine Tk 3 [] rfl Ld ?_
        refine Tk 4 [] rfl Fa ?_
        refine Gxn 5 rfl St ?_
        rintro _ _ rfl
        refine ⟨fun _ => (by repeat (first | exact SubH.refl | exact SubH.nil | refine SubH.cons (by repeat (first | exact Pick.head | apply Pick.tail)) ?_ | refine SubH.skip ?_)), ?_⟩
        refine Tk 6 [] rfl Fa ?_
        refine Gxn 7 rfl St ?_
        rintro _ _ rfl
        refine ⟨fun _ => (by repeat (first | exact SubH.refl | exact SubH.nil | refine SubH.cons (by repeat (first | exact Pick.head | apply Pick.tail)) ?_ | refine SubH.skip ?_)), ?_⟩
        refine Anq ?_
        refine Rg ?_
        refine Nm b4 (repCells (fieldsR x) (.slice none 0 0)) ?_ (hc := by rw [fieldsR_6 h57] <;> rfl)
        refine Y Mv ?_
        refine Y Mv ?_
        refine Ga 3 1 true 154 (fun h58 => by
         refine Yg h58 Fa ?_
         refine Yg h58 Ld ?_
         refine Gt h58 ?_
         refine Cv (hs := isParcel_sp) (h := ?_)
         exact Gg) ?_
        refine Y PkA ?_
        refine Y Mv ?_
        refine Ga 3 6 true 159 (fun h61 => by
         refine Yg h61 Fa ?_
         refine Yg h61 Ld ?_
         refine Gt h61 ?_
         refine Cv (hs := in_sp) (h := ?_)
         exact Gg) ?_
        refine Y PkA ?_
        refine Y As ?_
        refine Nl ?_
        refine Pb ?_
        refine Cx ⟨_, .slice none 0 0, (fieldsB_6 h57).symm, (by rw [fieldsR_6 h57]; exact SlZ.nil _ _), rfl, rfl⟩ ⟨rfl, rfl, rfl, trivial⟩
       ·
        refine Sr ?_
        refine Y Eq_ ?_
        refine Y As ?_
        refine Nq ?_
        refine Cp (fun h65 => ?_) fun h65 => ?_
        ·
         refine Drq (fun i => false) [.cl b1 (repCells x pv) 92] (by repeat (first | exact SubH.refl | exact SubH.nil | refine SubH.cons (by repeat (first | exact Pick.head | apply Pick.tail)) ?_ | refine SubH.skip ?_)) ?_
         refine Tk 0 [] rfl Fa ?_
         refine Tk 1 [] rfl Ld ?_
         refine Tk 2 [] rfl Fa ?_
         refine Tk 3 [] rfl Ld ?_
         refine Tk 4 [] rfl Fa ?_
         refine Gxn 5 rfl St ?_
         rintro _ _ rfl
         refine ⟨fun _ => (by repeat (first | exact SubH.refl | exact SubH.nil | refine SubH.cons (by repeat (first | exact Pick.head | apply Pick.tail)) ?_ | refine SubH.skip ?_)), ?_⟩
         refine Tk 6 [] rfl Fa ?_
         refine Gxn 7 rfl St ?_
         rintro _ _ rfl
         refine ⟨fun _ => (by repeat (first | exact SubH.refl | exact SubH.nil | refine SubH.cons (by repeat (first | exact Pick.head | apply Pick.tail)) ?_ | refine SubH.skip ?_)), ?_⟩
         refine Anq ?_
         refine Rg ?_
         refine Nm b4 (repCells (fieldsR x) (.slice none 0 0)) ?_ (hc := by rw [fieldsR_7 h65] <;> rfl)
         refine Y Mv ?_
         refine Y Mv ?_
         refine Ga 3 1 true 173 (fun h66 => by
          refine Yg h66 Fa ?_
          refine Yg h66 Ld ?_
          refine Gt h66 ?_
          refine Cv (hs := isParcel_sp) (h := ?_)
          exact Gg) ?_
         refine Y PkA ?_
         refine Y Mv ?_
         refine Ga 3 6 true 178 (fun h69 => by
          refine Yg h69 Fa ?_
          refine Yg h69 Ld ?_
          refine Gt h69 ?_
          refine Cv (hs := isParcel_sp) (h := ?_)
          exact Gg) ?_
         refine Y PkA ?_
         refine Y Mv ?_
         refine Ga 5 11 true 185 (fun h72 => by
          refine Yg h72 Fa ?_
          refine Yg h72 Ld ?_
          refine Yg h72 Fa ?_
          refine Yg h72 Ld ?_
          refine Yg h72 Ne_ ?_
          exact Gg) ?_
         refine Y PkA ?_
         refine Y As ?_
         refine Nl ?_
         refine Pb ?_
         refine Cx ⟨_, .slice none 0 0, (fieldsB_7 h65).symm, (by rw [fieldsR_7 h65]; exact SlZ.nil _ _), rfl, rfl⟩ ⟨rfl, rfl, rfl, trivial⟩
        ·
         refine Sr ?_
         refine Y Eq_ ?_
         refine Y As ?_
         refine Nq ?_
         refine Cp (fun h76 => ?_) fun h76 => ?_
         ·
          refine Sr ?_
          refine Y Fa ?_
          refine Y Ld ?_
          refine Y Fa ?_
          refine Dst ?_
          refine Nq ?_
          refine Rg ?_
          refine Nm b4 (repCells (fieldsR x) (.slice none 0 0)) ?_ (hc := by rw [fieldsR_8 h76] <;> rfl)
          refine Y Fa ?_
          refine Y Ld ?_
          refine Y Eq_ ?_
          refine Y Mv ?_
          refine Ga 3 3 true 198 (fun h78 => by
           refine Yg h78 Fa ?_
           refine Yg h78 Ld ?_
           refine Gt h78 ?_
           refine Cv (hs := in_sp) (h := ?_)
           exact Gg) ?_
          refine Y PkA ?_
          refine Y Mv ?_
          refine Ga 5 8 true 205 (fun h81 => by
           refine Yg h81 Fa ?_
           refine Yg h81 Ld ?_
           refine Yg h81 Fa ?_
           refine Yg h81 Ld ?_
           refine Yg h81 Ne_ ?_
           exact Gg) ?_
          refine Y PkA ?_
          refine Y As ?_
          refine Nl ?_
          refine Pb ?_
          refine Cx ⟨_, .slice none 0 0, (fieldsB_8 h76).symm, (by rw [fieldsR_8 h76]; exact SlZ.nil _ _), rfl, rfl⟩ ⟨rfl, rfl, rfl, trivial⟩
         ·
          refine Rg ?_
          refine Nm b4 (repCells (fieldsR x) (.slice none 0 0)) ?_ (hc := by rw [fieldsR_0 h3 h20 h28 h41 h49 h57 h65 h76] <;> rfl)
          refine Y As ?_
          refine Nl ?_
          refine Pb ?_
          refine Cx ⟨_, .slice none 0 0, (fieldsB_0 h3 h20 h28 h41 h49 h57 h65 h76).symm, (by rw [fieldsR_0 h3 h20 h28 h41 h49 h57 h65 h76]; exact SlZ.nil _ _), rfl, rfl⟩ ⟨rfl, rfl, rfl, trivial⟩
 ·
  rintro _ _ ⟨_, pv', rfl, hp', rfl, rfl⟩
  refine Sr ?_
  refine Y LdN ?_
  refine Y Mv ?_
  refine Dst ?_
  refine Y As ?_
  refine Nq ?_
  refine Rt ?_
  refine RvC (xs := [.cell 2 92, .tmp 3]) [] (ResH.cell (ResH.tmp ResH.nil)) ?_
  exact ⟨pv', hp', rfl, rfl⟩

set_option maxRecDepth 100000 in
set_option maxHeartbeats 4000000 in
theorem equal_sp {Z Z2 : Hp} {x y : Rep} {pv qv : Value} (hp : SlZ (EI .i64) Z pv x.parts := by assumption) (hq : SlZ (EI .i64) Z2 qv y.parts := by assumption) : SpV Tryz.prog 258 [repV x pv, repV y qv] [.zm Z, .zm Z2] (.bool (equalB x y)) := by
 refine Sp.of 103 Tryz.func258 rfl rfl rfl ?_
 intro F
 refine Sr ?_
 refine Dbx (fun b2 => ?_)
 refine Dbx (fun b3 => ?_)
 refine Y As ?_
 refine Nq ?_
 refine Sr ?_
 refine Y Fa ?_
 refine Y Ld ?_
 refine Y Fa ?_
 refine Y Ld ?_
 refine Cv (hs := equalV_sp) (h := ?_)
 refine Y As ?_
 refine Nq ?_
 refine Sr ?_
 refine Y Mv ?_
 refine Y Mv ?_
 refine Ga 5 1 true 17 (fun h2 => by
  refine Yg h2 Fa ?_
  refine Yg h2 Ld ?_
  refine Yg h2 Fa ?_
  refine Yg h2 Ld ?_
  refine Yg h2 Eq_ ?_
  exact Gg) ?_
 refine Y PkA ?_
 refine Y Mv ?_
 refine Ga 5 8 true 24 (fun h5 => by
  refine Yg h5 Fa ?_
  refine Yg h5 Ld ?_
  refine Yg h5 Fa ?_
  refine Yg h5 Ld ?_
  refine Yg h5 Eq_ ?_
  exact Gg) ?_
 refine Y PkA ?_
 refine Y Mv ?_
 refine Ga 5 15 true 31 (fun h8 => by
  refine Yg h8 Fa ?_
  refine Yg h8 Ld ?_
  refine Yg h8 Fa ?_
  refine Yg h8 Ld ?_
  refine Yg h8 Eq_ ?_
  exact Gg) ?_
 refine Y PkA ?_
 refine Y Mv ?_
 refine Ga 5 22 true 38 (fun h11 => by
  refine Yg h11 Fa ?_
  refine Yg h11 Ld ?_
  refine Yg h11 Fa ?_
  refine Yg h11 Ld ?_
  refine Yg h11 Eq_ ?_
  exact Gg) ?_
 refine Y PkA ?_
 refine Y Mv ?_
 refine Ga 5 29 true 45 (fun h14 => by
  refine Yg h14 Fa ?_
  refine Yg h14 Ld ?_
  refine Yg h14 Fa ?_
  refine Yg h14 Ld ?_
  refine Yg h14 Eq_ ?_
  exact Gg) ?_
 refine Y PkA ?_
 refine Y Mv ?_
 refine Ga 5 36 true 52 (fun h17 => by
  refine Yg h17 Fa ?_
  refine Yg h17 Ld ?_
  refine Yg h17 Fa ?_
  refine Yg h17 Ld ?_
  refine Yg h17 Eq_ ?_
  exact Gg) ?_
 refine Y PkA ?_
 refine Y Mv ?_
 refine Ga 5 43 true 59 (fun h20 => by
  refine Yg h20 Fa ?_
  refine Yg h20 Ld ?_
  refine Yg h20 Fa ?_
  refine Yg h20 Ld ?_
  refine Yg h20 Eq_ ?_
  exact Gg) ?_
 refine Y PkA ?_
 refine Y Mv ?_
 refine Ga 5 50 true 66 (fun h23 => by
  refine Yg h23 Fa ?_
  refine Yg h23 Ld ?_
  refine Yg h23 Fa ?_
  refine Yg h23 Ld ?_
  refine Yg h23 EqS ?_
  exact Gg) ?_
 refine Y PkA ?_
 refine Y Mv ?_
 refine Ga 5 57 true 73 (fun h26 => by
  refine Yg h26 Fa ?_
  refine Yg h26 Ld ?_
  refine Yg h26 Fa ?_
  refine Yg h26 Ld ?_
  refine Yg h26 EqS ?_
  exact Gg) ?_
 refine Y PkA ?_
 refine Y Mv ?_
 refine Ga 5 64 true 80 (fun h29 => by
  refine Yg h29 Fa ?_
  refine Yg h29 LdN ?_
  refine Yg h29 Fa ?_
  refine Yg h29 LdN ?_
  refine Yg h29 EqSp ?_
  exact Gg) ?_
 refine Y PkA ?_
 refine Y Mv ?_
 refine Ga 5 71 true 87 (fun h32 => by
  refine Yg h32 Fa ?_
  refine Yg h32 Ld ?_
  refine Yg h32 Fa ?_
  refine Yg h32 Ld ?_
  refine Yg h32 Eq_ ?_
  exact Gg) ?_
 refine Y PkA ?_
 refine Y Mv ?_
 refine Ga 5 78 true 94 (fun h35 => by
  refine Yg h35 Fa ?_
  refine Yg h35 Ld ?_
  refine Yg h35 Fa ?_
  refine Yg h35 Ld ?_
  refine Yg h35 Eq_ ?_
  exact Gg) ?_
 refine Y PkA ?_
 refine Y Mv ?_
 refine Ga 5 85 true 101 (fun h38 => by
  refine Yg h38 Fa ?_
  refine Yg h38 Ld ?_
  refine Yg h38 Fa ?_
  refine Yg h38 Ld ?_
  refine Yg h38 Eq_ ?_
  exact Gg) ?_
 refine Y PkA ?_
 refine Y As ?_
 refine Nq ?_
 refine Rt ?_
 refine Rv [] ?_
 exact ⟨congrArg Value.bool (by simp [equalB, Bool.and_assoc]), rfl⟩

set_option maxRecDepth 100000 in
set_option maxHeartbeats 4000000 in
theorem report_sp {Z : Hp} {x : Rep} {pv : Value} (hp : SlZ (EI .i64) Z pv x.parts := by assumption) : SpV Tryz.prog 202 [repV x pv] [.zm Z] (.int .i64 (repE x)) := by
 refine Sp.of 30 Tryz.func202 rfl rfl rfl ?_
 intro F
 refine Sr ?_
 refine Dbx (fun b1 => ?_)
 refine Y As ?_
 refine Nq ?_
 refine Sr ?_
 refine Y LdN ?_
 refine D (Cf (hs := fields_sp)) ?_
 rintro _ _ ⟨_, ⟨pv7, hp7, rfl, rfl⟩, rfl⟩
 refine Y Mv ?_
 refine Y Xc ?_
 refine Y Xc ?_
 refine Dal fun b3 => ?_
 refine Dsw ?_
 refine Y As ?_
 refine Nq ?_
 refine Sq ?_
 refine Sr ?_
 refine Y Mv ?_
 refine Y Nt ?_
 refine Y Mv ?_
 refine Ga 4 2 false 16 (fun h1 => by
  refine Yg h1 LdN ?_
  refine Yg h1 LdN ?_
  refine Gt h1 ?_
  refine Cv (hs := equal_sp) (h := ?_)
  refine Yg h1 Nt ?_
  exact Gg) ?_
 refine Y PkO ?_
 refine Y Mv ?_
 refine Ga 4 8 false 22 (fun h4 => by
  refine Yg h4 Fa ?_
  refine Yg h4 Ld ?_
  refine Gt h4 ?_
  refine Cv (hs := in_sp) (h := ?_)
  refine Yg h4 Nt ?_
  exact Gg) ?_
 refine Y PkO ?_
 refine Y Mv ?_
 refine Ga 4 14 false 28 (fun h7 => by
  refine Yg h7 Fa ?_
  refine Yg h7 Ld ?_
  refine Gt h7 ?_
  refine Cv (hs := in_sp) (h := ?_)
  refine Yg h7 Nt ?_
  exact Gg) ?_
 refine Y PkO ?_
 refine Nq ?_
 refine Ct (fun h10 => ?_) fun h10 => ?_
 ·
  refine Sr ?_
  refine Y As ?_
  refine Nq ?_
  refine Rt ?_
  refine Rh ?_
  refine Rv [] ?_
  exact ⟨congrArg (Value.int .i64) (repE_t h10), rfl⟩
 ·
  refine Sk ?_
  refine Pq ?_
  refine Sr ?_
  refine Y As ?_
  refine Nq ?_
  refine Rt ?_
  refine Rv [] ?_
  exact ⟨congrArg (Value.int .i64) (repE_f h10), rfl⟩

end Go.Lag

namespace Go.Lag
open Go Go.RowKit Go.Proofs
set_option maxRecDepth 100000 in
set_option maxHeartbeats 4000000 in
theorem counting_sp {Z : Hp} {l : List Rep} {lv : Value} (hl : SlZ (EZ Z) Z lv l := by assumption) {known : Int} (hn : l.length ≤ 1000 := by assumption) : Sp Tryz.prog 130 [lv, .int .i64 known] [.zm Z] fun v H' => ∃ Z', ZLe Z Z' ∧ SlZ (EZ Z') Z' v (countL l known) ∧ H' = [.zm Z'] := by
 refine Sp.of 59 Tryz.func130 rfl rfl rfl ?_
 intro F
 refine Sr ?_
 refine Y As ?_
 refine Nq ?_
 refine Sr ?_
 refine D (Mm (EB)) ?_
 rintro _ _ ⟨m11, rfl, rfl⟩
 refine Y As ?_
 refine Nq ?_
 refine Sq ?_
 refine Sr ?_
 refine Y Mv ?_
 refine Y Ln ?_
 refine Y Mv ?_
 refine Nq ?_
 refine Bk ?_
 refine Lp (fun n_ l_ H_ => ∃ (i : Nat) (mm : List (Int × Bool)), n_ = l.length - i ∧ l_ = [(0, lv), (1, .int .i64 known), (5, .map (some m11)), (12, lv), (13, .int .i64 (l.length : Int)), (14, .int .i64 (i : Int))] ∧ H_ = .mp EB m11 mm :: .zm Z :: F ∧ (i ≤ l.length) ∧ (∀ k, (aget mm k).getD false = voidB (l.take i) known k)) ⟨0, [], rfl, rfl, rfl, (by omega), (by simp [aget_nil, voidB])⟩ ⟨rfl, rfl, rfl, rfl, rfl, rfl, trivial⟩ ?_
 rintro _ _ _ ⟨i, mm, rfl, rfl, rfl, hi, hv⟩
 refine Sr ?_
 refine Y Lt ?_
 refine Nq ?_
 refine Sq ?_
 refine Cp (fun h2 => ?_) fun h2 => ?_
 ·
  refine Sk ?_
  refine Pq ?_
  refine Sq ?_
  refine Bk ?_
  refine Sr ?_
  refine IxR fun x16 b16 o16 pv16 hx16 hp16 hc16 => ?_
  refine Y LdN ?_
  refine Dal fun b7 => ?_
  refine Dsw ?_
  refine Nq ?_
  refine Sr ?_
  refine Y Fa ?_
  refine Y Ld ?_
  refine Y Eq_ ?_
  refine Y Mv ?_
  refine Ga 4 3 true 25 (fun h4 => by
   refine Yg h4 Fa ?_
   refine Yg h4 Ld ?_
   refine Yg h4 Mv ?_
   refine Yg h4 Le ?_
   exact Gg) ?_
  refine Y PkA ?_
  refine Nq ?_
  refine Ct (fun h7 => ?_) fun h7 => ?_
  ·
   refine Rg ?_
   refine Y Mv ?_
   refine Y Fa ?_
   refine Y Ld ?_
   refine Dn (Mu _) ?_
   rintro _ _ rfl
   refine Nl ?_
   refine Pb ?_
   refine Pq ?_
   refine Rg ?_
   refine Y Ad ?_
   refine Y Mv ?_
   refine Nl ?_
   refine Re ⟨(i + 1), (aset mm x16.of true), rfl, rfl, rfl, (by omega), (void_T hx16 hv h7)⟩ (by omega) ⟨rfl, rfl, rfl, rfl, rfl, rfl, trivial⟩
  ·
   refine Sk ?_
   refine Pb ?_
   refine Pq ?_
   refine Rg ?_
   refine Y Ad ?_
   refine Y Mv ?_
   refine Nl ?_
   refine Re ⟨(i + 1), mm, rfl, rfl, rfl, (by omega), (void_f hx16 hv h7)⟩ (by omega) ⟨rfl, rfl, rfl, rfl, rfl, rfl, trivial⟩
 ·
  refine Ex ?_
  refine Xt ?_
  refine Xt ?_
  refine Xb ?_
  refine Pq ?_
  refine Sr ?_
  refine Y As ?_
  refine Nq ?_
  refine Sq ?_
  refine Sr ?_
  refine Y Mv ?_
  refine Y Ln ?_
  refine Y Mv ?_
  refine Nq ?_
  refine Bk ?_
  rw [take_all (by assumption)] at hv
  refine NilRwW (EZ Z) 92 ?_
  refine Lp (fun n_ l_ H_ => ∃ (i : Nat) (vo : Value) (ys : List Rep), n_ = l.length - i ∧ l_ = [(1, .int .i64 known), (5, .map (some m11)), (8, vo), (31, lv), (32, .int .i64 (l.length : Int)), (33, .int .i64 (i : Int))] ∧ H_ = .mp EB m11 mm :: .rw (EZ Z) 92 vo ys :: .zm Z :: F ∧ (i ≤ l.length) ∧ (ys = (l.take i).filter (cntB l known)) ∧ (ys.length ≤ i)) ⟨0, (.slice none 0 0), [], rfl, rfl, rfl, (by omega), (by simp), (by simp)⟩ ⟨rfl, rfl, rfl, rfl, rfl, rfl, trivial⟩ ?_
  rintro _ _ _ ⟨i, vo, ys, rfl, rfl, rfl, hi, hys, hyl⟩
  refine Sr ?_
  refine Y Lt ?_
  refine Nq ?_
  refine Sq ?_
  refine Cp (fun h9 => ?_) fun h9 => ?_
  ·
   refine Sk ?_
   refine Pq ?_
   refine Sq ?_
   refine Bk ?_
   refine Sr ?_
   refine IxR fun x35 b35 o35 pv35 hx35 hp35 hc35 => ?_
   refine Y LdN ?_
   refine Dal fun b10 => ?_
   refine Dsw ?_
   refine Nq ?_
   refine Sr ?_
   refine Y Fa ?_
   refine Y Ld ?_
   refine Y Ne_ ?_
   refine Y Mv ?_
   refine Ga 4 3 true 44 (fun h11 => by
    refine Yg h11 Fa ?_
    refine Yg h11 Ld ?_
    refine Yg h11 Mv ?_
    refine Yg h11 Le ?_
    exact Gg) ?_
   refine Y PkA ?_
   refine Y Mv ?_
   refine Ga 5 9 true 51 (fun h14 => by
    refine Yg h14 Mv ?_
    refine Yg h14 Fa ?_
    refine Yg h14 Ld ?_
    refine Yg h14 LkB ?_
    refine Yg h14 Nt ?_
    exact Gg) ?_
   refine Y PkA ?_
   refine Nq ?_
   refine Ct (fun h17 => ?_) fun h17 => ?_
   ·
    refine Rg ?_
    refine Y Mv ?_
    refine Y LdN ?_
    refine D Bs ?_
    rintro _ _ ⟨b55, rfl, rfl⟩
    refine D (Ap1 x35 (ha := by exact ⟨_, rfl, by assumption⟩)) ?_
    rintro v56 _ rfl
    refine Y As ?_
    refine Nl ?_
    refine Pb ?_
    refine Pq ?_
    refine Rg ?_
    refine Y Ad ?_
    refine Y Mv ?_
    refine Nl ?_
    refine Re ⟨(i + 1), v56, (ys ++ [x35]), rfl, rfl, rfl, (by omega), (filter_take_t hx35 hys (by simp only [cntB, ← hv]; exact h17)), (by first | omega | (simp; omega))⟩ (by omega) ⟨rfl, rfl, rfl, rfl, rfl, rfl, trivial⟩
   ·
    refine Sk ?_
    refine Pb ?_
    refine Pq ?_
    refine Rg ?_
    refine Y Ad ?_
    refine Y Mv ?_
    refine Nl ?_
    refine Re ⟨(i + 1), vo, ys, rfl, rfl, rfl, (by omega), (filter_take_f hx35 hys (by simp only [cntB, ← hv]; exact h17)), (by first | omega | (simp; omega))⟩ (by omega) ⟨rfl, rfl, rfl, rfl, rfl, rfl, trivial⟩
  ·
   refine Ex ?_
   refine Xt ?_
   refine Xt ?_
   refine Xb ?_
   refine Pq ?_
   refine Sr ?_
   refine Y Mv ?_
   refine Y As ?_
   refine Nq ?_
   refine Rt ?_
   refine FzRP fun Z' hz hz' => ?_
   refine Rv [.zm Z'] ?_
   exact ⟨Z', hz, by rw [show countL l known = ys from (filter_take_end hys (by assumption)).symm]; exact hz', rfl⟩

end Go.Lag

namespace Go.Lag
open Go Go.RowKit Go.Proofs
set_option maxRecDepth 100000 in
set_option maxHeartbeats 4000000 in
theorem stored_sp {Z : Hp} {l : List Rep} {lv : Value} (hl : SlZ (EZ Z) Z lv l := by assumption) (hsm : ∀ x ∈ l, Small x) (hpl : ∀ x ∈ l, x.parts.length ≤ 1000) : Sp Tryz.prog 135 [lv] [.zm Z] fun v H' => ∃ Z' s lv' mb ub hb, ZLe Z Z' ∧ StoZ Z' s l lv' mb ub hb ∧ v = ptr s 0 ∧ H' = [.zm Z'] := by
 refine Sp.of 70 Tryz.func135 rfl rfl rfl ?_
 intro F
 have hlen := hl.len_le
 obtain ⟨A, cp, rfl⟩ := hl.form
 refine Sr ?_
 refine Y As ?_
 refine Nq ?_
 refine Sr ?_
 refine Y Mv ?_
 refine D (Mm (RZ Z)) ?_
 rintro _ _ ⟨m11, rfl, rfl⟩
 refine D (Mm (RZ Z)) ?_
 rintro _ _ ⟨m12, rfl, rfl⟩
 refine D (Mm (EB)) ?_
 rintro _ _ ⟨m13, rfl, rfl⟩
 refine Y Bd ?_
 refine Dbx (fun b15 => ?_)
 refine Nm b15 [.slice A l.length cp, .map (some m11), .map (some m12), .map (some m13)] ?_
 refine Y As ?_
 refine Nq ?_
 refine Sq ?_
 refine Sr ?_
 refine Y Mv ?_
 refine Y Ln ?_
 refine Y Mv ?_
 refine Nq ?_
 refine Bk ?_
 refine Lp (fun n_ l_ H_ => ∃ (i : Nat), n_ = l.length - i ∧ l_ = [(3, ptr b15 0), (16, .slice A l.length cp), (17, .int .i64 (l.length : Int)), (18, .int .i64 (i : Int))] ∧ H_ = .cl b15 [.slice A l.length cp, .map (some m11), .map (some m12), .map (some m13)] 139 :: .mp (RZ Z) m11 (makerM (l.take i)) :: .mp (RZ Z) m12 (userM (l.take i)) :: .mp EB m13 (hidM (l.take i)) :: .zm Z :: F ∧ (i ≤ l.length)) ⟨0, rfl, rfl, rfl, (by omega)⟩ ⟨rfl, rfl, rfl, rfl, trivial⟩ ?_
 rintro _ _ _ ⟨i, rfl, rfl, rfl, hi⟩
 refine Sr ?_
 refine Y Lt ?_
 refine Nq ?_
 refine Sq ?_
 refine Cp (fun h2 => ?_) fun h2 => ?_
 ·
  refine Sk ?_
  refine Pq ?_
  refine Sq ?_
  refine Bk ?_
  refine Sr ?_
  refine IxR fun x20 b20 o20 pv20 hx20 hp20 hc20 => ?_
  refine Y LdN ?_
  refine Dal fun b5 => ?_
  refine Dsw ?_
  refine Nq ?_
  refine Sq ?_
  refine Sr ?_
  refine Y LdN ?_
  have hs20 := hsm x20 (mem_get hx20)
  have hn20 := hpl x20 (mem_get hx20)
  have hml := makesL_len x20 hs20
  have hul := usesL_len x20 hn20
  refine D (Cf (hs := makes_sp (hs := by assumption))) ?_
  rintro v23 _ ⟨_, rfl, rfl⟩
  refine Fz fun Z23 hz23 => ?_
  refine Y Ln ?_
  refine Y Mv ?_
  refine Nq ?_
  refine Bk ?_
  refine Lp (fun n_ l_ H_ => ∃ (j : Nat), n_ = (makesL x20).length - j ∧ l_ = [(3, ptr b15 0), (16, .slice A l.length cp), (17, .int .i64 (l.length : Int)), (18, .int .i64 (i : Int)), (5, ptr b5 0), (23, v23), (24, .int .i64 ((makesL x20).length : Int)), (25, .int .i64 (j : Int))] ∧ H_ = .cl b15 [.slice A l.length cp, .map (some m11), .map (some m12), .map (some m13)] 139 :: .mp (RZ Z) m11 (putAll (makerM (l.take i)) ((makesL x20).take j) x20) :: .mp (RZ Z) m12 (userM (l.take i)) :: .mp EB m13 (hidM (l.take i)) :: .zm Z23 :: .cl b5 (repCells x20 pv20) 92 :: .zm Z :: F ∧ (j ≤ (makesL x20).length)) ⟨0, rfl, rfl, rfl, (by omega)⟩ ⟨rfl, rfl, rfl, rfl, rfl, rfl, rfl, rfl, trivial⟩ ?_
  rintro _ _ _ ⟨j, rfl, rfl, rfl, hj⟩
  refine Sr ?_
  refine Y Lt ?_
  refine Nq ?_
  refine Sq ?_
  refine Cp (fun h4 => ?_) fun h4 => ?_
  ·
   refine Sk ?_
   refine Pq ?_
   refine Sq ?_
   refine Bk ?_
   refine Sr ?_
   refine IxF (fun x => [.int .i64 x]) (fun x27 b27 o27 hx27 hc27 => ?_)
   refine Y Ld ?_
   refine Y As ?_
   refine Nq ?_
   refine Dr (fun i => Nat.beq i 6) _ SubH.refl ?_
   refine Tk 0 [1, 2, 3, 6] rfl Mv ?_
   refine Tk 1 [2, 3, 6] rfl Nc ?_
   refine Tk 2 [3, 6] rfl Fa ?_
   refine Tk 3 [6] rfl Ld ?_
   refine Tk 4 [6] rfl Mv ?_
   refine Tk 5 [6] rfl LdN ?_
   refine Gxn 6 rfl (Mu x20 (hv := by exact ⟨_, rfl, by assumption⟩)) ?_
   rintro _ _ rfl
   refine ⟨fun h_ => absurd h_ (by decide), ?_⟩
   refine An ?_
   refine Pb ?_
   refine Pq ?_
   refine Rg ?_
   refine Y Ad ?_
   refine Y Mv ?_
   refine Nl ?_
   rw [putAll_succ hx27]
   refine Re ⟨(j + 1), rfl, rfl, rfl, (by omega)⟩ (by omega) ⟨rfl, rfl, rfl, rfl, rfl, rfl, rfl, rfl, trivial⟩
  ·
   refine Ex ?_
   refine Xt ?_
   refine Xt ?_
   refine Xb ?_
   refine Pq ?_
   refine Sq ?_
   refine Sr ?_
   refine Y LdN ?_
   refine D (Cf (hs := uses_sp)) ?_
   rintro v37 _ ⟨_, ⟨Z37, hz37, rfl⟩, rfl⟩
   refine Y Ln ?_
   refine Y Mv ?_
   refine Nq ?_
   refine Bk ?_
   rw [putAll_end (ks := makesL x20) (by assumption)]
   refine Lp (fun n_ l_ H_ => ∃ (j : Nat), n_ = (usesL x20).length - j ∧ l_ = [(3, ptr b15 0), (16, .slice A l.length cp), (17, .int .i64 (l.length : Int)), (18, .int .i64 (i : Int)), (5, ptr b5 0), (37, v37), (38, .int .i64 ((usesL x20).length : Int)), (39, .int .i64 (j : Int))] ∧ H_ = .cl b15 [.slice A l.length cp, .map (some m11), .map (some m12), .map (some m13)] 139 :: .mp (RZ Z) m11 (putAll (makerM (l.take i)) (makesL x20) x20) :: .mp (RZ Z) m12 (putAll (userM (l.take i)) ((usesL x20).take j) x20) :: .mp EB m13 (hidM (l.take i)) :: .zm Z37 :: .cl b5 (repCells x20 pv20) 92 :: .zm Z :: F ∧ (j ≤ (usesL x20).length)) ⟨0, rfl, rfl, rfl, (by omega)⟩ ⟨rfl, rfl, rfl, rfl, rfl, rfl, rfl, rfl, trivial⟩ ?_
   rintro _ _ _ ⟨j, rfl, rfl, rfl, hj⟩
   refine Sr ?_
   refine Y Lt ?_
   refine Nq ?_
   refine Sq ?_
   refine Cp (fun h6 => ?_) fun h6 => ?_
   ·
    refine Sk ?_
    refine Pq ?_
    refine Sq ?_
    refine Bk ?_
    refine Sr ?_
    refine IxF (fun x => [.int .i64 x]) (fun x41 b41 o41 hx41 hc41 => ?_)
    refine Y Ld ?_
    refine Y As ?_
    refine Nq ?_
    refine Dr (fun i => Nat.beq i 6) _ SubH.refl ?_
    refine Tk 0 [1, 2, 3, 6] rfl Mv ?_
    refine Tk 1 [2, 3, 6] rfl Nc ?_
    refine Tk 2 [3, 6] rfl Fa ?_
    refine Tk 3 [6] rfl Ld ?_
    refine Tk 4 [6] rfl Mv ?_
    refine Tk 5 [6] rfl LdN ?_
    refine Gxn 6 rfl (Mu x20 (hv := by exact ⟨_, rfl, by assumption⟩)) ?_
    rintro _ _ rfl
    refine ⟨fun h_ => absurd h_ (by decide), ?_⟩
    refine An ?_
    refine Pb ?_
    refine Pq ?_
    refine Rg ?_
    refine Y Ad ?_
    refine Y Mv ?_
    refine Nl ?_
    rw [putAll_succ hx41]
    refine Re ⟨(j + 1), rfl, rfl, rfl, (by omega)⟩ (by omega) ⟨rfl, rfl, rfl, rfl, rfl, rfl, rfl, rfl, trivial⟩
   ·
    refine Ex ?_
    refine Xt ?_
    refine Xt ?_
    refine Xb ?_
    refine Pq ?_
    refine Sr ?_
    refine Y Fa ?_
    refine Y Ld ?_
    refine Nq ?_
    refine Bk ?_
    refine Sr ?_
    refine Y Eq_ ?_
    refine Y As ?_
    refine Nq ?_
    refine Cp (fun h8 => ?_) fun h8 => ?_
    ·
     refine Dr (fun i => Nat.beq i 6) _ SubH.refl ?_
     refine Tk 0 [1, 2, 3, 6] rfl Mv ?_
     refine Tk 1 [2, 3, 6] rfl Nc ?_
     refine Tk 2 [3, 6] rfl Fa ?_
     refine Tk 3 [6] rfl Ld ?_
     refine Tk 4 [5, 6] rfl Fa ?_
     refine Tk 5 [6] rfl Ld ?_
     refine Gxn 6 rfl (Mu true) ?_
     rintro _ _ rfl
     refine ⟨fun h_ => absurd h_ (by decide), ?_⟩
     refine An ?_
     refine Pb ?_
     refine Pb ?_
     refine Pq ?_
     refine Rg ?_
     refine Y Ad ?_
     refine Y Mv ?_
     refine Nl ?_
     rw [putAll_end (ks := usesL x20) (by assumption), makerM_succ hx20, userM_succ hx20, hidM_5 hx20 h8]
     refine Re ⟨(i + 1), rfl, rfl, rfl, (by omega)⟩ (by omega) ⟨rfl, rfl, rfl, rfl, trivial⟩
    ·
     refine Sr ?_
     refine Y Eq_ ?_
     refine Y As ?_
     refine Nq ?_
     refine Cp (fun h10 => ?_) fun h10 => ?_
     ·
      refine Dr (fun i => Nat.beq i 6) _ SubH.refl ?_
      refine Tk 0 [1, 2, 3, 6] rfl Mv ?_
      refine Tk 1 [2, 3, 6] rfl Nc ?_
      refine Tk 2 [3, 6] rfl Fa ?_
      refine Tk 3 [6] rfl Ld ?_
      refine Tk 4 [5, 6] rfl Fa ?_
      refine Tk 5 [6] rfl Ld ?_
      refine Gxn 6 rfl (Mu false) ?_
      rintro _ _ rfl
      refine ⟨fun h_ => absurd h_ (by decide), ?_⟩
      refine An ?_
      refine Pb ?_
      refine Pb ?_
      refine Pq ?_
      refine Rg ?_
      refine Y Ad ?_
      refine Y Mv ?_
      refine Nl ?_
      rw [putAll_end (ks := usesL x20) (by assumption), makerM_succ hx20, userM_succ hx20, hidM_6 hx20 h10]
      refine Re ⟨(i + 1), rfl, rfl, rfl, (by omega)⟩ (by omega) ⟨rfl, rfl, rfl, rfl, trivial⟩
     ·
      refine Sk ?_
      refine Pb ?_
      refine Pb ?_
      refine Pq ?_
      refine Rg ?_
      refine Y Ad ?_
      refine Y Mv ?_
      refine Nl ?_
      rw [putAll_end (ks := usesL x20) (by assumption), makerM_succ hx20, userM_succ hx20, hidM_0 hx20 h8 h10]
      refine Re ⟨(i + 1), rfl, rfl, rfl, (by omega)⟩ (by omega) ⟨rfl, rfl, rfl, rfl, trivial⟩
 ·
  refine Ex ?_
  refine Xt ?_
  refine Xt ?_
  refine Xb ?_
  refine Pq ?_
  refine Sr ?_
  refine Y Mv ?_
  refine Y As ?_
  refine Nq ?_
  refine Rt ?_
  rw [take_all (by assumption)]
  refine PostH.weak (H' := .cl b15 [.slice A l.length cp, .map (some m11), .map (some m12), .map (some m13)] 139 :: .mp (RZ Z) m11 (makerM l) :: .mp (RZ Z) m12 (userM l) :: .mp EB m13 (hidM l) :: .zm Z :: F) (by repeat (first | exact SubH.refl | exact SubH.nil | refine SubH.cons (by repeat (first | exact Pick.head | apply Pick.tail)) ?_ | refine SubH.skip ?_)) (FzSto hl fun Z' hz hs => ?_)
  refine Rv [.zm Z'] ?_
  exact ⟨Z', b15, _, m11, m12, m13, hz, hs, rfl, rfl⟩

end Go.Lag

namespace Go.Lag
open Go Go.RowKit Go.Proofs
set_option maxRecDepth 100000 in
set_option maxHeartbeats 4000000 in
theorem there_sp {Z : Hp} {s : Nat} {l : List Rep} {lv : Value} {mb ub hb : Nat} (hS : StoZ Z s l lv mb ub hb := by assumption) {p : Int} : SpV Tryz.prog 220 [ptr s 0, .int .i64 p] [.zm Z] (.bool (thereB l p)) := by
 refine Sp.of 32 Tryz.func220 rfl rfl rfl ?_
 intro F
 have hat := hS.at_
 have hls := hS.ls
 have hmk := hS.mm
 have hus := hS.us
 have hhd := hS.hd
 refine Sr ?_
 refine Y As ?_
 refine Nq ?_
 refine Sr ?_
 refine Y Mv ?_
 refine Y Nc ?_
 refine Y Fa ?_
 refine Y Ld ?_
 refine Y Mv ?_
 obtain ⟨pv15, hp15, hl15⟩ := lookR hmk p
 refine Y (LkZ2 hl15) ?_
 refine Y Mv ?_
 refine Y Xc ?_
 refine Y Xc ?_
 refine Dal fun b5 => ?_
 refine Dsw ?_
 refine Y As ?_
 refine Nq ?_
 refine Sr ?_
 refine Y Mv ?_
 refine Y Nc ?_
 refine Y Fa ?_
 refine Y Ld ?_
 refine Y Mv ?_
 obtain ⟨pv24, hp24, hl24⟩ := lookR hus p
 refine Y (LkZ2 hl24) ?_
 refine Y Mv ?_
 refine Y Xc ?_
 refine Y Xc ?_
 refine Dal fun b7 => ?_
 refine Dsw ?_
 refine Y As ?_
 refine Nq ?_
 refine Sr ?_
 refine Y Mv ?_
 refine Y Mv ?_
 refine Ga 2 1 true 30 (fun h3 => by
  refine Yg h3 Mv ?_
  refine Yg h3 Nt ?_
  exact Gg) ?_
 refine Y PkA ?_
 refine Y As ?_
 refine Nq ?_
 refine Rt ?_
 refine Rv [] ?_
 exact ⟨congrArg Value.bool (by simp [thereB, *]), rfl⟩

set_option maxRecDepth 100000 in
set_option maxHeartbeats 4000000 in
theorem admits1_sp {Z : Hp} {x : Rep} {pv : Value} {p : Int} {b : Nat} (hp : SlZ (EI .i64) Z pv x.parts := by assumption) (hn : x.parts.length ≤ 1000 := by assumption) (hs : Small x := by assumption) : Sp Tryz.prog 265 [.int .i64 p, ptr b 0] [.cl b (repCells x pv) 92, .zm Z] fun v H' => v = .bool (namesB x p) ∧ [.cl b (repCells x pv) 92, .zm Z] = H' := by
 refine Sp.of 7 Tryz.func265 rfl rfl rfl ?_
 intro F
 refine Sr ?_
 refine Y As ?_
 refine Nq ?_
 refine Sr ?_
 refine Y LdN ?_
 refine Y Mv ?_
 refine Cv (hs := names_sp) (h := ?_)
 refine Y As ?_
 refine Nq ?_
 refine Rt ?_
 refine Rv [.cl b (repCells x pv) 92, .zm Z] ?_
 exact ⟨rfl, rfl⟩

set_option maxRecDepth 100000 in
set_option maxHeartbeats 4000000 in
theorem releases2_sp {Z : Hp} {x : Rep} {pv : Value} {p : Int} {b : Nat} (hp : SlZ (EI .i64) Z pv x.parts := by assumption) (hn : x.parts.length ≤ 1000 := by assumption) (hs : Small x := by assumption) : Sp Tryz.prog 263 [.int .i64 p, ptr b 0] [.cl b (repCells x pv) 92, .zm Z] fun v H' => v = .bool (namesB x p) ∧ [.cl b (repCells x pv) 92, .zm Z] = H' := by
 refine Sp.of 7 Tryz.func263 rfl rfl rfl ?_
 intro F
 refine Sr ?_
 refine Y As ?_
 refine Nq ?_
 refine Sr ?_
 refine Y LdN ?_
 refine Y Mv ?_
 refine Cv (hs := names_sp) (h := ?_)
 refine Y As ?_
 refine Nq ?_
 refine Rt ?_
 refine Rv [.cl b (repCells x pv) 92, .zm Z] ?_
 exact ⟨rfl, rfl⟩

set_option maxRecDepth 100000 in
set_option maxHeartbeats 4000000 in
theorem releases1_sp {y : Rep} {qv : Value} {of_ : Int} {b : Nat} : Sp Tryz.prog 260 [repV y qv, ptr b 0] [.cl b [.int .i64 of_] 3] fun v H' => v = .bool (decide (y.id = of_)) ∧ [.cl b [.int .i64 of_] 3] = H' := by
 refine Sp.of 8 Tryz.func260 rfl rfl rfl ?_
 intro F
 refine Sr ?_
 refine Dbx (fun b2 => ?_)
 refine Y As ?_
 refine Nq ?_
 refine Sr ?_
 refine Y Fa ?_
 refine Y Ld ?_
 refine Y Ld ?_
 refine Y Eq_ ?_
 refine Y As ?_
 refine Nq ?_
 refine Rt ?_
 refine Rv [.cl b [.int .i64 of_] 3] ?_
 exact ⟨rfl, rfl⟩

set_option maxRecDepth 100000 in
set_option maxHeartbeats 4000000 in
theorem follows1_sp {x y : Rep} {pv qv : Value} {b : Nat} : Sp Tryz.prog 204 [repV y qv, ptr b 0] [.cl b (repCells x pv) 92] fun v H' => v = .bool (decide (y.id = x.id)) ∧ [.cl b (repCells x pv) 92] = H' := by
 refine Sp.of 9 Tryz.func204 rfl rfl rfl ?_
 intro F
 refine Sr ?_
 refine Dbx (fun b2 => ?_)
 refine Y As ?_
 refine Nq ?_
 refine Sr ?_
 refine Y Fa ?_
 refine Y Ld ?_
 refine Y Fa ?_
 refine Y Ld ?_
 refine Y Eq_ ?_
 refine Y As ?_
 refine Nq ?_
 refine Rt ?_
 refine Rv [.cl b (repCells x pv) 92] ?_
 exact ⟨rfl, rfl⟩

set_option maxRecDepth 100000 in
set_option maxHeartbeats 4000000 in
theorem releases_sp {Z : Hp} {s : Nat} {l : List Rep} {lv : Value} {mb ub hb : Nat} (hS : StoZ Z s l lv mb ub hb := by assumption) {of_ : Int} (hsm : ∀ x ∈ l, Small x := by assumption) (hpl : ∀ x ∈ l, x.parts.length ≤ 1000 := by assumption) : SpV Tryz.prog 205 [ptr s 0, .int .i64 of_] [.zm Z] (.int .i64 (relE l of_)) := by
 refine Sp.of 51 Tryz.func205 rfl rfl rfl ?_
 intro F
 have hat := hS.at_
 have hls := hS.ls
 have hmk := hS.mm
 have hus := hS.us
 have hhd := hS.hd
 have hlen := hls.len_le
 refine Sr ?_
 refine Dbx (fun b3 => ?_)
 refine Y As ?_
 refine Nq ?_
 refine Sr ?_
 refine Y Mv ?_
 refine Y Nc ?_
 refine Y Fa ?_
 refine Y Ld ?_
 refine Y Mf ?_
 refine D (Cf (hs := indexR_sp (ff := []) (fc := [ptr b3 0]) (preF := [.cl b3 [.int .i64 of_] 3]) (p := fun x => decide (x.id = of_)) (fun a _ pv _ => releases1_sp))) ?_
 rintro _ _ ⟨_, ⟨rfl, rfl⟩, rfl⟩
 refine Y As ?_
 refine Nq ?_
 refine Sq ?_
 refine Sr ?_
 refine Y Mv ?_
 refine Y Lt ?_
 refine Nq ?_
 refine Cp (fun h2 => ?_) fun h2 => ?_
 ·
  refine Sr ?_
  refine Y As ?_
  refine Nq ?_
  refine Rt ?_
  refine Rh ?_
  refine Rv [] ?_
  exact ⟨congrArg (Value.int .i64) (relE_5 h2), rfl⟩
 ·
  refine Sk ?_
  refine Pq ?_
  refine Sr ?_
  refine Y Mv ?_
  refine Y Nc ?_
  refine Y Fa ?_
  refine Y Ld ?_
  refine Y Mv ?_
  have hge := idxF_ge (fun x => decide (x.id = of_)) l
  have hlt := idxF_lt' (fun x => decide (x.id = of_)) l h2
  refine Ix (E := EZ Z) (fun x23 b23 o23 cs23 hx23 hr23 hc23 => ?_)
  obtain ⟨pv23, rfl, hp23⟩ := hr23
  have hs23 := hsm x23 (mem_get hx23)
  have hn23 := hpl x23 (mem_get hx23)
  have hml := makesL_len x23 hs23
  have htl := touchesL_len x23
  refine Y LdN ?_
  refine Dal fun b6 => ?_
  refine Dsw ?_
  refine Nq ?_
  refine Drq (fun i => Nat.beq i 4 || Nat.beq i 5) _ SubH.refl ?_
  refine Tk 0 [1, 3, 4, 5] rfl LdN ?_
  refine Tk 2 [3, 4, 5] rfl LdN ?_
  refine Gx 1 rfl (Cf (hs := touches_sp (hn := by assumption))) ?_
  rintro v26 _ ⟨_, rfl, rfl⟩
  refine ⟨fun _ => (by repeat (first | exact SubH.refl | exact SubH.nil | refine SubH.cons (by repeat (first | exact Pick.head | apply Pick.tail)) ?_ | refine SubH.skip ?_)), ?_⟩
  refine Gx 3 rfl (Cf (hs := makes_sp (hs := by assumption))) ?_
  rintro v28 _ ⟨_, rfl, rfl⟩
  refine ⟨fun _ => (by repeat (first | exact SubH.refl | exact SubH.nil | refine SubH.cons (by repeat (first | exact Pick.head | apply Pick.tail)) ?_ | refine SubH.skip ?_)), ?_⟩
  refine Gx 4 rfl ApS ?_
  rintro v29 _ rfl
  refine ⟨fun h_ => absurd h_ (by decide), ?_⟩
  refine Gx 5 rfl ((As).does) ?_
  rintro _ _ ⟨rfl, rfl⟩
  refine ⟨fun h_ => absurd h_ (by decide), ?_⟩
  refine Anq ?_
  refine Sq ?_
  refine Sr ?_
  refine Fz (E := EI .i64) (v := v29) fun Z29 hz29 => ?_
  refine Y Mv ?_
  refine Y Nc ?_
  refine Y Fa ?_
  refine Y Ld ?_
  refine Y Mv ?_
  refine Y Ad ?_
  have hz36 := SlZ.from_ hls (i := (idxF (fun x => decide (x.id = of_)) l + 1).toNat) (by omega)
  have hlen2 := hz36.len_le
  refine Y SlFI ?_
  refine Y Ln ?_
  refine Y Mv ?_
  refine Nq ?_
  refine Bk ?_
  refine Lp (fun n_ l_ H_ => ∃ (j : Nat), n_ = (l.drop (idxF (fun x => decide (x.id = of_)) l + 1).toNat).length - j ∧ l_ = [(6, ptr b6 0), (7, v29), (36, slFrom 15 lv (idxF (fun x => decide (x.id = of_)) l + 1).toNat), (37, .int .i64 ((l.drop (idxF (fun x => decide (x.id = of_)) l + 1).toNat).length : Int)), (38, .int .i64 (j : Int))] ∧ H_ = .cl b6 (repCells x23 pv23) 92 :: .zm Z :: .zm Z29 :: F ∧ (j ≤ (l.drop (idxF (fun x => decide (x.id = of_)) l + 1).toNat).length) ∧ (∀ y ∈ (l.drop (idxF (fun x => decide (x.id = of_)) l + 1).toNat).take j, (!decide (x23.kind = 4) && (touchesL x23 ++ makesL x23).any fun p => namesB y p) = false)) ⟨0, rfl, rfl, rfl, (by omega), (by simp)⟩ ⟨rfl, rfl, rfl, rfl, rfl, trivial⟩ ?_
  rintro _ _ _ ⟨j, rfl, rfl, rfl, hj, hno⟩
  refine Sr ?_
  refine Y Lt ?_
  refine Nq ?_
  refine Sq ?_
  refine Cp (fun h4 => ?_) fun h4 => ?_
  ·
   refine Sk ?_
   refine Pq ?_
   refine Sq ?_
   refine Bk ?_
   refine Sr ?_
   refine IxR fun x40 b40 o40 pv40 hx40 hp40 hc40 => ?_
   refine Y LdN ?_
   refine Dal fun b9 => ?_
   refine Dsw ?_
   refine Nq ?_
   refine Sr ?_
   have hs40 := hsm x40 (mem_drop_get hx40)
   have hn40 := hpl x40 (mem_drop_get hx40)
   refine Y Fa ?_
   refine Y Ld ?_
   refine Y Ne_ ?_
   refine Y Mv ?_
   refine Ga 3 3 true 48 (fun h6 => by
    refine Yg h6 Mv ?_
    refine Yg h6 Mf ?_
    refine Gt h6 ?_
    refine D (Cf (hs := anyI_sp (ff := []) (fc := [ptr b9 0]) (preF := [.cl b9 (repCells x40 pv40) 92, .zm Z]) (p := namesB x40) (fun a _ => releases2_sp))) ?_
    rintro _ _ ⟨_, ⟨rfl, rfl⟩, rfl⟩
    exact Gg) ?_
   refine Y PkA ?_
   refine Nq ?_
   refine Ct (fun h9 => ?_) fun h9 => ?_
   ·
    refine Sr ?_
    refine Y As ?_
    refine Nq ?_
    refine Rt ?_
    refine Rb ?_
    refine Rh ?_
    refine Rh ?_
    refine Rb ?_
    refine Rh ?_
    refine Rv [] ?_
    exact ⟨congrArg (Value.int .i64) (relE_8' (by assumption) hx23 hx40 h9), rfl⟩
   ·
    refine Sk ?_
    refine Pb ?_
    refine Pq ?_
    refine Rg ?_
    refine Y Ad ?_
    refine Y Mv ?_
    refine Nl ?_
    refine Re ⟨(j + 1), rfl, rfl, rfl, (by omega), (any_take_succ hx40 hno h9)⟩ (by omega) ⟨rfl, rfl, rfl, rfl, rfl, trivial⟩
  ·
   refine Ex ?_
   refine Xt ?_
   refine Xt ?_
   refine Xb ?_
   refine Pq ?_
   refine Sr ?_
   refine Y As ?_
   refine Nq ?_
   refine Rt ?_
   refine Rv [] ?_
   exact ⟨congrArg (Value.int .i64) (relE_0 (by assumption) hx23 (by assumption) hno), rfl⟩

end Go.Lag

namespace Go.Lag
open Go Go.RowKit Go.Proofs
set_option maxRecDepth 100000 in
set_option maxHeartbeats 4000000 in
theorem admits_sp {Z : Hp} {s : Nat} {l : List Rep} {lv : Value} {mb ub hb : Nat} (hS : StoZ Z s l lv mb ub hb := by assumption) {x : Rep} {pv : Value} (hp : SlZ (EI .i64) Z pv x.parts := by assumption) (hn : x.parts.length ≤ 1000 := by assumption) (hs : Small x := by assumption) (hsm : ∀ x ∈ l, Small x := by assumption) (hpl : ∀ x ∈ l, x.parts.length ≤ 1000 := by assumption) : SpV Tryz.prog 206 [ptr s 0, repV x pv] [.zm Z] (.int .i64 (admE l x)) := by
 refine Sp.of 99 Tryz.func206 rfl rfl rfl ?_
 intro F
 have hat := hS.at_
 have hls := hS.ls
 have hmk := hS.mm
 have hus := hS.us
 have hhd := hS.hd
 have hlen := hls.len_le
 have htl := touchesL_len x
 refine Sr ?_
 refine Dbx (fun b3 => ?_)
 refine Y As ?_
 refine Nq ?_
 refine Sr ?_
 refine Y LdN ?_
 refine D (Cf (hs := touches_sp (hn := by assumption))) ?_
 rintro v13 _ ⟨_, rfl, rfl⟩
 refine Fz fun Z13 hz13 => ?_
 refine Y As ?_
 refine Nq ?_
 refine Sq ?_
 refine Sr ?_
 refine Y Mv ?_
 refine Y Ln ?_
 refine Y Mv ?_
 refine Nq ?_
 refine Bk ?_
 refine Lp (fun n_ l_ H_ => ∃ (i : Nat), n_ = (touchesL x).length - i ∧ l_ = [(0, ptr s 0), (3, ptr b3 0), (5, v13), (14, v13), (15, .int .i64 ((touchesL x).length : Int)), (16, .int .i64 (i : Int))] ∧ H_ = .cl b3 (repCells x pv) 92 :: .zm Z :: .zm Z13 :: F ∧ (i ≤ (touchesL x).length) ∧ (∀ y ∈ (touchesL x).take i, adm1 l x y = false)) ⟨0, rfl, rfl, rfl, (by omega), (by simp)⟩ ⟨rfl, rfl, rfl, rfl, rfl, rfl, trivial⟩ ?_
 rintro _ _ _ ⟨i, rfl, rfl, rfl, hi, h1⟩
 refine Sr ?_
 refine Y Lt ?_
 refine Nq ?_
 refine Sq ?_
 refine Cp (fun h2 => ?_) fun h2 => ?_
 ·
  refine Sk ?_
  refine Pq ?_
  refine Sq ?_
  refine Bk ?_
  refine Sr ?_
  refine IxF (fun x => [.int .i64 x]) (fun x18 b18 o18 hx18 hc18 => ?_)
  refine Y Ld ?_
  refine Y As ?_
  refine Nq ?_
  refine Sr ?_
  refine Y Mv ?_
  refine Y Mv ?_
  refine Cv (hs := there_sp) (h := ?_)
  refine Y Nt ?_
  refine Y Mv ?_
  refine GcB 22 (fun h4 => ?_) fun h4 => ?_
  ·
   refine Gt (nb_f h4) ?_
   refine Y Fa ?_
   refine Gt (nb_f h4) ?_
   refine Y Ld ?_
   refine Gt (nb_f h4) ?_
   refine Y Eq_ ?_
   refine Gt (nb_f h4) ?_
   refine Y Mv ?_
   refine GcD 27 (fun h6 => ?_) fun h6 => ?_
   ·
    refine Gt (decide_eq_true h6) ?_
    refine Y Mv ?_
    refine Gt (decide_eq_true h6) ?_
    refine Y Nc ?_
    refine Gt (decide_eq_true h6) ?_
    refine Y Fa ?_
    refine Gt (decide_eq_true h6) ?_
    refine Y Ld ?_
    refine Gt (decide_eq_true h6) ?_
    refine Y Mv ?_
    refine Gt (decide_eq_true h6) ?_
    obtain ⟨pv34, hp34, hl34⟩ := lookR hmk x18
    refine Y (LkZ hl34) ?_
    refine Gt (decide_eq_true h6) ?_
    refine Y Fd ?_
    refine Gt (decide_eq_true h6) ?_
    refine Y Ne_ ?_
    refine Gt (nb_f h4) ?_
    refine Y (PkT (hb := decide_eq_true h6)) ?_
    refine Y (PkF (hb := nb_f h4)) ?_
    refine Nq ?_
    refine Cn (fun h8 => ?_) fun h8 => ?_
    ·
     refine Sr ?_
     refine Y As ?_
     refine Nq ?_
     refine Rt ?_
     refine Rb ?_
     refine Rh ?_
     refine Rh ?_
     refine Rb ?_
     refine Rh ?_
     refine Rv [] ?_
     exact ⟨congrArg (Value.int .i64) (admE_30 hx18 (by simp [adm1, mkOf, *])), rfl⟩
    ·
     refine Sk ?_
     refine Pb ?_
     refine Pq ?_
     refine Rg ?_
     refine Y Ad ?_
     refine Y Mv ?_
     refine Nl ?_
     refine Re ⟨(i + 1), rfl, rfl, rfl, (by omega), (any_take_succ hx18 h1 (by simp [adm1, mkOf, *]))⟩ (by omega) ⟨rfl, rfl, rfl, rfl, rfl, rfl, trivial⟩
   ·
    refine Gf (decide_eq_false h6) ?_
    refine Gf (decide_eq_false h6) ?_
    refine Gf (decide_eq_false h6) ?_
    refine Gf (decide_eq_false h6) ?_
    refine Gf (decide_eq_false h6) ?_
    refine Gf (decide_eq_false h6) ?_
    refine Gf (decide_eq_false h6) ?_
    refine Gf (decide_eq_false h6) ?_
    refine Gt (nb_f h4) ?_
    refine Y (PkF (hb := decide_eq_false h6)) ?_
    refine Y (PkF (hb := nb_f h4)) ?_
    refine Nq ?_
    refine CtF rfl ?_
    refine Sk ?_
    refine Pb ?_
    refine Pq ?_
    refine Rg ?_
    refine Y Ad ?_
    refine Y Mv ?_
    refine Nl ?_
    refine Re ⟨(i + 1), rfl, rfl, rfl, (by omega), (any_take_succ hx18 h1 (by simp [adm1, mkOf, *]))⟩ (by omega) ⟨rfl, rfl, rfl, rfl, rfl, rfl, trivial⟩
  ·
   refine Gf (nb_t h4) ?_
   refine Gf (nb_t h4) ?_
   refine Gf (nb_t h4) ?_
   refine Gf (nb_t h4) ?_
   refine Gu ?_
   refine Gu ?_
   refine Gu ?_
   refine Gu ?_
   refine Gu ?_
   refine Gu ?_
   refine Gu ?_
   refine Gu ?_
   refine Gf (nb_t h4) ?_
   refine Y (PkT (hb := nb_t h4)) ?_
   refine Nq ?_
   refine CtT rfl ?_
   refine Sr ?_
   refine Y As ?_
   refine Nq ?_
   refine Rt ?_
   refine Rb ?_
   refine Rh ?_
   refine Rh ?_
   refine Rb ?_
   refine Rh ?_
   refine Rv [] ?_
   exact ⟨congrArg (Value.int .i64) (admE_30 hx18 (by simp [adm1, mkOf, *])), rfl⟩
 ·
  refine Ex ?_
  refine Xt ?_
  refine Xt ?_
  refine Xb ?_
  refine Pq ?_
  refine Sq ?_
  refine Sr ?_
  refine Y Mv ?_
  refine Y Ln ?_
  refine Y Mv ?_
  refine Nq ?_
  refine Bk ?_
  refine Lp (fun n_ l_ H_ => ∃ (k : Nat), n_ = (touchesL x).length - k ∧ l_ = [(0, ptr s 0), (3, ptr b3 0), (5, v13), (40, v13), (41, .int .i64 ((touchesL x).length : Int)), (42, .int .i64 (k : Int))] ∧ H_ = .cl b3 (repCells x pv) 92 :: .zm Z :: .zm Z13 :: F ∧ (k ≤ (touchesL x).length) ∧ (∀ y ∈ (touchesL x).take k, adm2 l x y = false)) ⟨0, rfl, rfl, rfl, (by omega), (by simp)⟩ ⟨rfl, rfl, rfl, rfl, rfl, rfl, trivial⟩ ?_
  rintro _ _ _ ⟨k, rfl, rfl, rfl, hk, h2⟩
  refine Sr ?_
  refine Y Lt ?_
  refine Nq ?_
  refine Sq ?_
  refine Cp (fun h10 => ?_) fun h10 => ?_
  ·
   refine Sk ?_
   refine Pq ?_
   refine Sq ?_
   refine Bk ?_
   refine Sr ?_
   refine IxF (fun x => [.int .i64 x]) (fun x44 b44 o44 hx44 hc44 => ?_)
   refine Y Ld ?_
   refine Y As ?_
   refine Nq ?_
   refine Drq (fun i => false) _ SubH.refl ?_
   refine Tk 0 [] rfl Mv ?_
   refine Tk 1 [] rfl Nc ?_
   refine Tk 2 [] rfl Fa ?_
   refine Tk 3 [] rfl Ld ?_
   refine Tk 4 [] rfl Mv ?_
   refine Tk 5 [] rfl LkB ?_
   refine Tk 6 [] rfl Fa ?_
   refine Tk 7 [] rfl Ld ?_
   refine Tk 8 [] rfl Eq_ ?_
   refine Tk 9 [] rfl NeB ?_
   refine Anq ?_
   refine Ct (fun h14 => ?_) fun h14 => ?_
   ·
    refine Sr ?_
    refine Y As ?_
    refine Nq ?_
    refine Rt ?_
    refine Rb ?_
    refine Rh ?_
    refine Rh ?_
    refine Rb ?_
    refine Rh ?_
    refine Rv [] ?_
    exact ⟨congrArg (Value.int .i64) (admE_31 h1 (by assumption) hx44 h14), rfl⟩
   ·
    refine Sk ?_
    refine Pb ?_
    refine Pq ?_
    refine Rg ?_
    refine Y Ad ?_
    refine Y Mv ?_
    refine Nl ?_
    refine Re ⟨(k + 1), rfl, rfl, rfl, (by omega), (any_take_succ hx44 h2 h14)⟩ (by omega) ⟨rfl, rfl, rfl, rfl, rfl, rfl, trivial⟩
  ·
   refine Ex ?_
   refine Xt ?_
   refine Xt ?_
   refine Xb ?_
   refine Pq ?_
   refine Sq ?_
   refine Sr ?_
   refine Y Mv ?_
   refine Y Nc ?_
   refine Y Fa ?_
   refine Y Ld ?_
   refine Y Ln ?_
   refine Y Mv ?_
   refine Nq ?_
   refine Bk ?_
   refine Lp (fun n_ l_ H_ => ∃ (j : Nat), n_ = l.length - j ∧ l_ = [(0, ptr s 0), (3, ptr b3 0), (5, v13), (60, lv), (61, .int .i64 (l.length : Int)), (62, .int .i64 (j : Int))] ∧ H_ = .cl b3 (repCells x pv) 92 :: .zm Z :: .zm Z13 :: F ∧ (j ≤ l.length) ∧ (∀ y ∈ l.take j, adm3 x y = false)) ⟨0, rfl, rfl, rfl, (by omega), (by simp)⟩ ⟨rfl, rfl, rfl, rfl, rfl, rfl, trivial⟩ ?_
   rintro _ _ _ ⟨j, rfl, rfl, rfl, hj, h3⟩
   refine Sr ?_
   refine Y Lt ?_
   refine Nq ?_
   refine Sq ?_
   refine Cp (fun h16 => ?_) fun h16 => ?_
   ·
    refine Sk ?_
    refine Pq ?_
    refine Sq ?_
    refine Bk ?_
    refine Sr ?_
    refine IxR fun x64 b64 o64 pv64 hx64 hp64 hc64 => ?_
    refine Y LdN ?_
    refine Dal fun b11 => ?_
    refine Dsw ?_
    refine Nq ?_
    refine Sr ?_
    have hs64 := hsm x64 (mem_get hx64)
    have hn64 := hpl x64 (mem_get hx64)
    refine Y Fa ?_
    refine Y Ld ?_
    refine Y Fa ?_
    refine Y Ld ?_
    refine Y Gr ?_
    refine Y Mv ?_
    refine Ga 3 5 true 74 (fun h18 => by
     refine Yg h18 Mv ?_
     refine Yg h18 Mf ?_
     refine Gt h18 ?_
     refine D (Cf (hs := anyI_sp (ff := []) (fc := [ptr b11 0]) (preF := [.cl b11 (repCells x64 pv64) 92, .zm Z]) (p := namesB x64) (fun a _ => admits1_sp))) ?_
     rintro _ _ ⟨_, ⟨rfl, rfl⟩, rfl⟩
     exact Gg) ?_
    refine Y PkA ?_
    refine Nq ?_
    refine Ct (fun h21 => ?_) fun h21 => ?_
    ·
     refine Sr ?_
     refine Y As ?_
     refine Nq ?_
     refine Rt ?_
     refine Rb ?_
     refine Rh ?_
     refine Rh ?_
     refine Rb ?_
     refine Rh ?_
     refine Rv [] ?_
     exact ⟨congrArg (Value.int .i64) (admE_7 h1 (by assumption) h2 (by assumption) hx64 h21), rfl⟩
    ·
     refine Sk ?_
     refine Pb ?_
     refine Pq ?_
     refine Rg ?_
     refine Y Ad ?_
     refine Y Mv ?_
     refine Nl ?_
     refine Re ⟨(j + 1), rfl, rfl, rfl, (by omega), (any_take_succ hx64 h3 h21)⟩ (by omega) ⟨rfl, rfl, rfl, rfl, rfl, rfl, trivial⟩
   ·
    refine Ex ?_
    refine Xt ?_
    refine Xt ?_
    refine Xb ?_
    refine Pq ?_
    refine Sq ?_
    refine Drq (fun i => false) _ SubH.refl ?_
    refine Tk 0 [] rfl Fa ?_
    refine Tk 1 [] rfl Ld ?_
    refine Tk 2 [] rfl Eq_ ?_
    refine Tk 3 [] rfl Mv ?_
    refine GcDA 79 (fun h23 => ?_) fun h23 => ?_
    ·
     refine TkG 4 [] rfl (decide_eq_true h23) Mv ?_
     refine TkG 5 [] rfl (decide_eq_true h23) Nc ?_
     refine TkG 6 [] rfl (decide_eq_true h23) Fa ?_
     refine TkG 7 [] rfl (decide_eq_true h23) Ld ?_
     refine TkG 8 [] rfl (decide_eq_true h23) Fa ?_
     refine TkG 9 [] rfl (decide_eq_true h23) Ld ?_
     obtain ⟨pv87, hp87, hl87⟩ := lookR hmk x.parcel
     refine TkG 10 [] rfl (decide_eq_true h23) (LkZ hl87) ?_
     refine TkG 11 [] rfl (decide_eq_true h23) Fd ?_
     refine TkG 12 [] rfl (decide_eq_true h23) Mv ?_
     refine TkG 13 [] rfl (decide_eq_true h23) Nc ?_
     refine TkG 14 [] rfl (decide_eq_true h23) Fa ?_
     refine TkG 15 [] rfl (decide_eq_true h23) Ld ?_
     refine TkG 16 [] rfl (decide_eq_true h23) Fa ?_
     refine TkG 17 [] rfl (decide_eq_true h23) Ld ?_
     obtain ⟨pv95, hp95, hl95⟩ := lookR hmk x.other
     refine TkG 18 [] rfl (decide_eq_true h23) (LkZ hl95) ?_
     refine TkG 19 [] rfl (decide_eq_true h23) Fd ?_
     refine TkG 20 [] rfl (decide_eq_true h23) NeS ?_
     refine Tk 21 [] rfl (PkT (hb := decide_eq_true h23)) ?_
     refine Anq ?_
     refine Cn (fun h25 => ?_) fun h25 => ?_
     ·
      refine Sr ?_
      refine Y As ?_
      refine Nq ?_
      refine Rt ?_
      refine Rh ?_
      refine Rv [] ?_
      exact ⟨congrArg (Value.int .i64) (by rw [← admE_end h1 (by assumption) h2 (by assumption) h3 (by assumption)]; simp [mkOf, *]), rfl⟩
     ·
      refine Sk ?_
      refine Pq ?_
      refine Sr ?_
      refine Y As ?_
      refine Nq ?_
      refine Rt ?_
      refine Rv [] ?_
      exact ⟨congrArg (Value.int .i64) (by rw [← admE_end h1 (by assumption) h2 (by assumption) h3 (by assumption)]; simp [mkOf, *]), rfl⟩
    ·
     refine TkF 4 [] rfl (decide_eq_false h23) ?_
     refine TkF 5 [] rfl (decide_eq_false h23) ?_
     refine TkF 6 [] rfl (decide_eq_false h23) ?_
     refine TkF 7 [] rfl (decide_eq_false h23) ?_
     refine TkF 8 [] rfl (decide_eq_false h23) ?_
     refine TkF 9 [] rfl (decide_eq_false h23) ?_
     refine TkF 10 [] rfl (decide_eq_false h23) ?_
     refine TkF 11 [] rfl (decide_eq_false h23) ?_
     refine TkF 12 [] rfl (decide_eq_false h23) ?_
     refine TkF 13 [] rfl (decide_eq_false h23) ?_
     refine TkF 14 [] rfl (decide_eq_false h23) ?_
     refine TkF 15 [] rfl (decide_eq_false h23) ?_
     refine TkF 16 [] rfl (decide_eq_false h23) ?_
     refine TkF 17 [] rfl (decide_eq_false h23) ?_
     refine TkF 18 [] rfl (decide_eq_false h23) ?_
     refine TkF 19 [] rfl (decide_eq_false h23) ?_
     refine TkF 20 [] rfl (decide_eq_false h23) ?_
     refine Tk 21 [] rfl (PkF (hb := decide_eq_false h23)) ?_
     refine Anq ?_
     refine CtF rfl ?_
     refine Sk ?_
     refine Pq ?_
     refine Sr ?_
     refine Y As ?_
     refine Nq ?_
     refine Rt ?_
     refine Rv [] ?_
     exact ⟨congrArg (Value.int .i64) (by rw [← admE_end h1 (by assumption) h2 (by assumption) h3 (by assumption)]; simp [mkOf, *]), rfl⟩

end Go.Lag

namespace Go.Lag
open Go Go.RowKit Go.Proofs
set_option maxRecDepth 100000 in
set_option maxHeartbeats 4000000 in
theorem follows_sp {Z : Hp} {l : List Rep} {lv : Value} {x : Rep} {pv : Value} (hl : SlZ (EZ Z) Z lv l := by assumption) (hp : SlZ (EI .i64) Z pv x.parts := by assumption) (hn : l.length ≤ 1000 := by assumption) (hr : ∀ y ∈ l, reportB y = true := by assumption) : SpV Tryz.prog 117 [lv, repV x pv] [.zm Z] (.int .i64 (folE l x)) := by
 refine Sp.of 49 Tryz.func117 rfl rfl rfl ?_
 intro F
 refine Sr ?_
 refine Dbx (fun b3 => ?_)
 refine Y As ?_
 refine Nq ?_
 refine Sq ?_
 refine Bk ?_
 refine Sr ?_
 refine Y Mv ?_
 refine Y Ln ?_
 refine Y Ge ?_
 refine Y As ?_
 refine Nq ?_
 refine Cp (fun h2 => ?_) fun h2 => ?_
 ·
  refine Sr ?_
  refine Y As ?_
  refine Nq ?_
  refine Rt ?_
  refine Rb ?_
  refine Rh ?_
  refine Rv [] ?_
  exact ⟨congrArg (Value.int .i64) (fol_2 h2), rfl⟩
 ·
  refine Sr ?_
  refine Y LdN ?_
  refine Cv (hs := report_sp) (h := ?_)
  refine Y Ne_ ?_
  refine Y As ?_
  refine Nq ?_
  refine Cn (fun h4 => ?_) fun h4 => ?_
  ·
   refine Sr ?_
   refine Y As ?_
   refine Nq ?_
   refine Rt ?_
   refine Rb ?_
   refine Rh ?_
   refine Rv [] ?_
   exact ⟨congrArg (Value.int .i64) (fol_1 h2 (rep_no h4)), rfl⟩
  ·
   refine Sr ?_
   refine Y Mv ?_
   refine Y Mf ?_
   refine D (Cf (hs := anyR_sp (ff := []) (fc := [ptr b3 0]) (preF := [.cl b3 (repCells x pv) 92]) (p := fun y => decide (y.id = x.id)) (fun a _ pv _ => follows1_sp))) ?_
   rintro _ _ ⟨_, ⟨rfl, rfl⟩, rfl⟩
   refine Y As ?_
   refine Nq ?_
   refine Ct (fun h6 => ?_) fun h6 => ?_
   ·
    refine Sr ?_
    refine Y As ?_
    refine Nq ?_
    refine Rt ?_
    refine Rb ?_
    refine Rh ?_
    refine Rv [] ?_
    exact ⟨congrArg (Value.int .i64) (fol_6 h2 (rep_ok h4) h6), rfl⟩
   ·
    refine Drq (fun i => false) _ SubH.refl ?_
    refine Tk 0 [] rfl Mv ?_
    refine Tk 1 [] rfl Ln ?_
    refine Tk 2 [] rfl Gr ?_
    refine Tk 3 [] rfl Mv ?_
    refine GcDA 21 (fun h8 => ?_) fun h8 => ?_
    ·
     refine TkG 4 [] rfl (decide_eq_true h8) Fa ?_
     refine TkG 5 [] rfl (decide_eq_true h8) Ld ?_
     refine TkG 6 [] rfl (decide_eq_true h8) Mv ?_
     refine TkG 7 [] rfl (decide_eq_true h8) Mv ?_
     refine TkG 8 [] rfl (decide_eq_true h8) Ln ?_
     refine TkG 9 [] rfl (decide_eq_true h8) Su ?_
     obtain ⟨x29, b29, o29, pv29, hx29, he29, hp29, hc29⟩ := SlZ.atR hl (((l.length : Int) - 1).toNat) (by omega)
     refine TkG 10 [] rfl (decide_eq_true h8) (IxY rfl rfl (by omega) he29) ?_
     refine TkG 11 [] rfl (decide_eq_true h8) Fa ?_
     refine TkG 12 [] rfl (decide_eq_true h8) Ld ?_
     refine TkG 13 [] rfl (decide_eq_true h8) Lt ?_
     refine Tk 14 [] rfl (PkT (hb := decide_eq_true h8)) ?_
     refine Tk 15 [] rfl As ?_
     refine Anq ?_
     refine Cp (fun h10 => ?_) fun h10 => ?_
     ·
      refine Sr ?_
      refine Y As ?_
      refine Nq ?_
      refine Rt ?_
      refine Rb ?_
      refine Rh ?_
      refine Rv [] ?_
      exact ⟨congrArg (Value.int .i64) (fol_7 h2 (rep_ok h4) h6 h8 hx29 h10), rfl⟩
     ·
      refine Sk ?_
      refine Pb ?_
      refine Pq ?_
      refine Sr ?_
      refine Y Mv ?_
      refine Y Fa ?_
      refine Y Ld ?_
      refine D (Cf (hs := counting_sp)) ?_
      rintro v37 _ ⟨_, ⟨Z37, hZ37, hz37, rfl⟩, rfl⟩
      obtain ⟨hsx, hnx⟩ := report_small (rep_ok h4)
      have hpZ := hp.mono hZ37
      have hsm : ∀ y ∈ countL l x.known, Small y := fun y hy => (report_small (hr y (count_mem hy))).1
      have hpl : ∀ y ∈ countL l x.known, y.parts.length ≤ 1000 := fun y hy => (report_small (hr y (count_mem hy))).2
      refine D (Cf (hs := stored_sp (hsm := by assumption) (hpl := by assumption))) ?_
      rintro _ _ ⟨_, ⟨Z38, s38, lv38, mb38, ub38, hb38, hZ38, hS38, rfl, rfl⟩, rfl⟩
      have hpZ2 := hpZ.mono hZ38
      refine Y As ?_
      refine Nq ?_
      refine Sq ?_
      refine Sr ?_
      refine Y Fa ?_
      refine Y Ld ?_
      refine Y Eq_ ?_
      refine Nq ?_
      refine Cp (fun h12 => ?_) fun h12 => ?_
      ·
       refine Sr ?_
       refine Y Mv ?_
       refine Y Fa ?_
       refine Y Ld ?_
       refine Cv (hs := releases_sp) (h := ?_)
       refine Y As ?_
       refine Nq ?_
       refine Rt ?_
       refine Rh ?_
       refine Rv [] ?_
       exact ⟨congrArg (Value.int .i64) (fol_8 h2 (rep_ok h4) h6 (fun _ => last_no hx29 h10) h12), rfl⟩
      ·
       refine Sk ?_
       refine Pq ?_
       refine Sr ?_
       refine Y Mv ?_
       refine Y LdN ?_
       refine Cv (hs := admits_sp) (h := ?_)
       refine Y As ?_
       refine Nq ?_
       refine Rt ?_
       refine Rv [] ?_
       exact ⟨congrArg (Value.int .i64) (fol_a h2 (rep_ok h4) h6 (fun _ => last_no hx29 h10) h12), rfl⟩
    ·
     refine TkF 4 [] rfl (decide_eq_false h8) ?_
     refine TkF 5 [] rfl (decide_eq_false h8) ?_
     refine TkF 6 [] rfl (decide_eq_false h8) ?_
     refine TkF 7 [] rfl (decide_eq_false h8) ?_
     refine TkF 8 [] rfl (decide_eq_false h8) ?_
     refine TkF 9 [] rfl (decide_eq_false h8) ?_
     refine TkF 10 [] rfl (decide_eq_false h8) ?_
     refine TkF 11 [] rfl (decide_eq_false h8) ?_
     refine TkF 12 [] rfl (decide_eq_false h8) ?_
     refine TkF 13 [] rfl (decide_eq_false h8) ?_
     refine Tk 14 [] rfl (PkF (hb := decide_eq_false h8)) ?_
     refine Tk 15 [] rfl As ?_
     refine Anq ?_
     refine CtF rfl ?_
     refine Sk ?_
     refine Pb ?_
     refine Pq ?_
     refine Sr ?_
     refine Y Mv ?_
     refine Y Fa ?_
     refine Y Ld ?_
     refine D (Cf (hs := counting_sp)) ?_
     rintro v37 _ ⟨_, ⟨Z37, hZ37, hz37, rfl⟩, rfl⟩
     obtain ⟨hsx, hnx⟩ := report_small (rep_ok h4)
     have hpZ := hp.mono hZ37
     have hsm : ∀ y ∈ countL l x.known, Small y := fun y hy => (report_small (hr y (count_mem hy))).1
     have hpl : ∀ y ∈ countL l x.known, y.parts.length ≤ 1000 := fun y hy => (report_small (hr y (count_mem hy))).2
     refine D (Cf (hs := stored_sp (hsm := by assumption) (hpl := by assumption))) ?_
     rintro _ _ ⟨_, ⟨Z38, s38, lv38, mb38, ub38, hb38, hZ38, hS38, rfl, rfl⟩, rfl⟩
     have hpZ2 := hpZ.mono hZ38
     refine Y As ?_
     refine Nq ?_
     refine Sq ?_
     refine Sr ?_
     refine Y Fa ?_
     refine Y Ld ?_
     refine Y Eq_ ?_
     refine Nq ?_
     refine Cp (fun h14 => ?_) fun h14 => ?_
     ·
      refine Sr ?_
      refine Y Mv ?_
      refine Y Fa ?_
      refine Y Ld ?_
      refine Cv (hs := releases_sp) (h := ?_)
      refine Y As ?_
      refine Nq ?_
      refine Rt ?_
      refine Rh ?_
      refine Rv [] ?_
      exact ⟨congrArg (Value.int .i64) (fol_8 h2 (rep_ok h4) h6 (fun h_ => absurd h_ h8) h14), rfl⟩
     ·
      refine Sk ?_
      refine Pq ?_
      refine Sr ?_
      refine Y Mv ?_
      refine Y LdN ?_
      refine Cv (hs := admits_sp) (h := ?_)
      refine Y As ?_
      refine Nq ?_
      refine Rt ?_
      refine Rv [] ?_
      exact ⟨congrArg (Value.int .i64) (fol_a h2 (rep_ok h4) h6 (fun h_ => absurd h_ h8) h14), rfl⟩

set_option maxRecDepth 100000 in
set_option maxHeartbeats 4000000 in
theorem check_sp {Z : Hp} {l : List Rep} {lv : Value} (hl : SlZ (EZ Z) Z lv l := by assumption) (hn : l.length ≤ 1000 := by assumption) : Sp Tryz.prog 54 [lv] [.zm Z] fun v H' => v = .tuple #[.int .i64 (checkE l).1, .int .i64 (checkE l).2] ∧ H' = [] := by
 refine Sp.of 25 Tryz.func54 rfl rfl rfl ?_
 intro F
 refine Sr ?_
 refine Y As ?_
 refine Y As ?_
 refine Nq ?_
 refine Sq ?_
 refine Sr ?_
 refine Y Mv ?_
 refine Y Ln ?_
 refine Y Mv ?_
 refine Nq ?_
 refine Bk ?_
 refine Lp (fun n_ l_ H_ => ∃ (i : Nat), n_ = l.length - i ∧ l_ = [(0, lv), (7, lv), (8, .int .i64 (l.length : Int)), (9, .int .i64 (i : Int))] ∧ H_ = .zm Z :: F ∧ (i ≤ l.length) ∧ (∀ j, j < i → folE (l.take j) (l[j]?.getD Rep.zero) = 0) ∧ (∀ y ∈ l.take i, reportB y = true)) ⟨0, rfl, rfl, rfl, (by omega), (by intro j hj; omega), (by simp)⟩ ⟨rfl, rfl, rfl, rfl, trivial⟩ ?_
 rintro _ _ _ ⟨i, rfl, rfl, rfl, hi, hno, hr⟩
 refine Sr ?_
 refine Y Lt ?_
 refine Nq ?_
 refine Sq ?_
 refine Cp (fun h2 => ?_) fun h2 => ?_
 ·
  refine Sk ?_
  refine Pq ?_
  refine Sq ?_
  refine Bk ?_
  refine Sr ?_
  refine Y Mv ?_
  refine IxR fun x12 b12 o12 pv12 hx12 hp12 hc12 => ?_
  refine Y LdN ?_
  refine Dal fun b5 => ?_
  refine Y As ?_
  refine Dsw ?_
  refine Nq ?_
  refine Drq (fun i => false) _ SubH.refl ?_
  refine Tk 0 [] rfl Mv ?_
  refine Tk 1 [] rfl Mv ?_
  refine Tk 2 [] rfl Mv ?_
  have hz17 := SlZ.to hl (i := i) 15 (by omega)
  have hn17 : (l.take i).length ≤ 1000 := by simp; omega
  refine Tk 3 [] rfl (SlT (i := i)) ?_
  refine Tk 4 [] rfl LdN ?_
  refine Gx 5 rfl (Cf (hs := follows_sp)) ?_
  rintro _ _ ⟨_, ⟨rfl, rfl⟩, rfl⟩
  refine ⟨fun _ => (by repeat (first | exact SubH.refl | exact SubH.nil | refine SubH.cons (by repeat (first | exact Pick.head | apply Pick.tail)) ?_ | refine SubH.skip ?_)), ?_⟩
  refine Tk 6 [] rfl As ?_
  refine Anq ?_
  refine Sr ?_
  refine Y Mv ?_
  refine Y Ne_ ?_
  refine Nq ?_
  refine Cn (fun h4 => ?_) fun h4 => ?_
  ·
   refine Sr ?_
   refine Y Mv ?_
   refine Y Mv ?_
   refine Y As ?_
   refine Y As ?_
   refine Nq ?_
   refine Rt ?_
   refine Rb ?_
   refine Rh ?_
   refine Rh ?_
   refine Rb ?_
   refine Rh ?_
   refine Rv2 [] ?_
   rw [← check_found hno hx12 h4]
   exact ⟨rfl, rfl⟩
  ·
   refine Sk ?_
   refine Pb ?_
   refine Pq ?_
   refine Rg ?_
   refine Y Ad ?_
   refine Y Mv ?_
   refine Nl ?_
   refine Re ⟨(i + 1), rfl, rfl, rfl, (by omega), (check_step hno hx12 h4), (reps_step hr hx12 h4)⟩ (by omega) ⟨rfl, rfl, rfl, rfl, trivial⟩
 ·
  refine Ex ?_
  refine Xt ?_
  refine Xt ?_
  refine Xb ?_
  refine Pq ?_
  refine Sr ?_
  refine Y As ?_
  refine Y As ?_
  refine Nq ?_
  refine Rt ?_
  refine Rv2 [] ?_
  rw [← check_none hno (by assumption)]
  exact ⟨rfl, rfl⟩

end Go.Lag

namespace Go.Lag
open Go Go.RowKit Go.Proofs
set_option maxRecDepth 100000 in
set_option maxHeartbeats 4000000 in
theorem alias_sp {Z : Hp} {s : Nat} {l : List Rep} {lv : Value} {mb ub hb : Nat} (hS : StoZ Z s l lv mb ub hb := by assumption) {rank : Int → Nat} (hend : Ends l rank := by assumption) {p : Int} : SpV Tryz.prog 213 [ptr s 0, .int .i64 p] [.zm Z] (.int .i64 (aliasL l p)) := by
 refine Sp.of 26 Tryz.func213 rfl rfl rfl ?_
 intro F
 have hat := hS.at_
 have hls := hS.ls
 have hmk := hS.mm
 have hus := hS.us
 have hhd := hS.hd
 refine Sr ?_
 refine Y As ?_
 refine Nq ?_
 refine Bk ?_
 refine Lp (fun n_ l_ H_ => ∃ (q : Int), n_ = rank q ∧ l_ = [(0, ptr s 0), (1, .int .i64 q)] ∧ H_ = .zm Z :: F ∧ (aliasL l p = aliasL l q)) ⟨p, rfl, rfl, rfl, rfl⟩ ⟨rfl, rfl, trivial⟩ ?_
 rintro _ _ _ ⟨q, rfl, rfl, rfl, hq⟩
 refine Bk ?_
 refine Sr ?_
 refine Y Mv ?_
 refine Y Nc ?_
 refine Y Fa ?_
 refine Y Ld ?_
 refine Y Mv ?_
 obtain ⟨pv13, hp13, hl13⟩ := lookR hus q
 refine Y (LkZ2 hl13) ?_
 refine Y Mv ?_
 refine Y Xc ?_
 refine Y Xc ?_
 refine Dal fun b5 => ?_
 refine Dsw ?_
 refine Y As ?_
 refine Nq ?_
 refine Sq ?_
 refine Sr ?_
 refine Y Mv ?_
 refine Y Nt ?_
 refine Y Mv ?_
 refine Ga 3 2 false 21 (fun h2 => by
  refine Yg h2 Fa ?_
  refine Yg h2 Ld ?_
  refine Yg h2 Ne_ ?_
  exact Gg) ?_
 refine Y PkO ?_
 refine Nq ?_
 refine Ct (fun h5 => ?_) fun h5 => ?_
 ·
  refine Sr ?_
  refine Y Mv ?_
  refine Y As ?_
  refine Nq ?_
  refine Rt ?_
  refine Rh ?_
  refine Rb ?_
  refine Rh ?_
  refine Rb ?_
  refine Rv [] ?_
  exact ⟨congrArg (Value.int .i64) (hq.trans (alias_stop h5)).symm, rfl⟩
 ·
  refine Sk ?_
  refine Pq ?_
  refine Rg ?_
  refine Y Fa ?_
  refine Y Ld ?_
  refine Y As ?_
  refine Nl ?_
  refine Pb ?_
  refine Re ⟨(((aget (userM l) q).getD Rep.zero).parcel), rfl, rfl, rfl, (hq.trans (alias_next hend h5).1)⟩ ((alias_next hend h5).2) ⟨rfl, rfl, trivial⟩

set_option maxRecDepth 100000 in
set_option maxHeartbeats 4000000 in
theorem common1_sp {Z : Hp} {xs : List ByteArray} {sv : Value} {t y : ByteArray} {b : Nat} (hy : xs[0]? = some y) (hx : SlZ ESt Z sv xs := by assumption) : Sp Tryz.prog 331 [.string t, ptr b 0] [.cl b [sv] 260, .zm Z] fun v H' => v = .bool (!decide (t = y)) ∧ [.cl b [sv] 260, .zm Z] = H' := by
 refine Sp.of 9 Tryz.func331 rfl rfl rfl ?_
 intro F
 have hlt := (List.getElem?_eq_some_iff.1 hy).1
 refine Sr ?_
 refine Y As ?_
 refine Nq ?_
 refine Sr ?_
 refine Y Mv ?_
 refine Y Ld ?_
 refine Ix (E := ESt) (fun x6 b6 o6 cs6 hx6 hr6 hc6 => ?_)
 obtain rfl := hr6
 obtain rfl : x6 = y := by have := hx6.symm.trans hy; injection this
 refine Y Ld ?_
 refine Y NeS ?_
 refine Y As ?_
 refine Nq ?_
 refine Rt ?_
 refine Rv [.cl b [sv] 260, .zm Z] ?_
 exact ⟨rfl, rfl⟩

set_option maxRecDepth 100000 in
set_option maxHeartbeats 4000000 in
theorem common_sp {Z : Hp} {xs : List ByteArray} {sv : Value} {t y : ByteArray} (hy : xs[0]? = some y) (hx : SlZ ESt Z sv xs := by assumption) : SpV Tryz.prog 288 [sv, .string t] [.zm Z] (.string (commonL xs t)) := by
 refine Sp.of 12 Tryz.func288 rfl rfl rfl ?_
 intro F
 have hlt := (List.getElem?_eq_some_iff.1 hy).1
 refine Sr ?_
 refine Dbx (fun b2 => ?_)
 refine Y As ?_
 refine Nq ?_
 refine Sq ?_
 refine Sr ?_
 refine Y Ld ?_
 refine Y Mf ?_
 refine D (Cf (hs := anyS_sp (ff := []) (fc := [ptr b2 0]) (preF := [.cl b2 [sv] 260, .zm Z]) (p := fun t_ => !decide (t_ = y)) (fun a _ => common1_sp hy))) ?_
 rintro _ _ ⟨_, ⟨rfl, rfl⟩, rfl⟩
 refine Nq ?_
 refine Ct (fun h2 => ?_) fun h2 => ?_
 ·
  refine Sr ?_
  refine Y Mv ?_
  refine Y As ?_
  refine Nq ?_
  refine Rt ?_
  refine Rh ?_
  refine Rv [] ?_
  exact ⟨congrArg Value.string (common_eq hy _ h2).symm, rfl⟩
 ·
  refine Sk ?_
  refine Pq ?_
  refine Sr ?_
  refine Y Ld ?_
  refine Ix (E := ESt) (fun x10 b10 o10 cs10 hx10 hr10 hc10 => ?_)
  obtain rfl := hr10
  obtain rfl : x10 = y := by have := hx10.symm.trans hy; injection this
  refine Y Ld ?_
  refine Y As ?_
  refine Nq ?_
  refine Rt ?_
  refine Rv [] ?_
  exact ⟨congrArg Value.string (common_eq hy _ h2).symm, rfl⟩

set_option maxRecDepth 100000 in
set_option maxHeartbeats 4000000 in
theorem described_sp {Z : Hp} {s : Nat} {l : List Rep} {lv : Value} {mb ub hb : Nat} (hS : StoZ Z s l lv mb ub hb := by assumption) {rank : Int → Nat} (hmd : Made l rank := by assumption) (hpl : ∀ x ∈ l, x.parts.length ≤ 1000 := by assumption) : ∀ (n : Nat) (p : Int), (aget (makerM l) p).isSome = true → rank p < n → Sp Tryz.prog 221 [ptr s 0, .int .i64 p] [.zm Z] fun v H' => v = .tuple #[.string (descN (makerM l) n p).1, .string (descN (makerM l) n p).2] ∧ H' = [] := by
 intro n
 induction n with
 | zero => intro p hp hn; omega
 | succ n ih =>
 intro p hp hn
 obtain ⟨x, hx⟩ := Option.isSome_iff_exists.1 hp
 have hxl := (maker_mem hx).1
 have hul := usesL_len x (hpl x hxl)
 refine Sp.of 52 Tryz.func221 rfl rfl rfl ?_
 intro F
 have hat := hS.at_
 have hls := hS.ls
 have hmk := hS.mm
 have hus := hS.us
 have hhd := hS.hd
 refine Sr ?_
 refine Y As ?_
 refine Y As ?_
 refine Nq ?_
 refine Sr ?_
 refine Y Mv ?_
 refine Y Nc ?_
 refine Y Fa ?_
 refine Y Ld ?_
 refine Y Mv ?_
 obtain ⟨pv18, hp18, hl18⟩ := lookR' hmk hx
 refine Y (LkZ hl18) ?_
 refine Dal fun b6 => ?_
 refine Dsw ?_
 refine Nq ?_
 refine Sq ?_
 refine Sr ?_
 refine Y Fa ?_
 refine Y Ld ?_
 refine Y Eq_ ?_
 refine Nq ?_
 refine Cp (fun h2 => ?_) fun h2 => ?_
 ·
  refine Drq (fun i => false) _ SubH.refl ?_
  refine Tk 0 [] rfl Fa ?_
  refine Tk 1 [] rfl Ld ?_
  refine Tk 2 [] rfl Fa ?_
  refine Tk 3 [] rfl Ld ?_
  refine Tk 4 [] rfl As ?_
  refine Tk 5 [] rfl As ?_
  refine Anq ?_
  refine Rt ?_
  refine Rh ?_
  refine Rv2 [] ?_
  rw [desc_found hx h2]
  exact ⟨rfl, rfl⟩
 ·
  refine Sk ?_
  refine Pq ?_
  refine Sr ?_
  have hk := h2
  refine Y As ?_
  refine Y As ?_
  refine Nq ?_
  refine Sq ?_
  refine Sr ?_
  refine Y LdN ?_
  refine D (Cf (hs := uses_sp)) ?_
  rintro v27 _ ⟨_, ⟨Z27, hz27, rfl⟩, rfl⟩
  refine Y Ln ?_
  refine Y Mv ?_
  refine Nq ?_
  refine Bk ?_
  refine NilRwW ESt 9 ?_
  refine NilRwW ESt 9 ?_
  refine Lp (fun n_ l_ H_ => ∃ (i : Nat) (va : Value) (vm : Value) (xs1 : List ByteArray) (xs2 : List ByteArray), n_ = (usesL x).length - i ∧ l_ = [(0, ptr s 0), (7, va), (8, vm), (27, v27), (28, .int .i64 ((usesL x).length : Int)), (29, .int .i64 (i : Int))] ∧ H_ = .rw ESt 9 va xs1 :: .rw ESt 9 vm xs2 :: .zm Z :: .zm Z27 :: F ∧ (i ≤ (usesL x).length) ∧ (xs1 = ((usesL x).take i).map fun q => (descN (makerM l) n q).1) ∧ (xs2 = ((usesL x).take i).map fun q => (descN (makerM l) n q).2) ∧ (xs1.length = i ∧ xs2.length = i)) ⟨0, (.slice none 0 0), (.slice none 0 0), [], [], rfl, rfl, rfl, (by omega), (by simp), (by simp), (by simp)⟩ ⟨rfl, rfl, rfl, rfl, rfl, rfl, trivial⟩ ?_
  rintro _ _ _ ⟨i, va, vm, xs1, xs2, rfl, rfl, rfl, hi, h1, h2, hc⟩
  obtain ⟨hl1, hl2⟩ := hc
  refine Sr ?_
  refine Y Lt ?_
  refine Nq ?_
  refine Sq ?_
  refine Cp (fun h4 => ?_) fun h4 => ?_
  ·
   refine Sk ?_
   refine Pq ?_
   refine Sq ?_
   refine Bk ?_
   refine Sr ?_
   refine IxF (fun x => [.int .i64 x]) (fun x31 b31 o31 hx31 hc31 => ?_)
   refine Y Ld ?_
   refine Y As ?_
   refine Nq ?_
   refine Sr ?_
   refine Y Mv ?_
   refine Y Mv ?_
   refine D (Cf (hs := ih x31 (hmd.lt p x hx hk _ (mem_get hx31)).1 (by have := (hmd.lt p x hx hk _ (mem_get hx31)).2; omega))) ?_
   rintro _ _ ⟨_, ⟨rfl, rfl⟩, rfl⟩
   refine Y Mv ?_
   refine Y Xc ?_
   refine Y Xc ?_
   refine Y As ?_
   refine Y As ?_
   refine Nq ?_
   refine Rg ?_
   refine Y Mv ?_
   refine Y Mv ?_
   refine D Bs ?_
   rintro _ _ ⟨b41, rfl, rfl⟩
   refine D (Ap1 ((descN (makerM l) n x31).1)) ?_
   rintro v42 _ rfl
   refine Y Mv ?_
   refine Y Mv ?_
   refine D Bs ?_
   rintro _ _ ⟨b45, rfl, rfl⟩
   refine D (Ap1 ((descN (makerM l) n x31).2)) ?_
   rintro v46 _ rfl
   refine Y As ?_
   refine Y As ?_
   refine Nl ?_
   refine Pb ?_
   refine Pq ?_
   refine Rg ?_
   refine Y Ad ?_
   refine Y Mv ?_
   refine Nl ?_
   refine Re ⟨(i + 1), v42, v46, (xs1 ++ [(descN (makerM l) n x31).1]), (xs2 ++ [(descN (makerM l) n x31).2]), rfl, rfl, rfl, (by omega), (by rw [h1]; exact map_take_succ hx31), (by rw [h2]; exact map_take_succ hx31), (by simp [hl1, hl2])⟩ (by omega) ⟨rfl, rfl, rfl, rfl, rfl, rfl, trivial⟩
  ·
   refine Ex ?_
   refine Xt ?_
   refine Xt ?_
   refine Xb ?_
   refine Pq ?_
   refine Sr ?_
   refine Y Mv ?_
   rw [map_take_end (by assumption)] at h1
   rw [map_take_end (by assumption)] at h2
   subst h1 h2
   refine Fz (E := ESt) (v := va) fun Za hza => ?_
   refine Fz (E := ESt) (v := vm) fun Zm hzm => ?_
   obtain ⟨q0, hq0⟩ : ∃ q, (usesL x)[0]? = some q := by cases hu : usesL x with | nil => exact absurd hu (hmd.ne p x hx hk) | cons a b => exact ⟨a, rfl⟩
   refine Cv (hs := common_sp (hx := hza) (hy := by rw [List.getElem?_map, hq0]; rfl)) (h := ?_)
   refine Y Mv ?_
   refine Cv (hs := common_sp (hx := hzm) (hy := by rw [List.getElem?_map, hq0]; rfl)) (h := ?_)
   refine Y As ?_
   refine Y As ?_
   refine Nq ?_
   refine Rt ?_
   refine Rv2 [] ?_
   rw [desc_other hx hk]
   exact ⟨rfl, rfl⟩

end Go.Lag

namespace Go.Lag
open Go Go.RowKit Go.Proofs
set_option maxRecDepth 100000 in
set_option maxHeartbeats 4000000 in
theorem weighs1_seq {Z : Hp} {s : Nat} {l : List Rep} {lv : Value} {mb ub hb : Nat} (hS : StoZ Z s l lv mb ub hb := by assumption) {rank : Int → Nat} (hend : Ends l rank := by assumption) (hsm : ∀ x ∈ l, Small x := by assumption) {p : Int} {b1 b2 : Nat} : SeqH Tryz.prog 212 [ptr b1 0, ptr b2 0] [.cl b1 [ptr s 0] 119, .cl b2 [.int .i64 p] 3, .zm Z] (RZ Z) (fun xs => xs = weighL l p) := by
 refine SeqH.of 43 Tryz.func212 rfl rfl rfl ?_
 intro F
 intro J Jx H0 hY h0
 have hat := hS.at_
 have hls := hS.ls
 have hmk := hS.mm
 have hus := hS.us
 have hhd := hS.hd
 have hlen := hls.len_le
 refine Sr ?_
 refine Y Ld ?_
 refine Y Nc ?_
 refine Y Fa ?_
 refine Y Ld ?_
 refine Y Ln ?_
 refine Y Mv ?_
 refine Nq ?_
 refine Bk ?_
 refine Lp (fun n_ l_ H_ => ∃ (i : Nat) (H1 : List Assn), n_ = l.length - i ∧ l_ = [(0, .func (.yield F) #[] #[]), (1, ptr b1 0), (2, ptr b2 0), (10, lv), (11, .int .i64 (l.length : Int)), (12, .int .i64 (i : Int))] ∧ H_ = .cl b1 [ptr s 0] 119 :: .cl b2 [.int .i64 p] 3 :: .zm Z :: H1 ∧ (i ≤ l.length) ∧ (J ((l.take i).filter (wB l p)) H1)) ⟨0, H0, rfl, rfl, rfl, (by omega), (by simpa using h0)⟩ ⟨rfl, rfl, rfl, rfl, rfl, rfl, trivial⟩ ?_
 rintro _ _ _ ⟨i, H1, rfl, rfl, rfl, hi, hJ⟩
 refine Sr ?_
 refine Y Lt ?_
 refine Nq ?_
 refine Sq ?_
 refine Cp (fun h2 => ?_) fun h2 => ?_
 ·
  refine Sk ?_
  refine Pq ?_
  refine Sq ?_
  refine Bk ?_
  refine Sr ?_
  refine IxR fun x14 b14 o14 pv14 hx14 hp14 hc14 => ?_
  refine Y LdN ?_
  refine Dal fun b5 => ?_
  refine Dsw ?_
  refine Nq ?_
  refine Sr ?_
  refine Y As ?_
  refine Nq ?_
  refine Cut (fun l_ H_ => ∃ ab, ab = aboutN x14 ∧ l_ = [(0, .func (.yield F) #[] #[]), (1, ptr b1 0), (2, ptr b2 0), (5, ptr b5 0), (6, .int .i64 ab), (10, lv), (11, .int .i64 (l.length : Int)), (12, .int .i64 (i : Int))] ∧ H_ = .cl b5 (repCells x14 pv14) 92 :: .cl b1 [ptr s 0] 119 :: .cl b2 [.int .i64 p] 3 :: .zm Z :: H1) ?_ ?_
  ·
   refine Sr ?_
   obtain ⟨hs1, hs2, hs3, hs4⟩ := hsm x14 (mem_get hx14)
   refine Y Fa ?_
   refine Y Ld ?_
   refine Nq ?_
   refine Bk ?_
   refine Sr ?_
   refine Y Eq_ ?_
   refine Y As ?_
   refine Nq ?_
   refine Cp (fun h4 => ?_) fun h4 => ?_
   ·
    refine Rg ?_
    refine Y Fa ?_
    refine Y Ld ?_
    refine Y Ml ?_
    refine Y As ?_
    refine Nl ?_
    refine Pb ?_
    refine Cx ⟨_, (by simp [aboutN, *]), rfl, rfl⟩ ⟨rfl, rfl, rfl, rfl, rfl, rfl, rfl, rfl, trivial⟩
   ·
    refine Sr ?_
    refine Y Eq_ ?_
    refine Y As ?_
    refine Nq ?_
    refine Cp (fun h6 => ?_) fun h6 => ?_
    ·
     refine Rg ?_
     refine Y Fa ?_
     refine Y Ld ?_
     refine Y As ?_
     refine Nl ?_
     refine Pb ?_
     refine Cx ⟨_, (by simp [aboutN, *]), rfl, rfl⟩ ⟨rfl, rfl, rfl, rfl, rfl, rfl, rfl, rfl, trivial⟩
    ·
     refine Sk ?_
     refine Pb ?_
     refine Cx ⟨_, (by simp [aboutN, *]), rfl, rfl⟩ ⟨rfl, rfl, rfl, rfl, rfl, rfl, rfl, rfl, trivial⟩
  ·
   rintro _ _ ⟨_, rfl, rfl, rfl⟩
   refine Drq (fun i => false) [.cl b1 [ptr s 0] 119, .cl b2 [.int .i64 p] 3, .zm Z, .cl b5 (repCells x14 pv14) 92] (by repeat (first | exact SubH.refl | exact SubH.nil | refine SubH.cons (by repeat (first | exact Pick.head | apply Pick.tail)) ?_ | refine SubH.skip ?_)) ?_
   refine Tk 0 [] rfl Mv ?_
   refine Tk 1 [] rfl Gr ?_
   refine Tk 2 [] rfl Mv ?_
   refine GcDA 28 (fun h8 => ?_) fun h8 => ?_
   ·
    refine TkG 3 [] rfl (decide_eq_true h8) Ld ?_
    refine TkG 4 [] rfl (decide_eq_true h8) Mv ?_
    refine TkG 6 [] rfl (decide_eq_true h8) Ld ?_
    refine GxG 5 rfl (decide_eq_true h8) (Cf (hs := alias_sp)) ?_
    rintro _ _ ⟨_, ⟨rfl, rfl⟩, rfl⟩
    refine ⟨fun _ => (by repeat (first | exact SubH.refl | exact SubH.nil | refine SubH.cons (by repeat (first | exact Pick.head | apply Pick.tail)) ?_ | refine SubH.skip ?_)), ?_⟩
    refine TkG 7 [] rfl (decide_eq_true h8) Eq_ ?_
    refine Tk 8 [] rfl (PkT (hb := decide_eq_true h8)) ?_
    refine Tk 9 [] rfl Mv ?_
    refine GcDA 34 (fun h10 => ?_) fun h10 => ?_
    ·
     refine TkG 10 [] rfl (decide_eq_true h10) Mv ?_
     refine TkG 11 [] rfl (decide_eq_true h10) LdN ?_
     refine GxG 12 rfl (decide_eq_true h10) (Yc (hY _ x14 _ _ hJ ⟨_, rfl, hp14⟩ ⟨_, rfl, pre_filter hx14 (by simp [wB, *])⟩)) ?_
     rintro _ _ ⟨b39, H2, hb39, rfl, rfl⟩
     refine ⟨fun _ => (by repeat (first | exact SubH.refl | exact SubH.nil | refine SubH.cons (by repeat (first | exact Pick.head | apply Pick.tail)) ?_ | refine SubH.skip ?_)), ?_⟩
     refine TkG 13 [] rfl (decide_eq_true h10) Nt ?_
     refine Tk 14 [] rfl (PkT (hb := decide_eq_true h10)) ?_
     refine Anq ?_
     refine Ct (fun h12 => ?_) fun h12 => ?_
     ·
      have h13 := nb_i h12
      refine Rt ?_
      refine Rb ?_
      refine Rh ?_
      refine Rh ?_
      refine Rb ?_
      refine RvQ H2 (.inr ?_)
      simpa [h13] using hb39
     ·
      have h14 := nb_g h12
      refine Sk ?_
      refine Pb ?_
      refine Pq ?_
      refine Rg ?_
      refine Y Ad ?_
      refine Y Mv ?_
      refine Nl ?_
      refine Re ⟨(i + 1), H2, rfl, rfl, rfl, (by omega), (by rw [← filter_take_t (p := wB l p) hx14 rfl (by simp [wB, h8, h10])]; simpa [h14] using hb39)⟩ (by omega) ⟨rfl, rfl, rfl, rfl, rfl, rfl, trivial⟩
    ·
     refine TkF 10 [] rfl (decide_eq_false h10) ?_
     refine TkF 11 [] rfl (decide_eq_false h10) ?_
     refine TkF 12 [] rfl (decide_eq_false h10) ?_
     refine TkF 13 [] rfl (decide_eq_false h10) ?_
     refine Tk 14 [] rfl (PkF (hb := decide_eq_false h10)) ?_
     refine Anq ?_
     refine CtF rfl ?_
     refine Sk ?_
     refine Pb ?_
     refine Pq ?_
     refine Rg ?_
     refine Y Ad ?_
     refine Y Mv ?_
     refine Nl ?_
     refine Re ⟨(i + 1), H1, rfl, rfl, rfl, (by omega), (by rw [← filter_take_f (p := wB l p) hx14 rfl (by simp [wB, h10])]; exact hJ)⟩ (by omega) ⟨rfl, rfl, rfl, rfl, rfl, rfl, trivial⟩
   ·
    refine TkF 3 [] rfl (decide_eq_false h8) ?_
    refine TkF 4 [] rfl (decide_eq_false h8) ?_
    refine TkF 6 [] rfl (decide_eq_false h8) ?_
    refine TkF 5 [] rfl (decide_eq_false h8) ?_
    refine TkF 7 [] rfl (decide_eq_false h8) ?_
    refine Tk 8 [] rfl (PkF (hb := decide_eq_false h8)) ?_
    refine Tk 9 [] rfl Mv ?_
    refine TkF 10 [] rfl rfl ?_
    refine TkF 11 [] rfl rfl ?_
    refine TkF 12 [] rfl rfl ?_
    refine TkF 13 [] rfl rfl ?_
    refine Tk 14 [] rfl (PkF (hb := rfl)) ?_
    refine Anq ?_
    refine CtF rfl ?_
    refine Sk ?_
    refine Pb ?_
    refine Pq ?_
    refine Rg ?_
    refine Y Ad ?_
    refine Y Mv ?_
    refine Nl ?_
    refine Re ⟨(i + 1), H1, rfl, rfl, rfl, (by omega), (by rw [← filter_take_f (p := wB l p) hx14 rfl (by simp [wB, h8])]; exact hJ)⟩ (by omega) ⟨rfl, rfl, rfl, rfl, rfl, rfl, trivial⟩
 ·
  refine Ex ?_
  refine Xt ?_
  refine Xt ?_
  refine Xb ?_
  refine RnQ H1 (.inl ⟨_, rfl, ?_⟩)
  show J (l.filter (wB l p)) H1
  rw [← filter_take_end rfl (by assumption)]
  exact hJ

set_option maxRecDepth 100000 in
set_option maxHeartbeats 4000000 in
theorem weighs_sp {s : Nat} {p : Int} : Sp Tryz.prog 124 [ptr s 0, .int .i64 p] [] fun v H' => ∃ b1 b2, v = .func (.func 212) #[] #[ptr b1 0, ptr b2 0] ∧ H' = [.cl b1 [ptr s 0] 119, .cl b2 [.int .i64 p] 3] := by
 refine Sp.of 6 Tryz.func124 rfl rfl rfl ?_
 intro F
 refine Sr ?_
 refine Dbx (fun b2 => ?_)
 refine Dbx (fun b3 => ?_)
 refine Y As ?_
 refine Nq ?_
 refine Sr ?_
 refine Y Mf ?_
 refine Y As ?_
 refine Nq ?_
 refine Rt ?_
 refine Rv [.cl b2 [ptr s 0] 119, .cl b3 [.int .i64 p] 3] ?_
 exact ⟨b2, b3, rfl, rfl⟩

end Go.Lag

namespace Go.Lag
open Go Go.RowKit Go.Proofs
set_option maxRecDepth 100000 in
set_option maxHeartbeats 4000000 in
theorem parcel_sp {Z : Hp} {s : Nat} {l : List Rep} {lv : Value} {mb ub hb : Nat} (hS : StoZ Z s l lv mb ub hb := by assumption) {rank rank2 : Int → Nat} (hmd : Made l rank := by assumption) (hend : Ends l rank2 := by assumption) (hsm : ∀ x ∈ l, Small x := by assumption) (hpl : ∀ x ∈ l, x.parts.length ≤ 1000 := by assumption) {p : Int} {n : Nat} (hp : (aget (makerM l) p).isSome = true) (hn : rank p < n) : SpV Tryz.prog 137 [ptr s 0, .int .i64 p] [.zm Z] (parV (parcelP l n p)) := by
 refine Sp.ofM 78 Tryz.func137 rfl rfl rfl ?_
 intro F
 obtain ⟨x, hx⟩ := Option.isSome_iff_exists.1 hp
 have hds := @described_sp Z s l lv mb ub hb hS rank hmd hpl n p hp hn
 have hat := hS.at_
 have hls := hS.ls
 have hmk := hS.mm
 have hus := hS.us
 have hhd := hS.hd
 refine Sr ?_
 refine Dal fun b4 => ?_
 refine Nq ?_
 refine Sr ?_
 refine Y Mv ?_
 refine Y Nc ?_
 refine Y Fa ?_
 refine Y Ld ?_
 refine Y Mv ?_
 obtain ⟨pv13, hp13, hl13⟩ := lookR' hmk hx
 refine Y (LkZ hl13) ?_
 refine Dal fun b5 => ?_
 refine Dsw ?_
 refine Nq ?_
 refine Cut (fun l_ H_ => ∃ b6 hv, hv = (thereB l p && hidB l p) ∧ l_ = [(0, ptr s 0), (1, .int .i64 p), (4, ptr b4 0), (5, ptr b5 0), (6, ptr b6 0)] ∧ H_ = .cl b4 (parCells Par.zero) 42 :: .cl b5 (repCells x pv13) 92 :: .cl b6 (parCells ⟨p, x.id, ((aget (userM l) p).getD Rep.zero).id, noBytes, noBytes, 1, 100000000, 0, 0, x.hour, false, hv⟩) 42 :: .zm Z :: F) ?_ ?_
 ·
  refine Dr (fun i => Nat.beq i 26) _ SubH.refl ?_
  refine Tk 0 [24, 26] rfl Mv ?_
  refine Tk 1 [2, 24, 26] rfl Fa ?_
  refine Tk 2 [24, 26] rfl Ld ?_
  refine Tk 3 [4, 5, 6, 8, 9, 24, 26] rfl Mv ?_
  refine Tk 4 [5, 6, 8, 9, 24, 26] rfl Nc ?_
  refine Tk 5 [6, 8, 9, 24, 26] rfl Fa ?_
  refine Tk 6 [8, 9, 24, 26] rfl Ld ?_
  refine Tk 7 [8, 9, 24, 26] rfl Mv ?_
  obtain ⟨pv22, hp22, hl22⟩ := lookR hus p
  refine Tk 8 [9, 24, 26] rfl (LkZ hl22) ?_
  refine Tk 9 [24, 26] rfl Fd ?_
  refine Tk 10 [11, 24, 26] rfl Fa ?_
  refine Tk 11 [24, 26] rfl Ld ?_
  refine Tk 12 [14, 15, 16, 17, 18, 19, 20, 21, 22, 24, 26] rfl Mv ?_
  refine Tk 13 [14, 15, 16, 17, 18, 19, 20, 21, 22, 24, 26] rfl Mv ?_
  refine Tk 23 [24, 26] rfl (Bd (cs := [.int .i64 1, .int .i64 100000000].toArray)) ?_
  refine Tw 14 25 ?_ ?_
  ·
   refine Og rfl (Cf (hs := there_sp)) ?_
   rintro _ _ ⟨_, ⟨rfl, rfl⟩, rfl⟩
   refine ⟨fun _ => (by repeat (first | exact SubH.refl | exact SubH.nil | refine SubH.cons (by repeat (first | exact Pick.head | apply Pick.tail)) ?_ | refine SubH.skip ?_)), ?_⟩
   refine Tk 15 [16, 17, 18, 19, 20, 21, 22, 24, 26] rfl Mv ?_
   refine GcBA 28 (fun h2 => ?_) fun h2 => ?_
   ·
    refine TkG 16 [17, 18, 19, 21, 22, 24, 26] rfl h2 Mv ?_
    refine TkG 17 [18, 19, 21, 22, 24, 26] rfl h2 Nc ?_
    refine TkG 18 [19, 21, 22, 24, 26] rfl h2 Fa ?_
    refine TkG 19 [21, 22, 24, 26] rfl h2 Ld ?_
    refine TkG 20 [21, 22, 24, 26] rfl h2 Mv ?_
    refine TkG 21 [22, 24, 26] rfl h2 LkB ?_
    refine Tk 22 [24, 26] rfl (PkT (hb := h2)) ?_
    refine Tk 24 [26] rfl (Bd (hf := by kernel_rfl) (cs := (parCells ⟨p, x.id, ((aget (userM l) p).getD Rep.zero).id, noBytes, noBytes, 1, 100000000, 0, 0, x.hour, false, ((aget (hidM l) p).getD false)⟩).toArray)) ?_
    refine Gx 25 rfl Al ?_
    rintro _ _ ⟨b6, rfl, rfl⟩
    refine ⟨fun _ => (by repeat (first | exact SubH.refl | exact SubH.nil | refine SubH.cons (by repeat (first | exact Pick.head | apply Pick.tail)) ?_ | refine SubH.skip ?_)), ?_⟩
    refine Gxn 26 rfl St ?_
    rintro _ _ rfl
    refine ⟨fun h_ => absurd h_ (by decide), ?_⟩
    refine An ?_
    refine Cx ⟨b6, ((aget (hidM l) p).getD false), (by simp [hidB, *]), rfl, rfl⟩ ⟨rfl, rfl, rfl, rfl, rfl, trivial⟩
   ·
    refine TkF 16 [17, 18, 19, 21, 22, 24, 26] rfl h2 ?_
    refine TkF 17 [18, 19, 21, 22, 24, 26] rfl h2 ?_
    refine TkF 18 [19, 21, 22, 24, 26] rfl h2 ?_
    refine TkF 19 [21, 22, 24, 26] rfl h2 ?_
    refine TkF 20 [21, 22, 24, 26] rfl h2 ?_
    refine TkF 21 [22, 24, 26] rfl h2 ?_
    refine Tk 22 [24, 26] rfl (PkF (hb := h2)) ?_
    refine Tk 24 [26] rfl (Bd (hf := by kernel_rfl) (cs := (parCells ⟨p, x.id, ((aget (userM l) p).getD Rep.zero).id, noBytes, noBytes, 1, 100000000, 0, 0, x.hour, false, false⟩).toArray)) ?_
    refine Gx 25 rfl Al ?_
    rintro _ _ ⟨b6, rfl, rfl⟩
    refine ⟨fun _ => (by repeat (first | exact SubH.refl | exact SubH.nil | refine SubH.cons (by repeat (first | exact Pick.head | apply Pick.tail)) ?_ | refine SubH.skip ?_)), ?_⟩
    refine Gxn 26 rfl St ?_
    rintro _ _ rfl
    refine ⟨fun h_ => absurd h_ (by decide), ?_⟩
    refine An ?_
    refine Cx ⟨b6, false, (by simp [hidB, *]), rfl, rfl⟩ ⟨rfl, rfl, rfl, rfl, rfl, trivial⟩
  ·
   refine Og rfl Al ?_
   rintro _ _ ⟨b6, rfl, rfl⟩
   refine ⟨fun _ => (by repeat (first | exact SubH.refl | exact SubH.nil | refine SubH.cons (by repeat (first | exact Pick.head | apply Pick.tail)) ?_ | refine SubH.skip ?_)), ?_⟩
   refine Gx 14 rfl (Cf (hs := there_sp)) ?_
   rintro _ _ ⟨_, ⟨rfl, rfl⟩, rfl⟩
   refine ⟨fun _ => (by repeat (first | exact SubH.refl | exact SubH.nil | refine SubH.cons (by repeat (first | exact Pick.head | apply Pick.tail)) ?_ | refine SubH.skip ?_)), ?_⟩
   refine Tk 15 [16, 17, 18, 19, 20, 21, 22, 24, 26] rfl Mv ?_
   refine GcBA 28 (fun h5 => ?_) fun h5 => ?_
   ·
    refine TkG 16 [17, 18, 19, 21, 22, 24, 26] rfl h5 Mv ?_
    refine TkG 17 [18, 19, 21, 22, 24, 26] rfl h5 Nc ?_
    refine TkG 18 [19, 21, 22, 24, 26] rfl h5 Fa ?_
    refine TkG 19 [21, 22, 24, 26] rfl h5 Ld ?_
    refine TkG 20 [21, 22, 24, 26] rfl h5 Mv ?_
    refine TkG 21 [22, 24, 26] rfl h5 LkB ?_
    refine Tk 22 [24, 26] rfl (PkT (hb := h5)) ?_
    refine Tk 24 [26] rfl (Bd (hf := by kernel_rfl) (cs := (parCells ⟨p, x.id, ((aget (userM l) p).getD Rep.zero).id, noBytes, noBytes, 1, 100000000, 0, 0, x.hour, false, ((aget (hidM l) p).getD false)⟩).toArray)) ?_
    refine Gxn 26 rfl St ?_
    rintro _ _ rfl
    refine ⟨fun h_ => absurd h_ (by decide), ?_⟩
    refine An ?_
    refine Cx ⟨b6, ((aget (hidM l) p).getD false), (by simp [hidB, *]), rfl, rfl⟩ ⟨rfl, rfl, rfl, rfl, rfl, trivial⟩
   ·
    refine TkF 16 [17, 18, 19, 21, 22, 24, 26] rfl h5 ?_
    refine TkF 17 [18, 19, 21, 22, 24, 26] rfl h5 ?_
    refine TkF 18 [19, 21, 22, 24, 26] rfl h5 ?_
    refine TkF 19 [21, 22, 24, 26] rfl h5 ?_
    refine TkF 20 [21, 22, 24, 26] rfl h5 ?_
    refine TkF 21 [22, 24, 26] rfl h5 ?_
    refine Tk 22 [24, 26] rfl (PkF (hb := h5)) ?_
    refine Tk 24 [26] rfl (Bd (hf := by kernel_rfl) (cs := (parCells ⟨p, x.id, ((aget (userM l) p).getD Rep.zero).id, noBytes, noBytes, 1, 100000000, 0, 0, x.hour, false, false⟩).toArray)) ?_
    refine Gxn 26 rfl St ?_
    rintro _ _ rfl
    refine ⟨fun h_ => absurd h_ (by decide), ?_⟩
    refine An ?_
    refine Cx ⟨b6, false, (by simp [hidB, *]), rfl, rfl⟩ ⟨rfl, rfl, rfl, rfl, rfl, trivial⟩
 ·
  rintro _ _ ⟨b6, _, rfl, rfl, rfl⟩
  refine Sr ?_
  refine Y Mv ?_
  refine Y Mv ?_
  refine D (Cf (hs := hds)) ?_
  rintro _ _ ⟨_, ⟨rfl, rfl⟩, rfl⟩
  refine Y Mv ?_
  refine Y Xc ?_
  refine Y Xc ?_
  refine Y Fa ?_
  refine Dst ?_
  refine Y Fa ?_
  refine Dst ?_
  refine Nq ?_
  refine Cut (fun l_ H_ => ∃ fi ce fo, fi = (if x.kind = 1 then x.party else 0) ∧ ce = (if x.kind = 1 then x.cell else 0) ∧ fo = decide (x.kind = 1) ∧ l_ = [(0, ptr s 0), (1, .int .i64 p), (4, ptr b4 0), (6, ptr b6 0)] ∧ H_ = .cl b6 (parCells ⟨p, x.id, ((aget (userM l) p).getD Rep.zero).id, (descN (makerM l) n p).2, (descN (makerM l) n p).1, 1, 100000000, fi, ce, x.hour, fo, thereB l p && hidB l p⟩) 42 :: .cl b4 (parCells Par.zero) 42 :: .zm Z :: F) ?_ ?_
  ·
   refine Sr ?_
   refine Nm b6 (parCells ⟨p, x.id, ((aget (userM l) p).getD Rep.zero).id, (descN (makerM l) n p).2, (descN (makerM l) n p).1, 1, 100000000, 0, 0, x.hour, false, thereB l p && hidB l p⟩) ?_
   refine Y Fa ?_
   refine Y Ld ?_
   refine Y Eq_ ?_
   refine Nq ?_
   refine Cp (fun h8 => ?_) fun h8 => ?_
   ·
    refine Dr (fun i => false) [.cl b5 (repCells x pv13) 92] (by repeat (first | exact SubH.refl | exact SubH.nil | refine SubH.cons (by repeat (first | exact Pick.head | apply Pick.tail)) ?_ | refine SubH.skip ?_)) ?_
    refine Tk 0 [] rfl Fa ?_
    refine Tk 1 [] rfl Ld ?_
    refine Tk 2 [] rfl Fa ?_
    refine Tk 3 [] rfl Ld ?_
    refine Tk 4 [] rfl Fa ?_
    refine Gxn 5 rfl St ?_
    rintro _ _ rfl
    refine ⟨fun _ => (by repeat (first | exact SubH.refl | exact SubH.nil | refine SubH.cons (by repeat (first | exact Pick.head | apply Pick.tail)) ?_ | refine SubH.skip ?_)), ?_⟩
    refine Tk 6 [] rfl Fa ?_
    refine Gxn 7 rfl St ?_
    rintro _ _ rfl
    refine ⟨fun _ => (by repeat (first | exact SubH.refl | exact SubH.nil | refine SubH.cons (by repeat (first | exact Pick.head | apply Pick.tail)) ?_ | refine SubH.skip ?_)), ?_⟩
    refine Tk 8 [] rfl Fa ?_
    refine Gxn 9 rfl St ?_
    rintro _ _ rfl
    refine ⟨fun _ => (by repeat (first | exact SubH.refl | exact SubH.nil | refine SubH.cons (by repeat (first | exact Pick.head | apply Pick.tail)) ?_ | refine SubH.skip ?_)), ?_⟩
    refine An ?_
    refine Cx ⟨x.party, x.cell, true, (by simp [*]), (by simp [*]), (by simp [*]), rfl, rfl⟩ ⟨rfl, rfl, rfl, rfl, trivial⟩
   ·
    refine Sk ?_
    refine Cx ⟨0, 0, false, (by simp [*]), (by simp [*]), (by simp [*]), rfl, rfl⟩ ⟨rfl, rfl, rfl, rfl, trivial⟩
  ·
   rintro _ _ ⟨_, _, _, rfl, rfl, rfl, rfl, rfl⟩
   refine Sq ?_
   refine Sr ?_
   refine Y Mv ?_
   refine Y Mv ?_
   refine D (Cf (hs := weighs_sp)) ?_
   rintro _ _ ⟨_, ⟨bs59, bp59, rfl, rfl⟩, rfl⟩
   refine Nq ?_
   refine Bk ?_
   refine Rf (p := 60) (weighs1_seq (rank := rank2)) (fun pre H_ => H_ = .cl b6 (parCells ⟨p, x.id, ((aget (userM l) p).getD Rep.zero).id, (descN (makerM l) n p).2, (descN (makerM l) n p).1, (lowF 1 pre), (highF 100000000 pre), (if x.kind = 1 then x.party else 0), (if x.kind = 1 then x.cell else 0), x.hour, decide (x.kind = 1), thereB l p && hidB l p⟩) 42 :: .cl b4 (parCells Par.zero) 42 :: .zm Z :: F) (fun _ _ => False) (.cl b6 (parCells ⟨p, x.id, ((aget (userM l) p).getD Rep.zero).id, (descN (makerM l) n p).2, (descN (makerM l) n p).1, (lowF 1 []), (highF 100000000 []), (if x.kind = 1 then x.party else 0), (if x.kind = 1 then x.cell else 0), x.hour, decide (x.kind = 1), thereB l p && hidB l p⟩) 42 :: .cl b4 (parCells Par.zero) 42 :: .zm Z :: F) rfl ?_ ?_ (fun _ _ _ h => h.elim)
   ·
    intro F2 L D rc pre y v H1 hJ hE hpre
    subst hJ
    obtain ⟨pv60, rfl, hp60⟩ := hE
    refine Rg ?_
    refine Dal fun b7 => ?_
    refine Dsw ?_
    refine Nl ?_
    refine Bg2 ?_
    refine Bk ?_
    refine Rg ?_
    refine Y Fa ?_
    refine Y Fa ?_
    refine Y Ld ?_
    refine Y Fa ?_
    refine Y Fa ?_
    refine Y Ld ?_
    refine Y Mx ?_
    refine Y Fa ?_
    refine Y Fa ?_
    refine Y Ld ?_
    refine Y Fa ?_
    refine Y Fa ?_
    refine Y Ld ?_
    refine Y Mn ?_
    refine Y (Bd (cs := [.int .i64 (max (lowF 1 pre) y.low), .int .i64 (min (highF 100000000 pre) y.high)].toArray)) ?_
    refine Y Fa ?_
    refine Dst ?_
    refine Nl ?_
    refine Pb ?_
    refine Fe (.cl b6 (parCells ⟨p, x.id, ((aget (userM l) p).getD Rep.zero).id, (descN (makerM l) n p).2, (descN (makerM l) n p).1, (max (lowF 1 pre) y.low), (min (highF 100000000 pre) y.high), (if x.kind = 1 then x.party else 0), (if x.kind = 1 then x.cell else 0), x.hour, decide (x.kind = 1), thereB l p && hidB l p⟩) 42 :: .cl b4 (parCells Par.zero) 42 :: .zm Z :: F) (by rw [lowF_snoc, highF_snoc])
   ·
    intro D xs H1 hS hJ
    subst hS hJ
    refine Pb ?_
    refine Pq ?_
    refine Sr ?_
    refine Y LdN ?_
    refine Dst ?_
    refine Nm b4 (parCells ⟨p, x.id, ((aget (userM l) p).getD Rep.zero).id, (descN (makerM l) n p).2, (descN (makerM l) n p).1, (lowF 1 (weighL l p)), (highF 100000000 (weighL l p)), (if x.kind = 1 then x.party else 0), (if x.kind = 1 then x.cell else 0), x.hour, decide (x.kind = 1), thereB l p && hidB l p⟩) ?_
    refine Nq ?_
    refine Rt ?_
    refine RvM1 (xs := [.cell 4 42]) [] (by repeat (first | exact Pick.head | apply Pick.tail)) (ResH.cell ResH.nil) ?_
    rw [show parcelP l n p = ⟨p, x.id, ((aget (userM l) p).getD Rep.zero).id, (descN (makerM l) n p).2, (descN (makerM l) n p).1, lowF 1 (weighL l p), highF 100000000 (weighL l p), if x.kind = 1 then x.party else 0, if x.kind = 1 then x.cell else 0, x.hour, decide (x.kind = 1), thereB l p && hidB l p⟩ from by simp only [parcelP, mkOf, hx, Option.getD]]
    exact ⟨rfl, rfl⟩

end Go.Lag
