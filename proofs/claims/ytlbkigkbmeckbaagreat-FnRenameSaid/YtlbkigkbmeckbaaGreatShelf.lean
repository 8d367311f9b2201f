import Derived.Shelf.Small.Bits
import Derived.Shelf.Strconv.Itoa0
import Derived.Shelf.Sort.Plain
import Derived.Shelf.Slices.Turned
import Derived.Shelf.Slices.Equal
import Derived.Ground.Names2Prog
import Derived.Shelf.Slices.Clone
import Derived.Shelf.Slices.CompactS
import Derived.Shelf.Slices.Cells
import Derived.Shelf.Slices.In.SortNone
import Derived.Shelf.Slices.Empties2
import Derived.Ground.SlgnProg
import Derived.Shelf.SlicesE.Clone
import Derived.Test.YtlbkigkbmeckbaaGreatProg
namespace Go.Proofs
open Go.Shelf
def Tryz.lays190_ren : Go.Shelf.Ren := ⟨fun | 190 => 194 | 125 => 240 | 258 => 239 | 128 => 272 | 129 => 273 | 302 => 263 | 303 => 264 | 304 => 265 | 305 => 266 | 306 => 267 | 307 => 268 | 308 => 269 | 309 => 270 | 310 => 271 | 333 => 280 | 329 => 281 | 330 => 282 | 334 => 283 | 335 => 284 | 336 => 285 | 344 => 288 | n => n, fun | 31 => 81 | 9 => 9 | 3 => 3 | 46 => 203 | 0 => 0 | 51 => 239 | 53 => 241 | 4 => 4 | 183 => 231 | 182 => 230 | 131 => 236 | 5 => 5 | 218 => 246 | 222 => 250 | 228 => 253 | 229 => 254 | n => n, fun | n => n⟩
theorem Tryz.lays190 : Go.Proofs.Lays.n190 Tryz.prog Tryz.lays190_ren := {
  mixed := by kernel_rfl
  f125 := Tryz.func240.trans (congrArg some (by kernel_rfl))
  f128 := Tryz.func272.trans (congrArg some (by kernel_rfl))
  f129 := Tryz.func273.trans (congrArg some (by kernel_rfl))
  f190 := Tryz.func194.trans (congrArg some (by kernel_rfl))
  f258 := Tryz.func239.trans (congrArg some (by kernel_rfl))
  f302 := Tryz.func263.trans (congrArg some (by kernel_rfl))
  f303 := Tryz.func264.trans (congrArg some (by kernel_rfl))
  f304 := Tryz.func265.trans (congrArg some (by kernel_rfl))
  f305 := Tryz.func266.trans (congrArg some (by kernel_rfl))
  f306 := Tryz.func267.trans (congrArg some (by kernel_rfl))
  f307 := Tryz.func268.trans (congrArg some (by kernel_rfl))
  f308 := Tryz.func269.trans (congrArg some (by kernel_rfl))
  f309 := Tryz.func270.trans (congrArg some (by kernel_rfl))
  f310 := Tryz.func271.trans (congrArg some (by kernel_rfl))
  f329 := Tryz.func281.trans (congrArg some (by kernel_rfl))
  f330 := Tryz.func282.trans (congrArg some (by kernel_rfl))
  f333 := Tryz.func280.trans (congrArg some (by kernel_rfl))
  f334 := Tryz.func283.trans (congrArg some (by kernel_rfl))
  f335 := Tryz.func284.trans (congrArg some (by kernel_rfl))
  f336 := Tryz.func285.trans (congrArg some (by kernel_rfl))
  f344 := Tryz.func288.trans (congrArg some (by kernel_rfl))
  t0 := Tryz.underlying0
  a0 := Tryz.isAgg0
  z0 := Tryz.sizeOf0
  v0 := Tryz.zeroValue0
  t3 := Tryz.underlying3
  a3 := Tryz.isAgg3
  z3 := Tryz.sizeOf3
  v3 := Tryz.zeroValue3
  t4 := Tryz.underlying4
  a4 := Tryz.isAgg4
  z4 := Tryz.sizeOf4
  v4 := Tryz.zeroValue4
  t5 := Tryz.underlying5
  a5 := Tryz.isAgg5
  z5 := Tryz.sizeOf5
  v5 := Tryz.zeroValue5
  t9 := Tryz.underlying9
  a9 := Tryz.isAgg9
  z9 := Tryz.sizeOf9
  v9 := Tryz.zeroValue9
  t31 := Tryz.underlying81
  a31 := Tryz.isAgg81
  z31 := Tryz.sizeOf81
  v31 := Tryz.zeroValue81
  t46 := Tryz.underlying203
  a46 := Tryz.isAgg203
  z46 := Tryz.sizeOf203
  v46 := Tryz.zeroValue203
  t51 := Tryz.underlying239
  a51 := Tryz.isAgg239
  z51 := Tryz.sizeOf239
  v51 := Tryz.zeroValue239
  t53 := Tryz.underlying241
  a53 := Tryz.isAgg241
  z53 := Tryz.sizeOf241
  v53 := Tryz.zeroValue241
  t131 := Tryz.underlying236
  a131 := Tryz.isAgg236
  z131 := Tryz.sizeOf236
  v131 := Tryz.zeroValue236
  t182 := Tryz.underlying230
  a182 := Tryz.isAgg230
  z182 := Tryz.sizeOf230
  v182 := Tryz.zeroValue230
  t183 := Tryz.underlying231
  a183 := Tryz.isAgg231
  z183 := Tryz.sizeOf231
  v183 := Tryz.zeroValue231
  t218 := Tryz.underlying246
  a218 := Tryz.isAgg246
  z218 := Tryz.sizeOf246
  v218 := Tryz.zeroValue246
  t222 := Tryz.underlying250
  a222 := Tryz.isAgg250
  z222 := Tryz.sizeOf250
  v222 := Tryz.zeroValue250
  t228 := Tryz.underlying253
  a228 := Tryz.isAgg253
  z228 := Tryz.sizeOf253
  v228 := Tryz.zeroValue253
  t229 := Tryz.underlying254
  a229 := Tryz.isAgg254
  z229 := Tryz.sizeOf254
  v229 := Tryz.zeroValue254 }
open Go.Sort Go.RowKit in
theorem Tryz.slices_Sort_string (blk off cap : Nat) (ss : List (List UInt8)) (w : World) (hH : Holds encStr w blk off ss.toArray) (hblk : blk < w.heap.size) (hsz : ss.length < 4611686018427387904) :
    Calls Tryz.prog 194 #[.slice (some ⟨blk, off, none⟩) ss.length cap] w fun e w' =>
      e = .returned (.tuple #[]) ∧ ∃ n os, w' = grow (putRow encStr (Sort.ahead w n) blk off (ss.mergeSort fun x y => decide (x ≤ y)).toArray) os := Any.slices_Sort_string Tryz.lays190 blk off cap ss w hH hblk hsz
def Tryz.laysNm216_ren : Go.Shelf.Ren := ⟨fun | 16 => 119 | n => n, fun | 24 => 81 | 9 => 9 | 4 => 4 | n => n, fun | n => n⟩
theorem Tryz.laysNm216 : Go.Proofs.Lays2.n16 Tryz.prog Tryz.laysNm216_ren := {
  mixed := by kernel_rfl
  f16 := Tryz.func119.trans (congrArg some (by kernel_rfl))
  t4 := Tryz.underlying4
  a4 := Tryz.isAgg4
  z4 := Tryz.sizeOf4
  v4 := Tryz.zeroValue4
  t9 := Tryz.underlying9
  a9 := Tryz.isAgg9
  z9 := Tryz.sizeOf9
  v9 := Tryz.zeroValue9
  t24 := Tryz.underlying81
  a24 := Tryz.isAgg81
  z24 := Tryz.sizeOf81
  v24 := Tryz.zeroValue81
  i9 := by kernel_rfl }
open Go.RowKit Go.Lib in
theorem Tryz.slices_Clone_string (b off n c : Nat) (zs : List ByteArray) (w : World) (hz : n ≤ zs.length) (hbig : n * 16 ≤ 140737488355328) (hc : ∀ j, j < zs.length → w.cell? ⟨b, off + j, none⟩ = some (.string (zs.getD j ByteArray.empty))) :
    Calls Tryz.prog 119 #[.slice (some ⟨b, off, none⟩) n c] w fun e w' => ∃ v', e = .returned v' ∧ w'.ownsRow w.heap.size 9 1 v' n ((zs.take n).map (Value.string)) ∧ v' ≠ .slice none 0 0 ∧ Below w.heap.size w w' := Any.slices_Clone_string Tryz.laysNm216 b off n c zs w hz hbig hc
open Go.RowKit Go.Lib in
theorem Tryz.slices_Clone_string_nil (n c : Nat) (w : World) :
    Calls Tryz.prog 119 #[.slice none n c] w fun e w' => e = .returned (.slice none 0 0) ∧ w' = w := Any.slices_Clone_string_nil Tryz.laysNm216 n c w
open Go.RowKit Go.Lib in
theorem Tryz.slices_Clone_string_zero (a : Addr) (c : Nat) (w : World) :
    Calls Tryz.prog 119 #[.slice (some a) 0 c] w fun e w' => ∃ v', e = .returned v' ∧ w'.ownsRow w.heap.size 9 1 v' 0 [] ∧ v' ≠ .slice none 0 0 ∧ Below w.heap.size w w' := Any.slices_Clone_string_zero Tryz.laysNm216 a c w
def Tryz.lays194_ren : Go.Shelf.Ren := ⟨fun | 194 => 195 | n => n, fun | 31 => 81 | 9 => 9 | 3 => 3 | 4 => 4 | 0 => 0 | n => n, fun | n => n⟩
theorem Tryz.lays194 : Go.Proofs.Lays.n194 Tryz.prog Tryz.lays194_ren := {
  mixed := by kernel_rfl
  f194 := Tryz.func195.trans (congrArg some (by kernel_rfl))
  t0 := Tryz.underlying0
  a0 := Tryz.isAgg0
  z0 := Tryz.sizeOf0
  v0 := Tryz.zeroValue0
  t3 := Tryz.underlying3
  a3 := Tryz.isAgg3
  z3 := Tryz.sizeOf3
  v3 := Tryz.zeroValue3
  t4 := Tryz.underlying4
  a4 := Tryz.isAgg4
  z4 := Tryz.sizeOf4
  v4 := Tryz.zeroValue4
  t9 := Tryz.underlying9
  a9 := Tryz.isAgg9
  z9 := Tryz.sizeOf9
  v9 := Tryz.zeroValue9
  t31 := Tryz.underlying81
  a31 := Tryz.isAgg81
  z31 := Tryz.sizeOf81
  v31 := Tryz.zeroValue81 }
open Go.RowKit Go.Lib Go.Sort in
theorem Tryz.slices_Compact_string (blk off cap : Nat) (zs : List (List UInt8)) (w : World) (hH : Holds encStr w blk off zs.toArray) (hsz : zs.length ≤ 9223372036854775807) (hcap : zs.length ≤ cap) :
    Calls Tryz.prog 195 #[.slice (some ⟨blk, off, none⟩) zs.length cap] w fun e w' => e = .returned (.slice (some ⟨blk, off, none⟩) (Lib.compact zs).length cap) ∧ ∃ q, w' = putRow encStr (Sort.ahead w q) blk off (Lib.compact zs ++ List.replicate (zs.length - (Lib.compact zs).length) []).toArray := Any.slices_Compact_string Tryz.lays194 blk off cap zs w hH hsz hcap
open Go.RowKit Go.Lib Go.Sort in
theorem Tryz.slices_Compact_string_empty (a : Option Addr) (cap : Nat) (w : World) :
    Calls Tryz.prog 195 #[.slice a 0 cap] w fun e w' => e = .returned (.slice a 0 cap) ∧ w' = w := Any.slices_Compact_string_empty Tryz.lays194 a cap w
open Go.RowKit Go.Sort in
theorem Tryz.slices_Sort_string_none (p : Option Addr) (cap : Nat) (w : World) :
    Calls Tryz.prog 194 #[.slice p 0 cap] w fun e w' => e = .returned (.tuple #[]) ∧ w' = w := Any.slices_Sort_string_none Tryz.lays190 p cap w
end Go.Proofs
