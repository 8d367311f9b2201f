import Derived.Shelf.Small.Bits
import Derived.Shelf.Sort.Plain
import Derived.Shelf.Slices.Turned
import Derived.Shelf.Slices.Clone
import Derived.Shelf.Slices.Cells
import Derived.Shelf.Slices.In.SortNone
import Derived.Shelf.Slices.Empties2
import Derived.Shelf.SlicesE.Clone
import Derived.Test.YtdmilcleobbphaaGreatProg
namespace Go.Proofs
open Go.Shelf Tryz
set_option maxRecDepth 100000
theorem shK {x : Option Func} {a b : Func} (h : x = some a) (e : a = b := by kernel_rfl) : x = some b := h.trans (congrArg some e)
def Tryz.lays189_ren : Go.Shelf.Ren := ⟨fun | 189 => 98 | 125 => 143 | 257 => 142 | 128 => 186 | 129 => 187 | 294 => 177 | 295 => 178 | 296 => 179 | 297 => 180 | 298 => 181 | 299 => 182 | 216 => 183 | 300 => 184 | 301 => 185 | 328 => 223 | 329 => 224 | 330 => 225 | 331 => 226 | 332 => 227 | 215 => 228 | 343 => 255 | n => n, fun | 28 => 36 | 3 => 3 | 46 => 166 | 0 => 0 | 51 => 227 | 53 => 229 | 4 => 4 | 183 => 219 | 182 => 218 | 131 => 224 | 5 => 5 | 9 => 9 | 218 => 254 | 222 => 258 | 228 => 281 | 229 => 282 | n => n, fun | n => n⟩
theorem Tryz.lays189 : Go.Proofs.Lays.n189 Tryz.prog Tryz.lays189_ren := ⟨by kernel_rfl,shK func143,shK func186,shK func187,shK func98,shK func228,shK func183,shK func142,
shK func177,shK func178,shK func179,shK func180,shK func181,shK func182,shK func184,shK func185,
shK func223,shK func224,shK func225,shK func226,shK func227,shK func255,underlying0,isAgg0,
sizeOf0,zeroValue0,underlying3,isAgg3,sizeOf3,zeroValue3,underlying4,isAgg4,
sizeOf4,zeroValue4,underlying5,isAgg5,sizeOf5,zeroValue5,underlying9,isAgg9,
sizeOf9,zeroValue9,underlying36,isAgg36,sizeOf36,zeroValue36,underlying166,isAgg166,
sizeOf166,zeroValue166,underlying227,isAgg227,sizeOf227,zeroValue227,underlying229,isAgg229,
sizeOf229,zeroValue229,underlying224,isAgg224,sizeOf224,zeroValue224,underlying218,isAgg218,
sizeOf218,zeroValue218,underlying219,isAgg219,sizeOf219,zeroValue219,underlying254,isAgg254,
sizeOf254,zeroValue254,underlying258,isAgg258,sizeOf258,zeroValue258,underlying281,isAgg281,
sizeOf281,zeroValue281,underlying282,isAgg282,sizeOf282,zeroValue282⟩
open Go.Sort Go.RowKit in
theorem Tryz.slices_Sort_int (blk off cap : Nat) (zs : List Int) (w : World) (hH : Holds (Value.int .i64) w blk off zs.toArray) (hblk : blk < w.heap.size) (hsz : zs.length < 4611686018427387904) :
    Calls Tryz.prog 98 #[.slice (some ⟨blk, off, none⟩) zs.length cap] w fun e w' =>
      e = .returned (.tuple #[]) ∧ ∃ n os, w' = grow (putRow (Value.int .i64) (Sort.ahead w n) blk off (zs.mergeSort fun x y => decide (x ≤ y)).toArray) os := Any.slices_Sort_int Tryz.lays189 blk off cap zs w hH hblk hsz
def Tryz.lays190_ren : Go.Shelf.Ren := ⟨fun | 190 => 306 | 125 => 143 | 258 => 316 | 128 => 186 | 129 => 187 | 302 => 322 | 303 => 323 | 304 => 324 | 305 => 325 | 306 => 326 | 307 => 327 | 308 => 328 | 309 => 329 | 310 => 330 | 333 => 332 | 329 => 224 | 330 => 225 | 334 => 333 | 335 => 334 | 336 => 335 | 344 => 336 | n => n, fun | 31 => 86 | 9 => 9 | 3 => 3 | 46 => 166 | 0 => 0 | 51 => 227 | 53 => 229 | 4 => 4 | 183 => 219 | 182 => 218 | 131 => 224 | 5 => 5 | 218 => 254 | 222 => 258 | 228 => 281 | 229 => 282 | n => n, fun | n => n⟩
theorem Tryz.lays190 : Go.Proofs.Lays.n190 Tryz.prog Tryz.lays190_ren := ⟨by kernel_rfl,shK func143,shK func186,shK func187,shK func306,shK func316,shK func322,shK func323,
shK func324,shK func325,shK func326,shK func327,shK func328,shK func329,shK func330,shK func224,
shK func225,shK func332,shK func333,shK func334,shK func335,shK func336,underlying0,isAgg0,
sizeOf0,zeroValue0,underlying3,isAgg3,sizeOf3,zeroValue3,underlying4,isAgg4,
sizeOf4,zeroValue4,underlying5,isAgg5,sizeOf5,zeroValue5,underlying9,isAgg9,
sizeOf9,zeroValue9,underlying86,isAgg86,sizeOf86,zeroValue86,underlying166,isAgg166,
sizeOf166,zeroValue166,underlying227,isAgg227,sizeOf227,zeroValue227,underlying229,isAgg229,
sizeOf229,zeroValue229,underlying224,isAgg224,sizeOf224,zeroValue224,underlying218,isAgg218,
sizeOf218,zeroValue218,underlying219,isAgg219,sizeOf219,zeroValue219,underlying254,isAgg254,
sizeOf254,zeroValue254,underlying258,isAgg258,sizeOf258,zeroValue258,underlying281,isAgg281,
sizeOf281,zeroValue281,underlying282,isAgg282,sizeOf282,zeroValue282⟩
open Go.Sort Go.RowKit in
theorem Tryz.slices_Sort_string (blk off cap : Nat) (ss : List (List UInt8)) (w : World) (hH : Holds encStr w blk off ss.toArray) (hblk : blk < w.heap.size) (hsz : ss.length < 4611686018427387904) :
    Calls Tryz.prog 306 #[.slice (some ⟨blk, off, none⟩) ss.length cap] w fun e w' =>
      e = .returned (.tuple #[]) ∧ ∃ n os, w' = grow (putRow encStr (Sort.ahead w n) blk off (ss.mergeSort fun x y => decide (x ≤ y)).toArray) os := Any.slices_Sort_string Tryz.lays190 blk off cap ss w hH hblk hsz
def Tryz.laysNm216_ren : Go.Shelf.Ren := ⟨fun | 16 => 305 | n => n, fun | 24 => 86 | 9 => 9 | 4 => 4 | n => n, fun | n => n⟩
theorem Tryz.laysNm216 : Go.Proofs.Lays2.n16 Tryz.prog Tryz.laysNm216_ren := ⟨by kernel_rfl,shK func305,underlying4,isAgg4,sizeOf4,zeroValue4,underlying9,isAgg9,
sizeOf9,zeroValue9,underlying86,isAgg86,sizeOf86,zeroValue86,by kernel_rfl⟩
open Go.RowKit Go.Lib in
theorem Tryz.slices_Clone_string (b off n c : Nat) (zs : List ByteArray) (w : World) (hz : n ≤ zs.length) (hbig : n * 16 ≤ 140737488355328) (hc : ∀ j, j < zs.length → w.cell? ⟨b, off + j, none⟩ = some (.string (zs.getD j ByteArray.empty))) :
    Calls Tryz.prog 305 #[.slice (some ⟨b, off, none⟩) n c] w fun e w' => ∃ v', e = .returned v' ∧ w'.ownsRow w.heap.size 9 1 v' n ((zs.take n).map (Value.string)) ∧ v' ≠ .slice none 0 0 ∧ Below w.heap.size w w' := Any.slices_Clone_string Tryz.laysNm216 b off n c zs w hz hbig hc
open Go.RowKit Go.Lib in
theorem Tryz.slices_Clone_string_nil (n c : Nat) (w : World) :
    Calls Tryz.prog 305 #[.slice none n c] w fun e w' => e = .returned (.slice none 0 0) ∧ w' = w := Any.slices_Clone_string_nil Tryz.laysNm216 n c w
open Go.RowKit Go.Lib in
theorem Tryz.slices_Clone_string_zero (a : Addr) (c : Nat) (w : World) :
    Calls Tryz.prog 305 #[.slice (some a) 0 c] w fun e w' => ∃ v', e = .returned v' ∧ w'.ownsRow w.heap.size 9 1 v' 0 [] ∧ v' ≠ .slice none 0 0 ∧ Below w.heap.size w w' := Any.slices_Clone_string_zero Tryz.laysNm216 a c w
def Tryz.laysNm220_ren : Go.Shelf.Ren := ⟨fun | 20 => 99 | n => n, fun | 22 => 36 | 3 => 3 | 4 => 4 | 0 => 0 | n => n, fun | n => n⟩
theorem Tryz.laysNm220 : Go.Proofs.Lays2.n20 Tryz.prog Tryz.laysNm220_ren := ⟨by kernel_rfl,shK func99,underlying0,isAgg0,sizeOf0,zeroValue0,underlying3,isAgg3,
sizeOf3,zeroValue3,underlying4,isAgg4,sizeOf4,zeroValue4,underlying36,isAgg36,
sizeOf36,zeroValue36,by kernel_rfl⟩
open Go.RowKit Go.Lib Go.Sort in
theorem Tryz.slices_Compact_int (blk off cap : Nat) (zs : List Int) (w : World) (hH : Holds (Value.int .i64) w blk off zs.toArray) (hsz : zs.length ≤ 9223372036854775807) (hcap : zs.length ≤ cap) :
    Calls Tryz.prog 99 #[.slice (some ⟨blk, off, none⟩) zs.length cap] w fun e w' => e = .returned (.slice (some ⟨blk, off, none⟩) (Lib.compact zs).length cap) ∧ ∃ q, w' = putRow (Value.int .i64) (Sort.ahead w q) blk off (Lib.compact zs ++ List.replicate (zs.length - (Lib.compact zs).length) 0).toArray := Any.slices_Compact_int Tryz.laysNm220 blk off cap zs w hH hsz hcap
open Go.RowKit Go.Lib Go.Sort in
theorem Tryz.slices_Compact_int_empty (a : Option Addr) (cap : Nat) (w : World) :
    Calls Tryz.prog 99 #[.slice a 0 cap] w fun e w' => e = .returned (.slice a 0 cap) ∧ w' = w := Any.slices_Compact_int_empty Tryz.laysNm220 a cap w
def Tryz.lays194_ren : Go.Shelf.Ren := ⟨fun | 194 => 307 | n => n, fun | 31 => 86 | 9 => 9 | 3 => 3 | 4 => 4 | 0 => 0 | n => n, fun | n => n⟩
theorem Tryz.lays194 : Go.Proofs.Lays.n194 Tryz.prog Tryz.lays194_ren := ⟨by kernel_rfl,shK func307,underlying0,isAgg0,sizeOf0,zeroValue0,underlying3,isAgg3,
sizeOf3,zeroValue3,underlying4,isAgg4,sizeOf4,zeroValue4,underlying9,isAgg9,
sizeOf9,zeroValue9,underlying86,isAgg86,sizeOf86,zeroValue86⟩
open Go.RowKit Go.Lib Go.Sort in
theorem Tryz.slices_Compact_string (blk off cap : Nat) (zs : List (List UInt8)) (w : World) (hH : Holds encStr w blk off zs.toArray) (hsz : zs.length ≤ 9223372036854775807) (hcap : zs.length ≤ cap) :
    Calls Tryz.prog 307 #[.slice (some ⟨blk, off, none⟩) zs.length cap] w fun e w' => e = .returned (.slice (some ⟨blk, off, none⟩) (Lib.compact zs).length cap) ∧ ∃ q, w' = putRow encStr (Sort.ahead w q) blk off (Lib.compact zs ++ List.replicate (zs.length - (Lib.compact zs).length) []).toArray := Any.slices_Compact_string Tryz.lays194 blk off cap zs w hH hsz hcap
open Go.RowKit Go.Lib Go.Sort in
theorem Tryz.slices_Compact_string_empty (a : Option Addr) (cap : Nat) (w : World) :
    Calls Tryz.prog 307 #[.slice a 0 cap] w fun e w' => e = .returned (.slice a 0 cap) ∧ w' = w := Any.slices_Compact_string_empty Tryz.lays194 a cap w
open Go.RowKit Go.Sort in
theorem Tryz.slices_Sort_string_none (p : Option Addr) (cap : Nat) (w : World) :
    Calls Tryz.prog 306 #[.slice p 0 cap] w fun e w' => e = .returned (.tuple #[]) ∧ w' = w := Any.slices_Sort_string_none Tryz.lays190 p cap w
open Go.RowKit Go.Sort in
theorem Tryz.slices_Sort_int_none (p : Option Addr) (cap : Nat) (w : World) :
    Calls Tryz.prog 98 #[.slice p 0 cap] w fun e w' => e = .returned (.tuple #[]) ∧ w' = w := Any.slices_Sort_int_none Tryz.lays189 p cap w
end Go.Proofs
