import Derived.Shelf.Small.Bits
import Derived.Shelf.Sort.Plain
import Derived.Shelf.Slices.Turned
import Derived.Shelf.Slices.Clone
import Derived.Shelf.Slices.SearchI
import Derived.Shelf.Slices.Cells
import Derived.Shelf.Slices.In.SortNone
import Derived.Shelf.Slices.Empties2
import Derived.Shelf.SlicesE.Clone
import Derived.Test.YtkogcnaellmcdaaGreatProg
namespace Go.Proofs
open Go.Shelf Tryz
set_option maxRecDepth 100000
theorem shK {x : Option Func} {a b : Func} (h : x = some a) (e : a = b := by kernel_rfl) : x = some b := h.trans (congrArg some e)
def Tryz.lays189_ren : Go.Shelf.Ren := ⟨fun | 189 => 154 | 125 => 181 | 257 => 180 | 128 => 210 | 129 => 211 | 294 => 201 | 295 => 202 | 296 => 203 | 297 => 204 | 298 => 205 | 299 => 206 | 216 => 207 | 300 => 208 | 301 => 209 | 328 => 223 | 329 => 224 | 330 => 225 | 331 => 226 | 332 => 227 | 215 => 228 | 343 => 243 | n => n, fun | 28 => 34 | 3 => 3 | 46 => 245 | 0 => 0 | 51 => 269 | 53 => 271 | 4 => 4 | 183 => 261 | 182 => 260 | 131 => 266 | 5 => 5 | 9 => 9 | 218 => 276 | 222 => 280 | 228 => 291 | 229 => 292 | n => n, fun | n => n⟩
theorem Tryz.lays189 : Go.Proofs.Lays.n189 Tryz.prog Tryz.lays189_ren := ⟨by kernel_rfl,shK func181,shK func210,shK func211,shK func154,shK func228,shK func207,shK func180,
shK func201,shK func202,shK func203,shK func204,shK func205,shK func206,shK func208,shK func209,
shK func223,shK func224,shK func225,shK func226,shK func227,shK func243,underlying0,isAgg0,
sizeOf0,zeroValue0,underlying3,isAgg3,sizeOf3,zeroValue3,underlying4,isAgg4,
sizeOf4,zeroValue4,underlying5,isAgg5,sizeOf5,zeroValue5,underlying9,isAgg9,
sizeOf9,zeroValue9,underlying34,isAgg34,sizeOf34,zeroValue34,underlying245,isAgg245,
sizeOf245,zeroValue245,underlying269,isAgg269,sizeOf269,zeroValue269,underlying271,isAgg271,
sizeOf271,zeroValue271,underlying266,isAgg266,sizeOf266,zeroValue266,underlying260,isAgg260,
sizeOf260,zeroValue260,underlying261,isAgg261,sizeOf261,zeroValue261,underlying276,isAgg276,
sizeOf276,zeroValue276,underlying280,isAgg280,sizeOf280,zeroValue280,underlying291,isAgg291,
sizeOf291,zeroValue291,underlying292,isAgg292,sizeOf292,zeroValue292⟩
open Go.Sort Go.RowKit in
theorem Tryz.slices_Sort_int (blk off cap : Nat) (zs : List Int) (w : World) (hH : Holds (Value.int .i64) w blk off zs.toArray) (hblk : blk < w.heap.size) (hsz : zs.length < 4611686018427387904) :
    Calls Tryz.prog 154 #[.slice (some ⟨blk, off, none⟩) zs.length cap] w fun e w' =>
      e = .returned (.tuple #[]) ∧ ∃ n os, w' = grow (putRow (Value.int .i64) (Sort.ahead w n) blk off (zs.mergeSort fun x y => decide (x ≤ y)).toArray) os := Any.slices_Sort_int Tryz.lays189 blk off cap zs w hH hblk hsz
def Tryz.lays190_ren : Go.Shelf.Ren := ⟨fun | 190 => 247 | 125 => 181 | 258 => 249 | 128 => 210 | 129 => 211 | 302 => 250 | 303 => 251 | 304 => 252 | 305 => 253 | 306 => 254 | 307 => 255 | 308 => 256 | 309 => 257 | 310 => 258 | 333 => 259 | 329 => 224 | 330 => 225 | 334 => 260 | 335 => 261 | 336 => 262 | 344 => 263 | n => n, fun | 31 => 205 | 9 => 9 | 3 => 3 | 46 => 245 | 0 => 0 | 51 => 269 | 53 => 271 | 4 => 4 | 183 => 261 | 182 => 260 | 131 => 266 | 5 => 5 | 218 => 276 | 222 => 280 | 228 => 291 | 229 => 292 | n => n, fun | n => n⟩
theorem Tryz.lays190 : Go.Proofs.Lays.n190 Tryz.prog Tryz.lays190_ren := ⟨by kernel_rfl,shK func181,shK func210,shK func211,shK func247,shK func249,shK func250,shK func251,
shK func252,shK func253,shK func254,shK func255,shK func256,shK func257,shK func258,shK func224,
shK func225,shK func259,shK func260,shK func261,shK func262,shK func263,underlying0,isAgg0,
sizeOf0,zeroValue0,underlying3,isAgg3,sizeOf3,zeroValue3,underlying4,isAgg4,
sizeOf4,zeroValue4,underlying5,isAgg5,sizeOf5,zeroValue5,underlying9,isAgg9,
sizeOf9,zeroValue9,underlying205,isAgg205,sizeOf205,zeroValue205,underlying245,isAgg245,
sizeOf245,zeroValue245,underlying269,isAgg269,sizeOf269,zeroValue269,underlying271,isAgg271,
sizeOf271,zeroValue271,underlying266,isAgg266,sizeOf266,zeroValue266,underlying260,isAgg260,
sizeOf260,zeroValue260,underlying261,isAgg261,sizeOf261,zeroValue261,underlying276,isAgg276,
sizeOf276,zeroValue276,underlying280,isAgg280,sizeOf280,zeroValue280,underlying291,isAgg291,
sizeOf291,zeroValue291,underlying292,isAgg292,sizeOf292,zeroValue292⟩
open Go.Sort Go.RowKit in
theorem Tryz.slices_Sort_string (blk off cap : Nat) (ss : List (List UInt8)) (w : World) (hH : Holds encStr w blk off ss.toArray) (hblk : blk < w.heap.size) (hsz : ss.length < 4611686018427387904) :
    Calls Tryz.prog 247 #[.slice (some ⟨blk, off, none⟩) ss.length cap] w fun e w' =>
      e = .returned (.tuple #[]) ∧ ∃ n os, w' = grow (putRow encStr (Sort.ahead w n) blk off (ss.mergeSort fun x y => decide (x ≤ y)).toArray) os := Any.slices_Sort_string Tryz.lays190 blk off cap ss w hH hblk hsz
def Tryz.laysNm216_ren : Go.Shelf.Ren := ⟨fun | 16 => 246 | n => n, fun | 24 => 205 | 9 => 9 | 4 => 4 | n => n, fun | n => n⟩
theorem Tryz.laysNm216 : Go.Proofs.Lays2.n16 Tryz.prog Tryz.laysNm216_ren := ⟨by kernel_rfl,shK func246,underlying4,isAgg4,sizeOf4,zeroValue4,underlying9,isAgg9,
sizeOf9,zeroValue9,underlying205,isAgg205,sizeOf205,zeroValue205,by kernel_rfl⟩
open Go.RowKit Go.Lib in
theorem Tryz.slices_Clone_string (b off n c : Nat) (zs : List ByteArray) (w : World) (hz : n ≤ zs.length) (hbig : n * 16 ≤ 140737488355328) (hc : ∀ j, j < zs.length → w.cell? ⟨b, off + j, none⟩ = some (.string (zs.getD j ByteArray.empty))) :
    Calls Tryz.prog 246 #[.slice (some ⟨b, off, none⟩) n c] w fun e w' => ∃ v', e = .returned v' ∧ w'.ownsRow w.heap.size 9 1 v' n ((zs.take n).map (Value.string)) ∧ v' ≠ .slice none 0 0 ∧ Below w.heap.size w w' := Any.slices_Clone_string Tryz.laysNm216 b off n c zs w hz hbig hc
open Go.RowKit Go.Lib in
theorem Tryz.slices_Clone_string_nil (n c : Nat) (w : World) :
    Calls Tryz.prog 246 #[.slice none n c] w fun e w' => e = .returned (.slice none 0 0) ∧ w' = w := Any.slices_Clone_string_nil Tryz.laysNm216 n c w
open Go.RowKit Go.Lib in
theorem Tryz.slices_Clone_string_zero (a : Addr) (c : Nat) (w : World) :
    Calls Tryz.prog 246 #[.slice (some a) 0 c] w fun e w' => ∃ v', e = .returned v' ∧ w'.ownsRow w.heap.size 9 1 v' 0 [] ∧ v' ≠ .slice none 0 0 ∧ Below w.heap.size w w' := Any.slices_Clone_string_zero Tryz.laysNm216 a c w
def Tryz.laysNm220_ren : Go.Shelf.Ren := ⟨fun | 20 => 155 | n => n, fun | 22 => 34 | 3 => 3 | 4 => 4 | 0 => 0 | n => n, fun | n => n⟩
theorem Tryz.laysNm220 : Go.Proofs.Lays2.n20 Tryz.prog Tryz.laysNm220_ren := ⟨by kernel_rfl,shK func155,underlying0,isAgg0,sizeOf0,zeroValue0,underlying3,isAgg3,
sizeOf3,zeroValue3,underlying4,isAgg4,sizeOf4,zeroValue4,underlying34,isAgg34,
sizeOf34,zeroValue34,by kernel_rfl⟩
open Go.RowKit Go.Lib Go.Sort in
theorem Tryz.slices_Compact_int (blk off cap : Nat) (zs : List Int) (w : World) (hH : Holds (Value.int .i64) w blk off zs.toArray) (hsz : zs.length ≤ 9223372036854775807) (hcap : zs.length ≤ cap) :
    Calls Tryz.prog 155 #[.slice (some ⟨blk, off, none⟩) zs.length cap] w fun e w' => e = .returned (.slice (some ⟨blk, off, none⟩) (Lib.compact zs).length cap) ∧ ∃ q, w' = putRow (Value.int .i64) (Sort.ahead w q) blk off (Lib.compact zs ++ List.replicate (zs.length - (Lib.compact zs).length) 0).toArray := Any.slices_Compact_int Tryz.laysNm220 blk off cap zs w hH hsz hcap
open Go.RowKit Go.Lib Go.Sort in
theorem Tryz.slices_Compact_int_empty (a : Option Addr) (cap : Nat) (w : World) :
    Calls Tryz.prog 155 #[.slice a 0 cap] w fun e w' => e = .returned (.slice a 0 cap) ∧ w' = w := Any.slices_Compact_int_empty Tryz.laysNm220 a cap w
def Tryz.lays194_ren : Go.Shelf.Ren := ⟨fun | 194 => 248 | n => n, fun | 31 => 205 | 9 => 9 | 3 => 3 | 4 => 4 | 0 => 0 | n => n, fun | n => n⟩
theorem Tryz.lays194 : Go.Proofs.Lays.n194 Tryz.prog Tryz.lays194_ren := ⟨by kernel_rfl,shK func248,underlying0,isAgg0,sizeOf0,zeroValue0,underlying3,isAgg3,
sizeOf3,zeroValue3,underlying4,isAgg4,sizeOf4,zeroValue4,underlying9,isAgg9,
sizeOf9,zeroValue9,underlying205,isAgg205,sizeOf205,zeroValue205⟩
open Go.RowKit Go.Lib Go.Sort in
theorem Tryz.slices_Compact_string (blk off cap : Nat) (zs : List (List UInt8)) (w : World) (hH : Holds encStr w blk off zs.toArray) (hsz : zs.length ≤ 9223372036854775807) (hcap : zs.length ≤ cap) :
    Calls Tryz.prog 248 #[.slice (some ⟨blk, off, none⟩) zs.length cap] w fun e w' => e = .returned (.slice (some ⟨blk, off, none⟩) (Lib.compact zs).length cap) ∧ ∃ q, w' = putRow encStr (Sort.ahead w q) blk off (Lib.compact zs ++ List.replicate (zs.length - (Lib.compact zs).length) []).toArray := Any.slices_Compact_string Tryz.lays194 blk off cap zs w hH hsz hcap
open Go.RowKit Go.Lib Go.Sort in
theorem Tryz.slices_Compact_string_empty (a : Option Addr) (cap : Nat) (w : World) :
    Calls Tryz.prog 248 #[.slice a 0 cap] w fun e w' => e = .returned (.slice a 0 cap) ∧ w' = w := Any.slices_Compact_string_empty Tryz.lays194 a cap w
open Go.RowKit Go.Sort in
theorem Tryz.slices_Sort_string_none (p : Option Addr) (cap : Nat) (w : World) :
    Calls Tryz.prog 247 #[.slice p 0 cap] w fun e w' => e = .returned (.tuple #[]) ∧ w' = w := Any.slices_Sort_string_none Tryz.lays190 p cap w
open Go.RowKit Go.Sort in
theorem Tryz.slices_Sort_int_none (p : Option Addr) (cap : Nat) (w : World) :
    Calls Tryz.prog 154 #[.slice p 0 cap] w fun e w' => e = .returned (.tuple #[]) ∧ w' = w := Any.slices_Sort_int_none Tryz.lays189 p cap w
end Go.Proofs
