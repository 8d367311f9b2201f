import Derived.Shelf.Small.Bits
import Derived.Shelf.Sort.Plain
import Derived.Shelf.Slices.Turned
import Derived.Shelf.Slices.Clone
import Derived.Shelf.Slices.Cells
import Derived.Shelf.Slices.In.SortNone
import Derived.Shelf.Slices.Empties2
import Derived.Shelf.SlicesE.Clone
import Derived.Test.YtjomchafleahdaaGreatProg
namespace Go.Proofs
open Go.Shelf Tryz
set_option maxRecDepth 100000
theorem shK {x : Option Func} {a b : Func} (h : x = some a) (e : a = b := by kernel_rfl) : x = some b := h.trans (congrArg some e)
def Tryz.lays190_ren : Go.Shelf.Ren := ⟨fun | 190 => 201 | 125 => 205 | 258 => 204 | 128 => 216 | 129 => 217 | 302 => 207 | 303 => 208 | 304 => 209 | 305 => 210 | 306 => 211 | 307 => 212 | 308 => 213 | 309 => 214 | 310 => 215 | 333 => 218 | 329 => 219 | 330 => 220 | 334 => 221 | 335 => 222 | 336 => 223 | 344 => 224 | n => n, fun | 31 => 187 | 9 => 9 | 3 => 3 | 46 => 255 | 0 => 0 | 51 => 265 | 53 => 267 | 4 => 4 | 183 => 258 | 182 => 257 | 131 => 249 | 5 => 5 | 218 => 268 | 222 => 272 | 228 => 274 | 229 => 275 | n => n, fun | n => n⟩
theorem Tryz.lays190 : Go.Proofs.Lays.n190 Tryz.prog Tryz.lays190_ren := ⟨by kernel_rfl,shK func205,shK func216,shK func217,shK func201,shK func204,shK func207,shK func208,
shK func209,shK func210,shK func211,shK func212,shK func213,shK func214,shK func215,shK func219,
shK func220,shK func218,shK func221,shK func222,shK func223,shK func224,underlying0,isAgg0,
sizeOf0,zeroValue0,underlying3,isAgg3,sizeOf3,zeroValue3,underlying4,isAgg4,
sizeOf4,zeroValue4,underlying5,isAgg5,sizeOf5,zeroValue5,underlying9,isAgg9,
sizeOf9,zeroValue9,underlying187,isAgg187,sizeOf187,zeroValue187,underlying255,isAgg255,
sizeOf255,zeroValue255,underlying265,isAgg265,sizeOf265,zeroValue265,underlying267,isAgg267,
sizeOf267,zeroValue267,underlying249,isAgg249,sizeOf249,zeroValue249,underlying257,isAgg257,
sizeOf257,zeroValue257,underlying258,isAgg258,sizeOf258,zeroValue258,underlying268,isAgg268,
sizeOf268,zeroValue268,underlying272,isAgg272,sizeOf272,zeroValue272,underlying274,isAgg274,
sizeOf274,zeroValue274,underlying275,isAgg275,sizeOf275,zeroValue275⟩
open Go.Sort Go.RowKit in
theorem Tryz.slices_Sort_string (blk off cap : Nat) (ss : List (List UInt8)) (w : World) (hH : Holds encStr w blk off ss.toArray) (hblk : blk < w.heap.size) (hsz : ss.length < 4611686018427387904) :
    Calls Tryz.prog 201 #[.slice (some ⟨blk, off, none⟩) ss.length cap] w fun e w' =>
      e = .returned (.tuple #[]) ∧ ∃ n os, w' = grow (putRow encStr (Sort.ahead w n) blk off (ss.mergeSort fun x y => decide (x ≤ y)).toArray) os := Any.slices_Sort_string Tryz.lays190 blk off cap ss w hH hblk hsz
def Tryz.laysNm216_ren : Go.Shelf.Ren := ⟨fun | 16 => 200 | n => n, fun | 24 => 187 | 9 => 9 | 4 => 4 | n => n, fun | n => n⟩
theorem Tryz.laysNm216 : Go.Proofs.Lays2.n16 Tryz.prog Tryz.laysNm216_ren := ⟨by kernel_rfl,shK func200,underlying4,isAgg4,sizeOf4,zeroValue4,underlying9,isAgg9,
sizeOf9,zeroValue9,underlying187,isAgg187,sizeOf187,zeroValue187,by kernel_rfl⟩
open Go.RowKit Go.Lib in
theorem Tryz.slices_Clone_string (b off n c : Nat) (zs : List ByteArray) (w : World) (hz : n ≤ zs.length) (hbig : n * 16 ≤ 140737488355328) (hc : ∀ j, j < zs.length → w.cell? ⟨b, off + j, none⟩ = some (.string (zs.getD j ByteArray.empty))) :
    Calls Tryz.prog 200 #[.slice (some ⟨b, off, none⟩) n c] w fun e w' => ∃ v', e = .returned v' ∧ w'.ownsRow w.heap.size 9 1 v' n ((zs.take n).map (Value.string)) ∧ v' ≠ .slice none 0 0 ∧ Below w.heap.size w w' := Any.slices_Clone_string Tryz.laysNm216 b off n c zs w hz hbig hc
open Go.RowKit Go.Lib in
theorem Tryz.slices_Clone_string_nil (n c : Nat) (w : World) :
    Calls Tryz.prog 200 #[.slice none n c] w fun e w' => e = .returned (.slice none 0 0) ∧ w' = w := Any.slices_Clone_string_nil Tryz.laysNm216 n c w
open Go.RowKit Go.Lib in
theorem Tryz.slices_Clone_string_zero (a : Addr) (c : Nat) (w : World) :
    Calls Tryz.prog 200 #[.slice (some a) 0 c] w fun e w' => ∃ v', e = .returned v' ∧ w'.ownsRow w.heap.size 9 1 v' 0 [] ∧ v' ≠ .slice none 0 0 ∧ Below w.heap.size w w' := Any.slices_Clone_string_zero Tryz.laysNm216 a c w
def Tryz.lays194_ren : Go.Shelf.Ren := ⟨fun | 194 => 202 | n => n, fun | 31 => 187 | 9 => 9 | 3 => 3 | 4 => 4 | 0 => 0 | n => n, fun | n => n⟩
theorem Tryz.lays194 : Go.Proofs.Lays.n194 Tryz.prog Tryz.lays194_ren := ⟨by kernel_rfl,shK func202,underlying0,isAgg0,sizeOf0,zeroValue0,underlying3,isAgg3,
sizeOf3,zeroValue3,underlying4,isAgg4,sizeOf4,zeroValue4,underlying9,isAgg9,
sizeOf9,zeroValue9,underlying187,isAgg187,sizeOf187,zeroValue187⟩
open Go.RowKit Go.Lib Go.Sort in
theorem Tryz.slices_Compact_string (blk off cap : Nat) (zs : List (List UInt8)) (w : World) (hH : Holds encStr w blk off zs.toArray) (hsz : zs.length ≤ 9223372036854775807) (hcap : zs.length ≤ cap) :
    Calls Tryz.prog 202 #[.slice (some ⟨blk, off, none⟩) zs.length cap] w fun e w' => e = .returned (.slice (some ⟨blk, off, none⟩) (Lib.compact zs).length cap) ∧ ∃ q, w' = putRow encStr (Sort.ahead w q) blk off (Lib.compact zs ++ List.replicate (zs.length - (Lib.compact zs).length) []).toArray := Any.slices_Compact_string Tryz.lays194 blk off cap zs w hH hsz hcap
open Go.RowKit Go.Lib Go.Sort in
theorem Tryz.slices_Compact_string_empty (a : Option Addr) (cap : Nat) (w : World) :
    Calls Tryz.prog 202 #[.slice a 0 cap] w fun e w' => e = .returned (.slice a 0 cap) ∧ w' = w := Any.slices_Compact_string_empty Tryz.lays194 a cap w
open Go.RowKit Go.Sort in
theorem Tryz.slices_Sort_string_none (p : Option Addr) (cap : Nat) (w : World) :
    Calls Tryz.prog 201 #[.slice p 0 cap] w fun e w' => e = .returned (.tuple #[]) ∧ w' = w := Any.slices_Sort_string_none Tryz.lays190 p cap w
end Go.Proofs
