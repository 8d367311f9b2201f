import Derived.Shelf.Strings.OnBuilder
import Derived.Shelf.Small.Bits
import Derived.Shelf.Strconv.Itoa3
import Derived.Shelf.Sort.Plain
import Derived.Shelf.Strings.BuilderCap
import Derived.Shelf.Slices.Turned
import Derived.Shelf.Slices.Clone
import Derived.Shelf.Slices.Cells
import Derived.Shelf.Slices.In.SortNone
import Derived.Shelf.Slices.Empties2
import Derived.Shelf.SlicesE.Clone
import Derived.Test.YtlmamafnoigopaaGreatDoorProg
namespace Go.Proofs
open Go.Shelf Tryz
set_option maxRecDepth 100000
theorem shK {x : Option Func} {a b : Func} (h : x = some a) (e : a = b := by kernel_rfl) : x = some b := h.trans (congrArg some e)
def Tryz.lays156_ren : Go.Shelf.Ren := ⟨fun | 156 => 135 | 165 => 168 | 166 => 169 | 169 => 170 | 240 => 197 | 241 => 198 | 276 => 214 | 277 => 215 | n => n, fun | 31 => 38 | 9 => 9 | 3 => 3 | 4 => 4 | 0 => 0 | 20 => 20 | 72 => 232 | 76 => 236 | 70 => 230 | 37 => 96 | 75 => 235 | 127 => 263 | 164 => 271 | 5 => 5 | 80 => 238 | n => n, fun | n => n⟩
theorem Tryz.lays156 : Go.Proofs.Lays.n156 Tryz.prog Tryz.lays156_ren := ⟨by kernel_rfl,shK func135,shK func168,shK func169,shK func170,shK func197,shK func198,shK func214,
shK func215,underlying0,isAgg0,sizeOf0,zeroValue0,underlying3,isAgg3,sizeOf3,
zeroValue3,underlying4,isAgg4,sizeOf4,zeroValue4,underlying9,isAgg9,sizeOf9,
zeroValue9,underlying20,isAgg20,sizeOf20,zeroValue20,underlying38,isAgg38,sizeOf38,
zeroValue38,underlying96,isAgg96,sizeOf96,zeroValue96,underlying230,isAgg230,sizeOf230,
zeroValue230,underlying232,isAgg232,sizeOf232,zeroValue232,underlying235,isAgg235,sizeOf235,
zeroValue235,underlying236,isAgg236,sizeOf236,zeroValue236,underlying263,isAgg263,sizeOf263,
zeroValue263,underlying271,isAgg271,sizeOf271,zeroValue271⟩
theorem Tryz.Builder_Extra_156 : Builder.Extra Tryz.prog Tryz.lays156_ren := { sizeBuilder:=by kernel_rfl,liesBuilder:=by kernel_rfl,t5:=underlying5,a5:=isAgg5,z5:=sizeOf5,v5:=zeroValue5,infoByte:=by kernel_rfl,cellsByte:=by kernel_rfl,sizeByte:=by kernel_rfl,neB5:=by decide }
open Go.RowKit in
theorem Tryz.strings_Join_none (a : Option Addr) (c : Nat) (sep : ByteArray) (w : World) :
    Calls Tryz.prog 135 #[.slice a 0 c, .string sep] w fun e w' => e = .returned (.string ⟨#[]⟩) ∧ w' = w := Any.strings_Join_none Tryz.lays156 Tryz.Builder_Extra_156 a c sep w
open Go.RowKit in
theorem Tryz.strings_Join (bk o c : Nat) (xs : List ByteArray) (sep : ByteArray) (w : World) (hcells : ∀ (j : Nat) x, xs[j]? = some x → w.cell? ⟨bk, o + j, none⟩ = some (.string x)) (hbk : bk < w.heap.size) (hN : xs.length ≤ 140737488355328) (hcap : xs.length ≤ c) (hlen : (Lib.join (xs.map (·.data.toList)) sep.data.toList).length ≤ 140737488355328) :
    Calls Tryz.prog 135 #[.slice (some ⟨bk, o, none⟩) xs.length c, .string sep] w fun e w' => e = .returned (.string ⟨(Lib.join (xs.map (·.data.toList)) sep.data.toList).toArray⟩) ∧ Below w.heap.size w w' := Any.strings_Join Tryz.lays156 Tryz.Builder_Extra_156 bk o c xs sep w hcells hbk hN hcap hlen
def Tryz.laysM171_ren : Go.Shelf.Ren := ⟨fun | 171 => 54 | 243 => 89 | 246 => 121 | 283 => 152 | 284 => 153 | 285 => 154 | 286 => 155 | 129 => 185 | 317 => 184 | 318 => 186 | 319 => 187 | 320 => 188 | 337 => 207 | 338 => 208 | n => n, fun | 3 => 3 | 9 => 9 | 2 => 2 | 4 => 4 | 171 => 219 | 0 => 0 | 53 => 220 | 37 => 96 | 5 => 5 | 173 => 223 | 212 => 255 | 51 => 256 | 20 => 20 | 213 => 257 | 46 => 258 | 232 => 276 | 233 => 277 | n => n, fun | 17 => 0 | 18 => 1 | 19 => 2 | n => n⟩
theorem Tryz.laysM171 : Go.Proofs.LaysM.n171 Tryz.prog Tryz.laysM171_ren := { mixed:=by kernel_rfl,f129:=shK func185,f171:=shK func54,f243:=shK func89,f246:=shK func121,f283:=shK func152,f284:=shK func153,f285:=shK func154,f286:=shK func155,f317:=shK func184,f318:=shK func186,f319:=shK func187,f320:=shK func188,f337:=shK func207,f338:=shK func208,t0:=underlying0,a0:=isAgg0,z0:=sizeOf0,v0:=zeroValue0,t2:=underlying2,a2:=isAgg2,z2:=sizeOf2,v2:=zeroValue2,t3:=underlying3,a3:=isAgg3,z3:=sizeOf3,v3:=zeroValue3,t4:=underlying4,a4:=isAgg4,z4:=sizeOf4,v4:=zeroValue4,t5:=underlying5,a5:=isAgg5,z5:=sizeOf5,v5:=zeroValue5,t9:=underlying9,a9:=isAgg9,z9:=sizeOf9,v9:=zeroValue9,t20:=underlying20,a20:=isAgg20,z20:=sizeOf20,v20:=zeroValue20,t37:=underlying96,a37:=isAgg96,z37:=sizeOf96,v37:=zeroValue96,t46:=underlying258,a46:=isAgg258,z46:=sizeOf258,v46:=zeroValue258,t51:=underlying256,a51:=isAgg256,z51:=sizeOf256,v51:=zeroValue256,t53:=underlying220,a53:=isAgg220,z53:=sizeOf220,v53:=zeroValue220,t171:=underlying219,a171:=isAgg219,z171:=sizeOf219,v171:=zeroValue219,t173:=underlying223,a173:=isAgg223,z173:=sizeOf223,v173:=zeroValue223,t212:=underlying255,a212:=isAgg255,z212:=sizeOf255,v212:=zeroValue255,t213:=underlying257,a213:=isAgg257,z213:=sizeOf257,t232:=underlying276,a232:=isAgg276,z232:=sizeOf276,v232:=zeroValue276,t233:=underlying277,a233:=isAgg277,z233:=sizeOf277,v233:=zeroValue277,g17:=by kernel_rfl,g18:=by kernel_rfl,g19:=by kernel_rfl,i0:=by kernel_rfl,i2:=by kernel_rfl,i3:=by kernel_rfl,i4:=by kernel_rfl,i5:=by kernel_rfl,i9:=by kernel_rfl,i20:=by kernel_rfl,i37:=by kernel_rfl,i46:=by kernel_rfl,i51:=by kernel_rfl,i53:=by kernel_rfl,i171:=by kernel_rfl,i173:=by kernel_rfl,i212:=by kernel_rfl,i232:=by kernel_rfl,i233:=by kernel_rfl,m17:=by kernel_rfl,m18:=by kernel_rfl,m19:=by kernel_rfl }
open Go.RowKit Go.Sort Go.Lib in
theorem Tryz.strconv_Itoa (n : Int) (h0 : -9223372036854775808 ≤ n) (h1 : n ≤ 9223372036854775807) (w : World) (htab : Lib.TabIs Tryz.prog w "internal/strconv.uint64pow10" .u64 Lib.pow10Tab) :
    Calls Tryz.prog 54 #[.int .i64 n] w fun e w' => e = .returned (.string ⟨(Lib.itoa n).toArray⟩) ∧ ∃ k os, w' = grow (w.drewN k) os := Any.strconv_Itoa Tryz.laysM171 n h0 h1 w htab
def Tryz.lays190_ren : Go.Shelf.Ren := ⟨fun | 190 => 232 | 125 => 236 | 258 => 235 | 128 => 247 | 129 => 185 | 302 => 238 | 303 => 239 | 304 => 240 | 305 => 241 | 306 => 242 | 307 => 243 | 308 => 244 | 309 => 245 | 310 => 246 | 333 => 248 | 329 => 249 | 330 => 250 | 334 => 251 | 335 => 252 | 336 => 253 | 344 => 254 | n => n, fun | 31 => 38 | 9 => 9 | 3 => 3 | 46 => 258 | 0 => 0 | 51 => 256 | 53 => 220 | 4 => 4 | 183 => 291 | 182 => 290 | 131 => 284 | 5 => 5 | 218 => 297 | 222 => 301 | 228 => 303 | 229 => 304 | n => n, fun | n => n⟩
theorem Tryz.lays190 : Go.Proofs.Lays.n190 Tryz.prog Tryz.lays190_ren := ⟨by kernel_rfl,shK func236,shK func247,shK func185,shK func232,shK func235,shK func238,shK func239,
shK func240,shK func241,shK func242,shK func243,shK func244,shK func245,shK func246,shK func249,
shK func250,shK func248,shK func251,shK func252,shK func253,shK func254,underlying0,isAgg0,
sizeOf0,zeroValue0,underlying3,isAgg3,sizeOf3,zeroValue3,underlying4,isAgg4,
sizeOf4,zeroValue4,underlying5,isAgg5,sizeOf5,zeroValue5,underlying9,isAgg9,
sizeOf9,zeroValue9,underlying38,isAgg38,sizeOf38,zeroValue38,underlying258,isAgg258,
sizeOf258,zeroValue258,underlying256,isAgg256,sizeOf256,zeroValue256,underlying220,isAgg220,
sizeOf220,zeroValue220,underlying284,isAgg284,sizeOf284,zeroValue284,underlying290,isAgg290,
sizeOf290,zeroValue290,underlying291,isAgg291,sizeOf291,zeroValue291,underlying297,isAgg297,
sizeOf297,zeroValue297,underlying301,isAgg301,sizeOf301,zeroValue301,underlying303,isAgg303,
sizeOf303,zeroValue303,underlying304,isAgg304,sizeOf304,zeroValue304⟩
open Go.Sort Go.RowKit in
theorem Tryz.slices_Sort_string (blk off cap : Nat) (ss : List (List UInt8)) (w : World) (hH : Holds encStr w blk off ss.toArray) (hblk : blk < w.heap.size) (hsz : ss.length < 4611686018427387904) :
    Calls Tryz.prog 232 #[.slice (some ⟨blk, off, none⟩) ss.length cap] w fun e w' =>
      e = .returned (.tuple #[]) ∧ ∃ n os, w' = grow (putRow encStr (Sort.ahead w n) blk off (ss.mergeSort fun x y => decide (x ≤ y)).toArray) os := Any.slices_Sort_string Tryz.lays190 blk off cap ss w hH hblk hsz
def Tryz.laysNm216_ren : Go.Shelf.Ren := ⟨fun | 16 => 231 | n => n, fun | 24 => 38 | 9 => 9 | 4 => 4 | n => n, fun | n => n⟩
theorem Tryz.laysNm216 : Go.Proofs.Lays2.n16 Tryz.prog Tryz.laysNm216_ren := ⟨by kernel_rfl,shK func231,underlying4,isAgg4,sizeOf4,zeroValue4,underlying9,isAgg9,
sizeOf9,zeroValue9,underlying38,isAgg38,sizeOf38,zeroValue38,by kernel_rfl⟩
open Go.RowKit Go.Lib in
theorem Tryz.slices_Clone_string (b off n c : Nat) (zs : List ByteArray) (w : World) (hz : n ≤ zs.length) (hbig : n * 16 ≤ 140737488355328) (hc : ∀ j, j < zs.length → w.cell? ⟨b, off + j, none⟩ = some (.string (zs.getD j ByteArray.empty))) :
    Calls Tryz.prog 231 #[.slice (some ⟨b, off, none⟩) n c] w fun e w' => ∃ v', e = .returned v' ∧ w'.ownsRow w.heap.size 9 1 v' n ((zs.take n).map (Value.string)) ∧ v' ≠ .slice none 0 0 ∧ Below w.heap.size w w' := Any.slices_Clone_string Tryz.laysNm216 b off n c zs w hz hbig hc
open Go.RowKit Go.Lib in
theorem Tryz.slices_Clone_string_nil (n c : Nat) (w : World) :
    Calls Tryz.prog 231 #[.slice none n c] w fun e w' => e = .returned (.slice none 0 0) ∧ w' = w := Any.slices_Clone_string_nil Tryz.laysNm216 n c w
open Go.RowKit Go.Lib in
theorem Tryz.slices_Clone_string_zero (a : Addr) (c : Nat) (w : World) :
    Calls Tryz.prog 231 #[.slice (some a) 0 c] w fun e w' => ∃ v', e = .returned v' ∧ w'.ownsRow w.heap.size 9 1 v' 0 [] ∧ v' ≠ .slice none 0 0 ∧ Below w.heap.size w w' := Any.slices_Clone_string_zero Tryz.laysNm216 a c w
def Tryz.lays194_ren : Go.Shelf.Ren := ⟨fun | 194 => 233 | n => n, fun | 31 => 38 | 9 => 9 | 3 => 3 | 4 => 4 | 0 => 0 | n => n, fun | n => n⟩
theorem Tryz.lays194 : Go.Proofs.Lays.n194 Tryz.prog Tryz.lays194_ren := ⟨by kernel_rfl,shK func233,underlying0,isAgg0,sizeOf0,zeroValue0,underlying3,isAgg3,
sizeOf3,zeroValue3,underlying4,isAgg4,sizeOf4,zeroValue4,underlying9,isAgg9,
sizeOf9,zeroValue9,underlying38,isAgg38,sizeOf38,zeroValue38⟩
open Go.RowKit Go.Lib Go.Sort in
theorem Tryz.slices_Compact_string (blk off cap : Nat) (zs : List (List UInt8)) (w : World) (hH : Holds encStr w blk off zs.toArray) (hsz : zs.length ≤ 9223372036854775807) (hcap : zs.length ≤ cap) :
    Calls Tryz.prog 233 #[.slice (some ⟨blk, off, none⟩) zs.length cap] w fun e w' => e = .returned (.slice (some ⟨blk, off, none⟩) (Lib.compact zs).length cap) ∧ ∃ q, w' = putRow encStr (Sort.ahead w q) blk off (Lib.compact zs ++ List.replicate (zs.length - (Lib.compact zs).length) []).toArray := Any.slices_Compact_string Tryz.lays194 blk off cap zs w hH hsz hcap
open Go.RowKit Go.Lib Go.Sort in
theorem Tryz.slices_Compact_string_empty (a : Option Addr) (cap : Nat) (w : World) :
    Calls Tryz.prog 233 #[.slice a 0 cap] w fun e w' => e = .returned (.slice a 0 cap) ∧ w' = w := Any.slices_Compact_string_empty Tryz.lays194 a cap w
open Go.RowKit Go.Sort in
theorem Tryz.slices_Sort_string_none (p : Option Addr) (cap : Nat) (w : World) :
    Calls Tryz.prog 232 #[.slice p 0 cap] w fun e w' => e = .returned (.tuple #[]) ∧ w' = w := Any.slices_Sort_string_none Tryz.lays190 p cap w
end Go.Proofs
