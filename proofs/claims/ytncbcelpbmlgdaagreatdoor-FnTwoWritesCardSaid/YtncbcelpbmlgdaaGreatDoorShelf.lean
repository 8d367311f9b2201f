import Derived.Shelf.Strings.Builder1
import Derived.Shelf.Strings.Builder2
import Derived.Shelf.Strings.OnBuilder
import Derived.Shelf.Small.Bits
import Derived.Shelf.Utf8.RuneCount
import Derived.Shelf.Strconv.Atoi
import Derived.Shelf.Strconv.Itoa0
import Derived.Shelf.Strconv.Itoa1
import Derived.Shelf.LaysM
import Derived.Shelf.Strconv.Itoa2
import Derived.Shelf.Strconv.Itoa3
import Derived.Shelf.Strconv.AtoiErrFast
import Derived.Shelf.Strconv.ParseIntEmpty
import Derived.Shelf.Strconv.AtoiFail
import Derived.Shelf.Strconv.Clone
import Derived.Shelf.Strconv.SyntaxError
import Derived.Shelf.LaysC
import Derived.Shelf.Strconv.ToError
import Derived.Shelf.Strconv.Lower
import Derived.Shelf.Strconv.ParseUint10
import Derived.Shelf.Strconv.ParseUint10Empty
import Derived.Shelf.Strconv.ParseUint10Any
import Derived.Shelf.Strconv.ParseInt10
import Derived.Shelf.Strconv.AtoiLong
import Derived.Shelf.Strconv.AtoiInnerAll
import Derived.Shelf.Strconv.RangeError
import Derived.Shelf.Strconv.ToErrorRange
import Derived.Shelf.Strconv.AtoiAll
import Derived.Shelf.Strings.Search1
import Derived.Shelf.Strings.Search2
import Derived.Shelf.Strings.Search3
import Derived.Shelf.Strings.Count
import Derived.Shelf.Strings.Shaped
import Derived.Shelf.Sort.Plain
import Derived.Shelf.Strings.Split
import Derived.Shelf.Strings.Fields
import Derived.Shelf.Strings.SplitShaped
import Derived.Shelf.Unicode.Latin
import Derived.Shelf.Unicode.Decode
import Derived.Shelf.Strings.RuneCount
import Derived.Shelf.Strings.Explode
import Derived.Shelf.Unicode.DecodeSlow
import Derived.Shelf.Unicode.DecodeAny
import Derived.Shelf.Unicode.Is16White
import Derived.Shelf.Unicode.IsSpaceAny
import Derived.Shelf.Unicode.Is16Any
import Derived.Shelf.Unicode.Is32Any
import Derived.Shelf.Unicode.ExclAny
import Derived.Shelf.Slices.Equal
import Derived.Ground.Names2Prog
import Derived.Shelf.Slices.Clone
import Derived.Shelf.Slices.CompactS
import Derived.Shelf.Slices.Cells
import Derived.Shelf.Slices.In.SortNone
import Derived.Shelf.Slices.Empties2
import Derived.Ground.SlgnProg
import Derived.Shelf.SlicesE.Clone
import Derived.Test.YtncbcelpbmlgdaaGreatDoorProg
namespace Go.Proofs
open Go.Shelf
def Tryz.lays156_ren : Go.Shelf.Ren := ⟨fun | 156 => 74 | 165 => 129 | 166 => 130 | 169 => 131 | 240 => 164 | 241 => 165 | 276 => 191 | 277 => 192 | n => n, fun | 31 => 42 | 9 => 9 | 3 => 3 | 4 => 4 | 0 => 0 | 20 => 20 | 72 => 151 | 76 => 155 | 70 => 149 | 37 => 22 | 75 => 154 | 127 => 180 | 164 => 194 | 5 => 5 | 80 => 157 | n => n, fun | n => n⟩
theorem Tryz.lays156 : Go.Proofs.Lays.n156 Tryz.prog Tryz.lays156_ren := {
  mixed := by kernel_rfl
  f156 := Tryz.func74.trans (congrArg some (by kernel_rfl))
  f165 := Tryz.func129.trans (congrArg some (by kernel_rfl))
  f166 := Tryz.func130.trans (congrArg some (by kernel_rfl))
  f169 := Tryz.func131.trans (congrArg some (by kernel_rfl))
  f240 := Tryz.func164.trans (congrArg some (by kernel_rfl))
  f241 := Tryz.func165.trans (congrArg some (by kernel_rfl))
  f276 := Tryz.func191.trans (congrArg some (by kernel_rfl))
  f277 := Tryz.func192.trans (congrArg some (by kernel_rfl))
  t0 := Tryz.underlying0
  a0 := Tryz.isAgg0
  z0 := Tryz.sizeOf0
  v0 := Tryz.zeroValue0
  t3 := Tryz.underlying3
  a3 := Tryz.isAgg3
  z3 := Tryz.sizeOf3
  v3 := Tryz.zeroValue3
  t4 := Tryz.underlying4
  a4 := Tryz.isAgg4
  z4 := Tryz.sizeOf4
  v4 := Tryz.zeroValue4
  t9 := Tryz.underlying9
  a9 := Tryz.isAgg9
  z9 := Tryz.sizeOf9
  v9 := Tryz.zeroValue9
  t20 := Tryz.underlying20
  a20 := Tryz.isAgg20
  z20 := Tryz.sizeOf20
  v20 := Tryz.zeroValue20
  t31 := Tryz.underlying42
  a31 := Tryz.isAgg42
  z31 := Tryz.sizeOf42
  v31 := Tryz.zeroValue42
  t37 := Tryz.underlying22
  a37 := Tryz.isAgg22
  z37 := Tryz.sizeOf22
  v37 := Tryz.zeroValue22
  t70 := Tryz.underlying149
  a70 := Tryz.isAgg149
  z70 := Tryz.sizeOf149
  v70 := Tryz.zeroValue149
  t72 := Tryz.underlying151
  a72 := Tryz.isAgg151
  z72 := Tryz.sizeOf151
  v72 := Tryz.zeroValue151
  t75 := Tryz.underlying154
  a75 := Tryz.isAgg154
  z75 := Tryz.sizeOf154
  v75 := Tryz.zeroValue154
  t76 := Tryz.underlying155
  a76 := Tryz.isAgg155
  z76 := Tryz.sizeOf155
  v76 := Tryz.zeroValue155
  t127 := Tryz.underlying180
  a127 := Tryz.isAgg180
  z127 := Tryz.sizeOf180
  v127 := Tryz.zeroValue180
  t164 := Tryz.underlying194
  a164 := Tryz.isAgg194
  z164 := Tryz.sizeOf194
  v164 := Tryz.zeroValue194 }
theorem Tryz.Builder_Extra_156 : Builder.Extra Tryz.prog Tryz.lays156_ren := {
  sizeBuilder := by kernel_rfl
  liesBuilder := by kernel_rfl
  t5 := Tryz.underlying5
  a5 := Tryz.isAgg5
  z5 := Tryz.sizeOf5
  v5 := Tryz.zeroValue5
  infoByte := by kernel_rfl
  cellsByte := by kernel_rfl
  sizeByte := by kernel_rfl
  neB5 := by decide }
open Go.RowKit in
theorem Tryz.strings_Join_none (a : Option Addr) (c : Nat) (sep : ByteArray) (w : World) :
    Calls Tryz.prog 74 #[.slice a 0 c, .string sep] w fun e w' => e = .returned (.string ⟨#[]⟩) ∧ w' = w := Any.strings_Join_none Tryz.lays156 Tryz.Builder_Extra_156 a c sep w
open Go.RowKit in
theorem Tryz.strings_Join (bk o c : Nat) (xs : List ByteArray) (sep : ByteArray) (w : World) (hcells : ∀ (j : Nat) x, xs[j]? = some x → w.cell? ⟨bk, o + j, none⟩ = some (.string x)) (hbk : bk < w.heap.size) (hN : xs.length ≤ 140737488355328) (hcap : xs.length ≤ c) (hlen : (Lib.join (xs.map (·.data.toList)) sep.data.toList).length ≤ 140737488355328) :
    Calls Tryz.prog 74 #[.slice (some ⟨bk, o, none⟩) xs.length c, .string sep] w fun e w' => e = .returned (.string ⟨(Lib.join (xs.map (·.data.toList)) sep.data.toList).toArray⟩) ∧ Below w.heap.size w w' := Any.strings_Join Tryz.lays156 Tryz.Builder_Extra_156 bk o c xs sep w hcells hbk hN hcap hlen
def Tryz.lays172_ren : Go.Shelf.Ren := ⟨fun | 172 => 141 | 244 => 180 | 245 => 181 | 247 => 203 | 279 => 204 | 280 => 205 | 281 => 206 | 282 => 207 | 287 => 226 | 316 => 227 | 171 => 103 | 205 => 228 | 321 => 242 | 322 => 243 | 243 => 148 | 246 => 185 | 283 => 209 | 284 => 210 | 285 => 211 | 286 => 212 | 129 => 230 | 317 => 229 | 318 => 231 | 319 => 232 | 320 => 233 | 337 => 244 | 338 => 245 | n => n, fun | 9 => 9 | 3 => 3 | 75 => 154 | 76 => 155 | 4 => 4 | 5 => 5 | 167 => 202 | 37 => 22 | 0 => 0 | 85 => 203 | 2 => 2 | 168 => 205 | 53 => 209 | 175 => 224 | 46 => 163 | 210 => 228 | 127 => 180 | 145 => 250 | 143 => 248 | 21 => 21 | 171 => 208 | 173 => 212 | 212 => 231 | 51 => 232 | 20 => 20 | 213 => 233 | 232 => 264 | 233 => 265 | 80 => 157 | n => n, fun | 15 => 2 | 16 => 3 | 17 => 4 | 18 => 8 | 19 => 9 | n => n⟩
theorem Tryz.lays172 : Go.Proofs.Lays.n172 Tryz.prog Tryz.lays172_ren := {
  mixed := by kernel_rfl
  f129 := Tryz.func230.trans (congrArg some (by kernel_rfl))
  f171 := Tryz.func103.trans (congrArg some (by kernel_rfl))
  f172 := Tryz.func141.trans (congrArg some (by kernel_rfl))
  f205 := Tryz.func228.trans (congrArg some (by kernel_rfl))
  f243 := Tryz.func148.trans (congrArg some (by kernel_rfl))
  f244 := Tryz.func180.trans (congrArg some (by kernel_rfl))
  f245 := Tryz.func181.trans (congrArg some (by kernel_rfl))
  f246 := Tryz.func185.trans (congrArg some (by kernel_rfl))
  f247 := Tryz.func203.trans (congrArg some (by kernel_rfl))
  f279 := Tryz.func204.trans (congrArg some (by kernel_rfl))
  f280 := Tryz.func205.trans (congrArg some (by kernel_rfl))
  f281 := Tryz.func206.trans (congrArg some (by kernel_rfl))
  f282 := Tryz.func207.trans (congrArg some (by kernel_rfl))
  f283 := Tryz.func209.trans (congrArg some (by kernel_rfl))
  f284 := Tryz.func210.trans (congrArg some (by kernel_rfl))
  f285 := Tryz.func211.trans (congrArg some (by kernel_rfl))
  f286 := Tryz.func212.trans (congrArg some (by kernel_rfl))
  f287 := Tryz.func226.trans (congrArg some (by kernel_rfl))
  f316 := Tryz.func227.trans (congrArg some (by kernel_rfl))
  f317 := Tryz.func229.trans (congrArg some (by kernel_rfl))
  f318 := Tryz.func231.trans (congrArg some (by kernel_rfl))
  f319 := Tryz.func232.trans (congrArg some (by kernel_rfl))
  f320 := Tryz.func233.trans (congrArg some (by kernel_rfl))
  f321 := Tryz.func242.trans (congrArg some (by kernel_rfl))
  f322 := Tryz.func243.trans (congrArg some (by kernel_rfl))
  f337 := Tryz.func244.trans (congrArg some (by kernel_rfl))
  f338 := Tryz.func245.trans (congrArg some (by kernel_rfl))
  t0 := Tryz.underlying0
  a0 := Tryz.isAgg0
  z0 := Tryz.sizeOf0
  v0 := Tryz.zeroValue0
  t2 := Tryz.underlying2
  a2 := Tryz.isAgg2
  z2 := Tryz.sizeOf2
  v2 := Tryz.zeroValue2
  t3 := Tryz.underlying3
  a3 := Tryz.isAgg3
  z3 := Tryz.sizeOf3
  v3 := Tryz.zeroValue3
  t4 := Tryz.underlying4
  a4 := Tryz.isAgg4
  z4 := Tryz.sizeOf4
  v4 := Tryz.zeroValue4
  t5 := Tryz.underlying5
  a5 := Tryz.isAgg5
  z5 := Tryz.sizeOf5
  v5 := Tryz.zeroValue5
  t9 := Tryz.underlying9
  a9 := Tryz.isAgg9
  z9 := Tryz.sizeOf9
  v9 := Tryz.zeroValue9
  t20 := Tryz.underlying20
  a20 := Tryz.isAgg20
  z20 := Tryz.sizeOf20
  v20 := Tryz.zeroValue20
  t21 := Tryz.underlying21
  a21 := Tryz.isAgg21
  z21 := Tryz.sizeOf21
  v21 := Tryz.zeroValue21
  t37 := Tryz.underlying22
  a37 := Tryz.isAgg22
  z37 := Tryz.sizeOf22
  v37 := Tryz.zeroValue22
  t46 := Tryz.underlying163
  a46 := Tryz.isAgg163
  z46 := Tryz.sizeOf163
  v46 := Tryz.zeroValue163
  t51 := Tryz.underlying232
  a51 := Tryz.isAgg232
  z51 := Tryz.sizeOf232
  v51 := Tryz.zeroValue232
  t53 := Tryz.underlying209
  a53 := Tryz.isAgg209
  z53 := Tryz.sizeOf209
  v53 := Tryz.zeroValue209
  t75 := Tryz.underlying154
  a75 := Tryz.isAgg154
  z75 := Tryz.sizeOf154
  v75 := Tryz.zeroValue154
  t76 := Tryz.underlying155
  a76 := Tryz.isAgg155
  z76 := Tryz.sizeOf155
  v76 := Tryz.zeroValue155
  t85 := Tryz.underlying203
  a85 := Tryz.isAgg203
  z85 := Tryz.sizeOf203
  v85 := Tryz.zeroValue203
  t127 := Tryz.underlying180
  a127 := Tryz.isAgg180
  z127 := Tryz.sizeOf180
  v127 := Tryz.zeroValue180
  t143 := Tryz.underlying248
  a143 := Tryz.isAgg248
  z143 := Tryz.sizeOf248
  v143 := Tryz.zeroValue248
  t145 := Tryz.underlying250
  a145 := Tryz.isAgg250
  z145 := Tryz.sizeOf250
  v145 := Tryz.zeroValue250
  t167 := Tryz.underlying202
  a167 := Tryz.isAgg202
  z167 := Tryz.sizeOf202
  v167 := Tryz.zeroValue202
  t168 := Tryz.underlying205
  a168 := Tryz.isAgg205
  z168 := Tryz.sizeOf205
  v168 := Tryz.zeroValue205
  t171 := Tryz.underlying208
  a171 := Tryz.isAgg208
  z171 := Tryz.sizeOf208
  v171 := Tryz.zeroValue208
  t173 := Tryz.underlying212
  a173 := Tryz.isAgg212
  z173 := Tryz.sizeOf212
  v173 := Tryz.zeroValue212
  t175 := Tryz.underlying224
  a175 := Tryz.isAgg224
  z175 := Tryz.sizeOf224
  v175 := Tryz.zeroValue224
  t210 := Tryz.underlying228
  a210 := Tryz.isAgg228
  z210 := Tryz.sizeOf228
  v210 := Tryz.zeroValue228
  t212 := Tryz.underlying231
  a212 := Tryz.isAgg231
  z212 := Tryz.sizeOf231
  v212 := Tryz.zeroValue231
  t213 := Tryz.underlying233
  a213 := Tryz.isAgg233
  z213 := Tryz.sizeOf233
  t232 := Tryz.underlying264
  a232 := Tryz.isAgg264
  z232 := Tryz.sizeOf264
  v232 := Tryz.zeroValue264
  t233 := Tryz.underlying265
  a233 := Tryz.isAgg265
  z233 := Tryz.sizeOf265
  v233 := Tryz.zeroValue265
  g15 := by kernel_rfl
  g16 := by kernel_rfl
  g17 := by kernel_rfl
  g18 := by kernel_rfl
  g19 := by kernel_rfl }
open Go.RowKit in
theorem Tryz.strconv_Atoi (s : ByteArray) (n : Int) (hl : s.size ≤ 18) (h : Lib.atoi s.data.toList = some n) (w : World) :
    Calls Tryz.prog 141 #[.string s] w fun e w' => e = .returned (.tuple #[.int .i64 n, .nilIface]) ∧ ∃ t, w' = Lib.bytesWorld w 5 t := Any.strconv_Atoi Tryz.lays172 s n hl h w
def Tryz.laysM171_ren : Go.Shelf.Ren := ⟨fun | 171 => 103 | 243 => 148 | 246 => 185 | 283 => 209 | 284 => 210 | 285 => 211 | 286 => 212 | 129 => 230 | 317 => 229 | 318 => 231 | 319 => 232 | 320 => 233 | 337 => 244 | 338 => 245 | n => n, fun | 3 => 3 | 9 => 9 | 2 => 2 | 4 => 4 | 171 => 208 | 0 => 0 | 53 => 209 | 37 => 22 | 5 => 5 | 173 => 212 | 212 => 231 | 51 => 232 | 20 => 20 | 213 => 233 | 46 => 163 | 232 => 264 | 233 => 265 | n => n, fun | 17 => 4 | 18 => 8 | 19 => 9 | n => n⟩
theorem Tryz.laysM171 : Go.Proofs.LaysM.n171 Tryz.prog Tryz.laysM171_ren := {
  mixed := by kernel_rfl
  f129 := Tryz.func230.trans (congrArg some (by kernel_rfl))
  f171 := Tryz.func103.trans (congrArg some (by kernel_rfl))
  f243 := Tryz.func148.trans (congrArg some (by kernel_rfl))
  f246 := Tryz.func185.trans (congrArg some (by kernel_rfl))
  f283 := Tryz.func209.trans (congrArg some (by kernel_rfl))
  f284 := Tryz.func210.trans (congrArg some (by kernel_rfl))
  f285 := Tryz.func211.trans (congrArg some (by kernel_rfl))
  f286 := Tryz.func212.trans (congrArg some (by kernel_rfl))
  f317 := Tryz.func229.trans (congrArg some (by kernel_rfl))
  f318 := Tryz.func231.trans (congrArg some (by kernel_rfl))
  f319 := Tryz.func232.trans (congrArg some (by kernel_rfl))
  f320 := Tryz.func233.trans (congrArg some (by kernel_rfl))
  f337 := Tryz.func244.trans (congrArg some (by kernel_rfl))
  f338 := Tryz.func245.trans (congrArg some (by kernel_rfl))
  t0 := Tryz.underlying0
  a0 := Tryz.isAgg0
  z0 := Tryz.sizeOf0
  v0 := Tryz.zeroValue0
  t2 := Tryz.underlying2
  a2 := Tryz.isAgg2
  z2 := Tryz.sizeOf2
  v2 := Tryz.zeroValue2
  t3 := Tryz.underlying3
  a3 := Tryz.isAgg3
  z3 := Tryz.sizeOf3
  v3 := Tryz.zeroValue3
  t4 := Tryz.underlying4
  a4 := Tryz.isAgg4
  z4 := Tryz.sizeOf4
  v4 := Tryz.zeroValue4
  t5 := Tryz.underlying5
  a5 := Tryz.isAgg5
  z5 := Tryz.sizeOf5
  v5 := Tryz.zeroValue5
  t9 := Tryz.underlying9
  a9 := Tryz.isAgg9
  z9 := Tryz.sizeOf9
  v9 := Tryz.zeroValue9
  t20 := Tryz.underlying20
  a20 := Tryz.isAgg20
  z20 := Tryz.sizeOf20
  v20 := Tryz.zeroValue20
  t37 := Tryz.underlying22
  a37 := Tryz.isAgg22
  z37 := Tryz.sizeOf22
  v37 := Tryz.zeroValue22
  t46 := Tryz.underlying163
  a46 := Tryz.isAgg163
  z46 := Tryz.sizeOf163
  v46 := Tryz.zeroValue163
  t51 := Tryz.underlying232
  a51 := Tryz.isAgg232
  z51 := Tryz.sizeOf232
  v51 := Tryz.zeroValue232
  t53 := Tryz.underlying209
  a53 := Tryz.isAgg209
  z53 := Tryz.sizeOf209
  v53 := Tryz.zeroValue209
  t171 := Tryz.underlying208
  a171 := Tryz.isAgg208
  z171 := Tryz.sizeOf208
  v171 := Tryz.zeroValue208
  t173 := Tryz.underlying212
  a173 := Tryz.isAgg212
  z173 := Tryz.sizeOf212
  v173 := Tryz.zeroValue212
  t212 := Tryz.underlying231
  a212 := Tryz.isAgg231
  z212 := Tryz.sizeOf231
  v212 := Tryz.zeroValue231
  t213 := Tryz.underlying233
  a213 := Tryz.isAgg233
  z213 := Tryz.sizeOf233
  t232 := Tryz.underlying264
  a232 := Tryz.isAgg264
  z232 := Tryz.sizeOf264
  v232 := Tryz.zeroValue264
  t233 := Tryz.underlying265
  a233 := Tryz.isAgg265
  z233 := Tryz.sizeOf265
  v233 := Tryz.zeroValue265
  g17 := by kernel_rfl
  g18 := by kernel_rfl
  g19 := by kernel_rfl
  i0 := by kernel_rfl
  i2 := by kernel_rfl
  i3 := by kernel_rfl
  i4 := by kernel_rfl
  i5 := by kernel_rfl
  i9 := by kernel_rfl
  i20 := by kernel_rfl
  i37 := by kernel_rfl
  i46 := by kernel_rfl
  i51 := by kernel_rfl
  i53 := by kernel_rfl
  i171 := by kernel_rfl
  i173 := by kernel_rfl
  i212 := by kernel_rfl
  i232 := by kernel_rfl
  i233 := by kernel_rfl
  m17 := by kernel_rfl
  m18 := by kernel_rfl
  m19 := by kernel_rfl }
open Go.RowKit Go.Sort Go.Lib in
theorem Tryz.strconv_Itoa (n : Int) (h0 : -9223372036854775808 ≤ n) (h1 : n ≤ 9223372036854775807) (w : World) (htab : Lib.TabIs Tryz.prog w "internal/strconv.uint64pow10" .u64 Lib.pow10Tab) :
    Calls Tryz.prog 103 #[.int .i64 n] w fun e w' => e = .returned (.string ⟨(Lib.itoa n).toArray⟩) ∧ ∃ k os, w' = grow (w.drewN k) os := Any.strconv_Itoa Tryz.laysM171 n h0 h1 w htab
def Tryz.laysC172_ren : Go.Shelf.Ren := ⟨fun | 172 => 141 | 244 => 180 | 245 => 181 | 247 => 203 | 279 => 204 | 280 => 205 | 281 => 206 | 282 => 207 | 287 => 226 | 316 => 227 | 171 => 103 | 205 => 228 | 321 => 242 | 322 => 243 | 243 => 148 | 246 => 185 | 283 => 209 | 284 => 210 | 285 => 211 | 286 => 212 | 129 => 230 | 317 => 229 | 318 => 231 | 319 => 232 | 320 => 233 | 337 => 244 | 338 => 245 | n => n, fun | 9 => 9 | 3 => 3 | 75 => 154 | 76 => 155 | 4 => 4 | 5 => 5 | 167 => 202 | 37 => 22 | 0 => 0 | 85 => 203 | 2 => 2 | 168 => 205 | 53 => 209 | 175 => 224 | 46 => 163 | 210 => 228 | 127 => 180 | 145 => 250 | 143 => 248 | 21 => 21 | 171 => 208 | 173 => 212 | 212 => 231 | 51 => 232 | 20 => 20 | 213 => 233 | 232 => 264 | 233 => 265 | 80 => 157 | n => n, fun | 15 => 2 | 16 => 3 | 17 => 4 | 18 => 8 | 19 => 9 | n => n⟩
theorem Tryz.laysC172 : Go.Proofs.LaysC.n172 Tryz.prog Tryz.laysC172_ren := {
  mixed := by kernel_rfl
  f129 := Tryz.func230.trans (congrArg some (by kernel_rfl))
  f171 := Tryz.func103.trans (congrArg some (by kernel_rfl))
  f172 := Tryz.func141.trans (congrArg some (by kernel_rfl))
  f205 := Tryz.func228.trans (congrArg some (by kernel_rfl))
  f243 := Tryz.func148.trans (congrArg some (by kernel_rfl))
  f244 := Tryz.func180.trans (congrArg some (by kernel_rfl))
  f245 := Tryz.func181.trans (congrArg some (by kernel_rfl))
  f246 := Tryz.func185.trans (congrArg some (by kernel_rfl))
  f247 := Tryz.func203.trans (congrArg some (by kernel_rfl))
  f279 := Tryz.func204.trans (congrArg some (by kernel_rfl))
  f280 := Tryz.func205.trans (congrArg some (by kernel_rfl))
  f281 := Tryz.func206.trans (congrArg some (by kernel_rfl))
  f282 := Tryz.func207.trans (congrArg some (by kernel_rfl))
  f283 := Tryz.func209.trans (congrArg some (by kernel_rfl))
  f284 := Tryz.func210.trans (congrArg some (by kernel_rfl))
  f285 := Tryz.func211.trans (congrArg some (by kernel_rfl))
  f286 := Tryz.func212.trans (congrArg some (by kernel_rfl))
  f287 := Tryz.func226.trans (congrArg some (by kernel_rfl))
  f316 := Tryz.func227.trans (congrArg some (by kernel_rfl))
  f317 := Tryz.func229.trans (congrArg some (by kernel_rfl))
  f318 := Tryz.func231.trans (congrArg some (by kernel_rfl))
  f319 := Tryz.func232.trans (congrArg some (by kernel_rfl))
  f320 := Tryz.func233.trans (congrArg some (by kernel_rfl))
  f321 := Tryz.func242.trans (congrArg some (by kernel_rfl))
  f322 := Tryz.func243.trans (congrArg some (by kernel_rfl))
  f337 := Tryz.func244.trans (congrArg some (by kernel_rfl))
  f338 := Tryz.func245.trans (congrArg some (by kernel_rfl))
  t0 := Tryz.underlying0
  a0 := Tryz.isAgg0
  z0 := Tryz.sizeOf0
  v0 := Tryz.zeroValue0
  t2 := Tryz.underlying2
  a2 := Tryz.isAgg2
  z2 := Tryz.sizeOf2
  v2 := Tryz.zeroValue2
  t3 := Tryz.underlying3
  a3 := Tryz.isAgg3
  z3 := Tryz.sizeOf3
  v3 := Tryz.zeroValue3
  t4 := Tryz.underlying4
  a4 := Tryz.isAgg4
  z4 := Tryz.sizeOf4
  v4 := Tryz.zeroValue4
  t5 := Tryz.underlying5
  a5 := Tryz.isAgg5
  z5 := Tryz.sizeOf5
  v5 := Tryz.zeroValue5
  t9 := Tryz.underlying9
  a9 := Tryz.isAgg9
  z9 := Tryz.sizeOf9
  v9 := Tryz.zeroValue9
  t20 := Tryz.underlying20
  a20 := Tryz.isAgg20
  z20 := Tryz.sizeOf20
  v20 := Tryz.zeroValue20
  t21 := Tryz.underlying21
  a21 := Tryz.isAgg21
  z21 := Tryz.sizeOf21
  v21 := Tryz.zeroValue21
  t37 := Tryz.underlying22
  a37 := Tryz.isAgg22
  z37 := Tryz.sizeOf22
  v37 := Tryz.zeroValue22
  t46 := Tryz.underlying163
  a46 := Tryz.isAgg163
  z46 := Tryz.sizeOf163
  v46 := Tryz.zeroValue163
  t51 := Tryz.underlying232
  a51 := Tryz.isAgg232
  z51 := Tryz.sizeOf232
  v51 := Tryz.zeroValue232
  t53 := Tryz.underlying209
  a53 := Tryz.isAgg209
  z53 := Tryz.sizeOf209
  v53 := Tryz.zeroValue209
  t75 := Tryz.underlying154
  a75 := Tryz.isAgg154
  z75 := Tryz.sizeOf154
  v75 := Tryz.zeroValue154
  t76 := Tryz.underlying155
  a76 := Tryz.isAgg155
  z76 := Tryz.sizeOf155
  v76 := Tryz.zeroValue155
  t85 := Tryz.underlying203
  a85 := Tryz.isAgg203
  z85 := Tryz.sizeOf203
  v85 := Tryz.zeroValue203
  t127 := Tryz.underlying180
  a127 := Tryz.isAgg180
  z127 := Tryz.sizeOf180
  v127 := Tryz.zeroValue180
  t143 := Tryz.underlying248
  a143 := Tryz.isAgg248
  z143 := Tryz.sizeOf248
  v143 := Tryz.zeroValue248
  t145 := Tryz.underlying250
  a145 := Tryz.isAgg250
  z145 := Tryz.sizeOf250
  v145 := Tryz.zeroValue250
  t167 := Tryz.underlying202
  a167 := Tryz.isAgg202
  z167 := Tryz.sizeOf202
  v167 := Tryz.zeroValue202
  t168 := Tryz.underlying205
  a168 := Tryz.isAgg205
  z168 := Tryz.sizeOf205
  v168 := Tryz.zeroValue205
  t171 := Tryz.underlying208
  a171 := Tryz.isAgg208
  z171 := Tryz.sizeOf208
  v171 := Tryz.zeroValue208
  t173 := Tryz.underlying212
  a173 := Tryz.isAgg212
  z173 := Tryz.sizeOf212
  v173 := Tryz.zeroValue212
  t175 := Tryz.underlying224
  a175 := Tryz.isAgg224
  z175 := Tryz.sizeOf224
  v175 := Tryz.zeroValue224
  t210 := Tryz.underlying228
  a210 := Tryz.isAgg228
  z210 := Tryz.sizeOf228
  v210 := Tryz.zeroValue228
  t212 := Tryz.underlying231
  a212 := Tryz.isAgg231
  z212 := Tryz.sizeOf231
  v212 := Tryz.zeroValue231
  t213 := Tryz.underlying233
  a213 := Tryz.isAgg233
  z213 := Tryz.sizeOf233
  t232 := Tryz.underlying264
  a232 := Tryz.isAgg264
  z232 := Tryz.sizeOf264
  v232 := Tryz.zeroValue264
  t233 := Tryz.underlying265
  a233 := Tryz.isAgg265
  z233 := Tryz.sizeOf265
  v233 := Tryz.zeroValue265
  g15 := by kernel_rfl
  g16 := by kernel_rfl
  g17 := by kernel_rfl
  g18 := by kernel_rfl
  g19 := by kernel_rfl
  t80 := Tryz.underlying157
  a80 := Tryz.isAgg157
  z80 := Tryz.sizeOf157
  v80 := Tryz.zeroValue157
  i0 := by kernel_rfl
  i2 := by kernel_rfl
  i3 := by kernel_rfl
  i4 := by kernel_rfl
  i5 := by kernel_rfl
  i9 := by kernel_rfl
  i20 := by kernel_rfl
  i21 := by kernel_rfl
  i37 := by kernel_rfl
  i46 := by kernel_rfl
  i51 := by kernel_rfl
  i53 := by kernel_rfl
  i75 := by kernel_rfl
  i76 := by kernel_rfl
  i80 := by kernel_rfl
  i85 := by kernel_rfl
  i127 := by kernel_rfl
  i143 := by kernel_rfl
  i145 := by kernel_rfl
  i167 := by kernel_rfl
  i168 := by kernel_rfl
  i171 := by kernel_rfl
  i173 := by kernel_rfl
  i175 := by kernel_rfl
  i210 := by kernel_rfl
  i212 := by kernel_rfl
  i232 := by kernel_rfl
  i233 := by kernel_rfl
  m15 := by kernel_rfl
  m16 := by kernel_rfl
  m17 := by kernel_rfl
  m18 := by kernel_rfl
  m19 := by kernel_rfl
  c0 := by kernel_rfl
  c2 := by kernel_rfl
  c3 := by kernel_rfl
  c4 := by kernel_rfl
  c5 := by kernel_rfl
  c9 := by kernel_rfl
  c20 := by kernel_rfl
  c21 := by kernel_rfl
  c37 := by kernel_rfl
  c46 := by kernel_rfl
  c51 := by kernel_rfl
  c53 := by kernel_rfl
  c75 := by kernel_rfl
  c76 := by kernel_rfl
  c80 := by kernel_rfl
  c85 := by kernel_rfl
  c127 := by kernel_rfl
  c143 := by kernel_rfl
  c145 := by kernel_rfl
  c167 := by kernel_rfl
  c168 := by kernel_rfl
  c171 := by kernel_rfl
  c173 := by kernel_rfl
  c175 := by kernel_rfl
  c210 := by kernel_rfl
  c212 := by kernel_rfl
  c213 := by kernel_rfl
  c232 := by kernel_rfl
  c233 := by kernel_rfl }
open Go.RowKit in
theorem Tryz.strconv_Atoi_syntax (s : ByteArray) (hlim : s.size ≤ 281474976710656) (h : Lib.atoiAll s.data.toList = (Lib.NumEnd.ofOption none)) (ev : Value) (w : World) (hv : w.cell? ⟨2, 0, none⟩ = some ev) (hev : ev = .nilIface ∨ ∃ te pe, ev = .iface te pe) :
    Calls Tryz.prog 141 #[.string s] w fun e w' => ∃ N, e = .returned (.tuple #[.int .i64 (0), .iface 205 (.pointer (some ⟨N, 0, none⟩))]) ∧ w.heap.size ≤ N ∧ w'.heap[N]? = some (.cells #[.string ⟨#[65, 116, 111, 105]⟩, .string s, ev] 228 (0, 0)) ∧ Below w.heap.size w w' := Any.strconv_Atoi_syntax Tryz.laysC172 s hlim h ev w hv hev
def Tryz.lays190_ren : Go.Shelf.Ren := ⟨fun | 190 => 236 | 125 => 249 | 258 => 248 | 128 => 259 | 129 => 230 | 302 => 250 | 303 => 251 | 304 => 252 | 305 => 253 | 306 => 254 | 307 => 255 | 308 => 256 | 309 => 257 | 310 => 258 | 333 => 260 | 329 => 261 | 330 => 262 | 334 => 263 | 335 => 264 | 336 => 265 | 344 => 266 | n => n, fun | 31 => 42 | 9 => 9 | 3 => 3 | 46 => 163 | 0 => 0 | 51 => 232 | 53 => 209 | 4 => 4 | 183 => 270 | 182 => 269 | 131 => 112 | 5 => 5 | 218 => 276 | 222 => 280 | 228 => 282 | 229 => 283 | n => n, fun | n => n⟩
theorem Tryz.lays190 : Go.Proofs.Lays.n190 Tryz.prog Tryz.lays190_ren := {
  mixed := by kernel_rfl
  f125 := Tryz.func249.trans (congrArg some (by kernel_rfl))
  f128 := Tryz.func259.trans (congrArg some (by kernel_rfl))
  f129 := Tryz.func230.trans (congrArg some (by kernel_rfl))
  f190 := Tryz.func236.trans (congrArg some (by kernel_rfl))
  f258 := Tryz.func248.trans (congrArg some (by kernel_rfl))
  f302 := Tryz.func250.trans (congrArg some (by kernel_rfl))
  f303 := Tryz.func251.trans (congrArg some (by kernel_rfl))
  f304 := Tryz.func252.trans (congrArg some (by kernel_rfl))
  f305 := Tryz.func253.trans (congrArg some (by kernel_rfl))
  f306 := Tryz.func254.trans (congrArg some (by kernel_rfl))
  f307 := Tryz.func255.trans (congrArg some (by kernel_rfl))
  f308 := Tryz.func256.trans (congrArg some (by kernel_rfl))
  f309 := Tryz.func257.trans (congrArg some (by kernel_rfl))
  f310 := Tryz.func258.trans (congrArg some (by kernel_rfl))
  f329 := Tryz.func261.trans (congrArg some (by kernel_rfl))
  f330 := Tryz.func262.trans (congrArg some (by kernel_rfl))
  f333 := Tryz.func260.trans (congrArg some (by kernel_rfl))
  f334 := Tryz.func263.trans (congrArg some (by kernel_rfl))
  f335 := Tryz.func264.trans (congrArg some (by kernel_rfl))
  f336 := Tryz.func265.trans (congrArg some (by kernel_rfl))
  f344 := Tryz.func266.trans (congrArg some (by kernel_rfl))
  t0 := Tryz.underlying0
  a0 := Tryz.isAgg0
  z0 := Tryz.sizeOf0
  v0 := Tryz.zeroValue0
  t3 := Tryz.underlying3
  a3 := Tryz.isAgg3
  z3 := Tryz.sizeOf3
  v3 := Tryz.zeroValue3
  t4 := Tryz.underlying4
  a4 := Tryz.isAgg4
  z4 := Tryz.sizeOf4
  v4 := Tryz.zeroValue4
  t5 := Tryz.underlying5
  a5 := Tryz.isAgg5
  z5 := Tryz.sizeOf5
  v5 := Tryz.zeroValue5
  t9 := Tryz.underlying9
  a9 := Tryz.isAgg9
  z9 := Tryz.sizeOf9
  v9 := Tryz.zeroValue9
  t31 := Tryz.underlying42
  a31 := Tryz.isAgg42
  z31 := Tryz.sizeOf42
  v31 := Tryz.zeroValue42
  t46 := Tryz.underlying163
  a46 := Tryz.isAgg163
  z46 := Tryz.sizeOf163
  v46 := Tryz.zeroValue163
  t51 := Tryz.underlying232
  a51 := Tryz.isAgg232
  z51 := Tryz.sizeOf232
  v51 := Tryz.zeroValue232
  t53 := Tryz.underlying209
  a53 := Tryz.isAgg209
  z53 := Tryz.sizeOf209
  v53 := Tryz.zeroValue209
  t131 := Tryz.underlying112
  a131 := Tryz.isAgg112
  z131 := Tryz.sizeOf112
  v131 := Tryz.zeroValue112
  t182 := Tryz.underlying269
  a182 := Tryz.isAgg269
  z182 := Tryz.sizeOf269
  v182 := Tryz.zeroValue269
  t183 := Tryz.underlying270
  a183 := Tryz.isAgg270
  z183 := Tryz.sizeOf270
  v183 := Tryz.zeroValue270
  t218 := Tryz.underlying276
  a218 := Tryz.isAgg276
  z218 := Tryz.sizeOf276
  v218 := Tryz.zeroValue276
  t222 := Tryz.underlying280
  a222 := Tryz.isAgg280
  z222 := Tryz.sizeOf280
  v222 := Tryz.zeroValue280
  t228 := Tryz.underlying282
  a228 := Tryz.isAgg282
  z228 := Tryz.sizeOf282
  v228 := Tryz.zeroValue282
  t229 := Tryz.underlying283
  a229 := Tryz.isAgg283
  z229 := Tryz.sizeOf283
  v229 := Tryz.zeroValue283 }
open Go.Sort Go.RowKit in
theorem Tryz.slices_Sort_string (blk off cap : Nat) (ss : List (List UInt8)) (w : World) (hH : Holds encStr w blk off ss.toArray) (hblk : blk < w.heap.size) (hsz : ss.length < 4611686018427387904) :
    Calls Tryz.prog 236 #[.slice (some ⟨blk, off, none⟩) ss.length cap] w fun e w' =>
      e = .returned (.tuple #[]) ∧ ∃ n os, w' = grow (putRow encStr (Sort.ahead w n) blk off (ss.mergeSort fun x y => decide (x ≤ y)).toArray) os := Any.slices_Sort_string Tryz.lays190 blk off cap ss w hH hblk hsz
def Tryz.lays146_ren : Go.Shelf.Ren := ⟨fun | 146 => 86 | 221 => 140 | 268 => 177 | 138 => 178 | 143 => 179 | 195 => 199 | 197 => 200 | 218 => 201 | 219 => 202 | 260 => 221 | 217 => 222 | 225 => 223 | 224 => 224 | 267 => 225 | 266 => 240 | 314 => 241 | n => n, fun | 9 => 9 | 31 => 42 | 3 => 3 | 4 => 4 | 0 => 0 | 105 => 199 | 21 => 21 | 5 => 5 | 46 => 163 | 119 => 214 | 139 => 244 | 138 => 243 | 146 => 245 | 51 => 232 | n => n, fun | 1 => 1 | 3 => 6 | 4 => 7 | n => n⟩
theorem Tryz.lays146 : Go.Proofs.Lays.n146 Tryz.prog Tryz.lays146_ren := {
  mixed := by kernel_rfl
  f138 := Tryz.func178.trans (congrArg some (by kernel_rfl))
  f143 := Tryz.func179.trans (congrArg some (by kernel_rfl))
  f146 := Tryz.func86.trans (congrArg some (by kernel_rfl))
  f195 := Tryz.func199.trans (congrArg some (by kernel_rfl))
  f197 := Tryz.func200.trans (congrArg some (by kernel_rfl))
  f217 := Tryz.func222.trans (congrArg some (by kernel_rfl))
  f218 := Tryz.func201.trans (congrArg some (by kernel_rfl))
  f219 := Tryz.func202.trans (congrArg some (by kernel_rfl))
  f221 := Tryz.func140.trans (congrArg some (by kernel_rfl))
  f224 := Tryz.func224.trans (congrArg some (by kernel_rfl))
  f225 := Tryz.func223.trans (congrArg some (by kernel_rfl))
  f260 := Tryz.func221.trans (congrArg some (by kernel_rfl))
  f266 := Tryz.func240.trans (congrArg some (by kernel_rfl))
  f267 := Tryz.func225.trans (congrArg some (by kernel_rfl))
  f268 := Tryz.func177.trans (congrArg some (by kernel_rfl))
  f314 := Tryz.func241.trans (congrArg some (by kernel_rfl))
  t0 := Tryz.underlying0
  a0 := Tryz.isAgg0
  z0 := Tryz.sizeOf0
  v0 := Tryz.zeroValue0
  t3 := Tryz.underlying3
  a3 := Tryz.isAgg3
  z3 := Tryz.sizeOf3
  v3 := Tryz.zeroValue3
  t4 := Tryz.underlying4
  a4 := Tryz.isAgg4
  z4 := Tryz.sizeOf4
  v4 := Tryz.zeroValue4
  t5 := Tryz.underlying5
  a5 := Tryz.isAgg5
  z5 := Tryz.sizeOf5
  v5 := Tryz.zeroValue5
  t9 := Tryz.underlying9
  a9 := Tryz.isAgg9
  z9 := Tryz.sizeOf9
  v9 := Tryz.zeroValue9
  t21 := Tryz.underlying21
  a21 := Tryz.isAgg21
  z21 := Tryz.sizeOf21
  v21 := Tryz.zeroValue21
  t31 := Tryz.underlying42
  a31 := Tryz.isAgg42
  z31 := Tryz.sizeOf42
  v31 := Tryz.zeroValue42
  t46 := Tryz.underlying163
  a46 := Tryz.isAgg163
  z46 := Tryz.sizeOf163
  v46 := Tryz.zeroValue163
  t51 := Tryz.underlying232
  a51 := Tryz.isAgg232
  z51 := Tryz.sizeOf232
  v51 := Tryz.zeroValue232
  t105 := Tryz.underlying199
  a105 := Tryz.isAgg199
  z105 := Tryz.sizeOf199
  v105 := Tryz.zeroValue199
  t119 := Tryz.underlying214
  a119 := Tryz.isAgg214
  z119 := Tryz.sizeOf214
  t138 := Tryz.underlying243
  a138 := Tryz.isAgg243
  z138 := Tryz.sizeOf243
  v138 := Tryz.zeroValue243
  t139 := Tryz.underlying244
  a139 := Tryz.isAgg244
  z139 := Tryz.sizeOf244
  v139 := Tryz.zeroValue244
  t146 := Tryz.underlying245
  a146 := Tryz.isAgg245
  z146 := Tryz.sizeOf245
  v146 := Tryz.zeroValue245
  g1 := by kernel_rfl
  g3 := by kernel_rfl
  g4 := by kernel_rfl }
open Go.RowKit Go.Lib in
theorem Tryz.strings_Split (s sep : ByteArray) (m : Int) (w : World) (hs : s.size < 4294967281) (hm : w.cell? ⟨1, 0, none⟩ = some (.int .i64 m)) (h1 : 1 ≤ sep.size) :
    Calls Tryz.prog 86 #[.string s, .string sep] w fun e w' =>
      e = .returned (.slice (some ⟨w.heap.size, 0, none⟩) (Lib.countB s sep + 1) (Lib.countB s sep + 1)) ∧ w' = w.alloc (.cells ((Lib.splitB sep 0 (Lib.countB s sep) s).map Value.string).toArray 9) := Any.strings_Split Tryz.lays146 (by kernel_rfl) s sep m w hs hm h1
def Tryz.lays157_ren : Go.Shelf.Ren := ⟨fun | 157 => 188 | 229 => 213 | 199 => 214 | 261 => 234 | 311 => 246 | 312 => 247 | n => n, fun | 9 => 9 | 31 => 42 | 3 => 3 | 5 => 5 | 4 => 4 | 119 => 214 | 0 => 0 | 40 => 216 | 152 => 235 | 21 => 21 | 154 => 237 | 51 => 232 | 141 => 239 | 196 => 255 | 193 => 252 | 198 => 258 | 49 => 256 | 194 => 253 | 201 => 261 | 226 => 266 | 46 => 163 | 227 => 267 | n => n, fun | 0 => 0 | 6 => 5 | n => n⟩
theorem Tryz.lays157 : Go.Proofs.Lays.n157 Tryz.prog Tryz.lays157_ren := {
  mixed := by kernel_rfl
  f157 := Tryz.func188.trans (congrArg some (by kernel_rfl))
  f199 := Tryz.func214.trans (congrArg some (by kernel_rfl))
  f229 := Tryz.func213.trans (congrArg some (by kernel_rfl))
  f261 := Tryz.func234.trans (congrArg some (by kernel_rfl))
  f311 := Tryz.func246.trans (congrArg some (by kernel_rfl))
  f312 := Tryz.func247.trans (congrArg some (by kernel_rfl))
  t0 := Tryz.underlying0
  a0 := Tryz.isAgg0
  z0 := Tryz.sizeOf0
  v0 := Tryz.zeroValue0
  t3 := Tryz.underlying3
  a3 := Tryz.isAgg3
  z3 := Tryz.sizeOf3
  v3 := Tryz.zeroValue3
  t4 := Tryz.underlying4
  a4 := Tryz.isAgg4
  z4 := Tryz.sizeOf4
  v4 := Tryz.zeroValue4
  t5 := Tryz.underlying5
  a5 := Tryz.isAgg5
  z5 := Tryz.sizeOf5
  v5 := Tryz.zeroValue5
  t9 := Tryz.underlying9
  a9 := Tryz.isAgg9
  z9 := Tryz.sizeOf9
  v9 := Tryz.zeroValue9
  t21 := Tryz.underlying21
  a21 := Tryz.isAgg21
  z21 := Tryz.sizeOf21
  v21 := Tryz.zeroValue21
  t31 := Tryz.underlying42
  a31 := Tryz.isAgg42
  z31 := Tryz.sizeOf42
  v31 := Tryz.zeroValue42
  t40 := Tryz.underlying216
  a40 := Tryz.isAgg216
  z40 := Tryz.sizeOf216
  v40 := Tryz.zeroValue216
  t46 := Tryz.underlying163
  a46 := Tryz.isAgg163
  z46 := Tryz.sizeOf163
  v46 := Tryz.zeroValue163
  t49 := Tryz.underlying256
  a49 := Tryz.isAgg256
  z49 := Tryz.sizeOf256
  v49 := Tryz.zeroValue256
  t51 := Tryz.underlying232
  a51 := Tryz.isAgg232
  z51 := Tryz.sizeOf232
  v51 := Tryz.zeroValue232
  t119 := Tryz.underlying214
  a119 := Tryz.isAgg214
  z119 := Tryz.sizeOf214
  t141 := Tryz.underlying239
  a141 := Tryz.isAgg239
  z141 := Tryz.sizeOf239
  v141 := Tryz.zeroValue239
  t152 := Tryz.underlying235
  a152 := Tryz.isAgg235
  z152 := Tryz.sizeOf235
  v152 := Tryz.zeroValue235
  t154 := Tryz.underlying237
  a154 := Tryz.isAgg237
  z154 := Tryz.sizeOf237
  v154 := Tryz.zeroValue237
  t193 := Tryz.underlying252
  a193 := Tryz.isAgg252
  z193 := Tryz.sizeOf252
  v193 := Tryz.zeroValue252
  t194 := Tryz.underlying253
  a194 := Tryz.isAgg253
  z194 := Tryz.sizeOf253
  v194 := Tryz.zeroValue253
  t196 := Tryz.underlying255
  a196 := Tryz.isAgg255
  z196 := Tryz.sizeOf255
  v196 := Tryz.zeroValue255
  t198 := Tryz.underlying258
  a198 := Tryz.isAgg258
  z198 := Tryz.sizeOf258
  v198 := Tryz.zeroValue258
  t201 := Tryz.underlying261
  a201 := Tryz.isAgg261
  z201 := Tryz.sizeOf261
  v201 := Tryz.zeroValue261
  t226 := Tryz.underlying266
  a226 := Tryz.isAgg266
  z226 := Tryz.sizeOf266
  v226 := Tryz.zeroValue266
  t227 := Tryz.underlying267
  a227 := Tryz.isAgg267
  z227 := Tryz.sizeOf267
  v227 := Tryz.zeroValue267
  g0 := by kernel_rfl
  g6 := by kernel_rfl }
open Go.RowKit Go.Lib in
theorem Tryz.strings_Fields (s : ByteArray) (w : World) (hs : s.size < 4294967281) (hascii : ∀ (j : Nat) b, s.data.toList[j]? = some b → b.toNat < 128) (htab : Lib.TabIs Tryz.prog w "strings.asciiSpace" .u8 Lib.asciiSpaceTab) :
    Calls Tryz.prog 188 #[.string s] w fun e w' =>
      e = .returned (.slice (some ⟨w.heap.size, 0, none⟩) (Lib.fields s.data.toList).length (Lib.fields s.data.toList).length) ∧ w' = w.alloc (.cells ((Lib.fields s.data.toList).map fun l => Value.string ⟨l.toArray⟩).toArray 9) := Any.strings_Fields Tryz.lays157 (by kernel_rfl) (by kernel_rfl) s w hs hascii htab
def Tryz.laysM146_ren : Go.Shelf.Ren := ⟨fun | 146 => 86 | 221 => 140 | 268 => 177 | 138 => 178 | 143 => 179 | 195 => 199 | 197 => 200 | 218 => 201 | 219 => 202 | 260 => 221 | 217 => 222 | 225 => 223 | 224 => 224 | 267 => 225 | 266 => 240 | 314 => 241 | n => n, fun | 9 => 9 | 31 => 42 | 3 => 3 | 4 => 4 | 0 => 0 | 105 => 199 | 21 => 21 | 5 => 5 | 46 => 163 | 119 => 214 | 139 => 244 | 138 => 243 | 146 => 245 | 51 => 232 | n => n, fun | 1 => 1 | 3 => 6 | 4 => 7 | n => n⟩
theorem Tryz.laysM146 : Go.Proofs.LaysM.n146 Tryz.prog Tryz.laysM146_ren := {
  mixed := by kernel_rfl
  f138 := Tryz.func178.trans (congrArg some (by kernel_rfl))
  f143 := Tryz.func179.trans (congrArg some (by kernel_rfl))
  f146 := Tryz.func86.trans (congrArg some (by kernel_rfl))
  f195 := Tryz.func199.trans (congrArg some (by kernel_rfl))
  f197 := Tryz.func200.trans (congrArg some (by kernel_rfl))
  f217 := Tryz.func222.trans (congrArg some (by kernel_rfl))
  f218 := Tryz.func201.trans (congrArg some (by kernel_rfl))
  f219 := Tryz.func202.trans (congrArg some (by kernel_rfl))
  f221 := Tryz.func140.trans (congrArg some (by kernel_rfl))
  f224 := Tryz.func224.trans (congrArg some (by kernel_rfl))
  f225 := Tryz.func223.trans (congrArg some (by kernel_rfl))
  f260 := Tryz.func221.trans (congrArg some (by kernel_rfl))
  f266 := Tryz.func240.trans (congrArg some (by kernel_rfl))
  f267 := Tryz.func225.trans (congrArg some (by kernel_rfl))
  f268 := Tryz.func177.trans (congrArg some (by kernel_rfl))
  f314 := Tryz.func241.trans (congrArg some (by kernel_rfl))
  t0 := Tryz.underlying0
  a0 := Tryz.isAgg0
  z0 := Tryz.sizeOf0
  v0 := Tryz.zeroValue0
  t3 := Tryz.underlying3
  a3 := Tryz.isAgg3
  z3 := Tryz.sizeOf3
  v3 := Tryz.zeroValue3
  t4 := Tryz.underlying4
  a4 := Tryz.isAgg4
  z4 := Tryz.sizeOf4
  v4 := Tryz.zeroValue4
  t5 := Tryz.underlying5
  a5 := Tryz.isAgg5
  z5 := Tryz.sizeOf5
  v5 := Tryz.zeroValue5
  t9 := Tryz.underlying9
  a9 := Tryz.isAgg9
  z9 := Tryz.sizeOf9
  v9 := Tryz.zeroValue9
  t21 := Tryz.underlying21
  a21 := Tryz.isAgg21
  z21 := Tryz.sizeOf21
  v21 := Tryz.zeroValue21
  t31 := Tryz.underlying42
  a31 := Tryz.isAgg42
  z31 := Tryz.sizeOf42
  v31 := Tryz.zeroValue42
  t46 := Tryz.underlying163
  a46 := Tryz.isAgg163
  z46 := Tryz.sizeOf163
  v46 := Tryz.zeroValue163
  t51 := Tryz.underlying232
  a51 := Tryz.isAgg232
  z51 := Tryz.sizeOf232
  v51 := Tryz.zeroValue232
  t105 := Tryz.underlying199
  a105 := Tryz.isAgg199
  z105 := Tryz.sizeOf199
  v105 := Tryz.zeroValue199
  t119 := Tryz.underlying214
  a119 := Tryz.isAgg214
  z119 := Tryz.sizeOf214
  t138 := Tryz.underlying243
  a138 := Tryz.isAgg243
  z138 := Tryz.sizeOf243
  v138 := Tryz.zeroValue243
  t139 := Tryz.underlying244
  a139 := Tryz.isAgg244
  z139 := Tryz.sizeOf244
  v139 := Tryz.zeroValue244
  t146 := Tryz.underlying245
  a146 := Tryz.isAgg245
  z146 := Tryz.sizeOf245
  v146 := Tryz.zeroValue245
  g1 := by kernel_rfl
  g3 := by kernel_rfl
  g4 := by kernel_rfl
  i0 := by kernel_rfl
  i3 := by kernel_rfl
  i4 := by kernel_rfl
  i5 := by kernel_rfl
  i9 := by kernel_rfl
  i21 := by kernel_rfl
  i31 := by kernel_rfl
  i46 := by kernel_rfl
  i51 := by kernel_rfl
  i105 := by kernel_rfl
  i138 := by kernel_rfl
  i139 := by kernel_rfl
  i146 := by kernel_rfl
  m1 := by kernel_rfl
  s1_3 := fun w h => Go.Proofs.cell_of_shapedOpen_int (zero := #[.int .i64 0]) (t := 3) h (of_decide_eq_true (by kernel_rfl)) (by kernel_rfl) rfl (by kernel_rfl) (by kernel_rfl) Tryz.underlying3
  m3 := by kernel_rfl
  m4 := by kernel_rfl }
def Tryz.laysNm216_ren : Go.Shelf.Ren := ⟨fun | 16 => 235 | n => n, fun | 24 => 42 | 9 => 9 | 4 => 4 | n => n, fun | n => n⟩
theorem Tryz.laysNm216 : Go.Proofs.Lays2.n16 Tryz.prog Tryz.laysNm216_ren := {
  mixed := by kernel_rfl
  f16 := Tryz.func235.trans (congrArg some (by kernel_rfl))
  t4 := Tryz.underlying4
  a4 := Tryz.isAgg4
  z4 := Tryz.sizeOf4
  v4 := Tryz.zeroValue4
  t9 := Tryz.underlying9
  a9 := Tryz.isAgg9
  z9 := Tryz.sizeOf9
  v9 := Tryz.zeroValue9
  t24 := Tryz.underlying42
  a24 := Tryz.isAgg42
  z24 := Tryz.sizeOf42
  v24 := Tryz.zeroValue42
  i9 := by kernel_rfl }
open Go.RowKit Go.Lib in
theorem Tryz.slices_Clone_string (b off n c : Nat) (zs : List ByteArray) (w : World) (hz : n ≤ zs.length) (hbig : n * 16 ≤ 140737488355328) (hc : ∀ j, j < zs.length → w.cell? ⟨b, off + j, none⟩ = some (.string (zs.getD j ByteArray.empty))) :
    Calls Tryz.prog 235 #[.slice (some ⟨b, off, none⟩) n c] w fun e w' => ∃ v', e = .returned v' ∧ w'.ownsRow w.heap.size 9 1 v' n ((zs.take n).map (Value.string)) ∧ v' ≠ .slice none 0 0 ∧ Below w.heap.size w w' := Any.slices_Clone_string Tryz.laysNm216 b off n c zs w hz hbig hc
open Go.RowKit Go.Lib in
theorem Tryz.slices_Clone_string_nil (n c : Nat) (w : World) :
    Calls Tryz.prog 235 #[.slice none n c] w fun e w' => e = .returned (.slice none 0 0) ∧ w' = w := Any.slices_Clone_string_nil Tryz.laysNm216 n c w
open Go.RowKit Go.Lib in
theorem Tryz.slices_Clone_string_zero (a : Addr) (c : Nat) (w : World) :
    Calls Tryz.prog 235 #[.slice (some a) 0 c] w fun e w' => ∃ v', e = .returned v' ∧ w'.ownsRow w.heap.size 9 1 v' 0 [] ∧ v' ≠ .slice none 0 0 ∧ Below w.heap.size w w' := Any.slices_Clone_string_zero Tryz.laysNm216 a c w
def Tryz.lays194_ren : Go.Shelf.Ren := ⟨fun | 194 => 237 | n => n, fun | 31 => 42 | 9 => 9 | 3 => 3 | 4 => 4 | 0 => 0 | n => n, fun | n => n⟩
theorem Tryz.lays194 : Go.Proofs.Lays.n194 Tryz.prog Tryz.lays194_ren := {
  mixed := by kernel_rfl
  f194 := Tryz.func237.trans (congrArg some (by kernel_rfl))
  t0 := Tryz.underlying0
  a0 := Tryz.isAgg0
  z0 := Tryz.sizeOf0
  v0 := Tryz.zeroValue0
  t3 := Tryz.underlying3
  a3 := Tryz.isAgg3
  z3 := Tryz.sizeOf3
  v3 := Tryz.zeroValue3
  t4 := Tryz.underlying4
  a4 := Tryz.isAgg4
  z4 := Tryz.sizeOf4
  v4 := Tryz.zeroValue4
  t9 := Tryz.underlying9
  a9 := Tryz.isAgg9
  z9 := Tryz.sizeOf9
  v9 := Tryz.zeroValue9
  t31 := Tryz.underlying42
  a31 := Tryz.isAgg42
  z31 := Tryz.sizeOf42
  v31 := Tryz.zeroValue42 }
open Go.RowKit Go.Lib Go.Sort in
theorem Tryz.slices_Compact_string (blk off cap : Nat) (zs : List (List UInt8)) (w : World) (hH : Holds encStr w blk off zs.toArray) (hsz : zs.length ≤ 9223372036854775807) (hcap : zs.length ≤ cap) :
    Calls Tryz.prog 237 #[.slice (some ⟨blk, off, none⟩) zs.length cap] w fun e w' => e = .returned (.slice (some ⟨blk, off, none⟩) (Lib.compact zs).length cap) ∧ ∃ q, w' = putRow encStr (Sort.ahead w q) blk off (Lib.compact zs ++ List.replicate (zs.length - (Lib.compact zs).length) []).toArray := Any.slices_Compact_string Tryz.lays194 blk off cap zs w hH hsz hcap
open Go.RowKit Go.Lib Go.Sort in
theorem Tryz.slices_Compact_string_empty (a : Option Addr) (cap : Nat) (w : World) :
    Calls Tryz.prog 237 #[.slice a 0 cap] w fun e w' => e = .returned (.slice a 0 cap) ∧ w' = w := Any.slices_Compact_string_empty Tryz.lays194 a cap w
open Go.RowKit Go.Sort in
theorem Tryz.slices_Sort_string_none (p : Option Addr) (cap : Nat) (w : World) :
    Calls Tryz.prog 236 #[.slice p 0 cap] w fun e w' => e = .returned (.tuple #[]) ∧ w' = w := Any.slices_Sort_string_none Tryz.lays190 p cap w
end Go.Proofs
