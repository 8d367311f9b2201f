import Derived.Shelf.Strings.OnBuilder
import Derived.Shelf.Small.Bits
import Derived.Shelf.Small.Wraps
import Derived.Shelf.Utf8.RuneCount
import Derived.Shelf.Strconv.Itoa3
import Derived.Shelf.Strconv.AtoiErr
import Derived.Shelf.Strconv.AtoiAll
import Derived.Shelf.Strconv.ParseUint10At
import Derived.Shelf.Strings.Shaped
import Derived.Shelf.Sort.Plain
import Derived.Shelf.Strings.SplitShaped
import Derived.Shelf.Strings.Explode
import Derived.Shelf.Unicode.DecodeAny
import Derived.Shelf.Unicode.IsSpaceAny
import Derived.Shelf.Unicode.Is16WhiteD
import Derived.Shelf.Unicode.ExclAny
import Derived.Shelf.Strings.BuilderCap
import Derived.Shelf.Slices.Turned
import Derived.Shelf.Slices.Clone
import Derived.Shelf.Slices.SearchI
import Derived.Shelf.Slices.Cells
import Derived.Shelf.Slices.In.SortNone
import Derived.Shelf.Slices.Empties2
import Derived.Shelf.SlicesE.Clone
import Derived.Test.YtpipombdnmdimaaGreatDoorProg
namespace Go.Proofs
open Go.Shelf Tryz
set_option maxRecDepth 100000
theorem shK {x : Option Func} {a b : Func} (h : x = some a) (e : a = b := by kernel_rfl) : x = some b := h.trans (congrArg some e)
def Tryz.lays156_ren : Go.Shelf.Ren := ⟨fun | 156 => 182 | 165 => 225 | 166 => 226 | 169 => 227 | 240 => 267 | 241 => 268 | 276 => 313 | 277 => 314 | n => n, fun | 31 => 108 | 9 => 9 | 3 => 3 | 4 => 4 | 0 => 0 | 20 => 20 | 72 => 265 | 76 => 257 | 70 => 263 | 37 => 208 | 75 => 256 | 127 => 301 | 164 => 345 | 5 => 5 | 80 => 267 | n => n, fun | n => n⟩
theorem Tryz.lays156 : Go.Proofs.Lays.n156 Tryz.prog Tryz.lays156_ren := ⟨by kernel_rfl,shK func182,shK func225,shK func226,shK func227,shK func267,shK func268,shK func313,
shK func314,underlying0,isAgg0,sizeOf0,zeroValue0,underlying3,isAgg3,sizeOf3,
zeroValue3,underlying4,isAgg4,sizeOf4,zeroValue4,underlying9,isAgg9,sizeOf9,
zeroValue9,underlying20,isAgg20,sizeOf20,zeroValue20,underlying108,isAgg108,sizeOf108,
zeroValue108,underlying208,isAgg208,sizeOf208,zeroValue208,underlying263,isAgg263,sizeOf263,
zeroValue263,underlying265,isAgg265,sizeOf265,zeroValue265,underlying256,isAgg256,sizeOf256,
zeroValue256,underlying257,isAgg257,sizeOf257,zeroValue257,underlying301,isAgg301,sizeOf301,
zeroValue301,underlying345,isAgg345,sizeOf345,zeroValue345⟩
theorem Tryz.Builder_Extra_156 : Builder.Extra Tryz.prog Tryz.lays156_ren := { sizeBuilder:=by kernel_rfl,liesBuilder:=by kernel_rfl,t5:=underlying5,a5:=isAgg5,z5:=sizeOf5,v5:=zeroValue5,infoByte:=by kernel_rfl,cellsByte:=by kernel_rfl,sizeByte:=by kernel_rfl,neB5:=by decide }
open Go.RowKit in
theorem Tryz.strings_Join_none (a : Option Addr) (c : Nat) (sep : ByteArray) (w : World) :
    Calls Tryz.prog 182 #[.slice a 0 c, .string sep] w fun e w' => e = .returned (.string ⟨#[]⟩) ∧ w' = w := Any.strings_Join_none Tryz.lays156 Tryz.Builder_Extra_156 a c sep w
open Go.RowKit in
theorem Tryz.strings_Join (bk o c : Nat) (xs : List ByteArray) (sep : ByteArray) (w : World) (hcells : ∀ (j : Nat) x, xs[j]? = some x → w.cell? ⟨bk, o + j, none⟩ = some (.string x)) (hbk : bk < w.heap.size) (hN : xs.length ≤ 140737488355328) (hcap : xs.length ≤ c) (hlen : (Lib.join (xs.map (·.data.toList)) sep.data.toList).length ≤ 140737488355328) :
    Calls Tryz.prog 182 #[.slice (some ⟨bk, o, none⟩) xs.length c, .string sep] w fun e w' => e = .returned (.string ⟨(Lib.join (xs.map (·.data.toList)) sep.data.toList).toArray⟩) ∧ Below w.heap.size w w' := Any.strings_Join Tryz.lays156 Tryz.Builder_Extra_156 bk o c xs sep w hcells hbk hN hcap hlen
def Tryz.lays172_ren : Go.Shelf.Ren := ⟨fun | 172 => 212 | 244 => 257 | 245 => 258 | 247 => 293 | 279 => 294 | 280 => 295 | 281 => 296 | 282 => 297 | 287 => 330 | 316 => 331 | 171 => 180 | 205 => 332 | 321 => 347 | 322 => 348 | 243 => 223 | 246 => 266 | 283 => 309 | 284 => 310 | 285 => 311 | 286 => 312 | 129 => 279 | 317 => 340 | 318 => 341 | 319 => 342 | 320 => 343 | 337 => 352 | 338 => 353 | n => n, fun | 9 => 9 | 3 => 3 | 75 => 256 | 76 => 257 | 4 => 4 | 5 => 5 | 167 => 324 | 37 => 208 | 0 => 0 | 85 => 325 | 2 => 2 | 168 => 327 | 53 => 313 | 175 => 358 | 46 => 271 | 210 => 362 | 127 => 301 | 145 => 380 | 143 => 378 | 21 => 21 | 171 => 341 | 173 => 343 | 212 => 366 | 51 => 311 | 20 => 20 | 213 => 367 | 232 => 395 | 233 => 396 | 80 => 267 | n => n, fun | 15 => 1 | 16 => 2 | 17 => 3 | 18 => 8 | 19 => 9 | n => n⟩
theorem Tryz.lays172 : Go.Proofs.Lays.n172 Tryz.prog Tryz.lays172_ren := ⟨by kernel_rfl,shK func279,shK func180,shK func212,shK func332,shK func223,shK func257,shK func258,
shK func266,shK func293,shK func294,shK func295,shK func296,shK func297,shK func309,shK func310,
shK func311,shK func312,shK func330,shK func331,shK func340,shK func341,shK func342,shK func343,
shK func347,shK func348,shK func352,shK func353,underlying0,isAgg0,sizeOf0,zeroValue0,
underlying2,isAgg2,sizeOf2,zeroValue2,underlying3,isAgg3,sizeOf3,zeroValue3,
underlying4,isAgg4,sizeOf4,zeroValue4,underlying5,isAgg5,sizeOf5,zeroValue5,
underlying9,isAgg9,sizeOf9,zeroValue9,underlying20,isAgg20,sizeOf20,zeroValue20,
underlying21,isAgg21,sizeOf21,zeroValue21,underlying208,isAgg208,sizeOf208,zeroValue208,
underlying271,isAgg271,sizeOf271,zeroValue271,underlying311,isAgg311,sizeOf311,zeroValue311,
underlying313,isAgg313,sizeOf313,zeroValue313,underlying256,isAgg256,sizeOf256,zeroValue256,
underlying257,isAgg257,sizeOf257,zeroValue257,underlying325,isAgg325,sizeOf325,zeroValue325,
underlying301,isAgg301,sizeOf301,zeroValue301,underlying378,isAgg378,sizeOf378,zeroValue378,
underlying380,isAgg380,sizeOf380,zeroValue380,underlying324,isAgg324,sizeOf324,zeroValue324,
underlying327,isAgg327,sizeOf327,zeroValue327,underlying341,isAgg341,sizeOf341,zeroValue341,
underlying343,isAgg343,sizeOf343,zeroValue343,underlying358,isAgg358,sizeOf358,zeroValue358,
underlying362,isAgg362,sizeOf362,zeroValue362,underlying366,isAgg366,sizeOf366,zeroValue366,
underlying367,isAgg367,sizeOf367,underlying395,isAgg395,sizeOf395,zeroValue395,underlying396,
isAgg396,sizeOf396,zeroValue396,by kernel_rfl,by kernel_rfl,by kernel_rfl,by kernel_rfl,by kernel_rfl⟩
open Go.RowKit in
theorem Tryz.strconv_Atoi (s : ByteArray) (n : Int) (hl : s.size ≤ 18) (h : Lib.atoi s.data.toList = some n) (w : World) :
    Calls Tryz.prog 212 #[.string s] w fun e w' => e = .returned (.tuple #[.int .i64 n, .nilIface]) ∧ ∃ t, w' = Lib.bytesWorld w 5 t := Any.strconv_Atoi Tryz.lays172 s n hl h w
def Tryz.laysM171_ren : Go.Shelf.Ren := ⟨fun | 171 => 180 | 243 => 223 | 246 => 266 | 283 => 309 | 284 => 310 | 285 => 311 | 286 => 312 | 129 => 279 | 317 => 340 | 318 => 341 | 319 => 342 | 320 => 343 | 337 => 352 | 338 => 353 | n => n, fun | 3 => 3 | 9 => 9 | 2 => 2 | 4 => 4 | 171 => 341 | 0 => 0 | 53 => 313 | 37 => 208 | 5 => 5 | 173 => 343 | 212 => 366 | 51 => 311 | 20 => 20 | 213 => 367 | 46 => 271 | 232 => 395 | 233 => 396 | n => n, fun | 17 => 3 | 18 => 8 | 19 => 9 | n => n⟩
theorem Tryz.laysM171 : Go.Proofs.LaysM.n171 Tryz.prog Tryz.laysM171_ren := { mixed:=by kernel_rfl,f129:=shK func279,f171:=shK func180,f243:=shK func223,f246:=shK func266,f283:=shK func309,f284:=shK func310,f285:=shK func311,f286:=shK func312,f317:=shK func340,f318:=shK func341,f319:=shK func342,f320:=shK func343,f337:=shK func352,f338:=shK func353,t0:=underlying0,a0:=isAgg0,z0:=sizeOf0,v0:=zeroValue0,t2:=underlying2,a2:=isAgg2,z2:=sizeOf2,v2:=zeroValue2,t3:=underlying3,a3:=isAgg3,z3:=sizeOf3,v3:=zeroValue3,t4:=underlying4,a4:=isAgg4,z4:=sizeOf4,v4:=zeroValue4,t5:=underlying5,a5:=isAgg5,z5:=sizeOf5,v5:=zeroValue5,t9:=underlying9,a9:=isAgg9,z9:=sizeOf9,v9:=zeroValue9,t20:=underlying20,a20:=isAgg20,z20:=sizeOf20,v20:=zeroValue20,t37:=underlying208,a37:=isAgg208,z37:=sizeOf208,v37:=zeroValue208,t46:=underlying271,a46:=isAgg271,z46:=sizeOf271,v46:=zeroValue271,t51:=underlying311,a51:=isAgg311,z51:=sizeOf311,v51:=zeroValue311,t53:=underlying313,a53:=isAgg313,z53:=sizeOf313,v53:=zeroValue313,t171:=underlying341,a171:=isAgg341,z171:=sizeOf341,v171:=zeroValue341,t173:=underlying343,a173:=isAgg343,z173:=sizeOf343,v173:=zeroValue343,t212:=underlying366,a212:=isAgg366,z212:=sizeOf366,v212:=zeroValue366,t213:=underlying367,a213:=isAgg367,z213:=sizeOf367,t232:=underlying395,a232:=isAgg395,z232:=sizeOf395,v232:=zeroValue395,t233:=underlying396,a233:=isAgg396,z233:=sizeOf396,v233:=zeroValue396,g17:=by kernel_rfl,g18:=by kernel_rfl,g19:=by kernel_rfl,i0:=by kernel_rfl,i2:=by kernel_rfl,i3:=by kernel_rfl,i4:=by kernel_rfl,i5:=by kernel_rfl,i9:=by kernel_rfl,i20:=by kernel_rfl,i37:=by kernel_rfl,i46:=by kernel_rfl,i51:=by kernel_rfl,i53:=by kernel_rfl,i171:=by kernel_rfl,i173:=by kernel_rfl,i212:=by kernel_rfl,i232:=by kernel_rfl,i233:=by kernel_rfl,m17:=by kernel_rfl,m18:=by kernel_rfl,m19:=by kernel_rfl }
open Go.RowKit Go.Sort Go.Lib in
theorem Tryz.strconv_Itoa (n : Int) (h0 : -9223372036854775808 ≤ n) (h1 : n ≤ 9223372036854775807) (w : World) (htab : Lib.TabIs Tryz.prog w "internal/strconv.uint64pow10" .u64 Lib.pow10Tab) :
    Calls Tryz.prog 180 #[.int .i64 n] w fun e w' => e = .returned (.string ⟨(Lib.itoa n).toArray⟩) ∧ ∃ k os, w' = grow (w.drewN k) os := Any.strconv_Itoa Tryz.laysM171 n h0 h1 w htab
def Tryz.laysC172_ren : Go.Shelf.Ren := ⟨fun | 172 => 212 | 244 => 257 | 245 => 258 | 247 => 293 | 279 => 294 | 280 => 295 | 281 => 296 | 282 => 297 | 287 => 330 | 316 => 331 | 171 => 180 | 205 => 332 | 321 => 347 | 322 => 348 | 243 => 223 | 246 => 266 | 283 => 309 | 284 => 310 | 285 => 311 | 286 => 312 | 129 => 279 | 317 => 340 | 318 => 341 | 319 => 342 | 320 => 343 | 337 => 352 | 338 => 353 | n => n, fun | 9 => 9 | 3 => 3 | 75 => 256 | 76 => 257 | 4 => 4 | 5 => 5 | 167 => 324 | 37 => 208 | 0 => 0 | 85 => 325 | 2 => 2 | 168 => 327 | 53 => 313 | 175 => 358 | 46 => 271 | 210 => 362 | 127 => 301 | 145 => 380 | 143 => 378 | 21 => 21 | 171 => 341 | 173 => 343 | 212 => 366 | 51 => 311 | 20 => 20 | 213 => 367 | 232 => 395 | 233 => 396 | 80 => 267 | n => n, fun | 15 => 1 | 16 => 2 | 17 => 3 | 18 => 8 | 19 => 9 | n => n⟩
theorem Tryz.laysC172 : Go.Proofs.LaysC.n172 Tryz.prog Tryz.laysC172_ren := { mixed:=by kernel_rfl,f129:=shK func279,f171:=shK func180,f172:=shK func212,f205:=shK func332,f243:=shK func223,f244:=shK func257,f245:=shK func258,f246:=shK func266,f247:=shK func293,f279:=shK func294,f280:=shK func295,f281:=shK func296,f282:=shK func297,f283:=shK func309,f284:=shK func310,f285:=shK func311,f286:=shK func312,f287:=shK func330,f316:=shK func331,f317:=shK func340,f318:=shK func341,f319:=shK func342,f320:=shK func343,f321:=shK func347,f322:=shK func348,f337:=shK func352,f338:=shK func353,t0:=underlying0,a0:=isAgg0,z0:=sizeOf0,v0:=zeroValue0,t2:=underlying2,a2:=isAgg2,z2:=sizeOf2,v2:=zeroValue2,t3:=underlying3,a3:=isAgg3,z3:=sizeOf3,v3:=zeroValue3,t4:=underlying4,a4:=isAgg4,z4:=sizeOf4,v4:=zeroValue4,t5:=underlying5,a5:=isAgg5,z5:=sizeOf5,v5:=zeroValue5,t9:=underlying9,a9:=isAgg9,z9:=sizeOf9,v9:=zeroValue9,t20:=underlying20,a20:=isAgg20,z20:=sizeOf20,v20:=zeroValue20,t21:=underlying21,a21:=isAgg21,z21:=sizeOf21,v21:=zeroValue21,t37:=underlying208,a37:=isAgg208,z37:=sizeOf208,v37:=zeroValue208,t46:=underlying271,a46:=isAgg271,z46:=sizeOf271,v46:=zeroValue271,t51:=underlying311,a51:=isAgg311,z51:=sizeOf311,v51:=zeroValue311,t53:=underlying313,a53:=isAgg313,z53:=sizeOf313,v53:=zeroValue313,t75:=underlying256,a75:=isAgg256,z75:=sizeOf256,v75:=zeroValue256,t76:=underlying257,a76:=isAgg257,z76:=sizeOf257,v76:=zeroValue257,t85:=underlying325,a85:=isAgg325,z85:=sizeOf325,v85:=zeroValue325,t127:=underlying301,a127:=isAgg301,z127:=sizeOf301,v127:=zeroValue301,t143:=underlying378,a143:=isAgg378,z143:=sizeOf378,v143:=zeroValue378,t145:=underlying380,a145:=isAgg380,z145:=sizeOf380,v145:=zeroValue380,t167:=underlying324,a167:=isAgg324,z167:=sizeOf324,v167:=zeroValue324,t168:=underlying327,a168:=isAgg327,z168:=sizeOf327,v168:=zeroValue327,t171:=underlying341,a171:=isAgg341,z171:=sizeOf341,v171:=zeroValue341,t173:=underlying343,a173:=isAgg343,z173:=sizeOf343,v173:=zeroValue343,t175:=underlying358,a175:=isAgg358,z175:=sizeOf358,v175:=zeroValue358,t210:=underlying362,a210:=isAgg362,z210:=sizeOf362,v210:=zeroValue362,t212:=underlying366,a212:=isAgg366,z212:=sizeOf366,v212:=zeroValue366,t213:=underlying367,a213:=isAgg367,z213:=sizeOf367,t232:=underlying395,a232:=isAgg395,z232:=sizeOf395,v232:=zeroValue395,t233:=underlying396,a233:=isAgg396,z233:=sizeOf396,v233:=zeroValue396,g15:=by kernel_rfl,g16:=by kernel_rfl,g17:=by kernel_rfl,g18:=by kernel_rfl,g19:=by kernel_rfl,t80:=underlying267,a80:=isAgg267,z80:=sizeOf267,v80:=zeroValue267,i0:=by kernel_rfl,i2:=by kernel_rfl,i3:=by kernel_rfl,i4:=by kernel_rfl,i5:=by kernel_rfl,i9:=by kernel_rfl,i20:=by kernel_rfl,i21:=by kernel_rfl,i37:=by kernel_rfl,i46:=by kernel_rfl,i51:=by kernel_rfl,i53:=by kernel_rfl,i75:=by kernel_rfl,i76:=by kernel_rfl,i80:=by kernel_rfl,i85:=by kernel_rfl,i127:=by kernel_rfl,i143:=by kernel_rfl,i145:=by kernel_rfl,i167:=by kernel_rfl,i168:=by kernel_rfl,i171:=by kernel_rfl,i173:=by kernel_rfl,i175:=by kernel_rfl,i210:=by kernel_rfl,i212:=by kernel_rfl,i232:=by kernel_rfl,i233:=by kernel_rfl,m15:=by kernel_rfl,m16:=by kernel_rfl,m17:=by kernel_rfl,m18:=by kernel_rfl,m19:=by kernel_rfl,c0:=by kernel_rfl,c2:=by kernel_rfl,c3:=by kernel_rfl,c4:=by kernel_rfl,c5:=by kernel_rfl,c9:=by kernel_rfl,c20:=by kernel_rfl,c21:=by kernel_rfl,c37:=by kernel_rfl,c46:=by kernel_rfl,c51:=by kernel_rfl,c53:=by kernel_rfl,c75:=by kernel_rfl,c76:=by kernel_rfl,c80:=by kernel_rfl,c85:=by kernel_rfl,c127:=by kernel_rfl,c143:=by kernel_rfl,c145:=by kernel_rfl,c167:=by kernel_rfl,c168:=by kernel_rfl,c171:=by kernel_rfl,c173:=by kernel_rfl,c175:=by kernel_rfl,c210:=by kernel_rfl,c212:=by kernel_rfl,c213:=by kernel_rfl,c232:=by kernel_rfl,c233:=by kernel_rfl }
open Go.RowKit in
theorem Tryz.strconv_Atoi_syntax (s : ByteArray) (hlim : s.size ≤ 281474976710656) (h : Lib.atoiAll s.data.toList = (Lib.NumEnd.ofOption none)) (ev : Value) (w : World) (hv : w.cell? ⟨1, 0, none⟩ = some ev) (hev : ev = .nilIface ∨ ∃ te pe, ev = .iface te pe) :
    Calls Tryz.prog 212 #[.string s] w fun e w' => ∃ N, e = .returned (.tuple #[.int .i64 (0), .iface 327 (.pointer (some ⟨N, 0, none⟩))]) ∧ w.heap.size ≤ N ∧ w'.heap[N]? = some (.cells #[.string ⟨#[65, 116, 111, 105]⟩, .string s, ev] 362 (0, 0)) ∧ Below w.heap.size w w' := Any.strconv_Atoi_syntax Tryz.laysC172 s hlim h ev w hv hev
def Tryz.lays189_ren : Go.Shelf.Ren := ⟨fun | 189 => 187 | 125 => 233 | 257 => 232 | 128 => 278 | 129 => 279 | 294 => 269 | 295 => 270 | 296 => 271 | 297 => 272 | 298 => 273 | 299 => 274 | 216 => 275 | 300 => 276 | 301 => 277 | 328 => 315 | 329 => 316 | 330 => 317 | 331 => 318 | 332 => 319 | 215 => 320 | 343 => 344 | n => n, fun | 28 => 34 | 3 => 3 | 46 => 271 | 0 => 0 | 51 => 311 | 53 => 313 | 4 => 4 | 183 => 304 | 182 => 303 | 131 => 197 | 5 => 5 | 9 => 9 | 218 => 348 | 222 => 352 | 228 => 368 | 229 => 369 | n => n, fun | n => n⟩
theorem Tryz.lays189 : Go.Proofs.Lays.n189 Tryz.prog Tryz.lays189_ren := ⟨by kernel_rfl,shK func233,shK func278,shK func279,shK func187,shK func320,shK func275,shK func232,
shK func269,shK func270,shK func271,shK func272,shK func273,shK func274,shK func276,shK func277,
shK func315,shK func316,shK func317,shK func318,shK func319,shK func344,underlying0,isAgg0,
sizeOf0,zeroValue0,underlying3,isAgg3,sizeOf3,zeroValue3,underlying4,isAgg4,
sizeOf4,zeroValue4,underlying5,isAgg5,sizeOf5,zeroValue5,underlying9,isAgg9,
sizeOf9,zeroValue9,underlying34,isAgg34,sizeOf34,zeroValue34,underlying271,isAgg271,
sizeOf271,zeroValue271,underlying311,isAgg311,sizeOf311,zeroValue311,underlying313,isAgg313,
sizeOf313,zeroValue313,underlying197,isAgg197,sizeOf197,zeroValue197,underlying303,isAgg303,
sizeOf303,zeroValue303,underlying304,isAgg304,sizeOf304,zeroValue304,underlying348,isAgg348,
sizeOf348,zeroValue348,underlying352,isAgg352,sizeOf352,zeroValue352,underlying368,isAgg368,
sizeOf368,zeroValue368,underlying369,isAgg369,sizeOf369,zeroValue369⟩
open Go.Sort Go.RowKit in
theorem Tryz.slices_Sort_int (blk off cap : Nat) (zs : List Int) (w : World) (hH : Holds (Value.int .i64) w blk off zs.toArray) (hblk : blk < w.heap.size) (hsz : zs.length < 4611686018427387904) :
    Calls Tryz.prog 187 #[.slice (some ⟨blk, off, none⟩) zs.length cap] w fun e w' =>
      e = .returned (.tuple #[]) ∧ ∃ n os, w' = grow (putRow (Value.int .i64) (Sort.ahead w n) blk off (zs.mergeSort fun x y => decide (x ≤ y)).toArray) os := Any.slices_Sort_int Tryz.lays189 blk off cap zs w hH hblk hsz
def Tryz.lays190_ren : Go.Shelf.Ren := ⟨fun | 190 => 338 | 125 => 233 | 258 => 351 | 128 => 278 | 129 => 279 | 302 => 355 | 303 => 356 | 304 => 357 | 305 => 358 | 306 => 359 | 307 => 360 | 308 => 361 | 309 => 362 | 310 => 363 | 333 => 366 | 329 => 316 | 330 => 317 | 334 => 367 | 335 => 368 | 336 => 369 | 344 => 370 | n => n, fun | 31 => 108 | 9 => 9 | 3 => 3 | 46 => 271 | 0 => 0 | 51 => 311 | 53 => 313 | 4 => 4 | 183 => 304 | 182 => 303 | 131 => 197 | 5 => 5 | 218 => 348 | 222 => 352 | 228 => 368 | 229 => 369 | n => n, fun | n => n⟩
theorem Tryz.lays190 : Go.Proofs.Lays.n190 Tryz.prog Tryz.lays190_ren := ⟨by kernel_rfl,shK func233,shK func278,shK func279,shK func338,shK func351,shK func355,shK func356,
shK func357,shK func358,shK func359,shK func360,shK func361,shK func362,shK func363,shK func316,
shK func317,shK func366,shK func367,shK func368,shK func369,shK func370,underlying0,isAgg0,
sizeOf0,zeroValue0,underlying3,isAgg3,sizeOf3,zeroValue3,underlying4,isAgg4,
sizeOf4,zeroValue4,underlying5,isAgg5,sizeOf5,zeroValue5,underlying9,isAgg9,
sizeOf9,zeroValue9,underlying108,isAgg108,sizeOf108,zeroValue108,underlying271,isAgg271,
sizeOf271,zeroValue271,underlying311,isAgg311,sizeOf311,zeroValue311,underlying313,isAgg313,
sizeOf313,zeroValue313,underlying197,isAgg197,sizeOf197,zeroValue197,underlying303,isAgg303,
sizeOf303,zeroValue303,underlying304,isAgg304,sizeOf304,zeroValue304,underlying348,isAgg348,
sizeOf348,zeroValue348,underlying352,isAgg352,sizeOf352,zeroValue352,underlying368,isAgg368,
sizeOf368,zeroValue368,underlying369,isAgg369,sizeOf369,zeroValue369⟩
open Go.Sort Go.RowKit in
theorem Tryz.slices_Sort_string (blk off cap : Nat) (ss : List (List UInt8)) (w : World) (hH : Holds encStr w blk off ss.toArray) (hblk : blk < w.heap.size) (hsz : ss.length < 4611686018427387904) :
    Calls Tryz.prog 338 #[.slice (some ⟨blk, off, none⟩) ss.length cap] w fun e w' =>
      e = .returned (.tuple #[]) ∧ ∃ n os, w' = grow (putRow encStr (Sort.ahead w n) blk off (ss.mergeSort fun x y => decide (x ≤ y)).toArray) os := Any.slices_Sort_string Tryz.lays190 blk off cap ss w hH hblk hsz
def Tryz.lays146_ren : Go.Shelf.Ren := ⟨fun | 146 => 168 | 221 => 211 | 268 => 254 | 138 => 255 | 143 => 256 | 195 => 289 | 197 => 290 | 218 => 291 | 219 => 292 | 260 => 325 | 217 => 326 | 225 => 327 | 224 => 328 | 267 => 329 | 266 => 345 | 314 => 346 | n => n, fun | 9 => 9 | 31 => 108 | 3 => 3 | 4 => 4 | 0 => 0 | 105 => 321 | 21 => 21 | 5 => 5 | 46 => 271 | 119 => 371 | 139 => 374 | 138 => 373 | 146 => 375 | 51 => 311 | n => n, fun | 1 => 0 | 3 => 4 | 4 => 5 | n => n⟩
theorem Tryz.lays146 : Go.Proofs.Lays.n146 Tryz.prog Tryz.lays146_ren := ⟨by kernel_rfl,shK func255,shK func256,shK func168,shK func289,shK func290,shK func326,shK func291,
shK func292,shK func211,shK func328,shK func327,shK func325,shK func345,shK func329,shK func254,
shK func346,underlying0,isAgg0,sizeOf0,zeroValue0,underlying3,isAgg3,sizeOf3,
zeroValue3,underlying4,isAgg4,sizeOf4,zeroValue4,underlying5,isAgg5,sizeOf5,
zeroValue5,underlying9,isAgg9,sizeOf9,zeroValue9,underlying21,isAgg21,sizeOf21,
zeroValue21,underlying108,isAgg108,sizeOf108,zeroValue108,underlying271,isAgg271,sizeOf271,
zeroValue271,underlying311,isAgg311,sizeOf311,zeroValue311,underlying321,isAgg321,sizeOf321,
zeroValue321,underlying371,isAgg371,sizeOf371,underlying373,isAgg373,sizeOf373,zeroValue373,
underlying374,isAgg374,sizeOf374,zeroValue374,underlying375,isAgg375,sizeOf375,zeroValue375,
by kernel_rfl,by kernel_rfl,by kernel_rfl⟩
open Go.RowKit Go.Lib in
theorem Tryz.strings_Split (s sep : ByteArray) (m : Int) (w : World) (hs : s.size < 4294967281) (hm : w.cell? ⟨0, 0, none⟩ = some (.int .i64 m)) (h1 : 1 ≤ sep.size) :
    Calls Tryz.prog 168 #[.string s, .string sep] w fun e w' =>
      e = .returned (.slice (some ⟨w.heap.size, 0, none⟩) (Lib.countB s sep + 1) (Lib.countB s sep + 1)) ∧ w' = w.alloc (.cells ((Lib.splitB sep 0 (Lib.countB s sep) s).map Value.string).toArray 9) := Any.strings_Split Tryz.lays146 (by kernel_rfl) s sep m w hs hm h1
def Tryz.lays157_ren : Go.Shelf.Ren := ⟨fun | 157 => 335 | 229 => 349 | 199 => 350 | 261 => 354 | 311 => 364 | 312 => 365 | n => n, fun | 9 => 9 | 31 => 108 | 3 => 3 | 5 => 5 | 4 => 4 | 119 => 371 | 0 => 0 | 40 => 382 | 152 => 384 | 21 => 21 | 154 => 386 | 51 => 311 | 141 => 388 | 196 => 400 | 193 => 397 | 198 => 403 | 49 => 401 | 194 => 398 | 201 => 406 | 226 => 410 | 46 => 271 | 227 => 411 | n => n, fun | 0 => 6 | 6 => 7 | n => n⟩
theorem Tryz.lays157 : Go.Proofs.Lays.n157 Tryz.prog Tryz.lays157_ren := ⟨by kernel_rfl,shK func335,shK func350,shK func349,shK func354,shK func364,shK func365,underlying0,
isAgg0,sizeOf0,zeroValue0,underlying3,isAgg3,sizeOf3,zeroValue3,underlying4,
isAgg4,sizeOf4,zeroValue4,underlying5,isAgg5,sizeOf5,zeroValue5,underlying9,
isAgg9,sizeOf9,zeroValue9,underlying21,isAgg21,sizeOf21,zeroValue21,underlying108,
isAgg108,sizeOf108,zeroValue108,underlying382,isAgg382,sizeOf382,zeroValue382,underlying271,
isAgg271,sizeOf271,zeroValue271,underlying401,isAgg401,sizeOf401,zeroValue401,underlying311,
isAgg311,sizeOf311,zeroValue311,underlying371,isAgg371,sizeOf371,underlying388,isAgg388,
sizeOf388,zeroValue388,underlying384,isAgg384,sizeOf384,zeroValue384,underlying386,isAgg386,
sizeOf386,zeroValue386,underlying397,isAgg397,sizeOf397,zeroValue397,underlying398,isAgg398,
sizeOf398,zeroValue398,underlying400,isAgg400,sizeOf400,zeroValue400,underlying403,isAgg403,
sizeOf403,zeroValue403,underlying406,isAgg406,sizeOf406,zeroValue406,underlying410,isAgg410,
sizeOf410,zeroValue410,underlying411,isAgg411,sizeOf411,zeroValue411,by kernel_rfl,by kernel_rfl⟩
open Go.RowKit Go.Lib in
theorem Tryz.strings_Fields (s : ByteArray) (w : World) (hs : s.size < 4294967281) (hascii : ∀ (j : Nat) b, s.data.toList[j]? = some b → b.toNat < 128) (htab : Lib.TabIs Tryz.prog w "strings.asciiSpace" .u8 Lib.asciiSpaceTab) :
    Calls Tryz.prog 335 #[.string s] w fun e w' =>
      e = .returned (.slice (some ⟨w.heap.size, 0, none⟩) (Lib.fields s.data.toList).length (Lib.fields s.data.toList).length) ∧ w' = w.alloc (.cells ((Lib.fields s.data.toList).map fun l => Value.string ⟨l.toArray⟩).toArray 9) := Any.strings_Fields Tryz.lays157 (by kernel_rfl) (by kernel_rfl) s w hs hascii htab
def Tryz.laysNm216_ren : Go.Shelf.Ren := ⟨fun | 16 => 337 | n => n, fun | 24 => 108 | 9 => 9 | 4 => 4 | n => n, fun | n => n⟩
theorem Tryz.laysNm216 : Go.Proofs.Lays2.n16 Tryz.prog Tryz.laysNm216_ren := ⟨by kernel_rfl,shK func337,underlying4,isAgg4,sizeOf4,zeroValue4,underlying9,isAgg9,
sizeOf9,zeroValue9,underlying108,isAgg108,sizeOf108,zeroValue108,by kernel_rfl⟩
open Go.RowKit Go.Lib in
theorem Tryz.slices_Clone_string (b off n c : Nat) (zs : List ByteArray) (w : World) (hz : n ≤ zs.length) (hbig : n * 16 ≤ 140737488355328) (hc : ∀ j, j < zs.length → w.cell? ⟨b, off + j, none⟩ = some (.string (zs.getD j ByteArray.empty))) :
    Calls Tryz.prog 337 #[.slice (some ⟨b, off, none⟩) n c] w fun e w' => ∃ v', e = .returned v' ∧ w'.ownsRow w.heap.size 9 1 v' n ((zs.take n).map (Value.string)) ∧ v' ≠ .slice none 0 0 ∧ Below w.heap.size w w' := Any.slices_Clone_string Tryz.laysNm216 b off n c zs w hz hbig hc
open Go.RowKit Go.Lib in
theorem Tryz.slices_Clone_string_nil (n c : Nat) (w : World) :
    Calls Tryz.prog 337 #[.slice none n c] w fun e w' => e = .returned (.slice none 0 0) ∧ w' = w := Any.slices_Clone_string_nil Tryz.laysNm216 n c w
open Go.RowKit Go.Lib in
theorem Tryz.slices_Clone_string_zero (a : Addr) (c : Nat) (w : World) :
    Calls Tryz.prog 337 #[.slice (some a) 0 c] w fun e w' => ∃ v', e = .returned v' ∧ w'.ownsRow w.heap.size 9 1 v' 0 [] ∧ v' ≠ .slice none 0 0 ∧ Below w.heap.size w w' := Any.slices_Clone_string_zero Tryz.laysNm216 a c w
def Tryz.laysNm220_ren : Go.Shelf.Ren := ⟨fun | 20 => 188 | n => n, fun | 22 => 34 | 3 => 3 | 4 => 4 | 0 => 0 | n => n, fun | n => n⟩
theorem Tryz.laysNm220 : Go.Proofs.Lays2.n20 Tryz.prog Tryz.laysNm220_ren := ⟨by kernel_rfl,shK func188,underlying0,isAgg0,sizeOf0,zeroValue0,underlying3,isAgg3,
sizeOf3,zeroValue3,underlying4,isAgg4,sizeOf4,zeroValue4,underlying34,isAgg34,
sizeOf34,zeroValue34,by kernel_rfl⟩
open Go.RowKit Go.Lib Go.Sort in
theorem Tryz.slices_Compact_int (blk off cap : Nat) (zs : List Int) (w : World) (hH : Holds (Value.int .i64) w blk off zs.toArray) (hsz : zs.length ≤ 9223372036854775807) (hcap : zs.length ≤ cap) :
    Calls Tryz.prog 188 #[.slice (some ⟨blk, off, none⟩) zs.length cap] w fun e w' => e = .returned (.slice (some ⟨blk, off, none⟩) (Lib.compact zs).length cap) ∧ ∃ q, w' = putRow (Value.int .i64) (Sort.ahead w q) blk off (Lib.compact zs ++ List.replicate (zs.length - (Lib.compact zs).length) 0).toArray := Any.slices_Compact_int Tryz.laysNm220 blk off cap zs w hH hsz hcap
open Go.RowKit Go.Lib Go.Sort in
theorem Tryz.slices_Compact_int_empty (a : Option Addr) (cap : Nat) (w : World) :
    Calls Tryz.prog 188 #[.slice a 0 cap] w fun e w' => e = .returned (.slice a 0 cap) ∧ w' = w := Any.slices_Compact_int_empty Tryz.laysNm220 a cap w
def Tryz.lays194_ren : Go.Shelf.Ren := ⟨fun | 194 => 339 | n => n, fun | 31 => 108 | 9 => 9 | 3 => 3 | 4 => 4 | 0 => 0 | n => n, fun | n => n⟩
theorem Tryz.lays194 : Go.Proofs.Lays.n194 Tryz.prog Tryz.lays194_ren := ⟨by kernel_rfl,shK func339,underlying0,isAgg0,sizeOf0,zeroValue0,underlying3,isAgg3,
sizeOf3,zeroValue3,underlying4,isAgg4,sizeOf4,zeroValue4,underlying9,isAgg9,
sizeOf9,zeroValue9,underlying108,isAgg108,sizeOf108,zeroValue108⟩
open Go.RowKit Go.Lib Go.Sort in
theorem Tryz.slices_Compact_string (blk off cap : Nat) (zs : List (List UInt8)) (w : World) (hH : Holds encStr w blk off zs.toArray) (hsz : zs.length ≤ 9223372036854775807) (hcap : zs.length ≤ cap) :
    Calls Tryz.prog 339 #[.slice (some ⟨blk, off, none⟩) zs.length cap] w fun e w' => e = .returned (.slice (some ⟨blk, off, none⟩) (Lib.compact zs).length cap) ∧ ∃ q, w' = putRow encStr (Sort.ahead w q) blk off (Lib.compact zs ++ List.replicate (zs.length - (Lib.compact zs).length) []).toArray := Any.slices_Compact_string Tryz.lays194 blk off cap zs w hH hsz hcap
open Go.RowKit Go.Lib Go.Sort in
theorem Tryz.slices_Compact_string_empty (a : Option Addr) (cap : Nat) (w : World) :
    Calls Tryz.prog 339 #[.slice a 0 cap] w fun e w' => e = .returned (.slice a 0 cap) ∧ w' = w := Any.slices_Compact_string_empty Tryz.lays194 a cap w
open Go.RowKit Go.Sort in
theorem Tryz.slices_Sort_string_none (p : Option Addr) (cap : Nat) (w : World) :
    Calls Tryz.prog 338 #[.slice p 0 cap] w fun e w' => e = .returned (.tuple #[]) ∧ w' = w := Any.slices_Sort_string_none Tryz.lays190 p cap w
open Go.RowKit Go.Sort in
theorem Tryz.slices_Sort_int_none (p : Option Addr) (cap : Nat) (w : World) :
    Calls Tryz.prog 187 #[.slice p 0 cap] w fun e w' => e = .returned (.tuple #[]) ∧ w' = w := Any.slices_Sort_int_none Tryz.lays189 p cap w
end Go.Proofs
