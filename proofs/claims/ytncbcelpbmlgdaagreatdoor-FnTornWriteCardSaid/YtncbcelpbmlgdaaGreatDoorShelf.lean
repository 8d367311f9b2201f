import Derived.Shelf.Strings.OnBuilder
import Derived.Shelf.Small.Bits
import Derived.Shelf.Utf8.RuneCount
import Derived.Shelf.Strconv.Itoa3
import Derived.Shelf.Strconv.AtoiAll
import Derived.Shelf.Strings.Shaped
import Derived.Shelf.Sort.Plain
import Derived.Shelf.Strings.SplitShaped
import Derived.Shelf.Strings.Explode
import Derived.Shelf.Unicode.DecodeAny
import Derived.Shelf.Unicode.IsSpaceAny
import Derived.Shelf.Unicode.ExclAny
import Derived.Shelf.Slices.Clone
import Derived.Shelf.Slices.Cells
import Derived.Shelf.Slices.In.SortNone
import Derived.Shelf.Slices.Empties2
import Derived.Shelf.SlicesE.Clone
import Derived.Test.YtncbcelpbmlgdaaGreatDoorProg
namespace Go.Proofs
open Go.Shelf Tryz
set_option maxRecDepth 100000
theorem shK {x : Option Func} {a b : Func} (h : x = some a) (e : a = b := by kernel_rfl) : x = some b := h.trans (congrArg some e)
def Tryz.lays156_ren : Go.Shelf.Ren := ⟨fun | 156 => 74 | 165 => 129 | 166 => 130 | 169 => 131 | 240 => 164 | 241 => 165 | 276 => 191 | 277 => 192 | n => n, fun | 31 => 42 | 9 => 9 | 3 => 3 | 4 => 4 | 0 => 0 | 20 => 20 | 72 => 151 | 76 => 155 | 70 => 149 | 37 => 22 | 75 => 154 | 127 => 180 | 164 => 194 | 5 => 5 | 80 => 157 | n => n, fun | n => n⟩
theorem Tryz.lays156 : Go.Proofs.Lays.n156 Tryz.prog Tryz.lays156_ren := ⟨by kernel_rfl,shK func74,shK func129,shK func130,shK func131,shK func164,shK func165,shK func191,
shK func192,underlying0,isAgg0,sizeOf0,zeroValue0,underlying3,isAgg3,sizeOf3,
zeroValue3,underlying4,isAgg4,sizeOf4,zeroValue4,underlying9,isAgg9,sizeOf9,
zeroValue9,underlying20,isAgg20,sizeOf20,zeroValue20,underlying42,isAgg42,sizeOf42,
zeroValue42,underlying22,isAgg22,sizeOf22,zeroValue22,underlying149,isAgg149,sizeOf149,
zeroValue149,underlying151,isAgg151,sizeOf151,zeroValue151,underlying154,isAgg154,sizeOf154,
zeroValue154,underlying155,isAgg155,sizeOf155,zeroValue155,underlying180,isAgg180,sizeOf180,
zeroValue180,underlying194,isAgg194,sizeOf194,zeroValue194⟩
theorem Tryz.Builder_Extra_156 : Builder.Extra Tryz.prog Tryz.lays156_ren := { sizeBuilder:=by kernel_rfl,liesBuilder:=by kernel_rfl,t5:=underlying5,a5:=isAgg5,z5:=sizeOf5,v5:=zeroValue5,infoByte:=by kernel_rfl,cellsByte:=by kernel_rfl,sizeByte:=by kernel_rfl,neB5:=by decide }
open Go.RowKit in
theorem Tryz.strings_Join_none (a : Option Addr) (c : Nat) (sep : ByteArray) (w : World) :
    Calls Tryz.prog 74 #[.slice a 0 c, .string sep] w fun e w' => e = .returned (.string ⟨#[]⟩) ∧ w' = w := Any.strings_Join_none Tryz.lays156 Tryz.Builder_Extra_156 a c sep w
open Go.RowKit in
theorem Tryz.strings_Join (bk o c : Nat) (xs : List ByteArray) (sep : ByteArray) (w : World) (hcells : ∀ (j : Nat) x, xs[j]? = some x → w.cell? ⟨bk, o + j, none⟩ = some (.string x)) (hbk : bk < w.heap.size) (hN : xs.length ≤ 140737488355328) (hcap : xs.length ≤ c) (hlen : (Lib.join (xs.map (·.data.toList)) sep.data.toList).length ≤ 140737488355328) :
    Calls Tryz.prog 74 #[.slice (some ⟨bk, o, none⟩) xs.length c, .string sep] w fun e w' => e = .returned (.string ⟨(Lib.join (xs.map (·.data.toList)) sep.data.toList).toArray⟩) ∧ Below w.heap.size w w' := Any.strings_Join Tryz.lays156 Tryz.Builder_Extra_156 bk o c xs sep w hcells hbk hN hcap hlen
def Tryz.lays172_ren : Go.Shelf.Ren := ⟨fun | 172 => 141 | 244 => 180 | 245 => 181 | 247 => 203 | 279 => 204 | 280 => 205 | 281 => 206 | 282 => 207 | 287 => 226 | 316 => 227 | 171 => 103 | 205 => 228 | 321 => 242 | 322 => 243 | 243 => 148 | 246 => 185 | 283 => 209 | 284 => 210 | 285 => 211 | 286 => 212 | 129 => 230 | 317 => 229 | 318 => 231 | 319 => 232 | 320 => 233 | 337 => 244 | 338 => 245 | n => n, fun | 9 => 9 | 3 => 3 | 75 => 154 | 76 => 155 | 4 => 4 | 5 => 5 | 167 => 202 | 37 => 22 | 0 => 0 | 85 => 203 | 2 => 2 | 168 => 205 | 53 => 209 | 175 => 224 | 46 => 163 | 210 => 228 | 127 => 180 | 145 => 250 | 143 => 248 | 21 => 21 | 171 => 208 | 173 => 212 | 212 => 231 | 51 => 232 | 20 => 20 | 213 => 233 | 232 => 264 | 233 => 265 | 80 => 157 | n => n, fun | 15 => 2 | 16 => 3 | 17 => 4 | 18 => 8 | 19 => 9 | n => n⟩
theorem Tryz.lays172 : Go.Proofs.Lays.n172 Tryz.prog Tryz.lays172_ren := ⟨by kernel_rfl,shK func230,shK func103,shK func141,shK func228,shK func148,shK func180,shK func181,
shK func185,shK func203,shK func204,shK func205,shK func206,shK func207,shK func209,shK func210,
shK func211,shK func212,shK func226,shK func227,shK func229,shK func231,shK func232,shK func233,
shK func242,shK func243,shK func244,shK func245,underlying0,isAgg0,sizeOf0,zeroValue0,
underlying2,isAgg2,sizeOf2,zeroValue2,underlying3,isAgg3,sizeOf3,zeroValue3,
underlying4,isAgg4,sizeOf4,zeroValue4,underlying5,isAgg5,sizeOf5,zeroValue5,
underlying9,isAgg9,sizeOf9,zeroValue9,underlying20,isAgg20,sizeOf20,zeroValue20,
underlying21,isAgg21,sizeOf21,zeroValue21,underlying22,isAgg22,sizeOf22,zeroValue22,
underlying163,isAgg163,sizeOf163,zeroValue163,underlying232,isAgg232,sizeOf232,zeroValue232,
underlying209,isAgg209,sizeOf209,zeroValue209,underlying154,isAgg154,sizeOf154,zeroValue154,
underlying155,isAgg155,sizeOf155,zeroValue155,underlying203,isAgg203,sizeOf203,zeroValue203,
underlying180,isAgg180,sizeOf180,zeroValue180,underlying248,isAgg248,sizeOf248,zeroValue248,
underlying250,isAgg250,sizeOf250,zeroValue250,underlying202,isAgg202,sizeOf202,zeroValue202,
underlying205,isAgg205,sizeOf205,zeroValue205,underlying208,isAgg208,sizeOf208,zeroValue208,
underlying212,isAgg212,sizeOf212,zeroValue212,underlying224,isAgg224,sizeOf224,zeroValue224,
underlying228,isAgg228,sizeOf228,zeroValue228,underlying231,isAgg231,sizeOf231,zeroValue231,
underlying233,isAgg233,sizeOf233,underlying264,isAgg264,sizeOf264,zeroValue264,underlying265,
isAgg265,sizeOf265,zeroValue265,by kernel_rfl,by kernel_rfl,by kernel_rfl,by kernel_rfl,by kernel_rfl⟩
open Go.RowKit in
theorem Tryz.strconv_Atoi (s : ByteArray) (n : Int) (hl : s.size ≤ 18) (h : Lib.atoi s.data.toList = some n) (w : World) :
    Calls Tryz.prog 141 #[.string s] w fun e w' => e = .returned (.tuple #[.int .i64 n, .nilIface]) ∧ ∃ t, w' = Lib.bytesWorld w 5 t := Any.strconv_Atoi Tryz.lays172 s n hl h w
def Tryz.laysM171_ren : Go.Shelf.Ren := ⟨fun | 171 => 103 | 243 => 148 | 246 => 185 | 283 => 209 | 284 => 210 | 285 => 211 | 286 => 212 | 129 => 230 | 317 => 229 | 318 => 231 | 319 => 232 | 320 => 233 | 337 => 244 | 338 => 245 | n => n, fun | 3 => 3 | 9 => 9 | 2 => 2 | 4 => 4 | 171 => 208 | 0 => 0 | 53 => 209 | 37 => 22 | 5 => 5 | 173 => 212 | 212 => 231 | 51 => 232 | 20 => 20 | 213 => 233 | 46 => 163 | 232 => 264 | 233 => 265 | n => n, fun | 17 => 4 | 18 => 8 | 19 => 9 | n => n⟩
theorem Tryz.laysM171 : Go.Proofs.LaysM.n171 Tryz.prog Tryz.laysM171_ren := { mixed:=by kernel_rfl,f129:=shK func230,f171:=shK func103,f243:=shK func148,f246:=shK func185,f283:=shK func209,f284:=shK func210,f285:=shK func211,f286:=shK func212,f317:=shK func229,f318:=shK func231,f319:=shK func232,f320:=shK func233,f337:=shK func244,f338:=shK func245,t0:=underlying0,a0:=isAgg0,z0:=sizeOf0,v0:=zeroValue0,t2:=underlying2,a2:=isAgg2,z2:=sizeOf2,v2:=zeroValue2,t3:=underlying3,a3:=isAgg3,z3:=sizeOf3,v3:=zeroValue3,t4:=underlying4,a4:=isAgg4,z4:=sizeOf4,v4:=zeroValue4,t5:=underlying5,a5:=isAgg5,z5:=sizeOf5,v5:=zeroValue5,t9:=underlying9,a9:=isAgg9,z9:=sizeOf9,v9:=zeroValue9,t20:=underlying20,a20:=isAgg20,z20:=sizeOf20,v20:=zeroValue20,t37:=underlying22,a37:=isAgg22,z37:=sizeOf22,v37:=zeroValue22,t46:=underlying163,a46:=isAgg163,z46:=sizeOf163,v46:=zeroValue163,t51:=underlying232,a51:=isAgg232,z51:=sizeOf232,v51:=zeroValue232,t53:=underlying209,a53:=isAgg209,z53:=sizeOf209,v53:=zeroValue209,t171:=underlying208,a171:=isAgg208,z171:=sizeOf208,v171:=zeroValue208,t173:=underlying212,a173:=isAgg212,z173:=sizeOf212,v173:=zeroValue212,t212:=underlying231,a212:=isAgg231,z212:=sizeOf231,v212:=zeroValue231,t213:=underlying233,a213:=isAgg233,z213:=sizeOf233,t232:=underlying264,a232:=isAgg264,z232:=sizeOf264,v232:=zeroValue264,t233:=underlying265,a233:=isAgg265,z233:=sizeOf265,v233:=zeroValue265,g17:=by kernel_rfl,g18:=by kernel_rfl,g19:=by kernel_rfl,i0:=by kernel_rfl,i2:=by kernel_rfl,i3:=by kernel_rfl,i4:=by kernel_rfl,i5:=by kernel_rfl,i9:=by kernel_rfl,i20:=by kernel_rfl,i37:=by kernel_rfl,i46:=by kernel_rfl,i51:=by kernel_rfl,i53:=by kernel_rfl,i171:=by kernel_rfl,i173:=by kernel_rfl,i212:=by kernel_rfl,i232:=by kernel_rfl,i233:=by kernel_rfl,m17:=by kernel_rfl,m18:=by kernel_rfl,m19:=by kernel_rfl }
open Go.RowKit Go.Sort Go.Lib in
theorem Tryz.strconv_Itoa (n : Int) (h0 : -9223372036854775808 ≤ n) (h1 : n ≤ 9223372036854775807) (w : World) (htab : Lib.TabIs Tryz.prog w "internal/strconv.uint64pow10" .u64 Lib.pow10Tab) :
    Calls Tryz.prog 103 #[.int .i64 n] w fun e w' => e = .returned (.string ⟨(Lib.itoa n).toArray⟩) ∧ ∃ k os, w' = grow (w.drewN k) os := Any.strconv_Itoa Tryz.laysM171 n h0 h1 w htab
def Tryz.laysC172_ren : Go.Shelf.Ren := ⟨fun | 172 => 141 | 244 => 180 | 245 => 181 | 247 => 203 | 279 => 204 | 280 => 205 | 281 => 206 | 282 => 207 | 287 => 226 | 316 => 227 | 171 => 103 | 205 => 228 | 321 => 242 | 322 => 243 | 243 => 148 | 246 => 185 | 283 => 209 | 284 => 210 | 285 => 211 | 286 => 212 | 129 => 230 | 317 => 229 | 318 => 231 | 319 => 232 | 320 => 233 | 337 => 244 | 338 => 245 | n => n, fun | 9 => 9 | 3 => 3 | 75 => 154 | 76 => 155 | 4 => 4 | 5 => 5 | 167 => 202 | 37 => 22 | 0 => 0 | 85 => 203 | 2 => 2 | 168 => 205 | 53 => 209 | 175 => 224 | 46 => 163 | 210 => 228 | 127 => 180 | 145 => 250 | 143 => 248 | 21 => 21 | 171 => 208 | 173 => 212 | 212 => 231 | 51 => 232 | 20 => 20 | 213 => 233 | 232 => 264 | 233 => 265 | 80 => 157 | n => n, fun | 15 => 2 | 16 => 3 | 17 => 4 | 18 => 8 | 19 => 9 | n => n⟩
theorem Tryz.laysC172 : Go.Proofs.LaysC.n172 Tryz.prog Tryz.laysC172_ren := { mixed:=by kernel_rfl,f129:=shK func230,f171:=shK func103,f172:=shK func141,f205:=shK func228,f243:=shK func148,f244:=shK func180,f245:=shK func181,f246:=shK func185,f247:=shK func203,f279:=shK func204,f280:=shK func205,f281:=shK func206,f282:=shK func207,f283:=shK func209,f284:=shK func210,f285:=shK func211,f286:=shK func212,f287:=shK func226,f316:=shK func227,f317:=shK func229,f318:=shK func231,f319:=shK func232,f320:=shK func233,f321:=shK func242,f322:=shK func243,f337:=shK func244,f338:=shK func245,t0:=underlying0,a0:=isAgg0,z0:=sizeOf0,v0:=zeroValue0,t2:=underlying2,a2:=isAgg2,z2:=sizeOf2,v2:=zeroValue2,t3:=underlying3,a3:=isAgg3,z3:=sizeOf3,v3:=zeroValue3,t4:=underlying4,a4:=isAgg4,z4:=sizeOf4,v4:=zeroValue4,t5:=underlying5,a5:=isAgg5,z5:=sizeOf5,v5:=zeroValue5,t9:=underlying9,a9:=isAgg9,z9:=sizeOf9,v9:=zeroValue9,t20:=underlying20,a20:=isAgg20,z20:=sizeOf20,v20:=zeroValue20,t21:=underlying21,a21:=isAgg21,z21:=sizeOf21,v21:=zeroValue21,t37:=underlying22,a37:=isAgg22,z37:=sizeOf22,v37:=zeroValue22,t46:=underlying163,a46:=isAgg163,z46:=sizeOf163,v46:=zeroValue163,t51:=underlying232,a51:=isAgg232,z51:=sizeOf232,v51:=zeroValue232,t53:=underlying209,a53:=isAgg209,z53:=sizeOf209,v53:=zeroValue209,t75:=underlying154,a75:=isAgg154,z75:=sizeOf154,v75:=zeroValue154,t76:=underlying155,a76:=isAgg155,z76:=sizeOf155,v76:=zeroValue155,t85:=underlying203,a85:=isAgg203,z85:=sizeOf203,v85:=zeroValue203,t127:=underlying180,a127:=isAgg180,z127:=sizeOf180,v127:=zeroValue180,t143:=underlying248,a143:=isAgg248,z143:=sizeOf248,v143:=zeroValue248,t145:=underlying250,a145:=isAgg250,z145:=sizeOf250,v145:=zeroValue250,t167:=underlying202,a167:=isAgg202,z167:=sizeOf202,v167:=zeroValue202,t168:=underlying205,a168:=isAgg205,z168:=sizeOf205,v168:=zeroValue205,t171:=underlying208,a171:=isAgg208,z171:=sizeOf208,v171:=zeroValue208,t173:=underlying212,a173:=isAgg212,z173:=sizeOf212,v173:=zeroValue212,t175:=underlying224,a175:=isAgg224,z175:=sizeOf224,v175:=zeroValue224,t210:=underlying228,a210:=isAgg228,z210:=sizeOf228,v210:=zeroValue228,t212:=underlying231,a212:=isAgg231,z212:=sizeOf231,v212:=zeroValue231,t213:=underlying233,a213:=isAgg233,z213:=sizeOf233,t232:=underlying264,a232:=isAgg264,z232:=sizeOf264,v232:=zeroValue264,t233:=underlying265,a233:=isAgg265,z233:=sizeOf265,v233:=zeroValue265,g15:=by kernel_rfl,g16:=by kernel_rfl,g17:=by kernel_rfl,g18:=by kernel_rfl,g19:=by kernel_rfl,t80:=underlying157,a80:=isAgg157,z80:=sizeOf157,v80:=zeroValue157,i0:=by kernel_rfl,i2:=by kernel_rfl,i3:=by kernel_rfl,i4:=by kernel_rfl,i5:=by kernel_rfl,i9:=by kernel_rfl,i20:=by kernel_rfl,i21:=by kernel_rfl,i37:=by kernel_rfl,i46:=by kernel_rfl,i51:=by kernel_rfl,i53:=by kernel_rfl,i75:=by kernel_rfl,i76:=by kernel_rfl,i80:=by kernel_rfl,i85:=by kernel_rfl,i127:=by kernel_rfl,i143:=by kernel_rfl,i145:=by kernel_rfl,i167:=by kernel_rfl,i168:=by kernel_rfl,i171:=by kernel_rfl,i173:=by kernel_rfl,i175:=by kernel_rfl,i210:=by kernel_rfl,i212:=by kernel_rfl,i232:=by kernel_rfl,i233:=by kernel_rfl,m15:=by kernel_rfl,m16:=by kernel_rfl,m17:=by kernel_rfl,m18:=by kernel_rfl,m19:=by kernel_rfl,c0:=by kernel_rfl,c2:=by kernel_rfl,c3:=by kernel_rfl,c4:=by kernel_rfl,c5:=by kernel_rfl,c9:=by kernel_rfl,c20:=by kernel_rfl,c21:=by kernel_rfl,c37:=by kernel_rfl,c46:=by kernel_rfl,c51:=by kernel_rfl,c53:=by kernel_rfl,c75:=by kernel_rfl,c76:=by kernel_rfl,c80:=by kernel_rfl,c85:=by kernel_rfl,c127:=by kernel_rfl,c143:=by kernel_rfl,c145:=by kernel_rfl,c167:=by kernel_rfl,c168:=by kernel_rfl,c171:=by kernel_rfl,c173:=by kernel_rfl,c175:=by kernel_rfl,c210:=by kernel_rfl,c212:=by kernel_rfl,c213:=by kernel_rfl,c232:=by kernel_rfl,c233:=by kernel_rfl }
open Go.RowKit in
theorem Tryz.strconv_Atoi_syntax (s : ByteArray) (hlim : s.size ≤ 281474976710656) (h : Lib.atoiAll s.data.toList = (Lib.NumEnd.ofOption none)) (ev : Value) (w : World) (hv : w.cell? ⟨2, 0, none⟩ = some ev) (hev : ev = .nilIface ∨ ∃ te pe, ev = .iface te pe) :
    Calls Tryz.prog 141 #[.string s] w fun e w' => ∃ N, e = .returned (.tuple #[.int .i64 (0), .iface 205 (.pointer (some ⟨N, 0, none⟩))]) ∧ w.heap.size ≤ N ∧ w'.heap[N]? = some (.cells #[.string ⟨#[65, 116, 111, 105]⟩, .string s, ev] 228 (0, 0)) ∧ Below w.heap.size w w' := Any.strconv_Atoi_syntax Tryz.laysC172 s hlim h ev w hv hev
def Tryz.lays190_ren : Go.Shelf.Ren := ⟨fun | 190 => 236 | 125 => 249 | 258 => 248 | 128 => 259 | 129 => 230 | 302 => 250 | 303 => 251 | 304 => 252 | 305 => 253 | 306 => 254 | 307 => 255 | 308 => 256 | 309 => 257 | 310 => 258 | 333 => 260 | 329 => 261 | 330 => 262 | 334 => 263 | 335 => 264 | 336 => 265 | 344 => 266 | n => n, fun | 31 => 42 | 9 => 9 | 3 => 3 | 46 => 163 | 0 => 0 | 51 => 232 | 53 => 209 | 4 => 4 | 183 => 270 | 182 => 269 | 131 => 112 | 5 => 5 | 218 => 276 | 222 => 280 | 228 => 282 | 229 => 283 | n => n, fun | n => n⟩
theorem Tryz.lays190 : Go.Proofs.Lays.n190 Tryz.prog Tryz.lays190_ren := ⟨by kernel_rfl,shK func249,shK func259,shK func230,shK func236,shK func248,shK func250,shK func251,
shK func252,shK func253,shK func254,shK func255,shK func256,shK func257,shK func258,shK func261,
shK func262,shK func260,shK func263,shK func264,shK func265,shK func266,underlying0,isAgg0,
sizeOf0,zeroValue0,underlying3,isAgg3,sizeOf3,zeroValue3,underlying4,isAgg4,
sizeOf4,zeroValue4,underlying5,isAgg5,sizeOf5,zeroValue5,underlying9,isAgg9,
sizeOf9,zeroValue9,underlying42,isAgg42,sizeOf42,zeroValue42,underlying163,isAgg163,
sizeOf163,zeroValue163,underlying232,isAgg232,sizeOf232,zeroValue232,underlying209,isAgg209,
sizeOf209,zeroValue209,underlying112,isAgg112,sizeOf112,zeroValue112,underlying269,isAgg269,
sizeOf269,zeroValue269,underlying270,isAgg270,sizeOf270,zeroValue270,underlying276,isAgg276,
sizeOf276,zeroValue276,underlying280,isAgg280,sizeOf280,zeroValue280,underlying282,isAgg282,
sizeOf282,zeroValue282,underlying283,isAgg283,sizeOf283,zeroValue283⟩
open Go.Sort Go.RowKit in
theorem Tryz.slices_Sort_string (blk off cap : Nat) (ss : List (List UInt8)) (w : World) (hH : Holds encStr w blk off ss.toArray) (hblk : blk < w.heap.size) (hsz : ss.length < 4611686018427387904) :
    Calls Tryz.prog 236 #[.slice (some ⟨blk, off, none⟩) ss.length cap] w fun e w' =>
      e = .returned (.tuple #[]) ∧ ∃ n os, w' = grow (putRow encStr (Sort.ahead w n) blk off (ss.mergeSort fun x y => decide (x ≤ y)).toArray) os := Any.slices_Sort_string Tryz.lays190 blk off cap ss w hH hblk hsz
def Tryz.lays146_ren : Go.Shelf.Ren := ⟨fun | 146 => 86 | 221 => 140 | 268 => 177 | 138 => 178 | 143 => 179 | 195 => 199 | 197 => 200 | 218 => 201 | 219 => 202 | 260 => 221 | 217 => 222 | 225 => 223 | 224 => 224 | 267 => 225 | 266 => 240 | 314 => 241 | n => n, fun | 9 => 9 | 31 => 42 | 3 => 3 | 4 => 4 | 0 => 0 | 105 => 199 | 21 => 21 | 5 => 5 | 46 => 163 | 119 => 214 | 139 => 244 | 138 => 243 | 146 => 245 | 51 => 232 | n => n, fun | 1 => 1 | 3 => 6 | 4 => 7 | n => n⟩
theorem Tryz.lays146 : Go.Proofs.Lays.n146 Tryz.prog Tryz.lays146_ren := ⟨by kernel_rfl,shK func178,shK func179,shK func86,shK func199,shK func200,shK func222,shK func201,
shK func202,shK func140,shK func224,shK func223,shK func221,shK func240,shK func225,shK func177,
shK func241,underlying0,isAgg0,sizeOf0,zeroValue0,underlying3,isAgg3,sizeOf3,
zeroValue3,underlying4,isAgg4,sizeOf4,zeroValue4,underlying5,isAgg5,sizeOf5,
zeroValue5,underlying9,isAgg9,sizeOf9,zeroValue9,underlying21,isAgg21,sizeOf21,
zeroValue21,underlying42,isAgg42,sizeOf42,zeroValue42,underlying163,isAgg163,sizeOf163,
zeroValue163,underlying232,isAgg232,sizeOf232,zeroValue232,underlying199,isAgg199,sizeOf199,
zeroValue199,underlying214,isAgg214,sizeOf214,underlying243,isAgg243,sizeOf243,zeroValue243,
underlying244,isAgg244,sizeOf244,zeroValue244,underlying245,isAgg245,sizeOf245,zeroValue245,
by kernel_rfl,by kernel_rfl,by kernel_rfl⟩
open Go.RowKit Go.Lib in
theorem Tryz.strings_Split (s sep : ByteArray) (m : Int) (w : World) (hs : s.size < 4294967281) (hm : w.cell? ⟨1, 0, none⟩ = some (.int .i64 m)) (h1 : 1 ≤ sep.size) :
    Calls Tryz.prog 86 #[.string s, .string sep] w fun e w' =>
      e = .returned (.slice (some ⟨w.heap.size, 0, none⟩) (Lib.countB s sep + 1) (Lib.countB s sep + 1)) ∧ w' = w.alloc (.cells ((Lib.splitB sep 0 (Lib.countB s sep) s).map Value.string).toArray 9) := Any.strings_Split Tryz.lays146 (by kernel_rfl) s sep m w hs hm h1
def Tryz.lays157_ren : Go.Shelf.Ren := ⟨fun | 157 => 188 | 229 => 213 | 199 => 214 | 261 => 234 | 311 => 246 | 312 => 247 | n => n, fun | 9 => 9 | 31 => 42 | 3 => 3 | 5 => 5 | 4 => 4 | 119 => 214 | 0 => 0 | 40 => 216 | 152 => 235 | 21 => 21 | 154 => 237 | 51 => 232 | 141 => 239 | 196 => 255 | 193 => 252 | 198 => 258 | 49 => 256 | 194 => 253 | 201 => 261 | 226 => 266 | 46 => 163 | 227 => 267 | n => n, fun | 0 => 0 | 6 => 5 | n => n⟩
theorem Tryz.lays157 : Go.Proofs.Lays.n157 Tryz.prog Tryz.lays157_ren := ⟨by kernel_rfl,shK func188,shK func214,shK func213,shK func234,shK func246,shK func247,underlying0,
isAgg0,sizeOf0,zeroValue0,underlying3,isAgg3,sizeOf3,zeroValue3,underlying4,
isAgg4,sizeOf4,zeroValue4,underlying5,isAgg5,sizeOf5,zeroValue5,underlying9,
isAgg9,sizeOf9,zeroValue9,underlying21,isAgg21,sizeOf21,zeroValue21,underlying42,
isAgg42,sizeOf42,zeroValue42,underlying216,isAgg216,sizeOf216,zeroValue216,underlying163,
isAgg163,sizeOf163,zeroValue163,underlying256,isAgg256,sizeOf256,zeroValue256,underlying232,
isAgg232,sizeOf232,zeroValue232,underlying214,isAgg214,sizeOf214,underlying239,isAgg239,
sizeOf239,zeroValue239,underlying235,isAgg235,sizeOf235,zeroValue235,underlying237,isAgg237,
sizeOf237,zeroValue237,underlying252,isAgg252,sizeOf252,zeroValue252,underlying253,isAgg253,
sizeOf253,zeroValue253,underlying255,isAgg255,sizeOf255,zeroValue255,underlying258,isAgg258,
sizeOf258,zeroValue258,underlying261,isAgg261,sizeOf261,zeroValue261,underlying266,isAgg266,
sizeOf266,zeroValue266,underlying267,isAgg267,sizeOf267,zeroValue267,by kernel_rfl,by kernel_rfl⟩
open Go.RowKit Go.Lib in
theorem Tryz.strings_Fields (s : ByteArray) (w : World) (hs : s.size < 4294967281) (hascii : ∀ (j : Nat) b, s.data.toList[j]? = some b → b.toNat < 128) (htab : Lib.TabIs Tryz.prog w "strings.asciiSpace" .u8 Lib.asciiSpaceTab) :
    Calls Tryz.prog 188 #[.string s] w fun e w' =>
      e = .returned (.slice (some ⟨w.heap.size, 0, none⟩) (Lib.fields s.data.toList).length (Lib.fields s.data.toList).length) ∧ w' = w.alloc (.cells ((Lib.fields s.data.toList).map fun l => Value.string ⟨l.toArray⟩).toArray 9) := Any.strings_Fields Tryz.lays157 (by kernel_rfl) (by kernel_rfl) s w hs hascii htab
def Tryz.laysM146_ren : Go.Shelf.Ren := ⟨fun | 146 => 86 | 221 => 140 | 268 => 177 | 138 => 178 | 143 => 179 | 195 => 199 | 197 => 200 | 218 => 201 | 219 => 202 | 260 => 221 | 217 => 222 | 225 => 223 | 224 => 224 | 267 => 225 | 266 => 240 | 314 => 241 | n => n, fun | 9 => 9 | 31 => 42 | 3 => 3 | 4 => 4 | 0 => 0 | 105 => 199 | 21 => 21 | 5 => 5 | 46 => 163 | 119 => 214 | 139 => 244 | 138 => 243 | 146 => 245 | 51 => 232 | n => n, fun | 1 => 1 | 3 => 6 | 4 => 7 | n => n⟩
theorem Tryz.laysM146 : Go.Proofs.LaysM.n146 Tryz.prog Tryz.laysM146_ren := { mixed:=by kernel_rfl,f138:=shK func178,f143:=shK func179,f146:=shK func86,f195:=shK func199,f197:=shK func200,f217:=shK func222,f218:=shK func201,f219:=shK func202,f221:=shK func140,f224:=shK func224,f225:=shK func223,f260:=shK func221,f266:=shK func240,f267:=shK func225,f268:=shK func177,f314:=shK func241,t0:=underlying0,a0:=isAgg0,z0:=sizeOf0,v0:=zeroValue0,t3:=underlying3,a3:=isAgg3,z3:=sizeOf3,v3:=zeroValue3,t4:=underlying4,a4:=isAgg4,z4:=sizeOf4,v4:=zeroValue4,t5:=underlying5,a5:=isAgg5,z5:=sizeOf5,v5:=zeroValue5,t9:=underlying9,a9:=isAgg9,z9:=sizeOf9,v9:=zeroValue9,t21:=underlying21,a21:=isAgg21,z21:=sizeOf21,v21:=zeroValue21,t31:=underlying42,a31:=isAgg42,z31:=sizeOf42,v31:=zeroValue42,t46:=underlying163,a46:=isAgg163,z46:=sizeOf163,v46:=zeroValue163,t51:=underlying232,a51:=isAgg232,z51:=sizeOf232,v51:=zeroValue232,t105:=underlying199,a105:=isAgg199,z105:=sizeOf199,v105:=zeroValue199,t119:=underlying214,a119:=isAgg214,z119:=sizeOf214,t138:=underlying243,a138:=isAgg243,z138:=sizeOf243,v138:=zeroValue243,t139:=underlying244,a139:=isAgg244,z139:=sizeOf244,v139:=zeroValue244,t146:=underlying245,a146:=isAgg245,z146:=sizeOf245,v146:=zeroValue245,g1:=by kernel_rfl,g3:=by kernel_rfl,g4:=by kernel_rfl,i0:=by kernel_rfl,i3:=by kernel_rfl,i4:=by kernel_rfl,i5:=by kernel_rfl,i9:=by kernel_rfl,i21:=by kernel_rfl,i31:=by kernel_rfl,i46:=by kernel_rfl,i51:=by kernel_rfl,i105:=by kernel_rfl,i138:=by kernel_rfl,i139:=by kernel_rfl,i146:=by kernel_rfl,m1:=by kernel_rfl,s1_3:=fun w h => Go.Proofs.cell_of_shapedOpen_int (zero := #[.int .i64 0]) (t := 3) h (of_decide_eq_true (by kernel_rfl)) (by kernel_rfl) rfl (by kernel_rfl) (by kernel_rfl) underlying3,m3:=by kernel_rfl,m4:=by kernel_rfl }
def Tryz.laysNm216_ren : Go.Shelf.Ren := ⟨fun | 16 => 235 | n => n, fun | 24 => 42 | 9 => 9 | 4 => 4 | n => n, fun | n => n⟩
theorem Tryz.laysNm216 : Go.Proofs.Lays2.n16 Tryz.prog Tryz.laysNm216_ren := ⟨by kernel_rfl,shK func235,underlying4,isAgg4,sizeOf4,zeroValue4,underlying9,isAgg9,
sizeOf9,zeroValue9,underlying42,isAgg42,sizeOf42,zeroValue42,by kernel_rfl⟩
open Go.RowKit Go.Lib in
theorem Tryz.slices_Clone_string (b off n c : Nat) (zs : List ByteArray) (w : World) (hz : n ≤ zs.length) (hbig : n * 16 ≤ 140737488355328) (hc : ∀ j, j < zs.length → w.cell? ⟨b, off + j, none⟩ = some (.string (zs.getD j ByteArray.empty))) :
    Calls Tryz.prog 235 #[.slice (some ⟨b, off, none⟩) n c] w fun e w' => ∃ v', e = .returned v' ∧ w'.ownsRow w.heap.size 9 1 v' n ((zs.take n).map (Value.string)) ∧ v' ≠ .slice none 0 0 ∧ Below w.heap.size w w' := Any.slices_Clone_string Tryz.laysNm216 b off n c zs w hz hbig hc
open Go.RowKit Go.Lib in
theorem Tryz.slices_Clone_string_nil (n c : Nat) (w : World) :
    Calls Tryz.prog 235 #[.slice none n c] w fun e w' => e = .returned (.slice none 0 0) ∧ w' = w := Any.slices_Clone_string_nil Tryz.laysNm216 n c w
open Go.RowKit Go.Lib in
theorem Tryz.slices_Clone_string_zero (a : Addr) (c : Nat) (w : World) :
    Calls Tryz.prog 235 #[.slice (some a) 0 c] w fun e w' => ∃ v', e = .returned v' ∧ w'.ownsRow w.heap.size 9 1 v' 0 [] ∧ v' ≠ .slice none 0 0 ∧ Below w.heap.size w w' := Any.slices_Clone_string_zero Tryz.laysNm216 a c w
def Tryz.lays194_ren : Go.Shelf.Ren := ⟨fun | 194 => 237 | n => n, fun | 31 => 42 | 9 => 9 | 3 => 3 | 4 => 4 | 0 => 0 | n => n, fun | n => n⟩
theorem Tryz.lays194 : Go.Proofs.Lays.n194 Tryz.prog Tryz.lays194_ren := ⟨by kernel_rfl,shK func237,underlying0,isAgg0,sizeOf0,zeroValue0,underlying3,isAgg3,
sizeOf3,zeroValue3,underlying4,isAgg4,sizeOf4,zeroValue4,underlying9,isAgg9,
sizeOf9,zeroValue9,underlying42,isAgg42,sizeOf42,zeroValue42⟩
open Go.RowKit Go.Lib Go.Sort in
theorem Tryz.slices_Compact_string (blk off cap : Nat) (zs : List (List UInt8)) (w : World) (hH : Holds encStr w blk off zs.toArray) (hsz : zs.length ≤ 9223372036854775807) (hcap : zs.length ≤ cap) :
    Calls Tryz.prog 237 #[.slice (some ⟨blk, off, none⟩) zs.length cap] w fun e w' => e = .returned (.slice (some ⟨blk, off, none⟩) (Lib.compact zs).length cap) ∧ ∃ q, w' = putRow encStr (Sort.ahead w q) blk off (Lib.compact zs ++ List.replicate (zs.length - (Lib.compact zs).length) []).toArray := Any.slices_Compact_string Tryz.lays194 blk off cap zs w hH hsz hcap
open Go.RowKit Go.Lib Go.Sort in
theorem Tryz.slices_Compact_string_empty (a : Option Addr) (cap : Nat) (w : World) :
    Calls Tryz.prog 237 #[.slice a 0 cap] w fun e w' => e = .returned (.slice a 0 cap) ∧ w' = w := Any.slices_Compact_string_empty Tryz.lays194 a cap w
open Go.RowKit Go.Sort in
theorem Tryz.slices_Sort_string_none (p : Option Addr) (cap : Nat) (w : World) :
    Calls Tryz.prog 236 #[.slice p 0 cap] w fun e w' => e = .returned (.tuple #[]) ∧ w' = w := Any.slices_Sort_string_none Tryz.lays190 p cap w
end Go.Proofs
