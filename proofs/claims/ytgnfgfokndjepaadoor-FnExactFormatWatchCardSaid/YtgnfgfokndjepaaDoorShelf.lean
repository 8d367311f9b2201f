import Derived.Shelf.Strings.OnBuilder
import Derived.Shelf.Strconv.Itoa3
import Derived.Shelf.Strings.BuilderCap
import Derived.Test.YtgnfgfokndjepaaDoorProg
namespace Go.Proofs
open Go.Shelf Tryd
set_option maxRecDepth 100000
theorem shK {x : Option Func} {a b : Func} (h : x = some a) (e : a = b := by kernel_rfl) : x = some b := h.trans (congrArg some e)
def Tryd.lays156_ren : Go.Shelf.Ren := ⟨fun | 156 => 35 | 165 => 37 | 166 => 38 | 169 => 39 | 240 => 41 | 241 => 42 | 276 => 47 | 277 => 48 | n => n, fun | 31 => 27 | 9 => 9 | 3 => 3 | 4 => 4 | 0 => 0 | 20 => 20 | 72 => 60 | 76 => 64 | 70 => 58 | 37 => 54 | 75 => 63 | 127 => 68 | 164 => 75 | 5 => 5 | 80 => 66 | n => n, fun | n => n⟩
theorem Tryd.lays156 : Go.Proofs.Lays.n156 Tryd.prog Tryd.lays156_ren := ⟨by kernel_rfl,shK func35,shK func37,shK func38,shK func39,shK func41,shK func42,shK func47,
shK func48,underlying0,isAgg0,sizeOf0,zeroValue0,underlying3,isAgg3,sizeOf3,
zeroValue3,underlying4,isAgg4,sizeOf4,zeroValue4,underlying9,isAgg9,sizeOf9,
zeroValue9,underlying20,isAgg20,sizeOf20,zeroValue20,underlying27,isAgg27,sizeOf27,
zeroValue27,underlying54,isAgg54,sizeOf54,zeroValue54,underlying58,isAgg58,sizeOf58,
zeroValue58,underlying60,isAgg60,sizeOf60,zeroValue60,underlying63,isAgg63,sizeOf63,
zeroValue63,underlying64,isAgg64,sizeOf64,zeroValue64,underlying68,isAgg68,sizeOf68,
zeroValue68,underlying75,isAgg75,sizeOf75,zeroValue75⟩
theorem Tryd.Builder_Extra_156 : Builder.Extra Tryd.prog Tryd.lays156_ren := { sizeBuilder:=by kernel_rfl,liesBuilder:=by kernel_rfl,t5:=underlying5,a5:=isAgg5,z5:=sizeOf5,v5:=zeroValue5,infoByte:=by kernel_rfl,cellsByte:=by kernel_rfl,sizeByte:=by kernel_rfl,neB5:=by decide }
open Go.RowKit in
theorem Tryd.strings_Join_none (a : Option Addr) (c : Nat) (sep : ByteArray) (w : World) :
    Calls Tryd.prog 35 #[.slice a 0 c, .string sep] w fun e w' => e = .returned (.string ⟨#[]⟩) ∧ w' = w := Any.strings_Join_none Tryd.lays156 Tryd.Builder_Extra_156 a c sep w
open Go.RowKit in
theorem Tryd.strings_Join (bk o c : Nat) (xs : List ByteArray) (sep : ByteArray) (w : World) (hcells : ∀ (j : Nat) x, xs[j]? = some x → w.cell? ⟨bk, o + j, none⟩ = some (.string x)) (hbk : bk < w.heap.size) (hN : xs.length ≤ 140737488355328) (hcap : xs.length ≤ c) (hlen : (Lib.join (xs.map (·.data.toList)) sep.data.toList).length ≤ 140737488355328) :
    Calls Tryd.prog 35 #[.slice (some ⟨bk, o, none⟩) xs.length c, .string sep] w fun e w' => e = .returned (.string ⟨(Lib.join (xs.map (·.data.toList)) sep.data.toList).toArray⟩) ∧ Below w.heap.size w w' := Any.strings_Join Tryd.lays156 Tryd.Builder_Extra_156 bk o c xs sep w hcells hbk hN hcap hlen
def Tryd.laysM171_ren : Go.Shelf.Ren := ⟨fun | 171 => 33 | 243 => 36 | 246 => 40 | 283 => 43 | 284 => 44 | 285 => 45 | 286 => 46 | 129 => 50 | 317 => 49 | 318 => 51 | 319 => 52 | 320 => 53 | 337 => 54 | 338 => 55 | n => n, fun | 3 => 3 | 9 => 9 | 2 => 2 | 4 => 4 | 171 => 69 | 0 => 0 | 53 => 70 | 37 => 54 | 5 => 5 | 173 => 73 | 212 => 80 | 51 => 81 | 20 => 20 | 213 => 82 | 46 => 84 | 232 => 87 | 233 => 88 | n => n, fun | 17 => 0 | 18 => 2 | 19 => 3 | n => n⟩
theorem Tryd.laysM171 : Go.Proofs.LaysM.n171 Tryd.prog Tryd.laysM171_ren := { mixed:=by kernel_rfl,f129:=shK func50,f171:=shK func33,f243:=shK func36,f246:=shK func40,f283:=shK func43,f284:=shK func44,f285:=shK func45,f286:=shK func46,f317:=shK func49,f318:=shK func51,f319:=shK func52,f320:=shK func53,f337:=shK func54,f338:=shK func55,t0:=underlying0,a0:=isAgg0,z0:=sizeOf0,v0:=zeroValue0,t2:=underlying2,a2:=isAgg2,z2:=sizeOf2,v2:=zeroValue2,t3:=underlying3,a3:=isAgg3,z3:=sizeOf3,v3:=zeroValue3,t4:=underlying4,a4:=isAgg4,z4:=sizeOf4,v4:=zeroValue4,t5:=underlying5,a5:=isAgg5,z5:=sizeOf5,v5:=zeroValue5,t9:=underlying9,a9:=isAgg9,z9:=sizeOf9,v9:=zeroValue9,t20:=underlying20,a20:=isAgg20,z20:=sizeOf20,v20:=zeroValue20,t37:=underlying54,a37:=isAgg54,z37:=sizeOf54,v37:=zeroValue54,t46:=underlying84,a46:=isAgg84,z46:=sizeOf84,v46:=zeroValue84,t51:=underlying81,a51:=isAgg81,z51:=sizeOf81,v51:=zeroValue81,t53:=underlying70,a53:=isAgg70,z53:=sizeOf70,v53:=zeroValue70,t171:=underlying69,a171:=isAgg69,z171:=sizeOf69,v171:=zeroValue69,t173:=underlying73,a173:=isAgg73,z173:=sizeOf73,v173:=zeroValue73,t212:=underlying80,a212:=isAgg80,z212:=sizeOf80,v212:=zeroValue80,t213:=underlying82,a213:=isAgg82,z213:=sizeOf82,t232:=underlying87,a232:=isAgg87,z232:=sizeOf87,v232:=zeroValue87,t233:=underlying88,a233:=isAgg88,z233:=sizeOf88,v233:=zeroValue88,g17:=by kernel_rfl,g18:=by kernel_rfl,g19:=by kernel_rfl,i0:=by kernel_rfl,i2:=by kernel_rfl,i3:=by kernel_rfl,i4:=by kernel_rfl,i5:=by kernel_rfl,i9:=by kernel_rfl,i20:=by kernel_rfl,i37:=by kernel_rfl,i46:=by kernel_rfl,i51:=by kernel_rfl,i53:=by kernel_rfl,i171:=by kernel_rfl,i173:=by kernel_rfl,i212:=by kernel_rfl,i232:=by kernel_rfl,i233:=by kernel_rfl,m17:=by kernel_rfl,m18:=by kernel_rfl,m19:=by kernel_rfl }
open Go.RowKit Go.Sort Go.Lib in
theorem Tryd.strconv_Itoa (n : Int) (h0 : -9223372036854775808 ≤ n) (h1 : n ≤ 9223372036854775807) (w : World) (htab : Lib.TabIs Tryd.prog w "internal/strconv.uint64pow10" .u64 Lib.pow10Tab) :
    Calls Tryd.prog 33 #[.int .i64 n] w fun e w' => e = .returned (.string ⟨(Lib.itoa n).toArray⟩) ∧ ∃ k os, w' = grow (w.drewN k) os := Any.strconv_Itoa Tryd.laysM171 n h0 h1 w htab
end Go.Proofs
