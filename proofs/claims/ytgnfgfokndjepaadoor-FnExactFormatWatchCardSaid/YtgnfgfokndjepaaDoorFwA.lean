import Derived.WalkKit
import Derived.Laws.AppendOwnNone
import Derived.KernelRfl
import Derived.Deep.MidRow
import Derived.Great.BuildSlice
import Derived.Laws.StructEq
import Derived.Great.FillDense
import Derived.Laws.MakeOwn
import Derived.Laws.BytesString
import Derived.Laws.IdiomStrings
abbrev YX:=@Nat.eq_of_beq_eq_true
abbrev YZ:=@Bool.and_eq_true
abbrev Y0:=@List.length_cons
abbrev Y3:=@Nat.mul_le_mul_right
abbrev Y4:=@List.length_nil
abbrev Y5:=@List.mem_cons_of_mem
abbrev Y6:=@List.mem_cons_self
abbrev Y7:=@List.length_append
abbrev Y8:=@List.getElem?_eq_some_iff
abbrev Y9:=@Nat.le_trans
abbrev Za:=@decide_eq_false_iff_not
abbrev Zb:=@Go.run_underlying
abbrev Zc:=@Nat.lt_of_lt_of_le
abbrev Zd:=@Array.getElem?_eq_some_iff
abbrev Ze:=@List.all_eq_true
abbrev Zf:=@List.getElem?_eq_getElem
abbrev Zg:=@Nat.le_refl
abbrev Zh:=@List.map_cons
abbrev Zi:=@decide_eq_true_eq
abbrev Zj:=@Go.Sem.run_bind
abbrev Zk:=@List.append_eq_nil_iff
abbrev Zl:=@List.mem_cons
abbrev Zm:=@Nat.zero_le
abbrev Zn:=@List.mem_of_getElem?
abbrev Zo:=@Go.Calls.mono
abbrev Zp:=@Nat.lt_or_ge
abbrev Zq:=@List.getD_eq_getElem?_getD
abbrev Zr:=@Int.toNat_natCast
abbrev Zt:=@List.flatMap_cons
abbrev Zu:=@List.getElem?_take
abbrev Zv:=@List.mem_append_left
abbrev Zw:=@List.length_take
abbrev Zx:=@Nat.le_of_ble_eq_true
abbrev Zy:=@List.take_succ_eq_append_getElem
abbrev Zz:=@Go.Result.andThen_ok
abbrev ZA:=@Go.Sem.run_pure
abbrev ZB:=@List.getElem?_drop
abbrev ZC:=@Nat.zero_add
abbrev ZE:=@List.take_length
abbrev ZF:=@List.length_map
abbrev ZG:=@Array.length_toList
abbrev ZH:=@Nat.beq_refl
abbrev ZI:=@List.mem_append
abbrev ZJ:=@List.append_nil
abbrev ZK:=@of_decide_eq_true
abbrev ZL:=@List.ext_getElem?
abbrev ZM:=@List.append_assoc
abbrev ZN:=@List.length_eq_zero_iff
abbrev ZO:=@List.cons_append
abbrev ZP:=@List.mem_append_right
abbrev ZQ:=@List.all_cons
abbrev ZR:=@List.getElem?_map
abbrev ZT:=@List.getElem?_append_left
abbrev ZU:=@Nat.add_mul
abbrev ZV:=@Int.mul_le_mul_of_nonneg_right
abbrev ZW:=@Option.map_none
abbrev ZX:=@List.length_replicate
abbrev ZY:=@Array.toList_map
abbrev Z4:=@List.getElem?_of_mem
abbrev Z5:=@List.getElem?_set_ne
abbrev Z7:=@Array.getElem?_append_left
abbrev Z8:=@List.take_succ_cons
abbrev Z9:=@Array.toList_append
abbrev aac:=@beq_eq_false_iff_ne
abbrev aad:=@Bool.or_eq_true
abbrev aae:=@List.map_map
abbrev aaf:=@List.pairwise_cons
abbrev aag:=@Option.bind_eq_some_iff
abbrev aah:=@Array.getElem?_setIfInBounds_self
abbrev aai:=@List.map_id
abbrev aaj:=@List.set_append_right
abbrev aak:=@Array.getElem?_setIfInBounds_ne
abbrev aal:=@Array.ext'
abbrev aam:=@Go.Oper.upon_enter
abbrev aan:=@List.mem_iff_getElem
abbrev aao:=@Bool.or_eq_false_iff
abbrev aap:=@List.pairwise_append
abbrev aaq:=@List.map_append
abbrev aar:=@true_and
abbrev aas:=@Ne.symm
abbrev aat:=@List.mem_range
abbrev aau:=@Array.getD_eq_getD_getElem?
abbrev aav:=@Bool.false_eq_true
abbrev aaw:=@List.getElem?_append_right
abbrev aax:=@Nat.mod_lt
abbrev aay:=@Array.mapM_eq_mapM_toList
abbrev aaz:=@Nat.not_lt
abbrev aaA:=@Classical.byContradiction
abbrev aaB:=@Nat.add_zero
abbrev aaC:=@Int.natAbs_tmod
abbrev aaD:=@Option.map_some
abbrev aaE:=@Nat.min_eq_left
namespace Go.Fw
open Go
abbrev Bytes:=List UInt8
mutual
inductive CT where
 |int (k:IntKind)
 |bool
 |str
 |sl (e:TypeId) (r:aj)
inductive aj where
 |nil
 |cons (c:CT) (r:aj)
end
mutual
def CT.beq:CT->CT->Bool
 |.int k,.int l=>decide (k=l)
 |.bool,.bool=>true
 |.str,.str=>true
 |.sl e r,.sl f s=>Nat.beq e f&&r.beq s
 |_,_=>false
def aj.beq:aj->aj->Bool
 |.nil,.nil=>true
 |.cons c r,.cons d s=>c.beq d&&r.beq s
 |_,_=>false
end
mutual
theorem CT.eq_of_beq:∀(c d:CT),c.beq d=true->c=d
 |.int k,.int l,h=>by simp[CT.beq]at h;rw[h]
 |.bool,.bool,_=>rfl
 |.str,.str,_=>rfl
 |.sl e r,.sl f s,h=>by
  simp[CT.beq]at h;rw[h.1,aj.eq_of_beq r s h.2]
 |.int _,.bool,h|.int _,.str,h|.int _,.sl _ _,h|.bool,.int _,h|.bool,.str,h|.bool,.sl _ _,h
 |.str,.int _,h|.str,.bool,h|.str,.sl _ _,h|.sl _ _,.int _,h|.sl _ _,.bool,h|.sl _ _,.str,h=>by simp[CT.beq]at h
theorem aj.eq_of_beq:∀(r s:aj),r.beq s=true->r=s
 |.nil,.nil,_=>rfl
 |.cons c r,.cons d s,h=>by
  simp[aj.beq]at h;rw[CT.eq_of_beq c d h.1,aj.eq_of_beq r s h.2]
 |.nil,.cons _ _,h|.cons _ _,.nil,h=>by simp[aj.beq]at h
end
mutual
@[reducible] def CT.den:CT->Type
  |.int _=>Int
  |.bool=>Bool
  |.str=>Bytes
  |.sl _ r=>List r.den
@[reducible] def aj.den:aj->Type
  |.nil=>Unit
  |.cons c r=>c.den×r.den
end
mutual
def CT.dflt:(c:CT)->c.den
 |.int _=>(0:Int)
 |.bool=>false
 |.str=>([]:Bytes)
 |.sl _ r=>([]:List r.den)
def aj.dflt:(r:aj)->r.den
 |.nil=>()
 |.cons c r=>(c.dflt,r.dflt)
end
instance(r:aj):Inhabited r.den:=⟨r.dflt⟩
def aj.len:aj->Nat
 |.nil=>0
 |.cons _ r=>r.len+1
def oO{α:Type}(h:Array Obj)(S:Nat->Prop)(size:Nat)(rep:List Value->α->Prop)(v:Value)(l:List α):Prop:=
 l.length<=maxLen/\
 ((l=[]/\∃a c,v=.slice a 0 c)\/
  ∃b off cap cs t fz,v=.slice (some ⟨b,off,none⟩) l.length cap/\l.length<=cap/\S b/\h[b]? =some (.cells cs t fz)/\
   ∀i x,l[i]? =some x->rep ((cs.toList.drop (off+i*size)).take size) x)
mutual
def aU(h:Array Obj)(S:Nat->Prop):(c:CT)->Value->c.den->Prop
 |.int k,v,(n:Int)=>v=.int k n/\k.min<=n/\n<=k.max
 |.bool,v,(b:Bool)=>v=.bool b
 |.str,v,(s:Bytes)=>v=.string ⟨s.toArray⟩/\s.length<=maxLen
 |.sl _ r,v,(l:List r.den)=>oO h S r.len (λvs x=>aC h S r vs x) v l
def aC(h:Array Obj)(S:Nat->Prop):(r:aj)->List Value->r.den->Prop
 |.nil,vs,_=>vs=[]
 |.cons c r,vs,(x,y)=>∃v vs',vs=v::vs'/\aU h S c v x/\aC h S r vs' y
end
def aj.flat:aj->Bool
 |.nil=>true
 |.cons (.sl _ _) _=>false
 |.cons _ r=>r.flat
theorem aC.flat{h:Array Obj}{S S':Nat->Prop}:∀(r:aj)(vs:List Value)(x:r.den),r.flat=true->aC h S r vs x->aC h S' r vs x
 |.nil,_,_,_,hr=>hr
 |.cons (.sl _ _) _,_,_,hf,_=>by grind [aj.flat]
 |.cons (.int _) r,vs,(x,y),hf,hr=>by
  obtain⟨v,vs',h1,h2,h3⟩:=hr;exact⟨v,vs',h1,h2,aC.flat r vs' y hf h3⟩
 |.cons .bool r,vs,(x,y),hf,hr=>by
  obtain⟨v,vs',h1,h2,h3⟩:=hr;exact⟨v,vs',h1,h2,aC.flat r vs' y hf h3⟩
 |.cons .str r,vs,(x,y),hf,hr=>by obtain⟨v,vs',h1,h2,h3⟩:=hr;exact⟨v,vs',h1,h2,aC.flat r vs' y hf h3⟩
theorem oO.mono{α:Type}{h h':Array Obj}{S S':Nat->Prop}{size:Nat}{rep Uw:List Value->α->Prop}{v:Value}{l:List α}
 (H:oO h S size rep v l) (hk:∀b,S b->S' b/\h'[b]? =h[b]?) (hr:∀vs x,rep vs x->Uw vs x):oO h' S' size Uw v l:=by
 obtain⟨hl,H⟩:=H;refine⟨hl,?_⟩
 grind
mutual
theorem aU.mono{h h':Array Obj}{S S':Nat->Prop}(hk:∀b,S b->S' b/\h'[b]? =h[b]?):
 ∀(c:CT)(v:Value)(x:c.den),aU h S c v x->aU h' S' c v x
 |.int k,v,(n:Int),H=>by simpa[aU]using H
 |.bool,v,(b:Bool),H=>by simpa[aU]using H
 |.str,v,(s:Bytes),H=>by simpa[aU]using H
 |.sl _ r,v,(l:List r.den),H=>by rw[aU]at H ⊢;exact H.mono hk (λvs x hx=>aC.mono hk r vs x hx)
theorem aC.mono{h h':Array Obj}{S S':Nat->Prop}(hk:∀b,S b->S' b/\h'[b]? =h[b]?):
 ∀(r:aj)(vs:List Value)(x:r.den),aC h S r vs x->aC h' S' r vs x
 |.nil,vs,_,H=>by simpa[aC]using H
 |.cons c r,vs,(x,y),H=>by rw[aC]at H ⊢;obtain⟨v,vs',e,h1,h2⟩:=H;exact⟨v,vs',e,aU.mono hk c v x h1,aC.mono hk r vs' y h2⟩
end
theorem aC.length{h:Array Obj}{S:Nat->Prop}:∀(r:aj)(vs:List Value)(x:r.den),aC h S r vs x->vs.length=r.len
 |.nil,vs,_,H=>by grind [aC,aj.len]
 |.cons c r,vs,(x,y),H=>by obtain⟨v,vs',rfl,_,h2⟩:=H;simp[aj.len,aC.length r vs' y h2]
end Go.Fw
namespace Go.Fw
open Go
inductive Cell where
 |int (k:IntKind) (n:Int)
 |bool (b:Bool)
 |str (s:Bytes)
 |nil
 |sl (e:TypeId) (r:aj) (l:List r.den) (fr:Bool)
 |ref (o:Nat)
 |junk
inductive SV where
 |one (c:Cell)
 |agg (cs:List Cell)
def SV.cells:SV->List Cell
 |.one c=>[c]
 |.agg cs=>cs
inductive AV where
 |undef
 |sv (v:SV)
 |dO (vs:List SV)
 |bF (o off:Nat)
 |dV (o:Nat) (i:Nat) (off:Nat)
 |win (o:Nat) (lo:Nat) (n:Nat)
 |fZ (r:aj) (x:r.den) (off:Nat) (fr:Bool)
 |bI (cs:List Cell) (off:Nat)
 |fn (f:FuncId) (caps:List (List Cell))
inductive ak where
 |var (cs:List Cell)
 |arr (e:TypeId) (r:aj) (l:List r.den) (fr:Bool)
structure St where
 n:Nat
 tmps:Nat->AV
 af:Nat->Option ak
def St.set(st:St)(d:Nat)(v:AV):St:={st with tmps:=λt=>match Nat.beq t d with|true=>v|false=>st.tmps t}
def St.put(st:St)(d:Option Nat)(v:AV):St:=match d with|some d=>st.set d v|none=>st
def St.add(st:St)(o:Nat)(x:ak):St:={st with af:=λi=>match Nat.beq i o with|true=>some x|false=>st.af i}
def St.adds(st:St):List (Nat×ak)->St
 |[]=>st
 |(o,x)::r=>(st.add o x).adds r
def Cell.kill(S:Nat->Bool):Cell->Cell
 |.ref o=>match S o with|true=>.junk|false=>.ref o
 |c=>c
def SV.kill(S:Nat->Bool):SV->SV
 |.one c=>.one (c.kill S)
 |.agg cs=>.agg (cs.map (Cell.kill S))
def AV.kill(S:Nat->Bool):AV->AV
 |.undef=>.undef
 |.sv v=>.sv (v.kill S)
 |.dO vs=>.dO (vs.map (SV.kill S))
 |.bF o off=>match S o with|true=>.undef|false=>.bF o off
 |.dV o i off=>match S o with|true=>.undef|false=>.dV o i off
 |.win o i off=>match S o with|true=>.undef|false=>.win o i off
 |.fZ r x off fr=>.fZ r x off fr
 |.bI cs off=>.bI (cs.map (Cell.kill S)) off
 |.fn f caps=>.fn f (caps.map (List.map (Cell.kill S)))
def ak.kill(S:Nat->Bool):ak->ak
 |.var cs=>.var (cs.map (Cell.kill S))
 |.arr e r l fr=>.arr e r l fr
def St.kill(st:St)(S:Nat->Bool):St:=
 {n:=st.n,tmps:=λt=>(st.tmps t).kill S,af:=λo=>match S o with|true=>none|false=>(st.af o).map (ak.kill S)}
def Cell.freeze(st:St)(S:Nat->Bool):Cell->Cell
 |.ref o=>match S o with
  |true=>match st.af o with
   |some (.arr e r l fr)=>.sl e r l fr
   |_=>.junk
  |false=>.ref o
 |c=>c
def SV.freeze(st:St)(S:Nat->Bool):SV->SV
 |.one c=>.one (c.freeze st S)
 |.agg cs=>.agg (cs.map (Cell.freeze st S))
def AV.freeze(st:St)(S:Nat->Bool):AV->AV
 |.undef=>.undef
 |.sv v=>.sv (v.freeze st S)
 |.dO vs=>.dO (vs.map (SV.freeze st S))
 |.bF o off=>match S o with|true=>.undef|false=>.bF o off
 |.dV o i off=>match S o with|true=>.undef|false=>.dV o i off
 |.win o i off=>match S o with|true=>.undef|false=>.win o i off
 |.fZ r x off fr=>.fZ r x off fr
 |.bI cs off=>.bI (cs.map (Cell.freeze st S)) off
 |.fn f caps=>.fn f (caps.map (List.map (Cell.freeze st S)))
def ak.freeze(st:St)(S:Nat->Bool):ak->ak
 |.var cs=>.var (cs.map (Cell.freeze st S))
 |.arr e r l fr=>.arr e r l fr
def St.freeze(st:St)(S:Nat->Bool):St:=
 {n:=st.n,tmps:=λt=>(st.tmps t).freeze st S,af:=λo=>match S o with|true=>none|false=>(st.af o).map (ak.freeze st S)}
inductive TK where
 |scalar
 |str
 |slice (e:TypeId)
 |struct (fs:List (Nat×TypeId))
structure TI where
 kind:TK
 cells:aj
 bytes:Nat
 cmp:Bool
def TI.agg(ti:TI):Bool:=match ti.kind with|.struct _=>true|_=>false
abbrev bJ:=TypeId->Option TI
def CT.zero:CT->Cell
 |.int k=>.int k 0
 |.bool=>.bool false
 |.str=>.str []
 |.sl _ _=>.nil
def aj.zeros:aj->List Cell
 |.nil=>[]
 |.cons c r=>c.zero::r.zeros
def jd{r s:aj}(h:r.beq s=true)(l:List r.den):List s.den:=aj.eq_of_beq r s h▸l
def Cell.get(st:St):(c:CT)->Cell->Option c.den
 |.int k,.int l n=>match decide (k=l)with|true=>some n|false=>none
 |.bool,.bool b=>some b
 |.str,.str s=>some s
 |.sl _ _,.nil=>some []
 |.sl _ r,.sl _ s l _=>if h:s.beq r=true then some (jd h l)else none
 |.sl _ r,.ref o=>match st.af o with
  |some (.arr _ s l _)=>if h:s.beq r=true then some (jd h l)else none
  |_=>none
 |_,_=>none
def kV(st:St):(r:aj)->List Cell->Option r.den
 |.nil,[]=>some ()
 |.cons c r,x::xs=>match x.get st c,kV st r xs with
  |some a,some b=>some (a,b)
  |_,_=>none
 |_,_=>none
def Cell.fresh(st:St):Cell->Bool
 |.sl _ _ _ fr=>fr
 |.ref o=>match st.af o with|some (.arr _ _ _ fr)=>fr|_=>false
 |.junk=>false
 |_=>true
def Cell.jB(r:aj)(st:St)(y:Cell):Bool:=match r.flat with
 |true=>true
 |false=>y.fresh st
def CT.cell(fr:Bool):(c:CT)->c.den->Cell
 |.int k,(n:Int)=>.int k n
 |.bool,(b:Bool)=>.bool b
 |.str,(s:Bytes)=>.str s
 |.sl e r,(l:List r.den)=>.sl e r l fr
def aj.row(fr:Bool):(r:aj)->r.den->List Cell
 |.nil,_=>[]
 |.cons c r,x=>c.cell fr x.1::aj.row fr r x.2
def FO:Value->AV
 |.int k n=>match decide (k.min<=n)&&decide (n<=k.max)with|true=>.sv (.one (.int k n))|false=>.undef
 |.bool b=>.sv (.one (.bool b))
 |.string s=>match decide (s.data.toList.length<=maxLen)with|true=>.sv (.one (.str s.data.toList))|false=>.undef
 |.slice none 0 0=>.sv (.one .nil)
 |_=>.undef
def St.ev(st:St):Operand->AV
 |.tmp t=>st.tmps t
 |.const v=>FO v
 |.func f=>.fn f []
 |.global _=>.undef
end Go.Fw
namespace Go.Fw
open Go
def big:Nat:=4294967296
inductive aW where
 |plain (x:Cell)
 |own (e:TypeId) (r:aj) (l:List r.den) (fr:Bool)
structure Out where
 Nh:List (Bool×List aW)
 var:Option (List Cell)
def Cell.made:Cell->Bool
 |.sl _ _ _ fr=>fr
 |.ref _=>false
 |_=>true
def aW.made:aW->Bool
 |.plain c=>c.made
 |.own _ _ _ fr=>fr
def Out.made(o:Out):Bool:=match o.var with
 |some cs=>cs.all Cell.made
 |none=>o.Nh.all λx=>x.2.all aW.made
inductive Arg where
 |sv (v:SV)
 |kp (cs:List Cell)
 |fn (f:FuncId) (caps:List (List Cell))
 |own (e:TypeId) (r:aj) (l:List r.den)
 |ptr (cs:List Cell)
abbrev Jg:=List Arg->Option (Prop×Out)
inductive Mode where
 |val
 |own
 |ptr
inductive Eff where
 |lose
 |arr (e:TypeId) (r:aj) (l:List r.den)
 |var (cs:List Cell)
structure uY where
 T:Type
 R:T->Prop
 out:T->Out
 au:T->List Eff
abbrev FP:=List Arg->Option (Prop×uY)
inductive pW where
 |pure (c:Jg)
 |eff (ms:List Mode) (c:FP)
abbrev dn:=FuncId->Option pW
def Cell.view(st:St):Cell->Cell
 |.ref o=>match st.af o with
  |some (.arr e r l _)=>.sl e r l false
  |_=>.junk
 |.sl e r l _=>.sl e r l false
 |c=>c
def SV.view(st:St):SV->SV
 |.one c=>.one (c.view st)
 |.agg cs=>.agg (cs.map (Cell.view st))
def Cell.ok(st:St):Cell->Bool
 |.ref o=>match st.af o with
  |some (.arr _ _ _ _)=>true
  |_=>false
 |_=>true
def fF(st:St):List AV->Option (List Arg)
 |[]=>some []
 |x::r=>match x,fF st r with
  |.sv v,some vs=>match v.cells.all (Cell.ok st)with
   |true=>some (.sv (v.view st)::vs)
   |false=>none
  |.bI cs off,some vs=>match Nat.beq off 0&&cs.all (Cell.ok st)with
   |true=>some (.kp (cs.map (Cell.view st))::vs)
   |false=>none
  |.fn f caps,some vs=>match caps.all (List.all · (Cell.ok st))with
   |true=>some (.fn f (caps.map (List.map (Cell.view st)))::vs)
   |false=>none
  |_,_=>none
def handed(st:St)(xs:List Operand)(caps:List (List Cell)):List AV:=xs.map st.ev++caps.map λcs=>.bI cs 0
def heldBy(st:St):List Operand->Option (List (List Cell))
 |[]=>some []
 |x::r=>match st.ev x,heldBy st r with
  |.bI cs off,some l=>match Nat.beq off 0 with
   |true=>some (cs::l)
   |false=>none
  |_,_=>none
def aW.take(k:Nat):aW->Cell×List (Nat×ak)
 |.plain c=>(c,[])
 |.own e r l fr=>(.ref k,[(k,.arr e r l fr)])
def dA(k:Nat):List aW->List Cell×List (Nat×ak)
 |[]=>([],[])
 |x::r=>((x.take k).1::(dA (k+1) r).1,(x.take k).2++(dA (k+1) r).2)
def jv(k:Nat)(x:Bool×List aW):SV×List (Nat×ak):=
 match x.1,dA k x.2 with
 |true,(cs,δ)=>(.agg cs,δ)
 |false,([c],δ)=>(.one c,δ)
 |false,(_,δ)=>(.one .junk,δ)
def bG(k:Nat):List (Bool×List aW)->List SV×List (Nat×ak)
 |[]=>([],[])
 |x::r=>((jv k x).1::(bG (k+x.2.length) r).1,(jv k x).2++(bG (k+x.2.length) r).2)
def Out.take(k:Nat)(o:Out):AV×List (Nat×ak):=
 match o.var with
 |some cs=>(.bF (k-1) 0,[(k-1,.var cs)])
 |none=>match bG k o.Nh with
  |([v],δ)=>(.sv v,δ)
  |(vs,δ)=>(.dO vs,δ)
def bitsOf(op:BinOp)(k:IntKind)(x y:Int):Int:=
 let a:=BitVec.ofInt k.bits x
 let b:=BitVec.ofInt k.bits y
 match op with
 |.and=>k.wrap (a&&&b).toNat
 |.or=>k.wrap (a|||b).toNat
 |.xor=>k.wrap (a ^^^ b).toNat
 |_=>k.wrap (a&&&~~~b).toNat
def vJ(op:BinOp)(k:IntKind)(x y:Int):Option (Prop×Cell):=
 match op with
 |.add=>some (True,.int k (k.wrap (x+y)))
 |.sub=>some (True,.int k (k.wrap (x-y)))
 |.mul=>some (True,.int k (k.wrap (x*y)))
 |.quo=>some (y≠0,.int k (k.wrap (x.tdiv y)))
 |.rem=>some (y≠0,.int k (x.tmod y))
 |.and|.or|.xor|.andNot=>some (True,.int k (bitsOf op k x y))
 |.eql=>some (True,.bool (x==y))
 |.neq=>some (True,.bool (x !=y))
 |.lss=>some (True,.bool (decide (x<y)))
 |.leq=>some (True,.bool (decide (x<=y)))
 |.gtr=>some (True,.bool (decide (x>y)))
 |.geq=>some (True,.bool (decide (x>=y)))
 |_=>none
def yJ(op:BinOp)(x y:Bytes):Option (Prop×Cell):=
 match op with
 |.add=>some (x.length+y.length<=maxLen,.str (x++y))
 |.eql=>some (True,.bool (x==y))
 |.neq=>some (True,.bool (!(x==y)))
 |.lss=>some (True,.bool (Op.bytesLess x y))
 |.leq=>some (True,.bool (Op.bytesLess x y||x==y))
 |.gtr=>some (True,.bool (!(Op.bytesLess x y||x==y)))
 |.geq=>some (True,.bool (!(Op.bytesLess x y)))
 |_=>none
def yK:Cell->Cell->Option Bool
 |.int k a,.int l b=>match decide (k=l)with|true=>some (a==b)|false=>none
 |.bool a,.bool b=>some (a==b)
 |.str a,.str b=>some (a==b)
 |_,_=>none
def CT.fits:CT->Cell->Bool
 |.int k,.int l _=>decide (k=l)
 |.bool,.bool _=>true
 |.str,.str _=>true
 |_,_=>false
def aj.fits:aj->List Cell->Bool
 |.nil,[]=>true
 |.cons c r,x::xs=>c.fits x&&r.fits xs
 |_,_=>false
def dh:List Cell->List Cell->Option Bool
 |[],[]=>some true
 |x::xs,y::ys=>match yK x y,dh xs ys with
  |some a,some b=>some (a&&b)
  |_,_=>none
 |_,_=>none
def vK(op:BinOp)(x y:Cell):Option (Prop×Cell):=
 match x,y with
 |.int k a,.int l b=>
  match op with
  |.shl=>some (0<=b,.int k (k.wrap (a*2 ^ (min b.toNat k.bits))))
  |.shr=>some (0<=b,.int k (a.fdiv (2 ^ (min b.toNat k.bits))))
  |_=>match decide (k=l)with|true=>vJ op k a b|false=>none
 |.str a,.str b=>yJ op a b
 |.bool a,.bool b=>match op with
  |.eql=>some (True,.bool (a==b))
  |.neq=>some (True,.bool (!(a==b)))
  |_=>none
 |_,_=>none
def splice(xs:List Cell)(off:Nat)(ys:List Cell):List Cell:=xs.take off++ys++xs.drop (off+ys.length)
def Cell.isRef:Cell->Bool|.ref _=>true|_=>false
def Cell.refs:Cell->List Nat|.ref o=>[o]|_=>[]
variable (Θ:bJ) (Γ:dn)
def pX(st:St)(fs:List (Nat×TypeId)):List (Nat×Operand)->List Cell->Option (List Cell)
 |[],cs=>some cs
 |(i,x)::r,cs=>match fs[i]?,st.ev x with
  |some (off,t),.sv v=>match Θ t with
   |some ti=>match Nat.beq v.cells.length ti.cells.len&&Nat.ble (off+ti.cells.len) cs.length with
    |true=>pX st fs r (splice cs off v.cells)
    |false=>none
   |none=>none
  |_,_=>none
def nJ(st:St)(r:aj):Nat->List (Nat×Operand)->Option (List r.den)
 |_,[]=>some []
 |k,(i,x)::p=>match Nat.beq i k,st.ev x,nJ st r (k+1) p with
  |true,.sv v,some l=>match kV st r v.cells with
   |some a=>some (a::l)
   |none=>none
  |_,_,_=>none
def dS(st:St):List (Nat×Operand)->Bool
 |[]=>true
 |(_,x)::p=>(match st.ev x with|.sv v=>v.cells.all (Cell.fresh st)|_=>false)&&dS st p
def dM(st:St):List (Nat×Operand)->List Nat
 |[]=>[]
 |(_,x)::p=>(match st.ev x with|.sv v=>v.cells.flatMap Cell.refs|_=>[])++dM st p
def jh:AV->Option Int
 |.sv (.one (.int _ n))=>some n
 |_=>none
def dN(st:St)(len:Nat)(lo hi:Option Operand):Option (Prop×Nat×Nat):=
 match lo,hi with
 |none,none=>some (True,0,len)
 |some l,none=>match jh (st.ev l)with
  |some a=>some (0<=a/\a<=len,a.toNat,len)
  |none=>none
 |none,some h=>match jh (st.ev h)with
  |some b=>some (0<=b/\b<=len,0,b.toNat)
  |none=>none
 |some l,some h=>match jh (st.ev l),jh (st.ev h)with
  |some a,some b=>some (0<=a/\a<=b/\b<=len,a.toNat,b.toNat)
  |_,_=>none
def yL(st:St)(n room:Nat)(lo hi:Option Operand):Option (Prop×Nat×Nat):=match hi with
 |none=>dN st n lo none
 |some h=>dN st room lo (some h)
def FQ(x:(aj.cons (.int .u8) .nil).den):Int:=x.1
def byteRow(l:List (aj.cons (.int .u8) .nil).den):Bytes:=l.map λx=>UInt8.ofNat (FQ x).toNat
def nK(s:Bytes):List (aj.cons (.int .u8) .nil).den:=s.map λb=>((b.toNat:Int),())
def dF(ti:TI)(cs:List Cell)(off:Nat):Option SV:=
 match ti.agg with
 |true=>match Nat.ble (off+ti.cells.len) cs.length with
  |true=>some (.agg ((cs.drop off).take ti.cells.len))
  |false=>none
 |false=>match cs[off]? with
  |some c=>some (.one c)
  |none=>none
def LW(t:TypeId):Cell->Bool
 |.bool _=>match Θ t with
  |some ti=>match ti.cells with
   |.cons .bool .nil=>ti.agg==false
   |_=>false
  |none=>false
 |_=>true
def AV.refs:AV->List Nat
 |.sv v=>v.cells.flatMap Cell.refs
 |.bI cs _=>cs.flatMap Cell.refs
 |.fn _ caps=>caps.flatMap λcs=>cs.flatMap Cell.refs
 |_=>[]
def jw:List AV->List Nat
 |[]=>[]
 |x::r=>x.refs++jw r
def oP(xs:List AV):Bool:=match jw xs with|[]=>true|_::_=>false
def calm(d:Nat)(st:St):Op->Option (Prop×AV×List (Nat×ak))
 |.move x|.assign x=>some (True,st.ev x,[])
 |.nilCheck x=>match st.ev x with
  |.bF o off=>some (True,.bF o off,[])
  |.dV o i off=>some (True,.dV o i off,[])
  |.fZ r x off fr=>some (True,.fZ r x off fr,[])
  |.bI cs off=>some (True,.bI cs off,[])
  |.fn f caps=>some (True,.fn f caps,[])
  |_=>none
 |.makeFunc (.func f) first captured=>match first.toList,heldBy st captured.toList with
  |[],some l=>some (True,.fn f l,[])
  |_,_=>none
 |.pick c a b=>match st.ev c with
  |.sv (.one (.bool g))=>some (True,match g with|true=>st.ev a|false=>st.ev b,[])
  |_=>none
 |.alloc t=>match Θ t with
  |some ti=>some (True,.bF (d*64) 0,[(d*64,.var ti.cells.zeros)])
  |none=>none
 |.box _ x=>match st.ev x with
  |.sv v=>some (True,.bF (d*64) 0,[(d*64,.var v.cells)])
  |_=>none
 |.build t parts=>match Θ t with
  |some ti=>match ti.kind with
   |.struct fs=>match pX Θ st fs parts.toList ti.cells.zeros with
    |some cs=>some (True,.sv (.agg cs),[])
    |none=>none
   |_=>none
  |none=>none
 |.buildSlice t len parts=>match Θ t with
  |some ti=>match ti.kind with
   |.slice e=>match Θ e with
    |some te=>match Nat.beq len parts.size&&Nat.ble 1 te.cells.len&&Nat.ble (len*te.cells.len) 16777216,dM st parts.toList,nJ st te.cells 0 parts.toList with
     |true,[],some l=>some (True,.sv (.one (.ref (d*64+1))),[(d*64+1,.arr e te.cells l (dS st parts.toList))])
     |_,_,_=>none
    |none=>none
   |_=>none
  |none=>none
 |.makeSlice t x y=>match Θ t,jh (st.ev x),jh (st.ev y)with
  |some ti,some n,some c=>match ti.kind with
   |.slice e=>match Θ e with
    |some te=>match Nat.ble 1 te.cells.len with
     |true=>some (0<=n/\n<=c/\c<=(big:Int),.sv (.one (.ref (d*64+1))),[(d*64+1,.arr e te.cells (List.replicate n.toNat te.cells.dflt) true)])
     |false=>none
    |none=>none
   |_=>none
  |_,_,_=>none
 |.load t p=>match Θ t,st.ev p with
  |some ti,.bF o off=>match st.af o with
   |some (.var cs)=>match dF ti cs off with
    |some v=>some (True,.sv v,[])
    |none=>none
   |_=>none
  |some ti,.dV o i off=>match st.af o with
   |some (.arr _ r l fr)=>match dF ti (aj.row fr r (l.getD i r.dflt)) off with
    |some v=>some (i<l.length,.sv v,[])
    |none=>none
   |_=>none
  |some ti,.fZ r x off fr=>match dF ti (aj.row fr r x) off with
   |some v=>some (True,.sv v,[])
   |none=>none
  |some ti,.bI cs off=>match dF ti cs off with
   |some v=>some (True,.sv v,[])
   |none=>none
  |_,_=>none
 |.fieldAddr s p f=>match Θ s with
  |some ti=>match ti.kind with
   |.struct fs=>match fs[f]? with
    |some (k,t)=>match Θ t with
     |some te=>match te.cells,st.ev p with
      |.nil,_=>none
      |_,.bF o off=>some (True,.bF o (off+k),[])
      |_,.dV o i off=>some (True,.dV o i (off+k),[])
      |_,.fZ r x off fr=>some (True,.fZ r x (off+k) fr,[])
      |_,.bI cs off=>some (True,.bI cs (off+k),[])
      |_,_=>none
     |none=>none
    |none=>none
   |_=>none
  |none=>none
 |.field s x f=>match Θ s with
  |some ti=>match ti.kind with
   |.struct fs=>match fs[f]?,st.ev x with
    |some (k,t),.sv (.agg cs)=>match Θ t with
     |some te=>match dF te cs k with
      |some v=>some (True,.sv v,[])
      |none=>none
     |none=>none
    |_,_=>none
   |_=>none
  |none=>none
 |.indexAddr t x ix=>match Θ t,jh (st.ev ix)with
  |some ti,some n=>match ti.kind with
   |.slice e=>match Θ e,st.ev x with
    |some te,.sv (.one (.sl _ r l fr))=>match te.cells.beq r with
     |true=>some (0<=n/\n<l.length,.fZ r (l.getD n.toNat r.dflt) 0 fr,[])
     |false=>none
    |some te,.sv (.one (.ref o))=>match st.af o with
     |some (.arr _ r l _)=>match te.cells.beq r with
      |true=>some (0<=n/\n<l.length,.dV o n.toNat 0,[])
      |false=>none
     |_=>none
    |some _,.sv (.one .nil)=>some (False,.undef,[])
    |_,_=>none
   |_=>none
  |_,_=>none
 |.index t x ix=>match Θ t,jh (st.ev ix),st.ev x with
  |some ti,some n,.sv (.one (.str s))=>match ti.kind with
   |.str=>some (0<=n/\n<s.length,.sv (.one (.int .u8 ((s.getD n.toNat 0).toNat:Int))),[])
   |_=>none
  |_,_,_=>none
 |.binOp op t x y _=>match st.ev x,st.ev y with
  |.sv (.one a),.sv (.one b)=>match LW Θ t a with
   |true=>match vK op a b with
    |some (p,c)=>some (p,.sv (.one c),[])
    |none=>none
   |false=>none
  |.sv (.agg a),.sv (.agg b)=>match Θ t with
   |some ti=>match ti.cmp,dh a b,op with
    |true,some g,.eql=>match ti.cells.fits a with
     |true=>some (True,.sv (.one (.bool g)),[])
     |false=>none
    |true,some g,.neq=>match ti.cells.fits a with
     |true=>some (True,.sv (.one (.bool (!g))),[])
     |false=>none
    |_,_,_=>none
   |none=>none
  |_,_=>none
 |.unOp op _ x=>match op,st.ev x with
  |.not,.sv (.one (.bool b))=>some (True,.sv (.one (.bool (!b))),[])
  |.neg,.sv (.one (.int k n))=>some (True,.sv (.one (.int k (k.wrap (0-n)))),[])
  |_,_=>none
 |.convert src dst x=>match Θ src,Θ dst,st.ev x with
  |some ts,some td,.sv (.one c)=>if ts.agg||td.agg then none else match ts.cells,td.cells,c with
   |.cons (.int _) .nil,.cons (.int k) .nil,.int _ n=>some (True,.sv (.one (.int k (k.wrap n))),[])
   |.cons .str .nil,.cons .str .nil,.str s=>some (True,.sv (.one (.str s)),[])
   |.cons .str .nil,.cons (.sl e (.cons (.int .u8) .nil)) .nil,.str s=>match Θ e with
    |some te=>match te.cells,te.agg with
     |.cons (.int .u8) .nil,false=>some (True,.sv (.one (.sl e (.cons (.int .u8) .nil) (nK s) true)),[])
     |_,_=>none
    |none=>none
   |.cons (.sl e (.cons (.int .u8) .nil)) .nil,.cons .str .nil,c=>match c.get st (.sl e (.cons (.int .u8) .nil)),Θ e with
    |some l,some te=>match te.cells,te.agg with
     |.cons (.int .u8) .nil,false=>some (True,.sv (.one (.str (byteRow l))),[])
     |_,_=>none
    |_,_=>none
   |_,_,_=>none
  |_,_,_=>none
 |.extract x ix=>match st.ev x with
  |.dO vs=>match vs[ix]? with
   |some v=>some (True,.sv v,[])
   |none=>none
  |_=>none
 |.slice t x lo hi none=>match Θ t,st.ev x with
  |some ti,.sv (.one (.str s))=>match ti.kind,dN st s.length lo hi with
   |.str,some (p,a,b)=>some (p,.sv (.one (.str ((s.take b).drop a))),[])
   |_,_=>none
  |some ti,.sv (.one (.sl e r l fr))=>match ti.kind,dN st l.length lo hi with
   |.slice f,some (p,a,b)=>match Θ f with
    |some te=>match te.cells.beq r with
     |true=>some (p,.sv (.one (.sl e r ((l.take b).drop a) fr)),[])
     |false=>none
    |none=>none
   |_,_=>none
  |some ti,.sv (.one .nil)=>match ti.kind,dN st 0 lo hi with
   |.slice f,some (p,_,_)=>match Θ f with
    |some _=>some (p,.sv (.one .nil),[])
    |none=>none
   |_,_=>none
  |some ti,.win o oG n0=>match ti.kind,st.af o with
   |.slice f,some (.arr _ r l _)=>match Θ f,yL st n0 (l.length-oG) lo hi with
    |some te,some (p,a,b)=>match te.cells.beq r with
     |true=>some (p,.win o (oG+a) (b-a),[])
     |false=>none
    |_,_=>none
   |_,_=>none
  |_,_=>none
 |.slice t x (some lo) (some hi) (some mx)=>match Θ t,st.ev x with
  |some ti,.sv (.one (.ref o))=>match ti.kind,st.af o with
   |.slice f,some (.arr _ _ l _)=>match Θ f,jh (st.ev lo),jh (st.ev hi),jh (st.ev mx)with
    |some _,some a,some b,some c=>some (0<=a/\a<=b/\b<=c/\c<=l.length,.undef,[])
    |_,_,_,_=>none
   |_,_=>none
  |_,_=>none
 |.call {callee:=.builtin .len,args,argTypes}=>match args.toList,argTypes.toList with
  |[x],[t]=>match Θ t,st.ev x with
   |some ti,.sv (.one c)=>match ti.kind,c with
    |.str,.str s=>some (True,.sv (.one (.int .i64 s.length)),[])
    |.slice _,.sl _ _ l _=>some (True,.sv (.one (.int .i64 l.length)),[])
    |.slice _,.nil=>some (True,.sv (.one (.int .i64 0)),[])
    |.slice _,.ref o=>match st.af o with
     |some (.arr _ _ l _)=>some (True,.sv (.one (.int .i64 l.length)),[])
     |_=>none
    |_,_=>none
   |some ti,.win _ _ n=>match ti.kind with
    |.slice _=>some (True,.sv (.one (.int .i64 n)),[])
    |_=>none
   |_,_=>none
  |_,_=>none
 |.call {callee:=.builtin .min,args,.. }=>match args.toList with
  |[x,y]=>match st.ev x,st.ev y with
   |.sv (.one (.int k a)),.sv (.one (.int l b))=>match decide (k=l)with
    |true=>some (True,.sv (.one (.int k (if b<a then b else a))),[])
    |false=>none
   |_,_=>none
  |_=>none
 |.call {callee:=.builtin .max,args,.. }=>match args.toList with
  |[x,y]=>match st.ev x,st.ev y with
   |.sv (.one (.int k a)),.sv (.one (.int l b))=>match decide (k=l)with
    |true=>some (True,.sv (.one (.int k (if b>a then b else a))),[])
    |false=>none
   |_,_=>none
  |_=>none
 |.call {callee:=.value x,args,.. }=>match st.ev x with
  |.fn f caps=>match Γ f,fF st (handed st args.toList caps)with
   |some (.pure con),some vs=>match con vs with
    |some (p,out)=>match out.made||oP (handed st args.toList caps)with
     |true=>some (p,(out.take (d*64+1)).1,(out.take (d*64+1)).2)
     |false=>none
    |none=>none
   |_,_=>none
  |_=>none
 |_=>none
def Jh(st:St)(xs:List Operand)(caps:List (List Cell))(o:Nat):Bool:=(jw (handed st xs caps)).contains o
def Nj(st:St)(xs:List Operand)(caps:List (List Cell)):St:=st.freeze (Jh st xs caps)
def Sr(st:St)(xs:List Operand)(caps:List (List Cell)):List AV:=(handed st xs caps).map (AV.freeze st (Jh st xs caps))
def nM:List Mode->List AV->List AV
 |_,[]=>[]
 |[],xs=>xs
 |.val::ms,x::xs=>x::nM ms xs
 |_::ms,_::xs=>nM ms xs
def zW(st:St)(ms:List Mode)(xs:List Operand)(caps:List (List Cell))(o:Nat):Bool:=(jw (nM ms (handed st xs caps))).contains o
def sQ(st:St)(ms:List Mode)(xs:List Operand)(caps:List (List Cell)):St:=st.freeze (zW st ms xs caps)
def OY(st:St)(ms:List Mode)(xs:List Operand)(caps:List (List Cell)):List AV:=(handed st xs caps).map (AV.freeze st (zW st ms xs caps))
def iC(st:St)(m:Mode)(x:AV):Option (Arg×Option Nat):=
 match m with
 |.val=>match x.refs,fF st [x]with
  |[],some [a]=>some (a,none)
  |_,_=>none
 |.own=>match x with
  |.sv (.one (.ref o))=>match st.af o with
   |some (.arr e r l _)=>some (.own e r l,some o)
   |_=>none
  |_=>none
 |.ptr=>match x with
  |.bF o off=>match Nat.beq off 0,st.af o with
   |true,some (.var cs)=>match cs.flatMap Cell.refs with
    |[]=>some (.ptr (cs.map (Cell.view st)),some o)
    |_=>none
   |_,_=>none
  |_=>none
def hands(st:St):List Mode->List AV->Option (List Arg×List (Option Nat))
 |_,[]=>some ([],[])
 |ms,x::xs=>match iC st (ms.headD .val) x,hands st ms.tail xs with
  |some (a,o),some (as,os)=>some (a::as,o::os)
  |_,_=>none
def yM(o:Nat):List (Option Nat)->Bool
 |[]=>false
 |some p::r=>match Nat.beq o p with|true=>true|false=>yM o r
 |none::r=>yM o r
def jP:List (Option Nat)->Bool
 |[]=>true
 |some p::r=>!(yM p r)&&jP r
 |none::r=>jP r
def iH(au:List Eff)(p:Nat):Option ak:=
 match au[p / 64]? with
 |some (.arr e r l)=>match Nat.beq (p%64) 49 with|true=>some (.arr e r l false)|false=>none
 |some (.var cs)=>match Nat.beq (p%64) 48 with|true=>some (.var cs)|false=>none
 |_=>none
def qI(au:List Eff)(δ:List (Nat×ak)):Bool:=δ.all λy=>(iH au y.1).isNone
def eX(st:St):List (Option Nat)->List Eff->Option (List (Nat×ak))
 |[],_=>some []
 |none::os,au=>eX st os au.tail
 |some o::os,au=>match au.head?,st.af o,eX st os au.tail with
  |some .lose,_,some δ=>some δ
  |some (.arr e r l),some (.arr f s _ _),some δ=>match Nat.beq e f&&r.beq s with
   |true=>some ((o,.arr e r l false)::δ)
   |false=>none
  |some (.var cs),some (.var _),some δ=>match cs.flatMap Cell.refs with
   |[]=>some ((o,.var cs)::δ)
   |_=>none
  |_,_,_=>none
def bM:List (Option Nat)->List Eff->Nat->Bool
 |[],_,_=>false
 |none::os,au,p=>bM os au.tail p
 |some o::os,au,p=>match au.head? with
  |some .lose=>match Nat.beq o p with|true=>true|false=>bM os au.tail p
  |_=>bM os au.tail p
def bV(st:St)(δ:List (Nat×ak)):Bool:=δ.all λy=>(st.af y.1).isNone
def iI{α:Type}(l:List α)(lo:Nat)(news:List α):List α:=l.take lo++news++l.drop (lo+news.length)
def yN(Θ:bJ)(st:St)(ti:TI)(o oG n0 o2 lo2 n2:Nat):Option (Prop×AV×St):=match Nat.beq oG 0&&Nat.beq o o2,ti.kind,st.af o with
 |true,.slice e,some (.arr f r l fr)=>match Θ e with
  |some te=>match te.cells.beq r&&Nat.beq e f with
   |true=>some (n0+n2<=l.length/\lo2+n2<=l.length,.win o 0 (n0+n2),st.add o (.arr f r (iI l n0 ((l.drop lo2).take n2)) fr))
   |false=>none
  |none=>none
 |_,_,_=>none
def BQ(Θ:bJ)(st:St)(ti:TI)(o lo n:Nat):Option (Prop×AV×St):=match ti.kind,st.af o with
 |.slice e,some (.arr f r l fr)=>match Θ e with
  |some te=>match te.cells.beq r&&Nat.beq e f with
   |true=>some (lo+n<=l.length,.dO [],st.add o (.arr f r (iI l lo (List.replicate n r.dflt)) fr))
   |false=>none
  |none=>none
 |_,_=>none
def store(st:St)(p:AV)(v:SV):Option (Prop×St):=
 match p with
 |.bF o off=>match st.af o with
  |some (.var cs)=>match Nat.ble (off+v.cells.length) cs.length with
   |true=>some (True,st.add o (.var (splice cs off v.cells)))
   |false=>none
  |_=>none
 |.dV o i off=>match v.cells.flatMap Cell.refs,st.af o with
  |[],some (.arr e r l fr)=>match kV st r (splice (aj.row fr r (l.getD i r.dflt)) off v.cells),Nat.ble (off+v.cells.length) r.len with
   |some x,true=>some (i<l.length,st.add o (.arr e r (l.set i x) (fr&&v.cells.all (Cell.fresh st))))
   |_,_=>none
  |_,_=>none
 |_=>none
def lX(p:AV)(v:SV)(o:Nat):Bool:=match p with|.dV _ _ _=>(v.cells.flatMap Cell.refs).contains o|_=>false
def eff(d:Nat)(st:St):Op->Option (Prop×AV×St)
 |.store t p x=>match st.ev x,Θ t with
  |.sv v,some ti=>match Nat.beq v.cells.length ti.cells.len with
   |true=>match store (st.freeze (lX (st.ev p) v)) ((st.ev p).freeze st (lX (st.ev p) v)) (v.freeze st (lX (st.ev p) v))with
    |some (q,s)=>some (q,.undef,s)
    |none=>none
   |false=>none
  |_,_=>none
 |.buildSlice t len parts=>
  match calm Θ Γ d (st.freeze ((dM st parts.toList).contains ·)) (.buildSlice t len parts)with
  |some (p,v,δ)=>match bV (st.freeze ((dM st parts.toList).contains ·)) δ with
   |true=>some (p,v,(st.freeze ((dM st parts.toList).contains ·)).adds δ)
   |false=>none
  |none=>none
 |.slice t x lo hi none=>match Θ t,st.ev x with
  |some ti,.sv (.one (.ref o))=>match ti.kind,st.af o with
   |.slice f,some (.arr e r l fr)=>match Θ f,dN st l.length lo hi with
    |some te,some (p,_,b)=>match te.cells.beq r with
     |true=>match lo with
      |none=>some (p,.sv (.one (.ref o)),(st.kill (Nat.beq o ·)).add o (.arr e r (l.take b) fr))
      |some l0=>match calm Θ Γ d (st.freeze (Nat.beq o ·)) (.slice t x (some l0) hi none)with
       |some (q,v,[])=>some (q,v,st.freeze (Nat.beq o ·))
       |_=>none
     |false=>none
    |_,_=>none
   |_,_=>none
  |_,_=>none
 |.call {callee:=.builtin .append,args,argTypes}=>match args.toList,argTypes.toList with
  |[s,x],[t,u]=>match Nat.beq t u,Θ t,st.ev s,st.ev x with
   |true,some ti,.sv (.one c),.sv (.one y)=>match ti.kind with
    |.slice e=>match Θ e with
     |some te=>match y.get st (.sl e te.cells),c with
      |some news,.ref o=>match st.af o with
       |some (.arr f r l fr)=>if h:te.cells.beq r=true then
         match Nat.beq e f with
         |true=>some (l.length+news.length<=big,.sv (.one (.ref o)),(st.kill (Nat.beq o ·)).add o (.arr e r (l++jd h news) (fr&&y.jB te.cells st)))
         |false=>none
        else none
       |_=>none
      |some news,.nil=>match Nat.ble 1 te.cells.len with
       |true=>some (news.length<=big,.sv (.one (.ref (d*64+1))),(st.kill (Nat.beq (d*64+1) ·)).add (d*64+1) (.arr e te.cells news (y.jB te.cells st)))
       |false=>none
      |_,_=>none
     |none=>none
    |_=>none
   |true,some ti,.win o oG n0,.win o2 lo2 n2=>yN Θ st ti o oG n0 o2 lo2 n2
   |_,_,_,_=>none
  |_,_=>none
 |.call {callee:=.builtin .clear,args,argTypes}=>match args.toList,argTypes.toList with
  |[x],[t]=>match Θ t,st.ev x with
   |some ti,.win o lo n=>BQ Θ st ti o lo n
   |_,_=>none
  |_,_=>none
 |.call {callee:=.value x,args,.. }=>
  match st.ev x with
  |.fn f caps=>
   match Γ f with
   |some (.pure con)=>match fF (Nj st args.toList caps) (Sr st args.toList caps),jw (Sr st args.toList caps)with
    |some vs,[]=>match con vs with
     |some (p,out)=>match bV (Nj st args.toList caps) (out.take (d*64+1)).2 with
      |true=>some (p,(out.take (d*64+1)).1,(Nj st args.toList caps).adds (out.take (d*64+1)).2)
      |false=>none
     |none=>none
    |_,_=>none
   |_=>none
  |_=>none
 |_=>none
def DF(st:St):Op->Option (Prop×uY×List (Option Nat)×St)
 |.call {callee:=.value x,args,.. }=>
  match st.ev x with
  |.fn f caps=>match Γ f with
   |some (.eff ms con)=>match hands (sQ st ms args.toList caps) ms (OY st ms args.toList caps)with
    |some (vs,os)=>match con vs with
     |some (p,ρ)=>some (p,ρ,os,sQ st ms args.toList caps)
     |none=>none
    |none=>none
   |_=>none
  |_=>none
 |_=>none
def zX(d:Nat)(s0:St)(os:List (Option Nat))(out:Out)(au:List Eff):Option (AV×St):=
 match jP os&&qI au (out.take (d*64+1)).2,eX s0 os au,bV (s0.kill (bM os au)) (out.take (d*64+1)).2 with
 |true,some δ,true=>some ((out.take (d*64+1)).1,((s0.kill (bM os au)).adds δ).adds (out.take (d*64+1)).2)
 |_,_,_=>none
def oper(d:Nat)(st:St)(o:Op):Option (Prop×AV×St):=
 match calm Θ Γ d st o with
 |some (p,v,δ)=>match bV st δ with
  |true=>some (p,v,st.adds δ)
  |false=>none
 |none=>eff Θ Γ d st o
end Go.Fw
namespace Go.Fw
open Go
structure V where
 w:World
 n0:Nat
 S:Nat->Prop
 γ:Nat->Value
 af:Nat->Option ak
def blk:Value->Option Nat
 |.pointer (some a)=>some a.block
 |.slice (some a) _ _=>some a.block
 |_=>none
def V.foot(X:V)(b:Nat):Prop:=b<X.w.heap.size/\(b<X.n0->X.S b)/\∀o x,X.af o=some x->blk (X.γ o)≠some b
def GR(w:World)(b:Nat):Prop:=∀cs t fz,w.heap[b]? =some (.cells cs t fz)->∀k,k<cs.size->¬(fz.1<=k/\k<fz.2)
theorem GR.keep{w w':World}{b:Nat}(h:GR w b)(e:w'.heap[b]? =w.heap[b]?):GR w' b:=λcs t fz hc=>h cs t fz (e▸hc)
theorem TB{w:World}{base size n b:Nat}{e:TypeId}{v:Value}{xs:List Value}(h:w.ownsRow base e size v n xs)(hb:blk v=some b):GR w b:=λcs t fz hc=>by
 rcases h.2 with⟨rfl,_⟩|⟨g,cap,cur,rfl,_,h1,_⟩
 .cases hb
 .cases hb;rw[h1]at hc;cases hc;exactλk _ h=>Nat.not_lt_zero k h.2
def V.aH(X:V)(fr:Bool)(b:Nat):Prop:=X.foot b/\(fr=true->X.n0<=b/\GR X.w b)
def ay(X:V):Cell->Value->Prop
 |.int k n,v=>v=.int k n/\k.min<=n/\n<=k.max
 |.bool b,v=>v=.bool b
 |.str s,v=>v=.string ⟨s.toArray⟩/\s.length<=maxLen
 |.nil,v=>v=.slice none 0 0
 |.sl e r l fr,v=>aU X.w.heap (X.aH fr) (.sl e r) v l
 |.ref o,v=>(∃e r l fr,X.af o=some (.arr e r l fr))/\v=X.γ o/\v.oneCell'=true
 |.junk,v=>v.oneCell'=true
def ah(X:V):List Cell->List Value->Prop
 |[],[]=>True
 |c::cs,v::vs=>ay X c v/\ah X cs vs
 |_,_=>False
def aP(X:V):SV->Value->Prop
 |.one c,v=>ay X c v
 |.agg cs,v=>∃vs,v=.agg vs/\ah X cs vs.toList
def aN(X:V):List SV->List Value->Prop
 |[],[]=>True
 |c::cs,v::vs=>aP X c v/\aN X cs vs
 |_,_=>False
def bf(X:V)(cs:List Cell)(b:Nat):Prop:=∃arr t fz,X.foot b/\X.w.heap[b]? =some (.cells arr t fz)/\ah X cs arr.toList
def aV(X:V):List (List Cell)->List Value->Prop
 |[],[]=>True
 |cs::l,u::us=>(∃b,u=.pointer (some ⟨b,0,none⟩)/\bf X cs b)/\aV X l us
 |_,_=>False
def aA(X:V):AV->Value->Prop
 |.undef,_=>True
 |.sv x,v=>aP X x v
 |.dO xs,v=>∃vs,v=.tuple vs/\aN X xs vs.toList
 |.bF o off,v=>∃b cs,X.af o=some (.var cs)/\X.γ o=.pointer (some ⟨b,0,none⟩)/\v=.pointer (some ⟨b,off,none⟩)
 |.dV o i off,v=>∃b n cap e r l fr,X.af o=some (.arr e r l fr)/\X.γ o=.slice (some ⟨b,0,none⟩) n cap/\v=.pointer (some ⟨b,i*r.len+off,none⟩)
 |.win o i off,v=>∃b n cap e r l fr,X.af o=some (.arr e r l fr)/\X.γ o=.slice (some ⟨b,0,none⟩) n cap/\(∃q,(q=i*r.len\/cap<=i)/\v=.slice (some ⟨b,q,none⟩) off (cap-i)/\i+off<=cap)
 |.fZ r x off fr,v=>∃b base cs t fz,v=.pointer (some ⟨b,base+off,none⟩)/\X.aH fr b/\X.w.heap[b]? =some (.cells cs t fz)/\
    aC X.w.heap (X.aH fr) r ((cs.toList.drop base).take r.len) x
 |.bI cs off,v=>∃b,v=.pointer (some ⟨b,off,none⟩)/\bf X cs b
 |.fn f caps,v=>∃us:Array Value,v=.func (.func f) #[] us/\aV X caps us.toList
def aB(X:V)(o:Nat):ak->Prop
 |.var cs=>∃b arr t,X.γ o=.pointer (some ⟨b,0,none⟩)/\X.w.heap[b]? =some (.cells arr t (0,0))/\ah X cs arr.toList
 |.arr e r l fr=>∃xs,X.w.ownsRow 0 e r.len (X.γ o) l.length xs/\0<r.len/\(∀b,blk (X.γ o)=some b->fr=true->X.n0<=b)/\
    ∀i x,l[i]? =some x->aC X.w.heap (X.aH fr) r ((xs.drop (i*r.len)).take r.len) x
structure Ext where
 S:Nat->Prop
 N:Nat->Option Value
 n48:∀p v,N p=some v->p%64=48
instance:CoeFun Ext (λ_=>Nat->Prop):=⟨Ext.S⟩
instance:CoeOut Ext (Nat->Prop):=⟨Ext.S⟩
structure Rel(w0:World)(M:Nat->Prop)(T:Ext)(γ:Nat->Value)(st:St)(a:Act)(w:World):Prop where
 mT:∀b,M b->T b
 defers:a.defers=[]
 size:a.tmps.size=st.n
 os:w.os=w0.os
 tape:w.tape=w0.tape
 output:w.output=w0.output
 grow:w0.heap.size<=w.heap.size
 kept:∀b,b<w0.heap.size->¬M b->w.heap[b]? =w0.heap[b]?
 tmps:∀t,aA ⟨w,w0.heap.size,T,γ,st.af⟩ (st.tmps t) (a.tmps.getD t undef)
 af:∀o x,st.af o=some x->aB ⟨w,w0.heap.size,T,γ,st.af⟩ o x
 lt:∀o x b,st.af o=some x->blk (γ o)=some b->b<w.heap.size/\(w0.heap.size<=b\/M b)
 sep:∀o x p y b,st.af o=some x->st.af p=some y->o≠p->blk (γ o)=some b->blk (γ p)≠some b
 pin:∀o v cs,T.N o=some v->st.af o=some (.var cs)->γ o=v
structure V.le(X Y:V):Prop where
 n0:Y.n0<=X.n0
 foot:∀b,X.foot b->Y.foot b/\Y.w.heap[b]? =X.w.heap[b]?
 var:∀o cs,X.af o=some (.var cs)->(∃cs',Y.af o=some (.var cs'))/\Y.γ o=X.γ o
 arr:∀o e r l fr,X.af o=some (.arr e r l fr)->(∃l' fr',Y.af o=some (.arr e r l' fr'))/\Y.γ o=X.γ o
theorem V.le.refl(X:V):X.le X:=⟨Zg _,λ_ h=>⟨h,rfl⟩,λ_ cs h=>⟨⟨cs,h⟩,rfl⟩,λ_ _ _ l fr h=>⟨⟨l,fr,h⟩,rfl⟩⟩
theorem V.le.aH{X Y:V}(h:X.le Y)(fr:Bool)(b:Nat)(hb:X.aH fr b):Y.aH fr b/\Y.w.heap[b]? =X.w.heap[b]? :=
 ⟨⟨(h.foot b hb.1).1,λe=>⟨Y9 h.n0 (hb.2 e).1,(hb.2 e).2.keep (h.foot b hb.1).2⟩⟩,(h.foot b hb.1).2⟩
theorem ay.mono{X Y:V}(h:X.le Y):∀(c:Cell)(v:Value),ay X c v->ay Y c v
 |.int _ _,_,H|.bool _,_,H|.str _,_,H|.nil,_,H|.junk,_,H=>H
 |.sl e r l fr,v,H=>aU.mono (λb hb=>h.aH fr b hb) (.sl e r) v l H
 |.ref o,v,⟨⟨e,r,l,fr,hx⟩,hv,h1⟩=>by obtain⟨⟨l',fr',hy⟩,hγ⟩:=h.arr o e r l fr hx;exact⟨⟨e,r,l',fr',hy⟩,hv.trans hγ.symm,h1⟩
theorem ah.mono{X Y:V}(h:X.le Y):∀(cs:List Cell)(vs:List Value),ah X cs vs->ah Y cs vs
 |[],[],H=>H
 |c::cs,v::vs,⟨h1,h2⟩=>⟨ay.mono h c v h1,ah.mono h cs vs h2⟩
 |[],_::_,H|_::_,[],H=>by cases H
theorem aP.mono{X Y:V}(h:X.le Y):∀(c:SV)(v:Value),aP X c v->aP Y c v
 |.one c,v,H=>ay.mono h c v H
 |.agg cs,_,⟨vs,hv,H⟩=>⟨vs,hv,ah.mono h cs _ H⟩
theorem aN.mono{X Y:V}(h:X.le Y):∀(cs:List SV)(vs:List Value),aN X cs vs->aN Y cs vs
 |[],[],H=>H
 |c::cs,v::vs,⟨h1,h2⟩=>⟨aP.mono h c v h1,aN.mono h cs vs h2⟩
 |[],_::_,H|_::_,[],H=>by cases H
theorem bf.mono{X Y:V}(h:X.le Y){cs:List Cell}{b:Nat}(H:bf X cs b):bf Y cs b:=by obtain⟨arr,t,fz,hb,hh,hr⟩:=H;exact⟨arr,t,fz,(h.foot b hb).1,(h.foot b hb).2.trans hh,ah.mono h cs _ hr⟩
theorem aV.mono{X Y:V}(h:X.le Y):∀(l:List (List Cell))(us:List Value),aV X l us->aV Y l us
 |[],[],H=>H
 |cs::l,u::us,⟨⟨b,hu,hk⟩,h2⟩=>⟨⟨b,hu,hk.mono h⟩,aV.mono h l us h2⟩
 |[],_::_,H|_::_,[],H=>by cases H
theorem aA.mono{X Y:V}(h:X.le Y):∀(c:AV)(v:Value),aA X c v->aA Y c v
 |.undef,_,_=>trivial
 |.sv x,v,H=>aP.mono h x v H
 |.dO xs,_,⟨vs,hv,H⟩=>⟨vs,hv,aN.mono h xs _ H⟩
 |.bF o off,v,⟨b,cs,hx,hγ,hv⟩=>by
  obtain⟨⟨cs',hy⟩,he⟩:=h.var o cs hx;exact⟨b,cs',hy,he.trans hγ,hv⟩
 |.dV o i off,v,⟨b,n,cap,e,r,l,fr,hx,hγ,hv⟩=>by
  obtain⟨⟨l',fr',hy⟩,he⟩:=h.arr o e r l fr hx;exact⟨b,n,cap,e,r,l',fr',hy,he.trans hγ,hv⟩
 |.win o i off,v,⟨b,n,cap,e,r,l,fr,hx,hγ,hv⟩=>by
  obtain⟨⟨l',fr',hy⟩,he⟩:=h.arr o e r l fr hx;exact⟨b,n,cap,e,r,l',fr',hy,he.trans hγ,hv⟩
 |.fZ r x off fr,v,⟨b,base,cs,t,fz,hv,hf,hb,hr⟩=>
  ⟨b,base,cs,t,fz,hv,(h.aH fr b hf).1,(h.aH fr b hf).2.trans hb,aC.mono (λb hb=>h.aH fr b hb) r _ x hr⟩
 |.bI cs off,v,⟨b,hv,hk⟩=>⟨b,hv,hk.mono h⟩
 |.fn f caps,v,⟨us,hv,hk⟩=>⟨us,hv,aV.mono h caps _ hk⟩
theorem ah.length{X:V}:∀(cs:List Cell)(vs:List Value),ah X cs vs->vs.length=cs.length
 |[],[],_=>rfl
 |_::cs,_::vs,⟨_,h⟩=>by simp[ah.length cs vs h]
 |[],_::_,H|_::_,[],H=>by cases H
theorem ah.append{X:V}:∀(cs:List Cell)(vs:List Value)(ds:List Cell)(us:List Value),ah X cs vs->ah X ds us->ah X (cs++ds) (vs++us)
 |[],[],_,_,_,h=>h
 |_::cs,_::vs,ds,us,⟨h1,h2⟩,h=>⟨h1,ah.append cs vs ds us h2 h⟩
 |[],_::_,_,_,H,_|_::_,[],_,_,H,_=>by cases H
theorem ah.take{X:V}:∀(cs:List Cell)(vs:List Value)(n:Nat),ah X cs vs->ah X (cs.take n) (vs.take n)
 |[],[],n,h=>by simpa using h
 |_::_,_::_,0,_=>trivial
 |c::cs,v::vs,n+1,⟨h1,h2⟩=>⟨h1,ah.take cs vs n h2⟩
 |[],_::_,_,H|_::_,[],_,H=>by cases H
theorem ah.drop{X:V}:∀(cs:List Cell)(vs:List Value)(n:Nat),ah X cs vs->ah X (cs.drop n) (vs.drop n)
 |[],[],n,h=>by simpa using h
 |_::_,_::_,0,h=>h
 |c::cs,v::vs,n+1,⟨_,h2⟩=>ah.drop cs vs n h2
 |[],_::_,_,H|_::_,[],_,H=>by cases H
theorem ah.get{X:V}:∀(cs:List Cell)(vs:List Value)(i:Nat)(c:Cell),ah X cs vs->cs[i]? =some c->∃v,vs[i]? =some v/\ay X c v
 |[],_,_,_,_,h=>by simp at h
 |c::cs,v::vs,0,d,⟨h1,_⟩,h=>by grind
 |c::cs,v::vs,i+1,d,⟨_,h2⟩,h=>by
  obtain⟨u,hu,hr⟩:=ah.get cs vs i d h2 (by simpa using h);exact⟨u,by simpa using hu,hr⟩
 |_::_,[],_,_,H,_=>by cases H
theorem ay.one{X:V}:∀(c:Cell)(v:Value),ay X c v->v.oneCell'=true
 |.int _ _,_,⟨h,_⟩=>by rw[h];rfl
 |.bool _,_,h=>by rw[show _=_ from h];rfl
 |.str _,_,⟨h,_⟩=>by rw[h];rfl
 |.nil,_,h=>by rw[show _=_ from h];rfl
 |.sl e r l fr,v,h=>by
  rcases h.2 with⟨_,a,c,hv⟩|⟨b,off,cap,cs,t,fz,hv,_⟩<;>rw[hv]<;>rfl
 |.ref _,_,⟨_,_,h⟩=>h
 |.junk,_,h=>h
theorem oQ:∀(v:Value),v.oneCell'=true->v.cells=#[v]:=by intro v h;cases v<;>first|rfl|simp[Value.oneCell']at h
theorem aP.cells{X:V}:∀(x:SV)(v:Value),aP X x v->ah X x.cells v.cells.toList
 |.one c,v,h=>by
  rw[oQ v (ay.one c v h)];exact⟨h,trivial⟩
 |.agg cs,v,⟨vs,hv,h⟩=>by rw[hv];exact h
theorem ah.ones{X:V}:∀(cs:List Cell)(vs:List Value),ah X cs vs->∀v∈vs,v.oneCell'=true
 |[],[],_,_,hv=>by cases hv
 |c::cs,u::vs,⟨h1,h2⟩,v,hv=>by
  rcases Zl.1 hv with rfl|hv
  .exact ay.one c _ h1
  .exact ah.ones cs vs h2 v hv
 |[],_::_,H,_,_|_::_,[],H,_,_=>by cases H
end Go.Fw
namespace Go.Fw
open Go
variable {w0:World} {M:Nat->Prop} {T:Ext} {γ γ':Nat->Value} {st:St} {a:Act} {w w':World}
abbrev ai(w0:World)(T:Nat->Prop)(γ:Nat->Value)(st:St)(w:World):V:=⟨w,w0.heap.size,T,γ,st.af⟩
theorem aB.mono{X Y:V}(h:X.le Y)(o:Nat):∀(x:ak),(∀b,blk (X.γ o)=some b->Y.w.heap[b]? =X.w.heap[b]?)->Y.γ o=X.γ o->aB X o x->aB Y o x
 |.var cs,hb,hγ,⟨b,arr,t,e,hh,hr⟩=>⟨b,arr,t,hγ.trans e,(hb b (by rw[e];rfl)).trans hh,ah.mono h cs _ hr⟩
 |.arr e r l fr,hb,hγ,⟨xs,hown,hr,hf,hx⟩=>by
  refine⟨xs,?_,hr,λb hb' hfr=>Y9 h.n0 (hf b (hγ▸hb') hfr),λi x hi=>aC.mono (λb hb=>h.aH fr b hb) r _ x (hx i x hi)⟩;obtain⟨h1,h2⟩:=hown;refine⟨h1,?_⟩;rcases h2 with h2|⟨g,cap,cur,hv,hg,hh,hrest⟩
  · grind
  .exact .inr ⟨g,cap,cur,hγ.trans hv,hg,(hb g (by rw[hv];rfl)).trans hh,hrest⟩
theorem Rel.grown(h:Rel w0 M T γ st a w)(qx:Nat->Option ak)
 (hA:∀p x,st.af p=some x->qx p=some x) (hγ:∀p x,st.af p=some x->γ' p=γ p)
 (hos:w'.os=w.os) (htape:w'.tape=w.tape) (hout:w'.output=w.output) (hsize:w.heap.size<=w'.heap.size)
 (hheap:∀b,b<w.heap.size->w'.heap[b]? =w.heap[b]?)
 (hnew:∀p x,qx p=some x->st.af p=none->aB ⟨w',w0.heap.size,T,γ',qx⟩ p x/\∀b,blk (γ' p)=some b->w.heap.size<=b/\b<w'.heap.size)
 (Yx:∀p cs,qx p=some (.var cs)->st.af p=none->T.N p=none)
 (hsep:∀p x q y b,qx p=some x->st.af p=none->qx q=some y->st.af q=none->p≠q->blk (γ' p)=some b->blk (γ' q)≠some b):
 Rel w0 M T γ' {st with af:=qx} a w'/\(ai w0 T γ st w).le ⟨w',w0.heap.size,T,γ',qx⟩:=by
 have old:∀p x,qx p=some x->st.af p=some x\/st.af p=none:=by
  intro p x hp;cases e:st.af p with
  |none=>exact .inr rfl
  |some y=>grind
 have le:(ai w0 T γ st w).le ⟨w',w0.heap.size,T,γ',qx⟩:=by
  refine⟨Zg _,λb hb=>⟨⟨Zc hb.1 hsize,hb.2.1,λo x hx=>?_⟩,hheap b hb.1⟩,λo cs hx=>⟨⟨cs,hA o _ hx⟩,hγ o _ hx⟩,λo e r l fr hx=>⟨⟨l,fr,hA o _ hx⟩,hγ o _ hx⟩⟩;rcases old o x hx with ho|ho
  .show blk (γ' o)≠some b;rw[hγ o x ho];exact hb.2.2 o x ho
  .intro e;have h1:=((hnew o x hx ho).2 b e).1;have h2:b<w.heap.size:=hb.1;omega
 refine⟨⟨h.mT,h.defers,h.size,hos.trans h.os,htape.trans h.tape,hout.trans h.output,Y9 h.grow hsize,λb hb hM=>?_,λt=>aA.mono le _ _ (h.tmps t),λo x hx=>?_,λo x b hx hb=>?_,λo x p y b hx hy hop hb=>?_,λo v cs hN hx=>?_⟩,le⟩
 .rw[hheap b (Zc hb h.grow)];exact h.kept b hb hM
 .rcases old o x hx with ho|ho
  .exact aB.mono le o x (λb hb=>hheap b (h.lt o x b ho hb).1) (hγ o x ho) (h.af o x ho)
  grind
 .rcases old o x hx with ho|ho
  .rw[hγ o x ho]at hb;have:=h.lt o x b ho hb
   grind
  .have:=(hnew o x hx ho).2 b hb;exact⟨this.2,.inl (Y9 h.grow this.1)⟩
 .rcases old o x hx with ho|ho<;>rcases old p y hy with hp|hp
  .rw[hγ o x ho]at hb;rw[hγ p y hp];exact h.sep o x p y b ho hp hop hb
  .rw[hγ o x ho]at hb;intro e;have h1:=((hnew p y hy hp).2 b e).1;have h2:=(h.lt o x b ho hb).1;omega
  .have h1:=((hnew o x hx ho).2 b hb).1;rw[hγ p y hp];intro e;have h2:=(h.lt p y b hp e).1;omega
  grind
 .rcases old o _ hx with ho|ho
  .rw[hγ o _ ho];exact h.pin o v cs hN ho
  grind
theorem yO(xs:Array Value)(d t:Nat)(v z:Value)(hd:d<xs.size):(xs.setIfInBounds d v).getD t z=if t=d then v else xs.getD t z:=by
 by_cases e:t=d
 · simp_all
 .simp only[aau]
  grind
theorem Rel.set(h:Rel w0 M T γ st a w)(d:Nat)(hd:d<st.n)(v:AV)(u:Value)(hv:aA (ai w0 T γ st w) v u):
 Rel w0 M T γ (st.set d v) (a.put (some d) u) w:=by
 refine⟨h.mT,h.defers,?_,h.os,h.tape,h.output,h.grow,h.kept,λt=>?_,h.af,h.lt,h.sep,h.pin⟩
 .simp only[Act.put,Array.size_setIfInBounds];exact h.size
 .simp only[Act.put];rw[yO _ _ _ _ _ (by rw[h.size];exact hd)];simp only[St.set];by_cases e:t=d
  · simp_all
  .rw[if_neg e];have:Nat.beq t d=false:=by grind [Nat.eq_of_beq_eq_true]
   rw[this];exact h.tmps t
theorem Rel.drew(h:Rel w0 M T γ st a w)(n:Nat):Rel w0 M T γ st a {w with drawn:=n}:=
 (h.grown (γ':=γ) (w':={w with drawn:=n}) st.af (λ_ _ h=>h) (λ_ _ _=>rfl) rfl rfl rfl (Zg _) (λ_ _=>rfl)
   (λp x h1 h2=>by grind) (λp cs h1 h2=>by grind) (λp x q y b h1 h2=>by grind)).1
section kill
variable (S:Nat->Bool)
theorem ay.kill(_h:Rel w0 M T γ st a w):∀(c:Cell)(v:Value),ay (ai w0 T γ st w) c v->ay (ai w0 T γ (st.kill S) w) (c.kill S) v
 |.int _ _,_,H|.bool _,_,H|.str _,_,H|.nil,_,H|.junk,_,H=>H
 |.sl e r l _,v,H=>aU.mono (λb hb=>⟨⟨⟨hb.1.1,hb.1.2.1,λo x hx=>by
    simp only[St.kill]at hx;cases hS:S o with
    |true=>grind
    |false=>
     cases ho:st.af o with
     |none=>grind
     |some y=>exact hb.1.2.2 o y ho⟩,hb.2⟩,rfl⟩) (.sl e r) v l H
 |.ref o,v,⟨⟨e,r,l,fr,hx⟩,hv,h1⟩=>by
  simp only[Cell.kill];cases hS:S o with
  |true=>exact h1
  |false=>exact⟨⟨e,r,l,fr,by simp only[St.kill,hS];rw[show st.af o=_ from hx];rfl⟩,hv,h1⟩
theorem uw(b:Nat)(hb:(ai w0 T γ st w).foot b):(ai w0 T γ (st.kill S) w).foot b:=
 ⟨hb.1,hb.2.1,λo x hx=>by
     simp only[St.kill]at hx;cases hS:S o with
     |true=>grind
     |false=>
      cases ho:st.af o with
      |none=>grind
      |some y=>exact hb.2.2 o y ho⟩
theorem ah.kill(h:Rel w0 M T γ st a w):∀(cs:List Cell)(vs:List Value),ah (ai w0 T γ st w) cs vs->ah (ai w0 T γ (st.kill S) w) (cs.map (Cell.kill S)) vs
 |[],[],H=>H
 |c::cs,v::vs,⟨h1,h2⟩=>⟨ay.kill S h c v h1,ah.kill h cs vs h2⟩
 |[],_::_,H|_::_,[],H=>by cases H
theorem aP.kill(h:Rel w0 M T γ st a w):∀(c:SV)(v:Value),aP (ai w0 T γ st w) c v->aP (ai w0 T γ (st.kill S) w) (c.kill S) v
 |.one c,v,H=>ay.kill S h c v H
 |.agg cs,_,⟨vs,hv,H⟩=>⟨vs,hv,ah.kill S h cs _ H⟩
theorem aN.kill(h:Rel w0 M T γ st a w):∀(cs:List SV)(vs:List Value),aN (ai w0 T γ st w) cs vs->aN (ai w0 T γ (st.kill S) w) (cs.map (SV.kill S)) vs
 |[],[],H=>H
 |c::cs,v::vs,⟨h1,h2⟩=>⟨aP.kill S h c v h1,aN.kill h cs vs h2⟩
 |[],_::_,H|_::_,[],H=>by cases H
theorem dZ{o:Nat}{x:ak}(hS:S o=false)(hx:st.af o=some x):(st.kill S).af o=some (x.kill S):=by
 grind [St.kill]
theorem bf.kill(h:Rel w0 M T γ st a w){cs:List Cell}{b:Nat}(H:bf (ai w0 T γ st w) cs b):bf (ai w0 T γ (st.kill S) w) (cs.map (Cell.kill S)) b:=by obtain⟨arr,t,fz,hb,hh,hr⟩:=H;exact⟨arr,t,fz,uw S b hb,hh,ah.kill S h cs _ hr⟩
theorem aV.kill(h:Rel w0 M T γ st a w):∀(l:List (List Cell))(us:List Value),aV (ai w0 T γ st w) l us->aV (ai w0 T γ (st.kill S) w) (l.map (List.map (Cell.kill S))) us
 |[],[],H=>H
 |cs::l,u::us,⟨⟨b,hu,hk⟩,h2⟩=>⟨⟨b,hu,bf.kill S h hk⟩,aV.kill h l us h2⟩
 |[],_::_,H|_::_,[],H=>by cases H
theorem aA.kill(h:Rel w0 M T γ st a w):∀(c:AV)(v:Value),aA (ai w0 T γ st w) c v->aA (ai w0 T γ (st.kill S) w) (c.kill S) v
 |.undef,_,_=>trivial
 |.sv x,v,H=>aP.kill S h x v H
 |.dO xs,_,⟨vs,hv,H⟩=>⟨vs,hv,aN.kill S h xs _ H⟩
 |.bF o off,v,⟨b,cs,hx,hγ,hv⟩=>by
  simp only[AV.kill];cases hS:S o with
  |true=>trivial
  |false=>exact⟨b,_,dZ S hS hx,hγ,hv⟩
 |.dV o i off,v,⟨b,n,cap,e,r,l,fr,hx,hγ,hv⟩=>by
  simp only[AV.kill];cases hS:S o with
  |true=>trivial
  |false=>exact⟨b,n,cap,e,r,l,fr,dZ S hS hx,hγ,hv⟩
 |.win o i off,v,⟨b,n,cap,e,r,l,fr,hx,hγ,hv⟩=>by
  simp only[AV.kill];cases hS:S o with
  |true=>trivial
  |false=>exact⟨b,n,cap,e,r,l,fr,dZ S hS hx,hγ,hv⟩
 |.fZ r x off fr,v,⟨b,base,cs,t,fz,hv,hf,hb,hr⟩=>
  ⟨b,base,cs,t,fz,hv,⟨uw S b hf.1,hf.2⟩,hb,aC.mono (λb hb=>⟨⟨uw S b hb.1,hb.2⟩,rfl⟩) r _ x hr⟩
 |.bI cs off,v,⟨b,hv,hk⟩=>⟨b,hv,bf.kill S h hk⟩
 |.fn f caps,v,⟨us,hv,hk⟩=>⟨us,hv,aV.kill S h caps _ hk⟩
theorem jC{o:Nat}{x:ak}(hx:(st.kill S).af o=some x):∃y,st.af o=some y/\x=y.kill S/\S o=false:=by
 simp only[St.kill]at hx;cases hS:S o with
 |true=>grind
 |false=>
  cases ho:st.af o with
  |none=>grind
  |some y=>grind
theorem aB.kill(h:Rel w0 M T γ st a w)(o:Nat):∀(x:ak),aB (ai w0 T γ st w) o x->aB (ai w0 T γ (st.kill S) w) o (x.kill S)
 |.var cs,⟨b,arr,t,e,hh,hr⟩=>⟨b,arr,t,e,hh,ah.kill S h cs _ hr⟩
 |.arr _ r _ _,⟨xs,hown,hr,hf,hx⟩=>⟨xs,hown,hr,hf,λi x hi=>aC.mono (λb hb=>⟨⟨uw S b hb.1,hb.2⟩,rfl⟩) r _ x (hx i x hi)⟩
theorem Rel.kill(h:Rel w0 M T γ st a w):Rel w0 M T γ (st.kill S) a w:=by
 refine⟨h.mT,h.defers,h.size,h.os,h.tape,h.output,h.grow,h.kept,λt=>aA.kill S h _ _ (h.tmps t),λo x hx=>?_,λo x b hx hb=>?_,λo x p y b hx hy hop hb=>?_,λo v cs hN hx=>?_⟩
 .obtain⟨y,hy,rfl,_⟩:=jC S hx;exact aB.kill S h o y (h.af o y hy)
 .obtain⟨y,hy,rfl,_⟩:=jC S hx;exact h.lt o y b hy hb
 .obtain⟨x',hx',rfl,_⟩:=jC S hx;obtain⟨y',hy',rfl,_⟩:=jC S hy;exact h.sep o x' p y' b hx' hy' hop hb
 .obtain⟨y,hy,e,_⟩:=jC S hx;cases y with
  |var cs'=>exact h.pin o v cs' hN hy
  |arr _ _ _ _=>cases e
end kill
end Go.Fw
namespace Go.Fw
open Go
variable {w0:World} {M:Nat->Prop} {T:Ext} {γ γ':Nat->Value} {st:St} {a:Act} {w w':World} (S:Nat->Bool)
theorem bg{α:Type}(l:List α)(i k n:Nat)(h:i+k<=n):((l.take n).drop i).take k=(l.drop i).take k:=by
 grind [List.drop_take]
theorem aB.reads{X:V}{o:Nat}{e:TypeId}{r:aj}{l:List r.den}{fr:Bool}{F:Nat->Prop}(h:aB X o (.arr e r l fr))
 (hF:∀b,X.aH fr b->F b) (hO:∀b,blk (X.γ o)=some b->F b):aU X.w.heap F (.sl e r) (X.γ o) l:=by
 obtain⟨xs,⟨h1,h2⟩,hr,hf,hx⟩:=h;rcases h2 with⟨hv,hn⟩|⟨g,cap,cur,hv,_,hg,hle,hmax,hsz,htake⟩
 .refine⟨by omega,.inl ⟨ZN.1 hn,none,0,hv⟩⟩
 .refine⟨Y9 hle hmax,.inr ⟨g,0,cap,cur,e,(0,0),hv,hle,hO g (by rw[hv];rfl),hg,λi x hi=>?_⟩⟩;have hlt:i<l.length:=(Y8.1 hi).1;have hmul:i*r.len+r.len<=l.length*r.len:=by
   have:(i+1)*r.len<=l.length*r.len:=Y3 _ hlt
   grind
  grind [bg,aC.mono]
theorem kY(b:Nat)(hb:(ai w0 T γ st w).foot b):(ai w0 T γ (st.freeze S) w).foot b:=
 ⟨hb.1,hb.2.1,λo x hx=>by
     simp only[St.freeze]at hx;cases hS:S o with
     |true=>grind
     |false=>
      cases ho:st.af o with
      |none=>grind
      |some y=>exact hb.2.2 o y ho⟩
theorem kZ{o:Nat}{x:ak}(hx:(st.freeze S).af o=some x):∃y,st.af o=some y/\x=y.freeze st S/\S o=false:=by
 simp only[St.freeze]at hx;cases hS:S o with
 |true=>grind
 |false=>
  cases ho:st.af o with
  |none=>grind
  |some y=>grind
theorem kG{o:Nat}{x:ak}(hS:S o=false)(hx:st.af o=some x):(st.freeze S).af o=some (x.freeze st S):=by
 grind [St.freeze]
theorem ay.freeze(h:Rel w0 M T γ st a w):∀(c:Cell)(v:Value),ay (ai w0 T γ st w) c v->ay (ai w0 T γ (st.freeze S) w) (c.freeze st S) v
 |.int _ _,_,H|.bool _,_,H|.str _,_,H|.nil,_,H|.junk,_,H=>H
 |.sl e r l _,v,H=>aU.mono (λb hb=>⟨⟨kY S b hb.1,hb.2⟩,rfl⟩) (.sl e r) v l H
 |.ref o,v,⟨⟨e,r,l,fr,hx⟩,hv,h1⟩=>by
  have hx':st.af o=some (.arr e r l fr):=hx;simp only[Cell.freeze];cases hS:S o with
  |false=>exact⟨⟨e,r,l,fr,kG S hS hx'⟩,hv,h1⟩
  |true=>
   simp only[hx'];rw[hv];refine aB.reads (F:=(ai w0 T γ (st.freeze S) w).aH fr) (h.af o _ hx') (λb hb=>⟨kY S b hb.1,hb.2⟩) (λb hb=>⟨⟨(h.lt o _ b hx' hb).1,λhlt=>h.mT b ((h.lt o _ b hx' hb).2.resolve_left (by grind)),λp y hp=>?_⟩,λhfr=>?_⟩)
   .obtain⟨z,hz,_,hSp⟩:=kZ S hp;refine h.sep o _ p z b hx' hz (λe=>?_) hb
    grind
   .obtain⟨xs,hw,_,hf,_⟩:=h.af o _ hx';exact⟨by grind,TB hw hb⟩
theorem ah.freeze(h:Rel w0 M T γ st a w):∀(cs:List Cell)(vs:List Value),ah (ai w0 T γ st w) cs vs->ah (ai w0 T γ (st.freeze S) w) (cs.map (Cell.freeze st S)) vs
 |[],[],H=>H
 |c::cs,v::vs,⟨h1,h2⟩=>⟨ay.freeze S h c v h1,ah.freeze h cs vs h2⟩
 |[],_::_,H|_::_,[],H=>by cases H
theorem aP.freeze(h:Rel w0 M T γ st a w):∀(c:SV)(v:Value),aP (ai w0 T γ st w) c v->aP (ai w0 T γ (st.freeze S) w) (c.freeze st S) v
 |.one c,v,H=>ay.freeze S h c v H
 |.agg cs,_,⟨vs,hv,H⟩=>⟨vs,hv,ah.freeze S h cs _ H⟩
theorem aN.freeze(h:Rel w0 M T γ st a w):∀(cs:List SV)(vs:List Value),aN (ai w0 T γ st w) cs vs->aN (ai w0 T γ (st.freeze S) w) (cs.map (SV.freeze st S)) vs
 |[],[],H=>H
 |c::cs,v::vs,⟨h1,h2⟩=>⟨aP.freeze S h c v h1,aN.freeze h cs vs h2⟩
 |[],_::_,H|_::_,[],H=>by cases H
theorem bf.freeze(h:Rel w0 M T γ st a w){cs:List Cell}{b:Nat}(H:bf (ai w0 T γ st w) cs b):bf (ai w0 T γ (st.freeze S) w) (cs.map (Cell.freeze st S)) b:=by obtain⟨arr,t,fz,hb,hh,hr⟩:=H;exact⟨arr,t,fz,kY S b hb,hh,ah.freeze S h cs _ hr⟩
theorem aV.freeze(h:Rel w0 M T γ st a w):∀(l:List (List Cell))(us:List Value),aV (ai w0 T γ st w) l us->aV (ai w0 T γ (st.freeze S) w) (l.map (List.map (Cell.freeze st S))) us
 |[],[],H=>H
 |cs::l,u::us,⟨⟨b,hu,hk⟩,h2⟩=>⟨⟨b,hu,bf.freeze S h hk⟩,aV.freeze h l us h2⟩
 |[],_::_,H|_::_,[],H=>by cases H
theorem aA.freeze(h:Rel w0 M T γ st a w):∀(c:AV)(v:Value),aA (ai w0 T γ st w) c v->aA (ai w0 T γ (st.freeze S) w) (c.freeze st S) v
 |.undef,_,_=>trivial
 |.sv x,v,H=>aP.freeze S h x v H
 |.dO xs,_,⟨vs,hv,H⟩=>⟨vs,hv,aN.freeze S h xs _ H⟩
 |.bF o off,v,⟨b,cs,hx,hγ,hv⟩=>by
  simp only[AV.freeze];cases hS:S o with
  |true=>trivial
  |false=>exact⟨b,_,kG S hS hx,hγ,hv⟩
 |.dV o i off,v,⟨b,n,cap,e,r,l,fr,hx,hγ,hv⟩=>by
  simp only[AV.freeze];cases hS:S o with
  |true=>trivial
  |false=>exact⟨b,n,cap,e,r,l,fr,kG S hS hx,hγ,hv⟩
 |.win o i off,v,⟨b,n,cap,e,r,l,fr,hx,hγ,hv⟩=>by
  simp only[AV.freeze];cases hS:S o with
  |true=>trivial
  |false=>exact⟨b,n,cap,e,r,l,fr,kG S hS hx,hγ,hv⟩
 |.fZ r x off fr,v,⟨b,base,cs,t,fz,hv,hf,hb,hr⟩=>
  ⟨b,base,cs,t,fz,hv,⟨kY S b hf.1,hf.2⟩,hb,aC.mono (λb hb=>⟨⟨kY S b hb.1,hb.2⟩,rfl⟩) r _ x hr⟩
 |.bI cs off,v,⟨b,hv,hk⟩=>⟨b,hv,bf.freeze S h hk⟩
 |.fn f caps,v,⟨us,hv,hk⟩=>⟨us,hv,aV.freeze S h caps _ hk⟩
theorem aB.freeze(h:Rel w0 M T γ st a w)(o:Nat):∀(x:ak),aB (ai w0 T γ st w) o x->aB (ai w0 T γ (st.freeze S) w) o (x.freeze st S)
 |.var cs,⟨b,arr,t,e,hh,hr⟩=>⟨b,arr,t,e,hh,ah.freeze S h cs _ hr⟩
 |.arr _ r _ _,⟨xs,hown,hr,hf,hx⟩=>⟨xs,hown,hr,hf,λi x hi=>aC.mono (λb hb=>⟨⟨kY S b hb.1,hb.2⟩,rfl⟩) r _ x (hx i x hi)⟩
theorem Rel.freeze(h:Rel w0 M T γ st a w):Rel w0 M T γ (st.freeze S) a w:=by
 refine⟨h.mT,h.defers,h.size,h.os,h.tape,h.output,h.grow,h.kept,λt=>aA.freeze S h _ _ (h.tmps t),λo x hx=>?_,λo x b hx hb=>?_,λo x p y b hx hy hop hb=>?_,λo v cs hN hx=>?_⟩
 .obtain⟨y,hy,rfl,_⟩:=kZ S hx;exact aB.freeze S h o y (h.af o y hy)
 .obtain⟨y,hy,rfl,_⟩:=kZ S hx;exact h.lt o y b hy hb
 .obtain⟨x',hx',rfl,_⟩:=kZ S hx;obtain⟨y',hy',rfl,_⟩:=kZ S hy;exact h.sep o x' p y' b hx' hy' hop hb
 .obtain⟨y,hy,e,_⟩:=kZ S hx;cases y with
  |var cs'=>exact h.pin o v cs' hN hy
  |arr _ _ _ _=>cases e
theorem Cell.zY(h:Rel w0 M T γ st a w):∀(c:CT)(x:Cell)(v:Value)(d:c.den),ay (ai w0 T γ st w) x v->x.get st c=some d->
 aU w.heap (λb=>b<w.heap.size) c v d:=by
 intro c x v d hx hg;cases c with
 |int k=>
  cases x<;>simp only[Cell.get]at hg<;>try (cases hg;done)
  next l n=>
   cases hd:decide (k=l)with
   |false=>grind
   |true=>
    rw[hd]at hg;have hkl:k=l:=ZK hd;subst hkl;cases hg;exact hx
 |bool=>cases x<;>simp only[Cell.get]at hg<;>first|(cases hg;done)|(cases hg;exact hx)
 |str=>cases x<;>simp only[Cell.get]at hg<;>first|(cases hg;done)|(cases hg;exact hx)
 |sl e r=>
  cases x<;>simp only[Cell.get]at hg<;>try (cases hg;done)
  .cases hg;have hv:v=.slice none 0 0:=hx;subst hv;exact⟨Zm _,.inl ⟨rfl,none,0,rfl⟩⟩
  .next e' s l fr=>
   split at hg
   .next hb=>have hrs:=aj.eq_of_beq s r hb;subst hrs;cases hg;exact aU.mono (λb hb=>⟨hb.1.1,rfl⟩) (.sl e s) v l hx
   .cases hg
  .next o=>
   obtain⟨⟨e',s,l,fr,ho⟩,hv,_⟩:=hx;have ho':st.af o=some (.arr e' s l fr):=ho;simp only[ho']at hg;split at hg
   .next hb=>have hrs:=aj.eq_of_beq s r hb;subst hrs;cases hg;rw[hv];exact aB.reads (X:=ai w0 T γ st w) (e:=e') (l:=l) (fr:=fr) (h.af o _ ho') (λb hb=>hb.1.1) (λb hb=>(h.lt o _ b ho' hb).1)
   .cases hg
end Go.Fw
namespace Go.Fw
open Go
variable {P:Program} {w0:World} {M:Nat->Prop} {T:Ext} {γ γ':Nat->Value} {st:St} {a:Act} {w w':World}
theorem Oper.dL{o:Oper}{a:Act}{w w':World}{u:Value}{next:Act->World->Prop}{Q:Exit->Act->World->Prop}
 (h:(execOp a.eval o).run P w=.ok (.value u) w') (hn:next (a.put o.dst u) w'):o.wp P a w next Q:=by
 unfold Oper.wp;rw[h];exact hn
theorem Oper.wp_skip{o:Oper}{a:Act}{w w':World}{next:Act->World->Prop}{Q:Exit->Act->World->Prop}
 (h:(execOp a.eval o).run P w=.ok .skip w') (hn:next (a.put o.dst undef) w'):o.wp P a w next Q:=by
 unfold Oper.wp;rw[h];exact hn
theorem La(X:V)(v:Value):aA X (FO v) v:=by
 unfold FO;split
 .split
  .next h=>simp at h;exact⟨rfl,h.1,h.2⟩
  .trivial
 .rfl
 .split
  .next s h=>exact⟨rfl,by simpa using h⟩
  .trivial
 .rfl
 .trivial
theorem bH(h:Rel w0 M T γ st a w)(x:Operand):aA (ai w0 T γ st w) (st.ev x) (a.eval x):=by
 cases x with
 |tmp t=>exact h.tmps t
 |const v=>exact La _ v
 |global g=>trivial
 |func f=>exact⟨#[],rfl,trivial⟩
theorem eu(h:Rel w0 M T γ st a w){x:Operand}{c:Cell}(e:st.ev x=.sv (.one c)):ay (ai w0 T γ st w) c (a.eval x):=by have:=bH h x;rw[e]at this;exact this
theorem LX(h:Rel w0 M T γ st a w){x:Operand}{b:Bool}(e:st.ev x=.sv (.one (.bool b))):a.eval x=.bool b:=eu h e
theorem vM(h:Rel w0 M T γ st a w){x:Operand}{k:IntKind}{n:Int}(e:st.ev x=.sv (.one (.int k n))):a.eval x=.int k n/\k.min<=n/\n<=k.max:=eu h e
theorem ji(h:Rel w0 M T γ st a w){x:Operand}{n:Int}(e:jh (st.ev x)=some n):∃k,a.eval x=.int k n/\k.min<=n/\n<=k.max:=by
 unfold jh at e;split at e
 .next k m hx=>cases e;exact⟨k,vM h hx⟩
 .cases e
theorem oU(k:IntKind)(n:Int):k.min<=k.wrap n/\k.wrap n<=k.max:=by unfold IntKind.wrap IntKind.min IntKind.max;cases k<;>simp only[IntKind.signed,IntKind.bits]<;>simp<;>first|omega|(split<;>omega)
theorem Nk(k:IntKind)(x y:Int)(hx:k.min<=x/\x<=k.max):k.min<=x.tmod y/\x.tmod y<=k.max:=by
 have h0:k.min<=0/\0<=k.max:=by cases k<;>decide
 have h1:(x.tmod y).natAbs=x.natAbs%y.natAbs:=aaC x y;have h2:x.natAbs%y.natAbs<=x.natAbs:=Nat.mod_le _ _;rcases Int.le_total 0 x with hs|hs
 · grind [Int.tmod_nonneg]
 .have h3:x.tmod y<=0:=by
   have:=Int.tmod_nonneg y (show 0<=-x by omega)
   simp_all
  omega
theorem Nl(k:IntKind)(x:Int)(n:Nat)(hx:k.min<=x/\x<=k.max):k.min<=x.fdiv (2 ^ n)/\x.fdiv (2 ^ n)<=k.max:=by
 have h0:k.min<=0/\0<=k.max:=by cases k<;>decide
 have hm:(1:Int)<=2 ^ n:=Int.pow_pos (by omega);rw[Int.fdiv_eq_ediv_of_nonneg _ (by omega)];generalize (2:Int) ^ n=m at hm;have h1:=Int.mul_ediv_add_emod x m;have h2:=Int.emod_nonneg x (show m≠0 by omega);have h3:=Int.emod_lt_of_pos x (show 0<m by omega);generalize hq:x / m=q at*;rcases Int.le_total 0 x with hs|hs
 .have h4:0<=q:=by rw[← hq];exact Int.ediv_nonneg hs (by omega)
  have h5:1*q<=m*q:=ZV hm h4;omega
 .by_cases h4:q<=-1
  .have h5:m*(q+1)<=1*(q+1):=Int.mul_le_mul_of_nonpos_right hm (by omega)
   grind
  .have h5:1*q<=m*q:=ZV hm (by omega);omega
theorem uZ{op:BinOp}{t:TypeId}{x y:Operand}{k l:IntKind}{n m:Int}:(eqGuard op t x y (.int k n) (.int l m)).run P w=.ok () w:=by cases op<;>rfl
theorem Lc{op:BinOp}{t:TypeId}{x y:Operand}{s u:ByteArray}:(eqGuard op t x y (.string s) (.string u)).run P w=.ok () w:=by cases op<;>rfl
theorem yP{op:BinOp}{t:TypeId}{x y:Operand}{s u:Bool}:(eqGuard op t x y (.bool s) (.bool u)).run P w=.ok () w:=by cases op<;>rfl
theorem Np{op:BinOp}{k:IntKind}{x y:Int}{p:Prop}{c:Cell}{t:TypeId}(X:V)(h:vJ op k x y=some (p,c))(hp:p)(hx:k.min<=x/\x<=k.max):
 ∃u,(binOp op t (.int k x) (.int k y)).run P w=.ok u w/\ay X c u:=by
 cases op<;>simp only[vJ,Option.some.injEq,Prod.mk.injEq,reduceCtorEq]at h<;>obtain⟨rfl,rfl⟩:=h
 case quo=>refine⟨_,?_,rfl,oU _ _⟩;simp[binOp,Op.intDiv,hp,ZA]
 case rem=>refine⟨_,?_,rfl,Nk k x y hx⟩;simp[binOp,Op.intDiv,hp,ZA]
 all_goals first
  |exact⟨_,by simp[binOp,Op.intArith,Op.intBits,bitsOf,ZA],rfl,oU _ _⟩
  |exact⟨_,by simp[binOp,Op.intCmp,ZA],rfl⟩
theorem Nq{op:BinOp}{x y:Bytes}{p:Prop}{c:Cell}{t:TypeId}(X:V)(h:yJ op x y=some (p,c))(hp:p):
 ∃u,(binOp op t (.string ⟨x.toArray⟩) (.string ⟨y.toArray⟩)).run P w=.ok u w/\ay X c u:=by
 cases op<;>simp only[yJ,Option.some.injEq,Prod.mk.injEq,reduceCtorEq]at h<;>obtain⟨rfl,rfl⟩:=h
 case add=>
  refine⟨.string ⟨(x++y).toArray⟩,?_,rfl,by simpa using hp⟩;have h1:¬((((⟨x.toArray⟩:ByteArray).size+(⟨y.toArray⟩:ByteArray).size:Nat):Int)>IntKind.i64.max):=by
   have e:IntKind.i64.max=9223372036854775807:=rfl;unfold maxLen at hp;show ¬(((x.toArray.size+y.toArray.size:Nat):Int)>_)
   grind
  have h2:(⟨x.toArray⟩:ByteArray)++⟨y.toArray⟩=⟨(x++y).toArray⟩:=by apply ByteArray.ext;simp
  simp_all [binOp,Op.stringOp]
 all_goals exact⟨_,by simp[binOp,Op.stringOp,ZA],rfl⟩
theorem Ld{op:BinOp}{x y:Cell}{p:Prop}{c:Cell}{t:TypeId}{s u:Operand}{v v':Value}(X:V)(h:vK op x y=some (p,c))(hp:p)
 (hx:ay X x v) (hy:ay X y v') (hb:∀a b,x=.bool a->y=.bool b->P.underlying t=some .bool):
 ∃r,(do eqGuard op t s u v v';binOp op t v v').run P w=.ok r w/\ay X c r:=by
 cases x<;>cases y<;>simp only[vK,reduceCtorEq]at h
 case int.int k n l m=>
  obtain⟨rfl,hn⟩:=hx;obtain⟨rfl,hm⟩:=hy;have arith:∀hk:k=l,vJ op k n m=some (p,c)->∃r,(do eqGuard op t s u (.int k n) (.int l m);binOp op t (.int k n) (.int l m)).run P w=.ok r w/\ay X c r:=by
   intro hk h2;obtain⟨r,hr,hR⟩:=Np (P:=P) (w:=w) (t:=t) X h2 hp hn
   simp_all [uZ]
  cases op
  case shl=>obtain⟨rfl,rfl⟩:=h;refine⟨_,?_,rfl,oU _ _⟩;rw[Zj,uZ];simp[binOp,Op.shift,show ¬m<0 by omega,ZA]
  case shr=>obtain⟨rfl,rfl⟩:=h;refine⟨_,?_,rfl,Nl _ _ _ hn⟩;rw[Zj,uZ];simp[binOp,Op.shift,show ¬m<0 by omega,ZA]
  all_goals
   dsimp only at h;split at h
   .next hk=>exact arith (ZK hk) h
   .cases h
 case bool.bool a b=>
  have e1:v=.bool a:=hx;have e2:v'=.bool b:=hy;subst e1 e2;have hu:=hb a b rfl rfl;have he:(Op.equal t (.bool a) (.bool b)).run P w=.ok (a==b) w:=run_equal_bool w t a b hu;cases op<;>simp only[Option.some.injEq,Prod.mk.injEq,reduceCtorEq]at h<;>obtain⟨_,rfl⟩:=h
  .refine⟨_,?_,rfl⟩;rw[Zj,yP];simp[binOp,he]
  .refine⟨_,?_,rfl⟩;rw[Zj,yP];simp[binOp,he]
 case str.str x y=>
  obtain⟨rfl,hn⟩:=hx;obtain⟨rfl,hm⟩:=hy;obtain⟨r,hr,hR⟩:=Nq (P:=P) (w:=w) (t:=t) X h hp
  simp_all [Lc]
end Go.Fw
namespace Go.Fw
open Go
def CT.FT:CT->Value
 |.int k=>.int k 0
 |.bool=>.bool false
 |.str=>.string ⟨#[]⟩
 |.sl _ _=>.slice none 0 0
def aj.fG:aj->List Value
 |.nil=>[]
 |.cons c r=>c.FT::r.fG
def aj.desc:aj->Option TypeDesc
 |.cons (.int k) .nil=>some (.int k)
 |.cons .bool .nil=>some .bool
 |.cons .str .nil=>some .string
 |.cons (.sl e _) .nil=>some (.slice e)
 |_=>none
structure dG(P:Program)(t:TypeId)(ti:TI):Prop where
 info:∃i z,P.info? t=some i/\i.size=ti.cells.len/\i.bytes=ti.bytes/\i.zero=some z/\z.cells.toList=ti.cells.fG/\(ti.agg=false->z.cells=#[z])
 und:match ti.kind with
  |.scalar=>∃d,ti.cells.desc=some d/\P.underlying t=some d
  |.str=>P.underlying t=some .string/\ti.cells=.cons .str .nil
  |.slice e=>P.underlying t=some (.slice e)/\∃r,ti.cells=.cons (.sl e r) .nil
  |.struct fs=>∃lJ:Array Field,P.underlying t=some (.struct lJ)/\(fs=lJ.toList.map λf=>(f.offset,f.type))/\∀f∈lJ.toList,(P.info? f.type).isSome=true
 small:ti.bytes<=4096
 cmp:ti.cmp=true->∀(w:World)(s u:Operand)(X:V)(xs ys:List Cell)(vs us:Array Value)(b:Bool),ti.cells.fits xs=true->ah X xs vs.toList->ah X ys us.toList->dh xs ys=some b->
  (do eqGuard .eql t s u (.agg vs) (.agg us);binOp .eql t (.agg vs) (.agg us)).run P w=.ok (.bool b) w/\
  (do eqGuard .neq t s u (.agg vs) (.agg us);binOp .neq t (.agg vs) (.agg us)).run P w=.ok (.bool (!b)) w
variable {P:Program} {w0:World} {M:Nat->Prop} {T:Ext} {γ γ':Nat->Value} {st:St} {a:Act} {w w':World} {Θ:bJ}
theorem dG.size{t:TypeId}{ti:TI}(h:dG P t ti):(P.info? t).map (·.size)=some ti.cells.len:=by
 obtain⟨i,z,hi,hs,_⟩:=h.info
 grind
theorem dG.run_sizeOf{t:TypeId}{ti:TI}(h:dG P t ti)(w:World):(sizeOf t).run P w=.ok ti.cells.len w:=by obtain⟨i,z,hi,hs,_⟩:=h.info;simp[sizeOf,typeInfo,hi,hs]
theorem dG.yQ{t:TypeId}{ti:TI}(h:dG P t ti)(w:World):(isAgg t).run P w=.ok ti.agg w:=by
 have hu:=h.und;unfold TI.agg;unfold isAgg;split at hu
 .next hk=>obtain⟨d,hd,hu⟩:=hu;rw[hk,Zj,Zb hu w];unfold aj.desc at hd;split at hd<;>first|(cases hd;rfl)|cases hd
 · simp_all [Zb]
 · simp_all [Zb]
 .next fs hk=>
  obtain⟨lJ,hu,_,_⟩:=hu
  simp_all [Zb]
theorem zZ(X:V)(fr:Bool):∀(r:aj)(vs:List Value)(x:r.den),aC X.w.heap (X.aH fr) r vs x->ah X (aj.row fr r x) vs
 |.nil,vs,_,h=>by subst h;trivial
 |.cons c r,vs,(x,y),h=>by
  obtain⟨v,vs',rfl,h1,h2⟩:=h;refine⟨?_,zZ X fr r vs' y h2⟩;cases c with
  |int k=>exact h1
  |bool=>exact h1
  |str=>exact h1
  |sl e r=>exact h1
theorem wP{b off:Nat}{cs:Array Value}{t:TypeId}{fz:Nat×Nat}(h:w.heap[b]? =some (.cells cs t fz))(n:Nat):
 w.rangeAt b off ((cs.toList.drop off).take n):=by
 intro j v hj
 grind [World.cell?]
theorem qy{t:TypeId}{ti:TI}(hT:dG P t ti)(X:V){b off k:Nat}{cs:Array Value}{e:TypeId}{fz:Nat×Nat}
 (hb:w.heap[b]? =some (.cells cs e fz)) {ds:List Cell} {n:Nat} (hr:ah X ds ((cs.toList.drop off).take n)) {v:SV} (hv:dF ti ds k=some v):
 ∃u,(Instr.loadAt t (.pointer (some ⟨b,off+k,none⟩))).run P w=.ok u w/\aP X v u:=by
 unfold dF at hv;have hlen:=ah.length _ _ hr;split at hv
 .next hagg=>
  split at hv
  .next hle=>
   cases hv;have hle:k+ti.cells.len<=ds.length:=Zx hle;have hu:=hT.und;unfold TI.agg at hagg;split at hagg
   .next fs hk=>
    rw[hk]at hu;obtain⟨lJ,hu,_,_⟩:=hu;have hsub:(((cs.toList.drop off).take n).drop k).take ti.cells.len=(cs.toList.drop (off+k)).take ti.cells.len:=by
     grind [bg,List.drop_drop]
    have hl:((cs.toList.drop (off+k)).take ti.cells.len).length=ti.cells.len:=by
     grind
    refine⟨.agg ((cs.toList.drop (off+k)).take ti.cells.len).toArray,?_,_,rfl,?_⟩
    .exact run_loadAt_mid w b (off+k) t _ _ (wP hb _) hu rfl (by rw[hT.size,hl])
    grind [ah.take,ah.drop]
   .cases hagg
  .cases hv
 .next hagg=>
  split at hv
  .next c hc=>
   cases hv;obtain⟨u,hu,hR⟩:=ah.get _ _ k c hr hc;refine⟨u,?_,hR⟩;have hcell:w.cell? ⟨b,off+k,none⟩=some u:=by
    grind [World.cell?]
   simp only[Instr.loadAt,Instr.sureAddr,Zj,ZA,Zz,loadVar,hT.yQ,hagg,aav,if_false]
   simp_all
  .cases hv
end Go.Fw
namespace Go.Fw
open Go
def aj.takeC:Nat->aj->aj
 |0,_=>.nil
 |_+1,.nil=>.nil
 |n+1,.cons c r=>.cons c (r.takeC n)
def aj.DI:Nat->aj->aj
 |0,r=>r
 |_+1,.nil=>.nil
 |n+1,.cons _ r=>r.DI n
def oV(P:Program)(rec:TypeId->aj->Bool):List Field->Nat->aj->Bool
 |[],_,cs=>match cs with|.nil=>true|_=>false
 |f::fs,off,cs=>!(f.name== "_")&&(Nat.beq f.offset off&&(match P.info? f.type with
  |some i=>Nat.ble i.size cs.len&&(rec f.type (cs.takeC i.size)&&oV P rec fs (off+i.size) (cs.DI i.size))
  |none=>false))
def Nr(P:Program):Nat->TypeId->aj->Bool
 |0,_,_=>false
 |n+1,t,cs=>match P.underlying t with
  |some (.int k)=>match cs with|.cons (.int l) .nil=>decide (k=l)|_=>false
  |some .bool=>match cs with|.cons .bool .nil=>true|_=>false
  |some .string=>match cs with|.cons .str .nil=>true|_=>false
  |some (.struct fs)=>!P.stoodInHeld t&&oV P (Nr P n) fs.toList 0 cs
  |_=>false
variable {P:Program}
theorem GU:∀(n:Nat)(cs:aj)(xs:List Cell),cs.fits xs=true->(cs.takeC n).fits (xs.take n)=true/\(cs.DI n).fits (xs.drop n)=true
 |0,cs,xs,h=>⟨by simp[aj.takeC,aj.fits],by grind [aj.DI]⟩
 |n+1,.nil,[],h=>⟨rfl,rfl⟩
 |n+1,.cons c r,x::xs,h=>by
  rw[aj.fits,YZ]at h;have ih:=GU n r xs h.2;exact⟨by rw[aj.takeC,Z8,aj.fits,h.1,ih.1];rfl,ih.2⟩
 |n+1,.nil,_::_,h|n+1,.cons _ _,[],h=>by simp[aj.fits]at h
theorem BR{X:V}:∀(n:Nat)(xs:List Cell)(vs:List Value),ah X xs vs->ah X (xs.take n) (vs.take n)/\ah X (xs.drop n) (vs.drop n)
 |0,xs,vs,h=>⟨by simp[ah],by simpa using h⟩
 |n+1,[],[],h=>by simp[ah]
 |n+1,x::xs,v::vs,h=>by
  have ih:=BR n xs vs h.2;exact⟨⟨h.1,ih.1⟩,ih.2⟩
 |n+1,[],_::_,h|n+1,_::_,[],h=>by cases h
theorem yR:∀(n:Nat)(xs ys:List Cell)(b:Bool),dh xs ys=some b->∃b1 b2,dh (xs.take n) (ys.take n)=some b1/\dh (xs.drop n) (ys.drop n)=some b2/\b=(b1&&b2)
 |0,xs,ys,b,h=>⟨true,b,rfl,by simpa using h,by simp⟩
 |n+1,[],[],b,h=>by grind
 |n+1,x::xs,y::ys,b,h=>by
  rw[dh]at h;split at h
  .next a c h1 h2=>
   obtain⟨b1,b2,e1,e2,rfl⟩:=yR n xs ys c h2
   grind [dh]
  .cases h
 |n+1,[],_::_,b,h|n+1,_::_,[],b,h=>by simp[dh]at h
theorem vg:∀(cs:aj)(xs:List Cell),cs.fits xs=true->xs.length=cs.len
 |.nil,[],_=>rfl
 |.cons c r,x::xs,h=>by
  rw[aj.fits,YZ]at h;rw[Y0,aj.len,vg r xs h.2]
 |.nil,_::_,h|.cons _ _,[],h=>by simp[aj.fits]at h
theorem wQ{X:V}:∀(xs:List Cell)(vs:List Value),ah X xs vs->vs.length=xs.length
 |[],[],_=>rfl
 |_::xs,_::vs,h=>by rw[Y0,Y0,wQ xs vs h.2]
 |[],_::_,h|_::_,[],h=>by cases h
theorem vN:∀(xs ys:List Cell)(b:Bool),dh xs ys=some b->ys.length=xs.length
 |[],[],_,_=>rfl
 |x::xs,y::ys,b,h=>by
  rw[dh]at h;split at h
  .next a c h1 h2=>rw[Y0,Y0,vN xs ys c h2]
  .cases h
 |[],_::_,_,h|_::_,[],_,h=>by simp[dh]at h
def Sv(P:Program)(d:Nat)(t:TypeId)(vs us:List Value)(b:Bool)(w:World):Prop:=
 ((∃fs,P.underlying t=some (.struct fs))/\(Op.equalIn d t (.agg vs.toArray) (.agg us.toArray)).run P w=.ok b w)\/
 ((∀w,(isAgg t).run P w=.ok false w)/\∃v u,vs=[v]/\us=[u]/\(Op.equalIn d t v u).run P w=.ok b w)
theorem DJ{d:Nat}{rec:TypeId->aj->Bool}{X:V}(w:World)
 (hrec:∀t cs,rec t cs=true->∀(xs ys:List Cell)(vs us:List Value)(b:Bool),cs.fits xs=true->ah X xs vs->ah X ys us->dh xs ys=some b->Sv P d t vs us b w):
 ∀(fs:List Field)(off:Nat)(cs:aj)(pv pu:List Value)(xs ys:List Cell)(vs us:List Value)(b:Bool),oV P rec fs off cs=true->pv.length=off->pu.length=off->cs.fits xs=true->ah X xs vs->ah X ys us->dh xs ys=some b->
  (Op.eqFields d (pv++vs).toArray (pu++us).toArray fs).run P w=.ok b w
 |[],off,cs,pv,pu,xs,ys,vs,us,b,h,_,_,hf,hx,hy,he=>by
  cases cs with
  |nil=>cases xs with
   |nil=>
    cases ys with
    |nil=>cases he;rfl
    |cons=>grind [dh]
   |cons=>grind [aj.fits]
  |cons=>simp[oV]at h
 |f::fs,off,cs,pv,pu,xs,ys,vs,us,b,h,hpv,hpu,hf,hx,hy,he=>by
  rw[oV,YZ,YZ]at h;obtain⟨hn,ho,h⟩:=h;have ho:=YX ho;split at h
  .next i hi=>
   rw[YZ,YZ]at h;obtain⟨hle,hr,h⟩:=h;obtain⟨b1,b2,e1,e2,rfl⟩:=yR i.size xs ys b he;have f1:=GU i.size cs xs hf;have x1:=BR i.size xs vs hx;have y1:=BR i.size ys us hy;have hname:f.name≠ "_" :=by simpa using hn
   have lv:vs.length=cs.len:=by rw[wQ _ _ hx,vg _ _ hf]
   have lu:us.length=cs.len:=by rw[wQ _ _ hy,vN _ _ _ he,vg _ _ hf]
   have WT:=hrec f.type _ hr _ _ _ _ b1 f1.1 x1.1 y1.1 e1;have rest:(Op.eqFields d (pv++vs).toArray (pu++us).toArray fs).run P w=.ok b2 w:=by
    have:=DJ w hrec fs (off+i.size) (cs.DI i.size) (pv++vs.take i.size) (pu++us.take i.size) _ _ _ _ b2 h (by simp_all) (by simp_all) f1.2 x1.2 y1.2 e2
    simp_all
   have hsz:∀w,(sizeOf f.type).run P w=.ok i.size w:=λw=>by simp[sizeOf,typeInfo,hi]
   have key:∃a c,(part f.type (pv++vs).toArray f.offset).run P w=.ok a w/\(part f.type (pu++us).toArray f.offset).run P w=.ok c w/\(Op.equalIn d f.type a c).run P w=.ok b1 w:=by
    rcases WT with⟨⟨fl,hu⟩,hrun⟩|⟨hag,v,u,hv,hu,hrun⟩
    · simp_all [isAgg,Zb,part]
    .have g1:(pv++vs).toArray[f.offset]? =some v:=by
      have:(vs.take i.size)[0]? =some v:=by rw[hv];rfl
      grind
     have g2:(pu++us).toArray[f.offset]? =some u:=by
      have:(us.take i.size)[0]? =some u:=by rw[hu];rfl
      grind
     simp_all [part]
   obtain⟨a,c,k1,k2,k3⟩:=key;rw[Op.eqFields];rw[if_pos hname,Zj,k1,Zz,Zj,k2,Zz,Zj,k3,Zz];cases b1 with
   |true=>grind
   |false=>simp
  .cases h
theorem one_cell{X:V}{c:CT}{xs ys:List Cell}{vs us:List Value}{b:Bool}(hf:(aj.cons c .nil).fits xs=true)(hx:ah X xs vs)(hy:ah X ys us)(he:dh xs ys=some b):
 ∃x y v u,vs=[v]/\us=[u]/\c.fits x=true/\ay X x v/\ay X y u/\yK x y=some b:=by
 cases xs with
 |nil=>grind [aj.fits]
 |cons x xs=>
  rw[aj.fits,YZ]at hf;cases xs with
  |cons=>grind [aj.fits]
  |nil=>
   cases ys with
   |nil=>grind [dh]
   |cons y ys=>
    cases ys with
    |cons=>grind [dh]
    |nil=>
     cases vs with
     |nil=>cases hx
     |cons v vs=>
      cases us with
      |nil=>cases hy
      |cons u us=>
       cases vs with
       |cons=>cases hx.2
       |nil=>
        cases us with
        |cons=>cases hy.2
        |nil=>
         refine⟨x,y,v,u,rfl,rfl,hf.1,hx.1,hy.1,?_⟩;rw[dh]at he;split at he
         .next a c h1 h2=>cases h2;grind
         .cases he
theorem OZ{X:V}(w:World):∀(n:Nat)(t:TypeId)(cs:aj),Nr P n t cs=true->∀(d:Nat),n<=d->∀(xs ys:List Cell)(vs us:List Value)(b:Bool),cs.fits xs=true->ah X xs vs->ah X ys us->dh xs ys=some b->Sv P d t vs us b w
 |0,t,cs,h,_,_,_,_,_,_,_,_,_,_,_=>by cases h
 |n+1,t,cs,h,0,hd,_,_,_,_,_,_,_,_,_=>by omega
 |n+1,t,cs,h,d+1,hd,xs,ys,vs,us,b,hf,hx,hy,he=>by
  unfold Nr at h;split at h
  .next k hu=>
   split at h
   .next l=>
    obtain⟨x,y,v,u,rfl,rfl,hc,h1,h2,h3⟩:=one_cell hf hx hy he;refine .inr ⟨λw=>by simp_all [isAgg,Zb],v,u,rfl,rfl,?_⟩;cases x<;>simp[CT.fits]at hc;cases y<;>simp only[yK,reduceCtorEq]at h3
    next k2 a k3 c=>
    split at h3
    .next hkk=>
     rw[h1.1,h2.1]
     grind [run_equalIn_int]
    .cases h3
   .cases h
  .next hu=>
   split at h
   .obtain⟨x,y,v,u,rfl,rfl,hc,h1,h2,h3⟩:=one_cell hf hx hy he;refine .inr ⟨λw=>by simp_all [isAgg,Zb],v,u,rfl,rfl,?_⟩;cases x<;>simp[CT.fits]at hc;cases y<;>simp[yK]at h3
    next a c=>
    have h1:v=.bool a:=h1;have h2:u=.bool c:=h2
    grind [run_equalIn_bool]
   .cases h
  .next hu=>
   split at h
   .obtain⟨x,y,v,u,rfl,rfl,hc,h1,h2,h3⟩:=one_cell hf hx hy he;refine .inr ⟨λw=>by simp_all [isAgg,Zb],v,u,rfl,rfl,?_⟩;cases x<;>simp[CT.fits]at hc;cases y<;>simp[yK]at h3
    next a c=>
    rw[h1.1,h2.1,run_equalIn_string w d t _ _ hu]
    simp_all
   .cases h
  .next fs hu=>
   rw[YZ]at h;have hp:P.stoodInHeld t=false:=by simpa using h.1
   have hfs:P.fieldsOf t=fs:=by grind [Program.fieldsOf]
   refine .inl ⟨⟨fs,hu⟩,?_⟩;rw[run_equalIn_struct w d t _ _ (by grind) hp,hfs];have:=DJ (X:=X) (d:=d) w (λt cs hr xs ys vs us b=>OZ w n t cs hr d (by omega) xs ys vs us b) fs.toList 0 cs [] [] xs ys vs us b h.2 rfl rfl hf hx hy he
   grind
  .cases h
def Ns(P:Program)(t:TypeId)(cs:aj):Bool:=Nr P 20 t cs&&(!P.eqGuardType P.depth t&&(match P.underlying t with|some (.struct _)=>true|_=>false))
theorem TD{t:TypeId}{cs:aj}(h:Ns P t cs=true)(w:World)(s u:Operand)(X:V)(xs ys:List Cell)(vs us:Array Value)(b:Bool)(hf:cs.fits xs=true)(hx:ah X xs vs.toList)(hy:ah X ys us.toList)(he:dh xs ys=some b):
 (do eqGuard .eql t s u (.agg vs) (.agg us);binOp .eql t (.agg vs) (.agg us)).run P w=.ok (.bool b) w/\
 (do eqGuard .neq t s u (.agg vs) (.agg us);binOp .neq t (.agg vs) (.agg us)).run P w=.ok (.bool (!b)) w:=by
 unfold Ns at h;rw[YZ,YZ]at h;obtain⟨h1,h2,h3⟩:=h;have hrun:(Op.equalIn 10000 t (.agg vs) (.agg us)).run P w=.ok b w:=by
  rcases OZ w 20 t cs h1 10000 (by omega) xs ys vs.toList us.toList b hf hx hy he with⟨_,h⟩|⟨hag,_⟩
  .simpa using h
  .split at h3
   · simp_all [isAgg,Zb]
   .cases h3
 grind [Sem.run_bind,run_eqGuard_agg,Result.andThen_ok,run_eql_struct,run_neq_struct]
end Go.Fw
namespace Go.Fw
open Go
variable {P:Program} {w0:World} {M:Nat->Prop} {T:Ext} {γ γ':Nat->Value} {st:St} {a:Act} {w w':World} {Θ:bJ}
theorem Ux{s:Sem Value}{u:Value}(h:s.run P w=.ok u w'):(do pure (Next.value (← s)):Sem Next).run P w=.ok (.value u) w':=by simp[h]
theorem uy(hΘ:∀t ti,Θ t=some ti->dG P t ti)(h:Rel w0 M T γ st a w){t:TypeId}{ti:TI}(ht:Θ t=some ti){x:Operand}{v:SV}:
 ((∃o off cs,st.ev x=.bF o off/\st.af o=some (.var cs)/\dF ti cs off=some v)\/
  (∃o i off e r l fr,st.ev x=.dV o i off/\st.af o=some (.arr e r l fr)/\i<l.length/\dF ti (aj.row fr r (l.getD i r.dflt)) off=some v)\/
  (∃r y off fr,st.ev x=.fZ r y off fr/\dF ti (aj.row fr r y) off=some v))->
 ∃u,(Instr.loadAt t (a.eval x)).run P w=.ok u w/\aP (ai w0 T γ st w) v u:=by
 have hx:=bH h x;rintro(⟨o,off,cs,e,ho,hv⟩|⟨o,i,off,e',r,l,fr,e,ho,hi,hv⟩|⟨r,y,off,fr,e,hv⟩)
 .rw[e]at hx;obtain⟨b,cs',_,hγ,hx⟩:=hx;obtain⟨b',arr,ty,GV,hb,hr⟩:=h.af o _ ho;have hr':ah (ai w0 T γ st w) cs ((arr.toList.drop 0).take arr.size):=by grind [List.take_of_length_le]
  grind [qy]
 .rw[e]at hx;obtain⟨b,n,cap,e2,r2,l2,Uy,ho2,hγ,hx⟩:=hx;have Ji:st.af o=some (.arr e2 r2 l2 Uy):=ho2;rw[ho]at Ji;cases Ji;obtain⟨xs,⟨h1,h2⟩,hpos,_,hrow⟩:=h.af o _ ho;rcases h2 with⟨hnil,_⟩|⟨g,cap',cur,hg,_,hh,hle,_,hsz,htake⟩
  .omega
  .have Jj:γ o=.slice (some ⟨b,0,none⟩) n cap:=hγ;have lY:γ o=.slice (some ⟨g,0,none⟩) l.length cap':=hg;rw[Jj]at lY;obtain⟨rfl,-,-⟩:=lY;rw[hx];have hmul:i*r.len+r.len<=l.length*r.len:=by
    have:(i+1)*r.len<=l.length*r.len:=Y3 _ hi
    grind
   have O0:l[i]? =some (l.getD i r.dflt):=by grind
   have hR:=hrow i _ O0;rw[← htake,bg _ _ _ _ hmul]at hR;exact qy (hΘ t ti ht) (ai w0 T γ st w) hh (zZ _ fr r _ _ hR) hv
 .rw[e]at hx;obtain⟨b,base,cs,ty,fz,hx,hf,hb,hR⟩:=hx;rw[hx];exact qy (hΘ t ti ht) (ai w0 T γ st w) hb (zZ _ fr r _ _ hR) hv
theorem addr_add(b o k:Nat):(⟨b,o,none⟩:Addr).add k=⟨b,o+k,none⟩:=Addr.add_mid b o k
theorem qA(hΘ:∀t ti,Θ t=some ti->dG P t ti){s:TypeId}{ti te:TI}(hs:Θ s=some ti){fs:List (Nat×TypeId)}(hk:ti.kind=.struct fs){f k:Nat}{t:TypeId}(hf:fs[f]? =some (k,t))
 (ht:Θ t=some te) (hne:te.cells≠ .nil) (b o:Nat):(Instr.fieldAt s (.pointer (some ⟨b,o,none⟩)) f).run P w=.ok (.pointer (some ⟨b,o+k,none⟩)) w:=by
 have hu:=(hΘ s ti hs).und;rw[hk]at hu;obtain⟨lJ,hu,rfl,_⟩:=hu;rw[ZR]at hf;cases hfl:lJ.toList[f]? with
 |none=>grind
 |some fl=>
  rw[hfl]at hf;obtain⟨rfl,rfl⟩:=hf;have FU:lJ[f]? =some fl:=by simpa using hfl
  have hsz:te.cells.len≠0:=by
   cases hc:te.cells with
   |nil=>grind
   |cons c r=>simp[aj.len]
  simp[Instr.fieldAt,Instr.sureAddr,Zj,Zb hu w,FU,fieldPlace,(hΘ _ te ht).run_sizeOf,hsz,addr_add]
theorem run_indexAt(hΘ:∀t ti,Θ t=some ti->dG P t ti){t e:TypeId}{ti te:TI}(ht:Θ t=some ti)(hk:ti.kind=.slice e)(he:Θ e=some te)(b o len cap:Nat)(k:IntKind)(n:Int)(h0:0<=n)(hn:n<len):
 (Instr.indexAt t (.slice (some ⟨b,o,none⟩) len cap) (.int k n)).run P w=.ok (.pointer (some ⟨b,o+n.toNat*te.cells.len,none⟩)) w:=by
 have hu:=(hΘ t ti ht).und;rw[hk]at hu;simp[Instr.indexAt,asIntOf,Zj,Zb hu.1 w,h0,hn,(hΘ e te he).run_sizeOf,addr_add]
theorem Qv{X:V}{e:TypeId}{r:aj}{l:List r.den}{fr:Bool}{v:Value}(h:ay X (.sl e r l fr) v){i:Nat}(hi:i<l.length):
 ∃b off cap,v=.slice (some ⟨b,off,none⟩) l.length cap/\aA X (.fZ r (l.getD i r.dflt) 0 fr) (.pointer (some ⟨b,off+i*r.len,none⟩)):=by
 rcases h.2 with⟨hl,_⟩|⟨b,off,cap,cs,t,fz,hv,_,hS,hb,hx⟩
 · grind
 .have O0:l[i]? =some (l.getD i r.dflt):=by grind
  exact⟨b,off,cap,hv,b,off+i*r.len,cs,t,fz,rfl,hS,hb,hx i _ O0⟩
theorem Le(hΘ:∀t ti,Θ t=some ti->dG P t ti){t:TypeId}{ti:TI}(ht:Θ t=some ti)(hk:ti.kind=.str)(s:ByteArray)(ty:TypeId):
 (Builtin.len_ #[t] ty #[.string s]).run P w=.ok (.int .i64 s.size) w:=by
 have hu:=(hΘ t ti ht).und
 simp_all [Builtin.len_,Zb,goInt]
theorem run_len_slice(hΘ:∀t ti,Θ t=some ti->dG P t ti){t e:TypeId}{ti:TI}(ht:Θ t=some ti)(hk:ti.kind=.slice e)(a:Option Addr)(n c:Nat)(ty:TypeId):
 (Builtin.len_ #[t] ty #[.slice a n c]).run P w=.ok (.int .i64 n) w:=by
 have hu:=(hΘ t ti ht).und
 simp_all [Builtin.len_,Zb,goInt]
theorem size_bytes(s:Bytes):(⟨s.toArray⟩:ByteArray).size=s.length:=by show s.toArray.size=_;simp
theorem Jk{X:V}{e:TypeId}{r:aj}{l:List r.den}{fr:Bool}{v:Value}(h:ay X (.sl e r l fr) v):∃a c,v=.slice a l.length c/\l.length<=maxLen:=by
 rcases h.2 with⟨hl,a,c,hv⟩|⟨b,off,cap,cs,t,fz,hv,_⟩
 · grind
 .exact⟨_,cap,hv,h.1⟩
theorem TF(h:Rel w0 M T γ st a w){o:Nat}{v:Value}(hc:ay (ai w0 T γ st w) (.ref o) v){e:TypeId}{r:aj}{l:List r.den}{fr:Bool}(ho:st.af o=some (.arr e r l fr)):
 ∃a c,v=.slice a l.length c/\l.length<=maxLen:=by
 obtain⟨_,hv,_⟩:=hc;obtain⟨xs,⟨_,h2⟩,_⟩:=h.af o _ ho
 grind
theorem Aa(n:Nat)(h:n<=maxLen):IntKind.i64.min<=(n:Int)/\(n:Int)<=IntKind.i64.max:=by unfold maxLen at h;have e1:IntKind.i64.min=-9223372036854775808:=rfl;have e2:IntKind.i64.max=9223372036854775807:=rfl;omega
theorem run_sliceBound{k:IntKind}{n:Int}{y:Nat}{c:BoundsCode}(h0:0<=n)(h1:n<=y):(Instr.sliceBound (.int k n) y c).run P w=.ok n.toNat w:=by simp[Instr.sliceBound,asIntOf,h0,h1]
theorem iJ(h:Rel w0 M T γ st a w){len cap:Nat}(hcap:len<=cap){lo hi:Option Operand}{p:Prop}{x y:Nat}(hb:dN st len lo hi=some (p,x,y))(hp:p)(sl:Bool):
 (Instr.sliceBounds sl len cap (lo.map a.eval) (hi.map a.eval) none).run P w=.ok (x,y,cap) w/\x<=y/\y<=len:=by
 unfold dN at hb;split at hb
 .cases hb
  simp_all [Instr.sliceBounds]
 .next l=>
  split at hb
  .next n hn=>
   cases hb;obtain⟨k,hk,_⟩:=ji h hn
   simp_all [Instr.sliceBounds,run_sliceBound]
  .cases hb
 .next hh=>
  split at hb
  .next n hn=>cases hb;obtain⟨k,hk,_⟩:=ji h hn;refine⟨?_,by omega,by omega⟩;simp only[Instr.sliceBounds,aaD,ZW,hk,Zj,ZA,Zz];rw[run_sliceBound hp.1 (by omega)];simp
  .cases hb
 .next l hh=>
  split at hb
  .next n m hn hm=>
   obtain⟨k,hk,_⟩:=ji h hn;obtain⟨k',hk',_⟩:=ji h hm;simp only[Instr.sliceBounds,aaD,hk,hk',Zj,ZA,Zz]
   grind [run_sliceBound,Result.andThen_ok]
  .cases hb
theorem Iw(s:Bytes)(x y:Nat):(⟨s.toArray⟩:ByteArray).extract x y=⟨((s.take y).drop x).toArray⟩:=by apply ByteArray.ext;simp[List.drop_take]
theorem TG{X:V}{e:TypeId}{r:aj}{l:List r.den}{fr:Bool}{ad:Option Addr}{n c:Nat}(h:ay X (.sl e r l fr) (.slice ad n c)){x y:Nat}(hxy:x<=y)(hy:y<=l.length):
 ay X (.sl e r ((l.take y).drop x) fr) (.slice (if c=x then ad else ad.map (·.add (x*r.len))) (y-x) (c-x)):=by
 have hlen:((l.take y).drop x).length=y-x:=by simp;omega
 refine⟨by exact Y9 (by omega) h.1,?_⟩;by_cases hne:y=x
 · simp_all
 .rcases h.2 with⟨hl,_⟩|⟨b,off,cap,cs,t,fz,hv,hc,hS,hb,hx⟩
  · grind
  .simp only[Value.slice.injEq]at hv;refine .inr ⟨b,off+x*r.len,c-x,cs,t,fz,?_,by omega,hS,hb,λi z hi=>?_⟩
   · grind [addr_add]
   grind
def upd(γ:Nat->Value)(o:Nat)(v:Value):Nat->Value:=λp=>match Nat.beq p o with|true=>v|false=>γ p
theorem upd_same(γ:Nat->Value)(o:Nat)(v:Value):upd γ o v o=v:=by simp[upd,ZH]
theorem qJ{p o:Nat}(h:p≠o):Nat.beq p o=false:=by
 grind [Nat.eq_of_beq_eq_true]
theorem fQ(γ:Nat->Value){o p:Nat}(v:Value)(h:p≠o):upd γ o v p=γ p:=by simp[upd,qJ h]
theorem add_same(st:St)(o:Nat)(x:ak):(st.add o x).af o=some x:=by simp[St.add,ZH]
theorem eF(st:St){o p:Nat}(x:ak)(h:p≠o):(st.add o x).af p=st.af p:=by simp[St.add,qJ h]
theorem heap_alloc_old(w:World)(x:Obj){b:Nat}(h:b<w.heap.size):(w.alloc x).heap[b]? =w.heap[b]? :=by
 show(w.heap.push x)[b]? =_
 grind
theorem nV(w:World)(x:Obj):(w.alloc x).heap[w.heap.size]? =some x:=by
 show(w.heap.push x)[w.heap.size]? =_
 grind
theorem Rel.alloc1(h:Rel w0 M T γ st a w)(o:Nat)(x:ak)(hnew:st.af o=none)(h48:∀cs,x=.var cs->o%64≠48)(arr:Array Value)(t:TypeId)(v:Value)(hv:blk v=some w.heap.size)
 (hx:(ai w0 T γ st w).le ⟨w.alloc (.cells arr t),w0.heap.size,T,upd γ o v,(st.add o x).af⟩->aB ⟨w.alloc (.cells arr t),w0.heap.size,T,upd γ o v,(st.add o x).af⟩ o x):
 Rel w0 M T (upd γ o v) (st.add o x) a (w.alloc (.cells arr t))/\(ai w0 T γ st w).le ⟨w.alloc (.cells arr t),w0.heap.size,T,upd γ o v,(st.add o x).af⟩:=by
 have hA:∀p y,st.af p=some y->(st.add o x).af p=some y:=by
  grind [eF]
 have hγ:∀p y,st.af p=some y->upd γ o v p=γ p:=by
  grind [fQ]
 have hsize:(w.alloc (.cells arr t)).heap.size=w.heap.size+1:=by
  simp_all
 have le:(ai w0 T γ st w).le ⟨w.alloc (.cells arr t),w0.heap.size,T,upd γ o v,(st.add o x).af⟩:=by
  refine⟨Zg _,λb hb=>⟨⟨?_,hb.2.1,λp y hp=>?_⟩,heap_alloc_old w _ hb.1⟩,λp cs hp=>⟨⟨cs,hA p _ hp⟩,hγ p _ hp⟩,λp e r l fr hp=>⟨⟨l,fr,hA p _ hp⟩,hγ p _ hp⟩⟩
  .show b<(w.alloc (.cells arr t)).heap.size;have:b<w.heap.size:=hb.1;omega
  .show blk (upd γ o v p)≠some b;by_cases e:p=o
   .rw[e,upd_same,hv];have:b<w.heap.size:=hb.1
    grind
   .rw[fQ γ v e];have hp':(st.add o x).af p=some y:=hp;rw[eF st x e]at hp';exact hb.2.2 p y hp'
 refine⟨(h.grown (γ':=upd γ o v) (w':=w.alloc (.cells arr t)) (st.add o x).af hA hγ rfl rfl rfl (by omega) (λb hb=>heap_alloc_old w _ hb) ?_ ?_ ?_).1,le⟩
 · grind [add_same,upd_same,eF]
 .intro p cs hp hn;by_cases e:p=o
  .subst e;rw[add_same]at hp;cases hN:T.N p with
   |none=>rfl
   |some v'=>exact(h48 cs (Option.some.inj hp) (T.n48 p v' hN)).elim
  grind [eF]
 grind [eF]
theorem Rel.Jl(h:Rel w0 M T γ st a w)(o:Nat)(cs:List Cell)(hnew:st.af o=none)(h48:o%64≠48)(arr:Array Value)(t:TypeId)(hr:ah (ai w0 T γ st w) cs arr.toList):
 Rel w0 M T (upd γ o (.pointer (some ⟨w.heap.size,0,none⟩))) (st.add o (.var cs)) a (w.alloc (.cells arr t))/\
 aA (ai w0 T (upd γ o (.pointer (some ⟨w.heap.size,0,none⟩))) (st.add o (.var cs)) (w.alloc (.cells arr t))) (.bF o 0) (.pointer (some ⟨w.heap.size,0,none⟩)):=by
 refine⟨(h.alloc1 o (.var cs) hnew (λ_ _=>h48) arr t _ rfl λle=>?_).1,w.heap.size,cs,add_same _ _ _,upd_same _ _ _,rfl⟩;exact⟨w.heap.size,arr,t,upd_same _ _ _,nV w _,ah.mono le cs _ hr⟩
theorem Rel.BU(h:Rel w0 M T γ st a w)(o:Nat)(e:TypeId)(r:aj)(l:List r.den)(fr:Bool)(hnew:st.af o=none)(arr:Array Value)(cap:Nat)(hlen:0<r.len)
 (hcap:l.length<=cap) (hmax:cap<=maxLen) (hsz:arr.size=cap*r.len)
 (hr:∀i x,l[i]? =some x->aC w.heap ((ai w0 T γ st w).aH fr) r ((arr.toList.drop (i*r.len)).take r.len) x):
 Rel w0 M T (upd γ o (.slice (some ⟨w.heap.size,0,none⟩) l.length cap)) (st.add o (.arr e r l fr)) a (w.alloc (.cells arr e))/\
 aA (ai w0 T (upd γ o (.slice (some ⟨w.heap.size,0,none⟩) l.length cap)) (st.add o (.arr e r l fr)) (w.alloc (.cells arr e))) (.sv (.one (.ref o))) (.slice (some ⟨w.heap.size,0,none⟩) l.length cap):=by
 refine⟨(h.alloc1 o (.arr e r l fr) hnew (λ_ e=>by cases e) arr e _ rfl λle=>?_).1,⟨e,r,l,fr,add_same _ _ _⟩,(upd_same _ _ _).symm,rfl⟩;refine⟨arr.toList.take (l.length*r.len),⟨?_,.inr ⟨w.heap.size,cap,arr,upd_same _ _ _,Zm _,nV w _,hcap,hmax,hsz,rfl⟩⟩,hlen,?_,λi x hi=>?_⟩
 · simp_all
 .intro b hb _;have hb:blk (upd γ o (.slice (some ⟨w.heap.size,0,none⟩) l.length cap) o)=some b:=hb;rw[upd_same]at hb;cases hb;exact h.grow
 .have hlt:i<l.length:=(Y8.1 hi).1;have hmul:i*r.len+r.len<=l.length*r.len:=by
   have:(i+1)*r.len<=l.length*r.len:=Y3 _ hlt
   grind
  rw[bg _ _ _ _ hmul];exact aC.mono (λb hb=>le.aH fr b hb) r _ x (hr i x hi)
theorem BV(X:V):∀(r:aj),ah X r.zeros r.fG
 |.nil=>trivial
 |.cons c r=>by
  refine⟨?_,BV X r⟩;cases c with
  |int k=>exact⟨rfl,by cases k<;>decide⟩
  |bool=>rfl
  |str=>exact⟨rfl,Zm _⟩
  |sl e s=>rfl
theorem yS(h:Array Obj)(S:Nat->Prop):∀(r:aj),aC h S r r.fG r.dflt
 |.nil=>rfl
 |.cons c r=>by
  refine⟨c.FT,r.fG,rfl,?_,yS h S r⟩;cases c with
  |int k=>exact⟨rfl,show k.min<=(0:Int)/\(0:Int)<=k.max by cases k<;>decide⟩
  |bool=>rfl
  |str=>exact⟨rfl,Zm _⟩
  |sl e s=>exact⟨Zm _,.inl ⟨rfl,none,0,rfl⟩⟩
theorem sS(h:Rel w0 M T γ st a w)(fr:Bool):∀(r:aj)(cs:List Cell)(vs:List Value)(x:r.den),ah (ai w0 T γ st w) cs vs->kV st r cs=some x->cs.flatMap Cell.refs=[]->(fr=true->cs.all (Cell.fresh st)=true)->
 aC w.heap ((ai w0 T γ st w).aH fr) r vs x
 |.nil,[],[],_,_,_,_,_=>rfl
 |.nil,_::_,_,_,_,hg,_,_=>by grind [kV]
 |.cons _ _,[],_,_,_,hg,_,_=>by grind [kV]
 |.cons c r,y::ys,v::vs,x,⟨h1,h2⟩,hg,hn,hf=>by
  rw[kV]at hg;rw[Zt,Zk]at hn;split at hg
  .next p q hp hq=>
   cases hg;refine⟨v,vs,rfl,?_,sS h fr r ys vs q h2 hq hn.2 (λe=>by grind)⟩;have hy:fr=true->y.fresh st=true:=λe=>by grind
   cases c with
   |int k=>exact Cell.zY h (.int k) y v p h1 hp
   |bool=>exact Cell.zY h .bool y v p h1 hp
   |str=>exact Cell.zY h .str y v p h1 hp
   |sl e s=>
    cases y with
    |int k n=>grind [Cell.get]
    |bool b=>grind [Cell.get]
    |str s=>grind [Cell.get]
    |junk=>grind [Cell.get]
    |ref o=>grind [Cell.refs]
    |nil=>
     cases hp;have hv:v=.slice none 0 0:=h1;subst hv;exact⟨Zm _,.inl ⟨rfl,none,0,rfl⟩⟩
    |sl e' s' l fr'=>
     simp only[Cell.get]at hp;split at hp
     .next hb=>have hrs:=aj.eq_of_beq s' s hb;subst hrs;cases hp;exact aU.mono (λb hb=>⟨⟨hb.1,λe2=>hb.2 (hy e2)⟩,rfl⟩) (.sl e s') v l h1
     .cases hp
  .cases hg
 |.cons _ _,_::_,[],_,H,_,_,_=>by cases H
 |.nil,[],_::_,_,H,_,_,_=>by cases H
def look:List (Nat×ak)->Nat->Option ak
 |[],_=>none
 |(o,x)::r,p=>match look r p with
  |some y=>some y
  |none=>match Nat.beq p o with|true=>some x|false=>none
theorem iY:∀(δ:List (Nat×ak))(st:St)(p:Nat),(st.adds δ).af p=match look δ p with|some y=>some y|none=>st.af p
 |[],st,p=>rfl
 |(o,x)::r,st,p=>by
  rw[St.adds,iY r (st.add o x) p,look];cases hl:look r p with
  |some y=>rfl
  |none=>
   cases hb:Nat.beq p o with
   |true=>simp[St.add,hb]
   |false=>simp[St.add,hb]
theorem oH:∀(δ:List (Nat×ak))(st:St),(st.adds δ).tmps=st.tmps/\(st.adds δ).n=st.n
 |[],_=>⟨rfl,rfl⟩
 |(o,x)::r,st=>oH r (st.add o x)
theorem jL:∀(δ:List (Nat×ak))(p:Nat)(x:ak),look δ p=some x->(p,x)∈δ
 |[],_,_,h=>by cases h
 |(o,y)::r,p,x,h=>by
  rw[look]at h;cases hl:look r p with
  |some z=>rw[hl]at h;cases h;exact Y5 _ (jL r p x hl)
  |none=>
   rw[hl]at h;cases hb:Nat.beq p o with
   |true=>rw[hb]at h;cases h;rw[YX hb];exact Y6
   |false=>rw[hb]at h;cases h
theorem Ac(st:St)(δ:List (Nat×ak)):st.adds δ={st with af:=(st.adds δ).af}:=by
 have h:=oH δ st;cases e:st.adds δ with
 |mk n t o=>grind
theorem oW{δ:List (Nat×ak)}(h:bV st δ=true){p:Nat}{x:ak}(hl:look δ p=some x):st.af p=none:=by
 have:=Ze.1 h _ (jL δ p x hl)
 simp_all
structure cu where
 n:Nat
 ok:World->Prop
 low:∀w,ok w->n<=w.heap.size
 stable:∀w w',ok w->w.heap.size<=w'.heap.size->(∀b,b<n->w'.heap[b]? =w.heap[b]?)->ok w'
def jQ(X:V):Arg->Value->Prop
 |.sv v,u=>aP X v u
 |.kp cs,u=>aA X (.bI cs 0) u
 |.fn f caps,u=>aA X (.fn f caps) u
 |.own _ _ _,_|.ptr _,_=>False
def eG(X:V):List Arg->List Value->Prop
 |[],[]=>True
 |c::cs,v::vs=>jQ X c v/\eG X cs vs
 |_,_=>False
def jr(P:Program)(G:cu)(f:FuncId)(con:Jg):Prop:=
 ∀(args:List Arg)(p:Prop)(out:Out)(k:Nat)(S:Nat->Prop)(vs:Array Value)(w:World),con args=some (p,out)->p->G.ok w->
  eG ⟨w,w.heap.size,S,λ_=>undef,λ_=>none⟩ args vs.toList->
  Calls P f vs w λe w'=>∃v vals,e=.returned v/\w'.os=w.os/\w'.tape=w.tape/\w'.output=w.output/\w.heap.size<=w'.heap.size/\
   (∀b,b<w.heap.size->w'.heap[b]? =w.heap[b]?)/\
   aA ⟨w',w.heap.size,S,vals,look (out.take k).2⟩ (out.take k).1 v/\
   (∀o x,look (out.take k).2 o=some x->aB ⟨w',w.heap.size,S,vals,look (out.take k).2⟩ o x/\∀b,blk (vals o)=some b->w.heap.size<=b/\b<w'.heap.size)/\
   (∀o x q y b,look (out.take k).2 o=some x->look (out.take k).2 q=some y->o≠q->blk (vals o)=some b->blk (vals q)≠some b)
def aZ(args:List Arg)(p:Nat):Option ak:=
 match args[p / 64]? with
 |some (.own e r l)=>match Nat.beq (p%64) 49 with|true=>some (.arr e r l false)|false=>none
 |some (.ptr cs)=>match Nat.beq (p%64) 48 with|true=>some (.var cs)|false=>none
 |_=>none
def FV(X:V)(i:Nat):Arg->Value->Prop
 |.own _ _ _,v=>ay X (.ref (i*64+49)) v
 |.ptr _,v=>aA X (.bF (i*64+48) 0) v
 |a,v=>jQ X a v
def oZ(X:V):Nat->List Arg->List Value->Prop
 |_,[],[]=>True
 |i,c::cs,v::vs=>FV X i c v/\oZ X (i+1) cs vs
 |_,_,_=>False
def kH(E:Nat->Option ak)(γ:Nat->Value)(b:Nat):Prop:=∃o x,E o=some x/\blk (γ o)=some b
def iK(S:Nat->Prop)(args:List Arg)(au:List Eff)(γ:Nat->Value)(b:Nat):Prop:=
 (S b\/kH (aZ args) γ b)/\∀q y,iH au q=some y->blk (γ q)≠some b
def wR(S:Nat->Prop)(args:List Arg)(γ:Nat->Value)(w:World)(k:Nat)(out:Out)(au:List Eff)(e:Ending)(w':World):Prop:=
 ∃v γ',e=.returned v/\w'.os=w.os/\w'.tape=w.tape/\w'.output=w.output/\w.heap.size<=w'.heap.size/\
  (∀b,b<w.heap.size->¬kH (aZ args) γ b->w'.heap[b]? =w.heap[b]?)/\
  aA ⟨w',w.heap.size,iK S args au γ,γ',look (out.take k).2⟩ (out.take k).1 v/\
  (∀o x,look (out.take k).2 o=some x->aB ⟨w',w.heap.size,iK S args au γ,γ',look (out.take k).2⟩ o x/\
    ∀b,blk (γ' o)=some b->b<w'.heap.size/\(w.heap.size<=b\/kH (aZ args) γ b)/\∀q y,iH au q=some y->blk (γ q)≠some b)/\
  (∀o x q y b,look (out.take k).2 o=some x->look (out.take k).2 q=some y->o≠q->blk (γ' o)=some b->blk (γ' q)≠some b)/\
  (∀o x,iH au o=some x->γ' o=γ o/\aB ⟨w',w.heap.size,iK S args au γ,γ',look (out.take k).2⟩ o x)
def vO(P:Program)(G:cu)(f:FuncId)(con:FP):Prop:=
 ∀(args:List Arg)(p:Prop)(ρ:uY),con args=some (p,ρ)->p->(∃t,ρ.R t)/\
  ∀(k:Nat)(S:Nat->Prop)(γ:Nat->Value)(vs:Array Value)(w:World),G.ok w->oZ ⟨w,w.heap.size,S,γ,aZ args⟩ 0 args vs.toList->
   (∀o x,aZ args o=some x->aB ⟨w,w.heap.size,S,γ,aZ args⟩ o x/\∀b,blk (γ o)=some b->b<w.heap.size/\G.n<=b)->
   (∀o x q y b,aZ args o=some x->aZ args q=some y->o≠q->blk (γ o)=some b->blk (γ q)≠some b)->
   (∀t,ρ.R t->∀o x,look ((ρ.out t).take k).2 o=some x->iH (ρ.au t) o=none)->
   Calls P f vs w λe w'=>∃t,ρ.R t/\wR S args γ w k (ρ.out t) (ρ.au t) e w'
theorem Sz{X:V}{S':Nat->Prop}{b:Nat}(h:X.aH true b):({X with S:=S'}:V).aH true b:=
 ⟨⟨h.1.1,λhlt=>by have h1:=h.2 rfl;grind,h.1.2.2⟩,h.2⟩
theorem ay.newS{X:V}(S':Nat->Prop):∀(c:Cell)(v:Value),c.made=true\/c.isRef=true->ay X c v->ay {X with S:=S'} c v
 |.int _ _,_,_,H|.bool _,_,_,H|.str _,_,_,H|.nil,_,_,H|.junk,_,_,H=>H
 |.sl e r l fr,v,h,H=>by
  have hfr:fr=true:=by rcases h with h|h;exact h;cases h
  subst hfr;exact aU.mono (λb hb=>⟨Sz hb,rfl⟩) (.sl e r) v l H
 |.ref o,v,_,H=>H
theorem ah.newS{X:V}(S':Nat->Prop):∀(cs:List Cell)(vs:List Value),(∀c∈cs,c.made=true\/c.isRef=true)->ah X cs vs->ah {X with S:=S'} cs vs
 |[],[],_,H=>H
 |c::cs,v::vs,h,⟨h1,h2⟩=>⟨ay.newS S' c v (h c Y6) h1,ah.newS S' cs vs (λd hd=>h d (Y5 _ hd)) h2⟩
 |[],_::_,_,H|_::_,[],_,H=>by cases H
theorem aP.newS{X:V}(S':Nat->Prop):∀(c:SV)(v:Value),(∀x∈c.cells,x.made=true\/x.isRef=true)->aP X c v->aP {X with S:=S'} c v
 |.one c,v,h,H=>ay.newS S' c v (h c Y6) H
 |.agg cs,_,h,⟨vs,hv,H⟩=>⟨vs,hv,ah.newS S' cs _ h H⟩
theorem aN.newS{X:V}(S':Nat->Prop):∀(cs:List SV)(vs:List Value),(∀c∈cs,∀x∈c.cells,x.made=true\/x.isRef=true)->aN X cs vs->aN {X with S:=S'} cs vs
 |[],[],_,H=>H
 |c::cs,v::vs,h,⟨h1,h2⟩=>⟨aP.newS S' c v (h c Y6) h1,aN.newS S' cs vs (λd hd=>h d (Y5 _ hd)) h2⟩
 |[],_::_,_,H|_::_,[],_,H=>by cases H
theorem aB.newS{X:V}(S':Nat->Prop)(o:Nat){e:TypeId}{r:aj}{l:List r.den}(h:aB X o (.arr e r l true)):aB {X with S:=S'} o (.arr e r l true):=by obtain⟨xs,h1,h2,h3,h4⟩:=h;exact⟨xs,h1,h2,h3,λi x hi=>aC.mono (λb hb=>⟨Sz hb,rfl⟩) r _ x (h4 i x hi)⟩
theorem vP:∀(cs:List aW)(k:Nat),cs.all aW.made=true->
 (∀c∈(dA k cs).1,c.made=true\/c.isRef=true)/\(∀y∈(dA k cs).2,∃e r l,y.2=.arr e r l true)
 |[],_,_=>⟨(λ_ h=>by cases h),(λ_ h=>by cases h)⟩
 |x::cs,k,h=>by
  simp only[ZQ,YZ]at h;have ih:=vP cs (k+1) h.2;refine⟨λc hc=>?_,λy hy=>?_⟩
  .rcases Zl.1 hc with rfl|hc
   .cases x with
    |plain c=>exact .inl h.1
    |own e r l fr=>exact .inr rfl
   grind
  .rcases ZI.1 hy with hy|hy
   .cases x with
    |plain c=>cases hy
    |own e r l fr=>
     have hfr:fr=true:=h.1
     grind [aW.take]
   grind
theorem Jm(k:Nat)(x:Bool×List aW)(h:x.2.all aW.made=true):
 (∀c∈(jv k x).1.cells,c.made=true\/c.isRef=true)/\(∀y∈(jv k x).2,∃e r l,y.2=.arr e r l true):=by
 have:=vP x.2 k h;unfold jv;split
 .next e1 e2=>rw[e2]at this;exact this
 .next e1 e2=>rw[e2]at this;exact this
 .next e1 e2=>rw[e2]at this;exact⟨(λc hc=>by rcases Zl.1 hc with rfl|hc;exact .inl rfl;cases hc),this.2⟩
theorem xX:∀(xs:List (Bool×List aW))(k:Nat),(xs.all λx=>x.2.all aW.made)=true->
 (∀v∈(bG k xs).1,∀c∈v.cells,c.made=true\/c.isRef=true)/\(∀y∈(bG k xs).2,∃e r l,y.2=.arr e r l true)
 |[],_,_=>⟨(λ_ h=>by cases h),(λ_ h=>by cases h)⟩
 |x::xs,k,h=>by
  simp only[ZQ,YZ]at h;have h1:=Jm k x h.1;have ih:=xX xs (k+x.2.length) h.2
  grind [bG]
theorem ah.made{X:V}(S':Nat->Prop)(cs:List Cell)(vs:List Value)(hm:cs.all Cell.made=true)(H:ah X cs vs):ah {X with S:=S'} cs vs:=
 ah.newS S' cs vs (λc hc=>.inl (Ze.1 hm c hc)) H
def Ad:ak->Prop
 |.arr _ _ _ fr=>fr=true
 |.var cs=>cs.all Cell.made=true
theorem aB.made{X:V}(S':Nat->Prop)(o:Nat):∀(x:ak),Ad x->aB X o x->aB {X with S:=S'} o x
 |.arr e r l fr,hm,h=>by
  have hm:fr=true:=hm
  grind [aB.newS]
 |.var cs,hm,⟨b,arr,t,h1,h2,h3⟩=>⟨b,arr,t,h1,h2,ah.made S' cs _ hm h3⟩
theorem Out.yT(o:Out)(k:Nat)(h:o.made=true)(X:V)(S':Nat->Prop)(v:Value):
 (aA X (o.take k).1 v->aA {X with S:=S'} (o.take k).1 v)/\(∀y∈(o.take k).2,Ad y.2):=by
 unfold Out.made at h;unfold Out.take;split at h
 .next cs hv=>exact⟨id,λy hy=>by rw[List.mem_singleton.1 hy];exact h⟩
 .next hv=>
  have hm:=xX o.Nh k h;have hm2:∀y∈(bG k o.Nh).2,Ad y.2:=λy hy=>by obtain⟨e,r,l,he⟩:=hm.2 y hy;rw[he];exact rfl
  split
  .next e1 e2=>rw[e2]at hm hm2;exact⟨λH=>aP.newS S' _ v (hm.1 _ Y6) H,hm2⟩
  .next e1 e2=>rw[e2]at hm hm2;exact⟨λ⟨vs,hv,H⟩=>⟨vs,hv,aN.newS S' _ _ hm.1 H⟩,hm2⟩
theorem Cell.lZ(h:Rel w0 M T γ st a w){γ0:Nat->Value}{S:Nat->Prop}(hS1:∀b,(ai w0 T γ st w).foot b->S b)(hS2:∀o e r l fr b,st.af o=some (.arr e r l fr)->blk (γ o)=some b->S b):∀(c:Cell)(v:Value),ay (ai w0 T γ st w) c v->ay ⟨w,w.heap.size,S,γ0,λ_=>none⟩ (c.view st) v
 |.int _ _,_,H|.bool _,_,H|.str _,_,H|.nil,_,H|.junk,_,H=>H
 |.sl e r l fr,v,H=>aU.mono (λb hb=>⟨⟨⟨hb.1.1,λ_=>hS1 b hb.1,(λ_ _ ho=>by cases ho)⟩,(λe=>by cases e)⟩,rfl⟩) (.sl e r) v l H
 |.ref o,v,⟨⟨e,r,l,fr,hx⟩,hv,_⟩=>by
  have hx':st.af o=some (.arr e r l fr):=hx;simp only[Cell.view,hx'];rw[hv];exact aB.reads (X:=ai w0 T γ st w) (e:=e) (l:=l) (fr:=fr) (h.af o _ hx') (λb hb=>⟨⟨hb.1.1,λ_=>hS1 b hb.1,(λ_ _ ho=>by cases ho)⟩,(λe=>by cases e)⟩)
   (λb hb=>⟨⟨(h.lt o _ b hx' hb).1,λ_=>hS2 o e r l fr b hx' hb,(λ_ _ ho=>by cases ho)⟩,(λe=>by cases e)⟩)
theorem Cells.lZ(h:Rel w0 M T γ st a w){γ0:Nat->Value}{S:Nat->Prop}(hS1:∀b,(ai w0 T γ st w).foot b->S b)(hS2:∀o e r l fr b,st.af o=some (.arr e r l fr)->blk (γ o)=some b->S b):∀(cs:List Cell)(vs:List Value),ah (ai w0 T γ st w) cs vs->ah ⟨w,w.heap.size,S,γ0,λ_=>none⟩ (cs.map (Cell.view st)) vs
 |[],[],H=>H
 |c::cs,v::vs,⟨h1,h2⟩=>⟨Cell.lZ h hS1 hS2 c v h1,Cells.lZ h hS1 hS2 cs vs h2⟩
 |[],_::_,H|_::_,[],H=>by cases H
theorem SV.lZ(h:Rel w0 M T γ st a w){γ0:Nat->Value}{S:Nat->Prop}(hS1:∀b,(ai w0 T γ st w).foot b->S b)(hS2:∀o e r l fr b,st.af o=some (.arr e r l fr)->blk (γ o)=some b->S b):∀(c:SV)(v:Value),aP (ai w0 T γ st w) c v->aP ⟨w,w.heap.size,S,γ0,λ_=>none⟩ (c.view st) v
 |.one c,v,H=>Cell.lZ h hS1 hS2 c v H
 |.agg cs,_,⟨vs,hv,H⟩=>⟨vs,hv,Cells.lZ h hS1 hS2 cs _ H⟩
theorem GX(h:Rel w0 M T γ st a w){γ0:Nat->Value}{S:Nat->Prop}(hS1:∀b,(ai w0 T γ st w).foot b->S b)(hS2:∀o e r l fr b,st.af o=some (.arr e r l fr)->blk (γ o)=some b->S b){cs:List Cell}{b:Nat}(H:bf (ai w0 T γ st w) cs b):bf ⟨w,w.heap.size,S,γ0,λ_=>none⟩ (cs.map (Cell.view st)) b:=by obtain⟨arr,t,fz,hb,hh,hr⟩:=H;exact⟨arr,t,fz,⟨hb.1,λ_=>hS1 b hb,(λ_ _ ho=>by cases ho)⟩,hh,Cells.lZ h hS1 hS2 cs _ hr⟩
theorem GY(h:Rel w0 M T γ st a w){γ0:Nat->Value}{S:Nat->Prop}(hS1:∀b,(ai w0 T γ st w).foot b->S b)(hS2:∀o e r l fr b,st.af o=some (.arr e r l fr)->blk (γ o)=some b->S b):∀(l:List (List Cell))(us:List Value),aV (ai w0 T γ st w) l us->aV ⟨w,w.heap.size,S,γ0,λ_=>none⟩ (l.map (List.map (Cell.view st))) us
 |[],[],H=>H
 |cs::l,u::us,⟨⟨b,hu,hk⟩,h2⟩=>⟨⟨b,hu,GX h hS1 hS2 hk⟩,GY h hS1 hS2 l us h2⟩
 |[],_::_,H|_::_,[],H=>by cases H
def eH(X:V):List AV->List Value->Prop
 |[],[]=>True
 |x::xs,v::vs=>aA X x v/\eH X xs vs
 |_,_=>False
theorem o5(h:Rel w0 M T γ st a w){γ0:Nat->Value}{S:Nat->Prop}(hS1:∀b,(ai w0 T γ st w).foot b->S b)(hS2:∀o e r l fr b,st.af o=some (.arr e r l fr)->blk (γ o)=some b->S b):∀(xs:List AV)(us:List Value)(vs:List Arg),fF st xs=some vs->eH (ai w0 T γ st w) xs us->eG ⟨w,w.heap.size,S,γ0,λ_=>none⟩ vs us
 |[],[],vs,hv,_=>by cases hv;trivial
 |[],_::_,_,_,H=>H.elim
 |_::_,[],_,_,H=>H.elim
 |x::xs,u::us,vs,hv,⟨hx,hxs⟩=>by
  unfold fF at hv;split at hv
  .next v ws hu=>
   split at hv
   .cases hv;exact⟨SV.lZ h hS1 hS2 v _ hx,o5 h hS1 hS2 xs us ws hu hxs⟩
   .cases hv
  .next cs off ws hu=>
   split at hv
   .next hok=>cases hv;rw[YZ]at hok;have h0:=YX hok.1;subst h0;obtain⟨b,hb,hk⟩:=hx;exact⟨⟨b,hb,GX h hS1 hS2 hk⟩,o5 h hS1 hS2 xs us ws hu hxs⟩
   .cases hv
  .next f caps ws hu=>
   split at hv
   .cases hv;obtain⟨ks,hb,hk⟩:=hx;exact⟨⟨ks,hb,GY h hS1 hS2 caps _ hk⟩,o5 h hS1 hS2 xs us ws hu hxs⟩
   .cases hv
  .cases hv
theorem Cell.iZ(_h:Rel w0 M T γ st a w){γ0:Nat->Value}:∀(c:Cell)(v:Value),c.refs=[]->ay (ai w0 T γ st w) c v->ay ⟨w,w.heap.size,(ai w0 T γ st w).foot,γ0,λ_=>none⟩ (c.view st) v
 |.int _ _,_,_,H|.bool _,_,_,H|.str _,_,_,H|.nil,_,_,H|.junk,_,_,H=>H
 |.sl e r l fr,v,_,H=>aU.mono (λb hb=>⟨⟨⟨hb.1.1,λ_=>hb.1,(λ_ _ ho=>by cases ho)⟩,(λe=>by cases e)⟩,rfl⟩) (.sl e r) v l H
 |.ref o,v,hr,_=>by cases hr
theorem Cells.iZ(h:Rel w0 M T γ st a w){γ0:Nat->Value}:∀(cs:List Cell)(vs:List Value),cs.flatMap Cell.refs=[]->ah (ai w0 T γ st w) cs vs->ah ⟨w,w.heap.size,(ai w0 T γ st w).foot,γ0,λ_=>none⟩ (cs.map (Cell.view st)) vs
 |[],[],_,H=>H
 |c::cs,v::vs,hr,⟨h1,h2⟩=>by
  rw[Zt,Zk]at hr;exact⟨Cell.iZ h c v hr.1 h1,Cells.iZ h cs vs hr.2 h2⟩
 |[],_::_,_,H|_::_,[],_,H=>by cases H
theorem SV.iZ(h:Rel w0 M T γ st a w){γ0:Nat->Value}:∀(c:SV)(v:Value),c.cells.flatMap Cell.refs=[]->aP (ai w0 T γ st w) c v->aP ⟨w,w.heap.size,(ai w0 T γ st w).foot,γ0,λ_=>none⟩ (c.view st) v
 |.one c,v,hr,H=>Cell.iZ h c v (by grind [SV.cells]) H
 |.agg cs,_,hr,⟨vs,hv,H⟩=>⟨vs,hv,Cells.iZ h cs _ hr H⟩
theorem GZ(h:Rel w0 M T γ st a w){γ0:Nat->Value}{cs:List Cell}{b:Nat}(hr0:cs.flatMap Cell.refs=[])(H:bf (ai w0 T γ st w) cs b):bf ⟨w,w.heap.size,(ai w0 T γ st w).foot,γ0,λ_=>none⟩ (cs.map (Cell.view st)) b:=by obtain⟨arr,t,fz,hb,hh,hr⟩:=H;exact⟨arr,t,fz,⟨hb.1,λ_=>hb,(λ_ _ ho=>by cases ho)⟩,hh,Cells.iZ h cs _ hr0 hr⟩
theorem G5(h:Rel w0 M T γ st a w){γ0:Nat->Value}:∀(l:List (List Cell))(us:List Value),(l.flatMap λcs=>cs.flatMap Cell.refs)=[]->aV (ai w0 T γ st w) l us->aV ⟨w,w.heap.size,(ai w0 T γ st w).foot,γ0,λ_=>none⟩ (l.map (List.map (Cell.view st))) us
 |[],[],_,H=>H
 |cs::l,u::us,hr,⟨⟨b,hu,hk⟩,h2⟩=>by
  rw[Zt,Zk]at hr;exact⟨⟨b,hu,GZ h hr.1 hk⟩,G5 h l us hr.2 h2⟩
 |[],_::_,_,H|_::_,[],_,H=>by cases H
theorem lg(h:Rel w0 M T γ st a w){γ0:Nat->Value}:∀(xs:List AV)(us:List Value)(vs:List Arg),fF st xs=some vs->jw xs=[]->eH (ai w0 T γ st w) xs us->eG ⟨w,w.heap.size,(ai w0 T γ st w).foot,γ0,λ_=>none⟩ vs us
 |[],[],vs,hv,_,_=>by cases hv;trivial
 |[],_::_,_,_,_,H=>H.elim
 |_::_,[],_,_,_,H=>H.elim
 |x::xs,u::us,vs,hv,hr,⟨hx,hxs⟩=>by
  unfold fF at hv;rw[jw,Zk]at hr;split at hv
  .next v ws hu=>
   split at hv
   .cases hv;exact⟨SV.iZ h v _ hr.1 hx,lg h xs us ws hu hr.2 hxs⟩
   .cases hv
  .next cs off ws hu=>
   split at hv
   .next hok=>cases hv;rw[YZ]at hok;have h0:=YX hok.1;subst h0;obtain⟨b,hb,hk⟩:=hx;exact⟨⟨b,hb,GZ h hr.1 hk⟩,lg h xs us ws hu hr.2 hxs⟩
   .cases hv
  .next f caps ws hu=>
   split at hv
   .cases hv;obtain⟨ks,hb,hk⟩:=hx;exact⟨⟨ks,hb,G5 h caps _ hr.1 hk⟩,lg h xs us ws hu hr.2 hxs⟩
   .cases hv
  .cases hv
theorem o6(h:Rel w0 M T γ st a w){caps:List (List Cell)}{us:Array Value}(hk:aV (ai w0 T γ st w) caps us.toList):∀(xs:List Operand),
 eH (ai w0 T γ st w) (handed st xs caps) (xs.map a.eval++us.toList):=by
 have h0:∀(caps:List (List Cell))(us:List Value),aV (ai w0 T γ st w) caps us->eH (ai w0 T γ st w) (caps.map λcs=>.bI cs 0) us:=by
  intro caps
  induction caps with
  |nil=>intro us H;cases us with|nil=>trivial|cons _ _=>cases H
  |cons cs l ih=>
   intro us H;cases us with
   |nil=>cases H
   |cons u us=>exact⟨H.1,ih us H.2⟩
 intro xs
 induction xs with
 |nil=>exact h0 caps _ hk
 |cons x xs ih=>exact⟨bH h x,ih⟩
theorem eH.freeze(S:Nat->Bool)(h:Rel w0 M T γ st a w):∀(xs:List AV)(us:List Value),eH (ai w0 T γ st w) xs us->eH (ai w0 T γ (st.freeze S) w) (xs.map (AV.freeze st S)) us
 |[],[],H=>H
 |x::xs,u::us,⟨h1,h2⟩=>⟨aA.freeze S h x u h1,eH.freeze S h xs us h2⟩
 |[],_::_,H|_::_,[],H=>by cases H
theorem xY:∀(cs:List aW)(k:Nat),∀y∈(dA k cs).2,∃e r l fr,y.2=.arr e r l fr
 |[],_,_,hy=>by cases hy
 |x::cs,k,y,hy=>by
  rcases ZI.1 hy with hy|hy
  .cases x with
   |plain c=>cases hy
   |own e r l fr=>
    grind [aW.take]
  .exact xY cs (k+1) y hy
theorem Lh(k:Nat)(x:Bool×List aW):∀y∈(jv k x).2,∃e r l fr,y.2=.arr e r l fr:=by
 have:=xY x.2 k;unfold jv;split
 · grind
 · grind
 grind
theorem yU:∀(xs:List (Bool×List aW))(k:Nat),∀y∈(bG k xs).2,∃e r l fr,y.2=.arr e r l fr
 |[],_,_,hy=>by cases hy
 |x::xs,k,y,hy=>by
  rcases ZI.1 hy with hy|hy
  .exact Lh k x y hy
  .exact yU xs _ y hy
theorem Out.Jo(o:Out)(k:Nat)(hk:k%64=1){p:Nat}{cs:List Cell}(hl:look (o.take k).2 p=some (.var cs)):p%64=0:=by
 have hmem:=jL _ p _ hl
 grind [Out.take,yU]
theorem Rel.called(h:Rel w0 M T γ st a w){out:Out}{k:Nat}(hk:k%64=1){S:Nat->Prop}{vals:Nat->Value}{v:Value}(hf:bV st (out.take k).2=true)
 (hos:w'.os=w.os) (htape:w'.tape=w.tape) (hout:w'.output=w.output) (hsize:w.heap.size<=w'.heap.size) (hheap:∀b,b<w.heap.size->w'.heap[b]? =w.heap[b]?)
 (hS:out.made=true\/S=(ai w0 T γ st w).foot)
 (hr:aA ⟨w',w.heap.size,S,vals,look (out.take k).2⟩ (out.take k).1 v)
 (ho:∀o x,look (out.take k).2 o=some x->aB ⟨w',w.heap.size,S,vals,look (out.take k).2⟩ o x/\∀b,blk (vals o)=some b->w.heap.size<=b/\b<w'.heap.size)
 (hsep:∀o x q y b,look (out.take k).2 o=some x->look (out.take k).2 q=some y->o≠q->blk (vals o)=some b->blk (vals q)≠some b):
 ∃γ',Rel w0 M T γ' (st.adds (out.take k).2) a w'/\aA (ai w0 T γ' (st.adds (out.take k).2) w') (out.take k).1 v:=by
 let δ:=(out.take k).2
 let γ':Nat->Value:=λp=>match look δ p with|some _=>vals p|none=>γ p
 have lK:∀p,(st.adds δ).af p=match look δ p with|some y=>some y|none=>st.af p:=iY δ st
 have Uz:∀p x,look δ p=some x->γ' p=vals p:=λp x hl=>by grind
 have Wq:∀p x,st.af p=some x->γ' p=γ p:=by
  grind [oW]
 have hA:∀p x,st.af p=some x->(st.adds δ).af p=some x:=by
  grind [oW]
 have hN:∀p x,(st.adds δ).af p=some x->st.af p=none->look δ p=some x:=by
  grind
 have le:∀S',(S'=λ_=>False)\/S'=(ai w0 T γ st w).foot->V.le ⟨w',w.heap.size,S',vals,look δ⟩ ⟨w',w0.heap.size,T,γ',(st.adds δ).af⟩:=by
  intro S' hS';have harr:∀o x,look δ o=some x->(st.adds δ).af o=some x:=by
   grind
  refine⟨h.grow,λb hb=>⟨⟨hb.1,λhlt=>?_,λo x hx=>?_⟩,rfl⟩,λo cs hl=>⟨⟨cs,harr o _ hl⟩,Uz o _ hl⟩,λo e r l fr hl=>⟨⟨l,fr,harr o _ hl⟩,Uz o _ hl⟩⟩
  .have hb1:=hb.2.1 (show b<w.heap.size from Zc hlt h.grow);rcases hS' with rfl|rfl
   .exact hb1.elim
   .exact hb1.2.1 hlt
  .show blk (γ' o)≠some b;cases hl:look δ o with
   |some y=>rw[Uz o y hl];exact hb.2.2 o y hl
   |none=>
    have hx':(st.adds δ).af o=some x:=hx;rw[lK,hl]at hx';rw[Wq o x hx'];intro hbb;have hlt:=(h.lt o x b hx' hbb).1;have hb1:=hb.2.1 hlt;rcases hS' with rfl|rfl
    .exact hb1
    .exact hb1.2.2 o x hx' hbb
 have main:∃S',((S'=λ_=>False)\/S'=(ai w0 T γ st w).foot)/\aA ⟨w',w.heap.size,S',vals,look δ⟩ (out.take k).1 v/\∀o x,look δ o=some x->aB ⟨w',w.heap.size,S',vals,look δ⟩ o x:=by
  rcases hS with hm|hS
  .have hmk:=out.yT k hm;refine⟨λ_=>False,.inl rfl,(hmk ⟨w',w.heap.size,S,vals,look δ⟩ (λ_=>False) v).1 hr,λo x hl=>?_⟩;exact aB.made (λ_=>False) o x ((hmk ⟨w',w.heap.size,S,vals,look δ⟩ (λ_=>False) v).2 _ (jL _ _ _ hl)) (ho o _ hl).1
  grind
 obtain⟨S',hS',hr',ho'⟩:=main;have hle:=le S' hS';refine⟨γ',?_,aA.mono hle _ _ hr'⟩;rw[Ac st δ];refine(h.grown (γ':=γ') (w':=w') (st.adds δ).af hA Wq hos htape hout hsize hheap (λp x hp hn=>?_) (λp cs hp hn=>by
  have h0:=out.Jo k hk (hN p _ hp hn);cases hT:T.N p with
  |none=>rfl
  |some v'=>have:=T.n48 p v' hT;omega) (λp x q y b hp hn hq hm hpq hb=>?_)).1
 · grind [aB.mono]
 grind
end Go.Fw
namespace Go.Fw
open Go
variable {P:Program} {w0:World} {M:Nat->Prop} {T:Ext} {γ γ':Nat->Value} {st:St} {a:Act} {w w':World} {Θ:bJ} {Γ:dn}
def kJ(P:Program)(f:FuncId):Prop:=∀(args:Array Value)(w:World),(callFunc f args).run P w=.ok (.enter f args) w
def Yields(P:Program)(w0:World)(M:Nat->Prop)(T:Ext)(st:St)(a:Act)(w:World)(s:Sem Value)(v:AV)(δ:List (Nat×ak)):Prop:=
 ∃u w' γ',s.run P w=.ok u w'/\Rel w0 M T γ' (st.adds δ) a w'/\aA (ai w0 T γ' (st.adds δ) w') v u
theorem Yields.same(h:Rel w0 M T γ st a w){s:Sem Value}{v:AV}{u:Value}(hr:s.run P w=.ok u w)(hv:aA (ai w0 T γ st w) v u):Yields P w0 M T st a w s v []:=⟨u,w,γ,hr,h,hv⟩
theorem Lj(hΘ:∀t ti,Θ t=some ti->dG P t ti)(h:Rel w0 M T γ st a w){d:Nat}{t:TypeId}{x:Operand}{p:Prop}{v:AV}{δ:List (Nat×ak)}
 (hc:calm Θ Γ d st (.load t x)=some (p,v,δ)) (hp:p):Yields P w0 M T st a w (Instr.loadAt t (a.eval x)) v δ:=by
 simp only[calm]at hc;split at hc
 .next ti o off ht he=>
  split at hc
  .next cs ho=>
   split at hc
   .next s hs=>cases hc;obtain⟨u,hu,hr⟩:=uy hΘ h ht (x:=x) (v:=s) (.inl ⟨o,off,cs,he,ho,hs⟩);exact .same h hu hr
   .cases hc
  .cases hc
 .next ti o i off ht he=>
  split at hc
  .next e r l fr ho=>
   split at hc
   .next s hs=>cases hc;obtain⟨u,hu,hr⟩:=uy hΘ h ht (x:=x) (v:=s) (.inr (.inl ⟨o,i,off,e,r,l,fr,he,ho,hp,hs⟩));exact .same h hu hr
   .cases hc
  .cases hc
 .next ti r y off fr ht he=>
  split at hc
  .next s hs=>cases hc;obtain⟨u,hu,hr⟩:=uy hΘ h ht (x:=x) (v:=s) (.inr (.inr ⟨r,y,off,fr,he,hs⟩));exact .same h hu hr
  .cases hc
 .next ti cs off ht he=>
  split at hc
  .next s hs=>
   cases hc;have hx:=bH h x;rw[he]at hx;obtain⟨b,hv,arr,ty,fz,hf,hb,hr⟩:=hx;have hr':ah (ai w0 T γ st w) cs ((arr.toList.drop 0).take arr.size):=by grind [List.take_of_length_le]
   obtain⟨u,hu,hr2⟩:=qy (P:=P) (hΘ t ti ht) (ai w0 T γ st w) hb hr' hs;refine .same h ?_ hr2
   grind
  .cases hc
 .cases hc
theorem BZ(hΘ:∀t ti,Θ t=some ti->dG P t ti)(h:Rel w0 M T γ st a w){d:Nat}{s:TypeId}{x:Operand}{f:Nat}{p:Prop}{v:AV}{δ:List (Nat×ak)}
 (hc:calm Θ Γ d st (.fieldAddr s x f)=some (p,v,δ)):Yields P w0 M T st a w (Instr.fieldAt s (a.eval x) f) v δ:=by
 have hx:=bH h x;simp only[calm]at hc;split at hc
 .next ti hs=>
  split at hc
  .next fs hk=>
   split at hc
   .next k t hf=>
    split at hc
    .next te ht=>
     split at hc
     .cases hc
     .next o off he hne=>cases hc;rw[he]at hx;obtain⟨b,cs,ho,hγ,hv⟩:=hx;refine .same h (by rw[hv];exact qA hΘ hs hk hf ht hne b off) ⟨b,cs,ho,hγ,rfl⟩
     .next o i off he hne=>
      cases hc;rw[he]at hx;obtain⟨b,n,cap,e,r,l,fr,ho,hγ,hv⟩:=hx;refine .same h (by rw[hv];exact qA hΘ hs hk hf ht hne b _) ⟨b,n,cap,e,r,l,fr,ho,hγ,?_⟩
      grind
     .next r y off fr he hne=>
      cases hc;rw[he]at hx;obtain⟨b,base,cs,ty,fz,hv,hfo,hb,hr⟩:=hx;refine .same h (by rw[hv];exact qA hΘ hs hk hf ht hne b _) ⟨b,base,cs,ty,fz,?_,hfo,hb,hr⟩
      grind
     .next cs off he hne=>cases hc;rw[he]at hx;obtain⟨b,hv,hkp⟩:=hx;exact .same h (by rw[hv];exact qA hΘ hs hk hf ht hne b _) ⟨b,rfl,hkp⟩
     .cases hc
    .cases hc
   .cases hc
  .cases hc
 .cases hc
theorem Cb(hΘ:∀t ti,Θ t=some ti->dG P t ti)(h:Rel w0 M T γ st a w){d:Nat}{t:TypeId}{x ix:Operand}{p:Prop}{v:AV}{δ:List (Nat×ak)}
 (hc:calm Θ Γ d st (.indexAddr t x ix)=some (p,v,δ)) (hp:p):Yields P w0 M T st a w (Instr.indexAt t (a.eval x) (a.eval ix)) v δ:=by
 have hx:=bH h x;simp only[calm]at hc;split at hc
 .next ti n ht hn=>
  obtain⟨k,hk,_⟩:=ji h hn;split at hc
  .next e hkind=>
   split at hc
   .next te e' r l fr he hev=>
    split at hc
    .next hbeq=>
     cases hc;have hr:=aj.eq_of_beq _ _ hbeq;rw[hev]at hx;obtain⟨b,off,cap,hv,hR⟩:=Qv (X:=ai w0 T γ st w) (e:=e') hx (i:=n.toNat) (by omega);refine .same h (by rw[hv,hk];exact run_indexAt hΘ ht hkind he b off _ cap k n hp.1 hp.2) ?_
     grind
    .cases hc
   .next te o he hev=>
    split at hc
    .next e' r l fr ho=>
     split at hc
     .next hbeq=>
      cases hc;have hr:=aj.eq_of_beq _ _ hbeq;rw[hev]at hx;obtain⟨_,hv,_⟩:=hx;obtain⟨xs,⟨_,h2⟩,hpos,_⟩:=h.af o _ ho;rcases h2 with⟨_,h4⟩|⟨g,cap,cur,h3,_⟩
      .omega
      .have h3':γ o=.slice (some ⟨g,0,none⟩) l.length cap:=h3;refine .same h (by rw[hv,hk];show(Instr.indexAt t (γ o) _).run P w=_;rw[h3'];exact run_indexAt hΘ ht hkind he g 0 _ cap k n hp.1 hp.2) ⟨g,l.length,cap,e',r,l,fr,ho,h3',?_⟩
       grind
     .cases hc
    .cases hc
   · grind
   .cases hc
  .cases hc
 .cases hc
theorem Iy{t:TypeId}{ti:TI}(hT:dG P t ti)(hk:ti.kind=.str)(s:Bytes)(k:IntKind)(n:Int)(h0:0<=n)(h1:n<s.length):
 (Instr.index t (.string ⟨s.toArray⟩) (.int k n)).run P w=.ok (.int .u8 ((s.getD n.toNat 0).toNat:Int)) w:=by
 have hu:=hT.und;have hlt:n.toNat<s.length:=by omega
 have hg:(⟨s.toArray⟩:ByteArray)[n.toNat]? =some (s.getD n.toNat 0):=by
  have hsz:n.toNat<(⟨s.toArray⟩:ByteArray).size:=by grind [size_bytes]
  rw[getElem?_pos (⟨s.toArray⟩:ByteArray) n.toNat hsz];rw[Zq,Zf hlt];rfl
 simp_all [Instr.index,asIntOf,Zb]
theorem Jp(hΘ:∀t ti,Θ t=some ti->dG P t ti)(h:Rel w0 M T γ st a w){d:Nat}{t:TypeId}{x ix:Operand}{p:Prop}{v:AV}{δ:List (Nat×ak)}
 (hc:calm Θ Γ d st (.index t x ix)=some (p,v,δ)) (hp:p):Yields P w0 M T st a w (Instr.index t (a.eval x) (a.eval ix)) v δ:=by
 simp only[calm]at hc;split at hc
 .next ti n s ht hn hev=>
  obtain⟨k,hk,_⟩:=ji h hn;split at hc
  .next hkind=>cases hc;obtain⟨hs,_⟩:a.eval x=.string ⟨s.toArray⟩/\s.length<=maxLen:=eu h hev;refine .same h (by grind [Iy]) ⟨rfl,?_⟩;have:(s.getD n.toNat 0).toNat<256:=UInt8.toNat_lt _;have e1:IntKind.u8.min=0:=rfl;have e2:IntKind.u8.max=255:=rfl;omega
  .cases hc
 .cases hc
theorem Jq(hΘ:∀t ti,Θ t=some ti->dG P t ti)(h:Rel w0 M T γ st a w){d:Nat}{s:TypeId}{x:Operand}{f:Nat}{p:Prop}{v:AV}{δ:List (Nat×ak)}
 (hc:calm Θ Γ d st (.field s x f)=some (p,v,δ)):Yields P w0 M T st a w (Instr.field s (a.eval x) f) v δ:=by
 have hx:=bH h x;simp only[calm]at hc;split at hc
 .next ti hs=>
  split at hc
  .next fs hk=>
   split at hc
   .next k t cs hf hev=>
    split at hc
    .next te ht=>
     split at hc
     .next sv hsv=>
      cases hc;rw[hev]at hx;obtain⟨vs,hv,hr⟩:=hx;have hu:=(hΘ s ti hs).und;rw[hk]at hu;obtain⟨lJ,hu,rfl,_⟩:=hu;rw[ZR]at hf;cases hfl:lJ.toList[f]? with
      |none=>grind
      |some fl=>
       rw[hfl]at hf;obtain⟨rfl,rfl⟩:=hf;have FU:lJ[f]? =some fl:=by simpa using hfl
       have hT:=hΘ _ te ht;unfold dF at hsv;split at hsv
       .next hagg=>
        split at hsv
        .next hle=>
         cases hsv;refine .same h (u:=.agg (vs.extract fl.offset (fl.offset+te.cells.len))) ?_ ⟨_,rfl,?_⟩
         .rw[hv];simp[Instr.field,Zj,Zb hu w,FU,asAgg,part,hT.yQ,hagg,hT.run_sizeOf]
         simp_all [ah.take,ah.drop]
        .cases hsv
       .next hagg=>
        split at hsv
        .next c hcc=>
         cases hsv;obtain⟨u,hu2,hR⟩:=ah.get _ _ _ _ hr hcc;have hu3:vs[fl.offset]? =some u:=by simpa using hu2
         refine .same h (u:=u) ?_ hR;rw[hv];simp[Instr.field,Zj,Zb hu w,FU,asAgg,part,hT.yQ,hagg,hu3]
        .cases hsv
     .cases hc
    .cases hc
   .cases hc
  .cases hc
 .cases hc
theorem foldl_set(cs:List Value):∀(off k:Nat)(cells:Array Value),off+k+cs.length<=cells.size->
 ((cs.zipIdx k).foldl (λ(xs:Array Value)(p:Value×Nat)=>xs.setIfInBounds (off+p.2) p.1) cells).toList=cells.toList.take (off+k)++cs++cells.toList.drop (off+k+cs.length):=by
 induction cs with
 |nil=>simp_all
 |cons c cs ih=>
  intro off k cells hle;simp only[Y0]at hle;rw[List.zipIdx_cons,List.foldl_cons,ih off (k+1) _ (by grind)];have hsz:cells.toList.length=cells.size:=ZG;rw[Array.toList_setIfInBounds];generalize cells.toList=l at*;have h1:(l.set (off+k) c).take (off+(k+1))=l.take (off+k)++[c]:=by rw[show off+(k+1)=off+k+1 by omega,List.take_set,Zy (by omega),aaj _ _ (by grind)];rw[Zw,aaE (by omega),Nat.sub_self];rfl
  grind [List.drop_set_of_lt]
theorem wS{X:V}{cs ys:List Cell}{vs us:List Value}(off:Nat)(h1:ah X cs vs)(h2:ah X ys us):
 ah X (splice cs off ys) (vs.take off++us++vs.drop (off+us.length)):=by
 grind [splice,ah.length,ah.append,ah.take,ah.drop]
theorem Jr(hΘ:∀t ti,Θ t=some ti->dG P t ti)(h:Rel w0 M T γ st a w){fs:List (Nat×TypeId)}{place:Nat->Option (Nat×Nat)}(hpl:∀i off t ti,fs[i]? =some (off,t)->Θ t=some ti->place i=some (off,ti.cells.len)):
 ∀(parts:List (Nat×Operand))(cs ds:List Cell)(cells:Array Value),ah (ai w0 T γ st w) cs cells.toList->pX Θ st fs parts cs=some ds->
  ∃out,Instr.fill place cells (parts.map λx=>(x.1,a.eval x.2))=some out/\ah (ai w0 T γ st w) ds out.toList
 |[],cs,ds,cells,hr,hb=>by
  cases hb;exact⟨cells,rfl,hr⟩
 |(i,x)::r,cs,ds,cells,hr,hb=>by
  rw[pX]at hb;split at hb
  .next off t v hf hev=>
   split at hb
   .next ti ht=>
    split at hb
    .next hle=>
     simp only[YZ]at hle;have h1:=YX hle.1;have h2:=Zx hle.2;have hx:=bH h x;rw[hev]at hx;have hcells:=aP.cells v _ hx;have hlen:=ah.length _ _ hcells;have hlen2:=ah.length _ _ hr;have Qw:ah (ai w0 T γ st w) (splice cs off v.cells) ((a.eval x).cells.zipIdx.foldl (λcs(c,j)=>cs.setIfInBounds (off+j) c) cells).toList:=by
      have hfold:((a.eval x).cells.zipIdx.foldl (λcs(c,j)=>cs.setIfInBounds (off+j) c) cells).toList=cells.toList.take off++(a.eval x).cells.toList++cells.toList.drop (off+(a.eval x).cells.toList.length):=by
       rw[← Array.foldl_toList,Array.toList_zipIdx]
       simp_all [foldl_set]
      grind [wS]
     obtain⟨out,ho,hR⟩:=Jr hΘ h hpl r _ ds _ Qw hb
     grind [Instr.fill]
    .cases hb
   .cases hb
  .cases hb
theorem Js(hΘ:∀t ti,Θ t=some ti->dG P t ti)(h:Rel w0 M T γ st a w){d:Nat}{t:TypeId}{parts:Array (Nat×Operand)}{p:Prop}{v:AV}{δ:List (Nat×ak)}
 (hc:calm Θ Γ d st (.build t parts)=some (p,v,δ)):Yields P w0 M T st a w (Instr.build t (parts.map λx=>(x.1,a.eval x.2))) v δ:=by
 simp only[calm]at hc;split at hc
 .next ti ht=>
  split at hc
  .next fs hk=>
   split at hc
   .next cs hb=>
    cases hc;have hT:=hΘ t ti ht;obtain⟨i,z,hi,hsz,hby,hz,hzv,_⟩:=hT.info;have hu:=hT.und;rw[hk]at hu;obtain⟨lJ,hu,hfs,hall⟩:=hu;have hz0:ah (ai w0 T γ st w) ti.cells.zeros z.cells.toList:=by grind [BV]
    obtain⟨places,hpm,Yo⟩:∃places,lJ.toList.mapM (λf=>(P.info? f.type).map λi=>(f.offset,i.size))=some places/\places=lJ.toList.map λf=>(f.offset,P.cellsOf f.type):=by
     refine⟨_,?_,rfl⟩;generalize lJ.toList=l at hall
     induction l with
     |nil=>rfl
     |cons f l ih=>
      cases hi:P.info? f.type with
      |none=>grind
      |some i=>
       grind [Program.cellsOf]
    have hpl:∀(i off:Nat)(t:TypeId)(ti:TI),fs[i]? =some (off,t)->Θ t=some ti->places[i]? =some (off,ti.cells.len):=by
     intro i off t ti hf ht;rw[hfs,ZR]at hf;cases hfl:lJ.toList[i]? with
     |none=>grind
     |some fl=>
      have:=(hΘ _ ti ht).size
      grind [Program.cellsOf]
    obtain⟨out,ho,hR⟩:=Jr hΘ h (place:=(places[·]?)) hpl parts.toList _ _ z.cells hz0 hb;refine .same h (u:=.agg out) ?_ ⟨out,rfl,hR⟩
    simp_all [run_build,Program.built]
   .cases hc
  .cases hc
 .cases hc
theorem xZ{t:TypeId}{ti:TI}(hT:dG P t ti):∃z,(zeroValue t).run P w=.ok z w/\z.cells.toList=ti.cells.fG:=by
 obtain⟨i,z,hi,hsz,hby,hz,hzv,_⟩:=hT.info
 simp_all [zeroValue,typeInfo]
theorem DK(w:World)(t:TypeId)(v:Value):(newVar t v).run P w=.ok ⟨w.heap.size,0,none⟩ (w.alloc (.cells v.cells t)):=by rfl
theorem Jt(hΘ:∀t ti,Θ t=some ti->dG P t ti)(h:Rel w0 M T γ st a w){d:Nat}{t:TypeId}{p:Prop}{v:AV}{δ:List (Nat×ak)}
 (hc:calm Θ Γ d st (.alloc t)=some (p,v,δ)) (hf:bV st δ=true):Yields P w0 M T st a w (Instr.alloc t true (.tuple #[])) v δ:=by
 simp only[calm]at hc;split at hc
 .next ti ht=>
  cases hc;obtain⟨z,hz,hzv⟩:=xZ (w:=w) (hΘ t ti ht);have hn:st.af (d*64)=none:=by simp_all [bV]
  obtain⟨h1,h2⟩:=h.Jl (d*64) ti.cells.zeros hn (by omega) z.cells t (by grind [BV]);refine⟨_,_,_,?_,h1,h2⟩
  simp_all [Instr.alloc,DK]
 .cases hc
theorem Nu(h:Rel w0 M T γ st a w){d:Nat}{t:TypeId}{x:Operand}{p:Prop}{v:AV}{δ:List (Nat×ak)}
 (hc:calm Θ Γ d st (.box t x)=some (p,v,δ)) (hf:bV st δ=true):Yields P w0 M T st a w (Instr.box t (a.eval x)) v δ:=by
 have hx:=bH h x;simp only[calm]at hc;split at hc
 .next s hev=>
  cases hc;rw[hev]at hx;have hn:st.af (d*64)=none:=by simp_all [bV]
  obtain⟨h1,h2⟩:=h.Jl (d*64) s.cells hn (by omega) (a.eval x).cells t (aP.cells s _ hx);refine⟨_,_,_,?_,h1,h2⟩;simp[Instr.box,DK]
 .cases hc
theorem Bd(h:Rel w0 M T γ st a w)(r:aj)(fr:Bool):∀(parts:List (Nat×Operand))(k:Nat)(l:List r.den),nJ st r k parts=some l->dM st parts=[]->(fr=true->dS st parts=true)->
 l.length=parts.length/\(parts.map λx=>(x.1,a.eval x.2))=((parts.map λx=>a.eval x.2).zipIdx k).map (λx=>(x.2,x.1))/\(∀v∈parts.map (λx=>a.eval x.2),v.cells.size=r.len)/\
 ∀i x,l[i]? =some x->aC w.heap ((ai w0 T γ st w).aH fr) r ((((parts.map λx=>a.eval x.2).flatMap λv=>v.cells.toList).drop (i*r.len)).take r.len) x
 |[],k,l,hr,_,_=>by
  simp_all [nJ]
 |(i,x)::ps,k,l,hr,hn,hf=>by
  rw[nJ]at hr;rw[dM,Zk]at hn;split at hr
  .next v l' hb hev hl'=>
   split at hr
   .next y hy=>
    cases hr;have hx:=bH h x;rw[hev]at hx hn;have hcells:=aP.cells v _ hx;have hfr:fr=true->v.cells.all (Cell.fresh st)=true/\dS st ps=true:=by
     grind [dS]
    have hR:=sS h fr r v.cells _ y hcells hy hn.1 (λe=>(hfr e).1);have hlen:=aC.length _ _ _ hR;obtain⟨h1,h2,h3,h4⟩:=Bd h r fr ps (k+1) l' hl' hn.2 (λe=>(hfr e).2);refine⟨by simp[h1],?_,?_,λj z hj=>?_⟩
    · simp_all
    · grind
    .cases j with
     |zero=>
      grind
     |succ j=>
      grind [Nat.add_mul,List.drop_drop,List.drop_left]
   .cases hr
  .cases hr
theorem AB(hΘ:∀t ti,Θ t=some ti->dG P t ti)(h:Rel w0 M T γ st a w){d:Nat}{t:TypeId}{len:Nat}{parts:Array (Nat×Operand)}{p:Prop}{v:AV}{δ:List (Nat×ak)}
 (hc:calm Θ Γ d st (.buildSlice t len parts)=some (p,v,δ)) (hf:bV st δ=true):Yields P w0 M T st a w (Instr.buildSlice t len (parts.map λx=>(x.1,a.eval x.2))) v δ:=by
 simp only[calm]at hc;split at hc
 .next ti ht=>
  split at hc
  .next e hk=>
   split at hc
   .next te he=>
    split at hc
    .next l hb hrefs hrows=>
     cases hc;simp only[YZ]at hb;have hlen:len=parts.size:=YX hb.1.1;have hpos:0<te.cells.len:=Zx hb.1.2;have hsm:len*te.cells.len<=16777216:=Zx hb.2;have hn:st.af (d*64+1)=none:=by simp_all [bV]
     obtain⟨h1,h2,h3,h4⟩:=Bd h te.cells (dS st parts.toList) parts.toList 0 l hrows hrefs (λe=>e);have hT:=hΘ e te he;obtain⟨i,z,hi,hsz,hby,hz,hzv,_⟩:=hT.info;have hu:=(hΘ t ti ht).und;rw[hk]at hu;have hsum:∀(vs:List Value),(∀v∈vs,v.cells.size=te.cells.len)->(vs.flatMap λv=>v.cells.toList).length=vs.length*te.cells.len:=by
      intro vs hvs
      induction vs with
      |nil=>simp
      |cons v vs ih=>
       grind
     have hl:l.length=len:=by grind
     by_cases hzero:len=0
     .have hl0:l=[]:=ZN.1 (by omega);obtain⟨g1,g2⟩:=h.BU (d*64+1) e te.cells l (dS st parts.toList) hn #[] 0 hpos (by omega) (Zm _) (by simp) (λi x hx=>by grind);refine⟨_,_,_,?_,g1,g2⟩;have hp0:parts=#[]:=Array.size_eq_zero_iff.1 (by omega);subst hp0 hzero;subst hl0;have e0:Array.map (λ_=>(default:Value)) (Array.range 0)=#[]:=by simp
      simp[Instr.buildSlice,Zj,Zb hu.1 w,hT.run_sizeOf,Instr.fill,newRow,newObj,Sem.run,e0]
     .have DL:=Great.fill_whole hpos (parts.toList.map λx=>a.eval x.2) ((Array.range (len*i.size)).map (z.cells[· %z.cells.size]!)) h3 (by grind);obtain⟨g1,g2⟩:=h.BU (d*64+1) e te.cells l (dS st parts.toList) hn ((parts.toList.map λx=>a.eval x.2).flatMap λv=>v.cells.toList).toArray len hpos (by omega)
       (by unfold maxLen;have:len*1<=len*te.cells.len:=Nat.mul_le_mul_left _ hpos;omega) (by grind) (λi x hx=>h4 i x hx)
      rw[hl]at g1 g2;refine⟨_,_,_,?_,g1,g2⟩;refine run_buildSlice w t e len _ _ i z hu.1 hi hz (by rw[hsz];omega) (by rw[hsz];have:0<len*te.cells.len:=Nat.mul_pos (by omega) hpos;omega) ?_
      simp_all
    .cases hc
   .cases hc
  .cases hc
 .cases hc
theorem lT:∀(r:aj),r.fG.length=r.len
 |.nil=>rfl
 |.cons _ r=>by simp[aj.fG,aj.len,lT r]
theorem Cc(hΘ:∀t ti,Θ t=some ti->dG P t ti)(h:Rel w0 M T γ st a w){d:Nat}{t:TypeId}{x y:Operand}{p:Prop}{v:AV}{δ:List (Nat×ak)}
 (hc:calm Θ Γ d st (.makeSlice t x y)=some (p,v,δ)) (hp:p) (hf:bV st δ=true):Yields P w0 M T st a w (Instr.makeSlice t (a.eval x) (a.eval y)) v δ:=by
 simp only[calm]at hc;split at hc
 .next ti n c ht hn hcc=>
  obtain⟨k1,hk1,_⟩:=ji h hn;obtain⟨k2,hk2,_⟩:=ji h hcc;split at hc
  .next e hk=>
   split at hc
   .next te he=>
    split at hc
    .next wU=>
     cases hc;have hpos:0<te.cells.len:=Zx wU;have hT:=hΘ e te he;obtain⟨i,z,hi,hsz,hby,hz,hzv,_⟩:=hT.info;have hu:=(hΘ t ti ht).und;rw[hk]at hu;have hno:st.af (d*64+1)=none:=by simp_all [bV]
     obtain⟨p1,p2,p3⟩:=hp;unfold big at p3;have hzs:z.cells.size=te.cells.len:=by grind [lT]
     have hcells:∀j,j<c.toNat*te.cells.len->(madeCells z.cells (c.toNat*te.cells.len))[j]? =te.cells.fG[j%te.cells.len]? :=by
      grind [madeCells,Nat.mod_lt]
     obtain⟨g1,g2⟩:=h.BU (d*64+1) e te.cells (List.replicate n.toNat te.cells.dflt) true hno (madeCells z.cells (c.toNat*te.cells.len)) c.toNat hpos (by simp;omega) (by grind [maxLen])
      (size_madeCells _ _) (λj x hx=>by
        have hlt:j<n.toNat:=by
         grind
        have hmul:j*te.cells.len+te.cells.len<=c.toNat*te.cells.len:=by
         have:(j+1)*te.cells.len<=c.toNat*te.cells.len:=Y3 _ (by omega)
         grind
        have:(((madeCells z.cells (c.toNat*te.cells.len)).toList.drop (j*te.cells.len)).take te.cells.len)=te.cells.fG:=by
         apply ZL
         grind [Nat.add_mul_mod_self_right,Nat.mod_eq_of_lt]
        grind [yS])
     rw[ZX]at g1 g2;refine⟨_,_,_,?_,g1,g2⟩;rw[hk1,hk2,← hsz];have hbb:=hT.small;refine run_make w t e i z hu.1 hi hz k1 k2 n c p1 p2 ?_ (by omega);rw[hby];have:(te.bytes:Int)*c<=4096*4294967296:=by have h1:(te.bytes:Int)*c<=4096*c:=ZV (by omega) (by omega);omega
     omega
    .cases hc
   .cases hc
  .cases hc
 .cases hc
theorem foldl_push(ns:List Int):∀(b:ByteArray),(ns.foldl (λr n=>r.push (UInt8.ofNat n.toNat)) b)=⟨(b.data.toList++ns.map λn=>UInt8.ofNat n.toNat).toArray⟩:=by
 induction ns with
 |nil=>simp
 |cons n ns ih=>
  simp_all
theorem Nv(l:List (aj.cons (.int .u8) .nil).den):byteRow l=(l.map FQ).map λn=>UInt8.ofNat (Int.toNat n):=by
 simp_all [byteRow]
theorem Iz{F:Nat->Prop}{e:TypeId}{v:Value}{l:List (aj.cons (.int .u8) .nil).den}(h:aU w.heap F (.sl e (.cons (.int .u8) .nil)) v l):
 (Conv.bytesToString v).run P w=.ok (.string ⟨(byteRow l).toArray⟩) w/\(byteRow l).length<=maxLen:=by
 refine⟨?_,by unfold byteRow;rw[ZF];exact h.1⟩;rcases h.2 with⟨hl,a,c,hv⟩|⟨b,off,cap,cs,t,fz,hv,_,_,hb,hx⟩
 .subst hl;rw[hv];cases a with
  |none=>rfl
  |some a=>rfl
 .rw[hv];rw[run_bytesToString w ⟨b,off,none⟩ l.length cap (l.map FQ) ?_,foldl_push,Nv]
  .rfl
  .have hcells:∀j u,((l.map FQ).map (Value.int .u8))[j]? =some u->w.cell? ((⟨b,off,none⟩:Addr).add j)=some u:=by
    intro j u hj;rw[aae,ZR]at hj;cases hlj:l[j]? with
    |none=>grind
    |some x=>
     have hr:=hx j x hlj;obtain⟨n,un⟩:=x;obtain⟨v',vs',e1,h1,h2⟩:=hr;have e2:v'=.int .u8 (FQ (n,un)):=h1.1;rw[addr_add];simp only[World.cell?,hb];have e3:(cs.toList.drop (off+j*1)).head?=some v':=by
      have e4:aj.len (.cons (.int .u8) .nil)=1:=rfl;cases hd:cs.toList.drop (off+j*1)with
      |nil=>grind
      |cons y ys=>grind
     simp_all
   grind [run_loadCells_list,List.length_map]
theorem jR(hΘ:∀t ti,Θ t=some ti->dG P t ti){t:TypeId}{ti:TI}(ht:Θ t=some ti){d:TypeDesc}(hd:ti.cells.desc=some d):ti.agg=true\/P.underlying t=some d:=by
 have hu:=(hΘ t ti ht).und;unfold TI.agg;split at hu
 · grind
 .next hk=>rw[hu.2]at hd;cases hd;exact .inr hu.1
 .next e hk=>obtain⟨hu,r,hr⟩:=hu;rw[hr]at hd;cases hd;exact .inr hu
 grind
theorem Ju(h:Rel w0 M T γ st a w){src dst e:TypeId}(us:P.underlying src=some .string)(ud:P.underlying dst=some (.slice e))(ue:P.underlying e=some (.int .u8))(s:Bytes)(hl:s.length<=maxLen):
 Yields P w0 M T st a w (convert src dst (.string ⟨s.toArray⟩)) (.sv (.one (.sl e (.cons (.int .u8) .nil) (nK s) true))) []:=by
 have hrun:=run_bytes_of_string (P:=P) w src dst e ⟨s.toArray⟩ us ud ue
 let o:Obj:=.cells (bytesRow ⟨s.toArray⟩ (grownCap w (⟨s.toArray⟩:ByteArray).size 0 e)) e ((bytesRow ⟨s.toArray⟩ (grownCap w (⟨s.toArray⟩:ByteArray).size 0 e)).size,(bytesRow ⟨s.toArray⟩ (grownCap w (⟨s.toArray⟩:ByteArray).size 0 e)).size+1)
 have hsz:(w.drew.alloc o).heap.size=w.heap.size+1:=by
  simp_all
 have hg:=h.grown (γ':=γ) (w':=w.drew.alloc o) st.af (λ_ _ h=>h) (λ_ _ _=>rfl) rfl rfl rfl (by omega) (λb hb=>heap_alloc_old w.drew o hb)
  (λp x h1 h2=>by grind) (λp cs h1 h2=>by grind) (λp x q y b h1 h2=>by grind)
 refine⟨_,_,γ,hrun,hg.1,?_⟩;have hlen:(nK s).length=s.length:=by grind [nK]
 refine⟨by omega,.inr ⟨w.heap.size,0,grownCap w (⟨s.toArray⟩:ByteArray).size 0 e,_,e,_,?_,?_,⟨⟨?_,?_,?_⟩,?_⟩,nV w.drew o,?_⟩⟩
 .rw[hlen,size_bytes]
 · grind [grownCap_ge,size_bytes]
 · grind
 .intro hlt;have:w.heap.size<w0.heap.size:=hlt;have:=h.grow;omega
 .intro p x hp hb;have:=(h.lt p x _ hp hb).1;omega
 .intro _;refine⟨h.grow,λcs t fz hc k hk hm=>?_⟩;cases (show some (Obj.cells cs t fz)=some (.cells _ _ _)from hc.symm.trans (nV w.drew o));exact absurd hm.1 (by omega)
 .intro i x hi;have hlt:i<s.length:=by grind
  unfold nK at hi;rw[ZR,Zf hlt]at hi;cases hi;refine⟨.int .u8 (s[i].toNat:Int),[],?_,⟨rfl,?_⟩,rfl⟩
  .show List.take 1 (List.drop (0+i*1) (bytesRow ⟨s.toArray⟩ _).toList)=_
   grind [bytesRow,List.drop_eq_getElem_cons]
  .have:=UInt8.toNat_lt s[i];have e1:IntKind.u8.min=0:=rfl;have e2:IntKind.u8.max=255:=rfl;omega
theorem FW(hΘ:∀t ti,Θ t=some ti->dG P t ti)(h:Rel w0 M T γ st a w){d:Nat}{src dst:TypeId}{x:Operand}{p:Prop}{v:AV}{δ:List (Nat×ak)}
 (hc:calm Θ Γ d st (.convert src dst x)=some (p,v,δ)):Yields P w0 M T st a w (convert src dst (a.eval x)) v δ:=by
 simp only[calm]at hc;split at hc
 .next ts td c hs hd hev=>
  have hx:=eu h hev;split at hc
  .cases hc
  .next hagg=>
   simp only[aad,not_or,Bool.not_eq_true]at hagg;split at hc
   .next k0 k l n e1 e2=>
    cases hc;have us:=(jR hΘ hs (d:=.int k0) (by rw[e1];rfl)).resolve_left (by grind);have ud:=(jR hΘ hd (d:=.int k) (by rw[e2];rfl)).resolve_left (by grind);obtain⟨hv,_⟩:=hx;refine .same h (u:=.int k (k.wrap n)) ?_ ⟨rfl,oU _ _⟩
    simp_all [convert,Zb,Conv.intToInt]
   .next s e1 e2=>
    cases hc;have us:=(jR hΘ hs (d:=.string) (by rw[e1];rfl)).resolve_left (by grind);have ud:=(jR hΘ hd (d:=.string) (by rw[e2];rfl)).resolve_left (by grind);obtain⟨hv,hl⟩:=hx;refine .same h (u:=.string ⟨s.toArray⟩) ?_ ⟨rfl,hl⟩
    simp_all [convert,Zb]
   .next e s e1 e2=>
    split at hc
    .next te he=>
     split at hc
     .next e3 e4=>
      cases hc;have us:=(jR hΘ hs (d:=.string) (by rw[e1];rfl)).resolve_left (by grind);have ud:=(jR hΘ hd (d:=.slice e) (by rw[e2];rfl)).resolve_left (by grind);have ue:=(jR hΘ he (d:=.int .u8) (by rw[e3];rfl)).resolve_left (by rw[e4];simp);obtain⟨hv,hl⟩:=hx
      grind [Ju]
     .cases hc
    .cases hc
   .next c' e e1 e2=>
    split at hc
    .next l te hl he=>
     split at hc
     .next e3 e4=>
      cases hc;have us:=(jR hΘ hs (d:=.slice e) (by rw[e1];rfl)).resolve_left (by grind);have ud:=(jR hΘ hd (d:=.string) (by rw[e2];rfl)).resolve_left (by grind);have ue:=(jR hΘ he (d:=.int .u8) (by rw[e3];rfl)).resolve_left (by rw[e4];simp);have hg:=Cell.zY h _ _ _ _ hx hl;obtain⟨hr,hlen⟩:=Iz (P:=P) hg;refine .same h (u:=.string ⟨(byteRow l).toArray⟩) ?_ ⟨rfl,hlen⟩;have hg:oO _ _ _ _ (a.eval x) l:=hg;obtain⟨ad,n,cp,hv⟩:∃ad n cp,a.eval x=.slice ad n cp:=by rcases hg.2 with⟨_,ad,cp,hv⟩|⟨b,off,cap,_,_,_,hv,_⟩<;>exact⟨_,_,_,hv⟩
      simp_all [convert,Zb]
     .cases hc
    .cases hc
   .cases hc
 .cases hc
theorem Jv(hΘ:∀t ti,Θ t=some ti->dG P t ti)(h:Rel w0 M T γ st a w){d:Nat}{op:BinOp}{t t':TypeId}{x y:Operand}{p:Prop}{v:AV}{δ:List (Nat×ak)}
 (hc:calm Θ Γ d st (.binOp op t x y t')=some (p,v,δ)) (hp:p):Yields P w0 M T st a w (do eqGuard op t x y (a.eval x) (a.eval y);binOp op t (a.eval x) (a.eval y)) v δ:=by
 simp only[calm]at hc;split at hc
 .next c1 c2 e1 e2=>
  split at hc
  .next hb=>
   split at hc
   .next q c hq=>
    cases hc;obtain⟨r,hr,hR⟩:=Ld (P:=P) (w:=w) (t:=t) (s:=x) (u:=y) (ai w0 T γ st w) hq hp (eu h e1) (eu h e2) (λb1 b2 h1 h2=>by
     subst h1 h2;simp only[LW]at hb;split at hb
     .next ti ht=>
      split at hb
      .next hcells=>exact(jR hΘ ht (d:=.bool) (by rw[hcells];rfl)).resolve_left (by grind)
      .cases hb
     .cases hb)
    exact .same h hr hR
   .cases hc
  .cases hc
 .next a1 a2 e1 e2=>
  split at hc
  .next ti ht=>
   split at hc
   .next b hcmp heq=>
    split at hc
    .next hlen=>cases hc;have h1:=bH h x;have h2:=bH h y;rw[e1]at h1;rw[e2]at h2;obtain⟨vs,hv,hr1⟩:=h1;obtain⟨us,hu,hr2⟩:=h2;have:=(hΘ t ti ht).cmp hcmp w x y (ai w0 T γ st w) a1 a2 vs us b hlen hr1 hr2 heq;rw[hv,hu];exact .same h this.1 rfl
    .cases hc
   .next b hcmp heq=>
    split at hc
    .next hlen=>cases hc;have h1:=bH h x;have h2:=bH h y;rw[e1]at h1;rw[e2]at h2;obtain⟨vs,hv,hr1⟩:=h1;obtain⟨us,hu,hr2⟩:=h2;have:=(hΘ t ti ht).cmp hcmp w x y (ai w0 T γ st w) a1 a2 vs us b hlen hr1 hr2 heq;rw[hv,hu];exact .same h this.2 rfl
    .cases hc
   .cases hc
  .cases hc
 .cases hc
theorem yV(h:Rel w0 M T γ st a w){x:Operand}{o lo n:Nat}(hev:st.ev x=.win o lo n):∃b m cap e r l fr,st.af o=some (.arr e r l fr)/\γ o=.slice (some ⟨b,0,none⟩) m cap/\
 (∃q,(q=lo*r.len\/cap<=lo)/\a.eval x=.slice (some ⟨b,q,none⟩) n (cap-lo)/\lo+n<=cap):=by
 have hx:=bH h x;rw[hev]at hx;exact hx
theorem LY(h:Rel w0 M T γ st a w){o:Nat}{e:TypeId}{r:aj}{l:List r.den}{fr:Bool}(ho:st.af o=some (.arr e r l fr)){b m cap:Nat}(hγ:γ o=.slice (some ⟨b,0,none⟩) m cap):cap<=maxLen/\l.length<=cap:=by
 obtain⟨xs,⟨_,h2⟩,_⟩:=h.af o _ ho
 grind
theorem Jw(hΘ:∀t ti,Θ t=some ti->dG P t ti)(h:Rel w0 M T γ st a w){d:Nat}{t:TypeId}{x:Operand}{lo hi:Option Operand}{p:Prop}{v:AV}{δ:List (Nat×ak)}
 (hc:calm Θ Γ d st (.slice t x lo hi none)=some (p,v,δ)) (hp:p):Yields P w0 M T st a w (Instr.sliceAt t (a.eval x) (lo.map a.eval) (hi.map a.eval) none) v δ:=by
 simp only[calm]at hc;split at hc
 .next ti s ht hev=>
  obtain⟨hv,hl⟩:a.eval x=.string ⟨s.toArray⟩/\s.length<=maxLen:=eu h hev;split at hc
  .next q i j hk hb=>
   cases hc;obtain⟨hr,h1,h2⟩:=iJ (P:=P) h (Zg _) hb hp false;have hu:=(hΘ t ti ht).und;rw[hk]at hu;refine .same h (u:=.string ⟨((s.take j).drop i).toArray⟩) ?_ ⟨rfl,by simp;omega⟩
   simp_all [Instr.sliceAt,Instr.slice,Zb,size_bytes,Iw]
  .cases hc
 .next ti e r l fr ht hev=>
  have hx:=eu h hev;split at hc
  .next f q i j hk hb=>
   split at hc
   .next te he=>
    split at hc
    .next hbeq=>
     cases hc;obtain⟨ad,c,hv,hl⟩:=Jk hx;have hlc:l.length<=c:=by
      have hx':oO _ _ _ _ (a.eval x) l:=hx;rcases hx'.2 with⟨hl0,_⟩|⟨b,off,cap,cs,t,fz,hv',hcap,_⟩
      · grind
      grind
     obtain⟨hr,h1,h2⟩:=iJ (P:=P) h hlc hb hp true;have hu:=(hΘ t ti ht).und;rw[hk]at hu;have hsz:te.cells.len=r.len:=by grind [aj.eq_of_beq]
     rw[hv]at hx;refine .same h ?_ (TG hx h1 h2);rw[hv];simp[Instr.sliceAt,Instr.slice,Zj,Zb hu.1 w,hr,(hΘ f te he).run_sizeOf,hsz]
    .cases hc
   .cases hc
  .cases hc
 .next ti ht hev=>
  have hv:a.eval x=.slice none 0 0:=eu h hev;split at hc
  .next f q i j hk hb=>
   split at hc
   .next te he=>
    cases hc;obtain⟨hr,h1,h2⟩:=iJ (P:=P) h (Zg 0) hb hp true;have hj:j=0:=by omega
    have hi0:i=0:=by omega
    subst hj hi0;have hu:=(hΘ t ti ht).und;rw[hk]at hu;refine .same h (u:=.slice none 0 0) ?_ rfl;rw[hv];simp[Instr.sliceAt,Instr.slice,Zj,Zb hu.1 w,hr,(hΘ f te he).run_sizeOf]
   .cases hc
  .cases hc
 .next ti o oG n0 ht hev=>
  split at hc
  .next f e r l fr hk ho=>
   split at hc
   .next te q i j he hb=>
    split at hc
    .next hbeq=>
     cases hc;obtain⟨g,m,cap,e',r',l',fr',hx,hγ,⟨p0,hp0,hv,hle⟩⟩:=yV h hev;rw[ho]at hx;cases hx;obtain⟨hcap,hlc⟩:=LY h ho hγ;have hsz:te.cells.len=r.len:=by grind [aj.eq_of_beq]
     have hu:=(hΘ t ti ht).und;rw[hk]at hu;have key:(Instr.sliceBounds true n0 (cap-oG) (lo.map a.eval) (hi.map a.eval) none).run P w=.ok (i,j,cap-oG) w/\i<=j/\j<=cap-oG:=by
      unfold yL at hb;split at hb
      · grind [iJ]
      .next hh=>obtain⟨hr,h1,h2⟩:=iJ (P:=P) (cap:=cap-oG) h (show l.length-oG<=cap-oG by omega) hb hp true;exact⟨hr,h1,by omega⟩
     obtain⟨hr,h1,h2⟩:=key;refine .same h (u:=.slice (if cap-oG=i then some ⟨g,p0,none⟩else(some (⟨g,p0,none⟩:Addr)).map (·.add (i*r.len))) (j-i) (cap-oG-i)) ?_ ?_
     .rw[hv];simp[Instr.sliceAt,Instr.slice,Zj,Zb hu.1 w,hr,(hΘ f te he).run_sizeOf,hsz]
     .refine⟨g,m,cap,e,r,l,fr,ho,hγ,?_⟩
      grind [Addr.add]
    .cases hc
   .cases hc
  .cases hc
 .cases hc
theorem IA(hΘ:∀t ti,Θ t=some ti->dG P t ti)(h:Rel w0 M T γ st a w){d:Nat}{t:TypeId}{x lo hi mx:Operand}{p:Prop}{v:AV}{δ:List (Nat×ak)}
 (hc:calm Θ Γ d st (.slice t x (some lo) (some hi) (some mx))=some (p,v,δ)) (hp:p):Yields P w0 M T st a w (Instr.sliceAt t (a.eval x) (some (a.eval lo)) (some (a.eval hi)) (some (a.eval mx))) v δ:=by
 simp only[calm]at hc;split at hc
 .next ti o ht hev=>
  split at hc
  .next f e r l fr hk ho=>
   split at hc
   .next te n1 n2 n3 he h1 h2 h3=>
    cases hc;obtain⟨k1,e1,_⟩:=ji h h1;obtain⟨k2,e2,_⟩:=ji h h2;obtain⟨k3,e3,_⟩:=ji h h3;have hu:=(hΘ t ti ht).und;rw[hk]at hu;have hx:=eu h hev;obtain⟨ad,cp,hv,hlc⟩:∃ad cp,a.eval x=.slice ad l.length cp/\l.length<=cp:=by
     obtain⟨_,hv,_⟩:=hx;obtain⟨xs,⟨_,g2⟩,_⟩:=h.af o _ ho
     grind
    refine .same h (u:=.slice (if n3.toNat=n1.toNat then ad else ad.map (·.add (n1.toNat*te.cells.len))) (n2.toNat-n1.toNat) (n3.toNat-n1.toNat)) ?_ trivial;rw[hv,e1,e2,e3];have b3:=run_sliceBound (P:=P) (w:=w) (k:=k3) (n:=n3) (y:=cp) (c:=.slice3Acap) (by omega) (by omega);have b2:=run_sliceBound (P:=P) (w:=w) (k:=k2) (n:=n2) (y:=n3.toNat) (c:=.slice3B) (by omega) (by omega);have b1:=run_sliceBound (P:=P) (w:=w) (k:=k1) (n:=n1) (y:=n2.toNat) (c:=.slice3C) (by omega) (by omega);simp[Instr.sliceAt,Instr.slice,Instr.sliceBounds,Zj,Zb hu.1 w,b3,b2,b1,(hΘ f te he).run_sizeOf]
   .cases hc
  .cases hc
 .cases hc
theorem FX(h:Rel w0 M T γ st a w){d:Nat}{x:Operand}{ix:Nat}{p:Prop}{v:AV}{δ:List (Nat×ak)}
 (hc:calm Θ Γ d st (.extract x ix)=some (p,v,δ)):Yields P w0 M T st a w (Instr.extract (a.eval x) ix) v δ:=by
 have hx:=bH h x;simp only[calm]at hc;split at hc
 .next vs hev=>
  split at hc
  .next s hs=>
   cases hc;rw[hev]at hx;obtain⟨us,hv,hr⟩:=hx;have get:∀(xs:List SV)(ys:List Value)(i:Nat)(s:SV),aN (ai w0 T γ st w) xs ys->xs[i]? =some s->∃u,ys[i]? =some u/\aP (ai w0 T γ st w) s u:=by
    intro xs
    induction xs with
    |nil=>grind
    |cons x xs ih=>
     intro ys i s hr hi;cases ys with
     |nil=>cases hr
     |cons y ys=>
      cases i with
      |zero=>simp at hi;subst hi;exact⟨y,rfl,hr.1⟩
      |succ i=>
       obtain⟨u,hu,hR⟩:=ih ys i s hr.2 (by simpa using hi)
       grind
   obtain⟨u,hu,hR⟩:=get vs us.toList ix s hr hs;refine .same h (u:=u) ?_ hR
   simp_all [Instr.extract]
  .cases hc
 .cases hc
theorem Ll(h:Rel w0 M T γ st a w){d:Nat}{op:UnOp}{t:TypeId}{x:Operand}{p:Prop}{v:AV}{δ:List (Nat×ak)}
 (hc:calm Θ Γ d st (.unOp op t x)=some (p,v,δ)):Yields P w0 M T st a w (Op.unary op (a.eval x)) v δ:=by
 simp only[calm]at hc;split at hc
 .next b hev=>cases hc;rw[LX h hev];exact .same h (u:=.bool (!b)) rfl rfl
 .next k n hev=>cases hc;obtain⟨hv,_⟩:=vM h hev;rw[hv];exact .same h (u:=.int k (k.wrap (0-n))) rfl ⟨rfl,oU _ _⟩
 .cases hc
theorem Nw(hΘ:∀t ti,Θ t=some ti->dG P t ti)(h:Rel w0 M T γ st a w){d:Nat}{args:Array Operand}{fU:Array TypeId}{ty:TypeId}{p:Prop}{v:AV}{δ:List (Nat×ak)}
 (hc:calm Θ Γ d st (.call {callee:=.builtin .len,args,argTypes:=fU})=some (p,v,δ)):Yields P w0 M T st a w (Builtin.len_ fU ty (args.map a.eval)) v δ:=by
 simp only[calm]at hc;split at hc
 .next x t hargs FY=>
  have ha:args.map a.eval=#[a.eval x]:=by apply aal;simp[hargs]
  have ht':fU=#[t]:=by grind
  rw[ha,ht'];split at hc
  .next ti c ht hev=>
   have hx:=eu h hev;split at hc
   .next s hk=>cases hc;obtain⟨hv,hl⟩:=hx;rw[hv];refine .same h (Le hΘ ht hk _ ty) ?_;exact⟨rfl,Aa _ hl⟩
   .next e e' r l fr hk=>cases hc;obtain⟨ad,cp,hv,hl⟩:=Jk hx;rw[hv];exact .same h (run_len_slice hΘ ht hk _ _ _ ty) ⟨rfl,Aa _ hl⟩
   .next e hk=>cases hc;have hv:a.eval x=.slice none 0 0:=hx;rw[hv];exact .same h (run_len_slice hΘ ht hk _ _ _ ty) ⟨rfl,by decide⟩
   .next e o hk=>
    split at hc
    .next e' r l fr ho=>cases hc;obtain⟨ad,cp,hv,hl⟩:=TF h hx ho;rw[hv];exact .same h (run_len_slice hΘ ht hk _ _ _ ty) ⟨rfl,Aa _ hl⟩
    .cases hc
   .cases hc
  .next ti o lo n ht hev=>
   split at hc
   .next e hk=>cases hc;obtain⟨g,m,cap,e',r',l',fr',hx,hγ,⟨p0,hp0,hv,hle⟩⟩:=yV h hev;obtain⟨hcap,_⟩:=LY h hx hγ;rw[hv];exact .same h (run_len_slice hΘ ht hk _ _ _ ty) ⟨rfl,Aa _ (by omega)⟩
   .cases hc
  .cases hc
 .cases hc
theorem Ny(h:Rel w0 M T γ st a w){d:Nat}{args:Array Operand}{fU:Array TypeId}{ty:TypeId}{p:Prop}{v:AV}{δ:List (Nat×ak)}
 (hc:calm Θ Γ d st (.call {callee:=.builtin .min,args,argTypes:=fU})=some (p,v,δ)):Yields P w0 M T st a w (Builtin.min_ fU ty (args.map a.eval)) v δ:=by
 simp only[calm]at hc;split at hc
 .next x y hargs=>
  have ha:args.map a.eval=#[a.eval x,a.eval y]:=by apply aal;simp[hargs]
  rw[ha];split at hc
  .next k n l m e1 e2=>
   split at hc
   .next hkl=>cases hc;have hkl:=ZK hkl;subst hkl;obtain⟨h1,h2⟩:=vM h e1;obtain⟨h3,h4⟩:=vM h e2;rw[h1,h3];refine .same h (u:=.int k (if m<n then m else n)) (by simp[Builtin.min_,Builtin.min2]) ⟨rfl,?_⟩;omega
   .cases hc
  .cases hc
 .cases hc
theorem Nz(h:Rel w0 M T γ st a w){d:Nat}{args:Array Operand}{fU:Array TypeId}{ty:TypeId}{p:Prop}{v:AV}{δ:List (Nat×ak)}
 (hc:calm Θ Γ d st (.call {callee:=.builtin .max,args,argTypes:=fU})=some (p,v,δ)):Yields P w0 M T st a w (Builtin.max_ fU ty (args.map a.eval)) v δ:=by
 simp only[calm]at hc;split at hc
 .next x y hargs=>
  have ha:args.map a.eval=#[a.eval x,a.eval y]:=by apply aal;simp[hargs]
  rw[ha];split at hc
  .next k n l m e1 e2=>
   split at hc
   .next hkl=>cases hc;have hkl:=ZK hkl;subst hkl;obtain⟨h1,h2⟩:=vM h e1;obtain⟨h3,h4⟩:=vM h e2;rw[h1,h3];refine .same h (u:=.int k (if m>n then m else n)) (by simp[Builtin.max_,Builtin.max2]) ⟨rfl,?_⟩;omega
   .cases hc
  .cases hc
 .cases hc
structure EnvB(P:Program)(G:cu)(Θ:bJ)(Γ:dn):Prop where
 types:∀t ti,Θ t=some ti->dG P t ti
 cons:∀f con,Γ f=some (.pure con)->jr P G f con/\kJ P f
 IZ:∀f ms con,Γ f=some (.eff ms con)->vO P G f con/\kJ P f
structure iD(P:Program)(G:cu)(Θ:bJ)(Γ:dn)(w0:World)(M:Nat->Prop):Prop extends EnvB P G Θ Γ where
 ok:G.ok w0
 low:∀b,M b->G.n<=b
theorem iD.at{G:cu}(hE:iD P G Θ Γ w0 M)(h:Rel w0 M T γ st a w):G.ok w:=
 G.stable w0 w hE.ok h.grow λb hb=>h.kept b (Zc hb (G.low w0 hE.ok)) λhm=>by have:=hE.low b hm;omega
theorem uz{o:Oper}{x:Operand}{f:FuncId}{us:Array Value}{args:Array Operand}{fU:Array TypeId}(ho:o.op=.call {callee:=.value x,args,argTypes:=fU})(hx:a.eval x=.func (.func f) #[] us)(hcall:kJ P f):
 (execOp a.eval o).run P w=.ok (.enter f (args.map a.eval++us)) w:=by
 have e1:(execOp a.eval o)=(do let d ← resolve a.eval {callee:=.value x,args,argTypes:=fU} o.type;invoke d.target d.args):=by
  grind [execOp]
 rw[e1];simp only[resolve,hx,Deferred.ofValue,Zj,ZA,Zz,invoke];rw[show(#[]++Array.map a.eval args:Array Value)++us=args.map a.eval++us by simp];exact hcall _ _
theorem NC{G:cu}(hE:iD P G Θ Γ w0 M)(h:Rel w0 M T γ st a w)(o:Oper){d:Nat}{p:Prop}{v:AV}{δ:List (Nat×ak)}{x:Operand}{args:Array Operand}{fU:Array TypeId}
 (hop:o.op=.call {callee:=.value x,args,argTypes:=fU})
 (hc:calm Θ Γ d st (.call {callee:=.value x,args,argTypes:=fU})=some (p,v,δ)) (hp:p) (hf:bV st δ=true) {next:Act->World->Prop} {Q:Exit->Act->World->Prop}
 (hn:∀u γ' w',Rel w0 M T γ' (st.adds δ) a w'->aA (ai w0 T γ' (st.adds δ) w') v u->next (a.put o.dst u) w'):o.wp P a w next Q:=by
 simp only[calm]at hc;split at hc
 .next f caps hx=>
  split at hc
  .next con vs hcon hargs=>
   split at hc
   .next q out hq=>
    split at hc
    .next hm=>
     cases hc;obtain⟨hok,hcall⟩:=hE.cons f con hcon;rw[aad]at hm;have hv:=bH h x;rw[hx]at hv;obtain⟨us,DN,hkx⟩:=hv;unfold Oper.wp;rw[uz hop DN hcall,aam];have hk:(d*64+1)%64=1:=by omega
     rcases hm with hm|hm
     .have hrep:=o5 h (γ0:=λ_=>undef) (S:=λ_=>True) (λ_ _=>trivial) (λ_ _ _ _ _ _ _ _=>trivial) _ _ vs hargs (o6 h hkx args.toList);rw[← ZY,← Z9]at hrep;refine(hok vs _ out (d*64+1) (λ_=>True) (args.map a.eval++us) w hq hp (hE.at h) hrep).mono ?_;rintro e w' ⟨u,vals,rfl,h1,h2,h3,h4,h5,h6,h7,h8⟩;obtain⟨γ',g1,g2⟩:=h.called hk hf h1 h2 h3 h4 h5 (.inl hm) h6 h7 h8
      grind
     .have hm0:jw (handed st args.toList caps)=[]:=by
       grind [oP]
      have hrep:=lg h (γ0:=λ_=>undef) _ _ vs hargs hm0 (o6 h hkx args.toList);rw[← ZY,← Z9]at hrep;refine(hok vs _ out (d*64+1) (ai w0 T γ st w).foot (args.map a.eval++us) w hq hp (hE.at h) hrep).mono ?_;rintro e w' ⟨u,vals,rfl,h1,h2,h3,h4,h5,h6,h7,h8⟩;obtain⟨γ',g1,g2⟩:=h.called hk hf h1 h2 h3 h4 h5 (.inr rfl) h6 h7 h8
      grind
    .cases hc
   .cases hc
  .cases hc
 .cases hc
theorem jS{o:Oper}{b:Builtin}{args:Array Operand}{fU:Array TypeId}(ho:o.op=.call {callee:=.builtin b,args,argTypes:=fU}):
 execOp a.eval o=builtin b fU o.type (args.map λ|.const _=>true|_=>false) (args.map a.eval):=by
 unfold execOp;rw[ho];rfl
theorem DR(h:Rel w0 M T γ st a w):∀(xs:List Operand)(l:List (List Cell)),heldBy st xs=some l->aV (ai w0 T γ st w) l (xs.map a.eval)
 |[],l,hl=>by cases hl;trivial
 |x::xs,l,hl=>by
  rw[heldBy]at hl;split at hl
  .next cs off l' hx hl'=>
   split at hl
   .next h0=>cases hl;have h0:=YX h0;subst h0;have hv:=bH h x;rw[hx]at hv;exact⟨hv,DR h xs l' hl'⟩
   .cases hl
  .cases hl
theorem rE{G:cu}(hE:iD P G Θ Γ w0 M)(h:Rel w0 M T γ st a w)(o:Oper){d:Nat}{p:Prop}{v:AV}{δ:List (Nat×ak)}
 (hc:calm Θ Γ d st o.op=some (p,v,δ)) (hp:p) (hf:bV st δ=true) {next:Act->World->Prop} {Q:Exit->Act->World->Prop}
 (hn:∀u γ' w',Rel w0 M T γ' (st.adds δ) a w'->aA (ai w0 T γ' (st.adds δ) w') v u->next (a.put o.dst u) w'):o.wp P a w next Q:=by
 have fin:∀{s:Sem Value},(execOp a.eval o)=(do pure (Next.value (← s)))->Yields P w0 M T st a w s v δ->o.wp P a w next Q:=by intro s he ⟨u,w',γ',hr,hR,hv⟩;exact Oper.dL (by simp_all) (hn u γ' w' hR hv)
 cases hop:o.op<;>rw[hop]at hc<;>try (simp only[calm,reduceCtorEq]at hc;done)
 case move x=>simp only[calm]at hc;cases hc;exact Oper.dL (u:=a.eval x) (w':=w) (by simp[execOp,hop]) (hn _ γ w h (bH h x))
 case assign x=>simp only[calm]at hc;cases hc;exact Oper.dL (u:=a.eval x) (w':=w) (by simp[execOp,hop]) (hn _ γ w h (bH h x))
 case pick c x y=>
  simp only[calm]at hc;split at hc
  .next g hg=>
   cases hc;refine Oper.dL (u:=if g then a.eval x else a.eval y) (w':=w) (by simp[execOp,hop,LX h hg,asBool]) (hn _ γ w h ?_);cases g
   .exact bH h y
   .exact bH h x
  .cases hc
 case nilCheck x=>
  have hx:=bH h x;simp only[calm]at hc;split at hc
  .next o' off hev=>cases hc;rw[hev]at hx;obtain⟨b,cs,ho,hγ,hv⟩:=hx;exact Oper.dL (u:=a.eval x) (w':=w) (by simp_all [execOp]) (hn _ γ w h ⟨b,cs,ho,hγ,hv⟩)
  .next o' i off hev=>cases hc;rw[hev]at hx;obtain⟨b,n,cap,e,r,l,fr,ho,hγ,hv⟩:=hx;exact Oper.dL (u:=a.eval x) (w':=w) (by simp_all [execOp]) (hn _ γ w h ⟨b,n,cap,e,r,l,fr,ho,hγ,hv⟩)
  .next r y off fr hev=>cases hc;rw[hev]at hx;obtain⟨b,base,cs,ty,fz,hv,hrest⟩:=hx;exact Oper.dL (u:=a.eval x) (w':=w) (by simp_all [execOp]) (hn _ γ w h ⟨b,base,cs,ty,fz,hv,hrest⟩)
  .next cs off hev=>cases hc;rw[hev]at hx;obtain⟨b,hv,hrest⟩:=hx;exact Oper.dL (u:=a.eval x) (w':=w) (by simp_all [execOp]) (hn _ γ w h ⟨b,hv,hrest⟩)
  .next f caps hev=>cases hc;rw[hev]at hx;obtain⟨us,hv,hrest⟩:=hx;exact Oper.dL (u:=a.eval x) (w':=w) (by simp_all [execOp]) (hn _ γ w h ⟨us,hv,hrest⟩)
  .cases hc
 case makeFunc fn first captured=>
  cases fn<;>try (simp only[calm,reduceCtorEq]at hc;done)
  case func f=>
   simp only[calm]at hc;split at hc
   .next l hfirst hl=>
    cases hc;have hf0:first=#[]:=by grind
    subst hf0;refine Oper.dL (u:=.func (.func f) #[] (captured.map a.eval)) (w':=w) (by simp[execOp,hop,Instr.makeFunc]) (hn _ γ w h ⟨captured.map a.eval,rfl,?_⟩);rw[ZY];exact DR h _ _ hl
   .cases hc
 case alloc t=>exact fin (s:=Instr.alloc t true (.tuple #[])) (by simp[execOp,hop]) (Jt hE.types h hc hf)
 case box t x=>exact fin (s:=Instr.box t (a.eval x)) (by simp[execOp,hop]) (Nu h hc hf)
 case build t parts=>exact fin (s:=Instr.build t (parts.map λx=>(x.1,a.eval x.2))) (by grind [execOp]) (Js hE.types h hc)
 case buildSlice t len parts=>
  have hy:=AB hE.types h hc hf
  grind [execOp]
 case makeSlice t x y=>exact fin (s:=Instr.makeSlice t (a.eval x) (a.eval y)) (by simp[execOp,hop]) (Cc hE.types h hc hp hf)
 case load t x=>exact fin (s:=Instr.loadAt t (a.eval x)) (by simp[execOp,hop]) (Lj hE.types h hc hp)
 case fieldAddr s x f=>exact fin (s:=Instr.fieldAt s (a.eval x) f) (by simp[execOp,hop]) (BZ hE.types h hc)
 case field s x f=>exact fin (s:=Instr.field s (a.eval x) f) (by simp[execOp,hop]) (Jq hE.types h hc)
 case indexAddr t x ix=>exact fin (s:=Instr.indexAt t (a.eval x) (a.eval ix)) (by simp[execOp,hop]) (Cb hE.types h hc hp)
 case index t x ix=>exact fin (s:=Instr.index t (a.eval x) (a.eval ix)) (by simp[execOp,hop]) (Jp hE.types h hc hp)
 case binOp op t x y t'=>exact fin (s:=do eqGuard op t x y (a.eval x) (a.eval y);binOp op t (a.eval x) (a.eval y)) (by simp[execOp,hop]) (Jv hE.types h hc hp)
 case unOp op t x=>exact fin (s:=Op.unary op (a.eval x)) (by simp[execOp,hop]) (Ll h hc)
 case convert s t x=>exact fin (s:=convert s t (a.eval x)) (by simp[execOp,hop]) (FW hE.types h hc)
 case extract x i=>exact fin (s:=Instr.extract (a.eval x) i) (by simp[execOp,hop]) (FX h hc)
 case slice t x lo hi mx=>
  cases mx with
  |some m=>
   cases lo with
   |none=>simp only[calm,reduceCtorEq]at hc
   |some lo=>
    cases hi with
    |none=>simp only[calm,reduceCtorEq]at hc
    |some hi=>exact fin (s:=Instr.sliceAt t (a.eval x) (some (a.eval lo)) (some (a.eval hi)) (some (a.eval m))) (by simp[execOp,hop]) (IA hE.types h hc hp)
  |none=>exact fin (s:=Instr.sliceAt t (a.eval x) (lo.map a.eval) (hi.map a.eval) none) (by simp[execOp,hop]) (Jw hE.types h hc hp)
 case call c=>
  obtain⟨callee,args,fU⟩:=c;cases callee with
  |invoke r m=>simp only[calm,reduceCtorEq]at hc
  |builtin b=>
   cases b<;>try (simp only[calm,reduceCtorEq]at hc;done)
   case len=>exact fin (s:=Builtin.len_ fU o.type (args.map a.eval)) (by rw[jS hop];rfl) (Nw hE.types h hc)
   case min=>exact fin (s:=Builtin.min_ fU o.type (args.map a.eval)) (by rw[jS hop];rfl) (Ny h hc)
   case max=>exact fin (s:=Builtin.max_ fU o.type (args.map a.eval)) (by rw[jS hop];rfl) (Nz h hc)
  |value x=>grind [NC]
def sameKind:ak->ak->Prop
 |.var _,.var _=>True
 |.arr e r _ _,.arr f s _ _=>e=f/\r=s
 |_,_=>False
theorem pY(w:World)(g:Nat)(cs:Array Value){b:Nat}(h:b≠g):(w.setRow g cs).heap[b]? =w.heap[b]? :=by
 grind [World.setRow]
theorem Rel.write(h:Rel w0 M T γ st a w){o b:Nat}{x x':ak}(ho:st.af o=some x)(hb:blk (γ o)=some b)(hk:sameKind x x')(arr:Array Value)
 (hx:(ai w0 T γ st w).le ⟨w.setRow b arr,w0.heap.size,T,γ,(st.add o x').af⟩->aB ⟨w.setRow b arr,w0.heap.size,T,γ,(st.add o x').af⟩ o x'):
 Rel w0 M T γ (st.add o x') a (w.setRow b arr):=by
 have hother:∀p,p≠o->(st.add o x').af p=st.af p:=λp hp=>eF st x' hp;have hsz:(w.setRow b arr).heap.size=w.heap.size:=by simp_all
 have hsome:∀p y,(st.add o x').af p=some y->∃z,st.af p=some z:=by
  grind
 have le:(ai w0 T γ st w).le ⟨w.setRow b arr,w0.heap.size,T,γ,(st.add o x').af⟩:=by
  refine⟨Zg _,λc hc=>⟨⟨?_,hc.2.1,λp y hp=>?_⟩,?_⟩,λp cs hp=>⟨?_,rfl⟩,λp e r l fr hp=>⟨?_,rfl⟩⟩
  .rw[hsz];exact hc.1
  .obtain⟨z,hz⟩:=hsome p y hp;exact hc.2.2 p z hz
  .refine pY w b arr (λe=>?_);exact hc.2.2 o x ho (by grind)
  .by_cases e:p=o
   .subst e;have hp':st.af p=some (.var cs):=hp;rw[ho]at hp';cases hp';show∃cs',(st.add p x').af p=some (.var cs');rw[add_same];cases x' with
    |var cs'=>grind
    |arr _ _ _ _=>exact hk.elim
   grind
  .by_cases e2:p=o
   .subst e2;have hp':st.af p=some (.arr e r l fr):=hp;rw[ho]at hp';cases hp';show∃l' fr',(st.add p x').af p=some (.arr e r l' fr');rw[add_same];cases x' with
    |var cs'=>exact hk.elim
    |arr e' r' l' fr'=>
     obtain⟨h1,h2⟩:=hk
     grind
   grind
 refine⟨h.mT,h.defers,h.size,h.os,h.tape,h.output,by rw[hsz];exact h.grow,λc hc hM=>?_,λt=>aA.mono le _ _ (h.tmps t),λp y hp=>?_,λp y c hp hc=>?_,λp y q z c hp hq hpq hc=>?_,λp v cs hN hp=>?_⟩
 .rw[pY w b arr (λe=>?_)]
  .exact h.kept c hc hM
  .rcases(h.lt o x b ho hb).2 with h1|h1
   .omega
   grind
 .by_cases e:p=o
  · grind [add_same]
  .rw[hother p e]at hp;refine aB.mono le p y (λc hc=>pY w b arr (λe2=>?_)) rfl (h.af p y hp);exact h.sep p y o x c hp ho e hc (by grind)
 .obtain⟨z,hz⟩:=hsome p y hp;rw[hsz];exact h.lt p z c hz hc
 .obtain⟨y',hy'⟩:=hsome p y hp;obtain⟨z',hz'⟩:=hsome q z hq;exact h.sep p y' q z' c hy' hz' hpq hc
 .by_cases e:p=o
  .subst e;rw[add_same]at hp;cases hp;cases x with
   |var cs'=>exact h.pin p v cs' hN ho
   |arr _ _ _ _=>exact hk.elim
  .rw[hother p e]at hp;exact h.pin p v cs hN hp
theorem run_store{t:TypeId}{ti:TI}(hT:dG P t ti){b off:Nat}{cur:Array Value}{e:TypeId}(hb:w.heap[b]? =some (.cells cur e (0,0))){v:Value}(hsz:v.cells.size=ti.cells.len)
 (hle:off+v.cells.size<=cur.size) (h1:∀u∈v.cells.toList,u.oneCell'=true):
 (Instr.storeAt t (.pointer (some ⟨b,off,none⟩)) v).run P w=.ok () (w.setRow b (cur.toList.take off++v.cells.toList++cur.toList.drop (off+v.cells.toList.length)).toArray):=by
 have hst:=run_storeCells_at P b off e v.cells.toList 0 cur w hb (by omega) h1;simp only[Instr.storeAt,Instr.sureAddr,Zj,ZA,Zz,storeVar,hT.run_sizeOf]
 grind
theorem yX{g:Nat}{cur cs:Array Value}{e:TypeId}(h:w.heap[g]? =some (.cells cur e (0,0))):(w.setRow g cs).heap[g]? =some (.cells cs e (0,0)):=setRow_heap w g cur cs e (0,0) h
theorem FZ(cur vs:List Value)(o k:Nat)(h:o+vs.length<=cur.length):
 (cur.take o++vs++cur.drop (o+vs.length))[k]? =if k<o then cur[k]? else if k<o+vs.length then vs[k-o]? else cur[k]? :=by
 grind
theorem Jy(fr:Bool):∀(r:aj)(x:r.den),(aj.row fr r x).flatMap Cell.refs=[]
 |.nil,_=>rfl
 |.cons c r,x=>by rw[aj.row,Zt,Jy fr r x.2,ZJ];cases c<;>rfl
theorem G6:∀(r:aj)(x:r.den),(aj.row true r x).all (Cell.fresh st)=true
 |.nil,_=>rfl
 |.cons c r,x=>by rw[aj.row,ZQ,G6 r x.2,Bool.and_true];cases c<;>rfl
theorem G7(hΘ:∀t ti,Θ t=some ti->dG P t ti)(h:Rel w0 M T γ st a w){t:TypeId}{ti:TI}(ht:Θ t=some ti){p:AV}{v:SV}{pv vv:Value}{q:Prop}{s:St}
 (hs:store st p v=some (q,s)) (hq:q) (hp:aA (ai w0 T γ st w) p pv) (hv:aP (ai w0 T γ st w) v vv) (hlen:v.cells.length=ti.cells.len):
 ∃w',(Instr.storeAt t pv vv).run P w=.ok () w'/\Rel w0 M T γ s a w':=by
 have hcells:=aP.cells v vv hv;have hvl:=ah.length _ _ hcells;rw[ZG]at hvl;have rF:=ah.ones _ _ hcells;unfold store at hs;split at hs
 .next o off=>
  split at hs
  .next cs ho=>
   split at hs
   .next wU=>
    cases hs;have hle:=Zx wU;obtain⟨b,cs',_,hγ,hpv⟩:=hp;obtain⟨b',arr,ty,GV,hb,hr⟩:=h.af o _ ho;have Jj:γ o=.pointer (some ⟨b,0,none⟩):=hγ;have lY:γ o=.pointer (some ⟨b',0,none⟩):=GV;have hbb:b'=b:=by grind
    subst hbb;have hal:=ah.length _ _ hr;rw[ZG]at hal;rw[hpv];refine⟨_,run_store (hΘ t ti ht) hb (by omega) (by omega) rF,?_⟩;refine h.write (x':=.var (splice cs off v.cells)) ho (by rw[Jj];rfl) trivial _ (λle=>⟨b',_,ty,Jj,yX hb,?_⟩)
    grind [ah.mono,wS]
   .cases hs
  .cases hs
 .next o i off=>
  split at hs
  .next e r l fr hrefs ho=>
   split at hs
   .next x hx wU=>
    cases hs;have hle:=Zx wU;obtain⟨b,n,cap,e2,r2,l2,Uy,ho2,hγ,hpv⟩:=hp;have Ji:st.af o=some (.arr e2 r2 l2 Uy):=ho2;rw[ho]at Ji;cases Ji;obtain⟨xs,⟨h1,h2⟩,hpos,hfr,hrow⟩:=h.af o _ ho;have Jj:γ o=.slice (some ⟨b,0,none⟩) n cap:=hγ;rcases h2 with⟨hnil,_⟩|⟨g,cap',cur,hg,_,hh,hlc,hmax,hsz,htake⟩
    .omega
    .have lY:γ o=.slice (some ⟨g,0,none⟩) l.length cap':=hg;rw[Jj]at lY;simp at lY;obtain⟨rfl,hn,hcap⟩:=lY;have hmul:i*r.len+r.len<=l.length*r.len:=by
      have:(i+1)*r.len<=l.length*r.len:=Y3 _ hq
      grind
     have VI:l.length*r.len<=cap'*r.len:=Y3 _ hlc;rw[hpv];refine⟨_,run_store (hΘ t ti ht) hh (by omega) (by omega) rF,?_⟩;have O0:l[i]? =some (l.getD i r.dflt):=by grind
     have hRi:=hrow i _ O0;have hrc:=zZ (ai w0 T γ st w) fr r _ _ hRi;have Qw:=wS off hrc hcells;have hrl:=aC.length _ _ _ hRi;refine h.write (x':=.arr e r (l.set i x) (fr&&v.cells.all (Cell.fresh st))) ho (by rw[Jj];rfl) ⟨rfl,rfl⟩ _ (λle=>?_)
     let new:List Value:=cur.toList.take (i*r.len+off)++vv.cells.toList++cur.toList.drop (i*r.len+off+vv.cells.toList.length)
     have hnl:new.length=cur.size:=by
      grind
     refine⟨new.take (l.length*r.len),⟨?_,.inr ⟨b,cap,new.toArray,?_,Zm _,yX hh,?_,?_,?_,?_⟩⟩,hpos,?_,?_⟩
     · grind
     · grind
     · grind
     .omega
     · grind
     · grind
     · grind
     .have e1:cur.toList.length=cur.size:=ZG;have e2:vv.cells.toList.length=vv.cells.size:=ZG;have hnew:∀k,new[k]? =if k<i*r.len+off then cur.toList[k]? else if k<i*r.len+off+vv.cells.toList.length then vv.cells.toList[k-(i*r.len+off)]? else cur.toList[k]? :=λk=>FZ _ _ _ k (by omega)
      intro i' x' hi';have hlt:i'<l.length:=by
       grind
      have SA:i'*r.len+r.len<=l.length*r.len:=by
       have:(i'+1)*r.len<=l.length*r.len:=Y3 _ hlt
       grind
      show aC (w.setRow b new.toArray).heap (V.aH ⟨w.setRow b new.toArray,w0.heap.size,T,γ,_⟩ (fr&&v.cells.all (Cell.fresh st))) r (((new.take (l.length*r.len)).drop (i'*r.len)).take r.len) x';rw[bg _ _ _ _ SA];by_cases hii:i'=i
      .subst hii;have hxx:x'=x:=by
        grind
       subst hxx;have hrows:(new.drop (i'*r.len)).take r.len=((xs.drop (i'*r.len)).take r.len).take off++vv.cells.toList++((xs.drop (i'*r.len)).take r.len).drop (off+vv.cells.toList.length):=by
        rw[← htake,bg _ _ _ _ hmul];apply ZL;intro k;rw[FZ _ _ _ k (by grind)];rw[Zu,ZB,hnew]
        grind
       rw[hrows];refine aC.mono (λc hc=>le.aH _ c hc) r _ x' (sS h (fr&&v.cells.all (Cell.fresh st)) r _ _ x' Qw hx ?_ ?_)
       · grind [splice,Jy,List.flatMap_eq_nil_iff]
       .intro hf;simp only[YZ]at hf;obtain⟨hf1,hf2⟩:=hf;subst hf1;have hr0:=G6 (st:=st) r (l.getD i' r.dflt)
        grind [splice]
      .have hx2:l[i']? =some x':=by grind
       have hR2:=hrow i' x' hx2;rw[← htake,bg _ _ _ _ SA]at hR2;have hrows:(new.drop (i'*r.len)).take r.len=(cur.toList.drop (i'*r.len)).take r.len:=by
        apply ZL;intro k;rw[Zu,Zu,ZB,ZB,hnew];by_cases hk:k<r.len
        .rw[if_pos hk,if_pos hk];rcases Nat.lt_or_gt_of_ne hii with hlt2|hlt2
         .have:(i'+1)*r.len<=i*r.len:=Y3 _ hlt2
          grind
         .have:(i+1)*r.len<=i'*r.len:=Y3 _ hlt2
          grind
        grind
       rw[hrows];refine aC.mono (λc hc=>?_) r _ x' hR2;have hc':(ai w0 T γ st w).aH (fr&&v.cells.all (Cell.fresh st)) c:=⟨hc.1,λe=>hc.2 (by grind)⟩;exact le.aH _ c hc'
   .cases hs
  .cases hs
 .cases hs
structure V.dU(S:Nat->Bool)(X Y:V):Prop where
 n0:Y.n0<=X.n0
 foot:∀b,X.foot b->Y.foot b/\Y.w.heap[b]? =X.w.heap[b]?
 var:∀o cs,S o=false->X.af o=some (.var cs)->(∃cs',Y.af o=some (.var cs'))/\Y.γ o=X.γ o
 arr:∀o e r l fr,S o=false->X.af o=some (.arr e r l fr)->(∃l' fr',Y.af o=some (.arr e r l' fr'))/\Y.γ o=X.γ o
theorem V.dU.aH{S:Nat->Bool}{X Y:V}(h:X.dU S Y)(fr:Bool)(b:Nat)(hb:X.aH fr b):Y.aH fr b/\Y.w.heap[b]? =X.w.heap[b]? :=
 ⟨⟨(h.foot b hb.1).1,λe=>⟨Y9 h.n0 (hb.2 e).1,(hb.2 e).2.keep (h.foot b hb.1).2⟩⟩,(h.foot b hb.1).2⟩
variable {S:Nat->Bool}
theorem ay.dU{X Y:V}(h:X.dU S Y):∀(c:Cell)(v:Value),ay X c v->ay Y (c.kill S) v
 |.int _ _,_,H|.bool _,_,H|.str _,_,H|.nil,_,H|.junk,_,H=>H
 |.sl e r l fr,v,H=>aU.mono (λb hb=>h.aH fr b hb) (.sl e r) v l H
 |.ref o,v,⟨⟨e,r,l,fr,hx⟩,hv,h1⟩=>by
  simp only[Cell.kill];cases hS:S o with
  |true=>exact h1
  |false=>obtain⟨⟨l',fr',hy⟩,hγ⟩:=h.arr o e r l fr hS hx;exact⟨⟨e,r,l',fr',hy⟩,hv.trans hγ.symm,h1⟩
theorem ah.dU{X Y:V}(h:X.dU S Y):∀(cs:List Cell)(vs:List Value),ah X cs vs->ah Y (cs.map (Cell.kill S)) vs
 |[],[],H=>H
 |c::cs,v::vs,⟨h1,h2⟩=>⟨ay.dU h c v h1,ah.dU h cs vs h2⟩
 |[],_::_,H|_::_,[],H=>by cases H
theorem aP.dU{X Y:V}(h:X.dU S Y):∀(c:SV)(v:Value),aP X c v->aP Y (c.kill S) v
 |.one c,v,H=>ay.dU h c v H
 |.agg cs,_,⟨vs,hv,H⟩=>⟨vs,hv,ah.dU h cs _ H⟩
theorem aN.dU{X Y:V}(h:X.dU S Y):∀(cs:List SV)(vs:List Value),aN X cs vs->aN Y (cs.map (SV.kill S)) vs
 |[],[],H=>H
 |c::cs,v::vs,⟨h1,h2⟩=>⟨aP.dU h c v h1,aN.dU h cs vs h2⟩
 |[],_::_,H|_::_,[],H=>by cases H
theorem bf.dU{X Y:V}(h:X.dU S Y){cs:List Cell}{b:Nat}(H:bf X cs b):bf Y (cs.map (Cell.kill S)) b:=by obtain⟨arr,t,fz,hb,hh,hr⟩:=H;exact⟨arr,t,fz,(h.foot b hb).1,(h.foot b hb).2.trans hh,ah.dU h cs _ hr⟩
theorem aV.dU{X Y:V}(h:X.dU S Y):∀(l:List (List Cell))(us:List Value),aV X l us->aV Y (l.map (List.map (Cell.kill S))) us
 |[],[],H=>H
 |cs::l,u::us,⟨⟨b,hu,hk⟩,h2⟩=>⟨⟨b,hu,bf.dU h hk⟩,aV.dU h l us h2⟩
 |[],_::_,H|_::_,[],H=>by cases H
theorem aA.dU{X Y:V}(h:X.dU S Y):∀(c:AV)(v:Value),aA X c v->aA Y (c.kill S) v
 |.undef,_,_=>trivial
 |.sv x,v,H=>aP.dU h x v H
 |.dO xs,_,⟨vs,hv,H⟩=>⟨vs,hv,aN.dU h xs _ H⟩
 |.bF o off,v,⟨b,cs,hx,hγ,hv⟩=>by
  simp only[AV.kill];cases hS:S o with
  |true=>trivial
  |false=>
   obtain⟨⟨cs',hy⟩,he⟩:=h.var o cs hS hx;exact⟨b,cs',hy,he.trans hγ,hv⟩
 |.dV o i off,v,⟨b,n,cap,e,r,l,fr,hx,hγ,hv⟩=>by
  simp only[AV.kill];cases hS:S o with
  |true=>trivial
  |false=>
   obtain⟨⟨l',fr',hy⟩,he⟩:=h.arr o e r l fr hS hx;exact⟨b,n,cap,e,r,l',fr',hy,he.trans hγ,hv⟩
 |.win o i off,v,⟨b,n,cap,e,r,l,fr,hx,hγ,hv⟩=>by
  simp only[AV.kill];cases hS:S o with
  |true=>trivial
  |false=>
   obtain⟨⟨l',fr',hy⟩,he⟩:=h.arr o e r l fr hS hx;exact⟨b,n,cap,e,r,l',fr',hy,he.trans hγ,hv⟩
 |.fZ r x off fr,v,⟨b,base,cs,t,fz,hv,hf,hb,hr⟩=>
  ⟨b,base,cs,t,fz,hv,(h.aH fr b hf).1,(h.aH fr b hf).2.trans hb,aC.mono (λb hb=>h.aH fr b hb) r _ x hr⟩
 |.bI cs off,v,⟨b,hv,hk⟩=>⟨b,hv,bf.dU h hk⟩
 |.fn f caps,v,⟨us,hv,hk⟩=>⟨us,hv,aV.dU h caps _ hk⟩
theorem aB.dU{X Y:V}(h:X.dU S Y)(o:Nat):∀(x:ak),(∀b,blk (X.γ o)=some b->Y.w.heap[b]? =X.w.heap[b]?)->Y.γ o=X.γ o->aB X o x->aB Y o (x.kill S)
 |.var cs,hb,hγ,⟨b,arr,t,e,hh,hr⟩=>⟨b,arr,t,hγ.trans e,(hb b (by rw[e];rfl)).trans hh,ah.dU h cs _ hr⟩
 |.arr e r l fr,hb,hγ,⟨xs,hown,hr,hf,hx⟩=>by
  refine⟨xs,?_,hr,λb hb' hfr=>Y9 h.n0 (hf b (hγ▸hb') hfr),λi x hi=>aC.mono (λb hb=>h.aH fr b hb) r _ x (hx i x hi)⟩;obtain⟨h1,h2⟩:=hown;refine⟨h1,?_⟩;rcases h2 with h2|⟨g,cap,cur,hv,hg,hh,hrest⟩
  · grind
  .exact .inr ⟨g,cap,cur,hγ.trans hv,hg,(hb g (by rw[hv];rfl)).trans hh,hrest⟩
theorem Rel.replace(h:Rel w0 M T γ st a w){o:Nat}{x':ak}{v':Value}(own:Option Nat)(hown:own=none\/∃x,st.af o=some x/\own=blk (γ o))
 (hos:w'.os=w.os) (htape:w'.tape=w.tape) (hout:w'.output=w.output) (hsize:w.heap.size<=w'.heap.size) (hheap:∀b,b<w.heap.size->some b≠own->w'.heap[b]? =w.heap[b]?)
 (hblk:∀g,blk v'=some g->(some g=own\/w.heap.size<=g)/\g<w'.heap.size) (harr:∀cs,x'≠ .var cs)
 (hx:(ai w0 T γ st w).dU (Nat.beq o ·) ⟨w',w0.heap.size,T,upd γ o v',((st.kill (Nat.beq o ·)).add o x').af⟩->aB ⟨w',w0.heap.size,T,upd γ o v',((st.kill (Nat.beq o ·)).add o x').af⟩ o x'):
 Rel w0 M T (upd γ o v') ((st.kill (Nat.beq o ·)).add o x') a w'/\(ai w0 T γ st w).dU (Nat.beq o ·) ⟨w',w0.heap.size,T,upd γ o v',((st.kill (Nat.beq o ·)).add o x').af⟩:=by
 have hoth:∀p y,p≠o->((st.kill (Nat.beq o ·)).add o x').af p=some y->∃z,st.af p=some z/\y=z.kill (Nat.beq o ·):=by
  grind [eF,jC]
 have SB:∀p z,p≠o->st.af p=some z->((st.kill (Nat.beq o ·)).add o x').af p=some (z.kill (Nat.beq o ·)):=by
  grind [eF,dZ,qJ]
 have hno:∀b,(∀x,st.af o=some x->blk (γ o)≠some b)->some b≠own:=by
  grind
 have le:(ai w0 T γ st w).dU (Nat.beq o ·) ⟨w',w0.heap.size,T,upd γ o v',((st.kill (Nat.beq o ·)).add o x').af⟩:=by
  refine⟨Zg _,λb hb=>⟨⟨Zc hb.1 hsize,hb.2.1,λp y hp=>?_⟩,hheap b hb.1 (hno b (λx hx=>hb.2.2 o x hx))⟩,λp cs hS hp=>?_,λp e r l fr hS hp=>?_⟩
  .show blk (upd γ o v' p)≠some b;by_cases e:p=o
   .rw[e,upd_same];intro e2;rcases(hblk b e2).1 with h1|h1
    .exact hno b (λx hx=>hb.2.2 o x hx) h1
    .have:b<w.heap.size:=hb.1;omega
   .rw[fQ γ v' e];obtain⟨z,hz,_⟩:=hoth p y e hp;exact hb.2.2 p z hz
  .have hne:p≠o:=λe=>by simp_all
   exact⟨⟨_,SB p _ hne hp⟩,fQ γ v' hne⟩
  .have hne:p≠o:=λe=>by simp_all
   exact⟨⟨l,fr,SB p _ hne hp⟩,fQ γ v' hne⟩
 refine⟨⟨h.mT,h.defers,h.size,hos.trans h.os,htape.trans h.tape,hout.trans h.output,Y9 h.grow hsize,λb hb hM=>?_,λt=>aA.dU le _ _ (h.tmps t),λp y hp=>?_,λp y b hp hb=>?_,λp y q z b hp hq hpq hb=>?_,λp v cs hN hp=>?_⟩,le⟩
 .rw[hheap b (Zc hb h.grow) (λe=>?_)]
  .exact h.kept b hb hM
  .rcases hown with h0|⟨x,hxo,h1⟩
   · grind
   .rw[h1]at e;rcases(h.lt o x b hxo e.symm).2 with h2|h2
    .omega
    .exact hM h2
 .by_cases e:p=o
  · grind [add_same]
  .obtain⟨z,hz,he⟩:=hoth p y e hp;rw[he];refine aB.dU le p z (λb hb=>hheap b (h.lt p z b hz hb).1 (hno b (λx hxo e2=>h.sep p z o x b hz hxo e hb e2))) (fQ γ v' e) (h.af p z hz)
 .by_cases e:p=o
  .rw[e,upd_same]at hb;refine⟨(hblk b hb).2,?_⟩;rcases(hblk b hb).1 with h1|h1
   .rcases hown with h0|⟨x,hxo,h2⟩
    · grind
    .exact(h.lt o x b hxo (by grind)).2
   .exact .inl (Y9 h.grow h1)
  .rw[fQ γ v' e]at hb;obtain⟨z,hz,_⟩:=hoth p y e hp;have:=h.lt p z b hz hb
   grind
 .have key:∀p y,p≠o->((st.kill (Nat.beq o ·)).add o x').af p=some y->blk (γ p)=some b->blk v'≠some b:=by
   intro p y e hp hb e2;obtain⟨z,hz,_⟩:=hoth p y e hp;rcases(hblk b e2).1 with h1|h1
   .rcases hown with h0|⟨x,hxo,h2⟩
    · grind
    .exact h.sep p z o x b hz hxo e hb (by grind)
   .have:=(h.lt p z b hz hb).1;omega
  by_cases e:p=o
  · grind [upd_same,fQ]
  .rw[fQ γ v' e]at hb;by_cases e':q=o
   · grind [upd_same]
   .rw[fQ γ v' e'];obtain⟨y',hy',_⟩:=hoth p y e hp;obtain⟨z',hz',_⟩:=hoth q z e' hq;exact h.sep p y' q z' b hy' hz' hpq hb
 .by_cases e:p=o
  · grind [add_same]
  .obtain⟨z,hz,he⟩:=hoth p _ e hp;rw[fQ γ v' e];cases z with
   |var cs'=>exact h.pin p v cs' hN hz
   |arr _ _ _ _=>cases he
theorem Cell.Jz(h:Rel w0 M T γ st a w){e:TypeId}{r:aj}{x:Cell}{v:Value}{l:List r.den}(hx:ay (ai w0 T γ st w) x v)(hg:x.get st (.sl e r)=some l):
 oO w.heap (λb=>b<w.heap.size) r.len (λvs y=>aC w.heap ((ai w0 T γ st w).aH (x.jB r st)) r vs y) v l:=by
 suffices hs:oO w.heap (λb=>b<w.heap.size) r.len (λvs y=>aC w.heap ((ai w0 T γ st w).aH (x.fresh st)) r vs y) v l by
  refine hs.mono (λb hb=>⟨hb,rfl⟩) λvs y hy=>?_
  grind [Cell.jB,aC.flat]
 cases x<;>simp only[Cell.get]at hg<;>try (cases hg;done)
 .cases hg;have hv:v=.slice none 0 0:=hx;subst hv;exact⟨Zm _,.inl ⟨rfl,none,0,rfl⟩⟩
 .next e' s l' fr=>
  split at hg
  .next hb=>have hrs:=aj.eq_of_beq s r hb;subst hrs;cases hg;have hx:oO _ _ _ _ v l':=hx;exact hx.mono (λb hb=>⟨hb.1.1,rfl⟩) (λvs y hy=>hy)
  .cases hg
 .next o=>
  obtain⟨⟨e',s,l',fr,ho⟩,hv,_⟩:=hx;have ho':st.af o=some (.arr e' s l' fr):=ho;simp only[ho']at hg;split at hg
  .next hb=>
   have hrs:=aj.eq_of_beq s r hb;subst hrs;cases hg;rw[hv];show oO _ _ _ _ (γ o) l';have Yy:(Cell.ref o).fresh st=fr:=by grind [Cell.fresh]
   obtain⟨xs,⟨h1,h2⟩,hr,hf,hx⟩:=h.af o _ ho';rcases h2 with⟨hv,hn⟩|⟨g,cap,cur,hv,_,hg,hle,hmax,hsz,htake⟩
   .exact⟨by omega,.inl ⟨ZN.1 hn,none,0,hv⟩⟩
   .refine⟨Y9 hle hmax,.inr ⟨g,0,cap,cur,e',(0,0),hv,hle,(h.lt o _ g ho' (by rw[show γ o=_ from hv];rfl)).1,hg,λi x hi=>?_⟩⟩;have hlt:i<l'.length:=(Y8.1 hi).1;have hmul:i*s.len+s.len<=l'.length*s.len:=by
     have:(i+1)*s.len<=l'.length*s.len:=Y3 _ hlt
     grind
    grind [bg]
  .cases hg
theorem DT{t ty e:TypeId}{i:TypeInfo}(ht:P.underlying t=some (.slice e))(hi:P.info? e=some i){base size n:Nat}{v:Value}{xs:List Value}(hown:w.ownsRow base e size v n xs)(ad:Option Addr)(c:Nat):
 (Builtin.append_ #[t,t] ty #[v,.slice ad 0 c]).run P w=.ok v w:=by
 rcases hown.2 with⟨rfl,rfl⟩|⟨g,cap,cur,rfl,_,_,hnc,_⟩
 .cases ad with
  |none=>simp[Builtin.append_,Zb ht,sizeOf,typeInfo,hi,Builtin.lenOf,Builtin.firstCells]
  |some ad=>simp[Builtin.append_,Zb ht,sizeOf,typeInfo,hi,Builtin.lenOf,Builtin.firstCells,loadCells,loadCellsFrom]
 .cases ad with
  |none=>simp[Builtin.append_,Zb ht,sizeOf,typeInfo,hi,Builtin.lenOf,Builtin.firstCells,hnc,storeCells]
  |some ad=>simp[Builtin.append_,Zb ht,sizeOf,typeInfo,hi,Builtin.lenOf,Builtin.firstCells,hnc,storeCells,loadCells,loadCellsFrom]
theorem aC.ones{h:Array Obj}{S:Nat->Prop}:∀(r:aj)(vs:List Value)(x:r.den),aC h S r vs x->∀v∈vs,v.oneCell'=true
 |.nil,vs,_,H,v,hv=>by grind [aC]
 |.cons c r,vs,(x,y),H,v,hv=>by
  obtain⟨u,vs',rfl,h1,h2⟩:=H;rcases Zl.1 hv with rfl|hv
  .cases c with
   |int k=>rw[h1.1];rfl
   |bool=>rw[show _=_ from h1];rfl
   |str=>rw[h1.1];rfl
   |sl e s=>rcases h1.2 with⟨_,a,c,hv⟩|⟨b,off,cap,cs,t,fz,hv,_⟩<;>rw[hv]<;>rfl
  .exact aC.ones r vs' y h2 v hv
theorem JA{t ty e:TypeId}{i:TypeInfo}{z:Value}{size bytes:Nat}(ht:P.underlying t=some (.slice e))(hi:P.info? e=some i)(hz:i.zero=some z)(hsize:i.size=size)(hby:i.bytes=bytes)(hpos:0<size)
 {v:Value} {n:Nat} {xs:List Value} (hown:w.ownsRow 0 e size v n xs) (ad:Addr) (c:Nat) {m:Nat} (hm:0<m) {ns:List Value} (hl:ns.length=m*size) (hnews:∀j u,ns[j]? =some u->w.cell? (ad.add j)=some u) (h1:∀u∈ns,u.oneCell'=true)
 (h63:n+m<=9223372036854775807) (hbytes:(n+m)*bytes<=140737488355328) {v':Value} {w':World} (hr:(Builtin.append_ #[t,t] ty #[v,.slice (some ad) m c]).run P w=.ok v' w') {g:Nat} (hg:v'.ownBlock=some g):
 v.ownBlock=some g\/w.heap.size<=g:=by
 subst hsize;subst hby;rcases hown.2 with⟨rfl,rfl⟩|⟨g',cap,cur,rfl,_,hgc,hnc,hcm,hcs,htake⟩
 .have hr2:=run_append_nil (P:=P) w t ty e i z ht hi hz ad m c ns hl hnews hm (by omega) (by grind);rw[hr]at hr2;cases hr2;cases hg
  grind
 .by_cases hroom:n+m<=cap
  .have hfit:n*i.size+ns.length<=cur.size:=by rw[hl,hcs,← ZU];exact Y3 _ hroom
   have hr2:=run_append_room (P:=P) w t ty e i ht hi g' n cap cur hgc ad m c ns hl hnews h1 hroom hfit;rw[hr]at hr2;cases hr2;exact .inl hg
  .have holds:∀j u,xs[j]? =some u->w.cell? ((⟨g',0,none⟩:Addr).add j)=some u:=hown.cells (g:=g') rfl;have hr2:=run_append_grow (P:=P) w t ty e i z ht hi hz ⟨g',0,none⟩ n cap xs hown.1 holds ad m c ns hl hnews (by omega) (by omega) (growslice_fits (by omega) hbytes);rw[hr]at hr2;cases hr2;cases hg
   grind
theorem uD{t ty e:TypeId}{ti te:TI}(hT:dG P t ti)(hk:ti.kind=.slice e)(hE:dG P e te)(hpos:0<te.cells.len){v:Value}{n:Nat}{xs:List Value}(hown:w.ownsRow 0 e te.cells.len v n xs)
 {F:Nat->Prop} {src:Value} {news:List te.cells.den} (hs:oO w.heap (λb=>b<w.heap.size) te.cells.len (λvs y=>aC w.heap F te.cells vs y) src news) (hbig:n+news.length<=big):
 ∃v' w' ns,(Builtin.append_ #[t,t] ty #[v,src]).run P w=.ok v' w'/\w'.ownsRow 0 e te.cells.len v' (n+news.length) (xs++ns)/\w.grownBy w' v.ownBlock/\
  (∀i x,news[i]? =some x->aC w.heap F te.cells ((ns.drop (i*te.cells.len)).take te.cells.len) x)/\(∀g,v'.ownBlock=some g->v.ownBlock=some g\/w.heap.size<=g):=by
 obtain⟨i,z,hi,hsz,hby,hz,hzv,_⟩:=hE.info;have hu:=hT.und;rw[hk]at hu;have hzs:z.cells.size=te.cells.len:=by grind [lT]
 have zero:∀ad c,news=[]->src=.slice ad 0 c->∃v' w' ns,(Builtin.append_ #[t,t] ty #[v,src]).run P w=.ok v' w'/\w'.ownsRow 0 e te.cells.len v' (n+news.length) (xs++ns)/\w.grownBy w' v.ownBlock/\
  (∀i x,news[i]? =some x->aC w.heap F te.cells ((ns.drop (i*te.cells.len)).take te.cells.len) x)/\(∀g,v'.ownBlock=some g->v.ownBlock=some g\/w.heap.size<=g):=by
  intro ad c hn0 hv;subst hn0;rw[hv];exact⟨v,w,[],DT hu.1 hi hown ad c,by grind,⟨rfl,rfl,rfl,Zg _,λ_ _ _=>rfl⟩,(λi x hx=>by simp at hx),λg hg=>.inl hg⟩
 rcases hs.2 with⟨hn0,ad,c,hv⟩|⟨b,off,cap,cs,YO,fz,hv,hcap,hlt,hb,hx⟩
 · grind
 .by_cases h0:news=[]
  · grind
  .have hm:0<news.length:=List.length_pos_iff.2 h0;have e1:(news.length-1)*te.cells.len+te.cells.len=news.length*te.cells.len:=by rw[← Nat.succ_mul];congr 1;omega
   have XI:off+news.length*te.cells.len<=cs.toList.length:=by
    have hl:news.length-1<news.length:=by omega
    have hlast:=hx (news.length-1) _ (Zf hl);have:=aC.length _ _ _ hlast
    grind
   let ns:List Value:=(cs.toList.drop off).take (news.length*te.cells.len)
   have hnl:ns.length=news.length*te.cells.len:=by
    grind
   have hnews:∀j u,ns[j]? =some u->w.cell? ((⟨b,off,none⟩:Addr).add j)=some u:=by intro j u hj;rw[addr_add];exact wP hb _ j u hj
   have rF:∀u∈ns,u.oneCell'=true:=by
    intro u hu;obtain⟨j,hj⟩:=Z4 hu;have hjl:j<ns.length:=(Y8.1 hj).1;rw[hnl]at hjl;have hil:j / te.cells.len<news.length:=Nat.div_lt_of_lt_mul (by grind);have hR:=hx (j / te.cells.len) _ (Zf hil);refine aC.ones _ _ _ hR u ?_;have hdm:=Nat.div_add_mod j te.cells.len;have hml:=aax j hpos;refine Zn (i:=j%te.cells.len) ?_
    grind
   have hbb:=hE.small;unfold big at hbig;obtain⟨v',w',hr,hown',hg,_⟩:=run_append_own (P:=P) w 0 t ty e i z te.cells.len te.bytes hu.1 hi hz hsz hby hzs hpos v n xs hown ⟨b,off,none⟩ news.length cap ns hnl hnews rF
    (by grind [maxLen]) (by have:(n+news.length)*te.bytes<=4294967296*4096:=Nat.mul_le_mul hbig hbb;omega) (Zm _)
   refine⟨v',w',ns,by grind,hown',hg,λi x hi=>?_,λg hgb=>?_⟩
   rotate_left
   .exact JA (P:=P) hu.1 hi hz hsz hby hpos hown ⟨b,off,none⟩ cap hm hnl hnews rF (by omega) (by have:(n+news.length)*te.bytes<=4294967296*4096:=Nat.mul_le_mul hbig hbb;omega) hr hgb
   have hil:i<news.length:=(Y8.1 hi).1;have hmul:i*te.cells.len+te.cells.len<=news.length*te.cells.len:=by
    have:(i+1)*te.cells.len<=news.length*te.cells.len:=Y3 _ hil
    grind
   grind [bg,List.drop_drop]
theorem sU{v:Value}(h:∀a,v≠ .pointer (some a)):v.ownBlock=blk v:=by
 cases v with
 |slice a n c=>cases a<;>rfl
 |pointer a=>cases a with
  |none=>rfl
  |some a=>grind
 |_=>rfl
theorem G8{base size n:Nat}{e:TypeId}{v':Value}{xs:List Value}(hown:w'.ownsRow base e size v' n xs):
 ∀g,blk v'=some g->g<w'.heap.size:=by
 intro g hb;rcases hown.2 with⟨h1,_⟩|⟨g',cap,cur,h1,_,hh,_⟩
 .rw[h1]at hb;cases hb
 .rw[h1]at hb;cases hb
  grind
theorem IB(hΘ:∀t ti,Θ t=some ti->dG P t ti)(h:Rel w0 M T γ st a w){t ty e:TypeId}{ti te:TI}(ht:Θ t=some ti)(hk:ti.kind=.slice e)(he:Θ e=some te){o:Nat}{r:aj}{l:List r.den}{fr:Bool}
 (ho:st.af o=some (.arr e r l fr)) (hbeq:te.cells.beq r=true) {y:Cell} {news:List te.cells.den} {v src:Value} (hv:ay (ai w0 T γ st w) (.ref o) v) (hy:ay (ai w0 T γ st w) y src)
 (hget:y.get st (.sl e te.cells)=some news) (hbig:l.length+news.length<=big):
 ∃u w' γ',(Builtin.append_ #[t,t] ty #[v,src]).run P w=.ok u w'/\Rel w0 M T γ' ((st.kill (Nat.beq o ·)).add o (.arr e r (l++jd hbeq news) (fr&&y.jB te.cells st))) a w'/\
  aA (ai w0 T γ' ((st.kill (Nat.beq o ·)).add o (.arr e r (l++jd hbeq news) (fr&&y.jB te.cells st))) w') (.sv (.one (.ref o))) u:=by
 have hr:=aj.eq_of_beq _ _ hbeq;subst hr;obtain⟨_,O1,_⟩:=hv;subst O1;obtain⟨xs,hown,hpos,hfr,hrow⟩:=h.af o _ ho;obtain⟨v',w',ns,hrun,hown',hg,hnr,hgb⟩:=uD (P:=P) (ty:=ty) (hΘ t ti ht) hk (hΘ e te he) hpos hown (Cell.Jz h hy hget) hbig;have hlen:(l++jd hbeq news).length=l.length+news.length:=by rw[Y7];rfl
 have hnp:∀ad,γ o≠ .pointer (some ad):=by
  rcases hown.2 with⟨h1,_⟩|⟨g,cap,cur,h1,_⟩
  · grind
  grind
 have WU:v'.oneCell'=true:=by rcases hown'.2 with⟨h1,_⟩|⟨g,cap,cur,h1,_⟩<;>rw[h1]<;>rfl
 have hown2:=sU hnp;have hnb:∀g,blk v'=some g->(some g=blk (γ o)\/w.heap.size<=g)/\g<w'.heap.size:=by
  intro g hb;refine⟨?_,G8 hown' g hb⟩;have hb2:v'.ownBlock=some g:=by
   rw[sU (λad e1=>?_)]
   .exact hb
   .rcases hown'.2 with⟨h1,_⟩|⟨g,cap,cur,h1,_⟩<;>rw[e1]at h1<;>cases h1
  grind
 obtain⟨hR,_⟩:=h.replace (w':=w') (o:=o) (v':=v') (x':=.arr e te.cells (l++jd hbeq news) (fr&&y.jB te.cells st)) (blk (γ o)) (.inr ⟨_,ho,rfl⟩) hg.os hg.tape hg.output hg.size
  (λb hb hne=>hg.block b hb (by grind)) hnb (λ_ e=>by cases e) (λle=>by
    refine⟨xs++ns,?_,hpos,?_,?_⟩
    · grind [upd_same]
    .intro b hb hf;have hb:blk (upd γ o v' o)=some b:=hb;rw[upd_same]at hb;rcases(hnb b hb).1 with h1|h1
     · grind
     .exact Y9 h.grow h1
    .intro i x hi;have hxl:xs.length=l.length*te.cells.len:=hown.1;by_cases hil:i<l.length
     .rw[ZT hil]at hi;have hmul:i*te.cells.len+te.cells.len<=l.length*te.cells.len:=by
       have:(i+1)*te.cells.len<=l.length*te.cells.len:=Y3 _ hil
       grind
      have e1:((xs++ns).drop (i*te.cells.len)).take te.cells.len=(xs.drop (i*te.cells.len)).take te.cells.len:=by
       grind
      rw[e1];refine aC.mono (λc hc=>le.aH _ c ⟨hc.1,λe2=>hc.2 (by grind)⟩) _ _ x (hrow i x hi)
     .rw[aaw (by omega)]at hi;have e1:((xs++ns).drop (i*te.cells.len)).take te.cells.len=(ns.drop ((i-l.length)*te.cells.len)).take te.cells.len:=by
       have e2:i*te.cells.len=xs.length+(i-l.length)*te.cells.len:=by rw[hxl,← ZU];congr 1;omega
       grind [List.drop_drop,List.drop_left]
      rw[e1];refine aC.mono (λc hc=>le.aH _ c ⟨hc.1,λe2=>hc.2 (by grind)⟩) _ _ x (hnr _ x hi))
 exact⟨v',w',_,hrun,hR,⟨e,te.cells,_,_,add_same _ _ _⟩,(upd_same _ _ _).symm,WU⟩
end Go.Fw
