import Derived.WalkKit
import Derived.Laws.AppendOwnNone
import Derived.KernelRfl
import Derived.Deep.MidRow
import Derived.Great.BuildSlice
import Derived.Laws.StructEq
import Derived.Great.FillDense
import Derived.Laws.MakeOwn
import Derived.Laws.BytesString
import Derived.Laws.IdiomStrings
abbrev asX:=@Nat.eq_of_beq_eq_true
abbrev asY:=@List.length_cons
abbrev asZ:=@beq_eq_false_iff_ne
abbrev as1:=@Bool.and_eq_true
abbrev as2:=@Array.getElem?_eq_some_iff
abbrev as3:=@Nat.le_trans
abbrev as4:=@List.length_append
abbrev as5:=@List.getElem?_eq_getElem
abbrev as6:=@List.length_nil
abbrev as7:=@Nat.le_refl
abbrev as8:=@List.mem_cons_of_mem
abbrev as9:=@List.mem_cons_self
abbrev ata:=@Int.toNat_natCast
abbrev atb:=@List.length_map
abbrev atc:=@decide_eq_false_iff_not
abbrev atd:=@beq_iff_eq
abbrev ate:=@decide_eq_true_eq
abbrev atf:=@Nat.mul_le_mul_right
abbrev atg:=@List.take_length
abbrev ath:=@List.getElem?_eq_some_iff
abbrev ati:=@Nat.lt_of_lt_of_le
abbrev atj:=@decide_eq_true
abbrev atl:=@Nat.zero_le
abbrev atm:=@Nat.lt_or_ge
abbrev atn:=@List.getD_eq_getElem?_getD
abbrev ato:=@Go.run_underlying
abbrev atp:=@decide_eq_false
abbrev atq:=@List.all_eq_true
abbrev atr:=@Go.Calls.mono
abbrev att:=@List.map_cons
abbrev atu:=@Bool.eq_iff_iff
abbrev atv:=@List.length_take
abbrev atw:=@List.mem_cons
abbrev atx:=@Go.Sem.run_bind
abbrev aty:=@List.append_eq_nil_iff
abbrev atz:=@List.append_assoc
abbrev atA:=@List.mem_append
abbrev atB:=@List.mem_of_getElem?
abbrev atC:=@Classical.byContradiction
abbrev atD:=@Int.le_refl
abbrev atE:=@List.map_append
abbrev atF:=@List.getElem_of_mem
abbrev atG:=@List.flatMap_cons
abbrev atH:=@List.length_eq_zero_iff
abbrev atI:=@List.mem_singleton
abbrev atJ:=@List.getElem?_take
abbrev atK:=@List.mem_append_left
abbrev atL:=@Nat.le_of_ble_eq_true
abbrev atM:=@List.append_nil
abbrev atN:=@List.getElem?_drop
abbrev atO:=@List.take_succ_eq_append_getElem
abbrev atP:=@List.cons_append
abbrev atQ:=@List.all_cons
abbrev atS:=@Nat.zero_add
abbrev atT:=@Go.Result.andThen_ok
abbrev atU:=@List.getElem?_map
abbrev atV:=@Go.Sem.run_pure
abbrev atW:=@Array.length_toList
abbrev atX:=@Nat.beq_refl
abbrev atY:=@List.mem_map
abbrev atZ:=@List.pairwise_cons
abbrev at1:=@Nat.add_mul
abbrev at6:=@List.nil_append
abbrev at7:=@of_decide_eq_true
abbrev aua:=@List.ext_getElem?
abbrev aub:=@Bool.and_false
abbrev auc:=@Go.heap_alloc_new
abbrev aud:=@List.map_map
abbrev aue:=@List.mem_append_right
abbrev auf:=@List.mem_filter
abbrev aug:=@Nat.le_add_left
abbrev auh:=@List.getElem?_append_left
abbrev aui:=@List.getElem?_set_ne
abbrev auj:=@List.take_succ_cons
abbrev auk:=@Int.mul_le_mul_of_nonneg_right
abbrev aul:=@Option.map_none
abbrev aum:=@Nat.eq_zero_or_pos
abbrev aun:=@Nat.lt_succ_of_lt
abbrev auo:=@List.set_append_right
abbrev aup:=@List.length_replicate
abbrev auq:=@List.getElem?_eq_none
abbrev aur:=@List.length_filter_le
abbrev aus:=@Int.add_zero
abbrev aut:=@Array.toList_map
abbrev auu:=@List.getElem?_of_mem
abbrev auv:=@Bool.or_eq_false_iff
abbrev auw:=@Bool.and_true
abbrev auy:=@List.getElem?_append_right
abbrev auz:=@Array.getElem?_append_left
abbrev auA:=@Array.toList_append
abbrev auB:=@List.getD_cons_succ
abbrev auC:=@Nat.min_eq_left
abbrev auD:=@Bool.or_eq_true
abbrev auE:=@Nat.add_zero
abbrev auF:=@cond_false
abbrev auG:=@List.mem_range
abbrev auH:=@Bool.false_and
abbrev auI:=@Option.bind_eq_some_iff
abbrev auJ:=@Bool.eq_false_iff
abbrev auK:=@Array.getElem?_setIfInBounds_self
abbrev auL:=@List.map_id
abbrev auM:=@Array.getElem?_eq_none
abbrev auN:=@List.length_drop
abbrev auO:=@Nat.le_add_right
abbrev auP:=@List.take_append_drop
abbrev auQ:=@List.length_mergeSort
abbrev auR:=@Array.getElem?_setIfInBounds_ne
abbrev auS:=@Nat.not_lt_zero
abbrev auT:=@Nat.sub_self
abbrev auU:=@Array.ext'
abbrev auV:=@Go.Oper.upon_enter
abbrev auW:=@List.mem_iff_getElem
abbrev auX:=@List.pairwise_append
abbrev auY:=@Nat.mul_le_mul_left
abbrev auZ:=@true_and
abbrev au0:=@Ne.symm
abbrev au1:=@Array.getD_eq_getD_getElem?
abbrev au2:=@Bool.false_eq_true
abbrev au3:=@List.set_cons_zero
abbrev au4:=@Bool.true_and
abbrev au5:=@List.pairwise_map
abbrev au6:=@Nat.lt_trichotomy
abbrev au7:=@Nat.mod_lt
abbrev au8:=@Array.mapM_eq_mapM_toList
abbrev au9:=@Nat.not_lt
abbrev ava:=@List.drop_eq_getElem_cons
abbrev avb:=@List.pairwise_iff_getElem
abbrev avc:=@if_false
abbrev avd:=@List.all_nil
abbrev ave:=@Nat.le_of_lt
abbrev avf:=@Int.natAbs_tmod
abbrev avg:=@Option.map_some
abbrev avh:=@cond_true
abbrev avi:=@List.range_succ
abbrev avj:=@List.nodup_cons
abbrev avk:=@List.length_set
abbrev avl:=@Nat.mul_le_mul
namespace Go.Fw
open Go
abbrev Bytes:=List UInt8
mutual
inductive CT where
 |int (k:IntKind)
 |bool
 |str
 |sl (e:TypeId) (r:ak)
inductive ak where
 |nil
 |cons (c:CT) (r:ak)
end
mutual
def CT.beq:CT->CT->Bool
 |.int k,.int l=>decide (k=l)
 |.bool,.bool=>true
 |.str,.str=>true
 |.sl e r,.sl f s=>Nat.beq e f&&r.beq s
 |_,_=>false
def ak.beq:ak->ak->Bool
 |.nil,.nil=>true
 |.cons c r,.cons d s=>c.beq d&&r.beq s
 |_,_=>false
end
mutual
theorem CT.eq_of_beq:∀(c d:CT),c.beq d=true->c=d
 |.int k,.int l,h=>by simp[CT.beq]at h;rw[h]
 |.bool,.bool,_=>rfl
 |.str,.str,_=>rfl
 |.sl e r,.sl f s,h=>by
  simp[CT.beq]at h;rw[h.1,ak.eq_of_beq r s h.2]
 |.int _,.bool,h|.int _,.str,h|.int _,.sl _ _,h|.bool,.int _,h|.bool,.str,h|.bool,.sl _ _,h
 |.str,.int _,h|.str,.bool,h|.str,.sl _ _,h|.sl _ _,.int _,h|.sl _ _,.bool,h|.sl _ _,.str,h=>by simp[CT.beq]at h
theorem ak.eq_of_beq:∀(r s:ak),r.beq s=true->r=s
 |.nil,.nil,_=>rfl
 |.cons c r,.cons d s,h=>by
  simp[ak.beq]at h;rw[CT.eq_of_beq c d h.1,ak.eq_of_beq r s h.2]
 |.nil,.cons _ _,h|.cons _ _,.nil,h=>by simp[ak.beq]at h
end
mutual
@[reducible] def CT.den:CT->Type
  |.int _=>Int
  |.bool=>Bool
  |.str=>Bytes
  |.sl _ r=>List r.den
@[reducible] def ak.den:ak->Type
  |.nil=>Unit
  |.cons c r=>c.den×r.den
end
mutual
def CT.dflt:(c:CT)->c.den
 |.int _=>(0:Int)
 |.bool=>false
 |.str=>([]:Bytes)
 |.sl _ r=>([]:List r.den)
def ak.dflt:(r:ak)->r.den
 |.nil=>()
 |.cons c r=>(c.dflt,r.dflt)
end
instance(r:ak):Inhabited r.den:=⟨r.dflt⟩
def ak.len:ak->Nat
 |.nil=>0
 |.cons _ r=>r.len+1
def EF{α:Type}(h:Array Obj)(S:Nat->Prop)(size:Nat)(rep:List Value->α->Prop)(v:Value)(l:List α):Prop:=
 l.length<=maxLen/\
 ((l=[]/\∃a c,v=.slice a 0 c)\/
  ∃b off cap cs t fz,v=.slice (some ⟨b,off,none⟩) l.length cap/\l.length<=cap/\S b/\h[b]? =some (.cells cs t fz)/\
   ∀i x,l[i]? =some x->rep ((cs.toList.drop (off+i*size)).take size) x)
mutual
def dW(h:Array Obj)(S:Nat->Prop):(c:CT)->Value->c.den->Prop
 |.int k,v,(n:Int)=>v=.int k n/\k.min<=n/\n<=k.max
 |.bool,v,(b:Bool)=>v=.bool b
 |.str,v,(s:Bytes)=>v=.string ⟨s.toArray⟩/\s.length<=maxLen
 |.sl _ r,v,(l:List r.den)=>EF h S r.len (λvs x=>aZ h S r vs x) v l
def aZ(h:Array Obj)(S:Nat->Prop):(r:ak)->List Value->r.den->Prop
 |.nil,vs,_=>vs=[]
 |.cons c r,vs,(x,y)=>∃v vs',vs=v::vs'/\dW h S c v x/\aZ h S r vs' y
end
def ak.flat:ak->Bool
 |.nil=>true
 |.cons (.sl _ _) _=>false
 |.cons _ r=>r.flat
theorem aZ.flat{h:Array Obj}{S S':Nat->Prop}:∀(r:ak)(vs:List Value)(x:r.den),r.flat=true->aZ h S r vs x->aZ h S' r vs x
 |.nil,_,_,_,hr=>hr
 |.cons (.sl _ _) _,_,_,hf,_=>by grind [ak.flat]
 |.cons (.int _) r,vs,(x,y),hf,hr=>by
  obtain⟨v,vs',h1,h2,h3⟩:=hr;exact⟨v,vs',h1,h2,aZ.flat r vs' y hf h3⟩
 |.cons .bool r,vs,(x,y),hf,hr=>by
  obtain⟨v,vs',h1,h2,h3⟩:=hr;exact⟨v,vs',h1,h2,aZ.flat r vs' y hf h3⟩
 |.cons .str r,vs,(x,y),hf,hr=>by obtain⟨v,vs',h1,h2,h3⟩:=hr;exact⟨v,vs',h1,h2,aZ.flat r vs' y hf h3⟩
theorem EF.mono{α:Type}{h h':Array Obj}{S S':Nat->Prop}{size:Nat}{rep an6:List Value->α->Prop}{v:Value}{l:List α}
 (H:EF h S size rep v l) (hk:∀b,S b->S' b/\h'[b]? =h[b]?) (hr:∀vs x,rep vs x->an6 vs x):EF h' S' size an6 v l:=by
 obtain⟨hl,H⟩:=H;refine⟨hl,?_⟩
 grind
mutual
theorem dW.mono{h h':Array Obj}{S S':Nat->Prop}(hk:∀b,S b->S' b/\h'[b]? =h[b]?):
 ∀(c:CT)(v:Value)(x:c.den),dW h S c v x->dW h' S' c v x
 |.int k,v,(n:Int),H=>by simpa[dW]using H
 |.bool,v,(b:Bool),H=>by simpa[dW]using H
 |.str,v,(s:Bytes),H=>by simpa[dW]using H
 |.sl _ r,v,(l:List r.den),H=>by rw[dW]at H ⊢;exact H.mono hk (λvs x hx=>aZ.mono hk r vs x hx)
theorem aZ.mono{h h':Array Obj}{S S':Nat->Prop}(hk:∀b,S b->S' b/\h'[b]? =h[b]?):
 ∀(r:ak)(vs:List Value)(x:r.den),aZ h S r vs x->aZ h' S' r vs x
 |.nil,vs,_,H=>by simpa[aZ]using H
 |.cons c r,vs,(x,y),H=>by rw[aZ]at H ⊢;obtain⟨v,vs',e,h1,h2⟩:=H;exact⟨v,vs',e,dW.mono hk c v x h1,aZ.mono hk r vs' y h2⟩
end
theorem aZ.length{h:Array Obj}{S:Nat->Prop}:∀(r:ak)(vs:List Value)(x:r.den),aZ h S r vs x->vs.length=r.len
 |.nil,vs,_,H=>by grind [aZ,ak.len]
 |.cons c r,vs,(x,y),H=>by obtain⟨v,vs',rfl,_,h2⟩:=H;simp[ak.len,aZ.length r vs' y h2]
end Go.Fw
namespace Go.Fw
open Go
inductive Cell where
 |int (k:IntKind) (n:Int)
 |bool (b:Bool)
 |str (s:Bytes)
 |nil
 |sl (e:TypeId) (r:ak) (l:List r.den) (fr:Bool)
 |ref (o:Nat)
 |junk
inductive SV where
 |one (c:Cell)
 |agg (cs:List Cell)
def SV.cells:SV->List Cell
 |.one c=>[c]
 |.agg cs=>cs
inductive AV where
 |undef
 |sv (v:SV)
 |kZ (vs:List SV)
 |eG (o off:Nat)
 |lI (o:Nat) (i:Nat) (off:Nat)
 |win (o:Nat) (lo:Nat) (n:Nat)
 |nH (r:ak) (x:r.den) (off:Nat) (fr:Bool)
 |dA (cs:List Cell) (off:Nat)
 |fn (f:FuncId) (caps:List (List Cell))
inductive aB where
 |var (cs:List Cell)
 |arr (e:TypeId) (r:ak) (l:List r.den) (fr:Bool)
structure St where
 n:Nat
 tmps:Nat->AV
 ah:Nat->Option aB
def St.set(st:St)(d:Nat)(v:AV):St:={st with tmps:=λt=>match Nat.beq t d with|true=>v|false=>st.tmps t}
def St.put(st:St)(d:Option Nat)(v:AV):St:=match d with|some d=>st.set d v|none=>st
def St.add(st:St)(o:Nat)(x:aB):St:={st with ah:=λi=>match Nat.beq i o with|true=>some x|false=>st.ah i}
def St.adds(st:St):List (Nat×aB)->St
 |[]=>st
 |(o,x)::r=>(st.add o x).adds r
def Cell.kill(S:Nat->Bool):Cell->Cell
 |.ref o=>match S o with|true=>.junk|false=>.ref o
 |c=>c
def SV.kill(S:Nat->Bool):SV->SV
 |.one c=>.one (c.kill S)
 |.agg cs=>.agg (cs.map (Cell.kill S))
def AV.kill(S:Nat->Bool):AV->AV
 |.undef=>.undef
 |.sv v=>.sv (v.kill S)
 |.kZ vs=>.kZ (vs.map (SV.kill S))
 |.eG o off=>match S o with|true=>.undef|false=>.eG o off
 |.lI o i off=>match S o with|true=>.undef|false=>.lI o i off
 |.win o i off=>match S o with|true=>.undef|false=>.win o i off
 |.nH r x off fr=>.nH r x off fr
 |.dA cs off=>.dA (cs.map (Cell.kill S)) off
 |.fn f caps=>.fn f (caps.map (List.map (Cell.kill S)))
def aB.kill(S:Nat->Bool):aB->aB
 |.var cs=>.var (cs.map (Cell.kill S))
 |.arr e r l fr=>.arr e r l fr
def St.kill(st:St)(S:Nat->Bool):St:=
 {n:=st.n,tmps:=λt=>(st.tmps t).kill S,ah:=λo=>match S o with|true=>none|false=>(st.ah o).map (aB.kill S)}
def Cell.freeze(st:St)(S:Nat->Bool):Cell->Cell
 |.ref o=>match S o with
  |true=>match st.ah o with
   |some (.arr e r l fr)=>.sl e r l fr
   |_=>.junk
  |false=>.ref o
 |c=>c
def SV.freeze(st:St)(S:Nat->Bool):SV->SV
 |.one c=>.one (c.freeze st S)
 |.agg cs=>.agg (cs.map (Cell.freeze st S))
def AV.freeze(st:St)(S:Nat->Bool):AV->AV
 |.undef=>.undef
 |.sv v=>.sv (v.freeze st S)
 |.kZ vs=>.kZ (vs.map (SV.freeze st S))
 |.eG o off=>match S o with|true=>.undef|false=>.eG o off
 |.lI o i off=>match S o with|true=>.undef|false=>.lI o i off
 |.win o i off=>match S o with|true=>.undef|false=>.win o i off
 |.nH r x off fr=>.nH r x off fr
 |.dA cs off=>.dA (cs.map (Cell.freeze st S)) off
 |.fn f caps=>.fn f (caps.map (List.map (Cell.freeze st S)))
def aB.freeze(st:St)(S:Nat->Bool):aB->aB
 |.var cs=>.var (cs.map (Cell.freeze st S))
 |.arr e r l fr=>.arr e r l fr
def St.freeze(st:St)(S:Nat->Bool):St:=
 {n:=st.n,tmps:=λt=>(st.tmps t).freeze st S,ah:=λo=>match S o with|true=>none|false=>(st.ah o).map (aB.freeze st S)}
inductive TK where
 |scalar
 |str
 |slice (e:TypeId)
 |struct (fs:List (Nat×TypeId))
structure TI where
 kind:TK
 cells:ak
 bytes:Nat
 cmp:Bool
def TI.agg(ti:TI):Bool:=match ti.kind with|.struct _=>true|_=>false
abbrev gY:=TypeId->Option TI
def CT.zero:CT->Cell
 |.int k=>.int k 0
 |.bool=>.bool false
 |.str=>.str []
 |.sl _ _=>.nil
def ak.zeros:ak->List Cell
 |.nil=>[]
 |.cons c r=>c.zero::r.zeros
def qR{r s:ak}(h:r.beq s=true)(l:List r.den):List s.den:=ak.eq_of_beq r s h▸l
def Cell.get(st:St):(c:CT)->Cell->Option c.den
 |.int k,.int l n=>match decide (k=l)with|true=>some n|false=>none
 |.bool,.bool b=>some b
 |.str,.str s=>some s
 |.sl _ _,.nil=>some []
 |.sl _ r,.sl _ s l _=>if h:s.beq r=true then some (qR h l)else none
 |.sl _ r,.ref o=>match st.ah o with
  |some (.arr _ s l _)=>if h:s.beq r=true then some (qR h l)else none
  |_=>none
 |_,_=>none
def yg(st:St):(r:ak)->List Cell->Option r.den
 |.nil,[]=>some ()
 |.cons c r,x::xs=>match x.get st c,yg st r xs with
  |some a,some b=>some (a,b)
  |_,_=>none
 |_,_=>none
def Cell.fresh(st:St):Cell->Bool
 |.sl _ _ _ fr=>fr
 |.ref o=>match st.ah o with|some (.arr _ _ _ fr)=>fr|_=>false
 |.junk=>false
 |_=>true
def Cell.tN(r:ak)(st:St)(y:Cell):Bool:=match r.flat with
 |true=>true
 |false=>y.fresh st
def CT.cell(fr:Bool):(c:CT)->c.den->Cell
 |.int k,(n:Int)=>.int k n
 |.bool,(b:Bool)=>.bool b
 |.str,(s:Bytes)=>.str s
 |.sl e r,(l:List r.den)=>.sl e r l fr
def ak.row(fr:Bool):(r:ak)->r.den->List Cell
 |.nil,_=>[]
 |.cons c r,x=>c.cell fr x.1::ak.row fr r x.2
def acT:Value->AV
 |.int k n=>match decide (k.min<=n)&&decide (n<=k.max)with|true=>.sv (.one (.int k n))|false=>.undef
 |.bool b=>.sv (.one (.bool b))
 |.string s=>match decide (s.data.toList.length<=maxLen)with|true=>.sv (.one (.str s.data.toList))|false=>.undef
 |.slice none 0 0=>.sv (.one .nil)
 |_=>.undef
def St.ev(st:St):Operand->AV
 |.tmp t=>st.tmps t
 |.const v=>acT v
 |.func f=>.fn f []
 |.global _=>.undef
end Go.Fw
namespace Go.Fw
open Go
def big:Nat:=4294967296
inductive dX where
 |plain (x:Cell)
 |own (e:TypeId) (r:ak) (l:List r.den) (fr:Bool)
structure Out where
 ai8:List (Bool×List dX)
 var:Option (List Cell)
def Cell.made:Cell->Bool
 |.sl _ _ _ fr=>fr
 |.ref _=>false
 |_=>true
def dX.made:dX->Bool
 |.plain c=>c.made
 |.own _ _ _ fr=>fr
def Out.made(o:Out):Bool:=match o.var with
 |some cs=>cs.all Cell.made
 |none=>o.ai8.all λx=>x.2.all dX.made
inductive Arg where
 |sv (v:SV)
 |kp (cs:List Cell)
 |fn (f:FuncId) (caps:List (List Cell))
 |own (e:TypeId) (r:ak) (l:List r.den)
 |ptr (cs:List Cell)
abbrev Kw:=List Arg->Option (Prop×Out)
inductive Mode where
 |val
 |own
 |ptr
inductive Eff where
 |lose
 |arr (e:TypeId) (r:ak) (l:List r.den)
 |var (cs:List Cell)
structure L8 where
 T:Type
 R:T->Prop
 out:T->Out
 aJ:T->List Eff
abbrev RV:=List Arg->Option (Prop×L8)
inductive EG where
 |pure (c:Kw)
 |eff (ms:List Mode) (c:RV)
abbrev je:=FuncId->Option EG
def Cell.view(st:St):Cell->Cell
 |.ref o=>match st.ah o with
  |some (.arr e r l _)=>.sl e r l false
  |_=>.junk
 |.sl e r l _=>.sl e r l false
 |c=>c
def SV.view(st:St):SV->SV
 |.one c=>.one (c.view st)
 |.agg cs=>.agg (cs.map (Cell.view st))
def Cell.ok(st:St):Cell->Bool
 |.ref o=>match st.ah o with
  |some (.arr _ _ _ _)=>true
  |_=>false
 |_=>true
def mG(st:St):List AV->Option (List Arg)
 |[]=>some []
 |x::r=>match x,mG st r with
  |.sv v,some vs=>match v.cells.all (Cell.ok st)with
   |true=>some (.sv (v.view st)::vs)
   |false=>none
  |.dA cs off,some vs=>match Nat.beq off 0&&cs.all (Cell.ok st)with
   |true=>some (.kp (cs.map (Cell.view st))::vs)
   |false=>none
  |.fn f caps,some vs=>match caps.all (List.all · (Cell.ok st))with
   |true=>some (.fn f (caps.map (List.map (Cell.view st)))::vs)
   |false=>none
  |_,_=>none
def handed(st:St)(xs:List Operand)(caps:List (List Cell)):List AV:=xs.map st.ev++caps.map λcs=>.dA cs 0
def heldBy(st:St):List Operand->Option (List (List Cell))
 |[]=>some []
 |x::r=>match st.ev x,heldBy st r with
  |.dA cs off,some l=>match Nat.beq off 0 with
   |true=>some (cs::l)
   |false=>none
  |_,_=>none
def dX.take(k:Nat):dX->Cell×List (Nat×aB)
 |.plain c=>(c,[])
 |.own e r l fr=>(.ref k,[(k,.arr e r l fr)])
def jJ(k:Nat):List dX->List Cell×List (Nat×aB)
 |[]=>([],[])
 |x::r=>((x.take k).1::(jJ (k+1) r).1,(x.take k).2++(jJ (k+1) r).2)
def rX(k:Nat)(x:Bool×List dX):SV×List (Nat×aB):=
 match x.1,jJ k x.2 with
 |true,(cs,δ)=>(.agg cs,δ)
 |false,([c],δ)=>(.one c,δ)
 |false,(_,δ)=>(.one .junk,δ)
def gQ(k:Nat):List (Bool×List dX)->List SV×List (Nat×aB)
 |[]=>([],[])
 |x::r=>((rX k x).1::(gQ (k+x.2.length) r).1,(rX k x).2++(gQ (k+x.2.length) r).2)
def Out.take(k:Nat)(o:Out):AV×List (Nat×aB):=
 match o.var with
 |some cs=>(.eG (k-1) 0,[(k-1,.var cs)])
 |none=>match gQ k o.ai8 with
  |([v],δ)=>(.sv v,δ)
  |(vs,δ)=>(.kZ vs,δ)
def bitsOf(op:BinOp)(k:IntKind)(x y:Int):Int:=
 let a:=BitVec.ofInt k.bits x
 let b:=BitVec.ofInt k.bits y
 match op with
 |.and=>k.wrap (a&&&b).toNat
 |.or=>k.wrap (a|||b).toNat
 |.xor=>k.wrap (a ^^^ b).toNat
 |_=>k.wrap (a&&&~~~b).toNat
def Nc(op:BinOp)(k:IntKind)(x y:Int):Option (Prop×Cell):=
 match op with
 |.add=>some (True,.int k (k.wrap (x+y)))
 |.sub=>some (True,.int k (k.wrap (x-y)))
 |.mul=>some (True,.int k (k.wrap (x*y)))
 |.quo=>some (y≠0,.int k (k.wrap (x.tdiv y)))
 |.rem=>some (y≠0,.int k (x.tmod y))
 |.and|.or|.xor|.andNot=>some (True,.int k (bitsOf op k x y))
 |.eql=>some (True,.bool (x==y))
 |.neq=>some (True,.bool (x !=y))
 |.lss=>some (True,.bool (decide (x<y)))
 |.leq=>some (True,.bool (decide (x<=y)))
 |.gtr=>some (True,.bool (decide (x>y)))
 |.geq=>some (True,.bool (decide (x>=y)))
 |_=>none
def RZ(op:BinOp)(x y:Bytes):Option (Prop×Cell):=
 match op with
 |.add=>some (x.length+y.length<=maxLen,.str (x++y))
 |.eql=>some (True,.bool (x==y))
 |.neq=>some (True,.bool (!(x==y)))
 |.lss=>some (True,.bool (Op.bytesLess x y))
 |.leq=>some (True,.bool (Op.bytesLess x y||x==y))
 |.gtr=>some (True,.bool (!(Op.bytesLess x y||x==y)))
 |.geq=>some (True,.bool (!(Op.bytesLess x y)))
 |_=>none
def Si:Cell->Cell->Option Bool
 |.int k a,.int l b=>match decide (k=l)with|true=>some (a==b)|false=>none
 |.bool a,.bool b=>some (a==b)
 |.str a,.str b=>some (a==b)
 |_,_=>none
def CT.fits:CT->Cell->Bool
 |.int k,.int l _=>decide (k=l)
 |.bool,.bool _=>true
 |.str,.str _=>true
 |_,_=>false
def ak.fits:ak->List Cell->Bool
 |.nil,[]=>true
 |.cons c r,x::xs=>c.fits x&&r.fits xs
 |_,_=>false
def jk:List Cell->List Cell->Option Bool
 |[],[]=>some true
 |x::xs,y::ys=>match Si x y,jk xs ys with
  |some a,some b=>some (a&&b)
  |_,_=>none
 |_,_=>none
def Nh(op:BinOp)(x y:Cell):Option (Prop×Cell):=
 match x,y with
 |.int k a,.int l b=>
  match op with
  |.shl=>some (0<=b,.int k (k.wrap (a*2 ^ (min b.toNat k.bits))))
  |.shr=>some (0<=b,.int k (a.fdiv (2 ^ (min b.toNat k.bits))))
  |_=>match decide (k=l)with|true=>Nc op k a b|false=>none
 |.str a,.str b=>RZ op a b
 |.bool a,.bool b=>match op with
  |.eql=>some (True,.bool (a==b))
  |.neq=>some (True,.bool (!(a==b)))
  |_=>none
 |_,_=>none
def splice(xs:List Cell)(off:Nat)(ys:List Cell):List Cell:=xs.take off++ys++xs.drop (off+ys.length)
def Cell.isRef:Cell->Bool|.ref _=>true|_=>false
def Cell.refs:Cell->List Nat|.ref o=>[o]|_=>[]
variable (Θ:gY) (Γ:je)
def F6(st:St)(fs:List (Nat×TypeId)):List (Nat×Operand)->List Cell->Option (List Cell)
 |[],cs=>some cs
 |(i,x)::r,cs=>match fs[i]?,st.ev x with
  |some (off,t),.sv v=>match Θ t with
   |some ti=>match Nat.beq v.cells.length ti.cells.len&&Nat.ble (off+ti.cells.len) cs.length with
    |true=>F6 st fs r (splice cs off v.cells)
    |false=>none
   |none=>none
  |_,_=>none
def CB(st:St)(r:ak):Nat->List (Nat×Operand)->Option (List r.den)
 |_,[]=>some []
 |k,(i,x)::p=>match Nat.beq i k,st.ev x,CB st r (k+1) p with
  |true,.sv v,some l=>match yg st r v.cells with
   |some a=>some (a::l)
   |none=>none
  |_,_,_=>none
def lD(st:St):List (Nat×Operand)->Bool
 |[]=>true
 |(_,x)::p=>(match st.ev x with|.sv v=>v.cells.all (Cell.fresh st)|_=>false)&&lD st p
def kK(st:St):List (Nat×Operand)->List Nat
 |[]=>[]
 |(_,x)::p=>(match st.ev x with|.sv v=>v.cells.flatMap Cell.refs|_=>[])++kK st p
def qX:AV->Option Int
 |.sv (.one (.int _ n))=>some n
 |_=>none
def kL(st:St)(len:Nat)(lo hi:Option Operand):Option (Prop×Nat×Nat):=
 match lo,hi with
 |none,none=>some (True,0,len)
 |some l,none=>match qX (st.ev l)with
  |some a=>some (0<=a/\a<=len,a.toNat,len)
  |none=>none
 |none,some h=>match qX (st.ev h)with
  |some b=>some (0<=b/\b<=len,0,b.toNat)
  |none=>none
 |some l,some h=>match qX (st.ev l),qX (st.ev h)with
  |some a,some b=>some (0<=a/\a<=b/\b<=len,a.toNat,b.toNat)
  |_,_=>none
def Sj(st:St)(n room:Nat)(lo hi:Option Operand):Option (Prop×Nat×Nat):=match hi with
 |none=>kL st n lo none
 |some h=>kL st room lo (some h)
def acU(x:(ak.cons (.int .u8) .nil).den):Int:=x.1
def byteRow(l:List (ak.cons (.int .u8) .nil).den):Bytes:=l.map λx=>UInt8.ofNat (acU x).toNat
def CG(s:Bytes):List (ak.cons (.int .u8) .nil).den:=s.map λb=>((b.toNat:Int),())
def jP(ti:TI)(cs:List Cell)(off:Nat):Option SV:=
 match ti.agg with
 |true=>match Nat.ble (off+ti.cells.len) cs.length with
  |true=>some (.agg ((cs.drop off).take ti.cells.len))
  |false=>none
 |false=>match cs[off]? with
  |some c=>some (.one c)
  |none=>none
def aiw(t:TypeId):Cell->Bool
 |.bool _=>match Θ t with
  |some ti=>match ti.cells with
   |.cons .bool .nil=>ti.agg==false
   |_=>false
  |none=>false
 |_=>true
def AV.refs:AV->List Nat
 |.sv v=>v.cells.flatMap Cell.refs
 |.dA cs _=>cs.flatMap Cell.refs
 |.fn _ caps=>caps.flatMap λcs=>cs.flatMap Cell.refs
 |_=>[]
def rY:List AV->List Nat
 |[]=>[]
 |x::r=>x.refs++rY r
def EH(xs:List AV):Bool:=match rY xs with|[]=>true|_::_=>false
def calm(d:Nat)(st:St):Op->Option (Prop×AV×List (Nat×aB))
 |.move x|.assign x=>some (True,st.ev x,[])
 |.nilCheck x=>match st.ev x with
  |.eG o off=>some (True,.eG o off,[])
  |.lI o i off=>some (True,.lI o i off,[])
  |.nH r x off fr=>some (True,.nH r x off fr,[])
  |.dA cs off=>some (True,.dA cs off,[])
  |.fn f caps=>some (True,.fn f caps,[])
  |_=>none
 |.makeFunc (.func f) first captured=>match first.toList,heldBy st captured.toList with
  |[],some l=>some (True,.fn f l,[])
  |_,_=>none
 |.pick c a b=>match st.ev c with
  |.sv (.one (.bool g))=>some (True,match g with|true=>st.ev a|false=>st.ev b,[])
  |_=>none
 |.alloc t=>match Θ t with
  |some ti=>some (True,.eG (d*64) 0,[(d*64,.var ti.cells.zeros)])
  |none=>none
 |.box _ x=>match st.ev x with
  |.sv v=>some (True,.eG (d*64) 0,[(d*64,.var v.cells)])
  |_=>none
 |.build t parts=>match Θ t with
  |some ti=>match ti.kind with
   |.struct fs=>match F6 Θ st fs parts.toList ti.cells.zeros with
    |some cs=>some (True,.sv (.agg cs),[])
    |none=>none
   |_=>none
  |none=>none
 |.buildSlice t len parts=>match Θ t with
  |some ti=>match ti.kind with
   |.slice e=>match Θ e with
    |some te=>match Nat.beq len parts.size&&Nat.ble 1 te.cells.len&&Nat.ble (len*te.cells.len) 16777216,kK st parts.toList,CB st te.cells 0 parts.toList with
     |true,[],some l=>some (True,.sv (.one (.ref (d*64+1))),[(d*64+1,.arr e te.cells l (lD st parts.toList))])
     |_,_,_=>none
    |none=>none
   |_=>none
  |none=>none
 |.makeSlice t x y=>match Θ t,qX (st.ev x),qX (st.ev y)with
  |some ti,some n,some c=>match ti.kind with
   |.slice e=>match Θ e with
    |some te=>match Nat.ble 1 te.cells.len with
     |true=>some (0<=n/\n<=c/\c<=(big:Int),.sv (.one (.ref (d*64+1))),[(d*64+1,.arr e te.cells (List.replicate n.toNat te.cells.dflt) true)])
     |false=>none
    |none=>none
   |_=>none
  |_,_,_=>none
 |.load t p=>match Θ t,st.ev p with
  |some ti,.eG o off=>match st.ah o with
   |some (.var cs)=>match jP ti cs off with
    |some v=>some (True,.sv v,[])
    |none=>none
   |_=>none
  |some ti,.lI o i off=>match st.ah o with
   |some (.arr _ r l fr)=>match jP ti (ak.row fr r (l.getD i r.dflt)) off with
    |some v=>some (i<l.length,.sv v,[])
    |none=>none
   |_=>none
  |some ti,.nH r x off fr=>match jP ti (ak.row fr r x) off with
   |some v=>some (True,.sv v,[])
   |none=>none
  |some ti,.dA cs off=>match jP ti cs off with
   |some v=>some (True,.sv v,[])
   |none=>none
  |_,_=>none
 |.fieldAddr s p f=>match Θ s with
  |some ti=>match ti.kind with
   |.struct fs=>match fs[f]? with
    |some (k,t)=>match Θ t with
     |some te=>match te.cells,st.ev p with
      |.nil,_=>none
      |_,.eG o off=>some (True,.eG o (off+k),[])
      |_,.lI o i off=>some (True,.lI o i (off+k),[])
      |_,.nH r x off fr=>some (True,.nH r x (off+k) fr,[])
      |_,.dA cs off=>some (True,.dA cs (off+k),[])
      |_,_=>none
     |none=>none
    |none=>none
   |_=>none
  |none=>none
 |.field s x f=>match Θ s with
  |some ti=>match ti.kind with
   |.struct fs=>match fs[f]?,st.ev x with
    |some (k,t),.sv (.agg cs)=>match Θ t with
     |some te=>match jP te cs k with
      |some v=>some (True,.sv v,[])
      |none=>none
     |none=>none
    |_,_=>none
   |_=>none
  |none=>none
 |.indexAddr t x ix=>match Θ t,qX (st.ev ix)with
  |some ti,some n=>match ti.kind with
   |.slice e=>match Θ e,st.ev x with
    |some te,.sv (.one (.sl _ r l fr))=>match te.cells.beq r with
     |true=>some (0<=n/\n<l.length,.nH r (l.getD n.toNat r.dflt) 0 fr,[])
     |false=>none
    |some te,.sv (.one (.ref o))=>match st.ah o with
     |some (.arr _ r l _)=>match te.cells.beq r with
      |true=>some (0<=n/\n<l.length,.lI o n.toNat 0,[])
      |false=>none
     |_=>none
    |some _,.sv (.one .nil)=>some (False,.undef,[])
    |_,_=>none
   |_=>none
  |_,_=>none
 |.index t x ix=>match Θ t,qX (st.ev ix),st.ev x with
  |some ti,some n,.sv (.one (.str s))=>match ti.kind with
   |.str=>some (0<=n/\n<s.length,.sv (.one (.int .u8 ((s.getD n.toNat 0).toNat:Int))),[])
   |_=>none
  |_,_,_=>none
 |.binOp op t x y _=>match st.ev x,st.ev y with
  |.sv (.one a),.sv (.one b)=>match aiw Θ t a with
   |true=>match Nh op a b with
    |some (p,c)=>some (p,.sv (.one c),[])
    |none=>none
   |false=>none
  |.sv (.agg a),.sv (.agg b)=>match Θ t with
   |some ti=>match ti.cmp,jk a b,op with
    |true,some g,.eql=>match ti.cells.fits a with
     |true=>some (True,.sv (.one (.bool g)),[])
     |false=>none
    |true,some g,.neq=>match ti.cells.fits a with
     |true=>some (True,.sv (.one (.bool (!g))),[])
     |false=>none
    |_,_,_=>none
   |none=>none
  |_,_=>none
 |.unOp op _ x=>match op,st.ev x with
  |.not,.sv (.one (.bool b))=>some (True,.sv (.one (.bool (!b))),[])
  |.neg,.sv (.one (.int k n))=>some (True,.sv (.one (.int k (k.wrap (0-n)))),[])
  |_,_=>none
 |.convert src dst x=>match Θ src,Θ dst,st.ev x with
  |some ts,some td,.sv (.one c)=>if ts.agg||td.agg then none else match ts.cells,td.cells,c with
   |.cons (.int _) .nil,.cons (.int k) .nil,.int _ n=>some (True,.sv (.one (.int k (k.wrap n))),[])
   |.cons .str .nil,.cons .str .nil,.str s=>some (True,.sv (.one (.str s)),[])
   |.cons .str .nil,.cons (.sl e (.cons (.int .u8) .nil)) .nil,.str s=>match Θ e with
    |some te=>match te.cells,te.agg with
     |.cons (.int .u8) .nil,false=>some (True,.sv (.one (.sl e (.cons (.int .u8) .nil) (CG s) true)),[])
     |_,_=>none
    |none=>none
   |.cons (.sl e (.cons (.int .u8) .nil)) .nil,.cons .str .nil,c=>match c.get st (.sl e (.cons (.int .u8) .nil)),Θ e with
    |some l,some te=>match te.cells,te.agg with
     |.cons (.int .u8) .nil,false=>some (True,.sv (.one (.str (byteRow l))),[])
     |_,_=>none
    |_,_=>none
   |_,_,_=>none
  |_,_,_=>none
 |.extract x ix=>match st.ev x with
  |.kZ vs=>match vs[ix]? with
   |some v=>some (True,.sv v,[])
   |none=>none
  |_=>none
 |.slice t x lo hi none=>match Θ t,st.ev x with
  |some ti,.sv (.one (.str s))=>match ti.kind,kL st s.length lo hi with
   |.str,some (p,a,b)=>some (p,.sv (.one (.str ((s.take b).drop a))),[])
   |_,_=>none
  |some ti,.sv (.one (.sl e r l fr))=>match ti.kind,kL st l.length lo hi with
   |.slice f,some (p,a,b)=>match Θ f with
    |some te=>match te.cells.beq r with
     |true=>some (p,.sv (.one (.sl e r ((l.take b).drop a) fr)),[])
     |false=>none
    |none=>none
   |_,_=>none
  |some ti,.sv (.one .nil)=>match ti.kind,kL st 0 lo hi with
   |.slice f,some (p,_,_)=>match Θ f with
    |some _=>some (p,.sv (.one .nil),[])
    |none=>none
   |_,_=>none
  |some ti,.win o Ec n0=>match ti.kind,st.ah o with
   |.slice f,some (.arr _ r l _)=>match Θ f,Sj st n0 (l.length-Ec) lo hi with
    |some te,some (p,a,b)=>match te.cells.beq r with
     |true=>some (p,.win o (Ec+a) (b-a),[])
     |false=>none
    |_,_=>none
   |_,_=>none
  |_,_=>none
 |.slice t x (some lo) (some hi) (some mx)=>match Θ t,st.ev x with
  |some ti,.sv (.one (.ref o))=>match ti.kind,st.ah o with
   |.slice f,some (.arr _ _ l _)=>match Θ f,qX (st.ev lo),qX (st.ev hi),qX (st.ev mx)with
    |some _,some a,some b,some c=>some (0<=a/\a<=b/\b<=c/\c<=l.length,.undef,[])
    |_,_,_,_=>none
   |_,_=>none
  |_,_=>none
 |.call {callee:=.builtin .len,args,argTypes}=>match args.toList,argTypes.toList with
  |[x],[t]=>match Θ t,st.ev x with
   |some ti,.sv (.one c)=>match ti.kind,c with
    |.str,.str s=>some (True,.sv (.one (.int .i64 s.length)),[])
    |.slice _,.sl _ _ l _=>some (True,.sv (.one (.int .i64 l.length)),[])
    |.slice _,.nil=>some (True,.sv (.one (.int .i64 0)),[])
    |.slice _,.ref o=>match st.ah o with
     |some (.arr _ _ l _)=>some (True,.sv (.one (.int .i64 l.length)),[])
     |_=>none
    |_,_=>none
   |some ti,.win _ _ n=>match ti.kind with
    |.slice _=>some (True,.sv (.one (.int .i64 n)),[])
    |_=>none
   |_,_=>none
  |_,_=>none
 |.call {callee:=.builtin .min,args,.. }=>match args.toList with
  |[x,y]=>match st.ev x,st.ev y with
   |.sv (.one (.int k a)),.sv (.one (.int l b))=>match decide (k=l)with
    |true=>some (True,.sv (.one (.int k (if b<a then b else a))),[])
    |false=>none
   |_,_=>none
  |_=>none
 |.call {callee:=.builtin .max,args,.. }=>match args.toList with
  |[x,y]=>match st.ev x,st.ev y with
   |.sv (.one (.int k a)),.sv (.one (.int l b))=>match decide (k=l)with
    |true=>some (True,.sv (.one (.int k (if b>a then b else a))),[])
    |false=>none
   |_,_=>none
  |_=>none
 |.call {callee:=.value x,args,.. }=>match st.ev x with
  |.fn f caps=>match Γ f,mG st (handed st args.toList caps)with
   |some (.pure con),some vs=>match con vs with
    |some (p,out)=>match out.made||EH (handed st args.toList caps)with
     |true=>some (p,(out.take (d*64+1)).1,(out.take (d*64+1)).2)
     |false=>none
    |none=>none
   |_,_=>none
  |_=>none
 |_=>none
def agh(st:St)(xs:List Operand)(caps:List (List Cell))(o:Nat):Bool:=(rY (handed st xs caps)).contains o
def ai9(st:St)(xs:List Operand)(caps:List (List Cell)):St:=st.freeze (agh st xs caps)
def amT(st:St)(xs:List Operand)(caps:List (List Cell)):List AV:=(handed st xs caps).map (AV.freeze st (agh st xs caps))
def CJ:List Mode->List AV->List AV
 |_,[]=>[]
 |[],xs=>xs
 |.val::ms,x::xs=>x::CJ ms xs
 |_::ms,_::xs=>CJ ms xs
def Vl(st:St)(ms:List Mode)(xs:List Operand)(caps:List (List Cell))(o:Nat):Bool:=(rY (CJ ms (handed st xs caps))).contains o
def Jj(st:St)(ms:List Mode)(xs:List Operand)(caps:List (List Cell)):St:=st.freeze (Vl st ms xs caps)
def aky(st:St)(ms:List Mode)(xs:List Operand)(caps:List (List Cell)):List AV:=(handed st xs caps).map (AV.freeze st (Vl st ms xs caps))
def pJ(st:St)(m:Mode)(x:AV):Option (Arg×Option Nat):=
 match m with
 |.val=>match x.refs,mG st [x]with
  |[],some [a]=>some (a,none)
  |_,_=>none
 |.own=>match x with
  |.sv (.one (.ref o))=>match st.ah o with
   |some (.arr e r l _)=>some (.own e r l,some o)
   |_=>none
  |_=>none
 |.ptr=>match x with
  |.eG o off=>match Nat.beq off 0,st.ah o with
   |true,some (.var cs)=>match cs.flatMap Cell.refs with
    |[]=>some (.ptr (cs.map (Cell.view st)),some o)
    |_=>none
   |_,_=>none
  |_=>none
def hands(st:St):List Mode->List AV->Option (List Arg×List (Option Nat))
 |_,[]=>some ([],[])
 |ms,x::xs=>match pJ st (ms.headD .val) x,hands st ms.tail xs with
  |some (a,o),some (as,os)=>some (a::as,o::os)
  |_,_=>none
def Sl(o:Nat):List (Option Nat)->Bool
 |[]=>false
 |some p::r=>match Nat.beq o p with|true=>true|false=>Sl o r
 |none::r=>Sl o r
def vU:List (Option Nat)->Bool
 |[]=>true
 |some p::r=>!(Sl p r)&&vU r
 |none::r=>vU r
def nX(aJ:List Eff)(p:Nat):Option aB:=
 match aJ[p / 64]? with
 |some (.arr e r l)=>match Nat.beq (p%64) 49 with|true=>some (.arr e r l false)|false=>none
 |some (.var cs)=>match Nat.beq (p%64) 48 with|true=>some (.var cs)|false=>none
 |_=>none
def G5(aJ:List Eff)(δ:List (Nat×aB)):Bool:=δ.all λy=>(nX aJ y.1).isNone
def lX(st:St):List (Option Nat)->List Eff->Option (List (Nat×aB))
 |[],_=>some []
 |none::os,aJ=>lX st os aJ.tail
 |some o::os,aJ=>match aJ.head?,st.ah o,lX st os aJ.tail with
  |some .lose,_,some δ=>some δ
  |some (.arr e r l),some (.arr f s _ _),some δ=>match Nat.beq e f&&r.beq s with
   |true=>some ((o,.arr e r l false)::δ)
   |false=>none
  |some (.var cs),some (.var _),some δ=>match cs.flatMap Cell.refs with
   |[]=>some ((o,.var cs)::δ)
   |_=>none
  |_,_,_=>none
def ig:List (Option Nat)->List Eff->Nat->Bool
 |[],_,_=>false
 |none::os,aJ,p=>ig os aJ.tail p
 |some o::os,aJ,p=>match aJ.head? with
  |some .lose=>match Nat.beq o p with|true=>true|false=>ig os aJ.tail p
  |_=>ig os aJ.tail p
def iP(st:St)(δ:List (Nat×aB)):Bool:=δ.all λy=>(st.ah y.1).isNone
def qc{α:Type}(l:List α)(lo:Nat)(news:List α):List α:=l.take lo++news++l.drop (lo+news.length)
def Sm(Θ:gY)(st:St)(ti:TI)(o Ec n0 o2 lo2 n2:Nat):Option (Prop×AV×St):=match Nat.beq Ec 0&&Nat.beq o o2,ti.kind,st.ah o with
 |true,.slice e,some (.arr f r l fr)=>match Θ e with
  |some te=>match te.cells.beq r&&Nat.beq e f with
   |true=>some (n0+n2<=l.length/\lo2+n2<=l.length,.win o 0 (n0+n2),st.add o (.arr f r (qc l n0 ((l.drop lo2).take n2)) fr))
   |false=>none
  |none=>none
 |_,_,_=>none
def XM(Θ:gY)(st:St)(ti:TI)(o lo n:Nat):Option (Prop×AV×St):=match ti.kind,st.ah o with
 |.slice e,some (.arr f r l fr)=>match Θ e with
  |some te=>match te.cells.beq r&&Nat.beq e f with
   |true=>some (lo+n<=l.length,.kZ [],st.add o (.arr f r (qc l lo (List.replicate n r.dflt)) fr))
   |false=>none
  |none=>none
 |_,_=>none
def store(st:St)(p:AV)(v:SV):Option (Prop×St):=
 match p with
 |.eG o off=>match st.ah o with
  |some (.var cs)=>match Nat.ble (off+v.cells.length) cs.length with
   |true=>some (True,st.add o (.var (splice cs off v.cells)))
   |false=>none
  |_=>none
 |.lI o i off=>match v.cells.flatMap Cell.refs,st.ah o with
  |[],some (.arr e r l fr)=>match yg st r (splice (ak.row fr r (l.getD i r.dflt)) off v.cells),Nat.ble (off+v.cells.length) r.len with
   |some x,true=>some (i<l.length,st.add o (.arr e r (l.set i x) (fr&&v.cells.all (Cell.fresh st))))
   |_,_=>none
  |_,_=>none
 |_=>none
def zX(p:AV)(v:SV)(o:Nat):Bool:=match p with|.lI _ _ _=>(v.cells.flatMap Cell.refs).contains o|_=>false
def eff(d:Nat)(st:St):Op->Option (Prop×AV×St)
 |.store t p x=>match st.ev x,Θ t with
  |.sv v,some ti=>match Nat.beq v.cells.length ti.cells.len with
   |true=>match store (st.freeze (zX (st.ev p) v)) ((st.ev p).freeze st (zX (st.ev p) v)) (v.freeze st (zX (st.ev p) v))with
    |some (q,s)=>some (q,.undef,s)
    |none=>none
   |false=>none
  |_,_=>none
 |.buildSlice t len parts=>
  match calm Θ Γ d (st.freeze ((kK st parts.toList).contains ·)) (.buildSlice t len parts)with
  |some (p,v,δ)=>match iP (st.freeze ((kK st parts.toList).contains ·)) δ with
   |true=>some (p,v,(st.freeze ((kK st parts.toList).contains ·)).adds δ)
   |false=>none
  |none=>none
 |.slice t x lo hi none=>match Θ t,st.ev x with
  |some ti,.sv (.one (.ref o))=>match ti.kind,st.ah o with
   |.slice f,some (.arr e r l fr)=>match Θ f,kL st l.length lo hi with
    |some te,some (p,_,b)=>match te.cells.beq r with
     |true=>match lo with
      |none=>some (p,.sv (.one (.ref o)),(st.kill (Nat.beq o ·)).add o (.arr e r (l.take b) fr))
      |some l0=>match calm Θ Γ d (st.freeze (Nat.beq o ·)) (.slice t x (some l0) hi none)with
       |some (q,v,[])=>some (q,v,st.freeze (Nat.beq o ·))
       |_=>none
     |false=>none
    |_,_=>none
   |_,_=>none
  |_,_=>none
 |.call {callee:=.builtin .append,args,argTypes}=>match args.toList,argTypes.toList with
  |[s,x],[t,u]=>match Nat.beq t u,Θ t,st.ev s,st.ev x with
   |true,some ti,.sv (.one c),.sv (.one y)=>match ti.kind with
    |.slice e=>match Θ e with
     |some te=>match y.get st (.sl e te.cells),c with
      |some news,.ref o=>match st.ah o with
       |some (.arr f r l fr)=>if h:te.cells.beq r=true then
         match Nat.beq e f with
         |true=>some (l.length+news.length<=big,.sv (.one (.ref o)),(st.kill (Nat.beq o ·)).add o (.arr e r (l++qR h news) (fr&&y.tN te.cells st)))
         |false=>none
        else none
       |_=>none
      |some news,.nil=>match Nat.ble 1 te.cells.len with
       |true=>some (news.length<=big,.sv (.one (.ref (d*64+1))),(st.kill (Nat.beq (d*64+1) ·)).add (d*64+1) (.arr e te.cells news (y.tN te.cells st)))
       |false=>none
      |_,_=>none
     |none=>none
    |_=>none
   |true,some ti,.win o Ec n0,.win o2 lo2 n2=>Sm Θ st ti o Ec n0 o2 lo2 n2
   |_,_,_,_=>none
  |_,_=>none
 |.call {callee:=.builtin .clear,args,argTypes}=>match args.toList,argTypes.toList with
  |[x],[t]=>match Θ t,st.ev x with
   |some ti,.win o lo n=>XM Θ st ti o lo n
   |_,_=>none
  |_,_=>none
 |.call {callee:=.value x,args,.. }=>
  match st.ev x with
  |.fn f caps=>
   match Γ f with
   |some (.pure con)=>match mG (ai9 st args.toList caps) (amT st args.toList caps),rY (amT st args.toList caps)with
    |some vs,[]=>match con vs with
     |some (p,out)=>match iP (ai9 st args.toList caps) (out.take (d*64+1)).2 with
      |true=>some (p,(out.take (d*64+1)).1,(ai9 st args.toList caps).adds (out.take (d*64+1)).2)
      |false=>none
     |none=>none
    |_,_=>none
   |_=>none
  |_=>none
 |_=>none
def ZP(st:St):Op->Option (Prop×L8×List (Option Nat)×St)
 |.call {callee:=.value x,args,.. }=>
  match st.ev x with
  |.fn f caps=>match Γ f with
   |some (.eff ms con)=>match hands (Jj st ms args.toList caps) ms (aky st ms args.toList caps)with
    |some (vs,os)=>match con vs with
     |some (p,ρ)=>some (p,ρ,os,Jj st ms args.toList caps)
     |none=>none
    |none=>none
   |_=>none
  |_=>none
 |_=>none
def Vm(d:Nat)(s0:St)(os:List (Option Nat))(out:Out)(aJ:List Eff):Option (AV×St):=
 match vU os&&G5 aJ (out.take (d*64+1)).2,lX s0 os aJ,iP (s0.kill (ig os aJ)) (out.take (d*64+1)).2 with
 |true,some δ,true=>some ((out.take (d*64+1)).1,((s0.kill (ig os aJ)).adds δ).adds (out.take (d*64+1)).2)
 |_,_,_=>none
def oper(d:Nat)(st:St)(o:Op):Option (Prop×AV×St):=
 match calm Θ Γ d st o with
 |some (p,v,δ)=>match iP st δ with
  |true=>some (p,v,st.adds δ)
  |false=>none
 |none=>eff Θ Γ d st o
end Go.Fw
namespace Go.Fw
open Go
structure V where
 w:World
 n0:Nat
 S:Nat->Prop
 γ:Nat->Value
 ah:Nat->Option aB
def blk:Value->Option Nat
 |.pointer (some a)=>some a.block
 |.slice (some a) _ _=>some a.block
 |_=>none
def V.foot(X:V)(b:Nat):Prop:=b<X.w.heap.size/\(b<X.n0->X.S b)/\∀o x,X.ah o=some x->blk (X.γ o)≠some b
def unf(w:World)(b:Nat):Prop:=∀cs t fz,w.heap[b]? =some (.cells cs t fz)->∀k,k<cs.size->¬(fz.1<=k/\k<fz.2)
theorem unf.keep{w w':World}{b:Nat}(h:unf w b)(e:w'.heap[b]? =w.heap[b]?):unf w' b:=λcs t fz hc=>h cs t fz (e▸hc)
theorem aix{w:World}{base size n b:Nat}{e:TypeId}{v:Value}{xs:List Value}(h:w.ownsRow base e size v n xs)(hb:blk v=some b):unf w b:=λcs t fz hc=>by
 rcases h.2 with⟨rfl,_⟩|⟨g,cap,cur,rfl,_,h1,_⟩
 .cases hb
 .cases hb;rw[h1]at hc;cases hc;exactλk _ h=>auS k h.2
def V.bP(X:V)(fr:Bool)(b:Nat):Prop:=X.foot b/\(fr=true->X.n0<=b/\unf X.w b)
def aK(X:V):Cell->Value->Prop
 |.int k n,v=>v=.int k n/\k.min<=n/\n<=k.max
 |.bool b,v=>v=.bool b
 |.str s,v=>v=.string ⟨s.toArray⟩/\s.length<=maxLen
 |.nil,v=>v=.slice none 0 0
 |.sl e r l fr,v=>dW X.w.heap (X.bP fr) (.sl e r) v l
 |.ref o,v=>(∃e r l fr,X.ah o=some (.arr e r l fr))/\v=X.γ o/\v.oneCell'=true
 |.junk,v=>v.oneCell'=true
def ai(X:V):List Cell->List Value->Prop
 |[],[]=>True
 |c::cs,v::vs=>aK X c v/\ai X cs vs
 |_,_=>False
def dw(X:V):SV->Value->Prop
 |.one c,v=>aK X c v
 |.agg cs,v=>∃vs,v=.agg vs/\ai X cs vs.toList
def dB(X:V):List SV->List Value->Prop
 |[],[]=>True
 |c::cs,v::vs=>dw X c v/\dB X cs vs
 |_,_=>False
def fG(X:V)(cs:List Cell)(b:Nat):Prop:=∃arr t fz,X.foot b/\X.w.heap[b]? =some (.cells arr t fz)/\ai X cs arr.toList
def dS(X:V):List (List Cell)->List Value->Prop
 |[],[]=>True
 |cs::l,u::us=>(∃b,u=.pointer (some ⟨b,0,none⟩)/\fG X cs b)/\dS X l us
 |_,_=>False
def aQ(X:V):AV->Value->Prop
 |.undef,_=>True
 |.sv x,v=>dw X x v
 |.kZ xs,v=>∃vs,v=.tuple vs/\dB X xs vs.toList
 |.eG o off,v=>∃b cs,X.ah o=some (.var cs)/\X.γ o=.pointer (some ⟨b,0,none⟩)/\v=.pointer (some ⟨b,off,none⟩)
 |.lI o i off,v=>∃b n cap e r l fr,X.ah o=some (.arr e r l fr)/\X.γ o=.slice (some ⟨b,0,none⟩) n cap/\v=.pointer (some ⟨b,i*r.len+off,none⟩)
 |.win o i off,v=>∃b n cap e r l fr,X.ah o=some (.arr e r l fr)/\X.γ o=.slice (some ⟨b,0,none⟩) n cap/\(∃q,(q=i*r.len\/cap<=i)/\v=.slice (some ⟨b,q,none⟩) off (cap-i)/\i+off<=cap)
 |.nH r x off fr,v=>∃b base cs t fz,v=.pointer (some ⟨b,base+off,none⟩)/\X.bP fr b/\X.w.heap[b]? =some (.cells cs t fz)/\
    aZ X.w.heap (X.bP fr) r ((cs.toList.drop base).take r.len) x
 |.dA cs off,v=>∃b,v=.pointer (some ⟨b,off,none⟩)/\fG X cs b
 |.fn f caps,v=>∃us:Array Value,v=.func (.func f) #[] us/\dS X caps us.toList
def bD(X:V)(o:Nat):aB->Prop
 |.var cs=>∃b arr t,X.γ o=.pointer (some ⟨b,0,none⟩)/\X.w.heap[b]? =some (.cells arr t (0,0))/\ai X cs arr.toList
 |.arr e r l fr=>∃xs,X.w.ownsRow 0 e r.len (X.γ o) l.length xs/\0<r.len/\(∀b,blk (X.γ o)=some b->fr=true->X.n0<=b)/\
    ∀i x,l[i]? =some x->aZ X.w.heap (X.bP fr) r ((xs.drop (i*r.len)).take r.len) x
structure Ext where
 S:Nat->Prop
 N:Nat->Option Value
 n48:∀p v,N p=some v->p%64=48
instance:CoeFun Ext (λ_=>Nat->Prop):=⟨Ext.S⟩
instance:CoeOut Ext (Nat->Prop):=⟨Ext.S⟩
structure Rel(w0:World)(M:Nat->Prop)(T:Ext)(γ:Nat->Value)(st:St)(a:Act)(w:World):Prop where
 mT:∀b,M b->T b
 defers:a.defers=[]
 size:a.tmps.size=st.n
 os:w.os=w0.os
 tape:w.tape=w0.tape
 output:w.output=w0.output
 grow:w0.heap.size<=w.heap.size
 kept:∀b,b<w0.heap.size->¬M b->w.heap[b]? =w0.heap[b]?
 tmps:∀t,aQ ⟨w,w0.heap.size,T,γ,st.ah⟩ (st.tmps t) (a.tmps.getD t undef)
 ah:∀o x,st.ah o=some x->bD ⟨w,w0.heap.size,T,γ,st.ah⟩ o x
 lt:∀o x b,st.ah o=some x->blk (γ o)=some b->b<w.heap.size/\(w0.heap.size<=b\/M b)
 sep:∀o x p y b,st.ah o=some x->st.ah p=some y->o≠p->blk (γ o)=some b->blk (γ p)≠some b
 pin:∀o v cs,T.N o=some v->st.ah o=some (.var cs)->γ o=v
structure V.le(X Y:V):Prop where
 n0:Y.n0<=X.n0
 foot:∀b,X.foot b->Y.foot b/\Y.w.heap[b]? =X.w.heap[b]?
 var:∀o cs,X.ah o=some (.var cs)->(∃cs',Y.ah o=some (.var cs'))/\Y.γ o=X.γ o
 arr:∀o e r l fr,X.ah o=some (.arr e r l fr)->(∃l' fr',Y.ah o=some (.arr e r l' fr'))/\Y.γ o=X.γ o
theorem V.le.refl(X:V):X.le X:=⟨as7 _,λ_ h=>⟨h,rfl⟩,λ_ cs h=>⟨⟨cs,h⟩,rfl⟩,λ_ _ _ l fr h=>⟨⟨l,fr,h⟩,rfl⟩⟩
theorem V.le.bP{X Y:V}(h:X.le Y)(fr:Bool)(b:Nat)(hb:X.bP fr b):Y.bP fr b/\Y.w.heap[b]? =X.w.heap[b]? :=
 ⟨⟨(h.foot b hb.1).1,λe=>⟨as3 h.n0 (hb.2 e).1,(hb.2 e).2.keep (h.foot b hb.1).2⟩⟩,(h.foot b hb.1).2⟩
theorem aK.mono{X Y:V}(h:X.le Y):∀(c:Cell)(v:Value),aK X c v->aK Y c v
 |.int _ _,_,H|.bool _,_,H|.str _,_,H|.nil,_,H|.junk,_,H=>H
 |.sl e r l fr,v,H=>dW.mono (λb hb=>h.bP fr b hb) (.sl e r) v l H
 |.ref o,v,⟨⟨e,r,l,fr,hx⟩,hv,h1⟩=>by obtain⟨⟨l',fr',hy⟩,hγ⟩:=h.arr o e r l fr hx;exact⟨⟨e,r,l',fr',hy⟩,hv.trans hγ.symm,h1⟩
theorem ai.mono{X Y:V}(h:X.le Y):∀(cs:List Cell)(vs:List Value),ai X cs vs->ai Y cs vs
 |[],[],H=>H
 |c::cs,v::vs,⟨h1,h2⟩=>⟨aK.mono h c v h1,ai.mono h cs vs h2⟩
 |[],_::_,H|_::_,[],H=>by cases H
theorem dw.mono{X Y:V}(h:X.le Y):∀(c:SV)(v:Value),dw X c v->dw Y c v
 |.one c,v,H=>aK.mono h c v H
 |.agg cs,_,⟨vs,hv,H⟩=>⟨vs,hv,ai.mono h cs _ H⟩
theorem dB.mono{X Y:V}(h:X.le Y):∀(cs:List SV)(vs:List Value),dB X cs vs->dB Y cs vs
 |[],[],H=>H
 |c::cs,v::vs,⟨h1,h2⟩=>⟨dw.mono h c v h1,dB.mono h cs vs h2⟩
 |[],_::_,H|_::_,[],H=>by cases H
theorem fG.mono{X Y:V}(h:X.le Y){cs:List Cell}{b:Nat}(H:fG X cs b):fG Y cs b:=by obtain⟨arr,t,fz,hb,hh,hr⟩:=H;exact⟨arr,t,fz,(h.foot b hb).1,(h.foot b hb).2.trans hh,ai.mono h cs _ hr⟩
theorem dS.mono{X Y:V}(h:X.le Y):∀(l:List (List Cell))(us:List Value),dS X l us->dS Y l us
 |[],[],H=>H
 |cs::l,u::us,⟨⟨b,hu,hk⟩,h2⟩=>⟨⟨b,hu,hk.mono h⟩,dS.mono h l us h2⟩
 |[],_::_,H|_::_,[],H=>by cases H
theorem aQ.mono{X Y:V}(h:X.le Y):∀(c:AV)(v:Value),aQ X c v->aQ Y c v
 |.undef,_,_=>trivial
 |.sv x,v,H=>dw.mono h x v H
 |.kZ xs,_,⟨vs,hv,H⟩=>⟨vs,hv,dB.mono h xs _ H⟩
 |.eG o off,v,⟨b,cs,hx,hγ,hv⟩=>by
  obtain⟨⟨cs',hy⟩,he⟩:=h.var o cs hx;exact⟨b,cs',hy,he.trans hγ,hv⟩
 |.lI o i off,v,⟨b,n,cap,e,r,l,fr,hx,hγ,hv⟩=>by
  obtain⟨⟨l',fr',hy⟩,he⟩:=h.arr o e r l fr hx;exact⟨b,n,cap,e,r,l',fr',hy,he.trans hγ,hv⟩
 |.win o i off,v,⟨b,n,cap,e,r,l,fr,hx,hγ,hv⟩=>by
  obtain⟨⟨l',fr',hy⟩,he⟩:=h.arr o e r l fr hx;exact⟨b,n,cap,e,r,l',fr',hy,he.trans hγ,hv⟩
 |.nH r x off fr,v,⟨b,base,cs,t,fz,hv,hf,hb,hr⟩=>
  ⟨b,base,cs,t,fz,hv,(h.bP fr b hf).1,(h.bP fr b hf).2.trans hb,aZ.mono (λb hb=>h.bP fr b hb) r _ x hr⟩
 |.dA cs off,v,⟨b,hv,hk⟩=>⟨b,hv,hk.mono h⟩
 |.fn f caps,v,⟨us,hv,hk⟩=>⟨us,hv,dS.mono h caps _ hk⟩
theorem ai.length{X:V}:∀(cs:List Cell)(vs:List Value),ai X cs vs->vs.length=cs.length
 |[],[],_=>rfl
 |_::cs,_::vs,⟨_,h⟩=>by simp[ai.length cs vs h]
 |[],_::_,H|_::_,[],H=>by cases H
theorem ai.append{X:V}:∀(cs:List Cell)(vs:List Value)(ds:List Cell)(us:List Value),ai X cs vs->ai X ds us->ai X (cs++ds) (vs++us)
 |[],[],_,_,_,h=>h
 |_::cs,_::vs,ds,us,⟨h1,h2⟩,h=>⟨h1,ai.append cs vs ds us h2 h⟩
 |[],_::_,_,_,H,_|_::_,[],_,_,H,_=>by cases H
theorem ai.take{X:V}:∀(cs:List Cell)(vs:List Value)(n:Nat),ai X cs vs->ai X (cs.take n) (vs.take n)
 |[],[],n,h=>by simpa using h
 |_::_,_::_,0,_=>trivial
 |c::cs,v::vs,n+1,⟨h1,h2⟩=>⟨h1,ai.take cs vs n h2⟩
 |[],_::_,_,H|_::_,[],_,H=>by cases H
theorem ai.drop{X:V}:∀(cs:List Cell)(vs:List Value)(n:Nat),ai X cs vs->ai X (cs.drop n) (vs.drop n)
 |[],[],n,h=>by simpa using h
 |_::_,_::_,0,h=>h
 |c::cs,v::vs,n+1,⟨_,h2⟩=>ai.drop cs vs n h2
 |[],_::_,_,H|_::_,[],_,H=>by cases H
theorem ai.get{X:V}:∀(cs:List Cell)(vs:List Value)(i:Nat)(c:Cell),ai X cs vs->cs[i]? =some c->∃v,vs[i]? =some v/\aK X c v
 |[],_,_,_,_,h=>by simp at h
 |c::cs,v::vs,0,d,⟨h1,_⟩,h=>by grind
 |c::cs,v::vs,i+1,d,⟨_,h2⟩,h=>by
  obtain⟨u,hu,hr⟩:=ai.get cs vs i d h2 (by simpa using h);exact⟨u,by simpa using hu,hr⟩
 |_::_,[],_,_,H,_=>by cases H
theorem aK.one{X:V}:∀(c:Cell)(v:Value),aK X c v->v.oneCell'=true
 |.int _ _,_,⟨h,_⟩=>by rw[h];rfl
 |.bool _,_,h=>by rw[show _=_ from h];rfl
 |.str _,_,⟨h,_⟩=>by rw[h];rfl
 |.nil,_,h=>by rw[show _=_ from h];rfl
 |.sl e r l fr,v,h=>by
  rcases h.2 with⟨_,a,c,hv⟩|⟨b,off,cap,cs,t,fz,hv,_⟩<;>rw[hv]<;>rfl
 |.ref _,_,⟨_,_,h⟩=>h
 |.junk,_,h=>h
theorem EI:∀(v:Value),v.oneCell'=true->v.cells=#[v]:=by intro v h;cases v<;>first|rfl|simp[Value.oneCell']at h
theorem dw.cells{X:V}:∀(x:SV)(v:Value),dw X x v->ai X x.cells v.cells.toList
 |.one c,v,h=>by
  rw[EI v (aK.one c v h)];exact⟨h,trivial⟩
 |.agg cs,v,⟨vs,hv,h⟩=>by rw[hv];exact h
theorem ai.ones{X:V}:∀(cs:List Cell)(vs:List Value),ai X cs vs->∀v∈vs,v.oneCell'=true
 |[],[],_,_,hv=>by cases hv
 |c::cs,u::vs,⟨h1,h2⟩,v,hv=>by
  rcases atw.1 hv with rfl|hv
  .exact aK.one c _ h1
  .exact ai.ones cs vs h2 v hv
 |[],_::_,H,_,_|_::_,[],H,_,_=>by cases H
end Go.Fw
namespace Go.Fw
open Go
variable {w0:World} {M:Nat->Prop} {T:Ext} {γ γ':Nat->Value} {st:St} {a:Act} {w w':World}
abbrev aj(w0:World)(T:Nat->Prop)(γ:Nat->Value)(st:St)(w:World):V:=⟨w,w0.heap.size,T,γ,st.ah⟩
theorem bD.mono{X Y:V}(h:X.le Y)(o:Nat):∀(x:aB),(∀b,blk (X.γ o)=some b->Y.w.heap[b]? =X.w.heap[b]?)->Y.γ o=X.γ o->bD X o x->bD Y o x
 |.var cs,hb,hγ,⟨b,arr,t,e,hh,hr⟩=>⟨b,arr,t,hγ.trans e,(hb b (by rw[e];rfl)).trans hh,ai.mono h cs _ hr⟩
 |.arr e r l fr,hb,hγ,⟨xs,hown,hr,hf,hx⟩=>by
  refine⟨xs,?_,hr,λb hb' hfr=>as3 h.n0 (hf b (hγ▸hb') hfr),λi x hi=>aZ.mono (λb hb=>h.bP fr b hb) r _ x (hx i x hi)⟩;obtain⟨h1,h2⟩:=hown;refine⟨h1,?_⟩;rcases h2 with h2|⟨g,cap,cur,hv,hg,hh,hrest⟩
  · grind
  .exact .inr ⟨g,cap,cur,hγ.trans hv,hg,(hb g (by rw[hv];rfl)).trans hh,hrest⟩
theorem Rel.grown(h:Rel w0 M T γ st a w)(Gs:Nat->Option aB)
 (hA:∀p x,st.ah p=some x->Gs p=some x) (hγ:∀p x,st.ah p=some x->γ' p=γ p)
 (hos:w'.os=w.os) (htape:w'.tape=w.tape) (hout:w'.output=w.output) (hsize:w.heap.size<=w'.heap.size)
 (hheap:∀b,b<w.heap.size->w'.heap[b]? =w.heap[b]?)
 (hnew:∀p x,Gs p=some x->st.ah p=none->bD ⟨w',w0.heap.size,T,γ',Gs⟩ p x/\∀b,blk (γ' p)=some b->w.heap.size<=b/\b<w'.heap.size)
 (asw:∀p cs,Gs p=some (.var cs)->st.ah p=none->T.N p=none)
 (hsep:∀p x q y b,Gs p=some x->st.ah p=none->Gs q=some y->st.ah q=none->p≠q->blk (γ' p)=some b->blk (γ' q)≠some b):
 Rel w0 M T γ' {st with ah:=Gs} a w'/\(aj w0 T γ st w).le ⟨w',w0.heap.size,T,γ',Gs⟩:=by
 have old:∀p x,Gs p=some x->st.ah p=some x\/st.ah p=none:=by
  intro p x hp;cases e:st.ah p with
  |none=>exact .inr rfl
  |some y=>grind
 have le:(aj w0 T γ st w).le ⟨w',w0.heap.size,T,γ',Gs⟩:=by
  refine⟨as7 _,λb hb=>⟨⟨ati hb.1 hsize,hb.2.1,λo x hx=>?_⟩,hheap b hb.1⟩,λo cs hx=>⟨⟨cs,hA o _ hx⟩,hγ o _ hx⟩,λo e r l fr hx=>⟨⟨l,fr,hA o _ hx⟩,hγ o _ hx⟩⟩;rcases old o x hx with ho|ho
  .show blk (γ' o)≠some b;rw[hγ o x ho];exact hb.2.2 o x ho
  .intro e;have h1:=((hnew o x hx ho).2 b e).1;have h2:b<w.heap.size:=hb.1;omega
 refine⟨⟨h.mT,h.defers,h.size,hos.trans h.os,htape.trans h.tape,hout.trans h.output,as3 h.grow hsize,λb hb hM=>?_,λt=>aQ.mono le _ _ (h.tmps t),λo x hx=>?_,λo x b hx hb=>?_,λo x p y b hx hy hop hb=>?_,λo v cs hN hx=>?_⟩,le⟩
 .rw[hheap b (ati hb h.grow)];exact h.kept b hb hM
 .rcases old o x hx with ho|ho
  .exact bD.mono le o x (λb hb=>hheap b (h.lt o x b ho hb).1) (hγ o x ho) (h.ah o x ho)
  grind
 .rcases old o x hx with ho|ho
  .rw[hγ o x ho]at hb;have:=h.lt o x b ho hb
   grind
  .have:=(hnew o x hx ho).2 b hb;exact⟨this.2,.inl (as3 h.grow this.1)⟩
 .rcases old o x hx with ho|ho<;>rcases old p y hy with hp|hp
  .rw[hγ o x ho]at hb;rw[hγ p y hp];exact h.sep o x p y b ho hp hop hb
  .rw[hγ o x ho]at hb;intro e;have h1:=((hnew p y hy hp).2 b e).1;have h2:=(h.lt o x b ho hb).1;omega
  .have h1:=((hnew o x hx ho).2 b hb).1;rw[hγ p y hp];intro e;have h2:=(h.lt p y b hp e).1;omega
  grind
 .rcases old o _ hx with ho|ho
  .rw[hγ o _ ho];exact h.pin o v cs hN ho
  grind
theorem Sr(xs:Array Value)(d t:Nat)(v z:Value)(hd:d<xs.size):(xs.setIfInBounds d v).getD t z=if t=d then v else xs.getD t z:=by
 by_cases e:t=d
 · simp_all
 .simp only[au1]
  grind
theorem Rel.set(h:Rel w0 M T γ st a w)(d:Nat)(hd:d<st.n)(v:AV)(u:Value)(hv:aQ (aj w0 T γ st w) v u):
 Rel w0 M T γ (st.set d v) (a.put (some d) u) w:=by
 refine⟨h.mT,h.defers,?_,h.os,h.tape,h.output,h.grow,h.kept,λt=>?_,h.ah,h.lt,h.sep,h.pin⟩
 .simp only[Act.put,Array.size_setIfInBounds];exact h.size
 .simp only[Act.put];rw[Sr _ _ _ _ _ (by rw[h.size];exact hd)];simp only[St.set];by_cases e:t=d
  · simp_all
  .rw[if_neg e];have:Nat.beq t d=false:=by grind [Nat.eq_of_beq_eq_true]
   rw[this];exact h.tmps t
theorem Rel.drew(h:Rel w0 M T γ st a w)(n:Nat):Rel w0 M T γ st a {w with drawn:=n}:=
 (h.grown (γ':=γ) (w':={w with drawn:=n}) st.ah (λ_ _ h=>h) (λ_ _ _=>rfl) rfl rfl rfl (as7 _) (λ_ _=>rfl)
   (λp x h1 h2=>by grind) (λp cs h1 h2=>by grind) (λp x q y b h1 h2=>by grind)).1
section kill
variable (S:Nat->Bool)
theorem aK.kill(_h:Rel w0 M T γ st a w):∀(c:Cell)(v:Value),aK (aj w0 T γ st w) c v->aK (aj w0 T γ (st.kill S) w) (c.kill S) v
 |.int _ _,_,H|.bool _,_,H|.str _,_,H|.nil,_,H|.junk,_,H=>H
 |.sl e r l _,v,H=>dW.mono (λb hb=>⟨⟨⟨hb.1.1,hb.1.2.1,λo x hx=>by
    simp only[St.kill]at hx;cases hS:S o with
    |true=>grind
    |false=>
     cases ho:st.ah o with
     |none=>grind
     |some y=>exact hb.1.2.2 o y ho⟩,hb.2⟩,rfl⟩) (.sl e r) v l H
 |.ref o,v,⟨⟨e,r,l,fr,hx⟩,hv,h1⟩=>by
  simp only[Cell.kill];cases hS:S o with
  |true=>exact h1
  |false=>exact⟨⟨e,r,l,fr,by simp only[St.kill,hS];rw[show st.ah o=_ from hx];rfl⟩,hv,h1⟩
theorem KD(b:Nat)(hb:(aj w0 T γ st w).foot b):(aj w0 T γ (st.kill S) w).foot b:=
 ⟨hb.1,hb.2.1,λo x hx=>by
     simp only[St.kill]at hx;cases hS:S o with
     |true=>grind
     |false=>
      cases ho:st.ah o with
      |none=>grind
      |some y=>exact hb.2.2 o y ho⟩
theorem ai.kill(h:Rel w0 M T γ st a w):∀(cs:List Cell)(vs:List Value),ai (aj w0 T γ st w) cs vs->ai (aj w0 T γ (st.kill S) w) (cs.map (Cell.kill S)) vs
 |[],[],H=>H
 |c::cs,v::vs,⟨h1,h2⟩=>⟨aK.kill S h c v h1,ai.kill h cs vs h2⟩
 |[],_::_,H|_::_,[],H=>by cases H
theorem dw.kill(h:Rel w0 M T γ st a w):∀(c:SV)(v:Value),dw (aj w0 T γ st w) c v->dw (aj w0 T γ (st.kill S) w) (c.kill S) v
 |.one c,v,H=>aK.kill S h c v H
 |.agg cs,_,⟨vs,hv,H⟩=>⟨vs,hv,ai.kill S h cs _ H⟩
theorem dB.kill(h:Rel w0 M T γ st a w):∀(cs:List SV)(vs:List Value),dB (aj w0 T γ st w) cs vs->dB (aj w0 T γ (st.kill S) w) (cs.map (SV.kill S)) vs
 |[],[],H=>H
 |c::cs,v::vs,⟨h1,h2⟩=>⟨dw.kill S h c v h1,dB.kill h cs vs h2⟩
 |[],_::_,H|_::_,[],H=>by cases H
theorem lM{o:Nat}{x:aB}(hS:S o=false)(hx:st.ah o=some x):(st.kill S).ah o=some (x.kill S):=by
 grind [St.kill]
theorem fG.kill(h:Rel w0 M T γ st a w){cs:List Cell}{b:Nat}(H:fG (aj w0 T γ st w) cs b):fG (aj w0 T γ (st.kill S) w) (cs.map (Cell.kill S)) b:=by obtain⟨arr,t,fz,hb,hh,hr⟩:=H;exact⟨arr,t,fz,KD S b hb,hh,ai.kill S h cs _ hr⟩
theorem dS.kill(h:Rel w0 M T γ st a w):∀(l:List (List Cell))(us:List Value),dS (aj w0 T γ st w) l us->dS (aj w0 T γ (st.kill S) w) (l.map (List.map (Cell.kill S))) us
 |[],[],H=>H
 |cs::l,u::us,⟨⟨b,hu,hk⟩,h2⟩=>⟨⟨b,hu,fG.kill S h hk⟩,dS.kill h l us h2⟩
 |[],_::_,H|_::_,[],H=>by cases H
theorem aQ.kill(h:Rel w0 M T γ st a w):∀(c:AV)(v:Value),aQ (aj w0 T γ st w) c v->aQ (aj w0 T γ (st.kill S) w) (c.kill S) v
 |.undef,_,_=>trivial
 |.sv x,v,H=>dw.kill S h x v H
 |.kZ xs,_,⟨vs,hv,H⟩=>⟨vs,hv,dB.kill S h xs _ H⟩
 |.eG o off,v,⟨b,cs,hx,hγ,hv⟩=>by
  simp only[AV.kill];cases hS:S o with
  |true=>trivial
  |false=>exact⟨b,_,lM S hS hx,hγ,hv⟩
 |.lI o i off,v,⟨b,n,cap,e,r,l,fr,hx,hγ,hv⟩=>by
  simp only[AV.kill];cases hS:S o with
  |true=>trivial
  |false=>exact⟨b,n,cap,e,r,l,fr,lM S hS hx,hγ,hv⟩
 |.win o i off,v,⟨b,n,cap,e,r,l,fr,hx,hγ,hv⟩=>by
  simp only[AV.kill];cases hS:S o with
  |true=>trivial
  |false=>exact⟨b,n,cap,e,r,l,fr,lM S hS hx,hγ,hv⟩
 |.nH r x off fr,v,⟨b,base,cs,t,fz,hv,hf,hb,hr⟩=>
  ⟨b,base,cs,t,fz,hv,⟨KD S b hf.1,hf.2⟩,hb,aZ.mono (λb hb=>⟨⟨KD S b hb.1,hb.2⟩,rfl⟩) r _ x hr⟩
 |.dA cs off,v,⟨b,hv,hk⟩=>⟨b,hv,fG.kill S h hk⟩
 |.fn f caps,v,⟨us,hv,hk⟩=>⟨us,hv,dS.kill S h caps _ hk⟩
theorem tV{o:Nat}{x:aB}(hx:(st.kill S).ah o=some x):∃y,st.ah o=some y/\x=y.kill S/\S o=false:=by
 simp only[St.kill]at hx;cases hS:S o with
 |true=>grind
 |false=>
  cases ho:st.ah o with
  |none=>grind
  |some y=>grind
theorem bD.kill(h:Rel w0 M T γ st a w)(o:Nat):∀(x:aB),bD (aj w0 T γ st w) o x->bD (aj w0 T γ (st.kill S) w) o (x.kill S)
 |.var cs,⟨b,arr,t,e,hh,hr⟩=>⟨b,arr,t,e,hh,ai.kill S h cs _ hr⟩
 |.arr _ r _ _,⟨xs,hown,hr,hf,hx⟩=>⟨xs,hown,hr,hf,λi x hi=>aZ.mono (λb hb=>⟨⟨KD S b hb.1,hb.2⟩,rfl⟩) r _ x (hx i x hi)⟩
theorem Rel.kill(h:Rel w0 M T γ st a w):Rel w0 M T γ (st.kill S) a w:=by
 refine⟨h.mT,h.defers,h.size,h.os,h.tape,h.output,h.grow,h.kept,λt=>aQ.kill S h _ _ (h.tmps t),λo x hx=>?_,λo x b hx hb=>?_,λo x p y b hx hy hop hb=>?_,λo v cs hN hx=>?_⟩
 .obtain⟨y,hy,rfl,_⟩:=tV S hx;exact bD.kill S h o y (h.ah o y hy)
 .obtain⟨y,hy,rfl,_⟩:=tV S hx;exact h.lt o y b hy hb
 .obtain⟨x',hx',rfl,_⟩:=tV S hx;obtain⟨y',hy',rfl,_⟩:=tV S hy;exact h.sep o x' p y' b hx' hy' hop hb
 .obtain⟨y,hy,e,_⟩:=tV S hx;cases y with
  |var cs'=>exact h.pin o v cs' hN hy
  |arr _ _ _ _=>cases e
end kill
end Go.Fw
namespace Go.Fw
open Go
variable {w0:World} {M:Nat->Prop} {T:Ext} {γ γ':Nat->Value} {st:St} {a:Act} {w w':World} (S:Nat->Bool)
theorem fH{α:Type}(l:List α)(i k n:Nat)(h:i+k<=n):((l.take n).drop i).take k=(l.drop i).take k:=by
 grind [List.drop_take]
theorem bD.reads{X:V}{o:Nat}{e:TypeId}{r:ak}{l:List r.den}{fr:Bool}{F:Nat->Prop}(h:bD X o (.arr e r l fr))
 (hF:∀b,X.bP fr b->F b) (hO:∀b,blk (X.γ o)=some b->F b):dW X.w.heap F (.sl e r) (X.γ o) l:=by
 obtain⟨xs,⟨h1,h2⟩,hr,hf,hx⟩:=h;rcases h2 with⟨hv,hn⟩|⟨g,cap,cur,hv,_,hg,hle,hmax,hsz,htake⟩
 .refine⟨by omega,.inl ⟨atH.1 hn,none,0,hv⟩⟩
 .refine⟨as3 hle hmax,.inr ⟨g,0,cap,cur,e,(0,0),hv,hle,hO g (by rw[hv];rfl),hg,λi x hi=>?_⟩⟩;have hlt:i<l.length:=(ath.1 hi).1;have hmul:i*r.len+r.len<=l.length*r.len:=by
   have:(i+1)*r.len<=l.length*r.len:=atf _ hlt
   grind
  grind [fH,aZ.mono]
theorem yC(b:Nat)(hb:(aj w0 T γ st w).foot b):(aj w0 T γ (st.freeze S) w).foot b:=
 ⟨hb.1,hb.2.1,λo x hx=>by
     simp only[St.freeze]at hx;cases hS:S o with
     |true=>grind
     |false=>
      cases ho:st.ah o with
      |none=>grind
      |some y=>exact hb.2.2 o y ho⟩
theorem yD{o:Nat}{x:aB}(hx:(st.freeze S).ah o=some x):∃y,st.ah o=some y/\x=y.freeze st S/\S o=false:=by
 simp only[St.freeze]at hx;cases hS:S o with
 |true=>grind
 |false=>
  cases ho:st.ah o with
  |none=>grind
  |some y=>grind
theorem xB{o:Nat}{x:aB}(hS:S o=false)(hx:st.ah o=some x):(st.freeze S).ah o=some (x.freeze st S):=by
 grind [St.freeze]
theorem aK.freeze(h:Rel w0 M T γ st a w):∀(c:Cell)(v:Value),aK (aj w0 T γ st w) c v->aK (aj w0 T γ (st.freeze S) w) (c.freeze st S) v
 |.int _ _,_,H|.bool _,_,H|.str _,_,H|.nil,_,H|.junk,_,H=>H
 |.sl e r l _,v,H=>dW.mono (λb hb=>⟨⟨yC S b hb.1,hb.2⟩,rfl⟩) (.sl e r) v l H
 |.ref o,v,⟨⟨e,r,l,fr,hx⟩,hv,h1⟩=>by
  have hx':st.ah o=some (.arr e r l fr):=hx;simp only[Cell.freeze];cases hS:S o with
  |false=>exact⟨⟨e,r,l,fr,xB S hS hx'⟩,hv,h1⟩
  |true=>
   simp only[hx'];rw[hv];refine bD.reads (F:=(aj w0 T γ (st.freeze S) w).bP fr) (h.ah o _ hx') (λb hb=>⟨yC S b hb.1,hb.2⟩) (λb hb=>⟨⟨(h.lt o _ b hx' hb).1,λhlt=>h.mT b ((h.lt o _ b hx' hb).2.resolve_left (by grind)),λp y hp=>?_⟩,λhfr=>?_⟩)
   .obtain⟨z,hz,_,hSp⟩:=yD S hp;refine h.sep o _ p z b hx' hz (λe=>?_) hb
    grind
   .obtain⟨xs,hw,_,hf,_⟩:=h.ah o _ hx';exact⟨by grind,aix hw hb⟩
theorem ai.freeze(h:Rel w0 M T γ st a w):∀(cs:List Cell)(vs:List Value),ai (aj w0 T γ st w) cs vs->ai (aj w0 T γ (st.freeze S) w) (cs.map (Cell.freeze st S)) vs
 |[],[],H=>H
 |c::cs,v::vs,⟨h1,h2⟩=>⟨aK.freeze S h c v h1,ai.freeze h cs vs h2⟩
 |[],_::_,H|_::_,[],H=>by cases H
theorem dw.freeze(h:Rel w0 M T γ st a w):∀(c:SV)(v:Value),dw (aj w0 T γ st w) c v->dw (aj w0 T γ (st.freeze S) w) (c.freeze st S) v
 |.one c,v,H=>aK.freeze S h c v H
 |.agg cs,_,⟨vs,hv,H⟩=>⟨vs,hv,ai.freeze S h cs _ H⟩
theorem dB.freeze(h:Rel w0 M T γ st a w):∀(cs:List SV)(vs:List Value),dB (aj w0 T γ st w) cs vs->dB (aj w0 T γ (st.freeze S) w) (cs.map (SV.freeze st S)) vs
 |[],[],H=>H
 |c::cs,v::vs,⟨h1,h2⟩=>⟨dw.freeze S h c v h1,dB.freeze h cs vs h2⟩
 |[],_::_,H|_::_,[],H=>by cases H
theorem fG.freeze(h:Rel w0 M T γ st a w){cs:List Cell}{b:Nat}(H:fG (aj w0 T γ st w) cs b):fG (aj w0 T γ (st.freeze S) w) (cs.map (Cell.freeze st S)) b:=by obtain⟨arr,t,fz,hb,hh,hr⟩:=H;exact⟨arr,t,fz,yC S b hb,hh,ai.freeze S h cs _ hr⟩
theorem dS.freeze(h:Rel w0 M T γ st a w):∀(l:List (List Cell))(us:List Value),dS (aj w0 T γ st w) l us->dS (aj w0 T γ (st.freeze S) w) (l.map (List.map (Cell.freeze st S))) us
 |[],[],H=>H
 |cs::l,u::us,⟨⟨b,hu,hk⟩,h2⟩=>⟨⟨b,hu,fG.freeze S h hk⟩,dS.freeze h l us h2⟩
 |[],_::_,H|_::_,[],H=>by cases H
theorem aQ.freeze(h:Rel w0 M T γ st a w):∀(c:AV)(v:Value),aQ (aj w0 T γ st w) c v->aQ (aj w0 T γ (st.freeze S) w) (c.freeze st S) v
 |.undef,_,_=>trivial
 |.sv x,v,H=>dw.freeze S h x v H
 |.kZ xs,_,⟨vs,hv,H⟩=>⟨vs,hv,dB.freeze S h xs _ H⟩
 |.eG o off,v,⟨b,cs,hx,hγ,hv⟩=>by
  simp only[AV.freeze];cases hS:S o with
  |true=>trivial
  |false=>exact⟨b,_,xB S hS hx,hγ,hv⟩
 |.lI o i off,v,⟨b,n,cap,e,r,l,fr,hx,hγ,hv⟩=>by
  simp only[AV.freeze];cases hS:S o with
  |true=>trivial
  |false=>exact⟨b,n,cap,e,r,l,fr,xB S hS hx,hγ,hv⟩
 |.win o i off,v,⟨b,n,cap,e,r,l,fr,hx,hγ,hv⟩=>by
  simp only[AV.freeze];cases hS:S o with
  |true=>trivial
  |false=>exact⟨b,n,cap,e,r,l,fr,xB S hS hx,hγ,hv⟩
 |.nH r x off fr,v,⟨b,base,cs,t,fz,hv,hf,hb,hr⟩=>
  ⟨b,base,cs,t,fz,hv,⟨yC S b hf.1,hf.2⟩,hb,aZ.mono (λb hb=>⟨⟨yC S b hb.1,hb.2⟩,rfl⟩) r _ x hr⟩
 |.dA cs off,v,⟨b,hv,hk⟩=>⟨b,hv,fG.freeze S h hk⟩
 |.fn f caps,v,⟨us,hv,hk⟩=>⟨us,hv,dS.freeze S h caps _ hk⟩
theorem bD.freeze(h:Rel w0 M T γ st a w)(o:Nat):∀(x:aB),bD (aj w0 T γ st w) o x->bD (aj w0 T γ (st.freeze S) w) o (x.freeze st S)
 |.var cs,⟨b,arr,t,e,hh,hr⟩=>⟨b,arr,t,e,hh,ai.freeze S h cs _ hr⟩
 |.arr _ r _ _,⟨xs,hown,hr,hf,hx⟩=>⟨xs,hown,hr,hf,λi x hi=>aZ.mono (λb hb=>⟨⟨yC S b hb.1,hb.2⟩,rfl⟩) r _ x (hx i x hi)⟩
theorem Rel.freeze(h:Rel w0 M T γ st a w):Rel w0 M T γ (st.freeze S) a w:=by
 refine⟨h.mT,h.defers,h.size,h.os,h.tape,h.output,h.grow,h.kept,λt=>aQ.freeze S h _ _ (h.tmps t),λo x hx=>?_,λo x b hx hb=>?_,λo x p y b hx hy hop hb=>?_,λo v cs hN hx=>?_⟩
 .obtain⟨y,hy,rfl,_⟩:=yD S hx;exact bD.freeze S h o y (h.ah o y hy)
 .obtain⟨y,hy,rfl,_⟩:=yD S hx;exact h.lt o y b hy hb
 .obtain⟨x',hx',rfl,_⟩:=yD S hx;obtain⟨y',hy',rfl,_⟩:=yD S hy;exact h.sep o x' p y' b hx' hy' hop hb
 .obtain⟨y,hy,e,_⟩:=yD S hx;cases y with
  |var cs'=>exact h.pin o v cs' hN hy
  |arr _ _ _ _=>cases e
theorem Cell.Vo(h:Rel w0 M T γ st a w):∀(c:CT)(x:Cell)(v:Value)(d:c.den),aK (aj w0 T γ st w) x v->x.get st c=some d->
 dW w.heap (λb=>b<w.heap.size) c v d:=by
 intro c x v d hx hg;cases c with
 |int k=>
  cases x<;>simp only[Cell.get]at hg<;>try (cases hg;done)
  next l n=>
   cases hd:decide (k=l)with
   |false=>grind
   |true=>
    rw[hd]at hg;have hkl:k=l:=at7 hd;subst hkl;cases hg;exact hx
 |bool=>cases x<;>simp only[Cell.get]at hg<;>first|(cases hg;done)|(cases hg;exact hx)
 |str=>cases x<;>simp only[Cell.get]at hg<;>first|(cases hg;done)|(cases hg;exact hx)
 |sl e r=>
  cases x<;>simp only[Cell.get]at hg<;>try (cases hg;done)
  .cases hg;have hv:v=.slice none 0 0:=hx;subst hv;exact⟨atl _,.inl ⟨rfl,none,0,rfl⟩⟩
  .next e' s l fr=>
   split at hg
   .next hb=>have hrs:=ak.eq_of_beq s r hb;subst hrs;cases hg;exact dW.mono (λb hb=>⟨hb.1.1,rfl⟩) (.sl e s) v l hx
   .cases hg
  .next o=>
   obtain⟨⟨e',s,l,fr,ho⟩,hv,_⟩:=hx;have ho':st.ah o=some (.arr e' s l fr):=ho;simp only[ho']at hg;split at hg
   .next hb=>have hrs:=ak.eq_of_beq s r hb;subst hrs;cases hg;rw[hv];exact bD.reads (X:=aj w0 T γ st w) (e:=e') (l:=l) (fr:=fr) (h.ah o _ ho') (λb hb=>hb.1.1) (λb hb=>(h.lt o _ b ho' hb).1)
   .cases hg
end Go.Fw
namespace Go.Fw
open Go
variable {P:Program} {w0:World} {M:Nat->Prop} {T:Ext} {γ γ':Nat->Value} {st:St} {a:Act} {w w':World}
theorem Oper.kD{o:Oper}{a:Act}{w w':World}{u:Value}{next:Act->World->Prop}{Q:Exit->Act->World->Prop}
 (h:(execOp a.eval o).run P w=.ok (.value u) w') (hn:next (a.put o.dst u) w'):o.wp P a w next Q:=by
 unfold Oper.wp;rw[h];exact hn
theorem Oper.wp_skip{o:Oper}{a:Act}{w w':World}{next:Act->World->Prop}{Q:Exit->Act->World->Prop}
 (h:(execOp a.eval o).run P w=.ok .skip w') (hn:next (a.put o.dst undef) w'):o.wp P a w next Q:=by
 unfold Oper.wp;rw[h];exact hn
theorem ahZ(X:V)(v:Value):aQ X (acT v) v:=by
 unfold acT;split
 .split
  .next h=>simp at h;exact⟨rfl,h.1,h.2⟩
  .trivial
 .rfl
 .split
  .next s h=>exact⟨rfl,by simpa using h⟩
  .trivial
 .rfl
 .trivial
theorem gU(h:Rel w0 M T γ st a w)(x:Operand):aQ (aj w0 T γ st w) (st.ev x) (a.eval x):=by
 cases x with
 |tmp t=>exact h.tmps t
 |const v=>exact ahZ _ v
 |global g=>trivial
 |func f=>exact⟨#[],rfl,trivial⟩
theorem lN(h:Rel w0 M T γ st a w){x:Operand}{c:Cell}(e:st.ev x=.sv (.one c)):aK (aj w0 T γ st w) c (a.eval x):=by have:=gU h x;rw[e]at this;exact this
theorem aiy(h:Rel w0 M T γ st a w){x:Operand}{b:Bool}(e:st.ev x=.sv (.one (.bool b))):a.eval x=.bool b:=lN h e
theorem Nj(h:Rel w0 M T γ st a w){x:Operand}{k:IntKind}{n:Int}(e:st.ev x=.sv (.one (.int k n))):a.eval x=.int k n/\k.min<=n/\n<=k.max:=lN h e
theorem qY(h:Rel w0 M T γ st a w){x:Operand}{n:Int}(e:qX (st.ev x)=some n):∃k,a.eval x=.int k n/\k.min<=n/\n<=k.max:=by
 unfold qX at e;split at e
 .next k m hx=>cases e;exact⟨k,Nj h hx⟩
 .cases e
theorem EJ(k:IntKind)(n:Int):k.min<=k.wrap n/\k.wrap n<=k.max:=by unfold IntKind.wrap IntKind.min IntKind.max;cases k<;>simp only[IntKind.signed,IntKind.bits]<;>simp<;>first|omega|(split<;>omega)
theorem aja(k:IntKind)(x y:Int)(hx:k.min<=x/\x<=k.max):k.min<=x.tmod y/\x.tmod y<=k.max:=by
 have h0:k.min<=0/\0<=k.max:=by cases k<;>decide
 have h1:(x.tmod y).natAbs=x.natAbs%y.natAbs:=avf x y;have h2:x.natAbs%y.natAbs<=x.natAbs:=Nat.mod_le _ _;rcases Int.le_total 0 x with hs|hs
 · grind [Int.tmod_nonneg]
 .have h3:x.tmod y<=0:=by
   have:=Int.tmod_nonneg y (show 0<=-x by omega)
   simp_all
  omega
theorem ajb(k:IntKind)(x:Int)(n:Nat)(hx:k.min<=x/\x<=k.max):k.min<=x.fdiv (2 ^ n)/\x.fdiv (2 ^ n)<=k.max:=by
 have h0:k.min<=0/\0<=k.max:=by cases k<;>decide
 have hm:(1:Int)<=2 ^ n:=Int.pow_pos (by omega);rw[Int.fdiv_eq_ediv_of_nonneg _ (by omega)];generalize (2:Int) ^ n=m at hm;have h1:=Int.mul_ediv_add_emod x m;have h2:=Int.emod_nonneg x (show m≠0 by omega);have h3:=Int.emod_lt_of_pos x (show 0<m by omega);generalize hq:x / m=q at*;rcases Int.le_total 0 x with hs|hs
 .have h4:0<=q:=by rw[← hq];exact Int.ediv_nonneg hs (by omega)
  have h5:1*q<=m*q:=auk hm h4;omega
 .by_cases h4:q<=-1
  .have h5:m*(q+1)<=1*(q+1):=Int.mul_le_mul_of_nonpos_right hm (by omega)
   grind
  .have h5:1*q<=m*q:=auk hm (by omega);omega
theorem L9{op:BinOp}{t:TypeId}{x y:Operand}{k l:IntKind}{n m:Int}:(eqGuard op t x y (.int k n) (.int l m)).run P w=.ok () w:=by cases op<;>rfl
theorem ah0{op:BinOp}{t:TypeId}{x y:Operand}{s u:ByteArray}:(eqGuard op t x y (.string s) (.string u)).run P w=.ok () w:=by cases op<;>rfl
theorem Sv{op:BinOp}{t:TypeId}{x y:Operand}{s u:Bool}:(eqGuard op t x y (.bool s) (.bool u)).run P w=.ok () w:=by cases op<;>rfl
theorem ajc{op:BinOp}{k:IntKind}{x y:Int}{p:Prop}{c:Cell}{t:TypeId}(X:V)(h:Nc op k x y=some (p,c))(hp:p)(hx:k.min<=x/\x<=k.max):
 ∃u,(binOp op t (.int k x) (.int k y)).run P w=.ok u w/\aK X c u:=by
 cases op<;>simp only[Nc,Option.some.injEq,Prod.mk.injEq,reduceCtorEq]at h<;>obtain⟨rfl,rfl⟩:=h
 case quo=>refine⟨_,?_,rfl,EJ _ _⟩;simp[binOp,Op.intDiv,hp,atV]
 case rem=>refine⟨_,?_,rfl,aja k x y hx⟩;simp[binOp,Op.intDiv,hp,atV]
 all_goals first
  |exact⟨_,by simp[binOp,Op.intArith,Op.intBits,bitsOf,atV],rfl,EJ _ _⟩
  |exact⟨_,by simp[binOp,Op.intCmp,atV],rfl⟩
theorem ajd{op:BinOp}{x y:Bytes}{p:Prop}{c:Cell}{t:TypeId}(X:V)(h:RZ op x y=some (p,c))(hp:p):
 ∃u,(binOp op t (.string ⟨x.toArray⟩) (.string ⟨y.toArray⟩)).run P w=.ok u w/\aK X c u:=by
 cases op<;>simp only[RZ,Option.some.injEq,Prod.mk.injEq,reduceCtorEq]at h<;>obtain⟨rfl,rfl⟩:=h
 case add=>
  refine⟨.string ⟨(x++y).toArray⟩,?_,rfl,by simpa using hp⟩;have h1:¬((((⟨x.toArray⟩:ByteArray).size+(⟨y.toArray⟩:ByteArray).size:Nat):Int)>IntKind.i64.max):=by
   have e:IntKind.i64.max=9223372036854775807:=rfl;unfold maxLen at hp;show ¬(((x.toArray.size+y.toArray.size:Nat):Int)>_)
   grind
  have h2:(⟨x.toArray⟩:ByteArray)++⟨y.toArray⟩=⟨(x++y).toArray⟩:=by apply ByteArray.ext;simp
  simp_all [binOp,Op.stringOp]
 all_goals exact⟨_,by simp[binOp,Op.stringOp,atV],rfl⟩
theorem ah1{op:BinOp}{x y:Cell}{p:Prop}{c:Cell}{t:TypeId}{s u:Operand}{v v':Value}(X:V)(h:Nh op x y=some (p,c))(hp:p)
 (hx:aK X x v) (hy:aK X y v') (hb:∀a b,x=.bool a->y=.bool b->P.underlying t=some .bool):
 ∃r,(do eqGuard op t s u v v';binOp op t v v').run P w=.ok r w/\aK X c r:=by
 cases x<;>cases y<;>simp only[Nh,reduceCtorEq]at h
 case int.int k n l m=>
  obtain⟨rfl,hn⟩:=hx;obtain⟨rfl,hm⟩:=hy;have arith:∀hk:k=l,Nc op k n m=some (p,c)->∃r,(do eqGuard op t s u (.int k n) (.int l m);binOp op t (.int k n) (.int l m)).run P w=.ok r w/\aK X c r:=by
   intro hk h2;obtain⟨r,hr,hR⟩:=ajc (P:=P) (w:=w) (t:=t) X h2 hp hn
   simp_all [L9]
  cases op
  case shl=>obtain⟨rfl,rfl⟩:=h;refine⟨_,?_,rfl,EJ _ _⟩;rw[atx,L9];simp[binOp,Op.shift,show ¬m<0 by omega,atV]
  case shr=>obtain⟨rfl,rfl⟩:=h;refine⟨_,?_,rfl,ajb _ _ _ hn⟩;rw[atx,L9];simp[binOp,Op.shift,show ¬m<0 by omega,atV]
  all_goals
   dsimp only at h;split at h
   .next hk=>exact arith (at7 hk) h
   .cases h
 case bool.bool a b=>
  have e1:v=.bool a:=hx;have e2:v'=.bool b:=hy;subst e1 e2;have hu:=hb a b rfl rfl;have he:(Op.equal t (.bool a) (.bool b)).run P w=.ok (a==b) w:=run_equal_bool w t a b hu;cases op<;>simp only[Option.some.injEq,Prod.mk.injEq,reduceCtorEq]at h<;>obtain⟨_,rfl⟩:=h
  .refine⟨_,?_,rfl⟩;rw[atx,Sv];simp[binOp,he]
  .refine⟨_,?_,rfl⟩;rw[atx,Sv];simp[binOp,he]
 case str.str x y=>
  obtain⟨rfl,hn⟩:=hx;obtain⟨rfl,hm⟩:=hy;obtain⟨r,hr,hR⟩:=ajd (P:=P) (w:=w) (t:=t) X h hp
  simp_all [ah0]
end Go.Fw
namespace Go.Fw
open Go
def CT.acV:CT->Value
 |.int k=>.int k 0
 |.bool=>.bool false
 |.str=>.string ⟨#[]⟩
 |.sl _ _=>.slice none 0 0
def ak.mJ:ak->List Value
 |.nil=>[]
 |.cons c r=>c.acV::r.mJ
def ak.desc:ak->Option TypeDesc
 |.cons (.int k) .nil=>some (.int k)
 |.cons .bool .nil=>some .bool
 |.cons .str .nil=>some .string
 |.cons (.sl e _) .nil=>some (.slice e)
 |_=>none
structure jS(P:Program)(t:TypeId)(ti:TI):Prop where
 info:∃i z,P.info? t=some i/\i.size=ti.cells.len/\i.bytes=ti.bytes/\i.zero=some z/\z.cells.toList=ti.cells.mJ/\(ti.agg=false->z.cells=#[z])
 und:match ti.kind with
  |.scalar=>∃d,ti.cells.desc=some d/\P.underlying t=some d
  |.str=>P.underlying t=some .string/\ti.cells=.cons .str .nil
  |.slice e=>P.underlying t=some (.slice e)/\∃r,ti.cells=.cons (.sl e r) .nil
  |.struct fs=>∃yQ:Array Field,P.underlying t=some (.struct yQ)/\(fs=yQ.toList.map λf=>(f.offset,f.type))/\∀f∈yQ.toList,(P.info? f.type).isSome=true
 small:ti.bytes<=4096
 cmp:ti.cmp=true->∀(w:World)(s u:Operand)(X:V)(xs ys:List Cell)(vs us:Array Value)(b:Bool),ti.cells.fits xs=true->ai X xs vs.toList->ai X ys us.toList->jk xs ys=some b->
  (do eqGuard .eql t s u (.agg vs) (.agg us);binOp .eql t (.agg vs) (.agg us)).run P w=.ok (.bool b) w/\
  (do eqGuard .neq t s u (.agg vs) (.agg us);binOp .neq t (.agg vs) (.agg us)).run P w=.ok (.bool (!b)) w
variable {P:Program} {w0:World} {M:Nat->Prop} {T:Ext} {γ γ':Nat->Value} {st:St} {a:Act} {w w':World} {Θ:gY}
theorem jS.size{t:TypeId}{ti:TI}(h:jS P t ti):(P.info? t).map (·.size)=some ti.cells.len:=by
 obtain⟨i,z,hi,hs,_⟩:=h.info
 grind
theorem jS.run_sizeOf{t:TypeId}{ti:TI}(h:jS P t ti)(w:World):(sizeOf t).run P w=.ok ti.cells.len w:=by obtain⟨i,z,hi,hs,_⟩:=h.info;simp[sizeOf,typeInfo,hi,hs]
theorem jS.Sz{t:TypeId}{ti:TI}(h:jS P t ti)(w:World):(isAgg t).run P w=.ok ti.agg w:=by
 have hu:=h.und;unfold TI.agg;unfold isAgg;split at hu
 .next hk=>obtain⟨d,hd,hu⟩:=hu;rw[hk,atx,ato hu w];unfold ak.desc at hd;split at hd<;>first|(cases hd;rfl)|cases hd
 · simp_all [ato]
 · simp_all [ato]
 .next fs hk=>
  obtain⟨yQ,hu,_,_⟩:=hu
  simp_all [ato]
theorem Nk(X:V)(fr:Bool):∀(r:ak)(vs:List Value)(x:r.den),aZ X.w.heap (X.bP fr) r vs x->ai X (ak.row fr r x) vs
 |.nil,vs,_,h=>by subst h;trivial
 |.cons c r,vs,(x,y),h=>by
  obtain⟨v,vs',rfl,h1,h2⟩:=h;refine⟨?_,Nk X fr r vs' y h2⟩;cases c with
  |int k=>exact h1
  |bool=>exact h1
  |str=>exact h1
  |sl e r=>exact h1
theorem OE{b off:Nat}{cs:Array Value}{t:TypeId}{fz:Nat×Nat}(h:w.heap[b]? =some (.cells cs t fz))(n:Nat):
 w.rangeAt b off ((cs.toList.drop off).take n):=by
 intro j v hj
 grind [World.cell?]
theorem Gt{t:TypeId}{ti:TI}(hT:jS P t ti)(X:V){b off k:Nat}{cs:Array Value}{e:TypeId}{fz:Nat×Nat}
 (hb:w.heap[b]? =some (.cells cs e fz)) {ds:List Cell} {n:Nat} (hr:ai X ds ((cs.toList.drop off).take n)) {v:SV} (hv:jP ti ds k=some v):
 ∃u,(Instr.loadAt t (.pointer (some ⟨b,off+k,none⟩))).run P w=.ok u w/\dw X v u:=by
 unfold jP at hv;have hlen:=ai.length _ _ hr;split at hv
 .next hagg=>
  split at hv
  .next hle=>
   cases hv;have hle:k+ti.cells.len<=ds.length:=atL hle;have hu:=hT.und;unfold TI.agg at hagg;split at hagg
   .next fs hk=>
    rw[hk]at hu;obtain⟨yQ,hu,_,_⟩:=hu;have hsub:(((cs.toList.drop off).take n).drop k).take ti.cells.len=(cs.toList.drop (off+k)).take ti.cells.len:=by
     grind [fH,List.drop_drop]
    have hl:((cs.toList.drop (off+k)).take ti.cells.len).length=ti.cells.len:=by
     grind
    refine⟨.agg ((cs.toList.drop (off+k)).take ti.cells.len).toArray,?_,_,rfl,?_⟩
    .exact run_loadAt_mid w b (off+k) t _ _ (OE hb _) hu rfl (by rw[hT.size,hl])
    grind [ai.take,ai.drop]
   .cases hagg
  .cases hv
 .next hagg=>
  split at hv
  .next c hc=>
   cases hv;obtain⟨u,hu,hR⟩:=ai.get _ _ k c hr hc;refine⟨u,?_,hR⟩;have hcell:w.cell? ⟨b,off+k,none⟩=some u:=by
    grind [World.cell?]
   simp only[Instr.loadAt,Instr.sureAddr,atx,atV,atT,loadVar,hT.Sz,hagg,au2,avc]
   simp_all
  .cases hv
end Go.Fw
namespace Go.Fw
open Go
def ak.takeC:Nat->ak->ak
 |0,_=>.nil
 |_+1,.nil=>.nil
 |n+1,.cons c r=>.cons c (r.takeC n)
def ak.ZQ:Nat->ak->ak
 |0,r=>r
 |_+1,.nil=>.nil
 |n+1,.cons _ r=>r.ZQ n
def EK(P:Program)(rec:TypeId->ak->Bool):List Field->Nat->ak->Bool
 |[],_,cs=>match cs with|.nil=>true|_=>false
 |f::fs,off,cs=>!(f.name== "_")&&(Nat.beq f.offset off&&(match P.info? f.type with
  |some i=>Nat.ble i.size cs.len&&(rec f.type (cs.takeC i.size)&&EK P rec fs (off+i.size) (cs.ZQ i.size))
  |none=>false))
def aje(P:Program):Nat->TypeId->ak->Bool
 |0,_,_=>false
 |n+1,t,cs=>match P.underlying t with
  |some (.int k)=>match cs with|.cons (.int l) .nil=>decide (k=l)|_=>false
  |some .bool=>match cs with|.cons .bool .nil=>true|_=>false
  |some .string=>match cs with|.cons .str .nil=>true|_=>false
  |some (.struct fs)=>!P.stoodInHeld t&&EK P (aje P n) fs.toList 0 cs
  |_=>false
variable {P:Program}
theorem aew:∀(n:Nat)(cs:ak)(xs:List Cell),cs.fits xs=true->(cs.takeC n).fits (xs.take n)=true/\(cs.ZQ n).fits (xs.drop n)=true
 |0,cs,xs,h=>⟨by simp[ak.takeC,ak.fits],by grind [ak.ZQ]⟩
 |n+1,.nil,[],h=>⟨rfl,rfl⟩
 |n+1,.cons c r,x::xs,h=>by
  rw[ak.fits,as1]at h;have ih:=aew n r xs h.2;exact⟨by rw[ak.takeC,auj,ak.fits,h.1,ih.1];rfl,ih.2⟩
 |n+1,.nil,_::_,h|n+1,.cons _ _,[],h=>by simp[ak.fits]at h
theorem XO{X:V}:∀(n:Nat)(xs:List Cell)(vs:List Value),ai X xs vs->ai X (xs.take n) (vs.take n)/\ai X (xs.drop n) (vs.drop n)
 |0,xs,vs,h=>⟨by simp[ai],by simpa using h⟩
 |n+1,[],[],h=>by simp[ai]
 |n+1,x::xs,v::vs,h=>by
  have ih:=XO n xs vs h.2;exact⟨⟨h.1,ih.1⟩,ih.2⟩
 |n+1,[],_::_,h|n+1,_::_,[],h=>by cases h
theorem SA:∀(n:Nat)(xs ys:List Cell)(b:Bool),jk xs ys=some b->∃b1 b2,jk (xs.take n) (ys.take n)=some b1/\jk (xs.drop n) (ys.drop n)=some b2/\b=(b1&&b2)
 |0,xs,ys,b,h=>⟨true,b,rfl,by simpa using h,by simp⟩
 |n+1,[],[],b,h=>by grind
 |n+1,x::xs,y::ys,b,h=>by
  rw[jk]at h;split at h
  .next a c h1 h2=>
   obtain⟨b1,b2,e1,e2,rfl⟩:=SA n xs ys c h2
   grind [jk]
  .cases h
 |n+1,[],_::_,b,h|n+1,_::_,[],b,h=>by simp[jk]at h
theorem Mc:∀(cs:ak)(xs:List Cell),cs.fits xs=true->xs.length=cs.len
 |.nil,[],_=>rfl
 |.cons c r,x::xs,h=>by
  rw[ak.fits,as1]at h;rw[asY,ak.len,Mc r xs h.2]
 |.nil,_::_,h|.cons _ _,[],h=>by simp[ak.fits]at h
theorem OG{X:V}:∀(xs:List Cell)(vs:List Value),ai X xs vs->vs.length=xs.length
 |[],[],_=>rfl
 |_::xs,_::vs,h=>by rw[asY,asY,OG xs vs h.2]
 |[],_::_,h|_::_,[],h=>by cases h
theorem Nl:∀(xs ys:List Cell)(b:Bool),jk xs ys=some b->ys.length=xs.length
 |[],[],_,_=>rfl
 |x::xs,y::ys,b,h=>by
  rw[jk]at h;split at h
  .next a c h1 h2=>rw[asY,asY,Nl xs ys c h2]
  .cases h
 |[],_::_,_,h|_::_,[],_,h=>by simp[jk]at h
def amU(P:Program)(d:Nat)(t:TypeId)(vs us:List Value)(b:Bool)(w:World):Prop:=
 ((∃fs,P.underlying t=some (.struct fs))/\(Op.equalIn d t (.agg vs.toArray) (.agg us.toArray)).run P w=.ok b w)\/
 ((∀w,(isAgg t).run P w=.ok false w)/\∃v u,vs=[v]/\us=[u]/\(Op.equalIn d t v u).run P w=.ok b w)
theorem ZR{d:Nat}{rec:TypeId->ak->Bool}{X:V}(w:World)
 (hrec:∀t cs,rec t cs=true->∀(xs ys:List Cell)(vs us:List Value)(b:Bool),cs.fits xs=true->ai X xs vs->ai X ys us->jk xs ys=some b->amU P d t vs us b w):
 ∀(fs:List Field)(off:Nat)(cs:ak)(pv pu:List Value)(xs ys:List Cell)(vs us:List Value)(b:Bool),EK P rec fs off cs=true->pv.length=off->pu.length=off->cs.fits xs=true->ai X xs vs->ai X ys us->jk xs ys=some b->
  (Op.eqFields d (pv++vs).toArray (pu++us).toArray fs).run P w=.ok b w
 |[],off,cs,pv,pu,xs,ys,vs,us,b,h,_,_,hf,hx,hy,he=>by
  cases cs with
  |nil=>cases xs with
   |nil=>
    cases ys with
    |nil=>cases he;rfl
    |cons=>grind [jk]
   |cons=>grind [ak.fits]
  |cons=>simp[EK]at h
 |f::fs,off,cs,pv,pu,xs,ys,vs,us,b,h,hpv,hpu,hf,hx,hy,he=>by
  rw[EK,as1,as1]at h;obtain⟨hn,ho,h⟩:=h;have ho:=asX ho;split at h
  .next i hi=>
   rw[as1,as1]at h;obtain⟨hle,hr,h⟩:=h;obtain⟨b1,b2,e1,e2,rfl⟩:=SA i.size xs ys b he;have f1:=aew i.size cs xs hf;have x1:=XO i.size xs vs hx;have y1:=XO i.size ys us hy;have hname:f.name≠ "_" :=by simpa using hn
   have lv:vs.length=cs.len:=by rw[OG _ _ hx,Mc _ _ hf]
   have lu:us.length=cs.len:=by rw[OG _ _ hy,Nl _ _ _ he,Mc _ _ hf]
   have aqE:=hrec f.type _ hr _ _ _ _ b1 f1.1 x1.1 y1.1 e1;have rest:(Op.eqFields d (pv++vs).toArray (pu++us).toArray fs).run P w=.ok b2 w:=by
    have:=ZR w hrec fs (off+i.size) (cs.ZQ i.size) (pv++vs.take i.size) (pu++us.take i.size) _ _ _ _ b2 h (by simp_all) (by simp_all) f1.2 x1.2 y1.2 e2
    simp_all
   have hsz:∀w,(sizeOf f.type).run P w=.ok i.size w:=λw=>by simp[sizeOf,typeInfo,hi]
   have key:∃a c,(part f.type (pv++vs).toArray f.offset).run P w=.ok a w/\(part f.type (pu++us).toArray f.offset).run P w=.ok c w/\(Op.equalIn d f.type a c).run P w=.ok b1 w:=by
    rcases aqE with⟨⟨fl,hu⟩,hrun⟩|⟨hag,v,u,hv,hu,hrun⟩
    · simp_all [isAgg,ato,part]
    .have g1:(pv++vs).toArray[f.offset]? =some v:=by
      have:(vs.take i.size)[0]? =some v:=by rw[hv];rfl
      grind
     have g2:(pu++us).toArray[f.offset]? =some u:=by
      have:(us.take i.size)[0]? =some u:=by rw[hu];rfl
      grind
     simp_all [part]
   obtain⟨a,c,k1,k2,k3⟩:=key;rw[Op.eqFields];rw[if_pos hname,atx,k1,atT,atx,k2,atT,atx,k3,atT];cases b1 with
   |true=>grind
   |false=>simp
  .cases h
theorem one_cell{X:V}{c:CT}{xs ys:List Cell}{vs us:List Value}{b:Bool}(hf:(ak.cons c .nil).fits xs=true)(hx:ai X xs vs)(hy:ai X ys us)(he:jk xs ys=some b):
 ∃x y v u,vs=[v]/\us=[u]/\c.fits x=true/\aK X x v/\aK X y u/\Si x y=some b:=by
 cases xs with
 |nil=>grind [ak.fits]
 |cons x xs=>
  rw[ak.fits,as1]at hf;cases xs with
  |cons=>grind [ak.fits]
  |nil=>
   cases ys with
   |nil=>grind [jk]
   |cons y ys=>
    cases ys with
    |cons=>grind [jk]
    |nil=>
     cases vs with
     |nil=>cases hx
     |cons v vs=>
      cases us with
      |nil=>cases hy
      |cons u us=>
       cases vs with
       |cons=>cases hx.2
       |nil=>
        cases us with
        |cons=>cases hy.2
        |nil=>
         refine⟨x,y,v,u,rfl,rfl,hf.1,hx.1,hy.1,?_⟩;rw[jk]at he;split at he
         .next a c h1 h2=>cases h2;grind
         .cases he
theorem akz{X:V}(w:World):∀(n:Nat)(t:TypeId)(cs:ak),aje P n t cs=true->∀(d:Nat),n<=d->∀(xs ys:List Cell)(vs us:List Value)(b:Bool),cs.fits xs=true->ai X xs vs->ai X ys us->jk xs ys=some b->amU P d t vs us b w
 |0,t,cs,h,_,_,_,_,_,_,_,_,_,_,_=>by cases h
 |n+1,t,cs,h,0,hd,_,_,_,_,_,_,_,_,_=>by omega
 |n+1,t,cs,h,d+1,hd,xs,ys,vs,us,b,hf,hx,hy,he=>by
  unfold aje at h;split at h
  .next k hu=>
   split at h
   .next l=>
    obtain⟨x,y,v,u,rfl,rfl,hc,h1,h2,h3⟩:=one_cell hf hx hy he;refine .inr ⟨λw=>by simp_all [isAgg,ato],v,u,rfl,rfl,?_⟩;cases x<;>simp[CT.fits]at hc;cases y<;>simp only[Si,reduceCtorEq]at h3
    next k2 a k3 c=>
    split at h3
    .next hkk=>
     rw[h1.1,h2.1]
     grind [run_equalIn_int]
    .cases h3
   .cases h
  .next hu=>
   split at h
   .obtain⟨x,y,v,u,rfl,rfl,hc,h1,h2,h3⟩:=one_cell hf hx hy he;refine .inr ⟨λw=>by simp_all [isAgg,ato],v,u,rfl,rfl,?_⟩;cases x<;>simp[CT.fits]at hc;cases y<;>simp[Si]at h3
    next a c=>
    have h1:v=.bool a:=h1;have h2:u=.bool c:=h2
    grind [run_equalIn_bool]
   .cases h
  .next hu=>
   split at h
   .obtain⟨x,y,v,u,rfl,rfl,hc,h1,h2,h3⟩:=one_cell hf hx hy he;refine .inr ⟨λw=>by simp_all [isAgg,ato],v,u,rfl,rfl,?_⟩;cases x<;>simp[CT.fits]at hc;cases y<;>simp[Si]at h3
    next a c=>
    rw[h1.1,h2.1,run_equalIn_string w d t _ _ hu]
    simp_all
   .cases h
  .next fs hu=>
   rw[as1]at h;have hp:P.stoodInHeld t=false:=by simpa using h.1
   have hfs:P.fieldsOf t=fs:=by grind [Program.fieldsOf]
   refine .inl ⟨⟨fs,hu⟩,?_⟩;rw[run_equalIn_struct w d t _ _ (by grind) hp,hfs];have:=ZR (X:=X) (d:=d) w (λt cs hr xs ys vs us b=>akz w n t cs hr d (by omega) xs ys vs us b) fs.toList 0 cs [] [] xs ys vs us b h.2 rfl rfl hf hx hy he
   grind
  .cases h
def ajf(P:Program)(t:TypeId)(cs:ak):Bool:=aje P 20 t cs&&(!P.eqGuardType P.depth t&&(match P.underlying t with|some (.struct _)=>true|_=>false))
theorem anA{t:TypeId}{cs:ak}(h:ajf P t cs=true)(w:World)(s u:Operand)(X:V)(xs ys:List Cell)(vs us:Array Value)(b:Bool)(hf:cs.fits xs=true)(hx:ai X xs vs.toList)(hy:ai X ys us.toList)(he:jk xs ys=some b):
 (do eqGuard .eql t s u (.agg vs) (.agg us);binOp .eql t (.agg vs) (.agg us)).run P w=.ok (.bool b) w/\
 (do eqGuard .neq t s u (.agg vs) (.agg us);binOp .neq t (.agg vs) (.agg us)).run P w=.ok (.bool (!b)) w:=by
 unfold ajf at h;rw[as1,as1]at h;obtain⟨h1,h2,h3⟩:=h;have hrun:(Op.equalIn 10000 t (.agg vs) (.agg us)).run P w=.ok b w:=by
  rcases akz w 20 t cs h1 10000 (by omega) xs ys vs.toList us.toList b hf hx hy he with⟨_,h⟩|⟨hag,_⟩
  .simpa using h
  .split at h3
   · simp_all [isAgg,ato]
   .cases h3
 grind [Sem.run_bind,run_eqGuard_agg,Result.andThen_ok,run_eql_struct,run_neq_struct]
end Go.Fw
namespace Go.Fw
open Go
variable {P:Program} {w0:World} {M:Nat->Prop} {T:Ext} {γ γ':Nat->Value} {st:St} {a:Act} {w w':World} {Θ:gY}
theorem an7{s:Sem Value}{u:Value}(h:s.run P w=.ok u w'):(do pure (Next.value (← s)):Sem Next).run P w=.ok (.value u) w':=by simp[h]
theorem KE(hΘ:∀t ti,Θ t=some ti->jS P t ti)(h:Rel w0 M T γ st a w){t:TypeId}{ti:TI}(ht:Θ t=some ti){x:Operand}{v:SV}:
 ((∃o off cs,st.ev x=.eG o off/\st.ah o=some (.var cs)/\jP ti cs off=some v)\/
  (∃o i off e r l fr,st.ev x=.lI o i off/\st.ah o=some (.arr e r l fr)/\i<l.length/\jP ti (ak.row fr r (l.getD i r.dflt)) off=some v)\/
  (∃r y off fr,st.ev x=.nH r y off fr/\jP ti (ak.row fr r y) off=some v))->
 ∃u,(Instr.loadAt t (a.eval x)).run P w=.ok u w/\dw (aj w0 T γ st w) v u:=by
 have hx:=gU h x;rintro(⟨o,off,cs,e,ho,hv⟩|⟨o,i,off,e',r,l,fr,e,ho,hi,hv⟩|⟨r,y,off,fr,e,hv⟩)
 .rw[e]at hx;obtain⟨b,cs',_,hγ,hx⟩:=hx;obtain⟨b',arr,ty,hγ',hb,hr⟩:=h.ah o _ ho;have hr':ai (aj w0 T γ st w) cs ((arr.toList.drop 0).take arr.size):=by grind [List.take_of_length_le]
  grind [Gt]
 .rw[e]at hx;obtain⟨b,n,cap,e2,r2,l2,fr2,ho2,hγ,hx⟩:=hx;have agi:st.ah o=some (.arr e2 r2 l2 fr2):=ho2;rw[ho]at agi;cases agi;obtain⟨xs,⟨h1,h2⟩,hpos,_,hrow⟩:=h.ah o _ ho;rcases h2 with⟨hnil,_⟩|⟨g,cap',cur,hg,_,hh,hle,_,hsz,htake⟩
  .omega
  .have hγ1:γ o=.slice (some ⟨b,0,none⟩) n cap:=hγ;have zY:γ o=.slice (some ⟨g,0,none⟩) l.length cap':=hg;rw[hγ1]at zY;obtain⟨rfl,-,-⟩:=zY;rw[hx];have hmul:i*r.len+r.len<=l.length*r.len:=by
    have:(i+1)*r.len<=l.length*r.len:=atf _ hi
    grind
   have hli:l[i]? =some (l.getD i r.dflt):=by grind
   have hR:=hrow i _ hli;rw[← htake,fH _ _ _ _ hmul]at hR;exact Gt (hΘ t ti ht) (aj w0 T γ st w) hh (Nk _ fr r _ _ hR) hv
 .rw[e]at hx;obtain⟨b,base,cs,ty,fz,hx,hf,hb,hR⟩:=hx;rw[hx];exact Gt (hΘ t ti ht) (aj w0 T γ st w) hb (Nk _ fr r _ _ hR) hv
theorem addr_add(b o k:Nat):(⟨b,o,none⟩:Addr).add k=⟨b,o+k,none⟩:=Addr.add_mid b o k
theorem Gu(hΘ:∀t ti,Θ t=some ti->jS P t ti){s:TypeId}{ti te:TI}(hs:Θ s=some ti){fs:List (Nat×TypeId)}(hk:ti.kind=.struct fs){f k:Nat}{t:TypeId}(hf:fs[f]? =some (k,t))
 (ht:Θ t=some te) (hne:te.cells≠ .nil) (b o:Nat):(Instr.fieldAt s (.pointer (some ⟨b,o,none⟩)) f).run P w=.ok (.pointer (some ⟨b,o+k,none⟩)) w:=by
 have hu:=(hΘ s ti hs).und;rw[hk]at hu;obtain⟨yQ,hu,rfl,_⟩:=hu;rw[atU]at hf;cases hfl:yQ.toList[f]? with
 |none=>grind
 |some fl=>
  rw[hfl]at hf;obtain⟨rfl,rfl⟩:=hf;have acW:yQ[f]? =some fl:=by simpa using hfl
  have hsz:te.cells.len≠0:=by
   cases hc:te.cells with
   |nil=>grind
   |cons c r=>simp[ak.len]
  simp[Instr.fieldAt,Instr.sureAddr,atx,ato hu w,acW,fieldPlace,(hΘ _ te ht).run_sizeOf,hsz,addr_add]
theorem run_indexAt(hΘ:∀t ti,Θ t=some ti->jS P t ti){t e:TypeId}{ti te:TI}(ht:Θ t=some ti)(hk:ti.kind=.slice e)(he:Θ e=some te)(b o len cap:Nat)(k:IntKind)(n:Int)(h0:0<=n)(hn:n<len):
 (Instr.indexAt t (.slice (some ⟨b,o,none⟩) len cap) (.int k n)).run P w=.ok (.pointer (some ⟨b,o+n.toNat*te.cells.len,none⟩)) w:=by
 have hu:=(hΘ t ti ht).und;rw[hk]at hu;simp[Instr.indexAt,asIntOf,atx,ato hu.1 w,h0,hn,(hΘ e te he).run_sizeOf,addr_add]
theorem alT{X:V}{e:TypeId}{r:ak}{l:List r.den}{fr:Bool}{v:Value}(h:aK X (.sl e r l fr) v){i:Nat}(hi:i<l.length):
 ∃b off cap,v=.slice (some ⟨b,off,none⟩) l.length cap/\aQ X (.nH r (l.getD i r.dflt) 0 fr) (.pointer (some ⟨b,off+i*r.len,none⟩)):=by
 rcases h.2 with⟨hl,_⟩|⟨b,off,cap,cs,t,fz,hv,_,hS,hb,hx⟩
 · grind
 .have hli:l[i]? =some (l.getD i r.dflt):=by grind
  exact⟨b,off,cap,hv,b,off+i*r.len,cs,t,fz,rfl,hS,hb,hx i _ hli⟩
theorem ah2(hΘ:∀t ti,Θ t=some ti->jS P t ti){t:TypeId}{ti:TI}(ht:Θ t=some ti)(hk:ti.kind=.str)(s:ByteArray)(ty:TypeId):
 (Builtin.len_ #[t] ty #[.string s]).run P w=.ok (.int .i64 s.size) w:=by
 have hu:=(hΘ t ti ht).und
 simp_all [Builtin.len_,ato,goInt]
theorem run_len_slice(hΘ:∀t ti,Θ t=some ti->jS P t ti){t e:TypeId}{ti:TI}(ht:Θ t=some ti)(hk:ti.kind=.slice e)(a:Option Addr)(n c:Nat)(ty:TypeId):
 (Builtin.len_ #[t] ty #[.slice a n c]).run P w=.ok (.int .i64 n) w:=by
 have hu:=(hΘ t ti ht).und
 simp_all [Builtin.len_,ato,goInt]
theorem size_bytes(s:Bytes):(⟨s.toArray⟩:ByteArray).size=s.length:=by show s.toArray.size=_;simp
theorem agk{X:V}{e:TypeId}{r:ak}{l:List r.den}{fr:Bool}{v:Value}(h:aK X (.sl e r l fr) v):∃a c,v=.slice a l.length c/\l.length<=maxLen:=by
 rcases h.2 with⟨hl,a,c,hv⟩|⟨b,off,cap,cs,t,fz,hv,_⟩
 · grind
 .exact⟨_,cap,hv,h.1⟩
theorem anB(h:Rel w0 M T γ st a w){o:Nat}{v:Value}(hc:aK (aj w0 T γ st w) (.ref o) v){e:TypeId}{r:ak}{l:List r.den}{fr:Bool}(ho:st.ah o=some (.arr e r l fr)):
 ∃a c,v=.slice a l.length c/\l.length<=maxLen:=by
 obtain⟨_,hv,_⟩:=hc;obtain⟨xs,⟨_,h2⟩,_⟩:=h.ah o _ ho
 grind
theorem Vp(n:Nat)(h:n<=maxLen):IntKind.i64.min<=(n:Int)/\(n:Int)<=IntKind.i64.max:=by unfold maxLen at h;have e1:IntKind.i64.min=-9223372036854775808:=rfl;have e2:IntKind.i64.max=9223372036854775807:=rfl;omega
theorem run_sliceBound{k:IntKind}{n:Int}{y:Nat}{c:BoundsCode}(h0:0<=n)(h1:n<=y):(Instr.sliceBound (.int k n) y c).run P w=.ok n.toNat w:=by simp[Instr.sliceBound,asIntOf,h0,h1]
theorem qf(h:Rel w0 M T γ st a w){len cap:Nat}(hcap:len<=cap){lo hi:Option Operand}{p:Prop}{x y:Nat}(hb:kL st len lo hi=some (p,x,y))(hp:p)(sl:Bool):
 (Instr.sliceBounds sl len cap (lo.map a.eval) (hi.map a.eval) none).run P w=.ok (x,y,cap) w/\x<=y/\y<=len:=by
 unfold kL at hb;split at hb
 .cases hb
  simp_all [Instr.sliceBounds]
 .next l=>
  split at hb
  .next n hn=>
   cases hb;obtain⟨k,hk,_⟩:=qY h hn
   simp_all [Instr.sliceBounds,run_sliceBound]
  .cases hb
 .next hh=>
  split at hb
  .next n hn=>cases hb;obtain⟨k,hk,_⟩:=qY h hn;refine⟨?_,by omega,by omega⟩;simp only[Instr.sliceBounds,avg,aul,hk,atx,atV,atT];rw[run_sliceBound hp.1 (by omega)];simp
  .cases hb
 .next l hh=>
  split at hb
  .next n m hn hm=>
   obtain⟨k,hk,_⟩:=qY h hn;obtain⟨k',hk',_⟩:=qY h hm;simp only[Instr.sliceBounds,avg,hk,hk',atx,atV,atT]
   grind [run_sliceBound,Result.andThen_ok]
  .cases hb
theorem afm(s:Bytes)(x y:Nat):(⟨s.toArray⟩:ByteArray).extract x y=⟨((s.take y).drop x).toArray⟩:=by apply ByteArray.ext;simp[List.drop_take]
theorem anC{X:V}{e:TypeId}{r:ak}{l:List r.den}{fr:Bool}{ad:Option Addr}{n c:Nat}(h:aK X (.sl e r l fr) (.slice ad n c)){x y:Nat}(hxy:x<=y)(hy:y<=l.length):
 aK X (.sl e r ((l.take y).drop x) fr) (.slice (if c=x then ad else ad.map (·.add (x*r.len))) (y-x) (c-x)):=by
 have hlen:((l.take y).drop x).length=y-x:=by simp;omega
 refine⟨by exact as3 (by omega) h.1,?_⟩;by_cases hne:y=x
 · simp_all
 .rcases h.2 with⟨hl,_⟩|⟨b,off,cap,cs,t,fz,hv,hc,hS,hb,hx⟩
  · grind
  .simp only[Value.slice.injEq]at hv;refine .inr ⟨b,off+x*r.len,c-x,cs,t,fz,?_,by omega,hS,hb,λi z hi=>?_⟩
   · grind [addr_add]
   grind
def upd(γ:Nat->Value)(o:Nat)(v:Value):Nat->Value:=λp=>match Nat.beq p o with|true=>v|false=>γ p
theorem upd_same(γ:Nat->Value)(o:Nat)(v:Value):upd γ o v o=v:=by simp[upd,atX]
theorem G6{p o:Nat}(h:p≠o):Nat.beq p o=false:=by
 grind [Nat.eq_of_beq_eq_true]
theorem ni(γ:Nat->Value){o p:Nat}(v:Value)(h:p≠o):upd γ o v p=γ p:=by simp[upd,G6 h]
theorem add_same(st:St)(o:Nat)(x:aB):(st.add o x).ah o=some x:=by simp[St.add,atX]
theorem lQ(st:St){o p:Nat}(x:aB)(h:p≠o):(st.add o x).ah p=st.ah p:=by simp[St.add,G6 h]
theorem heap_alloc_old(w:World)(x:Obj){b:Nat}(h:b<w.heap.size):(w.alloc x).heap[b]? =w.heap[b]? :=by
 show(w.heap.push x)[b]? =_
 grind
theorem Dy(w:World)(x:Obj):(w.alloc x).heap[w.heap.size]? =some x:=by
 show(w.heap.push x)[w.heap.size]? =_
 grind
theorem Rel.alloc1(h:Rel w0 M T γ st a w)(o:Nat)(x:aB)(hnew:st.ah o=none)(h48:∀cs,x=.var cs->o%64≠48)(arr:Array Value)(t:TypeId)(v:Value)(hv:blk v=some w.heap.size)
 (hx:(aj w0 T γ st w).le ⟨w.alloc (.cells arr t),w0.heap.size,T,upd γ o v,(st.add o x).ah⟩->bD ⟨w.alloc (.cells arr t),w0.heap.size,T,upd γ o v,(st.add o x).ah⟩ o x):
 Rel w0 M T (upd γ o v) (st.add o x) a (w.alloc (.cells arr t))/\(aj w0 T γ st w).le ⟨w.alloc (.cells arr t),w0.heap.size,T,upd γ o v,(st.add o x).ah⟩:=by
 have hA:∀p y,st.ah p=some y->(st.add o x).ah p=some y:=by
  grind [lQ]
 have hγ:∀p y,st.ah p=some y->upd γ o v p=γ p:=by
  grind [ni]
 have hsize:(w.alloc (.cells arr t)).heap.size=w.heap.size+1:=by
  simp_all
 have le:(aj w0 T γ st w).le ⟨w.alloc (.cells arr t),w0.heap.size,T,upd γ o v,(st.add o x).ah⟩:=by
  refine⟨as7 _,λb hb=>⟨⟨?_,hb.2.1,λp y hp=>?_⟩,heap_alloc_old w _ hb.1⟩,λp cs hp=>⟨⟨cs,hA p _ hp⟩,hγ p _ hp⟩,λp e r l fr hp=>⟨⟨l,fr,hA p _ hp⟩,hγ p _ hp⟩⟩
  .show b<(w.alloc (.cells arr t)).heap.size;have:b<w.heap.size:=hb.1;omega
  .show blk (upd γ o v p)≠some b;by_cases e:p=o
   .rw[e,upd_same,hv];have:b<w.heap.size:=hb.1
    grind
   .rw[ni γ v e];have hp':(st.add o x).ah p=some y:=hp;rw[lQ st x e]at hp';exact hb.2.2 p y hp'
 refine⟨(h.grown (γ':=upd γ o v) (w':=w.alloc (.cells arr t)) (st.add o x).ah hA hγ rfl rfl rfl (by omega) (λb hb=>heap_alloc_old w _ hb) ?_ ?_ ?_).1,le⟩
 · grind [add_same,upd_same,lQ]
 .intro p cs hp hn;by_cases e:p=o
  .subst e;rw[add_same]at hp;cases hN:T.N p with
   |none=>rfl
   |some v'=>exact(h48 cs (Option.some.inj hp) (T.n48 p v' hN)).elim
  grind [lQ]
 grind [lQ]
theorem Rel.agl(h:Rel w0 M T γ st a w)(o:Nat)(cs:List Cell)(hnew:st.ah o=none)(h48:o%64≠48)(arr:Array Value)(t:TypeId)(hr:ai (aj w0 T γ st w) cs arr.toList):
 Rel w0 M T (upd γ o (.pointer (some ⟨w.heap.size,0,none⟩))) (st.add o (.var cs)) a (w.alloc (.cells arr t))/\
 aQ (aj w0 T (upd γ o (.pointer (some ⟨w.heap.size,0,none⟩))) (st.add o (.var cs)) (w.alloc (.cells arr t))) (.eG o 0) (.pointer (some ⟨w.heap.size,0,none⟩)):=by
 refine⟨(h.alloc1 o (.var cs) hnew (λ_ _=>h48) arr t _ rfl λle=>?_).1,w.heap.size,cs,add_same _ _ _,upd_same _ _ _,rfl⟩;exact⟨w.heap.size,arr,t,upd_same _ _ _,Dy w _,ai.mono le cs _ hr⟩
theorem Rel.XP(h:Rel w0 M T γ st a w)(o:Nat)(e:TypeId)(r:ak)(l:List r.den)(fr:Bool)(hnew:st.ah o=none)(arr:Array Value)(cap:Nat)(hlen:0<r.len)
 (hcap:l.length<=cap) (hmax:cap<=maxLen) (hsz:arr.size=cap*r.len)
 (hr:∀i x,l[i]? =some x->aZ w.heap ((aj w0 T γ st w).bP fr) r ((arr.toList.drop (i*r.len)).take r.len) x):
 Rel w0 M T (upd γ o (.slice (some ⟨w.heap.size,0,none⟩) l.length cap)) (st.add o (.arr e r l fr)) a (w.alloc (.cells arr e))/\
 aQ (aj w0 T (upd γ o (.slice (some ⟨w.heap.size,0,none⟩) l.length cap)) (st.add o (.arr e r l fr)) (w.alloc (.cells arr e))) (.sv (.one (.ref o))) (.slice (some ⟨w.heap.size,0,none⟩) l.length cap):=by
 refine⟨(h.alloc1 o (.arr e r l fr) hnew (λ_ e=>by cases e) arr e _ rfl λle=>?_).1,⟨e,r,l,fr,add_same _ _ _⟩,(upd_same _ _ _).symm,rfl⟩;refine⟨arr.toList.take (l.length*r.len),⟨?_,.inr ⟨w.heap.size,cap,arr,upd_same _ _ _,atl _,Dy w _,hcap,hmax,hsz,rfl⟩⟩,hlen,?_,λi x hi=>?_⟩
 · simp_all
 .intro b hb _;have hb:blk (upd γ o (.slice (some ⟨w.heap.size,0,none⟩) l.length cap) o)=some b:=hb;rw[upd_same]at hb;cases hb;exact h.grow
 .have hlt:i<l.length:=(ath.1 hi).1;have hmul:i*r.len+r.len<=l.length*r.len:=by
   have:(i+1)*r.len<=l.length*r.len:=atf _ hlt
   grind
  rw[fH _ _ _ _ hmul];exact aZ.mono (λb hb=>le.bP fr b hb) r _ x (hr i x hi)
theorem XQ(X:V):∀(r:ak),ai X r.zeros r.mJ
 |.nil=>trivial
 |.cons c r=>by
  refine⟨?_,XQ X r⟩;cases c with
  |int k=>exact⟨rfl,by cases k<;>decide⟩
  |bool=>rfl
  |str=>exact⟨rfl,atl _⟩
  |sl e s=>rfl
theorem SB(h:Array Obj)(S:Nat->Prop):∀(r:ak),aZ h S r r.mJ r.dflt
 |.nil=>rfl
 |.cons c r=>by
  refine⟨c.acV,r.mJ,rfl,?_,SB h S r⟩;cases c with
  |int k=>exact⟨rfl,show k.min<=(0:Int)/\(0:Int)<=k.max by cases k<;>decide⟩
  |bool=>rfl
  |str=>exact⟨rfl,atl _⟩
  |sl e s=>exact⟨atl _,.inl ⟨rfl,none,0,rfl⟩⟩
theorem Jk(h:Rel w0 M T γ st a w)(fr:Bool):∀(r:ak)(cs:List Cell)(vs:List Value)(x:r.den),ai (aj w0 T γ st w) cs vs->yg st r cs=some x->cs.flatMap Cell.refs=[]->(fr=true->cs.all (Cell.fresh st)=true)->
 aZ w.heap ((aj w0 T γ st w).bP fr) r vs x
 |.nil,[],[],_,_,_,_,_=>rfl
 |.nil,_::_,_,_,_,hg,_,_=>by grind [yg]
 |.cons _ _,[],_,_,_,hg,_,_=>by grind [yg]
 |.cons c r,y::ys,v::vs,x,⟨h1,h2⟩,hg,hn,hf=>by
  rw[yg]at hg;rw[atG,aty]at hn;split at hg
  .next p q hp hq=>
   cases hg;refine⟨v,vs,rfl,?_,Jk h fr r ys vs q h2 hq hn.2 (λe=>by grind)⟩;have hy:fr=true->y.fresh st=true:=λe=>by grind
   cases c with
   |int k=>exact Cell.Vo h (.int k) y v p h1 hp
   |bool=>exact Cell.Vo h .bool y v p h1 hp
   |str=>exact Cell.Vo h .str y v p h1 hp
   |sl e s=>
    cases y with
    |int k n=>grind [Cell.get]
    |bool b=>grind [Cell.get]
    |str s=>grind [Cell.get]
    |junk=>grind [Cell.get]
    |ref o=>grind [Cell.refs]
    |nil=>
     cases hp;have hv:v=.slice none 0 0:=h1;subst hv;exact⟨atl _,.inl ⟨rfl,none,0,rfl⟩⟩
    |sl e' s' l fr'=>
     simp only[Cell.get]at hp;split at hp
     .next hb=>have hrs:=ak.eq_of_beq s' s hb;subst hrs;cases hp;exact dW.mono (λb hb=>⟨⟨hb.1,λe2=>hb.2 (hy e2)⟩,rfl⟩) (.sl e s') v l h1
     .cases hp
  .cases hg
 |.cons _ _,_::_,[],_,H,_,_,_=>by cases H
 |.nil,[],_::_,_,H,_,_,_=>by cases H
def look:List (Nat×aB)->Nat->Option aB
 |[],_=>none
 |(o,x)::r,p=>match look r p with
  |some y=>some y
  |none=>match Nat.beq p o with|true=>some x|false=>none
theorem qK:∀(δ:List (Nat×aB))(st:St)(p:Nat),(st.adds δ).ah p=match look δ p with|some y=>some y|none=>st.ah p
 |[],st,p=>rfl
 |(o,x)::r,st,p=>by
  rw[St.adds,qK r (st.add o x) p,look];cases hl:look r p with
  |some y=>rfl
  |none=>
   cases hb:Nat.beq p o with
   |true=>simp[St.add,hb]
   |false=>simp[St.add,hb]
theorem Ed:∀(δ:List (Nat×aB))(st:St),(st.adds δ).tmps=st.tmps/\(st.adds δ).n=st.n
 |[],_=>⟨rfl,rfl⟩
 |(o,x)::r,st=>Ed r (st.add o x)
theorem uG:∀(δ:List (Nat×aB))(p:Nat)(x:aB),look δ p=some x->(p,x)∈δ
 |[],_,_,h=>by cases h
 |(o,y)::r,p,x,h=>by
  rw[look]at h;cases hl:look r p with
  |some z=>rw[hl]at h;cases h;exact as8 _ (uG r p x hl)
  |none=>
   rw[hl]at h;cases hb:Nat.beq p o with
   |true=>rw[hb]at h;cases h;rw[asX hb];exact as9
   |false=>rw[hb]at h;cases h
theorem Vq(st:St)(δ:List (Nat×aB)):st.adds δ={st with ah:=(st.adds δ).ah}:=by
 have h:=Ed δ st;cases e:st.adds δ with
 |mk n t o=>grind
theorem EL{δ:List (Nat×aB)}(h:iP st δ=true){p:Nat}{x:aB}(hl:look δ p=some x):st.ah p=none:=by
 have:=atq.1 h _ (uG δ p x hl)
 simp_all
structure iV where
 n:Nat
 ok:World->Prop
 low:∀w,ok w->n<=w.heap.size
 stable:∀w w',ok w->w.heap.size<=w'.heap.size->(∀b,b<n->w'.heap[b]? =w.heap[b]?)->ok w'
def mM(X:V):Arg->Value->Prop
 |.sv v,u=>dw X v u
 |.kp cs,u=>aQ X (.dA cs 0) u
 |.fn f caps,u=>aQ X (.fn f caps) u
 |.own _ _ _,_|.ptr _,_=>False
def lS(X:V):List Arg->List Value->Prop
 |[],[]=>True
 |c::cs,v::vs=>mM X c v/\lS X cs vs
 |_,_=>False
def iM(P:Program)(G:iV)(f:FuncId)(con:Kw):Prop:=
 ∀(args:List Arg)(p:Prop)(out:Out)(k:Nat)(S:Nat->Prop)(vs:Array Value)(w:World),con args=some (p,out)->p->G.ok w->
  lS ⟨w,w.heap.size,S,λ_=>undef,λ_=>none⟩ args vs.toList->
  Calls P f vs w λe w'=>∃v vals,e=.returned v/\w'.os=w.os/\w'.tape=w.tape/\w'.output=w.output/\w.heap.size<=w'.heap.size/\
   (∀b,b<w.heap.size->w'.heap[b]? =w.heap[b]?)/\
   aQ ⟨w',w.heap.size,S,vals,look (out.take k).2⟩ (out.take k).1 v/\
   (∀o x,look (out.take k).2 o=some x->bD ⟨w',w.heap.size,S,vals,look (out.take k).2⟩ o x/\∀b,blk (vals o)=some b->w.heap.size<=b/\b<w'.heap.size)/\
   (∀o x q y b,look (out.take k).2 o=some x->look (out.take k).2 q=some y->o≠q->blk (vals o)=some b->blk (vals q)≠some b)
def eX(args:List Arg)(p:Nat):Option aB:=
 match args[p / 64]? with
 |some (.own e r l)=>match Nat.beq (p%64) 49 with|true=>some (.arr e r l false)|false=>none
 |some (.ptr cs)=>match Nat.beq (p%64) 48 with|true=>some (.var cs)|false=>none
 |_=>none
def Jl(X:V)(i:Nat):Arg->Value->Prop
 |.own _ _ _,v=>aK X (.ref (i*64+49)) v
 |.ptr _,v=>aQ X (.eG (i*64+48) 0) v
 |a,v=>mM X a v
def xC(X:V):Nat->List Arg->List Value->Prop
 |_,[],[]=>True
 |i,c::cs,v::vs=>Jl X i c v/\xC X (i+1) cs vs
 |_,_,_=>False
def xE(E:Nat->Option aB)(γ:Nat->Value)(b:Nat):Prop:=∃o x,E o=some x/\blk (γ o)=some b
def qi(S:Nat->Prop)(args:List Arg)(aJ:List Eff)(γ:Nat->Value)(b:Nat):Prop:=
 (S b\/xE (eX args) γ b)/\∀q y,nX aJ q=some y->blk (γ q)≠some b
def KF(S:Nat->Prop)(args:List Arg)(γ:Nat->Value)(w:World)(k:Nat)(out:Out)(aJ:List Eff)(e:Ending)(w':World):Prop:=
 ∃v γ',e=.returned v/\w'.os=w.os/\w'.tape=w.tape/\w'.output=w.output/\w.heap.size<=w'.heap.size/\
  (∀b,b<w.heap.size->¬xE (eX args) γ b->w'.heap[b]? =w.heap[b]?)/\
  aQ ⟨w',w.heap.size,qi S args aJ γ,γ',look (out.take k).2⟩ (out.take k).1 v/\
  (∀o x,look (out.take k).2 o=some x->bD ⟨w',w.heap.size,qi S args aJ γ,γ',look (out.take k).2⟩ o x/\
    ∀b,blk (γ' o)=some b->b<w'.heap.size/\(w.heap.size<=b\/xE (eX args) γ b)/\∀q y,nX aJ q=some y->blk (γ q)≠some b)/\
  (∀o x q y b,look (out.take k).2 o=some x->look (out.take k).2 q=some y->o≠q->blk (γ' o)=some b->blk (γ' q)≠some b)/\
  (∀o x,nX aJ o=some x->γ' o=γ o/\bD ⟨w',w.heap.size,qi S args aJ γ,γ',look (out.take k).2⟩ o x)
def CO(P:Program)(G:iV)(f:FuncId)(con:RV):Prop:=
 ∀(args:List Arg)(p:Prop)(ρ:L8),con args=some (p,ρ)->p->(∃t,ρ.R t)/\
  ∀(k:Nat)(S:Nat->Prop)(γ:Nat->Value)(vs:Array Value)(w:World),G.ok w->xC ⟨w,w.heap.size,S,γ,eX args⟩ 0 args vs.toList->
   (∀o x,eX args o=some x->bD ⟨w,w.heap.size,S,γ,eX args⟩ o x/\∀b,blk (γ o)=some b->b<w.heap.size/\G.n<=b)->
   (∀o x q y b,eX args o=some x->eX args q=some y->o≠q->blk (γ o)=some b->blk (γ q)≠some b)->
   (∀t,ρ.R t->∀o x,look ((ρ.out t).take k).2 o=some x->nX (ρ.aJ t) o=none)->
   Calls P f vs w λe w'=>∃t,ρ.R t/\KF S args γ w k (ρ.out t) (ρ.aJ t) e w'
theorem amV{X:V}{S':Nat->Prop}{b:Nat}(h:X.bP true b):({X with S:=S'}:V).bP true b:=
 ⟨⟨h.1.1,λhlt=>by have h1:=h.2 rfl;grind,h.1.2.2⟩,h.2⟩
theorem aK.newS{X:V}(S':Nat->Prop):∀(c:Cell)(v:Value),c.made=true\/c.isRef=true->aK X c v->aK {X with S:=S'} c v
 |.int _ _,_,_,H|.bool _,_,_,H|.str _,_,_,H|.nil,_,_,H|.junk,_,_,H=>H
 |.sl e r l fr,v,h,H=>by
  have hfr:fr=true:=by rcases h with h|h;exact h;cases h
  subst hfr;exact dW.mono (λb hb=>⟨amV hb,rfl⟩) (.sl e r) v l H
 |.ref o,v,_,H=>H
theorem ai.newS{X:V}(S':Nat->Prop):∀(cs:List Cell)(vs:List Value),(∀c∈cs,c.made=true\/c.isRef=true)->ai X cs vs->ai {X with S:=S'} cs vs
 |[],[],_,H=>H
 |c::cs,v::vs,h,⟨h1,h2⟩=>⟨aK.newS S' c v (h c as9) h1,ai.newS S' cs vs (λd hd=>h d (as8 _ hd)) h2⟩
 |[],_::_,_,H|_::_,[],_,H=>by cases H
theorem dw.newS{X:V}(S':Nat->Prop):∀(c:SV)(v:Value),(∀x∈c.cells,x.made=true\/x.isRef=true)->dw X c v->dw {X with S:=S'} c v
 |.one c,v,h,H=>aK.newS S' c v (h c as9) H
 |.agg cs,_,h,⟨vs,hv,H⟩=>⟨vs,hv,ai.newS S' cs _ h H⟩
theorem dB.newS{X:V}(S':Nat->Prop):∀(cs:List SV)(vs:List Value),(∀c∈cs,∀x∈c.cells,x.made=true\/x.isRef=true)->dB X cs vs->dB {X with S:=S'} cs vs
 |[],[],_,H=>H
 |c::cs,v::vs,h,⟨h1,h2⟩=>⟨dw.newS S' c v (h c as9) h1,dB.newS S' cs vs (λd hd=>h d (as8 _ hd)) h2⟩
 |[],_::_,_,H|_::_,[],_,H=>by cases H
theorem bD.newS{X:V}(S':Nat->Prop)(o:Nat){e:TypeId}{r:ak}{l:List r.den}(h:bD X o (.arr e r l true)):bD {X with S:=S'} o (.arr e r l true):=by obtain⟨xs,h1,h2,h3,h4⟩:=h;exact⟨xs,h1,h2,h3,λi x hi=>aZ.mono (λb hb=>⟨amV hb,rfl⟩) r _ x (h4 i x hi)⟩
theorem Np:∀(cs:List dX)(k:Nat),cs.all dX.made=true->
 (∀c∈(jJ k cs).1,c.made=true\/c.isRef=true)/\(∀y∈(jJ k cs).2,∃e r l,y.2=.arr e r l true)
 |[],_,_=>⟨(λ_ h=>by cases h),(λ_ h=>by cases h)⟩
 |x::cs,k,h=>by
  simp only[atQ,as1]at h;have ih:=Np cs (k+1) h.2;refine⟨λc hc=>?_,λy hy=>?_⟩
  .rcases atw.1 hc with rfl|hc
   .cases x with
    |plain c=>exact .inl h.1
    |own e r l fr=>exact .inr rfl
   grind
  .rcases atA.1 hy with hy|hy
   .cases x with
    |plain c=>cases hy
    |own e r l fr=>
     have hfr:fr=true:=h.1
     grind [dX.take]
   grind
theorem agm(k:Nat)(x:Bool×List dX)(h:x.2.all dX.made=true):
 (∀c∈(rX k x).1.cells,c.made=true\/c.isRef=true)/\(∀y∈(rX k x).2,∃e r l,y.2=.arr e r l true):=by
 have:=Np x.2 k h;unfold rX;split
 .next e1 e2=>rw[e2]at this;exact this
 .next e1 e2=>rw[e2]at this;exact this
 .next e1 e2=>rw[e2]at this;exact⟨(λc hc=>by rcases atw.1 hc with rfl|hc;exact .inl rfl;cases hc),this.2⟩
theorem Qm:∀(xs:List (Bool×List dX))(k:Nat),(xs.all λx=>x.2.all dX.made)=true->
 (∀v∈(gQ k xs).1,∀c∈v.cells,c.made=true\/c.isRef=true)/\(∀y∈(gQ k xs).2,∃e r l,y.2=.arr e r l true)
 |[],_,_=>⟨(λ_ h=>by cases h),(λ_ h=>by cases h)⟩
 |x::xs,k,h=>by
  simp only[atQ,as1]at h;have h1:=agm k x h.1;have ih:=Qm xs (k+x.2.length) h.2
  grind [gQ]
theorem ai.made{X:V}(S':Nat->Prop)(cs:List Cell)(vs:List Value)(hm:cs.all Cell.made=true)(H:ai X cs vs):ai {X with S:=S'} cs vs:=
 ai.newS S' cs vs (λc hc=>.inl (atq.1 hm c hc)) H
def Vr:aB->Prop
 |.arr _ _ _ fr=>fr=true
 |.var cs=>cs.all Cell.made=true
theorem bD.made{X:V}(S':Nat->Prop)(o:Nat):∀(x:aB),Vr x->bD X o x->bD {X with S:=S'} o x
 |.arr e r l fr,hm,h=>by
  have hm:fr=true:=hm
  grind [bD.newS]
 |.var cs,hm,⟨b,arr,t,h1,h2,h3⟩=>⟨b,arr,t,h1,h2,ai.made S' cs _ hm h3⟩
theorem Out.SC(o:Out)(k:Nat)(h:o.made=true)(X:V)(S':Nat->Prop)(v:Value):
 (aQ X (o.take k).1 v->aQ {X with S:=S'} (o.take k).1 v)/\(∀y∈(o.take k).2,Vr y.2):=by
 unfold Out.made at h;unfold Out.take;split at h
 .next cs hv=>exact⟨id,λy hy=>by rw[atI.1 hy];exact h⟩
 .next hv=>
  have hm:=Qm o.ai8 k h;have hm2:∀y∈(gQ k o.ai8).2,Vr y.2:=λy hy=>by obtain⟨e,r,l,he⟩:=hm.2 y hy;rw[he];exact rfl
  split
  .next e1 e2=>rw[e2]at hm hm2;exact⟨λH=>dw.newS S' _ v (hm.1 _ as9) H,hm2⟩
  .next e1 e2=>rw[e2]at hm hm2;exact⟨λ⟨vs,hv,H⟩=>⟨vs,hv,dB.newS S' _ _ hm.1 H⟩,hm2⟩
theorem Cell.zZ(h:Rel w0 M T γ st a w){γ0:Nat->Value}{S:Nat->Prop}(hS1:∀b,(aj w0 T γ st w).foot b->S b)(hS2:∀o e r l fr b,st.ah o=some (.arr e r l fr)->blk (γ o)=some b->S b):∀(c:Cell)(v:Value),aK (aj w0 T γ st w) c v->aK ⟨w,w.heap.size,S,γ0,λ_=>none⟩ (c.view st) v
 |.int _ _,_,H|.bool _,_,H|.str _,_,H|.nil,_,H|.junk,_,H=>H
 |.sl e r l fr,v,H=>dW.mono (λb hb=>⟨⟨⟨hb.1.1,λ_=>hS1 b hb.1,(λ_ _ ho=>by cases ho)⟩,(λe=>by cases e)⟩,rfl⟩) (.sl e r) v l H
 |.ref o,v,⟨⟨e,r,l,fr,hx⟩,hv,_⟩=>by
  have hx':st.ah o=some (.arr e r l fr):=hx;simp only[Cell.view,hx'];rw[hv];exact bD.reads (X:=aj w0 T γ st w) (e:=e) (l:=l) (fr:=fr) (h.ah o _ hx') (λb hb=>⟨⟨hb.1.1,λ_=>hS1 b hb.1,(λ_ _ ho=>by cases ho)⟩,(λe=>by cases e)⟩)
   (λb hb=>⟨⟨(h.lt o _ b hx' hb).1,λ_=>hS2 o e r l fr b hx' hb,(λ_ _ ho=>by cases ho)⟩,(λe=>by cases e)⟩)
theorem Cells.zZ(h:Rel w0 M T γ st a w){γ0:Nat->Value}{S:Nat->Prop}(hS1:∀b,(aj w0 T γ st w).foot b->S b)(hS2:∀o e r l fr b,st.ah o=some (.arr e r l fr)->blk (γ o)=some b->S b):∀(cs:List Cell)(vs:List Value),ai (aj w0 T γ st w) cs vs->ai ⟨w,w.heap.size,S,γ0,λ_=>none⟩ (cs.map (Cell.view st)) vs
 |[],[],H=>H
 |c::cs,v::vs,⟨h1,h2⟩=>⟨Cell.zZ h hS1 hS2 c v h1,Cells.zZ h hS1 hS2 cs vs h2⟩
 |[],_::_,H|_::_,[],H=>by cases H
theorem SV.zZ(h:Rel w0 M T γ st a w){γ0:Nat->Value}{S:Nat->Prop}(hS1:∀b,(aj w0 T γ st w).foot b->S b)(hS2:∀o e r l fr b,st.ah o=some (.arr e r l fr)->blk (γ o)=some b->S b):∀(c:SV)(v:Value),dw (aj w0 T γ st w) c v->dw ⟨w,w.heap.size,S,γ0,λ_=>none⟩ (c.view st) v
 |.one c,v,H=>Cell.zZ h hS1 hS2 c v H
 |.agg cs,_,⟨vs,hv,H⟩=>⟨vs,hv,Cells.zZ h hS1 hS2 cs _ H⟩
theorem aey(h:Rel w0 M T γ st a w){γ0:Nat->Value}{S:Nat->Prop}(hS1:∀b,(aj w0 T γ st w).foot b->S b)(hS2:∀o e r l fr b,st.ah o=some (.arr e r l fr)->blk (γ o)=some b->S b){cs:List Cell}{b:Nat}(H:fG (aj w0 T γ st w) cs b):fG ⟨w,w.heap.size,S,γ0,λ_=>none⟩ (cs.map (Cell.view st)) b:=by obtain⟨arr,t,fz,hb,hh,hr⟩:=H;exact⟨arr,t,fz,⟨hb.1,λ_=>hS1 b hb,(λ_ _ ho=>by cases ho)⟩,hh,Cells.zZ h hS1 hS2 cs _ hr⟩
theorem aez(h:Rel w0 M T γ st a w){γ0:Nat->Value}{S:Nat->Prop}(hS1:∀b,(aj w0 T γ st w).foot b->S b)(hS2:∀o e r l fr b,st.ah o=some (.arr e r l fr)->blk (γ o)=some b->S b):∀(l:List (List Cell))(us:List Value),dS (aj w0 T γ st w) l us->dS ⟨w,w.heap.size,S,γ0,λ_=>none⟩ (l.map (List.map (Cell.view st))) us
 |[],[],H=>H
 |cs::l,u::us,⟨⟨b,hu,hk⟩,h2⟩=>⟨⟨b,hu,aey h hS1 hS2 hk⟩,aez h hS1 hS2 l us h2⟩
 |[],_::_,H|_::_,[],H=>by cases H
def lT(X:V):List AV->List Value->Prop
 |[],[]=>True
 |x::xs,v::vs=>aQ X x v/\lT X xs vs
 |_,_=>False
theorem EM(h:Rel w0 M T γ st a w){γ0:Nat->Value}{S:Nat->Prop}(hS1:∀b,(aj w0 T γ st w).foot b->S b)(hS2:∀o e r l fr b,st.ah o=some (.arr e r l fr)->blk (γ o)=some b->S b):∀(xs:List AV)(us:List Value)(vs:List Arg),mG st xs=some vs->lT (aj w0 T γ st w) xs us->lS ⟨w,w.heap.size,S,γ0,λ_=>none⟩ vs us
 |[],[],vs,hv,_=>by cases hv;trivial
 |[],_::_,_,_,H=>H.elim
 |_::_,[],_,_,H=>H.elim
 |x::xs,u::us,vs,hv,⟨hx,hxs⟩=>by
  unfold mG at hv;split at hv
  .next v ws hu=>
   split at hv
   .cases hv;exact⟨SV.zZ h hS1 hS2 v _ hx,EM h hS1 hS2 xs us ws hu hxs⟩
   .cases hv
  .next cs off ws hu=>
   split at hv
   .next hok=>cases hv;rw[as1]at hok;have h0:=asX hok.1;subst h0;obtain⟨b,hb,hk⟩:=hx;exact⟨⟨b,hb,aey h hS1 hS2 hk⟩,EM h hS1 hS2 xs us ws hu hxs⟩
   .cases hv
  .next f caps ws hu=>
   split at hv
   .cases hv;obtain⟨ks,hb,hk⟩:=hx;exact⟨⟨ks,hb,aez h hS1 hS2 caps _ hk⟩,EM h hS1 hS2 xs us ws hu hxs⟩
   .cases hv
  .cases hv
theorem Cell.qL(_h:Rel w0 M T γ st a w){γ0:Nat->Value}:∀(c:Cell)(v:Value),c.refs=[]->aK (aj w0 T γ st w) c v->aK ⟨w,w.heap.size,(aj w0 T γ st w).foot,γ0,λ_=>none⟩ (c.view st) v
 |.int _ _,_,_,H|.bool _,_,_,H|.str _,_,_,H|.nil,_,_,H|.junk,_,_,H=>H
 |.sl e r l fr,v,_,H=>dW.mono (λb hb=>⟨⟨⟨hb.1.1,λ_=>hb.1,(λ_ _ ho=>by cases ho)⟩,(λe=>by cases e)⟩,rfl⟩) (.sl e r) v l H
 |.ref o,v,hr,_=>by cases hr
theorem Cells.qL(h:Rel w0 M T γ st a w){γ0:Nat->Value}:∀(cs:List Cell)(vs:List Value),cs.flatMap Cell.refs=[]->ai (aj w0 T γ st w) cs vs->ai ⟨w,w.heap.size,(aj w0 T γ st w).foot,γ0,λ_=>none⟩ (cs.map (Cell.view st)) vs
 |[],[],_,H=>H
 |c::cs,v::vs,hr,⟨h1,h2⟩=>by
  rw[atG,aty]at hr;exact⟨Cell.qL h c v hr.1 h1,Cells.qL h cs vs hr.2 h2⟩
 |[],_::_,_,H|_::_,[],_,H=>by cases H
theorem SV.qL(h:Rel w0 M T γ st a w){γ0:Nat->Value}:∀(c:SV)(v:Value),c.cells.flatMap Cell.refs=[]->dw (aj w0 T γ st w) c v->dw ⟨w,w.heap.size,(aj w0 T γ st w).foot,γ0,λ_=>none⟩ (c.view st) v
 |.one c,v,hr,H=>Cell.qL h c v (by grind [SV.cells]) H
 |.agg cs,_,hr,⟨vs,hv,H⟩=>⟨vs,hv,Cells.qL h cs _ hr H⟩
theorem aeA(h:Rel w0 M T γ st a w){γ0:Nat->Value}{cs:List Cell}{b:Nat}(hr0:cs.flatMap Cell.refs=[])(H:fG (aj w0 T γ st w) cs b):fG ⟨w,w.heap.size,(aj w0 T γ st w).foot,γ0,λ_=>none⟩ (cs.map (Cell.view st)) b:=by obtain⟨arr,t,fz,hb,hh,hr⟩:=H;exact⟨arr,t,fz,⟨hb.1,λ_=>hb,(λ_ _ ho=>by cases ho)⟩,hh,Cells.qL h cs _ hr0 hr⟩
theorem aeB(h:Rel w0 M T γ st a w){γ0:Nat->Value}:∀(l:List (List Cell))(us:List Value),(l.flatMap λcs=>cs.flatMap Cell.refs)=[]->dS (aj w0 T γ st w) l us->dS ⟨w,w.heap.size,(aj w0 T γ st w).foot,γ0,λ_=>none⟩ (l.map (List.map (Cell.view st))) us
 |[],[],_,H=>H
 |cs::l,u::us,hr,⟨⟨b,hu,hk⟩,h2⟩=>by
  rw[atG,aty]at hr;exact⟨⟨b,hu,aeA h hr.1 hk⟩,aeB h l us hr.2 h2⟩
 |[],_::_,_,H|_::_,[],_,H=>by cases H
theorem yE(h:Rel w0 M T γ st a w){γ0:Nat->Value}:∀(xs:List AV)(us:List Value)(vs:List Arg),mG st xs=some vs->rY xs=[]->lT (aj w0 T γ st w) xs us->lS ⟨w,w.heap.size,(aj w0 T γ st w).foot,γ0,λ_=>none⟩ vs us
 |[],[],vs,hv,_,_=>by cases hv;trivial
 |[],_::_,_,_,_,H=>H.elim
 |_::_,[],_,_,_,H=>H.elim
 |x::xs,u::us,vs,hv,hr,⟨hx,hxs⟩=>by
  unfold mG at hv;rw[rY,aty]at hr;split at hv
  .next v ws hu=>
   split at hv
   .cases hv;exact⟨SV.qL h v _ hr.1 hx,yE h xs us ws hu hr.2 hxs⟩
   .cases hv
  .next cs off ws hu=>
   split at hv
   .next hok=>cases hv;rw[as1]at hok;have h0:=asX hok.1;subst h0;obtain⟨b,hb,hk⟩:=hx;exact⟨⟨b,hb,aeA h hr.1 hk⟩,yE h xs us ws hu hr.2 hxs⟩
   .cases hv
  .next f caps ws hu=>
   split at hv
   .cases hv;obtain⟨ks,hb,hk⟩:=hx;exact⟨⟨ks,hb,aeB h caps _ hr.1 hk⟩,yE h xs us ws hu hr.2 hxs⟩
   .cases hv
  .cases hv
theorem EN(h:Rel w0 M T γ st a w){caps:List (List Cell)}{us:Array Value}(hk:dS (aj w0 T γ st w) caps us.toList):∀(xs:List Operand),
 lT (aj w0 T γ st w) (handed st xs caps) (xs.map a.eval++us.toList):=by
 have h0:∀(caps:List (List Cell))(us:List Value),dS (aj w0 T γ st w) caps us->lT (aj w0 T γ st w) (caps.map λcs=>.dA cs 0) us:=by
  intro caps
  induction caps with
  |nil=>intro us H;cases us with|nil=>trivial|cons _ _=>cases H
  |cons cs l ih=>
   intro us H;cases us with
   |nil=>cases H
   |cons u us=>exact⟨H.1,ih us H.2⟩
 intro xs
 induction xs with
 |nil=>exact h0 caps _ hk
 |cons x xs ih=>exact⟨gU h x,ih⟩
theorem lT.freeze(S:Nat->Bool)(h:Rel w0 M T γ st a w):∀(xs:List AV)(us:List Value),lT (aj w0 T γ st w) xs us->lT (aj w0 T γ (st.freeze S) w) (xs.map (AV.freeze st S)) us
 |[],[],H=>H
 |x::xs,u::us,⟨h1,h2⟩=>⟨aQ.freeze S h x u h1,lT.freeze S h xs us h2⟩
 |[],_::_,H|_::_,[],H=>by cases H
theorem Qn:∀(cs:List dX)(k:Nat),∀y∈(jJ k cs).2,∃e r l fr,y.2=.arr e r l fr
 |[],_,_,hy=>by cases hy
 |x::cs,k,y,hy=>by
  rcases atA.1 hy with hy|hy
  .cases x with
   |plain c=>cases hy
   |own e r l fr=>
    grind [dX.take]
  .exact Qn cs (k+1) y hy
theorem ah3(k:Nat)(x:Bool×List dX):∀y∈(rX k x).2,∃e r l fr,y.2=.arr e r l fr:=by
 have:=Qn x.2 k;unfold rX;split
 · grind
 · grind
 grind
theorem SE:∀(xs:List (Bool×List dX))(k:Nat),∀y∈(gQ k xs).2,∃e r l fr,y.2=.arr e r l fr
 |[],_,_,hy=>by cases hy
 |x::xs,k,y,hy=>by
  rcases atA.1 hy with hy|hy
  .exact ah3 k x y hy
  .exact SE xs _ y hy
theorem Out.agn(o:Out)(k:Nat)(hk:k%64=1){p:Nat}{cs:List Cell}(hl:look (o.take k).2 p=some (.var cs)):p%64=0:=by
 have hmem:=uG _ p _ hl
 grind [Out.take,SE]
theorem Rel.called(h:Rel w0 M T γ st a w){out:Out}{k:Nat}(hk:k%64=1){S:Nat->Prop}{vals:Nat->Value}{v:Value}(hf:iP st (out.take k).2=true)
 (hos:w'.os=w.os) (htape:w'.tape=w.tape) (hout:w'.output=w.output) (hsize:w.heap.size<=w'.heap.size) (hheap:∀b,b<w.heap.size->w'.heap[b]? =w.heap[b]?)
 (hS:out.made=true\/S=(aj w0 T γ st w).foot)
 (hr:aQ ⟨w',w.heap.size,S,vals,look (out.take k).2⟩ (out.take k).1 v)
 (ho:∀o x,look (out.take k).2 o=some x->bD ⟨w',w.heap.size,S,vals,look (out.take k).2⟩ o x/\∀b,blk (vals o)=some b->w.heap.size<=b/\b<w'.heap.size)
 (hsep:∀o x q y b,look (out.take k).2 o=some x->look (out.take k).2 q=some y->o≠q->blk (vals o)=some b->blk (vals q)≠some b):
 ∃γ',Rel w0 M T γ' (st.adds (out.take k).2) a w'/\aQ (aj w0 T γ' (st.adds (out.take k).2) w') (out.take k).1 v:=by
 let δ:=(out.take k).2
 let γ':Nat->Value:=λp=>match look δ p with|some _=>vals p|none=>γ p
 have xG:∀p,(st.adds δ).ah p=match look δ p with|some y=>some y|none=>st.ah p:=qK δ st
 have hγn:∀p x,look δ p=some x->γ' p=vals p:=λp x hl=>by grind
 have hγo:∀p x,st.ah p=some x->γ' p=γ p:=by
  grind [EL]
 have hA:∀p x,st.ah p=some x->(st.adds δ).ah p=some x:=by
  grind [EL]
 have hN:∀p x,(st.adds δ).ah p=some x->st.ah p=none->look δ p=some x:=by
  grind
 have le:∀S',(S'=λ_=>False)\/S'=(aj w0 T γ st w).foot->V.le ⟨w',w.heap.size,S',vals,look δ⟩ ⟨w',w0.heap.size,T,γ',(st.adds δ).ah⟩:=by
  intro S' hS';have harr:∀o x,look δ o=some x->(st.adds δ).ah o=some x:=by
   grind
  refine⟨h.grow,λb hb=>⟨⟨hb.1,λhlt=>?_,λo x hx=>?_⟩,rfl⟩,λo cs hl=>⟨⟨cs,harr o _ hl⟩,hγn o _ hl⟩,λo e r l fr hl=>⟨⟨l,fr,harr o _ hl⟩,hγn o _ hl⟩⟩
  .have hb1:=hb.2.1 (show b<w.heap.size from ati hlt h.grow);rcases hS' with rfl|rfl
   .exact hb1.elim
   .exact hb1.2.1 hlt
  .show blk (γ' o)≠some b;cases hl:look δ o with
   |some y=>rw[hγn o y hl];exact hb.2.2 o y hl
   |none=>
    have hx':(st.adds δ).ah o=some x:=hx;rw[xG,hl]at hx';rw[hγo o x hx'];intro hbb;have hlt:=(h.lt o x b hx' hbb).1;have hb1:=hb.2.1 hlt;rcases hS' with rfl|rfl
    .exact hb1
    .exact hb1.2.2 o x hx' hbb
 have main:∃S',((S'=λ_=>False)\/S'=(aj w0 T γ st w).foot)/\aQ ⟨w',w.heap.size,S',vals,look δ⟩ (out.take k).1 v/\∀o x,look δ o=some x->bD ⟨w',w.heap.size,S',vals,look δ⟩ o x:=by
  rcases hS with hm|hS
  .have hmk:=out.SC k hm;refine⟨λ_=>False,.inl rfl,(hmk ⟨w',w.heap.size,S,vals,look δ⟩ (λ_=>False) v).1 hr,λo x hl=>?_⟩;exact bD.made (λ_=>False) o x ((hmk ⟨w',w.heap.size,S,vals,look δ⟩ (λ_=>False) v).2 _ (uG _ _ _ hl)) (ho o _ hl).1
  grind
 obtain⟨S',hS',hr',ho'⟩:=main;have hle:=le S' hS';refine⟨γ',?_,aQ.mono hle _ _ hr'⟩;rw[Vq st δ];refine(h.grown (γ':=γ') (w':=w') (st.adds δ).ah hA hγo hos htape hout hsize hheap (λp x hp hn=>?_) (λp cs hp hn=>by
  have h0:=out.agn k hk (hN p _ hp hn);cases hT:T.N p with
  |none=>rfl
  |some v'=>have:=T.n48 p v' hT;omega) (λp x q y b hp hn hq hm hpq hb=>?_)).1
 · grind [bD.mono]
 grind
end Go.Fw
namespace Go.Fw
open Go
variable {P:Program} {w0:World} {M:Nat->Prop} {T:Ext} {γ γ':Nat->Value} {st:St} {a:Act} {w w':World} {Θ:gY} {Γ:je}
def mO(P:Program)(f:FuncId):Prop:=∀(args:Array Value)(w:World),(callFunc f args).run P w=.ok (.enter f args) w
def Yields(P:Program)(w0:World)(M:Nat->Prop)(T:Ext)(st:St)(a:Act)(w:World)(s:Sem Value)(v:AV)(δ:List (Nat×aB)):Prop:=
 ∃u w' γ',s.run P w=.ok u w'/\Rel w0 M T γ' (st.adds δ) a w'/\aQ (aj w0 T γ' (st.adds δ) w') v u
theorem Yields.same(h:Rel w0 M T γ st a w){s:Sem Value}{v:AV}{u:Value}(hr:s.run P w=.ok u w)(hv:aQ (aj w0 T γ st w) v u):Yields P w0 M T st a w s v []:=⟨u,w,γ,hr,h,hv⟩
theorem ah4(hΘ:∀t ti,Θ t=some ti->jS P t ti)(h:Rel w0 M T γ st a w){d:Nat}{t:TypeId}{x:Operand}{p:Prop}{v:AV}{δ:List (Nat×aB)}
 (hc:calm Θ Γ d st (.load t x)=some (p,v,δ)) (hp:p):Yields P w0 M T st a w (Instr.loadAt t (a.eval x)) v δ:=by
 simp only[calm]at hc;split at hc
 .next ti o off ht he=>
  split at hc
  .next cs ho=>
   split at hc
   .next s hs=>cases hc;obtain⟨u,hu,hr⟩:=KE hΘ h ht (x:=x) (v:=s) (.inl ⟨o,off,cs,he,ho,hs⟩);exact .same h hu hr
   .cases hc
  .cases hc
 .next ti o i off ht he=>
  split at hc
  .next e r l fr ho=>
   split at hc
   .next s hs=>cases hc;obtain⟨u,hu,hr⟩:=KE hΘ h ht (x:=x) (v:=s) (.inr (.inl ⟨o,i,off,e,r,l,fr,he,ho,hp,hs⟩));exact .same h hu hr
   .cases hc
  .cases hc
 .next ti r y off fr ht he=>
  split at hc
  .next s hs=>cases hc;obtain⟨u,hu,hr⟩:=KE hΘ h ht (x:=x) (v:=s) (.inr (.inr ⟨r,y,off,fr,he,hs⟩));exact .same h hu hr
  .cases hc
 .next ti cs off ht he=>
  split at hc
  .next s hs=>
   cases hc;have hx:=gU h x;rw[he]at hx;obtain⟨b,hv,arr,ty,fz,hf,hb,hr⟩:=hx;have hr':ai (aj w0 T γ st w) cs ((arr.toList.drop 0).take arr.size):=by grind [List.take_of_length_le]
   obtain⟨u,hu,hr2⟩:=Gt (P:=P) (hΘ t ti ht) (aj w0 T γ st w) hb hr' hs;refine .same h ?_ hr2
   grind
  .cases hc
 .cases hc
theorem XR(hΘ:∀t ti,Θ t=some ti->jS P t ti)(h:Rel w0 M T γ st a w){d:Nat}{s:TypeId}{x:Operand}{f:Nat}{p:Prop}{v:AV}{δ:List (Nat×aB)}
 (hc:calm Θ Γ d st (.fieldAddr s x f)=some (p,v,δ)):Yields P w0 M T st a w (Instr.fieldAt s (a.eval x) f) v δ:=by
 have hx:=gU h x;simp only[calm]at hc;split at hc
 .next ti hs=>
  split at hc
  .next fs hk=>
   split at hc
   .next k t hf=>
    split at hc
    .next te ht=>
     split at hc
     .cases hc
     .next o off he hne=>cases hc;rw[he]at hx;obtain⟨b,cs,ho,hγ,hv⟩:=hx;refine .same h (by rw[hv];exact Gu hΘ hs hk hf ht hne b off) ⟨b,cs,ho,hγ,rfl⟩
     .next o i off he hne=>
      cases hc;rw[he]at hx;obtain⟨b,n,cap,e,r,l,fr,ho,hγ,hv⟩:=hx;refine .same h (by rw[hv];exact Gu hΘ hs hk hf ht hne b _) ⟨b,n,cap,e,r,l,fr,ho,hγ,?_⟩
      grind
     .next r y off fr he hne=>
      cases hc;rw[he]at hx;obtain⟨b,base,cs,ty,fz,hv,hfo,hb,hr⟩:=hx;refine .same h (by rw[hv];exact Gu hΘ hs hk hf ht hne b _) ⟨b,base,cs,ty,fz,?_,hfo,hb,hr⟩
      grind
     .next cs off he hne=>cases hc;rw[he]at hx;obtain⟨b,hv,hkp⟩:=hx;exact .same h (by rw[hv];exact Gu hΘ hs hk hf ht hne b _) ⟨b,rfl,hkp⟩
     .cases hc
    .cases hc
   .cases hc
  .cases hc
 .cases hc
theorem XT(hΘ:∀t ti,Θ t=some ti->jS P t ti)(h:Rel w0 M T γ st a w){d:Nat}{t:TypeId}{x ix:Operand}{p:Prop}{v:AV}{δ:List (Nat×aB)}
 (hc:calm Θ Γ d st (.indexAddr t x ix)=some (p,v,δ)) (hp:p):Yields P w0 M T st a w (Instr.indexAt t (a.eval x) (a.eval ix)) v δ:=by
 have hx:=gU h x;simp only[calm]at hc;split at hc
 .next ti n ht hn=>
  obtain⟨k,hk,_⟩:=qY h hn;split at hc
  .next e hkind=>
   split at hc
   .next te e' r l fr he hev=>
    split at hc
    .next hbeq=>
     cases hc;have hr:=ak.eq_of_beq _ _ hbeq;rw[hev]at hx;obtain⟨b,off,cap,hv,hR⟩:=alT (X:=aj w0 T γ st w) (e:=e') hx (i:=n.toNat) (by omega);refine .same h (by rw[hv,hk];exact run_indexAt hΘ ht hkind he b off _ cap k n hp.1 hp.2) ?_
     grind
    .cases hc
   .next te o he hev=>
    split at hc
    .next e' r l fr ho=>
     split at hc
     .next hbeq=>
      cases hc;have hr:=ak.eq_of_beq _ _ hbeq;rw[hev]at hx;obtain⟨_,hv,_⟩:=hx;obtain⟨xs,⟨_,h2⟩,hpos,_⟩:=h.ah o _ ho;rcases h2 with⟨_,h4⟩|⟨g,cap,cur,h3,_⟩
      .omega
      .have h3':γ o=.slice (some ⟨g,0,none⟩) l.length cap:=h3;refine .same h (by rw[hv,hk];show(Instr.indexAt t (γ o) _).run P w=_;rw[h3'];exact run_indexAt hΘ ht hkind he g 0 _ cap k n hp.1 hp.2) ⟨g,l.length,cap,e',r,l,fr,ho,h3',?_⟩
       grind
     .cases hc
    .cases hc
   · grind
   .cases hc
  .cases hc
 .cases hc
theorem afn{t:TypeId}{ti:TI}(hT:jS P t ti)(hk:ti.kind=.str)(s:Bytes)(k:IntKind)(n:Int)(h0:0<=n)(h1:n<s.length):
 (Instr.index t (.string ⟨s.toArray⟩) (.int k n)).run P w=.ok (.int .u8 ((s.getD n.toNat 0).toNat:Int)) w:=by
 have hu:=hT.und;have hlt:n.toNat<s.length:=by omega
 have hg:(⟨s.toArray⟩:ByteArray)[n.toNat]? =some (s.getD n.toNat 0):=by
  have hsz:n.toNat<(⟨s.toArray⟩:ByteArray).size:=by grind [size_bytes]
  rw[getElem?_pos (⟨s.toArray⟩:ByteArray) n.toNat hsz];rw[atn,as5 hlt];rfl
 simp_all [Instr.index,asIntOf,ato]
theorem agp(hΘ:∀t ti,Θ t=some ti->jS P t ti)(h:Rel w0 M T γ st a w){d:Nat}{t:TypeId}{x ix:Operand}{p:Prop}{v:AV}{δ:List (Nat×aB)}
 (hc:calm Θ Γ d st (.index t x ix)=some (p,v,δ)) (hp:p):Yields P w0 M T st a w (Instr.index t (a.eval x) (a.eval ix)) v δ:=by
 simp only[calm]at hc;split at hc
 .next ti n s ht hn hev=>
  obtain⟨k,hk,_⟩:=qY h hn;split at hc
  .next hkind=>cases hc;obtain⟨hs,_⟩:a.eval x=.string ⟨s.toArray⟩/\s.length<=maxLen:=lN h hev;refine .same h (by grind [afn]) ⟨rfl,?_⟩;have:(s.getD n.toNat 0).toNat<256:=UInt8.toNat_lt _;have e1:IntKind.u8.min=0:=rfl;have e2:IntKind.u8.max=255:=rfl;omega
  .cases hc
 .cases hc
theorem agq(hΘ:∀t ti,Θ t=some ti->jS P t ti)(h:Rel w0 M T γ st a w){d:Nat}{s:TypeId}{x:Operand}{f:Nat}{p:Prop}{v:AV}{δ:List (Nat×aB)}
 (hc:calm Θ Γ d st (.field s x f)=some (p,v,δ)):Yields P w0 M T st a w (Instr.field s (a.eval x) f) v δ:=by
 have hx:=gU h x;simp only[calm]at hc;split at hc
 .next ti hs=>
  split at hc
  .next fs hk=>
   split at hc
   .next k t cs hf hev=>
    split at hc
    .next te ht=>
     split at hc
     .next sv hsv=>
      cases hc;rw[hev]at hx;obtain⟨vs,hv,hr⟩:=hx;have hu:=(hΘ s ti hs).und;rw[hk]at hu;obtain⟨yQ,hu,rfl,_⟩:=hu;rw[atU]at hf;cases hfl:yQ.toList[f]? with
      |none=>grind
      |some fl=>
       rw[hfl]at hf;obtain⟨rfl,rfl⟩:=hf;have acW:yQ[f]? =some fl:=by simpa using hfl
       have hT:=hΘ _ te ht;unfold jP at hsv;split at hsv
       .next hagg=>
        split at hsv
        .next hle=>
         cases hsv;refine .same h (u:=.agg (vs.extract fl.offset (fl.offset+te.cells.len))) ?_ ⟨_,rfl,?_⟩
         .rw[hv];simp[Instr.field,atx,ato hu w,acW,asAgg,part,hT.Sz,hagg,hT.run_sizeOf]
         simp_all [ai.take,ai.drop]
        .cases hsv
       .next hagg=>
        split at hsv
        .next c hcc=>
         cases hsv;obtain⟨u,hu2,hR⟩:=ai.get _ _ _ _ hr hcc;have hu3:vs[fl.offset]? =some u:=by simpa using hu2
         refine .same h (u:=u) ?_ hR;rw[hv];simp[Instr.field,atx,ato hu w,acW,asAgg,part,hT.Sz,hagg,hu3]
        .cases hsv
     .cases hc
    .cases hc
   .cases hc
  .cases hc
 .cases hc
theorem foldl_set(cs:List Value):∀(off k:Nat)(cells:Array Value),off+k+cs.length<=cells.size->
 ((cs.zipIdx k).foldl (λ(xs:Array Value)(p:Value×Nat)=>xs.setIfInBounds (off+p.2) p.1) cells).toList=cells.toList.take (off+k)++cs++cells.toList.drop (off+k+cs.length):=by
 induction cs with
 |nil=>simp_all
 |cons c cs ih=>
  intro off k cells hle;simp only[asY]at hle;rw[List.zipIdx_cons,List.foldl_cons,ih off (k+1) _ (by grind)];have hsz:cells.toList.length=cells.size:=atW;rw[Array.toList_setIfInBounds];generalize cells.toList=l at*;have h1:(l.set (off+k) c).take (off+(k+1))=l.take (off+k)++[c]:=by rw[show off+(k+1)=off+k+1 by omega,List.take_set,atO (by omega),auo _ _ (by grind)];rw[atv,auC (by omega),auT];rfl
  grind [List.drop_set_of_lt]
theorem OH{X:V}{cs ys:List Cell}{vs us:List Value}(off:Nat)(h1:ai X cs vs)(h2:ai X ys us):
 ai X (splice cs off ys) (vs.take off++us++vs.drop (off+us.length)):=by
 grind [splice,ai.length,ai.append,ai.take,ai.drop]
theorem agr(hΘ:∀t ti,Θ t=some ti->jS P t ti)(h:Rel w0 M T γ st a w){fs:List (Nat×TypeId)}{place:Nat->Option (Nat×Nat)}(hpl:∀i off t ti,fs[i]? =some (off,t)->Θ t=some ti->place i=some (off,ti.cells.len)):
 ∀(parts:List (Nat×Operand))(cs ds:List Cell)(cells:Array Value),ai (aj w0 T γ st w) cs cells.toList->F6 Θ st fs parts cs=some ds->
  ∃out,Instr.fill place cells (parts.map λx=>(x.1,a.eval x.2))=some out/\ai (aj w0 T γ st w) ds out.toList
 |[],cs,ds,cells,hr,hb=>by
  cases hb;exact⟨cells,rfl,hr⟩
 |(i,x)::r,cs,ds,cells,hr,hb=>by
  rw[F6]at hb;split at hb
  .next off t v hf hev=>
   split at hb
   .next ti ht=>
    split at hb
    .next hle=>
     simp only[as1]at hle;have h1:=asX hle.1;have h2:=atL hle.2;have hx:=gU h x;rw[hev]at hx;have hcells:=dw.cells v _ hx;have hlen:=ai.length _ _ hcells;have hlen2:=ai.length _ _ hr;have alU:ai (aj w0 T γ st w) (splice cs off v.cells) ((a.eval x).cells.zipIdx.foldl (λcs(c,j)=>cs.setIfInBounds (off+j) c) cells).toList:=by
      have hfold:((a.eval x).cells.zipIdx.foldl (λcs(c,j)=>cs.setIfInBounds (off+j) c) cells).toList=cells.toList.take off++(a.eval x).cells.toList++cells.toList.drop (off+(a.eval x).cells.toList.length):=by
       rw[← Array.foldl_toList,Array.toList_zipIdx]
       simp_all [foldl_set]
      grind [OH]
     obtain⟨out,ho,hR⟩:=agr hΘ h hpl r _ ds _ alU hb
     grind [Instr.fill]
    .cases hb
   .cases hb
  .cases hb
theorem ags(hΘ:∀t ti,Θ t=some ti->jS P t ti)(h:Rel w0 M T γ st a w){d:Nat}{t:TypeId}{parts:Array (Nat×Operand)}{p:Prop}{v:AV}{δ:List (Nat×aB)}
 (hc:calm Θ Γ d st (.build t parts)=some (p,v,δ)):Yields P w0 M T st a w (Instr.build t (parts.map λx=>(x.1,a.eval x.2))) v δ:=by
 simp only[calm]at hc;split at hc
 .next ti ht=>
  split at hc
  .next fs hk=>
   split at hc
   .next cs hb=>
    cases hc;have hT:=hΘ t ti ht;obtain⟨i,z,hi,hsz,hby,hz,hzv,_⟩:=hT.info;have hu:=hT.und;rw[hk]at hu;obtain⟨yQ,hu,hfs,hall⟩:=hu;have hz0:ai (aj w0 T γ st w) ti.cells.zeros z.cells.toList:=by grind [XQ]
    obtain⟨places,hpm,asl⟩:∃places,yQ.toList.mapM (λf=>(P.info? f.type).map λi=>(f.offset,i.size))=some places/\places=yQ.toList.map λf=>(f.offset,P.cellsOf f.type):=by
     refine⟨_,?_,rfl⟩;generalize yQ.toList=l at hall
     induction l with
     |nil=>rfl
     |cons f l ih=>
      cases hi:P.info? f.type with
      |none=>grind
      |some i=>
       grind [Program.cellsOf]
    have hpl:∀(i off:Nat)(t:TypeId)(ti:TI),fs[i]? =some (off,t)->Θ t=some ti->places[i]? =some (off,ti.cells.len):=by
     intro i off t ti hf ht;rw[hfs,atU]at hf;cases hfl:yQ.toList[i]? with
     |none=>grind
     |some fl=>
      have:=(hΘ _ ti ht).size
      grind [Program.cellsOf]
    obtain⟨out,ho,hR⟩:=agr hΘ h (place:=(places[·]?)) hpl parts.toList _ _ z.cells hz0 hb;refine .same h (u:=.agg out) ?_ ⟨out,rfl,hR⟩
    simp_all [run_build,Program.built]
   .cases hc
  .cases hc
 .cases hc
theorem Qo{t:TypeId}{ti:TI}(hT:jS P t ti):∃z,(zeroValue t).run P w=.ok z w/\z.cells.toList=ti.cells.mJ:=by
 obtain⟨i,z,hi,hsz,hby,hz,hzv,_⟩:=hT.info
 simp_all [zeroValue,typeInfo]
theorem ZT(w:World)(t:TypeId)(v:Value):(newVar t v).run P w=.ok ⟨w.heap.size,0,none⟩ (w.alloc (.cells v.cells t)):=by rfl
theorem agt(hΘ:∀t ti,Θ t=some ti->jS P t ti)(h:Rel w0 M T γ st a w){d:Nat}{t:TypeId}{p:Prop}{v:AV}{δ:List (Nat×aB)}
 (hc:calm Θ Γ d st (.alloc t)=some (p,v,δ)) (hf:iP st δ=true):Yields P w0 M T st a w (Instr.alloc t true (.tuple #[])) v δ:=by
 simp only[calm]at hc;split at hc
 .next ti ht=>
  cases hc;obtain⟨z,hz,hzv⟩:=Qo (w:=w) (hΘ t ti ht);have hn:st.ah (d*64)=none:=by simp_all [iP]
  obtain⟨h1,h2⟩:=h.agl (d*64) ti.cells.zeros hn (by omega) z.cells t (by grind [XQ]);refine⟨_,_,_,?_,h1,h2⟩
  simp_all [Instr.alloc,ZT]
 .cases hc
theorem ajg(h:Rel w0 M T γ st a w){d:Nat}{t:TypeId}{x:Operand}{p:Prop}{v:AV}{δ:List (Nat×aB)}
 (hc:calm Θ Γ d st (.box t x)=some (p,v,δ)) (hf:iP st δ=true):Yields P w0 M T st a w (Instr.box t (a.eval x)) v δ:=by
 have hx:=gU h x;simp only[calm]at hc;split at hc
 .next s hev=>
  cases hc;rw[hev]at hx;have hn:st.ah (d*64)=none:=by simp_all [iP]
  obtain⟨h1,h2⟩:=h.agl (d*64) s.cells hn (by omega) (a.eval x).cells t (dw.cells s _ hx);refine⟨_,_,_,?_,h1,h2⟩;simp[Instr.box,ZT]
 .cases hc
theorem WV(h:Rel w0 M T γ st a w)(r:ak)(fr:Bool):∀(parts:List (Nat×Operand))(k:Nat)(l:List r.den),CB st r k parts=some l->kK st parts=[]->(fr=true->lD st parts=true)->
 l.length=parts.length/\(parts.map λx=>(x.1,a.eval x.2))=((parts.map λx=>a.eval x.2).zipIdx k).map (λx=>(x.2,x.1))/\(∀v∈parts.map (λx=>a.eval x.2),v.cells.size=r.len)/\
 ∀i x,l[i]? =some x->aZ w.heap ((aj w0 T γ st w).bP fr) r ((((parts.map λx=>a.eval x.2).flatMap λv=>v.cells.toList).drop (i*r.len)).take r.len) x
 |[],k,l,hr,_,_=>by
  simp_all [CB]
 |(i,x)::ps,k,l,hr,hn,hf=>by
  rw[CB]at hr;rw[kK,aty]at hn;split at hr
  .next v l' hb hev hl'=>
   split at hr
   .next y hy=>
    cases hr;have hx:=gU h x;rw[hev]at hx hn;have hcells:=dw.cells v _ hx;have hfr:fr=true->v.cells.all (Cell.fresh st)=true/\lD st ps=true:=by
     grind [lD]
    have hR:=Jk h fr r v.cells _ y hcells hy hn.1 (λe=>(hfr e).1);have hlen:=aZ.length _ _ _ hR;obtain⟨h1,h2,h3,h4⟩:=WV h r fr ps (k+1) l' hl' hn.2 (λe=>(hfr e).2);refine⟨by simp[h1],?_,?_,λj z hj=>?_⟩
    · simp_all
    · grind
    .cases j with
     |zero=>
      grind
     |succ j=>
      grind [Nat.add_mul,List.drop_drop,List.drop_left]
   .cases hr
  .cases hr
theorem VI(hΘ:∀t ti,Θ t=some ti->jS P t ti)(h:Rel w0 M T γ st a w){d:Nat}{t:TypeId}{len:Nat}{parts:Array (Nat×Operand)}{p:Prop}{v:AV}{δ:List (Nat×aB)}
 (hc:calm Θ Γ d st (.buildSlice t len parts)=some (p,v,δ)) (hf:iP st δ=true):Yields P w0 M T st a w (Instr.buildSlice t len (parts.map λx=>(x.1,a.eval x.2))) v δ:=by
 simp only[calm]at hc;split at hc
 .next ti ht=>
  split at hc
  .next e hk=>
   split at hc
   .next te he=>
    split at hc
    .next l hb hrefs hrows=>
     cases hc;simp only[as1]at hb;have hlen:len=parts.size:=asX hb.1.1;have hpos:0<te.cells.len:=atL hb.1.2;have hsm:len*te.cells.len<=16777216:=atL hb.2;have hn:st.ah (d*64+1)=none:=by simp_all [iP]
     obtain⟨h1,h2,h3,h4⟩:=WV h te.cells (lD st parts.toList) parts.toList 0 l hrows hrefs (λe=>e);have hT:=hΘ e te he;obtain⟨i,z,hi,hsz,hby,hz,hzv,_⟩:=hT.info;have hu:=(hΘ t ti ht).und;rw[hk]at hu;have hsum:∀(vs:List Value),(∀v∈vs,v.cells.size=te.cells.len)->(vs.flatMap λv=>v.cells.toList).length=vs.length*te.cells.len:=by
      intro vs hvs
      induction vs with
      |nil=>simp
      |cons v vs ih=>
       grind
     have hl:l.length=len:=by grind
     by_cases hzero:len=0
     .have hl0:l=[]:=atH.1 (by omega);obtain⟨g1,g2⟩:=h.XP (d*64+1) e te.cells l (lD st parts.toList) hn #[] 0 hpos (by omega) (atl _) (by simp) (λi x hx=>by grind);refine⟨_,_,_,?_,g1,g2⟩;have hp0:parts=#[]:=Array.size_eq_zero_iff.1 (by omega);subst hp0 hzero;subst hl0;have e0:Array.map (λ_=>(default:Value)) (Array.range 0)=#[]:=by simp
      simp[Instr.buildSlice,atx,ato hu.1 w,hT.run_sizeOf,Instr.fill,newRow,newObj,Sem.run,e0]
     .have ZU:=Great.fill_whole hpos (parts.toList.map λx=>a.eval x.2) ((Array.range (len*i.size)).map (z.cells[· %z.cells.size]!)) h3 (by grind);obtain⟨g1,g2⟩:=h.XP (d*64+1) e te.cells l (lD st parts.toList) hn ((parts.toList.map λx=>a.eval x.2).flatMap λv=>v.cells.toList).toArray len hpos (by omega)
       (by unfold maxLen;have:len*1<=len*te.cells.len:=auY _ hpos;omega) (by grind) (λi x hx=>h4 i x hx)
      rw[hl]at g1 g2;refine⟨_,_,_,?_,g1,g2⟩;refine run_buildSlice w t e len _ _ i z hu.1 hi hz (by rw[hsz];omega) (by rw[hsz];have:0<len*te.cells.len:=Nat.mul_pos (by omega) hpos;omega) ?_
      simp_all
    .cases hc
   .cases hc
  .cases hc
 .cases hc
theorem zG:∀(r:ak),r.mJ.length=r.len
 |.nil=>rfl
 |.cons _ r=>by simp[ak.mJ,ak.len,zG r]
theorem XU(hΘ:∀t ti,Θ t=some ti->jS P t ti)(h:Rel w0 M T γ st a w){d:Nat}{t:TypeId}{x y:Operand}{p:Prop}{v:AV}{δ:List (Nat×aB)}
 (hc:calm Θ Γ d st (.makeSlice t x y)=some (p,v,δ)) (hp:p) (hf:iP st δ=true):Yields P w0 M T st a w (Instr.makeSlice t (a.eval x) (a.eval y)) v δ:=by
 simp only[calm]at hc;split at hc
 .next ti n c ht hn hcc=>
  obtain⟨k1,hk1,_⟩:=qY h hn;obtain⟨k2,hk2,_⟩:=qY h hcc;split at hc
  .next e hk=>
   split at hc
   .next te he=>
    split at hc
    .next OI=>
     cases hc;have hpos:0<te.cells.len:=atL OI;have hT:=hΘ e te he;obtain⟨i,z,hi,hsz,hby,hz,hzv,_⟩:=hT.info;have hu:=(hΘ t ti ht).und;rw[hk]at hu;have hno:st.ah (d*64+1)=none:=by simp_all [iP]
     obtain⟨p1,p2,p3⟩:=hp;unfold big at p3;have hzs:z.cells.size=te.cells.len:=by grind [zG]
     have hcells:∀j,j<c.toNat*te.cells.len->(madeCells z.cells (c.toNat*te.cells.len))[j]? =te.cells.mJ[j%te.cells.len]? :=by
      grind [madeCells,Nat.mod_lt]
     obtain⟨g1,g2⟩:=h.XP (d*64+1) e te.cells (List.replicate n.toNat te.cells.dflt) true hno (madeCells z.cells (c.toNat*te.cells.len)) c.toNat hpos (by simp;omega) (by grind [maxLen])
      (size_madeCells _ _) (λj x hx=>by
        have hlt:j<n.toNat:=by
         grind
        have hmul:j*te.cells.len+te.cells.len<=c.toNat*te.cells.len:=by
         have:(j+1)*te.cells.len<=c.toNat*te.cells.len:=atf _ (by omega)
         grind
        have:(((madeCells z.cells (c.toNat*te.cells.len)).toList.drop (j*te.cells.len)).take te.cells.len)=te.cells.mJ:=by
         apply aua
         grind [Nat.add_mul_mod_self_right,Nat.mod_eq_of_lt]
        grind [SB])
     rw[aup]at g1 g2;refine⟨_,_,_,?_,g1,g2⟩;rw[hk1,hk2,← hsz];have hbb:=hT.small;refine run_make w t e i z hu.1 hi hz k1 k2 n c p1 p2 ?_ (by omega);rw[hby];have:(te.bytes:Int)*c<=4096*4294967296:=by have h1:(te.bytes:Int)*c<=4096*c:=auk (by omega) (by omega);omega
     omega
    .cases hc
   .cases hc
  .cases hc
 .cases hc
theorem foldl_push(ns:List Int):∀(b:ByteArray),(ns.foldl (λr n=>r.push (UInt8.ofNat n.toNat)) b)=⟨(b.data.toList++ns.map λn=>UInt8.ofNat n.toNat).toArray⟩:=by
 induction ns with
 |nil=>simp
 |cons n ns ih=>
  simp_all
theorem ajh(l:List (ak.cons (.int .u8) .nil).den):byteRow l=(l.map acU).map λn=>UInt8.ofNat (Int.toNat n):=by
 simp_all [byteRow]
theorem afo{F:Nat->Prop}{e:TypeId}{v:Value}{l:List (ak.cons (.int .u8) .nil).den}(h:dW w.heap F (.sl e (.cons (.int .u8) .nil)) v l):
 (Conv.bytesToString v).run P w=.ok (.string ⟨(byteRow l).toArray⟩) w/\(byteRow l).length<=maxLen:=by
 refine⟨?_,by unfold byteRow;rw[atb];exact h.1⟩;rcases h.2 with⟨hl,a,c,hv⟩|⟨b,off,cap,cs,t,fz,hv,_,_,hb,hx⟩
 .subst hl;rw[hv];cases a with
  |none=>rfl
  |some a=>rfl
 .rw[hv];rw[run_bytesToString w ⟨b,off,none⟩ l.length cap (l.map acU) ?_,foldl_push,ajh]
  .rfl
  .have hcells:∀j u,((l.map acU).map (Value.int .u8))[j]? =some u->w.cell? ((⟨b,off,none⟩:Addr).add j)=some u:=by
    intro j u hj;rw[aud,atU]at hj;cases hlj:l[j]? with
    |none=>grind
    |some x=>
     have hr:=hx j x hlj;obtain⟨n,un⟩:=x;obtain⟨v',vs',e1,h1,h2⟩:=hr;have e2:v'=.int .u8 (acU (n,un)):=h1.1;rw[addr_add];simp only[World.cell?,hb];have e3:(cs.toList.drop (off+j*1)).head?=some v':=by
      have e4:ak.len (.cons (.int .u8) .nil)=1:=rfl;cases hd:cs.toList.drop (off+j*1)with
      |nil=>grind
      |cons y ys=>grind
     simp_all
   grind [run_loadCells_list,List.length_map]
theorem vV(hΘ:∀t ti,Θ t=some ti->jS P t ti){t:TypeId}{ti:TI}(ht:Θ t=some ti){d:TypeDesc}(hd:ti.cells.desc=some d):ti.agg=true\/P.underlying t=some d:=by
 have hu:=(hΘ t ti ht).und;unfold TI.agg;split at hu
 · grind
 .next hk=>rw[hu.2]at hd;cases hd;exact .inr hu.1
 .next e hk=>obtain⟨hu,r,hr⟩:=hu;rw[hr]at hd;cases hd;exact .inr hu
 grind
theorem agu(h:Rel w0 M T γ st a w){src dst e:TypeId}(us:P.underlying src=some .string)(ud:P.underlying dst=some (.slice e))(ue:P.underlying e=some (.int .u8))(s:Bytes)(hl:s.length<=maxLen):
 Yields P w0 M T st a w (convert src dst (.string ⟨s.toArray⟩)) (.sv (.one (.sl e (.cons (.int .u8) .nil) (CG s) true))) []:=by
 have hrun:=run_bytes_of_string (P:=P) w src dst e ⟨s.toArray⟩ us ud ue
 let o:Obj:=.cells (bytesRow ⟨s.toArray⟩ (grownCap w (⟨s.toArray⟩:ByteArray).size 0 e)) e ((bytesRow ⟨s.toArray⟩ (grownCap w (⟨s.toArray⟩:ByteArray).size 0 e)).size,(bytesRow ⟨s.toArray⟩ (grownCap w (⟨s.toArray⟩:ByteArray).size 0 e)).size+1)
 have hsz:(w.drew.alloc o).heap.size=w.heap.size+1:=by
  simp_all
 have hg:=h.grown (γ':=γ) (w':=w.drew.alloc o) st.ah (λ_ _ h=>h) (λ_ _ _=>rfl) rfl rfl rfl (by omega) (λb hb=>heap_alloc_old w.drew o hb)
  (λp x h1 h2=>by grind) (λp cs h1 h2=>by grind) (λp x q y b h1 h2=>by grind)
 refine⟨_,_,γ,hrun,hg.1,?_⟩;have hlen:(CG s).length=s.length:=by grind [CG]
 refine⟨by omega,.inr ⟨w.heap.size,0,grownCap w (⟨s.toArray⟩:ByteArray).size 0 e,_,e,_,?_,?_,⟨⟨?_,?_,?_⟩,?_⟩,Dy w.drew o,?_⟩⟩
 .rw[hlen,size_bytes]
 · grind [grownCap_ge,size_bytes]
 · grind
 .intro hlt;have:w.heap.size<w0.heap.size:=hlt;have:=h.grow;omega
 .intro p x hp hb;have:=(h.lt p x _ hp hb).1;omega
 .intro _;refine⟨h.grow,λcs t fz hc k hk hm=>?_⟩;cases (show some (Obj.cells cs t fz)=some (.cells _ _ _)from hc.symm.trans (Dy w.drew o));exact absurd hm.1 (by omega)
 .intro i x hi;have hlt:i<s.length:=by grind
  unfold CG at hi;rw[atU,as5 hlt]at hi;cases hi;refine⟨.int .u8 (s[i].toNat:Int),[],?_,⟨rfl,?_⟩,rfl⟩
  .show List.take 1 (List.drop (0+i*1) (bytesRow ⟨s.toArray⟩ _).toList)=_
   grind [bytesRow,List.drop_eq_getElem_cons]
  .have:=UInt8.toNat_lt s[i];have e1:IntKind.u8.min=0:=rfl;have e2:IntKind.u8.max=255:=rfl;omega
theorem acX(hΘ:∀t ti,Θ t=some ti->jS P t ti)(h:Rel w0 M T γ st a w){d:Nat}{src dst:TypeId}{x:Operand}{p:Prop}{v:AV}{δ:List (Nat×aB)}
 (hc:calm Θ Γ d st (.convert src dst x)=some (p,v,δ)):Yields P w0 M T st a w (convert src dst (a.eval x)) v δ:=by
 simp only[calm]at hc;split at hc
 .next ts td c hs hd hev=>
  have hx:=lN h hev;split at hc
  .cases hc
  .next hagg=>
   simp only[auD,not_or,Bool.not_eq_true]at hagg;split at hc
   .next k0 k l n e1 e2=>
    cases hc;have us:=(vV hΘ hs (d:=.int k0) (by rw[e1];rfl)).resolve_left (by grind);have ud:=(vV hΘ hd (d:=.int k) (by rw[e2];rfl)).resolve_left (by grind);obtain⟨hv,_⟩:=hx;refine .same h (u:=.int k (k.wrap n)) ?_ ⟨rfl,EJ _ _⟩
    simp_all [convert,ato,Conv.intToInt]
   .next s e1 e2=>
    cases hc;have us:=(vV hΘ hs (d:=.string) (by rw[e1];rfl)).resolve_left (by grind);have ud:=(vV hΘ hd (d:=.string) (by rw[e2];rfl)).resolve_left (by grind);obtain⟨hv,hl⟩:=hx;refine .same h (u:=.string ⟨s.toArray⟩) ?_ ⟨rfl,hl⟩
    simp_all [convert,ato]
   .next e s e1 e2=>
    split at hc
    .next te he=>
     split at hc
     .next e3 e4=>
      cases hc;have us:=(vV hΘ hs (d:=.string) (by rw[e1];rfl)).resolve_left (by grind);have ud:=(vV hΘ hd (d:=.slice e) (by rw[e2];rfl)).resolve_left (by grind);have ue:=(vV hΘ he (d:=.int .u8) (by rw[e3];rfl)).resolve_left (by rw[e4];simp);obtain⟨hv,hl⟩:=hx
      grind [agu]
     .cases hc
    .cases hc
   .next c' e e1 e2=>
    split at hc
    .next l te hl he=>
     split at hc
     .next e3 e4=>
      cases hc;have us:=(vV hΘ hs (d:=.slice e) (by rw[e1];rfl)).resolve_left (by grind);have ud:=(vV hΘ hd (d:=.string) (by rw[e2];rfl)).resolve_left (by grind);have ue:=(vV hΘ he (d:=.int .u8) (by rw[e3];rfl)).resolve_left (by rw[e4];simp);have hg:=Cell.Vo h _ _ _ _ hx hl;obtain⟨hr,hlen⟩:=afo (P:=P) hg;refine .same h (u:=.string ⟨(byteRow l).toArray⟩) ?_ ⟨rfl,hlen⟩;have hg:EF _ _ _ _ (a.eval x) l:=hg;obtain⟨ad,n,cp,hv⟩:∃ad n cp,a.eval x=.slice ad n cp:=by rcases hg.2 with⟨_,ad,cp,hv⟩|⟨b,off,cap,_,_,_,hv,_⟩<;>exact⟨_,_,_,hv⟩
      simp_all [convert,ato]
     .cases hc
    .cases hc
   .cases hc
 .cases hc
theorem agv(hΘ:∀t ti,Θ t=some ti->jS P t ti)(h:Rel w0 M T γ st a w){d:Nat}{op:BinOp}{t t':TypeId}{x y:Operand}{p:Prop}{v:AV}{δ:List (Nat×aB)}
 (hc:calm Θ Γ d st (.binOp op t x y t')=some (p,v,δ)) (hp:p):Yields P w0 M T st a w (do eqGuard op t x y (a.eval x) (a.eval y);binOp op t (a.eval x) (a.eval y)) v δ:=by
 simp only[calm]at hc;split at hc
 .next c1 c2 e1 e2=>
  split at hc
  .next hb=>
   split at hc
   .next q c hq=>
    cases hc;obtain⟨r,hr,hR⟩:=ah1 (P:=P) (w:=w) (t:=t) (s:=x) (u:=y) (aj w0 T γ st w) hq hp (lN h e1) (lN h e2) (λb1 b2 h1 h2=>by
     subst h1 h2;simp only[aiw]at hb;split at hb
     .next ti ht=>
      split at hb
      .next hcells=>exact(vV hΘ ht (d:=.bool) (by rw[hcells];rfl)).resolve_left (by grind)
      .cases hb
     .cases hb)
    exact .same h hr hR
   .cases hc
  .cases hc
 .next a1 a2 e1 e2=>
  split at hc
  .next ti ht=>
   split at hc
   .next b hcmp heq=>
    split at hc
    .next hlen=>cases hc;have h1:=gU h x;have h2:=gU h y;rw[e1]at h1;rw[e2]at h2;obtain⟨vs,hv,hr1⟩:=h1;obtain⟨us,hu,hr2⟩:=h2;have:=(hΘ t ti ht).cmp hcmp w x y (aj w0 T γ st w) a1 a2 vs us b hlen hr1 hr2 heq;rw[hv,hu];exact .same h this.1 rfl
    .cases hc
   .next b hcmp heq=>
    split at hc
    .next hlen=>cases hc;have h1:=gU h x;have h2:=gU h y;rw[e1]at h1;rw[e2]at h2;obtain⟨vs,hv,hr1⟩:=h1;obtain⟨us,hu,hr2⟩:=h2;have:=(hΘ t ti ht).cmp hcmp w x y (aj w0 T γ st w) a1 a2 vs us b hlen hr1 hr2 heq;rw[hv,hu];exact .same h this.2 rfl
    .cases hc
   .cases hc
  .cases hc
 .cases hc
theorem SG(h:Rel w0 M T γ st a w){x:Operand}{o lo n:Nat}(hev:st.ev x=.win o lo n):∃b m cap e r l fr,st.ah o=some (.arr e r l fr)/\γ o=.slice (some ⟨b,0,none⟩) m cap/\
 (∃q,(q=lo*r.len\/cap<=lo)/\a.eval x=.slice (some ⟨b,q,none⟩) n (cap-lo)/\lo+n<=cap):=by
 have hx:=gU h x;rw[hev]at hx;exact hx
theorem aiz(h:Rel w0 M T γ st a w){o:Nat}{e:TypeId}{r:ak}{l:List r.den}{fr:Bool}(ho:st.ah o=some (.arr e r l fr)){b m cap:Nat}(hγ:γ o=.slice (some ⟨b,0,none⟩) m cap):cap<=maxLen/\l.length<=cap:=by
 obtain⟨xs,⟨_,h2⟩,_⟩:=h.ah o _ ho
 grind
theorem agw(hΘ:∀t ti,Θ t=some ti->jS P t ti)(h:Rel w0 M T γ st a w){d:Nat}{t:TypeId}{x:Operand}{lo hi:Option Operand}{p:Prop}{v:AV}{δ:List (Nat×aB)}
 (hc:calm Θ Γ d st (.slice t x lo hi none)=some (p,v,δ)) (hp:p):Yields P w0 M T st a w (Instr.sliceAt t (a.eval x) (lo.map a.eval) (hi.map a.eval) none) v δ:=by
 simp only[calm]at hc;split at hc
 .next ti s ht hev=>
  obtain⟨hv,hl⟩:a.eval x=.string ⟨s.toArray⟩/\s.length<=maxLen:=lN h hev;split at hc
  .next q i j hk hb=>
   cases hc;obtain⟨hr,h1,h2⟩:=qf (P:=P) h (as7 _) hb hp false;have hu:=(hΘ t ti ht).und;rw[hk]at hu;refine .same h (u:=.string ⟨((s.take j).drop i).toArray⟩) ?_ ⟨rfl,by simp;omega⟩
   simp_all [Instr.sliceAt,Instr.slice,ato,size_bytes,afm]
  .cases hc
 .next ti e r l fr ht hev=>
  have hx:=lN h hev;split at hc
  .next f q i j hk hb=>
   split at hc
   .next te he=>
    split at hc
    .next hbeq=>
     cases hc;obtain⟨ad,c,hv,hl⟩:=agk hx;have hlc:l.length<=c:=by
      have hx':EF _ _ _ _ (a.eval x) l:=hx;rcases hx'.2 with⟨hl0,_⟩|⟨b,off,cap,cs,t,fz,hv',hcap,_⟩
      · grind
      grind
     obtain⟨hr,h1,h2⟩:=qf (P:=P) h hlc hb hp true;have hu:=(hΘ t ti ht).und;rw[hk]at hu;have hsz:te.cells.len=r.len:=by grind [ak.eq_of_beq]
     rw[hv]at hx;refine .same h ?_ (anC hx h1 h2);rw[hv];simp[Instr.sliceAt,Instr.slice,atx,ato hu.1 w,hr,(hΘ f te he).run_sizeOf,hsz]
    .cases hc
   .cases hc
  .cases hc
 .next ti ht hev=>
  have hv:a.eval x=.slice none 0 0:=lN h hev;split at hc
  .next f q i j hk hb=>
   split at hc
   .next te he=>
    cases hc;obtain⟨hr,h1,h2⟩:=qf (P:=P) h (as7 0) hb hp true;have hj:j=0:=by omega
    have hi0:i=0:=by omega
    subst hj hi0;have hu:=(hΘ t ti ht).und;rw[hk]at hu;refine .same h (u:=.slice none 0 0) ?_ rfl;rw[hv];simp[Instr.sliceAt,Instr.slice,atx,ato hu.1 w,hr,(hΘ f te he).run_sizeOf]
   .cases hc
  .cases hc
 .next ti o Ec n0 ht hev=>
  split at hc
  .next f e r l fr hk ho=>
   split at hc
   .next te q i j he hb=>
    split at hc
    .next hbeq=>
     cases hc;obtain⟨g,m,cap,e',r',l',fr',hx,hγ,⟨p0,hp0,hv,hle⟩⟩:=SG h hev;rw[ho]at hx;cases hx;obtain⟨hcap,hlc⟩:=aiz h ho hγ;have hsz:te.cells.len=r.len:=by grind [ak.eq_of_beq]
     have hu:=(hΘ t ti ht).und;rw[hk]at hu;have key:(Instr.sliceBounds true n0 (cap-Ec) (lo.map a.eval) (hi.map a.eval) none).run P w=.ok (i,j,cap-Ec) w/\i<=j/\j<=cap-Ec:=by
      unfold Sj at hb;split at hb
      · grind [qf]
      .next hh=>obtain⟨hr,h1,h2⟩:=qf (P:=P) (cap:=cap-Ec) h (show l.length-Ec<=cap-Ec by omega) hb hp true;exact⟨hr,h1,by omega⟩
     obtain⟨hr,h1,h2⟩:=key;refine .same h (u:=.slice (if cap-Ec=i then some ⟨g,p0,none⟩else(some (⟨g,p0,none⟩:Addr)).map (·.add (i*r.len))) (j-i) (cap-Ec-i)) ?_ ?_
     .rw[hv];simp[Instr.sliceAt,Instr.slice,atx,ato hu.1 w,hr,(hΘ f te he).run_sizeOf,hsz]
     .refine⟨g,m,cap,e,r,l,fr,ho,hγ,?_⟩
      grind [Addr.add]
    .cases hc
   .cases hc
  .cases hc
 .cases hc
theorem afp(hΘ:∀t ti,Θ t=some ti->jS P t ti)(h:Rel w0 M T γ st a w){d:Nat}{t:TypeId}{x lo hi mx:Operand}{p:Prop}{v:AV}{δ:List (Nat×aB)}
 (hc:calm Θ Γ d st (.slice t x (some lo) (some hi) (some mx))=some (p,v,δ)) (hp:p):Yields P w0 M T st a w (Instr.sliceAt t (a.eval x) (some (a.eval lo)) (some (a.eval hi)) (some (a.eval mx))) v δ:=by
 simp only[calm]at hc;split at hc
 .next ti o ht hev=>
  split at hc
  .next f e r l fr hk ho=>
   split at hc
   .next te n1 n2 n3 he h1 h2 h3=>
    cases hc;obtain⟨k1,e1,_⟩:=qY h h1;obtain⟨k2,e2,_⟩:=qY h h2;obtain⟨k3,e3,_⟩:=qY h h3;have hu:=(hΘ t ti ht).und;rw[hk]at hu;have hx:=lN h hev;obtain⟨ad,cp,hv,hlc⟩:∃ad cp,a.eval x=.slice ad l.length cp/\l.length<=cp:=by
     obtain⟨_,hv,_⟩:=hx;obtain⟨xs,⟨_,g2⟩,_⟩:=h.ah o _ ho
     grind
    refine .same h (u:=.slice (if n3.toNat=n1.toNat then ad else ad.map (·.add (n1.toNat*te.cells.len))) (n2.toNat-n1.toNat) (n3.toNat-n1.toNat)) ?_ trivial;rw[hv,e1,e2,e3];have b3:=run_sliceBound (P:=P) (w:=w) (k:=k3) (n:=n3) (y:=cp) (c:=.slice3Acap) (by omega) (by omega);have b2:=run_sliceBound (P:=P) (w:=w) (k:=k2) (n:=n2) (y:=n3.toNat) (c:=.slice3B) (by omega) (by omega);have b1:=run_sliceBound (P:=P) (w:=w) (k:=k1) (n:=n1) (y:=n2.toNat) (c:=.slice3C) (by omega) (by omega);simp[Instr.sliceAt,Instr.slice,Instr.sliceBounds,atx,ato hu.1 w,b3,b2,b1,(hΘ f te he).run_sizeOf]
   .cases hc
  .cases hc
 .cases hc
theorem acY(h:Rel w0 M T γ st a w){d:Nat}{x:Operand}{ix:Nat}{p:Prop}{v:AV}{δ:List (Nat×aB)}
 (hc:calm Θ Γ d st (.extract x ix)=some (p,v,δ)):Yields P w0 M T st a w (Instr.extract (a.eval x) ix) v δ:=by
 have hx:=gU h x;simp only[calm]at hc;split at hc
 .next vs hev=>
  split at hc
  .next s hs=>
   cases hc;rw[hev]at hx;obtain⟨us,hv,hr⟩:=hx;have get:∀(xs:List SV)(ys:List Value)(i:Nat)(s:SV),dB (aj w0 T γ st w) xs ys->xs[i]? =some s->∃u,ys[i]? =some u/\dw (aj w0 T γ st w) s u:=by
    intro xs
    induction xs with
    |nil=>grind
    |cons x xs ih=>
     intro ys i s hr hi;cases ys with
     |nil=>cases hr
     |cons y ys=>
      cases i with
      |zero=>simp at hi;subst hi;exact⟨y,rfl,hr.1⟩
      |succ i=>
       obtain⟨u,hu,hR⟩:=ih ys i s hr.2 (by simpa using hi)
       grind
   obtain⟨u,hu,hR⟩:=get vs us.toList ix s hr hs;refine .same h (u:=u) ?_ hR
   simp_all [Instr.extract]
  .cases hc
 .cases hc
theorem ah5(h:Rel w0 M T γ st a w){d:Nat}{op:UnOp}{t:TypeId}{x:Operand}{p:Prop}{v:AV}{δ:List (Nat×aB)}
 (hc:calm Θ Γ d st (.unOp op t x)=some (p,v,δ)):Yields P w0 M T st a w (Op.unary op (a.eval x)) v δ:=by
 simp only[calm]at hc;split at hc
 .next b hev=>cases hc;rw[aiy h hev];exact .same h (u:=.bool (!b)) rfl rfl
 .next k n hev=>cases hc;obtain⟨hv,_⟩:=Nj h hev;rw[hv];exact .same h (u:=.int k (k.wrap (0-n))) rfl ⟨rfl,EJ _ _⟩
 .cases hc
theorem aji(hΘ:∀t ti,Θ t=some ti->jS P t ti)(h:Rel w0 M T γ st a w){d:Nat}{args:Array Operand}{ny:Array TypeId}{ty:TypeId}{p:Prop}{v:AV}{δ:List (Nat×aB)}
 (hc:calm Θ Γ d st (.call {callee:=.builtin .len,args,argTypes:=ny})=some (p,v,δ)):Yields P w0 M T st a w (Builtin.len_ ny ty (args.map a.eval)) v δ:=by
 simp only[calm]at hc;split at hc
 .next x t hargs acZ=>
  have ha:args.map a.eval=#[a.eval x]:=by apply auU;simp[hargs]
  have ht':ny=#[t]:=by grind
  rw[ha,ht'];split at hc
  .next ti c ht hev=>
   have hx:=lN h hev;split at hc
   .next s hk=>cases hc;obtain⟨hv,hl⟩:=hx;rw[hv];refine .same h (ah2 hΘ ht hk _ ty) ?_;exact⟨rfl,Vp _ hl⟩
   .next e e' r l fr hk=>cases hc;obtain⟨ad,cp,hv,hl⟩:=agk hx;rw[hv];exact .same h (run_len_slice hΘ ht hk _ _ _ ty) ⟨rfl,Vp _ hl⟩
   .next e hk=>cases hc;have hv:a.eval x=.slice none 0 0:=hx;rw[hv];exact .same h (run_len_slice hΘ ht hk _ _ _ ty) ⟨rfl,by decide⟩
   .next e o hk=>
    split at hc
    .next e' r l fr ho=>cases hc;obtain⟨ad,cp,hv,hl⟩:=anB h hx ho;rw[hv];exact .same h (run_len_slice hΘ ht hk _ _ _ ty) ⟨rfl,Vp _ hl⟩
    .cases hc
   .cases hc
  .next ti o lo n ht hev=>
   split at hc
   .next e hk=>cases hc;obtain⟨g,m,cap,e',r',l',fr',hx,hγ,⟨p0,hp0,hv,hle⟩⟩:=SG h hev;obtain⟨hcap,_⟩:=aiz h hx hγ;rw[hv];exact .same h (run_len_slice hΘ ht hk _ _ _ ty) ⟨rfl,Vp _ (by omega)⟩
   .cases hc
  .cases hc
 .cases hc
theorem ajj(h:Rel w0 M T γ st a w){d:Nat}{args:Array Operand}{ny:Array TypeId}{ty:TypeId}{p:Prop}{v:AV}{δ:List (Nat×aB)}
 (hc:calm Θ Γ d st (.call {callee:=.builtin .min,args,argTypes:=ny})=some (p,v,δ)):Yields P w0 M T st a w (Builtin.min_ ny ty (args.map a.eval)) v δ:=by
 simp only[calm]at hc;split at hc
 .next x y hargs=>
  have ha:args.map a.eval=#[a.eval x,a.eval y]:=by apply auU;simp[hargs]
  rw[ha];split at hc
  .next k n l m e1 e2=>
   split at hc
   .next hkl=>cases hc;have hkl:=at7 hkl;subst hkl;obtain⟨h1,h2⟩:=Nj h e1;obtain⟨h3,h4⟩:=Nj h e2;rw[h1,h3];refine .same h (u:=.int k (if m<n then m else n)) (by simp[Builtin.min_,Builtin.min2]) ⟨rfl,?_⟩;omega
   .cases hc
  .cases hc
 .cases hc
theorem ajk(h:Rel w0 M T γ st a w){d:Nat}{args:Array Operand}{ny:Array TypeId}{ty:TypeId}{p:Prop}{v:AV}{δ:List (Nat×aB)}
 (hc:calm Θ Γ d st (.call {callee:=.builtin .max,args,argTypes:=ny})=some (p,v,δ)):Yields P w0 M T st a w (Builtin.max_ ny ty (args.map a.eval)) v δ:=by
 simp only[calm]at hc;split at hc
 .next x y hargs=>
  have ha:args.map a.eval=#[a.eval x,a.eval y]:=by apply auU;simp[hargs]
  rw[ha];split at hc
  .next k n l m e1 e2=>
   split at hc
   .next hkl=>cases hc;have hkl:=at7 hkl;subst hkl;obtain⟨h1,h2⟩:=Nj h e1;obtain⟨h3,h4⟩:=Nj h e2;rw[h1,h3];refine .same h (u:=.int k (if m>n then m else n)) (by simp[Builtin.max_,Builtin.max2]) ⟨rfl,?_⟩;omega
   .cases hc
  .cases hc
 .cases hc
structure EnvB(P:Program)(G:iV)(Θ:gY)(Γ:je):Prop where
 types:∀t ti,Θ t=some ti->jS P t ti
 cons:∀f con,Γ f=some (.pure con)->iM P G f con/\mO P f
 afW:∀f ms con,Γ f=some (.eff ms con)->CO P G f con/\mO P f
structure pK(P:Program)(G:iV)(Θ:gY)(Γ:je)(w0:World)(M:Nat->Prop):Prop extends EnvB P G Θ Γ where
 ok:G.ok w0
 low:∀b,M b->G.n<=b
theorem pK.at{G:iV}(hE:pK P G Θ Γ w0 M)(h:Rel w0 M T γ st a w):G.ok w:=
 G.stable w0 w hE.ok h.grow λb hb=>h.kept b (ati hb (G.low w0 hE.ok)) λhm=>by have:=hE.low b hm;omega
theorem KG{o:Oper}{x:Operand}{f:FuncId}{us:Array Value}{args:Array Operand}{ny:Array TypeId}(ho:o.op=.call {callee:=.value x,args,argTypes:=ny})(hx:a.eval x=.func (.func f) #[] us)(hcall:mO P f):
 (execOp a.eval o).run P w=.ok (.enter f (args.map a.eval++us)) w:=by
 have e1:(execOp a.eval o)=(do let d ← resolve a.eval {callee:=.value x,args,argTypes:=ny} o.type;invoke d.target d.args):=by
  grind [execOp]
 rw[e1];simp only[resolve,hx,Deferred.ofValue,atx,atV,atT,invoke];rw[show(#[]++Array.map a.eval args:Array Value)++us=args.map a.eval++us by simp];exact hcall _ _
theorem ajl{G:iV}(hE:pK P G Θ Γ w0 M)(h:Rel w0 M T γ st a w)(o:Oper){d:Nat}{p:Prop}{v:AV}{δ:List (Nat×aB)}{x:Operand}{args:Array Operand}{ny:Array TypeId}
 (hop:o.op=.call {callee:=.value x,args,argTypes:=ny})
 (hc:calm Θ Γ d st (.call {callee:=.value x,args,argTypes:=ny})=some (p,v,δ)) (hp:p) (hf:iP st δ=true) {next:Act->World->Prop} {Q:Exit->Act->World->Prop}
 (hn:∀u γ' w',Rel w0 M T γ' (st.adds δ) a w'->aQ (aj w0 T γ' (st.adds δ) w') v u->next (a.put o.dst u) w'):o.wp P a w next Q:=by
 simp only[calm]at hc;split at hc
 .next f caps hx=>
  split at hc
  .next con vs hcon hargs=>
   split at hc
   .next q out hq=>
    split at hc
    .next hm=>
     cases hc;obtain⟨hok,hcall⟩:=hE.cons f con hcon;rw[auD]at hm;have hv:=gU h x;rw[hx]at hv;obtain⟨us,ZV,hkx⟩:=hv;unfold Oper.wp;rw[KG hop ZV hcall,auV];have hk:(d*64+1)%64=1:=by omega
     rcases hm with hm|hm
     .have hrep:=EM h (γ0:=λ_=>undef) (S:=λ_=>True) (λ_ _=>trivial) (λ_ _ _ _ _ _ _ _=>trivial) _ _ vs hargs (EN h hkx args.toList);rw[← aut,← auA]at hrep;refine(hok vs _ out (d*64+1) (λ_=>True) (args.map a.eval++us) w hq hp (hE.at h) hrep).mono ?_;rintro e w' ⟨u,vals,rfl,h1,h2,h3,h4,h5,h6,h7,h8⟩;obtain⟨γ',g1,g2⟩:=h.called hk hf h1 h2 h3 h4 h5 (.inl hm) h6 h7 h8
      grind
     .have hm0:rY (handed st args.toList caps)=[]:=by
       grind [EH]
      have hrep:=yE h (γ0:=λ_=>undef) _ _ vs hargs hm0 (EN h hkx args.toList);rw[← aut,← auA]at hrep;refine(hok vs _ out (d*64+1) (aj w0 T γ st w).foot (args.map a.eval++us) w hq hp (hE.at h) hrep).mono ?_;rintro e w' ⟨u,vals,rfl,h1,h2,h3,h4,h5,h6,h7,h8⟩;obtain⟨γ',g1,g2⟩:=h.called hk hf h1 h2 h3 h4 h5 (.inr rfl) h6 h7 h8
      grind
    .cases hc
   .cases hc
  .cases hc
 .cases hc
theorem vW{o:Oper}{b:Builtin}{args:Array Operand}{ny:Array TypeId}(ho:o.op=.call {callee:=.builtin b,args,argTypes:=ny}):
 execOp a.eval o=builtin b ny o.type (args.map λ|.const _=>true|_=>false) (args.map a.eval):=by
 unfold execOp;rw[ho];rfl
theorem ZW(h:Rel w0 M T γ st a w):∀(xs:List Operand)(l:List (List Cell)),heldBy st xs=some l->dS (aj w0 T γ st w) l (xs.map a.eval)
 |[],l,hl=>by cases hl;trivial
 |x::xs,l,hl=>by
  rw[heldBy]at hl;split at hl
  .next cs off l' hx hl'=>
   split at hl
   .next h0=>cases hl;have h0:=asX h0;subst h0;have hv:=gU h x;rw[hx]at hv;exact⟨hv,ZW h xs l' hl'⟩
   .cases hl
  .cases hl
theorem Ir{G:iV}(hE:pK P G Θ Γ w0 M)(h:Rel w0 M T γ st a w)(o:Oper){d:Nat}{p:Prop}{v:AV}{δ:List (Nat×aB)}
 (hc:calm Θ Γ d st o.op=some (p,v,δ)) (hp:p) (hf:iP st δ=true) {next:Act->World->Prop} {Q:Exit->Act->World->Prop}
 (hn:∀u γ' w',Rel w0 M T γ' (st.adds δ) a w'->aQ (aj w0 T γ' (st.adds δ) w') v u->next (a.put o.dst u) w'):o.wp P a w next Q:=by
 have fin:∀{s:Sem Value},(execOp a.eval o)=(do pure (Next.value (← s)))->Yields P w0 M T st a w s v δ->o.wp P a w next Q:=by intro s he ⟨u,w',γ',hr,hR,hv⟩;exact Oper.kD (by simp_all) (hn u γ' w' hR hv)
 cases hop:o.op<;>rw[hop]at hc<;>try (simp only[calm,reduceCtorEq]at hc;done)
 case move x=>simp only[calm]at hc;cases hc;exact Oper.kD (u:=a.eval x) (w':=w) (by simp[execOp,hop]) (hn _ γ w h (gU h x))
 case assign x=>simp only[calm]at hc;cases hc;exact Oper.kD (u:=a.eval x) (w':=w) (by simp[execOp,hop]) (hn _ γ w h (gU h x))
 case pick c x y=>
  simp only[calm]at hc;split at hc
  .next g hg=>
   cases hc;refine Oper.kD (u:=if g then a.eval x else a.eval y) (w':=w) (by simp[execOp,hop,aiy h hg,asBool]) (hn _ γ w h ?_);cases g
   .exact gU h y
   .exact gU h x
  .cases hc
 case nilCheck x=>
  have hx:=gU h x;simp only[calm]at hc;split at hc
  .next o' off hev=>cases hc;rw[hev]at hx;obtain⟨b,cs,ho,hγ,hv⟩:=hx;exact Oper.kD (u:=a.eval x) (w':=w) (by simp_all [execOp]) (hn _ γ w h ⟨b,cs,ho,hγ,hv⟩)
  .next o' i off hev=>cases hc;rw[hev]at hx;obtain⟨b,n,cap,e,r,l,fr,ho,hγ,hv⟩:=hx;exact Oper.kD (u:=a.eval x) (w':=w) (by simp_all [execOp]) (hn _ γ w h ⟨b,n,cap,e,r,l,fr,ho,hγ,hv⟩)
  .next r y off fr hev=>cases hc;rw[hev]at hx;obtain⟨b,base,cs,ty,fz,hv,hrest⟩:=hx;exact Oper.kD (u:=a.eval x) (w':=w) (by simp_all [execOp]) (hn _ γ w h ⟨b,base,cs,ty,fz,hv,hrest⟩)
  .next cs off hev=>cases hc;rw[hev]at hx;obtain⟨b,hv,hrest⟩:=hx;exact Oper.kD (u:=a.eval x) (w':=w) (by simp_all [execOp]) (hn _ γ w h ⟨b,hv,hrest⟩)
  .next f caps hev=>cases hc;rw[hev]at hx;obtain⟨us,hv,hrest⟩:=hx;exact Oper.kD (u:=a.eval x) (w':=w) (by simp_all [execOp]) (hn _ γ w h ⟨us,hv,hrest⟩)
  .cases hc
 case makeFunc fn first captured=>
  cases fn<;>try (simp only[calm,reduceCtorEq]at hc;done)
  case func f=>
   simp only[calm]at hc;split at hc
   .next l hfirst hl=>
    cases hc;have hf0:first=#[]:=by grind
    subst hf0;refine Oper.kD (u:=.func (.func f) #[] (captured.map a.eval)) (w':=w) (by simp[execOp,hop,Instr.makeFunc]) (hn _ γ w h ⟨captured.map a.eval,rfl,?_⟩);rw[aut];exact ZW h _ _ hl
   .cases hc
 case alloc t=>exact fin (s:=Instr.alloc t true (.tuple #[])) (by simp[execOp,hop]) (agt hE.types h hc hf)
 case box t x=>exact fin (s:=Instr.box t (a.eval x)) (by simp[execOp,hop]) (ajg h hc hf)
 case build t parts=>exact fin (s:=Instr.build t (parts.map λx=>(x.1,a.eval x.2))) (by grind [execOp]) (ags hE.types h hc)
 case buildSlice t len parts=>
  have hy:=VI hE.types h hc hf
  grind [execOp]
 case makeSlice t x y=>exact fin (s:=Instr.makeSlice t (a.eval x) (a.eval y)) (by simp[execOp,hop]) (XU hE.types h hc hp hf)
 case load t x=>exact fin (s:=Instr.loadAt t (a.eval x)) (by simp[execOp,hop]) (ah4 hE.types h hc hp)
 case fieldAddr s x f=>exact fin (s:=Instr.fieldAt s (a.eval x) f) (by simp[execOp,hop]) (XR hE.types h hc)
 case field s x f=>exact fin (s:=Instr.field s (a.eval x) f) (by simp[execOp,hop]) (agq hE.types h hc)
 case indexAddr t x ix=>exact fin (s:=Instr.indexAt t (a.eval x) (a.eval ix)) (by simp[execOp,hop]) (XT hE.types h hc hp)
 case index t x ix=>exact fin (s:=Instr.index t (a.eval x) (a.eval ix)) (by simp[execOp,hop]) (agp hE.types h hc hp)
 case binOp op t x y t'=>exact fin (s:=do eqGuard op t x y (a.eval x) (a.eval y);binOp op t (a.eval x) (a.eval y)) (by simp[execOp,hop]) (agv hE.types h hc hp)
 case unOp op t x=>exact fin (s:=Op.unary op (a.eval x)) (by simp[execOp,hop]) (ah5 h hc)
 case convert s t x=>exact fin (s:=convert s t (a.eval x)) (by simp[execOp,hop]) (acX hE.types h hc)
 case extract x i=>exact fin (s:=Instr.extract (a.eval x) i) (by simp[execOp,hop]) (acY h hc)
 case slice t x lo hi mx=>
  cases mx with
  |some m=>
   cases lo with
   |none=>simp only[calm,reduceCtorEq]at hc
   |some lo=>
    cases hi with
    |none=>simp only[calm,reduceCtorEq]at hc
    |some hi=>exact fin (s:=Instr.sliceAt t (a.eval x) (some (a.eval lo)) (some (a.eval hi)) (some (a.eval m))) (by simp[execOp,hop]) (afp hE.types h hc hp)
  |none=>exact fin (s:=Instr.sliceAt t (a.eval x) (lo.map a.eval) (hi.map a.eval) none) (by simp[execOp,hop]) (agw hE.types h hc hp)
 case call c=>
  obtain⟨callee,args,ny⟩:=c;cases callee with
  |invoke r m=>simp only[calm,reduceCtorEq]at hc
  |builtin b=>
   cases b<;>try (simp only[calm,reduceCtorEq]at hc;done)
   case len=>exact fin (s:=Builtin.len_ ny o.type (args.map a.eval)) (by rw[vW hop];rfl) (aji hE.types h hc)
   case min=>exact fin (s:=Builtin.min_ ny o.type (args.map a.eval)) (by rw[vW hop];rfl) (ajj h hc)
   case max=>exact fin (s:=Builtin.max_ ny o.type (args.map a.eval)) (by rw[vW hop];rfl) (ajk h hc)
  |value x=>grind [ajl]
def sameKind:aB->aB->Prop
 |.var _,.var _=>True
 |.arr e r _ _,.arr f s _ _=>e=f/\r=s
 |_,_=>False
theorem F7(w:World)(g:Nat)(cs:Array Value){b:Nat}(h:b≠g):(w.setRow g cs).heap[b]? =w.heap[b]? :=by
 grind [World.setRow]
theorem Rel.write(h:Rel w0 M T γ st a w){o b:Nat}{x x':aB}(ho:st.ah o=some x)(hb:blk (γ o)=some b)(hk:sameKind x x')(arr:Array Value)
 (hx:(aj w0 T γ st w).le ⟨w.setRow b arr,w0.heap.size,T,γ,(st.add o x').ah⟩->bD ⟨w.setRow b arr,w0.heap.size,T,γ,(st.add o x').ah⟩ o x'):
 Rel w0 M T γ (st.add o x') a (w.setRow b arr):=by
 have hother:∀p,p≠o->(st.add o x').ah p=st.ah p:=λp hp=>lQ st x' hp;have hsz:(w.setRow b arr).heap.size=w.heap.size:=by simp_all
 have hsome:∀p y,(st.add o x').ah p=some y->∃z,st.ah p=some z:=by
  grind
 have le:(aj w0 T γ st w).le ⟨w.setRow b arr,w0.heap.size,T,γ,(st.add o x').ah⟩:=by
  refine⟨as7 _,λc hc=>⟨⟨?_,hc.2.1,λp y hp=>?_⟩,?_⟩,λp cs hp=>⟨?_,rfl⟩,λp e r l fr hp=>⟨?_,rfl⟩⟩
  .rw[hsz];exact hc.1
  .obtain⟨z,hz⟩:=hsome p y hp;exact hc.2.2 p z hz
  .refine F7 w b arr (λe=>?_);exact hc.2.2 o x ho (by grind)
  .by_cases e:p=o
   .subst e;have hp':st.ah p=some (.var cs):=hp;rw[ho]at hp';cases hp';show∃cs',(st.add p x').ah p=some (.var cs');rw[add_same];cases x' with
    |var cs'=>grind
    |arr _ _ _ _=>exact hk.elim
   grind
  .by_cases e2:p=o
   .subst e2;have hp':st.ah p=some (.arr e r l fr):=hp;rw[ho]at hp';cases hp';show∃l' fr',(st.add p x').ah p=some (.arr e r l' fr');rw[add_same];cases x' with
    |var cs'=>exact hk.elim
    |arr e' r' l' fr'=>
     obtain⟨h1,h2⟩:=hk
     grind
   grind
 refine⟨h.mT,h.defers,h.size,h.os,h.tape,h.output,by rw[hsz];exact h.grow,λc hc hM=>?_,λt=>aQ.mono le _ _ (h.tmps t),λp y hp=>?_,λp y c hp hc=>?_,λp y q z c hp hq hpq hc=>?_,λp v cs hN hp=>?_⟩
 .rw[F7 w b arr (λe=>?_)]
  .exact h.kept c hc hM
  .rcases(h.lt o x b ho hb).2 with h1|h1
   .omega
   grind
 .by_cases e:p=o
  · grind [add_same]
  .rw[hother p e]at hp;refine bD.mono le p y (λc hc=>F7 w b arr (λe2=>?_)) rfl (h.ah p y hp);exact h.sep p y o x c hp ho e hc (by grind)
 .obtain⟨z,hz⟩:=hsome p y hp;rw[hsz];exact h.lt p z c hz hc
 .obtain⟨y',hy'⟩:=hsome p y hp;obtain⟨z',hz'⟩:=hsome q z hq;exact h.sep p y' q z' c hy' hz' hpq hc
 .by_cases e:p=o
  .subst e;rw[add_same]at hp;cases hp;cases x with
   |var cs'=>exact h.pin p v cs' hN ho
   |arr _ _ _ _=>exact hk.elim
  .rw[hother p e]at hp;exact h.pin p v cs hN hp
theorem run_store{t:TypeId}{ti:TI}(hT:jS P t ti){b off:Nat}{cur:Array Value}{e:TypeId}(hb:w.heap[b]? =some (.cells cur e (0,0))){v:Value}(hsz:v.cells.size=ti.cells.len)
 (hle:off+v.cells.size<=cur.size) (h1:∀u∈v.cells.toList,u.oneCell'=true):
 (Instr.storeAt t (.pointer (some ⟨b,off,none⟩)) v).run P w=.ok () (w.setRow b (cur.toList.take off++v.cells.toList++cur.toList.drop (off+v.cells.toList.length)).toArray):=by
 have hst:=run_storeCells_at P b off e v.cells.toList 0 cur w hb (by omega) h1;simp only[Instr.storeAt,Instr.sureAddr,atx,atV,atT,storeVar,hT.run_sizeOf]
 grind
theorem SH{g:Nat}{cur cs:Array Value}{e:TypeId}(h:w.heap[g]? =some (.cells cur e (0,0))):(w.setRow g cs).heap[g]? =some (.cells cs e (0,0)):=setRow_heap w g cur cs e (0,0) h
theorem ac0(cur vs:List Value)(o k:Nat)(h:o+vs.length<=cur.length):
 (cur.take o++vs++cur.drop (o+vs.length))[k]? =if k<o then cur[k]? else if k<o+vs.length then vs[k-o]? else cur[k]? :=by
 grind
theorem agx(fr:Bool):∀(r:ak)(x:r.den),(ak.row fr r x).flatMap Cell.refs=[]
 |.nil,_=>rfl
 |.cons c r,x=>by rw[ak.row,atG,agx fr r x.2,atM];cases c<;>rfl
theorem aeC:∀(r:ak)(x:r.den),(ak.row true r x).all (Cell.fresh st)=true
 |.nil,_=>rfl
 |.cons c r,x=>by rw[ak.row,atQ,aeC r x.2,auw];cases c<;>rfl
theorem aeD(hΘ:∀t ti,Θ t=some ti->jS P t ti)(h:Rel w0 M T γ st a w){t:TypeId}{ti:TI}(ht:Θ t=some ti){p:AV}{v:SV}{pv vv:Value}{q:Prop}{s:St}
 (hs:store st p v=some (q,s)) (hq:q) (hp:aQ (aj w0 T γ st w) p pv) (hv:dw (aj w0 T γ st w) v vv) (hlen:v.cells.length=ti.cells.len):
 ∃w',(Instr.storeAt t pv vv).run P w=.ok () w'/\Rel w0 M T γ s a w':=by
 have hcells:=dw.cells v vv hv;have hvl:=ai.length _ _ hcells;rw[atW]at hvl;have Iu:=ai.ones _ _ hcells;unfold store at hs;split at hs
 .next o off=>
  split at hs
  .next cs ho=>
   split at hs
   .next OI=>
    cases hs;have hle:=atL OI;obtain⟨b,cs',_,hγ,hpv⟩:=hp;obtain⟨b',arr,ty,hγ',hb,hr⟩:=h.ah o _ ho;have hγ1:γ o=.pointer (some ⟨b,0,none⟩):=hγ;have zY:γ o=.pointer (some ⟨b',0,none⟩):=hγ';have hbb:b'=b:=by grind
    subst hbb;have hal:=ai.length _ _ hr;rw[atW]at hal;rw[hpv];refine⟨_,run_store (hΘ t ti ht) hb (by omega) (by omega) Iu,?_⟩;refine h.write (x':=.var (splice cs off v.cells)) ho (by rw[hγ1];rfl) trivial _ (λle=>⟨b',_,ty,hγ1,SH hb,?_⟩)
    grind [ai.mono,OH]
   .cases hs
  .cases hs
 .next o i off=>
  split at hs
  .next e r l fr hrefs ho=>
   split at hs
   .next x hx OI=>
    cases hs;have hle:=atL OI;obtain⟨b,n,cap,e2,r2,l2,fr2,ho2,hγ,hpv⟩:=hp;have agi:st.ah o=some (.arr e2 r2 l2 fr2):=ho2;rw[ho]at agi;cases agi;obtain⟨xs,⟨h1,h2⟩,hpos,hfr,hrow⟩:=h.ah o _ ho;have hγ1:γ o=.slice (some ⟨b,0,none⟩) n cap:=hγ;rcases h2 with⟨hnil,_⟩|⟨g,cap',cur,hg,_,hh,hlc,hmax,hsz,htake⟩
    .omega
    .have zY:γ o=.slice (some ⟨g,0,none⟩) l.length cap':=hg;rw[hγ1]at zY;simp at zY;obtain⟨rfl,hn,hcap⟩:=zY;have hmul:i*r.len+r.len<=l.length*r.len:=by
      have:(i+1)*r.len<=l.length*r.len:=atf _ hq
      grind
     have apc:l.length*r.len<=cap'*r.len:=atf _ hlc;rw[hpv];refine⟨_,run_store (hΘ t ti ht) hh (by omega) (by omega) Iu,?_⟩;have hli:l[i]? =some (l.getD i r.dflt):=by grind
     have hRi:=hrow i _ hli;have hrc:=Nk (aj w0 T γ st w) fr r _ _ hRi;have alU:=OH off hrc hcells;have hrl:=aZ.length _ _ _ hRi;refine h.write (x':=.arr e r (l.set i x) (fr&&v.cells.all (Cell.fresh st))) ho (by rw[hγ1];rfl) ⟨rfl,rfl⟩ _ (λle=>?_)
     let new:List Value:=cur.toList.take (i*r.len+off)++vv.cells.toList++cur.toList.drop (i*r.len+off+vv.cells.toList.length)
     have hnl:new.length=cur.size:=by
      grind
     refine⟨new.take (l.length*r.len),⟨?_,.inr ⟨b,cap,new.toArray,?_,atl _,SH hh,?_,?_,?_,?_⟩⟩,hpos,?_,?_⟩
     · grind
     · grind
     · grind
     .omega
     · grind
     · grind
     · grind
     .have e1:cur.toList.length=cur.size:=atW;have e2:vv.cells.toList.length=vv.cells.size:=atW;have hnew:∀k,new[k]? =if k<i*r.len+off then cur.toList[k]? else if k<i*r.len+off+vv.cells.toList.length then vv.cells.toList[k-(i*r.len+off)]? else cur.toList[k]? :=λk=>ac0 _ _ _ k (by omega)
      intro i' x' hi';have hlt:i'<l.length:=by
       grind
      have amW:i'*r.len+r.len<=l.length*r.len:=by
       have:(i'+1)*r.len<=l.length*r.len:=atf _ hlt
       grind
      show aZ (w.setRow b new.toArray).heap (V.bP ⟨w.setRow b new.toArray,w0.heap.size,T,γ,_⟩ (fr&&v.cells.all (Cell.fresh st))) r (((new.take (l.length*r.len)).drop (i'*r.len)).take r.len) x';rw[fH _ _ _ _ amW];by_cases hii:i'=i
      .subst hii;have hxx:x'=x:=by
        grind
       subst hxx;have hrows:(new.drop (i'*r.len)).take r.len=((xs.drop (i'*r.len)).take r.len).take off++vv.cells.toList++((xs.drop (i'*r.len)).take r.len).drop (off+vv.cells.toList.length):=by
        rw[← htake,fH _ _ _ _ hmul];apply aua;intro k;rw[ac0 _ _ _ k (by grind)];rw[atJ,atN,hnew]
        grind
       rw[hrows];refine aZ.mono (λc hc=>le.bP _ c hc) r _ x' (Jk h (fr&&v.cells.all (Cell.fresh st)) r _ _ x' alU hx ?_ ?_)
       · grind [splice,agx,List.flatMap_eq_nil_iff]
       .intro hf;simp only[as1]at hf;obtain⟨hf1,hf2⟩:=hf;subst hf1;have hr0:=aeC (st:=st) r (l.getD i' r.dflt)
        grind [splice]
      .have hx2:l[i']? =some x':=by grind
       have hR2:=hrow i' x' hx2;rw[← htake,fH _ _ _ _ amW]at hR2;have hrows:(new.drop (i'*r.len)).take r.len=(cur.toList.drop (i'*r.len)).take r.len:=by
        apply aua;intro k;rw[atJ,atJ,atN,atN,hnew];by_cases hk:k<r.len
        .rw[if_pos hk,if_pos hk];rcases Nat.lt_or_gt_of_ne hii with hlt2|hlt2
         .have:(i'+1)*r.len<=i*r.len:=atf _ hlt2
          grind
         .have:(i+1)*r.len<=i'*r.len:=atf _ hlt2
          grind
        grind
       rw[hrows];refine aZ.mono (λc hc=>?_) r _ x' hR2;have hc':(aj w0 T γ st w).bP (fr&&v.cells.all (Cell.fresh st)) c:=⟨hc.1,λe=>hc.2 (by grind)⟩;exact le.bP _ c hc'
   .cases hs
  .cases hs
 .cases hs
structure V.lF(S:Nat->Bool)(X Y:V):Prop where
 n0:Y.n0<=X.n0
 foot:∀b,X.foot b->Y.foot b/\Y.w.heap[b]? =X.w.heap[b]?
 var:∀o cs,S o=false->X.ah o=some (.var cs)->(∃cs',Y.ah o=some (.var cs'))/\Y.γ o=X.γ o
 arr:∀o e r l fr,S o=false->X.ah o=some (.arr e r l fr)->(∃l' fr',Y.ah o=some (.arr e r l' fr'))/\Y.γ o=X.γ o
theorem V.lF.bP{S:Nat->Bool}{X Y:V}(h:X.lF S Y)(fr:Bool)(b:Nat)(hb:X.bP fr b):Y.bP fr b/\Y.w.heap[b]? =X.w.heap[b]? :=
 ⟨⟨(h.foot b hb.1).1,λe=>⟨as3 h.n0 (hb.2 e).1,(hb.2 e).2.keep (h.foot b hb.1).2⟩⟩,(h.foot b hb.1).2⟩
variable {S:Nat->Bool}
theorem aK.lF{X Y:V}(h:X.lF S Y):∀(c:Cell)(v:Value),aK X c v->aK Y (c.kill S) v
 |.int _ _,_,H|.bool _,_,H|.str _,_,H|.nil,_,H|.junk,_,H=>H
 |.sl e r l fr,v,H=>dW.mono (λb hb=>h.bP fr b hb) (.sl e r) v l H
 |.ref o,v,⟨⟨e,r,l,fr,hx⟩,hv,h1⟩=>by
  simp only[Cell.kill];cases hS:S o with
  |true=>exact h1
  |false=>obtain⟨⟨l',fr',hy⟩,hγ⟩:=h.arr o e r l fr hS hx;exact⟨⟨e,r,l',fr',hy⟩,hv.trans hγ.symm,h1⟩
theorem ai.lF{X Y:V}(h:X.lF S Y):∀(cs:List Cell)(vs:List Value),ai X cs vs->ai Y (cs.map (Cell.kill S)) vs
 |[],[],H=>H
 |c::cs,v::vs,⟨h1,h2⟩=>⟨aK.lF h c v h1,ai.lF h cs vs h2⟩
 |[],_::_,H|_::_,[],H=>by cases H
theorem dw.lF{X Y:V}(h:X.lF S Y):∀(c:SV)(v:Value),dw X c v->dw Y (c.kill S) v
 |.one c,v,H=>aK.lF h c v H
 |.agg cs,_,⟨vs,hv,H⟩=>⟨vs,hv,ai.lF h cs _ H⟩
theorem dB.lF{X Y:V}(h:X.lF S Y):∀(cs:List SV)(vs:List Value),dB X cs vs->dB Y (cs.map (SV.kill S)) vs
 |[],[],H=>H
 |c::cs,v::vs,⟨h1,h2⟩=>⟨dw.lF h c v h1,dB.lF h cs vs h2⟩
 |[],_::_,H|_::_,[],H=>by cases H
theorem fG.lF{X Y:V}(h:X.lF S Y){cs:List Cell}{b:Nat}(H:fG X cs b):fG Y (cs.map (Cell.kill S)) b:=by obtain⟨arr,t,fz,hb,hh,hr⟩:=H;exact⟨arr,t,fz,(h.foot b hb).1,(h.foot b hb).2.trans hh,ai.lF h cs _ hr⟩
theorem dS.lF{X Y:V}(h:X.lF S Y):∀(l:List (List Cell))(us:List Value),dS X l us->dS Y (l.map (List.map (Cell.kill S))) us
 |[],[],H=>H
 |cs::l,u::us,⟨⟨b,hu,hk⟩,h2⟩=>⟨⟨b,hu,fG.lF h hk⟩,dS.lF h l us h2⟩
 |[],_::_,H|_::_,[],H=>by cases H
theorem aQ.lF{X Y:V}(h:X.lF S Y):∀(c:AV)(v:Value),aQ X c v->aQ Y (c.kill S) v
 |.undef,_,_=>trivial
 |.sv x,v,H=>dw.lF h x v H
 |.kZ xs,_,⟨vs,hv,H⟩=>⟨vs,hv,dB.lF h xs _ H⟩
 |.eG o off,v,⟨b,cs,hx,hγ,hv⟩=>by
  simp only[AV.kill];cases hS:S o with
  |true=>trivial
  |false=>
   obtain⟨⟨cs',hy⟩,he⟩:=h.var o cs hS hx;exact⟨b,cs',hy,he.trans hγ,hv⟩
 |.lI o i off,v,⟨b,n,cap,e,r,l,fr,hx,hγ,hv⟩=>by
  simp only[AV.kill];cases hS:S o with
  |true=>trivial
  |false=>
   obtain⟨⟨l',fr',hy⟩,he⟩:=h.arr o e r l fr hS hx;exact⟨b,n,cap,e,r,l',fr',hy,he.trans hγ,hv⟩
 |.win o i off,v,⟨b,n,cap,e,r,l,fr,hx,hγ,hv⟩=>by
  simp only[AV.kill];cases hS:S o with
  |true=>trivial
  |false=>
   obtain⟨⟨l',fr',hy⟩,he⟩:=h.arr o e r l fr hS hx;exact⟨b,n,cap,e,r,l',fr',hy,he.trans hγ,hv⟩
 |.nH r x off fr,v,⟨b,base,cs,t,fz,hv,hf,hb,hr⟩=>
  ⟨b,base,cs,t,fz,hv,(h.bP fr b hf).1,(h.bP fr b hf).2.trans hb,aZ.mono (λb hb=>h.bP fr b hb) r _ x hr⟩
 |.dA cs off,v,⟨b,hv,hk⟩=>⟨b,hv,fG.lF h hk⟩
 |.fn f caps,v,⟨us,hv,hk⟩=>⟨us,hv,dS.lF h caps _ hk⟩
theorem bD.lF{X Y:V}(h:X.lF S Y)(o:Nat):∀(x:aB),(∀b,blk (X.γ o)=some b->Y.w.heap[b]? =X.w.heap[b]?)->Y.γ o=X.γ o->bD X o x->bD Y o (x.kill S)
 |.var cs,hb,hγ,⟨b,arr,t,e,hh,hr⟩=>⟨b,arr,t,hγ.trans e,(hb b (by rw[e];rfl)).trans hh,ai.lF h cs _ hr⟩
 |.arr e r l fr,hb,hγ,⟨xs,hown,hr,hf,hx⟩=>by
  refine⟨xs,?_,hr,λb hb' hfr=>as3 h.n0 (hf b (hγ▸hb') hfr),λi x hi=>aZ.mono (λb hb=>h.bP fr b hb) r _ x (hx i x hi)⟩;obtain⟨h1,h2⟩:=hown;refine⟨h1,?_⟩;rcases h2 with h2|⟨g,cap,cur,hv,hg,hh,hrest⟩
  · grind
  .exact .inr ⟨g,cap,cur,hγ.trans hv,hg,(hb g (by rw[hv];rfl)).trans hh,hrest⟩
theorem Rel.replace(h:Rel w0 M T γ st a w){o:Nat}{x':aB}{v':Value}(own:Option Nat)(hown:own=none\/∃x,st.ah o=some x/\own=blk (γ o))
 (hos:w'.os=w.os) (htape:w'.tape=w.tape) (hout:w'.output=w.output) (hsize:w.heap.size<=w'.heap.size) (hheap:∀b,b<w.heap.size->some b≠own->w'.heap[b]? =w.heap[b]?)
 (hblk:∀g,blk v'=some g->(some g=own\/w.heap.size<=g)/\g<w'.heap.size) (harr:∀cs,x'≠ .var cs)
 (hx:(aj w0 T γ st w).lF (Nat.beq o ·) ⟨w',w0.heap.size,T,upd γ o v',((st.kill (Nat.beq o ·)).add o x').ah⟩->bD ⟨w',w0.heap.size,T,upd γ o v',((st.kill (Nat.beq o ·)).add o x').ah⟩ o x'):
 Rel w0 M T (upd γ o v') ((st.kill (Nat.beq o ·)).add o x') a w'/\(aj w0 T γ st w).lF (Nat.beq o ·) ⟨w',w0.heap.size,T,upd γ o v',((st.kill (Nat.beq o ·)).add o x').ah⟩:=by
 have hoth:∀p y,p≠o->((st.kill (Nat.beq o ·)).add o x').ah p=some y->∃z,st.ah p=some z/\y=z.kill (Nat.beq o ·):=by
  grind [lQ,tV]
 have amX:∀p z,p≠o->st.ah p=some z->((st.kill (Nat.beq o ·)).add o x').ah p=some (z.kill (Nat.beq o ·)):=by
  grind [lQ,lM,G6]
 have hno:∀b,(∀x,st.ah o=some x->blk (γ o)≠some b)->some b≠own:=by
  grind
 have le:(aj w0 T γ st w).lF (Nat.beq o ·) ⟨w',w0.heap.size,T,upd γ o v',((st.kill (Nat.beq o ·)).add o x').ah⟩:=by
  refine⟨as7 _,λb hb=>⟨⟨ati hb.1 hsize,hb.2.1,λp y hp=>?_⟩,hheap b hb.1 (hno b (λx hx=>hb.2.2 o x hx))⟩,λp cs hS hp=>?_,λp e r l fr hS hp=>?_⟩
  .show blk (upd γ o v' p)≠some b;by_cases e:p=o
   .rw[e,upd_same];intro e2;rcases(hblk b e2).1 with h1|h1
    .exact hno b (λx hx=>hb.2.2 o x hx) h1
    .have:b<w.heap.size:=hb.1;omega
   .rw[ni γ v' e];obtain⟨z,hz,_⟩:=hoth p y e hp;exact hb.2.2 p z hz
  .have hne:p≠o:=λe=>by simp_all
   exact⟨⟨_,amX p _ hne hp⟩,ni γ v' hne⟩
  .have hne:p≠o:=λe=>by simp_all
   exact⟨⟨l,fr,amX p _ hne hp⟩,ni γ v' hne⟩
 refine⟨⟨h.mT,h.defers,h.size,hos.trans h.os,htape.trans h.tape,hout.trans h.output,as3 h.grow hsize,λb hb hM=>?_,λt=>aQ.lF le _ _ (h.tmps t),λp y hp=>?_,λp y b hp hb=>?_,λp y q z b hp hq hpq hb=>?_,λp v cs hN hp=>?_⟩,le⟩
 .rw[hheap b (ati hb h.grow) (λe=>?_)]
  .exact h.kept b hb hM
  .rcases hown with h0|⟨x,hxo,h1⟩
   · grind
   .rw[h1]at e;rcases(h.lt o x b hxo e.symm).2 with h2|h2
    .omega
    .exact hM h2
 .by_cases e:p=o
  · grind [add_same]
  .obtain⟨z,hz,he⟩:=hoth p y e hp;rw[he];refine bD.lF le p z (λb hb=>hheap b (h.lt p z b hz hb).1 (hno b (λx hxo e2=>h.sep p z o x b hz hxo e hb e2))) (ni γ v' e) (h.ah p z hz)
 .by_cases e:p=o
  .rw[e,upd_same]at hb;refine⟨(hblk b hb).2,?_⟩;rcases(hblk b hb).1 with h1|h1
   .rcases hown with h0|⟨x,hxo,h2⟩
    · grind
    .exact(h.lt o x b hxo (by grind)).2
   .exact .inl (as3 h.grow h1)
  .rw[ni γ v' e]at hb;obtain⟨z,hz,_⟩:=hoth p y e hp;have:=h.lt p z b hz hb
   grind
 .have key:∀p y,p≠o->((st.kill (Nat.beq o ·)).add o x').ah p=some y->blk (γ p)=some b->blk v'≠some b:=by
   intro p y e hp hb e2;obtain⟨z,hz,_⟩:=hoth p y e hp;rcases(hblk b e2).1 with h1|h1
   .rcases hown with h0|⟨x,hxo,h2⟩
    · grind
    .exact h.sep p z o x b hz hxo e hb (by grind)
   .have:=(h.lt p z b hz hb).1;omega
  by_cases e:p=o
  · grind [upd_same,ni]
  .rw[ni γ v' e]at hb;by_cases e':q=o
   · grind [upd_same]
   .rw[ni γ v' e'];obtain⟨y',hy',_⟩:=hoth p y e hp;obtain⟨z',hz',_⟩:=hoth q z e' hq;exact h.sep p y' q z' b hy' hz' hpq hb
 .by_cases e:p=o
  · grind [add_same]
  .obtain⟨z,hz,he⟩:=hoth p _ e hp;rw[ni γ v' e];cases z with
   |var cs'=>exact h.pin p v cs' hN hz
   |arr _ _ _ _=>cases he
theorem Cell.agy(h:Rel w0 M T γ st a w){e:TypeId}{r:ak}{x:Cell}{v:Value}{l:List r.den}(hx:aK (aj w0 T γ st w) x v)(hg:x.get st (.sl e r)=some l):
 EF w.heap (λb=>b<w.heap.size) r.len (λvs y=>aZ w.heap ((aj w0 T γ st w).bP (x.tN r st)) r vs y) v l:=by
 suffices hs:EF w.heap (λb=>b<w.heap.size) r.len (λvs y=>aZ w.heap ((aj w0 T γ st w).bP (x.fresh st)) r vs y) v l by
  refine hs.mono (λb hb=>⟨hb,rfl⟩) λvs y hy=>?_
  grind [Cell.tN,aZ.flat]
 cases x<;>simp only[Cell.get]at hg<;>try (cases hg;done)
 .cases hg;have hv:v=.slice none 0 0:=hx;subst hv;exact⟨atl _,.inl ⟨rfl,none,0,rfl⟩⟩
 .next e' s l' fr=>
  split at hg
  .next hb=>have hrs:=ak.eq_of_beq s r hb;subst hrs;cases hg;have hx:EF _ _ _ _ v l':=hx;exact hx.mono (λb hb=>⟨hb.1.1,rfl⟩) (λvs y hy=>hy)
  .cases hg
 .next o=>
  obtain⟨⟨e',s,l',fr,ho⟩,hv,_⟩:=hx;have ho':st.ah o=some (.arr e' s l' fr):=ho;simp only[ho']at hg;split at hg
  .next hb=>
   have hrs:=ak.eq_of_beq s r hb;subst hrs;cases hg;rw[hv];show EF _ _ _ _ (γ o) l';have asx:(Cell.ref o).fresh st=fr:=by grind [Cell.fresh]
   obtain⟨xs,⟨h1,h2⟩,hr,hf,hx⟩:=h.ah o _ ho';rcases h2 with⟨hv,hn⟩|⟨g,cap,cur,hv,_,hg,hle,hmax,hsz,htake⟩
   .exact⟨by omega,.inl ⟨atH.1 hn,none,0,hv⟩⟩
   .refine⟨as3 hle hmax,.inr ⟨g,0,cap,cur,e',(0,0),hv,hle,(h.lt o _ g ho' (by rw[show γ o=_ from hv];rfl)).1,hg,λi x hi=>?_⟩⟩;have hlt:i<l'.length:=(ath.1 hi).1;have hmul:i*s.len+s.len<=l'.length*s.len:=by
     have:(i+1)*s.len<=l'.length*s.len:=atf _ hlt
     grind
    grind [fH]
  .cases hg
theorem ZX{t ty e:TypeId}{i:TypeInfo}(ht:P.underlying t=some (.slice e))(hi:P.info? e=some i){base size n:Nat}{v:Value}{xs:List Value}(hown:w.ownsRow base e size v n xs)(ad:Option Addr)(c:Nat):
 (Builtin.append_ #[t,t] ty #[v,.slice ad 0 c]).run P w=.ok v w:=by
 rcases hown.2 with⟨rfl,rfl⟩|⟨g,cap,cur,rfl,_,_,hnc,_⟩
 .cases ad with
  |none=>simp[Builtin.append_,ato ht,sizeOf,typeInfo,hi,Builtin.lenOf,Builtin.firstCells]
  |some ad=>simp[Builtin.append_,ato ht,sizeOf,typeInfo,hi,Builtin.lenOf,Builtin.firstCells,loadCells,loadCellsFrom]
 .cases ad with
  |none=>simp[Builtin.append_,ato ht,sizeOf,typeInfo,hi,Builtin.lenOf,Builtin.firstCells,hnc,storeCells]
  |some ad=>simp[Builtin.append_,ato ht,sizeOf,typeInfo,hi,Builtin.lenOf,Builtin.firstCells,hnc,storeCells,loadCells,loadCellsFrom]
theorem aZ.ones{h:Array Obj}{S:Nat->Prop}:∀(r:ak)(vs:List Value)(x:r.den),aZ h S r vs x->∀v∈vs,v.oneCell'=true
 |.nil,vs,_,H,v,hv=>by grind [aZ]
 |.cons c r,vs,(x,y),H,v,hv=>by
  obtain⟨u,vs',rfl,h1,h2⟩:=H;rcases atw.1 hv with rfl|hv
  .cases c with
   |int k=>rw[h1.1];rfl
   |bool=>rw[show _=_ from h1];rfl
   |str=>rw[h1.1];rfl
   |sl e s=>rcases h1.2 with⟨_,a,c,hv⟩|⟨b,off,cap,cs,t,fz,hv,_⟩<;>rw[hv]<;>rfl
  .exact aZ.ones r vs' y h2 v hv
theorem agz{t ty e:TypeId}{i:TypeInfo}{z:Value}{size bytes:Nat}(ht:P.underlying t=some (.slice e))(hi:P.info? e=some i)(hz:i.zero=some z)(hsize:i.size=size)(hby:i.bytes=bytes)(hpos:0<size)
 {v:Value} {n:Nat} {xs:List Value} (hown:w.ownsRow 0 e size v n xs) (ad:Addr) (c:Nat) {m:Nat} (hm:0<m) {ns:List Value} (hl:ns.length=m*size) (hnews:∀j u,ns[j]? =some u->w.cell? (ad.add j)=some u) (h1:∀u∈ns,u.oneCell'=true)
 (h63:n+m<=9223372036854775807) (hbytes:(n+m)*bytes<=140737488355328) {v':Value} {w':World} (hr:(Builtin.append_ #[t,t] ty #[v,.slice (some ad) m c]).run P w=.ok v' w') {g:Nat} (hg:v'.ownBlock=some g):
 v.ownBlock=some g\/w.heap.size<=g:=by
 subst hsize;subst hby;rcases hown.2 with⟨rfl,rfl⟩|⟨g',cap,cur,rfl,_,hgc,hnc,hcm,hcs,htake⟩
 .have hr2:=run_append_nil (P:=P) w t ty e i z ht hi hz ad m c ns hl hnews hm (by omega) (by grind);rw[hr]at hr2;cases hr2;cases hg
  grind
 .by_cases hroom:n+m<=cap
  .have hfit:n*i.size+ns.length<=cur.size:=by rw[hl,hcs,← at1];exact atf _ hroom
   have hr2:=run_append_room (P:=P) w t ty e i ht hi g' n cap cur hgc ad m c ns hl hnews h1 hroom hfit;rw[hr]at hr2;cases hr2;exact .inl hg
  .have holds:∀j u,xs[j]? =some u->w.cell? ((⟨g',0,none⟩:Addr).add j)=some u:=hown.cells (g:=g') rfl;have hr2:=run_append_grow (P:=P) w t ty e i z ht hi hz ⟨g',0,none⟩ n cap xs hown.1 holds ad m c ns hl hnews (by omega) (by omega) (growslice_fits (by omega) hbytes);rw[hr]at hr2;cases hr2;cases hg
   grind
theorem KH{t ty e:TypeId}{ti te:TI}(hT:jS P t ti)(hk:ti.kind=.slice e)(hE:jS P e te)(hpos:0<te.cells.len){v:Value}{n:Nat}{xs:List Value}(hown:w.ownsRow 0 e te.cells.len v n xs)
 {F:Nat->Prop} {src:Value} {news:List te.cells.den} (hs:EF w.heap (λb=>b<w.heap.size) te.cells.len (λvs y=>aZ w.heap F te.cells vs y) src news) (hbig:n+news.length<=big):
 ∃v' w' ns,(Builtin.append_ #[t,t] ty #[v,src]).run P w=.ok v' w'/\w'.ownsRow 0 e te.cells.len v' (n+news.length) (xs++ns)/\w.grownBy w' v.ownBlock/\
  (∀i x,news[i]? =some x->aZ w.heap F te.cells ((ns.drop (i*te.cells.len)).take te.cells.len) x)/\(∀g,v'.ownBlock=some g->v.ownBlock=some g\/w.heap.size<=g):=by
 obtain⟨i,z,hi,hsz,hby,hz,hzv,_⟩:=hE.info;have hu:=hT.und;rw[hk]at hu;have hzs:z.cells.size=te.cells.len:=by grind [zG]
 have zero:∀ad c,news=[]->src=.slice ad 0 c->∃v' w' ns,(Builtin.append_ #[t,t] ty #[v,src]).run P w=.ok v' w'/\w'.ownsRow 0 e te.cells.len v' (n+news.length) (xs++ns)/\w.grownBy w' v.ownBlock/\
  (∀i x,news[i]? =some x->aZ w.heap F te.cells ((ns.drop (i*te.cells.len)).take te.cells.len) x)/\(∀g,v'.ownBlock=some g->v.ownBlock=some g\/w.heap.size<=g):=by
  intro ad c hn0 hv;subst hn0;rw[hv];exact⟨v,w,[],ZX hu.1 hi hown ad c,by grind,⟨rfl,rfl,rfl,as7 _,λ_ _ _=>rfl⟩,(λi x hx=>by simp at hx),λg hg=>.inl hg⟩
 rcases hs.2 with⟨hn0,ad,c,hv⟩|⟨b,off,cap,cs,ty2,fz,hv,hcap,hlt,hb,hx⟩
 · grind
 .by_cases h0:news=[]
  · grind
  .have hm:0<news.length:=List.length_pos_iff.2 h0;have e1:(news.length-1)*te.cells.len+te.cells.len=news.length*te.cells.len:=by rw[← Nat.succ_mul];congr 1;omega
   have arJ:off+news.length*te.cells.len<=cs.toList.length:=by
    have hl:news.length-1<news.length:=by omega
    have hlast:=hx (news.length-1) _ (as5 hl);have:=aZ.length _ _ _ hlast
    grind
   let ns:List Value:=(cs.toList.drop off).take (news.length*te.cells.len)
   have hnl:ns.length=news.length*te.cells.len:=by
    grind
   have hnews:∀j u,ns[j]? =some u->w.cell? ((⟨b,off,none⟩:Addr).add j)=some u:=by intro j u hj;rw[addr_add];exact OE hb _ j u hj
   have Iu:∀u∈ns,u.oneCell'=true:=by
    intro u hu;obtain⟨j,hj⟩:=auu hu;have hjl:j<ns.length:=(ath.1 hj).1;rw[hnl]at hjl;have hil:j / te.cells.len<news.length:=Nat.div_lt_of_lt_mul (by grind);have hR:=hx (j / te.cells.len) _ (as5 hil);refine aZ.ones _ _ _ hR u ?_;have hdm:=Nat.div_add_mod j te.cells.len;have hml:=au7 j hpos;refine atB (i:=j%te.cells.len) ?_
    grind
   have hbb:=hE.small;unfold big at hbig;obtain⟨v',w',hr,hown',hg,_⟩:=run_append_own (P:=P) w 0 t ty e i z te.cells.len te.bytes hu.1 hi hz hsz hby hzs hpos v n xs hown ⟨b,off,none⟩ news.length cap ns hnl hnews Iu
    (by grind [maxLen]) (by have:(n+news.length)*te.bytes<=4294967296*4096:=avl hbig hbb;omega) (atl _)
   refine⟨v',w',ns,by grind,hown',hg,λi x hi=>?_,λg hgb=>?_⟩
   rotate_left
   .exact agz (P:=P) hu.1 hi hz hsz hby hpos hown ⟨b,off,none⟩ cap hm hnl hnews Iu (by omega) (by have:(n+news.length)*te.bytes<=4294967296*4096:=avl hbig hbb;omega) hr hgb
   have hil:i<news.length:=(ath.1 hi).1;have hmul:i*te.cells.len+te.cells.len<=news.length*te.cells.len:=by
    have:(i+1)*te.cells.len<=news.length*te.cells.len:=atf _ hil
    grind
   grind [fH,List.drop_drop]
theorem Jm{v:Value}(h:∀a,v≠ .pointer (some a)):v.ownBlock=blk v:=by
 cases v with
 |slice a n c=>cases a<;>rfl
 |pointer a=>cases a with
  |none=>rfl
  |some a=>grind
 |_=>rfl
theorem aeE{base size n:Nat}{e:TypeId}{v':Value}{xs:List Value}(hown:w'.ownsRow base e size v' n xs):
 ∀g,blk v'=some g->g<w'.heap.size:=by
 intro g hb;rcases hown.2 with⟨h1,_⟩|⟨g',cap,cur,h1,_,hh,_⟩
 .rw[h1]at hb;cases hb
 .rw[h1]at hb;cases hb
  grind
theorem afq(hΘ:∀t ti,Θ t=some ti->jS P t ti)(h:Rel w0 M T γ st a w){t ty e:TypeId}{ti te:TI}(ht:Θ t=some ti)(hk:ti.kind=.slice e)(he:Θ e=some te){o:Nat}{r:ak}{l:List r.den}{fr:Bool}
 (ho:st.ah o=some (.arr e r l fr)) (hbeq:te.cells.beq r=true) {y:Cell} {news:List te.cells.den} {v src:Value} (hv:aK (aj w0 T γ st w) (.ref o) v) (hy:aK (aj w0 T γ st w) y src)
 (hget:y.get st (.sl e te.cells)=some news) (hbig:l.length+news.length<=big):
 ∃u w' γ',(Builtin.append_ #[t,t] ty #[v,src]).run P w=.ok u w'/\Rel w0 M T γ' ((st.kill (Nat.beq o ·)).add o (.arr e r (l++qR hbeq news) (fr&&y.tN te.cells st))) a w'/\
  aQ (aj w0 T γ' ((st.kill (Nat.beq o ·)).add o (.arr e r (l++qR hbeq news) (fr&&y.tN te.cells st))) w') (.sv (.one (.ref o))) u:=by
 have hr:=ak.eq_of_beq _ _ hbeq;subst hr;obtain⟨_,hvγ,_⟩:=hv;subst hvγ;obtain⟨xs,hown,hpos,hfr,hrow⟩:=h.ah o _ ho;obtain⟨v',w',ns,hrun,hown',hg,hnr,hgb⟩:=KH (P:=P) (ty:=ty) (hΘ t ti ht) hk (hΘ e te he) hpos hown (Cell.agy h hy hget) hbig;have hlen:(l++qR hbeq news).length=l.length+news.length:=by rw[as4];rfl
 have hnp:∀ad,γ o≠ .pointer (some ad):=by
  rcases hown.2 with⟨h1,_⟩|⟨g,cap,cur,h1,_⟩
  · grind
  grind
 have aqF:v'.oneCell'=true:=by rcases hown'.2 with⟨h1,_⟩|⟨g,cap,cur,h1,_⟩<;>rw[h1]<;>rfl
 have hown2:=Jm hnp;have hnb:∀g,blk v'=some g->(some g=blk (γ o)\/w.heap.size<=g)/\g<w'.heap.size:=by
  intro g hb;refine⟨?_,aeE hown' g hb⟩;have hb2:v'.ownBlock=some g:=by
   rw[Jm (λad e1=>?_)]
   .exact hb
   .rcases hown'.2 with⟨h1,_⟩|⟨g,cap,cur,h1,_⟩<;>rw[e1]at h1<;>cases h1
  grind
 obtain⟨hR,_⟩:=h.replace (w':=w') (o:=o) (v':=v') (x':=.arr e te.cells (l++qR hbeq news) (fr&&y.tN te.cells st)) (blk (γ o)) (.inr ⟨_,ho,rfl⟩) hg.os hg.tape hg.output hg.size
  (λb hb hne=>hg.block b hb (by grind)) hnb (λ_ e=>by cases e) (λle=>by
    refine⟨xs++ns,?_,hpos,?_,?_⟩
    · grind [upd_same]
    .intro b hb hf;have hb:blk (upd γ o v' o)=some b:=hb;rw[upd_same]at hb;rcases(hnb b hb).1 with h1|h1
     · grind
     .exact as3 h.grow h1
    .intro i x hi;have hxl:xs.length=l.length*te.cells.len:=hown.1;by_cases hil:i<l.length
     .rw[auh hil]at hi;have hmul:i*te.cells.len+te.cells.len<=l.length*te.cells.len:=by
       have:(i+1)*te.cells.len<=l.length*te.cells.len:=atf _ hil
       grind
      have e1:((xs++ns).drop (i*te.cells.len)).take te.cells.len=(xs.drop (i*te.cells.len)).take te.cells.len:=by
       grind
      rw[e1];refine aZ.mono (λc hc=>le.bP _ c ⟨hc.1,λe2=>hc.2 (by grind)⟩) _ _ x (hrow i x hi)
     .rw[auy (by omega)]at hi;have e1:((xs++ns).drop (i*te.cells.len)).take te.cells.len=(ns.drop ((i-l.length)*te.cells.len)).take te.cells.len:=by
       have e2:i*te.cells.len=xs.length+(i-l.length)*te.cells.len:=by rw[hxl,← at1];congr 1;omega
       grind [List.drop_drop,List.drop_left]
      rw[e1];refine aZ.mono (λc hc=>le.bP _ c ⟨hc.1,λe2=>hc.2 (by grind)⟩) _ _ x (hnr _ x hi))
 exact⟨v',w',_,hrun,hR,⟨e,te.cells,_,_,add_same _ _ _⟩,(upd_same _ _ _).symm,aqF⟩
end Go.Fw
