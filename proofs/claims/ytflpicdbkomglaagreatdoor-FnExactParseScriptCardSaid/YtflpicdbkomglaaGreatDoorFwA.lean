import Derived.WalkKit
import Derived.Laws.AppendOwnNone
import Derived.KernelRfl
import Derived.Deep.MidRow
import Derived.Great.BuildSlice
import Derived.Laws.StructEq
import Derived.Great.FillDense
import Derived.Laws.MakeOwn
import Derived.Laws.BytesString
import Derived.Laws.IdiomStrings
abbrev anl:=@Bool.and_eq_true
abbrev anm:=@List.length_append
abbrev ann:=@beq_eq_false_iff_ne
abbrev ano:=@List.length_cons
abbrev anp:=@Nat.eq_of_beq_eq_true
abbrev anq:=@Array.getElem?_eq_some_iff
abbrev anr:=@Nat.le_refl
abbrev ant:=@Nat.zero_le
abbrev anu:=@List.getElem?_eq_getElem
abbrev anv:=@List.getElem?_eq_some_iff
abbrev anw:=@List.length_nil
abbrev anx:=@Nat.le_trans
abbrev anz:=@List.getD_eq_getElem?_getD
abbrev anA:=@decide_eq_true_eq
abbrev anB:=@List.mem_cons_of_mem
abbrev anC:=@List.mem_cons_self
abbrev anD:=@Nat.mul_le_mul_right
abbrev anE:=@Nat.lt_of_lt_of_le
abbrev anF:=@decide_eq_true
abbrev anG:=@List.append_assoc
abbrev anH:=@beq_iff_eq
abbrev anI:=@List.all_eq_true
abbrev anJ:=@Bool.and_false
abbrev anK:=@Go.Sem.run_bind
abbrev anL:=@Nat.lt_or_ge
abbrev anM:=@decide_eq_false
abbrev anN:=@List.mem_cons
abbrev anO:=@List.length_take
abbrev anP:=@List.map_cons
abbrev anQ:=@Bool.true_and
abbrev anR:=@Nat.zero_add
abbrev anS:=@List.length_drop
abbrev anT:=@Array.size_setIfInBounds
abbrev anU:=@Go.Calls.mono
abbrev anV:=@List.length_eq_zero_iff
abbrev anW:=@Go.run_underlying
abbrev anX:=@Array.getElem?_setIfInBounds_ne
abbrev anY:=@Int.toNat_natCast
abbrev anZ:=@List.getElem?_drop
abbrev an0:=@Bool.eq_iff_iff
abbrev an1:=@List.mem_of_getElem?
abbrev an2:=@cond_false
abbrev an3:=@List.getElem?_take
abbrev an4:=@List.append_nil
abbrev an5:=@decide_eq_false_iff_not
abbrev an6:=@Bool.and_true
abbrev an7:=@Array.length_toList
abbrev an8:=@List.getElem?_append_right
abbrev an9:=@Nat.add_mul
abbrev aoa:=@Bool.false_and
abbrev aob:=@List.length_map
abbrev aoc:=@List.mem_append
abbrev aod:=@Nat.not_lt_zero
abbrev aoe:=@Nat.beq_refl
abbrev aof:=@Go.heap_alloc_new
abbrev aog:=@List.append_eq_nil_iff
abbrev aoh:=@List.nil_append
abbrev aoi:=@List.getElem?_append_left
abbrev aoj:=@Go.Result.andThen_ok
abbrev aok:=@List.mem_append_left
abbrev aol:=@beq_self_eq_true
abbrev aom:=@cond_true
abbrev aon:=@Bool.not_true
abbrev aoo:=@bne_eq_false_iff_eq
abbrev aop:=@Option.map_some
abbrev aoq:=@List.mem_singleton
abbrev aor:=@Bool.not_false
abbrev aos:=@List.take_of_length_le
abbrev aot:=@Go.Sem.run_pure
abbrev aou:=@List.getElem?_set_ne
abbrev aov:=@List.cons_append
abbrev aow:=@List.getElem?_take_of_lt
abbrev aox:=@List.all_cons
abbrev aoy:=@Nat.le_of_ble_eq_true
abbrev aoz:=@List.take_succ_cons
abbrev aoA:=@Nat.succ_pos
abbrev aoB:=@List.take_succ_eq_append_getElem
abbrev aoC:=@of_decide_eq_true
abbrev aoD:=@List.flatMap_cons
abbrev aoE:=@Go.World.ownsRow_nil
abbrev aoF:=@Bool.or_eq_false_iff
abbrev aoG:=@List.mem_of_mem_drop
abbrev aoH:=@bne_iff_ne
abbrev aoI:=@List.drop_of_length_le
abbrev aoJ:=@Go.World.ownsRow.drew
abbrev aoK:=@List.getElem?_map
abbrev aoL:=@List.mem_iff_getElem
abbrev aoM:=@Bool.or_eq_true
abbrev aoN:=@List.mem_append_right
abbrev aoO:=@List.mem_range
abbrev aoP:=@List.getElem?_set_self
abbrev aoQ:=@List.take_length
abbrev aoR:=@List.drop_append_of_le_length
abbrev aoS:=@List.getElem?_eq_none
abbrev aoT:=@List.mem_of_mem_take
abbrev aoU:=@List.drop_length
abbrev aoV:=@Go.info_parts
abbrev aoW:=@Nat.add_zero
abbrev aoX:=@Bool.not_eq_true'
abbrev aoY:=@List.drop_eq_getElem_cons
abbrev aoZ:=@Array.getElem?_eq_getElem
abbrev ao0:=@of_decide_eq_false
abbrev ao1:=@List.drop_drop
abbrev ao2:=@List.size_toArray
abbrev ao3:=@true_and
abbrev ao4:=@bne_self_eq_false
abbrev ao5:=@List.map_append
abbrev ao6:=@List.map_map
abbrev ao7:=@Array.ext'
abbrev ao8:=@Nat.lt_succ_self
abbrev ao9:=@Bool.false_eq_true
abbrev apa:=@Ne.symm
abbrev apb:=@Classical.byContradiction
abbrev apc:=@Option.map_none
abbrev apd:=@List.ext_getElem?
abbrev ape:=@Nat.le_succ_of_le
abbrev apf:=@List.take_append_of_le_length
abbrev apg:=@List.getElem?_cons_succ
abbrev aph:=@List.length_pos_iff
abbrev apj:=@List.map_congr_left
abbrev apk:=@List.getElem_mem
abbrev apl:=@Int.le_refl
abbrev apm:=@Array.getD_eq_getD_getElem?
abbrev apn:=@Nat.zero_mul
abbrev apo:=@List.getElem?_tail
abbrev apq:=@List.length_set
abbrev apr:=@Array.getElem?_append_left
abbrev aps:=@List.take_zero
abbrev apt:=@Array.toList_map
abbrev apu:=@Option.getD_some
abbrev apv:=@List.mem_map
abbrev apw:=@Int.add_zero
abbrev apx:=@decide_false
abbrev apy:=@Prod.ext
abbrev apz:=@Nat.succ_le_succ
abbrev apA:=@Array.toList_append
abbrev apB:=@Nat.add_le_add_left
abbrev apC:=@List.getElem?_cons_zero
abbrev apD:=@Int.mul_le_mul_of_nonneg_right
abbrev apE:=@Nat.min_eq_left
abbrev apF:=@List.pairwise_cons
abbrev apG:=@decide_true
abbrev apH:=@List.take_append_drop
abbrev apI:=@if_false
abbrev apJ:=@Nat.ble_eq
abbrev apK:=@List.getElem?_of_mem
abbrev apL:=@List.cons_ne_nil
abbrev apM:=@List.map_id
abbrev apN:=@List.toList_toArray
abbrev apO:=@Array.mapM_eq_mapM_toList
abbrev apP:=@Nat.sub_self
abbrev apQ:=@Nat.mul_comm
abbrev apR:=@and_assoc
abbrev apS:=@Nat.one_le_two_pow
abbrev apT:=@List.mem_filterMap
abbrev apU:=@List.take_take
abbrev apV:=@Nat.mod_lt
abbrev apW:=@Nat.blt_eq
abbrev apX:=@List.getElem?_replicate
abbrev apY:=@List.flatMap_eq_nil_iff
abbrev apZ:=@Nat.mul_one
abbrev ap0:=@Array.getElem?_eq_none
abbrev ap1:=@Option.map_eq_some_iff
abbrev ap2:=@Bool.false_or
abbrev ap3:=@List.singleton_append
abbrev ap4:=@Array.getElem?_toList
abbrev ap5:=@Array.getElem?_modify
abbrev ap6:=@Nat.add_comm
abbrev ap7:=@Go.Oper.upon_enter
abbrev ap8:=@List.pairwise_append
abbrev ap9:=@and_congr_right
abbrev aqa:=@List.mem_filter
abbrev aqb:=@Go.World.cell?_of_block
abbrev aqc:=@Prod.ext_iff
abbrev aqd:=@UInt8.toNat_inj
abbrev aqe:=@List.drop_take
abbrev aqf:=@List.drop_zero
abbrev aqg:=@List.drop_left
abbrev aqh:=@Nat.one_mul
abbrev aqi:=@Nat.eq_zero_or_pos
abbrev aqj:=@Nat.add_assoc
abbrev aqk:=@Nat.add_mul_mod_self_right
abbrev aql:=@Nat.lt_irrefl
abbrev aqm:=@List.sum_cons
abbrev aqn:=@List.any_eq_false
abbrev aqo:=@List.all_eq_false
abbrev aqp:=@List.getElem?_eq_none_iff
abbrev aqr:=@Nat.mod_eq_of_lt
abbrev aqs:=@List.ext_getElem
abbrev aqt:=@List.all_nil
abbrev aqu:=@Bool.or_true
abbrev aqv:=@Int.natAbs_tmod
abbrev aqw:=@Int.tmod_nonneg
abbrev aqx:=@List.all_append
abbrev aqy:=@List.mapM_cons
namespace Go.Fw
open Go
abbrev Bytes:=List UInt8
mutual
inductive CT where
 |int (k:IntKind)
 |bool
 |str
 |sl (e:TypeId) (r:aB)
inductive aB where
 |nil
 |cons (c:CT) (r:aB)
end
mutual
def CT.beq:CT->CT->Bool
 |.int k,.int l=>decide (k=l)
 |.bool,.bool=>true
 |.str,.str=>true
 |.sl e r,.sl f s=>Nat.beq e f&&r.beq s
 |_,_=>false
def aB.beq:aB->aB->Bool
 |.nil,.nil=>true
 |.cons c r,.cons d s=>c.beq d&&r.beq s
 |_,_=>false
end
mutual
theorem CT.eq_of_beq:∀(c d:CT),c.beq d=true->c=d
 |.int k,.int l,h=>by simp[CT.beq]at h;rw[h]
 |.bool,.bool,_=>rfl
 |.str,.str,_=>rfl
 |.sl e r,.sl f s,h=>by
  simp[CT.beq]at h;rw[h.1,aB.eq_of_beq r s h.2]
 |.int _,.bool,h|.int _,.str,h|.int _,.sl _ _,h|.bool,.int _,h|.bool,.str,h|.bool,.sl _ _,h
 |.str,.int _,h|.str,.bool,h|.str,.sl _ _,h|.sl _ _,.int _,h|.sl _ _,.bool,h|.sl _ _,.str,h=>by simp[CT.beq]at h
theorem aB.eq_of_beq:∀(r s:aB),r.beq s=true->r=s
 |.nil,.nil,_=>rfl
 |.cons c r,.cons d s,h=>by
  simp[aB.beq]at h;rw[CT.eq_of_beq c d h.1,aB.eq_of_beq r s h.2]
 |.nil,.cons _ _,h|.cons _ _,.nil,h=>by simp[aB.beq]at h
end
mutual
@[reducible] def CT.den:CT->Type
  |.int _=>Int
  |.bool=>Bool
  |.str=>Bytes
  |.sl _ r=>List r.den
@[reducible] def aB.den:aB->Type
  |.nil=>Unit
  |.cons c r=>c.den×r.den
end
mutual
def CT.dflt:(c:CT)->c.den
 |.int _=>(0:Int)
 |.bool=>false
 |.str=>([]:Bytes)
 |.sl _ r=>([]:List r.den)
def aB.dflt:(r:aB)->r.den
 |.nil=>()
 |.cons c r=>(c.dflt,r.dflt)
end
instance(r:aB):Inhabited r.den:=⟨r.dflt⟩
def aB.len:aB->Nat
 |.nil=>0
 |.cons _ r=>r.len+1
def qG{α:Type}(h:Array Obj)(S:Nat->Prop)(size:Nat)(rep:List Value->α->Prop)(v:Value)(l:List α):Prop:=
 l.length<=maxLen/\
 ((l=[]/\∃a c,v=.slice a 0 c)\/
  ∃b off cap cs t fz,v=.slice (some ⟨b,off,none⟩) l.length cap/\l.length<=cap/\S b/\h[b]? =some (.cells cs t fz)/\
   ∀i x,l[i]? =some x->rep ((cs.toList.drop (off+i*size)).take size) x)
mutual
def bW(h:Array Obj)(S:Nat->Prop):(c:CT)->Value->c.den->Prop
 |.int k,v,(n:Int)=>v=.int k n/\k.min<=n/\n<=k.max
 |.bool,v,(b:Bool)=>v=.bool b
 |.str,v,(s:Bytes)=>v=.string ⟨s.toArray⟩/\s.length<=maxLen
 |.sl _ r,v,(l:List r.den)=>qG h S r.len (λvs x=>aU h S r vs x) v l
def aU(h:Array Obj)(S:Nat->Prop):(r:aB)->List Value->r.den->Prop
 |.nil,vs,_=>vs=[]
 |.cons c r,vs,(x,y)=>∃v vs',vs=v::vs'/\bW h S c v x/\aU h S r vs' y
end
def aB.flat:aB->Bool
 |.nil=>true
 |.cons (.sl _ _) _=>false
 |.cons _ r=>r.flat
theorem aU.flat{h:Array Obj}{S S':Nat->Prop}:∀(r:aB)(vs:List Value)(x:r.den),r.flat=true->aU h S r vs x->aU h S' r vs x
 |.nil,_,_,_,hr=>hr
 |.cons (.sl _ _) _,_,_,hf,_=>by simp[aB.flat]at hf
 |.cons (.int _) r,vs,(x,y),hf,hr=>by
  obtain⟨v,vs',h1,h2,h3⟩:=hr;exact⟨v,vs',h1,h2,aU.flat r vs' y hf h3⟩
 |.cons .bool r,vs,(x,y),hf,hr=>by
  obtain⟨v,vs',h1,h2,h3⟩:=hr;exact⟨v,vs',h1,h2,aU.flat r vs' y hf h3⟩
 |.cons .str r,vs,(x,y),hf,hr=>by obtain⟨v,vs',h1,h2,h3⟩:=hr;exact⟨v,vs',h1,h2,aU.flat r vs' y hf h3⟩
theorem qG.mono{α:Type}{h h':Array Obj}{S S':Nat->Prop}{size:Nat}{rep aiz:List Value->α->Prop}{v:Value}{l:List α}
 (H:qG h S size rep v l) (hk:∀b,S b->S' b/\h'[b]? =h[b]?) (hr:∀vs x,rep vs x->aiz vs x):qG h' S' size aiz v l:=by
 obtain⟨hl,H⟩:=H;refine⟨hl,?_⟩;rcases H with H|⟨b,off,cap,cs,t,fz,hv,hc,hS,hb,hx⟩
 .exact .inl H
 .exact .inr ⟨b,off,cap,cs,t,fz,hv,hc,(hk b hS).1,(hk b hS).2.trans hb,λi x hi=>hr _ _ (hx i x hi)⟩
mutual
theorem bW.mono{h h':Array Obj}{S S':Nat->Prop}(hk:∀b,S b->S' b/\h'[b]? =h[b]?):
 ∀(c:CT)(v:Value)(x:c.den),bW h S c v x->bW h' S' c v x
 |.int k,v,(n:Int),H=>by simpa[bW]using H
 |.bool,v,(b:Bool),H=>by simpa[bW]using H
 |.str,v,(s:Bytes),H=>by simpa[bW]using H
 |.sl _ r,v,(l:List r.den),H=>by rw[bW]at H ⊢;exact H.mono hk (λvs x hx=>aU.mono hk r vs x hx)
theorem aU.mono{h h':Array Obj}{S S':Nat->Prop}(hk:∀b,S b->S' b/\h'[b]? =h[b]?):
 ∀(r:aB)(vs:List Value)(x:r.den),aU h S r vs x->aU h' S' r vs x
 |.nil,vs,_,H=>by simpa[aU]using H
 |.cons c r,vs,(x,y),H=>by rw[aU]at H ⊢;obtain⟨v,vs',e,h1,h2⟩:=H;exact⟨v,vs',e,bW.mono hk c v x h1,aU.mono hk r vs' y h2⟩
end
theorem aU.length{h:Array Obj}{S:Nat->Prop}:∀(r:aB)(vs:List Value)(x:r.den),aU h S r vs x->vs.length=r.len
 |.nil,vs,_,H=>by rw[aU]at H;simp[H,aB.len]
 |.cons c r,vs,(x,y),H=>by rw[aU]at H;obtain⟨v,vs',rfl,_,h2⟩:=H;simp[aB.len,aU.length r vs' y h2]
end Go.Fw
namespace Go.Fw
open Go
inductive Cell where
 |int (k:IntKind) (n:Int)
 |bool (b:Bool)
 |str (s:Bytes)
 |nil
 |sl (e:TypeId) (r:aB) (l:List r.den) (fr:Bool)
 |ref (o:Nat)
 |junk
inductive SV where
 |one (c:Cell)
 |agg (cs:List Cell)
def SV.cells:SV->List Cell
 |.one c=>[c]
 |.agg cs=>cs
inductive AV where
 |undef
 |sv (v:SV)
 |kT (vs:List SV)
 |cZ (o off:Nat)
 |lU (o:Nat) (i:Nat) (off:Nat)
 |win (o:Nat) (lo:Nat) (n:Nat)
 |nX (r:aB) (x:r.den) (off:Nat) (fr:Bool)
 |dF (cs:List Cell) (off:Nat)
 |fn (f:FuncId) (caps:List (List Cell))
inductive aG where
 |var (cs:List Cell)
 |arr (e:TypeId) (r:aB) (l:List r.den) (fr:Bool)
structure St where
 n:Nat
 tmps:Nat->AV
 ah:Nat->Option aG
def St.set(st:St)(d:Nat)(v:AV):St:={st with tmps:=λt=>match Nat.beq t d with|true=>v|false=>st.tmps t}
def St.put(st:St)(d:Option Nat)(v:AV):St:=match d with|some d=>st.set d v|none=>st
def St.add(st:St)(o:Nat)(x:aG):St:={st with ah:=λi=>match Nat.beq i o with|true=>some x|false=>st.ah i}
def St.adds(st:St):List (Nat×aG)->St
 |[]=>st
 |(o,x)::r=>(st.add o x).adds r
def Cell.kill(S:Nat->Bool):Cell->Cell
 |.ref o=>match S o with|true=>.junk|false=>.ref o
 |c=>c
def SV.kill(S:Nat->Bool):SV->SV
 |.one c=>.one (c.kill S)
 |.agg cs=>.agg (cs.map (Cell.kill S))
def AV.kill(S:Nat->Bool):AV->AV
 |.undef=>.undef
 |.sv v=>.sv (v.kill S)
 |.kT vs=>.kT (vs.map (SV.kill S))
 |.cZ o off=>match S o with|true=>.undef|false=>.cZ o off
 |.lU o i off=>match S o with|true=>.undef|false=>.lU o i off
 |.win o i off=>match S o with|true=>.undef|false=>.win o i off
 |.nX r x off fr=>.nX r x off fr
 |.dF cs off=>.dF (cs.map (Cell.kill S)) off
 |.fn f caps=>.fn f (caps.map (List.map (Cell.kill S)))
def aG.kill(S:Nat->Bool):aG->aG
 |.var cs=>.var (cs.map (Cell.kill S))
 |.arr e r l fr=>.arr e r l fr
def St.kill(st:St)(S:Nat->Bool):St:=
 {n:=st.n,tmps:=λt=>(st.tmps t).kill S,ah:=λo=>match S o with|true=>none|false=>(st.ah o).map (aG.kill S)}
def Cell.freeze(st:St)(S:Nat->Bool):Cell->Cell
 |.ref o=>match S o with
  |true=>match st.ah o with
   |some (.arr e r l fr)=>.sl e r l fr
   |_=>.junk
  |false=>.ref o
 |c=>c
def SV.freeze(st:St)(S:Nat->Bool):SV->SV
 |.one c=>.one (c.freeze st S)
 |.agg cs=>.agg (cs.map (Cell.freeze st S))
def AV.freeze(st:St)(S:Nat->Bool):AV->AV
 |.undef=>.undef
 |.sv v=>.sv (v.freeze st S)
 |.kT vs=>.kT (vs.map (SV.freeze st S))
 |.cZ o off=>match S o with|true=>.undef|false=>.cZ o off
 |.lU o i off=>match S o with|true=>.undef|false=>.lU o i off
 |.win o i off=>match S o with|true=>.undef|false=>.win o i off
 |.nX r x off fr=>.nX r x off fr
 |.dF cs off=>.dF (cs.map (Cell.freeze st S)) off
 |.fn f caps=>.fn f (caps.map (List.map (Cell.freeze st S)))
def aG.freeze(st:St)(S:Nat->Bool):aG->aG
 |.var cs=>.var (cs.map (Cell.freeze st S))
 |.arr e r l fr=>.arr e r l fr
def St.freeze(st:St)(S:Nat->Bool):St:=
 {n:=st.n,tmps:=λt=>(st.tmps t).freeze st S,ah:=λo=>match S o with|true=>none|false=>(st.ah o).map (aG.freeze st S)}
inductive TK where
 |scalar
 |str
 |slice (e:TypeId)
 |struct (fs:List (Nat×TypeId))
structure TI where
 kind:TK
 cells:aB
 bytes:Nat
 cmp:Bool
def TI.agg(ti:TI):Bool:=match ti.kind with|.struct _=>true|_=>false
abbrev iF:=TypeId->Option TI
def CT.zero:CT->Cell
 |.int k=>.int k 0
 |.bool=>.bool false
 |.str=>.str []
 |.sl _ _=>.nil
def aB.zeros:aB->List Cell
 |.nil=>[]
 |.cons c r=>c.zero::r.zeros
def qW{r s:aB}(h:r.beq s=true)(l:List r.den):List s.den:=aB.eq_of_beq r s h▸l
def Cell.get(st:St):(c:CT)->Cell->Option c.den
 |.int k,.int l n=>match decide (k=l)with|true=>some n|false=>none
 |.bool,.bool b=>some b
 |.str,.str s=>some s
 |.sl _ _,.nil=>some []
 |.sl _ r,.sl _ s l _=>if h:s.beq r=true then some (qW h l)else none
 |.sl _ r,.ref o=>match st.ah o with
  |some (.arr _ s l _)=>if h:s.beq r=true then some (qW h l)else none
  |_=>none
 |_,_=>none
def xI(st:St):(r:aB)->List Cell->Option r.den
 |.nil,[]=>some ()
 |.cons c r,x::xs=>match x.get st c,xI st r xs with
  |some a,some b=>some (a,b)
  |_,_=>none
 |_,_=>none
def Cell.fresh(st:St):Cell->Bool
 |.sl _ _ _ fr=>fr
 |.ref o=>match st.ah o with|some (.arr _ _ _ fr)=>fr|_=>false
 |.junk=>false
 |_=>true
def Cell.ug(r:aB)(st:St)(y:Cell):Bool:=match r.flat with
 |true=>true
 |false=>y.fresh st
def CT.cell(fr:Bool):(c:CT)->c.den->Cell
 |.int k,(n:Int)=>.int k n
 |.bool,(b:Bool)=>.bool b
 |.str,(s:Bytes)=>.str s
 |.sl e r,(l:List r.den)=>.sl e r l fr
def aB.row(fr:Bool):(r:aB)->r.den->List Cell
 |.nil,_=>[]
 |.cons c r,x=>c.cell fr x.1::aB.row fr r x.2
def X3:Value->AV
 |.int k n=>match decide (k.min<=n)&&decide (n<=k.max)with|true=>.sv (.one (.int k n))|false=>.undef
 |.bool b=>.sv (.one (.bool b))
 |.string s=>match decide (s.data.toList.length<=maxLen)with|true=>.sv (.one (.str s.data.toList))|false=>.undef
 |.slice none 0 0=>.sv (.one .nil)
 |_=>.undef
def St.ev(st:St):Operand->AV
 |.tmp t=>st.tmps t
 |.const v=>X3 v
 |.func f=>.fn f []
 |.global _=>.undef
end Go.Fw
namespace Go.Fw
open Go
def big:Nat:=4294967296
inductive dR where
 |plain (x:Cell)
 |own (e:TypeId) (r:aB) (l:List r.den) (fr:Bool)
structure Out where
 aaB:List (Bool×List dR)
 var:Option (List Cell)
def Cell.made:Cell->Bool
 |.sl _ _ _ fr=>fr
 |.ref _=>false
 |_=>true
def dR.made:dR->Bool
 |.plain c=>c.made
 |.own _ _ _ fr=>fr
def Out.made(o:Out):Bool:=match o.var with
 |some cs=>cs.all Cell.made
 |none=>o.aaB.all λx=>x.2.all dR.made
inductive Arg where
 |sv (v:SV)
 |kp (cs:List Cell)
 |fn (f:FuncId) (caps:List (List Cell))
 |own (e:TypeId) (r:aB) (l:List r.den)
 |ptr (cs:List Cell)
abbrev EJ:=List Arg->Option (Prop×Out)
inductive Mode where
 |val
 |own
 |ptr
inductive Eff where
 |lose
 |arr (e:TypeId) (r:aB) (l:List r.den)
 |var (cs:List Cell)
structure JQ where
 T:Type
 R:T->Prop
 out:T->Out
 aJ:T->List Eff
abbrev JL:=List Arg->Option (Prop×JQ)
inductive FH where
 |pure (c:EJ)
 |eff (ms:List Mode) (c:JL)
abbrev jG:=FuncId->Option FH
def Cell.view(st:St):Cell->Cell
 |.ref o=>match st.ah o with
  |some (.arr e r l _)=>.sl e r l false
  |_=>.junk
 |.sl e r l _=>.sl e r l false
 |c=>c
def SV.view(st:St):SV->SV
 |.one c=>.one (c.view st)
 |.agg cs=>.agg (cs.map (Cell.view st))
def Cell.ok(st:St):Cell->Bool
 |.ref o=>match st.ah o with
  |some (.arr _ _ _ _)=>true
  |_=>false
 |_=>true
def ng(st:St):List AV->Option (List Arg)
 |[]=>some []
 |x::r=>match x,ng st r with
  |.sv v,some vs=>match v.cells.all (Cell.ok st)with
   |true=>some (.sv (v.view st)::vs)
   |false=>none
  |.dF cs off,some vs=>match Nat.beq off 0&&cs.all (Cell.ok st)with
   |true=>some (.kp (cs.map (Cell.view st))::vs)
   |false=>none
  |.fn f caps,some vs=>match caps.all (List.all · (Cell.ok st))with
   |true=>some (.fn f (caps.map (List.map (Cell.view st)))::vs)
   |false=>none
  |_,_=>none
def handed(st:St)(xs:List Operand)(caps:List (List Cell)):List AV:=xs.map st.ev++caps.map λcs=>.dF cs 0
def heldBy(st:St):List Operand->Option (List (List Cell))
 |[]=>some []
 |x::r=>match st.ev x,heldBy st r with
  |.dF cs off,some l=>match Nat.beq off 0 with
   |true=>some (cs::l)
   |false=>none
  |_,_=>none
def dR.take(k:Nat):dR->Cell×List (Nat×aG)
 |.plain c=>(c,[])
 |.own e r l fr=>(.ref k,[(k,.arr e r l fr)])
def iY(k:Nat):List dR->List Cell×List (Nat×aG)
 |[]=>([],[])
 |x::r=>((x.take k).1::(iY (k+1) r).1,(x.take k).2++(iY (k+1) r).2)
def sV(k:Nat)(x:Bool×List dR):SV×List (Nat×aG):=
 match x.1,iY k x.2 with
 |true,(cs,δ)=>(.agg cs,δ)
 |false,([c],δ)=>(.one c,δ)
 |false,(_,δ)=>(.one .junk,δ)
def gq(k:Nat):List (Bool×List dR)->List SV×List (Nat×aG)
 |[]=>([],[])
 |x::r=>((sV k x).1::(gq (k+x.2.length) r).1,(sV k x).2++(gq (k+x.2.length) r).2)
def Out.take(k:Nat)(o:Out):AV×List (Nat×aG):=
 match o.var with
 |some cs=>(.cZ (k-1) 0,[(k-1,.var cs)])
 |none=>match gq k o.aaB with
  |([v],δ)=>(.sv v,δ)
  |(vs,δ)=>(.kT vs,δ)
def bitsOf(op:BinOp)(k:IntKind)(x y:Int):Int:=
 let a:=BitVec.ofInt k.bits x
 let b:=BitVec.ofInt k.bits y
 match op with
 |.and=>k.wrap (a&&&b).toNat
 |.or=>k.wrap (a|||b).toNat
 |.xor=>k.wrap (a ^^^ b).toNat
 |_=>k.wrap (a&&&~~~b).toNat
def KJ(op:BinOp)(k:IntKind)(x y:Int):Option (Prop×Cell):=
 match op with
 |.add=>some (True,.int k (k.wrap (x+y)))
 |.sub=>some (True,.int k (k.wrap (x-y)))
 |.mul=>some (True,.int k (k.wrap (x*y)))
 |.quo=>some (y≠0,.int k (k.wrap (x.tdiv y)))
 |.rem=>some (y≠0,.int k (x.tmod y))
 |.and|.or|.xor|.andNot=>some (True,.int k (bitsOf op k x y))
 |.eql=>some (True,.bool (x==y))
 |.neq=>some (True,.bool (x !=y))
 |.lss=>some (True,.bool (decide (x<y)))
 |.leq=>some (True,.bool (decide (x<=y)))
 |.gtr=>some (True,.bool (decide (x>y)))
 |.geq=>some (True,.bool (decide (x>=y)))
 |_=>none
def PY(op:BinOp)(x y:Bytes):Option (Prop×Cell):=
 match op with
 |.add=>some (x.length+y.length<=maxLen,.str (x++y))
 |.eql=>some (True,.bool (x==y))
 |.neq=>some (True,.bool (!(x==y)))
 |.lss=>some (True,.bool (Op.bytesLess x y))
 |.leq=>some (True,.bool (Op.bytesLess x y||x==y))
 |.gtr=>some (True,.bool (!(Op.bytesLess x y||x==y)))
 |.geq=>some (True,.bool (!(Op.bytesLess x y)))
 |_=>none
def PZ:Cell->Cell->Option Bool
 |.int k a,.int l b=>match decide (k=l)with|true=>some (a==b)|false=>none
 |.bool a,.bool b=>some (a==b)
 |.str a,.str b=>some (a==b)
 |_,_=>none
def CT.fits:CT->Cell->Bool
 |.int k,.int l _=>decide (k=l)
 |.bool,.bool _=>true
 |.str,.str _=>true
 |_,_=>false
def aB.fits:aB->List Cell->Bool
 |.nil,[]=>true
 |.cons c r,x::xs=>c.fits x&&r.fits xs
 |_,_=>false
def jr:List Cell->List Cell->Option Bool
 |[],[]=>some true
 |x::xs,y::ys=>match PZ x y,jr xs ys with
  |some a,some b=>some (a&&b)
  |_,_=>none
 |_,_=>none
def KL(op:BinOp)(x y:Cell):Option (Prop×Cell):=
 match x,y with
 |.int k a,.int l b=>
  match op with
  |.shl=>some (0<=b,.int k (k.wrap (a*2 ^ (min b.toNat k.bits))))
  |.shr=>some (0<=b,.int k (a.fdiv (2 ^ (min b.toNat k.bits))))
  |_=>match decide (k=l)with|true=>KJ op k a b|false=>none
 |.str a,.str b=>PY op a b
 |.bool a,.bool b=>match op with
  |.eql=>some (True,.bool (a==b))
  |.neq=>some (True,.bool (!(a==b)))
  |_=>none
 |_,_=>none
def splice(xs:List Cell)(off:Nat)(ys:List Cell):List Cell:=xs.take off++ys++xs.drop (off+ys.length)
def Cell.isRef:Cell->Bool|.ref _=>true|_=>false
def Cell.refs:Cell->List Nat|.ref o=>[o]|_=>[]
variable (Θ:iF) (Γ:jG)
def BN(st:St)(fs:List (Nat×TypeId)):List (Nat×Operand)->List Cell->Option (List Cell)
 |[],cs=>some cs
 |(i,x)::r,cs=>match fs[i]?,st.ev x with
  |some (off,t),.sv v=>match Θ t with
   |some ti=>match Nat.beq v.cells.length ti.cells.len&&Nat.ble (off+ti.cells.len) cs.length with
    |true=>BN st fs r (splice cs off v.cells)
    |false=>none
   |none=>none
  |_,_=>none
def Ai(st:St)(r:aB):Nat->List (Nat×Operand)->Option (List r.den)
 |_,[]=>some []
 |k,(i,x)::p=>match Nat.beq i k,st.ev x,Ai st r (k+1) p with
  |true,.sv v,some l=>match xI st r v.cells with
   |some a=>some (a::l)
   |none=>none
  |_,_,_=>none
def lJ(st:St):List (Nat×Operand)->Bool
 |[]=>true
 |(_,x)::p=>(match st.ev x with|.sv v=>v.cells.all (Cell.fresh st)|_=>false)&&lJ st p
def kU(st:St):List (Nat×Operand)->List Nat
 |[]=>[]
 |(_,x)::p=>(match st.ev x with|.sv v=>v.cells.flatMap Cell.refs|_=>[])++kU st p
def rC:AV->Option Int
 |.sv (.one (.int _ n))=>some n
 |_=>none
def kV(st:St)(len:Nat)(lo hi:Option Operand):Option (Prop×Nat×Nat):=
 match lo,hi with
 |none,none=>some (True,0,len)
 |some l,none=>match rC (st.ev l)with
  |some a=>some (0<=a/\a<=len,a.toNat,len)
  |none=>none
 |none,some h=>match rC (st.ev h)with
  |some b=>some (0<=b/\b<=len,0,b.toNat)
  |none=>none
 |some l,some h=>match rC (st.ev l),rC (st.ev h)with
  |some a,some b=>some (0<=a/\a<=b/\b<=len,a.toNat,b.toNat)
  |_,_=>none
def P5(st:St)(n room:Nat)(lo hi:Option Operand):Option (Prop×Nat×Nat):=match hi with
 |none=>kV st n lo none
 |some h=>kV st room lo (some h)
def UR(x:(aB.cons (.int .u8) .nil).den):Int:=x.1
def byteRow(l:List (aB.cons (.int .u8) .nil).den):Bytes:=l.map λx=>UInt8.ofNat (UR x).toNat
def Aj(s:Bytes):List (aB.cons (.int .u8) .nil).den:=s.map λb=>((b.toNat:Int),())
def jY(ti:TI)(cs:List Cell)(off:Nat):Option SV:=
 match ti.agg with
 |true=>match Nat.ble (off+ti.cells.len) cs.length with
  |true=>some (.agg ((cs.drop off).take ti.cells.len))
  |false=>none
 |false=>match cs[off]? with
  |some c=>some (.one c)
  |none=>none
def adk(t:TypeId):Cell->Bool
 |.bool _=>match Θ t with
  |some ti=>match ti.cells with
   |.cons .bool .nil=>ti.agg==false
   |_=>false
  |none=>false
 |_=>true
def AV.refs:AV->List Nat
 |.sv v=>v.cells.flatMap Cell.refs
 |.dF cs _=>cs.flatMap Cell.refs
 |.fn _ caps=>caps.flatMap λcs=>cs.flatMap Cell.refs
 |_=>[]
def sW:List AV->List Nat
 |[]=>[]
 |x::r=>x.refs++sW r
def CP(xs:List AV):Bool:=match sW xs with|[]=>true|_::_=>false
def calm(d:Nat)(st:St):Op->Option (Prop×AV×List (Nat×aG))
 |.move x|.assign x=>some (True,st.ev x,[])
 |.nilCheck x=>match st.ev x with
  |.cZ o off=>some (True,.cZ o off,[])
  |.lU o i off=>some (True,.lU o i off,[])
  |.nX r x off fr=>some (True,.nX r x off fr,[])
  |.dF cs off=>some (True,.dF cs off,[])
  |.fn f caps=>some (True,.fn f caps,[])
  |_=>none
 |.makeFunc (.func f) first captured=>match first.toList,heldBy st captured.toList with
  |[],some l=>some (True,.fn f l,[])
  |_,_=>none
 |.pick c a b=>match st.ev c with
  |.sv (.one (.bool g))=>some (True,match g with|true=>st.ev a|false=>st.ev b,[])
  |_=>none
 |.alloc t=>match Θ t with
  |some ti=>some (True,.cZ (d*64) 0,[(d*64,.var ti.cells.zeros)])
  |none=>none
 |.box _ x=>match st.ev x with
  |.sv v=>some (True,.cZ (d*64) 0,[(d*64,.var v.cells)])
  |_=>none
 |.build t parts=>match Θ t with
  |some ti=>match ti.kind with
   |.struct fs=>match BN Θ st fs parts.toList ti.cells.zeros with
    |some cs=>some (True,.sv (.agg cs),[])
    |none=>none
   |_=>none
  |none=>none
 |.buildSlice t len parts=>match Θ t with
  |some ti=>match ti.kind with
   |.slice e=>match Θ e with
    |some te=>match Nat.beq len parts.size&&Nat.ble 1 te.cells.len&&Nat.ble (len*te.cells.len) 16777216,kU st parts.toList,Ai st te.cells 0 parts.toList with
     |true,[],some l=>some (True,.sv (.one (.ref (d*64+1))),[(d*64+1,.arr e te.cells l (lJ st parts.toList))])
     |_,_,_=>none
    |none=>none
   |_=>none
  |none=>none
 |.makeSlice t x y=>match Θ t,rC (st.ev x),rC (st.ev y)with
  |some ti,some n,some c=>match ti.kind with
   |.slice e=>match Θ e with
    |some te=>match Nat.ble 1 te.cells.len with
     |true=>some (0<=n/\n<=c/\c<=(big:Int),.sv (.one (.ref (d*64+1))),[(d*64+1,.arr e te.cells (List.replicate n.toNat te.cells.dflt) true)])
     |false=>none
    |none=>none
   |_=>none
  |_,_,_=>none
 |.load t p=>match Θ t,st.ev p with
  |some ti,.cZ o off=>match st.ah o with
   |some (.var cs)=>match jY ti cs off with
    |some v=>some (True,.sv v,[])
    |none=>none
   |_=>none
  |some ti,.lU o i off=>match st.ah o with
   |some (.arr _ r l fr)=>match jY ti (aB.row fr r (l.getD i r.dflt)) off with
    |some v=>some (i<l.length,.sv v,[])
    |none=>none
   |_=>none
  |some ti,.nX r x off fr=>match jY ti (aB.row fr r x) off with
   |some v=>some (True,.sv v,[])
   |none=>none
  |some ti,.dF cs off=>match jY ti cs off with
   |some v=>some (True,.sv v,[])
   |none=>none
  |_,_=>none
 |.fieldAddr s p f=>match Θ s with
  |some ti=>match ti.kind with
   |.struct fs=>match fs[f]? with
    |some (k,t)=>match Θ t with
     |some te=>match te.cells,st.ev p with
      |.nil,_=>none
      |_,.cZ o off=>some (True,.cZ o (off+k),[])
      |_,.lU o i off=>some (True,.lU o i (off+k),[])
      |_,.nX r x off fr=>some (True,.nX r x (off+k) fr,[])
      |_,.dF cs off=>some (True,.dF cs (off+k),[])
      |_,_=>none
     |none=>none
    |none=>none
   |_=>none
  |none=>none
 |.field s x f=>match Θ s with
  |some ti=>match ti.kind with
   |.struct fs=>match fs[f]?,st.ev x with
    |some (k,t),.sv (.agg cs)=>match Θ t with
     |some te=>match jY te cs k with
      |some v=>some (True,.sv v,[])
      |none=>none
     |none=>none
    |_,_=>none
   |_=>none
  |none=>none
 |.indexAddr t x ix=>match Θ t,rC (st.ev ix)with
  |some ti,some n=>match ti.kind with
   |.slice e=>match Θ e,st.ev x with
    |some te,.sv (.one (.sl _ r l fr))=>match te.cells.beq r with
     |true=>some (0<=n/\n<l.length,.nX r (l.getD n.toNat r.dflt) 0 fr,[])
     |false=>none
    |some te,.sv (.one (.ref o))=>match st.ah o with
     |some (.arr _ r l _)=>match te.cells.beq r with
      |true=>some (0<=n/\n<l.length,.lU o n.toNat 0,[])
      |false=>none
     |_=>none
    |some _,.sv (.one .nil)=>some (False,.undef,[])
    |_,_=>none
   |_=>none
  |_,_=>none
 |.index t x ix=>match Θ t,rC (st.ev ix),st.ev x with
  |some ti,some n,.sv (.one (.str s))=>match ti.kind with
   |.str=>some (0<=n/\n<s.length,.sv (.one (.int .u8 ((s.getD n.toNat 0).toNat:Int))),[])
   |_=>none
  |_,_,_=>none
 |.binOp op t x y _=>match st.ev x,st.ev y with
  |.sv (.one a),.sv (.one b)=>match adk Θ t a with
   |true=>match KL op a b with
    |some (p,c)=>some (p,.sv (.one c),[])
    |none=>none
   |false=>none
  |.sv (.agg a),.sv (.agg b)=>match Θ t with
   |some ti=>match ti.cmp,jr a b,op with
    |true,some g,.eql=>match ti.cells.fits a with
     |true=>some (True,.sv (.one (.bool g)),[])
     |false=>none
    |true,some g,.neq=>match ti.cells.fits a with
     |true=>some (True,.sv (.one (.bool (!g))),[])
     |false=>none
    |_,_,_=>none
   |none=>none
  |_,_=>none
 |.unOp op _ x=>match op,st.ev x with
  |.not,.sv (.one (.bool b))=>some (True,.sv (.one (.bool (!b))),[])
  |.neg,.sv (.one (.int k n))=>some (True,.sv (.one (.int k (k.wrap (0-n)))),[])
  |_,_=>none
 |.convert src dst x=>match Θ src,Θ dst,st.ev x with
  |some ts,some td,.sv (.one c)=>if ts.agg||td.agg then none else match ts.cells,td.cells,c with
   |.cons (.int _) .nil,.cons (.int k) .nil,.int _ n=>some (True,.sv (.one (.int k (k.wrap n))),[])
   |.cons .str .nil,.cons .str .nil,.str s=>some (True,.sv (.one (.str s)),[])
   |.cons .str .nil,.cons (.sl e (.cons (.int .u8) .nil)) .nil,.str s=>match Θ e with
    |some te=>match te.cells,te.agg with
     |.cons (.int .u8) .nil,false=>some (True,.sv (.one (.sl e (.cons (.int .u8) .nil) (Aj s) true)),[])
     |_,_=>none
    |none=>none
   |.cons (.sl e (.cons (.int .u8) .nil)) .nil,.cons .str .nil,c=>match c.get st (.sl e (.cons (.int .u8) .nil)),Θ e with
    |some l,some te=>match te.cells,te.agg with
     |.cons (.int .u8) .nil,false=>some (True,.sv (.one (.str (byteRow l))),[])
     |_,_=>none
    |_,_=>none
   |_,_,_=>none
  |_,_,_=>none
 |.extract x ix=>match st.ev x with
  |.kT vs=>match vs[ix]? with
   |some v=>some (True,.sv v,[])
   |none=>none
  |_=>none
 |.slice t x lo hi none=>match Θ t,st.ev x with
  |some ti,.sv (.one (.str s))=>match ti.kind,kV st s.length lo hi with
   |.str,some (p,a,b)=>some (p,.sv (.one (.str ((s.take b).drop a))),[])
   |_,_=>none
  |some ti,.sv (.one (.sl e r l fr))=>match ti.kind,kV st l.length lo hi with
   |.slice f,some (p,a,b)=>match Θ f with
    |some te=>match te.cells.beq r with
     |true=>some (p,.sv (.one (.sl e r ((l.take b).drop a) fr)),[])
     |false=>none
    |none=>none
   |_,_=>none
  |some ti,.sv (.one .nil)=>match ti.kind,kV st 0 lo hi with
   |.slice f,some (p,_,_)=>match Θ f with
    |some _=>some (p,.sv (.one .nil),[])
    |none=>none
   |_,_=>none
  |some ti,.win o wI n0=>match ti.kind,st.ah o with
   |.slice f,some (.arr _ r l _)=>match Θ f,P5 st n0 (l.length-wI) lo hi with
    |some te,some (p,a,b)=>match te.cells.beq r with
     |true=>some (p,.win o (wI+a) (b-a),[])
     |false=>none
    |_,_=>none
   |_,_=>none
  |_,_=>none
 |.slice t x (some lo) (some hi) (some mx)=>match Θ t,st.ev x with
  |some ti,.sv (.one (.ref o))=>match ti.kind,st.ah o with
   |.slice f,some (.arr _ _ l _)=>match Θ f,rC (st.ev lo),rC (st.ev hi),rC (st.ev mx)with
    |some _,some a,some b,some c=>some (0<=a/\a<=b/\b<=c/\c<=l.length,.undef,[])
    |_,_,_,_=>none
   |_,_=>none
  |_,_=>none
 |.call {callee:=.builtin .len,args,argTypes}=>match args.toList,argTypes.toList with
  |[x],[t]=>match Θ t,st.ev x with
   |some ti,.sv (.one c)=>match ti.kind,c with
    |.str,.str s=>some (True,.sv (.one (.int .i64 s.length)),[])
    |.slice _,.sl _ _ l _=>some (True,.sv (.one (.int .i64 l.length)),[])
    |.slice _,.nil=>some (True,.sv (.one (.int .i64 0)),[])
    |.slice _,.ref o=>match st.ah o with
     |some (.arr _ _ l _)=>some (True,.sv (.one (.int .i64 l.length)),[])
     |_=>none
    |_,_=>none
   |some ti,.win _ _ n=>match ti.kind with
    |.slice _=>some (True,.sv (.one (.int .i64 n)),[])
    |_=>none
   |_,_=>none
  |_,_=>none
 |.call {callee:=.builtin .min,args,.. }=>match args.toList with
  |[x,y]=>match st.ev x,st.ev y with
   |.sv (.one (.int k a)),.sv (.one (.int l b))=>match decide (k=l)with
    |true=>some (True,.sv (.one (.int k (if b<a then b else a))),[])
    |false=>none
   |_,_=>none
  |_=>none
 |.call {callee:=.builtin .max,args,.. }=>match args.toList with
  |[x,y]=>match st.ev x,st.ev y with
   |.sv (.one (.int k a)),.sv (.one (.int l b))=>match decide (k=l)with
    |true=>some (True,.sv (.one (.int k (if b>a then b else a))),[])
    |false=>none
   |_,_=>none
  |_=>none
 |.call {callee:=.value x,args,.. }=>match st.ev x with
  |.fn f caps=>match Γ f,ng st (handed st args.toList caps)with
   |some (.pure con),some vs=>match con vs with
    |some (p,out)=>match out.made||CP (handed st args.toList caps)with
     |true=>some (p,(out.take (d*64+1)).1,(out.take (d*64+1)).2)
     |false=>none
    |none=>none
   |_,_=>none
  |_=>none
 |_=>none
def aaC(st:St)(xs:List Operand)(caps:List (List Cell))(o:Nat):Bool:=(sW (handed st xs caps)).contains o
def ad6(st:St)(xs:List Operand)(caps:List (List Cell)):St:=st.freeze (aaC st xs caps)
def ahp(st:St)(xs:List Operand)(caps:List (List Cell)):List AV:=(handed st xs caps).map (AV.freeze st (aaC st xs caps))
def Ak:List Mode->List AV->List AV
 |_,[]=>[]
 |[],xs=>xs
 |.val::ms,x::xs=>x::Ak ms xs
 |_::ms,_::xs=>Ak ms xs
def RS(st:St)(ms:List Mode)(xs:List Operand)(caps:List (List Cell))(o:Nat):Bool:=(sW (Ak ms (handed st xs caps))).contains o
def Hl(st:St)(ms:List Mode)(xs:List Operand)(caps:List (List Cell)):St:=st.freeze (RS st ms xs caps)
def afd(st:St)(ms:List Mode)(xs:List Operand)(caps:List (List Cell)):List AV:=(handed st xs caps).map (AV.freeze st (RS st ms xs caps))
def nO(st:St)(m:Mode)(x:AV):Option (Arg×Option Nat):=
 match m with
 |.val=>match x.refs,ng st [x]with
  |[],some [a]=>some (a,none)
  |_,_=>none
 |.own=>match x with
  |.sv (.one (.ref o))=>match st.ah o with
   |some (.arr e r l _)=>some (.own e r l,some o)
   |_=>none
  |_=>none
 |.ptr=>match x with
  |.cZ o off=>match Nat.beq off 0,st.ah o with
   |true,some (.var cs)=>match cs.flatMap Cell.refs with
    |[]=>some (.ptr (cs.map (Cell.view st)),some o)
    |_=>none
   |_,_=>none
  |_=>none
def hands(st:St):List Mode->List AV->Option (List Arg×List (Option Nat))
 |_,[]=>some ([],[])
 |ms,x::xs=>match nO st (ms.headD .val) x,hands st ms.tail xs with
  |some (a,o),some (as,os)=>some (a::as,o::os)
  |_,_=>none
def P6(o:Nat):List (Option Nat)->Bool
 |[]=>false
 |some p::r=>match Nat.beq o p with|true=>true|false=>P6 o r
 |none::r=>P6 o r
def vO:List (Option Nat)->Bool
 |[]=>true
 |some p::r=>!(P6 p r)&&vO r
 |none::r=>vO r
def kD(aJ:List Eff)(p:Nat):Option aG:=
 match aJ[p / 64]? with
 |some (.arr e r l)=>match Nat.beq (p%64) 49 with|true=>some (.arr e r l false)|false=>none
 |some (.var cs)=>match Nat.beq (p%64) 48 with|true=>some (.var cs)|false=>none
 |_=>none
def EO(aJ:List Eff)(δ:List (Nat×aG)):Bool:=δ.all λy=>(kD aJ y.1).isNone
def lK(st:St):List (Option Nat)->List Eff->Option (List (Nat×aG))
 |[],_=>some []
 |none::os,aJ=>lK st os aJ.tail
 |some o::os,aJ=>match aJ.head?,st.ah o,lK st os aJ.tail with
  |some .lose,_,some δ=>some δ
  |some (.arr e r l),some (.arr f s _ _),some δ=>match Nat.beq e f&&r.beq s with
   |true=>some ((o,.arr e r l false)::δ)
   |false=>none
  |some (.var cs),some (.var _),some δ=>match cs.flatMap Cell.refs with
   |[]=>some ((o,.var cs)::δ)
   |_=>none
  |_,_,_=>none
def gI:List (Option Nat)->List Eff->Nat->Bool
 |[],_,_=>false
 |none::os,aJ,p=>gI os aJ.tail p
 |some o::os,aJ,p=>match aJ.head? with
  |some .lose=>match Nat.beq o p with|true=>true|false=>gI os aJ.tail p
  |_=>gI os aJ.tail p
def iP(st:St)(δ:List (Nat×aG)):Bool:=δ.all λy=>(st.ah y.1).isNone
def ni{α:Type}(l:List α)(lo:Nat)(news:List α):List α:=l.take lo++news++l.drop (lo+news.length)
def P7(Θ:iF)(st:St)(ti:TI)(o wI n0 o2 lo2 n2:Nat):Option (Prop×AV×St):=match Nat.beq wI 0&&Nat.beq o o2,ti.kind,st.ah o with
 |true,.slice e,some (.arr f r l fr)=>match Θ e with
  |some te=>match te.cells.beq r&&Nat.beq e f with
   |true=>some (n0+n2<=l.length/\lo2+n2<=l.length,.win o 0 (n0+n2),st.add o (.arr f r (ni l n0 ((l.drop lo2).take n2)) fr))
   |false=>none
  |none=>none
 |_,_,_=>none
def UU(Θ:iF)(st:St)(ti:TI)(o lo n:Nat):Option (Prop×AV×St):=match ti.kind,st.ah o with
 |.slice e,some (.arr f r l fr)=>match Θ e with
  |some te=>match te.cells.beq r&&Nat.beq e f with
   |true=>some (lo+n<=l.length,.kT [],st.add o (.arr f r (ni l lo (List.replicate n r.dflt)) fr))
   |false=>none
  |none=>none
 |_,_=>none
def store(st:St)(p:AV)(v:SV):Option (Prop×St):=
 match p with
 |.cZ o off=>match st.ah o with
  |some (.var cs)=>match Nat.ble (off+v.cells.length) cs.length with
   |true=>some (True,st.add o (.var (splice cs off v.cells)))
   |false=>none
  |_=>none
 |.lU o i off=>match v.cells.flatMap Cell.refs,st.ah o with
  |[],some (.arr e r l fr)=>match xI st r (splice (aB.row fr r (l.getD i r.dflt)) off v.cells),Nat.ble (off+v.cells.length) r.len with
   |some x,true=>some (i<l.length,st.add o (.arr e r (l.set i x) (fr&&v.cells.all (Cell.fresh st))))
   |_,_=>none
  |_,_=>none
 |_=>none
def yP(p:AV)(v:SV)(o:Nat):Bool:=match p with|.lU _ _ _=>(v.cells.flatMap Cell.refs).contains o|_=>false
def eff(d:Nat)(st:St):Op->Option (Prop×AV×St)
 |.store t p x=>match st.ev x,Θ t with
  |.sv v,some ti=>match Nat.beq v.cells.length ti.cells.len with
   |true=>match store (st.freeze (yP (st.ev p) v)) ((st.ev p).freeze st (yP (st.ev p) v)) (v.freeze st (yP (st.ev p) v))with
    |some (q,s)=>some (q,.undef,s)
    |none=>none
   |false=>none
  |_,_=>none
 |.buildSlice t len parts=>
  match calm Θ Γ d (st.freeze ((kU st parts.toList).contains ·)) (.buildSlice t len parts)with
  |some (p,v,δ)=>match iP (st.freeze ((kU st parts.toList).contains ·)) δ with
   |true=>some (p,v,(st.freeze ((kU st parts.toList).contains ·)).adds δ)
   |false=>none
  |none=>none
 |.slice t x lo hi none=>match Θ t,st.ev x with
  |some ti,.sv (.one (.ref o))=>match ti.kind,st.ah o with
   |.slice f,some (.arr e r l fr)=>match Θ f,kV st l.length lo hi with
    |some te,some (p,_,b)=>match te.cells.beq r with
     |true=>match lo with
      |none=>some (p,.sv (.one (.ref o)),(st.kill (Nat.beq o ·)).add o (.arr e r (l.take b) fr))
      |some l0=>match calm Θ Γ d (st.freeze (Nat.beq o ·)) (.slice t x (some l0) hi none)with
       |some (q,v,[])=>some (q,v,st.freeze (Nat.beq o ·))
       |_=>none
     |false=>none
    |_,_=>none
   |_,_=>none
  |_,_=>none
 |.call {callee:=.builtin .append,args,argTypes}=>match args.toList,argTypes.toList with
  |[s,x],[t,u]=>match Nat.beq t u,Θ t,st.ev s,st.ev x with
   |true,some ti,.sv (.one c),.sv (.one y)=>match ti.kind with
    |.slice e=>match Θ e with
     |some te=>match y.get st (.sl e te.cells),c with
      |some news,.ref o=>match st.ah o with
       |some (.arr f r l fr)=>if h:te.cells.beq r=true then
         match Nat.beq e f with
         |true=>some (l.length+news.length<=big,.sv (.one (.ref o)),(st.kill (Nat.beq o ·)).add o (.arr e r (l++qW h news) (fr&&y.ug te.cells st)))
         |false=>none
        else none
       |_=>none
      |some news,.nil=>match Nat.ble 1 te.cells.len with
       |true=>some (news.length<=big,.sv (.one (.ref (d*64+1))),(st.kill (Nat.beq (d*64+1) ·)).add (d*64+1) (.arr e te.cells news (y.ug te.cells st)))
       |false=>none
      |_,_=>none
     |none=>none
    |_=>none
   |true,some ti,.win o wI n0,.win o2 lo2 n2=>P7 Θ st ti o wI n0 o2 lo2 n2
   |_,_,_,_=>none
  |_,_=>none
 |.call {callee:=.builtin .clear,args,argTypes}=>match args.toList,argTypes.toList with
  |[x],[t]=>match Θ t,st.ev x with
   |some ti,.win o lo n=>UU Θ st ti o lo n
   |_,_=>none
  |_,_=>none
 |.call {callee:=.value x,args,.. }=>
  match st.ev x with
  |.fn f caps=>
   match Γ f with
   |some (.pure con)=>match ng (ad6 st args.toList caps) (ahp st args.toList caps),sW (ahp st args.toList caps)with
    |some vs,[]=>match con vs with
     |some (p,out)=>match iP (ad6 st args.toList caps) (out.take (d*64+1)).2 with
      |true=>some (p,(out.take (d*64+1)).1,(ad6 st args.toList caps).adds (out.take (d*64+1)).2)
      |false=>none
     |none=>none
    |_,_=>none
   |_=>none
  |_=>none
 |_=>none
def VN(st:St):Op->Option (Prop×JQ×List (Option Nat)×St)
 |.call {callee:=.value x,args,.. }=>
  match st.ev x with
  |.fn f caps=>match Γ f with
   |some (.eff ms con)=>match hands (Hl st ms args.toList caps) ms (afd st ms args.toList caps)with
    |some (vs,os)=>match con vs with
     |some (p,ρ)=>some (p,ρ,os,Hl st ms args.toList caps)
     |none=>none
    |none=>none
   |_=>none
  |_=>none
 |_=>none
def MR(d:Nat)(s0:St)(os:List (Option Nat))(out:Out)(aJ:List Eff):Option (AV×St):=
 match vO os&&EO aJ (out.take (d*64+1)).2,lK s0 os aJ,iP (s0.kill (gI os aJ)) (out.take (d*64+1)).2 with
 |true,some δ,true=>some ((out.take (d*64+1)).1,((s0.kill (gI os aJ)).adds δ).adds (out.take (d*64+1)).2)
 |_,_,_=>none
def oper(d:Nat)(st:St)(o:Op):Option (Prop×AV×St):=
 match calm Θ Γ d st o with
 |some (p,v,δ)=>match iP st δ with
  |true=>some (p,v,st.adds δ)
  |false=>none
 |none=>eff Θ Γ d st o
end Go.Fw
namespace Go.Fw
open Go
structure V where
 w:World
 n0:Nat
 S:Nat->Prop
 γ:Nat->Value
 ah:Nat->Option aG
def blk:Value->Option Nat
 |.pointer (some a)=>some a.block
 |.slice (some a) _ _=>some a.block
 |_=>none
def V.foot(X:V)(b:Nat):Prop:=b<X.w.heap.size/\(b<X.n0->X.S b)/\∀o x,X.ah o=some x->blk (X.γ o)≠some b
def V.bT(X:V)(fr:Bool)(b:Nat):Prop:=X.foot b/\(fr=true->X.n0<=b)
def aS(X:V):Cell->Value->Prop
 |.int k n,v=>v=.int k n/\k.min<=n/\n<=k.max
 |.bool b,v=>v=.bool b
 |.str s,v=>v=.string ⟨s.toArray⟩/\s.length<=maxLen
 |.nil,v=>v=.slice none 0 0
 |.sl e r l fr,v=>bW X.w.heap (X.bT fr) (.sl e r) v l
 |.ref o,v=>(∃e r l fr,X.ah o=some (.arr e r l fr))/\v=X.γ o/\v.oneCell'=true
 |.junk,v=>v.oneCell'=true
def aj(X:V):List Cell->List Value->Prop
 |[],[]=>True
 |c::cs,v::vs=>aS X c v/\aj X cs vs
 |_,_=>False
def dn(X:V):SV->Value->Prop
 |.one c,v=>aS X c v
 |.agg cs,v=>∃vs,v=.agg vs/\aj X cs vs.toList
def dw(X:V):List SV->List Value->Prop
 |[],[]=>True
 |c::cs,v::vs=>dn X c v/\dw X cs vs
 |_,_=>False
def fA(X:V)(cs:List Cell)(b:Nat):Prop:=∃arr t fz,X.foot b/\X.w.heap[b]? =some (.cells arr t fz)/\aj X cs arr.toList
def dP(X:V):List (List Cell)->List Value->Prop
 |[],[]=>True
 |cs::l,u::us=>(∃b,u=.pointer (some ⟨b,0,none⟩)/\fA X cs b)/\dP X l us
 |_,_=>False
def aV(X:V):AV->Value->Prop
 |.undef,_=>True
 |.sv x,v=>dn X x v
 |.kT xs,v=>∃vs,v=.tuple vs/\dw X xs vs.toList
 |.cZ o off,v=>∃b cs,X.ah o=some (.var cs)/\X.γ o=.pointer (some ⟨b,0,none⟩)/\v=.pointer (some ⟨b,off,none⟩)
 |.lU o i off,v=>∃b n cap e r l fr,X.ah o=some (.arr e r l fr)/\X.γ o=.slice (some ⟨b,0,none⟩) n cap/\v=.pointer (some ⟨b,i*r.len+off,none⟩)
 |.win o i off,v=>∃b n cap e r l fr,X.ah o=some (.arr e r l fr)/\X.γ o=.slice (some ⟨b,0,none⟩) n cap/\(∃q,(q=i*r.len\/cap<=i)/\v=.slice (some ⟨b,q,none⟩) off (cap-i)/\i+off<=cap)
 |.nX r x off fr,v=>∃b base cs t fz,v=.pointer (some ⟨b,base+off,none⟩)/\X.bT fr b/\X.w.heap[b]? =some (.cells cs t fz)/\
    aU X.w.heap (X.bT fr) r ((cs.toList.drop base).take r.len) x
 |.dF cs off,v=>∃b,v=.pointer (some ⟨b,off,none⟩)/\fA X cs b
 |.fn f caps,v=>∃us:Array Value,v=.func (.func f) #[] us/\dP X caps us.toList
def bf(X:V)(o:Nat):aG->Prop
 |.var cs=>∃b arr t,X.γ o=.pointer (some ⟨b,0,none⟩)/\X.w.heap[b]? =some (.cells arr t (0,0))/\aj X cs arr.toList
 |.arr e r l fr=>∃xs,X.w.ownsRow 0 e r.len (X.γ o) l.length xs/\0<r.len/\(∀b,blk (X.γ o)=some b->fr=true->X.n0<=b)/\
    ∀i x,l[i]? =some x->aU X.w.heap (X.bT fr) r ((xs.drop (i*r.len)).take r.len) x
structure Ext where
 S:Nat->Prop
 N:Nat->Option Value
 n48:∀p v,N p=some v->p%64=48
instance:CoeFun Ext (λ_=>Nat->Prop):=⟨Ext.S⟩
instance:CoeOut Ext (Nat->Prop):=⟨Ext.S⟩
structure Rel(w0:World)(M:Nat->Prop)(T:Ext)(γ:Nat->Value)(st:St)(a:Act)(w:World):Prop where
 mT:∀b,M b->T b
 defers:a.defers=[]
 size:a.tmps.size=st.n
 os:w.os=w0.os
 tape:w.tape=w0.tape
 output:w.output=w0.output
 grow:w0.heap.size<=w.heap.size
 kept:∀b,b<w0.heap.size->¬M b->w.heap[b]? =w0.heap[b]?
 tmps:∀t,aV ⟨w,w0.heap.size,T,γ,st.ah⟩ (st.tmps t) (a.tmps.getD t undef)
 ah:∀o x,st.ah o=some x->bf ⟨w,w0.heap.size,T,γ,st.ah⟩ o x
 lt:∀o x b,st.ah o=some x->blk (γ o)=some b->b<w.heap.size/\(w0.heap.size<=b\/M b)
 sep:∀o x p y b,st.ah o=some x->st.ah p=some y->o≠p->blk (γ o)=some b->blk (γ p)≠some b
 pin:∀o v cs,T.N o=some v->st.ah o=some (.var cs)->γ o=v
structure V.le(X Y:V):Prop where
 n0:Y.n0<=X.n0
 foot:∀b,X.foot b->Y.foot b/\Y.w.heap[b]? =X.w.heap[b]?
 var:∀o cs,X.ah o=some (.var cs)->(∃cs',Y.ah o=some (.var cs'))/\Y.γ o=X.γ o
 arr:∀o e r l fr,X.ah o=some (.arr e r l fr)->(∃l' fr',Y.ah o=some (.arr e r l' fr'))/\Y.γ o=X.γ o
theorem V.le.refl(X:V):X.le X:=⟨anr _,λ_ h=>⟨h,rfl⟩,λ_ cs h=>⟨⟨cs,h⟩,rfl⟩,λ_ _ _ l fr h=>⟨⟨l,fr,h⟩,rfl⟩⟩
theorem V.le.bT{X Y:V}(h:X.le Y)(fr:Bool)(b:Nat)(hb:X.bT fr b):Y.bT fr b/\Y.w.heap[b]? =X.w.heap[b]? :=
 ⟨⟨(h.foot b hb.1).1,λe=>anx h.n0 (hb.2 e)⟩,(h.foot b hb.1).2⟩
theorem aS.mono{X Y:V}(h:X.le Y):∀(c:Cell)(v:Value),aS X c v->aS Y c v
 |.int _ _,_,H|.bool _,_,H|.str _,_,H|.nil,_,H|.junk,_,H=>H
 |.sl e r l fr,v,H=>bW.mono (λb hb=>h.bT fr b hb) (.sl e r) v l H
 |.ref o,v,⟨⟨e,r,l,fr,hx⟩,hv,h1⟩=>by obtain⟨⟨l',fr',hy⟩,hγ⟩:=h.arr o e r l fr hx;exact⟨⟨e,r,l',fr',hy⟩,hv.trans hγ.symm,h1⟩
theorem aj.mono{X Y:V}(h:X.le Y):∀(cs:List Cell)(vs:List Value),aj X cs vs->aj Y cs vs
 |[],[],H=>H
 |c::cs,v::vs,⟨h1,h2⟩=>⟨aS.mono h c v h1,aj.mono h cs vs h2⟩
 |[],_::_,H|_::_,[],H=>by cases H
theorem dn.mono{X Y:V}(h:X.le Y):∀(c:SV)(v:Value),dn X c v->dn Y c v
 |.one c,v,H=>aS.mono h c v H
 |.agg cs,_,⟨vs,hv,H⟩=>⟨vs,hv,aj.mono h cs _ H⟩
theorem dw.mono{X Y:V}(h:X.le Y):∀(cs:List SV)(vs:List Value),dw X cs vs->dw Y cs vs
 |[],[],H=>H
 |c::cs,v::vs,⟨h1,h2⟩=>⟨dn.mono h c v h1,dw.mono h cs vs h2⟩
 |[],_::_,H|_::_,[],H=>by cases H
theorem fA.mono{X Y:V}(h:X.le Y){cs:List Cell}{b:Nat}(H:fA X cs b):fA Y cs b:=by obtain⟨arr,t,fz,hb,hh,hr⟩:=H;exact⟨arr,t,fz,(h.foot b hb).1,(h.foot b hb).2.trans hh,aj.mono h cs _ hr⟩
theorem dP.mono{X Y:V}(h:X.le Y):∀(l:List (List Cell))(us:List Value),dP X l us->dP Y l us
 |[],[],H=>H
 |cs::l,u::us,⟨⟨b,hu,hk⟩,h2⟩=>⟨⟨b,hu,hk.mono h⟩,dP.mono h l us h2⟩
 |[],_::_,H|_::_,[],H=>by cases H
theorem aV.mono{X Y:V}(h:X.le Y):∀(c:AV)(v:Value),aV X c v->aV Y c v
 |.undef,_,_=>trivial
 |.sv x,v,H=>dn.mono h x v H
 |.kT xs,_,⟨vs,hv,H⟩=>⟨vs,hv,dw.mono h xs _ H⟩
 |.cZ o off,v,⟨b,cs,hx,hγ,hv⟩=>by
  obtain⟨⟨cs',hy⟩,he⟩:=h.var o cs hx;exact⟨b,cs',hy,he.trans hγ,hv⟩
 |.lU o i off,v,⟨b,n,cap,e,r,l,fr,hx,hγ,hv⟩=>by
  obtain⟨⟨l',fr',hy⟩,he⟩:=h.arr o e r l fr hx;exact⟨b,n,cap,e,r,l',fr',hy,he.trans hγ,hv⟩
 |.win o i off,v,⟨b,n,cap,e,r,l,fr,hx,hγ,hv⟩=>by
  obtain⟨⟨l',fr',hy⟩,he⟩:=h.arr o e r l fr hx;exact⟨b,n,cap,e,r,l',fr',hy,he.trans hγ,hv⟩
 |.nX r x off fr,v,⟨b,base,cs,t,fz,hv,hf,hb,hr⟩=>
  ⟨b,base,cs,t,fz,hv,(h.bT fr b hf).1,(h.bT fr b hf).2.trans hb,aU.mono (λb hb=>h.bT fr b hb) r _ x hr⟩
 |.dF cs off,v,⟨b,hv,hk⟩=>⟨b,hv,hk.mono h⟩
 |.fn f caps,v,⟨us,hv,hk⟩=>⟨us,hv,dP.mono h caps _ hk⟩
theorem aj.length{X:V}:∀(cs:List Cell)(vs:List Value),aj X cs vs->vs.length=cs.length
 |[],[],_=>rfl
 |_::cs,_::vs,⟨_,h⟩=>by simp[aj.length cs vs h]
 |[],_::_,H|_::_,[],H=>by cases H
theorem aj.append{X:V}:∀(cs:List Cell)(vs:List Value)(ds:List Cell)(us:List Value),aj X cs vs->aj X ds us->aj X (cs++ds) (vs++us)
 |[],[],_,_,_,h=>h
 |_::cs,_::vs,ds,us,⟨h1,h2⟩,h=>⟨h1,aj.append cs vs ds us h2 h⟩
 |[],_::_,_,_,H,_|_::_,[],_,_,H,_=>by cases H
theorem aj.take{X:V}:∀(cs:List Cell)(vs:List Value)(n:Nat),aj X cs vs->aj X (cs.take n) (vs.take n)
 |[],[],n,h=>by simpa using h
 |_::_,_::_,0,_=>trivial
 |c::cs,v::vs,n+1,⟨h1,h2⟩=>⟨h1,aj.take cs vs n h2⟩
 |[],_::_,_,H|_::_,[],_,H=>by cases H
theorem aj.drop{X:V}:∀(cs:List Cell)(vs:List Value)(n:Nat),aj X cs vs->aj X (cs.drop n) (vs.drop n)
 |[],[],n,h=>by simpa using h
 |_::_,_::_,0,h=>h
 |c::cs,v::vs,n+1,⟨_,h2⟩=>aj.drop cs vs n h2
 |[],_::_,_,H|_::_,[],_,H=>by cases H
theorem aj.get{X:V}:∀(cs:List Cell)(vs:List Value)(i:Nat)(c:Cell),aj X cs vs->cs[i]? =some c->∃v,vs[i]? =some v/\aS X c v
 |[],_,_,_,_,h=>by simp at h
 |c::cs,v::vs,0,d,⟨h1,_⟩,h=>by simp at h;subst h;exact⟨v,rfl,h1⟩
 |c::cs,v::vs,i+1,d,⟨_,h2⟩,h=>by
  obtain⟨u,hu,hr⟩:=aj.get cs vs i d h2 (by simpa using h);exact⟨u,by simpa using hu,hr⟩
 |_::_,[],_,_,H,_=>by cases H
theorem aS.one{X:V}:∀(c:Cell)(v:Value),aS X c v->v.oneCell'=true
 |.int _ _,_,⟨h,_⟩=>by rw[h];rfl
 |.bool _,_,h=>by rw[show _=_ from h];rfl
 |.str _,_,⟨h,_⟩=>by rw[h];rfl
 |.nil,_,h=>by rw[show _=_ from h];rfl
 |.sl e r l fr,v,h=>by
  have h:qG _ _ _ _ v l:=h;rcases h.2 with⟨_,a,c,hv⟩|⟨b,off,cap,cs,t,fz,hv,_⟩<;>rw[hv]<;>rfl
 |.ref _,_,⟨_,_,h⟩=>h
 |.junk,_,h=>h
theorem CQ:∀(v:Value),v.oneCell'=true->v.cells=#[v]:=by intro v h;cases v<;>first|rfl|simp[Value.oneCell']at h
theorem dn.cells{X:V}:∀(x:SV)(v:Value),dn X x v->aj X x.cells v.cells.toList
 |.one c,v,h=>by
  rw[CQ v (aS.one c v h)];exact⟨h,trivial⟩
 |.agg cs,v,⟨vs,hv,h⟩=>by rw[hv];exact h
theorem aj.ones{X:V}:∀(cs:List Cell)(vs:List Value),aj X cs vs->∀v∈vs,v.oneCell'=true
 |[],[],_,_,hv=>by cases hv
 |c::cs,u::vs,⟨h1,h2⟩,v,hv=>by
  rcases anN.1 hv with rfl|hv
  .exact aS.one c _ h1
  .exact aj.ones cs vs h2 v hv
 |[],_::_,H,_,_|_::_,[],H,_,_=>by cases H
end Go.Fw
namespace Go.Fw
open Go
variable {w0:World} {M:Nat->Prop} {T:Ext} {γ γ':Nat->Value} {st:St} {a:Act} {w w':World}
abbrev ax(w0:World)(T:Nat->Prop)(γ:Nat->Value)(st:St)(w:World):V:=⟨w,w0.heap.size,T,γ,st.ah⟩
theorem bf.mono{X Y:V}(h:X.le Y)(o:Nat):∀(x:aG),(∀b,blk (X.γ o)=some b->Y.w.heap[b]? =X.w.heap[b]?)->Y.γ o=X.γ o->bf X o x->bf Y o x
 |.var cs,hb,hγ,⟨b,arr,t,e,hh,hr⟩=>⟨b,arr,t,hγ.trans e,(hb b (by rw[e];rfl)).trans hh,aj.mono h cs _ hr⟩
 |.arr e r l fr,hb,hγ,⟨xs,hown,hr,hf,hx⟩=>by
  refine⟨xs,?_,hr,λb hb' hfr=>anx h.n0 (hf b (hγ▸hb') hfr),λi x hi=>aU.mono (λb hb=>h.bT fr b hb) r _ x (hx i x hi)⟩;obtain⟨h1,h2⟩:=hown;refine⟨h1,?_⟩;rcases h2 with h2|⟨g,cap,cur,hv,hg,hh,hrest⟩
  .exact .inl ⟨hγ.trans h2.1,h2.2⟩
  .exact .inr ⟨g,cap,cur,hγ.trans hv,hg,(hb g (by rw[hv];rfl)).trans hh,hrest⟩
theorem Rel.grown(h:Rel w0 M T γ st a w)(Ey:Nat->Option aG)
 (hA:∀p x,st.ah p=some x->Ey p=some x) (hγ:∀p x,st.ah p=some x->γ' p=γ p)
 (hos:w'.os=w.os) (htape:w'.tape=w.tape) (hout:w'.output=w.output) (hsize:w.heap.size<=w'.heap.size)
 (hheap:∀b,b<w.heap.size->w'.heap[b]? =w.heap[b]?)
 (hnew:∀p x,Ey p=some x->st.ah p=none->bf ⟨w',w0.heap.size,T,γ',Ey⟩ p x/\∀b,blk (γ' p)=some b->w.heap.size<=b/\b<w'.heap.size)
 (ak8:∀p cs,Ey p=some (.var cs)->st.ah p=none->T.N p=none)
 (hsep:∀p x q y b,Ey p=some x->st.ah p=none->Ey q=some y->st.ah q=none->p≠q->blk (γ' p)=some b->blk (γ' q)≠some b):
 Rel w0 M T γ' {st with ah:=Ey} a w'/\(ax w0 T γ st w).le ⟨w',w0.heap.size,T,γ',Ey⟩:=by
 have old:∀p x,Ey p=some x->st.ah p=some x\/st.ah p=none:=by
  intro p x hp;cases e:st.ah p with
  |none=>exact .inr rfl
  |some y=>have:=hA p y e;rw[hp]at this;rw[this];exact .inl rfl
 have le:(ax w0 T γ st w).le ⟨w',w0.heap.size,T,γ',Ey⟩:=by
  refine⟨anr _,λb hb=>⟨⟨anE hb.1 hsize,hb.2.1,λo x hx=>?_⟩,hheap b hb.1⟩,λo cs hx=>⟨⟨cs,hA o _ hx⟩,hγ o _ hx⟩,λo e r l fr hx=>⟨⟨l,fr,hA o _ hx⟩,hγ o _ hx⟩⟩;rcases old o x hx with ho|ho
  .show blk (γ' o)≠some b;rw[hγ o x ho];exact hb.2.2 o x ho
  .intro e;have h1:=((hnew o x hx ho).2 b e).1;have h2:b<w.heap.size:=hb.1;omega
 refine⟨⟨h.mT,h.defers,h.size,hos.trans h.os,htape.trans h.tape,hout.trans h.output,anx h.grow hsize,λb hb hM=>?_,λt=>aV.mono le _ _ (h.tmps t),λo x hx=>?_,λo x b hx hb=>?_,λo x p y b hx hy hop hb=>?_,λo v cs hN hx=>?_⟩,le⟩
 .rw[hheap b (anE hb h.grow)];exact h.kept b hb hM
 .rcases old o x hx with ho|ho
  .exact bf.mono le o x (λb hb=>hheap b (h.lt o x b ho hb).1) (hγ o x ho) (h.ah o x ho)
  .exact(hnew o x hx ho).1
 .rcases old o x hx with ho|ho
  .rw[hγ o x ho]at hb;have:=h.lt o x b ho hb;exact⟨anE this.1 hsize,this.2⟩
  .have:=(hnew o x hx ho).2 b hb;exact⟨this.2,.inl (anx h.grow this.1)⟩
 .rcases old o x hx with ho|ho<;>rcases old p y hy with hp|hp
  .rw[hγ o x ho]at hb;rw[hγ p y hp];exact h.sep o x p y b ho hp hop hb
  .rw[hγ o x ho]at hb;intro e;have h1:=((hnew p y hy hp).2 b e).1;have h2:=(h.lt o x b ho hb).1;omega
  .have h1:=((hnew o x hx ho).2 b hb).1;rw[hγ p y hp];intro e;have h2:=(h.lt p y b hp e).1;omega
  .exact hsep o x p y b hx ho hy hp hop hb
 .rcases old o _ hx with ho|ho
  .rw[hγ o _ ho];exact h.pin o v cs hN ho
  .rw[ak8 o cs hx ho]at hN;cases hN
theorem P8(xs:Array Value)(d t:Nat)(v z:Value)(hd:d<xs.size):(xs.setIfInBounds d v).getD t z=if t=d then v else xs.getD t z:=by
 by_cases e:t=d
 .subst e;simp[hd]
 .rw[if_neg e];simp only[apm];rw[anX (by omega)]
theorem Rel.set(h:Rel w0 M T γ st a w)(d:Nat)(hd:d<st.n)(v:AV)(u:Value)(hv:aV (ax w0 T γ st w) v u):
 Rel w0 M T γ (st.set d v) (a.put (some d) u) w:=by
 refine⟨h.mT,h.defers,?_,h.os,h.tape,h.output,h.grow,h.kept,λt=>?_,h.ah,h.lt,h.sep,h.pin⟩
 .simp only[Act.put,anT];exact h.size
 .simp only[Act.put];rw[P8 _ _ _ _ _ (by rw[h.size];exact hd)];simp only[St.set];by_cases e:t=d
  .subst e;rw[if_pos rfl,aoe];exact hv
  .rw[if_neg e];have:Nat.beq t d=false:=by cases hb:Nat.beq t d with|false=>rfl|true=>exact absurd (anp hb) e
   rw[this];exact h.tmps t
theorem Rel.drew(h:Rel w0 M T γ st a w)(n:Nat):Rel w0 M T γ st a {w with drawn:=n}:=
 (h.grown (γ':=γ) (w':={w with drawn:=n}) st.ah (λ_ _ h=>h) (λ_ _ _=>rfl) rfl rfl rfl (anr _) (λ_ _=>rfl)
   (λp x h1 h2=>by rw[h1]at h2;cases h2) (λp cs h1 h2=>by rw[h1]at h2;cases h2) (λp x q y b h1 h2=>by rw[h1]at h2;cases h2)).1
section kill
variable (S:Nat->Bool)
theorem aS.kill(_h:Rel w0 M T γ st a w):∀(c:Cell)(v:Value),aS (ax w0 T γ st w) c v->aS (ax w0 T γ (st.kill S) w) (c.kill S) v
 |.int _ _,_,H|.bool _,_,H|.str _,_,H|.nil,_,H|.junk,_,H=>H
 |.sl e r l _,v,H=>bW.mono (λb hb=>⟨⟨⟨hb.1.1,hb.1.2.1,λo x hx=>by
    simp only[St.kill]at hx;cases hS:S o with
    |true=>rw[hS]at hx;cases hx
    |false=>
     rw[hS]at hx;cases ho:st.ah o with
     |none=>rw[ho]at hx;cases hx
     |some y=>exact hb.1.2.2 o y ho⟩,hb.2⟩,rfl⟩) (.sl e r) v l H
 |.ref o,v,⟨⟨e,r,l,fr,hx⟩,hv,h1⟩=>by
  simp only[Cell.kill];cases hS:S o with
  |true=>exact h1
  |false=>exact⟨⟨e,r,l,fr,by simp only[St.kill,hS];rw[show st.ah o=_ from hx];rfl⟩,hv,h1⟩
theorem Jm(b:Nat)(hb:(ax w0 T γ st w).foot b):(ax w0 T γ (st.kill S) w).foot b:=
 ⟨hb.1,hb.2.1,λo x hx=>by
     simp only[St.kill]at hx;cases hS:S o with
     |true=>rw[hS]at hx;cases hx
     |false=>
      rw[hS]at hx;cases ho:st.ah o with
      |none=>rw[ho]at hx;cases hx
      |some y=>exact hb.2.2 o y ho⟩
theorem aj.kill(h:Rel w0 M T γ st a w):∀(cs:List Cell)(vs:List Value),aj (ax w0 T γ st w) cs vs->aj (ax w0 T γ (st.kill S) w) (cs.map (Cell.kill S)) vs
 |[],[],H=>H
 |c::cs,v::vs,⟨h1,h2⟩=>⟨aS.kill S h c v h1,aj.kill h cs vs h2⟩
 |[],_::_,H|_::_,[],H=>by cases H
theorem dn.kill(h:Rel w0 M T γ st a w):∀(c:SV)(v:Value),dn (ax w0 T γ st w) c v->dn (ax w0 T γ (st.kill S) w) (c.kill S) v
 |.one c,v,H=>aS.kill S h c v H
 |.agg cs,_,⟨vs,hv,H⟩=>⟨vs,hv,aj.kill S h cs _ H⟩
theorem dw.kill(h:Rel w0 M T γ st a w):∀(cs:List SV)(vs:List Value),dw (ax w0 T γ st w) cs vs->dw (ax w0 T γ (st.kill S) w) (cs.map (SV.kill S)) vs
 |[],[],H=>H
 |c::cs,v::vs,⟨h1,h2⟩=>⟨dn.kill S h c v h1,dw.kill h cs vs h2⟩
 |[],_::_,H|_::_,[],H=>by cases H
theorem mr{o:Nat}{x:aG}(hS:S o=false)(hx:st.ah o=some x):(st.kill S).ah o=some (x.kill S):=by simp only[St.kill,hS,hx,aop]
theorem fA.kill(h:Rel w0 M T γ st a w){cs:List Cell}{b:Nat}(H:fA (ax w0 T γ st w) cs b):fA (ax w0 T γ (st.kill S) w) (cs.map (Cell.kill S)) b:=by obtain⟨arr,t,fz,hb,hh,hr⟩:=H;exact⟨arr,t,fz,Jm S b hb,hh,aj.kill S h cs _ hr⟩
theorem dP.kill(h:Rel w0 M T γ st a w):∀(l:List (List Cell))(us:List Value),dP (ax w0 T γ st w) l us->dP (ax w0 T γ (st.kill S) w) (l.map (List.map (Cell.kill S))) us
 |[],[],H=>H
 |cs::l,u::us,⟨⟨b,hu,hk⟩,h2⟩=>⟨⟨b,hu,fA.kill S h hk⟩,dP.kill h l us h2⟩
 |[],_::_,H|_::_,[],H=>by cases H
theorem aV.kill(h:Rel w0 M T γ st a w):∀(c:AV)(v:Value),aV (ax w0 T γ st w) c v->aV (ax w0 T γ (st.kill S) w) (c.kill S) v
 |.undef,_,_=>trivial
 |.sv x,v,H=>dn.kill S h x v H
 |.kT xs,_,⟨vs,hv,H⟩=>⟨vs,hv,dw.kill S h xs _ H⟩
 |.cZ o off,v,⟨b,cs,hx,hγ,hv⟩=>by
  simp only[AV.kill];cases hS:S o with
  |true=>trivial
  |false=>exact⟨b,_,mr S hS hx,hγ,hv⟩
 |.lU o i off,v,⟨b,n,cap,e,r,l,fr,hx,hγ,hv⟩=>by
  simp only[AV.kill];cases hS:S o with
  |true=>trivial
  |false=>exact⟨b,n,cap,e,r,l,fr,mr S hS hx,hγ,hv⟩
 |.win o i off,v,⟨b,n,cap,e,r,l,fr,hx,hγ,hv⟩=>by
  simp only[AV.kill];cases hS:S o with
  |true=>trivial
  |false=>exact⟨b,n,cap,e,r,l,fr,mr S hS hx,hγ,hv⟩
 |.nX r x off fr,v,⟨b,base,cs,t,fz,hv,hf,hb,hr⟩=>
  ⟨b,base,cs,t,fz,hv,⟨Jm S b hf.1,hf.2⟩,hb,aU.mono (λb hb=>⟨⟨Jm S b hb.1,hb.2⟩,rfl⟩) r _ x hr⟩
 |.dF cs off,v,⟨b,hv,hk⟩=>⟨b,hv,fA.kill S h hk⟩
 |.fn f caps,v,⟨us,hv,hk⟩=>⟨us,hv,dP.kill S h caps _ hk⟩
theorem uh{o:Nat}{x:aG}(hx:(st.kill S).ah o=some x):∃y,st.ah o=some y/\x=y.kill S/\S o=false:=by
 simp only[St.kill]at hx;cases hS:S o with
 |true=>rw[hS]at hx;cases hx
 |false=>
  rw[hS]at hx;cases ho:st.ah o with
  |none=>rw[ho]at hx;cases hx
  |some y=>rw[ho]at hx;simp at hx;exact⟨y,rfl,hx.symm,rfl⟩
theorem bf.kill(h:Rel w0 M T γ st a w)(o:Nat):∀(x:aG),bf (ax w0 T γ st w) o x->bf (ax w0 T γ (st.kill S) w) o (x.kill S)
 |.var cs,⟨b,arr,t,e,hh,hr⟩=>⟨b,arr,t,e,hh,aj.kill S h cs _ hr⟩
 |.arr _ r _ _,⟨xs,hown,hr,hf,hx⟩=>⟨xs,hown,hr,hf,λi x hi=>aU.mono (λb hb=>⟨⟨Jm S b hb.1,hb.2⟩,rfl⟩) r _ x (hx i x hi)⟩
theorem Rel.kill(h:Rel w0 M T γ st a w):Rel w0 M T γ (st.kill S) a w:=by
 refine⟨h.mT,h.defers,h.size,h.os,h.tape,h.output,h.grow,h.kept,λt=>aV.kill S h _ _ (h.tmps t),λo x hx=>?_,λo x b hx hb=>?_,λo x p y b hx hy hop hb=>?_,λo v cs hN hx=>?_⟩
 .obtain⟨y,hy,rfl,_⟩:=uh S hx;exact bf.kill S h o y (h.ah o y hy)
 .obtain⟨y,hy,rfl,_⟩:=uh S hx;exact h.lt o y b hy hb
 .obtain⟨x',hx',rfl,_⟩:=uh S hx;obtain⟨y',hy',rfl,_⟩:=uh S hy;exact h.sep o x' p y' b hx' hy' hop hb
 .obtain⟨y,hy,e,_⟩:=uh S hx;cases y with
  |var cs'=>exact h.pin o v cs' hN hy
  |arr _ _ _ _=>cases e
end kill
end Go.Fw
namespace Go.Fw
open Go
variable {w0:World} {M:Nat->Prop} {T:Ext} {γ γ':Nat->Value} {st:St} {a:Act} {w w':World} (S:Nat->Bool)
theorem fB{α:Type}(l:List α)(i k n:Nat)(h:i+k<=n):((l.take n).drop i).take k=(l.drop i).take k:=by rw[aqe,apU];congr 1;omega
theorem bf.reads{X:V}{o:Nat}{e:TypeId}{r:aB}{l:List r.den}{fr:Bool}{F:Nat->Prop}(h:bf X o (.arr e r l fr))
 (hF:∀b,X.bT fr b->F b) (hO:∀b,blk (X.γ o)=some b->F b):bW X.w.heap F (.sl e r) (X.γ o) l:=by
 obtain⟨xs,⟨h1,h2⟩,hr,hf,hx⟩:=h;show qG _ _ _ _ _ l;rcases h2 with⟨hv,hn⟩|⟨g,cap,cur,hv,_,hg,hle,hmax,hsz,htake⟩
 .refine⟨by rw[hn];exact ant _,.inl ⟨anV.1 hn,none,0,hv⟩⟩
 .refine⟨anx hle hmax,.inr ⟨g,0,cap,cur,e,(0,0),hv,hle,hO g (by rw[hv];rfl),hg,λi x hi=>?_⟩⟩;have hlt:i<l.length:=(anv.1 hi).1;have hmul:i*r.len+r.len<=l.length*r.len:=by have:(i+1)*r.len<=l.length*r.len:=anD _ hlt;rw[an9]at this;simpa using this
  have:=hx i x hi;rw[← htake,fB _ _ _ _ hmul]at this;rw[anR];exact aU.mono (λb hb=>⟨hF b hb,rfl⟩) r _ x this
theorem xQ(b:Nat)(hb:(ax w0 T γ st w).foot b):(ax w0 T γ (st.freeze S) w).foot b:=
 ⟨hb.1,hb.2.1,λo x hx=>by
     simp only[St.freeze]at hx;cases hS:S o with
     |true=>rw[hS]at hx;cases hx
     |false=>
      rw[hS]at hx;cases ho:st.ah o with
      |none=>rw[ho]at hx;cases hx
      |some y=>exact hb.2.2 o y ho⟩
theorem xR{o:Nat}{x:aG}(hx:(st.freeze S).ah o=some x):∃y,st.ah o=some y/\x=y.freeze st S/\S o=false:=by
 simp only[St.freeze]at hx;cases hS:S o with
 |true=>rw[hS]at hx;cases hx
 |false=>
  rw[hS]at hx;cases ho:st.ah o with
  |none=>rw[ho]at hx;cases hx
  |some y=>rw[ho]at hx;simp at hx;exact⟨y,rfl,hx.symm,rfl⟩
theorem wQ{o:Nat}{x:aG}(hS:S o=false)(hx:st.ah o=some x):(st.freeze S).ah o=some (x.freeze st S):=by simp only[St.freeze,hS,hx,aop]
theorem aS.freeze(h:Rel w0 M T γ st a w):∀(c:Cell)(v:Value),aS (ax w0 T γ st w) c v->aS (ax w0 T γ (st.freeze S) w) (c.freeze st S) v
 |.int _ _,_,H|.bool _,_,H|.str _,_,H|.nil,_,H|.junk,_,H=>H
 |.sl e r l _,v,H=>bW.mono (λb hb=>⟨⟨xQ S b hb.1,hb.2⟩,rfl⟩) (.sl e r) v l H
 |.ref o,v,⟨⟨e,r,l,fr,hx⟩,hv,h1⟩=>by
  have hx':st.ah o=some (.arr e r l fr):=hx;simp only[Cell.freeze];cases hS:S o with
  |false=>exact⟨⟨e,r,l,fr,wQ S hS hx'⟩,hv,h1⟩
  |true=>
   simp only[hx'];rw[hv];refine bf.reads (F:=(ax w0 T γ (st.freeze S) w).bT fr) (h.ah o _ hx') (λb hb=>⟨xQ S b hb.1,hb.2⟩) (λb hb=>⟨⟨(h.lt o _ b hx' hb).1,λhlt=>h.mT b ((h.lt o _ b hx' hb).2.resolve_left (by have:b<w0.heap.size:=hlt;omega)),λp y hp=>?_⟩,λhfr=>?_⟩)
   .obtain⟨z,hz,_,hSp⟩:=xR S hp;refine h.sep o _ p z b hx' hz (λe=>?_) hb;rw[e,hSp]at hS;cases hS
   .obtain⟨xs,_,_,hf,_⟩:=h.ah o _ hx';exact hf b hb hfr
theorem aj.freeze(h:Rel w0 M T γ st a w):∀(cs:List Cell)(vs:List Value),aj (ax w0 T γ st w) cs vs->aj (ax w0 T γ (st.freeze S) w) (cs.map (Cell.freeze st S)) vs
 |[],[],H=>H
 |c::cs,v::vs,⟨h1,h2⟩=>⟨aS.freeze S h c v h1,aj.freeze h cs vs h2⟩
 |[],_::_,H|_::_,[],H=>by cases H
theorem dn.freeze(h:Rel w0 M T γ st a w):∀(c:SV)(v:Value),dn (ax w0 T γ st w) c v->dn (ax w0 T γ (st.freeze S) w) (c.freeze st S) v
 |.one c,v,H=>aS.freeze S h c v H
 |.agg cs,_,⟨vs,hv,H⟩=>⟨vs,hv,aj.freeze S h cs _ H⟩
theorem dw.freeze(h:Rel w0 M T γ st a w):∀(cs:List SV)(vs:List Value),dw (ax w0 T γ st w) cs vs->dw (ax w0 T γ (st.freeze S) w) (cs.map (SV.freeze st S)) vs
 |[],[],H=>H
 |c::cs,v::vs,⟨h1,h2⟩=>⟨dn.freeze S h c v h1,dw.freeze h cs vs h2⟩
 |[],_::_,H|_::_,[],H=>by cases H
theorem fA.freeze(h:Rel w0 M T γ st a w){cs:List Cell}{b:Nat}(H:fA (ax w0 T γ st w) cs b):fA (ax w0 T γ (st.freeze S) w) (cs.map (Cell.freeze st S)) b:=by obtain⟨arr,t,fz,hb,hh,hr⟩:=H;exact⟨arr,t,fz,xQ S b hb,hh,aj.freeze S h cs _ hr⟩
theorem dP.freeze(h:Rel w0 M T γ st a w):∀(l:List (List Cell))(us:List Value),dP (ax w0 T γ st w) l us->dP (ax w0 T γ (st.freeze S) w) (l.map (List.map (Cell.freeze st S))) us
 |[],[],H=>H
 |cs::l,u::us,⟨⟨b,hu,hk⟩,h2⟩=>⟨⟨b,hu,fA.freeze S h hk⟩,dP.freeze h l us h2⟩
 |[],_::_,H|_::_,[],H=>by cases H
theorem aV.freeze(h:Rel w0 M T γ st a w):∀(c:AV)(v:Value),aV (ax w0 T γ st w) c v->aV (ax w0 T γ (st.freeze S) w) (c.freeze st S) v
 |.undef,_,_=>trivial
 |.sv x,v,H=>dn.freeze S h x v H
 |.kT xs,_,⟨vs,hv,H⟩=>⟨vs,hv,dw.freeze S h xs _ H⟩
 |.cZ o off,v,⟨b,cs,hx,hγ,hv⟩=>by
  simp only[AV.freeze];cases hS:S o with
  |true=>trivial
  |false=>exact⟨b,_,wQ S hS hx,hγ,hv⟩
 |.lU o i off,v,⟨b,n,cap,e,r,l,fr,hx,hγ,hv⟩=>by
  simp only[AV.freeze];cases hS:S o with
  |true=>trivial
  |false=>exact⟨b,n,cap,e,r,l,fr,wQ S hS hx,hγ,hv⟩
 |.win o i off,v,⟨b,n,cap,e,r,l,fr,hx,hγ,hv⟩=>by
  simp only[AV.freeze];cases hS:S o with
  |true=>trivial
  |false=>exact⟨b,n,cap,e,r,l,fr,wQ S hS hx,hγ,hv⟩
 |.nX r x off fr,v,⟨b,base,cs,t,fz,hv,hf,hb,hr⟩=>
  ⟨b,base,cs,t,fz,hv,⟨xQ S b hf.1,hf.2⟩,hb,aU.mono (λb hb=>⟨⟨xQ S b hb.1,hb.2⟩,rfl⟩) r _ x hr⟩
 |.dF cs off,v,⟨b,hv,hk⟩=>⟨b,hv,fA.freeze S h hk⟩
 |.fn f caps,v,⟨us,hv,hk⟩=>⟨us,hv,dP.freeze S h caps _ hk⟩
theorem bf.freeze(h:Rel w0 M T γ st a w)(o:Nat):∀(x:aG),bf (ax w0 T γ st w) o x->bf (ax w0 T γ (st.freeze S) w) o (x.freeze st S)
 |.var cs,⟨b,arr,t,e,hh,hr⟩=>⟨b,arr,t,e,hh,aj.freeze S h cs _ hr⟩
 |.arr _ r _ _,⟨xs,hown,hr,hf,hx⟩=>⟨xs,hown,hr,hf,λi x hi=>aU.mono (λb hb=>⟨⟨xQ S b hb.1,hb.2⟩,rfl⟩) r _ x (hx i x hi)⟩
theorem Rel.freeze(h:Rel w0 M T γ st a w):Rel w0 M T γ (st.freeze S) a w:=by
 refine⟨h.mT,h.defers,h.size,h.os,h.tape,h.output,h.grow,h.kept,λt=>aV.freeze S h _ _ (h.tmps t),λo x hx=>?_,λo x b hx hb=>?_,λo x p y b hx hy hop hb=>?_,λo v cs hN hx=>?_⟩
 .obtain⟨y,hy,rfl,_⟩:=xR S hx;exact bf.freeze S h o y (h.ah o y hy)
 .obtain⟨y,hy,rfl,_⟩:=xR S hx;exact h.lt o y b hy hb
 .obtain⟨x',hx',rfl,_⟩:=xR S hx;obtain⟨y',hy',rfl,_⟩:=xR S hy;exact h.sep o x' p y' b hx' hy' hop hb
 .obtain⟨y,hy,e,_⟩:=xR S hx;cases y with
  |var cs'=>exact h.pin o v cs' hN hy
  |arr _ _ _ _=>cases e
theorem Cell.RU(h:Rel w0 M T γ st a w):∀(c:CT)(x:Cell)(v:Value)(d:c.den),aS (ax w0 T γ st w) x v->x.get st c=some d->
 bW w.heap (λb=>b<w.heap.size) c v d:=by
 intro c x v d hx hg;cases c with
 |int k=>
  cases x<;>simp only[Cell.get]at hg<;>try (cases hg;done)
  next l n=>
   cases hd:decide (k=l)with
   |false=>rw[hd]at hg;cases hg
   |true=>
    rw[hd]at hg;have hkl:k=l:=aoC hd;subst hkl;cases hg;exact hx
 |bool=>cases x<;>simp only[Cell.get]at hg<;>first|(cases hg;done)|(cases hg;exact hx)
 |str=>cases x<;>simp only[Cell.get]at hg<;>first|(cases hg;done)|(cases hg;exact hx)
 |sl e r=>
  cases x<;>simp only[Cell.get]at hg<;>try (cases hg;done)
  .cases hg;have hv:v=.slice none 0 0:=hx;subst hv;exact⟨ant _,.inl ⟨rfl,none,0,rfl⟩⟩
  .next e' s l fr=>
   split at hg
   .next hb=>have hrs:=aB.eq_of_beq s r hb;subst hrs;cases hg;exact bW.mono (λb hb=>⟨hb.1.1,rfl⟩) (.sl e s) v l hx
   .cases hg
  .next o=>
   obtain⟨⟨e',s,l,fr,ho⟩,hv,_⟩:=hx;have ho':st.ah o=some (.arr e' s l fr):=ho;simp only[ho']at hg;split at hg
   .next hb=>have hrs:=aB.eq_of_beq s r hb;subst hrs;cases hg;rw[hv];exact bf.reads (X:=ax w0 T γ st w) (e:=e') (l:=l) (fr:=fr) (h.ah o _ ho') (λb hb=>hb.1.1) (λb hb=>(h.lt o _ b ho' hb).1)
   .cases hg
end Go.Fw
namespace Go.Fw
open Go
variable {P:Program} {w0:World} {M:Nat->Prop} {T:Ext} {γ γ':Nat->Value} {st:St} {a:Act} {w w':World}
theorem Oper.kP{o:Oper}{a:Act}{w w':World}{u:Value}{next:Act->World->Prop}{Q:Exit->Act->World->Prop}
 (h:(execOp a.eval o).run P w=.ok (.value u) w') (hn:next (a.put o.dst u) w'):o.wp P a w next Q:=by
 unfold Oper.wp;rw[h];exact hn
theorem Oper.wp_skip{o:Oper}{a:Act}{w w':World}{next:Act->World->Prop}{Q:Exit->Act->World->Prop}
 (h:(execOp a.eval o).run P w=.ok .skip w') (hn:next (a.put o.dst undef) w'):o.wp P a w next Q:=by
 unfold Oper.wp;rw[h];exact hn
theorem acI(X:V)(v:Value):aV X (X3 v) v:=by
 unfold X3;split
 .split
  .next h=>simp at h;exact⟨rfl,h.1,h.2⟩
  .trivial
 .rfl
 .split
  .next s h=>exact⟨rfl,by simpa using h⟩
  .trivial
 .rfl
 .trivial
theorem gU(h:Rel w0 M T γ st a w)(x:Operand):aV (ax w0 T γ st w) (st.ev x) (a.eval x):=by
 cases x with
 |tmp t=>exact h.tmps t
 |const v=>exact acI _ v
 |global g=>trivial
 |func f=>exact⟨#[],rfl,trivial⟩
theorem mD(h:Rel w0 M T γ st a w){x:Operand}{c:Cell}(e:st.ev x=.sv (.one c)):aS (ax w0 T γ st w) c (a.eval x):=by have:=gU h x;rw[e]at this;exact this
theorem adl(h:Rel w0 M T γ st a w){x:Operand}{b:Bool}(e:st.ev x=.sv (.one (.bool b))):a.eval x=.bool b:=mD h e
theorem KN(h:Rel w0 M T γ st a w){x:Operand}{k:IntKind}{n:Int}(e:st.ev x=.sv (.one (.int k n))):a.eval x=.int k n/\k.min<=n/\n<=k.max:=mD h e
theorem rD(h:Rel w0 M T γ st a w){x:Operand}{n:Int}(e:rC (st.ev x)=some n):∃k,a.eval x=.int k n/\k.min<=n/\n<=k.max:=by
 unfold rC at e;split at e
 .next k m hx=>cases e;exact⟨k,KN h hx⟩
 .cases e
theorem CS(k:IntKind)(n:Int):k.min<=k.wrap n/\k.wrap n<=k.max:=by unfold IntKind.wrap IntKind.min IntKind.max;cases k<;>simp only[IntKind.signed,IntKind.bits]<;>simp<;>first|omega|(split<;>omega)
theorem ad7(k:IntKind)(x y:Int)(hx:k.min<=x/\x<=k.max):k.min<=x.tmod y/\x.tmod y<=k.max:=by
 have h0:k.min<=0/\0<=k.max:=by cases k<;>decide
 have h1:(x.tmod y).natAbs=x.natAbs%y.natAbs:=aqv x y;have h2:x.natAbs%y.natAbs<=x.natAbs:=Nat.mod_le _ _;rcases Int.le_total 0 x with hs|hs
 .have h3:=aqw y hs;omega
 .have h3:x.tmod y<=0:=by have:=aqw y (show 0<= -x by omega);rw[Int.neg_tmod]at this;omega
  omega
theorem ad8(k:IntKind)(x:Int)(n:Nat)(hx:k.min<=x/\x<=k.max):k.min<=x.fdiv (2 ^ n)/\x.fdiv (2 ^ n)<=k.max:=by
 have h0:k.min<=0/\0<=k.max:=by cases k<;>decide
 have hm:(1:Int)<=2 ^ n:=Int.pow_pos (by omega);rw[Int.fdiv_eq_ediv_of_nonneg _ (by omega)];generalize (2:Int) ^ n=m at hm;have h1:=Int.mul_ediv_add_emod x m;have h2:=Int.emod_nonneg x (show m≠0 by omega);have h3:=Int.emod_lt_of_pos x (show 0<m by omega);generalize hq:x / m=q at*;rcases Int.le_total 0 x with hs|hs
 .have h4:0<=q:=by rw[← hq];exact Int.ediv_nonneg hs (by omega)
  have h5:1*q<=m*q:=apD hm h4;omega
 .by_cases h4:q<= -1
  .have h5:m*(q+1)<=1*(q+1):=Int.mul_le_mul_of_nonpos_right hm (by omega);rw[Int.mul_add]at h5;omega
  .have h5:1*q<=m*q:=apD hm (by omega);omega
theorem JR{op:BinOp}{t:TypeId}{x y:Operand}{k l:IntKind}{n m:Int}:(eqGuard op t x y (.int k n) (.int l m)).run P w=.ok () w:=by cases op<;>rfl
theorem acJ{op:BinOp}{t:TypeId}{x y:Operand}{s u:ByteArray}:(eqGuard op t x y (.string s) (.string u)).run P w=.ok () w:=by cases op<;>rfl
theorem P9{op:BinOp}{t:TypeId}{x y:Operand}{s u:Bool}:(eqGuard op t x y (.bool s) (.bool u)).run P w=.ok () w:=by cases op<;>rfl
theorem ad9{op:BinOp}{k:IntKind}{x y:Int}{p:Prop}{c:Cell}{t:TypeId}(X:V)(h:KJ op k x y=some (p,c))(hp:p)(hx:k.min<=x/\x<=k.max):
 ∃u,(binOp op t (.int k x) (.int k y)).run P w=.ok u w/\aS X c u:=by
 cases op<;>simp only[KJ,Option.some.injEq,Prod.mk.injEq,reduceCtorEq]at h<;>obtain⟨rfl,rfl⟩:=h
 case quo=>refine⟨_,?_,rfl,CS _ _⟩;simp[binOp,Op.intDiv,hp,aot]
 case rem=>refine⟨_,?_,rfl,ad7 k x y hx⟩;simp[binOp,Op.intDiv,hp,aot]
 all_goals first
  |exact⟨_,by simp[binOp,Op.intArith,Op.intBits,bitsOf,aot],rfl,CS _ _⟩
  |exact⟨_,by simp[binOp,Op.intCmp,aot],rfl⟩
theorem aea{op:BinOp}{x y:Bytes}{p:Prop}{c:Cell}{t:TypeId}(X:V)(h:PY op x y=some (p,c))(hp:p):
 ∃u,(binOp op t (.string ⟨x.toArray⟩) (.string ⟨y.toArray⟩)).run P w=.ok u w/\aS X c u:=by
 cases op<;>simp only[PY,Option.some.injEq,Prod.mk.injEq,reduceCtorEq]at h<;>obtain⟨rfl,rfl⟩:=h
 case add=>
  refine⟨.string ⟨(x++y).toArray⟩,?_,rfl,by simpa using hp⟩;have h1:¬((((⟨x.toArray⟩:ByteArray).size+(⟨y.toArray⟩:ByteArray).size:Nat):Int)>IntKind.i64.max):=by have e:IntKind.i64.max=9223372036854775807:=rfl;unfold maxLen at hp;rw[e];show ¬(((x.toArray.size+y.toArray.size:Nat):Int)>_);simp only[ao2];omega
  have h2:(⟨x.toArray⟩:ByteArray)++⟨y.toArray⟩=⟨(x++y).toArray⟩:=by apply ByteArray.ext;simp
  simp only[binOp,Op.stringOp,if_neg h1,h2];rfl
 all_goals exact⟨_,by simp[binOp,Op.stringOp,aot],rfl⟩
theorem acK{op:BinOp}{x y:Cell}{p:Prop}{c:Cell}{t:TypeId}{s u:Operand}{v v':Value}(X:V)(h:KL op x y=some (p,c))(hp:p)
 (hx:aS X x v) (hy:aS X y v') (hb:∀a b,x=.bool a->y=.bool b->P.underlying t=some .bool):
 ∃r,(do eqGuard op t s u v v';binOp op t v v').run P w=.ok r w/\aS X c r:=by
 cases x<;>cases y<;>simp only[KL,reduceCtorEq]at h
 case int.int k n l m=>
  obtain⟨rfl,hn⟩:=hx;obtain⟨rfl,hm⟩:=hy;have arith:∀hk:k=l,KJ op k n m=some (p,c)->∃r,(do eqGuard op t s u (.int k n) (.int l m);binOp op t (.int k n) (.int l m)).run P w=.ok r w/\aS X c r:=by intro hk h2;subst hk;obtain⟨r,hr,hR⟩:=ad9 (P:=P) (w:=w) (t:=t) X h2 hp hn;exact⟨r,by rw[anK,JR];exact hr,hR⟩
  cases op
  case shl=>simp only[Option.some.injEq,Prod.mk.injEq]at h;obtain⟨rfl,rfl⟩:=h;refine⟨_,?_,rfl,CS _ _⟩;rw[anK,JR];simp[binOp,Op.shift,show ¬m<0 by omega,aot]
  case shr=>simp only[Option.some.injEq,Prod.mk.injEq]at h;obtain⟨rfl,rfl⟩:=h;refine⟨_,?_,rfl,ad8 _ _ _ hn⟩;rw[anK,JR];simp[binOp,Op.shift,show ¬m<0 by omega,aot]
  all_goals
   dsimp only at h;split at h
   .next hk=>exact arith (aoC hk) h
   .cases h
 case bool.bool a b=>
  have e1:v=.bool a:=hx;have e2:v'=.bool b:=hy;subst e1 e2;have hu:=hb a b rfl rfl;have he:(Op.equal t (.bool a) (.bool b)).run P w=.ok (a==b) w:=run_equal_bool w t a b hu;cases op<;>simp only[Option.some.injEq,Prod.mk.injEq,reduceCtorEq]at h<;>obtain⟨_,rfl⟩:=h
  .refine⟨_,?_,rfl⟩;rw[anK,P9];simp[binOp,he]
  .refine⟨_,?_,rfl⟩;rw[anK,P9];simp[binOp,he]
 case str.str x y=>obtain⟨rfl,hn⟩:=hx;obtain⟨rfl,hm⟩:=hy;obtain⟨r,hr,hR⟩:=aea (P:=P) (w:=w) (t:=t) X h hp;exact⟨r,by rw[anK,acJ];exact hr,hR⟩
end Go.Fw
namespace Go.Fw
open Go
def CT.X4:CT->Value
 |.int k=>.int k 0
 |.bool=>.bool false
 |.str=>.string ⟨#[]⟩
 |.sl _ _=>.slice none 0 0
def aB.jA:aB->List Value
 |.nil=>[]
 |.cons c r=>c.X4::r.jA
def aB.desc:aB->Option TypeDesc
 |.cons (.int k) .nil=>some (.int k)
 |.cons .bool .nil=>some .bool
 |.cons .str .nil=>some .string
 |.cons (.sl e _) .nil=>some (.slice e)
 |_=>none
structure kC(P:Program)(t:TypeId)(ti:TI):Prop where
 info:∃i z,P.info? t=some i/\i.size=ti.cells.len/\i.bytes=ti.bytes/\i.zero=some z/\z.cells.toList=ti.cells.jA/\(ti.agg=false->z.cells=#[z])
 und:match ti.kind with
  |.scalar=>∃d,ti.cells.desc=some d/\P.underlying t=some d
  |.str=>P.underlying t=some .string/\ti.cells=.cons .str .nil
  |.slice e=>P.underlying t=some (.slice e)/\∃r,ti.cells=.cons (.sl e r) .nil
  |.struct fs=>∃vP:Array Field,P.underlying t=some (.struct vP)/\(fs=vP.toList.map λf=>(f.offset,f.type))/\∀f∈vP.toList,(P.info? f.type).isSome=true
 small:ti.bytes<=4096
 cmp:ti.cmp=true->∀(w:World)(s u:Operand)(X:V)(xs ys:List Cell)(vs us:Array Value)(b:Bool),ti.cells.fits xs=true->aj X xs vs.toList->aj X ys us.toList->jr xs ys=some b->
  (do eqGuard .eql t s u (.agg vs) (.agg us);binOp .eql t (.agg vs) (.agg us)).run P w=.ok (.bool b) w/\
  (do eqGuard .neq t s u (.agg vs) (.agg us);binOp .neq t (.agg vs) (.agg us)).run P w=.ok (.bool (!b)) w
variable {P:Program} {w0:World} {M:Nat->Prop} {T:Ext} {γ γ':Nat->Value} {st:St} {a:Act} {w w':World} {Θ:iF}
theorem kC.size{t:TypeId}{ti:TI}(h:kC P t ti):(P.info? t).map (·.size)=some ti.cells.len:=by obtain⟨i,z,hi,hs,_⟩:=h.info;rw[hi];simp[hs]
theorem kC.run_sizeOf{t:TypeId}{ti:TI}(h:kC P t ti)(w:World):(sizeOf t).run P w=.ok ti.cells.len w:=by obtain⟨i,z,hi,hs,_⟩:=h.info;simp[sizeOf,typeInfo,hi,hs]
theorem kC.Qa{t:TypeId}{ti:TI}(h:kC P t ti)(w:World):(isAgg t).run P w=.ok ti.agg w:=by
 have hu:=h.und;unfold TI.agg;unfold isAgg;split at hu
 .next hk=>obtain⟨d,hd,hu⟩:=hu;rw[hk,anK,anW hu w];unfold aB.desc at hd;split at hd<;>first|(cases hd;rfl)|cases hd
 .next hk=>rw[hk,anK,anW hu.1 w];rfl
 .next e hk=>rw[hk,anK,anW hu.1 w];rfl
 .next fs hk=>obtain⟨vP,hu,_,_⟩:=hu;rw[hk,anK,anW hu w];rfl
theorem RV(X:V)(fr:Bool):∀(r:aB)(vs:List Value)(x:r.den),aU X.w.heap (X.bT fr) r vs x->aj X (aB.row fr r x) vs
 |.nil,vs,_,h=>by rw[aU]at h;subst h;trivial
 |.cons c r,vs,(x,y),h=>by
  rw[aU]at h;obtain⟨v,vs',rfl,h1,h2⟩:=h;refine⟨?_,RV X fr r vs' y h2⟩;cases c with
  |int k=>exact h1
  |bool=>exact h1
  |str=>exact h1
  |sl e r=>exact h1
theorem MS{b off:Nat}{cs:Array Value}{t:TypeId}{fz:Nat×Nat}(h:w.heap[b]? =some (.cells cs t fz))(n:Nat):
 w.rangeAt b off ((cs.toList.drop off).take n):=by
 intro j v hj;rw[an3]at hj;split at hj
 .rw[anZ]at hj;show w.cell? ⟨b,off+j,none⟩=some v;simp only[World.cell?,h];simpa using hj
 .cases hj
theorem Ez{t:TypeId}{ti:TI}(hT:kC P t ti)(X:V){b off k:Nat}{cs:Array Value}{e:TypeId}{fz:Nat×Nat}
 (hb:w.heap[b]? =some (.cells cs e fz)) {ds:List Cell} {n:Nat} (hr:aj X ds ((cs.toList.drop off).take n)) {v:SV} (hv:jY ti ds k=some v):
 ∃u,(Instr.loadAt t (.pointer (some ⟨b,off+k,none⟩))).run P w=.ok u w/\dn X v u:=by
 unfold jY at hv;have hlen:=aj.length _ _ hr;split at hv
 .next hagg=>
  split at hv
  .next hle=>
   cases hv;have hle:k+ti.cells.len<=ds.length:=aoy hle;have hu:=hT.und;unfold TI.agg at hagg;split at hagg
   .next fs hk=>
    rw[hk]at hu;obtain⟨vP,hu,_,_⟩:=hu;have hsub:(((cs.toList.drop off).take n).drop k).take ti.cells.len=(cs.toList.drop (off+k)).take ti.cells.len:=by rw[anO,anS]at hlen;rw[fB _ _ _ _ (by omega),ao1]
    have hl:((cs.toList.drop (off+k)).take ti.cells.len).length=ti.cells.len:=by rw[anO,anS]at hlen;rw[anO,anS];omega
    refine⟨.agg ((cs.toList.drop (off+k)).take ti.cells.len).toArray,?_,_,rfl,?_⟩
    .exact run_loadAt_mid w b (off+k) t _ _ (MS hb _) hu rfl (by rw[hT.size,hl])
    .rw[apN,← hsub];exact aj.take _ _ _ (aj.drop _ _ _ hr)
   .cases hagg
  .cases hv
 .next hagg=>
  split at hv
  .next c hc=>
   cases hv;obtain⟨u,hu,hR⟩:=aj.get _ _ k c hr hc;refine⟨u,?_,hR⟩;have hcell:w.cell? ⟨b,off+k,none⟩=some u:=by
    rw[an3]at hu;split at hu
    .rw[anZ]at hu;simp only[World.cell?,hb];simpa using hu
    .cases hu
   simp only[Instr.loadAt,Instr.sureAddr,anK,aot,aoj,loadVar,hT.Qa,hagg,ao9,apI];simp[load,Sem.run,hcell]
  .cases hv
end Go.Fw
namespace Go.Fw
open Go
def aB.takeC:Nat->aB->aB
 |0,_=>.nil
 |_+1,.nil=>.nil
 |n+1,.cons c r=>.cons c (r.takeC n)
def aB.VO:Nat->aB->aB
 |0,r=>r
 |_+1,.nil=>.nil
 |n+1,.cons _ r=>r.VO n
def CU(P:Program)(rec:TypeId->aB->Bool):List Field->Nat->aB->Bool
 |[],_,cs=>match cs with|.nil=>true|_=>false
 |f::fs,off,cs=>!(f.name== "_")&&(Nat.beq f.offset off&&(match P.info? f.type with
  |some i=>Nat.ble i.size cs.len&&(rec f.type (cs.takeC i.size)&&CU P rec fs (off+i.size) (cs.VO i.size))
  |none=>false))
def aeb(P:Program):Nat->TypeId->aB->Bool
 |0,_,_=>false
 |n+1,t,cs=>match P.underlying t with
  |some (.int k)=>match cs with|.cons (.int l) .nil=>decide (k=l)|_=>false
  |some .bool=>match cs with|.cons .bool .nil=>true|_=>false
  |some .string=>match cs with|.cons .str .nil=>true|_=>false
  |some (.struct fs)=>!P.stoodInHeld t&&CU P (aeb P n) fs.toList 0 cs
  |_=>false
variable {P:Program}
theorem Y0:∀(n:Nat)(cs:aB)(xs:List Cell),cs.fits xs=true->(cs.takeC n).fits (xs.take n)=true/\(cs.VO n).fits (xs.drop n)=true
 |0,cs,xs,h=>⟨by simp[aB.takeC,aB.fits],by simpa[aB.VO]using h⟩
 |n+1,.nil,[],h=>⟨rfl,rfl⟩
 |n+1,.cons c r,x::xs,h=>by
  rw[aB.fits,anl]at h;have ih:=Y0 n r xs h.2;exact⟨by rw[aB.takeC,aoz,aB.fits,h.1,ih.1];rfl,ih.2⟩
 |n+1,.nil,_::_,h|n+1,.cons _ _,[],h=>by simp[aB.fits]at h
theorem UW{X:V}:∀(n:Nat)(xs:List Cell)(vs:List Value),aj X xs vs->aj X (xs.take n) (vs.take n)/\aj X (xs.drop n) (vs.drop n)
 |0,xs,vs,h=>⟨by simp[aj],by simpa using h⟩
 |n+1,[],[],h=>by simp[aj]
 |n+1,x::xs,v::vs,h=>by
  have ih:=UW n xs vs h.2;exact⟨⟨h.1,ih.1⟩,ih.2⟩
 |n+1,[],_::_,h|n+1,_::_,[],h=>by cases h
theorem Qb:∀(n:Nat)(xs ys:List Cell)(b:Bool),jr xs ys=some b->∃b1 b2,jr (xs.take n) (ys.take n)=some b1/\jr (xs.drop n) (ys.drop n)=some b2/\b=(b1&&b2)
 |0,xs,ys,b,h=>⟨true,b,rfl,by simpa using h,by simp⟩
 |n+1,[],[],b,h=>by cases h;exact⟨true,true,rfl,rfl,rfl⟩
 |n+1,x::xs,y::ys,b,h=>by
  rw[jr]at h;split at h
  .next a c h1 h2=>cases h;obtain⟨b1,b2,e1,e2,rfl⟩:=Qb n xs ys c h2;exact⟨a&&b1,b2,by rw[aoz,aoz,jr,h1,e1],e2,by rw[Bool.and_assoc]⟩
  .cases h
 |n+1,[],_::_,b,h|n+1,_::_,[],b,h=>by simp[jr]at h
theorem JS:∀(cs:aB)(xs:List Cell),cs.fits xs=true->xs.length=cs.len
 |.nil,[],_=>rfl
 |.cons c r,x::xs,h=>by
  rw[aB.fits,anl]at h;rw[ano,aB.len,JS r xs h.2]
 |.nil,_::_,h|.cons _ _,[],h=>by simp[aB.fits]at h
theorem MV{X:V}:∀(xs:List Cell)(vs:List Value),aj X xs vs->vs.length=xs.length
 |[],[],_=>rfl
 |_::xs,_::vs,h=>by rw[ano,ano,MV xs vs h.2]
 |[],_::_,h|_::_,[],h=>by cases h
theorem KO:∀(xs ys:List Cell)(b:Bool),jr xs ys=some b->ys.length=xs.length
 |[],[],_,_=>rfl
 |x::xs,y::ys,b,h=>by
  rw[jr]at h;split at h
  .next a c h1 h2=>rw[ano,ano,KO xs ys c h2]
  .cases h
 |[],_::_,_,h|_::_,[],_,h=>by simp[jr]at h
def ahq(P:Program)(d:Nat)(t:TypeId)(vs us:List Value)(b:Bool)(w:World):Prop:=
 ((∃fs,P.underlying t=some (.struct fs))/\(Op.equalIn d t (.agg vs.toArray) (.agg us.toArray)).run P w=.ok b w)\/
 ((∀w,(isAgg t).run P w=.ok false w)/\∃v u,vs=[v]/\us=[u]/\(Op.equalIn d t v u).run P w=.ok b w)
theorem VP{d:Nat}{rec:TypeId->aB->Bool}{X:V}(w:World)
 (hrec:∀t cs,rec t cs=true->∀(xs ys:List Cell)(vs us:List Value)(b:Bool),cs.fits xs=true->aj X xs vs->aj X ys us->jr xs ys=some b->ahq P d t vs us b w):
 ∀(fs:List Field)(off:Nat)(cs:aB)(pv pu:List Value)(xs ys:List Cell)(vs us:List Value)(b:Bool),CU P rec fs off cs=true->pv.length=off->pu.length=off->cs.fits xs=true->aj X xs vs->aj X ys us->jr xs ys=some b->
  (Op.eqFields d (pv++vs).toArray (pu++us).toArray fs).run P w=.ok b w
 |[],off,cs,pv,pu,xs,ys,vs,us,b,h,_,_,hf,hx,hy,he=>by
  cases cs with
  |nil=>cases xs with
   |nil=>
    cases ys with
    |nil=>cases he;rfl
    |cons=>simp[jr]at he
   |cons=>simp[aB.fits]at hf
  |cons=>simp[CU]at h
 |f::fs,off,cs,pv,pu,xs,ys,vs,us,b,h,hpv,hpu,hf,hx,hy,he=>by
  rw[CU,anl,anl]at h;obtain⟨hn,ho,h⟩:=h;have ho:=anp ho;split at h
  .next i hi=>
   rw[anl,anl]at h;obtain⟨hle,hr,h⟩:=h;have hle:i.size<=cs.len:=by simpa[apJ]using hle
   obtain⟨b1,b2,e1,e2,rfl⟩:=Qb i.size xs ys b he;have f1:=Y0 i.size cs xs hf;have x1:=UW i.size xs vs hx;have y1:=UW i.size ys us hy;have hname:f.name≠ "_" :=by simpa using hn
   have lv:vs.length=cs.len:=by rw[MV _ _ hx,JS _ _ hf]
   have lu:us.length=cs.len:=by rw[MV _ _ hy,KO _ _ _ he,JS _ _ hf]
   have ak9:=hrec f.type _ hr _ _ _ _ b1 f1.1 x1.1 y1.1 e1;have rest:(Op.eqFields d (pv++vs).toArray (pu++us).toArray fs).run P w=.ok b2 w:=by have:=VP w hrec fs (off+i.size) (cs.VO i.size) (pv++vs.take i.size) (pu++us.take i.size) _ _ _ _ b2 h (by rw[anm,hpv,anO];omega) (by rw[anm,hpu,anO];omega) f1.2 x1.2 y1.2 e2;simpa only[anG,apH]using this
   have hsz:∀w,(sizeOf f.type).run P w=.ok i.size w:=λw=>by simp[sizeOf,typeInfo,hi]
   have key:∃a c,(part f.type (pv++vs).toArray f.offset).run P w=.ok a w/\(part f.type (pu++us).toArray f.offset).run P w=.ok c w/\(Op.equalIn d f.type a c).run P w=.ok b1 w:=by
    rcases ak9 with⟨⟨fl,hu⟩,hrun⟩|⟨hag,v,u,hv,hu,hrun⟩
    .refine⟨_,_,?_,?_,hrun⟩
     .have hag:(isAgg f.type).run P w=.ok true w:=by unfold isAgg;rw[anK,anW hu w];rfl
      simp only[part,anK,hag,aoj,if_true,hsz,aot];congr 2;rw[ho,← hpv];apply ao7;simp
     .have hag:(isAgg f.type).run P w=.ok true w:=by unfold isAgg;rw[anK,anW hu w];rfl
      simp only[part,anK,hag,aoj,if_true,hsz,aot];congr 2;rw[ho,← hpu];apply ao7;simp
    .have g1:(pv++vs).toArray[f.offset]? =some v:=by
      rw[ho,← hpv,List.getElem?_toArray,an8 (anr _),apP];have:(vs.take i.size)[0]? =some v:=by rw[hv];rfl
      rw[an3]at this;split at this
      .exact this
      .cases this
     have g2:(pu++us).toArray[f.offset]? =some u:=by
      rw[ho,← hpu,List.getElem?_toArray,an8 (anr _),apP];have:(us.take i.size)[0]? =some u:=by rw[hu];rfl
      rw[an3]at this;split at this
      .exact this
      .cases this
     exact⟨v,u,by simp[part,anK,hag,g1],by simp[part,anK,hag,g2],hrun⟩
   obtain⟨a,c,k1,k2,k3⟩:=key;rw[Op.eqFields];rw[if_pos hname,anK,k1,aoj,anK,k2,aoj,anK,k3,aoj];cases b1 with
   |true=>simpa using rest
   |false=>simp
  .cases h
theorem one_cell{X:V}{c:CT}{xs ys:List Cell}{vs us:List Value}{b:Bool}(hf:(aB.cons c .nil).fits xs=true)(hx:aj X xs vs)(hy:aj X ys us)(he:jr xs ys=some b):
 ∃x y v u,vs=[v]/\us=[u]/\c.fits x=true/\aS X x v/\aS X y u/\PZ x y=some b:=by
 cases xs with
 |nil=>simp[aB.fits]at hf
 |cons x xs=>
  rw[aB.fits,anl]at hf;cases xs with
  |cons=>simp[aB.fits]at hf
  |nil=>
   cases ys with
   |nil=>simp[jr]at he
   |cons y ys=>
    cases ys with
    |cons=>simp[jr]at he
    |nil=>
     cases vs with
     |nil=>cases hx
     |cons v vs=>
      cases us with
      |nil=>cases hy
      |cons u us=>
       cases vs with
       |cons=>cases hx.2
       |nil=>
        cases us with
        |cons=>cases hy.2
        |nil=>
         refine⟨x,y,v,u,rfl,rfl,hf.1,hx.1,hy.1,?_⟩;rw[jr]at he;split at he
         .next a c h1 h2=>cases h2;cases he;rw[h1,an6]
         .cases he
theorem afe{X:V}(w:World):∀(n:Nat)(t:TypeId)(cs:aB),aeb P n t cs=true->∀(d:Nat),n<=d->∀(xs ys:List Cell)(vs us:List Value)(b:Bool),cs.fits xs=true->aj X xs vs->aj X ys us->jr xs ys=some b->ahq P d t vs us b w
 |0,t,cs,h,_,_,_,_,_,_,_,_,_,_,_=>by cases h
 |n+1,t,cs,h,0,hd,_,_,_,_,_,_,_,_,_=>by omega
 |n+1,t,cs,h,d+1,hd,xs,ys,vs,us,b,hf,hx,hy,he=>by
  unfold aeb at h;split at h
  .next k hu=>
   split at h
   .next l=>
    have hk:k=l:=by simpa using h
    subst hk;obtain⟨x,y,v,u,rfl,rfl,hc,h1,h2,h3⟩:=one_cell hf hx hy he;refine .inr ⟨λw=>by unfold isAgg;rw[anK,anW hu w];rfl,v,u,rfl,rfl,?_⟩;cases x<;>simp[CT.fits]at hc;cases y<;>simp only[PZ,reduceCtorEq]at h3
    next k2 a k3 c=>
    split at h3
    .next hkk=>
     have hkk:k2=k3:=by simpa using hkk
     cases h3;subst hc hkk;rw[h1.1,h2.1];exact run_equalIn_int w d t _ _ a c hu
    .cases h3
   .cases h
  .next hu=>
   split at h
   .obtain⟨x,y,v,u,rfl,rfl,hc,h1,h2,h3⟩:=one_cell hf hx hy he;refine .inr ⟨λw=>by unfold isAgg;rw[anK,anW hu w];rfl,v,u,rfl,rfl,?_⟩;cases x<;>simp[CT.fits]at hc;cases y<;>simp[PZ]at h3
    next a c=>
    subst h3;have h1:v=.bool a:=h1;have h2:u=.bool c:=h2;rw[h1,h2];exact run_equalIn_bool w d t a c hu
   .cases h
  .next hu=>
   split at h
   .obtain⟨x,y,v,u,rfl,rfl,hc,h1,h2,h3⟩:=one_cell hf hx hy he;refine .inr ⟨λw=>by unfold isAgg;rw[anK,anW hu w];rfl,v,u,rfl,rfl,?_⟩;cases x<;>simp[CT.fits]at hc;cases y<;>simp[PZ]at h3
    next a c=>
    subst h3;rw[h1.1,h2.1,run_equalIn_string w d t _ _ hu];congr 1;rw[ByteArray.toList_eq,ByteArray.toList_eq]
   .cases h
  .next fs hu=>
   rw[anl]at h;have hp:P.stoodInHeld t=false:=by simpa using h.1
   have hfs:P.fieldsOf t=fs:=by unfold Program.fieldsOf;rw[hu]
   refine .inl ⟨⟨fs,hu⟩,?_⟩;rw[run_equalIn_struct w d t _ _ (by rw[hfs];exact hu) hp,hfs];have:=VP (X:=X) (d:=d) w (λt cs hr xs ys vs us b=>afe w n t cs hr d (by omega) xs ys vs us b) fs.toList 0 cs [] [] xs ys vs us b h.2 rfl rfl hf hx hy he;simpa using this
  .cases h
def aec(P:Program)(t:TypeId)(cs:aB):Bool:=aeb P 20 t cs&&(!P.eqGuardType P.depth t&&(match P.underlying t with|some (.struct _)=>true|_=>false))
theorem ah3{t:TypeId}{cs:aB}(h:aec P t cs=true)(w:World)(s u:Operand)(X:V)(xs ys:List Cell)(vs us:Array Value)(b:Bool)(hf:cs.fits xs=true)(hx:aj X xs vs.toList)(hy:aj X ys us.toList)(he:jr xs ys=some b):
 (do eqGuard .eql t s u (.agg vs) (.agg us);binOp .eql t (.agg vs) (.agg us)).run P w=.ok (.bool b) w/\
 (do eqGuard .neq t s u (.agg vs) (.agg us);binOp .neq t (.agg vs) (.agg us)).run P w=.ok (.bool (!b)) w:=by
 unfold aec at h;rw[anl,anl]at h;obtain⟨h1,h2,h3⟩:=h;have hg:P.eqGuardType P.depth t=false:=by simpa using h2
 have hrun:(Op.equalIn 10000 t (.agg vs) (.agg us)).run P w=.ok b w:=by
  rcases afe w 20 t cs h1 10000 (by omega) xs ys vs.toList us.toList b hf hx hy he with⟨_,h⟩|⟨hag,_⟩
  .simpa using h
  .split at h3
   .next fs hu=>have:=hag w;unfold isAgg at this;rw[anK,anW hu w]at this;cases this
   .cases h3
 constructor
 .rw[anK,run_eqGuard_agg w _ _ _ _ _ _ hg,aoj,run_eql_struct,hrun];rfl
 .rw[anK,run_eqGuard_agg w _ _ _ _ _ _ hg,aoj,run_neq_struct,hrun];rfl
end Go.Fw
namespace Go.Fw
open Go
variable {P:Program} {w0:World} {M:Nat->Prop} {T:Ext} {γ γ':Nat->Value} {st:St} {a:Act} {w w':World} {Θ:iF}
theorem KP{s:Sem Value}{u:Value}(h:s.run P w=.ok u w'):(do pure (Next.value (← s)):Sem Next).run P w=.ok (.value u) w':=by simp[h]
theorem Jo(hΘ:∀t ti,Θ t=some ti->kC P t ti)(h:Rel w0 M T γ st a w){t:TypeId}{ti:TI}(ht:Θ t=some ti){x:Operand}{v:SV}:
 ((∃o off cs,st.ev x=.cZ o off/\st.ah o=some (.var cs)/\jY ti cs off=some v)\/
  (∃o i off e r l fr,st.ev x=.lU o i off/\st.ah o=some (.arr e r l fr)/\i<l.length/\jY ti (aB.row fr r (l.getD i r.dflt)) off=some v)\/
  (∃r y off fr,st.ev x=.nX r y off fr/\jY ti (aB.row fr r y) off=some v))->
 ∃u,(Instr.loadAt t (a.eval x)).run P w=.ok u w/\dn (ax w0 T γ st w) v u:=by
 have hx:=gU h x;rintro(⟨o,off,cs,e,ho,hv⟩|⟨o,i,off,e',r,l,fr,e,ho,hi,hv⟩|⟨r,y,off,fr,e,hv⟩)
 .rw[e]at hx;obtain⟨b,cs',_,hγ,hx⟩:=hx;obtain⟨b',arr,ty,KQ,hb,hr⟩:=h.ah o _ ho;have hbb:b'=b:=by have h1:γ o=.pointer (some ⟨b,0,none⟩):=hγ;have h2:γ o=.pointer (some ⟨b',0,none⟩):=KQ;rw[h1]at h2;simpa using h2.symm
  subst hbb;rw[hx];have hr':aj (ax w0 T γ st w) cs ((arr.toList.drop 0).take arr.size):=by rw[aqf,aos (by simp)];exact hr
  have:=Ez (hΘ t ti ht) (ax w0 T γ st w) hb hr' hv;simpa using this
 .rw[e]at hx;obtain⟨b,n,cap,e2,r2,l2,fr2,ho2,hγ,hx⟩:=hx;have aaD:st.ah o=some (.arr e2 r2 l2 fr2):=ho2;rw[ho]at aaD;cases aaD;obtain⟨xs,⟨h1,h2⟩,hpos,_,hrow⟩:=h.ah o _ ho;rcases h2 with⟨hnil,_⟩|⟨g,cap',cur,hg,_,hh,hle,_,hsz,htake⟩
  .have OE:γ o=.slice (some ⟨b,0,none⟩) n cap:=hγ;have kW:γ o=.slice none 0 0:=hnil;rw[OE]at kW;cases kW
  .have OE:γ o=.slice (some ⟨b,0,none⟩) n cap:=hγ;have kW:γ o=.slice (some ⟨g,0,none⟩) l.length cap':=hg;rw[OE]at kW;simp at kW;obtain⟨rfl,-,-⟩:=kW;rw[hx];have hmul:i*r.len+r.len<=l.length*r.len:=by have:(i+1)*r.len<=l.length*r.len:=anD _ hi;rw[an9]at this;simpa using this
   have hli:l[i]? =some (l.getD i r.dflt):=by rw[anz,anu hi];rfl
   have hR:=hrow i _ hli;rw[← htake,fB _ _ _ _ hmul]at hR;exact Ez (hΘ t ti ht) (ax w0 T γ st w) hh (RV _ fr r _ _ hR) hv
 .rw[e]at hx;obtain⟨b,base,cs,ty,fz,hx,hf,hb,hR⟩:=hx;rw[hx];exact Ez (hΘ t ti ht) (ax w0 T γ st w) hb (RV _ fr r _ _ hR) hv
theorem addr_add(b o k:Nat):(⟨b,o,none⟩:Addr).add k=⟨b,o+k,none⟩:=Addr.add_mid b o k
theorem EC(hΘ:∀t ti,Θ t=some ti->kC P t ti){s:TypeId}{ti te:TI}(hs:Θ s=some ti){fs:List (Nat×TypeId)}(hk:ti.kind=.struct fs){f k:Nat}{t:TypeId}(hf:fs[f]? =some (k,t))
 (ht:Θ t=some te) (hne:te.cells≠ .nil) (b o:Nat):(Instr.fieldAt s (.pointer (some ⟨b,o,none⟩)) f).run P w=.ok (.pointer (some ⟨b,o+k,none⟩)) w:=by
 have hu:=(hΘ s ti hs).und;rw[hk]at hu;obtain⟨vP,hu,rfl,_⟩:=hu;rw[aoK]at hf;cases hfl:vP.toList[f]? with
 |none=>rw[hfl]at hf;cases hf
 |some fl=>
  rw[hfl]at hf;simp at hf;obtain⟨rfl,rfl⟩:=hf;have MW:vP[f]? =some fl:=by simpa using hfl
  have hsz:te.cells.len≠0:=by
   cases hc:te.cells with
   |nil=>exact absurd hc hne
   |cons c r=>simp[aB.len]
  simp[Instr.fieldAt,Instr.sureAddr,anK,anW hu w,MW,fieldPlace,(hΘ _ te ht).run_sizeOf,hsz,addr_add]
theorem run_indexAt(hΘ:∀t ti,Θ t=some ti->kC P t ti){t e:TypeId}{ti te:TI}(ht:Θ t=some ti)(hk:ti.kind=.slice e)(he:Θ e=some te)(b o len cap:Nat)(k:IntKind)(n:Int)(h0:0<=n)(hn:n<len):
 (Instr.indexAt t (.slice (some ⟨b,o,none⟩) len cap) (.int k n)).run P w=.ok (.pointer (some ⟨b,o+n.toNat*te.cells.len,none⟩)) w:=by
 have hu:=(hΘ t ti ht).und;rw[hk]at hu;simp[Instr.indexAt,asIntOf,anK,anW hu.1 w,h0,hn,(hΘ e te he).run_sizeOf,addr_add]
theorem agA{X:V}{e:TypeId}{r:aB}{l:List r.den}{fr:Bool}{v:Value}(h:aS X (.sl e r l fr) v){i:Nat}(hi:i<l.length):
 ∃b off cap,v=.slice (some ⟨b,off,none⟩) l.length cap/\aV X (.nX r (l.getD i r.dflt) 0 fr) (.pointer (some ⟨b,off+i*r.len,none⟩)):=by
 have h:qG _ _ _ _ v l:=h;rcases h.2 with⟨hl,_⟩|⟨b,off,cap,cs,t,fz,hv,_,hS,hb,hx⟩
 .subst hl;simp at hi
 .have hli:l[i]? =some (l.getD i r.dflt):=by rw[anz,anu hi];rfl
  exact⟨b,off,cap,hv,b,off+i*r.len,cs,t,fz,rfl,hS,hb,hx i _ hli⟩
theorem acL(hΘ:∀t ti,Θ t=some ti->kC P t ti){t:TypeId}{ti:TI}(ht:Θ t=some ti)(hk:ti.kind=.str)(s:ByteArray)(ty:TypeId):
 (Builtin.len_ #[t] ty #[.string s]).run P w=.ok (.int .i64 s.size) w:=by
 have hu:=(hΘ t ti ht).und;rw[hk]at hu;simp[Builtin.len_,anK,anW hu.1 w,goInt]
theorem run_len_slice(hΘ:∀t ti,Θ t=some ti->kC P t ti){t e:TypeId}{ti:TI}(ht:Θ t=some ti)(hk:ti.kind=.slice e)(a:Option Addr)(n c:Nat)(ty:TypeId):
 (Builtin.len_ #[t] ty #[.slice a n c]).run P w=.ok (.int .i64 n) w:=by
 have hu:=(hΘ t ti ht).und;rw[hk]at hu;simp[Builtin.len_,anK,anW hu.1 w,goInt]
theorem size_bytes(s:Bytes):(⟨s.toArray⟩:ByteArray).size=s.length:=by show s.toArray.size=_;simp
theorem aaE{X:V}{e:TypeId}{r:aB}{l:List r.den}{fr:Bool}{v:Value}(h:aS X (.sl e r l fr) v):∃a c,v=.slice a l.length c/\l.length<=maxLen:=by
 have h:qG _ _ _ _ v l:=h;rcases h.2 with⟨hl,a,c,hv⟩|⟨b,off,cap,cs,t,fz,hv,_⟩
 .subst hl;exact⟨a,c,hv,h.1⟩
 .exact⟨_,cap,hv,h.1⟩
theorem adn(h:Rel w0 M T γ st a w){o:Nat}{v:Value}(hc:aS (ax w0 T γ st w) (.ref o) v){e:TypeId}{r:aB}{l:List r.den}{fr:Bool}(ho:st.ah o=some (.arr e r l fr)):
 ∃a c,v=.slice a l.length c/\l.length<=maxLen:=by
 obtain⟨_,hv,_⟩:=hc;obtain⟨xs,⟨_,h2⟩,_⟩:=h.ah o _ ho;rcases h2 with⟨h3,h4⟩|⟨g,cap,cur,h3,_,_,h4,h5,_⟩
 .exact⟨none,0,by rw[hv,h4];exact h3,by rw[h4];exact ant _⟩
 .exact⟨_,cap,hv.trans h3,anx h4 h5⟩
theorem RX(n:Nat)(h:n<=maxLen):IntKind.i64.min<=(n:Int)/\(n:Int)<=IntKind.i64.max:=by unfold maxLen at h;have e1:IntKind.i64.min=-9223372036854775808:=rfl;have e2:IntKind.i64.max=9223372036854775807:=rfl;rw[e1,e2];omega
theorem run_sliceBound{k:IntKind}{n:Int}{y:Nat}{c:BoundsCode}(h0:0<=n)(h1:n<=y):(Instr.sliceBound (.int k n) y c).run P w=.ok n.toNat w:=by simp[Instr.sliceBound,asIntOf,h0,h1]
theorem pY(h:Rel w0 M T γ st a w){len cap:Nat}(hcap:len<=cap){lo hi:Option Operand}{p:Prop}{x y:Nat}(hb:kV st len lo hi=some (p,x,y))(hp:p)(sl:Bool):
 (Instr.sliceBounds sl len cap (lo.map a.eval) (hi.map a.eval) none).run P w=.ok (x,y,cap) w/\x<=y/\y<=len:=by
 unfold kV at hb;split at hb
 .cases hb;exact⟨by simp[Instr.sliceBounds],ant _,anr _⟩
 .next l=>
  split at hb
  .next n hn=>cases hb;obtain⟨k,hk,_⟩:=rD h hn;refine⟨?_,by omega,anr _⟩;simp only[Instr.sliceBounds,aop,apc,hk,anK,aot,aoj];rw[run_sliceBound hp.1 hp.2];simp
  .cases hb
 .next hh=>
  split at hb
  .next n hn=>cases hb;obtain⟨k,hk,_⟩:=rD h hn;refine⟨?_,by omega,by omega⟩;simp only[Instr.sliceBounds,aop,apc,hk,anK,aot,aoj];rw[run_sliceBound hp.1 (by omega)];simp
  .cases hb
 .next l hh=>
  split at hb
  .next n m hn hm=>cases hb;obtain⟨k,hk,_⟩:=rD h hn;obtain⟨k',hk',_⟩:=rD h hm;refine⟨?_,by omega,by omega⟩;simp only[Instr.sliceBounds,aop,hk,hk',anK,aot,aoj];rw[run_sliceBound (k:=k') (by omega) (show m<=(cap:Int) by omega)];simp only[aoj];rw[run_sliceBound (k:=k) hp.1 (by omega)];simp
  .cases hb
theorem ZQ(s:Bytes)(x y:Nat):(⟨s.toArray⟩:ByteArray).extract x y=⟨((s.take y).drop x).toArray⟩:=by apply ByteArray.ext;simp[aqe]
theorem ah4{X:V}{e:TypeId}{r:aB}{l:List r.den}{fr:Bool}{ad:Option Addr}{n c:Nat}(h:aS X (.sl e r l fr) (.slice ad n c)){x y:Nat}(hxy:x<=y)(hy:y<=l.length):
 aS X (.sl e r ((l.take y).drop x) fr) (.slice (if c=x then ad else ad.map (·.add (x*r.len))) (y-x) (c-x)):=by
 have h:qG _ _ _ _ (.slice ad n c) l:=h;have hlen:((l.take y).drop x).length=y-x:=by simp;omega
 refine⟨by rw[hlen];exact anx (by omega) h.1,?_⟩;by_cases hne:y=x
 .subst hne;refine .inl ⟨?_,_,_,by rw[apP]⟩;rw[← anV,hlen];omega
 .rcases h.2 with⟨hl,_⟩|⟨b,off,cap,cs,t,fz,hv,hc,hS,hb,hx⟩
  .subst hl;simp at hy;omega
  .simp only[Value.slice.injEq]at hv;obtain⟨rfl,rfl,rfl⟩:=hv;refine .inr ⟨b,off+x*r.len,c-x,cs,t,fz,?_,by rw[hlen];omega,hS,hb,λi z hi=>?_⟩
   .rw[hlen];rw[if_neg (by omega)];simp[addr_add]
   .rw[anZ,an3]at hi;split at hi
    .have:=hx (x+i) z hi;rw[show off+x*r.len+i*r.len=off+(x+i)*r.len by rw[an9];omega];exact this
    .cases hi
def upd(γ:Nat->Value)(o:Nat)(v:Value):Nat->Value:=λp=>match Nat.beq p o with|true=>v|false=>γ p
theorem upd_same(γ:Nat->Value)(o:Nat)(v:Value):upd γ o v o=v:=by simp[upd,aoe]
theorem xJ{p o:Nat}(h:p≠o):Nat.beq p o=false:=by
 cases hb:Nat.beq p o with
 |false=>rfl
 |true=>exact absurd (anp hb) h
theorem nR(γ:Nat->Value){o p:Nat}(v:Value)(h:p≠o):upd γ o v p=γ p:=by simp[upd,xJ h]
theorem add_same(st:St)(o:Nat)(x:aG):(st.add o x).ah o=some x:=by simp[St.add,aoe]
theorem kX(st:St){o p:Nat}(x:aG)(h:p≠o):(st.add o x).ah p=st.ah p:=by simp[St.add,xJ h]
theorem heap_alloc_old(w:World)(x:Obj){b:Nat}(h:b<w.heap.size):(w.alloc x).heap[b]? =w.heap[b]? :=by show(w.heap.push x)[b]? =_;rw[Array.getElem?_push,if_neg (by omega)]
theorem FI(w:World)(x:Obj):(w.alloc x).heap[w.heap.size]? =some x:=by show(w.heap.push x)[w.heap.size]? =_;rw[Array.getElem?_push,if_pos rfl]
theorem Rel.alloc1(h:Rel w0 M T γ st a w)(o:Nat)(x:aG)(hnew:st.ah o=none)(h48:∀cs,x=.var cs->o%64≠48)(arr:Array Value)(t:TypeId)(v:Value)(hv:blk v=some w.heap.size)
 (hx:(ax w0 T γ st w).le ⟨w.alloc (.cells arr t),w0.heap.size,T,upd γ o v,(st.add o x).ah⟩->bf ⟨w.alloc (.cells arr t),w0.heap.size,T,upd γ o v,(st.add o x).ah⟩ o x):
 Rel w0 M T (upd γ o v) (st.add o x) a (w.alloc (.cells arr t))/\(ax w0 T γ st w).le ⟨w.alloc (.cells arr t),w0.heap.size,T,upd γ o v,(st.add o x).ah⟩:=by
 have hA:∀p y,st.ah p=some y->(st.add o x).ah p=some y:=by
  intro p y hp;by_cases e:p=o
  .rw[e,hnew]at hp;cases hp
  .rw[kX st x e];exact hp
 have hγ:∀p y,st.ah p=some y->upd γ o v p=γ p:=by
  intro p y hp;by_cases e:p=o
  .rw[e,hnew]at hp;cases hp
  .exact nR γ v e
 have hsize:(w.alloc (.cells arr t)).heap.size=w.heap.size+1:=by show(w.heap.push _).size=_;simp
 have le:(ax w0 T γ st w).le ⟨w.alloc (.cells arr t),w0.heap.size,T,upd γ o v,(st.add o x).ah⟩:=by
  refine⟨anr _,λb hb=>⟨⟨?_,hb.2.1,λp y hp=>?_⟩,heap_alloc_old w _ hb.1⟩,λp cs hp=>⟨⟨cs,hA p _ hp⟩,hγ p _ hp⟩,λp e r l fr hp=>⟨⟨l,fr,hA p _ hp⟩,hγ p _ hp⟩⟩
  .show b<(w.alloc (.cells arr t)).heap.size;have:b<w.heap.size:=hb.1;omega
  .show blk (upd γ o v p)≠some b;by_cases e:p=o
   .rw[e,upd_same,hv];have:b<w.heap.size:=hb.1;intro e2;cases e2;omega
   .rw[nR γ v e];have hp':(st.add o x).ah p=some y:=hp;rw[kX st x e]at hp';exact hb.2.2 p y hp'
 refine⟨(h.grown (γ':=upd γ o v) (w':=w.alloc (.cells arr t)) (st.add o x).ah hA hγ rfl rfl rfl (by omega) (λb hb=>heap_alloc_old w _ hb) ?_ ?_ ?_).1,le⟩
 .intro p y hp hn;by_cases e:p=o
  .subst e;rw[add_same]at hp;cases hp;refine⟨hx le,λb hb=>?_⟩;rw[upd_same,hv]at hb;cases hb;exact⟨anr _,by omega⟩
  .rw[kX st x e,hn]at hp;cases hp
 .intro p cs hp hn;by_cases e:p=o
  .subst e;rw[add_same]at hp;cases hN:T.N p with
   |none=>rfl
   |some v'=>exact(h48 cs (Option.some.inj hp) (T.n48 p v' hN)).elim
  .rw[kX st x e,hn]at hp;cases hp
 .intro p y q z b hp hn hq hm hpq hb;by_cases e:p=o
  .by_cases e':q=o
   .exact absurd (e.trans e'.symm) hpq
   .rw[kX st x e',hm]at hq;cases hq
  .rw[kX st x e,hn]at hp;cases hp
theorem Rel.aaF(h:Rel w0 M T γ st a w)(o:Nat)(cs:List Cell)(hnew:st.ah o=none)(h48:o%64≠48)(arr:Array Value)(t:TypeId)(hr:aj (ax w0 T γ st w) cs arr.toList):
 Rel w0 M T (upd γ o (.pointer (some ⟨w.heap.size,0,none⟩))) (st.add o (.var cs)) a (w.alloc (.cells arr t))/\
 aV (ax w0 T (upd γ o (.pointer (some ⟨w.heap.size,0,none⟩))) (st.add o (.var cs)) (w.alloc (.cells arr t))) (.cZ o 0) (.pointer (some ⟨w.heap.size,0,none⟩)):=by
 refine⟨(h.alloc1 o (.var cs) hnew (λ_ _=>h48) arr t _ rfl λle=>?_).1,w.heap.size,cs,add_same _ _ _,upd_same _ _ _,rfl⟩;exact⟨w.heap.size,arr,t,upd_same _ _ _,FI w _,aj.mono le cs _ hr⟩
theorem Rel.UX(h:Rel w0 M T γ st a w)(o:Nat)(e:TypeId)(r:aB)(l:List r.den)(fr:Bool)(hnew:st.ah o=none)(arr:Array Value)(cap:Nat)(hlen:0<r.len)
 (hcap:l.length<=cap) (hmax:cap<=maxLen) (hsz:arr.size=cap*r.len)
 (hr:∀i x,l[i]? =some x->aU w.heap ((ax w0 T γ st w).bT fr) r ((arr.toList.drop (i*r.len)).take r.len) x):
 Rel w0 M T (upd γ o (.slice (some ⟨w.heap.size,0,none⟩) l.length cap)) (st.add o (.arr e r l fr)) a (w.alloc (.cells arr e))/\
 aV (ax w0 T (upd γ o (.slice (some ⟨w.heap.size,0,none⟩) l.length cap)) (st.add o (.arr e r l fr)) (w.alloc (.cells arr e))) (.sv (.one (.ref o))) (.slice (some ⟨w.heap.size,0,none⟩) l.length cap):=by
 refine⟨(h.alloc1 o (.arr e r l fr) hnew (λ_ e=>by cases e) arr e _ rfl λle=>?_).1,⟨e,r,l,fr,add_same _ _ _⟩,(upd_same _ _ _).symm,rfl⟩;refine⟨arr.toList.take (l.length*r.len),⟨?_,.inr ⟨w.heap.size,cap,arr,upd_same _ _ _,ant _,FI w _,hcap,hmax,hsz,rfl⟩⟩,hlen,?_,λi x hi=>?_⟩
 .have h1:arr.toList.length=cap*r.len:=by rw[← hsz];rfl
  have h2:l.length*r.len<=cap*r.len:=anD _ hcap;rw[anO,h1];omega
 .intro b hb _;have hb:blk (upd γ o (.slice (some ⟨w.heap.size,0,none⟩) l.length cap) o)=some b:=hb;rw[upd_same]at hb;cases hb;exact h.grow
 .have hlt:i<l.length:=(anv.1 hi).1;have hmul:i*r.len+r.len<=l.length*r.len:=by have:(i+1)*r.len<=l.length*r.len:=anD _ hlt;rw[an9]at this;simpa using this
  rw[fB _ _ _ _ hmul];exact aU.mono (λb hb=>le.bT fr b hb) r _ x (hr i x hi)
theorem UY(X:V):∀(r:aB),aj X r.zeros r.jA
 |.nil=>trivial
 |.cons c r=>by
  refine⟨?_,UY X r⟩;cases c with
  |int k=>exact⟨rfl,by cases k<;>decide⟩
  |bool=>rfl
  |str=>exact⟨rfl,ant _⟩
  |sl e s=>rfl
theorem Qc(h:Array Obj)(S:Nat->Prop):∀(r:aB),aU h S r r.jA r.dflt
 |.nil=>rfl
 |.cons c r=>by
  rw[aB.jA,aB.dflt,aU];refine⟨c.X4,r.jA,rfl,?_,Qc h S r⟩;cases c with
  |int k=>exact⟨rfl,show k.min<=(0:Int)/\(0:Int)<=k.max by cases k<;>decide⟩
  |bool=>rfl
  |str=>exact⟨rfl,ant _⟩
  |sl e s=>exact⟨ant _,.inl ⟨rfl,none,0,rfl⟩⟩
theorem Ho(h:Rel w0 M T γ st a w)(fr:Bool):∀(r:aB)(cs:List Cell)(vs:List Value)(x:r.den),aj (ax w0 T γ st w) cs vs->xI st r cs=some x->cs.flatMap Cell.refs=[]->(fr=true->cs.all (Cell.fresh st)=true)->
 aU w.heap ((ax w0 T γ st w).bT fr) r vs x
 |.nil,[],[],_,_,_,_,_=>rfl
 |.nil,_::_,_,_,_,hg,_,_=>by simp[xI]at hg
 |.cons _ _,[],_,_,_,hg,_,_=>by simp[xI]at hg
 |.cons c r,y::ys,v::vs,x,⟨h1,h2⟩,hg,hn,hf=>by
  rw[xI]at hg;rw[aoD,aog]at hn;split at hg
  .next p q hp hq=>
   cases hg;rw[aU];refine⟨v,vs,rfl,?_,Ho h fr r ys vs q h2 hq hn.2 (λe=>by have:=hf e;simp only[aox,anl]at this;exact this.2)⟩;have hy:fr=true->y.fresh st=true:=λe=>by have:=hf e;simp only[aox,anl]at this;exact this.1
   cases c with
   |int k=>exact Cell.RU h (.int k) y v p h1 hp
   |bool=>exact Cell.RU h .bool y v p h1 hp
   |str=>exact Cell.RU h .str y v p h1 hp
   |sl e s=>
    cases y with
    |int k n=>simp[Cell.get]at hp
    |bool b=>simp[Cell.get]at hp
    |str s=>simp[Cell.get]at hp
    |junk=>simp[Cell.get]at hp
    |ref o=>simp[Cell.refs]at hn
    |nil=>
     simp only[Cell.get]at hp;cases hp;have hv:v=.slice none 0 0:=h1;subst hv;exact⟨ant _,.inl ⟨rfl,none,0,rfl⟩⟩
    |sl e' s' l fr'=>
     simp only[Cell.get]at hp;split at hp
     .next hb=>have hrs:=aB.eq_of_beq s' s hb;subst hrs;cases hp;exact bW.mono (λb hb=>⟨⟨hb.1,λe2=>hb.2 (hy e2)⟩,rfl⟩) (.sl e s') v l h1
     .cases hp
  .cases hg
 |.cons _ _,_::_,[],_,H,_,_,_=>by cases H
 |.nil,[],_::_,_,H,_,_,_=>by cases H
def look:List (Nat×aG)->Nat->Option aG
 |[],_=>none
 |(o,x)::r,p=>match look r p with
  |some y=>some y
  |none=>match Nat.beq p o with|true=>some x|false=>none
theorem kY:∀(δ:List (Nat×aG))(st:St)(p:Nat),(st.adds δ).ah p=match look δ p with|some y=>some y|none=>st.ah p
 |[],st,p=>rfl
 |(o,x)::r,st,p=>by
  rw[St.adds,kY r (st.add o x) p,look];cases hl:look r p with
  |some y=>rfl
  |none=>
   cases hb:Nat.beq p o with
   |true=>simp[St.add,hb]
   |false=>simp[St.add,hb]
theorem BO:∀(δ:List (Nat×aG))(st:St),(st.adds δ).tmps=st.tmps/\(st.adds δ).n=st.n
 |[],_=>⟨rfl,rfl⟩
 |(o,x)::r,st=>BO r (st.add o x)
theorem uI:∀(δ:List (Nat×aG))(p:Nat)(x:aG),look δ p=some x->(p,x)∈δ
 |[],_,_,h=>by cases h
 |(o,y)::r,p,x,h=>by
  rw[look]at h;cases hl:look r p with
  |some z=>rw[hl]at h;cases h;exact anB _ (uI r p x hl)
  |none=>
   rw[hl]at h;cases hb:Nat.beq p o with
   |true=>rw[hb]at h;cases h;rw[anp hb];exact anC
   |false=>rw[hb]at h;cases h
theorem KR(st:St)(δ:List (Nat×aG)):st.adds δ={st with ah:=(st.adds δ).ah}:=by
 have h:=BO δ st;cases e:st.adds δ with
 |mk n t o=>rw[e]at h;simp at h;rw[h.1,h.2]
theorem CV{δ:List (Nat×aG)}(h:iP st δ=true){p:Nat}{x:aG}(hl:look δ p=some x):st.ah p=none:=by have:=anI.1 h _ (uI δ p x hl);simpa using this
structure jg where
 n:Nat
 ok:World->Prop
 low:∀w,ok w->n<=w.heap.size
 stable:∀w w',ok w->w.heap.size<=w'.heap.size->(∀b,b<n->w'.heap[b]? =w.heap[b]?)->ok w'
def ny(X:V):Arg->Value->Prop
 |.sv v,u=>dn X v u
 |.kp cs,u=>aV X (.dF cs 0) u
 |.fn f caps,u=>aV X (.fn f caps) u
 |.own _ _ _,_|.ptr _,_=>False
def mF(X:V):List Arg->List Value->Prop
 |[],[]=>True
 |c::cs,v::vs=>ny X c v/\mF X cs vs
 |_,_=>False
def gW(P:Program)(G:jg)(f:FuncId)(con:EJ):Prop:=
 ∀(args:List Arg)(p:Prop)(out:Out)(k:Nat)(S:Nat->Prop)(vs:Array Value)(w:World),con args=some (p,out)->p->G.ok w->
  mF ⟨w,w.heap.size,S,λ_=>undef,λ_=>none⟩ args vs.toList->
  Calls P f vs w λe w'=>∃v vals,e=.returned v/\w'.os=w.os/\w'.tape=w.tape/\w'.output=w.output/\w.heap.size<=w'.heap.size/\
   (∀b,b<w.heap.size->w'.heap[b]? =w.heap[b]?)/\
   aV ⟨w',w.heap.size,S,vals,look (out.take k).2⟩ (out.take k).1 v/\
   (∀o x,look (out.take k).2 o=some x->bf ⟨w',w.heap.size,S,vals,look (out.take k).2⟩ o x/\∀b,blk (vals o)=some b->w.heap.size<=b/\b<w'.heap.size)/\
   (∀o x q y b,look (out.take k).2 o=some x->look (out.take k).2 q=some y->o≠q->blk (vals o)=some b->blk (vals q)≠some b)
def dN(args:List Arg)(p:Nat):Option aG:=
 match args[p / 64]? with
 |some (.own e r l)=>match Nat.beq (p%64) 49 with|true=>some (.arr e r l false)|false=>none
 |some (.ptr cs)=>match Nat.beq (p%64) 48 with|true=>some (.var cs)|false=>none
 |_=>none
def Hq(X:V)(i:Nat):Arg->Value->Prop
 |.own _ _ _,v=>aS X (.ref (i*64+49)) v
 |.ptr _,v=>aV X (.cZ (i*64+48) 0) v
 |a,v=>ny X a v
def uU(X:V):Nat->List Arg->List Value->Prop
 |_,[],[]=>True
 |i,c::cs,v::vs=>Hq X i c v/\uU X (i+1) cs vs
 |_,_,_=>False
def wR(E:Nat->Option aG)(γ:Nat->Value)(b:Nat):Prop:=∃o x,E o=some x/\blk (γ o)=some b
def qp(S:Nat->Prop)(args:List Arg)(aJ:List Eff)(γ:Nat->Value)(b:Nat):Prop:=
 (S b\/wR (dN args) γ b)/\∀q y,kD aJ q=some y->blk (γ q)≠some b
def MX(S:Nat->Prop)(args:List Arg)(γ:Nat->Value)(w:World)(k:Nat)(out:Out)(aJ:List Eff)(e:Ending)(w':World):Prop:=
 ∃v γ',e=.returned v/\w'.os=w.os/\w'.tape=w.tape/\w'.output=w.output/\w.heap.size<=w'.heap.size/\
  (∀b,b<w.heap.size->¬wR (dN args) γ b->w'.heap[b]? =w.heap[b]?)/\
  aV ⟨w',w.heap.size,qp S args aJ γ,γ',look (out.take k).2⟩ (out.take k).1 v/\
  (∀o x,look (out.take k).2 o=some x->bf ⟨w',w.heap.size,qp S args aJ γ,γ',look (out.take k).2⟩ o x/\
    ∀b,blk (γ' o)=some b->b<w'.heap.size/\(w.heap.size<=b\/wR (dN args) γ b)/\∀q y,kD aJ q=some y->blk (γ q)≠some b)/\
  (∀o x q y b,look (out.take k).2 o=some x->look (out.take k).2 q=some y->o≠q->blk (γ' o)=some b->blk (γ' q)≠some b)/\
  (∀o x,kD aJ o=some x->γ' o=γ o/\bf ⟨w',w.heap.size,qp S args aJ γ,γ',look (out.take k).2⟩ o x)
def qw(P:Program)(G:jg)(f:FuncId)(con:JL):Prop:=
 ∀(args:List Arg)(p:Prop)(ρ:JQ),con args=some (p,ρ)->p->(∃t,ρ.R t)/\
  ∀(k:Nat)(S:Nat->Prop)(γ:Nat->Value)(vs:Array Value)(w:World),G.ok w->uU ⟨w,w.heap.size,S,γ,dN args⟩ 0 args vs.toList->
   (∀o x,dN args o=some x->bf ⟨w,w.heap.size,S,γ,dN args⟩ o x/\∀b,blk (γ o)=some b->b<w.heap.size/\G.n<=b)->
   (∀o x q y b,dN args o=some x->dN args q=some y->o≠q->blk (γ o)=some b->blk (γ q)≠some b)->
   (∀t,ρ.R t->∀o x,look ((ρ.out t).take k).2 o=some x->kD (ρ.aJ t) o=none)->
   Calls P f vs w λe w'=>∃t,ρ.R t/\MX S args γ w k (ρ.out t) (ρ.aJ t) e w'
theorem ahr{X:V}{S':Nat->Prop}{b:Nat}(h:X.bT true b):({X with S:=S'}:V).bT true b:=
 ⟨⟨h.1.1,λhlt=>by have h1:=h.2 rfl;have hlt':b<X.n0:=hlt;omega,h.1.2.2⟩,h.2⟩
theorem aS.newS{X:V}(S':Nat->Prop):∀(c:Cell)(v:Value),c.made=true\/c.isRef=true->aS X c v->aS {X with S:=S'} c v
 |.int _ _,_,_,H|.bool _,_,_,H|.str _,_,_,H|.nil,_,_,H|.junk,_,_,H=>H
 |.sl e r l fr,v,h,H=>by
  have hfr:fr=true:=by rcases h with h|h;exact h;cases h
  subst hfr;exact bW.mono (λb hb=>⟨ahr hb,rfl⟩) (.sl e r) v l H
 |.ref o,v,_,H=>H
theorem aj.newS{X:V}(S':Nat->Prop):∀(cs:List Cell)(vs:List Value),(∀c∈cs,c.made=true\/c.isRef=true)->aj X cs vs->aj {X with S:=S'} cs vs
 |[],[],_,H=>H
 |c::cs,v::vs,h,⟨h1,h2⟩=>⟨aS.newS S' c v (h c anC) h1,aj.newS S' cs vs (λd hd=>h d (anB _ hd)) h2⟩
 |[],_::_,_,H|_::_,[],_,H=>by cases H
theorem dn.newS{X:V}(S':Nat->Prop):∀(c:SV)(v:Value),(∀x∈c.cells,x.made=true\/x.isRef=true)->dn X c v->dn {X with S:=S'} c v
 |.one c,v,h,H=>aS.newS S' c v (h c anC) H
 |.agg cs,_,h,⟨vs,hv,H⟩=>⟨vs,hv,aj.newS S' cs _ h H⟩
theorem dw.newS{X:V}(S':Nat->Prop):∀(cs:List SV)(vs:List Value),(∀c∈cs,∀x∈c.cells,x.made=true\/x.isRef=true)->dw X cs vs->dw {X with S:=S'} cs vs
 |[],[],_,H=>H
 |c::cs,v::vs,h,⟨h1,h2⟩=>⟨dn.newS S' c v (h c anC) h1,dw.newS S' cs vs (λd hd=>h d (anB _ hd)) h2⟩
 |[],_::_,_,H|_::_,[],_,H=>by cases H
theorem bf.newS{X:V}(S':Nat->Prop)(o:Nat){e:TypeId}{r:aB}{l:List r.den}(h:bf X o (.arr e r l true)):bf {X with S:=S'} o (.arr e r l true):=by obtain⟨xs,h1,h2,h3,h4⟩:=h;exact⟨xs,h1,h2,h3,λi x hi=>aU.mono (λb hb=>⟨ahr hb,rfl⟩) r _ x (h4 i x hi)⟩
theorem KT:∀(cs:List dR)(k:Nat),cs.all dR.made=true->
 (∀c∈(iY k cs).1,c.made=true\/c.isRef=true)/\(∀y∈(iY k cs).2,∃e r l,y.2=.arr e r l true)
 |[],_,_=>⟨(λ_ h=>by cases h),(λ_ h=>by cases h)⟩
 |x::cs,k,h=>by
  simp only[aox,anl]at h;have ih:=KT cs (k+1) h.2;rw[iY];refine⟨λc hc=>?_,λy hy=>?_⟩
  .rcases anN.1 hc with rfl|hc
   .cases x with
    |plain c=>exact .inl h.1
    |own e r l fr=>exact .inr rfl
   .exact ih.1 c hc
  .rcases aoc.1 hy with hy|hy
   .cases x with
    |plain c=>cases hy
    |own e r l fr=>
     have hfr:fr=true:=h.1;rw[dR.take]at hy;rcases anN.1 hy with rfl|hy
     .exact⟨e,r,l,by rw[hfr]⟩
     .cases hy
   .exact ih.2 y hy
theorem aaG(k:Nat)(x:Bool×List dR)(h:x.2.all dR.made=true):
 (∀c∈(sV k x).1.cells,c.made=true\/c.isRef=true)/\(∀y∈(sV k x).2,∃e r l,y.2=.arr e r l true):=by
 have:=KT x.2 k h;unfold sV;split
 .next e1 e2=>rw[e2]at this;exact this
 .next e1 e2=>rw[e2]at this;exact this
 .next e1 e2=>rw[e2]at this;exact⟨(λc hc=>by rcases anN.1 hc with rfl|hc;exact .inl rfl;cases hc),this.2⟩
theorem OG:∀(xs:List (Bool×List dR))(k:Nat),(xs.all λx=>x.2.all dR.made)=true->
 (∀v∈(gq k xs).1,∀c∈v.cells,c.made=true\/c.isRef=true)/\(∀y∈(gq k xs).2,∃e r l,y.2=.arr e r l true)
 |[],_,_=>⟨(λ_ h=>by cases h),(λ_ h=>by cases h)⟩
 |x::xs,k,h=>by
  simp only[aox,anl]at h;have h1:=aaG k x h.1;have ih:=OG xs (k+x.2.length) h.2;rw[gq];refine⟨λv hv=>?_,λy hy=>?_⟩
  .rcases anN.1 hv with rfl|hv
   .exact h1.1
   .exact ih.1 v hv
  .rcases aoc.1 hy with hy|hy
   .exact h1.2 y hy
   .exact ih.2 y hy
theorem aj.made{X:V}(S':Nat->Prop)(cs:List Cell)(vs:List Value)(hm:cs.all Cell.made=true)(H:aj X cs vs):aj {X with S:=S'} cs vs:=
 aj.newS S' cs vs (λc hc=>.inl (anI.1 hm c hc)) H
def RY:aG->Prop
 |.arr _ _ _ fr=>fr=true
 |.var cs=>cs.all Cell.made=true
theorem bf.made{X:V}(S':Nat->Prop)(o:Nat):∀(x:aG),RY x->bf X o x->bf {X with S:=S'} o x
 |.arr e r l fr,hm,h=>by
  have hm:fr=true:=hm;subst hm;exact bf.newS S' o h
 |.var cs,hm,⟨b,arr,t,h1,h2,h3⟩=>⟨b,arr,t,h1,h2,aj.made S' cs _ hm h3⟩
theorem Out.Qd(o:Out)(k:Nat)(h:o.made=true)(X:V)(S':Nat->Prop)(v:Value):
 (aV X (o.take k).1 v->aV {X with S:=S'} (o.take k).1 v)/\(∀y∈(o.take k).2,RY y.2):=by
 unfold Out.made at h;unfold Out.take;split at h
 .next cs hv=>exact⟨id,λy hy=>by rw[aoq.1 hy];exact h⟩
 .next hv=>
  have hm:=OG o.aaB k h;have hm2:∀y∈(gq k o.aaB).2,RY y.2:=λy hy=>by obtain⟨e,r,l,he⟩:=hm.2 y hy;rw[he];exact rfl
  split
  .next e1 e2=>rw[e2]at hm hm2;exact⟨λH=>dn.newS S' _ v (hm.1 _ anC) H,hm2⟩
  .next e1 e2=>rw[e2]at hm hm2;exact⟨λ⟨vs,hv,H⟩=>⟨vs,hv,dw.newS S' _ _ hm.1 H⟩,hm2⟩
theorem Cell.yQ(h:Rel w0 M T γ st a w){γ0:Nat->Value}{S:Nat->Prop}(hS1:∀b,(ax w0 T γ st w).foot b->S b)(hS2:∀o e r l fr b,st.ah o=some (.arr e r l fr)->blk (γ o)=some b->S b):∀(c:Cell)(v:Value),aS (ax w0 T γ st w) c v->aS ⟨w,w.heap.size,S,γ0,λ_=>none⟩ (c.view st) v
 |.int _ _,_,H|.bool _,_,H|.str _,_,H|.nil,_,H|.junk,_,H=>H
 |.sl e r l fr,v,H=>bW.mono (λb hb=>⟨⟨⟨hb.1.1,λ_=>hS1 b hb.1,(λ_ _ ho=>by cases ho)⟩,(λe=>by cases e)⟩,rfl⟩) (.sl e r) v l H
 |.ref o,v,⟨⟨e,r,l,fr,hx⟩,hv,_⟩=>by
  have hx':st.ah o=some (.arr e r l fr):=hx;simp only[Cell.view,hx'];rw[hv];exact bf.reads (X:=ax w0 T γ st w) (e:=e) (l:=l) (fr:=fr) (h.ah o _ hx') (λb hb=>⟨⟨hb.1.1,λ_=>hS1 b hb.1,(λ_ _ ho=>by cases ho)⟩,(λe=>by cases e)⟩)
   (λb hb=>⟨⟨(h.lt o _ b hx' hb).1,λ_=>hS2 o e r l fr b hx' hb,(λ_ _ ho=>by cases ho)⟩,(λe=>by cases e)⟩)
theorem Cells.yQ(h:Rel w0 M T γ st a w){γ0:Nat->Value}{S:Nat->Prop}(hS1:∀b,(ax w0 T γ st w).foot b->S b)(hS2:∀o e r l fr b,st.ah o=some (.arr e r l fr)->blk (γ o)=some b->S b):∀(cs:List Cell)(vs:List Value),aj (ax w0 T γ st w) cs vs->aj ⟨w,w.heap.size,S,γ0,λ_=>none⟩ (cs.map (Cell.view st)) vs
 |[],[],H=>H
 |c::cs,v::vs,⟨h1,h2⟩=>⟨Cell.yQ h hS1 hS2 c v h1,Cells.yQ h hS1 hS2 cs vs h2⟩
 |[],_::_,H|_::_,[],H=>by cases H
theorem SV.yQ(h:Rel w0 M T γ st a w){γ0:Nat->Value}{S:Nat->Prop}(hS1:∀b,(ax w0 T γ st w).foot b->S b)(hS2:∀o e r l fr b,st.ah o=some (.arr e r l fr)->blk (γ o)=some b->S b):∀(c:SV)(v:Value),dn (ax w0 T γ st w) c v->dn ⟨w,w.heap.size,S,γ0,λ_=>none⟩ (c.view st) v
 |.one c,v,H=>Cell.yQ h hS1 hS2 c v H
 |.agg cs,_,⟨vs,hv,H⟩=>⟨vs,hv,Cells.yQ h hS1 hS2 cs _ H⟩
theorem Y3(h:Rel w0 M T γ st a w){γ0:Nat->Value}{S:Nat->Prop}(hS1:∀b,(ax w0 T γ st w).foot b->S b)(hS2:∀o e r l fr b,st.ah o=some (.arr e r l fr)->blk (γ o)=some b->S b){cs:List Cell}{b:Nat}(H:fA (ax w0 T γ st w) cs b):fA ⟨w,w.heap.size,S,γ0,λ_=>none⟩ (cs.map (Cell.view st)) b:=by obtain⟨arr,t,fz,hb,hh,hr⟩:=H;exact⟨arr,t,fz,⟨hb.1,λ_=>hS1 b hb,(λ_ _ ho=>by cases ho)⟩,hh,Cells.yQ h hS1 hS2 cs _ hr⟩
theorem Y4(h:Rel w0 M T γ st a w){γ0:Nat->Value}{S:Nat->Prop}(hS1:∀b,(ax w0 T γ st w).foot b->S b)(hS2:∀o e r l fr b,st.ah o=some (.arr e r l fr)->blk (γ o)=some b->S b):∀(l:List (List Cell))(us:List Value),dP (ax w0 T γ st w) l us->dP ⟨w,w.heap.size,S,γ0,λ_=>none⟩ (l.map (List.map (Cell.view st))) us
 |[],[],H=>H
 |cs::l,u::us,⟨⟨b,hu,hk⟩,h2⟩=>⟨⟨b,hu,Y3 h hS1 hS2 hk⟩,Y4 h hS1 hS2 l us h2⟩
 |[],_::_,H|_::_,[],H=>by cases H
def mG(X:V):List AV->List Value->Prop
 |[],[]=>True
 |x::xs,v::vs=>aV X x v/\mG X xs vs
 |_,_=>False
theorem CW(h:Rel w0 M T γ st a w){γ0:Nat->Value}{S:Nat->Prop}(hS1:∀b,(ax w0 T γ st w).foot b->S b)(hS2:∀o e r l fr b,st.ah o=some (.arr e r l fr)->blk (γ o)=some b->S b):∀(xs:List AV)(us:List Value)(vs:List Arg),ng st xs=some vs->mG (ax w0 T γ st w) xs us->mF ⟨w,w.heap.size,S,γ0,λ_=>none⟩ vs us
 |[],[],vs,hv,_=>by cases hv;trivial
 |[],_::_,_,_,H=>H.elim
 |_::_,[],_,_,H=>H.elim
 |x::xs,u::us,vs,hv,⟨hx,hxs⟩=>by
  unfold ng at hv;split at hv
  .next v ws hu=>
   split at hv
   .cases hv;exact⟨SV.yQ h hS1 hS2 v _ hx,CW h hS1 hS2 xs us ws hu hxs⟩
   .cases hv
  .next cs off ws hu=>
   split at hv
   .next hok=>cases hv;rw[anl]at hok;have h0:=anp hok.1;subst h0;obtain⟨b,hb,hk⟩:=hx;exact⟨⟨b,hb,Y3 h hS1 hS2 hk⟩,CW h hS1 hS2 xs us ws hu hxs⟩
   .cases hv
  .next f caps ws hu=>
   split at hv
   .cases hv;obtain⟨ks,hb,hk⟩:=hx;exact⟨⟨ks,hb,Y4 h hS1 hS2 caps _ hk⟩,CW h hS1 hS2 xs us ws hu hxs⟩
   .cases hv
  .cases hv
theorem Cell.qR(_h:Rel w0 M T γ st a w){γ0:Nat->Value}:∀(c:Cell)(v:Value),c.refs=[]->aS (ax w0 T γ st w) c v->aS ⟨w,w.heap.size,(ax w0 T γ st w).foot,γ0,λ_=>none⟩ (c.view st) v
 |.int _ _,_,_,H|.bool _,_,_,H|.str _,_,_,H|.nil,_,_,H|.junk,_,_,H=>H
 |.sl e r l fr,v,_,H=>bW.mono (λb hb=>⟨⟨⟨hb.1.1,λ_=>hb.1,(λ_ _ ho=>by cases ho)⟩,(λe=>by cases e)⟩,rfl⟩) (.sl e r) v l H
 |.ref o,v,hr,_=>by cases hr
theorem Cells.qR(h:Rel w0 M T γ st a w){γ0:Nat->Value}:∀(cs:List Cell)(vs:List Value),cs.flatMap Cell.refs=[]->aj (ax w0 T γ st w) cs vs->aj ⟨w,w.heap.size,(ax w0 T γ st w).foot,γ0,λ_=>none⟩ (cs.map (Cell.view st)) vs
 |[],[],_,H=>H
 |c::cs,v::vs,hr,⟨h1,h2⟩=>by
  rw[aoD,aog]at hr;exact⟨Cell.qR h c v hr.1 h1,Cells.qR h cs vs hr.2 h2⟩
 |[],_::_,_,H|_::_,[],_,H=>by cases H
theorem SV.qR(h:Rel w0 M T γ st a w){γ0:Nat->Value}:∀(c:SV)(v:Value),c.cells.flatMap Cell.refs=[]->dn (ax w0 T γ st w) c v->dn ⟨w,w.heap.size,(ax w0 T γ st w).foot,γ0,λ_=>none⟩ (c.view st) v
 |.one c,v,hr,H=>Cell.qR h c v (by simpa[SV.cells]using hr) H
 |.agg cs,_,hr,⟨vs,hv,H⟩=>⟨vs,hv,Cells.qR h cs _ hr H⟩
theorem Y5(h:Rel w0 M T γ st a w){γ0:Nat->Value}{cs:List Cell}{b:Nat}(hr0:cs.flatMap Cell.refs=[])(H:fA (ax w0 T γ st w) cs b):fA ⟨w,w.heap.size,(ax w0 T γ st w).foot,γ0,λ_=>none⟩ (cs.map (Cell.view st)) b:=by obtain⟨arr,t,fz,hb,hh,hr⟩:=H;exact⟨arr,t,fz,⟨hb.1,λ_=>hb,(λ_ _ ho=>by cases ho)⟩,hh,Cells.qR h cs _ hr0 hr⟩
theorem Y6(h:Rel w0 M T γ st a w){γ0:Nat->Value}:∀(l:List (List Cell))(us:List Value),(l.flatMap λcs=>cs.flatMap Cell.refs)=[]->dP (ax w0 T γ st w) l us->dP ⟨w,w.heap.size,(ax w0 T γ st w).foot,γ0,λ_=>none⟩ (l.map (List.map (Cell.view st))) us
 |[],[],_,H=>H
 |cs::l,u::us,hr,⟨⟨b,hu,hk⟩,h2⟩=>by
  rw[aoD,aog]at hr;exact⟨⟨b,hu,Y5 h hr.1 hk⟩,Y6 h l us hr.2 h2⟩
 |[],_::_,_,H|_::_,[],_,H=>by cases H
theorem xU(h:Rel w0 M T γ st a w){γ0:Nat->Value}:∀(xs:List AV)(us:List Value)(vs:List Arg),ng st xs=some vs->sW xs=[]->mG (ax w0 T γ st w) xs us->mF ⟨w,w.heap.size,(ax w0 T γ st w).foot,γ0,λ_=>none⟩ vs us
 |[],[],vs,hv,_,_=>by cases hv;trivial
 |[],_::_,_,_,_,H=>H.elim
 |_::_,[],_,_,_,H=>H.elim
 |x::xs,u::us,vs,hv,hr,⟨hx,hxs⟩=>by
  unfold ng at hv;rw[sW,aog]at hr;split at hv
  .next v ws hu=>
   split at hv
   .cases hv;exact⟨SV.qR h v _ hr.1 hx,xU h xs us ws hu hr.2 hxs⟩
   .cases hv
  .next cs off ws hu=>
   split at hv
   .next hok=>cases hv;rw[anl]at hok;have h0:=anp hok.1;subst h0;obtain⟨b,hb,hk⟩:=hx;exact⟨⟨b,hb,Y5 h hr.1 hk⟩,xU h xs us ws hu hr.2 hxs⟩
   .cases hv
  .next f caps ws hu=>
   split at hv
   .cases hv;obtain⟨ks,hb,hk⟩:=hx;exact⟨⟨ks,hb,Y6 h caps _ hr.1 hk⟩,xU h xs us ws hu hr.2 hxs⟩
   .cases hv
  .cases hv
theorem CX(h:Rel w0 M T γ st a w){caps:List (List Cell)}{us:Array Value}(hk:dP (ax w0 T γ st w) caps us.toList):∀(xs:List Operand),
 mG (ax w0 T γ st w) (handed st xs caps) (xs.map a.eval++us.toList):=by
 have h0:∀(caps:List (List Cell))(us:List Value),dP (ax w0 T γ st w) caps us->mG (ax w0 T γ st w) (caps.map λcs=>.dF cs 0) us:=by
  intro caps
  induction caps with
  |nil=>intro us H;cases us with|nil=>trivial|cons _ _=>cases H
  |cons cs l ih=>
   intro us H;cases us with
   |nil=>cases H
   |cons u us=>exact⟨H.1,ih us H.2⟩
 intro xs
 induction xs with
 |nil=>exact h0 caps _ hk
 |cons x xs ih=>exact⟨gU h x,ih⟩
theorem mG.freeze(S:Nat->Bool)(h:Rel w0 M T γ st a w):∀(xs:List AV)(us:List Value),mG (ax w0 T γ st w) xs us->mG (ax w0 T γ (st.freeze S) w) (xs.map (AV.freeze st S)) us
 |[],[],H=>H
 |x::xs,u::us,⟨h1,h2⟩=>⟨aV.freeze S h x u h1,mG.freeze S h xs us h2⟩
 |[],_::_,H|_::_,[],H=>by cases H
theorem OH:∀(cs:List dR)(k:Nat),∀y∈(iY k cs).2,∃e r l fr,y.2=.arr e r l fr
 |[],_,_,hy=>by cases hy
 |x::cs,k,y,hy=>by
  rw[iY]at hy;rcases aoc.1 hy with hy|hy
  .cases x with
   |plain c=>cases hy
   |own e r l fr=>
    rw[dR.take]at hy;rcases anN.1 hy with rfl|hy
    .exact⟨e,r,l,fr,rfl⟩
    .cases hy
  .exact OH cs (k+1) y hy
theorem acM(k:Nat)(x:Bool×List dR):∀y∈(sV k x).2,∃e r l fr,y.2=.arr e r l fr:=by
 have:=OH x.2 k;unfold sV;split
 .next e1 e2=>rw[e2]at this;exact this
 .next e1 e2=>rw[e2]at this;exact this
 .next e1 e2=>rw[e2]at this;exact this
theorem Qe:∀(xs:List (Bool×List dR))(k:Nat),∀y∈(gq k xs).2,∃e r l fr,y.2=.arr e r l fr
 |[],_,_,hy=>by cases hy
 |x::xs,k,y,hy=>by
  rw[gq]at hy;rcases aoc.1 hy with hy|hy
  .exact acM k x y hy
  .exact Qe xs _ y hy
theorem Out.aaH(o:Out)(k:Nat)(hk:k%64=1){p:Nat}{cs:List Cell}(hl:look (o.take k).2 p=some (.var cs)):p%64=0:=by
 have hmem:=uI _ p _ hl;unfold Out.take at hmem;split at hmem
 .next cs' hv=>cases aoq.1 hmem;omega
 .next hv=>
  have hm:=Qe o.aaB k;split at hmem
  .next e1 e2=>rw[e2]at hm;obtain⟨_,_,_,_,e⟩:=hm _ hmem;cases e
  .next e1 e2=>rw[e2]at hm;obtain⟨_,_,_,_,e⟩:=hm _ hmem;cases e
theorem Rel.called(h:Rel w0 M T γ st a w){out:Out}{k:Nat}(hk:k%64=1){S:Nat->Prop}{vals:Nat->Value}{v:Value}(hf:iP st (out.take k).2=true)
 (hos:w'.os=w.os) (htape:w'.tape=w.tape) (hout:w'.output=w.output) (hsize:w.heap.size<=w'.heap.size) (hheap:∀b,b<w.heap.size->w'.heap[b]? =w.heap[b]?)
 (hS:out.made=true\/S=(ax w0 T γ st w).foot)
 (hr:aV ⟨w',w.heap.size,S,vals,look (out.take k).2⟩ (out.take k).1 v)
 (ho:∀o x,look (out.take k).2 o=some x->bf ⟨w',w.heap.size,S,vals,look (out.take k).2⟩ o x/\∀b,blk (vals o)=some b->w.heap.size<=b/\b<w'.heap.size)
 (hsep:∀o x q y b,look (out.take k).2 o=some x->look (out.take k).2 q=some y->o≠q->blk (vals o)=some b->blk (vals q)≠some b):
 ∃γ',Rel w0 M T γ' (st.adds (out.take k).2) a w'/\aV (ax w0 T γ' (st.adds (out.take k).2) w') (out.take k).1 v:=by
 let δ:=(out.take k).2
 let γ':Nat->Value:=λp=>match look δ p with|some _=>vals p|none=>γ p
 have oz:∀p,(st.adds δ).ah p=match look δ p with|some y=>some y|none=>st.ah p:=kY δ st
 have hγn:∀p x,look δ p=some x->γ' p=vals p:=λp x hl=>by show(match look δ p with|some _=>vals p|none=>γ p)=_;rw[hl]
 have hγo:∀p x,st.ah p=some x->γ' p=γ p:=by
  intro p x hp;show(match look δ p with|some _=>vals p|none=>γ p)=_;cases hl:look δ p with
  |none=>rfl
  |some y=>rw[CV hf hl]at hp;cases hp
 have hA:∀p x,st.ah p=some x->(st.adds δ).ah p=some x:=by
  intro p x hp;rw[oz];cases hl:look δ p with
  |none=>exact hp
  |some y=>rw[CV hf hl]at hp;cases hp
 have hN:∀p x,(st.adds δ).ah p=some x->st.ah p=none->look δ p=some x:=by
  intro p x hp hn;rw[oz]at hp;cases hl:look δ p with
  |none=>rw[hl,hn]at hp;cases hp
  |some y=>rw[hl]at hp;exact hp
 have le:∀S',(S'=λ_=>False)\/S'=(ax w0 T γ st w).foot->V.le ⟨w',w.heap.size,S',vals,look δ⟩ ⟨w',w0.heap.size,T,γ',(st.adds δ).ah⟩:=by
  intro S' hS';have harr:∀o x,look δ o=some x->(st.adds δ).ah o=some x:=by intro o x hl;rw[oz,hl]
  refine⟨h.grow,λb hb=>⟨⟨hb.1,λhlt=>?_,λo x hx=>?_⟩,rfl⟩,λo cs hl=>⟨⟨cs,harr o _ hl⟩,hγn o _ hl⟩,λo e r l fr hl=>⟨⟨l,fr,harr o _ hl⟩,hγn o _ hl⟩⟩
  .have hb1:=hb.2.1 (show b<w.heap.size from anE hlt h.grow);rcases hS' with rfl|rfl
   .exact hb1.elim
   .exact hb1.2.1 hlt
  .show blk (γ' o)≠some b;cases hl:look δ o with
   |some y=>rw[hγn o y hl];exact hb.2.2 o y hl
   |none=>
    have hx':(st.adds δ).ah o=some x:=hx;rw[oz,hl]at hx';rw[hγo o x hx'];intro hbb;have hlt:=(h.lt o x b hx' hbb).1;have hb1:=hb.2.1 hlt;rcases hS' with rfl|rfl
    .exact hb1
    .exact hb1.2.2 o x hx' hbb
 have main:∃S',((S'=λ_=>False)\/S'=(ax w0 T γ st w).foot)/\aV ⟨w',w.heap.size,S',vals,look δ⟩ (out.take k).1 v/\∀o x,look δ o=some x->bf ⟨w',w.heap.size,S',vals,look δ⟩ o x:=by
  rcases hS with hm|hS
  .have hmk:=out.Qd k hm;refine⟨λ_=>False,.inl rfl,(hmk ⟨w',w.heap.size,S,vals,look δ⟩ (λ_=>False) v).1 hr,λo x hl=>?_⟩;exact bf.made (λ_=>False) o x ((hmk ⟨w',w.heap.size,S,vals,look δ⟩ (λ_=>False) v).2 _ (uI _ _ _ hl)) (ho o _ hl).1
  .exact⟨S,.inr hS,hr,λo x hl=>(ho o x hl).1⟩
 obtain⟨S',hS',hr',ho'⟩:=main;have hle:=le S' hS';refine⟨γ',?_,aV.mono hle _ _ hr'⟩;rw[KR st δ];refine(h.grown (γ':=γ') (w':=w') (st.adds δ).ah hA hγo hos htape hout hsize hheap (λp x hp hn=>?_) (λp cs hp hn=>by
  have h0:=out.aaH k hk (hN p _ hp hn);cases hT:T.N p with
  |none=>rfl
  |some v'=>have:=T.n48 p v' hT;omega) (λp x q y b hp hn hq hm hpq hb=>?_)).1
 .have hl:=hN p x hp hn;refine⟨bf.mono hle p x (λ_ _=>rfl) (hγn p x hl) (ho' p x hl),λb hb=>?_⟩;rw[hγn p x hl]at hb;exact(ho p x hl).2 b hb
 .have hl:=hN p x hp hn;have hl2:=hN q y hq hm;rw[hγn p x hl]at hb;rw[hγn q y hl2];exact hsep p x q y b hl hl2 hpq hb
end Go.Fw
namespace Go.Fw
open Go
variable {P:Program} {w0:World} {M:Nat->Prop} {T:Ext} {γ γ':Nat->Value} {st:St} {a:Act} {w w':World} {Θ:iF} {Γ:jG}
def iQ(P:Program)(f:FuncId):Prop:=∀(args:Array Value)(w:World),(callFunc f args).run P w=.ok (.enter f args) w
def Yields(P:Program)(w0:World)(M:Nat->Prop)(T:Ext)(st:St)(a:Act)(w:World)(s:Sem Value)(v:AV)(δ:List (Nat×aG)):Prop:=
 ∃u w' γ',s.run P w=.ok u w'/\Rel w0 M T γ' (st.adds δ) a w'/\aV (ax w0 T γ' (st.adds δ) w') v u
theorem Yields.same(h:Rel w0 M T γ st a w){s:Sem Value}{v:AV}{u:Value}(hr:s.run P w=.ok u w)(hv:aV (ax w0 T γ st w) v u):Yields P w0 M T st a w s v []:=⟨u,w,γ,hr,h,hv⟩
theorem acN(hΘ:∀t ti,Θ t=some ti->kC P t ti)(h:Rel w0 M T γ st a w){d:Nat}{t:TypeId}{x:Operand}{p:Prop}{v:AV}{δ:List (Nat×aG)}
 (hc:calm Θ Γ d st (.load t x)=some (p,v,δ)) (hp:p):Yields P w0 M T st a w (Instr.loadAt t (a.eval x)) v δ:=by
 simp only[calm]at hc;split at hc
 .next ti o off ht he=>
  split at hc
  .next cs ho=>
   split at hc
   .next s hs=>cases hc;obtain⟨u,hu,hr⟩:=Jo hΘ h ht (x:=x) (v:=s) (.inl ⟨o,off,cs,he,ho,hs⟩);exact .same h hu hr
   .cases hc
  .cases hc
 .next ti o i off ht he=>
  split at hc
  .next e r l fr ho=>
   split at hc
   .next s hs=>cases hc;obtain⟨u,hu,hr⟩:=Jo hΘ h ht (x:=x) (v:=s) (.inr (.inl ⟨o,i,off,e,r,l,fr,he,ho,hp,hs⟩));exact .same h hu hr
   .cases hc
  .cases hc
 .next ti r y off fr ht he=>
  split at hc
  .next s hs=>cases hc;obtain⟨u,hu,hr⟩:=Jo hΘ h ht (x:=x) (v:=s) (.inr (.inr ⟨r,y,off,fr,he,hs⟩));exact .same h hu hr
  .cases hc
 .next ti cs off ht he=>
  split at hc
  .next s hs=>
   cases hc;have hx:=gU h x;rw[he]at hx;obtain⟨b,hv,arr,ty,fz,hf,hb,hr⟩:=hx;have hr':aj (ax w0 T γ st w) cs ((arr.toList.drop 0).take arr.size):=by rw[aqf,aos (by simp)];exact hr
   obtain⟨u,hu,hr2⟩:=Ez (P:=P) (hΘ t ti ht) (ax w0 T γ st w) hb hr' hs;refine .same h ?_ hr2;rw[hv];simpa using hu
  .cases hc
 .cases hc
theorem UZ(hΘ:∀t ti,Θ t=some ti->kC P t ti)(h:Rel w0 M T γ st a w){d:Nat}{s:TypeId}{x:Operand}{f:Nat}{p:Prop}{v:AV}{δ:List (Nat×aG)}
 (hc:calm Θ Γ d st (.fieldAddr s x f)=some (p,v,δ)):Yields P w0 M T st a w (Instr.fieldAt s (a.eval x) f) v δ:=by
 have hx:=gU h x;simp only[calm]at hc;split at hc
 .next ti hs=>
  split at hc
  .next fs hk=>
   split at hc
   .next k t hf=>
    split at hc
    .next te ht=>
     split at hc
     .cases hc
     .next o off he hne=>cases hc;rw[he]at hx;obtain⟨b,cs,ho,hγ,hv⟩:=hx;refine .same h (by rw[hv];exact EC hΘ hs hk hf ht hne b off) ⟨b,cs,ho,hγ,rfl⟩
     .next o i off he hne=>cases hc;rw[he]at hx;obtain⟨b,n,cap,e,r,l,fr,ho,hγ,hv⟩:=hx;refine .same h (by rw[hv];exact EC hΘ hs hk hf ht hne b _) ⟨b,n,cap,e,r,l,fr,ho,hγ,?_⟩;rw[aqj]
     .next r y off fr he hne=>cases hc;rw[he]at hx;obtain⟨b,base,cs,ty,fz,hv,hfo,hb,hr⟩:=hx;refine .same h (by rw[hv];exact EC hΘ hs hk hf ht hne b _) ⟨b,base,cs,ty,fz,?_,hfo,hb,hr⟩;rw[aqj]
     .next cs off he hne=>cases hc;rw[he]at hx;obtain⟨b,hv,hkp⟩:=hx;exact .same h (by rw[hv];exact EC hΘ hs hk hf ht hne b _) ⟨b,rfl,hkp⟩
     .cases hc
    .cases hc
   .cases hc
  .cases hc
 .cases hc
theorem U0(hΘ:∀t ti,Θ t=some ti->kC P t ti)(h:Rel w0 M T γ st a w){d:Nat}{t:TypeId}{x ix:Operand}{p:Prop}{v:AV}{δ:List (Nat×aG)}
 (hc:calm Θ Γ d st (.indexAddr t x ix)=some (p,v,δ)) (hp:p):Yields P w0 M T st a w (Instr.indexAt t (a.eval x) (a.eval ix)) v δ:=by
 have hx:=gU h x;simp only[calm]at hc;split at hc
 .next ti n ht hn=>
  obtain⟨k,hk,_⟩:=rD h hn;split at hc
  .next e hkind=>
   split at hc
   .next te e' r l fr he hev=>
    split at hc
    .next hbeq=>cases hc;have hr:=aB.eq_of_beq _ _ hbeq;rw[hev]at hx;obtain⟨b,off,cap,hv,hR⟩:=agA (X:=ax w0 T γ st w) (e:=e') hx (i:=n.toNat) (by omega);refine .same h (by rw[hv,hk];exact run_indexAt hΘ ht hkind he b off _ cap k n hp.1 hp.2) ?_;rw[hr];exact hR
    .cases hc
   .next te o he hev=>
    split at hc
    .next e' r l fr ho=>
     split at hc
     .next hbeq=>
      cases hc;have hr:=aB.eq_of_beq _ _ hbeq;rw[hev]at hx;obtain⟨_,hv,_⟩:=hx;obtain⟨xs,⟨_,h2⟩,hpos,_⟩:=h.ah o _ ho;rcases h2 with⟨_,h4⟩|⟨g,cap,cur,h3,_⟩
      .omega
      .have h3':γ o=.slice (some ⟨g,0,none⟩) l.length cap:=h3;refine .same h (by rw[hv,hk];show(Instr.indexAt t (γ o) _).run P w=_;rw[h3'];exact run_indexAt hΘ ht hkind he g 0 _ cap k n hp.1 hp.2) ⟨g,l.length,cap,e',r,l,fr,ho,h3',?_⟩;rw[hr,anR,aoW]
     .cases hc
    .cases hc
   .cases hc;exact hp.elim
   .cases hc
  .cases hc
 .cases hc
theorem ZR{t:TypeId}{ti:TI}(hT:kC P t ti)(hk:ti.kind=.str)(s:Bytes)(k:IntKind)(n:Int)(h0:0<=n)(h1:n<s.length):
 (Instr.index t (.string ⟨s.toArray⟩) (.int k n)).run P w=.ok (.int .u8 ((s.getD n.toNat 0).toNat:Int)) w:=by
 have hu:=hT.und;rw[hk]at hu;have hlt:n.toNat<s.length:=by omega
 have hg:(⟨s.toArray⟩:ByteArray)[n.toNat]? =some (s.getD n.toNat 0):=by
  have hsz:n.toNat<(⟨s.toArray⟩:ByteArray).size:=by rw[size_bytes];exact hlt
  rw[getElem?_pos (⟨s.toArray⟩:ByteArray) n.toNat hsz];congr 1;rw[anz,anu hlt];rfl
 simp[Instr.index,asIntOf,anK,anW hu.1 w,h0,hg]
theorem aaJ(hΘ:∀t ti,Θ t=some ti->kC P t ti)(h:Rel w0 M T γ st a w){d:Nat}{t:TypeId}{x ix:Operand}{p:Prop}{v:AV}{δ:List (Nat×aG)}
 (hc:calm Θ Γ d st (.index t x ix)=some (p,v,δ)) (hp:p):Yields P w0 M T st a w (Instr.index t (a.eval x) (a.eval ix)) v δ:=by
 simp only[calm]at hc;split at hc
 .next ti n s ht hn hev=>
  obtain⟨k,hk,_⟩:=rD h hn;split at hc
  .next hkind=>cases hc;obtain⟨hs,_⟩:a.eval x=.string ⟨s.toArray⟩/\s.length<=maxLen:=mD h hev;refine .same h (by rw[hs,hk];exact ZR (hΘ t ti ht) hkind s k n hp.1 hp.2) ⟨rfl,?_⟩;have:(s.getD n.toNat 0).toNat<256:=UInt8.toNat_lt _;have e1:IntKind.u8.min=0:=rfl;have e2:IntKind.u8.max=255:=rfl;rw[e1,e2];omega
  .cases hc
 .cases hc
theorem aaK(hΘ:∀t ti,Θ t=some ti->kC P t ti)(h:Rel w0 M T γ st a w){d:Nat}{s:TypeId}{x:Operand}{f:Nat}{p:Prop}{v:AV}{δ:List (Nat×aG)}
 (hc:calm Θ Γ d st (.field s x f)=some (p,v,δ)):Yields P w0 M T st a w (Instr.field s (a.eval x) f) v δ:=by
 have hx:=gU h x;simp only[calm]at hc;split at hc
 .next ti hs=>
  split at hc
  .next fs hk=>
   split at hc
   .next k t cs hf hev=>
    split at hc
    .next te ht=>
     split at hc
     .next sv hsv=>
      cases hc;rw[hev]at hx;obtain⟨vs,hv,hr⟩:=hx;have hu:=(hΘ s ti hs).und;rw[hk]at hu;obtain⟨vP,hu,rfl,_⟩:=hu;rw[aoK]at hf;cases hfl:vP.toList[f]? with
      |none=>rw[hfl]at hf;cases hf
      |some fl=>
       rw[hfl]at hf;simp at hf;obtain⟨rfl,rfl⟩:=hf;have MW:vP[f]? =some fl:=by simpa using hfl
       have hT:=hΘ _ te ht;unfold jY at hsv;split at hsv
       .next hagg=>
        split at hsv
        .next hle=>
         cases hsv;refine .same h (u:=.agg (vs.extract fl.offset (fl.offset+te.cells.len))) ?_ ⟨_,rfl,?_⟩
         .rw[hv];simp[Instr.field,anK,anW hu w,MW,asAgg,part,hT.Qa,hagg,hT.run_sizeOf]
         .have:(vs.extract fl.offset (fl.offset+te.cells.len)).toList=(vs.toList.drop fl.offset).take te.cells.len:=by simp[List.take_drop]
          rw[this];exact aj.take _ _ _ (aj.drop _ _ _ hr)
        .cases hsv
       .next hagg=>
        split at hsv
        .next c hcc=>
         cases hsv;obtain⟨u,hu2,hR⟩:=aj.get _ _ _ _ hr hcc;have hu3:vs[fl.offset]? =some u:=by simpa using hu2
         refine .same h (u:=u) ?_ hR;rw[hv];simp[Instr.field,anK,anW hu w,MW,asAgg,part,hT.Qa,hagg,hu3]
        .cases hsv
     .cases hc
    .cases hc
   .cases hc
  .cases hc
 .cases hc
theorem foldl_set(cs:List Value):∀(off k:Nat)(cells:Array Value),off+k+cs.length<=cells.size->
 ((cs.zipIdx k).foldl (λ(xs:Array Value)(p:Value×Nat)=>xs.setIfInBounds (off+p.2) p.1) cells).toList=cells.toList.take (off+k)++cs++cells.toList.drop (off+k+cs.length):=by
 induction cs with
 |nil=>intro off k cells _;simp
 |cons c cs ih=>
  intro off k cells hle;simp only[ano]at hle;rw[List.zipIdx_cons,List.foldl_cons,ih off (k+1) _ (by rw[anT];omega)];have hsz:cells.toList.length=cells.size:=an7;rw[Array.toList_setIfInBounds];generalize cells.toList=l at*;have h1:(l.set (off+k) c).take (off+(k+1))=l.take (off+k)++[c]:=by rw[show off+(k+1)=off+k+1 by omega,List.take_set,aoB (by omega),List.set_append_right _ _ (by rw[anO];omega)];rw[anO,apE (by omega),apP];rfl
  rw[h1,List.drop_set_of_lt (by omega)];rw[anG,anG,ap3,anG];rw[show off+(k+1)+cs.length=off+k+(c::cs).length by simp only[ano];omega];simp
theorem MZ{X:V}{cs ys:List Cell}{vs us:List Value}(off:Nat)(h1:aj X cs vs)(h2:aj X ys us):
 aj X (splice cs off ys) (vs.take off++us++vs.drop (off+us.length)):=by
 unfold splice;rw[aj.length _ _ h2];exact aj.append _ _ _ _ (aj.append _ _ _ _ (aj.take _ _ _ h1) h2) (aj.drop _ _ _ h1)
theorem aaL(hΘ:∀t ti,Θ t=some ti->kC P t ti)(h:Rel w0 M T γ st a w){fs:List (Nat×TypeId)}{place:Nat->Option (Nat×Nat)}(hpl:∀i off t ti,fs[i]? =some (off,t)->Θ t=some ti->place i=some (off,ti.cells.len)):
 ∀(parts:List (Nat×Operand))(cs ds:List Cell)(cells:Array Value),aj (ax w0 T γ st w) cs cells.toList->BN Θ st fs parts cs=some ds->
  ∃out,Instr.fill place cells (parts.map λx=>(x.1,a.eval x.2))=some out/\aj (ax w0 T γ st w) ds out.toList
 |[],cs,ds,cells,hr,hb=>by
  simp only[BN]at hb;cases hb;exact⟨cells,rfl,hr⟩
 |(i,x)::r,cs,ds,cells,hr,hb=>by
  rw[BN]at hb;split at hb
  .next off t v hf hev=>
   split at hb
   .next ti ht=>
    split at hb
    .next hle=>
     simp only[anl]at hle;have h1:=anp hle.1;have h2:=aoy hle.2;have hx:=gU h x;rw[hev]at hx;have hcells:=dn.cells v _ hx;have hlen:=aj.length _ _ hcells;have hlen2:=aj.length _ _ hr;rw[an7]at hlen hlen2;have agB:aj (ax w0 T γ st w) (splice cs off v.cells) ((a.eval x).cells.zipIdx.foldl (λcs(c,j)=>cs.setIfInBounds (off+j) c) cells).toList:=by
      have hfold:((a.eval x).cells.zipIdx.foldl (λcs(c,j)=>cs.setIfInBounds (off+j) c) cells).toList=cells.toList.take off++(a.eval x).cells.toList++cells.toList.drop (off+(a.eval x).cells.toList.length):=by rw[← Array.foldl_toList,Array.toList_zipIdx];have:=foldl_set (a.eval x).cells.toList off 0 cells (by rw[an7];omega);simpa using this
      rw[hfold];exact MZ off hr hcells
     obtain⟨out,ho,hR⟩:=aaL hΘ h hpl r _ ds _ agB hb;refine⟨out,?_,hR⟩;rw[anP,Instr.fill,hpl i off t ti hf ht];have e1:((a.eval x).cells.size≠ti.cells.len||off+(a.eval x).cells.size>cells.size)=false:=by simp only[aoF,an5];omega
     simp only[e1,ao9,apI];exact ho
    .cases hb
   .cases hb
  .cases hb
theorem aaM(hΘ:∀t ti,Θ t=some ti->kC P t ti)(h:Rel w0 M T γ st a w){d:Nat}{t:TypeId}{parts:Array (Nat×Operand)}{p:Prop}{v:AV}{δ:List (Nat×aG)}
 (hc:calm Θ Γ d st (.build t parts)=some (p,v,δ)):Yields P w0 M T st a w (Instr.build t (parts.map λx=>(x.1,a.eval x.2))) v δ:=by
 simp only[calm]at hc;split at hc
 .next ti ht=>
  split at hc
  .next fs hk=>
   split at hc
   .next cs hb=>
    cases hc;have hT:=hΘ t ti ht;obtain⟨i,z,hi,hsz,hby,hz,hzv,_⟩:=hT.info;have hu:=hT.und;rw[hk]at hu;obtain⟨vP,hu,hfs,hall⟩:=hu;have hz0:aj (ax w0 T γ st w) ti.cells.zeros z.cells.toList:=by rw[hzv];exact UY _ _
    obtain⟨places,hpm,ajI⟩:∃places,vP.toList.mapM (λf=>(P.info? f.type).map λi=>(f.offset,i.size))=some places/\places=vP.toList.map λf=>(f.offset,P.cellsOf f.type):=by
     refine⟨_,?_,rfl⟩;generalize vP.toList=l at hall;clear hfs
     induction l with
     |nil=>rfl
     |cons f l ih=>
      have h1:=hall f anC;cases hi:P.info? f.type with
      |none=>rw[hi]at h1;cases h1
      |some i=>rw[aqy,ih (λg hg=>hall g (anB _ hg))];simp[hi,Program.cellsOf]
    have hpl:∀(i off:Nat)(t:TypeId)(ti:TI),fs[i]? =some (off,t)->Θ t=some ti->places[i]? =some (off,ti.cells.len):=by
     intro i off t ti hf ht;rw[hfs,aoK]at hf;cases hfl:vP.toList[i]? with
     |none=>rw[hfl]at hf;cases hf
     |some fl=>rw[hfl]at hf;simp at hf;obtain⟨rfl,rfl⟩:=hf;rw[ajI,aoK,hfl];have:=(hΘ _ ti ht).size;simp only[aop,Option.some.injEq,Prod.mk.injEq,ao3];unfold Program.cellsOf;rw[this];rfl
    obtain⟨out,ho,hR⟩:=aaL hΘ h (place:=(places[·]?)) hpl parts.toList _ _ z.cells hz0 hb;refine .same h (u:=.agg out) ?_ ⟨out,rfl,hR⟩;refine run_build w t _ out ?_;unfold Program.built;simp only[hi,hu,hz,hpm];simpa using ho
   .cases hc
  .cases hc
 .cases hc
theorem OI{t:TypeId}{ti:TI}(hT:kC P t ti):∃z,(zeroValue t).run P w=.ok z w/\z.cells.toList=ti.cells.jA:=by obtain⟨i,z,hi,hsz,hby,hz,hzv,_⟩:=hT.info;exact⟨z,by simp[zeroValue,typeInfo,hi,hz],hzv⟩
theorem VQ(w:World)(t:TypeId)(v:Value):(newVar t v).run P w=.ok ⟨w.heap.size,0,none⟩ (w.alloc (.cells v.cells t)):=by rfl
theorem aaN(hΘ:∀t ti,Θ t=some ti->kC P t ti)(h:Rel w0 M T γ st a w){d:Nat}{t:TypeId}{p:Prop}{v:AV}{δ:List (Nat×aG)}
 (hc:calm Θ Γ d st (.alloc t)=some (p,v,δ)) (hf:iP st δ=true):Yields P w0 M T st a w (Instr.alloc t true (.tuple #[])) v δ:=by
 simp only[calm]at hc;split at hc
 .next ti ht=>
  cases hc;obtain⟨z,hz,hzv⟩:=OI (w:=w) (hΘ t ti ht);have hn:st.ah (d*64)=none:=by simpa[iP]using hf
  obtain⟨h1,h2⟩:=h.aaF (d*64) ti.cells.zeros hn (by omega) z.cells t (by rw[hzv];exact UY _ _);refine⟨_,_,_,?_,h1,h2⟩;simp[Instr.alloc,anK,hz,VQ]
 .cases hc
theorem aed(h:Rel w0 M T γ st a w){d:Nat}{t:TypeId}{x:Operand}{p:Prop}{v:AV}{δ:List (Nat×aG)}
 (hc:calm Θ Γ d st (.box t x)=some (p,v,δ)) (hf:iP st δ=true):Yields P w0 M T st a w (Instr.box t (a.eval x)) v δ:=by
 have hx:=gU h x;simp only[calm]at hc;split at hc
 .next s hev=>
  cases hc;rw[hev]at hx;have hn:st.ah (d*64)=none:=by simpa[iP]using hf
  obtain⟨h1,h2⟩:=h.aaF (d*64) s.cells hn (by omega) (a.eval x).cells t (dn.cells s _ hx);refine⟨_,_,_,?_,h1,h2⟩;simp[Instr.box,VQ]
 .cases hc
theorem TV(h:Rel w0 M T γ st a w)(r:aB)(fr:Bool):∀(parts:List (Nat×Operand))(k:Nat)(l:List r.den),Ai st r k parts=some l->kU st parts=[]->(fr=true->lJ st parts=true)->
 l.length=parts.length/\(parts.map λx=>(x.1,a.eval x.2))=((parts.map λx=>a.eval x.2).zipIdx k).map (λx=>(x.2,x.1))/\(∀v∈parts.map (λx=>a.eval x.2),v.cells.size=r.len)/\
 ∀i x,l[i]? =some x->aU w.heap ((ax w0 T γ st w).bT fr) r ((((parts.map λx=>a.eval x.2).flatMap λv=>v.cells.toList).drop (i*r.len)).take r.len) x
 |[],k,l,hr,_,_=>by
  rw[Ai]at hr;cases hr;exact⟨rfl,rfl,(λv hv=>by cases hv),(λi x hi=>by simp at hi)⟩
 |(i,x)::ps,k,l,hr,hn,hf=>by
  rw[Ai]at hr;rw[kU,aog]at hn;split at hr
  .next v l' hb hev hl'=>
   split at hr
   .next y hy=>
    cases hr;have hx:=gU h x;rw[hev]at hx hn;have hcells:=dn.cells v _ hx;have hfr:fr=true->v.cells.all (Cell.fresh st)=true/\lJ st ps=true:=by intro e;have:=hf e;rw[lJ,hev,anl]at this;exact this
    have hR:=Ho h fr r v.cells _ y hcells hy hn.1 (λe=>(hfr e).1);have hlen:=aU.length _ _ _ hR;obtain⟨h1,h2,h3,h4⟩:=TV h r fr ps (k+1) l' hl' hn.2 (λe=>(hfr e).2);have hik:i=k:=anp hb;have hsz:(a.eval x).cells.size=r.len:=by rw[an7]at hlen;exact hlen
    refine⟨by simp[h1],?_,?_,λj z hj=>?_⟩
    .rw[anP,anP,List.zipIdx_cons,anP,h2,hik]
    .intro u hu;rcases anN.1 hu with rfl|hu
     .exact hsz
     .exact h3 u hu
    .rw[anP,aoD];cases j with
     |zero=>
      simp at hj;subst hj;rw[apn,aqf,apf (Nat.le_of_eq hlen.symm),aos (Nat.le_of_eq hlen)];exact hR
     |succ j=>
      have hj':l'[j]? =some z:=by simpa using hj
      have:(j+1)*r.len=(a.eval x).cells.toList.length+j*r.len:=by rw[an9,hlen];omega
      rw[this,← ao1,aqg];exact h4 j z hj'
   .cases hr
  .cases hr
theorem Tf(hΘ:∀t ti,Θ t=some ti->kC P t ti)(h:Rel w0 M T γ st a w){d:Nat}{t:TypeId}{len:Nat}{parts:Array (Nat×Operand)}{p:Prop}{v:AV}{δ:List (Nat×aG)}
 (hc:calm Θ Γ d st (.buildSlice t len parts)=some (p,v,δ)) (hf:iP st δ=true):Yields P w0 M T st a w (Instr.buildSlice t len (parts.map λx=>(x.1,a.eval x.2))) v δ:=by
 simp only[calm]at hc;split at hc
 .next ti ht=>
  split at hc
  .next e hk=>
   split at hc
   .next te he=>
    split at hc
    .next l hb hrefs hrows=>
     cases hc;simp only[anl]at hb;have hlen:len=parts.size:=anp hb.1.1;have hpos:0<te.cells.len:=aoy hb.1.2;have hsm:len*te.cells.len<=16777216:=aoy hb.2;have hn:st.ah (d*64+1)=none:=by simpa[iP]using hf
     obtain⟨h1,h2,h3,h4⟩:=TV h te.cells (lJ st parts.toList) parts.toList 0 l hrows hrefs (λe=>e);have hT:=hΘ e te he;obtain⟨i,z,hi,hsz,hby,hz,hzv,_⟩:=hT.info;have hu:=(hΘ t ti ht).und;rw[hk]at hu;have hsum:∀(vs:List Value),(∀v∈vs,v.cells.size=te.cells.len)->(vs.flatMap λv=>v.cells.toList).length=vs.length*te.cells.len:=by
      intro vs hvs
      induction vs with
      |nil=>simp
      |cons v vs ih=>rw[aoD,anm,ih (λu hu=>hvs u (anB _ hu)),an7,hvs v anC,ano,an9];omega
     have hl:l.length=len:=by rw[h1,hlen];exact an7
     have hcount:(parts.toList.map λx=>a.eval x.2).length=len:=by rw[aob,hlen];exact an7
     by_cases hzero:len=0
     .have hl0:l=[]:=anV.1 (by omega);obtain⟨g1,g2⟩:=h.UX (d*64+1) e te.cells l (lJ st parts.toList) hn #[] 0 hpos (by omega) (ant _) (by simp) (λi x hx=>by rw[hl0]at hx;simp at hx);refine⟨_,_,_,?_,g1,g2⟩;have hp0:parts=#[]:=Array.size_eq_zero_iff.1 (by omega);subst hp0 hzero;subst hl0;have e0:Array.map (λ_=>(default:Value)) (Array.range 0)=#[]:=by simp
      simp[Instr.buildSlice,anK,anW hu.1 w,hT.run_sizeOf,Instr.fill,newRow,newObj,Sem.run,e0]
     .have ahs:=Great.fill_whole hpos (parts.toList.map λx=>a.eval x.2) ((Array.range (len*i.size)).map (z.cells[· %z.cells.size]!)) h3 (by rw[hcount,hsz];simp);obtain⟨g1,g2⟩:=h.UX (d*64+1) e te.cells l (lJ st parts.toList) hn ((parts.toList.map λx=>a.eval x.2).flatMap λv=>v.cells.toList).toArray len hpos (by omega)
       (by unfold maxLen;have:len*1<=len*te.cells.len:=Nat.mul_le_mul_left _ hpos;omega) (by rw[ao2,hsum _ h3,hcount]) (λi x hx=>h4 i x hx)
      rw[hl]at g1 g2;refine⟨_,_,_,?_,g1,g2⟩;refine run_buildSlice w t e len _ _ i z hu.1 hi hz (by rw[hsz];omega) (by rw[hsz];have:0<len*te.cells.len:=Nat.mul_pos (by omega) hpos;omega) ?_;rw[hsz]at ahs ⊢;rw[← ahs];congr 1;rw[← h2];simp
    .cases hc
   .cases hc
  .cases hc
 .cases hc
theorem kZ:∀(r:aB),r.jA.length=r.len
 |.nil=>rfl
 |.cons _ r=>by simp[aB.jA,aB.len,kZ r]
theorem U1(hΘ:∀t ti,Θ t=some ti->kC P t ti)(h:Rel w0 M T γ st a w){d:Nat}{t:TypeId}{x y:Operand}{p:Prop}{v:AV}{δ:List (Nat×aG)}
 (hc:calm Θ Γ d st (.makeSlice t x y)=some (p,v,δ)) (hp:p) (hf:iP st δ=true):Yields P w0 M T st a w (Instr.makeSlice t (a.eval x) (a.eval y)) v δ:=by
 simp only[calm]at hc;split at hc
 .next ti n c ht hn hcc=>
  obtain⟨k1,hk1,_⟩:=rD h hn;obtain⟨k2,hk2,_⟩:=rD h hcc;split at hc
  .next e hk=>
   split at hc
   .next te he=>
    split at hc
    .next Na=>
     cases hc;have hpos:0<te.cells.len:=aoy Na;have hT:=hΘ e te he;obtain⟨i,z,hi,hsz,hby,hz,hzv,_⟩:=hT.info;have hu:=(hΘ t ti ht).und;rw[hk]at hu;have hno:st.ah (d*64+1)=none:=by simpa[iP]using hf
     obtain⟨p1,p2,p3⟩:=hp;unfold big at p3;have hzs:z.cells.size=te.cells.len:=by rw[← an7,hzv,kZ]
     have hcells:∀j,j<c.toNat*te.cells.len->(madeCells z.cells (c.toNat*te.cells.len))[j]? =te.cells.jA[j%te.cells.len]? :=by
      intro j hj;unfold madeCells;rw[Array.getElem?_map,Array.getElem?_range,if_pos hj];have hlt:j%z.cells.size<z.cells.size:=apV _ (by omega);have hlt2:j%te.cells.len<te.cells.jA.length:=by rw[kZ];exact apV _ hpos
      simp only[aop];rw[getElem!_pos z.cells _ hlt];have:z.cells[j%z.cells.size]=z.cells.toList[j%z.cells.size]'(by rw[an7];exact hlt):=by simp
      rw[this];simp only[hzv,hzs];rw[anu hlt2]
     obtain⟨g1,g2⟩:=h.UX (d*64+1) e te.cells (List.replicate n.toNat te.cells.dflt) true hno (madeCells z.cells (c.toNat*te.cells.len)) c.toNat hpos (by simp;omega) (by unfold maxLen;omega)
      (size_madeCells _ _) (λj x hx=>by
        have hlt:j<n.toNat:=by have:=(anv.1 hx).1;simpa using this
        have hxd:x=te.cells.dflt:=by rw[apX,if_pos hlt]at hx;exact(Option.some.inj hx).symm
        subst hxd;have hmul:j*te.cells.len+te.cells.len<=c.toNat*te.cells.len:=by have:(j+1)*te.cells.len<=c.toNat*te.cells.len:=anD _ (by omega);rw[an9]at this;simpa using this
        have:(((madeCells z.cells (c.toNat*te.cells.len)).toList.drop (j*te.cells.len)).take te.cells.len)=te.cells.jA:=by
         apply apd;intro q;rw[an3];split
         .next hq=>rw[anZ,ap4,hcells _ (by omega),ap6,aqk,aqr hq]
         .next hq=>rw[aoS (by rw[kZ];omega)]
        rw[this];exact Qc _ _ _)
     rw[List.length_replicate]at g1 g2;refine⟨_,_,_,?_,g1,g2⟩;rw[hk1,hk2,← hsz];have hbb:=hT.small;refine run_make w t e i z hu.1 hi hz k1 k2 n c p1 p2 ?_ (by omega);rw[hby];have:(te.bytes:Int)*c<=4096*4294967296:=by have h1:(te.bytes:Int)*c<=4096*c:=apD (by omega) (by omega);have h2:(4096:Int)*c<=4096*4294967296:=Int.mul_le_mul_of_nonneg_left p3 (by omega);omega
     omega
    .cases hc
   .cases hc
  .cases hc
 .cases hc
theorem foldl_push(ns:List Int):∀(b:ByteArray),(ns.foldl (λr n=>r.push (UInt8.ofNat n.toNat)) b)=⟨(b.data.toList++ns.map λn=>UInt8.ofNat n.toNat).toArray⟩:=by
 induction ns with
 |nil=>intro b;simp
 |cons n ns ih=>intro b;rw[List.foldl_cons,ih];apply ByteArray.ext;simp
theorem aee(l:List (aB.cons (.int .u8) .nil).den):byteRow l=(l.map UR).map λn=>UInt8.ofNat (Int.toNat n):=by unfold byteRow;rw[ao6];rfl
theorem ZT{F:Nat->Prop}{e:TypeId}{v:Value}{l:List (aB.cons (.int .u8) .nil).den}(h:bW w.heap F (.sl e (.cons (.int .u8) .nil)) v l):
 (Conv.bytesToString v).run P w=.ok (.string ⟨(byteRow l).toArray⟩) w/\(byteRow l).length<=maxLen:=by
 have h:qG _ _ _ _ v l:=h;refine⟨?_,by unfold byteRow;rw[aob];exact h.1⟩;rcases h.2 with⟨hl,a,c,hv⟩|⟨b,off,cap,cs,t,fz,hv,_,_,hb,hx⟩
 .subst hl;rw[hv];cases a with
  |none=>rfl
  |some a=>rw[run_bytesToString w a 0 c [] (by simp[loadCells,loadCellsFrom,aot])];rfl
 .rw[hv];rw[run_bytesToString w ⟨b,off,none⟩ l.length cap (l.map UR) ?_,foldl_push,aee]
  .rfl
  .have hcells:∀j u,((l.map UR).map (Value.int .u8))[j]? =some u->w.cell? ((⟨b,off,none⟩:Addr).add j)=some u:=by
    intro j u hj;rw[ao6,aoK]at hj;cases hlj:l[j]? with
    |none=>rw[hlj]at hj;cases hj
    |some x=>
     rw[hlj]at hj;have hj:some (Value.int .u8 (UR x))=some u:=hj;cases hj;have hr:=hx j x hlj;obtain⟨n,un⟩:=x;rw[aU]at hr;obtain⟨v',vs',e1,h1,h2⟩:=hr;have e2:v'=.int .u8 (UR (n,un)):=h1.1;rw[addr_add];simp only[World.cell?,hb];have e3:(cs.toList.drop (off+j*1)).head?=some v':=by
      have e4:aB.len (.cons (.int .u8) .nil)=1:=rfl;rw[e4]at e1;cases hd:cs.toList.drop (off+j*1)with
      |nil=>rw[hd]at e1;simp at e1
      |cons y ys=>rw[hd]at e1;simp at e1;rw[e1.1];rfl
     rw[List.head?_drop,apZ,e2]at e3;simpa using e3
   have hlc:=run_loadCells_list (P:=P) w ⟨b,off,none⟩ _ hcells;rw[aob,aob]at hlc;exact hlc
theorem vS(hΘ:∀t ti,Θ t=some ti->kC P t ti){t:TypeId}{ti:TI}(ht:Θ t=some ti){d:TypeDesc}(hd:ti.cells.desc=some d):ti.agg=true\/P.underlying t=some d:=by
 have hu:=(hΘ t ti ht).und;unfold TI.agg;split at hu
 .next hk=>obtain⟨d',hd',hu⟩:=hu;rw[hd]at hd';cases hd';exact .inr hu
 .next hk=>rw[hu.2]at hd;cases hd;exact .inr hu.1
 .next e hk=>obtain⟨hu,r,hr⟩:=hu;rw[hr]at hd;cases hd;exact .inr hu
 .next fs hk=>rw[hk];exact .inl rfl
theorem aaO(h:Rel w0 M T γ st a w){src dst e:TypeId}(us:P.underlying src=some .string)(ud:P.underlying dst=some (.slice e))(ue:P.underlying e=some (.int .u8))(s:Bytes)(hl:s.length<=maxLen):
 Yields P w0 M T st a w (convert src dst (.string ⟨s.toArray⟩)) (.sv (.one (.sl e (.cons (.int .u8) .nil) (Aj s) true))) []:=by
 have hrun:=run_bytes_of_string (P:=P) w src dst e ⟨s.toArray⟩ us ud ue
 let o:Obj:=.cells (bytesRow ⟨s.toArray⟩ (grownCap w (⟨s.toArray⟩:ByteArray).size 0 e)) e ((bytesRow ⟨s.toArray⟩ (grownCap w (⟨s.toArray⟩:ByteArray).size 0 e)).size,(bytesRow ⟨s.toArray⟩ (grownCap w (⟨s.toArray⟩:ByteArray).size 0 e)).size+1)
 have hsz:(w.drew.alloc o).heap.size=w.heap.size+1:=by show(w.heap.push o).size=_;simp
 have hg:=h.grown (γ':=γ) (w':=w.drew.alloc o) st.ah (λ_ _ h=>h) (λ_ _ _=>rfl) rfl rfl rfl (by omega) (λb hb=>heap_alloc_old w.drew o hb)
  (λp x h1 h2=>by rw[h1]at h2;cases h2) (λp cs h1 h2=>by rw[h1]at h2;cases h2) (λp x q y b h1 h2=>by rw[h1]at h2;cases h2)
 refine⟨_,_,γ,hrun,hg.1,?_⟩;have hlen:(Aj s).length=s.length:=by unfold Aj;rw[aob]
 refine⟨by rw[hlen];exact hl,.inr ⟨w.heap.size,0,grownCap w (⟨s.toArray⟩:ByteArray).size 0 e,_,e,_,?_,?_,⟨⟨?_,?_,?_⟩,?_⟩,FI w.drew o,?_⟩⟩
 .rw[hlen,size_bytes]
 .rw[hlen];have:=grownCap_ge w (⟨s.toArray⟩:ByteArray).size 0 e;rw[size_bytes]at this;rw[size_bytes];exact this
 .show w.heap.size<(w.drew.alloc o).heap.size;omega
 .intro hlt;have:w.heap.size<w0.heap.size:=hlt;have:=h.grow;omega
 .intro p x hp hb;have:=(h.lt p x _ hp hb).1;omega
 .intro _;exact h.grow
 .intro i x hi;have hlt:i<s.length:=by rw[← hlen];exact(anv.1 hi).1
  unfold Aj at hi;rw[aoK,anu hlt]at hi;have hi:some (((s[i].toNat:Int),()):Int×Unit)=some x:=hi;cases hi;refine⟨.int .u8 (s[i].toNat:Int),[],?_,⟨rfl,?_⟩,rfl⟩
  .show List.take 1 (List.drop (0+i*1) (bytesRow ⟨s.toArray⟩ _).toList)=_;unfold bytesRow;have e1:(s.toArray.map (λb=>Value.int .u8 b.toNat)++Array.replicate (grownCap w (⟨s.toArray⟩:ByteArray).size 0 e-(⟨s.toArray⟩:ByteArray).size) (Value.int .u8 0)).toList=s.map (λb=>Value.int .u8 b.toNat)++List.replicate (grownCap w (⟨s.toArray⟩:ByteArray).size 0 e-(⟨s.toArray⟩:ByteArray).size) (Value.int .u8 0):=by simp
   rw[e1,anR,apZ,aoR (by rw[aob];omega)];rw[aoY (by rw[aob];exact hlt)];simp
  .have:=UInt8.toNat_lt s[i];have e1:IntKind.u8.min=0:=rfl;have e2:IntKind.u8.max=255:=rfl;rw[e1,e2];omega
theorem X5(hΘ:∀t ti,Θ t=some ti->kC P t ti)(h:Rel w0 M T γ st a w){d:Nat}{src dst:TypeId}{x:Operand}{p:Prop}{v:AV}{δ:List (Nat×aG)}
 (hc:calm Θ Γ d st (.convert src dst x)=some (p,v,δ)):Yields P w0 M T st a w (convert src dst (a.eval x)) v δ:=by
 simp only[calm]at hc;split at hc
 .next ts td c hs hd hev=>
  have hx:=mD h hev;split at hc
  .cases hc
  .next hagg=>
   simp only[aoM,not_or,Bool.not_eq_true]at hagg;split at hc
   .next k0 k l n e1 e2=>cases hc;have us:=(vS hΘ hs (d:=.int k0) (by rw[e1];rfl)).resolve_left (by rw[hagg.1];simp);have ud:=(vS hΘ hd (d:=.int k) (by rw[e2];rfl)).resolve_left (by rw[hagg.2];simp);obtain⟨hv,_⟩:=hx;refine .same h (u:=.int k (k.wrap n)) ?_ ⟨rfl,CS _ _⟩;rw[hv];simp[convert,anK,anW us w,anW ud w,Conv.intToInt]
   .next s e1 e2=>cases hc;have us:=(vS hΘ hs (d:=.string) (by rw[e1];rfl)).resolve_left (by rw[hagg.1];simp);have ud:=(vS hΘ hd (d:=.string) (by rw[e2];rfl)).resolve_left (by rw[hagg.2];simp);obtain⟨hv,hl⟩:=hx;refine .same h (u:=.string ⟨s.toArray⟩) ?_ ⟨rfl,hl⟩;rw[hv];simp[convert,anK,anW us w,anW ud w]
   .next e s e1 e2=>
    split at hc
    .next te he=>
     split at hc
     .next e3 e4=>cases hc;have us:=(vS hΘ hs (d:=.string) (by rw[e1];rfl)).resolve_left (by rw[hagg.1];simp);have ud:=(vS hΘ hd (d:=.slice e) (by rw[e2];rfl)).resolve_left (by rw[hagg.2];simp);have ue:=(vS hΘ he (d:=.int .u8) (by rw[e3];rfl)).resolve_left (by rw[e4];simp);obtain⟨hv,hl⟩:=hx;rw[hv];exact aaO h us ud ue s hl
     .cases hc
    .cases hc
   .next c' e e1 e2=>
    split at hc
    .next l te hl he=>
     split at hc
     .next e3 e4=>
      cases hc;have us:=(vS hΘ hs (d:=.slice e) (by rw[e1];rfl)).resolve_left (by rw[hagg.1];simp);have ud:=(vS hΘ hd (d:=.string) (by rw[e2];rfl)).resolve_left (by rw[hagg.2];simp);have ue:=(vS hΘ he (d:=.int .u8) (by rw[e3];rfl)).resolve_left (by rw[e4];simp);have hg:=Cell.RU h _ _ _ _ hx hl;obtain⟨hr,hlen⟩:=ZT (P:=P) hg;refine .same h (u:=.string ⟨(byteRow l).toArray⟩) ?_ ⟨rfl,hlen⟩;have hg:qG _ _ _ _ (a.eval x) l:=hg;obtain⟨ad,n,cp,hv⟩:∃ad n cp,a.eval x=.slice ad n cp:=by rcases hg.2 with⟨_,ad,cp,hv⟩|⟨b,off,cap,_,_,_,hv,_⟩<;>exact⟨_,_,_,hv⟩
      rw[hv]at hr ⊢;simp[convert,anK,anW us w,anW ud w,anW ue w,hr]
     .cases hc
    .cases hc
   .cases hc
 .cases hc
theorem aaP(hΘ:∀t ti,Θ t=some ti->kC P t ti)(h:Rel w0 M T γ st a w){d:Nat}{op:BinOp}{t t':TypeId}{x y:Operand}{p:Prop}{v:AV}{δ:List (Nat×aG)}
 (hc:calm Θ Γ d st (.binOp op t x y t')=some (p,v,δ)) (hp:p):Yields P w0 M T st a w (do eqGuard op t x y (a.eval x) (a.eval y);binOp op t (a.eval x) (a.eval y)) v δ:=by
 simp only[calm]at hc;split at hc
 .next c1 c2 e1 e2=>
  split at hc
  .next hb=>
   split at hc
   .next q c hq=>
    cases hc;obtain⟨r,hr,hR⟩:=acK (P:=P) (w:=w) (t:=t) (s:=x) (u:=y) (ax w0 T γ st w) hq hp (mD h e1) (mD h e2) (λb1 b2 h1 h2=>by
     subst h1 h2;simp only[adk]at hb;split at hb
     .next ti ht=>
      split at hb
      .next hcells=>exact(vS hΘ ht (d:=.bool) (by rw[hcells];rfl)).resolve_left (by rw[eq_of_beq hb];simp)
      .cases hb
     .cases hb)
    exact .same h hr hR
   .cases hc
  .cases hc
 .next a1 a2 e1 e2=>
  split at hc
  .next ti ht=>
   split at hc
   .next b hcmp heq=>
    split at hc
    .next hlen=>cases hc;have h1:=gU h x;have h2:=gU h y;rw[e1]at h1;rw[e2]at h2;obtain⟨vs,hv,hr1⟩:=h1;obtain⟨us,hu,hr2⟩:=h2;have:=(hΘ t ti ht).cmp hcmp w x y (ax w0 T γ st w) a1 a2 vs us b hlen hr1 hr2 heq;rw[hv,hu];exact .same h this.1 rfl
    .cases hc
   .next b hcmp heq=>
    split at hc
    .next hlen=>cases hc;have h1:=gU h x;have h2:=gU h y;rw[e1]at h1;rw[e2]at h2;obtain⟨vs,hv,hr1⟩:=h1;obtain⟨us,hu,hr2⟩:=h2;have:=(hΘ t ti ht).cmp hcmp w x y (ax w0 T γ st w) a1 a2 vs us b hlen hr1 hr2 heq;rw[hv,hu];exact .same h this.2 rfl
    .cases hc
   .cases hc
  .cases hc
 .cases hc
theorem Qg(h:Rel w0 M T γ st a w){x:Operand}{o lo n:Nat}(hev:st.ev x=.win o lo n):∃b m cap e r l fr,st.ah o=some (.arr e r l fr)/\γ o=.slice (some ⟨b,0,none⟩) m cap/\
 (∃q,(q=lo*r.len\/cap<=lo)/\a.eval x=.slice (some ⟨b,q,none⟩) n (cap-lo)/\lo+n<=cap):=by
 have hx:=gU h x;rw[hev]at hx;exact hx
theorem ado(h:Rel w0 M T γ st a w){o:Nat}{e:TypeId}{r:aB}{l:List r.den}{fr:Bool}(ho:st.ah o=some (.arr e r l fr)){b m cap:Nat}(hγ:γ o=.slice (some ⟨b,0,none⟩) m cap):cap<=maxLen/\l.length<=cap:=by
 obtain⟨xs,⟨_,h2⟩,_⟩:=h.ah o _ ho;have KQ:(ax w0 T γ st w).γ o=.slice (some ⟨b,0,none⟩) m cap:=hγ;rcases h2 with⟨h3,h4⟩|⟨g,cap',cur,h3,_,_,h4,h5,_⟩
 .rw[KQ]at h3;cases h3
 .rw[KQ]at h3;cases h3;exact⟨h5,h4⟩
theorem aaQ(hΘ:∀t ti,Θ t=some ti->kC P t ti)(h:Rel w0 M T γ st a w){d:Nat}{t:TypeId}{x:Operand}{lo hi:Option Operand}{p:Prop}{v:AV}{δ:List (Nat×aG)}
 (hc:calm Θ Γ d st (.slice t x lo hi none)=some (p,v,δ)) (hp:p):Yields P w0 M T st a w (Instr.sliceAt t (a.eval x) (lo.map a.eval) (hi.map a.eval) none) v δ:=by
 simp only[calm]at hc;split at hc
 .next ti s ht hev=>
  obtain⟨hv,hl⟩:a.eval x=.string ⟨s.toArray⟩/\s.length<=maxLen:=mD h hev;split at hc
  .next q i j hk hb=>cases hc;obtain⟨hr,h1,h2⟩:=pY (P:=P) h (anr _) hb hp false;have hu:=(hΘ t ti ht).und;rw[hk]at hu;refine .same h (u:=.string ⟨((s.take j).drop i).toArray⟩) ?_ ⟨rfl,by simp;omega⟩;rw[hv];simp[Instr.sliceAt,Instr.slice,anK,anW hu.1 w,size_bytes,hr,ZQ]
  .cases hc
 .next ti e r l fr ht hev=>
  have hx:=mD h hev;split at hc
  .next f q i j hk hb=>
   split at hc
   .next te he=>
    split at hc
    .next hbeq=>
     cases hc;obtain⟨ad,c,hv,hl⟩:=aaE hx;have hlc:l.length<=c:=by
      have hx':qG _ _ _ _ (a.eval x) l:=hx;rcases hx'.2 with⟨hl0,_⟩|⟨b,off,cap,cs,t,fz,hv',hcap,_⟩
      .rw[hl0];exact ant _
      .rw[hv]at hv';simp at hv';omega
     obtain⟨hr,h1,h2⟩:=pY (P:=P) h hlc hb hp true;have hu:=(hΘ t ti ht).und;rw[hk]at hu;have hsz:te.cells.len=r.len:=by rw[aB.eq_of_beq _ _ hbeq]
     rw[hv]at hx;refine .same h ?_ (ah4 hx h1 h2);rw[hv];simp[Instr.sliceAt,Instr.slice,anK,anW hu.1 w,hr,(hΘ f te he).run_sizeOf,hsz]
    .cases hc
   .cases hc
  .cases hc
 .next ti ht hev=>
  have hv:a.eval x=.slice none 0 0:=mD h hev;split at hc
  .next f q i j hk hb=>
   split at hc
   .next te he=>
    cases hc;obtain⟨hr,h1,h2⟩:=pY (P:=P) h (anr 0) hb hp true;have hj:j=0:=by omega
    have hi0:i=0:=by omega
    subst hj hi0;have hu:=(hΘ t ti ht).und;rw[hk]at hu;refine .same h (u:=.slice none 0 0) ?_ rfl;rw[hv];simp[Instr.sliceAt,Instr.slice,anK,anW hu.1 w,hr,(hΘ f te he).run_sizeOf]
   .cases hc
  .cases hc
 .next ti o wI n0 ht hev=>
  split at hc
  .next f e r l fr hk ho=>
   split at hc
   .next te q i j he hb=>
    split at hc
    .next hbeq=>
     cases hc;obtain⟨g,m,cap,e',r',l',fr',hx,hγ,⟨p0,hp0,hv,hle⟩⟩:=Qg h hev;rw[ho]at hx;cases hx;obtain⟨hcap,hlc⟩:=ado h ho hγ;have hsz:te.cells.len=r.len:=by rw[aB.eq_of_beq _ _ hbeq]
     have hu:=(hΘ t ti ht).und;rw[hk]at hu;have key:(Instr.sliceBounds true n0 (cap-wI) (lo.map a.eval) (hi.map a.eval) none).run P w=.ok (i,j,cap-wI) w/\i<=j/\j<=cap-wI:=by
      unfold P5 at hb;split at hb
      .obtain⟨hr,h1,h2⟩:=pY (P:=P) (cap:=cap-wI) h (show n0<=cap-wI by omega) hb hp true;exact⟨hr,h1,by omega⟩
      .next hh=>obtain⟨hr,h1,h2⟩:=pY (P:=P) (cap:=cap-wI) h (show l.length-wI<=cap-wI by omega) hb hp true;exact⟨hr,h1,by omega⟩
     obtain⟨hr,h1,h2⟩:=key;refine .same h (u:=.slice (if cap-wI=i then some ⟨g,p0,none⟩else(some (⟨g,p0,none⟩:Addr)).map (·.add (i*r.len))) (j-i) (cap-wI-i)) ?_ ?_
     .rw[hv];simp[Instr.sliceAt,Instr.slice,anK,anW hu.1 w,hr,(hΘ f te he).run_sizeOf,hsz]
     .refine⟨g,m,cap,e,r,l,fr,ho,hγ,?_⟩;split
      .next hc0=>exact⟨p0,.inr (by omega),by rw[show cap-(wI+i)=cap-wI-i by omega],by omega⟩
      .next hc0=>
       refine⟨p0+i*r.len,?_,by rw[show cap-(wI+i)=cap-wI-i by omega];simp[Addr.add],by omega⟩;rcases hp0 with e1|e1
       .left;rw[e1,an9]
       .omega
    .cases hc
   .cases hc
  .cases hc
 .cases hc
theorem ZU(hΘ:∀t ti,Θ t=some ti->kC P t ti)(h:Rel w0 M T γ st a w){d:Nat}{t:TypeId}{x lo hi mx:Operand}{p:Prop}{v:AV}{δ:List (Nat×aG)}
 (hc:calm Θ Γ d st (.slice t x (some lo) (some hi) (some mx))=some (p,v,δ)) (hp:p):Yields P w0 M T st a w (Instr.sliceAt t (a.eval x) (some (a.eval lo)) (some (a.eval hi)) (some (a.eval mx))) v δ:=by
 simp only[calm]at hc;split at hc
 .next ti o ht hev=>
  split at hc
  .next f e r l fr hk ho=>
   split at hc
   .next te n1 n2 n3 he h1 h2 h3=>
    cases hc;obtain⟨q1,q2,q3,q4⟩:=hp;obtain⟨k1,e1,_⟩:=rD h h1;obtain⟨k2,e2,_⟩:=rD h h2;obtain⟨k3,e3,_⟩:=rD h h3;have hu:=(hΘ t ti ht).und;rw[hk]at hu;have hx:=mD h hev;obtain⟨ad,cp,hv,hlc⟩:∃ad cp,a.eval x=.slice ad l.length cp/\l.length<=cp:=by
     obtain⟨_,hv,_⟩:=hx;obtain⟨xs,⟨_,g2⟩,_⟩:=h.ah o _ ho;rcases g2 with⟨g3,g4⟩|⟨g,cap,cur,g3,_,_,g4,g5,_⟩
     .exact⟨none,0,by rw[hv,g4];exact g3,by omega⟩
     .exact⟨_,cap,hv.trans g3,g4⟩
    refine .same h (u:=.slice (if n3.toNat=n1.toNat then ad else ad.map (·.add (n1.toNat*te.cells.len))) (n2.toNat-n1.toNat) (n3.toNat-n1.toNat)) ?_ trivial;rw[hv,e1,e2,e3];have b3:=run_sliceBound (P:=P) (w:=w) (k:=k3) (n:=n3) (y:=cp) (c:=.slice3Acap) (by omega) (by omega);have b2:=run_sliceBound (P:=P) (w:=w) (k:=k2) (n:=n2) (y:=n3.toNat) (c:=.slice3B) (by omega) (by omega);have b1:=run_sliceBound (P:=P) (w:=w) (k:=k1) (n:=n1) (y:=n2.toNat) (c:=.slice3C) (by omega) (by omega);simp[Instr.sliceAt,Instr.slice,Instr.sliceBounds,anK,anW hu.1 w,b3,b2,b1,(hΘ f te he).run_sizeOf]
   .cases hc
  .cases hc
 .cases hc
theorem X6(h:Rel w0 M T γ st a w){d:Nat}{x:Operand}{ix:Nat}{p:Prop}{v:AV}{δ:List (Nat×aG)}
 (hc:calm Θ Γ d st (.extract x ix)=some (p,v,δ)):Yields P w0 M T st a w (Instr.extract (a.eval x) ix) v δ:=by
 have hx:=gU h x;simp only[calm]at hc;split at hc
 .next vs hev=>
  split at hc
  .next s hs=>
   cases hc;rw[hev]at hx;obtain⟨us,hv,hr⟩:=hx;have get:∀(xs:List SV)(ys:List Value)(i:Nat)(s:SV),dw (ax w0 T γ st w) xs ys->xs[i]? =some s->∃u,ys[i]? =some u/\dn (ax w0 T γ st w) s u:=by
    intro xs
    induction xs with
    |nil=>intro ys i s _ h;simp at h
    |cons x xs ih=>
     intro ys i s hr hi;cases ys with
     |nil=>cases hr
     |cons y ys=>
      cases i with
      |zero=>simp at hi;subst hi;exact⟨y,rfl,hr.1⟩
      |succ i=>obtain⟨u,hu,hR⟩:=ih ys i s hr.2 (by simpa using hi);exact⟨u,by simpa using hu,hR⟩
   obtain⟨u,hu,hR⟩:=get vs us.toList ix s hr hs;refine .same h (u:=u) ?_ hR;have hu':us[ix]? =some u:=by simpa using hu
   rw[hv];simp[Instr.extract,hu']
  .cases hc
 .cases hc
theorem acO(h:Rel w0 M T γ st a w){d:Nat}{op:UnOp}{t:TypeId}{x:Operand}{p:Prop}{v:AV}{δ:List (Nat×aG)}
 (hc:calm Θ Γ d st (.unOp op t x)=some (p,v,δ)):Yields P w0 M T st a w (Op.unary op (a.eval x)) v δ:=by
 simp only[calm]at hc;split at hc
 .next b hev=>cases hc;rw[adl h hev];exact .same h (u:=.bool (!b)) rfl rfl
 .next k n hev=>cases hc;obtain⟨hv,_⟩:=KN h hev;rw[hv];exact .same h (u:=.int k (k.wrap (0-n))) rfl ⟨rfl,CS _ _⟩
 .cases hc
theorem aef(hΘ:∀t ti,Θ t=some ti->kC P t ti)(h:Rel w0 M T γ st a w){d:Nat}{args:Array Operand}{nS:Array TypeId}{ty:TypeId}{p:Prop}{v:AV}{δ:List (Nat×aG)}
 (hc:calm Θ Γ d st (.call {callee:=.builtin .len,args,argTypes:=nS})=some (p,v,δ)):Yields P w0 M T st a w (Builtin.len_ nS ty (args.map a.eval)) v δ:=by
 simp only[calm]at hc;split at hc
 .next x t hargs Hr=>
  have ha:args.map a.eval=#[a.eval x]:=by apply ao7;simp[hargs]
  have ht':nS=#[t]:=by apply ao7;simp[Hr]
  rw[ha,ht'];split at hc
  .next ti c ht hev=>
   have hx:=mD h hev;split at hc
   .next s hk=>cases hc;obtain⟨hv,hl⟩:=hx;rw[hv];refine .same h (acL hΘ ht hk _ ty) ?_;rw[size_bytes];exact⟨rfl,RX _ hl⟩
   .next e e' r l fr hk=>cases hc;obtain⟨ad,cp,hv,hl⟩:=aaE hx;rw[hv];exact .same h (run_len_slice hΘ ht hk _ _ _ ty) ⟨rfl,RX _ hl⟩
   .next e hk=>cases hc;have hv:a.eval x=.slice none 0 0:=hx;rw[hv];exact .same h (run_len_slice hΘ ht hk _ _ _ ty) ⟨rfl,by decide⟩
   .next e o hk=>
    split at hc
    .next e' r l fr ho=>cases hc;obtain⟨ad,cp,hv,hl⟩:=adn h hx ho;rw[hv];exact .same h (run_len_slice hΘ ht hk _ _ _ ty) ⟨rfl,RX _ hl⟩
    .cases hc
   .cases hc
  .next ti o lo n ht hev=>
   split at hc
   .next e hk=>cases hc;obtain⟨g,m,cap,e',r',l',fr',hx,hγ,⟨p0,hp0,hv,hle⟩⟩:=Qg h hev;obtain⟨hcap,_⟩:=ado h hx hγ;rw[hv];exact .same h (run_len_slice hΘ ht hk _ _ _ ty) ⟨rfl,RX _ (by omega)⟩
   .cases hc
  .cases hc
 .cases hc
theorem aeg(h:Rel w0 M T γ st a w){d:Nat}{args:Array Operand}{nS:Array TypeId}{ty:TypeId}{p:Prop}{v:AV}{δ:List (Nat×aG)}
 (hc:calm Θ Γ d st (.call {callee:=.builtin .min,args,argTypes:=nS})=some (p,v,δ)):Yields P w0 M T st a w (Builtin.min_ nS ty (args.map a.eval)) v δ:=by
 simp only[calm]at hc;split at hc
 .next x y hargs=>
  have ha:args.map a.eval=#[a.eval x,a.eval y]:=by apply ao7;simp[hargs]
  rw[ha];split at hc
  .next k n l m e1 e2=>
   split at hc
   .next hkl=>
    cases hc;have hkl:=aoC hkl;subst hkl;obtain⟨h1,h2⟩:=KN h e1;obtain⟨h3,h4⟩:=KN h e2;rw[h1,h3];refine .same h (u:=.int k (if m<n then m else n)) (by simp[Builtin.min_,Builtin.min2]) ⟨rfl,?_⟩;split
    .exact h4
    .exact h2
   .cases hc
  .cases hc
 .cases hc
theorem aeh(h:Rel w0 M T γ st a w){d:Nat}{args:Array Operand}{nS:Array TypeId}{ty:TypeId}{p:Prop}{v:AV}{δ:List (Nat×aG)}
 (hc:calm Θ Γ d st (.call {callee:=.builtin .max,args,argTypes:=nS})=some (p,v,δ)):Yields P w0 M T st a w (Builtin.max_ nS ty (args.map a.eval)) v δ:=by
 simp only[calm]at hc;split at hc
 .next x y hargs=>
  have ha:args.map a.eval=#[a.eval x,a.eval y]:=by apply ao7;simp[hargs]
  rw[ha];split at hc
  .next k n l m e1 e2=>
   split at hc
   .next hkl=>
    cases hc;have hkl:=aoC hkl;subst hkl;obtain⟨h1,h2⟩:=KN h e1;obtain⟨h3,h4⟩:=KN h e2;rw[h1,h3];refine .same h (u:=.int k (if m>n then m else n)) (by simp[Builtin.max_,Builtin.max2]) ⟨rfl,?_⟩;split
    .exact h4
    .exact h2
   .cases hc
  .cases hc
 .cases hc
structure EnvB(P:Program)(G:jg)(Θ:iF)(Γ:jG):Prop where
 types:∀t ti,Θ t=some ti->kC P t ti
 cons:∀f con,Γ f=some (.pure con)->gW P G f con/\iQ P f
 aan:∀f ms con,Γ f=some (.eff ms con)->qw P G f con/\iQ P f
structure pJ(P:Program)(G:jg)(Θ:iF)(Γ:jG)(w0:World)(M:Nat->Prop):Prop extends EnvB P G Θ Γ where
 ok:G.ok w0
 low:∀b,M b->G.n<=b
theorem pJ.at{G:jg}(hE:pJ P G Θ Γ w0 M)(h:Rel w0 M T γ st a w):G.ok w:=
 G.stable w0 w hE.ok h.grow λb hb=>h.kept b (anE hb (G.low w0 hE.ok)) λhm=>by have:=hE.low b hm;omega
theorem Jp{o:Oper}{x:Operand}{f:FuncId}{us:Array Value}{args:Array Operand}{nS:Array TypeId}(ho:o.op=.call {callee:=.value x,args,argTypes:=nS})(hx:a.eval x=.func (.func f) #[] us)(hcall:iQ P f):
 (execOp a.eval o).run P w=.ok (.enter f (args.map a.eval++us)) w:=by
 have e1:(execOp a.eval o)=(do let d ← resolve a.eval {callee:=.value x,args,argTypes:=nS} o.type;invoke d.target d.args):=by unfold execOp;rw[ho]
 rw[e1];simp only[resolve,hx,Deferred.ofValue,anK,aot,aoj,invoke];rw[show(#[]++Array.map a.eval args:Array Value)++us=args.map a.eval++us by simp];exact hcall _ _
theorem aei{G:jg}(hE:pJ P G Θ Γ w0 M)(h:Rel w0 M T γ st a w)(o:Oper){d:Nat}{p:Prop}{v:AV}{δ:List (Nat×aG)}{x:Operand}{args:Array Operand}{nS:Array TypeId}
 (hop:o.op=.call {callee:=.value x,args,argTypes:=nS})
 (hc:calm Θ Γ d st (.call {callee:=.value x,args,argTypes:=nS})=some (p,v,δ)) (hp:p) (hf:iP st δ=true) {next:Act->World->Prop} {Q:Exit->Act->World->Prop}
 (hn:∀u γ' w',Rel w0 M T γ' (st.adds δ) a w'->aV (ax w0 T γ' (st.adds δ) w') v u->next (a.put o.dst u) w'):o.wp P a w next Q:=by
 simp only[calm]at hc;split at hc
 .next f caps hx=>
  split at hc
  .next con vs hcon hargs=>
   split at hc
   .next q out hq=>
    split at hc
    .next hm=>
     cases hc;obtain⟨hok,hcall⟩:=hE.cons f con hcon;rw[aoM]at hm;have hv:=gU h x;rw[hx]at hv;obtain⟨us,VR,hkx⟩:=hv;unfold Oper.wp;rw[Jp hop VR hcall,ap7];have hk:(d*64+1)%64=1:=by omega
     rcases hm with hm|hm
     .have hrep:=CW h (γ0:=λ_=>undef) (S:=λ_=>True) (λ_ _=>trivial) (λ_ _ _ _ _ _ _ _=>trivial) _ _ vs hargs (CX h hkx args.toList);rw[← apt,← apA]at hrep;refine(hok vs _ out (d*64+1) (λ_=>True) (args.map a.eval++us) w hq hp (hE.at h) hrep).mono ?_;rintro e w' ⟨u,vals,rfl,h1,h2,h3,h4,h5,h6,h7,h8⟩;obtain⟨γ',g1,g2⟩:=h.called hk hf h1 h2 h3 h4 h5 (.inl hm) h6 h7 h8;exact hn u γ' w' g1 g2
     .have hm0:sW (handed st args.toList caps)=[]:=by
       unfold CP at hm;split at hm
       .next h0=>exact h0
       .cases hm
      have hrep:=xU h (γ0:=λ_=>undef) _ _ vs hargs hm0 (CX h hkx args.toList);rw[← apt,← apA]at hrep;refine(hok vs _ out (d*64+1) (ax w0 T γ st w).foot (args.map a.eval++us) w hq hp (hE.at h) hrep).mono ?_;rintro e w' ⟨u,vals,rfl,h1,h2,h3,h4,h5,h6,h7,h8⟩;obtain⟨γ',g1,g2⟩:=h.called hk hf h1 h2 h3 h4 h5 (.inr rfl) h6 h7 h8;exact hn u γ' w' g1 g2
    .cases hc
   .cases hc
  .cases hc
 .cases hc
theorem vT{o:Oper}{b:Builtin}{args:Array Operand}{nS:Array TypeId}(ho:o.op=.call {callee:=.builtin b,args,argTypes:=nS}):
 execOp a.eval o=builtin b nS o.type (args.map λ|.const _=>true|_=>false) (args.map a.eval):=by
 unfold execOp;rw[ho];rfl
theorem VS(h:Rel w0 M T γ st a w):∀(xs:List Operand)(l:List (List Cell)),heldBy st xs=some l->dP (ax w0 T γ st w) l (xs.map a.eval)
 |[],l,hl=>by cases hl;trivial
 |x::xs,l,hl=>by
  rw[heldBy]at hl;split at hl
  .next cs off l' hx hl'=>
   split at hl
   .next h0=>cases hl;have h0:=anp h0;subst h0;have hv:=gU h x;rw[hx]at hv;exact⟨hv,VS h xs l' hl'⟩
   .cases hl
  .cases hl
theorem F7{G:jg}(hE:pJ P G Θ Γ w0 M)(h:Rel w0 M T γ st a w)(o:Oper){d:Nat}{p:Prop}{v:AV}{δ:List (Nat×aG)}
 (hc:calm Θ Γ d st o.op=some (p,v,δ)) (hp:p) (hf:iP st δ=true) {next:Act->World->Prop} {Q:Exit->Act->World->Prop}
 (hn:∀u γ' w',Rel w0 M T γ' (st.adds δ) a w'->aV (ax w0 T γ' (st.adds δ) w') v u->next (a.put o.dst u) w'):o.wp P a w next Q:=by
 have fin:∀{s:Sem Value},(execOp a.eval o)=(do pure (Next.value (← s)))->Yields P w0 M T st a w s v δ->o.wp P a w next Q:=by intro s he ⟨u,w',γ',hr,hR,hv⟩;exact Oper.kP (by rw[he];exact KP hr) (hn u γ' w' hR hv)
 cases hop:o.op<;>rw[hop]at hc<;>try (simp only[calm,reduceCtorEq]at hc;done)
 case move x=>simp only[calm]at hc;cases hc;exact Oper.kP (u:=a.eval x) (w':=w) (by simp[execOp,hop]) (hn _ γ w h (gU h x))
 case assign x=>simp only[calm]at hc;cases hc;exact Oper.kP (u:=a.eval x) (w':=w) (by simp[execOp,hop]) (hn _ γ w h (gU h x))
 case pick c x y=>
  simp only[calm]at hc;split at hc
  .next g hg=>
   cases hc;refine Oper.kP (u:=if g then a.eval x else a.eval y) (w':=w) (by simp[execOp,hop,adl h hg,asBool]) (hn _ γ w h ?_);cases g
   .exact gU h y
   .exact gU h x
  .cases hc
 case nilCheck x=>
  have hx:=gU h x;simp only[calm]at hc;split at hc
  .next o' off hev=>cases hc;rw[hev]at hx;obtain⟨b,cs,ho,hγ,hv⟩:=hx;exact Oper.kP (u:=a.eval x) (w':=w) (by simp[execOp,hop,hv]) (hn _ γ w h ⟨b,cs,ho,hγ,hv⟩)
  .next o' i off hev=>cases hc;rw[hev]at hx;obtain⟨b,n,cap,e,r,l,fr,ho,hγ,hv⟩:=hx;exact Oper.kP (u:=a.eval x) (w':=w) (by simp[execOp,hop,hv]) (hn _ γ w h ⟨b,n,cap,e,r,l,fr,ho,hγ,hv⟩)
  .next r y off fr hev=>cases hc;rw[hev]at hx;obtain⟨b,base,cs,ty,fz,hv,hrest⟩:=hx;exact Oper.kP (u:=a.eval x) (w':=w) (by simp[execOp,hop,hv]) (hn _ γ w h ⟨b,base,cs,ty,fz,hv,hrest⟩)
  .next cs off hev=>cases hc;rw[hev]at hx;obtain⟨b,hv,hrest⟩:=hx;exact Oper.kP (u:=a.eval x) (w':=w) (by simp[execOp,hop,hv]) (hn _ γ w h ⟨b,hv,hrest⟩)
  .next f caps hev=>cases hc;rw[hev]at hx;obtain⟨us,hv,hrest⟩:=hx;exact Oper.kP (u:=a.eval x) (w':=w) (by simp[execOp,hop,hv]) (hn _ γ w h ⟨us,hv,hrest⟩)
  .cases hc
 case makeFunc fn first captured=>
  cases fn<;>try (simp only[calm,reduceCtorEq]at hc;done)
  case func f=>
   simp only[calm]at hc;split at hc
   .next l hfirst hl=>
    cases hc;have hf0:first=#[]:=by cases first;simp at hfirst;rw[hfirst]
    subst hf0;refine Oper.kP (u:=.func (.func f) #[] (captured.map a.eval)) (w':=w) (by simp[execOp,hop,Instr.makeFunc]) (hn _ γ w h ⟨captured.map a.eval,rfl,?_⟩);rw[apt];exact VS h _ _ hl
   .cases hc
 case alloc t=>exact fin (s:=Instr.alloc t true (.tuple #[])) (by simp[execOp,hop]) (aaN hE.types h hc hf)
 case box t x=>exact fin (s:=Instr.box t (a.eval x)) (by simp[execOp,hop]) (aed h hc hf)
 case build t parts=>exact fin (s:=Instr.build t (parts.map λx=>(x.1,a.eval x.2))) (by unfold execOp;rw[hop]) (aaM hE.types h hc)
 case buildSlice t len parts=>have hy:=Tf hE.types h hc hf;refine fin ?_ hy;unfold execOp;rw[hop]
 case makeSlice t x y=>exact fin (s:=Instr.makeSlice t (a.eval x) (a.eval y)) (by simp[execOp,hop]) (U1 hE.types h hc hp hf)
 case load t x=>exact fin (s:=Instr.loadAt t (a.eval x)) (by simp[execOp,hop]) (acN hE.types h hc hp)
 case fieldAddr s x f=>exact fin (s:=Instr.fieldAt s (a.eval x) f) (by simp[execOp,hop]) (UZ hE.types h hc)
 case field s x f=>exact fin (s:=Instr.field s (a.eval x) f) (by simp[execOp,hop]) (aaK hE.types h hc)
 case indexAddr t x ix=>exact fin (s:=Instr.indexAt t (a.eval x) (a.eval ix)) (by simp[execOp,hop]) (U0 hE.types h hc hp)
 case index t x ix=>exact fin (s:=Instr.index t (a.eval x) (a.eval ix)) (by simp[execOp,hop]) (aaJ hE.types h hc hp)
 case binOp op t x y t'=>exact fin (s:=do eqGuard op t x y (a.eval x) (a.eval y);binOp op t (a.eval x) (a.eval y)) (by simp[execOp,hop]) (aaP hE.types h hc hp)
 case unOp op t x=>exact fin (s:=Op.unary op (a.eval x)) (by simp[execOp,hop]) (acO h hc)
 case convert s t x=>exact fin (s:=convert s t (a.eval x)) (by simp[execOp,hop]) (X5 hE.types h hc)
 case extract x i=>exact fin (s:=Instr.extract (a.eval x) i) (by simp[execOp,hop]) (X6 h hc)
 case slice t x lo hi mx=>
  cases mx with
  |some m=>
   cases lo with
   |none=>simp only[calm,reduceCtorEq]at hc
   |some lo=>
    cases hi with
    |none=>simp only[calm,reduceCtorEq]at hc
    |some hi=>exact fin (s:=Instr.sliceAt t (a.eval x) (some (a.eval lo)) (some (a.eval hi)) (some (a.eval m))) (by simp[execOp,hop]) (ZU hE.types h hc hp)
  |none=>exact fin (s:=Instr.sliceAt t (a.eval x) (lo.map a.eval) (hi.map a.eval) none) (by simp[execOp,hop]) (aaQ hE.types h hc hp)
 case call c=>
  obtain⟨callee,args,nS⟩:=c;cases callee with
  |invoke r m=>simp only[calm,reduceCtorEq]at hc
  |builtin b=>
   cases b<;>try (simp only[calm,reduceCtorEq]at hc;done)
   case len=>exact fin (s:=Builtin.len_ nS o.type (args.map a.eval)) (by rw[vT hop];rfl) (aef hE.types h hc)
   case min=>exact fin (s:=Builtin.min_ nS o.type (args.map a.eval)) (by rw[vT hop];rfl) (aeg h hc)
   case max=>exact fin (s:=Builtin.max_ nS o.type (args.map a.eval)) (by rw[vT hop];rfl) (aeh h hc)
  |value x=>exact aei hE h o hop hc hp hf hn
def sameKind:aG->aG->Prop
 |.var _,.var _=>True
 |.arr e r _ _,.arr f s _ _=>e=f/\r=s
 |_,_=>False
theorem Ec(w:World)(g:Nat)(cs:Array Value){b:Nat}(h:b≠g):(w.setRow g cs).heap[b]? =w.heap[b]? :=by simp only[World.setRow,ap5];rw[if_neg (apa h)]
theorem Rel.write(h:Rel w0 M T γ st a w){o b:Nat}{x x':aG}(ho:st.ah o=some x)(hb:blk (γ o)=some b)(hk:sameKind x x')(arr:Array Value)
 (hx:(ax w0 T γ st w).le ⟨w.setRow b arr,w0.heap.size,T,γ,(st.add o x').ah⟩->bf ⟨w.setRow b arr,w0.heap.size,T,γ,(st.add o x').ah⟩ o x'):
 Rel w0 M T γ (st.add o x') a (w.setRow b arr):=by
 have hother:∀p,p≠o->(st.add o x').ah p=st.ah p:=λp hp=>kX st x' hp;have hsz:(w.setRow b arr).heap.size=w.heap.size:=by simp[World.setRow]
 have hsome:∀p y,(st.add o x').ah p=some y->∃z,st.ah p=some z:=by
  intro p y hp;by_cases e:p=o
  .rw[e];exact⟨x,ho⟩
  .rw[hother p e]at hp;exact⟨y,hp⟩
 have le:(ax w0 T γ st w).le ⟨w.setRow b arr,w0.heap.size,T,γ,(st.add o x').ah⟩:=by
  refine⟨anr _,λc hc=>⟨⟨?_,hc.2.1,λp y hp=>?_⟩,?_⟩,λp cs hp=>⟨?_,rfl⟩,λp e r l fr hp=>⟨?_,rfl⟩⟩
  .show c<(w.setRow b arr).heap.size;rw[hsz];exact hc.1
  .obtain⟨z,hz⟩:=hsome p y hp;exact hc.2.2 p z hz
  .refine Ec w b arr (λe=>?_);exact hc.2.2 o x ho (by rw[e];exact hb)
  .by_cases e:p=o
   .subst e;have hp':st.ah p=some (.var cs):=hp;rw[ho]at hp';cases hp';show∃cs',(st.add p x').ah p=some (.var cs');rw[add_same];cases x' with
    |var cs'=>exact⟨cs',rfl⟩
    |arr _ _ _ _=>exact hk.elim
   .exact⟨cs,(hother p e).trans hp⟩
  .by_cases e2:p=o
   .subst e2;have hp':st.ah p=some (.arr e r l fr):=hp;rw[ho]at hp';cases hp';show∃l' fr',(st.add p x').ah p=some (.arr e r l' fr');rw[add_same];cases x' with
    |var cs'=>exact hk.elim
    |arr e' r' l' fr'=>obtain⟨h1,h2⟩:=hk;subst h1 h2;exact⟨l',fr',rfl⟩
   .exact⟨l,fr,(hother p e2).trans hp⟩
 refine⟨h.mT,h.defers,h.size,h.os,h.tape,h.output,by rw[hsz];exact h.grow,λc hc hM=>?_,λt=>aV.mono le _ _ (h.tmps t),λp y hp=>?_,λp y c hp hc=>?_,λp y q z c hp hq hpq hc=>?_,λp v cs hN hp=>?_⟩
 .rw[Ec w b arr (λe=>?_)]
  .exact h.kept c hc hM
  .rcases(h.lt o x b ho hb).2 with h1|h1
   .omega
   .exact hM (e▸h1)
 .by_cases e:p=o
  .subst e;rw[add_same]at hp;cases hp;exact hx le
  .rw[hother p e]at hp;refine bf.mono le p y (λc hc=>Ec w b arr (λe2=>?_)) rfl (h.ah p y hp);exact h.sep p y o x c hp ho e hc (by rw[e2];exact hb)
 .obtain⟨z,hz⟩:=hsome p y hp;rw[hsz];exact h.lt p z c hz hc
 .obtain⟨y',hy'⟩:=hsome p y hp;obtain⟨z',hz'⟩:=hsome q z hq;exact h.sep p y' q z' c hy' hz' hpq hc
 .by_cases e:p=o
  .subst e;rw[add_same]at hp;cases hp;cases x with
   |var cs'=>exact h.pin p v cs' hN ho
   |arr _ _ _ _=>exact hk.elim
  .rw[hother p e]at hp;exact h.pin p v cs hN hp
theorem run_store{t:TypeId}{ti:TI}(hT:kC P t ti){b off:Nat}{cur:Array Value}{e:TypeId}(hb:w.heap[b]? =some (.cells cur e (0,0))){v:Value}(hsz:v.cells.size=ti.cells.len)
 (hle:off+v.cells.size<=cur.size) (h1:∀u∈v.cells.toList,u.oneCell'=true):
 (Instr.storeAt t (.pointer (some ⟨b,off,none⟩)) v).run P w=.ok () (w.setRow b (cur.toList.take off++v.cells.toList++cur.toList.drop (off+v.cells.toList.length)).toArray):=by
 have hst:=run_storeCells_at P b off e v.cells.toList 0 cur w hb (by rw[an7];omega) h1;simp only[aoW]at hst;simp only[Instr.storeAt,Instr.sureAddr,anK,aot,aoj,storeVar,hT.run_sizeOf];rw[if_neg (by omega)];exact hst
theorem Qh{g:Nat}{cur cs:Array Value}{e:TypeId}(h:w.heap[g]? =some (.cells cur e (0,0))):(w.setRow g cs).heap[g]? =some (.cells cs e (0,0)):=setRow_heap w g cur cs e (0,0) h
theorem X7(cur vs:List Value)(o k:Nat)(h:o+vs.length<=cur.length):
 (cur.take o++vs++cur.drop (o+vs.length))[k]? =if k<o then cur[k]? else if k<o+vs.length then vs[k-o]? else cur[k]? :=by
 have ht:(cur.take o).length=o:=by rw[anO];omega
 by_cases h1:k<o
 .rw[if_pos h1,anG,aoi (by omega),an3,if_pos h1]
 .rw[if_neg h1];by_cases h2:k<o+vs.length
  .rw[if_pos h2,anG,an8 (by omega),ht,aoi (by omega)]
  .rw[if_neg h2,an8 (by rw[anm];omega),anm,ht,anZ];congr 1;omega
theorem aaR(fr:Bool):∀(r:aB)(x:r.den),(aB.row fr r x).flatMap Cell.refs=[]
 |.nil,_=>rfl
 |.cons c r,x=>by rw[aB.row,aoD,aaR fr r x.2,an4];cases c<;>rfl
theorem Y7:∀(r:aB)(x:r.den),(aB.row true r x).all (Cell.fresh st)=true
 |.nil,_=>rfl
 |.cons c r,x=>by rw[aB.row,aox,Y7 r x.2,an6];cases c<;>rfl
theorem Y8(hΘ:∀t ti,Θ t=some ti->kC P t ti)(h:Rel w0 M T γ st a w){t:TypeId}{ti:TI}(ht:Θ t=some ti){p:AV}{v:SV}{pv vv:Value}{q:Prop}{s:St}
 (hs:store st p v=some (q,s)) (hq:q) (hp:aV (ax w0 T γ st w) p pv) (hv:dn (ax w0 T γ st w) v vv) (hlen:v.cells.length=ti.cells.len):
 ∃w',(Instr.storeAt t pv vv).run P w=.ok () w'/\Rel w0 M T γ s a w':=by
 have hcells:=dn.cells v vv hv;have hvl:=aj.length _ _ hcells;rw[an7]at hvl;have iK:=aj.ones _ _ hcells;unfold store at hs;split at hs
 .next o off=>
  split at hs
  .next cs ho=>
   split at hs
   .next Na=>
    cases hs;have hle:=aoy Na;obtain⟨b,cs',_,hγ,hpv⟩:=hp;obtain⟨b',arr,ty,KQ,hb,hr⟩:=h.ah o _ ho;have OE:γ o=.pointer (some ⟨b,0,none⟩):=hγ;have kW:γ o=.pointer (some ⟨b',0,none⟩):=KQ;have hbb:b'=b:=by rw[OE]at kW;simpa using kW.symm
    subst hbb;have hal:=aj.length _ _ hr;rw[an7]at hal;rw[hpv];refine⟨_,run_store (hΘ t ti ht) hb (by omega) (by omega) iK,?_⟩;refine h.write (x':=.var (splice cs off v.cells)) ho (by rw[OE];rfl) trivial _ (λle=>⟨b',_,ty,OE,Qh hb,?_⟩);rw[apN];exact aj.mono le _ _ (MZ off hr hcells)
   .cases hs
  .cases hs
 .next o i off=>
  split at hs
  .next e r l fr hrefs ho=>
   split at hs
   .next x hx Na=>
    cases hs;have hle:=aoy Na;obtain⟨b,n,cap,e2,r2,l2,fr2,ho2,hγ,hpv⟩:=hp;have aaD:st.ah o=some (.arr e2 r2 l2 fr2):=ho2;rw[ho]at aaD;cases aaD;obtain⟨xs,⟨h1,h2⟩,hpos,hfr,hrow⟩:=h.ah o _ ho;have OE:γ o=.slice (some ⟨b,0,none⟩) n cap:=hγ;rcases h2 with⟨hnil,_⟩|⟨g,cap',cur,hg,_,hh,hlc,hmax,hsz,htake⟩
    .have kW:γ o=.slice none 0 0:=hnil;rw[OE]at kW;cases kW
    .have kW:γ o=.slice (some ⟨g,0,none⟩) l.length cap':=hg;rw[OE]at kW;simp at kW;obtain⟨rfl,hn,hcap⟩:=kW;have hmul:i*r.len+r.len<=l.length*r.len:=by have:(i+1)*r.len<=l.length*r.len:=anD _ hq;rw[an9]at this;simpa using this
     have ajJ:l.length*r.len<=cap'*r.len:=anD _ hlc;rw[hpv];refine⟨_,run_store (hΘ t ti ht) hh (by omega) (by omega) iK,?_⟩;have hli:l[i]? =some (l.getD i r.dflt):=by rw[anz,anu hq];rfl
     have hRi:=hrow i _ hli;have hrc:=RV (ax w0 T γ st w) fr r _ _ hRi;have agB:=MZ off hrc hcells;have hrl:=aU.length _ _ _ hRi;refine h.write (x':=.arr e r (l.set i x) (fr&&v.cells.all (Cell.fresh st))) ho (by rw[OE];rfl) ⟨rfl,rfl⟩ _ (λle=>?_)
     let new:List Value:=cur.toList.take (i*r.len+off)++vv.cells.toList++cur.toList.drop (i*r.len+off+vv.cells.toList.length)
     have hnl:new.length=cur.size:=by have e1:cur.toList.length=cur.size:=an7;have e2:vv.cells.toList.length=vv.cells.size:=an7;simp only[new,anm,anO,anS];omega
     refine⟨new.take (l.length*r.len),⟨?_,.inr ⟨b,cap,new.toArray,?_,ant _,Qh hh,?_,?_,?_,?_⟩⟩,hpos,?_,?_⟩
     .rw[anO,hnl,apq];omega
     .rw[apq];show γ o=_;rw[OE,hn]
     .rw[apq];omega
     .omega
     .rw[ao2,hnl,hsz,hcap]
     .rw[apq,apN]
     .intro c hc hf;simp only[anl]at hf;exact hfr c hc hf.1
     .have e1:cur.toList.length=cur.size:=an7;have e2:vv.cells.toList.length=vv.cells.size:=an7;have hnew:∀k,new[k]? =if k<i*r.len+off then cur.toList[k]? else if k<i*r.len+off+vv.cells.toList.length then vv.cells.toList[k-(i*r.len+off)]? else cur.toList[k]? :=λk=>X7 _ _ _ k (by omega)
      intro i' x' hi';have hlt:i'<l.length:=by have:=(anv.1 hi').1;rw[apq]at this;exact this
      have aht:i'*r.len+r.len<=l.length*r.len:=by have:(i'+1)*r.len<=l.length*r.len:=anD _ hlt;rw[an9]at this;simpa using this
      show aU (w.setRow b new.toArray).heap (V.bT ⟨w.setRow b new.toArray,w0.heap.size,T,γ,_⟩ (fr&&v.cells.all (Cell.fresh st))) r (((new.take (l.length*r.len)).drop (i'*r.len)).take r.len) x';rw[fB _ _ _ _ aht];by_cases hii:i'=i
      .subst hii;have hxx:x'=x:=by rw[aoP hlt]at hi';exact(Option.some.inj hi').symm
       subst hxx;have hrows:(new.drop (i'*r.len)).take r.len=((xs.drop (i'*r.len)).take r.len).take off++vv.cells.toList++((xs.drop (i'*r.len)).take r.len).drop (off+vv.cells.toList.length):=by
        rw[← htake,fB _ _ _ _ hmul];apply apd;intro k;rw[X7 _ _ _ k (by rw[anO,anS];omega)];rw[an3,anZ,hnew];by_cases hk:k<r.len
        .rw[if_pos hk];simp only[an3,anZ,if_pos hk];by_cases hk1:k<off
         .rw[if_pos (by omega),if_pos hk1]
         .rw[if_neg (by omega),if_neg hk1];by_cases hk2:k<off+vv.cells.toList.length
          .rw[if_pos (by omega),if_pos hk2];congr 1;omega
          .rw[if_neg (by omega),if_neg hk2]
        .rw[if_neg hk,if_neg (by omega),if_neg (by omega),an3,if_neg hk]
       rw[hrows];refine aU.mono (λc hc=>le.bT _ c hc) r _ x' (Ho h (fr&&v.cells.all (Cell.fresh st)) r _ _ x' agB hx ?_ ?_)
       .unfold splice;rw[List.flatMap_append,List.flatMap_append,hrefs];have hr0:=aaR fr r (l.getD i' r.dflt);have hsub:∀(cs:List Cell),(∀c∈cs,c∈aB.row fr r (l.getD i' r.dflt))->cs.flatMap Cell.refs=[]:=by intro cs hcs;rw[apY]at hr0 ⊢;exactλc hc=>hr0 c (hcs c hc)
        rw[hsub _ (λc hc=>aoT hc),hsub _ (λc hc=>aoG hc)];rfl
       .intro hf;simp only[anl]at hf;obtain⟨hf1,hf2⟩:=hf;subst hf1;have hr0:=Y7 (st:=st) r (l.getD i' r.dflt);rw[anI]at hr0 hf2 ⊢;intro c hc;unfold splice at hc;rcases aoc.1 hc with hc|hc
        .rcases aoc.1 hc with hc|hc
         .exact hr0 c (aoT hc)
         .exact hf2 c hc
        .exact hr0 c (aoG hc)
      .have hx2:l[i']? =some x':=by rw[aou (apa hii)]at hi';exact hi'
       have hR2:=hrow i' x' hx2;rw[← htake,fB _ _ _ _ aht]at hR2;have hrows:(new.drop (i'*r.len)).take r.len=(cur.toList.drop (i'*r.len)).take r.len:=by
        apply apd;intro k;rw[an3,an3,anZ,anZ,hnew];by_cases hk:k<r.len
        .rw[if_pos hk,if_pos hk];rcases Nat.lt_or_gt_of_ne hii with hlt2|hlt2
         .have:(i'+1)*r.len<=i*r.len:=anD _ hlt2;rw[an9]at this;rw[if_pos (by omega)]
         .have:(i+1)*r.len<=i'*r.len:=anD _ hlt2;rw[an9]at this;rw[if_neg (by omega),if_neg (by omega)]
        .rw[if_neg hk,if_neg hk]
       rw[hrows];refine aU.mono (λc hc=>?_) r _ x' hR2;have hc':(ax w0 T γ st w).bT (fr&&v.cells.all (Cell.fresh st)) c:=⟨hc.1,λe=>hc.2 (by simp only[anl]at e;exact e.1)⟩;exact le.bT _ c hc'
   .cases hs
  .cases hs
 .cases hs
structure V.lQ(S:Nat->Bool)(X Y:V):Prop where
 n0:Y.n0<=X.n0
 foot:∀b,X.foot b->Y.foot b/\Y.w.heap[b]? =X.w.heap[b]?
 var:∀o cs,S o=false->X.ah o=some (.var cs)->(∃cs',Y.ah o=some (.var cs'))/\Y.γ o=X.γ o
 arr:∀o e r l fr,S o=false->X.ah o=some (.arr e r l fr)->(∃l' fr',Y.ah o=some (.arr e r l' fr'))/\Y.γ o=X.γ o
theorem V.lQ.bT{S:Nat->Bool}{X Y:V}(h:X.lQ S Y)(fr:Bool)(b:Nat)(hb:X.bT fr b):Y.bT fr b/\Y.w.heap[b]? =X.w.heap[b]? :=
 ⟨⟨(h.foot b hb.1).1,λe=>anx h.n0 (hb.2 e)⟩,(h.foot b hb.1).2⟩
variable {S:Nat->Bool}
theorem aS.lQ{X Y:V}(h:X.lQ S Y):∀(c:Cell)(v:Value),aS X c v->aS Y (c.kill S) v
 |.int _ _,_,H|.bool _,_,H|.str _,_,H|.nil,_,H|.junk,_,H=>H
 |.sl e r l fr,v,H=>bW.mono (λb hb=>h.bT fr b hb) (.sl e r) v l H
 |.ref o,v,⟨⟨e,r,l,fr,hx⟩,hv,h1⟩=>by
  simp only[Cell.kill];cases hS:S o with
  |true=>exact h1
  |false=>obtain⟨⟨l',fr',hy⟩,hγ⟩:=h.arr o e r l fr hS hx;exact⟨⟨e,r,l',fr',hy⟩,hv.trans hγ.symm,h1⟩
theorem aj.lQ{X Y:V}(h:X.lQ S Y):∀(cs:List Cell)(vs:List Value),aj X cs vs->aj Y (cs.map (Cell.kill S)) vs
 |[],[],H=>H
 |c::cs,v::vs,⟨h1,h2⟩=>⟨aS.lQ h c v h1,aj.lQ h cs vs h2⟩
 |[],_::_,H|_::_,[],H=>by cases H
theorem dn.lQ{X Y:V}(h:X.lQ S Y):∀(c:SV)(v:Value),dn X c v->dn Y (c.kill S) v
 |.one c,v,H=>aS.lQ h c v H
 |.agg cs,_,⟨vs,hv,H⟩=>⟨vs,hv,aj.lQ h cs _ H⟩
theorem dw.lQ{X Y:V}(h:X.lQ S Y):∀(cs:List SV)(vs:List Value),dw X cs vs->dw Y (cs.map (SV.kill S)) vs
 |[],[],H=>H
 |c::cs,v::vs,⟨h1,h2⟩=>⟨dn.lQ h c v h1,dw.lQ h cs vs h2⟩
 |[],_::_,H|_::_,[],H=>by cases H
theorem fA.lQ{X Y:V}(h:X.lQ S Y){cs:List Cell}{b:Nat}(H:fA X cs b):fA Y (cs.map (Cell.kill S)) b:=by obtain⟨arr,t,fz,hb,hh,hr⟩:=H;exact⟨arr,t,fz,(h.foot b hb).1,(h.foot b hb).2.trans hh,aj.lQ h cs _ hr⟩
theorem dP.lQ{X Y:V}(h:X.lQ S Y):∀(l:List (List Cell))(us:List Value),dP X l us->dP Y (l.map (List.map (Cell.kill S))) us
 |[],[],H=>H
 |cs::l,u::us,⟨⟨b,hu,hk⟩,h2⟩=>⟨⟨b,hu,fA.lQ h hk⟩,dP.lQ h l us h2⟩
 |[],_::_,H|_::_,[],H=>by cases H
theorem aV.lQ{X Y:V}(h:X.lQ S Y):∀(c:AV)(v:Value),aV X c v->aV Y (c.kill S) v
 |.undef,_,_=>trivial
 |.sv x,v,H=>dn.lQ h x v H
 |.kT xs,_,⟨vs,hv,H⟩=>⟨vs,hv,dw.lQ h xs _ H⟩
 |.cZ o off,v,⟨b,cs,hx,hγ,hv⟩=>by
  simp only[AV.kill];cases hS:S o with
  |true=>trivial
  |false=>
   obtain⟨⟨cs',hy⟩,he⟩:=h.var o cs hS hx;exact⟨b,cs',hy,he.trans hγ,hv⟩
 |.lU o i off,v,⟨b,n,cap,e,r,l,fr,hx,hγ,hv⟩=>by
  simp only[AV.kill];cases hS:S o with
  |true=>trivial
  |false=>
   obtain⟨⟨l',fr',hy⟩,he⟩:=h.arr o e r l fr hS hx;exact⟨b,n,cap,e,r,l',fr',hy,he.trans hγ,hv⟩
 |.win o i off,v,⟨b,n,cap,e,r,l,fr,hx,hγ,hv⟩=>by
  simp only[AV.kill];cases hS:S o with
  |true=>trivial
  |false=>
   obtain⟨⟨l',fr',hy⟩,he⟩:=h.arr o e r l fr hS hx;exact⟨b,n,cap,e,r,l',fr',hy,he.trans hγ,hv⟩
 |.nX r x off fr,v,⟨b,base,cs,t,fz,hv,hf,hb,hr⟩=>
  ⟨b,base,cs,t,fz,hv,(h.bT fr b hf).1,(h.bT fr b hf).2.trans hb,aU.mono (λb hb=>h.bT fr b hb) r _ x hr⟩
 |.dF cs off,v,⟨b,hv,hk⟩=>⟨b,hv,fA.lQ h hk⟩
 |.fn f caps,v,⟨us,hv,hk⟩=>⟨us,hv,dP.lQ h caps _ hk⟩
theorem bf.lQ{X Y:V}(h:X.lQ S Y)(o:Nat):∀(x:aG),(∀b,blk (X.γ o)=some b->Y.w.heap[b]? =X.w.heap[b]?)->Y.γ o=X.γ o->bf X o x->bf Y o (x.kill S)
 |.var cs,hb,hγ,⟨b,arr,t,e,hh,hr⟩=>⟨b,arr,t,hγ.trans e,(hb b (by rw[e];rfl)).trans hh,aj.lQ h cs _ hr⟩
 |.arr e r l fr,hb,hγ,⟨xs,hown,hr,hf,hx⟩=>by
  refine⟨xs,?_,hr,λb hb' hfr=>anx h.n0 (hf b (hγ▸hb') hfr),λi x hi=>aU.mono (λb hb=>h.bT fr b hb) r _ x (hx i x hi)⟩;obtain⟨h1,h2⟩:=hown;refine⟨h1,?_⟩;rcases h2 with h2|⟨g,cap,cur,hv,hg,hh,hrest⟩
  .exact .inl ⟨hγ.trans h2.1,h2.2⟩
  .exact .inr ⟨g,cap,cur,hγ.trans hv,hg,(hb g (by rw[hv];rfl)).trans hh,hrest⟩
theorem ah5(p o:Nat):Nat.beq o p=Nat.beq p o:=by
 by_cases h:p=o
 .subst h;rfl
 .rw[xJ h,xJ (apa h)]
theorem Rel.replace(h:Rel w0 M T γ st a w){o:Nat}{x':aG}{v':Value}(own:Option Nat)(hown:own=none\/∃x,st.ah o=some x/\own=blk (γ o))
 (hos:w'.os=w.os) (htape:w'.tape=w.tape) (hout:w'.output=w.output) (hsize:w.heap.size<=w'.heap.size) (hheap:∀b,b<w.heap.size->some b≠own->w'.heap[b]? =w.heap[b]?)
 (hblk:∀g,blk v'=some g->(some g=own\/w.heap.size<=g)/\g<w'.heap.size) (harr:∀cs,x'≠ .var cs)
 (hx:(ax w0 T γ st w).lQ (Nat.beq o ·) ⟨w',w0.heap.size,T,upd γ o v',((st.kill (Nat.beq o ·)).add o x').ah⟩->bf ⟨w',w0.heap.size,T,upd γ o v',((st.kill (Nat.beq o ·)).add o x').ah⟩ o x'):
 Rel w0 M T (upd γ o v') ((st.kill (Nat.beq o ·)).add o x') a w'/\(ax w0 T γ st w).lQ (Nat.beq o ·) ⟨w',w0.heap.size,T,upd γ o v',((st.kill (Nat.beq o ·)).add o x').ah⟩:=by
 have hoth:∀p y,p≠o->((st.kill (Nat.beq o ·)).add o x').ah p=some y->∃z,st.ah p=some z/\y=z.kill (Nat.beq o ·):=by intro p y hp hy;rw[kX _ _ hp]at hy;obtain⟨z,hz,he,_⟩:=uh _ hy;exact⟨z,hz,he⟩
 have ahu:∀p z,p≠o->st.ah p=some z->((st.kill (Nat.beq o ·)).add o x').ah p=some (z.kill (Nat.beq o ·)):=by intro p z hp hz;rw[kX _ _ hp];exact mr _ (by rw[ah5];exact xJ hp) hz
 have hno:∀b,(∀x,st.ah o=some x->blk (γ o)≠some b)->some b≠own:=by
  intro b hb e;rcases hown with h0|⟨x,hxo,h1⟩
  .rw[h0]at e;cases e
  .rw[h1]at e;exact hb x hxo e.symm
 have le:(ax w0 T γ st w).lQ (Nat.beq o ·) ⟨w',w0.heap.size,T,upd γ o v',((st.kill (Nat.beq o ·)).add o x').ah⟩:=by
  refine⟨anr _,λb hb=>⟨⟨anE hb.1 hsize,hb.2.1,λp y hp=>?_⟩,hheap b hb.1 (hno b (λx hx=>hb.2.2 o x hx))⟩,λp cs hS hp=>?_,λp e r l fr hS hp=>?_⟩
  .show blk (upd γ o v' p)≠some b;by_cases e:p=o
   .rw[e,upd_same];intro e2;rcases(hblk b e2).1 with h1|h1
    .exact hno b (λx hx=>hb.2.2 o x hx) h1
    .have:b<w.heap.size:=hb.1;omega
   .rw[nR γ v' e];obtain⟨z,hz,_⟩:=hoth p y e hp;exact hb.2.2 p z hz
  .have hne:p≠o:=λe=>by rw[e,aoe]at hS;cases hS
   exact⟨⟨_,ahu p _ hne hp⟩,nR γ v' hne⟩
  .have hne:p≠o:=λe=>by rw[e,aoe]at hS;cases hS
   exact⟨⟨l,fr,ahu p _ hne hp⟩,nR γ v' hne⟩
 refine⟨⟨h.mT,h.defers,h.size,hos.trans h.os,htape.trans h.tape,hout.trans h.output,anx h.grow hsize,λb hb hM=>?_,λt=>aV.lQ le _ _ (h.tmps t),λp y hp=>?_,λp y b hp hb=>?_,λp y q z b hp hq hpq hb=>?_,λp v cs hN hp=>?_⟩,le⟩
 .rw[hheap b (anE hb h.grow) (λe=>?_)]
  .exact h.kept b hb hM
  .rcases hown with h0|⟨x,hxo,h1⟩
   .rw[h0]at e;cases e
   .rw[h1]at e;rcases(h.lt o x b hxo e.symm).2 with h2|h2
    .omega
    .exact hM h2
 .by_cases e:p=o
  .subst e;rw[add_same]at hp;cases hp;exact hx le
  .obtain⟨z,hz,he⟩:=hoth p y e hp;rw[he];refine bf.lQ le p z (λb hb=>hheap b (h.lt p z b hz hb).1 (hno b (λx hxo e2=>h.sep p z o x b hz hxo e hb e2))) (nR γ v' e) (h.ah p z hz)
 .by_cases e:p=o
  .rw[e,upd_same]at hb;refine⟨(hblk b hb).2,?_⟩;rcases(hblk b hb).1 with h1|h1
   .rcases hown with h0|⟨x,hxo,h2⟩
    .rw[h0]at h1;cases h1
    .exact(h.lt o x b hxo (by rw[← h2,← h1])).2
   .exact .inl (anx h.grow h1)
  .rw[nR γ v' e]at hb;obtain⟨z,hz,_⟩:=hoth p y e hp;have:=h.lt p z b hz hb;exact⟨anE this.1 hsize,this.2⟩
 .have key:∀p y,p≠o->((st.kill (Nat.beq o ·)).add o x').ah p=some y->blk (γ p)=some b->blk v'≠some b:=by
   intro p y e hp hb e2;obtain⟨z,hz,_⟩:=hoth p y e hp;rcases(hblk b e2).1 with h1|h1
   .rcases hown with h0|⟨x,hxo,h2⟩
    .rw[h0]at h1;cases h1
    .exact h.sep p z o x b hz hxo e hb (by rw[← h2,← h1])
   .have:=(h.lt p z b hz hb).1;omega
  by_cases e:p=o
  .have e':q≠o:=λe2=>hpq (e.trans e2.symm);rw[e,upd_same]at hb;rw[nR γ v' e'];intro e2;exact key q z e' hq e2 hb
  .rw[nR γ v' e]at hb;by_cases e':q=o
   .rw[e',upd_same];exact key p y e hp hb
   .rw[nR γ v' e'];obtain⟨y',hy',_⟩:=hoth p y e hp;obtain⟨z',hz',_⟩:=hoth q z e' hq;exact h.sep p y' q z' b hy' hz' hpq hb
 .by_cases e:p=o
  .subst e;rw[add_same]at hp;exact(harr cs (Option.some.inj hp)).elim
  .obtain⟨z,hz,he⟩:=hoth p _ e hp;rw[nR γ v' e];cases z with
   |var cs'=>exact h.pin p v cs' hN hz
   |arr _ _ _ _=>cases he
theorem Cell.aaS(h:Rel w0 M T γ st a w){e:TypeId}{r:aB}{x:Cell}{v:Value}{l:List r.den}(hx:aS (ax w0 T γ st w) x v)(hg:x.get st (.sl e r)=some l):
 qG w.heap (λb=>b<w.heap.size) r.len (λvs y=>aU w.heap ((ax w0 T γ st w).bT (x.ug r st)) r vs y) v l:=by
 suffices hs:qG w.heap (λb=>b<w.heap.size) r.len (λvs y=>aU w.heap ((ax w0 T γ st w).bT (x.fresh st)) r vs y) v l by
  refine hs.mono (λb hb=>⟨hb,rfl⟩) λvs y hy=>?_;unfold Cell.ug;split
  .next hf=>exact aU.flat r vs y hf hy
  .exact hy
 cases x<;>simp only[Cell.get]at hg<;>try (cases hg;done)
 .cases hg;have hv:v=.slice none 0 0:=hx;subst hv;exact⟨ant _,.inl ⟨rfl,none,0,rfl⟩⟩
 .next e' s l' fr=>
  split at hg
  .next hb=>have hrs:=aB.eq_of_beq s r hb;subst hrs;cases hg;have hx:qG _ _ _ _ v l':=hx;exact hx.mono (λb hb=>⟨hb.1.1,rfl⟩) (λvs y hy=>hy)
  .cases hg
 .next o=>
  obtain⟨⟨e',s,l',fr,ho⟩,hv,_⟩:=hx;have ho':st.ah o=some (.arr e' s l' fr):=ho;simp only[ho']at hg;split at hg
  .next hb=>
   have hrs:=aB.eq_of_beq s r hb;subst hrs;cases hg;rw[hv];show qG _ _ _ _ (γ o) l';have ala:(Cell.ref o).fresh st=fr:=by simp only[Cell.fresh,ho']
   rw[ala];obtain⟨xs,⟨h1,h2⟩,hr,hf,hx⟩:=h.ah o _ ho';rcases h2 with⟨hv,hn⟩|⟨g,cap,cur,hv,_,hg,hle,hmax,hsz,htake⟩
   .exact⟨by rw[hn];exact ant _,.inl ⟨anV.1 hn,none,0,hv⟩⟩
   .refine⟨anx hle hmax,.inr ⟨g,0,cap,cur,e',(0,0),hv,hle,(h.lt o _ g ho' (by rw[show γ o=_ from hv];rfl)).1,hg,λi x hi=>?_⟩⟩;have hlt:i<l'.length:=(anv.1 hi).1;have hmul:i*s.len+s.len<=l'.length*s.len:=by have:(i+1)*s.len<=l'.length*s.len:=anD _ hlt;rw[an9]at this;simpa using this
    have:=hx i x hi;rw[← htake,fB _ _ _ _ hmul]at this;rw[anR];exact this
  .cases hg
theorem VT{t ty e:TypeId}{i:TypeInfo}(ht:P.underlying t=some (.slice e))(hi:P.info? e=some i){base size n:Nat}{v:Value}{xs:List Value}(hown:w.ownsRow base e size v n xs)(ad:Option Addr)(c:Nat):
 (Builtin.append_ #[t,t] ty #[v,.slice ad 0 c]).run P w=.ok v w:=by
 rcases hown.2 with⟨rfl,rfl⟩|⟨g,cap,cur,rfl,_,_,hnc,_⟩
 .cases ad with
  |none=>simp[Builtin.append_,anW ht,sizeOf,typeInfo,hi,Builtin.lenOf,Builtin.firstCells]
  |some ad=>simp[Builtin.append_,anW ht,sizeOf,typeInfo,hi,Builtin.lenOf,Builtin.firstCells,loadCells,loadCellsFrom]
 .cases ad with
  |none=>simp[Builtin.append_,anW ht,sizeOf,typeInfo,hi,Builtin.lenOf,Builtin.firstCells,hnc,storeCells]
  |some ad=>simp[Builtin.append_,anW ht,sizeOf,typeInfo,hi,Builtin.lenOf,Builtin.firstCells,hnc,storeCells,loadCells,loadCellsFrom]
theorem aU.ones{h:Array Obj}{S:Nat->Prop}:∀(r:aB)(vs:List Value)(x:r.den),aU h S r vs x->∀v∈vs,v.oneCell'=true
 |.nil,vs,_,H,v,hv=>by rw[aU]at H;subst H;cases hv
 |.cons c r,vs,(x,y),H,v,hv=>by
  rw[aU]at H;obtain⟨u,vs',rfl,h1,h2⟩:=H;rcases anN.1 hv with rfl|hv
  .cases c with
   |int k=>rw[h1.1];rfl
   |bool=>rw[show _=_ from h1];rfl
   |str=>rw[h1.1];rfl
   |sl e s=>have h1:qG _ _ _ _ v x:=h1;rcases h1.2 with⟨_,a,c,hv⟩|⟨b,off,cap,cs,t,fz,hv,_⟩<;>rw[hv]<;>rfl
  .exact aU.ones r vs' y h2 v hv
theorem aaT{t ty e:TypeId}{i:TypeInfo}{z:Value}{size bytes:Nat}(ht:P.underlying t=some (.slice e))(hi:P.info? e=some i)(hz:i.zero=some z)(hsize:i.size=size)(hby:i.bytes=bytes)(hpos:0<size)
 {v:Value} {n:Nat} {xs:List Value} (hown:w.ownsRow 0 e size v n xs) (ad:Addr) (c:Nat) {m:Nat} (hm:0<m) {ns:List Value} (hl:ns.length=m*size) (hnews:∀j u,ns[j]? =some u->w.cell? (ad.add j)=some u) (h1:∀u∈ns,u.oneCell'=true)
 (h63:n+m<=9223372036854775807) (hbytes:(n+m)*bytes<=140737488355328) {v':Value} {w':World} (hr:(Builtin.append_ #[t,t] ty #[v,.slice (some ad) m c]).run P w=.ok v' w') {g:Nat} (hg:v'.ownBlock=some g):
 v.ownBlock=some g\/w.heap.size<=g:=by
 subst hsize;subst hby;rcases hown.2 with⟨rfl,rfl⟩|⟨g',cap,cur,rfl,_,hgc,hnc,hcm,hcs,htake⟩
 .have hr2:=run_append_nil (P:=P) w t ty e i z ht hi hz ad m c ns hl hnews hm (by omega) (by have:=hbytes;rw[anR]at this;omega);rw[hr]at hr2;cases hr2;cases hg;exact .inr (anr _)
 .by_cases hroom:n+m<=cap
  .have hfit:n*i.size+ns.length<=cur.size:=by rw[hl,hcs,← an9];exact anD _ hroom
   have hr2:=run_append_room (P:=P) w t ty e i ht hi g' n cap cur hgc ad m c ns hl hnews h1 hroom hfit;rw[hr]at hr2;cases hr2;exact .inl hg
  .have holds:∀j u,xs[j]? =some u->w.cell? ((⟨g',0,none⟩:Addr).add j)=some u:=hown.cells (g:=g') rfl;have hr2:=run_append_grow (P:=P) w t ty e i z ht hi hz ⟨g',0,none⟩ n cap xs hown.1 holds ad m c ns hl hnews (by omega) (by omega) (growslice_fits (by omega) hbytes);rw[hr]at hr2;cases hr2;cases hg;exact .inr (anr _)
theorem Jq{t ty e:TypeId}{ti te:TI}(hT:kC P t ti)(hk:ti.kind=.slice e)(hE:kC P e te)(hpos:0<te.cells.len){v:Value}{n:Nat}{xs:List Value}(hown:w.ownsRow 0 e te.cells.len v n xs)
 {F:Nat->Prop} {src:Value} {news:List te.cells.den} (hs:qG w.heap (λb=>b<w.heap.size) te.cells.len (λvs y=>aU w.heap F te.cells vs y) src news) (hbig:n+news.length<=big):
 ∃v' w' ns,(Builtin.append_ #[t,t] ty #[v,src]).run P w=.ok v' w'/\w'.ownsRow 0 e te.cells.len v' (n+news.length) (xs++ns)/\w.grownBy w' v.ownBlock/\
  (∀i x,news[i]? =some x->aU w.heap F te.cells ((ns.drop (i*te.cells.len)).take te.cells.len) x)/\(∀g,v'.ownBlock=some g->v.ownBlock=some g\/w.heap.size<=g):=by
 obtain⟨i,z,hi,hsz,hby,hz,hzv,_⟩:=hE.info;have hu:=hT.und;rw[hk]at hu;have hzs:z.cells.size=te.cells.len:=by rw[← an7,hzv,kZ]
 have zero:∀ad c,news=[]->src=.slice ad 0 c->∃v' w' ns,(Builtin.append_ #[t,t] ty #[v,src]).run P w=.ok v' w'/\w'.ownsRow 0 e te.cells.len v' (n+news.length) (xs++ns)/\w.grownBy w' v.ownBlock/\
  (∀i x,news[i]? =some x->aU w.heap F te.cells ((ns.drop (i*te.cells.len)).take te.cells.len) x)/\(∀g,v'.ownBlock=some g->v.ownBlock=some g\/w.heap.size<=g):=by
  intro ad c hn0 hv;subst hn0;rw[hv];exact⟨v,w,[],VT hu.1 hi hown ad c,by simpa using hown,⟨rfl,rfl,rfl,anr _,λ_ _ _=>rfl⟩,(λi x hx=>by simp at hx),λg hg=>.inl hg⟩
 rcases hs.2 with⟨hn0,ad,c,hv⟩|⟨b,off,cap,cs,ty2,fz,hv,hcap,hlt,hb,hx⟩
 .exact zero ad c hn0 hv
 .by_cases h0:news=[]
  .exact zero (some ⟨b,off,none⟩) cap h0 (by rw[hv,h0];rfl)
  .have hm:0<news.length:=aph.2 h0;have e1:(news.length-1)*te.cells.len+te.cells.len=news.length*te.cells.len:=by rw[← Nat.succ_mul];congr 1;omega
   have al2:off+news.length*te.cells.len<=cs.toList.length:=by
    have hl:news.length-1<news.length:=by omega
    have hlast:=hx (news.length-1) _ (anu hl);have:=aU.length _ _ _ hlast;rw[anO,anS]at this;omega
   let ns:List Value:=(cs.toList.drop off).take (news.length*te.cells.len)
   have hnl:ns.length=news.length*te.cells.len:=by simp only[ns,anO,anS];omega
   have hnews:∀j u,ns[j]? =some u->w.cell? ((⟨b,off,none⟩:Addr).add j)=some u:=by intro j u hj;rw[addr_add];exact MS hb _ j u hj
   have iK:∀u∈ns,u.oneCell'=true:=by intro u hu;obtain⟨j,hj⟩:=apK hu;have hjl:j<ns.length:=(anv.1 hj).1;rw[hnl]at hjl;have hil:j / te.cells.len<news.length:=Nat.div_lt_of_lt_mul (by rw[apQ];exact hjl);have hR:=hx (j / te.cells.len) _ (anu hil);refine aU.ones _ _ _ hR u ?_;have hdm:=Nat.div_add_mod j te.cells.len;have hml:=apV j hpos;refine an1 (i:=j%te.cells.len) ?_;rw[an3,if_pos hml,anZ];simp only[ns]at hj;rw[an3,if_pos hjl,anZ]at hj;rw[← hj];congr 1;rw[apQ]at hdm;omega
   have hbb:=hE.small;unfold big at hbig;obtain⟨v',w',hr,hown',hg,_⟩:=run_append_own (P:=P) w 0 t ty e i z te.cells.len te.bytes hu.1 hi hz hsz hby hzs hpos v n xs hown ⟨b,off,none⟩ news.length cap ns hnl hnews iK
    (by unfold maxLen;omega) (by have:(n+news.length)*te.bytes<=4294967296*4096:=Nat.mul_le_mul hbig hbb;omega) (ant _)
   refine⟨v',w',ns,by rw[hv];exact hr,hown',hg,λi x hi=>?_,λg hgb=>?_⟩
   rotate_left
   .exact aaT (P:=P) hu.1 hi hz hsz hby hpos hown ⟨b,off,none⟩ cap hm hnl hnews iK (by omega) (by have:(n+news.length)*te.bytes<=4294967296*4096:=Nat.mul_le_mul hbig hbb;omega) hr hgb
   have hil:i<news.length:=(anv.1 hi).1;have hmul:i*te.cells.len+te.cells.len<=news.length*te.cells.len:=by have:(i+1)*te.cells.len<=news.length*te.cells.len:=anD _ hil;rw[an9]at this;simpa using this
   have e2:(ns.drop (i*te.cells.len)).take te.cells.len=(cs.toList.drop (off+i*te.cells.len)).take te.cells.len:=by simp only[ns];rw[fB _ _ _ _ hmul,ao1]
   rw[e2];exact hx i x hi
theorem Ht{v:Value}(h:∀a,v≠ .pointer (some a)):v.ownBlock=blk v:=by
 cases v with
 |slice a n c=>cases a<;>rfl
 |pointer a=>cases a with
  |none=>rfl
  |some a=>exact absurd rfl (h a)
 |_=>rfl
theorem Y9{base size n:Nat}{e:TypeId}{v':Value}{xs:List Value}(hown:w'.ownsRow base e size v' n xs):
 ∀g,blk v'=some g->g<w'.heap.size:=by
 intro g hb;rcases hown.2 with⟨h1,_⟩|⟨g',cap,cur,h1,_,hh,_⟩
 .rw[h1]at hb;cases hb
 .rw[h1]at hb;cases hb;exact(anq.1 hh).1
theorem ZV(hΘ:∀t ti,Θ t=some ti->kC P t ti)(h:Rel w0 M T γ st a w){t ty e:TypeId}{ti te:TI}(ht:Θ t=some ti)(hk:ti.kind=.slice e)(he:Θ e=some te){o:Nat}{r:aB}{l:List r.den}{fr:Bool}
 (ho:st.ah o=some (.arr e r l fr)) (hbeq:te.cells.beq r=true) {y:Cell} {news:List te.cells.den} {v src:Value} (hv:aS (ax w0 T γ st w) (.ref o) v) (hy:aS (ax w0 T γ st w) y src)
 (hget:y.get st (.sl e te.cells)=some news) (hbig:l.length+news.length<=big):
 ∃u w' γ',(Builtin.append_ #[t,t] ty #[v,src]).run P w=.ok u w'/\Rel w0 M T γ' ((st.kill (Nat.beq o ·)).add o (.arr e r (l++qW hbeq news) (fr&&y.ug te.cells st))) a w'/\
  aV (ax w0 T γ' ((st.kill (Nat.beq o ·)).add o (.arr e r (l++qW hbeq news) (fr&&y.ug te.cells st))) w') (.sv (.one (.ref o))) u:=by
 have hr:=aB.eq_of_beq _ _ hbeq;subst hr;obtain⟨_,hvγ,_⟩:=hv;have hvγ:v=γ o:=hvγ;subst hvγ;obtain⟨xs,hown,hpos,hfr,hrow⟩:=h.ah o _ ho;obtain⟨v',w',ns,hrun,hown',hg,hnr,hgb⟩:=Jq (P:=P) (ty:=ty) (hΘ t ti ht) hk (hΘ e te he) hpos hown (Cell.aaS h hy hget) hbig;have hlen:(l++qW hbeq news).length=l.length+news.length:=by rw[anm];rfl
 have hnp:∀ad,γ o≠ .pointer (some ad):=by
  intro ad e1;rcases hown.2 with⟨h1,_⟩|⟨g,cap,cur,h1,_⟩
  .have h1:γ o=_:=h1;rw[e1]at h1;cases h1
  .have h1:γ o=_:=h1;rw[e1]at h1;cases h1
 have alb:v'.oneCell'=true:=by rcases hown'.2 with⟨h1,_⟩|⟨g,cap,cur,h1,_⟩<;>rw[h1]<;>rfl
 have hown2:=Ht hnp;have hnb:∀g,blk v'=some g->(some g=blk (γ o)\/w.heap.size<=g)/\g<w'.heap.size:=by
  intro g hb;refine⟨?_,Y9 hown' g hb⟩;have hb2:v'.ownBlock=some g:=by
   rw[Ht (λad e1=>?_)]
   .exact hb
   .rcases hown'.2 with⟨h1,_⟩|⟨g,cap,cur,h1,_⟩<;>rw[e1]at h1<;>cases h1
  rcases hgb g hb2 with h1|h1
  .exact .inl (by rw[← hown2,h1])
  .exact .inr h1
 obtain⟨hR,_⟩:=h.replace (w':=w') (o:=o) (v':=v') (x':=.arr e te.cells (l++qW hbeq news) (fr&&y.ug te.cells st)) (blk (γ o)) (.inr ⟨_,ho,rfl⟩) hg.os hg.tape hg.output hg.size
  (λb hb hne=>hg.block b hb (by rw[hown2];exact hne)) hnb (λ_ e=>by cases e) (λle=>by
    refine⟨xs++ns,?_,hpos,?_,?_⟩
    .rw[hlen];show w'.ownsRow 0 e te.cells.len (upd γ o v' o) _ _;rw[upd_same];exact hown'
    .intro b hb hf;simp only[anl]at hf;have hb:blk (upd γ o v' o)=some b:=hb;rw[upd_same]at hb;rcases(hnb b hb).1 with h1|h1
     .exact hfr b h1.symm hf.1
     .exact anx h.grow h1
    .intro i x hi;have hxl:xs.length=l.length*te.cells.len:=hown.1;by_cases hil:i<l.length
     .rw[aoi hil]at hi;have hmul:i*te.cells.len+te.cells.len<=l.length*te.cells.len:=by have:(i+1)*te.cells.len<=l.length*te.cells.len:=anD _ hil;rw[an9]at this;simpa using this
      have e1:((xs++ns).drop (i*te.cells.len)).take te.cells.len=(xs.drop (i*te.cells.len)).take te.cells.len:=by rw[aoR (by omega),apf (by rw[anS];omega)]
      rw[e1];refine aU.mono (λc hc=>le.bT _ c ⟨hc.1,λe2=>hc.2 (by simp only[anl]at e2;exact e2.1)⟩) _ _ x (hrow i x hi)
     .rw[an8 (by omega)]at hi;have hi:news[i-l.length]? =some x:=hi;have e1:((xs++ns).drop (i*te.cells.len)).take te.cells.len=(ns.drop ((i-l.length)*te.cells.len)).take te.cells.len:=by
       have e2:i*te.cells.len=xs.length+(i-l.length)*te.cells.len:=by rw[hxl,← an9];congr 1;omega
       rw[e2,← ao1,aqg]
      rw[e1];refine aU.mono (λc hc=>le.bT _ c ⟨hc.1,λe2=>hc.2 (by simp only[anl]at e2;exact e2.2)⟩) _ _ x (hnr _ x hi))
 exact⟨v',w',_,hrun,hR,⟨e,te.cells,_,_,add_same _ _ _⟩,(upd_same _ _ _).symm,alb⟩
end Go.Fw
