import Derived.WalkKit
import Derived.Laws.AppendOwnNone
import Derived.KernelRfl
import Derived.Deep.MidRow
import Derived.Great.BuildSlice
import Derived.Laws.StructEq
import Derived.Great.FillDense
import Derived.Laws.MakeOwn
import Derived.Laws.BytesString
import Derived.Laws.IdiomStrings
abbrev aQl:=@beq_eq_false_iff_ne
abbrev aQm:=@Bool.and_eq_true
abbrev aQn:=@Nat.le_trans
abbrev aQo:=@List.mem_cons_of_mem
abbrev aQp:=@Nat.le_refl
abbrev aQq:=@Nat.eq_of_beq_eq_true
abbrev aQr:=@List.mem_cons_self
abbrev aQs:=@Int.toNat_natCast
abbrev aQt:=@List.mem_cons
abbrev aQu:=@List.length_append
abbrev aQv:=@beq_iff_eq
abbrev aQw:=@Array.getElem?_eq_some_iff
abbrev aQx:=@Nat.zero_le
abbrev aQy:=@Nat.mul_le_mul_right
abbrev aQz:=@List.length_cons
abbrev aQA:=@List.all_eq_true
abbrev aQB:=@List.map_cons
abbrev aQC:=@List.getElem?_eq_some_iff
abbrev aQD:=@List.getElem?_eq_getElem
abbrev aQE:=@Nat.lt_or_ge
abbrev aQF:=@decide_eq_true_eq
abbrev aQG:=@List.length_map
abbrev aQH:=@decide_eq_false
abbrev aQI:=@Go.run_underlying
abbrev aQJ:=@List.getD_eq_getElem?_getD
abbrev aQK:=@List.take_length
abbrev aQL:=@List.append_assoc
abbrev aQM:=@List.mem_append
abbrev aQN:=@Int.le_refl
abbrev aQO:=@Nat.lt_of_lt_of_le
abbrev aQP:=@decide_eq_false_iff_not
abbrev aQQ:=@List.getElem_of_mem
abbrev aQR:=@List.mem_singleton
abbrev aQS:=@Go.Sem.run_bind
abbrev aQT:=@decide_eq_true
abbrev aQU:=@List.mem_of_getElem?
abbrev aQV:=@List.append_eq_nil_iff
abbrev aQW:=@List.mem_map
abbrev aQX:=@Classical.byContradiction
abbrev aQY:=@List.append_nil
abbrev aQZ:=@List.length_nil
abbrev aQ0:=@List.mem_append_left
abbrev aQ1:=@List.length_eq_zero_iff
abbrev aQ2:=@List.length_filter_le
abbrev aQ3:=@Go.Calls.mono
abbrev aQ4:=@List.mem_filter
abbrev aQ5:=@List.pairwise_cons
abbrev aQ6:=@of_decide_eq_true
abbrev aQ7:=@Nat.le_succ_of_le
abbrev aQ8:=@List.mem_range
abbrev aQ9:=@List.getElem?_map
abbrev aRa:=@List.mem_of_mem_take
abbrev aRb:=@List.pairwise_iff_getElem
abbrev aRc:=@Go.heap_alloc_new
abbrev aRd:=@Nat.not_lt_zero
abbrev aRe:=@List.length_take
abbrev aRf:=@List.flatMap_cons
abbrev aRg:=@List.pairwise_singleton
abbrev aRh:=@List.sum_cons
abbrev aRi:=@List.take_of_length_le
abbrev aRj:=@List.getElem?_append_left
abbrev aRk:=@Nat.le_of_ble_eq_true
abbrev aRl:=@Nat.zero_add
abbrev aRm:=@List.mem_append_right
abbrev aRn:=@Go.Result.andThen_ok
abbrev aRo:=@Bool.or_eq_true
abbrev aRp:=@List.length_set
abbrev aRq:=@List.map_append
abbrev aRr:=@Go.Sem.run_pure
abbrev aRs:=@Nat.beq_refl
abbrev aRt:=@List.getElem?_take
abbrev aRu:=@List.getElem?_drop
abbrev aRv:=@List.cons_append
abbrev aRw:=@Bool.or_eq_false_iff
abbrev aRx:=@List.ext_getElem?
abbrev aRy:=@Array.length_toList
abbrev aRz:=@Bool.true_and
abbrev aRA:=@List.any_eq_true
abbrev aRB:=@Nat.eq_zero_or_pos
abbrev aRC:=@List.getElem?_eq_none
abbrev aRD:=@List.mem_or_eq_of_mem_set
abbrev aRE:=@Nat.pow_le_pow_right
abbrev aRF:=@List.pairwise_append
abbrev aRG:=@and_congr_right
abbrev aRH:=@Go.bodyPost_ret
abbrev aRI:=@List.Pairwise.filter
abbrev aRJ:=@Bool.eq_iff_iff
abbrev aRK:=@List.all_cons
abbrev aRL:=@List.length_pos_iff
abbrev aRM:=@List.getElem_mem
abbrev aRN:=@Go.results_cell_row
abbrev aRO:=@Nat.succ_pos
abbrev aRP:=@List.nil_append
abbrev aRQ:=@List.length_mergeSort
abbrev aRR:=@List.getElem?_append_right
abbrev aRS:=@Bool.not_eq_true'
abbrev aRT:=@List.pairwise_map
abbrev aRU:=@Bool.eq_false_iff
abbrev aRV:=@Nat.add_mul
abbrev aRW:=@Nat.le_succ
abbrev aRX:=@List.map_map
abbrev aRY:=@List.getElem?_take_of_lt
abbrev aRZ:=@Nat.lt_succ_self
abbrev aR0:=@List.filter_eq_self
abbrev aR1:=@List.takeWhile_cons
abbrev aR2:=@Int.mul_le_mul_of_nonneg_right
abbrev aR3:=@Option.map_none
abbrev aR4:=@List.filter_append
abbrev aR5:=@bne_iff_ne
abbrev aR6:=@Nat.lt_trichotomy
abbrev aR7:=@Nat.lt_succ_of_lt
abbrev aR8:=@Bool.and_false
abbrev aR9:=@List.contains_iff_mem
abbrev aSa:=@Array.toList_map
abbrev aSb:=@List.getElem?_of_mem
abbrev aSc:=@List.getElem?_set_ne
abbrev aSd:=@List.mem_of_mem_drop
abbrev aSe:=@List.length_drop
abbrev aSf:=@Classical.not_forall
abbrev aSg:=@List.map_id
abbrev aSh:=@Nat.mul_one
abbrev aSi:=@Array.toList_append
abbrev aSj:=@List.drop_eq_getElem_cons
abbrev aSk:=@Nat.add_sub_cancel
abbrev aSl:=@Nat.le_of_lt
abbrev aSm:=@of_decide_eq_false
abbrev aSn:=@Nat.one_le_two_pow
abbrev aSo:=@List.filter_cons_of_neg
abbrev aSp:=@List.drop_of_length_le
abbrev aSq:=@List.take_succ_eq_append_getElem
abbrev aSr:=@List.takeWhile_append_dropWhile
abbrev aSs:=@Array.ext'
abbrev aSt:=@Go.Oper.upon_enter
abbrev aSu:=@List.mem_iff_getElem
abbrev aSv:=@Nat.add_zero
abbrev aSw:=@Go.info_parts
abbrev aSx:=@Int.toNat_of_nonneg
abbrev aSy:=@true_and
abbrev aSz:=@Array.getD_eq_getD_getElem?
abbrev aSA:=@Bool.false_eq_true
abbrev aSB:=@List.mem_mergeSort
abbrev aSC:=@decide_eq_true_iff
abbrev aSD:=@Array.getElem?_append_left
abbrev aSE:=@List.length_range
abbrev aSF:=@Array.mapM_eq_mapM_toList
abbrev aSG:=@Ne.symm
abbrev aSH:=@List.mem_flatMap
abbrev aSI:=@Go.results_cell_tmp
abbrev aSJ:=@List.drop_length
abbrev aSK:=@List.filter_cons
abbrev aSL:=@exists_congr
abbrev aSM:=@Option.map_some
abbrev aSN:=@List.sum_append
abbrev aSO:=@UInt8.toNat_inj
abbrev aSP:=@Nat.mul_le_mul
abbrev aSQ:=@List.take_left
theorem fC{p:Prop}(h:p:=by omega):p:=h
theorem jv{p:Prop}(h:p:=by grind):p:=h
theorem jI{p:Prop}(h:p:=by decide):p:=h
theorem lu{p:Prop}(h:p:=by kernel_rfl):p:=h
theorem ni{p:Prop}(h:p:=by simp):p:=h
theorem oQ{p:Prop}(h:p:=by simpa using h):p:=h
theorem o5{p:Prop}(h:p:=by cases h):p:=h
theorem o6{p:Prop}(h:p:=by rw[bV];omega):p:=h
theorem o7{p:Prop}(h:p:=by cases H):p:=h
theorem o8{p:Prop}(h:p:=by rw[maxLen_eq];omega):p:=h
theorem ql{p:Prop}(h:p:=by simp;omega):p:=h
theorem qO{p:Prop}(h:p:=by simp[execOp,hop]):p:=h
theorem vk{p:Prop}(h:p:=by cases Z):p:=h
theorem x9{p:Prop}(h:p:=by simp_all):p:=h
theorem yj{p:Prop}(h:p:=by simp at h):p:=h
theorem yJ{p:Prop}(h:p:=by grind [bV]):p:=h
theorem y5{p:Prop}(h:p:=by cases e):p:=h
theorem y7{p:Prop}(h:p:=by have:=(aQw.1 q1).1;simp;(try simp[World.setCell]);omega):p:=h
theorem y8{p:Prop}(h:p:=by grind [Sp.fileAt]):p:=h
theorem y9{p:Prop}(h:p:=by intro u hu;simp at hu;rcases hu with rfl|rfl<;>rfl):p:=h
theorem JK{p:Prop}(h:p:=by have:=aQC.1 hco;rw[hh.length.1,← hh.length.2];exact this.1):p:=h
theorem Lj{p:Prop}(h:p:=by rintro _ ⟨q,b,⟨i,o,s,l,a,⟨⟩⟩,r,⟨⟩⟩;rfl):p:=h
theorem Ll{p:Prop}(h:p:=by rw[getElem!_pos _ i (by simpa using h)];simp):p:=h
theorem Lm{p:Prop}(h:p:=by rintro _ rfl;exact⟨i,a _ (by grind),rfl,rfl⟩):p:=h
theorem NJ{p:Prop}(h:p:=by apply aSs;simp[hargs]):p:=h
theorem Ou{p:Prop}(h:p:=by rw[show j+(i+1)=j+1+i by omega];exact D):p:=h
theorem Pj{p:Prop}(h:p:=by grind [Sp.ls]):p:=h
theorem Pm{p:Prop}(h:p:=by rw[R];exact Vs g hs hk hf ht hne b _):p:=h
theorem QD{p:Prop}(h:p:=by simp_all [execOp]):p:=h
theorem Uy{p:Prop}(h:p:=by simpa using hi):p:=h
theorem Vq{p:Prop}(h:p:=by grind [nameOf]):p:=h
theorem Wx{p:Prop}(h:p:=by rfl):p:=h
theorem WR{p:Prop}(h:p:=by simpa using e):p:=h
theorem Xz{p:Prop}(h:p:=by grind [AV.kill]):p:=h
theorem XM{p:Prop}(h:p:=by simp[mM]at h):p:=h
theorem ZP{p:Prop}(h:p:=by grind [jd]):p:=h
theorem ZQ{p:Prop}(h:p:=by simpa using D):p:=h
theorem aaP{p:Prop}(h:p:=by rcases c with rfl|rfl<;>rfl):p:=h
theorem abS{p:Prop}(h:p:=by rw[e];exact c):p:=h
theorem acZ{p:Prop}(h:p:=by show b≠w3.heap.size;omega):p:=h
theorem ac2{p:Prop}(h:p:=by grind [xu]):p:=h
theorem adW{p:Prop}(h:p:=by simpa using a):p:=h
theorem adX{p:Prop}(h:p:=by simpa using d):p:=h
theorem ad1{p:Prop}(h:p:=by cases k<;>decide):p:=h
theorem afg{p:Prop}(h:p:=by rw[l];decide):p:=h
theorem afn{p:Prop}(h:p:=by rw[z.1];exact D):p:=h
theorem afy{p:Prop}(h:p:=by rw[h];rfl):p:=h
theorem afJ{p:Prop}(h:p:=by rw[R];rfl):p:=h
theorem agz{p:Prop}(h:p:=by grind [acV]):p:=h
theorem ahT{p:Prop}(h:p:=by cases X):p:=h
namespace Go.Fw
open Go
abbrev Bytes:=List UInt8
mutual
inductive CT where
 |int (k:IntKind)
 |bool
 |str
 |sl (e:TypeId) (r:aP)
inductive aP where
 |nil
 |cons (c:CT) (r:aP)
end
mutual
def CT.beq:CT->CT->Bool
 |.int k,.int l=>decide (k=l)
 |.bool,.bool=>true
 |.str,.str=>true
 |.sl e r,.sl f s=>Nat.beq e f&&r.beq s
 |_,_=>false
def aP.beq:aP->aP->Bool
 |.nil,.nil=>true
 |.cons c r,.cons d s=>c.beq d&&r.beq s
 |_,_=>false
end
mutual
theorem CT.eq_of_beq:∀(c d:CT),c.beq d=true->c=d
 |.int k,.int l,h=>by simp[CT.beq]at h;rw[h]
 |.bool,.bool,_=>rfl
 |.str,.str,_=>rfl
 |.sl e r,.sl f s,h=>by
  simp[CT.beq]at h;rw[h.1,aP.eq_of_beq r s h.2]
 |.int _,.bool,h|.int _,.str,h|.int _,.sl _ _,h|.bool,.int _,h|.bool,.str,h|.bool,.sl _ _,h
 |.str,.int _,h|.str,.bool,h|.str,.sl _ _,h|.sl _ _,.int _,h|.sl _ _,.bool,h|.sl _ _,.str,h=>by simp[CT.beq]at h
theorem aP.eq_of_beq:∀(r s:aP),r.beq s=true->r=s
 |.nil,.nil,_=>rfl
 |.cons c r,.cons d s,h=>by
  simp[aP.beq]at h;rw[CT.eq_of_beq c d h.1,aP.eq_of_beq r s h.2]
 |.nil,.cons _ _,h|.cons _ _,.nil,h=>by simp[aP.beq]at h
end
mutual
@[reducible] def CT.den:CT->Type
  |.int _=>Int
  |.bool=>Bool
  |.str=>Bytes
  |.sl _ r=>List r.den
@[reducible] def aP.den:aP->Type
  |.nil=>Unit
  |.cons c r=>c.den×r.den
end
mutual
def CT.dflt:(c:CT)->c.den
 |.int _=>(0:Int)
 |.bool=>false
 |.str=>([]:Bytes)
 |.sl _ r=>([]:List r.den)
def aP.dflt:(r:aP)->r.den
 |.nil=>()
 |.cons c r=>(c.dflt,r.dflt)
end
instance(r:aP):Inhabited r.den:=⟨r.dflt⟩
def aP.len:aP->Nat
 |.nil=>0
 |.cons _ r=>r.len+1
def RQ{α:Type}(h:Array Obj)(S:Nat->Prop)(size:Nat)(d:List Value->α->Prop)(v:Value)(l:List α):Prop:=
 l.length<=maxLen/\
 ((l=[]/\∃a c,v=.slice a 0 c)\/
  ∃b m y A t e,v=.slice (some ⟨b,m,none⟩) l.length y/\l.length<=y/\S b/\h[b]? =some (.cells A t e)/\
   ∀i x,l[i]? =some x->d ((A.toList.drop (m+i*size)).take size) x)
mutual
def iL(h:Array Obj)(S:Nat->Prop):(c:CT)->Value->c.den->Prop
 |.int k,v,(n:Int)=>v=.int k n/\k.min<=n/\n<=k.max
 |.bool,v,(b:Bool)=>v=.bool b
 |.str,v,(s:Bytes)=>v=.string ⟨s.toArray⟩/\s.length<=maxLen
 |.sl _ r,v,(l:List r.den)=>RQ h S r.len (λI x=>dD h S r I x) v l
def dD(h:Array Obj)(S:Nat->Prop):(r:aP)->List Value->r.den->Prop
 |.nil,vs,_=>vs=[]
 |.cons c r,vs,(x,y)=>∃v a,vs=v::a/\iL h S c v x/\dD h S r a y
end
def aP.flat:aP->Bool
 |.nil=>true
 |.cons (.sl _ _) _=>false
 |.cons _ r=>r.flat
theorem dD.flat{h:Array Obj}{S S':Nat->Prop}:∀(r:aP)(I:List Value)(x:r.den),r.flat=true->dD h S r I x->dD h S' r I x
 |.nil,_,_,_,hr=>hr
 |.cons (.sl _ _) _,_,_,hf,_=>by grind [aP.flat]
 |.cons (.int _) r,I,(x,y),hf,hr=>by
  obtain⟨v,a,C,O,K⟩:=hr;exact⟨v,a,C,O,dD.flat r a y hf K⟩
 |.cons .bool r,I,(x,y),hf,hr=>by
  obtain⟨v,a,C,O,K⟩:=hr;exact⟨v,a,C,O,dD.flat r a y hf K⟩
 |.cons .str r,I,(x,y),hf,hr=>by obtain⟨v,a,C,O,K⟩:=hr;exact⟨v,a,C,O,dD.flat r a y hf K⟩
theorem RQ.mono{α:Type}{h h':Array Obj}{S S':Nat->Prop}{size:Nat}{d a:List Value->α->Prop}{v:Value}{l:List α}
 (H:RQ h S size d v l) (j:∀b,S b->S' b/\h'[b]? =h[b]?) (hr:∀I x,d I x->a I x):RQ h' S' size a v l:=by
 obtain⟨W,H⟩:=H;refine⟨W,?_⟩
 grind
mutual
theorem iL.mono{h h':Array Obj}{S S':Nat->Prop}(j:∀b,S b->S' b/\h'[b]? =h[b]?):
 ∀(c:CT)(v:Value)(x:c.den),iL h S c v x->iL h' S' c v x
 |.int k,v,(n:Int),H=>by simpa[iL]using H
 |.bool,v,(b:Bool),H=>by simpa[iL]using H
 |.str,v,(s:Bytes),H=>by simpa[iL]using H
 |.sl _ r,v,(l:List r.den),H=>by rw[iL]at H ⊢;exact H.mono j (λI x Z=>dD.mono j r I x Z)
theorem dD.mono{h h':Array Obj}{S S':Nat->Prop}(j:∀b,S b->S' b/\h'[b]? =h[b]?):
 ∀(r:aP)(I:List Value)(x:r.den),dD h S r I x->dD h' S' r I x
 |.nil,I,_,H=>by simpa[dD]using H
 |.cons c r,I,(x,y),H=>by rw[dD]at H ⊢;obtain⟨v,a,e,C,O⟩:=H;exact⟨v,a,e,iL.mono j c v x C,dD.mono j r a y O⟩
end
theorem dD.length{h:Array Obj}{S:Nat->Prop}:∀(r:aP)(I:List Value)(x:r.den),dD h S r I x->I.length=r.len
 |.nil,I,_,H=>by grind [dD,aP.len]
 |.cons c r,I,(x,y),H=>by obtain⟨v,a,rfl,_,O⟩:=H;simp[aP.len,dD.length r a y O]
end Go.Fw
namespace Go.Fw
open Go
inductive Cell where
 |int (k:IntKind) (n:Int)
 |bool (b:Bool)
 |str (s:Bytes)
 |nil
 |sl (e:TypeId) (r:aP) (l:List r.den) (fr:Bool)
 |ref (o:Nat)
 |junk
inductive SV where
 |one (c:Cell)
 |agg (cs:List Cell)
def SV.cells:SV->List Cell
 |.one c=>[c]
 |.agg cs=>cs
inductive AV where
 |undef
 |sv (v:SV)
 |tJ (vs:List SV)
 |aZ (o off:Nat)
 |uG (o:Nat) (i:Nat) (off:Nat)
 |win (o:Nat) (lo:Nat) (n:Nat)
 |xH (r:aP) (x:r.den) (off:Nat) (fr:Bool)
 |cO (cs:List Cell) (off:Nat)
 |fn (f:FuncId) (caps:List (List Cell))
inductive bD where
 |var (cs:List Cell)
 |arr (e:TypeId) (r:aP) (l:List r.den) (fr:Bool)
structure St where
 n:Nat
 tmps:Nat->AV
 ak:Nat->Option bD
def St.set(st:St)(d:Nat)(v:AV):St:={st with tmps:=λt=>match Nat.beq t d with|true=>v|false=>st.tmps t}
def St.put(st:St)(d:Option Nat)(v:AV):St:=match d with|some d=>st.set d v|none=>st
def St.add(st:St)(o:Nat)(x:bD):St:={st with ak:=λi=>match Nat.beq i o with|true=>some x|false=>st.ak i}
def St.adds(st:St):List (Nat×bD)->St
 |[]=>st
 |(o,x)::r=>(st.add o x).adds r
def Cell.kill(S:Nat->Bool):Cell->Cell
 |.ref o=>match S o with|true=>.junk|false=>.ref o
 |c=>c
def SV.kill(S:Nat->Bool):SV->SV
 |.one c=>.one (c.kill S)
 |.agg cs=>.agg (cs.map (Cell.kill S))
def AV.kill(S:Nat->Bool):AV->AV
 |.undef=>.undef
 |.sv v=>.sv (v.kill S)
 |.tJ vs=>.tJ (vs.map (SV.kill S))
 |.aZ o off=>match S o with|true=>.undef|false=>.aZ o off
 |.uG o i off=>match S o with|true=>.undef|false=>.uG o i off
 |.win o i off=>match S o with|true=>.undef|false=>.win o i off
 |.xH r x off fr=>.xH r x off fr
 |.cO cs off=>.cO (cs.map (Cell.kill S)) off
 |.fn f caps=>.fn f (caps.map (List.map (Cell.kill S)))
def bD.kill(S:Nat->Bool):bD->bD
 |.var cs=>.var (cs.map (Cell.kill S))
 |.arr e r l fr=>.arr e r l fr
def St.kill(st:St)(S:Nat->Bool):St:=
 {n:=st.n,tmps:=λt=>(st.tmps t).kill S,ak:=λo=>match S o with|true=>none|false=>(st.ak o).map (bD.kill S)}
def Cell.freeze(st:St)(S:Nat->Bool):Cell->Cell
 |.ref o=>match S o with
  |true=>match st.ak o with
   |some (.arr e r l fr)=>.sl e r l fr
   |_=>.junk
  |false=>.ref o
 |c=>c
def SV.freeze(st:St)(S:Nat->Bool):SV->SV
 |.one c=>.one (c.freeze st S)
 |.agg cs=>.agg (cs.map (Cell.freeze st S))
def AV.freeze(st:St)(S:Nat->Bool):AV->AV
 |.undef=>.undef
 |.sv v=>.sv (v.freeze st S)
 |.tJ vs=>.tJ (vs.map (SV.freeze st S))
 |.aZ o off=>match S o with|true=>.undef|false=>.aZ o off
 |.uG o i off=>match S o with|true=>.undef|false=>.uG o i off
 |.win o i off=>match S o with|true=>.undef|false=>.win o i off
 |.xH r x off fr=>.xH r x off fr
 |.cO cs off=>.cO (cs.map (Cell.freeze st S)) off
 |.fn f caps=>.fn f (caps.map (List.map (Cell.freeze st S)))
def bD.freeze(st:St)(S:Nat->Bool):bD->bD
 |.var cs=>.var (cs.map (Cell.freeze st S))
 |.arr e r l fr=>.arr e r l fr
def St.freeze(st:St)(S:Nat->Bool):St:=
 {n:=st.n,tmps:=λt=>(st.tmps t).freeze st S,ak:=λo=>match S o with|true=>none|false=>(st.ak o).map (bD.freeze st S)}
inductive TK where
 |scalar
 |str
 |slice (e:TypeId)
 |struct (fs:List (Nat×TypeId))
structure TI where
 kind:TK
 cells:aP
 bytes:Nat
 cmp:Bool
def TI.agg(a:TI):Bool:=match a.kind with|.struct _=>true|_=>false
abbrev mD:=TypeId->Option TI
def CT.zero:CT->Cell
 |.int k=>.int k 0
 |.bool=>.bool false
 |.str=>.str []
 |.sl _ _=>.nil
def aP.zeros:aP->List Cell
 |.nil=>[]
 |.cons c r=>c.zero::r.zeros
def Cc{r s:aP}(h:r.beq s=true)(l:List r.den):List s.den:=aP.eq_of_beq r s h▸l
def Cell.get(st:St):(c:CT)->Cell->Option c.den
 |.int k,.int l n=>match decide (k=l)with|true=>some n|false=>none
 |.bool,.bool b=>some b
 |.str,.str s=>some s
 |.sl _ _,.nil=>some []
 |.sl _ r,.sl _ s l _=>if h:s.beq r=true then some (Cc h l)else none
 |.sl _ r,.ref o=>match st.ak o with
  |some (.arr _ s l _)=>if h:s.beq r=true then some (Cc h l)else none
  |_=>none
 |_,_=>none
def Jy(st:St):(r:aP)->List Cell->Option r.den
 |.nil,[]=>some ()
 |.cons c r,x::xs=>match x.get st c,Jy st r xs with
  |some a,some b=>some (a,b)
  |_,_=>none
 |_,_=>none
def Cell.fresh(st:St):Cell->Bool
 |.sl _ _ _ fr=>fr
 |.ref o=>match st.ak o with|some (.arr _ _ _ fr)=>fr|_=>false
 |.junk=>false
 |_=>true
def Cell.EI(r:aP)(st:St)(y:Cell):Bool:=match r.flat with
 |true=>true
 |false=>y.fresh st
def CT.cell(fr:Bool):(c:CT)->c.den->Cell
 |.int k,(n:Int)=>.int k n
 |.bool,(b:Bool)=>.bool b
 |.str,(s:Bytes)=>.str s
 |.sl e r,(l:List r.den)=>.sl e r l fr
def aP.row(fr:Bool):(r:aP)->r.den->List Cell
 |.nil,_=>[]
 |.cons c r,x=>c.cell fr x.1::aP.row fr r x.2
def aud:Value->AV
 |.int k n=>match decide (k.min<=n)&&decide (n<=k.max)with|true=>.sv (.one (.int k n))|false=>.undef
 |.bool b=>.sv (.one (.bool b))
 |.string s=>match decide (s.data.toList.length<=maxLen)with|true=>.sv (.one (.str s.data.toList))|false=>.undef
 |.slice none 0 0=>.sv (.one .nil)
 |_=>.undef
def St.ev(st:St):Operand->AV
 |.tmp t=>st.tmps t
 |.const v=>aud v
 |.func f=>.fn f []
 |.global _=>.undef
def big:Nat:=4294967296
inductive jg where
 |plain (x:Cell)
 |own (e:TypeId) (r:aP) (l:List r.den) (fr:Bool)
structure Out where
 aDp:List (Bool×List jg)
 var:Option (List Cell)
def Cell.made:Cell->Bool
 |.sl _ _ _ fr=>fr
 |.ref _=>false
 |_=>true
def jg.made:jg->Bool
 |.plain c=>c.made
 |.own _ _ _ fr=>fr
def Out.made(o:Out):Bool:=match o.var with
 |some cs=>cs.all Cell.made
 |none=>o.aDp.all λx=>x.2.all jg.made
inductive Arg where
 |sv (v:SV)
 |kp (cs:List Cell)
 |fn (f:FuncId) (caps:List (List Cell))
 |own (e:TypeId) (r:aP) (l:List r.den)
 |ptr (cs:List Cell)
abbrev VS:=List Arg->Option (Prop×Out)
inductive Mode where
 |val
 |own
 |ptr
inductive Eff where
 |lose
 |arr (e:TypeId) (r:aP) (l:List r.den)
 |var (cs:List Cell)
structure YI where
 T:Type
 R:T->Prop
 out:T->Out
 bP:T->List Eff
abbrev Ii:=List Arg->Option (Prop×YI)
inductive Qg where
 |pure (c:VS)
 |eff (ms:List Mode) (c:Ii)
abbrev nI:=FuncId->Option Qg
def Cell.view(st:St):Cell->Cell
 |.ref o=>match st.ak o with
  |some (.arr e r l _)=>.sl e r l false
  |_=>.junk
 |.sl e r l _=>.sl e r l false
 |c=>c
def SV.view(st:St):SV->SV
 |.one c=>.one (c.view st)
 |.agg cs=>.agg (cs.map (Cell.view st))
def Cell.ok(st:St):Cell->Bool
 |.ref o=>match st.ak o with
  |some (.arr _ _ _ _)=>true
  |_=>false
 |_=>true
def wI(st:St):List AV->Option (List Arg)
 |[]=>some []
 |x::r=>match x,wI st r with
  |.sv v,some vs=>match v.cells.all (Cell.ok st)with
   |true=>some (.sv (v.view st)::vs)
   |false=>none
  |.cO cs off,some vs=>match Nat.beq off 0&&cs.all (Cell.ok st)with
   |true=>some (.kp (cs.map (Cell.view st))::vs)
   |false=>none
  |.fn f caps,some vs=>match caps.all (List.all · (Cell.ok st))with
   |true=>some (.fn f (caps.map (List.map (Cell.view st)))::vs)
   |false=>none
  |_,_=>none
def handed(st:St)(q:List Operand)(a:List (List Cell)):List AV:=q.map st.ev++a.map λA=>.cO A 0
def heldBy(st:St):List Operand->Option (List (List Cell))
 |[]=>some []
 |x::r=>match st.ev x,heldBy st r with
  |.cO A off,some l=>match Nat.beq off 0 with
   |true=>some (A::l)
   |false=>none
  |_,_=>none
def jg.take(k:Nat):jg->Cell×List (Nat×bD)
 |.plain c=>(c,[])
 |.own e r l fr=>(.ref k,[(k,.arr e r l fr)])
def qK(k:Nat):List jg->List Cell×List (Nat×bD)
 |[]=>([],[])
 |x::r=>((x.take k).1::(qK (k+1) r).1,(x.take k).2++(qK (k+1) r).2)
def Ea(k:Nat)(x:Bool×List jg):SV×List (Nat×bD):=
 match x.1,qK k x.2 with
 |true,(cs,δ)=>(.agg cs,δ)
 |false,([c],δ)=>(.one c,δ)
 |false,(_,δ)=>(.one .junk,δ)
def lN(k:Nat):List (Bool×List jg)->List SV×List (Nat×bD)
 |[]=>([],[])
 |x::r=>((Ea k x).1::(lN (k+x.2.length) r).1,(Ea k x).2++(lN (k+x.2.length) r).2)
def Out.take(k:Nat)(o:Out):AV×List (Nat×bD):=
 match o.var with
 |some cs=>(.aZ (k-1) 0,[(k-1,.var cs)])
 |none=>match lN k o.aDp with
  |([v],δ)=>(.sv v,δ)
  |(vs,δ)=>(.tJ vs,δ)
def bitsOf(op:BinOp)(k:IntKind)(x y:Int):Int:=
 let a:=BitVec.ofInt k.bits x
 let b:=BitVec.ofInt k.bits y
 match op with
 |.and=>k.wrap (a&&&b).toNat
 |.or=>k.wrap (a|||b).toNat
 |.xor=>k.wrap (a ^^^ b).toNat
 |_=>k.wrap (a&&&~~~b).toNat
def ack(op:BinOp)(k:IntKind)(x y:Int):Option (Prop×Cell):=
 match op with
 |.add=>some (True,.int k (k.wrap (x+y)))
 |.sub=>some (True,.int k (k.wrap (x-y)))
 |.mul=>some (True,.int k (k.wrap (x*y)))
 |.quo=>some (y≠0,.int k (k.wrap (x.tdiv y)))
 |.rem=>some (y≠0,.int k (x.tmod y))
 |.and|.or|.xor|.andNot=>some (True,.int k (bitsOf op k x y))
 |.eql=>some (True,.bool (x==y))
 |.neq=>some (True,.bool (x !=y))
 |.lss=>some (True,.bool (decide (x<y)))
 |.leq=>some (True,.bool (decide (x<=y)))
 |.gtr=>some (True,.bool (decide (x>y)))
 |.geq=>some (True,.bool (decide (x>=y)))
 |_=>none
def ahV(op:BinOp)(x y:Bytes):Option (Prop×Cell):=
 match op with
 |.add=>some (x.length+y.length<=maxLen,.str (x++y))
 |.eql=>some (True,.bool (x==y))
 |.neq=>some (True,.bool (!(x==y)))
 |.lss=>some (True,.bool (Op.bytesLess x y))
 |.leq=>some (True,.bool (Op.bytesLess x y||x==y))
 |.gtr=>some (True,.bool (!(Op.bytesLess x y||x==y)))
 |.geq=>some (True,.bool (!(Op.bytesLess x y)))
 |_=>none
def ahW:Cell->Cell->Option Bool
 |.int k a,.int l b=>match decide (k=l)with|true=>some (a==b)|false=>none
 |.bool a,.bool b=>some (a==b)
 |.str a,.str b=>some (a==b)
 |_,_=>none
def CT.fits:CT->Cell->Bool
 |.int k,.int l _=>decide (k=l)
 |.bool,.bool _=>true
 |.str,.str _=>true
 |_,_=>false
def aP.fits:aP->List Cell->Bool
 |.nil,[]=>true
 |.cons c r,x::xs=>c.fits x&&r.fits xs
 |_,_=>false
def pI:List Cell->List Cell->Option Bool
 |[],[]=>some true
 |x::xs,y::ys=>match ahW x y,pI xs ys with
  |some a,some b=>some (a&&b)
  |_,_=>none
 |_,_=>none
def acn(op:BinOp)(x y:Cell):Option (Prop×Cell):=
 match x,y with
 |.int k a,.int l b=>
  match op with
  |.shl=>some (0<=b,.int k (k.wrap (a*2 ^ (min b.toNat k.bits))))
  |.shr=>some (0<=b,.int k (a.fdiv (2 ^ (min b.toNat k.bits))))
  |_=>match decide (k=l)with|true=>ack op k a b|false=>none
 |.str a,.str b=>ahV op a b
 |.bool a,.bool b=>match op with
  |.eql=>some (True,.bool (a==b))
  |.neq=>some (True,.bool (!(a==b)))
  |_=>none
 |_,_=>none
def splice(q:List Cell)(m:Nat)(ys:List Cell):List Cell:=q.take m++ys++q.drop (m+ys.length)
def Cell.isRef:Cell->Bool|.ref _=>true|_=>false
def Cell.refs:Cell->List Nat|.ref o=>[o]|_=>[]
variable (Θ:mD) (Γ:nI)
def UK(st:St)(fs:List (Nat×TypeId)):List (Nat×Operand)->List Cell->Option (List Cell)
 |[],cs=>some cs
 |(i,x)::r,cs=>match fs[i]?,st.ev x with
  |some (off,t),.sv v=>match Θ t with
   |some ti=>match Nat.beq v.cells.length ti.cells.len&&Nat.ble (off+ti.cells.len) cs.length with
    |true=>UK st fs r (splice cs off v.cells)
    |false=>none
   |none=>none
  |_,_=>none
def OO(st:St)(r:aP):Nat->List (Nat×Operand)->Option (List r.den)
 |_,[]=>some []
 |k,(i,x)::p=>match Nat.beq i k,st.ev x,OO st r (k+1) p with
  |true,.sv v,some l=>match Jy st r v.cells with
   |some a=>some (a::l)
   |none=>none
  |_,_,_=>none
def tY(st:St):List (Nat×Operand)->Bool
 |[]=>true
 |(_,x)::p=>(match st.ev x with|.sv v=>v.cells.all (Cell.fresh st)|_=>false)&&tY st p
def su(st:St):List (Nat×Operand)->List Nat
 |[]=>[]
 |(_,x)::p=>(match st.ev x with|.sv v=>v.cells.flatMap Cell.refs|_=>[])++su st p
def CU:AV->Option Int
 |.sv (.one (.int _ n))=>some n
 |_=>none
def sD(st:St)(len:Nat)(d D:Option Operand):Option (Prop×Nat×Nat):=
 match d,D with
 |none,none=>some (True,0,len)
 |some l,none=>match CU (st.ev l)with
  |some a=>some (0<=a/\a<=len,a.toNat,len)
  |none=>none
 |none,some h=>match CU (st.ev h)with
  |some b=>some (0<=b/\b<=len,0,b.toNat)
  |none=>none
 |some l,some h=>match CU (st.ev l),CU (st.ev h)with
  |some a,some b=>some (0<=a/\a<=b/\b<=len,a.toNat,b.toNat)
  |_,_=>none
def ahX(st:St)(n room:Nat)(a D:Option Operand):Option (Prop×Nat×Nat):=match D with
 |none=>sD st n a none
 |some h=>sD st room a (some h)
def aue(x:(aP.cons (.int .u8) .nil).den):Int:=x.1
def byteRow(l:List (aP.cons (.int .u8) .nil).den):Bytes:=l.map λx=>UInt8.ofNat (aue x).toNat
def OQ(s:Bytes):List (aP.cons (.int .u8) .nil).den:=s.map λb=>((b.toNat:Int),())
def qQ(a:TI)(A:List Cell)(m:Nat):Option SV:=
 match a.agg with
 |true=>match Nat.ble (m+a.cells.len) A.length with
  |true=>some (.agg ((A.drop m).take a.cells.len))
  |false=>none
 |false=>match A[m]? with
  |some c=>some (.one c)
  |none=>none
def aCy(t:TypeId):Cell->Bool
 |.bool _=>match Θ t with
  |some ti=>match ti.cells with
   |.cons .bool .nil=>ti.agg==false
   |_=>false
  |none=>false
 |_=>true
def AV.refs:AV->List Nat
 |.sv v=>v.cells.flatMap Cell.refs
 |.cO A _=>A.flatMap Cell.refs
 |.fn _ caps=>caps.flatMap λA=>A.flatMap Cell.refs
 |_=>[]
def Eb:List AV->List Nat
 |[]=>[]
 |x::r=>x.refs++Eb r
def RS(q:List AV):Bool:=match Eb q with|[]=>true|_::_=>false
def calm(d:Nat)(st:St):Op->Option (Prop×AV×List (Nat×bD))
 |.move x|.assign x=>some (True,st.ev x,[])
 |.nilCheck x=>match st.ev x with
  |.aZ o off=>some (True,.aZ o off,[])
  |.uG o i off=>some (True,.uG o i off,[])
  |.xH r x off fr=>some (True,.xH r x off fr,[])
  |.cO cs off=>some (True,.cO cs off,[])
  |.fn f caps=>some (True,.fn f caps,[])
  |_=>none
 |.makeFunc (.func f) first captured=>match first.toList,heldBy st captured.toList with
  |[],some l=>some (True,.fn f l,[])
  |_,_=>none
 |.pick c a b=>match st.ev c with
  |.sv (.one (.bool g))=>some (True,match g with|true=>st.ev a|false=>st.ev b,[])
  |_=>none
 |.alloc t=>match Θ t with
  |some ti=>some (True,.aZ (d*64) 0,[(d*64,.var ti.cells.zeros)])
  |none=>none
 |.box _ x=>match st.ev x with
  |.sv v=>some (True,.aZ (d*64) 0,[(d*64,.var v.cells)])
  |_=>none
 |.build t parts=>match Θ t with
  |some ti=>match ti.kind with
   |.struct fs=>match UK Θ st fs parts.toList ti.cells.zeros with
    |some cs=>some (True,.sv (.agg cs),[])
    |none=>none
   |_=>none
  |none=>none
 |.buildSlice t len parts=>match Θ t with
  |some ti=>match ti.kind with
   |.slice e=>match Θ e with
    |some te=>match Nat.beq len parts.size&&Nat.ble 1 te.cells.len&&Nat.ble (len*te.cells.len) 16777216,su st parts.toList,OO st te.cells 0 parts.toList with
     |true,[],some l=>some (True,.sv (.one (.ref (d*64+1))),[(d*64+1,.arr e te.cells l (tY st parts.toList))])
     |_,_,_=>none
    |none=>none
   |_=>none
  |none=>none
 |.makeSlice t x y=>match Θ t,CU (st.ev x),CU (st.ev y)with
  |some ti,some n,some c=>match ti.kind with
   |.slice e=>match Θ e with
    |some te=>match Nat.ble 1 te.cells.len with
     |true=>some (0<=n/\n<=c/\c<=(big:Int),.sv (.one (.ref (d*64+1))),[(d*64+1,.arr e te.cells (List.replicate n.toNat te.cells.dflt) true)])
     |false=>none
    |none=>none
   |_=>none
  |_,_,_=>none
 |.load t p=>match Θ t,st.ev p with
  |some ti,.aZ o off=>match st.ak o with
   |some (.var cs)=>match qQ ti cs off with
    |some v=>some (True,.sv v,[])
    |none=>none
   |_=>none
  |some ti,.uG o i off=>match st.ak o with
   |some (.arr _ r l fr)=>match qQ ti (aP.row fr r (l.getD i r.dflt)) off with
    |some v=>some (i<l.length,.sv v,[])
    |none=>none
   |_=>none
  |some ti,.xH r x off fr=>match qQ ti (aP.row fr r x) off with
   |some v=>some (True,.sv v,[])
   |none=>none
  |some ti,.cO cs off=>match qQ ti cs off with
   |some v=>some (True,.sv v,[])
   |none=>none
  |_,_=>none
 |.fieldAddr s p f=>match Θ s with
  |some ti=>match ti.kind with
   |.struct fs=>match fs[f]? with
    |some (k,t)=>match Θ t with
     |some te=>match te.cells,st.ev p with
      |.nil,_=>none
      |_,.aZ o off=>some (True,.aZ o (off+k),[])
      |_,.uG o i off=>some (True,.uG o i (off+k),[])
      |_,.xH r x off fr=>some (True,.xH r x (off+k) fr,[])
      |_,.cO cs off=>some (True,.cO cs (off+k),[])
      |_,_=>none
     |none=>none
    |none=>none
   |_=>none
  |none=>none
 |.field s x f=>match Θ s with
  |some ti=>match ti.kind with
   |.struct fs=>match fs[f]?,st.ev x with
    |some (k,t),.sv (.agg cs)=>match Θ t with
     |some te=>match qQ te cs k with
      |some v=>some (True,.sv v,[])
      |none=>none
     |none=>none
    |_,_=>none
   |_=>none
  |none=>none
 |.indexAddr t x ix=>match Θ t,CU (st.ev ix)with
  |some ti,some n=>match ti.kind with
   |.slice e=>match Θ e,st.ev x with
    |some te,.sv (.one (.sl _ r l fr))=>match te.cells.beq r with
     |true=>some (0<=n/\n<l.length,.xH r (l.getD n.toNat r.dflt) 0 fr,[])
     |false=>none
    |some te,.sv (.one (.ref o))=>match st.ak o with
     |some (.arr _ r l _)=>match te.cells.beq r with
      |true=>some (0<=n/\n<l.length,.uG o n.toNat 0,[])
      |false=>none
     |_=>none
    |some _,.sv (.one .nil)=>some (False,.undef,[])
    |_,_=>none
   |_=>none
  |_,_=>none
 |.index t x ix=>match Θ t,CU (st.ev ix),st.ev x with
  |some ti,some n,.sv (.one (.str s))=>match ti.kind with
   |.str=>some (0<=n/\n<s.length,.sv (.one (.int .u8 ((s.getD n.toNat 0).toNat:Int))),[])
   |_=>none
  |_,_,_=>none
 |.binOp op t x y _=>match st.ev x,st.ev y with
  |.sv (.one a),.sv (.one b)=>match aCy Θ t a with
   |true=>match acn op a b with
    |some (p,c)=>some (p,.sv (.one c),[])
    |none=>none
   |false=>none
  |.sv (.agg a),.sv (.agg b)=>match Θ t with
   |some ti=>match ti.cmp,pI a b,op with
    |true,some g,.eql=>match ti.cells.fits a with
     |true=>some (True,.sv (.one (.bool g)),[])
     |false=>none
    |true,some g,.neq=>match ti.cells.fits a with
     |true=>some (True,.sv (.one (.bool (!g))),[])
     |false=>none
    |_,_,_=>none
   |none=>none
  |_,_=>none
 |.unOp op _ x=>match op,st.ev x with
  |.not,.sv (.one (.bool b))=>some (True,.sv (.one (.bool (!b))),[])
  |.neg,.sv (.one (.int k n))=>some (True,.sv (.one (.int k (k.wrap (0-n)))),[])
  |_,_=>none
 |.convert src dst x=>match Θ src,Θ dst,st.ev x with
  |some ts,some td,.sv (.one c)=>if ts.agg||td.agg then none else match ts.cells,td.cells,c with
   |.cons (.int _) .nil,.cons (.int k) .nil,.int _ n=>some (True,.sv (.one (.int k (k.wrap n))),[])
   |.cons .str .nil,.cons .str .nil,.str s=>some (True,.sv (.one (.str s)),[])
   |.cons .str .nil,.cons (.sl e (.cons (.int .u8) .nil)) .nil,.str s=>match Θ e with
    |some te=>match te.cells,te.agg with
     |.cons (.int .u8) .nil,false=>some (True,.sv (.one (.sl e (.cons (.int .u8) .nil) (OQ s) true)),[])
     |_,_=>none
    |none=>none
   |.cons (.sl e (.cons (.int .u8) .nil)) .nil,.cons .str .nil,c=>match c.get st (.sl e (.cons (.int .u8) .nil)),Θ e with
    |some l,some te=>match te.cells,te.agg with
     |.cons (.int .u8) .nil,false=>some (True,.sv (.one (.str (byteRow l))),[])
     |_,_=>none
    |_,_=>none
   |_,_,_=>none
  |_,_,_=>none
 |.extract x ix=>match st.ev x with
  |.tJ vs=>match vs[ix]? with
   |some v=>some (True,.sv v,[])
   |none=>none
  |_=>none
 |.slice t x lo hi none=>match Θ t,st.ev x with
  |some ti,.sv (.one (.str s))=>match ti.kind,sD st s.length lo hi with
   |.str,some (p,a,b)=>some (p,.sv (.one (.str ((s.take b).drop a))),[])
   |_,_=>none
  |some ti,.sv (.one (.sl e r l fr))=>match ti.kind,sD st l.length lo hi with
   |.slice f,some (p,a,b)=>match Θ f with
    |some te=>match te.cells.beq r with
     |true=>some (p,.sv (.one (.sl e r ((l.take b).drop a) fr)),[])
     |false=>none
    |none=>none
   |_,_=>none
  |some ti,.sv (.one .nil)=>match ti.kind,sD st 0 lo hi with
   |.slice f,some (p,_,_)=>match Θ f with
    |some _=>some (p,.sv (.one .nil),[])
    |none=>none
   |_,_=>none
  |some ti,.win o QN n0=>match ti.kind,st.ak o with
   |.slice f,some (.arr _ r l _)=>match Θ f,ahX st n0 (l.length-QN) lo hi with
    |some te,some (p,a,b)=>match te.cells.beq r with
     |true=>some (p,.win o (QN+a) (b-a),[])
     |false=>none
    |_,_=>none
   |_,_=>none
  |_,_=>none
 |.slice t x (some lo) (some hi) (some mx)=>match Θ t,st.ev x with
  |some ti,.sv (.one (.ref o))=>match ti.kind,st.ak o with
   |.slice f,some (.arr _ _ l _)=>match Θ f,CU (st.ev lo),CU (st.ev hi),CU (st.ev mx)with
    |some _,some a,some b,some c=>some (0<=a/\a<=b/\b<=c/\c<=l.length,.undef,[])
    |_,_,_,_=>none
   |_,_=>none
  |_,_=>none
 |.call {callee:=.builtin .len,args,argTypes}=>match args.toList,argTypes.toList with
  |[x],[t]=>match Θ t,st.ev x with
   |some ti,.sv (.one c)=>match ti.kind,c with
    |.str,.str s=>some (True,.sv (.one (.int .i64 s.length)),[])
    |.slice _,.sl _ _ l _=>some (True,.sv (.one (.int .i64 l.length)),[])
    |.slice _,.nil=>some (True,.sv (.one (.int .i64 0)),[])
    |.slice _,.ref o=>match st.ak o with
     |some (.arr _ _ l _)=>some (True,.sv (.one (.int .i64 l.length)),[])
     |_=>none
    |_,_=>none
   |some ti,.win _ _ n=>match ti.kind with
    |.slice _=>some (True,.sv (.one (.int .i64 n)),[])
    |_=>none
   |_,_=>none
  |_,_=>none
 |.call {callee:=.builtin .min,args,.. }=>match args.toList with
  |[x,y]=>match st.ev x,st.ev y with
   |.sv (.one (.int k a)),.sv (.one (.int l b))=>match decide (k=l)with
    |true=>some (True,.sv (.one (.int k (if b<a then b else a))),[])
    |false=>none
   |_,_=>none
  |_=>none
 |.call {callee:=.builtin .max,args,.. }=>match args.toList with
  |[x,y]=>match st.ev x,st.ev y with
   |.sv (.one (.int k a)),.sv (.one (.int l b))=>match decide (k=l)with
    |true=>some (True,.sv (.one (.int k (if b>a then b else a))),[])
    |false=>none
   |_,_=>none
  |_=>none
 |.call {callee:=.value x,args,.. }=>match st.ev x with
  |.fn f caps=>match Γ f,wI st (handed st args.toList caps)with
   |some (.pure con),some vs=>match con vs with
    |some (p,out)=>match out.made||RS (handed st args.toList caps)with
     |true=>some (p,(out.take (d*64+1)).1,(out.take (d*64+1)).2)
     |false=>none
    |none=>none
   |_,_=>none
  |_=>none
 |_=>none
def ayX(st:St)(q:List Operand)(a:List (List Cell))(o:Nat):Bool:=(Eb (handed st q a)).contains o
def aDq(st:St)(q:List Operand)(a:List (List Cell)):St:=st.freeze (ayX st q a)
def aJi(st:St)(q:List Operand)(a:List (List Cell)):List AV:=(handed st q a).map (AV.freeze st (ayX st q a))
def OT:List Mode->List AV->List AV
 |_,[]=>[]
 |[],xs=>xs
 |.val::ms,x::xs=>x::OT ms xs
 |_::ms,_::xs=>OT ms xs
def akJ(st:St)(b:List Mode)(q:List Operand)(a:List (List Cell))(o:Nat):Bool:=(Eb (OT b (handed st q a))).contains o
def YJ(st:St)(b:List Mode)(q:List Operand)(a:List (List Cell)):St:=st.freeze (akJ st b q a)
def aFd(st:St)(b:List Mode)(q:List Operand)(a:List (List Cell)):List AV:=(handed st q a).map (AV.freeze st (akJ st b q a))
def Ac(st:St)(m:Mode)(x:AV):Option (Arg×Option Nat):=
 match m with
 |.val=>match x.refs,wI st [x]with
  |[],some [a]=>some (a,none)
  |_,_=>none
 |.own=>match x with
  |.sv (.one (.ref o))=>match st.ak o with
   |some (.arr e r l _)=>some (.own e r l,some o)
   |_=>none
  |_=>none
 |.ptr=>match x with
  |.aZ o off=>match Nat.beq off 0,st.ak o with
   |true,some (.var cs)=>match cs.flatMap Cell.refs with
    |[]=>some (.ptr (cs.map (Cell.view st)),some o)
    |_=>none
   |_,_=>none
  |_=>none
def hands(st:St):List Mode->List AV->Option (List Arg×List (Option Nat))
 |_,[]=>some ([],[])
 |ms,x::xs=>match Ac st (ms.headD .val) x,hands st ms.tail xs with
  |some (a,o),some (as,os)=>some (a::as,o::os)
  |_,_=>none
def ahY(o:Nat):List (Option Nat)->Bool
 |[]=>false
 |some p::r=>match Nat.beq o p with|true=>true|false=>ahY o r
 |none::r=>ahY o r
def GU:List (Option Nat)->Bool
 |[]=>true
 |some p::r=>!(ahY p r)&&GU r
 |none::r=>GU r
def uH(a:List Eff)(p:Nat):Option bD:=
 match a[p / 64]? with
 |some (.arr e r l)=>match Nat.beq (p%64) 49 with|true=>some (.arr e r l false)|false=>none
 |some (.var cs)=>match Nat.beq (p%64) 48 with|true=>some (.var cs)|false=>none
 |_=>none
def VT(a:List Eff)(δ:List (Nat×bD)):Bool:=δ.all λy=>(uH a y.1).isNone
def vN(st:St):List (Option Nat)->List Eff->Option (List (Nat×bD))
 |[],_=>some []
 |none::os,bP=>vN st os bP.tail
 |some o::os,bP=>match bP.head?,st.ak o,vN st os bP.tail with
  |some .lose,_,some δ=>some δ
  |some (.arr e r l),some (.arr f s _ _),some δ=>match Nat.beq e f&&r.beq s with
   |true=>some ((o,.arr e r l false)::δ)
   |false=>none
  |some (.var cs),some (.var _),some δ=>match cs.flatMap Cell.refs with
   |[]=>some ((o,.var cs)::δ)
   |_=>none
  |_,_,_=>none
def mJ:List (Option Nat)->List Eff->Nat->Bool
 |[],_,_=>false
 |none::os,bP,p=>mJ os bP.tail p
 |some o::os,bP,p=>match bP.head? with
  |some .lose=>match Nat.beq o p with|true=>true|false=>mJ os bP.tail p
  |_=>mJ os bP.tail p
def nR(st:St)(δ:List (Nat×bD)):Bool:=δ.all λy=>(st.ak y.1).isNone
def kE{α:Type}(l:List α)(a:Nat)(s:List α):List α:=l.take a++s++l.drop (a+s.length)
def ahZ(Θ:mD)(st:St)(i:TI)(o g d h a b:Nat):Option (Prop×AV×St):=match Nat.beq g 0&&Nat.beq o h,i.kind,st.ak o with
 |true,.slice e,some (.arr f r l fr)=>match Θ e with
  |some te=>match te.cells.beq r&&Nat.beq e f with
   |true=>some (d+b<=l.length/\a+b<=l.length,.win o 0 (d+b),st.add o (.arr f r (kE l d ((l.drop a).take b)) fr))
   |false=>none
  |none=>none
 |_,_,_=>none
def an1(Θ:mD)(st:St)(b:TI)(o a n:Nat):Option (Prop×AV×St):=match b.kind,st.ak o with
 |.slice e,some (.arr f r l fr)=>match Θ e with
  |some te=>match te.cells.beq r&&Nat.beq e f with
   |true=>some (a+n<=l.length,.tJ [],st.add o (.arr f r (kE l a (List.replicate n r.dflt)) fr))
   |false=>none
  |none=>none
 |_,_=>none
def store(st:St)(p:AV)(v:SV):Option (Prop×St):=
 match p with
 |.aZ o off=>match st.ak o with
  |some (.var cs)=>match Nat.ble (off+v.cells.length) cs.length with
   |true=>some (True,st.add o (.var (splice cs off v.cells)))
   |false=>none
  |_=>none
 |.uG o i off=>match v.cells.flatMap Cell.refs,st.ak o with
  |[],some (.arr e r l fr)=>match Jy st r (splice (aP.row fr r (l.getD i r.dflt)) off v.cells),Nat.ble (off+v.cells.length) r.len with
   |some x,true=>some (i<l.length,st.add o (.arr e r (l.set i x) (fr&&v.cells.all (Cell.fresh st))))
   |_,_=>none
  |_,_=>none
 |_=>none
def LU(p:AV)(v:SV)(o:Nat):Bool:=match p with|.uG _ _ _=>(v.cells.flatMap Cell.refs).contains o|_=>false
def eff(d:Nat)(st:St):Op->Option (Prop×AV×St)
 |.store t p x=>match st.ev x,Θ t with
  |.sv v,some ti=>match Nat.beq v.cells.length ti.cells.len with
   |true=>match store (st.freeze (LU (st.ev p) v)) ((st.ev p).freeze st (LU (st.ev p) v)) (v.freeze st (LU (st.ev p) v))with
    |some (q,s)=>some (q,.undef,s)
    |none=>none
   |false=>none
  |_,_=>none
 |.buildSlice t len parts=>
  match calm Θ Γ d (st.freeze ((su st parts.toList).contains ·)) (.buildSlice t len parts)with
  |some (p,v,δ)=>match nR (st.freeze ((su st parts.toList).contains ·)) δ with
   |true=>some (p,v,(st.freeze ((su st parts.toList).contains ·)).adds δ)
   |false=>none
  |none=>none
 |.slice t x lo hi none=>match Θ t,st.ev x with
  |some ti,.sv (.one (.ref o))=>match ti.kind,st.ak o with
   |.slice f,some (.arr e r l fr)=>match Θ f,sD st l.length lo hi with
    |some te,some (p,_,b)=>match te.cells.beq r with
     |true=>match lo with
      |none=>some (p,.sv (.one (.ref o)),(st.kill (Nat.beq o ·)).add o (.arr e r (l.take b) fr))
      |some l0=>match calm Θ Γ d (st.freeze (Nat.beq o ·)) (.slice t x (some l0) hi none)with
       |some (q,v,[])=>some (q,v,st.freeze (Nat.beq o ·))
       |_=>none
     |false=>none
    |_,_=>none
   |_,_=>none
  |_,_=>none
 |.call {callee:=.builtin .append,args,argTypes}=>match args.toList,argTypes.toList with
  |[s,x],[t,u]=>match Nat.beq t u,Θ t,st.ev s,st.ev x with
   |true,some ti,.sv (.one c),.sv (.one y)=>match ti.kind with
    |.slice e=>match Θ e with
     |some te=>match y.get st (.sl e te.cells),c with
      |some news,.ref o=>match st.ak o with
       |some (.arr f r l fr)=>if h:te.cells.beq r=true then
         match Nat.beq e f with
         |true=>some (l.length+news.length<=big,.sv (.one (.ref o)),(st.kill (Nat.beq o ·)).add o (.arr e r (l++Cc h news) (fr&&y.EI te.cells st)))
         |false=>none
        else none
       |_=>none
      |some news,.nil=>match Nat.ble 1 te.cells.len with
       |true=>some (news.length<=big,.sv (.one (.ref (d*64+1))),(st.kill (Nat.beq (d*64+1) ·)).add (d*64+1) (.arr e te.cells news (y.EI te.cells st)))
       |false=>none
      |_,_=>none
     |none=>none
    |_=>none
   |true,some ti,.win o QN n0,.win o2 lo2 n2=>ahZ Θ st ti o QN n0 o2 lo2 n2
   |_,_,_,_=>none
  |_,_=>none
 |.call {callee:=.builtin .clear,args,argTypes}=>match args.toList,argTypes.toList with
  |[x],[t]=>match Θ t,st.ev x with
   |some ti,.win o lo n=>an1 Θ st ti o lo n
   |_,_=>none
  |_,_=>none
 |.call {callee:=.value x,args,.. }=>
  match st.ev x with
  |.fn f caps=>
   match Γ f with
   |some (.pure con)=>match wI (aDq st args.toList caps) (aJi st args.toList caps),Eb (aJi st args.toList caps)with
    |some vs,[]=>match con vs with
     |some (p,out)=>match nR (aDq st args.toList caps) (out.take (d*64+1)).2 with
      |true=>some (p,(out.take (d*64+1)).1,(aDq st args.toList caps).adds (out.take (d*64+1)).2)
      |false=>none
     |none=>none
    |_,_=>none
   |_=>none
  |_=>none
 |_=>none
def aqd(st:St):Op->Option (Prop×YI×List (Option Nat)×St)
 |.call {callee:=.value x,args,.. }=>
  match st.ev x with
  |.fn f caps=>match Γ f with
   |some (.eff ms con)=>match hands (YJ st ms args.toList caps) ms (aFd st ms args.toList caps)with
    |some (vs,os)=>match con vs with
     |some (p,ρ)=>some (p,ρ,os,YJ st ms args.toList caps)
     |none=>none
    |none=>none
   |_=>none
  |_=>none
 |_=>none
def akK(d:Nat)(s0:St)(os:List (Option Nat))(out:Out)(a:List Eff):Option (AV×St):=
 match GU os&&VT a (out.take (d*64+1)).2,vN s0 os a,nR (s0.kill (mJ os a)) (out.take (d*64+1)).2 with
 |true,some δ,true=>some ((out.take (d*64+1)).1,((s0.kill (mJ os a)).adds δ).adds (out.take (d*64+1)).2)
 |_,_,_=>none
def oper(d:Nat)(st:St)(o:Op):Option (Prop×AV×St):=
 match calm Θ Γ d st o with
 |some (p,v,δ)=>match nR st δ with
  |true=>some (p,v,st.adds δ)
  |false=>none
 |none=>eff Θ Γ d st o
end Go.Fw
namespace Go.Fw
open Go
structure V where
 w:World
 n0:Nat
 S:Nat->Prop
 γ:Nat->Value
 ak:Nat->Option bD
def blk:Value->Option Nat
 |.pointer (some a)=>some a.block
 |.slice (some a) _ _=>some a.block
 |_=>none
def V.foot(X:V)(b:Nat):Prop:=b<X.w.heap.size/\(b<X.n0->X.S b)/\∀o x,X.ak o=some x->blk (X.γ o)≠some b
def V.fG(X:V)(fr:Bool)(b:Nat):Prop:=X.foot b/\(fr=true->X.n0<=b)
def bY(X:V):Cell->Value->Prop
 |.int k n,v=>v=.int k n/\k.min<=n/\n<=k.max
 |.bool b,v=>v=.bool b
 |.str s,v=>v=.string ⟨s.toArray⟩/\s.length<=maxLen
 |.nil,v=>v=.slice none 0 0
 |.sl e r l a,v=>iL X.w.heap (X.fG a) (.sl e r) v l
 |.ref o,v=>(∃e r l a,X.ak o=some (.arr e r l a))/\v=X.γ o/\v.oneCell'=true
 |.junk,v=>v.oneCell'=true
def aC(X:V):List Cell->List Value->Prop
 |[],[]=>True
 |c::cs,v::vs=>bY X c v/\aC X cs vs
 |_,_=>False
def ig(X:V):SV->Value->Prop
 |.one c,v=>bY X c v
 |.agg cs,v=>∃I,v=.agg I/\aC X cs I.toList
def iy(X:V):List SV->List Value->Prop
 |[],[]=>True
 |c::cs,v::vs=>ig X c v/\iy X cs vs
 |_,_=>False
def jU(X:V)(A:List Cell)(b:Nat):Prop:=∃arr t a,X.foot b/\X.w.heap[b]? =some (.cells arr t a)/\aC X A arr.toList
def iV(X:V):List (List Cell)->List Value->Prop
 |[],[]=>True
 |cs::l,u::us=>(∃b,u=.pointer (some ⟨b,0,none⟩)/\jU X cs b)/\iV X l us
 |_,_=>False
def dB(X:V):AV->Value->Prop
 |.undef,_=>True
 |.sv x,v=>ig X x v
 |.tJ xs,v=>∃I,v=.tuple I/\iy X xs I.toList
 |.aZ o off,v=>∃b A,X.ak o=some (.var A)/\X.γ o=.pointer (some ⟨b,0,none⟩)/\v=.pointer (some ⟨b,off,none⟩)
 |.uG o i off,v=>∃b n y e r l a,X.ak o=some (.arr e r l a)/\X.γ o=.slice (some ⟨b,0,none⟩) n y/\v=.pointer (some ⟨b,i*r.len+off,none⟩)
 |.win o i off,v=>∃b n y e r l a,X.ak o=some (.arr e r l a)/\X.γ o=.slice (some ⟨b,0,none⟩) n y/\(∃q,(q=i*r.len\/y<=i)/\v=.slice (some ⟨b,q,none⟩) off (y-i)/\i+off<=y)
 |.xH r x off a,v=>∃b base A t g,v=.pointer (some ⟨b,base+off,none⟩)/\X.fG a b/\X.w.heap[b]? =some (.cells A t g)/\
    dD X.w.heap (X.fG a) r ((A.toList.drop base).take r.len) x
 |.cO A off,v=>∃b,v=.pointer (some ⟨b,off,none⟩)/\jU X A b
 |.fn f caps,v=>∃d:Array Value,v=.func (.func f) #[] d/\iV X caps d.toList
def eF(X:V)(o:Nat):bD->Prop
 |.var cs=>∃b arr t,X.γ o=.pointer (some ⟨b,0,none⟩)/\X.w.heap[b]? =some (.cells arr t (0,0))/\aC X cs arr.toList
 |.arr e r l fr=>∃q,X.w.ownsRow 0 e r.len (X.γ o) l.length q/\0<r.len/\(∀b,blk (X.γ o)=some b->fr=true->X.n0<=b)/\
    ∀i x,l[i]? =some x->dD X.w.heap (X.fG fr) r ((q.drop (i*r.len)).take r.len) x
structure Ext where
 S:Nat->Prop
 N:Nat->Option Value
 n48:∀p v,N p=some v->p%64=48
instance:CoeFun Ext (λ_=>Nat->Prop):=⟨Ext.S⟩
instance:CoeOut Ext (Nat->Prop):=⟨Ext.S⟩
structure Rel(w0:World)(M:Nat->Prop)(T:Ext)(γ:Nat->Value)(st:St)(a:Act)(w:World):Prop where
 mT:∀b,M b->T b
 defers:a.defers=[]
 size:a.tmps.size=st.n
 os:w.os=w0.os
 tape:w.tape=w0.tape
 output:w.output=w0.output
 grow:w0.heap.size<=w.heap.size
 kept:∀b,b<w0.heap.size->¬M b->w.heap[b]? =w0.heap[b]?
 tmps:∀t,dB ⟨w,w0.heap.size,T,γ,st.ak⟩ (st.tmps t) (a.tmps.getD t undef)
 ak:∀o x,st.ak o=some x->eF ⟨w,w0.heap.size,T,γ,st.ak⟩ o x
 lt:∀o x b,st.ak o=some x->blk (γ o)=some b->b<w.heap.size/\(w0.heap.size<=b\/M b)
 sep:∀o x p y b,st.ak o=some x->st.ak p=some y->o≠p->blk (γ o)=some b->blk (γ p)≠some b
 pin:∀o v cs,T.N o=some v->st.ak o=some (.var cs)->γ o=v
structure V.le(X Y:V):Prop where
 n0:Y.n0<=X.n0
 foot:∀b,X.foot b->Y.foot b/\Y.w.heap[b]? =X.w.heap[b]?
 var:∀o cs,X.ak o=some (.var cs)->(∃cs',Y.ak o=some (.var cs'))/\Y.γ o=X.γ o
 arr:∀o e r l fr,X.ak o=some (.arr e r l fr)->(∃l' fr',Y.ak o=some (.arr e r l' fr'))/\Y.γ o=X.γ o
theorem V.le.refl(X:V):X.le X:=⟨aQp _,λ_ h=>⟨h,rfl⟩,λ_ A h=>⟨⟨A,h⟩,rfl⟩,λ_ _ _ l a h=>⟨⟨l,a,h⟩,rfl⟩⟩
theorem V.le.fG{X Y:V}(h:X.le Y)(fr:Bool)(b:Nat)(U:X.fG fr b):Y.fG fr b/\Y.w.heap[b]? =X.w.heap[b]? :=
 ⟨⟨(h.foot b U.1).1,λe=>aQn h.n0 (U.2 e)⟩,(h.foot b U.1).2⟩
theorem bY.mono{X Y:V}(h:X.le Y):∀(c:Cell)(v:Value),bY X c v->bY Y c v
 |.int _ _,_,H|.bool _,_,H|.str _,_,H|.nil,_,H|.junk,_,H=>H
 |.sl e r l fr,v,H=>iL.mono (λb U=>h.fG fr b U) (.sl e r) v l H
 |.ref o,v,⟨⟨e,r,l,fr,hx⟩,hv,h1⟩=>by obtain⟨⟨f,a,F⟩,d⟩:=h.arr o e r l fr hx;exact⟨⟨e,r,f,a,F⟩,hv.trans d.symm,h1⟩
theorem aC.mono{X Y:V}(h:X.le Y):∀(A:List Cell)(I:List Value),aC X A I->aC Y A I
 |[],[],H=>H
 |c::A,v::I,⟨h1,h2⟩=>⟨bY.mono h c v h1,aC.mono h A I h2⟩
 |[],_::_,H|_::_,[],H=>o7
theorem ig.mono{X Y:V}(h:X.le Y):∀(c:SV)(v:Value),ig X c v->ig Y c v
 |.one c,v,H=>bY.mono h c v H
 |.agg cs,_,⟨vs,hv,H⟩=>⟨vs,hv,aC.mono h cs _ H⟩
theorem iy.mono{X Y:V}(h:X.le Y):∀(A:List SV)(I:List Value),iy X A I->iy Y A I
 |[],[],H=>H
 |c::A,v::I,⟨h1,h2⟩=>⟨ig.mono h c v h1,iy.mono h A I h2⟩
 |[],_::_,H|_::_,[],H=>o7
theorem jU.mono{X Y:V}(h:X.le Y){A:List Cell}{b:Nat}(H:jU X A b):jU Y A b:=by obtain⟨arr,t,a,U,d,hr⟩:=H;exact⟨arr,t,a,(h.foot b U).1,(h.foot b U).2.trans d,aC.mono h A _ hr⟩
theorem iV.mono{X Y:V}(h:X.le Y):∀(l:List (List Cell))(n:List Value),iV X l n->iV Y l n
 |[],[],H=>H
 |cs::l,u::n,⟨⟨b,hu,hk⟩,h2⟩=>⟨⟨b,hu,hk.mono h⟩,iV.mono h l n h2⟩
 |[],_::_,H|_::_,[],H=>o7
theorem dB.mono{X Y:V}(h:X.le Y):∀(c:AV)(v:Value),dB X c v->dB Y c v
 |.undef,_,_=>trivial
 |.sv x,v,H=>ig.mono h x v H
 |.tJ xs,_,⟨vs,hv,H⟩=>⟨vs,hv,iy.mono h xs _ H⟩
 |.aZ o off,v,⟨b,cs,hx,hγ,hv⟩=>by
  obtain⟨⟨d,F⟩,g⟩:=h.var o cs hx;exact⟨b,d,F,g.trans hγ,hv⟩
 |.uG o i off,v,⟨b,n,cap,e,r,l,fr,hx,hγ,hv⟩=>by
  obtain⟨⟨j,a,F⟩,g⟩:=h.arr o e r l fr hx;exact⟨b,n,cap,e,r,j,a,F,g.trans hγ,hv⟩
 |.win o i off,v,⟨b,n,cap,e,r,l,fr,hx,hγ,hv⟩=>by
  obtain⟨⟨j,a,F⟩,g⟩:=h.arr o e r l fr hx;exact⟨b,n,cap,e,r,j,a,F,g.trans hγ,hv⟩
 |.xH r x off fr,v,⟨b,base,cs,t,fz,hv,hf,U,hr⟩=>
  ⟨b,base,cs,t,fz,hv,(h.fG fr b hf).1,(h.fG fr b hf).2.trans U,dD.mono (λb U=>h.fG fr b U) r _ x hr⟩
 |.cO cs off,v,⟨b,hv,hk⟩=>⟨b,hv,hk.mono h⟩
 |.fn f caps,v,⟨us,hv,hk⟩=>⟨us,hv,iV.mono h caps _ hk⟩
theorem aC.length{X:V}:∀(A:List Cell)(I:List Value),aC X A I->I.length=A.length
 |[],[],_=>rfl
 |_::A,_::I,⟨_,h⟩=>by simp[aC.length A I h]
 |[],_::_,H|_::_,[],H=>o7
theorem aC.append{X:V}:∀(A:List Cell)(I:List Value)(a:List Cell)(n:List Value),aC X A I->aC X a n->aC X (A++a) (I++n)
 |[],[],_,_,_,h=>h
 |_::A,_::I,a,n,⟨h1,h2⟩,h=>⟨h1,aC.append A I a n h2 h⟩
 |[],_::_,_,_,H,_|_::_,[],_,_,H,_=>o7
theorem aC.take{X:V}:∀(A:List Cell)(I:List Value)(n:Nat),aC X A I->aC X (A.take n) (I.take n)
 |[],[],n,h=>oQ
 |_::_,_::_,0,_=>trivial
 |c::A,v::I,n+1,⟨h1,h2⟩=>⟨h1,aC.take A I n h2⟩
 |[],_::_,_,H|_::_,[],_,H=>o7
theorem aC.drop{X:V}:∀(A:List Cell)(I:List Value)(n:Nat),aC X A I->aC X (A.drop n) (I.drop n)
 |[],[],n,h=>oQ
 |_::_,_::_,0,h=>h
 |c::A,v::I,n+1,⟨_,h2⟩=>aC.drop A I n h2
 |[],_::_,_,H|_::_,[],_,H=>o7
theorem aC.get{X:V}:∀(A:List Cell)(I:List Value)(i:Nat)(c:Cell),aC X A I->A[i]? =some c->∃v,I[i]? =some v/\bY X c v
 |[],_,_,_,_,h=>yj
 |c::A,v::I,0,d,⟨h1,_⟩,h=>jv
 |c::A,v::I,i+1,d,⟨_,h2⟩,h=>by
  obtain⟨u,a,hr⟩:=aC.get A I i d h2 oQ;exact⟨u,adW,hr⟩
 |_::_,[],_,_,H,_=>o7
theorem bY.one{X:V}:∀(c:Cell)(v:Value),bY X c v->v.oneCell'=true
 |.int _ _,_,⟨h,_⟩=>afy
 |.bool _,_,h=>by rw[show _=_ from h];rfl
 |.str _,_,⟨h,_⟩=>afy
 |.nil,_,h=>by rw[show _=_ from h];rfl
 |.sl e r l fr,v,h=>by
  rcases h.2 with⟨_,a,c,R⟩|⟨b,m,y,A,t,d,R,_⟩<;>rw[R]<;>rfl
 |.ref _,_,⟨_,_,h⟩=>h
 |.junk,_,h=>h
theorem RU:∀(v:Value),v.oneCell'=true->v.cells=#[v]:=by intro v h;cases v<;>first|rfl|simp[Value.oneCell']at h
theorem ig.cells{X:V}:∀(x:SV)(v:Value),ig X x v->aC X x.cells v.cells.toList
 |.one c,v,h=>by
  rw[RU v (bY.one c v h)];exact⟨h,trivial⟩
 |.agg cs,v,⟨vs,hv,h⟩=>by rw[hv];exact h
theorem aC.ones{X:V}:∀(A:List Cell)(I:List Value),aC X A I->∀v∈I,v.oneCell'=true
 |[],[],_,_,R=>by cases R
 |c::A,u::I,⟨h1,h2⟩,v,R=>by
  rcases aQt.1 R with rfl|R
  .exact bY.one c _ h1
  .exact aC.ones A I h2 v R
 |[],_::_,H,_,_|_::_,[],H,_,_=>o7
variable {w0:World} {M:Nat->Prop} {T:Ext} {γ γ':Nat->Value} {st:St} {a:Act} {w w':World}
abbrev aI(w0:World)(T:Nat->Prop)(γ:Nat->Value)(st:St)(w:World):V:=⟨w,w0.heap.size,T,γ,st.ak⟩
theorem eF.mono{X Y:V}(h:X.le Y)(o:Nat):∀(x:bD),(∀b,blk (X.γ o)=some b->Y.w.heap[b]? =X.w.heap[b]?)->Y.γ o=X.γ o->eF X o x->eF Y o x
 |.var cs,U,hγ,⟨b,arr,t,e,k,hr⟩=>⟨b,arr,t,hγ.trans e,(U b (by rw[e];rfl)).trans k,aC.mono h cs _ hr⟩
 |.arr e r l fr,U,hγ,⟨xs,hown,hr,hf,hx⟩=>by
  refine⟨xs,?_,hr,λb f j=>aQn h.n0 (hf b (hγ▸f) j),λi x D=>dD.mono (λb U=>h.fG fr b U) r _ x (hx i x D)⟩;obtain⟨C,O⟩:=hown;refine⟨C,?_⟩;rcases O with O|⟨g,y,Q,R,m,k,d⟩
  · grind
  .exact .inr ⟨g,y,Q,hγ.trans R,m,(U g afJ).trans k,d⟩
theorem Rel.grown(h:Rel w0 M T γ st a w)(k:Nat->Option bD)
 (B:∀p x,st.ak p=some x->k p=some x) (d:∀p x,st.ak p=some x->γ' p=γ p)
 (u:w'.os=w.os) (m:w'.tape=w.tape) (n:w'.output=w.output) (j:w.heap.size<=w'.heap.size)
 (f:∀b,b<w.heap.size->w'.heap[b]? =w.heap[b]?)
 (g:∀p x,k p=some x->st.ak p=none->eF ⟨w',w0.heap.size,T,γ',k⟩ p x/\∀b,blk (γ' p)=some b->w.heap.size<=b/\b<w'.heap.size)
 (E:∀p A,k p=some (.var A)->st.ak p=none->T.N p=none)
 (D:∀p x q y b,k p=some x->st.ak p=none->k q=some y->st.ak q=none->p≠q->blk (γ' p)=some b->blk (γ' q)≠some b):
 Rel w0 M T γ' {st with ak:=k} a w'/\(aI w0 T γ st w).le ⟨w',w0.heap.size,T,γ',k⟩:=by
 have i:∀p x,k p=some x->st.ak p=some x\/st.ak p=none:=by
  intro p x J;cases e:st.ak p with
  |none=>exact .inr rfl
  |some y=>grind
 have le:(aI w0 T γ st w).le ⟨w',w0.heap.size,T,γ',k⟩:=by
  refine⟨aQp _,λb U=>⟨⟨aQO U.1 j,U.2.1,λo x Z=>?_⟩,f b U.1⟩,λo A Z=>⟨⟨A,B o _ Z⟩,d o _ Z⟩,λo e r l H Z=>⟨⟨l,H,B o _ Z⟩,d o _ Z⟩⟩;rcases i o x Z with z|z
  .show blk (γ' o)≠some b;rw[d o x z];exact U.2.2 o x z
  .intro e;have C:=((g o x Z z).2 b e).1;have O:b<w.heap.size:=U.1;omega
 refine⟨⟨h.mT,h.defers,h.size,u.trans h.os,m.trans h.tape,n.trans h.output,aQn h.grow j,λb U I=>?_,λt=>dB.mono le _ _ (h.tmps t),λo x Z=>?_,λo x b Z U=>?_,λo x p y b Z F s U=>?_,λo v A K Z=>?_⟩,le⟩
 .rw[f b (aQO U h.grow)];exact h.kept b U I
 .rcases i o x Z with z|z
  .exact eF.mono le o x (λb U=>f b (h.lt o x b z U).1) (d o x z) (h.ak o x z)
  grind
 .rcases i o x Z with z|z
  .rw[d o x z]at U;have:=h.lt o x b z U
   grind
  .have:=(g o x Z z).2 b U;exact⟨this.2,.inl (aQn h.grow this.1)⟩
 .rcases i o x Z with z|z<;>rcases i p y F with J|J
  .rw[d o x z]at U;rw[d p y J];exact h.sep o x p y b z J s U
  .rw[d o x z]at U;intro e;have C:=((g p y F J).2 b e).1;have O:=(h.lt o x b z U).1;omega
  .have C:=((g o x Z z).2 b U).1;rw[d p y J];intro e;have O:=(h.lt p y b J e).1;omega
  grind
 .rcases i o _ Z with z|z
  .rw[d o _ z];exact h.pin o v A K z
  grind
theorem ah0(q:Array Value)(d t:Nat)(v z:Value)(b:d<q.size):(q.setIfInBounds d v).getD t z=if t=d then v else q.getD t z:=by
 by_cases e:t=d
 · simp_all
 .simp only[aSz]
  grind
theorem Rel.set(h:Rel w0 M T γ st a w)(d:Nat)(b:d<st.n)(v:AV)(u:Value)(R:dB (aI w0 T γ st w) v u):
 Rel w0 M T γ (st.set d v) (a.put (some d) u) w:=by
 refine⟨h.mT,h.defers,?_,h.os,h.tape,h.output,h.grow,h.kept,λt=>?_,h.ak,h.lt,h.sep,h.pin⟩
 .simp only[Act.put,Array.size_setIfInBounds];exact h.size
 .simp only[Act.put];rw[ah0 _ _ _ _ _ (by rw[h.size];exact b)];simp only[St.set];by_cases e:t=d
  · simp_all
  .rw[if_neg e];have:Nat.beq t d=false:=by grind [Nat.eq_of_beq_eq_true]
   rw[this];exact h.tmps t
theorem Rel.drew(h:Rel w0 M T γ st a w)(n:Nat):Rel w0 M T γ st a {w with drawn:=n}:=
 (h.grown (γ':=γ) (w':={w with drawn:=n}) st.ak (λ_ _ h=>h) (λ_ _ _=>rfl) rfl rfl rfl (aQp _) (λ_ _=>rfl)
   (λp x C O=>jv) (λp A C O=>jv) (λp x q y b C O=>jv)).1
section kill
variable (S:Nat->Bool)
theorem bY.kill(f:Rel w0 M T γ st a w):∀(c:Cell)(v:Value),bY (aI w0 T γ st w) c v->bY (aI w0 T γ (st.kill S) w) (c.kill S) v
 |.int _ _,_,H|.bool _,_,H|.str _,_,H|.nil,_,H|.junk,_,H=>H
 |.sl e r l _,v,H=>iL.mono (λb U=>⟨⟨⟨U.1.1,U.1.2.1,λo x Z=>by
    simp only[St.kill]at Z;cases d:S o with
    |true=>grind
    |false=>
     cases z:st.ak o with
     |none=>grind
     |some y=>exact U.1.2.2 o y z⟩,U.2⟩,rfl⟩) (.sl e r) v l H
 |.ref o,v,⟨⟨e,r,l,fr,Z⟩,hv,h1⟩=>by
  simp only[Cell.kill];cases d:S o with
  |true=>exact h1
  |false=>exact⟨⟨e,r,l,fr,by simp only[St.kill,d];rw[show st.ak o=_ from Z];rfl⟩,hv,h1⟩
theorem aas(b:Nat)(U:(aI w0 T γ st w).foot b):(aI w0 T γ (st.kill S) w).foot b:=
 ⟨U.1,U.2.1,λo x Z=>by
     simp only[St.kill]at Z;cases d:S o with
     |true=>grind
     |false=>
      cases z:st.ak o with
      |none=>grind
      |some y=>exact U.2.2 o y z⟩
theorem aC.kill(h:Rel w0 M T γ st a w):∀(A:List Cell)(I:List Value),aC (aI w0 T γ st w) A I->aC (aI w0 T γ (st.kill S) w) (A.map (Cell.kill S)) I
 |[],[],H=>H
 |c::A,v::I,⟨h1,h2⟩=>⟨bY.kill S h c v h1,aC.kill h A I h2⟩
 |[],_::_,H|_::_,[],H=>o7
theorem ig.kill(h:Rel w0 M T γ st a w):∀(c:SV)(v:Value),ig (aI w0 T γ st w) c v->ig (aI w0 T γ (st.kill S) w) (c.kill S) v
 |.one c,v,H=>bY.kill S h c v H
 |.agg cs,_,⟨vs,hv,H⟩=>⟨vs,hv,aC.kill S h cs _ H⟩
theorem iy.kill(h:Rel w0 M T γ st a w):∀(A:List SV)(I:List Value),iy (aI w0 T γ st w) A I->iy (aI w0 T γ (st.kill S) w) (A.map (SV.kill S)) I
 |[],[],H=>H
 |c::A,v::I,⟨h1,h2⟩=>⟨ig.kill S h c v h1,iy.kill h A I h2⟩
 |[],_::_,H|_::_,[],H=>o7
theorem uZ{o:Nat}{x:bD}(b:S o=false)(Z:st.ak o=some x):(st.kill S).ak o=some (x.kill S):=by
 grind [St.kill]
theorem jU.kill(h:Rel w0 M T γ st a w){A:List Cell}{b:Nat}(H:jU (aI w0 T γ st w) A b):jU (aI w0 T γ (st.kill S) w) (A.map (Cell.kill S)) b:=by obtain⟨arr,t,d,U,e,hr⟩:=H;exact⟨arr,t,d,aas S b U,e,aC.kill S h A _ hr⟩
theorem iV.kill(h:Rel w0 M T γ st a w):∀(l:List (List Cell))(n:List Value),iV (aI w0 T γ st w) l n->iV (aI w0 T γ (st.kill S) w) (l.map (List.map (Cell.kill S))) n
 |[],[],H=>H
 |cs::l,u::n,⟨⟨b,hu,hk⟩,h2⟩=>⟨⟨b,hu,jU.kill S h hk⟩,iV.kill h l n h2⟩
 |[],_::_,H|_::_,[],H=>o7
theorem dB.kill(h:Rel w0 M T γ st a w):∀(c:AV)(v:Value),dB (aI w0 T γ st w) c v->dB (aI w0 T γ (st.kill S) w) (c.kill S) v
 |.undef,_,_=>trivial
 |.sv x,v,H=>ig.kill S h x v H
 |.tJ xs,_,⟨vs,hv,H⟩=>⟨vs,hv,iy.kill S h xs _ H⟩
 |.aZ o off,v,⟨b,cs,hx,hγ,hv⟩=>by
  simp only[AV.kill];cases d:S o with
  |true=>trivial
  |false=>exact⟨b,_,uZ S d hx,hγ,hv⟩
 |.uG o i off,v,⟨b,n,cap,e,r,l,fr,hx,hγ,hv⟩=>by
  simp only[AV.kill];cases d:S o with
  |true=>trivial
  |false=>exact⟨b,n,cap,e,r,l,fr,uZ S d hx,hγ,hv⟩
 |.win o i off,v,⟨b,n,cap,e,r,l,fr,hx,hγ,hv⟩=>by
  simp only[AV.kill];cases d:S o with
  |true=>trivial
  |false=>exact⟨b,n,cap,e,r,l,fr,uZ S d hx,hγ,hv⟩
 |.xH r x off fr,v,⟨b,base,cs,t,fz,hv,hf,U,hr⟩=>
  ⟨b,base,cs,t,fz,hv,⟨aas S b hf.1,hf.2⟩,U,dD.mono (λb U=>⟨⟨aas S b U.1,U.2⟩,rfl⟩) r _ x hr⟩
 |.cO cs off,v,⟨b,hv,hk⟩=>⟨b,hv,jU.kill S h hk⟩
 |.fn f caps,v,⟨us,hv,hk⟩=>⟨us,hv,iV.kill S h caps _ hk⟩
theorem EJ{o:Nat}{x:bD}(Z:(st.kill S).ak o=some x):∃y,st.ak o=some y/\x=y.kill S/\S o=false:=by
 simp only[St.kill]at Z;cases b:S o with
 |true=>grind
 |false=>
  cases z:st.ak o with
  |none=>grind
  |some y=>grind
theorem eF.kill(h:Rel w0 M T γ st a w)(o:Nat):∀(x:bD),eF (aI w0 T γ st w) o x->eF (aI w0 T γ (st.kill S) w) o (x.kill S)
 |.var cs,⟨b,arr,t,e,hh,hr⟩=>⟨b,arr,t,e,hh,aC.kill S h cs _ hr⟩
 |.arr _ r _ _,⟨xs,hown,hr,hf,hx⟩=>⟨xs,hown,hr,hf,λi x D=>dD.mono (λb U=>⟨⟨aas S b U.1,U.2⟩,rfl⟩) r _ x (hx i x D)⟩
theorem Rel.kill(h:Rel w0 M T γ st a w):Rel w0 M T γ (st.kill S) a w:=by
 refine⟨h.mT,h.defers,h.size,h.os,h.tape,h.output,h.grow,h.kept,λt=>dB.kill S h _ _ (h.tmps t),λo x Z=>?_,λo x b Z U=>?_,λo x p y b Z F d U=>?_,λo v A g Z=>?_⟩
 .obtain⟨y,F,rfl,_⟩:=EJ S Z;exact eF.kill S h o y (h.ak o y F)
 .obtain⟨y,F,rfl,_⟩:=EJ S Z;exact h.lt o y b F U
 .obtain⟨x',hx',rfl,_⟩:=EJ S Z;obtain⟨i,f,rfl,_⟩:=EJ S F;exact h.sep o x' p i b hx' f d U
 .obtain⟨y,F,e,_⟩:=EJ S Z;cases y with
  |var cs'=>exact h.pin o v cs' g F
  |arr _ _ _ _=>cases e
end kill
end Go.Fw
namespace Go.Fw
open Go
variable {w0:World} {M:Nat->Prop} {T:Ext} {γ γ':Nat->Value} {st:St} {a:Act} {w w':World} (S:Nat->Bool)
theorem jV{α:Type}(l:List α)(i k n:Nat)(h:i+k<=n):((l.take n).drop i).take k=(l.drop i).take k:=by
 grind [List.drop_take]
theorem eF.reads{X:V}{o:Nat}{e:TypeId}{r:aP}{l:List r.den}{fr:Bool}{F:Nat->Prop}(h:eF X o (.arr e r l fr))
 (u:∀b,X.fG fr b->F b) (n:∀b,blk (X.γ o)=some b->F b):iL X.w.heap F (.sl e r) (X.γ o) l:=by
 obtain⟨q,⟨C,O⟩,hr,z,Z⟩:=h;rcases O with⟨R,H⟩|⟨g,y,Q,R,_,s,d,f,t,k⟩
 .refine⟨fC,.inl ⟨aQ1.1 H,none,0,R⟩⟩
 .refine⟨aQn d f,.inr ⟨g,0,y,Q,e,(0,0),R,d,n g afJ,s,λi x D=>?_⟩⟩;have j:i<l.length:=(aQC.1 D).1;have m:i*r.len+r.len<=l.length*r.len:=by
   have:(i+1)*r.len<=l.length*r.len:=aQy _ j
   grind
  grind [jV,dD.mono]
theorem JM(b:Nat)(U:(aI w0 T γ st w).foot b):(aI w0 T γ (st.freeze S) w).foot b:=
 ⟨U.1,U.2.1,λo x Z=>by
     simp only[St.freeze]at Z;cases d:S o with
     |true=>grind
     |false=>
      cases z:st.ak o with
      |none=>grind
      |some y=>exact U.2.2 o y z⟩
theorem JO{o:Nat}{x:bD}(Z:(st.freeze S).ak o=some x):∃y,st.ak o=some y/\x=y.freeze st S/\S o=false:=by
 simp only[St.freeze]at Z;cases b:S o with
 |true=>grind
 |false=>
  cases z:st.ak o with
  |none=>grind
  |some y=>grind
theorem IW{o:Nat}{x:bD}(b:S o=false)(Z:st.ak o=some x):(st.freeze S).ak o=some (x.freeze st S):=by
 grind [St.freeze]
theorem bY.freeze(h:Rel w0 M T γ st a w):∀(c:Cell)(v:Value),bY (aI w0 T γ st w) c v->bY (aI w0 T γ (st.freeze S) w) (c.freeze st S) v
 |.int _ _,_,H|.bool _,_,H|.str _,_,H|.nil,_,H|.junk,_,H=>H
 |.sl e r l _,v,H=>iL.mono (λb U=>⟨⟨JM S b U.1,U.2⟩,rfl⟩) (.sl e r) v l H
 |.ref o,v,⟨⟨e,r,l,fr,hx⟩,hv,h1⟩=>by
  have d:st.ak o=some (.arr e r l fr):=hx;simp only[Cell.freeze];cases f:S o with
  |false=>exact⟨⟨e,r,l,fr,IW S f d⟩,hv,h1⟩
  |true=>
   simp only[d];rw[hv];refine eF.reads (F:=(aI w0 T γ (st.freeze S) w).fG fr) (h.ak o _ d) (λb U=>⟨JM S b U.1,U.2⟩) (λb U=>⟨⟨(h.lt o _ b d U).1,λi=>h.mT b ((h.lt o _ b d U).2.resolve_left jv),λp y J=>?_⟩,λg=>?_⟩)
   .obtain⟨z,hz,_,hSp⟩:=JO S J;refine h.sep o _ p z b d hz (λe=>?_) U
    grind
   .obtain⟨xs,_,_,hf,_⟩:=h.ak o _ d
    grind
theorem aC.freeze(h:Rel w0 M T γ st a w):∀(A:List Cell)(I:List Value),aC (aI w0 T γ st w) A I->aC (aI w0 T γ (st.freeze S) w) (A.map (Cell.freeze st S)) I
 |[],[],H=>H
 |c::A,v::I,⟨h1,h2⟩=>⟨bY.freeze S h c v h1,aC.freeze h A I h2⟩
 |[],_::_,H|_::_,[],H=>o7
theorem ig.freeze(h:Rel w0 M T γ st a w):∀(c:SV)(v:Value),ig (aI w0 T γ st w) c v->ig (aI w0 T γ (st.freeze S) w) (c.freeze st S) v
 |.one c,v,H=>bY.freeze S h c v H
 |.agg cs,_,⟨vs,hv,H⟩=>⟨vs,hv,aC.freeze S h cs _ H⟩
theorem iy.freeze(h:Rel w0 M T γ st a w):∀(A:List SV)(I:List Value),iy (aI w0 T γ st w) A I->iy (aI w0 T γ (st.freeze S) w) (A.map (SV.freeze st S)) I
 |[],[],H=>H
 |c::A,v::I,⟨h1,h2⟩=>⟨ig.freeze S h c v h1,iy.freeze h A I h2⟩
 |[],_::_,H|_::_,[],H=>o7
theorem jU.freeze(h:Rel w0 M T γ st a w){A:List Cell}{b:Nat}(H:jU (aI w0 T γ st w) A b):jU (aI w0 T γ (st.freeze S) w) (A.map (Cell.freeze st S)) b:=by obtain⟨arr,t,d,U,e,hr⟩:=H;exact⟨arr,t,d,JM S b U,e,aC.freeze S h A _ hr⟩
theorem iV.freeze(h:Rel w0 M T γ st a w):∀(l:List (List Cell))(n:List Value),iV (aI w0 T γ st w) l n->iV (aI w0 T γ (st.freeze S) w) (l.map (List.map (Cell.freeze st S))) n
 |[],[],H=>H
 |cs::l,u::n,⟨⟨b,hu,hk⟩,h2⟩=>⟨⟨b,hu,jU.freeze S h hk⟩,iV.freeze h l n h2⟩
 |[],_::_,H|_::_,[],H=>o7
theorem dB.freeze(h:Rel w0 M T γ st a w):∀(c:AV)(v:Value),dB (aI w0 T γ st w) c v->dB (aI w0 T γ (st.freeze S) w) (c.freeze st S) v
 |.undef,_,_=>trivial
 |.sv x,v,H=>ig.freeze S h x v H
 |.tJ xs,_,⟨vs,hv,H⟩=>⟨vs,hv,iy.freeze S h xs _ H⟩
 |.aZ o off,v,⟨b,cs,hx,hγ,hv⟩=>by
  simp only[AV.freeze];cases d:S o with
  |true=>trivial
  |false=>exact⟨b,_,IW S d hx,hγ,hv⟩
 |.uG o i off,v,⟨b,n,cap,e,r,l,fr,hx,hγ,hv⟩=>by
  simp only[AV.freeze];cases d:S o with
  |true=>trivial
  |false=>exact⟨b,n,cap,e,r,l,fr,IW S d hx,hγ,hv⟩
 |.win o i off,v,⟨b,n,cap,e,r,l,fr,hx,hγ,hv⟩=>by
  simp only[AV.freeze];cases d:S o with
  |true=>trivial
  |false=>exact⟨b,n,cap,e,r,l,fr,IW S d hx,hγ,hv⟩
 |.xH r x off fr,v,⟨b,base,cs,t,fz,hv,hf,U,hr⟩=>
  ⟨b,base,cs,t,fz,hv,⟨JM S b hf.1,hf.2⟩,U,dD.mono (λb U=>⟨⟨JM S b U.1,U.2⟩,rfl⟩) r _ x hr⟩
 |.cO cs off,v,⟨b,hv,hk⟩=>⟨b,hv,jU.freeze S h hk⟩
 |.fn f caps,v,⟨us,hv,hk⟩=>⟨us,hv,iV.freeze S h caps _ hk⟩
theorem eF.freeze(h:Rel w0 M T γ st a w)(o:Nat):∀(x:bD),eF (aI w0 T γ st w) o x->eF (aI w0 T γ (st.freeze S) w) o (x.freeze st S)
 |.var cs,⟨b,arr,t,e,hh,hr⟩=>⟨b,arr,t,e,hh,aC.freeze S h cs _ hr⟩
 |.arr _ r _ _,⟨xs,hown,hr,hf,hx⟩=>⟨xs,hown,hr,hf,λi x D=>dD.mono (λb U=>⟨⟨JM S b U.1,U.2⟩,rfl⟩) r _ x (hx i x D)⟩
theorem Rel.freeze(h:Rel w0 M T γ st a w):Rel w0 M T γ (st.freeze S) a w:=by
 refine⟨h.mT,h.defers,h.size,h.os,h.tape,h.output,h.grow,h.kept,λt=>dB.freeze S h _ _ (h.tmps t),λo x Z=>?_,λo x b Z U=>?_,λo x p y b Z F d U=>?_,λo v A g Z=>?_⟩
 .obtain⟨y,F,rfl,_⟩:=JO S Z;exact eF.freeze S h o y (h.ak o y F)
 .obtain⟨y,F,rfl,_⟩:=JO S Z;exact h.lt o y b F U
 .obtain⟨x',hx',rfl,_⟩:=JO S Z;obtain⟨i,f,rfl,_⟩:=JO S F;exact h.sep o x' p i b hx' f d U
 .obtain⟨y,F,e,_⟩:=JO S Z;cases y with
  |var cs'=>exact h.pin o v cs' g F
  |arr _ _ _ _=>cases e
theorem Cell.akL(h:Rel w0 M T γ st a w):∀(c:CT)(x:Cell)(v:Value)(d:c.den),bY (aI w0 T γ st w) x v->x.get st c=some d->
 iL w.heap (λb=>b<w.heap.size) c v d:=by
 intro c x v d Z f;cases c with
 |int k=>
  cases x<;>simp only[Cell.get]at f<;>try (cases f;done)
  next l n=>
   cases t:decide (k=l)with
   |false=>grind
   |true=>
    rw[t]at f;have q:k=l:=aQ6 t;subst q;cases f;exact Z
 |bool=>cases x<;>simp only[Cell.get]at f<;>first|(cases f;done)|(cases f;exact Z)
 |str=>cases x<;>simp only[Cell.get]at f<;>first|(cases f;done)|(cases f;exact Z)
 |sl e r=>
  cases x<;>simp only[Cell.get]at f<;>try (cases f;done)
  .cases f;have R:v=.slice none 0 0:=Z;subst R;exact⟨aQx _,.inl ⟨rfl,none,0,rfl⟩⟩
  .next m s l j=>
   split at f
   .next U=>have i:=aP.eq_of_beq s r U;subst i;cases f;exact iL.mono (λb U=>⟨U.1.1,rfl⟩) (.sl e s) v l Z
   .cases f
  .next o=>
   obtain⟨⟨m,s,l,j,z⟩,R,_⟩:=Z;have g:st.ak o=some (.arr m s l j):=z;simp only[g]at f;split at f
   .next U=>have i:=aP.eq_of_beq s r U;subst i;cases f;rw[R];exact eF.reads (X:=aI w0 T γ st w) (e:=m) (l:=l) (fr:=j) (h.ak o _ g) (λb U=>U.1.1) (λb U=>(h.lt o _ b g U).1)
   .cases f
end Go.Fw
namespace Go.Fw
open Go
variable {P:Program} {w0:World} {M:Nat->Prop} {T:Ext} {γ γ':Nat->Value} {st:St} {a:Act} {w w':World}
theorem Oper.rQ{o:Oper}{a:Act}{w w':World}{u:Value}{next:Act->World->Prop}{Q:Exit->Act->World->Prop}
 (h:(execOp a.eval o).run P w=.ok (.value u) w') (H:next (a.put o.dst u) w'):o.wp P a w next Q:=by
 unfold Oper.wp;rw[h];exact H
theorem Oper.wp_skip{o:Oper}{a:Act}{w w':World}{next:Act->World->Prop}{Q:Exit->Act->World->Prop}
 (h:(execOp a.eval o).run P w=.ok .skip w') (H:next (a.put o.dst undef) w'):o.wp P a w next Q:=by
 unfold Oper.wp;rw[h];exact H
theorem aBA(X:V)(v:Value):dB X (aud v) v:=by
 unfold aud;split
 .split
  .next h=>simp at h;exact⟨rfl,h.1,h.2⟩
  .trivial
 .rfl
 .split
  .next s h=>exact⟨rfl,oQ⟩
  .trivial
 .rfl
 .trivial
theorem lQ(h:Rel w0 M T γ st a w)(x:Operand):dB (aI w0 T γ st w) (st.ev x) (a.eval x):=by
 cases x with
 |tmp t=>exact h.tmps t
 |const v=>exact aBA _ v
 |global g=>trivial
 |func f=>exact⟨#[],rfl,trivial⟩
variable {x:Operand}{c:Cell}
theorem ve(h:Rel w0 M T γ st a w)(e:st.ev x=.sv (.one c)):bY (aI w0 T γ st w) c (a.eval x):=by have:=lQ h x;rw[e]at this;exact this
theorem aCz(h:Rel w0 M T γ st a w){b:Bool}(e:st.ev x=.sv (.one (.bool b))):a.eval x=.bool b:=ve h e
variable {k:IntKind}
theorem aco(h:Rel w0 M T γ st a w){n:Int}(e:st.ev x=.sv (.one (.int k n))):a.eval x=.int k n/\k.min<=n/\n<=k.max:=ve h e
theorem CV(h:Rel w0 M T γ st a w){n:Int}(e:CU (st.ev x)=some n):∃k,a.eval x=.int k n/\k.min<=n/\n<=k.max:=by
 unfold CU at e;split at e
 .next k m hx=>cases e;exact⟨k,aco h hx⟩
 .cases e
theorem RV(k:IntKind)(n:Int):k.min<=k.wrap n/\k.wrap n<=k.max:=by unfold IntKind.wrap IntKind.min IntKind.max;cases k<;>simp only[IntKind.signed,IntKind.bits]<;>simp<;>first|omega|(split<;>omega)
theorem aDr(k:IntKind)(x y:Int)(Z:k.min<=x/\x<=k.max):k.min<=x.tmod y/\x.tmod y<=k.max:=by
 have l:k.min<=0/\0<=k.max:=ad1;have C:(x.tmod y).natAbs=x.natAbs%y.natAbs:=Int.natAbs_tmod x y;have O:x.natAbs%y.natAbs<=x.natAbs:=Nat.mod_le _ _;rcases Int.le_total 0 x with Y|Y
 · grind [Int.tmod_nonneg]
 .have h3:x.tmod y<=0:=by
   have:=Int.tmod_nonneg y (show 0<=-x from fC)
   simp_all
  omega
theorem aDs(k:IntKind)(x:Int)(n:Nat)(Z:k.min<=x/\x<=k.max):k.min<=x.fdiv (2 ^ n)/\x.fdiv (2 ^ n)<=k.max:=by
 have l:k.min<=0/\0<=k.max:=ad1;have b:(1:Int)<=2 ^ n:=Int.pow_pos fC;rw[Int.fdiv_eq_ediv_of_nonneg _ fC];generalize (2:Int) ^ n=m at b;have C:=Int.mul_ediv_add_emod x m;have O:=Int.emod_nonneg x (show m≠0 from fC);have K:=Int.emod_lt_of_pos x (show 0<m from fC);generalize u:x / m=q at*;rcases Int.le_total 0 x with Y|Y
 .have h4:0<=q:=by rw[← u];exact Int.ediv_nonneg Y fC
  have d:1*q<=m*q:=aR2 b h4;omega
 .by_cases h4:q<=-1
  .have d:m*(q+1)<=1*(q+1):=Int.mul_le_mul_of_nonpos_right b fC
   grind
  .have d:1*q<=m*q:=aR2 b fC;omega
variable {op:BinOp}{t:TypeId}{y:Operand}
theorem abt{l:IntKind}{n m:Int}:(eqGuard op t x y (.int k n) (.int l m)).run P w=.ok () w:=by cases op<;>rfl
theorem aBB{s u:ByteArray}:(eqGuard op t x y (.string s) (.string u)).run P w=.ok () w:=by cases op<;>rfl
theorem ah1{s u:Bool}:(eqGuard op t x y (.bool s) (.bool u)).run P w=.ok () w:=by cases op<;>rfl
theorem aDt{x y:Int}{p:Prop}(X:V)(h:ack op k x y=some (p,c))(J:p)(Z:k.min<=x/\x<=k.max):
 ∃u,(binOp op t (.int k x) (.int k y)).run P w=.ok u w/\bY X c u:=by
 cases op<;>simp only[ack,Option.some.injEq,Prod.mk.injEq,reduceCtorEq]at h<;>obtain⟨rfl,rfl⟩:=h
 case quo=>refine⟨_,?_,rfl,RV _ _⟩;simp[binOp,Op.intDiv,J,aRr]
 case rem=>refine⟨_,?_,rfl,aDr k x y Z⟩;simp[binOp,Op.intDiv,J,aRr]
 all_goals first
  |exact⟨_,by simp[binOp,Op.intArith,Op.intBits,bitsOf,aRr],rfl,RV _ _⟩
  |exact⟨_,by simp[binOp,Op.intCmp,aRr],rfl⟩
theorem aDu{x y:Bytes}{p:Prop}(X:V)(h:ahV op x y=some (p,c))(J:p):
 ∃u,(binOp op t (.string ⟨x.toArray⟩) (.string ⟨y.toArray⟩)).run P w=.ok u w/\bY X c u:=by
 cases op<;>simp only[ahV,Option.some.injEq,Prod.mk.injEq,reduceCtorEq]at h<;>obtain⟨rfl,rfl⟩:=h
 case add=>
  refine⟨.string ⟨(x++y).toArray⟩,?_,rfl,by simpa using J⟩;have C:¬((((⟨x.toArray⟩:ByteArray).size+(⟨y.toArray⟩:ByteArray).size:Nat):Int)>IntKind.i64.max):=by
   have e:IntKind.i64.max=9223372036854775807:=rfl;unfold maxLen at J;show ¬(((x.toArray.size+y.toArray.size:Nat):Int)>_)
   grind
  have O:(⟨x.toArray⟩:ByteArray)++⟨y.toArray⟩=⟨(x++y).toArray⟩:=by apply ByteArray.ext;simp
  simp_all [binOp,Op.stringOp]
 all_goals exact⟨_,by simp[binOp,Op.stringOp,aRr],rfl⟩
theorem aBC{x y:Cell}{p:Prop}{s u:Operand}{v v':Value}(X:V)(h:acn op x y=some (p,c))(J:p)
 (Z:bY X x v) (F:bY X y v') (U:∀a b,x=.bool a->y=.bool b->P.underlying t=some .bool):
 ∃r,(do eqGuard op t s u v v';binOp op t v v').run P w=.ok r w/\bY X c r:=by
 cases x<;>cases y<;>simp only[acn,reduceCtorEq]at h
 case int.int k n l m=>
  obtain⟨rfl,H⟩:=Z;obtain⟨rfl,o⟩:=F;have e:∀j:k=l,ack op k n m=some (p,c)->∃r,(do eqGuard op t s u (.int k n) (.int l m);binOp op t (.int k n) (.int l m)).run P w=.ok r w/\bY X c r:=by
   intro j O;obtain⟨r,hr,i⟩:=aDt (P:=P) (w:=w) (t:=t) X O J H
   simp_all [abt]
  cases op
  case shl=>obtain⟨rfl,rfl⟩:=h;refine⟨_,?_,rfl,RV _ _⟩;rw[aQS,abt];simp[binOp,Op.shift,show ¬m<0 from fC,aRr]
  case shr=>obtain⟨rfl,rfl⟩:=h;refine⟨_,?_,rfl,aDs _ _ _ H⟩;rw[aQS,abt];simp[binOp,Op.shift,show ¬m<0 from fC,aRr]
  all_goals
   dsimp only at h;split at h
   .next j=>exact e (aQ6 j) h
   .cases h
 case bool.bool a b=>
  have f:v=.bool a:=Z;have d:v'=.bool b:=F;subst f d;have q:=U a b rfl rfl;have g:(Op.equal t (.bool a) (.bool b)).run P w=.ok (a==b) w:=run_equal_bool w t a b q;cases op<;>simp only[Option.some.injEq,Prod.mk.injEq,reduceCtorEq]at h<;>obtain⟨_,rfl⟩:=h
  .refine⟨_,?_,rfl⟩;rw[aQS,ah1];simp[binOp,g]
  .refine⟨_,?_,rfl⟩;rw[aQS,ah1];simp[binOp,g]
 case str.str x y=>
  obtain⟨rfl,H⟩:=Z;obtain⟨rfl,o⟩:=F;obtain⟨r,hr,i⟩:=aDu (P:=P) (w:=w) (t:=t) X h J
  simp_all [aBB]
end Go.Fw
namespace Go.Fw
open Go
def CT.auf:CT->Value
 |.int k=>.int k 0
 |.bool=>.bool false
 |.str=>.string ⟨#[]⟩
 |.sl _ _=>.slice none 0 0
def aP.wJ:aP->List Value
 |.nil=>[]
 |.cons c r=>c.auf::r.wJ
def aP.desc:aP->Option TypeDesc
 |.cons (.int k) .nil=>some (.int k)
 |.cons .bool .nil=>some .bool
 |.cons .str .nil=>some .string
 |.cons (.sl e _) .nil=>some (.slice e)
 |_=>none
structure qR(P:Program)(t:TypeId)(ti:TI):Prop where
 info:∃i z,P.info? t=some i/\i.size=ti.cells.len/\i.bytes=ti.bytes/\i.zero=some z/\z.cells.toList=ti.cells.wJ/\(ti.agg=false->z.cells=#[z])
 und:match ti.kind with
  |.scalar=>∃d,ti.cells.desc=some d/\P.underlying t=some d
  |.str=>P.underlying t=some .string/\ti.cells=.cons .str .nil
  |.slice e=>P.underlying t=some (.slice e)/\∃r,ti.cells=.cons (.sl e r) .nil
  |.struct fs=>∃Kw:Array Field,P.underlying t=some (.struct Kw)/\(fs=Kw.toList.map λf=>(f.offset,f.type))/\∀f∈Kw.toList,(P.info? f.type).isSome=true
 small:ti.bytes<=4096
 cmp:ti.cmp=true->∀(w:World)(s u:Operand)(X:V)(xs ys:List Cell)(vs us:Array Value)(b:Bool),ti.cells.fits xs=true->aC X xs vs.toList->aC X ys us.toList->pI xs ys=some b->
  (do eqGuard .eql t s u (.agg vs) (.agg us);binOp .eql t (.agg vs) (.agg us)).run P w=.ok (.bool b) w/\
  (do eqGuard .neq t s u (.agg vs) (.agg us);binOp .neq t (.agg vs) (.agg us)).run P w=.ok (.bool (!b)) w
variable {P:Program} {w0:World} {M:Nat->Prop} {T:Ext} {γ γ':Nat->Value} {st:St} {a:Act} {w w':World} {Θ:mD}
variable {t:TypeId}
theorem qR.size{b:TI}(h:qR P t b):(P.info? t).map (·.size)=some b.cells.len:=by
 obtain⟨i,z,D,Y,_⟩:=h.info
 grind
theorem qR.run_sizeOf{b:TI}(h:qR P t b)(w:World):(sizeOf t).run P w=.ok b.cells.len w:=by obtain⟨i,z,D,Y,_⟩:=h.info;simp[sizeOf,typeInfo,D,Y]
theorem qR.ah2{f:TI}(h:qR P t f)(w:World):(isAgg t).run P w=.ok f.agg w:=by
 have b:=h.und;unfold TI.agg;unfold isAgg;split at b
 .next hk=>obtain⟨d,e,b⟩:=b;rw[hk,aQS,aQI b w];unfold aP.desc at e;split at e<;>first|(cases e;rfl)|cases e
 · simp_all [aQI]
 · simp_all [aQI]
 .next fs hk=>
  obtain⟨g,b,_,_⟩:=b
  simp_all [aQI]
theorem akM(X:V)(fr:Bool):∀(r:aP)(I:List Value)(x:r.den),dD X.w.heap (X.fG fr) r I x->aC X (aP.row fr r x) I
 |.nil,I,_,h=>by subst h;trivial
 |.cons c r,I,(x,y),h=>by
  obtain⟨v,b,rfl,C,O⟩:=h;refine⟨?_,akM X fr r b y O⟩;cases c with
  |int k=>exact C
  |bool=>exact C
  |str=>exact C
  |sl e r=>exact C
theorem aeh{b m:Nat}{A:Array Value}{d:Nat×Nat}(h:w.heap[b]? =some (.cells A t d))(n:Nat):
 w.rangeAt b m ((A.toList.drop m).take n):=by
 intro j v e
 grind [World.cell?]
theorem Vr{d:TI}(i:qR P t d)(X:V){b m k:Nat}{A:Array Value}{e:TypeId}{o:Nat×Nat}
 (U:w.heap[b]? =some (.cells A e o)) {h:List Cell} {n:Nat} (hr:aC X h ((A.toList.drop m).take n)) {v:SV} (R:qQ d h k=some v):
 ∃u,(Instr.loadAt t (.pointer (some ⟨b,m+k,none⟩))).run P w=.ok u w/\ig X v u:=by
 unfold qQ at R;have L:=aC.length _ _ hr;split at R
 .next hagg=>
  split at R
  .next f=>
   cases R;have f:k+d.cells.len<=h.length:=aRk f;have g:=i.und;unfold TI.agg at hagg;split at hagg
   .next fs hk=>
    rw[hk]at g;obtain⟨r,g,_,_⟩:=g;have l:(((A.toList.drop m).take n).drop k).take d.cells.len=(A.toList.drop (m+k)).take d.cells.len:=by
     grind [jV,List.drop_drop]
    have W:((A.toList.drop (m+k)).take d.cells.len).length=d.cells.len:=by
     grind
    refine⟨.agg ((A.toList.drop (m+k)).take d.cells.len).toArray,?_,_,rfl,?_⟩
    .exact run_loadAt_mid w b (m+k) t _ _ (aeh U _) g rfl (by rw[i.size,W])
    grind [aC.take,aC.drop]
   .cases hagg
  .cases R
 .next hagg=>
  split at R
  .next c hc=>
   cases R;obtain⟨u,g,q⟩:=aC.get _ _ k c hr hc;refine⟨u,?_,q⟩;have j:w.cell? ⟨b,m+k,none⟩=some u:=by
    grind [World.cell?]
   simp only[Instr.loadAt,Instr.sureAddr,aQS,aRr,aRn,loadVar,i.ah2,hagg,aSA,if_false]
   simp_all
  .cases R
end Go.Fw
namespace Go.Fw
open Go
def aP.takeC:Nat->aP->aP
 |0,_=>.nil
 |_+1,.nil=>.nil
 |n+1,.cons c r=>.cons c (r.takeC n)
def aP.aqe:Nat->aP->aP
 |0,r=>r
 |_+1,.nil=>.nil
 |n+1,.cons _ r=>r.aqe n
def RX(P:Program)(rec:TypeId->aP->Bool):List Field->Nat->aP->Bool
 |[],_,cs=>match cs with|.nil=>true|_=>false
 |f::fs,off,cs=>!(f.name== "_")&&(Nat.beq f.offset off&&(match P.info? f.type with
  |some i=>Nat.ble i.size cs.len&&(rec f.type (cs.takeC i.size)&&RX P rec fs (off+i.size) (cs.aqe i.size))
  |none=>false))
def aDv(P:Program):Nat->TypeId->aP->Bool
 |0,_,_=>false
 |n+1,t,cs=>match P.underlying t with
  |some (.int k)=>match cs with|.cons (.int l) .nil=>decide (k=l)|_=>false
  |some .bool=>match cs with|.cons .bool .nil=>true|_=>false
  |some .string=>match cs with|.cons .str .nil=>true|_=>false
  |some (.struct fs)=>!P.stoodInHeld t&&RX P (aDv P n) fs.toList 0 cs
  |_=>false
variable {P:Program}
theorem awj:∀(n:Nat)(A:aP)(q:List Cell),A.fits q=true->(A.takeC n).fits (q.take n)=true/\(A.aqe n).fits (q.drop n)=true
 |0,A,q,h=>⟨by simp[aP.takeC,aP.fits],by grind [aP.aqe]⟩
 |n+1,.nil,[],h=>⟨rfl,rfl⟩
 |n+1,.cons c r,x::q,h=>by
  rw[aP.fits,aQm]at h;have a:=awj n r q h.2;exact⟨by rw[aP.takeC,List.take_succ_cons,aP.fits,h.1,a.1];rfl,a.2⟩
 |n+1,.nil,_::_,h|n+1,.cons _ _,[],h=>by simp[aP.fits]at h
theorem an2{X:V}:∀(n:Nat)(q:List Cell)(I:List Value),aC X q I->aC X (q.take n) (I.take n)/\aC X (q.drop n) (I.drop n)
 |0,q,I,h=>⟨by simp[aC],oQ⟩
 |n+1,[],[],h=>by simp[aC]
 |n+1,x::q,v::I,h=>by
  have a:=an2 n q I h.2;exact⟨⟨h.1,a.1⟩,a.2⟩
 |n+1,[],_::_,h|n+1,_::_,[],h=>o5
theorem ah3:∀(n:Nat)(q e:List Cell)(b:Bool),pI q e=some b->∃f g,pI (q.take n) (e.take n)=some f/\pI (q.drop n) (e.drop n)=some g/\b=(f&&g)
 |0,q,e,b,h=>⟨true,b,rfl,oQ,ni⟩
 |n+1,[],[],b,h=>jv
 |n+1,x::q,y::e,b,h=>by
  rw[pI]at h;split at h
  .next a c h1 h2=>
   obtain⟨f,g,w,d,rfl⟩:=ah3 n q e c h2
   grind [pI]
  .cases h
 |n+1,[],_::_,b,h|n+1,_::_,[],b,h=>by simp[pI]at h
theorem abu:∀(A:aP)(q:List Cell),A.fits q=true->q.length=A.len
 |.nil,[],_=>rfl
 |.cons c r,x::q,h=>by
  rw[aP.fits,aQm]at h;rw[aQz,aP.len,abu r q h.2]
 |.nil,_::_,h|.cons _ _,[],h=>by simp[aP.fits]at h
theorem aei{X:V}:∀(q:List Cell)(I:List Value),aC X q I->I.length=q.length
 |[],[],_=>rfl
 |_::q,_::I,h=>by rw[aQz,aQz,aei q I h.2]
 |[],_::_,h|_::_,[],h=>o5
theorem acp:∀(q d:List Cell)(b:Bool),pI q d=some b->d.length=q.length
 |[],[],_,_=>rfl
 |x::q,y::d,b,h=>by
  rw[pI]at h;split at h
  .next a c h1 h2=>rw[aQz,aQz,acp q d c h2]
  .cases h
 |[],_::_,_,h|_::_,[],_,h=>by simp[pI]at h
def aJj(P:Program)(d:Nat)(t:TypeId)(I n:List Value)(b:Bool)(w:World):Prop:=
 ((∃a,P.underlying t=some (.struct a))/\(Op.equalIn d t (.agg I.toArray) (.agg n.toArray)).run P w=.ok b w)\/
 ((∀w,(isAgg t).run P w=.ok false w)/\∃v u,I=[v]/\n=[u]/\(Op.equalIn d t v u).run P w=.ok b w)
theorem aqf{d:Nat}{rec:TypeId->aP->Bool}{X:V}(w:World)
 (g:∀t A,rec t A=true->∀(q e:List Cell)(I n:List Value)(b:Bool),A.fits q=true->aC X q I->aC X e n->pI q e=some b->aJj P d t I n b w):
 ∀(o:List Field)(m:Nat)(A:aP)(k j:List Value)(q e:List Cell)(I n:List Value)(b:Bool),RX P rec o m A=true->k.length=m->j.length=m->A.fits q=true->aC X q I->aC X e n->pI q e=some b->
  (Op.eqFields d (k++I).toArray (j++n).toArray o).run P w=.ok b w
 |[],m,A,k,j,q,e,I,n,b,h,_,_,hf,hx,hy,he=>by
  cases A with
  |nil=>cases q with
   |nil=>
    cases e with
    |nil=>cases he;rfl
    |cons=>grind [pI]
   |cons=>grind [aP.fits]
  |cons=>simp[RX]at h
 |f::o,m,A,k,j,q,e,I,n,b,h,hpv,hpu,hf,hx,hy,he=>by
  rw[RX,aQm,aQm]at h;obtain⟨H,z,h⟩:=h;have z:=aQq z;split at h
  .next i hi=>
   rw[aQm,aQm]at h;obtain⟨M,hr,h⟩:=h;obtain⟨x,B,J,K,rfl⟩:=ah3 i.size q e b he;have C:=awj i.size A q hf;have T:=an2 i.size q I hx;have F:=an2 i.size e n hy;have l:f.name≠ "_" :=by simpa using H
   have lv:I.length=A.len:=by rw[aei _ _ hx,abu _ _ hf]
   have Y:n.length=A.len:=by rw[aei _ _ hy,acp _ _ _ he,abu _ _ hf]
   have s:=g f.type _ hr _ _ _ _ x C.1 T.1 F.1 J;have E:(Op.eqFields d (k++I).toArray (j++n).toArray o).run P w=.ok B w:=by
    have:=aqf w g o (m+i.size) (A.aqe i.size) (k++I.take i.size) (j++n.take i.size) _ _ _ _ B h x9 x9 C.2 T.2 F.2 K
    simp_all
   have N:∀w,(sizeOf f.type).run P w=.ok i.size w:=λw=>by simp[sizeOf,typeInfo,hi]
   have y:∃a c,(part f.type (k++I).toArray f.offset).run P w=.ok a w/\(part f.type (j++n).toArray f.offset).run P w=.ok c w/\(Op.equalIn d f.type a c).run P w=.ok x w:=by
    rcases s with⟨⟨U,D⟩,r⟩|⟨L,v,u,R,D,r⟩
    · simp_all [isAgg,aQI,part]
    .have g1:(k++I).toArray[f.offset]? =some v:=by
      have:(I.take i.size)[0]? =some v:=afJ
      grind
     have W:(j++n).toArray[f.offset]? =some u:=by
      have:(n.take i.size)[0]? =some u:=by rw[D];rfl
      grind
     simp_all [part]
   obtain⟨a,c,O,Q,S⟩:=y;rw[Op.eqFields];rw[if_pos l,aQS,O,aRn,aQS,Q,aRn,aQS,S,aRn];cases x with
   |true=>grind
   |false=>simp
  .cases h
theorem one_cell{X:V}{c:CT}{q ys:List Cell}{I n:List Value}{b:Bool}(d:(aP.cons c .nil).fits q=true)(Z:aC X q I)(F:aC X ys n)(g:pI q ys=some b):
 ∃x y v u,I=[v]/\n=[u]/\c.fits x=true/\bY X x v/\bY X y u/\ahW x y=some b:=by
 cases q with
 |nil=>grind [aP.fits]
 |cons x q=>
  rw[aP.fits,aQm]at d;cases q with
  |cons=>grind [aP.fits]
  |nil=>
   cases ys with
   |nil=>grind [pI]
   |cons y ys=>
    cases ys with
    |cons=>grind [pI]
    |nil=>
     cases I with
     |nil=>cases Z
     |cons v I=>
      cases n with
      |nil=>cases F
      |cons u n=>
       cases I with
       |cons=>cases Z.2
       |nil=>
        cases n with
        |cons=>cases F.2
        |nil=>
         refine⟨x,y,v,u,rfl,rfl,d.1,Z.1,F.1,?_⟩;rw[pI]at g;split at g
         .next a c h1 h2=>cases h2;grind
         .cases g
theorem aFe{X:V}(w:World):∀(n:Nat)(t:TypeId)(A:aP),aDv P n t A=true->∀(d:Nat),n<=d->∀(q f:List Cell)(I e:List Value)(b:Bool),A.fits q=true->aC X q I->aC X f e->pI q f=some b->aJj P d t I e b w
 |0,t,A,h,_,_,_,_,_,_,_,_,_,_,_=>o5
 |n+1,t,A,h,0,hd,_,_,_,_,_,_,_,_,_=>fC
 |n+1,t,A,h,d+1,hd,q,f,I,e,b,hf,hx,hy,he=>by
  unfold aDv at h;split at h
  .next k hu=>
   split at h
   .next l=>
    obtain⟨x,y,v,u,rfl,rfl,N,C,O,K⟩:=one_cell hf hx hy he;refine .inr ⟨λw=>by simp_all [isAgg,aQI],v,u,rfl,rfl,?_⟩;cases x<;>simp[CT.fits]at N;cases y<;>simp only[ahW,reduceCtorEq]at K
    next i a j c=>
    split at K
    .next hkk=>
     rw[C.1,O.1]
     grind [run_equalIn_int]
    .cases K
   .cases h
  .next hu=>
   split at h
   .obtain⟨x,y,v,u,rfl,rfl,N,C,O,K⟩:=one_cell hf hx hy he;refine .inr ⟨λw=>by simp_all [isAgg,aQI],v,u,rfl,rfl,?_⟩;cases x<;>simp[CT.fits]at N;cases y<;>simp[ahW]at K
    next a c=>
    have C:v=.bool a:=C;have O:u=.bool c:=O
    grind [run_equalIn_bool]
   .cases h
  .next hu=>
   split at h
   .obtain⟨x,y,v,u,rfl,rfl,N,C,O,K⟩:=one_cell hf hx hy he;refine .inr ⟨λw=>by simp_all [isAgg,aQI],v,u,rfl,rfl,?_⟩;cases x<;>simp[CT.fits]at N;cases y<;>simp[ahW]at K
    next a c=>
    rw[C.1,O.1,run_equalIn_string w d t _ _ hu]
    simp_all
   .cases h
  .next fs hu=>
   rw[aQm]at h;have J:P.stoodInHeld t=false:=by simpa using h.1
   have g:P.fieldsOf t=fs:=by grind [Program.fieldsOf]
   refine .inl ⟨⟨fs,hu⟩,?_⟩;rw[run_equalIn_struct w d t _ _ jv J,g];have:=aqf (X:=X) (d:=d) w (λt A hr q f I e b=>aFe w n t A hr d fC q f I e b) fs.toList 0 A [] [] q f I e b h.2 rfl rfl hf hx hy he
   grind
  .cases h
def aDw(P:Program)(t:TypeId)(A:aP):Bool:=aDv P 20 t A&&(!P.eqGuardType P.depth t&&(match P.underlying t with|some (.struct _)=>true|_=>false))
theorem aJ2{t:TypeId}{A:aP}(h:aDw P t A=true)(w:World)(s u:Operand)(X:V)(q ys:List Cell)(I n:Array Value)(b:Bool)(e:A.fits q=true)(Z:aC X q I.toList)(F:aC X ys n.toList)(g:pI q ys=some b):
 (do eqGuard .eql t s u (.agg I) (.agg n);binOp .eql t (.agg I) (.agg n)).run P w=.ok (.bool b) w/\
 (do eqGuard .neq t s u (.agg I) (.agg n);binOp .neq t (.agg I) (.agg n)).run P w=.ok (.bool (!b)) w:=by
 unfold aDw at h;rw[aQm,aQm]at h;obtain⟨C,O,K⟩:=h;have a:(Op.equalIn 10000 t (.agg I) (.agg n)).run P w=.ok b w:=by
  rcases aFe w 20 t A C 10000 fC q ys I.toList n.toList b e Z F g with⟨_,h⟩|⟨d,_⟩
  .simpa using h
  .split at K
   · simp_all [isAgg,aQI]
   .cases K
 grind [Sem.run_bind,run_eqGuard_agg,Result.andThen_ok,run_eql_struct,run_neq_struct]
end Go.Fw
namespace Go.Fw
open Go
variable {P:Program} {w0:World} {M:Nat->Prop} {T:Ext} {γ γ':Nat->Value} {st:St} {a:Act} {w w':World} {Θ:mD}
theorem aK6{s:Sem Value}{u:Value}(h:s.run P w=.ok u w'):(do pure (Next.value (← s)):Sem Next).run P w=.ok (.value u) w':=by simp[h]
variable {t:TypeId}{ti:TI}
theorem aat(D:∀t ti,Θ t=some ti->qR P t ti)(h:Rel w0 M T γ st a w)(S:Θ t=some ti){x:Operand}{v:SV}:
 ((∃o m A,st.ev x=.aZ o m/\st.ak o=some (.var A)/\qQ ti A m=some v)\/
  (∃o i m e r l f,st.ev x=.uG o i m/\st.ak o=some (.arr e r l f)/\i<l.length/\qQ ti (aP.row f r (l.getD i r.dflt)) m=some v)\/
  (∃r y m f,st.ev x=.xH r y m f/\qQ ti (aP.row f r y) m=some v))->
 ∃u,(Instr.loadAt t (a.eval x)).run P w=.ok u w/\ig (aI w0 T γ st w) v u:=by
 have Z:=lQ h x;rintro(⟨o,m,A,e,ho,hv⟩|⟨o,i,m,e',r,l,f,e,ho,hi,hv⟩|⟨r,y,m,f,e,hv⟩)
 .rw[e]at Z;obtain⟨b,Y,_,E,Z⟩:=Z;obtain⟨b',arr,ty,W,U,hr⟩:=h.ak o _ ho;have hr':aC (aI w0 T γ st w) A ((arr.toList.drop 0).take arr.size):=by grind [List.take_of_length_le]
  grind [Vr]
 .rw[e]at Z;obtain⟨b,n,H,d,r2,l2,I,K,E,Z⟩:=Z;have k:st.ak o=some (.arr d r2 l2 I):=K;rw[ho]at k;cases k;obtain⟨q,⟨C,O⟩,R,_,B⟩:=h.ak o _ ho;rcases O with⟨N,_⟩|⟨g,s,Q,hg,_,hh,hle,_,hsz,j⟩
  .omega
  .have hγ1:γ o=.slice (some ⟨b,0,none⟩) n H:=E;have L:γ o=.slice (some ⟨g,0,none⟩) l.length s:=hg;rw[hγ1]at L;obtain⟨rfl,-,-⟩:=L;rw[Z];have z:i*r.len+r.len<=l.length*r.len:=by
    have:(i+1)*r.len<=l.length*r.len:=aQy _ hi
    grind
   have J:l[i]? =some (l.getD i r.dflt):=jv;have F:=B i _ J;rw[← j,jV _ _ _ _ z]at F;exact Vr (D t ti S) (aI w0 T γ st w) hh (akM _ f r _ _ F) hv
 .rw[e]at Z;obtain⟨b,base,A,ty,fz,Z,X,U,F⟩:=Z;rw[Z];exact Vr (D t ti S) (aI w0 T γ st w) U (akM _ f r _ _ F) hv
theorem addr_add(b o k:Nat):(⟨b,o,none⟩:Addr).add k=⟨b,o+k,none⟩:=Addr.add_mid b o k
theorem Vs(e:∀t ti,Θ t=some ti->qR P t ti){s:TypeId}{g:TI}(Y:Θ s=some ti){fs:List (Nat×TypeId)}(j:ti.kind=.struct fs){f k:Nat}(X:fs[f]? =some (k,t))
 (q:Θ t=some g) (n:g.cells≠ .nil) (b o:Nat):(Instr.fieldAt s (.pointer (some ⟨b,o,none⟩)) f).run P w=.ok (.pointer (some ⟨b,o+k,none⟩)) w:=by
 have h:=(e s ti Y).und;rw[j]at h;obtain⟨m,h,rfl,_⟩:=h;rw[aQ9]at X;cases d:m.toList[f]? with
 |none=>grind
 |some fl=>
  rw[d]at X;obtain⟨rfl,rfl⟩:=X;have i:m[f]? =some fl:=adX;have l:g.cells.len≠0:=by
   cases N:g.cells with
   |nil=>grind
   |cons c r=>simp[aP.len]
  simp[Instr.fieldAt,Instr.sureAddr,aQS,aQI h w,i,fieldPlace,(e _ g q).run_sizeOf,l,addr_add]
variable {e:TypeId}
theorem run_indexAt(d:∀t ti,Θ t=some ti->qR P t ti){f:TI}(i:Θ t=some ti)(j:ti.kind=.slice e)(g:Θ e=some f)(b o len cap:Nat)(k:IntKind)(n:Int)(l:0<=n)(H:n<len):
 (Instr.indexAt t (.slice (some ⟨b,o,none⟩) len cap) (.int k n)).run P w=.ok (.pointer (some ⟨b,o+n.toNat*f.cells.len,none⟩)) w:=by
 have h:=(d t ti i).und;rw[j]at h;simp[Instr.indexAt,asIntOf,aQS,aQI h.1 w,l,H,(d e f g).run_sizeOf,addr_add]
variable {X:V}{r:aP}{fr:Bool}{v:Value}
theorem aHt{l:List r.den}(h:bY X (.sl e r l fr) v){i:Nat}(D:i<l.length):
 ∃b m y,v=.slice (some ⟨b,m,none⟩) l.length y/\dB X (.xH r (l.getD i r.dflt) 0 fr) (.pointer (some ⟨b,m+i*r.len,none⟩)):=by
 rcases h.2 with⟨W,_⟩|⟨b,m,y,A,t,d,R,_,f,U,Z⟩
 · grind
 .have hli:l[i]? =some (l.getD i r.dflt):=jv;exact⟨b,m,y,R,b,m+i*r.len,A,t,d,rfl,f,U,Z i _ hli⟩
theorem aBD(b:∀t ti,Θ t=some ti->qR P t ti)(d:Θ t=some ti)(j:ti.kind=.str)(s:ByteArray)(ty:TypeId):
 (Builtin.len_ #[t] ty #[.string s]).run P w=.ok (.int .i64 s.size) w:=by
 have f:=(b t ti d).und
 simp_all [Builtin.len_,aQI,goInt]
theorem run_len_slice(b:∀t ti,Θ t=some ti->qR P t ti)(d:Θ t=some ti)(j:ti.kind=.slice e)(a:Option Addr)(n c:Nat)(ty:TypeId):
 (Builtin.len_ #[t] ty #[.slice a n c]).run P w=.ok (.int .i64 n) w:=by
 have f:=(b t ti d).und
 simp_all [Builtin.len_,aQI,goInt]
theorem size_bytes(s:Bytes):(⟨s.toArray⟩:ByteArray).size=s.length:=by show s.toArray.size=_;simp
theorem ay0{l:List r.den}(h:bY X (.sl e r l fr) v):∃a c,v=.slice a l.length c/\l.length<=maxLen:=by
 rcases h.2 with⟨W,a,c,R⟩|⟨b,m,y,A,t,d,R,_⟩
 · grind
 .exact⟨_,y,R,h.1⟩
variable {o:Nat}
theorem aJ3(h:Rel w0 M T γ st a w)(N:bY (aI w0 T γ st w) (.ref o) v){l:List r.den}(z:st.ak o=some (.arr e r l fr)):
 ∃a c,v=.slice a l.length c/\l.length<=maxLen:=by
 obtain⟨_,R,_⟩:=N;obtain⟨q,⟨_,O⟩,_⟩:=h.ak o _ z
 grind
theorem akN(n:Nat)(h:n<=maxLen):IntKind.i64.min<=(n:Int)/\(n:Int)<=IntKind.i64.max:=by unfold maxLen at h;have b:IntKind.i64.min=-9223372036854775808:=rfl;have d:IntKind.i64.max=9223372036854775807:=rfl;omega
theorem run_sliceBound{k:IntKind}{n:Int}{y:Nat}{c:BoundsCode}(l:0<=n)(C:n<=y):(Instr.sliceBound (.int k n) y c).run P w=.ok n.toNat w:=by simp[Instr.sliceBound,asIntOf,l,C]
theorem AL(h:Rel w0 M T γ st a w){len cap:Nat}(d:len<=cap){f D:Option Operand}{p:Prop}{x y:Nat}(U:sD st len f D=some (p,x,y))(J:p)(sl:Bool):
 (Instr.sliceBounds sl len cap (f.map a.eval) (D.map a.eval) none).run P w=.ok (x,y,cap) w/\x<=y/\y<=len:=by
 unfold sD at U;split at U
 .cases U
  simp_all [Instr.sliceBounds]
 .next l=>
  split at U
  .next n hn=>
   cases U;obtain⟨k,j,_⟩:=CV h hn
   simp_all [Instr.sliceBounds,run_sliceBound]
  .cases U
 .next hh=>
  split at U
  .next n hn=>cases U;obtain⟨k,j,_⟩:=CV h hn;refine⟨?_,fC,fC⟩;simp only[Instr.sliceBounds,aSM,aR3,j,aQS,aRr,aRn];rw[run_sliceBound J.1 fC];simp
  .cases U
 .next l hh=>
  split at U
  .next n m hn hm=>
   obtain⟨k,j,_⟩:=CV h hn;obtain⟨g,b,_⟩:=CV h hm;simp only[Instr.sliceBounds,aSM,j,b,aQS,aRr,aRn]
   grind [run_sliceBound,Result.andThen_ok]
  .cases U
theorem axH(s:Bytes)(x y:Nat):(⟨s.toArray⟩:ByteArray).extract x y=⟨((s.take y).drop x).toArray⟩:=by apply ByteArray.ext;simp[List.drop_take]
theorem aJ4{l:List r.den}{d:Option Addr}{n c:Nat}(h:bY X (.sl e r l fr) (.slice d n c)){x y:Nat}(g:x<=y)(F:y<=l.length):
 bY X (.sl e r ((l.take y).drop x) fr) (.slice (if c=x then d else d.map (·.add (x*r.len))) (y-x) (c-x)):=by
 have L:((l.take y).drop x).length=y-x:=ql;refine⟨by exact aQn fC h.1,?_⟩;by_cases f:y=x
 · simp_all
 .rcases h.2 with⟨hl,_⟩|⟨b,off,cap,cs,t,fz,hv,hc,hS,hb,hx⟩
  · grind
  .simp only[Value.slice.injEq]at hv;refine .inr ⟨b,off+x*r.len,c-x,cs,t,fz,?_,fC,hS,hb,λi z D=>?_⟩
   · grind [addr_add]
   grind
def upd(γ:Nat->Value)(o:Nat)(v:Value):Nat->Value:=λp=>match Nat.beq p o with|true=>v|false=>γ p
theorem upd_same(γ:Nat->Value)(o:Nat)(v:Value):upd γ o v o=v:=by simp[upd,aRs]
variable {p:Nat}
theorem VU(h:p≠o):Nat.beq p o=false:=by
 grind [Nat.eq_of_beq_eq_true]
theorem xk(γ:Nat->Value)(v:Value)(h:p≠o):upd γ o v p=γ p:=by simp[upd,VU h]
theorem add_same(st:St)(o:Nat)(x:bD):(st.add o x).ak o=some x:=by simp[St.add,aRs]
theorem vg(st:St)(x:bD)(h:p≠o):(st.add o x).ak p=st.ak p:=by simp[St.add,VU h]
variable {b:Nat}
theorem heap_alloc_old(w:World)(x:Obj)(h:b<w.heap.size):(w.alloc x).heap[b]? =w.heap[b]? :=by
 show(w.heap.push x)[b]? =_
 grind
theorem W9(w:World)(x:Obj):(w.alloc x).heap[w.heap.size]? =some x:=by
 show(w.heap.push x)[w.heap.size]? =_
 grind
theorem Rel.alloc1(h:Rel w0 M T γ st a w)(o:Nat)(x:bD)(k:st.ak o=none)(g:∀A,x=.var A->o%64≠48)(arr:Array Value)(t:TypeId)(v:Value)(R:blk v=some w.heap.size)
 (Z:(aI w0 T γ st w).le ⟨w.alloc (.cells arr t),w0.heap.size,T,upd γ o v,(st.add o x).ak⟩->eF ⟨w.alloc (.cells arr t),w0.heap.size,T,upd γ o v,(st.add o x).ak⟩ o x):
 Rel w0 M T (upd γ o v) (st.add o x) a (w.alloc (.cells arr t))/\(aI w0 T γ st w).le ⟨w.alloc (.cells arr t),w0.heap.size,T,upd γ o v,(st.add o x).ak⟩:=by
 have i:∀p y,st.ak p=some y->(st.add o x).ak p=some y:=by
  grind [vg]
 have d:∀p y,st.ak p=some y->upd γ o v p=γ p:=by
  grind [xk]
 have j:(w.alloc (.cells arr t)).heap.size=w.heap.size+1:=by
  simp_all
 have le:(aI w0 T γ st w).le ⟨w.alloc (.cells arr t),w0.heap.size,T,upd γ o v,(st.add o x).ak⟩:=by
  refine⟨aQp _,λb U=>⟨⟨?_,U.2.1,λp y J=>?_⟩,heap_alloc_old w _ U.1⟩,λp A J=>⟨⟨A,i p _ J⟩,d p _ J⟩,λp e r l fr J=>⟨⟨l,fr,i p _ J⟩,d p _ J⟩⟩
  .show b<(w.alloc (.cells arr t)).heap.size;have:b<w.heap.size:=U.1;omega
  .show blk (upd γ o v p)≠some b;by_cases e:p=o
   .rw[e,upd_same,R];have:b<w.heap.size:=U.1
    grind
   .rw[xk γ v e];have f:(st.add o x).ak p=some y:=J;rw[vg st x e]at f;exact U.2.2 p y f
 refine⟨(h.grown (γ':=upd γ o v) (w':=w.alloc (.cells arr t)) (st.add o x).ak i d rfl rfl rfl fC (λb U=>heap_alloc_old w _ U) ?_ ?_ ?_).1,le⟩
 · grind [add_same,upd_same,vg]
 .intro p A J hn;by_cases e:p=o
  .subst e;rw[add_same]at J;cases m:T.N p with
   |none=>rfl
   |some v'=>exact(g A (Option.some.inj J) (T.n48 p v' m)).elim
  grind [vg]
 grind [vg]
theorem Rel.ay1(h:Rel w0 M T γ st a w)(o:Nat)(A:List Cell)(d:st.ak o=none)(f:o%64≠48)(arr:Array Value)(t:TypeId)(hr:aC (aI w0 T γ st w) A arr.toList):
 Rel w0 M T (upd γ o (.pointer (some ⟨w.heap.size,0,none⟩))) (st.add o (.var A)) a (w.alloc (.cells arr t))/\
 dB (aI w0 T (upd γ o (.pointer (some ⟨w.heap.size,0,none⟩))) (st.add o (.var A)) (w.alloc (.cells arr t))) (.aZ o 0) (.pointer (some ⟨w.heap.size,0,none⟩)):=by
 refine⟨(h.alloc1 o (.var A) d (λ_ _=>f) arr t _ rfl λle=>?_).1,w.heap.size,A,add_same _ _ _,upd_same _ _ _,rfl⟩;exact⟨w.heap.size,arr,t,upd_same _ _ _,W9 w _,aC.mono le A _ hr⟩
theorem Rel.an3(h:Rel w0 M T γ st a w)(o:Nat)(e:TypeId)(r:aP)(l:List r.den)(fr:Bool)(j:st.ak o=none)(arr:Array Value)(cap:Nat)(L:0<r.len)
 (d:l.length<=cap) (f:cap<=maxLen) (k:arr.size=cap*r.len)
 (hr:∀i x,l[i]? =some x->dD w.heap ((aI w0 T γ st w).fG fr) r ((arr.toList.drop (i*r.len)).take r.len) x):
 Rel w0 M T (upd γ o (.slice (some ⟨w.heap.size,0,none⟩) l.length cap)) (st.add o (.arr e r l fr)) a (w.alloc (.cells arr e))/\
 dB (aI w0 T (upd γ o (.slice (some ⟨w.heap.size,0,none⟩) l.length cap)) (st.add o (.arr e r l fr)) (w.alloc (.cells arr e))) (.sv (.one (.ref o))) (.slice (some ⟨w.heap.size,0,none⟩) l.length cap):=by
 refine⟨(h.alloc1 o (.arr e r l fr) j (λ_ e=>y5) arr e _ rfl λle=>?_).1,⟨e,r,l,fr,add_same _ _ _⟩,(upd_same _ _ _).symm,rfl⟩;refine⟨arr.toList.take (l.length*r.len),⟨?_,.inr ⟨w.heap.size,cap,arr,upd_same _ _ _,aQx _,W9 w _,d,f,k,rfl⟩⟩,L,?_,λi x D=>?_⟩
 · simp_all
 .intro b U _;have U:blk (upd γ o (.slice (some ⟨w.heap.size,0,none⟩) l.length cap) o)=some b:=U;rw[upd_same]at U;cases U;exact h.grow
 .have hlt:i<l.length:=(aQC.1 D).1;have g:i*r.len+r.len<=l.length*r.len:=by
   have:(i+1)*r.len<=l.length*r.len:=aQy _ hlt
   grind
  rw[jV _ _ _ _ g];exact dD.mono (λb U=>le.fG fr b U) r _ x (hr i x D)
theorem an4(X:V):∀(r:aP),aC X r.zeros r.wJ
 |.nil=>trivial
 |.cons c r=>by
  refine⟨?_,an4 X r⟩;cases c with
  |int k=>exact⟨rfl,ad1⟩
  |bool=>rfl
  |str=>exact⟨rfl,aQx _⟩
  |sl e s=>rfl
theorem ah4(h:Array Obj)(S:Nat->Prop):∀(r:aP),dD h S r r.wJ r.dflt
 |.nil=>rfl
 |.cons c r=>by
  refine⟨c.auf,r.wJ,rfl,?_,ah4 h S r⟩;cases c with
  |int k=>exact⟨rfl,show k.min<=(0:Int)/\(0:Int)<=k.max from ad1⟩
  |bool=>rfl
  |str=>exact⟨rfl,aQx _⟩
  |sl e s=>exact⟨aQx _,.inl ⟨rfl,none,0,rfl⟩⟩
theorem YK(h:Rel w0 M T γ st a w)(fr:Bool):∀(r:aP)(A:List Cell)(I:List Value)(x:r.den),aC (aI w0 T γ st w) A I->Jy st r A=some x->A.flatMap Cell.refs=[]->(fr=true->A.all (Cell.fresh st)=true)->
 dD w.heap ((aI w0 T γ st w).fG fr) r I x
 |.nil,[],[],_,_,_,_,_=>rfl
 |.nil,_::_,_,_,_,hg,_,_=>by grind [Jy]
 |.cons _ _,[],_,_,_,hg,_,_=>by grind [Jy]
 |.cons c r,y::ys,v::I,x,⟨h1,h2⟩,hg,hn,hf=>by
  rw[Jy]at hg;rw[aRf,aQV]at hn;split at hg
  .next p q hp hq=>
   cases hg;refine⟨v,I,rfl,?_,YK h fr r ys I q h2 hq hn.2 (λe=>jv)⟩;have F:fr=true->y.fresh st=true:=λe=>jv;cases c with
   |int k=>exact Cell.akL h (.int k) y v p h1 hp
   |bool=>exact Cell.akL h .bool y v p h1 hp
   |str=>exact Cell.akL h .str y v p h1 hp
   |sl e s=>
    cases y with
    |int k n=>grind [Cell.get]
    |bool b=>grind [Cell.get]
    |str s=>grind [Cell.get]
    |junk=>grind [Cell.get]
    |ref o=>grind [Cell.refs]
    |nil=>
     cases hp;have R:v=.slice none 0 0:=h1;subst R;exact⟨aQx _,.inl ⟨rfl,none,0,rfl⟩⟩
    |sl e' s' l fr'=>
     simp only[Cell.get]at hp;split at hp
     .next U=>have f:=aP.eq_of_beq s' s U;subst f;cases hp;exact iL.mono (λb U=>⟨⟨U.1,λd=>U.2 (F d)⟩,rfl⟩) (.sl e s') v l h1
     .cases hp
  .cases hg
 |.cons _ _,_::_,[],_,H,_,_,_=>o7
 |.nil,[],_::_,_,H,_,_,_=>o7
def look:List (Nat×bD)->Nat->Option bD
 |[],_=>none
 |(o,x)::r,p=>match look r p with
  |some y=>some y
  |none=>match Nat.beq p o with|true=>some x|false=>none
theorem BL:∀(d:List (Nat×bD))(st:St)(p:Nat),(st.adds d).ak p=match look d p with|some y=>some y|none=>st.ak p
 |[],st,p=>rfl
 |(o,x)::r,st,p=>by
  rw[St.adds,BL r (st.add o x) p,look];cases W:look r p with
  |some y=>rfl
  |none=>
   cases U:Nat.beq p o with
   |true=>simp[St.add,U]
   |false=>simp[St.add,U]
theorem QO:∀(d:List (Nat×bD))(st:St),(st.adds d).tmps=st.tmps/\(st.adds d).n=st.n
 |[],_=>⟨rfl,rfl⟩
 |(o,x)::r,st=>QO r (st.add o x)
theorem Fv:∀(d:List (Nat×bD))(p:Nat)(x:bD),look d p=some x->(p,x)∈d
 |[],_,_,h=>o5
 |(o,y)::r,p,x,h=>by
  rw[look]at h;cases W:look r p with
  |some z=>rw[W]at h;cases h;exact aQo _ (Fv r p x W)
  |none=>
   rw[W]at h;cases U:Nat.beq p o with
   |true=>rw[U]at h;cases h;rw[aQq U];exact aQr
   |false=>rw[U]at h;cases h
theorem akO(st:St)(δ:List (Nat×bD)):st.adds δ={st with ak:=(st.adds δ).ak}:=by
 have h:=QO δ st;cases e:st.adds δ with
 |mk n t o=>grind
theorem RY{δ:List (Nat×bD)}(h:nR st δ=true){x:bD}(W:look δ p=some x):st.ak p=none:=by
 have:=aQA.1 h _ (Fv δ p x W)
 simp_all
structure oI where
 n:Nat
 ok:World->Prop
 low:∀w,ok w->n<=w.heap.size
 stable:∀w w',ok w->w.heap.size<=w'.heap.size->(∀b,b<n->w'.heap[b]? =w.heap[b]?)->ok w'
def vw(X:V):Arg->Value->Prop
 |.sv v,u=>ig X v u
 |.kp cs,u=>dB X (.cO cs 0) u
 |.fn f caps,u=>dB X (.fn f caps) u
 |.own _ _ _,_|.ptr _,_=>False
def vz(X:V):List Arg->List Value->Prop
 |[],[]=>True
 |c::cs,v::vs=>vw X c v/\vz X cs vs
 |_,_=>False
def lY(P:Program)(G:oI)(f:FuncId)(h:VS):Prop:=
 ∀(args:List Arg)(p:Prop)(g:Out)(k:Nat)(S:Nat->Prop)(I:Array Value)(w:World),h args=some (p,g)->p->G.ok w->
  vz ⟨w,w.heap.size,S,λ_=>undef,λ_=>none⟩ args I.toList->
  Calls P f I w λe w'=>∃v d,e=.returned v/\w'.os=w.os/\w'.tape=w.tape/\w'.output=w.output/\w.heap.size<=w'.heap.size/\
   (∀b,b<w.heap.size->w'.heap[b]? =w.heap[b]?)/\
   dB ⟨w',w.heap.size,S,d,look (g.take k).2⟩ (g.take k).1 v/\
   (∀o x,look (g.take k).2 o=some x->eF ⟨w',w.heap.size,S,d,look (g.take k).2⟩ o x/\∀b,blk (d o)=some b->w.heap.size<=b/\b<w'.heap.size)/\
   (∀o x q y b,look (g.take k).2 o=some x->look (g.take k).2 q=some y->o≠q->blk (d o)=some b->blk (d q)≠some b)
def gK(args:List Arg)(p:Nat):Option bD:=
 match args[p / 64]? with
 |some (.own e r l)=>match Nat.beq (p%64) 49 with|true=>some (.arr e r l false)|false=>none
 |some (.ptr cs)=>match Nat.beq (p%64) 48 with|true=>some (.var cs)|false=>none
 |_=>none
def YL(X:V)(i:Nat):Arg->Value->Prop
 |.own _ _ _,v=>bY X (.ref (i*64+49)) v
 |.ptr _,v=>dB X (.aZ (i*64+48) 0) v
 |a,v=>vw X a v
def F6(X:V):Nat->List Arg->List Value->Prop
 |_,[],[]=>True
 |i,c::cs,v::vs=>YL X i c v/\F6 X (i+1) cs vs
 |_,_,_=>False
def CW(E:Nat->Option bD)(γ:Nat->Value)(b:Nat):Prop:=∃o x,E o=some x/\blk (γ o)=some b
def xW(S:Nat->Prop)(args:List Arg)(d:List Eff)(γ:Nat->Value)(b:Nat):Prop:=
 (S b\/CW (gK args) γ b)/\∀q y,uH d q=some y->blk (γ q)≠some b
def aau(S:Nat->Prop)(args:List Arg)(γ:Nat->Value)(w:World)(k:Nat)(out:Out)(d:List Eff)(e:Ending)(w':World):Prop:=
 ∃v γ',e=.returned v/\w'.os=w.os/\w'.tape=w.tape/\w'.output=w.output/\w.heap.size<=w'.heap.size/\
  (∀b,b<w.heap.size->¬CW (gK args) γ b->w'.heap[b]? =w.heap[b]?)/\
  dB ⟨w',w.heap.size,xW S args d γ,γ',look (out.take k).2⟩ (out.take k).1 v/\
  (∀o x,look (out.take k).2 o=some x->eF ⟨w',w.heap.size,xW S args d γ,γ',look (out.take k).2⟩ o x/\
    ∀b,blk (γ' o)=some b->b<w'.heap.size/\(w.heap.size<=b\/CW (gK args) γ b)/\∀q y,uH d q=some y->blk (γ q)≠some b)/\
  (∀o x q y b,look (out.take k).2 o=some x->look (out.take k).2 q=some y->o≠q->blk (γ' o)=some b->blk (γ' q)≠some b)/\
  (∀o x,uH d o=some x->γ' o=γ o/\eF ⟨w',w.heap.size,xW S args d γ,γ',look (out.take k).2⟩ o x)
def kM(P:Program)(G:oI)(f:FuncId)(g:Ii):Prop:=
 ∀(args:List Arg)(p:Prop)(d:YI),g args=some (p,d)->p->(∃t,d.R t)/\
  ∀(k:Nat)(S:Nat->Prop)(γ:Nat->Value)(I:Array Value)(w:World),G.ok w->F6 ⟨w,w.heap.size,S,γ,gK args⟩ 0 args I.toList->
   (∀o x,gK args o=some x->eF ⟨w,w.heap.size,S,γ,gK args⟩ o x/\∀b,blk (γ o)=some b->b<w.heap.size/\G.n<=b)->
   (∀o x q y b,gK args o=some x->gK args q=some y->o≠q->blk (γ o)=some b->blk (γ q)≠some b)->
   (∀t,d.R t->∀o x,look ((d.out t).take k).2 o=some x->uH (d.bP t) o=none)->
   Calls P f I w λe w'=>∃t,d.R t/\aau S args γ w k (d.out t) (d.bP t) e w'
theorem aJk{S':Nat->Prop}(h:X.fG true b):({X with S:=S'}:V).fG true b:=
 ⟨⟨h.1.1,λd=>by have C:=h.2 rfl;grind,h.1.2.2⟩,h.2⟩
theorem bY.newS(S':Nat->Prop):∀(c:Cell)(v:Value),c.made=true\/c.isRef=true->bY X c v->bY {X with S:=S'} c v
 |.int _ _,_,_,H|.bool _,_,_,H|.str _,_,_,H|.nil,_,_,H|.junk,_,_,H=>H
 |.sl e r l fr,v,h,H=>by
  have d:fr=true:=by rcases h with h|h;exact h;cases h
  subst d;exact iL.mono (λb U=>⟨aJk U,rfl⟩) (.sl e r) v l H
 |.ref o,v,_,H=>H
theorem aC.newS{X:V}(S':Nat->Prop):∀(A:List Cell)(I:List Value),(∀c∈A,c.made=true\/c.isRef=true)->aC X A I->aC {X with S:=S'} A I
 |[],[],_,H=>H
 |c::A,v::I,h,⟨h1,h2⟩=>⟨bY.newS S' c v (h c aQr) h1,aC.newS S' A I (λd f=>h d (aQo _ f)) h2⟩
 |[],_::_,_,H|_::_,[],_,H=>o7
theorem ig.newS(S':Nat->Prop):∀(c:SV)(v:Value),(∀x∈c.cells,x.made=true\/x.isRef=true)->ig X c v->ig {X with S:=S'} c v
 |.one c,v,h,H=>bY.newS S' c v (h c aQr) H
 |.agg cs,_,h,⟨vs,hv,H⟩=>⟨vs,hv,aC.newS S' cs _ h H⟩
theorem iy.newS{X:V}(S':Nat->Prop):∀(A:List SV)(I:List Value),(∀c∈A,∀x∈c.cells,x.made=true\/x.isRef=true)->iy X A I->iy {X with S:=S'} A I
 |[],[],_,H=>H
 |c::A,v::I,h,⟨h1,h2⟩=>⟨ig.newS S' c v (h c aQr) h1,iy.newS S' A I (λd f=>h d (aQo _ f)) h2⟩
 |[],_::_,_,H|_::_,[],_,H=>o7
theorem eF.newS(S':Nat->Prop)(o:Nat){l:List r.den}(h:eF X o (.arr e r l true)):eF {X with S:=S'} o (.arr e r l true):=by obtain⟨q,C,O,K,d⟩:=h;exact⟨q,C,O,K,λi x D=>dD.mono (λb U=>⟨aJk U,rfl⟩) r _ x (d i x D)⟩
theorem acr:∀(A:List jg)(k:Nat),A.all jg.made=true->
 (∀c∈(qK k A).1,c.made=true\/c.isRef=true)/\(∀y∈(qK k A).2,∃e r l,y.2=.arr e r l true)
 |[],_,_=>⟨(λ_ h=>o5),(λ_ h=>o5)⟩
 |x::A,k,h=>by
  simp only[aRK,aQm]at h;have f:=acr A (k+1) h.2;refine⟨λc N=>?_,λy F=>?_⟩
  .rcases aQt.1 N with rfl|N
   .cases x with
    |plain c=>exact .inl h.1
    |own e r l fr=>exact .inr rfl
   grind
  .rcases aQM.1 F with F|F
   .cases x with
    |plain c=>cases F
    |own e r l fr=>
     have d:fr=true:=h.1
     grind [jg.take]
   grind
theorem ay2(k:Nat)(x:Bool×List jg)(h:x.2.all jg.made=true):
 (∀c∈(Ea k x).1.cells,c.made=true\/c.isRef=true)/\(∀y∈(Ea k x).2,∃e r l,y.2=.arr e r l true):=by
 have:=acr x.2 k h;unfold Ea;split
 .next e1 e2=>rw[e2]at this;exact this
 .next e1 e2=>rw[e2]at this;exact this
 .next e1 e2=>rw[e2]at this;exact⟨(λc N=>by rcases aQt.1 N with rfl|N;exact .inl rfl;cases N),this.2⟩
theorem agm:∀(q:List (Bool×List jg))(k:Nat),(q.all λx=>x.2.all jg.made)=true->
 (∀v∈(lN k q).1,∀c∈v.cells,c.made=true\/c.isRef=true)/\(∀y∈(lN k q).2,∃e r l,y.2=.arr e r l true)
 |[],_,_=>⟨(λ_ h=>o5),(λ_ h=>o5)⟩
 |x::q,k,h=>by
  simp only[aRK,aQm]at h;have C:=ay2 k x h.1;have d:=agm q (k+x.2.length) h.2
  grind [lN]
theorem aC.made(S':Nat->Prop)(A:List Cell)(I:List Value)(k:A.all Cell.made=true)(H:aC X A I):aC {X with S:=S'} A I:=
 aC.newS S' A I (λc N=>.inl (aQA.1 k c N)) H
def akP:bD->Prop
 |.arr _ _ _ fr=>fr=true
 |.var cs=>cs.all Cell.made=true
theorem eF.made(S':Nat->Prop)(o:Nat):∀(x:bD),akP x->eF X o x->eF {X with S:=S'} o x
 |.arr e r l fr,k,h=>by
  have k:fr=true:=k
  grind [eF.newS]
 |.var cs,k,⟨b,arr,t,h1,h2,h3⟩=>⟨b,arr,t,h1,h2,aC.made S' cs _ k h3⟩
theorem Out.ah5(o:Out)(k:Nat)(h:o.made=true)(X:V)(S':Nat->Prop)(v:Value):
 (dB X (o.take k).1 v->dB {X with S:=S'} (o.take k).1 v)/\(∀y∈(o.take k).2,akP y.2):=by
 unfold Out.made at h;unfold Out.take;split at h
 .next cs R=>exact⟨id,λy F=>by rw[aQR.1 F];exact h⟩
 .next R=>
  have f:=agm o.aDp k h;have d:∀y∈(lN k o.aDp).2,akP y.2:=λy F=>by obtain⟨e,r,l,g⟩:=f.2 y F;rw[g];exact rfl
  split
  .next e1 e2=>rw[e2]at f d;exact⟨λH=>ig.newS S' _ v (f.1 _ aQr) H,d⟩
  .next e1 e2=>rw[e2]at f d;exact⟨λ⟨I,R,H⟩=>⟨I,R,iy.newS S' _ _ f.1 H⟩,d⟩
variable {γ0:Nat->Value}{S:Nat->Prop}
theorem Cell.LW(h:Rel w0 M T γ st a w)(f:∀b,(aI w0 T γ st w).foot b->S b)(g:∀o e r l fr b,st.ak o=some (.arr e r l fr)->blk (γ o)=some b->S b):∀(c:Cell)(v:Value),bY (aI w0 T γ st w) c v->bY ⟨w,w.heap.size,S,γ0,λ_=>none⟩ (c.view st) v
 |.int _ _,_,H|.bool _,_,H|.str _,_,H|.nil,_,H|.junk,_,H=>H
 |.sl e r l fr,v,H=>iL.mono (λb U=>⟨⟨⟨U.1.1,λ_=>f b U.1,(λ_ _ z=>by cases z)⟩,(λe=>y5)⟩,rfl⟩) (.sl e r) v l H
 |.ref o,v,⟨⟨e,r,l,fr,hx⟩,hv,_⟩=>by
  have d:st.ak o=some (.arr e r l fr):=hx;simp only[Cell.view,d];rw[hv];exact eF.reads (X:=aI w0 T γ st w) (e:=e) (l:=l) (fr:=fr) (h.ak o _ d) (λb U=>⟨⟨U.1.1,λ_=>f b U.1,(λ_ _ z=>by cases z)⟩,(λe=>y5)⟩)
   (λb U=>⟨⟨(h.lt o _ b d U).1,λ_=>g o e r l fr b d U,(λ_ _ z=>by cases z)⟩,(λe=>y5)⟩)
theorem Cells.LW(h:Rel w0 M T γ st a w){γ0:Nat->Value}{S:Nat->Prop}(d:∀b,(aI w0 T γ st w).foot b->S b)(f:∀o e r l fr b,st.ak o=some (.arr e r l fr)->blk (γ o)=some b->S b):∀(A:List Cell)(I:List Value),aC (aI w0 T γ st w) A I->aC ⟨w,w.heap.size,S,γ0,λ_=>none⟩ (A.map (Cell.view st)) I
 |[],[],H=>H
 |c::A,v::I,⟨h1,h2⟩=>⟨Cell.LW h d f c v h1,Cells.LW h d f A I h2⟩
 |[],_::_,H|_::_,[],H=>o7
theorem SV.LW(h:Rel w0 M T γ st a w)(d:∀b,(aI w0 T γ st w).foot b->S b)(f:∀o e r l fr b,st.ak o=some (.arr e r l fr)->blk (γ o)=some b->S b):∀(c:SV)(v:Value),ig (aI w0 T γ st w) c v->ig ⟨w,w.heap.size,S,γ0,λ_=>none⟩ (c.view st) v
 |.one c,v,H=>Cell.LW h d f c v H
 |.agg cs,_,⟨vs,hv,H⟩=>⟨vs,hv,Cells.LW h d f cs _ H⟩
variable {cs:List Cell}
theorem awl(h:Rel w0 M T γ st a w)(d:∀b,(aI w0 T γ st w).foot b->S b)(f:∀o e r l fr b,st.ak o=some (.arr e r l fr)->blk (γ o)=some b->S b)(H:jU (aI w0 T γ st w) cs b):jU ⟨w,w.heap.size,S,γ0,λ_=>none⟩ (cs.map (Cell.view st)) b:=by obtain⟨arr,t,g,U,i,hr⟩:=H;exact⟨arr,t,g,⟨U.1,λ_=>d b U,(λ_ _ z=>by cases z)⟩,i,Cells.LW h d f cs _ hr⟩
theorem awm(h:Rel w0 M T γ st a w){γ0:Nat->Value}{S:Nat->Prop}(d:∀b,(aI w0 T γ st w).foot b->S b)(f:∀o e r l fr b,st.ak o=some (.arr e r l fr)->blk (γ o)=some b->S b):∀(l:List (List Cell))(n:List Value),iV (aI w0 T γ st w) l n->iV ⟨w,w.heap.size,S,γ0,λ_=>none⟩ (l.map (List.map (Cell.view st))) n
 |[],[],H=>H
 |cs::l,u::n,⟨⟨b,hu,hk⟩,h2⟩=>⟨⟨b,hu,awl h d f hk⟩,awm h d f l n h2⟩
 |[],_::_,H|_::_,[],H=>o7
def vC(X:V):List AV->List Value->Prop
 |[],[]=>True
 |x::xs,v::vs=>dB X x v/\vC X xs vs
 |_,_=>False
theorem RZ(h:Rel w0 M T γ st a w){γ0:Nat->Value}{S:Nat->Prop}(d:∀b,(aI w0 T γ st w).foot b->S b)(g:∀o e r l fr b,st.ak o=some (.arr e r l fr)->blk (γ o)=some b->S b):∀(q:List AV)(n:List Value)(I:List Arg),wI st q=some I->vC (aI w0 T γ st w) q n->vz ⟨w,w.heap.size,S,γ0,λ_=>none⟩ I n
 |[],[],I,hv,_=>by cases hv;trivial
 |[],_::_,_,_,H=>H.elim
 |_::_,[],_,_,H=>H.elim
 |x::q,u::n,I,hv,⟨hx,hxs⟩=>by
  unfold wI at hv;split at hv
  .next v ws hu=>
   split at hv
   .cases hv;exact⟨SV.LW h d g v _ hx,RZ h d g q n ws hu hxs⟩
   .cases hv
  .next cs off ws hu=>
   split at hv
   .next hok=>cases hv;rw[aQm]at hok;have i:=aQq hok.1;subst i;obtain⟨b,U,j⟩:=hx;exact⟨⟨b,U,awl h d g j⟩,RZ h d g q n ws hu hxs⟩
   .cases hv
  .next f caps ws hu=>
   split at hv
   .cases hv;obtain⟨k,U,j⟩:=hx;exact⟨⟨k,U,awm h d g caps _ j⟩,RZ h d g q n ws hu hxs⟩
   .cases hv
  .cases hv
theorem Cell.BM(d:Rel w0 M T γ st a w):∀(c:Cell)(v:Value),c.refs=[]->bY (aI w0 T γ st w) c v->bY ⟨w,w.heap.size,(aI w0 T γ st w).foot,γ0,λ_=>none⟩ (c.view st) v
 |.int _ _,_,_,H|.bool _,_,_,H|.str _,_,_,H|.nil,_,_,H|.junk,_,_,H=>H
 |.sl e r l fr,v,_,H=>iL.mono (λb U=>⟨⟨⟨U.1.1,λ_=>U.1,(λ_ _ z=>by cases z)⟩,(λe=>y5)⟩,rfl⟩) (.sl e r) v l H
 |.ref o,v,hr,_=>by cases hr
theorem Cells.BM(h:Rel w0 M T γ st a w){γ0:Nat->Value}:∀(cs:List Cell)(I:List Value),cs.flatMap Cell.refs=[]->aC (aI w0 T γ st w) cs I->aC ⟨w,w.heap.size,(aI w0 T γ st w).foot,γ0,λ_=>none⟩ (cs.map (Cell.view st)) I
 |[],[],_,H=>H
 |c::cs,v::I,hr,⟨h1,h2⟩=>by
  rw[aRf,aQV]at hr;exact⟨Cell.BM h c v hr.1 h1,Cells.BM h cs I hr.2 h2⟩
 |[],_::_,_,H|_::_,[],_,H=>o7
theorem SV.BM(h:Rel w0 M T γ st a w):∀(c:SV)(v:Value),c.cells.flatMap Cell.refs=[]->ig (aI w0 T γ st w) c v->ig ⟨w,w.heap.size,(aI w0 T γ st w).foot,γ0,λ_=>none⟩ (c.view st) v
 |.one c,v,hr,H=>Cell.BM h c v (by grind [SV.cells]) H
 |.agg cs,_,hr,⟨vs,hv,H⟩=>⟨vs,hv,Cells.BM h cs _ hr H⟩
theorem awn(h:Rel w0 M T γ st a w)(d:cs.flatMap Cell.refs=[])(H:jU (aI w0 T γ st w) cs b):jU ⟨w,w.heap.size,(aI w0 T γ st w).foot,γ0,λ_=>none⟩ (cs.map (Cell.view st)) b:=by obtain⟨arr,t,f,U,g,hr⟩:=H;exact⟨arr,t,f,⟨U.1,λ_=>U,(λ_ _ z=>by cases z)⟩,g,Cells.BM h cs _ d hr⟩
theorem awo(h:Rel w0 M T γ st a w){γ0:Nat->Value}:∀(l:List (List Cell))(n:List Value),(l.flatMap λcs=>cs.flatMap Cell.refs)=[]->iV (aI w0 T γ st w) l n->iV ⟨w,w.heap.size,(aI w0 T γ st w).foot,γ0,λ_=>none⟩ (l.map (List.map (Cell.view st))) n
 |[],[],_,H=>H
 |cs::l,u::n,hr,⟨⟨b,hu,hk⟩,h2⟩=>by
  rw[aRf,aQV]at hr;exact⟨⟨b,hu,awn h hr.1 hk⟩,awo h l n hr.2 h2⟩
 |[],_::_,_,H|_::_,[],_,H=>o7
theorem JQ(h:Rel w0 M T γ st a w){γ0:Nat->Value}:∀(q:List AV)(n:List Value)(I:List Arg),wI st q=some I->Eb q=[]->vC (aI w0 T γ st w) q n->vz ⟨w,w.heap.size,(aI w0 T γ st w).foot,γ0,λ_=>none⟩ I n
 |[],[],I,hv,_,_=>by cases hv;trivial
 |[],_::_,_,_,_,H=>H.elim
 |_::_,[],_,_,_,H=>H.elim
 |x::q,u::n,I,hv,hr,⟨hx,hxs⟩=>by
  unfold wI at hv;rw[Eb,aQV]at hr;split at hv
  .next v ws hu=>
   split at hv
   .cases hv;exact⟨SV.BM h v _ hr.1 hx,JQ h q n ws hu hr.2 hxs⟩
   .cases hv
  .next cs off ws hu=>
   split at hv
   .next hok=>cases hv;rw[aQm]at hok;have l:=aQq hok.1;subst l;obtain⟨b,U,j⟩:=hx;exact⟨⟨b,U,awn h hr.1 j⟩,JQ h q n ws hu hr.2 hxs⟩
   .cases hv
  .next f caps ws hu=>
   split at hv
   .cases hv;obtain⟨d,U,j⟩:=hx;exact⟨⟨d,U,awo h caps _ hr.1 j⟩,JQ h q n ws hu hr.2 hxs⟩
   .cases hv
  .cases hv
theorem Si(h:Rel w0 M T γ st a w){d:List (List Cell)}{n:Array Value}(j:iV (aI w0 T γ st w) d n.toList):∀(q:List Operand),
 vC (aI w0 T γ st w) (handed st q d) (q.map a.eval++n.toList):=by
 have f:∀(d:List (List Cell))(n:List Value),iV (aI w0 T γ st w) d n->vC (aI w0 T γ st w) (d.map λcs=>.cO cs 0) n:=by
  intro d
  induction d with
  |nil=>intro n H;cases n with|nil=>trivial|cons _ _=>cases H
  |cons cs l ih=>
   intro n H;cases n with
   |nil=>cases H
   |cons u n=>exact⟨H.1,ih n H.2⟩
 intro q
 induction q with
 |nil=>exact f d _ j
 |cons x q ih=>exact⟨lQ h x,ih⟩
theorem vC.freeze(S:Nat->Bool)(h:Rel w0 M T γ st a w):∀(q:List AV)(n:List Value),vC (aI w0 T γ st w) q n->vC (aI w0 T γ (st.freeze S) w) (q.map (AV.freeze st S)) n
 |[],[],H=>H
 |x::q,u::n,⟨h1,h2⟩=>⟨dB.freeze S h x u h1,vC.freeze S h q n h2⟩
 |[],_::_,H|_::_,[],H=>o7
theorem agn:∀(cs:List jg)(k:Nat),∀y∈(qK k cs).2,∃e r l fr,y.2=.arr e r l fr
 |[],_,_,F=>by cases F
 |x::cs,k,y,F=>by
  rcases aQM.1 F with F|F
  .cases x with
   |plain c=>cases F
   |own e r l fr=>
    grind [jg.take]
  .exact agn cs (k+1) y F
theorem aBE(k:Nat)(x:Bool×List jg):∀y∈(Ea k x).2,∃e r l fr,y.2=.arr e r l fr:=by
 have:=agn x.2 k;unfold Ea;split
 · grind
 · grind
 grind
theorem ah6:∀(q:List (Bool×List jg))(k:Nat),∀y∈(lN k q).2,∃e r l fr,y.2=.arr e r l fr
 |[],_,_,F=>by cases F
 |x::q,k,y,F=>by
  rcases aQM.1 F with F|F
  .exact aBE k x y F
  .exact ah6 q _ y F
theorem Out.ay3(o:Out)(k:Nat)(j:k%64=1)(W:look (o.take k).2 p=some (.var cs)):p%64=0:=by
 have d:=Fv _ p _ W
 grind [Out.take,ah6]
theorem Rel.called(h:Rel w0 M T γ st a w){out:Out}{k:Nat}(j:k%64=1){d:Nat->Value}(hf:nR st (out.take k).2=true)
 (O:w'.os=w.os) (F:w'.tape=w.tape) (K:w'.output=w.output) (E:w.heap.size<=w'.heap.size) (D:∀b,b<w.heap.size->w'.heap[b]? =w.heap[b]?)
 (R:out.made=true\/S=(aI w0 T γ st w).foot)
 (hr:dB ⟨w',w.heap.size,S,d,look (out.take k).2⟩ (out.take k).1 v)
 (z:∀o x,look (out.take k).2 o=some x->eF ⟨w',w.heap.size,S,d,look (out.take k).2⟩ o x/\∀b,blk (d o)=some b->w.heap.size<=b/\b<w'.heap.size)
 (hsep:∀o x q y b,look (out.take k).2 o=some x->look (out.take k).2 q=some y->o≠q->blk (d o)=some b->blk (d q)≠some b):
 ∃γ',Rel w0 M T γ' (st.adds (out.take k).2) a w'/\dB (aI w0 T γ' (st.adds (out.take k).2) w') (out.take k).1 v:=by
 let f:=(out.take k).2
 let γ':Nat->Value:=λp=>match look f p with|some _=>d p|none=>γ p
 have GV:∀p,(st.adds f).ak p=match look f p with|some y=>some y|none=>st.ak p:=BL f st
 have m:∀p x,look f p=some x->γ' p=d p:=λp x W=>jv;have C:∀p x,st.ak p=some x->γ' p=γ p:=by
  grind [RY]
 have hA:∀p x,st.ak p=some x->(st.adds f).ak p=some x:=by
  grind [RY]
 have hN:∀p x,(st.adds f).ak p=some x->st.ak p=none->look f p=some x:=by
  grind
 have le:∀g,(g=λ_=>False)\/g=(aI w0 T γ st w).foot->V.le ⟨w',w.heap.size,g,d,look f⟩ ⟨w',w0.heap.size,T,γ',(st.adds f).ak⟩:=by
  intro g n;have B:∀o x,look f o=some x->(st.adds f).ak o=some x:=by
   grind
  refine⟨h.grow,λb U=>⟨⟨U.1,λs=>?_,λo x Z=>?_⟩,rfl⟩,λo cs W=>⟨⟨cs,B o _ W⟩,m o _ W⟩,λo e r l fr W=>⟨⟨l,fr,B o _ W⟩,m o _ W⟩⟩
  .have i:=U.2.1 (show b<w.heap.size from aQO s h.grow);rcases n with rfl|rfl
   .exact i.elim
   .exact i.2.1 s
  .show blk (γ' o)≠some b;cases W:look f o with
   |some y=>rw[m o y W];exact U.2.2 o y W
   |none=>
    have A:(st.adds f).ak o=some x:=Z;rw[GV,W]at A;rw[C o x A];intro I;have s:=(h.lt o x b A I).1;have i:=U.2.1 s;rcases n with rfl|rfl
    .exact i
    .exact i.2.2 o x A I
 have L:∃g,((g=λ_=>False)\/g=(aI w0 T γ st w).foot)/\dB ⟨w',w.heap.size,g,d,look f⟩ (out.take k).1 v/\∀o x,look f o=some x->eF ⟨w',w.heap.size,g,d,look f⟩ o x:=by
  rcases R with Y|R
  .have hmk:=out.ah5 k Y;refine⟨λ_=>False,.inl rfl,(hmk ⟨w',w.heap.size,S,d,look f⟩ (λ_=>False) v).1 hr,λo x W=>?_⟩;exact eF.made (λ_=>False) o x ((hmk ⟨w',w.heap.size,S,d,look f⟩ (λ_=>False) v).2 _ (Fv _ _ _ W)) (z o _ W).1
  grind
 obtain⟨g,n,Q,ho'⟩:=L;have N:=le g n;refine⟨γ',?_,dB.mono N _ _ Q⟩;rw[akO st f];refine(h.grown (γ':=γ') (w':=w') (st.adds f).ak hA C O F K E D (λp x J H=>?_) (λp cs J H=>by
  have h0:=out.ay3 k j (hN p _ J H);cases hT:T.N p with
  |none=>rfl
  |some v'=>have:=T.n48 p v' hT;omega) (λp x q y b J H u Y hpq U=>?_)).1
 · grind [eF.mono]
 grind
end Go.Fw
namespace Go.Fw
open Go
variable {P:Program} {w0:World} {M:Nat->Prop} {T:Ext} {γ γ':Nat->Value} {st:St} {a:Act} {w w':World} {Θ:mD} {Γ:nI}
def mP(P:Program)(f:FuncId):Prop:=∀(args:Array Value)(w:World),(callFunc f args).run P w=.ok (.enter f args) w
def Yields(P:Program)(w0:World)(M:Nat->Prop)(T:Ext)(st:St)(a:Act)(w:World)(s:Sem Value)(v:AV)(δ:List (Nat×bD)):Prop:=
 ∃u w' γ',s.run P w=.ok u w'/\Rel w0 M T γ' (st.adds δ) a w'/\dB (aI w0 T γ' (st.adds δ) w') v u
variable {v:AV}
theorem Yields.same(h:Rel w0 M T γ st a w){s:Sem Value}{u:Value}(hr:s.run P w=.ok u w)(R:dB (aI w0 T γ st w) v u):Yields P w0 M T st a w s v []:=⟨u,w,γ,hr,h,R⟩
variable {d:Nat}{t:TypeId}{x:Operand}{p:Prop}{δ:List (Nat×bD)}
theorem aBF(f:∀t g,Θ t=some g->qR P t g)(h:Rel w0 M T γ st a w)
 (N:calm Θ Γ d st (.load t x)=some (p,v,δ)) (J:p):Yields P w0 M T st a w (Instr.loadAt t (a.eval x)) v δ:=by
 simp only[calm]at N;split at N
 .next g o off ht he=>
  split at N
  .next cs ho=>
   split at N
   .next s hs=>cases N;obtain⟨u,j,hr⟩:=aat f h ht (x:=x) (v:=s) (.inl ⟨o,off,cs,he,ho,hs⟩);exact .same h j hr
   .cases N
  .cases N
 .next g o i off ht he=>
  split at N
  .next e r l fr ho=>
   split at N
   .next s hs=>cases N;obtain⟨u,j,hr⟩:=aat f h ht (x:=x) (v:=s) (.inr (.inl ⟨o,i,off,e,r,l,fr,he,ho,J,hs⟩));exact .same h j hr
   .cases N
  .cases N
 .next g r y off fr ht he=>
  split at N
  .next s hs=>cases N;obtain⟨u,j,hr⟩:=aat f h ht (x:=x) (v:=s) (.inr (.inr ⟨r,y,off,fr,he,hs⟩));exact .same h j hr
  .cases N
 .next g cs off ht he=>
  split at N
  .next s hs=>
   cases N;have Z:=lQ h x;rw[he]at Z;obtain⟨b,R,arr,q,n,X,U,hr⟩:=Z;have k:aC (aI w0 T γ st w) cs ((arr.toList.drop 0).take arr.size):=by grind [List.take_of_length_le]
   obtain⟨u,j,m⟩:=Vr (P:=P) (f t g ht) (aI w0 T γ st w) U k hs;refine .same h ?_ m
   grind
  .cases N
 .cases N
theorem an5(g:∀t B,Θ t=some B->qR P t B)(h:Rel w0 M T γ st a w){s:TypeId}{f:Nat}
 (N:calm Θ Γ d st (.fieldAddr s x f)=some (p,v,δ)):Yields P w0 M T st a w (Instr.fieldAt s (a.eval x) f) v δ:=by
 have Z:=lQ h x;simp only[calm]at N;split at N
 .next B hs=>
  split at N
  .next fs hk=>
   split at N
   .next k t hf=>
    split at N
    .next te ht=>
     split at N
     .cases N
     .next o off he hne=>cases N;rw[he]at Z;obtain⟨b,A,z,j,R⟩:=Z;refine .same h (by rw[R];exact Vs g hs hk hf ht hne b off) ⟨b,A,z,j,rfl⟩
     .next o i off he hne=>
      cases N;rw[he]at Z;obtain⟨b,n,m,e,r,l,C,z,j,R⟩:=Z;refine .same h Pm ⟨b,n,m,e,r,l,C,z,j,?_⟩
      grind
     .next r y off C he hne=>
      cases N;rw[he]at Z;obtain⟨b,base,A,E,D,R,q,U,hr⟩:=Z;refine .same h Pm ⟨b,base,A,E,D,?_,q,U,hr⟩
      grind
     .next A off he hne=>cases N;rw[he]at Z;obtain⟨b,R,u⟩:=Z;exact .same h Pm ⟨b,rfl,u⟩
     .cases N
    .cases N
   .cases N
  .cases N
 .cases N
theorem an6(f:∀t s,Θ t=some s->qR P t s)(h:Rel w0 M T γ st a w){z:Operand}
 (N:calm Θ Γ d st (.indexAddr t x z)=some (p,v,δ)) (J:p):Yields P w0 M T st a w (Instr.indexAt t (a.eval x) (a.eval z)) v δ:=by
 have Z:=lQ h x;simp only[calm]at N;split at N
 .next s n ht hn=>
  obtain⟨k,j,_⟩:=CV h hn;split at N
  .next e hkind=>
   split at N
   .next te e' r l fr he hev=>
    split at N
    .next hbeq=>
     cases N;have hr:=aP.eq_of_beq _ _ hbeq;rw[hev]at Z;obtain⟨b,m,y,R,B⟩:=aHt (X:=aI w0 T γ st w) (e:=e') Z (i:=n.toNat) fC;refine .same h (by rw[R,j];exact run_indexAt f ht hkind he b m _ y k n J.1 J.2) ?_
     grind
    .cases N
   .next te o he hev=>
    split at N
    .next e' r l fr ho=>
     split at N
     .next hbeq=>
      cases N;have hr:=aP.eq_of_beq _ _ hbeq;rw[hev]at Z;obtain⟨_,R,_⟩:=Z;obtain⟨q,⟨_,O⟩,u,_⟩:=h.ak o _ ho;rcases O with⟨_,A⟩|⟨g,y,Q,K,_⟩
      .omega
      .have h3':γ o=.slice (some ⟨g,0,none⟩) l.length y:=K;refine .same h (by rw[R,j];show(Instr.indexAt t (γ o) _).run P w=_;rw[h3'];exact run_indexAt f ht hkind he g 0 _ y k n J.1 J.2) ⟨g,l.length,y,e',r,l,fr,ho,h3',?_⟩
       grind
     .cases N
    .cases N
   · grind
   .cases N
  .cases N
 .cases N
variable {ti:TI}
theorem axI(f:qR P t ti)(j:ti.kind=.str)(s:Bytes)(k:IntKind)(n:Int)(l:0<=n)(C:n<s.length):
 (Instr.index t (.string ⟨s.toArray⟩) (.int k n)).run P w=.ok (.int .u8 ((s.getD n.toNat 0).toNat:Int)) w:=by
 have h:=f.und;have b:n.toNat<s.length:=fC;have g:(⟨s.toArray⟩:ByteArray)[n.toNat]? =some (s.getD n.toNat 0):=by
  have e:n.toNat<(⟨s.toArray⟩:ByteArray).size:=by grind [size_bytes]
  rw[getElem?_pos (⟨s.toArray⟩:ByteArray) n.toNat e];rw[aQJ,aQD b];rfl
 simp_all [Instr.index,asIntOf,aQI]
theorem ay4(e:∀t ti,Θ t=some ti->qR P t ti)(h:Rel w0 M T γ st a w){b:Operand}
 (N:calm Θ Γ d st (.index t x b)=some (p,v,δ)) (J:p):Yields P w0 M T st a w (Instr.index t (a.eval x) (a.eval b)) v δ:=by
 simp only[calm]at N;split at N
 .next ti n s ht hn hev=>
  obtain⟨k,j,_⟩:=CV h hn;split at N
  .next hkind=>cases N;obtain⟨Y,_⟩:a.eval x=.string ⟨s.toArray⟩/\s.length<=maxLen:=ve h hev;refine .same h (by grind [axI]) ⟨rfl,?_⟩;have:(s.getD n.toNat 0).toNat<256:=UInt8.toNat_lt _;have f:IntKind.u8.min=0:=rfl;have g:IntKind.u8.max=255:=rfl;omega
  .cases N
 .cases N
theorem ay5(i:∀t ti,Θ t=some ti->qR P t ti)(h:Rel w0 M T γ st a w){s:TypeId}{f:Nat}
 (N:calm Θ Γ d st (.field s x f)=some (p,v,δ)):Yields P w0 M T st a w (Instr.field s (a.eval x) f) v δ:=by
 have Z:=lQ h x;simp only[calm]at N;split at N
 .next ti hs=>
  split at N
  .next fs hk=>
   split at N
   .next k t cs hf hev=>
    split at N
    .next te ht=>
     split at N
     .next sv hsv=>
      cases N;rw[hev]at Z;obtain⟨I,R,hr⟩:=Z;have g:=(i s ti hs).und;rw[hk]at g;obtain⟨n,g,rfl,_⟩:=g;rw[aQ9]at hf;cases e:n.toList[f]? with
      |none=>grind
      |some fl=>
       rw[e]at hf;obtain⟨rfl,rfl⟩:=hf;have b:n[f]? =some fl:=WR;have j:=i _ te ht;unfold qQ at hsv;split at hsv
       .next hagg=>
        split at hsv
        .next hle=>
         cases hsv;refine .same h (u:=.agg (I.extract fl.offset (fl.offset+te.cells.len))) ?_ ⟨_,rfl,?_⟩
         .rw[R];simp[Instr.field,aQS,aQI g w,b,asAgg,part,j.ah2,hagg,j.run_sizeOf]
         simp_all [aC.take,aC.drop]
        .cases hsv
       .next hagg=>
        split at hsv
        .next c hcc=>
         cases hsv;obtain⟨u,l,o⟩:=aC.get _ _ _ _ hr hcc;have m:I[fl.offset]? =some u:=by simpa using l
         refine .same h (u:=u) ?_ o;rw[R];simp[Instr.field,aQS,aQI g w,b,asAgg,part,j.ah2,hagg,m]
        .cases hsv
     .cases N
    .cases N
   .cases N
  .cases N
 .cases N
theorem foldl_set(A:List Value):∀(m k:Nat)(cells:Array Value),m+k+A.length<=cells.size->
 ((A.zipIdx k).foldl (λ(q:Array Value)(p:Value×Nat)=>q.setIfInBounds (m+p.2) p.1) cells).toList=cells.toList.take (m+k)++A++cells.toList.drop (m+k+A.length):=by
 induction A with
 |nil=>simp_all
 |cons c A ih=>
  intro m k cells b;simp only[aQz]at b;rw[List.zipIdx_cons,List.foldl_cons,ih m (k+1) _ jv];have e:cells.toList.length=cells.size:=aRy;rw[Array.toList_setIfInBounds];generalize cells.toList=l at*;have C:(l.set (m+k) c).take (m+(k+1))=l.take (m+k)++[c]:=by rw[show m+(k+1)=m+k+1 from fC,List.take_set,aSq fC,List.set_append_right _ _ jv];rw[aRe,Nat.min_eq_left fC,Nat.sub_self];rfl
  grind [List.drop_set_of_lt]
variable {X:V}
theorem aej{A ys:List Cell}{I n:List Value}(m:Nat)(C:aC X A I)(O:aC X ys n):
 aC X (splice A m ys) (I.take m++n++I.drop (m+n.length)):=by
 grind [splice,aC.length,aC.append,aC.take,aC.drop]
theorem ay6(q:∀t ti,Θ t=some ti->qR P t ti)(h:Rel w0 M T γ st a w){fs:List (Nat×TypeId)}{place:Nat->Option (Nat×Nat)}(o:∀i m t ti,fs[i]? =some (m,t)->Θ t=some ti->place i=some (m,ti.cells.len)):
 ∀(b:List (Nat×Operand))(A g:List Cell)(cells:Array Value),aC (aI w0 T γ st w) A cells.toList->UK Θ st fs b A=some g->
  ∃f,Instr.fill place cells (b.map λx=>(x.1,a.eval x.2))=some f/\aC (aI w0 T γ st w) g f.toList
 |[],A,g,cells,hr,hb=>by
  cases hb;exact⟨cells,rfl,hr⟩
 |(i,x)::r,A,g,cells,hr,hb=>by
  rw[UK]at hb;split at hb
  .next m t v hf hev=>
   split at hb
   .next ti ht=>
    split at hb
    .next hle=>
     simp only[aQm]at hle;have C:=aQq hle.1;have O:=aRk hle.2;have Z:=lQ h x;rw[hev]at Z;have e:=ig.cells v _ Z;have L:=aC.length _ _ e;have n:=aC.length _ _ hr;have k:aC (aI w0 T γ st w) (splice A m v.cells) ((a.eval x).cells.zipIdx.foldl (λA(c,j)=>A.setIfInBounds (m+j) c) cells).toList:=by
      have l:((a.eval x).cells.zipIdx.foldl (λA(c,j)=>A.setIfInBounds (m+j) c) cells).toList=cells.toList.take m++(a.eval x).cells.toList++cells.toList.drop (m+(a.eval x).cells.toList.length):=by
       rw[← Array.foldl_toList,Array.toList_zipIdx]
       simp_all [foldl_set]
      grind [aej]
     obtain⟨f,z,s⟩:=ay6 q h o r _ g _ k hb
     grind [Instr.fill]
    .cases hb
   .cases hb
  .cases hb
theorem ay7(g:∀t ti,Θ t=some ti->qR P t ti)(h:Rel w0 M T γ st a w){e:Array (Nat×Operand)}
 (N:calm Θ Γ d st (.build t e)=some (p,v,δ)):Yields P w0 M T st a w (Instr.build t (e.map λx=>(x.1,a.eval x.2))) v δ:=by
 simp only[calm]at N;split at N
 .next ti r=>
  split at N
  .next fs hk=>
   split at N
   .next cs hb=>
    cases N;have A:=g t ti r;obtain⟨i,z,D,J,E,O,K,_⟩:=A.info;have s:=A.und;rw[hk]at s;obtain⟨n,s,o,j⟩:=s;have y:aC (aI w0 T γ st w) ti.cells.zeros z.cells.toList:=by grind [an4]
    obtain⟨b,I,B⟩:∃b,n.toList.mapM (λf=>(P.info? f.type).map λi=>(f.offset,i.size))=some b/\b=n.toList.map λf=>(f.offset,P.cellsOf f.type):=by
     refine⟨_,?_,rfl⟩;generalize n.toList=l at j
     induction l with
     |nil=>rfl
     |cons f l ih=>
      cases D:P.info? f.type with
      |none=>grind
      |some i=>
       grind [Program.cellsOf]
    have q:∀(i m:Nat)(t:TypeId)(ti:TI),fs[i]? =some (m,t)->Θ t=some ti->b[i]? =some (m,ti.cells.len):=by
     intro i m t ti F r;rw[o,aQ9]at F;cases H:n.toList[i]? with
     |none=>grind
     |some fl=>
      have:=(g _ ti r).size
      grind [Program.cellsOf]
    obtain⟨k,L,C⟩:=ay6 g h (place:=(b[·]?)) q e.toList _ _ z.cells y hb;refine .same h (u:=.agg k) ?_ ⟨k,rfl,C⟩
    simp_all [run_build,Program.built]
   .cases N
  .cases N
 .cases N
theorem agp(b:qR P t ti):∃z,(zeroValue t).run P w=.ok z w/\z.cells.toList=ti.cells.wJ:=by
 obtain⟨i,z,D,f,e,h,g,_⟩:=b.info
 simp_all [zeroValue,typeInfo]
theorem aqg(w:World)(t:TypeId)(v:Value):(newVar t v).run P w=.ok ⟨w.heap.size,0,none⟩ (w.alloc (.cells v.cells t)):=Wx
theorem ay8(b:∀t ti,Θ t=some ti->qR P t ti)(h:Rel w0 M T γ st a w)
 (N:calm Θ Γ d st (.alloc t)=some (p,v,δ)) (f:nR st δ=true):Yields P w0 M T st a w (Instr.alloc t true (.tuple #[])) v δ:=by
 simp only[calm]at N;split at N
 .next ti ht=>
  cases N;obtain⟨z,g,e⟩:=agp (w:=w) (b t ti ht);have H:st.ak (d*64)=none:=by simp_all [nR]
  obtain⟨C,O⟩:=h.ay1 (d*64) ti.cells.zeros H fC z.cells t (by grind [an4]);refine⟨_,_,_,?_,C,O⟩
  simp_all [Instr.alloc,aqg]
 .cases N
theorem aDx(h:Rel w0 M T γ st a w)
 (N:calm Θ Γ d st (.box t x)=some (p,v,δ)) (b:nR st δ=true):Yields P w0 M T st a w (Instr.box t (a.eval x)) v δ:=by
 have Z:=lQ h x;simp only[calm]at N;split at N
 .next s hev=>
  cases N;rw[hev]at Z;have H:st.ak (d*64)=none:=by simp_all [nR]
  obtain⟨C,O⟩:=h.ay1 (d*64) s.cells H fC (a.eval x).cells t (ig.cells s _ Z);refine⟨_,_,_,?_,C,O⟩;simp[Instr.box,aqg]
 .cases N
theorem amJ(h:Rel w0 M T γ st a w)(r:aP)(fr:Bool):∀(b:List (Nat×Operand))(k:Nat)(l:List r.den),OO st r k b=some l->su st b=[]->(fr=true->tY st b=true)->
 l.length=b.length/\(b.map λx=>(x.1,a.eval x.2))=((b.map λx=>a.eval x.2).zipIdx k).map (λx=>(x.2,x.1))/\(∀v∈b.map (λx=>a.eval x.2),v.cells.size=r.len)/\
 ∀i x,l[i]? =some x->dD w.heap ((aI w0 T γ st w).fG fr) r ((((b.map λx=>a.eval x.2).flatMap λv=>v.cells.toList).drop (i*r.len)).take r.len) x
 |[],k,l,hr,_,_=>by
  simp_all [OO]
 |(i,x)::ps,k,l,hr,hn,hf=>by
  rw[OO]at hr;rw[su,aQV]at hn;split at hr
  .next v l' hb hev hl'=>
   split at hr
   .next y hy=>
    cases hr;have Z:=lQ h x;rw[hev]at Z hn;have f:=ig.cells v _ Z;have g:fr=true->v.cells.all (Cell.fresh st)=true/\tY st ps=true:=by
     grind [tY]
    have m:=YK h fr r v.cells _ y f hy hn.1 (λe=>(g e).1);have L:=dD.length _ _ _ m;obtain⟨C,O,K,n⟩:=amJ h r fr ps (k+1) l' hl' hn.2 (λe=>(g e).2);refine⟨by simp[C],?_,?_,λj z o=>?_⟩
    · simp_all
    · grind
    .cases j with
     |zero=>
      grind
     |succ j=>
      grind [Nat.add_mul,List.drop_drop,List.drop_left]
   .cases hr
  .cases hr
theorem alq(k:∀t ti,Θ t=some ti->qR P t ti)(h:Rel w0 M T γ st a w){len:Nat}{b:Array (Nat×Operand)}
 (N:calm Θ Γ d st (.buildSlice t len b)=some (p,v,δ)) (Q:nR st δ=true):Yields P w0 M T st a w (Instr.buildSlice t len (b.map λx=>(x.1,a.eval x.2))) v δ:=by
 simp only[calm]at N;split at N
 .next ti ht=>
  split at N
  .next e hk=>
   split at N
   .next te he=>
    split at N
    .next l hb hrefs hrows=>
     cases N;simp only[aQm]at hb;have L:len=b.size:=aQq hb.1.1;have f:0<te.cells.len:=aRk hb.1.2;have B:len*te.cells.len<=16777216:=aRk hb.2;have H:st.ak (d*64+1)=none:=by simp_all [nR]
     obtain⟨C,O,K,y⟩:=amJ h te.cells (tY st b.toList) b.toList 0 l hrows hrefs (λe=>e);have r:=k e te he;obtain⟨i,z,D,j,A,F,J,_⟩:=r.info;have q:=(k t ti ht).und;rw[hk]at q;have s:∀(I:List Value),(∀v∈I,v.cells.size=te.cells.len)->(I.flatMap λv=>v.cells.toList).length=I.length*te.cells.len:=by
      intro I E
      induction I with
      |nil=>simp
      |cons v I ih=>
       grind
     have W:l.length=len:=jv;by_cases g:len=0
     .have hl0:l=[]:=aQ1.1 fC;obtain⟨m,n⟩:=h.an3 (d*64+1) e te.cells l (tY st b.toList) H #[] 0 f fC (aQx _) ni (λi x Z=>jv);refine⟨_,_,_,?_,m,n⟩;have o:b=#[]:=Array.size_eq_zero_iff.1 fC;subst o g;subst hl0;have u:Array.map (λ_=>(default:Value)) (Array.range 0)=#[]:=ni;simp[Instr.buildSlice,aQS,aQI q.1 w,r.run_sizeOf,Instr.fill,newRow,newObj,Sem.run,u]
     .have aPr:=Great.fill_whole f (b.toList.map λx=>a.eval x.2) ((Array.range (len*i.size)).map (z.cells[· %z.cells.size]!)) K jv;obtain⟨m,n⟩:=h.an3 (d*64+1) e te.cells l (tY st b.toList) H ((b.toList.map λx=>a.eval x.2).flatMap λv=>v.cells.toList).toArray len f fC
       (by unfold maxLen;have:len*1<=len*te.cells.len:=Nat.mul_le_mul_left _ f;omega) jv (λi x Z=>y i x Z)
      rw[W]at m n;refine⟨_,_,_,?_,m,n⟩;refine run_buildSlice w t e len _ _ i z q.1 D F (by rw[j];omega) (by rw[j];have:0<len*te.cells.len:=Nat.mul_pos fC f;omega) ?_
      simp_all
    .cases N
   .cases N
  .cases N
 .cases N
theorem KZ:∀(r:aP),r.wJ.length=r.len
 |.nil=>rfl
 |.cons _ r=>by simp[aP.wJ,aP.len,KZ r]
theorem an7(f:∀t ti,Θ t=some ti->qR P t ti)(h:Rel w0 M T γ st a w){y:Operand}
 (N:calm Θ Γ d st (.makeSlice t x y)=some (p,v,δ)) (J:p) (U:nR st δ=true):Yields P w0 M T st a w (Instr.makeSlice t (a.eval x) (a.eval y)) v δ:=by
 simp only[calm]at N;split at N
 .next ti n c ht hn hcc=>
  obtain⟨L,l,_⟩:=CV h hn;obtain⟨O,m,_⟩:=CV h hcc;split at N
  .next e hk=>
   split at N
   .next te he=>
    split at N
    .next aek=>
     cases N;have b:0<te.cells.len:=aRk aek;have u:=f e te he;obtain⟨i,z,D,q,k,H,K,_⟩:=u.info;have B:=(f t ti ht).und;rw[hk]at B;have o:st.ak (d*64+1)=none:=by simp_all [nR]
     obtain⟨Q,R,S⟩:=J;unfold big at S;have I:z.cells.size=te.cells.len:=by grind [KZ]
     have g:∀j,j<c.toNat*te.cells.len->(madeCells z.cells (c.toNat*te.cells.len))[j]? =te.cells.wJ[j%te.cells.len]? :=by
      grind [madeCells,Nat.mod_lt]
     obtain⟨r,s⟩:=h.an3 (d*64+1) e te.cells (List.replicate n.toNat te.cells.dflt) true o (madeCells z.cells (c.toNat*te.cells.len)) c.toNat b ql (by grind [maxLen])
      (size_madeCells _ _) (λj x Z=>by
        have F:j<n.toNat:=by
         grind
        have A:j*te.cells.len+te.cells.len<=c.toNat*te.cells.len:=by
         have:(j+1)*te.cells.len<=c.toNat*te.cells.len:=aQy _ fC
         grind
        have:(((madeCells z.cells (c.toNat*te.cells.len)).toList.drop (j*te.cells.len)).take te.cells.len)=te.cells.wJ:=by
         apply aRx
         grind [Nat.add_mul_mod_self_right,Nat.mod_eq_of_lt]
        grind [ah4])
     rw[List.length_replicate]at r s;refine⟨_,_,_,?_,r,s⟩;rw[l,m,← q];have E:=u.small;refine run_make w t e i z B.1 D H L O n c Q R ?_ fC;rw[k];have:(te.bytes:Int)*c<=4096*4294967296:=by have C:(te.bytes:Int)*c<=4096*c:=aR2 fC fC;omega
     omega
    .cases N
   .cases N
  .cases N
 .cases N
theorem foldl_push(e:List Int):∀(b:ByteArray),(e.foldl (λr n=>r.push (UInt8.ofNat n.toNat)) b)=⟨(b.data.toList++e.map λn=>UInt8.ofNat n.toNat).toArray⟩:=by
 induction e with
 |nil=>simp
 |cons n e ih=>
  simp_all
theorem aDy(l:List (aP.cons (.int .u8) .nil).den):byteRow l=(l.map aue).map λn=>UInt8.ofNat (Int.toNat n):=by
 simp_all [byteRow]
variable {e:TypeId}
theorem axJ{F:Nat->Prop}{v:Value}{l:List (aP.cons (.int .u8) .nil).den}(h:iL w.heap F (.sl e (.cons (.int .u8) .nil)) v l):
 (Conv.bytesToString v).run P w=.ok (.string ⟨(byteRow l).toArray⟩) w/\(byteRow l).length<=maxLen:=by
 refine⟨?_,by unfold byteRow;rw[aQG];exact h.1⟩;rcases h.2 with⟨W,a,c,R⟩|⟨b,m,f,A,t,D,R,_,_,U,Z⟩
 .subst W;rw[R];cases a with
  |none=>rfl
  |some a=>rfl
 .rw[R];rw[run_bytesToString w ⟨b,m,none⟩ l.length f (l.map aue) ?_,foldl_push,aDy]
  .rfl
  .have hcells:∀j u,((l.map aue).map (Value.int .u8))[j]? =some u->w.cell? ((⟨b,m,none⟩:Addr).add j)=some u:=by
    intro j u k;rw[aRX,aQ9]at k;cases g:l[j]? with
    |none=>grind
    |some x=>
     have hr:=Z j x g;obtain⟨n,o⟩:=x;obtain⟨i,q,r,C,O⟩:=hr;have s:i=.int .u8 (aue (n,o)):=C.1;rw[addr_add];simp only[World.cell?,U];have z:(A.toList.drop (m+j*1)).head?=some i:=by
      have B:aP.len (.cons (.int .u8) .nil)=1:=rfl;cases E:A.toList.drop (m+j*1)with
      |nil=>grind
      |cons y ys=>grind
     simp_all
   grind [run_loadCells_list,List.length_map]
theorem GX(g:∀t ti,Θ t=some ti->qR P t ti)(h:Θ t=some ti){d:TypeDesc}(f:ti.cells.desc=some d):ti.agg=true\/P.underlying t=some d:=by
 have b:=(g t ti h).und;unfold TI.agg;split at b
 · grind
 .next hk=>rw[b.2]at f;cases f;exact .inr b.1
 .next e hk=>obtain⟨b,r,hr⟩:=b;rw[hr]at f;cases f;exact .inr b
 grind
theorem ay9(h:Rel w0 M T γ st a w){src dst:TypeId}(us:P.underlying src=some .string)(ud:P.underlying dst=some (.slice e))(ue:P.underlying e=some (.int .u8))(s:Bytes)(hl:s.length<=maxLen):
 Yields P w0 M T st a w (convert src dst (.string ⟨s.toArray⟩)) (.sv (.one (.sl e (.cons (.int .u8) .nil) (OQ s) true))) []:=by
 have hrun:=run_bytes_of_string (P:=P) w src dst e ⟨s.toArray⟩ us ud ue
 let o:Obj:=.cells (bytesRow ⟨s.toArray⟩ (grownCap w (⟨s.toArray⟩:ByteArray).size 0 e)) e ((bytesRow ⟨s.toArray⟩ (grownCap w (⟨s.toArray⟩:ByteArray).size 0 e)).size,(bytesRow ⟨s.toArray⟩ (grownCap w (⟨s.toArray⟩:ByteArray).size 0 e)).size+1)
 have hsz:(w.drew.alloc o).heap.size=w.heap.size+1:=by
  simp_all
 have hg:=h.grown (γ':=γ) (w':=w.drew.alloc o) st.ak (λ_ _ h=>h) (λ_ _ _=>rfl) rfl rfl rfl fC (λb hb=>heap_alloc_old w.drew o hb)
  (λp x h1 h2=>jv) (λp cs h1 h2=>jv) (λp x q y b h1 h2=>jv)
 refine⟨_,_,γ,hrun,hg.1,?_⟩;have hlen:(OQ s).length=s.length:=by grind [OQ]
 refine⟨fC,.inr ⟨w.heap.size,0,grownCap w (⟨s.toArray⟩:ByteArray).size 0 e,_,e,_,?_,?_,⟨⟨?_,?_,?_⟩,?_⟩,W9 w.drew o,?_⟩⟩
 .rw[hlen,size_bytes]
 · grind [grownCap_ge,size_bytes]
 · grind
 .intro hlt;have:w.heap.size<w0.heap.size:=hlt;have:=h.grow;omega
 .intro p x hp hb;have:=(h.lt p x _ hp hb).1;omega
 .intro _;exact h.grow
 .intro i x hi;have hlt:i<s.length:=jv;unfold OQ at hi;rw[aQ9,aQD hlt]at hi;cases hi;refine⟨.int .u8 (s[i].toNat:Int),[],?_,⟨rfl,?_⟩,rfl⟩
  .show List.take 1 (List.drop (0+i*1) (bytesRow ⟨s.toArray⟩ _).toList)=_
   grind [bytesRow,List.drop_eq_getElem_cons]
  .have:=UInt8.toNat_lt s[i];have e1:IntKind.u8.min=0:=rfl;have e2:IntKind.u8.max=255:=rfl;omega
theorem auh(hΘ:∀t ti,Θ t=some ti->qR P t ti)(h:Rel w0 M T γ st a w){src dst:TypeId}
 (hc:calm Θ Γ d st (.convert src dst x)=some (p,v,δ)):Yields P w0 M T st a w (convert src dst (a.eval x)) v δ:=by
 simp only[calm]at hc;split at hc
 .next ts td c hs hd hev=>
  have hx:=ve h hev;split at hc
  .cases hc
  .next hagg=>
   simp only[aRo,not_or,Bool.not_eq_true]at hagg;split at hc
   .next k0 k l n e1 e2=>
    cases hc;have us:=(GX hΘ hs (d:=.int k0) (by rw[e1];rfl)).resolve_left jv;have ud:=(GX hΘ hd (d:=.int k) (by rw[e2];rfl)).resolve_left jv;obtain⟨hv,_⟩:=hx;refine .same h (u:=.int k (k.wrap n)) ?_ ⟨rfl,RV _ _⟩
    simp_all [convert,aQI,Conv.intToInt]
   .next s e1 e2=>
    cases hc;have us:=(GX hΘ hs (d:=.string) (by rw[e1];rfl)).resolve_left jv;have ud:=(GX hΘ hd (d:=.string) (by rw[e2];rfl)).resolve_left jv;obtain⟨hv,hl⟩:=hx;refine .same h (u:=.string ⟨s.toArray⟩) ?_ ⟨rfl,hl⟩
    simp_all [convert,aQI]
   .next e s e1 e2=>
    split at hc
    .next te he=>
     split at hc
     .next e3 e4=>
      cases hc;have us:=(GX hΘ hs (d:=.string) (by rw[e1];rfl)).resolve_left jv;have ud:=(GX hΘ hd (d:=.slice e) (by rw[e2];rfl)).resolve_left jv;have ue:=(GX hΘ he (d:=.int .u8) (by rw[e3];rfl)).resolve_left (by rw[e4];simp);obtain⟨hv,hl⟩:=hx
      grind [ay9]
     .cases hc
    .cases hc
   .next c' e e1 e2=>
    split at hc
    .next l te hl he=>
     split at hc
     .next e3 e4=>
      cases hc;have us:=(GX hΘ hs (d:=.slice e) (by rw[e1];rfl)).resolve_left jv;have ud:=(GX hΘ hd (d:=.string) (by rw[e2];rfl)).resolve_left jv;have ue:=(GX hΘ he (d:=.int .u8) (by rw[e3];rfl)).resolve_left (by rw[e4];simp);have hg:=Cell.akL h _ _ _ _ hx hl;obtain⟨hr,hlen⟩:=axJ (P:=P) hg;refine .same h (u:=.string ⟨(byteRow l).toArray⟩) ?_ ⟨rfl,hlen⟩;have hg:RQ _ _ _ _ (a.eval x) l:=hg;obtain⟨ad,n,cp,hv⟩:∃ad n cp,a.eval x=.slice ad n cp:=by rcases hg.2 with⟨_,ad,cp,hv⟩|⟨b,off,cap,_,_,_,hv,_⟩<;>exact⟨_,_,_,hv⟩
      simp_all [convert,aQI]
     .cases hc
    .cases hc
   .cases hc
 .cases hc
theorem aza(i:∀t ti,Θ t=some ti->qR P t ti)(h:Rel w0 M T γ st a w){op:BinOp}{l:TypeId}{y:Operand}
 (N:calm Θ Γ d st (.binOp op t x y l)=some (p,v,δ)) (J:p):Yields P w0 M T st a w (do eqGuard op t x y (a.eval x) (a.eval y);binOp op t (a.eval x) (a.eval y)) v δ:=by
 simp only[calm]at N;split at N
 .next c1 c2 e1 e2=>
  split at N
  .next hb=>
   split at N
   .next q c hq=>
    cases N;obtain⟨r,hr,k⟩:=aBC (P:=P) (w:=w) (t:=t) (s:=x) (u:=y) (aI w0 T γ st w) hq J (ve h e1) (ve h e2) (λm o C O=>by
     subst C O;simp only[aCy]at hb;split at hb
     .next ti ht=>
      split at hb
      .next hcells=>exact(GX i ht (d:=.bool) (by rw[hcells];rfl)).resolve_left jv
      .cases hb
     .cases hb)
    exact .same h hr k
   .cases N
  .cases N
 .next a1 a2 e1 e2=>
  split at N
  .next ti ht=>
   split at N
   .next b hcmp heq=>
    split at N
    .next hlen=>cases N;have C:=lQ h x;have O:=lQ h y;rw[e1]at C;rw[e2]at O;obtain⟨I,R,f⟩:=C;obtain⟨n,j,g⟩:=O;have:=(i t ti ht).cmp hcmp w x y (aI w0 T γ st w) a1 a2 I n b hlen f g heq;rw[R,j];exact .same h this.1 rfl
    .cases N
   .next b hcmp heq=>
    split at N
    .next hlen=>cases N;have C:=lQ h x;have O:=lQ h y;rw[e1]at C;rw[e2]at O;obtain⟨I,R,f⟩:=C;obtain⟨n,j,g⟩:=O;have:=(i t ti ht).cmp hcmp w x y (aI w0 T γ st w) a1 a2 I n b hlen f g heq;rw[R,j];exact .same h this.2 rfl
    .cases N
   .cases N
  .cases N
 .cases N
variable {o n:Nat}
theorem ah7(h:Rel w0 M T γ st a w){f:Nat}(g:st.ev x=.win o f n):∃b m y e r l i,st.ak o=some (.arr e r l i)/\γ o=.slice (some ⟨b,0,none⟩) m y/\
 (∃q,(q=f*r.len\/y<=f)/\a.eval x=.slice (some ⟨b,q,none⟩) n (y-f)/\f+n<=y):=by
 have Z:=lQ h x;rw[g]at Z;exact Z
variable {b:Nat}
theorem aCA(h:Rel w0 M T γ st a w){r:aP}{l:List r.den}{fr:Bool}(z:st.ak o=some (.arr e r l fr)){m cap:Nat}(f:γ o=.slice (some ⟨b,0,none⟩) m cap):cap<=maxLen/\l.length<=cap:=by
 obtain⟨q,⟨_,O⟩,_⟩:=h.ak o _ z
 grind
theorem azb(k:∀t ti,Θ t=some ti->qR P t ti)(h:Rel w0 M T γ st a w){Q D:Option Operand}
 (N:calm Θ Γ d st (.slice t x Q D none)=some (p,v,δ)) (J:p):Yields P w0 M T st a w (Instr.sliceAt t (a.eval x) (Q.map a.eval) (D.map a.eval) none) v δ:=by
 simp only[calm]at N;split at N
 .next ti s ht hev=>
  obtain⟨R,W⟩:a.eval x=.string ⟨s.toArray⟩/\s.length<=maxLen:=ve h hev;split at N
  .next q i j hk hb=>
   cases N;obtain⟨hr,C,O⟩:=AL (P:=P) h (aQp _) hb J false;have z:=(k t ti ht).und;rw[hk]at z;refine .same h (u:=.string ⟨((s.take j).drop i).toArray⟩) ?_ ⟨rfl,ql⟩
   simp_all [Instr.sliceAt,Instr.slice,aQI,size_bytes,axH]
  .cases N
 .next ti e r l fr ht hev=>
  have Z:=ve h hev;split at N
  .next f q i j hk hb=>
   split at N
   .next te he=>
    split at N
    .next hbeq=>
     cases N;obtain⟨ad,c,R,W⟩:=ay0 Z;have F:l.length<=c:=by
      have K:RQ _ _ _ _ (a.eval x) l:=Z;rcases K.2 with⟨hl0,_⟩|⟨b,off,y,A,t,fz,hv',E,_⟩
      · grind
      grind
     obtain⟨hr,C,O⟩:=AL (P:=P) h F hb J true;have z:=(k t ti ht).und;rw[hk]at z;have B:te.cells.len=r.len:=by grind [aP.eq_of_beq]
     rw[R]at Z;refine .same h ?_ (aJ4 Z C O);rw[R];simp[Instr.sliceAt,Instr.slice,aQS,aQI z.1 w,hr,(k f te he).run_sizeOf,B]
    .cases N
   .cases N
  .cases N
 .next ti ht hev=>
  have R:a.eval x=.slice none 0 0:=ve h hev;split at N
  .next f q i j hk hb=>
   split at N
   .next te he=>cases N;obtain⟨hr,C,O⟩:=AL (P:=P) h (aQp 0) hb J true;have Y:j=0:=fC;have I:i=0:=fC;subst Y I;have z:=(k t ti ht).und;rw[hk]at z;refine .same h (u:=.slice none 0 0) ?_ rfl;rw[R];simp[Instr.sliceAt,Instr.slice,aQS,aQI z.1 w,hr,(k f te he).run_sizeOf]
   .cases N
  .cases N
 .next ti o QN n0 ht hev=>
  split at N
  .next f e r l fr hk ho=>
   split at N
   .next te q i j he hb=>
    split at N
    .next hbeq=>
     cases N;obtain⟨g,m,y,e',r',l',U,Z,H,⟨S,hp0,R,hle⟩⟩:=ah7 h hev;rw[ho]at Z;cases Z;obtain⟨E,F⟩:=aCA h ho H;have B:te.cells.len=r.len:=by grind [aP.eq_of_beq]
     have z:=(k t ti ht).und;rw[hk]at z;have L:(Instr.sliceBounds true n0 (y-QN) (Q.map a.eval) (D.map a.eval) none).run P w=.ok (i,j,y-QN) w/\i<=j/\j<=y-QN:=by
      unfold ahX at hb;split at hb
      · grind [AL]
      .next hh=>obtain⟨hr,C,O⟩:=AL (P:=P) (cap:=y-QN) h (show l.length-QN<=y-QN from fC) hb J true;exact⟨hr,C,fC⟩
     obtain⟨hr,C,O⟩:=L;refine .same h (u:=.slice (if y-QN=i then some ⟨g,S,none⟩else(some (⟨g,S,none⟩:Addr)).map (·.add (i*r.len))) (j-i) (y-QN-i)) ?_ ?_
     .rw[R];simp[Instr.sliceAt,Instr.slice,aQS,aQI z.1 w,hr,(k f te he).run_sizeOf,B]
     .refine⟨g,m,y,e,r,l,fr,ho,H,?_⟩
      grind [Addr.add]
    .cases N
   .cases N
  .cases N
 .cases N
theorem axK(g:∀t ti,Θ t=some ti->qR P t ti)(h:Rel w0 M T γ st a w){s D z:Operand}
 (N:calm Θ Γ d st (.slice t x (some s) (some D) (some z))=some (p,v,δ)) (J:p):Yields P w0 M T st a w (Instr.sliceAt t (a.eval x) (some (a.eval s)) (some (a.eval D)) (some (a.eval z))) v δ:=by
 simp only[calm]at N;split at N
 .next ti o ht hev=>
  split at N
  .next f e r l fr hk ho=>
   split at N
   .next te n1 n2 n3 he h1 h2 h3=>
    cases N;obtain⟨K,E,_⟩:=CV h h1;obtain⟨L,F,_⟩:=CV h h2;obtain⟨O,H,_⟩:=CV h h3;have m:=(g t ti ht).und;rw[hk]at m;have Z:=ve h hev;obtain⟨i,j,R,I⟩:∃i j,a.eval x=.slice i l.length j/\l.length<=j:=by
     obtain⟨_,R,_⟩:=Z;obtain⟨q,⟨_,Q⟩,_⟩:=h.ak o _ ho
     grind
    refine .same h (u:=.slice (if n3.toNat=n1.toNat then i else i.map (·.add (n1.toNat*te.cells.len))) (n2.toNat-n1.toNat) (n3.toNat-n1.toNat)) ?_ trivial;rw[R,E,F,H];have C:=run_sliceBound (P:=P) (w:=w) (k:=O) (n:=n3) (y:=j) (c:=.slice3Acap) fC fC;have B:=run_sliceBound (P:=P) (w:=w) (k:=L) (n:=n2) (y:=n3.toNat) (c:=.slice3B) fC fC;have A:=run_sliceBound (P:=P) (w:=w) (k:=K) (n:=n1) (y:=n2.toNat) (c:=.slice3C) fC fC;simp[Instr.sliceAt,Instr.slice,Instr.sliceBounds,aQS,aQI m.1 w,C,B,A,(g f te he).run_sizeOf]
   .cases N
  .cases N
 .cases N
theorem aui(h:Rel w0 M T γ st a w){j:Nat}
 (N:calm Θ Γ d st (.extract x j)=some (p,v,δ)):Yields P w0 M T st a w (Instr.extract (a.eval x) j) v δ:=by
 have Z:=lQ h x;simp only[calm]at N;split at N
 .next vs hev=>
  split at N
  .next s hs=>
   cases N;rw[hev]at Z;obtain⟨m,R,hr⟩:=Z;have g:∀(q:List SV)(f:List Value)(i:Nat)(s:SV),iy (aI w0 T γ st w) q f->q[i]? =some s->∃u,f[i]? =some u/\ig (aI w0 T γ st w) s u:=by
    intro q
    induction q with
    |nil=>grind
    |cons x q ih=>
     intro f i s hr D;cases f with
     |nil=>cases hr
     |cons y f=>
      cases i with
      |zero=>simp at D;subst D;exact⟨y,rfl,hr.1⟩
      |succ i=>
       obtain⟨u,l,k⟩:=ih f i s hr.2 ZQ
       grind
   obtain⟨u,l,k⟩:=g vs m.toList j s hr hs;refine .same h (u:=u) ?_ k
   simp_all [Instr.extract]
  .cases N
 .cases N
theorem aBG(h:Rel w0 M T γ st a w){op:UnOp}
 (N:calm Θ Γ d st (.unOp op t x)=some (p,v,δ)):Yields P w0 M T st a w (Op.unary op (a.eval x)) v δ:=by
 simp only[calm]at N;split at N
 .next b hev=>cases N;rw[aCz h hev];exact .same h (u:=.bool (!b)) rfl rfl
 .next k n hev=>cases N;obtain⟨R,_⟩:=aco h hev;rw[R];exact .same h (u:=.int k (k.wrap (0-n))) rfl ⟨rfl,RV _ _⟩
 .cases N
variable {args:Array Operand}{xq:Array TypeId}{ty:TypeId}
theorem aDz(f:∀t ti,Θ t=some ti->qR P t ti)(h:Rel w0 M T γ st a w)
 (N:calm Θ Γ d st (.call {callee:=.builtin .len,args,argTypes:=xq})=some (p,v,δ)):Yields P w0 M T st a w (Builtin.len_ xq ty (args.map a.eval)) v δ:=by
 simp only[calm]at N;split at N
 .next x t hargs auj=>
  have B:args.map a.eval=#[a.eval x]:=NJ;have i:xq=#[t]:=jv;rw[B,i];split at N
  .next ti c ht hev=>
   have Z:=ve h hev;split at N
   .next s hk=>cases N;obtain⟨R,W⟩:=Z;rw[R];refine .same h (aBD f ht hk _ ty) ?_;exact⟨rfl,akN _ W⟩
   .next e k r l fr hk=>cases N;obtain⟨u,z,R,W⟩:=ay0 Z;rw[R];exact .same h (run_len_slice f ht hk _ _ _ ty) ⟨rfl,akN _ W⟩
   .next e hk=>cases N;have R:a.eval x=.slice none 0 0:=Z;rw[R];exact .same h (run_len_slice f ht hk _ _ _ ty) ⟨rfl,jI⟩
   .next e o hk=>
    split at N
    .next k r l fr ho=>cases N;obtain⟨u,z,R,W⟩:=aJ3 h Z ho;rw[R];exact .same h (run_len_slice f ht hk _ _ _ ty) ⟨rfl,akN _ W⟩
    .cases N
   .cases N
  .next ti o lo n ht hev=>
   split at N
   .next e hk=>cases N;obtain⟨g,m,y,k,H,E,A,Z,j,⟨F,D,R,C⟩⟩:=ah7 h hev;obtain⟨q,_⟩:=aCA h Z j;rw[R];exact .same h (run_len_slice f ht hk _ _ _ ty) ⟨rfl,akN _ fC⟩
   .cases N
  .cases N
 .cases N
theorem aDA(h:Rel w0 M T γ st a w)
 (N:calm Θ Γ d st (.call {callee:=.builtin .min,args,argTypes:=xq})=some (p,v,δ)):Yields P w0 M T st a w (Builtin.min_ xq ty (args.map a.eval)) v δ:=by
 simp only[calm]at N;split at N
 .next x y hargs=>
  have r:args.map a.eval=#[a.eval x,a.eval y]:=NJ;rw[r];split at N
  .next k n l m e1 e2=>
   split at N
   .next f=>cases N;have f:=aQ6 f;subst f;obtain⟨C,O⟩:=aco h e1;obtain⟨K,g⟩:=aco h e2;rw[C,K];refine .same h (u:=.int k (if m<n then m else n)) (by simp[Builtin.min_,Builtin.min2]) ⟨rfl,?_⟩;omega
   .cases N
  .cases N
 .cases N
theorem aDB(h:Rel w0 M T γ st a w)
 (N:calm Θ Γ d st (.call {callee:=.builtin .max,args,argTypes:=xq})=some (p,v,δ)):Yields P w0 M T st a w (Builtin.max_ xq ty (args.map a.eval)) v δ:=by
 simp only[calm]at N;split at N
 .next x y hargs=>
  have r:args.map a.eval=#[a.eval x,a.eval y]:=NJ;rw[r];split at N
  .next k n l m e1 e2=>
   split at N
   .next f=>cases N;have f:=aQ6 f;subst f;obtain⟨C,O⟩:=aco h e1;obtain⟨K,g⟩:=aco h e2;rw[C,K];refine .same h (u:=.int k (if m>n then m else n)) (by simp[Builtin.max_,Builtin.max2]) ⟨rfl,?_⟩;omega
   .cases N
  .cases N
 .cases N
structure EnvB(P:Program)(G:oI)(Θ:mD)(Γ:nI):Prop where
 types:∀t ti,Θ t=some ti->qR P t ti
 cons:∀f con,Γ f=some (.pure con)->lY P G f con/\mP P f
 ayC:∀f ms con,Γ f=some (.eff ms con)->kM P G f con/\mP P f
structure Ad(P:Program)(G:oI)(Θ:mD)(Γ:nI)(w0:World)(M:Nat->Prop):Prop extends EnvB P G Θ Γ where
 ok:G.ok w0
 low:∀b,M b->G.n<=b
theorem Ad.at{G:oI}(f:Ad P G Θ Γ w0 M)(h:Rel w0 M T γ st a w):G.ok w:=
 G.stable w0 w f.ok h.grow λb U=>h.kept b (aQO U (G.low w0 f.ok)) λk=>by have:=f.low b k;omega
theorem aav{o:Oper}{f:FuncId}{h:Array Value}(z:o.op=.call {callee:=.value x,args,argTypes:=xq})(Z:a.eval x=.func (.func f) #[] h)(g:mP P f):
 (execOp a.eval o).run P w=.ok (.enter f (args.map a.eval++h)) w:=by
 have i:(execOp a.eval o)=(do let d ← resolve a.eval {callee:=.value x,args,argTypes:=xq} o.type;invoke d.target d.args):=by
  grind [execOp]
 rw[i];simp only[resolve,Z,Deferred.ofValue,aQS,aRr,aRn,invoke];rw[show(#[]++Array.map a.eval args:Array Value)++h=args.map a.eval++h from ni];exact g _ _
theorem aDC{G:oI}(D:Ad P G Θ Γ w0 M)(h:Rel w0 M T γ st a w)(o:Oper)
 (E:o.op=.call {callee:=.value x,args,argTypes:=xq})
 (N:calm Θ Γ d st (.call {callee:=.value x,args,argTypes:=xq})=some (p,v,δ)) (J:p) (I:nR st δ=true) {next:Act->World->Prop} {Q:Exit->Act->World->Prop}
 (H:∀u γ' w',Rel w0 M T γ' (st.adds δ) a w'->dB (aI w0 T γ' (st.adds δ) w') v u->next (a.put o.dst u) w'):o.wp P a w next Q:=by
 simp only[calm]at N;split at N
 .next f caps hx=>
  split at N
  .next con vs hcon hargs=>
   split at N
   .next q out hq=>
    split at N
    .next k=>
     cases N;obtain⟨m,i⟩:=D.cons f con hcon;rw[aRo]at k;have R:=lQ h x;rw[hx]at R;obtain⟨L,F,l⟩:=R;unfold Oper.wp;rw[aav E F i,aSt];have j:(d*64+1)%64=1:=fC;rcases k with k|k
     .have g:=RZ h (γ0:=λ_=>undef) (S:=λ_=>True) (λ_ _=>trivial) (λ_ _ _ _ _ _ _ _=>trivial) _ _ vs hargs (Si h l args.toList);rw[← aSa,← aSi]at g;refine(m vs _ out (d*64+1) (λ_=>True) (args.map a.eval++L) w hq J (D.at h) g).mono ?_;rintro e w' ⟨u,r,rfl,C,O,K,s,y,z,A,B⟩;obtain⟨γ',U,W⟩:=h.called j I C O K s y (.inl k) z A B
      grind
     .have hm0:Eb (handed st args.toList caps)=[]:=by
       grind [RS]
      have g:=JQ h (γ0:=λ_=>undef) _ _ vs hargs hm0 (Si h l args.toList);rw[← aSa,← aSi]at g;refine(m vs _ out (d*64+1) (aI w0 T γ st w).foot (args.map a.eval++L) w hq J (D.at h) g).mono ?_;rintro e w' ⟨u,r,rfl,C,O,K,s,y,z,A,B⟩;obtain⟨γ',U,W⟩:=h.called j I C O K s y (.inr rfl) z A B
      grind
    .cases N
   .cases N
  .cases N
 .cases N
theorem GY{o:Oper}{b:Builtin}(z:o.op=.call {callee:=.builtin b,args,argTypes:=xq}):
 execOp a.eval o=builtin b xq o.type (args.map λ|.const _=>true|_=>false) (args.map a.eval):=by
 unfold execOp;rw[z];rfl
theorem aqi(h:Rel w0 M T γ st a w):∀(q:List Operand)(l:List (List Cell)),heldBy st q=some l->iV (aI w0 T γ st w) l (q.map a.eval)
 |[],l,hl=>by cases hl;trivial
 |x::q,l,hl=>by
  rw[heldBy]at hl;split at hl
  .next cs off l' hx hl'=>
   split at hl
   .next f=>cases hl;have f:=aQq f;subst f;have R:=lQ h x;rw[hx]at R;exact⟨R,aqi h q l' hl'⟩
   .cases hl
  .cases hl
theorem XD{G:oI}(hE:Ad P G Θ Γ w0 M)(h:Rel w0 M T γ st a w)(o:Oper)
 (hc:calm Θ Γ d st o.op=some (p,v,δ)) (hp:p) (hf:nR st δ=true) {next:Act->World->Prop} {Q:Exit->Act->World->Prop}
 (hn:∀u γ' w',Rel w0 M T γ' (st.adds δ) a w'->dB (aI w0 T γ' (st.adds δ) w') v u->next (a.put o.dst u) w'):o.wp P a w next Q:=by
 have fin:∀{s:Sem Value},(execOp a.eval o)=(do pure (Next.value (← s)))->Yields P w0 M T st a w s v δ->o.wp P a w next Q:=by intro s he ⟨u,w',γ',hr,hR,hv⟩;exact Oper.rQ x9 (hn u γ' w' hR hv)
 cases hop:o.op<;>rw[hop]at hc<;>try (simp only[calm,reduceCtorEq]at hc;done)
 case move x=>simp only[calm]at hc;cases hc;exact Oper.rQ (u:=a.eval x) (w':=w) qO (hn _ γ w h (lQ h x))
 case assign x=>simp only[calm]at hc;cases hc;exact Oper.rQ (u:=a.eval x) (w':=w) qO (hn _ γ w h (lQ h x))
 case pick c x y=>
  simp only[calm]at hc;split at hc
  .next g hg=>
   cases hc;refine Oper.rQ (u:=if g then a.eval x else a.eval y) (w':=w) (by simp[execOp,hop,aCz h hg,asBool]) (hn _ γ w h ?_);cases g
   .exact lQ h y
   .exact lQ h x
  .cases hc
 case nilCheck x=>
  have hx:=lQ h x;simp only[calm]at hc;split at hc
  .next o' off hev=>cases hc;rw[hev]at hx;obtain⟨b,cs,ho,hγ,hv⟩:=hx;exact Oper.rQ (u:=a.eval x) (w':=w) QD (hn _ γ w h ⟨b,cs,ho,hγ,hv⟩)
  .next o' i off hev=>cases hc;rw[hev]at hx;obtain⟨b,n,cap,e,r,l,fr,ho,hγ,hv⟩:=hx;exact Oper.rQ (u:=a.eval x) (w':=w) QD (hn _ γ w h ⟨b,n,cap,e,r,l,fr,ho,hγ,hv⟩)
  .next r y off fr hev=>cases hc;rw[hev]at hx;obtain⟨b,base,cs,ty,fz,hv,hrest⟩:=hx;exact Oper.rQ (u:=a.eval x) (w':=w) QD (hn _ γ w h ⟨b,base,cs,ty,fz,hv,hrest⟩)
  .next cs off hev=>cases hc;rw[hev]at hx;obtain⟨b,hv,hrest⟩:=hx;exact Oper.rQ (u:=a.eval x) (w':=w) QD (hn _ γ w h ⟨b,hv,hrest⟩)
  .next f caps hev=>cases hc;rw[hev]at hx;obtain⟨us,hv,hrest⟩:=hx;exact Oper.rQ (u:=a.eval x) (w':=w) QD (hn _ γ w h ⟨us,hv,hrest⟩)
  .cases hc
 case makeFunc fn first captured=>
  cases fn<;>try (simp only[calm,reduceCtorEq]at hc;done)
  case func f=>
   simp only[calm]at hc;split at hc
   .next l hfirst hl=>cases hc;have hf0:first=#[]:=jv;subst hf0;refine Oper.rQ (u:=.func (.func f) #[] (captured.map a.eval)) (w':=w) (by simp[execOp,hop,Instr.makeFunc]) (hn _ γ w h ⟨captured.map a.eval,rfl,?_⟩);rw[aSa];exact aqi h _ _ hl
   .cases hc
 case alloc t=>exact fin (s:=Instr.alloc t true (.tuple #[])) qO (ay8 hE.types h hc hf)
 case box t x=>exact fin (s:=Instr.box t (a.eval x)) qO (aDx h hc hf)
 case build t parts=>exact fin (s:=Instr.build t (parts.map λx=>(x.1,a.eval x.2))) (by grind [execOp]) (ay7 hE.types h hc)
 case buildSlice t len parts=>
  have hy:=alq hE.types h hc hf
  grind [execOp]
 case makeSlice t x y=>exact fin (s:=Instr.makeSlice t (a.eval x) (a.eval y)) qO (an7 hE.types h hc hp hf)
 case load t x=>exact fin (s:=Instr.loadAt t (a.eval x)) qO (aBF hE.types h hc hp)
 case fieldAddr s x f=>exact fin (s:=Instr.fieldAt s (a.eval x) f) qO (an5 hE.types h hc)
 case field s x f=>exact fin (s:=Instr.field s (a.eval x) f) qO (ay5 hE.types h hc)
 case indexAddr t x ix=>exact fin (s:=Instr.indexAt t (a.eval x) (a.eval ix)) qO (an6 hE.types h hc hp)
 case index t x ix=>exact fin (s:=Instr.index t (a.eval x) (a.eval ix)) qO (ay4 hE.types h hc hp)
 case binOp op t x y t'=>exact fin (s:=do eqGuard op t x y (a.eval x) (a.eval y);binOp op t (a.eval x) (a.eval y)) qO (aza hE.types h hc hp)
 case unOp op t x=>exact fin (s:=Op.unary op (a.eval x)) qO (aBG h hc)
 case convert s t x=>exact fin (s:=convert s t (a.eval x)) qO (auh hE.types h hc)
 case extract x i=>exact fin (s:=Instr.extract (a.eval x) i) qO (aui h hc)
 case slice t x lo hi mx=>
  cases mx with
  |some m=>
   cases lo with
   |none=>simp only[calm,reduceCtorEq]at hc
   |some lo=>
    cases hi with
    |none=>simp only[calm,reduceCtorEq]at hc
    |some hi=>exact fin (s:=Instr.sliceAt t (a.eval x) (some (a.eval lo)) (some (a.eval hi)) (some (a.eval m))) qO (axK hE.types h hc hp)
  |none=>exact fin (s:=Instr.sliceAt t (a.eval x) (lo.map a.eval) (hi.map a.eval) none) qO (azb hE.types h hc hp)
 case call c=>
  obtain⟨callee,args,xq⟩:=c;cases callee with
  |invoke r m=>simp only[calm,reduceCtorEq]at hc
  |builtin b=>
   cases b<;>try (simp only[calm,reduceCtorEq]at hc;done)
   case len=>exact fin (s:=Builtin.len_ xq o.type (args.map a.eval)) (by rw[GY hop];rfl) (aDz hE.types h hc)
   case min=>exact fin (s:=Builtin.min_ xq o.type (args.map a.eval)) (by rw[GY hop];rfl) (aDA h hc)
   case max=>exact fin (s:=Builtin.max_ xq o.type (args.map a.eval)) (by rw[GY hop];rfl) (aDB h hc)
  |value x=>grind [aDC]
def sameKind:bD->bD->Prop
 |.var _,.var _=>True
 |.arr e r _ _,.arr f s _ _=>e=f/\r=s
 |_,_=>False
theorem UL(w:World)(g:Nat)(A:Array Value)(h:b≠g):(w.setRow g A).heap[b]? =w.heap[b]? :=by
 grind [World.setRow]
theorem Rel.write(h:Rel w0 M T γ st a w){x x':bD}(s:st.ak o=some x)(U:blk (γ o)=some b)(j:sameKind x x')(arr:Array Value)
 (Z:(aI w0 T γ st w).le ⟨w.setRow b arr,w0.heap.size,T,γ,(st.add o x').ak⟩->eF ⟨w.setRow b arr,w0.heap.size,T,γ,(st.add o x').ak⟩ o x'):
 Rel w0 M T γ (st.add o x') a (w.setRow b arr):=by
 have g:∀p,p≠o->(st.add o x').ak p=st.ak p:=λp J=>vg st x' J;have m:(w.setRow b arr).heap.size=w.heap.size:=x9;have f:∀p y,(st.add o x').ak p=some y->∃z,st.ak p=some z:=by
  grind
 have le:(aI w0 T γ st w).le ⟨w.setRow b arr,w0.heap.size,T,γ,(st.add o x').ak⟩:=by
  refine⟨aQp _,λc N=>⟨⟨?_,N.2.1,λp y J=>?_⟩,?_⟩,λp A J=>⟨?_,rfl⟩,λp e r l K J=>⟨?_,rfl⟩⟩
  .rw[m];exact N.1
  .obtain⟨z,hz⟩:=f p y J;exact N.2.2 p z hz
  .refine UL w b arr (λe=>?_);exact N.2.2 o x s jv
  .by_cases e:p=o
   .subst e;have k:st.ak p=some (.var A):=J;rw[s]at k;cases k;show∃i,(st.add p x').ak p=some (.var i);rw[add_same];cases x' with
    |var i=>grind
    |arr _ _ _ _=>exact j.elim
   grind
  .by_cases F:p=o
   .subst F;have k:st.ak p=some (.arr e r l K):=J;rw[s]at k;cases k;show∃I B,(st.add p x').ak p=some (.arr e r I B);rw[add_same];cases x' with
    |var i=>exact j.elim
    |arr e' r' I B=>
     obtain⟨C,O⟩:=j
     grind
   grind
 refine⟨h.mT,h.defers,h.size,h.os,h.tape,h.output,by rw[m];exact h.grow,λc N L=>?_,λt=>dB.mono le _ _ (h.tmps t),λp y J=>?_,λp y c J N=>?_,λp y q z c J u D N=>?_,λp v A H J=>?_⟩
 .rw[UL w b arr (λe=>?_)]
  .exact h.kept c N L
  .rcases(h.lt o x b s U).2 with C|C
   .omega
   grind
 .by_cases e:p=o
  · grind [add_same]
  .rw[g p e]at J;refine eF.mono le p y (λc N=>UL w b arr (λF=>?_)) rfl (h.ak p y J);exact h.sep p y o x c J s e N jv
 .obtain⟨z,hz⟩:=f p y J;rw[m];exact h.lt p z c hz N
 .obtain⟨y',hy'⟩:=f p y J;obtain⟨Q,E⟩:=f q z u;exact h.sep p y' q Q c hy' E D N
 .by_cases e:p=o
  .subst e;rw[add_same]at J;cases J;cases x with
   |var i=>exact h.pin p v i H s
   |arr _ _ _ _=>exact j.elim
  .rw[g p e]at J;exact h.pin p v A H J
theorem run_store(f:qR P t ti){m:Nat}{Q:Array Value}(U:w.heap[b]? =some (.cells Q e (0,0))){v:Value}(i:v.cells.size=ti.cells.len)
 (g:m+v.cells.size<=Q.size) (C:∀u∈v.cells.toList,u.oneCell'=true):
 (Instr.storeAt t (.pointer (some ⟨b,m,none⟩)) v).run P w=.ok () (w.setRow b (Q.toList.take m++v.cells.toList++Q.toList.drop (m+v.cells.toList.length)).toArray):=by
 have h:=run_storeCells_at P b m e v.cells.toList 0 Q w U fC C;simp only[Instr.storeAt,Instr.sureAddr,aQS,aRr,aRn,storeVar,f.run_sizeOf]
 grind
theorem ah8{g:Nat}{Q A:Array Value}(h:w.heap[g]? =some (.cells Q e (0,0))):(w.setRow g A).heap[g]? =some (.cells A e (0,0)):=setRow_heap w g Q A e (0,0) h
theorem auk(Q I:List Value)(o k:Nat)(h:o+I.length<=Q.length):
 (Q.take o++I++Q.drop (o+I.length))[k]? =if k<o then Q[k]? else if k<o+I.length then I[k-o]? else Q[k]? :=by
 grind
theorem azc(fr:Bool):∀(r:aP)(x:r.den),(aP.row fr r x).flatMap Cell.refs=[]
 |.nil,_=>rfl
 |.cons c r,x=>by rw[aP.row,aRf,azc fr r x.2,aQY];cases c<;>rfl
theorem awq:∀(r:aP)(x:r.den),(aP.row true r x).all (Cell.fresh st)=true
 |.nil,_=>rfl
 |.cons c r,x=>by rw[aP.row,aRK,awq r x.2,Bool.and_true];cases c<;>rfl
theorem awr(hΘ:∀t ti,Θ t=some ti->qR P t ti)(h:Rel w0 M T γ st a w)(ht:Θ t=some ti){p:AV}{v:SV}{pv F:Value}{q:Prop}{s:St}
 (Y:store st p v=some (q,s)) (u:q) (J:dB (aI w0 T γ st w) p pv) (R:ig (aI w0 T γ st w) v F) (L:v.cells.length=ti.cells.len):
 ∃w',(Instr.storeAt t pv F).run P w=.ok () w'/\Rel w0 M T γ s a w':=by
 have f:=ig.cells v F R;have hvl:=aC.length _ _ f;rw[aRy]at hvl;have XF:=aC.ones _ _ f;unfold store at Y;split at Y
 .next o off=>
  split at Y
  .next cs ho=>
   split at Y
   .next aek=>
    cases Y;have hle:=aRk aek;obtain⟨b,cs',_,hγ,Z⟩:=J;obtain⟨b',arr,ty,hγ',U,hr⟩:=h.ak o _ ho;have z:γ o=.pointer (some ⟨b,0,none⟩):=hγ;have LV:γ o=.pointer (some ⟨b',0,none⟩):=hγ';have hbb:b'=b:=jv;subst hbb;have hal:=aC.length _ _ hr;rw[aRy]at hal;rw[Z];refine⟨_,run_store (hΘ t ti ht) U fC fC XF,?_⟩;refine h.write (x':=.var (splice cs off v.cells)) ho (by rw[z];rfl) trivial _ (λle=>⟨b',_,ty,z,ah8 U,?_⟩)
    grind [aC.mono,aej]
   .cases Y
  .cases Y
 .next o i off=>
  split at Y
  .next e r l fr hrefs ho=>
   split at Y
   .next x hx aek=>
    cases Y;have hle:=aRk aek;obtain⟨b,n,y,e2,r2,l2,fr2,ho2,hγ,Z⟩:=J;have ayY:st.ak o=some (.arr e2 r2 l2 fr2):=ho2;rw[ho]at ayY;cases ayY;obtain⟨xs,⟨C,O⟩,hpos,hfr,W⟩:=h.ak o _ ho;have z:γ o=.slice (some ⟨b,0,none⟩) n y:=hγ;rcases O with⟨hnil,_⟩|⟨g,K,Q,hg,_,hh,hlc,hmax,hsz,E⟩
    .omega
    .have LV:γ o=.slice (some ⟨g,0,none⟩) l.length K:=hg;rw[z]at LV;simp at LV;obtain⟨rfl,H,hcap⟩:=LV;have hmul:i*r.len+r.len<=l.length*r.len:=by
      have:(i+1)*r.len<=l.length*r.len:=aQy _ u
      grind
     have aMh:l.length*r.len<=K*r.len:=aQy _ hlc;rw[Z];refine⟨_,run_store (hΘ t ti ht) hh fC fC XF,?_⟩;have hli:l[i]? =some (l.getD i r.dflt):=jv;have hRi:=W i _ hli;have hrc:=akM (aI w0 T γ st w) fr r _ _ hRi;have aHu:=aej off hrc f;have hrl:=dD.length _ _ _ hRi;refine h.write (x':=.arr e r (l.set i x) (fr&&v.cells.all (Cell.fresh st))) ho (by rw[z];rfl) ⟨rfl,rfl⟩ _ (λle=>?_)
     let m:List Value:=Q.toList.take (i*r.len+off)++F.cells.toList++Q.toList.drop (i*r.len+off+F.cells.toList.length)
     have hnl:m.length=Q.size:=by
      grind
     refine⟨m.take (l.length*r.len),⟨?_,.inr ⟨b,y,m.toArray,?_,aQx _,ah8 hh,?_,?_,?_,?_⟩⟩,hpos,?_,?_⟩
     · grind
     · grind
     · grind
     .omega
     · grind
     · grind
     · grind
     .have e1:Q.toList.length=Q.size:=aRy;have e2:F.cells.toList.length=F.cells.size:=aRy;have S:∀k,m[k]? =if k<i*r.len+off then Q.toList[k]? else if k<i*r.len+off+F.cells.toList.length then F.cells.toList[k-(i*r.len+off)]? else Q.toList[k]? :=λk=>auk _ _ _ k fC
      intro B I hi';have hlt:B<l.length:=by
       grind
      have aJl:B*r.len+r.len<=l.length*r.len:=by
       have:(B+1)*r.len<=l.length*r.len:=aQy _ hlt
       grind
      show dD (w.setRow b m.toArray).heap (V.fG ⟨w.setRow b m.toArray,w0.heap.size,T,γ,_⟩ (fr&&v.cells.all (Cell.fresh st))) r (((m.take (l.length*r.len)).drop (B*r.len)).take r.len) I;rw[jV _ _ _ _ aJl];by_cases hii:B=i
      .subst hii;have hxx:I=x:=by
        grind
       subst hxx;have A:(m.drop (B*r.len)).take r.len=((xs.drop (B*r.len)).take r.len).take off++F.cells.toList++((xs.drop (B*r.len)).take r.len).drop (off+F.cells.toList.length):=by
        rw[← E,jV _ _ _ _ hmul];apply aRx;intro k;rw[auk _ _ _ k jv];rw[aRt,aRu,S]
        grind
       rw[A];refine dD.mono (λc N=>le.fG _ c N) r _ I (YK h (fr&&v.cells.all (Cell.fresh st)) r _ _ I aHu hx ?_ ?_)
       · grind [splice,azc,List.flatMap_eq_nil_iff]
       .intro hf;simp only[aQm]at hf;obtain⟨hf1,hf2⟩:=hf;subst hf1;have hr0:=awq (st:=st) r (l.getD B r.dflt)
        grind [splice]
      .have hx2:l[B]? =some I:=jv;have hR2:=W B I hx2;rw[← E,jV _ _ _ _ aJl]at hR2;have A:(m.drop (B*r.len)).take r.len=(Q.toList.drop (B*r.len)).take r.len:=by
        apply aRx;intro k;rw[aRt,aRt,aRu,aRu,S];by_cases j:k<r.len
        .rw[if_pos j,if_pos j];rcases Nat.lt_or_gt_of_ne hii with D|D
         .have:(B+1)*r.len<=i*r.len:=aQy _ D
          grind
         .have:(i+1)*r.len<=B*r.len:=aQy _ D
          grind
        grind
       rw[A];refine dD.mono (λc N=>?_) r _ I hR2;have hc':(aI w0 T γ st w).fG (fr&&v.cells.all (Cell.fresh st)) c:=⟨N.1,λe=>N.2 jv⟩;exact le.fG _ c hc'
   .cases Y
  .cases Y
 .cases Y
structure V.uj(S:Nat->Bool)(X Y:V):Prop where
 n0:Y.n0<=X.n0
 foot:∀b,X.foot b->Y.foot b/\Y.w.heap[b]? =X.w.heap[b]?
 var:∀o cs,S o=false->X.ak o=some (.var cs)->(∃cs',Y.ak o=some (.var cs'))/\Y.γ o=X.γ o
 arr:∀o e r l fr,S o=false->X.ak o=some (.arr e r l fr)->(∃l' fr',Y.ak o=some (.arr e r l' fr'))/\Y.γ o=X.γ o
variable {Y:V}
theorem V.uj.fG{S:Nat->Bool}(h:X.uj S Y)(fr:Bool)(b:Nat)(U:X.fG fr b):Y.fG fr b/\Y.w.heap[b]? =X.w.heap[b]? :=
 ⟨⟨(h.foot b U.1).1,λe=>aQn h.n0 (U.2 e)⟩,(h.foot b U.1).2⟩
variable {S:Nat->Bool}
theorem bY.uj(h:X.uj S Y):∀(c:Cell)(v:Value),bY X c v->bY Y (c.kill S) v
 |.int _ _,_,H|.bool _,_,H|.str _,_,H|.nil,_,H|.junk,_,H=>H
 |.sl e r l fr,v,H=>iL.mono (λb U=>h.fG fr b U) (.sl e r) v l H
 |.ref o,v,⟨⟨e,r,l,fr,hx⟩,hv,h1⟩=>by
  simp only[Cell.kill];cases i:S o with
  |true=>exact h1
  |false=>obtain⟨⟨j,f,F⟩,g⟩:=h.arr o e r l fr i hx;exact⟨⟨e,r,j,f,F⟩,hv.trans g.symm,h1⟩
theorem aC.uj{X Y:V}(h:X.uj S Y):∀(A:List Cell)(I:List Value),aC X A I->aC Y (A.map (Cell.kill S)) I
 |[],[],H=>H
 |c::A,v::I,⟨h1,h2⟩=>⟨bY.uj h c v h1,aC.uj h A I h2⟩
 |[],_::_,H|_::_,[],H=>o7
theorem ig.uj(h:X.uj S Y):∀(c:SV)(v:Value),ig X c v->ig Y (c.kill S) v
 |.one c,v,H=>bY.uj h c v H
 |.agg cs,_,⟨vs,hv,H⟩=>⟨vs,hv,aC.uj h cs _ H⟩
theorem iy.uj{X Y:V}(h:X.uj S Y):∀(A:List SV)(I:List Value),iy X A I->iy Y (A.map (SV.kill S)) I
 |[],[],H=>H
 |c::A,v::I,⟨h1,h2⟩=>⟨ig.uj h c v h1,iy.uj h A I h2⟩
 |[],_::_,H|_::_,[],H=>o7
theorem jU.uj(h:X.uj S Y){A:List Cell}(H:jU X A b):jU Y (A.map (Cell.kill S)) b:=by obtain⟨arr,t,f,U,g,hr⟩:=H;exact⟨arr,t,f,(h.foot b U).1,(h.foot b U).2.trans g,aC.uj h A _ hr⟩
theorem iV.uj{X Y:V}(h:X.uj S Y):∀(l:List (List Cell))(f:List Value),iV X l f->iV Y (l.map (List.map (Cell.kill S))) f
 |[],[],H=>H
 |cs::l,u::f,⟨⟨b,hu,hk⟩,h2⟩=>⟨⟨b,hu,jU.uj h hk⟩,iV.uj h l f h2⟩
 |[],_::_,H|_::_,[],H=>o7
theorem dB.uj(h:X.uj S Y):∀(c:AV)(v:Value),dB X c v->dB Y (c.kill S) v
 |.undef,_,_=>trivial
 |.sv x,v,H=>ig.uj h x v H
 |.tJ xs,_,⟨vs,hv,H⟩=>⟨vs,hv,iy.uj h xs _ H⟩
 |.aZ o off,v,⟨b,cs,hx,hγ,hv⟩=>by
  simp only[AV.kill];cases k:S o with
  |true=>trivial
  |false=>
   obtain⟨⟨m,F⟩,g⟩:=h.var o cs k hx;exact⟨b,m,F,g.trans hγ,hv⟩
 |.uG o i off,v,⟨b,n,cap,e,r,l,fr,hx,hγ,hv⟩=>by
  simp only[AV.kill];cases k:S o with
  |true=>trivial
  |false=>
   obtain⟨⟨q,j,F⟩,g⟩:=h.arr o e r l fr k hx;exact⟨b,n,cap,e,r,q,j,F,g.trans hγ,hv⟩
 |.win o i off,v,⟨b,n,cap,e,r,l,fr,hx,hγ,hv⟩=>by
  simp only[AV.kill];cases k:S o with
  |true=>trivial
  |false=>
   obtain⟨⟨q,j,F⟩,g⟩:=h.arr o e r l fr k hx;exact⟨b,n,cap,e,r,q,j,F,g.trans hγ,hv⟩
 |.xH r x off fr,v,⟨b,base,cs,t,fz,hv,hf,U,hr⟩=>
  ⟨b,base,cs,t,fz,hv,(h.fG fr b hf).1,(h.fG fr b hf).2.trans U,dD.mono (λb U=>h.fG fr b U) r _ x hr⟩
 |.cO cs off,v,⟨b,hv,hk⟩=>⟨b,hv,jU.uj h hk⟩
 |.fn f caps,v,⟨us,hv,hk⟩=>⟨us,hv,iV.uj h caps _ hk⟩
theorem eF.uj(h:X.uj S Y)(o:Nat):∀(x:bD),(∀b,blk (X.γ o)=some b->Y.w.heap[b]? =X.w.heap[b]?)->Y.γ o=X.γ o->eF X o x->eF Y o (x.kill S)
 |.var cs,U,hγ,⟨b,arr,t,e,m,hr⟩=>⟨b,arr,t,hγ.trans e,(U b (by rw[e];rfl)).trans m,aC.uj h cs _ hr⟩
 |.arr e r l fr,U,hγ,⟨xs,hown,hr,hf,hx⟩=>by
  refine⟨xs,?_,hr,λb j k=>aQn h.n0 (hf b (hγ▸j) k),λi x D=>dD.mono (λb U=>h.fG fr b U) r _ x (hx i x D)⟩;obtain⟨C,O⟩:=hown;refine⟨C,?_⟩;rcases O with O|⟨g,y,Q,R,q,m,f⟩
  · grind
  .exact .inr ⟨g,y,Q,hγ.trans R,q,(U g afJ).trans m,f⟩
variable {v':Value}
theorem Rel.replace(h:Rel w0 M T γ st a w){x':bD}(own:Option Nat)(s:own=none\/∃x,st.ak o=some x/\own=blk (γ o))
 (I:w'.os=w.os) (D:w'.tape=w.tape) (H:w'.output=w.output) (B:w.heap.size<=w'.heap.size) (i:∀b,b<w.heap.size->some b≠own->w'.heap[b]? =w.heap[b]?)
 (k:∀g,blk v'=some g->(some g=own\/w.heap.size<=g)/\g<w'.heap.size) (R:∀A,x'≠ .var A)
 (Z:(aI w0 T γ st w).uj (Nat.beq o ·) ⟨w',w0.heap.size,T,upd γ o v',((st.kill (Nat.beq o ·)).add o x').ak⟩->eF ⟨w',w0.heap.size,T,upd γ o v',((st.kill (Nat.beq o ·)).add o x').ak⟩ o x'):
 Rel w0 M T (upd γ o v') ((st.kill (Nat.beq o ·)).add o x') a w'/\(aI w0 T γ st w).uj (Nat.beq o ·) ⟨w',w0.heap.size,T,upd γ o v',((st.kill (Nat.beq o ·)).add o x').ak⟩:=by
 have f:∀p y,p≠o->((st.kill (Nat.beq o ·)).add o x').ak p=some y->∃z,st.ak p=some z/\y=z.kill (Nat.beq o ·):=by
  grind [vg,EJ]
 have E:∀p z,p≠o->st.ak p=some z->((st.kill (Nat.beq o ·)).add o x').ak p=some (z.kill (Nat.beq o ·)):=by
  grind [vg,uZ,VU]
 have C:∀b,(∀x,st.ak o=some x->blk (γ o)≠some b)->some b≠own:=by
  grind
 have le:(aI w0 T γ st w).uj (Nat.beq o ·) ⟨w',w0.heap.size,T,upd γ o v',((st.kill (Nat.beq o ·)).add o x').ak⟩:=by
  refine⟨aQp _,λb U=>⟨⟨aQO U.1 B,U.2.1,λp y J=>?_⟩,i b U.1 (C b (λx Z=>U.2.2 o x Z))⟩,λp A hS J=>?_,λp e r l W hS J=>?_⟩
  .show blk (upd γ o v' p)≠some b;by_cases e:p=o
   .rw[e,upd_same];intro F;rcases(k b F).1 with h1|h1
    .exact C b (λx Z=>U.2.2 o x Z) h1
    .have:b<w.heap.size:=U.1;omega
   .rw[xk γ v' e];obtain⟨z,m,_⟩:=f p y e J;exact U.2.2 p z m
  .have hne:p≠o:=λe=>x9;exact⟨⟨_,E p _ hne J⟩,xk γ v' hne⟩
  .have hne:p≠o:=λe=>x9;exact⟨⟨l,W,E p _ hne J⟩,xk γ v' hne⟩
 refine⟨⟨h.mT,h.defers,h.size,I.trans h.os,D.trans h.tape,H.trans h.output,aQn h.grow B,λb U Q=>?_,λt=>dB.uj le _ _ (h.tmps t),λp y J=>?_,λp y b J U=>?_,λp y q z b J u K U=>?_,λp v A hN J=>?_⟩,le⟩
 .rw[i b (aQO U h.grow) (λe=>?_)]
  .exact h.kept b U Q
  .rcases s with h0|⟨x,j,h1⟩
   · grind
   .rw[h1]at e;rcases(h.lt o x b j e.symm).2 with h2|h2
    .omega
    .exact Q h2
 .by_cases e:p=o
  · grind [add_same]
  .obtain⟨z,m,he⟩:=f p y e J;rw[he];refine eF.uj le p z (λb U=>i b (h.lt p z b m U).1 (C b (λx j F=>h.sep p z o x b m j e U F))) (xk γ v' e) (h.ak p z m)
 .by_cases e:p=o
  .rw[e,upd_same]at U;refine⟨(k b U).2,?_⟩;rcases(k b U).1 with h1|h1
   .rcases s with h0|⟨x,j,h2⟩
    · grind
    .exact(h.lt o x b j jv).2
   .exact .inl (aQn h.grow h1)
  .rw[xk γ v' e]at U;obtain⟨z,m,_⟩:=f p y e J;have:=h.lt p z b m U
   grind
 .have key:∀p y,p≠o->((st.kill (Nat.beq o ·)).add o x').ak p=some y->blk (γ p)=some b->blk v'≠some b:=by
   intro p y e J U F;obtain⟨z,m,_⟩:=f p y e J;rcases(k b F).1 with h1|h1
   .rcases s with h0|⟨x,j,h2⟩
    · grind
    .exact h.sep p z o x b m j e U jv
   .have:=(h.lt p z b m U).1;omega
  by_cases e:p=o
  · grind [upd_same,xk]
  .rw[xk γ v' e]at U;by_cases O:q=o
   · grind [upd_same]
   .rw[xk γ v' O];obtain⟨y',L,_⟩:=f p y e J;obtain⟨z',N,_⟩:=f q z O u;exact h.sep p y' q z' b L N K U
 .by_cases e:p=o
  · grind [add_same]
  .obtain⟨z,m,he⟩:=f p _ e J;rw[xk γ v' e];cases z with
   |var cs'=>exact h.pin p v cs' hN m
   |arr _ _ _ _=>cases he
theorem Cell.azd(h:Rel w0 M T γ st a w){r:aP}{x:Cell}{v:Value}{l:List r.den}(Z:bY (aI w0 T γ st w) x v)(f:x.get st (.sl e r)=some l):
 RQ w.heap (λb=>b<w.heap.size) r.len (λI y=>dD w.heap ((aI w0 T γ st w).fG (x.EI r st)) r I y) v l:=by
 suffices hs:RQ w.heap (λb=>b<w.heap.size) r.len (λI y=>dD w.heap ((aI w0 T γ st w).fG (x.fresh st)) r I y) v l by
  refine hs.mono (λb U=>⟨U,rfl⟩) λI y F=>?_
  grind [Cell.EI,dD.flat]
 cases x<;>simp only[Cell.get]at f<;>try (cases f;done)
 .cases f;have R:v=.slice none 0 0:=Z;subst R;exact⟨aQx _,.inl ⟨rfl,none,0,rfl⟩⟩
 .next E s m J=>
  split at f
  .next U=>have k:=aP.eq_of_beq s r U;subst k;cases f;have Z:RQ _ _ _ _ v m:=Z;exact Z.mono (λb U=>⟨U.1.1,rfl⟩) (λI y F=>F)
  .cases f
 .next o=>
  obtain⟨⟨E,s,m,J,z⟩,R,_⟩:=Z;have j:st.ak o=some (.arr E s m J):=z;simp only[j]at f;split at f
  .next U=>
   have k:=aP.eq_of_beq s r U;subst k;cases f;rw[R];show RQ _ _ _ _ (γ o) m;have W:(Cell.ref o).fresh st=J:=by grind [Cell.fresh]
   obtain⟨q,⟨C,O⟩,hr,hf,Z⟩:=h.ak o _ j;rcases O with⟨R,H⟩|⟨g,B,Q,R,_,f,u,A,hsz,L⟩
   .exact⟨fC,.inl ⟨aQ1.1 H,none,0,R⟩⟩
   .refine⟨aQn u A,.inr ⟨g,0,B,Q,E,(0,0),R,u,(h.lt o _ g j (by rw[show γ o=_ from R];rfl)).1,f,λi x D=>?_⟩⟩;have K:i<m.length:=(aQC.1 D).1;have N:i*s.len+s.len<=m.length*s.len:=by
     have:(i+1)*s.len<=m.length*s.len:=aQy _ K
     grind
    grind [jV]
  .cases f
variable {xs:List Value}
theorem aqj{i:TypeInfo}(k:P.underlying t=some (.slice e))(D:P.info? e=some i){base size:Nat}{v:Value}(j:w.ownsRow base e size v n xs)(f:Option Addr)(c:Nat):
 (Builtin.append_ #[t,t] ty #[v,.slice f 0 c]).run P w=.ok v w:=by
 rcases j.2 with⟨rfl,rfl⟩|⟨g,y,Q,rfl,_,_,h,_⟩
 .cases f with
  |none=>simp[Builtin.append_,aQI k,sizeOf,typeInfo,D,Builtin.lenOf,Builtin.firstCells]
  |some f=>simp[Builtin.append_,aQI k,sizeOf,typeInfo,D,Builtin.lenOf,Builtin.firstCells,loadCells,loadCellsFrom]
 .cases f with
  |none=>simp[Builtin.append_,aQI k,sizeOf,typeInfo,D,Builtin.lenOf,Builtin.firstCells,h,storeCells]
  |some f=>simp[Builtin.append_,aQI k,sizeOf,typeInfo,D,Builtin.lenOf,Builtin.firstCells,h,storeCells,loadCells,loadCellsFrom]
theorem dD.ones{h:Array Obj}{S:Nat->Prop}:∀(r:aP)(I:List Value)(x:r.den),dD h S r I x->∀v∈I,v.oneCell'=true
 |.nil,I,_,H,v,R=>by grind [dD]
 |.cons c r,I,(x,y),H,v,R=>by
  obtain⟨u,f,rfl,C,O⟩:=H;rcases aQt.1 R with rfl|R
  .cases c with
   |int k=>rw[C.1];rfl
   |bool=>rw[show _=_ from C];rfl
   |str=>rw[C.1];rfl
   |sl e s=>rcases C.2 with⟨_,a,c,R⟩|⟨b,m,g,A,t,i,R,_⟩<;>rw[R]<;>rfl
  .exact dD.ones r f y O v R
theorem aze{i:TypeInfo}{z:Value}{size l:Nat}(K:P.underlying t=some (.slice e))(D:P.info? e=some i)(O:i.zero=some z)(s:i.size=size)(F:i.bytes=l)(N:0<size)
 {v:Value}   (q:w.ownsRow 0 e size v n xs) (B:Addr) (c:Nat) {m:Nat} (k:0<m) {A:List Value} (W:A.length=m*size) (h:∀j u,A[j]? =some u->w.cell? (B.add j)=some u) (C:∀u∈A,u.oneCell'=true)
 (R:n+m<=9223372036854775807) (r:(n+m)*l<=140737488355328)  {w':World} (hr:(Builtin.append_ #[t,t] ty #[v,.slice (some B) m c]).run P w=.ok v' w') {g:Nat} (I:v'.ownBlock=some g):
 v.ownBlock=some g\/w.heap.size<=g:=by
 subst s;subst F;rcases q.2 with⟨rfl,rfl⟩|⟨E,y,Q,rfl,_,J,Z,U,H,L⟩
 .have f:=run_append_nil (P:=P) w t ty e i z K D O B m c A W h k fC jv;rw[hr]at f;cases f;cases I
  grind
 .by_cases hroom:n+m<=y
  .have hfit:n*i.size+A.length<=Q.size:=by rw[W,H,← aRV];exact aQy _ hroom
   have f:=run_append_room (P:=P) w t ty e i K D E n y Q J B m c A W h C hroom hfit;rw[hr]at f;cases f;exact .inl I
  .have holds:∀j u,xs[j]? =some u->w.cell? ((⟨E,0,none⟩:Addr).add j)=some u:=q.cells (g:=E) rfl;have f:=run_append_grow (P:=P) w t ty e i z K D O ⟨E,0,none⟩ n y xs q.1 holds B m c A W h fC fC (growslice_fits fC r);rw[hr]at f;cases f;cases I
   grind
theorem Sj{f:TI}(hT:qR P t ti)(hk:ti.kind=.slice e)(hE:qR P e f)(r:0<f.cells.len){v:Value}(q:w.ownsRow 0 e f.cells.len v n xs)
 {F:Nat->Prop} {B:Value} {s:List f.cells.den} (hs:RQ w.heap (λb=>b<w.heap.size) f.cells.len (λI y=>dD w.heap F f.cells I y) B s) (k:n+s.length<=big):
 ∃v' w' h,(Builtin.append_ #[t,t] ty #[v,B]).run P w=.ok v' w'/\w'.ownsRow 0 e f.cells.len v' (n+s.length) (xs++h)/\w.grownBy w' v.ownBlock/\
  (∀i x,s[i]? =some x->dD w.heap F f.cells ((h.drop (i*f.cells.len)).take f.cells.len) x)/\(∀g,v'.ownBlock=some g->v.ownBlock=some g\/w.heap.size<=g):=by
 obtain⟨i,z,D,hsz,O,hz,hzv,_⟩:=hE.info;have K:=hT.und;rw[hk]at K;have hzs:z.cells.size=f.cells.len:=by grind [KZ]
 have zero:∀ad c,s=[]->B=.slice ad 0 c->∃v' w' h,(Builtin.append_ #[t,t] ty #[v,B]).run P w=.ok v' w'/\w'.ownsRow 0 e f.cells.len v' (n+s.length) (xs++h)/\w.grownBy w' v.ownBlock/\
  (∀i x,s[i]? =some x->dD w.heap F f.cells ((h.drop (i*f.cells.len)).take f.cells.len) x)/\(∀g,v'.ownBlock=some g->v.ownBlock=some g\/w.heap.size<=g):=by
  intro ad c Q R;subst Q;rw[R];exact⟨v,w,[],aqj K.1 D q ad c,jv,⟨rfl,rfl,rfl,aQp _,λ_ _ _=>rfl⟩,(λi x Z=>by simp at Z),λg hg=>.inl hg⟩
 rcases hs.2 with⟨Q,ad,c,R⟩|⟨b,m,L,A,ty2,fz,R,hcap,hlt,U,Z⟩
 · grind
 .by_cases h0:s=[]
  · grind
  .have hm:0<s.length:=aRL.2 h0;have e1:(s.length-1)*f.cells.len+f.cells.len=s.length*f.cells.len:=by rw[← Nat.succ_mul];congr 1;omega
   have aOA:m+s.length*f.cells.len<=A.toList.length:=by
    have W:s.length-1<s.length:=fC;have E:=Z (s.length-1) _ (aQD W);have:=dD.length _ _ _ E
    grind
   let h:List Value:=(A.toList.drop m).take (s.length*f.cells.len)
   have H:h.length=s.length*f.cells.len:=by
    grind
   have l:∀j u,h[j]? =some u->w.cell? ((⟨b,m,none⟩:Addr).add j)=some u:=by intro j u hj;rw[addr_add];exact aeh U _ j u hj
   have XF:∀u∈h,u.oneCell'=true:=by
    intro u K;obtain⟨j,hj⟩:=aSb K;have hjl:j<h.length:=(aQC.1 hj).1;rw[H]at hjl;have C:j / f.cells.len<s.length:=Nat.div_lt_of_lt_mul jv;have hR:=Z (j / f.cells.len) _ (aQD C);refine dD.ones _ _ _ hR u ?_;have hdm:=Nat.div_add_mod j f.cells.len;have hml:=Nat.mod_lt j r;refine aQU (i:=j%f.cells.len) ?_
    grind
   have N:=hE.small;unfold big at k;obtain⟨v',w',hr,J,hg,_⟩:=run_append_own (P:=P) w 0 t ty e i z f.cells.len f.bytes K.1 D hz hsz O hzs r v n xs q ⟨b,m,none⟩ s.length L h H l XF
    (by grind [maxLen]) (by have:(n+s.length)*f.bytes<=4294967296*4096:=aSP k N;omega) (aQx _)
   refine⟨v',w',h,jv,J,hg,λi x D=>?_,λg hgb=>?_⟩
   rotate_left
   .exact aze (P:=P) K.1 D hz hsz O r q ⟨b,m,none⟩ L hm H l XF fC (by have:(n+s.length)*f.bytes<=4294967296*4096:=aSP k N;omega) hr hgb
   have C:i<s.length:=(aQC.1 D).1;have hmul:i*f.cells.len+f.cells.len<=s.length*f.cells.len:=by
    have:(i+1)*f.cells.len<=s.length*f.cells.len:=aQy _ C
    grind
   grind [jV,List.drop_drop]
theorem YM{v:Value}(h:∀a,v≠ .pointer (some a)):v.ownBlock=blk v:=by
 cases v with
 |slice a n c=>cases a<;>rfl
 |pointer a=>cases a with
  |none=>rfl
  |some a=>grind
 |_=>rfl
theorem aws{base size:Nat}(f:w'.ownsRow base e size v' n xs):
 ∀g,blk v'=some g->g<w'.heap.size:=by
 intro g U;rcases f.2 with⟨C,_⟩|⟨h,y,Q,C,_,i,_⟩
 .rw[C]at U;cases U
 .rw[C]at U;cases U
  grind
theorem axL(hΘ:∀t ti,Θ t=some ti->qR P t ti)(h:Rel w0 M T γ st a w){f:TI}(ht:Θ t=some ti)(j:ti.kind=.slice e)(he:Θ e=some f){r:aP}{l:List r.den}{fr:Bool}
 (z:st.ak o=some (.arr e r l fr)) (k:f.cells.beq r=true) {y:Cell} {s:List f.cells.den} {v src:Value} (R:bY (aI w0 T γ st w) (.ref o) v) (F:bY (aI w0 T γ st w) y src)
 (I:y.get st (.sl e f.cells)=some s) (E:l.length+s.length<=big):
 ∃u w' γ',(Builtin.append_ #[t,t] ty #[v,src]).run P w=.ok u w'/\Rel w0 M T γ' ((st.kill (Nat.beq o ·)).add o (.arr e r (l++Cc k s) (fr&&y.EI f.cells st))) a w'/\
  dB (aI w0 T γ' ((st.kill (Nat.beq o ·)).add o (.arr e r (l++Cc k s) (fr&&y.EI f.cells st))) w') (.sv (.one (.ref o))) u:=by
 have hr:=aP.eq_of_beq _ _ k;subst hr;obtain⟨_,Z,_⟩:=R;subst Z;obtain⟨xs,q,A,hfr,O⟩:=h.ak o _ z;obtain⟨v',w',ns,W,m,H,hnr,hgb⟩:=Sj (P:=P) (ty:=ty) (hΘ t ti ht) j (hΘ e f he) A q (Cell.azd h F I) E;have L:(l++Cc k s).length=l.length+s.length:=by rw[aQu];rfl
 have hnp:∀ad,γ o≠ .pointer (some ad):=by
  rcases q.2 with⟨C,_⟩|⟨g,B,Q,C,_⟩
  · grind
  grind
 have aNz:v'.oneCell'=true:=by rcases m.2 with⟨C,_⟩|⟨g,B,Q,C,_⟩<;>rw[C]<;>rfl
 have hown2:=YM hnp;have K:∀g,blk v'=some g->(some g=blk (γ o)\/w.heap.size<=g)/\g<w'.heap.size:=by
  intro g U;refine⟨?_,aws m g U⟩;have hb2:v'.ownBlock=some g:=by
   rw[YM (λad D=>?_)]
   .exact U
   .rcases m.2 with⟨C,_⟩|⟨g,B,Q,C,_⟩<;>rw[D]at C<;>cases C
  grind
 obtain⟨hR,_⟩:=h.replace (w':=w') (o:=o) (v':=v') (x':=.arr e f.cells (l++Cc k s) (fr&&y.EI f.cells st)) (blk (γ o)) (.inr ⟨_,z,rfl⟩) H.os H.tape H.output H.size
  (λb U hne=>H.block b U jv) K (λ_ e=>y5) (λle=>by
    refine⟨xs++ns,?_,A,?_,?_⟩
    · grind [upd_same]
    .intro b U hf;have U:blk (upd γ o v' o)=some b:=U;rw[upd_same]at U;rcases(K b U).1 with C|C
     · grind
     .exact aQn h.grow C
    .intro i x hi;have hxl:xs.length=l.length*f.cells.len:=q.1;by_cases J:i<l.length
     .rw[aRj J]at hi;have hmul:i*f.cells.len+f.cells.len<=l.length*f.cells.len:=by
       have:(i+1)*f.cells.len<=l.length*f.cells.len:=aQy _ J
       grind
      have D:((xs++ns).drop (i*f.cells.len)).take f.cells.len=(xs.drop (i*f.cells.len)).take f.cells.len:=by
       grind
      rw[D];refine dD.mono (λc N=>le.fG _ c ⟨N.1,λe2=>N.2 jv⟩) _ _ x (O i x hi)
     .rw[aRR fC]at hi;have D:((xs++ns).drop (i*f.cells.len)).take f.cells.len=(ns.drop ((i-l.length)*f.cells.len)).take f.cells.len:=by
       have e2:i*f.cells.len=xs.length+(i-l.length)*f.cells.len:=by rw[hxl,← aRV];congr 1;omega
       grind [List.drop_drop,List.drop_left]
      rw[D];refine dD.mono (λc N=>le.fG _ c ⟨N.1,λe2=>N.2 jv⟩) _ _ x (hnr _ x hi))
 exact⟨v',w',_,W,hR,⟨e,f.cells,_,_,add_same _ _ _⟩,(upd_same _ _ _).symm,aNz⟩
end Go.Fw
