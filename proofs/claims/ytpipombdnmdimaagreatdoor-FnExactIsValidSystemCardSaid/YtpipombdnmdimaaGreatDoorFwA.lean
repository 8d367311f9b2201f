import Derived.WalkKit
import Derived.Laws.AppendOwnNone
import Derived.KernelRfl
import Derived.Deep.MidRow
import Derived.Great.BuildSlice
import Derived.Laws.StructEq
import Derived.Great.FillDense
import Derived.Laws.MakeOwn
import Derived.Laws.BytesString
import Derived.Laws.IdiomStrings
abbrev aHt:=@beq_eq_false_iff_ne
abbrev aHu:=@List.length_append
abbrev aHv:=@Nat.le_refl
abbrev aHw:=@Nat.le_trans
abbrev aHx:=@List.length_cons
abbrev aHy:=@Bool.and_eq_true
abbrev aHz:=@Array.getElem?_eq_some_iff
abbrev aHA:=@Nat.eq_of_beq_eq_true
abbrev aHB:=@Int.toNat_natCast
abbrev aHC:=@List.mem_cons_of_mem
abbrev aHD:=@decide_eq_false
abbrev aHE:=@beq_iff_eq
abbrev aHF:=@decide_eq_true
abbrev aHG:=@List.length_nil
abbrev aHH:=@List.mem_cons
abbrev aHI:=@List.getD_eq_getElem?_getD
abbrev aHJ:=@List.mem_cons_self
abbrev aHK:=@List.getElem?_eq_getElem
abbrev aHL:=@List.length_map
abbrev aHM:=@decide_eq_true_eq
abbrev aHN:=@List.getElem?_eq_some_iff
abbrev aHO:=@List.append_assoc
abbrev aHP:=@List.length_take
abbrev aHQ:=@Nat.mul_le_mul_right
abbrev aHR:=@Nat.lt_of_lt_of_le
abbrev aHS:=@List.all_eq_true
abbrev aHT:=@List.map_cons
abbrev aHU:=@Nat.lt_or_ge
abbrev aHV:=@Nat.zero_le
abbrev aHW:=@decide_eq_false_iff_not
abbrev aHX:=@Bool.eq_iff_iff
abbrev aHY:=@Go.Calls.mono
abbrev aHZ:=@Go.run_underlying
abbrev aH0:=@List.length_eq_zero_iff
abbrev aH1:=@List.append_nil
abbrev aH2:=@Nat.le_succ_of_le
abbrev aH3:=@List.mem_append
abbrev aH4:=@List.take_length
abbrev aH5:=@List.mem_of_getElem?
abbrev aH6:=@Go.heap_alloc_new
abbrev aH7:=@List.length_drop
abbrev aH8:=@Bool.and_false
abbrev aH9:=@List.mem_singleton
abbrev aIa:=@List.take_of_length_le
abbrev aIb:=@Go.Sem.run_bind
abbrev aIc:=@List.append_eq_nil_iff
abbrev aId:=@List.getElem?_map
abbrev aIe:=@Int.le_refl
abbrev aIf:=@List.getElem_of_mem
abbrev aIg:=@Nat.not_lt_zero
abbrev aIh:=@List.mem_append_left
abbrev aIi:=@List.take_succ_eq_append_getElem
abbrev aIj:=@Classical.byContradiction
abbrev aIk:=@List.map_append
abbrev aIl:=@List.pairwise_cons
abbrev aIm:=@Nat.le_of_ble_eq_true
abbrev aIn:=@Nat.zero_add
abbrev aIo:=@List.mem_map
abbrev aIp:=@List.getElem?_drop
abbrev aIq:=@List.length_filter_le
abbrev aIr:=@List.flatMap_cons
abbrev aIs:=@List.getElem?_take
abbrev aIt:=@of_decide_eq_true
abbrev aIu:=@List.sum_cons
abbrev aIv:=@Go.bodyPost_ret
abbrev aIw:=@List.all_cons
abbrev aIx:=@Nat.succ_pos
abbrev aIy:=@Go.Result.andThen_ok
abbrev aIz:=@List.getElem?_append_left
abbrev aIA:=@List.mem_append_right
abbrev aIB:=@Go.Sem.run_pure
abbrev aIC:=@List.cons_append
abbrev aID:=@Bool.or_eq_false_iff
abbrev aIE:=@Go.World.cell?_of_block
abbrev aIF:=@List.ext_getElem?
abbrev aIG:=@List.nil_append
abbrev aIH:=@Array.length_toList
abbrev aII:=@Nat.beq_refl
abbrev aIJ:=@List.getElem?_append_right
abbrev aIK:=@Bool.true_and
abbrev aIL:=@List.mem_range
abbrev aIM:=@Nat.eq_zero_or_pos
abbrev aIN:=@List.getElem?_eq_none
abbrev aIO:=@Bool.false_and
abbrev aIP:=@Nat.add_mul
abbrev aIQ:=@Nat.min_eq_left
abbrev aIR:=@List.map_map
abbrev aIS:=@Bool.or_eq_true
abbrev aIT:=@List.mem_filter
abbrev aIU:=@List.getElem?_take_of_lt
abbrev aIV:=@Bool.and_true
abbrev aIW:=@Go.results_cell_tmp
abbrev aIX:=@Go.results_cell_row
abbrev aIY:=@Nat.lt_succ_self
abbrev aIZ:=@Nat.mul_one
abbrev aI0:=@bne_iff_ne
abbrev aI1:=@Go.World.ownsRow.drew
abbrev aI2:=@List.length_mergeSort
abbrev aI3:=@Nat.le_add_left
abbrev aI4:=@Array.getElem?_append_left
abbrev aI5:=@List.getElem?_set_ne
abbrev aI6:=@List.drop_eq_getElem_cons
abbrev aI7:=@List.mem_of_mem_take
abbrev aI8:=@Go.info_parts
abbrev aI9:=@Int.add_zero
abbrev aJa:=@List.take_succ_cons
abbrev aJb:=@Int.mul_le_mul_of_nonneg_right
abbrev aJc:=@Option.map_none
abbrev aJd:=@List.filter_append
abbrev aJe:=@Option.map_eq_some_iff
abbrev aJf:=@List.take_append_of_le_length
abbrev aJg:=@List.drop_append_of_le_length
abbrev aJh:=@Bool.not_eq_true'
abbrev aJi:=@List.pairwise_map
abbrev aJj:=@Nat.lt_succ_of_lt
abbrev aJk:=@List.set_append_right
abbrev aJl:=@Nat.sub_self
abbrev aJm:=@List.length_replicate
abbrev aJn:=@Nat.add_zero
abbrev aJo:=@List.take_append_drop
abbrev aJp:=@Array.toList_map
abbrev aJq:=@List.getElem?_of_mem
abbrev aJr:=@List.mem_iff_getElem
abbrev aJs:=@List.getElem_mem
abbrev aJt:=@Nat.le_add_right
abbrev aJu:=@List.map_id
abbrev aJv:=@Array.toList_append
abbrev aJw:=@List.pairwise_iff_getElem
abbrev aJx:=@List.sum_append
abbrev aJy:=@Nat.add_sub_cancel
abbrev aJz:=@Nat.le_of_lt
abbrev aJA:=@cond_false
abbrev aJB:=@Ne.symm
abbrev aJC:=@Nat.not_lt
abbrev aJD:=@List.pairwise_singleton
abbrev aJE:=@Go.World.ownsRow_nil
abbrev aJF:=@List.size_toArray
abbrev aJG:=@Bool.eq_false_iff
abbrev aJH:=@Array.getElem?_eq_none
abbrev aJI:=@List.drop_of_length_le
abbrev aJJ:=@beq_self_eq_true
abbrev aJK:=@Bool.and_eq_false_iff
abbrev aJL:=@Array.ext'
abbrev aJM:=@Go.Oper.upon_enter
abbrev aJN:=@List.pairwise_append
abbrev aJO:=@List.range_succ
abbrev aJP:=@List.all_append
abbrev aJQ:=@List.mem_of_mem_drop
abbrev aJR:=@Prod.ext_iff
abbrev aJS:=@List.getD_cons_succ
abbrev aJT:=@Int.toNat_of_nonneg
abbrev aJU:=@true_and
abbrev aJV:=@List.drop_drop
abbrev aJW:=@Array.getD_eq_getD_getElem?
abbrev aJX:=@Bool.false_eq_true
abbrev aJY:=@List.mem_mergeSort
abbrev aJZ:=@List.set_cons_zero
abbrev aJ0:=@Nat.one_le_two_pow
abbrev aJ1:=@List.foldl_append
abbrev aJ2:=@Nat.lt_trichotomy
abbrev aJ3:=@Array.mapM_eq_mapM_toList
abbrev aJ4:=@if_false
abbrev aJ5:=@List.all_nil
abbrev aJ6:=@List.drop_length
abbrev aJ7:=@List.filter_cons
abbrev aJ8:=@Int.natAbs_tmod
abbrev aJ9:=@Option.map_some
abbrev aKa:=@cond_true
abbrev aKb:=@and_congr_right
abbrev aKc:=@List.nodup_cons
abbrev aKd:=@List.length_set
abbrev aKe:=@UInt8.toNat_inj
abbrev aKf:=@List.drop_take
abbrev aKg:=@Nat.mul_le_mul
abbrev aKh:=@List.take_left
abbrev aKi:=@List.take_zero
abbrev aKj:=@List.take_take
theorem lu{p:Prop}(h:p:=by omega):p:=h
theorem lZ{p:Prop}(h:p:=by decide):p:=h
theorem mF{p:Prop}(h:p:=by kernel_rfl):p:=h
theorem ny{p:Prop}(h:p:=by grind):p:=h
theorem vk{p:Prop}(h:p:=by simp):p:=h
theorem x9{p:Prop}(h:p:=by dsimp only;exact bT (by omega) ⟨⟨by omega,by omega⟩,⟨by omega,by omega⟩,rfl,rfl,next trivial⟩):p:=h
theorem y7{p:Prop}(h:p:=by simpa using h):p:=h
theorem y8{p:Prop}(h:p:=by rw[maxLen_eq];omega):p:=h
theorem y9{p:Prop}(h:p:=by simp[Act.eval]):p:=h
theorem zH{p:Prop}(h:p:=by cases h):p:=h
theorem FT{p:Prop}(h:p:=by rw[dJ];omega):p:=h
theorem KW{p:Prop}(h:p:=by simp;omega):p:=h
theorem O6{p:Prop}(h:p:=by cases Z):p:=h
theorem P8{p:Prop}(h:p:=by intro u hu;simp at hu;rcases hu with rfl|rfl<;>rfl):p:=h
theorem Q5{p:Prop}(h:p:=by dsimp only;exact bP (by omega) rfl):p:=h
theorem Q7{p:Prop}(h:p:=by cases e):p:=h
theorem RS{p:Prop}(h:p:=by cases H):p:=h
theorem Sr{p:Prop}(h:p:=by simp[execOp,hop]):p:=h
theorem UL{p:Prop}(h:p:=by rw[dJ];simp only[aHx,aHG];omega):p:=h
theorem WX{p:Prop}(h:p:=by simp only[aHu];omega):p:=h
theorem XD{p:Prop}(h:p:=by simp at h):p:=h
theorem XH{p:Prop}(h:p:=by simp_all):p:=h
theorem XO{p:Prop}(h:p:=by have:=(aHz.1 q1).1;simp;(try simp[World.setCell]);omega):p:=h
theorem X3{p:Prop}(h:p:=by dsimp only;omega):p:=h
theorem Y4{p:Prop}(h:p:=by rw[one];simp only[Sp.ls,aHL,aHu,aHP,aHx,aHG];omega):p:=h
theorem Zm{p:Prop}(h:p:=by rw[aHx,aHG];omega):p:=h
theorem aat{p:Prop}(h:p:=by have:=aHN.1 hco;rw[hh.length.1,← hh.length.2];exact this.1):p:=h
theorem aaC{p:Prop}(h:p:=by rintro _ rfl;exact⟨j,f _ (by rw[aHx,aHG];omega),rfl,rfl⟩):p:=h
theorem aa2{p:Prop}(h:p:=by have U:¬(Sp.fileAt w n).1>=a:=fK U;omega):p:=h
theorem abR{p:Prop}(h:p:=by rintro _ ⟨q,b,⟨i,o,s,l,a,⟨⟩⟩,r,⟨⟩⟩;rfl):p:=h
theorem abV{p:Prop}(h:p:=by simpa using O):p:=h
theorem ab3{p:Prop}(h:p:=by have:=fK j;omega):p:=h
theorem aeY{p:Prop}(h:p:=by rw[aHP];omega):p:=h
theorem aeZ{p:Prop}(h:p:=by show Sp.ls _=Sp.ls (_++[]);rw[aH1]):p:=h
theorem afh{p:Prop}(h:p:=by have:=fG j;omega):p:=h
theorem afi{p:Prop}(h:p:=by have:=fK h;omega):p:=h
theorem afq{p:Prop}(h:p:=by have:=fG O;omega):p:=h
theorem afr{p:Prop}(h:p:=by rw[getElem!_pos _ i (by simpa using h)];simp):p:=h
theorem ahb{p:Prop}(h:p:=by apply aJL;simp[hargs]):p:=h
theorem ahe{p:Prop}(h:p:=by have:=own b e.symm;have:=(t b a).1;omega):p:=h
theorem ahf{p:Prop}(h:p:=by rw[show j+(i+1)=j+1+i by omega];exact D):p:=h
theorem ahG{p:Prop}(h:p:=by rw[jO,dJ]at h;omega):p:=h
theorem ahY{p:Prop}(h:p:=by simp only[aHx,aHG];rw[maxLen_eq];omega):p:=h
theorem ahZ{p:Prop}(h:p:=by rw[K];exact Qa g hs hk hf ht hne b _):p:=h
theorem ah0{p:Prop}(h:p:=by simp_all [execOp]):p:=h
theorem ah1{p:Prop}(h:p:=by simp only[aHu,M,E,U];omega):p:=h
theorem ah2{p:Prop}(h:p:=by simpa using hi):p:=h
theorem ah3{p:Prop}(h:p:=by rfl):p:=h
theorem ah4{p:Prop}(h:p:=by unfold mP;rw[h];rfl):p:=h
theorem ah5{p:Prop}(h:p:=by simp[World.setCell]):p:=h
theorem ah6{p:Prop}(h:p:=by simpa using U):p:=h
theorem ah7{p:Prop}(h:p:=by grind [AV.kill]):p:=h
theorem aiq{p:Prop}(h:p:=by rw[hd];exact Oi MR):p:=h
theorem aiv{p:Prop}(h:p:=by simp only[aHu,E];omega):p:=h
theorem akk{p:Prop}(h:p:=by simp[oL]at h):p:=h
theorem aks{p:Prop}(h:p:=by rintro _ ⟨q,b,⟨⟩⟩;rfl):p:=h
theorem akT{p:Prop}(h:p:=by grind [gV]):p:=h
theorem ak9{p:Prop}(h:p:=by rw[aHB,YF];omega):p:=h
theorem ald{p:Prop}(h:p:=by simpa using d):p:=h
theorem amW{p:Prop}(h:p:=by simpa using b):p:=h
theorem am1{p:Prop}(h:p:=by rw[e]):p:=h
theorem an9{p:Prop}(h:p:=by rw[aH7];omega):p:=h
theorem apD{p:Prop}(h:p:=by rcases c with rfl|rfl<;>rfl):p:=h
theorem apE{p:Prop}(h:p:=by simp[h]):p:=h
theorem apG{p:Prop}(h:p:=by show b≠w3.heap.size;omega):p:=h
theorem apV{p:Prop}(h:p:=by grind [sH]):p:=h
theorem aqN{p:Prop}(h:p:=by rw[aHu,one];omega):p:=h
theorem aqO{p:Prop}(h:p:=by rw[h];rfl):p:=h
theorem aqP{p:Prop}(h:p:=by simpa using D):p:=h
theorem arG{p:Prop}(h:p:=by rw[e];exact c):p:=h
theorem arQ{p:Prop}(h:p:=by cases k<;>decide):p:=h
theorem arU{p:Prop}(h:p:=by have:=fG U;omega):p:=h
theorem asr{p:Prop}(h:p:=by have:=fK U;omega):p:=h
theorem asw{p:Prop}(h:p:=by have:=fG h;omega):p:=h
theorem asB{p:Prop}(h:p:=by rw[F.1];exact D):p:=h
theorem atF{p:Prop}(h:p:=by rw[K];rfl):p:=h
theorem atG{p:Prop}(h:p:=by rw[b];omega):p:=h
namespace Go.Fw
open Go
abbrev Bytes:=List UInt8
mutual
inductive CT where
 |int (k:IntKind)
 |bool
 |str
 |sl (e:TypeId) (r:au)
inductive au where
 |nil
 |cons (c:CT) (r:au)
end
mutual
def CT.beq:CT->CT->Bool
 |.int k,.int l=>decide (k=l)
 |.bool,.bool=>true
 |.str,.str=>true
 |.sl e r,.sl f s=>Nat.beq e f&&r.beq s
 |_,_=>false
def au.beq:au->au->Bool
 |.nil,.nil=>true
 |.cons c r,.cons d s=>c.beq d&&r.beq s
 |_,_=>false
end
mutual
theorem CT.eq_of_beq:∀(c d:CT),c.beq d=true->c=d
 |.int k,.int l,h=>by simp[CT.beq]at h;rw[h]
 |.bool,.bool,_=>rfl
 |.str,.str,_=>rfl
 |.sl e r,.sl f s,h=>by
  simp[CT.beq]at h;rw[h.1,au.eq_of_beq r s h.2]
 |.int _,.bool,h|.int _,.str,h|.int _,.sl _ _,h|.bool,.int _,h|.bool,.str,h|.bool,.sl _ _,h
 |.str,.int _,h|.str,.bool,h|.str,.sl _ _,h|.sl _ _,.int _,h|.sl _ _,.bool,h|.sl _ _,.str,h=>by simp[CT.beq]at h
theorem au.eq_of_beq:∀(r s:au),r.beq s=true->r=s
 |.nil,.nil,_=>rfl
 |.cons c r,.cons d s,h=>by
  simp[au.beq]at h;rw[CT.eq_of_beq c d h.1,au.eq_of_beq r s h.2]
 |.nil,.cons _ _,h|.cons _ _,.nil,h=>by simp[au.beq]at h
end
mutual
@[reducible] def CT.den:CT->Type
  |.int _=>Int
  |.bool=>Bool
  |.str=>Bytes
  |.sl _ r=>List r.den
@[reducible] def au.den:au->Type
  |.nil=>Unit
  |.cons c r=>c.den×r.den
end
mutual
def CT.dflt:(c:CT)->c.den
 |.int _=>(0:Int)
 |.bool=>false
 |.str=>([]:Bytes)
 |.sl _ r=>([]:List r.den)
def au.dflt:(r:au)->r.den
 |.nil=>()
 |.cons c r=>(c.dflt,r.dflt)
end
instance(r:au):Inhabited r.den:=⟨r.dflt⟩
def au.len:au->Nat
 |.nil=>0
 |.cons _ r=>r.len+1
def Nz{α:Type}(h:Array Obj)(S:Nat->Prop)(size:Nat)(d:List Value->α->Prop)(v:Value)(l:List α):Prop:=
 l.length<=maxLen/\
 ((l=[]/\∃a c,v=.slice a 0 c)\/
  ∃b m y A t e,v=.slice (some ⟨b,m,none⟩) l.length y/\l.length<=y/\S b/\h[b]? =some (.cells A t e)/\
   ∀i x,l[i]? =some x->d ((A.toList.drop (m+i*size)).take size) x)
mutual
def dw(h:Array Obj)(S:Nat->Prop):(c:CT)->Value->c.den->Prop
 |.int k,v,(n:Int)=>v=.int k n/\k.min<=n/\n<=k.max
 |.bool,v,(b:Bool)=>v=.bool b
 |.str,v,(s:Bytes)=>v=.string ⟨s.toArray⟩/\s.length<=maxLen
 |.sl _ r,v,(l:List r.den)=>Nz h S r.len (λI x=>aY h S r I x) v l
def aY(h:Array Obj)(S:Nat->Prop):(r:au)->List Value->r.den->Prop
 |.nil,vs,_=>vs=[]
 |.cons c r,vs,(x,y)=>∃v a,vs=v::a/\dw h S c v x/\aY h S r a y
end
def au.flat:au->Bool
 |.nil=>true
 |.cons (.sl _ _) _=>false
 |.cons _ r=>r.flat
theorem aY.flat{h:Array Obj}{S S':Nat->Prop}:∀(r:au)(I:List Value)(x:r.den),r.flat=true->aY h S r I x->aY h S' r I x
 |.nil,_,_,_,hr=>hr
 |.cons (.sl _ _) _,_,_,hf,_=>by grind [au.flat]
 |.cons (.int _) r,I,(x,y),hf,hr=>by
  obtain⟨v,a,E,O,U⟩:=hr;exact⟨v,a,E,O,aY.flat r a y hf U⟩
 |.cons .bool r,I,(x,y),hf,hr=>by
  obtain⟨v,a,E,O,U⟩:=hr;exact⟨v,a,E,O,aY.flat r a y hf U⟩
 |.cons .str r,I,(x,y),hf,hr=>by obtain⟨v,a,E,O,U⟩:=hr;exact⟨v,a,E,O,aY.flat r a y hf U⟩
theorem Nz.mono{α:Type}{h h':Array Obj}{S S':Nat->Prop}{size:Nat}{d a:List Value->α->Prop}{v:Value}{l:List α}
 (H:Nz h S size d v l) (u:∀b,S b->S' b/\h'[b]? =h[b]?) (W:∀I x,d I x->a I x):Nz h' S' size a v l:=by
 obtain⟨Q,H⟩:=H;refine⟨Q,?_⟩
 grind
mutual
theorem dw.mono{h h':Array Obj}{S S':Nat->Prop}(u:∀b,S b->S' b/\h'[b]? =h[b]?):
 ∀(c:CT)(v:Value)(x:c.den),dw h S c v x->dw h' S' c v x
 |.int k,v,(n:Int),H=>by simpa[dw]using H
 |.bool,v,(b:Bool),H=>by simpa[dw]using H
 |.str,v,(s:Bytes),H=>by simpa[dw]using H
 |.sl _ r,v,(l:List r.den),H=>by rw[dw]at H ⊢;exact H.mono u (λI x Z=>aY.mono u r I x Z)
theorem aY.mono{h h':Array Obj}{S S':Nat->Prop}(u:∀b,S b->S' b/\h'[b]? =h[b]?):
 ∀(r:au)(I:List Value)(x:r.den),aY h S r I x->aY h' S' r I x
 |.nil,I,_,H=>by simpa[aY]using H
 |.cons c r,I,(x,y),H=>by rw[aY]at H ⊢;obtain⟨v,a,e,E,O⟩:=H;exact⟨v,a,e,dw.mono u c v x E,aY.mono u r a y O⟩
end
theorem aY.length{h:Array Obj}{S:Nat->Prop}:∀(r:au)(I:List Value)(x:r.den),aY h S r I x->I.length=r.len
 |.nil,I,_,H=>by grind [aY,au.len]
 |.cons c r,I,(x,y),H=>by obtain⟨v,a,rfl,_,O⟩:=H;simp[au.len,aY.length r a y O]
end Go.Fw
namespace Go.Fw
open Go
inductive Cell where
 |int (k:IntKind) (n:Int)
 |bool (b:Bool)
 |str (s:Bytes)
 |nil
 |sl (e:TypeId) (r:au) (l:List r.den) (fr:Bool)
 |ref (o:Nat)
 |junk
inductive SV where
 |one (c:Cell)
 |agg (cs:List Cell)
def SV.cells:SV->List Cell
 |.one c=>[c]
 |.agg cs=>cs
inductive AV where
 |undef
 |sv (v:SV)
 |pG (vs:List SV)
 |eG (o off:Nat)
 |qf (o:Nat) (i:Nat) (off:Nat)
 |win (o:Nat) (lo:Nat) (n:Nat)
 |sS (r:au) (x:r.den) (off:Nat) (fr:Bool)
 |dH (cs:List Cell) (off:Nat)
 |fn (f:FuncId) (caps:List (List Cell))
inductive aI where
 |var (cs:List Cell)
 |arr (e:TypeId) (r:au) (l:List r.den) (fr:Bool)
structure St where
 n:Nat
 tmps:Nat->AV
 ah:Nat->Option aI
def St.set(st:St)(d:Nat)(v:AV):St:={st with tmps:=λt=>match Nat.beq t d with|true=>v|false=>st.tmps t}
def St.put(st:St)(d:Option Nat)(v:AV):St:=match d with|some d=>st.set d v|none=>st
def St.add(st:St)(o:Nat)(x:aI):St:={st with ah:=λi=>match Nat.beq i o with|true=>some x|false=>st.ah i}
def St.adds(st:St):List (Nat×aI)->St
 |[]=>st
 |(o,x)::r=>(st.add o x).adds r
def Cell.kill(S:Nat->Bool):Cell->Cell
 |.ref o=>match S o with|true=>.junk|false=>.ref o
 |c=>c
def SV.kill(S:Nat->Bool):SV->SV
 |.one c=>.one (c.kill S)
 |.agg cs=>.agg (cs.map (Cell.kill S))
def AV.kill(S:Nat->Bool):AV->AV
 |.undef=>.undef
 |.sv v=>.sv (v.kill S)
 |.pG vs=>.pG (vs.map (SV.kill S))
 |.eG o off=>match S o with|true=>.undef|false=>.eG o off
 |.qf o i off=>match S o with|true=>.undef|false=>.qf o i off
 |.win o i off=>match S o with|true=>.undef|false=>.win o i off
 |.sS r x off fr=>.sS r x off fr
 |.dH cs off=>.dH (cs.map (Cell.kill S)) off
 |.fn f caps=>.fn f (caps.map (List.map (Cell.kill S)))
def aI.kill(S:Nat->Bool):aI->aI
 |.var cs=>.var (cs.map (Cell.kill S))
 |.arr e r l fr=>.arr e r l fr
def St.kill(st:St)(S:Nat->Bool):St:=
 {n:=st.n,tmps:=λt=>(st.tmps t).kill S,ah:=λo=>match S o with|true=>none|false=>(st.ah o).map (aI.kill S)}
def Cell.freeze(st:St)(S:Nat->Bool):Cell->Cell
 |.ref o=>match S o with
  |true=>match st.ah o with
   |some (.arr e r l fr)=>.sl e r l fr
   |_=>.junk
  |false=>.ref o
 |c=>c
def SV.freeze(st:St)(S:Nat->Bool):SV->SV
 |.one c=>.one (c.freeze st S)
 |.agg cs=>.agg (cs.map (Cell.freeze st S))
def AV.freeze(st:St)(S:Nat->Bool):AV->AV
 |.undef=>.undef
 |.sv v=>.sv (v.freeze st S)
 |.pG vs=>.pG (vs.map (SV.freeze st S))
 |.eG o off=>match S o with|true=>.undef|false=>.eG o off
 |.qf o i off=>match S o with|true=>.undef|false=>.qf o i off
 |.win o i off=>match S o with|true=>.undef|false=>.win o i off
 |.sS r x off fr=>.sS r x off fr
 |.dH cs off=>.dH (cs.map (Cell.freeze st S)) off
 |.fn f caps=>.fn f (caps.map (List.map (Cell.freeze st S)))
def aI.freeze(st:St)(S:Nat->Bool):aI->aI
 |.var cs=>.var (cs.map (Cell.freeze st S))
 |.arr e r l fr=>.arr e r l fr
def St.freeze(st:St)(S:Nat->Bool):St:=
 {n:=st.n,tmps:=λt=>(st.tmps t).freeze st S,ah:=λo=>match S o with|true=>none|false=>(st.ah o).map (aI.freeze st S)}
inductive TK where
 |scalar
 |str
 |slice (e:TypeId)
 |struct (fs:List (Nat×TypeId))
structure TI where
 kind:TK
 cells:au
 bytes:Nat
 cmp:Bool
def TI.agg(a:TI):Bool:=match a.kind with|.struct _=>true|_=>false
abbrev jY:=TypeId->Option TI
def CT.zero:CT->Cell
 |.int k=>.int k 0
 |.bool=>.bool false
 |.str=>.str []
 |.sl _ _=>.nil
def au.zeros:au->List Cell
 |.nil=>[]
 |.cons c r=>c.zero::r.zeros
def xJ{r s:au}(h:r.beq s=true)(l:List r.den):List s.den:=au.eq_of_beq r s h▸l
def Cell.get(st:St):(c:CT)->Cell->Option c.den
 |.int k,.int l n=>match decide (k=l)with|true=>some n|false=>none
 |.bool,.bool b=>some b
 |.str,.str s=>some s
 |.sl _ _,.nil=>some []
 |.sl _ r,.sl _ s l _=>if h:s.beq r=true then some (xJ h l)else none
 |.sl _ r,.ref o=>match st.ah o with
  |some (.arr _ s l _)=>if h:s.beq r=true then some (xJ h l)else none
  |_=>none
 |_,_=>none
def FB(st:St):(r:au)->List Cell->Option r.den
 |.nil,[]=>some ()
 |.cons c r,x::xs=>match x.get st c,FB st r xs with
  |some a,some b=>some (a,b)
  |_,_=>none
 |_,_=>none
def Cell.fresh(st:St):Cell->Bool
 |.sl _ _ _ fr=>fr
 |.ref o=>match st.ah o with|some (.arr _ _ _ fr)=>fr|_=>false
 |.junk=>false
 |_=>true
def Cell.AB(r:au)(st:St)(y:Cell):Bool:=match r.flat with
 |true=>true
 |false=>y.fresh st
def CT.cell(fr:Bool):(c:CT)->c.den->Cell
 |.int k,(n:Int)=>.int k n
 |.bool,(b:Bool)=>.bool b
 |.str,(s:Bytes)=>.str s
 |.sl e r,(l:List r.den)=>.sl e r l fr
def au.row(fr:Bool):(r:au)->r.den->List Cell
 |.nil,_=>[]
 |.cons c r,x=>c.cell fr x.1::au.row fr r x.2
def anP:Value->AV
 |.int k n=>match decide (k.min<=n)&&decide (n<=k.max)with|true=>.sv (.one (.int k n))|false=>.undef
 |.bool b=>.sv (.one (.bool b))
 |.string s=>match decide (s.data.toList.length<=maxLen)with|true=>.sv (.one (.str s.data.toList))|false=>.undef
 |.slice none 0 0=>.sv (.one .nil)
 |_=>.undef
def St.ev(st:St):Operand->AV
 |.tmp t=>st.tmps t
 |.const v=>anP v
 |.func f=>.fn f []
 |.global _=>.undef
def big:Nat:=4294967296
inductive gU where
 |plain (x:Cell)
 |own (e:TypeId) (r:au) (l:List r.den) (fr:Bool)
structure Out where
 awe:List (Bool×List gU)
 var:Option (List Cell)
def Cell.made:Cell->Bool
 |.sl _ _ _ fr=>fr
 |.ref _=>false
 |_=>true
def gU.made:gU->Bool
 |.plain c=>c.made
 |.own _ _ _ fr=>fr
def Out.made(o:Out):Bool:=match o.var with
 |some cs=>cs.all Cell.made
 |none=>o.awe.all λx=>x.2.all gU.made
inductive Arg where
 |sv (v:SV)
 |kp (cs:List Cell)
 |fn (f:FuncId) (caps:List (List Cell))
 |own (e:TypeId) (r:au) (l:List r.den)
 |ptr (cs:List Cell)
abbrev Dh:=List Arg->Option (Prop×Out)
inductive Mode where
 |val
 |own
 |ptr
inductive Eff where
 |lose
 |arr (e:TypeId) (r:au) (l:List r.den)
 |var (cs:List Cell)
structure Xc where
 T:Type
 R:T->Prop
 out:T->Out
 aV:T->List Eff
abbrev TA:=List Arg->Option (Prop×Xc)
inductive NC where
 |pure (c:Dh)
 |eff (ms:List Mode) (c:TA)
abbrev kY:=FuncId->Option NC
def Cell.view(st:St):Cell->Cell
 |.ref o=>match st.ah o with
  |some (.arr e r l _)=>.sl e r l false
  |_=>.junk
 |.sl e r l _=>.sl e r l false
 |c=>c
def SV.view(st:St):SV->SV
 |.one c=>.one (c.view st)
 |.agg cs=>.agg (cs.map (Cell.view st))
def Cell.ok(st:St):Cell->Bool
 |.ref o=>match st.ah o with
  |some (.arr _ _ _ _)=>true
  |_=>false
 |_=>true
def rJ(st:St):List AV->Option (List Arg)
 |[]=>some []
 |x::r=>match x,rJ st r with
  |.sv v,some vs=>match v.cells.all (Cell.ok st)with
   |true=>some (.sv (v.view st)::vs)
   |false=>none
  |.dH cs off,some vs=>match Nat.beq off 0&&cs.all (Cell.ok st)with
   |true=>some (.kp (cs.map (Cell.view st))::vs)
   |false=>none
  |.fn f caps,some vs=>match caps.all (List.all · (Cell.ok st))with
   |true=>some (.fn f (caps.map (List.map (Cell.view st)))::vs)
   |false=>none
  |_,_=>none
def handed(st:St)(z:List Operand)(a:List (List Cell)):List AV:=z.map st.ev++a.map λA=>.dH A 0
def heldBy(st:St):List Operand->Option (List (List Cell))
 |[]=>some []
 |x::r=>match st.ev x,heldBy st r with
  |.dH A off,some l=>match Nat.beq off 0 with
   |true=>some (A::l)
   |false=>none
  |_,_=>none
def gU.take(k:Nat):gU->Cell×List (Nat×aI)
 |.plain c=>(c,[])
 |.own e r l fr=>(.ref k,[(k,.arr e r l fr)])
def nR(k:Nat):List gU->List Cell×List (Nat×aI)
 |[]=>([],[])
 |x::r=>((x.take k).1::(nR (k+1) r).1,(x.take k).2++(nR (k+1) r).2)
def zM(k:Nat)(x:Bool×List gU):SV×List (Nat×aI):=
 match x.1,nR k x.2 with
 |true,(cs,δ)=>(.agg cs,δ)
 |false,([c],δ)=>(.one c,δ)
 |false,(_,δ)=>(.one .junk,δ)
def jJ(k:Nat):List (Bool×List gU)->List SV×List (Nat×aI)
 |[]=>([],[])
 |x::r=>((zM k x).1::(jJ (k+x.2.length) r).1,(zM k x).2++(jJ (k+x.2.length) r).2)
def Out.take(k:Nat)(o:Out):AV×List (Nat×aI):=
 match o.var with
 |some cs=>(.eG (k-1) 0,[(k-1,.var cs)])
 |none=>match jJ k o.awe with
  |([v],δ)=>(.sv v,δ)
  |(vs,δ)=>(.pG vs,δ)
def bitsOf(op:BinOp)(k:IntKind)(x y:Int):Int:=
 let a:=BitVec.ofInt k.bits x
 let b:=BitVec.ofInt k.bits y
 match op with
 |.and=>k.wrap (a&&&b).toNat
 |.or=>k.wrap (a|||b).toNat
 |.xor=>k.wrap (a ^^^ b).toNat
 |_=>k.wrap (a&&&~~~b).toNat
def X9(op:BinOp)(k:IntKind)(x y:Int):Option (Prop×Cell):=
 match op with
 |.add=>some (True,.int k (k.wrap (x+y)))
 |.sub=>some (True,.int k (k.wrap (x-y)))
 |.mul=>some (True,.int k (k.wrap (x*y)))
 |.quo=>some (y≠0,.int k (k.wrap (x.tdiv y)))
 |.rem=>some (y≠0,.int k (x.tmod y))
 |.and|.or|.xor|.andNot=>some (True,.int k (bitsOf op k x y))
 |.eql=>some (True,.bool (x==y))
 |.neq=>some (True,.bool (x !=y))
 |.lss=>some (True,.bool (decide (x<y)))
 |.leq=>some (True,.bool (decide (x<=y)))
 |.gtr=>some (True,.bool (decide (x>y)))
 |.geq=>some (True,.bool (decide (x>=y)))
 |_=>none
def ac7(op:BinOp)(x y:Bytes):Option (Prop×Cell):=
 match op with
 |.add=>some (x.length+y.length<=maxLen,.str (x++y))
 |.eql=>some (True,.bool (x==y))
 |.neq=>some (True,.bool (!(x==y)))
 |.lss=>some (True,.bool (Op.bytesLess x y))
 |.leq=>some (True,.bool (Op.bytesLess x y||x==y))
 |.gtr=>some (True,.bool (!(Op.bytesLess x y||x==y)))
 |.geq=>some (True,.bool (!(Op.bytesLess x y)))
 |_=>none
def ac8:Cell->Cell->Option Bool
 |.int k a,.int l b=>match decide (k=l)with|true=>some (a==b)|false=>none
 |.bool a,.bool b=>some (a==b)
 |.str a,.str b=>some (a==b)
 |_,_=>none
def CT.fits:CT->Cell->Bool
 |.int k,.int l _=>decide (k=l)
 |.bool,.bool _=>true
 |.str,.str _=>true
 |_,_=>false
def au.fits:au->List Cell->Bool
 |.nil,[]=>true
 |.cons c r,x::xs=>c.fits x&&r.fits xs
 |_,_=>false
def mg:List Cell->List Cell->Option Bool
 |[],[]=>some true
 |x::xs,y::ys=>match ac8 x y,mg xs ys with
  |some a,some b=>some (a&&b)
  |_,_=>none
 |_,_=>none
def Ya(op:BinOp)(x y:Cell):Option (Prop×Cell):=
 match x,y with
 |.int k a,.int l b=>
  match op with
  |.shl=>some (0<=b,.int k (k.wrap (a*2 ^ (min b.toNat k.bits))))
  |.shr=>some (0<=b,.int k (a.fdiv (2 ^ (min b.toNat k.bits))))
  |_=>match decide (k=l)with|true=>X9 op k a b|false=>none
 |.str a,.str b=>ac7 op a b
 |.bool a,.bool b=>match op with
  |.eql=>some (True,.bool (a==b))
  |.neq=>some (True,.bool (!(a==b)))
  |_=>none
 |_,_=>none
def splice(z:List Cell)(m:Nat)(ys:List Cell):List Cell:=z.take m++ys++z.drop (m+ys.length)
def Cell.isRef:Cell->Bool|.ref _=>true|_=>false
def Cell.refs:Cell->List Nat|.ref o=>[o]|_=>[]
variable (Θ:jY) (Γ:kY)
def Ph(st:St)(fs:List (Nat×TypeId)):List (Nat×Operand)->List Cell->Option (List Cell)
 |[],cs=>some cs
 |(i,x)::r,cs=>match fs[i]?,st.ev x with
  |some (off,t),.sv v=>match Θ t with
   |some ti=>match Nat.beq v.cells.length ti.cells.len&&Nat.ble (off+ti.cells.len) cs.length with
    |true=>Ph st fs r (splice cs off v.cells)
    |false=>none
   |none=>none
  |_,_=>none
def Ky(st:St)(r:au):Nat->List (Nat×Operand)->Option (List r.den)
 |_,[]=>some []
 |k,(i,x)::p=>match Nat.beq i k,st.ev x,Ky st r (k+1) p with
  |true,.sv v,some l=>match FB st r v.cells with
   |some a=>some (a::l)
   |none=>none
  |_,_,_=>none
def pR(st:St):List (Nat×Operand)->Bool
 |[]=>true
 |(_,x)::p=>(match st.ev x with|.sv v=>v.cells.all (Cell.fresh st)|_=>false)&&pR st p
def o6(st:St):List (Nat×Operand)->List Nat
 |[]=>[]
 |(_,x)::p=>(match st.ev x with|.sv v=>v.cells.flatMap Cell.refs|_=>[])++o6 st p
def xY:AV->Option Int
 |.sv (.one (.int _ n))=>some n
 |_=>none
def o7(st:St)(len:Nat)(d D:Option Operand):Option (Prop×Nat×Nat):=
 match d,D with
 |none,none=>some (True,0,len)
 |some l,none=>match xY (st.ev l)with
  |some a=>some (0<=a/\a<=len,a.toNat,len)
  |none=>none
 |none,some h=>match xY (st.ev h)with
  |some b=>some (0<=b/\b<=len,0,b.toNat)
  |none=>none
 |some l,some h=>match xY (st.ev l),xY (st.ev h)with
  |some a,some b=>some (0<=a/\a<=b/\b<=len,a.toNat,b.toNat)
  |_,_=>none
def ac9(st:St)(n room:Nat)(a D:Option Operand):Option (Prop×Nat×Nat):=match D with
 |none=>o7 st n a none
 |some h=>o7 st room a (some h)
def anQ(x:(au.cons (.int .u8) .nil).den):Int:=x.1
def byteRow(l:List (au.cons (.int .u8) .nil).den):Bytes:=l.map λx=>UInt8.ofNat (anQ x).toNat
def Kz(s:Bytes):List (au.cons (.int .u8) .nil).den:=s.map λb=>((b.toNat:Int),())
def nX(a:TI)(A:List Cell)(m:Nat):Option SV:=
 match a.agg with
 |true=>match Nat.ble (m+a.cells.len) A.length with
  |true=>some (.agg ((A.drop m).take a.cells.len))
  |false=>none
 |false=>match A[m]? with
  |some c=>some (.one c)
  |none=>none
def ava(t:TypeId):Cell->Bool
 |.bool _=>match Θ t with
  |some ti=>match ti.cells with
   |.cons .bool .nil=>ti.agg==false
   |_=>false
  |none=>false
 |_=>true
def AV.refs:AV->List Nat
 |.sv v=>v.cells.flatMap Cell.refs
 |.dH A _=>A.flatMap Cell.refs
 |.fn _ caps=>caps.flatMap λA=>A.flatMap Cell.refs
 |_=>[]
def zN:List AV->List Nat
 |[]=>[]
 |x::r=>x.refs++zN r
def ND(z:List AV):Bool:=match zN z with|[]=>true|_::_=>false
def calm(d:Nat)(st:St):Op->Option (Prop×AV×List (Nat×aI))
 |.move x|.assign x=>some (True,st.ev x,[])
 |.nilCheck x=>match st.ev x with
  |.eG o off=>some (True,.eG o off,[])
  |.qf o i off=>some (True,.qf o i off,[])
  |.sS r x off fr=>some (True,.sS r x off fr,[])
  |.dH cs off=>some (True,.dH cs off,[])
  |.fn f caps=>some (True,.fn f caps,[])
  |_=>none
 |.makeFunc (.func f) first captured=>match first.toList,heldBy st captured.toList with
  |[],some l=>some (True,.fn f l,[])
  |_,_=>none
 |.pick c a b=>match st.ev c with
  |.sv (.one (.bool g))=>some (True,match g with|true=>st.ev a|false=>st.ev b,[])
  |_=>none
 |.alloc t=>match Θ t with
  |some ti=>some (True,.eG (d*64) 0,[(d*64,.var ti.cells.zeros)])
  |none=>none
 |.box _ x=>match st.ev x with
  |.sv v=>some (True,.eG (d*64) 0,[(d*64,.var v.cells)])
  |_=>none
 |.build t parts=>match Θ t with
  |some ti=>match ti.kind with
   |.struct fs=>match Ph Θ st fs parts.toList ti.cells.zeros with
    |some cs=>some (True,.sv (.agg cs),[])
    |none=>none
   |_=>none
  |none=>none
 |.buildSlice t len parts=>match Θ t with
  |some ti=>match ti.kind with
   |.slice e=>match Θ e with
    |some te=>match Nat.beq len parts.size&&Nat.ble 1 te.cells.len&&Nat.ble (len*te.cells.len) 16777216,o6 st parts.toList,Ky st te.cells 0 parts.toList with
     |true,[],some l=>some (True,.sv (.one (.ref (d*64+1))),[(d*64+1,.arr e te.cells l (pR st parts.toList))])
     |_,_,_=>none
    |none=>none
   |_=>none
  |none=>none
 |.makeSlice t x y=>match Θ t,xY (st.ev x),xY (st.ev y)with
  |some ti,some n,some c=>match ti.kind with
   |.slice e=>match Θ e with
    |some te=>match Nat.ble 1 te.cells.len with
     |true=>some (0<=n/\n<=c/\c<=(big:Int),.sv (.one (.ref (d*64+1))),[(d*64+1,.arr e te.cells (List.replicate n.toNat te.cells.dflt) true)])
     |false=>none
    |none=>none
   |_=>none
  |_,_,_=>none
 |.load t p=>match Θ t,st.ev p with
  |some ti,.eG o off=>match st.ah o with
   |some (.var cs)=>match nX ti cs off with
    |some v=>some (True,.sv v,[])
    |none=>none
   |_=>none
  |some ti,.qf o i off=>match st.ah o with
   |some (.arr _ r l fr)=>match nX ti (au.row fr r (l.getD i r.dflt)) off with
    |some v=>some (i<l.length,.sv v,[])
    |none=>none
   |_=>none
  |some ti,.sS r x off fr=>match nX ti (au.row fr r x) off with
   |some v=>some (True,.sv v,[])
   |none=>none
  |some ti,.dH cs off=>match nX ti cs off with
   |some v=>some (True,.sv v,[])
   |none=>none
  |_,_=>none
 |.fieldAddr s p f=>match Θ s with
  |some ti=>match ti.kind with
   |.struct fs=>match fs[f]? with
    |some (k,t)=>match Θ t with
     |some te=>match te.cells,st.ev p with
      |.nil,_=>none
      |_,.eG o off=>some (True,.eG o (off+k),[])
      |_,.qf o i off=>some (True,.qf o i (off+k),[])
      |_,.sS r x off fr=>some (True,.sS r x (off+k) fr,[])
      |_,.dH cs off=>some (True,.dH cs (off+k),[])
      |_,_=>none
     |none=>none
    |none=>none
   |_=>none
  |none=>none
 |.field s x f=>match Θ s with
  |some ti=>match ti.kind with
   |.struct fs=>match fs[f]?,st.ev x with
    |some (k,t),.sv (.agg cs)=>match Θ t with
     |some te=>match nX te cs k with
      |some v=>some (True,.sv v,[])
      |none=>none
     |none=>none
    |_,_=>none
   |_=>none
  |none=>none
 |.indexAddr t x ix=>match Θ t,xY (st.ev ix)with
  |some ti,some n=>match ti.kind with
   |.slice e=>match Θ e,st.ev x with
    |some te,.sv (.one (.sl _ r l fr))=>match te.cells.beq r with
     |true=>some (0<=n/\n<l.length,.sS r (l.getD n.toNat r.dflt) 0 fr,[])
     |false=>none
    |some te,.sv (.one (.ref o))=>match st.ah o with
     |some (.arr _ r l _)=>match te.cells.beq r with
      |true=>some (0<=n/\n<l.length,.qf o n.toNat 0,[])
      |false=>none
     |_=>none
    |some _,.sv (.one .nil)=>some (False,.undef,[])
    |_,_=>none
   |_=>none
  |_,_=>none
 |.index t x ix=>match Θ t,xY (st.ev ix),st.ev x with
  |some ti,some n,.sv (.one (.str s))=>match ti.kind with
   |.str=>some (0<=n/\n<s.length,.sv (.one (.int .u8 ((s.getD n.toNat 0).toNat:Int))),[])
   |_=>none
  |_,_,_=>none
 |.binOp op t x y _=>match st.ev x,st.ev y with
  |.sv (.one a),.sv (.one b)=>match ava Θ t a with
   |true=>match Ya op a b with
    |some (p,c)=>some (p,.sv (.one c),[])
    |none=>none
   |false=>none
  |.sv (.agg a),.sv (.agg b)=>match Θ t with
   |some ti=>match ti.cmp,mg a b,op with
    |true,some g,.eql=>match ti.cells.fits a with
     |true=>some (True,.sv (.one (.bool g)),[])
     |false=>none
    |true,some g,.neq=>match ti.cells.fits a with
     |true=>some (True,.sv (.one (.bool (!g))),[])
     |false=>none
    |_,_,_=>none
   |none=>none
  |_,_=>none
 |.unOp op _ x=>match op,st.ev x with
  |.not,.sv (.one (.bool b))=>some (True,.sv (.one (.bool (!b))),[])
  |.neg,.sv (.one (.int k n))=>some (True,.sv (.one (.int k (k.wrap (0-n)))),[])
  |_,_=>none
 |.convert src dst x=>match Θ src,Θ dst,st.ev x with
  |some ts,some td,.sv (.one c)=>if ts.agg||td.agg then none else match ts.cells,td.cells,c with
   |.cons (.int _) .nil,.cons (.int k) .nil,.int _ n=>some (True,.sv (.one (.int k (k.wrap n))),[])
   |.cons .str .nil,.cons .str .nil,.str s=>some (True,.sv (.one (.str s)),[])
   |.cons .str .nil,.cons (.sl e (.cons (.int .u8) .nil)) .nil,.str s=>match Θ e with
    |some te=>match te.cells,te.agg with
     |.cons (.int .u8) .nil,false=>some (True,.sv (.one (.sl e (.cons (.int .u8) .nil) (Kz s) true)),[])
     |_,_=>none
    |none=>none
   |.cons (.sl e (.cons (.int .u8) .nil)) .nil,.cons .str .nil,c=>match c.get st (.sl e (.cons (.int .u8) .nil)),Θ e with
    |some l,some te=>match te.cells,te.agg with
     |.cons (.int .u8) .nil,false=>some (True,.sv (.one (.str (byteRow l))),[])
     |_,_=>none
    |_,_=>none
   |_,_,_=>none
  |_,_,_=>none
 |.extract x ix=>match st.ev x with
  |.pG vs=>match vs[ix]? with
   |some v=>some (True,.sv v,[])
   |none=>none
  |_=>none
 |.slice t x lo hi none=>match Θ t,st.ev x with
  |some ti,.sv (.one (.str s))=>match ti.kind,o7 st s.length lo hi with
   |.str,some (p,a,b)=>some (p,.sv (.one (.str ((s.take b).drop a))),[])
   |_,_=>none
  |some ti,.sv (.one (.sl e r l fr))=>match ti.kind,o7 st l.length lo hi with
   |.slice f,some (p,a,b)=>match Θ f with
    |some te=>match te.cells.beq r with
     |true=>some (p,.sv (.one (.sl e r ((l.take b).drop a) fr)),[])
     |false=>none
    |none=>none
   |_,_=>none
  |some ti,.sv (.one .nil)=>match ti.kind,o7 st 0 lo hi with
   |.slice f,some (p,_,_)=>match Θ f with
    |some _=>some (p,.sv (.one .nil),[])
    |none=>none
   |_,_=>none
  |some ti,.win o MJ n0=>match ti.kind,st.ah o with
   |.slice f,some (.arr _ r l _)=>match Θ f,ac9 st n0 (l.length-MJ) lo hi with
    |some te,some (p,a,b)=>match te.cells.beq r with
     |true=>some (p,.win o (MJ+a) (b-a),[])
     |false=>none
    |_,_=>none
   |_,_=>none
  |_,_=>none
 |.slice t x (some lo) (some hi) (some mx)=>match Θ t,st.ev x with
  |some ti,.sv (.one (.ref o))=>match ti.kind,st.ah o with
   |.slice f,some (.arr _ _ l _)=>match Θ f,xY (st.ev lo),xY (st.ev hi),xY (st.ev mx)with
    |some _,some a,some b,some c=>some (0<=a/\a<=b/\b<=c/\c<=l.length,.undef,[])
    |_,_,_,_=>none
   |_,_=>none
  |_,_=>none
 |.call {callee:=.builtin .len,args,argTypes}=>match args.toList,argTypes.toList with
  |[x],[t]=>match Θ t,st.ev x with
   |some ti,.sv (.one c)=>match ti.kind,c with
    |.str,.str s=>some (True,.sv (.one (.int .i64 s.length)),[])
    |.slice _,.sl _ _ l _=>some (True,.sv (.one (.int .i64 l.length)),[])
    |.slice _,.nil=>some (True,.sv (.one (.int .i64 0)),[])
    |.slice _,.ref o=>match st.ah o with
     |some (.arr _ _ l _)=>some (True,.sv (.one (.int .i64 l.length)),[])
     |_=>none
    |_,_=>none
   |some ti,.win _ _ n=>match ti.kind with
    |.slice _=>some (True,.sv (.one (.int .i64 n)),[])
    |_=>none
   |_,_=>none
  |_,_=>none
 |.call {callee:=.builtin .min,args,.. }=>match args.toList with
  |[x,y]=>match st.ev x,st.ev y with
   |.sv (.one (.int k a)),.sv (.one (.int l b))=>match decide (k=l)with
    |true=>some (True,.sv (.one (.int k (if b<a then b else a))),[])
    |false=>none
   |_,_=>none
  |_=>none
 |.call {callee:=.builtin .max,args,.. }=>match args.toList with
  |[x,y]=>match st.ev x,st.ev y with
   |.sv (.one (.int k a)),.sv (.one (.int l b))=>match decide (k=l)with
    |true=>some (True,.sv (.one (.int k (if b>a then b else a))),[])
    |false=>none
   |_,_=>none
  |_=>none
 |.call {callee:=.value x,args,.. }=>match st.ev x with
  |.fn f caps=>match Γ f,rJ st (handed st args.toList caps)with
   |some (.pure con),some vs=>match con vs with
    |some (p,out)=>match out.made||ND (handed st args.toList caps)with
     |true=>some (p,(out.take (d*64+1)).1,(out.take (d*64+1)).2)
     |false=>none
    |none=>none
   |_,_=>none
  |_=>none
 |_=>none
def arS(st:St)(z:List Operand)(a:List (List Cell))(o:Nat):Bool:=(zN (handed st z a)).contains o
def awf(st:St)(z:List Operand)(a:List (List Cell)):St:=st.freeze (arS st z a)
def aAD(st:St)(z:List Operand)(a:List (List Cell)):List AV:=(handed st z a).map (AV.freeze st (arS st z a))
def KA:List Mode->List AV->List AV
 |_,[]=>[]
 |[],xs=>xs
 |.val::ms,x::xs=>x::KA ms xs
 |_::ms,_::xs=>KA ms xs
def afs(st:St)(b:List Mode)(z:List Operand)(a:List (List Cell))(o:Nat):Bool:=(zN (KA b (handed st z a))).contains o
def TT(st:St)(b:List Mode)(z:List Operand)(a:List (List Cell)):St:=st.freeze (afs st b z a)
def axA(st:St)(b:List Mode)(z:List Operand)(a:List (List Cell)):List AV:=(handed st z a).map (AV.freeze st (afs st b z a))
def vK(st:St)(m:Mode)(x:AV):Option (Arg×Option Nat):=
 match m with
 |.val=>match x.refs,rJ st [x]with
  |[],some [a]=>some (a,none)
  |_,_=>none
 |.own=>match x with
  |.sv (.one (.ref o))=>match st.ah o with
   |some (.arr e r l _)=>some (.own e r l,some o)
   |_=>none
  |_=>none
 |.ptr=>match x with
  |.eG o off=>match Nat.beq off 0,st.ah o with
   |true,some (.var cs)=>match cs.flatMap Cell.refs with
    |[]=>some (.ptr (cs.map (Cell.view st)),some o)
    |_=>none
   |_,_=>none
  |_=>none
def hands(st:St):List Mode->List AV->Option (List Arg×List (Option Nat))
 |_,[]=>some ([],[])
 |ms,x::xs=>match vK st (ms.headD .val) x,hands st ms.tail xs with
  |some (a,o),some (as,os)=>some (a::as,o::os)
  |_,_=>none
def ada(o:Nat):List (Option Nat)->Bool
 |[]=>false
 |some p::r=>match Nat.beq o p with|true=>true|false=>ada o r
 |none::r=>ada o r
def DF:List (Option Nat)->Bool
 |[]=>true
 |some p::r=>!(ada p r)&&DF r
 |none::r=>DF r
def rM(a:List Eff)(p:Nat):Option aI:=
 match a[p / 64]? with
 |some (.arr e r l)=>match Nat.beq (p%64) 49 with|true=>some (.arr e r l false)|false=>none
 |some (.var cs)=>match Nat.beq (p%64) 48 with|true=>some (.var cs)|false=>none
 |_=>none
def Qu(a:List Eff)(δ:List (Nat×aI)):Bool:=δ.all λy=>(rM a y.1).isNone
def qR(st:St):List (Option Nat)->List Eff->Option (List (Nat×aI))
 |[],_=>some []
 |none::os,aV=>qR st os aV.tail
 |some o::os,aV=>match aV.head?,st.ah o,qR st os aV.tail with
  |some .lose,_,some δ=>some δ
  |some (.arr e r l),some (.arr f s _ _),some δ=>match Nat.beq e f&&r.beq s with
   |true=>some ((o,.arr e r l false)::δ)
   |false=>none
  |some (.var cs),some (.var _),some δ=>match cs.flatMap Cell.refs with
   |[]=>some ((o,.var cs)::δ)
   |_=>none
  |_,_,_=>none
def jZ:List (Option Nat)->List Eff->Nat->Bool
 |[],_,_=>false
 |none::os,aV,p=>jZ os aV.tail p
 |some o::os,aV,p=>match aV.head? with
  |some .lose=>match Nat.beq o p with|true=>true|false=>jZ os aV.tail p
  |_=>jZ os aV.tail p
def kZ(st:St)(δ:List (Nat×aI)):Bool:=δ.all λy=>(st.ah y.1).isNone
def iL{α:Type}(l:List α)(a:Nat)(f:List α):List α:=l.take a++f++l.drop (a+f.length)
def adb(Θ:jY)(st:St)(i:TI)(o g d h a b:Nat):Option (Prop×AV×St):=match Nat.beq g 0&&Nat.beq o h,i.kind,st.ah o with
 |true,.slice e,some (.arr f r l fr)=>match Θ e with
  |some te=>match te.cells.beq r&&Nat.beq e f with
   |true=>some (d+b<=l.length/\a+b<=l.length,.win o 0 (d+b),st.add o (.arr f r (iL l d ((l.drop a).take b)) fr))
   |false=>none
  |none=>none
 |_,_,_=>none
def aie(Θ:jY)(st:St)(b:TI)(o a n:Nat):Option (Prop×AV×St):=match b.kind,st.ah o with
 |.slice e,some (.arr f r l fr)=>match Θ e with
  |some te=>match te.cells.beq r&&Nat.beq e f with
   |true=>some (a+n<=l.length,.pG [],st.add o (.arr f r (iL l a (List.replicate n r.dflt)) fr))
   |false=>none
  |none=>none
 |_,_=>none
def store(st:St)(p:AV)(v:SV):Option (Prop×St):=
 match p with
 |.eG o off=>match st.ah o with
  |some (.var cs)=>match Nat.ble (off+v.cells.length) cs.length with
   |true=>some (True,st.add o (.var (splice cs off v.cells)))
   |false=>none
  |_=>none
 |.qf o i off=>match v.cells.flatMap Cell.refs,st.ah o with
  |[],some (.arr e r l fr)=>match FB st r (splice (au.row fr r (l.getD i r.dflt)) off v.cells),Nat.ble (off+v.cells.length) r.len with
   |some x,true=>some (i<l.length,st.add o (.arr e r (l.set i x) (fr&&v.cells.all (Cell.fresh st))))
   |_,_=>none
  |_,_=>none
 |_=>none
def Ib(p:AV)(v:SV)(o:Nat):Bool:=match p with|.qf _ _ _=>(v.cells.flatMap Cell.refs).contains o|_=>false
def eff(d:Nat)(st:St):Op->Option (Prop×AV×St)
 |.store t p x=>match st.ev x,Θ t with
  |.sv v,some ti=>match Nat.beq v.cells.length ti.cells.len with
   |true=>match store (st.freeze (Ib (st.ev p) v)) ((st.ev p).freeze st (Ib (st.ev p) v)) (v.freeze st (Ib (st.ev p) v))with
    |some (q,s)=>some (q,.undef,s)
    |none=>none
   |false=>none
  |_,_=>none
 |.buildSlice t len parts=>
  match calm Θ Γ d (st.freeze ((o6 st parts.toList).contains ·)) (.buildSlice t len parts)with
  |some (p,v,δ)=>match kZ (st.freeze ((o6 st parts.toList).contains ·)) δ with
   |true=>some (p,v,(st.freeze ((o6 st parts.toList).contains ·)).adds δ)
   |false=>none
  |none=>none
 |.slice t x lo hi none=>match Θ t,st.ev x with
  |some ti,.sv (.one (.ref o))=>match ti.kind,st.ah o with
   |.slice f,some (.arr e r l fr)=>match Θ f,o7 st l.length lo hi with
    |some te,some (p,_,b)=>match te.cells.beq r with
     |true=>match lo with
      |none=>some (p,.sv (.one (.ref o)),(st.kill (Nat.beq o ·)).add o (.arr e r (l.take b) fr))
      |some l0=>match calm Θ Γ d (st.freeze (Nat.beq o ·)) (.slice t x (some l0) hi none)with
       |some (q,v,[])=>some (q,v,st.freeze (Nat.beq o ·))
       |_=>none
     |false=>none
    |_,_=>none
   |_,_=>none
  |_,_=>none
 |.call {callee:=.builtin .append,args,argTypes}=>match args.toList,argTypes.toList with
  |[s,x],[t,u]=>match Nat.beq t u,Θ t,st.ev s,st.ev x with
   |true,some ti,.sv (.one c),.sv (.one y)=>match ti.kind with
    |.slice e=>match Θ e with
     |some te=>match y.get st (.sl e te.cells),c with
      |some news,.ref o=>match st.ah o with
       |some (.arr f r l fr)=>if h:te.cells.beq r=true then
         match Nat.beq e f with
         |true=>some (l.length+news.length<=big,.sv (.one (.ref o)),(st.kill (Nat.beq o ·)).add o (.arr e r (l++xJ h news) (fr&&y.AB te.cells st)))
         |false=>none
        else none
       |_=>none
      |some news,.nil=>match Nat.ble 1 te.cells.len with
       |true=>some (news.length<=big,.sv (.one (.ref (d*64+1))),(st.kill (Nat.beq (d*64+1) ·)).add (d*64+1) (.arr e te.cells news (y.AB te.cells st)))
       |false=>none
      |_,_=>none
     |none=>none
    |_=>none
   |true,some ti,.win o MJ n0,.win o2 lo2 n2=>adb Θ st ti o MJ n0 o2 lo2 n2
   |_,_,_,_=>none
  |_,_=>none
 |.call {callee:=.builtin .clear,args,argTypes}=>match args.toList,argTypes.toList with
  |[x],[t]=>match Θ t,st.ev x with
   |some ti,.win o lo n=>aie Θ st ti o lo n
   |_,_=>none
  |_,_=>none
 |.call {callee:=.value x,args,.. }=>
  match st.ev x with
  |.fn f caps=>
   match Γ f with
   |some (.pure con)=>match rJ (awf st args.toList caps) (aAD st args.toList caps),zN (aAD st args.toList caps)with
    |some vs,[]=>match con vs with
     |some (p,out)=>match kZ (awf st args.toList caps) (out.take (d*64+1)).2 with
      |true=>some (p,(out.take (d*64+1)).1,(awf st args.toList caps).adds (out.take (d*64+1)).2)
      |false=>none
     |none=>none
    |_,_=>none
   |_=>none
  |_=>none
 |_=>none
def ako(st:St):Op->Option (Prop×Xc×List (Option Nat)×St)
 |.call {callee:=.value x,args,.. }=>
  match st.ev x with
  |.fn f caps=>match Γ f with
   |some (.eff ms con)=>match hands (TT st ms args.toList caps) ms (axA st ms args.toList caps)with
    |some (vs,os)=>match con vs with
     |some (p,ρ)=>some (p,ρ,os,TT st ms args.toList caps)
     |none=>none
    |none=>none
   |_=>none
  |_=>none
 |_=>none
def aft(d:Nat)(s0:St)(os:List (Option Nat))(out:Out)(a:List Eff):Option (AV×St):=
 match DF os&&Qu a (out.take (d*64+1)).2,qR s0 os a,kZ (s0.kill (jZ os a)) (out.take (d*64+1)).2 with
 |true,some δ,true=>some ((out.take (d*64+1)).1,((s0.kill (jZ os a)).adds δ).adds (out.take (d*64+1)).2)
 |_,_,_=>none
def oper(d:Nat)(st:St)(o:Op):Option (Prop×AV×St):=
 match calm Θ Γ d st o with
 |some (p,v,δ)=>match kZ st δ with
  |true=>some (p,v,st.adds δ)
  |false=>none
 |none=>eff Θ Γ d st o
end Go.Fw
namespace Go.Fw
open Go
structure V where
 w:World
 n0:Nat
 S:Nat->Prop
 γ:Nat->Value
 ah:Nat->Option aI
def blk:Value->Option Nat
 |.pointer (some a)=>some a.block
 |.slice (some a) _ _=>some a.block
 |_=>none
def V.foot(X:V)(b:Nat):Prop:=b<X.w.heap.size/\(b<X.n0->X.S b)/\∀o x,X.ah o=some x->blk (X.γ o)≠some b
def unf(w:World)(b:Nat):Prop:=∀A t a,w.heap[b]? =some (.cells A t a)->∀k,k<A.size->¬(a.1<=k/\k<a.2)
theorem unf.keep{w w':World}{b:Nat}(h:unf w b)(e:w'.heap[b]? =w.heap[b]?):unf w' b:=λA t a L=>h A t a (e▸L)
theorem afu{w:World}{base size n b:Nat}{e:TypeId}{v:Value}{z:List Value}(h:w.ownsRow base e size v n z)(J:blk v=some b):unf w b:=λA t a L=>by
 rcases h.2 with⟨rfl,_⟩|⟨g,y,R,rfl,_,E,_⟩
 .cases J
 .cases J;rw[E]at L;cases L;exactλk _ h=>aIg k h.2
def V.dA(X:V)(fr:Bool)(b:Nat):Prop:=X.foot b/\(fr=true->X.n0<=b/\unf X.w b)
def aX(X:V):Cell->Value->Prop
 |.int k n,v=>v=.int k n/\k.min<=n/\n<=k.max
 |.bool b,v=>v=.bool b
 |.str s,v=>v=.string ⟨s.toArray⟩/\s.length<=maxLen
 |.nil,v=>v=.slice none 0 0
 |.sl e r l a,v=>dw X.w.heap (X.dA a) (.sl e r) v l
 |.ref o,v=>(∃e r l a,X.ah o=some (.arr e r l a))/\v=X.γ o/\v.oneCell'=true
 |.junk,v=>v.oneCell'=true
def ai(X:V):List Cell->List Value->Prop
 |[],[]=>True
 |c::cs,v::vs=>aX X c v/\ai X cs vs
 |_,_=>False
def eP(X:V):SV->Value->Prop
 |.one c,v=>aX X c v
 |.agg cs,v=>∃I,v=.agg I/\ai X cs I.toList
def eX(X:V):List SV->List Value->Prop
 |[],[]=>True
 |c::cs,v::vs=>eP X c v/\eX X cs vs
 |_,_=>False
def ja(X:V)(A:List Cell)(b:Nat):Prop:=∃arr t a,X.foot b/\X.w.heap[b]? =some (.cells arr t a)/\ai X A arr.toList
def gB(X:V):List (List Cell)->List Value->Prop
 |[],[]=>True
 |cs::l,u::us=>(∃b,u=.pointer (some ⟨b,0,none⟩)/\ja X cs b)/\gB X l us
 |_,_=>False
def bD(X:V):AV->Value->Prop
 |.undef,_=>True
 |.sv x,v=>eP X x v
 |.pG xs,v=>∃I,v=.tuple I/\eX X xs I.toList
 |.eG o off,v=>∃b A,X.ah o=some (.var A)/\X.γ o=.pointer (some ⟨b,0,none⟩)/\v=.pointer (some ⟨b,off,none⟩)
 |.qf o i off,v=>∃b n y e r l a,X.ah o=some (.arr e r l a)/\X.γ o=.slice (some ⟨b,0,none⟩) n y/\v=.pointer (some ⟨b,i*r.len+off,none⟩)
 |.win o i off,v=>∃b n y e r l a,X.ah o=some (.arr e r l a)/\X.γ o=.slice (some ⟨b,0,none⟩) n y/\(∃q,(q=i*r.len\/y<=i)/\v=.slice (some ⟨b,q,none⟩) off (y-i)/\i+off<=y)
 |.sS r x off a,v=>∃b base A t d,v=.pointer (some ⟨b,base+off,none⟩)/\X.dA a b/\X.w.heap[b]? =some (.cells A t d)/\
    aY X.w.heap (X.dA a) r ((A.toList.drop base).take r.len) x
 |.dH A off,v=>∃b,v=.pointer (some ⟨b,off,none⟩)/\ja X A b
 |.fn f caps,v=>∃s:Array Value,v=.func (.func f) #[] s/\gB X caps s.toList
def cu(X:V)(o:Nat):aI->Prop
 |.var cs=>∃b arr t,X.γ o=.pointer (some ⟨b,0,none⟩)/\X.w.heap[b]? =some (.cells arr t (0,0))/\ai X cs arr.toList
 |.arr e r l fr=>∃z,X.w.ownsRow 0 e r.len (X.γ o) l.length z/\0<r.len/\(∀b,blk (X.γ o)=some b->fr=true->X.n0<=b)/\
    ∀i x,l[i]? =some x->aY X.w.heap (X.dA fr) r ((z.drop (i*r.len)).take r.len) x
structure Ext where
 S:Nat->Prop
 N:Nat->Option Value
 n48:∀p v,N p=some v->p%64=48
instance:CoeFun Ext (λ_=>Nat->Prop):=⟨Ext.S⟩
instance:CoeOut Ext (Nat->Prop):=⟨Ext.S⟩
structure Rel(w0:World)(M:Nat->Prop)(T:Ext)(γ:Nat->Value)(st:St)(a:Act)(w:World):Prop where
 mT:∀b,M b->T b
 defers:a.defers=[]
 size:a.tmps.size=st.n
 os:w.os=w0.os
 tape:w.tape=w0.tape
 output:w.output=w0.output
 grow:w0.heap.size<=w.heap.size
 kept:∀b,b<w0.heap.size->¬M b->w.heap[b]? =w0.heap[b]?
 tmps:∀t,bD ⟨w,w0.heap.size,T,γ,st.ah⟩ (st.tmps t) (a.tmps.getD t undef)
 ah:∀o x,st.ah o=some x->cu ⟨w,w0.heap.size,T,γ,st.ah⟩ o x
 lt:∀o x b,st.ah o=some x->blk (γ o)=some b->b<w.heap.size/\(w0.heap.size<=b\/M b)
 sep:∀o x p y b,st.ah o=some x->st.ah p=some y->o≠p->blk (γ o)=some b->blk (γ p)≠some b
 pin:∀o v cs,T.N o=some v->st.ah o=some (.var cs)->γ o=v
structure V.le(X Y:V):Prop where
 n0:Y.n0<=X.n0
 foot:∀b,X.foot b->Y.foot b/\Y.w.heap[b]? =X.w.heap[b]?
 var:∀o cs,X.ah o=some (.var cs)->(∃cs',Y.ah o=some (.var cs'))/\Y.γ o=X.γ o
 arr:∀o e r l fr,X.ah o=some (.arr e r l fr)->(∃l' fr',Y.ah o=some (.arr e r l' fr'))/\Y.γ o=X.γ o
theorem V.le.refl(X:V):X.le X:=⟨aHv _,λ_ h=>⟨h,rfl⟩,λ_ A h=>⟨⟨A,h⟩,rfl⟩,λ_ _ _ l a h=>⟨⟨l,a,h⟩,rfl⟩⟩
theorem V.le.dA{X Y:V}(h:X.le Y)(fr:Bool)(b:Nat)(J:X.dA fr b):Y.dA fr b/\Y.w.heap[b]? =X.w.heap[b]? :=
 ⟨⟨(h.foot b J.1).1,λe=>⟨aHw h.n0 (J.2 e).1,(J.2 e).2.keep (h.foot b J.1).2⟩⟩,(h.foot b J.1).2⟩
theorem aX.mono{X Y:V}(h:X.le Y):∀(c:Cell)(v:Value),aX X c v->aX Y c v
 |.int _ _,_,H|.bool _,_,H|.str _,_,H|.nil,_,H|.junk,_,H=>H
 |.sl e r l fr,v,H=>dw.mono (λb J=>h.dA fr b J) (.sl e r) v l H
 |.ref o,v,⟨⟨e,r,l,fr,hx⟩,hv,h1⟩=>by obtain⟨⟨f,a,B⟩,d⟩:=h.arr o e r l fr hx;exact⟨⟨e,r,f,a,B⟩,hv.trans d.symm,h1⟩
theorem ai.mono{X Y:V}(h:X.le Y):∀(A:List Cell)(I:List Value),ai X A I->ai Y A I
 |[],[],H=>H
 |c::A,v::I,⟨h1,h2⟩=>⟨aX.mono h c v h1,ai.mono h A I h2⟩
 |[],_::_,H|_::_,[],H=>RS
theorem eP.mono{X Y:V}(h:X.le Y):∀(c:SV)(v:Value),eP X c v->eP Y c v
 |.one c,v,H=>aX.mono h c v H
 |.agg cs,_,⟨vs,hv,H⟩=>⟨vs,hv,ai.mono h cs _ H⟩
theorem eX.mono{X Y:V}(h:X.le Y):∀(A:List SV)(I:List Value),eX X A I->eX Y A I
 |[],[],H=>H
 |c::A,v::I,⟨h1,h2⟩=>⟨eP.mono h c v h1,eX.mono h A I h2⟩
 |[],_::_,H|_::_,[],H=>RS
theorem ja.mono{X Y:V}(h:X.le Y){A:List Cell}{b:Nat}(H:ja X A b):ja Y A b:=by obtain⟨arr,t,a,J,d,W⟩:=H;exact⟨arr,t,a,(h.foot b J).1,(h.foot b J).2.trans d,ai.mono h A _ W⟩
theorem gB.mono{X Y:V}(h:X.le Y):∀(l:List (List Cell))(s:List Value),gB X l s->gB Y l s
 |[],[],H=>H
 |cs::l,u::s,⟨⟨b,hu,hk⟩,h2⟩=>⟨⟨b,hu,hk.mono h⟩,gB.mono h l s h2⟩
 |[],_::_,H|_::_,[],H=>RS
theorem bD.mono{X Y:V}(h:X.le Y):∀(c:AV)(v:Value),bD X c v->bD Y c v
 |.undef,_,_=>trivial
 |.sv x,v,H=>eP.mono h x v H
 |.pG xs,_,⟨vs,hv,H⟩=>⟨vs,hv,eX.mono h xs _ H⟩
 |.eG o off,v,⟨b,cs,hx,hγ,hv⟩=>by
  obtain⟨⟨d,B⟩,g⟩:=h.var o cs hx;exact⟨b,d,B,g.trans hγ,hv⟩
 |.qf o i off,v,⟨b,n,cap,e,r,l,fr,hx,hγ,hv⟩=>by
  obtain⟨⟨j,a,B⟩,g⟩:=h.arr o e r l fr hx;exact⟨b,n,cap,e,r,j,a,B,g.trans hγ,hv⟩
 |.win o i off,v,⟨b,n,cap,e,r,l,fr,hx,hγ,hv⟩=>by
  obtain⟨⟨j,a,B⟩,g⟩:=h.arr o e r l fr hx;exact⟨b,n,cap,e,r,j,a,B,g.trans hγ,hv⟩
 |.sS r x off fr,v,⟨b,base,cs,t,fz,hv,hf,J,hr⟩=>
  ⟨b,base,cs,t,fz,hv,(h.dA fr b hf).1,(h.dA fr b hf).2.trans J,aY.mono (λb J=>h.dA fr b J) r _ x hr⟩
 |.dH cs off,v,⟨b,hv,hk⟩=>⟨b,hv,hk.mono h⟩
 |.fn f caps,v,⟨us,hv,hk⟩=>⟨us,hv,gB.mono h caps _ hk⟩
theorem ai.length{X:V}:∀(A:List Cell)(I:List Value),ai X A I->I.length=A.length
 |[],[],_=>rfl
 |_::A,_::I,⟨_,h⟩=>by simp[ai.length A I h]
 |[],_::_,H|_::_,[],H=>RS
theorem ai.append{X:V}:∀(A:List Cell)(I:List Value)(a:List Cell)(s:List Value),ai X A I->ai X a s->ai X (A++a) (I++s)
 |[],[],_,_,_,h=>h
 |_::A,_::I,a,s,⟨h1,h2⟩,h=>⟨h1,ai.append A I a s h2 h⟩
 |[],_::_,_,_,H,_|_::_,[],_,_,H,_=>RS
theorem ai.take{X:V}:∀(A:List Cell)(I:List Value)(n:Nat),ai X A I->ai X (A.take n) (I.take n)
 |[],[],n,h=>y7
 |_::_,_::_,0,_=>trivial
 |c::A,v::I,n+1,⟨h1,h2⟩=>⟨h1,ai.take A I n h2⟩
 |[],_::_,_,H|_::_,[],_,H=>RS
theorem ai.drop{X:V}:∀(A:List Cell)(I:List Value)(n:Nat),ai X A I->ai X (A.drop n) (I.drop n)
 |[],[],n,h=>y7
 |_::_,_::_,0,h=>h
 |c::A,v::I,n+1,⟨_,h2⟩=>ai.drop A I n h2
 |[],_::_,_,H|_::_,[],_,H=>RS
theorem ai.get{X:V}:∀(A:List Cell)(I:List Value)(i:Nat)(c:Cell),ai X A I->A[i]? =some c->∃v,I[i]? =some v/\aX X c v
 |[],_,_,_,_,h=>XD
 |c::A,v::I,0,d,⟨h1,_⟩,h=>ny
 |c::A,v::I,i+1,d,⟨_,h2⟩,h=>by
  obtain⟨u,a,W⟩:=ai.get A I i d h2 y7;exact⟨u,by simpa using a,W⟩
 |_::_,[],_,_,H,_=>RS
theorem aX.one{X:V}:∀(c:Cell)(v:Value),aX X c v->v.oneCell'=true
 |.int _ _,_,⟨h,_⟩=>aqO
 |.bool _,_,h=>by rw[show _=_ from h];rfl
 |.str _,_,⟨h,_⟩=>aqO
 |.nil,_,h=>by rw[show _=_ from h];rfl
 |.sl e r l fr,v,h=>by
  rcases h.2 with⟨_,a,c,K⟩|⟨b,m,y,A,t,d,K,_⟩<;>rw[K]<;>rfl
 |.ref _,_,⟨_,_,h⟩=>h
 |.junk,_,h=>h
theorem NG:∀(v:Value),v.oneCell'=true->v.cells=#[v]:=by intro v h;cases v<;>first|rfl|simp[Value.oneCell']at h
theorem eP.cells{X:V}:∀(x:SV)(v:Value),eP X x v->ai X x.cells v.cells.toList
 |.one c,v,h=>by
  rw[NG v (aX.one c v h)];exact⟨h,trivial⟩
 |.agg cs,v,⟨vs,hv,h⟩=>by rw[hv];exact h
theorem ai.ones{X:V}:∀(A:List Cell)(I:List Value),ai X A I->∀v∈I,v.oneCell'=true
 |[],[],_,_,K=>by cases K
 |c::A,u::I,⟨h1,h2⟩,v,K=>by
  rcases aHH.1 K with rfl|K
  .exact aX.one c _ h1
  .exact ai.ones A I h2 v K
 |[],_::_,H,_,_|_::_,[],H,_,_=>RS
variable {w0:World} {M:Nat->Prop} {T:Ext} {γ γ':Nat->Value} {st:St} {a:Act} {w w':World}
abbrev ak(w0:World)(T:Nat->Prop)(γ:Nat->Value)(st:St)(w:World):V:=⟨w,w0.heap.size,T,γ,st.ah⟩
theorem cu.mono{X Y:V}(h:X.le Y)(o:Nat):∀(x:aI),(∀b,blk (X.γ o)=some b->Y.w.heap[b]? =X.w.heap[b]?)->Y.γ o=X.γ o->cu X o x->cu Y o x
 |.var cs,J,hγ,⟨b,arr,t,e,m,hr⟩=>⟨b,arr,t,hγ.trans e,(J b (by rw[e];rfl)).trans m,ai.mono h cs _ hr⟩
 |.arr e r l fr,J,hγ,⟨xs,hown,hr,hf,hx⟩=>by
  refine⟨xs,?_,hr,λb j k=>aHw h.n0 (hf b (hγ▸j) k),λi x D=>aY.mono (λb J=>h.dA fr b J) r _ x (hx i x D)⟩;obtain⟨E,O⟩:=hown;refine⟨E,?_⟩;rcases O with O|⟨g,y,R,K,d,m,f⟩
  · grind
  .exact .inr ⟨g,y,R,hγ.trans K,d,(J g atF).trans m,f⟩
theorem Rel.grown(h:Rel w0 M T γ st a w)(k:Nat->Option aI)
 (z:∀p x,st.ah p=some x->k p=some x) (d:∀p x,st.ah p=some x->γ' p=γ p)
 (u:w'.os=w.os) (m:w'.tape=w.tape) (n:w'.output=w.output) (j:w.heap.size<=w'.heap.size)
 (f:∀b,b<w.heap.size->w'.heap[b]? =w.heap[b]?)
 (g:∀p x,k p=some x->st.ah p=none->cu ⟨w',w0.heap.size,T,γ',k⟩ p x/\∀b,blk (γ' p)=some b->w.heap.size<=b/\b<w'.heap.size)
 (H:∀p A,k p=some (.var A)->st.ah p=none->T.N p=none)
 (D:∀p x q y b,k p=some x->st.ah p=none->k q=some y->st.ah q=none->p≠q->blk (γ' p)=some b->blk (γ' q)≠some b):
 Rel w0 M T γ' {st with ah:=k} a w'/\(ak w0 T γ st w).le ⟨w',w0.heap.size,T,γ',k⟩:=by
 have i:∀p x,k p=some x->st.ah p=some x\/st.ah p=none:=by
  intro p x C;cases e:st.ah p with
  |none=>exact .inr rfl
  |some y=>grind
 have le:(ak w0 T γ st w).le ⟨w',w0.heap.size,T,γ',k⟩:=by
  refine⟨aHv _,λb J=>⟨⟨aHR J.1 j,J.2.1,λo x Z=>?_⟩,f b J.1⟩,λo A Z=>⟨⟨A,z o _ Z⟩,d o _ Z⟩,λo e r l I Z=>⟨⟨l,I,z o _ Z⟩,d o _ Z⟩⟩;rcases i o x Z with F|F
  .show blk (γ' o)≠some b;rw[d o x F];exact J.2.2 o x F
  .intro e;have E:=((g o x Z F).2 b e).1;have O:b<w.heap.size:=J.1;omega
 refine⟨⟨h.mT,h.defers,h.size,u.trans h.os,m.trans h.tape,n.trans h.output,aHw h.grow j,λb J K=>?_,λt=>bD.mono le _ _ (h.tmps t),λo x Z=>?_,λo x b Z J=>?_,λo x p y b Z B s J=>?_,λo v A L Z=>?_⟩,le⟩
 .rw[f b (aHR J h.grow)];exact h.kept b J K
 .rcases i o x Z with F|F
  .exact cu.mono le o x (λb J=>f b (h.lt o x b F J).1) (d o x F) (h.ah o x F)
  grind
 .rcases i o x Z with F|F
  .rw[d o x F]at J;have:=h.lt o x b F J
   grind
  .have:=(g o x Z F).2 b J;exact⟨this.2,.inl (aHw h.grow this.1)⟩
 .rcases i o x Z with F|F<;>rcases i p y B with C|C
  .rw[d o x F]at J;rw[d p y C];exact h.sep o x p y b F C s J
  .rw[d o x F]at J;intro e;have E:=((g p y B C).2 b e).1;have O:=(h.lt o x b F J).1;omega
  .have E:=((g o x Z F).2 b J).1;rw[d p y C];intro e;have O:=(h.lt p y b C e).1;omega
  grind
 .rcases i o _ Z with F|F
  .rw[d o _ F];exact h.pin o v A L F
  grind
theorem ade(b:Array Value)(d t:Nat)(v z:Value)(f:d<b.size):(b.setIfInBounds d v).getD t z=if t=d then v else b.getD t z:=by
 by_cases e:t=d
 · simp_all
 .simp only[aJW]
  grind
theorem Rel.set(h:Rel w0 M T γ st a w)(d:Nat)(b:d<st.n)(v:AV)(u:Value)(K:bD (ak w0 T γ st w) v u):
 Rel w0 M T γ (st.set d v) (a.put (some d) u) w:=by
 refine⟨h.mT,h.defers,?_,h.os,h.tape,h.output,h.grow,h.kept,λt=>?_,h.ah,h.lt,h.sep,h.pin⟩
 .simp only[Act.put,Array.size_setIfInBounds];exact h.size
 .simp only[Act.put];rw[ade _ _ _ _ _ (by rw[h.size];exact b)];simp only[St.set];by_cases e:t=d
  · simp_all
  .rw[if_neg e];have:Nat.beq t d=false:=by grind [Nat.eq_of_beq_eq_true]
   rw[this];exact h.tmps t
theorem Rel.drew(h:Rel w0 M T γ st a w)(n:Nat):Rel w0 M T γ st a {w with drawn:=n}:=
 (h.grown (γ':=γ) (w':={w with drawn:=n}) st.ah (λ_ _ h=>h) (λ_ _ _=>rfl) rfl rfl rfl (aHv _) (λ_ _=>rfl)
   (λp x E O=>ny) (λp A E O=>ny) (λp x q y b E O=>ny)).1
section kill
variable (S:Nat->Bool)
theorem aX.kill(f:Rel w0 M T γ st a w):∀(c:Cell)(v:Value),aX (ak w0 T γ st w) c v->aX (ak w0 T γ (st.kill S) w) (c.kill S) v
 |.int _ _,_,H|.bool _,_,H|.str _,_,H|.nil,_,H|.junk,_,H=>H
 |.sl e r l _,v,H=>dw.mono (λb J=>⟨⟨⟨J.1.1,J.1.2.1,λo x Z=>by
    simp only[St.kill]at Z;cases d:S o with
    |true=>grind
    |false=>
     cases F:st.ah o with
     |none=>grind
     |some y=>exact J.1.2.2 o y F⟩,J.2⟩,rfl⟩) (.sl e r) v l H
 |.ref o,v,⟨⟨e,r,l,fr,Z⟩,hv,h1⟩=>by
  simp only[Cell.kill];cases d:S o with
  |true=>exact h1
  |false=>exact⟨⟨e,r,l,fr,by simp only[St.kill,d];rw[show st.ah o=_ from Z];rfl⟩,hv,h1⟩
theorem VL(b:Nat)(J:(ak w0 T γ st w).foot b):(ak w0 T γ (st.kill S) w).foot b:=
 ⟨J.1,J.2.1,λo x Z=>by
     simp only[St.kill]at Z;cases d:S o with
     |true=>grind
     |false=>
      cases F:st.ah o with
      |none=>grind
      |some y=>exact J.2.2 o y F⟩
theorem ai.kill(h:Rel w0 M T γ st a w):∀(A:List Cell)(I:List Value),ai (ak w0 T γ st w) A I->ai (ak w0 T γ (st.kill S) w) (A.map (Cell.kill S)) I
 |[],[],H=>H
 |c::A,v::I,⟨h1,h2⟩=>⟨aX.kill S h c v h1,ai.kill h A I h2⟩
 |[],_::_,H|_::_,[],H=>RS
theorem eP.kill(h:Rel w0 M T γ st a w):∀(c:SV)(v:Value),eP (ak w0 T γ st w) c v->eP (ak w0 T γ (st.kill S) w) (c.kill S) v
 |.one c,v,H=>aX.kill S h c v H
 |.agg cs,_,⟨vs,hv,H⟩=>⟨vs,hv,ai.kill S h cs _ H⟩
theorem eX.kill(h:Rel w0 M T γ st a w):∀(A:List SV)(I:List Value),eX (ak w0 T γ st w) A I->eX (ak w0 T γ (st.kill S) w) (A.map (SV.kill S)) I
 |[],[],H=>H
 |c::A,v::I,⟨h1,h2⟩=>⟨eP.kill S h c v h1,eX.kill h A I h2⟩
 |[],_::_,H|_::_,[],H=>RS
theorem qE{o:Nat}{x:aI}(b:S o=false)(Z:st.ah o=some x):(st.kill S).ah o=some (x.kill S):=by
 grind [St.kill]
theorem ja.kill(h:Rel w0 M T γ st a w){A:List Cell}{b:Nat}(H:ja (ak w0 T γ st w) A b):ja (ak w0 T γ (st.kill S) w) (A.map (Cell.kill S)) b:=by obtain⟨arr,t,d,J,e,W⟩:=H;exact⟨arr,t,d,VL S b J,e,ai.kill S h A _ W⟩
theorem gB.kill(h:Rel w0 M T γ st a w):∀(l:List (List Cell))(s:List Value),gB (ak w0 T γ st w) l s->gB (ak w0 T γ (st.kill S) w) (l.map (List.map (Cell.kill S))) s
 |[],[],H=>H
 |cs::l,u::s,⟨⟨b,hu,hk⟩,h2⟩=>⟨⟨b,hu,ja.kill S h hk⟩,gB.kill h l s h2⟩
 |[],_::_,H|_::_,[],H=>RS
theorem bD.kill(h:Rel w0 M T γ st a w):∀(c:AV)(v:Value),bD (ak w0 T γ st w) c v->bD (ak w0 T γ (st.kill S) w) (c.kill S) v
 |.undef,_,_=>trivial
 |.sv x,v,H=>eP.kill S h x v H
 |.pG xs,_,⟨vs,hv,H⟩=>⟨vs,hv,eX.kill S h xs _ H⟩
 |.eG o off,v,⟨b,cs,hx,hγ,hv⟩=>by
  simp only[AV.kill];cases d:S o with
  |true=>trivial
  |false=>exact⟨b,_,qE S d hx,hγ,hv⟩
 |.qf o i off,v,⟨b,n,cap,e,r,l,fr,hx,hγ,hv⟩=>by
  simp only[AV.kill];cases d:S o with
  |true=>trivial
  |false=>exact⟨b,n,cap,e,r,l,fr,qE S d hx,hγ,hv⟩
 |.win o i off,v,⟨b,n,cap,e,r,l,fr,hx,hγ,hv⟩=>by
  simp only[AV.kill];cases d:S o with
  |true=>trivial
  |false=>exact⟨b,n,cap,e,r,l,fr,qE S d hx,hγ,hv⟩
 |.sS r x off fr,v,⟨b,base,cs,t,fz,hv,hf,J,hr⟩=>
  ⟨b,base,cs,t,fz,hv,⟨VL S b hf.1,hf.2⟩,J,aY.mono (λb J=>⟨⟨VL S b J.1,J.2⟩,rfl⟩) r _ x hr⟩
 |.dH cs off,v,⟨b,hv,hk⟩=>⟨b,hv,ja.kill S h hk⟩
 |.fn f caps,v,⟨us,hv,hk⟩=>⟨us,hv,gB.kill S h caps _ hk⟩
theorem AL{o:Nat}{x:aI}(Z:(st.kill S).ah o=some x):∃y,st.ah o=some y/\x=y.kill S/\S o=false:=by
 simp only[St.kill]at Z;cases b:S o with
 |true=>grind
 |false=>
  cases F:st.ah o with
  |none=>grind
  |some y=>grind
theorem cu.kill(h:Rel w0 M T γ st a w)(o:Nat):∀(x:aI),cu (ak w0 T γ st w) o x->cu (ak w0 T γ (st.kill S) w) o (x.kill S)
 |.var cs,⟨b,arr,t,e,hh,hr⟩=>⟨b,arr,t,e,hh,ai.kill S h cs _ hr⟩
 |.arr _ r _ _,⟨xs,hown,hr,hf,hx⟩=>⟨xs,hown,hr,hf,λi x D=>aY.mono (λb J=>⟨⟨VL S b J.1,J.2⟩,rfl⟩) r _ x (hx i x D)⟩
theorem Rel.kill(h:Rel w0 M T γ st a w):Rel w0 M T γ (st.kill S) a w:=by
 refine⟨h.mT,h.defers,h.size,h.os,h.tape,h.output,h.grow,h.kept,λt=>bD.kill S h _ _ (h.tmps t),λo x Z=>?_,λo x b Z J=>?_,λo x p y b Z B d J=>?_,λo v A g Z=>?_⟩
 .obtain⟨y,B,rfl,_⟩:=AL S Z;exact cu.kill S h o y (h.ah o y B)
 .obtain⟨y,B,rfl,_⟩:=AL S Z;exact h.lt o y b B J
 .obtain⟨x',hx',rfl,_⟩:=AL S Z;obtain⟨i,f,rfl,_⟩:=AL S B;exact h.sep o x' p i b hx' f d J
 .obtain⟨y,B,e,_⟩:=AL S Z;cases y with
  |var cs'=>exact h.pin o v cs' g B
  |arr _ _ _ _=>cases e
end kill
end Go.Fw
namespace Go.Fw
open Go
variable {w0:World} {M:Nat->Prop} {T:Ext} {γ γ':Nat->Value} {st:St} {a:Act} {w w':World} (S:Nat->Bool)
theorem jb{α:Type}(l:List α)(i k n:Nat)(h:i+k<=n):((l.take n).drop i).take k=(l.drop i).take k:=by
 grind [List.drop_take]
theorem cu.reads{X:V}{o:Nat}{e:TypeId}{r:au}{l:List r.den}{fr:Bool}{F:Nat->Prop}(h:cu X o (.arr e r l fr))
 (u:∀b,X.dA fr b->F b) (s:∀b,blk (X.γ o)=some b->F b):dw X.w.heap F (.sl e r) (X.γ o) l:=by
 obtain⟨z,⟨E,O⟩,W,q,Z⟩:=h;rcases O with⟨K,H⟩|⟨g,y,R,K,_,d,f,j,t,m⟩
 .refine⟨lu,.inl ⟨aH0.1 H,none,0,K⟩⟩
 .refine⟨aHw f j,.inr ⟨g,0,y,R,e,(0,0),K,f,s g atF,d,λi x D=>?_⟩⟩;have k:i<l.length:=(aHN.1 D).1;have n:i*r.len+r.len<=l.length*r.len:=by
   have:(i+1)*r.len<=l.length*r.len:=aHQ _ k
   grind
  grind [jb,aY.mono]
theorem FV(b:Nat)(J:(ak w0 T γ st w).foot b):(ak w0 T γ (st.freeze S) w).foot b:=
 ⟨J.1,J.2.1,λo x Z=>by
     simp only[St.freeze]at Z;cases d:S o with
     |true=>grind
     |false=>
      cases F:st.ah o with
      |none=>grind
      |some y=>exact J.2.2 o y F⟩
theorem FX{o:Nat}{x:aI}(Z:(st.freeze S).ah o=some x):∃y,st.ah o=some y/\x=y.freeze st S/\S o=false:=by
 simp only[St.freeze]at Z;cases b:S o with
 |true=>grind
 |false=>
  cases F:st.ah o with
  |none=>grind
  |some y=>grind
theorem EO{o:Nat}{x:aI}(b:S o=false)(Z:st.ah o=some x):(st.freeze S).ah o=some (x.freeze st S):=by
 grind [St.freeze]
theorem aX.freeze(h:Rel w0 M T γ st a w):∀(c:Cell)(v:Value),aX (ak w0 T γ st w) c v->aX (ak w0 T γ (st.freeze S) w) (c.freeze st S) v
 |.int _ _,_,H|.bool _,_,H|.str _,_,H|.nil,_,H|.junk,_,H=>H
 |.sl e r l _,v,H=>dw.mono (λb J=>⟨⟨FV S b J.1,J.2⟩,rfl⟩) (.sl e r) v l H
 |.ref o,v,⟨⟨e,r,l,fr,hx⟩,hv,h1⟩=>by
  have d:st.ah o=some (.arr e r l fr):=hx;simp only[Cell.freeze];cases f:S o with
  |false=>exact⟨⟨e,r,l,fr,EO S f d⟩,hv,h1⟩
  |true=>
   simp only[d];rw[hv];refine cu.reads (F:=(ak w0 T γ (st.freeze S) w).dA fr) (h.ah o _ d) (λb J=>⟨FV S b J.1,J.2⟩) (λb J=>⟨⟨(h.lt o _ b d J).1,λi=>h.mT b ((h.lt o _ b d J).2.resolve_left ny),λp y C=>?_⟩,λg=>?_⟩)
   .obtain⟨z,hz,_,hSp⟩:=FX S C;refine h.sep o _ p z b d hz (λe=>?_) J
    grind
   .obtain⟨xs,hw,_,hf,_⟩:=h.ah o _ d;exact⟨ny,afu hw J⟩
theorem ai.freeze(h:Rel w0 M T γ st a w):∀(A:List Cell)(I:List Value),ai (ak w0 T γ st w) A I->ai (ak w0 T γ (st.freeze S) w) (A.map (Cell.freeze st S)) I
 |[],[],H=>H
 |c::A,v::I,⟨h1,h2⟩=>⟨aX.freeze S h c v h1,ai.freeze h A I h2⟩
 |[],_::_,H|_::_,[],H=>RS
theorem eP.freeze(h:Rel w0 M T γ st a w):∀(c:SV)(v:Value),eP (ak w0 T γ st w) c v->eP (ak w0 T γ (st.freeze S) w) (c.freeze st S) v
 |.one c,v,H=>aX.freeze S h c v H
 |.agg cs,_,⟨vs,hv,H⟩=>⟨vs,hv,ai.freeze S h cs _ H⟩
theorem eX.freeze(h:Rel w0 M T γ st a w):∀(A:List SV)(I:List Value),eX (ak w0 T γ st w) A I->eX (ak w0 T γ (st.freeze S) w) (A.map (SV.freeze st S)) I
 |[],[],H=>H
 |c::A,v::I,⟨h1,h2⟩=>⟨eP.freeze S h c v h1,eX.freeze h A I h2⟩
 |[],_::_,H|_::_,[],H=>RS
theorem ja.freeze(h:Rel w0 M T γ st a w){A:List Cell}{b:Nat}(H:ja (ak w0 T γ st w) A b):ja (ak w0 T γ (st.freeze S) w) (A.map (Cell.freeze st S)) b:=by obtain⟨arr,t,d,J,e,W⟩:=H;exact⟨arr,t,d,FV S b J,e,ai.freeze S h A _ W⟩
theorem gB.freeze(h:Rel w0 M T γ st a w):∀(l:List (List Cell))(s:List Value),gB (ak w0 T γ st w) l s->gB (ak w0 T γ (st.freeze S) w) (l.map (List.map (Cell.freeze st S))) s
 |[],[],H=>H
 |cs::l,u::s,⟨⟨b,hu,hk⟩,h2⟩=>⟨⟨b,hu,ja.freeze S h hk⟩,gB.freeze h l s h2⟩
 |[],_::_,H|_::_,[],H=>RS
theorem bD.freeze(h:Rel w0 M T γ st a w):∀(c:AV)(v:Value),bD (ak w0 T γ st w) c v->bD (ak w0 T γ (st.freeze S) w) (c.freeze st S) v
 |.undef,_,_=>trivial
 |.sv x,v,H=>eP.freeze S h x v H
 |.pG xs,_,⟨vs,hv,H⟩=>⟨vs,hv,eX.freeze S h xs _ H⟩
 |.eG o off,v,⟨b,cs,hx,hγ,hv⟩=>by
  simp only[AV.freeze];cases d:S o with
  |true=>trivial
  |false=>exact⟨b,_,EO S d hx,hγ,hv⟩
 |.qf o i off,v,⟨b,n,cap,e,r,l,fr,hx,hγ,hv⟩=>by
  simp only[AV.freeze];cases d:S o with
  |true=>trivial
  |false=>exact⟨b,n,cap,e,r,l,fr,EO S d hx,hγ,hv⟩
 |.win o i off,v,⟨b,n,cap,e,r,l,fr,hx,hγ,hv⟩=>by
  simp only[AV.freeze];cases d:S o with
  |true=>trivial
  |false=>exact⟨b,n,cap,e,r,l,fr,EO S d hx,hγ,hv⟩
 |.sS r x off fr,v,⟨b,base,cs,t,fz,hv,hf,J,hr⟩=>
  ⟨b,base,cs,t,fz,hv,⟨FV S b hf.1,hf.2⟩,J,aY.mono (λb J=>⟨⟨FV S b J.1,J.2⟩,rfl⟩) r _ x hr⟩
 |.dH cs off,v,⟨b,hv,hk⟩=>⟨b,hv,ja.freeze S h hk⟩
 |.fn f caps,v,⟨us,hv,hk⟩=>⟨us,hv,gB.freeze S h caps _ hk⟩
theorem cu.freeze(h:Rel w0 M T γ st a w)(o:Nat):∀(x:aI),cu (ak w0 T γ st w) o x->cu (ak w0 T γ (st.freeze S) w) o (x.freeze st S)
 |.var cs,⟨b,arr,t,e,hh,hr⟩=>⟨b,arr,t,e,hh,ai.freeze S h cs _ hr⟩
 |.arr _ r _ _,⟨xs,hown,hr,hf,hx⟩=>⟨xs,hown,hr,hf,λi x D=>aY.mono (λb J=>⟨⟨FV S b J.1,J.2⟩,rfl⟩) r _ x (hx i x D)⟩
theorem Rel.freeze(h:Rel w0 M T γ st a w):Rel w0 M T γ (st.freeze S) a w:=by
 refine⟨h.mT,h.defers,h.size,h.os,h.tape,h.output,h.grow,h.kept,λt=>bD.freeze S h _ _ (h.tmps t),λo x Z=>?_,λo x b Z J=>?_,λo x p y b Z B d J=>?_,λo v A g Z=>?_⟩
 .obtain⟨y,B,rfl,_⟩:=FX S Z;exact cu.freeze S h o y (h.ah o y B)
 .obtain⟨y,B,rfl,_⟩:=FX S Z;exact h.lt o y b B J
 .obtain⟨x',hx',rfl,_⟩:=FX S Z;obtain⟨i,f,rfl,_⟩:=FX S B;exact h.sep o x' p i b hx' f d J
 .obtain⟨y,B,e,_⟩:=FX S Z;cases y with
  |var cs'=>exact h.pin o v cs' g B
  |arr _ _ _ _=>cases e
theorem Cell.afv(h:Rel w0 M T γ st a w):∀(c:CT)(x:Cell)(v:Value)(d:c.den),aX (ak w0 T γ st w) x v->x.get st c=some d->
 dw w.heap (λb=>b<w.heap.size) c v d:=by
 intro c x v d Z f;cases c with
 |int k=>
  cases x<;>simp only[Cell.get]at f<;>try (cases f;done)
  next l n=>
   cases t:decide (k=l)with
   |false=>grind
   |true=>
    rw[t]at f;have q:k=l:=aIt t;subst q;cases f;exact Z
 |bool=>cases x<;>simp only[Cell.get]at f<;>first|(cases f;done)|(cases f;exact Z)
 |str=>cases x<;>simp only[Cell.get]at f<;>first|(cases f;done)|(cases f;exact Z)
 |sl e r=>
  cases x<;>simp only[Cell.get]at f<;>try (cases f;done)
  .cases f;have K:v=.slice none 0 0:=Z;subst K;exact⟨aHV _,.inl ⟨rfl,none,0,rfl⟩⟩
  .next m s l j=>
   split at f
   .next J=>have i:=au.eq_of_beq s r J;subst i;cases f;exact dw.mono (λb J=>⟨J.1.1,rfl⟩) (.sl e s) v l Z
   .cases f
  .next o=>
   obtain⟨⟨m,s,l,j,F⟩,K,_⟩:=Z;have g:st.ah o=some (.arr m s l j):=F;simp only[g]at f;split at f
   .next J=>have i:=au.eq_of_beq s r J;subst i;cases f;rw[K];exact cu.reads (X:=ak w0 T γ st w) (e:=m) (l:=l) (fr:=j) (h.ah o _ g) (λb J=>J.1.1) (λb J=>(h.lt o _ b g J).1)
   .cases f
end Go.Fw
namespace Go.Fw
open Go
variable {P:Program} {w0:World} {M:Nat->Prop} {T:Ext} {γ γ':Nat->Value} {st:St} {a:Act} {w w':World}
theorem Oper.oV{o:Oper}{a:Act}{w w':World}{u:Value}{next:Act->World->Prop}{Q:Exit->Act->World->Prop}
 (h:(execOp a.eval o).run P w=.ok (.value u) w') (H:next (a.put o.dst u) w'):o.wp P a w next Q:=by
 unfold Oper.wp;rw[h];exact H
theorem Oper.wp_skip{o:Oper}{a:Act}{w w':World}{next:Act->World->Prop}{Q:Exit->Act->World->Prop}
 (h:(execOp a.eval o).run P w=.ok .skip w') (H:next (a.put o.dst undef) w'):o.wp P a w next Q:=by
 unfold Oper.wp;rw[h];exact H
theorem auu(X:V)(v:Value):bD X (anP v) v:=by
 unfold anP;split
 .split
  .next h=>simp at h;exact⟨rfl,h.1,h.2⟩
  .trivial
 .rfl
 .split
  .next s h=>exact⟨rfl,y7⟩
  .trivial
 .rfl
 .trivial
theorem jK(h:Rel w0 M T γ st a w)(x:Operand):bD (ak w0 T γ st w) (st.ev x) (a.eval x):=by
 cases x with
 |tmp t=>exact h.tmps t
 |const v=>exact auu _ v
 |global g=>trivial
 |func f=>exact⟨#[],rfl,trivial⟩
variable {x:Operand}{c:Cell}
theorem qF(h:Rel w0 M T γ st a w)(e:st.ev x=.sv (.one c)):aX (ak w0 T γ st w) c (a.eval x):=by have:=jK h x;rw[e]at this;exact this
theorem avb(h:Rel w0 M T γ st a w){b:Bool}(e:st.ev x=.sv (.one (.bool b))):a.eval x=.bool b:=qF h e
variable {k:IntKind}
theorem Yb(h:Rel w0 M T γ st a w){n:Int}(e:st.ev x=.sv (.one (.int k n))):a.eval x=.int k n/\k.min<=n/\n<=k.max:=qF h e
theorem xZ(h:Rel w0 M T γ st a w){n:Int}(e:xY (st.ev x)=some n):∃k,a.eval x=.int k n/\k.min<=n/\n<=k.max:=by
 unfold xY at e;split at e
 .next k m hx=>cases e;exact⟨k,Yb h hx⟩
 .cases e
theorem NH(k:IntKind)(n:Int):k.min<=k.wrap n/\k.wrap n<=k.max:=by unfold IntKind.wrap IntKind.min IntKind.max;cases k<;>simp only[IntKind.signed,IntKind.bits]<;>simp<;>first|omega|(split<;>omega)
theorem awg(k:IntKind)(x y:Int)(Z:k.min<=x/\x<=k.max):k.min<=x.tmod y/\x.tmod y<=k.max:=by
 have S:k.min<=0/\0<=k.max:=arQ;have E:(x.tmod y).natAbs=x.natAbs%y.natAbs:=aJ8 x y;have O:x.natAbs%y.natAbs<=x.natAbs:=Nat.mod_le _ _;rcases Int.le_total 0 x with X|X
 · grind [Int.tmod_nonneg]
 .have h3:x.tmod y<=0:=by
   have:=Int.tmod_nonneg y (show 0<=-x from lu)
   simp_all
  omega
theorem awh(k:IntKind)(x:Int)(n:Nat)(Z:k.min<=x/\x<=k.max):k.min<=x.fdiv (2 ^ n)/\x.fdiv (2 ^ n)<=k.max:=by
 have S:k.min<=0/\0<=k.max:=arQ;have l:(1:Int)<=2 ^ n:=Int.pow_pos lu;rw[Int.fdiv_eq_ediv_of_nonneg _ lu];generalize (2:Int) ^ n=m at l;have E:=Int.mul_ediv_add_emod x m;have O:=Int.emod_nonneg x (show m≠0 from lu);have U:=Int.emod_lt_of_pos x (show 0<m from lu);generalize i:x / m=q at*;rcases Int.le_total 0 x with X|X
 .have h4:0<=q:=by rw[← i];exact Int.ediv_nonneg X lu
  have b:1*q<=m*q:=aJb l h4;omega
 .by_cases h4:q<=-1
  .have b:m*(q+1)<=1*(q+1):=Int.mul_le_mul_of_nonpos_right l lu
   grind
  .have b:1*q<=m*q:=aJb l lu;omega
variable {op:BinOp}{t:TypeId}{y:Operand}
theorem Xd{l:IntKind}{n m:Int}:(eqGuard op t x y (.int k n) (.int l m)).run P w=.ok () w:=by cases op<;>rfl
theorem auv{s u:ByteArray}:(eqGuard op t x y (.string s) (.string u)).run P w=.ok () w:=by cases op<;>rfl
theorem adf{s u:Bool}:(eqGuard op t x y (.bool s) (.bool u)).run P w=.ok () w:=by cases op<;>rfl
theorem awi{x y:Int}{p:Prop}(X:V)(h:X9 op k x y=some (p,c))(C:p)(Z:k.min<=x/\x<=k.max):
 ∃u,(binOp op t (.int k x) (.int k y)).run P w=.ok u w/\aX X c u:=by
 cases op<;>simp only[X9,Option.some.injEq,Prod.mk.injEq,reduceCtorEq]at h<;>obtain⟨rfl,rfl⟩:=h
 case quo=>refine⟨_,?_,rfl,NH _ _⟩;simp[binOp,Op.intDiv,C,aIB]
 case rem=>refine⟨_,?_,rfl,awg k x y Z⟩;simp[binOp,Op.intDiv,C,aIB]
 all_goals first
  |exact⟨_,by simp[binOp,Op.intArith,Op.intBits,bitsOf,aIB],rfl,NH _ _⟩
  |exact⟨_,by simp[binOp,Op.intCmp,aIB],rfl⟩
theorem awj{x y:Bytes}{p:Prop}(X:V)(h:ac7 op x y=some (p,c))(C:p):
 ∃u,(binOp op t (.string ⟨x.toArray⟩) (.string ⟨y.toArray⟩)).run P w=.ok u w/\aX X c u:=by
 cases op<;>simp only[ac7,Option.some.injEq,Prod.mk.injEq,reduceCtorEq]at h<;>obtain⟨rfl,rfl⟩:=h
 case add=>
  refine⟨.string ⟨(x++y).toArray⟩,?_,rfl,by simpa using C⟩;have E:¬((((⟨x.toArray⟩:ByteArray).size+(⟨y.toArray⟩:ByteArray).size:Nat):Int)>IntKind.i64.max):=by
   have e:IntKind.i64.max=9223372036854775807:=rfl;unfold maxLen at C;show ¬(((x.toArray.size+y.toArray.size:Nat):Int)>_)
   grind
  have O:(⟨x.toArray⟩:ByteArray)++⟨y.toArray⟩=⟨(x++y).toArray⟩:=by apply ByteArray.ext;simp
  simp_all [binOp,Op.stringOp]
 all_goals exact⟨_,by simp[binOp,Op.stringOp,aIB],rfl⟩
theorem auw{x y:Cell}{p:Prop}{s u:Operand}{v v':Value}(X:V)(h:Ya op x y=some (p,c))(C:p)
 (Z:aX X x v) (B:aX X y v') (J:∀a b,x=.bool a->y=.bool b->P.underlying t=some .bool):
 ∃r,(do eqGuard op t s u v v';binOp op t v v').run P w=.ok r w/\aX X c r:=by
 cases x<;>cases y<;>simp only[Ya,reduceCtorEq]at h
 case int.int k n l m=>
  obtain⟨rfl,H⟩:=Z;obtain⟨rfl,o⟩:=B;have d:∀e:k=l,X9 op k n m=some (p,c)->∃r,(do eqGuard op t s u (.int k n) (.int l m);binOp op t (.int k n) (.int l m)).run P w=.ok r w/\aX X c r:=by
   intro e O;obtain⟨r,W,j⟩:=awi (P:=P) (w:=w) (t:=t) X O C H
   simp_all [Xd]
  cases op
  case shl=>obtain⟨rfl,rfl⟩:=h;refine⟨_,?_,rfl,NH _ _⟩;rw[aIb,Xd];simp[binOp,Op.shift,show ¬m<0 from lu,aIB]
  case shr=>obtain⟨rfl,rfl⟩:=h;refine⟨_,?_,rfl,awh _ _ _ H⟩;rw[aIb,Xd];simp[binOp,Op.shift,show ¬m<0 from lu,aIB]
  all_goals
   dsimp only at h;split at h
   .next e=>exact d (aIt e) h
   .cases h
 case bool.bool a b=>
  have f:v=.bool a:=Z;have i:v'=.bool b:=B;subst f i;have q:=J a b rfl rfl;have g:(Op.equal t (.bool a) (.bool b)).run P w=.ok (a==b) w:=run_equal_bool w t a b q;cases op<;>simp only[Option.some.injEq,Prod.mk.injEq,reduceCtorEq]at h<;>obtain⟨_,rfl⟩:=h
  .refine⟨_,?_,rfl⟩;rw[aIb,adf];simp[binOp,g]
  .refine⟨_,?_,rfl⟩;rw[aIb,adf];simp[binOp,g]
 case str.str x y=>
  obtain⟨rfl,H⟩:=Z;obtain⟨rfl,o⟩:=B;obtain⟨r,W,j⟩:=awj (P:=P) (w:=w) (t:=t) X h C
  simp_all [auv]
end Go.Fw
namespace Go.Fw
open Go
def CT.anR:CT->Value
 |.int k=>.int k 0
 |.bool=>.bool false
 |.str=>.string ⟨#[]⟩
 |.sl _ _=>.slice none 0 0
def au.rO:au->List Value
 |.nil=>[]
 |.cons c r=>c.anR::r.rO
def au.desc:au->Option TypeDesc
 |.cons (.int k) .nil=>some (.int k)
 |.cons .bool .nil=>some .bool
 |.cons .str .nil=>some .string
 |.cons (.sl e _) .nil=>some (.slice e)
 |_=>none
structure nY(P:Program)(t:TypeId)(ti:TI):Prop where
 info:∃i z,P.info? t=some i/\i.size=ti.cells.len/\i.bytes=ti.bytes/\i.zero=some z/\z.cells.toList=ti.cells.rO/\(ti.agg=false->z.cells=#[z])
 und:match ti.kind with
  |.scalar=>∃d,ti.cells.desc=some d/\P.underlying t=some d
  |.str=>P.underlying t=some .string/\ti.cells=.cons .str .nil
  |.slice e=>P.underlying t=some (.slice e)/\∃r,ti.cells=.cons (.sl e r) .nil
  |.struct fs=>∃Gl:Array Field,P.underlying t=some (.struct Gl)/\(fs=Gl.toList.map λf=>(f.offset,f.type))/\∀f∈Gl.toList,(P.info? f.type).isSome=true
 small:ti.bytes<=4096
 cmp:ti.cmp=true->∀(w:World)(s u:Operand)(X:V)(xs ys:List Cell)(vs us:Array Value)(b:Bool),ti.cells.fits xs=true->ai X xs vs.toList->ai X ys us.toList->mg xs ys=some b->
  (do eqGuard .eql t s u (.agg vs) (.agg us);binOp .eql t (.agg vs) (.agg us)).run P w=.ok (.bool b) w/\
  (do eqGuard .neq t s u (.agg vs) (.agg us);binOp .neq t (.agg vs) (.agg us)).run P w=.ok (.bool (!b)) w
variable {P:Program} {w0:World} {M:Nat->Prop} {T:Ext} {γ γ':Nat->Value} {st:St} {a:Act} {w w':World} {Θ:jY}
variable {t:TypeId}
theorem nY.size{b:TI}(h:nY P t b):(P.info? t).map (·.size)=some b.cells.len:=by
 obtain⟨i,z,D,X,_⟩:=h.info
 grind
theorem nY.run_sizeOf{b:TI}(h:nY P t b)(w:World):(sizeOf t).run P w=.ok b.cells.len w:=by obtain⟨i,z,D,X,_⟩:=h.info;simp[sizeOf,typeInfo,D,X]
theorem nY.adg{f:TI}(h:nY P t f)(w:World):(isAgg t).run P w=.ok f.agg w:=by
 have b:=h.und;unfold TI.agg;unfold isAgg;split at b
 .next hk=>obtain⟨d,e,b⟩:=b;rw[hk,aIb,aHZ b w];unfold au.desc at e;split at e<;>first|(cases e;rfl)|cases e
 · simp_all [aHZ]
 · simp_all [aHZ]
 .next fs hk=>
  obtain⟨g,b,_,_⟩:=b
  simp_all [aHZ]
theorem afw(X:V)(fr:Bool):∀(r:au)(I:List Value)(x:r.den),aY X.w.heap (X.dA fr) r I x->ai X (au.row fr r x) I
 |.nil,I,_,h=>by subst h;trivial
 |.cons c r,I,(x,y),h=>by
  obtain⟨v,b,rfl,E,O⟩:=h;refine⟨?_,afw X fr r b y O⟩;cases c with
  |int k=>exact E
  |bool=>exact E
  |str=>exact E
  |sl e r=>exact E
theorem Zx{b m:Nat}{A:Array Value}{d:Nat×Nat}(h:w.heap[b]? =some (.cells A t d))(n:Nat):
 w.rangeAt b m ((A.toList.drop m).take n):=by
 intro j v e
 grind [World.cell?]
theorem P9{d:TI}(i:nY P t d)(X:V){b m k:Nat}{A:Array Value}{e:TypeId}{o:Nat×Nat}
 (J:w.heap[b]? =some (.cells A e o)) {h:List Cell} {n:Nat} (W:ai X h ((A.toList.drop m).take n)) {v:SV} (K:nX d h k=some v):
 ∃u,(Instr.loadAt t (.pointer (some ⟨b,m+k,none⟩))).run P w=.ok u w/\eP X v u:=by
 unfold nX at K;have Y:=ai.length _ _ W;split at K
 .next hagg=>
  split at K
  .next f=>
   cases K;have f:k+d.cells.len<=h.length:=aIm f;have g:=i.und;unfold TI.agg at hagg;split at hagg
   .next fs hk=>
    rw[hk]at g;obtain⟨r,g,_,_⟩:=g;have l:(((A.toList.drop m).take n).drop k).take d.cells.len=(A.toList.drop (m+k)).take d.cells.len:=by
     grind [jb,List.drop_drop]
    have Q:((A.toList.drop (m+k)).take d.cells.len).length=d.cells.len:=by
     grind
    refine⟨.agg ((A.toList.drop (m+k)).take d.cells.len).toArray,?_,_,rfl,?_⟩
    .exact run_loadAt_mid w b (m+k) t _ _ (Zx J _) g rfl (by rw[i.size,Q])
    grind [ai.take,ai.drop]
   .cases hagg
  .cases K
 .next hagg=>
  split at K
  .next c hc=>
   cases K;obtain⟨u,g,q⟩:=ai.get _ _ k c W hc;refine⟨u,?_,q⟩;have j:w.cell? ⟨b,m+k,none⟩=some u:=by
    grind [World.cell?]
   simp only[Instr.loadAt,Instr.sureAddr,aIb,aIB,aIy,loadVar,i.adg,hagg,aJX,aJ4]
   simp_all
  .cases K
end Go.Fw
namespace Go.Fw
open Go
def au.takeC:Nat->au->au
 |0,_=>.nil
 |_+1,.nil=>.nil
 |n+1,.cons c r=>.cons c (r.takeC n)
def au.akp:Nat->au->au
 |0,r=>r
 |_+1,.nil=>.nil
 |n+1,.cons _ r=>r.akp n
def NI(P:Program)(rec:TypeId->au->Bool):List Field->Nat->au->Bool
 |[],_,cs=>match cs with|.nil=>true|_=>false
 |f::fs,off,cs=>!(f.name== "_")&&(Nat.beq f.offset off&&(match P.info? f.type with
  |some i=>Nat.ble i.size cs.len&&(rec f.type (cs.takeC i.size)&&NI P rec fs (off+i.size) (cs.akp i.size))
  |none=>false))
def awk(P:Program):Nat->TypeId->au->Bool
 |0,_,_=>false
 |n+1,t,cs=>match P.underlying t with
  |some (.int k)=>match cs with|.cons (.int l) .nil=>decide (k=l)|_=>false
  |some .bool=>match cs with|.cons .bool .nil=>true|_=>false
  |some .string=>match cs with|.cons .str .nil=>true|_=>false
  |some (.struct fs)=>!P.stoodInHeld t&&NI P (awk P n) fs.toList 0 cs
  |_=>false
variable {P:Program}
theorem apF:∀(n:Nat)(A:au)(z:List Cell),A.fits z=true->(A.takeC n).fits (z.take n)=true/\(A.akp n).fits (z.drop n)=true
 |0,A,z,h=>⟨by simp[au.takeC,au.fits],by grind [au.akp]⟩
 |n+1,.nil,[],h=>⟨rfl,rfl⟩
 |n+1,.cons c r,x::z,h=>by
  rw[au.fits,aHy]at h;have a:=apF n r z h.2;exact⟨by rw[au.takeC,aJa,au.fits,h.1,a.1];rfl,a.2⟩
 |n+1,.nil,_::_,h|n+1,.cons _ _,[],h=>by simp[au.fits]at h
theorem aif{X:V}:∀(n:Nat)(z:List Cell)(I:List Value),ai X z I->ai X (z.take n) (I.take n)/\ai X (z.drop n) (I.drop n)
 |0,z,I,h=>⟨by simp[ai],y7⟩
 |n+1,[],[],h=>by simp[ai]
 |n+1,x::z,v::I,h=>by
  have a:=aif n z I h.2;exact⟨⟨h.1,a.1⟩,a.2⟩
 |n+1,[],_::_,h|n+1,_::_,[],h=>zH
theorem adh:∀(n:Nat)(z d:List Cell)(b:Bool),mg z d=some b->∃e f,mg (z.take n) (d.take n)=some e/\mg (z.drop n) (d.drop n)=some f/\b=(e&&f)
 |0,z,d,b,h=>⟨true,b,rfl,y7,vk⟩
 |n+1,[],[],b,h=>ny
 |n+1,x::z,y::d,b,h=>by
  rw[mg]at h;split at h
  .next a c h1 h2=>
   obtain⟨e,f,g,T,rfl⟩:=adh n z d c h2
   grind [mg]
  .cases h
 |n+1,[],_::_,b,h|n+1,_::_,[],b,h=>by simp[mg]at h
theorem Xe:∀(A:au)(z:List Cell),A.fits z=true->z.length=A.len
 |.nil,[],_=>rfl
 |.cons c r,x::z,h=>by
  rw[au.fits,aHy]at h;rw[aHx,au.len,Xe r z h.2]
 |.nil,_::_,h|.cons _ _,[],h=>by simp[au.fits]at h
theorem Zy{X:V}:∀(z:List Cell)(I:List Value),ai X z I->I.length=z.length
 |[],[],_=>rfl
 |_::z,_::I,h=>by rw[aHx,aHx,Zy z I h.2]
 |[],_::_,h|_::_,[],h=>zH
theorem Yc:∀(z d:List Cell)(b:Bool),mg z d=some b->d.length=z.length
 |[],[],_,_=>rfl
 |x::z,y::d,b,h=>by
  rw[mg]at h;split at h
  .next a c h1 h2=>rw[aHx,aHx,Yc z d c h2]
  .cases h
 |[],_::_,_,h|_::_,[],_,h=>by simp[mg]at h
def aAE(P:Program)(d:Nat)(t:TypeId)(I s:List Value)(b:Bool)(w:World):Prop:=
 ((∃a,P.underlying t=some (.struct a))/\(Op.equalIn d t (.agg I.toArray) (.agg s.toArray)).run P w=.ok b w)\/
 ((∀w,(isAgg t).run P w=.ok false w)/\∃v u,I=[v]/\s=[u]/\(Op.equalIn d t v u).run P w=.ok b w)
theorem akq{d:Nat}{rec:TypeId->au->Bool}{X:V}(w:World)
 (j:∀t A,rec t A=true->∀(z g:List Cell)(I s:List Value)(b:Bool),A.fits z=true->ai X z I->ai X g s->mg z g=some b->aAE P d t I s b w):
 ∀(o:List Field)(m:Nat)(A:au)(l k:List Value)(z g:List Cell)(I s:List Value)(b:Bool),NI P rec o m A=true->l.length=m->k.length=m->A.fits z=true->ai X z I->ai X g s->mg z g=some b->
  (Op.eqFields d (l++I).toArray (k++s).toArray o).run P w=.ok b w
 |[],m,A,l,k,z,g,I,s,b,h,_,_,hf,hx,hy,he=>by
  cases A with
  |nil=>cases z with
   |nil=>
    cases g with
    |nil=>cases he;rfl
    |cons=>grind [mg]
   |cons=>grind [au.fits]
  |cons=>simp[NI]at h
 |f::o,m,A,l,k,z,g,I,s,b,h,hpv,hpu,hf,hx,hy,he=>by
  rw[NI,aHy,aHy]at h;obtain⟨H,F,h⟩:=h;have F:=aHA F;split at h
  .next i hi=>
   rw[aHy,aHy]at h;obtain⟨N,W,h⟩:=h;obtain⟨x,B,L,T,rfl⟩:=adh i.size z g b he;have C:=apF i.size A z hf;have E:=aif i.size z I hx;have J:=aif i.size g s hy;have n:f.name≠ "_" :=by simpa using H
   have lv:I.length=A.len:=by rw[Zy _ _ hx,Xe _ _ hf]
   have Z:s.length=A.len:=by rw[Zy _ _ hy,Yc _ _ _ he,Xe _ _ hf]
   have r:=j f.type _ W _ _ _ _ x C.1 E.1 J.1 L;have e:(Op.eqFields d (l++I).toArray (k++s).toArray o).run P w=.ok B w:=by
    have:=akq w j o (m+i.size) (A.akp i.size) (l++I.take i.size) (k++s.take i.size) _ _ _ _ B h XH XH C.2 E.2 J.2 T
    simp_all
   have O:∀w,(sizeOf f.type).run P w=.ok i.size w:=λw=>by simp[sizeOf,typeInfo,hi]
   have y:∃a c,(part f.type (l++I).toArray f.offset).run P w=.ok a w/\(part f.type (k++s).toArray f.offset).run P w=.ok c w/\(Op.equalIn d f.type a c).run P w=.ok x w:=by
    rcases r with⟨⟨U,D⟩,q⟩|⟨M,v,u,K,D,q⟩
    · simp_all [isAgg,aHZ,part]
    .have g1:(l++I).toArray[f.offset]? =some v:=by
      have:(I.take i.size)[0]? =some v:=atF
      grind
     have Y:(k++s).toArray[f.offset]? =some u:=by
      have:(s.take i.size)[0]? =some u:=by rw[D];rfl
      grind
     simp_all [part]
   obtain⟨a,c,Q,R,S⟩:=y;rw[Op.eqFields];rw[if_pos n,aIb,Q,aIy,aIb,R,aIy,aIb,S,aIy];cases x with
   |true=>grind
   |false=>simp
  .cases h
theorem one_cell{X:V}{c:CT}{z ys:List Cell}{I s:List Value}{b:Bool}(q:(au.cons c .nil).fits z=true)(Z:ai X z I)(B:ai X ys s)(g:mg z ys=some b):
 ∃x y v u,I=[v]/\s=[u]/\c.fits x=true/\aX X x v/\aX X y u/\ac8 x y=some b:=by
 cases z with
 |nil=>grind [au.fits]
 |cons x z=>
  rw[au.fits,aHy]at q;cases z with
  |cons=>grind [au.fits]
  |nil=>
   cases ys with
   |nil=>grind [mg]
   |cons y ys=>
    cases ys with
    |cons=>grind [mg]
    |nil=>
     cases I with
     |nil=>cases Z
     |cons v I=>
      cases s with
      |nil=>cases B
      |cons u s=>
       cases I with
       |cons=>cases Z.2
       |nil=>
        cases s with
        |cons=>cases B.2
        |nil=>
         refine⟨x,y,v,u,rfl,rfl,q.1,Z.1,B.1,?_⟩;rw[mg]at g;split at g
         .next a c h1 h2=>cases h2;grind
         .cases g
theorem axB{X:V}(w:World):∀(n:Nat)(t:TypeId)(A:au),awk P n t A=true->∀(d:Nat),n<=d->∀(z e:List Cell)(I s:List Value)(b:Bool),A.fits z=true->ai X z I->ai X e s->mg z e=some b->aAE P d t I s b w
 |0,t,A,h,_,_,_,_,_,_,_,_,_,_,_=>zH
 |n+1,t,A,h,0,hd,_,_,_,_,_,_,_,_,_=>lu
 |n+1,t,A,h,d+1,hd,z,e,I,s,b,hf,hx,hy,he=>by
  unfold awk at h;split at h
  .next k hu=>
   split at h
   .next l=>
    obtain⟨x,y,v,u,rfl,rfl,L,E,O,U⟩:=one_cell hf hx hy he;refine .inr ⟨λw=>by simp_all [isAgg,aHZ],v,u,rfl,rfl,?_⟩;cases x<;>simp[CT.fits]at L;cases y<;>simp only[ac8,reduceCtorEq]at U
    next g a i c=>
    split at U
    .next hkk=>
     rw[E.1,O.1]
     grind [run_equalIn_int]
    .cases U
   .cases h
  .next hu=>
   split at h
   .obtain⟨x,y,v,u,rfl,rfl,L,E,O,U⟩:=one_cell hf hx hy he;refine .inr ⟨λw=>by simp_all [isAgg,aHZ],v,u,rfl,rfl,?_⟩;cases x<;>simp[CT.fits]at L;cases y<;>simp[ac8]at U
    next a c=>
    have E:v=.bool a:=E;have O:u=.bool c:=O
    grind [run_equalIn_bool]
   .cases h
  .next hu=>
   split at h
   .obtain⟨x,y,v,u,rfl,rfl,L,E,O,U⟩:=one_cell hf hx hy he;refine .inr ⟨λw=>by simp_all [isAgg,aHZ],v,u,rfl,rfl,?_⟩;cases x<;>simp[CT.fits]at L;cases y<;>simp[ac8]at U
    next a c=>
    rw[E.1,O.1,run_equalIn_string w d t _ _ hu]
    simp_all
   .cases h
  .next fs hu=>
   rw[aHy]at h;have C:P.stoodInHeld t=false:=by simpa using h.1
   have f:P.fieldsOf t=fs:=by grind [Program.fieldsOf]
   refine .inl ⟨⟨fs,hu⟩,?_⟩;rw[run_equalIn_struct w d t _ _ ny C,f];have:=akq (X:=X) (d:=d) w (λt A W z e I s b=>axB w n t A W d lu z e I s b) fs.toList 0 A [] [] z e I s b h.2 rfl rfl hf hx hy he
   grind
  .cases h
def awl(P:Program)(t:TypeId)(A:au):Bool:=awk P 20 t A&&(!P.eqGuardType P.depth t&&(match P.underlying t with|some (.struct _)=>true|_=>false))
theorem aBk{t:TypeId}{A:au}(h:awl P t A=true)(w:World)(s u:Operand)(X:V)(z ys:List Cell)(I a:Array Value)(b:Bool)(q:A.fits z=true)(Z:ai X z I.toList)(B:ai X ys a.toList)(g:mg z ys=some b):
 (do eqGuard .eql t s u (.agg I) (.agg a);binOp .eql t (.agg I) (.agg a)).run P w=.ok (.bool b) w/\
 (do eqGuard .neq t s u (.agg I) (.agg a);binOp .neq t (.agg I) (.agg a)).run P w=.ok (.bool (!b)) w:=by
 unfold awl at h;rw[aHy,aHy]at h;obtain⟨E,O,U⟩:=h;have d:(Op.equalIn 10000 t (.agg I) (.agg a)).run P w=.ok b w:=by
  rcases axB w 20 t A E 10000 lu z ys I.toList a.toList b q Z B g with⟨_,h⟩|⟨e,_⟩
  .simpa using h
  .split at U
   · simp_all [isAgg,aHZ]
   .cases U
 grind [Sem.run_bind,run_eqGuard_agg,Result.andThen_ok,run_eql_struct,run_neq_struct]
end Go.Fw
namespace Go.Fw
open Go
variable {P:Program} {w0:World} {M:Nat->Prop} {T:Ext} {γ γ':Nat->Value} {st:St} {a:Act} {w w':World} {Θ:jY}
theorem aB9{s:Sem Value}{u:Value}(h:s.run P w=.ok u w'):(do pure (Next.value (← s)):Sem Next).run P w=.ok (.value u) w':=apE
variable {t:TypeId}{ti:TI}
theorem VN(D:∀t ti,Θ t=some ti->nY P t ti)(h:Rel w0 M T γ st a w)(X:Θ t=some ti){x:Operand}{v:SV}:
 ((∃o m A,st.ev x=.eG o m/\st.ah o=some (.var A)/\nX ti A m=some v)\/
  (∃o i m e r l f,st.ev x=.qf o i m/\st.ah o=some (.arr e r l f)/\i<l.length/\nX ti (au.row f r (l.getD i r.dflt)) m=some v)\/
  (∃r y m f,st.ev x=.sS r y m f/\nX ti (au.row f r y) m=some v))->
 ∃u,(Instr.loadAt t (a.eval x)).run P w=.ok u w/\eP (ak w0 T γ st w) v u:=by
 have Z:=jK h x;rintro(⟨o,m,A,e,ho,hv⟩|⟨o,i,m,e',r,l,f,e,ho,hi,hv⟩|⟨r,y,m,f,e,hv⟩)
 .rw[e]at Z;obtain⟨b,cs',_,F,Z⟩:=Z;obtain⟨b',arr,ty,Y,J,W⟩:=h.ah o _ ho;have hr':ai (ak w0 T γ st w) A ((arr.toList.drop 0).take arr.size):=by grind [List.take_of_length_le]
  grind [P9]
 .rw[e]at Z;obtain⟨b,n,I,e2,r2,l2,K,N,F,Z⟩:=Z;have k:st.ah o=some (.arr e2 r2 l2 K):=N;rw[ho]at k;cases k;obtain⟨z,⟨E,O⟩,U,_,C⟩:=h.ah o _ ho;rcases O with⟨S,_⟩|⟨g,s,R,d,_,hh,hle,_,hsz,j⟩
  .omega
  .have hγ1:γ o=.slice (some ⟨b,0,none⟩) n I:=F;have Q:γ o=.slice (some ⟨g,0,none⟩) l.length s:=d;rw[hγ1]at Q;obtain⟨rfl,-,-⟩:=Q;rw[Z];have B:i*r.len+r.len<=l.length*r.len:=by
    have:(i+1)*r.len<=l.length*r.len:=aHQ _ hi
    grind
   have L:l[i]? =some (l.getD i r.dflt):=ny;have H:=C i _ L;rw[← j,jb _ _ _ _ B]at H;exact P9 (D t ti X) (ak w0 T γ st w) hh (afw _ f r _ _ H) hv
 .rw[e]at Z;obtain⟨b,base,A,ty,fz,Z,q,J,H⟩:=Z;rw[Z];exact P9 (D t ti X) (ak w0 T γ st w) J (afw _ f r _ _ H) hv
theorem addr_add(b o k:Nat):(⟨b,o,none⟩:Addr).add k=⟨b,o+k,none⟩:=Addr.add_mid b o k
theorem Qa(e:∀t ti,Θ t=some ti->nY P t ti){s:TypeId}{g:TI}(X:Θ s=some ti){fs:List (Nat×TypeId)}(u:ti.kind=.struct fs){f k:Nat}(q:fs[f]? =some (k,t))
 (n:Θ t=some g) (m:g.cells≠ .nil) (b o:Nat):(Instr.fieldAt s (.pointer (some ⟨b,o,none⟩)) f).run P w=.ok (.pointer (some ⟨b,o+k,none⟩)) w:=by
 have h:=(e s ti X).und;rw[u]at h;obtain⟨l,h,rfl,_⟩:=h;rw[aId]at q;cases d:l.toList[f]? with
 |none=>grind
 |some fl=>
  rw[d]at q;obtain⟨rfl,rfl⟩:=q;have i:l[f]? =some fl:=ald;have j:g.cells.len≠0:=by
   cases L:g.cells with
   |nil=>grind
   |cons c r=>simp[au.len]
  simp[Instr.fieldAt,Instr.sureAddr,aIb,aHZ h w,i,fieldPlace,(e _ g n).run_sizeOf,j,addr_add]
variable {e:TypeId}
theorem run_indexAt(d:∀t ti,Θ t=some ti->nY P t ti){f:TI}(r:Θ t=some ti)(u:ti.kind=.slice e)(g:Θ e=some f)(b o len cap:Nat)(k:IntKind)(n:Int)(S:0<=n)(H:n<len):
 (Instr.indexAt t (.slice (some ⟨b,o,none⟩) len cap) (.int k n)).run P w=.ok (.pointer (some ⟨b,o+n.toNat*f.cells.len,none⟩)) w:=by
 have h:=(d t ti r).und;rw[u]at h;simp[Instr.indexAt,asIntOf,aIb,aHZ h.1 w,S,H,(d e f g).run_sizeOf,addr_add]
variable {X:V}{r:au}{fr:Bool}{v:Value}
theorem azl{l:List r.den}(h:aX X (.sl e r l fr) v){i:Nat}(D:i<l.length):
 ∃b m y,v=.slice (some ⟨b,m,none⟩) l.length y/\bD X (.sS r (l.getD i r.dflt) 0 fr) (.pointer (some ⟨b,m+i*r.len,none⟩)):=by
 rcases h.2 with⟨Q,_⟩|⟨b,m,y,A,t,d,K,_,f,J,Z⟩
 · grind
 .have hli:l[i]? =some (l.getD i r.dflt):=ny;exact⟨b,m,y,K,b,m+i*r.len,A,t,d,rfl,f,J,Z i _ hli⟩
theorem auy(b:∀t ti,Θ t=some ti->nY P t ti)(d:Θ t=some ti)(u:ti.kind=.str)(s:ByteArray)(ty:TypeId):
 (Builtin.len_ #[t] ty #[.string s]).run P w=.ok (.int .i64 s.size) w:=by
 have f:=(b t ti d).und
 simp_all [Builtin.len_,aHZ,goInt]
theorem run_len_slice(b:∀t ti,Θ t=some ti->nY P t ti)(d:Θ t=some ti)(u:ti.kind=.slice e)(a:Option Addr)(n c:Nat)(ty:TypeId):
 (Builtin.len_ #[t] ty #[.slice a n c]).run P w=.ok (.int .i64 n) w:=by
 have f:=(b t ti d).und
 simp_all [Builtin.len_,aHZ,goInt]
theorem size_bytes(s:Bytes):(⟨s.toArray⟩:ByteArray).size=s.length:=by show s.toArray.size=_;simp
theorem arV{l:List r.den}(h:aX X (.sl e r l fr) v):∃a c,v=.slice a l.length c/\l.length<=maxLen:=by
 rcases h.2 with⟨Q,a,c,K⟩|⟨b,m,y,A,t,d,K,_⟩
 · grind
 .exact⟨_,y,K,h.1⟩
variable {o:Nat}
theorem aBl(h:Rel w0 M T γ st a w)(L:aX (ak w0 T γ st w) (.ref o) v){l:List r.den}(F:st.ah o=some (.arr e r l fr)):
 ∃a c,v=.slice a l.length c/\l.length<=maxLen:=by
 obtain⟨_,K,_⟩:=L;obtain⟨z,⟨_,O⟩,_⟩:=h.ah o _ F
 grind
theorem afx(n:Nat)(h:n<=maxLen):IntKind.i64.min<=(n:Int)/\(n:Int)<=IntKind.i64.max:=by unfold maxLen at h;have b:IntKind.i64.min=-9223372036854775808:=rfl;have d:IntKind.i64.max=9223372036854775807:=rfl;omega
theorem run_sliceBound{k:IntKind}{n:Int}{y:Nat}{c:BoundsCode}(S:0<=n)(E:n<=y):(Instr.sliceBound (.int k n) y c).run P w=.ok n.toNat w:=by simp[Instr.sliceBound,asIntOf,S,E]
theorem vV(h:Rel w0 M T γ st a w){len cap:Nat}(d:len<=cap){f D:Option Operand}{p:Prop}{x y:Nat}(J:o7 st len f D=some (p,x,y))(C:p)(sl:Bool):
 (Instr.sliceBounds sl len cap (f.map a.eval) (D.map a.eval) none).run P w=.ok (x,y,cap) w/\x<=y/\y<=len:=by
 unfold o7 at J;split at J
 .cases J
  simp_all [Instr.sliceBounds]
 .next l=>
  split at J
  .next n hn=>
   cases J;obtain⟨k,u,_⟩:=xZ h hn
   simp_all [Instr.sliceBounds,run_sliceBound]
  .cases J
 .next hh=>
  split at J
  .next n hn=>cases J;obtain⟨k,u,_⟩:=xZ h hn;refine⟨?_,lu,lu⟩;simp only[Instr.sliceBounds,aJ9,aJc,u,aIb,aIB,aIy];rw[run_sliceBound C.1 lu];simp
  .cases J
 .next l hh=>
  split at J
  .next n m hn hm=>
   obtain⟨k,u,_⟩:=xZ h hn;obtain⟨g,b,_⟩:=xZ h hm;simp only[Instr.sliceBounds,aJ9,u,b,aIb,aIB,aIy]
   grind [run_sliceBound,Result.andThen_ok]
  .cases J
theorem aqQ(s:Bytes)(x y:Nat):(⟨s.toArray⟩:ByteArray).extract x y=⟨((s.take y).drop x).toArray⟩:=by apply ByteArray.ext;simp[aKf]
theorem aBm{l:List r.den}{d:Option Addr}{n c:Nat}(h:aX X (.sl e r l fr) (.slice d n c)){x y:Nat}(g:x<=y)(B:y<=l.length):
 aX X (.sl e r ((l.take y).drop x) fr) (.slice (if c=x then d else d.map (·.add (x*r.len))) (y-x) (c-x)):=by
 have Y:((l.take y).drop x).length=y-x:=KW;refine⟨by exact aHw lu h.1,?_⟩;by_cases f:y=x
 · simp_all
 .rcases h.2 with⟨hl,_⟩|⟨b,off,cap,cs,t,fz,hv,hc,hS,hb,hx⟩
  · grind
  .simp only[Value.slice.injEq]at hv;refine .inr ⟨b,off+x*r.len,c-x,cs,t,fz,?_,lu,hS,hb,λi z D=>?_⟩
   · grind [addr_add]
   grind
def upd(γ:Nat->Value)(o:Nat)(v:Value):Nat->Value:=λp=>match Nat.beq p o with|true=>v|false=>γ p
theorem upd_same(γ:Nat->Value)(o:Nat)(v:Value):upd γ o v o=v:=by simp[upd,aII]
variable {p:Nat}
theorem Qv(h:p≠o):Nat.beq p o=false:=by
 grind [Nat.eq_of_beq_eq_true]
theorem sF(γ:Nat->Value)(v:Value)(h:p≠o):upd γ o v p=γ p:=by simp[upd,Qv h]
theorem add_same(st:St)(o:Nat)(x:aI):(st.add o x).ah o=some x:=by simp[St.add,aII]
theorem qG(st:St)(x:aI)(h:p≠o):(st.add o x).ah p=st.ah p:=by simp[St.add,Qv h]
variable {b:Nat}
theorem heap_alloc_old(w:World)(x:Obj)(h:b<w.heap.size):(w.alloc x).heap[b]? =w.heap[b]? :=by
 show(w.heap.push x)[b]? =_
 grind
theorem FC(w:World)(x:Obj):(w.alloc x).heap[w.heap.size]? =some x:=by
 show(w.heap.push x)[w.heap.size]? =_
 grind
theorem Rel.alloc1(h:Rel w0 M T γ st a w)(o:Nat)(x:aI)(k:st.ah o=none)(g:∀A,x=.var A->o%64≠48)(arr:Array Value)(t:TypeId)(v:Value)(K:blk v=some w.heap.size)
 (Z:(ak w0 T γ st w).le ⟨w.alloc (.cells arr t),w0.heap.size,T,upd γ o v,(st.add o x).ah⟩->cu ⟨w.alloc (.cells arr t),w0.heap.size,T,upd γ o v,(st.add o x).ah⟩ o x):
 Rel w0 M T (upd γ o v) (st.add o x) a (w.alloc (.cells arr t))/\(ak w0 T γ st w).le ⟨w.alloc (.cells arr t),w0.heap.size,T,upd γ o v,(st.add o x).ah⟩:=by
 have i:∀p y,st.ah p=some y->(st.add o x).ah p=some y:=by
  grind [qG]
 have d:∀p y,st.ah p=some y->upd γ o v p=γ p:=by
  grind [sF]
 have j:(w.alloc (.cells arr t)).heap.size=w.heap.size+1:=by
  simp_all
 have le:(ak w0 T γ st w).le ⟨w.alloc (.cells arr t),w0.heap.size,T,upd γ o v,(st.add o x).ah⟩:=by
  refine⟨aHv _,λb J=>⟨⟨?_,J.2.1,λp y C=>?_⟩,heap_alloc_old w _ J.1⟩,λp A C=>⟨⟨A,i p _ C⟩,d p _ C⟩,λp e r l fr C=>⟨⟨l,fr,i p _ C⟩,d p _ C⟩⟩
  .show b<(w.alloc (.cells arr t)).heap.size;have:b<w.heap.size:=J.1;omega
  .show blk (upd γ o v p)≠some b;by_cases e:p=o
   .rw[e,upd_same,K];have:b<w.heap.size:=J.1
    grind
   .rw[sF γ v e];have f:(st.add o x).ah p=some y:=C;rw[qG st x e]at f;exact J.2.2 p y f
 refine⟨(h.grown (γ':=upd γ o v) (w':=w.alloc (.cells arr t)) (st.add o x).ah i d rfl rfl rfl lu (λb J=>heap_alloc_old w _ J) ?_ ?_ ?_).1,le⟩
 · grind [add_same,upd_same,qG]
 .intro p A C hn;by_cases e:p=o
  .subst e;rw[add_same]at C;cases m:T.N p with
   |none=>rfl
   |some v'=>exact(g A (Option.some.inj C) (T.n48 p v' m)).elim
  grind [qG]
 grind [qG]
theorem Rel.arW(h:Rel w0 M T γ st a w)(o:Nat)(A:List Cell)(d:st.ah o=none)(f:o%64≠48)(arr:Array Value)(t:TypeId)(W:ai (ak w0 T γ st w) A arr.toList):
 Rel w0 M T (upd γ o (.pointer (some ⟨w.heap.size,0,none⟩))) (st.add o (.var A)) a (w.alloc (.cells arr t))/\
 bD (ak w0 T (upd γ o (.pointer (some ⟨w.heap.size,0,none⟩))) (st.add o (.var A)) (w.alloc (.cells arr t))) (.eG o 0) (.pointer (some ⟨w.heap.size,0,none⟩)):=by
 refine⟨(h.alloc1 o (.var A) d (λ_ _=>f) arr t _ rfl λle=>?_).1,w.heap.size,A,add_same _ _ _,upd_same _ _ _,rfl⟩;exact⟨w.heap.size,arr,t,upd_same _ _ _,FC w _,ai.mono le A _ W⟩
theorem Rel.aii(h:Rel w0 M T γ st a w)(o:Nat)(e:TypeId)(r:au)(l:List r.den)(fr:Bool)(j:st.ah o=none)(arr:Array Value)(cap:Nat)(Y:0<r.len)
 (d:l.length<=cap) (f:cap<=maxLen) (k:arr.size=cap*r.len)
 (W:∀i x,l[i]? =some x->aY w.heap ((ak w0 T γ st w).dA fr) r ((arr.toList.drop (i*r.len)).take r.len) x):
 Rel w0 M T (upd γ o (.slice (some ⟨w.heap.size,0,none⟩) l.length cap)) (st.add o (.arr e r l fr)) a (w.alloc (.cells arr e))/\
 bD (ak w0 T (upd γ o (.slice (some ⟨w.heap.size,0,none⟩) l.length cap)) (st.add o (.arr e r l fr)) (w.alloc (.cells arr e))) (.sv (.one (.ref o))) (.slice (some ⟨w.heap.size,0,none⟩) l.length cap):=by
 refine⟨(h.alloc1 o (.arr e r l fr) j (λ_ e=>Q7) arr e _ rfl λle=>?_).1,⟨e,r,l,fr,add_same _ _ _⟩,(upd_same _ _ _).symm,rfl⟩;refine⟨arr.toList.take (l.length*r.len),⟨?_,.inr ⟨w.heap.size,cap,arr,upd_same _ _ _,aHV _,FC w _,d,f,k,rfl⟩⟩,Y,?_,λi x D=>?_⟩
 · simp_all
 .intro b J _;have J:blk (upd γ o (.slice (some ⟨w.heap.size,0,none⟩) l.length cap) o)=some b:=J;rw[upd_same]at J;cases J;exact h.grow
 .have hlt:i<l.length:=(aHN.1 D).1;have g:i*r.len+r.len<=l.length*r.len:=by
   have:(i+1)*r.len<=l.length*r.len:=aHQ _ hlt
   grind
  rw[jb _ _ _ _ g];exact aY.mono (λb J=>le.dA fr b J) r _ x (W i x D)
theorem aij(X:V):∀(r:au),ai X r.zeros r.rO
 |.nil=>trivial
 |.cons c r=>by
  refine⟨?_,aij X r⟩;cases c with
  |int k=>exact⟨rfl,arQ⟩
  |bool=>rfl
  |str=>exact⟨rfl,aHV _⟩
  |sl e s=>rfl
theorem adi(h:Array Obj)(S:Nat->Prop):∀(r:au),aY h S r r.rO r.dflt
 |.nil=>rfl
 |.cons c r=>by
  refine⟨c.anR,r.rO,rfl,?_,adi h S r⟩;cases c with
  |int k=>exact⟨rfl,show k.min<=(0:Int)/\(0:Int)<=k.max from arQ⟩
  |bool=>rfl
  |str=>exact⟨rfl,aHV _⟩
  |sl e s=>exact⟨aHV _,.inl ⟨rfl,none,0,rfl⟩⟩
theorem TU(h:Rel w0 M T γ st a w)(fr:Bool):∀(r:au)(A:List Cell)(I:List Value)(x:r.den),ai (ak w0 T γ st w) A I->FB st r A=some x->A.flatMap Cell.refs=[]->(fr=true->A.all (Cell.fresh st)=true)->
 aY w.heap ((ak w0 T γ st w).dA fr) r I x
 |.nil,[],[],_,_,_,_,_=>rfl
 |.nil,_::_,_,_,_,hg,_,_=>by grind [FB]
 |.cons _ _,[],_,_,_,hg,_,_=>by grind [FB]
 |.cons c r,y::ys,v::I,x,⟨h1,h2⟩,hg,hn,hf=>by
  rw[FB]at hg;rw[aIr,aIc]at hn;split at hg
  .next p q hp hq=>
   cases hg;refine⟨v,I,rfl,?_,TU h fr r ys I q h2 hq hn.2 (λe=>ny)⟩;have B:fr=true->y.fresh st=true:=λe=>ny;cases c with
   |int k=>exact Cell.afv h (.int k) y v p h1 hp
   |bool=>exact Cell.afv h .bool y v p h1 hp
   |str=>exact Cell.afv h .str y v p h1 hp
   |sl e s=>
    cases y with
    |int k n=>grind [Cell.get]
    |bool b=>grind [Cell.get]
    |str s=>grind [Cell.get]
    |junk=>grind [Cell.get]
    |ref o=>grind [Cell.refs]
    |nil=>
     cases hp;have K:v=.slice none 0 0:=h1;subst K;exact⟨aHV _,.inl ⟨rfl,none,0,rfl⟩⟩
    |sl e' s' l fr'=>
     simp only[Cell.get]at hp;split at hp
     .next J=>have d:=au.eq_of_beq s' s J;subst d;cases hp;exact dw.mono (λb J=>⟨⟨J.1,λf=>J.2 (B f)⟩,rfl⟩) (.sl e s') v l h1
     .cases hp
  .cases hg
 |.cons _ _,_::_,[],_,H,_,_,_=>RS
 |.nil,[],_::_,_,H,_,_,_=>RS
def look:List (Nat×aI)->Nat->Option aI
 |[],_=>none
 |(o,x)::r,p=>match look r p with
  |some y=>some y
  |none=>match Nat.beq p o with|true=>some x|false=>none
theorem xw:∀(d:List (Nat×aI))(st:St)(p:Nat),(st.adds d).ah p=match look d p with|some y=>some y|none=>st.ah p
 |[],st,p=>rfl
 |(o,x)::r,st,p=>by
  rw[St.adds,xw r (st.add o x) p,look];cases Q:look r p with
  |some y=>rfl
  |none=>
   cases J:Nat.beq p o with
   |true=>simp[St.add,J]
   |false=>simp[St.add,J]
theorem MK:∀(d:List (Nat×aI))(st:St),(st.adds d).tmps=st.tmps/\(st.adds d).n=st.n
 |[],_=>⟨rfl,rfl⟩
 |(o,x)::r,st=>MK r (st.add o x)
theorem Bo:∀(d:List (Nat×aI))(p:Nat)(x:aI),look d p=some x->(p,x)∈d
 |[],_,_,h=>zH
 |(o,y)::r,p,x,h=>by
  rw[look]at h;cases Q:look r p with
  |some z=>rw[Q]at h;cases h;exact aHC _ (Bo r p x Q)
  |none=>
   rw[Q]at h;cases J:Nat.beq p o with
   |true=>rw[J]at h;cases h;rw[aHA J];exact aHJ
   |false=>rw[J]at h;cases h
theorem afy(st:St)(δ:List (Nat×aI)):st.adds δ={st with ah:=(st.adds δ).ah}:=by
 have h:=MK δ st;cases e:st.adds δ with
 |mk n t o=>grind
theorem NJ{δ:List (Nat×aI)}(h:kZ st δ=true){x:aI}(Q:look δ p=some x):st.ah p=none:=by
 have:=aHS.1 h _ (Bo δ p x Q)
 simp_all
structure lT where
 n:Nat
 ok:World->Prop
 low:∀w,ok w->n<=w.heap.size
 stable:∀w w',ok w->w.heap.size<=w'.heap.size->(∀b,b<n->w'.heap[b]? =w.heap[b]?)->ok w'
def qH(X:V):Arg->Value->Prop
 |.sv v,u=>eP X v u
 |.kp cs,u=>bD X (.dH cs 0) u
 |.fn f caps,u=>bD X (.fn f caps) u
 |.own _ _ _,_|.ptr _,_=>False
def qI(X:V):List Arg->List Value->Prop
 |[],[]=>True
 |c::cs,v::vs=>qH X c v/\qI X cs vs
 |_,_=>False
def fF(P:Program)(G:lT)(f:FuncId)(h:Dh):Prop:=
 ∀(args:List Arg)(p:Prop)(g:Out)(k:Nat)(S:Nat->Prop)(I:Array Value)(w:World),h args=some (p,g)->p->G.ok w->
  qI ⟨w,w.heap.size,S,λ_=>undef,λ_=>none⟩ args I.toList->
  Calls P f I w λe w'=>∃v d,e=.returned v/\w'.os=w.os/\w'.tape=w.tape/\w'.output=w.output/\w.heap.size<=w'.heap.size/\
   (∀b,b<w.heap.size->w'.heap[b]? =w.heap[b]?)/\
   bD ⟨w',w.heap.size,S,d,look (g.take k).2⟩ (g.take k).1 v/\
   (∀o x,look (g.take k).2 o=some x->cu ⟨w',w.heap.size,S,d,look (g.take k).2⟩ o x/\∀b,blk (d o)=some b->w.heap.size<=b/\b<w'.heap.size)/\
   (∀o x q y b,look (g.take k).2 o=some x->look (g.take k).2 q=some y->o≠q->blk (d o)=some b->blk (d q)≠some b)
def gQ(args:List Arg)(p:Nat):Option aI:=
 match args[p / 64]? with
 |some (.own e r l)=>match Nat.beq (p%64) 49 with|true=>some (.arr e r l false)|false=>none
 |some (.ptr cs)=>match Nat.beq (p%64) 48 with|true=>some (.var cs)|false=>none
 |_=>none
def TV(X:V)(i:Nat):Arg->Value->Prop
 |.own _ _ _,v=>aX X (.ref (i*64+49)) v
 |.ptr _,v=>bD X (.eG (i*64+48) 0) v
 |a,v=>qH X a v
def EP(X:V):Nat->List Arg->List Value->Prop
 |_,[],[]=>True
 |i,c::cs,v::vs=>TV X i c v/\EP X (i+1) cs vs
 |_,_,_=>False
def ER(E:Nat->Option aI)(γ:Nat->Value)(b:Nat):Prop:=∃o x,E o=some x/\blk (γ o)=some b
def wo(S:Nat->Prop)(args:List Arg)(d:List Eff)(γ:Nat->Value)(b:Nat):Prop:=
 (S b\/ER (gQ args) γ b)/\∀q y,rM d q=some y->blk (γ q)≠some b
def VO(S:Nat->Prop)(args:List Arg)(γ:Nat->Value)(w:World)(k:Nat)(out:Out)(d:List Eff)(e:Ending)(w':World):Prop:=
 ∃v γ',e=.returned v/\w'.os=w.os/\w'.tape=w.tape/\w'.output=w.output/\w.heap.size<=w'.heap.size/\
  (∀b,b<w.heap.size->¬ER (gQ args) γ b->w'.heap[b]? =w.heap[b]?)/\
  bD ⟨w',w.heap.size,wo S args d γ,γ',look (out.take k).2⟩ (out.take k).1 v/\
  (∀o x,look (out.take k).2 o=some x->cu ⟨w',w.heap.size,wo S args d γ,γ',look (out.take k).2⟩ o x/\
    ∀b,blk (γ' o)=some b->b<w'.heap.size/\(w.heap.size<=b\/ER (gQ args) γ b)/\∀q y,rM d q=some y->blk (γ q)≠some b)/\
  (∀o x q y b,look (out.take k).2 o=some x->look (out.take k).2 q=some y->o≠q->blk (γ' o)=some b->blk (γ' q)≠some b)/\
  (∀o x,rM d o=some x->γ' o=γ o/\cu ⟨w',w.heap.size,wo S args d γ,γ',look (out.take k).2⟩ o x)
def rP(P:Program)(G:lT)(f:FuncId)(g:TA):Prop:=
 ∀(args:List Arg)(p:Prop)(d:Xc),g args=some (p,d)->p->(∃t,d.R t)/\
  ∀(k:Nat)(S:Nat->Prop)(γ:Nat->Value)(I:Array Value)(w:World),G.ok w->EP ⟨w,w.heap.size,S,γ,gQ args⟩ 0 args I.toList->
   (∀o x,gQ args o=some x->cu ⟨w,w.heap.size,S,γ,gQ args⟩ o x/\∀b,blk (γ o)=some b->b<w.heap.size/\G.n<=b)->
   (∀o x q y b,gQ args o=some x->gQ args q=some y->o≠q->blk (γ o)=some b->blk (γ q)≠some b)->
   (∀t,d.R t->∀o x,look ((d.out t).take k).2 o=some x->rM (d.aV t) o=none)->
   Calls P f I w λe w'=>∃t,d.R t/\VO S args γ w k (d.out t) (d.aV t) e w'
theorem aAF{S':Nat->Prop}(h:X.dA true b):({X with S:=S'}:V).dA true b:=
 ⟨⟨h.1.1,λd=>by have E:=h.2 rfl;grind,h.1.2.2⟩,h.2⟩
theorem aX.newS(S':Nat->Prop):∀(c:Cell)(v:Value),c.made=true\/c.isRef=true->aX X c v->aX {X with S:=S'} c v
 |.int _ _,_,_,H|.bool _,_,_,H|.str _,_,_,H|.nil,_,_,H|.junk,_,_,H=>H
 |.sl e r l fr,v,h,H=>by
  have d:fr=true:=by rcases h with h|h;exact h;cases h
  subst d;exact dw.mono (λb J=>⟨aAF J,rfl⟩) (.sl e r) v l H
 |.ref o,v,_,H=>H
theorem ai.newS{X:V}(S':Nat->Prop):∀(A:List Cell)(I:List Value),(∀c∈A,c.made=true\/c.isRef=true)->ai X A I->ai {X with S:=S'} A I
 |[],[],_,H=>H
 |c::A,v::I,h,⟨h1,h2⟩=>⟨aX.newS S' c v (h c aHJ) h1,ai.newS S' A I (λd f=>h d (aHC _ f)) h2⟩
 |[],_::_,_,H|_::_,[],_,H=>RS
theorem eP.newS(S':Nat->Prop):∀(c:SV)(v:Value),(∀x∈c.cells,x.made=true\/x.isRef=true)->eP X c v->eP {X with S:=S'} c v
 |.one c,v,h,H=>aX.newS S' c v (h c aHJ) H
 |.agg cs,_,h,⟨vs,hv,H⟩=>⟨vs,hv,ai.newS S' cs _ h H⟩
theorem eX.newS{X:V}(S':Nat->Prop):∀(A:List SV)(I:List Value),(∀c∈A,∀x∈c.cells,x.made=true\/x.isRef=true)->eX X A I->eX {X with S:=S'} A I
 |[],[],_,H=>H
 |c::A,v::I,h,⟨h1,h2⟩=>⟨eP.newS S' c v (h c aHJ) h1,eX.newS S' A I (λd f=>h d (aHC _ f)) h2⟩
 |[],_::_,_,H|_::_,[],_,H=>RS
theorem cu.newS(S':Nat->Prop)(o:Nat){l:List r.den}(h:cu X o (.arr e r l true)):cu {X with S:=S'} o (.arr e r l true):=by obtain⟨z,E,O,U,j⟩:=h;exact⟨z,E,O,U,λi x D=>aY.mono (λb J=>⟨aAF J,rfl⟩) r _ x (j i x D)⟩
theorem Yd:∀(A:List gU)(k:Nat),A.all gU.made=true->
 (∀c∈(nR k A).1,c.made=true\/c.isRef=true)/\(∀y∈(nR k A).2,∃e r l,y.2=.arr e r l true)
 |[],_,_=>⟨(λ_ h=>zH),(λ_ h=>zH)⟩
 |x::A,k,h=>by
  simp only[aIw,aHy]at h;have f:=Yd A (k+1) h.2;refine⟨λc L=>?_,λy B=>?_⟩
  .rcases aHH.1 L with rfl|L
   .cases x with
    |plain c=>exact .inl h.1
    |own e r l fr=>exact .inr rfl
   grind
  .rcases aH3.1 B with B|B
   .cases x with
    |plain c=>cases B
    |own e r l fr=>
     have d:fr=true:=h.1
     grind [gU.take]
   grind
theorem arX(k:Nat)(x:Bool×List gU)(h:x.2.all gU.made=true):
 (∀c∈(zM k x).1.cells,c.made=true\/c.isRef=true)/\(∀y∈(zM k x).2,∃e r l,y.2=.arr e r l true):=by
 have:=Yd x.2 k h;unfold zM;split
 .next e1 e2=>rw[e2]at this;exact this
 .next e1 e2=>rw[e2]at this;exact this
 .next e1 e2=>rw[e2]at this;exact⟨(λc L=>by rcases aHH.1 L with rfl|L;exact .inl rfl;cases L),this.2⟩
theorem abH:∀(z:List (Bool×List gU))(k:Nat),(z.all λx=>x.2.all gU.made)=true->
 (∀v∈(jJ k z).1,∀c∈v.cells,c.made=true\/c.isRef=true)/\(∀y∈(jJ k z).2,∃e r l,y.2=.arr e r l true)
 |[],_,_=>⟨(λ_ h=>zH),(λ_ h=>zH)⟩
 |x::z,k,h=>by
  simp only[aIw,aHy]at h;have E:=arX k x h.1;have d:=abH z (k+x.2.length) h.2
  grind [jJ]
theorem ai.made(S':Nat->Prop)(A:List Cell)(I:List Value)(l:A.all Cell.made=true)(H:ai X A I):ai {X with S:=S'} A I:=
 ai.newS S' A I (λc L=>.inl (aHS.1 l c L)) H
def afz:aI->Prop
 |.arr _ _ _ fr=>fr=true
 |.var cs=>cs.all Cell.made=true
theorem cu.made(S':Nat->Prop)(o:Nat):∀(x:aI),afz x->cu X o x->cu {X with S:=S'} o x
 |.arr e r l fr,d,h=>by
  have d:fr=true:=d
  grind [cu.newS]
 |.var cs,d,⟨b,arr,t,h1,h2,h3⟩=>⟨b,arr,t,h1,h2,ai.made S' cs _ d h3⟩
theorem Out.adk(o:Out)(k:Nat)(h:o.made=true)(X:V)(S':Nat->Prop)(v:Value):
 (bD X (o.take k).1 v->bD {X with S:=S'} (o.take k).1 v)/\(∀y∈(o.take k).2,afz y.2):=by
 unfold Out.made at h;unfold Out.take;split at h
 .next cs K=>exact⟨id,λy B=>by rw[aH9.1 B];exact h⟩
 .next K=>
  have f:=abH o.awe k h;have d:∀y∈(jJ k o.awe).2,afz y.2:=λy B=>by obtain⟨e,r,l,g⟩:=f.2 y B;rw[g];exact rfl
  split
  .next e1 e2=>rw[e2]at f d;exact⟨λH=>eP.newS S' _ v (f.1 _ aHJ) H,d⟩
  .next e1 e2=>rw[e2]at f d;exact⟨λ⟨I,K,H⟩=>⟨I,K,eX.newS S' _ _ f.1 H⟩,d⟩
variable {γ0:Nat->Value}{S:Nat->Prop}
theorem Cell.Ie(h:Rel w0 M T γ st a w)(f:∀b,(ak w0 T γ st w).foot b->S b)(g:∀o e r l fr b,st.ah o=some (.arr e r l fr)->blk (γ o)=some b->S b):∀(c:Cell)(v:Value),aX (ak w0 T γ st w) c v->aX ⟨w,w.heap.size,S,γ0,λ_=>none⟩ (c.view st) v
 |.int _ _,_,H|.bool _,_,H|.str _,_,H|.nil,_,H|.junk,_,H=>H
 |.sl e r l fr,v,H=>dw.mono (λb J=>⟨⟨⟨J.1.1,λ_=>f b J.1,(λ_ _ F=>by cases F)⟩,(λe=>Q7)⟩,rfl⟩) (.sl e r) v l H
 |.ref o,v,⟨⟨e,r,l,fr,hx⟩,hv,_⟩=>by
  have d:st.ah o=some (.arr e r l fr):=hx;simp only[Cell.view,d];rw[hv];exact cu.reads (X:=ak w0 T γ st w) (e:=e) (l:=l) (fr:=fr) (h.ah o _ d) (λb J=>⟨⟨J.1.1,λ_=>f b J.1,(λ_ _ F=>by cases F)⟩,(λe=>Q7)⟩)
   (λb J=>⟨⟨(h.lt o _ b d J).1,λ_=>g o e r l fr b d J,(λ_ _ F=>by cases F)⟩,(λe=>Q7)⟩)
theorem Cells.Ie(h:Rel w0 M T γ st a w){γ0:Nat->Value}{S:Nat->Prop}(d:∀b,(ak w0 T γ st w).foot b->S b)(f:∀o e r l fr b,st.ah o=some (.arr e r l fr)->blk (γ o)=some b->S b):∀(A:List Cell)(I:List Value),ai (ak w0 T γ st w) A I->ai ⟨w,w.heap.size,S,γ0,λ_=>none⟩ (A.map (Cell.view st)) I
 |[],[],H=>H
 |c::A,v::I,⟨h1,h2⟩=>⟨Cell.Ie h d f c v h1,Cells.Ie h d f A I h2⟩
 |[],_::_,H|_::_,[],H=>RS
theorem SV.Ie(h:Rel w0 M T γ st a w)(d:∀b,(ak w0 T γ st w).foot b->S b)(f:∀o e r l fr b,st.ah o=some (.arr e r l fr)->blk (γ o)=some b->S b):∀(c:SV)(v:Value),eP (ak w0 T γ st w) c v->eP ⟨w,w.heap.size,S,γ0,λ_=>none⟩ (c.view st) v
 |.one c,v,H=>Cell.Ie h d f c v H
 |.agg cs,_,⟨vs,hv,H⟩=>⟨vs,hv,Cells.Ie h d f cs _ H⟩
variable {cs:List Cell}
theorem apH(h:Rel w0 M T γ st a w)(d:∀b,(ak w0 T γ st w).foot b->S b)(f:∀o e r l fr b,st.ah o=some (.arr e r l fr)->blk (γ o)=some b->S b)(H:ja (ak w0 T γ st w) cs b):ja ⟨w,w.heap.size,S,γ0,λ_=>none⟩ (cs.map (Cell.view st)) b:=by obtain⟨arr,t,g,J,i,W⟩:=H;exact⟨arr,t,g,⟨J.1,λ_=>d b J,(λ_ _ F=>by cases F)⟩,i,Cells.Ie h d f cs _ W⟩
theorem apI(h:Rel w0 M T γ st a w){γ0:Nat->Value}{S:Nat->Prop}(d:∀b,(ak w0 T γ st w).foot b->S b)(f:∀o e r l fr b,st.ah o=some (.arr e r l fr)->blk (γ o)=some b->S b):∀(l:List (List Cell))(s:List Value),gB (ak w0 T γ st w) l s->gB ⟨w,w.heap.size,S,γ0,λ_=>none⟩ (l.map (List.map (Cell.view st))) s
 |[],[],H=>H
 |cs::l,u::s,⟨⟨b,hu,hk⟩,h2⟩=>⟨⟨b,hu,apH h d f hk⟩,apI h d f l s h2⟩
 |[],_::_,H|_::_,[],H=>RS
def qJ(X:V):List AV->List Value->Prop
 |[],[]=>True
 |x::xs,v::vs=>bD X x v/\qJ X xs vs
 |_,_=>False
theorem NK(h:Rel w0 M T γ st a w){γ0:Nat->Value}{S:Nat->Prop}(d:∀b,(ak w0 T γ st w).foot b->S b)(g:∀o e r l fr b,st.ah o=some (.arr e r l fr)->blk (γ o)=some b->S b):∀(z:List AV)(s:List Value)(I:List Arg),rJ st z=some I->qJ (ak w0 T γ st w) z s->qI ⟨w,w.heap.size,S,γ0,λ_=>none⟩ I s
 |[],[],I,hv,_=>by cases hv;trivial
 |[],_::_,_,_,H=>H.elim
 |_::_,[],_,_,H=>H.elim
 |x::z,u::s,I,hv,⟨hx,hxs⟩=>by
  unfold rJ at hv;split at hv
  .next v ws hu=>
   split at hv
   .cases hv;exact⟨SV.Ie h d g v _ hx,NK h d g z s ws hu hxs⟩
   .cases hv
  .next cs off ws hu=>
   split at hv
   .next hok=>cases hv;rw[aHy]at hok;have j:=aHA hok.1;subst j;obtain⟨b,J,i⟩:=hx;exact⟨⟨b,J,apH h d g i⟩,NK h d g z s ws hu hxs⟩
   .cases hv
  .next f caps ws hu=>
   split at hv
   .cases hv;obtain⟨k,J,i⟩:=hx;exact⟨⟨k,J,apI h d g caps _ i⟩,NK h d g z s ws hu hxs⟩
   .cases hv
  .cases hv
theorem Cell.xA(d:Rel w0 M T γ st a w):∀(c:Cell)(v:Value),c.refs=[]->aX (ak w0 T γ st w) c v->aX ⟨w,w.heap.size,(ak w0 T γ st w).foot,γ0,λ_=>none⟩ (c.view st) v
 |.int _ _,_,_,H|.bool _,_,_,H|.str _,_,_,H|.nil,_,_,H|.junk,_,_,H=>H
 |.sl e r l fr,v,_,H=>dw.mono (λb J=>⟨⟨⟨J.1.1,λ_=>J.1,(λ_ _ F=>by cases F)⟩,(λe=>Q7)⟩,rfl⟩) (.sl e r) v l H
 |.ref o,v,hr,_=>by cases hr
theorem Cells.xA(h:Rel w0 M T γ st a w){γ0:Nat->Value}:∀(cs:List Cell)(I:List Value),cs.flatMap Cell.refs=[]->ai (ak w0 T γ st w) cs I->ai ⟨w,w.heap.size,(ak w0 T γ st w).foot,γ0,λ_=>none⟩ (cs.map (Cell.view st)) I
 |[],[],_,H=>H
 |c::cs,v::I,hr,⟨h1,h2⟩=>by
  rw[aIr,aIc]at hr;exact⟨Cell.xA h c v hr.1 h1,Cells.xA h cs I hr.2 h2⟩
 |[],_::_,_,H|_::_,[],_,H=>RS
theorem SV.xA(h:Rel w0 M T γ st a w):∀(c:SV)(v:Value),c.cells.flatMap Cell.refs=[]->eP (ak w0 T γ st w) c v->eP ⟨w,w.heap.size,(ak w0 T γ st w).foot,γ0,λ_=>none⟩ (c.view st) v
 |.one c,v,hr,H=>Cell.xA h c v (by grind [SV.cells]) H
 |.agg cs,_,hr,⟨vs,hv,H⟩=>⟨vs,hv,Cells.xA h cs _ hr H⟩
theorem apJ(h:Rel w0 M T γ st a w)(d:cs.flatMap Cell.refs=[])(H:ja (ak w0 T γ st w) cs b):ja ⟨w,w.heap.size,(ak w0 T γ st w).foot,γ0,λ_=>none⟩ (cs.map (Cell.view st)) b:=by obtain⟨arr,t,f,J,g,W⟩:=H;exact⟨arr,t,f,⟨J.1,λ_=>J,(λ_ _ F=>by cases F)⟩,g,Cells.xA h cs _ d W⟩
theorem apK(h:Rel w0 M T γ st a w){γ0:Nat->Value}:∀(l:List (List Cell))(s:List Value),(l.flatMap λcs=>cs.flatMap Cell.refs)=[]->gB (ak w0 T γ st w) l s->gB ⟨w,w.heap.size,(ak w0 T γ st w).foot,γ0,λ_=>none⟩ (l.map (List.map (Cell.view st))) s
 |[],[],_,H=>H
 |cs::l,u::s,hr,⟨⟨b,hu,hk⟩,h2⟩=>by
  rw[aIr,aIc]at hr;exact⟨⟨b,hu,apJ h hr.1 hk⟩,apK h l s hr.2 h2⟩
 |[],_::_,_,H|_::_,[],_,H=>RS
theorem FY(h:Rel w0 M T γ st a w){γ0:Nat->Value}:∀(z:List AV)(s:List Value)(I:List Arg),rJ st z=some I->zN z=[]->qJ (ak w0 T γ st w) z s->qI ⟨w,w.heap.size,(ak w0 T γ st w).foot,γ0,λ_=>none⟩ I s
 |[],[],I,hv,_,_=>by cases hv;trivial
 |[],_::_,_,_,_,H=>H.elim
 |_::_,[],_,_,_,H=>H.elim
 |x::z,u::s,I,hv,hr,⟨hx,hxs⟩=>by
  unfold rJ at hv;rw[zN,aIc]at hr;split at hv
  .next v ws hu=>
   split at hv
   .cases hv;exact⟨SV.xA h v _ hr.1 hx,FY h z s ws hu hr.2 hxs⟩
   .cases hv
  .next cs off ws hu=>
   split at hv
   .next hok=>cases hv;rw[aHy]at hok;have g:=aHA hok.1;subst g;obtain⟨b,J,d⟩:=hx;exact⟨⟨b,J,apJ h hr.1 d⟩,FY h z s ws hu hr.2 hxs⟩
   .cases hv
  .next f caps ws hu=>
   split at hv
   .cases hv;obtain⟨i,J,d⟩:=hx;exact⟨⟨i,J,apK h caps _ hr.1 d⟩,FY h z s ws hu hr.2 hxs⟩
   .cases hv
  .cases hv
theorem NM(h:Rel w0 M T γ st a w){d:List (List Cell)}{s:Array Value}(g:gB (ak w0 T γ st w) d s.toList):∀(z:List Operand),
 qJ (ak w0 T γ st w) (handed st z d) (z.map a.eval++s.toList):=by
 have f:∀(d:List (List Cell))(s:List Value),gB (ak w0 T γ st w) d s->qJ (ak w0 T γ st w) (d.map λcs=>.dH cs 0) s:=by
  intro d
  induction d with
  |nil=>intro s H;cases s with|nil=>trivial|cons _ _=>cases H
  |cons cs l ih=>
   intro s H;cases s with
   |nil=>cases H
   |cons u s=>exact⟨H.1,ih s H.2⟩
 intro z
 induction z with
 |nil=>exact f d _ g
 |cons x z ih=>exact⟨jK h x,ih⟩
theorem qJ.freeze(S:Nat->Bool)(h:Rel w0 M T γ st a w):∀(z:List AV)(s:List Value),qJ (ak w0 T γ st w) z s->qJ (ak w0 T γ (st.freeze S) w) (z.map (AV.freeze st S)) s
 |[],[],H=>H
 |x::z,u::s,⟨h1,h2⟩=>⟨bD.freeze S h x u h1,qJ.freeze S h z s h2⟩
 |[],_::_,H|_::_,[],H=>RS
theorem abI:∀(cs:List gU)(k:Nat),∀y∈(nR k cs).2,∃e r l fr,y.2=.arr e r l fr
 |[],_,_,B=>by cases B
 |x::cs,k,y,B=>by
  rcases aH3.1 B with B|B
  .cases x with
   |plain c=>cases B
   |own e r l fr=>
    grind [gU.take]
  .exact abI cs (k+1) y B
theorem auz(k:Nat)(x:Bool×List gU):∀y∈(zM k x).2,∃e r l fr,y.2=.arr e r l fr:=by
 have:=abI x.2 k;unfold zM;split
 · grind
 · grind
 grind
theorem adl:∀(z:List (Bool×List gU))(k:Nat),∀y∈(jJ k z).2,∃e r l fr,y.2=.arr e r l fr
 |[],_,_,B=>by cases B
 |x::z,k,y,B=>by
  rcases aH3.1 B with B|B
  .exact auz k x y B
  .exact adl z _ y B
theorem Out.arY(o:Out)(k:Nat)(u:k%64=1)(Q:look (o.take k).2 p=some (.var cs)):p%64=0:=by
 have d:=Bo _ p _ Q
 grind [Out.take,adl]
theorem Rel.called(h:Rel w0 M T γ st a w){out:Out}{k:Nat}(u:k%64=1){d:Nat->Value}(hf:kZ st (out.take k).2=true)
 (R:w'.os=w.os) (I:w'.tape=w.tape) (L:w'.output=w.output) (E:w.heap.size<=w'.heap.size) (D:∀b,b<w.heap.size->w'.heap[b]? =w.heap[b]?)
 (Y:out.made=true\/S=(ak w0 T γ st w).foot)
 (W:bD ⟨w',w.heap.size,S,d,look (out.take k).2⟩ (out.take k).1 v)
 (F:∀o x,look (out.take k).2 o=some x->cu ⟨w',w.heap.size,S,d,look (out.take k).2⟩ o x/\∀b,blk (d o)=some b->w.heap.size<=b/\b<w'.heap.size)
 (hsep:∀o x q y b,look (out.take k).2 o=some x->look (out.take k).2 q=some y->o≠q->blk (d o)=some b->blk (d q)≠some b):
 ∃γ',Rel w0 M T γ' (st.adds (out.take k).2) a w'/\bD (ak w0 T γ' (st.adds (out.take k).2) w') (out.take k).1 v:=by
 let f:=(out.take k).2
 let γ':Nat->Value:=λp=>match look f p with|some _=>d p|none=>γ p
 have ES:∀p,(st.adds f).ah p=match look f p with|some y=>some y|none=>st.ah p:=xw f st
 have m:∀p x,look f p=some x->γ' p=d p:=λp x Q=>ny;have B:∀p x,st.ah p=some x->γ' p=γ p:=by
  grind [NJ]
 have hA:∀p x,st.ah p=some x->(st.adds f).ah p=some x:=by
  grind [NJ]
 have hN:∀p x,(st.adds f).ah p=some x->st.ah p=none->look f p=some x:=by
  grind
 have le:∀g,(g=λ_=>False)\/g=(ak w0 T γ st w).foot->V.le ⟨w',w.heap.size,g,d,look f⟩ ⟨w',w0.heap.size,T,γ',(st.adds f).ah⟩:=by
  intro g n;have A:∀o x,look f o=some x->(st.adds f).ah o=some x:=by
   grind
  refine⟨h.grow,λb J=>⟨⟨J.1,λs=>?_,λo x Z=>?_⟩,rfl⟩,λo cs Q=>⟨⟨cs,A o _ Q⟩,m o _ Q⟩,λo e r l fr Q=>⟨⟨l,fr,A o _ Q⟩,m o _ Q⟩⟩
  .have j:=J.2.1 (show b<w.heap.size from aHR s h.grow);rcases n with rfl|rfl
   .exact j.elim
   .exact j.2.1 s
  .show blk (γ' o)≠some b;cases Q:look f o with
   |some y=>rw[m o y Q];exact J.2.2 o y Q
   |none=>
    have z:(st.adds f).ah o=some x:=Z;rw[ES,Q]at z;rw[B o x z];intro K;have s:=(h.lt o x b z K).1;have j:=J.2.1 s;rcases n with rfl|rfl
    .exact j
    .exact j.2.2 o x z K
 have N:∃g,((g=λ_=>False)\/g=(ak w0 T γ st w).foot)/\bD ⟨w',w.heap.size,g,d,look f⟩ (out.take k).1 v/\∀o x,look f o=some x->cu ⟨w',w.heap.size,g,d,look f⟩ o x:=by
  rcases Y with hm|Y
  .have hmk:=out.adk k hm;refine⟨λ_=>False,.inl rfl,(hmk ⟨w',w.heap.size,S,d,look f⟩ (λ_=>False) v).1 W,λo x Q=>?_⟩;exact cu.made (λ_=>False) o x ((hmk ⟨w',w.heap.size,S,d,look f⟩ (λ_=>False) v).2 _ (Bo _ _ _ Q)) (F o _ Q).1
  grind
 obtain⟨g,n,U,ho'⟩:=N;have O:=le g n;refine⟨γ',?_,bD.mono O _ _ U⟩;rw[afy st f];refine(h.grown (γ':=γ') (w':=w') (st.adds f).ah hA B R I L E D (λp x C H=>?_) (λp cs C H=>by
  have h0:=out.arY k u (hN p _ C H);cases hT:T.N p with
  |none=>rfl
  |some v'=>have:=T.n48 p v' hT;omega) (λp x q y b C H i hm hpq J=>?_)).1
 · grind [cu.mono]
 grind
end Go.Fw
namespace Go.Fw
open Go
variable {P:Program} {w0:World} {M:Nat->Prop} {T:Ext} {γ γ':Nat->Value} {st:St} {a:Act} {w w':World} {Θ:jY} {Γ:kY}
def ji(P:Program)(f:FuncId):Prop:=∀(args:Array Value)(w:World),(callFunc f args).run P w=.ok (.enter f args) w
def Yields(P:Program)(w0:World)(M:Nat->Prop)(T:Ext)(st:St)(a:Act)(w:World)(s:Sem Value)(v:AV)(δ:List (Nat×aI)):Prop:=
 ∃u w' γ',s.run P w=.ok u w'/\Rel w0 M T γ' (st.adds δ) a w'/\bD (ak w0 T γ' (st.adds δ) w') v u
variable {v:AV}
theorem Yields.same(h:Rel w0 M T γ st a w){s:Sem Value}{u:Value}(W:s.run P w=.ok u w)(K:bD (ak w0 T γ st w) v u):Yields P w0 M T st a w s v []:=⟨u,w,γ,W,h,K⟩
variable {d:Nat}{t:TypeId}{x:Operand}{p:Prop}{δ:List (Nat×aI)}
theorem auA(f:∀t g,Θ t=some g->nY P t g)(h:Rel w0 M T γ st a w)
 (L:calm Θ Γ d st (.load t x)=some (p,v,δ)) (C:p):Yields P w0 M T st a w (Instr.loadAt t (a.eval x)) v δ:=by
 simp only[calm]at L;split at L
 .next g o off ht he=>
  split at L
  .next cs ho=>
   split at L
   .next s hs=>cases L;obtain⟨u,j,W⟩:=VN f h ht (x:=x) (v:=s) (.inl ⟨o,off,cs,he,ho,hs⟩);exact .same h j W
   .cases L
  .cases L
 .next g o i off ht he=>
  split at L
  .next e r l fr ho=>
   split at L
   .next s hs=>cases L;obtain⟨u,j,W⟩:=VN f h ht (x:=x) (v:=s) (.inr (.inl ⟨o,i,off,e,r,l,fr,he,ho,C,hs⟩));exact .same h j W
   .cases L
  .cases L
 .next g r y off fr ht he=>
  split at L
  .next s hs=>cases L;obtain⟨u,j,W⟩:=VN f h ht (x:=x) (v:=s) (.inr (.inr ⟨r,y,off,fr,he,hs⟩));exact .same h j W
  .cases L
 .next g cs off ht he=>
  split at L
  .next s hs=>
   cases L;have Z:=jK h x;rw[he]at Z;obtain⟨b,K,arr,z,n,q,J,W⟩:=Z;have k:ai (ak w0 T γ st w) cs ((arr.toList.drop 0).take arr.size):=by grind [List.take_of_length_le]
   obtain⟨u,j,m⟩:=P9 (P:=P) (f t g ht) (ak w0 T γ st w) J k hs;refine .same h ?_ m
   grind
  .cases L
 .cases L
theorem aik(g:∀t z,Θ t=some z->nY P t z)(h:Rel w0 M T γ st a w){s:TypeId}{f:Nat}
 (L:calm Θ Γ d st (.fieldAddr s x f)=some (p,v,δ)):Yields P w0 M T st a w (Instr.fieldAt s (a.eval x) f) v δ:=by
 have Z:=jK h x;simp only[calm]at L;split at L
 .next z hs=>
  split at L
  .next fs hk=>
   split at L
   .next k t hf=>
    split at L
    .next te ht=>
     split at L
     .cases L
     .next o off he hne=>cases L;rw[he]at Z;obtain⟨b,A,F,j,K⟩:=Z;refine .same h (by rw[K];exact Qa g hs hk hf ht hne b off) ⟨b,A,F,j,rfl⟩
     .next o i off he hne=>
      cases L;rw[he]at Z;obtain⟨b,n,m,e,r,l,B,F,j,K⟩:=Z;refine .same h ahZ ⟨b,n,m,e,r,l,B,F,j,?_⟩
      grind
     .next r y off B he hne=>
      cases L;rw[he]at Z;obtain⟨b,base,A,D,C,K,q,J,W⟩:=Z;refine .same h ahZ ⟨b,base,A,D,C,?_,q,J,W⟩
      grind
     .next A off he hne=>cases L;rw[he]at Z;obtain⟨b,K,u⟩:=Z;exact .same h ahZ ⟨b,rfl,u⟩
     .cases L
    .cases L
   .cases L
  .cases L
 .cases L
theorem ail(f:∀t q,Θ t=some q->nY P t q)(h:Rel w0 M T γ st a w){A:Operand}
 (L:calm Θ Γ d st (.indexAddr t x A)=some (p,v,δ)) (C:p):Yields P w0 M T st a w (Instr.indexAt t (a.eval x) (a.eval A)) v δ:=by
 have Z:=jK h x;simp only[calm]at L;split at L
 .next q n ht hn=>
  obtain⟨k,u,_⟩:=xZ h hn;split at L
  .next e hkind=>
   split at L
   .next te e' r l fr he hev=>
    split at L
    .next hbeq=>
     cases L;have W:=au.eq_of_beq _ _ hbeq;rw[hev]at Z;obtain⟨b,m,y,K,B⟩:=azl (X:=ak w0 T γ st w) (e:=e') Z (i:=n.toNat) lu;refine .same h (by rw[K,u];exact run_indexAt f ht hkind he b m _ y k n C.1 C.2) ?_
     grind
    .cases L
   .next te o he hev=>
    split at L
    .next e' r l fr ho=>
     split at L
     .next hbeq=>
      cases L;have W:=au.eq_of_beq _ _ hbeq;rw[hev]at Z;obtain⟨_,K,_⟩:=Z;obtain⟨z,⟨_,O⟩,s,_⟩:=h.ah o _ ho;rcases O with⟨_,j⟩|⟨g,y,R,U,_⟩
      .omega
      .have h3':γ o=.slice (some ⟨g,0,none⟩) l.length y:=U;refine .same h (by rw[K,u];show(Instr.indexAt t (γ o) _).run P w=_;rw[h3'];exact run_indexAt f ht hkind he g 0 _ y k n C.1 C.2) ⟨g,l.length,y,e',r,l,fr,ho,h3',?_⟩
       grind
     .cases L
    .cases L
   · grind
   .cases L
  .cases L
 .cases L
variable {ti:TI}
theorem aqR(f:nY P t ti)(u:ti.kind=.str)(s:Bytes)(k:IntKind)(n:Int)(S:0<=n)(E:n<s.length):
 (Instr.index t (.string ⟨s.toArray⟩) (.int k n)).run P w=.ok (.int .u8 ((s.getD n.toNat 0).toNat:Int)) w:=by
 have h:=f.und;have b:n.toNat<s.length:=lu;have g:(⟨s.toArray⟩:ByteArray)[n.toNat]? =some (s.getD n.toNat 0):=by
  have e:n.toNat<(⟨s.toArray⟩:ByteArray).size:=by grind [size_bytes]
  rw[getElem?_pos (⟨s.toArray⟩:ByteArray) n.toNat e];rw[aHI,aHK b];rfl
 simp_all [Instr.index,asIntOf,aHZ]
theorem arZ(e:∀t ti,Θ t=some ti->nY P t ti)(h:Rel w0 M T γ st a w){b:Operand}
 (L:calm Θ Γ d st (.index t x b)=some (p,v,δ)) (C:p):Yields P w0 M T st a w (Instr.index t (a.eval x) (a.eval b)) v δ:=by
 simp only[calm]at L;split at L
 .next ti n s ht hn hev=>
  obtain⟨k,u,_⟩:=xZ h hn;split at L
  .next hkind=>cases L;obtain⟨X,_⟩:a.eval x=.string ⟨s.toArray⟩/\s.length<=maxLen:=qF h hev;refine .same h (by grind [aqR]) ⟨rfl,?_⟩;have:(s.getD n.toNat 0).toNat<256:=UInt8.toNat_lt _;have f:IntKind.u8.min=0:=rfl;have g:IntKind.u8.max=255:=rfl;omega
  .cases L
 .cases L
theorem ar0(i:∀t ti,Θ t=some ti->nY P t ti)(h:Rel w0 M T γ st a w){s:TypeId}{f:Nat}
 (L:calm Θ Γ d st (.field s x f)=some (p,v,δ)):Yields P w0 M T st a w (Instr.field s (a.eval x) f) v δ:=by
 have Z:=jK h x;simp only[calm]at L;split at L
 .next ti hs=>
  split at L
  .next fs hk=>
   split at L
   .next k t cs hf hev=>
    split at L
    .next te ht=>
     split at L
     .next sv hsv=>
      cases L;rw[hev]at Z;obtain⟨I,K,W⟩:=Z;have g:=(i s ti hs).und;rw[hk]at g;obtain⟨n,g,rfl,_⟩:=g;rw[aId]at hf;cases e:n.toList[f]? with
      |none=>grind
      |some fl=>
       rw[e]at hf;obtain⟨rfl,rfl⟩:=hf;have b:n[f]? =some fl:=by simpa using e
       have j:=i _ te ht;unfold nX at hsv;split at hsv
       .next hagg=>
        split at hsv
        .next hle=>
         cases hsv;refine .same h (u:=.agg (I.extract fl.offset (fl.offset+te.cells.len))) ?_ ⟨_,rfl,?_⟩
         .rw[K];simp[Instr.field,aIb,aHZ g w,b,asAgg,part,j.adg,hagg,j.run_sizeOf]
         simp_all [ai.take,ai.drop]
        .cases hsv
       .next hagg=>
        split at hsv
        .next c hcc=>
         cases hsv;obtain⟨u,l,o⟩:=ai.get _ _ _ _ W hcc;have m:I[fl.offset]? =some u:=by simpa using l
         refine .same h (u:=u) ?_ o;rw[K];simp[Instr.field,aIb,aHZ g w,b,asAgg,part,j.adg,hagg,m]
        .cases hsv
     .cases L
    .cases L
   .cases L
  .cases L
 .cases L
theorem foldl_set(A:List Value):∀(m k:Nat)(cells:Array Value),m+k+A.length<=cells.size->
 ((A.zipIdx k).foldl (λ(z:Array Value)(p:Value×Nat)=>z.setIfInBounds (m+p.2) p.1) cells).toList=cells.toList.take (m+k)++A++cells.toList.drop (m+k+A.length):=by
 induction A with
 |nil=>simp_all
 |cons c A ih=>
  intro m k cells b;simp only[aHx]at b;rw[List.zipIdx_cons,List.foldl_cons,ih m (k+1) _ ny];have e:cells.toList.length=cells.size:=aIH;rw[Array.toList_setIfInBounds];generalize cells.toList=l at*;have E:(l.set (m+k) c).take (m+(k+1))=l.take (m+k)++[c]:=by rw[show m+(k+1)=m+k+1 from lu,List.take_set,aIi lu,aJk _ _ ny];rw[aHP,aIQ lu,aJl];rfl
  grind [List.drop_set_of_lt]
variable {X:V}
theorem Zz{A ys:List Cell}{I s:List Value}(m:Nat)(E:ai X A I)(O:ai X ys s):
 ai X (splice A m ys) (I.take m++s++I.drop (m+s.length)):=by
 grind [splice,ai.length,ai.append,ai.take,ai.drop]
theorem ar1(q:∀t ti,Θ t=some ti->nY P t ti)(h:Rel w0 M T γ st a w){fs:List (Nat×TypeId)}{place:Nat->Option (Nat×Nat)}(o:∀i m t ti,fs[i]? =some (m,t)->Θ t=some ti->place i=some (m,ti.cells.len)):
 ∀(b:List (Nat×Operand))(A g:List Cell)(cells:Array Value),ai (ak w0 T γ st w) A cells.toList->Ph Θ st fs b A=some g->
  ∃f,Instr.fill place cells (b.map λx=>(x.1,a.eval x.2))=some f/\ai (ak w0 T γ st w) g f.toList
 |[],A,g,cells,hr,hb=>by
  cases hb;exact⟨cells,rfl,hr⟩
 |(i,x)::r,A,g,cells,hr,hb=>by
  rw[Ph]at hb;split at hb
  .next m t v hf hev=>
   split at hb
   .next ti ht=>
    split at hb
    .next hle=>
     simp only[aHy]at hle;have E:=aHA hle.1;have O:=aIm hle.2;have Z:=jK h x;rw[hev]at Z;have e:=eP.cells v _ Z;have Y:=ai.length _ _ e;have n:=ai.length _ _ hr;have k:ai (ak w0 T γ st w) (splice A m v.cells) ((a.eval x).cells.zipIdx.foldl (λA(c,j)=>A.setIfInBounds (m+j) c) cells).toList:=by
      have l:((a.eval x).cells.zipIdx.foldl (λA(c,j)=>A.setIfInBounds (m+j) c) cells).toList=cells.toList.take m++(a.eval x).cells.toList++cells.toList.drop (m+(a.eval x).cells.toList.length):=by
       rw[← Array.foldl_toList,Array.toList_zipIdx]
       simp_all [foldl_set]
      grind [Zz]
     obtain⟨f,F,s⟩:=ar1 q h o r _ g _ k hb
     grind [Instr.fill]
    .cases hb
   .cases hb
  .cases hb
theorem ar2(g:∀t ti,Θ t=some ti->nY P t ti)(h:Rel w0 M T γ st a w){e:Array (Nat×Operand)}
 (L:calm Θ Γ d st (.build t e)=some (p,v,δ)):Yields P w0 M T st a w (Instr.build t (e.map λx=>(x.1,a.eval x.2))) v δ:=by
 simp only[calm]at L;split at L
 .next ti r=>
  split at L
  .next fs hk=>
   split at L
   .next cs hb=>
    cases L;have B:=g t ti r;obtain⟨i,z,D,K,H,O,N,_⟩:=B.info;have y:=B.und;rw[hk]at y;obtain⟨n,y,o,j⟩:=y;have A:ai (ak w0 T γ st w) ti.cells.zeros z.cells.toList:=by grind [aij]
    obtain⟨b,J,C⟩:∃b,n.toList.mapM (λf=>(P.info? f.type).map λi=>(f.offset,i.size))=some b/\b=n.toList.map λf=>(f.offset,P.cellsOf f.type):=by
     refine⟨_,?_,rfl⟩;generalize n.toList=l at j
     induction l with
     |nil=>rfl
     |cons f l ih=>
      cases D:P.info? f.type with
      |none=>grind
      |some i=>
       grind [Program.cellsOf]
    have s:∀(i m:Nat)(t:TypeId)(ti:TI),fs[i]? =some (m,t)->Θ t=some ti->b[i]? =some (m,ti.cells.len):=by
     intro i m t ti q r;rw[o,aId]at q;cases I:n.toList[i]? with
     |none=>grind
     |some fl=>
      have:=(g _ ti r).size
      grind [Program.cellsOf]
    obtain⟨k,F,E⟩:=ar1 g h (place:=(b[·]?)) s e.toList _ _ z.cells A hb;refine .same h (u:=.agg k) ?_ ⟨k,rfl,E⟩
    simp_all [run_build,Program.built]
   .cases L
  .cases L
 .cases L
theorem abJ(b:nY P t ti):∃z,(zeroValue t).run P w=.ok z w/\z.cells.toList=ti.cells.rO:=by
 obtain⟨i,z,D,f,e,h,g,_⟩:=b.info
 simp_all [zeroValue,typeInfo]
theorem akr(w:World)(t:TypeId)(v:Value):(newVar t v).run P w=.ok ⟨w.heap.size,0,none⟩ (w.alloc (.cells v.cells t)):=ah3
theorem ar4(b:∀t ti,Θ t=some ti->nY P t ti)(h:Rel w0 M T γ st a w)
 (L:calm Θ Γ d st (.alloc t)=some (p,v,δ)) (q:kZ st δ=true):Yields P w0 M T st a w (Instr.alloc t true (.tuple #[])) v δ:=by
 simp only[calm]at L;split at L
 .next ti ht=>
  cases L;obtain⟨z,f,e⟩:=abJ (w:=w) (b t ti ht);have H:st.ah (d*64)=none:=by simp_all [kZ]
  obtain⟨E,O⟩:=h.arW (d*64) ti.cells.zeros H lu z.cells t (by grind [aij]);refine⟨_,_,_,?_,E,O⟩
  simp_all [Instr.alloc,akr]
 .cases L
theorem awm(h:Rel w0 M T γ st a w)
 (L:calm Θ Γ d st (.box t x)=some (p,v,δ)) (q:kZ st δ=true):Yields P w0 M T st a w (Instr.box t (a.eval x)) v δ:=by
 have Z:=jK h x;simp only[calm]at L;split at L
 .next s hev=>
  cases L;rw[hev]at Z;have H:st.ah (d*64)=none:=by simp_all [kZ]
  obtain⟨E,O⟩:=h.arW (d*64) s.cells H lu (a.eval x).cells t (eP.cells s _ Z);refine⟨_,_,_,?_,E,O⟩;simp[Instr.box,akr]
 .cases L
theorem ahc(h:Rel w0 M T γ st a w)(r:au)(fr:Bool):∀(b:List (Nat×Operand))(k:Nat)(l:List r.den),Ky st r k b=some l->o6 st b=[]->(fr=true->pR st b=true)->
 l.length=b.length/\(b.map λx=>(x.1,a.eval x.2))=((b.map λx=>a.eval x.2).zipIdx k).map (λx=>(x.2,x.1))/\(∀v∈b.map (λx=>a.eval x.2),v.cells.size=r.len)/\
 ∀i x,l[i]? =some x->aY w.heap ((ak w0 T γ st w).dA fr) r ((((b.map λx=>a.eval x.2).flatMap λv=>v.cells.toList).drop (i*r.len)).take r.len) x
 |[],k,l,hr,_,_=>by
  simp_all [Ky]
 |(i,x)::ps,k,l,hr,hn,hf=>by
  rw[Ky]at hr;rw[o6,aIc]at hn;split at hr
  .next v l' hb hev hl'=>
   split at hr
   .next y hy=>
    cases hr;have Z:=jK h x;rw[hev]at Z hn;have f:=eP.cells v _ Z;have g:fr=true->v.cells.all (Cell.fresh st)=true/\pR st ps=true:=by
     grind [pR]
    have m:=TU h fr r v.cells _ y f hy hn.1 (λe=>(g e).1);have Y:=aY.length _ _ _ m;obtain⟨E,O,U,n⟩:=ahc h r fr ps (k+1) l' hl' hn.2 (λe=>(g e).2);refine⟨by simp[E],?_,?_,λj z o=>?_⟩
    · simp_all
    · grind
    .cases j with
     |zero=>
      grind
     |succ j=>
      grind [Nat.add_mul,List.drop_drop,List.drop_left]
   .cases hr
  .cases hr
theorem afV(m:∀t ti,Θ t=some ti->nY P t ti)(h:Rel w0 M T γ st a w){len:Nat}{b:Array (Nat×Operand)}
 (L:calm Θ Γ d st (.buildSlice t len b)=some (p,v,δ)) (q:kZ st δ=true):Yields P w0 M T st a w (Instr.buildSlice t len (b.map λx=>(x.1,a.eval x.2))) v δ:=by
 simp only[calm]at L;split at L
 .next ti ht=>
  split at L
  .next e hk=>
   split at L
   .next te he=>
    split at L
    .next l hb hrefs hrows=>
     cases L;simp only[aHy]at hb;have Y:len=b.size:=aHA hb.1.1;have f:0<te.cells.len:=aIm hb.1.2;have C:len*te.cells.len<=16777216:=aIm hb.2;have H:st.ah (d*64+1)=none:=by simp_all [kZ]
     obtain⟨E,O,U,j⟩:=ahc h te.cells (pR st b.toList) b.toList 0 l hrows hrefs (λe=>e);have u:=m e te he;obtain⟨i,z,D,k,B,J,K,_⟩:=u.info;have s:=(m t ti ht).und;rw[hk]at s;have y:∀(I:List Value),(∀v∈I,v.cells.size=te.cells.len)->(I.flatMap λv=>v.cells.toList).length=I.length*te.cells.len:=by
      intro I F
      induction I with
      |nil=>simp
      |cons v I ih=>
       grind
     have Q:l.length=len:=ny;by_cases g:len=0
     .have hl0:l=[]:=aH0.1 lu;obtain⟨n,o⟩:=h.aii (d*64+1) e te.cells l (pR st b.toList) H #[] 0 f lu (aHV _) vk (λi x Z=>ny);refine⟨_,_,_,?_,n,o⟩;have r:b=#[]:=Array.size_eq_zero_iff.1 lu;subst r g;subst hl0;have A:Array.map (λ_=>(default:Value)) (Array.range 0)=#[]:=vk;simp[Instr.buildSlice,aIb,aHZ s.1 w,u.run_sizeOf,Instr.fill,newRow,newObj,Sem.run,A]
     .have aGH:=Great.fill_whole f (b.toList.map λx=>a.eval x.2) ((Array.range (len*i.size)).map (z.cells[· %z.cells.size]!)) U ny;obtain⟨n,o⟩:=h.aii (d*64+1) e te.cells l (pR st b.toList) H ((b.toList.map λx=>a.eval x.2).flatMap λv=>v.cells.toList).toArray len f lu
       (by unfold maxLen;have:len*1<=len*te.cells.len:=Nat.mul_le_mul_left _ f;omega) ny (λi x Z=>j i x Z)
      rw[Q]at n o;refine⟨_,_,_,?_,n,o⟩;refine run_buildSlice w t e len _ _ i z s.1 D J (by rw[k];omega) (by rw[k];have:0<len*te.cells.len:=Nat.mul_pos lu f;omega) ?_
      simp_all
    .cases L
   .cases L
  .cases L
 .cases L
theorem Ho:∀(r:au),r.rO.length=r.len
 |.nil=>rfl
 |.cons _ r=>by simp[au.rO,au.len,Ho r]
theorem aim(f:∀t ti,Θ t=some ti->nY P t ti)(h:Rel w0 M T γ st a w){y:Operand}
 (L:calm Θ Γ d st (.makeSlice t x y)=some (p,v,δ)) (C:p) (q:kZ st δ=true):Yields P w0 M T st a w (Instr.makeSlice t (a.eval x) (a.eval y)) v δ:=by
 simp only[calm]at L;split at L
 .next ti n c ht hn hcc=>
  obtain⟨O,l,_⟩:=xZ h hn;obtain⟨Q,m,_⟩:=xZ h hcc;split at L
  .next e hk=>
   split at L
   .next te he=>
    split at L
    .next ZA=>
     cases L;have b:0<te.cells.len:=aIm ZA;have A:=f e te he;obtain⟨i,z,D,r,k,J,N,_⟩:=A.info;have F:=(f t ti ht).und;rw[hk]at F;have o:st.ah (d*64+1)=none:=by simp_all [kZ]
     obtain⟨R,S,U⟩:=C;unfold big at U;have K:z.cells.size=te.cells.len:=by grind [Ho]
     have g:∀j,j<c.toNat*te.cells.len->(madeCells z.cells (c.toNat*te.cells.len))[j]? =te.cells.rO[j%te.cells.len]? :=by
      grind [madeCells,Nat.mod_lt]
     obtain⟨s,u⟩:=h.aii (d*64+1) e te.cells (List.replicate n.toNat te.cells.dflt) true o (madeCells z.cells (c.toNat*te.cells.len)) c.toNat b KW (by grind [maxLen])
      (size_madeCells _ _) (λj x Z=>by
        have I:j<n.toNat:=by
         grind
        have B:j*te.cells.len+te.cells.len<=c.toNat*te.cells.len:=by
         have:(j+1)*te.cells.len<=c.toNat*te.cells.len:=aHQ _ lu
         grind
        have:(((madeCells z.cells (c.toNat*te.cells.len)).toList.drop (j*te.cells.len)).take te.cells.len)=te.cells.rO:=by
         apply aIF
         grind [Nat.add_mul_mod_self_right,Nat.mod_eq_of_lt]
        grind [adi])
     rw[aJm]at s u;refine⟨_,_,_,?_,s,u⟩;rw[l,m,← r];have H:=A.small;refine run_make w t e i z F.1 D J O Q n c R S ?_ lu;rw[k];have:(te.bytes:Int)*c<=4096*4294967296:=by have E:(te.bytes:Int)*c<=4096*c:=aJb lu lu;omega
     omega
    .cases L
   .cases L
  .cases L
 .cases L
theorem foldl_push(e:List Int):∀(b:ByteArray),(e.foldl (λr n=>r.push (UInt8.ofNat n.toNat)) b)=⟨(b.data.toList++e.map λn=>UInt8.ofNat n.toNat).toArray⟩:=by
 induction e with
 |nil=>simp
 |cons n e ih=>
  simp_all
theorem awn(l:List (au.cons (.int .u8) .nil).den):byteRow l=(l.map anQ).map λn=>UInt8.ofNat (Int.toNat n):=by
 simp_all [byteRow]
variable {e:TypeId}
theorem aqS{F:Nat->Prop}{v:Value}{l:List (au.cons (.int .u8) .nil).den}(h:dw w.heap F (.sl e (.cons (.int .u8) .nil)) v l):
 (Conv.bytesToString v).run P w=.ok (.string ⟨(byteRow l).toArray⟩) w/\(byteRow l).length<=maxLen:=by
 refine⟨?_,by unfold byteRow;rw[aHL];exact h.1⟩;rcases h.2 with⟨Q,a,c,K⟩|⟨b,m,f,A,t,C,K,_,_,J,Z⟩
 .subst Q;rw[K];cases a with
  |none=>rfl
  |some a=>rfl
 .rw[K];rw[run_bytesToString w ⟨b,m,none⟩ l.length f (l.map anQ) ?_,foldl_push,awn]
  .rfl
  .have hcells:∀j u,((l.map anQ).map (Value.int .u8))[j]? =some u->w.cell? ((⟨b,m,none⟩:Addr).add j)=some u:=by
    intro j u k;rw[aIR,aId]at k;cases g:l[j]? with
    |none=>grind
    |some x=>
     have W:=Z j x g;obtain⟨n,o⟩:=x;obtain⟨i,q,r,E,O⟩:=W;have s:i=.int .u8 (anQ (n,o)):=E.1;rw[addr_add];simp only[World.cell?,J];have z:(A.toList.drop (m+j*1)).head?=some i:=by
      have B:au.len (.cons (.int .u8) .nil)=1:=rfl;cases D:A.toList.drop (m+j*1)with
      |nil=>grind
      |cons y ys=>grind
     simp_all
   grind [run_loadCells_list,List.length_map]
theorem DI(g:∀t ti,Θ t=some ti->nY P t ti)(h:Θ t=some ti){d:TypeDesc}(f:ti.cells.desc=some d):ti.agg=true\/P.underlying t=some d:=by
 have b:=(g t ti h).und;unfold TI.agg;split at b
 · grind
 .next hk=>rw[b.2]at f;cases f;exact .inr b.1
 .next e hk=>obtain⟨b,r,W⟩:=b;rw[W]at f;cases f;exact .inr b
 grind
theorem ar5(h:Rel w0 M T γ st a w){src dst:TypeId}(us:P.underlying src=some .string)(ud:P.underlying dst=some (.slice e))(ue:P.underlying e=some (.int .u8))(s:Bytes)(hl:s.length<=maxLen):
 Yields P w0 M T st a w (convert src dst (.string ⟨s.toArray⟩)) (.sv (.one (.sl e (.cons (.int .u8) .nil) (Kz s) true))) []:=by
 have hrun:=run_bytes_of_string (P:=P) w src dst e ⟨s.toArray⟩ us ud ue
 let o:Obj:=.cells (bytesRow ⟨s.toArray⟩ (grownCap w (⟨s.toArray⟩:ByteArray).size 0 e)) e ((bytesRow ⟨s.toArray⟩ (grownCap w (⟨s.toArray⟩:ByteArray).size 0 e)).size,(bytesRow ⟨s.toArray⟩ (grownCap w (⟨s.toArray⟩:ByteArray).size 0 e)).size+1)
 have hsz:(w.drew.alloc o).heap.size=w.heap.size+1:=by
  simp_all
 have hg:=h.grown (γ':=γ) (w':=w.drew.alloc o) st.ah (λ_ _ h=>h) (λ_ _ _=>rfl) rfl rfl rfl lu (λb hb=>heap_alloc_old w.drew o hb)
  (λp x h1 h2=>ny) (λp cs h1 h2=>ny) (λp x q y b h1 h2=>ny)
 refine⟨_,_,γ,hrun,hg.1,?_⟩;have hlen:(Kz s).length=s.length:=by grind [Kz]
 refine⟨lu,.inr ⟨w.heap.size,0,grownCap w (⟨s.toArray⟩:ByteArray).size 0 e,_,e,_,?_,?_,⟨⟨?_,?_,?_⟩,?_⟩,FC w.drew o,?_⟩⟩
 .rw[hlen,size_bytes]
 · grind [grownCap_ge,size_bytes]
 · grind
 .intro hlt;have:w.heap.size<w0.heap.size:=hlt;have:=h.grow;omega
 .intro p x hp hb;have:=(h.lt p x _ hp hb).1;omega
 .intro _;refine⟨h.grow,λcs t fz hc k hk hm=>?_⟩;cases (show some (Obj.cells cs t fz)=some (.cells _ _ _)from hc.symm.trans (FC w.drew o));exact absurd hm.1 lu
 .intro i x hi;have hlt:i<s.length:=ny;unfold Kz at hi;rw[aId,aHK hlt]at hi;cases hi;refine⟨.int .u8 (s[i].toNat:Int),[],?_,⟨rfl,?_⟩,rfl⟩
  .show List.take 1 (List.drop (0+i*1) (bytesRow ⟨s.toArray⟩ _).toList)=_
   grind [bytesRow,List.drop_eq_getElem_cons]
  .have:=UInt8.toNat_lt s[i];have e1:IntKind.u8.min=0:=rfl;have e2:IntKind.u8.max=255:=rfl;omega
theorem anT(hΘ:∀t ti,Θ t=some ti->nY P t ti)(h:Rel w0 M T γ st a w){src dst:TypeId}
 (hc:calm Θ Γ d st (.convert src dst x)=some (p,v,δ)):Yields P w0 M T st a w (convert src dst (a.eval x)) v δ:=by
 simp only[calm]at hc;split at hc
 .next ts td c hs hd hev=>
  have hx:=qF h hev;split at hc
  .cases hc
  .next hagg=>
   simp only[aIS,not_or,Bool.not_eq_true]at hagg;split at hc
   .next k0 k l n e1 e2=>
    cases hc;have us:=(DI hΘ hs (d:=.int k0) (by rw[e1];rfl)).resolve_left ny;have ud:=(DI hΘ hd (d:=.int k) (by rw[e2];rfl)).resolve_left ny;obtain⟨hv,_⟩:=hx;refine .same h (u:=.int k (k.wrap n)) ?_ ⟨rfl,NH _ _⟩
    simp_all [convert,aHZ,Conv.intToInt]
   .next s e1 e2=>
    cases hc;have us:=(DI hΘ hs (d:=.string) (by rw[e1];rfl)).resolve_left ny;have ud:=(DI hΘ hd (d:=.string) (by rw[e2];rfl)).resolve_left ny;obtain⟨hv,hl⟩:=hx;refine .same h (u:=.string ⟨s.toArray⟩) ?_ ⟨rfl,hl⟩
    simp_all [convert,aHZ]
   .next e s e1 e2=>
    split at hc
    .next te he=>
     split at hc
     .next e3 e4=>
      cases hc;have us:=(DI hΘ hs (d:=.string) (by rw[e1];rfl)).resolve_left ny;have ud:=(DI hΘ hd (d:=.slice e) (by rw[e2];rfl)).resolve_left ny;have ue:=(DI hΘ he (d:=.int .u8) (by rw[e3];rfl)).resolve_left (by rw[e4];simp);obtain⟨hv,hl⟩:=hx
      grind [ar5]
     .cases hc
    .cases hc
   .next c' e e1 e2=>
    split at hc
    .next l te hl he=>
     split at hc
     .next e3 e4=>
      cases hc;have us:=(DI hΘ hs (d:=.slice e) (by rw[e1];rfl)).resolve_left ny;have ud:=(DI hΘ hd (d:=.string) (by rw[e2];rfl)).resolve_left ny;have ue:=(DI hΘ he (d:=.int .u8) (by rw[e3];rfl)).resolve_left (by rw[e4];simp);have hg:=Cell.afv h _ _ _ _ hx hl;obtain⟨hr,hlen⟩:=aqS (P:=P) hg;refine .same h (u:=.string ⟨(byteRow l).toArray⟩) ?_ ⟨rfl,hlen⟩;have hg:Nz _ _ _ _ (a.eval x) l:=hg;obtain⟨ad,n,cp,hv⟩:∃ad n cp,a.eval x=.slice ad n cp:=by rcases hg.2 with⟨_,ad,cp,hv⟩|⟨b,off,cap,_,_,_,hv,_⟩<;>exact⟨_,_,_,hv⟩
      simp_all [convert,aHZ]
     .cases hc
    .cases hc
   .cases hc
 .cases hc
theorem ar6(i:∀t ti,Θ t=some ti->nY P t ti)(h:Rel w0 M T γ st a w){op:BinOp}{m:TypeId}{y:Operand}
 (L:calm Θ Γ d st (.binOp op t x y m)=some (p,v,δ)) (C:p):Yields P w0 M T st a w (do eqGuard op t x y (a.eval x) (a.eval y);binOp op t (a.eval x) (a.eval y)) v δ:=by
 simp only[calm]at L;split at L
 .next c1 c2 e1 e2=>
  split at L
  .next hb=>
   split at L
   .next q c hq=>
    cases L;obtain⟨r,W,l⟩:=auw (P:=P) (w:=w) (t:=t) (s:=x) (u:=y) (ak w0 T γ st w) hq C (qF h e1) (qF h e2) (λn o E O=>by
     subst E O;simp only[ava]at hb;split at hb
     .next ti ht=>
      split at hb
      .next hcells=>exact(DI i ht (d:=.bool) (by rw[hcells];rfl)).resolve_left ny
      .cases hb
     .cases hb)
    exact .same h W l
   .cases L
  .cases L
 .next a1 a2 e1 e2=>
  split at L
  .next ti ht=>
   split at L
   .next b hcmp heq=>
    split at L
    .next hlen=>cases L;have E:=jK h x;have O:=jK h y;rw[e1]at E;rw[e2]at O;obtain⟨I,K,f⟩:=E;obtain⟨k,j,g⟩:=O;have:=(i t ti ht).cmp hcmp w x y (ak w0 T γ st w) a1 a2 I k b hlen f g heq;rw[K,j];exact .same h this.1 rfl
    .cases L
   .next b hcmp heq=>
    split at L
    .next hlen=>cases L;have E:=jK h x;have O:=jK h y;rw[e1]at E;rw[e2]at O;obtain⟨I,K,f⟩:=E;obtain⟨k,j,g⟩:=O;have:=(i t ti ht).cmp hcmp w x y (ak w0 T γ st w) a1 a2 I k b hlen f g heq;rw[K,j];exact .same h this.2 rfl
    .cases L
   .cases L
  .cases L
 .cases L
variable {o n:Nat}
theorem adn(h:Rel w0 M T γ st a w){f:Nat}(g:st.ev x=.win o f n):∃b m y e r l i,st.ah o=some (.arr e r l i)/\γ o=.slice (some ⟨b,0,none⟩) m y/\
 (∃q,(q=f*r.len\/y<=f)/\a.eval x=.slice (some ⟨b,q,none⟩) n (y-f)/\f+n<=y):=by
 have Z:=jK h x;rw[g]at Z;exact Z
variable {b:Nat}
theorem avc(h:Rel w0 M T γ st a w){r:au}{l:List r.den}{fr:Bool}(F:st.ah o=some (.arr e r l fr)){m cap:Nat}(f:γ o=.slice (some ⟨b,0,none⟩) m cap):cap<=maxLen/\l.length<=cap:=by
 obtain⟨z,⟨_,O⟩,_⟩:=h.ah o _ F
 grind
theorem ar7(k:∀t ti,Θ t=some ti->nY P t ti)(h:Rel w0 M T γ st a w){S D:Option Operand}
 (L:calm Θ Γ d st (.slice t x S D none)=some (p,v,δ)) (C:p):Yields P w0 M T st a w (Instr.sliceAt t (a.eval x) (S.map a.eval) (D.map a.eval) none) v δ:=by
 simp only[calm]at L;split at L
 .next ti s ht hev=>
  obtain⟨K,Q⟩:a.eval x=.string ⟨s.toArray⟩/\s.length<=maxLen:=qF h hev;split at L
  .next q i j hk hb=>
   cases L;obtain⟨W,E,O⟩:=vV (P:=P) h (aHv _) hb C false;have z:=(k t ti ht).und;rw[hk]at z;refine .same h (u:=.string ⟨((s.take j).drop i).toArray⟩) ?_ ⟨rfl,KW⟩
   simp_all [Instr.sliceAt,Instr.slice,aHZ,size_bytes,aqQ]
  .cases L
 .next ti e r l fr ht hev=>
  have Z:=qF h hev;split at L
  .next f q i j hk hb=>
   split at L
   .next te he=>
    split at L
    .next hbeq=>
     cases L;obtain⟨ad,c,K,Q⟩:=arV Z;have H:l.length<=c:=by
      have N:Nz _ _ _ _ (a.eval x) l:=Z;rcases N.2 with⟨hl0,_⟩|⟨b,off,y,A,t,fz,hv',F,_⟩
      · grind
      grind
     obtain⟨W,E,O⟩:=vV (P:=P) h H hb C true;have z:=(k t ti ht).und;rw[hk]at z;have B:te.cells.len=r.len:=by grind [au.eq_of_beq]
     rw[K]at Z;refine .same h ?_ (aBm Z E O);rw[K];simp[Instr.sliceAt,Instr.slice,aIb,aHZ z.1 w,W,(k f te he).run_sizeOf,B]
    .cases L
   .cases L
  .cases L
 .next ti ht hev=>
  have K:a.eval x=.slice none 0 0:=qF h hev;split at L
  .next f q i j hk hb=>
   split at L
   .next te he=>cases L;obtain⟨W,E,O⟩:=vV (P:=P) h (aHv 0) hb C true;have hj:j=0:=lu;have J:i=0:=lu;subst hj J;have z:=(k t ti ht).und;rw[hk]at z;refine .same h (u:=.slice none 0 0) ?_ rfl;rw[K];simp[Instr.sliceAt,Instr.slice,aIb,aHZ z.1 w,W,(k f te he).run_sizeOf]
   .cases L
  .cases L
 .next ti o MJ n0 ht hev=>
  split at L
  .next f e r l fr hk ho=>
   split at L
   .next te q i j he hb=>
    split at L
    .next hbeq=>
     cases L;obtain⟨g,m,y,e',r',l',Y,Z,I,⟨U,hp0,K,hle⟩⟩:=adn h hev;rw[ho]at Z;cases Z;obtain⟨F,H⟩:=avc h ho I;have B:te.cells.len=r.len:=by grind [au.eq_of_beq]
     have z:=(k t ti ht).und;rw[hk]at z;have R:(Instr.sliceBounds true n0 (y-MJ) (S.map a.eval) (D.map a.eval) none).run P w=.ok (i,j,y-MJ) w/\i<=j/\j<=y-MJ:=by
      unfold ac9 at hb;split at hb
      · grind [vV]
      .next hh=>obtain⟨W,E,O⟩:=vV (P:=P) (cap:=y-MJ) h (show l.length-MJ<=y-MJ from lu) hb C true;exact⟨W,E,lu⟩
     obtain⟨W,E,O⟩:=R;refine .same h (u:=.slice (if y-MJ=i then some ⟨g,U,none⟩else(some (⟨g,U,none⟩:Addr)).map (·.add (i*r.len))) (j-i) (y-MJ-i)) ?_ ?_
     .rw[K];simp[Instr.sliceAt,Instr.slice,aIb,aHZ z.1 w,W,(k f te he).run_sizeOf,B]
     .refine⟨g,m,y,e,r,l,fr,ho,I,?_⟩
      grind [Addr.add]
    .cases L
   .cases L
  .cases L
 .cases L
theorem aqT(g:∀t ti,Θ t=some ti->nY P t ti)(h:Rel w0 M T γ st a w){q D s:Operand}
 (L:calm Θ Γ d st (.slice t x (some q) (some D) (some s))=some (p,v,δ)) (C:p):Yields P w0 M T st a w (Instr.sliceAt t (a.eval x) (some (a.eval q)) (some (a.eval D)) (some (a.eval s))) v δ:=by
 simp only[calm]at L;split at L
 .next ti o ht hev=>
  split at L
  .next f e r l fr hk ho=>
   split at L
   .next te n1 n2 n3 he h1 h2 h3=>
    cases L;obtain⟨N,F,_⟩:=xZ h h1;obtain⟨O,H,_⟩:=xZ h h2;obtain⟨Q,I,_⟩:=xZ h h3;have m:=(g t ti ht).und;rw[hk]at m;have Z:=qF h hev;obtain⟨i,j,K,J⟩:∃i j,a.eval x=.slice i l.length j/\l.length<=j:=by
     obtain⟨_,K,_⟩:=Z;obtain⟨z,⟨_,R⟩,_⟩:=h.ah o _ ho
     grind
    refine .same h (u:=.slice (if n3.toNat=n1.toNat then i else i.map (·.add (n1.toNat*te.cells.len))) (n2.toNat-n1.toNat) (n3.toNat-n1.toNat)) ?_ trivial;rw[K,F,H,I];have E:=run_sliceBound (P:=P) (w:=w) (k:=Q) (n:=n3) (y:=j) (c:=.slice3Acap) lu lu;have B:=run_sliceBound (P:=P) (w:=w) (k:=O) (n:=n2) (y:=n3.toNat) (c:=.slice3B) lu lu;have A:=run_sliceBound (P:=P) (w:=w) (k:=N) (n:=n1) (y:=n2.toNat) (c:=.slice3C) lu lu;simp[Instr.sliceAt,Instr.slice,Instr.sliceBounds,aIb,aHZ m.1 w,E,B,A,(g f te he).run_sizeOf]
   .cases L
  .cases L
 .cases L
theorem anU(h:Rel w0 M T γ st a w){j:Nat}
 (L:calm Θ Γ d st (.extract x j)=some (p,v,δ)):Yields P w0 M T st a w (Instr.extract (a.eval x) j) v δ:=by
 have Z:=jK h x;simp only[calm]at L;split at L
 .next vs hev=>
  split at L
  .next s hs=>
   cases L;rw[hev]at Z;obtain⟨m,K,W⟩:=Z;have g:∀(z:List SV)(f:List Value)(i:Nat)(s:SV),eX (ak w0 T γ st w) z f->z[i]? =some s->∃u,f[i]? =some u/\eP (ak w0 T γ st w) s u:=by
    intro z
    induction z with
    |nil=>grind
    |cons x z ih=>
     intro f i s W D;cases f with
     |nil=>cases W
     |cons y f=>
      cases i with
      |zero=>simp at D;subst D;exact⟨y,rfl,W.1⟩
      |succ i=>
       obtain⟨u,l,k⟩:=ih f i s W.2 aqP
       grind
   obtain⟨u,l,k⟩:=g vs m.toList j s W hs;refine .same h (u:=u) ?_ k
   simp_all [Instr.extract]
  .cases L
 .cases L
theorem auB(h:Rel w0 M T γ st a w){op:UnOp}
 (L:calm Θ Γ d st (.unOp op t x)=some (p,v,δ)):Yields P w0 M T st a w (Op.unary op (a.eval x)) v δ:=by
 simp only[calm]at L;split at L
 .next b hev=>cases L;rw[avb h hev];exact .same h (u:=.bool (!b)) rfl rfl
 .next k n hev=>cases L;obtain⟨K,_⟩:=Yb h hev;rw[K];exact .same h (u:=.int k (k.wrap (0-n))) rfl ⟨rfl,NH _ _⟩
 .cases L
variable {args:Array Operand}{sG:Array TypeId}{ty:TypeId}
theorem awo(f:∀t ti,Θ t=some ti->nY P t ti)(h:Rel w0 M T γ st a w)
 (L:calm Θ Γ d st (.call {callee:=.builtin .len,args,argTypes:=sG})=some (p,v,δ)):Yields P w0 M T st a w (Builtin.len_ sG ty (args.map a.eval)) v δ:=by
 simp only[calm]at L;split at L
 .next x t hargs anV=>
  have B:args.map a.eval=#[a.eval x]:=ahb;have i:sG=#[t]:=ny;rw[B,i];split at L
  .next ti c ht hev=>
   have Z:=qF h hev;split at L
   .next s hk=>cases L;obtain⟨K,Q⟩:=Z;rw[K];refine .same h (auy f ht hk _ ty) ?_;exact⟨rfl,afx _ Q⟩
   .next e k r l fr hk=>cases L;obtain⟨u,z,K,Q⟩:=arV Z;rw[K];exact .same h (run_len_slice f ht hk _ _ _ ty) ⟨rfl,afx _ Q⟩
   .next e hk=>cases L;have K:a.eval x=.slice none 0 0:=Z;rw[K];exact .same h (run_len_slice f ht hk _ _ _ ty) ⟨rfl,lZ⟩
   .next e o hk=>
    split at L
    .next k r l fr ho=>cases L;obtain⟨u,z,K,Q⟩:=aBl h Z ho;rw[K];exact .same h (run_len_slice f ht hk _ _ _ ty) ⟨rfl,afx _ Q⟩
    .cases L
   .cases L
  .next ti o lo n ht hev=>
   split at L
   .next e hk=>cases L;obtain⟨g,m,y,k,H,E,A,Z,j,⟨F,D,K,C⟩⟩:=adn h hev;obtain⟨q,_⟩:=avc h Z j;rw[K];exact .same h (run_len_slice f ht hk _ _ _ ty) ⟨rfl,afx _ lu⟩
   .cases L
  .cases L
 .cases L
theorem awq(h:Rel w0 M T γ st a w)
 (L:calm Θ Γ d st (.call {callee:=.builtin .min,args,argTypes:=sG})=some (p,v,δ)):Yields P w0 M T st a w (Builtin.min_ sG ty (args.map a.eval)) v δ:=by
 simp only[calm]at L;split at L
 .next x y hargs=>
  have g:args.map a.eval=#[a.eval x,a.eval y]:=ahb;rw[g];split at L
  .next k n l m e1 e2=>
   split at L
   .next f=>cases L;have f:=aIt f;subst f;obtain⟨E,O⟩:=Yb h e1;obtain⟨U,j⟩:=Yb h e2;rw[E,U];refine .same h (u:=.int k (if m<n then m else n)) (by simp[Builtin.min_,Builtin.min2]) ⟨rfl,?_⟩;omega
   .cases L
  .cases L
 .cases L
theorem awr(h:Rel w0 M T γ st a w)
 (L:calm Θ Γ d st (.call {callee:=.builtin .max,args,argTypes:=sG})=some (p,v,δ)):Yields P w0 M T st a w (Builtin.max_ sG ty (args.map a.eval)) v δ:=by
 simp only[calm]at L;split at L
 .next x y hargs=>
  have g:args.map a.eval=#[a.eval x,a.eval y]:=ahb;rw[g];split at L
  .next k n l m e1 e2=>
   split at L
   .next f=>cases L;have f:=aIt f;subst f;obtain⟨E,O⟩:=Yb h e1;obtain⟨U,j⟩:=Yb h e2;rw[E,U];refine .same h (u:=.int k (if m>n then m else n)) (by simp[Builtin.max_,Builtin.max2]) ⟨rfl,?_⟩;omega
   .cases L
  .cases L
 .cases L
structure EnvB(P:Program)(G:lT)(Θ:jY)(Γ:kY):Prop where
 types:∀t ti,Θ t=some ti->nY P t ti
 cons:∀f con,Γ f=some (.pure con)->fF P G f con/\ji P f
 arB:∀f ms con,Γ f=some (.eff ms con)->rP P G f con/\ji P f
structure vM(P:Program)(G:lT)(Θ:jY)(Γ:kY)(w0:World)(M:Nat->Prop):Prop extends EnvB P G Θ Γ where
 ok:G.ok w0
 low:∀b,M b->G.n<=b
theorem vM.at{G:lT}(f:vM P G Θ Γ w0 M)(h:Rel w0 M T γ st a w):G.ok w:=
 G.stable w0 w f.ok h.grow λb J=>h.kept b (aHR J (G.low w0 f.ok)) λl=>by have:=f.low b l;omega
theorem VP{o:Oper}{f:FuncId}{s:Array Value}(F:o.op=.call {callee:=.value x,args,argTypes:=sG})(Z:a.eval x=.func (.func f) #[] s)(g:ji P f):
 (execOp a.eval o).run P w=.ok (.enter f (args.map a.eval++s)) w:=by
 have h:(execOp a.eval o)=(do let d ← resolve a.eval {callee:=.value x,args,argTypes:=sG} o.type;invoke d.target d.args):=by
  grind [execOp]
 rw[h];simp only[resolve,Z,Deferred.ofValue,aIb,aIB,aIy,invoke];rw[show(#[]++Array.map a.eval args:Array Value)++s=args.map a.eval++s from vk];exact g _ _
theorem aws{G:lT}(D:vM P G Θ Γ w0 M)(h:Rel w0 M T γ st a w)(o:Oper)
 (F:o.op=.call {callee:=.value x,args,argTypes:=sG})
 (L:calm Θ Γ d st (.call {callee:=.value x,args,argTypes:=sG})=some (p,v,δ)) (C:p) (J:kZ st δ=true) {next:Act->World->Prop} {Q:Exit->Act->World->Prop}
 (H:∀u γ' w',Rel w0 M T γ' (st.adds δ) a w'->bD (ak w0 T γ' (st.adds δ) w') v u->next (a.put o.dst u) w'):o.wp P a w next Q:=by
 simp only[calm]at L;split at L
 .next f caps hx=>
  split at L
  .next con vs hcon hargs=>
   split at L
   .next q out hq=>
    split at L
    .next l=>
     cases L;obtain⟨m,i⟩:=D.cons f con hcon;rw[aIS]at l;have K:=jK h x;rw[hx]at K;obtain⟨s,I,k⟩:=K;unfold Oper.wp;rw[VP F I i,aJM];have N:(d*64+1)%64=1:=lu;rcases l with l|l
     .have g:=NK h (γ0:=λ_=>undef) (S:=λ_=>True) (λ_ _=>trivial) (λ_ _ _ _ _ _ _ _=>trivial) _ _ vs hargs (NM h k args.toList);rw[← aJp,← aJv]at g;refine(m vs _ out (d*64+1) (λ_=>True) (args.map a.eval++s) w hq C (D.at h) g).mono ?_;rintro e w' ⟨u,r,rfl,E,O,U,j,y,z,A,B⟩;obtain⟨γ',R,W⟩:=h.called N J E O U j y (.inl l) z A B
      grind
     .have hm0:zN (handed st args.toList caps)=[]:=by
       grind [ND]
      have g:=FY h (γ0:=λ_=>undef) _ _ vs hargs hm0 (NM h k args.toList);rw[← aJp,← aJv]at g;refine(m vs _ out (d*64+1) (ak w0 T γ st w).foot (args.map a.eval++s) w hq C (D.at h) g).mono ?_;rintro e w' ⟨u,r,rfl,E,O,U,j,y,z,A,B⟩;obtain⟨γ',R,W⟩:=h.called N J E O U j y (.inr rfl) z A B
      grind
    .cases L
   .cases L
  .cases L
 .cases L
theorem DJ{o:Oper}{b:Builtin}(F:o.op=.call {callee:=.builtin b,args,argTypes:=sG}):
 execOp a.eval o=builtin b sG o.type (args.map λ|.const _=>true|_=>false) (args.map a.eval):=by
 unfold execOp;rw[F];rfl
theorem akt(h:Rel w0 M T γ st a w):∀(z:List Operand)(l:List (List Cell)),heldBy st z=some l->gB (ak w0 T γ st w) l (z.map a.eval)
 |[],l,hl=>by cases hl;trivial
 |x::z,l,hl=>by
  rw[heldBy]at hl;split at hl
  .next cs off l' hx hl'=>
   split at hl
   .next S=>cases hl;have S:=aHA S;subst S;have K:=jK h x;rw[hx]at K;exact⟨K,akt h z l' hl'⟩
   .cases hl
  .cases hl
theorem RU{G:lT}(hE:vM P G Θ Γ w0 M)(h:Rel w0 M T γ st a w)(o:Oper)
 (hc:calm Θ Γ d st o.op=some (p,v,δ)) (hp:p) (hf:kZ st δ=true) {next:Act->World->Prop} {Q:Exit->Act->World->Prop}
 (hn:∀u γ' w',Rel w0 M T γ' (st.adds δ) a w'->bD (ak w0 T γ' (st.adds δ) w') v u->next (a.put o.dst u) w'):o.wp P a w next Q:=by
 have fin:∀{s:Sem Value},(execOp a.eval o)=(do pure (Next.value (← s)))->Yields P w0 M T st a w s v δ->o.wp P a w next Q:=by intro s he ⟨u,w',γ',hr,hR,hv⟩;exact Oper.oV XH (hn u γ' w' hR hv)
 cases hop:o.op<;>rw[hop]at hc<;>try (simp only[calm,reduceCtorEq]at hc;done)
 case move x=>simp only[calm]at hc;cases hc;exact Oper.oV (u:=a.eval x) (w':=w) Sr (hn _ γ w h (jK h x))
 case assign x=>simp only[calm]at hc;cases hc;exact Oper.oV (u:=a.eval x) (w':=w) Sr (hn _ γ w h (jK h x))
 case pick c x y=>
  simp only[calm]at hc;split at hc
  .next g hg=>
   cases hc;refine Oper.oV (u:=if g then a.eval x else a.eval y) (w':=w) (by simp[execOp,hop,avb h hg,asBool]) (hn _ γ w h ?_);cases g
   .exact jK h y
   .exact jK h x
  .cases hc
 case nilCheck x=>
  have hx:=jK h x;simp only[calm]at hc;split at hc
  .next o' off hev=>cases hc;rw[hev]at hx;obtain⟨b,cs,ho,hγ,hv⟩:=hx;exact Oper.oV (u:=a.eval x) (w':=w) ah0 (hn _ γ w h ⟨b,cs,ho,hγ,hv⟩)
  .next o' i off hev=>cases hc;rw[hev]at hx;obtain⟨b,n,cap,e,r,l,fr,ho,hγ,hv⟩:=hx;exact Oper.oV (u:=a.eval x) (w':=w) ah0 (hn _ γ w h ⟨b,n,cap,e,r,l,fr,ho,hγ,hv⟩)
  .next r y off fr hev=>cases hc;rw[hev]at hx;obtain⟨b,base,cs,ty,fz,hv,hrest⟩:=hx;exact Oper.oV (u:=a.eval x) (w':=w) ah0 (hn _ γ w h ⟨b,base,cs,ty,fz,hv,hrest⟩)
  .next cs off hev=>cases hc;rw[hev]at hx;obtain⟨b,hv,hrest⟩:=hx;exact Oper.oV (u:=a.eval x) (w':=w) ah0 (hn _ γ w h ⟨b,hv,hrest⟩)
  .next f caps hev=>cases hc;rw[hev]at hx;obtain⟨us,hv,hrest⟩:=hx;exact Oper.oV (u:=a.eval x) (w':=w) ah0 (hn _ γ w h ⟨us,hv,hrest⟩)
  .cases hc
 case makeFunc fn first captured=>
  cases fn<;>try (simp only[calm,reduceCtorEq]at hc;done)
  case func f=>
   simp only[calm]at hc;split at hc
   .next l hfirst hl=>cases hc;have hf0:first=#[]:=ny;subst hf0;refine Oper.oV (u:=.func (.func f) #[] (captured.map a.eval)) (w':=w) (by simp[execOp,hop,Instr.makeFunc]) (hn _ γ w h ⟨captured.map a.eval,rfl,?_⟩);rw[aJp];exact akt h _ _ hl
   .cases hc
 case alloc t=>exact fin (s:=Instr.alloc t true (.tuple #[])) Sr (ar4 hE.types h hc hf)
 case box t x=>exact fin (s:=Instr.box t (a.eval x)) Sr (awm h hc hf)
 case build t parts=>exact fin (s:=Instr.build t (parts.map λx=>(x.1,a.eval x.2))) (by grind [execOp]) (ar2 hE.types h hc)
 case buildSlice t len parts=>
  have hy:=afV hE.types h hc hf
  grind [execOp]
 case makeSlice t x y=>exact fin (s:=Instr.makeSlice t (a.eval x) (a.eval y)) Sr (aim hE.types h hc hp hf)
 case load t x=>exact fin (s:=Instr.loadAt t (a.eval x)) Sr (auA hE.types h hc hp)
 case fieldAddr s x f=>exact fin (s:=Instr.fieldAt s (a.eval x) f) Sr (aik hE.types h hc)
 case field s x f=>exact fin (s:=Instr.field s (a.eval x) f) Sr (ar0 hE.types h hc)
 case indexAddr t x ix=>exact fin (s:=Instr.indexAt t (a.eval x) (a.eval ix)) Sr (ail hE.types h hc hp)
 case index t x ix=>exact fin (s:=Instr.index t (a.eval x) (a.eval ix)) Sr (arZ hE.types h hc hp)
 case binOp op t x y t'=>exact fin (s:=do eqGuard op t x y (a.eval x) (a.eval y);binOp op t (a.eval x) (a.eval y)) Sr (ar6 hE.types h hc hp)
 case unOp op t x=>exact fin (s:=Op.unary op (a.eval x)) Sr (auB h hc)
 case convert s t x=>exact fin (s:=convert s t (a.eval x)) Sr (anT hE.types h hc)
 case extract x i=>exact fin (s:=Instr.extract (a.eval x) i) Sr (anU h hc)
 case slice t x lo hi mx=>
  cases mx with
  |some m=>
   cases lo with
   |none=>simp only[calm,reduceCtorEq]at hc
   |some lo=>
    cases hi with
    |none=>simp only[calm,reduceCtorEq]at hc
    |some hi=>exact fin (s:=Instr.sliceAt t (a.eval x) (some (a.eval lo)) (some (a.eval hi)) (some (a.eval m))) Sr (aqT hE.types h hc hp)
  |none=>exact fin (s:=Instr.sliceAt t (a.eval x) (lo.map a.eval) (hi.map a.eval) none) Sr (ar7 hE.types h hc hp)
 case call c=>
  obtain⟨callee,args,sG⟩:=c;cases callee with
  |invoke r m=>simp only[calm,reduceCtorEq]at hc
  |builtin b=>
   cases b<;>try (simp only[calm,reduceCtorEq]at hc;done)
   case len=>exact fin (s:=Builtin.len_ sG o.type (args.map a.eval)) (by rw[DJ hop];rfl) (awo hE.types h hc)
   case min=>exact fin (s:=Builtin.min_ sG o.type (args.map a.eval)) (by rw[DJ hop];rfl) (awq h hc)
   case max=>exact fin (s:=Builtin.max_ sG o.type (args.map a.eval)) (by rw[DJ hop];rfl) (awr h hc)
  |value x=>grind [aws]
def sameKind:aI->aI->Prop
 |.var _,.var _=>True
 |.arr e r _ _,.arr f s _ _=>e=f/\r=s
 |_,_=>False
theorem Pj(w:World)(g:Nat)(A:Array Value)(h:b≠g):(w.setRow g A).heap[b]? =w.heap[b]? :=by
 grind [World.setRow]
theorem Rel.write(h:Rel w0 M T γ st a w){x x':aI}(F:st.ah o=some x)(J:blk (γ o)=some b)(u:sameKind x x')(arr:Array Value)
 (Z:(ak w0 T γ st w).le ⟨w.setRow b arr,w0.heap.size,T,γ,(st.add o x').ah⟩->cu ⟨w.setRow b arr,w0.heap.size,T,γ,(st.add o x').ah⟩ o x'):
 Rel w0 M T γ (st.add o x') a (w.setRow b arr):=by
 have g:∀p,p≠o->(st.add o x').ah p=st.ah p:=λp C=>qG st x' C;have m:(w.setRow b arr).heap.size=w.heap.size:=XH;have f:∀p y,(st.add o x').ah p=some y->∃z,st.ah p=some z:=by
  grind
 have le:(ak w0 T γ st w).le ⟨w.setRow b arr,w0.heap.size,T,γ,(st.add o x').ah⟩:=by
  refine⟨aHv _,λc L=>⟨⟨?_,L.2.1,λp y C=>?_⟩,?_⟩,λp A C=>⟨?_,rfl⟩,λp e r l N C=>⟨?_,rfl⟩⟩
  .rw[m];exact L.1
  .obtain⟨z,hz⟩:=f p y C;exact L.2.2 p z hz
  .refine Pj w b arr (λe=>?_);exact L.2.2 o x F ny
  .by_cases e:p=o
   .subst e;have k:st.ah p=some (.var A):=C;rw[F]at k;cases k;show∃j,(st.add p x').ah p=some (.var j);rw[add_same];cases x' with
    |var j=>grind
    |arr _ _ _ _=>exact u.elim
   grind
  .by_cases H:p=o
   .subst H;have k:st.ah p=some (.arr e r l N):=C;rw[F]at k;cases k;show∃K s,(st.add p x').ah p=some (.arr e r K s);rw[add_same];cases x' with
    |var j=>exact u.elim
    |arr e' r' K s=>
     obtain⟨E,O⟩:=u
     grind
   grind
 refine⟨h.mT,h.defers,h.size,h.os,h.tape,h.output,by rw[m];exact h.grow,λc L Q=>?_,λt=>bD.mono le _ _ (h.tmps t),λp y C=>?_,λp y c C L=>?_,λp y q z c C i B L=>?_,λp v A I C=>?_⟩
 .rw[Pj w b arr (λe=>?_)]
  .exact h.kept c L Q
  .rcases(h.lt o x b F J).2 with E|E
   .omega
   grind
 .by_cases e:p=o
  · grind [add_same]
  .rw[g p e]at C;refine cu.mono le p y (λc L=>Pj w b arr (λH=>?_)) rfl (h.ah p y C);exact h.sep p y o x c C F e L ny
 .obtain⟨z,hz⟩:=f p y C;rw[m];exact h.lt p z c hz L
 .obtain⟨y',hy'⟩:=f p y C;obtain⟨R,D⟩:=f q z i;exact h.sep p y' q R c hy' D B L
 .by_cases e:p=o
  .subst e;rw[add_same]at C;cases C;cases x with
   |var j=>exact h.pin p v j I F
   |arr _ _ _ _=>exact u.elim
  .rw[g p e]at C;exact h.pin p v A I C
theorem run_store(f:nY P t ti){m:Nat}{R:Array Value}(J:w.heap[b]? =some (.cells R e (0,0))){v:Value}(i:v.cells.size=ti.cells.len)
 (g:m+v.cells.size<=R.size) (E:∀u∈v.cells.toList,u.oneCell'=true):
 (Instr.storeAt t (.pointer (some ⟨b,m,none⟩)) v).run P w=.ok () (w.setRow b (R.toList.take m++v.cells.toList++R.toList.drop (m+v.cells.toList.length)).toArray):=by
 have h:=run_storeCells_at P b m e v.cells.toList 0 R w J lu E;simp only[Instr.storeAt,Instr.sureAddr,aIb,aIB,aIy,storeVar,f.run_sizeOf]
 grind
theorem ado{g:Nat}{R A:Array Value}(h:w.heap[g]? =some (.cells R e (0,0))):(w.setRow g A).heap[g]? =some (.cells A e (0,0)):=setRow_heap w g R A e (0,0) h
theorem anW(R I:List Value)(o k:Nat)(h:o+I.length<=R.length):
 (R.take o++I++R.drop (o+I.length))[k]? =if k<o then R[k]? else if k<o+I.length then I[k-o]? else R[k]? :=by
 grind
theorem ar8(fr:Bool):∀(r:au)(x:r.den),(au.row fr r x).flatMap Cell.refs=[]
 |.nil,_=>rfl
 |.cons c r,x=>by rw[au.row,aIr,ar8 fr r x.2,aH1];cases c<;>rfl
theorem apL:∀(r:au)(x:r.den),(au.row true r x).all (Cell.fresh st)=true
 |.nil,_=>rfl
 |.cons c r,x=>by rw[au.row,aIw,apL r x.2,aIV];cases c<;>rfl
theorem apM(hΘ:∀t ti,Θ t=some ti->nY P t ti)(h:Rel w0 M T γ st a w)(ht:Θ t=some ti){p:AV}{v:SV}{pv N:Value}{q:Prop}{s:St}
 (D:store st p v=some (q,s)) (hq:q) (C:bD (ak w0 T γ st w) p pv) (K:eP (ak w0 T γ st w) v N) (Y:v.cells.length=ti.cells.len):
 ∃w',(Instr.storeAt t pv N).run P w=.ok () w'/\Rel w0 M T γ s a w':=by
 have f:=eP.cells v N K;have hvl:=ai.length _ _ f;rw[aIH]at hvl;have RV:=ai.ones _ _ f;unfold store at D;split at D
 .next o off=>
  split at D
  .next cs ho=>
   split at D
   .next ZA=>
    cases D;have hle:=aIm ZA;obtain⟨b,cs',_,hγ,hpv⟩:=C;obtain⟨b',arr,ty,hγ',J,W⟩:=h.ah o _ ho;have m:γ o=.pointer (some ⟨b,0,none⟩):=hγ;have Ic:γ o=.pointer (some ⟨b',0,none⟩):=hγ';have hbb:b'=b:=ny;subst hbb;have hal:=ai.length _ _ W;rw[aIH]at hal;rw[hpv];refine⟨_,run_store (hΘ t ti ht) J lu lu RV,?_⟩;refine h.write (x':=.var (splice cs off v.cells)) ho (by rw[m];rfl) trivial _ (λle=>⟨b',_,ty,m,ado J,?_⟩)
    grind [ai.mono,Zz]
   .cases D
  .cases D
 .next o i off=>
  split at D
  .next e r l fr hrefs ho=>
   split at D
   .next x hx ZA=>
    cases D;have hle:=aIm ZA;obtain⟨b,n,y,e2,r2,l2,fr2,ho2,hγ,hpv⟩:=C;have arT:st.ah o=some (.arr e2 r2 l2 fr2):=ho2;rw[ho]at arT;cases arT;obtain⟨z,⟨E,O⟩,hpos,hfr,Z⟩:=h.ah o _ ho;have m:γ o=.slice (some ⟨b,0,none⟩) n y:=hγ;rcases O with⟨hnil,_⟩|⟨g,S,R,hg,_,hh,hlc,hmax,hsz,I⟩
    .omega
    .have Ic:γ o=.slice (some ⟨g,0,none⟩) l.length S:=hg;rw[m]at Ic;simp at Ic;obtain⟨rfl,H,hcap⟩:=Ic;have hmul:i*r.len+r.len<=l.length*r.len:=by
      have:(i+1)*r.len<=l.length*r.len:=aHQ _ hq
      grind
     have aDi:l.length*r.len<=S*r.len:=aHQ _ hlc;rw[hpv];refine⟨_,run_store (hΘ t ti ht) hh lu lu RV,?_⟩;have hli:l[i]? =some (l.getD i r.dflt):=ny;have hRi:=Z i _ hli;have hrc:=afw (ak w0 T γ st w) fr r _ _ hRi;have azm:=Zz off hrc f;have hrl:=aY.length _ _ _ hRi;refine h.write (x':=.arr e r (l.set i x) (fr&&v.cells.all (Cell.fresh st))) ho (by rw[m];rfl) ⟨rfl,rfl⟩ _ (λle=>?_)
     let j:List Value:=R.toList.take (i*r.len+off)++N.cells.toList++R.toList.drop (i*r.len+off+N.cells.toList.length)
     have hnl:j.length=R.size:=by
      grind
     refine⟨j.take (l.length*r.len),⟨?_,.inr ⟨b,y,j.toArray,?_,aHV _,ado hh,?_,?_,?_,?_⟩⟩,hpos,?_,?_⟩
     · grind
     · grind
     · grind
     .omega
     · grind
     · grind
     · grind
     .have e1:R.toList.length=R.size:=aIH;have e2:N.cells.toList.length=N.cells.size:=aIH;have U:∀k,j[k]? =if k<i*r.len+off then R.toList[k]? else if k<i*r.len+off+N.cells.toList.length then N.cells.toList[k-(i*r.len+off)]? else R.toList[k]? :=λk=>anW _ _ _ k lu
      intro B Q hi';have hlt:B<l.length:=by
       grind
      have aAG:B*r.len+r.len<=l.length*r.len:=by
       have:(B+1)*r.len<=l.length*r.len:=aHQ _ hlt
       grind
      show aY (w.setRow b j.toArray).heap (V.dA ⟨w.setRow b j.toArray,w0.heap.size,T,γ,_⟩ (fr&&v.cells.all (Cell.fresh st))) r (((j.take (l.length*r.len)).drop (B*r.len)).take r.len) Q;rw[jb _ _ _ _ aAG];by_cases hii:B=i
      .subst hii;have hxx:Q=x:=by
        grind
       subst hxx;have A:(j.drop (B*r.len)).take r.len=((z.drop (B*r.len)).take r.len).take off++N.cells.toList++((z.drop (B*r.len)).take r.len).drop (off+N.cells.toList.length):=by
        rw[← I,jb _ _ _ _ hmul];apply aIF;intro k;rw[anW _ _ _ k ny];rw[aIs,aIp,U]
        grind
       rw[A];refine aY.mono (λc L=>le.dA _ c L) r _ Q (TU h (fr&&v.cells.all (Cell.fresh st)) r _ _ Q azm hx ?_ ?_)
       · grind [splice,ar8,List.flatMap_eq_nil_iff]
       .intro hf;simp only[aHy]at hf;obtain⟨hf1,hf2⟩:=hf;subst hf1;have hr0:=apL (st:=st) r (l.getD B r.dflt)
        grind [splice]
      .have hx2:l[B]? =some Q:=ny;have hR2:=Z B Q hx2;rw[← I,jb _ _ _ _ aAG]at hR2;have A:(j.drop (B*r.len)).take r.len=(R.toList.drop (B*r.len)).take r.len:=by
        apply aIF;intro k;rw[aIs,aIs,aIp,aIp,U];by_cases u:k<r.len
        .rw[if_pos u,if_pos u];rcases Nat.lt_or_gt_of_ne hii with F|F
         .have:(B+1)*r.len<=i*r.len:=aHQ _ F
          grind
         .have:(i+1)*r.len<=B*r.len:=aHQ _ F
          grind
        grind
       rw[A];refine aY.mono (λc L=>?_) r _ Q hR2;have hc':(ak w0 T γ st w).dA (fr&&v.cells.all (Cell.fresh st)) c:=⟨L.1,λe=>L.2 ny⟩;exact le.dA _ c hc'
   .cases D
  .cases D
 .cases D
structure V.pV(S:Nat->Bool)(X Y:V):Prop where
 n0:Y.n0<=X.n0
 foot:∀b,X.foot b->Y.foot b/\Y.w.heap[b]? =X.w.heap[b]?
 var:∀o cs,S o=false->X.ah o=some (.var cs)->(∃cs',Y.ah o=some (.var cs'))/\Y.γ o=X.γ o
 arr:∀o e r l fr,S o=false->X.ah o=some (.arr e r l fr)->(∃l' fr',Y.ah o=some (.arr e r l' fr'))/\Y.γ o=X.γ o
variable {Y:V}
theorem V.pV.dA{S:Nat->Bool}(h:X.pV S Y)(fr:Bool)(b:Nat)(J:X.dA fr b):Y.dA fr b/\Y.w.heap[b]? =X.w.heap[b]? :=
 ⟨⟨(h.foot b J.1).1,λe=>⟨aHw h.n0 (J.2 e).1,(J.2 e).2.keep (h.foot b J.1).2⟩⟩,(h.foot b J.1).2⟩
variable {S:Nat->Bool}
theorem aX.pV(h:X.pV S Y):∀(c:Cell)(v:Value),aX X c v->aX Y (c.kill S) v
 |.int _ _,_,H|.bool _,_,H|.str _,_,H|.nil,_,H|.junk,_,H=>H
 |.sl e r l fr,v,H=>dw.mono (λb J=>h.dA fr b J) (.sl e r) v l H
 |.ref o,v,⟨⟨e,r,l,fr,hx⟩,hv,h1⟩=>by
  simp only[Cell.kill];cases i:S o with
  |true=>exact h1
  |false=>obtain⟨⟨j,f,B⟩,g⟩:=h.arr o e r l fr i hx;exact⟨⟨e,r,j,f,B⟩,hv.trans g.symm,h1⟩
theorem ai.pV{X Y:V}(h:X.pV S Y):∀(A:List Cell)(I:List Value),ai X A I->ai Y (A.map (Cell.kill S)) I
 |[],[],H=>H
 |c::A,v::I,⟨h1,h2⟩=>⟨aX.pV h c v h1,ai.pV h A I h2⟩
 |[],_::_,H|_::_,[],H=>RS
theorem eP.pV(h:X.pV S Y):∀(c:SV)(v:Value),eP X c v->eP Y (c.kill S) v
 |.one c,v,H=>aX.pV h c v H
 |.agg cs,_,⟨vs,hv,H⟩=>⟨vs,hv,ai.pV h cs _ H⟩
theorem eX.pV{X Y:V}(h:X.pV S Y):∀(A:List SV)(I:List Value),eX X A I->eX Y (A.map (SV.kill S)) I
 |[],[],H=>H
 |c::A,v::I,⟨h1,h2⟩=>⟨eP.pV h c v h1,eX.pV h A I h2⟩
 |[],_::_,H|_::_,[],H=>RS
theorem ja.pV(h:X.pV S Y){A:List Cell}(H:ja X A b):ja Y (A.map (Cell.kill S)) b:=by obtain⟨arr,t,f,J,g,W⟩:=H;exact⟨arr,t,f,(h.foot b J).1,(h.foot b J).2.trans g,ai.pV h A _ W⟩
theorem gB.pV{X Y:V}(h:X.pV S Y):∀(l:List (List Cell))(s:List Value),gB X l s->gB Y (l.map (List.map (Cell.kill S))) s
 |[],[],H=>H
 |cs::l,u::s,⟨⟨b,hu,hk⟩,h2⟩=>⟨⟨b,hu,ja.pV h hk⟩,gB.pV h l s h2⟩
 |[],_::_,H|_::_,[],H=>RS
theorem bD.pV(h:X.pV S Y):∀(c:AV)(v:Value),bD X c v->bD Y (c.kill S) v
 |.undef,_,_=>trivial
 |.sv x,v,H=>eP.pV h x v H
 |.pG xs,_,⟨vs,hv,H⟩=>⟨vs,hv,eX.pV h xs _ H⟩
 |.eG o off,v,⟨b,cs,hx,hγ,hv⟩=>by
  simp only[AV.kill];cases k:S o with
  |true=>trivial
  |false=>
   obtain⟨⟨m,B⟩,g⟩:=h.var o cs k hx;exact⟨b,m,B,g.trans hγ,hv⟩
 |.qf o i off,v,⟨b,n,cap,e,r,l,fr,hx,hγ,hv⟩=>by
  simp only[AV.kill];cases k:S o with
  |true=>trivial
  |false=>
   obtain⟨⟨q,j,B⟩,g⟩:=h.arr o e r l fr k hx;exact⟨b,n,cap,e,r,q,j,B,g.trans hγ,hv⟩
 |.win o i off,v,⟨b,n,cap,e,r,l,fr,hx,hγ,hv⟩=>by
  simp only[AV.kill];cases k:S o with
  |true=>trivial
  |false=>
   obtain⟨⟨q,j,B⟩,g⟩:=h.arr o e r l fr k hx;exact⟨b,n,cap,e,r,q,j,B,g.trans hγ,hv⟩
 |.sS r x off fr,v,⟨b,base,cs,t,fz,hv,hf,J,hr⟩=>
  ⟨b,base,cs,t,fz,hv,(h.dA fr b hf).1,(h.dA fr b hf).2.trans J,aY.mono (λb J=>h.dA fr b J) r _ x hr⟩
 |.dH cs off,v,⟨b,hv,hk⟩=>⟨b,hv,ja.pV h hk⟩
 |.fn f caps,v,⟨us,hv,hk⟩=>⟨us,hv,gB.pV h caps _ hk⟩
theorem cu.pV(h:X.pV S Y)(o:Nat):∀(x:aI),(∀b,blk (X.γ o)=some b->Y.w.heap[b]? =X.w.heap[b]?)->Y.γ o=X.γ o->cu X o x->cu Y o (x.kill S)
 |.var cs,J,hγ,⟨b,arr,t,e,m,hr⟩=>⟨b,arr,t,hγ.trans e,(J b (by rw[e];rfl)).trans m,ai.pV h cs _ hr⟩
 |.arr e r l fr,J,hγ,⟨xs,hown,hr,hf,hx⟩=>by
  refine⟨xs,?_,hr,λb j k=>aHw h.n0 (hf b (hγ▸j) k),λi x D=>aY.mono (λb J=>h.dA fr b J) r _ x (hx i x D)⟩;obtain⟨E,O⟩:=hown;refine⟨E,?_⟩;rcases O with O|⟨g,y,R,K,q,m,f⟩
  · grind
  .exact .inr ⟨g,y,R,hγ.trans K,q,(J g atF).trans m,f⟩
variable {v':Value}
theorem Rel.replace(h:Rel w0 M T γ st a w){x':aI}(own:Option Nat)(u:own=none\/∃x,st.ah o=some x/\own=blk (γ o))
 (K:w'.os=w.os) (E:w'.tape=w.tape) (I:w'.output=w.output) (B:w.heap.size<=w'.heap.size) (j:∀b,b<w.heap.size->some b≠own->w'.heap[b]? =w.heap[b]?)
 (m:∀g,blk v'=some g->(some g=own\/w.heap.size<=g)/\g<w'.heap.size) (U:∀A,x'≠ .var A)
 (Z:(ak w0 T γ st w).pV (Nat.beq o ·) ⟨w',w0.heap.size,T,upd γ o v',((st.kill (Nat.beq o ·)).add o x').ah⟩->cu ⟨w',w0.heap.size,T,upd γ o v',((st.kill (Nat.beq o ·)).add o x').ah⟩ o x'):
 Rel w0 M T (upd γ o v') ((st.kill (Nat.beq o ·)).add o x') a w'/\(ak w0 T γ st w).pV (Nat.beq o ·) ⟨w',w0.heap.size,T,upd γ o v',((st.kill (Nat.beq o ·)).add o x').ah⟩:=by
 have f:∀p y,p≠o->((st.kill (Nat.beq o ·)).add o x').ah p=some y->∃z,st.ah p=some z/\y=z.kill (Nat.beq o ·):=by
  grind [qG,AL]
 have F:∀p z,p≠o->st.ah p=some z->((st.kill (Nat.beq o ·)).add o x').ah p=some (z.kill (Nat.beq o ·)):=by
  grind [qG,qE,Qv]
 have D:∀b,(∀x,st.ah o=some x->blk (γ o)≠some b)->some b≠own:=by
  grind
 have le:(ak w0 T γ st w).pV (Nat.beq o ·) ⟨w',w0.heap.size,T,upd γ o v',((st.kill (Nat.beq o ·)).add o x').ah⟩:=by
  refine⟨aHv _,λb J=>⟨⟨aHR J.1 B,J.2.1,λp y C=>?_⟩,j b J.1 (D b (λx Z=>J.2.2 o x Z))⟩,λp A hS C=>?_,λp e r l W hS C=>?_⟩
  .show blk (upd γ o v' p)≠some b;by_cases e:p=o
   .rw[e,upd_same];intro H;rcases(m b H).1 with h1|h1
    .exact D b (λx Z=>J.2.2 o x Z) h1
    .have:b<w.heap.size:=J.1;omega
   .rw[sF γ v' e];obtain⟨z,s,_⟩:=f p y e C;exact J.2.2 p z s
  .have hne:p≠o:=λe=>XH;exact⟨⟨_,F p _ hne C⟩,sF γ v' hne⟩
  .have hne:p≠o:=λe=>XH;exact⟨⟨l,W,F p _ hne C⟩,sF γ v' hne⟩
 refine⟨⟨h.mT,h.defers,h.size,K.trans h.os,E.trans h.tape,I.trans h.output,aHw h.grow B,λb J R=>?_,λt=>bD.pV le _ _ (h.tmps t),λp y C=>?_,λp y b C J=>?_,λp y q z b C i L J=>?_,λp v A hN C=>?_⟩,le⟩
 .rw[j b (aHR J h.grow) (λe=>?_)]
  .exact h.kept b J R
  .rcases u with h0|⟨x,k,h1⟩
   · grind
   .rw[h1]at e;rcases(h.lt o x b k e.symm).2 with h2|h2
    .omega
    .exact R h2
 .by_cases e:p=o
  · grind [add_same]
  .obtain⟨z,s,he⟩:=f p y e C;rw[he];refine cu.pV le p z (λb J=>j b (h.lt p z b s J).1 (D b (λx k H=>h.sep p z o x b s k e J H))) (sF γ v' e) (h.ah p z s)
 .by_cases e:p=o
  .rw[e,upd_same]at J;refine⟨(m b J).2,?_⟩;rcases(m b J).1 with h1|h1
   .rcases u with h0|⟨x,k,h2⟩
    · grind
    .exact(h.lt o x b k ny).2
   .exact .inl (aHw h.grow h1)
  .rw[sF γ v' e]at J;obtain⟨z,s,_⟩:=f p y e C;have:=h.lt p z b s J
   grind
 .have key:∀p y,p≠o->((st.kill (Nat.beq o ·)).add o x').ah p=some y->blk (γ p)=some b->blk v'≠some b:=by
   intro p y e C J H;obtain⟨z,s,_⟩:=f p y e C;rcases(m b H).1 with h1|h1
   .rcases u with h0|⟨x,k,h2⟩
    · grind
    .exact h.sep p z o x b s k e J ny
   .have:=(h.lt p z b s J).1;omega
  by_cases e:p=o
  · grind [upd_same,sF]
  .rw[sF γ v' e]at J;by_cases Q:q=o
   · grind [upd_same]
   .rw[sF γ v' Q];obtain⟨y',N,_⟩:=f p y e C;obtain⟨z',O,_⟩:=f q z Q i;exact h.sep p y' q z' b N O L J
 .by_cases e:p=o
  · grind [add_same]
  .obtain⟨z,s,he⟩:=f p _ e C;rw[sF γ v' e];cases z with
   |var cs'=>exact h.pin p v cs' hN s
   |arr _ _ _ _=>cases he
theorem Cell.ar9(h:Rel w0 M T γ st a w){r:au}{x:Cell}{v:Value}{l:List r.den}(Z:aX (ak w0 T γ st w) x v)(f:x.get st (.sl e r)=some l):
 Nz w.heap (λb=>b<w.heap.size) r.len (λI y=>aY w.heap ((ak w0 T γ st w).dA (x.AB r st)) r I y) v l:=by
 suffices hs:Nz w.heap (λb=>b<w.heap.size) r.len (λI y=>aY w.heap ((ak w0 T γ st w).dA (x.fresh st)) r I y) v l by
  refine hs.mono (λb J=>⟨J,rfl⟩) λI y B=>?_
  grind [Cell.AB,aY.flat]
 cases x<;>simp only[Cell.get]at f<;>try (cases f;done)
 .cases f;have K:v=.slice none 0 0:=Z;subst K;exact⟨aHV _,.inl ⟨rfl,none,0,rfl⟩⟩
 .next L s m N=>
  split at f
  .next J=>have k:=au.eq_of_beq s r J;subst k;cases f;have Z:Nz _ _ _ _ v m:=Z;exact Z.mono (λb J=>⟨J.1.1,rfl⟩) (λI y B=>B)
  .cases f
 .next o=>
  obtain⟨⟨L,s,m,N,F⟩,K,_⟩:=Z;have j:st.ah o=some (.arr L s m N):=F;simp only[j]at f;split at f
  .next J=>
   have k:=au.eq_of_beq s r J;subst k;cases f;rw[K];show Nz _ _ _ _ (γ o) m;have aGT:(Cell.ref o).fresh st=N:=by grind [Cell.fresh]
   obtain⟨z,⟨E,O⟩,W,q,Z⟩:=h.ah o _ j;rcases O with⟨K,H⟩|⟨g,C,R,K,_,f,u,A,hsz,U⟩
   .exact⟨lu,.inl ⟨aH0.1 H,none,0,K⟩⟩
   .refine⟨aHw u A,.inr ⟨g,0,C,R,L,(0,0),K,u,(h.lt o _ g j (by rw[show γ o=_ from K];rfl)).1,f,λi x D=>?_⟩⟩;have Q:i<m.length:=(aHN.1 D).1;have hmul:i*s.len+s.len<=m.length*s.len:=by
     have:(i+1)*s.len<=m.length*s.len:=aHQ _ Q
     grind
    grind [jb]
  .cases f
variable {xs:List Value}
theorem aku{i:TypeInfo}(r:P.underlying t=some (.slice e))(D:P.info? e=some i){base size:Nat}{v:Value}(j:w.ownsRow base e size v n xs)(f:Option Addr)(c:Nat):
 (Builtin.append_ #[t,t] ty #[v,.slice f 0 c]).run P w=.ok v w:=by
 rcases j.2 with⟨rfl,rfl⟩|⟨g,y,R,rfl,_,_,h,_⟩
 .cases f with
  |none=>simp[Builtin.append_,aHZ r,sizeOf,typeInfo,D,Builtin.lenOf,Builtin.firstCells]
  |some f=>simp[Builtin.append_,aHZ r,sizeOf,typeInfo,D,Builtin.lenOf,Builtin.firstCells,loadCells,loadCellsFrom]
 .cases f with
  |none=>simp[Builtin.append_,aHZ r,sizeOf,typeInfo,D,Builtin.lenOf,Builtin.firstCells,h,storeCells]
  |some f=>simp[Builtin.append_,aHZ r,sizeOf,typeInfo,D,Builtin.lenOf,Builtin.firstCells,h,storeCells,loadCells,loadCellsFrom]
theorem aY.ones{h:Array Obj}{S:Nat->Prop}:∀(r:au)(I:List Value)(x:r.den),aY h S r I x->∀v∈I,v.oneCell'=true
 |.nil,I,_,H,v,K=>by grind [aY]
 |.cons c r,I,(x,y),H,v,K=>by
  obtain⟨u,f,rfl,E,O⟩:=H;rcases aHH.1 K with rfl|K
  .cases c with
   |int k=>rw[E.1];rfl
   |bool=>rw[show _=_ from E];rfl
   |str=>rw[E.1];rfl
   |sl e s=>rcases E.2 with⟨_,a,c,K⟩|⟨b,m,g,A,t,i,K,_⟩<;>rw[K]<;>rfl
  .exact aY.ones r f y O v K
theorem asa{i:TypeInfo}{z:Value}{size k:Nat}(r:P.underlying t=some (.slice e))(D:P.info? e=some i)(O:i.zero=some z)(A:i.size=size)(H:i.bytes=k)(N:0<size)
 {v:Value}   (q:w.ownsRow 0 e size v n xs) (C:Addr) (c:Nat) {m:Nat} (l:0<m) {B:List Value} (Q:B.length=m*size) (h:∀j u,B[j]? =some u->w.cell? (C.add j)=some u) (E:∀u∈B,u.oneCell'=true)
 (U:n+m<=9223372036854775807) (s:(n+m)*k<=140737488355328)  {w':World} (W:(Builtin.append_ #[t,t] ty #[v,.slice (some C) m c]).run P w=.ok v' w') {g:Nat} (J:v'.ownBlock=some g):
 v.ownBlock=some g\/w.heap.size<=g:=by
 subst A;subst H;rcases q.2 with⟨rfl,rfl⟩|⟨F,y,R,rfl,_,K,hnc,Z,I,L⟩
 .have f:=run_append_nil (P:=P) w t ty e i z r D O C m c B Q h l lu ny;rw[W]at f;cases f;cases J
  grind
 .by_cases hroom:n+m<=y
  .have hfit:n*i.size+B.length<=R.size:=by rw[Q,I,← aIP];exact aHQ _ hroom
   have f:=run_append_room (P:=P) w t ty e i r D F n y R K C m c B Q h E hroom hfit;rw[W]at f;cases f;exact .inl J
  .have holds:∀j u,xs[j]? =some u->w.cell? ((⟨F,0,none⟩:Addr).add j)=some u:=q.cells (g:=F) rfl;have f:=run_append_grow (P:=P) w t ty e i z r D O ⟨F,0,none⟩ n y xs q.1 holds C m c B Q h lu lu (growslice_fits lu s);rw[W]at f;cases f;cases J
   grind
theorem NP{k:TI}(hT:nY P t ti)(hk:ti.kind=.slice e)(hE:nY P e k)(B:0<k.cells.len){v:Value}(s:w.ownsRow 0 e k.cells.len v n xs)
 {F:Nat->Prop} {C:Value} {f:List k.cells.den} (hs:Nz w.heap (λb=>b<w.heap.size) k.cells.len (λI y=>aY w.heap F k.cells I y) C f) (q:n+f.length<=big):
 ∃v' w' l,(Builtin.append_ #[t,t] ty #[v,C]).run P w=.ok v' w'/\w'.ownsRow 0 e k.cells.len v' (n+f.length) (xs++l)/\w.grownBy w' v.ownBlock/\
  (∀i x,f[i]? =some x->aY w.heap F k.cells ((l.drop (i*k.cells.len)).take k.cells.len) x)/\(∀g,v'.ownBlock=some g->v.ownBlock=some g\/w.heap.size<=g):=by
 obtain⟨i,z,D,hsz,hby,hz,hzv,_⟩:=hE.info;have O:=hT.und;rw[hk]at O;have hzs:z.cells.size=k.cells.len:=by grind [Ho]
 have zero:∀ad c,f=[]->C=.slice ad 0 c->∃v' w' l,(Builtin.append_ #[t,t] ty #[v,C]).run P w=.ok v' w'/\w'.ownsRow 0 e k.cells.len v' (n+f.length) (xs++l)/\w.grownBy w' v.ownBlock/\
  (∀i x,f[i]? =some x->aY w.heap F k.cells ((l.drop (i*k.cells.len)).take k.cells.len) x)/\(∀g,v'.ownBlock=some g->v.ownBlock=some g\/w.heap.size<=g):=by
  intro ad c hn0 K;subst hn0;rw[K];exact⟨v,w,[],aku O.1 D s ad c,ny,⟨rfl,rfl,rfl,aHv _,λ_ _ _=>rfl⟩,(λi x Z=>by simp at Z),λg hg=>.inl hg⟩
 rcases hs.2 with⟨hn0,ad,c,K⟩|⟨b,m,R,A,ty2,fz,K,hcap,hlt,J,Z⟩
 · grind
 .by_cases h0:f=[]
  · grind
  .have hm:0<f.length:=List.length_pos_iff.2 h0;have h:(f.length-1)*k.cells.len+k.cells.len=f.length*k.cells.len:=by rw[← Nat.succ_mul];congr 1;omega
   have aF7:m+f.length*k.cells.len<=A.toList.length:=by
    have Q:f.length-1<f.length:=lu;have H:=Z (f.length-1) _ (aHK Q);have:=aY.length _ _ _ H
    grind
   let l:List Value:=(A.toList.drop m).take (f.length*k.cells.len)
   have L:l.length=f.length*k.cells.len:=by
    grind
   have r:∀j u,l[j]? =some u->w.cell? ((⟨b,m,none⟩:Addr).add j)=some u:=by intro j u hj;rw[addr_add];exact Zx J _ j u hj
   have RV:∀u∈l,u.oneCell'=true:=by
    intro u O;obtain⟨j,hj⟩:=aJq O;have hjl:j<l.length:=(aHN.1 hj).1;rw[L]at hjl;have E:j / k.cells.len<f.length:=Nat.div_lt_of_lt_mul ny;have hR:=Z (j / k.cells.len) _ (aHK E);refine aY.ones _ _ _ hR u ?_;have hdm:=Nat.div_add_mod j k.cells.len;have hml:=Nat.mod_lt j B;refine aH5 (i:=j%k.cells.len) ?_
    grind
   have U:=hE.small;unfold big at q;obtain⟨v',w',W,N,hg,_⟩:=run_append_own (P:=P) w 0 t ty e i z k.cells.len k.bytes O.1 D hz hsz hby hzs B v n xs s ⟨b,m,none⟩ f.length R l L r RV
    (by grind [maxLen]) (by have:(n+f.length)*k.bytes<=4294967296*4096:=aKg q U;omega) (aHV _)
   refine⟨v',w',l,ny,N,hg,λi x D=>?_,λg hgb=>?_⟩
   rotate_left
   .exact asa (P:=P) O.1 D hz hsz hby B s ⟨b,m,none⟩ R hm L r RV lu (by have:(n+f.length)*k.bytes<=4294967296*4096:=aKg q U;omega) W hgb
   have E:i<f.length:=(aHN.1 D).1;have hmul:i*k.cells.len+k.cells.len<=f.length*k.cells.len:=by
    have:(i+1)*k.cells.len<=f.length*k.cells.len:=aHQ _ E
    grind
   grind [jb,List.drop_drop]
theorem TW{v:Value}(h:∀a,v≠ .pointer (some a)):v.ownBlock=blk v:=by
 cases v with
 |slice a n c=>cases a<;>rfl
 |pointer a=>cases a with
  |none=>rfl
  |some a=>grind
 |_=>rfl
theorem apN{base size:Nat}(f:w'.ownsRow base e size v' n xs):
 ∀g,blk v'=some g->g<w'.heap.size:=by
 intro g J;rcases f.2 with⟨E,_⟩|⟨h,y,R,E,_,i,_⟩
 .rw[E]at J;cases J
 .rw[E]at J;cases J
  grind
theorem aqU(Z:∀t ti,Θ t=some ti->nY P t ti)(h:Rel w0 M T γ st a w){j:TI}(ht:Θ t=some ti)(hk:ti.kind=.slice e)(he:Θ e=some j){r:au}{l:List r.den}{fr:Bool}
 (F:st.ah o=some (.arr e r l fr)) (k:j.cells.beq r=true) {y:Cell} {f:List j.cells.den} {v src:Value} (K:aX (ak w0 T γ st w) (.ref o) v) (B:aX (ak w0 T γ st w) y src)
 (H:y.get st (.sl e j.cells)=some f) (C:l.length+f.length<=big):
 ∃u w' γ',(Builtin.append_ #[t,t] ty #[v,src]).run P w=.ok u w'/\Rel w0 M T γ' ((st.kill (Nat.beq o ·)).add o (.arr e r (l++xJ k f) (fr&&y.AB j.cells st))) a w'/\
  bD (ak w0 T γ' ((st.kill (Nat.beq o ·)).add o (.arr e r (l++xJ k f) (fr&&y.AB j.cells st))) w') (.sv (.one (.ref o))) u:=by
 have W:=au.eq_of_beq _ _ k;subst W;obtain⟨_,U,_⟩:=K;subst U;obtain⟨xs,q,s,hfr,O⟩:=h.ah o _ F;obtain⟨v',w',ns,Q,m,D,hnr,hgb⟩:=NP (P:=P) (ty:=ty) (Z t ti ht) hk (Z e j he) s q (Cell.ar9 h B H) C;have hlen:(l++xJ k f).length=l.length+f.length:=by rw[aHu];rfl
 have hnp:∀ad,γ o≠ .pointer (some ad):=by
  rcases q.2 with⟨E,_⟩|⟨g,z,R,E,_⟩
  · grind
  grind
 have aEU:v'.oneCell'=true:=by rcases m.2 with⟨E,_⟩|⟨g,z,R,E,_⟩<;>rw[E]<;>rfl
 have hown2:=TW hnp;have N:∀g,blk v'=some g->(some g=blk (γ o)\/w.heap.size<=g)/\g<w'.heap.size:=by
  intro g J;refine⟨?_,apN m g J⟩;have hb2:v'.ownBlock=some g:=by
   rw[TW (λad A=>?_)]
   .exact J
   .rcases m.2 with⟨E,_⟩|⟨g,z,R,E,_⟩<;>rw[A]at E<;>cases E
  grind
 obtain⟨hR,_⟩:=h.replace (w':=w') (o:=o) (v':=v') (x':=.arr e j.cells (l++xJ k f) (fr&&y.AB j.cells st)) (blk (γ o)) (.inr ⟨_,F,rfl⟩) D.os D.tape D.output D.size
  (λb J hne=>D.block b J ny) N (λ_ e=>Q7) (λle=>by
    refine⟨xs++ns,?_,s,?_,?_⟩
    · grind [upd_same]
    .intro b J hf;have J:blk (upd γ o v' o)=some b:=J;rw[upd_same]at J;rcases(N b J).1 with E|E
     · grind
     .exact aHw h.grow E
    .intro i x hi;have hxl:xs.length=l.length*j.cells.len:=q.1;by_cases I:i<l.length
     .rw[aIz I]at hi;have hmul:i*j.cells.len+j.cells.len<=l.length*j.cells.len:=by
       have:(i+1)*j.cells.len<=l.length*j.cells.len:=aHQ _ I
       grind
      have A:((xs++ns).drop (i*j.cells.len)).take j.cells.len=(xs.drop (i*j.cells.len)).take j.cells.len:=by
       grind
      rw[A];refine aY.mono (λc L=>le.dA _ c ⟨L.1,λe2=>L.2 ny⟩) _ _ x (O i x hi)
     .rw[aIJ lu]at hi;have A:((xs++ns).drop (i*j.cells.len)).take j.cells.len=(ns.drop ((i-l.length)*j.cells.len)).take j.cells.len:=by
       have e2:i*j.cells.len=xs.length+(i-l.length)*j.cells.len:=by rw[hxl,← aIP];congr 1;omega
       grind [List.drop_drop,List.drop_left]
      rw[A];refine aY.mono (λc L=>le.dA _ c ⟨L.1,λe2=>L.2 ny⟩) _ _ x (hnr _ x hi))
 exact⟨v',w',_,Q,hR,⟨e,j.cells,_,_,add_same _ _ _⟩,(upd_same _ _ _).symm,aEU⟩
end Go.Fw
