import Derived.WalkKit
import Derived.Laws.AppendOwnNone
import Derived.KernelRfl
import Derived.Deep.MidRow
import Derived.Great.BuildSlice
import Derived.Laws.StructEq
import Derived.Great.FillDense
import Derived.Laws.MakeOwn
import Derived.Laws.BytesString
import Derived.Laws.IdiomStrings
abbrev avn:=@List.length_append
abbrev avo:=@Bool.and_eq_true
abbrev avp:=@beq_eq_false_iff_ne
abbrev avq:=@List.length_cons
abbrev avr:=@List.getD_eq_getElem?_getD
abbrev avs:=@Nat.eq_of_beq_eq_true
abbrev avt:=@Nat.le_refl
abbrev avu:=@List.length_nil
abbrev avv:=@List.getElem?_eq_getElem
abbrev avw:=@Array.getElem?_eq_some_iff
abbrev avx:=@Nat.le_trans
abbrev avy:=@List.mem_cons_of_mem
abbrev avz:=@List.length_take
abbrev avA:=@List.mem_cons_self
abbrev avC:=@decide_eq_true_eq
abbrev avD:=@decide_eq_true
abbrev avE:=@List.append_assoc
abbrev avF:=@List.mem_cons
abbrev avG:=@List.getElem?_eq_some_iff
abbrev avH:=@decide_eq_false
abbrev avI:=@List.length_map
abbrev avJ:=@Int.toNat_natCast
abbrev avK:=@List.map_cons
abbrev avL:=@List.all_eq_true
abbrev avM:=@Nat.zero_le
abbrev avN:=@Nat.lt_or_ge
abbrev avO:=@Nat.mul_le_mul_right
abbrev avP:=@List.mem_singleton
abbrev avQ:=@Go.Sem.run_bind
abbrev avR:=@List.mem_append
abbrev avS:=@beq_iff_eq
abbrev avT:=@Nat.lt_of_lt_of_le
abbrev avU:=@List.append_nil
abbrev avV:=@Nat.zero_add
abbrev avW:=@List.length_drop
abbrev avY:=@Go.run_underlying
abbrev avZ:=@List.length_set
abbrev av1:=@List.getElem?_append_right
abbrev av2:=@Go.Calls.mono
abbrev av3:=@Bool.eq_iff_iff
abbrev av4:=@List.getElem?_take
abbrev av5:=@List.getElem?_drop
abbrev av6:=@List.take_of_length_le
abbrev av7:=@decide_eq_false_iff_not
abbrev av8:=@Nat.add_mul
abbrev av9:=@Nat.le_succ_of_le
abbrev awc:=@List.mem_of_getElem?
abbrev awd:=@Array.length_toList
abbrev awe:=@List.getElem?_append_left
abbrev awf:=@Go.heap_alloc_new
abbrev awg:=@List.mem_append_left
abbrev awh:=@List.mem_range
abbrev awi:=@Nat.beq_refl
abbrev awj:=@List.append_eq_nil_iff
abbrev awk:=@Int.le_refl
abbrev awl:=@Go.Result.andThen_ok
abbrev awm:=@List.length_eq_zero_iff
abbrev awn:=@List.getElem?_map
abbrev awo:=@List.nil_append
abbrev awq:=@List.getElem?_set_ne
abbrev awr:=@Option.map_some
abbrev aws:=@List.map_append
abbrev awt:=@List.sum_cons
abbrev awu:=@List.take_succ_eq_append_getElem
abbrev awv:=@Nat.not_lt_zero
abbrev aww:=@List.getElem?_eq_none
abbrev awx:=@Go.Sem.run_pure
abbrev awy:=@Nat.le_of_ble_eq_true
abbrev awz:=@List.mem_append_right
abbrev awC:=@Bool.or_eq_true
abbrev awD:=@List.cons_append
abbrev awE:=@List.take_length
abbrev awF:=@beq_self_eq_true
abbrev awG:=@List.flatMap_cons
abbrev awH:=@List.all_cons
abbrev awI:=@List.getElem?_take_of_lt
abbrev awJ:=@List.mem_map
abbrev awK:=@Bool.or_eq_false_iff
abbrev awL:=@Classical.byContradiction
abbrev awM:=@List.getElem?_set_self
abbrev awN:=@List.drop_of_length_le
abbrev awO:=@Bool.and_false
abbrev awP:=@List.take_succ_cons
abbrev awQ:=@of_decide_eq_true
abbrev awR:=@List.drop_append_of_le_length
abbrev awS:=@List.getElem_of_mem
abbrev awT:=@Go.bodyPost_ret
abbrev awU:=@List.mem_of_mem_drop
abbrev awV:=@List.getElem_mem
abbrev awW:=@List.map_map
abbrev awX:=@Nat.succ_pos
abbrev awY:=@List.drop_eq_getElem_cons
abbrev awZ:=@Bool.false_eq_true
abbrev aw0:=@Nat.add_zero
abbrev aw1:=@List.drop_drop
abbrev aw2:=@List.mem_of_mem_take
abbrev aw3:=@Go.World.cell?_of_block
abbrev aw4:=@List.size_toArray
abbrev aw5:=@Bool.not_eq_true'
abbrev aw6:=@and_congr_right
abbrev aw7:=@List.map_congr_left
abbrev aw8:=@Array.ext'
abbrev aw9:=@Nat.lt_succ_self
abbrev axa:=@List.take_append_drop
abbrev axb:=@List.drop_zero
abbrev axc:=@List.pairwise_cons
abbrev axd:=@Nat.eq_zero_or_pos
abbrev axe:=@List.mem_filterMap
abbrev axf:=@Option.map_none
abbrev axg:=@List.mem_iff_getElem
abbrev axh:=@List.sum_append
abbrev axi:=@List.ext_getElem?
abbrev axj:=@Bool.true_and
abbrev axk:=@List.take_append_of_le_length
abbrev axl:=@Ne.symm
abbrev axm:=@Bool.false_and
abbrev axn:=@Go.results_cell_tmp
abbrev axo:=@Go.results_cell_row
abbrev axp:=@Array.getD_eq_getD_getElem?
abbrev axq:=@List.getElem?_tail
abbrev axr:=@Prod.ext_iff
abbrev axs:=@Go.World.ownsRow.drew
abbrev axt:=@Bool.and_eq_false_iff
abbrev axu:=@Array.getElem?_append_left
abbrev axv:=@Go.World.ownsRow_nil
abbrev axw:=@Go.info_parts
abbrev axx:=@List.pairwise_iff_getElem
abbrev axy:=@List.take_zero
abbrev axz:=@Nat.zero_mul
abbrev axA:=@Array.toList_map
abbrev axB:=@Int.add_zero
abbrev axC:=@Array.toList_append
abbrev axD:=@List.getElem?_replicate
abbrev axE:=@Bool.and_true
abbrev axF:=@Int.mul_le_mul_of_nonneg_right
abbrev axG:=@Array.getElem?_eq_none
abbrev axH:=@Option.map_eq_some_iff
abbrev axI:=@Nat.lt_succ_of_lt
abbrev axJ:=@Nat.sub_self
abbrev axK:=@if_false
abbrev axL:=@Nat.ble_eq
abbrev axM:=@List.getElem?_of_mem
abbrev axN:=@List.ext_getElem
abbrev axO:=@cond_false
abbrev axP:=@Option.getD_some
abbrev axQ:=@List.length_eraseIdx_of_lt
abbrev axR:=@Nat.mul_one
abbrev axS:=@List.toList_toArray
abbrev axT:=@List.length_pos_iff
abbrev axU:=@Nat.min_eq_left
abbrev axV:=@Array.mapM_eq_mapM_toList
abbrev axW:=@List.range_succ
abbrev axX:=@List.mem_filter
abbrev axY:=@List.all_append
abbrev axZ:=@true_and
abbrev ax0:=@Nat.mul_comm
abbrev ax1:=@Nat.add_sub_cancel
abbrev ax2:=@Nat.one_le_two_pow
abbrev ax3:=@List.take_take
abbrev ax4:=@Nat.blt_eq
abbrev ax5:=@Nat.not_lt
abbrev ax6:=@List.flatMap_eq_nil_iff
abbrev ax7:=@List.map_id
abbrev ax8:=@Nat.one_mul
abbrev ax9:=@Bool.false_or
abbrev aya:=@List.getElem_map
abbrev ayb:=@List.mem_flatMap
abbrev ayc:=@List.cons_ne_nil
abbrev ayd:=@Array.getElem?_modify
abbrev aye:=@List.length_mergeSort
abbrev ayf:=@List.length_filter_le
abbrev ayg:=@Array.getElem?_setIfInBounds_ne
abbrev ayh:=@Int.tmod_nonneg
abbrev ayi:=@Nat.mod_lt
abbrev ayj:=@Nat.add_comm
abbrev ayk:=@Go.Oper.upon_enter
abbrev ayl:=@List.map_nil
abbrev aym:=@Nat.le_of_lt
abbrev ayn:=@List.pairwise_append
abbrev ayo:=@Bool.or_true
abbrev ayp:=@List.drop_succ_cons
abbrev ayq:=@Int.toNat_of_nonneg
abbrev ayr:=@List.drop_take
abbrev ays:=@List.drop_left
abbrev ayt:=@cond_true
abbrev ayu:=@Nat.add_mul_mod_self_right
abbrev ayv:=@List.any_eq_false
abbrev ayw:=@List.pairwise_map
abbrev ayx:=@Bool.eq_false_iff
abbrev ayy:=@Array.getElem?_eq_getElem
abbrev ayz:=@List.getElem?_eq_none_iff
abbrev ayA:=@Nat.mod_eq_of_lt
abbrev ayB:=@and_true
abbrev ayC:=@List.all_nil
abbrev ayD:=@List.not_mem_nil
abbrev ayE:=@Prod.ext
abbrev ayF:=@Nat.le_of_not_lt
abbrev ayG:=@Nat.succ_le_succ
abbrev ayH:=@Int.natAbs_tmod
abbrev ayI:=@List.foldl_cons
abbrev ayJ:=@List.mapM_cons
abbrev ayK:=@Nat.mul_le_mul
abbrev ayL:=@List.take_left
theorem abn{p:Prop}(h:p:=by omega):p:=h
theorem abu{p:Prop}(h:p:=by kernel_rfl):p:=h
theorem abA{p:Prop}(h:p:=by decide):p:=h
theorem acA{p:Prop}(h:p:=by simp):p:=h
theorem acG{p:Prop}(h:p:=by simpa using h):p:=h
theorem ac2{p:Prop}(h:p:=by rw[maxLen_eq];omega):p:=h
theorem ac7{p:Prop}(h:p:=by simp[Act.eval]):p:=h
theorem adK{p:Prop}(h:p:=by simp;omega):p:=h
theorem afg{p:Prop}(h:p:=by cases hx):p:=h
theorem afw{p:Prop}(h:p:=by dsimp only;omega):p:=h
theorem afA{p:Prop}(h:p:=by intro u hu;simp at hu;rcases hu with rfl|rfl<;>rfl):p:=h
theorem afM{p:Prop}(h:p:=by cases H):p:=h
theorem agk{p:Prop}(h:p:=by cases h):p:=h
theorem agl{p:Prop}(h:p:=by simp[execOp,hop]):p:=h
theorem ahp{p:Prop}(h:p:=by have:(i+1)*r.len<=l.length*r.len:=avO _ hlt;rw[av8]at this;simpa using this):p:=h
theorem ahB{p:Prop}(h:p:=by cases e):p:=h
theorem ahQ{p:Prop}(h:p:=by simp only[avn];omega):p:=h
theorem ail{p:Prop}(h:p:=by simpa using hi):p:=h
theorem aiO{p:Prop}(h:p:=by rw[avz];omega):p:=h
theorem aiP{p:Prop}(h:p:=by simpa using h2):p:=h
theorem aiQ{p:Prop}(h:p:=by have:=h (i+1) (by rw[show j+(i+1)=j+1+i by omega];exact hi);simpa using this):p:=h
theorem aj8{p:Prop}(h:p:=by have:=(avw.1 q1).1;simp;(try simp[World.setCell]);omega):p:=h
theorem akl{p:Prop}(h:p:=by rw[one];simp only[Sp.ls,avI,avn,avz,avq,avu];omega):p:=h
theorem akx{p:Prop}(h:p:=by obtain⟨o,Y,ho,hY,_⟩:=hEs hq;rw[hge ho]at hb;exact h.lt o Y b hY hb):p:=h
theorem aky{p:Prop}(h:p:=by show(match os[_ / 64]? with|some (some o)=>γ o|_=>undef)=_;rw[hq]):p:=h
theorem akz{p:Prop}(h:p:=by rintro _ rfl;exact⟨ha1,hbig _ (by rw[avq,avu];omega),rfl,rfl⟩):p:=h
theorem akW{p:Prop}(h:p:=by obtain⟨l⟩:=vs;simp at hvs;rw[hvs,e1]):p:=h
theorem akX{p:Prop}(h:p:=by have h3:¬(Sp.fileAt s1 n).1>=s2:=fO h3;omega):p:=h
theorem akY{p:Prop}(h:p:=by rw[avq,avu];omega):p:=h
theorem akZ{p:Prop}(h:p:=by have:=avG.1 hco;rw[hh.length.1,← hh.length.2];exact this.1):p:=h
theorem amo{p:Prop}(h:p:=by unfold eu;rw[avD a,avD (show n<=1000000000 by omega)];rfl):p:=h
theorem amA{p:Prop}(h:p:=by simp at h):p:=h
theorem amE{p:Prop}(h:p:=by unfold isAgg;rw[avQ,avY hu w];rfl):p:=h
theorem amS{p:Prop}(h:p:=by rw[avW];omega):p:=h
theorem amU{p:Prop}(h:p:=by have:=fO h4;omega):p:=h
theorem amV{p:Prop}(h:p:=by rw[iH];simp only[avq,avu];omega):p:=h
theorem am7{p:Prop}(h:p:=by rw[iH];omega):p:=h
theorem ana{p:Prop}(h:p:=by simpa using hj):p:=h
theorem anb{p:Prop}(h:p:=by have:=fB h4;omega):p:=h
theorem anm{p:Prop}(h:p:=by have:=fB h2;omega):p:=h
theorem anC{p:Prop}(h:p:=by show Sp.ls _=Sp.ls (_++[]);rw[avU]):p:=h
theorem apg{p:Prop}(h:p:=by simp only[AV.kill,h o]):p:=h
theorem apl{p:Prop}(h:p:=by have:=fO h;omega):p:=h
theorem apn{p:Prop}(h:p:=by simpa using hu):p:=h
theorem apo{p:Prop}(h:p:=by apply aw8;simp[hargs]):p:=h
theorem apw{p:Prop}(h:p:=by rw[← av8];exact avO _ (by omega)):p:=h
theorem apA{p:Prop}(h:p:=by have:=own b e.symm;have:=(hN b hb2).1;omega):p:=h
theorem apH{p:Prop}(h:p:=by simp[Region.wanted,hg,hy]):p:=h
theorem apJ{p:Prop}(h:p:=by rw[h1]at h2;cases h2):p:=h
theorem apK{p:Prop}(h:p:=by rw[show j+(i+1)=j+1+i by omega];exact hi):p:=h
theorem aqv{p:Prop}(h:p:=by simpa using h1):p:=h
theorem aqw{p:Prop}(h:p:=by simpa using h3):p:=h
theorem aqx{p:Prop}(h:p:=by simp only[avn,h5,h1,h3];omega):p:=h
theorem aqy{p:Prop}(h:p:=by have:=QI h t _ (by omega) ht p hp;omega):p:=h
theorem aqE{p:Prop}(h:p:=by rw[hv];exact Iw hΘ hs hk hf ht hne b _):p:=h
theorem aqG{p:Prop}(h:p:=by simp only[avq,avu];rw[maxLen_eq];omega):p:=h
theorem aqI{p:Prop}(h:p:=by dsimp only;decide):p:=h
theorem aqN{p:Prop}(h:p:=by simp[iR]at h):p:=h
theorem aqQ{p:Prop}(h:p:=by simp at h;subst h;exact⟨v,rfl,h1⟩):p:=h
theorem aqT{p:Prop}(h:p:=by rfl):p:=h
theorem aqX{p:Prop}(h:p:=by simp[execOp,hop,hv]):p:=h
theorem aqZ{p:Prop}(h:p:=by simp[execOp,hop,hr]):p:=h
theorem aq0{p:Prop}(h:p:=by simp[World.setCell]):p:=h
theorem aq1{p:Prop}(h:p:=by rintro _ ⟨q,at',⟨⟩⟩;rfl):p:=h
theorem aq2{p:Prop}(h:p:=by simp only[avn,h1];omega):p:=h
theorem aq6{p:Prop}(h:p:=by rw[hd];exact Gu Fq):p:=h
theorem aq7{p:Prop}(h:p:=by simpa using ho):p:=h
theorem aq8{p:Prop}(h:p:=by simp[axr]):p:=h
theorem arb{p:Prop}(h:p:=by rw[avH e]):p:=h
theorem arx{p:Prop}(h:p:=by rw[avD e]):p:=h
theorem arz{p:Prop}(h:p:=by rw[avp];intro e;subst e;omega):p:=h
theorem arA{p:Prop}(h:p:=by simp at hi):p:=h
theorem arB{p:Prop}(h:p:=by rw[← hlen];exact(avG.1 hi).1):p:=h
theorem asC{p:Prop}(h:p:=by rw[avJ,Qk];omega):p:=h
theorem asD{p:Prop}(h:p:=by rcases c with rfl|rfl<;>rfl):p:=h
theorem asE{p:Prop}(h:p:=by show b≠w3.heap.size;omega):p:=h
theorem asF{p:Prop}(h:p:=by apply aw8;simp[KZ]):p:=h
theorem asG{p:Prop}(h:p:=by rw[e];exact ahh hw):p:=h
theorem asH{p:Prop}(h:p:=by simpa using hc):p:=h
theorem asI{p:Prop}(h:p:=by simpa using hm):p:=h
theorem asJ{p:Prop}(h:p:=by simp only[avq,avu];omega):p:=h
theorem asK{p:Prop}(h:p:=by cases hy):p:=h
theorem asL{p:Prop}(h:p:=by simpa[jJ]using hf):p:=h
theorem asM{p:Prop}(h:p:=by simp[hl]):p:=h
theorem asN{p:Prop}(h:p:=by rw[e]):p:=h
theorem asO{p:Prop}(h:p:=by have:=fB h3;omega):p:=h
theorem asP{p:Prop}(h:p:=by have:=fO h3;omega):p:=h
theorem asQ{p:Prop}(h:p:=by rw[avn,one];omega):p:=h
theorem asR{p:Prop}(h:p:=by unfold ls;rw[avI]):p:=h
theorem asT{p:Prop}(h:p:=by rw[h];rfl):p:=h
theorem asU{p:Prop}(h:p:=by rw[hsz];omega):p:=h
theorem asV{p:Prop}(h:p:=by rw[avn];omega):p:=h
theorem asW{p:Prop}(h:p:=by rw[e];exact c):p:=h
theorem asX{p:Prop}(h:p:=by cases k<;>decide):p:=h
theorem asY{p:Prop}(h:p:=by have:=fB h;omega):p:=h
theorem asZ{p:Prop}(h:p:=by rw[hv];rfl):p:=h
theorem as1{p:Prop}(h:p:=by rw[hagg.1];simp):p:=h
theorem as2{p:Prop}(h:p:=by rw[hagg.2];simp):p:=h
theorem as3{p:Prop}(h:p:=by rw[h,h1,h2];rfl):p:=h
namespace Go.Fw
open Go
abbrev Bytes:=List UInt8
mutual
inductive CT where
 |int (k:IntKind)
 |bool
 |str
 |sl (e:TypeId) (r:ax)
inductive ax where
 |nil
 |cons (c:CT) (r:ax)
end
mutual
def CT.beq:CT->CT->Bool
 |.int k,.int l=>decide (k=l)
 |.bool,.bool=>true
 |.str,.str=>true
 |.sl e r,.sl f s=>Nat.beq e f&&r.beq s
 |_,_=>false
def ax.beq:ax->ax->Bool
 |.nil,.nil=>true
 |.cons c r,.cons d s=>c.beq d&&r.beq s
 |_,_=>false
end
mutual
theorem CT.eq_of_beq:∀(c d:CT),c.beq d=true->c=d
 |.int k,.int l,h=>by simp[CT.beq]at h;rw[h]
 |.bool,.bool,_=>rfl
 |.str,.str,_=>rfl
 |.sl e r,.sl f s,h=>by
  simp[CT.beq]at h;rw[h.1,ax.eq_of_beq r s h.2]
 |.int _,.bool,h|.int _,.str,h|.int _,.sl _ _,h|.bool,.int _,h|.bool,.str,h|.bool,.sl _ _,h
 |.str,.int _,h|.str,.bool,h|.str,.sl _ _,h|.sl _ _,.int _,h|.sl _ _,.bool,h|.sl _ _,.str,h=>by simp[CT.beq]at h
theorem ax.eq_of_beq:∀(r s:ax),r.beq s=true->r=s
 |.nil,.nil,_=>rfl
 |.cons c r,.cons d s,h=>by
  simp[ax.beq]at h;rw[CT.eq_of_beq c d h.1,ax.eq_of_beq r s h.2]
 |.nil,.cons _ _,h|.cons _ _,.nil,h=>by simp[ax.beq]at h
end
mutual
@[reducible] def CT.den:CT->Type
  |.int _=>Int
  |.bool=>Bool
  |.str=>Bytes
  |.sl _ r=>List r.den
@[reducible] def ax.den:ax->Type
  |.nil=>Unit
  |.cons c r=>c.den×r.den
end
mutual
def CT.dflt:(c:CT)->c.den
 |.int _=>(0:Int)
 |.bool=>false
 |.str=>([]:Bytes)
 |.sl _ r=>([]:List r.den)
def ax.dflt:(r:ax)->r.den
 |.nil=>()
 |.cons c r=>(c.dflt,r.dflt)
end
instance(r:ax):Inhabited r.den:=⟨r.dflt⟩
def ax.len:ax->Nat
 |.nil=>0
 |.cons _ r=>r.len+1
def sG{α:Type}(h:Array Obj)(S:Nat->Prop)(size:Nat)(rep:List Value->α->Prop)(v:Value)(l:List α):Prop:=
 l.length<=maxLen/\
 ((l=[]/\∃a c,v=.slice a 0 c)\/
  ∃b off cap cs t fz,v=.slice (some ⟨b,off,none⟩) l.length cap/\l.length<=cap/\S b/\h[b]? =some (.cells cs t fz)/\
   ∀i x,l[i]? =some x->rep ((cs.toList.drop (off+i*size)).take size) x)
mutual
def cZ(h:Array Obj)(S:Nat->Prop):(c:CT)->Value->c.den->Prop
 |.int k,v,(n:Int)=>v=.int k n/\k.min<=n/\n<=k.max
 |.bool,v,(b:Bool)=>v=.bool b
 |.str,v,(s:Bytes)=>v=.string ⟨s.toArray⟩/\s.length<=maxLen
 |.sl _ r,v,(l:List r.den)=>sG h S r.len (λvs x=>aJ h S r vs x) v l
def aJ(h:Array Obj)(S:Nat->Prop):(r:ax)->List Value->r.den->Prop
 |.nil,vs,_=>vs=[]
 |.cons c r,vs,(x,y)=>∃v vs',vs=v::vs'/\cZ h S c v x/\aJ h S r vs' y
end
def ax.flat:ax->Bool
 |.nil=>true
 |.cons (.sl _ _) _=>false
 |.cons _ r=>r.flat
theorem aJ.flat{h:Array Obj}{S S':Nat->Prop}:∀(r:ax)(vs:List Value)(x:r.den),r.flat=true->aJ h S r vs x->aJ h S' r vs x
 |.nil,_,_,_,hr=>hr
 |.cons (.sl _ _) _,_,_,hf,_=>by simp[ax.flat]at hf
 |.cons (.int _) r,vs,(x,y),hf,hr=>by
  obtain⟨v,vs',h1,h2,h3⟩:=hr;exact⟨v,vs',h1,h2,aJ.flat r vs' y hf h3⟩
 |.cons .bool r,vs,(x,y),hf,hr=>by
  obtain⟨v,vs',h1,h2,h3⟩:=hr;exact⟨v,vs',h1,h2,aJ.flat r vs' y hf h3⟩
 |.cons .str r,vs,(x,y),hf,hr=>by obtain⟨v,vs',h1,h2,h3⟩:=hr;exact⟨v,vs',h1,h2,aJ.flat r vs' y hf h3⟩
theorem sG.mono{α:Type}{h h':Array Obj}{S S':Nat->Prop}{size:Nat}{rep aqu:List Value->α->Prop}{v:Value}{l:List α}
 (H:sG h S size rep v l) (hk:∀b,S b->S' b/\h'[b]? =h[b]?) (hr:∀vs x,rep vs x->aqu vs x):sG h' S' size aqu v l:=by
 obtain⟨hl,H⟩:=H;refine⟨hl,?_⟩;rcases H with H|⟨b,off,cap,cs,t,fz,hv,hc,hS,hb,hx⟩
 .exact .inl H
 .exact .inr ⟨b,off,cap,cs,t,fz,hv,hc,(hk b hS).1,(hk b hS).2.trans hb,λi x hi=>hr _ _ (hx i x hi)⟩
mutual
theorem cZ.mono{h h':Array Obj}{S S':Nat->Prop}(hk:∀b,S b->S' b/\h'[b]? =h[b]?):
 ∀(c:CT)(v:Value)(x:c.den),cZ h S c v x->cZ h' S' c v x
 |.int k,v,(n:Int),H=>by simpa[cZ]using H
 |.bool,v,(b:Bool),H=>by simpa[cZ]using H
 |.str,v,(s:Bytes),H=>by simpa[cZ]using H
 |.sl _ r,v,(l:List r.den),H=>by rw[cZ]at H ⊢;exact H.mono hk (λvs x hx=>aJ.mono hk r vs x hx)
theorem aJ.mono{h h':Array Obj}{S S':Nat->Prop}(hk:∀b,S b->S' b/\h'[b]? =h[b]?):
 ∀(r:ax)(vs:List Value)(x:r.den),aJ h S r vs x->aJ h' S' r vs x
 |.nil,vs,_,H=>by simpa[aJ]using H
 |.cons c r,vs,(x,y),H=>by rw[aJ]at H ⊢;obtain⟨v,vs',e,h1,h2⟩:=H;exact⟨v,vs',e,cZ.mono hk c v x h1,aJ.mono hk r vs' y h2⟩
end
theorem aJ.length{h:Array Obj}{S:Nat->Prop}:∀(r:ax)(vs:List Value)(x:r.den),aJ h S r vs x->vs.length=r.len
 |.nil,vs,_,H=>by rw[aJ]at H;simp[H,ax.len]
 |.cons c r,vs,(x,y),H=>by rw[aJ]at H;obtain⟨v,vs',rfl,_,h2⟩:=H;simp[ax.len,aJ.length r vs' y h2]
end Go.Fw
namespace Go.Fw
open Go
inductive Cell where
 |int (k:IntKind) (n:Int)
 |bool (b:Bool)
 |str (s:Bytes)
 |nil
 |sl (e:TypeId) (r:ax) (l:List r.den) (fr:Bool)
 |ref (o:Nat)
 |junk
inductive SV where
 |one (c:Cell)
 |agg (cs:List Cell)
def SV.cells:SV->List Cell
 |.one c=>[c]
 |.agg cs=>cs
inductive AV where
 |undef
 |sv (v:SV)
 |mJ (vs:List SV)
 |bM (o off:Nat)
 |nT (o:Nat) (i:Nat) (off:Nat)
 |win (o:Nat) (lo:Nat) (n:Nat)
 |qg (r:ax) (x:r.den) (off:Nat) (fr:Bool)
 |fF (cs:List Cell) (off:Nat)
 |fn (f:FuncId) (caps:List (List Cell))
inductive aB where
 |var (cs:List Cell)
 |arr (e:TypeId) (r:ax) (l:List r.den) (fr:Bool)
structure St where
 n:Nat
 tmps:Nat->AV
 ah:Nat->Option aB
def St.set(st:St)(d:Nat)(v:AV):St:={st with tmps:=λt=>match Nat.beq t d with|true=>v|false=>st.tmps t}
def St.put(st:St)(d:Option Nat)(v:AV):St:=match d with|some d=>st.set d v|none=>st
def St.add(st:St)(o:Nat)(x:aB):St:={st with ah:=λi=>match Nat.beq i o with|true=>some x|false=>st.ah i}
def St.adds(st:St):List (Nat×aB)->St
 |[]=>st
 |(o,x)::r=>(st.add o x).adds r
def Cell.kill(S:Nat->Bool):Cell->Cell
 |.ref o=>match S o with|true=>.junk|false=>.ref o
 |c=>c
def SV.kill(S:Nat->Bool):SV->SV
 |.one c=>.one (c.kill S)
 |.agg cs=>.agg (cs.map (Cell.kill S))
def AV.kill(S:Nat->Bool):AV->AV
 |.undef=>.undef
 |.sv v=>.sv (v.kill S)
 |.mJ vs=>.mJ (vs.map (SV.kill S))
 |.bM o off=>match S o with|true=>.undef|false=>.bM o off
 |.nT o i off=>match S o with|true=>.undef|false=>.nT o i off
 |.win o i off=>match S o with|true=>.undef|false=>.win o i off
 |.qg r x off fr=>.qg r x off fr
 |.fF cs off=>.fF (cs.map (Cell.kill S)) off
 |.fn f caps=>.fn f (caps.map (List.map (Cell.kill S)))
def aB.kill(S:Nat->Bool):aB->aB
 |.var cs=>.var (cs.map (Cell.kill S))
 |.arr e r l fr=>.arr e r l fr
def St.kill(st:St)(S:Nat->Bool):St:=
 {n:=st.n,tmps:=λt=>(st.tmps t).kill S,ah:=λo=>match S o with|true=>none|false=>(st.ah o).map (aB.kill S)}
def Cell.freeze(st:St)(S:Nat->Bool):Cell->Cell
 |.ref o=>match S o with
  |true=>match st.ah o with
   |some (.arr e r l fr)=>.sl e r l fr
   |_=>.junk
  |false=>.ref o
 |c=>c
def SV.freeze(st:St)(S:Nat->Bool):SV->SV
 |.one c=>.one (c.freeze st S)
 |.agg cs=>.agg (cs.map (Cell.freeze st S))
def AV.freeze(st:St)(S:Nat->Bool):AV->AV
 |.undef=>.undef
 |.sv v=>.sv (v.freeze st S)
 |.mJ vs=>.mJ (vs.map (SV.freeze st S))
 |.bM o off=>match S o with|true=>.undef|false=>.bM o off
 |.nT o i off=>match S o with|true=>.undef|false=>.nT o i off
 |.win o i off=>match S o with|true=>.undef|false=>.win o i off
 |.qg r x off fr=>.qg r x off fr
 |.fF cs off=>.fF (cs.map (Cell.freeze st S)) off
 |.fn f caps=>.fn f (caps.map (List.map (Cell.freeze st S)))
def aB.freeze(st:St)(S:Nat->Bool):aB->aB
 |.var cs=>.var (cs.map (Cell.freeze st S))
 |.arr e r l fr=>.arr e r l fr
def St.freeze(st:St)(S:Nat->Bool):St:=
 {n:=st.n,tmps:=λt=>(st.tmps t).freeze st S,ah:=λo=>match S o with|true=>none|false=>(st.ah o).map (aB.freeze st S)}
inductive TK where
 |scalar
 |str
 |slice (e:TypeId)
 |struct (fs:List (Nat×TypeId))
structure TI where
 kind:TK
 cells:ax
 bytes:Nat
 cmp:Bool
def TI.agg(ti:TI):Bool:=match ti.kind with|.struct _=>true|_=>false
abbrev jr:=TypeId->Option TI
def CT.zero:CT->Cell
 |.int k=>.int k 0
 |.bool=>.bool false
 |.str=>.str []
 |.sl _ _=>.nil
def ax.zeros:ax->List Cell
 |.nil=>[]
 |.cons c r=>c.zero::r.zeros
def tV{r s:ax}(h:r.beq s=true)(l:List r.den):List s.den:=ax.eq_of_beq r s h▸l
def Cell.get(st:St):(c:CT)->Cell->Option c.den
 |.int k,.int l n=>match decide (k=l)with|true=>some n|false=>none
 |.bool,.bool b=>some b
 |.str,.str s=>some s
 |.sl _ _,.nil=>some []
 |.sl _ r,.sl _ s l _=>if h:s.beq r=true then some (tV h l)else none
 |.sl _ r,.ref o=>match st.ah o with
  |some (.arr _ s l _)=>if h:s.beq r=true then some (tV h l)else none
  |_=>none
 |_,_=>none
def Ai(st:St):(r:ax)->List Cell->Option r.den
 |.nil,[]=>some ()
 |.cons c r,x::xs=>match x.get st c,Ai st r xs with
  |some a,some b=>some (a,b)
  |_,_=>none
 |_,_=>none
def Cell.fresh(st:St):Cell->Bool
 |.sl _ _ _ fr=>fr
 |.ref o=>match st.ah o with|some (.arr _ _ _ fr)=>fr|_=>false
 |.junk=>false
 |_=>true
def Cell.wQ(r:ax)(st:St)(y:Cell):Bool:=match r.flat with
 |true=>true
 |false=>y.fresh st
def CT.cell(fr:Bool):(c:CT)->c.den->Cell
 |.int k,(n:Int)=>.int k n
 |.bool,(b:Bool)=>.bool b
 |.str,(s:Bytes)=>.str s
 |.sl e r,(l:List r.den)=>.sl e r l fr
def ax.row(fr:Bool):(r:ax)->r.den->List Cell
 |.nil,_=>[]
 |.cons c r,x=>c.cell fr x.1::ax.row fr r x.2
def adS:Value->AV
 |.int k n=>match decide (k.min<=n)&&decide (n<=k.max)with|true=>.sv (.one (.int k n))|false=>.undef
 |.bool b=>.sv (.one (.bool b))
 |.string s=>match decide (s.data.toList.length<=maxLen)with|true=>.sv (.one (.str s.data.toList))|false=>.undef
 |.slice none 0 0=>.sv (.one .nil)
 |_=>.undef
def St.ev(st:St):Operand->AV
 |.tmp t=>st.tmps t
 |.const v=>adS v
 |.func f=>.fn f []
 |.global _=>.undef
end Go.Fw
namespace Go.Fw
open Go
def big:Nat:=4294967296
inductive fH where
 |plain (x:Cell)
 |own (e:TypeId) (r:ax) (l:List r.den) (fr:Bool)
structure Out where
 ahi:List (Bool×List fH)
 var:Option (List Cell)
def Cell.made:Cell->Bool
 |.sl _ _ _ fr=>fr
 |.ref _=>false
 |_=>true
def fH.made:fH->Bool
 |.plain c=>c.made
 |.own _ _ _ fr=>fr
def Out.made(o:Out):Bool:=match o.var with
 |some cs=>cs.all Cell.made
 |none=>o.ahi.all λx=>x.2.all fH.made
inductive Arg where
 |sv (v:SV)
 |kp (cs:List Cell)
 |fn (f:FuncId) (caps:List (List Cell))
 |own (e:TypeId) (r:ax) (l:List r.den)
 |ptr (cs:List Cell)
abbrev EU:=List Arg->Option (Prop×Out)
inductive Mode where
 |val
 |own
 |ptr
inductive Eff where
 |lose
 |arr (e:TypeId) (r:ax) (l:List r.den)
 |var (cs:List Cell)
structure Jr where
 T:Type
 R:T->Prop
 out:T->Out
 aH:T->List Eff
abbrev Dt:=List Arg->Option (Prop×Jr)
inductive Js where
 |pure (c:EU)
 |eff (ms:List Mode) (c:Dt)
abbrev kR:=FuncId->Option Js
def Cell.view(st:St):Cell->Cell
 |.ref o=>match st.ah o with
  |some (.arr e r l _)=>.sl e r l false
  |_=>.junk
 |.sl e r l _=>.sl e r l false
 |c=>c
def SV.view(st:St):SV->SV
 |.one c=>.one (c.view st)
 |.agg cs=>.agg (cs.map (Cell.view st))
def Cell.ok(st:St):Cell->Bool
 |.ref o=>match st.ah o with
  |some (.arr _ _ _ _)=>true
  |_=>false
 |_=>true
def oZ(st:St):List AV->Option (List Arg)
 |[]=>some []
 |x::r=>match x,oZ st r with
  |.sv v,some vs=>match v.cells.all (Cell.ok st)with
   |true=>some (.sv (v.view st)::vs)
   |false=>none
  |.fF cs off,some vs=>match Nat.beq off 0&&cs.all (Cell.ok st)with
   |true=>some (.kp (cs.map (Cell.view st))::vs)
   |false=>none
  |.fn f caps,some vs=>match caps.all (List.all · (Cell.ok st))with
   |true=>some (.fn f (caps.map (List.map (Cell.view st)))::vs)
   |false=>none
  |_,_=>none
def handed(st:St)(xs:List Operand)(caps:List (List Cell)):List AV:=xs.map st.ev++caps.map λcs=>.fF cs 0
def heldBy(st:St):List Operand->Option (List (List Cell))
 |[]=>some []
 |x::r=>match st.ev x,heldBy st r with
  |.fF cs off,some l=>match Nat.beq off 0 with
   |true=>some (cs::l)
   |false=>none
  |_,_=>none
def fH.take(k:Nat):fH->Cell×List (Nat×aB)
 |.plain c=>(c,[])
 |.own e r l fr=>(.ref k,[(k,.arr e r l fr)])
def jR(k:Nat):List fH->List Cell×List (Nat×aB)
 |[]=>([],[])
 |x::r=>((x.take k).1::(jR (k+1) r).1,(x.take k).2++(jR (k+1) r).2)
def vU(k:Nat)(x:Bool×List fH):SV×List (Nat×aB):=
 match x.1,jR k x.2 with
 |true,(cs,δ)=>(.agg cs,δ)
 |false,([c],δ)=>(.one c,δ)
 |false,(_,δ)=>(.one .junk,δ)
def iK(k:Nat):List (Bool×List fH)->List SV×List (Nat×aB)
 |[]=>([],[])
 |x::r=>((vU k x).1::(iK (k+x.2.length) r).1,(vU k x).2++(iK (k+x.2.length) r).2)
def Out.take(k:Nat)(o:Out):AV×List (Nat×aB):=
 match o.var with
 |some cs=>(.bM (k-1) 0,[(k-1,.var cs)])
 |none=>match iK k o.ahi with
  |([v],δ)=>(.sv v,δ)
  |(vs,δ)=>(.mJ vs,δ)
def bitsOf(op:BinOp)(k:IntKind)(x y:Int):Int:=
 let a:=BitVec.ofInt k.bits x
 let b:=BitVec.ofInt k.bits y
 match op with
 |.and=>k.wrap (a&&&b).toNat
 |.or=>k.wrap (a|||b).toNat
 |.xor=>k.wrap (a ^^^ b).toNat
 |_=>k.wrap (a&&&~~~b).toNat
def Pm(op:BinOp)(k:IntKind)(x y:Int):Option (Prop×Cell):=
 match op with
 |.add=>some (True,.int k (k.wrap (x+y)))
 |.sub=>some (True,.int k (k.wrap (x-y)))
 |.mul=>some (True,.int k (k.wrap (x*y)))
 |.quo=>some (y≠0,.int k (k.wrap (x.tdiv y)))
 |.rem=>some (y≠0,.int k (x.tmod y))
 |.and|.or|.xor|.andNot=>some (True,.int k (bitsOf op k x y))
 |.eql=>some (True,.bool (x==y))
 |.neq=>some (True,.bool (x !=y))
 |.lss=>some (True,.bool (decide (x<y)))
 |.leq=>some (True,.bool (decide (x<=y)))
 |.gtr=>some (True,.bool (decide (x>y)))
 |.geq=>some (True,.bool (decide (x>=y)))
 |_=>none
def Vp(op:BinOp)(x y:Bytes):Option (Prop×Cell):=
 match op with
 |.add=>some (x.length+y.length<=maxLen,.str (x++y))
 |.eql=>some (True,.bool (x==y))
 |.neq=>some (True,.bool (!(x==y)))
 |.lss=>some (True,.bool (Op.bytesLess x y))
 |.leq=>some (True,.bool (Op.bytesLess x y||x==y))
 |.gtr=>some (True,.bool (!(Op.bytesLess x y||x==y)))
 |.geq=>some (True,.bool (!(Op.bytesLess x y)))
 |_=>none
def Vq:Cell->Cell->Option Bool
 |.int k a,.int l b=>match decide (k=l)with|true=>some (a==b)|false=>none
 |.bool a,.bool b=>some (a==b)
 |.str a,.str b=>some (a==b)
 |_,_=>none
def CT.fits:CT->Cell->Bool
 |.int k,.int l _=>decide (k=l)
 |.bool,.bool _=>true
 |.str,.str _=>true
 |_,_=>false
def ax.fits:ax->List Cell->Bool
 |.nil,[]=>true
 |.cons c r,x::xs=>c.fits x&&r.fits xs
 |_,_=>false
def kH:List Cell->List Cell->Option Bool
 |[],[]=>some true
 |x::xs,y::ys=>match Vq x y,kH xs ys with
  |some a,some b=>some (a&&b)
  |_,_=>none
 |_,_=>none
def Pn(op:BinOp)(x y:Cell):Option (Prop×Cell):=
 match x,y with
 |.int k a,.int l b=>
  match op with
  |.shl=>some (0<=b,.int k (k.wrap (a*2 ^ (min b.toNat k.bits))))
  |.shr=>some (0<=b,.int k (a.fdiv (2 ^ (min b.toNat k.bits))))
  |_=>match decide (k=l)with|true=>Pm op k a b|false=>none
 |.str a,.str b=>Vp op a b
 |.bool a,.bool b=>match op with
  |.eql=>some (True,.bool (a==b))
  |.neq=>some (True,.bool (!(a==b)))
  |_=>none
 |_,_=>none
def splice(xs:List Cell)(off:Nat)(ys:List Cell):List Cell:=xs.take off++ys++xs.drop (off+ys.length)
def Cell.isRef:Cell->Bool|.ref _=>true|_=>false
def Cell.refs:Cell->List Nat|.ref o=>[o]|_=>[]
variable (Θ:jr) (Γ:kR)
def EZ(st:St)(fs:List (Nat×TypeId)):List (Nat×Operand)->List Cell->Option (List Cell)
 |[],cs=>some cs
 |(i,x)::r,cs=>match fs[i]?,st.ev x with
  |some (off,t),.sv v=>match Θ t with
   |some ti=>match Nat.beq v.cells.length ti.cells.len&&Nat.ble (off+ti.cells.len) cs.length with
    |true=>EZ st fs r (splice cs off v.cells)
    |false=>none
   |none=>none
  |_,_=>none
def DU(st:St)(r:ax):Nat->List (Nat×Operand)->Option (List r.den)
 |_,[]=>some []
 |k,(i,x)::p=>match Nat.beq i k,st.ev x,DU st r (k+1) p with
  |true,.sv v,some l=>match Ai st r v.cells with
   |some a=>some (a::l)
   |none=>none
  |_,_,_=>none
def nI(st:St):List (Nat×Operand)->Bool
 |[]=>true
 |(_,x)::p=>(match st.ev x with|.sv v=>v.cells.all (Cell.fresh st)|_=>false)&&nI st p
def mM(st:St):List (Nat×Operand)->List Nat
 |[]=>[]
 |(_,x)::p=>(match st.ev x with|.sv v=>v.cells.flatMap Cell.refs|_=>[])++mM st p
def uq:AV->Option Int
 |.sv (.one (.int _ n))=>some n
 |_=>none
def mO(st:St)(len:Nat)(lo hi:Option Operand):Option (Prop×Nat×Nat):=
 match lo,hi with
 |none,none=>some (True,0,len)
 |some l,none=>match uq (st.ev l)with
  |some a=>some (0<=a/\a<=len,a.toNat,len)
  |none=>none
 |none,some h=>match uq (st.ev h)with
  |some b=>some (0<=b/\b<=len,0,b.toNat)
  |none=>none
 |some l,some h=>match uq (st.ev l),uq (st.ev h)with
  |some a,some b=>some (0<=a/\a<=b/\b<=len,a.toNat,b.toNat)
  |_,_=>none
def Vr(st:St)(n room:Nat)(lo hi:Option Operand):Option (Prop×Nat×Nat):=match hi with
 |none=>mO st n lo none
 |some h=>mO st room lo (some h)
def ZN(x:(ax.cons (.int .u8) .nil).den):Int:=x.1
def byteRow(l:List (ax.cons (.int .u8) .nil).den):Bytes:=l.map λx=>UInt8.ofNat (ZN x).toNat
def DV(s:Bytes):List (ax.cons (.int .u8) .nil).den:=s.map λb=>((b.toNat:Int),())
def lK(ti:TI)(cs:List Cell)(off:Nat):Option SV:=
 match ti.agg with
 |true=>match Nat.ble (off+ti.cells.len) cs.length with
  |true=>some (.agg ((cs.drop off).take ti.cells.len))
  |false=>none
 |false=>match cs[off]? with
  |some c=>some (.one c)
  |none=>none
def aj9(t:TypeId):Cell->Bool
 |.bool _=>match Θ t with
  |some ti=>match ti.cells with
   |.cons .bool .nil=>ti.agg==false
   |_=>false
  |none=>false
 |_=>true
def AV.refs:AV->List Nat
 |.sv v=>v.cells.flatMap Cell.refs
 |.fF cs _=>cs.flatMap Cell.refs
 |.fn _ caps=>caps.flatMap λcs=>cs.flatMap Cell.refs
 |_=>[]
def vV:List AV->List Nat
 |[]=>[]
 |x::r=>x.refs++vV r
def FU(xs:List AV):Bool:=match vV xs with|[]=>true|_::_=>false
def calm(d:Nat)(st:St):Op->Option (Prop×AV×List (Nat×aB))
 |.move x|.assign x=>some (True,st.ev x,[])
 |.nilCheck x=>match st.ev x with
  |.bM o off=>some (True,.bM o off,[])
  |.nT o i off=>some (True,.nT o i off,[])
  |.qg r x off fr=>some (True,.qg r x off fr,[])
  |.fF cs off=>some (True,.fF cs off,[])
  |.fn f caps=>some (True,.fn f caps,[])
  |_=>none
 |.makeFunc (.func f) first captured=>match first.toList,heldBy st captured.toList with
  |[],some l=>some (True,.fn f l,[])
  |_,_=>none
 |.pick c a b=>match st.ev c with
  |.sv (.one (.bool g))=>some (True,match g with|true=>st.ev a|false=>st.ev b,[])
  |_=>none
 |.alloc t=>match Θ t with
  |some ti=>some (True,.bM (d*64) 0,[(d*64,.var ti.cells.zeros)])
  |none=>none
 |.box _ x=>match st.ev x with
  |.sv v=>some (True,.bM (d*64) 0,[(d*64,.var v.cells)])
  |_=>none
 |.build t parts=>match Θ t with
  |some ti=>match ti.kind with
   |.struct fs=>match EZ Θ st fs parts.toList ti.cells.zeros with
    |some cs=>some (True,.sv (.agg cs),[])
    |none=>none
   |_=>none
  |none=>none
 |.buildSlice t len parts=>match Θ t with
  |some ti=>match ti.kind with
   |.slice e=>match Θ e with
    |some te=>match Nat.beq len parts.size&&Nat.ble 1 te.cells.len&&Nat.ble (len*te.cells.len) 16777216,mM st parts.toList,DU st te.cells 0 parts.toList with
     |true,[],some l=>some (True,.sv (.one (.ref (d*64+1))),[(d*64+1,.arr e te.cells l (nI st parts.toList))])
     |_,_,_=>none
    |none=>none
   |_=>none
  |none=>none
 |.makeSlice t x y=>match Θ t,uq (st.ev x),uq (st.ev y)with
  |some ti,some n,some c=>match ti.kind with
   |.slice e=>match Θ e with
    |some te=>match Nat.ble 1 te.cells.len with
     |true=>some (0<=n/\n<=c/\c<=(big:Int),.sv (.one (.ref (d*64+1))),[(d*64+1,.arr e te.cells (List.replicate n.toNat te.cells.dflt) true)])
     |false=>none
    |none=>none
   |_=>none
  |_,_,_=>none
 |.load t p=>match Θ t,st.ev p with
  |some ti,.bM o off=>match st.ah o with
   |some (.var cs)=>match lK ti cs off with
    |some v=>some (True,.sv v,[])
    |none=>none
   |_=>none
  |some ti,.nT o i off=>match st.ah o with
   |some (.arr _ r l fr)=>match lK ti (ax.row fr r (l.getD i r.dflt)) off with
    |some v=>some (i<l.length,.sv v,[])
    |none=>none
   |_=>none
  |some ti,.qg r x off fr=>match lK ti (ax.row fr r x) off with
   |some v=>some (True,.sv v,[])
   |none=>none
  |some ti,.fF cs off=>match lK ti cs off with
   |some v=>some (True,.sv v,[])
   |none=>none
  |_,_=>none
 |.fieldAddr s p f=>match Θ s with
  |some ti=>match ti.kind with
   |.struct fs=>match fs[f]? with
    |some (k,t)=>match Θ t with
     |some te=>match te.cells,st.ev p with
      |.nil,_=>none
      |_,.bM o off=>some (True,.bM o (off+k),[])
      |_,.nT o i off=>some (True,.nT o i (off+k),[])
      |_,.qg r x off fr=>some (True,.qg r x (off+k) fr,[])
      |_,.fF cs off=>some (True,.fF cs (off+k),[])
      |_,_=>none
     |none=>none
    |none=>none
   |_=>none
  |none=>none
 |.field s x f=>match Θ s with
  |some ti=>match ti.kind with
   |.struct fs=>match fs[f]?,st.ev x with
    |some (k,t),.sv (.agg cs)=>match Θ t with
     |some te=>match lK te cs k with
      |some v=>some (True,.sv v,[])
      |none=>none
     |none=>none
    |_,_=>none
   |_=>none
  |none=>none
 |.indexAddr t x ix=>match Θ t,uq (st.ev ix)with
  |some ti,some n=>match ti.kind with
   |.slice e=>match Θ e,st.ev x with
    |some te,.sv (.one (.sl _ r l fr))=>match te.cells.beq r with
     |true=>some (0<=n/\n<l.length,.qg r (l.getD n.toNat r.dflt) 0 fr,[])
     |false=>none
    |some te,.sv (.one (.ref o))=>match st.ah o with
     |some (.arr _ r l _)=>match te.cells.beq r with
      |true=>some (0<=n/\n<l.length,.nT o n.toNat 0,[])
      |false=>none
     |_=>none
    |some _,.sv (.one .nil)=>some (False,.undef,[])
    |_,_=>none
   |_=>none
  |_,_=>none
 |.index t x ix=>match Θ t,uq (st.ev ix),st.ev x with
  |some ti,some n,.sv (.one (.str s))=>match ti.kind with
   |.str=>some (0<=n/\n<s.length,.sv (.one (.int .u8 ((s.getD n.toNat 0).toNat:Int))),[])
   |_=>none
  |_,_,_=>none
 |.binOp op t x y _=>match st.ev x,st.ev y with
  |.sv (.one a),.sv (.one b)=>match aj9 Θ t a with
   |true=>match Pn op a b with
    |some (p,c)=>some (p,.sv (.one c),[])
    |none=>none
   |false=>none
  |.sv (.agg a),.sv (.agg b)=>match Θ t with
   |some ti=>match ti.cmp,kH a b,op with
    |true,some g,.eql=>match ti.cells.fits a with
     |true=>some (True,.sv (.one (.bool g)),[])
     |false=>none
    |true,some g,.neq=>match ti.cells.fits a with
     |true=>some (True,.sv (.one (.bool (!g))),[])
     |false=>none
    |_,_,_=>none
   |none=>none
  |_,_=>none
 |.unOp op _ x=>match op,st.ev x with
  |.not,.sv (.one (.bool b))=>some (True,.sv (.one (.bool (!b))),[])
  |.neg,.sv (.one (.int k n))=>some (True,.sv (.one (.int k (k.wrap (0-n)))),[])
  |_,_=>none
 |.convert src dst x=>match Θ src,Θ dst,st.ev x with
  |some ts,some td,.sv (.one c)=>if ts.agg||td.agg then none else match ts.cells,td.cells,c with
   |.cons (.int _) .nil,.cons (.int k) .nil,.int _ n=>some (True,.sv (.one (.int k (k.wrap n))),[])
   |.cons .str .nil,.cons .str .nil,.str s=>some (True,.sv (.one (.str s)),[])
   |.cons .str .nil,.cons (.sl e (.cons (.int .u8) .nil)) .nil,.str s=>match Θ e with
    |some te=>match te.cells,te.agg with
     |.cons (.int .u8) .nil,false=>some (True,.sv (.one (.sl e (.cons (.int .u8) .nil) (DV s) true)),[])
     |_,_=>none
    |none=>none
   |.cons (.sl e (.cons (.int .u8) .nil)) .nil,.cons .str .nil,c=>match c.get st (.sl e (.cons (.int .u8) .nil)),Θ e with
    |some l,some te=>match te.cells,te.agg with
     |.cons (.int .u8) .nil,false=>some (True,.sv (.one (.str (byteRow l))),[])
     |_,_=>none
    |_,_=>none
   |_,_,_=>none
  |_,_,_=>none
 |.extract x ix=>match st.ev x with
  |.mJ vs=>match vs[ix]? with
   |some v=>some (True,.sv v,[])
   |none=>none
  |_=>none
 |.slice t x lo hi none=>match Θ t,st.ev x with
  |some ti,.sv (.one (.str s))=>match ti.kind,mO st s.length lo hi with
   |.str,some (p,a,b)=>some (p,.sv (.one (.str ((s.take b).drop a))),[])
   |_,_=>none
  |some ti,.sv (.one (.sl e r l fr))=>match ti.kind,mO st l.length lo hi with
   |.slice f,some (p,a,b)=>match Θ f with
    |some te=>match te.cells.beq r with
     |true=>some (p,.sv (.one (.sl e r ((l.take b).drop a) fr)),[])
     |false=>none
    |none=>none
   |_,_=>none
  |some ti,.sv (.one .nil)=>match ti.kind,mO st 0 lo hi with
   |.slice f,some (p,_,_)=>match Θ f with
    |some _=>some (p,.sv (.one .nil),[])
    |none=>none
   |_,_=>none
  |some ti,.win o zy n0=>match ti.kind,st.ah o with
   |.slice f,some (.arr _ r l _)=>match Θ f,Vr st n0 (l.length-zy) lo hi with
    |some te,some (p,a,b)=>match te.cells.beq r with
     |true=>some (p,.win o (zy+a) (b-a),[])
     |false=>none
    |_,_=>none
   |_,_=>none
  |_,_=>none
 |.slice t x (some lo) (some hi) (some mx)=>match Θ t,st.ev x with
  |some ti,.sv (.one (.ref o))=>match ti.kind,st.ah o with
   |.slice f,some (.arr _ _ l _)=>match Θ f,uq (st.ev lo),uq (st.ev hi),uq (st.ev mx)with
    |some _,some a,some b,some c=>some (0<=a/\a<=b/\b<=c/\c<=l.length,.undef,[])
    |_,_,_,_=>none
   |_,_=>none
  |_,_=>none
 |.call {callee:=.builtin .len,args,argTypes}=>match args.toList,argTypes.toList with
  |[x],[t]=>match Θ t,st.ev x with
   |some ti,.sv (.one c)=>match ti.kind,c with
    |.str,.str s=>some (True,.sv (.one (.int .i64 s.length)),[])
    |.slice _,.sl _ _ l _=>some (True,.sv (.one (.int .i64 l.length)),[])
    |.slice _,.nil=>some (True,.sv (.one (.int .i64 0)),[])
    |.slice _,.ref o=>match st.ah o with
     |some (.arr _ _ l _)=>some (True,.sv (.one (.int .i64 l.length)),[])
     |_=>none
    |_,_=>none
   |some ti,.win _ _ n=>match ti.kind with
    |.slice _=>some (True,.sv (.one (.int .i64 n)),[])
    |_=>none
   |_,_=>none
  |_,_=>none
 |.call {callee:=.builtin .min,args,.. }=>match args.toList with
  |[x,y]=>match st.ev x,st.ev y with
   |.sv (.one (.int k a)),.sv (.one (.int l b))=>match decide (k=l)with
    |true=>some (True,.sv (.one (.int k (if b<a then b else a))),[])
    |false=>none
   |_,_=>none
  |_=>none
 |.call {callee:=.builtin .max,args,.. }=>match args.toList with
  |[x,y]=>match st.ev x,st.ev y with
   |.sv (.one (.int k a)),.sv (.one (.int l b))=>match decide (k=l)with
    |true=>some (True,.sv (.one (.int k (if b>a then b else a))),[])
    |false=>none
   |_,_=>none
  |_=>none
 |.call {callee:=.value x,args,.. }=>match st.ev x with
  |.fn f caps=>match Γ f,oZ st (handed st args.toList caps)with
   |some (.pure con),some vs=>match con vs with
    |some (p,out)=>match out.made||FU (handed st args.toList caps)with
     |true=>some (p,(out.take (d*64+1)).1,(out.take (d*64+1)).2)
     |false=>none
    |none=>none
   |_,_=>none
  |_=>none
 |_=>none
def ahj(st:St)(xs:List Operand)(caps:List (List Cell))(o:Nat):Bool:=(vV (handed st xs caps)).contains o
def ak1(st:St)(xs:List Operand)(caps:List (List Cell)):St:=st.freeze (ahj st xs caps)
def ao9(st:St)(xs:List Operand)(caps:List (List Cell)):List AV:=(handed st xs caps).map (AV.freeze st (ahj st xs caps))
def DW:List Mode->List AV->List AV
 |_,[]=>[]
 |[],xs=>xs
 |.val::ms,x::xs=>x::DW ms xs
 |_::ms,_::xs=>DW ms xs
def XJ(st:St)(ms:List Mode)(xs:List Operand)(caps:List (List Cell))(o:Nat):Bool:=(vV (DW ms (handed st xs caps))).contains o
def KW(st:St)(ms:List Mode)(xs:List Operand)(caps:List (List Cell)):St:=st.freeze (XJ st ms xs caps)
def amm(st:St)(ms:List Mode)(xs:List Operand)(caps:List (List Cell)):List AV:=(handed st xs caps).map (AV.freeze st (XJ st ms xs caps))
def pK(st:St)(m:Mode)(x:AV):Option (Arg×Option Nat):=
 match m with
 |.val=>match x.refs,oZ st [x]with
  |[],some [a]=>some (a,none)
  |_,_=>none
 |.own=>match x with
  |.sv (.one (.ref o))=>match st.ah o with
   |some (.arr e r l _)=>some (.own e r l,some o)
   |_=>none
  |_=>none
 |.ptr=>match x with
  |.bM o off=>match Nat.beq off 0,st.ah o with
   |true,some (.var cs)=>match cs.flatMap Cell.refs with
    |[]=>some (.ptr (cs.map (Cell.view st)),some o)
    |_=>none
   |_,_=>none
  |_=>none
def hands(st:St):List Mode->List AV->Option (List Arg×List (Option Nat))
 |_,[]=>some ([],[])
 |ms,x::xs=>match pK st (ms.headD .val) x,hands st ms.tail xs with
  |some (a,o),some (as,os)=>some (a::as,o::os)
  |_,_=>none
def Vs(o:Nat):List (Option Nat)->Bool
 |[]=>false
 |some p::r=>match Nat.beq o p with|true=>true|false=>Vs o r
 |none::r=>Vs o r
def yQ:List (Option Nat)->Bool
 |[]=>true
 |some p::r=>!(Vs p r)&&yQ r
 |none::r=>yQ r
def mr(aH:List Eff)(p:Nat):Option aB:=
 match aH[p / 64]? with
 |some (.arr e r l)=>match Nat.beq (p%64) 49 with|true=>some (.arr e r l false)|false=>none
 |some (.var cs)=>match Nat.beq (p%64) 48 with|true=>some (.var cs)|false=>none
 |_=>none
def IV(aH:List Eff)(δ:List (Nat×aB)):Bool:=δ.all λy=>(mr aH y.1).isNone
def nJ(st:St):List (Option Nat)->List Eff->Option (List (Nat×aB))
 |[],_=>some []
 |none::os,aH=>nJ st os aH.tail
 |some o::os,aH=>match aH.head?,st.ah o,nJ st os aH.tail with
  |some .lose,_,some δ=>some δ
  |some (.arr e r l),some (.arr f s _ _),some δ=>match Nat.beq e f&&r.beq s with
   |true=>some ((o,.arr e r l false)::δ)
   |false=>none
  |some (.var cs),some (.var _),some δ=>match cs.flatMap Cell.refs with
   |[]=>some ((o,.var cs)::δ)
   |_=>none
  |_,_,_=>none
def iP:List (Option Nat)->List Eff->Nat->Bool
 |[],_,_=>false
 |none::os,aH,p=>iP os aH.tail p
 |some o::os,aH,p=>match aH.head? with
  |some .lose=>match Nat.beq o p with|true=>true|false=>iP os aH.tail p
  |_=>iP os aH.tail p
def jJ(st:St)(δ:List (Nat×aB)):Bool:=δ.all λy=>(st.ah y.1).isNone
def o5{α:Type}(l:List α)(lo:Nat)(news:List α):List α:=l.take lo++news++l.drop (lo+news.length)
def Vt(Θ:jr)(st:St)(ti:TI)(o zy n0 o2 lo2 n2:Nat):Option (Prop×AV×St):=match Nat.beq zy 0&&Nat.beq o o2,ti.kind,st.ah o with
 |true,.slice e,some (.arr f r l fr)=>match Θ e with
  |some te=>match te.cells.beq r&&Nat.beq e f with
   |true=>some (n0+n2<=l.length/\lo2+n2<=l.length,.win o 0 (n0+n2),st.add o (.arr f r (o5 l n0 ((l.drop lo2).take n2)) fr))
   |false=>none
  |none=>none
 |_,_,_=>none
def ZO(Θ:jr)(st:St)(ti:TI)(o lo n:Nat):Option (Prop×AV×St):=match ti.kind,st.ah o with
 |.slice e,some (.arr f r l fr)=>match Θ e with
  |some te=>match te.cells.beq r&&Nat.beq e f with
   |true=>some (lo+n<=l.length,.mJ [],st.add o (.arr f r (o5 l lo (List.replicate n r.dflt)) fr))
   |false=>none
  |none=>none
 |_,_=>none
def store(st:St)(p:AV)(v:SV):Option (Prop×St):=
 match p with
 |.bM o off=>match st.ah o with
  |some (.var cs)=>match Nat.ble (off+v.cells.length) cs.length with
   |true=>some (True,st.add o (.var (splice cs off v.cells)))
   |false=>none
  |_=>none
 |.nT o i off=>match v.cells.flatMap Cell.refs,st.ah o with
  |[],some (.arr e r l fr)=>match Ai st r (splice (ax.row fr r (l.getD i r.dflt)) off v.cells),Nat.ble (off+v.cells.length) r.len with
   |some x,true=>some (i<l.length,st.add o (.arr e r (l.set i x) (fr&&v.cells.all (Cell.fresh st))))
   |_,_=>none
  |_,_=>none
 |_=>none
def BQ(p:AV)(v:SV)(o:Nat):Bool:=match p with|.nT _ _ _=>(v.cells.flatMap Cell.refs).contains o|_=>false
def eff(d:Nat)(st:St):Op->Option (Prop×AV×St)
 |.store t p x=>match st.ev x,Θ t with
  |.sv v,some ti=>match Nat.beq v.cells.length ti.cells.len with
   |true=>match store (st.freeze (BQ (st.ev p) v)) ((st.ev p).freeze st (BQ (st.ev p) v)) (v.freeze st (BQ (st.ev p) v))with
    |some (q,s)=>some (q,.undef,s)
    |none=>none
   |false=>none
  |_,_=>none
 |.buildSlice t len parts=>
  match calm Θ Γ d (st.freeze ((mM st parts.toList).contains ·)) (.buildSlice t len parts)with
  |some (p,v,δ)=>match jJ (st.freeze ((mM st parts.toList).contains ·)) δ with
   |true=>some (p,v,(st.freeze ((mM st parts.toList).contains ·)).adds δ)
   |false=>none
  |none=>none
 |.slice t x lo hi none=>match Θ t,st.ev x with
  |some ti,.sv (.one (.ref o))=>match ti.kind,st.ah o with
   |.slice f,some (.arr e r l fr)=>match Θ f,mO st l.length lo hi with
    |some te,some (p,_,b)=>match te.cells.beq r with
     |true=>match lo with
      |none=>some (p,.sv (.one (.ref o)),(st.kill (Nat.beq o ·)).add o (.arr e r (l.take b) fr))
      |some l0=>match calm Θ Γ d (st.freeze (Nat.beq o ·)) (.slice t x (some l0) hi none)with
       |some (q,v,[])=>some (q,v,st.freeze (Nat.beq o ·))
       |_=>none
     |false=>none
    |_,_=>none
   |_,_=>none
  |_,_=>none
 |.call {callee:=.builtin .append,args,argTypes}=>match args.toList,argTypes.toList with
  |[s,x],[t,u]=>match Nat.beq t u,Θ t,st.ev s,st.ev x with
   |true,some ti,.sv (.one c),.sv (.one y)=>match ti.kind with
    |.slice e=>match Θ e with
     |some te=>match y.get st (.sl e te.cells),c with
      |some news,.ref o=>match st.ah o with
       |some (.arr f r l fr)=>if h:te.cells.beq r=true then
         match Nat.beq e f with
         |true=>some (l.length+news.length<=big,.sv (.one (.ref o)),(st.kill (Nat.beq o ·)).add o (.arr e r (l++tV h news) (fr&&y.wQ te.cells st)))
         |false=>none
        else none
       |_=>none
      |some news,.nil=>match Nat.ble 1 te.cells.len with
       |true=>some (news.length<=big,.sv (.one (.ref (d*64+1))),(st.kill (Nat.beq (d*64+1) ·)).add (d*64+1) (.arr e te.cells news (y.wQ te.cells st)))
       |false=>none
      |_,_=>none
     |none=>none
    |_=>none
   |true,some ti,.win o zy n0,.win o2 lo2 n2=>Vt Θ st ti o zy n0 o2 lo2 n2
   |_,_,_,_=>none
  |_,_=>none
 |.call {callee:=.builtin .clear,args,argTypes}=>match args.toList,argTypes.toList with
  |[x],[t]=>match Θ t,st.ev x with
   |some ti,.win o lo n=>ZO Θ st ti o lo n
   |_,_=>none
  |_,_=>none
 |.call {callee:=.value x,args,.. }=>
  match st.ev x with
  |.fn f caps=>
   match Γ f with
   |some (.pure con)=>match oZ (ak1 st args.toList caps) (ao9 st args.toList caps),vV (ao9 st args.toList caps)with
    |some vs,[]=>match con vs with
     |some (p,out)=>match jJ (ak1 st args.toList caps) (out.take (d*64+1)).2 with
      |true=>some (p,(out.take (d*64+1)).1,(ak1 st args.toList caps).adds (out.take (d*64+1)).2)
      |false=>none
     |none=>none
    |_,_=>none
   |_=>none
  |_=>none
 |_=>none
def abp(st:St):Op->Option (Prop×Jr×List (Option Nat)×St)
 |.call {callee:=.value x,args,.. }=>
  match st.ev x with
  |.fn f caps=>match Γ f with
   |some (.eff ms con)=>match hands (KW st ms args.toList caps) ms (amm st ms args.toList caps)with
    |some (vs,os)=>match con vs with
     |some (p,ρ)=>some (p,ρ,os,KW st ms args.toList caps)
     |none=>none
    |none=>none
   |_=>none
  |_=>none
 |_=>none
def QZ(d:Nat)(s0:St)(os:List (Option Nat))(out:Out)(aH:List Eff):Option (AV×St):=
 match yQ os&&IV aH (out.take (d*64+1)).2,nJ s0 os aH,jJ (s0.kill (iP os aH)) (out.take (d*64+1)).2 with
 |true,some δ,true=>some ((out.take (d*64+1)).1,((s0.kill (iP os aH)).adds δ).adds (out.take (d*64+1)).2)
 |_,_,_=>none
def oper(d:Nat)(st:St)(o:Op):Option (Prop×AV×St):=
 match calm Θ Γ d st o with
 |some (p,v,δ)=>match jJ st δ with
  |true=>some (p,v,st.adds δ)
  |false=>none
 |none=>eff Θ Γ d st o
end Go.Fw
namespace Go.Fw
open Go
structure V where
 w:World
 n0:Nat
 S:Nat->Prop
 γ:Nat->Value
 ah:Nat->Option aB
def blk:Value->Option Nat
 |.pointer (some a)=>some a.block
 |.slice (some a) _ _=>some a.block
 |_=>none
def V.foot(X:V)(b:Nat):Prop:=b<X.w.heap.size/\(b<X.n0->X.S b)/\∀o x,X.ah o=some x->blk (X.γ o)≠some b
def V.cu(X:V)(fr:Bool)(b:Nat):Prop:=X.foot b/\(fr=true->X.n0<=b)
def aS(X:V):Cell->Value->Prop
 |.int k n,v=>v=.int k n/\k.min<=n/\n<=k.max
 |.bool b,v=>v=.bool b
 |.str s,v=>v=.string ⟨s.toArray⟩/\s.length<=maxLen
 |.nil,v=>v=.slice none 0 0
 |.sl e r l fr,v=>cZ X.w.heap (X.cu fr) (.sl e r) v l
 |.ref o,v=>(∃e r l fr,X.ah o=some (.arr e r l fr))/\v=X.γ o/\v.oneCell'=true
 |.junk,v=>v.oneCell'=true
def ai(X:V):List Cell->List Value->Prop
 |[],[]=>True
 |c::cs,v::vs=>aS X c v/\ai X cs vs
 |_,_=>False
def dM(X:V):SV->Value->Prop
 |.one c,v=>aS X c v
 |.agg cs,v=>∃vs,v=.agg vs/\ai X cs vs.toList
def dN(X:V):List SV->List Value->Prop
 |[],[]=>True
 |c::cs,v::vs=>dM X c v/\dN X cs vs
 |_,_=>False
def gY(X:V)(cs:List Cell)(b:Nat):Prop:=∃arr t fz,X.foot b/\X.w.heap[b]? =some (.cells arr t fz)/\ai X cs arr.toList
def fA(X:V):List (List Cell)->List Value->Prop
 |[],[]=>True
 |cs::l,u::us=>(∃b,u=.pointer (some ⟨b,0,none⟩)/\gY X cs b)/\fA X l us
 |_,_=>False
def aT(X:V):AV->Value->Prop
 |.undef,_=>True
 |.sv x,v=>dM X x v
 |.mJ xs,v=>∃vs,v=.tuple vs/\dN X xs vs.toList
 |.bM o off,v=>∃b cs,X.ah o=some (.var cs)/\X.γ o=.pointer (some ⟨b,0,none⟩)/\v=.pointer (some ⟨b,off,none⟩)
 |.nT o i off,v=>∃b n cap e r l fr,X.ah o=some (.arr e r l fr)/\X.γ o=.slice (some ⟨b,0,none⟩) n cap/\v=.pointer (some ⟨b,i*r.len+off,none⟩)
 |.win o i off,v=>∃b n cap e r l fr,X.ah o=some (.arr e r l fr)/\X.γ o=.slice (some ⟨b,0,none⟩) n cap/\(∃q,(q=i*r.len\/cap<=i)/\v=.slice (some ⟨b,q,none⟩) off (cap-i)/\i+off<=cap)
 |.qg r x off fr,v=>∃b base cs t fz,v=.pointer (some ⟨b,base+off,none⟩)/\X.cu fr b/\X.w.heap[b]? =some (.cells cs t fz)/\
    aJ X.w.heap (X.cu fr) r ((cs.toList.drop base).take r.len) x
 |.fF cs off,v=>∃b,v=.pointer (some ⟨b,off,none⟩)/\gY X cs b
 |.fn f caps,v=>∃us:Array Value,v=.func (.func f) #[] us/\fA X caps us.toList
def bn(X:V)(o:Nat):aB->Prop
 |.var cs=>∃b arr t,X.γ o=.pointer (some ⟨b,0,none⟩)/\X.w.heap[b]? =some (.cells arr t (0,0))/\ai X cs arr.toList
 |.arr e r l fr=>∃xs,X.w.ownsRow 0 e r.len (X.γ o) l.length xs/\0<r.len/\(∀b,blk (X.γ o)=some b->fr=true->X.n0<=b)/\
    ∀i x,l[i]? =some x->aJ X.w.heap (X.cu fr) r ((xs.drop (i*r.len)).take r.len) x
structure Ext where
 S:Nat->Prop
 N:Nat->Option Value
 n48:∀p v,N p=some v->p%64=48
instance:CoeFun Ext (λ_=>Nat->Prop):=⟨Ext.S⟩
instance:CoeOut Ext (Nat->Prop):=⟨Ext.S⟩
structure Rel(w0:World)(M:Nat->Prop)(T:Ext)(γ:Nat->Value)(st:St)(a:Act)(w:World):Prop where
 mT:∀b,M b->T b
 defers:a.defers=[]
 size:a.tmps.size=st.n
 os:w.os=w0.os
 tape:w.tape=w0.tape
 output:w.output=w0.output
 grow:w0.heap.size<=w.heap.size
 kept:∀b,b<w0.heap.size->¬M b->w.heap[b]? =w0.heap[b]?
 tmps:∀t,aT ⟨w,w0.heap.size,T,γ,st.ah⟩ (st.tmps t) (a.tmps.getD t undef)
 ah:∀o x,st.ah o=some x->bn ⟨w,w0.heap.size,T,γ,st.ah⟩ o x
 lt:∀o x b,st.ah o=some x->blk (γ o)=some b->b<w.heap.size/\(w0.heap.size<=b\/M b)
 sep:∀o x p y b,st.ah o=some x->st.ah p=some y->o≠p->blk (γ o)=some b->blk (γ p)≠some b
 pin:∀o v cs,T.N o=some v->st.ah o=some (.var cs)->γ o=v
structure V.le(X Y:V):Prop where
 n0:Y.n0<=X.n0
 foot:∀b,X.foot b->Y.foot b/\Y.w.heap[b]? =X.w.heap[b]?
 var:∀o cs,X.ah o=some (.var cs)->(∃cs',Y.ah o=some (.var cs'))/\Y.γ o=X.γ o
 arr:∀o e r l fr,X.ah o=some (.arr e r l fr)->(∃l' fr',Y.ah o=some (.arr e r l' fr'))/\Y.γ o=X.γ o
theorem V.le.refl(X:V):X.le X:=⟨avt _,λ_ h=>⟨h,rfl⟩,λ_ cs h=>⟨⟨cs,h⟩,rfl⟩,λ_ _ _ l fr h=>⟨⟨l,fr,h⟩,rfl⟩⟩
theorem V.le.cu{X Y:V}(h:X.le Y)(fr:Bool)(b:Nat)(hb:X.cu fr b):Y.cu fr b/\Y.w.heap[b]? =X.w.heap[b]? :=
 ⟨⟨(h.foot b hb.1).1,λe=>avx h.n0 (hb.2 e)⟩,(h.foot b hb.1).2⟩
theorem aS.mono{X Y:V}(h:X.le Y):∀(c:Cell)(v:Value),aS X c v->aS Y c v
 |.int _ _,_,H|.bool _,_,H|.str _,_,H|.nil,_,H|.junk,_,H=>H
 |.sl e r l fr,v,H=>cZ.mono (λb hb=>h.cu fr b hb) (.sl e r) v l H
 |.ref o,v,⟨⟨e,r,l,fr,hx⟩,hv,h1⟩=>by obtain⟨⟨l',fr',hy⟩,hγ⟩:=h.arr o e r l fr hx;exact⟨⟨e,r,l',fr',hy⟩,hv.trans hγ.symm,h1⟩
theorem ai.mono{X Y:V}(h:X.le Y):∀(cs:List Cell)(vs:List Value),ai X cs vs->ai Y cs vs
 |[],[],H=>H
 |c::cs,v::vs,⟨h1,h2⟩=>⟨aS.mono h c v h1,ai.mono h cs vs h2⟩
 |[],_::_,H|_::_,[],H=>afM
theorem dM.mono{X Y:V}(h:X.le Y):∀(c:SV)(v:Value),dM X c v->dM Y c v
 |.one c,v,H=>aS.mono h c v H
 |.agg cs,_,⟨vs,hv,H⟩=>⟨vs,hv,ai.mono h cs _ H⟩
theorem dN.mono{X Y:V}(h:X.le Y):∀(cs:List SV)(vs:List Value),dN X cs vs->dN Y cs vs
 |[],[],H=>H
 |c::cs,v::vs,⟨h1,h2⟩=>⟨dM.mono h c v h1,dN.mono h cs vs h2⟩
 |[],_::_,H|_::_,[],H=>afM
theorem gY.mono{X Y:V}(h:X.le Y){cs:List Cell}{b:Nat}(H:gY X cs b):gY Y cs b:=by obtain⟨arr,t,fz,hb,hh,hr⟩:=H;exact⟨arr,t,fz,(h.foot b hb).1,(h.foot b hb).2.trans hh,ai.mono h cs _ hr⟩
theorem fA.mono{X Y:V}(h:X.le Y):∀(l:List (List Cell))(us:List Value),fA X l us->fA Y l us
 |[],[],H=>H
 |cs::l,u::us,⟨⟨b,hu,hk⟩,h2⟩=>⟨⟨b,hu,hk.mono h⟩,fA.mono h l us h2⟩
 |[],_::_,H|_::_,[],H=>afM
theorem aT.mono{X Y:V}(h:X.le Y):∀(c:AV)(v:Value),aT X c v->aT Y c v
 |.undef,_,_=>trivial
 |.sv x,v,H=>dM.mono h x v H
 |.mJ xs,_,⟨vs,hv,H⟩=>⟨vs,hv,dN.mono h xs _ H⟩
 |.bM o off,v,⟨b,cs,hx,hγ,hv⟩=>by
  obtain⟨⟨cs',hy⟩,he⟩:=h.var o cs hx;exact⟨b,cs',hy,he.trans hγ,hv⟩
 |.nT o i off,v,⟨b,n,cap,e,r,l,fr,hx,hγ,hv⟩=>by
  obtain⟨⟨l',fr',hy⟩,he⟩:=h.arr o e r l fr hx;exact⟨b,n,cap,e,r,l',fr',hy,he.trans hγ,hv⟩
 |.win o i off,v,⟨b,n,cap,e,r,l,fr,hx,hγ,hv⟩=>by
  obtain⟨⟨l',fr',hy⟩,he⟩:=h.arr o e r l fr hx;exact⟨b,n,cap,e,r,l',fr',hy,he.trans hγ,hv⟩
 |.qg r x off fr,v,⟨b,base,cs,t,fz,hv,hf,hb,hr⟩=>
  ⟨b,base,cs,t,fz,hv,(h.cu fr b hf).1,(h.cu fr b hf).2.trans hb,aJ.mono (λb hb=>h.cu fr b hb) r _ x hr⟩
 |.fF cs off,v,⟨b,hv,hk⟩=>⟨b,hv,hk.mono h⟩
 |.fn f caps,v,⟨us,hv,hk⟩=>⟨us,hv,fA.mono h caps _ hk⟩
theorem ai.length{X:V}:∀(cs:List Cell)(vs:List Value),ai X cs vs->vs.length=cs.length
 |[],[],_=>rfl
 |_::cs,_::vs,⟨_,h⟩=>by simp[ai.length cs vs h]
 |[],_::_,H|_::_,[],H=>afM
theorem ai.append{X:V}:∀(cs:List Cell)(vs:List Value)(ds:List Cell)(us:List Value),ai X cs vs->ai X ds us->ai X (cs++ds) (vs++us)
 |[],[],_,_,_,h=>h
 |_::cs,_::vs,ds,us,⟨h1,h2⟩,h=>⟨h1,ai.append cs vs ds us h2 h⟩
 |[],_::_,_,_,H,_|_::_,[],_,_,H,_=>afM
theorem ai.take{X:V}:∀(cs:List Cell)(vs:List Value)(n:Nat),ai X cs vs->ai X (cs.take n) (vs.take n)
 |[],[],n,h=>acG
 |_::_,_::_,0,_=>trivial
 |c::cs,v::vs,n+1,⟨h1,h2⟩=>⟨h1,ai.take cs vs n h2⟩
 |[],_::_,_,H|_::_,[],_,H=>afM
theorem ai.drop{X:V}:∀(cs:List Cell)(vs:List Value)(n:Nat),ai X cs vs->ai X (cs.drop n) (vs.drop n)
 |[],[],n,h=>acG
 |_::_,_::_,0,h=>h
 |c::cs,v::vs,n+1,⟨_,h2⟩=>ai.drop cs vs n h2
 |[],_::_,_,H|_::_,[],_,H=>afM
theorem ai.get{X:V}:∀(cs:List Cell)(vs:List Value)(i:Nat)(c:Cell),ai X cs vs->cs[i]? =some c->∃v,vs[i]? =some v/\aS X c v
 |[],_,_,_,_,h=>amA
 |c::cs,v::vs,0,d,⟨h1,_⟩,h=>aqQ
 |c::cs,v::vs,i+1,d,⟨_,h2⟩,h=>by
  obtain⟨u,hu,hr⟩:=ai.get cs vs i d h2 acG;exact⟨u,apn,hr⟩
 |_::_,[],_,_,H,_=>afM
theorem aS.one{X:V}:∀(c:Cell)(v:Value),aS X c v->v.oneCell'=true
 |.int _ _,_,⟨h,_⟩=>asT
 |.bool _,_,h=>by rw[show _=_ from h];rfl
 |.str _,_,⟨h,_⟩=>asT
 |.nil,_,h=>by rw[show _=_ from h];rfl
 |.sl e r l fr,v,h=>by
  have h:sG _ _ _ _ v l:=h;rcases h.2 with⟨_,a,c,hv⟩|⟨b,off,cap,cs,t,fz,hv,_⟩<;>rw[hv]<;>rfl
 |.ref _,_,⟨_,_,h⟩=>h
 |.junk,_,h=>h
theorem FV:∀(v:Value),v.oneCell'=true->v.cells=#[v]:=by intro v h;cases v<;>first|rfl|simp[Value.oneCell']at h
theorem dM.cells{X:V}:∀(x:SV)(v:Value),dM X x v->ai X x.cells v.cells.toList
 |.one c,v,h=>by
  rw[FV v (aS.one c v h)];exact⟨h,trivial⟩
 |.agg cs,v,⟨vs,hv,h⟩=>by rw[hv];exact h
theorem ai.ones{X:V}:∀(cs:List Cell)(vs:List Value),ai X cs vs->∀v∈vs,v.oneCell'=true
 |[],[],_,_,hv=>by cases hv
 |c::cs,u::vs,⟨h1,h2⟩,v,hv=>by
  rcases avF.1 hv with rfl|hv
  .exact aS.one c _ h1
  .exact ai.ones cs vs h2 v hv
 |[],_::_,H,_,_|_::_,[],H,_,_=>afM
end Go.Fw
namespace Go.Fw
open Go
variable {w0:World} {M:Nat->Prop} {T:Ext} {γ γ':Nat->Value} {st:St} {a:Act} {w w':World}
abbrev aj(w0:World)(T:Nat->Prop)(γ:Nat->Value)(st:St)(w:World):V:=⟨w,w0.heap.size,T,γ,st.ah⟩
theorem bn.mono{X Y:V}(h:X.le Y)(o:Nat):∀(x:aB),(∀b,blk (X.γ o)=some b->Y.w.heap[b]? =X.w.heap[b]?)->Y.γ o=X.γ o->bn X o x->bn Y o x
 |.var cs,hb,hγ,⟨b,arr,t,e,hh,hr⟩=>⟨b,arr,t,hγ.trans e,(hb b (by rw[e];rfl)).trans hh,ai.mono h cs _ hr⟩
 |.arr e r l fr,hb,hγ,⟨xs,hown,hr,hf,hx⟩=>by
  refine⟨xs,?_,hr,λb hb' hfr=>avx h.n0 (hf b (hγ▸hb') hfr),λi x hi=>aJ.mono (λb hb=>h.cu fr b hb) r _ x (hx i x hi)⟩;obtain⟨h1,h2⟩:=hown;refine⟨h1,?_⟩;rcases h2 with h2|⟨g,cap,cur,hv,hg,hh,hrest⟩
  .exact .inl ⟨hγ.trans h2.1,h2.2⟩
  .exact .inr ⟨g,cap,cur,hγ.trans hv,hg,(hb g asZ).trans hh,hrest⟩
theorem Rel.grown(h:Rel w0 M T γ st a w)(Ir:Nat->Option aB)
 (hA:∀p x,st.ah p=some x->Ir p=some x) (hγ:∀p x,st.ah p=some x->γ' p=γ p)
 (hos:w'.os=w.os) (htape:w'.tape=w.tape) (hout:w'.output=w.output) (hsize:w.heap.size<=w'.heap.size)
 (hheap:∀b,b<w.heap.size->w'.heap[b]? =w.heap[b]?)
 (hnew:∀p x,Ir p=some x->st.ah p=none->bn ⟨w',w0.heap.size,T,γ',Ir⟩ p x/\∀b,blk (γ' p)=some b->w.heap.size<=b/\b<w'.heap.size)
 (as4:∀p cs,Ir p=some (.var cs)->st.ah p=none->T.N p=none)
 (hsep:∀p x q y b,Ir p=some x->st.ah p=none->Ir q=some y->st.ah q=none->p≠q->blk (γ' p)=some b->blk (γ' q)≠some b):
 Rel w0 M T γ' {st with ah:=Ir} a w'/\(aj w0 T γ st w).le ⟨w',w0.heap.size,T,γ',Ir⟩:=by
 have old:∀p x,Ir p=some x->st.ah p=some x\/st.ah p=none:=by
  intro p x hp;cases e:st.ah p with
  |none=>exact .inr rfl
  |some y=>have:=hA p y e;rw[hp]at this;rw[this];exact .inl rfl
 have le:(aj w0 T γ st w).le ⟨w',w0.heap.size,T,γ',Ir⟩:=by
  refine⟨avt _,λb hb=>⟨⟨avT hb.1 hsize,hb.2.1,λo x hx=>?_⟩,hheap b hb.1⟩,λo cs hx=>⟨⟨cs,hA o _ hx⟩,hγ o _ hx⟩,λo e r l fr hx=>⟨⟨l,fr,hA o _ hx⟩,hγ o _ hx⟩⟩;rcases old o x hx with ho|ho
  .show blk (γ' o)≠some b;rw[hγ o x ho];exact hb.2.2 o x ho
  .intro e;have h1:=((hnew o x hx ho).2 b e).1;have h2:b<w.heap.size:=hb.1;omega
 refine⟨⟨h.mT,h.defers,h.size,hos.trans h.os,htape.trans h.tape,hout.trans h.output,avx h.grow hsize,λb hb hM=>?_,λt=>aT.mono le _ _ (h.tmps t),λo x hx=>?_,λo x b hx hb=>?_,λo x p y b hx hy hop hb=>?_,λo v cs hN hx=>?_⟩,le⟩
 .rw[hheap b (avT hb h.grow)];exact h.kept b hb hM
 .rcases old o x hx with ho|ho
  .exact bn.mono le o x (λb hb=>hheap b (h.lt o x b ho hb).1) (hγ o x ho) (h.ah o x ho)
  .exact(hnew o x hx ho).1
 .rcases old o x hx with ho|ho
  .rw[hγ o x ho]at hb;have:=h.lt o x b ho hb;exact⟨avT this.1 hsize,this.2⟩
  .have:=(hnew o x hx ho).2 b hb;exact⟨this.2,.inl (avx h.grow this.1)⟩
 .rcases old o x hx with ho|ho<;>rcases old p y hy with hp|hp
  .rw[hγ o x ho]at hb;rw[hγ p y hp];exact h.sep o x p y b ho hp hop hb
  .rw[hγ o x ho]at hb;intro e;have h1:=((hnew p y hy hp).2 b e).1;have h2:=(h.lt o x b ho hb).1;omega
  .have h1:=((hnew o x hx ho).2 b hb).1;rw[hγ p y hp];intro e;have h2:=(h.lt p y b hp e).1;omega
  .exact hsep o x p y b hx ho hy hp hop hb
 .rcases old o _ hx with ho|ho
  .rw[hγ o _ ho];exact h.pin o v cs hN ho
  .rw[as4 o cs hx ho]at hN;cases hN
theorem Vu(xs:Array Value)(d t:Nat)(v z:Value)(hd:d<xs.size):(xs.setIfInBounds d v).getD t z=if t=d then v else xs.getD t z:=by
 by_cases e:t=d
 .subst e;simp[hd]
 .rw[if_neg e];simp only[axp];rw[ayg abn]
theorem Rel.set(h:Rel w0 M T γ st a w)(d:Nat)(hd:d<st.n)(v:AV)(u:Value)(hv:aT (aj w0 T γ st w) v u):
 Rel w0 M T γ (st.set d v) (a.put (some d) u) w:=by
 refine⟨h.mT,h.defers,?_,h.os,h.tape,h.output,h.grow,h.kept,λt=>?_,h.ah,h.lt,h.sep,h.pin⟩
 .simp only[Act.put,Array.size_setIfInBounds];exact h.size
 .simp only[Act.put];rw[Vu _ _ _ _ _ (by rw[h.size];exact hd)];simp only[St.set];by_cases e:t=d
  .subst e;rw[if_pos rfl,awi];exact hv
  .rw[if_neg e];have:Nat.beq t d=false:=by cases hb:Nat.beq t d with|false=>rfl|true=>exact absurd (avs hb) e
   rw[this];exact h.tmps t
theorem Rel.drew(h:Rel w0 M T γ st a w)(n:Nat):Rel w0 M T γ st a {w with drawn:=n}:=
 (h.grown (γ':=γ) (w':={w with drawn:=n}) st.ah (λ_ _ h=>h) (λ_ _ _=>rfl) rfl rfl rfl (avt _) (λ_ _=>rfl)
   (λp x h1 h2=>apJ) (λp cs h1 h2=>apJ) (λp x q y b h1 h2=>apJ)).1
section kill
variable (S:Nat->Bool)
theorem aS.kill(_h:Rel w0 M T γ st a w):∀(c:Cell)(v:Value),aS (aj w0 T γ st w) c v->aS (aj w0 T γ (st.kill S) w) (c.kill S) v
 |.int _ _,_,H|.bool _,_,H|.str _,_,H|.nil,_,H|.junk,_,H=>H
 |.sl e r l _,v,H=>cZ.mono (λb hb=>⟨⟨⟨hb.1.1,hb.1.2.1,λo x hx=>by
    simp only[St.kill]at hx;cases hS:S o with
    |true=>rw[hS]at hx;cases hx
    |false=>
     rw[hS]at hx;cases ho:st.ah o with
     |none=>rw[ho]at hx;cases hx
     |some y=>exact hb.1.2.2 o y ho⟩,hb.2⟩,rfl⟩) (.sl e r) v l H
 |.ref o,v,⟨⟨e,r,l,fr,hx⟩,hv,h1⟩=>by
  simp only[Cell.kill];cases hS:S o with
  |true=>exact h1
  |false=>exact⟨⟨e,r,l,fr,by simp only[St.kill,hS];rw[show st.ah o=_ from hx];rfl⟩,hv,h1⟩
theorem Nr(b:Nat)(hb:(aj w0 T γ st w).foot b):(aj w0 T γ (st.kill S) w).foot b:=
 ⟨hb.1,hb.2.1,λo x hx=>by
     simp only[St.kill]at hx;cases hS:S o with
     |true=>rw[hS]at hx;cases hx
     |false=>
      rw[hS]at hx;cases ho:st.ah o with
      |none=>rw[ho]at hx;cases hx
      |some y=>exact hb.2.2 o y ho⟩
theorem ai.kill(h:Rel w0 M T γ st a w):∀(cs:List Cell)(vs:List Value),ai (aj w0 T γ st w) cs vs->ai (aj w0 T γ (st.kill S) w) (cs.map (Cell.kill S)) vs
 |[],[],H=>H
 |c::cs,v::vs,⟨h1,h2⟩=>⟨aS.kill S h c v h1,ai.kill h cs vs h2⟩
 |[],_::_,H|_::_,[],H=>afM
theorem dM.kill(h:Rel w0 M T γ st a w):∀(c:SV)(v:Value),dM (aj w0 T γ st w) c v->dM (aj w0 T γ (st.kill S) w) (c.kill S) v
 |.one c,v,H=>aS.kill S h c v H
 |.agg cs,_,⟨vs,hv,H⟩=>⟨vs,hv,ai.kill S h cs _ H⟩
theorem dN.kill(h:Rel w0 M T γ st a w):∀(cs:List SV)(vs:List Value),dN (aj w0 T γ st w) cs vs->dN (aj w0 T γ (st.kill S) w) (cs.map (SV.kill S)) vs
 |[],[],H=>H
 |c::cs,v::vs,⟨h1,h2⟩=>⟨dM.kill S h c v h1,dN.kill h cs vs h2⟩
 |[],_::_,H|_::_,[],H=>afM
theorem ou{o:Nat}{x:aB}(hS:S o=false)(hx:st.ah o=some x):(st.kill S).ah o=some (x.kill S):=by simp only[St.kill,hS,hx,awr]
theorem gY.kill(h:Rel w0 M T γ st a w){cs:List Cell}{b:Nat}(H:gY (aj w0 T γ st w) cs b):gY (aj w0 T γ (st.kill S) w) (cs.map (Cell.kill S)) b:=by obtain⟨arr,t,fz,hb,hh,hr⟩:=H;exact⟨arr,t,fz,Nr S b hb,hh,ai.kill S h cs _ hr⟩
theorem fA.kill(h:Rel w0 M T γ st a w):∀(l:List (List Cell))(us:List Value),fA (aj w0 T γ st w) l us->fA (aj w0 T γ (st.kill S) w) (l.map (List.map (Cell.kill S))) us
 |[],[],H=>H
 |cs::l,u::us,⟨⟨b,hu,hk⟩,h2⟩=>⟨⟨b,hu,gY.kill S h hk⟩,fA.kill h l us h2⟩
 |[],_::_,H|_::_,[],H=>afM
theorem aT.kill(h:Rel w0 M T γ st a w):∀(c:AV)(v:Value),aT (aj w0 T γ st w) c v->aT (aj w0 T γ (st.kill S) w) (c.kill S) v
 |.undef,_,_=>trivial
 |.sv x,v,H=>dM.kill S h x v H
 |.mJ xs,_,⟨vs,hv,H⟩=>⟨vs,hv,dN.kill S h xs _ H⟩
 |.bM o off,v,⟨b,cs,hx,hγ,hv⟩=>by
  simp only[AV.kill];cases hS:S o with
  |true=>trivial
  |false=>exact⟨b,_,ou S hS hx,hγ,hv⟩
 |.nT o i off,v,⟨b,n,cap,e,r,l,fr,hx,hγ,hv⟩=>by
  simp only[AV.kill];cases hS:S o with
  |true=>trivial
  |false=>exact⟨b,n,cap,e,r,l,fr,ou S hS hx,hγ,hv⟩
 |.win o i off,v,⟨b,n,cap,e,r,l,fr,hx,hγ,hv⟩=>by
  simp only[AV.kill];cases hS:S o with
  |true=>trivial
  |false=>exact⟨b,n,cap,e,r,l,fr,ou S hS hx,hγ,hv⟩
 |.qg r x off fr,v,⟨b,base,cs,t,fz,hv,hf,hb,hr⟩=>
  ⟨b,base,cs,t,fz,hv,⟨Nr S b hf.1,hf.2⟩,hb,aJ.mono (λb hb=>⟨⟨Nr S b hb.1,hb.2⟩,rfl⟩) r _ x hr⟩
 |.fF cs off,v,⟨b,hv,hk⟩=>⟨b,hv,gY.kill S h hk⟩
 |.fn f caps,v,⟨us,hv,hk⟩=>⟨us,hv,fA.kill S h caps _ hk⟩
theorem wR{o:Nat}{x:aB}(hx:(st.kill S).ah o=some x):∃y,st.ah o=some y/\x=y.kill S/\S o=false:=by
 simp only[St.kill]at hx;cases hS:S o with
 |true=>rw[hS]at hx;cases hx
 |false=>
  rw[hS]at hx;cases ho:st.ah o with
  |none=>rw[ho]at hx;cases hx
  |some y=>rw[ho]at hx;simp at hx;exact⟨y,rfl,hx.symm,rfl⟩
theorem bn.kill(h:Rel w0 M T γ st a w)(o:Nat):∀(x:aB),bn (aj w0 T γ st w) o x->bn (aj w0 T γ (st.kill S) w) o (x.kill S)
 |.var cs,⟨b,arr,t,e,hh,hr⟩=>⟨b,arr,t,e,hh,ai.kill S h cs _ hr⟩
 |.arr _ r _ _,⟨xs,hown,hr,hf,hx⟩=>⟨xs,hown,hr,hf,λi x hi=>aJ.mono (λb hb=>⟨⟨Nr S b hb.1,hb.2⟩,rfl⟩) r _ x (hx i x hi)⟩
theorem Rel.kill(h:Rel w0 M T γ st a w):Rel w0 M T γ (st.kill S) a w:=by
 refine⟨h.mT,h.defers,h.size,h.os,h.tape,h.output,h.grow,h.kept,λt=>aT.kill S h _ _ (h.tmps t),λo x hx=>?_,λo x b hx hb=>?_,λo x p y b hx hy hop hb=>?_,λo v cs hN hx=>?_⟩
 .obtain⟨y,hy,rfl,_⟩:=wR S hx;exact bn.kill S h o y (h.ah o y hy)
 .obtain⟨y,hy,rfl,_⟩:=wR S hx;exact h.lt o y b hy hb
 .obtain⟨x',hx',rfl,_⟩:=wR S hx;obtain⟨y',hy',rfl,_⟩:=wR S hy;exact h.sep o x' p y' b hx' hy' hop hb
 .obtain⟨y,hy,e,_⟩:=wR S hx;cases y with
  |var cs'=>exact h.pin o v cs' hN hy
  |arr _ _ _ _=>cases e
end kill
end Go.Fw
namespace Go.Fw
open Go
variable {w0:World} {M:Nat->Prop} {T:Ext} {γ γ':Nat->Value} {st:St} {a:Act} {w w':World} (S:Nat->Bool)
theorem gZ{α:Type}(l:List α)(i k n:Nat)(h:i+k<=n):((l.take n).drop i).take k=(l.drop i).take k:=by rw[ayr,ax3];congr 1;omega
theorem bn.reads{X:V}{o:Nat}{e:TypeId}{r:ax}{l:List r.den}{fr:Bool}{F:Nat->Prop}(h:bn X o (.arr e r l fr))
 (hF:∀b,X.cu fr b->F b) (hO:∀b,blk (X.γ o)=some b->F b):cZ X.w.heap F (.sl e r) (X.γ o) l:=by
 obtain⟨xs,⟨h1,h2⟩,hr,hf,hx⟩:=h;show sG _ _ _ _ _ l;rcases h2 with⟨hv,hn⟩|⟨g,cap,cur,hv,_,hg,hle,hmax,hsz,htake⟩
 .refine⟨by rw[hn];exact avM _,.inl ⟨awm.1 hn,none,0,hv⟩⟩
 .refine⟨avx hle hmax,.inr ⟨g,0,cap,cur,e,(0,0),hv,hle,hO g asZ,hg,λi x hi=>?_⟩⟩;have hlt:i<l.length:=(avG.1 hi).1;have hmul:i*r.len+r.len<=l.length*r.len:=ahp;have:=hx i x hi;rw[← htake,gZ _ _ _ _ hmul]at this;rw[avV];exact aJ.mono (λb hb=>⟨hF b hb,rfl⟩) r _ x this
theorem Aw(b:Nat)(hb:(aj w0 T γ st w).foot b):(aj w0 T γ (st.freeze S) w).foot b:=
 ⟨hb.1,hb.2.1,λo x hx=>by
     simp only[St.freeze]at hx;cases hS:S o with
     |true=>rw[hS]at hx;cases hx
     |false=>
      rw[hS]at hx;cases ho:st.ah o with
      |none=>rw[ho]at hx;cases hx
      |some y=>exact hb.2.2 o y ho⟩
theorem Az{o:Nat}{x:aB}(hx:(st.freeze S).ah o=some x):∃y,st.ah o=some y/\x=y.freeze st S/\S o=false:=by
 simp only[St.freeze]at hx;cases hS:S o with
 |true=>rw[hS]at hx;cases hx
 |false=>
  rw[hS]at hx;cases ho:st.ah o with
  |none=>rw[ho]at hx;cases hx
  |some y=>rw[ho]at hx;simp at hx;exact⟨y,rfl,hx.symm,rfl⟩
theorem zS{o:Nat}{x:aB}(hS:S o=false)(hx:st.ah o=some x):(st.freeze S).ah o=some (x.freeze st S):=by simp only[St.freeze,hS,hx,awr]
theorem aS.freeze(h:Rel w0 M T γ st a w):∀(c:Cell)(v:Value),aS (aj w0 T γ st w) c v->aS (aj w0 T γ (st.freeze S) w) (c.freeze st S) v
 |.int _ _,_,H|.bool _,_,H|.str _,_,H|.nil,_,H|.junk,_,H=>H
 |.sl e r l _,v,H=>cZ.mono (λb hb=>⟨⟨Aw S b hb.1,hb.2⟩,rfl⟩) (.sl e r) v l H
 |.ref o,v,⟨⟨e,r,l,fr,hx⟩,hv,h1⟩=>by
  have hx':st.ah o=some (.arr e r l fr):=hx;simp only[Cell.freeze];cases hS:S o with
  |false=>exact⟨⟨e,r,l,fr,zS S hS hx'⟩,hv,h1⟩
  |true=>
   simp only[hx'];rw[hv];refine bn.reads (F:=(aj w0 T γ (st.freeze S) w).cu fr) (h.ah o _ hx') (λb hb=>⟨Aw S b hb.1,hb.2⟩) (λb hb=>⟨⟨(h.lt o _ b hx' hb).1,λhlt=>h.mT b ((h.lt o _ b hx' hb).2.resolve_left (by have:b<w0.heap.size:=hlt;omega)),λp y hp=>?_⟩,λhfr=>?_⟩)
   .obtain⟨z,hz,_,hSp⟩:=Az S hp;refine h.sep o _ p z b hx' hz (λe=>?_) hb;rw[e,hSp]at hS;cases hS
   .obtain⟨xs,_,_,hf,_⟩:=h.ah o _ hx';exact hf b hb hfr
theorem ai.freeze(h:Rel w0 M T γ st a w):∀(cs:List Cell)(vs:List Value),ai (aj w0 T γ st w) cs vs->ai (aj w0 T γ (st.freeze S) w) (cs.map (Cell.freeze st S)) vs
 |[],[],H=>H
 |c::cs,v::vs,⟨h1,h2⟩=>⟨aS.freeze S h c v h1,ai.freeze h cs vs h2⟩
 |[],_::_,H|_::_,[],H=>afM
theorem dM.freeze(h:Rel w0 M T γ st a w):∀(c:SV)(v:Value),dM (aj w0 T γ st w) c v->dM (aj w0 T γ (st.freeze S) w) (c.freeze st S) v
 |.one c,v,H=>aS.freeze S h c v H
 |.agg cs,_,⟨vs,hv,H⟩=>⟨vs,hv,ai.freeze S h cs _ H⟩
theorem dN.freeze(h:Rel w0 M T γ st a w):∀(cs:List SV)(vs:List Value),dN (aj w0 T γ st w) cs vs->dN (aj w0 T γ (st.freeze S) w) (cs.map (SV.freeze st S)) vs
 |[],[],H=>H
 |c::cs,v::vs,⟨h1,h2⟩=>⟨dM.freeze S h c v h1,dN.freeze h cs vs h2⟩
 |[],_::_,H|_::_,[],H=>afM
theorem gY.freeze(h:Rel w0 M T γ st a w){cs:List Cell}{b:Nat}(H:gY (aj w0 T γ st w) cs b):gY (aj w0 T γ (st.freeze S) w) (cs.map (Cell.freeze st S)) b:=by obtain⟨arr,t,fz,hb,hh,hr⟩:=H;exact⟨arr,t,fz,Aw S b hb,hh,ai.freeze S h cs _ hr⟩
theorem fA.freeze(h:Rel w0 M T γ st a w):∀(l:List (List Cell))(us:List Value),fA (aj w0 T γ st w) l us->fA (aj w0 T γ (st.freeze S) w) (l.map (List.map (Cell.freeze st S))) us
 |[],[],H=>H
 |cs::l,u::us,⟨⟨b,hu,hk⟩,h2⟩=>⟨⟨b,hu,gY.freeze S h hk⟩,fA.freeze h l us h2⟩
 |[],_::_,H|_::_,[],H=>afM
theorem aT.freeze(h:Rel w0 M T γ st a w):∀(c:AV)(v:Value),aT (aj w0 T γ st w) c v->aT (aj w0 T γ (st.freeze S) w) (c.freeze st S) v
 |.undef,_,_=>trivial
 |.sv x,v,H=>dM.freeze S h x v H
 |.mJ xs,_,⟨vs,hv,H⟩=>⟨vs,hv,dN.freeze S h xs _ H⟩
 |.bM o off,v,⟨b,cs,hx,hγ,hv⟩=>by
  simp only[AV.freeze];cases hS:S o with
  |true=>trivial
  |false=>exact⟨b,_,zS S hS hx,hγ,hv⟩
 |.nT o i off,v,⟨b,n,cap,e,r,l,fr,hx,hγ,hv⟩=>by
  simp only[AV.freeze];cases hS:S o with
  |true=>trivial
  |false=>exact⟨b,n,cap,e,r,l,fr,zS S hS hx,hγ,hv⟩
 |.win o i off,v,⟨b,n,cap,e,r,l,fr,hx,hγ,hv⟩=>by
  simp only[AV.freeze];cases hS:S o with
  |true=>trivial
  |false=>exact⟨b,n,cap,e,r,l,fr,zS S hS hx,hγ,hv⟩
 |.qg r x off fr,v,⟨b,base,cs,t,fz,hv,hf,hb,hr⟩=>
  ⟨b,base,cs,t,fz,hv,⟨Aw S b hf.1,hf.2⟩,hb,aJ.mono (λb hb=>⟨⟨Aw S b hb.1,hb.2⟩,rfl⟩) r _ x hr⟩
 |.fF cs off,v,⟨b,hv,hk⟩=>⟨b,hv,gY.freeze S h hk⟩
 |.fn f caps,v,⟨us,hv,hk⟩=>⟨us,hv,fA.freeze S h caps _ hk⟩
theorem bn.freeze(h:Rel w0 M T γ st a w)(o:Nat):∀(x:aB),bn (aj w0 T γ st w) o x->bn (aj w0 T γ (st.freeze S) w) o (x.freeze st S)
 |.var cs,⟨b,arr,t,e,hh,hr⟩=>⟨b,arr,t,e,hh,ai.freeze S h cs _ hr⟩
 |.arr _ r _ _,⟨xs,hown,hr,hf,hx⟩=>⟨xs,hown,hr,hf,λi x hi=>aJ.mono (λb hb=>⟨⟨Aw S b hb.1,hb.2⟩,rfl⟩) r _ x (hx i x hi)⟩
theorem Rel.freeze(h:Rel w0 M T γ st a w):Rel w0 M T γ (st.freeze S) a w:=by
 refine⟨h.mT,h.defers,h.size,h.os,h.tape,h.output,h.grow,h.kept,λt=>aT.freeze S h _ _ (h.tmps t),λo x hx=>?_,λo x b hx hb=>?_,λo x p y b hx hy hop hb=>?_,λo v cs hN hx=>?_⟩
 .obtain⟨y,hy,rfl,_⟩:=Az S hx;exact bn.freeze S h o y (h.ah o y hy)
 .obtain⟨y,hy,rfl,_⟩:=Az S hx;exact h.lt o y b hy hb
 .obtain⟨x',hx',rfl,_⟩:=Az S hx;obtain⟨y',hy',rfl,_⟩:=Az S hy;exact h.sep o x' p y' b hx' hy' hop hb
 .obtain⟨y,hy,e,_⟩:=Az S hx;cases y with
  |var cs'=>exact h.pin o v cs' hN hy
  |arr _ _ _ _=>cases e
theorem Cell.XK(h:Rel w0 M T γ st a w):∀(c:CT)(x:Cell)(v:Value)(d:c.den),aS (aj w0 T γ st w) x v->x.get st c=some d->
 cZ w.heap (λb=>b<w.heap.size) c v d:=by
 intro c x v d hx hg;cases c with
 |int k=>
  cases x<;>simp only[Cell.get]at hg<;>try (cases hg;done)
  next l n=>
   cases hd:decide (k=l)with
   |false=>rw[hd]at hg;cases hg
   |true=>
    rw[hd]at hg;have hkl:k=l:=awQ hd;subst hkl;cases hg;exact hx
 |bool=>cases x<;>simp only[Cell.get]at hg<;>first|(cases hg;done)|(cases hg;exact hx)
 |str=>cases x<;>simp only[Cell.get]at hg<;>first|(cases hg;done)|(cases hg;exact hx)
 |sl e r=>
  cases x<;>simp only[Cell.get]at hg<;>try (cases hg;done)
  .cases hg;have hv:v=.slice none 0 0:=hx;subst hv;exact⟨avM _,.inl ⟨rfl,none,0,rfl⟩⟩
  .next e' s l fr=>
   split at hg
   .next hb=>have hrs:=ax.eq_of_beq s r hb;subst hrs;cases hg;exact cZ.mono (λb hb=>⟨hb.1.1,rfl⟩) (.sl e s) v l hx
   .cases hg
  .next o=>
   obtain⟨⟨e',s,l,fr,ho⟩,hv,_⟩:=hx;have ho':st.ah o=some (.arr e' s l fr):=ho;simp only[ho']at hg;split at hg
   .next hb=>have hrs:=ax.eq_of_beq s r hb;subst hrs;cases hg;rw[hv];exact bn.reads (X:=aj w0 T γ st w) (e:=e') (l:=l) (fr:=fr) (h.ah o _ ho') (λb hb=>hb.1.1) (λb hb=>(h.lt o _ b ho' hb).1)
   .cases hg
end Go.Fw
namespace Go.Fw
open Go
variable {P:Program} {w0:World} {M:Nat->Prop} {T:Ext} {γ γ':Nat->Value} {st:St} {a:Act} {w w':World}
theorem Oper.mD{o:Oper}{a:Act}{w w':World}{u:Value}{next:Act->World->Prop}{Q:Exit->Act->World->Prop}
 (h:(execOp a.eval o).run P w=.ok (.value u) w') (hn:next (a.put o.dst u) w'):o.wp P a w next Q:=by
 unfold Oper.wp;rw[h];exact hn
theorem Oper.wp_skip{o:Oper}{a:Act}{w w':World}{next:Act->World->Prop}{Q:Exit->Act->World->Prop}
 (h:(execOp a.eval o).run P w=.ok .skip w') (hn:next (a.put o.dst undef) w'):o.wp P a w next Q:=by
 unfold Oper.wp;rw[h];exact hn
theorem ajq(X:V)(v:Value):aT X (adS v) v:=by
 unfold adS;split
 .split
  .next h=>simp at h;exact⟨rfl,h.1,h.2⟩
  .trivial
 .rfl
 .split
  .next s h=>exact⟨rfl,acG⟩
  .trivial
 .rfl
 .trivial
theorem jc(h:Rel w0 M T γ st a w)(x:Operand):aT (aj w0 T γ st w) (st.ev x) (a.eval x):=by
 cases x with
 |tmp t=>exact h.tmps t
 |const v=>exact ajq _ v
 |global g=>trivial
 |func f=>exact⟨#[],rfl,trivial⟩
theorem oz(h:Rel w0 M T γ st a w){x:Operand}{c:Cell}(e:st.ev x=.sv (.one c)):aS (aj w0 T γ st w) c (a.eval x):=by have:=jc h x;rw[e]at this;exact this
theorem akb(h:Rel w0 M T γ st a w){x:Operand}{b:Bool}(e:st.ev x=.sv (.one (.bool b))):a.eval x=.bool b:=oz h e
theorem Po(h:Rel w0 M T γ st a w){x:Operand}{k:IntKind}{n:Int}(e:st.ev x=.sv (.one (.int k n))):a.eval x=.int k n/\k.min<=n/\n<=k.max:=oz h e
theorem uw(h:Rel w0 M T γ st a w){x:Operand}{n:Int}(e:uq (st.ev x)=some n):∃k,a.eval x=.int k n/\k.min<=n/\n<=k.max:=by
 unfold uq at e;split at e
 .next k m hx=>cases e;exact⟨k,Po h hx⟩
 .cases e
theorem FX(k:IntKind)(n:Int):k.min<=k.wrap n/\k.wrap n<=k.max:=by unfold IntKind.wrap IntKind.min IntKind.max;cases k<;>simp only[IntKind.signed,IntKind.bits]<;>simp<;>first|omega|(split<;>omega)
theorem ak2(k:IntKind)(x y:Int)(hx:k.min<=x/\x<=k.max):k.min<=x.tmod y/\x.tmod y<=k.max:=by
 have h0:k.min<=0/\0<=k.max:=asX;have h1:(x.tmod y).natAbs=x.natAbs%y.natAbs:=ayH x y;have h2:x.natAbs%y.natAbs<=x.natAbs:=Nat.mod_le _ _;rcases Int.le_total 0 x with hs|hs
 .have h3:=ayh y hs;omega
 .have h3:x.tmod y<=0:=by have:=ayh y (show 0<= -x from abn);rw[Int.neg_tmod]at this;omega
  omega
theorem ak3(k:IntKind)(x:Int)(n:Nat)(hx:k.min<=x/\x<=k.max):k.min<=x.fdiv (2 ^ n)/\x.fdiv (2 ^ n)<=k.max:=by
 have h0:k.min<=0/\0<=k.max:=asX;have hm:(1:Int)<=2 ^ n:=Int.pow_pos abn;rw[Int.fdiv_eq_ediv_of_nonneg _ abn];generalize (2:Int) ^ n=m at hm;have h1:=Int.mul_ediv_add_emod x m;have h2:=Int.emod_nonneg x (show m≠0 from abn);have h3:=Int.emod_lt_of_pos x (show 0<m from abn);generalize hq:x / m=q at*;rcases Int.le_total 0 x with hs|hs
 .have h4:0<=q:=by rw[← hq];exact Int.ediv_nonneg hs abn
  have h5:1*q<=m*q:=axF hm h4;omega
 .by_cases h4:q<= -1
  .have h5:m*(q+1)<=1*(q+1):=Int.mul_le_mul_of_nonpos_right hm abn;rw[Int.mul_add]at h5;omega
  .have h5:1*q<=m*q:=axF hm abn;omega
theorem Ov{op:BinOp}{t:TypeId}{x y:Operand}{k l:IntKind}{n m:Int}:(eqGuard op t x y (.int k n) (.int l m)).run P w=.ok () w:=by cases op<;>rfl
theorem ajr{op:BinOp}{t:TypeId}{x y:Operand}{s u:ByteArray}:(eqGuard op t x y (.string s) (.string u)).run P w=.ok () w:=by cases op<;>rfl
theorem Vw{op:BinOp}{t:TypeId}{x y:Operand}{s u:Bool}:(eqGuard op t x y (.bool s) (.bool u)).run P w=.ok () w:=by cases op<;>rfl
theorem ak4{op:BinOp}{k:IntKind}{x y:Int}{p:Prop}{c:Cell}{t:TypeId}(X:V)(h:Pm op k x y=some (p,c))(hp:p)(hx:k.min<=x/\x<=k.max):
 ∃u,(binOp op t (.int k x) (.int k y)).run P w=.ok u w/\aS X c u:=by
 cases op<;>simp only[Pm,Option.some.injEq,Prod.mk.injEq,reduceCtorEq]at h<;>obtain⟨rfl,rfl⟩:=h
 case quo=>refine⟨_,?_,rfl,FX _ _⟩;simp[binOp,Op.intDiv,hp,awx]
 case rem=>refine⟨_,?_,rfl,ak2 k x y hx⟩;simp[binOp,Op.intDiv,hp,awx]
 all_goals first
  |exact⟨_,by simp[binOp,Op.intArith,Op.intBits,bitsOf,awx],rfl,FX _ _⟩
  |exact⟨_,by simp[binOp,Op.intCmp,awx],rfl⟩
theorem ak5{op:BinOp}{x y:Bytes}{p:Prop}{c:Cell}{t:TypeId}(X:V)(h:Vp op x y=some (p,c))(hp:p):
 ∃u,(binOp op t (.string ⟨x.toArray⟩) (.string ⟨y.toArray⟩)).run P w=.ok u w/\aS X c u:=by
 cases op<;>simp only[Vp,Option.some.injEq,Prod.mk.injEq,reduceCtorEq]at h<;>obtain⟨rfl,rfl⟩:=h
 case add=>
  refine⟨.string ⟨(x++y).toArray⟩,?_,rfl,by simpa using hp⟩;have h1:¬((((⟨x.toArray⟩:ByteArray).size+(⟨y.toArray⟩:ByteArray).size:Nat):Int)>IntKind.i64.max):=by have e:IntKind.i64.max=9223372036854775807:=rfl;unfold maxLen at hp;rw[e];show ¬(((x.toArray.size+y.toArray.size:Nat):Int)>_);simp only[aw4];omega
  have h2:(⟨x.toArray⟩:ByteArray)++⟨y.toArray⟩=⟨(x++y).toArray⟩:=by apply ByteArray.ext;simp
  simp only[binOp,Op.stringOp,if_neg h1,h2];rfl
 all_goals exact⟨_,by simp[binOp,Op.stringOp,awx],rfl⟩
theorem ajs{op:BinOp}{x y:Cell}{p:Prop}{c:Cell}{t:TypeId}{s u:Operand}{v v':Value}(X:V)(h:Pn op x y=some (p,c))(hp:p)
 (hx:aS X x v) (hy:aS X y v') (hb:∀a b,x=.bool a->y=.bool b->P.underlying t=some .bool):
 ∃r,(do eqGuard op t s u v v';binOp op t v v').run P w=.ok r w/\aS X c r:=by
 cases x<;>cases y<;>simp only[Pn,reduceCtorEq]at h
 case int.int k n l m=>
  obtain⟨rfl,hn⟩:=hx;obtain⟨rfl,hm⟩:=hy;have arith:∀hk:k=l,Pm op k n m=some (p,c)->∃r,(do eqGuard op t s u (.int k n) (.int l m);binOp op t (.int k n) (.int l m)).run P w=.ok r w/\aS X c r:=by intro hk h2;subst hk;obtain⟨r,hr,hR⟩:=ak4 (P:=P) (w:=w) (t:=t) X h2 hp hn;exact⟨r,by rw[avQ,Ov];exact hr,hR⟩
  cases op
  case shl=>simp only[Option.some.injEq,Prod.mk.injEq]at h;obtain⟨rfl,rfl⟩:=h;refine⟨_,?_,rfl,FX _ _⟩;rw[avQ,Ov];simp[binOp,Op.shift,show ¬m<0 from abn,awx]
  case shr=>simp only[Option.some.injEq,Prod.mk.injEq]at h;obtain⟨rfl,rfl⟩:=h;refine⟨_,?_,rfl,ak3 _ _ _ hn⟩;rw[avQ,Ov];simp[binOp,Op.shift,show ¬m<0 from abn,awx]
  all_goals
   dsimp only at h;split at h
   .next hk=>exact arith (awQ hk) h
   .cases h
 case bool.bool a b=>
  have e1:v=.bool a:=hx;have e2:v'=.bool b:=hy;subst e1 e2;have hu:=hb a b rfl rfl;have he:(Op.equal t (.bool a) (.bool b)).run P w=.ok (a==b) w:=run_equal_bool w t a b hu;cases op<;>simp only[Option.some.injEq,Prod.mk.injEq,reduceCtorEq]at h<;>obtain⟨_,rfl⟩:=h
  .refine⟨_,?_,rfl⟩;rw[avQ,Vw];simp[binOp,he]
  .refine⟨_,?_,rfl⟩;rw[avQ,Vw];simp[binOp,he]
 case str.str x y=>obtain⟨rfl,hn⟩:=hx;obtain⟨rfl,hm⟩:=hy;obtain⟨r,hr,hR⟩:=ak5 (P:=P) (w:=w) (t:=t) X h hp;exact⟨r,by rw[avQ,ajr];exact hr,hR⟩
end Go.Fw
namespace Go.Fw
open Go
def CT.adT:CT->Value
 |.int k=>.int k 0
 |.bool=>.bool false
 |.str=>.string ⟨#[]⟩
 |.sl _ _=>.slice none 0 0
def ax.kS:ax->List Value
 |.nil=>[]
 |.cons c r=>c.adT::r.kS
def ax.desc:ax->Option TypeDesc
 |.cons (.int k) .nil=>some (.int k)
 |.cons .bool .nil=>some .bool
 |.cons .str .nil=>some .string
 |.cons (.sl e _) .nil=>some (.slice e)
 |_=>none
structure lM(P:Program)(t:TypeId)(ti:TI):Prop where
 info:∃i z,P.info? t=some i/\i.size=ti.cells.len/\i.bytes=ti.bytes/\i.zero=some z/\z.cells.toList=ti.cells.kS/\(ti.agg=false->z.cells=#[z])
 und:match ti.kind with
  |.scalar=>∃d,ti.cells.desc=some d/\P.underlying t=some d
  |.str=>P.underlying t=some .string/\ti.cells=.cons .str .nil
  |.slice e=>P.underlying t=some (.slice e)/\∃r,ti.cells=.cons (.sl e r) .nil
  |.struct fs=>∃yR:Array Field,P.underlying t=some (.struct yR)/\(fs=yR.toList.map λf=>(f.offset,f.type))/\∀f∈yR.toList,(P.info? f.type).isSome=true
 small:ti.bytes<=4096
 cmp:ti.cmp=true->∀(w:World)(s u:Operand)(X:V)(xs ys:List Cell)(vs us:Array Value)(b:Bool),ti.cells.fits xs=true->ai X xs vs.toList->ai X ys us.toList->kH xs ys=some b->
  (do eqGuard .eql t s u (.agg vs) (.agg us);binOp .eql t (.agg vs) (.agg us)).run P w=.ok (.bool b) w/\
  (do eqGuard .neq t s u (.agg vs) (.agg us);binOp .neq t (.agg vs) (.agg us)).run P w=.ok (.bool (!b)) w
variable {P:Program} {w0:World} {M:Nat->Prop} {T:Ext} {γ γ':Nat->Value} {st:St} {a:Act} {w w':World} {Θ:jr}
theorem lM.size{t:TypeId}{ti:TI}(h:lM P t ti):(P.info? t).map (·.size)=some ti.cells.len:=by obtain⟨i,z,hi,hs,_⟩:=h.info;rw[hi];simp[hs]
theorem lM.run_sizeOf{t:TypeId}{ti:TI}(h:lM P t ti)(w:World):(sizeOf t).run P w=.ok ti.cells.len w:=by obtain⟨i,z,hi,hs,_⟩:=h.info;simp[sizeOf,typeInfo,hi,hs]
theorem lM.Vx{t:TypeId}{ti:TI}(h:lM P t ti)(w:World):(isAgg t).run P w=.ok ti.agg w:=by
 have hu:=h.und;unfold TI.agg;unfold isAgg;split at hu
 .next hk=>obtain⟨d,hd,hu⟩:=hu;rw[hk,avQ,avY hu w];unfold ax.desc at hd;split at hd<;>first|(cases hd;rfl)|cases hd
 .next hk=>rw[hk,avQ,avY hu.1 w];rfl
 .next e hk=>rw[hk,avQ,avY hu.1 w];rfl
 .next fs hk=>obtain⟨yR,hu,_,_⟩:=hu;rw[hk,avQ,avY hu w];rfl
theorem XL(X:V)(fr:Bool):∀(r:ax)(vs:List Value)(x:r.den),aJ X.w.heap (X.cu fr) r vs x->ai X (ax.row fr r x) vs
 |.nil,vs,_,h=>by rw[aJ]at h;subst h;trivial
 |.cons c r,vs,(x,y),h=>by
  rw[aJ]at h;obtain⟨v,vs',rfl,h1,h2⟩:=h;refine⟨?_,XL X fr r vs' y h2⟩;cases c with
  |int k=>exact h1
  |bool=>exact h1
  |str=>exact h1
  |sl e r=>exact h1
theorem Q5{b off:Nat}{cs:Array Value}{t:TypeId}{fz:Nat×Nat}(h:w.heap[b]? =some (.cells cs t fz))(n:Nat):
 w.rangeAt b off ((cs.toList.drop off).take n):=by
 intro j v hj;rw[av4]at hj;split at hj
 .rw[av5]at hj;show w.cell? ⟨b,off+j,none⟩=some v;simp only[World.cell?,h];simpa using hj
 .cases hj
theorem Iu{t:TypeId}{ti:TI}(hT:lM P t ti)(X:V){b off k:Nat}{cs:Array Value}{e:TypeId}{fz:Nat×Nat}
 (hb:w.heap[b]? =some (.cells cs e fz)) {ds:List Cell} {n:Nat} (hr:ai X ds ((cs.toList.drop off).take n)) {v:SV} (hv:lK ti ds k=some v):
 ∃u,(Instr.loadAt t (.pointer (some ⟨b,off+k,none⟩))).run P w=.ok u w/\dM X v u:=by
 unfold lK at hv;have hlen:=ai.length _ _ hr;split at hv
 .next hagg=>
  split at hv
  .next hle=>
   cases hv;have hle:k+ti.cells.len<=ds.length:=awy hle;have hu:=hT.und;unfold TI.agg at hagg;split at hagg
   .next fs hk=>
    rw[hk]at hu;obtain⟨yR,hu,_,_⟩:=hu;have hsub:(((cs.toList.drop off).take n).drop k).take ti.cells.len=(cs.toList.drop (off+k)).take ti.cells.len:=by rw[avz,avW]at hlen;rw[gZ _ _ _ _ abn,aw1]
    have hl:((cs.toList.drop (off+k)).take ti.cells.len).length=ti.cells.len:=by rw[avz,avW]at hlen;rw[avz,avW];omega
    refine⟨.agg ((cs.toList.drop (off+k)).take ti.cells.len).toArray,?_,_,rfl,?_⟩
    .exact run_loadAt_mid w b (off+k) t _ _ (Q5 hb _) hu rfl (by rw[hT.size,hl])
    .rw[axS,← hsub];exact ai.take _ _ _ (ai.drop _ _ _ hr)
   .cases hagg
  .cases hv
 .next hagg=>
  split at hv
  .next c hc=>
   cases hv;obtain⟨u,hu,hR⟩:=ai.get _ _ k c hr hc;refine⟨u,?_,hR⟩;have hcell:w.cell? ⟨b,off+k,none⟩=some u:=by
    rw[av4]at hu;split at hu
    .rw[av5]at hu;simp only[World.cell?,hb];simpa using hu
    .cases hu
   simp only[Instr.loadAt,Instr.sureAddr,avQ,awx,awl,loadVar,hT.Vx,hagg,awZ,axK];simp[load,Sem.run,hcell]
  .cases hv
end Go.Fw
namespace Go.Fw
open Go
def ax.takeC:Nat->ax->ax
 |0,_=>.nil
 |_+1,.nil=>.nil
 |n+1,.cons c r=>.cons c (r.takeC n)
def ax.abq:Nat->ax->ax
 |0,r=>r
 |_+1,.nil=>.nil
 |n+1,.cons _ r=>r.abq n
def FY(P:Program)(rec:TypeId->ax->Bool):List Field->Nat->ax->Bool
 |[],_,cs=>match cs with|.nil=>true|_=>false
 |f::fs,off,cs=>!(f.name== "_")&&(Nat.beq f.offset off&&(match P.info? f.type with
  |some i=>Nat.ble i.size cs.len&&(rec f.type (cs.takeC i.size)&&FY P rec fs (off+i.size) (cs.abq i.size))
  |none=>false))
def ak6(P:Program):Nat->TypeId->ax->Bool
 |0,_,_=>false
 |n+1,t,cs=>match P.underlying t with
  |some (.int k)=>match cs with|.cons (.int l) .nil=>decide (k=l)|_=>false
  |some .bool=>match cs with|.cons .bool .nil=>true|_=>false
  |some .string=>match cs with|.cons .str .nil=>true|_=>false
  |some (.struct fs)=>!P.stoodInHeld t&&FY P (ak6 P n) fs.toList 0 cs
  |_=>false
variable {P:Program}
theorem afh:∀(n:Nat)(cs:ax)(xs:List Cell),cs.fits xs=true->(cs.takeC n).fits (xs.take n)=true/\(cs.abq n).fits (xs.drop n)=true
 |0,cs,xs,h=>⟨by simp[ax.takeC,ax.fits],by simpa[ax.abq]using h⟩
 |n+1,.nil,[],h=>⟨rfl,rfl⟩
 |n+1,.cons c r,x::xs,h=>by
  rw[ax.fits,avo]at h;have ih:=afh n r xs h.2;exact⟨by rw[ax.takeC,awP,ax.fits,h.1,ih.1];rfl,ih.2⟩
 |n+1,.nil,_::_,h|n+1,.cons _ _,[],h=>by simp[ax.fits]at h
theorem ZP{X:V}:∀(n:Nat)(xs:List Cell)(vs:List Value),ai X xs vs->ai X (xs.take n) (vs.take n)/\ai X (xs.drop n) (vs.drop n)
 |0,xs,vs,h=>⟨by simp[ai],acG⟩
 |n+1,[],[],h=>by simp[ai]
 |n+1,x::xs,v::vs,h=>by
  have ih:=ZP n xs vs h.2;exact⟨⟨h.1,ih.1⟩,ih.2⟩
 |n+1,[],_::_,h|n+1,_::_,[],h=>agk
theorem Vy:∀(n:Nat)(xs ys:List Cell)(b:Bool),kH xs ys=some b->∃b1 b2,kH (xs.take n) (ys.take n)=some b1/\kH (xs.drop n) (ys.drop n)=some b2/\b=(b1&&b2)
 |0,xs,ys,b,h=>⟨true,b,rfl,acG,acA⟩
 |n+1,[],[],b,h=>by cases h;exact⟨true,true,rfl,rfl,rfl⟩
 |n+1,x::xs,y::ys,b,h=>by
  rw[kH]at h;split at h
  .next a c h1 h2=>cases h;obtain⟨b1,b2,e1,e2,rfl⟩:=Vy n xs ys c h2;exact⟨a&&b1,b2,by rw[awP,awP,kH,h1,e1],e2,by rw[Bool.and_assoc]⟩
  .cases h
 |n+1,[],_::_,b,h|n+1,_::_,[],b,h=>by simp[kH]at h
theorem Ox:∀(cs:ax)(xs:List Cell),cs.fits xs=true->xs.length=cs.len
 |.nil,[],_=>rfl
 |.cons c r,x::xs,h=>by
  rw[ax.fits,avo]at h;rw[avq,ax.len,Ox r xs h.2]
 |.nil,_::_,h|.cons _ _,[],h=>by simp[ax.fits]at h
theorem Q7{X:V}:∀(xs:List Cell)(vs:List Value),ai X xs vs->vs.length=xs.length
 |[],[],_=>rfl
 |_::xs,_::vs,h=>by rw[avq,avq,Q7 xs vs h.2]
 |[],_::_,h|_::_,[],h=>agk
theorem Pq:∀(xs ys:List Cell)(b:Bool),kH xs ys=some b->ys.length=xs.length
 |[],[],_,_=>rfl
 |x::xs,y::ys,b,h=>by
  rw[kH]at h;split at h
  .next a c h1 h2=>rw[avq,avq,Pq xs ys c h2]
  .cases h
 |[],_::_,_,h|_::_,[],_,h=>by simp[kH]at h
def apa(P:Program)(d:Nat)(t:TypeId)(vs us:List Value)(b:Bool)(w:World):Prop:=
 ((∃fs,P.underlying t=some (.struct fs))/\(Op.equalIn d t (.agg vs.toArray) (.agg us.toArray)).run P w=.ok b w)\/
 ((∀w,(isAgg t).run P w=.ok false w)/\∃v u,vs=[v]/\us=[u]/\(Op.equalIn d t v u).run P w=.ok b w)
theorem abr{d:Nat}{rec:TypeId->ax->Bool}{X:V}(w:World)
 (hrec:∀t cs,rec t cs=true->∀(xs ys:List Cell)(vs us:List Value)(b:Bool),cs.fits xs=true->ai X xs vs->ai X ys us->kH xs ys=some b->apa P d t vs us b w):
 ∀(fs:List Field)(off:Nat)(cs:ax)(pv pu:List Value)(xs ys:List Cell)(vs us:List Value)(b:Bool),FY P rec fs off cs=true->pv.length=off->pu.length=off->cs.fits xs=true->ai X xs vs->ai X ys us->kH xs ys=some b->
  (Op.eqFields d (pv++vs).toArray (pu++us).toArray fs).run P w=.ok b w
 |[],off,cs,pv,pu,xs,ys,vs,us,b,h,_,_,hf,hx,hy,he=>by
  cases cs with
  |nil=>cases xs with
   |nil=>
    cases ys with
    |nil=>cases he;rfl
    |cons=>simp[kH]at he
   |cons=>simp[ax.fits]at hf
  |cons=>simp[FY]at h
 |f::fs,off,cs,pv,pu,xs,ys,vs,us,b,h,hpv,hpu,hf,hx,hy,he=>by
  rw[FY,avo,avo]at h;obtain⟨hn,ho,h⟩:=h;have ho:=avs ho;split at h
  .next i hi=>
   rw[avo,avo]at h;obtain⟨hle,hr,h⟩:=h;have hle:i.size<=cs.len:=by simpa[axL]using hle
   obtain⟨b1,b2,e1,e2,rfl⟩:=Vy i.size xs ys b he;have f1:=afh i.size cs xs hf;have x1:=ZP i.size xs vs hx;have y1:=ZP i.size ys us hy;have hname:f.name≠ "_" :=by simpa using hn
   have lv:vs.length=cs.len:=by rw[Q7 _ _ hx,Ox _ _ hf]
   have lu:us.length=cs.len:=by rw[Q7 _ _ hy,Pq _ _ _ he,Ox _ _ hf]
   have as5:=hrec f.type _ hr _ _ _ _ b1 f1.1 x1.1 y1.1 e1;have rest:(Op.eqFields d (pv++vs).toArray (pu++us).toArray fs).run P w=.ok b2 w:=by have:=abr w hrec fs (off+i.size) (cs.abq i.size) (pv++vs.take i.size) (pu++us.take i.size) _ _ _ _ b2 h (by rw[avn,hpv,avz];omega) (by rw[avn,hpu,avz];omega) f1.2 x1.2 y1.2 e2;simpa only[avE,axa]using this
   have hsz:∀w,(sizeOf f.type).run P w=.ok i.size w:=λw=>by simp[sizeOf,typeInfo,hi]
   have key:∃a c,(part f.type (pv++vs).toArray f.offset).run P w=.ok a w/\(part f.type (pu++us).toArray f.offset).run P w=.ok c w/\(Op.equalIn d f.type a c).run P w=.ok b1 w:=by
    rcases as5 with⟨⟨fl,hu⟩,hrun⟩|⟨hag,v,u,hv,hu,hrun⟩
    .refine⟨_,_,?_,?_,hrun⟩
     .have hag:(isAgg f.type).run P w=.ok true w:=amE;simp only[part,avQ,hag,awl,if_true,hsz,awx];congr 2;rw[ho,← hpv];apply aw8;simp
     .have hag:(isAgg f.type).run P w=.ok true w:=amE;simp only[part,avQ,hag,awl,if_true,hsz,awx];congr 2;rw[ho,← hpu];apply aw8;simp
    .have g1:(pv++vs).toArray[f.offset]? =some v:=by
      rw[ho,← hpv,List.getElem?_toArray,av1 (avt _),axJ];have:(vs.take i.size)[0]? =some v:=asZ;rw[av4]at this;split at this
      .exact this
      .cases this
     have g2:(pu++us).toArray[f.offset]? =some u:=by
      rw[ho,← hpu,List.getElem?_toArray,av1 (avt _),axJ];have:(us.take i.size)[0]? =some u:=by rw[hu];rfl
      rw[av4]at this;split at this
      .exact this
      .cases this
     exact⟨v,u,by simp[part,avQ,hag,g1],by simp[part,avQ,hag,g2],hrun⟩
   obtain⟨a,c,k1,k2,k3⟩:=key;rw[Op.eqFields];rw[if_pos hname,avQ,k1,awl,avQ,k2,awl,avQ,k3,awl];cases b1 with
   |true=>simpa using rest
   |false=>simp
  .cases h
theorem one_cell{X:V}{c:CT}{xs ys:List Cell}{vs us:List Value}{b:Bool}(hf:(ax.cons c .nil).fits xs=true)(hx:ai X xs vs)(hy:ai X ys us)(he:kH xs ys=some b):
 ∃x y v u,vs=[v]/\us=[u]/\c.fits x=true/\aS X x v/\aS X y u/\Vq x y=some b:=by
 cases xs with
 |nil=>simp[ax.fits]at hf
 |cons x xs=>
  rw[ax.fits,avo]at hf;cases xs with
  |cons=>simp[ax.fits]at hf
  |nil=>
   cases ys with
   |nil=>simp[kH]at he
   |cons y ys=>
    cases ys with
    |cons=>simp[kH]at he
    |nil=>
     cases vs with
     |nil=>cases hx
     |cons v vs=>
      cases us with
      |nil=>cases hy
      |cons u us=>
       cases vs with
       |cons=>cases hx.2
       |nil=>
        cases us with
        |cons=>cases hy.2
        |nil=>
         refine⟨x,y,v,u,rfl,rfl,hf.1,hx.1,hy.1,?_⟩;rw[kH]at he;split at he
         .next a c h1 h2=>cases h2;cases he;rw[h1,axE]
         .cases he
theorem amn{X:V}(w:World):∀(n:Nat)(t:TypeId)(cs:ax),ak6 P n t cs=true->∀(d:Nat),n<=d->∀(xs ys:List Cell)(vs us:List Value)(b:Bool),cs.fits xs=true->ai X xs vs->ai X ys us->kH xs ys=some b->apa P d t vs us b w
 |0,t,cs,h,_,_,_,_,_,_,_,_,_,_,_=>agk
 |n+1,t,cs,h,0,hd,_,_,_,_,_,_,_,_,_=>abn
 |n+1,t,cs,h,d+1,hd,xs,ys,vs,us,b,hf,hx,hy,he=>by
  unfold ak6 at h;split at h
  .next k hu=>
   split at h
   .next l=>
    have hk:k=l:=acG;subst hk;obtain⟨x,y,v,u,rfl,rfl,hc,h1,h2,h3⟩:=one_cell hf hx hy he;refine .inr ⟨λw=>amE,v,u,rfl,rfl,?_⟩;cases x<;>simp[CT.fits]at hc;cases y<;>simp only[Vq,reduceCtorEq]at h3
    next k2 a k3 c=>
    split at h3
    .next hkk=>
     have hkk:k2=k3:=by simpa using hkk
     cases h3;subst hc hkk;rw[h1.1,h2.1];exact run_equalIn_int w d t _ _ a c hu
    .cases h3
   .cases h
  .next hu=>
   split at h
   .obtain⟨x,y,v,u,rfl,rfl,hc,h1,h2,h3⟩:=one_cell hf hx hy he;refine .inr ⟨λw=>amE,v,u,rfl,rfl,?_⟩;cases x<;>simp[CT.fits]at hc;cases y<;>simp[Vq]at h3
    next a c=>
    subst h3;have h1:v=.bool a:=h1;have h2:u=.bool c:=h2;rw[h1,h2];exact run_equalIn_bool w d t a c hu
   .cases h
  .next hu=>
   split at h
   .obtain⟨x,y,v,u,rfl,rfl,hc,h1,h2,h3⟩:=one_cell hf hx hy he;refine .inr ⟨λw=>amE,v,u,rfl,rfl,?_⟩;cases x<;>simp[CT.fits]at hc;cases y<;>simp[Vq]at h3
    next a c=>
    subst h3;rw[h1.1,h2.1,run_equalIn_string w d t _ _ hu];congr 1;rw[ByteArray.toList_eq,ByteArray.toList_eq]
   .cases h
  .next fs hu=>
   rw[avo]at h;have hp:P.stoodInHeld t=false:=by simpa using h.1
   have hfs:P.fieldsOf t=fs:=by unfold Program.fieldsOf;rw[hu]
   refine .inl ⟨⟨fs,hu⟩,?_⟩;rw[run_equalIn_struct w d t _ _ (by rw[hfs];exact hu) hp,hfs];have:=abr (X:=X) (d:=d) w (λt cs hr xs ys vs us b=>amn w n t cs hr d abn xs ys vs us b) fs.toList 0 cs [] [] xs ys vs us b h.2 rfl rfl hf hx hy he;simpa using this
  .cases h
def ak7(P:Program)(t:TypeId)(cs:ax):Bool:=ak6 P 20 t cs&&(!P.eqGuardType P.depth t&&(match P.underlying t with|some (.struct _)=>true|_=>false))
theorem apL{t:TypeId}{cs:ax}(h:ak7 P t cs=true)(w:World)(s u:Operand)(X:V)(xs ys:List Cell)(vs us:Array Value)(b:Bool)(hf:cs.fits xs=true)(hx:ai X xs vs.toList)(hy:ai X ys us.toList)(he:kH xs ys=some b):
 (do eqGuard .eql t s u (.agg vs) (.agg us);binOp .eql t (.agg vs) (.agg us)).run P w=.ok (.bool b) w/\
 (do eqGuard .neq t s u (.agg vs) (.agg us);binOp .neq t (.agg vs) (.agg us)).run P w=.ok (.bool (!b)) w:=by
 unfold ak7 at h;rw[avo,avo]at h;obtain⟨h1,h2,h3⟩:=h;have hg:P.eqGuardType P.depth t=false:=aiP;have hrun:(Op.equalIn 10000 t (.agg vs) (.agg us)).run P w=.ok b w:=by
  rcases amn w 20 t cs h1 10000 abn xs ys vs.toList us.toList b hf hx hy he with⟨_,h⟩|⟨hag,_⟩
  .simpa using h
  .split at h3
   .next fs hu=>have:=hag w;unfold isAgg at this;rw[avQ,avY hu w]at this;cases this
   .cases h3
 constructor
 .rw[avQ,run_eqGuard_agg w _ _ _ _ _ _ hg,awl,run_eql_struct,hrun];rfl
 .rw[avQ,run_eqGuard_agg w _ _ _ _ _ _ hg,awl,run_neq_struct,hrun];rfl
end Go.Fw
namespace Go.Fw
open Go
variable {P:Program} {w0:World} {M:Nat->Prop} {T:Ext} {γ γ':Nat->Value} {st:St} {a:Act} {w w':World} {Θ:jr}
theorem Pv{s:Sem Value}{u:Value}(h:s.run P w=.ok u w'):(do pure (Next.value (← s)):Sem Next).run P w=.ok (.value u) w':=by simp[h]
theorem Ns(hΘ:∀t ti,Θ t=some ti->lM P t ti)(h:Rel w0 M T γ st a w){t:TypeId}{ti:TI}(ht:Θ t=some ti){x:Operand}{v:SV}:
 ((∃o off cs,st.ev x=.bM o off/\st.ah o=some (.var cs)/\lK ti cs off=some v)\/
  (∃o i off e r l fr,st.ev x=.nT o i off/\st.ah o=some (.arr e r l fr)/\i<l.length/\lK ti (ax.row fr r (l.getD i r.dflt)) off=some v)\/
  (∃r y off fr,st.ev x=.qg r y off fr/\lK ti (ax.row fr r y) off=some v))->
 ∃u,(Instr.loadAt t (a.eval x)).run P w=.ok u w/\dM (aj w0 T γ st w) v u:=by
 have hx:=jc h x;rintro(⟨o,off,cs,e,ho,hv⟩|⟨o,i,off,e',r,l,fr,e,ho,hi,hv⟩|⟨r,y,off,fr,e,hv⟩)
 .rw[e]at hx;obtain⟨b,cs',_,hγ,hx⟩:=hx;obtain⟨b',arr,ty,Px,hb,hr⟩:=h.ah o _ ho;have hbb:b'=b:=by have h1:γ o=.pointer (some ⟨b,0,none⟩):=hγ;have h2:γ o=.pointer (some ⟨b',0,none⟩):=Px;rw[h1]at h2;simpa using h2.symm
  subst hbb;rw[hx];have hr':ai (aj w0 T γ st w) cs ((arr.toList.drop 0).take arr.size):=by rw[axb,av6 acA];exact hr
  have:=Iu (hΘ t ti ht) (aj w0 T γ st w) hb hr' hv;simpa using this
 .rw[e]at hx;obtain⟨b,n,cap,e2,r2,l2,fr2,ho2,hγ,hx⟩:=hx;have ahk:st.ah o=some (.arr e2 r2 l2 fr2):=ho2;rw[ho]at ahk;cases ahk;obtain⟨xs,⟨h1,h2⟩,hpos,_,hrow⟩:=h.ah o _ ho;rcases h2 with⟨hnil,_⟩|⟨g,cap',cur,hg,_,hh,hle,_,hsz,htake⟩
  .have Uh:γ o=.slice (some ⟨b,0,none⟩) n cap:=hγ;have mP:γ o=.slice none 0 0:=hnil;rw[Uh]at mP;cases mP
  .have Uh:γ o=.slice (some ⟨b,0,none⟩) n cap:=hγ;have mP:γ o=.slice (some ⟨g,0,none⟩) l.length cap':=hg;rw[Uh]at mP;simp at mP;obtain⟨rfl,-,-⟩:=mP;rw[hx];have hmul:i*r.len+r.len<=l.length*r.len:=by have:(i+1)*r.len<=l.length*r.len:=avO _ hi;rw[av8]at this;simpa using this
   have hli:l[i]? =some (l.getD i r.dflt):=by rw[avr,avv hi];rfl
   have hR:=hrow i _ hli;rw[← htake,gZ _ _ _ _ hmul]at hR;exact Iu (hΘ t ti ht) (aj w0 T γ st w) hh (XL _ fr r _ _ hR) hv
 .rw[e]at hx;obtain⟨b,base,cs,ty,fz,hx,hf,hb,hR⟩:=hx;rw[hx];exact Iu (hΘ t ti ht) (aj w0 T γ st w) hb (XL _ fr r _ _ hR) hv
theorem addr_add(b o k:Nat):(⟨b,o,none⟩:Addr).add k=⟨b,o+k,none⟩:=Addr.add_mid b o k
theorem Iw(hΘ:∀t ti,Θ t=some ti->lM P t ti){s:TypeId}{ti te:TI}(hs:Θ s=some ti){fs:List (Nat×TypeId)}(hk:ti.kind=.struct fs){f k:Nat}{t:TypeId}(hf:fs[f]? =some (k,t))
 (ht:Θ t=some te) (hne:te.cells≠ .nil) (b o:Nat):(Instr.fieldAt s (.pointer (some ⟨b,o,none⟩)) f).run P w=.ok (.pointer (some ⟨b,o+k,none⟩)) w:=by
 have hu:=(hΘ s ti hs).und;rw[hk]at hu;obtain⟨yR,hu,rfl,_⟩:=hu;rw[awn]at hf;cases hfl:yR.toList[f]? with
 |none=>rw[hfl]at hf;cases hf
 |some fl=>
  rw[hfl]at hf;simp at hf;obtain⟨rfl,rfl⟩:=hf;have Q8:yR[f]? =some fl:=by simpa using hfl
  have hsz:te.cells.len≠0:=by
   cases hc:te.cells with
   |nil=>exact absurd hc hne
   |cons c r=>simp[ax.len]
  simp[Instr.fieldAt,Instr.sureAddr,avQ,avY hu w,Q8,fieldPlace,(hΘ _ te ht).run_sizeOf,hsz,addr_add]
theorem run_indexAt(hΘ:∀t ti,Θ t=some ti->lM P t ti){t e:TypeId}{ti te:TI}(ht:Θ t=some ti)(hk:ti.kind=.slice e)(he:Θ e=some te)(b o len cap:Nat)(k:IntKind)(n:Int)(h0:0<=n)(hn:n<len):
 (Instr.indexAt t (.slice (some ⟨b,o,none⟩) len cap) (.int k n)).run P w=.ok (.pointer (some ⟨b,o+n.toNat*te.cells.len,none⟩)) w:=by
 have hu:=(hΘ t ti ht).und;rw[hk]at hu;simp[Instr.indexAt,asIntOf,avQ,avY hu.1 w,h0,hn,(hΘ e te he).run_sizeOf,addr_add]
theorem anW{X:V}{e:TypeId}{r:ax}{l:List r.den}{fr:Bool}{v:Value}(h:aS X (.sl e r l fr) v){i:Nat}(hi:i<l.length):
 ∃b off cap,v=.slice (some ⟨b,off,none⟩) l.length cap/\aT X (.qg r (l.getD i r.dflt) 0 fr) (.pointer (some ⟨b,off+i*r.len,none⟩)):=by
 have h:sG _ _ _ _ v l:=h;rcases h.2 with⟨hl,_⟩|⟨b,off,cap,cs,t,fz,hv,_,hS,hb,hx⟩
 .subst hl;simp at hi
 .have hli:l[i]? =some (l.getD i r.dflt):=by rw[avr,avv hi];rfl
  exact⟨b,off,cap,hv,b,off+i*r.len,cs,t,fz,rfl,hS,hb,hx i _ hli⟩
theorem ajt(hΘ:∀t ti,Θ t=some ti->lM P t ti){t:TypeId}{ti:TI}(ht:Θ t=some ti)(hk:ti.kind=.str)(s:ByteArray)(ty:TypeId):
 (Builtin.len_ #[t] ty #[.string s]).run P w=.ok (.int .i64 s.size) w:=by
 have hu:=(hΘ t ti ht).und;rw[hk]at hu;simp[Builtin.len_,avQ,avY hu.1 w,goInt]
theorem run_len_slice(hΘ:∀t ti,Θ t=some ti->lM P t ti){t e:TypeId}{ti:TI}(ht:Θ t=some ti)(hk:ti.kind=.slice e)(a:Option Addr)(n c:Nat)(ty:TypeId):
 (Builtin.len_ #[t] ty #[.slice a n c]).run P w=.ok (.int .i64 n) w:=by
 have hu:=(hΘ t ti ht).und;rw[hk]at hu;simp[Builtin.len_,avQ,avY hu.1 w,goInt]
theorem size_bytes(s:Bytes):(⟨s.toArray⟩:ByteArray).size=s.length:=by show s.toArray.size=_;simp
theorem ahl{X:V}{e:TypeId}{r:ax}{l:List r.den}{fr:Bool}{v:Value}(h:aS X (.sl e r l fr) v):∃a c,v=.slice a l.length c/\l.length<=maxLen:=by
 have h:sG _ _ _ _ v l:=h;rcases h.2 with⟨hl,a,c,hv⟩|⟨b,off,cap,cs,t,fz,hv,_⟩
 .subst hl;exact⟨a,c,hv,h.1⟩
 .exact⟨_,cap,hv,h.1⟩
theorem akc(h:Rel w0 M T γ st a w){o:Nat}{v:Value}(hc:aS (aj w0 T γ st w) (.ref o) v){e:TypeId}{r:ax}{l:List r.den}{fr:Bool}(ho:st.ah o=some (.arr e r l fr)):
 ∃a c,v=.slice a l.length c/\l.length<=maxLen:=by
 obtain⟨_,hv,_⟩:=hc;obtain⟨xs,⟨_,h2⟩,_⟩:=h.ah o _ ho;rcases h2 with⟨h3,h4⟩|⟨g,cap,cur,h3,_,_,h4,h5,_⟩
 .exact⟨none,0,by rw[hv,h4];exact h3,by rw[h4];exact avM _⟩
 .exact⟨_,cap,hv.trans h3,avx h4 h5⟩
theorem XM(n:Nat)(h:n<=maxLen):IntKind.i64.min<=(n:Int)/\(n:Int)<=IntKind.i64.max:=by unfold maxLen at h;have e1:IntKind.i64.min=-9223372036854775808:=rfl;have e2:IntKind.i64.max=9223372036854775807:=rfl;rw[e1,e2];omega
theorem run_sliceBound{k:IntKind}{n:Int}{y:Nat}{c:BoundsCode}(h0:0<=n)(h1:n<=y):(Instr.sliceBound (.int k n) y c).run P w=.ok n.toNat w:=by simp[Instr.sliceBound,asIntOf,h0,h1]
theorem rG(h:Rel w0 M T γ st a w){len cap:Nat}(hcap:len<=cap){lo hi:Option Operand}{p:Prop}{x y:Nat}(hb:mO st len lo hi=some (p,x,y))(hp:p)(sl:Bool):
 (Instr.sliceBounds sl len cap (lo.map a.eval) (hi.map a.eval) none).run P w=.ok (x,y,cap) w/\x<=y/\y<=len:=by
 unfold mO at hb;split at hb
 .cases hb;exact⟨by simp[Instr.sliceBounds],avM _,avt _⟩
 .next l=>
  split at hb
  .next n hn=>cases hb;obtain⟨k,hk,_⟩:=uw h hn;refine⟨?_,abn,avt _⟩;simp only[Instr.sliceBounds,awr,axf,hk,avQ,awx,awl];rw[run_sliceBound hp.1 hp.2];simp
  .cases hb
 .next hh=>
  split at hb
  .next n hn=>cases hb;obtain⟨k,hk,_⟩:=uw h hn;refine⟨?_,abn,abn⟩;simp only[Instr.sliceBounds,awr,axf,hk,avQ,awx,awl];rw[run_sliceBound hp.1 abn];simp
  .cases hb
 .next l hh=>
  split at hb
  .next n m hn hm=>cases hb;obtain⟨k,hk,_⟩:=uw h hn;obtain⟨k',hk',_⟩:=uw h hm;refine⟨?_,abn,abn⟩;simp only[Instr.sliceBounds,awr,hk,hk',avQ,awx,awl];rw[run_sliceBound (k:=k') abn (show m<=(cap:Int)from abn)];simp only[awl];rw[run_sliceBound (k:=k) hp.1 abn];simp
  .cases hb
theorem agn(s:Bytes)(x y:Nat):(⟨s.toArray⟩:ByteArray).extract x y=⟨((s.take y).drop x).toArray⟩:=by apply ByteArray.ext;simp[ayr]
theorem apM{X:V}{e:TypeId}{r:ax}{l:List r.den}{fr:Bool}{ad:Option Addr}{n c:Nat}(h:aS X (.sl e r l fr) (.slice ad n c)){x y:Nat}(hxy:x<=y)(hy:y<=l.length):
 aS X (.sl e r ((l.take y).drop x) fr) (.slice (if c=x then ad else ad.map (·.add (x*r.len))) (y-x) (c-x)):=by
 have h:sG _ _ _ _ (.slice ad n c) l:=h;have hlen:((l.take y).drop x).length=y-x:=adK;refine⟨by rw[hlen];exact avx abn h.1,?_⟩;by_cases hne:y=x
 .subst hne;refine .inl ⟨?_,_,_,by rw[axJ]⟩;rw[← awm,hlen];omega
 .rcases h.2 with⟨hl,_⟩|⟨b,off,cap,cs,t,fz,hv,hc,hS,hb,hx⟩
  .subst hl;simp at hy;omega
  .simp only[Value.slice.injEq]at hv;obtain⟨rfl,rfl,rfl⟩:=hv;refine .inr ⟨b,off+x*r.len,c-x,cs,t,fz,?_,by rw[hlen];omega,hS,hb,λi z hi=>?_⟩
   .rw[hlen];rw[if_neg abn];simp[addr_add]
   .rw[av5,av4]at hi;split at hi
    .have:=hx (x+i) z hi;rw[show off+x*r.len+i*r.len=off+(x+i)*r.len by rw[av8];omega];exact this
    .cases hi
def upd(γ:Nat->Value)(o:Nat)(v:Value):Nat->Value:=λp=>match Nat.beq p o with|true=>v|false=>γ p
theorem upd_same(γ:Nat->Value)(o:Nat)(v:Value):upd γ o v o=v:=by simp[upd,awi]
theorem Aj{p o:Nat}(h:p≠o):Nat.beq p o=false:=by
 cases hb:Nat.beq p o with
 |false=>rfl
 |true=>exact absurd (avs hb) h
theorem pU(γ:Nat->Value){o p:Nat}(v:Value)(h:p≠o):upd γ o v p=γ p:=by simp[upd,Aj h]
theorem add_same(st:St)(o:Nat)(x:aB):(st.add o x).ah o=some x:=by simp[St.add,awi]
theorem mQ(st:St){o p:Nat}(x:aB)(h:p≠o):(st.add o x).ah p=st.ah p:=by simp[St.add,Aj h]
theorem heap_alloc_old(w:World)(x:Obj){b:Nat}(h:b<w.heap.size):(w.alloc x).heap[b]? =w.heap[b]? :=by show(w.heap.push x)[b]? =_;rw[Array.getElem?_push,if_neg abn]
theorem Jt(w:World)(x:Obj):(w.alloc x).heap[w.heap.size]? =some x:=by show(w.heap.push x)[w.heap.size]? =_;rw[Array.getElem?_push,if_pos rfl]
theorem Rel.alloc1(h:Rel w0 M T γ st a w)(o:Nat)(x:aB)(hnew:st.ah o=none)(h48:∀cs,x=.var cs->o%64≠48)(arr:Array Value)(t:TypeId)(v:Value)(hv:blk v=some w.heap.size)
 (hx:(aj w0 T γ st w).le ⟨w.alloc (.cells arr t),w0.heap.size,T,upd γ o v,(st.add o x).ah⟩->bn ⟨w.alloc (.cells arr t),w0.heap.size,T,upd γ o v,(st.add o x).ah⟩ o x):
 Rel w0 M T (upd γ o v) (st.add o x) a (w.alloc (.cells arr t))/\(aj w0 T γ st w).le ⟨w.alloc (.cells arr t),w0.heap.size,T,upd γ o v,(st.add o x).ah⟩:=by
 have hA:∀p y,st.ah p=some y->(st.add o x).ah p=some y:=by
  intro p y hp;by_cases e:p=o
  .rw[e,hnew]at hp;cases hp
  .rw[mQ st x e];exact hp
 have hγ:∀p y,st.ah p=some y->upd γ o v p=γ p:=by
  intro p y hp;by_cases e:p=o
  .rw[e,hnew]at hp;cases hp
  .exact pU γ v e
 have hsize:(w.alloc (.cells arr t)).heap.size=w.heap.size+1:=by show(w.heap.push _).size=_;simp
 have le:(aj w0 T γ st w).le ⟨w.alloc (.cells arr t),w0.heap.size,T,upd γ o v,(st.add o x).ah⟩:=by
  refine⟨avt _,λb hb=>⟨⟨?_,hb.2.1,λp y hp=>?_⟩,heap_alloc_old w _ hb.1⟩,λp cs hp=>⟨⟨cs,hA p _ hp⟩,hγ p _ hp⟩,λp e r l fr hp=>⟨⟨l,fr,hA p _ hp⟩,hγ p _ hp⟩⟩
  .show b<(w.alloc (.cells arr t)).heap.size;have:b<w.heap.size:=hb.1;omega
  .show blk (upd γ o v p)≠some b;by_cases e:p=o
   .rw[e,upd_same,hv];have:b<w.heap.size:=hb.1;intro e2;cases e2;omega
   .rw[pU γ v e];have hp':(st.add o x).ah p=some y:=hp;rw[mQ st x e]at hp';exact hb.2.2 p y hp'
 refine⟨(h.grown (γ':=upd γ o v) (w':=w.alloc (.cells arr t)) (st.add o x).ah hA hγ rfl rfl rfl abn (λb hb=>heap_alloc_old w _ hb) ?_ ?_ ?_).1,le⟩
 .intro p y hp hn;by_cases e:p=o
  .subst e;rw[add_same]at hp;cases hp;refine⟨hx le,λb hb=>?_⟩;rw[upd_same,hv]at hb;cases hb;exact⟨avt _,abn⟩
  .rw[mQ st x e,hn]at hp;cases hp
 .intro p cs hp hn;by_cases e:p=o
  .subst e;rw[add_same]at hp;cases hN:T.N p with
   |none=>rfl
   |some v'=>exact(h48 cs (Option.some.inj hp) (T.n48 p v' hN)).elim
  .rw[mQ st x e,hn]at hp;cases hp
 .intro p y q z b hp hn hq hm hpq hb;by_cases e:p=o
  .by_cases e':q=o
   .exact absurd (e.trans e'.symm) hpq
   .rw[mQ st x e',hm]at hq;cases hq
  .rw[mQ st x e,hn]at hp;cases hp
theorem Rel.ahm(h:Rel w0 M T γ st a w)(o:Nat)(cs:List Cell)(hnew:st.ah o=none)(h48:o%64≠48)(arr:Array Value)(t:TypeId)(hr:ai (aj w0 T γ st w) cs arr.toList):
 Rel w0 M T (upd γ o (.pointer (some ⟨w.heap.size,0,none⟩))) (st.add o (.var cs)) a (w.alloc (.cells arr t))/\
 aT (aj w0 T (upd γ o (.pointer (some ⟨w.heap.size,0,none⟩))) (st.add o (.var cs)) (w.alloc (.cells arr t))) (.bM o 0) (.pointer (some ⟨w.heap.size,0,none⟩)):=by
 refine⟨(h.alloc1 o (.var cs) hnew (λ_ _=>h48) arr t _ rfl λle=>?_).1,w.heap.size,cs,add_same _ _ _,upd_same _ _ _,rfl⟩;exact⟨w.heap.size,arr,t,upd_same _ _ _,Jt w _,ai.mono le cs _ hr⟩
theorem Rel.ZQ(h:Rel w0 M T γ st a w)(o:Nat)(e:TypeId)(r:ax)(l:List r.den)(fr:Bool)(hnew:st.ah o=none)(arr:Array Value)(cap:Nat)(hlen:0<r.len)
 (hcap:l.length<=cap) (hmax:cap<=maxLen) (hsz:arr.size=cap*r.len)
 (hr:∀i x,l[i]? =some x->aJ w.heap ((aj w0 T γ st w).cu fr) r ((arr.toList.drop (i*r.len)).take r.len) x):
 Rel w0 M T (upd γ o (.slice (some ⟨w.heap.size,0,none⟩) l.length cap)) (st.add o (.arr e r l fr)) a (w.alloc (.cells arr e))/\
 aT (aj w0 T (upd γ o (.slice (some ⟨w.heap.size,0,none⟩) l.length cap)) (st.add o (.arr e r l fr)) (w.alloc (.cells arr e))) (.sv (.one (.ref o))) (.slice (some ⟨w.heap.size,0,none⟩) l.length cap):=by
 refine⟨(h.alloc1 o (.arr e r l fr) hnew (λ_ e=>ahB) arr e _ rfl λle=>?_).1,⟨e,r,l,fr,add_same _ _ _⟩,(upd_same _ _ _).symm,rfl⟩;refine⟨arr.toList.take (l.length*r.len),⟨?_,.inr ⟨w.heap.size,cap,arr,upd_same _ _ _,avM _,Jt w _,hcap,hmax,hsz,rfl⟩⟩,hlen,?_,λi x hi=>?_⟩
 .have h1:arr.toList.length=cap*r.len:=by rw[← hsz];rfl
  have h2:l.length*r.len<=cap*r.len:=avO _ hcap;rw[avz,h1];omega
 .intro b hb _;have hb:blk (upd γ o (.slice (some ⟨w.heap.size,0,none⟩) l.length cap) o)=some b:=hb;rw[upd_same]at hb;cases hb;exact h.grow
 .have hlt:i<l.length:=(avG.1 hi).1;have hmul:i*r.len+r.len<=l.length*r.len:=ahp;rw[gZ _ _ _ _ hmul];exact aJ.mono (λb hb=>le.cu fr b hb) r _ x (hr i x hi)
theorem ZR(X:V):∀(r:ax),ai X r.zeros r.kS
 |.nil=>trivial
 |.cons c r=>by
  refine⟨?_,ZR X r⟩;cases c with
  |int k=>exact⟨rfl,asX⟩
  |bool=>rfl
  |str=>exact⟨rfl,avM _⟩
  |sl e s=>rfl
theorem Vz(h:Array Obj)(S:Nat->Prop):∀(r:ax),aJ h S r r.kS r.dflt
 |.nil=>rfl
 |.cons c r=>by
  rw[ax.kS,ax.dflt,aJ];refine⟨c.adT,r.kS,rfl,?_,Vz h S r⟩;cases c with
  |int k=>exact⟨rfl,show k.min<=(0:Int)/\(0:Int)<=k.max from asX⟩
  |bool=>rfl
  |str=>exact⟨rfl,avM _⟩
  |sl e s=>exact⟨avM _,.inl ⟨rfl,none,0,rfl⟩⟩
theorem KX(h:Rel w0 M T γ st a w)(fr:Bool):∀(r:ax)(cs:List Cell)(vs:List Value)(x:r.den),ai (aj w0 T γ st w) cs vs->Ai st r cs=some x->cs.flatMap Cell.refs=[]->(fr=true->cs.all (Cell.fresh st)=true)->
 aJ w.heap ((aj w0 T γ st w).cu fr) r vs x
 |.nil,[],[],_,_,_,_,_=>rfl
 |.nil,_::_,_,_,_,hg,_,_=>by simp[Ai]at hg
 |.cons _ _,[],_,_,_,hg,_,_=>by simp[Ai]at hg
 |.cons c r,y::ys,v::vs,x,⟨h1,h2⟩,hg,hn,hf=>by
  rw[Ai]at hg;rw[awG,awj]at hn;split at hg
  .next p q hp hq=>
   cases hg;rw[aJ];refine⟨v,vs,rfl,?_,KX h fr r ys vs q h2 hq hn.2 (λe=>by have:=hf e;simp only[awH,avo]at this;exact this.2)⟩;have hy:fr=true->y.fresh st=true:=λe=>by have:=hf e;simp only[awH,avo]at this;exact this.1
   cases c with
   |int k=>exact Cell.XK h (.int k) y v p h1 hp
   |bool=>exact Cell.XK h .bool y v p h1 hp
   |str=>exact Cell.XK h .str y v p h1 hp
   |sl e s=>
    cases y with
    |int k n=>simp[Cell.get]at hp
    |bool b=>simp[Cell.get]at hp
    |str s=>simp[Cell.get]at hp
    |junk=>simp[Cell.get]at hp
    |ref o=>simp[Cell.refs]at hn
    |nil=>
     simp only[Cell.get]at hp;cases hp;have hv:v=.slice none 0 0:=h1;subst hv;exact⟨avM _,.inl ⟨rfl,none,0,rfl⟩⟩
    |sl e' s' l fr'=>
     simp only[Cell.get]at hp;split at hp
     .next hb=>have hrs:=ax.eq_of_beq s' s hb;subst hrs;cases hp;exact cZ.mono (λb hb=>⟨⟨hb.1,λe2=>hb.2 (hy e2)⟩,rfl⟩) (.sl e s') v l h1
     .cases hp
  .cases hg
 |.cons _ _,_::_,[],_,H,_,_,_=>afM
 |.nil,[],_::_,_,H,_,_,_=>afM
def look:List (Nat×aB)->Nat->Option aB
 |[],_=>none
 |(o,x)::r,p=>match look r p with
  |some y=>some y
  |none=>match Nat.beq p o with|true=>some x|false=>none
theorem mV:∀(δ:List (Nat×aB))(st:St)(p:Nat),(st.adds δ).ah p=match look δ p with|some y=>some y|none=>st.ah p
 |[],st,p=>rfl
 |(o,x)::r,st,p=>by
  rw[St.adds,mV r (st.add o x) p,look];cases hl:look r p with
  |some y=>rfl
  |none=>
   cases hb:Nat.beq p o with
   |true=>simp[St.add,hb]
   |false=>simp[St.add,hb]
theorem E5:∀(δ:List (Nat×aB))(st:St),(st.adds δ).tmps=st.tmps/\(st.adds δ).n=st.n
 |[],_=>⟨rfl,rfl⟩
 |(o,x)::r,st=>E5 r (st.add o x)
theorem xH:∀(δ:List (Nat×aB))(p:Nat)(x:aB),look δ p=some x->(p,x)∈δ
 |[],_,_,h=>agk
 |(o,y)::r,p,x,h=>by
  rw[look]at h;cases hl:look r p with
  |some z=>rw[hl]at h;cases h;exact avy _ (xH r p x hl)
  |none=>
   rw[hl]at h;cases hb:Nat.beq p o with
   |true=>rw[hb]at h;cases h;rw[avs hb];exact avA
   |false=>rw[hb]at h;cases h
theorem Py(st:St)(δ:List (Nat×aB)):st.adds δ={st with ah:=(st.adds δ).ah}:=by
 have h:=E5 δ st;cases e:st.adds δ with
 |mk n t o=>rw[e]at h;simp at h;rw[h.1,h.2]
theorem FZ{δ:List (Nat×aB)}(h:jJ st δ=true){p:Nat}{x:aB}(hl:look δ p=some x):st.ah p=none:=by have:=avL.1 h _ (xH δ p x hl);simpa using this
structure jX where
 n:Nat
 ok:World->Prop
 low:∀w,ok w->n<=w.heap.size
 stable:∀w w',ok w->w.heap.size<=w'.heap.size->(∀b,b<n->w'.heap[b]? =w.heap[b]?)->ok w'
def oC(X:V):Arg->Value->Prop
 |.sv v,u=>dM X v u
 |.kp cs,u=>aT X (.fF cs 0) u
 |.fn f caps,u=>aT X (.fn f caps) u
 |.own _ _ _,_|.ptr _,_=>False
def oD(X:V):List Arg->List Value->Prop
 |[],[]=>True
 |c::cs,v::vs=>oC X c v/\oD X cs vs
 |_,_=>False
def fJ(P:Program)(G:jX)(f:FuncId)(con:EU):Prop:=
 ∀(args:List Arg)(p:Prop)(out:Out)(k:Nat)(S:Nat->Prop)(vs:Array Value)(w:World),con args=some (p,out)->p->G.ok w->
  oD ⟨w,w.heap.size,S,λ_=>undef,λ_=>none⟩ args vs.toList->
  Calls P f vs w λe w'=>∃v vals,e=.returned v/\w'.os=w.os/\w'.tape=w.tape/\w'.output=w.output/\w.heap.size<=w'.heap.size/\
   (∀b,b<w.heap.size->w'.heap[b]? =w.heap[b]?)/\
   aT ⟨w',w.heap.size,S,vals,look (out.take k).2⟩ (out.take k).1 v/\
   (∀o x,look (out.take k).2 o=some x->bn ⟨w',w.heap.size,S,vals,look (out.take k).2⟩ o x/\∀b,blk (vals o)=some b->w.heap.size<=b/\b<w'.heap.size)/\
   (∀o x q y b,look (out.take k).2 o=some x->look (out.take k).2 q=some y->o≠q->blk (vals o)=some b->blk (vals q)≠some b)
def dF(args:List Arg)(p:Nat):Option aB:=
 match args[p / 64]? with
 |some (.own e r l)=>match Nat.beq (p%64) 49 with|true=>some (.arr e r l false)|false=>none
 |some (.ptr cs)=>match Nat.beq (p%64) 48 with|true=>some (.var cs)|false=>none
 |_=>none
def KY(X:V)(i:Nat):Arg->Value->Prop
 |.own _ _ _,v=>aS X (.ref (i*64+49)) v
 |.ptr _,v=>aT X (.bM (i*64+48) 0) v
 |a,v=>oC X a v
def wS(X:V):Nat->List Arg->List Value->Prop
 |_,[],[]=>True
 |i,c::cs,v::vs=>KY X i c v/\wS X (i+1) cs vs
 |_,_,_=>False
def uy(E:Nat->Option aB)(γ:Nat->Value)(b:Nat):Prop:=∃o x,E o=some x/\blk (γ o)=some b
def qj(S:Nat->Prop)(args:List Arg)(aH:List Eff)(γ:Nat->Value)(b:Nat):Prop:=
 (S b\/uy (dF args) γ b)/\∀q y,mr aH q=some y->blk (γ q)≠some b
def Nu(S:Nat->Prop)(args:List Arg)(γ:Nat->Value)(w:World)(k:Nat)(out:Out)(aH:List Eff)(e:Ending)(w':World):Prop:=
 ∃v γ',e=.returned v/\w'.os=w.os/\w'.tape=w.tape/\w'.output=w.output/\w.heap.size<=w'.heap.size/\
  (∀b,b<w.heap.size->¬uy (dF args) γ b->w'.heap[b]? =w.heap[b]?)/\
  aT ⟨w',w.heap.size,qj S args aH γ,γ',look (out.take k).2⟩ (out.take k).1 v/\
  (∀o x,look (out.take k).2 o=some x->bn ⟨w',w.heap.size,qj S args aH γ,γ',look (out.take k).2⟩ o x/\
    ∀b,blk (γ' o)=some b->b<w'.heap.size/\(w.heap.size<=b\/uy (dF args) γ b)/\∀q y,mr aH q=some y->blk (γ q)≠some b)/\
  (∀o x q y b,look (out.take k).2 o=some x->look (out.take k).2 q=some y->o≠q->blk (γ' o)=some b->blk (γ' q)≠some b)/\
  (∀o x,mr aH o=some x->γ' o=γ o/\bn ⟨w',w.heap.size,qj S args aH γ,γ',look (out.take k).2⟩ o x)
def jq(P:Program)(G:jX)(f:FuncId)(con:Dt):Prop:=
 ∀(args:List Arg)(p:Prop)(ρ:Jr),con args=some (p,ρ)->p->(∃t,ρ.R t)/\
  ∀(k:Nat)(S:Nat->Prop)(γ:Nat->Value)(vs:Array Value)(w:World),G.ok w->wS ⟨w,w.heap.size,S,γ,dF args⟩ 0 args vs.toList->
   (∀o x,dF args o=some x->bn ⟨w,w.heap.size,S,γ,dF args⟩ o x/\∀b,blk (γ o)=some b->b<w.heap.size/\G.n<=b)->
   (∀o x q y b,dF args o=some x->dF args q=some y->o≠q->blk (γ o)=some b->blk (γ q)≠some b)->
   (∀t,ρ.R t->∀o x,look ((ρ.out t).take k).2 o=some x->mr (ρ.aH t) o=none)->
   Calls P f vs w λe w'=>∃t,ρ.R t/\Nu S args γ w k (ρ.out t) (ρ.aH t) e w'
theorem apb{X:V}{S':Nat->Prop}{b:Nat}(h:X.cu true b):({X with S:=S'}:V).cu true b:=
 ⟨⟨h.1.1,λhlt=>by have h1:=h.2 rfl;have hlt':b<X.n0:=hlt;omega,h.1.2.2⟩,h.2⟩
theorem aS.newS{X:V}(S':Nat->Prop):∀(c:Cell)(v:Value),c.made=true\/c.isRef=true->aS X c v->aS {X with S:=S'} c v
 |.int _ _,_,_,H|.bool _,_,_,H|.str _,_,_,H|.nil,_,_,H|.junk,_,_,H=>H
 |.sl e r l fr,v,h,H=>by
  have hfr:fr=true:=by rcases h with h|h;exact h;cases h
  subst hfr;exact cZ.mono (λb hb=>⟨apb hb,rfl⟩) (.sl e r) v l H
 |.ref o,v,_,H=>H
theorem ai.newS{X:V}(S':Nat->Prop):∀(cs:List Cell)(vs:List Value),(∀c∈cs,c.made=true\/c.isRef=true)->ai X cs vs->ai {X with S:=S'} cs vs
 |[],[],_,H=>H
 |c::cs,v::vs,h,⟨h1,h2⟩=>⟨aS.newS S' c v (h c avA) h1,ai.newS S' cs vs (λd hd=>h d (avy _ hd)) h2⟩
 |[],_::_,_,H|_::_,[],_,H=>afM
theorem dM.newS{X:V}(S':Nat->Prop):∀(c:SV)(v:Value),(∀x∈c.cells,x.made=true\/x.isRef=true)->dM X c v->dM {X with S:=S'} c v
 |.one c,v,h,H=>aS.newS S' c v (h c avA) H
 |.agg cs,_,h,⟨vs,hv,H⟩=>⟨vs,hv,ai.newS S' cs _ h H⟩
theorem dN.newS{X:V}(S':Nat->Prop):∀(cs:List SV)(vs:List Value),(∀c∈cs,∀x∈c.cells,x.made=true\/x.isRef=true)->dN X cs vs->dN {X with S:=S'} cs vs
 |[],[],_,H=>H
 |c::cs,v::vs,h,⟨h1,h2⟩=>⟨dM.newS S' c v (h c avA) h1,dN.newS S' cs vs (λd hd=>h d (avy _ hd)) h2⟩
 |[],_::_,_,H|_::_,[],_,H=>afM
theorem bn.newS{X:V}(S':Nat->Prop)(o:Nat){e:TypeId}{r:ax}{l:List r.den}(h:bn X o (.arr e r l true)):bn {X with S:=S'} o (.arr e r l true):=by obtain⟨xs,h1,h2,h3,h4⟩:=h;exact⟨xs,h1,h2,h3,λi x hi=>aJ.mono (λb hb=>⟨apb hb,rfl⟩) r _ x (h4 i x hi)⟩
theorem Pz:∀(cs:List fH)(k:Nat),cs.all fH.made=true->
 (∀c∈(jR k cs).1,c.made=true\/c.isRef=true)/\(∀y∈(jR k cs).2,∃e r l,y.2=.arr e r l true)
 |[],_,_=>⟨(λ_ h=>agk),(λ_ h=>agk)⟩
 |x::cs,k,h=>by
  simp only[awH,avo]at h;have ih:=Pz cs (k+1) h.2;rw[jR];refine⟨λc hc=>?_,λy hy=>?_⟩
  .rcases avF.1 hc with rfl|hc
   .cases x with
    |plain c=>exact .inl h.1
    |own e r l fr=>exact .inr rfl
   .exact ih.1 c hc
  .rcases avR.1 hy with hy|hy
   .cases x with
    |plain c=>cases hy
    |own e r l fr=>
     have hfr:fr=true:=h.1;rw[fH.take]at hy;rcases avF.1 hy with rfl|hy
     .exact⟨e,r,l,by rw[hfr]⟩
     .cases hy
   .exact ih.2 y hy
theorem ahn(k:Nat)(x:Bool×List fH)(h:x.2.all fH.made=true):
 (∀c∈(vU k x).1.cells,c.made=true\/c.isRef=true)/\(∀y∈(vU k x).2,∃e r l,y.2=.arr e r l true):=by
 have:=Pz x.2 k h;unfold vU;split
 .next e1 e2=>rw[e2]at this;exact this
 .next e1 e2=>rw[e2]at this;exact this
 .next e1 e2=>rw[e2]at this;exact⟨(λc hc=>by rcases avF.1 hc with rfl|hc;exact .inl rfl;cases hc),this.2⟩
theorem Ui:∀(xs:List (Bool×List fH))(k:Nat),(xs.all λx=>x.2.all fH.made)=true->
 (∀v∈(iK k xs).1,∀c∈v.cells,c.made=true\/c.isRef=true)/\(∀y∈(iK k xs).2,∃e r l,y.2=.arr e r l true)
 |[],_,_=>⟨(λ_ h=>agk),(λ_ h=>agk)⟩
 |x::xs,k,h=>by
  simp only[awH,avo]at h;have h1:=ahn k x h.1;have ih:=Ui xs (k+x.2.length) h.2;rw[iK];refine⟨λv hv=>?_,λy hy=>?_⟩
  .rcases avF.1 hv with rfl|hv
   .exact h1.1
   .exact ih.1 v hv
  .rcases avR.1 hy with hy|hy
   .exact h1.2 y hy
   .exact ih.2 y hy
theorem ai.made{X:V}(S':Nat->Prop)(cs:List Cell)(vs:List Value)(hm:cs.all Cell.made=true)(H:ai X cs vs):ai {X with S:=S'} cs vs:=
 ai.newS S' cs vs (λc hc=>.inl (avL.1 hm c hc)) H
def XO:aB->Prop
 |.arr _ _ _ fr=>fr=true
 |.var cs=>cs.all Cell.made=true
theorem bn.made{X:V}(S':Nat->Prop)(o:Nat):∀(x:aB),XO x->bn X o x->bn {X with S:=S'} o x
 |.arr e r l fr,hm,h=>by
  have hm:fr=true:=hm;subst hm;exact bn.newS S' o h
 |.var cs,hm,⟨b,arr,t,h1,h2,h3⟩=>⟨b,arr,t,h1,h2,ai.made S' cs _ hm h3⟩
theorem Out.VA(o:Out)(k:Nat)(h:o.made=true)(X:V)(S':Nat->Prop)(v:Value):
 (aT X (o.take k).1 v->aT {X with S:=S'} (o.take k).1 v)/\(∀y∈(o.take k).2,XO y.2):=by
 unfold Out.made at h;unfold Out.take;split at h
 .next cs hv=>exact⟨id,λy hy=>by rw[avP.1 hy];exact h⟩
 .next hv=>
  have hm:=Ui o.ahi k h;have hm2:∀y∈(iK k o.ahi).2,XO y.2:=λy hy=>by obtain⟨e,r,l,he⟩:=hm.2 y hy;rw[he];exact rfl
  split
  .next e1 e2=>rw[e2]at hm hm2;exact⟨λH=>dM.newS S' _ v (hm.1 _ avA) H,hm2⟩
  .next e1 e2=>rw[e2]at hm hm2;exact⟨λ⟨vs,hv,H⟩=>⟨vs,hv,dN.newS S' _ _ hm.1 H⟩,hm2⟩
theorem Cell.BR(h:Rel w0 M T γ st a w){γ0:Nat->Value}{S:Nat->Prop}(hS1:∀b,(aj w0 T γ st w).foot b->S b)(hS2:∀o e r l fr b,st.ah o=some (.arr e r l fr)->blk (γ o)=some b->S b):∀(c:Cell)(v:Value),aS (aj w0 T γ st w) c v->aS ⟨w,w.heap.size,S,γ0,λ_=>none⟩ (c.view st) v
 |.int _ _,_,H|.bool _,_,H|.str _,_,H|.nil,_,H|.junk,_,H=>H
 |.sl e r l fr,v,H=>cZ.mono (λb hb=>⟨⟨⟨hb.1.1,λ_=>hS1 b hb.1,(λ_ _ ho=>by cases ho)⟩,(λe=>ahB)⟩,rfl⟩) (.sl e r) v l H
 |.ref o,v,⟨⟨e,r,l,fr,hx⟩,hv,_⟩=>by
  have hx':st.ah o=some (.arr e r l fr):=hx;simp only[Cell.view,hx'];rw[hv];exact bn.reads (X:=aj w0 T γ st w) (e:=e) (l:=l) (fr:=fr) (h.ah o _ hx') (λb hb=>⟨⟨hb.1.1,λ_=>hS1 b hb.1,(λ_ _ ho=>by cases ho)⟩,(λe=>ahB)⟩)
   (λb hb=>⟨⟨(h.lt o _ b hx' hb).1,λ_=>hS2 o e r l fr b hx' hb,(λ_ _ ho=>by cases ho)⟩,(λe=>ahB)⟩)
theorem Cells.BR(h:Rel w0 M T γ st a w){γ0:Nat->Value}{S:Nat->Prop}(hS1:∀b,(aj w0 T γ st w).foot b->S b)(hS2:∀o e r l fr b,st.ah o=some (.arr e r l fr)->blk (γ o)=some b->S b):∀(cs:List Cell)(vs:List Value),ai (aj w0 T γ st w) cs vs->ai ⟨w,w.heap.size,S,γ0,λ_=>none⟩ (cs.map (Cell.view st)) vs
 |[],[],H=>H
 |c::cs,v::vs,⟨h1,h2⟩=>⟨Cell.BR h hS1 hS2 c v h1,Cells.BR h hS1 hS2 cs vs h2⟩
 |[],_::_,H|_::_,[],H=>afM
theorem SV.BR(h:Rel w0 M T γ st a w){γ0:Nat->Value}{S:Nat->Prop}(hS1:∀b,(aj w0 T γ st w).foot b->S b)(hS2:∀o e r l fr b,st.ah o=some (.arr e r l fr)->blk (γ o)=some b->S b):∀(c:SV)(v:Value),dM (aj w0 T γ st w) c v->dM ⟨w,w.heap.size,S,γ0,λ_=>none⟩ (c.view st) v
 |.one c,v,H=>Cell.BR h hS1 hS2 c v H
 |.agg cs,_,⟨vs,hv,H⟩=>⟨vs,hv,Cells.BR h hS1 hS2 cs _ H⟩
theorem afi(h:Rel w0 M T γ st a w){γ0:Nat->Value}{S:Nat->Prop}(hS1:∀b,(aj w0 T γ st w).foot b->S b)(hS2:∀o e r l fr b,st.ah o=some (.arr e r l fr)->blk (γ o)=some b->S b){cs:List Cell}{b:Nat}(H:gY (aj w0 T γ st w) cs b):gY ⟨w,w.heap.size,S,γ0,λ_=>none⟩ (cs.map (Cell.view st)) b:=by obtain⟨arr,t,fz,hb,hh,hr⟩:=H;exact⟨arr,t,fz,⟨hb.1,λ_=>hS1 b hb,(λ_ _ ho=>by cases ho)⟩,hh,Cells.BR h hS1 hS2 cs _ hr⟩
theorem afj(h:Rel w0 M T γ st a w){γ0:Nat->Value}{S:Nat->Prop}(hS1:∀b,(aj w0 T γ st w).foot b->S b)(hS2:∀o e r l fr b,st.ah o=some (.arr e r l fr)->blk (γ o)=some b->S b):∀(l:List (List Cell))(us:List Value),fA (aj w0 T γ st w) l us->fA ⟨w,w.heap.size,S,γ0,λ_=>none⟩ (l.map (List.map (Cell.view st))) us
 |[],[],H=>H
 |cs::l,u::us,⟨⟨b,hu,hk⟩,h2⟩=>⟨⟨b,hu,afi h hS1 hS2 hk⟩,afj h hS1 hS2 l us h2⟩
 |[],_::_,H|_::_,[],H=>afM
def oG(X:V):List AV->List Value->Prop
 |[],[]=>True
 |x::xs,v::vs=>aT X x v/\oG X xs vs
 |_,_=>False
theorem F5(h:Rel w0 M T γ st a w){γ0:Nat->Value}{S:Nat->Prop}(hS1:∀b,(aj w0 T γ st w).foot b->S b)(hS2:∀o e r l fr b,st.ah o=some (.arr e r l fr)->blk (γ o)=some b->S b):∀(xs:List AV)(us:List Value)(vs:List Arg),oZ st xs=some vs->oG (aj w0 T γ st w) xs us->oD ⟨w,w.heap.size,S,γ0,λ_=>none⟩ vs us
 |[],[],vs,hv,_=>by cases hv;trivial
 |[],_::_,_,_,H=>H.elim
 |_::_,[],_,_,H=>H.elim
 |x::xs,u::us,vs,hv,⟨hx,hxs⟩=>by
  unfold oZ at hv;split at hv
  .next v ws hu=>
   split at hv
   .cases hv;exact⟨SV.BR h hS1 hS2 v _ hx,F5 h hS1 hS2 xs us ws hu hxs⟩
   .cases hv
  .next cs off ws hu=>
   split at hv
   .next hok=>cases hv;rw[avo]at hok;have h0:=avs hok.1;subst h0;obtain⟨b,hb,hk⟩:=hx;exact⟨⟨b,hb,afi h hS1 hS2 hk⟩,F5 h hS1 hS2 xs us ws hu hxs⟩
   .cases hv
  .next f caps ws hu=>
   split at hv
   .cases hv;obtain⟨ks,hb,hk⟩:=hx;exact⟨⟨ks,hb,afj h hS1 hS2 caps _ hk⟩,F5 h hS1 hS2 xs us ws hu hxs⟩
   .cases hv
  .cases hv
theorem Cell.tu(_h:Rel w0 M T γ st a w){γ0:Nat->Value}:∀(c:Cell)(v:Value),c.refs=[]->aS (aj w0 T γ st w) c v->aS ⟨w,w.heap.size,(aj w0 T γ st w).foot,γ0,λ_=>none⟩ (c.view st) v
 |.int _ _,_,_,H|.bool _,_,_,H|.str _,_,_,H|.nil,_,_,H|.junk,_,_,H=>H
 |.sl e r l fr,v,_,H=>cZ.mono (λb hb=>⟨⟨⟨hb.1.1,λ_=>hb.1,(λ_ _ ho=>by cases ho)⟩,(λe=>ahB)⟩,rfl⟩) (.sl e r) v l H
 |.ref o,v,hr,_=>by cases hr
theorem Cells.tu(h:Rel w0 M T γ st a w){γ0:Nat->Value}:∀(cs:List Cell)(vs:List Value),cs.flatMap Cell.refs=[]->ai (aj w0 T γ st w) cs vs->ai ⟨w,w.heap.size,(aj w0 T γ st w).foot,γ0,λ_=>none⟩ (cs.map (Cell.view st)) vs
 |[],[],_,H=>H
 |c::cs,v::vs,hr,⟨h1,h2⟩=>by
  rw[awG,awj]at hr;exact⟨Cell.tu h c v hr.1 h1,Cells.tu h cs vs hr.2 h2⟩
 |[],_::_,_,H|_::_,[],_,H=>afM
theorem SV.tu(h:Rel w0 M T γ st a w){γ0:Nat->Value}:∀(c:SV)(v:Value),c.cells.flatMap Cell.refs=[]->dM (aj w0 T γ st w) c v->dM ⟨w,w.heap.size,(aj w0 T γ st w).foot,γ0,λ_=>none⟩ (c.view st) v
 |.one c,v,hr,H=>Cell.tu h c v (by simpa[SV.cells]using hr) H
 |.agg cs,_,hr,⟨vs,hv,H⟩=>⟨vs,hv,Cells.tu h cs _ hr H⟩
theorem afk(h:Rel w0 M T γ st a w){γ0:Nat->Value}{cs:List Cell}{b:Nat}(hr0:cs.flatMap Cell.refs=[])(H:gY (aj w0 T γ st w) cs b):gY ⟨w,w.heap.size,(aj w0 T γ st w).foot,γ0,λ_=>none⟩ (cs.map (Cell.view st)) b:=by obtain⟨arr,t,fz,hb,hh,hr⟩:=H;exact⟨arr,t,fz,⟨hb.1,λ_=>hb,(λ_ _ ho=>by cases ho)⟩,hh,Cells.tu h cs _ hr0 hr⟩
theorem afl(h:Rel w0 M T γ st a w){γ0:Nat->Value}:∀(l:List (List Cell))(us:List Value),(l.flatMap λcs=>cs.flatMap Cell.refs)=[]->fA (aj w0 T γ st w) l us->fA ⟨w,w.heap.size,(aj w0 T γ st w).foot,γ0,λ_=>none⟩ (l.map (List.map (Cell.view st))) us
 |[],[],_,H=>H
 |cs::l,u::us,hr,⟨⟨b,hu,hk⟩,h2⟩=>by
  rw[awG,awj]at hr;exact⟨⟨b,hu,afk h hr.1 hk⟩,afl h l us hr.2 h2⟩
 |[],_::_,_,H|_::_,[],_,H=>afM
theorem AA(h:Rel w0 M T γ st a w){γ0:Nat->Value}:∀(xs:List AV)(us:List Value)(vs:List Arg),oZ st xs=some vs->vV xs=[]->oG (aj w0 T γ st w) xs us->oD ⟨w,w.heap.size,(aj w0 T γ st w).foot,γ0,λ_=>none⟩ vs us
 |[],[],vs,hv,_,_=>by cases hv;trivial
 |[],_::_,_,_,_,H=>H.elim
 |_::_,[],_,_,_,H=>H.elim
 |x::xs,u::us,vs,hv,hr,⟨hx,hxs⟩=>by
  unfold oZ at hv;rw[vV,awj]at hr;split at hv
  .next v ws hu=>
   split at hv
   .cases hv;exact⟨SV.tu h v _ hr.1 hx,AA h xs us ws hu hr.2 hxs⟩
   .cases hv
  .next cs off ws hu=>
   split at hv
   .next hok=>cases hv;rw[avo]at hok;have h0:=avs hok.1;subst h0;obtain⟨b,hb,hk⟩:=hx;exact⟨⟨b,hb,afk h hr.1 hk⟩,AA h xs us ws hu hr.2 hxs⟩
   .cases hv
  .next f caps ws hu=>
   split at hv
   .cases hv;obtain⟨ks,hb,hk⟩:=hx;exact⟨⟨ks,hb,afl h caps _ hr.1 hk⟩,AA h xs us ws hu hr.2 hxs⟩
   .cases hv
  .cases hv
theorem F6(h:Rel w0 M T γ st a w){caps:List (List Cell)}{us:Array Value}(hk:fA (aj w0 T γ st w) caps us.toList):∀(xs:List Operand),
 oG (aj w0 T γ st w) (handed st xs caps) (xs.map a.eval++us.toList):=by
 have h0:∀(caps:List (List Cell))(us:List Value),fA (aj w0 T γ st w) caps us->oG (aj w0 T γ st w) (caps.map λcs=>.fF cs 0) us:=by
  intro caps
  induction caps with
  |nil=>intro us H;cases us with|nil=>trivial|cons _ _=>cases H
  |cons cs l ih=>
   intro us H;cases us with
   |nil=>cases H
   |cons u us=>exact⟨H.1,ih us H.2⟩
 intro xs
 induction xs with
 |nil=>exact h0 caps _ hk
 |cons x xs ih=>exact⟨jc h x,ih⟩
theorem oG.freeze(S:Nat->Bool)(h:Rel w0 M T γ st a w):∀(xs:List AV)(us:List Value),oG (aj w0 T γ st w) xs us->oG (aj w0 T γ (st.freeze S) w) (xs.map (AV.freeze st S)) us
 |[],[],H=>H
 |x::xs,u::us,⟨h1,h2⟩=>⟨aT.freeze S h x u h1,oG.freeze S h xs us h2⟩
 |[],_::_,H|_::_,[],H=>afM
theorem Uj:∀(cs:List fH)(k:Nat),∀y∈(jR k cs).2,∃e r l fr,y.2=.arr e r l fr
 |[],_,_,hy=>asK
 |x::cs,k,y,hy=>by
  rw[jR]at hy;rcases avR.1 hy with hy|hy
  .cases x with
   |plain c=>cases hy
   |own e r l fr=>
    rw[fH.take]at hy;rcases avF.1 hy with rfl|hy
    .exact⟨e,r,l,fr,rfl⟩
    .cases hy
  .exact Uj cs (k+1) y hy
theorem aju(k:Nat)(x:Bool×List fH):∀y∈(vU k x).2,∃e r l fr,y.2=.arr e r l fr:=by
 have:=Uj x.2 k;unfold vU;split
 .next e1 e2=>rw[e2]at this;exact this
 .next e1 e2=>rw[e2]at this;exact this
 .next e1 e2=>rw[e2]at this;exact this
theorem VB:∀(xs:List (Bool×List fH))(k:Nat),∀y∈(iK k xs).2,∃e r l fr,y.2=.arr e r l fr
 |[],_,_,hy=>asK
 |x::xs,k,y,hy=>by
  rw[iK]at hy;rcases avR.1 hy with hy|hy
  .exact aju k x y hy
  .exact VB xs _ y hy
theorem Out.aho(o:Out)(k:Nat)(hk:k%64=1){p:Nat}{cs:List Cell}(hl:look (o.take k).2 p=some (.var cs)):p%64=0:=by
 have hmem:=xH _ p _ hl;unfold Out.take at hmem;split at hmem
 .next cs' hv=>cases avP.1 hmem;omega
 .next hv=>
  have hm:=VB o.ahi k;split at hmem
  .next e1 e2=>rw[e2]at hm;obtain⟨_,_,_,_,e⟩:=hm _ hmem;cases e
  .next e1 e2=>rw[e2]at hm;obtain⟨_,_,_,_,e⟩:=hm _ hmem;cases e
theorem Rel.called(h:Rel w0 M T γ st a w){out:Out}{k:Nat}(hk:k%64=1){S:Nat->Prop}{vals:Nat->Value}{v:Value}(hf:jJ st (out.take k).2=true)
 (hos:w'.os=w.os) (htape:w'.tape=w.tape) (hout:w'.output=w.output) (hsize:w.heap.size<=w'.heap.size) (hheap:∀b,b<w.heap.size->w'.heap[b]? =w.heap[b]?)
 (hS:out.made=true\/S=(aj w0 T γ st w).foot)
 (hr:aT ⟨w',w.heap.size,S,vals,look (out.take k).2⟩ (out.take k).1 v)
 (ho:∀o x,look (out.take k).2 o=some x->bn ⟨w',w.heap.size,S,vals,look (out.take k).2⟩ o x/\∀b,blk (vals o)=some b->w.heap.size<=b/\b<w'.heap.size)
 (hsep:∀o x q y b,look (out.take k).2 o=some x->look (out.take k).2 q=some y->o≠q->blk (vals o)=some b->blk (vals q)≠some b):
 ∃γ',Rel w0 M T γ' (st.adds (out.take k).2) a w'/\aT (aj w0 T γ' (st.adds (out.take k).2) w') (out.take k).1 v:=by
 let δ:=(out.take k).2
 let γ':Nat->Value:=λp=>match look δ p with|some _=>vals p|none=>γ p
 have o6:∀p,(st.adds δ).ah p=match look δ p with|some y=>some y|none=>st.ah p:=mV δ st
 have hγn:∀p x,look δ p=some x->γ' p=vals p:=λp x hl=>by show(match look δ p with|some _=>vals p|none=>γ p)=_;rw[hl]
 have hγo:∀p x,st.ah p=some x->γ' p=γ p:=by
  intro p x hp;show(match look δ p with|some _=>vals p|none=>γ p)=_;cases hl:look δ p with
  |none=>rfl
  |some y=>rw[FZ hf hl]at hp;cases hp
 have hA:∀p x,st.ah p=some x->(st.adds δ).ah p=some x:=by
  intro p x hp;rw[o6];cases hl:look δ p with
  |none=>exact hp
  |some y=>rw[FZ hf hl]at hp;cases hp
 have hN:∀p x,(st.adds δ).ah p=some x->st.ah p=none->look δ p=some x:=by
  intro p x hp hn;rw[o6]at hp;cases hl:look δ p with
  |none=>rw[hl,hn]at hp;cases hp
  |some y=>rw[hl]at hp;exact hp
 have le:∀S',(S'=λ_=>False)\/S'=(aj w0 T γ st w).foot->V.le ⟨w',w.heap.size,S',vals,look δ⟩ ⟨w',w0.heap.size,T,γ',(st.adds δ).ah⟩:=by
  intro S' hS';have harr:∀o x,look δ o=some x->(st.adds δ).ah o=some x:=by intro o x hl;rw[o6,hl]
  refine⟨h.grow,λb hb=>⟨⟨hb.1,λhlt=>?_,λo x hx=>?_⟩,rfl⟩,λo cs hl=>⟨⟨cs,harr o _ hl⟩,hγn o _ hl⟩,λo e r l fr hl=>⟨⟨l,fr,harr o _ hl⟩,hγn o _ hl⟩⟩
  .have hb1:=hb.2.1 (show b<w.heap.size from avT hlt h.grow);rcases hS' with rfl|rfl
   .exact hb1.elim
   .exact hb1.2.1 hlt
  .show blk (γ' o)≠some b;cases hl:look δ o with
   |some y=>rw[hγn o y hl];exact hb.2.2 o y hl
   |none=>
    have hx':(st.adds δ).ah o=some x:=hx;rw[o6,hl]at hx';rw[hγo o x hx'];intro hbb;have hlt:=(h.lt o x b hx' hbb).1;have hb1:=hb.2.1 hlt;rcases hS' with rfl|rfl
    .exact hb1
    .exact hb1.2.2 o x hx' hbb
 have main:∃S',((S'=λ_=>False)\/S'=(aj w0 T γ st w).foot)/\aT ⟨w',w.heap.size,S',vals,look δ⟩ (out.take k).1 v/\∀o x,look δ o=some x->bn ⟨w',w.heap.size,S',vals,look δ⟩ o x:=by
  rcases hS with hm|hS
  .have hmk:=out.VA k hm;refine⟨λ_=>False,.inl rfl,(hmk ⟨w',w.heap.size,S,vals,look δ⟩ (λ_=>False) v).1 hr,λo x hl=>?_⟩;exact bn.made (λ_=>False) o x ((hmk ⟨w',w.heap.size,S,vals,look δ⟩ (λ_=>False) v).2 _ (xH _ _ _ hl)) (ho o _ hl).1
  .exact⟨S,.inr hS,hr,λo x hl=>(ho o x hl).1⟩
 obtain⟨S',hS',hr',ho'⟩:=main;have hle:=le S' hS';refine⟨γ',?_,aT.mono hle _ _ hr'⟩;rw[Py st δ];refine(h.grown (γ':=γ') (w':=w') (st.adds δ).ah hA hγo hos htape hout hsize hheap (λp x hp hn=>?_) (λp cs hp hn=>by
  have h0:=out.aho k hk (hN p _ hp hn);cases hT:T.N p with
  |none=>rfl
  |some v'=>have:=T.n48 p v' hT;omega) (λp x q y b hp hn hq hm hpq hb=>?_)).1
 .have hl:=hN p x hp hn;refine⟨bn.mono hle p x (λ_ _=>rfl) (hγn p x hl) (ho' p x hl),λb hb=>?_⟩;rw[hγn p x hl]at hb;exact(ho p x hl).2 b hb
 .have hl:=hN p x hp hn;have hl2:=hN q y hq hm;rw[hγn p x hl]at hb;rw[hγn q y hl2];exact hsep p x q y b hl hl2 hpq hb
end Go.Fw
namespace Go.Fw
open Go
variable {P:Program} {w0:World} {M:Nat->Prop} {T:Ext} {γ γ':Nat->Value} {st:St} {a:Act} {w w':World} {Θ:jr} {Γ:kR}
def jd(P:Program)(f:FuncId):Prop:=∀(args:Array Value)(w:World),(callFunc f args).run P w=.ok (.enter f args) w
def Yields(P:Program)(w0:World)(M:Nat->Prop)(T:Ext)(st:St)(a:Act)(w:World)(s:Sem Value)(v:AV)(δ:List (Nat×aB)):Prop:=
 ∃u w' γ',s.run P w=.ok u w'/\Rel w0 M T γ' (st.adds δ) a w'/\aT (aj w0 T γ' (st.adds δ) w') v u
theorem Yields.same(h:Rel w0 M T γ st a w){s:Sem Value}{v:AV}{u:Value}(hr:s.run P w=.ok u w)(hv:aT (aj w0 T γ st w) v u):Yields P w0 M T st a w s v []:=⟨u,w,γ,hr,h,hv⟩
theorem ajv(hΘ:∀t ti,Θ t=some ti->lM P t ti)(h:Rel w0 M T γ st a w){d:Nat}{t:TypeId}{x:Operand}{p:Prop}{v:AV}{δ:List (Nat×aB)}
 (hc:calm Θ Γ d st (.load t x)=some (p,v,δ)) (hp:p):Yields P w0 M T st a w (Instr.loadAt t (a.eval x)) v δ:=by
 simp only[calm]at hc;split at hc
 .next ti o off ht he=>
  split at hc
  .next cs ho=>
   split at hc
   .next s hs=>cases hc;obtain⟨u,hu,hr⟩:=Ns hΘ h ht (x:=x) (v:=s) (.inl ⟨o,off,cs,he,ho,hs⟩);exact .same h hu hr
   .cases hc
  .cases hc
 .next ti o i off ht he=>
  split at hc
  .next e r l fr ho=>
   split at hc
   .next s hs=>cases hc;obtain⟨u,hu,hr⟩:=Ns hΘ h ht (x:=x) (v:=s) (.inr (.inl ⟨o,i,off,e,r,l,fr,he,ho,hp,hs⟩));exact .same h hu hr
   .cases hc
  .cases hc
 .next ti r y off fr ht he=>
  split at hc
  .next s hs=>cases hc;obtain⟨u,hu,hr⟩:=Ns hΘ h ht (x:=x) (v:=s) (.inr (.inr ⟨r,y,off,fr,he,hs⟩));exact .same h hu hr
  .cases hc
 .next ti cs off ht he=>
  split at hc
  .next s hs=>
   cases hc;have hx:=jc h x;rw[he]at hx;obtain⟨b,hv,arr,ty,fz,hf,hb,hr⟩:=hx;have hr':ai (aj w0 T γ st w) cs ((arr.toList.drop 0).take arr.size):=by rw[axb,av6 acA];exact hr
   obtain⟨u,hu,hr2⟩:=Iu (P:=P) (hΘ t ti ht) (aj w0 T γ st w) hb hr' hs;refine .same h ?_ hr2;rw[hv];simpa using hu
  .cases hc
 .cases hc
theorem ZT(hΘ:∀t ti,Θ t=some ti->lM P t ti)(h:Rel w0 M T γ st a w){d:Nat}{s:TypeId}{x:Operand}{f:Nat}{p:Prop}{v:AV}{δ:List (Nat×aB)}
 (hc:calm Θ Γ d st (.fieldAddr s x f)=some (p,v,δ)):Yields P w0 M T st a w (Instr.fieldAt s (a.eval x) f) v δ:=by
 have hx:=jc h x;simp only[calm]at hc;split at hc
 .next ti hs=>
  split at hc
  .next fs hk=>
   split at hc
   .next k t hf=>
    split at hc
    .next te ht=>
     split at hc
     .cases hc
     .next o off he hne=>cases hc;rw[he]at hx;obtain⟨b,cs,ho,hγ,hv⟩:=hx;refine .same h (by rw[hv];exact Iw hΘ hs hk hf ht hne b off) ⟨b,cs,ho,hγ,rfl⟩
     .next o i off he hne=>cases hc;rw[he]at hx;obtain⟨b,n,cap,e,r,l,fr,ho,hγ,hv⟩:=hx;refine .same h aqE ⟨b,n,cap,e,r,l,fr,ho,hγ,?_⟩;rw[Nat.add_assoc]
     .next r y off fr he hne=>cases hc;rw[he]at hx;obtain⟨b,base,cs,ty,fz,hv,hfo,hb,hr⟩:=hx;refine .same h aqE ⟨b,base,cs,ty,fz,?_,hfo,hb,hr⟩;rw[Nat.add_assoc]
     .next cs off he hne=>cases hc;rw[he]at hx;obtain⟨b,hv,hkp⟩:=hx;exact .same h aqE ⟨b,rfl,hkp⟩
     .cases hc
    .cases hc
   .cases hc
  .cases hc
 .cases hc
theorem ZU(hΘ:∀t ti,Θ t=some ti->lM P t ti)(h:Rel w0 M T γ st a w){d:Nat}{t:TypeId}{x ix:Operand}{p:Prop}{v:AV}{δ:List (Nat×aB)}
 (hc:calm Θ Γ d st (.indexAddr t x ix)=some (p,v,δ)) (hp:p):Yields P w0 M T st a w (Instr.indexAt t (a.eval x) (a.eval ix)) v δ:=by
 have hx:=jc h x;simp only[calm]at hc;split at hc
 .next ti n ht hn=>
  obtain⟨k,hk,_⟩:=uw h hn;split at hc
  .next e hkind=>
   split at hc
   .next te e' r l fr he hev=>
    split at hc
    .next hbeq=>cases hc;have hr:=ax.eq_of_beq _ _ hbeq;rw[hev]at hx;obtain⟨b,off,cap,hv,hR⟩:=anW (X:=aj w0 T γ st w) (e:=e') hx (i:=n.toNat) abn;refine .same h (by rw[hv,hk];exact run_indexAt hΘ ht hkind he b off _ cap k n hp.1 hp.2) ?_;rw[hr];exact hR
    .cases hc
   .next te o he hev=>
    split at hc
    .next e' r l fr ho=>
     split at hc
     .next hbeq=>
      cases hc;have hr:=ax.eq_of_beq _ _ hbeq;rw[hev]at hx;obtain⟨_,hv,_⟩:=hx;obtain⟨xs,⟨_,h2⟩,hpos,_⟩:=h.ah o _ ho;rcases h2 with⟨_,h4⟩|⟨g,cap,cur,h3,_⟩
      .omega
      .have h3':γ o=.slice (some ⟨g,0,none⟩) l.length cap:=h3;refine .same h (by rw[hv,hk];show(Instr.indexAt t (γ o) _).run P w=_;rw[h3'];exact run_indexAt hΘ ht hkind he g 0 _ cap k n hp.1 hp.2) ⟨g,l.length,cap,e',r,l,fr,ho,h3',?_⟩;rw[hr,avV,aw0]
     .cases hc
    .cases hc
   .cases hc;exact hp.elim
   .cases hc
  .cases hc
 .cases hc
theorem agp{t:TypeId}{ti:TI}(hT:lM P t ti)(hk:ti.kind=.str)(s:Bytes)(k:IntKind)(n:Int)(h0:0<=n)(h1:n<s.length):
 (Instr.index t (.string ⟨s.toArray⟩) (.int k n)).run P w=.ok (.int .u8 ((s.getD n.toNat 0).toNat:Int)) w:=by
 have hu:=hT.und;rw[hk]at hu;have hlt:n.toNat<s.length:=abn;have hg:(⟨s.toArray⟩:ByteArray)[n.toNat]? =some (s.getD n.toNat 0):=by
  have hsz:n.toNat<(⟨s.toArray⟩:ByteArray).size:=by rw[size_bytes];exact hlt
  rw[getElem?_pos (⟨s.toArray⟩:ByteArray) n.toNat hsz];congr 1;rw[avr,avv hlt];rfl
 simp[Instr.index,asIntOf,avQ,avY hu.1 w,h0,hg]
theorem ahq(hΘ:∀t ti,Θ t=some ti->lM P t ti)(h:Rel w0 M T γ st a w){d:Nat}{t:TypeId}{x ix:Operand}{p:Prop}{v:AV}{δ:List (Nat×aB)}
 (hc:calm Θ Γ d st (.index t x ix)=some (p,v,δ)) (hp:p):Yields P w0 M T st a w (Instr.index t (a.eval x) (a.eval ix)) v δ:=by
 simp only[calm]at hc;split at hc
 .next ti n s ht hn hev=>
  obtain⟨k,hk,_⟩:=uw h hn;split at hc
  .next hkind=>cases hc;obtain⟨hs,_⟩:a.eval x=.string ⟨s.toArray⟩/\s.length<=maxLen:=oz h hev;refine .same h (by rw[hs,hk];exact agp (hΘ t ti ht) hkind s k n hp.1 hp.2) ⟨rfl,?_⟩;have:(s.getD n.toNat 0).toNat<256:=UInt8.toNat_lt _;have e1:IntKind.u8.min=0:=rfl;have e2:IntKind.u8.max=255:=rfl;rw[e1,e2];omega
  .cases hc
 .cases hc
theorem ahr(hΘ:∀t ti,Θ t=some ti->lM P t ti)(h:Rel w0 M T γ st a w){d:Nat}{s:TypeId}{x:Operand}{f:Nat}{p:Prop}{v:AV}{δ:List (Nat×aB)}
 (hc:calm Θ Γ d st (.field s x f)=some (p,v,δ)):Yields P w0 M T st a w (Instr.field s (a.eval x) f) v δ:=by
 have hx:=jc h x;simp only[calm]at hc;split at hc
 .next ti hs=>
  split at hc
  .next fs hk=>
   split at hc
   .next k t cs hf hev=>
    split at hc
    .next te ht=>
     split at hc
     .next sv hsv=>
      cases hc;rw[hev]at hx;obtain⟨vs,hv,hr⟩:=hx;have hu:=(hΘ s ti hs).und;rw[hk]at hu;obtain⟨yR,hu,rfl,_⟩:=hu;rw[awn]at hf;cases hfl:yR.toList[f]? with
      |none=>rw[hfl]at hf;cases hf
      |some fl=>
       rw[hfl]at hf;simp at hf;obtain⟨rfl,rfl⟩:=hf;have Q8:yR[f]? =some fl:=by simpa using hfl
       have hT:=hΘ _ te ht;unfold lK at hsv;split at hsv
       .next hagg=>
        split at hsv
        .next hle=>
         cases hsv;refine .same h (u:=.agg (vs.extract fl.offset (fl.offset+te.cells.len))) ?_ ⟨_,rfl,?_⟩
         .rw[hv];simp[Instr.field,avQ,avY hu w,Q8,asAgg,part,hT.Vx,hagg,hT.run_sizeOf]
         .have:(vs.extract fl.offset (fl.offset+te.cells.len)).toList=(vs.toList.drop fl.offset).take te.cells.len:=by simp[List.take_drop]
          rw[this];exact ai.take _ _ _ (ai.drop _ _ _ hr)
        .cases hsv
       .next hagg=>
        split at hsv
        .next c hcc=>
         cases hsv;obtain⟨u,hu2,hR⟩:=ai.get _ _ _ _ hr hcc;have hu3:vs[fl.offset]? =some u:=by simpa using hu2
         refine .same h (u:=u) ?_ hR;rw[hv];simp[Instr.field,avQ,avY hu w,Q8,asAgg,part,hT.Vx,hagg,hu3]
        .cases hsv
     .cases hc
    .cases hc
   .cases hc
  .cases hc
 .cases hc
theorem foldl_set(cs:List Value):∀(off k:Nat)(cells:Array Value),off+k+cs.length<=cells.size->
 ((cs.zipIdx k).foldl (λ(xs:Array Value)(p:Value×Nat)=>xs.setIfInBounds (off+p.2) p.1) cells).toList=cells.toList.take (off+k)++cs++cells.toList.drop (off+k+cs.length):=by
 induction cs with
 |nil=>intro off k cells _;simp
 |cons c cs ih=>
  intro off k cells hle;simp only[avq]at hle;rw[List.zipIdx_cons,ayI,ih off (k+1) _ (by rw[Array.size_setIfInBounds];omega)];have hsz:cells.toList.length=cells.size:=awd;rw[Array.toList_setIfInBounds];generalize cells.toList=l at*;have h1:(l.set (off+k) c).take (off+(k+1))=l.take (off+k)++[c]:=by rw[show off+(k+1)=off+k+1 from abn,List.take_set,awu abn,List.set_append_right _ _ aiO];rw[avz,axU abn,axJ];rfl
  rw[h1,List.drop_set_of_lt abn];rw[avE,avE,List.singleton_append,avE];rw[show off+(k+1)+cs.length=off+k+(c::cs).length by simp only[avq];omega];simp
theorem Q9{X:V}{cs ys:List Cell}{vs us:List Value}(off:Nat)(h1:ai X cs vs)(h2:ai X ys us):
 ai X (splice cs off ys) (vs.take off++us++vs.drop (off+us.length)):=by
 unfold splice;rw[ai.length _ _ h2];exact ai.append _ _ _ _ (ai.append _ _ _ _ (ai.take _ _ _ h1) h2) (ai.drop _ _ _ h1)
theorem ahs(hΘ:∀t ti,Θ t=some ti->lM P t ti)(h:Rel w0 M T γ st a w){fs:List (Nat×TypeId)}{place:Nat->Option (Nat×Nat)}(hpl:∀i off t ti,fs[i]? =some (off,t)->Θ t=some ti->place i=some (off,ti.cells.len)):
 ∀(parts:List (Nat×Operand))(cs ds:List Cell)(cells:Array Value),ai (aj w0 T γ st w) cs cells.toList->EZ Θ st fs parts cs=some ds->
  ∃out,Instr.fill place cells (parts.map λx=>(x.1,a.eval x.2))=some out/\ai (aj w0 T γ st w) ds out.toList
 |[],cs,ds,cells,hr,hb=>by
  simp only[EZ]at hb;cases hb;exact⟨cells,rfl,hr⟩
 |(i,x)::r,cs,ds,cells,hr,hb=>by
  rw[EZ]at hb;split at hb
  .next off t v hf hev=>
   split at hb
   .next ti ht=>
    split at hb
    .next hle=>
     simp only[avo]at hle;have h1:=avs hle.1;have h2:=awy hle.2;have hx:=jc h x;rw[hev]at hx;have hcells:=dM.cells v _ hx;have hlen:=ai.length _ _ hcells;have hlen2:=ai.length _ _ hr;rw[awd]at hlen hlen2;have anX:ai (aj w0 T γ st w) (splice cs off v.cells) ((a.eval x).cells.zipIdx.foldl (λcs(c,j)=>cs.setIfInBounds (off+j) c) cells).toList:=by
      have hfold:((a.eval x).cells.zipIdx.foldl (λcs(c,j)=>cs.setIfInBounds (off+j) c) cells).toList=cells.toList.take off++(a.eval x).cells.toList++cells.toList.drop (off+(a.eval x).cells.toList.length):=by rw[← Array.foldl_toList,Array.toList_zipIdx];have:=foldl_set (a.eval x).cells.toList off 0 cells (by rw[awd];omega);simpa using this
      rw[hfold];exact Q9 off hr hcells
     obtain⟨out,ho,hR⟩:=ahs hΘ h hpl r _ ds _ anX hb;refine⟨out,?_,hR⟩;rw[avK,Instr.fill,hpl i off t ti hf ht];have e1:((a.eval x).cells.size≠ti.cells.len||off+(a.eval x).cells.size>cells.size)=false:=by simp only[awK,av7];omega
     simp only[e1,awZ,axK];exact ho
    .cases hb
   .cases hb
  .cases hb
theorem aht(hΘ:∀t ti,Θ t=some ti->lM P t ti)(h:Rel w0 M T γ st a w){d:Nat}{t:TypeId}{parts:Array (Nat×Operand)}{p:Prop}{v:AV}{δ:List (Nat×aB)}
 (hc:calm Θ Γ d st (.build t parts)=some (p,v,δ)):Yields P w0 M T st a w (Instr.build t (parts.map λx=>(x.1,a.eval x.2))) v δ:=by
 simp only[calm]at hc;split at hc
 .next ti ht=>
  split at hc
  .next fs hk=>
   split at hc
   .next cs hb=>
    cases hc;have hT:=hΘ t ti ht;obtain⟨i,z,hi,hsz,hby,hz,hzv,_⟩:=hT.info;have hu:=hT.und;rw[hk]at hu;obtain⟨yR,hu,hfs,hall⟩:=hu;have hz0:ai (aj w0 T γ st w) ti.cells.zeros z.cells.toList:=by rw[hzv];exact ZR _ _
    obtain⟨places,hpm,arC⟩:∃places,yR.toList.mapM (λf=>(P.info? f.type).map λi=>(f.offset,i.size))=some places/\places=yR.toList.map λf=>(f.offset,P.cellsOf f.type):=by
     refine⟨_,?_,rfl⟩;generalize yR.toList=l at hall;clear hfs
     induction l with
     |nil=>rfl
     |cons f l ih=>
      have h1:=hall f avA;cases hi:P.info? f.type with
      |none=>rw[hi]at h1;cases h1
      |some i=>rw[ayJ,ih (λg hg=>hall g (avy _ hg))];simp[hi,Program.cellsOf]
    have hpl:∀(i off:Nat)(t:TypeId)(ti:TI),fs[i]? =some (off,t)->Θ t=some ti->places[i]? =some (off,ti.cells.len):=by
     intro i off t ti hf ht;rw[hfs,awn]at hf;cases hfl:yR.toList[i]? with
     |none=>rw[hfl]at hf;cases hf
     |some fl=>rw[hfl]at hf;simp at hf;obtain⟨rfl,rfl⟩:=hf;rw[arC,awn,hfl];have:=(hΘ _ ti ht).size;simp only[awr,Option.some.injEq,Prod.mk.injEq,axZ];unfold Program.cellsOf;rw[this];rfl
    obtain⟨out,ho,hR⟩:=ahs hΘ h (place:=(places[·]?)) hpl parts.toList _ _ z.cells hz0 hb;refine .same h (u:=.agg out) ?_ ⟨out,rfl,hR⟩;refine run_build w t _ out ?_;unfold Program.built;simp only[hi,hu,hz,hpm];simpa using ho
   .cases hc
  .cases hc
 .cases hc
theorem Uk{t:TypeId}{ti:TI}(hT:lM P t ti):∃z,(zeroValue t).run P w=.ok z w/\z.cells.toList=ti.cells.kS:=by obtain⟨i,z,hi,hsz,hby,hz,hzv,_⟩:=hT.info;exact⟨z,by simp[zeroValue,typeInfo,hi,hz],hzv⟩
theorem abt(w:World)(t:TypeId)(v:Value):(newVar t v).run P w=.ok ⟨w.heap.size,0,none⟩ (w.alloc (.cells v.cells t)):=aqT
theorem ahu(hΘ:∀t ti,Θ t=some ti->lM P t ti)(h:Rel w0 M T γ st a w){d:Nat}{t:TypeId}{p:Prop}{v:AV}{δ:List (Nat×aB)}
 (hc:calm Θ Γ d st (.alloc t)=some (p,v,δ)) (hf:jJ st δ=true):Yields P w0 M T st a w (Instr.alloc t true (.tuple #[])) v δ:=by
 simp only[calm]at hc;split at hc
 .next ti ht=>cases hc;obtain⟨z,hz,hzv⟩:=Uk (w:=w) (hΘ t ti ht);have hn:st.ah (d*64)=none:=asL;obtain⟨h1,h2⟩:=h.ahm (d*64) ti.cells.zeros hn abn z.cells t (by rw[hzv];exact ZR _ _);refine⟨_,_,_,?_,h1,h2⟩;simp[Instr.alloc,avQ,hz,abt]
 .cases hc
theorem ak8(h:Rel w0 M T γ st a w){d:Nat}{t:TypeId}{x:Operand}{p:Prop}{v:AV}{δ:List (Nat×aB)}
 (hc:calm Θ Γ d st (.box t x)=some (p,v,δ)) (hf:jJ st δ=true):Yields P w0 M T st a w (Instr.box t (a.eval x)) v δ:=by
 have hx:=jc h x;simp only[calm]at hc;split at hc
 .next s hev=>cases hc;rw[hev]at hx;have hn:st.ah (d*64)=none:=asL;obtain⟨h1,h2⟩:=h.ahm (d*64) s.cells hn abn (a.eval x).cells t (dM.cells s _ hx);refine⟨_,_,_,?_,h1,h2⟩;simp[Instr.box,abt]
 .cases hc
theorem Y0(h:Rel w0 M T γ st a w)(r:ax)(fr:Bool):∀(parts:List (Nat×Operand))(k:Nat)(l:List r.den),DU st r k parts=some l->mM st parts=[]->(fr=true->nI st parts=true)->
 l.length=parts.length/\(parts.map λx=>(x.1,a.eval x.2))=((parts.map λx=>a.eval x.2).zipIdx k).map (λx=>(x.2,x.1))/\(∀v∈parts.map (λx=>a.eval x.2),v.cells.size=r.len)/\
 ∀i x,l[i]? =some x->aJ w.heap ((aj w0 T γ st w).cu fr) r ((((parts.map λx=>a.eval x.2).flatMap λv=>v.cells.toList).drop (i*r.len)).take r.len) x
 |[],k,l,hr,_,_=>by
  rw[DU]at hr;cases hr;exact⟨rfl,rfl,(λv hv=>by cases hv),(λi x hi=>arA)⟩
 |(i,x)::ps,k,l,hr,hn,hf=>by
  rw[DU]at hr;rw[mM,awj]at hn;split at hr
  .next v l' hb hev hl'=>
   split at hr
   .next y hy=>
    cases hr;have hx:=jc h x;rw[hev]at hx hn;have hcells:=dM.cells v _ hx;have hfr:fr=true->v.cells.all (Cell.fresh st)=true/\nI st ps=true:=by intro e;have:=hf e;rw[nI,hev,avo]at this;exact this
    have hR:=KX h fr r v.cells _ y hcells hy hn.1 (λe=>(hfr e).1);have hlen:=aJ.length _ _ _ hR;obtain⟨h1,h2,h3,h4⟩:=Y0 h r fr ps (k+1) l' hl' hn.2 (λe=>(hfr e).2);have hik:i=k:=avs hb;have hsz:(a.eval x).cells.size=r.len:=by rw[awd]at hlen;exact hlen
    refine⟨by simp[h1],?_,?_,λj z hj=>?_⟩
    .rw[avK,avK,List.zipIdx_cons,avK,h2,hik]
    .intro u hu;rcases avF.1 hu with rfl|hu
     .exact hsz
     .exact h3 u hu
    .rw[avK,awG];cases j with
     |zero=>
      simp at hj;subst hj;rw[axz,axb,axk (Nat.le_of_eq hlen.symm),av6 (Nat.le_of_eq hlen)];exact hR
     |succ j=>
      have hj':l'[j]? =some z:=ana;have:(j+1)*r.len=(a.eval x).cells.toList.length+j*r.len:=by rw[av8,hlen];omega
      rw[this,← aw1,ays];exact h4 j z hj'
   .cases hr
  .cases hr
theorem Yg(hΘ:∀t ti,Θ t=some ti->lM P t ti)(h:Rel w0 M T γ st a w){d:Nat}{t:TypeId}{len:Nat}{parts:Array (Nat×Operand)}{p:Prop}{v:AV}{δ:List (Nat×aB)}
 (hc:calm Θ Γ d st (.buildSlice t len parts)=some (p,v,δ)) (hf:jJ st δ=true):Yields P w0 M T st a w (Instr.buildSlice t len (parts.map λx=>(x.1,a.eval x.2))) v δ:=by
 simp only[calm]at hc;split at hc
 .next ti ht=>
  split at hc
  .next e hk=>
   split at hc
   .next te he=>
    split at hc
    .next l hb hrefs hrows=>
     cases hc;simp only[avo]at hb;have hlen:len=parts.size:=avs hb.1.1;have hpos:0<te.cells.len:=awy hb.1.2;have hsm:len*te.cells.len<=16777216:=awy hb.2;have hn:st.ah (d*64+1)=none:=asL;obtain⟨h1,h2,h3,h4⟩:=Y0 h te.cells (nI st parts.toList) parts.toList 0 l hrows hrefs (λe=>e);have hT:=hΘ e te he;obtain⟨i,z,hi,hsz,hby,hz,hzv,_⟩:=hT.info;have hu:=(hΘ t ti ht).und;rw[hk]at hu;have hsum:∀(vs:List Value),(∀v∈vs,v.cells.size=te.cells.len)->(vs.flatMap λv=>v.cells.toList).length=vs.length*te.cells.len:=by
      intro vs hvs
      induction vs with
      |nil=>simp
      |cons v vs ih=>rw[awG,avn,ih (λu hu=>hvs u (avy _ hu)),awd,hvs v avA,avq,av8];omega
     have hl:l.length=len:=by rw[h1,hlen];exact awd
     have hcount:(parts.toList.map λx=>a.eval x.2).length=len:=by rw[avI,hlen];exact awd
     by_cases hzero:len=0
     .have hl0:l=[]:=awm.1 abn;obtain⟨g1,g2⟩:=h.ZQ (d*64+1) e te.cells l (nI st parts.toList) hn #[] 0 hpos abn (avM _) acA (λi x hx=>by rw[hl0]at hx;simp at hx);refine⟨_,_,_,?_,g1,g2⟩;have hp0:parts=#[]:=Array.size_eq_zero_iff.1 abn;subst hp0 hzero;subst hl0;have e0:Array.map (λ_=>(default:Value)) (Array.range 0)=#[]:=acA;simp[Instr.buildSlice,avQ,avY hu.1 w,hT.run_sizeOf,Instr.fill,newRow,newObj,Sem.run,e0]
     .have apc:=Great.fill_whole hpos (parts.toList.map λx=>a.eval x.2) ((Array.range (len*i.size)).map (z.cells[· %z.cells.size]!)) h3 (by rw[hcount,hsz];simp);obtain⟨g1,g2⟩:=h.ZQ (d*64+1) e te.cells l (nI st parts.toList) hn ((parts.toList.map λx=>a.eval x.2).flatMap λv=>v.cells.toList).toArray len hpos abn
       (by unfold maxLen;have:len*1<=len*te.cells.len:=Nat.mul_le_mul_left _ hpos;omega) (by rw[aw4,hsum _ h3,hcount]) (λi x hx=>h4 i x hx)
      rw[hl]at g1 g2;refine⟨_,_,_,?_,g1,g2⟩;refine run_buildSlice w t e len _ _ i z hu.1 hi hz asU (by rw[hsz];have:0<len*te.cells.len:=Nat.mul_pos abn hpos;omega) ?_;rw[hsz]at apc ⊢;rw[← apc];congr 1;rw[← h2];simp
    .cases hc
   .cases hc
  .cases hc
 .cases hc
theorem mW:∀(r:ax),r.kS.length=r.len
 |.nil=>rfl
 |.cons _ r=>by simp[ax.kS,ax.len,mW r]
theorem ZV(hΘ:∀t ti,Θ t=some ti->lM P t ti)(h:Rel w0 M T γ st a w){d:Nat}{t:TypeId}{x y:Operand}{p:Prop}{v:AV}{δ:List (Nat×aB)}
 (hc:calm Θ Γ d st (.makeSlice t x y)=some (p,v,δ)) (hp:p) (hf:jJ st δ=true):Yields P w0 M T st a w (Instr.makeSlice t (a.eval x) (a.eval y)) v δ:=by
 simp only[calm]at hc;split at hc
 .next ti n c ht hn hcc=>
  obtain⟨k1,hk1,_⟩:=uw h hn;obtain⟨k2,hk2,_⟩:=uw h hcc;split at hc
  .next e hk=>
   split at hc
   .next te he=>
    split at hc
    .next Rf=>
     cases hc;have hpos:0<te.cells.len:=awy Rf;have hT:=hΘ e te he;obtain⟨i,z,hi,hsz,hby,hz,hzv,_⟩:=hT.info;have hu:=(hΘ t ti ht).und;rw[hk]at hu;have hno:st.ah (d*64+1)=none:=asL;obtain⟨p1,p2,p3⟩:=hp;unfold big at p3;have hzs:z.cells.size=te.cells.len:=by rw[← awd,hzv,mW]
     have hcells:∀j,j<c.toNat*te.cells.len->(madeCells z.cells (c.toNat*te.cells.len))[j]? =te.cells.kS[j%te.cells.len]? :=by
      intro j hj;unfold madeCells;rw[Array.getElem?_map,Array.getElem?_range,if_pos hj];have hlt:j%z.cells.size<z.cells.size:=ayi _ abn;have hlt2:j%te.cells.len<te.cells.kS.length:=by rw[mW];exact ayi _ hpos
      simp only[awr];rw[getElem!_pos z.cells _ hlt];have:z.cells[j%z.cells.size]=z.cells.toList[j%z.cells.size]'(by rw[awd];exact hlt):=acA;rw[this];simp only[hzv,hzs];rw[avv hlt2]
     obtain⟨g1,g2⟩:=h.ZQ (d*64+1) e te.cells (List.replicate n.toNat te.cells.dflt) true hno (madeCells z.cells (c.toNat*te.cells.len)) c.toNat hpos adK (by unfold maxLen;omega)
      (size_madeCells _ _) (λj x hx=>by
        have hlt:j<n.toNat:=by have:=(avG.1 hx).1;simpa using this
        have hxd:x=te.cells.dflt:=by rw[axD,if_pos hlt]at hx;exact(Option.some.inj hx).symm
        subst hxd;have hmul:j*te.cells.len+te.cells.len<=c.toNat*te.cells.len:=by have:(j+1)*te.cells.len<=c.toNat*te.cells.len:=avO _ abn;rw[av8]at this;simpa using this
        have:(((madeCells z.cells (c.toNat*te.cells.len)).toList.drop (j*te.cells.len)).take te.cells.len)=te.cells.kS:=by
         apply axi;intro q;rw[av4];split
         .next hq=>rw[av5,Array.getElem?_toList,hcells _ abn,ayj,ayu,ayA hq]
         .next hq=>rw[aww (by rw[mW];omega)]
        rw[this];exact Vz _ _ _)
     rw[List.length_replicate]at g1 g2;refine⟨_,_,_,?_,g1,g2⟩;rw[hk1,hk2,← hsz];have hbb:=hT.small;refine run_make w t e i z hu.1 hi hz k1 k2 n c p1 p2 ?_ abn;rw[hby];have:(te.bytes:Int)*c<=4096*4294967296:=by have h1:(te.bytes:Int)*c<=4096*c:=axF abn abn;have h2:(4096:Int)*c<=4096*4294967296:=Int.mul_le_mul_of_nonneg_left p3 abn;omega
     omega
    .cases hc
   .cases hc
  .cases hc
 .cases hc
theorem foldl_push(ns:List Int):∀(b:ByteArray),(ns.foldl (λr n=>r.push (UInt8.ofNat n.toNat)) b)=⟨(b.data.toList++ns.map λn=>UInt8.ofNat n.toNat).toArray⟩:=by
 induction ns with
 |nil=>intro b;simp
 |cons n ns ih=>intro b;rw[ayI,ih];apply ByteArray.ext;simp
theorem ak9(l:List (ax.cons (.int .u8) .nil).den):byteRow l=(l.map ZN).map λn=>UInt8.ofNat (Int.toNat n):=by unfold byteRow;rw[awW];rfl
theorem agq{F:Nat->Prop}{e:TypeId}{v:Value}{l:List (ax.cons (.int .u8) .nil).den}(h:cZ w.heap F (.sl e (.cons (.int .u8) .nil)) v l):
 (Conv.bytesToString v).run P w=.ok (.string ⟨(byteRow l).toArray⟩) w/\(byteRow l).length<=maxLen:=by
 have h:sG _ _ _ _ v l:=h;refine⟨?_,by unfold byteRow;rw[avI];exact h.1⟩;rcases h.2 with⟨hl,a,c,hv⟩|⟨b,off,cap,cs,t,fz,hv,_,_,hb,hx⟩
 .subst hl;rw[hv];cases a with
  |none=>rfl
  |some a=>rw[run_bytesToString w a 0 c [] (by simp[loadCells,loadCellsFrom,awx])];rfl
 .rw[hv];rw[run_bytesToString w ⟨b,off,none⟩ l.length cap (l.map ZN) ?_,foldl_push,ak9]
  .rfl
  .have hcells:∀j u,((l.map ZN).map (Value.int .u8))[j]? =some u->w.cell? ((⟨b,off,none⟩:Addr).add j)=some u:=by
    intro j u hj;rw[awW,awn]at hj;cases hlj:l[j]? with
    |none=>rw[hlj]at hj;cases hj
    |some x=>
     rw[hlj]at hj;have hj:some (Value.int .u8 (ZN x))=some u:=hj;cases hj;have hr:=hx j x hlj;obtain⟨n,un⟩:=x;rw[aJ]at hr;obtain⟨v',vs',e1,h1,h2⟩:=hr;have e2:v'=.int .u8 (ZN (n,un)):=h1.1;rw[addr_add];simp only[World.cell?,hb];have e3:(cs.toList.drop (off+j*1)).head?=some v':=by
      have e4:ax.len (.cons (.int .u8) .nil)=1:=rfl;rw[e4]at e1;cases hd:cs.toList.drop (off+j*1)with
      |nil=>rw[hd]at e1;simp at e1
      |cons y ys=>rw[hd]at e1;simp at e1;rw[e1.1];rfl
     rw[List.head?_drop,axR,e2]at e3;simpa using e3
   have hlc:=run_loadCells_list (P:=P) w ⟨b,off,none⟩ _ hcells;rw[avI,avI]at hlc;exact hlc
theorem yS(hΘ:∀t ti,Θ t=some ti->lM P t ti){t:TypeId}{ti:TI}(ht:Θ t=some ti){d:TypeDesc}(hd:ti.cells.desc=some d):ti.agg=true\/P.underlying t=some d:=by
 have hu:=(hΘ t ti ht).und;unfold TI.agg;split at hu
 .next hk=>obtain⟨d',hd',hu⟩:=hu;rw[hd]at hd';cases hd';exact .inr hu
 .next hk=>rw[hu.2]at hd;cases hd;exact .inr hu.1
 .next e hk=>obtain⟨hu,r,hr⟩:=hu;rw[hr]at hd;cases hd;exact .inr hu
 .next fs hk=>rw[hk];exact .inl rfl
theorem ahv(h:Rel w0 M T γ st a w){src dst e:TypeId}(us:P.underlying src=some .string)(ud:P.underlying dst=some (.slice e))(ue:P.underlying e=some (.int .u8))(s:Bytes)(hl:s.length<=maxLen):
 Yields P w0 M T st a w (convert src dst (.string ⟨s.toArray⟩)) (.sv (.one (.sl e (.cons (.int .u8) .nil) (DV s) true))) []:=by
 have hrun:=run_bytes_of_string (P:=P) w src dst e ⟨s.toArray⟩ us ud ue
 let o:Obj:=.cells (bytesRow ⟨s.toArray⟩ (grownCap w (⟨s.toArray⟩:ByteArray).size 0 e)) e ((bytesRow ⟨s.toArray⟩ (grownCap w (⟨s.toArray⟩:ByteArray).size 0 e)).size,(bytesRow ⟨s.toArray⟩ (grownCap w (⟨s.toArray⟩:ByteArray).size 0 e)).size+1)
 have hsz:(w.drew.alloc o).heap.size=w.heap.size+1:=by show(w.heap.push o).size=_;simp
 have hg:=h.grown (γ':=γ) (w':=w.drew.alloc o) st.ah (λ_ _ h=>h) (λ_ _ _=>rfl) rfl rfl rfl abn (λb hb=>heap_alloc_old w.drew o hb)
  (λp x h1 h2=>apJ) (λp cs h1 h2=>apJ) (λp x q y b h1 h2=>apJ)
 refine⟨_,_,γ,hrun,hg.1,?_⟩;have hlen:(DV s).length=s.length:=by unfold DV;rw[avI]
 refine⟨by rw[hlen];exact hl,.inr ⟨w.heap.size,0,grownCap w (⟨s.toArray⟩:ByteArray).size 0 e,_,e,_,?_,?_,⟨⟨?_,?_,?_⟩,?_⟩,Jt w.drew o,?_⟩⟩
 .rw[hlen,size_bytes]
 .rw[hlen];have:=grownCap_ge w (⟨s.toArray⟩:ByteArray).size 0 e;rw[size_bytes]at this;rw[size_bytes];exact this
 .show w.heap.size<(w.drew.alloc o).heap.size;omega
 .intro hlt;have:w.heap.size<w0.heap.size:=hlt;have:=h.grow;omega
 .intro p x hp hb;have:=(h.lt p x _ hp hb).1;omega
 .intro _;exact h.grow
 .intro i x hi;have hlt:i<s.length:=arB;unfold DV at hi;rw[awn,avv hlt]at hi;have hi:some (((s[i].toNat:Int),()):Int×Unit)=some x:=hi;cases hi;refine⟨.int .u8 (s[i].toNat:Int),[],?_,⟨rfl,?_⟩,rfl⟩
  .show List.take 1 (List.drop (0+i*1) (bytesRow ⟨s.toArray⟩ _).toList)=_;unfold bytesRow;have e1:(s.toArray.map (λb=>Value.int .u8 b.toNat)++Array.replicate (grownCap w (⟨s.toArray⟩:ByteArray).size 0 e-(⟨s.toArray⟩:ByteArray).size) (Value.int .u8 0)).toList=s.map (λb=>Value.int .u8 b.toNat)++List.replicate (grownCap w (⟨s.toArray⟩:ByteArray).size 0 e-(⟨s.toArray⟩:ByteArray).size) (Value.int .u8 0):=acA;rw[e1,avV,axR,awR (by rw[avI];omega)];rw[awY (by rw[avI];exact hlt)];simp
  .have:=UInt8.toNat_lt s[i];have e1:IntKind.u8.min=0:=rfl;have e2:IntKind.u8.max=255:=rfl;rw[e1,e2];omega
theorem adU(hΘ:∀t ti,Θ t=some ti->lM P t ti)(h:Rel w0 M T γ st a w){d:Nat}{src dst:TypeId}{x:Operand}{p:Prop}{v:AV}{δ:List (Nat×aB)}
 (hc:calm Θ Γ d st (.convert src dst x)=some (p,v,δ)):Yields P w0 M T st a w (convert src dst (a.eval x)) v δ:=by
 simp only[calm]at hc;split at hc
 .next ts td c hs hd hev=>
  have hx:=oz h hev;split at hc
  .cases hc
  .next hagg=>
   simp only[awC,not_or,Bool.not_eq_true]at hagg;split at hc
   .next k0 k l n e1 e2=>cases hc;have us:=(yS hΘ hs (d:=.int k0) (by rw[e1];rfl)).resolve_left as1;have ud:=(yS hΘ hd (d:=.int k) (by rw[e2];rfl)).resolve_left as2;obtain⟨hv,_⟩:=hx;refine .same h (u:=.int k (k.wrap n)) ?_ ⟨rfl,FX _ _⟩;rw[hv];simp[convert,avQ,avY us w,avY ud w,Conv.intToInt]
   .next s e1 e2=>cases hc;have us:=(yS hΘ hs (d:=.string) (by rw[e1];rfl)).resolve_left as1;have ud:=(yS hΘ hd (d:=.string) (by rw[e2];rfl)).resolve_left as2;obtain⟨hv,hl⟩:=hx;refine .same h (u:=.string ⟨s.toArray⟩) ?_ ⟨rfl,hl⟩;rw[hv];simp[convert,avQ,avY us w,avY ud w]
   .next e s e1 e2=>
    split at hc
    .next te he=>
     split at hc
     .next e3 e4=>cases hc;have us:=(yS hΘ hs (d:=.string) (by rw[e1];rfl)).resolve_left as1;have ud:=(yS hΘ hd (d:=.slice e) (by rw[e2];rfl)).resolve_left as2;have ue:=(yS hΘ he (d:=.int .u8) (by rw[e3];rfl)).resolve_left (by rw[e4];simp);obtain⟨hv,hl⟩:=hx;rw[hv];exact ahv h us ud ue s hl
     .cases hc
    .cases hc
   .next c' e e1 e2=>
    split at hc
    .next l te hl he=>
     split at hc
     .next e3 e4=>
      cases hc;have us:=(yS hΘ hs (d:=.slice e) (by rw[e1];rfl)).resolve_left as1;have ud:=(yS hΘ hd (d:=.string) (by rw[e2];rfl)).resolve_left as2;have ue:=(yS hΘ he (d:=.int .u8) (by rw[e3];rfl)).resolve_left (by rw[e4];simp);have hg:=Cell.XK h _ _ _ _ hx hl;obtain⟨hr,hlen⟩:=agq (P:=P) hg;refine .same h (u:=.string ⟨(byteRow l).toArray⟩) ?_ ⟨rfl,hlen⟩;have hg:sG _ _ _ _ (a.eval x) l:=hg;obtain⟨ad,n,cp,hv⟩:∃ad n cp,a.eval x=.slice ad n cp:=by rcases hg.2 with⟨_,ad,cp,hv⟩|⟨b,off,cap,_,_,_,hv,_⟩<;>exact⟨_,_,_,hv⟩
      rw[hv]at hr ⊢;simp[convert,avQ,avY us w,avY ud w,avY ue w,hr]
     .cases hc
    .cases hc
   .cases hc
 .cases hc
theorem ahw(hΘ:∀t ti,Θ t=some ti->lM P t ti)(h:Rel w0 M T γ st a w){d:Nat}{op:BinOp}{t t':TypeId}{x y:Operand}{p:Prop}{v:AV}{δ:List (Nat×aB)}
 (hc:calm Θ Γ d st (.binOp op t x y t')=some (p,v,δ)) (hp:p):Yields P w0 M T st a w (do eqGuard op t x y (a.eval x) (a.eval y);binOp op t (a.eval x) (a.eval y)) v δ:=by
 simp only[calm]at hc;split at hc
 .next c1 c2 e1 e2=>
  split at hc
  .next hb=>
   split at hc
   .next q c hq=>
    cases hc;obtain⟨r,hr,hR⟩:=ajs (P:=P) (w:=w) (t:=t) (s:=x) (u:=y) (aj w0 T γ st w) hq hp (oz h e1) (oz h e2) (λb1 b2 h1 h2=>by
     subst h1 h2;simp only[aj9]at hb;split at hb
     .next ti ht=>
      split at hb
      .next hcells=>exact(yS hΘ ht (d:=.bool) (by rw[hcells];rfl)).resolve_left (by rw[eq_of_beq hb];simp)
      .cases hb
     .cases hb)
    exact .same h hr hR
   .cases hc
  .cases hc
 .next a1 a2 e1 e2=>
  split at hc
  .next ti ht=>
   split at hc
   .next b hcmp heq=>
    split at hc
    .next hlen=>cases hc;have h1:=jc h x;have h2:=jc h y;rw[e1]at h1;rw[e2]at h2;obtain⟨vs,hv,hr1⟩:=h1;obtain⟨us,hu,hr2⟩:=h2;have:=(hΘ t ti ht).cmp hcmp w x y (aj w0 T γ st w) a1 a2 vs us b hlen hr1 hr2 heq;rw[hv,hu];exact .same h this.1 rfl
    .cases hc
   .next b hcmp heq=>
    split at hc
    .next hlen=>cases hc;have h1:=jc h x;have h2:=jc h y;rw[e1]at h1;rw[e2]at h2;obtain⟨vs,hv,hr1⟩:=h1;obtain⟨us,hu,hr2⟩:=h2;have:=(hΘ t ti ht).cmp hcmp w x y (aj w0 T γ st w) a1 a2 vs us b hlen hr1 hr2 heq;rw[hv,hu];exact .same h this.2 rfl
    .cases hc
   .cases hc
  .cases hc
 .cases hc
theorem VD(h:Rel w0 M T γ st a w){x:Operand}{o lo n:Nat}(hev:st.ev x=.win o lo n):∃b m cap e r l fr,st.ah o=some (.arr e r l fr)/\γ o=.slice (some ⟨b,0,none⟩) m cap/\
 (∃q,(q=lo*r.len\/cap<=lo)/\a.eval x=.slice (some ⟨b,q,none⟩) n (cap-lo)/\lo+n<=cap):=by
 have hx:=jc h x;rw[hev]at hx;exact hx
theorem akd(h:Rel w0 M T γ st a w){o:Nat}{e:TypeId}{r:ax}{l:List r.den}{fr:Bool}(ho:st.ah o=some (.arr e r l fr)){b m cap:Nat}(hγ:γ o=.slice (some ⟨b,0,none⟩) m cap):cap<=maxLen/\l.length<=cap:=by
 obtain⟨xs,⟨_,h2⟩,_⟩:=h.ah o _ ho;have Px:(aj w0 T γ st w).γ o=.slice (some ⟨b,0,none⟩) m cap:=hγ;rcases h2 with⟨h3,h4⟩|⟨g,cap',cur,h3,_,_,h4,h5,_⟩
 .rw[Px]at h3;cases h3
 .rw[Px]at h3;cases h3;exact⟨h5,h4⟩
theorem ahx(hΘ:∀t ti,Θ t=some ti->lM P t ti)(h:Rel w0 M T γ st a w){d:Nat}{t:TypeId}{x:Operand}{lo hi:Option Operand}{p:Prop}{v:AV}{δ:List (Nat×aB)}
 (hc:calm Θ Γ d st (.slice t x lo hi none)=some (p,v,δ)) (hp:p):Yields P w0 M T st a w (Instr.sliceAt t (a.eval x) (lo.map a.eval) (hi.map a.eval) none) v δ:=by
 simp only[calm]at hc;split at hc
 .next ti s ht hev=>
  obtain⟨hv,hl⟩:a.eval x=.string ⟨s.toArray⟩/\s.length<=maxLen:=oz h hev;split at hc
  .next q i j hk hb=>cases hc;obtain⟨hr,h1,h2⟩:=rG (P:=P) h (avt _) hb hp false;have hu:=(hΘ t ti ht).und;rw[hk]at hu;refine .same h (u:=.string ⟨((s.take j).drop i).toArray⟩) ?_ ⟨rfl,adK⟩;rw[hv];simp[Instr.sliceAt,Instr.slice,avQ,avY hu.1 w,size_bytes,hr,agn]
  .cases hc
 .next ti e r l fr ht hev=>
  have hx:=oz h hev;split at hc
  .next f q i j hk hb=>
   split at hc
   .next te he=>
    split at hc
    .next hbeq=>
     cases hc;obtain⟨ad,c,hv,hl⟩:=ahl hx;have hlc:l.length<=c:=by
      have hx':sG _ _ _ _ (a.eval x) l:=hx;rcases hx'.2 with⟨hl0,_⟩|⟨b,off,cap,cs,t,fz,hv',hcap,_⟩
      .rw[hl0];exact avM _
      .rw[hv]at hv';simp at hv';omega
     obtain⟨hr,h1,h2⟩:=rG (P:=P) h hlc hb hp true;have hu:=(hΘ t ti ht).und;rw[hk]at hu;have hsz:te.cells.len=r.len:=by rw[ax.eq_of_beq _ _ hbeq]
     rw[hv]at hx;refine .same h ?_ (apM hx h1 h2);rw[hv];simp[Instr.sliceAt,Instr.slice,avQ,avY hu.1 w,hr,(hΘ f te he).run_sizeOf,hsz]
    .cases hc
   .cases hc
  .cases hc
 .next ti ht hev=>
  have hv:a.eval x=.slice none 0 0:=oz h hev;split at hc
  .next f q i j hk hb=>
   split at hc
   .next te he=>cases hc;obtain⟨hr,h1,h2⟩:=rG (P:=P) h (avt 0) hb hp true;have hj:j=0:=abn;have hi0:i=0:=abn;subst hj hi0;have hu:=(hΘ t ti ht).und;rw[hk]at hu;refine .same h (u:=.slice none 0 0) ?_ rfl;rw[hv];simp[Instr.sliceAt,Instr.slice,avQ,avY hu.1 w,hr,(hΘ f te he).run_sizeOf]
   .cases hc
  .cases hc
 .next ti o zy n0 ht hev=>
  split at hc
  .next f e r l fr hk ho=>
   split at hc
   .next te q i j he hb=>
    split at hc
    .next hbeq=>
     cases hc;obtain⟨g,m,cap,e',r',l',fr',hx,hγ,⟨p0,hp0,hv,hle⟩⟩:=VD h hev;rw[ho]at hx;cases hx;obtain⟨hcap,hlc⟩:=akd h ho hγ;have hsz:te.cells.len=r.len:=by rw[ax.eq_of_beq _ _ hbeq]
     have hu:=(hΘ t ti ht).und;rw[hk]at hu;have key:(Instr.sliceBounds true n0 (cap-zy) (lo.map a.eval) (hi.map a.eval) none).run P w=.ok (i,j,cap-zy) w/\i<=j/\j<=cap-zy:=by
      unfold Vr at hb;split at hb
      .obtain⟨hr,h1,h2⟩:=rG (P:=P) (cap:=cap-zy) h (show n0<=cap-zy from abn) hb hp true;exact⟨hr,h1,abn⟩
      .next hh=>obtain⟨hr,h1,h2⟩:=rG (P:=P) (cap:=cap-zy) h (show l.length-zy<=cap-zy from abn) hb hp true;exact⟨hr,h1,abn⟩
     obtain⟨hr,h1,h2⟩:=key;refine .same h (u:=.slice (if cap-zy=i then some ⟨g,p0,none⟩else(some (⟨g,p0,none⟩:Addr)).map (·.add (i*r.len))) (j-i) (cap-zy-i)) ?_ ?_
     .rw[hv];simp[Instr.sliceAt,Instr.slice,avQ,avY hu.1 w,hr,(hΘ f te he).run_sizeOf,hsz]
     .refine⟨g,m,cap,e,r,l,fr,ho,hγ,?_⟩;split
      .next hc0=>exact⟨p0,.inr abn,by rw[show cap-(zy+i)=cap-zy-i from abn],abn⟩
      .next hc0=>
       refine⟨p0+i*r.len,?_,by rw[show cap-(zy+i)=cap-zy-i from abn];simp[Addr.add],abn⟩;rcases hp0 with e1|e1
       .left;rw[e1,av8]
       .omega
    .cases hc
   .cases hc
  .cases hc
 .cases hc
theorem agr(hΘ:∀t ti,Θ t=some ti->lM P t ti)(h:Rel w0 M T γ st a w){d:Nat}{t:TypeId}{x lo hi mx:Operand}{p:Prop}{v:AV}{δ:List (Nat×aB)}
 (hc:calm Θ Γ d st (.slice t x (some lo) (some hi) (some mx))=some (p,v,δ)) (hp:p):Yields P w0 M T st a w (Instr.sliceAt t (a.eval x) (some (a.eval lo)) (some (a.eval hi)) (some (a.eval mx))) v δ:=by
 simp only[calm]at hc;split at hc
 .next ti o ht hev=>
  split at hc
  .next f e r l fr hk ho=>
   split at hc
   .next te n1 n2 n3 he h1 h2 h3=>
    cases hc;obtain⟨q1,q2,q3,q4⟩:=hp;obtain⟨k1,e1,_⟩:=uw h h1;obtain⟨k2,e2,_⟩:=uw h h2;obtain⟨k3,e3,_⟩:=uw h h3;have hu:=(hΘ t ti ht).und;rw[hk]at hu;have hx:=oz h hev;obtain⟨ad,cp,hv,hlc⟩:∃ad cp,a.eval x=.slice ad l.length cp/\l.length<=cp:=by
     obtain⟨_,hv,_⟩:=hx;obtain⟨xs,⟨_,g2⟩,_⟩:=h.ah o _ ho;rcases g2 with⟨g3,g4⟩|⟨g,cap,cur,g3,_,_,g4,g5,_⟩
     .exact⟨none,0,by rw[hv,g4];exact g3,abn⟩
     .exact⟨_,cap,hv.trans g3,g4⟩
    refine .same h (u:=.slice (if n3.toNat=n1.toNat then ad else ad.map (·.add (n1.toNat*te.cells.len))) (n2.toNat-n1.toNat) (n3.toNat-n1.toNat)) ?_ trivial;rw[hv,e1,e2,e3];have b3:=run_sliceBound (P:=P) (w:=w) (k:=k3) (n:=n3) (y:=cp) (c:=.slice3Acap) abn abn;have b2:=run_sliceBound (P:=P) (w:=w) (k:=k2) (n:=n2) (y:=n3.toNat) (c:=.slice3B) abn abn;have b1:=run_sliceBound (P:=P) (w:=w) (k:=k1) (n:=n1) (y:=n2.toNat) (c:=.slice3C) abn abn;simp[Instr.sliceAt,Instr.slice,Instr.sliceBounds,avQ,avY hu.1 w,b3,b2,b1,(hΘ f te he).run_sizeOf]
   .cases hc
  .cases hc
 .cases hc
theorem adV(h:Rel w0 M T γ st a w){d:Nat}{x:Operand}{ix:Nat}{p:Prop}{v:AV}{δ:List (Nat×aB)}
 (hc:calm Θ Γ d st (.extract x ix)=some (p,v,δ)):Yields P w0 M T st a w (Instr.extract (a.eval x) ix) v δ:=by
 have hx:=jc h x;simp only[calm]at hc;split at hc
 .next vs hev=>
  split at hc
  .next s hs=>
   cases hc;rw[hev]at hx;obtain⟨us,hv,hr⟩:=hx;have get:∀(xs:List SV)(ys:List Value)(i:Nat)(s:SV),dN (aj w0 T γ st w) xs ys->xs[i]? =some s->∃u,ys[i]? =some u/\dM (aj w0 T γ st w) s u:=by
    intro xs
    induction xs with
    |nil=>intro ys i s _ h;simp at h
    |cons x xs ih=>
     intro ys i s hr hi;cases ys with
     |nil=>cases hr
     |cons y ys=>
      cases i with
      |zero=>simp at hi;subst hi;exact⟨y,rfl,hr.1⟩
      |succ i=>obtain⟨u,hu,hR⟩:=ih ys i s hr.2 ail;exact⟨u,apn,hR⟩
   obtain⟨u,hu,hR⟩:=get vs us.toList ix s hr hs;refine .same h (u:=u) ?_ hR;have hu':us[ix]? =some u:=apn;rw[hv];simp[Instr.extract,hu']
  .cases hc
 .cases hc
theorem ajw(h:Rel w0 M T γ st a w){d:Nat}{op:UnOp}{t:TypeId}{x:Operand}{p:Prop}{v:AV}{δ:List (Nat×aB)}
 (hc:calm Θ Γ d st (.unOp op t x)=some (p,v,δ)):Yields P w0 M T st a w (Op.unary op (a.eval x)) v δ:=by
 simp only[calm]at hc;split at hc
 .next b hev=>cases hc;rw[akb h hev];exact .same h (u:=.bool (!b)) rfl rfl
 .next k n hev=>cases hc;obtain⟨hv,_⟩:=Po h hev;rw[hv];exact .same h (u:=.int k (k.wrap (0-n))) rfl ⟨rfl,FX _ _⟩
 .cases hc
theorem ala(hΘ:∀t ti,Θ t=some ti->lM P t ti)(h:Rel w0 M T γ st a w){d:Nat}{args:Array Operand}{pV:Array TypeId}{ty:TypeId}{p:Prop}{v:AV}{δ:List (Nat×aB)}
 (hc:calm Θ Γ d st (.call {callee:=.builtin .len,args,argTypes:=pV})=some (p,v,δ)):Yields P w0 M T st a w (Builtin.len_ pV ty (args.map a.eval)) v δ:=by
 simp only[calm]at hc;split at hc
 .next x t hargs KZ=>
  have ha:args.map a.eval=#[a.eval x]:=apo;have ht':pV=#[t]:=asF;rw[ha,ht'];split at hc
  .next ti c ht hev=>
   have hx:=oz h hev;split at hc
   .next s hk=>cases hc;obtain⟨hv,hl⟩:=hx;rw[hv];refine .same h (ajt hΘ ht hk _ ty) ?_;rw[size_bytes];exact⟨rfl,XM _ hl⟩
   .next e e' r l fr hk=>cases hc;obtain⟨ad,cp,hv,hl⟩:=ahl hx;rw[hv];exact .same h (run_len_slice hΘ ht hk _ _ _ ty) ⟨rfl,XM _ hl⟩
   .next e hk=>cases hc;have hv:a.eval x=.slice none 0 0:=hx;rw[hv];exact .same h (run_len_slice hΘ ht hk _ _ _ ty) ⟨rfl,abA⟩
   .next e o hk=>
    split at hc
    .next e' r l fr ho=>cases hc;obtain⟨ad,cp,hv,hl⟩:=akc h hx ho;rw[hv];exact .same h (run_len_slice hΘ ht hk _ _ _ ty) ⟨rfl,XM _ hl⟩
    .cases hc
   .cases hc
  .next ti o lo n ht hev=>
   split at hc
   .next e hk=>cases hc;obtain⟨g,m,cap,e',r',l',fr',hx,hγ,⟨p0,hp0,hv,hle⟩⟩:=VD h hev;obtain⟨hcap,_⟩:=akd h hx hγ;rw[hv];exact .same h (run_len_slice hΘ ht hk _ _ _ ty) ⟨rfl,XM _ abn⟩
   .cases hc
  .cases hc
 .cases hc
theorem alb(h:Rel w0 M T γ st a w){d:Nat}{args:Array Operand}{pV:Array TypeId}{ty:TypeId}{p:Prop}{v:AV}{δ:List (Nat×aB)}
 (hc:calm Θ Γ d st (.call {callee:=.builtin .min,args,argTypes:=pV})=some (p,v,δ)):Yields P w0 M T st a w (Builtin.min_ pV ty (args.map a.eval)) v δ:=by
 simp only[calm]at hc;split at hc
 .next x y hargs=>
  have ha:args.map a.eval=#[a.eval x,a.eval y]:=apo;rw[ha];split at hc
  .next k n l m e1 e2=>
   split at hc
   .next hkl=>
    cases hc;have hkl:=awQ hkl;subst hkl;obtain⟨h1,h2⟩:=Po h e1;obtain⟨h3,h4⟩:=Po h e2;rw[h1,h3];refine .same h (u:=.int k (if m<n then m else n)) (by simp[Builtin.min_,Builtin.min2]) ⟨rfl,?_⟩;split
    .exact h4
    .exact h2
   .cases hc
  .cases hc
 .cases hc
theorem alc(h:Rel w0 M T γ st a w){d:Nat}{args:Array Operand}{pV:Array TypeId}{ty:TypeId}{p:Prop}{v:AV}{δ:List (Nat×aB)}
 (hc:calm Θ Γ d st (.call {callee:=.builtin .max,args,argTypes:=pV})=some (p,v,δ)):Yields P w0 M T st a w (Builtin.max_ pV ty (args.map a.eval)) v δ:=by
 simp only[calm]at hc;split at hc
 .next x y hargs=>
  have ha:args.map a.eval=#[a.eval x,a.eval y]:=apo;rw[ha];split at hc
  .next k n l m e1 e2=>
   split at hc
   .next hkl=>
    cases hc;have hkl:=awQ hkl;subst hkl;obtain⟨h1,h2⟩:=Po h e1;obtain⟨h3,h4⟩:=Po h e2;rw[h1,h3];refine .same h (u:=.int k (if m>n then m else n)) (by simp[Builtin.max_,Builtin.max2]) ⟨rfl,?_⟩;split
    .exact h4
    .exact h2
   .cases hc
  .cases hc
 .cases hc
structure EnvB(P:Program)(G:jX)(Θ:jr)(Γ:kR):Prop where
 types:∀t ti,Θ t=some ti->lM P t ti
 cons:∀f con,Γ f=some (.pure con)->fJ P G f con/\jd P f
 ag1:∀f ms con,Γ f=some (.eff ms con)->jq P G f con/\jd P f
structure rD(P:Program)(G:jX)(Θ:jr)(Γ:kR)(w0:World)(M:Nat->Prop):Prop extends EnvB P G Θ Γ where
 ok:G.ok w0
 low:∀b,M b->G.n<=b
theorem rD.at{G:jX}(hE:rD P G Θ Γ w0 M)(h:Rel w0 M T γ st a w):G.ok w:=
 G.stable w0 w hE.ok h.grow λb hb=>h.kept b (avT hb (G.low w0 hE.ok)) λhm=>by have:=hE.low b hm;omega
theorem Nv{o:Oper}{x:Operand}{f:FuncId}{us:Array Value}{args:Array Operand}{pV:Array TypeId}(ho:o.op=.call {callee:=.value x,args,argTypes:=pV})(hx:a.eval x=.func (.func f) #[] us)(hcall:jd P f):
 (execOp a.eval o).run P w=.ok (.enter f (args.map a.eval++us)) w:=by
 have e1:(execOp a.eval o)=(do let d ← resolve a.eval {callee:=.value x,args,argTypes:=pV} o.type;invoke d.target d.args):=by unfold execOp;rw[ho]
 rw[e1];simp only[resolve,hx,Deferred.ofValue,avQ,awx,awl,invoke];rw[show(#[]++Array.map a.eval args:Array Value)++us=args.map a.eval++us from acA];exact hcall _ _
theorem ald{G:jX}(hE:rD P G Θ Γ w0 M)(h:Rel w0 M T γ st a w)(o:Oper){d:Nat}{p:Prop}{v:AV}{δ:List (Nat×aB)}{x:Operand}{args:Array Operand}{pV:Array TypeId}
 (hop:o.op=.call {callee:=.value x,args,argTypes:=pV})
 (hc:calm Θ Γ d st (.call {callee:=.value x,args,argTypes:=pV})=some (p,v,δ)) (hp:p) (hf:jJ st δ=true) {next:Act->World->Prop} {Q:Exit->Act->World->Prop}
 (hn:∀u γ' w',Rel w0 M T γ' (st.adds δ) a w'->aT (aj w0 T γ' (st.adds δ) w') v u->next (a.put o.dst u) w'):o.wp P a w next Q:=by
 simp only[calm]at hc;split at hc
 .next f caps hx=>
  split at hc
  .next con vs hcon hargs=>
   split at hc
   .next q out hq=>
    split at hc
    .next hm=>
     cases hc;obtain⟨hok,hcall⟩:=hE.cons f con hcon;rw[awC]at hm;have hv:=jc h x;rw[hx]at hv;obtain⟨us,hvx,hkx⟩:=hv;unfold Oper.wp;rw[Nv hop hvx hcall,ayk];have hk:(d*64+1)%64=1:=abn;rcases hm with hm|hm
     .have hrep:=F5 h (γ0:=λ_=>undef) (S:=λ_=>True) (λ_ _=>trivial) (λ_ _ _ _ _ _ _ _=>trivial) _ _ vs hargs (F6 h hkx args.toList);rw[← axA,← axC]at hrep;refine(hok vs _ out (d*64+1) (λ_=>True) (args.map a.eval++us) w hq hp (hE.at h) hrep).mono ?_;rintro e w' ⟨u,vals,rfl,h1,h2,h3,h4,h5,h6,h7,h8⟩;obtain⟨γ',g1,g2⟩:=h.called hk hf h1 h2 h3 h4 h5 (.inl hm) h6 h7 h8;exact hn u γ' w' g1 g2
     .have hm0:vV (handed st args.toList caps)=[]:=by
       unfold FU at hm;split at hm
       .next h0=>exact h0
       .cases hm
      have hrep:=AA h (γ0:=λ_=>undef) _ _ vs hargs hm0 (F6 h hkx args.toList);rw[← axA,← axC]at hrep;refine(hok vs _ out (d*64+1) (aj w0 T γ st w).foot (args.map a.eval++us) w hq hp (hE.at h) hrep).mono ?_;rintro e w' ⟨u,vals,rfl,h1,h2,h3,h4,h5,h6,h7,h8⟩;obtain⟨γ',g1,g2⟩:=h.called hk hf h1 h2 h3 h4 h5 (.inr rfl) h6 h7 h8;exact hn u γ' w' g1 g2
    .cases hc
   .cases hc
  .cases hc
 .cases hc
theorem yT{o:Oper}{b:Builtin}{args:Array Operand}{pV:Array TypeId}(ho:o.op=.call {callee:=.builtin b,args,argTypes:=pV}):
 execOp a.eval o=builtin b pV o.type (args.map λ|.const _=>true|_=>false) (args.map a.eval):=by
 unfold execOp;rw[ho];rfl
theorem abv(h:Rel w0 M T γ st a w):∀(xs:List Operand)(l:List (List Cell)),heldBy st xs=some l->fA (aj w0 T γ st w) l (xs.map a.eval)
 |[],l,hl=>by cases hl;trivial
 |x::xs,l,hl=>by
  rw[heldBy]at hl;split at hl
  .next cs off l' hx hl'=>
   split at hl
   .next h0=>cases hl;have h0:=avs h0;subst h0;have hv:=jc h x;rw[hx]at hv;exact⟨hv,abv h xs l' hl'⟩
   .cases hl
  .cases hl
theorem JM{G:jX}(hE:rD P G Θ Γ w0 M)(h:Rel w0 M T γ st a w)(o:Oper){d:Nat}{p:Prop}{v:AV}{δ:List (Nat×aB)}
 (hc:calm Θ Γ d st o.op=some (p,v,δ)) (hp:p) (hf:jJ st δ=true) {next:Act->World->Prop} {Q:Exit->Act->World->Prop}
 (hn:∀u γ' w',Rel w0 M T γ' (st.adds δ) a w'->aT (aj w0 T γ' (st.adds δ) w') v u->next (a.put o.dst u) w'):o.wp P a w next Q:=by
 have fin:∀{s:Sem Value},(execOp a.eval o)=(do pure (Next.value (← s)))->Yields P w0 M T st a w s v δ->o.wp P a w next Q:=by intro s he ⟨u,w',γ',hr,hR,hv⟩;exact Oper.mD (by rw[he];exact Pv hr) (hn u γ' w' hR hv)
 cases hop:o.op<;>rw[hop]at hc<;>try (simp only[calm,reduceCtorEq]at hc;done)
 case move x=>simp only[calm]at hc;cases hc;exact Oper.mD (u:=a.eval x) (w':=w) agl (hn _ γ w h (jc h x))
 case assign x=>simp only[calm]at hc;cases hc;exact Oper.mD (u:=a.eval x) (w':=w) agl (hn _ γ w h (jc h x))
 case pick c x y=>
  simp only[calm]at hc;split at hc
  .next g hg=>
   cases hc;refine Oper.mD (u:=if g then a.eval x else a.eval y) (w':=w) (by simp[execOp,hop,akb h hg,asBool]) (hn _ γ w h ?_);cases g
   .exact jc h y
   .exact jc h x
  .cases hc
 case nilCheck x=>
  have hx:=jc h x;simp only[calm]at hc;split at hc
  .next o' off hev=>cases hc;rw[hev]at hx;obtain⟨b,cs,ho,hγ,hv⟩:=hx;exact Oper.mD (u:=a.eval x) (w':=w) aqX (hn _ γ w h ⟨b,cs,ho,hγ,hv⟩)
  .next o' i off hev=>cases hc;rw[hev]at hx;obtain⟨b,n,cap,e,r,l,fr,ho,hγ,hv⟩:=hx;exact Oper.mD (u:=a.eval x) (w':=w) aqX (hn _ γ w h ⟨b,n,cap,e,r,l,fr,ho,hγ,hv⟩)
  .next r y off fr hev=>cases hc;rw[hev]at hx;obtain⟨b,base,cs,ty,fz,hv,hrest⟩:=hx;exact Oper.mD (u:=a.eval x) (w':=w) aqX (hn _ γ w h ⟨b,base,cs,ty,fz,hv,hrest⟩)
  .next cs off hev=>cases hc;rw[hev]at hx;obtain⟨b,hv,hrest⟩:=hx;exact Oper.mD (u:=a.eval x) (w':=w) aqX (hn _ γ w h ⟨b,hv,hrest⟩)
  .next f caps hev=>cases hc;rw[hev]at hx;obtain⟨us,hv,hrest⟩:=hx;exact Oper.mD (u:=a.eval x) (w':=w) aqX (hn _ γ w h ⟨us,hv,hrest⟩)
  .cases hc
 case makeFunc fn first captured=>
  cases fn<;>try (simp only[calm,reduceCtorEq]at hc;done)
  case func f=>
   simp only[calm]at hc;split at hc
   .next l hfirst hl=>
    cases hc;have hf0:first=#[]:=by cases first;simp at hfirst;rw[hfirst]
    subst hf0;refine Oper.mD (u:=.func (.func f) #[] (captured.map a.eval)) (w':=w) (by simp[execOp,hop,Instr.makeFunc]) (hn _ γ w h ⟨captured.map a.eval,rfl,?_⟩);rw[axA];exact abv h _ _ hl
   .cases hc
 case alloc t=>exact fin (s:=Instr.alloc t true (.tuple #[])) agl (ahu hE.types h hc hf)
 case box t x=>exact fin (s:=Instr.box t (a.eval x)) agl (ak8 h hc hf)
 case build t parts=>exact fin (s:=Instr.build t (parts.map λx=>(x.1,a.eval x.2))) (by unfold execOp;rw[hop]) (aht hE.types h hc)
 case buildSlice t len parts=>have hy:=Yg hE.types h hc hf;refine fin ?_ hy;unfold execOp;rw[hop]
 case makeSlice t x y=>exact fin (s:=Instr.makeSlice t (a.eval x) (a.eval y)) agl (ZV hE.types h hc hp hf)
 case load t x=>exact fin (s:=Instr.loadAt t (a.eval x)) agl (ajv hE.types h hc hp)
 case fieldAddr s x f=>exact fin (s:=Instr.fieldAt s (a.eval x) f) agl (ZT hE.types h hc)
 case field s x f=>exact fin (s:=Instr.field s (a.eval x) f) agl (ahr hE.types h hc)
 case indexAddr t x ix=>exact fin (s:=Instr.indexAt t (a.eval x) (a.eval ix)) agl (ZU hE.types h hc hp)
 case index t x ix=>exact fin (s:=Instr.index t (a.eval x) (a.eval ix)) agl (ahq hE.types h hc hp)
 case binOp op t x y t'=>exact fin (s:=do eqGuard op t x y (a.eval x) (a.eval y);binOp op t (a.eval x) (a.eval y)) agl (ahw hE.types h hc hp)
 case unOp op t x=>exact fin (s:=Op.unary op (a.eval x)) agl (ajw h hc)
 case convert s t x=>exact fin (s:=convert s t (a.eval x)) agl (adU hE.types h hc)
 case extract x i=>exact fin (s:=Instr.extract (a.eval x) i) agl (adV h hc)
 case slice t x lo hi mx=>
  cases mx with
  |some m=>
   cases lo with
   |none=>simp only[calm,reduceCtorEq]at hc
   |some lo=>
    cases hi with
    |none=>simp only[calm,reduceCtorEq]at hc
    |some hi=>exact fin (s:=Instr.sliceAt t (a.eval x) (some (a.eval lo)) (some (a.eval hi)) (some (a.eval m))) agl (agr hE.types h hc hp)
  |none=>exact fin (s:=Instr.sliceAt t (a.eval x) (lo.map a.eval) (hi.map a.eval) none) agl (ahx hE.types h hc hp)
 case call c=>
  obtain⟨callee,args,pV⟩:=c;cases callee with
  |invoke r m=>simp only[calm,reduceCtorEq]at hc
  |builtin b=>
   cases b<;>try (simp only[calm,reduceCtorEq]at hc;done)
   case len=>exact fin (s:=Builtin.len_ pV o.type (args.map a.eval)) (by rw[yT hop];rfl) (ala hE.types h hc)
   case min=>exact fin (s:=Builtin.min_ pV o.type (args.map a.eval)) (by rw[yT hop];rfl) (alb h hc)
   case max=>exact fin (s:=Builtin.max_ pV o.type (args.map a.eval)) (by rw[yT hop];rfl) (alc h hc)
  |value x=>exact ald hE h o hop hc hp hf hn
def sameKind:aB->aB->Prop
 |.var _,.var _=>True
 |.arr e r _ _,.arr f s _ _=>e=f/\r=s
 |_,_=>False
theorem Hy(w:World)(g:Nat)(cs:Array Value){b:Nat}(h:b≠g):(w.setRow g cs).heap[b]? =w.heap[b]? :=by simp only[World.setRow,ayd];rw[if_neg (axl h)]
theorem Rel.write(h:Rel w0 M T γ st a w){o b:Nat}{x x':aB}(ho:st.ah o=some x)(hb:blk (γ o)=some b)(hk:sameKind x x')(arr:Array Value)
 (hx:(aj w0 T γ st w).le ⟨w.setRow b arr,w0.heap.size,T,γ,(st.add o x').ah⟩->bn ⟨w.setRow b arr,w0.heap.size,T,γ,(st.add o x').ah⟩ o x'):
 Rel w0 M T γ (st.add o x') a (w.setRow b arr):=by
 have hother:∀p,p≠o->(st.add o x').ah p=st.ah p:=λp hp=>mQ st x' hp;have hsz:(w.setRow b arr).heap.size=w.heap.size:=by simp[World.setRow]
 have hsome:∀p y,(st.add o x').ah p=some y->∃z,st.ah p=some z:=by
  intro p y hp;by_cases e:p=o
  .rw[e];exact⟨x,ho⟩
  .rw[hother p e]at hp;exact⟨y,hp⟩
 have le:(aj w0 T γ st w).le ⟨w.setRow b arr,w0.heap.size,T,γ,(st.add o x').ah⟩:=by
  refine⟨avt _,λc hc=>⟨⟨?_,hc.2.1,λp y hp=>?_⟩,?_⟩,λp cs hp=>⟨?_,rfl⟩,λp e r l fr hp=>⟨?_,rfl⟩⟩
  .show c<(w.setRow b arr).heap.size;rw[hsz];exact hc.1
  .obtain⟨z,hz⟩:=hsome p y hp;exact hc.2.2 p z hz
  .refine Hy w b arr (λe=>?_);exact hc.2.2 o x ho (by rw[e];exact hb)
  .by_cases e:p=o
   .subst e;have hp':st.ah p=some (.var cs):=hp;rw[ho]at hp';cases hp';show∃cs',(st.add p x').ah p=some (.var cs');rw[add_same];cases x' with
    |var cs'=>exact⟨cs',rfl⟩
    |arr _ _ _ _=>exact hk.elim
   .exact⟨cs,(hother p e).trans hp⟩
  .by_cases e2:p=o
   .subst e2;have hp':st.ah p=some (.arr e r l fr):=hp;rw[ho]at hp';cases hp';show∃l' fr',(st.add p x').ah p=some (.arr e r l' fr');rw[add_same];cases x' with
    |var cs'=>exact hk.elim
    |arr e' r' l' fr'=>obtain⟨h1,h2⟩:=hk;subst h1 h2;exact⟨l',fr',rfl⟩
   .exact⟨l,fr,(hother p e2).trans hp⟩
 refine⟨h.mT,h.defers,h.size,h.os,h.tape,h.output,by rw[hsz];exact h.grow,λc hc hM=>?_,λt=>aT.mono le _ _ (h.tmps t),λp y hp=>?_,λp y c hp hc=>?_,λp y q z c hp hq hpq hc=>?_,λp v cs hN hp=>?_⟩
 .rw[Hy w b arr (λe=>?_)]
  .exact h.kept c hc hM
  .rcases(h.lt o x b ho hb).2 with h1|h1
   .omega
   .exact hM (e▸h1)
 .by_cases e:p=o
  .subst e;rw[add_same]at hp;cases hp;exact hx le
  .rw[hother p e]at hp;refine bn.mono le p y (λc hc=>Hy w b arr (λe2=>?_)) rfl (h.ah p y hp);exact h.sep p y o x c hp ho e hc (by rw[e2];exact hb)
 .obtain⟨z,hz⟩:=hsome p y hp;rw[hsz];exact h.lt p z c hz hc
 .obtain⟨y',hy'⟩:=hsome p y hp;obtain⟨z',hz'⟩:=hsome q z hq;exact h.sep p y' q z' c hy' hz' hpq hc
 .by_cases e:p=o
  .subst e;rw[add_same]at hp;cases hp;cases x with
   |var cs'=>exact h.pin p v cs' hN ho
   |arr _ _ _ _=>exact hk.elim
  .rw[hother p e]at hp;exact h.pin p v cs hN hp
theorem run_store{t:TypeId}{ti:TI}(hT:lM P t ti){b off:Nat}{cur:Array Value}{e:TypeId}(hb:w.heap[b]? =some (.cells cur e (0,0))){v:Value}(hsz:v.cells.size=ti.cells.len)
 (hle:off+v.cells.size<=cur.size) (h1:∀u∈v.cells.toList,u.oneCell'=true):
 (Instr.storeAt t (.pointer (some ⟨b,off,none⟩)) v).run P w=.ok () (w.setRow b (cur.toList.take off++v.cells.toList++cur.toList.drop (off+v.cells.toList.length)).toArray):=by
 have hst:=run_storeCells_at P b off e v.cells.toList 0 cur w hb (by rw[awd];omega) h1;simp only[aw0]at hst;simp only[Instr.storeAt,Instr.sureAddr,avQ,awx,awl,storeVar,hT.run_sizeOf];rw[if_neg abn];exact hst
theorem VE{g:Nat}{cur cs:Array Value}{e:TypeId}(h:w.heap[g]? =some (.cells cur e (0,0))):(w.setRow g cs).heap[g]? =some (.cells cs e (0,0)):=setRow_heap w g cur cs e (0,0) h
theorem adW(cur vs:List Value)(o k:Nat)(h:o+vs.length<=cur.length):
 (cur.take o++vs++cur.drop (o+vs.length))[k]? =if k<o then cur[k]? else if k<o+vs.length then vs[k-o]? else cur[k]? :=by
 have ht:(cur.take o).length=o:=aiO;by_cases h1:k<o
 .rw[if_pos h1,avE,awe abn,av4,if_pos h1]
 .rw[if_neg h1];by_cases h2:k<o+vs.length
  .rw[if_pos h2,avE,av1 abn,ht,awe abn]
  .rw[if_neg h2,av1 asV,avn,ht,av5];congr 1;omega
theorem ahy(fr:Bool):∀(r:ax)(x:r.den),(ax.row fr r x).flatMap Cell.refs=[]
 |.nil,_=>rfl
 |.cons c r,x=>by rw[ax.row,awG,ahy fr r x.2,avU];cases c<;>rfl
theorem afm:∀(r:ax)(x:r.den),(ax.row true r x).all (Cell.fresh st)=true
 |.nil,_=>rfl
 |.cons c r,x=>by rw[ax.row,awH,afm r x.2,axE];cases c<;>rfl
theorem afn(hΘ:∀t ti,Θ t=some ti->lM P t ti)(h:Rel w0 M T γ st a w){t:TypeId}{ti:TI}(ht:Θ t=some ti){p:AV}{v:SV}{pv vv:Value}{q:Prop}{s:St}
 (hs:store st p v=some (q,s)) (hq:q) (hp:aT (aj w0 T γ st w) p pv) (hv:dM (aj w0 T γ st w) v vv) (hlen:v.cells.length=ti.cells.len):
 ∃w',(Instr.storeAt t pv vv).run P w=.ok () w'/\Rel w0 M T γ s a w':=by
 have hcells:=dM.cells v vv hv;have hvl:=ai.length _ _ hcells;rw[awd]at hvl;have JO:=ai.ones _ _ hcells;unfold store at hs;split at hs
 .next o off=>
  split at hs
  .next cs ho=>
   split at hs
   .next Rf=>
    cases hs;have hle:=awy Rf;obtain⟨b,cs',_,hγ,hpv⟩:=hp;obtain⟨b',arr,ty,Px,hb,hr⟩:=h.ah o _ ho;have Uh:γ o=.pointer (some ⟨b,0,none⟩):=hγ;have mP:γ o=.pointer (some ⟨b',0,none⟩):=Px;have hbb:b'=b:=by rw[Uh]at mP;simpa using mP.symm
    subst hbb;have hal:=ai.length _ _ hr;rw[awd]at hal;rw[hpv];refine⟨_,run_store (hΘ t ti ht) hb abn abn JO,?_⟩;refine h.write (x':=.var (splice cs off v.cells)) ho (by rw[Uh];rfl) trivial _ (λle=>⟨b',_,ty,Uh,VE hb,?_⟩);rw[axS];exact ai.mono le _ _ (Q9 off hr hcells)
   .cases hs
  .cases hs
 .next o i off=>
  split at hs
  .next e r l fr hrefs ho=>
   split at hs
   .next x hx Rf=>
    cases hs;have hle:=awy Rf;obtain⟨b,n,cap,e2,r2,l2,fr2,ho2,hγ,hpv⟩:=hp;have ahk:st.ah o=some (.arr e2 r2 l2 fr2):=ho2;rw[ho]at ahk;cases ahk;obtain⟨xs,⟨h1,h2⟩,hpos,hfr,hrow⟩:=h.ah o _ ho;have Uh:γ o=.slice (some ⟨b,0,none⟩) n cap:=hγ;rcases h2 with⟨hnil,_⟩|⟨g,cap',cur,hg,_,hh,hlc,hmax,hsz,htake⟩
    .have mP:γ o=.slice none 0 0:=hnil;rw[Uh]at mP;cases mP
    .have mP:γ o=.slice (some ⟨g,0,none⟩) l.length cap':=hg;rw[Uh]at mP;simp at mP;obtain⟨rfl,hn,hcap⟩:=mP;have hmul:i*r.len+r.len<=l.length*r.len:=by have:(i+1)*r.len<=l.length*r.len:=avO _ hq;rw[av8]at this;simpa using this
     have arD:l.length*r.len<=cap'*r.len:=avO _ hlc;rw[hpv];refine⟨_,run_store (hΘ t ti ht) hh abn abn JO,?_⟩;have hli:l[i]? =some (l.getD i r.dflt):=by rw[avr,avv hq];rfl
     have hRi:=hrow i _ hli;have hrc:=XL (aj w0 T γ st w) fr r _ _ hRi;have anX:=Q9 off hrc hcells;have hrl:=aJ.length _ _ _ hRi;refine h.write (x':=.arr e r (l.set i x) (fr&&v.cells.all (Cell.fresh st))) ho (by rw[Uh];rfl) ⟨rfl,rfl⟩ _ (λle=>?_)
     let new:List Value:=cur.toList.take (i*r.len+off)++vv.cells.toList++cur.toList.drop (i*r.len+off+vv.cells.toList.length)
     have hnl:new.length=cur.size:=by have e1:cur.toList.length=cur.size:=awd;have e2:vv.cells.toList.length=vv.cells.size:=awd;simp only[new,avn,avz,avW];omega
     refine⟨new.take (l.length*r.len),⟨?_,.inr ⟨b,cap,new.toArray,?_,avM _,VE hh,?_,?_,?_,?_⟩⟩,hpos,?_,?_⟩
     .rw[avz,hnl,avZ];omega
     .rw[avZ];show γ o=_;rw[Uh,hn]
     .rw[avZ];omega
     .omega
     .rw[aw4,hnl,hsz,hcap]
     .rw[avZ,axS]
     .intro c hc hf;simp only[avo]at hf;exact hfr c hc hf.1
     .have e1:cur.toList.length=cur.size:=awd;have e2:vv.cells.toList.length=vv.cells.size:=awd;have hnew:∀k,new[k]? =if k<i*r.len+off then cur.toList[k]? else if k<i*r.len+off+vv.cells.toList.length then vv.cells.toList[k-(i*r.len+off)]? else cur.toList[k]? :=λk=>adW _ _ _ k abn
      intro i' x' hi';have hlt:i'<l.length:=by have:=(avG.1 hi').1;rw[avZ]at this;exact this
      have apd:i'*r.len+r.len<=l.length*r.len:=by have:(i'+1)*r.len<=l.length*r.len:=avO _ hlt;rw[av8]at this;simpa using this
      show aJ (w.setRow b new.toArray).heap (V.cu ⟨w.setRow b new.toArray,w0.heap.size,T,γ,_⟩ (fr&&v.cells.all (Cell.fresh st))) r (((new.take (l.length*r.len)).drop (i'*r.len)).take r.len) x';rw[gZ _ _ _ _ apd];by_cases hii:i'=i
      .subst hii;have hxx:x'=x:=by rw[awM hlt]at hi';exact(Option.some.inj hi').symm
       subst hxx;have hrows:(new.drop (i'*r.len)).take r.len=((xs.drop (i'*r.len)).take r.len).take off++vv.cells.toList++((xs.drop (i'*r.len)).take r.len).drop (off+vv.cells.toList.length):=by
        rw[← htake,gZ _ _ _ _ hmul];apply axi;intro k;rw[adW _ _ _ k (by rw[avz,avW];omega)];rw[av4,av5,hnew];by_cases hk:k<r.len
        .rw[if_pos hk];simp only[av4,av5,if_pos hk];by_cases hk1:k<off
         .rw[if_pos abn,if_pos hk1]
         .rw[if_neg abn,if_neg hk1];by_cases hk2:k<off+vv.cells.toList.length
          .rw[if_pos abn,if_pos hk2];congr 1;omega
          .rw[if_neg abn,if_neg hk2]
        .rw[if_neg hk,if_neg abn,if_neg abn,av4,if_neg hk]
       rw[hrows];refine aJ.mono (λc hc=>le.cu _ c hc) r _ x' (KX h (fr&&v.cells.all (Cell.fresh st)) r _ _ x' anX hx ?_ ?_)
       .unfold splice;rw[List.flatMap_append,List.flatMap_append,hrefs];have hr0:=ahy fr r (l.getD i' r.dflt);have hsub:∀(cs:List Cell),(∀c∈cs,c∈ax.row fr r (l.getD i' r.dflt))->cs.flatMap Cell.refs=[]:=by intro cs hcs;rw[ax6]at hr0 ⊢;exactλc hc=>hr0 c (hcs c hc)
        rw[hsub _ (λc hc=>aw2 hc),hsub _ (λc hc=>awU hc)];rfl
       .intro hf;simp only[avo]at hf;obtain⟨hf1,hf2⟩:=hf;subst hf1;have hr0:=afm (st:=st) r (l.getD i' r.dflt);rw[avL]at hr0 hf2 ⊢;intro c hc;unfold splice at hc;rcases avR.1 hc with hc|hc
        .rcases avR.1 hc with hc|hc
         .exact hr0 c (aw2 hc)
         .exact hf2 c hc
        .exact hr0 c (awU hc)
      .have hx2:l[i']? =some x':=by rw[awq (axl hii)]at hi';exact hi'
       have hR2:=hrow i' x' hx2;rw[← htake,gZ _ _ _ _ apd]at hR2;have hrows:(new.drop (i'*r.len)).take r.len=(cur.toList.drop (i'*r.len)).take r.len:=by
        apply axi;intro k;rw[av4,av4,av5,av5,hnew];by_cases hk:k<r.len
        .rw[if_pos hk,if_pos hk];rcases Nat.lt_or_gt_of_ne hii with hlt2|hlt2
         .have:(i'+1)*r.len<=i*r.len:=avO _ hlt2;rw[av8]at this;rw[if_pos abn]
         .have:(i+1)*r.len<=i'*r.len:=avO _ hlt2;rw[av8]at this;rw[if_neg abn,if_neg abn]
        .rw[if_neg hk,if_neg hk]
       rw[hrows];refine aJ.mono (λc hc=>?_) r _ x' hR2;have hc':(aj w0 T γ st w).cu (fr&&v.cells.all (Cell.fresh st)) c:=⟨hc.1,λe=>hc.2 (by simp only[avo]at e;exact e.1)⟩;exact le.cu _ c hc'
   .cases hs
  .cases hs
 .cases hs
structure V.nO(S:Nat->Bool)(X Y:V):Prop where
 n0:Y.n0<=X.n0
 foot:∀b,X.foot b->Y.foot b/\Y.w.heap[b]? =X.w.heap[b]?
 var:∀o cs,S o=false->X.ah o=some (.var cs)->(∃cs',Y.ah o=some (.var cs'))/\Y.γ o=X.γ o
 arr:∀o e r l fr,S o=false->X.ah o=some (.arr e r l fr)->(∃l' fr',Y.ah o=some (.arr e r l' fr'))/\Y.γ o=X.γ o
theorem V.nO.cu{S:Nat->Bool}{X Y:V}(h:X.nO S Y)(fr:Bool)(b:Nat)(hb:X.cu fr b):Y.cu fr b/\Y.w.heap[b]? =X.w.heap[b]? :=
 ⟨⟨(h.foot b hb.1).1,λe=>avx h.n0 (hb.2 e)⟩,(h.foot b hb.1).2⟩
variable {S:Nat->Bool}
theorem aS.nO{X Y:V}(h:X.nO S Y):∀(c:Cell)(v:Value),aS X c v->aS Y (c.kill S) v
 |.int _ _,_,H|.bool _,_,H|.str _,_,H|.nil,_,H|.junk,_,H=>H
 |.sl e r l fr,v,H=>cZ.mono (λb hb=>h.cu fr b hb) (.sl e r) v l H
 |.ref o,v,⟨⟨e,r,l,fr,hx⟩,hv,h1⟩=>by
  simp only[Cell.kill];cases hS:S o with
  |true=>exact h1
  |false=>obtain⟨⟨l',fr',hy⟩,hγ⟩:=h.arr o e r l fr hS hx;exact⟨⟨e,r,l',fr',hy⟩,hv.trans hγ.symm,h1⟩
theorem ai.nO{X Y:V}(h:X.nO S Y):∀(cs:List Cell)(vs:List Value),ai X cs vs->ai Y (cs.map (Cell.kill S)) vs
 |[],[],H=>H
 |c::cs,v::vs,⟨h1,h2⟩=>⟨aS.nO h c v h1,ai.nO h cs vs h2⟩
 |[],_::_,H|_::_,[],H=>afM
theorem dM.nO{X Y:V}(h:X.nO S Y):∀(c:SV)(v:Value),dM X c v->dM Y (c.kill S) v
 |.one c,v,H=>aS.nO h c v H
 |.agg cs,_,⟨vs,hv,H⟩=>⟨vs,hv,ai.nO h cs _ H⟩
theorem dN.nO{X Y:V}(h:X.nO S Y):∀(cs:List SV)(vs:List Value),dN X cs vs->dN Y (cs.map (SV.kill S)) vs
 |[],[],H=>H
 |c::cs,v::vs,⟨h1,h2⟩=>⟨dM.nO h c v h1,dN.nO h cs vs h2⟩
 |[],_::_,H|_::_,[],H=>afM
theorem gY.nO{X Y:V}(h:X.nO S Y){cs:List Cell}{b:Nat}(H:gY X cs b):gY Y (cs.map (Cell.kill S)) b:=by obtain⟨arr,t,fz,hb,hh,hr⟩:=H;exact⟨arr,t,fz,(h.foot b hb).1,(h.foot b hb).2.trans hh,ai.nO h cs _ hr⟩
theorem fA.nO{X Y:V}(h:X.nO S Y):∀(l:List (List Cell))(us:List Value),fA X l us->fA Y (l.map (List.map (Cell.kill S))) us
 |[],[],H=>H
 |cs::l,u::us,⟨⟨b,hu,hk⟩,h2⟩=>⟨⟨b,hu,gY.nO h hk⟩,fA.nO h l us h2⟩
 |[],_::_,H|_::_,[],H=>afM
theorem aT.nO{X Y:V}(h:X.nO S Y):∀(c:AV)(v:Value),aT X c v->aT Y (c.kill S) v
 |.undef,_,_=>trivial
 |.sv x,v,H=>dM.nO h x v H
 |.mJ xs,_,⟨vs,hv,H⟩=>⟨vs,hv,dN.nO h xs _ H⟩
 |.bM o off,v,⟨b,cs,hx,hγ,hv⟩=>by
  simp only[AV.kill];cases hS:S o with
  |true=>trivial
  |false=>
   obtain⟨⟨cs',hy⟩,he⟩:=h.var o cs hS hx;exact⟨b,cs',hy,he.trans hγ,hv⟩
 |.nT o i off,v,⟨b,n,cap,e,r,l,fr,hx,hγ,hv⟩=>by
  simp only[AV.kill];cases hS:S o with
  |true=>trivial
  |false=>
   obtain⟨⟨l',fr',hy⟩,he⟩:=h.arr o e r l fr hS hx;exact⟨b,n,cap,e,r,l',fr',hy,he.trans hγ,hv⟩
 |.win o i off,v,⟨b,n,cap,e,r,l,fr,hx,hγ,hv⟩=>by
  simp only[AV.kill];cases hS:S o with
  |true=>trivial
  |false=>
   obtain⟨⟨l',fr',hy⟩,he⟩:=h.arr o e r l fr hS hx;exact⟨b,n,cap,e,r,l',fr',hy,he.trans hγ,hv⟩
 |.qg r x off fr,v,⟨b,base,cs,t,fz,hv,hf,hb,hr⟩=>
  ⟨b,base,cs,t,fz,hv,(h.cu fr b hf).1,(h.cu fr b hf).2.trans hb,aJ.mono (λb hb=>h.cu fr b hb) r _ x hr⟩
 |.fF cs off,v,⟨b,hv,hk⟩=>⟨b,hv,gY.nO h hk⟩
 |.fn f caps,v,⟨us,hv,hk⟩=>⟨us,hv,fA.nO h caps _ hk⟩
theorem bn.nO{X Y:V}(h:X.nO S Y)(o:Nat):∀(x:aB),(∀b,blk (X.γ o)=some b->Y.w.heap[b]? =X.w.heap[b]?)->Y.γ o=X.γ o->bn X o x->bn Y o (x.kill S)
 |.var cs,hb,hγ,⟨b,arr,t,e,hh,hr⟩=>⟨b,arr,t,hγ.trans e,(hb b (by rw[e];rfl)).trans hh,ai.nO h cs _ hr⟩
 |.arr e r l fr,hb,hγ,⟨xs,hown,hr,hf,hx⟩=>by
  refine⟨xs,?_,hr,λb hb' hfr=>avx h.n0 (hf b (hγ▸hb') hfr),λi x hi=>aJ.mono (λb hb=>h.cu fr b hb) r _ x (hx i x hi)⟩;obtain⟨h1,h2⟩:=hown;refine⟨h1,?_⟩;rcases h2 with h2|⟨g,cap,cur,hv,hg,hh,hrest⟩
  .exact .inl ⟨hγ.trans h2.1,h2.2⟩
  .exact .inr ⟨g,cap,cur,hγ.trans hv,hg,(hb g asZ).trans hh,hrest⟩
theorem apN(p o:Nat):Nat.beq o p=Nat.beq p o:=by
 by_cases h:p=o
 .subst h;rfl
 .rw[Aj h,Aj (axl h)]
theorem Rel.replace(h:Rel w0 M T γ st a w){o:Nat}{x':aB}{v':Value}(own:Option Nat)(hown:own=none\/∃x,st.ah o=some x/\own=blk (γ o))
 (hos:w'.os=w.os) (htape:w'.tape=w.tape) (hout:w'.output=w.output) (hsize:w.heap.size<=w'.heap.size) (hheap:∀b,b<w.heap.size->some b≠own->w'.heap[b]? =w.heap[b]?)
 (hblk:∀g,blk v'=some g->(some g=own\/w.heap.size<=g)/\g<w'.heap.size) (harr:∀cs,x'≠ .var cs)
 (hx:(aj w0 T γ st w).nO (Nat.beq o ·) ⟨w',w0.heap.size,T,upd γ o v',((st.kill (Nat.beq o ·)).add o x').ah⟩->bn ⟨w',w0.heap.size,T,upd γ o v',((st.kill (Nat.beq o ·)).add o x').ah⟩ o x'):
 Rel w0 M T (upd γ o v') ((st.kill (Nat.beq o ·)).add o x') a w'/\(aj w0 T γ st w).nO (Nat.beq o ·) ⟨w',w0.heap.size,T,upd γ o v',((st.kill (Nat.beq o ·)).add o x').ah⟩:=by
 have hoth:∀p y,p≠o->((st.kill (Nat.beq o ·)).add o x').ah p=some y->∃z,st.ah p=some z/\y=z.kill (Nat.beq o ·):=by intro p y hp hy;rw[mQ _ _ hp]at hy;obtain⟨z,hz,he,_⟩:=wR _ hy;exact⟨z,hz,he⟩
 have ape:∀p z,p≠o->st.ah p=some z->((st.kill (Nat.beq o ·)).add o x').ah p=some (z.kill (Nat.beq o ·)):=by intro p z hp hz;rw[mQ _ _ hp];exact ou _ (by rw[apN];exact Aj hp) hz
 have hno:∀b,(∀x,st.ah o=some x->blk (γ o)≠some b)->some b≠own:=by
  intro b hb e;rcases hown with h0|⟨x,hxo,h1⟩
  .rw[h0]at e;cases e
  .rw[h1]at e;exact hb x hxo e.symm
 have le:(aj w0 T γ st w).nO (Nat.beq o ·) ⟨w',w0.heap.size,T,upd γ o v',((st.kill (Nat.beq o ·)).add o x').ah⟩:=by
  refine⟨avt _,λb hb=>⟨⟨avT hb.1 hsize,hb.2.1,λp y hp=>?_⟩,hheap b hb.1 (hno b (λx hx=>hb.2.2 o x hx))⟩,λp cs hS hp=>?_,λp e r l fr hS hp=>?_⟩
  .show blk (upd γ o v' p)≠some b;by_cases e:p=o
   .rw[e,upd_same];intro e2;rcases(hblk b e2).1 with h1|h1
    .exact hno b (λx hx=>hb.2.2 o x hx) h1
    .have:b<w.heap.size:=hb.1;omega
   .rw[pU γ v' e];obtain⟨z,hz,_⟩:=hoth p y e hp;exact hb.2.2 p z hz
  .have hne:p≠o:=λe=>by rw[e,awi]at hS;cases hS
   exact⟨⟨_,ape p _ hne hp⟩,pU γ v' hne⟩
  .have hne:p≠o:=λe=>by rw[e,awi]at hS;cases hS
   exact⟨⟨l,fr,ape p _ hne hp⟩,pU γ v' hne⟩
 refine⟨⟨h.mT,h.defers,h.size,hos.trans h.os,htape.trans h.tape,hout.trans h.output,avx h.grow hsize,λb hb hM=>?_,λt=>aT.nO le _ _ (h.tmps t),λp y hp=>?_,λp y b hp hb=>?_,λp y q z b hp hq hpq hb=>?_,λp v cs hN hp=>?_⟩,le⟩
 .rw[hheap b (avT hb h.grow) (λe=>?_)]
  .exact h.kept b hb hM
  .rcases hown with h0|⟨x,hxo,h1⟩
   .rw[h0]at e;cases e
   .rw[h1]at e;rcases(h.lt o x b hxo e.symm).2 with h2|h2
    .omega
    .exact hM h2
 .by_cases e:p=o
  .subst e;rw[add_same]at hp;cases hp;exact hx le
  .obtain⟨z,hz,he⟩:=hoth p y e hp;rw[he];refine bn.nO le p z (λb hb=>hheap b (h.lt p z b hz hb).1 (hno b (λx hxo e2=>h.sep p z o x b hz hxo e hb e2))) (pU γ v' e) (h.ah p z hz)
 .by_cases e:p=o
  .rw[e,upd_same]at hb;refine⟨(hblk b hb).2,?_⟩;rcases(hblk b hb).1 with h1|h1
   .rcases hown with h0|⟨x,hxo,h2⟩
    .rw[h0]at h1;cases h1
    .exact(h.lt o x b hxo (by rw[← h2,← h1])).2
   .exact .inl (avx h.grow h1)
  .rw[pU γ v' e]at hb;obtain⟨z,hz,_⟩:=hoth p y e hp;have:=h.lt p z b hz hb;exact⟨avT this.1 hsize,this.2⟩
 .have key:∀p y,p≠o->((st.kill (Nat.beq o ·)).add o x').ah p=some y->blk (γ p)=some b->blk v'≠some b:=by
   intro p y e hp hb e2;obtain⟨z,hz,_⟩:=hoth p y e hp;rcases(hblk b e2).1 with h1|h1
   .rcases hown with h0|⟨x,hxo,h2⟩
    .rw[h0]at h1;cases h1
    .exact h.sep p z o x b hz hxo e hb (by rw[← h2,← h1])
   .have:=(h.lt p z b hz hb).1;omega
  by_cases e:p=o
  .have e':q≠o:=λe2=>hpq (e.trans e2.symm);rw[e,upd_same]at hb;rw[pU γ v' e'];intro e2;exact key q z e' hq e2 hb
  .rw[pU γ v' e]at hb;by_cases e':q=o
   .rw[e',upd_same];exact key p y e hp hb
   .rw[pU γ v' e'];obtain⟨y',hy',_⟩:=hoth p y e hp;obtain⟨z',hz',_⟩:=hoth q z e' hq;exact h.sep p y' q z' b hy' hz' hpq hb
 .by_cases e:p=o
  .subst e;rw[add_same]at hp;exact(harr cs (Option.some.inj hp)).elim
  .obtain⟨z,hz,he⟩:=hoth p _ e hp;rw[pU γ v' e];cases z with
   |var cs'=>exact h.pin p v cs' hN hz
   |arr _ _ _ _=>cases he
theorem Cell.ahz(h:Rel w0 M T γ st a w){e:TypeId}{r:ax}{x:Cell}{v:Value}{l:List r.den}(hx:aS (aj w0 T γ st w) x v)(hg:x.get st (.sl e r)=some l):
 sG w.heap (λb=>b<w.heap.size) r.len (λvs y=>aJ w.heap ((aj w0 T γ st w).cu (x.wQ r st)) r vs y) v l:=by
 suffices hs:sG w.heap (λb=>b<w.heap.size) r.len (λvs y=>aJ w.heap ((aj w0 T γ st w).cu (x.fresh st)) r vs y) v l by
  refine hs.mono (λb hb=>⟨hb,rfl⟩) λvs y hy=>?_;unfold Cell.wQ;split
  .next hf=>exact aJ.flat r vs y hf hy
  .exact hy
 cases x<;>simp only[Cell.get]at hg<;>try (cases hg;done)
 .cases hg;have hv:v=.slice none 0 0:=hx;subst hv;exact⟨avM _,.inl ⟨rfl,none,0,rfl⟩⟩
 .next e' s l' fr=>
  split at hg
  .next hb=>have hrs:=ax.eq_of_beq s r hb;subst hrs;cases hg;have hx:sG _ _ _ _ v l':=hx;exact hx.mono (λb hb=>⟨hb.1.1,rfl⟩) (λvs y hy=>hy)
  .cases hg
 .next o=>
  obtain⟨⟨e',s,l',fr,ho⟩,hv,_⟩:=hx;have ho':st.ah o=some (.arr e' s l' fr):=ho;simp only[ho']at hg;split at hg
  .next hb=>
   have hrs:=ax.eq_of_beq s r hb;subst hrs;cases hg;rw[hv];show sG _ _ _ _ (γ o) l';have as6:(Cell.ref o).fresh st=fr:=by simp only[Cell.fresh,ho']
   rw[as6];obtain⟨xs,⟨h1,h2⟩,hr,hf,hx⟩:=h.ah o _ ho';rcases h2 with⟨hv,hn⟩|⟨g,cap,cur,hv,_,hg,hle,hmax,hsz,htake⟩
   .exact⟨by rw[hn];exact avM _,.inl ⟨awm.1 hn,none,0,hv⟩⟩
   .refine⟨avx hle hmax,.inr ⟨g,0,cap,cur,e',(0,0),hv,hle,(h.lt o _ g ho' (by rw[show γ o=_ from hv];rfl)).1,hg,λi x hi=>?_⟩⟩;have hlt:i<l'.length:=(avG.1 hi).1;have hmul:i*s.len+s.len<=l'.length*s.len:=by have:(i+1)*s.len<=l'.length*s.len:=avO _ hlt;rw[av8]at this;simpa using this
    have:=hx i x hi;rw[← htake,gZ _ _ _ _ hmul]at this;rw[avV];exact this
  .cases hg
theorem abw{t ty e:TypeId}{i:TypeInfo}(ht:P.underlying t=some (.slice e))(hi:P.info? e=some i){base size n:Nat}{v:Value}{xs:List Value}(hown:w.ownsRow base e size v n xs)(ad:Option Addr)(c:Nat):
 (Builtin.append_ #[t,t] ty #[v,.slice ad 0 c]).run P w=.ok v w:=by
 rcases hown.2 with⟨rfl,rfl⟩|⟨g,cap,cur,rfl,_,_,hnc,_⟩
 .cases ad with
  |none=>simp[Builtin.append_,avY ht,sizeOf,typeInfo,hi,Builtin.lenOf,Builtin.firstCells]
  |some ad=>simp[Builtin.append_,avY ht,sizeOf,typeInfo,hi,Builtin.lenOf,Builtin.firstCells,loadCells,loadCellsFrom]
 .cases ad with
  |none=>simp[Builtin.append_,avY ht,sizeOf,typeInfo,hi,Builtin.lenOf,Builtin.firstCells,hnc,storeCells]
  |some ad=>simp[Builtin.append_,avY ht,sizeOf,typeInfo,hi,Builtin.lenOf,Builtin.firstCells,hnc,storeCells,loadCells,loadCellsFrom]
theorem aJ.ones{h:Array Obj}{S:Nat->Prop}:∀(r:ax)(vs:List Value)(x:r.den),aJ h S r vs x->∀v∈vs,v.oneCell'=true
 |.nil,vs,_,H,v,hv=>by rw[aJ]at H;subst H;cases hv
 |.cons c r,vs,(x,y),H,v,hv=>by
  rw[aJ]at H;obtain⟨u,vs',rfl,h1,h2⟩:=H;rcases avF.1 hv with rfl|hv
  .cases c with
   |int k=>rw[h1.1];rfl
   |bool=>rw[show _=_ from h1];rfl
   |str=>rw[h1.1];rfl
   |sl e s=>have h1:sG _ _ _ _ v x:=h1;rcases h1.2 with⟨_,a,c,hv⟩|⟨b,off,cap,cs,t,fz,hv,_⟩<;>rw[hv]<;>rfl
  .exact aJ.ones r vs' y h2 v hv
theorem ahA{t ty e:TypeId}{i:TypeInfo}{z:Value}{size bytes:Nat}(ht:P.underlying t=some (.slice e))(hi:P.info? e=some i)(hz:i.zero=some z)(hsize:i.size=size)(hby:i.bytes=bytes)(hpos:0<size)
 {v:Value} {n:Nat} {xs:List Value} (hown:w.ownsRow 0 e size v n xs) (ad:Addr) (c:Nat) {m:Nat} (hm:0<m) {ns:List Value} (hl:ns.length=m*size) (hnews:∀j u,ns[j]? =some u->w.cell? (ad.add j)=some u) (h1:∀u∈ns,u.oneCell'=true)
 (h63:n+m<=9223372036854775807) (hbytes:(n+m)*bytes<=140737488355328) {v':Value} {w':World} (hr:(Builtin.append_ #[t,t] ty #[v,.slice (some ad) m c]).run P w=.ok v' w') {g:Nat} (hg:v'.ownBlock=some g):
 v.ownBlock=some g\/w.heap.size<=g:=by
 subst hsize;subst hby;rcases hown.2 with⟨rfl,rfl⟩|⟨g',cap,cur,rfl,_,hgc,hnc,hcm,hcs,htake⟩
 .have hr2:=run_append_nil (P:=P) w t ty e i z ht hi hz ad m c ns hl hnews hm abn (by have:=hbytes;rw[avV]at this;omega);rw[hr]at hr2;cases hr2;cases hg;exact .inr (avt _)
 .by_cases hroom:n+m<=cap
  .have hfit:n*i.size+ns.length<=cur.size:=by rw[hl,hcs,← av8];exact avO _ hroom
   have hr2:=run_append_room (P:=P) w t ty e i ht hi g' n cap cur hgc ad m c ns hl hnews h1 hroom hfit;rw[hr]at hr2;cases hr2;exact .inl hg
  .have holds:∀j u,xs[j]? =some u->w.cell? ((⟨g',0,none⟩:Addr).add j)=some u:=hown.cells (g:=g') rfl;have hr2:=run_append_grow (P:=P) w t ty e i z ht hi hz ⟨g',0,none⟩ n cap xs hown.1 holds ad m c ns hl hnews abn abn (growslice_fits abn hbytes);rw[hr]at hr2;cases hr2;cases hg;exact .inr (avt _)
theorem Nw{t ty e:TypeId}{ti te:TI}(hT:lM P t ti)(hk:ti.kind=.slice e)(hE:lM P e te)(hpos:0<te.cells.len){v:Value}{n:Nat}{xs:List Value}(hown:w.ownsRow 0 e te.cells.len v n xs)
 {F:Nat->Prop} {src:Value} {news:List te.cells.den} (hs:sG w.heap (λb=>b<w.heap.size) te.cells.len (λvs y=>aJ w.heap F te.cells vs y) src news) (hbig:n+news.length<=big):
 ∃v' w' ns,(Builtin.append_ #[t,t] ty #[v,src]).run P w=.ok v' w'/\w'.ownsRow 0 e te.cells.len v' (n+news.length) (xs++ns)/\w.grownBy w' v.ownBlock/\
  (∀i x,news[i]? =some x->aJ w.heap F te.cells ((ns.drop (i*te.cells.len)).take te.cells.len) x)/\(∀g,v'.ownBlock=some g->v.ownBlock=some g\/w.heap.size<=g):=by
 obtain⟨i,z,hi,hsz,hby,hz,hzv,_⟩:=hE.info;have hu:=hT.und;rw[hk]at hu;have hzs:z.cells.size=te.cells.len:=by rw[← awd,hzv,mW]
 have zero:∀ad c,news=[]->src=.slice ad 0 c->∃v' w' ns,(Builtin.append_ #[t,t] ty #[v,src]).run P w=.ok v' w'/\w'.ownsRow 0 e te.cells.len v' (n+news.length) (xs++ns)/\w.grownBy w' v.ownBlock/\
  (∀i x,news[i]? =some x->aJ w.heap F te.cells ((ns.drop (i*te.cells.len)).take te.cells.len) x)/\(∀g,v'.ownBlock=some g->v.ownBlock=some g\/w.heap.size<=g):=by
  intro ad c hn0 hv;subst hn0;rw[hv];exact⟨v,w,[],abw hu.1 hi hown ad c,by simpa using hown,⟨rfl,rfl,rfl,avt _,λ_ _ _=>rfl⟩,(λi x hx=>by simp at hx),λg hg=>.inl hg⟩
 rcases hs.2 with⟨hn0,ad,c,hv⟩|⟨b,off,cap,cs,ty2,fz,hv,hcap,hlt,hb,hx⟩
 .exact zero ad c hn0 hv
 .by_cases h0:news=[]
  .exact zero (some ⟨b,off,none⟩) cap h0 (by rw[hv,h0];rfl)
  .have hm:0<news.length:=axT.2 h0;have e1:(news.length-1)*te.cells.len+te.cells.len=news.length*te.cells.len:=by rw[← Nat.succ_mul];congr 1;omega
   have at7:off+news.length*te.cells.len<=cs.toList.length:=by have hl:news.length-1<news.length:=abn;have hlast:=hx (news.length-1) _ (avv hl);have:=aJ.length _ _ _ hlast;rw[avz,avW]at this;omega
   let ns:List Value:=(cs.toList.drop off).take (news.length*te.cells.len)
   have hnl:ns.length=news.length*te.cells.len:=by simp only[ns,avz,avW];omega
   have hnews:∀j u,ns[j]? =some u->w.cell? ((⟨b,off,none⟩:Addr).add j)=some u:=by intro j u hj;rw[addr_add];exact Q5 hb _ j u hj
   have JO:∀u∈ns,u.oneCell'=true:=by intro u hu;obtain⟨j,hj⟩:=axM hu;have hjl:j<ns.length:=(avG.1 hj).1;rw[hnl]at hjl;have hil:j / te.cells.len<news.length:=Nat.div_lt_of_lt_mul (by rw[ax0];exact hjl);have hR:=hx (j / te.cells.len) _ (avv hil);refine aJ.ones _ _ _ hR u ?_;have hdm:=Nat.div_add_mod j te.cells.len;have hml:=ayi j hpos;refine awc (i:=j%te.cells.len) ?_;rw[av4,if_pos hml,av5];simp only[ns]at hj;rw[av4,if_pos hjl,av5]at hj;rw[← hj];congr 1;rw[ax0]at hdm;omega
   have hbb:=hE.small;unfold big at hbig;obtain⟨v',w',hr,hown',hg,_⟩:=run_append_own (P:=P) w 0 t ty e i z te.cells.len te.bytes hu.1 hi hz hsz hby hzs hpos v n xs hown ⟨b,off,none⟩ news.length cap ns hnl hnews JO
    (by unfold maxLen;omega) (by have:(n+news.length)*te.bytes<=4294967296*4096:=ayK hbig hbb;omega) (avM _)
   refine⟨v',w',ns,by rw[hv];exact hr,hown',hg,λi x hi=>?_,λg hgb=>?_⟩
   rotate_left
   .exact ahA (P:=P) hu.1 hi hz hsz hby hpos hown ⟨b,off,none⟩ cap hm hnl hnews JO abn (by have:(n+news.length)*te.bytes<=4294967296*4096:=ayK hbig hbb;omega) hr hgb
   have hil:i<news.length:=(avG.1 hi).1;have hmul:i*te.cells.len+te.cells.len<=news.length*te.cells.len:=by have:(i+1)*te.cells.len<=news.length*te.cells.len:=avO _ hil;rw[av8]at this;simpa using this
   have e2:(ns.drop (i*te.cells.len)).take te.cells.len=(cs.toList.drop (off+i*te.cells.len)).take te.cells.len:=by simp only[ns];rw[gZ _ _ _ _ hmul,aw1]
   rw[e2];exact hx i x hi
theorem La{v:Value}(h:∀a,v≠ .pointer (some a)):v.ownBlock=blk v:=by
 cases v with
 |slice a n c=>cases a<;>rfl
 |pointer a=>cases a with
  |none=>rfl
  |some a=>exact absurd rfl (h a)
 |_=>rfl
theorem afo{base size n:Nat}{e:TypeId}{v':Value}{xs:List Value}(hown:w'.ownsRow base e size v' n xs):
 ∀g,blk v'=some g->g<w'.heap.size:=by
 intro g hb;rcases hown.2 with⟨h1,_⟩|⟨g',cap,cur,h1,_,hh,_⟩
 .rw[h1]at hb;cases hb
 .rw[h1]at hb;cases hb;exact(avw.1 hh).1
theorem ags(hΘ:∀t ti,Θ t=some ti->lM P t ti)(h:Rel w0 M T γ st a w){t ty e:TypeId}{ti te:TI}(ht:Θ t=some ti)(hk:ti.kind=.slice e)(he:Θ e=some te){o:Nat}{r:ax}{l:List r.den}{fr:Bool}
 (ho:st.ah o=some (.arr e r l fr)) (hbeq:te.cells.beq r=true) {y:Cell} {news:List te.cells.den} {v src:Value} (hv:aS (aj w0 T γ st w) (.ref o) v) (hy:aS (aj w0 T γ st w) y src)
 (hget:y.get st (.sl e te.cells)=some news) (hbig:l.length+news.length<=big):
 ∃u w' γ',(Builtin.append_ #[t,t] ty #[v,src]).run P w=.ok u w'/\Rel w0 M T γ' ((st.kill (Nat.beq o ·)).add o (.arr e r (l++tV hbeq news) (fr&&y.wQ te.cells st))) a w'/\
  aT (aj w0 T γ' ((st.kill (Nat.beq o ·)).add o (.arr e r (l++tV hbeq news) (fr&&y.wQ te.cells st))) w') (.sv (.one (.ref o))) u:=by
 have hr:=ax.eq_of_beq _ _ hbeq;subst hr;obtain⟨_,hvγ,_⟩:=hv;have hvγ:v=γ o:=hvγ;subst hvγ;obtain⟨xs,hown,hpos,hfr,hrow⟩:=h.ah o _ ho;obtain⟨v',w',ns,hrun,hown',hg,hnr,hgb⟩:=Nw (P:=P) (ty:=ty) (hΘ t ti ht) hk (hΘ e te he) hpos hown (Cell.ahz h hy hget) hbig;have hlen:(l++tV hbeq news).length=l.length+news.length:=by rw[avn];rfl
 have hnp:∀ad,γ o≠ .pointer (some ad):=by
  intro ad e1;rcases hown.2 with⟨h1,_⟩|⟨g,cap,cur,h1,_⟩
  .have h1:γ o=_:=h1;rw[e1]at h1;cases h1
  .have h1:γ o=_:=h1;rw[e1]at h1;cases h1
 have as7:v'.oneCell'=true:=by rcases hown'.2 with⟨h1,_⟩|⟨g,cap,cur,h1,_⟩<;>rw[h1]<;>rfl
 have hown2:=La hnp;have hnb:∀g,blk v'=some g->(some g=blk (γ o)\/w.heap.size<=g)/\g<w'.heap.size:=by
  intro g hb;refine⟨?_,afo hown' g hb⟩;have hb2:v'.ownBlock=some g:=by
   rw[La (λad e1=>?_)]
   .exact hb
   .rcases hown'.2 with⟨h1,_⟩|⟨g,cap,cur,h1,_⟩<;>rw[e1]at h1<;>cases h1
  rcases hgb g hb2 with h1|h1
  .exact .inl (by rw[← hown2,h1])
  .exact .inr h1
 obtain⟨hR,_⟩:=h.replace (w':=w') (o:=o) (v':=v') (x':=.arr e te.cells (l++tV hbeq news) (fr&&y.wQ te.cells st)) (blk (γ o)) (.inr ⟨_,ho,rfl⟩) hg.os hg.tape hg.output hg.size
  (λb hb hne=>hg.block b hb (by rw[hown2];exact hne)) hnb (λ_ e=>ahB) (λle=>by
    refine⟨xs++ns,?_,hpos,?_,?_⟩
    .rw[hlen];show w'.ownsRow 0 e te.cells.len (upd γ o v' o) _ _;rw[upd_same];exact hown'
    .intro b hb hf;simp only[avo]at hf;have hb:blk (upd γ o v' o)=some b:=hb;rw[upd_same]at hb;rcases(hnb b hb).1 with h1|h1
     .exact hfr b h1.symm hf.1
     .exact avx h.grow h1
    .intro i x hi;have hxl:xs.length=l.length*te.cells.len:=hown.1;by_cases hil:i<l.length
     .rw[awe hil]at hi;have hmul:i*te.cells.len+te.cells.len<=l.length*te.cells.len:=by have:(i+1)*te.cells.len<=l.length*te.cells.len:=avO _ hil;rw[av8]at this;simpa using this
      have e1:((xs++ns).drop (i*te.cells.len)).take te.cells.len=(xs.drop (i*te.cells.len)).take te.cells.len:=by rw[awR abn,axk amS]
      rw[e1];refine aJ.mono (λc hc=>le.cu _ c ⟨hc.1,λe2=>hc.2 (by simp only[avo]at e2;exact e2.1)⟩) _ _ x (hrow i x hi)
     .rw[av1 abn]at hi;have hi:news[i-l.length]? =some x:=hi;have e1:((xs++ns).drop (i*te.cells.len)).take te.cells.len=(ns.drop ((i-l.length)*te.cells.len)).take te.cells.len:=by
       have e2:i*te.cells.len=xs.length+(i-l.length)*te.cells.len:=by rw[hxl,← av8];congr 1;omega
       rw[e2,← aw1,ays]
      rw[e1];refine aJ.mono (λc hc=>le.cu _ c ⟨hc.1,λe2=>hc.2 (by simp only[avo]at e2;exact e2.2)⟩) _ _ x (hnr _ x hi))
 exact⟨v',w',_,hrun,hR,⟨e,te.cells,_,_,add_same _ _ _⟩,(upd_same _ _ _).symm,as7⟩
end Go.Fw
