import Derived.Test.YtncbcelpbmlgdaaGreatDoorF
import Derived.Test.YtncbcelpbmlgdaaGreatDoorShelf
import Derived.Test.YtncbcelpbmlgdaaGreatDoorFwC
import Derived.Lib.ItoaLen
import Derived.WalkKit
import Derived.BigCall
import Derived.Lib.AtoiTie
import Derived.Lib.AtoiErrMem
import Derived.Lib.AtoiBound
import Derived.Test.YtncbcelpbmlgdaaGreatDoorSp
import Derived.Lib.SplitLaws
namespace Go.Proofs.Tryz
open Go Go.Fw Go.RowKit Sp
theorem ab3:fJ prog G H8 EH:=by
 intro args p out k S vs w hcon hp hG hrep;unfold EH iy wU at hcon;split at hcon
 .next x hx=>
  obtain⟨n,⟨⟩⟩:=x;have hv:=DZ FN args _ vs.toList hx hrep
  match hvs:vs.toList,hv with
  |[v],hv=>have e1:v=.int .i64 n:=hv.1.1;have e2:vs=#[.int .i64 n]:=akW;subst e2;have hF:=Option.some.inj hcon;have hp1:p=((-9223372036854775808:Int)<=n/\n<=9223372036854775807):=(congrArg Prod.fst hF).symm;have hout:out=⟨[(false,[.plain (.str (Lib.itoa n))])],none⟩:=(congrArg Prod.snd hF).symm;subst hp1 hout;refine(Tryz.strconv_Itoa n hp.1 hp.2 w hG.1).mono ?_;rintro e w' ⟨rfl,d,os,rfl⟩;have hlen:=Lib.itoa_length_le n hp.1 hp.2;refine⟨_,λ_=>undef,rfl,rfl,rfl,rfl,by simp[Sort.grow,World.drewN],λb hb=>?_,⟨rfl,(by unfold maxLen;omega)⟩,(λo x hx=>afg),(λo x q y b hx=>afg)⟩;show(w.heap++os)[b]? =_;rw[axu hb]
 .cases hcon
theorem OE(n a b:Int)(w:World):Calls prog 85 #[.int .i64 n,.int .i64 a,.int .i64 b] w λe w'=>e=.returned (.bool (decide (a<=n)&&decide (n<=b)))/\w'=w:=by
 have mixed:=Tryz.mixed;by_cases h:a<=n
 · go_enter Tryz.func85,Tryz.ntmps85
   go_wp2
   go_ret
   simp[h]
 · go_enter Tryz.func85,Tryz.ntmps85
   go_wp2
   go_ret
   have h1:decide (a<=n)=false:=avH abn;rw[h1];exact⟨rfl,rfl⟩
set_option maxRecDepth 100000 in
theorem P5(n:Int)(h0:-9223372036854775808<=n)(h1:n<=9223372036854775807)(w:World)(hG:G.ok w):Calls prog 58 #[.int .i64 n] w λe w'=>e=.returned (.string ⟨(Lib.itoa n).toArray⟩)/\Below w.heap.size w w':=by
 have mixed:=Tryz.mixed
 go_enter Tryz.func58,Tryz.ntmps58
 go_wp2_with (go_at_call 103;refine(Tryz.strconv_Itoa n h0 h1 _ hG.1).mono ?_;rintro e w' ⟨rfl,d,os,rfl⟩)
 go_ret
 refine⟨rfl,rfl,rfl,rfl,by simp[Sort.grow,World.drewN],λb hb=>?_⟩;show(w.heap++os)[b]? =_;rw[axu hb]
theorem dR{w w':World}(hG:G.ok w)(h:Below w.heap.size w w'):G.ok w':=G.stable w w' hG h.size λb hb=>h.block b (avT hb (G.low w hG))
set_option maxHeartbeats 4000000 in
set_option maxRecDepth 100000 in
theorem aee(s:List UInt8)(w:World)(hG:G.ok w):
 Calls prog 87 #[.string ⟨s.toArray⟩] w λe w'=>e=.returned (.tuple #[.int .i64 (Sp.parseNum s),.bool (bf s)])/\Below w.heap.size w w':=by
 have mixed:=Tryz.mixed;have hsz:(⟨s.toArray⟩:ByteArray).size=s.length:=by show s.toArray.size=_;simp
 by_cases hlen:10<s.length
 .have e1:=V9 hlen;rw[AP e1,e1];have hl:(10:Int)<(s.length:Int):=abn
  go_enter Tryz.func87,Tryz.ntmps87
  go_wp2
  go_ret2
  exact⟨rfl,Below.refl _ _⟩
 .have hl:¬(10:Int)<(s.length:Int):=abn;have hd:(⟨s.toArray⟩:ByteArray).data.toList=s:=rfl;cases ha:Lib.atoi s with
  |none=>
   have hall:Lib.atoiAll (⟨s.toArray⟩:ByteArray).data.toList=Lib.NumEnd.ofOption none:=by rw[hd,Lib.atoiAll_short s abn,ha]
   have e1:bf s=false:=by
    cases hp:bf s with
    |false=>rfl
    |true=>have:=(iC (jH hp).2).2.1;rw[(jH hp).1,ha]at this;cases this
   rw[AP e1,e1];obtain⟨ev,hv,hev⟩:=hG.2.2.1
   go_enter Tryz.func87,Tryz.ntmps87
   go_wp2_with (go_at_call 141;refine(Tryz.strconv_Atoi_syntax ⟨s.toArray⟩ asU hall ev _ hv hev).mono ?_;rintro e W1 ⟨N,rfl,-,-,hb⟩)
   go_ret2
   exact⟨rfl,hb⟩
  |some v=>
   have hbd:=Lib.atoi_bound ha abn;have hai:Lib.atoi (⟨s.toArray⟩:ByteArray).data.toList=some v:=ha;by_cases hu:eu v=true
   .have hu2:=ig.1 hu;have hu0:(0:Int)<=v:=hu2.1;have hu1:v<=1000000000:=hu2.2;by_cases he:Lib.itoa v=s
    .obtain⟨e1,e2⟩:=RD hu he;rw[e1,e2]
     go_enter Tryz.func87,Tryz.ntmps87
     go_wp2_with (first
      |(go_at_call 141;refine(Tryz.strconv_Atoi ⟨s.toArray⟩ v asU hai _).mono ?_;rintro e w' ⟨rfl,t,rfl⟩)
      |(go_at_call 85;refine(OE _ _ _ _).mono ?_;rintro e w' ⟨rfl,rfl⟩)
      |(go_at_call 58;refine(P5 v abn abn _ (dR hG (Lib.bytesWorld_below _ _ _))).mono ?_;rintro e w2 ⟨rfl,hb2⟩))
     all_goals (go_ret2;exact⟨rfl,(Lib.bytesWorld_below _ _ _).trans (hb2.mono (Lib.bytesWorld_below _ _ _).size)⟩)
    .have e1:bf s=false:=by
      cases hp:bf s with
      |false=>rfl
      |true=>obtain⟨g1,g2⟩:=jH hp;have:=(iC g2).2.1;rw[g1,ha]at this;exact absurd (by rw[Option.some.inj this];exact g1) he
     rw[AP e1,e1];have hne:(Lib.itoa v==s)=false:=avp.2 he
     go_enter Tryz.func87,Tryz.ntmps87
     go_wp2_with (first
      |(go_at_call 141;refine(Tryz.strconv_Atoi ⟨s.toArray⟩ v asU hai _).mono ?_;rintro e w' ⟨rfl,t,rfl⟩)
      |(go_at_call 85;refine(OE _ _ _ _).mono ?_;rintro e w' ⟨rfl,rfl⟩)
      |(go_at_call 58;refine(P5 v abn abn _ (dR hG (Lib.bytesWorld_below _ _ _))).mono ?_;rintro e w2 ⟨rfl,hb2⟩))
     all_goals (go_ret2;exact⟨rfl,(Lib.bytesWorld_below _ _ _).trans (hb2.mono (Lib.bytesWorld_below _ _ _).size)⟩)
   .have e1:bf s=false:=by
     cases hp:bf s with
     |false=>rfl
     |true=>obtain⟨g1,g2⟩:=jH hp;have:=(iC g2).2.1;rw[g1,ha]at this;exact absurd (by rw[Option.some.inj this];exact g2) hu
    rw[AP e1,e1];have hw:(decide ((0:Int)<=v)&&decide (v<=1000000000))=false:=by have:eu v=false:=apn;exact this
    go_enter Tryz.func87,Tryz.ntmps87
    go_wp2_with (first
     |(go_at_call 141;refine(Tryz.strconv_Atoi ⟨s.toArray⟩ v asU hai _).mono ?_;rintro e w' ⟨rfl,t,rfl⟩)
     |(go_at_call 85;refine(OE _ _ _ _).mono ?_;rintro e w' ⟨rfl,rfl⟩;rw[hw]))
    all_goals (go_ret2;exact⟨rfl,Lib.bytesWorld_below _ _ _⟩)
theorem yj:fJ prog G uG qN:=by
 intro args p out k S vs w hcon hp hG hrep;unfold qN iy wU at hcon;split at hcon
 .next x hx=>
  obtain⟨s,⟨⟩⟩:=x;have hv:=DZ xX args _ vs.toList hx hrep
  match hvs:vs.toList,hv with
  |[v],hv=>have e1:v=.string ⟨s.toArray⟩:=hv.1.1;have e2:vs=#[.string ⟨s.toArray⟩]:=akW;subst e2;have hF:=Option.some.inj hcon;have hout:out=⟨[(false,[.plain (.int .i64 (Sp.parseNum s))]),(false,[.plain (.bool (bf s))])],none⟩:=(congrArg Prod.snd hF).symm;subst hout;refine(aee s w hG).mono ?_;rintro e w' ⟨rfl,hb⟩;have hu:=ig.1 (Ap s);refine⟨_,λ_=>undef,rfl,hb.os,hb.tape,hb.output,hb.size,hb.block,?_,(λo x hx=>afg),(λo x q y b hx=>afg)⟩;exact⟨_,rfl,⟨rfl,(show(-9223372036854775808:Int)<=Sp.parseNum s from abn),(show Sp.parseNum s<=9223372036854775807 from abn)⟩,rfl,trivial⟩
 .cases hcon
theorem Gl:fJ prog G yP uj:=by
 intro args p out k S vs w hcon hp hG hrep;unfold uj iy wU at hcon;split at hcon
 .next x hx=>
  obtain⟨l,sep,⟨⟩⟩:=x;have hv:=DZ Bv args _ vs.toList hx hrep
  match hvs:vs.toList,hv with
  |[v,u],hv=>
   have e1:u=.string ⟨sep.toArray⟩:=hv.2.1.1;have hsl:cZ w.heap _ (.sl aY dQ) v l:=hv.1;have e2:vs=#[v,.string ⟨sep.toArray⟩]:=akW;subst e2;have hF:=Option.some.inj hcon;have hp1:p=(l.length<=140737488355328/\(Lib.join (l.map (·.1)) sep).length<=140737488355328):=(congrArg Prod.fst hF).symm;have hout:out=⟨[(false,[.plain (.str (Lib.join (l.map (·.1)) sep))])],none⟩:=(congrArg Prod.snd hF).symm;subst hp1 hout;obtain⟨hl,hcase⟩:=hsl;have hjl:(Lib.join (l.map (·.1)) sep).length<=maxLen:=by have:=hp.2;unfold maxLen;omega
   rcases hcase with⟨rfl,a,c,rfl⟩|⟨b,off,cap,cs,t,fz,rfl,hc,hS,hb,hx⟩
   .refine(Tryz.strings_Join_none a c ⟨sep.toArray⟩ w).mono ?_;rintro e w' ⟨rfl,rfl⟩;exact ahZ rfl rfl rfl (avt _) (λ_ _=>rfl) hjl
   .have hcells:∀(j:Nat)(x:ByteArray),(l.map λy:List UInt8×Unit=>(⟨y.1.toArray⟩:ByteArray))[j]? =some x->w.cell? ⟨b,off+j,none⟩=some (.string x):=by
     intro j x hj;rw[awn,axH]at hj;obtain⟨y,hy,rfl⟩:=hj;have:=hx j y hy;rw[show j*ax.len (.cons .str .nil)=j from axR j]at this;obtain⟨v',vs',hvs',hrc,hnil⟩:=this;have hv1:v'=.string ⟨y.1.toArray⟩:=hrc.1;have hcell:cs[off+j]? =some v':=by
      have h0:((cs.toList.drop (off+j)).take (ax.len (.cons .str .nil)))[0]? =(v'::vs')[0]? :=by rw[hvs']
      simpa[ax.len]using h0
     simp only[World.cell?,hb];simpa[hv1]using hcell
    have hmap:(l.map λy:List UInt8×Unit=>(⟨y.1.toArray⟩:ByteArray)).map (λx:ByteArray=>x.data.toList)=l.map (·.1):=by rw[awW];rfl
    have hbk:b<w.heap.size:=by
     rcases avN b w.heap.size with h|h
     .exact h
     .rw[axG h]at hb;cases hb
    have:=Tryz.strings_Join b off cap (l.map λy:List UInt8×Unit=>(⟨y.1.toArray⟩:ByteArray)) ⟨sep.toArray⟩ w hcells hbk (by rw[avI];exact hp.1) (by rw[avI];exact hc) (by rw[hmap];exact hp.2);rw[avI,hmap]at this;refine this.mono ?_;rintro e w' ⟨rfl,hB⟩;exact ahZ hB.os hB.tape hB.output hB.size hB.block hjl
 .cases hcon
theorem NM:∀(l cur:List UInt8)(x:List UInt8),x∈Lib.fieldsGo cur l->x.length<=cur.length+l.length
 |[],cur,x,h=>by
  rw[Lib.fieldsGo]at h;split at h
  .cases h
  .simp at h;subst h;simp
 |b::l,cur,x,h=>by
  rw[Lib.fieldsGo]at h;split at h
  .split at h
   .have:=NM l [] x h;simp at this ⊢;omega
   .rcases avF.1 h with rfl|h
    .simp
    .have:=NM l [] x h;simp at this ⊢;omega
  .have:=NM l (cur++[b]) x h;simp at this ⊢;omega
theorem cnt_le:∀(l:List UInt8)(b:Bool),Lib.cntF b l<=l.length
 |[],_=>avt _
 |c::l,b=>by have:=cnt_le l (Lib.isSp c);simp only[Lib.cntF,avq];split<;>omega
theorem Yk:fJ prog G EL BL:=by
 intro args p out k S vs w hcon hp hG hrep;unfold BL iy wU at hcon;split at hcon
 .next x hx=>
  obtain⟨s,⟨⟩⟩:=x;have hv:=DZ Dw args _ vs.toList hx hrep
  match hvs:vs.toList,hv with
  |[v],hv=>
   have e1:v=.string ⟨s.toArray⟩:=hv.1.1;have e2:vs=#[.string ⟨s.toArray⟩]:=akW;subst e2;have hF:=Option.some.inj hcon;have hp1:p=(s.length<=1048576/\Vo s=true):=(congrArg Prod.fst hF).symm;have hout:out=⟨[(false,[.plain (.sl aY dQ (Sp.wordsOf s) true)])],none⟩:=(congrArg Prod.snd hF).symm;subst hp1 hout;have hs:s.length<=1048576:=hp.1;refine(Tryz.strings_Fields ⟨s.toArray⟩ w (by show s.toArray.size<_;rw[aw4];omega) (λj b hj=>?_) hG.2.1).mono ?_
   .have h:=avL.1 hp.2 b (awc ana);exact awQ h
   rintro e w' ⟨rfl,rfl⟩;have hlen:(Lib.fields s).length<=1048576:=by rw[Lib.fields_length];have:=cnt_le s true;omega
   refine⟨_,λ_=>undef,rfl,rfl,rfl,rfl,acA,λb hb=>heap_alloc_old w _ hb,?_,(λo x hx=>afg),(λo x q y b hx=>afg)⟩;refine⟨?_,.inr ⟨w.heap.size,0,(Lib.fields s).length,_,9,(0,0),?_,?_,⟨⟨?_,?_,?_⟩,?_⟩,awf w _,?_⟩⟩
   .show((Lib.fields s).map (·,())).length<=maxLen;rw[avI,maxLen_eq];omega
   .show _=Value.slice _ ((Lib.fields s).map (·,())).length _;rw[avI]
   .show((Lib.fields s).map (·,())).length<=_;rw[avI];exact avt _
   .show w.heap.size<(w.alloc _).heap.size;simp
   .exactλh=>absurd h (Nat.lt_irrefl _)
   .exactλo x hx=>afg
   .exactλ_=>avt _
   .intro i x hx;have hx:((Lib.fields s).map (·,()))[i]? =some x:=hx;rw[awn,axH]at hx;obtain⟨y,hy,rfl⟩:=hx;have hyl:=NM s [] y (awc hy);show aJ _ _ (.cons .str .nil) ((((Lib.fields s).map λl=>Value.string ⟨l.toArray⟩).drop (0+i*1)).take 1) (y,());rw[avV,axR];refine⟨.string ⟨y.toArray⟩,[],?_,⟨rfl,by rw[maxLen_eq];simp at hyl;omega⟩,rfl⟩;have hl:i<((Lib.fields s).map λl=>Value.string ⟨l.toArray⟩).length:=by rw[avI];exact(avG.1 hy).1
    rw[awY hl];simp only[awP,axy,aya];obtain⟨_,e⟩:=List.getElem_of_getElem? hy;rw[e]
 .cases hcon
theorem LG:fJ prog G Gm Dv:=by
 intro args p out k S vs w hcon hp hG hrep;unfold Dv iy wU at hcon;split at hcon
 .next x hx=>
  obtain⟨s,sep,⟨⟩⟩:=x;have hv:=DZ zL args _ vs.toList hx hrep
  match hvs:vs.toList,hv with
  |[v,u],hv=>
   have e1:v=.string ⟨s.toArray⟩:=hv.1.1;have e1':u=.string ⟨sep.toArray⟩:=hv.2.1.1;have e2:vs=#[.string ⟨s.toArray⟩,.string ⟨sep.toArray⟩]:=by obtain⟨l⟩:=vs;simp at hvs;rw[hvs,e1,e1']
   subst e2;have hF:=Option.some.inj hcon;have hp1:p=(s.length<=4294960000/\(sep=[32]\/sep=[10])):=(congrArg Prod.fst hF).symm;have hout:out=⟨[(false,[.plain (.sl aY dQ (Sp.pieces (sep.getD 0 0) s) true)])],none⟩:=(congrArg Prod.snd hF).symm;subst hp1 hout;have hs:s.length<=4294960000:=hp.1;obtain⟨c,hsep⟩:∃c:UInt8,sep=[c]:=hp.2.elim (λh=>⟨_,h⟩) λh=>⟨_,h⟩;subst hsep;have hgd:([c]:List UInt8).getD 0 0=c:=rfl;rw[hgd];obtain⟨m,hm⟩:=hG.2.2.2.2;refine(Tryz.strings_Split ⟨s.toArray⟩ ⟨([c]:List UInt8).toArray⟩ m w (by show s.toArray.size<_;rw[aw4];omega) hm (by show 1<=([c]:List UInt8).toArray.size;rw[aw4];exact avt 1)).mono ?_;rintro e w' ⟨rfl,rfl⟩;have hdata:=Lib.splitB_data (⟨([c]:List UInt8).toArray⟩:ByteArray) 0 (Lib.countB ⟨s.toArray⟩ ⟨([c]:List UInt8).toArray⟩) ⟨s.toArray⟩;have hall:=Lib.splitB_all (⟨([c]:List UInt8).toArray⟩:ByteArray) (by show 1<=([c]:List UInt8).toArray.size;rw[aw4];exact avt 1) 0 (Lib.countB ⟨s.toArray⟩ ⟨([c]:List UInt8).toArray⟩) ⟨s.toArray⟩ rfl;have am3:(Sp.pieces c s).map (·.1)=(Lib.splitB (⟨([c]:List UInt8).toArray⟩:ByteArray) 0 (Lib.countB ⟨s.toArray⟩ ⟨([c]:List UInt8).toArray⟩) ⟨s.toArray⟩).map (·.data.toList):=by rw[hdata,aid];rfl
   generalize hB:Lib.splitB (⟨([c]:List UInt8).toArray⟩:ByteArray) 0 (Lib.countB ⟨s.toArray⟩ ⟨([c]:List UInt8).toArray⟩) ⟨s.toArray⟩=B at*;have hlen:(Sp.pieces c s).length=B.length:=by have:=congrArg List.length am3;simpa using this
   rw[← hall,← hlen];have hle:=Sp.pieces_len c s;refine⟨_,λ_=>undef,rfl,rfl,rfl,rfl,acA,λb hb=>heap_alloc_old w _ hb,?_,(λo x hx=>afg),(λo x q y b hx=>afg)⟩;refine⟨?_,.inr ⟨w.heap.size,0,(Sp.pieces c s).length,_,9,(0,0),rfl,avt _,⟨⟨?_,?_,?_⟩,?_⟩,awf w _,?_⟩⟩
   .rw[maxLen_eq];omega
   .show w.heap.size<(w.alloc _).heap.size;simp
   .exactλh=>absurd h (Nat.lt_irrefl _)
   .exactλo x hx=>afg
   .exactλ_=>avt _
   .intro i x hx;have hxl:=Cc x (awc hx);have hy:(B.map (·.data.toList))[i]? =some x.1:=by rw[← am3,awn,hx];rfl
    rw[awn,axH]at hy;obtain⟨y,hy,hyx⟩:=hy;show aJ _ _ (.cons .str .nil) (((B.map Value.string).drop (0+i*1)).take 1) x;rw[avV,axR];refine⟨.string y,[],?_,⟨?_,ac2⟩,rfl⟩
    .have hl:i<(B.map Value.string).length:=by rw[avI];exact(avG.1 hy).1
     rw[awY hl];simp only[awP,axy,aya];obtain⟨_,e⟩:=List.getElem_of_getElem? hy;rw[e]
    .rw[← hyx]
 .cases hcon
end Go.Proofs.Tryz
