import Derived.Test.YtpipombdnmdimaaGreatDoorF
import Derived.Test.YtpipombdnmdimaaGreatDoorShelf
import Derived.Test.YtpipombdnmdimaaGreatDoorFwC
import Derived.Lib.ItoaLen
import Derived.WalkKit
import Derived.BigCall
import Derived.Lib.AtoiTie
import Derived.Lib.AtoiErrMem
import Derived.Lib.AtoiBound
import Derived.Test.YtpipombdnmdimaaGreatDoorSp
import Derived.Lib.SplitLaws
namespace Go.Proofs.Tryz
open Go Go.Fw Go.RowKit Sp
theorem aqa(w:World)(A:Array Value)(t:TypeId):unf (w.alloc (.cells A t)) w.heap.size:=λa d b L=>by cases (show some (Obj.cells a d b)=some (.cells A t (0,0))from L.symm.trans (FC w _));exactλk _ h=>aIg k h.2
theorem ak0:fF prog G Pv LV:=by
 intro args p out k S vs w hcon hp hG hrep;unfold LV iw zf at hcon;split at hcon
 .next x hx=>
  obtain⟨n,⟨⟩⟩:=x;have hv:=Ig Nl args _ vs.toList hx hrep
  match hvs:vs.toList,hv with
  |[v],hv=>
   have e1:v=.int .i64 n:=hv.1.1;have e2:vs=#[.int .i64 n]:=by obtain⟨l⟩:=vs;simp at hvs;rw[hvs,e1]
   subst e2;have hF:=Option.some.inj hcon;have hp1:p=((-9223372036854775808:Int)<=n/\n<=9223372036854775807):=(congrArg Prod.fst hF).symm;have hout:out=⟨[(false,[.plain (.str (Lib.itoa n))])],none⟩:=(congrArg Prod.snd hF).symm;subst hp1 hout;refine(Tryz.strconv_Itoa n hp.1 hp.2 w hG.1).mono ?_;rintro e w' ⟨rfl,d,os,rfl⟩;have hlen:=Lib.itoa_length_le n hp.1 hp.2;refine⟨_,λ_=>undef,rfl,rfl,rfl,rfl,by simp[Sort.grow,World.drewN],λb hb=>?_,⟨rfl,(by unfold maxLen;omega)⟩,(λo x hx=>by cases hx),(λo x q y b hx=>by cases hx)⟩;show(w.heap++os)[b]? =_;rw[aI4 hb]
 .cases hcon
theorem Xk(n a b:Int)(w:World):Calls prog 70 #[.int .i64 n,.int .i64 a,.int .i64 b] w λe w'=>e=.returned (.bool (decide (a<=n)&&decide (n<=b)))/\w'=w:=by
 have mixed:=Tryz.mixed;by_cases h:a<=n
 · go_enter Tryz.func70,Tryz.ntmps70
   go_wp2
   go_ret
   simp[h]
 · go_enter Tryz.func70,Tryz.ntmps70
   go_wp2
   go_ret
   have h1:decide (a<=n)=false:=aHD lu;rw[h1];exact⟨rfl,rfl⟩
set_option maxRecDepth 100000 in
theorem Yr(n:Int)(h0:-9223372036854775808<=n)(h1:n<=9223372036854775807)(w:World)(hG:G.ok w):Calls prog 122 #[.int .i64 n] w λe w'=>e=.returned (.string ⟨(Lib.itoa n).toArray⟩)/\Below w.heap.size w w':=by
 have mixed:=Tryz.mixed
 go_enter Tryz.func122,Tryz.ntmps122
 go_wp2_with (go_at_call 180;refine(Tryz.strconv_Itoa n h0 h1 _ hG.1).mono ?_;rintro e w' ⟨rfl,d,os,rfl⟩)
 go_ret
 refine⟨rfl,rfl,rfl,rfl,by simp[Sort.grow,World.drewN],λb hb=>?_⟩;show(w.heap++os)[b]? =_;rw[aI4 hb]
theorem fC{w w':World}(a:G.ok w)(h:Below w.heap.size w w'):G.ok w':=G.stable w w' a h.size λb J=>h.block b (aHR J (G.low w a))
set_option maxHeartbeats 4000000 in
set_option maxRecDepth 100000 in
theorem aoc(s:List UInt8)(w:World)(hG:G.ok w):
 Calls prog 169 #[.string ⟨s.toArray⟩] w λe w'=>e=.returned (.tuple #[.int .i64 (Sp.parseNum s),.bool (bW s)])/\Below w.heap.size w w':=by
 have mixed:=Tryz.mixed;have hsz:(⟨s.toArray⟩:ByteArray).size=s.length:=by show s.toArray.size=_;simp
 by_cases hlen:10<s.length
 .have e1:=adO hlen;rw[F7 e1,e1];have hl:(10:Int)<(s.length:Int):=lu
  go_enter Tryz.func169,Tryz.ntmps169
  go_wp2
  go_ret2
  exact⟨rfl,Below.refl _ _⟩
 .have hl:¬(10:Int)<(s.length:Int):=lu;have hd:(⟨s.toArray⟩:ByteArray).data.toList=s:=rfl;cases ha:Lib.atoi s with
  |none=>
   have hall:Lib.atoiAll (⟨s.toArray⟩:ByteArray).data.toList=Lib.NumEnd.ofOption none:=by rw[hd,Lib.atoiAll_short s lu,ha]
   have e1:bW s=false:=by
    cases hp:bW s with
    |false=>rfl
    |true=>have:=(jV (kV hp).2).2.1;rw[(kV hp).1,ha]at this;cases this
   rw[F7 e1,e1];obtain⟨ev,hv,hev⟩:=hG.2.2.1
   go_enter Tryz.func169,Tryz.ntmps169
   go_wp2_with (go_at_call 212;refine(Tryz.strconv_Atoi_syntax ⟨s.toArray⟩ (by rw[hsz];omega) hall ev _ hv hev).mono ?_;rintro e W1 ⟨N,rfl,-,-,hb⟩)
   go_ret2
   exact⟨rfl,hb⟩
  |some v=>
   have hbd:=Lib.atoi_bound ha lu;have hai:Lib.atoi (⟨s.toArray⟩:ByteArray).data.toList=some v:=ha;by_cases hu:iC v=true
   .have hu2:=lU.1 hu;have hu0:(0:Int)<=v:=hu2.1;have hu1:v<=1000000000:=hu2.2;by_cases he:Lib.itoa v=s
    .obtain⟨e1,e2⟩:=ZQ hu he;rw[e1,e2]
     go_enter Tryz.func169,Tryz.ntmps169
     go_wp2_with (first
      |(go_at_call 212;refine(Tryz.strconv_Atoi ⟨s.toArray⟩ v (by rw[hsz];omega) hai _).mono ?_;rintro e w' ⟨rfl,t,rfl⟩)
      |(go_at_call 70;refine(Xk _ _ _ _).mono ?_;rintro e w' ⟨rfl,rfl⟩)
      |(go_at_call 122;refine(Yr v lu lu _ (fC hG (Lib.bytesWorld_below _ _ _))).mono ?_;rintro e w2 ⟨rfl,hb2⟩))
     all_goals (go_ret2;exact⟨rfl,(Lib.bytesWorld_below _ _ _).trans (hb2.mono (Lib.bytesWorld_below _ _ _).size)⟩)
    .have e1:bW s=false:=by
      cases hp:bW s with
      |false=>rfl
      |true=>obtain⟨g1,g2⟩:=kV hp;have:=(jV g2).2.1;rw[g1,ha]at this;exact absurd (by rw[Option.some.inj this];exact g1) he
     rw[F7 e1,e1];have hne:(Lib.itoa v==s)=false:=aHt.2 he
     go_enter Tryz.func169,Tryz.ntmps169
     go_wp2_with (first
      |(go_at_call 212;refine(Tryz.strconv_Atoi ⟨s.toArray⟩ v (by rw[hsz];omega) hai _).mono ?_;rintro e w' ⟨rfl,t,rfl⟩)
      |(go_at_call 70;refine(Xk _ _ _ _).mono ?_;rintro e w' ⟨rfl,rfl⟩)
      |(go_at_call 122;refine(Yr v lu lu _ (fC hG (Lib.bytesWorld_below _ _ _))).mono ?_;rintro e w2 ⟨rfl,hb2⟩))
     all_goals (go_ret2;exact⟨rfl,(Lib.bytesWorld_below _ _ _).trans (hb2.mono (Lib.bytesWorld_below _ _ _).size)⟩)
   .have e1:bW s=false:=by
     cases hp:bW s with
     |false=>rfl
     |true=>obtain⟨g1,g2⟩:=kV hp;have:=(jV g2).2.1;rw[g1,ha]at this;exact absurd (by rw[Option.some.inj this];exact g2) hu
    rw[F7 e1,e1];have hw:(decide ((0:Int)<=v)&&decide (v<=1000000000))=false:=by
     have:iC v=false:=by simpa using hu
     exact this
    go_enter Tryz.func169,Tryz.ntmps169
    go_wp2_with (first
     |(go_at_call 212;refine(Tryz.strconv_Atoi ⟨s.toArray⟩ v (by rw[hsz];omega) hai _).mono ?_;rintro e w' ⟨rfl,t,rfl⟩)
     |(go_at_call 70;refine(Xk _ _ _ _).mono ?_;rintro e w' ⟨rfl,rfl⟩;rw[hw]))
    all_goals (go_ret2;exact⟨rfl,Lib.bytesWorld_below _ _ _⟩)
theorem CP:fF prog G yu uS:=by
 intro args p f k S I w n C i d;unfold uS iw zf at n;split at n
 .next x Z=>
  obtain⟨s,⟨⟩⟩:=x;have K:=Ig BQ args _ I.toList Z d
  match hvs:I.toList,K with
  |[v],K=>
   have h:v=.string ⟨s.toArray⟩:=K.1.1;have T:I=#[.string ⟨s.toArray⟩]:=by obtain⟨l⟩:=I;simp at hvs;rw[hvs,h]
   subst T;have g:=Option.some.inj n;have a:f=⟨[(false,[.plain (.int .i64 (Sp.parseNum s))]),(false,[.plain (.bool (bW s))])],none⟩:=(congrArg Prod.snd g).symm;subst a;refine(aoc s w i).mono ?_;rintro e m ⟨rfl,J⟩;have j:=lU.1 (FI s);refine⟨_,λ_=>undef,rfl,J.os,J.tape,J.output,J.size,J.block,?_,(λo x Z=>O6),(λo x q y b Z=>O6)⟩;exact⟨_,rfl,⟨rfl,(show(-9223372036854775808:Int)<=Sp.parseNum s from lu),(show Sp.parseNum s<=9223372036854775807 from lu)⟩,rfl,trivial⟩
 .cases n
theorem N9:fF prog G DC xX:=by
 intro args p O k S I w n C hG s;unfold xX iw zf at n;split at n
 .next x Z=>
  obtain⟨l,d,⟨⟩⟩:=x;have K:=Ig Gz args _ I.toList Z s
  match hvs:I.toList,K with
  |[v,u],K=>
   have Y:u=.string ⟨d.toArray⟩:=K.2.1.1;have M:dw w.heap _ (.sl bF dZ) v l:=K.1;have T:I=#[v,.string ⟨d.toArray⟩]:=by obtain⟨l⟩:=I;simp at hvs;rw[hvs,Y]
   subst T;have U:=Option.some.inj n;have F:p=(l.length<=140737488355328/\(Lib.join (l.map (·.1)) d).length<=140737488355328):=(congrArg Prod.fst U).symm;have r:O=⟨[(false,[.plain (.str (Lib.join (l.map (·.1)) d))])],none⟩:=(congrArg Prod.snd U).symm;subst F r;obtain⟨Q,g⟩:=M;have q:(Lib.join (l.map (·.1)) d).length<=maxLen:=by have:=C.2;unfold maxLen;omega
   rcases g with⟨rfl,a,c,rfl⟩|⟨b,m,D,A,t,fz,rfl,L,hS,J,Z⟩
   .refine(Tryz.strings_Join_none a c ⟨d.toArray⟩ w).mono ?_;rintro e w' ⟨rfl,rfl⟩;exact asE rfl rfl rfl (aHv _) (λ_ _=>rfl) q
   .have hcells:∀(j:Nat)(x:ByteArray),(l.map λy:List UInt8×Unit=>(⟨y.1.toArray⟩:ByteArray))[j]? =some x->w.cell? ⟨b,m+j,none⟩=some (.string x):=by
     intro j x W;rw[aId,aJe]at W;obtain⟨y,B,rfl⟩:=W;have:=Z j y B;rw[show j*au.len (.cons .str .nil)=j from aIZ j]at this;obtain⟨P,R,z,H,X⟩:=this;have N:P=.string ⟨y.1.toArray⟩:=H.1;have i:A[m+j]? =some P:=by
      have h0:((A.toList.drop (m+j)).take (au.len (.cons .str .nil)))[0]? =(P::R)[0]? :=by rw[z]
      simpa[au.len]using h0
     simp only[World.cell?,J];simpa[N]using i
    have f:(l.map λy:List UInt8×Unit=>(⟨y.1.toArray⟩:ByteArray)).map (λx:ByteArray=>x.data.toList)=l.map (·.1):=by rw[aIR];rfl
    have E:b<w.heap.size:=by
     rcases aHU b w.heap.size with h|h
     .exact h
     .rw[aJH h]at J;cases J
    have:=Tryz.strings_Join b m D (l.map λy:List UInt8×Unit=>(⟨y.1.toArray⟩:ByteArray)) ⟨d.toArray⟩ w hcells E (by rw[aHL];exact C.1) (by rw[aHL];exact L) (by rw[f];exact C.2);rw[aHL,f]at this;refine this.mono ?_;rintro e w' ⟨rfl,o⟩;exact asE o.os o.tape o.output o.size o.block q
 .cases n
theorem V3:∀(l R:List UInt8)(x:List UInt8),x∈Lib.fieldsGo R l->x.length<=R.length+l.length
 |[],R,x,h=>by
  rw[Lib.fieldsGo]at h;split at h
  .cases h
  .simp at h;subst h;simp
 |b::l,R,x,h=>by
  rw[Lib.fieldsGo]at h;split at h
  .split at h
   .have:=V3 l [] x h;simp at this ⊢;omega
   .rcases aHH.1 h with rfl|h
    .simp
    .have:=V3 l [] x h;simp at this ⊢;omega
  .have:=V3 l (R++[b]) x h;simp at this ⊢;omega
theorem cnt_le:∀(l:List UInt8)(b:Bool),Lib.cntF b l<=l.length
 |[],_=>aHv _
 |c::l,b=>by have:=cnt_le l (Lib.isSp c);simp only[Lib.cntF,aHx];split<;>omega
theorem afZ:fF prog G L6 H6:=by
 intro args p m k S I w n C u d;unfold H6 iw zf at n;split at n
 .next x Z=>
  obtain⟨s,⟨⟩⟩:=x;have K:=Ig JU args _ I.toList Z d
  match hvs:I.toList,K with
  |[v],K=>
   have t:v=.string ⟨s.toArray⟩:=K.1.1;have T:I=#[.string ⟨s.toArray⟩]:=by obtain⟨l⟩:=I;simp at hvs;rw[hvs,t]
   subst T;have r:=Option.some.inj n;have f:p=(s.length<=1048576/\ac5 s=true):=(congrArg Prod.fst r).symm;have a:m=⟨[(false,[.plain (.sl bF dZ (Sp.wordsOf s) true)])],none⟩:=(congrArg Prod.snd r).symm;subst f a;have X:s.length<=1048576:=C.1;refine(Tryz.strings_Fields ⟨s.toArray⟩ w (by show s.toArray.size<_;rw[aJF];omega) (λj b z=>?_) u.2.1).mono ?_
   .have h:=aHS.1 C.2 b (aH5 (by simpa using z));exact aIt h
   rintro e A ⟨rfl,rfl⟩;have Y:(Lib.fields s).length<=1048576:=by rw[Lib.fields_length];have:=cnt_le s true;omega
   refine⟨_,λ_=>undef,rfl,rfl,rfl,rfl,vk,λb J=>heap_alloc_old w _ J,?_,(λo x Z=>O6),(λo x q y b Z=>O6)⟩;refine⟨?_,.inr ⟨w.heap.size,0,(Lib.fields s).length,_,9,(0,0),?_,?_,⟨⟨?_,?_,?_⟩,?_⟩,aH6 w _,?_⟩⟩
   .show((Lib.fields s).map (·,())).length<=maxLen;rw[aHL,maxLen_eq];omega
   .show _=Value.slice _ ((Lib.fields s).map (·,())).length _;rw[aHL]
   .show((Lib.fields s).map (·,())).length<=_;rw[aHL];exact aHv _
   .show w.heap.size<(w.alloc _).heap.size;simp
   .exactλh=>absurd h (Nat.lt_irrefl _)
   .exactλo x Z=>O6
   .exactλ_=>⟨aHv _,aqa _ _ _⟩
   .intro i x Z;have Z:((Lib.fields s).map (·,()))[i]? =some x:=Z;rw[aId,aJe]at Z;obtain⟨y,B,rfl⟩:=Z;have g:=V3 s [] y (aH5 B);show aY _ _ (.cons .str .nil) ((((Lib.fields s).map λl=>Value.string ⟨l.toArray⟩).drop (0+i*1)).take 1) (y,());rw[aIn,aIZ];refine⟨.string ⟨y.toArray⟩,[],?_,⟨rfl,by rw[maxLen_eq];simp at g;omega⟩,rfl⟩;have Q:i<((Lib.fields s).map λl=>Value.string ⟨l.toArray⟩).length:=by rw[aHL];exact(aHN.1 B).1
    rw[aI6 Q];simp only[aJa,aKi,List.getElem_map];obtain⟨_,e⟩:=List.getElem_of_getElem? B;rw[e]
 .cases n
theorem Um:fF prog G Oa JS:=by
 intro args p H k S I w n C N r;unfold JS iw zf at n;split at n
 .next x Z=>
  obtain⟨s,a,⟨⟩⟩:=x;have K:=Ig Ep args _ I.toList Z r
  match hvs:I.toList,K with
  |[v,u],K=>
   have M:v=.string ⟨s.toArray⟩:=K.1.1;have A:u=.string ⟨a.toArray⟩:=K.2.1.1;have T:I=#[.string ⟨s.toArray⟩,.string ⟨a.toArray⟩]:=by obtain⟨l⟩:=I;simp at hvs;rw[hvs,M,A]
   subst T;have L:=Option.some.inj n;have E:p=(s.length<=4294960000/\(a=[32]\/a=[10])):=(congrArg Prod.fst L).symm;have j:H=⟨[(false,[.plain (.sl bF dZ (Sp.pieces (a.getD 0 0) s) true)])],none⟩:=(congrArg Prod.snd L).symm;subst E j;have X:s.length<=4294960000:=C.1;obtain⟨c,t⟩:∃c:UInt8,a=[c]:=C.2.elim (λh=>⟨_,h⟩) λh=>⟨_,h⟩;subst t;have D:([c]:List UInt8).getD 0 0=c:=rfl;rw[D];obtain⟨m,P⟩:=N.2.2.2.2;refine(Tryz.strings_Split ⟨s.toArray⟩ ⟨([c]:List UInt8).toArray⟩ m w (by show s.toArray.size<_;rw[aJF];omega) P (by show 1<=([c]:List UInt8).toArray.size;rw[aJF];exact aHv 1)).mono ?_;rintro e U ⟨rfl,rfl⟩;have d:=Lib.splitB_data (⟨([c]:List UInt8).toArray⟩:ByteArray) 0 (Lib.countB ⟨s.toArray⟩ ⟨([c]:List UInt8).toArray⟩) ⟨s.toArray⟩;have g:=Lib.splitB_all (⟨([c]:List UInt8).toArray⟩:ByteArray) (by show 1<=([c]:List UInt8).toArray.size;rw[aJF];exact aHv 1) 0 (Lib.countB ⟨s.toArray⟩ ⟨([c]:List UInt8).toArray⟩) ⟨s.toArray⟩ rfl;have f:(Sp.pieces c s).map (·.1)=(Lib.splitB (⟨([c]:List UInt8).toArray⟩:ByteArray) 0 (Lib.countB ⟨s.toArray⟩ ⟨([c]:List UInt8).toArray⟩) ⟨s.toArray⟩).map (·.data.toList):=by rw[d,asR];rfl
   generalize R:Lib.splitB (⟨([c]:List UInt8).toArray⟩:ByteArray) 0 (Lib.countB ⟨s.toArray⟩ ⟨([c]:List UInt8).toArray⟩) ⟨s.toArray⟩=B at*;have Y:(Sp.pieces c s).length=B.length:=by have:=congrArg List.length f;simpa using this
   rw[← g,← Y];have O:=Sp.pieces_len c s;refine⟨_,λ_=>undef,rfl,rfl,rfl,rfl,vk,λb J=>heap_alloc_old w _ J,?_,(λo x Z=>O6),(λo x q y b Z=>O6)⟩;refine⟨?_,.inr ⟨w.heap.size,0,(Sp.pieces c s).length,_,9,(0,0),rfl,aHv _,⟨⟨?_,?_,?_⟩,?_⟩,aH6 w _,?_⟩⟩
   .rw[maxLen_eq];omega
   .show w.heap.size<(w.alloc _).heap.size;simp
   .exactλh=>absurd h (Nat.lt_irrefl _)
   .exactλo x Z=>O6
   .exactλ_=>⟨aHv _,aqa _ _ _⟩
   .intro i x Z;have Q:=Il x (aH5 Z);have z:(B.map (·.data.toList))[i]? =some x.1:=by rw[← f,aId,Z];rfl
    rw[aId,aJe]at z;obtain⟨y,z,F⟩:=z;show aY _ _ (.cons .str .nil) (((B.map Value.string).drop (0+i*1)).take 1) x;rw[aIn,aIZ];refine⟨.string y,[],?_,⟨?_,y8⟩,rfl⟩
    .have hl:i<(B.map Value.string).length:=by rw[aHL];exact(aHN.1 z).1
     rw[aI6 hl];simp only[aJa,aKi,List.getElem_map];obtain⟨_,e⟩:=List.getElem_of_getElem? z;rw[e]
    .rw[← F]
 .cases n
end Go.Proofs.Tryz
