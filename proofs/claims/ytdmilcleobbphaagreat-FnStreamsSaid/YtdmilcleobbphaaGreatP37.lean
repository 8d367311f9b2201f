import Derived.Test.YtdmilcleobbphaaGreatP20
import Derived.Test.YtdmilcleobbphaaGreatSp
import Derived.Test.YtdmilcleobbphaaGreatL4
import Derived.Test.YtdmilcleobbphaaGreatV20
import Derived.Test.YtdmilcleobbphaaGreatFwC
import Derived.Deep.AppendLies
import Derived.Deep.RegionLaw
import Derived.BigRegion
import Derived.Test.YtdmilcleobbphaaGreatV25
import Derived.Laws.ResultCell
namespace Go.Proofs.Tryz
open Go Go.Fw Go.IntWalk Sp
variable {c:dF}{u id:Int}{name:Sp.Bytes}{b:Bool}
theorem aC6(h:(dn c&&(rP c u id&&(sH (bF c) name).2))=false):Ox c u name id b=false:=by grind [Ox]
theorem aLV(h:Dn c u name id b (DU c u name id b)=false):Ox c u name id b=false:=by grind [Ox]
variable {w:BJ}
theorem aOo(h:w.1=false):Dn c u name id b w=false:=by grind [Dn]
theorem aOp(h:(xI c id w.2.1).2=false):Dn c u name id b w=false:=by grind [Dn]
theorem aOq(h:(Sp.listed (xI c id w.2.1).1 (bF c) u name id==b)=false):Dn c u name id b w=false:=by grind [Dn]
theorem aOr{i:Nat}(D:i<w.2.1.length)(h:Sp.needed c u name id b w.2.1 i=false):Dn c u name id b w=false:=by grind [Dn,uf]
theorem aLW(C:w.1=true)(O:(xI c id w.2.1).2=true)(K:(Sp.listed (xI c id w.2.1).1 (bF c) u name id==b)=true)(x:∀i,i<w.2.1.length->Sp.needed c u name id b w.2.1 i=true):
 Dn c u name id b w=true:=by grind [Dn,kV]
theorem aLX(C:dn c=true)(O:rP c u id=true)(K:(sH (bF c) name).2=true)(x:Dn c u name id b (DU c u name id b)=true):Ox c u name id b=true:=by
 grind [Ox]
theorem FM{z:dF}(h:Ox c u name id b=false)(e:z=c):Sp.written c u name id b z [] false:=⟨h.symm,λh=>o5,λ_=>⟨e,rfl⟩⟩
theorem anv{x:dF}{l:List aW}{a:Bool}(h:Sp.changed c (Sp.edited (bI (aQ c) id).1 l) true x a)(N:dn c=true):a=(xI c id l).2/\(a=true->aQ x=(xI c id l).1/\bF x=bF c/\dn x=true):=by obtain⟨C,O,_⟩:=h;rw[N]at C;exact⟨C,O⟩
theorem VA(c:dF)(u id:Int)(name:Sp.Bytes)(b:Bool):∃d a,Sp.written c u name id b d a (Ox c u name id b):=by
 cases h:Ox c u name id b with
 |false=>exact⟨c,[],FM h rfl⟩
 |true=>obtain⟨k,m,n,o,l,q,r⟩:=asQ h;obtain⟨x,Z⟩:=aB8 c (Sp.edited (bI (aQ c) id).1 (DU c u name id b).2.1) true;obtain⟨i,j⟩:=anv Z k;obtain⟨e,f,g⟩:=j (i.trans l);exact⟨x,_,h.symm,λ_=>⟨e,f,g,rfl⟩,λh=>o5⟩
theorem ayh{d:List aH}(h:aK d)(name:Sp.Bytes):(sH d name).1.2.1.length<=1000:=by
 have e:sH d name=bif decide (bn d name<0)then(([],[],()),false)else(dh d (bn d name).toNat,true):=rfl
 rw[e];rcases yG d name with⟨g,_⟩|⟨n,H,g,_,_⟩
 · grind
 .rw[g,aQH fC,aQs];exact h.2 _ (getD_mem H)
theorem aID:(DU c u name id b).2.1.length<=256:=by
 unfold DU KU;cases h:aN (sH (bF c) name).1.2.1 with
 |false=>exact aQx _
 |true=>have C:=(Sp.jF h).2;refine aQn (asO _ _ _ _ _) ?_;exact aQn (aRE (n:=2) jI (show(sH (bF c) name).1.2.1.length-1<=8 from fC)) jI
theorem aj7(h:dn c=true)(X:(bI (aQ c) id).2=true):(bI (aQ c) id).1.2.2.2.2.1.length<=5:=by
 obtain⟨d,_⟩:=ai2 h;obtain⟨a,_,e,_⟩:=Dk.1 d;have C:=aeW (Hq (a _ (VG X).1).1)
 grind [fJ]
theorem ab1{l:List aW}(N:kC c)(h:dn c=true)(X:(bI (aQ c) id).2=true)(W:l.length<=400):
 iU c/\fZ (Sp.edited (bI (aQ c) id).1 l)/\akG c/\akH (Sp.edited (bI (aQ c) id).1 l):=by
 have C:=aj7 h X;have O:=asP (a:=(bI (aQ c) id).1.2.2.2.2.1) (l:=l);exact⟨N.1,show(zC (bI (aQ c) id).1.2.2.2.2.1 l).length<=1000 from fC,aAE N.2.1,show(zC (bI (aQ c) id).1.2.2.2.2.1 l).length<=500 from fC⟩
theorem apJ{x:dF}(h:dn x=true)(e:aK (bF x))(a:qw u=true):aV (aQ x)/\aK (bF x)/\Nl (aQ x) (bF x) u:=by obtain⟨d,f,_⟩:=ai2 h;exact⟨(axe h e).1,e,d,f,a⟩
theorem aKJ{r:List fA}(hr:r=vM (Sp.visible (aQ c) u).2.1 (bF c)):KU (sH (bF c) name).1.2.1 (bI (Sp.visible (aQ c) u) id).1 (bK r) b=DU c u name id b:=by rw[hr];rfl
theorem Zz:OK Ey.e:=by
 refine eP [zh.e,Ry.e,AY.e,Iw.e,Ew.e,Bh.e,wB.e,xP.e,tH.e,Nj.e,UI.e,mW.e] ⟨Uo,apG,WB,amx,ahB,adB,Jg,TQ,N8,asJ,asF,qx,⟨⟩⟩ asR (λ⟨c,u,name,id,b,_⟩ _=>by obtain⟨d,st,h⟩:=VA c u id name b;exact⟨((((d.1,d.2.1,d.2.2.1,d.2.2.2.1,d.2.2.2.2.1,()),st,Ox c u name id b,()),())),h⟩) λf j k l m u name id b=>show Ey.goal (ZA f j k l m u name id b) ((f,j,k,l,m,()),u,name,id,b,())fromλB J=>?_
 dsimp only[Ey]at J ⊢;have J:kC (f,j,k,l,m,()):=J
 suffices key:∀C:dF,kC C->ZA C.1 C.2.1 C.2.2.1 C.2.2.2.1 C.2.2.2.2.1 u name id b λz=>Sp.written C u name id b (z.1.1.1,z.1.1.2.1,z.1.1.2.2.1,z.1.1.2.2.2.1,z.1.1.2.2.2.2.1,()) z.1.2.1 z.1.2.2.1 from key (f,j,k,l,m,()) J
 clear B J;intro C J;refine⟨J.1,?_⟩;rintro⟨⟨C2,⟨⟩⟩,⟨⟩⟩ q;have q:C2=C:=q;subst q;refine⟨J.1,J.1.2.1,⟨J.1.1,J.1.2.1⟩,?_⟩;rintro⟨⟨r,okr,⟨⟩⟩,⟨⟩⟩ hr;refine⟨λ_=>dn C2=true/\rP C2 u id=true/\(sH (bF C2) name).2=true,af (λh=>FM (aC6 ?_) rfl) λt=>af (λh=>FM (aC6 ?_) rfl) λO=>⟨rfl,?_⟩,?_⟩
 · grind
 · grind [bF]
 .have h:(rP C2 u id&&dn C2)=true:=dN t;rw[aQm]at h;exact⟨h.2,h.1,dN O⟩
 .rintro _ ⟨p1,p2,p3⟩;have N:=agE p2;have X:=(aAM p2).1;have s:=apJ p1 J.1.2.1 N;have hr:r=_:=hr.1;have hr:=hr.trans (congrArg Prod.fst (TR s.2.2));dsimp only at hr;have S:bW r:=by rw[hr];exact asL J.1.1 J.1.2.1 s.2.2
  have R:=ayh J.1.2.1 name;have e:=λb=>aKJ (c:=C2) (u:=u) (id:=id) (name:=name) (b:=b) hr;refine⟨J.1.1,PS u J.1.1,⟨R,S⟩,λy=>y.2.1=DU C2 u name id b,af (λh=>⟨⟨R,S⟩,rfl,?_⟩) λh=>⟨rfl,?_⟩,?_⟩
  .subst h;exact e true
  .subst h;exact e false
  .rintro⟨⟨⟩,w,⟨⟩⟩ o;have o:w=DU C2 u name id b:=o;have L:w.2.1.length<=256:=by grind [aID]
   have wa:Dp w.2.1:=by grind [aIE]
   have K:Dn C2 u name id b w=false->Ox C2 u name id b=false:=λh=>aLV jv;refine af (λh=>FM (K (aOo (kJ h))) rfl) λt=>⟨⟨aQn (aj7 p1 X) jI,aQn L jI⟩,?_⟩;rintro⟨⟨g,⟨⟩⟩,⟨⟩⟩ a;have a:g=Sp.edited (bI (aQ C2) id).1 w.2.1:=a;subst a;refine⟨ab1 J p1 X (aQn L jI),?_⟩;rintro⟨⟨x,df,okx,⟨⟩⟩,⟨⟩⟩ hx;obtain⟨Q,k2⟩:=anv (anu (b:=true) rfl hx) p1;have Y:okx=true->aV (aQ x)/\aK (bF x)/\Nl (aQ x) (bF x) u:=λh=>by
    grind [apJ]
   refine⟨λ_=>okx=true/\(Sp.listed (xI C2 id w.2.1).1 (bF C2) u name id==b)=true,af (λh=>FM (K (aOp (Q.symm.trans (kJ h)))) rfl) λO=>⟨Y (dN O),?_⟩,?_⟩
   .obtain⟨g1,g2,g3⟩:=k2 (dN O);have el:Sp.listed (x.1,x.2.1,x.2.2.1,()) x.2.2.2.1 u name id=Sp.listed (xI C2 id w.2.1).1 (bF C2) u name id:=by rw[← g1,← g2];rfl
    grind [FM,aOq]
   .rintro _ ⟨w2,w3⟩;have w1:w.1=true:=dN t;refine bQ (s0:=()) (λi(_:Unit)=>((i,()),())) (λy=>y.1.1) (λ_ _=>rfl) w.2.1.length fC (λn _=>∀i,i<n->Sp.needed C2 u name id b w.2.1 i=true) (λi D=>fC) (λI P n _ H E next=>?_) λI P _ E=>?_
    .dsimp only;have U:IntKind.i64.wrap ((n:Int)+1)=((n+1:Nat):Int):=eH _ fC;rw[U]at next ⊢;rw[aQs,aQs,List.drop_zero,aQK];have W:w.2.1.take n++w.2.1.drop (n+1)=Dq w.2.1 n:=rfl;have A:(Dq w.2.1 n).length<=256:=aQn (asT w.2.1 n).length_le L;have l1:(w.2.1.take n).length<=256:=jv;have l2:(w.2.1.drop (n+1)).length<=256:=jv;rw[W];refine dH fC ⟨⟨fC,fC⟩,o6,⟨fC,fC⟩,o6,⟨aQn (aj7 p1 X) jI,aQn A jI⟩,?_⟩;rintro⟨⟨g,⟨⟩⟩,⟨⟩⟩ a;have a:g=Sp.edited (bI (aQ C2) id).1 (Dq w.2.1 n):=a;subst a;refine⟨⟨J.1.1,(ab1 J p1 X (aQn A jI)).2.1⟩,?_⟩;rintro⟨⟨⟨s1,s2,s3,⟨⟩⟩,okz,⟨⟩⟩,⟨⟩⟩ ⟨z1,z2,z3,z4⟩;have T:(s1,s2,s3,())=(xI C2 id (Dq w.2.1 n)).1:=by refine Prod.ext z1 (Prod.ext z2 (Prod.ext z3 rfl))
     have eo:okz=(xI C2 id (Dq w.2.1 n)).2:=z4;have M:(xI C2 id (Dq w.2.1 n)).2=true:=aIF n X wa (Q.symm.trans w2);have F:Sp.needed C2 u name id b w.2.1 n=((xI C2 id (Dq w.2.1 n)).2&&!(Sp.listed (xI C2 id (Dq w.2.1 n)).1 (bF C2) u name id==b)):=rfl;refine af (λh=>?_) λh=>?_
     .obtain⟨_,q2,_⟩:=aLY X M;have q3:aV (xI C2 id (Dq w.2.1 n)).1:=adx J.1.1 (ab1 J p1 X (aQn A jI)).2.1;dsimp only;rw[T];refine⟨⟨q3,J.1.2.1,q2,s.2.2.2.1,N⟩,af (λZ=>FM (K (aOr H ?_)) rfl) λZ=>⟨rfl,next () λi D=>?_⟩⟩
      · grind [bF]
      grind [bF]
     grind
    grind [aLX,aLW,bV,Sp.written]
theorem aoX:OK RD.e:=by
 refine eP [Ey.e] ⟨Zz,⟨⟩⟩ H0 (λ⟨c,u,name,id,_⟩ _=>by obtain⟨a,j,h⟩:=VA c u id name true;exact⟨((((a.1,a.2.1,a.2.2.1,a.2.2.2.1,a.2.2.2.2.1,()),j,Ox c u name id true,()),())),h⟩) λd e f g i u name id=>show RD.goal (apK d e f g i u name id) ((d,e,f,g,i,()),u,name,id,())fromλB J=>?_
 exact⟨J,λr h=>h⟩
theorem ada:OK Iy.e:=by
 refine eP [Ey.e] ⟨Zz,⟨⟩⟩ H0 (λ⟨c,u,name,id,_⟩ _=>by obtain⟨a,j,h⟩:=VA c u id name false;exact⟨((((a.1,a.2.1,a.2.2.1,a.2.2.2.1,a.2.2.2.2.1,()),j,Ox c u name id false,()),())),h⟩) λd e f g i u name id=>show Iy.goal (adD d e f g i u name id) ((d,e,f,g,i,()),u,name,id,())fromλB J=>?_
 exact⟨J,λr h=>h⟩
theorem aAg{x:dF}{st:List aW}(N:kC c)(h:Sp.written c u name id b x st true):kC x/\aV (aQ x)/\aK (bF x)/\Nl (aQ x) (bF x) u:=by
 obtain⟨k,Z,_⟩:=h;obtain⟨_,d,_⟩:=asQ k.symm;obtain⟨_,a,f,_⟩:=Z rfl;have e:aK (bF x):=by rw[a];exact N.1.2.1
 grind [avm,apJ,agE]
end Go.Proofs.Tryz
namespace Go.Proofs.Tryz
open Go Go.Fw Go.IntWalk
theorem ade:OK Iz.e:=by
 refine eP [zF.e] ⟨I5,⟨⟩⟩ afC (λ_ _=>⟨((_,()),()),rfl⟩)<|show Iz.goal (adE) (())fromλB J=>?_
 exact⟨trivial,λr h=>h⟩
end Go.Proofs.Tryz
namespace Go.Proofs.Tryz
open Go Go.Fw Go.IntWalk Sp
theorem amz:OK IA.e:=by
 refine dW [] ⟨⟩ H0 λx=>show IA.goal (amA x) (x,())fromλB J=>?_
 dsimp only[IA]at J ⊢;refine af (λh=>?_) λh=>?_<;>simp only[aQF,aQP]at h
 · grind [i64_in,u8_in]
 .omega
theorem avV{c:Int}(h:¬c.tmod 10<0):c.tmod 10=((c.natAbs%10:Nat):Int):=by
 grind
theorem aCe{c:Int}(h:c.tmod 10<0):0-c.tmod 10=((c.natAbs%10:Nat):Int):=by
 grind
theorem akd(k:Nat):byteRow [((48:Int)+(k:Int),())]=[UInt8.ofNat (48+k)]:=by
 grind [byteRow,aue]
theorem aEI{n c:Nat}{s:List UInt8}(N:c≠0)(E:Lib.decDigits n=(if c=0 then[]else Lib.decDigits c)++s):
 Lib.decDigits n=(if c / 10=0 then[]else Lib.decDigits (c / 10))++(UInt8.ofNat (48+c%10)::s):=by
 grind [avW]
theorem wY:OK oH.e:=by
 refine dW [IA.e] ⟨amz,⟨⟩⟩ apO λn=>show oH.goal (amB n) (n,())fromλB J=>?_
 dsimp only[oH]at J ⊢;have l:(-9223372036854775808:Int)<=n/\n<=9223372036854775807:=B.1;have i:=Lib.itoa_length_le n l.1 l.2;have g:(Lib.decDigits n.natAbs).length<=21:=by
  grind [Lib.itoa]
 refine af (λh=>?_) λh=>?_
 .have:n=0:=oQ
  simp_all [Lib.itoa,Lib.decDigits]
 .have hn0:n≠0:=oQ;refine⟨λy=>-9223372036854775808<=y.1.1/\y.1.1<=9223372036854775807/\Lib.decDigits n.natAbs=(if y.1.1.natAbs=0 then[]else Lib.decDigits y.1.1.natAbs)++y.1.2.1,λy=>y.1.1.natAbs,⟨l.1,l.2,?_⟩,?_⟩
  · grind
  rintro⟨⟨c,s,⟨⟩⟩,⟨⟩⟩ ⟨hc1,hc2,hJ⟩;dsimp only at hc1 hc2 hJ ⊢;have Y:s.length<=21:=by
   grind
  have u:(c.tdiv 10).natAbs=c.natAbs / 10:=Int.natAbs_tdiv c 10;have d:∀k:Nat,(byteRow [((48:Int)+(k:Int),())]).length=1:=λk=>by rw[akd];rfl
  refine af (λh=>?_) λh=>?_
  .have hc:c.natAbs≠0:=jv;have b:=aEI hc hJ;have j:c.natAbs%10<10:=Nat.mod_lt _ jI;have f:c.natAbs / 10<c.natAbs:=Nat.div_lt_self fC jI;have o:IntKind.i64.wrap (c.tdiv 10)=c.tdiv 10:=eH _ fC;refine⟨jI,af (λa=>?_) λa=>?_⟩<;>simp only[aQF,aQP]at a
   .have e:=aCe a;rw[eH (0-c.tmod 10) fC,e,o,akd]
    grind [maxLen_eq]
   .have e:=avV a;rw[e,o,akd]
    grind [maxLen_eq]
  grind [maxLen_eq,Lib.itoa]
theorem aOs{p q:Bool}{K:Bool×Unit->Prop}(h:K ((p&&q),())):bif p then K (q,())else K (false,()):=by cases p<;>exact h
theorem adb:OK IB.e:=by
 refine dW [gI.e] ⟨gW,⟨⟩⟩ H0 λa b d e f=>show IB.goal (adF a b d e f) ((a,b,d,e,f,()),())fromλB J=>?_
 exact⟨trivial,aOs (K:=λr=>r=(_,())) rfl⟩
theorem afH(x y:List UInt8):Lib.join [x,y] [32]=x++[32]++y:=by simp[Lib.join_cons,Lib.joinTail]
theorem as3(x y z:List UInt8):Lib.join [x,y,z] [32]=x++[32]++y++[32]++z:=by simp[Lib.join_cons,Lib.joinTail]
theorem Om:OK yx.e:=by
 refine dW [oH.e] ⟨wY,⟨⟩⟩ apP λa=>show yx.goal (amC a) (a,())fromλB J=>?_
 dsimp only[yx]at J ⊢;refine af (λh=>?_) λh=>?_
 · grind [ZC,aAN]
 .have hl:a.length<=10:=jv;refine bQ (mk:=λi v=>((v,i,()),())) (λy=>y.1.2.1) (λ_ _=>rfl) a.length fC
   (λn v=>v=yg (a.take n)/\∀i,i<n->48<=(a.getD i 0).toNat/\(a.getD i 0).toNat<=57) ⟨rfl,λi D=>absurd D (aRd _)⟩ (λI P n v H E next=>?_) λI P v E=>?_
  .obtain⟨rfl,hd⟩:=E;obtain⟨d,f⟩:=aAO H hl hd;dsimp only;refine dH fC ⟨⟨fC,fC⟩,af (λO=>?_) λO=>⟨⟨fC,fC⟩,af (λK=>?_) λK=>⟨⟨fC,fC⟩,rfl,?_⟩⟩⟩
   · grind [ZC,aa8]
   · grind [ZC,aa8]
   grind [eH,aCf]
  .obtain⟨rfl,hd⟩:=E;dsimp only;rw[aRi (aQp _)];refine gU fC (af (λO=>?_) λO=>⟨trivial,af (λK=>?_) λK=>?_⟩)
   · grind [ZC,oO,VH]
   · grind [ZC,VH]
   .have e:=aQv.1 (dN K);have l:0<=yg a:=(ZE a.length a rfl (λb U=>by
     grind [List.mem_iff_getElem])).1
    have:=as4 (oO.2 ⟨l,jv⟩) e
    grind
theorem Uk:OK qI.e:=by
 refine dW [] ⟨⟩ ake λa=>show qI.goal (ahJ a) (a,())fromλB J=>?_
 dsimp only[qI]at J ⊢;have J:a.length<=1048576:=J;refine af (λh=>?_) λh=>?_
 · grind [afI]
 .have hl:a.length<=600:=jv;refine bQ (mk:=λi(s:Int×Sp.LS)=>(((),s.1,i,()),s.2,())) (λy=>y.1.2.2.1) (λ_ _=>rfl) (a.length+1) fC
   (λn s=>∃b:Nat,s.1=b/\Sp.splitAt a n b s.2) (s0:=((0:Int),[])) ⟨0,rfl,aAP a⟩ (λI P n s H E next=>?_) λI P s E=>?_
  .obtain⟨b,d⟩:=s;obtain⟨b,rfl,Y⟩:=E;dsimp only at Y ⊢;have U:=Y.1;have j:=Y.2.2.1;have o:IntKind.i64.wrap ((n:Int)+1)=((n+1:Nat):Int):=eH _ fC;rw[aQs,aQs];refine dH fC ⟨λ_=>n<a.length->yh (a.getD n 0)=true,?_,λ_ g=>?_⟩
   .refine af (λO=>⟨⟨fC,jv⟩,af (λK=>?_) λK=>⟨⟨fC,jv⟩,af (λx=>?_) λx=>⟨rfl,λ_=>?_⟩⟩⟩) λO=>⟨rfl,λk=>?_⟩
    · grind [afI,NR,aAQ]
    · grind [afI,NR,aAQ]
    · grind [NR]
    grind
   .have tail:(n<a.length->yh (a.getD n 0)=true/\a.getD n 0=32)->
     bif decide ((b:Int)<n)then((0:Int)<=b/\(b:Int)<=n/\(n:Int)<=a.length)/\List.length d+[(List.drop b (List.take n a),())].length<=big/\(((a,()),())=((a,()),()))/\
         I (((),IntKind.i64.wrap ((n:Int)+1),IntKind.i64.wrap ((n:Int)+1),()),d++[(List.drop b (List.take n a),())],())/\P (((),IntKind.i64.wrap ((n:Int)+1),IntKind.i64.wrap ((n:Int)+1),()),d++[(List.drop b (List.take n a),())],())<P (((),(b:Int),(n:Int),()),d,())
      else(((a,()),())=((a,()),()))/\I (((),IntKind.i64.wrap ((n:Int)+1),IntKind.i64.wrap ((n:Int)+1),()),d,())/\P (((),IntKind.i64.wrap ((n:Int)+1),IntKind.i64.wrap ((n:Int)+1),()),d,())<P (((),(b:Int),(n:Int),()),d,()):=by
     intro z;refine af (λK=>⟨⟨fC,fC,fC⟩,?_,rfl,?_⟩) λK=>⟨rfl,?_⟩
     · grind [bV]
     .exact next (IntKind.i64.wrap ((n:Int)+1),d++[((a.take n).drop b,())]) ⟨n+1,o,aAR Y fC jv z⟩
     .exact next (IntKind.i64.wrap ((n:Int)+1),d) ⟨n+1,o,aAS Y fC jv z⟩
    refine af (λO=>⟨⟨fC,jv⟩,af (λK=>⟨rfl,?_⟩) λK=>?_⟩) λO=>?_
    .have f:n<a.length:=jv;exact next ((b:Int),d) ⟨b,rfl,aAT Y f (g f) λe=>x9⟩
    .refine tail λf=>⟨g f,?_⟩;have K:((a.getD n 0).toNat:Int)=32:=by simpa using K
     exact aSO.1 jv
    grind
  grind [aCg,afI,Y8,aGO,JV]
theorem aaO:OK yA.e:=by
 refine dW [] ⟨⟩ avY λp=>show yA.goal (as5 p) (p,())fromλB J=>?_
 dsimp only[yA]at J ⊢;refine bQ (mk:=λi s=>((s,i,()),())) (λy=>y.1.2.1) (λ_ _=>rfl) p.length fC (λn s=>s=mY (p.take n)) rfl (λI P n s H E next=>?_) λI P s E=>?_
 .subst E;have e:=aEJ H;have a:=ayi p (n+1);dsimp only;refine dH fC (af (λO=>?_) λO=>?_)
  · grind [maxLen_eq]
  .have h0:(mY (p.take 0)).length=0:=rfl
   grind [maxLen_eq]
 grind
theorem Ti:OK qX.e:=by
 refine dW [] ⟨⟩ H0 λw i=>show qX.goal (as6 w i) (w,i,())fromλB J=>?_
 dsimp only[qX]at J ⊢;refine af (λh=>?_) λh=>⟨⟨J,jv⟩,?_⟩
 · grind [ER]
 grind [EP]
theorem auT:OK Js.e:=by
 refine dW [yx.e,qX.e] ⟨Om,Ti,⟨⟩⟩ H0 λw i=>show Js.goal (avZ w i) (w,i,())fromλB J=>?_
 exact⟨J,trivial,rfl⟩
theorem KC:OK qJ.e:=by
 refine dW [oH.e,pV.e] ⟨wY,BA,⟨⟩⟩ H0 λa b d=>show qJ.goal (ahK a b d) ((a,b,d,()),())fromλB J=>?_
 dsimp only[qJ]at J ⊢;refine⟨trivial,?_⟩
 grind [iI]
theorem aKL{n:Int}(h:0<=n):gy 1 n []=decide (n<=999):=by
 grind [gy]
theorem aKM(s:List UInt8):gy 2 0 s=dU s:=by unfold gy;simp
theorem aEK:lD [45]=false:=jI
theorem V9:OK pR.e:=by
 refine dW [qJ.e,pV.e,zG.e,qE.e,yx.e] ⟨KC,BA,I7,xY,Om,⟨⟩⟩ H0 λs=>show pR.goal (akf s) (s,())fromλB J=>?_
 dsimp only[pR]at J ⊢;have l:=(oO.1 (Xk s)).1;unfold gZ;refine af (λh=>?_) λh=>?_
 · grind [aEK]
 grind [aKL,iI,xw,aKM]
theorem aLZ{op:Int}(h:(decide (1<=op)&&decide (op<=9))=false):lH op=[63]:=by
 unfold lH
 grind
theorem aM4{op:Int}(h:(decide (1<=op)&&decide (op<=9))=true):op=1\/op=2\/op=3\/op=4\/op=5\/op=6\/op=7\/op=8\/op=9:=by
 grind
theorem Xx:OK uD.e:=by
 refine dW [gI.e] ⟨gW,⟨⟩⟩ H0 λop=>show uD.goal (amD op) (op,())fromλB J=>?_
 dsimp only[uD]at J ⊢;refine⟨trivial,af (λh=>?_) λh=>?_⟩
 · grind [aLZ]
 .rcases aM4 (dN h)with e|e|e|e|e|e|e|e|e<;>subst e<;>exact⟨jI,rfl⟩
theorem fU{n:Nat}(h:n<=100000000000):n<=maxLen:=o8
theorem Hw{n:Nat}(h:n<=4000000000):n<=big:=o6
theorem adG[kU](f:lY prog G DL Gz):lY prog G SS OI:=by
 refine adH (XT [(DL,.pure Gz),qJ.e,uD.e] ⟨⟨f,acK⟩,KC,Xx,trivial⟩) ?_;intro q i B J;obtain⟨⟨z,b,W⟩,X⟩:=J;have a:=aIG z b W;have L:=(Sp.jF z).2;have H:=(nT z (show i.toNat<q.length from fC)).1;refine⟨⟨b,W⟩,trivial,?_⟩;have g:q.getD i.toNat (0,0,0,[],0,0,[],())=Sp.nodeAt q i.toNat:=rfl;dsimp only;rw[g];rcases akg H with c|c|c
 .have e:=aKN (q:=q) (i:=i) i.toNat c;rw[e]at a ⊢;generalize Sp.nodeAt q i.toNat=n at c a;obtain⟨op,l,r,s,v⟩:=n;dsimp only at c a ⊢;rcases c with rfl|rfl|rfl|rfl|rfl|rfl
  .exact yQ ((false,()),()) ⟨rfl,rfl⟩ rfl
  .have d:Lib.join (nH (2,l,r,s,v)) [32]=lH 2++[32]++s:=afH _ _;rw[d]at a ⊢;simp only[aQu]at a;exact yQ ((true,()),()) ⟨rfl,rfl⟩ ⟨fU fC,fU jv,rfl⟩
  .have d:Lib.join (nH (3,l,r,s,v)) [32]=lH 3++[32]++s++[32]++iI v:=as3 _ _ _;rw[d]at a ⊢;simp only[aQu]at a;exact yQ ((false,()),()) ⟨rfl,rfl⟩ ⟨fU fC,fU jv,fU jv,trivial,fU jv,rfl⟩
  .have d:Lib.join (nH (4,l,r,s,v)) [32]=lH 4++[32]++s++[32]++iI v:=as3 _ _ _;rw[d]at a ⊢;simp only[aQu]at a;exact yQ ((false,()),()) ⟨rfl,rfl⟩ ⟨fU fC,fU jv,fU jv,trivial,fU jv,rfl⟩
  .have d:Lib.join (nH (8,l,r,s,v)) [32]=lH 8++[32]++s:=afH _ _;rw[d]at a ⊢;simp only[aQu]at a;exact yQ ((true,()),()) ⟨rfl,rfl⟩ ⟨fU fC,fU jv,rfl⟩
  .have d:Lib.join (nH (9,l,r,s,v)) [32]=lH 9++[32]++s:=afH _ _;rw[d]at a ⊢;simp only[aQu]at a;exact yQ ((true,()),()) ⟨rfl,rfl⟩ ⟨fU fC,fU jv,rfl⟩
 .obtain⟨e,k0,k1⟩:=aL0 z b W c;rw[e]at a ⊢;have d:=aEL (lH 5) (av1 (Sp.nodeAt q i.toNat).2.1.toNat q (Sp.nodeAt q i.toNat).2.1);rw[afH]at d;rw[← d]at a ⊢;simp only[aQu]at a;have j:(aN q=true/\0<=(Sp.nodeAt q i.toNat).2.1/\(Sp.nodeAt q i.toNat).2.1<(q.length:Int))/\(Sp.nodeAt q i.toNat).2.1.toNat<je:=⟨⟨z,k0,fC⟩,fC⟩;rw[c];exact yQ ((false,()),()) ⟨rfl,rfl⟩ ⟨fU fC,j,fU jv,rfl⟩
 .obtain⟨e,⟨k0,k1⟩,m0,m1⟩:=aL1 z b W c;rw[e]at a ⊢;have d:=aEM (lH (Sp.nodeAt q i.toNat).1) (av1 (Sp.nodeAt q i.toNat).2.1.toNat q (Sp.nodeAt q i.toNat).2.1) (av1 (Sp.nodeAt q i.toNat).2.2.1.toNat q (Sp.nodeAt q i.toNat).2.2.1);rw[as3]at d;rw[← d]at a ⊢;simp only[aQu]at a;have j:(aN q=true/\0<=(Sp.nodeAt q i.toNat).2.1/\(Sp.nodeAt q i.toNat).2.1<(q.length:Int))/\(Sp.nodeAt q i.toNat).2.1.toNat<je:=⟨⟨z,k0,fC⟩,fC⟩;have k:(aN q=true/\0<=(Sp.nodeAt q i.toNat).2.2.1/\(Sp.nodeAt q i.toNat).2.2.1<(q.length:Int))/\(Sp.nodeAt q i.toNat).2.2.1.toNat<je:=⟨⟨z,m0,fC⟩,fC⟩;rcases c with c|c<;>rw[c]at a ⊢
  .exact yQ ((false,()),()) ⟨rfl,rfl⟩ ⟨fU fC,j,fU jv,fU jv,k,fU jv,rfl⟩
  .exact yQ ((false,()),()) ⟨rfl,rfl⟩ ⟨fU fC,j,fU jv,fU jv,k,fU jv,rfl⟩
theorem as7:lY prog G UR YC:=
 azz (λn=>@Uf ⟨n⟩) (λn=>@RH ⟨n⟩) (by rintro⟨q,b,⟨⟩⟩ h;exact aRd _ h.2) (by rintro _ ⟨q,b,⟨⟩⟩;rfl) (by rintro⟨q,b,⟨⟩⟩ h;exact⟨_,h,aRZ _⟩) (by rintro _ ⟨q,b,⟨⟩⟩;rfl) λn h=>@adG ⟨n⟩ h
theorem aIH{q:List aO}(h:aN q=true):jf (((q.length:Int)-1).toNat+1) q ((q.length:Int)-1)=jf 9 q ((q.length:Int)-1):=by
 grind [Sp.jF,MK]
theorem KD:OK uU.e:=by
 refine dW [(UR,.pure YC),lW.e] ⟨⟨as7,aon⟩,rG,⟨⟩⟩ H0 λq=>show uU.goal (ahL q) (q,())fromλB J=>?_
 dsimp only[uU]at J ⊢;refine⟨J,?_⟩
 grind [Sp.textOf,Sp.jF,eH,aIH]
theorem wrap_in{z:Int}(h:-1000000000000<=z/\z<=1000000000000):IntKind.i64.wrap z=z:=eH z fC
theorem adI[kU](afK:kM prog G DN GI):kM prog G SX OM:=by
 refine adJ (XT [(DN,.eff (EH wG) GI),gI.e,pR.e,uD.e,qX.e] ⟨⟨afK,acL⟩,gW,V9,Xx,Ti,trivial⟩) (λ_ _=>⟨((_,_,()),()),⟨rfl,rfl⟩⟩) ?_;intro p b q f B J;obtain⟨⟨L,ha,U,hd0,hd1,N,u⟩,hfuel⟩:=J;have hp3:(1:Nat)<=2 ^ (10-f).toNat:=aSn;refine⟨λy=>∃n:Nat,y=((adK (Sp.wordAt p b) n,(n:Int)+1,()),())/\n<=9,λy=>(10-y.1.2.1).toNat,⟨0,rfl,aQx _⟩,?_⟩;rintro _ ⟨n,rfl,H⟩;dsimp only;refine af (λh=>⟨ha,trivial,?_⟩) λh=>?_
 .have h:=rU h;have o:IntKind.i64.wrap ((n:Int)+1+1)=((n+1:Nat):Int)+1:=(wrap_in fC).trans fC;rw[o];have e:adK (Sp.wordAt p b) (n+1)=bif Sp.wordAt p b==lH ((n:Int)+1)then(n:Int)+1 else adK (Sp.wordAt p b) n:=rfl
  grind
 have hn9:n=9:=jv;subst hn9;rw[aEN];have D:=aEO (Sp.wordAt p b);have hw0:Sp.wordAt p b=Sp.wordAt (p.drop b.toNat) 0:=by grind [Sp.FC]
 have e1:IntKind.i64.wrap (b+1)=b+1:=wrap_in fC;have e2:IntKind.i64.wrap (b+2)=b+2:=wrap_in fC;have ed:IntKind.i64.wrap (f+1)=f+1:=wrap_in fC;have hw1:Sp.wordAt p (b+1)=Sp.wordAt (p.drop b.toNat) 1:=(Sp.FC p b 1 ha jI).symm;have hw2:Sp.wordAt p (b+2)=Sp.wordAt (p.drop b.toNat) 2:=(Sp.FC p b 2 ha jI).symm;have g:(Sp.wordAt p (b+2)).length<=1048576:=by
  by_cases hh:b+2<(p.length:Int)
  · grind [EP]
  grind [ER]
 rw[e1,e2,ed];have a:∀k:Nat,k<=1000->k<=big:=λk j=>Hw fC;rw[hw1];rw[hw2]at g ⊢;rw[hw0]at D ⊢;have Z:(p.drop b.toNat).drop 1=p.drop (b+1).toNat:=by grind [List.drop_drop]
 refine⟨λy=>y=(((jk (Sp.wordAt (p.drop b.toNat) 0)==0||(decide (f>9)||decide ((q.length:Int)>9)),()),())),?_,?_⟩
 · grind
 rintro _ rfl;dsimp only;by_cases X:f>9
 .have hd10:f=10:=fC;subst hd10;rw[aQT (show(10:Int)>9 from jI),Bool.true_or,Bool.or_true];exact⟨rfl,rfl⟩
 rw[aQH X,Bool.false_or];have Y:(10-f).toNat=(10-(f+1)).toNat+1:=fC;have E:2 ^ (10-f).toNat=2*2 ^ (10-(f+1)).toNat:=jv;have hp4:(1:Nat)<=2 ^ (10-(f+1)).toNat:=aSn;rw[E]at U;have C:(10-(f+1)).toNat<je:=fC;rw[Y,Sp.rs,Z];have z:=λw s=>aa9 (10-(f+1)).toNat w s;have hdd:∀k:Int,0<=k->(p.drop b.toNat).drop (1+k).toNat=p.drop (b+(1+k)).toNat:=λk j=>by rw[List.drop_drop,show b.toNat+(1+k).toNat=(b+(1+k)).toNat from fC]
 rw[hdd _ (z (p.drop (b+1).toNat) q).2.1];have hfl:(10-(f+1)).toNat<=10:=fC;have hpc:((3*2 ^ (10-(f+1)).toNat:Nat):Int)=3*2 ^ (10-(f+1)).toNat:=by push_cast;rfl
 generalize (10-(f+1)).toNat=d at z U C hp4 hfl hpc ⊢;generalize R:Sp.wordAt (p.drop b.toNat) 0=w0;rw[R]at D;generalize jk w0=op at D ⊢;refine af (λl=>?_) λl=>?_
 · grind
 rw[l];have hql:q.length<=9:=by
  grind
 have ho0:op≠0:=aQl.1 (aRw.1 l).1;clear l E;have t:0<=f+1/\f+1<=10:=fC;have W:p.length<=1000/\0<=b+1/\(b+1).toNat+3*2 ^ d<=1000000/\0<=f+1/\f+1<=10/\(∀x,x∈p->List.length x.1<=1000)/\q.length<=100:=⟨L,fC,fC,t.1,t.2,N,fC⟩;have i:0<=b+1:=fC;have F:0<=b+2:=fC;clear B;rcases(show op=1\/op=2\/op=3\/op=4\/(op=5\/op=6\/op=7)\/op=8\/op=9 from fC)with rfl|rfl|rfl|rfl|h5|rfl|rfl
 .exact⟨λy=>y=((false,()),()),⟨rfl,rfl⟩,by rintro _ rfl;exact⟨λy=>y=((false,()),()),⟨rfl,rfl⟩,by rintro _ rfl;exact⟨trivial,a _ jv,rfl,rfl⟩⟩⟩
 .exact⟨λy=>y=((true,()),()),⟨rfl,rfl⟩,by rintro _ rfl;exact⟨i,a _ jv,rfl,rfl⟩⟩
 .exact⟨λy=>y=((false,()),()),⟨rfl,rfl⟩,by rintro _ rfl;exact⟨λy=>y=((true,()),()),⟨rfl,rfl⟩,by rintro _ rfl;exact⟨i,F,g,a _ jv,rfl,rfl⟩⟩⟩
 .exact⟨λy=>y=((false,()),()),⟨rfl,rfl⟩,by rintro _ rfl;exact⟨λy=>y=((true,()),()),⟨rfl,rfl⟩,by rintro _ rfl;exact⟨i,F,g,a _ jv,rfl,rfl⟩⟩⟩
 .have g2:(op==2)=false:=aQl.2 fC;have g3:(op==3)=false:=aQl.2 fC;have g4:(op==4)=false:=aQl.2 fC;have g8:(op==8)=false:=aQl.2 fC;have g9:(op==9)=false:=aQl.2 fC;have g57:(decide (5<=op)&&decide (op<=7))=true:=by rw[aQT fC,aQT fC];rfl
  have aOu:(op==5||(op==6||op==7))=true:=by rcases h5 with rfl|rfl|rfl<;>rfl
  rw[g2,g3,g4,g8,g9,g57,aOu];refine⟨λy=>y=((false,()),()),⟨rfl,rfl⟩,?_⟩;rintro _ rfl;refine⟨λy=>y=((false,()),()),⟨rfl,rfl⟩,?_⟩;rintro _ rfl;refine⟨trivial,⟨W,C⟩,?_⟩;rintro⟨⟨r,k,⟨⟩⟩,⟨⟩⟩ ⟨S,P⟩;have S:r=(Sp.rs d (p.drop (b+1).toNat) q).1:=S;have P:k=(Sp.rs d (p.drop (b+1).toNat) q).2:=P;have I:=z (p.drop (b+1).toNat) q;rw[← S,← P]at I ⊢;clear S P;dsimp only;have hrl:r.length<=20:=fC;have hk3:k<3*2 ^ d:=I.2.2;have hk1:IntKind.i64.wrap (1+k)=1+k:=wrap_in fC;have hk2:IntKind.i64.wrap (b+(1+k))=b+(1+k):=wrap_in fC;have aOv:IntKind.i64.wrap ((r.length:Int)-1)=(r.length:Int)-1:=wrap_in fC;rw[hk1,hk2,aOv];refine af (λh=>?_) λh=>?_
  · grind
  rw[h];have hc2:p.length<=1000/\0<=b+(1+k)/\(b+(1+k)).toNat+3*2 ^ d<=1000000/\0<=f+1/\f+1<=10/\(∀x,x∈p->List.length x.1<=1000)/\r.length<=100:=⟨L,fC,fC,t.1,t.2,N,fC⟩;by_cases A:op=5
  .subst A;exact⟨a _ jv,rfl,rfl⟩
  have gn:(op !=5)=true:=aR5.2 A;have g5:(op==5)=false:=aQl.2 A;rw[gn,g5];refine⟨⟨hc2,C⟩,?_⟩;rintro⟨⟨s,m,⟨⟩⟩,⟨⟩⟩ ⟨T,Q⟩;have T:s=(Sp.rs d (p.drop (b+(1+k)).toNat) r).1:=T;have Q:m=(Sp.rs d (p.drop (b+(1+k)).toNat) r).2:=Q;have K:=z (p.drop (b+(1+k)).toNat) r;rw[← T,← Q]at K ⊢;clear T Q;dsimp only;have hsl:s.length<=20:=fC;have hm3:m<3*2 ^ d:=K.2.2;have hm1:IntKind.i64.wrap (1+k+m)=1+k+m:=wrap_in fC;have M:IntKind.i64.wrap ((s.length:Int)-1)=(s.length:Int)-1:=wrap_in fC;rw[hm1,M];refine af (λO=>?_) λO=>?_
  · grind
  rw[O];exact⟨a _ jv,rfl,rfl⟩
 .exact⟨λy=>y=((true,()),()),⟨rfl,rfl⟩,by rintro _ rfl;exact⟨i,a _ jv,rfl,rfl⟩⟩
 .exact⟨λy=>y=((true,()),()),⟨rfl,rfl⟩,by rintro _ rfl;exact⟨i,a _ jv,rfl,rfl⟩⟩
theorem as8:kM prog G UU YE:=
 aut (λn=>@Ug ⟨n⟩) (λn=>@Bj ⟨n⟩) (by rintro⟨p,b,q,f,⟨⟩⟩ h;exact aRd _ h.2) (by rintro _ ⟨p,b,q,f,⟨⟩⟩;rfl) (by rintro⟨p,b,q,f,⟨⟩⟩ h;exact⟨_,h,aRZ _⟩) (by rintro _ ⟨p,b,q,f,⟨⟩⟩;rfl) λn h=>@adI ⟨n⟩ h
theorem aCh(s:List UInt8)(h:sJ s=true):uV s=((Sp.rs 10 (Sp.wordsOf s) []).2==((Sp.wordsOf s).length:Int)&&(!(Sp.textOf (Sp.rs 10 (Sp.wordsOf s) []).1==[])&&Sp.textOf (Sp.rs 10 (Sp.wordsOf s) []).1==mY (Sp.wordsOf s))):=by rw[← as9,ak6,h,aRz]
theorem abb{s:List UInt8}(h:uV s=false):(([]:List aO),false,())=(mZ s,uV s,()):=by
 grind [mZ]
theorem aiM:OK wW.e:=by
 refine dW [yA.e,uU.e,(UU,.eff (EH KW) YE),qI.e] ⟨aaO,KD,⟨as8,aoo⟩,Uk,⟨⟩⟩ amE λs=>show wW.goal (akh s) (s,())fromλB J=>?_
 dsimp only[wW]at J ⊢;delta akh aJ0;refine⟨J,af (λh=>?_) λh=>?_⟩
 .refine abb ?_;rw[← as9,ak6,kJ h];rfl
 have a:=dN h;obtain⟨o,W,g,_,_⟩:=aCi a;have e:=aCh s a;have f:∀x∈Sp.wordsOf s,x.1.length<=1000:=λx Z=>aQn (aoF x Z) (aQn (JV.1 a).1 jI);rw[o];refine⟨⟨W,jI,jI,jI,jI,f,jI⟩,?_⟩;rintro⟨⟨r,k,⟨⟩⟩,⟨⟩⟩ ⟨d,ek⟩;have d:r=(Sp.rs 10 (Sp.wordsOf s) []).1:=d;have U:=(aa9 10 (Sp.wordsOf s) []).1;have b:=λu:uV s=true=>afL u;rw[← d]at U e b;refine⟨aQn U jI,af (λC=>abb ?_) λC=>af (λO=>abb ?_) λO=>⟨⟨W,g⟩,af (λK=>abb ?_) λK=>?_⟩⟩
 · grind
 · grind
 · grind
 grind
theorem aGP(a b:List (List UInt8)):Sp.ls (a++b)=Sp.ls a++Sp.ls b:=aRq
end Go.Proofs.Tryz
namespace Go.Proofs.Tryz
open Go Go.Fw Go.RowKit Sp
variable {w:World}{cur:Array Value}{t:TypeId}
theorem qM{g:Nat}{a:Nat×Nat}(h:w.heap[g]? =some (.cells cur t a))(k:Nat):w.cell? ⟨g,k,none⟩=cur[k]? :=by simp[World.cell?,h]
theorem Ho{g:Nat}(h:w.heap[g]? =some (.cells cur t (0,0)))(k:Nat):w.frozen? ⟨g,k,none⟩=false:=by simp[World.frozen?,h]
theorem Aj{p:Addr}{b:Nat}(v:Value)(h:b≠p.block):(w.setCell p v).heap[b]? =w.heap[b]? :=by
 grind [World.setCell]
theorem acX{g:Nat}{a:Nat×Nat}(h:w.heap[g]? =some (.cells cur t a))(k:Nat)(v:Value):(w.setCell ⟨g,k,none⟩ v).heap[g]? =some (.cells (cur.setIfInBounds k v) t a):=by
 grind [World.setCell]
theorem Qr{W w':World}{base size n:Nat}{e:TypeId}{v:Value}{q:List Value}(h:W.ownsRow base e size v n q)(j:∀g,v.ownBlock=some g->w'.heap[g]? =W.heap[g]?):w'.ownsRow base e size v n q:=by
 refine⟨h.1,?_⟩;rcases h.2 with O|⟨g,y,cur,rfl,K,x,a⟩
 .exact .inl O
 .exact .inr ⟨g,y,cur,rfl,K,(j g rfl).trans x,a⟩
def Vx(n:Int):Prop:=-9223372036854775808<=n/\n<=9223372036854775807
def FW(B:Nat)(W:World)(v:Value)(f:Sp.LS):Prop:=iL W.heap (λb=>b<B) (.sl dS gu) v f
theorem FW.keep{B:Nat}{W w':World}{v:Value}{f:Sp.LS}(h:FW B W v f)(j:∀b,b<B->w'.heap[b]? =W.heap[b]?):FW B w' v f:=by
 refine⟨h.1,?_⟩;rcases h.2 with O|⟨b,m,y,A,t,a,C,O,K,d,e⟩
 .exact .inl O
 .exact .inr ⟨b,m,y,A,t,a,C,O,K,(j b K).trans d,λi x Z=>dD.flat (S:=λb=>b<B) _ _ _ rfl (e i x Z)⟩
end Go.Proofs.Tryz
namespace Go.Proofs.Tryz
open Go Go.Fw Go.IntWalk Sp
variable {n:Nat}
theorem aF6{w:Sp.LS}(h:n<w.length):(w.getD n ([],())).1=Sp.wordAt w n:=by
 grind [EP]
theorem aH2{w:Sp.LS}(h:n+1<w.length):w.drop n=w.getD n ([],())::w.getD (n+1) ([],())::w.drop (n+2):=by
 grind [drop_cons]
set_option maxRecDepth 100000
theorem axk:∀(a:List dm)(t:List UInt8),Sp.kindOf a t≠0->∃f∈a,f.1=t
 |[],t,h=>absurd rfl h
 |f::r,t,h=>by
  rw[Sp.kindOf]at h;cases e:decide (f.1=t)with
  |true=>exact⟨f,aQr,aQ6 e⟩
  |false=>rw[e]at h;obtain⟨g,C,O⟩:=axk r t h;exact⟨g,aQo _ C,O⟩
theorem aGQ{k n:Int}{s:List UInt8}(h:gy k n s=true):s.length<=6:=by
 grind [gy,dU]
variable {a:List aW}
theorem aKO(h:jh Sp.usual a=true):∀x∈a,x.1.length<=10/\x.2.2.2.1.length<=10:=by
 grind [yV,mO,Sp.usual,axk,aGQ]
theorem aL5(W:a.length<=9)(h:∀x∈a,x.1.length<=10/\x.2.2.2.1.length<=10):afM a=true:=by
 grind [afM]
theorem aGR(h:jh Sp.usual a=true)(W:a.length<=4):afM a=true:=aL5 fC (aKO h)
theorem axl{k i o l id:Int}{s:Bool}{n:List UInt8}{q:List aO}(H:n.length<=10)(u:q.length<=1000):JL (k,i,o,s,l,[],id,n,q,()):=⟨by show afM []=true;decide,H,u⟩
theorem ata{k i o l id:Int}{s:Bool}{n:List UInt8}{q:List aO}(r:afM a=true)(H:n.length<=10)(u:q.length<=1000):JL (k,i,o,s,l,a,id,n,q,()):=⟨r,H,u⟩
theorem aII:∀y∈([([100,97],()),([100,98],()),([100,99],())]:List (List UInt8×Unit)),List.length y.1<=10:=jI
theorem aaX:OK Np.e:=by
 refine eP [qV.e,yY.e,jo.e,lC.e] ⟨Ah,Ur,jR,qm,⟨⟩⟩ H0 (λ_ _=>⟨(((0,0,0,false,0,[],0,[],[],()),()),(([],0,0,()),())),⟨jI,jI,jI,jI⟩⟩) λb i h u=>show Np.goal (atb b i h u) ((b,i,h,()),u,())fromλB J=>?_
 refine⟨J,λj d=>af (λ_=>⟨⟨d,ni⟩,λk e=>⟨e.1,λl f=>⟨f.1,?_⟩⟩⟩) λ_=>⟨d,λm g=>⟨g.1,?_⟩⟩⟩
 · grind [axl]
 grind [ata,aGR]
theorem ayj:OK YG.e:=by
 refine eP [qV.e,jo.e,dO.e,jl.e,Np.e,lC.e] ⟨Ah,jR,dX,kF,aaX,qm,⟨⟩⟩ H0 (λ_ _=>⟨(((0,0,0,false,0,[],0,[],[],()),()),(([],0,0,()),())),⟨jI,jI,jI,jI⟩⟩) λb i h u=>show YG.goal (ayk b i h u) ((b,i,h,()),u,())fromλB J=>?_
 refine⟨J,λl d=>af (λ_=>⟨d,λm f=>f⟩) λ_=>⟨⟨d,ni⟩,λo g=>⟨g.1,λq j=>⟨⟨j.1,ni⟩,λr e=>af (λ_=>⟨e.1,λs k=>⟨k.1,?_⟩⟩) λ_=>⟨e.1,?_⟩⟩⟩⟩⟩
 · grind [ata,aGR]
 grind [axl]
theorem arR{x:eG}(h:JL x):tC x:=⟨aQn (ayl h).2 jI,h.2.2⟩
theorem avh:OK PE.e:=by
 refine eP [jo.e,YG.e,dO.e,jl.e] ⟨jR,ayj,dX,kF,⟨⟩⟩ aym (λ_ _=>⟨(((0,0,[],[],0,()),()),(([],0,0,()),())),⟨jI,jI,jI,λc h=>o5⟩⟩) λb i h=>show PE.goal (av2 b i h) ((b,i,h,()),())fromλB J=>?_
 dsimp only[PE]at J ⊢;refine⟨⟨J,ni⟩,λm e=>⟨e.1,λo f=>⟨λ_=>True,?_,λy _=>?_⟩⟩⟩
 · grind
 have k:=f.1;refine af (λ_=>⟨k,λg d=>?_⟩) λ_=>?_
 .have g0:=d.2.1;have l:=d.2.2.1 jI;have j:IntKind.i64.wrap (1+g.1.1)=1+g.1.1:=wrap_in fC;rw[j];refine⟨λy=>0<=y.2.1.2.1/\0<=y.1.1/\(y.2.2.2.1.length:Int)+y.1.1<=2/\y.2.2.1.2.2.2.1.length<=10/\∀c∈y.2.2.2.1,tC c,λy=>y.1.1.toNat,⟨d.1,jv,jv,aQx _,λc h=>o5⟩,?_⟩
  grind [wrap_in,Hw,arR]
 simp_all [aII]
theorem six(a b c d e f:UInt8):([a,b,c,d,e,f]:List UInt8).length=6:=rfl
theorem Y9:OK zX.e:=by
 refine dW [] ⟨⟩ ath λa b=>show zX.goal (apU a b) (a,b,())fromλB J=>?_
 have L:a.length<=maxLen:=B.1.1;refine af (λh=>?_) λh=>?_
 .have h:(a.length:Int)≠b.length:=oQ;exact congrArg (·,()) (aQH λe=>h (by rw[e])).symm
 .have h:(a.length:Int)=b.length:=oQ;exact avS (K:=λr=>r=(decide (a=b),())) (λx y=>!(x.1==y.1)) (λx y=>jv) _ a b _ L fC (λe=>jv) λe=>jv
theorem Ux:OK zi.e:=by
 refine dW [sU.e] ⟨D7,⟨⟩⟩ H0 λb d=>show zi.goal (ahN b d) ((b,d,()),())fromλB J=>?_
 dsimp only[zi]at J ⊢;have w:∀z:List UInt8,yE++32::(b++32::z)=[102,105,101,108,100,32]++b++32::z:=λz=>Wx;have e:iP (b,d,())=bif !iw b then[]else bif d==1 then[102,105,101,108,100,32]++b++[32,105,110,116]else bif d==2 then[102,105,101,108,100,32]++b++[32,115,116,114,105,110,103]else[]:=Wx
 refine⟨trivial,?_⟩;rw[e];refine af (λh=>afy) λh=>af (λC=>⟨fU (by rw[six];omega),fU (by grind [List.length_cons]),by rw[h,C];rfl⟩) λC=>af (λO=>⟨fU (by rw[six];omega),fU (by grind [List.length_cons]),jv⟩) λO=>jv
theorem WC:OK A7.e:=by
 refine dW [qJ.e,oH.e] ⟨KC,wY,⟨⟩⟩ amG λh m l o f=>show A7.goal (akj h m l o f) ((h,m,l,o,f,()),())fromλB J=>?_
 dsimp only[A7]at J ⊢;delta akj aJ1 aj bJ jb;obtain⟨W,u⟩:f.length<=1048576/\(lg f).length<=1073741824:=J;have x:=Yh (n:=h) B.1.1;have z:=Yh (n:=m) B.1.2.1;have A:=Yh (n:=o) B.1.2.2.2.1;have q:∀a b c d e:UInt8,([a,b,c,d,e]:List UInt8).length=5:=λ_ _ _ _ _=>rfl;have K:∀a b c:UInt8,([a,b,c]:List UInt8).length=3:=λ_ _ _=>rfl;have C:([32]:List UInt8).length=1:=rfl;refine⟨trivial,fU (by rw[q];omega),fU jv,trivial,fU jv,
  yQ (([102,105,108,101,32]++Lib.itoa h++[32]++Lib.itoa m++[32,(bif l then 115 else 111),32],()),()) ?_ ?_⟩
 .cases l with
  |true=>exact⟨fU jv,rfl,rfl⟩
  |false=>exact⟨fU jv,rfl,rfl⟩
 refine⟨trivial,fU jv,?_⟩;have r:([102,105,108,101,32]++Lib.itoa h++[32]++Lib.itoa m++[32,(bif l then 115 else 111),32]++Lib.itoa o:List UInt8).length<=80:=jv;have g:lM (h,m,l,o,f,())=[102,105,108,101,32]++Lib.itoa h++[32]++Lib.itoa m++[32,(bif l then 115 else 111),32]++Lib.itoa o++lg f:=by
  have w:lM (h,m,l,o,f,())=MB++32::(Lib.itoa h++32::Lib.join (vO (h,m,l,o,f,())) [32]):=by
   grind [lM,vO,BQ]
  rw[w,aGU];cases l<;>simp[MB]
 generalize ([102,105,108,101,32]++Lib.itoa h++[32]++Lib.itoa m++[32,(bif l then 115 else 111),32]++Lib.itoa o:List UInt8)=H at r g ⊢;rw[g];refine bQ (mk:=λi(s:List UInt8)=>((s,i,()),())) (λy=>y.1.2.1) (λ_ _=>rfl) f.length fC (λn s=>s=H++lg (f.take n)) (by rw[List.take_zero];exact(aQY _).symm) (λI P n s t E next=>?_) λI P s E=>?_
 .subst E;have k:=@av4 f (n+1);have j:=aGV t;rw[j]at k;simp only[aQu,aQz]at k;dsimp only;rw[aQs];have D:(0:Int)<=n/\(n:Int)<f.length:=fC;refine dH fC ⟨fU jv,D,fU jv,fU jv,D,trivial,fU jv,rfl,next _ ?_⟩;rw[j];simp
 grind
theorem getD_at{α:Type}{l:List α}{d:α}(h:n<l.length):l[n]? =some (l.getD n d):=jv
theorem Q7(a:List (List UInt8))(x:List UInt8):Sp.ls (a++[x])=Sp.ls a++[(x,())]:=by rw[Sp.aGP];rfl
theorem map_take{α b:Type}(f:α->b)(l:List α)(h:n<l.length)(d:α):(l.take (n+1)).map f=(l.take n).map f++[f (l.getD n d)]:=by
 grind [List.take_succ_eq_append_getElem]
theorem aC8{x:dw}(h:eU x=true){f:aG}(X:f∈x.2.1):f.2.2.2.2.1.length<=1048576/\(lg f.2.2.2.2.1).length<=1073741824:=by
 obtain⟨b,e⟩:=(Jk h).2.1 f X;have:=afT _ (EZ.1 b).1;have d:(lg f.2.2.2.2.1).length<=Dt (ng f.2.2.2.2.1):=by
  rw[← afU];have:∀w:List (List UInt8),(Lib.joinTail [32] w).length<=Dt w:=by
   intro w
   induction w with
   |nil=>exact aQx _
   |cons y r ih=>
    grind [Lib.joinTail,ou]
  exact this _
 omega
theorem axn:OK AA.e:=by
 refine eP [uU.e,A7.e,oH.e,zi.e,jE.e] ⟨KD,WC,wY,Ux,rM,⟨⟩⟩ Xl (λ⟨(a,b,c,d,_),_⟩ _=>⟨((Sp.enc (a,b,c,d,()),()),()),rfl⟩) λS T g j=>show AA.goal (WE S T g j) ((S,T,g,j,()),())fromλB J=>?_
 dsimp only[AA]at J ⊢;delta WE J6 aj bJ fV ji;have J:fB (S,T,g,j,()):=J;refine⟨J,af (λh=>?_) λh=>?_⟩
 · grind [aGW]
 have h:eU (S,T,g,j,())=true:=dN h;obtain⟨m,z,o,q,A,C,D⟩:=Jk h;have l:=λf X=>aC8 h (f:=f) X;rw[ZG h];dsimp only at m z o q A C D l;have H:=(nM o).2.2.2.2;have t:∀a b c d e:UInt8,([a,b,c,d,e]:List UInt8).length=5:=λ_ _ _ _ _=>rfl;have r:∀a b c d:UInt8,([a,b,c,d]:List UInt8).length=4:=λ_ _ _ _=>rfl;have one:∀x:List UInt8×Unit,[x].length=1:=λ_=>rfl;refine bQ (mk:=λi(s:Sp.LS)=>(((),i,()),s,())) (λy=>y.1.2.1) (λ_ _=>rfl) S.length fC (λn s=>s=Sp.ls ((S.take n).map iP)) rfl (λI P n s H E next=>?_) λI P s E=>?_
 .subst E;dsimp only;rw[aQs];have k:=m _ (getD_mem (d:=([],0,())) H);refine dH fC ⟨⟨fC,fC⟩,aQn (apV k.1) jI,Hw Pj,rfl,next _ ?_⟩
  grind [map_take,Q7]
 subst E;dsimp only;rw[aRi (aQp _)];refine gU fC ⟨trivial,fU (by rw[t];omega),Hw Pj,?_⟩;have w:Sp.ls (S.map iP)++[([110,101,120,116,32]++Lib.itoa g,())]=Sp.ls (S.map iP++[oP g]):=(Q7 _ _).symm;rw[w];refine bQ (mk:=λi(s:Sp.LS)=>(((),i,()),s,())) (λy=>y.1.2.1) (λ_ _=>rfl) T.length fC (λn s=>s=Sp.ls (S.map iP++[oP g]++(T.take n).map lM)) jv (λI P n s H E next=>?_) λI P s E=>?_
 .subst E;dsimp only;rw[aQs];refine dH fC ⟨⟨fC,fC⟩,l _ (getD_mem (d:=(0,0,false,0,[],())) H),Hw Pj,rfl,next _ ?_⟩
  grind [map_take,Q7]
 subst E;dsimp only;rw[aRi (aQp _)];refine gU fC ?_;refine bQ (mk:=λi(s:Sp.LS)=>(((),i,()),s,())) (λy=>y.1.2.1) (λ_ _=>rfl) j.length fC (λn s=>s=Sp.ls (S.map iP++[oP g]++T.map lM++(j.take n).map qA)) jv (λI P n s H E next=>?_) λI P s E=>?_
 .subst E;dsimp only;rw[aQs];have k:=q _ (getD_mem (d:=([],[],())) H);have R:=yH k.1;have u:=(Sp.jF k.2).2;have F:=ati (j.getD n ([],[],())).2.1;refine dH fC ⟨⟨fC,fC⟩,fU (by rw[r];omega),fU jv,⟨fC,fC⟩,fC,fU jv,Hw Pj,rfl,next _ ?_⟩
  grind [map_take,Q7,qA,BF]
 grind [Du]
theorem FB:OK l9.e:=by
 refine dW [uU.e,A7.e,oH.e,zi.e,jE.e] ⟨KD,WC,wY,Ux,rM,⟨⟩⟩ adL λS T g j=>show l9.goal (ab5 S T g j) ((S,T,g,j,()),())fromλB J=>?_
 dsimp only[l9]at J ⊢;delta ab5 J6 aj bJ fV ji;have J:fB (S,T,g,j,()):=J;refine⟨J,af (λh=>?_) λh=>?_⟩
 · grind [aGW]
 have h:eU (S,T,g,j,())=true:=dN h;obtain⟨m,z,o,q,A,C,D⟩:=Jk h;have l:=λf X=>aC8 h (f:=f) X;rw[ZG h];dsimp only at m z o q A C D l;have H:=(nM o).2.2.2.2;have t:∀a b c d e:UInt8,([a,b,c,d,e]:List UInt8).length=5:=λ_ _ _ _ _=>rfl;have r:∀a b c d:UInt8,([a,b,c,d]:List UInt8).length=4:=λ_ _ _ _=>rfl;have one:∀x:List UInt8×Unit,[x].length=1:=λ_=>rfl;refine bQ (mk:=λi(s:Sp.LS)=>(((),i,()),s,())) (λy=>y.1.2.1) (λ_ _=>rfl) S.length fC (λn s=>s=Sp.ls ((S.take n).map iP)) rfl (λI P n s H E next=>?_) λI P s E=>?_
 .subst E;dsimp only;rw[aQs];have k:=m _ (getD_mem (d:=([],0,())) H);refine dH fC ⟨⟨fC,fC⟩,aQn (apV k.1) jI,Hw Pj,rfl,next _ ?_⟩
  grind [map_take,Q7]
 subst E;dsimp only;rw[aRi (aQp _)];refine gU fC ⟨trivial,fU (by rw[t];omega),Hw Pj,?_⟩;have w:Sp.ls (S.map iP)++[([110,101,120,116,32]++Lib.itoa g,())]=Sp.ls (S.map iP++[oP g]):=(Q7 _ _).symm;rw[w];refine bQ (mk:=λi(s:Sp.LS)=>(((),i,()),s,())) (λy=>y.1.2.1) (λ_ _=>rfl) T.length fC (λn s=>s=Sp.ls (S.map iP++[oP g]++(T.take n).map lM)) jv (λI P n s H E next=>?_) λI P s E=>?_
 .subst E;dsimp only;rw[aQs];refine dH fC ⟨⟨fC,fC⟩,l _ (getD_mem (d:=(0,0,false,0,[],())) H),Hw Pj,rfl,next _ ?_⟩
  grind [map_take,Q7]
 subst E;dsimp only;rw[aRi (aQp _)];refine gU fC ?_;refine bQ (mk:=λi(s:Sp.LS)=>(((),i,()),s,())) (λy=>y.1.2.1) (λ_ _=>rfl) j.length fC (λn s=>s=Sp.ls (S.map iP++[oP g]++T.map lM++(j.take n).map qA)) jv (λI P n s H E next=>?_) λI P s E=>?_
 .subst E;dsimp only;rw[aQs];have k:=q _ (getD_mem (d:=([],[],())) H);have R:=yH k.1;have u:=(Sp.jF k.2).2;have F:=ati (j.getD n ([],[],())).2.1;refine dH fC ⟨⟨fC,fC⟩,fU (by rw[r];omega),fU jv,⟨fC,fC⟩,fC,fU jv,Hw Pj,rfl,next _ ?_⟩
  grind [map_take,Q7,qA,BF]
 grind [Du]
theorem aIJ(s:List UInt8)(h:n<s.length):Sp.sumOf (s.take (n+1))=(33*Sp.sumOf (s.take n)+((s.getD n 0).toNat:Int)).tmod 65521:=by
 grind [Sp.sumOf,List.take_succ_eq_append_getElem]
theorem apW:OK KX.e:=by
 refine dW [] ⟨⟩ atj λs=>show KX.goal (apX s) (s,())fromλB J=>?_
 dsimp only[KX]at J ⊢;refine bQ (mk:=λi(v:Int)=>((v,i,()),())) (λy=>y.1.2.1) (λ_ _=>rfl) s.length fC (λn v=>v=Sp.sumOf (s.take n)) rfl (λI P n v H E next=>?_) λI P v E=>?_
 .have hr:=axo (s.take n);have U:(s.getD n 0).toNat<256:=(s.getD n 0).toNat_lt
  grind [wrap_in,aIJ]
 grind
theorem anz{n:Int}{x:dw}(h:eU x=true)(C:1<=n)(O:n<=1000000000)(m:Nat):(Sp.linesT (Lib.itoa n::(Du x).take m)).length<=14424:=by
 obtain⟨b,d⟩:=WG h;have H:=(nM (oO.2 (show 0<=n/\n<=1000000000 from fC))).2.2.2.2;have:=aER (Lib.itoa n::(Du x).take m) λw o=>by
  rcases aQt.1 o with rfl|o
  .omega
  .exact(b w (aRa o)).1
 grind
theorem aKP(l:List (List UInt8))(n:Nat):((Sp.ls l).getD n ([],())).1=l.getD n []:=by
 grind [Sp.ls]
theorem getD_in{α:Type}{l:List α}{d:α}(h:n<l.length):l.getD n d∈l:=by
 grind
theorem aGX(l:List (List UInt8))(h:n<l.length):l.take (n+1)=l.take n++[l.getD n []]:=by
 simp_all
theorem Wj:OK A8.e:=by
 refine dW [KX.e,l9.e,oH.e,gI.e,jE.e] ⟨apW,FB,wY,gW,rM,⟨⟩⟩ amH λv S T b e=>show A8.goal (akk v S T b e) (v,(S,T,b,e,()),())fromλB J=>?_
 dsimp only[A8]at J ⊢;delta akk Aw aj bJ;refine⟨λ_=>eU (S,T,b,e,())=true/\1<=v/\v<=1000000000,⟨J,?_⟩,λ_ F=>?_⟩
 .refine af (λh=>?_) λh=>⟨trivial,af (λg=>?_) λg=>?_⟩
  · grind [Sp.slot]
  · grind [Sp.slot]
  grind
 obtain⟨h,C,O⟩:=F;obtain⟨w,j⟩:=WG h;have H:=(nM (oO.2 (show 0<=v/\v<=1000000000 from fC))).2.2.2.2;have one:∀x:UInt8,[x].length=1:=λ_=>rfl;rw[Yt h C O];refine⟨trivial,fU (by rw[one];omega),J,?_⟩;dsimp only;rw[ZG h,aGY];refine bQ (mk:=λi(s:List UInt8)=>((s,i,()),())) (λy=>y.1.2.1) (λ_ _=>rfl) (Du (S,T,b,e,())).length fC (λn s=>s=Sp.linesT (Lib.itoa v::(Du (S,T,b,e,())).take n)) (by show Lib.itoa v++[10]=Lib.itoa v++[10]++[];grind) (λI P n s f E next=>?_) λI P s E=>?_
 .have hb:=anz h C O n;rw[← E]at hb;have W:=(w _ (getD_in (d:=[]) f)).1;dsimp only;rw[aQs,aKP];refine dH fC ⟨⟨fC,fC⟩,fU fC,fU jv,rfl,next _ ?_⟩
  grind [aGX,aCk]
 .have hb:=anz h C O (Du (S,T,b,e,())).length;rw[← E]at hb;rw[aRi (aQp _)]at E;have E:s=rW v (S,T,b,e,()):=E;have Y:=(nM (afV s)).2.2.2.2;dsimp only;refine gU fC ⟨fC,trivial,fU fC,fU jv,?_⟩
  grind
theorem aGZ(s:List UInt8){b:Nat}(h:n<s.length)(U:b<=n):(s.take (n+1)).drop b=(s.take n).drop b++[s.getD n 0]:=by
 grind [List.take_succ_eq_append_getElem]
theorem auW:OK PG.e:=by
 refine dW [] ⟨⟩ ayq λs=>show PG.goal (av5 s) (s,())fromλB J=>?_
 dsimp only[PG]at J ⊢;delta av5 abq aj bJ;refine bQ (s0:=((0:Int),([]:Sp.LS))) (mk:=λi(v:Int×Sp.LS)=>(((),v.1,i,()),v.2,())) (λy=>y.1.2.2.1) (λ_ _=>rfl) s.length fC (λn v=>v.2.length<=n/\∃b:Nat,v.1=b/\b<=n/\v.2++jO 10 ((s.take n).drop b) (s.drop n)=Sp.pieces 10 s)
  ⟨aQp _,0,rfl,aQp _,rfl⟩ (λI P n v H E next=>?_) λI P v E=>?_
 .obtain⟨v1,v2⟩:=v;obtain⟨W,b,rfl,d,g⟩:=E;dsimp only at W g ⊢;rw[aQs,aQs];rw[drop_cons s n 0 H]at g;refine dH fC ⟨⟨fC,fC⟩,af (λO=>?_) λO=>?_⟩
  .have hx:(s.getD n 0==10)=true:=by exact aQv.2 (aSO.1 jv)
   rw[jO,hx]at g;have f:IntKind.i64.wrap ((n:Int)+1)=((n+1:Nat):Int):=eH _ fC;refine⟨⟨fC,fC,fC⟩,Hw jv,rfl,next (_,_) ⟨jv,n+1,f,aQp _,?_⟩⟩
   grind
  .have hx:(s.getD n 0==10)=false:=by refine aQl.2 λe=>aQl.1 O ?_;rw[e];rfl
   rw[jO,hx]at g;refine⟨rfl,next (_,_) ⟨aQ7 W,b,rfl,fC,?_⟩⟩
   grind [aGZ]
 .obtain⟨v1,v2⟩:=v;obtain⟨W,b,rfl,d,g⟩:=E;rw[aSJ]at g;have g:v2++[((s.take s.length).drop b,())]=Sp.pieces 10 s:=g
  grind [Qc,List.take_left]
theorem axZ:OK RI.e:=by
 refine dW [] ⟨⟩ H0 λn b D=>show RI.goal (ayr n b D) (n,b,D,())fromλB J=>?_
 dsimp only[RI]at J ⊢;refine af (λh=>jv) λ_=>af (λh=>?_) λh=>af (λO=>?_) λO=>?_
 · grind
 · grind
 grind
theorem ak5:dJ []:=⟨jI,λy F=>by
 have F:y∈[(([]:List UInt8),())]:=F
 grind⟩
end Go.Proofs.Tryz
namespace Go.Proofs.Tryz
open Go Go.Fw Go.RowKit Sp
set_option maxRecDepth 100000
variable {S:Nat->Prop}{e:TypeId}{r:aP}{v:Value}
theorem acY{h:Array Obj}{l:List r.den}(H:iL h S (.sl e r) v l):∃a c,v=.slice a l.length c:=by
 rcases H.2 with⟨rfl,a,c,e⟩|⟨b,m,y,A,t,d,e,_⟩
 · grind
 grind
variable {w:World}{f:Sp.LS}
theorem V8(h:FW w.heap.size w v f):vw ⟨w,w.heap.size,λ_=>True,λ_=>undef,λ_=>none⟩ (.sv (.one (.sl dS gu f false))) v:=
 iL.mono (S':=V.fG ⟨w,w.heap.size,λ_=>True,λ_=>undef,λ_=>none⟩ false) (h':=w.heap) (λb U=>⟨⟨⟨U,λ_=>trivial,λo x Z=>vk⟩,λe=>y5⟩,rfl⟩) _ _ _ h
def OL(w:World)(B:Nat)(F:Nat->Prop)(e:TypeId)(r:aP)(v:Value)(l:List r.den):Prop:=
 ∃q,w.ownsRow B e r.len v l.length q/\∀i x,l[i]? =some x->dD w.heap F r ((q.drop (i*r.len)).take r.len) x
structure Sn(B:Nat)(w:World)(va vl vd:Value)(x:dw)(F:Nat->Prop):Prop where
 fa:OL w B F 180 aB va x.1
 fl:OL w B F 140 aF vl x.2.1
 fd:OL w B F 115 ay vd x.2.2.2.1
 nx:Vx x.2.2.1
 ne:∀g,(va.ownBlock=some g->vl.ownBlock≠some g/\vd.ownBlock≠some g)/\(vl.ownBlock=some g->vd.ownBlock≠some g)
 foot:∀b,F b->B<=b/\b<w.heap.size/\va.ownBlock≠some b/\vl.ownBlock≠some b/\vd.ownBlock≠some b
variable {w':World}{B:Nat}{F:Nat->Prop}
theorem OL.keep{l:List r.den}(h:OL w B F e r v l)(j:∀b,v.ownBlock=some b->w'.heap[b]? =w.heap[b]?)(a:∀b,F b->w'.heap[b]? =w.heap[b]?):OL w' B F e r v l:=by obtain⟨q,C,O⟩:=h;exact⟨q,Qr C j,λi x Z=>dD.mono (λb U=>⟨U,a b U⟩) _ _ _ (O i x Z)⟩
theorem OL.mono{w:World}{B:Nat}{F F':Nat->Prop}{e:TypeId}{r:aP}{v:Value}{l:List r.den}(h:OL w B F e r v l)(a:∀b,F b->F' b):OL w B F' e r v l:=by obtain⟨q,C,O⟩:=h;exact⟨q,C,λi x Z=>dD.mono (λb U=>⟨a b U,rfl⟩) _ _ _ (O i x Z)⟩
variable {g:Nat}
theorem OL.lt{l:List r.den}(h:OL w B F e r v l)(a:v.ownBlock=some g):B<=g/\g<w.heap.size:=by obtain⟨q,C,_⟩:=h;exact C.lt g a
theorem OL.form{l:List r.den}(h:OL w B F e r v l):∃a c,v=.slice a l.length c:=by
 obtain⟨q,C,_⟩:=h;rcases C.2 with⟨b,d⟩|⟨g,y,Q,b,_⟩
 · grind
 grind
theorem OL.nil:OL w B F e r (.slice none 0 0) []:=⟨[],World.ownsRow_nil _ _ _ _,λi x Z=>by simp at Z⟩
theorem OL.rep{l:List r.den}(h:OL w B F e r v l)(hr:0<r.len)(o:∀b,F b\/v.ownBlock=some b->S b):iL w.heap S (.sl e r) v l:=by
 obtain⟨q,C,O⟩:=h;rcases C.2 with⟨a,d⟩|⟨g,y,Q,a,d,m,j,n,s,t⟩
 .exact⟨fC,.inl ⟨aQ1.1 d,none,0,a⟩⟩
 .refine⟨aQn j n,.inr ⟨g,0,y,Q,e,(0,0),a,j,o g (.inr (by rw[a];rfl)),m,λi x Z=>?_⟩⟩;have D:=(aQC.1 Z).1;have k:(i+1)*r.len<=l.length*r.len:=aQy _ D
  grind [List.drop_take,dD.mono]
variable {xs ys:List Value}
theorem aIK{n z j:Nat}(h:xs.length=n*z)(a:j<n):((xs++ys).drop (j*z)).take z=(xs.drop (j*z)).take z:=by
 have:(j+1)*z<=n*z:=aQy _ a
 grind
theorem OL.push{F':Nat->Prop}{v':Value}{l:List r.den}{x:r.den}(O:∀i x,l[i]? =some x->dD w.heap F r ((xs.drop (i*r.len)).take r.len) x)(W:xs.length=l.length*r.len)
 (z:w'.ownsRow B e r.len v' (l.length+1) (xs++ys)) (j:∀b,F b->F' b/\w'.heap[b]? =w.heap[b]?) (Z:dD w'.heap F' r ys x):OL w' B F' e r v' (l++[x]):=by
 refine⟨xs++ys,jv,λi y D=>?_⟩;rcases aQE i l.length with a|a
 · grind [aIK,dD.mono]
 .rw[aRR a]at D
  grind [dD.length,List.take_length]
variable {va vl vd:Value}{x:dw}
theorem Sn.below(h:Sn B w va vl vd x F)(k:Below w.heap.size w w'):Sn B w' va vl vd x F:=by have X:∀b,F b->w'.heap[b]? =w.heap[b]? :=λb U=>k.block b (h.foot b U).2.1;exact⟨h.fa.keep (λb U=>k.block b (h.fa.lt U).2) X,h.fl.keep (λb U=>k.block b (h.fl.lt U).2) X,h.fd.keep (λb U=>k.block b (h.fd.lt U).2) X,h.nx,h.ne,λb U=>⟨(h.foot b U).1,aQO (h.foot b U).2.1 k.size,(h.foot b U).2.2⟩⟩
theorem Sn.keep(h:Sn B w va vl vd x F)(Y:w.heap.size<=w'.heap.size)(k:∀b,B<=b->b<w.heap.size->w'.heap[b]? =w.heap[b]?):Sn B w' va vl vd x F:=by have X:∀b,F b->w'.heap[b]? =w.heap[b]? :=λb U=>k b (h.foot b U).1 (h.foot b U).2.1;exact⟨h.fa.keep (λb U=>k b (h.fa.lt U).1 (h.fa.lt U).2) X,h.fl.keep (λb U=>k b (h.fl.lt U).1 (h.fl.lt U).2) X,h.fd.keep (λb U=>k b (h.fd.lt U).1 (h.fd.lt U).2) X,h.nx,h.ne,λb U=>⟨(h.foot b U).1,aQO (h.foot b U).2.1 Y,(h.foot b U).2.2⟩⟩
variable {w0 w5:World}{N:Nat->Prop}{cap:Nat}
theorem Sn.aJE(h:Sn B w va vl vd x F)(J:B<=w.heap.size)(U:Below w.heap.size w w0){y:dm}(l:w.ownsRow B 180 2 va x.1.length xs)
 (m:∀i z,x.1[i]? =some z->dD w.heap F aB ((xs.drop (i*2)).take 2) z)  (C:w5.ownsRow B 180 2 (.slice (some ⟨g,0,none⟩) (x.1.length+1) cap) (x.1.length+1) (xs++ys)) (o:w0.grownBy w5 va.ownBlock) (D:va.ownBlock=some g\/g=w0.heap.size) (E:g<w5.heap.size)
 (t:∀b,N b->w.heap.size<=b/\b<w0.heap.size) (Z:dD w0.heap N aB ys y):Sn B w5 (.slice (some ⟨g,0,none⟩) (x.1.length+1) cap) vl vd (x.1++[y],x.2.1,x.2.2.1,x.2.2.2.1,()) (λb=>F b\/N b):=by
 have s:=U.size;have I:=o.size;have j:∀b,b<w.heap.size->va.ownBlock≠some b->w5.heap[b]? =w.heap[b]? :=λb k q=>(o.block b (aQO k s) (λe=>q e.symm)).trans (U.block b k);have n:∀b,F b->w5.heap[b]? =w.heap[b]? :=λb a=>j b (h.foot b a).2.1 (h.foot b a).2.2.1;have own:∀b,va.ownBlock=some b->b<w.heap.size:=λb e=>(h.fa.lt e).2;have u:∀b,vl.ownBlock=some b->b<w.heap.size/\va.ownBlock≠some b/\g≠b:=λb e=>by
  have W:=(h.fl.lt e).2;have H:va.ownBlock≠some b:=λd=>((h.ne b).1 d).1 e
  grind
 have A:∀b,vd.ownBlock=some b->b<w.heap.size/\va.ownBlock≠some b/\g≠b:=λb e=>by
  have W:=(h.fd.lt e).2;have H:va.ownBlock≠some b:=λd=>((h.ne b).1 d).2 e
  grind
 refine⟨OL.push (r:=aB) m l.1 C (λb a=>⟨.inl a,n b a⟩) (dD.mono (λb a=>⟨.inr a,o.block b (t b a).2 λe=>jv⟩) _ _ _ Z),(h.fl.keep (λb e=>j b (u b e).1 (u b e).2.1) n).mono λb a=>.inl a,(h.fd.keep (λb e=>j b (A b e).1 (A b e).2.1) n).mono λb a=>.inl a,h.nx,λb=>⟨λe=>?_,λe=>?_⟩,λb a=>?_⟩
 .obtain rfl:g=b:=Option.some.inj e
  grind
 .exact(h.ne b).2 e
 rcases a with a|a
 .obtain⟨f1,f2,f3,f4,f5⟩:=h.foot b a;exact⟨f1,fC,λe=>by
   obtain rfl:g=b:=Option.some.inj e
   grind,
   f4,
   f5⟩
 .obtain⟨f1,f2⟩:=t b a;exact⟨fC,fC,λe=>by
   obtain rfl:g=b:=Option.some.inj e
   grind,
   λe=>jv,
   λe=>jv⟩
theorem Sn.aMY(h:Sn B w va vl vd x F)(J:B<=w.heap.size)(U:Below w.heap.size w w0){y:aG}(l:w.ownsRow B 140 5 vl x.2.1.length xs)
 (m:∀i z,x.2.1[i]? =some z->dD w.heap F aF ((xs.drop (i*5)).take 5) z)  (C:w5.ownsRow B 140 5 (.slice (some ⟨g,0,none⟩) (x.2.1.length+1) cap) (x.2.1.length+1) (xs++ys)) (o:w0.grownBy w5 vl.ownBlock) (D:vl.ownBlock=some g\/g=w0.heap.size) (E:g<w5.heap.size)
 (u:∀b,N b->w.heap.size<=b/\b<w0.heap.size) (Z:dD w0.heap N aF ys y):Sn B w5 va (.slice (some ⟨g,0,none⟩) (x.2.1.length+1) cap) vd (x.1,x.2.1++[y],x.2.2.1,x.2.2.2.1,()) (λb=>F b\/N b):=by
 have s:=U.size;have I:=o.size;have j:∀b,b<w.heap.size->vl.ownBlock≠some b->w5.heap[b]? =w.heap[b]? :=λb k q=>(o.block b (aQO k s) (λe=>q e.symm)).trans (U.block b k);have n:∀b,F b->w5.heap[b]? =w.heap[b]? :=λb a=>j b (h.foot b a).2.1 (h.foot b a).2.2.2.1;have own:∀b,vl.ownBlock=some b->b<w.heap.size:=λb e=>(h.fl.lt e).2;have t:∀b,va.ownBlock=some b->b<w.heap.size/\vl.ownBlock≠some b/\g≠b:=λb e=>by
  have W:=(h.fa.lt e).2;have H:vl.ownBlock≠some b:=λd=>((h.ne b).1 e).1 d
  grind
 have A:∀b,vd.ownBlock=some b->b<w.heap.size/\vl.ownBlock≠some b/\g≠b:=λb e=>by
  have W:=(h.fd.lt e).2;have H:vl.ownBlock≠some b:=λd=>(h.ne b).2 d e
  grind
 refine⟨(h.fa.keep (λb e=>j b (t b e).1 (t b e).2.1) n).mono λb a=>.inl a,OL.push (r:=aF) m l.1 C (λb a=>⟨.inl a,n b a⟩) (dD.mono (λb a=>⟨.inr a,o.block b (u b a).2 λe=>jv⟩) _ _ _ Z),(h.fd.keep (λb e=>j b (A b e).1 (A b e).2.1) n).mono λb a=>.inl a,h.nx,λb=>⟨λe=>?_,λe=>?_⟩,λb a=>?_⟩
 .exact⟨λd=>(t b e).2.2 (Option.some.inj d),((h.ne b).1 e).2⟩
 .obtain rfl:g=b:=Option.some.inj e
  grind
 rcases a with a|a
 .obtain⟨f1,f2,f3,f4,f5⟩:=h.foot b a;exact⟨f1,fC,f3,
   λe=>by
   obtain rfl:g=b:=Option.some.inj e
   grind,
   f5⟩
 .obtain⟨f1,f2⟩:=u b a;exact⟨fC,fC,λe=>jv,
   λe=>by
   obtain rfl:g=b:=Option.some.inj e
   grind,
   λe=>jv⟩
theorem Sn.aJF(h:Sn B w va vl vd x F)(J:B<=w.heap.size)(U:Below w.heap.size w w0){y:aH}(l:w.ownsRow B 115 2 vd x.2.2.2.1.length xs)
 (m:∀i z,x.2.2.2.1[i]? =some z->dD w.heap F ay ((xs.drop (i*2)).take 2) z)  (C:w5.ownsRow B 115 2 (.slice (some ⟨g,0,none⟩) (x.2.2.2.1.length+1) cap) (x.2.2.2.1.length+1) (xs++ys)) (o:w0.grownBy w5 vd.ownBlock) (D:vd.ownBlock=some g\/g=w0.heap.size) (E:g<w5.heap.size)
 (A:∀b,N b->w.heap.size<=b/\b<w0.heap.size) (Z:dD w0.heap N ay ys y):Sn B w5 va vl (.slice (some ⟨g,0,none⟩) (x.2.2.2.1.length+1) cap) (x.1,x.2.1,x.2.2.1,x.2.2.2.1++[y],()) (λb=>F b\/N b):=by
 have s:=U.size;have I:=o.size;have j:∀b,b<w.heap.size->vd.ownBlock≠some b->w5.heap[b]? =w.heap[b]? :=λb k q=>(o.block b (aQO k s) (λe=>q e.symm)).trans (U.block b k);have n:∀b,F b->w5.heap[b]? =w.heap[b]? :=λb a=>j b (h.foot b a).2.1 (h.foot b a).2.2.2.2;have own:∀b,vd.ownBlock=some b->b<w.heap.size:=λb e=>(h.fd.lt e).2;have t:∀b,va.ownBlock=some b->b<w.heap.size/\vd.ownBlock≠some b/\g≠b:=λb e=>by
  have W:=(h.fa.lt e).2;have H:vd.ownBlock≠some b:=λd=>((h.ne b).1 e).2 d
  grind
 have u:∀b,vl.ownBlock=some b->b<w.heap.size/\vd.ownBlock≠some b/\g≠b:=λb e=>by
  have W:=(h.fl.lt e).2;have H:vd.ownBlock≠some b:=λd=>(h.ne b).2 e d
  grind
 refine⟨(h.fa.keep (λb e=>j b (t b e).1 (t b e).2.1) n).mono λb a=>.inl a,(h.fl.keep (λb e=>j b (u b e).1 (u b e).2.1) n).mono λb a=>.inl a,OL.push (r:=ay) m l.1 C (λb a=>⟨.inl a,n b a⟩) (dD.mono (λb a=>⟨.inr a,o.block b (A b a).2 λe=>jv⟩) _ _ _ Z),h.nx,λb=>⟨λe=>?_,λe=>?_⟩,λb a=>?_⟩
 .exact⟨((h.ne b).1 e).1,λd=>(t b e).2.2 (Option.some.inj d)⟩
 .exactλd=>(u b e).2.2 (Option.some.inj d)
 rcases a with a|a
 .obtain⟨f1,f2,f3,f4,f5⟩:=h.foot b a;exact⟨f1,fC,f3,
   f4,
   λe=>by
   obtain rfl:g=b:=Option.some.inj e
   grind⟩
 .obtain⟨f1,f2⟩:=A b a;exact⟨fC,fC,λe=>jv,
   λe=>jv,
   λe=>by
   obtain rfl:g=b:=Option.some.inj e
   grind⟩
theorem FW.cell{a:Option Addr}{c:Nat}(h:FW B w (.slice a f.length c) f){n:Nat}(H:n<f.length):∃b m,a=some ⟨b,m,none⟩/\b<B/\w.cell? ⟨b,m+n,none⟩=some (.string ⟨(f.getD n ([],())).1.toArray⟩):=by
 rcases h.2 with⟨rfl,_⟩|⟨b,m,cap,A,t,y,e,d,j,k,o⟩
 · grind
 .injection e with ea;refine⟨b,m,ea,j,?_⟩;have Z:f[n]? =some (f.getD n ([],())):=jv;generalize f.getD n ([],())=x at Z ⊢;obtain⟨u,z,q,⟨s,_⟩,_⟩:=o n x Z;rw[qM k,← s];have i:=congrArg (λl=>l[0]?) q;have i:((A.toList.drop (m+n*1)).take 1)[0]? =some u:=i
  grind
def az4:Value:=.agg #[.string ⟨#[]⟩,.int .i64 0]
def aF9:Value:=.agg #[.int .i64 0,.int .i64 0,.bool false,.int .i64 0,.slice none 0 0]
def az7:Value:=.agg #[.string ⟨#[]⟩,.slice none 0 0]
theorem aF7:(prog.info? 180).map (λi=>(i.zero,i.size,i.bytes))=some (some az4,2,24):=lu
theorem aLB:(prog.info? 140).map (λi=>(i.zero,i.size,i.bytes))=some (some aF9,5,56):=lu
theorem aGa:(prog.info? 115).map (λi=>(i.zero,i.size,i.bytes))=some (some az7,2,40):=lu
structure Kp(B P:Nat)(W w:World):Prop where
 os:w.os=W.os
 tape:w.tape=W.tape
 output:w.output=W.output
 size:W.heap.size<=w.heap.size
 block:∀b,b<B->b≠P->w.heap[b]? =W.heap[b]?
variable {P:Nat}{W:World}
theorem Kp.below(a:B<=W.heap.size)(h:Kp B P W w)(k:Below w.heap.size w w'):Kp B P W w':=
 ⟨k.os.trans h.os,k.tape.trans h.tape,k.output.trans h.output,aQn h.size k.size,λb U H=>(k.block b (by have:=h.size;omega)).trans (h.block b U H)⟩
theorem Kp.set(h:Kp B P W w){k:Nat}:Kp B P W (w.setCell ⟨P,k,none⟩ v):=
 ⟨h.os,h.tape,h.output,by simpa[World.setCell]using h.size,λb U H=>(Aj v H).trans (h.block b U H)⟩
theorem Kp.grown(a:B<=W.heap.size)(h:Kp B P W w){o:Option Nat}(k:w.grownBy w' o)(z:∀b,o=some b->B<=b):Kp B P W w':=
 ⟨k.os.trans h.os,k.tape.trans h.tape,k.output.trans h.output,aQn h.size k.size,λb U H=>(k.block b (by have:=h.size;omega) λe=>jv).trans (h.block b U H)⟩
def Held(B P:Nat)(w:World)(x:dw):Prop:=∃va vl vd F,w.heap[P]? =some (.cells #[va,vl,.int .i64 x.2.2.1,vd] 64 (0,0))/\Sn B w va vl vd x F
theorem four{a T b d:Value}{t:TypeId}(h:w.heap[g]? =some (.cells #[a,T,b,d] t (0,0))):
 (w.cell? ⟨g,0,none⟩=some a/\w.cell? ⟨g,1,none⟩=some T/\w.cell? ⟨g,2,none⟩=some b/\w.cell? ⟨g,3,none⟩=some d)/\w.frozen? ⟨g,0,none⟩=false/\w.frozen? ⟨g,1,none⟩=false/\w.frozen? ⟨g,2,none⟩=false/\w.frozen? ⟨g,3,none⟩=false:=
 ⟨⟨qM h 0,qM h 1,qM h 2,qM h 3⟩,Ho h 0,Ho h 1,Ho h 2,Ho h 3⟩
theorem Held.below(h:Held B P w x)(k:Below w.heap.size w w'):Held B P w' x:=by obtain⟨va,vl,vd,F,C,O⟩:=h;exact⟨va,vl,vd,F,(k.block P (aQw.1 C).1).trans C,O.below k⟩
theorem Kp.of(a:B<=W.heap.size)(k:Below W.heap.size W w):Kp B P W w:=⟨k.os,k.tape,k.output,k.size,λb U _=>k.block b fC⟩
set_option maxHeartbeats 16000000 in
theorem Sn.next(h:Sn B w va vl vd x F){n:Int}(H:Vx n):Sn B w va vl vd (x.1,x.2.1,n,x.2.2.2.1,()) F:=⟨h.fa,h.fl,h.fd,H,h.ne,h.foot⟩
theorem Sn.set{k:Nat}(h:Sn B w va vl vd x F)(a:P<B):Sn B (w.setCell ⟨P,k,none⟩ v) va vl vd x F:=
 h.keep x9 λb U _=>Aj v jv
theorem aiS(s:List UInt8):Vx (Sp.parseNum s):=by have:=oO.1 (Xk s);exact⟨fC,fC⟩
theorem FW.tail{b m:Nat}{x:List UInt8×Unit}{r:Sp.LS}(h:FW B w (.slice (some ⟨b,m,none⟩) (r.length+1) cap) (x::r)):(cap=1->FW B w (.slice (some ⟨b,m,none⟩) r.length 0) r)/\(¬cap=1->FW B w (.slice (some ⟨b,m+1,none⟩) r.length (cap-1)) r):=by
 have k:r.length+1<=maxLen:=h.1;rcases h.2 with⟨e,_⟩|⟨u,j,a,A,t,q,e,d,l,n,o⟩
 .cases e
 .cases e;have d:r.length+1<=cap:=d;refine⟨λC=>⟨fC,.inl ⟨aQ1.1 fC,?_⟩⟩,λ_=>⟨fC,.inr ⟨b,m+1,cap-1,A,t,q,rfl,fC,l,n,λi y s=>?_⟩⟩⟩
  · simp_all
  .have:=o (i+1) y (by simpa using s);rw[show m+1+i*gu.len=m+(i+1)*gu.len by show m+1+i*1=m+(i+1)*1;omega];exact this
theorem FW.aMZ{b m:Nat}{x y:List UInt8×Unit}{r:Sp.LS}(h:FW B w (.slice (some ⟨b,m,none⟩) (r.length+2) cap) (x::y::r))(hr:0<r.length):¬cap=2/\FW B w (.slice (some ⟨b,m+2,none⟩) r.length (cap-2)) r:=by
 have k:r.length+2<=maxLen:=h.1;rcases h.2 with⟨e,_⟩|⟨u,j,a,A,t,q,e,d,l,n,o⟩
 .cases e
 .cases e;have d:r.length+2<=cap:=d;refine⟨fC,fC,.inr ⟨b,m+2,cap-2,A,t,q,rfl,fC,l,n,λi z s=>?_⟩⟩;have:=o (i+2) z (by simpa using s);rw[show m+2+i*gu.len=m+(i+2)*gu.len by show m+2+i*1=m+(i+2)*1;omega];exact this
def snV(va vl vd:Value)(nx:Int):Value:=.agg #[va,vl,.int .i64 nx,vd]
def aHU(x:dw):Arg:=.sv (.agg [.sl ah aB x.1 false,.sl ai aF x.2.1 false,.int .i64 x.2.2.1,.sl au ay x.2.2.2.1 false])
theorem Sn.aL6(h:Sn B w va vl vd x F)(a:∀b,B<=b->b<w.heap.size->S b):
 iL w.heap S (.sl ah aB) va x.1/\iL w.heap S (.sl ai aF) vl x.2.1/\iL w.heap S (.sl au ay) vd x.2.2.2.1:=by
 have d:∀b,F b->S b:=λb U=>a b (h.foot b U).1 (h.foot b U).2.1;exact⟨h.fa.rep jI λb U=>U.elim (d b) λe=>a b (h.fa.lt e).1 (h.fa.lt e).2,h.fl.rep jI λb U=>U.elim (d b) λe=>a b (h.fl.lt e).1 (h.fl.lt e).2,h.fd.rep jI λb U=>U.elim (d b) λe=>a b (h.fd.lt e).1 (h.fd.lt e).2⟩
theorem aFZ(h:Sn B w va vl vd x F):vw ⟨w,w.heap.size,λ_=>True,λ_=>undef,λ_=>none⟩ (aHU x) (snV va vl vd x.2.2.1):=by obtain⟨a,d,i⟩:=h.aL6 (S:=V.fG ⟨w,w.heap.size,λ_=>True,λ_=>undef,λ_=>none⟩ false) λb _ U=>⟨⟨U,λ_=>trivial,λo x Z=>vk⟩,λe=>y5⟩;exact⟨_,rfl,a,d,⟨rfl,h.nx⟩,i,trivial⟩
def Gives(W w':World)(e:Ending)(x:dw)(a:Bool):Prop:=
 ∃va vl vd,e=.returned (.tuple #[snV va vl vd x.2.2.1,.bool a])/\Below W.heap.size W w'/\Vx x.2.2.1/\iL w'.heap (λb=>W.heap.size<=b/\b<w'.heap.size) (.sl ah aB) va x.1/\
  iL w'.heap (λb=>W.heap.size<=b/\b<w'.heap.size) (.sl ai aF) vl x.2.1/\iL w'.heap (λb=>W.heap.size<=b/\b<w'.heap.size) (.sl au ay) vd x.2.2.2.1
theorem ari(h:Below W.heap.size W w'):Gives W w' (.returned (.tuple #[.agg #[.slice none 0 0,.slice none 0 0,.int .i64 0,.slice none 0 0],.bool false])) nX false:=
 ⟨_,_,_,rfl,h,⟨jI,jI⟩,⟨aQx _,.inl ⟨rfl,none,0,rfl⟩⟩,⟨aQx _,.inl ⟨rfl,none,0,rfl⟩⟩,⟨aQx _,.inl ⟨rfl,none,0,rfl⟩⟩⟩
theorem aH0(j:W.heap.size<=B)(h:Below W.heap.size W w')(Y:Sn B w' va vl vd x F):Gives W w' (.returned (.tuple #[.agg #[va,vl,.int .i64 x.2.2.1,vd],.bool true])) x true:=by obtain⟨a,d,i⟩:=Y.aL6 (S:=λb=>W.heap.size<=b/\b<w'.heap.size) λb C O=>⟨fC,O⟩;exact⟨va,vl,vd,rfl,h,Y.nx,a,d,i⟩
theorem Kp.low{a:World}(h:Kp (W.heap.size+2) P a w)(d:W.heap.size<=P)(k:Below W.heap.size W a):Below W.heap.size W w:=
 ⟨h.os.trans k.os,h.tape.trans k.tape,h.output.trans k.output,aQn k.size h.size,λb U=>(h.block b fC fC).trans (k.block b U)⟩
def aaN:Array Value:=#[.slice none 0 0,.slice none 0 0,.int .i64 0,.slice none 0 0]
theorem Sn.zero(B:Nat)(w:World):Sn B w (.slice none 0 0) (.slice none 0 0) (.slice none 0 0) nX λ_=>False:=
 ⟨OL.nil,OL.nil,OL.nil,⟨jI,jI⟩,λg=>⟨λe=>y5,λe=>y5⟩,λb U=>U.elim⟩
theorem aLv(w:World)(o p:Obj):((w.alloc o).alloc p).heap[w.heap.size+1]? =some p:=by
 have:=aRc (w.alloc o) p
 simp_all
theorem box1(w:World)(o p:Obj):((w.alloc o).alloc p).heap[w.heap.size]? =some o:=(heap_alloc_old _ p ni).trans (aRc w o)
theorem below2(w:World)(o p:Obj):Below w.heap.size w ((w.alloc o).alloc p):=((Below.refl _ _).alloc (aQp _) o).alloc ni p
theorem azY(w:World)(o p:Obj):((w.alloc o).alloc p).heap.size=w.heap.size+2:=ni
theorem Kp.trans{a b c:World}(h:Kp B P a b)(k:Kp B P b c):Kp B P a c:=
 ⟨k.os.trans h.os,k.tape.trans h.tape,k.output.trans h.output,aQn h.size k.size,λx Z H=>(k.block x Z H).trans (h.block x Z H)⟩
theorem FW.keep'(h:FW W.heap.size W v f)(k:Below W.heap.size W w):FW w.heap.size w v f:=iL.mono (λb U=>⟨aQO U k.size,k.block b U⟩) _ _ _ h
def Dh(w:World)(g:Nat)(y0 y1 y2 y3:Value):World:=(((w.setCell ⟨g,0,none⟩ y0).setCell ⟨g,1,none⟩ y1).setCell ⟨g,2,none⟩ y2).setCell ⟨g,3,none⟩ y3
variable {y0 y1 y2 y3:Value}
theorem Qn{a T b d:Value}{t:TypeId}(h:w.heap[g]? =some (.cells #[a,T,b,d] t (0,0))):(Dh w g y0 y1 y2 y3).heap[g]? =some (.cells #[y0,y1,y2,y3] t (0,0)):=
 acX (acX (acX (acX h 0 y0) 1 y1) 2 y2) 3 y3
theorem NH(h:Below W.heap.size W w)(a:W.heap.size<=g):Below W.heap.size W (Dh w g y0 y1 y2 y3):=(((h.setCell a _).setCell a _).setCell a _).setCell a _
theorem aCS(h:Sn B w va vl vd x F)(a:g<B):Sn B (Dh w g y0 y1 y2 y3) va vl vd x F:=(((h.set a).set a).set a).set a
end Go.Proofs.Tryz
namespace Go.Proofs.Tryz
open Go Go.Fw Go.IntWalk Sp
set_option maxRecDepth 100000
theorem aFX{s:List UInt8}(h:dJ s):YH (Sp.inner (Sp.pieces 10 s)):=by
 unfold Sp.inner;refine⟨?_,λx Z=>h.2 x (aRa (aSd Z))⟩;have:=h.1
 grind
end Go.Proofs.Tryz
namespace Go.Proofs.Tryz
open Go Go.Fw Go.RowKit Sp
set_option maxRecDepth 100000
theorem aHP(s:List UInt8)(Y:s.length<=1048576)(w:World)(m:G.ok w):Calls prog 276 #[.string ⟨s.toArray⟩] w λe d=>
 ∃a c,e=.returned (.tuple #[.slice a (kD s).length c,.bool (sJ s)])/\FW d.heap.size d (.slice a (kD s).length c) (kD s)/\Below w.heap.size w d:=by
 have N:lY prog G 276 (tq qI.sh qI.fM qI.F):=Uk.1;refine(N [.sv (.one (.str s))] (s.length<=1048576) _ 0 (λ_=>True) #[.string ⟨s.toArray⟩] w rfl Y m ⟨⟨rfl,o8⟩,trivial⟩).mono ?_;rintro e d ⟨v,h,rfl,C,O,K,i,j,k,_,_⟩;obtain⟨I,rfl,f⟩:=k;obtain⟨l⟩:=I
 match l,f with
 |[x,y],f=>obtain⟨Z,F,_⟩:=f;have Z:iL d.heap _ (.sl dS gu) x (kD s):=Z;obtain⟨a,c,g⟩:=acY Z;rw[g]at Z;rw[F,g];exact⟨a,c,rfl,iL.mono (λb U=>⟨U.1.1,rfl⟩) _ _ _ Z,C,O,K,i,j⟩
variable {w:World}
theorem NI{v:Value}{f:Sp.LS}(R:FW w.heap.size w v f){i:Int}(l:0<=i)(C:i<=100000)(h:G.ok w):Calls prog 277 #[v,.int .i64 i] w λe d=>e=.returned (.string ⟨(Sp.wordAt f i).toArray⟩)/\Below w.heap.size w d:=by have N:lY prog G 277 (tq qX.sh qX.fM qX.F):=Ti.1;refine(N [.sv (.one (.sl dS gu f false)),.sv (.one (.int .i64 i))] (0<=i) _ 0 (λ_=>True) #[v,.int .i64 i] w rfl l h ⟨V8 R,⟨rfl,by show -9223372036854775808<=i;omega,by show i<=9223372036854775807;omega⟩,trivial⟩).mono ?_;rintro e d ⟨v,b,rfl,C,O,K,x,g,a,_,_⟩;have a:v=.string ⟨(Sp.wordAt f i).toArray⟩/\_:=a;exact⟨by rw[a.1],C,O,K,x,g⟩
theorem ak1{v:Value}{f:Sp.LS}(R:FW w.heap.size w v f){i:Int}(l:0<=i)(C:i<=100000)(h:G.ok w):Calls prog 278 #[v,.int .i64 i] w λe d=>e=.returned (.int .i64 (Sp.numAt f i))/\Below w.heap.size w d:=by have N:lY prog G 278 (tq Js.sh Js.fM Js.F):=auT.1;refine(N [.sv (.one (.sl dS gu f false)),.sv (.one (.int .i64 i))] (0<=i) _ 0 (λ_=>True) #[v,.int .i64 i] w rfl l h ⟨V8 R,⟨rfl,by show -9223372036854775808<=i;omega,by show i<=9223372036854775807;omega⟩,trivial⟩).mono ?_;rintro e d ⟨v,b,rfl,C,O,K,x,g,a,_,_⟩;have a:v=.int .i64 (Sp.numAt f i)/\_:=a;exact⟨by rw[a.1],C,O,K,x,g⟩
theorem aHQ(s:List UInt8)(Y:s.length<=1048576)(w:World)(t:G.ok w):Calls prog 279 #[.string ⟨s.toArray⟩] w λe h=>
 e=.returned (.tuple #[.agg #[.int .i64 (gZ s).1.1,.int .i64 (gZ s).1.2.1,.string ⟨(gZ s).1.2.2.1.toArray⟩],.bool (gZ s).2])/\Below w.heap.size w h/\Vx (gZ s).1.1/\Vx (gZ s).1.2.1/\(gZ s).1.2.2.1.length<=maxLen:=by
 have N:lY prog G 279 (tq pR.sh pR.fM pR.F):=V9.1;refine(N [.sv (.one (.str s))] (s.length<=1048576) _ 0 (λ_=>True) #[.string ⟨s.toArray⟩] w rfl Y t ⟨⟨rfl,o8⟩,trivial⟩).mono ?_;rintro e h ⟨v,g,rfl,C,O,K,m,o,q,_,_⟩;obtain⟨I,rfl,d⟩:=q;obtain⟨l⟩:=I
 match l,d with
 |[a,b],d=>
  obtain⟨⟨n,k,f⟩,r,_⟩:=d;obtain⟨u⟩:=n
  match u,f with
  |[x,y,z],f=>obtain⟨T,i,j,_⟩:=f;rw[k,r,T.1,i.1,j.1];exact⟨rfl,⟨C,O,K,m,o⟩,T.2,i.2,j.2⟩
theorem aHR(s:List UInt8)(Y:s.length<=1048576)(w:World)(n:G.ok w):Calls prog 280 #[.string ⟨s.toArray⟩] w λe f=>
 ∃a c,e=.returned (.tuple #[.slice a (mZ s).length c,.bool (uV s)])/\Below w.heap.size w f/\iL f.heap (λb=>w.heap.size<=b/\b<f.heap.size) (.sl bg dG) (.slice a (mZ s).length c) (mZ s):=by
 have d:lY prog G 280 (tq wW.sh wW.fM wW.F):=aiM.1;refine(d [.sv (.one (.str s))] (s.length<=1048576) _ 0 (λ_=>False) #[.string ⟨s.toArray⟩] w rfl Y n ⟨⟨rfl,o8⟩,trivial⟩).mono ?_;rintro e f ⟨v,i,rfl,C,O,K,j,k,m,_,_⟩;obtain⟨I,rfl,g⟩:=m;obtain⟨l⟩:=I
 match l,g with
 |[x,y],g=>obtain⟨Z,F,_⟩:=g;have Z:iL f.heap _ (.sl bg dG) x (mZ s):=Z;obtain⟨a,c,h⟩:=acY Z;rw[h]at Z;rw[F,h];exact⟨a,c,rfl,⟨C,O,K,j,k⟩,iL.mono (λb U=>⟨⟨Nat.le_of_not_lt U.1.2.1,U.1.1⟩,rfl⟩) _ _ _ Z⟩
theorem aKj(v:Value)(f:Sp.LS)(w:World)(R:FW w.heap.size w v f)(X:f.length<=1000)(j:(mY f).length<=2097152)(i:G.ok w):Calls prog 281 #[v] w λe d=>
 e=.returned (.string ⟨(mY f).toArray⟩)/\Below w.heap.size w d:=by
 have a:lY prog G 281 (tq yA.sh yA.fM yA.F):=aaO.1;refine(a [.sv (.one (.sl dS gu f false))] (f.length<=1000/\(mY f).length<=2097152) _ 0 (λ_=>True) #[v] w rfl ⟨X,j⟩ i ⟨V8 R,trivial⟩).mono ?_;rintro e d ⟨v,b,rfl,C,O,K,x,g,h,_,_⟩;rw[h.1];exact⟨rfl,C,O,K,x,g⟩
def Back(B:Nat)(W w':World)(e:Ending)(x:dw):Prop:=∃a d b F,e=.returned (snV a d b x.2.2.1)/\Sn B w' a d b x F/\Kp B B W w'
theorem aeO{B:Nat}{W:World}(a:B<=W.heap.size)(k:Below W.heap.size W w):Kp B B W w:=⟨k.os,k.tape,k.output,k.size,λb U _=>k.block b fC⟩
theorem abD{a:List UInt8}:(kD a).length<=24/\∀y∈kD a,y.1.length<=600:=by
 unfold kD;cases h:sJ a with
 |false=>grind
 |true=>
  have Y:=JV.1 h;refine⟨?_,λy F=>aQn (aoF y F) Y.1⟩
  grind [Y8]
end Go.Proofs.Tryz
