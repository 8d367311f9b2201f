import Derived.Test.YtdmilcleobbphaaGreatP10
import Derived.Test.YtdmilcleobbphaaGreatSp
import Derived.Test.YtdmilcleobbphaaGreatV9
import Derived.Test.YtdmilcleobbphaaGreatV10
import Derived.Test.YtdmilcleobbphaaGreatV12
import Derived.Test.YtdmilcleobbphaaGreatV13
namespace Go.Proofs.Tryz
open Go Go.Fw Go.IntWalk Sp
theorem aC1{l:List (Int×Unit)}{s:Int}{m:Nat}(k:m<=l.length)(C:∀i,i<m->decide ((l.getD i (0,())).1<s)=true)(O:m<l.length->decide ((l.getD m (0,())).1<s)=false):
 Oe l s=bif decide (m<l.length)&&(l.getD m (0,())).1==s then l else l.take m++[(s,())]++l.drop m:=by
 obtain⟨w,_⟩:=L8 (d:=((0:Int),())) l m k (p:=λx=>decide (x.1<s)) C O
 grind [Oe]
theorem aIo(l:List (Int×Unit))(s:Int):(Oe l s).length<=l.length+1:=by
 grind [Oe]
theorem apv:OK KQ.e:=by
 refine dW [] ⟨⟩ asl λl s=>show KQ.goal (apw l s) (l,s,())fromλB J=>?_
 dsimp only[KQ]at J ⊢;have J:l.length<=10000000:=J;have fin:∀m:Nat,m<=l.length->Oe l s=l.take m++[(s,())]++l.drop m->((0:Int)<=m/\(m:Int)<=l.length)/\0+(List.drop 0 (List.take m l)).length<=big/\(List.drop 0 (List.take m l)).length+[(s,())].length<=big/\((0:Int)<=m/\(m:Int)<=l.length)/\
  (List.drop 0 (List.take m l)++[(s,())]).length+(List.drop m (List.take l.length l)).length<=big/\(List.drop 0 (List.take m l)++[(s,())]++List.drop m (List.take l.length l),())=(Oe l s,()):=by
  intro m k h;refine⟨⟨fC,fC⟩,?_,?_,⟨fC,fC⟩,?_,?_⟩
  · grind [bV]
  · grind [bV]
  · grind [bV]
  grind
 refine iW l.length fC (λn=>∀i,i<n->decide ((l.getD i (0,())).1<s)=true) (λi D=>fC) (λI P n H E next=>?_) λI P E=>?_
 .dsimp only;refine dH fC ⟨⟨fC,fC⟩,af (λh=>⟨rfl,next (fH (f:=λi=>decide ((l.getD i (0,())).1<s)) E h)⟩) λh=>dH fC ⟨⟨fC,fC⟩,?_⟩⟩;have e:=aC1 (aSl H) E λ_=>h;rw[aQT H,aRz]at e;refine af (λO=>?_) λO=>fin n (aSl H) ?_
  .rw[show((l.getD n (0,())).1==s)=true from O]at e;rw[e];rfl
  .rw[show((l.getD n (0,())).1==s)=false from O]at e;exact e
 .dsimp only;refine gU fC (gU fC (fin l.length (aQp _) ?_));have e:=aC1 (aQp _) E λh=>fC
  grind
theorem NP(l q:List (Int×Unit)):(vK l q).length<=l.length+q.length:=by
 induction q generalizing l with
 |nil=>exact aQp _
 |cons x r ih=>
  grind [aIo,vK]
theorem asn(l q:List (Int×Unit))(x:Int×Unit):vK l (q++[x])=Oe (vK l q) x.1:=by
 grind [vK]
theorem abH:OK zS.e:=by
 refine dW [KQ.e,pK.e] ⟨apv,zx,⟨⟩⟩ adv λl b x y=>show zS.goal (abX l b x y) (l,(b,x,y,()),())fromλB J=>?_
 dsimp only[zS]at J ⊢;refine bQ (λi(z:List (Int×Unit))=>((z,i,()),())) (λy=>y.1.2.1) (λ_ _=>rfl) l.length fC (λn z=>z=vK [] ((l.take n).filter λz=>!fF y z.1)) rfl (λI P n z H E next=>?_) λI P z E=>?_
 .subst E;have W:(vK [] ((l.take n).filter λz=>!fF y z.1)).length<=n:=by
   grind [NP]
  have step:=JW (λz:Int×Unit=>!fF y z.1) (0,()) l H;dsimp only;refine dH fC ⟨⟨fC,fC⟩,trivial,af (λh=>⟨⟨fC,fC⟩,fC,rfl,next _ ?_⟩) λh=>⟨rfl,next _ ?_⟩⟩
  · grind [asn]
  grind
 .subst E;rw[aQK];dsimp only;have W:(vK [] (l.filter λz=>!fF y z.1)).length<=l.length:=by
   grind [NP]
  refine gU fC (bQ (λi(z:List (Int×Unit))=>((z,i,()),())) (λy=>y.1.2.1) (λ_ _=>rfl) x.length fC (λn z=>z=vK (vK [] (l.filter λz=>!fF y z.1)) (x.take n)) rfl (λI P n z H E next=>?_) λI P z E=>?_)
  .subst E;have a:=NP (vK [] (l.filter λz=>!fF y z.1)) (x.take n);rw[aRe]at a;dsimp only;refine dH fC ⟨⟨fC,fC⟩,fC,rfl,next _ ?_⟩;rw[Sp.take_succ' x n (0,()) H,asn];rfl
  .subst E;rw[aQK];have a:=NP (vK [] (l.filter λz=>!fF y z.1)) x;dsimp only;exact gU fC ⟨o6,rfl⟩
theorem aAc(l x y:List (Int×Unit)):(uz l x y).length<=l.length+x.length:=by have a:=NP (vK [] (l.filter λz=>!fF y z.1)) x;have b:=NP [] (l.filter λz=>!fF y z.1);have c:=aQ2 (λz:Int×Unit=>!fF y z.1) l;rw[aQZ]at b;show(vK (vK [] _) x).length<=_;omega
theorem abY:OK zU.e:=by
 refine eP [] ⟨⟩ adw (λ⟨(i,o,s,l,a,_),t,(k,n,w,_),_⟩ _=>⟨(((i,o,s,l,ku a t k n w,()),()),()),⟨rfl,rfl,rfl,rfl,rfl⟩⟩) λe g j q d t k n s=>show zU.goal (abZ e g j q d t k n s) ((e,g,j,q,d,()),t,(k,n,s,()),())fromλB J=>?_
 dsimp only[zU]at J ⊢;have J:d.length<=1000:=J;refine bQ (λi(x:List aW)=>(((),i,()),x,())) (λy=>y.1.2.1) (λ_ _=>rfl) d.length fC (λm l=>l=(d.take m).filter (nC t)) ni (λI P m l r E next=>?_) λI P l E=>?_
 .subst E;have W:=aaI d (nC t) m;dsimp only;refine dH fC ⟨⟨fC,fC⟩,af (λh=>⟨⟨fC,fC⟩,yJ,rfl,next _ ?_⟩) λh=>⟨rfl,next _ ?_⟩⟩
  .rw[I9 _ r,if_pos (show nC t (iJ d m)=true from h)];rfl
  grind [I9,nC,iJ]
 .rw[aQK]at E;have W:l.length<=1000:=jv;dsimp only;refine gU fC (af (λh=>?_) λh=>?_)
  .have hk:k≠0:=oQ;have fin:∀m:Nat,m<=l.length->(∀i,i<m->lT t (iJ l i)=true)->(m<l.length->lT t (iJ l m)=false)->
    ((0:Int)<=m/\(m:Int)<=l.length)/\0+(List.drop 0 (List.take m l)).length<=big/\(List.drop 0 (List.take m l)).length+[(t,k,n,s,())].length<=big/\((0:Int)<=m/\(m:Int)<=l.length)/\
    (List.drop 0 (List.take m l)++[(t,k,n,s,())]).length+(List.drop m (List.take l.length l)).length<=big/\
    (e=e/\g=g/\j=j/\q=q/\List.drop 0 (List.take m l)++[(t,k,n,s,())]++List.drop m (List.take l.length l)=ku d t k n s):=by
    grind [aq1,bV]
   refine iW l.length fC (λm=>∀i,i<m->lT t (iJ l i)=true) (λi D=>fC) (λI P m r b next=>?_) λI P b=>?_
   .dsimp only;refine dH fC ⟨⟨fC,fC⟩,r,af (λO=>⟨rfl,next (fH (f:=λi=>lT t (iJ l i)) b O)⟩) λO=>?_⟩;exact fin m fC b λ_=>O
   .dsimp only;exact gU fC (fin l.length (aQp _) b λu=>fC)
  grind [aiF]
variable {s:bT}
theorem avE(h:aJ s=true){i j:Nat}(D:i<s.2.1.length)(a:j<s.2.1.length)(e:(Sp.fileAt s.2.1 i).1=(Sp.fileAt s.2.1 j).1):i=j:=by
 rcases aR6 i j with C|C|C
 .have:=Zt h j i C a;omega
 .exact C
 .have:=Zt h i j C D;omega
variable {c:dF}{df:List pz}{ok:Bool}
theorem aIp{o:dF}{g:aG}{m:Nat}(q:dn c=true)(L:m<c.2.1.length)(t:(Sp.fileAt c.2.1 m).1=g.1)(J:fD c.1 g=true)(h:Sp.updated c g o df ok):
 ok=true/\df=KP (uK c) (uK o)/\aQ o=(c.1,c.2.1.set m g,c.2.2.1,())/\bF o=bF c/\dn o=true:=by
 obtain⟨x,i,y⟩:=vJ q;have w:∃n,n<c.2.1.length/\Sp.place c.2.1 g.1=n/\bU (aQ c) g=((c.1,c.2.1.set n g,c.2.2.1,()),true):=by
  rcases mG (aQ c) g with⟨_,e⟩|⟨n,H,C,O,K,e⟩
  .refine(e ⟨i,?_,J⟩).elim;rcases vT c.2.1 g.1 with⟨_,O⟩|⟨k,_,O,_⟩
   · grind
   .show 0<=Sp.place c.2.1 g.1;omega
  .exact⟨n,H,C,e⟩
 obtain⟨n,H,M,hr⟩:=w;have z:n=m:=by
  rcases vT c.2.1 g.1 with⟨_,O⟩|⟨k,j,O,K,_⟩
  .omega
  .have:k=n:=fC;subst this;exact avE i j L (K.trans t.symm)
 subst z;have f:(bI (aQ c) g.1).1=Sp.fileAt c.2.1 n:=by
  show(bif decide (Sp.place c.2.1 g.1<0)then _ else(Sp.fileAt c.2.1 (Sp.place c.2.1 g.1).toNat,true)).1=_
  grind
 obtain⟨R,S,_⟩:=h;have N:(dn c&&(bU (aQ c) g).2)=true:=jv;have u:ok=true:=R.trans N;obtain⟨D,F,A,U⟩:=S u;have b:=Lc g i;rw[hr]at D A b;rw[f]at A;have B:=(oq x).1;obtain⟨T,W⟩:=Y7 x;obtain⟨E,I⟩:=TL [] (λ_=>true) B W (vI b);have e:=aIq B H t y A I;obtain⟨a,l,Q,d,r,_⟩:=o;have P:((a,l,Q,()):bT)=(c.1,c.2.1.set n g,c.2.2.1,()):=D;have F:d=bF c:=F;have e:r=E:=e
 grind [ajH]
theorem aC2(a:aJ (aQ c)=true){m:Nat}(k:m<c.2.1.length):fD c.1 (Sp.fileAt c.2.1 m)=true:=(tV.1 ((nV.1 a).1 m k)).1
variable {f:aG}
theorem aso{a:List dm}(h:fD a f=true):jh a f.2.2.2.2.1=true/\f.2.2.2.2.1.length<=5:=by
 unfold fD at h;simp only[aQm]at h;have C:=h.1.1.1.1;refine⟨C,aQn (aeW C) ?_⟩
 grind [fJ]
theorem aKB(b:aJ (aQ c)=true):akG c:=λf X=>by obtain⟨i,D,rfl⟩:=aQQ X;have a:Sp.fileAt c.2.1 i=c.2.1[i]:=y8;have:=(aso (aC2 b D)).2;rw[a]at this;exact aQn this jI
theorem axe(h:dn c=true)(Y:aK (bF c)):iU c:=by
 obtain⟨e,a,d⟩:=vJ h;have X:c.2.1.length<=12:=(nV.1 a).2.2.1;have b:=(nV.1 a).2.1;have g:c.1.length<=5:=by
  have b:fJ c.1=true:=b
  grind [fJ]
 refine⟨⟨by show c.1.length<=1000;omega,by show c.2.1.length<=1000;omega,λf X=>aQn (aKB a f X) jI⟩,Y,VF d Y.1 fC EU⟩
theorem without_take(a b:List (Int×Unit)){n:Nat}(h:n<a.length):(a.take (n+1)).filter (λx=>!fF b x.1)=(a.take n).filter (λx=>!fF b x.1)++(bif !fF b (a.getD n (0,())).1 then[a.getD n (0,())]else[]):=JW (λx:Int×Unit=>!fF b x.1) (0,()) a h
theorem TA:OK Cb.e:=by
 refine eP [pK.e] ⟨zx,⟨⟩⟩ avF (λ⟨a,b,_⟩ _=>⟨((Sp.without b a,Sp.without a b,()),()),⟨rfl,rfl⟩⟩) λa b=>show Cb.goal (asq a b) (a,b,())fromλB J=>?_
 dsimp only[Cb]at J ⊢;have d:∀(p:Int×Unit->Bool)(l:List (Int×Unit)) n,((l.take n).filter p).length<=n:=λp l n=>by
  grind
 refine bQ (λi(x:List (Int×Unit))=>(((),i,()),x,())) (λy=>y.1.2.1) (λ_ _=>rfl) b.length fC (λn l=>l=(b.take n).filter λx=>!fF a x.1) rfl (λI P n l H E next=>?_) λI P l E=>?_
 .have step:=without_take b a H;dsimp only;refine dH fC ⟨⟨fC,fC⟩,trivial,af (λh=>⟨⟨fC,fC⟩,yJ,rfl,next _ ?_⟩) λh=>⟨rfl,next _ ?_⟩⟩
  · simp_all
  grind
 .subst E;rw[aQK];dsimp only;refine gU fC (bQ (λi(x:List (Int×Unit))=>(((),i,()),x,())) (λy=>y.1.2.1) (λ_ _=>rfl) a.length fC (λn l=>l=(a.take n).filter λx=>!fF b x.1) rfl (λI P n l H E next=>?_) λI P l E=>?_)
  .have step:=without_take a b H;dsimp only;refine dH fC ⟨⟨fC,fC⟩,trivial,af (λh=>⟨⟨fC,fC⟩,yJ,rfl,next _ ?_⟩) λh=>⟨rfl,next _ ?_⟩⟩
   · simp_all
   grind
  .subst E;rw[aQK];dsimp only;exact gU fC ⟨rfl,rfl⟩
theorem Us:OK Es.e:=by
 refine eP [Cb.e,qG.e] ⟨TA,Gg,⟨⟩⟩ ajS (λ⟨a,b,_⟩ _=>⟨((KP a b,()),()),rfl⟩) λa b=>show Es.goal (ahu a b) (a,b,())fromλB J=>?_
 obtain⟨r,U⟩:bW a/\bW b:=J;have j:=U.1;refine bQ (λi(x:List pz)=>(((),i,()),x,())) (λy=>y.1.2.1) (λ_ _=>rfl) b.length fC (λn l=>l=((b.take n).map (O8 a)).filter Wy) rfl (λI P n l H E next=>?_) λI P l E=>?_
 .subst E;have W:(((b.take n).map (O8 a)).filter Wy).length<=n:=by
   grind
  have step:=aEs a b H;have k:=ae2 r (b.getD n Wu).1;have m:(b.getD n Wu).2.1.length<=1000:=aa1 U H;dsimp only;refine dH fC ⟨⟨fC,fC⟩,r,⟨fC,fC⟩,⟨aQn k jI,aQn m jI⟩,?_⟩;rintro⟨⟨x,y,⟨⟩⟩,⟨⟩⟩ ⟨w,d⟩;have w:x=Sp.without (b.getD n Wu).2.1 (gY a (b.getD n Wu).1):=w;have d:y=Sp.without (gY a (b.getD n Wu).1) (b.getD n Wu).2.1:=d;have e:O8 a (b.getD n Wu)=((b.getD n Wu).1,x,y,()):=by rw[w,d];rfl
  have o:Wy (O8 a (b.getD n Wu))=decide (0<x.length+y.length):=by rw[e];rfl
  have g:(((b.take n).map (O8 a)).filter Wy).length+1<=big:=o6;refine af (λh=>⟨⟨fC,fC⟩,g,rfl,next _ ?_⟩) λh=>af (λO=>⟨⟨fC,fC⟩,g,rfl,next _ ?_⟩) λO=>⟨rfl,next _ ?_⟩
  · grind
  · grind
  grind
 .subst E;rw[aQK];dsimp only;exact gU fC rfl
variable {α:Type}
theorem aAy(p:α->Bool)(d:α)(l:List α){n:Nat}(h:n<l.length):(l.take (n+1)).any p=((l.take n).any p||p (l.getD n d)):=by
 grind [Sp.take_succ']
variable {q:List aO}
theorem aKC{a b:Sp.LS}{g:aG}(l:iE a (uy f g))(K:iE b (yu q)):(b.any λx=>iY a x.1)=(yu q).any λt=>(uy f g).contains t:=by
 rw[← aLK l K,aRJ,aRA,aRA]
 grind [mV]
theorem Zu:OK xJ.e:=by
 refine eP [Jp.e,FX.e,P8.e,Dz.e,zQ.e] ⟨Ve,ajI,amg,afl,Qw,⟨⟩⟩ aag (λ⟨d,f,g,_⟩ J=>by obtain⟨r,h⟩:=anq d f g;exact⟨((r,()),()),h⟩) λd w z A o a C D K u b=>show xJ.goal (Zv d w z A o a C D K u b) (d,(w,z,A,o,a,()),(C,D,K,u,b,()),())fromλB J=>?_
 dsimp only[xJ]at J ⊢;delta Zv Aw aj bJ fV;obtain⟨e,X,O,L⟩:aK d/\fZ (w,z,A,o,a,())/\fZ (C,D,K,u,b,())/\a.length+b.length<=1000:=J;have W:=e.1;refine af (λh=>⟨W,anp (aR5.1 h)⟩) λh=>⟨⟨X,O,L⟩,?_⟩;rintro⟨⟨r0,⟨⟩⟩,⟨⟩⟩ hr0;generalize R:((w,z,A,o,a,()):aG)=F at*;generalize S:((C,D,K,u,b,()):aG)=G at*;have N:(o !=u)=(F.2.2.2.1 !=G.2.2.2.1):=jv;refine bQ (λi(x:Sp.LS)=>(((),i,()),x,())) (λy=>y.1.2.1) (λ_ _=>rfl) d.length fC (λn l=>l=((d.take n).filter (ar7 F G)).map λx=>(x.1,())) rfl (λI P n l H E next=>?_) λI P l E=>?_
 .dsimp only;refine dH fC ⟨λy=>y.1.1=(Sp.linked (d.getD n DD0).2.1&&F.2.2.2.1 !=G.2.2.2.1),af (λh=>⟨⟨fC,fC⟩,trivial,rfl,?_⟩) λh=>⟨rfl,?_⟩,?_⟩
  · grind
  · grind
  rintro⟨⟨hit,⟨⟩⟩,⟨⟩⟩ hhit;refine⟨⟨fC,fC⟩,yC e H,?_⟩;rintro⟨⟨r6,⟨⟩⟩,⟨⟩⟩ m;have m:iE r6 (yu (d.getD n DD0).2.1):=m;have Q:=m.1;refine bQ (λi(x:Bool)=>((x,i,()),())) (λy=>y.1.2.1) (λ_ _=>rfl) r6.length fC (λk x=>x=(hit||(r6.take k).any λt=>iY r0 t.1)) ni (λI P k x j E M=>?_) λI P x E=>?_
  .have step:=aAy (λt:Sp.Bytes×Unit=>iY r0 t.1) ([],()) r6 j;dsimp only;refine dH fC (af (λh=>⟨rfl,M _ ?_⟩) λh=>⟨⟨fC,fC⟩,trivial,rfl,M _ ?_⟩)
   · grind
   .have h:x=false:=h;rw[h]at E;rw[step,← Bool.or_assoc,← E,Bool.false_or,aQs]
  .rw[aQK,aKC hr0 m]at E
   grind [ar7,bV,JW]
 grind [ajK]
def aAz(l:Sp.LS):Prop:=l.Pairwise λx y=>Op.bytesLess x.1 y.1=true
theorem aGD{x:Sp.Bytes×Unit}{r:Sp.LS}{s:Sp.Bytes}:Gs (x::r) s=if Op.bytesLess x.1 s=true then x::Gs r s else if x.1=s then x::r else(s,())::x::r:=by
 grind [Gs,List.takeWhile_cons_of_pos,List.takeWhile_cons_of_neg]
theorem apx{s:Sp.Bytes}:∀{l:Sp.LS},aAz l->aAz (Gs l s)
 |[],_=>aRg _ _
 |y::r,h=>by
  obtain⟨C,O⟩:=aQ5.1 h;have e:=apx (s:=s) O;rw[aGD];by_cases a:Op.bytesLess y.1 s=true
  .rw[if_pos a];refine aQ5.2 ⟨λz d=>?_,e⟩
   grind [AP]
  .rw[if_neg a];by_cases b:y.1=s
   · grind
   .rw[if_neg b];have g:Op.bytesLess s y.1=true:=Ya y.1 s adW b;refine aQ5.2 ⟨λz d=>?_,h⟩
    grind [BI]
theorem aC3{l b:Sp.LS}(h:aAz l)(Y:∀x∈l,x∈b):l.length<=b.length:=by
 have H:l.Nodup:=by exact List.Pairwise.imp (λ{a b} d e=>JX d (congrArg Prod.fst e)) h
 simp_all [ajL]
structure Rd(d:List aH)(names out:Sp.LS):Prop where
 asc:aAz out
 base:∀x∈names,x∈out
 reach:∀x∈out,Sp.Reach d (λs=>iY names s=true) x.1
 sub:∀x∈out,x∈names++jM d
variable {d:List aH}
theorem Rd.len{names out:Sp.LS}(h:Rd d names out):out.length<=names.length+d.length:=by
 have:=aC3 h.asc h.sub
 grind [jM]
theorem Rd.put{names out:Sp.LS}(h:Rd d names out){i:Nat}(D:i<d.length){s:Sp.Bytes}(Y:(s,())∈out)(r:s∈AX (fQ d i)):Rd d names (Gs out (Sp.nameOf d i)) where
 asc:=apx h.asc
 base:=λx Z=>(AP x).2 (.inr (h.base x Z))
 reach:=λx Z=>by
  rcases(AP x).1 Z with rfl|Z
  .exact .step (h.reach _ Y) D r
  .exact h.reach x Z
 sub:=λx Z=>by
  rcases(AP x).1 Z with rfl|Z
  · grind [ajM]
  .exact h.sub x Z
def shut(d:List aH)(out:Sp.LS):Prop:=∀i,i<d.length->∀s∈AX (fQ d i),(s,())∈out->(Sp.nameOf d i,())∈out
def aEu(d:List aH)(out:Sp.LS):Nat:=((List.range d.length).filter λi=>iY out (Sp.nameOf d i)).length
theorem aKD(d:List aH)(out:Sp.LS):aEu d out<=d.length:=by have:=aQ2 (λi=>iY out (Sp.nameOf d i)) (List.range d.length);rw[aSE]at this;exact this
theorem aKE{a b:Sp.LS}(h:∀x∈a,x∈b){i:Nat}(D:i<d.length)(C:(Sp.nameOf d i,()) ∉ a)(O:(Sp.nameOf d i,())∈b):aEu d a<aEu d b:=
 Sp.filter_lt (λj e=>mV.2 (h _ (mV.1 e))) ⟨i,aQ8.2 D,mV.2 O,by grind [mV]⟩
theorem yF:OK lZ.e:=by
 refine eP [Jp.e,Io.e,xg.e] ⟨Ve,ame,Hu,⟨⟩⟩ WA (λ⟨d,names,_⟩ J=>by obtain⟨r,h⟩:=anr d J.2.1 names J.2.2;exact⟨((r,()),()),h⟩) λd names=>show lZ.goal (Vh d names) (d,names,())fromλB J=>?_
 dsimp only[lZ]at J ⊢;delta Vh Aw aj bJ fV;obtain⟨hd,hd5,hnl⟩:aK d/\d.length<=5/\names.length<=900:=J;refine bQ (λi(x:Sp.LS)=>((x,i,()),())) (λy=>y.1.2.1) (λ_ _=>rfl) names.length fC (λn l=>aAz l/\∀x,x∈l↔x∈names.take n) ⟨List.Pairwise.nil,λx=>ni⟩ (λI P n l H E next=>?_) λI P l E=>?_
 .obtain⟨C,O⟩:=E;have W:=aC3 C λx Z=>(O x).1 Z;rw[aRe]at W
  grind [apx,AP,Sp.take_succ',Int.toNat_natCast]
 obtain⟨C,O⟩:=E;rw[aQK]at O;dsimp only;refine gU fC ⟨λy=>∃r:Nat,y.1.2.1=r/\r<=d.length+1/\Rd d names y.1.1/\(shut d y.1.1\/r<=aEu d y.1.1),λy=>((d.length:Int)+1-y.1.2.1).toNat,⟨0,rfl,fC,⟨C,λx Z=>(O x).2 Z,λx Z=>.base (mV.2 ((O x).1 Z)),λx Z=>aQM.2 (.inl ((O x).1 Z))⟩,.inr (aQx _)⟩,?_⟩;rintro⟨⟨out,_,⟨⟩⟩,⟨⟩⟩ ⟨rd,rfl,hrd,R,g⟩;dsimp only at R g ⊢;refine af (λN=>?_) λN=>?_
 .have N:(rd:Int)<=d.length:=rU N;have w:IntKind.i64.wrap ((rd:Int)+1)=((rd+1:Nat):Int):=eH _ fC;rw[w];refine bQ (λi(x:Sp.LS)=>((x,i,()),())) (λy=>y.1.2.1) (λ_ _=>rfl) d.length fC (λi o=>Rd d names o/\(∀x∈out,x∈o)/\(∀j,j<i->∀s∈AX (fQ d j),(s,())∈out->(Sp.nameOf d j,())∈o)/\(shut d out->∀x∈o,x∈out)) ⟨R,λx Z=>Z,λj M=>fC,λ_ x Z=>Z⟩ (λI P i o D E next=>?_) λI P o E=>?_
  .obtain⟨R2,g1,g2,g3⟩:=E;dsimp only;rw[aQs];refine dH fC ⟨⟨fC,fC⟩,yC hd D,?_⟩;rintro⟨⟨r7,⟨⟩⟩,⟨⟩⟩ b;have b:iE r7 (AX (fQ d i)):=b;have h7:=b.1;dsimp only;refine bQ (λk(x:Sp.LS)=>((x,k,()),())) (λy=>y.1.2.1) (λ_ _=>rfl) r7.length fC (λk A=>Rd d names A/\(∀x∈o,x∈A)/\(∀t,t<k->r7.getD t ([],())∈out->(Sp.nameOf d i,())∈A)/\(shut d out->∀x∈A,x∈out)) ⟨R2,λx Z=>Z,λt a=>fC,g3⟩ (λI P k A hk E X=>?_) λI P A E=>?_
   .obtain⟨F,k1,k2,k3⟩:=E;have hl3:=F.len;have L:r7.getD k ([],())∈r7:=getD_mem (d:=(([]:Sp.Bytes),())) hk;have m:(r7.getD k ([],())).1∈AX (fQ d i):=(b.2 _).1 L;dsimp only;rw[aQs];refine dH fC ⟨⟨fC,fC⟩,trivial,af (λh=>⟨⟨fC,fC⟩,fC,rfl,X _ ⟨F.put D (mV.1 h) m,λx Z=>(AP x).2 (.inr (k1 x Z)),λt _ _=>(AP _).2 (.inl rfl),λY x Z=>?_⟩⟩) λh=>⟨rfl,X _ ⟨F,k1,λt a hto=>?_,k3⟩⟩⟩
    .rcases(AP x).1 Z with rfl|Z
     .exact Y i D _ m (k3 Y _ (mV.1 h))
     grind
    grind [mV]
   .obtain⟨F,k1,k2,k3⟩:=E;dsimp only;refine gU fC ⟨rfl,next _ ⟨F,λx Z=>k1 x (g1 x Z),λj M s Y U=>?_,k3⟩⟩;rcases aQE j i with u|u
    · grind
    .have:j=i:=fC;subst this;obtain⟨t,a,e⟩:=aQQ ((b.2 s).2 Y)
     grind
  .obtain⟨R2,g1,g2,g3⟩:=E;dsimp only;refine gU fC ⟨rfl,⟨rd+1,rfl,fC,R2,?_⟩,jv⟩;by_cases Y:shut d out
   .left;intro i D s hs' U
    grind
   .right;rcases g with g|g
    · grind
    .obtain⟨i,D⟩:=aSf.1 Y;have K:i<d.length:=aQX λh=>D λu=>(h u).elim;obtain⟨s,z⟩:=aSf.1 λh=>D λ_=>h;have Q:s∈AX (fQ d i):=aQX λh=>z λu=>(h u).elim;have S:(s,())∈out:=aQX λh=>z λ_ u=>(h u).elim;have T:(Sp.nameOf d i,()) ∉ out:=λh=>z λ_ _=>h;have:=aKE g1 K T (g2 i K s Q S)
     grind
 .have N:¬(rd:Int)<=d.length:=Tf N;have W:=R.len;have Y:shut d out:=by
   grind [aKD]
  refine⟨o6,fC,λs=>?_⟩;rw[mV];refine⟨λh=>R.reach _ h,λh=>?_⟩;show(s,())∈out
  induction h with
  |base hb=>exact R.base _ (mV.1 hb)
  |step _ M ha ih=>exact Y _ M _ ha ih
theorem afo:OK Ku.e:=by
 refine eP [lZ.e,xJ.e] ⟨yF,Zu,⟨⟩⟩ H0 (λ⟨d,f,g,_⟩ J=>by obtain⟨r,h⟩:=aKy d J.2.1 f g;exact⟨((r,()),()),h⟩) λd j k l m a n o t u b=>show Ku.goal (afp d j k l m a n o t u b) (d,(j,k,l,m,a,()),(n,o,t,u,b,()),())fromλB J=>?_
 obtain⟨C,O,K,x,w⟩:=J;exact⟨⟨C,K,x,w⟩,λy e=>⟨⟨C,O,by have:=e.1;omega⟩,λz i=>aLL e i⟩⟩
theorem aB5(b:Sp.Bytes->Bool)(h:(aA d&&aJ s)=true):∃a df,Sp.turned c s d b a df true:=by
 obtain⟨a,df,g⟩:=aEt c s d b
 grind
theorem EW:OK yw.e:=by
 refine eP [Es.e,FV.e] ⟨Us,ajD,⟨⟩⟩ H0 (λ⟨c,s,d,names,_⟩ J=>by obtain⟨b,df,h⟩:=aB5 (c:=c) (iY names) J.2.2.2;exact⟨((((b.1,b.2.1,b.2.2.1,b.2.2.2.1,b.2.2.2.2.1,()),df,()),())),h⟩) λa l n k j o sl r d names=>show yw.goal (asr a l n k j o sl r d names) ((a,l,n,k,j,()),(o,sl,r,()),d,names,())fromλB J=>?_
 obtain⟨N,Y,e,m⟩:=J;have hr:bW j:=N.2.2;refine⟨⟨Y,e,hr⟩,?_⟩;rintro⟨⟨out,ok,⟨⟩⟩,⟨⟩⟩ ⟨e1,e2⟩;have g:=e2 (e1.trans m);exact⟨⟨hr,VF g e.1 Y.2.1 hr⟩,λt i=>⟨m.symm,λ_=>⟨rfl,rfl,g,i⟩,λh=>o5⟩⟩
theorem WB:OK AY.e:=by
 refine eP [yw.e,Ku.e,kR.e,zh.e,wB.e,mW.e] ⟨EW,afo,nN,Uo,Jg,qx,⟨⟩⟩ amk (λ⟨c,f,_⟩ _=>by obtain⟨w,df,h⟩:=ant c f;exact⟨((((w.1,w.2.1,w.2.2.1,w.2.2.2.1,w.2.2.2.2.1,()),df,(dn c&&(bU (aQ c) f).2),()),())),h⟩) λa l g d r b o t u m=>show AY.goal (ajT a l g d r b o t u m) ((a,l,g,d,r,()),(b,o,t,u,m,()),())fromλB J=>?_
 dsimp only[AY]at J ⊢;obtain⟨N,X,F,I⟩:=J;refine⟨N,?_⟩;rintro⟨⟨w,⟨⟩⟩,⟨⟩⟩ E;have E:w=(a,l,g,d,r,()):=E;subst E;refine⟨N.1,⟨N.1,X⟩,?_⟩;rintro⟨⟨⟨sa,sl,sn,⟨⟩⟩,ok,⟨⟩⟩,⟨⟩⟩ ⟨e1,e2,e3,C⟩;have P:((sa,sl,sn,()):bT)=(bU (a,l,g,()) (b,o,t,u,m,())).1:=Mc e1 e2 e3;have C:ok=(bU (a,l,g,()) (b,o,t,u,m,())).2:=C;have z:(dn (a,l,g,d,r,())&&(bU (a,l,g,()) (b,o,t,u,m,())).2)=false->Sp.updated (a,l,g,d,r,()) (b,o,t,u,m,()) (a,l,g,d,r,()) [] false:=λR=>⟨R.symm,λh=>o5,λ_=>⟨rfl,rfl⟩⟩;dsimp only;refine⟨N,af (λO=>z ?_) λO=>af (λh=>z ?_) λh=>?_⟩
 · grind
 · grind
 have h:ok=true:=dN h;have O:=dN O;obtain⟨x,W,T⟩:=vJ O;have x:aA d=true:=x;have L:=(oq x).2;have j:fZ (bI (a,l,g,()) b).1/\akH (bI (a,l,g,()) b).1:=by
  rcases vT l b with⟨h,_⟩|⟨n,H,h,_,_⟩
  .have e:bI (a,l,g,()) b=(aAw,false):=by show(bif decide (Sp.place l b<0)then _ else _)=_;rw[h];rfl
   rw[e];exact⟨aQx _,aQx _⟩
  .have e:bI (a,l,g,()) b=(Sp.fileAt l n,true):=by
    show(bif decide (Sp.place l b<0)then _ else(Sp.fileAt l (Sp.place l b).toNat,true))=_
    grind
   rw[e];have k:Sp.fileAt l n∈l:=getD_mem H;exact⟨N.1.2.2 _ k,F _ k⟩
 have hh:(bI (a,l,g,()) b).1.2.2.2.2.1.length<=500:=j.2;have U:m.length<=500:=I;have Q:(bU (a,l,g,()) (b,o,t,u,m,())).2=true:=C▸h;have R:(aA d&&aJ (bU (a,l,g,()) (b,o,t,u,m,())).1)=true:=by grind [asa]
 have M:(dn (a,l,g,d,r,())&&(bU (a,l,g,()) (b,o,t,u,m,())).2)=true:=jv;refine⟨⟨N.2.1,L,j.1,X,fC⟩,λr10 A=>⟨⟨N,?_,N.2.1,?_⟩,λr11 y=>?_⟩⟩
 .rw[P];exact adx N.1 X
 · grind
 .rw[P]at y;obtain⟨g1,S,g3⟩:=y;obtain⟨Y,Z,k3,k4⟩:=S rfl;exact⟨M.symm,λ_=>⟨Y,Z,abU k3 (λi D=>aKA A _) λ_ _ _=>rfl,k4⟩,λK=>by cases K⟩
theorem aKF{a b:dF}(C:aQ a=aQ b)(O:bF a=bF b)(K:uK a=uK b):a=b:=by
 obtain⟨T,e,g,h,i,_⟩:=a;obtain⟨j,k,l,m,n,_⟩:=b;have o:T=j:=congrArg (λs:bT=>s.1) C;have r:e=k:=congrArg (λs:bT=>s.2.1) C;have t:g=l:=congrArg (λs:bT=>s.2.2.1) C;have u:h=m:=O;have w:i=n:=K
 grind
theorem aIr{a b:dF}(r:dn a=true)(U:dn b=true)(C:aQ a=aQ b)(O:bF a=bF b):a=b:=by obtain⟨e,_,w⟩:=vJ r;obtain⟨_,_,g⟩:=vJ U;have X:a.2.1=b.2.1:=congrArg (λs:bT=>s.2.1) C;rw[← X,← O]at g;exact aKF C O (TM (oq e).1 w g)
theorem aGE(a:aJ (aQ c)=true):aIs c:=λf X=>by
 obtain⟨i,D,rfl⟩:=aQQ X;have b:Sp.fileAt c.2.1 i=c.2.1[i]:=y8;have:=(aso (aC2 a D)).2
 grind
variable {c':dF}
theorem afq{m:Sp.Bytes->Bool}(h:Sp.turned c s d m c' df ok)(i:(aA d&&aJ s)=true)
 (g:∀R E,gX s.2.1 d (uK c) m R->gX s.2.1 d [] (λ_=>true) E->R=E):Sp.became c s d true c' df ok:=by
 obtain⟨z,A,_⟩:=h;have b:=z.trans i;obtain⟨k,j,w,x⟩:=A b;rw[aQm]at i;obtain⟨B,W⟩:=Y7 i.1;obtain⟨E,o⟩:=TL [] (λ_=>true) (oq i.1).1 W (vI i.2);have e:=g _ _ w o;refine⟨b,λ_=>⟨k,j,?_,x⟩,λt=>jv⟩;obtain⟨a,l,y,n,r,_⟩:=c';have u:((a,l,y,()):bT)=s:=k;have j:n=d:=j;have e:r=E:=e
 grind [ajH]
theorem afr{i j:dF}{b g h:Bool}{a e:List pz}(C:Sp.became c s d b i a g)(O:Sp.became c s d b j e h):i=j/\a=e/\g=h:=by
 obtain⟨k,l,m⟩:=C;obtain⟨n,o,r⟩:=O;cases U:b with
 |true=>
  grind [aIr]
 |false=>
  grind
theorem TP(c:dF)(s:bT)(d:List aH)(b:Bool)(U:b=true->(aA d&&aJ s)=true):∃c' df,Sp.became c s d b c' df b:=by
 cases h:b with
 |false=>exact⟨c,[],rfl,λh=>o5,λ_=>⟨rfl,rfl⟩⟩
 |true=>have g:=U h;have e:=g;rw[aQm]at e;obtain⟨j,W⟩:=Y7 e.1;obtain⟨E,k⟩:=TL [] (λ_=>true) (oq e.1).1 W (vI e.2);obtain⟨a,l,i,_⟩:=s;exact⟨(a,l,i,d,E,()),KP (uK c) E,rfl,λ_=>⟨rfl,rfl,by grind [ajH],rfl⟩,λh=>o5⟩
theorem ast(h:Sp.updated c f c' df ok):Sp.became c (bU (aQ c) f).1 (bF c) (dn c&&(bU (aQ c) f).2) c' df ok:=by
 have u:=h;obtain⟨i,r,t⟩:=h;refine⟨i,λa=>?_,t⟩;have b:=i.symm.trans a;rw[aQm]at b;obtain⟨l,m,_,o⟩:=r a;rcases mG (aQ c) f with⟨e,_⟩|⟨n,H,C,O,K,e⟩
 · grind
 .have hid:(Sp.fileAt c.2.1 n).1=f.1:=by
   rcases vT c.2.1 f.1 with⟨g,_⟩|⟨k,j,w,x,_⟩
   .have C:Sp.place c.2.1 f.1=n:=C;omega
   .have C:Sp.place c.2.1 f.1=n:=C
    grind
  exact⟨l,m,(aIp b.1 H hid K u).2.2.2.2,o⟩
theorem arT:OK UE.e:=by
 refine eP [jo.e] ⟨jR,⟨⟩⟩ H0 (λ_ _=>⟨(([],()),(([],0,0,()),())),⟨jI,jI⟩⟩) λb i h=>show UE.goal (asu b i h) ((b,i,h,()),())fromλB J=>?_
 exact⟨⟨J,ni⟩,λe a=>⟨a.1,(show∀y∈_,List.length y.1<=10 from jI) _ a.2⟩⟩
theorem adl:OK Jq.e:=by
 refine eP [lC.e] ⟨qm,⟨⟩⟩ ayc (λ_ _=>⟨(([],()),(([],0,0,()),())),⟨jI,jI⟩⟩) λb i h=>show Jq.goal (avG b i h) ((b,i,h,()),())fromλB J=>?_
 dsimp only[Jq]at J ⊢;refine⟨λy=>∃n:Nat,y.1.2.1=n/\1<=n/\n<=8/\0<=y.2.1.2.1/\y.2.2.1.length+1<=n,λy=>(8-y.1.2.1).toNat,⟨1,rfl,aQp 1,jI,J,aQp 1⟩,?_⟩;rintro⟨⟨_,_,⟨⟩⟩,⟨b,i,h,⟨⟩⟩,l,⟨⟩⟩ ⟨n,rfl,h1,h8,hi,hl⟩;dsimp only at hi hl ⊢;have w:IntKind.i64.wrap ((n:Int)+1)=((n+1:Nat):Int):=eH _ fC;rw[w];refine af (λN=>⟨hi,?_⟩) λN=>⟨hi,fC⟩;have N:=rU N;rintro⟨⟨x,⟨⟩⟩,⟨b1,i1,g1,⟨⟩⟩,⟨⟩⟩ q1;refine af (λ_=>⟨yJ,rfl,⟨n+1,rfl,fC,fC,q1,ql⟩,jv⟩) λ_=>⟨rfl,⟨n+1,rfl,fC,fC,q1,jv⟩,jv⟩
theorem any_some:∃c,kC c:=⟨([],[],0,[],[],()),⟨⟨jI,jI,λf X=>ahT⟩,ES,EU⟩,λf X=>ahT,jI⟩
theorem aIt(h:aqb c):kC c/\(uK c).length=(bF c).length:=by obtain⟨C,O,K,x⟩:=h;obtain⟨a,b,e⟩:=vJ x;exact⟨⟨C,aGE b,aQn (oq a).2 jI⟩,e.order.1⟩
theorem avk:OK WZ.e:=by
 refine eP [Pv.e,Py.e,Jq.e,dO.e,Nc.e] ⟨au0,avC,adl,dX,ase,⟨⟩⟩ ayd (λ_ _=>by obtain⟨c,h⟩:=any_some;exact⟨(((c.1,c.2.1,c.2.2.1,c.2.2.2.1,c.2.2.2.2.1,()),()),(([],0,0,()),())),⟨aQN 0,h⟩⟩) λb i h=>show WZ.goal (avH b i h) ((b,i,h,()),())fromλB J=>?_
 refine⟨J,?_⟩;rintro⟨⟨⟨a,l,nx,d,r,⟨⟩⟩,⟨⟩⟩,⟨b0,i0,g0,⟨⟩⟩,⟨⟩⟩ ⟨p0,hl,e⟩;have e:0<d.length:=e;obtain⟨⟨⟨o,t,m⟩,u,w⟩,y⟩:=aIt hl;have y:r.length=d.length:=y;refine⟨p0,λz g=>af (λ_=>⟨g.1,λA n=>⟨⟨aQN _,jv⟩,(show 0<r.length from fC),n.1,?_⟩⟩) λ_=>af (λ_=>⟨g.1,λC j=>?_⟩) λ_=>af (λ_=>⟨g.1,λD k=>?_⟩) λ_=>⟨g.1,⟨o,t,m⟩,u,w⟩⟩
 .refine⟨⟨o,t,by show(r.set 0 _).length<=1000;rw[aRp];exact m.1,λx Z=>?_⟩,u,w⟩;rcases aRD Z with Z|rfl
  .exact m.2 x Z
  grind
 .exact⟨j.1,⟨o,j.2.2,m⟩,u,j.2.1⟩
 .exact⟨k.1,⟨k.2.1,t,m⟩,k.2.2,w⟩
theorem ajU{x:aH}(h:(dK d&&dK (oZ d x))=false):iF d x=(d,false):=by
 grind [iF]
theorem avI{x:aH}(h:(dK d&&dK (oZ d x))=true):iF d x=(oZ d x,true):=by
 grind [iF]
theorem aKG{x:aH}(h:(iF d x).2=true):dK d=true/\dK (oZ d x)=true/\iF d x=(oZ d x,true):=by
 grind [ajU,avI]
theorem aKH{r:List aH}{x:aH}(e:dK d=true->r=oZ d x):(dK d=false->(d,false)=iF d x)/\(dK d=true->dK r=false->(d,false)=iF d x)/\(dK d=true->dK r=true->(r,true)=iF d x):=
 ⟨λh=>(ajU afy).symm,λh a=>(ajU jv).symm,λh a=>by grind [avI]⟩
theorem axf{x:aH}(C:aK d)(O:d.length<=900)(K:x.2.1.length<=1000):aK (iF d x).1:=by
 grind [dK,ajU,avI,asv]
theorem avJ{e:Type}{a:α}{b:e}{p:α×e}(h:(a,b)=p):a=p.1/\b=p.2:=jv
theorem avK:OK PD.e:=by
 refine eP [uQ.e,uO.e] ⟨EN,Kz,⟨⟩⟩ aye (λ⟨d,x,_⟩ _=>⟨(((iF d x).1,(iF d x).2,()),()),⟨rfl,rfl⟩⟩) λd S T=>show PD.goal (avL d S T) (d,(S,T,()),())fromλB J=>?_
 dsimp only[PD]at J ⊢;delta avL aj bJ fV;obtain⟨C,O,K⟩:aK d/\d.length<=900/\T.length<=1000:=J;refine⟨C,af (λh=>⟨C,by grind [ajU]⟩) λj=>?_⟩;have j:=dN j;have fin:∀r:List aH,r=oZ d (S,T,())->aK r/\(bif !dK r then aK d/\(d=(iF d (S,T,())).1/\false=(iF d (S,T,())).2)else aK r/\(r=(iF d (S,T,())).1/\true=(iF d (S,T,())).2)):=λr hr=>by
  grind [asv,aKH]
 refine⟨λy=>∃n:Nat,y.1.2.2.1=n/\n<=d.length/\y.1.2.1=decide (AQ d S<n)/\y.2.1=zA d (S,T,()) n,λy=>(d.length-y.1.2.2.1).toNat,⟨0,rfl,aQx _,(aQH (aRd _)).symm,(if_pos (aQx _)).symm⟩,?_⟩;rintro⟨⟨_,put,_,⟨⟩⟩,out,⟨⟩⟩ ⟨n,rfl,hn,b,a⟩;have b:put=decide (AQ d S<n):=b;have a:out=zA d (S,T,()) n:=a;have L:=aEv d (S,T,()) n;rw[← a]at L;have w:IntKind.i64.wrap ((n:Int)+1)=((n+1:Nat):Int):=eH _ fC;dsimp only;rw[w,aQs];refine af (λN=>?_) λN=>?_
 .have N:n<d.length:=jv;refine⟨λz=>z.1.1=decide (AQ d S<n+1)/\z.2.1=(if n=AQ d S then out++[(S,T,())]else out),?_,?_⟩
  .refine af (λh=>⟨⟨fC,fC⟩,?_⟩) λh=>⟨rfl,?_,?_⟩
   .have h:=kJ h;rw[b,aQP]at h;refine af (λU=>⟨yJ,rfl,?_⟩) λU=>⟨rfl,?_⟩
    .have U:Sp.belowD S (dh d n)=false:=kJ U;have e:n=AQ d S:=by
      rcases aQE n (AQ d S)with h'|h'
      .have:=(asw (x:=(S,T,())) N h').2
       grind
      .omega
     grind
    .have U:Sp.belowD S (dh d n)=true:=dN U;have e:n<AQ d S:=by
      rcases aQE n (AQ d S)with h'|h'
      .exact h'
      .have:=(axg (x:=(S,T,())) N (show n=AQ d S from fC)).2
       grind
     grind
   · grind
   grind
  .rintro⟨⟨p3,⟨⟩⟩,o3,⟨⟩⟩ ⟨i,g⟩;have i:p3=decide (AQ d S<n+1):=i;have g:o3=(if n=AQ d S then out++[(S,T,())]else out):=g;have k:o3.length<=n+2:=by
    grind
   have step:zA d (S,T,()) (n+1)=o3++(bif yc S (dh d n)then[dh d n]else[]):=by
    rw[g];rcases aR6 n (AQ d S)with h'|h'|h'
    .obtain⟨e1,e2⟩:=asw (x:=(S,T,())) N h';have:yc S (dh d n)=true:=by unfold yc;rw[aQl.2 (JX e2)];rfl
     grind
    · grind [axg]
    grind [aB6]
   grind [bV,yc,dh]
 grind [aEw,bV]
theorem aEx{x:aH}{r:Sp.LS}(a:dn c=true)(b:(iF (bF c) x).2=true)(e:aA (iF (bF c) x).1=true)
 (hr:Sp.reached (iF (bF c) x).1 [(x.1,())] r) (h:Sp.turned c (aQ c) (iF (bF c) x).1 (iY r) c' df ok):
 Sp.became c (aQ c) (iF (bF c) x).1 (dn c&&((iF (bF c) x).2&&aA (iF (bF c) x).1)) c' df ok:=by
 obtain⟨n,o,m⟩:=vJ a;obtain⟨j,k,l⟩:=aKG b;rw[a,b,e];refine afq h jv λR E i g=>?_;have H:=hr.2;rw[show(λs=>iY [(x.1,())] s=true)=λt=>t=x.1 from funext λs=>propext (by rw[mV];simp)]at H;rw[l]at i g H;exact aIu j k H m i g
theorem asx(a:dn c=true)(Y:aJ s=true)(h:Sp.turned c s (bF c) (iY (jM (bF c))) c' df ok):Sp.became c s (bF c) true c' df ok:=by obtain⟨g,i,j⟩:=vJ a;exact afq h jv λR E e b=>TM (oq g).1 (aIv e) b
variable {z:dF}
theorem stays{b:Bool}(U:b=false)(e:z=c):Sp.became c s d b z [] false:=⟨U.symm,λh=>o5,λ_=>⟨e,rfl⟩⟩
theorem aLP{x:aH}(h:(dn c&&((iF (bF c) x).2&&aA (iF (bF c) x).1))=true):(aA (iF (bF c) x).1&&aJ (aQ c))=true:=by
 grind [vJ]
theorem aml:OK Ip.e:=by
 refine eP [yw.e,lZ.e,sG.e,kR.e,PD.e,mW.e] ⟨EW,yF,Jb,nN,avK,qx,⟨⟩⟩ apy (λ⟨c,x,_⟩ _=>by obtain⟨c',df,h⟩:=TP c (aQ c) (iF (bF c) x).1 _ (aLP (c:=c) (x:=x));exact⟨((((c'.1,c'.2.1,c'.2.2.1,c'.2.2.2.1,c'.2.2.2.2.1,()),df,_,()),())),h⟩) λa l b d r S T=>show Ip.goal (amm a l b d r S T) ((a,l,b,d,r,()),(S,T,()),())fromλB J=>?_
 dsimp only[Ip]at J ⊢;obtain⟨⟨N,n,e⟩,Z⟩:kC (a,l,b,d,r,())/\T.length<=1000:=J;have e:d.length<=10:=e;have g:aK d:=N.2.1;have k:=axf (x:=(S,T,())) g fC Z;refine⟨N,?_⟩;rintro⟨⟨c0,⟨⟩⟩,⟨⟩⟩ ec;obtain rfl:c0=(a,l,b,d,r,()):=ec;refine⟨⟨g,jv,Z⟩,?_⟩;rintro⟨⟨o,ok,⟨⟩⟩,⟨⟩⟩ ⟨e1,e2⟩;obtain rfl:o=(iF d (S,T,())).1:=e1;obtain rfl:ok=(iF d (S,T,())).2:=e2;refine⟨λ_=>dn (a,l,b,d,r,())=true/\(iF d (S,T,())).2=true/\aA (iF d (S,T,())).1=true,⟨N,af (λO=>stays ?_ rfl) λO=>af (λh=>stays ?_ rfl) λh=>⟨k,af (λm=>stays ?_ rfl) λm=>⟨rfl,dN O,dN h,dN m⟩⟩⟩,λ_ E=>?_⟩
 · grind
 .have h:(iF d (S,T,())).2=false:=kJ h;show(_&&((iF d (S,T,())).2&&_))=false
  grind
 .show(_&&(_&&aA (iF d (S,T,())).1))=false
  grind
 .obtain⟨j1,j2,j3⟩:=E;refine⟨⟨k,(oq j3).2,ni⟩,λt i=>⟨⟨N,N.1,k,?_⟩,λu j=>aEx (c:=(a,l,b,d,r,())) (x:=(S,T,())) j1 j2 j3 i j⟩⟩;have:=(vJ j1).2.1;have this:aJ (a,l,b,())=true:=this
  grind
theorem aGF(h:(dn c&&(bH (aQ c) f).2.2)=true):(aA (bF c)&&aJ (bH (aQ c) f).1)=true:=by
 grind [vJ,NC]
theorem aGG{id:Int}(h:(dn c&&(dM (aQ c) id).2)=true):(aA (bF c)&&aJ (dM (aQ c) id).1)=true:=by
 grind [vJ,ND]
theorem aEy{id:Int}(a:dn c=true)(j:(bH (aQ c) f).2.2=true)(b:id=(bH (aQ c) f).2.1)(h:Sp.turned c (bH (aQ c) f).1 (bF c) (iY (jM (bF c))) c' df ok):
 Sp.became c (bH (aQ c) f).1 (bF c) (dn c&&(bH (aQ c) f).2.2) c' df ok/\id=(bif ok then(bH (aQ c) f).2.1 else 0):=by
 have U:=asx a (NC f (vJ a).2.1) h;rw[a,j];refine⟨U,?_⟩;rw[U.1];exact b
theorem aEz{n:Int}(a:dn c=true)(j:(dM (aQ c) n).2=true)(h:Sp.turned c (dM (aQ c) n).1 (bF c) (iY (jM (bF c))) c' df ok):
 Sp.became c (dM (aQ c) n).1 (bF c) (dn c&&(dM (aQ c) n).2) c' df ok:=by
 grind [asx,ND,vJ]
theorem asy:OK UF.e:=by
 refine eP [yw.e,zQ.e,kR.e,rO.e,mW.e] ⟨EW,Qw,nN,EM,qx,⟨⟩⟩ avM (λ⟨c,f,_⟩ _=>by obtain⟨c',df,h⟩:=TP c (bH (aQ c) f).1 (bF c) _ (aGF (c:=c) (f:=f));exact⟨((((c'.1,c'.2.1,c'.2.2.1,c'.2.2.2.1,c'.2.2.2.2.1,()),(bif (dn c&&(bH (aQ c) f).2.2)then(bH (aQ c) f).2.1 else 0),df,(dn c&&(bH (aQ c) f).2.2),()),())),⟨h,rfl⟩⟩) λa l b d r e g i j k=>show UF.goal (asz a l b d r e g i j k) ((a,l,b,d,r,()),(e,g,i,j,k,()),())fromλB J=>?_
 obtain⟨⟨N,t,o⟩,X⟩:=J;have W:d.length<=1000:=N.2.1.1;refine⟨N,?_⟩;rintro⟨⟨c0,⟨⟩⟩,⟨⟩⟩ ec;obtain rfl:c0=(a,l,b,d,r,()):=ec;refine⟨⟨N.1,X⟩,?_⟩;rintro⟨⟨⟨sa,sl,sn,⟨⟩⟩,id,ok,⟨⟩⟩,⟨⟩⟩ ⟨e1,e2,e3,e4,e5⟩;have n:((sa,sl,sn,()):bT)=(bH (a,l,b,()) (e,g,i,j,k,())).1:=Mc e1 e2 e3;refine⟨N,af (λO=>⟨stays ?_ rfl,rfl⟩) λO=>af (λh=>⟨stays ?_ rfl,rfl⟩) λh=>⟨W,⟨N,?_,N.2.1,?_⟩,λu m=>?_⟩⟩
 · grind
 .show(_&&(bH (a,l,b,()) (e,g,i,j,k,())).2.2)=false
  grind
 .rw[n];exact agx N.1 X
 .rw[n];exact aGF (c:=(a,l,b,d,r,())) (f:=(e,g,i,j,k,())) (by rw[dN O,aRz];exact e5.symm.trans (dN h))
 .rw[n]at m;exact aEy (c:=(a,l,b,d,r,())) (dN O) (e5.symm.trans (dN h)) e4 m
theorem ajV:OK Og.e:=by
 refine eP [yw.e,zQ.e,kR.e,wS.e,mW.e] ⟨EW,Qw,nN,L9,qx,⟨⟩⟩ amn (λ⟨c,n,_⟩ _=>by obtain⟨c',df,h⟩:=TP c (dM (aQ c) n).1 (bF c) _ (aGG (c:=c) (id:=n));exact⟨((((c'.1,c'.2.1,c'.2.2.1,c'.2.2.2.1,c'.2.2.2.2.1,()),df,_,()),())),h⟩) λa l b d r n=>show Og.goal (ajW a l b d r n) ((a,l,b,d,r,()),n,())fromλB J=>?_
 obtain⟨N,j,i⟩:=J;have W:d.length<=1000:=N.2.1.1;refine⟨N,?_⟩;rintro⟨⟨c0,⟨⟩⟩,⟨⟩⟩ ec;obtain rfl:c0=(a,l,b,d,r,()):=ec;refine⟨N.1,?_⟩;rintro⟨⟨⟨sa,sl,sn,⟨⟩⟩,ok,⟨⟩⟩,⟨⟩⟩ ⟨e1,e2,e3,e5⟩;have g:((sa,sl,sn,()):bT)=(dM (a,l,b,()) n).1:=Mc e1 e2 e3;refine⟨N,af (λO=>stays ?_ rfl) λO=>af (λh=>stays ?_ rfl) λh=>⟨W,⟨N,?_,N.2.1,?_⟩,λk e=>?_⟩⟩
 · grind
 .show(_&&(dM (a,l,b,()) n).2)=false
  grind
 .rw[g];exact agy n N.1
 .rw[g];exact aGG (c:=(a,l,b,d,r,())) (id:=n) (by rw[dN O,aRz];exact e5.symm.trans (dN h))
 .rw[g]at e;exact aEz (c:=(a,l,b,d,r,())) (dN O) (e5.symm.trans (dN h)) e
theorem asA:OK UG.e:=by
 refine dW [gI.e] ⟨gW,⟨⟩⟩ H0 λe a b g i u=>show UG.goal (asB e a b g i u) ((e,a,b,g,i,()),u,())fromλB J=>?_
 refine⟨trivial,af (λh=>af (λO=>?_) λO=>?_) λh=>?_⟩
 all_goals refine congrArg (·,()) ?_
 .show _=((decide (0<=u)&&decide (u<=2))&&(decide (a=u)||b))
  grind
 .show _=((decide (0<=u)&&decide (u<=2))&&(decide (a=u)||b))
  grind
 .show _=((decide (0<=u)&&decide (u<=2))&&(decide (a=u)||b));rw[h];rfl
theorem asC:OK UH.e:=by
 refine dW [Jm.e] ⟨UW,⟨⟩⟩ H0 λe a b g i u=>show UH.goal (asD e a b g i u) ((e,a,b,g,i,()),u,())fromλB J=>?_
 refine⟨trivial,af (λh=>af (λO=>?_) λO=>?_) λh=>?_⟩
 all_goals refine congrArg (·,()) ?_
 .show _=((decide (0<=u)&&decide (u<=2))&&(decide (a=u)||b))
  grind
 .show _=((decide (0<=u)&&decide (u<=2))&&(decide (a=u)||b))
  grind
 .show _=((decide (0<=u)&&decide (u<=2))&&(decide (a=u)||b));rw[h];rfl
theorem Zw:OK KR.e:=by
 refine dW [gI.e] ⟨gW,⟨⟩⟩ H0 λb a e g i u=>show KR.goal (apz b a e g i u) ((b,a,e,g,i,()),u,())fromλB J=>?_
 refine⟨trivial,af (λh=>?_) λh=>?_⟩
 all_goals refine congrArg (·,()) ?_
 .show _=((decide (0<=u)&&decide (u<=2))&&decide (a=u));rw[h];rfl
 .show _=((decide (0<=u)&&decide (u<=2))&&decide (a=u));rw[h];rfl
theorem aaY:OK Nh.e:=by
 refine eP [jl.e] ⟨kF,⟨⟩⟩ H0 (λ_ _=>⟨((0,()),(([],0,0,()),())),aQN 0⟩) λb i h=>show Nh.goal (asE b i h) ((b,i,h,()),())fromλB J=>?_
 exact⟨⟨J,ni⟩,λe a=>a.1⟩
theorem asF:OK UI.e:=by
 refine dW [kR.e,KR.e,wB.e] ⟨nN,Zw,Jg,⟨⟩⟩ avN λa l e d r u id=>show UI.goal (asG a l e d r u id) ((a,l,e,d,r,()),u,id,())fromλB J=>?_
 refine⟨J.1,af (λC=>⟨trivial,af (λO=>⟨J,?_⟩) λO=>?_⟩) λC=>?_⟩
 all_goals refine congrArg (λb:Bool=>((bI (a,l,e,()) id).1,b,())) ?_
 all_goals show _=(((bI (a,l,e,()) id).2&&Az (bI (a,l,e,()) id).1 u)&&dn (a,l,e,d,r,()))
 · grind
 · grind
 .rw[C];rfl
theorem anu{g:aG}{b:Bool}(U:b=true)(h:Sp.updated c g c' df ok):Sp.changed c g b c' ok:=by obtain⟨C,O,K⟩:=ast h;exact⟨jv,λa=>⟨(O a).1,(O a).2.1,(O a).2.2.1⟩,λa=>(K a).1⟩
theorem aB7{g:aG}{b:Bool}(U:(b&&(dn c&&(bU (aQ c) g).2))=false)(e:z=c):Sp.changed c g b z false:=⟨U.symm,λh=>o5,λ_=>e⟩
theorem aB8(c:dF)(g:aG)(b:Bool):∃c',Sp.changed c g b c' (b&&(dn c&&(bU (aQ c) g).2)):=by
 obtain⟨c',df,h⟩:=ant c g;cases b with
 |true=>exact⟨c',anu rfl h⟩
 |false=>exact⟨c,aB7 rfl rfl⟩
variable {n:Sp.Bytes}
theorem ayL(h:(Sp.removeDir d n).2=true):dK d=true/\Sp.removeDir d n=(wX d n,true):=by
 grind [Sp.removeDir]
theorem apA(h:aK d):aK (Sp.removeDir d n).1:=by
 unfold Sp.removeDir;cases dK d&&decide (0<=bn d n)with
 |false=>exact h
 |true=>exact⟨aQn (aQ2 _ _) h.1,λx Z=>h.2 x (Vj.1 Z).1⟩
theorem aB9{r:Sp.LS}(a:dn c=true)(b:(Sp.removeDir (bF c) n).2=true)(hr:Sp.reached (bF c) [(n,())] r)
 (h:Sp.turned c (aQ c) (Sp.removeDir (bF c) n).1 (iY r) c' df ok):Sp.became c (aQ c) (Sp.removeDir (bF c) n).1 true c' df ok:=by
 obtain⟨l,m,k⟩:=vJ a;obtain⟨e,g⟩:=ayL b;have H:=hr.2;rw[show(λs=>iY [(n,())] s=true)=λt=>t=n from funext λs=>propext (by rw[mV];simp)]at H;rw[g]at h ⊢;exact afq h (by grind [Ld]) λR E j i=>aGH e H k j i
theorem aAB(c:dF)(u:Int)(x:eG):
 (x.1=1/\NQ c x=(bH (aQ c) (nG x)).1/\MJ c x=bF c/\Le c u x=(decide ((nG x).2.1=u)&&(bH (aQ c) (nG x)).2.2))\/
 (x.1=2/\NQ c x=(bU (aQ c) (nG x)).1/\MJ c x=bF c/\Le c u x=((rP c u (nG x).1&&decide ((nG x).2.1=u))&&(bU (aQ c) (nG x)).2))\/
 (x.1=3/\NQ c x=(dM (aQ c) (Xj x)).1/\MJ c x=bF c/\Le c u x=(rP c u (Xj x)&&(dM (aQ c) (Xj x)).2))\/
 (x.1=4/\NQ c x=aQ c/\MJ c x=(iF (bF c) (uh x)).1/\Le c u x=((iF (bF c) (uh x)).2&&aA (iF (bF c) (uh x)).1))\/
 (x.1=5/\NQ c x=aQ c/\MJ c x=(Sp.removeDir (bF c) (uh x).1).1/\Le c u x=(Sp.removeDir (bF c) (uh x).1).2)\/
 (x.1≠1/\x.1≠2/\x.1≠3/\x.1≠4/\x.1≠5/\Le c u x=false):=by
 unfold NQ MJ Le;by_cases C:x.1=1
 · grind
 by_cases O:x.1=2
 · grind
 by_cases K:x.1=3
 · grind
 grind
variable {u:Int}{x:eG}
theorem aM3(h:Zx c u x=true):(aA (MJ c x)&&aJ (NQ c x))=true:=by
 unfold Zx at h;rw[aQm,aQm]at h;obtain⟨⟨_,a⟩,k⟩:=h;obtain⟨i,j,_⟩:=vJ a;rcases aAB c u x with⟨_,w,b,g⟩|⟨_,w,b,g⟩|⟨_,w,b,g⟩|⟨_,w,b,g⟩|⟨_,w,b,g⟩|⟨_,_,_,_,_,e⟩
 · grind [NC]
 · grind [Lc]
 · grind [ND]
 · grind
 · simp_all [ayL,Ld]
 grind
theorem aCa(c:dF)(u:Int)(x:eG):∃c' df,Sp.applied c u x c' df (Zx c u x):=TP c _ _ _ aM3
theorem refused(U:Zx c u x=false)(e:z=c):Sp.applied c u x z [] false:=stays U e
theorem aAC(h:Le c u x=false):Zx c u x=false:=by grind [Zx]
theorem made{b:Bool}(a:qw u=true)(N:dn c=true)(C:NQ c x=s)(O:MJ c x=d)(K:Le c u x=b)(h:Sp.became c s d b z df ok):Sp.applied c u x z df ok:=by
 grind [Sp.applied,Zx]
theorem avm(h:dn c=true)(e:aK (bF c)):kC c:=by obtain⟨a,b,_⟩:=vJ h;exact⟨axe h e,aGE b,aQn (oq a).2 jI⟩
theorem aIw(N:kC c)(Z:tC x):aK (MJ c x):=by
 have a:=N.2.2;rcases aAB c 0 x with⟨_,_,e,_⟩|⟨_,_,e,_⟩|⟨_,_,e,_⟩|⟨_,_,e,_⟩|⟨_,_,e,_⟩|⟨h,i,j,b,g,_⟩
 .rw[e];exact N.1.2.1
 .rw[e];exact N.1.2.1
 .rw[e];exact N.1.2.1
 .rw[e];exact axf N.1.2.1 fC Z.2
 .rw[e];exact apA N.1.2.1
 .unfold MJ;rw[aQl.2 b,aQl.2 g];exact N.1.2.1
theorem aGg(N:kC c)(Z:tC x)(h:Sp.applied c u x c' df true):dn c'=true/\kC c':=by
 obtain⟨a,b,e,_⟩:=h.2.1 rfl
 grind [avm,aIw]
theorem aAD{u:Int}:∀{l:List eG}{c a b:dF}{x:eG}{df:List pz},xZ u c l a->Sp.applied a u x b df true->xZ u c (l++[x]) b
 |[],c,a,b,x,df,h,h2=>by
  obtain rfl:a=c:=h;exact⟨b,df,h2,rfl⟩
 |y::r,c,a,b,x,df,⟨c0,d0,g1,g2⟩,h2=>⟨c0,d0,g1,aAD g2 h2⟩
theorem aC4{u:Int}:∀{l:List eG}{c a b:dF},xZ u c l a->xZ u c l b->a=b
 |[],c,a,b,h1,h2=>h1.trans h2.symm
 |x::r,c,a,b,⟨c1,d1,g1,g2⟩,⟨c2,d2,k1,k2⟩=>by obtain⟨rfl,_⟩:=afr g1 k1;exact aC4 g2 k2
theorem axh{u:Int}:∀{l:List eG}{c b z:dF}{x:eG}{r:List eG}{df:List pz},xZ u c l b->Sp.applied b u x z df false->∀e,¬xZ u c (l++x::r) e
 |[],c,b,z,x,r,df,h,h2,e,⟨a,d,g,_⟩=>by
  obtain rfl:b=c:=h;have:=(afr g h2).2.2;cases this
 |y::l,c,b,z,x,r,df,⟨c0,d0,g1,g2⟩,h2,e,⟨a,d,k1,k2⟩=>by obtain⟨rfl,_⟩:=afr g1 k1;exact axh g2 h2 e k2
theorem ai3(c:dF)(u:Int)(l:List eG)(q:List (Int×Unit)):∃c' df ok,wE c u l q c' df ok:=by
 by_cases h:dn c=true/\l.length<=6/\∃a,xZ u c l a/\wV a.2.1 q=true
 .obtain⟨a,h3,h4⟩:=h.2.2;exact⟨a,KP (uK c) (uK a),true,⟨λ_=>h,λ_=>rfl⟩,λ_=>⟨h3,rfl⟩,λh=>o5⟩
 .exact⟨c,[],false,⟨λb=>(by cases b),λb=>(h b).elim⟩,λb=>(by cases b),λ_=>⟨rfl,rfl⟩⟩
theorem afs{l:List eG}{q:List (Int×Unit)}(h:¬(dn c=true/\l.length<=6/\∃b,xZ u c l b/\wV b.2.1 q=true))(e:z=c):wE c u l q z [] false:=
 ⟨⟨λa=>(by cases a),λa=>(h a).elim⟩,λa=>(by cases a),λ_=>⟨e,rfl⟩⟩
theorem aGI{l:List eG}{q:List (Int×Unit)}(C:dn c=true)(O:l.length<=6)(K:xZ u c l z)(b:wV z.2.1 q=true)(e:df=KP (uK c) (uK z)):wE c u l q z df true:=
 ⟨⟨λ_=>⟨C,O,z,K,b⟩,λ_=>rfl⟩,λ_=>⟨K,e⟩,λa=>(by cases a)⟩
theorem seen(h:Sp.applied c u x z df ok):(ok=false->Zx c u x=false)/\(ok=true->Sp.applied c u x z df true):=
 ⟨λe=>h.1.symm.trans e,λe=>jv⟩
theorem ajZ(h:Le c u x=false):(false=false->Zx c u x=false)/\(false=true->Sp.applied c u x z df ok):=
 ⟨λ_=>aAC h,λe=>y5⟩
theorem aJP(h:(dK d&&decide (0<=bn d n))=false):Sp.removeDir d n=(d,false):=by grind [Sp.removeDir]
theorem aGJ(h:dK d=true)(O:0<=bn d n):Sp.removeDir d n=(wX d n,true):=by grind [Sp.removeDir]
theorem aLQ(h:bn d n<0):Sp.removeDir d n=(d,false):=aJP jv
theorem amo:OK P9.e:=by
 refine eP [uQ.e,zK.e,uO.e] ⟨EN,Qy,Kz,⟨⟩⟩ apB (λ⟨d,n,_⟩ _=>⟨(((Sp.removeDir d n).1,(Sp.removeDir d n).2,()),()),⟨rfl,rfl⟩⟩) λd n=>show P9.goal (amq d n) (d,n,())fromλB J=>?_
 have W:d.length<=1000:=J.1;refine⟨λ_=>dK d=true/\0<=bn d n,⟨J,af (λh=>⟨J,avJ (aJP jv).symm⟩) λh=>⟨trivial,af (λO=>⟨J,avJ (aLQ (rU O)).symm⟩) λO=>⟨rfl,dN h,jv⟩⟩⟩,λ_ a=>?_⟩;refine bQ (λi(x:List aH)=>(((),i,()),x,())) (λy=>y.1.2.1) (λ_ _=>rfl) d.length fC (λk l=>l=(d.take k).filter (yc n)) rfl (λI P k l H E next=>?_) λI P l E=>?_
 .have st:=Sp.take_succ' d k ([],[],()) H;dsimp only;refine dH fC ⟨⟨fC,fC⟩,af (λh=>⟨⟨fC,fC⟩,yJ,rfl,next _ ?_⟩) λh=>⟨rfl,next _ ?_⟩⟩
  · grind [Int.toNat_natCast,yc]
  grind [yc]
 .subst E;dsimp only;rw[aQK];refine gU fC ⟨?_,avJ ?_⟩
  .have:=apA (n:=n) J;rw[aGJ a.1 a.2]at this;exact this
  .rw[aGJ a.1 a.2];rfl
theorem aGK(a:dn c=true)(b:(Sp.removeDir (bF c) n).2=true):(aA (Sp.removeDir (bF c) n).1&&aJ (aQ c))=true:=by
 simp_all [ayL,Ld,vJ]
theorem amr:OK Iq.e:=by
 refine eP [yw.e,lZ.e,P9.e] ⟨EW,yF,amo,⟨⟩⟩ H0 (λ⟨c,n,_⟩ J=>by obtain⟨c',df,h⟩:=TP c (aQ c) (Sp.removeDir (bF c) n).1 (Sp.removeDir (bF c) n).2 (aGK J.2);exact⟨((((c'.1,c'.2.1,c'.2.2.1,c'.2.2.2.1,c'.2.2.2.2.1,()),df,_,()),())),h⟩) λa l g d r n=>show Iq.goal (ams a l g d r n) ((a,l,g,d,r,()),n,())fromλB J=>?_
 dsimp only[Iq]at J ⊢;obtain⟨N,b⟩:kC (a,l,g,d,r,())/\dn (a,l,g,d,r,())=true:=J;obtain⟨k,m,t⟩:=vJ b;refine⟨N.1.2.1,?_⟩;rintro⟨⟨o,ok,⟨⟩⟩,⟨⟩⟩ ⟨e1,e2⟩;obtain rfl:o=(Sp.removeDir d n).1:=e1;obtain rfl:ok=(Sp.removeDir d n).2:=e2;refine af (λh=>stays (kJ h) rfl) λh=>⟨⟨N.1.2.1,(oq k).2,ni⟩,λw i=>⟨⟨N.1,N.1.1,apA N.1.2.1,?_⟩,λy j=>?_⟩⟩
 .have e:Sp.removeDir d n=_:=(ayL (dN h)).2;rw[e,show aA (wX d n)=true from Ld k n,show aJ (a,l,g,())=true from m];rfl
 .have:=aB9 (c:=(a,l,g,d,r,())) b (dN h) i j
  grind [bF]
theorem ahx:OK Et.e:=by
 refine eP [Iq.e,Ip.e,Og.e,KR.e,AY.e,wB.e,UF.e,gI.e,kR.e,mW.e] ⟨amr,aml,ajV,Zw,WB,Jg,asy,gW,nN,qx,⟨⟩⟩ aj0 (λ⟨c,u,x,_⟩ _=>by obtain⟨c',df,h⟩:=aCa c u x;exact⟨((((c'.1,c'.2.1,c'.2.2.1,c'.2.2.2.1,c'.2.2.2.2.1,()),df,_,()),())),h⟩) λa l g d r u S T i t A m o H F=>show Et.goal (ahy a l g d r u S T i t A m o H F) ((a,l,g,d,r,()),u,(S,T,i,t,A,m,o,H,F,()),())fromλB J=>?_
 dsimp only[Et]at J ⊢;obtain⟨N,h5,h8⟩:kC (a,l,g,d,r,())/\m.length<=400/\F.length<=1000:=J;have Z:m.length<=1000:=fC;have t5:m.length<=500:=fC;refine⟨N.1,?_⟩;rintro⟨⟨c0,⟨⟩⟩,⟨⟩⟩ ec;obtain rfl:c0=(a,l,g,d,r,()):=ec;refine⟨λy=>y.1.1=(qw u&&dn (a,l,g,d,r,())),⟨N.1,af (λh=>⟨trivial,rfl,?_⟩) λh=>⟨rfl,?_⟩⟩,?_⟩
 · grind [qw]
 · grind
 rintro⟨⟨ok0,⟨⟩⟩,⟨⟩⟩ k;have k:ok0=(qw u&&dn (a,l,g,d,r,())):=k;refine⟨λy=>(y.1.2.1=false->Zx (a,l,g,d,r,()) u (S,T,i,t,A,m,o,H,F,())=false)/\(y.1.2.1=true->Sp.applied (a,l,g,d,r,()) u (S,T,i,t,A,m,o,H,F,()) y.2.1 y.1.1 true),af (λh=>⟨rfl,?_,?_⟩) λh=>?_,?_⟩
 .intro _;show((qw u&&dn (a,l,g,d,r,()))&&_)=false
  grind
 · grind
 .have h:=dN h;rw[k,aQm]at h;obtain⟨L,b⟩:=h;refine⟨λy=>y.1.1=((S==1)&&(i==u)),af (λU=>⟨rfl,?_⟩) λU=>⟨rfl,?_⟩,?_⟩
  · grind
  · grind
  rintro⟨⟨b1,⟨⟩⟩,⟨⟩⟩ D;have D:b1=((S==1)&&(i==u)):=D;subst D;refine af (λM=>⟨⟨N,Z⟩,λr8 R=>⟨rfl,?_⟩⟩) λM=>?_
  .rw[aQm]at M;obtain rfl:S=1:=jv;refine seen (made L b rfl rfl ?_ R.1);show(decide (i=u)&&_)=_;rw[aQT jv,b];rfl
  refine⟨λy=>y.1.1=((S==2)&&(i==u)),af (λU=>⟨rfl,?_⟩) λU=>⟨rfl,?_⟩,?_⟩
  · grind
  · grind
  rintro⟨⟨b2,⟨⟩⟩,⟨⟩⟩ E;have E:b2=((S==2)&&(i==u)):=E;subst E;refine af (λO=>⟨N.1.1,⟨N.1,Z,aAE N.2.1,t5⟩,λum j=>?_⟩) λO=>af (λW=>⟨N.1.1,N,λr25 C=>?_⟩) λW=>af (λX=>⟨⟨N,h8⟩,λr27 P=>⟨rfl,?_⟩⟩) λX=>af (λY=>⟨⟨N,b⟩,λr28 Q=>⟨rfl,?_⟩⟩) λY=>⟨rfl,ajZ ?_⟩
  .rw[aQm]at O;obtain rfl:S=2:=jv;have K:Le (a,l,g,d,r,()) u (2,T,i,t,A,m,o,H,F,())=((((bI (a,l,g,()) T).2&&Az (bI (a,l,g,()) T).1 u)&&decide (i=u))&&(bU (a,l,g,()) (T,i,t,A,m,())).2):=rfl;have j:=ast j;refine af (λw=>af (λI=>⟨trivial,rfl,?_⟩) λI=>⟨rfl,ajZ ?_⟩) λw=>⟨rfl,ajZ ?_⟩
   .cases e3:Az (bI (a,l,g,()) T).1 u with
    |true=>
     rw[w]at j;refine⟨(λe=>y5),λ_=>made L b rfl rfl ?_ j⟩;rw[K,I,e3,aQT jv,b];rfl
    |false=>grind [aAC]
   · grind
   .have:=j.1;rw[b,w]at this;rw[K,show(bU (a,l,g,()) (T,i,t,A,m,())).2=false from this.symm,aR8]
  .obtain rfl:S=3:=by simpa using W
   have K:Le (a,l,g,d,r,()) u (3,T,i,t,A,m,o,H,F,())=(((bI (a,l,g,()) o).2&&Az (bI (a,l,g,()) o).1 u)&&(dM (a,l,g,()) o).2):=rfl;refine af (λw=>af (λI=>⟨trivial,rfl,?_⟩) λI=>⟨rfl,ajZ ?_⟩) λw=>⟨rfl,ajZ ?_⟩
   .cases e3:Az (bI (a,l,g,()) o).1 u with
    |true=>
     rw[w]at C;refine⟨(λe=>y5),λ_=>made L b rfl rfl ?_ C⟩;rw[K,I,e3,b];rfl
    |false=>grind [aAC]
   · grind
   .have:=C.1;rw[b,w]at this;rw[K,show(dM (a,l,g,()) o).2=false from this.symm,aR8]
  .obtain rfl:S=4:=by simpa using X
   refine seen (made L b rfl rfl ?_ P);rw[b];rfl
  .obtain rfl:S=5:=by simpa using Y
   exact seen (made (c:=(a,l,g,d,r,())) L b rfl rfl rfl Q)
  .have M:((S==1)&&(i==u))=false:=M;have O:((S==2)&&(i==u))=false:=O;unfold Le;show(bif S==1 then decide (i=u)&&_ else bif S==2 then(_&&decide (i=u))&&_ else bif S==3 then _ else bif S==4 then _ else bif S==5 then _ else _)=_
   grind
 .rintro⟨⟨df,ok,⟨⟩⟩,z,⟨⟩⟩ ⟨j1,j2⟩;exact af (λh=>⟨N.1,λr hr=>refused (j1 (kJ h)) hr⟩) λh=>j2 (dN h)
theorem asH{s:List aG}{n:Nat}(H:n<s.length):pO (s.take (n+1)) u=pO (s.take n) u+(if(Sp.fileAt s n).2.1=u then Qa (Sp.fileAt s n)else 0):=by
 grind [pO,Sp.take_succ',Sp.fileAt]
theorem aAF{u:Int}:∀{s:List aG},(∀f∈s,f.2.2.2.2.1.length<=1000)->0<=pO s u/\pO s u<=1001*(s.length:Int)
 |[],_=>⟨aQN _,aQN _⟩
 |f::r,h=>by
  obtain⟨C,O⟩:=aAF (u:=u) λg a=>h g (aQo _ a)
  grind [pO,Qa]
theorem apC:OK Rw.e:=by
 refine dW [] ⟨⟩ H0 λb e g h a=>show Rw.goal (apD b e g h a) ((b,e,g,h,a,()),())fromλB J=>?_
 have J:a.length<=1000:=J;exact congrArg (·,()) (eH _ fC)
theorem aEA{s:List aG}{n:Nat}(h:∀f∈s,f.2.2.2.2.1.length<=1000)(W:s.length<=1000)(H:n<s.length)(a:(Sp.fileAt s n).2.1=u):IntKind.i64.wrap (pO (s.take n) u+Qa (Sp.fileAt s n))=pO (s.take (n+1)) u:=by
 rw[asH H,if_pos a];obtain⟨C,O⟩:=aAF (u:=u) (s:=s.take n) λf X=>h f (aRa X)
 grind [Qa,Sp.fileAt,eH]
theorem amu:OK Ir.e:=by
 refine dW [Rw.e] ⟨apC,⟨⟩⟩ apE λb a e u=>show Ir.goal (amv b a e u) ((b,a,e,()),u,())fromλB J=>?_
 dsimp only[Ir]at J ⊢;obtain⟨_,W,X⟩:b.length<=1000/\a.length<=1000/\∀f∈a,fZ f:=J;refine bQ (λi(x:Int)=>((x,i,()),())) (λy=>y.1.2.1) (λ_ _=>rfl) a.length fC (λn x=>x=pO (a.take n) u) rfl (λI P n x H E next=>?_) λI P x E=>?_
 .subst E;dsimp only;refine dH fC ⟨⟨fC,fC⟩,af (λh=>⟨⟨fC,fC⟩,X _ (aft H),rfl,next _ ?_⟩) λh=>⟨rfl,next _ ?_⟩⟩
  .exact aEA X W H (aQv.1 h)
  grind [asH,Sp.fileAt]
 grind
theorem ayf:OK Rx.e:=by
 refine dW [gI.e] ⟨gW,⟨⟩⟩ H0 λq u=>show Rx.goal (ayg q u) (q,u,())fromλB J=>?_
 dsimp only[Rx]at J ⊢;have W:q.length<=maxLen:=B.1.1;rw[maxLen_eq]at W;have w:IntKind.i64.wrap ((q.length:Int)-1)=(q.length:Int)-1:=eH _ fC;refine⟨trivial,?_⟩
 grind [QJ]
theorem within_iff{fs:List aG}{q:List (Int×Unit)}:wV fs q=true↔∀i:Nat,i<3->pO fs i<=QJ q i:=by
 unfold wV;rw[aQm,aQm,aQF,aQF,aQF];constructor
 .rintro⟨h0,h1,h2⟩ i hi;rcases(by omega:i=0\/i=1\/i=2)with rfl|rfl|rfl
  .exact h0
  .exact h1
  .exact h2
 .exactλh=>⟨h 0 jI,h 1 jI,h 2 jI⟩
theorem QZ:OK wC.e:=by
 refine dW [Rx.e,Ir.e] ⟨ayf,amu,⟨⟩⟩ afu λa h b q=>show wC.goal (ady a h b q) ((a,h,b,()),q,())fromλB J=>?_
 dsimp only[wC]at J ⊢;refine iW 3 jI (λn=>∀i:Nat,i<n->pO h i<=QJ q i) (λi D=>fC) (λI P n H E next=>?_) λI P E=>?_
 · grind [within_iff]
 grind [within_iff]
theorem ao2:OK KT.e:=by
 refine eP [dO.e,jl.e] ⟨dX,kF,⟨⟩⟩ asI (λ_ _=>⟨(([],()),(([],0,0,()),())),⟨aQN 0,aQx _⟩⟩) λb i h=>show KT.goal (apF b i h) ((b,i,h,()),())fromλB J=>?_
 dsimp only[KT]at J ⊢;refine bQ (λi(x:(List (Int×Unit)×Int×Int×Unit)×List (Int×Unit))=>(((),i,()),x.1,x.2,())) (λy=>y.1.2.1) (λ_ _=>rfl) 3 jI (λn x=>0<=x.1.2.1/\x.2.length=n) (s0:=((b,i,h,()),[])) ⟨J,rfl⟩ (λI P n x H E next=>?_) λI P x E=>?_
 .obtain⟨h1,h2⟩:=E;dsimp only;refine dH fC ⟨⟨h1,ni⟩,λe a=>⟨yJ,rfl,next (e.2.1,x.2++[e.1]) ⟨a.1,?_⟩⟩⟩
  grind
 grind
theorem aIx{l:List α}{n:Nat}(d:α)(H:n<l.length):l=l.take n++l.getD n d::l.drop (n+1):=by
 simp_all
theorem aIy{y:dF}{l:List eG}{n:Nat}(d:eG)(H:n<l.length)(h:xZ u c (l.take n) y)(O:Sp.applied y u (l.getD n d) z df true):xZ u c (l.take (n+1)) z:=by
 grind [Sp.take_succ',aAD]
theorem aIz{y:dF}{l:List eG}{n:Nat}(d:eG)(H:n<l.length)(h:xZ u c (l.take n) y)(O:Sp.applied y u (l.getD n d) z df false)(a:dF):¬xZ u c l a:=by
 grind [aIx,axh]
theorem MI:OK rJ.e:=by
 refine eP [Es.e,wC.e,Et.e,kR.e,mW.e] ⟨Us,QZ,ahx,nN,qx,⟨⟩⟩ aah (λ⟨c,u,l,q,_⟩ _=>by obtain⟨c',df,ok,h⟩:=ai3 c u l q;exact⟨((((c'.1,c'.2.1,c'.2.2.1,c'.2.2.2.1,c'.2.2.2.2.1,()),df,ok,()),())),h⟩) λa l i d r u b q=>show rJ.goal (Zy a l i d r u b q) ((a,l,i,d,r,()),u,b,q,())fromλB J=>?_
 dsimp only[rJ]at J ⊢;obtain⟨N,W,X⟩:kC (a,l,i,d,r,())/\b.length<=1000/\∀x∈b,tC x:=J;refine⟨N.1,λt e=>?_⟩;refine⟨λ_=>dn (a,l,i,d,r,())=true/\b.length<=6,⟨N.1,af (λh=>afs (λg=>?_) e) λh=>af (λO=>afs (λg=>?_) e) λO=>⟨rfl,dN h,jv⟩⟩,λ_ E=>⟨N.1,?_⟩⟩
 · grind
 · grind
 obtain⟨j,m⟩:=E;rintro⟨⟨c0,⟨⟩⟩,⟨⟩⟩ ec;obtain rfl:c0=(a,l,i,d,r,()):=ec;refine aoT b.length fC (λn x=>kC x/\xZ u (a,l,i,d,r,()) (b.take n) x) ⟨N,rfl⟩ (λI P n x H E next=>?_) λI P x E=>?_
 .obtain⟨j1,j2⟩:=E;dsimp only;rw[aQs];have Z:=X _ (getD_mem (d:=(0,0,0,false,0,[],0,[],[],())) H);refine dH fC ⟨⟨fC,fC⟩,⟨j1,Z⟩,?_⟩;rintro⟨⟨z,df,ok,⟨⟩⟩,⟨⟩⟩ h8;cases ok with
  |false=>grind [afs,aIz]
  |true=>exact⟨rfl,next z ⟨(aGg j1 Z h8).2,aIy _ H j2 h8⟩⟩
 .obtain⟨j1,j2⟩:=E;rw[aQK]at j2;refine gU jv ⟨j1.1.1,af (λh=>afs (λg=>?_) e) λh=>⟨⟨N.1.2.2,j1.1.2.2⟩,λo k=>aGI j m j2 (dN h) k⟩⟩
  grind [aC4]
theorem TQ:OK xP.e:=by
 refine dW [vX.e,uN.e,UG.e] ⟨I8,Af,asA,⟨⟩⟩ ahz λb a e u=>show xP.goal (afv b a e u) ((b,a,e,()),u,())fromλB J=>?_
 dsimp only[xP]at J ⊢;obtain⟨k,C,O⟩:b.length<=1000/\a.length<=1000/\∀f∈a,fZ f:=J;refine⟨o6,?_⟩;refine bQ (λi(x:List aG)=>((i,()),((),(),e,()),x,())) (λy=>y.1.1) (λ_ _=>rfl) a.length fC (λn l=>l=(a.take n).filter (uT · u)) ni (λI P n l H E next=>?_) λI P l E=>?_
 .subst E;have W:=aq0 a (uT · u) n;dsimp only;refine dH fC ⟨⟨fC,fC⟩,trivial,af (λh=>⟨⟨fC,fC⟩,O _ (getD_mem (d:=((0:Int),(0:Int),false,(0:Int),[],())) H),yJ,rfl,next _ ?_⟩) λh=>⟨rfl,next _ ?_⟩⟩
  · simp_all [Vw,Sp.fileAt]
  grind [Vw,Sp.fileAt]
 .rw[aQK]at E;subst E;dsimp only;have W:=aQ2 (uT · u) a;refine gU fC ?_;generalize j:List.filter (λx=>uT x u) a=g at W ⊢;refine bQ (λi(x:List aG)=>((i,()),x,())) (λy=>y.1.1) (λ_ _=>rfl) g.length fC (λn l=>l=ny g n) (by simp[ny]) (λI P n l H E next=>?_) λI P l E=>?_
  · grind [Y6,abB,agw]
  grind [Sp.visible,aiE]
theorem afw:OK DC.e:=by
 refine dW [WY.e,KH.e,UH.e,qf.e] ⟨avt,Y5,asC,JB,⟨⟩⟩ ahA λb a e u=>show DC.goal (afx b a e u) ((b,a,e,()),u,())fromλB J=>?_
 dsimp only[DC]at J ⊢;obtain⟨j,C,O⟩:b.length<=1000/\a.length<=1000/\∀f∈a,fZ f:=J;refine⟨j,?_⟩;refine bQ (λi(x:List aG)=>((i,()),(b,(),e,()),x,())) (λy=>y.1.1) (λ_ _=>rfl) a.length fC (λn l=>l=(a.take n).filter (uT · u)) ni (λI P n l H E next=>?_) λI P l E=>?_
 .dsimp only;refine dH fC ⟨⟨fC,fC⟩,trivial,af (λh=>⟨O _ (getD_mem (d:=((0:Int),(0:Int),false,(0:Int),[],())) H),yJ,rfl,next _ ?_⟩) λh=>⟨rfl,next _ ?_⟩⟩
  · simp_all [Vw,Sp.fileAt]
  grind [Vw,Sp.fileAt]
 .rw[aQK]at E;subst E;dsimp only;have W:=aQ2 (uT · u) a;refine gU fC ?_;generalize k:List.filter (λx=>uT x u) a=g at W ⊢;refine bQ (λi(x:List aG)=>((i,()),x,())) (λy=>y.1.1) (λ_ _=>rfl) g.length fC (λn l=>l=ny g n) (by simp[ny]) (λI P n l H E next=>?_) λI P l E=>?_
  · grind [Y6,abB,agw]
  grind [Sp.visible,aiE]
theorem asJ:OK Nj.e:=by
 refine dW [zK.e] ⟨Qy,⟨⟩⟩ avO λd t=>show Nj.goal (asK d t) (d,t,())fromλB J=>?_
 dsimp only[Nj]at J ⊢;refine⟨trivial,?_⟩;have e:sH d t=bif decide (bn d t<0)then(([],[],()),false)else(dh d (bn d t).toNat,true):=rfl
 rw[e];rcases yG d t with⟨h,_⟩|⟨n,H,h,_,_⟩
 · grind
 .have h1:=J.2 _ (getD_mem (d:=([],[],())) H);refine gU fC ⟨⟨fC,fC⟩,⟨fC,fC⟩,?_,?_⟩
  · grind [bV]
  .rw[aQH fC];rfl
theorem TR(h:Nl s d u):nD s d u=(vM (Sp.visible s u).2.1 d,true):=by unfold nD;rw[h.1,h.2.1,h.2.2];rfl
theorem aAG(h:Nl s d u)(n:Sp.Bytes):dI s d u n=aC5 s d u n:=by unfold dI;rw[TR h];rfl
theorem BP(h:aJ s=false\/aA d=false\/qw u=false):nD s d u=([],false):=by
 grind [nD]
theorem aj1(C:aJ s=true)(O:qw u=true){out:List fA}(j:ok=(aA d&&aJ (Sp.visible s u)))(a:ok=true->gX (Sp.visible s u).2.1 d [] (λ_=>true) out)(X:ok=false->out=[]):out=(nD s d u).1/\ok=(nD s d u).2:=by
 rw[Yc u C,Bool.and_true]at j;cases ok with
 |true=>rw[TR ⟨C,j.symm,O⟩];grind [ai1,NK]
 |false=>grind [BP]
theorem aai:OK yM.e:=by
 refine eP [Rt.e,DC.e,Jm.e,xO.e] ⟨apm,afw,UW,Tc,⟨⟩⟩ H0 (λ⟨s,d,u,_⟩ _=>⟨(((nD s d u).1,(nD s d u).2,()),()),⟨rfl,rfl⟩⟩) λa b g d u=>show yM.goal (aaj a b g d u) ((a,b,g,()),d,u,())fromλB J=>?_
 dsimp only[yM]at J ⊢;obtain⟨Y,e⟩:aV (a,b,g,())/\aK d:=J;refine⟨trivial,af (λh=>?_) λh=>⟨trivial,af (λO=>?_) λO=>⟨Y,⟨PS u Y,e⟩,λr hr=>?_⟩⟩⟩
 · grind [BP]
 .rw[BP (.inr (.inr (kJ O)))];grind
 .exact aj1 (dN h) (dN O) hr.1 hr.2.1 hr.2.2
theorem N8:OK tH.e:=by
 refine eP [Ep.e,xP.e,kQ.e,gI.e] ⟨Qx,TQ,oK,gW,⟨⟩⟩ H0 (λ⟨s,d,u,_⟩ _=>⟨(((nD s d u).1,(nD s d u).2,()),()),⟨rfl,rfl⟩⟩) λa b g d u=>show tH.goal (aak a b g d u) ((a,b,g,()),d,u,())fromλB J=>?_
 dsimp only[tH]at J ⊢;obtain⟨Y,e⟩:aV (a,b,g,())/\aK d:=J;refine⟨trivial,af (λh=>?_) λh=>⟨trivial,af (λO=>?_) λO=>⟨Y,⟨PS u Y,e⟩,λr hr=>?_⟩⟩⟩
 .rw[BP (.inr (.inr (kJ h)))];grind
 · grind [BP]
 .exact aj1 (dN O) (dN h) hr.1 hr.2.1 hr.2.2
theorem asL(Y:aV s)(e:aK d)(X:Nl s d u):bW (vM (Sp.visible s u).2.1 d):=
 VF (Ws (Yc u X.1) X.2.1) e.1 (PS u Y).2.1 EU
theorem Xe(Y:aV s)(e:aK d):bW (nD s d u).1:=by
 cases C:aJ s with
 |false=>grind [BP,EU]
 |true=>cases O:aA d with
  |false=>grind [BP,EU]
  |true=>cases K:qw u with
   |false=>grind [BP,EU]
   |true=>rw[TR ⟨C,O,K⟩];exact asL Y e ⟨C,O,K⟩
theorem aaT:OK Nk.e:=by
 refine dW [uw.e,yM.e] ⟨Ot,aai,⟨⟩⟩ H0 λa h b d u t=>show Nk.goal (asM a h b d u t) ((a,h,b,()),d,u,t,())fromλB J=>?_
 obtain⟨Y,e⟩:aV (a,h,b,())/\aK d:=J;refine⟨⟨Y,e⟩,λr hr=>?_⟩;rw[hr.1];exact⟨Xe Y e,rfl⟩
theorem qp:OK nP.e:=by
 refine dW [qG.e,tH.e] ⟨Gg,N8,⟨⟩⟩ H0 λa h b d u t=>show nP.goal (asN a h b d u t) ((a,h,b,()),d,u,t,())fromλB J=>?_
 obtain⟨Y,e⟩:aV (a,h,b,())/\aK d:=J;refine⟨⟨Y,e⟩,λr hr=>?_⟩;rw[hr.1];exact⟨Xe Y e,rfl⟩
theorem apG:OK Ry.e:=by
 refine dW [pK.e,nP.e] ⟨zx,qp,⟨⟩⟩ H0 λa h b d u t id=>show Ry.goal (apH a h b d u t id) ((a,h,b,()),d,u,t,id,())fromλB J=>?_
 refine⟨⟨J.1,J.2.1⟩,trivial,?_⟩;rw[aAG J.2.2];rfl
variable {l:List aW}
theorem aLS{x:aW}{k:Nat}(j:k<=l.length)(C:∀i,i<k->Op.bytesLess (l.getD i ([],0,0,[],())).1 x.1=true)(O:k<l.length->Op.bytesLess (l.getD k ([],0,0,[],())).1 x.1=false):l.take k++x::l.drop k=TS l x:=by
 grind [aa6,JI,TS,aEB,aEC]
variable {r:List aW}
theorem aED{a:List aW}{x:aW}(h:JJ a x=true):qN a l (x::r)=none:=by grind [qN]
theorem aEE{a:List aW}{x:aW}(h:JJ a x=false)(j:zB a x=true):qN a l (x::r)=qN a l r:=by grind [qN]
theorem aGL{a:List aW}{x:aW}(h:JJ a x=false)(j:zB a x=false):qN a l (x::r)=qN a (TS l x) r:=by grind [qN]
theorem aLT(p:α->Bool)(d:α){l:List α}{n:Nat}(h:n<l.length)(J:p (l.getD n d)=true):l.any p=true:=aRA.2 ⟨_,getD_mem h,J⟩
theorem aKI(x y:aW):(x.2.1==y.2.1&&(x.2.2.1==y.2.2.1&&(x.2.2.2.1==y.2.2.2.1&&true)))=decide (x.2=y.2):=by
 grind
abbrev aAH(x y:aW):Bool:=y.1==x.1&&!decide (y.2=x.2)
theorem aEF{Y:Type}(mk:Int->Bool->Y)(e:Y->Int)(b:∀i s,e (mk i s)=i){B:(Y->Prop)->(Y->Nat)->Y->Prop}(a:List aW)(x:aW)(L:a.length<=1000)
 (g:∀I P(n:Nat),n<a.length->JJ (a.take n) x=false->
   (aAH x (a.getD n ([],0,0,[],()))=false->I (mk (IntKind.i64.wrap ((n:Int)+1)) (zB (a.take n) x||((a.getD n ([],0,0,[],())).1==x.1)))/\P (mk (IntKind.i64.wrap ((n:Int)+1)) (zB (a.take n) x||((a.getD n ([],0,0,[],())).1==x.1)))<P (mk n (zB (a.take n) x)))->B I P (mk n (zB (a.take n) x)))
 (h:JJ a x=false->∀I P,B I P (mk a.length (zB a x))):∃I,∃P,I (mk 0 false)/\∀y,I y->B I P y:=by
 refine bQ mk e b a.length fC (λn k=>k=zB (a.take n) x/\JJ (a.take n) x=false) ⟨rfl,rfl⟩ (λI P n k H E next=>?_) λI P k E=>?_
 · grind [zB,aAy,JJ]
 grind
theorem aIA{a:List aW}{x:aW}{n:Nat}(H:n<a.length)(h:aAH x (a.getD n ([],0,0,[],()))=true):JJ a x=true:=aLT _ _ H h
theorem aCb{a b:BJ}(e:a.1=true)(U:b.1=true):CQ a b=aEG (qN a.2.1 a.2.1 b.2.1):=by
 grind [CQ]
theorem aj2:OK AZ.e:=by
 refine dW [] ⟨⟩ amw λA a K b=>show AZ.goal (aj3 A a K b) ((A,a,()),(K,b,()),())fromλB J=>?_
 dsimp only[AZ]at J ⊢;delta aj3 abl aj bJ jb lF;have J:a.length+b.length<=900:=J;refine⟨λ_=>A=true/\K=true,af (λh=>?_) λh=>af (λO=>?_) λO=>⟨rfl,dN h,dN O⟩,?_⟩
 .have h:=kJ h;subst h;rfl
 .have O:=kJ O;have h:=dN h;subst O h;rfl
 .rintro _ ⟨rfl,rfl⟩;refine⟨o6,o6,?_⟩;have X:CQ (true,a,()) (true,b,())=aEG (qN a a b):=aCb rfl rfl;dsimp only;refine bQ (λi(l:List aW)=>(((),i,()),l,())) (λy=>y.1.2.1) (λ_ _=>rfl) b.length fC (λn l=>qN a a b=qN a l (b.drop n)/\l.length<=a.length+n) ⟨jv,fC⟩ (λI P n l H E next=>?_) λI P l E=>?_
  .obtain⟨hm,hl⟩:=E;have hd:=drop_cons b n ([],0,0,[],()) H;dsimp only;rw[aQs];generalize Z:b.getD n ([],0,0,[],())=x at hd ⊢;rw[hd]at hm;refine dH fC ⟨⟨fC,fC⟩,?_⟩;refine aEF (λi k=>((k,i,()),())) (λy=>y.1.2.1) (λ_ _=>rfl) a x fC (λI1 U m o N T=>?_) λN I1 U=>?_
   .dsimp only;rw[aQs];refine dH fC ⟨⟨fC,fC⟩,o,?_⟩;rw[aKI];generalize F:a.getD m ([],0,0,[],())=y at T ⊢;refine af (λY=>⟨⟨fC,fC⟩,o,af (λh=>?_) λh=>?_⟩) λY=>?_
    .have h:aAH x y=true:=jv;have R:JJ a x=true:=aIA o jv;refine congrArg (·,()) (show(false,[],())=CQ (true,a,()) (true,b,())from ?_);rw[X,hm,aED R];rfl
    · grind
    grind
   .dsimp only;refine gU fC (af (λj=>⟨rfl,next _ ⟨?_,?_⟩⟩) λj=>?_)
    · grind [aEE]
    .omega
    .rw[aGL N j]at hm;have fin:∀w,w=TS l x->qN a a b=qN a w (b.drop (n+1))/\w.length<=a.length+(n+1):=λw e=>by
      grind [aAI]
     have g:∀k:Nat,k<=l.length->(∀i,i<k->Op.bytesLess (l.getD i ([],0,0,[],())).1 x.1=true)->(k<l.length->Op.bytesLess (l.getD k ([],0,0,[],())).1 x.1=false)->
      List.drop 0 (List.take k l)++[x]++List.drop k (List.take l.length l)=TS l x:=λk j C O=>by
      grind [aLS]
     have t:∀k:Nat,k<=l.length->(0+(List.drop 0 (List.take k l)).length<=big)/\((List.drop 0 (List.take k l)).length+[x].length<=big)/\((List.drop 0 (List.take k l)++[x]).length+(List.drop k (List.take l.length l)).length<=big):=λk j=>by rw[bV,List.drop_zero,aQK,aQu,aRe,aSe];simp only[aQz,aQZ];omega
     refine bQ (s0:=()) (λi(_:Unit)=>((i,()),())) (λy=>y.1.1) (λ_ _=>rfl) l.length fC (λk _=>∀i,i<k->Op.bytesLess (l.getD i ([],0,0,[],())).1 x.1=true) (λi D=>fC) (λI2 W k _ S E T=>?_) λI2 W _ E=>?_
     .dsimp only;rw[aQs];obtain⟨L,M,Q⟩:=t k fC;refine dH fC ⟨⟨fC,fC⟩,S,af (λh=>⟨rfl,T () λi D=>?_⟩) λh=>⟨⟨fC,fC⟩,L,M,⟨fC,fC⟩,Q,rfl,next _ (fin _ (g k fC E λ_=>h))⟩⟩
      grind
     .dsimp only;rw[aQs];obtain⟨L,M,Q⟩:=t l.length (aQp _);exact gU fC ⟨⟨fC,fC⟩,L,M,⟨fC,fC⟩,Q,rfl,next _ (fin _ (g l.length (aQp _) E λh=>fC))⟩
  .obtain⟨hm,hl⟩:=E;dsimp only;refine gU fC ?_;refine congrArg (·,()) (show(true,l,())=CQ (true,a,()) (true,b,())from ?_);rw[X,hm,aSJ];rfl
theorem avP:OK Jr.e:=by
 refine dW [] ⟨⟩ H0 λa g b i=>show Jr.goal (avQ a g b i) ((a,g,()),(b,i,()),())fromλB J=>?_
 dsimp only[Jr]at J ⊢;have e:Rz (a,g,()) (b,i,())=bif a==b then O9 else bif a then(a,g,())else(b,i,()):=rfl
 rw[e];refine af (λh=>?_) λh=>af (λO=>?_) λO=>?_
 .rw[h];rfl
 .rw[h,O];rfl
 grind
variable {X:BX}{m:Bool}
theorem aGM{a:Nat}(h:Sp.val q f X a=m):iO q f X a m=(true,[],()):=by grind [iO]
theorem aIB{a:Nat}(h:Sp.val q f X a≠m)(b:(Sp.nodeAt q a).1=5)(W:(Sp.nodeAt q a).2.1.toNat<a):iO q f X a m=iO q f X (Sp.nodeAt q a).2.1.toNat (!m):=by
 grind [iO]
theorem aIC{a:Nat}(h:Sp.val q f X a≠m)(b:(Sp.nodeAt q a).1≠5)(O:jS (Sp.nodeAt q a)=true)(W:(Sp.nodeAt q a).2.1.toNat<a)(hr:(Sp.nodeAt q a).2.2.1.toNat<a):
 iO q f X a m=bif ((Sp.nodeAt q a).1==6)==m then CQ (iO q f X (Sp.nodeAt q a).2.1.toNat m) (iO q f X (Sp.nodeAt q a).2.2.1.toNat m)else Rz (iO q f X (Sp.nodeAt q a).2.1.toNat m) (iO q f X (Sp.nodeAt q a).2.2.1.toNat m):=by
 grind [iO]
theorem aj6{a:Nat}(h:Sp.val q f X a≠m)(b:(Sp.nodeAt q a).1≠5)(O:jS (Sp.nodeAt q a)=false):
 iO q f X a m=if(Sp.nodeAt q a).1=3/\m=true then(true,[((Sp.nodeAt q a).2.2.2.1,(Sp.nodeAt q a).2.2.2.2.1,(Sp.nodeAt q a).2.2.2.2.2.1,(Sp.nodeAt q a).2.2.2.2.2.2.1,())],())
  else if(Sp.nodeAt q a).1=2/\m=false then(true,[((Sp.nodeAt q a).2.2.2.1,0,0,[],())],())else O9:=by
 grind [iO]
theorem aEH{a l:Nat}(b:aN q=true)(e:a<q.length)(W:l<a):(iO q f X l m).2.1.length<=400:=by have C:=(Sp.jF b).2;have O:=asO q f X l m;have K:=aRE (n:=2) jI (show l<=7 from fC);omega
theorem aAJ{n:aO}(a:n.1≠6)(b:n.1≠7):jS n=false:=by
 grind [jS]
theorem ne_of{x k j:Int}(h:x=k)(a:k≠j):x≠j:=fC
theorem adz[kU](Y:kM prog G DK Gy):kM prog G SQ OG:=by
 refine adA (XT [Jr.e,AZ.e,(DK,.eff (EH wF) Gy),(GR,.pure Ij)] ⟨avP,aj2,⟨Y,acJ⟩,⟨aa2,Y0⟩,trivial⟩) (λ⟨q,a,f,r,m,_⟩ _=>⟨((((iO q f (bK r) a.toNat m).1,(iO q f (bK r) a.toNat m).2.1,()),()),()),rfl⟩) ?_;intro q a P Q S T W r m B J;obtain⟨⟨Z,h0,C,hr⟩,hm⟩:=J;have ha:a.toNat<q.length:=fC;obtain⟨k1,k2⟩:=nS Z ha;have kid:∀k:Int,0<=k->k.toNat<a.toNat->(aN q=true/\0<=k/\k<(q.length:Int)/\bW r)/\k.toNat<je:=λk O K=>⟨⟨Z,O,fC,hr⟩,fC⟩;refine⟨⟨h0,C⟩,⟨Z,h0,C,hr⟩,af (λh=>(aGM (eq_of_beq h)).symm) λh=>?_⟩;have R:Sp.val q (P,Q,S,T,W,()) (bK r) a.toNat≠m:=aQl.1 h;refine af (λg=>?_) λD=>?_
 .have g:(Sp.nodeAt q a.toNat).1=5:=aQv.1 g;have j:=k1 (.inl g);exact⟨kid _ j.1 j.2,λr1 e1=>e1.trans (aIB R g j.2).symm⟩
 .have D:(Sp.nodeAt q a.toNat).1≠5:=aQl.1 D;have two:∀(b:Bool),jS (Sp.nodeAt q a.toNat)=true->(((Sp.nodeAt q a.toNat).1==6)==m)=b->((aN q=true/\0<=(Sp.nodeAt q a.toNat).2.1/\(Sp.nodeAt q a.toNat).2.1<(q.length:Int)/\bW r)/\(Sp.nodeAt q a.toNat).2.1.toNat<je)/\
   ((aN q=true/\0<=(Sp.nodeAt q a.toNat).2.2.1/\(Sp.nodeAt q a.toNat).2.2.1<(q.length:Int)/\bW r)/\(Sp.nodeAt q a.toNat).2.2.1.toNat<je)/\
   ∀x y,x=iO q (P,Q,S,T,W,()) (bK r) (Sp.nodeAt q a.toNat).2.1.toNat m->y=iO q (P,Q,S,T,W,()) (bK r) (Sp.nodeAt q a.toNat).2.2.1.toNat m->
    x.2.1.length+y.2.1.length<=900/\(bif b then CQ x y else Rz x y)=iO q (P,Q,S,T,W,()) (bK r) a.toNat m:=λb e U=>by
   grind [aIC,aEH]
  refine⟨λy=>y.1.1=((Sp.nodeAt q a.toNat).1==3&&m),af (λg=>⟨rfl,?_⟩) λg=>⟨rfl,?_⟩,λy F=>af (λH=>?_) λH=>?_⟩
  · grind [Sp.nodeAt]
  · grind [Sp.nodeAt]
  .have hh:=F.symm.trans H;rw[aQm]at hh;have g:=aQv.1 hh.1;exact((aj6 R D (aAJ (ne_of g jI) (ne_of g jI))).trans (if_pos ⟨g,hh.2⟩)).symm
  .have n3:¬((Sp.nodeAt q a.toNat).1=3/\m=true):=λx=>by
    grind
   refine⟨λy=>y.1.1=((Sp.nodeAt q a.toNat).1==2&&!m),af (λg=>⟨rfl,?_⟩) λg=>⟨rfl,?_⟩,λz hz=>af (λI=>?_) λI=>?_⟩
   · grind [Sp.nodeAt]
   · grind [Sp.nodeAt]
   .have hh:=hz.symm.trans I;rw[aQm]at hh;have g:=aQv.1 hh.1;exact((aj6 R D (aAJ (ne_of g jI) (ne_of g jI))).trans ((if_neg n3).trans (if_pos ⟨g,kJ hh.2⟩))).symm
   .have n2:¬((Sp.nodeAt q a.toNat).1=2/\m=false):=λx=>by
     grind
    refine⟨λy=>y.1.1=(jS (Sp.nodeAt q a.toNat)&&(((Sp.nodeAt q a.toNat).1==6)==m)),?_,λw o=>af (λi=>?_) λi=>?_⟩
    .have ei:jS (Sp.nodeAt q a.toNat)=((Sp.nodeAt q a.toNat).1==6||(Sp.nodeAt q a.toNat).1==7):=rfl;refine af (λg=>af (λhm=>⟨rfl,?_⟩) λhm=>af (λE=>?_) λE=>⟨rfl,?_⟩) λg=>af (λE=>⟨rfl,?_⟩) λE=>⟨rfl,?_⟩
     · grind [Sp.nodeAt]
     · grind
     · grind [Sp.nodeAt]
     · grind [Sp.nodeAt]
     grind [Sp.nodeAt]
    .have hh:=o.symm.trans i;rw[aQm]at hh;obtain⟨L,M,N⟩:=two true hh.1 hh.2;refine⟨L,λr8 t=>⟨M,λr9 A=>?_⟩⟩;obtain⟨p4,p5⟩:=N _ _ t A
     grind
    .have hh:=o.symm.trans i;have nb:jS (Sp.nodeAt q a.toNat)=true->(((Sp.nodeAt q a.toNat).1==6)==m)=false:=λe=>jv;refine af (λg=>?_) λg6=>af (λg=>?_) λE=>?_
     .have e:jS (Sp.nodeAt q a.toNat)=true:=mg.2 (.inl (aQv.1 g));obtain⟨L,M,N⟩:=two false e (nb e);refine⟨L,λr8 t=>⟨M,λr9 A=>⟨trivial,?_⟩⟩⟩;exact(N _ _ t A).2
     .have e:jS (Sp.nodeAt q a.toNat)=true:=mg.2 (.inr (aQv.1 g));obtain⟨L,M,N⟩:=two false e (nb e);refine⟨L,λr8 t=>⟨M,λr9 A=>⟨trivial,?_⟩⟩⟩;exact(N _ _ t A).2
     .exact((aj6 R D (aAJ (aQl.1 g6) (aQl.1 E))).trans ((if_neg n3).trans (if_neg n2))).symm
theorem aa7:kM prog G Nz Qb:=
 aut (λn=>@Ue ⟨n⟩) (λn=>@Bg ⟨n⟩) (by rintro⟨q,b,⟨i,o,s,l,a,⟨⟩⟩,r,m,⟨⟩⟩ h;exact aRd _ h.2) (by rintro _ ⟨q,b,⟨i,o,s,l,a,⟨⟩⟩,r,m,⟨⟩⟩;rfl) (by rintro⟨q,b,⟨i,o,s,l,a,⟨⟩⟩,r,m,⟨⟩⟩ h;exact⟨_,h,aRZ _⟩) (by rintro _ ⟨q,b,⟨i,o,s,l,a,⟨⟩⟩,r,m,⟨⟩⟩;rfl) λn h=>@adz ⟨n⟩ h
theorem aAK(h:aN q=false):KU q f X m=(false,[],()):=by unfold KU;rw[h];rfl
theorem aAL(h:aN q=true):aN q=true/\0<=IntKind.i64.wrap ((q.length:Int)-1)/\IntKind.i64.wrap ((q.length:Int)-1)<(q.length:Int)/\KU q f X m=iO q f X (IntKind.i64.wrap ((q.length:Int)-1)).toNat m:=by
 grind [Sp.jF,eH,KU]
theorem ahB:OK Ew.e:=by
 refine dW [(Nz,.eff (EH Eu) Qb),lW.e] ⟨⟨aa7,Y3⟩,rG,⟨⟩⟩ H0 λq a b e g i r=>show Ew.goal (ahC q a b e g i r) (q,(a,b,e,g,i,()),r,())fromλB J=>?_
 dsimp only[Ew]at J ⊢;refine⟨fC,af (λh=>congrArg (·,()) (aAK (f:=(a,b,e,g,i,())) (X:=bK r) (m:=true) (kJ h)).symm) λh=>?_⟩;obtain⟨C,O,K,j⟩:=aAL (f:=(a,b,e,g,i,())) (X:=bK r) (m:=true) (dN h)
 grind
theorem adB:OK Bh.e:=by
 refine dW [(Nz,.eff (EH Eu) Qb),lW.e] ⟨⟨aa7,Y3⟩,rG,⟨⟩⟩ H0 λq a b e g i r=>show Bh.goal (adC q a b e g i r) (q,(a,b,e,g,i,()),r,())fromλB J=>?_
 dsimp only[Bh]at J ⊢;refine⟨fC,af (λh=>congrArg (·,()) (aAK (f:=(a,b,e,g,i,())) (X:=bK r) (m:=false) (kJ h)).symm) λh=>?_⟩;obtain⟨C,O,K,j⟩:=aAL (f:=(a,b,e,g,i,())) (X:=bK r) (m:=false) (dN h)
 grind
theorem aCc{a:List aW}{n:Nat}(H:n<l.length):zC a (l.take (n+1))=ku (zC a (l.take n)) (l.getD n ([],0,0,[],())).1 (l.getD n ([],0,0,[],())).2.1 (l.getD n ([],0,0,[],())).2.2.1 (l.getD n ([],0,0,[],())).2.2.2.1:=by
 grind [Sp.take_succ',zC]
theorem asP{a:List aW}:(zC a l).length<=a.length+l.length:=by
 induction l generalizing a with
 |nil=>exact aQp _
 |cons x r ih=>
  grind [am6,zC]
theorem amx:OK Iw.e:=by
 refine eP [zU.e,uN.e] ⟨abY,Af,⟨⟩⟩ apI (λ⟨f,e,_⟩ _=>⟨((Sp.edited f e.2.1,()),()),rfl⟩) λh j k o g t w=>show Iw.goal (amy h j k o g t w) ((h,j,k,o,g,()),(t,w,()),())fromλB J=>?_
 dsimp only[Iw]at J ⊢;refine⟨show g.length<=1000 from fC,?_⟩;refine bQ (λi(f:aG)=>((i,()),f,())) (λy=>y.1.1) (λ_ _=>rfl) w.length fC (λn f=>f=Sp.edited (h,j,k,o,g,()) (w.take n)) rfl (λI P n f H E next=>?_) λI P f E=>?_
 .subst E;have W:=asP (a:=g) (l:=w.take n);rw[aRe]at W;dsimp only;refine dH fC ⟨⟨fC,fC⟩,⟨fC,fC⟩,show(zC g (w.take n)).length<=1000 from fC,?_⟩;rintro⟨⟨⟨a,b,c,d,l,⟨⟩⟩,⟨⟩⟩,⟨⟩⟩ ⟨g1,g2,g3,g4,g5⟩;refine⟨rfl,next _ ?_⟩;obtain rfl:a=h:=g1;obtain rfl:b=j:=g2;obtain rfl:c=k:=g3;obtain rfl:d=o:=g4;unfold Sp.edited;rw[aCc H];exact congrArg (λz=>(a,b,c,d,z,())) g5
 grind
end Go.Proofs.Tryz
