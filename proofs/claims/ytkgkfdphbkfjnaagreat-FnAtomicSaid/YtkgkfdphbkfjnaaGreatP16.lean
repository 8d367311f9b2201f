import Derived.Test.YtkgkfdphbkfjnaaGreatP15
import Derived.Test.YtkgkfdphbkfjnaaGreatV7
import Derived.Test.YtkgkfdphbkfjnaaGreatV5
namespace Go.Proofs.Tryz
open Go Go.Fw Go.IntWalk Sp
theorem zT{fs:List aK}{a:List ig}{nx:Int}{d:List aF}(r:List dR)(nm:Sp.Bytes->Bool):∃out,(aj d&&aB (a,fs,nx,()))=true->fQ fs d r nm out:=by
 by_cases h:(aj d&&aB (a,fs,nx,()))=true
 .rw[auq]at h;obtain⟨aH,hl⟩:=OM h.1;obtain⟨out,ho⟩:=ND r nm (kC.1 h.1).1 hl (sJ h.2);exact⟨out,λ_=>ho⟩
 .exact⟨[],λh'=>(h h').elim⟩
abbrev zW:aF:=([],[],())
theorem akq{a b:Int}(h:(a !=b)=false):a=b:=by simpa using h
theorem acU{α β:Type}(g:α->β)(d:α)(l:List α){n:Nat}(h:n<l.length):(l.take n).map g++[g (l.getD n d)]=(l.take (n+1)).map g:=by rw[Sp.take_succ' l n d h,avd];rfl
theorem jw{d:List aF}(h:aj d=true):bI d=true/\d.length<=5:=⟨(kC.1 h).1,UG (kC.1 h).1⟩
theorem still_at{d:List aF}{aH:List (Int×Unit)}{nm:Sp.Bytes->Bool}{fs:List aK}{out:List dR}{k:Nat}
 (h:∀j,j<d.length->j<d.length->nm (Sp.nameOf d j)=true->Sp.lv aH j=k->Sp.sel fs (dW d j) (bD out)=iM out j):∀i,i<d.length->nm (Sp.nameOf d i)=true->Sp.lv aH i=k->Sp.sel fs (dW d i) (bD out)=iM out i:=λi hi=>h i hi hi
theorem akr:∀(l:List (Int×Unit)),0<l.length->∃m:Int,(∀x∈l,x.1<=m)/\(m,())∈l
 |[x],_=>⟨x.1,λy hy=>by rw[avk.1 hy];exact au7 _,avk.2 rfl⟩
 |x::y::r,_=>by
  obtain⟨m,h1,h2⟩:=akr (y::r) (by simp);by_cases h:x.1<=m
  .exact⟨m,λz hz=>by rcases au1.1 hz with rfl|hz;exact h;exact h1 z hz,auH _ h2⟩
  .exact⟨x.1,λz hz=>by rcases au1.1 hz with rfl|hz;exact au7 _;have:=h1 z hz;omega,auF⟩
theorem JQ:OK tJ.e:=by
 refine PA.ok mixed (au [Fv.e] ⟨ae5,trivial⟩) Yp (by kernel_rfl) (show∀s0 s1 s2 q a,tJ.goal (Wn s0 s1 s2 q a) ((s0,s1,s2,()),q,a,())from ?_);intro s0 fs nx q r hin hp;dsimp only[tJ]at hp ⊢;obtain⟨h1,h2,h3⟩:=hp;have hl:fs.length<=1000:=h1.2.1;obtain⟨I,μ,g0,g1⟩:=acT (K:=λz=>z=(Sp.sel fs q (bD r),())) (λf=>iO q f (bD r)) (λf:aK=>(f.1,())) (0,0,false,0,[],()) fs (q,r,(s0,fs,nx,()),()) (A:=λ_=>q.length<=1000/\bF r) (λ_ _=>⟨h2,h3⟩) (by omega) rfl;refine⟨I,μ,g0,λy hy=>?_⟩;have h:=g1 y hy;dsimp only at h ⊢;revert h;cases decide (y.1.2.1<(fs.length:Int))with
 |false=>exact id
 |true=>
  rintro⟨b,a,h⟩;refine⟨b,a,?_⟩;revert h;cases iO q (fs.getD (Int.toNat y.1.2.1) (0,0,false,0,[],())) (bD r)with
  |true=>exactλh=>⟨b,h.1,rfl,h.2.2⟩
  |false=>exactλh=>⟨rfl,h.2⟩
theorem Kw:OK yC.e:=by refine PA.ok mixed (au [] trivial) aiL (by kernel_rfl) (show∀list s,yC.goal (ag3 list s) (list,s,())from ?_);intro l s hin hp;dsimp only[yC]at hp ⊢;exact apj (K:=λr=>r=(dI l s,())) (λx:List UInt8×Unit=>x.1==s) ([],()) l _ hin.1.1 rfl
theorem Dp:OK qA.e:=by refine PA.ok mixed (au [] trivial) ae7 (by kernel_rfl) (show∀d,qA.goal (acV d) (d,())from ?_);intro d hin hp;dsimp only[qA]at hp ⊢;exact aks (K:=λr=>r=(fP d,())) (λx:aF=>(x.1,())) ([],[],()) d _ (by have hp:d.length<=1000:=hp;omega) rfl
theorem Ih:OK uM.e:=by refine PA.ok mixed (au [] trivial) ae8 (by kernel_rfl) (show∀d,uM.goal (acW d) (d,())from ?_);intro d hin hp;dsimp only[uM]at hp ⊢;exact aks (K:=λr=>r=(fP d,())) (λx:aF=>(x.1,())) ([],[],()) d _ (by have hp:d.length<=1000:=hp;omega) rfl
theorem UU:OK xQ.e:=by
 refine PA.ok mixed (au [su.e] ⟨EH,trivial⟩) Wp (by kernel_rfl) (show∀a b,xQ.goal (UW a b) (a,b,())from ?_);intro a b hin hp;dsimp only[xQ]at hp ⊢;have hlen:a.length<=maxLen:=hin.1.1;rw[maxLen_eq]at hlen;refine af (λh=>?_) λh=>?_
 .have h:(a.length:Int)≠b.length:=by simpa using h
  exact congrArg (·,()) (auD λe=>h (by rw[e])).symm
 .have h:(a.length:Int)=b.length:=by simpa using h
  refine iL a.length hlen (λn=>∀i,i<n->a.getD i oI=b.getD i oI) (λi hi=>by omega) (λI μ n hn hJ next=>?_) λI μ hJ=>(by dsimp only;exact dw (by omega) (by rw[auB (OU (by omega) hJ)]));dsimp only;have no:a.getD n oI≠b.getD n oI->(false,())=(decide (a=b),()):=λhne=>by rw[auD λe=>hne (by rw[e])]
  refine dn (by omega) ⟨⟨by omega,by omega⟩,⟨by omega,by omega⟩,af (λg=>no λe=>?_) λg=>⟨⟨by omega,by omega⟩,⟨by omega,by omega⟩,trivial,af (λg2=>no λe=>?_) λg2=>⟨rfl,next λi hi=>?_⟩⟩⟩
  .have g:¬(a.getD n oI).1=(b.getD n oI).1:=auu.1 (dQ g);exact g (by rw[e])
  .have g2:¬(a.getD n oI).2.1=(b.getD n oI).2.1:=fZ (dQ g2);exact g2 (by rw[e])
  .rcases auJ i n with h'|h'
   .exact hJ i h'
   .have:i=n:=by omega
    subst this;have g:(a.getD i oI).1=(b.getD i oI).1:=auE.1 (bP g);have g2:(a.getD i oI).2.1=(b.getD i oI).2.1:=fG (bP g2);exact aw4 g (aw4 g2 rfl)
theorem aav:OK Cm.e:=by
 refine XA.ok mixed (au [] trivial) acX (λ⟨l,_⟩ hp=>by obtain⟨m,h⟩:=akr l hp;exact⟨((m,()),()),h⟩) (by kernel_rfl) (show∀IA,Cm.goal (aaw IA) (IA,())from ?_);intro l hin hp;dsimp only[Cm]at hp ⊢;have hp:0<l.length:=hp;have hlen:l.length<=maxLen:=hin.1.1;rw[maxLen_eq]at hlen;refine⟨λ_=>True,af (λh=>by have:=fG h;omega) λh=>⟨rfl,trivial⟩,λ_ _=>⟨⟨by omega,by omega⟩,?_⟩⟩;refine⟨λy=>∃n:Nat,y.1.2.1=n/\1<=n/\n<=l.length/\(∀i,i<n->Sp.lv l i<=y.1.1)/\∃i,i<l.length/\Sp.lv l i=y.1.1,λy=>((l.length:Int)-y.1.2.1).toNat,⟨1,rfl,by omega,by omega,λi hi=>by rw[show i=0 by omega];exact au7 _,0,hp,rfl⟩,?_⟩;rintro⟨⟨m,_,⟨⟩⟩,⟨⟩⟩ ⟨n,rfl,n1,n2,h1,h2⟩;dsimp only at h1 h2 ⊢;refine af (λhc=>?_) λhc=>⟨λx hx=>?_,?_⟩
 .have hc:=fG hc;have w:IntKind.i64.wrap ((n:Int)+1)=((n+1:Nat):Int):=eP _ (by omega);rw[w];have e:(l.getD (Int.toNat (n:Int)) (0,())).1=Sp.lv l n:=rfl;rw[e];refine⟨⟨by omega,by omega⟩,rfl,⟨n+1,rfl,by omega,by omega,λi hi=>?_,?_⟩,by omega⟩
  .by_cases hi':i=n
   .subst hi';split<;>omega
   .have:=h1 i (by omega);split<;>omega
  .split
   .exact⟨n,by omega,rfl⟩
   .exact h2
 .have hc:=fZ hc;exact akn (p:=λz=>z<=m) (λi hi=>h1 i (by omega)) x hx
 .obtain⟨i,hi,e⟩:=h2;have:=Yq hi;rw[e]at this;exact this
theorem Yr:OK Ad.e:=by
 refine XA.ok mixed (au [Cm.e,yA.e] ⟨aav,Kv,trivial⟩) H0 (λ⟨d,_⟩ _=>⟨(((1000:Int),()),()),⟨au7 _,λaH hs hl i hi=>by have:=(hl.2.1 i hi).2;have:=(jw hs).2;show Sp.lv aH i<=1000;omega⟩⟩) (by kernel_rfl) (show∀d,Ad.goal (Yt d) (d,())from ?_);intro d hin hp;dsimp only[Ad]at hp ⊢;refine⟨hp,?_⟩;rintro⟨⟨aH,ok,⟨⟩⟩,⟨⟩⟩ ⟨e1,e2⟩;have e1:ok=aj d:=e1;have e2:ok=true->kF d aH:=e2;refine af (λh=>?_) λh=>af (λh2=>?_) λh2=>⟨?_,?_⟩
 .have h:ok=false:=dQ h;exact⟨by decide,λl hs=>by rw[← e1,h]at hs;cases hs⟩
 .have h2:(aH.length:Int)=0:=by simpa using h2
  have hl:=e2 (bP h);exact⟨by decide,λl hs hl' i hi=>by have:=hl.1;omega⟩
 .have h2:¬(aH.length:Int)=0:=by simpa using h2
  show 0<aH.length;omega
 .rintro⟨⟨m,⟨⟩⟩,⟨⟩⟩ ⟨g1,g2⟩;have hl:=e2 (bP h);have hlen:=(jw (e1▸bP h)).2;have g2:(m,())∈aH:=g2;refine⟨?_,λl hs hl' i hi=>?_⟩
  .obtain⟨i,hi,e⟩:=au6 g2;have hi':i<d.length:=by rw[← hl.1];exact hi
   have:=(hl.2.1 i hi').2;have e3:Sp.lv aH i=m:=by unfold Sp.lv;rw[aur,auw hi,e];rfl
   show m<=1000;omega
  .rw[Yu hl' hl];exact g1 _ (Yq (by rw[hl.1];exact hi))
theorem Lu:OK vM.e:=by
 refine XA.ok mixed (au [ve.e] ⟨FY,trivial⟩) aax (λ⟨d,_⟩ _=>⟨(((1000:Int),()),()),⟨au7 _,λaH hs hl i hi=>by have:=(hl.2.1 i hi).2;have:=(jw hs).2;show Sp.lv aH i<=1000;omega⟩⟩) (by kernel_rfl) (show∀d,vM.goal (Yv d) (d,())from ?_);intro d hin hp;dsimp only[vM]at hp ⊢;refine⟨hp,?_⟩;rintro⟨⟨aH,ok,⟨⟩⟩,⟨⟩⟩ ⟨e1,e2,e3⟩;have e1:ok=aj d:=e1;have e2:ok=true->kF d aH:=e2;have e3:ok=false->aH=[]:=e3;have hlen:aH.length<=5/\∀i,i<aH.length->Sp.lv aH i<=1000:=by
  cases hk:ok with
  |false=>rw[e3 hk];exact⟨by decide,λi hi=>by simp at hi⟩
  |true=>have hl:=e2 hk;have h5:=(jw (e1▸hk)).2;exact⟨by rw[hl.1];exact h5,λi hi=>by have:=(hl.2.1 i (by rw[← hl.1];exact hi)).2;omega⟩
 refine⟨λy=>∃n:Nat,y.1.2.1=n/\n<=aH.length/\y.1.1<=1000/\∀i,i<n->Sp.lv aH i<=y.1.1,λy=>((aH.length:Int)-y.1.2.1).toNat,⟨0,rfl,by omega,by decide,λi hi=>by omega⟩,?_⟩;rintro⟨⟨m,_,⟨⟩⟩,⟨⟩⟩ ⟨n,rfl,n2,hm,h1⟩;dsimp only at hm h1 ⊢;have e:(aH.getD (Int.toNat (n:Int)) (0,())).1=Sp.lv aH n:=rfl;rw[e];refine af (λhc=>?_) λhc=>?_
 .have hc:=fG hc;have w:IntKind.i64.wrap ((n:Int)+1)=((n+1:Nat):Int):=eP _ (by omega);rw[w];have asa:=hlen.2 n (by omega);refine⟨⟨by omega,by omega⟩,af (λg=>⟨⟨by omega,by omega⟩,rfl,⟨n+1,rfl,by omega,asa,λi hi=>?_⟩,by dsimp only;omega⟩) λg=>⟨rfl,⟨n+1,rfl,by omega,hm,λi hi=>?_⟩,by dsimp only;omega⟩⟩
  .have g:=fG g;by_cases hi':i=n
   .subst hi';exact au7 _
   .have:=h1 i (by omega);dsimp only;omega
  .have g:=fZ g;by_cases hi':i=n
   .subst hi';dsimp only;omega
   .exact h1 i (by omega)
 .have hc:=fZ hc;refine⟨hm,λl hs hl' i hi=>?_⟩;have hl:=e2 (e1.trans hs);rw[Yu hl' hl];exact h1 i (by rw[← hl.1]at hi;omega)
theorem MN:OK wY.e:=by
 refine XA.ok mixed (au [tK.e,yT.e,Ad.e,oJ.e,jh.e,lq.e,yA.e] ⟨JO,Wi,Yr,Gm,qg,wF,Kv,trivial⟩) acY (λ⟨(a,fs,nx,_),d,r,names,_⟩ _=>by obtain⟨out,h⟩:=zT (fs:=fs) (a:=a) (nx:=nx) (d:=d) r (dI names);exact⟨(((out,0,(aj d&&aB (a,fs,nx,())),()),())),⟨rfl,h⟩⟩) (by kernel_rfl) (show∀s0 s1 s2 d BQ names,wY.goal (aay s0 s1 s2 d BQ names) ((s0,s1,s2,()),d,BQ,names,())from ?_);intro a fs nx d r names hin hp;dsimp only[wY]at hp ⊢;obtain⟨hs,hd,hr⟩:bg (a,fs,nx,())/\aC d/\bF r:=hp;refine⟨hd,?_⟩;rintro⟨⟨aH,ok0,⟨⟩⟩,⟨⟩⟩ ⟨e1,e2⟩;have e1:ok0=aj d:=e1;have e2:ok0=true->kF d aH:=e2;refine⟨λ_=>ok0=true/\aB (a,fs,nx,())=true,af (λh=>?_) λh=>⟨trivial,af (λh2=>?_) λh2=>⟨rfl,bP h,bP h2⟩⟩,?_⟩
 .have h:ok0=false:=dQ h;have hz:(aj d&&aB (a,fs,nx,()))=false:=by rw[← e1,h];rfl
  exact⟨hz.symm,λh=>by cases h⟩
 .have h2:aB (a,fs,nx,())=false:=dQ h2;have hz:(aj d&&aB (a,fs,nx,()))=false:=by rw[h2,au5]
  exact⟨hz.symm,λh=>by cases h⟩
 rintro y3 ⟨hk,hst⟩;have EZ:aj d=true:=e1▸hk;have hz:(aj d&&aB (a,fs,nx,()))=true:=by rw[EZ,hst];rfl
 obtain⟨hok,hlen⟩:=jw EZ;have hl:kF d aH:=e2 hk;have hf:=sJ hst;have hf:Sp.distinct fs:=hf;have hfs:fs.length<=1000:=hs.2.1;refine dM (λi(x:List dR)=>(((),i,()),x,())) (λy=>y.1.2.1) (λ_ _=>rfl) d.length (by omega) (λn l=>l=(d.take n).map (qQ r (dI names))) rfl (λI μ n l hn hJ next=>?_) λI μ l hJ=>?_
 .subst hJ;have hl:((d.take n).map (qQ r (dI names))).length<=n:=by rw[auG,aut];omega
  have step:=acU (qQ r (dI names)) zW d hn;dsimp only;refine dn (by omega) ⟨⟨by omega,by omega⟩,trivial,af (λh=>⟨hr,by rw[bY];simp only[auv,auz];omega,rfl,next _ ?_⟩) λh=>⟨by rw[bY];simp only[auv,auz];omega,rfl,next _ ?_⟩⟩
  .rw[← step];have h:dI names (d.getD n zW).1=false:=dQ h;unfold qQ;rw[h];rfl
  .rw[← step];have h:dI names (d.getD n zW).1=true:=bP h;unfold qQ;rw[h];rfl
 subst hJ;rw[auO];dsimp only;refine dw (by omega) ⟨λy=>∃k:Nat,y.1.2.1=k/\nS fs d r (dI names) aH k y.2.1,λy=>(1002-y.1.2.1).toNat,⟨0,rfl,KR hok hl⟩,?_⟩;rintro⟨⟨ps,_,⟨⟩⟩,out,⟨⟩⟩ ⟨k,rfl,A⟩;dsimp only at A ⊢;refine⟨hd,?_⟩;rintro⟨⟨m,⟨⟩⟩,⟨⟩⟩ ⟨m1,m2⟩;have m1:m<=1000:=m1;have m2:∀i,i<d.length->Sp.lv aH i<=m:=m2 aH EZ hl;refine af (λhc=>?_) λhc=>⟨hz.symm,λ_=>Sp.at_end hok hl A λi hi=>by have:=m2 i hi;have hc:¬(k:Int)<=m:=fZ hc;omega⟩;have hc:(k:Int)<=m:=fG hc;refine⟨λy=>nS fs d r (dI names) aH k y.2.1/\(y.1.2.1=false->∀i,i<d.length->dI names (Sp.nameOf d i)=true->Sp.lv aH i=k->Sp.sel fs (dW d i) (bD y.2.1)=iM y.2.1 i),λy=>Sp.room fs.length y.2.1*2+(if y.1.2.1=true then 1 else 0),⟨A,λh=>by cases h⟩,?_⟩;rintro⟨⟨ps2,ch,⟨⟩⟩,Yw,⟨⟩⟩ ⟨A2,st2⟩;dsimp only at A2 st2 ⊢;have wk:IntKind.i64.wrap ((k:Int)+1)=((k+1:Nat):Int):=eP _ (by omega);refine af (λhch=>?_) λhch=>⟨rfl,⟨k+1,wk,Sp.at_next hok A2 (st2 hch)⟩,by rw[wk];dsimp only;omega⟩;subst hch;refine dM (λi(x:Bool×List dR)=>((x.1,i,()),x.2,())) (λy=>y.1.2.1) (λ_ _=>rfl) d.length (by omega) (λi x=>Ky fs d r (dI names) aH k Yw i x.1 x.2) (s0:=(false,Yw)) ⟨A2,λh=>(by cases h),λ_=>⟨rfl,λj hj=>by omega⟩⟩ (λI μ i x hi hJ next=>?_) λI μ x hJ=>?_
 .obtain⟨c,Gp⟩:=x;have A3:=hJ.1;have ol:Gp.length=d.length:=A3.order.1;have hsm:=Q8 A3 (by omega) hfs hr;dsimp only;rw[auA];refine dn (by omega) ⟨⟨by omega,by omega⟩,⟨by omega,by rw[hl.1];omega⟩,af (λh=>⟨rfl,next (c,Gp) (BR hJ λ_ h'=>?_)⟩) λh=>⟨trivial,af (λh2=>⟨rfl,next (c,Gp) (BR hJ λh'=>?_)⟩) λh2=>⟨⟨hs,mZ hd hi,hsm⟩,⟨by omega,by omega⟩,by omega,trivial,af (λh3=>⟨⟨by omega,by omega⟩,by omega,rfl,next (true,_) (acZ hok hl hf hJ hi (bP h2) ?_ ?_)⟩) λh3=>⟨rfl,next (c,Gp) (BR hJ λ_ _=>?_)⟩⟩⟩⟩
  .exact(awD.1 h h').elim
  .have h2:dI names (Sp.nameOf d i)=false:=dQ h2;rw[h2]at h';cases h'
  .exact akq h
  .exact fZ (dQ h3)
  .exact fG (bP h3)
 .obtain⟨c,Gp⟩:=x;dsimp only;obtain⟨A3,c1,c2⟩:=hJ;refine dw (by omega) ⟨rfl,⟨A3,λhc=>still_at (c2 hc).2⟩,?_⟩;cases c with
  |true=>have:=c1 rfl;dsimp only at this ⊢;simp only[if_true];omega
  |false=>have:=(c2 rfl).1;dsimp only at this ⊢;rw[this];simp
theorem Yx:OK Af.e:=by
 refine XA.ok mixed (au [su.e,tJ.e,vM.e,yC.e,oK.e,jS.e,ve.e] ⟨EH,JQ,Lu,Kw,Gn,qK,FY,trivial⟩) aaz (λ⟨(a,fs,nx,_),d,r,names,_⟩ _=>by obtain⟨out,h⟩:=zT (fs:=fs) (a:=a) (nx:=nx) (d:=d) r (dI names);exact⟨(((out,(aj d&&aB (a,fs,nx,())),()),())),⟨rfl,h⟩⟩) (by kernel_rfl) (show∀s0 s1 s2 d a names,Af.goal (Yy s0 s1 s2 d a names) ((s0,s1,s2,()),d,a,names,())from ?_);intro a fs nx d r names hin hp;dsimp only[Af]at hp ⊢;obtain⟨hs,hd,hr⟩:bg (a,fs,nx,())/\aC d/\bF r:=hp;refine⟨hd,?_⟩;rintro⟨⟨aH,ok0,⟨⟩⟩,⟨⟩⟩ ⟨e1,e2,_⟩;have e1:ok0=aj d:=e1;have e2:ok0=true->kF d aH:=e2;refine⟨λ_=>ok0=true/\aB (a,fs,nx,())=true,af (λh=>?_) λh=>⟨trivial,af (λh2=>?_) λh2=>⟨rfl,bP h,bP h2⟩⟩,?_⟩
 .have h:ok0=false:=dQ h;have hz:(aj d&&aB (a,fs,nx,()))=false:=by rw[← e1,h];rfl
  exact⟨hz.symm,λh=>by cases h⟩
 .have h2:aB (a,fs,nx,())=false:=dQ h2;have hz:(aj d&&aB (a,fs,nx,()))=false:=by rw[h2,au5]
  exact⟨hz.symm,λh=>by cases h⟩
 rintro y3 ⟨hk,hst⟩;have EZ:aj d=true:=e1▸hk;have hz:(aj d&&aB (a,fs,nx,()))=true:=by rw[EZ,hst];rfl
 obtain⟨hok,hlen⟩:=jw EZ;have hl:kF d aH:=e2 hk;have hf:=sJ hst;have hf:Sp.distinct fs:=hf;have hfs:fs.length<=1000:=hs.2.1;refine dM (λi(x:List dR)=>(((),i,()),x,())) (λy=>y.1.2.1) (λ_ _=>rfl) d.length (by omega) (λn l=>l=(d.take n).map (qQ r (dI names))) rfl (λI μ n l hn hJ next=>?_) λI μ l hJ=>?_
 .subst hJ;have hl:((d.take n).map (qQ r (dI names))).length<=n:=by rw[auG,aut];omega
  have step:=acU (qQ r (dI names)) zW d hn;dsimp only;refine dn (by omega) ⟨⟨by omega,by omega⟩,⟨by omega,by omega⟩,hr,trivial,af (λh=>⟨by rw[bY];simp only[auv,auz];omega,rfl,next _ ?_⟩) λh=>⟨by rw[bY];simp only[auv,auz];omega,rfl,next _ ?_⟩⟩
  .rw[← step];have h:dI names (d.getD n zW).1=true:=h;unfold qQ;rw[h];rfl
  .rw[← step];have h:dI names (d.getD n zW).1=false:=h;unfold qQ;rw[h];rfl
 subst hJ;rw[auO];dsimp only;refine dw (by omega) ⟨λy=>∃k:Nat,y.1.1=k/\nS fs d r (dI names) aH k y.2.1,λy=>(1002-y.1.1).toNat,⟨0,rfl,KR hok hl⟩,?_⟩;rintro⟨⟨_,⟨⟩⟩,out,⟨⟩⟩ ⟨k,rfl,A⟩;dsimp only at A ⊢;refine⟨hd,?_⟩;rintro⟨⟨m,⟨⟩⟩,⟨⟩⟩ ⟨m1,m2⟩;have m1:m<=1000:=m1;have m2:∀i,i<d.length->Sp.lv aH i<=m:=m2 aH EZ hl;refine af (λhc=>?_) λhc=>⟨hz.symm,λ_=>Sp.at_end hok hl A λi hi=>by have:=m2 i hi;have hc:¬(k:Int)<=m:=fZ hc;omega⟩;have hc:(k:Int)<=m:=fG hc;refine⟨λy=>nS fs d r (dI names) aH k y.2.1/\(y.1.1=false->∀i,i<d.length->dI names (Sp.nameOf d i)=true->Sp.lv aH i=k->Sp.sel fs (dW d i) (bD y.2.1)=iM y.2.1 i),λy=>Sp.room fs.length y.2.1*2+(if y.1.1=true then 1 else 0),⟨A,λh=>by cases h⟩,?_⟩;rintro⟨⟨ch,⟨⟩⟩,Yw,⟨⟩⟩ ⟨A2,st2⟩;dsimp only at A2 st2 ⊢;have wk:IntKind.i64.wrap ((k:Int)+1)=((k+1:Nat):Int):=eP _ (by omega);refine af (λhch=>?_) λhch=>⟨rfl,⟨k+1,wk,Sp.at_next hok A2 (st2 hch)⟩,by rw[wk];dsimp only;omega⟩;subst hch;refine dM (λi(x:Bool×List dR)=>((x.1,i,()),x.2,())) (λy=>y.1.2.1) (λ_ _=>rfl) d.length (by omega) (λi x=>Ky fs d r (dI names) aH k Yw i x.1 x.2) (s0:=(false,Yw)) ⟨A2,λh=>(by cases h),λ_=>⟨rfl,λj hj=>by omega⟩⟩ (λI μ i x hi hJ next=>?_) λI μ x hJ=>?_
 .obtain⟨c,Gp⟩:=x;have A3:=hJ.1;have ol:Gp.length=d.length:=A3.order.1;have hsm:=Q8 A3 (by omega) hfs hr;dsimp only;rw[auA];refine dn (by omega) ⟨⟨by omega,by rw[hl.1];omega⟩,af (λh=>⟨rfl,next (c,Gp) (BR hJ λ_ h'=>?_)⟩) λh=>⟨⟨by omega,by omega⟩,trivial,af (λh2=>⟨rfl,next (c,Gp) (BR hJ λh'=>?_)⟩) λh2=>⟨⟨by omega,by omega⟩,⟨hs,mZ hd hi,hsm⟩,⟨by omega,by omega⟩,by omega,trivial,af (λh3=>⟨⟨by omega,by omega⟩,by omega,rfl,next (true,_) (acZ hok hl hf hJ hi (bP h2) ?_ ?_)⟩) λh3=>⟨rfl,next (c,Gp) (BR hJ λ_ _=>?_)⟩⟩⟩⟩
  .exact(awD.1 h h').elim
  .have h2:dI names (Sp.nameOf d i)=false:=dQ h2;rw[h2]at h';cases h'
  .exact akq h
  .exact fZ (dQ h3)
  .exact fG (bP h3)
 .obtain⟨c,Gp⟩:=x;dsimp only;obtain⟨A3,c1,c2⟩:=hJ;refine dw (by omega) ⟨rfl,⟨A3,λhc=>still_at (c2 hc).2⟩,?_⟩;cases c with
  |true=>have:=c1 rfl;dsimp only at this ⊢;simp only[if_true];omega
  |false=>have:=(c2 rfl).1;dsimp only at this ⊢;rw[this];simp
theorem ag4:OK Hq.e:=by
 refine XA.ok mixed (au [su.e,tJ.e,vM.e,jS.e,ve.e] ⟨EH,JQ,Lu,qK,FY,trivial⟩) aiM (λ⟨(a,fs,nx,_),d,_⟩ _=>by obtain⟨out,h⟩:=zT (fs:=fs) (a:=a) (nx:=nx) (d:=d) [] (λ_=>true);exact⟨(((out,0,(aj d&&aB (a,fs,nx,())),()),())),⟨rfl,h⟩⟩) (by kernel_rfl) (show∀s0 s1 s2 d,Hq.goal (ag5 s0 s1 s2 d) ((s0,s1,s2,()),d,())from ?_);intro a fs nx d hin hp;dsimp only[Hq]at hp ⊢;obtain⟨hs,hd⟩:bg (a,fs,nx,())/\aC d:=hp;have hr:bF []:=⟨by decide,λx hx=>by cases hx⟩;refine⟨hd,?_⟩;rintro⟨⟨aH,ok0,⟨⟩⟩,⟨⟩⟩ ⟨e1,e2,_⟩;have e1:ok0=aj d:=e1;have e2:ok0=true->kF d aH:=e2;refine⟨λ_=>ok0=true/\aB (a,fs,nx,())=true,af (λh=>?_) λh=>⟨trivial,af (λh2=>?_) λh2=>⟨rfl,bP h,bP h2⟩⟩,?_⟩
 .have h:ok0=false:=dQ h;have hz:(aj d&&aB (a,fs,nx,()))=false:=by rw[← e1,h];rfl
  exact⟨hz.symm,λh=>by cases h⟩
 .have h2:aB (a,fs,nx,())=false:=dQ h2;have hz:(aj d&&aB (a,fs,nx,()))=false:=by rw[h2,au5]
  exact⟨hz.symm,λh=>by cases h⟩
 rintro y3 ⟨hk,hst⟩;have EZ:aj d=true:=e1▸hk;have hz:(aj d&&aB (a,fs,nx,()))=true:=by rw[EZ,hst];rfl
 obtain⟨hok,hlen⟩:=jw EZ;have hl:kF d aH:=e2 hk;have hf:=sJ hst;have hf:Sp.distinct fs:=hf;have hfs:fs.length<=1000:=hs.2.1;refine dM (λi(x:List dR)=>(((),i,()),x,())) (λy=>y.1.2.1) (λ_ _=>rfl) d.length (by omega) (λn l=>l=(d.take n).map (qQ [] (λ_=>true))) rfl (λI μ n l hn hJ next=>?_) λI μ l hJ=>?_
 .subst hJ;have hl:((d.take n).map (qQ [] (λ_=>true))).length<=n:=by rw[auG,aut];omega
  have step:=acU (qQ [] (λ_=>true)) zW d hn;dsimp only;refine dn (by omega) ⟨⟨by omega,by omega⟩,by rw[bY];simp only[auv,auz];omega,rfl,next _ ?_⟩;rw[← step];rfl
 subst hJ;rw[auO];dsimp only;refine dw (by omega) ⟨λy=>∃k:Nat,y.1.2.1=k/\nS fs d [] (λ_=>true) aH k y.2.1,λy=>(1002-y.1.2.1).toNat,⟨0,rfl,KR hok hl⟩,?_⟩;rintro⟨⟨ps,_,⟨⟩⟩,out,⟨⟩⟩ ⟨k,rfl,A⟩;dsimp only at A ⊢;refine⟨hd,?_⟩;rintro⟨⟨m,⟨⟩⟩,⟨⟩⟩ ⟨m1,m2⟩;have m1:m<=1000:=m1;have m2:∀i,i<d.length->Sp.lv aH i<=m:=m2 aH EZ hl;refine af (λhc=>?_) λhc=>⟨hz.symm,λ_=>Sp.at_end hok hl A λi hi=>by have:=m2 i hi;have hc:¬(k:Int)<=m:=fZ hc;omega⟩;have hc:(k:Int)<=m:=fG hc;refine⟨λy=>nS fs d [] (λ_=>true) aH k y.2.1/\(y.1.2.1=false->∀i,i<d.length->true=true->Sp.lv aH i=k->Sp.sel fs (dW d i) (bD y.2.1)=iM y.2.1 i),λy=>Sp.room fs.length y.2.1*2+(if y.1.2.1=true then 1 else 0),⟨A,λh=>by cases h⟩,?_⟩;rintro⟨⟨ps2,ch,⟨⟩⟩,Yw,⟨⟩⟩ ⟨A2,st2⟩;dsimp only at A2 st2 ⊢;have wk:IntKind.i64.wrap ((k:Int)+1)=((k+1:Nat):Int):=eP _ (by omega);refine af (λhch=>?_) λhch=>⟨rfl,⟨k+1,wk,Sp.at_next hok A2 (st2 hch)⟩,by rw[wk];dsimp only;omega⟩;subst hch;refine dM (λi(x:Bool×List dR)=>((x.1,i,()),x.2,())) (λy=>y.1.2.1) (λ_ _=>rfl) d.length (by omega) (λi x=>Ky fs d [] (λ_=>true) aH k Yw i x.1 x.2) (s0:=(false,Yw)) ⟨A2,λh=>(by cases h),λ_=>⟨rfl,λj hj=>by omega⟩⟩ (λI μ i x hi hJ next=>?_) λI μ x hJ=>?_
 .obtain⟨c,Gp⟩:=x;have A3:=hJ.1;have ol:Gp.length=d.length:=A3.order.1;have hsm:=Q8 A3 (by omega) hfs hr;dsimp only;rw[auA];refine dn (by omega) ⟨⟨by omega,by rw[hl.1];omega⟩,af (λh=>⟨rfl,next (c,Gp) (BR hJ λ_ h'=>?_)⟩) λh=>⟨⟨by omega,by omega⟩,⟨hs,mZ hd hi,hsm⟩,⟨by omega,by omega⟩,by omega,trivial,af (λh3=>⟨⟨by omega,by omega⟩,by omega,rfl,next (true,_) (acZ hok hl hf hJ hi rfl ?_ ?_)⟩) λh3=>⟨rfl,next (c,Gp) (BR hJ λ_ _=>?_)⟩⟩⟩
  .exact(awD.1 h h').elim
  .exact akq h
  .exact fZ (dQ h3)
  .exact fG (bP h3)
 .obtain⟨c,Gp⟩:=x;dsimp only;obtain⟨A3,c1,c2⟩:=hJ;refine dw (by omega) ⟨rfl,⟨A3,λhc=>still_at (nm:=λ_=>true) (c2 hc).2⟩,?_⟩;cases c with
  |true=>have:=c1 rfl;dsimp only at this ⊢;simp only[if_true];omega
  |false=>have:=(c2 rfl).1;dsimp only at this ⊢;rw[this];simp
end Go.Proofs.Tryz
