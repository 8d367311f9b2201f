import Derived.Test.YtkgkfdphbkfjnaaGreatP23
import Derived.Test.YtkgkfdphbkfjnaaGreatL2
import Derived.Test.YtkgkfdphbkfjnaaGreatSp
namespace Go.Proofs.Tryz
open Go Go.Fw Go.IntWalk Sp
theorem IK:OK qB.e:=by
 refine XA.ok mixed (au [wL.e] ⟨JB,trivial⟩) Ve (λ⟨d,_⟩ _=>⟨((d,()),()),rfl⟩) (by kernel_rfl) (show∀d,qB.goal (TA d) (d,())from ?_);intro d hin hp;dsimp only[qB]at hp ⊢;have hp:aC d:=hp;have hlen:d.length<=1000:=hp.1;refine dM (λi(x:List aF)=>(((),i,()),x,())) (λy=>y.1.2.1) (λ_ _=>rfl) d.length (by omega) (λn l=>l=d.take n) (by simp) (λI μ n l hn hJ next=>?_) λI μ l hJ=>?_
 .subst hJ;have hl:(d.take n).length<=n:=by rw[aut];omega
  dsimp only;refine dn (by omega) ⟨⟨by omega,by omega⟩,mZ hp hn,by rw[bY];simp only[auv,auz];omega,rfl,next _ ?_⟩;exact(Sp.take_succ' d n ([],[],()) hn).symm
 .subst hJ;dsimp only;refine dw (by omega) ?_;rw[auO]
theorem Ph:OK zn.e:=by refine PA.ok mixed (au [] trivial) H0 (by kernel_rfl) (show∀o0 o1 p10 p11,zn.goal (adf o0 o1 p10 p11) ((o0,o1,()),(p10,p11,()),())from ?_);intro nm q x0 x1 hin hp;dsimp only[zn]at hp ⊢;exact congrArg (·,()) (apu nm x0)
theorem zY:OK iJ.e:=by refine PA.ok mixed (au [zn.e] ⟨Ph,trivial⟩) BI (by kernel_rfl) (show∀s mQ anc,iJ.goal (zZ s mQ anc) (s,((mQ,anc,()),()),())from ?_);intro d nm q hin hp;dsimp only[iJ]at hp ⊢;exact YN (K:=λr=>r=(Sp.findAt (λo:aF=>Op.bytesLess nm o.1) d,())) (λo:aF=>Op.bytesLess nm o.1) ([],[],()) d _ hin.1.1 rfl
theorem Y8{d:List aF}{x:aF}(h:(bI d&&bI (jR d x))=false):cZ d x=(d,false):=by unfold cZ;rw[h];rfl
theorem ahn{d:List aF}{x:aF}(h:(bI d&&bI (jR d x))=true):cZ d x=(jR d x,true):=by unfold cZ;rw[h];rfl
theorem aqC{d:List aF}{x:aF}(h:(cZ d x).2=true):bI d=true/\bI (jR d x)=true/\cZ d x=(jR d x,true):=by
 cases hb:bI d&&bI (jR d x)with
 |false=>rw[Y8 hb]at h;cases h
 |true=>have:=hb;rw[auq]at this;exact⟨this.1,this.2,ahn hb⟩
theorem al8{d r:List aF}{x:aF}(e:bI d=true->r=jR d x):(bI d=false->(d,false)=cZ d x)/\(bI d=true->bI r=false->(d,false)=cZ d x)/\(bI d=true->bI r=true->(r,true)=cZ d x):=
 ⟨λh=>(Y8 (by rw[h];rfl)).symm,λh h'=>(Y8 (by rw[← e h,h',au5])).symm,λh h'=>by rw[ahn (by rw[← e h,h,h'];rfl),e h]⟩
theorem Y9{d:List aF}{x:aF}(h1:aC d)(h2:d.length<=900)(h3:x.2.1.length<=1000):aC (cZ d x).1:=by
 cases hb:bI d&&bI (jR d x)with
 |false=>rw[Y8 hb];exact h1
 |true=>rw[ahn hb];exact afy h1 (by omega) h3
theorem BJ{α β:Type}{a:α}{b:β}{p:α×β}(h:(a,b)=p):a=p.1/\b=p.2:=by subst h;exact⟨rfl,rfl⟩
theorem aho:OK Hu.e:=by
 refine XA.ok mixed (au [o9.e,(xB,.eff (DC qc) Dy),iJ.e,zn.e,wL.e,A7.e,qB.e] ⟨Eg,⟨Nu,LY⟩,zY,Ph,JB,MC,IK,trivial⟩) aiU (λ⟨d,x,_⟩ _=>⟨(((cZ d x).1,(cZ d x).2,()),()),⟨rfl,rfl⟩⟩) (by kernel_rfl) (show∀d x0 x1,Hu.goal (ahp d x0 x1) (d,(x0,x1,()),())from ?_);intro d x0 x1 hin hp;dsimp only[Hu]at hp ⊢;obtain⟨h1,h2,h3⟩:aC d/\d.length<=900/\x1.length<=1000:=hp;refine⟨h1,?_⟩;rintro⟨⟨o,⟨⟩⟩,⟨⟩⟩ e;obtain rfl:o=d:=e;have fin:∀r:List aF,(bI o=true->r=jR o (x0,x1,()))->aC r->(bif !bI o then aC o/\∀r1:(List aF×Unit)×Unit,r1.1.1=o->(r1.1.1=(cZ o (x0,x1,())).1/\false=(cZ o (x0,x1,())).2)
  else aC r/\bif !bI r then aC o/\∀r1:(List aF×Unit)×Unit,r1.1.1=o->(r1.1.1=(cZ o (x0,x1,())).1/\false=(cZ o (x0,x1,())).2)else(r=(cZ o (x0,x1,())).1/\true=(cZ o (x0,x1,())).2)):=λr hr hs=>by
  obtain⟨z1,z2,z3⟩:=al8 hr;refine af (λh=>⟨h1,λr1 hr1=>?_⟩) λh=>⟨hs,af (λh'=>⟨h1,λr1 hr1=>?_⟩) λh'=>BJ (z3 (bP h) (bP h'))⟩
  .rw[hr1];exact BJ (z1 (dQ h))
  .rw[hr1];exact BJ (z2 (bP h) (dQ h'))
 refine⟨trivial,af (λhc=>?_) λhc=>⟨trivial,?_⟩⟩
 .have hc:=fG hc;rcases pX o x0 with⟨e,_⟩|⟨n,hn,e,he,_⟩
  .omega
  .rw[e,auA];dsimp only;refine⟨h3,⟨by omega,by omega⟩,hn,h1,fin _ (λhd=>aqD hd hn he) ⟨by rw[auR];exact h1.1,λy hy=>?_⟩⟩;rcases aws hy with hy|rfl
   .exact h1.2 y hy
   .exact h3
 .have hc:=fZ hc;have hno:∀y∈o,y.1≠x0:=by
   rcases pX o x0 with⟨_,h⟩|⟨n,hn,e,_⟩
   .exact h
   .omega
  have sm:∀k,aC (o.take k++([(x0,x1,())]++o.drop k)):=λk=>by
   refine⟨by rw[auy,auy,aut,au2,awH];omega,λy hy=>?_⟩;rcases auL.1 hy with hy|hy
   .exact h1.2 y (avV hy)
   .rcases au1.1 hy with rfl|hy
    .exact h3
    .exact h1.2 y (awr hy)
  dsimp only;rcases Pj (λo:aF=>Op.bytesLess x0 o.1) ([],[],()) o with⟨g,hg⟩|⟨k,hk,g,gk,hlt⟩
  .rw[g];refine dn (by decide) ⟨h3,⟨by omega,by omega,h1.1,rfl⟩,λr5 QD=>⟨h1,?_⟩⟩;rw[auA]at QD;rw[QD];exact fin _ (λhd=>al9 hd hno (auI _) (λi hi=>hg i hi) λh=>(by omega)) (sm _)
  .rw[g];refine dw (by omega) ⟨h3,⟨by omega,by omega,h1.1,rfl⟩,λr5 QD=>⟨h1,?_⟩⟩;rw[auA]at QD;rw[QD];exact fin _ (λhd=>al9 hd hno (by omega) (λi hi=>hlt i hi) λ_=>gk) (sm _)
theorem ahq:OK Hw.e:=by
 refine XA.ok mixed (au [sD.e,oZ.e] ⟨EI,Ef,trivial⟩) aiV (λ⟨d,x,_⟩ _=>⟨(((cZ d x).1,(cZ d x).2,()),()),⟨rfl,rfl⟩⟩) (by kernel_rfl) (show∀d x0 x1,Hw.goal (ahr d x0 x1) (d,(x0,x1,()),())from ?_);intro d x0 x1 hin hp;dsimp only[Hw]at hp ⊢;obtain⟨h1,h2,h3⟩:aC d/\d.length<=900/\x1.length<=1000:=hp;refine⟨h1,af (λh=>⟨h1,by rw[Y8 (by rw[dQ h];rfl)];exact⟨rfl,rfl⟩⟩) λhd=>?_⟩;have hd:=bP hd;have fin:∀r:List aF,r=jR d (x0,x1,())->aC r/\(bif !bI r then aC d/\(d=(cZ d (x0,x1,())).1/\false=(cZ d (x0,x1,())).2)else aC r/\(r=(cZ d (x0,x1,())).1/\true=(cZ d (x0,x1,())).2)):=λr hr=>by
  have hs:aC r:=by rw[hr];exact afy h1 (by omega) h3
  obtain⟨_,z2,z3⟩:=al8 (d:=d) (r:=r) (x:=(x0,x1,())) λ_=>hr;exact⟨hs,af (λh=>⟨h1,BJ (z2 hd (dQ h))⟩) λh=>⟨hs,BJ (z3 hd (bP h))⟩⟩
 refine⟨λy=>∃n:Nat,y.1.2.2.1=n/\n<=d.length/\y.1.2.1=decide (ni d x0<n)/\y.2.1=uy d (x0,x1,()) n,λy=>(d.length-y.1.2.2.1).toNat,⟨0,rfl,auX _,(auD (axd _)).symm,(if_pos (auX _)).symm⟩,?_⟩;rintro⟨⟨_,put,_,⟨⟩⟩,out,⟨⟩⟩ ⟨n,rfl,hn,hput,hout⟩;have hput:put=decide (ni d x0<n):=hput;have hout:out=uy d (x0,x1,()) n:=hout;have hlen:=ane d (x0,x1,()) n;rw[← hout]at hlen;have w:IntKind.i64.wrap ((n:Int)+1)=((n+1:Nat):Int):=eP _ (by omega);dsimp only;rw[w,auA];refine af (λhc=>?_) λhc=>?_
 .have hc:n<d.length:=by have:=fG hc;omega
  refine⟨λz=>z.1.1=decide (ni d x0<n+1)/\z.2.1=(if n=ni d x0 then out++[(x0,x1,())]else out),?_,?_⟩
  .refine af (λh=>⟨⟨by omega,by omega⟩,?_⟩) λh=>⟨rfl,?_,?_⟩
   .have h:=dQ h;rw[hput,avs]at h;refine af (λhb=>⟨by rw[bY];simp only[auv,auz];omega,rfl,?_⟩) λhb=>⟨rfl,?_⟩
    .have hb:Sp.belowD x0 (bH d n)=false:=dQ hb;have e:n=ni d x0:=by
      rcases auJ n (ni d x0)with h'|h'
      .have:=(afz (x:=(x0,x1,())) hc h').2;rw[hb]at this;cases this
      .omega
     exact⟨(auB (by omega)).symm,(if_pos e).symm⟩
    .have hb:Sp.belowD x0 (bH d n)=true:=bP hb;have e:n<ni d x0:=by
      rcases auJ n (ni d x0)with h'|h'
      .exact h'
      .have:=(aie (x:=(x0,x1,())) hc (show n=ni d x0 by omega)).2;rw[hb]at this;cases this
     exact⟨hput.trans (by rw[auD (by omega),auD (by omega)]),(if_neg (by omega)).symm⟩
   .have h:=bP h;rw[hput,auK]at h;exact hput.trans (by rw[auB (by omega),auB (by omega)])
   .have h:=bP h;rw[hput,auK]at h;exact(if_neg (by omega)).symm
  .rintro⟨⟨p3,⟨⟩⟩,o3,⟨⟩⟩ ⟨g1,g2⟩;have g1:p3=decide (ni d x0<n+1):=g1;have g2:o3=(if n=ni d x0 then out++[(x0,x1,())]else out):=g2;have l3:o3.length<=n+2:=by
    rw[g2];split
    .rw[auy,awH];omega
    .omega
   have step:uy d (x0,x1,()) (n+1)=o3++(bif kD x0 (bH d n)then[bH d n]else[]):=by
    rw[g2];rcases awo n (ni d x0)with h'|h'|h'
    .obtain⟨e1,e2⟩:=afz (x:=(x0,x1,())) hc h';have:kD x0 (bH d n)=true:=by unfold kD;rw[auu.2 (IJ e2)];rfl
     rw[e1,if_neg (by omega),this,hout];rfl
    .obtain⟨e1,_⟩:=aie (x:=(x0,x1,())) hc h';rw[e1,if_pos h',hout,avb];rfl
    .rw[alq (x:=(x0,x1,())) hc h',if_neg (by omega),hout]
   refine⟨⟨by omega,by omega⟩,af (λh=>⟨⟨by omega,by omega⟩,by rw[bY];simp only[auv,auz];omega,rfl,⟨n+1,rfl,hc,g1,?_⟩,by omega⟩) λh=>⟨rfl,⟨n+1,rfl,hc,g1,?_⟩,by dsimp only;omega⟩⟩
   .have h:kD x0 (bH d n)=true:=h;rw[step,h];rfl
   .have h:kD x0 (bH d n)=false:=h;rw[step,h];exact(avr _).symm
 .have hc:n=d.length:=by have:=fZ hc;omega
  have e:=anf (d:=d) (x:=(x0,x1,()));rw[hc]at hput hout;rw[← hout]at e;dsimp only at e;refine af (λh=>⟨by rw[bY];simp only[auv,auz];omega,?_⟩) λh=>?_
  .have h:=dQ h;rw[hput,avs]at h;rw[if_pos (by omega)]at e;exact fin _ e.symm
  .have h:=bP h;rw[hput,auK]at h;rw[if_neg (by omega)]at e;exact fin _ e.symm
end Go.Proofs.Tryz
