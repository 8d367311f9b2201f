import Derived.Test.YtkgkfdphbkfjnaaGreatP7
import Derived.Test.YtkgkfdphbkfjnaaGreatV8
import Derived.Test.YtkgkfdphbkfjnaaGreatSp
import Derived.Test.YtkgkfdphbkfjnaaGreatV9
import Derived.Test.YtkgkfdphbkfjnaaGreatL2
import Derived.Test.YtkgkfdphbkfjnaaGreatV10
import Derived.Test.YtkgkfdphbkfjnaaGreatL3
import Derived.Test.YtkgkfdphbkfjnaaGreatV12
import Derived.Test.YtkgkfdphbkfjnaaGreatV13
namespace Go.Proofs.Tryz
open Go Go.Fw Go.IntWalk Sp
theorem aqv{r:Sp.LS}{l:List Sp.Bytes}(h:dA r l)(s:Sp.Bytes):dQ r s=l.contains s:=by rw[aw6,iw,h.2,ax9]
def asks(name:Sp.Bytes)(x:aV):Bool:=(pG x.2.1).contains name
theorem aa7:OK BH.e:=by
 refine XA.ok mixed (ax [jw.e,DZ.e] ⟨qj,acT,trivial⟩) acY (λ⟨d,s,_⟩ hp=>⟨((Sp.asking d s,()),()),rfl⟩) (by kernel_rfl) (show∀d name,BH.goal (aa8 d name) (d,name,())from ?_);intro d s hin hp;dsimp only[BH]at hp ⊢;have hp:aI d:=hp;have hl:=hp.1;refine bZ (λi(x:Sp.LS)=>(((),i,()),x,())) (λy=>y.1.2.1) (λ_ _=>rfl) d.length (by omega) (λn l=>l=((d.take n).filter (asks s)).map λx=>(x.1,())) rfl (λI μ n l hn hJ next=>?_) λI μ l hJ=>?_
 .subst hJ;have hl:=Dp (asks s) (λx:aV=>(x.1,())) d n;dsimp only;refine bU (by omega) ⟨⟨by omega,by omega⟩,o6 hp hn,λr2 hr2=>⟨trivial,?_⟩⟩;rw[aqv hr2];refine af (λh=>⟨by rw[bM];simp only[awL,awP];omega,rfl,next _ ?_⟩) λh=>⟨rfl,next _ ?_⟩
  .have h:asks s (d.getD n Bj)=true:=h;rw[jF (asks s) Bj d hn,h,axq];rfl
  .have h:asks s (d.getD n Bj)=false:=h;rw[jF (asks s) Bj d hn,h,axq];simp
 .subst hJ;rw[aw0];dsimp only;exact bV (by omega) rfl
theorem vI:OK jW.e:=by refine PA.ok mixed (ax [] trivial) H0 (by kernel_rfl) (show∀n0 n1 n2 n3 n4 n5 n6,jW.goal (Oj n0 n1 n2 n3 n4 n5 n6) ((n0,n1,n2,n3,n4,n5,n6,()),())from ?_);intro x0 x1 x2 x3 x4 x5 x6 hin hp;dsimp only[jW]at hp ⊢;exact rfl
theorem um:OK gy.e:=by refine PA.ok mixed (ax [jW.e] ⟨vI,trivial⟩) uG (by kernel_rfl) (show∀s,gy.goal (uo s) (s,(()),())from ?_);intro q hin hp;dsimp only[gy]at hp ⊢;exact QL (K:=λr=>r=(Sp.findAt (λn:bI=>n.1==9) q,())) (λn:bI=>n.1==9) EJ q _ hin.1.1 rfl
theorem rX:OK fU.e:=by refine PA.ok mixed (ax [gy.e,jW.e] ⟨um,vI,trivial⟩) H0 (by kernel_rfl) (show∀s,fU.goal (rY s) (s,(()),())from ?_);intro q hin hp;dsimp only[fU]at hp ⊢;exact⟨trivial,congrArg (·,()) (Xa _ q)⟩
theorem acZ:OK D6.e:=by refine PA.ok mixed (ax [] trivial) afa (by kernel_rfl) (show∀q,D6.goal (ac0 q) (q,())from ?_);intro q hin hp;dsimp only[D6]at hp ⊢;exact arz (K:=λr=>r=(Sp.linked q,())) (λn:bI=>n.1==9) EJ q _ hin.1.1 rfl
theorem vJ:OK jX.e:=by refine PA.ok mixed (ax [jw.e] ⟨qj,trivial⟩) H0 (by kernel_rfl) (show∀name p10,jX.goal (Ol name p10) (name,(p10,()),())from ?_);intro nm attrs hin hp;dsimp only[jX]at hp ⊢;exact⟨trivial,rfl⟩
theorem vW:OK gV.e:=by refine PA.ok mixed (ax [jX.e] ⟨vJ,trivial⟩) wR (by kernel_rfl) (show∀s jE,gV.goal (vX s jE) (s,((jE,()),()),())from ?_);intro l attrs hin hp;dsimp only[gV]at hp ⊢;exact QL (K:=λr=>r=(Sp.findAt (λx:Sp.Bytes×Unit=>dQ attrs x.1) l,())) (λx:Sp.Bytes×Unit=>dQ attrs x.1) ([],()) l _ hin.1.1 rfl
theorem uq:OK gB.e:=by refine PA.ok mixed (ax [gV.e,jX.e] ⟨vW,vJ,trivial⟩) H0 (by kernel_rfl) (show∀s jE,gB.goal (uw s jE) (s,((jE,()),()),())from ?_);intro l attrs hin hp;dsimp only[gB]at hp ⊢;exact⟨trivial,congrArg (·,()) (Xa _ l)⟩
theorem NU:OK oN.e:=by refine XA.ok mixed (ax [] trivial) Om (λ⟨s,_⟩ _=>⟨((s,()),()),rfl⟩) (by kernel_rfl) (show∀s,oN.goal (NV s) (s,())from ?_);intro s hin hp;dsimp only[oN]at hp ⊢;have hp:s.length<=1000:=hp;intro g hg;refine af (λh=>?_) λh=>⟨by rw[bM];omega,rfl⟩;exact(axJ.1 (hg h)).symm
theorem QM:OK rE.e:=by refine XA.ok mixed (ax [] trivial) Rx (λ⟨s,_⟩ _=>⟨((s,()),()),rfl⟩) (by kernel_rfl) (show∀s,rE.goal (QN s) (s,())from ?_);intro s hin hp;dsimp only[rE]at hp ⊢;have hp:s.length<=1000:=hp;intro g hg;refine af (λh=>?_) λh=>⟨by rw[bM];omega,rfl⟩;exact(axJ.1 (hg h)).symm
def mD(f g:aF)(x:aV):Bool:=(lq x.2.1).any (λt=>(gX f g).contains t)||(Sp.linked x.2.1&&f.2.2.2.1 !=g.2.2.2.1)
theorem Ul{d:List aV}{p:aV->Bool}{s:Sp.Bytes}:dQ ((d.filter p).map λx=>(x.1,())) s=true↔∃i,i<d.length/\Sp.nameOf d i=s/\p (dP d i)=true:=by
 have at_:∀i(hi:i<d.length),dP d i=d[i]:=λi hi=>by unfold dP;rw[awI,awM hi];rfl
 rw[iw,axO];constructor
 .rintro⟨x,hx,e⟩;obtain⟨h1,h2⟩:=axw.1 hx;obtain⟨i,hi,rfl⟩:=axl h1;exact⟨i,hi,by unfold Sp.nameOf;rw[at_ i hi];exact congrArg Prod.fst e,by rw[at_ i hi];exact h2⟩
 .rintro⟨i,hi,e,hp⟩;exact⟨d[i],axw.2 ⟨ax2 hi,by rw[← at_ i hi];exact hp⟩,by rw[← e];unfold Sp.nameOf;rw[at_ i hi]⟩
theorem QO{d:List aV}{f g:aF}(h:f.1=g.1):Sp.touched d f g ((d.filter (mD f g)).map λx=>(x.1,())):=by
 refine⟨by rw[awV];exact aw8 _ _,λs=>Ul.trans ?_⟩;unfold MP mD;constructor
 .rintro⟨i,hi,e,hp⟩;refine⟨i,hi,e,.inr ?_⟩;rw[axG,axH,awG]at hp;rcases hp with⟨t,h1,h2⟩|⟨h1,h2⟩
  .exact .inl ⟨t,h1,ax9.1 h2⟩
  .exact .inr ⟨h1,ayI.1 h2⟩
 .rintro⟨i,hi,e,hp⟩;refine⟨i,hi,e,?_⟩;rw[axG,axH,awG];rcases hp with hp|⟨t,h1,h2⟩|⟨h1,h2⟩
  .exact(hp h).elim
  .exact .inl ⟨t,h1,ax9.2 h2⟩
  .exact .inr ⟨h1,ayI.2 h2⟩
theorem Um{d:List aV}{f g:aF}(h:f.1≠g.1):Sp.touched d f g (iV d):=by
 refine⟨by unfold iV;rw[awV];exact awY _,λs=>?_⟩;have:iV d=(d.filter λ_=>true).map λx=>(x.1,()):=by rw[ay5.2 λ_ _=>rfl];rfl
 rw[this,Ul];exact⟨λ⟨i,hi,e,_⟩=>⟨i,hi,e,.inl h⟩,λ⟨i,hi,e,_⟩=>⟨i,hi,e,rfl⟩⟩
theorem Un(d:List aV)(f g:aF):∃r,Sp.touched d f g r:=by
 by_cases h:f.1=g.1
 .exact⟨_,QO h⟩
 .exact⟨_,Um h⟩
theorem aqw{r0 r3:Sp.LS}{f g:aF}{q:List bI}(h0:dA r0 (gX f g))(h3:dA r3 (lq q)):(r0.any λx=>dQ r3 x.1)=(lq q).any λt=>(gX f g).contains t:=by
 rw[aw6,axH,axH];constructor
 .rintro⟨x,hx,h⟩;exact⟨x.1,(h3.2 _).1 (iw.1 h),ax9.2 ((h0.2 x.1).1 hx)⟩
 .rintro⟨t,ht,h⟩;exact⟨(t,()),(h0.2 t).2 (ax9.1 h),iw.2 ((h3.2 t).2 ht)⟩
theorem QS:OK rC.e:=by
 refine XA.ok mixed (ax [jW.e,fU.e,gB.e,jX.e,BF.e,yG.e,zS.e] ⟨vI,rX,uq,vJ,aa3,Xi,QC,trivial⟩) Ry (λ⟨d,f,g,_⟩ hp=>by obtain⟨r,h⟩:=Un d f g;exact⟨((r,()),()),h⟩) (by kernel_rfl) (show∀d xG zq zu xH vw Dq EK EL Dt Az,rC.goal (QT d xG zq zu xH vw Dq EK EL Dt Az) (d,(xG,zq,zu,xH,vw,()),(Dq,EK,EL,Dt,Az,()),())from ?_);intro d a0 a1 a2 a3 a b0 b1 b2 b3 b hin hp;dsimp only[rC]at hp ⊢;obtain⟨hd,hf,hg,hab⟩:aI d/\bY (a0,a1,a2,a3,a,())/\bY (b0,b1,b2,b3,b,())/\a.length+b.length<=1000:=hp;have hl:=hd.1;refine af (λh=>⟨hl,Um (ayI.1 h)⟩) λh=>⟨⟨hf,hg,hab⟩,?_⟩;have hid:a0=b0:=amq h;rintro⟨⟨r0,⟨⟩⟩,⟨⟩⟩ hr0;have hr0:dA r0 (gX (a0,a1,a2,a3,a,()) (b0,b1,b2,b3,b,())):=hr0;dsimp only;generalize hF:((a0,a1,a2,a3,a,()):aF)=F at*;generalize hG:((b0,b1,b2,b3,b,()):aF)=G at*;have apb:(a3 !=b3)=(F.2.2.2.1 !=G.2.2.2.1):=by rw[← hF,← hG]
 refine bZ (λi(x:Sp.LS)=>(((),i,()),x,())) (λy=>y.1.2.1) (λ_ _=>rfl) d.length (by omega) (λn l=>l=((d.take n).filter (mD F G)).map λx=>(x.1,())) rfl (λI μ n l hn hJ next=>?_) λI μ l hJ=>?_
 .subst hJ;have hl:=Dp (mD F G) (λx:aV=>(x.1,())) d n;have small:(((d.take n).filter (mD F G)).map λx:aV=>(x.1,())).length+1<=big:=by rw[bM];omega
  have yes:mD F G (d.getD n Bj)=true->((d.take n).filter (mD F G)).map (λx:aV=>(x.1,()))++[((d.getD n Bj).1,())]=((d.take (n+1)).filter (mD F G)).map λx=>(x.1,()):=λh=>by rw[jF (mD F G) Bj d hn,h,axq];rfl
  have no:mD F G (d.getD n Bj)=false->((d.take n).filter (mD F G)).map (λx:aV=>(x.1,()))=((d.take (n+1)).filter (mD F G)).map λx=>(x.1,()):=λh=>by rw[jF (mD F G) Bj d hn,h,axq];simp
  dsimp only;refine bU (by omega) ⟨⟨by omega,by omega⟩,o6 hd hn,λr3 hr3=>⟨trivial,trivial,?_⟩⟩;have hhit:=aqw hr0 hr3;rw[hhit,apb];refine af (λh=>⟨small,rfl,next _ (yes ?_)⟩) λh=>af (λh2=>af (λh3=>⟨small,rfl,next _ (yes ?_)⟩) λh3=>⟨rfl,next _ (no ?_)⟩) λh2=>⟨rfl,next _ (no ?_)⟩
  .have h:(lq (d.getD n Bj).2.1).any (λt=>(gX F G).contains t)=true:=h;unfold mD;rw[h];rfl
  .have h2:Sp.linked (d.getD n Bj).2.1=true:=h2;unfold mD;rw[h2,h3];simp
  .have h:(lq (d.getD n Bj).2.1).any (λt=>(gX F G).contains t)=false:=h;have h2:Sp.linked (d.getD n Bj).2.1=true:=h2;unfold mD;rw[h,h2,h3];rfl
  .have h:(lq (d.getD n Bj).2.1).any (λt=>(gX F G).contains t)=false:=h;have h2:Sp.linked (d.getD n Bj).2.1=false:=h2;unfold mD;rw[h,h2];rfl
 .subst hJ;rw[aw0];dsimp only;exact bV (by omega) (QO (by rw[← hF,← hG];exact hid))
theorem aa9{α:Type}[BEq α][LawfulBEq α]:∀(a b:List α),a.Nodup->(∀x∈a,x∈b)->a.length<=b.length
 |[],_,_,_=>axg _
 |x::r,b,hn,h=>by
  rw[azP]at hn;have hx:=h x awW;have ih:=aa9 r (b.erase x) hn.2 λy hy=>by
   have hne:y≠x:=λe=>by subst e;exact hn.1 hy
   rw[List.mem_erase_of_ne hne];exact h y (awX _ hy)
  rw[List.length_erase_of_mem hx]at ih;have:0<b.length:=List.length_pos_of_mem hx;rw[awL];omega
def Grown(d:List aV)(names out:Sp.LS):Prop:=∃ex,out=names++ex/\ex.Nodup/\(∀x∈ex,x∈iV d)/\∀x∈out,Sp.Reach d (λs=>dQ names s=true) x.1
theorem Grown.len{d:List aV}{names out:Sp.LS}(h:Grown d names out):out.length<=names.length+d.length:=by obtain⟨ex,rfl,h1,h2,_⟩:=h;have:=aa9 ex (iV d) h1 h2;unfold iV at this;rw[awV]at this;rw[awN];omega
theorem Grown.add{d:List aV}{names out:Sp.LS}(h:Grown d names out){x:Sp.Bytes×Unit}(h1:x∈iV d)(h2:x ∉ out)(h3:Sp.Reach d (λs=>dQ names s=true) x.1):Grown d names (out++[x]):=by
 obtain⟨ex,rfl,g1,g2,g3⟩:=h;refine⟨ex++[x],by rw[axr],?_,λy hy=>?_,λy hy=>?_⟩
 .rw[List.nodup_append];refine⟨g1,azP.2 ⟨by simp,List.nodup_nil⟩,λa ha b hb e=>h2 ?_⟩;rw[axy.1 hb]at e;exact aw2.2 (.inr (e▸ha))
 .rcases aw2.1 hy with hy|hy
  .exact g2 y hy
  .rw[axy.1 hy];exact h1
 .rcases aw2.1 hy with hy|hy
  .exact g3 y hy
  .rw[axy.1 hy];exact h3
theorem ag2{d:List aV}{s:Sp.Bytes}{x:Sp.Bytes×Unit}:x∈Sp.asking d s↔∃i,i<d.length/\Sp.nameOf d i=x.1/\s∈pG (dW d i):=by have h:(x.1,())∈Sp.asking d s↔_:=(iw (l:=Sp.asking d s) (s:=x.1)).symm.trans Ul;refine h.trans ⟨λ⟨i,a,b,c⟩=>⟨i,a,b,ax9.1 c⟩,λ⟨i,a,b,c⟩=>⟨i,a,b,ax9.2 c⟩⟩
theorem QU{d:List aV}{i:Nat}(hi:i<d.length):(Sp.nameOf d i,())∈iV d:=iw.1 (Xh hi)
theorem Uo(d:List aV)(hd:d.length<=5)(names:Sp.LS)(hn:names.length<=900):∃r,Sp.reached d names r:=by
 refine⟨names++(iV d).filter (λx=>@decide (Sp.Reach d (λs=>dQ names s=true) x.1) (Classical.propDecidable _)),?_,λs=>?_⟩
 .have:=aw8 (λx:Sp.Bytes×Unit=>@decide (Sp.Reach d (λs=>dQ names s=true) x.1) (Classical.propDecidable _)) (iV d);have e:(iV d).length=d.length:=by unfold iV;rw[awV]
  rw[awN];omega
 .rw[iw,aw2,axw];constructor
  .rintro(h|⟨_,h⟩)
   .exact .base (iw.2 h)
   .exact(@ayi _ (Classical.propDecidable _)).1 h
  .intro h;have h':=h;cases h with
   |base hb=>exact .inl (iw.1 hb)
   |step _ hi _=>exact .inr ⟨QU hi,(@ayi _ (Classical.propDecidable _)).2 h'⟩
theorem MQ:OK nP.e:=by
 refine XA.ok mixed (ax [(nJ,.eff (oH jL) lJ),jw.e,BH.e,oN.e] ⟨⟨uh,rW⟩,qj,aa7,NU,trivial⟩) NW (λ⟨d,names,_⟩ hp=>by obtain⟨r,h⟩:=Uo d hp.2.1 names hp.2.2;exact⟨((r,()),()),h⟩) (by kernel_rfl) (show∀d names,nP.goal (MR d names) (d,names,())from ?_);intro d names hin hp;dsimp only[nP]at hp ⊢;obtain⟨hd,hd5,hnl⟩:aI d/\d.length<=5/\names.length<=900:=hp;refine⟨by omega,?_⟩;rintro⟨⟨r0,⟨⟩⟩,⟨⟩⟩ e0;have e0:r0=names:=e0;subst e0;refine⟨λy=>∃i:Nat,y.1.2.1=i/\i<=y.2.1.length/\Grown d r0 y.2.1/\∀j,j<i->∀x∈Sp.asking d (y.2.1.getD j ([],())).1,x∈y.2.1,λy=>((r0.length+d.length:Nat)-y.1.2.1).toNat,⟨0,rfl,axg _,⟨[],by simp,List.nodup_nil,λx hx=>(by cases hx),λx hx=>.base (iw.2 hx)⟩,λj hj=>by omega⟩,?_⟩;rintro⟨⟨_,_,⟨⟩⟩,out,⟨⟩⟩ ⟨i,rfl,hi,hG,hcl⟩;have hlen:out.length<=r0.length+d.length:=hG.len;dsimp only at hi hG hcl ⊢;refine af (λhc=>?_) λhc=>?_
 .have hc:=gI hc;have w:IntKind.i64.wrap ((i:Int)+1)=((i+1:Nat):Int):=fQ _ (by omega);rw[w,awO];refine⟨⟨by omega,by omega⟩,by omega,hd,?_⟩;rintro⟨⟨r3,⟨⟩⟩,⟨⟩⟩ e3;have e3:r3=Sp.asking d (out.getD i ([],())).1:=e3;dsimp only;have hr3:r3.length<=d.length:=by rw[e3];unfold Sp.asking;rw[awV];exact aw8 _ _
  refine bZ (λk(x:Sp.LS)=>(((),k,()),x,())) (λy=>y.1.2.1) (λ_ _=>rfl) r3.length (by omega) (λn l=>(∃more,l=out++more)/\Grown d r0 l/\∀k,k<n->r3.getD k ([],())∈l) ⟨⟨[],by simp⟩,hG,λk hk=>by omega⟩ (λI μ n l hn hJ next=>?_) λI μ l hJ=>?_
  .obtain⟨⟨more,hm⟩,g1,g2⟩:=hJ;have gl:=g1.len;have hmem:r3.getD n ([],())∈r3:=getD_mem (d:=(([]:Sp.Bytes),())) hn;dsimp only;rw[awO];refine bU (by omega) ⟨⟨by omega,by omega⟩,trivial,af (λh=>⟨by rw[bM];simp only[awL,awP];omega,rfl,next _ ⟨⟨more++[r3.getD n ([],())],by rw[hm,axr]⟩,?_,λk hk=>?_⟩⟩) λh=>⟨rfl,next _ ⟨⟨more,hm⟩,g1,λk hk=>?_⟩⟩⟩
   .have h:dQ l (r3.getD n ([],())).1=false:=dX h;rw[e3]at hmem;obtain⟨j,hj,e,ha⟩:=ag2.1 hmem;rw[← e3]at e;refine g1.add ?_ (λhx=>?_) ?_
    .have:=QU hj;rw[e]at this;exact this
    .have h':dQ l (r3.getD n ([],())).1=true:=iw.2 hx;rw[h]at h';cases h'
    .rw[← e];obtain⟨ex,_,_,_,hr⟩:=hG;exact .step (hr _ (getD_mem (d:=(([]:Sp.Bytes),())) (by omega))) hj ha
   .rcases awZ k n with h'|h'
    .exact aw2.2 (.inl (g2 k h'))
    .have:k=n:=by omega
     subst this;exact aw2.2 (.inr (axy.2 rfl))
   .have h:dQ l (r3.getD n ([],())).1=true:=dw h;rcases awZ k n with h'|h'
    .exact g2 k h'
    .have:k=n:=by omega
     subst this;exact iw.1 h
  .obtain⟨⟨more,hm⟩,g1,g2⟩:=hJ;dsimp only;have hol:out.length<=l.length:=by rw[hm,awN];omega
   refine bV (by omega) ⟨rfl,⟨i+1,rfl,by dsimp only;omega,g1,λj hj x hx=>?_⟩,by dsimp only;omega⟩;have hat:l.getD j ([],())=out.getD j ([],()):=by rw[hm,awI,awI,axh (by omega)]
   rw[hat]at hx;rcases awZ j i with h'|h'
   .rw[hm];exact aw2.2 (.inl (hcl j h' x hx))
   .have:j=i:=by omega
    subst this;rw[← e3]at hx;obtain⟨k,hk,rfl⟩:=axl hx;have:=g2 k hk;rw[awI,awM hk]at this;exact this
 .have hc:=gZ hc;have hie:i=out.length:=by omega
  refine⟨by omega,λr hr=>⟨by have:=hr.1;omega,λs=>?_⟩⟩;rw[iw];refine(hr.2 (s,())).trans ⟨λh=>?_,λh=>?_⟩
  .obtain⟨ex,_,_,_,hr⟩:=hG;exact hr _ h
  .induction h with
   |base hb=>
    obtain⟨ex,he,_⟩:=hG;show(_,())∈out;rw[he];exact aw2.2 (.inl (iw.1 hb))
   |step _ hj ha ih=>
    obtain⟨k,hk,e⟩:=axl ih;have hx:=hcl k (by omega);have hat:out.getD k ([],())=out[k]:=by rw[awI,awM hk];rfl
    rw[hat,e]at hx;exact hx (_,()) (ag2.2 ⟨_,hj,rfl,ha⟩)
theorem an4(d:List aV)(hd:d.length<=5)(f g:aF):∃r,Sp.isSet r (Yj d f g):=by obtain⟨t,ht⟩:=Un d f g;obtain⟨r,hr⟩:=Uo d hd t (by have:=ht.1;omega);refine⟨r,hr.1,λs=>(hr.2 s).trans ?_⟩;have:(λs=>dQ t s=true)=MP d f g:=funext λs=>propext (ht.2 s);rw[this];rfl
theorem aqx{d:List aV}{f g:aF}{t r:Sp.LS}(ht:Sp.touched d f g t)(hr:Sp.reached d t r):Sp.isSet r (Yj d f g):=by refine⟨hr.1,λs=>(hr.2 s).trans ?_⟩;have:(λs=>dQ t s=true)=MP d f g:=funext λs=>propext (ht.2 s);rw[this];rfl
theorem Xm:OK yI.e:=by refine XA.ok mixed (ax [nP.e,rC.e] ⟨MQ,QS,trivial⟩) H0 (λ⟨d,f,g,_⟩ hp=>by obtain⟨r,h⟩:=an4 d hp.2.1 f g;exact⟨((r,()),()),h⟩) (by kernel_rfl) (show∀d xG zq zu xH vw Dq EK EL Dt Az,yI.goal (Xn d xG zq zu xH vw Dq EK EL Dt Az) (d,(xG,zq,zu,xH,vw,()),(Dq,EK,EL,Dt,Az,()),())from ?_);intro d a0 a1 a2 a3 a b0 b1 b2 b3 b hin hp;dsimp only[yI]at hp ⊢;obtain⟨h1,h2,h3,h4,h5⟩:=hp;exact⟨⟨h1,h3,h4,h5⟩,λr0 hr0=>⟨⟨h1,h2,by have:=hr0.1;omega⟩,λr1 hr1=>aqx hr0 hr1⟩⟩
end Go.Proofs.Tryz
namespace Go.Proofs.Tryz
open Go Go.Fw Go.IntWalk Sp
theorem Ia:OK sN.e:=by refine PA.ok mixed (ax [pz.e] ⟨IB,trivial⟩) H0 (by kernel_rfl) (show∀id p10,sN.goal (ac1 id p10) (id,(p10,()),())from ?_);intro x b hin hp;dsimp only[sN]at hp ⊢;exact⟨trivial,rfl⟩
theorem EM:OK jC.e:=by refine PA.ok mixed (ax [sN.e] ⟨Ia,trivial⟩) Fj (by kernel_rfl) (show∀s jE,jC.goal (EN s jE) (s,((jE,()),()),())from ?_);intro l b hin hp;dsimp only[jC]at hp ⊢;exact QL (K:=λr=>r=(Sp.findAt (λx:Int×Unit=>fE b x.1) l,())) (λx:Int×Unit=>fE b x.1) (0,()) l _ hin.1.1 rfl
theorem En:OK jv.e:=by refine XA.ok mixed (ax [jC.e,sN.e] ⟨EM,Ia,trivial⟩) EO (λ⟨s,((b,_),_),_⟩ _=>⟨((s.filter (λx=>!fE b x.1),()),()),rfl⟩) (by kernel_rfl) (show∀s Du,jv.goal (Eo s Du) (s,((Du,()),()),())from ?_);intro s b hin hp;dsimp only[jv]at hp ⊢;exact⟨trivial,an5 (K:=λr=>r.1.1=s.filter λx=>!fE b x.1) (λx:Int×Unit=>fE b x.1) (0,()) s _ (by have hp:s.length<=1000:=hp;omega) rfl⟩
theorem ag3:OK Gu.e:=by refine XA.ok mixed (ax [jv.e,sN.e,rE.e] ⟨En,Ia,QM,trivial⟩) ai4 (λ⟨a,b,_⟩ _=>⟨((Sp.without a b,()),()),rfl⟩) (by kernel_rfl) (show∀a b,Gu.goal (ag4 a b) (a,b,())from ?_);intro a b hin hp;dsimp only[Gu]at hp ⊢;have hp:a.length<=1000:=hp;refine⟨hp,?_⟩;rintro⟨⟨r0,⟨⟩⟩,⟨⟩⟩ e;have e:r0=a:=e;subst e;exact⟨hp,λr h=>h⟩
theorem ag5:OK Gv.e:=by refine XA.ok mixed (ax [Gu.e] ⟨ag3,trivial⟩) H0 (λ⟨a,b,_⟩ _=>⟨((Sp.without b a,Sp.without a b,()),()),⟨rfl,rfl⟩⟩) (by kernel_rfl) (show∀a b,Gv.goal (ag6 a b) (a,b,())from ?_);intro a b hin hp;dsimp only[Gv]at hp ⊢;exact⟨hp.2,λr0 h0=>⟨hp.1,λr1 h1=>⟨h0,h1⟩⟩⟩
theorem adM(a b:List (Int×Unit)):(Sp.without a b).length<=a.length:=aw8 _ _
theorem Xo{r:List dH}(h:aU r)(s:Sp.Bytes):(fF r s).length<=1000:=by
 have:∀l:List dH,(∀x∈l,x.2.1.length<=1000)->(fF l s).length<=1000:=by
  intro l
  induction l with
  |nil=>exactλ_=>axg _
  |cons x t ih=>
   intro hl;rw[fF];cases x.1==s with
   |true=>exact hl x awW
   |false=>exact ih λy hy=>hl y (awX _ hy)
 exact this r h.2
theorem ag7(a b:List dH){n:Nat}(h:n<b.length):((b.take (n+1)).map (uy a)).filter AA=((b.take n).map (uy a)).filter AA++(bif AA (uy a (b.getD n oW))then[uy a (b.getD n oW)]else[]):=by rw[Sp.take_succ' b n oW h,axq,ax1,List.map_singleton,ayY];cases AA (uy a (b.getD n oW))<;>rfl
theorem Y0:OK zX.e:=by
 refine XA.ok mixed (ax [Gv.e,lZ.e] ⟨ag5,BO,trivial⟩) abb (λ⟨a,b,_⟩ _=>⟨((I8 a b,()),()),rfl⟩) (by kernel_rfl) (show∀a b,zX.goal (Y3 a b) (a,b,())from ?_);intro a b hin hp;dsimp only[zX]at hp ⊢;obtain⟨ha,hb⟩:aU a/\aU b:=hp;have hbl:=hb.1;refine bZ (λi(x:List Hf)=>(((),i,()),x,())) (λy=>y.1.2.1) (λ_ _=>rfl) b.length (by omega) (λn l=>l=((b.take n).map (uy a)).filter AA) rfl (λI μ n l hn hJ next=>?_) λI μ l hJ=>?_
 .subst hJ;have hl:(((b.take n).map (uy a)).filter AA).length<=n:=by have:=aw8 AA ((b.take n).map (uy a));rw[awV,awK]at this;omega
  have step:=ag7 a b hn;have l1:=Xo ha (b.getD n oW).1;have l2:(b.getD n oW).2.1.length<=1000:=JS hb hn;dsimp only;refine bU (by omega) ⟨⟨by omega,by omega⟩,ha,⟨l1,l2⟩,?_⟩;rintro⟨⟨x,y,⟨⟩⟩,⟨⟩⟩ ⟨e1,e2⟩;have e1:x=Sp.without (b.getD n oW).2.1 (fF a (b.getD n oW).1):=e1;have e2:y=Sp.without (fF a (b.getD n oW).1) (b.getD n oW).2.1:=e2;have k1:=adM (b.getD n oW).2.1 (fF a (b.getD n oW).1);have k2:=adM (fF a (b.getD n oW).1) (b.getD n oW).2.1;rw[← e1]at k1;rw[← e2]at k2;have w:IntKind.i64.wrap ((x.length:Int)+(y.length:Int))=((x.length+y.length:Nat):Int):=by rw[fQ _ (by omega)];omega
  have hd:uy a (b.getD n oW)=((b.getD n oW).1,x,y,()):=by rw[e1,e2];rfl
  have hz:AA (uy a (b.getD n oW))=decide (0<x.length+y.length):=by rw[hd];rfl
  dsimp only;rw[w];refine af (λh=>⟨by rw[bM];simp only[awL,awP];omega,rfl,next _ ?_⟩) λh=>⟨rfl,next _ ?_⟩
  .have h:=gI h;rw[step,hz,awS (by omega),hd];rfl
  .have h:=gZ h;rw[step,hz,awT (by omega)];simp
 .subst hJ;rw[aw0];dsimp only;exact bV (by omega) rfl
theorem Y4:OK zZ.e:=by
 refine XA.ok mixed (ax [tH.e] ⟨LZ,trivial⟩) abd (λ⟨r,_⟩ _=>⟨((r,()),()),rfl⟩) (by kernel_rfl) (show∀Hr,zZ.goal (Y5 Hr) (Hr,())from ?_);intro r hin hp;dsimp only[zZ]at hp ⊢;have hp:aU r:=hp;have hl:=hp.1;refine bZ (λi(x:List dH)=>(((),i,()),x,())) (λy=>y.1.2.1) (λ_ _=>rfl) r.length (by omega) (λn l=>l=r.take n) (by simp) (λI μ n l hn hJ next=>?_) λI μ l hJ=>?_
 .subst hJ;have hl:(r.take n).length<=n:=by rw[awK];omega
  dsimp only;refine bU (by omega) ⟨⟨by omega,by omega⟩,JS hp hn,by rw[bM];simp only[awL,awP];omega,rfl,next _ ?_⟩;rw[Sp.take_succ' r n oW hn];rfl
 .subst hJ;rw[aw0];dsimp only;exact bV (by omega) rfl
theorem abe:OK BI.e:=by
 refine XA.ok mixed (ax [] trivial) ac2 (λ⟨r,_⟩ _=>⟨((r,()),()),rfl⟩) (by kernel_rfl) (show∀a,BI.goal (abf a) (a,())from ?_);intro r hin hp;dsimp only[BI]at hp ⊢;have hp:aU r:=hp;have hl:=hp.1;refine bZ (λi(x:List dH)=>(((),i,()),x,())) (λy=>y.1.2.1) (λ_ _=>rfl) r.length (by omega) (λn l=>l=r.take n) (by simp) (λI μ n l hn hJ next=>?_) λI μ l hJ=>?_
 .subst hJ;have hl:(r.take n).length<=n:=by rw[awK];omega
  have h2:(r.getD n ([],[],())).2.1.length<=1000:=JS hp hn;dsimp only;rw[awO];refine bU (by omega) ⟨⟨by omega,by omega⟩,⟨by omega,by omega⟩,by rw[bM];omega,by rw[bM];simp only[awL,awP];omega,rfl,next _ ?_⟩;rw[Sp.take_succ' r n oW hn]
 .subst hJ;rw[aw0];dsimp only;exact bV (by omega) rfl
theorem Fp:OK pI.e:=by refine XA.ok mixed (ax [zZ.e,zM.e,sD.e] ⟨Y4,QV,H6,trivial⟩) H0 (λ⟨(a,l,nx,d,r,_),_⟩ _=>⟨(((a,l,nx,d,r,()),()),()),rfl⟩) (by kernel_rfl) (show∀c0 c1 c2 c3 c4,pI.goal (Y6 c0 c1 c2 c3 c4) ((c0,c1,c2,c3,c4,()),())from ?_);intro a l nx d r hin hp;dsimp only[pI]at hp ⊢;obtain⟨h1,h2,h3⟩:bn (a,l,nx,())/\aI d/\aU r:=hp;refine⟨h1,?_⟩;rintro⟨⟨⟨a',l',nx',⟨⟩⟩,⟨⟩⟩,⟨⟩⟩ e;have e:((a',l',nx',()):bQ)=(a,l,nx,()):=e;refine⟨h2,h3,?_⟩;rintro⟨⟨r',⟨⟩⟩,⟨⟩⟩ e2;have e2:r'=r:=e2;simp only[Prod.mk.injEq]at e;obtain⟨rfl,rfl,rfl,_⟩:=e;subst e2;rfl
theorem Tf:OK CS.e:=by refine XA.ok mixed (ax [BI.e,CJ.e,pq.e] ⟨abe,Td,Au,trivial⟩) H0 (λ⟨(a,l,nx,d,r,_),_⟩ _=>⟨(((a,l,nx,d,r,()),()),()),rfl⟩) (by kernel_rfl) (show∀l0 l1 l2 l3 l4,CS.goal (ag8 l0 l1 l2 l3 l4) ((l0,l1,l2,l3,l4,()),())from ?_);intro a l nx d r hin hp;dsimp only[CS]at hp ⊢;obtain⟨h1,h2,h3⟩:bn (a,l,nx,())/\aI d/\aU r:=hp;refine⟨h1,?_⟩;rintro⟨⟨⟨a',l',nx',⟨⟩⟩,⟨⟩⟩,⟨⟩⟩ e;have e:((a',l',nx',()):bQ)=(a,l,nx,()):=e;refine⟨h2,h3,?_⟩;rintro⟨⟨r',⟨⟩⟩,⟨⟩⟩ e2;have e2:r'=r:=e2;simp only[Prod.mk.injEq]at e;obtain⟨rfl,rfl,rfl,_⟩:=e;subst e2;rfl
theorem IG{fs:List aF}{d:List aV}{r out:List dH}{nm:Sp.Bytes->Bool}(h:gq fs d r nm out)(hd:d.length<=1000)(hf:fs.length<=1000)(hr:aU r):aU out:=by
 refine⟨by rw[h.order.1];exact hd,λx hx=>?_⟩;obtain⟨i,hi,rfl⟩:=axl hx;have hi':i<d.length:=by rw[← h.order.1];exact hi
 have e:(out[i]).2.1=iR out i:=by unfold iR tu;rw[awI,awM hi];rfl
 rw[e];cases hn:nm (Sp.nameOf d i)with
 |true=>
  rw[h.fix i hi' hn];unfold Sp.sel;rw[awV];exact awR (aw8 _ _) hf
 |false=>rw[h.kept i hi' hn];exact Xo hr _
theorem ag9(c:dR)(s:bQ)(d:List aV)(nm:Sp.Bytes->Bool):∃c' df,Sp.turned c s d nm c' df (aB d&&aC s):=by
 obtain⟨a,fs,nx,_⟩:=s;obtain⟨out,h⟩:=Ba (fs:=fs) (a:=a) (nx:=nx) (d:=d) (wS c) nm;cases hk:(aB d&&aC (a,fs,nx,()))with
 |true=>exact⟨(a,fs,nx,d,out,()),I8 (wS c) out,hk.symm,λ_=>⟨rfl,rfl,h hk,rfl⟩,λh=>(by cases h)⟩
 |false=>exact⟨c,[],hk.symm,λh=>(by cases h),λ_=>⟨rfl,rfl⟩⟩
theorem ac3:OK D7.e:=by
 refine XA.ok mixed (ax [zX.e,zM.e,sD.e,pI.e,BB.e] ⟨Y0,QV,H6,Fp,aaZ,trivial⟩) H0 (λ⟨c,s,d,names,_⟩ _=>by obtain⟨c',df,h⟩:=ag9 c s d (dQ names);exact⟨((((c'.1,c'.2.1,c'.2.2.1,c'.2.2.2.1,c'.2.2.2.2.1,()),df,(aB d&&aC s),()),())),h⟩) (by kernel_rfl) (show∀c0 c1 c2 c3 c4 s0 s1 s2 d names,D7.goal (ac4 c0 c1 c2 c3 c4 s0 s1 s2 d names) ((c0,c1,c2,c3,c4,()),(s0,s1,s2,()),d,names,())from ?_);intro a l nx d0 r0 sa sl sn d names hin hp;dsimp only[D7]at hp ⊢;obtain⟨hc,hs,hd⟩:=hp;have hr:aU r0:=hc.2.2;refine⟨⟨hs,hd,hr⟩,?_⟩;rintro⟨⟨out,ok,⟨⟩⟩,⟨⟩⟩ ⟨e1,e2⟩;have e1:ok=(aB d&&aC (sa,sl,sn,())):=e1;have e2:ok=true->gq sl d r0 (dQ names) out:=e2;dsimp only;refine af (λh=>⟨hc,λr1 hr1=>?_⟩) λh=>⟨hs,?_⟩
 .have h:ok=false:=dX h;exact⟨e1▸h.symm,λh=>(by cases h),λ_=>⟨hr1,rfl⟩⟩
 .have h:ok=true:=dw h;rintro⟨⟨s',⟨⟩⟩,⟨⟩⟩ es;have es:s'=(sa,sl,sn,()):=es;subst es;refine⟨hd,⟨hr,IG (e2 h) hd.1 hs.2.1 hr⟩,λr3 hr3=>⟨e1▸h.symm,λ_=>⟨rfl,rfl,e2 h,hr3⟩,λh=>(by cases h)⟩⟩
theorem Lc{c:dR}(h:dZ c=true):aB (dm c)=true/\aC (aY c)=true/\gq c.2.1 (dm c) [] (λ_=>true) (wS c):=by have e:dZ c=((aB (dm c)&&aC (aY c))&&@decide (gq c.2.1 (dm c) [] (λ_=>true) (wS c)) (Classical.propDecidable _)):=rfl;rw[e,awG,awG]at h;exact⟨h.1.1,h.1.2,(@ayi _ (Classical.propDecidable _)).1 h.2⟩
theorem arA{d:List aV}{f g:aF}{s:Sp.Bytes}:ai5 d f g s=true↔Yj d f g s:=@ayi _ (Classical.propDecidable _)
theorem an6{d:List aV}{f g:aF}{r:Sp.LS}(h:Sp.isSet r (Yj d f g))(s:Sp.Bytes):dQ r s=ai5 d f g s:=by rw[aw6,arA];exact h.2 s
theorem Xp{s:bQ}{f:aF}(h:(aT s f).2=true):aC (aT s f).1=true:=by
 rcases iI s f with⟨e,_⟩|⟨n,hn,h1,h2,h3,e⟩
 .rw[e]at h;cases h
 .exact Ld f h2
theorem Ur(c:dR)(f:aF):∃c' df,Sp.updated c f c' df (dZ c&&(aT (aY c) f).2):=by
 cases hk:(dZ c&&(aT (aY c) f).2)with
 |false=>exact⟨c,[],hk.symm,λh=>(by cases h),λ_=>⟨rfl,rfl⟩⟩
 |true=>have hk':=hk;rw[awG]at hk';obtain⟨h1,h2,h3⟩:=Lc hk'.1;have hst:=Xp hk'.2;rcases hs:(aT (aY c) f).1 with⟨a,fs,nx,u⟩;rw[hs]at hst;obtain⟨out,h⟩:=Ba (fs:=fs) (a:=a) (nx:=nx) (d:=dm c) (wS c) (ai5 (dm c) (au (aY c) f.1).1 f);refine⟨(a,fs,nx,dm c,out,()),I8 (wS c) out,hk.symm,λ_=>⟨hs.symm,rfl,?_,rfl⟩,λh=>(by cases h)⟩;rw[hs];exact h (by rw[h1];exact hst)
theorem abg:OK BJ.e:=by
 refine XA.ok mixed (ax [D7.e,yI.e,zV.e,pI.e,sJ.e,zW.e] ⟨ac3,Xm,QF,Fp,H8,YU,trivial⟩) H0 (λ⟨c,f,_⟩ _=>by obtain⟨c',df,h⟩:=Ur c f;exact⟨((((c'.1,c'.2.1,c'.2.2.1,c'.2.2.2.1,c'.2.2.2.2.1,()),df,(dZ c&&(aT (aY c) f).2),()),())),h⟩) (by kernel_rfl) (show∀c0 c1 c2 c3 c4 f0 f1 f2 f3 f4,BJ.goal (abh c0 c1 c2 c3 c4 f0 f1 f2 f3 f4) ((c0,c1,c2,c3,c4,()),(f0,f1,f2,f3,f4,()),())from ?_);intro a l nx d r f0 f1 f2 f3 f4 hin hp;dsimp only[BJ]at hp ⊢;obtain⟨hc,hf,hhc,hhf⟩:=hp;refine⟨⟨hc.1,hf⟩,?_⟩;rintro⟨⟨⟨sa,sl,sn,⟨⟩⟩,ok,⟨⟩⟩,⟨⟩⟩ ⟨e1,e2,e3,e4⟩;have es:((sa,sl,sn,()):bQ)=(aT (a,l,nx,()) (f0,f1,f2,f3,f4,())).1:=Qx e1 e2 e3;have e4:ok=(aT (a,l,nx,()) (f0,f1,f2,f3,f4,())).2:=e4;have bad:∀z:dR,(dZ (a,l,nx,d,r,())&&(aT (a,l,nx,()) (f0,f1,f2,f3,f4,())).2)=false->z=(a,l,nx,d,r,())->Sp.updated (a,l,nx,d,r,()) (f0,f1,f2,f3,f4,()) z [] false:=λz hz e=>⟨hz.symm,λh=>(by cases h),λ_=>⟨e,rfl⟩⟩;dsimp only;refine af (λh=>⟨hc,λr1 hr1=>bad _ ?_ hr1⟩) λh=>⟨hc,af (λh2=>⟨hc,λr1 hr1=>bad _ ?_ hr1⟩) λh2=>⟨hc.1,?_⟩⟩
 .have h:ok=false:=dX h;rw[← e4,h,axo]
 .rw[dX h2];rfl
 have h:ok=true:=dw h;have h2:=dw h2;obtain⟨hst,hok,hev⟩:=Lc h2;have hst:aB d=true:=hst;have hlen:=(qf hst).2;have hfind:bY (au (a,l,nx,()) f0).1/\OM (au (a,l,nx,()) f0).1:=by
  rcases lG l f0 with⟨h,_⟩|⟨n,hn,h,_,_⟩
  .have e:au (a,l,nx,()) f0=(Vw,false):=by show(bif decide (Sp.place l f0<0)then _ else _)=_;rw[h];rfl
   rw[e];exact⟨axg _,axg _⟩
  .have e:au (a,l,nx,()) f0=(Sp.fileAt l n,true):=by show(bif decide (Sp.place l f0<0)then _ else(Sp.fileAt l (Sp.place l f0).toNat,true))=_;rw[h,awT (by omega)];rfl
   rw[e];have hm:Sp.fileAt l n∈l:=getD_mem hn;exact⟨hc.1.2.2 _ hm,hhc _ hm⟩
 have hh:(au (a,l,nx,()) f0).1.2.2.2.2.1.length<=500:=hfind.2;have hh2:f4.length<=500:=hhf;refine⟨⟨hc.2.1,hlen,hfind.1,hf,by omega⟩,λr10 afb=>⟨⟨hc,?_,hc.2.1⟩,λr11 afc=>?_⟩⟩
 .rw[es];exact MS hc.1 hf
 .rw[es]at afc;obtain⟨g1,g2,g3⟩:=afc;have hrep:(aT (a,l,nx,()) (f0,f1,f2,f3,f4,())).2=true:=e4▸h;have hz:(aB d&&aC (aT (a,l,nx,()) (f0,f1,f2,f3,f4,())).1)=true:=by rw[hst,Xp hrep];rfl
  have apc:r11.1.2.2.1=true:=g1.trans hz;have hz2:(dZ (a,l,nx,d,r,())&&(aT (a,l,nx,()) (f0,f1,f2,f3,f4,())).2)=true:=by rw[h2,hrep];rfl
  obtain⟨k1,k2,k3,k4⟩:=g2 apc;refine⟨apc.trans hz2.symm,λ_=>⟨k1,k2,?_,k4⟩,λhno=>by rw[apc]at hno;cases hno⟩;refine Ug k3 (λi hi=>an6 afb _) λ_ _ _=>rfl
theorem afd:OK FD.e:=by refine PA.ok mixed (ax [] trivial) aha (by kernel_rfl) (show∀a b,FD.goal (afe a b) (a,b,())from ?_);intro a b hin hp;dsimp only[FD]at hp ⊢;exact eqL (K:=λr=>r=(decide (a=b),())) (λx y:Int×Unit=>x.1 !=y.1) (λx y=>by simp[ayu]) _ a b _ hin.1.1 rfl
theorem abj:OK BL.e:=by
 refine PA.ok mixed (ax [FD.e] ⟨afd,trivial⟩) H0 (by kernel_rfl) (show∀a0 a1 b0 b1,BL.goal (abk a0 a1 b0 b1) ((a0,a1,()),(b0,b1,()),())from ?_);intro a0 a1 b0 b1 hin hp;dsimp only[BL]at hp ⊢;refine af (λh0=>⟨trivial,?_⟩) λh0=>?_
 all_goals refine congrArg (·,()) (aw6.2 ?_)
 .simp[awQ.1 h0]
 .simp[show a0≠b0 by simpa using h0]
theorem Y7:OK Aa.e:=by refine PA.ok mixed (ax [BL.e] ⟨abj,trivial⟩) abl (by kernel_rfl) (show∀a b,Aa.goal (Y8 a b) (a,b,())from ?_);intro a b hin hp;dsimp only[Aa]at hp ⊢;exact atu (K:=λr=>r=(decide (a=b),())) (λx y=>!decide (x=y)) (λx y=>by simp) _ a b _ hin.1.1 rfl
theorem Y9:OK Ac.e:=by
 refine PA.ok mixed (ax [Aa.e,FB.e,DU.e] ⟨Y7,aff,acw,trivial⟩) H0 (by kernel_rfl) (show∀a0 a1 a2 a3 a4 b0 b1 b2 b3 b4,Ac.goal (Za a0 a1 a2 a3 a4 b0 b1 b2 b3 b4) ((a0,a1,a2,a3,a4,()),(b0,b1,b2,b3,b4,()),())from ?_);intro a0 a1 a2 a3 a4 b0 b1 b2 b3 b4 hin hp;dsimp only[Ac]at hp ⊢;refine⟨trivial,af (λh0=>⟨trivial,af (λh1=>⟨trivial,?_⟩) λh1=>?_⟩) λh0=>?_⟩
 all_goals refine congrArg (·,()) (aw6.2 ?_)
 .have h0:=gI h0;have h1:=gI h1;simp only[Prod.mk.injEq]at h0;obtain⟨rfl,rfl,rfl,_⟩:=h0;subst h1;simp
 .have h1:=gZ h1;simp[h1]
 .have h0:=gZ h0;simp only[axa,ayh,false_iff,Prod.mk.injEq,azv]at h0 ⊢;exactλh=>h0 ⟨h.1,h.2.1,h.2.2.1⟩
theorem ai6{a:List fD}{fs:List aF}{nx:Int}{d:List aV}{r:List dH}(h1:a=Sp.usual)(h2:aC (a,fs,nx,())=true)(h3:bn (a,fs,nx,()))(h4:0<fs.length)(h5:aI d)(h6:aB d=true)(h7:gq fs d [] (λ_=>true) r):OO (a,fs,nx,d,r,()):=by refine⟨⟨h3,h5,IG h7 h5.1 h3.2.1 La⟩,h1,h4,?_⟩;rw[ag0 (by rw[h6,h2];rfl) h7,awS rfl]
theorem akg:∃c,OO c/\0<c.2.2.2.1.length:=by obtain⟨out,h⟩:=Ba (fs:=[(1,0,false,0,[],())]) (a:=Sp.usual) (nx:=2) (d:=[([100,97],[(1,0,0,[],0,0,[],())],())]) [] (λ_=>true);exact⟨_,ai6 rfl Qy.1 Qy.2 (by decide) (KU Ej (by simp) (by simp)) agM (h (by rw[agM,Qy.1];rfl)),Nat.zero_lt_one⟩
theorem ahb:OK Gy.e:=by
 refine XA.ok mixed (ax [vO.e,Cm.e,uI.e] ⟨NT,SY,Js,trivial⟩) ai7 (λ_ _=>by obtain⟨c,h⟩:=akg;exact⟨(((c.1,c.2.1,c.2.2.1,c.2.2.2.1,c.2.2.2.2.1,()),()),(([],0,0,()),())),⟨axm 0,h⟩⟩) (by kernel_rfl) (show∀c0 c1 c2,Gy.goal (ahc c0 c1 c2) ((c0,c1,c2,()),())from ?_);intro b i h hin hp;dsimp only[Gy]at hp ⊢;refine⟨hp,λr0 hr0=>⟨hr0.1,λr1 hr1=>⟨⟨hr0.2.2.2.2.1,hr1.2.2.1⟩,?_⟩⟩⟩;rintro⟨⟨⟨a,fs,nx,d,r,⟨⟩⟩,ok,⟨⟩⟩,⟨⟩⟩ ⟨e1,e2,_⟩;have hz:(aB r1.1.1&&aC r0.1.1)=true:=by rw[hr1.2.2.2.1,hr0.2.2.1];rfl
 obtain⟨k1,k2,k3⟩:=e2 (e1.trans hz);have k1:((a,fs,nx,()):bQ)=r0.1.1:=k1;have k2:d=r1.1.1:=k2;refine⟨hr1.1,?_⟩;subst k2;rw[← k1]at hr0 k3;exact⟨ai6 hr0.2.1 hr0.2.2.1 hr0.2.2.2.2.1 hr0.2.2.2.2.2 hr1.2.2.1 hr1.2.2.2.1 k3,hr1.2.2.2.2⟩
end Go.Proofs.Tryz
namespace Go.Proofs.Tryz
open Go Go.Fw Go.IntWalk Sp
theorem Us:OK uP.e:=by
 refine XA.ok mixed (ax [] trivial) VB (λ⟨(i,o,s,l,a,_),name,(k,n,w,_),_⟩ _=>⟨(((i,o,s,l,dU a name k n w,()),()),()),⟨rfl,rfl,rfl,rfl,rfl⟩⟩) (by kernel_rfl) (show∀f0 f1 f2 f3 f4 name v0 v1 v2,uP.goal (Ut f0 f1 f2 f3 f4 name v0 v1 v2) ((f0,f1,f2,f3,f4,()),name,(v0,v1,v2,()),())from ?_);intro f0 f1 f2 f3 f4 name k n s hin hp;dsimp only[uP]at hp ⊢;have hp:f4.length<=1000:=hp;refine bZ (λi(x:List aQ)=>(((),i,()),x,())) (λy=>y.1.2.1) (λ_ _=>rfl) f4.length (by omega) (λm l=>l=(f4.take m).filter (fV name)) (by simp) (λI μ m l hm hJ next=>?_) λI μ l hJ=>?_
 .subst hJ;have hl:=SK f4 (fV name) m;dsimp only;refine bU (by omega) ⟨⟨by omega,by omega⟩,af (λh=>⟨⟨by omega,by omega⟩,by rw[bM];simp only[awL,awP];omega,rfl,next _ ?_⟩) λh=>⟨rfl,next _ ?_⟩⟩
  .rw[Eh _ hm,if_pos (show fV name (cu f4 m)=true from h)];rfl
  .rw[Eh _ hm,if_neg (show ¬fV name (cu f4 m)=true fromλh'=>by have h:fV name (cu f4 m)=false:=h;rw[h]at h';cases h'),axB]
 .rw[aw0]at hJ;have hl:l.length<=1000:=by rw[hJ];have:=aw8 (fV name) f4;omega
  dsimp only;refine bV (by omega) (af (λh=>?_) λh=>?_)
  .have hk:k≠0:=by simpa using h
   have fin:∀m:Nat,m<=l.length->(∀i,i<m->gJ name (cu l i)=true)->(m<l.length->gJ name (cu l m)=false)->
    ((0:Int)<=m/\(m:Int)<=l.length)/\0+(List.drop 0 (List.take m l)).length<=big/\(List.drop 0 (List.take m l)).length+[(name,k,n,s,())].length<=big/\((0:Int)<=m/\(m:Int)<=l.length)/\
    (List.drop 0 (List.take m l)++[(name,k,n,s,())]).length+(List.drop m (List.take l.length l)).length<=big/\
    (f0=f0/\f1=f1/\f2=f2/\f3=f3/\List.drop 0 (List.take m l)++[(name,k,n,s,())]++List.drop m (List.take l.length l)=dU f4 name k n s):=by
    intro m hm h1 h2;refine⟨⟨by omega,by omega⟩,?_,?_,⟨by omega,by omega⟩,?_,rfl,rfl,rfl,rfl,agA hk hJ hm h1 h2⟩
    all_goals
     rw[bM];simp only[awN,axk,awK,awL,awP];omega
   refine jd l.length (by omega) (λm=>∀i,i<m->gJ name (cu l i)=true) (λi hi=>by omega) (λI μ m hm hJ2 next=>?_) λI μ hJ2=>?_
   .dsimp only;refine bU (by omega) ⟨⟨by omega,by omega⟩,hm,af (λh2=>⟨rfl,next (eY (f:=λi=>gJ name (cu l i)) hJ2 h2)⟩) λh2=>?_⟩;exact fin m (by omega) hJ2 λ_=>h2
   .dsimp only;exact bV (by omega) (fin l.length (awY _) hJ2 λh'=>by omega)
  .have hk:k=0:=by simpa using h
   subst hk;exact⟨rfl,rfl,rfl,rfl,by rw[aax];exact hJ⟩
theorem ajd{s:bQ}(h:aC s=true){i j:Nat}(hi:i<s.2.1.length)(hj:j<s.2.1.length)(e:(Sp.fileAt s.2.1 i).1=(Sp.fileAt s.2.1 j).1):i=j:=by
 rcases ayN i j with h1|h1|h1
 .have:=Xr h j i h1 hj;omega
 .exact h1
 .have:=Xr h i j h1 hi;omega
theorem arB{c c1:dR}{g:aF}{df:List Hf}{ok:Bool}{m:Nat}(hcur:dZ c=true)(hm:m<c.2.1.length)(hid:(Sp.fileAt c.2.1 m).1=g.1)(hg:bT c.1 g=true)(h:Sp.updated c g c1 df ok):
 ok=true/\df=I8 (wS c) (wS c1)/\aY c1=(c.1,c.2.1.set m g,c.2.2.1,())/\dm c1=dm c/\dZ c1=true:=by
 obtain⟨hst,hok,hev⟩:=Lc hcur;have hrep:∃n,n<c.2.1.length/\Sp.place c.2.1 g.1=n/\aT (aY c) g=((c.1,c.2.1.set n g,c.2.2.1,()),true):=by
  rcases iI (aY c) g with⟨_,e⟩|⟨n,hn,h1,h2,h3,e⟩
  .refine(e ⟨hok,?_,hg⟩).elim;rcases lG c.2.1 g.1 with⟨_,h2⟩|⟨k,_,h2,_⟩
   .exact(h2 m hm hid).elim
   .show 0<=Sp.place c.2.1 g.1;omega
  .exact⟨n,hn,h1,e⟩
 obtain⟨n,hn,hpl,hr⟩:=hrep;have hnm:n=m:=by
  rcases lG c.2.1 g.1 with⟨_,h2⟩|⟨k,hk,h2,h3,_⟩
  .exact(h2 m hm hid).elim
  .have:k=n:=by omega
   subst this;exact ajd hok hk hm (h3.trans hid.symm)
 subst hnm;have hfind:(au (aY c) g.1).1=Sp.fileAt c.2.1 n:=by show(bif decide (Sp.place c.2.1 g.1<0)then _ else(Sp.fileAt c.2.1 (Sp.place c.2.1 g.1).toNat,true)).1=_;rw[hpl,awT (by omega)];rfl
 obtain⟨u1,u2,_⟩:=h;have hz:(dZ c&&(aT (aY c) g).2)=true:=by rw[hcur,hr];rfl
 have hok1:ok=true:=u1.trans hz;obtain⟨k1,k2,k3,k4⟩:=u2 hok1;have hst2:=Ld g hok;rw[hr]at k1 k3 hst2;rw[hfind]at k3;have hd:=(qf hst).1;obtain⟨aH,hl⟩:=aeN hst;obtain⟨E,hE⟩:=Xe [] (λ_=>true) hd hl (xC hst2);have e:=arC hd hn hid hev k3 hE;refine⟨hok1,k4,k1,k2,?_⟩;obtain⟨a,l,nx,d,r,_⟩:=c1;have k1':((a,l,nx,()):bQ)=(c.1,c.2.1.set n g,c.2.2.1,()):=k1;have k2:d=dm c:=k2;have e:r=E:=e;subst k2 e;have hl2:l=c.2.1.set n g:=congrArg (λs:bQ=>s.2.1) k1';rw[ag0 (out:=r) (by rw[hst,k1',hst2];rfl) (by rw[hl2];exact hE),awS rfl]
theorem an7{c:dR}(hok:aC (aY c)=true){m:Nat}(hm:m<c.2.1.length):bT c.1 (Sp.fileAt c.2.1 m)=true:=(kL.1 ((jU.1 hok).1 m hm)).1
theorem ahh{a:List fD}{f:aF}(h:bT a f=true):iy a f.2.2.2.2.1=true/\f.2.2.2.2.1.length<=5:=by unfold bT at h;simp only[awG]at h;have h1:=h.1.1.1.1;have h2:=h.1.1.1.2;refine⟨h1,awR (amu h1) ?_⟩;unfold fO at h2;rw[awG,axa]at h2;omega
theorem asO{c:dR}(hok:aC (aY c)=true):RS c:=λf hf=>by
 obtain⟨i,hi,rfl⟩:=axl hf;have at_:Sp.fileAt c.2.1 i=c.2.1[i]:=by unfold Sp.fileAt;rw[awI,awM hi];rfl
 have:=(ahh (an7 hok hi)).2;rw[at_]at this;exact awR this (by decide)
theorem akh{c:dR}(h:dZ c=true)(hs:aI (dm c)):iq c:=by
 obtain⟨hst,hok,hev⟩:=Lc h;have hf:c.2.1.length<=12:=(jU.1 hok).2.2.1;have apd:=(jU.1 hok).2.1;have h5:c.1.length<=5:=by have apd:fO c.1=true:=apd;unfold fO at apd;rw[awG,axa]at apd;omega
 refine⟨⟨by show c.1.length<=1000;omega,by show c.2.1.length<=1000;omega,λf hf=>awR (asO hok f hf) (by decide)⟩,hs,IG hev hs.1 (by omega) La⟩
end Go.Proofs.Tryz
namespace Go.Proofs.Tryz
open Go Go.Fw Go.IntWalk Sp
theorem without_take(a b:List (Int×Unit)){n:Nat}(h:n<a.length):(a.take (n+1)).filter (λx=>!fE b x.1)=(a.take n).filter (λx=>!fE b x.1)++(bif !fE b (a.getD n (0,())).1 then[a.getD n (0,())]else[]):=jF (λx:Int×Unit=>!fE b x.1) (0,()) a h
theorem ahi:OK Gw.e:=by
 refine XA.ok mixed (ax [nD.e] ⟨Gg,trivial⟩) aje (λ⟨a,b,_⟩ _=>⟨((Sp.without b a,Sp.without a b,()),()),⟨rfl,rfl⟩⟩) (by kernel_rfl) (show∀a b,Gw.goal (ahj a b) (a,b,())from ?_);intro a b hin hp;dsimp only[Gw]at hp ⊢;obtain⟨ha,hb⟩:a.length<=1000/\b.length<=1000:=hp;have fl:∀(p:Int×Unit->Bool)(l:List (Int×Unit)) n,((l.take n).filter p).length<=n:=λp l n=>by have:=aw8 p (l.take n);rw[awK]at this;omega
 refine bZ (λi(x:List (Int×Unit))=>(((),i,()),x,())) (λy=>y.1.2.1) (λ_ _=>rfl) b.length (by omega) (λn l=>l=(b.take n).filter λx=>!fE a x.1) rfl (λI μ n l hn hJ next=>?_) λI μ l hJ=>?_
 .subst hJ;have hl:=fl (λx=>!fE a x.1) b n;have step:=without_take b a hn;dsimp only;refine bU (by omega) ⟨⟨by omega,by omega⟩,trivial,af (λh=>⟨⟨by omega,by omega⟩,by rw[bM];simp only[awL,awP];exact awR (Nat.add_le_add_right hl _) (by omega),rfl,next _ ?_⟩) λh=>⟨rfl,next _ ?_⟩⟩
  .have h:(!fE a (b.getD n (0,())).1)=true:=h;rw[step,h];rfl
  .have h:(!fE a (b.getD n (0,())).1)=false:=h;rw[step,h];simp
 .subst hJ;rw[aw0];dsimp only;refine bV (by omega) (bZ (λi(x:List (Int×Unit))=>(((),i,()),x,())) (λy=>y.1.2.1) (λ_ _=>rfl) a.length (by omega) (λn l=>l=(a.take n).filter λx=>!fE b x.1) rfl (λI μ n l hn hJ next=>?_) λI μ l hJ=>?_)
  .subst hJ;have hl:=fl (λx=>!fE b x.1) a n;have step:=without_take a b hn;dsimp only;refine bU (by omega) ⟨⟨by omega,by omega⟩,trivial,af (λh=>⟨⟨by omega,by omega⟩,by rw[bM];simp only[awL,awP];exact awR (Nat.add_le_add_right hl _) (by omega),rfl,next _ ?_⟩) λh=>⟨rfl,next _ ?_⟩⟩
   .have h:(!fE b (a.getD n (0,())).1)=true:=h;rw[step,h];rfl
   .have h:(!fE b (a.getD n (0,())).1)=false:=h;rw[step,h];simp
  .subst hJ;rw[aw0];dsimp only;exact bV (by omega) ⟨rfl,rfl⟩
theorem Zd:OK zY.e:=by
 refine XA.ok mixed (ax [Gw.e,l7.e] ⟨ahi,BP,trivial⟩) abp (λ⟨a,b,_⟩ _=>⟨((I8 a b,()),()),rfl⟩) (by kernel_rfl) (show∀a b,zY.goal (Ze a b) (a,b,())from ?_);intro a b hin hp;dsimp only[zY]at hp ⊢;obtain⟨ha,hb⟩:aU a/\aU b:=hp;have hbl:=hb.1;refine bZ (λi(x:List Hf)=>(((),i,()),x,())) (λy=>y.1.2.1) (λ_ _=>rfl) b.length (by omega) (λn l=>l=((b.take n).map (uy a)).filter AA) rfl (λI μ n l hn hJ next=>?_) λI μ l hJ=>?_
 .subst hJ;have hl:(((b.take n).map (uy a)).filter AA).length<=n:=by have:=aw8 AA ((b.take n).map (uy a));rw[awV,awK]at this;omega
  have step:=ag7 a b hn;have l1:=Xo ha (b.getD n oW).1;have l2:(b.getD n oW).2.1.length<=1000:=JS hb hn;dsimp only;refine bU (by omega) ⟨⟨by omega,by omega⟩,ha,⟨by omega,by omega⟩,⟨l1,l2⟩,?_⟩;rintro⟨⟨x,y,⟨⟩⟩,⟨⟩⟩ ⟨e1,e2⟩;have e1:x=Sp.without (b.getD n oW).2.1 (fF a (b.getD n oW).1):=e1;have e2:y=Sp.without (fF a (b.getD n oW).1) (b.getD n oW).2.1:=e2;have hd:uy a (b.getD n oW)=((b.getD n oW).1,x,y,()):=by rw[e1,e2];rfl
  have hz:AA (uy a (b.getD n oW))=decide (0<x.length+y.length):=by rw[hd];rfl
  have small:(((b.take n).map (uy a)).filter AA).length+1<=big:=by rw[bM];omega
  dsimp only;refine af (λh=>⟨⟨by omega,by omega⟩,small,rfl,next _ ?_⟩) λh=>af (λh2=>⟨⟨by omega,by omega⟩,small,rfl,next _ ?_⟩) λh2=>⟨rfl,next _ ?_⟩
  .have h:(x.length:Int)>0:=gI h;rw[step,hz,awS (by omega),hd];rfl
  .have h2:(y.length:Int)>0:=gI h2;rw[step,hz,awS (by omega),hd];rfl
  .have h:¬(x.length:Int)>0:=gZ h;have h2:¬(y.length:Int)>0:=gZ h2;rw[step,hz,awT (by omega)];simp
 .subst hJ;rw[aw0];dsimp only;exact bV (by omega) rfl
theorem afg{α:Type}(p:α->Bool)(d:α)(l:List α){n:Nat}(h:n<l.length):(l.take (n+1)).any p=((l.take n).any p||p (l.getD n d)):=by rw[Sp.take_succ' l n d h,List.any_append];simp
theorem asP{r0 r3:Sp.LS}{f g:aF}{q:List bI}(h0:dA r0 (gX f g))(h3:dA r3 (lq q)):(r3.any λx=>dQ r0 x.1)=(lq q).any λt=>(gX f g).contains t:=by rw[← aqw h0 h3,aw6,axH,axH];exact⟨λ⟨x,hx,h⟩=>⟨x,iw.1 h,iw.2 hx⟩,λ⟨x,hx,h⟩=>⟨x,iw.1 h,iw.2 hx⟩⟩
theorem QW:OK rD.e:=by
 refine XA.ok mixed (ax [zk.e,BG.e,D6.e,yH.e,FC.e] ⟨MK,aa5,acZ,Xk,aeX,trivial⟩) Rz (λ⟨d,f,g,_⟩ hp=>by obtain⟨r,h⟩:=Un d f g;exact⟨((r,()),()),h⟩) (by kernel_rfl) (show∀d a0 a1 a2 a3 a4 b0 b1 b2 b3 b4,rD.goal (QX d a0 a1 a2 a3 a4 b0 b1 b2 b3 b4) (d,(a0,a1,a2,a3,a4,()),(b0,b1,b2,b3,b4,()),())from ?_);intro d a0 a1 a2 a3 a b0 b1 b2 b3 b hin hp;dsimp only[rD]at hp ⊢;obtain⟨hd,hf,hg,hab⟩:aI d/\bY (a0,a1,a2,a3,a,())/\bY (b0,b1,b2,b3,b,())/\a.length+b.length<=1000:=hp;have hl:=hd.1;refine af (λh=>⟨hl,Um (ayI.1 h)⟩) λh=>⟨⟨hf,hg,hab⟩,?_⟩;have hid:a0=b0:=amq h;rintro⟨⟨r0,⟨⟩⟩,⟨⟩⟩ hr0;have hr0:dA r0 (gX (a0,a1,a2,a3,a,()) (b0,b1,b2,b3,b,())):=hr0;dsimp only;generalize hF:((a0,a1,a2,a3,a,()):aF)=F at*;generalize hG:((b0,b1,b2,b3,b,()):aF)=G at*;have apb:(a3 !=b3)=(F.2.2.2.1 !=G.2.2.2.1):=by rw[← hF,← hG]
 refine bZ (λi(x:Sp.LS)=>(((),i,()),x,())) (λy=>y.1.2.1) (λ_ _=>rfl) d.length (by omega) (λn l=>l=((d.take n).filter (mD F G)).map λx=>(x.1,())) rfl (λI μ n l hn hJ next=>?_) λI μ l hJ=>?_
 .subst hJ;have hl:=Dp (mD F G) (λx:aV=>(x.1,())) d n;dsimp only;rw[apb];refine bU (by omega) ⟨λy=>y.1.1=(Sp.linked (d.getD n Bj).2.1&&F.2.2.2.1 !=G.2.2.2.1),af (λh=>⟨⟨by omega,by omega⟩,trivial,rfl,?_⟩) λh=>⟨rfl,?_⟩,?_⟩
  .rw[h,ayE];rfl
  .rw[h,axo]
  rintro⟨⟨hit,⟨⟩⟩,⟨⟩⟩ hhit;have hhit:hit=(Sp.linked (d.getD n Bj).2.1&&F.2.2.2.1 !=G.2.2.2.1):=hhit;refine⟨⟨by omega,by omega⟩,o6 hd hn,?_⟩;rintro⟨⟨r6,⟨⟩⟩,⟨⟩⟩ SS;have SS:dA r6 (lq (d.getD n Bj).2.1):=SS;have h6:=SS.1;dsimp only;refine bZ (λi(x:Bool)=>((x,i,()),())) (λy=>y.1.2.1) (λ_ _=>rfl) r6.length (by omega) (λk x=>x=(hit||(r6.take k).any λt=>dQ r0 t.1)) (by simp) (λI μ k x hk hJ Po=>?_) λI μ x hJ=>?_
  .have step:=afg (λt:Sp.Bytes×Unit=>dQ r0 t.1) ([],()) r6 hk;dsimp only;refine bU (by omega) (af (λh=>⟨rfl,Po _ ?_⟩) λh=>⟨⟨by omega,by omega⟩,trivial,rfl,Po _ ?_⟩)
   .have h:x=true:=h;rw[h]at hJ;rw[step,← Bool.or_assoc,← hJ];rfl
   .have h:x=false:=h;rw[h]at hJ;rw[step,← Bool.or_assoc,← hJ,ayg,awO]
  .rw[aw0,asP hr0 SS]at hJ;have ht:x=mD F G (d.getD n Bj):=by rw[hJ,hhit];unfold mD;rw[Bool.or_comm]
   dsimp only;refine bV (by omega) (af (λh=>⟨⟨by omega,by omega⟩,by rw[bM];simp only[awL,awP];omega,rfl,next _ ?_⟩) λh=>⟨rfl,next _ ?_⟩)
   .have h:x=true:=h;rw[jF (mD F G) Bj d hn,← ht,h,axq];rfl
   .have h:x=false:=h;rw[jF (mD F G) Bj d hn,← ht,h,axq];simp
 .subst hJ;rw[aw0];dsimp only;exact bV (by omega) (QO (by rw[← hF,← hG];exact hid))
def Xt(l:Sp.LS):Prop:=l.Pairwise λx y=>Op.bytesLess x.1 y.1=true
theorem aqz{x:Sp.Bytes×Unit}{r:Sp.LS}{s:Sp.Bytes}:yU (x::r) s=if Op.bytesLess x.1 s=true then x::yU r s else if x.1=s then x::r else(s,())::x::r:=by
 unfold yU;by_cases h:Op.bytesLess x.1 s=true
 .rw[if_pos h,List.takeWhile_cons_of_pos (p:=λx:Sp.Bytes×Unit=>Op.bytesLess x.1 s) h];dsimp only;rw[awL];cases hc:(decide ((r.takeWhile λx=>Op.bytesLess x.1 s).length<r.length)&&(r.getD (r.takeWhile λx=>Op.bytesLess x.1 s).length ([],())).1==s)with
  |true=>
   have:(decide ((r.takeWhile λx=>Op.bytesLess x.1 s).length+1<(x::r).length)&&((x::r).getD ((r.takeWhile λx=>Op.bytesLess x.1 s).length+1) ([],())).1==s)=true:=by rw[← hc,awL];simp[List.getD_cons_succ]
   rw[this];rfl
  |false=>
   have:(decide ((r.takeWhile λx=>Op.bytesLess x.1 s).length+1<(x::r).length)&&((x::r).getD ((r.takeWhile λx=>Op.bytesLess x.1 s).length+1) ([],())).1==s)=false:=by rw[← hc,awL];simp[List.getD_cons_succ]
   rw[this];rfl
 .rw[if_neg h,List.takeWhile_cons_of_neg (p:=λx:Sp.Bytes×Unit=>Op.bytesLess x.1 s) h];by_cases e:x.1=s
  .rw[if_pos e];simp[e]
  .rw[if_neg e];simp[awJ.2 e]
theorem QY{s:Sp.Bytes}:∀{l:Sp.LS},Xt l->Xt (yU l s)
 |[],_=>ayD _ _
 |y::r,h=>by
  obtain⟨h1,h2⟩:=axA.1 h;have i1:=QY (s:=s) h2;rw[aqz];by_cases c1:Op.bytesLess y.1 s=true
  .rw[if_pos c1];refine axA.2 ⟨λz hz=>?_,i1⟩;rcases(qN z).1 hz with rfl|hz
   .exact c1
   .exact h1 z hz
  .rw[if_neg c1];by_cases c2:y.1=s
   .rw[if_pos c2];exact h
   .rw[if_neg c2];have c3:Op.bytesLess s y.1=true:=Xu y.1 s (by simpa using c1) c2;refine axA.2 ⟨λz hz=>?_,h⟩;rcases aw9.1 hz with rfl|hz
    .exact c3
    .exact AB _ _ _ c3 (h1 z hz)
theorem an8{l b:Sp.LS}(h:Xt l)(hs:∀x∈l,x∈b):l.length<=b.length:=by
 have hn:l.Nodup:=by unfold List.Nodup;exact List.Pairwise.imp (λ{a b} hab e=>Dv hab (congrArg Prod.fst e)) h
 exact aa9 l b hn hs
structure Rd(d:List aV)(names out:Sp.LS):Prop where
 asc:Xt out
 base:∀x∈names,x∈out
 reach:∀x∈out,Sp.Reach d (λs=>dQ names s=true) x.1
 sub:∀x∈out,x∈names++iV d
theorem Rd.len{d:List aV}{names out:Sp.LS}(h:Rd d names out):out.length<=names.length+d.length:=by
 have:=an8 h.asc h.sub;rw[awN]at this;have e:(iV d).length=d.length:=by unfold iV;rw[awV]
 omega
theorem Rd.put{d:List aV}{names out:Sp.LS}(h:Rd d names out){i:Nat}(hi:i<d.length){s:Sp.Bytes}(hs:(s,())∈out)(ha:s∈pG (dW d i)):Rd d names (yU out (Sp.nameOf d i)) where
 asc:=QY h.asc
 base:=λx hx=>(qN x).2 (.inr (h.base x hx))
 reach:=λx hx=>by
  rcases(qN x).1 hx with rfl|hx
  .exact .step (h.reach _ hs) hi ha
  .exact h.reach x hx
 sub:=λx hx=>by
  rcases(qN x).1 hx with rfl|hx
  .exact aw2.2 (.inr (QU hi))
  .exact h.sub x hx
def shut(d:List aV)(out:Sp.LS):Prop:=∀i,i<d.length->∀s∈pG (dW d i),(s,())∈out->(Sp.nameOf d i,())∈out
def amv(d:List aV)(out:Sp.LS):Nat:=((List.range d.length).filter λi=>dQ out (Sp.nameOf d i)).length
theorem asQ(d:List aV)(out:Sp.LS):amv d out<=d.length:=by have:=aw8 (λi=>dQ out (Sp.nameOf d i)) (List.range d.length);rw[List.length_range]at this;exact this
theorem asR{d:List aV}{a b:Sp.LS}(h:∀x∈a,x∈b){i:Nat}(hi:i<d.length)(h1:(Sp.nameOf d i,()) ∉ a)(h2:(Sp.nameOf d i,())∈b):amv d a<amv d b:=
 Sp.filter_lt (λj hj=>iw.2 (h _ (iw.1 hj))) ⟨i,axE.2 hi,iw.2 h2,by rw[axX];exactλh'=>h1 (iw.1 h')⟩
theorem MV:OK nR.e:=by
 refine XA.ok mixed (ax [zk.e,D5.e,oM.e] ⟨MK,acW,xE,trivial⟩) NY (λ⟨d,names,_⟩ hp=>by obtain⟨r,h⟩:=Uo d hp.2.1 names hp.2.2;exact⟨((r,()),()),h⟩) (by kernel_rfl) (show∀d names,nR.goal (MW d names) (d,names,())from ?_);intro d names hin hp;dsimp only[nR]at hp ⊢;obtain⟨hd,hd5,hnl⟩:aI d/\d.length<=5/\names.length<=900:=hp;refine bZ (λi(x:Sp.LS)=>((x,i,()),())) (λy=>y.1.2.1) (λ_ _=>rfl) names.length (by omega) (λn l=>Xt l/\∀x,x∈l↔x∈names.take n) ⟨List.Pairwise.nil,λx=>by simp⟩ (λI μ n l hn hJ next=>?_) λI μ l hJ=>?_
 .obtain⟨h1,h2⟩:=hJ;have hl:=an8 h1 λx hx=>(h2 x).1 hx;rw[awK]at hl;dsimp only;refine bU (by omega) ⟨⟨by omega,by omega⟩,by omega,rfl,next _ ⟨QY h1,λx=>?_⟩⟩;rw[qN,h2,Sp.take_succ' names n ([],()) hn,aw2,axy,awO];exact Or.comm
 obtain⟨h1,h2⟩:=hJ;rw[aw0]at h2;dsimp only;refine bV (by omega) ⟨λy=>∃r:Nat,y.1.2.1=r/\r<=d.length+1/\Rd d names y.1.1/\(shut d y.1.1\/r<=amv d y.1.1),λy=>((d.length:Int)+1-y.1.2.1).toNat,⟨0,rfl,by omega,⟨h1,λx hx=>(h2 x).2 hx,λx hx=>.base (iw.2 ((h2 x).1 hx)),λx hx=>aw2.2 (.inl ((h2 x).1 hx))⟩,.inr (axg _)⟩,?_⟩;rintro⟨⟨out,_,⟨⟩⟩,⟨⟩⟩ ⟨rd,rfl,hrd,R,hcl⟩;dsimp only at R hcl ⊢;refine af (λhc=>?_) λhc=>?_
 .have hc:(rd:Int)<=d.length:=gI hc;have w:IntKind.i64.wrap ((rd:Int)+1)=((rd+1:Nat):Int):=fQ _ (by omega);rw[w];refine bZ (λi(x:Sp.LS)=>((x,i,()),())) (λy=>y.1.2.1) (λ_ _=>rfl) d.length (by omega) (λi o=>Rd d names o/\(∀x∈out,x∈o)/\(∀j,j<i->∀s∈pG (dW d j),(s,())∈out->(Sp.nameOf d j,())∈o)/\(shut d out->∀x∈o,x∈out)) ⟨R,λx hx=>hx,λj hj=>by omega,λ_ x hx=>hx⟩ (λI μ i o hi hJ next=>?_) λI μ o hJ=>?_
  .obtain⟨R2,g1,g2,g3⟩:=hJ;dsimp only;rw[awO];refine bU (by omega) ⟨⟨by omega,by omega⟩,o6 hd hi,?_⟩;rintro⟨⟨r7,⟨⟩⟩,⟨⟩⟩ hr7;have hr7:dA r7 (pG (dW d i)):=hr7;have h7:=hr7.1;dsimp only;refine bZ (λk(x:Sp.LS)=>((x,k,()),())) (λy=>y.1.2.1) (λ_ _=>rfl) r7.length (by omega) (λk o3=>Rd d names o3/\(∀x∈o,x∈o3)/\(∀t,t<k->r7.getD t ([],())∈out->(Sp.nameOf d i,())∈o3)/\(shut d out->∀x∈o3,x∈out)) ⟨R2,λx hx=>hx,λt ht=>by omega,g3⟩ (λI μ k o3 hk hJ Po=>?_) λI μ o3 hJ=>?_
   .obtain⟨R3,k1,k2,k3⟩:=hJ;have hl3:=R3.len;have hmem:r7.getD k ([],())∈r7:=getD_mem (d:=(([]:Sp.Bytes),())) hk;have hask:(r7.getD k ([],())).1∈pG (dW d i):=(hr7.2 _).1 hmem;dsimp only;rw[awO];refine bU (by omega) ⟨⟨by omega,by omega⟩,trivial,af (λh=>⟨⟨by omega,by omega⟩,by omega,rfl,Po _ ⟨R3.put hi (iw.1 h) hask,λx hx=>(qN x).2 (.inr (k1 x hx)),λt _ _=>(qN _).2 (.inl rfl),λhs x hx=>?_⟩⟩) λh=>⟨rfl,Po _ ⟨R3,k1,λt ht hto=>?_,k3⟩⟩⟩
    .rcases(qN x).1 hx with rfl|hx
     .exact hs i hi _ hask (k3 hs _ (iw.1 h))
     .exact k3 hs x hx
    .rcases awZ t k with h'|h'
     .exact k2 t h' hto
     .have:t=k:=by omega
      subst this;have h':dQ o3 (r7.getD t ([],())).1=true:=iw.2 (k1 _ (g1 _ hto));have h:dQ o3 (r7.getD t ([],())).1=false:=h;rw[h]at h';cases h'
   .obtain⟨R3,k1,k2,k3⟩:=hJ;dsimp only;refine bV (by omega) ⟨rfl,next _ ⟨R3,λx hx=>k1 x (g1 x hx),λj hj s hs hso=>?_,k3⟩⟩;rcases awZ j i with h'|h'
    .exact k1 _ (g2 j h' s hs hso)
    .have:j=i:=by omega
     subst this;obtain⟨t,ht,e⟩:=axl ((hr7.2 s).2 hs);have hat:r7.getD t ([],())=(s,()):=by rw[awI,awM ht,e];rfl
     exact k2 t ht (by rw[hat];exact hso)
  .obtain⟨R2,g1,g2,g3⟩:=hJ;dsimp only;refine bV (by omega) ⟨rfl,⟨rd+1,rfl,by omega,R2,?_⟩,by dsimp only;omega⟩;by_cases hs:shut d out
   .left;intro i hi s hs' hso;exact g1 _ (hs i hi s hs' (g3 hs _ hso))
   .right;rcases hcl with hcl|hcl
    .exact(hs hcl).elim
    .obtain⟨i,hi⟩:=ayZ.1 hs;have hi1:i<d.length:=axi λh=>hi λh'=>(h h').elim;obtain⟨s,hs2⟩:=ayZ.1 λh=>hi λ_=>h;have hs3:s∈pG (dW d i):=axi λh=>hs2 λh'=>(h h').elim;have hs4:(s,())∈out:=axi λh=>hs2 λ_ h'=>(h h').elim;have hs5:(Sp.nameOf d i,()) ∉ out:=λh=>hs2 λ_ _=>h;have:=asR g1 hi1 hs5 (g2 i hi1 s hs3 hs4);show rd+1<=amv d o;omega
 .have hc:¬(rd:Int)<=d.length:=gZ hc;have hl:=R.len;have hs:shut d out:=by
   rcases hcl with hcl|hcl
   .exact hcl
   .have:=asQ d out;omega
  refine⟨by rw[bM];omega,by show out.length<=1000;omega,λs=>?_⟩;rw[iw];refine⟨λh=>R.reach _ h,λh=>?_⟩;show(s,())∈out
  induction h with
  |base hb=>exact R.base _ (iw.1 hb)
  |step _ hj ha ih=>exact hs _ hj _ ha ih
theorem Xv:OK yJ.e:=by refine XA.ok mixed (ax [nR.e,rD.e] ⟨MV,QW,trivial⟩) H0 (λ⟨d,f,g,_⟩ hp=>by obtain⟨r,h⟩:=an4 d hp.2.1 f g;exact⟨((r,()),()),h⟩) (by kernel_rfl) (show∀d a0 a1 a2 a3 a4 b0 b1 b2 b3 b4,yJ.goal (Xw d a0 a1 a2 a3 a4 b0 b1 b2 b3 b4) (d,(a0,a1,a2,a3,a4,()),(b0,b1,b2,b3,b4,()),())from ?_);intro d a0 a1 a2 a3 a b0 b1 b2 b3 b hin hp;dsimp only[yJ]at hp ⊢;obtain⟨h1,h2,h3,h4,h5⟩:=hp;exact⟨⟨h1,h3,h4,h5⟩,λr0 hr0=>⟨⟨h1,h2,by have:=hr0.1;omega⟩,λr1 hr1=>aqx hr0 hr1⟩⟩
theorem ann{c:dR}{s:bQ}{d:List aV}(nm:Sp.Bytes->Bool)(h:(aB d&&aC s)=true):∃c' df,Sp.turned c s d nm c' df true:=by obtain⟨c',df,g⟩:=ag9 c s d nm;rw[h]at g;exact⟨c',df,g⟩
theorem ahk:OK Gx.e:=by refine XA.ok mixed (ax [zY.e,BD.e] ⟨Zd,aaV,trivial⟩) H0 (λ⟨c,s,d,names,_⟩ hp=>by obtain⟨c',df,h⟩:=ann (c:=c) (dQ names) hp.2.2.2;exact⟨((((c'.1,c'.2.1,c'.2.2.1,c'.2.2.2.1,c'.2.2.2.2.1,()),df,()),())),h⟩) (by kernel_rfl) (show∀l0 l1 l2 l3 l4 s0 s1 s2 d names,Gx.goal (ahl l0 l1 l2 l3 l4 s0 s1 s2 d names) ((l0,l1,l2,l3,l4,()),(s0,s1,s2,()),d,names,())from ?_);intro a l nx d0 r0 sa sl sn d names hin hp;dsimp only[Gx]at hp ⊢;obtain⟨hc,hs,hd,hz⟩:=hp;have hr:aU r0:=hc.2.2;refine⟨⟨hs,hd,hr⟩,?_⟩;rintro⟨⟨out,ok,⟨⟩⟩,⟨⟩⟩ ⟨e1,e2⟩;have e1:ok=(aB d&&aC (sa,sl,sn,())):=e1;have e2:ok=true->gq sl d r0 (dQ names) out:=e2;have hev:=e2 (e1.trans hz);exact⟨⟨hr,IG hev hd.1 hs.2.1 hr⟩,λr3 hr3=>⟨hz.symm,λ_=>⟨rfl,rfl,hev,hr3⟩,λh=>by cases h⟩⟩
end Go.Proofs.Tryz
namespace Go.Proofs.Tryz
open Go Go.Fw Go.IntWalk Sp
theorem abq:OK BK.e:=by
 refine XA.ok mixed (ax [Gx.e,yJ.e,sK.e,tV.e,qC.e,CS.e] ⟨ahk,Xv,H9,L9,Em,Tf,trivial⟩) ac5 (λ⟨c,f,_⟩ _=>by obtain⟨c',df,h⟩:=Ur c f;exact⟨((((c'.1,c'.2.1,c'.2.2.1,c'.2.2.2.1,c'.2.2.2.2.1,()),df,(dZ c&&(aT (aY c) f).2),()),())),h⟩) (by kernel_rfl) (show∀l0 l1 l2 l3 l4 f0 f1 f2 f3 f4,BK.goal (abr l0 l1 l2 l3 l4 f0 f1 f2 f3 f4) ((l0,l1,l2,l3,l4,()),(f0,f1,f2,f3,f4,()),())from ?_);intro a l nx d r f0 f1 f2 f3 f4 hin hp;dsimp only[BK]at hp ⊢;obtain⟨hc,hf,hhc,hhf⟩:=hp;refine⟨hc,?_⟩;rintro⟨⟨c',⟨⟩⟩,⟨⟩⟩ ec;have ec:c'=(a,l,nx,d,r,()):=ec;subst ec;refine⟨hc.1,⟨hc.1,hf⟩,?_⟩;rintro⟨⟨⟨sa,sl,sn,⟨⟩⟩,ok,⟨⟩⟩,⟨⟩⟩ ⟨e1,e2,e3,e4⟩;have es:((sa,sl,sn,()):bQ)=(aT (a,l,nx,()) (f0,f1,f2,f3,f4,())).1:=Qx e1 e2 e3;have e4:ok=(aT (a,l,nx,()) (f0,f1,f2,f3,f4,())).2:=e4;have bad:(dZ (a,l,nx,d,r,())&&(aT (a,l,nx,()) (f0,f1,f2,f3,f4,())).2)=false->Sp.updated (a,l,nx,d,r,()) (f0,f1,f2,f3,f4,()) (a,l,nx,d,r,()) [] false:=λhz=>⟨hz.symm,λh=>(by cases h),λ_=>⟨rfl,rfl⟩⟩;dsimp only;refine⟨hc,af (λh2=>bad ?_) λh2=>af (λh=>bad ?_) λh=>?_⟩
 .rw[dX h2];rfl
 .have h:ok=false:=dX h;rw[← e4,h,axo]
 have h:ok=true:=dw h;have h2:=dw h2;obtain⟨hst,hok,hev⟩:=Lc h2;have hst:aB d=true:=hst;have hlen:=(qf hst).2;have hfind:bY (au (a,l,nx,()) f0).1/\OM (au (a,l,nx,()) f0).1:=by
  rcases lG l f0 with⟨h,_⟩|⟨n,hn,h,_,_⟩
  .have e:au (a,l,nx,()) f0=(Vw,false):=by show(bif decide (Sp.place l f0<0)then _ else _)=_;rw[h];rfl
   rw[e];exact⟨axg _,axg _⟩
  .have e:au (a,l,nx,()) f0=(Sp.fileAt l n,true):=by show(bif decide (Sp.place l f0<0)then _ else(Sp.fileAt l (Sp.place l f0).toNat,true))=_;rw[h,awT (by omega)];rfl
   rw[e];have hm:Sp.fileAt l n∈l:=getD_mem hn;exact⟨hc.1.2.2 _ hm,hhc _ hm⟩
 have hh:(au (a,l,nx,()) f0).1.2.2.2.2.1.length<=500:=hfind.2;have hh2:f4.length<=500:=hhf;have hrep:(aT (a,l,nx,()) (f0,f1,f2,f3,f4,())).2=true:=e4▸h;have hz:(aB d&&aC (aT (a,l,nx,()) (f0,f1,f2,f3,f4,())).1)=true:=by rw[hst,Xp hrep];rfl
 have hz2:(dZ (a,l,nx,d,r,())&&(aT (a,l,nx,()) (f0,f1,f2,f3,f4,())).2)=true:=by rw[h2,hrep];rfl
 refine⟨⟨hc.2.1,hlen,hfind.1,hf,by omega⟩,λr10 afb=>⟨⟨hc,?_,hc.2.1,?_⟩,λr11 afc=>?_⟩⟩
 .rw[es];exact MS hc.1 hf
 .rw[es];exact hz
 .rw[es]at afc;obtain⟨g1,g2,g3⟩:=afc;obtain⟨k1,k2,k3,k4⟩:=g2 rfl;exact⟨hz2.symm,λ_=>⟨k1,k2,Ug k3 (λi hi=>an6 afb _) λ_ _ _=>rfl,k4⟩,λhno=>by cases hno⟩
theorem asT{a b:dR}(h1:aY a=aY b)(h2:dm a=dm b)(h3:wS a=wS b):a=b:=by obtain⟨x1,x2,x3,x4,x5,_⟩:=a;obtain⟨y1,y2,y3,y4,y5,_⟩:=b;have t1:x1=y1:=congrArg (λs:bQ=>s.1) h1;have t2:x2=y2:=congrArg (λs:bQ=>s.2.1) h1;have t3:x3=y3:=congrArg (λs:bQ=>s.2.2.1) h1;have t4:x4=y4:=h2;have t5:x5=y5:=h3;rw[t1,t2,t3,t4,t5]
theorem arD{a b:dR}(ha:dZ a=true)(hb:dZ b=true)(h1:aY a=aY b)(h2:dm a=dm b):a=b:=by obtain⟨hst,_,e1⟩:=Lc ha;obtain⟨_,_,e2⟩:=Lc hb;have hf:a.2.1=b.2.1:=congrArg (λs:bQ=>s.2.1) h1;rw[← hf,← h2]at e2;exact asT h1 h2 (QI (qf hst).1 e1 e2)
end Go.Proofs.Tryz
namespace Go.Proofs.Tryz
open Go Go.Fw Go.IntWalk Sp
theorem amw{c:dR}(hok:aC (aY c)=true):ape c:=λf hf=>by
 obtain⟨i,hi,rfl⟩:=axl hf;have at_:Sp.fileAt c.2.1 i=c.2.1[i]:=by unfold Sp.fileAt;rw[awI,awM hi];rfl
 have:=(ahh (an7 hok hi)).2;rw[at_]at this;exact awR this (by decide)
theorem ahm{a:List fD}{l:List aF}{nx:Int}(h:aC (a,l,nx,())=true):∀f∈l,f.2.2.2.2.1.length<=400:=amw (c:=(a,l,nx,[],[],())) h
theorem apf{c c':dR}{f:aF}{df:List Hf}{ok:Bool}(h:Sp.updated c f c' df ok):Sp.became c (aT (aY c) f).1 (dm c) (dZ c&&(aT (aY c) f).2) c' df ok:=by
 have u:=h;obtain⟨u1,u2,u3⟩:=h;refine⟨u1,λhok=>?_,u3⟩;have hz:=u1.symm.trans hok;rw[awG]at hz;obtain⟨k1,k2,_,k4⟩:=u2 hok;rcases iI (aY c) f with⟨e,_⟩|⟨n,hn,h1,h2,h3,e⟩
 .rw[e]at hz;cases hz.2
 .have hid:(Sp.fileAt c.2.1 n).1=f.1:=by
   rcases lG c.2.1 f.1 with⟨g,_⟩|⟨k,hk,g1,g2,_⟩
   .have h1:Sp.place c.2.1 f.1=n:=h1;omega
   .have h1:Sp.place c.2.1 f.1=n:=h1;have:k=n:=by omega
    subst this;exact g2
  exact⟨k1,k2,(arB hz.1 hn hid h3 u).2.2.2.2,k4⟩
theorem ajf:OK IY.e:=by
 refine XA.ok mixed (ax [vM.e,xg.e,IW.e,IX.e,kE.e,dL.e,uI.e] ⟨NP,KQ,aiH,aiR,pY,eG,Js,trivial⟩) akU (λ_ _=>⟨((([],[],0,()),()),(([],0,0,()),())),⟨by decide,⟨by decide,by decide,λf hf=>by cases hf⟩,λf hf=>by cases hf⟩⟩) (by kernel_rfl) (show∀c0 c1 c2,IY.goal (ajg c0 c1 c2) ((c0,c1,c2,()),())from ?_);intro b i h hin hp;dsimp only[IY]at hp ⊢;have hp:0<=i:=hp;refine⟨hp,?_⟩;rintro⟨⟨⟨a,l,nx,⟨⟩⟩,⟨⟩⟩,⟨b0,i0,g0,⟨⟩⟩,⟨⟩⟩ ⟨p0,d1,d2,d3,d4,_⟩;have D:tq 2 (a,l,nx,()):=⟨d1,d2,d3,d4⟩;obtain⟨z0,z1,z2⟩:a.length<=1000/\l.length<=1000/\∀f∈l,bY f:=d4;have z3:l.length<=12:=(jU.1 D.ok).2.2.1;have hh:=ahm D.ok;refine⟨p0,?_⟩;rintro⟨⟨x1,⟨⟩⟩,⟨b1,i1,g1,⟨⟩⟩,⟨⟩⟩ ⟨p1,_⟩;refine af (λ_=>⟨⟨p1,by simp⟩,?_⟩) λ_=>af (λ_=>⟨p1,?_⟩) λ_=>af (λ_=>⟨p1,?_⟩) λ_=>af (λ_=>?_) λ_=>⟨p1,D.small,hh⟩
 .rintro⟨⟨x3,⟨⟩⟩,⟨b3,i3,g3,⟨⟩⟩,⟨⟩⟩ ⟨p3,_⟩;exact⟨p3,⟨z0,z1,z2⟩,hh⟩
 .rintro⟨⟨⟨d,o,s,lk,al,⟨⟩⟩,⟨⟩⟩,⟨b2,i2,g2,⟨⟩⟩,⟨⟩⟩ ⟨p2,ha⟩;have hf:bY (d,o,s,lk,al,()):=(show al.length<=1000 from awR ha (by decide));refine⟨(show l.length+1<=big by rw[bM];omega),p2,⟨z0,?_,λf hf'=>?_⟩,λf hf'=>?_⟩
  .show(l++[_]).length<=1000;rw[awN,awL,awP];omega
  .rcases aw2.1 hf' with h'|h'
   .exact z2 f h'
   .have:f=(d,o,s,lk,al,()):=by simpa using h'
    rw[this];exact hf
  .rcases aw2.1 hf' with h'|h'
   .exact hh f h'
   .have:f=(d,o,s,lk,al,()):=by simpa using h'
    rw[this];exact awR ha (by decide)
 .rintro⟨⟨x3,⟨⟩⟩,⟨b3,i3,g3,⟨⟩⟩,⟨⟩⟩ ⟨p3,hx⟩;exact⟨p3,⟨awR (show x3.length<=6 from hx) (by decide),z1,z2⟩,hh⟩
 .refine⟨λy=>0<=y.2.1.2.1/\tq 2 y.2.2.1,λy=>12-y.2.2.1.2.1.length,⟨p1,D⟩,?_⟩;rintro⟨⟨⟩,⟨b2,i2,g2,⟨⟩⟩,⟨a,l,nx,⟨⟩⟩,⟨⟩⟩ ⟨p2,D⟩;have D:tq 2 (a,l,nx,()):=D;refine af (λhc=>⟨p2,?_⟩) λ_=>⟨p2,D.small,ahm D.ok⟩;have hc:(l.length:Int)<12:=gI hc;rintro⟨⟨⟨d,o,s,lk,al,⟨⟩⟩,⟨⟩⟩,⟨b3,i3,g3,⟨⟩⟩,⟨⟩⟩ ⟨p3,_,ho1,ho2,hl1,hl2,hok,ha⟩;have hf:bY (d,o,s,lk,al,()):=(show al.length<=1000 from awR ha (by decide));refine⟨⟨D.small,hf⟩,?_⟩;rintro⟨⟨⟨a3,l3,nx3,⟨⟩⟩,id3,ok3,⟨⟩⟩,⟨⟩⟩ ⟨e1,e2,e3,_⟩;have e:((a3,l3,nx3,()):bQ)=(dD (a,l,nx,()) (d,o,s,lk,al,())).1:=Qx e1 e2 e3;have hg:=D.grows (f:=(d,o,s,lk,al,())) (show l.length<12 by omega) ⟨ho1,ho2⟩ ⟨hl1,hl2⟩ hok;have e2:l3=(dD (a,l,nx,()) (d,o,s,lk,al,())).1.2.1:=e2;refine⟨rfl,⟨p3,?_⟩,?_⟩
  .show tq 2 (a3,l3,nx3,());rw[e];exact D.create hf
  .show 12-l3.length<12-l.length;have hg:(dD (a,l,nx,()) (d,o,s,lk,al,())).1.2.1.length=l.length+1:=hg;rw[e2,hg];omega
theorem ahn:OK Gz.e:=by refine XA.ok mixed (ax [jo.e] ⟨kN,trivial⟩) H0 (λ_ _=>⟨(([],()),(([],0,0,()),())),⟨by decide,by decide⟩⟩) (by kernel_rfl) (show∀c0 c1 c2,Gz.goal (aho c0 c1 c2) ((c0,c1,c2,()),())from ?_);intro b i h hin hp;dsimp only[Gz]at hp ⊢;exact⟨⟨hp,by simp⟩,λr0 hr0=>⟨hr0.1,(show∀y∈_,List.length y.1<=10 from by decide) _ hr0.2⟩⟩
theorem akV:OK J7.e:=by refine XA.ok mixed (ax [kE.e] ⟨pY,trivial⟩) H0 (λ_ _=>⟨((0,()),(([],0,0,()),())),axm 0⟩) (by kernel_rfl) (show∀c0 c1 c2,J7.goal (akW c0 c1 c2) ((c0,c1,c2,()),())from ?_);intro b i h hin hp;dsimp only[J7]at hp ⊢;exact⟨⟨hp,by simp⟩,λr0 hr0=>hr0.1⟩
theorem ajh:OK I9.e:=by refine XA.ok mixed (ax [mP.e] ⟨Ar,trivial⟩) akX (λ_ _=>⟨(([],()),(([],0,0,()),())),⟨by decide,by decide⟩⟩) (by kernel_rfl) (show∀c0 c1 c2,I9.goal (aji c0 c1 c2) ((c0,c1,c2,()),())from ?_);intro b i h hin hp;dsimp only[I9]at hp ⊢;refine⟨λy=>∃n:Nat,y.1.2.1=n/\1<=n/\n<=8/\0<=y.2.1.2.1/\y.2.2.1.length+1<=n,λy=>(8-y.1.2.1).toNat,⟨1,rfl,awY 1,by decide,hp,awY 1⟩,?_⟩;rintro⟨⟨_,_,⟨⟩⟩,⟨b,i,h,⟨⟩⟩,l,⟨⟩⟩ ⟨n,rfl,h1,h8,hi,hl⟩;dsimp only at hi hl ⊢;have w:IntKind.i64.wrap ((n:Int)+1)=((n+1:Nat):Int):=fQ _ (by omega);rw[w];refine af (λhc=>⟨hi,?_⟩) λhc=>⟨hi,by show l.length<=7;omega⟩;have hc:=gI hc;rintro⟨⟨x,⟨⟩⟩,⟨b1,i1,g1,⟨⟩⟩,⟨⟩⟩ q1;have q1:0<=i1:=q1;dsimp only;refine af (λ_=>⟨by rw[bM];simp only[awL,awP];omega,rfl,⟨n+1,rfl,by omega,by omega,q1,by simp;omega⟩,by dsimp only;omega⟩) λ_=>⟨rfl,⟨n+1,rfl,by omega,by omega,q1,by dsimp only;omega⟩,by dsimp only;omega⟩
theorem any_some:∃c,lU c:=⟨([],[],0,[],[],()),⟨⟨by decide,by decide,λf hf=>by cases hf⟩,Ej,La⟩,λf hf=>(by cases hf),by decide⟩
theorem amx{c:dR}(h:OO c):lU c/\(wS c).length=(dm c).length:=by obtain⟨h1,h2,h3,h4⟩:=h;obtain⟨k1,k2,k3⟩:=Lc h4;exact⟨⟨h1,amw k2,awR (qf k1).2 (by decide)⟩,k3.order.1⟩
theorem ajj:OK Ja.e:=by
 refine XA.ok mixed (ax [IY.e,I4.e,I9.e,dL.e,Gy.e] ⟨ajf,ajb,ajh,eG,ahb,trivial⟩) akY (λ_ _=>by obtain⟨c,h⟩:=any_some;exact⟨(((c.1,c.2.1,c.2.2.1,c.2.2.2.1,c.2.2.2.2.1,()),()),(([],0,0,()),())),⟨axm 0,h⟩⟩) (by kernel_rfl) (show∀c0 c1 c2,Ja.goal (ajk c0 c1 c2) ((c0,c1,c2,()),())from ?_);intro b i h hin hp;dsimp only[Ja]at hp ⊢;refine⟨hp,?_⟩;rintro⟨⟨⟨a,l,nx,d,r,⟨⟩⟩,⟨⟩⟩,⟨b0,i0,g0,⟨⟩⟩,⟨⟩⟩ ⟨p0,hl,hd⟩;have hl:OO (a,l,nx,d,r,()):=hl;have hd:0<d.length:=hd;obtain⟨⟨⟨s1,s2,s3⟩,s4,s5⟩,er⟩:=amx hl;have s3:aU r:=s3;have er:r.length=d.length:=er;refine⟨p0,λr1 hr1=>af (λ_=>⟨hr1.1,λr2 hr2=>⟨⟨axm _,by show(0:Int)<(r.length:Int);omega⟩,(show 0<r.length by omega),hr2.1,?_⟩⟩) λ_=>af (λ_=>⟨hr1.1,λr3 hr3=>?_⟩) λ_=>af (λ_=>⟨hr1.1,λr4 hr4=>?_⟩) λ_=>⟨hr1.1,⟨s1,s2,s3⟩,s4,s5⟩⟩
 .refine⟨⟨s1,s2,by show(r.set 0 _).length<=1000;rw[aw5];exact s3.1,λx hx=>?_⟩,s4,s5⟩;rcases ay9 hx with hx|rfl
  .exact s3.2 x hx
  .exact awR hr2.2 (by decide)
 .exact⟨hr3.1,⟨s1,hr3.2.2,s3⟩,s4,hr3.2.1⟩
 .exact⟨hr4.1,⟨hr4.2.1,s2,s3⟩,hr4.2.2,s5⟩
end Go.Proofs.Tryz
namespace Go.Proofs.Tryz
open Go Go.Fw Go.IntWalk Sp
theorem stays{c:dR}{s:bQ}{d:List aV}{b:Bool}(hb:b=false){z:dR}(e:z=c):Sp.became c s d b z [] false:=⟨hb.symm,λh=>(by cases h),λ_=>⟨e,rfl⟩⟩
end Go.Proofs.Tryz
namespace Go.Proofs.Tryz
open Go Go.Fw Go.IntWalk Sp
theorem ahp:OK GH.e:=by
 refine PA.ok mixed (ax [jb.e] ⟨jJ,trivial⟩) H0 (by kernel_rfl) (show∀f0 f1 f2 f3 f4 u,GH.goal (ahq f0 f1 f2 f3 f4 u) ((f0,f1,f2,f3,f4,()),u,())from ?_);intro f0 f1 f2 f3 f4 u hin hp;dsimp only[GH]at hp ⊢;refine⟨trivial,af (λh=>af (λh2=>?_) λh2=>?_) λh=>?_⟩
 all_goals refine congrArg (·,()) ?_
 .show _=((decide (0<=u)&&decide (u<=2))&&(decide (f1=u)||f2));rw[h,show decide (f1=u)=true from h2];rfl
 .show _=((decide (0<=u)&&decide (u<=2))&&(decide (f1=u)||f2));rw[h,show decide (f1=u)=false from h2];rfl
 .show _=((decide (0<=u)&&decide (u<=2))&&(decide (f1=u)||f2));rw[h];rfl
theorem ahr:OK GI.e:=by
 refine PA.ok mixed (ax [vC.e] ⟨G9,trivial⟩) H0 (by kernel_rfl) (show∀f0 f1 f2 f3 f4 user,GI.goal (ahs f0 f1 f2 f3 f4 user) ((f0,f1,f2,f3,f4,()),user,())from ?_);intro f0 f1 f2 f3 f4 u hin hp;dsimp only[GI]at hp ⊢;refine⟨trivial,af (λh=>af (λh2=>?_) λh2=>?_) λh=>?_⟩
 all_goals refine congrArg (·,()) ?_
 .show _=((decide (0<=u)&&decide (u<=2))&&(decide (f1=u)||f2));rw[h,show decide (f1=u)=true from h2];rfl
 .show _=((decide (0<=u)&&decide (u<=2))&&(decide (f1=u)||f2));rw[h,show decide (f1=u)=false from h2];rfl
 .show _=((decide (0<=u)&&decide (u<=2))&&(decide (f1=u)||f2));rw[h];rfl
theorem QZ:OK Ad.e:=by
 refine PA.ok mixed (ax [jb.e] ⟨jJ,trivial⟩) H0 (by kernel_rfl) (show∀f0 f1 f2 f3 f4 u,Ad.goal (afh f0 f1 f2 f3 f4 u) ((f0,f1,f2,f3,f4,()),u,())from ?_);intro f0 f1 f2 f3 f4 u hin hp;dsimp only[Ad]at hp ⊢;refine⟨trivial,af (λh=>?_) λh=>?_⟩
 all_goals refine congrArg (·,()) ?_
 .show _=((decide (0<=u)&&decide (u<=2))&&decide (f1=u));rw[h];rfl
 .show _=((decide (0<=u)&&decide (u<=2))&&decide (f1=u));rw[h];rfl
theorem afi:OK FH.e:=by
 refine PA.ok mixed (ax [vC.e] ⟨G9,trivial⟩) H0 (by kernel_rfl) (show∀f0 f1 f2 f3 f4 user,FH.goal (afj f0 f1 f2 f3 f4 user) ((f0,f1,f2,f3,f4,()),user,())from ?_);intro f0 f1 f2 f3 f4 u hin hp;dsimp only[FH]at hp ⊢;refine⟨trivial,af (λh=>?_) λh=>?_⟩
 all_goals refine congrArg (·,()) ?_
 .show _=((decide (0<=u)&&decide (u<=2))&&decide (f1=u));rw[h];rfl
 .show _=((decide (0<=u)&&decide (u<=2))&&decide (f1=u));rw[h];rfl
theorem qO:OK jc.e:=by refine XA.ok mixed (ax [] trivial) LH (λ⟨s,_⟩ _=>⟨((s,()),()),rfl⟩) (by kernel_rfl) (show∀s,jc.goal (Lh s) (s,())from ?_);intro s hin hp;dsimp only[jc]at hp ⊢;have hp:s.length<=1000:=hp;intro g hg;refine af (λh=>?_) λh=>⟨by rw[bM];omega,rfl⟩;exact(axJ.1 (hg h)).symm
theorem VD:OK wC.e:=by refine XA.ok mixed (ax [jc.e] ⟨qO,trivial⟩) Xx (λ⟨(i,o,s,l,a,_),_⟩ _=>⟨(((i,o,s,l,a,()),()),()),⟨rfl,rfl,rfl,rfl,rfl⟩⟩) (by kernel_rfl) (show∀f0 f1 f2 f3 f4,wC.goal (VE f0 f1 f2 f3 f4) ((f0,f1,f2,f3,f4,()),())from ?_);intro f0 f1 f2 f3 f4 hin hp;dsimp only[wC]at hp ⊢;exact⟨hp,λr0 hr0=>⟨rfl,rfl,rfl,rfl,hr0⟩⟩
theorem Ib:OK sO.e:=by refine PA.ok mixed (ax [] trivial) H0 (by kernel_rfl) (show∀a0 a1 a2 a3 p10,sO.goal (ac6 a0 a1 a2 a3 p10) ((a0,a1,a2,a3,()),(p10,()),())from ?_);intro a0 a1 a2 a3 p hin hp;dsimp only[sO]at hp ⊢;exact rfl
theorem OG:OK xP.e:=by refine PA.ok mixed (ax [] trivial) H0 (by kernel_rfl) (show∀a0 a1 a2 a3 p10,xP.goal (ac7 a0 a1 a2 a3 p10) ((a0,a1,a2,a3,()),(p10,()),())from ?_);intro a0 a1 a2 a3 p hin hp;dsimp only[xP]at hp ⊢;exact congrArg (·,()) (Xy a0 p)
theorem AL:OK iJ.e:=by refine PA.ok mixed (ax [sO.e] ⟨Ib,trivial⟩) Bf (by kernel_rfl) (show∀s jE,iJ.goal (AO s jE) (s,((jE,()),()),())from ?_);intro l nm hin hp;dsimp only[iJ]at hp ⊢;exact QL (K:=λr=>r=(Sp.findAt (λx:aQ=>x.1==nm) l,())) (λx:aQ=>x.1==nm) ([],0,0,[],()) l _ hin.1.1 rfl
theorem AP:OK iK.e:=by refine PA.ok mixed (ax [xP.e] ⟨OG,trivial⟩) Bg (by kernel_rfl) (show∀s jE,iK.goal (AQ s jE) (s,((jE,()),()),())from ?_);intro l nm hin hp;dsimp only[iK]at hp ⊢;exact QL (K:=λr=>r=(Sp.findAt (λx:aQ=>Op.bytesLess nm x.1) l,())) (λx:aQ=>Op.bytesLess nm x.1) ([],0,0,[],()) l _ hin.1.1 rfl
theorem yY:OK iE.e:=by refine XA.ok mixed (ax [iJ.e,sO.e] ⟨AL,Ib,trivial⟩) AU (λ⟨s,((nm,_),_),_⟩ _=>⟨((s.filter (λx=>!(x.1==nm)),()),()),rfl⟩) (by kernel_rfl) (show∀s Du,iE.goal (yZ s Du) (s,((Du,()),()),())from ?_);intro s nm hin hp;dsimp only[iE]at hp ⊢;exact⟨trivial,an5 (K:=λr=>r.1.1=s.filter λx=>!(x.1==nm)) (λx:aQ=>x.1==nm) ([],0,0,[],()) s _ (by have hp:s.length<=1000:=hp;omega) rfl⟩
theorem aqB{r:List aQ}{x:aQ}{k:Nat}(hk:k<=r.length)(h1:∀i,i<k->Op.bytesLess x.1 (r.getD i ([],0,0,[],())).1=false)(h2:k<r.length->Op.bytesLess x.1 (r.getD k ([],0,0,[],())).1=true):r.take k++([x]++r.drop k)=xB r x:=by
 have e:∀y:aQ,gJ x.1 y=!Op.bytesLess x.1 y.1:=λy=>by rw[← Xy y.1 x.1,Bool.not_not];rfl
 have hl:=abt (gJ x.1) ([],0,0,[],()) r k hk (λi hi=>by rw[e,h1 i hi];rfl) λh=>by rw[e,h2 h];rfl
 unfold xB;rw[apg (gJ x.1) r,aph,hl];rfl
theorem aht:OK GK.e:=by
 refine XA.ok mixed (ax [(qi,.eff (oH kY) tX),iK.e,xP.e,iE.e,sO.e,wC.e] ⟨⟨EH,DK⟩,AP,OG,yY,Ib,VD,trivial⟩) ajl (λ⟨(i,o,s,l,a,_),nm,(k,n,w,_),_⟩ _=>⟨(((i,o,s,l,dU a nm k n w,()),()),()),⟨rfl,rfl,rfl,rfl,rfl⟩⟩) (by kernel_rfl) (show∀f0 f1 f2 f3 f4 name v0 v1 v2,GK.goal (ahu f0 f1 f2 f3 f4 name v0 v1 v2) ((f0,f1,f2,f3,f4,()),name,(v0,v1,v2,()),())from ?_);intro f0 f1 f2 f3 f4 name v0 v1 v2 hin hp;dsimp only[GK]at hp ⊢;have hp:f4.length<=900:=hp;refine⟨by omega,?_⟩;rintro⟨⟨⟨i,o,s,l,a,⟨⟩⟩,⟨⟩⟩,⟨⟩⟩ ⟨e0,e1,e2,e3,e4⟩;obtain rfl:i=f0:=e0;obtain rfl:o=f1:=e1;obtain rfl:s=f2:=e2;obtain rfl:l=f3:=e3;obtain rfl:a=f4:=e4;refine⟨(show a.length<=1000 by omega),?_⟩;rintro⟨⟨r,⟨⟩⟩,⟨⟩⟩ er;have er:r=a.filter (fV name):=er;have hl:r.length<=900:=by rw[er];exact awR (aw8 _ _) hp
 refine af (λh=>⟨rfl,rfl,rfl,rfl,?_⟩) λh=>⟨trivial,?_⟩
 .show r=dU a name v0 v1 v2;unfold dU;rw[awS (awQ.1 h)];exact er
 .have avu:dU a name v0 v1 v2=xB r (name,v0,v1,v2,()):=by unfold dU;rw[awT (awJ.1 h),← er];rfl
  dsimp only;rw[avu];rcases Lj (λx:aQ=>Op.bytesLess name x.1) ([],0,0,[],()) r with⟨g,hg⟩|⟨k,hk,g,gk,hlt⟩
  .rw[g];refine bU (by decide) ⟨⟨by omega,by omega,by omega,rfl⟩,λr3 hr3=>⟨rfl,rfl,rfl,rfl,?_⟩⟩;rw[awO]at hr3;exact hr3.trans (aqB (x:=(name,v0,v1,v2,())) (awY _) hg λh=>(by omega))
  .rw[g];refine bV (by omega) ⟨⟨by omega,by omega,by omega,rfl⟩,λr4 hr4=>⟨rfl,rfl,rfl,rfl,?_⟩⟩;rw[awO]at hr4;exact hr4.trans (aqB (x:=(name,v0,v1,v2,())) (by omega) hlt λ_=>gk)
theorem Xz:OK yK.e:=by
 refine PA.ok mixed (ax [] trivial) Zf (by kernel_rfl) (show∀s0 s1 s2 u,yK.goal (XB s0 s1 s2 u) ((s0,s1,s2,()),u,())from ?_);intro s0 s1 s2 u hin hp;dsimp only[yK]at hp ⊢;have hp:s1.length<=1000:=hp;refine bZ (λi(x:List (Int×Unit))=>(((),i,()),x,())) (λy=>y.1.2.1) (λ_ _=>rfl) s1.length (by omega) (λn l=>l=JC (s1.take n) u) rfl (λI μ n l hn hJ next=>?_) λI μ l hJ=>?_
 .subst hJ;have hl:=aqi (s1.take n) u;rw[awK]at hl;dsimp only;refine bU (by omega) ⟨⟨by omega,by omega⟩,af (λh=>⟨⟨by omega,by omega⟩,by rw[bM];simp only[awL,awP];omega,rfl,next _ ?_⟩) λh=>⟨rfl,next _ ?_⟩⟩
  .rw[agz hn,if_pos (show(Sp.fileAt s1 n).2.1=u from gI h)];rfl
  .rw[agz hn,if_neg (show ¬(Sp.fileAt s1 n).2.1=u from gZ h),axB]
 .subst hJ;dsimp only;refine bV (by omega) ?_;rw[aw0]
theorem ajm:OK Jb.e:=by refine PA.ok mixed (ax [qC.e] ⟨Em,trivial⟩) H0 (by kernel_rfl) (show∀s0 s1 s2 id,Jb.goal (ajn s0 s1 s2 id) ((s0,s1,s2,()),id,())from ?_);intro s0 s1 s2 id hin hp;dsimp only[Jb]at hp ⊢;exact⟨hp,rfl⟩
theorem ahv:OK GL.e:=by refine XA.ok mixed (ax [kE.e] ⟨pY,trivial⟩) H0 (λ_ _=>⟨((0,()),(([],0,0,()),())),axm 0⟩) (by kernel_rfl) (show∀c0 c1 c2,GL.goal (ahw c0 c1 c2) ((c0,c1,c2,()),())from ?_);intro b i h hin hp;dsimp only[GL]at hp ⊢;exact⟨⟨hp,by simp⟩,λr0 hr0=>hr0.1⟩
theorem Uu:OK uQ.e:=by
 refine XA.ok mixed (ax [vO.e,Cm.e,uI.e] ⟨NT,SY,Js,trivial⟩) H0 (λ_ _=>by obtain⟨c,h⟩:=akg;exact⟨(((c.1,c.2.1,c.2.2.1,c.2.2.2.1,c.2.2.2.2.1,()),()),(([],0,0,()),())),⟨axm 0,h⟩⟩) (by kernel_rfl) (show∀c0 c1 c2,uQ.goal (Uw c0 c1 c2) ((c0,c1,c2,()),())from ?_);intro b i h hin hp;dsimp only[uQ]at hp ⊢;refine⟨hp,λr0 hr0=>⟨hr0.1,λr1 hr1=>⟨⟨hr0.2.2.2.2.1,hr1.2.2.1⟩,?_⟩⟩⟩;rintro⟨⟨⟨a,fs,nx,d,r,⟨⟩⟩,ok,⟨⟩⟩,⟨⟩⟩ ⟨e1,e2,_⟩;have hz:(aB r1.1.1&&aC r0.1.1)=true:=by rw[hr1.2.2.2.1,hr0.2.2.1];rfl
 obtain⟨k1,k2,k3⟩:=e2 (e1.trans hz);have k1:((a,fs,nx,()):bQ)=r0.1.1:=k1;have k2:d=r1.1.1:=k2;refine⟨hr1.1,?_⟩;subst k2;rw[← k1]at hr0 k3;exact⟨ai6 hr0.2.1 hr0.2.2.1 hr0.2.2.2.2.1 hr0.2.2.2.2.2 hr1.2.2.1 hr1.2.2.2.1 k3,hr1.2.2.2.2⟩
theorem Tj:OK CU.e:=by
 refine XA.ok mixed (ax [Ja.e,Gz.e,dL.e,mP.e,yK.e,J7.e,GL.e,uQ.e] ⟨ajj,ahn,eG,Ar,Xz,akV,ahv,Uu,trivial⟩) ajo (λ_ _=>by obtain⟨c,h⟩:=any_some;exact⟨(((c.1,c.2.1,c.2.2.1,c.2.2.2.1,c.2.2.2.2.1,()),0,[],0,()),(([],0,0,()),())),⟨axm 0,h⟩⟩) (by kernel_rfl) (show∀c0 c1 c2,CU.goal (ahx c0 c1 c2) ((c0,c1,c2,()),())from ?_);intro b i h hin hp;dsimp only[CU]at hp ⊢;refine⟨hp,?_⟩;rintro⟨⟨c,⟨⟩⟩,⟨b0,i0,g0,⟨⟩⟩,⟨⟩⟩ ⟨p0,hl,hd⟩;have hl:OO c:=hl;have hd:0<(dm c).length:=hd;have hany:=(amx hl).1;refine⟨p0,λr1 hr1=>⟨hr1,λr2 hr2=>⟨hany.1.1.2.1,?_⟩⟩⟩;refine⟨λy=>0<=y.2.1.2.1,af (λhc=>⟨hr2,λr5 hr5=>af (λ_=>⟨hr5,λr6 SS=>⟨⟨SS.2.1,SS.2.2.1 (by have:=gI hc;omega)⟩,rfl,SS.1⟩⟩) λ_=>⟨rfl,hr5⟩⟩) λ_=>⟨rfl,hr2⟩,λy7 hJ=>⟨hJ,λr8 hr8=>⟨hr8.1,λr9 hr9=>?_⟩⟩⟩;have q9:0<=r9.2.1.2.1:=hr9;refine af (λ_=>⟨q9,λr10 afb=>⟨⟨afb.2.1,afb.2.2.1 (by show(0:Int)<((dm c).length:Int);omega)⟩,afb.1,λr11 afc=>?_⟩⟩) λ_=>⟨q9,λr13 avv=>?_⟩
 .have q11:0<=r11.2.1.2.1:=afc;exact af (λ_=>⟨q11,λr12 avw=>avw⟩) λ_=>⟨q11,hany⟩
 .have q13:0<=r13.2.1.2.1:=avv;exact af (λ_=>⟨q13,λuz avx=>avx⟩) λ_=>⟨q13,hany⟩
theorem ahy:OK GN.e:=by
 refine PA.ok mixed (ax [sK.e,Ad.e,qC.e] ⟨H9,QZ,Em,trivial⟩) ajp (by kernel_rfl) (show∀l0 l1 l2 l3 l4 u id,GN.goal (ahz l0 l1 l2 l3 l4 u id) ((l0,l1,l2,l3,l4,()),u,id,())from ?_);intro a l nx d r u id hin hp;dsimp only[GN]at hp ⊢;refine⟨hp.1,af (λh1=>⟨trivial,af (λh2=>⟨hp,?_⟩) λh2=>?_⟩) λh1=>?_⟩
 all_goals refine congrArg (λb:Bool=>((au (a,l,nx,()) id).1,b,())) ?_
 all_goals show _=(((au (a,l,nx,()) id).2&&nG (au (a,l,nx,()) id).1 u)&&dZ (a,l,nx,d,r,()))
 .rw[h1,show nG (au (a,l,nx,()) id).1 u=true from h2];rfl
 .rw[h1,show nG (au (a,l,nx,()) id).1 u=false from h2];rfl
 .rw[h1];rfl
end Go.Proofs.Tryz
namespace Go.Proofs.Tryz
open Go Go.Fw Go.IntWalk Sp
theorem arE{c:dR}(h:ape c)(id:Int):(au (aY c) id).1.2.2.2.2.1.length<=400:=by
 rcases lG c.2.1 id with⟨e,_⟩|⟨n,hn,e,_,_⟩
 .have e':au (aY c) id=(Vw,false):=by show(bif decide (Sp.place c.2.1 id<0)then _ else _)=_;rw[e];rfl
  rw[e'];exact axg _
 .have e':au (aY c) id=(Sp.fileAt c.2.1 n,true):=by show(bif decide (Sp.place c.2.1 id<0)then _ else(Sp.fileAt c.2.1 (Sp.place c.2.1 id).toNat,true))=_;rw[e,awT (by omega)];rfl
  rw[e'];exact h _ (getD_mem hn)
theorem Nq{c c':dR}{g:aF}{df:List Hf}{b ok:Bool}(hb:b=true)(h:Sp.updated c g c' df ok):Sp.changed c g b c' ok:=by obtain⟨h1,h2,h3⟩:=apf h;exact⟨by rw[hb];exact h1,λhok=>⟨(h2 hok).1,(h2 hok).2.1,(h2 hok).2.2.1⟩,λhok=>(h3 hok).1⟩
theorem ano{c z:dR}{g:aF}{b:Bool}(hb:(b&&(dZ c&&(aT (aY c) g).2))=false)(e:z=c):Sp.changed c g b z false:=⟨hb.symm,λh=>(by cases h),λ_=>e⟩
theorem anp(c:dR)(g:aF)(b:Bool):∃c',Sp.changed c g b c' (b&&(dZ c&&(aT (aY c) g).2)):=by
 obtain⟨c',df,h⟩:=Ur c g;cases b with
 |true=>exact⟨c',Nq rfl h⟩
 |false=>exact⟨c,ano rfl rfl⟩
theorem amy{T:Prop}{b:Bool}(h:b=true)(ht:T):bif b then T else((false,()):Bool×Unit)=(true,()):=by rw[h];exact ht
end Go.Proofs.Tryz
namespace Go.Proofs.Tryz
open Go Go.Fw Go.IntWalk Sp
theorem made{c z:dR}{u:Int}{x:zx}{s:bQ}{d:List aV}{b ok:Bool}{df:List Hf}(hu:NZ u=true)(hc:dZ c=true)(h1:an9 c x=s)(h2:aqC c x=d)(h3:asl c u x=b)(h:Sp.became c s d b z df ok):Sp.applied c u x z df ok:=by unfold Sp.applied atz;rw[h1,h2,h3,hu,hc];exact h
theorem asU{c:dR}(h:dZ c=true)(hd:aI (dm c)):lU c:=by obtain⟨k1,k2,_⟩:=Lc h;exact⟨akh h hd,amw k2,awR (qf k1).2 (by decide)⟩
end Go.Proofs.Tryz
namespace Go.Proofs.Tryz
open Go Go.Fw Go.IntWalk Sp
theorem Ll:OK rM.e:=by
 refine PA.ok mixed (ax [qw.e,mW.e,GH.e] ⟨Eg,ve,ahp,trivial⟩) Zi (by kernel_rfl) (show∀s0 s1 s2 u,rM.goal (XC s0 s1 s2 u) ((s0,s1,s2,()),u,())from ?_);intro s0 s1 s2 u hin hp;dsimp only[rM]at hp ⊢;obtain⟨h0,h1,h2⟩:s0.length<=1000/\s1.length<=1000/\∀f∈s1,bY f:=hp;refine⟨by rw[bM];omega,?_⟩;refine bZ (λi(x:List aF)=>((i,()),((),(),s2,()),x,())) (λy=>y.1.1) (λ_ _=>rfl) s1.length (by omega) (λn l=>l=(s1.take n).filter (iP · u)) (by simp) (λI μ n l hn hJ next=>?_) λI μ l hJ=>?_
 .subst hJ;have hl:=SI s1 (iP · u) n;dsimp only;refine bU (by omega) ⟨⟨by omega,by omega⟩,trivial,af (λh=>⟨⟨by omega,by omega⟩,h2 _ (getD_mem (d:=((0:Int),(0:Int),false,(0:Int),[],())) hn),by rw[bM];simp only[awL,awP];omega,rfl,next _ ?_⟩) λh=>⟨rfl,next _ ?_⟩⟩
  .rw[Nk _ hn,if_pos (show iP (Sp.fileAt s1 n) u=true from h)];rfl
  .rw[Nk _ hn,if_neg (show ¬iP (Sp.fileAt s1 n) u=true fromλh'=>by have h:iP (Sp.fileAt s1 n) u=false:=h;rw[h]at h';cases h'),axB]
 .rw[aw0]at hJ;subst hJ;dsimp only;have hl:=aw8 (iP · u) s1;refine bV (by omega) ?_;generalize hfs:List.filter (λx=>iP x u) s1=fs at hl ⊢;refine bZ (λi(x:List aF)=>((i,()),x,())) (λy=>y.1.1) (λ_ _=>rfl) fs.length (by omega) (λn l=>l=jH fs n) (by simp[jH]) (λI μ n l hn hJ next=>?_) λI μ l hJ=>?_
  .subst hJ;have hu:=F9 fs (show n<=fs.length by omega);have ha:=TW fs hn;dsimp only;simp only[awO,ha,hu];refine bU (by omega) ⟨⟨by omega,by omega⟩,hn,trivial,af (λh=>⟨⟨by omega,by omega⟩,hn,trivial,next _ ?_⟩) λh=>⟨rfl,next _ ?_⟩⟩
   .exact((Jg fs hn).1 (gI h)).symm
   .exact((Jg fs hn).2 (gZ h)).symm
  .subst hJ;have hu:=F9 fs (awY fs.length);dsimp only;refine bV (by omega) ?_;show _=(Sp.visible (s0,s1,s2,()) u,());unfold Sp.visible;rw[aaw,← hfs]
theorem Lm:OK rO.e:=by
 refine PA.ok mixed (ax [zi.e,nM.e,GI.e,lQ.e] ⟨MN,yc,ahr,EI,trivial⟩) Zj (by kernel_rfl) (show∀s0 s1 s2 user,rO.goal (XD s0 s1 s2 user) ((s0,s1,s2,()),user,())from ?_);intro s0 s1 s2 u hin hp;dsimp only[rO]at hp ⊢;obtain⟨h0,h1,h2⟩:s0.length<=1000/\s1.length<=1000/\∀f∈s1,bY f:=hp;refine⟨h0,?_⟩;refine bZ (λi(x:List aF)=>((i,()),(s0,(),s2,()),x,())) (λy=>y.1.1) (λ_ _=>rfl) s1.length (by omega) (λn l=>l=(s1.take n).filter (iP · u)) (by simp) (λI μ n l hn hJ next=>?_) λI μ l hJ=>?_
 .subst hJ;have hl:=SI s1 (iP · u) n;dsimp only;refine bU (by omega) ⟨⟨by omega,by omega⟩,trivial,af (λh=>⟨h2 _ (getD_mem (d:=((0:Int),(0:Int),false,(0:Int),[],())) hn),by rw[bM];simp only[awL,awP];omega,rfl,next _ ?_⟩) λh=>⟨rfl,next _ ?_⟩⟩
  .rw[Nk _ hn,if_pos (show iP (Sp.fileAt s1 n) u=true from h)];rfl
  .rw[Nk _ hn,if_neg (show ¬iP (Sp.fileAt s1 n) u=true fromλh'=>by have h:iP (Sp.fileAt s1 n) u=false:=h;rw[h]at h';cases h'),axB]
 .rw[aw0]at hJ;subst hJ;dsimp only;have hl:=aw8 (iP · u) s1;refine bV (by omega) ?_;generalize hfs:List.filter (λx=>iP x u) s1=fs at hl ⊢;refine bZ (λi(x:List aF)=>((i,()),x,())) (λy=>y.1.1) (λ_ _=>rfl) fs.length (by omega) (λn l=>l=jH fs n) (by simp[jH]) (λI μ n l hn hJ next=>?_) λI μ l hJ=>?_
  .subst hJ;have hu:=F9 fs (show n<=fs.length by omega);have ha:=TW fs hn;dsimp only;simp only[awO,ha,hu];refine bU (by omega) ⟨⟨by omega,by omega⟩,hn,trivial,af (λh=>⟨⟨by omega,by omega⟩,hn,trivial,next _ ?_⟩) λh=>⟨rfl,next _ ?_⟩⟩
   .exact((Jg fs hn).1 (gI h)).symm
   .exact((Jg fs hn).2 (gZ h)).symm
  .subst hJ;have hu:=F9 fs (awY fs.length);dsimp only;refine bV (by omega) ?_;show _=(Sp.visible (s0,s1,s2,()) u,());unfold Sp.visible;rw[aaw,← hfs]
theorem Oq:OK qg.e:=by
 refine XA.ok mixed (ax [] trivial) Pv (λ⟨s,i,j,_⟩ _=>⟨((s.take i.toNat++s.drop j.toNat,()),()),rfl⟩) (by kernel_rfl) (show∀s i j,qg.goal (Ot s i j) (s,i,j,())from ?_);intro s i j hin hp;dsimp only[qg]at hp ⊢;obtain⟨h0,h1,h2⟩:0<=i/\i<=j/\j<=(s.length:Int):=hp;obtain⟨a,rfl⟩:∃a:Nat,i=a:=⟨i.toNat,by omega⟩;obtain⟨b,rfl⟩:∃b:Nat,j=b:=⟨j.toNat,by omega⟩;refine⟨⟨h0,h1,h2,axm _⟩,af (λh=>?_) λh=>?_⟩
 .have h:(a:Int)=b:=by simpa using h
  have:a=b:=by omega
  subst this;show s=s.take a++s.drop a;rw[ax8]
 .have h:¬(a:Int)=b:=by simpa using h
  have hb:b<=s.length:=by omega
  have hab:a<b:=by omega
  simp only[awO,Nat.sub_zero,axe];have hn:(List.take (s.length-b) (List.drop b s)).length=s.length-b:=by rw[awK,axk];omega
  have hd:List.take (s.length-b) (List.drop b s)=List.drop b s:=axQ (by rw[axk];omega);have l1:(dF s a (List.take (s.length-b) (List.drop b s))).length=s.length:=WU (by rw[hn];omega);have l2:(dF (dF s a (List.take (s.length-b) (List.drop b s))) (a+(s.length-b)) (List.replicate (s.length-(a+(s.length-b))) (([]:List UInt8),(0:Int),(0:Int),([]:List UInt8),()))).length=s.length:=by rw[WU (by rw[l1,ayQ];omega),l1]
  rw[l1,l2];refine⟨by omega,⟨by omega,by omega⟩,⟨by omega,by omega⟩,⟨by omega,by omega⟩,⟨by omega,by omega,by omega⟩,by omega,⟨by omega,by omega⟩,?_⟩;show List.take (a+(s.length-b)) (dF _ _ _)=s.take a++s.drop b;rw[aaD (awY _) (by rw[l1];omega),arx (by rw[hn]) (by omega),hd]
theorem ahA:OK GR.e:=by
 refine PA.ok mixed (ax [CG.e,FV.e] ⟨Tm,Yy,trivial⟩) H0 (by kernel_rfl) (show∀d name,GR.goal (ahB d name) (d,name,())from ?_);intro d name hin hp;dsimp only[GR]at hp ⊢;have hp:aI d:=hp;refine⟨trivial,?_⟩;have e:jq d name=bif decide (aP d name<0)then(([],[],()),false)else(dP d (aP d name).toNat,true):=rfl
 rw[e];rcases sS d name with⟨h,_⟩|⟨n,hn,h,_,_⟩
 .rw[h];exact bV (by decide) rfl
 .rw[h];refine bU (by omega) ⟨⟨by omega,by omega⟩,hp.2 _ (getD_mem hn),?_⟩;rw[awT (by omega)];rfl
theorem ahC:OK GU.e:=by
 refine PA.ok mixed (ax [zJ.e] ⟨Q5,trivial⟩) ajq (by kernel_rfl) (show∀d name,GU.goal (ahD d name) (d,name,())from ?_);intro d name hin hp;dsimp only[GU]at hp ⊢;have hp:aI d:=hp;refine⟨trivial,?_⟩;have e:jq d name=bif decide (aP d name<0)then(([],[],()),false)else(dP d (aP d name).toNat,true):=rfl
 rw[e];rcases sS d name with⟨h,_⟩|⟨n,hn,h,_,_⟩
 .rw[h];exact bU (by decide) rfl
 .rw[h];have h1:=hp.2 _ (getD_mem (d:=([],[],())) hn);refine bV (by omega) ⟨⟨by omega,by omega⟩,⟨by omega,by omega⟩,?_,?_⟩
  .rw[bM,awO,axe];omega
  .rw[awT (by omega)];rfl
theorem Ht:OK oD.e:=by
 refine XA.ok mixed (ax [zT.e,rO.e,vC.e,oh.e] ⟨QG,Lm,G9,Ei,trivial⟩) H0 (λ⟨s,d,u,_⟩ _=>⟨((vP (Sp.visible s u).2.1 d,true,()),()),λ_=>⟨rfl,rfl⟩⟩) (by kernel_rfl) (show∀s0 s1 s2 d user,oD.goal (RD s0 s1 s2 d user) ((s0,s1,s2,()),d,user,())from ?_);intro s0 s1 s2 d u hin hp;dsimp only[oD]at hp ⊢;obtain⟨hs,hd⟩:bn (s0,s1,s2,())/\aI d:=hp;refine⟨trivial,af (λh=>λhf=>?_) λh=>⟨trivial,af (λh2=>λhf=>?_) λh2=>⟨hs,⟨ER u hs,hd⟩,λr hr hf=>?_⟩⟩⟩
 .have h:=dX h;rw[show aC (s0,s1,s2,())=true from hf.1]at h;cases h
 .have h2:NZ u=false:=dX h2;rw[hf.2.2]at h2;cases h2
 .have hk:r.1.2.1=true:=by rw[hr.1];show(aB d&&aC (Sp.visible (s0,s1,s2,()) u))=true;rw[hf.2.1,XF u hf.1];rfl
  exact⟨(aki (XG hf.2.1) (hr.2 hk)).symm,hk⟩
theorem Hu:OK oG.e:=by
 refine XA.ok mixed (ax [uN.e,rM.e,jB.e,jb.e] ⟨Jt,Ll,ni,jJ,trivial⟩) H0 (λ⟨s,d,u,_⟩ _=>⟨((vP (Sp.visible s u).2.1 d,true,()),()),λ_=>⟨rfl,rfl⟩⟩) (by kernel_rfl) (show∀s0 s1 s2 d u,oG.goal (RG s0 s1 s2 d u) ((s0,s1,s2,()),d,u,())from ?_);intro s0 s1 s2 d u hin hp;dsimp only[oG]at hp ⊢;obtain⟨hs,hd⟩:bn (s0,s1,s2,())/\aI d:=hp;refine⟨trivial,af (λh=>λhf=>?_) λh=>⟨trivial,af (λh2=>λhf=>?_) λh2=>⟨hs,⟨ER u hs,hd⟩,λr hr hf=>?_⟩⟩⟩
 .have h:NZ u=false:=dX h;rw[hf.2.2]at h;cases h
 .have h2:=dX h2;rw[show aC (s0,s1,s2,())=true from hf.1]at h2;cases h2
 .have hk:r.1.2.1=true:=by rw[hr.1];show(aB d&&aC (Sp.visible (s0,s1,s2,()) u))=true;rw[hf.2.1,XF u hf.1];rfl
  exact⟨(aki (XG hf.2.1) (hr.2 hk)).symm,hk⟩
theorem Px{s:bQ}{d:List aV}{u:Int}(hs:bn s)(hd:aI d)(hf:jI s d u):aU (vP (Sp.visible s u).2.1 d):=
 IG (aqD (XF u hf.1) hf.2.1) hd.1 (ER u hs).2.1 La
theorem ahE:OK GV.e:=by refine PA.ok mixed (ax [lZ.e,oD.e] ⟨BO,Ht,trivial⟩) H0 (by kernel_rfl) (show∀s0 s1 s2 d user name,GV.goal (ahF s0 s1 s2 d user name) ((s0,s1,s2,()),d,user,name,())from ?_);intro s0 s1 s2 d u name hin hp;dsimp only[GV]at hp ⊢;obtain⟨hs,hd,hf⟩:bn (s0,s1,s2,())/\aI d/\jI (s0,s1,s2,()) d u:=hp;refine⟨⟨hs,hd⟩,λr hr=>?_⟩;dsimp only;rw[(hr hf).1];exact⟨Px hs hd hf,rfl⟩
theorem ahG:OK GX.e:=by refine PA.ok mixed (ax [l7.e,oG.e] ⟨BP,Hu,trivial⟩) H0 (by kernel_rfl) (show∀s0 s1 s2 d u name,GX.goal (ahH s0 s1 s2 d u name) ((s0,s1,s2,()),d,u,name,())from ?_);intro s0 s1 s2 d u name hin hp;dsimp only[GX]at hp ⊢;obtain⟨hs,hd,hf⟩:bn (s0,s1,s2,())/\aI d/\jI (s0,s1,s2,()) d u:=hp;refine⟨⟨hs,hd⟩,λr hr=>?_⟩;dsimp only;rw[(hr hf).1];exact⟨Px hs hd hf,rfl⟩
theorem afk:OK FI.e:=by refine PA.ok mixed (ax [qQ.e,GV.e] ⟨NQ,ahE,trivial⟩) H0 (by kernel_rfl) (show∀s0 s1 s2 d user name id,FI.goal (afl s0 s1 s2 d user name id) ((s0,s1,s2,()),d,user,name,id,())from ?_);intro s0 s1 s2 d u name id hin hp;dsimp only[FI]at hp ⊢;exact⟨hp,trivial,rfl⟩
theorem Q7:OK Ae.e:=by refine PA.ok mixed (ax [nD.e,GX.e] ⟨Gg,ahG,trivial⟩) H0 (by kernel_rfl) (show∀s0 s1 s2 d u name id,Ae.goal (afm s0 s1 s2 d u name id) ((s0,s1,s2,()),d,u,name,id,())from ?_);intro s0 s1 s2 d u name id hin hp;dsimp only[Ae]at hp ⊢;exact⟨hp,trivial,rfl⟩
theorem Lp:OK rP.e:=by refine PA.ok mixed (ax [] trivial) H0 (by kernel_rfl) (show∀y0 y1 y2 y3 p10 p11 p12 p13,rP.goal (XH y0 y1 y2 y3 p10 p11 p12 p13) ((y0,y1,y2,y3,()),(p10,p11,p12,p13,()),())from ?_);intro y0 y1 y2 y3 x0 x1 x2 x3 hin hp;dsimp only[rP]at hp ⊢;exact congrArg (·,()) rfl
theorem yh:OK iC.e:=by refine PA.ok mixed (ax [rP.e] ⟨Lp,trivial⟩) yS (by kernel_rfl) (show∀s jE apj apk apl,iC.goal (yj s jE apj apk apl) (s,((jE,apj,apk,apl,()),()),())from ?_);intro l n0 n1 n2 n3 hin hp;dsimp only[iC]at hp ⊢;exact QL (K:=λr=>r=(Sp.findAt (λx:aQ=>!Op.bytesLess x.1 n0) l,())) (λx:aQ=>!Op.bytesLess x.1 n0) ([],0,0,[],()) l _ hin.1.1 rfl
theorem amz{l:List aQ}{x:aQ}{k:Nat}(hk:k<=l.length)(h1:∀i,i<k->Op.bytesLess (l.getD i ([],0,0,[],())).1 x.1=true)(h2:k<l.length->Op.bytesLess (l.getD k ([],0,0,[],())).1 x.1=false):l.take k++x::l.drop k=Ju l x:=by have hl:=abt (vY x.1) ([],0,0,[],()) l k hk (λi hi=>h1 i hi) λh=>h2 h;unfold Ju;rw[apg (vY x.1) l,aph,hl]
theorem ahI{a l r:List aQ}{x:aQ}(h:Dw a x=true):jZ a l (x::r)=none:=by rw[jZ,h];rfl
theorem ahJ{a l r:List aQ}{x:aQ}(h:Dw a x=false)(hk:uD a x=true):jZ a l (x::r)=jZ a l r:=by rw[jZ,h,hk];rfl
theorem akj{a l r:List aQ}{x:aQ}(h:Dw a x=false)(hk:uD a x=false):jZ a l (x::r)=jZ a (Ju l x) r:=by rw[jZ,h,hk];rfl
theorem atA{α:Type}(p:α->Bool)(d:α){l:List α}{n:Nat}(h:n<l.length)(hp:p (l.getD n d)=true):l.any p=true:=axH.2 ⟨_,getD_mem h,hp⟩
theorem aoa(x y:aQ):(x.2.1==y.2.1&&(x.2.2.1==y.2.2.1&&(x.2.2.2.1==y.2.2.2.1&&true)))=decide (x.2=y.2):=by obtain⟨a,b,c,d,⟨⟩⟩:=x;obtain⟨a',b',c',d',⟨⟩⟩:=y;rw[aw6];simp
abbrev ahK(x y:aQ):Bool:=y.1==x.1&&!decide (y.2=x.2)
end Go.Proofs.Tryz
namespace Go.Proofs.Tryz
open Go Go.Fw Go.IntWalk Sp
theorem ahL{Y:Type}(mk:Int->Bool->Y)(idx:Y->Int)(hidx:∀i s,idx (mk i s)=i){B:(Y->Prop)->(Y->Nat)->Y->Prop}(a:List aQ)(x:aQ)(hlen:a.length<=1000)
 (hstep:∀I μ(n:Nat),n<a.length->Dw (a.take n) x=false->
   (ahK x (a.getD n ([],0,0,[],()))=false->I (mk (IntKind.i64.wrap ((n:Int)+1)) (uD (a.take n) x||((a.getD n ([],0,0,[],())).1==x.1)))/\μ (mk (IntKind.i64.wrap ((n:Int)+1)) (uD (a.take n) x||((a.getD n ([],0,0,[],())).1==x.1)))<μ (mk n (uD (a.take n) x)))->B I μ (mk n (uD (a.take n) x)))
 (hend:Dw a x=false->∀I μ,B I μ (mk a.length (uD a x))):∃I,∃μ,I (mk 0 false)/\∀y,I y->B I μ y:=by
 refine bZ mk idx hidx a.length (by omega) (λn k=>k=uD (a.take n) x/\Dw (a.take n) x=false) ⟨rfl,rfl⟩ (λI μ n k hn hJ next=>?_) λI μ k hJ=>?_
 .obtain⟨rfl,hc⟩:=hJ;refine hstep I μ n hn hc λh=>next _ ⟨?_,?_⟩
  .unfold uD;rw[afg _ ([],0,0,[],()) a hn]
  .unfold Dw at hc ⊢;rw[afg _ ([],0,0,[],()) a hn,hc,ayg];exact h
 .obtain⟨rfl,hc⟩:=hJ;rw[aw0]at hc ⊢;exact hend hc I μ
theorem amA{a:List aQ}{x:aQ}{n:Nat}(hn:n<a.length)(h:ahK x (a.getD n ([],0,0,[],()))=true):Dw a x=true:=atA _ _ hn h
theorem adN{a b:wU}(ha:a.1=true)(hb:b.1=true):pK a b=acf (jZ a.2.1 a.2.1 b.2.1):=by unfold pK;rw[ha,hb];rfl
theorem abw:OK vS.e:=by
 refine XA.ok mixed (ax [(qi,.eff (oH kY) tX),iC.e,rP.e,jc.e] ⟨⟨EH,DK⟩,yh,Lp,qO,trivial⟩) ac8 (λ⟨a,b,_⟩ _=>⟨((((pK a b).1,(pK a b).2.1,()),()),()),rfl⟩) (by kernel_rfl) (show∀a0 a1 b0 b1,vS.goal (abx a0 a1 b0 b1) ((a0,a1,()),(b0,b1,()),())from ?_);intro a0 a1 b0 b1 hin hp;dsimp only[vS]at hp ⊢;have hp:a1.length+b1.length<=900:=hp;refine⟨λ_=>a0=true/\b0=true,af (λh=>?_) λh=>af (λh2=>?_) λh2=>⟨rfl,dw h,dw h2⟩,?_⟩
 .have h:=dX h;subst h;rfl
 .have h2:=dX h2;have h:=dw h;subst h2 h;rfl
 .rintro _ ⟨rfl,rfl⟩;refine⟨by omega,?_⟩;rintro⟨⟨r2,⟨⟩⟩,⟨⟩⟩ e;have e:r2=a1:=e;subst e;have eE:pK (true,r2,()) (true,b1,())=acf (jZ r2 r2 b1):=adN rfl rfl;dsimp only;refine bZ (λi(l:List aQ)=>((i,()),(true,(),()),l,())) (λy=>y.1.1) (λ_ _=>rfl) b1.length (by omega) (λn l=>jZ r2 r2 b1=jZ r2 l (b1.drop n)/\l.length<=r2.length+n) ⟨by rw[axU],by omega⟩ (λI μ n l hn hJ next=>?_) λI μ l hJ=>?_
  .obtain⟨hm,hl⟩:=hJ;have hd:=drop_cons b1 n ([],0,0,[],()) hn;dsimp only;rw[awO];generalize hx:b1.getD n ([],0,0,[],())=x at hd ⊢;rw[hd]at hm;refine bU (by omega) ⟨⟨by omega,by omega⟩,?_⟩;refine ahL (λi k=>((k,i,()),())) (λy=>y.1.2.1) (λ_ _=>rfl) r2 x (by omega) (λI1 μ1 m hmn hc nx=>?_) λhc I1 μ1=>?_
   .dsimp only;rw[awO];refine bU (by omega) ⟨⟨by omega,by omega⟩,?_⟩;rw[aoa];generalize hy:r2.getD m ([],0,0,[],())=y at nx ⊢;refine af (λhs=>af (λh=>?_) λh=>?_) λhs=>?_
    .have h:ahK x y=true:=by show(y.1==x.1&&_)=true;rw[hs];exact h
     have hcl:Dw r2 x=true:=amA hmn (by rw[hy];exact h);show(false,[],())=_;rw[eE,hm,ahI hcl];rfl
    .have nx:=nx (by show(y.1==x.1&&_)=false;rw[hs];exact h);refine af (λhk=>?_) λhk=>?_
     .rw[hk,azL]at nx;rw[hk];exact⟨rfl,nx⟩
     .rw[hk,ayg]at nx;rw[hk];exact⟨rfl,nx⟩
    .have nx:=nx (by show(y.1==x.1&&_)=false;rw[hs];rfl);refine af (λhk=>?_) λhk=>?_
     .rw[hk,azL]at nx;rw[hk];exact⟨rfl,nx⟩
     .rw[hk,ayg]at nx;rw[hk];exact⟨rfl,nx⟩
   .dsimp only;refine bV (by omega) (af (λhk=>⟨rfl,next _ ⟨?_,?_⟩⟩) λhk=>⟨trivial,?_⟩)
    .rw[hm,ahJ hc hk]
    .omega
    .rw[akj hc hk]at hm;have fin:∀l',l'=Ju l x->jZ r2 r2 b1=jZ r2 l' (b1.drop (n+1))/\l'.length<=r2.length+(n+1):=λl' e=>by rw[e,afn];exact⟨hm,by omega⟩
     rcases Lj (λy:aQ=>!Op.bytesLess y.1 x.1) ([],0,0,[],()) l with⟨g,hg⟩|⟨k,hk2,g,gk,hlt⟩
     .rw[g];refine bU (by decide) ⟨⟨by omega,by omega,by omega,rfl⟩,λr8 hr8=>⟨rfl,next _ (fin _ ?_)⟩⟩;rw[awO]at hr8;exact hr8.trans (amz (awY _) (λi hi=>by have:=hg i hi;simpa using this) λh=>(by omega))
     .rw[g];refine bV (by omega) ⟨⟨by omega,by omega,by omega,rfl⟩,λr9 hr9=>⟨rfl,next _ (fin _ ?_)⟩⟩;rw[awO]at hr9;exact hr9.trans (amz (by omega) (λi hi=>by have:=hlt i hi;simpa using this) λ_=>by simpa using gk)
  .obtain⟨hm,hl⟩:=hJ;dsimp only;refine bV (by omega) ?_;show(true,l,())=_;rw[eE,hm,azK];rfl
end Go.Proofs.Tryz
namespace Go.Proofs.Tryz
open Go Go.Fw Go.IntWalk Sp
theorem aby:OK vT.e:=by
 refine PA.ok mixed (ax [] trivial) ac9 (by kernel_rfl) (show∀a0 a1 b0 b1,vT.goal (abz a0 a1 b0 b1) ((a0,a1,()),(b0,b1,()),())from ?_);intro a0 a1 b0 b1 hin hp;dsimp only[vT]at hp ⊢;have hp:a1.length+b1.length<=900:=hp;refine⟨λ_=>a0=true/\b0=true,af (λh=>?_) λh=>af (λh2=>?_) λh2=>⟨rfl,dw h,dw h2⟩,?_⟩
 .have h:=dX h;subst h;rfl
 .have h2:=dX h2;have h:=dw h;subst h2 h;rfl
 .rintro _ ⟨rfl,rfl⟩;refine⟨by rw[bM];omega,by rw[bM];omega,?_⟩;have eE:pK (true,a1,()) (true,b1,())=acf (jZ a1 a1 b1):=adN rfl rfl;dsimp only;refine bZ (λi(l:List aQ)=>(((),i,()),l,())) (λy=>y.1.2.1) (λ_ _=>rfl) b1.length (by omega) (λn l=>jZ a1 a1 b1=jZ a1 l (b1.drop n)/\l.length<=a1.length+n) ⟨by rw[axU],by omega⟩ (λI μ n l hn hJ next=>?_) λI μ l hJ=>?_
  .obtain⟨hm,hl⟩:=hJ;have hd:=drop_cons b1 n ([],0,0,[],()) hn;dsimp only;rw[awO];generalize hx:b1.getD n ([],0,0,[],())=x at hd ⊢;rw[hd]at hm;refine bU (by omega) ⟨⟨by omega,by omega⟩,?_⟩;refine ahL (λi k=>((k,i,()),())) (λy=>y.1.2.1) (λ_ _=>rfl) a1 x (by omega) (λI1 μ1 m hmn hc nx=>?_) λhc I1 μ1=>?_
   .dsimp only;rw[awO];refine bU (by omega) ⟨⟨by omega,by omega⟩,hmn,?_⟩;rw[aoa];generalize hy:a1.getD m ([],0,0,[],())=y at nx ⊢;refine af (λhs=>⟨⟨by omega,by omega⟩,hmn,af (λh=>?_) λh=>?_⟩) λhs=>?_
    .have h:ahK x y=true:=by show(y.1==x.1&&_)=true;rw[hs];exact h
     have hcl:Dw a1 x=true:=amA hmn (by rw[hy];exact h);refine congrArg (·,()) (show(false,[],())=pK (true,a1,()) (true,b1,())from ?_);rw[eE,hm,ahI hcl];rfl
    .have nx:=nx (by show(y.1==x.1&&_)=false;rw[hs];exact h);refine af (λhk=>?_) λhk=>?_
     .rw[hk,azL]at nx;rw[hk];exact⟨rfl,nx⟩
     .rw[hk,ayg]at nx;rw[hk];exact⟨⟨by omega,by omega⟩,hmn,rfl,nx⟩
    .have nx:=nx (by show(y.1==x.1&&_)=false;rw[hs];rfl);refine af (λhk=>?_) λhk=>?_
     .rw[hk,azL]at nx;rw[hk];exact⟨rfl,nx⟩
     .rw[hk,ayg]at nx;rw[hk];exact⟨⟨by omega,by omega⟩,hmn,rfl,nx⟩
   .dsimp only;refine bV (by omega) (af (λhk=>⟨rfl,next _ ⟨?_,?_⟩⟩) λhk=>?_)
    .rw[hm,ahJ hc hk]
    .omega
    .rw[akj hc hk]at hm;have fin:∀l',l'=Ju l x->jZ a1 a1 b1=jZ a1 l' (b1.drop (n+1))/\l'.length<=a1.length+(n+1):=λl' e=>by rw[e,afn];exact⟨hm,by omega⟩
     have fin2:∀k:Nat,k<=l.length->(∀i,i<k->Op.bytesLess (l.getD i ([],0,0,[],())).1 x.1=true)->(k<l.length->Op.bytesLess (l.getD k ([],0,0,[],())).1 x.1=false)->
      List.drop 0 (List.take k l)++[x]++List.drop k (List.take l.length l)=Ju l x:=λk hk h1 h2=>by
      rw[axU,aw0,axr];exact amz hk h1 h2
     have atB:∀k:Nat,k<=l.length->(0+(List.drop 0 (List.take k l)).length<=big)/\((List.drop 0 (List.take k l)).length+[x].length<=big)/\((List.drop 0 (List.take k l)++[x]).length+(List.drop k (List.take l.length l)).length<=big):=λk hk=>by rw[bM,axU,aw0,awN,awK,axk];simp only[awL,awP];omega
     refine bZ (s0:=()) (λi(_:Unit)=>((i,()),())) (λy=>y.1.1) (λ_ _=>rfl) l.length (by omega) (λk _=>∀i,i<k->Op.bytesLess (l.getD i ([],0,0,[],())).1 x.1=true) (λi hi=>(by omega)) (λI2 μ2 k _ hkn hJ nx=>?_) λI2 μ2 _ hJ=>?_
     .dsimp only;rw[awO];obtain⟨f1,f2,f3⟩:=atB k (by omega);refine bU (by omega) ⟨⟨by omega,by omega⟩,hkn,af (λh=>⟨rfl,nx () λi hi=>?_⟩) λh=>⟨⟨by omega,by omega⟩,f1,f2,⟨by omega,by omega⟩,f3,rfl,next _ (fin _ (fin2 k (by omega) hJ λ_=>h))⟩⟩;rcases awZ i k with h1|h1
      .exact hJ i h1
      .rw[show i=k by omega];exact h
     .dsimp only;rw[awO];obtain⟨f1,f2,f3⟩:=atB l.length (awY _);exact bV (by omega) ⟨⟨by omega,by omega⟩,f1,f2,⟨by omega,by omega⟩,f3,rfl,next _ (fin _ (fin2 l.length (awY _) hJ λh=>(by omega)))⟩
  .obtain⟨hm,hl⟩:=hJ;dsimp only;refine bV (by omega) ?_;refine congrArg (·,()) (show(true,l,())=pK (true,a1,()) (true,b1,())from ?_);rw[eE,hm,azK];rfl
theorem ajr:OK Ez.e:=by
 refine PA.ok mixed (ax [] trivial) H0 (by kernel_rfl) (show∀a0 a1 b0 b1,Ez.goal (ajs a0 a1 b0 b1) ((a0,a1,()),(b0,b1,()),())from ?_);intro a0 a1 b0 b1 hin hp;dsimp only[Ez]at hp ⊢;have e:Jm (a0,a1,()) (b0,b1,())=bif a0==b0 then II else bif a0 then(a0,a1,())else(b0,b1,()):=rfl
 rw[e];refine af (λh=>?_) λh=>af (λh2=>?_) λh2=>?_
 .rw[h];rfl
 .rw[h,h2];rfl
 .rw[h,h2];rfl
theorem akk{q:List bI}{f:aF}{X:BX}{a:Nat}{m:Bool}(h:Sp.val q f X a=m):dJ q f X a m=(true,[],()):=by rw[dJ,if_pos h]
theorem amB{q:List bI}{f:aF}{X:BX}{a:Nat}{m:Bool}(h:Sp.val q f X a≠m)(h5:(Sp.nodeAt q a).1=5)(hl:(Sp.nodeAt q a).2.1.toNat<a):dJ q f X a m=dJ q f X (Sp.nodeAt q a).2.1.toNat (!m):=by rw[dJ,if_neg h,if_pos h5,dif_pos hl]
theorem amC{q:List bI}{f:aF}{X:BX}{a:Nat}{m:Bool}(h:Sp.val q f X a≠m)(h5:(Sp.nodeAt q a).1≠5)(h2:gY (Sp.nodeAt q a)=true)(hl:(Sp.nodeAt q a).2.1.toNat<a)(hr:(Sp.nodeAt q a).2.2.1.toNat<a):
 dJ q f X a m=bif ((Sp.nodeAt q a).1==6)==m then pK (dJ q f X (Sp.nodeAt q a).2.1.toNat m) (dJ q f X (Sp.nodeAt q a).2.2.1.toNat m)else Jm (dJ q f X (Sp.nodeAt q a).2.1.toNat m) (dJ q f X (Sp.nodeAt q a).2.2.1.toNat m):=by
 rw[dJ,if_neg h,if_neg h5,if_pos h2,dif_pos ⟨hl,hr⟩]
theorem JU{q:List bI}{f:aF}{X:BX}{a:Nat}{m:Bool}(h:Sp.val q f X a≠m)(h5:(Sp.nodeAt q a).1≠5)(h2:gY (Sp.nodeAt q a)=false):
 dJ q f X a m=if(Sp.nodeAt q a).1=3/\m=true then(true,[((Sp.nodeAt q a).2.2.2.1,(Sp.nodeAt q a).2.2.2.2.1,(Sp.nodeAt q a).2.2.2.2.2.1,(Sp.nodeAt q a).2.2.2.2.2.2.1,())],())
  else if(Sp.nodeAt q a).1=2/\m=false then(true,[((Sp.nodeAt q a).2.2.2.1,0,0,[],())],())else II:=by
 rw[dJ,if_neg h,if_neg h5,if_neg (by rw[h2];decide)]
theorem Py{q:List bI}{f:aF}{X:BX}{a l:Nat}{m:Bool}(hq:aZ q=true)(ha:a<q.length)(hl:l<a):(dJ q f X l m).2.1.length<=400:=by have h1:=(Sp.wZ hq).2;have h2:=ahM q f X l m;have h3:=aym (n:=2) (by decide) (show l<=7 by omega);omega
end Go.Proofs.Tryz
namespace Go.Proofs.Tryz
open Go Go.Fw Go.IntWalk Sp
theorem abA{n:bI}(h6:n.1≠6)(h7:n.1≠7):gY n=false:=by unfold gY;rw[awJ.2 h6,awJ.2 h7];rfl
theorem ne_of{x k j:Int}(h:x=k)(hk:k≠j):x≠j:=by rw[h];exact hk
theorem XI[kz](Zk:iM prog G Aj D8):iM prog G LX JE:=by
 refine XJ (ax [vS.e,(Aj,.eff (oH rQ) D8),(xQ,.pure zO)] ⟨abw,⟨Zk,WJ⟩,⟨OD,NM⟩,trivial⟩) (λ⟨q,a,f,r,m,_⟩ _=>⟨((((dJ q f (aO r) a.toNat m).1,(dJ q f (aO r) a.toNat m).2.1,()),()),()),rfl⟩) ?_;intro q a f0 f1 f2 f3 f4 r m hin hp;obtain⟨⟨hq,h0,h1,hr⟩,hm⟩:=hp;have ha:a.toNat<q.length:=by omega
 obtain⟨k1,k2⟩:=KZ hq ha;have kid:∀k:Int,0<=k->k.toNat<a.toNat->(aZ q=true/\0<=k/\k<(q.length:Int)/\aU r)/\k.toNat<je:=λk h2 h3=>⟨⟨hq,h2,by omega,hr⟩,by omega⟩;refine⟨⟨h0,h1⟩,⟨hq,h0,h1,hr⟩,af (λh=>(akk (eq_of_beq h)).symm) λh=>?_⟩;have hv:Sp.val q (f0,f1,f2,f3,f4,()) (aO r) a.toNat≠m:=awJ.1 h;refine af (λg=>?_) λg3=>af (λg=>?_) λg2=>af (λg=>?_) λg5=>?_
 .have g:(Sp.nodeAt q a.toNat).1=3:=awQ.1 g;have e:=JU hv (ne_of g (by decide)) (abA (ne_of g (by decide)) (ne_of g (by decide)));refine af (λhm=>?_) λhm=>?_
  .exact(e.trans (if_pos ⟨g,hm⟩)).symm
  .exact(e.trans ((if_neg λx=>by rw[hm]at x;cases x.2).trans (if_neg λx=>ne_of g (by decide) x.1))).symm
 .have g:(Sp.nodeAt q a.toNat).1=2:=awQ.1 g;have e:=(JU hv (ne_of g (by decide)) (abA (ne_of g (by decide)) (ne_of g (by decide)))).trans (if_neg λx=>ne_of g (by decide) x.1);refine af (λhm=>?_) λhm=>?_
  .exact(e.trans (if_pos ⟨g,dX hm⟩)).symm
  .exact(e.trans (if_neg λx=>by rw[dw hm]at x;cases x.2)).symm
 .have g:(Sp.nodeAt q a.toNat).1=5:=awQ.1 g;have hk:=k1 (.inl g);exact⟨kid _ hk.1 hk.2,λr1 e1=>e1.trans (amB hv g hk.2).symm⟩
 .have g5:(Sp.nodeAt q a.toNat).1≠5:=awJ.1 g5;refine⟨λy=>y.1.1=gY (Sp.nodeAt q a.toNat),af (λg=>⟨rfl,?_⟩) λg=>⟨rfl,?_⟩,λy hy=>af (λhy2=>?_) λhy2=>?_⟩
  .show _=((Sp.nodeAt q a.toNat).1==6||(Sp.nodeAt q a.toNat).1==7);rw[show((Sp.nodeAt q a.toNat).1==6)=true from g];exact g
  .show _=((Sp.nodeAt q a.toNat).1==6||(Sp.nodeAt q a.toNat).1==7);rw[show((Sp.nodeAt q a.toNat).1==6)=false from g];rfl
  .have ht:gY (Sp.nodeAt q a.toNat)=true:=hy.symm.trans hy2;have hk:=k1 (.inr ht);have hk2:=k2 ht;have e:=amC hv g5 ht hk.2 hk2.2;refine⟨kid _ hk.1 hk.2,λr4 e4=>⟨kid _ hk2.1 hk2.2,λr5 e5=>?_⟩⟩;have s4:r4.1.1.2.1.length<=400:=by rw[e4];exact Py hq ha hk.2
   have s5:r5.1.1.2.1.length<=400:=by rw[e5];exact Py hq ha hk2.2
   have e4:r4.1.1=dJ q (f0,f1,f2,f3,f4,()) (aO r) (Sp.nodeAt q a.toNat).2.1.toNat m:=e4;have e5:r5.1.1=dJ q (f0,f1,f2,f3,f4,()) (aO r) (Sp.nodeAt q a.toNat).2.2.1.toNat m:=e5;rw[← e4,← e5]at e;refine af (λhm6=>⟨by omega,λr6 e6=>?_⟩) λhm6=>?_
   .rw[show(((Sp.nodeAt q a.toNat).1==6)==m)=true from hm6]at e;exact e6.trans e.symm
   .rw[show(((Sp.nodeAt q a.toNat).1==6)==m)=false from hm6]at e;obtain⟨⟨⟨x1,x2,⟨⟩⟩,⟨⟩⟩,⟨⟩⟩:=r4;obtain⟨⟨⟨y1,y2,⟨⟩⟩,⟨⟩⟩,⟨⟩⟩:=r5;cases x1<;>cases y1<;>exact e.symm
  .have ht:gY (Sp.nodeAt q a.toNat)=false:=hy.symm.trans hy2;exact((JU hv g5 ht).trans ((if_neg λx=>awJ.1 g3 x.1).trans (if_neg λx=>awJ.1 g2 x.1))).symm
theorem VF:iM prog G Jf J8:=
 aiv (λn=>@Nw ⟨n⟩) (λn=>@yL ⟨n⟩) (by rintro⟨q,at',⟨i,o,s,l,a,⟨⟩⟩,r,m,⟨⟩⟩ h;exact ay8 _ h.2) (by rintro _ ⟨q,at',⟨i,o,s,l,a,⟨⟩⟩,r,m,⟨⟩⟩;rfl) (by rintro⟨q,at',⟨i,o,s,l,a,⟨⟩⟩,r,m,⟨⟩⟩ h;exact⟨_,h,ayX _⟩) (by rintro _ ⟨q,at',⟨i,o,s,l,a,⟨⟩⟩,r,m,⟨⟩⟩;rfl) λn h=>@XI ⟨n⟩ h
theorem VG[kz](XK:iM prog G yP CW):iM prog G KO Il:=by
 refine VH (ax [Ez.e,vT.e,(yP,.eff (oH qE) CW),(CX,.pure DX)] ⟨ajr,aby,⟨XK,Vb⟩,⟨Tc,Qr⟩,trivial⟩) (λ⟨q,a,f,r,m,_⟩ _=>⟨((((dJ q f (aO r) a.toNat m).1,(dJ q f (aO r) a.toNat m).2.1,()),()),()),rfl⟩) ?_;intro q a f0 f1 f2 f3 f4 r m hin hp;obtain⟨⟨hq,h0,h1,hr⟩,hm⟩:=hp;have ha:a.toNat<q.length:=by omega
 obtain⟨k1,k2⟩:=KZ hq ha;have kid:∀k:Int,0<=k->k.toNat<a.toNat->(aZ q=true/\0<=k/\k<(q.length:Int)/\aU r)/\k.toNat<je:=λk h2 h3=>⟨⟨hq,h2,by omega,hr⟩,by omega⟩;refine⟨⟨h0,h1⟩,⟨hq,h0,h1,hr⟩,af (λh=>(akk (eq_of_beq h)).symm) λh=>?_⟩;have hv:Sp.val q (f0,f1,f2,f3,f4,()) (aO r) a.toNat≠m:=awJ.1 h;refine af (λg=>?_) λg5=>?_
 .have g:(Sp.nodeAt q a.toNat).1=5:=awQ.1 g;have hk:=k1 (.inl g);exact⟨kid _ hk.1 hk.2,λr1 e1=>e1.trans (amB hv g hk.2).symm⟩
 .have g5:(Sp.nodeAt q a.toNat).1≠5:=awJ.1 g5;have two:∀(b:Bool),gY (Sp.nodeAt q a.toNat)=true->(((Sp.nodeAt q a.toNat).1==6)==m)=b->((aZ q=true/\0<=(Sp.nodeAt q a.toNat).2.1/\(Sp.nodeAt q a.toNat).2.1<(q.length:Int)/\aU r)/\(Sp.nodeAt q a.toNat).2.1.toNat<je)/\
   ((aZ q=true/\0<=(Sp.nodeAt q a.toNat).2.2.1/\(Sp.nodeAt q a.toNat).2.2.1<(q.length:Int)/\aU r)/\(Sp.nodeAt q a.toNat).2.2.1.toNat<je)/\
   ∀x y,x=dJ q (f0,f1,f2,f3,f4,()) (aO r) (Sp.nodeAt q a.toNat).2.1.toNat m->y=dJ q (f0,f1,f2,f3,f4,()) (aO r) (Sp.nodeAt q a.toNat).2.2.1.toNat m->
    x.2.1.length+y.2.1.length<=900/\(bif b then pK x y else Jm x y)=dJ q (f0,f1,f2,f3,f4,()) (aO r) a.toNat m:=λb ht hb=>by
   have hk:=k1 (.inr ht);have hk2:=k2 ht;have e:=amC hv g5 ht hk.2 hk2.2;refine⟨kid _ hk.1 hk.2,kid _ hk2.1 hk2.2,λx y ex ey=>⟨?_,?_⟩⟩
   .have s4:=Py (f:=(f0,f1,f2,f3,f4,())) (X:=aO r) (m:=m) hq ha hk.2;have s5:=Py (f:=(f0,f1,f2,f3,f4,())) (X:=aO r) (m:=m) hq ha hk2.2;rw[ex,ey];omega
   .rw[e,hb,ex,ey]
  refine⟨λy=>y.1.1=((Sp.nodeAt q a.toNat).1==3&&m),af (λg=>⟨rfl,?_⟩) λg=>⟨rfl,?_⟩,λy hy=>af (λhy2=>?_) λhy2=>?_⟩
  .show m=_;rw[show((Sp.nodeAt q a.toNat).1==3)=true from g];rfl
  .show false=_;rw[show((Sp.nodeAt q a.toNat).1==3)=false from g];rfl
  .have hh:=hy.symm.trans hy2;rw[awG]at hh;have g:=awQ.1 hh.1;exact((JU hv g5 (abA (ne_of g (by decide)) (ne_of g (by decide)))).trans (if_pos ⟨g,hh.2⟩)).symm
  .have n3:¬((Sp.nodeAt q a.toNat).1=3/\m=true):=λx=>by have hh:=hy.symm.trans hy2;rw[awQ.2 x.1,x.2]at hh;cases hh
   refine⟨λy=>y.1.1=((Sp.nodeAt q a.toNat).1==2&&!m),af (λg=>⟨rfl,?_⟩) λg=>⟨rfl,?_⟩,λz hz=>af (λhz2=>?_) λhz2=>?_⟩
   .show(!m)=_;rw[show((Sp.nodeAt q a.toNat).1==2)=true from g];rfl
   .show false=_;rw[show((Sp.nodeAt q a.toNat).1==2)=false from g];rfl
   .have hh:=hz.symm.trans hz2;rw[awG]at hh;have g:=awQ.1 hh.1;exact((JU hv g5 (abA (ne_of g (by decide)) (ne_of g (by decide)))).trans ((if_neg n3).trans (if_pos ⟨g,dX hh.2⟩))).symm
   .have n2:¬((Sp.nodeAt q a.toNat).1=2/\m=false):=λx=>by have hh:=hz.symm.trans hz2;rw[awQ.2 x.1,x.2]at hh;cases hh
    refine⟨λy=>y.1.1=(gY (Sp.nodeAt q a.toNat)&&(((Sp.nodeAt q a.toNat).1==6)==m)),?_,λw hw=>af (λhw2=>?_) λhw2=>?_⟩
    .have ei:gY (Sp.nodeAt q a.toNat)=((Sp.nodeAt q a.toNat).1==6||(Sp.nodeAt q a.toNat).1==7):=rfl;refine af (λg=>af (λhm=>⟨rfl,?_⟩) λhm=>af (λg7=>?_) λg7=>⟨rfl,?_⟩) λg=>af (λg7=>⟨rfl,?_⟩) λg7=>⟨rfl,?_⟩
     .show true=_;rw[ei,show((Sp.nodeAt q a.toNat).1==6)=true from g,hm];rfl
     .have a6:(Sp.nodeAt q a.toNat).1=6:=awQ.1 g;have a7:(Sp.nodeAt q a.toNat).1=7:=awQ.1 g7;rw[a6]at a7;cases a7
     .show false=_;rw[ei,show((Sp.nodeAt q a.toNat).1==6)=true from g,hm];rfl
     .show(!m)=_;rw[ei,show((Sp.nodeAt q a.toNat).1==6)=false from g,show((Sp.nodeAt q a.toNat).1==7)=true from g7];cases m<;>rfl
     .show false=_;rw[ei,show((Sp.nodeAt q a.toNat).1==6)=false from g,show((Sp.nodeAt q a.toNat).1==7)=false from g7];rfl
    .have hh:=hw.symm.trans hw2;rw[awG]at hh;obtain⟨p1,p2,p3⟩:=two true hh.1 hh.2;refine⟨p1,λr8 e8=>⟨p2,λr9 e9=>?_⟩⟩;obtain⟨p4,p5⟩:=p3 _ _ e8 e9;exact⟨p4,p5⟩
    .have hh:=hw.symm.trans hw2;have nb:gY (Sp.nodeAt q a.toNat)=true->(((Sp.nodeAt q a.toNat).1==6)==m)=false:=λht=>by rw[ht,ay1]at hh;exact hh
     refine af (λg=>?_) λg6=>af (λg=>?_) λg7=>?_
     .have ht:gY (Sp.nodeAt q a.toNat)=true:=uj.2 (.inl (awQ.1 g));obtain⟨p1,p2,p3⟩:=two false ht (nb ht);refine⟨p1,λr8 e8=>⟨p2,λr9 e9=>⟨trivial,?_⟩⟩⟩;exact(p3 _ _ e8 e9).2
     .have ht:gY (Sp.nodeAt q a.toNat)=true:=uj.2 (.inr (awQ.1 g));obtain⟨p1,p2,p3⟩:=two false ht (nb ht);refine⟨p1,λr8 e8=>⟨p2,λr9 e9=>⟨trivial,?_⟩⟩⟩;exact(p3 _ _ e8 e9).2
     .exact((JU hv g5 (abA (awJ.1 g6) (awJ.1 g7))).trans ((if_neg n3).trans (if_neg n2))).symm
theorem Tn:iM prog G G8 Jo:=
 aiv (λn=>@LQ ⟨n⟩) (λn=>@wF ⟨n⟩) (by rintro⟨q,at',⟨i,o,s,l,a,⟨⟩⟩,r,m,⟨⟩⟩ h;exact ay8 _ h.2) (by rintro _ ⟨q,at',⟨i,o,s,l,a,⟨⟩⟩,r,m,⟨⟩⟩;rfl) (by rintro⟨q,at',⟨i,o,s,l,a,⟨⟩⟩,r,m,⟨⟩⟩ h;exact⟨_,h,ayX _⟩) (by rintro _ ⟨q,at',⟨i,o,s,l,a,⟨⟩⟩,r,m,⟨⟩⟩;rfl) λn h=>@VG ⟨n⟩ h
end Go.Proofs.Tryz
