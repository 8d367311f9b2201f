import Derived.Test.YtkgkfdphbkfjnaaGreatP17
namespace Go.Proofs.Tryz
open Go Go.Fw Go.IntWalk Sp
theorem aom{r:Sp.LS}{l:List Sp.Bytes}(h:dP r l)(s:Sp.Bytes):dI r s=l.contains s:=by rw[auS,gK,h.2,avS]
def asks(name:Sp.Bytes)(x:aF):Bool:=(nX x.2.1).contains name
theorem YL:OK Ai.e:=by
 refine XA.ok mixed (au [jh.e,CB.e] ⟨qg,aaF,trivial⟩) aaK (λ⟨d,s,_⟩ hp=>⟨((Sp.asking d s,()),()),rfl⟩) (by kernel_rfl) (show∀d name,Ai.goal (YM d name) (d,name,())from ?_);intro d s hin hp;dsimp only[Ai]at hp ⊢;have hp:aC d:=hp;have hl:=hp.1;refine dM (λi(x:Sp.LS)=>(((),i,()),x,())) (λy=>y.1.2.1) (λ_ _=>rfl) d.length (by omega) (λn l=>l=((d.take n).filter (asks s)).map λx=>(x.1,())) rfl (λI μ n l hn hJ next=>?_) λI μ l hJ=>?_
 .subst hJ;have hl:=BD (asks s) (λx:aF=>(x.1,())) d n;dsimp only;refine dn (by omega) ⟨⟨by omega,by omega⟩,mZ hp hn,λr2 hr2=>⟨trivial,?_⟩⟩;rw[aom hr2];refine af (λh=>⟨by rw[bY];simp only[auv,auz];omega,rfl,next _ ?_⟩) λh=>⟨rfl,next _ ?_⟩
  .have h:asks s (d.getD n zW)=true:=h;rw[jL (asks s) zW d hn,h,avd];rfl
  .have h:asks s (d.getD n zW)=false:=h;rw[jL (asks s) zW d hn,h,avd];simp
 .subst hJ;rw[auO];dsimp only;exact dw (by omega) rfl
theorem vG:OK jO.e:=by refine PA.ok mixed (au [] trivial) H0 (by kernel_rfl) (show∀n0 n1 n2 n3 n4 n5 n6,jO.goal (Mc n0 n1 n2 n3 n4 n5 n6) ((n0,n1,n2,n3,n4,n5,n6,()),())from ?_);intro x0 x1 x2 x3 x4 x5 x6 hin hp;dsimp only[jO]at hp ⊢;exact rfl
theorem uj:OK gI.e:=by refine PA.ok mixed (au [jO.e] ⟨vG,trivial⟩) uD (by kernel_rfl) (show∀s,gI.goal (um s) (s,(()),())from ?_);intro q hin hp;dsimp only[gI]at hp ⊢;exact YN (K:=λr=>r=(Sp.findAt (λn:bK=>n.1==9) q,())) (λn:bK=>n.1==9) DL q _ hin.1.1 rfl
theorem rU:OK fV.e:=by refine PA.ok mixed (au [gI.e,jO.e] ⟨uj,vG,trivial⟩) H0 (by kernel_rfl) (show∀s,fV.goal (rV s) (s,(()),())from ?_);intro q hin hp;dsimp only[fV]at hp ⊢;exact⟨trivial,congrArg (·,()) (UN _ q)⟩
theorem aaL:OK CJ.e:=by refine PA.ok mixed (au [] trivial) ac9 (by kernel_rfl) (show∀q,CJ.goal (aaM q) (q,())from ?_);intro q hin hp;dsimp only[CJ]at hp ⊢;exact apj (K:=λr=>r=(Sp.linked q,())) (λn:bK=>n.1==9) DL q _ hin.1.1 rfl
theorem vH:OK jP.e:=by refine PA.ok mixed (au [jh.e] ⟨qg,trivial⟩) H0 (by kernel_rfl) (show∀name p10,jP.goal (Md name p10) (name,(p10,()),())from ?_);intro nm attrs hin hp;dsimp only[jP]at hp ⊢;exact⟨trivial,rfl⟩
theorem vT:OK gW.e:=by refine PA.ok mixed (au [jP.e] ⟨vH,trivial⟩) wG (by kernel_rfl) (show∀s mQ,gW.goal (vU s mQ) (s,((mQ,()),()),())from ?_);intro l attrs hin hp;dsimp only[gW]at hp ⊢;exact YN (K:=λr=>r=(Sp.findAt (λx:Sp.Bytes×Unit=>dI attrs x.1) l,())) (λx:Sp.Bytes×Unit=>dI attrs x.1) ([],()) l _ hin.1.1 rfl
theorem uo:OK gJ.e:=by refine PA.ok mixed (au [gW.e,jP.e] ⟨vT,vH,trivial⟩) H0 (by kernel_rfl) (show∀s mQ,gJ.goal (uq s mQ) (s,((mQ,()),()),())from ?_);intro l attrs hin hp;dsimp only[gJ]at hp ⊢;exact⟨trivial,congrArg (·,()) (UN _ l)⟩
theorem LD:OK ou.e:=by refine XA.ok mixed (au [] trivial) Me (λ⟨s,_⟩ _=>⟨((s,()),()),rfl⟩) (by kernel_rfl) (show∀s,ou.goal (LG s) (s,())from ?_);intro s hin hp;dsimp only[ou]at hp ⊢;have hp:s.length<=1000:=hp;intro g hg;refine af (λh=>?_) λh=>⟨by rw[bY];omega,rfl⟩;exact(avz.1 (hg h)).symm
theorem O1:OK rD.e:=by refine XA.ok mixed (au [] trivial) PU (λ⟨s,_⟩ _=>⟨((s,()),()),rfl⟩) (by kernel_rfl) (show∀s,rD.goal (O3 s) (s,())from ?_);intro s hin hp;dsimp only[rD]at hp ⊢;have hp:s.length<=1000:=hp;intro g hg;refine af (λh=>?_) λh=>⟨by rw[bY];omega,rfl⟩;exact(avz.1 (hg h)).symm
def lZ(f g:aK)(x:aF):Bool:=(kW x.2.1).any (λt=>(jk f g).contains t)||(Sp.linked x.2.1&&f.2.2.2.1 !=g.2.2.2.1)
theorem Rj{d:List aF}{p:aF->Bool}{s:Sp.Bytes}:dI ((d.filter p).map λx=>(x.1,())) s=true↔∃i,i<d.length/\Sp.nameOf d i=s/\p (bH d i)=true:=by
 have at_:∀i(hi:i<d.length),bH d i=d[i]:=λi hi=>by unfold bH;rw[aur,auw hi];rfl
 rw[gK,avL];constructor
 .rintro⟨x,hx,e⟩;obtain⟨h1,h2⟩:=avv.1 hx;obtain⟨i,hi,rfl⟩:=au6 h1;exact⟨i,hi,by unfold Sp.nameOf;rw[at_ i hi];exact congrArg Prod.fst e,by rw[at_ i hi];exact h2⟩
 .rintro⟨i,hi,e,hp⟩;exact⟨d[i],avv.2 ⟨avA hi,by rw[← at_ i hi];exact hp⟩,by rw[← e];unfold Sp.nameOf;rw[at_ i hi]⟩
theorem O4{d:List aF}{f g:aK}(h:f.1=g.1):Sp.touched d f g ((d.filter (lZ f g)).map λx=>(x.1,())):=by
 refine⟨by rw[auG];exact auV _ _,λs=>Rj.trans ?_⟩;unfold KA lZ;constructor
 .rintro⟨i,hi,e,hp⟩;refine⟨i,hi,e,.inr ?_⟩;rw[avq,avM,auq]at hp;rcases hp with⟨t,h1,h2⟩|⟨h1,h2⟩
  .exact .inl ⟨t,h1,avS.1 h2⟩
  .exact .inr ⟨h1,awD.1 h2⟩
 .rintro⟨i,hi,e,hp⟩;refine⟨i,hi,e,?_⟩;rw[avq,avM,auq];rcases hp with hp|⟨t,h1,h2⟩|⟨h1,h2⟩
  .exact(hp h).elim
  .exact .inl ⟨t,h1,avS.2 h2⟩
  .exact .inr ⟨h1,awD.2 h2⟩
theorem Rk{d:List aF}{f g:aK}(h:f.1≠g.1):Sp.touched d f g (fP d):=by
 refine⟨by unfold fP;rw[auG];exact auI _,λs=>?_⟩;have:fP d=(d.filter λ_=>true).map λx=>(x.1,()):=by rw[avR.2 λ_ _=>rfl];rfl
 rw[this,Rj];exact⟨λ⟨i,hi,e,_⟩=>⟨i,hi,e,.inl h⟩,λ⟨i,hi,e,_⟩=>⟨i,hi,e,rfl⟩⟩
theorem Rl(d:List aF)(f g:aK):∃r,Sp.touched d f g r:=by
 by_cases h:f.1=g.1
 .exact⟨_,O4 h⟩
 .exact⟨_,Rk h⟩
theorem aon{r0 r3:Sp.LS}{f g:aK}{q:List bK}(h0:dP r0 (jk f g))(h3:dP r3 (kW q)):(r0.any λx=>dI r3 x.1)=(kW q).any λt=>(jk f g).contains t:=by
 rw[auS,avM,avM];constructor
 .rintro⟨x,hx,h⟩;exact⟨x.1,(h3.2 _).1 (gK.1 h),avS.2 ((h0.2 x.1).1 hx)⟩
 .rintro⟨t,ht,h⟩;exact⟨(t,()),(h0.2 t).2 (avS.1 h),gK.2 ((h3.2 t).2 ht)⟩
theorem O5:OK ru.e:=by
 refine XA.ok mixed (au [jO.e,fV.e,gJ.e,jP.e,Ag.e,xR.e,qA.e] ⟨vG,rU,uo,vH,YG,UZ,Dp,trivial⟩) PV (λ⟨d,f,g,_⟩ hp=>by obtain⟨r,h⟩:=Rl d f g;exact⟨((r,()),()),h⟩) (by kernel_rfl) (show∀d wV yH yI wW uY BG DN DR BH zF,ru.goal (O6 d wV yH yI wW uY BG DN DR BH zF) (d,(wV,yH,yI,wW,uY,()),(BG,DN,DR,BH,zF,()),())from ?_);intro d a0 a1 a2 a3 a b0 b1 b2 b3 b hin hp;dsimp only[ru]at hp ⊢;obtain⟨hd,hf,hg,hab⟩:aC d/\bV (a0,a1,a2,a3,a,())/\bV (b0,b1,b2,b3,b,())/\a.length+b.length<=1000:=hp;have hl:=hd.1;refine af (λh=>⟨hl,Rk (awD.1 h)⟩) λh=>⟨⟨hf,hg,hab⟩,?_⟩;have hid:a0=b0:=akq h;rintro⟨⟨r0,⟨⟩⟩,⟨⟩⟩ hr0;have hr0:dP r0 (jk (a0,a1,a2,a3,a,()) (b0,b1,b2,b3,b,())):=hr0;dsimp only;generalize hF:((a0,a1,a2,a3,a,()):aK)=F at*;generalize hG:((b0,b1,b2,b3,b,()):aK)=G at*;have am9:(a3 !=b3)=(F.2.2.2.1 !=G.2.2.2.1):=by rw[← hF,← hG]
 refine dM (λi(x:Sp.LS)=>(((),i,()),x,())) (λy=>y.1.2.1) (λ_ _=>rfl) d.length (by omega) (λn l=>l=((d.take n).filter (lZ F G)).map λx=>(x.1,())) rfl (λI μ n l hn hJ next=>?_) λI μ l hJ=>?_
 .subst hJ;have hl:=BD (lZ F G) (λx:aF=>(x.1,())) d n;have small:(((d.take n).filter (lZ F G)).map λx:aF=>(x.1,())).length+1<=big:=by rw[bY];omega
  have yes:lZ F G (d.getD n zW)=true->((d.take n).filter (lZ F G)).map (λx:aF=>(x.1,()))++[((d.getD n zW).1,())]=((d.take (n+1)).filter (lZ F G)).map λx=>(x.1,()):=λh=>by rw[jL (lZ F G) zW d hn,h,avd];rfl
  have no:lZ F G (d.getD n zW)=false->((d.take n).filter (lZ F G)).map (λx:aF=>(x.1,()))=((d.take (n+1)).filter (lZ F G)).map λx=>(x.1,()):=λh=>by rw[jL (lZ F G) zW d hn,h,avd];simp
  dsimp only;refine dn (by omega) ⟨⟨by omega,by omega⟩,mZ hd hn,λr3 hr3=>⟨trivial,trivial,?_⟩⟩;have hhit:=aon hr0 hr3;rw[hhit,am9];refine af (λh=>⟨small,rfl,next _ (yes ?_)⟩) λh=>af (λh2=>af (λh3=>⟨small,rfl,next _ (yes ?_)⟩) λh3=>⟨rfl,next _ (no ?_)⟩) λh2=>⟨rfl,next _ (no ?_)⟩
  .have h:(kW (d.getD n zW).2.1).any (λt=>(jk F G).contains t)=true:=h;unfold lZ;rw[h];rfl
  .have h2:Sp.linked (d.getD n zW).2.1=true:=h2;unfold lZ;rw[h2,h3];simp
  .have h:(kW (d.getD n zW).2.1).any (λt=>(jk F G).contains t)=false:=h;have h2:Sp.linked (d.getD n zW).2.1=true:=h2;unfold lZ;rw[h,h2,h3];rfl
  .have h:(kW (d.getD n zW).2.1).any (λt=>(jk F G).contains t)=false:=h;have h2:Sp.linked (d.getD n zW).2.1=false:=h2;unfold lZ;rw[h,h2];rfl
 .subst hJ;rw[auO];dsimp only;exact dw (by omega) (O4 (by rw[← hF,← hG];exact hid))
theorem YO{α:Type}[BEq α][LawfulBEq α]:∀(a b:List α),a.Nodup->(∀x∈a,x∈b)->a.length<=b.length
 |[],_,_,_=>auX _
 |x::r,b,hn,h=>by
  rw[axD]at hn;have hx:=h x auF;have ih:=YO r (b.erase x) hn.2 λy hy=>by
   have hne:y≠x:=λe=>by subst e;exact hn.1 hy
   rw[List.mem_erase_of_ne hne];exact h y (auH _ hy)
  rw[List.length_erase_of_mem hx]at ih;have:0<b.length:=List.length_pos_of_mem hx;rw[auv];omega
def Grown(d:List aF)(names out:Sp.LS):Prop:=∃ex,out=names++ex/\ex.Nodup/\(∀x∈ex,x∈fP d)/\∀x∈out,Sp.Reach d (λs=>dI names s=true) x.1
theorem Grown.len{d:List aF}{names out:Sp.LS}(h:Grown d names out):out.length<=names.length+d.length:=by obtain⟨ex,rfl,h1,h2,_⟩:=h;have:=YO ex (fP d) h1 h2;unfold fP at this;rw[auG]at this;rw[auy];omega
theorem Grown.add{d:List aF}{names out:Sp.LS}(h:Grown d names out){x:Sp.Bytes×Unit}(h1:x∈fP d)(h2:x ∉ out)(h3:Sp.Reach d (λs=>dI names s=true) x.1):Grown d names (out++[x]):=by
 obtain⟨ex,rfl,g1,g2,g3⟩:=h;refine⟨ex++[x],by rw[avb],?_,λy hy=>?_,λy hy=>?_⟩
 .rw[List.nodup_append];refine⟨g1,axD.2 ⟨by simp,List.nodup_nil⟩,λa ha b hb e=>h2 ?_⟩;rw[avk.1 hb]at e;exact auL.2 (.inr (e▸ha))
 .rcases auL.1 hy with hy|hy
  .exact g2 y hy
  .rw[avk.1 hy];exact h1
 .rcases auL.1 hy with hy|hy
  .exact g3 y hy
  .rw[avk.1 hy];exact h3
theorem afb{d:List aF}{s:Sp.Bytes}{x:Sp.Bytes×Unit}:x∈Sp.asking d s↔∃i,i<d.length/\Sp.nameOf d i=x.1/\s∈nX (dW d i):=by have h:(x.1,())∈Sp.asking d s↔_:=(gK (l:=Sp.asking d s) (s:=x.1)).symm.trans Rj;refine h.trans ⟨λ⟨i,a,b,c⟩=>⟨i,a,b,avS.1 c⟩,λ⟨i,a,b,c⟩=>⟨i,a,b,avS.2 c⟩⟩
theorem O7{d:List aF}{i:Nat}(hi:i<d.length):(Sp.nameOf d i,())∈fP d:=gK.1 (UX hi)
theorem Rn(d:List aF)(hd:d.length<=5)(names:Sp.LS)(hn:names.length<=900):∃r,Sp.reached d names r:=by
 refine⟨names++(fP d).filter (λx=>@decide (Sp.Reach d (λs=>dI names s=true) x.1) (Classical.propDecidable _)),?_,λs=>?_⟩
 .have:=auV (λx:Sp.Bytes×Unit=>@decide (Sp.Reach d (λs=>dI names s=true) x.1) (Classical.propDecidable _)) (fP d);have e:(fP d).length=d.length:=by unfold fP;rw[auG]
  rw[auy];omega
 .rw[gK,auL,avv];constructor
  .rintro(h|⟨_,h⟩)
   .exact .base (gK.2 h)
   .exact(@av3 _ (Classical.propDecidable _)).1 h
  .intro h;have h':=h;cases h with
   |base hb=>exact .inl (gK.1 hb)
   |step _ hi _=>exact .inr ⟨O7 hi,(@av3 _ (Classical.propDecidable _)).2 h'⟩
theorem sK:OK jq.e:=by
 refine XA.ok mixed (au [(mY,.eff (DC jB) lC),jh.e,Ai.e,ou.e] ⟨⟨uh,rQ⟩,qg,YL,LD,trivial⟩) LH (λ⟨d,names,_⟩ hp=>by obtain⟨r,h⟩:=Rn d hp.2.1 names hp.2.2;exact⟨((r,()),()),h⟩) (by kernel_rfl) (show∀d names,jq.goal (KC d names) (d,names,())from ?_);intro d names hin hp;dsimp only[jq]at hp ⊢;obtain⟨hd,hd5,hnl⟩:aC d/\d.length<=5/\names.length<=900:=hp;refine⟨by omega,?_⟩;rintro⟨⟨r0,⟨⟩⟩,⟨⟩⟩ e0;have e0:r0=names:=e0;subst e0;refine⟨λy=>∃i:Nat,y.1.2.1=i/\i<=y.2.1.length/\Grown d r0 y.2.1/\∀j,j<i->∀x∈Sp.asking d (y.2.1.getD j ([],())).1,x∈y.2.1,λy=>((r0.length+d.length:Nat)-y.1.2.1).toNat,⟨0,rfl,auX _,⟨[],by simp,List.nodup_nil,λx hx=>(by cases hx),λx hx=>.base (gK.2 hx)⟩,λj hj=>by omega⟩,?_⟩;rintro⟨⟨_,_,⟨⟩⟩,out,⟨⟩⟩ ⟨i,rfl,hi,hG,hcl⟩;have hlen:out.length<=r0.length+d.length:=hG.len;dsimp only at hi hG hcl ⊢;refine af (λhc=>?_) λhc=>?_
 .have hc:=fG hc;have w:IntKind.i64.wrap ((i:Int)+1)=((i+1:Nat):Int):=eP _ (by omega);rw[w,auA];refine⟨⟨by omega,by omega⟩,by omega,hd,?_⟩;rintro⟨⟨r3,⟨⟩⟩,⟨⟩⟩ e3;have e3:r3=Sp.asking d (out.getD i ([],())).1:=e3;dsimp only;have hr3:r3.length<=d.length:=by rw[e3];unfold Sp.asking;rw[auG];exact auV _ _
  refine dM (λk(x:Sp.LS)=>(((),k,()),x,())) (λy=>y.1.2.1) (λ_ _=>rfl) r3.length (by omega) (λn l=>(∃more,l=out++more)/\Grown d r0 l/\∀k,k<n->r3.getD k ([],())∈l) ⟨⟨[],by simp⟩,hG,λk hk=>by omega⟩ (λI μ n l hn hJ next=>?_) λI μ l hJ=>?_
  .obtain⟨⟨more,hm⟩,g1,g2⟩:=hJ;have gl:=g1.len;have hmem:r3.getD n ([],())∈r3:=getD_mem (d:=(([]:Sp.Bytes),())) hn;dsimp only;rw[auA];refine dn (by omega) ⟨⟨by omega,by omega⟩,trivial,af (λh=>⟨by rw[bY];simp only[auv,auz];omega,rfl,next _ ⟨⟨more++[r3.getD n ([],())],by rw[hm,avb]⟩,?_,λk hk=>?_⟩⟩) λh=>⟨rfl,next _ ⟨⟨more,hm⟩,g1,λk hk=>?_⟩⟩⟩
   .have h:dI l (r3.getD n ([],())).1=false:=dQ h;rw[e3]at hmem;obtain⟨j,hj,e,ha⟩:=afb.1 hmem;rw[← e3]at e;refine g1.add ?_ (λhx=>?_) ?_
    .have:=O7 hj;rw[e]at this;exact this
    .have h':dI l (r3.getD n ([],())).1=true:=gK.2 hx;rw[h]at h';cases h'
    .rw[← e];obtain⟨ex,_,_,_,hr⟩:=hG;exact .step (hr _ (getD_mem (d:=(([]:Sp.Bytes),())) (by omega))) hj ha
   .rcases auJ k n with h'|h'
    .exact auL.2 (.inl (g2 k h'))
    .have:k=n:=by omega
     subst this;exact auL.2 (.inr (avk.2 rfl))
   .have h:dI l (r3.getD n ([],())).1=true:=bP h;rcases auJ k n with h'|h'
    .exact g2 k h'
    .have:k=n:=by omega
     subst this;exact gK.1 h
  .obtain⟨⟨more,hm⟩,g1,g2⟩:=hJ;dsimp only;have hol:out.length<=l.length:=by rw[hm,auy];omega
   refine dw (by omega) ⟨rfl,⟨i+1,rfl,by dsimp only;omega,g1,λj hj x hx=>?_⟩,by dsimp only;omega⟩;have hat:l.getD j ([],())=out.getD j ([],()):=by rw[hm,aur,aur,au3 (by omega)]
   rw[hat]at hx;rcases auJ j i with h'|h'
   .rw[hm];exact auL.2 (.inl (hcl j h' x hx))
   .have:j=i:=by omega
    subst this;rw[← e3]at hx;obtain⟨k,hk,rfl⟩:=au6 hx;have:=g2 k hk;rw[aur,auw hk]at this;exact this
 .have hc:=fZ hc;have hie:i=out.length:=by omega
  refine⟨by omega,λr hr=>⟨by have:=hr.1;omega,λs=>?_⟩⟩;rw[gK];refine(hr.2 (s,())).trans ⟨λh=>?_,λh=>?_⟩
  .obtain⟨ex,_,_,_,hr⟩:=hG;exact hr _ h
  .induction h with
   |base hb=>
    obtain⟨ex,he,_⟩:=hG;show(_,())∈out;rw[he];exact auL.2 (.inl (gK.1 hb))
   |step _ hj ha ih=>
    obtain⟨k,hk,e⟩:=au6 ih;have hx:=hcl k (by omega);have hat:out.getD k ([],())=out[k]:=by rw[aur,auw hk];rfl
    rw[hat,e]at hx;exact hx (_,()) (afb.2 ⟨_,hj,rfl,ha⟩)
theorem al3(d:List aF)(hd:d.length<=5)(f g:aK):∃r,Sp.isSet r (VJ d f g):=by obtain⟨t,ht⟩:=Rl d f g;obtain⟨r,hr⟩:=Rn d hd t (by have:=ht.1;omega);refine⟨r,hr.1,λs=>(hr.2 s).trans ?_⟩;have:(λs=>dI t s=true)=KA d f g:=funext λs=>propext (ht.2 s);rw[this];rfl
theorem aoo{d:List aF}{f g:aK}{t r:Sp.LS}(ht:Sp.touched d f g t)(hr:Sp.reached d t r):Sp.isSet r (VJ d f g):=by refine⟨hr.1,λs=>(hr.2 s).trans ?_⟩;have:(λs=>dI t s=true)=KA d f g:=funext λs=>propext (ht.2 s);rw[this];rfl
theorem U3:OK xX.e:=by refine XA.ok mixed (au [jq.e,ru.e] ⟨sK,O5,trivial⟩) H0 (λ⟨d,f,g,_⟩ hp=>by obtain⟨r,h⟩:=al3 d hp.2.1 f g;exact⟨((r,()),()),h⟩) (by kernel_rfl) (show∀d wV yH yI wW uY BG DN DR BH zF,xX.goal (U4 d wV yH yI wW uY BG DN DR BH zF) (d,(wV,yH,yI,wW,uY,()),(BG,DN,DR,BH,zF,()),())from ?_);intro d a0 a1 a2 a3 a b0 b1 b2 b3 b hin hp;dsimp only[xX]at hp ⊢;obtain⟨h1,h2,h3,h4,h5⟩:=hp;exact⟨⟨h1,h3,h4,h5⟩,λr0 hr0=>⟨⟨h1,h2,by have:=hr0.1;omega⟩,λr1 hr1=>aoo hr0 hr1⟩⟩
end Go.Proofs.Tryz
