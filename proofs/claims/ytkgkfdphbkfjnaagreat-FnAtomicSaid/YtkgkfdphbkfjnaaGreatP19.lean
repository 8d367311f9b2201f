import Derived.Test.YtkgkfdphbkfjnaaGreatP18
import Derived.Test.YtkgkfdphbkfjnaaGreatV8
namespace Go.Proofs.Tryz
open Go Go.Fw Go.IntWalk Sp
theorem Gq:OK sG.e:=by refine PA.ok mixed (au [pq.e] ⟨GV,trivial⟩) H0 (by kernel_rfl) (show∀id p10,sG.goal (aaN id p10) (id,(p10,()),())from ?_);intro x b hin hp;dsimp only[sG]at hp ⊢;exact⟨trivial,rfl⟩
theorem DT:OK jm.e:=by refine PA.ok mixed (au [sG.e] ⟨Gq,trivial⟩) Eh (by kernel_rfl) (show∀s mQ,jm.goal (DU s mQ) (s,((mQ,()),()),())from ?_);intro l b hin hp;dsimp only[jm]at hp ⊢;exact YN (K:=λr=>r=(Sp.findAt (λx:Int×Unit=>fM b x.1) l,())) (λx:Int×Unit=>fM b x.1) (0,()) l _ hin.1.1 rfl
theorem Dq:OK jf.e:=by refine XA.ok mixed (au [jm.e,sG.e] ⟨DT,Gq,trivial⟩) DV (λ⟨s,((b,_),_),_⟩ _=>⟨((s.filter (λx=>!fM b x.1),()),()),rfl⟩) (by kernel_rfl) (show∀s Tq,jf.goal (Dt s Tq) (s,((Tq,()),()),())from ?_);intro s b hin hp;dsimp only[jf]at hp ⊢;exact⟨trivial,aqw (K:=λr=>r.1.1=s.filter λx=>!fM b x.1) (λx:Int×Unit=>fM b x.1) (0,()) s _ (by have hp:s.length<=1000:=hp;omega) rfl⟩
theorem afc:OK Fz.e:=by refine XA.ok mixed (au [jf.e,sG.e,rD.e] ⟨Dq,Gq,O1,trivial⟩) ag7 (λ⟨a,b,_⟩ _=>⟨((Sp.without a b,()),()),rfl⟩) (by kernel_rfl) (show∀a b,Fz.goal (afd a b) (a,b,())from ?_);intro a b hin hp;dsimp only[Fz]at hp ⊢;have hp:a.length<=1000:=hp;refine⟨hp,?_⟩;rintro⟨⟨r0,⟨⟩⟩,⟨⟩⟩ e;have e:r0=a:=e;subst e;exact⟨hp,λr h=>h⟩
theorem afe:OK FB.e:=by refine XA.ok mixed (au [Fz.e] ⟨afc,trivial⟩) H0 (λ⟨a,b,_⟩ _=>⟨((Sp.without b a,Sp.without a b,()),()),⟨rfl,rfl⟩⟩) (by kernel_rfl) (show∀a b,FB.goal (aff a b) (a,b,())from ?_);intro a b hin hp;dsimp only[FB]at hp ⊢;exact⟨hp.2,λr0 h0=>⟨hp.1,λr1 h1=>⟨h0,h1⟩⟩⟩
theorem abH(a b:List (Int×Unit)):(Sp.without a b).length<=a.length:=auV _ _
theorem U5{r:List dR}(h:bF r)(s:Sp.Bytes):(fO r s).length<=1000:=by
 have:∀l:List dR,(∀x∈l,x.2.1.length<=1000)->(fO l s).length<=1000:=by
  intro l
  induction l with
  |nil=>exactλ_=>auX _
  |cons x t ih=>
   intro hl;rw[fO];cases x.1==s with
   |true=>exact hl x auF
   |false=>exact ih λy hy=>hl y (auH _ hy)
 exact this r h.2
theorem afg(a b:List dR){n:Nat}(h:n<b.length):((b.take (n+1)).map (uw a)).filter zG=((b.take n).map (uw a)).filter zG++(bif zG (uw a (b.getD n oI))then[uw a (b.getD n oI)]else[]):=by rw[Sp.take_succ' b n oI h,avd,avw,List.map_singleton,awO];cases zG (uw a (b.getD n oI))<;>rfl
theorem JR:OK tN.e:=by
 refine XA.ok mixed (au [FB.e,oJ.e] ⟨afe,Gm,trivial⟩) YP (λ⟨a,b,_⟩ _=>⟨((xW a b,()),()),rfl⟩) (by kernel_rfl) (show∀a b,tN.goal (WA a b) (a,b,())from ?_);intro a b hin hp;dsimp only[tN]at hp ⊢;obtain⟨ha,hb⟩:bF a/\bF b:=hp;have hbl:=hb.1;refine dM (λi(x:List lJ)=>(((),i,()),x,())) (λy=>y.1.2.1) (λ_ _=>rfl) b.length (by omega) (λn l=>l=((b.take n).map (uw a)).filter zG) rfl (λI μ n l hn hJ next=>?_) λI μ l hJ=>?_
 .subst hJ;have hl:(((b.take n).map (uw a)).filter zG).length<=n:=by have:=auV zG ((b.take n).map (uw a));rw[auG,aut]at this;omega
  have step:=afg a b hn;have l1:=U5 ha (b.getD n oI).1;have l2:(b.getD n oI).2.1.length<=1000:=II hb hn;dsimp only;refine dn (by omega) ⟨⟨by omega,by omega⟩,ha,⟨l1,l2⟩,?_⟩;rintro⟨⟨x,y,⟨⟩⟩,⟨⟩⟩ ⟨e1,e2⟩;have e1:x=Sp.without (b.getD n oI).2.1 (fO a (b.getD n oI).1):=e1;have e2:y=Sp.without (fO a (b.getD n oI).1) (b.getD n oI).2.1:=e2;have k1:=abH (b.getD n oI).2.1 (fO a (b.getD n oI).1);have k2:=abH (fO a (b.getD n oI).1) (b.getD n oI).2.1;rw[← e1]at k1;rw[← e2]at k2;have w:IntKind.i64.wrap ((x.length:Int)+(y.length:Int))=((x.length+y.length:Nat):Int):=by rw[eP _ (by omega)];omega
  have hd:uw a (b.getD n oI)=((b.getD n oI).1,x,y,()):=by rw[e1,e2];rfl
  have hz:zG (uw a (b.getD n oI))=decide (0<x.length+y.length):=by rw[hd];rfl
  dsimp only;rw[w];refine af (λh=>⟨by rw[bY];simp only[auv,auz];omega,rfl,next _ ?_⟩) λh=>⟨rfl,next _ ?_⟩
  .have h:=fG h;rw[step,hz,auB (by omega),hd];rfl
  .have h:=fZ h;rw[step,hz,auD (by omega)];simp
 .subst hJ;rw[auO];dsimp only;exact dw (by omega) rfl
theorem WB:OK zh.e:=by
 refine XA.ok mixed (au [tC.e] ⟨JM,trivial⟩) YQ (λ⟨r,_⟩ _=>⟨((r,()),()),rfl⟩) (by kernel_rfl) (show∀Gg,zh.goal (WC Gg) (Gg,())from ?_);intro r hin hp;dsimp only[zh]at hp ⊢;have hp:bF r:=hp;have hl:=hp.1;refine dM (λi(x:List dR)=>(((),i,()),x,())) (λy=>y.1.2.1) (λ_ _=>rfl) r.length (by omega) (λn l=>l=r.take n) (by simp) (λI μ n l hn hJ next=>?_) λI μ l hJ=>?_
 .subst hJ;have hl:(r.take n).length<=n:=by rw[aut];omega
  dsimp only;refine dn (by omega) ⟨⟨by omega,by omega⟩,II hp hn,by rw[bY];simp only[auv,auz];omega,rfl,next _ ?_⟩;rw[Sp.take_succ' r n oI hn];rfl
 .subst hJ;rw[auO];dsimp only;exact dw (by omega) rfl
theorem YR:OK Aj.e:=by
 refine XA.ok mixed (au [] trivial) aaO (λ⟨r,_⟩ _=>⟨((r,()),()),rfl⟩) (by kernel_rfl) (show∀a,Aj.goal (YS a) (a,())from ?_);intro r hin hp;dsimp only[Aj]at hp ⊢;have hp:bF r:=hp;have hl:=hp.1;refine dM (λi(x:List dR)=>(((),i,()),x,())) (λy=>y.1.2.1) (λ_ _=>rfl) r.length (by omega) (λn l=>l=r.take n) (by simp) (λI μ n l hn hJ next=>?_) λI μ l hJ=>?_
 .subst hJ;have hl:(r.take n).length<=n:=by rw[aut];omega
  have h2:(r.getD n ([],[],())).2.1.length<=1000:=II hp hn;dsimp only;rw[auA];refine dn (by omega) ⟨⟨by omega,by omega⟩,⟨by omega,by omega⟩,by rw[bY];omega,by rw[bY];simp only[auv,auz];omega,rfl,next _ ?_⟩;rw[Sp.take_succ' r n oI hn]
 .subst hJ;rw[auO];dsimp only;exact dw (by omega) rfl
theorem lH:OK iW.e:=by refine XA.ok mixed (au [zh.e,yR.e,lU.e] ⟨WB,O8,vS,trivial⟩) H0 (λ⟨(a,l,nx,d,r,_),_⟩ _=>⟨(((a,l,nx,d,r,()),()),()),rfl⟩) (by kernel_rfl) (show∀c0 c1 c2 c3 c4,iW.goal (WE c0 c1 c2 c3 c4) ((c0,c1,c2,c3,c4,()),())from ?_);intro a l nx d r hin hp;dsimp only[iW]at hp ⊢;obtain⟨h1,h2,h3⟩:bg (a,l,nx,())/\aC d/\bF r:=hp;refine⟨h1,?_⟩;rintro⟨⟨⟨a',l',nx',⟨⟩⟩,⟨⟩⟩,⟨⟩⟩ e;have e:((a',l',nx',()):bU)=(a,l,nx,()):=e;refine⟨h2,h3,?_⟩;rintro⟨⟨r',⟨⟩⟩,⟨⟩⟩ e2;have e2:r'=r:=e2;simp only[Prod.mk.injEq]at e;obtain⟨rfl,rfl,rfl,_⟩:=e;subst e2;rfl
theorem uZ:OK mJ.e:=by refine XA.ok mixed (au [Aj.e,sD.e,oW.e] ⟨YR,EI,zA,trivial⟩) H0 (λ⟨(a,l,nx,d,r,_),_⟩ _=>⟨(((a,l,nx,d,r,()),()),()),rfl⟩) (by kernel_rfl) (show∀l0 l1 l2 l3 l4,mJ.goal (afh l0 l1 l2 l3 l4) ((l0,l1,l2,l3,l4,()),())from ?_);intro a l nx d r hin hp;dsimp only[mJ]at hp ⊢;obtain⟨h1,h2,h3⟩:bg (a,l,nx,())/\aC d/\bF r:=hp;refine⟨h1,?_⟩;rintro⟨⟨⟨a',l',nx',⟨⟩⟩,⟨⟩⟩,⟨⟩⟩ e;have e:((a',l',nx',()):bU)=(a,l,nx,()):=e;refine⟨h2,h3,?_⟩;rintro⟨⟨r',⟨⟩⟩,⟨⟩⟩ e2;have e2:r'=r:=e2;simp only[Prod.mk.injEq]at e;obtain⟨rfl,rfl,rfl,_⟩:=e;subst e2;rfl
theorem KU{fs:List aK}{d:List aF}{r out:List dR}{nm:Sp.Bytes->Bool}(h:fQ fs d r nm out)(hd:d.length<=1000)(hf:fs.length<=1000)(hr:bF r):bF out:=by
 refine⟨by rw[h.order.1];exact hd,λx hx=>?_⟩;obtain⟨i,hi,rfl⟩:=au6 hx;have hi':i<d.length:=by rw[← h.order.1];exact hi
 have e:(out[i]).2.1=iM out i:=by unfold iM sZ;rw[aur,auw hi];rfl
 rw[e];cases hn:nm (Sp.nameOf d i)with
 |true=>
  rw[h.fix i hi' hn];unfold Sp.sel;rw[auG];exact auM (auV _ _) hf
 |false=>rw[h.kept i hi' hn];exact U5 hr _
theorem afi(c:eF)(s:bU)(d:List aF)(nm:Sp.Bytes->Bool):∃c' df,Sp.turned c s d nm c' df (aj d&&aB s):=by
 obtain⟨a,fs,nx,_⟩:=s;obtain⟨out,h⟩:=zT (fs:=fs) (a:=a) (nx:=nx) (d:=d) (oQ c) nm;cases hk:(aj d&&aB (a,fs,nx,()))with
 |true=>exact⟨(a,fs,nx,d,out,()),xW (oQ c) out,hk.symm,λ_=>⟨rfl,rfl,h hk,rfl⟩,λh=>(by cases h)⟩
 |false=>exact⟨c,[],hk.symm,λh=>(by cases h),λ_=>⟨rfl,rfl⟩⟩
theorem vV:OK lV.e:=by
 refine XA.ok mixed (au [tN.e,yR.e,lU.e,iW.e,Ae.e] ⟨JR,O8,vS,lH,YC,trivial⟩) H0 (λ⟨c,s,d,names,_⟩ _=>by obtain⟨c',df,h⟩:=afi c s d (dI names);exact⟨((((c'.1,c'.2.1,c'.2.2.1,c'.2.2.2.1,c'.2.2.2.2.1,()),df,(aj d&&aB s),()),())),h⟩) (by kernel_rfl) (show∀c0 c1 c2 c3 c4 s0 s1 s2 d names,lV.goal (aaP c0 c1 c2 c3 c4 s0 s1 s2 d names) ((c0,c1,c2,c3,c4,()),(s0,s1,s2,()),d,names,())from ?_);intro a l nx d0 r0 sa sl sn d names hin hp;dsimp only[lV]at hp ⊢;obtain⟨hc,hs,hd⟩:=hp;have hr:bF r0:=hc.2.2;refine⟨⟨hs,hd,hr⟩,?_⟩;rintro⟨⟨out,ok,⟨⟩⟩,⟨⟩⟩ ⟨e1,e2⟩;have e1:ok=(aj d&&aB (sa,sl,sn,())):=e1;have e2:ok=true->fQ sl d r0 (dI names) out:=e2;dsimp only;refine af (λh=>⟨hc,λr1 hr1=>?_⟩) λh=>⟨hs,?_⟩
 .have h:ok=false:=dQ h;exact⟨e1▸h.symm,λh=>(by cases h),λ_=>⟨hr1,rfl⟩⟩
 .have h:ok=true:=bP h;rintro⟨⟨s',⟨⟩⟩,⟨⟩⟩ es;have es:s'=(sa,sl,sn,()):=es;subst es;refine⟨hd,⟨hr,KU (e2 h) hd.1 hs.2.1 hr⟩,λr3 hr3=>⟨e1▸h.symm,λ_=>⟨rfl,rfl,e2 h,hr3⟩,λh=>(by cases h)⟩⟩
theorem kU{c:eF}(h:cO c=true):aj (bG c)=true/\aB (aX c)=true/\fQ c.2.1 (bG c) [] (λ_=>true) (oQ c):=by have e:cO c=((aj (bG c)&&aB (aX c))&&@decide (fQ c.2.1 (bG c) [] (λ_=>true) (oQ c)) (Classical.propDecidable _)):=rfl;rw[e,auq,auq]at h;exact⟨h.1.1,h.1.2,(@av3 _ (Classical.propDecidable _)).1 h.2⟩
theorem apl{d:List aF}{f g:aK}{s:Sp.Bytes}:ag8 d f g s=true↔VJ d f g s:=@av3 _ (Classical.propDecidable _)
theorem al4{d:List aF}{f g:aK}{r:Sp.LS}(h:Sp.isSet r (VJ d f g))(s:Sp.Bytes):dI r s=ag8 d f g s:=by rw[auS,apl];exact h.2 s
theorem U6{s:bU}{f:aK}(h:(aT s f).2=true):aB (aT s f).1=true:=by
 rcases jU s f with⟨e,_⟩|⟨n,hn,h1,h2,h3,e⟩
 .rw[e]at h;cases h
 .exact Jz f h2
theorem abI(c:eF)(f:aK):∃c' df,Sp.updated c f c' df (cO c&&(aT (aX c) f).2):=by
 cases hk:(cO c&&(aT (aX c) f).2)with
 |false=>exact⟨c,[],hk.symm,λh=>(by cases h),λ_=>⟨rfl,rfl⟩⟩
 |true=>have hk':=hk;rw[auq]at hk';obtain⟨h1,h2,h3⟩:=kU hk'.1;have hst:=U6 hk'.2;rcases hs:(aT (aX c) f).1 with⟨a,fs,nx,u⟩;rw[hs]at hst;obtain⟨out,h⟩:=zT (fs:=fs) (a:=a) (nx:=nx) (d:=bG c) (oQ c) (ag8 (bG c) (bf (aX c) f.1).1 f);refine⟨(a,fs,nx,bG c,out,()),xW (oQ c) out,hk.symm,λ_=>⟨hs.symm,rfl,?_,rfl⟩,λh=>(by cases h)⟩;rw[hs];exact h (by rw[h1];exact hst)
theorem YT:OK Ak.e:=by
 refine XA.ok mixed (au [lV.e,xX.e,yX.e,iW.e,jJ.e,yZ.e] ⟨vV,U3,OW,lH,ng,Wq,trivial⟩) H0 (λ⟨c,f,_⟩ _=>by obtain⟨c',df,h⟩:=abI c f;exact⟨((((c'.1,c'.2.1,c'.2.2.1,c'.2.2.2.1,c'.2.2.2.2.1,()),df,(cO c&&(aT (aX c) f).2),()),())),h⟩) (by kernel_rfl) (show∀c0 c1 c2 c3 c4 f0 f1 f2 f3 f4,Ak.goal (YU c0 c1 c2 c3 c4 f0 f1 f2 f3 f4) ((c0,c1,c2,c3,c4,()),(f0,f1,f2,f3,f4,()),())from ?_);intro a l nx d r f0 f1 f2 f3 f4 hin hp;dsimp only[Ak]at hp ⊢;obtain⟨hc,hf,hhc,hhf⟩:=hp;refine⟨⟨hc.1,hf⟩,?_⟩;rintro⟨⟨⟨sa,sl,sn,⟨⟩⟩,ok,⟨⟩⟩,⟨⟩⟩ ⟨e1,e2,e3,e4⟩;have es:((sa,sl,sn,()):bU)=(aT (a,l,nx,()) (f0,f1,f2,f3,f4,())).1:=Dj e1 e2 e3;have e4:ok=(aT (a,l,nx,()) (f0,f1,f2,f3,f4,())).2:=e4;have bad:∀z:eF,(cO (a,l,nx,d,r,())&&(aT (a,l,nx,()) (f0,f1,f2,f3,f4,())).2)=false->z=(a,l,nx,d,r,())->Sp.updated (a,l,nx,d,r,()) (f0,f1,f2,f3,f4,()) z [] false:=λz hz e=>⟨hz.symm,λh=>(by cases h),λ_=>⟨e,rfl⟩⟩;dsimp only;refine af (λh=>⟨hc,λr1 hr1=>bad _ ?_ hr1⟩) λh=>⟨hc,af (λh2=>⟨hc,λr1 hr1=>bad _ ?_ hr1⟩) λh2=>⟨hc.1,?_⟩⟩
 .have h:ok=false:=dQ h;rw[← e4,h,au5]
 .rw[dQ h2];rfl
 have h:ok=true:=bP h;have h2:=bP h2;obtain⟨hst,hok,hev⟩:=kU h2;have hst:aj d=true:=hst;have hlen:=(jw hst).2;have hfind:bV (bf (a,l,nx,()) f0).1/\TV (bf (a,l,nx,()) f0).1:=by
  rcases qj l f0 with⟨h,_⟩|⟨n,hn,h,_,_⟩
  .have e:bf (a,l,nx,()) f0=(Yz,false):=by show(bif decide (Sp.place l f0<0)then _ else _)=_;rw[h];rfl
   rw[e];exact⟨auX _,auX _⟩
  .have e:bf (a,l,nx,()) f0=(Sp.fileAt l n,true):=by show(bif decide (Sp.place l f0<0)then _ else(Sp.fileAt l (Sp.place l f0).toNat,true))=_;rw[h,auD (by omega)];rfl
   rw[e];have hm:Sp.fileAt l n∈l:=getD_mem hn;exact⟨hc.1.2.2 _ hm,hhc _ hm⟩
 have hh:(bf (a,l,nx,()) f0).1.2.2.2.2.1.length<=500:=hfind.2;have hh2:f4.length<=500:=hhf;refine⟨⟨hc.2.1,hlen,hfind.1,hf,by omega⟩,λr10 apm=>⟨⟨hc,?_,hc.2.1⟩,λr11 akt=>?_⟩⟩
 .rw[es];exact Tt hc.1 hf
 .rw[es]at akt;obtain⟨g1,g2,g3⟩:=akt;have hrep:(aT (a,l,nx,()) (f0,f1,f2,f3,f4,())).2=true:=e4▸h;have hz:(aj d&&aB (aT (a,l,nx,()) (f0,f1,f2,f3,f4,())).1)=true:=by rw[hst,U6 hrep];rfl
  have ana:r11.1.2.2.1=true:=g1.trans hz;have hz2:(cO (a,l,nx,d,r,())&&(aT (a,l,nx,()) (f0,f1,f2,f3,f4,())).2)=true:=by rw[h2,hrep];rfl
  obtain⟨k1,k2,k3,k4⟩:=g2 ana;refine⟨ana.trans hz2.symm,λ_=>⟨k1,k2,?_,k4⟩,λhno=>by rw[ana]at hno;cases hno⟩;refine KT k3 (λi hi=>al4 apm _) λ_ _ _=>rfl
theorem O9:OK zi.e:=by refine PA.ok mixed (au [] trivial) afj (by kernel_rfl) (show∀a b,zi.goal (ada a b) (a,b,())from ?_);intro a b hin hp;dsimp only[zi]at hp ⊢;exact eqL (K:=λr=>r=(decide (a=b),())) (λx y:Int×Unit=>x.1 !=y.1) (λx y=>by simp[awi]) _ a b _ hin.1.1 rfl
theorem YV:OK Ap.e:=by
 refine PA.ok mixed (au [zi.e] ⟨O9,trivial⟩) H0 (by kernel_rfl) (show∀a0 a1 b0 b1,Ap.goal (YW a0 a1 b0 b1) ((a0,a1,()),(b0,b1,()),())from ?_);intro a0 a1 b0 b1 hin hp;dsimp only[Ap]at hp ⊢;refine af (λh0=>⟨trivial,?_⟩) λh0=>?_
 all_goals refine congrArg (·,()) (auS.2 ?_)
 .simp[auE.1 h0]
 .simp[show a0≠b0 by simpa using h0]
theorem WG:OK zk.e:=by refine PA.ok mixed (au [Ap.e] ⟨YV,trivial⟩) YX (by kernel_rfl) (show∀a b,zk.goal (WH a b) (a,b,())from ?_);intro a b hin hp;dsimp only[zk]at hp ⊢;exact apk (K:=λr=>r=(decide (a=b),())) (λx y=>!decide (x=y)) (λx y=>by simp) _ a b _ hin.1.1 rfl
theorem WI:OK zl.e:=by
 refine PA.ok mixed (au [zk.e,Ep.e,Ce.e] ⟨WG,adb,aai,trivial⟩) H0 (by kernel_rfl) (show∀a0 a1 a2 a3 a4 b0 b1 b2 b3 b4,zl.goal (WJ a0 a1 a2 a3 a4 b0 b1 b2 b3 b4) ((a0,a1,a2,a3,a4,()),(b0,b1,b2,b3,b4,()),())from ?_);intro a0 a1 a2 a3 a4 b0 b1 b2 b3 b4 hin hp;dsimp only[zl]at hp ⊢;refine⟨trivial,af (λh0=>⟨trivial,af (λh1=>⟨trivial,?_⟩) λh1=>?_⟩) λh0=>?_⟩
 all_goals refine congrArg (·,()) (auS.2 ?_)
 .have h0:=fG h0;have h1:=fG h1;simp only[Prod.mk.injEq]at h0;obtain⟨rfl,rfl,rfl,_⟩:=h0;subst h1;simp
 .have h1:=fZ h1;simp[h1]
 .have h0:=fZ h0;simp only[auK,av1,false_iff,Prod.mk.injEq,aw3]at h0 ⊢;exactλh=>h0 ⟨h.1,h.2.1,h.2.2.1⟩
theorem ag9{a:List ig}{fs:List aK}{nx:Int}{d:List aF}{r:List dR}(h1:a=Sp.usual)(h2:aB (a,fs,nx,())=true)(h3:bg (a,fs,nx,()))(h4:0<fs.length)(h5:aC d)(h6:aj d=true)(h7:fQ fs d [] (λ_=>true) r):Qa (a,fs,nx,d,r,()):=by refine⟨⟨h3,h5,KU h7 h5.1 h3.2.1 NG⟩,h1,h4,?_⟩;rw[Tj (by rw[h6,h2];rfl) h7,auB rfl]
theorem aid:∃c,Qa c/\0<c.2.2.2.1.length:=by obtain⟨out,h⟩:=zT (fs:=[(1,0,false,0,[],())]) (a:=Sp.usual) (nx:=2) (d:=[([100,97],[(1,0,0,[],0,0,[],())],())]) [] (λ_=>true);exact⟨_,ag9 rfl OJ.1 OJ.2 (by decide) (Jv Dk (by simp) (by simp)) aeV (h (by rw[aeV,OJ.1];rfl)),Nat.zero_lt_one⟩
theorem afk:OK FD.e:=by
 refine XA.ok mixed (au [vN.e,AX.e,uH.e] ⟨LC,Qy,Ig,trivial⟩) aha (λ_ _=>by obtain⟨c,h⟩:=aid;exact⟨(((c.1,c.2.1,c.2.2.1,c.2.2.2.1,c.2.2.2.2.1,()),()),(([],0,0,()),())),⟨au7 0,h⟩⟩) (by kernel_rfl) (show∀c0 c1 c2,FD.goal (afl c0 c1 c2) ((c0,c1,c2,()),())from ?_);intro b i h hin hp;dsimp only[FD]at hp ⊢;refine⟨hp,λr0 hr0=>⟨hr0.1,λr1 hr1=>⟨⟨hr0.2.2.2.2.1,hr1.2.2.1⟩,?_⟩⟩⟩;rintro⟨⟨⟨a,fs,nx,d,r,⟨⟩⟩,ok,⟨⟩⟩,⟨⟩⟩ ⟨e1,e2,_⟩;have hz:(aj r1.1.1&&aB r0.1.1)=true:=by rw[hr1.2.2.2.1,hr0.2.2.1];rfl
 obtain⟨k1,k2,k3⟩:=e2 (e1.trans hz);have k1:((a,fs,nx,()):bU)=r0.1.1:=k1;have k2:d=r1.1.1:=k2;refine⟨hr1.1,?_⟩;subst k2;rw[← k1]at hr0 k3;exact⟨ag9 hr0.2.1 hr0.2.2.1 hr0.2.2.2.2.1 hr0.2.2.2.2.2 hr1.2.2.1 hr1.2.2.2.1 k3,hr1.2.2.2.2⟩
end Go.Proofs.Tryz
