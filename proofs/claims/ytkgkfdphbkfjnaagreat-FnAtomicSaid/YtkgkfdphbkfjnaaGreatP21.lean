import Derived.Test.YtkgkfdphbkfjnaaGreatP20
namespace Go.Proofs.Tryz
open Go Go.Fw Go.IntWalk Sp
theorem without_take(a b:List (Int×Unit)){n:Nat}(h:n<a.length):(a.take (n+1)).filter (λx=>!fM b x.1)=(a.take n).filter (λx=>!fM b x.1)++(bif !fM b (a.getD n (0,())).1 then[a.getD n (0,())]else[]):=jL (λx:Int×Unit=>!fM b x.1) (0,()) a h
theorem afr:OK FC.e:=by
 refine XA.ok mixed (au [qO.e] ⟨Lr,trivial⟩) ahg (λ⟨a,b,_⟩ _=>⟨((Sp.without b a,Sp.without a b,()),()),⟨rfl,rfl⟩⟩) (by kernel_rfl) (show∀a b,FC.goal (afs a b) (a,b,())from ?_);intro a b hin hp;dsimp only[FC]at hp ⊢;obtain⟨ha,hb⟩:a.length<=1000/\b.length<=1000:=hp;have fl:∀(p:Int×Unit->Bool)(l:List (Int×Unit)) n,((l.take n).filter p).length<=n:=λp l n=>by have:=auV p (l.take n);rw[aut]at this;omega
 refine dM (λi(x:List (Int×Unit))=>(((),i,()),x,())) (λy=>y.1.2.1) (λ_ _=>rfl) b.length (by omega) (λn l=>l=(b.take n).filter λx=>!fM a x.1) rfl (λI μ n l hn hJ next=>?_) λI μ l hJ=>?_
 .subst hJ;have hl:=fl (λx=>!fM a x.1) b n;have step:=without_take b a hn;dsimp only;refine dn (by omega) ⟨⟨by omega,by omega⟩,trivial,af (λh=>⟨⟨by omega,by omega⟩,by rw[bY];simp only[auv,auz];exact auM (Nat.add_le_add_right hl _) (by omega),rfl,next _ ?_⟩) λh=>⟨rfl,next _ ?_⟩⟩
  .have h:(!fM a (b.getD n (0,())).1)=true:=h;rw[step,h];rfl
  .have h:(!fM a (b.getD n (0,())).1)=false:=h;rw[step,h];simp
 .subst hJ;rw[auO];dsimp only;refine dw (by omega) (dM (λi(x:List (Int×Unit))=>(((),i,()),x,())) (λy=>y.1.2.1) (λ_ _=>rfl) a.length (by omega) (λn l=>l=(a.take n).filter λx=>!fM b x.1) rfl (λI μ n l hn hJ next=>?_) λI μ l hJ=>?_)
  .subst hJ;have hl:=fl (λx=>!fM b x.1) a n;have step:=without_take a b hn;dsimp only;refine dn (by omega) ⟨⟨by omega,by omega⟩,trivial,af (λh=>⟨⟨by omega,by omega⟩,by rw[bY];simp only[auv,auz];exact auM (Nat.add_le_add_right hl _) (by omega),rfl,next _ ?_⟩) λh=>⟨rfl,next _ ?_⟩⟩
   .have h:(!fM b (a.getD n (0,())).1)=true:=h;rw[step,h];rfl
   .have h:(!fM b (a.getD n (0,())).1)=false:=h;rw[step,h];simp
  .subst hJ;rw[auO];dsimp only;exact dw (by omega) ⟨rfl,rfl⟩
theorem JU:OK tV.e:=by
 refine XA.ok mixed (au [FC.e,oK.e] ⟨afr,Gn,trivial⟩) Y4 (λ⟨a,b,_⟩ _=>⟨((xW a b,()),()),rfl⟩) (by kernel_rfl) (show∀a b,tV.goal (WM a b) (a,b,())from ?_);intro a b hin hp;dsimp only[tV]at hp ⊢;obtain⟨ha,hb⟩:bF a/\bF b:=hp;have hbl:=hb.1;refine dM (λi(x:List lJ)=>(((),i,()),x,())) (λy=>y.1.2.1) (λ_ _=>rfl) b.length (by omega) (λn l=>l=((b.take n).map (uw a)).filter zG) rfl (λI μ n l hn hJ next=>?_) λI μ l hJ=>?_
 .subst hJ;have hl:(((b.take n).map (uw a)).filter zG).length<=n:=by have:=auV zG ((b.take n).map (uw a));rw[auG,aut]at this;omega
  have step:=afg a b hn;have l1:=U5 ha (b.getD n oI).1;have l2:(b.getD n oI).2.1.length<=1000:=II hb hn;dsimp only;refine dn (by omega) ⟨⟨by omega,by omega⟩,ha,⟨by omega,by omega⟩,⟨l1,l2⟩,?_⟩;rintro⟨⟨x,y,⟨⟩⟩,⟨⟩⟩ ⟨e1,e2⟩;have e1:x=Sp.without (b.getD n oI).2.1 (fO a (b.getD n oI).1):=e1;have e2:y=Sp.without (fO a (b.getD n oI).1) (b.getD n oI).2.1:=e2;have hd:uw a (b.getD n oI)=((b.getD n oI).1,x,y,()):=by rw[e1,e2];rfl
  have hz:zG (uw a (b.getD n oI))=decide (0<x.length+y.length):=by rw[hd];rfl
  have small:(((b.take n).map (uw a)).filter zG).length+1<=big:=by rw[bY];omega
  dsimp only;refine af (λh=>⟨⟨by omega,by omega⟩,small,rfl,next _ ?_⟩) λh=>af (λh2=>⟨⟨by omega,by omega⟩,small,rfl,next _ ?_⟩) λh2=>⟨rfl,next _ ?_⟩
  .have h:(x.length:Int)>0:=fG h;rw[step,hz,auB (by omega),hd];rfl
  .have h2:(y.length:Int)>0:=fG h2;rw[step,hz,auB (by omega),hd];rfl
  .have h:¬(x.length:Int)>0:=fZ h;have h2:¬(y.length:Int)>0:=fZ h2;rw[step,hz,auD (by omega)];simp
 .subst hJ;rw[auO];dsimp only;exact dw (by omega) rfl
theorem apr{α:Type}(p:α->Bool)(d:α)(l:List α){n:Nat}(h:n<l.length):(l.take (n+1)).any p=((l.take n).any p||p (l.getD n d)):=by rw[Sp.take_succ' l n d h,List.any_append];simp
theorem aqy{r0 r3:Sp.LS}{f g:aK}{q:List bK}(h0:dP r0 (jk f g))(h3:dP r3 (kW q)):(r3.any λx=>dI r0 x.1)=(kW q).any λt=>(jk f g).contains t:=by rw[← aon h0 h3,auS,avM,avM];exact⟨λ⟨x,hx,h⟩=>⟨x,gK.1 h,gK.2 hx⟩,λ⟨x,hx,h⟩=>⟨x,gK.1 h,gK.2 hx⟩⟩
theorem Pe:OK rC.e:=by
 refine XA.ok mixed (au [yC.e,Ah.e,CJ.e,xU.e,uM.e] ⟨Kw,YI,aaL,U1,Ih,trivial⟩) PW (λ⟨d,f,g,_⟩ hp=>by obtain⟨r,h⟩:=Rl d f g;exact⟨((r,()),()),h⟩) (by kernel_rfl) (show∀d a0 a1 a2 a3 a4 b0 b1 b2 b3 b4,rC.goal (Pg d a0 a1 a2 a3 a4 b0 b1 b2 b3 b4) (d,(a0,a1,a2,a3,a4,()),(b0,b1,b2,b3,b4,()),())from ?_);intro d a0 a1 a2 a3 a b0 b1 b2 b3 b hin hp;dsimp only[rC]at hp ⊢;obtain⟨hd,hf,hg,hab⟩:aC d/\bV (a0,a1,a2,a3,a,())/\bV (b0,b1,b2,b3,b,())/\a.length+b.length<=1000:=hp;have hl:=hd.1;refine af (λh=>⟨hl,Rk (awD.1 h)⟩) λh=>⟨⟨hf,hg,hab⟩,?_⟩;have hid:a0=b0:=akq h;rintro⟨⟨r0,⟨⟩⟩,⟨⟩⟩ hr0;have hr0:dP r0 (jk (a0,a1,a2,a3,a,()) (b0,b1,b2,b3,b,())):=hr0;dsimp only;generalize hF:((a0,a1,a2,a3,a,()):aK)=F at*;generalize hG:((b0,b1,b2,b3,b,()):aK)=G at*;have am9:(a3 !=b3)=(F.2.2.2.1 !=G.2.2.2.1):=by rw[← hF,← hG]
 refine dM (λi(x:Sp.LS)=>(((),i,()),x,())) (λy=>y.1.2.1) (λ_ _=>rfl) d.length (by omega) (λn l=>l=((d.take n).filter (lZ F G)).map λx=>(x.1,())) rfl (λI μ n l hn hJ next=>?_) λI μ l hJ=>?_
 .subst hJ;have hl:=BD (lZ F G) (λx:aF=>(x.1,())) d n;dsimp only;rw[am9];refine dn (by omega) ⟨λy=>y.1.1=(Sp.linked (d.getD n zW).2.1&&F.2.2.2.1 !=G.2.2.2.1),af (λh=>⟨⟨by omega,by omega⟩,trivial,rfl,?_⟩) λh=>⟨rfl,?_⟩,?_⟩
  .rw[h,awl];rfl
  .rw[h,au5]
  rintro⟨⟨hit,⟨⟩⟩,⟨⟩⟩ hhit;have hhit:hit=(Sp.linked (d.getD n zW).2.1&&F.2.2.2.1 !=G.2.2.2.1):=hhit;refine⟨⟨by omega,by omega⟩,mZ hd hn,?_⟩;rintro⟨⟨r6,⟨⟩⟩,⟨⟩⟩ IE;have IE:dP r6 (kW (d.getD n zW).2.1):=IE;have h6:=IE.1;dsimp only;refine dM (λi(x:Bool)=>((x,i,()),())) (λy=>y.1.2.1) (λ_ _=>rfl) r6.length (by omega) (λk x=>x=(hit||(r6.take k).any λt=>dI r0 t.1)) (by simp) (λI μ k x hk hJ NI=>?_) λI μ x hJ=>?_
  .have step:=apr (λt:Sp.Bytes×Unit=>dI r0 t.1) ([],()) r6 hk;dsimp only;refine dn (by omega) (af (λh=>⟨rfl,NI _ ?_⟩) λh=>⟨⟨by omega,by omega⟩,trivial,rfl,NI _ ?_⟩)
   .have h:x=true:=h;rw[h]at hJ;rw[step,← Bool.or_assoc,← hJ];rfl
   .have h:x=false:=h;rw[h]at hJ;rw[step,← Bool.or_assoc,← hJ,aw1,auA]
  .rw[auO,aqy hr0 IE]at hJ;have ht:x=lZ F G (d.getD n zW):=by rw[hJ,hhit];unfold lZ;rw[Bool.or_comm]
   dsimp only;refine dw (by omega) (af (λh=>⟨⟨by omega,by omega⟩,by rw[bY];simp only[auv,auz];omega,rfl,next _ ?_⟩) λh=>⟨rfl,next _ ?_⟩)
   .have h:x=true:=h;rw[jL (lZ F G) zW d hn,← ht,h,avd];rfl
   .have h:x=false:=h;rw[jL (lZ F G) zW d hn,← ht,h,avd];simp
 .subst hJ;rw[auO];dsimp only;exact dw (by omega) (O4 (by rw[← hF,← hG];exact hid))
def aku(l:Sp.LS):Prop:=l.Pairwise λx y=>Op.bytesLess x.1 y.1=true
theorem aor{x:Sp.Bytes×Unit}{r:Sp.LS}{s:Sp.Bytes}:AY (x::r) s=if Op.bytesLess x.1 s=true then x::AY r s else if x.1=s then x::r else(s,())::x::r:=by
 unfold AY;by_cases h:Op.bytesLess x.1 s=true
 .rw[if_pos h,List.takeWhile_cons_of_pos (p:=λx:Sp.Bytes×Unit=>Op.bytesLess x.1 s) h];dsimp only;rw[auv];cases hc:(decide ((r.takeWhile λx=>Op.bytesLess x.1 s).length<r.length)&&(r.getD (r.takeWhile λx=>Op.bytesLess x.1 s).length ([],())).1==s)with
  |true=>
   have:(decide ((r.takeWhile λx=>Op.bytesLess x.1 s).length+1<(x::r).length)&&((x::r).getD ((r.takeWhile λx=>Op.bytesLess x.1 s).length+1) ([],())).1==s)=true:=by rw[← hc,auv];simp[List.getD_cons_succ]
   rw[this];rfl
  |false=>
   have:(decide ((r.takeWhile λx=>Op.bytesLess x.1 s).length+1<(x::r).length)&&((x::r).getD ((r.takeWhile λx=>Op.bytesLess x.1 s).length+1) ([],())).1==s)=false:=by rw[← hc,auv];simp[List.getD_cons_succ]
   rw[this];rfl
 .rw[if_neg h,List.takeWhile_cons_of_neg (p:=λx:Sp.Bytes×Unit=>Op.bytesLess x.1 s) h];by_cases e:x.1=s
  .rw[if_pos e];simp[e]
  .rw[if_neg e];simp[auu.2 e]
theorem ade{s:Sp.Bytes}:∀{l:Sp.LS},aku l->aku (AY l s)
 |[],_=>List.pairwise_singleton _ _
 |y::r,h=>by
  obtain⟨h1,h2⟩:=avH.1 h;have i1:=ade (s:=s) h2;rw[aor];by_cases c1:Op.bytesLess y.1 s=true
  .rw[if_pos c1];refine avH.2 ⟨λz hz=>?_,i1⟩;rcases(vC z).1 hz with rfl|hz
   .exact c1
   .exact h1 z hz
  .rw[if_neg c1];by_cases c2:y.1=s
   .rw[if_pos c2];exact h
   .rw[if_neg c2];have c3:Op.bytesLess s y.1=true:=NJ y.1 s (by simpa using c1) c2;refine avH.2 ⟨λz hz=>?_,h⟩;rcases au1.1 hz with rfl|hz
    .exact c3
    .exact FZ _ _ _ c3 (h1 z hz)
theorem al7{l b:Sp.LS}(h:aku l)(hs:∀x∈l,x∈b):l.length<=b.length:=by
 have hn:l.Nodup:=by unfold List.Nodup;exact List.Pairwise.imp (λ{a b} hab e=>IJ hab (congrArg Prod.fst e)) h
 exact YO l b hn hs
structure Rd(d:List aF)(names out:Sp.LS):Prop where
 asc:aku out
 base:∀x∈names,x∈out
 reach:∀x∈out,Sp.Reach d (λs=>dI names s=true) x.1
 sub:∀x∈out,x∈names++fP d
theorem Rd.len{d:List aF}{names out:Sp.LS}(h:Rd d names out):out.length<=names.length+d.length:=by
 have:=al7 h.asc h.sub;rw[auy]at this;have e:(fP d).length=d.length:=by unfold fP;rw[auG]
 omega
theorem Rd.put{d:List aF}{names out:Sp.LS}(h:Rd d names out){i:Nat}(hi:i<d.length){s:Sp.Bytes}(hs:(s,())∈out)(ha:s∈nX (dW d i)):Rd d names (AY out (Sp.nameOf d i)) where
 asc:=ade h.asc
 base:=λx hx=>(vC x).2 (.inr (h.base x hx))
 reach:=λx hx=>by
  rcases(vC x).1 hx with rfl|hx
  .exact .step (h.reach _ hs) hi ha
  .exact h.reach x hx
 sub:=λx hx=>by
  rcases(vC x).1 hx with rfl|hx
  .exact auL.2 (.inr (O7 hi))
  .exact h.sub x hx
def shut(d:List aF)(out:Sp.LS):Prop:=∀i,i<d.length->∀s∈nX (dW d i),(s,())∈out->(Sp.nameOf d i,())∈out
def akv(d:List aF)(out:Sp.LS):Nat:=((List.range d.length).filter λi=>dI out (Sp.nameOf d i)).length
theorem aqz(d:List aF)(out:Sp.LS):akv d out<=d.length:=by have:=auV (λi=>dI out (Sp.nameOf d i)) (List.range d.length);rw[List.length_range]at this;exact this
theorem aqA{d:List aF}{a b:Sp.LS}(h:∀x∈a,x∈b){i:Nat}(hi:i<d.length)(h1:(Sp.nameOf d i,()) ∉ a)(h2:(Sp.nameOf d i,())∈b):akv d a<akv d b:=
 Sp.filter_lt (λj hj=>gK.2 (h _ (gK.1 hj))) ⟨i,avl.2 hi,gK.2 h2,by rw[avF];exactλh'=>h1 (gK.1 h')⟩
theorem sN:OK jr.e:=by
 refine XA.ok mixed (au [yC.e,CG.e,qU.e] ⟨Kw,aaI,BF,trivial⟩) LJ (λ⟨d,names,_⟩ hp=>by obtain⟨r,h⟩:=Rn d hp.2.1 names hp.2.2;exact⟨((r,()),()),h⟩) (by kernel_rfl) (show∀d names,jr.goal (KD d names) (d,names,())from ?_);intro d names hin hp;dsimp only[jr]at hp ⊢;obtain⟨hd,hd5,hnl⟩:aC d/\d.length<=5/\names.length<=900:=hp;refine dM (λi(x:Sp.LS)=>((x,i,()),())) (λy=>y.1.2.1) (λ_ _=>rfl) names.length (by omega) (λn l=>aku l/\∀x,x∈l↔x∈names.take n) ⟨List.Pairwise.nil,λx=>by simp⟩ (λI μ n l hn hJ next=>?_) λI μ l hJ=>?_
 .obtain⟨h1,h2⟩:=hJ;have hl:=al7 h1 λx hx=>(h2 x).1 hx;rw[aut]at hl;dsimp only;refine dn (by omega) ⟨⟨by omega,by omega⟩,by omega,rfl,next _ ⟨ade h1,λx=>?_⟩⟩;rw[vC,h2,Sp.take_succ' names n ([],()) hn,auL,avk,auA];exact Or.comm
 obtain⟨h1,h2⟩:=hJ;rw[auO]at h2;dsimp only;refine dw (by omega) ⟨λy=>∃r:Nat,y.1.2.1=r/\r<=d.length+1/\Rd d names y.1.1/\(shut d y.1.1\/r<=akv d y.1.1),λy=>((d.length:Int)+1-y.1.2.1).toNat,⟨0,rfl,by omega,⟨h1,λx hx=>(h2 x).2 hx,λx hx=>.base (gK.2 ((h2 x).1 hx)),λx hx=>auL.2 (.inl ((h2 x).1 hx))⟩,.inr (auX _)⟩,?_⟩;rintro⟨⟨out,_,⟨⟩⟩,⟨⟩⟩ ⟨rd,rfl,hrd,R,hcl⟩;dsimp only at R hcl ⊢;refine af (λhc=>?_) λhc=>?_
 .have hc:(rd:Int)<=d.length:=fG hc;have w:IntKind.i64.wrap ((rd:Int)+1)=((rd+1:Nat):Int):=eP _ (by omega);rw[w];refine dM (λi(x:Sp.LS)=>((x,i,()),())) (λy=>y.1.2.1) (λ_ _=>rfl) d.length (by omega) (λi o=>Rd d names o/\(∀x∈out,x∈o)/\(∀j,j<i->∀s∈nX (dW d j),(s,())∈out->(Sp.nameOf d j,())∈o)/\(shut d out->∀x∈o,x∈out)) ⟨R,λx hx=>hx,λj hj=>by omega,λ_ x hx=>hx⟩ (λI μ i o hi hJ next=>?_) λI μ o hJ=>?_
  .obtain⟨R2,g1,g2,g3⟩:=hJ;dsimp only;rw[auA];refine dn (by omega) ⟨⟨by omega,by omega⟩,mZ hd hi,?_⟩;rintro⟨⟨r7,⟨⟩⟩,⟨⟩⟩ Y5;have Y5:dP r7 (nX (dW d i)):=Y5;have h7:=Y5.1;dsimp only;refine dM (λk(x:Sp.LS)=>((x,k,()),())) (λy=>y.1.2.1) (λ_ _=>rfl) r7.length (by omega) (λk o3=>Rd d names o3/\(∀x∈o,x∈o3)/\(∀t,t<k->r7.getD t ([],())∈out->(Sp.nameOf d i,())∈o3)/\(shut d out->∀x∈o3,x∈out)) ⟨R2,λx hx=>hx,λt ht=>by omega,g3⟩ (λI μ k o3 hk hJ NI=>?_) λI μ o3 hJ=>?_
   .obtain⟨R3,k1,k2,k3⟩:=hJ;have hl3:=R3.len;have hmem:r7.getD k ([],())∈r7:=getD_mem (d:=(([]:Sp.Bytes),())) hk;have hask:(r7.getD k ([],())).1∈nX (dW d i):=(Y5.2 _).1 hmem;dsimp only;rw[auA];refine dn (by omega) ⟨⟨by omega,by omega⟩,trivial,af (λh=>⟨⟨by omega,by omega⟩,by omega,rfl,NI _ ⟨R3.put hi (gK.1 h) hask,λx hx=>(vC x).2 (.inr (k1 x hx)),λt _ _=>(vC _).2 (.inl rfl),λhs x hx=>?_⟩⟩) λh=>⟨rfl,NI _ ⟨R3,k1,λt ht hto=>?_,k3⟩⟩⟩
    .rcases(vC x).1 hx with rfl|hx
     .exact hs i hi _ hask (k3 hs _ (gK.1 h))
     .exact k3 hs x hx
    .rcases auJ t k with h'|h'
     .exact k2 t h' hto
     .have:t=k:=by omega
      subst this;have h':dI o3 (r7.getD t ([],())).1=true:=gK.2 (k1 _ (g1 _ hto));have h:dI o3 (r7.getD t ([],())).1=false:=h;rw[h]at h';cases h'
   .obtain⟨R3,k1,k2,k3⟩:=hJ;dsimp only;refine dw (by omega) ⟨rfl,next _ ⟨R3,λx hx=>k1 x (g1 x hx),λj hj s hs hso=>?_,k3⟩⟩;rcases auJ j i with h'|h'
    .exact k1 _ (g2 j h' s hs hso)
    .have:j=i:=by omega
     subst this;obtain⟨t,ht,e⟩:=au6 ((Y5.2 s).2 hs);have hat:r7.getD t ([],())=(s,()):=by rw[aur,auw ht,e];rfl
     exact k2 t ht (by rw[hat];exact hso)
  .obtain⟨R2,g1,g2,g3⟩:=hJ;dsimp only;refine dw (by omega) ⟨rfl,⟨rd+1,rfl,by omega,R2,?_⟩,by dsimp only;omega⟩;by_cases hs:shut d out
   .left;intro i hi s hs' hso;exact g1 _ (hs i hi s hs' (g3 hs _ hso))
   .right;rcases hcl with hcl|hcl
    .exact(hs hcl).elim
    .obtain⟨i,hi⟩:=awP.1 hs;have hi1:i<d.length:=au8 λh=>hi λh'=>(h h').elim;obtain⟨s,hs2⟩:=awP.1 λh=>hi λ_=>h;have hs3:s∈nX (dW d i):=au8 λh=>hs2 λh'=>(h h').elim;have hs4:(s,())∈out:=au8 λh=>hs2 λ_ h'=>(h h').elim;have hs5:(Sp.nameOf d i,()) ∉ out:=λh=>hs2 λ_ _=>h;have:=aqA g1 hi1 hs5 (g2 i hi1 s hs3 hs4);show rd+1<=akv d o;omega
 .have hc:¬(rd:Int)<=d.length:=fZ hc;have hl:=R.len;have hs:shut d out:=by
   rcases hcl with hcl|hcl
   .exact hcl
   .have:=aqz d out;omega
  refine⟨by rw[bY];omega,by show out.length<=1000;omega,λs=>?_⟩;rw[gK];refine⟨λh=>R.reach _ h,λh=>?_⟩;show(s,())∈out
  induction h with
  |base hb=>exact R.base _ (gK.1 hb)
  |step _ hj ha ih=>exact hs _ hj _ ha ih
theorem U9:OK xY.e:=by refine XA.ok mixed (au [jr.e,rC.e] ⟨sN,Pe,trivial⟩) H0 (λ⟨d,f,g,_⟩ hp=>by obtain⟨r,h⟩:=al3 d hp.2.1 f g;exact⟨((r,()),()),h⟩) (by kernel_rfl) (show∀d a0 a1 a2 a3 a4 b0 b1 b2 b3 b4,xY.goal (Va d a0 a1 a2 a3 a4 b0 b1 b2 b3 b4) (d,(a0,a1,a2,a3,a4,()),(b0,b1,b2,b3,b4,()),())from ?_);intro d a0 a1 a2 a3 a b0 b1 b2 b3 b hin hp;dsimp only[xY]at hp ⊢;obtain⟨h1,h2,h3,h4,h5⟩:=hp;exact⟨⟨h1,h3,h4,h5⟩,λr0 hr0=>⟨⟨h1,h2,by have:=hr0.1;omega⟩,λr1 hr1=>aoo hr0 hr1⟩⟩
theorem alp{c:eF}{s:bU}{d:List aF}(nm:Sp.Bytes->Bool)(h:(aj d&&aB s)=true):∃c' df,Sp.turned c s d nm c' df true:=by obtain⟨c',df,g⟩:=afi c s d nm;rw[h]at g;exact⟨c',df,g⟩
theorem zH:OK pF.e:=by refine XA.ok mixed (au [tV.e,Af.e] ⟨JU,Yx,trivial⟩) H0 (λ⟨c,s,d,names,_⟩ hp=>by obtain⟨c',df,h⟩:=alp (c:=c) (dI names) hp.2.2.2;exact⟨((((c'.1,c'.2.1,c'.2.2.1,c'.2.2.2.1,c'.2.2.2.2.1,()),df,()),())),h⟩) (by kernel_rfl) (show∀l0 l1 l2 l3 l4 s0 s1 s2 d names,pF.goal (aft l0 l1 l2 l3 l4 s0 s1 s2 d names) ((l0,l1,l2,l3,l4,()),(s0,s1,s2,()),d,names,())from ?_);intro a l nx d0 r0 sa sl sn d names hin hp;dsimp only[pF]at hp ⊢;obtain⟨hc,hs,hd,hz⟩:=hp;have hr:bF r0:=hc.2.2;refine⟨⟨hs,hd,hr⟩,?_⟩;rintro⟨⟨out,ok,⟨⟩⟩,⟨⟩⟩ ⟨e1,e2⟩;have e1:ok=(aj d&&aB (sa,sl,sn,())):=e1;have e2:ok=true->fQ sl d r0 (dI names) out:=e2;have hev:=e2 (e1.trans hz);exact⟨⟨hr,KU hev hd.1 hs.2.1 hr⟩,λr3 hr3=>⟨hz.symm,λ_=>⟨rfl,rfl,hev,hr3⟩,λh=>by cases h⟩⟩
end Go.Proofs.Tryz
