import Derived.Test.YtkgkfdphbkfjnaaGreatP15
import Derived.Test.YtkgkfdphbkfjnaaGreatV7
import Derived.Test.YtkgkfdphbkfjnaaGreatV5
namespace Go.Proofs.Tryz
open Go Go.Fw Go.IntWalk Sp
theorem zK {fs:List aN} {a:List gW} {nx:Int} {d:List aC} (r:List dL) (nm:Sp.Bytes→Bool):∃ out,(ai d&&ax (a,fs,nx,()))=true→fM fs d r nm out:=by
 by_cases h:(ai d&&ax (a,fs,nx,()))=true
 · rw [Bool.and_eq_true] at h
   obtain ⟨aI,hl⟩:=Om h.1
   obtain ⟨out,ho⟩:=MX r nm (jX.1 h.1).1 hl (rW h.2)
   exact ⟨out,fun _=>ho⟩
 · exact ⟨[],fun h'=>(h h').elim⟩
abbrev zN:aC:=([],[],())
theorem ajz {a b:Int} (h:(a !=b)=false):a=b:=by simpa using h
theorem acu {α β:Type} (g:α→β) (d:α) (l:List α) {n:Nat} (h:n<l.length):(l.take n).map g++[g (l.getD n d)]=(l.take (n+1)).map g:=by
 rw [Sp.take_succ' l n d h,List.map_append];rfl
theorem ji {d:List aC} (h:ai d=true):bF d=true∧d.length≤5:=⟨(jX.1 h).1,Ue (jX.1 h).1⟩
theorem still_at {d:List aC} {aI:List (Int×Unit)} {nm:Sp.Bytes→Bool} {fs:List aN} {out:List dL} {k:Nat}
 (h:∀ j,j<d.length→j<d.length→nm (Sp.nameOf d j)=true→Sp.lv aI j=k→Sp.sel fs (dQ d j) (bD out)=iH out j):∀ i,i<d.length→nm (Sp.nameOf d i)=true→Sp.lv aI i=k→Sp.sel fs (dQ d i) (bD out)=iH out i:=fun i hi=>h i hi hi
theorem ajA:∀ (l:List (Int×Unit)),0<l.length→∃ m:Int,(∀ x∈l,x.1≤m)∧(m,())∈l
 |[x],_=>⟨x.1,fun y hy=>by rw [List.mem_singleton.1 hy];exact Int.le_refl _,List.mem_singleton.2 rfl⟩
 |x::y::r,_=>by
  obtain ⟨m,h1,h2⟩:=ajA (y::r) (by simp)
  by_cases h:x.1≤m
  · exact ⟨m,fun z hz=>by rcases List.mem_cons.1 hz with rfl|hz;exact h;exact h1 z hz,List.mem_cons_of_mem _ h2⟩
  · exact ⟨x.1,fun z hz=>by rcases List.mem_cons.1 hz with rfl|hz;exact Int.le_refl _;have:=h1 z hz;omega,List.mem_cons_self⟩
theorem JA:OK sS.e:=by
 refine PA.ok mixed (au [EZ.e] ⟨aew,trivial⟩) XU (by kernel_rfl) (show ∀ s0 s1 s2 q a,sS.goal (VH s0 s1 s2 q a) ((s0,s1,s2,()),q,a,()) from ?_)
 intro s0 fs nx q r hin hp
 dsimp only [sS] at hp ⊢
 obtain ⟨h1,h2,h3⟩:=hp
 have hl:fs.length≤1000:=h1.2.1
 obtain ⟨I,μ,g0,g1⟩:=acs (K:=fun z=>z=(Sp.sel fs q (bD r),())) (fun f=>iI q f (bD r)) (fun f:aN=>(f.1,())) (0,0,false,0,[],()) fs (q,r,(s0,fs,nx,()),()) (A:=fun _=>q.length≤1000∧bH r) (fun _ _=>⟨h2,h3⟩) (by omega) rfl
 refine ⟨I,μ,g0,fun y hy=>?_⟩
 have h:=g1 y hy
 dsimp only at h ⊢
 revert h
 cases decide (y.1.2.1<(fs.length:Int)) with
 |false=>exact id
 |true=>
  rintro ⟨b,a,h⟩
  refine ⟨b,a,?_⟩
  revert h
  cases iI q (fs.getD (Int.toNat y.1.2.1) (0,0,false,0,[],())) (bD r) with
  |true=>exact fun h=>⟨b,h.1,rfl,h.2.2⟩
  |false=>exact fun h=>⟨rfl,h.2⟩
theorem JW:OK x9.e:=by
 refine PA.ok mixed (au [] trivial) ahZ (by kernel_rfl) (show ∀ list s,x9.goal (agm list s) (list,s,()) from ?_)
 intro l s hin hp
 dsimp only [x9] at hp ⊢
 exact aol (K:=fun r=>r=(dA l s,())) (fun x:List UInt8×Unit=>x.1==s) ([],()) l _ hin.1.1 rfl
theorem Di:OK qm.e:=by
 refine PA.ok mixed (au [] trivial) aey (by kernel_rfl) (show ∀ d,qm.goal (acv d) (d,()) from ?_)
 intro d hin hp
 dsimp only [qm] at hp ⊢
 exact ajB (K:=fun r=>r=(fE d,())) (fun x:aC=>(x.1,())) ([],[],()) d _ (by have hp:d.length≤1000:=hp;omega) rfl
theorem Hy:OK uq.e:=by
 refine PA.ok mixed (au [] trivial) aez (by kernel_rfl) (show ∀ d,uq.goal (acw d) (d,()) from ?_)
 intro d hin hp
 dsimp only [uq] at hp ⊢
 exact ajB (K:=fun r=>r=(fE d,())) (fun x:aC=>(x.1,())) ([],[],()) d _ (by have hp:d.length≤1000:=hp;omega) rfl
theorem Ur:OK xC.e:=by
 refine PA.ok mixed (au [rO.e] ⟨Eo,trivial⟩) VI (by kernel_rfl) (show ∀ a b,xC.goal (Us a b) (a,b,()) from ?_)
 intro a b hin hp
 dsimp only [xC] at hp ⊢
 have hlen:a.length≤maxLen:=hin.1.1
 rw [maxLen_eq] at hlen
 refine af (fun h=>?_) fun h=>?_
 · have h:(a.length:Int)≠b.length:=by simpa using h
   exact congrArg (·,()) (decide_eq_false fun e=>h (by rw [e])).symm
 · have h:(a.length:Int)=b.length:=by simpa using h
   refine iM a.length hlen (fun n=>∀ i,i<n→a.getD i oC=b.getD i oC) (fun i hi=>by omega) (fun I μ n hn hJ next=>?_) fun I μ hJ=>(by dsimp only;exact dI (by omega) (by rw [decide_eq_true (Ou (by omega) hJ)]))
   dsimp only
   have no:a.getD n oC≠b.getD n oC→(false,())=(decide (a=b),()):=fun hne=>by rw [decide_eq_false fun e=>hne (by rw [e])]
   refine dH (by omega) ⟨⟨by omega,by omega⟩,⟨by omega,by omega⟩,af (fun g=>no fun e=>?_) fun g=>⟨⟨by omega,by omega⟩,⟨by omega,by omega⟩,trivial,af (fun g2=>no fun e=>?_) fun g2=>⟨rfl,next fun i hi=>?_⟩⟩⟩
   · have g:¬ (a.getD n oC).1=(b.getD n oC).1:=beq_eq_false_iff_ne.1 (dS g)
     exact g (by rw [e])
   · have g2:¬ (a.getD n oC).2.1=(b.getD n oC).2.1:=fZ (dS g2)
     exact g2 (by rw [e])
   · rcases Nat.lt_or_ge i n with h'|h'
     · exact hJ i h'
     · have:i=n:=by omega
       subst this
       have g:(a.getD i oC).1=(b.getD i oC).1:=beq_iff_eq.1 (bU g)
       have g2:(a.getD i oC).2.1=(b.getD i oC).2.1:=fJ (bU g2)
       exact Prod.ext g (Prod.ext g2 rfl)
theorem ZW:OK Ce.e:=by
 refine XA.ok mixed (au [] trivial) acy (fun ⟨l,_⟩ hp=>by obtain ⟨m,h⟩:=ajA l hp;exact ⟨((m,()),()),h⟩) (by kernel_rfl) (show ∀ Ij,Ce.goal (ZX Ij) (Ij,()) from ?_)
 intro l hin hp
 dsimp only [Ce] at hp ⊢
 have hp:0<l.length:=hp
 have hlen:l.length≤maxLen:=hin.1.1
 rw [maxLen_eq] at hlen
 refine ⟨fun _=>True,af (fun h=>by have:=fJ h;omega) fun h=>⟨rfl,trivial⟩,fun _ _=>⟨⟨by omega,by omega⟩,?_⟩⟩
 refine ⟨fun y=>∃ n:Nat,y.1.2.1=n∧1≤n∧n≤l.length∧(∀ i,i<n→Sp.lv l i≤y.1.1)∧∃ i,i<l.length∧Sp.lv l i=y.1.1,fun y=>((l.length:Int)-y.1.2.1).toNat,⟨1,rfl,by omega,by omega,fun i hi=>by rw [show i=0 by omega];exact Int.le_refl _,0,hp,rfl⟩,?_⟩
 rintro ⟨⟨m,_,⟨⟩⟩,⟨⟩⟩ ⟨n,rfl,n1,n2,h1,h2⟩
 dsimp only at h1 h2 ⊢
 refine af (fun hc=>?_) fun hc=>⟨fun x hx=>?_,?_⟩
 · have hc:=fJ hc
   have w:IntKind.i64.wrap ((n:Int)+1)=((n+1:Nat):Int):=fF _ (by omega)
   rw [w]
   have e:(l.getD (Int.toNat (n:Int)) (0,())).1=Sp.lv l n:=rfl
   rw [e]
   refine ⟨⟨by omega,by omega⟩,rfl,⟨n+1,rfl,by omega,by omega,fun i hi=>?_,?_⟩,by omega⟩
   · by_cases hi':i=n
     · subst hi';split<;>omega
     · have:=h1 i (by omega);split<;>omega
   · split
     · exact ⟨n,by omega,rfl⟩
     · exact h2
 · have hc:=fZ hc
   exact ajw (p:=fun z=>z≤m) (fun i hi=>h1 i (by omega)) x hx
 · obtain ⟨i,hi,e⟩:=h2
   have:=XV hi
   rw [e] at this;exact this
theorem XW:OK zV.e:=by
 refine XA.ok mixed (au [Ce.e,xY.e] ⟨ZW,JV,trivial⟩) H0 (fun ⟨d,_⟩ _=>⟨(((1000:Int),()),()),⟨Int.le_refl _,fun aI hs hl i hi=>by have:=(hl.2.1 i hi).2;have:=(ji hs).2;show Sp.lv aI i≤1000;omega⟩⟩) (by kernel_rfl) (show ∀ d,zV.goal (XY d) (d,()) from ?_)
 intro d hin hp
 dsimp only [zV] at hp ⊢
 refine ⟨hp,?_⟩
 rintro ⟨⟨aI,ok,⟨⟩⟩,⟨⟩⟩ ⟨e1,e2⟩
 have e1:ok=ai d:=e1
 have e2:ok=true→ku d aI:=e2
 refine af (fun h=>?_) fun h=>af (fun h2=>?_) fun h2=>⟨?_,?_⟩
 · have h:ok=false:=dS h
   exact ⟨by decide,fun l hs=>by rw [← e1,h] at hs;cases hs⟩
 · have h2:(aI.length:Int)=0:=by simpa using h2
   have hl:=e2 (bU h)
   exact ⟨by decide,fun l hs hl' i hi=>by have:=hl.1;omega⟩
 · have h2:¬ (aI.length:Int)=0:=by simpa using h2
   show 0<aI.length
   omega
 · rintro ⟨⟨m,⟨⟩⟩,⟨⟩⟩ ⟨g1,g2⟩
   have hl:=e2 (bU h)
   have hlen:=(ji (e1▸bU h)).2
   have g2:(m,())∈aI:=g2
   refine ⟨?_,fun l hs hl' i hi=>?_⟩
   · obtain ⟨i,hi,e⟩:=List.getElem_of_mem g2
     have hi':i<d.length:=by rw [← hl.1];exact hi
     have:=(hl.2.1 i hi').2
     have e3:Sp.lv aI i=m:=by
      unfold Sp.lv
      rw [List.getD_eq_getElem?_getD,List.getElem?_eq_getElem hi,e];rfl
     show m≤1000
     omega
   · rw [XZ hl' hl]
     exact g1 _ (XV (by rw [hl.1];exact hi))
theorem KP:OK ve.e:=by
 refine XA.ok mixed (au [uN.e] ⟨FH,trivial⟩) ZY (fun ⟨d,_⟩ _=>⟨(((1000:Int),()),()),⟨Int.le_refl _,fun aI hs hl i hi=>by have:=(hl.2.1 i hi).2;have:=(ji hs).2;show Sp.lv aI i≤1000;omega⟩⟩) (by kernel_rfl) (show ∀ d,ve.goal (X0 d) (d,()) from ?_)
 intro d hin hp
 dsimp only [ve] at hp ⊢
 refine ⟨hp,?_⟩
 rintro ⟨⟨aI,ok,⟨⟩⟩,⟨⟩⟩ ⟨e1,e2,e3⟩
 have e1:ok=ai d:=e1
 have e2:ok=true→ku d aI:=e2
 have e3:ok=false→aI=[]:=e3
 have hlen:aI.length≤5∧∀ i,i<aI.length→Sp.lv aI i≤1000:=by
  cases hk:ok with
  |false=>rw [e3 hk];exact ⟨by decide,fun i hi=>by simp at hi⟩
  |true=>
   have hl:=e2 hk
   have h5:=(ji (e1▸hk)).2
   exact ⟨by rw [hl.1];exact h5,fun i hi=>by have:=(hl.2.1 i (by rw [← hl.1];exact hi)).2;omega⟩
 refine ⟨fun y=>∃ n:Nat,y.1.2.1=n∧n≤aI.length∧y.1.1≤1000∧∀ i,i<n→Sp.lv aI i≤y.1.1,fun y=>((aI.length:Int)-y.1.2.1).toNat,⟨0,rfl,by omega,by decide,fun i hi=>by omega⟩,?_⟩
 rintro ⟨⟨m,_,⟨⟩⟩,⟨⟩⟩ ⟨n,rfl,n2,hm,h1⟩
 dsimp only at hm h1 ⊢
 have e:(aI.getD (Int.toNat (n:Int)) (0,())).1=Sp.lv aI n:=rfl
 rw [e]
 refine af (fun hc=>?_) fun hc=>?_
 · have hc:=fJ hc
   have w:IntKind.i64.wrap ((n:Int)+1)=((n+1:Nat):Int):=fF _ (by omega)
   rw [w]
   have aqY:=hlen.2 n (by omega)
   refine ⟨⟨by omega,by omega⟩,af (fun g=>⟨⟨by omega,by omega⟩,rfl,⟨n+1,rfl,by omega,aqY,fun i hi=>?_⟩,by dsimp only;omega⟩) fun g=>⟨rfl,⟨n+1,rfl,by omega,hm,fun i hi=>?_⟩,by dsimp only;omega⟩⟩
   · have g:=fJ g
     by_cases hi':i=n
     · subst hi';exact Int.le_refl _
     · have:=h1 i (by omega);dsimp only;omega
   · have g:=fZ g
     by_cases hi':i=n
     · subst hi';dsimp only;omega
     · exact h1 i (by omega)
 · have hc:=fZ hc
   refine ⟨hm,fun l hs hl' i hi=>?_⟩
   have hl:=e2 (e1.trans hs)
   rw [XZ hl' hl]
   exact h1 i (by rw [← hl.1] at hi;omega)
theorem LW:OK wO.e:=by
 refine XA.ok mixed (au [sU.e,yK.e,zV.e,oD.e,ja.e,kW.e,xY.e] ⟨Jz,VE,XW,FX,pV,vY,JV,trivial⟩) acz (fun ⟨(a,fs,nx,_),d,r,names,_⟩ _=>by obtain ⟨out,h⟩:=zK (fs:=fs) (a:=a) (nx:=nx) (d:=d) r (dA names);exact ⟨(((out,0,(ai d&&ax (a,fs,nx,())),()),())),⟨rfl,h⟩⟩) (by kernel_rfl) (show ∀ s0 s1 s2 d BK names,wO.goal (Z4 s0 s1 s2 d BK names) ((s0,s1,s2,()),d,BK,names,()) from ?_)
 intro a fs nx d r names hin hp
 dsimp only [wO] at hp ⊢
 obtain ⟨hs,hd,hr⟩:bn (a,fs,nx,())∧aA d∧bH r:=hp
 refine ⟨hd,?_⟩
 rintro ⟨⟨aI,ok0,⟨⟩⟩,⟨⟩⟩ ⟨e1,e2⟩
 have e1:ok0=ai d:=e1
 have e2:ok0=true→ku d aI:=e2
 refine ⟨fun _=>ok0=true∧ax (a,fs,nx,())=true,af (fun h=>?_) fun h=>⟨trivial,af (fun h2=>?_) fun h2=>⟨rfl,bU h,bU h2⟩⟩,?_⟩
 · have h:ok0=false:=dS h
   have hz:(ai d&&ax (a,fs,nx,()))=false:=by rw [← e1,h];rfl
   exact ⟨hz.symm,fun h=>by cases h⟩
 · have h2:ax (a,fs,nx,())=false:=dS h2
   have hz:(ai d&&ax (a,fs,nx,()))=false:=by rw [h2,Bool.and_false]
   exact ⟨hz.symm,fun h=>by cases h⟩
 rintro y3 ⟨hk,hst⟩
 have EM:ai d=true:=e1▸hk
 have hz:(ai d&&ax (a,fs,nx,()))=true:=by rw [EM,hst];rfl
 obtain ⟨hok,hlen⟩:=ji EM
 have hl:ku d aI:=e2 hk
 have hf:=rW hst
 have hf:Sp.distinct fs:=hf
 have hfs:fs.length≤1000:=hs.2.1
 refine dN (fun i (x:List dL)=>(((),i,()),x,())) (fun y=>y.1.2.1) (fun _ _=>rfl) d.length (by omega) (fun n l=>l=(d.take n).map (qJ r (dA names))) rfl (fun I μ n l hn hJ next=>?_) fun I μ l hJ=>?_
 · subst hJ
   have hl:((d.take n).map (qJ r (dA names))).length≤n:=by rw [List.length_map,List.length_take];omega
   have step:=acu (qJ r (dA names)) zN d hn
   dsimp only
   refine dH (by omega) ⟨⟨by omega,by omega⟩,trivial,af (fun h=>⟨hr,by rw [bW];simp only [List.length_cons,List.length_nil];omega,rfl,next _ ?_⟩) fun h=>⟨by rw [bW];simp only [List.length_cons,List.length_nil];omega,rfl,next _ ?_⟩⟩
   · rw [← step]
     have h:dA names (d.getD n zN).1=false:=dS h
     unfold qJ;rw [h];rfl
   · rw [← step]
     have h:dA names (d.getD n zN).1=true:=bU h
     unfold qJ;rw [h];rfl
 subst hJ
 rw [List.take_length]
 dsimp only
 refine dI (by omega) ⟨fun y=>∃ k:Nat,y.1.2.1=k∧nK fs d r (dA names) aI k y.2.1,fun y=>(1002-y.1.2.1).toNat,⟨0,rfl,Ku hok hl⟩,?_⟩
 rintro ⟨⟨ps,_,⟨⟩⟩,out,⟨⟩⟩ ⟨k,rfl,A⟩
 dsimp only at A ⊢
 refine ⟨hd,?_⟩
 rintro ⟨⟨m,⟨⟩⟩,⟨⟩⟩ ⟨m1,m2⟩
 have m1:m≤1000:=m1
 have m2:∀ i,i<d.length→Sp.lv aI i≤m:=m2 aI EM hl
 refine af (fun hc=>?_) fun hc=>⟨hz.symm,fun _=>Sp.at_end hok hl A fun i hi=>by have:=m2 i hi;have hc:¬ (k:Int)≤m:=fZ hc;omega⟩
 have hc:(k:Int)≤m:=fJ hc
 refine ⟨fun y=>nK fs d r (dA names) aI k y.2.1∧(y.1.2.1=false→∀ i,i<d.length→dA names (Sp.nameOf d i)=true→Sp.lv aI i=k→Sp.sel fs (dQ d i) (bD y.2.1)=iH y.2.1 i),fun y=>Sp.room fs.length y.2.1*2+(if y.1.2.1=true then 1 else 0),⟨A,fun h=>by cases h⟩,?_⟩
 rintro ⟨⟨ps2,ch,⟨⟩⟩,X3,⟨⟩⟩ ⟨A2,st2⟩
 dsimp only at A2 st2 ⊢
 have wk:IntKind.i64.wrap ((k:Int)+1)=((k+1:Nat):Int):=fF _ (by omega)
 refine af (fun hch=>?_) fun hch=>⟨rfl,⟨k+1,wk,Sp.at_next hok A2 (st2 hch)⟩,by rw [wk];dsimp only;omega⟩
 subst hch
 refine dN (fun i (x:Bool×List dL)=>((x.1,i,()),x.2,())) (fun y=>y.1.2.1) (fun _ _=>rfl) d.length (by omega) (fun i x=>JX fs d r (dA names) aI k X3 i x.1 x.2) (s0:=(false,X3)) ⟨A2,fun h=>(by cases h),fun _=>⟨rfl,fun j hj=>by omega⟩⟩ (fun I μ i x hi hJ next=>?_) fun I μ x hJ=>?_
 · obtain ⟨c,FZ⟩:=x
   have A3:=hJ.1
   have ol:FZ.length=d.length:=A3.order.1
   have hsm:=Qw A3 (by omega) hfs hr
   dsimp only
   rw [Int.toNat_natCast]
   refine dH (by omega) ⟨⟨by omega,by omega⟩,⟨by omega,by rw [hl.1];omega⟩,af (fun h=>⟨rfl,next (c,FZ) (BL hJ fun _ h'=>?_)⟩) fun h=>⟨trivial,af (fun h2=>⟨rfl,next (c,FZ) (BL hJ fun h'=>?_)⟩) fun h2=>⟨⟨hs,mV hd hi,hsm⟩,⟨by omega,by omega⟩,by omega,trivial,af (fun h3=>⟨⟨by omega,by omega⟩,by omega,rfl,next (true,_) (acA hok hl hf hJ hi (bU h2) ?_ ?_)⟩) fun h3=>⟨rfl,next (c,FZ) (BL hJ fun _ _=>?_)⟩⟩⟩⟩
   · exact (bne_iff_ne.1 h h').elim
   · have h2:dA names (Sp.nameOf d i)=false:=dS h2
     rw [h2] at h';cases h'
   · exact ajz h
   · exact fZ (dS h3)
   · exact fJ (bU h3)
 · obtain ⟨c,FZ⟩:=x
   dsimp only
   obtain ⟨A3,c1,c2⟩:=hJ
   refine dI (by omega) ⟨rfl,⟨A3,fun hc=>still_at (c2 hc).2⟩,?_⟩
   cases c with
   |true=>have:=c1 rfl;dsimp only at this ⊢;simp only [if_true];omega
   |false=>have:=(c2 rfl).1;dsimp only at this ⊢;rw [this];simp
theorem X4:OK zX.e:=by
 refine XA.ok mixed (au [rO.e,sS.e,ve.e,x9.e,oG.e,jO.e,uN.e] ⟨Eo,JA,KP,JW,FY,qC,FH,trivial⟩) Z5 (fun ⟨(a,fs,nx,_),d,r,names,_⟩ _=>by obtain ⟨out,h⟩:=zK (fs:=fs) (a:=a) (nx:=nx) (d:=d) r (dA names);exact ⟨(((out,(ai d&&ax (a,fs,nx,())),()),())),⟨rfl,h⟩⟩) (by kernel_rfl) (show ∀ s0 s1 s2 d a names,zX.goal (X5 s0 s1 s2 d a names) ((s0,s1,s2,()),d,a,names,()) from ?_)
 intro a fs nx d r names hin hp
 dsimp only [zX] at hp ⊢
 obtain ⟨hs,hd,hr⟩:bn (a,fs,nx,())∧aA d∧bH r:=hp
 refine ⟨hd,?_⟩
 rintro ⟨⟨aI,ok0,⟨⟩⟩,⟨⟩⟩ ⟨e1,e2,_⟩
 have e1:ok0=ai d:=e1
 have e2:ok0=true→ku d aI:=e2
 refine ⟨fun _=>ok0=true∧ax (a,fs,nx,())=true,af (fun h=>?_) fun h=>⟨trivial,af (fun h2=>?_) fun h2=>⟨rfl,bU h,bU h2⟩⟩,?_⟩
 · have h:ok0=false:=dS h
   have hz:(ai d&&ax (a,fs,nx,()))=false:=by rw [← e1,h];rfl
   exact ⟨hz.symm,fun h=>by cases h⟩
 · have h2:ax (a,fs,nx,())=false:=dS h2
   have hz:(ai d&&ax (a,fs,nx,()))=false:=by rw [h2,Bool.and_false]
   exact ⟨hz.symm,fun h=>by cases h⟩
 rintro y3 ⟨hk,hst⟩
 have EM:ai d=true:=e1▸hk
 have hz:(ai d&&ax (a,fs,nx,()))=true:=by rw [EM,hst];rfl
 obtain ⟨hok,hlen⟩:=ji EM
 have hl:ku d aI:=e2 hk
 have hf:=rW hst
 have hf:Sp.distinct fs:=hf
 have hfs:fs.length≤1000:=hs.2.1
 refine dN (fun i (x:List dL)=>(((),i,()),x,())) (fun y=>y.1.2.1) (fun _ _=>rfl) d.length (by omega) (fun n l=>l=(d.take n).map (qJ r (dA names))) rfl (fun I μ n l hn hJ next=>?_) fun I μ l hJ=>?_
 · subst hJ
   have hl:((d.take n).map (qJ r (dA names))).length≤n:=by rw [List.length_map,List.length_take];omega
   have step:=acu (qJ r (dA names)) zN d hn
   dsimp only
   refine dH (by omega) ⟨⟨by omega,by omega⟩,⟨by omega,by omega⟩,hr,trivial,af (fun h=>⟨by rw [bW];simp only [List.length_cons,List.length_nil];omega,rfl,next _ ?_⟩) fun h=>⟨by rw [bW];simp only [List.length_cons,List.length_nil];omega,rfl,next _ ?_⟩⟩
   · rw [← step]
     have h:dA names (d.getD n zN).1=true:=h
     unfold qJ;rw [h];rfl
   · rw [← step]
     have h:dA names (d.getD n zN).1=false:=h
     unfold qJ;rw [h];rfl
 subst hJ
 rw [List.take_length]
 dsimp only
 refine dI (by omega) ⟨fun y=>∃ k:Nat,y.1.1=k∧nK fs d r (dA names) aI k y.2.1,fun y=>(1002-y.1.1).toNat,⟨0,rfl,Ku hok hl⟩,?_⟩
 rintro ⟨⟨_,⟨⟩⟩,out,⟨⟩⟩ ⟨k,rfl,A⟩
 dsimp only at A ⊢
 refine ⟨hd,?_⟩
 rintro ⟨⟨m,⟨⟩⟩,⟨⟩⟩ ⟨m1,m2⟩
 have m1:m≤1000:=m1
 have m2:∀ i,i<d.length→Sp.lv aI i≤m:=m2 aI EM hl
 refine af (fun hc=>?_) fun hc=>⟨hz.symm,fun _=>Sp.at_end hok hl A fun i hi=>by have:=m2 i hi;have hc:¬ (k:Int)≤m:=fZ hc;omega⟩
 have hc:(k:Int)≤m:=fJ hc
 refine ⟨fun y=>nK fs d r (dA names) aI k y.2.1∧(y.1.1=false→∀ i,i<d.length→dA names (Sp.nameOf d i)=true→Sp.lv aI i=k→Sp.sel fs (dQ d i) (bD y.2.1)=iH y.2.1 i),fun y=>Sp.room fs.length y.2.1*2+(if y.1.1=true then 1 else 0),⟨A,fun h=>by cases h⟩,?_⟩
 rintro ⟨⟨ch,⟨⟩⟩,X3,⟨⟩⟩ ⟨A2,st2⟩
 dsimp only at A2 st2 ⊢
 have wk:IntKind.i64.wrap ((k:Int)+1)=((k+1:Nat):Int):=fF _ (by omega)
 refine af (fun hch=>?_) fun hch=>⟨rfl,⟨k+1,wk,Sp.at_next hok A2 (st2 hch)⟩,by rw [wk];dsimp only;omega⟩
 subst hch
 refine dN (fun i (x:Bool×List dL)=>((x.1,i,()),x.2,())) (fun y=>y.1.2.1) (fun _ _=>rfl) d.length (by omega) (fun i x=>JX fs d r (dA names) aI k X3 i x.1 x.2) (s0:=(false,X3)) ⟨A2,fun h=>(by cases h),fun _=>⟨rfl,fun j hj=>by omega⟩⟩ (fun I μ i x hi hJ next=>?_) fun I μ x hJ=>?_
 · obtain ⟨c,FZ⟩:=x
   have A3:=hJ.1
   have ol:FZ.length=d.length:=A3.order.1
   have hsm:=Qw A3 (by omega) hfs hr
   dsimp only
   rw [Int.toNat_natCast]
   refine dH (by omega) ⟨⟨by omega,by rw [hl.1];omega⟩,af (fun h=>⟨rfl,next (c,FZ) (BL hJ fun _ h'=>?_)⟩) fun h=>⟨⟨by omega,by omega⟩,trivial,af (fun h2=>⟨rfl,next (c,FZ) (BL hJ fun h'=>?_)⟩) fun h2=>⟨⟨by omega,by omega⟩,⟨hs,mV hd hi,hsm⟩,⟨by omega,by omega⟩,by omega,trivial,af (fun h3=>⟨⟨by omega,by omega⟩,by omega,rfl,next (true,_) (acA hok hl hf hJ hi (bU h2) ?_ ?_)⟩) fun h3=>⟨rfl,next (c,FZ) (BL hJ fun _ _=>?_)⟩⟩⟩⟩
   · exact (bne_iff_ne.1 h h').elim
   · have h2:dA names (Sp.nameOf d i)=false:=dS h2
     rw [h2] at h';cases h'
   · exact ajz h
   · exact fZ (dS h3)
   · exact fJ (bU h3)
 · obtain ⟨c,FZ⟩:=x
   dsimp only
   obtain ⟨A3,c1,c2⟩:=hJ
   refine dI (by omega) ⟨rfl,⟨A3,fun hc=>still_at (c2 hc).2⟩,?_⟩
   cases c with
   |true=>have:=c1 rfl;dsimp only at this ⊢;simp only [if_true];omega
   |false=>have:=(c2 rfl).1;dsimp only at this ⊢;rw [this];simp
theorem agn:OK GV.e:=by
 refine XA.ok mixed (au [rO.e,sS.e,ve.e,jO.e,uN.e] ⟨Eo,JA,KP,qC,FH,trivial⟩) ah0 (fun ⟨(a,fs,nx,_),d,_⟩ _=>by obtain ⟨out,h⟩:=zK (fs:=fs) (a:=a) (nx:=nx) (d:=d) [] (fun _=>true);exact ⟨(((out,0,(ai d&&ax (a,fs,nx,())),()),())),⟨rfl,h⟩⟩) (by kernel_rfl) (show ∀ s0 s1 s2 d,GV.goal (agp s0 s1 s2 d) ((s0,s1,s2,()),d,()) from ?_)
 intro a fs nx d hin hp
 dsimp only [GV] at hp ⊢
 obtain ⟨hs,hd⟩:bn (a,fs,nx,())∧aA d:=hp
 have hr:bH []:=⟨by decide,fun x hx=>by cases hx⟩
 refine ⟨hd,?_⟩
 rintro ⟨⟨aI,ok0,⟨⟩⟩,⟨⟩⟩ ⟨e1,e2,_⟩
 have e1:ok0=ai d:=e1
 have e2:ok0=true→ku d aI:=e2
 refine ⟨fun _=>ok0=true∧ax (a,fs,nx,())=true,af (fun h=>?_) fun h=>⟨trivial,af (fun h2=>?_) fun h2=>⟨rfl,bU h,bU h2⟩⟩,?_⟩
 · have h:ok0=false:=dS h
   have hz:(ai d&&ax (a,fs,nx,()))=false:=by rw [← e1,h];rfl
   exact ⟨hz.symm,fun h=>by cases h⟩
 · have h2:ax (a,fs,nx,())=false:=dS h2
   have hz:(ai d&&ax (a,fs,nx,()))=false:=by rw [h2,Bool.and_false]
   exact ⟨hz.symm,fun h=>by cases h⟩
 rintro y3 ⟨hk,hst⟩
 have EM:ai d=true:=e1▸hk
 have hz:(ai d&&ax (a,fs,nx,()))=true:=by rw [EM,hst];rfl
 obtain ⟨hok,hlen⟩:=ji EM
 have hl:ku d aI:=e2 hk
 have hf:=rW hst
 have hf:Sp.distinct fs:=hf
 have hfs:fs.length≤1000:=hs.2.1
 refine dN (fun i (x:List dL)=>(((),i,()),x,())) (fun y=>y.1.2.1) (fun _ _=>rfl) d.length (by omega) (fun n l=>l=(d.take n).map (qJ [] (fun _=>true))) rfl (fun I μ n l hn hJ next=>?_) fun I μ l hJ=>?_
 · subst hJ
   have hl:((d.take n).map (qJ [] (fun _=>true))).length≤n:=by rw [List.length_map,List.length_take];omega
   have step:=acu (qJ [] (fun _=>true)) zN d hn
   dsimp only
   refine dH (by omega) ⟨⟨by omega,by omega⟩,by rw [bW];simp only [List.length_cons,List.length_nil];omega,rfl,next _ ?_⟩
   rw [← step];rfl
 subst hJ
 rw [List.take_length]
 dsimp only
 refine dI (by omega) ⟨fun y=>∃ k:Nat,y.1.2.1=k∧nK fs d [] (fun _=>true) aI k y.2.1,fun y=>(1002-y.1.2.1).toNat,⟨0,rfl,Ku hok hl⟩,?_⟩
 rintro ⟨⟨ps,_,⟨⟩⟩,out,⟨⟩⟩ ⟨k,rfl,A⟩
 dsimp only at A ⊢
 refine ⟨hd,?_⟩
 rintro ⟨⟨m,⟨⟩⟩,⟨⟩⟩ ⟨m1,m2⟩
 have m1:m≤1000:=m1
 have m2:∀ i,i<d.length→Sp.lv aI i≤m:=m2 aI EM hl
 refine af (fun hc=>?_) fun hc=>⟨hz.symm,fun _=>Sp.at_end hok hl A fun i hi=>by have:=m2 i hi;have hc:¬ (k:Int)≤m:=fZ hc;omega⟩
 have hc:(k:Int)≤m:=fJ hc
 refine ⟨fun y=>nK fs d [] (fun _=>true) aI k y.2.1∧(y.1.2.1=false→∀ i,i<d.length→true=true→Sp.lv aI i=k→Sp.sel fs (dQ d i) (bD y.2.1)=iH y.2.1 i),fun y=>Sp.room fs.length y.2.1*2+(if y.1.2.1=true then 1 else 0),⟨A,fun h=>by cases h⟩,?_⟩
 rintro ⟨⟨ps2,ch,⟨⟩⟩,X3,⟨⟩⟩ ⟨A2,st2⟩
 dsimp only at A2 st2 ⊢
 have wk:IntKind.i64.wrap ((k:Int)+1)=((k+1:Nat):Int):=fF _ (by omega)
 refine af (fun hch=>?_) fun hch=>⟨rfl,⟨k+1,wk,Sp.at_next hok A2 (st2 hch)⟩,by rw [wk];dsimp only;omega⟩
 subst hch
 refine dN (fun i (x:Bool×List dL)=>((x.1,i,()),x.2,())) (fun y=>y.1.2.1) (fun _ _=>rfl) d.length (by omega) (fun i x=>JX fs d [] (fun _=>true) aI k X3 i x.1 x.2) (s0:=(false,X3)) ⟨A2,fun h=>(by cases h),fun _=>⟨rfl,fun j hj=>by omega⟩⟩ (fun I μ i x hi hJ next=>?_) fun I μ x hJ=>?_
 · obtain ⟨c,FZ⟩:=x
   have A3:=hJ.1
   have ol:FZ.length=d.length:=A3.order.1
   have hsm:=Qw A3 (by omega) hfs hr
   dsimp only
   rw [Int.toNat_natCast]
   refine dH (by omega) ⟨⟨by omega,by rw [hl.1];omega⟩,af (fun h=>⟨rfl,next (c,FZ) (BL hJ fun _ h'=>?_)⟩) fun h=>⟨⟨by omega,by omega⟩,⟨hs,mV hd hi,hsm⟩,⟨by omega,by omega⟩,by omega,trivial,af (fun h3=>⟨⟨by omega,by omega⟩,by omega,rfl,next (true,_) (acA hok hl hf hJ hi rfl ?_ ?_)⟩) fun h3=>⟨rfl,next (c,FZ) (BL hJ fun _ _=>?_)⟩⟩⟩
   · exact (bne_iff_ne.1 h h').elim
   · exact ajz h
   · exact fZ (dS h3)
   · exact fJ (bU h3)
 · obtain ⟨c,FZ⟩:=x
   dsimp only
   obtain ⟨A3,c1,c2⟩:=hJ
   refine dI (by omega) ⟨rfl,⟨A3,fun hc=>still_at (nm:=fun _=>true) (c2 hc).2⟩,?_⟩
   cases c with
   |true=>have:=c1 rfl;dsimp only at this ⊢;simp only [if_true];omega
   |false=>have:=(c2 rfl).1;dsimp only at this ⊢;rw [this];simp
end Go.Proofs.Tryz
