import Derived.Test.YtlbkigkbmeckbaaGreatP15
import Derived.Test.YtlbkigkbmeckbaaGreatV7
import Derived.Test.YtlbkigkbmeckbaaGreatV5
namespace Go.Proofs.Tryz
open Go Go.Fw Go.IntWalk
theorem BB {fs:List Sp.aK} {a:List Sp.gU} {nx:Int} {d:List Sp.aT} (r:List Sp.dN) (nm:Sp.Bytes→Bool):∃ out,(Sp.aF d&&Sp.aH (a,fs,nx,()))=true→Sp.iD fs d r nm out:=by
 by_cases h:(Sp.aF d&&Sp.aH (a,fs,nx,()))=true
 · rw [Bool.and_eq_true] at h
   obtain ⟨aG,hl⟩:=afI h.1
   obtain ⟨out,ho⟩:=Sp.aiF r nm (Sp.oH.1 h.1).1 hl (Sp.CX h.2)
   exact ⟨out,fun _=>ho⟩
 · exact ⟨[],fun h'=>(h h').elim⟩
abbrev BK:Sp.aT:=([],[],())
theorem apG {a b:Int} (h:(a !=b)=false):a=b:=by simpa using h
theorem afO {α β:Type} (g:α→β) (d:α) (l:List α) {n:Nat} (h:n<l.length):(l.take n).map g++[g (l.getD n d)]=(l.take (n+1)).map g:=by
 rw [Sp.take_succ' l n d h,List.map_append];rfl
theorem uy {d:List Sp.aT} (h:Sp.aF d=true):Sp.gV d=true∧d.length≤5:=⟨(Sp.oH.1 h).1,Sp.U8 (Sp.oH.1 h).1⟩
theorem still_at {d:List Sp.aT} {aG:List (Int×Unit)} {nm:Sp.Bytes→Bool} {fs:List Sp.aK} {out:List Sp.dN} {k:Nat}
 (h:∀ j,j<d.length→j<d.length→nm (Sp.nameOf d j)=true→Sp.lv aG j=k→Sp.sel fs (Sp.dW d j) (Sp.bD out)=Sp.iU out j):∀ i,i<d.length→nm (Sp.nameOf d i)=true→Sp.lv aG i=k→Sp.sel fs (Sp.dW d i) (Sp.bD out)=Sp.iU out i:=fun i hi=>h i hi hi
theorem apH:∀ (l:List (Int×Unit)),0<l.length→∃ m:Int,(∀ x∈l,x.1≤m)∧(m,())∈l
 |[x],_=>⟨x.1,fun y hy=>by rw [List.mem_singleton.1 hy];exact Int.le_refl _,List.mem_singleton.2 rfl⟩
 |x::y::r,_=>by
  obtain ⟨m,h1,h2⟩:=apH (y::r) (by simp)
  by_cases h:x.1≤m
  · exact ⟨m,fun z hz=>by rcases List.mem_cons.1 hz with rfl|hz;exact h;exact h1 z hz,List.mem_cons_of_mem _ h2⟩
  · exact ⟨x.1,fun z hz=>by rcases List.mem_cons.1 hz with rfl|hz;exact Int.le_refl _;have:=h1 z hz;omega,List.mem_cons_self⟩
theorem Jq:ai prog G rO.e:=by
 refine XM (aj ah ⟨aiD,trivial⟩) ?_
 intro s0 fs nx q r hin hp
 dsimp only [rO] at hp ⊢
 obtain ⟨h1,h2,h3⟩:=hp
 have hl:fs.length≤1000:=h1.2.1
 obtain ⟨I,μ,g0,g1⟩:=afN (K:=fun z=>z=(Sp.sel fs q (Sp.bD r),())) (fun f=>Sp.iW q f (Sp.bD r)) (fun f:Sp.aK=>(f.1,())) (0,0,false,0,[],()) fs (q,r,(s0,fs,nx,()),()) (A:=fun _=>q.length≤1000∧Sp.bH r) (fun _ _=>⟨h2,h3⟩) (by omega) rfl
 refine ⟨I,μ,g0,fun y hy=>?_⟩
 have h:=g1 y hy
 dsimp only at h ⊢
 revert h
 cases decide (y.1.2.1<(fs.length:Int)) with
 |false=>exact id
 |true=>
  rintro ⟨b,a,h⟩
  refine ⟨b,a,?_⟩
  revert h
  cases Sp.iW q (fs.getD (Int.toNat y.1.2.1) (0,0,false,0,[],())) (Sp.bD r) with
  |true=>exact fun h=>⟨b,h.1,rfl,h.2.2⟩
  |false=>exact fun h=>⟨rfl,h.2⟩
theorem JF:ai prog G xX.e:=by
 refine alz (aj ah trivial) ?_
 intro l s hin hp
 dsimp only [xX] at hp ⊢
 exact auu (K:=fun r=>r=(Sp.dQ l s,())) (fun x:List UInt8×Unit=>x.1==s) ([],()) l _ hin.1.1 rfl
theorem Oq:ai prog G xw.e:=by
 refine afP (aj ah trivial) ?_
 intro d hin hp
 dsimp only [xw] at hp ⊢
 exact apI (K:=fun r=>r=(Sp.iY d,())) (fun x:Sp.aT=>(x.1,())) ([],[],()) d _ (by have hp:d.length≤1000:=hp;omega) rfl
theorem afQ:ai prog G Am.e:=by
 refine afR (aj ah trivial) ?_
 intro d hin hp
 dsimp only [Am] at hp ⊢
 exact apI (K:=fun r=>r=(Sp.iY d,())) (fun x:Sp.aT=>(x.1,())) ([],[],()) d _ (by have hp:d.length≤1000:=hp;omega) rfl
theorem Vk:ai prog G uO.e:=by
 refine Vl (aj ah ⟨EI,trivial⟩) ?_
 intro a b hin hp
 dsimp only [uO] at hp ⊢
 have hlen:a.length≤maxLen:=hin.1.1
 rw [maxLen_eq] at hlen
 refine af (fun h=>?_) fun h=>?_
 · have h:(a.length:Int)≠b.length:=by simpa using h
   exact congrArg (·,()) (decide_eq_false fun e=>h (by rw [e])).symm
 · have h:(a.length:Int)=b.length:=by simpa using h
   refine jd a.length hlen (fun n=>∀ i,i<n→a.getD i qH=b.getD i qH) (fun i hi=>by omega) (fun I μ n hn hJ next=>?_) fun I μ hJ=>(by dsimp only;exact dm (by omega) (by rw [decide_eq_true (Ot (by omega) hJ)]))
   dsimp only
   have no:a.getD n qH≠b.getD n qH→(false,())=(decide (a=b),()):=fun hne=>by rw [decide_eq_false fun e=>hne (by rw [e])]
   refine dh (by omega) ⟨⟨by omega,by omega⟩,⟨by omega,by omega⟩,af (fun g=>no fun e=>?_) fun g=>⟨⟨by omega,by omega⟩,⟨by omega,by omega⟩,trivial,af (fun g2=>no fun e=>?_) fun g2=>⟨rfl,next fun i hi=>?_⟩⟩⟩
   · have g:¬ (a.getD n qH).1=(b.getD n qH).1:=beq_eq_false_iff_ne.1 (fO g)
     exact g (by rw [e])
   · have g2:¬ (a.getD n qH).2.1=(b.getD n qH).2.1:=iw (fO g2)
     exact g2 (by rw [e])
   · rcases Nat.lt_or_ge i n with h'|h'
     · exact hJ i h'
     · have:i=n:=by omega
       subst this
       have g:(a.getD i qH).1=(b.getD i qH).1:=beq_iff_eq.1 (dI g)
       have g2:(a.getD i qH).2.1=(b.getD i qH).2.1:=gG (dI g2)
       exact Prod.ext g (Prod.ext g2 rfl)
theorem ac6:ai prog G qL.e:=by
 refine ac7 (aj ah trivial) (fun ⟨l,_⟩ hp=>by obtain ⟨m,h⟩:=apH l hp;exact ⟨((m,()),()),h⟩) ?_
 intro l hin hp
 dsimp only [qL] at hp ⊢
 have hp:0<l.length:=hp
 have hlen:l.length≤maxLen:=hin.1.1
 rw [maxLen_eq] at hlen
 refine ⟨fun _=>True,af (fun h=>by have:=gG h;omega) fun h=>⟨rfl,trivial⟩,fun _ _=>⟨⟨by omega,by omega⟩,?_⟩⟩
 refine ⟨fun y=>∃ n:Nat,y.1.2.1=n∧1≤n∧n≤l.length∧(∀ i,i<n→Sp.lv l i≤y.1.1)∧∃ i,i<l.length∧Sp.lv l i=y.1.1,fun y=>((l.length:Int)-y.1.2.1).toNat,⟨1,rfl,by omega,by omega,fun i hi=>by rw [show i=0 by omega];exact Int.le_refl _,0,hp,rfl⟩,?_⟩
 rintro ⟨⟨m,_,⟨⟩⟩,⟨⟩⟩ ⟨n,rfl,n1,n2,h1,h2⟩
 dsimp only at h1 h2 ⊢
 refine af (fun hc=>?_) fun hc=>⟨fun x hx=>?_,?_⟩
 · have hc:=gG hc
   have w:IntKind.i64.wrap ((n:Int)+1)=((n+1:Nat):Int):=gu _ (by omega)
   rw [w]
   have e:(l.getD (Int.toNat (n:Int)) (0,())).1=Sp.lv l n:=rfl
   rw [e]
   refine ⟨⟨by omega,by omega⟩,rfl,⟨n+1,rfl,by omega,by omega,fun i hi=>?_,?_⟩,by omega⟩
   · by_cases hi':i=n
     · subst hi';split<;>omega
     · have:=h1 i (by omega);split<;>omega
   · split
     · exact ⟨n,by omega,rfl⟩
     · exact h2
 · have hc:=iw hc
   exact Sp.apD (p:=fun z=>z≤m) (fun i hi=>h1 i (by omega)) x hx
 · obtain ⟨i,hi,e⟩:=h2
   have:=Sp.aap hi
   rw [e] at this;exact this
theorem aaq:ai prog G oM.e:=by
 refine aar (aj ah ⟨ac6,TJ,trivial⟩) (fun ⟨d,_⟩ _=>⟨(((1000:Int),()),()),⟨Int.le_refl _,fun aG hs hl i hi=>by have:=(hl.2.1 i hi).2;have:=(uy hs).2;show Sp.lv aG i≤1000;omega⟩⟩) ?_
 intro d hin hp
 dsimp only [oM] at hp ⊢
 refine ⟨hp,?_⟩
 rintro ⟨⟨aG,ok,⟨⟩⟩,⟨⟩⟩ ⟨e1,e2⟩
 have e1:ok=Sp.aF d:=e1
 have e2:ok=true→Sp.lg d aG:=e2
 refine af (fun h=>?_) fun h=>af (fun h2=>?_) fun h2=>⟨?_,?_⟩
 · have h:ok=false:=fO h
   exact ⟨by decide,fun l hs=>by rw [← e1,h] at hs;cases hs⟩
 · have h2:(aG.length:Int)=0:=by simpa using h2
   have hl:=e2 (dI h)
   exact ⟨by decide,fun l hs hl' i hi=>by have:=hl.1;omega⟩
 · have h2:¬ (aG.length:Int)=0:=by simpa using h2
   show 0<aG.length
   omega
 · rintro ⟨⟨m,⟨⟩⟩,⟨⟩⟩ ⟨g1,g2⟩
   have hl:=e2 (dI h)
   have hlen:=(uy (e1▸dI h)).2
   have g2:(m,())∈aG:=g2
   refine ⟨?_,fun l hs hl' i hi=>?_⟩
   · obtain ⟨i,hi,e⟩:=List.getElem_of_mem g2
     have hi':i<d.length:=by rw [← hl.1];exact hi
     have:=(hl.2.1 i hi').2
     have e3:Sp.lv aG i=m:=by
      unfold Sp.lv
      rw [List.getD_eq_getElem?_getD,List.getElem?_eq_getElem hi,e];rfl
     show m≤1000
     omega
   · rw [Sp.aas hl' hl]
     exact g1 _ (Sp.aap (by rw [hl.1];exact hi))
theorem KH:ai prog G lQ.e:=by
 refine aat (aj ah ⟨Fq,trivial⟩) (fun ⟨d,_⟩ _=>⟨(((1000:Int),()),()),⟨Int.le_refl _,fun aG hs hl i hi=>by have:=(hl.2.1 i hi).2;have:=(uy hs).2;show Sp.lv aG i≤1000;omega⟩⟩) ?_
 intro d hin hp
 dsimp only [lQ] at hp ⊢
 refine ⟨hp,?_⟩
 rintro ⟨⟨aG,ok,⟨⟩⟩,⟨⟩⟩ ⟨e1,e2,e3⟩
 have e1:ok=Sp.aF d:=e1
 have e2:ok=true→Sp.lg d aG:=e2
 have e3:ok=false→aG=[]:=e3
 have hlen:aG.length≤5∧∀ i,i<aG.length→Sp.lv aG i≤1000:=by
  cases hk:ok with
  |false=>rw [e3 hk];exact ⟨by decide,fun i hi=>by simp at hi⟩
  |true=>
   have hl:=e2 hk
   have h5:=(uy (e1▸hk)).2
   exact ⟨by rw [hl.1];exact h5,fun i hi=>by have:=(hl.2.1 i (by rw [← hl.1];exact hi)).2;omega⟩
 refine ⟨fun y=>∃ n:Nat,y.1.2.1=n∧n≤aG.length∧y.1.1≤1000∧∀ i,i<n→Sp.lv aG i≤y.1.1,fun y=>((aG.length:Int)-y.1.2.1).toNat,⟨0,rfl,by omega,by decide,fun i hi=>by omega⟩,?_⟩
 rintro ⟨⟨m,_,⟨⟩⟩,⟨⟩⟩ ⟨n,rfl,n2,hm,h1⟩
 dsimp only at hm h1 ⊢
 have e:(aG.getD (Int.toNat (n:Int)) (0,())).1=Sp.lv aG n:=rfl
 rw [e]
 refine af (fun hc=>?_) fun hc=>?_
 · have hc:=gG hc
   have w:IntKind.i64.wrap ((n:Int)+1)=((n+1:Nat):Int):=gu _ (by omega)
   rw [w]
   have awR:=hlen.2 n (by omega)
   refine ⟨⟨by omega,by omega⟩,af (fun g=>⟨⟨by omega,by omega⟩,rfl,⟨n+1,rfl,by omega,awR,fun i hi=>?_⟩,by omega⟩) fun g=>⟨rfl,⟨n+1,rfl,by omega,hm,fun i hi=>?_⟩,by omega⟩⟩
   · have g:=gG g
     by_cases hi':i=n
     · subst hi';exact Int.le_refl _
     · have:=h1 i (by omega);omega
   · have g:=iw g
     by_cases hi':i=n
     · subst hi';omega
     · exact h1 i (by omega)
 · have hc:=iw hc
   refine ⟨hm,fun l hs hl' i hi=>?_⟩
   have hl:=e2 (e1.trans hs)
   rw [Sp.aas hl' hl]
   exact h1 i (by rw [← hl.1] at hi;omega)
theorem LK:ai prog G nH.e:=by
 refine ac8 (aj ah ⟨Jp,XJ,aaq,FP,sH,IL,TJ,trivial⟩) (fun ⟨(a,fs,nx,_),d,r,names,_⟩ _=>by obtain ⟨out,h⟩:=BB (fs:=fs) (a:=a) (nx:=nx) (d:=d) r (Sp.dQ names);exact ⟨(((out,0,(Sp.aF d&&Sp.aH (a,fs,nx,())),()),())),⟨rfl,h⟩⟩) ?_
 intro a fs nx d r names hin hp
 dsimp only [nH] at hp ⊢
 obtain ⟨hs,hd,hr⟩:Sp.bG (a,fs,nx,())∧Sp.aV d∧Sp.bH r:=hp
 refine ⟨hd,?_⟩
 rintro ⟨⟨aG,ok0,⟨⟩⟩,⟨⟩⟩ ⟨e1,e2⟩
 have e1:ok0=Sp.aF d:=e1
 have e2:ok0=true→Sp.lg d aG:=e2
 refine ⟨fun _=>ok0=true∧Sp.aH (a,fs,nx,())=true,af (fun h=>?_) fun h=>⟨trivial,af (fun h2=>?_) fun h2=>⟨rfl,dI h,dI h2⟩⟩,?_⟩
 · have h:ok0=false:=fO h
   have hz:(Sp.aF d&&Sp.aH (a,fs,nx,()))=false:=by rw [← e1,h];rfl
   exact ⟨hz.symm,fun h=>by cases h⟩
 · have h2:Sp.aH (a,fs,nx,())=false:=fO h2
   have hz:(Sp.aF d&&Sp.aH (a,fs,nx,()))=false:=by rw [h2,Bool.and_false]
   exact ⟨hz.symm,fun h=>by cases h⟩
 rintro y3 ⟨hk,hst⟩
 have EZ:Sp.aF d=true:=e1▸hk
 have hz:(Sp.aF d&&Sp.aH (a,fs,nx,()))=true:=by rw [EZ,hst];rfl
 obtain ⟨hok,hlen⟩:=uy EZ
 have hl:Sp.lg d aG:=e2 hk
 have hf:=Sp.CX hst
 have hf:Sp.distinct fs:=hf
 have hfs:fs.length≤1000:=hs.2.1
 refine dM (fun i (x:List Sp.dN)=>(((),i,()),x,())) (fun y=>y.1.2.1) (fun _ _=>rfl) d.length (by omega) (fun n l=>l=(d.take n).map (Sp.ug r (Sp.dQ names))) rfl (fun I μ n l hn hJ next=>?_) fun I μ l hJ=>?_
 · subst hJ
   have hl:((d.take n).map (Sp.ug r (Sp.dQ names))).length≤n:=by rw [List.length_map,List.length_take];omega
   have step:=afO (Sp.ug r (Sp.dQ names)) BK d hn
   dsimp only
   refine dh (by omega) ⟨⟨by omega,by omega⟩,trivial,af (fun h=>⟨hr,by rw [bU];simp only [List.length_cons,List.length_nil];omega,rfl,next _ ?_⟩) fun h=>⟨by rw [bU];simp only [List.length_cons,List.length_nil];omega,rfl,next _ ?_⟩⟩
   · rw [← step]
     have h:Sp.dQ names (d.getD n BK).1=false:=fO h
     unfold Sp.ug;rw [h];rfl
   · rw [← step]
     have h:Sp.dQ names (d.getD n BK).1=true:=dI h
     unfold Sp.ug;rw [h];rfl
 subst hJ
 rw [List.take_length]
 dsimp only
 refine dm (by omega) ⟨fun y=>∃ k:Nat,y.1.2.1=k∧Sp.qh fs d r (Sp.dQ names) aG k y.2.1,fun y=>(1002-y.1.2.1).toNat,⟨0,rfl,Sp.J3 hok hl⟩,?_⟩
 rintro ⟨⟨ps,_,⟨⟩⟩,out,⟨⟩⟩ ⟨k,rfl,A⟩
 dsimp only at A ⊢
 refine ⟨hd,?_⟩
 rintro ⟨⟨m,⟨⟩⟩,⟨⟩⟩ ⟨m1,m2⟩
 have m1:m≤1000:=m1
 have m2:∀ i,i<d.length→Sp.lv aG i≤m:=m2 aG EZ hl
 refine af (fun hc=>?_) fun hc=>⟨hz.symm,fun _=>Sp.at_end hok hl A fun i hi=>by have:=m2 i hi;have hc:¬ (k:Int)≤m:=iw hc;omega⟩
 have hc:(k:Int)≤m:=gG hc
 refine ⟨fun y=>Sp.qh fs d r (Sp.dQ names) aG k y.2.1∧(y.1.2.1=false→∀ i,i<d.length→Sp.dQ names (Sp.nameOf d i)=true→Sp.lv aG i=k→Sp.sel fs (Sp.dW d i) (Sp.bD y.2.1)=Sp.iU y.2.1 i),fun y=>Sp.room fs.length y.2.1*2+(if y.1.2.1=true then 1 else 0),⟨A,fun h=>by cases h⟩,?_⟩
 rintro ⟨⟨ps2,ch,⟨⟩⟩,aau,⟨⟩⟩ ⟨A2,st2⟩
 dsimp only at A2 st2 ⊢
 have wk:IntKind.i64.wrap ((k:Int)+1)=((k+1:Nat):Int):=gu _ (by omega)
 refine af (fun hch=>?_) fun hch=>⟨rfl,⟨k+1,wk,Sp.at_next hok A2 (st2 hch)⟩,by rw [wk];omega⟩
 subst hch
 refine dM (fun i (x:Bool×List Sp.dN)=>((x.1,i,()),x.2,())) (fun y=>y.1.2.1) (fun _ _=>rfl) d.length (by omega) (fun i x=>Sp.JG fs d r (Sp.dQ names) aG k aau i x.1 x.2) (s0:=(false,aau)) ⟨A2,fun h=>(by cases h),fun _=>⟨rfl,fun j hj=>by omega⟩⟩ (fun I μ i x hi hJ next=>?_) fun I μ x hJ=>?_
 · obtain ⟨c,FT⟩:=x
   have A3:=hJ.1
   have ol:FT.length=d.length:=A3.order.1
   have hsm:=Sp.QN A3 (by omega) hfs hr
   dsimp only
   rw [Int.toNat_natCast]
   refine dh (by omega) ⟨⟨by omega,by omega⟩,⟨by omega,by rw [hl.1];omega⟩,af (fun h=>⟨rfl,next (c,FT) (Sp.Du hJ fun _ h'=>?_)⟩) fun h=>⟨trivial,af (fun h2=>⟨rfl,next (c,FT) (Sp.Du hJ fun h'=>?_)⟩) fun h2=>⟨⟨hs,qW hd hi,hsm⟩,⟨by omega,by omega⟩,by omega,trivial,af (fun h3=>⟨⟨by omega,by omega⟩,by omega,rfl,next (true,_) (Sp.afS hok hl hf hJ hi (dI h2) ?_ ?_)⟩) fun h3=>⟨rfl,next (c,FT) (Sp.Du hJ fun _ _=>?_)⟩⟩⟩⟩
   · exact (bne_iff_ne.1 h h').elim
   · have h2:Sp.dQ names (Sp.nameOf d i)=false:=fO h2
     rw [h2] at h';cases h'
   · exact apG h
   · exact iw (fO h3)
   · exact gG (dI h3)
 · obtain ⟨c,FT⟩:=x
   dsimp only
   obtain ⟨A3,c1,c2⟩:=hJ
   refine dm (by omega) ⟨rfl,⟨A3,fun hc=>still_at (c2 hc).2⟩,?_⟩
   cases c with
   |true=>have:=c1 rfl;dsimp only at this ⊢;simp only [if_true];omega
   |false=>have:=(c2 rfl).1;dsimp only at this ⊢;rw [this];simp
theorem aav:ai prog G oO.e:=by
 refine aaw (aj ah ⟨EI,Jq,KH,JF,FQ,tX,Fq,trivial⟩) (fun ⟨(a,fs,nx,_),d,r,names,_⟩ _=>by obtain ⟨out,h⟩:=BB (fs:=fs) (a:=a) (nx:=nx) (d:=d) r (Sp.dQ names);exact ⟨(((out,(Sp.aF d&&Sp.aH (a,fs,nx,())),()),())),⟨rfl,h⟩⟩) ?_
 intro a fs nx d r names hin hp
 dsimp only [oO] at hp ⊢
 obtain ⟨hs,hd,hr⟩:Sp.bG (a,fs,nx,())∧Sp.aV d∧Sp.bH r:=hp
 refine ⟨hd,?_⟩
 rintro ⟨⟨aG,ok0,⟨⟩⟩,⟨⟩⟩ ⟨e1,e2,_⟩
 have e1:ok0=Sp.aF d:=e1
 have e2:ok0=true→Sp.lg d aG:=e2
 refine ⟨fun _=>ok0=true∧Sp.aH (a,fs,nx,())=true,af (fun h=>?_) fun h=>⟨trivial,af (fun h2=>?_) fun h2=>⟨rfl,dI h,dI h2⟩⟩,?_⟩
 · have h:ok0=false:=fO h
   have hz:(Sp.aF d&&Sp.aH (a,fs,nx,()))=false:=by rw [← e1,h];rfl
   exact ⟨hz.symm,fun h=>by cases h⟩
 · have h2:Sp.aH (a,fs,nx,())=false:=fO h2
   have hz:(Sp.aF d&&Sp.aH (a,fs,nx,()))=false:=by rw [h2,Bool.and_false]
   exact ⟨hz.symm,fun h=>by cases h⟩
 rintro y3 ⟨hk,hst⟩
 have EZ:Sp.aF d=true:=e1▸hk
 have hz:(Sp.aF d&&Sp.aH (a,fs,nx,()))=true:=by rw [EZ,hst];rfl
 obtain ⟨hok,hlen⟩:=uy EZ
 have hl:Sp.lg d aG:=e2 hk
 have hf:=Sp.CX hst
 have hf:Sp.distinct fs:=hf
 have hfs:fs.length≤1000:=hs.2.1
 refine dM (fun i (x:List Sp.dN)=>(((),i,()),x,())) (fun y=>y.1.2.1) (fun _ _=>rfl) d.length (by omega) (fun n l=>l=(d.take n).map (Sp.ug r (Sp.dQ names))) rfl (fun I μ n l hn hJ next=>?_) fun I μ l hJ=>?_
 · subst hJ
   have hl:((d.take n).map (Sp.ug r (Sp.dQ names))).length≤n:=by rw [List.length_map,List.length_take];omega
   have step:=afO (Sp.ug r (Sp.dQ names)) BK d hn
   dsimp only
   refine dh (by omega) ⟨⟨by omega,by omega⟩,⟨by omega,by omega⟩,hr,trivial,af (fun h=>⟨by rw [bU];simp only [List.length_cons,List.length_nil];omega,rfl,next _ ?_⟩) fun h=>⟨by rw [bU];simp only [List.length_cons,List.length_nil];omega,rfl,next _ ?_⟩⟩
   · rw [← step]
     have h:Sp.dQ names (d.getD n BK).1=true:=h
     unfold Sp.ug;rw [h];rfl
   · rw [← step]
     have h:Sp.dQ names (d.getD n BK).1=false:=h
     unfold Sp.ug;rw [h];rfl
 subst hJ
 rw [List.take_length]
 dsimp only
 refine dm (by omega) ⟨fun y=>∃ k:Nat,y.1.1=k∧Sp.qh fs d r (Sp.dQ names) aG k y.2.1,fun y=>(1002-y.1.1).toNat,⟨0,rfl,Sp.J3 hok hl⟩,?_⟩
 rintro ⟨⟨_,⟨⟩⟩,out,⟨⟩⟩ ⟨k,rfl,A⟩
 dsimp only at A ⊢
 refine ⟨hd,?_⟩
 rintro ⟨⟨m,⟨⟩⟩,⟨⟩⟩ ⟨m1,m2⟩
 have m1:m≤1000:=m1
 have m2:∀ i,i<d.length→Sp.lv aG i≤m:=m2 aG EZ hl
 refine af (fun hc=>?_) fun hc=>⟨hz.symm,fun _=>Sp.at_end hok hl A fun i hi=>by have:=m2 i hi;have hc:¬ (k:Int)≤m:=iw hc;omega⟩
 have hc:(k:Int)≤m:=gG hc
 refine ⟨fun y=>Sp.qh fs d r (Sp.dQ names) aG k y.2.1∧(y.1.1=false→∀ i,i<d.length→Sp.dQ names (Sp.nameOf d i)=true→Sp.lv aG i=k→Sp.sel fs (Sp.dW d i) (Sp.bD y.2.1)=Sp.iU y.2.1 i),fun y=>Sp.room fs.length y.2.1*2+(if y.1.1=true then 1 else 0),⟨A,fun h=>by cases h⟩,?_⟩
 rintro ⟨⟨ch,⟨⟩⟩,aau,⟨⟩⟩ ⟨A2,st2⟩
 dsimp only at A2 st2 ⊢
 have wk:IntKind.i64.wrap ((k:Int)+1)=((k+1:Nat):Int):=gu _ (by omega)
 refine af (fun hch=>?_) fun hch=>⟨rfl,⟨k+1,wk,Sp.at_next hok A2 (st2 hch)⟩,by rw [wk];omega⟩
 subst hch
 refine dM (fun i (x:Bool×List Sp.dN)=>((x.1,i,()),x.2,())) (fun y=>y.1.2.1) (fun _ _=>rfl) d.length (by omega) (fun i x=>Sp.JG fs d r (Sp.dQ names) aG k aau i x.1 x.2) (s0:=(false,aau)) ⟨A2,fun h=>(by cases h),fun _=>⟨rfl,fun j hj=>by omega⟩⟩ (fun I μ i x hi hJ next=>?_) fun I μ x hJ=>?_
 · obtain ⟨c,FT⟩:=x
   have A3:=hJ.1
   have ol:FT.length=d.length:=A3.order.1
   have hsm:=Sp.QN A3 (by omega) hfs hr
   dsimp only
   rw [Int.toNat_natCast]
   refine dh (by omega) ⟨⟨by omega,by rw [hl.1];omega⟩,af (fun h=>⟨rfl,next (c,FT) (Sp.Du hJ fun _ h'=>?_)⟩) fun h=>⟨⟨by omega,by omega⟩,trivial,af (fun h2=>⟨rfl,next (c,FT) (Sp.Du hJ fun h'=>?_)⟩) fun h2=>⟨⟨by omega,by omega⟩,⟨hs,qW hd hi,hsm⟩,⟨by omega,by omega⟩,by omega,trivial,af (fun h3=>⟨⟨by omega,by omega⟩,by omega,rfl,next (true,_) (Sp.afS hok hl hf hJ hi (dI h2) ?_ ?_)⟩) fun h3=>⟨rfl,next (c,FT) (Sp.Du hJ fun _ _=>?_)⟩⟩⟩⟩
   · exact (bne_iff_ne.1 h h').elim
   · have h2:Sp.dQ names (Sp.nameOf d i)=false:=fO h2
     rw [h2] at h';cases h'
   · exact apG h
   · exact iw (fO h3)
   · exact gG (dI h3)
 · obtain ⟨c,FT⟩:=x
   dsimp only
   obtain ⟨A3,c1,c2⟩:=hJ
   refine dm (by omega) ⟨rfl,⟨A3,fun hc=>still_at (c2 hc).2⟩,?_⟩
   cases c with
   |true=>have:=c1 rfl;dsimp only at this ⊢;simp only [if_true];omega
   |false=>have:=(c2 rfl).1;dsimp only at this ⊢;rw [this];simp
theorem alA:ai prog G xW.e:=by
 refine alB (aj ah ⟨EI,Jq,KH,tX,Fq,trivial⟩) (fun ⟨(a,fs,nx,_),d,_⟩ _=>by obtain ⟨out,h⟩:=BB (fs:=fs) (a:=a) (nx:=nx) (d:=d) [] (fun _=>true);exact ⟨(((out,0,(Sp.aF d&&Sp.aH (a,fs,nx,())),()),())),⟨rfl,h⟩⟩) ?_
 intro a fs nx d hin hp
 dsimp only [xW] at hp ⊢
 obtain ⟨hs,hd⟩:Sp.bG (a,fs,nx,())∧Sp.aV d:=hp
 have hr:Sp.bH []:=⟨by decide,fun x hx=>by cases hx⟩
 refine ⟨hd,?_⟩
 rintro ⟨⟨aG,ok0,⟨⟩⟩,⟨⟩⟩ ⟨e1,e2,_⟩
 have e1:ok0=Sp.aF d:=e1
 have e2:ok0=true→Sp.lg d aG:=e2
 refine ⟨fun _=>ok0=true∧Sp.aH (a,fs,nx,())=true,af (fun h=>?_) fun h=>⟨trivial,af (fun h2=>?_) fun h2=>⟨rfl,dI h,dI h2⟩⟩,?_⟩
 · have h:ok0=false:=fO h
   have hz:(Sp.aF d&&Sp.aH (a,fs,nx,()))=false:=by rw [← e1,h];rfl
   exact ⟨hz.symm,fun h=>by cases h⟩
 · have h2:Sp.aH (a,fs,nx,())=false:=fO h2
   have hz:(Sp.aF d&&Sp.aH (a,fs,nx,()))=false:=by rw [h2,Bool.and_false]
   exact ⟨hz.symm,fun h=>by cases h⟩
 rintro y3 ⟨hk,hst⟩
 have EZ:Sp.aF d=true:=e1▸hk
 have hz:(Sp.aF d&&Sp.aH (a,fs,nx,()))=true:=by rw [EZ,hst];rfl
 obtain ⟨hok,hlen⟩:=uy EZ
 have hl:Sp.lg d aG:=e2 hk
 have hf:=Sp.CX hst
 have hf:Sp.distinct fs:=hf
 have hfs:fs.length≤1000:=hs.2.1
 refine dM (fun i (x:List Sp.dN)=>(((),i,()),x,())) (fun y=>y.1.2.1) (fun _ _=>rfl) d.length (by omega) (fun n l=>l=(d.take n).map (Sp.ug [] (fun _=>true))) rfl (fun I μ n l hn hJ next=>?_) fun I μ l hJ=>?_
 · subst hJ
   have hl:((d.take n).map (Sp.ug [] (fun _=>true))).length≤n:=by rw [List.length_map,List.length_take];omega
   have step:=afO (Sp.ug [] (fun _=>true)) BK d hn
   dsimp only
   refine dh (by omega) ⟨⟨by omega,by omega⟩,by rw [bU];simp only [List.length_cons,List.length_nil];omega,rfl,next _ ?_⟩
   rw [← step];rfl
 subst hJ
 rw [List.take_length]
 dsimp only
 refine dm (by omega) ⟨fun y=>∃ k:Nat,y.1.2.1=k∧Sp.qh fs d [] (fun _=>true) aG k y.2.1,fun y=>(1002-y.1.2.1).toNat,⟨0,rfl,Sp.J3 hok hl⟩,?_⟩
 rintro ⟨⟨ps,_,⟨⟩⟩,out,⟨⟩⟩ ⟨k,rfl,A⟩
 dsimp only at A ⊢
 refine ⟨hd,?_⟩
 rintro ⟨⟨m,⟨⟩⟩,⟨⟩⟩ ⟨m1,m2⟩
 have m1:m≤1000:=m1
 have m2:∀ i,i<d.length→Sp.lv aG i≤m:=m2 aG EZ hl
 refine af (fun hc=>?_) fun hc=>⟨hz.symm,fun _=>Sp.at_end hok hl A fun i hi=>by have:=m2 i hi;have hc:¬ (k:Int)≤m:=iw hc;omega⟩
 have hc:(k:Int)≤m:=gG hc
 refine ⟨fun y=>Sp.qh fs d [] (fun _=>true) aG k y.2.1∧(y.1.2.1=false→∀ i,i<d.length→true=true→Sp.lv aG i=k→Sp.sel fs (Sp.dW d i) (Sp.bD y.2.1)=Sp.iU y.2.1 i),fun y=>Sp.room fs.length y.2.1*2+(if y.1.2.1=true then 1 else 0),⟨A,fun h=>by cases h⟩,?_⟩
 rintro ⟨⟨ps2,ch,⟨⟩⟩,aau,⟨⟩⟩ ⟨A2,st2⟩
 dsimp only at A2 st2 ⊢
 have wk:IntKind.i64.wrap ((k:Int)+1)=((k+1:Nat):Int):=gu _ (by omega)
 refine af (fun hch=>?_) fun hch=>⟨rfl,⟨k+1,wk,Sp.at_next hok A2 (st2 hch)⟩,by rw [wk];omega⟩
 subst hch
 refine dM (fun i (x:Bool×List Sp.dN)=>((x.1,i,()),x.2,())) (fun y=>y.1.2.1) (fun _ _=>rfl) d.length (by omega) (fun i x=>Sp.JG fs d [] (fun _=>true) aG k aau i x.1 x.2) (s0:=(false,aau)) ⟨A2,fun h=>(by cases h),fun _=>⟨rfl,fun j hj=>by omega⟩⟩ (fun I μ i x hi hJ next=>?_) fun I μ x hJ=>?_
 · obtain ⟨c,FT⟩:=x
   have A3:=hJ.1
   have ol:FT.length=d.length:=A3.order.1
   have hsm:=Sp.QN A3 (by omega) hfs hr
   dsimp only
   rw [Int.toNat_natCast]
   refine dh (by omega) ⟨⟨by omega,by rw [hl.1];omega⟩,af (fun h=>⟨rfl,next (c,FT) (Sp.Du hJ fun _ h'=>?_)⟩) fun h=>⟨⟨by omega,by omega⟩,⟨hs,qW hd hi,hsm⟩,⟨by omega,by omega⟩,by omega,trivial,af (fun h3=>⟨⟨by omega,by omega⟩,by omega,rfl,next (true,_) (Sp.afS hok hl hf hJ hi rfl ?_ ?_)⟩) fun h3=>⟨rfl,next (c,FT) (Sp.Du hJ fun _ _=>?_)⟩⟩⟩
   · exact (bne_iff_ne.1 h h').elim
   · exact apG h
   · exact iw (fO h3)
   · exact gG (dI h3)
 · obtain ⟨c,FT⟩:=x
   dsimp only
   obtain ⟨A3,c1,c2⟩:=hJ
   refine dm (by omega) ⟨rfl,⟨A3,fun hc=>still_at (nm:=fun _=>true) (c2 hc).2⟩,?_⟩
   cases c with
   |true=>have:=c1 rfl;dsimp only at this ⊢;simp only [if_true];omega
   |false=>have:=(c2 rfl).1;dsimp only at this ⊢;rw [this];simp
end Go.Proofs.Tryz
