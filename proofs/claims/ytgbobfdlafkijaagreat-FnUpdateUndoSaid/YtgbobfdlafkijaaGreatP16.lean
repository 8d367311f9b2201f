import Derived.Test.YtgbobfdlafkijaaGreatP15
import Derived.Test.YtgbobfdlafkijaaGreatV7
import Derived.Test.YtgbobfdlafkijaaGreatV5
namespace Go.Proofs.Tryz
open Go Go.Fw Go.IntWalk
theorem JK {fs:List Sp.aQ} {a:List Sp.iH} {nx:Int} {d:List Sp.aW} (r:List Sp.dJ) (nm:Sp.Bytes→Bool):∃ out,(Sp.aH d&&Sp.aN (a,fs,nx,()))=true→Sp.iY fs d r nm out:=by
 by_cases h:(Sp.aH d&&Sp.aN (a,fs,nx,()))=true
 · rw [Bool.and_eq_true] at h
   obtain ⟨aF,hl⟩:=aoW h.1
   obtain ⟨out,ho⟩:=Sp.arV r nm (Sp.qQ.1 h.1).1 hl (Sp.MZ h.2)
   exact ⟨out,fun _=>ho⟩
 · exact ⟨[],fun h'=>(h h').elim⟩
abbrev Tt:Sp.aW:=([],[],())
theorem aCq {a b:Int} (h:(a !=b)=false):a=b:=by simpa using h
theorem ayc {α β:Type} (g:α→β) (d:α) (l:List α) {n:Nat} (h:n<l.length):(l.take n).map g++[g (l.getD n d)]=(l.take (n+1)).map g:=by
 rw [Sp.take_succ' l n d h,List.map_append];rfl
theorem xq {d:List Sp.aW} (h:Sp.aH d=true):Sp.gZ d=true∧d.length≤5:=⟨(Sp.qQ.1 h).1,Sp.aeA (Sp.qQ.1 h).1⟩
theorem still_at {d:List Sp.aW} {aF:List (Int×Unit)} {nm:Sp.Bytes→Bool} {fs:List Sp.aQ} {out:List Sp.dJ} {k:Nat}
 (h:∀ j,j<d.length→j<d.length→nm (Sp.nameOf d j)=true→Sp.lv aF j=k→Sp.sel fs (Sp.gq d j) (Sp.bD out)=Sp.fK out j):∀ i,i<d.length→nm (Sp.nameOf d i)=true→Sp.lv aF i=k→Sp.sel fs (Sp.gq d i) (Sp.bD out)=Sp.fK out i:=fun i hi=>h i hi hi
theorem ayd:∀ (l:List (Int×Unit)),0<l.length→∃ m:Int,(∀ x∈l,x.1≤m)∧(m,())∈l
 |[x],_=>⟨x.1,fun y hy=>by rw [List.mem_singleton.1 hy];exact Int.le_refl _,List.mem_singleton.2 rfl⟩
 |x::y::r,_=>by
  obtain ⟨m,h1,h2⟩:=ayd (y::r) (by simp)
  by_cases h:x.1≤m
  · exact ⟨m,fun z hz=>by rcases List.mem_cons.1 hz with rfl|hz;exact h;exact h1 z hz,List.mem_cons_of_mem _ h2⟩
  · exact ⟨x.1,fun z hz=>by rcases List.mem_cons.1 hz with rfl|hz;exact Int.le_refl _;have:=h1 z hz;omega,List.mem_cons_self⟩
theorem agN:aA prog G zl CO:=by
 refine agO (aC (l:=[(H9, .pure Jr)]) (au ah) (by simp only [List.forall_mem_cons];exact ⟨⟨arT,aoD⟩,fun x hx=>by cases hx⟩)) ?_
 intro s0 fs nx q r hin hp
 obtain ⟨h1,h2,h3⟩:=hp
 have hl:fs.length≤1000:=h1.2.1
 obtain ⟨I,μ,g0,g1⟩:=ao1 (K:=fun z=>z=(Sp.sel fs q (Sp.bD r),())) (fun f=>Sp.jh q f (Sp.bD r)) (fun f:Sp.aQ=>(f.1,())) (0,0,false,0,[],()) fs (q,r,(s0,fs,nx,()),()) (A:=fun _=>q.length≤1000∧Sp.bJ r) (fun _ _=>⟨h2,h3⟩) (by omega) rfl
 refine ⟨I,μ,g0,fun y hy=>?_⟩
 have h:=g1 y hy
 dsimp only at h ⊢
 revert h
 cases decide (y.1.2.1<(fs.length:Int)) with
 |false=>exact id
 |true=>
  rintro ⟨b,a,h⟩
  refine ⟨b,a,?_⟩
  revert h
  cases Sp.jh q (fs.getD (Int.toNat y.1.2.1) (0,0,false,0,[],())) (Sp.bD r) with
  |true=>exact fun h=>⟨b,h.1,rfl,h.2.2⟩
  |false=>exact fun h=>⟨rfl,h.2⟩
theorem ZE:aA prog G wo wP:=by
 refine ao2 (aC (l:=[]) (au ah) (fun x hx=>by cases hx)) ?_
 intro d hin hp
 exact aCr (K:=fun r=>r=(Sp.lT d,())) (fun x:Sp.aW=>(x.1,())) ([],[],()) d _ (by have hp:d.length≤1000:=hp;omega) rfl
theorem al8:aG prog G DI EW:=by
 refine al9 (aC (l:=[]) (au ah) (fun x hx=>by cases hx)) (fun ⟨l,_⟩ hp=>by obtain ⟨m,h⟩:=ayd l hp;exact ⟨((m,()),()),h⟩) ?_
 intro l hin hp
 have hp:0<l.length:=hp
 have hlen:l.length≤maxLen:=hin.1.1
 rw [maxLen_eq] at hlen
 refine ⟨fun _=>True,af (fun h=>by have:=jw h;omega) fun h=>⟨rfl,trivial⟩,fun _ _=>⟨⟨by omega,by omega⟩,?_⟩⟩
 refine ⟨fun y=>∃ n:Nat,y.1.2.1=n∧1≤n∧n≤l.length∧(∀ i,i<n→Sp.lv l i≤y.1.1)∧∃ i,i<l.length∧Sp.lv l i=y.1.1,fun y=>((l.length:Int)-y.1.2.1).toNat,⟨1,rfl,by omega,by omega,fun i hi=>by rw [show i=0 by omega];exact Int.le_refl _,0,hp,rfl⟩,?_⟩
 rintro ⟨⟨m,_,⟨⟩⟩,⟨⟩⟩ ⟨n,rfl,n1,n2,h1,h2⟩
 dsimp only at h1 h2 ⊢
 refine af (fun hc=>?_) fun hc=>⟨fun x hx=>?_,?_⟩
 · have hc:=jw hc
   have w:IntKind.i64.wrap ((n:Int)+1)=((n+1:Nat):Int):=iM _ (by omega)
   rw [w]
   have e:(l.getD (Int.toNat (n:Int)) (0,())).1=Sp.lv l n:=rfl
   rw [e]
   refine ⟨⟨by omega,by omega⟩,rfl,⟨n+1,rfl,by omega,by omega,fun i hi=>?_,?_⟩,by omega⟩
   · by_cases hi':i=n
     · subst hi';split<;>omega
     · have:=h1 i (by omega);split<;>omega
   · split
     · exact ⟨n,by omega,rfl⟩
     · exact h2
 · have hc:=jB hc
   exact Sp.ax9 (p:=fun z=>z≤m) (fun i hi=>h1 i (by omega)) x hx
 · obtain ⟨i,hi,e⟩:=h2
   have:=Sp.ajv hi
   rw [e] at this;exact this
theorem ajw:aG prog G BD Eb:=by
 refine ajx (aC (l:=[(DI, .eff (ay wO) EW),(A8, .eff (ay uF) Am)]) (au ah) (by simp only [List.forall_mem_cons];exact ⟨⟨al8,ai9⟩,⟨ade,aaQ⟩,fun x hx=>by cases hx⟩)) (fun ⟨d,_⟩ _=>⟨(((1000:Int),()),()),⟨Int.le_refl _,fun aF hs hl i hi=>by have:=(hl.2.1 i hi).2;have:=(xq hs).2;show Sp.lv aF i≤1000;omega⟩⟩) ?_
 intro d hin hp
 refine ⟨hp,?_⟩
 rintro ⟨⟨aF,ok,⟨⟩⟩,⟨⟩⟩ ⟨e1,e2⟩
 have e1:ok=Sp.aH d:=e1
 have e2:ok=true→Sp.nR d aF:=e2
 refine af (fun h=>?_) fun h=>af (fun h2=>?_) fun h2=>⟨?_,?_⟩
 · have h:ok=false:=kQ h
   exact ⟨by decide,fun l hs=>by rw [← e1,h] at hs;cases hs⟩
 · have h2:(aF.length:Int)=0:=by simpa using h2
   have hl:=e2 (ig h)
   exact ⟨by decide,fun l hs hl' i hi=>by have:=hl.1;omega⟩
 · have h2:¬ (aF.length:Int)=0:=by simpa using h2
   show 0<aF.length
   omega
 · rintro ⟨⟨m,⟨⟩⟩,⟨⟩⟩ ⟨g1,g2⟩
   have hl:=e2 (ig h)
   have hlen:=(xq (e1▸ig h)).2
   have g2:(m,())∈aF:=g2
   refine ⟨?_,fun l hs hl' i hi=>?_⟩
   · obtain ⟨i,hi,e⟩:=List.getElem_of_mem g2
     have hi':i<d.length:=by rw [← hl.1];exact hi
     have:=(hl.2.1 i hi').2
     have e3:Sp.lv aF i=m:=by
      unfold Sp.lv
      rw [List.getD_eq_getElem?_getD,List.getElem?_eq_getElem hi,e];rfl
     show m≤1000
     omega
   · rw [Sp.ajy hl' hl]
     exact g1 _ (Sp.ajv (by rw [hl.1];exact hi))
theorem ajz:aG prog G BF Ec:=by
 refine ajA (aC (l:=[(sW, .eff (ay nU) rM)]) (au ah) (by simp only [List.forall_mem_cons];exact ⟨⟨U8,SL⟩,fun x hx=>by cases hx⟩)) (fun ⟨d,_⟩ _=>⟨(((1000:Int),()),()),⟨Int.le_refl _,fun aF hs hl i hi=>by have:=(hl.2.1 i hi).2;have:=(xq hs).2;show Sp.lv aF i≤1000;omega⟩⟩) ?_
 intro d hin hp
 refine ⟨hp,?_⟩
 rintro ⟨⟨aF,ok,⟨⟩⟩,⟨⟩⟩ ⟨e1,e2,e3⟩
 have e1:ok=Sp.aH d:=e1
 have e2:ok=true→Sp.nR d aF:=e2
 have e3:ok=false→aF=[]:=e3
 have hlen:aF.length≤5∧∀ i,i<aF.length→Sp.lv aF i≤1000:=by
  cases hk:ok with
  |false=>rw [e3 hk];exact ⟨by decide,fun i hi=>by simp at hi⟩
  |true=>
   have hl:=e2 hk
   have h5:=(xq (e1▸hk)).2
   exact ⟨by rw [hl.1];exact h5,fun i hi=>by have:=(hl.2.1 i (by rw [← hl.1];exact hi)).2;omega⟩
 refine ⟨fun y=>∃ n:Nat,y.1.2.1=n∧n≤aF.length∧y.1.1≤1000∧∀ i,i<n→Sp.lv aF i≤y.1.1,fun y=>((aF.length:Int)-y.1.2.1).toNat,⟨0,rfl,by omega,by decide,fun i hi=>by omega⟩,?_⟩
 rintro ⟨⟨m,_,⟨⟩⟩,⟨⟩⟩ ⟨n,rfl,n2,hm,h1⟩
 dsimp only at hm h1 ⊢
 have e:(aF.getD (Int.toNat (n:Int)) (0,())).1=Sp.lv aF n:=rfl
 rw [e]
 refine af (fun hc=>?_) fun hc=>?_
 · have hc:=jw hc
   have w:IntKind.i64.wrap ((n:Int)+1)=((n+1:Nat):Int):=iM _ (by omega)
   rw [w]
   have aED:=hlen.2 n (by omega)
   refine ⟨⟨by omega,by omega⟩,af (fun g=>⟨⟨by omega,by omega⟩,rfl,⟨n+1,rfl,by omega,aED,fun i hi=>?_⟩,by omega⟩) fun g=>⟨rfl,⟨n+1,rfl,by omega,hm,fun i hi=>?_⟩,by omega⟩⟩
   · have g:=jw g
     by_cases hi':i=n
     · subst hi';exact Int.le_refl _
     · have:=h1 i (by omega);omega
   · have g:=jB g
     by_cases hi':i=n
     · subst hi';omega
     · exact h1 i (by omega)
 · have hc:=jB hc
   refine ⟨hm,fun l hs hl' i hi=>?_⟩
   have hl:=e2 (e1.trans hs)
   rw [Sp.ajy hl' hl]
   exact h1 i (by rw [← hl.1] at hi;omega)
theorem XF:aG prog G tY uJ:=by
 refine ama (aC (l:=[(pV, .pure qE),(zk, .pure CJ),(BD, .eff (ay uH) Eb),(nH, .pure mO),(gm, .pure gu),(oK, .pure o7),(A8, .eff (ay uF) Am)]) (au ah) (by simp only [List.forall_mem_cons];exact ⟨⟨Uy,SS⟩,⟨agK,aem⟩,⟨ajw,agr⟩,⟨Oi,MH⟩,⟨vM,tH⟩,⟨Tm,QB⟩,⟨ade,aaQ⟩,fun x hx=>by cases hx⟩)) (fun ⟨(a,fs,nx,_),d,r,names,_⟩ _=>by obtain ⟨out,h⟩:=JK (fs:=fs) (a:=a) (nx:=nx) (d:=d) r (Sp.iG names);exact ⟨(((out,0,(Sp.aH d&&Sp.aN (a,fs,nx,())),()),())),⟨rfl,h⟩⟩) ?_
 intro a fs nx d r names hin hp
 obtain ⟨hs,hd,hr⟩:Sp.bQ (a,fs,nx,())∧Sp.aS d∧Sp.bJ r:=hp
 refine ⟨hd,?_⟩
 rintro ⟨⟨aF,ok0,⟨⟩⟩,⟨⟩⟩ ⟨e1,e2⟩
 have e1:ok0=Sp.aH d:=e1
 have e2:ok0=true→Sp.nR d aF:=e2
 refine ⟨fun _=>ok0=true∧Sp.aN (a,fs,nx,())=true,af (fun h=>?_) fun h=>⟨trivial,af (fun h2=>?_) fun h2=>⟨rfl,ig h,ig h2⟩⟩,?_⟩
 · have h:ok0=false:=kQ h
   have hz:(Sp.aH d&&Sp.aN (a,fs,nx,()))=false:=by rw [← e1,h];rfl
   exact ⟨hz.symm,fun h=>by cases h⟩
 · have h2:Sp.aN (a,fs,nx,())=false:=kQ h2
   have hz:(Sp.aH d&&Sp.aN (a,fs,nx,()))=false:=by rw [h2,Bool.and_false]
   exact ⟨hz.symm,fun h=>by cases h⟩
 rintro y3 ⟨hk,hst⟩
 have ZF:Sp.aH d=true:=e1▸hk
 have hz:(Sp.aH d&&Sp.aN (a,fs,nx,()))=true:=by rw [ZF,hst];rfl
 obtain ⟨hok,hlen⟩:=xq ZF
 have hl:Sp.nR d aF:=e2 hk
 have hf:=Sp.MZ hst
 have hf:Sp.distinct fs:=hf
 have hfs:fs.length≤1000:=hs.2.1
 refine gQ (fun i (x:List Sp.dJ)=>(((),i,()),x,())) (fun y=>y.1.2.1) (fun _ _=>rfl) d.length (by omega) (fun n l=>l=(d.take n).map (Sp.IA r (Sp.iG names))) rfl (fun I μ n l hn hJ next=>?_) fun I μ l hJ=>?_
 · subst hJ
   have hl:((d.take n).map (Sp.IA r (Sp.iG names))).length≤n:=by rw [List.length_map,List.length_take];omega
   have step:=ayc (Sp.IA r (Sp.iG names)) Tt d hn
   dsimp only
   refine eF (by omega) ⟨⟨by omega,by omega⟩,trivial,af (fun h=>⟨hr,by rw [dU];simp only [List.length_cons,List.length_nil];omega,rfl,next _ ?_⟩) fun h=>⟨by rw [dU];simp only [List.length_cons,List.length_nil];omega,rfl,next _ ?_⟩⟩
   · rw [← step]
     have h:Sp.iG names (d.getD n Tt).1=false:=kQ h
     unfold Sp.IA;rw [h];rfl
   · rw [← step]
     have h:Sp.iG names (d.getD n Tt).1=true:=ig h
     unfold Sp.IA;rw [h];rfl
 subst hJ
 rw [List.take_length]
 dsimp only
 refine eG (by omega) ⟨fun y=>∃ k:Nat,y.1.2.1=k∧Sp.wW fs d r (Sp.iG names) aF k y.2.1,fun y=>(1002-y.1.2.1).toNat,⟨0,rfl,Sp.abB hok hl⟩,?_⟩
 rintro ⟨⟨ps,_,⟨⟩⟩,out,⟨⟩⟩ ⟨k,rfl,A⟩
 dsimp only at A ⊢
 refine ⟨hd,?_⟩
 rintro ⟨⟨m,⟨⟩⟩,⟨⟩⟩ ⟨m1,m2⟩
 have m1:m≤1000:=m1
 have m2:∀ i,i<d.length→Sp.lv aF i≤m:=m2 aF ZF hl
 refine af (fun hc=>?_) fun hc=>⟨hz.symm,fun _=>Sp.at_end hok hl A fun i hi=>by have:=m2 i hi;have hc:¬ (k:Int)≤m:=jB hc;omega⟩
 have hc:(k:Int)≤m:=jw hc
 refine ⟨fun y=>Sp.wW fs d r (Sp.iG names) aF k y.2.1∧(y.1.2.1=false→∀ i,i<d.length→Sp.iG names (Sp.nameOf d i)=true→Sp.lv aF i=k→Sp.sel fs (Sp.gq d i) (Sp.bD y.2.1)=Sp.fK y.2.1 i),fun y=>Sp.room fs.length y.2.1*2+(if y.1.2.1=true then 1 else 0),⟨A,fun h=>by cases h⟩,?_⟩
 rintro ⟨⟨ps2,ch,⟨⟩⟩,aye,⟨⟩⟩ ⟨A2,st2⟩
 dsimp only at A2 st2 ⊢
 have wk:IntKind.i64.wrap ((k:Int)+1)=((k+1:Nat):Int):=iM _ (by omega)
 refine af (fun hch=>?_) fun hch=>⟨rfl,⟨k+1,wk,Sp.at_next hok A2 (st2 hch)⟩,by rw [wk];omega⟩
 subst hch
 refine gQ (fun i (x:Bool×List Sp.dJ)=>((x.1,i,()),x.2,())) (fun y=>y.1.2.1) (fun _ _=>rfl) d.length (by omega) (fun i x=>Sp.Yx fs d r (Sp.iG names) aF k aye i x.1 x.2) (s0:=(false,aye)) ⟨A2,fun h=>(by cases h),fun _=>⟨rfl,fun j hj=>by omega⟩⟩ (fun I μ i x hi hJ next=>?_) fun I μ x hJ=>?_
 · obtain ⟨c,abC⟩:=x
   have A3:=hJ.1
   have ol:abC.length=d.length:=A3.order.1
   have hsm:=Sp.anl A3 (by omega) hfs hr
   dsimp only
   rw [Int.toNat_natCast]
   refine eF (by omega) ⟨⟨by omega,by omega⟩,⟨by omega,by rw [hl.1];omega⟩,af (fun h=>⟨rfl,next (c,abC) (Sp.V8 hJ fun _ h'=>?_)⟩) fun h=>⟨trivial,af (fun h2=>⟨rfl,next (c,abC) (Sp.V8 hJ fun h'=>?_)⟩) fun h2=>⟨⟨hs,Bh hd hi,hsm⟩,⟨by omega,by omega⟩,by omega,trivial,af (fun h3=>⟨⟨by omega,by omega⟩,by omega,rfl,next (true,_) (Sp.ayf hok hl hf hJ hi (ig h2) ?_ ?_)⟩) fun h3=>⟨rfl,next (c,abC) (Sp.V8 hJ fun _ _=>?_)⟩⟩⟩⟩
   · exact (bne_iff_ne.1 h h').elim
   · have h2:Sp.iG names (Sp.nameOf d i)=false:=kQ h2
     rw [h2] at h';cases h'
   · exact aCq h
   · exact jB (kQ h3)
   · exact jw (ig h3)
 · obtain ⟨c,abC⟩:=x
   dsimp only
   obtain ⟨A3,c1,c2⟩:=hJ
   refine eG (by omega) ⟨rfl,⟨A3,fun hc=>still_at (c2 hc).2⟩,?_⟩
   cases c with
   |true=>have:=c1 rfl;dsimp only at this ⊢;simp only [if_true];omega
   |false=>have:=(c2 rfl).1;dsimp only at this ⊢;rw [this];simp
theorem auB:aG prog G JY Ll:=by
 refine auC (aC (l:=[(yJ, .pure yC),(zl, .pure CO),(BF, .eff (ay uI) Ec),(kz, .pure kG),(sW, .eff (ay nU) rM)]) (au ah) (by simp only [List.forall_mem_cons];exact ⟨⟨aaX,Zw⟩,⟨agN,aen⟩,⟨ajz,ags⟩,⟨JG,Ir⟩,⟨U8,SL⟩,fun x hx=>by cases hx⟩)) (fun ⟨(a,fs,nx,_),d,_⟩ _=>by obtain ⟨out,h⟩:=JK (fs:=fs) (a:=a) (nx:=nx) (d:=d) [] (fun _=>true);exact ⟨(((out,0,(Sp.aH d&&Sp.aN (a,fs,nx,())),()),())),⟨rfl,h⟩⟩) ?_
 intro a fs nx d hin hp
 obtain ⟨hs,hd⟩:Sp.bQ (a,fs,nx,())∧Sp.aS d:=hp
 have hr:Sp.bJ []:=⟨by decide,fun x hx=>by cases hx⟩
 refine ⟨hd,?_⟩
 rintro ⟨⟨aF,ok0,⟨⟩⟩,⟨⟩⟩ ⟨e1,e2,_⟩
 have e1:ok0=Sp.aH d:=e1
 have e2:ok0=true→Sp.nR d aF:=e2
 refine ⟨fun _=>ok0=true∧Sp.aN (a,fs,nx,())=true,af (fun h=>?_) fun h=>⟨trivial,af (fun h2=>?_) fun h2=>⟨rfl,ig h,ig h2⟩⟩,?_⟩
 · have h:ok0=false:=kQ h
   have hz:(Sp.aH d&&Sp.aN (a,fs,nx,()))=false:=by rw [← e1,h];rfl
   exact ⟨hz.symm,fun h=>by cases h⟩
 · have h2:Sp.aN (a,fs,nx,())=false:=kQ h2
   have hz:(Sp.aH d&&Sp.aN (a,fs,nx,()))=false:=by rw [h2,Bool.and_false]
   exact ⟨hz.symm,fun h=>by cases h⟩
 rintro y3 ⟨hk,hst⟩
 have ZF:Sp.aH d=true:=e1▸hk
 have hz:(Sp.aH d&&Sp.aN (a,fs,nx,()))=true:=by rw [ZF,hst];rfl
 obtain ⟨hok,hlen⟩:=xq ZF
 have hl:Sp.nR d aF:=e2 hk
 have hf:=Sp.MZ hst
 have hf:Sp.distinct fs:=hf
 have hfs:fs.length≤1000:=hs.2.1
 refine gQ (fun i (x:List Sp.dJ)=>(((),i,()),x,())) (fun y=>y.1.2.1) (fun _ _=>rfl) d.length (by omega) (fun n l=>l=(d.take n).map (Sp.IA [] (fun _=>true))) rfl (fun I μ n l hn hJ next=>?_) fun I μ l hJ=>?_
 · subst hJ
   have hl:((d.take n).map (Sp.IA [] (fun _=>true))).length≤n:=by rw [List.length_map,List.length_take];omega
   have step:=ayc (Sp.IA [] (fun _=>true)) Tt d hn
   dsimp only
   refine eF (by omega) ⟨⟨by omega,by omega⟩,by rw [dU];simp only [List.length_cons,List.length_nil];omega,rfl,next _ ?_⟩
   rw [← step];rfl
 subst hJ
 rw [List.take_length]
 dsimp only
 refine eG (by omega) ⟨fun y=>∃ k:Nat,y.1.2.1=k∧Sp.wW fs d [] (fun _=>true) aF k y.2.1,fun y=>(1002-y.1.2.1).toNat,⟨0,rfl,Sp.abB hok hl⟩,?_⟩
 rintro ⟨⟨ps,_,⟨⟩⟩,out,⟨⟩⟩ ⟨k,rfl,A⟩
 dsimp only at A ⊢
 refine ⟨hd,?_⟩
 rintro ⟨⟨m,⟨⟩⟩,⟨⟩⟩ ⟨m1,m2⟩
 have m1:m≤1000:=m1
 have m2:∀ i,i<d.length→Sp.lv aF i≤m:=m2 aF ZF hl
 refine af (fun hc=>?_) fun hc=>⟨hz.symm,fun _=>Sp.at_end hok hl A fun i hi=>by have:=m2 i hi;have hc:¬ (k:Int)≤m:=jB hc;omega⟩
 have hc:(k:Int)≤m:=jw hc
 refine ⟨fun y=>Sp.wW fs d [] (fun _=>true) aF k y.2.1∧(y.1.2.1=false→∀ i,i<d.length→true=true→Sp.lv aF i=k→Sp.sel fs (Sp.gq d i) (Sp.bD y.2.1)=Sp.fK y.2.1 i),fun y=>Sp.room fs.length y.2.1*2+(if y.1.2.1=true then 1 else 0),⟨A,fun h=>by cases h⟩,?_⟩
 rintro ⟨⟨ps2,ch,⟨⟩⟩,aye,⟨⟩⟩ ⟨A2,st2⟩
 dsimp only at A2 st2 ⊢
 have wk:IntKind.i64.wrap ((k:Int)+1)=((k+1:Nat):Int):=iM _ (by omega)
 refine af (fun hch=>?_) fun hch=>⟨rfl,⟨k+1,wk,Sp.at_next hok A2 (st2 hch)⟩,by rw [wk];omega⟩
 subst hch
 refine gQ (fun i (x:Bool×List Sp.dJ)=>((x.1,i,()),x.2,())) (fun y=>y.1.2.1) (fun _ _=>rfl) d.length (by omega) (fun i x=>Sp.Yx fs d [] (fun _=>true) aF k aye i x.1 x.2) (s0:=(false,aye)) ⟨A2,fun h=>(by cases h),fun _=>⟨rfl,fun j hj=>by omega⟩⟩ (fun I μ i x hi hJ next=>?_) fun I μ x hJ=>?_
 · obtain ⟨c,abC⟩:=x
   have A3:=hJ.1
   have ol:abC.length=d.length:=A3.order.1
   have hsm:=Sp.anl A3 (by omega) hfs hr
   dsimp only
   rw [Int.toNat_natCast]
   refine eF (by omega) ⟨⟨by omega,by rw [hl.1];omega⟩,af (fun h=>⟨rfl,next (c,abC) (Sp.V8 hJ fun _ h'=>?_)⟩) fun h=>⟨⟨by omega,by omega⟩,⟨hs,Bh hd hi,hsm⟩,⟨by omega,by omega⟩,by omega,trivial,af (fun h3=>⟨⟨by omega,by omega⟩,by omega,rfl,next (true,_) (Sp.ayf hok hl hf hJ hi rfl ?_ ?_)⟩) fun h3=>⟨rfl,next (c,abC) (Sp.V8 hJ fun _ _=>?_)⟩⟩⟩
   · exact (bne_iff_ne.1 h h').elim
   · exact aCq h
   · exact jB (kQ h3)
   · exact jw (ig h3)
 · obtain ⟨c,abC⟩:=x
   dsimp only
   obtain ⟨A3,c1,c2⟩:=hJ
   refine eG (by omega) ⟨rfl,⟨A3,fun hc=>still_at (nm:=fun _=>true) (c2 hc).2⟩,?_⟩
   cases c with
   |true=>have:=c1 rfl;dsimp only at this ⊢;simp only [if_true];omega
   |false=>have:=(c2 rfl).1;dsimp only at this ⊢;rw [this];simp
end Go.Proofs.Tryz
