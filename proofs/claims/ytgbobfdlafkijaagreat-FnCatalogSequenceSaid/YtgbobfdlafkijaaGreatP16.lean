import Derived.Test.YtgbobfdlafkijaaGreatP15
import Derived.Test.YtgbobfdlafkijaaGreatV7
import Derived.Test.YtgbobfdlafkijaaGreatV5
namespace Go.Proofs.Tryz
open Go Go.Fw Go.IntWalk
theorem Iz {fs:List Sp.aT} {a:List Sp.iZ} {nx:Int} {d:List Sp.aY} (r:List Sp.eY) (nm:Sp.Bytes→Bool):∃ out,(Sp.aF d&&Sp.aH (a,fs,nx,()))=true→Sp.iO fs d r nm out:=by
 by_cases h:(Sp.aF d&&Sp.aH (a,fs,nx,()))=true
 · rw [Bool.and_eq_true] at h
   obtain ⟨aI,hl⟩:=ar8 h.1
   obtain ⟨out,ho⟩:=Sp.avm r nm (Sp.sN.1 h.1).1 hl (Sp.JZ h.2)
   exact ⟨out,fun _=>ho⟩
 · exact ⟨[],fun h'=>(h h').elim⟩
abbrev II:Sp.aY:=([],[],())
theorem aBu {a b:Int} (h:(a !=b)=false):a=b:=by simpa using h
theorem asg {α β:Type} (g:α→β) (d:α) (l:List α) {n:Nat} (h:n<l.length):(l.take n).map g++[g (l.getD n d)]=(l.take (n+1)).map g:=by
 rw [Sp.take_succ' l n d h,List.map_append];rfl
theorem yJ {d:List Sp.aY} (h:Sp.aF d=true):Sp.iY d=true∧d.length≤5:=⟨(Sp.sN.1 h).1,Sp.agX (Sp.sN.1 h).1⟩
theorem still_at {d:List Sp.aY} {aI:List (Int×Unit)} {nm:Sp.Bytes→Bool} {fs:List Sp.aT} {out:List Sp.eY} {k:Nat}
 (h:∀ j,j<d.length→j<d.length→nm (Sp.nameOf d j)=true→Sp.lv aI j=k→Sp.sel fs (Sp.fK d j) (Sp.bK out)=Sp.jS out j):∀ i,i<d.length→nm (Sp.nameOf d i)=true→Sp.lv aI i=k→Sp.sel fs (Sp.fK d i) (Sp.bK out)=Sp.jS out i:=fun i hi=>h i hi hi
theorem aBv:∀ (l:List (Int×Unit)),0<l.length→∃ m:Int,(∀ x∈l,x.1≤m)∧(m,())∈l
 |[x],_=>⟨x.1,fun y hy=>by rw [List.mem_singleton.1 hy];exact Int.le_refl _,List.mem_singleton.2 rfl⟩
 |x::y::r,_=>by
  obtain ⟨m,h1,h2⟩:=aBv (y::r) (by simp)
  by_cases h:x.1≤m
  · exact ⟨m,fun z hz=>by rcases List.mem_cons.1 hz with rfl|hz;exact h;exact h1 z hz,List.mem_cons_of_mem _ h2⟩
  · exact ⟨x.1,fun z hz=>by rcases List.mem_cons.1 hz with rfl|hz;exact Int.le_refl _;have:=h1 z hz;omega,List.mem_cons_self⟩
theorem WL:aA prog G qP rQ:=by
 refine ajk (aB (l:=[(JB, .pure KZ)]) (au ah) (by simp only [List.forall_mem_cons];exact ⟨⟨avk,arN⟩,fun x hx=>by cases hx⟩)) ?_
 intro s0 fs nx q r hin hp
 obtain ⟨h1,h2,h3⟩:=hp
 have hl:fs.length≤1000:=h1.2.1
 obtain ⟨I,μ,g0,g1⟩:=asf (K:=fun z=>z=(Sp.sel fs q (Sp.bK r),())) (fun f=>Sp.jC q f (Sp.bK r)) (fun f:Sp.aT=>(f.1,())) (0,0,false,0,[],()) fs (q,r,(s0,fs,nx,()),()) (A:=fun _=>q.length≤1000∧Sp.aZ r) (fun _ _=>⟨h2,h3⟩) (by omega) rfl
 refine ⟨I,μ,g0,fun y hy=>?_⟩
 have h:=g1 y hy
 dsimp only at h ⊢
 revert h
 cases decide (y.1.2.1<(fs.length:Int)) with
 |false=>exact id
 |true=>
  rintro ⟨b,a,h⟩
  refine ⟨b,a,?_⟩
  revert h
  cases Sp.jC q (fs.getD (Int.toNat y.1.2.1) (0,0,false,0,[],())) (Sp.bK r) with
  |true=>exact fun h=>⟨b,h.1,rfl,h.2.2⟩
  |false=>exact fun h=>⟨rfl,h.2⟩
theorem Xt:aA prog G uV tZ:=by
 refine ax2 (aB (l:=[]) (au ah) (fun x hx=>by cases hx)) ?_
 intro l s hin hp
 exact aFC (K:=fun r=>r=(Sp.dY l s,())) (fun x:List UInt8×Unit=>x.1==s) ([],()) l _ hin.1.1 rfl
theorem abZ:aA prog G xR yx:=by
 refine ash (aB (l:=[]) (au ah) (fun x hx=>by cases hx)) ?_
 intro d hin hp
 exact aBw (K:=fun r=>r=(Sp.jD d,())) (fun x:Sp.aY=>(x.1,())) ([],[],()) d _ (by have hp:d.length≤1000:=hp;omega) rfl
theorem asi:aA prog G Hg I5:=by
 refine asj (aB (l:=[]) (au ah) (fun x hx=>by cases hx)) ?_
 intro d hin hp
 exact aBw (K:=fun r=>r=(Sp.jD d,())) (fun x:Sp.aY=>(x.1,())) ([],[],()) d _ (by have hp:d.length≤1000:=hp;omega) rfl
theorem ag7:aA prog G zf BZ:=by
 refine ag8 (aB (l:=[(nC, .pure lS)]) (au ah) (by simp only [List.forall_mem_cons];exact ⟨⟨Oa,LJ⟩,fun x hx=>by cases hx⟩)) ?_
 intro a b hin hp
 have hlen:a.length≤maxLen:=hin.1.1
 rw [maxLen_eq] at hlen
 refine af (fun h=>?_) fun h=>?_
 · have h:(a.length:Int)≠b.length:=by simpa using h
   exact congrArg (·,()) (decide_eq_false fun e=>h (by rw [e])).symm
 · have h:(a.length:Int)=b.length:=by simpa using h
   refine ku a.length hlen (fun n=>∀ i,i<n→a.getD i vG=b.getD i vG) (fun i hi=>by omega) (fun I μ n hn hJ next=>?_) fun I μ hJ=>(by dsimp only;exact dX (by omega) (by rw [decide_eq_true (ab1 (by omega) hJ)]))
   dsimp only
   have no:a.getD n vG≠b.getD n vG→(false,())=(decide (a=b),()):=fun hne=>by rw [decide_eq_false fun e=>hne (by rw [e])]
   refine dW (by omega) ⟨⟨by omega,by omega⟩,⟨by omega,by omega⟩,af (fun g=>no fun e=>?_) fun g=>⟨⟨by omega,by omega⟩,⟨by omega,by omega⟩,trivial,af (fun g2=>no fun e=>?_) fun g2=>⟨rfl,next fun i hi=>?_⟩⟩⟩
   · have g:¬ (a.getD n vG).1=(b.getD n vG).1:=beq_eq_false_iff_ne.1 (jG g)
     exact g (by rw [e])
   · have g2:¬ (a.getD n vG).2.1=(b.getD n vG).2.1:=jl (jG g2)
     exact g2 (by rw [e])
   · rcases Nat.lt_or_ge i n with h'|h'
     · exact hJ i h'
     · have:i=n:=by omega
       subst this
       have g:(a.getD i vG).1=(b.getD i vG).1:=beq_iff_eq.1 (gQ g)
       have g2:(a.getD i vG).2.1=(b.getD i vG).2.1:=ji (gQ g2)
       exact Prod.ext g (Prod.ext g2 rfl)
theorem ao1:aG prog G E8 GU:=by
 refine ao2 (aB (l:=[]) (au ah) (fun x hx=>by cases hx)) (fun ⟨l,_⟩ hp=>by obtain ⟨m,h⟩:=aBv l hp;exact ⟨((m,()),()),h⟩) ?_
 intro l hin hp
 have hp:0<l.length:=hp
 have hlen:l.length≤maxLen:=hin.1.1
 rw [maxLen_eq] at hlen
 refine ⟨fun _=>True,af (fun h=>by have:=ji h;omega) fun h=>⟨rfl,trivial⟩,fun _ _=>⟨⟨by omega,by omega⟩,?_⟩⟩
 refine ⟨fun y=>∃ n:Nat,y.1.2.1=n∧1≤n∧n≤l.length∧(∀ i,i<n→Sp.lv l i≤y.1.1)∧∃ i,i<l.length∧Sp.lv l i=y.1.1,fun y=>((l.length:Int)-y.1.2.1).toNat,⟨1,rfl,by omega,by omega,fun i hi=>by rw [show i=0 by omega];exact Int.le_refl _,0,hp,rfl⟩,?_⟩
 rintro ⟨⟨m,_,⟨⟩⟩,⟨⟩⟩ ⟨n,rfl,n1,n2,h1,h2⟩
 dsimp only at h1 h2 ⊢
 refine af (fun hc=>?_) fun hc=>⟨fun x hx=>?_,?_⟩
 · have hc:=ji hc
   have w:IntKind.i64.wrap ((n:Int)+1)=((n+1:Nat):Int):=iL _ (by omega)
   rw [w]
   have e:(l.getD (Int.toNat (n:Int)) (0,())).1=Sp.lv l n:=rfl
   rw [e]
   refine ⟨⟨by omega,by omega⟩,rfl,⟨n+1,rfl,by omega,by omega,fun i hi=>?_,?_⟩,by omega⟩
   · by_cases hi':i=n
     · subst hi';split<;>omega
     · have:=h1 i (by omega);split<;>omega
   · split
     · exact ⟨n,by omega,rfl⟩
     · exact h2
 · have hc:=jl hc
   exact Sp.aBr (p:=fun z=>z≤m) (fun i hi=>h1 i (by omega)) x hx
 · obtain ⟨i,hi,e⟩:=h2
   have:=Sp.ame hi
   rw [e] at this;exact this
theorem amf:aG prog G Dz FQ:=by
 refine amg (aB (l:=[(E8, .eff (ax yw) GU),(C9, .eff (ax wo) BR)]) (au ah) (by simp only [List.forall_mem_cons];exact ⟨⟨ao1,alQ⟩,⟨afz,ado⟩,fun x hx=>by cases hx⟩)) (fun ⟨d,_⟩ _=>⟨(((1000:Int),()),()),⟨Int.le_refl _,fun aI hs hl i hi=>by have:=(hl.2.1 i hi).2;have:=(yJ hs).2;show Sp.lv aI i≤1000;omega⟩⟩) ?_
 intro d hin hp
 refine ⟨hp,?_⟩
 rintro ⟨⟨aI,ok,⟨⟩⟩,⟨⟩⟩ ⟨e1,e2⟩
 have e1:ok=Sp.aF d:=e1
 have e2:ok=true→Sp.mO d aI:=e2
 refine af (fun h=>?_) fun h=>af (fun h2=>?_) fun h2=>⟨?_,?_⟩
 · have h:ok=false:=jG h
   exact ⟨by decide,fun l hs=>by rw [← e1,h] at hs;cases hs⟩
 · have h2:(aI.length:Int)=0:=by simpa using h2
   have hl:=e2 (gQ h)
   exact ⟨by decide,fun l hs hl' i hi=>by have:=hl.1;omega⟩
 · have h2:¬ (aI.length:Int)=0:=by simpa using h2
   show 0<aI.length
   omega
 · rintro ⟨⟨m,⟨⟩⟩,⟨⟩⟩ ⟨g1,g2⟩
   have hl:=e2 (gQ h)
   have hlen:=(yJ (e1▸gQ h)).2
   have g2:(m,())∈aI:=g2
   refine ⟨?_,fun l hs hl' i hi=>?_⟩
   · obtain ⟨i,hi,e⟩:=List.getElem_of_mem g2
     have hi':i<d.length:=by rw [← hl.1];exact hi
     have:=(hl.2.1 i hi').2
     have e3:Sp.lv aI i=m:=by
      unfold Sp.lv
      rw [List.getD_eq_getElem?_getD,List.getElem?_eq_getElem hi,e];rfl
     show m≤1000
     omega
   · rw [Sp.amh hl' hl]
     exact g1 _ (Sp.ame (by rw [hl.1];exact hi))
theorem YB:aG prog G tC uz:=by
 refine ami (aB (l:=[(oW, .eff (ax lH) nO)]) (au ah) (by simp only [List.forall_mem_cons];exact ⟨⟨Pg,N8⟩,fun x hx=>by cases hx⟩)) (fun ⟨d,_⟩ _=>⟨(((1000:Int),()),()),⟨Int.le_refl _,fun aI hs hl i hi=>by have:=(hl.2.1 i hi).2;have:=(yJ hs).2;show Sp.lv aI i≤1000;omega⟩⟩) ?_
 intro d hin hp
 refine ⟨hp,?_⟩
 rintro ⟨⟨aI,ok,⟨⟩⟩,⟨⟩⟩ ⟨e1,e2,e3⟩
 have e1:ok=Sp.aF d:=e1
 have e2:ok=true→Sp.mO d aI:=e2
 have e3:ok=false→aI=[]:=e3
 have hlen:aI.length≤5∧∀ i,i<aI.length→Sp.lv aI i≤1000:=by
  cases hk:ok with
  |false=>rw [e3 hk];exact ⟨by decide,fun i hi=>by simp at hi⟩
  |true=>
   have hl:=e2 hk
   have h5:=(yJ (e1▸hk)).2
   exact ⟨by rw [hl.1];exact h5,fun i hi=>by have:=(hl.2.1 i (by rw [← hl.1];exact hi)).2;omega⟩
 refine ⟨fun y=>∃ n:Nat,y.1.2.1=n∧n≤aI.length∧y.1.1≤1000∧∀ i,i<n→Sp.lv aI i≤y.1.1,fun y=>((aI.length:Int)-y.1.2.1).toNat,⟨0,rfl,by omega,by decide,fun i hi=>by omega⟩,?_⟩
 rintro ⟨⟨m,_,⟨⟩⟩,⟨⟩⟩ ⟨n,rfl,n2,hm,h1⟩
 dsimp only at hm h1 ⊢
 have e:(aI.getD (Int.toNat (n:Int)) (0,())).1=Sp.lv aI n:=rfl
 rw [e]
 refine af (fun hc=>?_) fun hc=>?_
 · have hc:=ji hc
   have w:IntKind.i64.wrap ((n:Int)+1)=((n+1:Nat):Int):=iL _ (by omega)
   rw [w]
   have aHK:=hlen.2 n (by omega)
   refine ⟨⟨by omega,by omega⟩,af (fun g=>⟨⟨by omega,by omega⟩,rfl,⟨n+1,rfl,by omega,aHK,fun i hi=>?_⟩,by omega⟩) fun g=>⟨rfl,⟨n+1,rfl,by omega,hm,fun i hi=>?_⟩,by omega⟩⟩
   · have g:=ji g
     by_cases hi':i=n
     · subst hi';exact Int.le_refl _
     · have:=h1 i (by omega);omega
   · have g:=jl g
     by_cases hi':i=n
     · subst hi';omega
     · exact h1 i (by omega)
 · have hc:=jl hc
   refine ⟨hm,fun l hs hl' i hi=>?_⟩
   have hl:=e2 (e1.trans hs)
   rw [Sp.amh hl' hl]
   exact h1 i (by rw [← hl.1] at hi;omega)
theorem ZN:aG prog G vI wB:=by
 refine ao3 (aB (l:=[(qO, .pure rU),(Ar, .pure Eh),(Dz, .eff (ax wz) FQ),(oL, .pure nT),(iw, .pure iy),(qf, .pure qB),(C9, .eff (ax wo) BR)]) (au ah) (by simp only [List.forall_mem_cons];exact ⟨⟨WJ,Vt⟩,⟨ajh,agJ⟩,⟨amf,aiW⟩,⟨Qv,OT⟩,⟨xB,vg⟩,⟨VD,TU⟩,⟨afz,ado⟩,fun x hx=>by cases hx⟩)) (fun ⟨(a,fs,nx,_),d,r,names,_⟩ _=>by obtain ⟨out,h⟩:=Iz (fs:=fs) (a:=a) (nx:=nx) (d:=d) r (Sp.dY names);exact ⟨(((out,0,(Sp.aF d&&Sp.aH (a,fs,nx,())),()),())),⟨rfl,h⟩⟩) ?_
 intro a fs nx d r names hin hp
 obtain ⟨hs,hd,hr⟩:Sp.bC (a,fs,nx,())∧Sp.aO d∧Sp.aZ r:=hp
 refine ⟨hd,?_⟩
 rintro ⟨⟨aI,ok0,⟨⟩⟩,⟨⟩⟩ ⟨e1,e2⟩
 have e1:ok0=Sp.aF d:=e1
 have e2:ok0=true→Sp.mO d aI:=e2
 refine ⟨fun _=>ok0=true∧Sp.aH (a,fs,nx,())=true,af (fun h=>?_) fun h=>⟨trivial,af (fun h2=>?_) fun h2=>⟨rfl,gQ h,gQ h2⟩⟩,?_⟩
 · have h:ok0=false:=jG h
   have hz:(Sp.aF d&&Sp.aH (a,fs,nx,()))=false:=by rw [← e1,h];rfl
   exact ⟨hz.symm,fun h=>by cases h⟩
 · have h2:Sp.aH (a,fs,nx,())=false:=jG h2
   have hz:(Sp.aF d&&Sp.aH (a,fs,nx,()))=false:=by rw [h2,Bool.and_false]
   exact ⟨hz.symm,fun h=>by cases h⟩
 rintro y3 ⟨hk,hst⟩
 have OY:Sp.aF d=true:=e1▸hk
 have hz:(Sp.aF d&&Sp.aH (a,fs,nx,()))=true:=by rw [OY,hst];rfl
 obtain ⟨hok,hlen⟩:=yJ OY
 have hl:Sp.mO d aI:=e2 hk
 have hf:=Sp.JZ hst
 have hf:Sp.distinct fs:=hf
 have hfs:fs.length≤1000:=hs.2.1
 refine eX (fun i (x:List Sp.eY)=>(((),i,()),x,())) (fun y=>y.1.2.1) (fun _ _=>rfl) d.length (by omega) (fun n l=>l=(d.take n).map (Sp.yF r (Sp.dY names))) rfl (fun I μ n l hn hJ next=>?_) fun I μ l hJ=>?_
 · subst hJ
   have hl:((d.take n).map (Sp.yF r (Sp.dY names))).length≤n:=by rw [List.length_map,List.length_take];omega
   have step:=asg (Sp.yF r (Sp.dY names)) II d hn
   dsimp only
   refine dW (by omega) ⟨⟨by omega,by omega⟩,trivial,af (fun h=>⟨hr,by rw [dS];simp only [List.length_cons,List.length_nil];omega,rfl,next _ ?_⟩) fun h=>⟨by rw [dS];simp only [List.length_cons,List.length_nil];omega,rfl,next _ ?_⟩⟩
   · rw [← step]
     have h:Sp.dY names (d.getD n II).1=false:=jG h
     unfold Sp.yF;rw [h];rfl
   · rw [← step]
     have h:Sp.dY names (d.getD n II).1=true:=gQ h
     unfold Sp.yF;rw [h];rfl
 subst hJ
 rw [List.take_length]
 dsimp only
 refine dX (by omega) ⟨fun y=>∃ k:Nat,y.1.2.1=k∧Sp.uM fs d r (Sp.dY names) aI k y.2.1,fun y=>(1002-y.1.2.1).toNat,⟨0,rfl,Sp.XL hok hl⟩,?_⟩
 rintro ⟨⟨ps,_,⟨⟩⟩,out,⟨⟩⟩ ⟨k,rfl,A⟩
 dsimp only at A ⊢
 refine ⟨hd,?_⟩
 rintro ⟨⟨m,⟨⟩⟩,⟨⟩⟩ ⟨m1,m2⟩
 have m1:m≤1000:=m1
 have m2:∀ i,i<d.length→Sp.lv aI i≤m:=m2 aI OY hl
 refine af (fun hc=>?_) fun hc=>⟨hz.symm,fun _=>Sp.at_end hok hl A fun i hi=>by have:=m2 i hi;have hc:¬ (k:Int)≤m:=jl hc;omega⟩
 have hc:(k:Int)≤m:=ji hc
 refine ⟨fun y=>Sp.uM fs d r (Sp.dY names) aI k y.2.1∧(y.1.2.1=false→∀ i,i<d.length→Sp.dY names (Sp.nameOf d i)=true→Sp.lv aI i=k→Sp.sel fs (Sp.fK d i) (Sp.bK y.2.1)=Sp.jS y.2.1 i),fun y=>Sp.room fs.length y.2.1*2+(if y.1.2.1=true then 1 else 0),⟨A,fun h=>by cases h⟩,?_⟩
 rintro ⟨⟨ps2,ch,⟨⟩⟩,amj,⟨⟩⟩ ⟨A2,st2⟩
 dsimp only at A2 st2 ⊢
 have wk:IntKind.i64.wrap ((k:Int)+1)=((k+1:Nat):Int):=iL _ (by omega)
 refine af (fun hch=>?_) fun hch=>⟨rfl,⟨k+1,wk,Sp.at_next hok A2 (st2 hch)⟩,by rw [wk];omega⟩
 subst hch
 refine eX (fun i (x:Bool×List Sp.eY)=>((x.1,i,()),x.2,())) (fun y=>y.1.2.1) (fun _ _=>rfl) d.length (by omega) (fun i x=>Sp.Xu fs d r (Sp.dY names) aI k amj i x.1 x.2) (s0:=(false,amj)) ⟨A2,fun h=>(by cases h),fun _=>⟨rfl,fun j hj=>by omega⟩⟩ (fun I μ i x hi hJ next=>?_) fun I μ x hJ=>?_
 · obtain ⟨c,Qx⟩:=x
   have A3:=hJ.1
   have ol:Qx.length=d.length:=A3.order.1
   have hsm:=Sp.ad7 A3 (by omega) hfs hr
   dsimp only
   rw [Int.toNat_natCast]
   refine dW (by omega) ⟨⟨by omega,by omega⟩,⟨by omega,by rw [hl.1];omega⟩,af (fun h=>⟨rfl,next (c,Qx) (Sp.Kz hJ fun _ h'=>?_)⟩) fun h=>⟨trivial,af (fun h2=>⟨rfl,next (c,Qx) (Sp.Kz hJ fun h'=>?_)⟩) fun h2=>⟨⟨hs,vN hd hi,hsm⟩,⟨by omega,by omega⟩,by omega,trivial,af (fun h3=>⟨⟨by omega,by omega⟩,by omega,rfl,next (true,_) (Sp.asl hok hl hf hJ hi (gQ h2) ?_ ?_)⟩) fun h3=>⟨rfl,next (c,Qx) (Sp.Kz hJ fun _ _=>?_)⟩⟩⟩⟩
   · exact (bne_iff_ne.1 h h').elim
   · have h2:Sp.dY names (Sp.nameOf d i)=false:=jG h2
     rw [h2] at h';cases h'
   · exact aBu h
   · exact jl (jG h3)
   · exact ji (gQ h3)
 · obtain ⟨c,Qx⟩:=x
   dsimp only
   obtain ⟨A3,c1,c2⟩:=hJ
   refine dX (by omega) ⟨rfl,⟨A3,fun hc=>still_at (c2 hc).2⟩,?_⟩
   cases c with
   |true=>have:=c1 rfl;dsimp only at this ⊢;simp only [if_true];omega
   |false=>have:=(c2 rfl).1;dsimp only at this ⊢;rw [this];simp
theorem amk:aG prog G DL FU:=by
 refine aml (aB (l:=[(nC, .pure lS),(qP, .pure rQ),(tC, .eff (ax nV) uz),(uV, .pure tZ),(oM, .pure nU),(iM, .pure iH),(oW, .eff (ax lH) nO)]) (au ah) (by simp only [List.forall_mem_cons];exact ⟨⟨Oa,LJ⟩,⟨WL,Vs⟩,⟨YB,WE⟩,⟨Xt,Vu⟩,⟨Qw,OU⟩,⟨yg,xg⟩,⟨Pg,N8⟩,fun x hx=>by cases hx⟩)) (fun ⟨(a,fs,nx,_),d,r,names,_⟩ _=>by obtain ⟨out,h⟩:=Iz (fs:=fs) (a:=a) (nx:=nx) (d:=d) r (Sp.dY names);exact ⟨(((out,(Sp.aF d&&Sp.aH (a,fs,nx,())),()),())),⟨rfl,h⟩⟩) ?_
 intro a fs nx d r names hin hp
 obtain ⟨hs,hd,hr⟩:Sp.bC (a,fs,nx,())∧Sp.aO d∧Sp.aZ r:=hp
 refine ⟨hd,?_⟩
 rintro ⟨⟨aI,ok0,⟨⟩⟩,⟨⟩⟩ ⟨e1,e2,_⟩
 have e1:ok0=Sp.aF d:=e1
 have e2:ok0=true→Sp.mO d aI:=e2
 refine ⟨fun _=>ok0=true∧Sp.aH (a,fs,nx,())=true,af (fun h=>?_) fun h=>⟨trivial,af (fun h2=>?_) fun h2=>⟨rfl,gQ h,gQ h2⟩⟩,?_⟩
 · have h:ok0=false:=jG h
   have hz:(Sp.aF d&&Sp.aH (a,fs,nx,()))=false:=by rw [← e1,h];rfl
   exact ⟨hz.symm,fun h=>by cases h⟩
 · have h2:Sp.aH (a,fs,nx,())=false:=jG h2
   have hz:(Sp.aF d&&Sp.aH (a,fs,nx,()))=false:=by rw [h2,Bool.and_false]
   exact ⟨hz.symm,fun h=>by cases h⟩
 rintro y3 ⟨hk,hst⟩
 have OY:Sp.aF d=true:=e1▸hk
 have hz:(Sp.aF d&&Sp.aH (a,fs,nx,()))=true:=by rw [OY,hst];rfl
 obtain ⟨hok,hlen⟩:=yJ OY
 have hl:Sp.mO d aI:=e2 hk
 have hf:=Sp.JZ hst
 have hf:Sp.distinct fs:=hf
 have hfs:fs.length≤1000:=hs.2.1
 refine eX (fun i (x:List Sp.eY)=>(((),i,()),x,())) (fun y=>y.1.2.1) (fun _ _=>rfl) d.length (by omega) (fun n l=>l=(d.take n).map (Sp.yF r (Sp.dY names))) rfl (fun I μ n l hn hJ next=>?_) fun I μ l hJ=>?_
 · subst hJ
   have hl:((d.take n).map (Sp.yF r (Sp.dY names))).length≤n:=by rw [List.length_map,List.length_take];omega
   have step:=asg (Sp.yF r (Sp.dY names)) II d hn
   dsimp only
   refine dW (by omega) ⟨⟨by omega,by omega⟩,⟨by omega,by omega⟩,hr,trivial,af (fun h=>⟨by rw [dS];simp only [List.length_cons,List.length_nil];omega,rfl,next _ ?_⟩) fun h=>⟨by rw [dS];simp only [List.length_cons,List.length_nil];omega,rfl,next _ ?_⟩⟩
   · rw [← step]
     have h:Sp.dY names (d.getD n II).1=true:=h
     unfold Sp.yF;rw [h];rfl
   · rw [← step]
     have h:Sp.dY names (d.getD n II).1=false:=h
     unfold Sp.yF;rw [h];rfl
 subst hJ
 rw [List.take_length]
 dsimp only
 refine dX (by omega) ⟨fun y=>∃ k:Nat,y.1.1=k∧Sp.uM fs d r (Sp.dY names) aI k y.2.1,fun y=>(1002-y.1.1).toNat,⟨0,rfl,Sp.XL hok hl⟩,?_⟩
 rintro ⟨⟨_,⟨⟩⟩,out,⟨⟩⟩ ⟨k,rfl,A⟩
 dsimp only at A ⊢
 refine ⟨hd,?_⟩
 rintro ⟨⟨m,⟨⟩⟩,⟨⟩⟩ ⟨m1,m2⟩
 have m1:m≤1000:=m1
 have m2:∀ i,i<d.length→Sp.lv aI i≤m:=m2 aI OY hl
 refine af (fun hc=>?_) fun hc=>⟨hz.symm,fun _=>Sp.at_end hok hl A fun i hi=>by have:=m2 i hi;have hc:¬ (k:Int)≤m:=jl hc;omega⟩
 have hc:(k:Int)≤m:=ji hc
 refine ⟨fun y=>Sp.uM fs d r (Sp.dY names) aI k y.2.1∧(y.1.1=false→∀ i,i<d.length→Sp.dY names (Sp.nameOf d i)=true→Sp.lv aI i=k→Sp.sel fs (Sp.fK d i) (Sp.bK y.2.1)=Sp.jS y.2.1 i),fun y=>Sp.room fs.length y.2.1*2+(if y.1.1=true then 1 else 0),⟨A,fun h=>by cases h⟩,?_⟩
 rintro ⟨⟨ch,⟨⟩⟩,amj,⟨⟩⟩ ⟨A2,st2⟩
 dsimp only at A2 st2 ⊢
 have wk:IntKind.i64.wrap ((k:Int)+1)=((k+1:Nat):Int):=iL _ (by omega)
 refine af (fun hch=>?_) fun hch=>⟨rfl,⟨k+1,wk,Sp.at_next hok A2 (st2 hch)⟩,by rw [wk];omega⟩
 subst hch
 refine eX (fun i (x:Bool×List Sp.eY)=>((x.1,i,()),x.2,())) (fun y=>y.1.2.1) (fun _ _=>rfl) d.length (by omega) (fun i x=>Sp.Xu fs d r (Sp.dY names) aI k amj i x.1 x.2) (s0:=(false,amj)) ⟨A2,fun h=>(by cases h),fun _=>⟨rfl,fun j hj=>by omega⟩⟩ (fun I μ i x hi hJ next=>?_) fun I μ x hJ=>?_
 · obtain ⟨c,Qx⟩:=x
   have A3:=hJ.1
   have ol:Qx.length=d.length:=A3.order.1
   have hsm:=Sp.ad7 A3 (by omega) hfs hr
   dsimp only
   rw [Int.toNat_natCast]
   refine dW (by omega) ⟨⟨by omega,by rw [hl.1];omega⟩,af (fun h=>⟨rfl,next (c,Qx) (Sp.Kz hJ fun _ h'=>?_)⟩) fun h=>⟨⟨by omega,by omega⟩,trivial,af (fun h2=>⟨rfl,next (c,Qx) (Sp.Kz hJ fun h'=>?_)⟩) fun h2=>⟨⟨by omega,by omega⟩,⟨hs,vN hd hi,hsm⟩,⟨by omega,by omega⟩,by omega,trivial,af (fun h3=>⟨⟨by omega,by omega⟩,by omega,rfl,next (true,_) (Sp.asl hok hl hf hJ hi (gQ h2) ?_ ?_)⟩) fun h3=>⟨rfl,next (c,Qx) (Sp.Kz hJ fun _ _=>?_)⟩⟩⟩⟩
   · exact (bne_iff_ne.1 h h').elim
   · have h2:Sp.dY names (Sp.nameOf d i)=false:=jG h2
     rw [h2] at h';cases h'
   · exact aBu h
   · exact jl (jG h3)
   · exact ji (gQ h3)
 · obtain ⟨c,Qx⟩:=x
   dsimp only
   obtain ⟨A3,c1,c2⟩:=hJ
   refine dX (by omega) ⟨rfl,⟨A3,fun hc=>still_at (c2 hc).2⟩,?_⟩
   cases c with
   |true=>have:=c1 rfl;dsimp only at this ⊢;simp only [if_true];omega
   |false=>have:=(c2 rfl).1;dsimp only at this ⊢;rw [this];simp
theorem ax3:aG prog G Me NV:=by
 refine ax4 (aB (l:=[(nC, .pure lS),(qP, .pure rQ),(tC, .eff (ax nV) uz),(iM, .pure iH),(oW, .eff (ax lH) nO)]) (au ah) (by simp only [List.forall_mem_cons];exact ⟨⟨Oa,LJ⟩,⟨WL,Vs⟩,⟨YB,WE⟩,⟨yg,xg⟩,⟨Pg,N8⟩,fun x hx=>by cases hx⟩)) (fun ⟨(a,fs,nx,_),d,_⟩ _=>by obtain ⟨out,h⟩:=Iz (fs:=fs) (a:=a) (nx:=nx) (d:=d) [] (fun _=>true);exact ⟨(((out,0,(Sp.aF d&&Sp.aH (a,fs,nx,())),()),())),⟨rfl,h⟩⟩) ?_
 intro a fs nx d hin hp
 obtain ⟨hs,hd⟩:Sp.bC (a,fs,nx,())∧Sp.aO d:=hp
 have hr:Sp.aZ []:=⟨by decide,fun x hx=>by cases hx⟩
 refine ⟨hd,?_⟩
 rintro ⟨⟨aI,ok0,⟨⟩⟩,⟨⟩⟩ ⟨e1,e2,_⟩
 have e1:ok0=Sp.aF d:=e1
 have e2:ok0=true→Sp.mO d aI:=e2
 refine ⟨fun _=>ok0=true∧Sp.aH (a,fs,nx,())=true,af (fun h=>?_) fun h=>⟨trivial,af (fun h2=>?_) fun h2=>⟨rfl,gQ h,gQ h2⟩⟩,?_⟩
 · have h:ok0=false:=jG h
   have hz:(Sp.aF d&&Sp.aH (a,fs,nx,()))=false:=by rw [← e1,h];rfl
   exact ⟨hz.symm,fun h=>by cases h⟩
 · have h2:Sp.aH (a,fs,nx,())=false:=jG h2
   have hz:(Sp.aF d&&Sp.aH (a,fs,nx,()))=false:=by rw [h2,Bool.and_false]
   exact ⟨hz.symm,fun h=>by cases h⟩
 rintro y3 ⟨hk,hst⟩
 have OY:Sp.aF d=true:=e1▸hk
 have hz:(Sp.aF d&&Sp.aH (a,fs,nx,()))=true:=by rw [OY,hst];rfl
 obtain ⟨hok,hlen⟩:=yJ OY
 have hl:Sp.mO d aI:=e2 hk
 have hf:=Sp.JZ hst
 have hf:Sp.distinct fs:=hf
 have hfs:fs.length≤1000:=hs.2.1
 refine eX (fun i (x:List Sp.eY)=>(((),i,()),x,())) (fun y=>y.1.2.1) (fun _ _=>rfl) d.length (by omega) (fun n l=>l=(d.take n).map (Sp.yF [] (fun _=>true))) rfl (fun I μ n l hn hJ next=>?_) fun I μ l hJ=>?_
 · subst hJ
   have hl:((d.take n).map (Sp.yF [] (fun _=>true))).length≤n:=by rw [List.length_map,List.length_take];omega
   have step:=asg (Sp.yF [] (fun _=>true)) II d hn
   dsimp only
   refine dW (by omega) ⟨⟨by omega,by omega⟩,by rw [dS];simp only [List.length_cons,List.length_nil];omega,rfl,next _ ?_⟩
   rw [← step];rfl
 subst hJ
 rw [List.take_length]
 dsimp only
 refine dX (by omega) ⟨fun y=>∃ k:Nat,y.1.2.1=k∧Sp.uM fs d [] (fun _=>true) aI k y.2.1,fun y=>(1002-y.1.2.1).toNat,⟨0,rfl,Sp.XL hok hl⟩,?_⟩
 rintro ⟨⟨ps,_,⟨⟩⟩,out,⟨⟩⟩ ⟨k,rfl,A⟩
 dsimp only at A ⊢
 refine ⟨hd,?_⟩
 rintro ⟨⟨m,⟨⟩⟩,⟨⟩⟩ ⟨m1,m2⟩
 have m1:m≤1000:=m1
 have m2:∀ i,i<d.length→Sp.lv aI i≤m:=m2 aI OY hl
 refine af (fun hc=>?_) fun hc=>⟨hz.symm,fun _=>Sp.at_end hok hl A fun i hi=>by have:=m2 i hi;have hc:¬ (k:Int)≤m:=jl hc;omega⟩
 have hc:(k:Int)≤m:=ji hc
 refine ⟨fun y=>Sp.uM fs d [] (fun _=>true) aI k y.2.1∧(y.1.2.1=false→∀ i,i<d.length→true=true→Sp.lv aI i=k→Sp.sel fs (Sp.fK d i) (Sp.bK y.2.1)=Sp.jS y.2.1 i),fun y=>Sp.room fs.length y.2.1*2+(if y.1.2.1=true then 1 else 0),⟨A,fun h=>by cases h⟩,?_⟩
 rintro ⟨⟨ps2,ch,⟨⟩⟩,amj,⟨⟩⟩ ⟨A2,st2⟩
 dsimp only at A2 st2 ⊢
 have wk:IntKind.i64.wrap ((k:Int)+1)=((k+1:Nat):Int):=iL _ (by omega)
 refine af (fun hch=>?_) fun hch=>⟨rfl,⟨k+1,wk,Sp.at_next hok A2 (st2 hch)⟩,by rw [wk];omega⟩
 subst hch
 refine eX (fun i (x:Bool×List Sp.eY)=>((x.1,i,()),x.2,())) (fun y=>y.1.2.1) (fun _ _=>rfl) d.length (by omega) (fun i x=>Sp.Xu fs d [] (fun _=>true) aI k amj i x.1 x.2) (s0:=(false,amj)) ⟨A2,fun h=>(by cases h),fun _=>⟨rfl,fun j hj=>by omega⟩⟩ (fun I μ i x hi hJ next=>?_) fun I μ x hJ=>?_
 · obtain ⟨c,Qx⟩:=x
   have A3:=hJ.1
   have ol:Qx.length=d.length:=A3.order.1
   have hsm:=Sp.ad7 A3 (by omega) hfs hr
   dsimp only
   rw [Int.toNat_natCast]
   refine dW (by omega) ⟨⟨by omega,by rw [hl.1];omega⟩,af (fun h=>⟨rfl,next (c,Qx) (Sp.Kz hJ fun _ h'=>?_)⟩) fun h=>⟨⟨by omega,by omega⟩,⟨hs,vN hd hi,hsm⟩,⟨by omega,by omega⟩,by omega,trivial,af (fun h3=>⟨⟨by omega,by omega⟩,by omega,rfl,next (true,_) (Sp.asl hok hl hf hJ hi rfl ?_ ?_)⟩) fun h3=>⟨rfl,next (c,Qx) (Sp.Kz hJ fun _ _=>?_)⟩⟩⟩
   · exact (bne_iff_ne.1 h h').elim
   · exact aBu h
   · exact jl (jG h3)
   · exact ji (gQ h3)
 · obtain ⟨c,Qx⟩:=x
   dsimp only
   obtain ⟨A3,c1,c2⟩:=hJ
   refine dX (by omega) ⟨rfl,⟨A3,fun hc=>still_at (nm:=fun _=>true) (c2 hc).2⟩,?_⟩
   cases c with
   |true=>have:=c1 rfl;dsimp only at this ⊢;simp only [if_true];omega
   |false=>have:=(c2 rfl).1;dsimp only at this ⊢;rw [this];simp
end Go.Proofs.Tryz
