import Derived.Test.YtlbkigkbmeckbaaGreatP15
import Derived.Test.YtlbkigkbmeckbaaGreatV7
import Derived.Test.YtlbkigkbmeckbaaGreatV5
namespace Go.Proofs.Tryz
open Go Go.Fw Go.IntWalk
theorem AP {fs:List Sp.aZ} {a:List Sp.fV} {nx:Int} {d:List Sp.aH} (r:List Sp.dn) (nm:Sp.Bytes→Bool):∃ out,(Sp.ax d&&Sp.aJ (a,fs,nx,()))=true→Sp.fH fs d r nm out:=by
 by_cases h:(Sp.ax d&&Sp.aJ (a,fs,nx,()))=true
 · rw [Bool.and_eq_true] at h
   obtain ⟨aC,hl⟩:=RV h.1
   obtain ⟨out,ho⟩:=Sp.SB r nm (Sp.mF.1 h.1).1 hl (Sp.xE h.2)
   exact ⟨out,fun _=>ho⟩
 · exact ⟨[],fun h'=>(h h').elim⟩
abbrev XP:Sp.aH:=([],[],())
theorem aqD {a b:Int} (h:(a !=b)=false):a=b:=by simpa using h
theorem ac7 {α β:Type} (g:α→β) (d:α) (l:List α) {n:Nat} (h:n<l.length):(l.take n).map g++[g (l.getD n d)]=(l.take (n+1)).map g:=by
 rw [Sp.take_succ' l n d h,List.map_append];rfl
theorem nV {d:List Sp.aH} (h:Sp.ax d=true):Sp.bJ d=true∧d.length≤5:=⟨(Sp.mF.1 h).1,Sp.RX (Sp.mF.1 h).1⟩
theorem still_at {d:List Sp.aH} {aC:List (Int×Unit)} {nm:Sp.Bytes→Bool} {fs:List Sp.aZ} {out:List Sp.dn} {k:Nat}
 (h:∀ j,j<d.length→j<d.length→nm (Sp.nameOf d j)=true→Sp.lv aC j=k→Sp.sel fs (Sp.dK d j) (Sp.aY out)=Sp.iw out j):∀ i,i<d.length→nm (Sp.nameOf d i)=true→Sp.lv aC i=k→Sp.sel fs (Sp.dK d i) (Sp.aY out)=Sp.iw out i:=fun i hi=>h i hi hi
theorem ame:∀ (l:List (Int×Unit)),0<l.length→∃ m:Int,(∀ x∈l,x.1≤m)∧(m,())∈l
 |[x],_=>⟨x.1,fun y hy=>by rw [List.mem_singleton.1 hy];exact Int.le_refl _,List.mem_singleton.2 rfl⟩
 |x::y::r,_=>by
  obtain ⟨m,h1,h2⟩:=ame (y::r) (by simp)
  by_cases h:x.1≤m
  · exact ⟨m,fun z hz=>by rcases List.mem_cons.1 hz with rfl|hz;exact h;exact h1 z hz,List.mem_cons_of_mem _ h2⟩
  · exact ⟨x.1,fun z hz=>by rcases List.mem_cons.1 hz with rfl|hz;exact Int.le_refl _;have:=h1 z hz;omega,List.mem_cons_self⟩
theorem Gt:ai prog G ql.e:=by
 refine U5 (ak ah ⟨afC,trivial⟩) ?_
 intro s0 fs nx q r hin hp
 dsimp only [ql] at hp ⊢
 obtain ⟨h1,h2,h3⟩:=hp
 have hl:fs.length≤1000:=h1.2.1
 obtain ⟨I,μ,g0,g1⟩:=ac6 (K:=fun z=>z=(Sp.sel fs q (Sp.aY r),())) (fun f=>Sp.mP q f (Sp.aY r)) (fun f:Sp.aZ=>(f.1,())) (0,0,false,0,[],()) fs (q,r,(s0,fs,nx,()),()) (A:=fun _=>q.length≤1000∧Sp.bg r) (fun _ _=>⟨h2,h3⟩) (by omega) rfl
 refine ⟨I,μ,g0,fun y hy=>?_⟩
 have h:=g1 y hy
 dsimp only at h ⊢
 revert h
 cases decide (y.1.2.1<(fs.length:Int)) with
 |false=>exact id
 |true=>
  rintro ⟨b,a,h⟩
  refine ⟨b,a,?_⟩
  revert h
  cases Sp.mP q (fs.getD (Int.toNat y.1.2.1) (0,0,false,0,[],())) (Sp.aY r) with
  |true=>exact fun h=>⟨b,h.1,rfl,h.2.2⟩
  |false=>exact fun h=>⟨rfl,h.2⟩
theorem Qa:ai prog G yD.e:=by
 refine aij (ak ah trivial) ?_
 intro l s hin hp
 dsimp only [yD] at hp ⊢
 exact asl (K:=fun r=>r=(Sp.eP l s,())) (fun x:List UInt8×Unit=>x.1==s) ([],()) l _ hin.1.1 rfl
theorem ac8:ai prog G yN.e:=by
 refine ac9 (ak ah trivial) ?_
 intro d hin hp
 dsimp only [yN] at hp ⊢
 exact aua (K:=fun r=>r=(Sp.kP d,())) (fun x:Sp.aH=>(x.1,())) ([],[],()) d _ (by have hp:d.length≤1000:=hp;omega) rfl
theorem SC:ai prog G sU.e:=by
 refine SE (ak ah ⟨BU,trivial⟩) ?_
 intro a b hin hp
 dsimp only [sU] at hp ⊢
 have hlen:a.length≤maxLen:=hin.1.1
 rw [maxLen_eq] at hlen
 refine af (fun h=>?_) fun h=>?_
 · have h:(a.length:Int)≠b.length:=by simpa using h
   exact congrArg (·,()) (decide_eq_false fun e=>h (by rw [e])).symm
 · have h:(a.length:Int)=b.length:=by simpa using h
   refine iV a.length hlen (fun n=>∀ i,i<n→a.getD i oQ=b.getD i oQ) (fun i hi=>by omega) (fun I μ n hn hJ next=>?_) fun I μ hJ=>(by dsimp only;exact dD (by omega) (by rw [decide_eq_true (LC (by omega) hJ)]))
   dsimp only
   have no:a.getD n oQ≠b.getD n oQ→(false,())=(decide (a=b),()):=fun hne=>by rw [decide_eq_false fun e=>hne (by rw [e])]
   refine dB (by omega) ⟨⟨by omega,by omega⟩,⟨by omega,by omega⟩,af (fun g=>no fun e=>?_) fun g=>⟨⟨by omega,by omega⟩,⟨by omega,by omega⟩,trivial,af (fun g2=>no fun e=>?_) fun g2=>⟨rfl,next fun i hi=>?_⟩⟩⟩
   · have g:¬ (a.getD n oQ).1=(b.getD n oQ).1:=beq_eq_false_iff_ne.1 (fQ g)
     exact g (by rw [e])
   · have g2:¬ (a.getD n oQ).2.1=(b.getD n oQ).2.1:=fP (fQ g2)
     exact g2 (by rw [e])
   · rcases Nat.lt_or_ge i n with h'|h'
     · exact hJ i h'
     · have:i=n:=by omega
       subst this
       have g:(a.getD i oQ).1=(b.getD i oQ).1:=beq_iff_eq.1 (dH g)
       have g2:(a.getD i oQ).2.1=(b.getD i oQ).2.1:=fD (dH g2)
       exact Prod.ext g (Prod.ext g2 rfl)
theorem aai:ai prog G oZ.e:=by
 refine aaj (ak ah trivial) (fun ⟨l,_⟩ hp=>by obtain ⟨m,h⟩:=ame l hp;exact ⟨((m,()),()),h⟩) ?_
 intro l hin hp
 dsimp only [oZ] at hp ⊢
 have hp:0<l.length:=hp
 have hlen:l.length≤maxLen:=hin.1.1
 rw [maxLen_eq] at hlen
 refine ⟨fun _=>True,af (fun h=>by have:=fD h;omega) fun h=>⟨rfl,trivial⟩,fun _ _=>⟨⟨by omega,by omega⟩,?_⟩⟩
 refine ⟨fun y=>∃ n:Nat,y.1.2.1=n∧1≤n∧n≤l.length∧(∀ i,i<n→Sp.lv l i≤y.1.1)∧∃ i,i<l.length∧Sp.lv l i=y.1.1,fun y=>((l.length:Int)-y.1.2.1).toNat,⟨1,rfl,by omega,by omega,fun i hi=>by rw [show i=0 by omega];exact Int.le_refl _,0,hp,rfl⟩,?_⟩
 rintro ⟨⟨m,_,⟨⟩⟩,⟨⟩⟩ ⟨n,rfl,n1,n2,h1,h2⟩
 dsimp only at h1 h2 ⊢
 refine af (fun hc=>?_) fun hc=>⟨fun x hx=>?_,?_⟩
 · have hc:=fD hc
   have w:IntKind.i64.wrap ((n:Int)+1)=((n+1:Nat):Int):=fC _ (by omega)
   rw [w]
   have e:(l.getD (Int.toNat (n:Int)) (0,())).1=Sp.lv l n:=rfl
   rw [e]
   refine ⟨⟨by omega,by omega⟩,rfl,⟨n+1,rfl,by omega,by omega,fun i hi=>?_,?_⟩,by omega⟩
   · by_cases hi':i=n
     · subst hi';split<;>omega
     · have:=h1 i (by omega);split<;>omega
   · split
     · exact ⟨n,by omega,rfl⟩
     · exact h2
 · have hc:=fP hc
   exact Sp.al9 (p:=fun z=>z≤m) (fun i hi=>h1 i (by omega)) x hx
 · obtain ⟨i,hi,e⟩:=h2
   have:=Sp.XQ hi
   rw [e] at this;exact this
theorem XR:ai prog G mQ.e:=by
 refine XT (ak ah ⟨aai,GU,trivial⟩) (fun ⟨d,_⟩ _=>⟨(((1000:Int),()),()),⟨Int.le_refl _,fun aC hs hl i hi=>by have:=(hl.2.1 i hi).2;have:=(nV hs).2;show Sp.lv aC i≤1000;omega⟩⟩) ?_
 intro d hin hp
 dsimp only [mQ] at hp ⊢
 refine ⟨hp,?_⟩
 rintro ⟨⟨aC,ok,⟨⟩⟩,⟨⟩⟩ ⟨e1,e2⟩
 have e1:ok=Sp.ax d:=e1
 have e2:ok=true→Sp.jE d aC:=e2
 refine af (fun h=>?_) fun h=>af (fun h2=>?_) fun h2=>⟨?_,?_⟩
 · have h:ok=false:=fQ h
   exact ⟨by decide,fun l hs=>by rw [← e1,h] at hs;cases hs⟩
 · have h2:(aC.length:Int)=0:=by simpa using h2
   have hl:=e2 (dH h)
   exact ⟨by decide,fun l hs hl' i hi=>by have:=hl.1;omega⟩
 · have h2:¬ (aC.length:Int)=0:=by simpa using h2
   show 0<aC.length
   omega
 · rintro ⟨⟨m,⟨⟩⟩,⟨⟩⟩ ⟨g1,g2⟩
   have hl:=e2 (dH h)
   have hlen:=(nV (e1▸dH h)).2
   have g2:(m,())∈aC:=g2
   refine ⟨?_,fun l hs hl' i hi=>?_⟩
   · obtain ⟨i,hi,e⟩:=List.getElem_of_mem g2
     have hi':i<d.length:=by rw [← hl.1];exact hi
     have:=(hl.2.1 i hi').2
     have e3:Sp.lv aC i=m:=by
      unfold Sp.lv
      rw [List.getD_eq_getElem?_getD,List.getElem?_eq_getElem hi,e];rfl
     show m≤1000
     omega
   · rw [Sp.XU hl' hl]
     exact g1 _ (Sp.XQ (by rw [hl.1];exact hi))
theorem Il:ai prog G kD.e:=by
 refine XV (ak ah ⟨Dh,trivial⟩) (fun ⟨d,_⟩ _=>⟨(((1000:Int),()),()),⟨Int.le_refl _,fun aC hs hl i hi=>by have:=(hl.2.1 i hi).2;have:=(nV hs).2;show Sp.lv aC i≤1000;omega⟩⟩) ?_
 intro d hin hp
 dsimp only [kD] at hp ⊢
 refine ⟨hp,?_⟩
 rintro ⟨⟨aC,ok,⟨⟩⟩,⟨⟩⟩ ⟨e1,e2,e3⟩
 have e1:ok=Sp.ax d:=e1
 have e2:ok=true→Sp.jE d aC:=e2
 have e3:ok=false→aC=[]:=e3
 have hlen:aC.length≤5∧∀ i,i<aC.length→Sp.lv aC i≤1000:=by
  cases hk:ok with
  |false=>rw [e3 hk];exact ⟨by decide,fun i hi=>by simp at hi⟩
  |true=>
   have hl:=e2 hk
   have h5:=(nV (e1▸hk)).2
   exact ⟨by rw [hl.1];exact h5,fun i hi=>by have:=(hl.2.1 i (by rw [← hl.1];exact hi)).2;omega⟩
 refine ⟨fun y=>∃ n:Nat,y.1.2.1=n∧n≤aC.length∧y.1.1≤1000∧∀ i,i<n→Sp.lv aC i≤y.1.1,fun y=>((aC.length:Int)-y.1.2.1).toNat,⟨0,rfl,by omega,by decide,fun i hi=>by omega⟩,?_⟩
 rintro ⟨⟨m,_,⟨⟩⟩,⟨⟩⟩ ⟨n,rfl,n2,hm,h1⟩
 dsimp only at hm h1 ⊢
 have e:(aC.getD (Int.toNat (n:Int)) (0,())).1=Sp.lv aC n:=rfl
 rw [e]
 refine af (fun hc=>?_) fun hc=>?_
 · have hc:=fD hc
   have w:IntKind.i64.wrap ((n:Int)+1)=((n+1:Nat):Int):=fC _ (by omega)
   rw [w]
   have as4:=hlen.2 n (by omega)
   refine ⟨⟨by omega,by omega⟩,af (fun g=>⟨⟨by omega,by omega⟩,rfl,⟨n+1,rfl,by omega,as4,fun i hi=>?_⟩,by omega⟩) fun g=>⟨rfl,⟨n+1,rfl,by omega,hm,fun i hi=>?_⟩,by omega⟩⟩
   · have g:=fD g
     by_cases hi':i=n
     · subst hi';exact Int.le_refl _
     · have:=h1 i (by omega);omega
   · have g:=fP g
     by_cases hi':i=n
     · subst hi';omega
     · exact h1 i (by omega)
 · have hc:=fP hc
   refine ⟨hm,fun l hs hl' i hi=>?_⟩
   have hl:=e2 (e1.trans hs)
   rw [Sp.XU hl' hl]
   exact h1 i (by rw [← hl.1] at hi;omega)
theorem I9:ai prog G lI.e:=by
 refine aak (ak ah ⟨Gs,U2,XR,Dw,wW,RS,GU,trivial⟩) (fun ⟨(a,fs,nx,_),d,r,names,_⟩ _=>by obtain ⟨out,h⟩:=AP (fs:=fs) (a:=a) (nx:=nx) (d:=d) r (Sp.eP names);exact ⟨(((out,0,(Sp.ax d&&Sp.aJ (a,fs,nx,())),()),())),⟨rfl,h⟩⟩) ?_
 intro a fs nx d r names hin hp
 dsimp only [lI] at hp ⊢
 obtain ⟨hs,hd,hr⟩:Sp.bQ (a,fs,nx,())∧Sp.aB d∧Sp.bg r:=hp
 refine ⟨hd,?_⟩
 rintro ⟨⟨aC,ok0,⟨⟩⟩,⟨⟩⟩ ⟨e1,e2⟩
 have e1:ok0=Sp.ax d:=e1
 have e2:ok0=true→Sp.jE d aC:=e2
 refine ⟨fun _=>ok0=true∧Sp.aJ (a,fs,nx,())=true,af (fun h=>?_) fun h=>⟨trivial,af (fun h2=>?_) fun h2=>⟨rfl,dH h,dH h2⟩⟩,?_⟩
 · have h:ok0=false:=fQ h
   have hz:(Sp.ax d&&Sp.aJ (a,fs,nx,()))=false:=by rw [← e1,h];rfl
   exact ⟨hz.symm,fun h=>by cases h⟩
 · have h2:Sp.aJ (a,fs,nx,())=false:=fQ h2
   have hz:(Sp.ax d&&Sp.aJ (a,fs,nx,()))=false:=by rw [h2,Bool.and_false]
   exact ⟨hz.symm,fun h=>by cases h⟩
 rintro y3 ⟨hk,hst⟩
 have CO:Sp.ax d=true:=e1▸hk
 have hz:(Sp.ax d&&Sp.aJ (a,fs,nx,()))=true:=by rw [CO,hst];rfl
 obtain ⟨hok,hlen⟩:=nV CO
 have hl:Sp.jE d aC:=e2 hk
 have hf:=Sp.xE hst
 have hf:Sp.distinct fs:=hf
 have hfs:fs.length≤1000:=hs.2.1
 refine dR (fun i (x:List Sp.dn)=>(((),i,()),x,())) (fun y=>y.1.2.1) (fun _ _=>rfl) d.length (by omega) (fun n l=>l=(d.take n).map (Sp.rO r (Sp.eP names))) rfl (fun I μ n l hn hJ next=>?_) fun I μ l hJ=>?_
 · subst hJ
   have hl:((d.take n).map (Sp.rO r (Sp.eP names))).length≤n:=by rw [List.length_map,List.length_take];omega
   have step:=ac7 (Sp.rO r (Sp.eP names)) XP d hn
   dsimp only
   refine dB (by omega) ⟨⟨by omega,by omega⟩,trivial,af (fun h=>⟨hr,by rw [bV];simp only [List.length_cons,List.length_nil];omega,rfl,next _ ?_⟩) fun h=>⟨by rw [bV];simp only [List.length_cons,List.length_nil];omega,rfl,next _ ?_⟩⟩
   · rw [← step]
     have h:Sp.eP names (d.getD n XP).1=false:=fQ h
     unfold Sp.rO;rw [h];rfl
   · rw [← step]
     have h:Sp.eP names (d.getD n XP).1=true:=dH h
     unfold Sp.rO;rw [h];rfl
 subst hJ
 rw [List.take_length]
 dsimp only
 refine dD (by omega) ⟨fun y=>∃ k:Nat,y.1.2.1=k∧Sp.oq fs d r (Sp.eP names) aC k y.2.1,fun y=>(1002-y.1.2.1).toNat,⟨0,rfl,Sp.Ht hok hl⟩,?_⟩
 rintro ⟨⟨ps,_,⟨⟩⟩,out,⟨⟩⟩ ⟨k,rfl,A⟩
 dsimp only at A ⊢
 refine ⟨hd,?_⟩
 rintro ⟨⟨m,⟨⟩⟩,⟨⟩⟩ ⟨m1,m2⟩
 have m1:m≤1000:=m1
 have m2:∀ i,i<d.length→Sp.lv aC i≤m:=m2 aC CO hl
 refine af (fun hc=>?_) fun hc=>⟨hz.symm,fun _=>Sp.at_end hok hl A fun i hi=>by have:=m2 i hi;have hc:¬ (k:Int)≤m:=fP hc;omega⟩
 have hc:(k:Int)≤m:=fD hc
 refine ⟨fun y=>Sp.oq fs d r (Sp.eP names) aC k y.2.1∧(y.1.2.1=false→∀ i,i<d.length→Sp.eP names (Sp.nameOf d i)=true→Sp.lv aC i=k→Sp.sel fs (Sp.dK d i) (Sp.aY y.2.1)=Sp.iw y.2.1 i),fun y=>Sp.room fs.length y.2.1*2+(if y.1.2.1=true then 1 else 0),⟨A,fun h=>by cases h⟩,?_⟩
 rintro ⟨⟨ps2,ch,⟨⟩⟩,XW,⟨⟩⟩ ⟨A2,st2⟩
 dsimp only at A2 st2 ⊢
 have wk:IntKind.i64.wrap ((k:Int)+1)=((k+1:Nat):Int):=fC _ (by omega)
 refine af (fun hch=>?_) fun hch=>⟨rfl,⟨k+1,wk,Sp.at_next hok A2 (st2 hch)⟩,by rw [wk];omega⟩
 subst hch
 refine dR (fun i (x:Bool×List Sp.dn)=>((x.1,i,()),x.2,())) (fun y=>y.1.2.1) (fun _ _=>rfl) d.length (by omega) (fun i x=>Sp.GV fs d r (Sp.eP names) aC k XW i x.1 x.2) (s0:=(false,XW)) ⟨A2,fun h=>(by cases h),fun _=>⟨rfl,fun j hj=>by omega⟩⟩ (fun I μ i x hi hJ next=>?_) fun I μ x hJ=>?_
 · obtain ⟨c,Dy⟩:=x
   have A3:=hJ.1
   have ol:Dy.length=d.length:=A3.order.1
   have hsm:=Sp.OB A3 (by omega) hfs hr
   dsimp only
   rw [Int.toNat_natCast]
   refine dB (by omega) ⟨⟨by omega,by omega⟩,⟨by omega,by rw [hl.1];omega⟩,af (fun h=>⟨rfl,next (c,Dy) (Sp.Ai hJ fun _ h'=>?_)⟩) fun h=>⟨trivial,af (fun h2=>⟨rfl,next (c,Dy) (Sp.Ai hJ fun h'=>?_)⟩) fun h2=>⟨⟨hs,rD hd hi,hsm⟩,⟨by omega,by omega⟩,by omega,trivial,af (fun h3=>⟨⟨by omega,by omega⟩,by omega,rfl,next (true,_) (Sp.ada hok hl hf hJ hi (dH h2) ?_ ?_)⟩) fun h3=>⟨rfl,next (c,Dy) (Sp.Ai hJ fun _ _=>?_)⟩⟩⟩⟩
   · exact (bne_iff_ne.1 h h').elim
   · have h2:Sp.eP names (Sp.nameOf d i)=false:=fQ h2
     rw [h2] at h';cases h'
   · exact aqD h
   · exact fP (fQ h3)
   · exact fD (dH h3)
 · obtain ⟨c,Dy⟩:=x
   dsimp only
   obtain ⟨A3,c1,c2⟩:=hJ
   refine dD (by omega) ⟨rfl,⟨A3,fun hc=>still_at (c2 hc).2⟩,?_⟩
   cases c with
   |true=>have:=c1 rfl;dsimp only at this ⊢;simp only [if_true];omega
   |false=>have:=(c2 rfl).1;dsimp only at this ⊢;rw [this];simp
theorem XY:ai prog G mW.e:=by
 refine XZ (ak ah ⟨BU,Gt,Il,Qa,Dx,wU,Dh,trivial⟩) (fun ⟨(a,fs,nx,_),d,r,names,_⟩ _=>by obtain ⟨out,h⟩:=AP (fs:=fs) (a:=a) (nx:=nx) (d:=d) r (Sp.eP names);exact ⟨(((out,(Sp.ax d&&Sp.aJ (a,fs,nx,())),()),())),⟨rfl,h⟩⟩) ?_
 intro a fs nx d r names hin hp
 dsimp only [mW] at hp ⊢
 obtain ⟨hs,hd,hr⟩:Sp.bQ (a,fs,nx,())∧Sp.aB d∧Sp.bg r:=hp
 refine ⟨hd,?_⟩
 rintro ⟨⟨aC,ok0,⟨⟩⟩,⟨⟩⟩ ⟨e1,e2,_⟩
 have e1:ok0=Sp.ax d:=e1
 have e2:ok0=true→Sp.jE d aC:=e2
 refine ⟨fun _=>ok0=true∧Sp.aJ (a,fs,nx,())=true,af (fun h=>?_) fun h=>⟨trivial,af (fun h2=>?_) fun h2=>⟨rfl,dH h,dH h2⟩⟩,?_⟩
 · have h:ok0=false:=fQ h
   have hz:(Sp.ax d&&Sp.aJ (a,fs,nx,()))=false:=by rw [← e1,h];rfl
   exact ⟨hz.symm,fun h=>by cases h⟩
 · have h2:Sp.aJ (a,fs,nx,())=false:=fQ h2
   have hz:(Sp.ax d&&Sp.aJ (a,fs,nx,()))=false:=by rw [h2,Bool.and_false]
   exact ⟨hz.symm,fun h=>by cases h⟩
 rintro y3 ⟨hk,hst⟩
 have CO:Sp.ax d=true:=e1▸hk
 have hz:(Sp.ax d&&Sp.aJ (a,fs,nx,()))=true:=by rw [CO,hst];rfl
 obtain ⟨hok,hlen⟩:=nV CO
 have hl:Sp.jE d aC:=e2 hk
 have hf:=Sp.xE hst
 have hf:Sp.distinct fs:=hf
 have hfs:fs.length≤1000:=hs.2.1
 refine dR (fun i (x:List Sp.dn)=>(((),i,()),x,())) (fun y=>y.1.2.1) (fun _ _=>rfl) d.length (by omega) (fun n l=>l=(d.take n).map (Sp.rO r (Sp.eP names))) rfl (fun I μ n l hn hJ next=>?_) fun I μ l hJ=>?_
 · subst hJ
   have hl:((d.take n).map (Sp.rO r (Sp.eP names))).length≤n:=by rw [List.length_map,List.length_take];omega
   have step:=ac7 (Sp.rO r (Sp.eP names)) XP d hn
   dsimp only
   refine dB (by omega) ⟨⟨by omega,by omega⟩,⟨by omega,by omega⟩,hr,trivial,af (fun h=>⟨by rw [bV];simp only [List.length_cons,List.length_nil];omega,rfl,next _ ?_⟩) fun h=>⟨by rw [bV];simp only [List.length_cons,List.length_nil];omega,rfl,next _ ?_⟩⟩
   · rw [← step]
     have h:Sp.eP names (d.getD n XP).1=true:=h
     unfold Sp.rO;rw [h];rfl
   · rw [← step]
     have h:Sp.eP names (d.getD n XP).1=false:=h
     unfold Sp.rO;rw [h];rfl
 subst hJ
 rw [List.take_length]
 dsimp only
 refine dD (by omega) ⟨fun y=>∃ k:Nat,y.1.1=k∧Sp.oq fs d r (Sp.eP names) aC k y.2.1,fun y=>(1002-y.1.1).toNat,⟨0,rfl,Sp.Ht hok hl⟩,?_⟩
 rintro ⟨⟨_,⟨⟩⟩,out,⟨⟩⟩ ⟨k,rfl,A⟩
 dsimp only at A ⊢
 refine ⟨hd,?_⟩
 rintro ⟨⟨m,⟨⟩⟩,⟨⟩⟩ ⟨m1,m2⟩
 have m1:m≤1000:=m1
 have m2:∀ i,i<d.length→Sp.lv aC i≤m:=m2 aC CO hl
 refine af (fun hc=>?_) fun hc=>⟨hz.symm,fun _=>Sp.at_end hok hl A fun i hi=>by have:=m2 i hi;have hc:¬ (k:Int)≤m:=fP hc;omega⟩
 have hc:(k:Int)≤m:=fD hc
 refine ⟨fun y=>Sp.oq fs d r (Sp.eP names) aC k y.2.1∧(y.1.1=false→∀ i,i<d.length→Sp.eP names (Sp.nameOf d i)=true→Sp.lv aC i=k→Sp.sel fs (Sp.dK d i) (Sp.aY y.2.1)=Sp.iw y.2.1 i),fun y=>Sp.room fs.length y.2.1*2+(if y.1.1=true then 1 else 0),⟨A,fun h=>by cases h⟩,?_⟩
 rintro ⟨⟨ch,⟨⟩⟩,XW,⟨⟩⟩ ⟨A2,st2⟩
 dsimp only at A2 st2 ⊢
 have wk:IntKind.i64.wrap ((k:Int)+1)=((k+1:Nat):Int):=fC _ (by omega)
 refine af (fun hch=>?_) fun hch=>⟨rfl,⟨k+1,wk,Sp.at_next hok A2 (st2 hch)⟩,by rw [wk];omega⟩
 subst hch
 refine dR (fun i (x:Bool×List Sp.dn)=>((x.1,i,()),x.2,())) (fun y=>y.1.2.1) (fun _ _=>rfl) d.length (by omega) (fun i x=>Sp.GV fs d r (Sp.eP names) aC k XW i x.1 x.2) (s0:=(false,XW)) ⟨A2,fun h=>(by cases h),fun _=>⟨rfl,fun j hj=>by omega⟩⟩ (fun I μ i x hi hJ next=>?_) fun I μ x hJ=>?_
 · obtain ⟨c,Dy⟩:=x
   have A3:=hJ.1
   have ol:Dy.length=d.length:=A3.order.1
   have hsm:=Sp.OB A3 (by omega) hfs hr
   dsimp only
   rw [Int.toNat_natCast]
   refine dB (by omega) ⟨⟨by omega,by rw [hl.1];omega⟩,af (fun h=>⟨rfl,next (c,Dy) (Sp.Ai hJ fun _ h'=>?_)⟩) fun h=>⟨⟨by omega,by omega⟩,trivial,af (fun h2=>⟨rfl,next (c,Dy) (Sp.Ai hJ fun h'=>?_)⟩) fun h2=>⟨⟨by omega,by omega⟩,⟨hs,rD hd hi,hsm⟩,⟨by omega,by omega⟩,by omega,trivial,af (fun h3=>⟨⟨by omega,by omega⟩,by omega,rfl,next (true,_) (Sp.ada hok hl hf hJ hi (dH h2) ?_ ?_)⟩) fun h3=>⟨rfl,next (c,Dy) (Sp.Ai hJ fun _ _=>?_)⟩⟩⟩⟩
   · exact (bne_iff_ne.1 h h').elim
   · have h2:Sp.eP names (Sp.nameOf d i)=false:=fQ h2
     rw [h2] at h';cases h'
   · exact aqD h
   · exact fP (fQ h3)
   · exact fD (dH h3)
 · obtain ⟨c,Dy⟩:=x
   dsimp only
   obtain ⟨A3,c1,c2⟩:=hJ
   refine dD (by omega) ⟨rfl,⟨A3,fun hc=>still_at (c2 hc).2⟩,?_⟩
   cases c with
   |true=>have:=c1 rfl;dsimp only at this ⊢;simp only [if_true];omega
   |false=>have:=(c2 rfl).1;dsimp only at this ⊢;rw [this];simp
theorem aik:ai prog G vZ.e:=by
 refine ail (ak ah ⟨BU,Gt,Il,wU,Dh,trivial⟩) (fun ⟨(a,fs,nx,_),d,_⟩ _=>by obtain ⟨out,h⟩:=AP (fs:=fs) (a:=a) (nx:=nx) (d:=d) [] (fun _=>true);exact ⟨(((out,0,(Sp.ax d&&Sp.aJ (a,fs,nx,())),()),())),⟨rfl,h⟩⟩) ?_
 intro a fs nx d hin hp
 dsimp only [vZ] at hp ⊢
 obtain ⟨hs,hd⟩:Sp.bQ (a,fs,nx,())∧Sp.aB d:=hp
 have hr:Sp.bg []:=⟨by decide,fun x hx=>by cases hx⟩
 refine ⟨hd,?_⟩
 rintro ⟨⟨aC,ok0,⟨⟩⟩,⟨⟩⟩ ⟨e1,e2,_⟩
 have e1:ok0=Sp.ax d:=e1
 have e2:ok0=true→Sp.jE d aC:=e2
 refine ⟨fun _=>ok0=true∧Sp.aJ (a,fs,nx,())=true,af (fun h=>?_) fun h=>⟨trivial,af (fun h2=>?_) fun h2=>⟨rfl,dH h,dH h2⟩⟩,?_⟩
 · have h:ok0=false:=fQ h
   have hz:(Sp.ax d&&Sp.aJ (a,fs,nx,()))=false:=by rw [← e1,h];rfl
   exact ⟨hz.symm,fun h=>by cases h⟩
 · have h2:Sp.aJ (a,fs,nx,())=false:=fQ h2
   have hz:(Sp.ax d&&Sp.aJ (a,fs,nx,()))=false:=by rw [h2,Bool.and_false]
   exact ⟨hz.symm,fun h=>by cases h⟩
 rintro y3 ⟨hk,hst⟩
 have CO:Sp.ax d=true:=e1▸hk
 have hz:(Sp.ax d&&Sp.aJ (a,fs,nx,()))=true:=by rw [CO,hst];rfl
 obtain ⟨hok,hlen⟩:=nV CO
 have hl:Sp.jE d aC:=e2 hk
 have hf:=Sp.xE hst
 have hf:Sp.distinct fs:=hf
 have hfs:fs.length≤1000:=hs.2.1
 refine dR (fun i (x:List Sp.dn)=>(((),i,()),x,())) (fun y=>y.1.2.1) (fun _ _=>rfl) d.length (by omega) (fun n l=>l=(d.take n).map (Sp.rO [] (fun _=>true))) rfl (fun I μ n l hn hJ next=>?_) fun I μ l hJ=>?_
 · subst hJ
   have hl:((d.take n).map (Sp.rO [] (fun _=>true))).length≤n:=by rw [List.length_map,List.length_take];omega
   have step:=ac7 (Sp.rO [] (fun _=>true)) XP d hn
   dsimp only
   refine dB (by omega) ⟨⟨by omega,by omega⟩,by rw [bV];simp only [List.length_cons,List.length_nil];omega,rfl,next _ ?_⟩
   rw [← step];rfl
 subst hJ
 rw [List.take_length]
 dsimp only
 refine dD (by omega) ⟨fun y=>∃ k:Nat,y.1.2.1=k∧Sp.oq fs d [] (fun _=>true) aC k y.2.1,fun y=>(1002-y.1.2.1).toNat,⟨0,rfl,Sp.Ht hok hl⟩,?_⟩
 rintro ⟨⟨ps,_,⟨⟩⟩,out,⟨⟩⟩ ⟨k,rfl,A⟩
 dsimp only at A ⊢
 refine ⟨hd,?_⟩
 rintro ⟨⟨m,⟨⟩⟩,⟨⟩⟩ ⟨m1,m2⟩
 have m1:m≤1000:=m1
 have m2:∀ i,i<d.length→Sp.lv aC i≤m:=m2 aC CO hl
 refine af (fun hc=>?_) fun hc=>⟨hz.symm,fun _=>Sp.at_end hok hl A fun i hi=>by have:=m2 i hi;have hc:¬ (k:Int)≤m:=fP hc;omega⟩
 have hc:(k:Int)≤m:=fD hc
 refine ⟨fun y=>Sp.oq fs d [] (fun _=>true) aC k y.2.1∧(y.1.2.1=false→∀ i,i<d.length→true=true→Sp.lv aC i=k→Sp.sel fs (Sp.dK d i) (Sp.aY y.2.1)=Sp.iw y.2.1 i),fun y=>Sp.room fs.length y.2.1*2+(if y.1.2.1=true then 1 else 0),⟨A,fun h=>by cases h⟩,?_⟩
 rintro ⟨⟨ps2,ch,⟨⟩⟩,XW,⟨⟩⟩ ⟨A2,st2⟩
 dsimp only at A2 st2 ⊢
 have wk:IntKind.i64.wrap ((k:Int)+1)=((k+1:Nat):Int):=fC _ (by omega)
 refine af (fun hch=>?_) fun hch=>⟨rfl,⟨k+1,wk,Sp.at_next hok A2 (st2 hch)⟩,by rw [wk];omega⟩
 subst hch
 refine dR (fun i (x:Bool×List Sp.dn)=>((x.1,i,()),x.2,())) (fun y=>y.1.2.1) (fun _ _=>rfl) d.length (by omega) (fun i x=>Sp.GV fs d [] (fun _=>true) aC k XW i x.1 x.2) (s0:=(false,XW)) ⟨A2,fun h=>(by cases h),fun _=>⟨rfl,fun j hj=>by omega⟩⟩ (fun I μ i x hi hJ next=>?_) fun I μ x hJ=>?_
 · obtain ⟨c,Dy⟩:=x
   have A3:=hJ.1
   have ol:Dy.length=d.length:=A3.order.1
   have hsm:=Sp.OB A3 (by omega) hfs hr
   dsimp only
   rw [Int.toNat_natCast]
   refine dB (by omega) ⟨⟨by omega,by rw [hl.1];omega⟩,af (fun h=>⟨rfl,next (c,Dy) (Sp.Ai hJ fun _ h'=>?_)⟩) fun h=>⟨⟨by omega,by omega⟩,⟨hs,rD hd hi,hsm⟩,⟨by omega,by omega⟩,by omega,trivial,af (fun h3=>⟨⟨by omega,by omega⟩,by omega,rfl,next (true,_) (Sp.ada hok hl hf hJ hi rfl ?_ ?_)⟩) fun h3=>⟨rfl,next (c,Dy) (Sp.Ai hJ fun _ _=>?_)⟩⟩⟩
   · exact (bne_iff_ne.1 h h').elim
   · exact aqD h
   · exact fP (fQ h3)
   · exact fD (dH h3)
 · obtain ⟨c,Dy⟩:=x
   dsimp only
   obtain ⟨A3,c1,c2⟩:=hJ
   refine dD (by omega) ⟨rfl,⟨A3,fun hc=>still_at (nm:=fun _=>true) (c2 hc).2⟩,?_⟩
   cases c with
   |true=>have:=c1 rfl;dsimp only at this ⊢;simp only [if_true];omega
   |false=>have:=(c2 rfl).1;dsimp only at this ⊢;rw [this];simp
end Go.Proofs.Tryz
