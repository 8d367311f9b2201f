import Derived.Test.YtlbkigkbmeckbaaGreatP18
import Derived.Test.YtlbkigkbmeckbaaGreatV8
namespace Go.Proofs.Tryz
open Go Go.Fw Go.IntWalk
theorem EO:ai prog G qO.e:=by
 refine ab7 (aj ah ⟨Fq,trivial⟩) ?_
 intro x b hin hp
 dsimp only [qO] at hp ⊢
 exact ⟨trivial,rfl⟩
theorem Dc:ai prog G ig.e:=by
 refine Df (aj ah ⟨EO,trivial⟩) ?_
 intro l b hin hp
 dsimp only [ig] at hp ⊢
 exact ahr (K:=fun r=>r=(Sp.findAt (fun x:Int×Unit=>Sp.dw b x.1) l,())) (fun x:Int×Unit=>Sp.dw b x.1) (0,()) l _ hin.1.1 rfl
theorem CO:ai prog G eY.e:=by
 refine CP (aj ah ⟨Dc,EO,trivial⟩) (fun ⟨s,((b,_),_),_⟩ _=>⟨((s.filter (fun x=>!Sp.dw b x.1),()),()),rfl⟩) ?_
 intro s b hin hp
 dsimp only [eY] at hp ⊢
 exact ⟨trivial,atz (K:=fun r=>r.1.1=s.filter fun x=>!Sp.dw b x.1) (fun x:Int×Unit=>Sp.dw b x.1) (0,()) s _ (by have hp:s.length≤1000:=hp;omega) rfl⟩
theorem aht:ai prog G uT.e:=by
 refine ahu (aj ah ⟨CO,EO,Nl,trivial⟩) (fun ⟨a,b,_⟩ _=>⟨((Sp.without a b,()),()),rfl⟩) ?_
 intro a b hin hp
 dsimp only [uT] at hp ⊢
 have hp:a.length≤1000:=hp
 refine ⟨hp,?_⟩
 rintro ⟨⟨r0,⟨⟩⟩,⟨⟩⟩ e
 have e:r0=a:=e
 subst e
 exact ⟨hp,fun r h=>h⟩
theorem ahv:ai prog G uU.e:=by
 refine ahw (aj ah ⟨aht,trivial⟩) (fun ⟨a,b,_⟩ _=>⟨((Sp.without b a,Sp.without a b,()),()),⟨rfl,rfl⟩⟩) ?_
 intro a b hin hp
 dsimp only [uU] at hp ⊢
 exact ⟨hp.2,fun r0 h0=>⟨hp.1,fun r1 h1=>⟨h0,h1⟩⟩⟩
theorem P6 (a b:List (Int×Unit)):(Sp.without a b).length≤a.length:=List.length_filter_le _ _
theorem Ut {r:List Sp.dn} (h:Sp.bF r) (s:Sp.Bytes):(Sp.fM r s).length≤1000:=by
 have:∀ l:List Sp.dn,(∀ x∈l,x.2.1.length≤1000)→(Sp.fM l s).length≤1000:=by
  intro l
  induction l with
  |nil=>exact fun _=>Nat.zero_le _
  |cons x t ih=>
   intro hl
   rw [Sp.fM]
   cases x.1==s with
   |true=>exact hl x List.mem_cons_self
   |false=>exact ih fun y hy=>hl y (List.mem_cons_of_mem _ hy)
 exact this r h.2
theorem ahx (a b:List Sp.dn) {n:Nat} (h:n<b.length):((b.take (n+1)).map (Sp.jR a)).filter Sp.rX=((b.take n).map (Sp.jR a)).filter Sp.rX++(bif Sp.rX (Sp.jR a (b.getD n kZ)) then [Sp.jR a (b.getD n kZ)] else []):=by
 rw [Sp.take_succ' b n kZ h,List.map_append,List.filter_append,List.map_singleton,List.filter_cons]
 cases Sp.rX (Sp.jR a (b.getD n kZ))<;>rfl
theorem Wu:ai prog G nC.e:=by
 refine Wv (aj ah ⟨ahv,EK,trivial⟩) (fun ⟨a,b,_⟩ _=>⟨((Sp.wQ a b,()),()),rfl⟩) ?_
 intro a b hin hp
 dsimp only [nC] at hp ⊢
 obtain ⟨ha,hb⟩:Sp.bF a∧Sp.bF b:=hp
 have hbl:=hb.1
 refine dI (fun i (x:List Sp.tK)=>(((),i,()),x,())) (fun y=>y.1.2.1) (fun _ _=>rfl) b.length (by omega) (fun n l=>l=((b.take n).map (Sp.jR a)).filter Sp.rX) rfl (fun I μ n l hn hJ next=>?_) fun I μ l hJ=>?_
 · subst hJ
   have hl:(((b.take n).map (Sp.jR a)).filter Sp.rX).length≤n:=by
    have:=List.length_filter_le Sp.rX ((b.take n).map (Sp.jR a))
    rw [List.length_map,List.length_take] at this;omega
   have step:=ahx a b hn
   have l1:=Ut ha (b.getD n kZ).1
   have l2:(b.getD n kZ).2.1.length≤1000:=Gt hb hn
   dsimp only
   refine dh (by omega) ⟨⟨by omega,by omega⟩,ha,⟨l1,l2⟩,?_⟩
   rintro ⟨⟨x,y,⟨⟩⟩,⟨⟩⟩ ⟨e1,e2⟩
   have e1:x=Sp.without (b.getD n kZ).2.1 (Sp.fM a (b.getD n kZ).1):=e1
   have e2:y=Sp.without (Sp.fM a (b.getD n kZ).1) (b.getD n kZ).2.1:=e2
   have k1:=P6 (b.getD n kZ).2.1 (Sp.fM a (b.getD n kZ).1)
   have k2:=P6 (Sp.fM a (b.getD n kZ).1) (b.getD n kZ).2.1
   rw [← e1] at k1
   rw [← e2] at k2
   have w:IntKind.i64.wrap ((x.length:Int)+(y.length:Int))=((x.length+y.length:Nat):Int):=by rw [fO _ (by omega)];omega
   have hd:Sp.jR a (b.getD n kZ)=((b.getD n kZ).1,x,y,()):=by rw [e1,e2];rfl
   have hz:Sp.rX (Sp.jR a (b.getD n kZ))=decide (0<x.length+y.length):=by rw [hd];rfl
   dsimp only
   rw [w]
   refine af (fun h=>⟨by rw [bT];simp only [List.length_cons,List.length_nil];omega,rfl,next _ ?_⟩) fun h=>⟨rfl,next _ ?_⟩
   · have h:=gm h
     rw [step,hz,decide_eq_true (by omega),hd];rfl
   · have h:=gU h
     rw [step,hz,decide_eq_false (by omega)];simp
 · subst hJ
   rw [List.take_length]
   dsimp only
   exact dm (by omega) rfl
theorem Wx:ai prog G nG.e:=by
 refine Wy (aj ah ⟨Ie,trivial⟩) (fun ⟨r,_⟩ _=>⟨((r,()),()),rfl⟩) ?_
 intro r hin hp
 dsimp only [nG] at hp ⊢
 have hp:Sp.bF r:=hp
 have hl:=hp.1
 refine dI (fun i (x:List Sp.dn)=>(((),i,()),x,())) (fun y=>y.1.2.1) (fun _ _=>rfl) r.length (by omega) (fun n l=>l=r.take n) (by simp) (fun I μ n l hn hJ next=>?_) fun I μ l hJ=>?_
 · subst hJ
   have hl:(r.take n).length≤n:=by rw [List.length_take];omega
   dsimp only
   refine dh (by omega) ⟨⟨by omega,by omega⟩,Gt hp hn,by rw [bT];simp only [List.length_cons,List.length_nil];omega,rfl,next _ ?_⟩
   rw [Sp.take_succ' r n kZ hn];rfl
 · subst hJ
   rw [List.take_length]
   dsimp only
   exact dm (by omega) rfl
theorem Zr:ai prog G oO.e:=by
 refine Zt (aj ah trivial) (fun ⟨r,_⟩ _=>⟨((r,()),()),rfl⟩) ?_
 intro r hin hp
 dsimp only [oO] at hp ⊢
 have hp:Sp.bF r:=hp
 have hl:=hp.1
 refine dI (fun i (x:List Sp.dn)=>(((),i,()),x,())) (fun y=>y.1.2.1) (fun _ _=>rfl) r.length (by omega) (fun n l=>l=r.take n) (by simp) (fun I μ n l hn hJ next=>?_) fun I μ l hJ=>?_
 · subst hJ
   have hl:(r.take n).length≤n:=by rw [List.length_take];omega
   have h2:(r.getD n ([],[],())).2.1.length≤1000:=Gt hp hn
   dsimp only
   rw [Int.toNat_natCast]
   refine dh (by omega) ⟨⟨by omega,by omega⟩,⟨by omega,by omega⟩,by rw [bT];omega,by rw [bT];simp only [List.length_cons,List.length_nil];omega,rfl,next _ ?_⟩
   rw [Sp.take_succ' r n kZ hn]
 · subst hJ
   rw [List.take_length]
   dsimp only
   exact dm (by omega) rfl
theorem zC:ai prog G jb.e:=by
 refine WA (aj ah ⟨Wx,Nv,xX,trivial⟩) (fun ⟨(a,l,nx,d,r,_),_⟩ _=>⟨(((a,l,nx,d,r,()),()),()),rfl⟩) ?_
 intro a l nx d r hin hp
 dsimp only [jb] at hp ⊢
 obtain ⟨h1,h2,h3⟩:Sp.bI (a,l,nx,())∧Sp.aS d∧Sp.bF r:=hp
 refine ⟨h1,?_⟩
 rintro ⟨⟨⟨a',l',nx',⟨⟩⟩,⟨⟩⟩,⟨⟩⟩ e
 have e:((a',l',nx',()):Sp.bV)=(a,l,nx,()):=e
 refine ⟨h2,h3,?_⟩
 rintro ⟨⟨r',⟨⟩⟩,⟨⟩⟩ e2
 have e2:r'=r:=e2
 simp only [Prod.mk.injEq] at e
 obtain ⟨rfl,rfl,rfl,_⟩:=e
 subst e2
 rfl
theorem Hw:ai prog G nU.e:=by
 refine ahy (aj ah ⟨Zr,OX,Aa,trivial⟩) (fun ⟨(a,l,nx,d,r,_),_⟩ _=>⟨(((a,l,nx,d,r,()),()),()),rfl⟩) ?_
 intro a l nx d r hin hp
 dsimp only [nU] at hp ⊢
 obtain ⟨h1,h2,h3⟩:Sp.bI (a,l,nx,())∧Sp.aS d∧Sp.bF r:=hp
 refine ⟨h1,?_⟩
 rintro ⟨⟨⟨a',l',nx',⟨⟩⟩,⟨⟩⟩,⟨⟩⟩ e
 have e:((a',l',nx',()):Sp.bV)=(a,l,nx,()):=e
 refine ⟨h2,h3,?_⟩
 rintro ⟨⟨r',⟨⟩⟩,⟨⟩⟩ e2
 have e2:r'=r:=e2
 simp only [Prod.mk.injEq] at e
 obtain ⟨rfl,rfl,rfl,_⟩:=e
 subst e2
 rfl
theorem Jg {fs:List Sp.aN} {d:List Sp.aQ} {r out:List Sp.dn} {nm:Sp.Bytes→Bool} (h:Sp.gQ fs d r nm out) (hd:d.length≤1000) (hf:fs.length≤1000) (hr:Sp.bF r):Sp.bF out:=by
 refine ⟨by rw [h.order.1];exact hd,fun x hx=>?_⟩
 obtain ⟨i,hi,rfl⟩:=List.getElem_of_mem hx
 have hi':i<d.length:=by rw [← h.order.1];exact hi
 have e:(out[i]).2.1=Sp.eX out i:=by
  unfold Sp.eX Sp.jr
  rw [List.getD_eq_getElem?_getD,List.getElem?_eq_getElem hi];rfl
 rw [e]
 cases hn:nm (Sp.nameOf d i) with
 |true=>
  rw [h.fix i hi' hn]
  unfold Sp.sel
  rw [List.length_map]
  exact Nat.le_trans (List.length_filter_le _ _) hf
 |false=>rw [h.kept i hi' hn];exact Ut hr _
theorem ahz (c:Sp.jv) (s:Sp.bV) (d:List Sp.aQ) (nm:Sp.Bytes→Bool):∃ c' df,Sp.turned c s d nm c' df (Sp.aF d&&Sp.aB s):=by
 obtain ⟨a,fs,nx,_⟩:=s
 obtain ⟨out,h⟩:=Am (fs:=fs) (a:=a) (nx:=nx) (d:=d) (Sp.jH c) nm
 cases hk:(Sp.aF d&&Sp.aB (a,fs,nx,())) with
 |true=>exact ⟨(a,fs,nx,d,out,()),Sp.wQ (Sp.jH c) out,hk.symm,fun _=>⟨rfl,rfl,h hk,rfl⟩,fun h=>(by cases h)⟩
 |false=>exact ⟨c,[],hk.symm,fun h=>(by cases h),fun _=>⟨rfl,rfl⟩⟩
theorem EP:ai prog G kV.e:=by
 refine ab8 (aj ah ⟨Wu,Nv,xX,zC,Ze,trivial⟩) (fun ⟨c,s,d,names,_⟩ _=>by obtain ⟨c',df,h⟩:=ahz c s d (Sp.dF names);exact ⟨((((c'.1,c'.2.1,c'.2.2.1,c'.2.2.2.1,c'.2.2.2.2.1,()),df,(Sp.aF d&&Sp.aB s),()),())),h⟩) ?_
 intro a l nx d0 r0 sa sl sn d names hin hp
 dsimp only [kV] at hp ⊢
 obtain ⟨hc,hs,hd⟩:=hp
 have hr:Sp.bF r0:=hc.2.2
 refine ⟨⟨hs,hd,hr⟩,?_⟩
 rintro ⟨⟨out,ok,⟨⟩⟩,⟨⟩⟩ ⟨e1,e2⟩
 have e1:ok=(Sp.aF d&&Sp.aB (sa,sl,sn,())):=e1
 have e2:ok=true→Sp.gQ sl d r0 (Sp.dF names) out:=e2
 dsimp only
 refine af (fun h=>⟨hc,fun r1 hr1=>?_⟩) fun h=>⟨hs,?_⟩
 · have h:ok=false:=fV h
   exact ⟨e1▸h.symm,fun h=>(by cases h),fun _=>⟨hr1,rfl⟩⟩
 · have h:ok=true:=dO h
   rintro ⟨⟨s',⟨⟩⟩,⟨⟩⟩ es
   have es:s'=(sa,sl,sn,()):=es
   subst es
   refine ⟨hd,⟨hr,Jg (e2 h) hd.1 hs.2.1 hr⟩,fun r3 hr3=>⟨e1▸h.symm,fun _=>⟨rfl,rfl,e2 h,hr3⟩,fun h=>(by cases h)⟩⟩
theorem wF {c:Sp.jv} (h:Sp.dS c=true):Sp.aF (Sp.fF c)=true∧Sp.aB (Sp.bJ c)=true∧Sp.gQ c.2.1 (Sp.fF c) [] (fun _=>true) (Sp.jH c):=by
 have e:Sp.dS c=((Sp.aF (Sp.fF c)&&Sp.aB (Sp.bJ c))&&@decide (Sp.gQ c.2.1 (Sp.fF c) [] (fun _=>true) (Sp.jH c)) (Classical.propDecidable _)):=rfl
 rw [e,Bool.and_eq_true,Bool.and_eq_true] at h
 exact ⟨h.1.1,h.1.2,(@decide_eq_true_iff _ (Classical.propDecidable _)).1 h.2⟩
theorem ast {d:List Sp.aQ} {f g:Sp.aN} {s:Sp.Bytes}:Sp.aj9 d f g s=true↔Sp.Vm d f g s:=@decide_eq_true_iff _ (Classical.propDecidable _)
theorem apm {d:List Sp.aQ} {f g:Sp.aN} {r:Sp.LS} (h:Sp.isSet r (Sp.Vm d f g)) (s:Sp.Bytes):Sp.dF r s=Sp.aj9 d f g s:=by
 rw [Bool.eq_iff_iff,ast];exact h.2 s
theorem Uu {s:Sp.bV} {f:Sp.aN} (h:(Sp.aU s f).2=true):Sp.aB (Sp.aU s f).1=true:=by
 rcases Sp.jU s f with ⟨e,_⟩|⟨n,hn,h1,h2,h3,e⟩
 · rw [e] at h;cases h
 · exact Sp.OY f h2
theorem adq (c:Sp.jv) (f:Sp.aN):∃ c' df,Sp.updated c f c' df (Sp.dS c&&(Sp.aU (Sp.bJ c) f).2):=by
 cases hk:(Sp.dS c&&(Sp.aU (Sp.bJ c) f).2) with
 |false=>exact ⟨c,[],hk.symm,fun h=>(by cases h),fun _=>⟨rfl,rfl⟩⟩
 |true=>
  have hk':=hk
  rw [Bool.and_eq_true] at hk'
  obtain ⟨h1,h2,h3⟩:=wF hk'.1
  have hst:=Uu hk'.2
  rcases hs:(Sp.aU (Sp.bJ c) f).1 with ⟨a,fs,nx,u⟩
  rw [hs] at hst
  obtain ⟨out,h⟩:=Am (fs:=fs) (a:=a) (nx:=nx) (d:=Sp.fF c) (Sp.jH c) (Sp.aj9 (Sp.fF c) (Sp.eu (Sp.bJ c) f.1).1 f)
  refine ⟨(a,fs,nx,Sp.fF c,out,()),Sp.wQ (Sp.jH c) out,hk.symm,fun _=>⟨hs.symm,rfl,?_,rfl⟩,fun h=>(by cases h)⟩
  rw [hs]
  exact h (by rw [h1];exact hst)
theorem Zu:ai prog G oP.e:=by
 refine Zv (aj ah ⟨EP,Ur,aeN,zC,AL,Wn,trivial⟩) (fun ⟨c,f,_⟩ _=>by obtain ⟨c',df,h⟩:=adq c f;exact ⟨((((c'.1,c'.2.1,c'.2.2.1,c'.2.2.2.1,c'.2.2.2.2.1,()),df,(Sp.dS c&&(Sp.aU (Sp.bJ c) f).2),()),())),h⟩) ?_
 intro a l nx d r f0 f1 f2 f3 f4 hin hp
 dsimp only [oP] at hp ⊢
 obtain ⟨hc,hf,hhc,hhf⟩:=hp
 refine ⟨⟨hc.1,hf⟩,?_⟩
 rintro ⟨⟨⟨sa,sl,sn,⟨⟩⟩,ok,⟨⟩⟩,⟨⟩⟩ ⟨e1,e2,e3,e4⟩
 have es:((sa,sl,sn,()):Sp.bV)=(Sp.aU (a,l,nx,()) (f0,f1,f2,f3,f4,())).1:=Cj e1 e2 e3
 have e4:ok=(Sp.aU (a,l,nx,()) (f0,f1,f2,f3,f4,())).2:=e4
 have bad:∀ z:Sp.jv,(Sp.dS (a,l,nx,d,r,())&&(Sp.aU (a,l,nx,()) (f0,f1,f2,f3,f4,())).2)=false→z=(a,l,nx,d,r,())→Sp.updated (a,l,nx,d,r,()) (f0,f1,f2,f3,f4,()) z [] false:=fun z hz e=>⟨hz.symm,fun h=>(by cases h),fun _=>⟨e,rfl⟩⟩
 dsimp only
 refine af (fun h=>⟨hc,fun r1 hr1=>bad _ ?_ hr1⟩) fun h=>⟨hc,af (fun h2=>⟨hc,fun r1 hr1=>bad _ ?_ hr1⟩) fun h2=>⟨hc.1,?_⟩⟩
 · have h:ok=false:=fV h
   rw [← e4,h,Bool.and_false]
 · rw [fV h2];rfl
 have h:ok=true:=dO h
 have h2:=dO h2
 obtain ⟨hst,hok,hev⟩:=wF h2
 have hst:Sp.aF d=true:=hst
 have hlen:=(kN hst).2
 have hfind:Sp.bU (Sp.eu (a,l,nx,()) f0).1∧Sp.Ot (Sp.eu (a,l,nx,()) f0).1:=by
  rcases Sp.sG l f0 with ⟨h,_⟩|⟨n,hn,h,_,_⟩
  · have e:Sp.eu (a,l,nx,()) f0=(Sp.Zd,false):=by
     show (bif decide (Sp.place l f0<0) then _ else _)=_
     rw [h];rfl
    rw [e];exact ⟨Nat.zero_le _,Nat.zero_le _⟩
  · have e:Sp.eu (a,l,nx,()) f0=(Sp.fileAt l n,true):=by
     show (bif decide (Sp.place l f0<0) then _ else (Sp.fileAt l (Sp.place l f0).toNat,true))=_
     rw [h,decide_eq_false (by omega)];rfl
    rw [e]
    have hm:Sp.fileAt l n∈l:=getD_mem hn
    exact ⟨hc.1.2.2 _ hm,hhc _ hm⟩
 have hh:(Sp.eu (a,l,nx,()) f0).1.2.2.2.2.1.length≤500:=hfind.2
 have hh2:f4.length≤500:=hhf
 refine ⟨⟨hc.2.1,hlen,hfind.1,hf,by omega⟩,fun r10 asu=>⟨⟨hc,?_,hc.2.1⟩,fun r11 an0=>?_⟩⟩
 · rw [es];exact Sp.RN hc.1 hf
 · rw [es] at an0
   obtain ⟨g1,g2,g3⟩:=an0
   have hrep:(Sp.aU (a,l,nx,()) (f0,f1,f2,f3,f4,())).2=true:=e4▸h
   have hz:(Sp.aF d&&Sp.aB (Sp.aU (a,l,nx,()) (f0,f1,f2,f3,f4,())).1)=true:=by rw [hst,Uu hrep];rfl
   have aqo:r11.1.2.2.1=true:=g1.trans hz
   have hz2:(Sp.dS (a,l,nx,d,r,())&&(Sp.aU (a,l,nx,()) (f0,f1,f2,f3,f4,())).2)=true:=by rw [h2,hrep];rfl
   obtain ⟨k1,k2,k3,k4⟩:=g2 aqo
   refine ⟨aqo.trans hz2.symm,fun _=>⟨k1,k2,?_,k4⟩,fun hno=>by rw [aqo] at hno;cases hno⟩
   refine Sp.Jf k3 (fun i hi=>apm asu _) fun _ _ _=>rfl
theorem Nw:ai prog G wR.e:=by
 refine aeU (aj ah trivial) ?_
 intro a b hin hp
 dsimp only [wR] at hp ⊢
 exact eqL (K:=fun r=>r=(decide (a=b),())) (fun x y:Int×Unit=>x.1 !=y.1) (fun x y=>by simp [Prod.ext_iff]) _ a b _ hin.1.1 rfl
theorem Zw:ai prog G xR.e:=by
 refine Zx (aj ah ⟨Nw,trivial⟩) ?_
 intro a0 a1 b0 b1 hin hp
 dsimp only [xR] at hp ⊢
 refine af (fun h0=>⟨trivial,?_⟩) fun h0=>?_
 all_goals refine congrArg (·,()) (Bool.eq_iff_iff.2 ?_)
 · simp [beq_iff_eq.1 h0]
 · simp [show a0≠b0 by simpa using h0]
theorem Ii:ai prog G rJ.e:=by
 refine WB (aj ah ⟨Zw,trivial⟩) ?_
 intro a b hin hp
 dsimp only [rJ] at hp ⊢
 exact asr (K:=fun r=>r=(decide (a=b),())) (fun x y=>!decide (x=y)) (fun x y=>by simp) _ a b _ hin.1.1 rfl
theorem WC:ai prog G vV.e:=by
 refine WE (aj ah ⟨Ii,aeV,abK,trivial⟩) ?_
 intro a0 a1 a2 a3 a4 b0 b1 b2 b3 b4 hin hp
 dsimp only [vV] at hp ⊢
 refine ⟨trivial,af (fun h0=>⟨trivial,af (fun h1=>⟨trivial,?_⟩) fun h1=>?_⟩) fun h0=>?_⟩
 all_goals refine congrArg (·,()) (Bool.eq_iff_iff.2 ?_)
 · have h0:=gm h0
   have h1:=gm h1
   simp only [Prod.mk.injEq] at h0
   obtain ⟨rfl,rfl,rfl,_⟩:=h0
   subst h1
   simp
 · have h1:=gU h1
   simp [h1]
 · have h0:=gU h0
   simp only [decide_eq_true_eq,Bool.false_eq_true,false_iff,Prod.mk.injEq,and_true] at h0 ⊢
   exact fun h=>h0 ⟨h.1,h.2.1,h.2.2.1⟩
theorem apn {a:List Sp.gK} {fs:List Sp.aN} {nx:Int} {d:List Sp.aQ} {r:List Sp.dn} (h1:a=Sp.usual) (h2:Sp.aB (a,fs,nx,())=true) (h3:Sp.bI (a,fs,nx,())) (h4:0<fs.length) (h5:Sp.aS d) (h6:Sp.aF d=true) (h7:Sp.gQ fs d [] (fun _=>true) r):Sp.aaN (a,fs,nx,d,r,()):=by
 refine ⟨⟨h3,h5,Jg h7 h5.1 h3.2.1 Ld⟩,h1,h4,?_⟩
 rw [RJ (by rw [h6,h2];rfl) h7,decide_eq_true rfl]
theorem arC:∃ c,Sp.aaN c∧0<c.2.2.2.1.length:=by
 obtain ⟨out,h⟩:=Am (fs:=[(1,0,false,0,[],())]) (a:=Sp.usual) (nx:=2) (d:=[([100,97],[(1,0,0,[],0,0,[],())],())]) [] (fun _=>true)
 exact ⟨_,apn rfl MR.1 MR.2 (by decide) (Hr Cm (by simp) (by simp)) ahd (h (by rw [ahd,MR.1];rfl)),Nat.zero_lt_one⟩
theorem ahA:ai prog G uX.e:=by
 refine ahB (aj ah ⟨Zg,ahe,MS,trivial⟩) (fun _ _=>by obtain ⟨c,h⟩:=arC;exact ⟨(((c.1,c.2.1,c.2.2.1,c.2.2.2.1,c.2.2.2.2.1,()),()),(([],0,0,()),())),⟨Int.le_refl 0,h⟩⟩) ?_
 intro b i h hin hp
 dsimp only [uX] at hp ⊢
 refine ⟨hp,fun r0 hr0=>⟨hr0.1,fun r1 hr1=>⟨⟨hr0.2.2.2.2.1,hr1.2.2.1⟩,?_⟩⟩⟩
 rintro ⟨⟨⟨a,fs,nx,d,r,⟨⟩⟩,ok,⟨⟩⟩,⟨⟩⟩ ⟨e1,e2,_⟩
 have hz:(Sp.aF r1.1.1&&Sp.aB r0.1.1)=true:=by rw [hr1.2.2.2.1,hr0.2.2.1];rfl
 obtain ⟨k1,k2,k3⟩:=e2 (e1.trans hz)
 have k1:((a,fs,nx,()):Sp.bV)=r0.1.1:=k1
 have k2:d=r1.1.1:=k2
 refine ⟨hr1.1,?_⟩
 subst k2
 rw [← k1] at hr0 k3
 exact ⟨apn hr0.2.1 hr0.2.2.1 hr0.2.2.2.2.1 hr0.2.2.2.2.2 hr1.2.2.1 hr1.2.2.2.1 k3,hr1.2.2.2.2⟩
end Go.Proofs.Tryz
