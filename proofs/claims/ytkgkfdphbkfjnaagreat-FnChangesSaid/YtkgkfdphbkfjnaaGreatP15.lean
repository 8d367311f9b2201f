import Derived.Test.YtkgkfdphbkfjnaaGreatP14
import Derived.Test.YtkgkfdphbkfjnaaGreatV4
import Derived.Test.YtkgkfdphbkfjnaaGreatV6
import Derived.Test.YtkgkfdphbkfjnaaGreatSp
namespace Go.Proofs.Tryz
open Go Go.Fw Go.IntWalk Sp
theorem Uk:∀ {l:List fD} {n:Nat} {s:Sp.Bytes},n<l.length→(∀ i,i<n→(dn l i).1≠s)→(dn l n).1=s→dB l s=(dn l n).2
 |[],n,_,h,_,_=>by simp at h
 |x::r,0,s,_,_,e=>by
  have e:x.1=s:=e
  rw [dB,beq_iff_eq.2 e];rfl
 |x::r,n+1,s,h,hn,e=>by
  have h0:x.1≠s:=hn 0 (by omega)
  rw [dB,beq_eq_false_iff_ne.2 h0]
  exact Uk (l:=r) (by simpa using h) (fun i hi=>hn (i+1) (by omega)) e
theorem Oo:∀ {l:List fD} {s:Sp.Bytes},(∀ i,i<l.length→(dn l i).1≠s)→dB l s=(0,0,[],())
 |[],_,_=>rfl
 |x::r,s,h=>by
  have h0:x.1≠s:=h 0 (by simp)
  rw [dB,beq_eq_false_iff_ne.2 h0]
  exact Oo fun i hi=>h (i+1) (by simpa using hi)
theorem Jg:OK rQ.e:=by
 refine PA.ok mixed (au [] trivial) agk (by kernel_rfl) (show ∀ f0 f1 f2 f3 f4 name,rQ.goal (aem f0 f1 f2 f3 f4 name) ((f0,f1,f2,f3,f4,()),name,()) from ?_)
 intro f0 f1 f2 f3 l s hin hp
 dsimp only [rQ] at hp ⊢
 have hlen:l.length≤maxLen:=hin.1.2.2.2.2.1.1
 rw [maxLen_eq] at hlen
 refine iM l.length hlen (fun n=>∀ i,i<n→(dn l i).1≠s) (fun i hi=>by omega) (fun I μ n hn hJ next=>?_) fun I μ hJ=>?_
 · dsimp only
   refine dH (by omega) ⟨⟨by omega,by omega⟩,af (fun h=>?_) fun h=>⟨rfl,next fun i hi=>?_⟩⟩
   · exact congrArg (·,()) (Uk hn hJ (beq_iff_eq.1 h)).symm
   · rcases Nat.lt_or_ge i n with h'|h'
     · exact hJ i h'
     · have:i=n:=by omega
       rw [this];exact beq_eq_false_iff_ne.1 h
 · dsimp only
   exact dI (by omega) (congrArg (·,()) (Oo hJ).symm)
theorem P7:OK wE.e:=by
 refine PA.ok mixed (au [] trivial) agl (by kernel_rfl) (show ∀ f0 f1 f2 f3 f4 name,wE.goal (aen f0 f1 f2 f3 f4 name) ((f0,f1,f2,f3,f4,()),name,()) from ?_)
 intro f0 f1 f2 f3 l s hin hp
 dsimp only [wE] at hp ⊢
 have hlen:l.length≤maxLen:=hin.1.2.2.2.2.1.1
 rw [maxLen_eq] at hlen
 refine iM l.length hlen (fun n=>∀ i,i<n→(dn l i).1≠s) (fun i hi=>by omega) (fun I μ n hn hJ next=>?_) fun I μ hJ=>?_
 · dsimp only
   refine dH (by omega) ⟨⟨by omega,by omega⟩,af (fun h=>⟨⟨by omega,by omega⟩,?_⟩) fun h=>⟨rfl,next fun i hi=>?_⟩⟩
   · exact congrArg (·,()) (Uk hn hJ (beq_iff_eq.1 h)).symm
   · rcases Nat.lt_or_ge i n with h'|h'
     · exact hJ i h'
     · have:i=n:=by omega
       rw [this];exact beq_eq_false_iff_ne.1 h
 · dsimp only
   exact dI (by omega) (congrArg (·,()) (Oo hJ).symm)
theorem aeo:OK AP.e:=by
 refine PA.ok mixed (au [rQ.e] ⟨Jg,trivial⟩) H0 (by kernel_rfl) (show ∀ f0 f1 f2 f3 f4 name,AP.goal (aep f0 f1 f2 f3 f4 name) ((f0,f1,f2,f3,f4,()),name,()) from ?_)
 intro f0 f1 f2 f3 l s hin hp
 dsimp only [AP] at hp ⊢
 refine ⟨trivial,?_⟩
 cases h:((dB l s).1==1) with
 |true=>dsimp only [bne];rw [h];rfl
 |false=>dsimp only [bne];rw [h];rfl
theorem ahx {α β:Type} [BEq β] [LawfulBEq β] (g:α→β) (v:β) (s:List α):Sp.findAt (fun x=>v==g x) s=Sp.findAt (fun x=>g x==v) s:=by
 congr 1
 funext x
 rw [Bool.eq_iff_iff,beq_iff_eq,beq_iff_eq]
 exact eq_comm
theorem VA:OK yJ.e:=by
 refine PA.ok mixed (au [] trivial) XK (by kernel_rfl) (show ∀ s v,yJ.goal (VB s v) (s,v,()) from ?_)
 intro s v hin hp
 dsimp only [yJ] at hp ⊢
 exact anp (K:=fun r=>r=(Sp.findAt (fun x=>x.1==v) s,())) (fun x:Int×Unit=>v==x.1) (0,()) s _ hin.1.1 (by rw [ahx])
theorem Qq:OK uo.e:=by
 refine PA.ok mixed (au [] trivial) RY (by kernel_rfl) (show ∀ s v,uo.goal (Qr s v) (s,v,()) from ?_)
 intro s v hin hp
 dsimp only [uo] at hp ⊢
 exact anp (K:=fun r=>r=(Sp.findAt (fun x=>x.1==v) s,())) (fun x:List UInt8×Unit=>v==x.1) ([],()) s _ hin.1.1 (by rw [ahx])
theorem Gt:OK oQ.e:=by
 refine PA.ok mixed (au [yJ.e] ⟨VA,trivial⟩) H0 (by kernel_rfl) (show ∀ s v,oQ.goal (Qs s v) (s,v,()) from ?_)
 intro s v hin hp
 dsimp only [oQ] at hp ⊢
 exact ⟨trivial,congrArg (·,()) (Ul _ s)⟩
theorem pV:OK ja.e:=by
 refine PA.ok mixed (au [uo.e] ⟨Qq,trivial⟩) H0 (by kernel_rfl) (show ∀ s v,ja.goal (MW s v) (s,v,()) from ?_)
 intro s v hin hp
 dsimp only [ja] at hp ⊢
 exact ⟨trivial,congrArg (·,()) (Ul _ s)⟩
theorem XL:OK uZ.e:=by
 refine PA.ok mixed (au [oQ.e] ⟨Gt,trivial⟩) H0 (by kernel_rfl) (show ∀ ids id,uZ.goal (XM ids id) (ids,id,()) from ?_)
 intro s v hin hp
 dsimp only [uZ] at hp ⊢
 exact ⟨trivial,rfl⟩
theorem KN:OK qH.e:=by
 refine PA.ok mixed (au [] trivial) ZR (by kernel_rfl) (show ∀ ids id,qH.goal (XO ids id) (ids,id,()) from ?_)
 intro s v hin hp
 dsimp only [qH] at hp ⊢
 exact aol (K:=fun r=>r=(fG s v,())) (fun x:Int×Unit=>x.1==v) (0,()) s _ hin.1.1 rfl
theorem Jy:OK sO.e:=by
 refine PA.ok mixed (au [] trivial) XP (by kernel_rfl) (show ∀ s,sO.goal (VD s) (s,()) from ?_)
 intro s hin hp
 dsimp only [sO] at hp ⊢
 have hp:s.length≤1000:=hp
 intro g hg
 refine af (fun h=>?_) fun h=>⟨by rw [bW];omega,rfl⟩
 exact congrArg (·,()) (List.length_eq_zero_iff.1 (hg h)).symm
abbrev oC:dL:=([],[],())
theorem Ip {r:List dL} (h:bH r) {n:Nat} (hn:n<r.length):(r.getD n oC).2.1.length≤1000:=h.2 _ (getD_mem (d:=oC) hn)
theorem aer {r:List dL} {n:Nat} {s:Sp.Bytes} (hn:n<r.length) (hJ:∀ i,i<n→(sJ r i).1≠s) (e:(sJ r n).1=s):fK r s=iH r n:=by
 rw [← e];exact XQ hn fun j hj=>by rw [e];exact hJ j hj
theorem FX:OK oD.e:=by
 refine PA.ok mixed (au [sO.e] ⟨Jy,trivial⟩) aco (by kernel_rfl) (show ∀ FQ name,oD.goal (ZT FQ name) (FQ,name,()) from ?_)
 intro r s hin hp
 dsimp only [oD] at hp ⊢
 have hp:bH r:=hp
 have hlen:r.length≤1000:=hp.1
 refine iM r.length (by omega) (fun n=>∀ i,i<n→(sJ r i).1≠s) (fun i hi=>by omega) (fun I μ n hn hJ next=>?_) fun I μ hJ=>?_
 · dsimp only
   refine dH (by omega) ⟨⟨by omega,by omega⟩,af (fun h=>⟨Ip hp hn,?_⟩) fun h=>⟨rfl,next fun i hi=>?_⟩⟩
   · exact congrArg (·,()) (aer hn hJ (beq_iff_eq.1 h)).symm
   · rcases Nat.lt_or_ge i n with h'|h'
     · exact hJ i h'
     · have:i=n:=by omega
       rw [this];exact beq_eq_false_iff_ne.1 h
 · dsimp only
   exact dI (by omega) (congrArg (·,()) (Kt hJ).symm)
theorem FY:OK oG.e:=by
 refine PA.ok mixed (au [] trivial) acp (by kernel_rfl) (show ∀ a name,oG.goal (ZU a name) (a,name,()) from ?_)
 intro r s hin hp
 dsimp only [oG] at hp ⊢
 have hp:bH r:=hp
 have hlen:r.length≤1000:=hp.1
 refine iM r.length (by omega) (fun n=>∀ i,i<n→(sJ r i).1≠s) (fun i hi=>by omega) (fun I μ n hn hJ next=>?_) fun I μ hJ=>?_
 · dsimp only
   refine dH (by omega) ⟨⟨by omega,by omega⟩,af (fun h=>⟨⟨by omega,by omega⟩,by have:(r.getD n ([],[],())).2.1.length≤1000:=Ip hp hn;rw [bW,Int.toNat_natCast];omega,?_⟩) fun h=>⟨rfl,next fun i hi=>?_⟩⟩
   · exact congrArg (·,()) (aer hn hJ (beq_iff_eq.1 h)).symm
   · rcases Nat.lt_or_ge i n with h'|h'
     · exact hJ i h'
     · have:i=n:=by omega
       rw [this];exact beq_eq_false_iff_ne.1 h
 · dsimp only
   exact dI (by omega) (congrArg (·,()) (Kt hJ).symm)
theorem acr {q:List bK} {f:aN} {X:BX} {a:Nat} (h5:(Sp.nodeAt q a).1≠5) (h6:(Sp.nodeAt q a).1≠6) (h7:(Sp.nodeAt q a).1≠7):Sp.val q f X a=iJ (Sp.nodeAt q a) f X:=by
 rw [KO,if_neg h5,if_neg h6,if_neg h7]
theorem ak8 {q:List bK} {f:aN} {X:BX} {a:Nat} (h5:(Sp.nodeAt q a).1=5) (hl:(Sp.nodeAt q a).2.1.toNat<a):Sp.val q f X a=!Sp.val q f X (Sp.nodeAt q a).2.1.toNat:=by
 rw [KO q f X a,if_pos h5,dif_pos hl]
theorem ak9 {q:List bK} {f:aN} {X:BX} {a:Nat} (h6:(Sp.nodeAt q a).1=6) (hl:(Sp.nodeAt q a).2.1.toNat<a∧(Sp.nodeAt q a).2.2.1.toNat<a):Sp.val q f X a=(Sp.val q f X (Sp.nodeAt q a).2.1.toNat&&Sp.val q f X (Sp.nodeAt q a).2.2.1.toNat):=by
 rw [KO q f X a,if_neg (by omega),if_pos h6,dif_pos hl]
theorem anq {q:List bK} {f:aN} {X:BX} {a:Nat} (h7:(Sp.nodeAt q a).1=7) (hl:(Sp.nodeAt q a).2.1.toNat<a∧(Sp.nodeAt q a).2.2.1.toNat<a):Sp.val q f X a=(Sp.val q f X (Sp.nodeAt q a).2.1.toNat||Sp.val q f X (Sp.nodeAt q a).2.2.1.toNat):=by
 rw [KO q f X a,if_neg (by omega),if_neg (by omega),if_pos h7,dif_pos hl]
theorem aoZ {n:bK} {f:aN} {X:BX} (h:n.1=2):iJ n f X=!((dB f.2.2.2.2.1 n.2.2.2.1).1==0):=by
 unfold iJ;rw [h];rfl
theorem ao0 {n:bK} {f:aN} {X:BX} (h:n.1=3):iJ n f X=decide (dB f.2.2.2.2.1 n.2.2.2.1=(n.2.2.2.2.1,n.2.2.2.2.2.1,n.2.2.2.2.2.2.1,())):=by
 unfold iJ;rw [h];rfl
theorem ao1 {n:bK} {f:aN} {X:BX} (h:n.1=4):iJ n f X=((dB f.2.2.2.2.1 n.2.2.2.1).1==1&&decide ((dB f.2.2.2.2.1 n.2.2.2.1).2.1<n.2.2.2.2.2.1)):=by
 unfold iJ;rw [h];rfl
theorem ao2 {n:bK} {f:aN} {X:BX} (h:n.1=8):iJ n f X=X n.2.2.2.1 f.1:=by
 unfold iJ;rw [h];rfl
theorem ao3 {n:bK} {f:aN} {X:BX} (h:n.1=9):iJ n f X=(!(f.2.2.2.1==0)&&X n.2.2.2.1 f.2.2.2.1):=by
 unfold iJ;rw [h];rfl
theorem ao4 {n:bK} {f:aN} {X:BX} (h2:n.1≠2) (h3:n.1≠3) (h4:n.1≠4) (h8:n.1≠8) (h9:n.1≠9):iJ n f X=true:=by
 unfold iJ
 rw [beq_eq_false_iff_ne.2 h2,beq_eq_false_iff_ne.2 h3,beq_eq_false_iff_ne.2 h4,beq_eq_false_iff_ne.2 h8,beq_eq_false_iff_ne.2 h9];rfl
theorem eq3 (v w:ajy):(v.1==w.1&&(v.2.1==w.2.1&&(v.2.2.1==w.2.2.1&&true)))=decide (v=w):=by
 rw [Bool.eq_iff_iff]
 simp [Prod.ext_iff]
theorem Jh {x y z:Int} (h:x=y) (hne:y≠z):x≠z:=by rw [h];exact hne
theorem ame {n:bK} {a:Int} (h:kD n a=true):n.1=1∨n.1=2∨n.1=3∨n.1=4∨n.1=5∨n.1=6∨n.1=7∨n.1=8∨n.1=9:=by
 unfold kD at h
 dsimp only at h
 refine Classical.byContradiction fun hno=>?_
 have e:∀ k:Int,n.1≠k→(n.1==k)=false:=fun k hk=>beq_eq_false_iff_ne.2 hk
 rw [e 1 (fun h=>hno (by simp [h])),e 2 (fun h=>hno (by simp [h])),e 3 (fun h=>hno (by simp [h])),e 4 (fun h=>hno (by simp [h])),e 5 (fun h=>hno (by simp [h])),e 6 (fun h=>hno (by simp [h])),e 7 (fun h=>hno (by simp [h])),e 8 (fun h=>hno (by simp [h])),e 9 (fun h=>hno (by simp [h]))] at h
 cases h
theorem O1 [sK] (Qu:qX prog G uF xU):qX prog G Gs ED:=by
 refine O3 (au [uZ.e,oD.e,(uF, .pure xU),AP.e,rQ.e] ⟨XL,FX,⟨Qu,OY⟩,aeo,Jg,trivial⟩) ?_
 intro q a f0 f1 f2 f3 f4 r hin hp
 obtain ⟨⟨hq,h0,h1,hr⟩,hm⟩:=hp
 have ha:a.toNat<q.length:=by omega
 obtain ⟨k1,k2⟩:=Oq hq ha
 have fin:∀ z:Bool,Sp.val q (f0,f1,f2,f3,f4,()) (bD r) a.toNat=z→(z,())=(Sp.val q (f0,f1,f2,f3,f4,()) (bD r) a.toNat,()):=fun z h=>by rw [h]
 have leaf:∀ k:Int,k≠5→k≠6→k≠7→(Sp.nodeAt q a.toNat).1=k→Sp.val q (f0,f1,f2,f3,f4,()) (bD r) a.toNat=iJ (Sp.nodeAt q a.toNat) (f0,f1,f2,f3,f4,()) (bD r):=fun k a b c h=>acr (Jh h a) (Jh h b) (Jh h c)
 have kid:∀ k:Int,0≤k→k.toNat<a.toNat→(bQ q=true∧0≤k∧k<(q.length:Int)∧bH r)∧k.toNat<rH:=fun k h2 h3=>⟨⟨hq,h2,by omega,hr⟩,by omega⟩
 refine ⟨⟨h0,h1⟩,af (fun h=>⟨trivial,fin _ ((leaf 2 (by decide) (by decide) (by decide) (beq_iff_eq.1 h)).trans (aoZ (beq_iff_eq.1 h)))⟩) fun h2=>af (fun h=>⟨trivial,fin _ ((leaf 3 (by decide) (by decide) (by decide) (beq_iff_eq.1 h)).trans ((ao0 (beq_iff_eq.1 h)).trans (eq3 _ _).symm))⟩) fun h3=>af (fun h=>⟨trivial,?_⟩) fun h4=>af (fun h=>?_) fun h5=>af (fun h=>?_) fun h6=>af (fun h=>?_) fun h7=>af (fun h=>⟨hr,trivial,fin _ ((leaf 8 (by decide) (by decide) (by decide) (beq_iff_eq.1 h)).trans (ao2 (beq_iff_eq.1 h)))⟩) fun h8=>af (fun h=>?_) fun h9=>?_⟩
 · have e:=(leaf 4 (by decide) (by decide) (by decide) (beq_iff_eq.1 h)).trans (ao1 (beq_iff_eq.1 h))
   dsimp only at e ⊢
   refine af (fun g=>fin _ (e.trans ?_)) fun g=>fin _ (e.trans ?_)
   · unfold Sp.nodeAt;rw [g];rfl
   · unfold Sp.nodeAt;rw [g];rfl
 · have hk:=k1 (.inl (beq_iff_eq.1 h))
   exact ⟨kid _ hk.1 hk.2,fin _ (ak8 (beq_iff_eq.1 h) hk.2)⟩
 · have ht:jI (Sp.nodeAt q a.toNat)=true:=zq.2 (.inl (beq_iff_eq.1 h))
   have hk:=k1 (.inr ht)
   have hk2:=k2 ht
   have e:=ak9 (f:=(f0,f1,f2,f3,f4,())) (X:=bD r) (beq_iff_eq.1 h) ⟨hk.2,hk2.2⟩
   refine ⟨kid _ hk.1 hk.2,af (fun g=>⟨kid _ hk2.1 hk2.2,fin _ (e.trans ?_)⟩) fun g=>fin _ (e.trans ?_)⟩
   · have g:Sp.val q (f0,f1,f2,f3,f4,()) (bD r) (Sp.nodeAt q a.toNat).2.1.toNat=true:=g
     rw [g];rfl
   · have g:Sp.val q (f0,f1,f2,f3,f4,()) (bD r) (Sp.nodeAt q a.toNat).2.1.toNat=false:=g
     rw [g];rfl
 · have ht:jI (Sp.nodeAt q a.toNat)=true:=zq.2 (.inr (beq_iff_eq.1 h))
   have hk:=k1 (.inr ht)
   have hk2:=k2 ht
   have e:=anq (f:=(f0,f1,f2,f3,f4,())) (X:=bD r) (beq_iff_eq.1 h) ⟨hk.2,hk2.2⟩
   refine ⟨kid _ hk.1 hk.2,af (fun g=>fin _ (e.trans ?_)) fun g=>⟨kid _ hk2.1 hk2.2,fin _ (e.trans ?_)⟩⟩
   · have g:Sp.val q (f0,f1,f2,f3,f4,()) (bD r) (Sp.nodeAt q a.toNat).2.1.toNat=true:=g
     rw [g];rfl
   · have g:Sp.val q (f0,f1,f2,f3,f4,()) (bD r) (Sp.nodeAt q a.toNat).2.1.toNat=false:=g
     rw [g];rfl
 · have e:=(leaf 9 (by decide) (by decide) (by decide) (beq_iff_eq.1 h)).trans (ao3 (beq_iff_eq.1 h))
   refine af (fun g=>⟨hr,trivial,fin _ (e.trans ?_)⟩) fun g=>fin _ (e.trans ?_)
   · have g:(!(f3==0))=true:=g
     dsimp only;rw [g];rfl
   · have g:(!(f3==0))=false:=g
     dsimp only;rw [g];rfl
 · have n2:=beq_eq_false_iff_ne.1 h2
   have n3:=beq_eq_false_iff_ne.1 h3
   have n4:=beq_eq_false_iff_ne.1 h4
   have n8:=beq_eq_false_iff_ne.1 h8
   have n9:=beq_eq_false_iff_ne.1 h9
   exact fin _ ((acr (beq_eq_false_iff_ne.1 h5) (beq_eq_false_iff_ne.1 h6) (beq_eq_false_iff_ne.1 h7)).trans (ao4 n2 n3 n4 n8 n9))
theorem ZV:qX prog G Hr Kz:=
 am1 (fun n=>@H9 ⟨n⟩) (fun n=>@F9 ⟨n⟩) (by rintro ⟨q,at',⟨i,o,s,l,a,⟨⟩⟩,r,⟨⟩⟩ h;exact Nat.not_lt_zero _ h.2) (by rintro _ ⟨q,at',⟨i,o,s,l,a,⟨⟩⟩,r,⟨⟩⟩;rfl) (by rintro ⟨q,at',⟨i,o,s,l,a,⟨⟩⟩,r,⟨⟩⟩ h;exact ⟨_,h,Nat.lt_succ_self _⟩) (by rintro _ ⟨q,at',⟨i,o,s,l,a,⟨⟩⟩,r,⟨⟩⟩;rfl) fun n h=>@O1 ⟨n⟩ h
theorem RZ [sK] (Um:qX prog G xM AQ):qX prog G Jb Gg:=by
 refine Si (au [qH.e,oG.e,(xM, .pure AQ),wE.e] ⟨KN,FY,⟨Um,RD⟩,P7,trivial⟩) ?_
 intro q a f0 f1 f2 f3 f4 r hin hp
 obtain ⟨⟨hq,h0,h1,hr⟩,hm⟩:=hp
 have ha:a.toNat<q.length:=by omega
 obtain ⟨k1,k2⟩:=Oq hq ha
 have fin:∀ z:Bool,Sp.val q (f0,f1,f2,f3,f4,()) (bD r) a.toNat=z→(z,())=(Sp.val q (f0,f1,f2,f3,f4,()) (bD r) a.toNat,()):=fun z h=>by rw [h]
 have leaf:∀ k:Int,k≠5→k≠6→k≠7→(Sp.nodeAt q a.toNat).1=k→Sp.val q (f0,f1,f2,f3,f4,()) (bD r) a.toNat=iJ (Sp.nodeAt q a.toNat) (f0,f1,f2,f3,f4,()) (bD r):=fun k a b c h=>acr (Jh h a) (Jh h b) (Jh h c)
 have kid:∀ k:Int,0≤k→k.toNat<a.toNat→(bQ q=true∧0≤k∧k<(q.length:Int)∧bH r)∧k.toNat<rH:=fun k h2 h3=>⟨⟨hq,h2,by omega,hr⟩,by omega⟩
 refine ⟨⟨h0,h1⟩,trivial,af (fun h=>fin _ ((leaf 1 (by decide) (by decide) (by decide) (beq_iff_eq.1 h)).trans (ao4 (Jh (beq_iff_eq.1 h) (by decide)) (Jh (beq_iff_eq.1 h) (by decide)) (Jh (beq_iff_eq.1 h) (by decide)) (Jh (beq_iff_eq.1 h) (by decide)) (Jh (beq_iff_eq.1 h) (by decide))))) fun h1=>af (fun h=>fin _ ((leaf 2 (by decide) (by decide) (by decide) (beq_iff_eq.1 h)).trans (aoZ (beq_iff_eq.1 h)))) fun h2=>af (fun h=>fin _ ((leaf 3 (by decide) (by decide) (by decide) (beq_iff_eq.1 h)).trans ((ao0 (beq_iff_eq.1 h)).trans (eq3 _ _).symm))) fun h3=>af (fun h=>?_) fun h4=>af (fun h=>?_) fun h5=>af (fun h=>?_) fun h6=>af (fun h=>?_) fun h7=>af (fun h=>⟨hr,trivial,fin _ ((leaf 8 (by decide) (by decide) (by decide) (beq_iff_eq.1 h)).trans (ao2 (beq_iff_eq.1 h)))⟩) fun h8=>?_⟩
 · have e:=(leaf 4 (by decide) (by decide) (by decide) (beq_iff_eq.1 h)).trans (ao1 (beq_iff_eq.1 h))
   dsimp only at e ⊢
   refine af (fun g=>fin _ (e.trans ?_)) fun g=>fin _ (e.trans ?_)
   · unfold Sp.nodeAt;rw [g];rfl
   · unfold Sp.nodeAt;rw [g];rfl
 · have hk:=k1 (.inl (beq_iff_eq.1 h))
   exact ⟨kid _ hk.1 hk.2,fin _ (ak8 (beq_iff_eq.1 h) hk.2)⟩
 · have ht:jI (Sp.nodeAt q a.toNat)=true:=zq.2 (.inl (beq_iff_eq.1 h))
   have hk:=k1 (.inr ht)
   have hk2:=k2 ht
   have e:=ak9 (f:=(f0,f1,f2,f3,f4,())) (X:=bD r) (beq_iff_eq.1 h) ⟨hk.2,hk2.2⟩
   refine ⟨kid _ hk.1 hk.2,af (fun g=>⟨kid _ hk2.1 hk2.2,fin _ (e.trans ?_)⟩) fun g=>fin _ (e.trans ?_)⟩
   · have g:Sp.val q (f0,f1,f2,f3,f4,()) (bD r) (Sp.nodeAt q a.toNat).2.1.toNat=true:=g
     rw [g];rfl
   · have g:Sp.val q (f0,f1,f2,f3,f4,()) (bD r) (Sp.nodeAt q a.toNat).2.1.toNat=false:=g
     rw [g];rfl
 · have ht:jI (Sp.nodeAt q a.toNat)=true:=zq.2 (.inr (beq_iff_eq.1 h))
   have hk:=k1 (.inr ht)
   have hk2:=k2 ht
   have e:=anq (f:=(f0,f1,f2,f3,f4,())) (X:=bD r) (beq_iff_eq.1 h) ⟨hk.2,hk2.2⟩
   refine ⟨kid _ hk.1 hk.2,af (fun g=>fin _ (e.trans ?_)) fun g=>⟨kid _ hk2.1 hk2.2,fin _ (e.trans ?_)⟩⟩
   · have g:Sp.val q (f0,f1,f2,f3,f4,()) (bD r) (Sp.nodeAt q a.toNat).2.1.toNat=true:=g
     rw [g];rfl
   · have g:Sp.val q (f0,f1,f2,f3,f4,()) (bD r) (Sp.nodeAt q a.toNat).2.1.toNat=false:=g
     rw [g];rfl
 · have n1:=beq_eq_false_iff_ne.1 h1
   have n2:=beq_eq_false_iff_ne.1 h2
   have n3:=beq_eq_false_iff_ne.1 h3
   have n4:=beq_eq_false_iff_ne.1 h4
   have n5:=beq_eq_false_iff_ne.1 h5
   have n6:=beq_eq_false_iff_ne.1 h6
   have n7:=beq_eq_false_iff_ne.1 h7
   have n8:=beq_eq_false_iff_ne.1 h8
   have h9:(Sp.nodeAt q a.toNat).1=9:=by
    rcases ame (Ot hq ha).1 with h|h|h|h|h|h|h|h|h
    · exact (n1 h).elim
    · exact (n2 h).elim
    · exact (n3 h).elim
    · exact (n4 h).elim
    · exact (n5 h).elim
    · exact (n6 h).elim
    · exact (n7 h).elim
    · exact (n8 h).elim
    · exact h
   have e:=(leaf 9 (by decide) (by decide) (by decide) h9).trans (ao3 h9)
   refine af (fun g=>⟨hr,trivial,fin _ (e.trans ?_)⟩) fun g=>fin _ (e.trans ?_)
   · have g:(!(f3==0))=true:=g
     dsimp only;rw [g];rfl
   · have g:(!(f3==0))=false:=g
     dsimp only;rw [g];rfl
theorem aes:qX prog G JQ NG:=
 am1 (fun n=>@Jt ⟨n⟩) (fun n=>@IC ⟨n⟩) (by rintro ⟨q,at',⟨i,o,s,l,a,⟨⟩⟩,r,⟨⟩⟩ h;exact Nat.not_lt_zero _ h.2) (by rintro _ ⟨q,at',⟨i,o,s,l,a,⟨⟩⟩,r,⟨⟩⟩;rfl) (by rintro ⟨q,at',⟨i,o,s,l,a,⟨⟩⟩,r,⟨⟩⟩ h;exact ⟨_,h,Nat.lt_succ_self _⟩) (by rintro _ ⟨q,at',⟨i,o,s,l,a,⟨⟩⟩,r,⟨⟩⟩;rfl) fun n h=>@RZ ⟨n⟩ h
theorem aeu:OK EY.e:=by
 refine PA.ok mixed (au [(Hr, .pure Kz),nJ.e] ⟨⟨ZV,Xv⟩,Df,trivial⟩) H0 (by kernel_rfl) (show ∀ q f0 f1 f2 f3 f4 BK,EY.goal (aev q f0 f1 f2 f3 f4 BK) (q,(f0,f1,f2,f3,f4,()),BK,()) from ?_)
 intro q f0 f1 f2 f3 f4 r hin hp
 dsimp only [EY] at hp ⊢
 obtain ⟨h1,h2⟩:=hp
 have e:∀ z,bQ q=z→iI q (f0,f1,f2,f3,f4,()) (bD r)=(z&&Sp.val q (f0,f1,f2,f3,f4,()) (bD r) (q.length-1)):=fun z hz=>by unfold iI;rw [hz]
 refine ⟨by omega,af (fun h=>?_) fun h=>?_⟩
 · have hl:=Sp.Gu h
   rw [wJ (by omega) (by omega)]
   refine ⟨⟨h,by omega,by omega,h2⟩,?_⟩
   rw [e _ h,Int.toNat_natCast];rfl
 · rw [e _ h];rfl
theorem aew:OK EZ.e:=by
 refine PA.ok mixed (au [(JQ, .pure NG),nI.e] ⟨⟨aes,abW⟩,Dh,trivial⟩) H0 (by kernel_rfl) (show ∀ q f0 f1 f2 f3 f4 a,EZ.goal (aex q f0 f1 f2 f3 f4 a) (q,(f0,f1,f2,f3,f4,()),a,()) from ?_)
 intro q f0 f1 f2 f3 f4 r hin hp
 dsimp only [EZ] at hp ⊢
 obtain ⟨h1,h2⟩:=hp
 have e:∀ z,bQ q=z→iI q (f0,f1,f2,f3,f4,()) (bD r)=(z&&Sp.val q (f0,f1,f2,f3,f4,()) (bD r) (q.length-1)):=fun z hz=>by unfold iI;rw [hz]
 refine ⟨by omega,af (fun h=>?_) fun h=>?_⟩
 · have hl:=Sp.Gu h
   rw [wJ (by omega) (by omega)]
   refine ⟨⟨h,by omega,by omega,h2⟩,?_⟩
   rw [e _ h,Int.toNat_natCast];rfl
 · rw [e _ h];rfl
theorem VE:OK yK.e:=by
 refine PA.ok mixed (au [EY.e] ⟨aeu,trivial⟩) XR (by kernel_rfl) (show ∀ s0 s1 s2 q BK,yK.goal (VF s0 s1 s2 q BK) ((s0,s1,s2,()),q,BK,()) from ?_)
 intro s0 fs nx q r hin hp
 dsimp only [yK] at hp ⊢
 obtain ⟨h1,h2,h3⟩:=hp
 have hl:fs.length≤1000:=h1.2.1
 exact acs (K:=fun z=>z=(Sp.sel fs q (bD r),())) (fun f=>iI q f (bD r)) (fun f:aN=>(f.1,())) (0,0,false,0,[],()) fs _ (A:=fun _=>q.length≤1000∧bH r) (fun _ _=>⟨h2,h3⟩) (by omega) rfl
theorem Jz:OK sU.e:=by
 refine PA.ok mixed (au [] trivial) XT (by kernel_rfl) (show ∀ s1 s2,sU.goal (VG s1 s2) (s1,s2,()) from ?_)
 intro a b hin hp
 dsimp only [sU] at hp ⊢
 exact eqL (K:=fun r=>r=(decide (a=b),())) (fun x y:Int×Unit=>x.1 !=y.1) (fun x y=>by simp [Prod.ext_iff]) _ a b _ hin.1.1 rfl
theorem Gv:OK oU.e:=by
 refine PA.ok mixed (au [sU.e] ⟨Jz,trivial⟩) H0 (by kernel_rfl) (show ∀ x0 x1 y0 y1,oU.goal (Qv x0 x1 y0 y1) ((x0,x1,()),(y0,y1,()),()) from ?_)
 intro a0 a1 b0 b1 hin hp
 dsimp only [oU] at hp ⊢
 refine af (fun h0=>⟨trivial,?_⟩) fun h0=>?_
 all_goals refine congrArg (·,()) (Bool.eq_iff_iff.2 ?_)
 · simp [beq_iff_eq.1 h0]
 · simp [show a0≠b0 by simpa using h0]
theorem oJ:OK eF.e:=by
 refine PA.ok mixed (au [oU.e] ⟨Gv,trivial⟩) pJ (by kernel_rfl) (show ∀ s1 s2,eF.goal (oK s1 s2) (s1,s2,(()),()) from ?_)
 intro a b hin hp
 dsimp only [eF] at hp ⊢
 exact aom (K:=fun r=>r=(decide (a=b),())) (fun x y=>!decide (x=y)) (fun x y=>by simp) _ a b _ hin.1.1 rfl
theorem Un:OK xB.e:=by
 refine PA.ok mixed (au [oU.e,eF.e] ⟨Gv,oJ,trivial⟩) H0 (by kernel_rfl) (show ∀ a b,xB.goal (Uo a b) (a,b,()) from ?_)
 intro a b hin hp
 dsimp only [xB] at hp ⊢
 exact ⟨trivial,rfl⟩
end Go.Proofs.Tryz
