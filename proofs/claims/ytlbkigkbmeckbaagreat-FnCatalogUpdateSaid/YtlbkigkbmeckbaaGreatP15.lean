import Derived.Test.YtlbkigkbmeckbaaGreatP14
import Derived.Test.YtlbkigkbmeckbaaGreatV4
import Derived.Test.YtlbkigkbmeckbaaGreatV6
import Derived.Test.YtlbkigkbmeckbaaGreatSp
namespace Go.Proofs.Tryz
open Go Go.Fw Go.IntWalk
theorem Uc:∀ {l:List Sp.fH} {n:Nat} {s:Sp.Bytes},n<l.length→(∀ i,i<n→(Sp.bZ l i).1≠s)→(Sp.bZ l n).1=s→Sp.cO l s=(Sp.bZ l n).2
 |[],n,_,h,_,_=>by simp at h
 |x::r,0,s,_,_,e=>by
  have e:x.1=s:=e
  rw [Sp.cO,beq_iff_eq.2 e];rfl
 |x::r,n+1,s,h,hn,e=>by
  have h0:x.1≠s:=hn 0 (by omega)
  rw [Sp.cO,beq_eq_false_iff_ne.2 h0]
  exact Uc (l:=r) (by simpa using h) (fun i hi=>hn (i+1) (by omega)) e
theorem MX:∀ {l:List Sp.fH} {s:Sp.Bytes},(∀ i,i<l.length→(Sp.bZ l i).1≠s)→Sp.cO l s=(0,0,[],())
 |[],_,_=>rfl
 |x::r,s,h=>by
  have h0:x.1≠s:=h 0 (by simp)
  rw [Sp.cO,beq_eq_false_iff_ne.2 h0]
  exact MX fun i hi=>h (i+1) (by simpa using hi)
theorem Ht:ai prog G uS.e:=by
 refine ahg (aj ah trivial) ?_
 intro f0 f1 f2 f3 l s hin hp
 dsimp only [uS] at hp ⊢
 have hlen:l.length≤maxLen:=hin.1.2.2.2.2.1.1
 rw [maxLen_eq] at hlen
 refine iU l.length hlen (fun n=>∀ i,i<n→(Sp.bZ l i).1≠s) (fun i hi=>by omega) (fun I μ n hn hJ next=>?_) fun I μ hJ=>?_
 · dsimp only
   refine dh (by omega) ⟨⟨by omega,by omega⟩,af (fun h=>?_) fun h=>⟨rfl,next fun i hi=>?_⟩⟩
   · exact congrArg (·,()) (Uc hn hJ (beq_iff_eq.1 h)).symm
   · rcases Nat.lt_or_ge i n with h'|h'
     · exact hJ i h'
     · have:i=n:=by omega
       rw [this];exact beq_eq_false_iff_ne.1 h
 · dsimp only
   exact dm (by omega) (congrArg (·,()) (MX hJ).symm)
theorem OW:ai prog G yK.e:=by
 refine ahh (aj ah trivial) ?_
 intro f0 f1 f2 f3 l s hin hp
 dsimp only [yK] at hp ⊢
 have hlen:l.length≤maxLen:=hin.1.2.2.2.2.1.1
 rw [maxLen_eq] at hlen
 refine iU l.length hlen (fun n=>∀ i,i<n→(Sp.bZ l i).1≠s) (fun i hi=>by omega) (fun I μ n hn hJ next=>?_) fun I μ hJ=>?_
 · dsimp only
   refine dh (by omega) ⟨⟨by omega,by omega⟩,af (fun h=>⟨⟨by omega,by omega⟩,?_⟩) fun h=>⟨rfl,next fun i hi=>?_⟩⟩
   · exact congrArg (·,()) (Uc hn hJ (beq_iff_eq.1 h)).symm
   · rcases Nat.lt_or_ge i n with h'|h'
     · exact hJ i h'
     · have:i=n:=by omega
       rw [this];exact beq_eq_false_iff_ne.1 h
 · dsimp only
   exact dm (by omega) (congrArg (·,()) (MX hJ).symm)
theorem ahi:ai prog G AZ.e:=by
 refine ahj (aj ah ⟨Ht,trivial⟩) ?_
 intro f0 f1 f2 f3 l s hin hp
 dsimp only [AZ] at hp ⊢
 refine ⟨trivial,?_⟩
 cases h:((Sp.cO l s).1==1) with
 |true=>dsimp only [bne];rw [h];rfl
 |false=>dsimp only [bne];rw [h];rfl
theorem alC {α β:Type} [BEq β] [LawfulBEq β] (g:α→β) (v:β) (s:List α):Sp.findAt (fun x=>v==g x) s=Sp.findAt (fun x=>g x==v) s:=by
 congr 1
 funext x
 rw [Bool.eq_iff_iff,beq_iff_eq,beq_iff_eq]
 exact eq_comm
theorem V7:ai prog G vS.e:=by
 refine V8 (aj ah trivial) ?_
 intro s v hin hp
 dsimp only [vS] at hp ⊢
 exact aru (K:=fun r=>r=(Sp.findAt (fun x=>x.1==v) s,())) (fun x:Int×Unit=>v==x.1) (0,()) s _ hin.1.1 (by rw [alC])
theorem PG:ai prog G rD.e:=by
 refine PI (aj ah trivial) ?_
 intro s v hin hp
 dsimp only [rD] at hp ⊢
 exact aru (K:=fun r=>r=(Sp.findAt (fun x=>x.1==v) s,())) (fun x:List UInt8×Unit=>v==x.1) ([],()) s _ hin.1.1 (by rw [alC])
theorem Fq:ai prog G mM.e:=by
 refine PK (aj ah ⟨V7,trivial⟩) ?_
 intro s v hin hp
 dsimp only [mM] at hp ⊢
 exact ⟨trivial,congrArg (·,()) (Ud _ s)⟩
theorem sD:ai prog G iG.e:=by
 refine La (aj ah ⟨PG,trivial⟩) ?_
 intro s v hin hp
 dsimp only [iG] at hp ⊢
 exact ⟨trivial,congrArg (·,()) (Ud _ s)⟩
theorem YZ:ai prog G xQ.e:=by
 refine Y0 (aj ah ⟨Fq,trivial⟩) ?_
 intro s v hin hp
 dsimp only [xQ] at hp ⊢
 exact ⟨trivial,rfl⟩
theorem Eg:ai prog G oG.e:=by
 refine Y3 (aj ah trivial) ?_
 intro s v hin hp
 dsimp only [oG] at hp ⊢
 exact asq (K:=fun r=>r=(Sp.dw s v,())) (fun x:Int×Unit=>x.1==v) (0,()) s _ hin.1.1 rfl
theorem Ie:ai prog G rE.e:=by
 refine V9 (aj ah trivial) ?_
 intro s hin hp
 dsimp only [rE] at hp ⊢
 have hp:s.length≤1000:=hp
 intro g hg
 refine af (fun h=>?_) fun h=>⟨by rw [bT];omega,rfl⟩
 exact congrArg (·,()) (List.length_eq_zero_iff.1 (hg h)).symm
abbrev kZ:Sp.dn:=([],[],())
theorem Gt {r:List Sp.dn} (h:Sp.bF r) {n:Nat} (hn:n<r.length):(r.getD n kZ).2.1.length≤1000:=h.2 _ (getD_mem (d:=kZ) hn)
theorem ahk {r:List Sp.dn} {n:Nat} {s:Sp.Bytes} (hn:n<r.length) (hJ:∀ i,i<n→(Sp.jr r i).1≠s) (e:(Sp.jr r n).1=s):Sp.fM r s=Sp.eX r n:=by
 rw [← e];exact Sp.Y4 hn fun j hj=>by rw [e];exact hJ j hj
theorem EK:ai prog G qI.e:=by
 refine abR (aj ah ⟨Ie,trivial⟩) ?_
 intro r s hin hp
 dsimp only [qI] at hp ⊢
 have hp:Sp.bF r:=hp
 have hlen:r.length≤1000:=hp.1
 refine iU r.length (by omega) (fun n=>∀ i,i<n→(Sp.jr r i).1≠s) (fun i hi=>by omega) (fun I μ n hn hJ next=>?_) fun I μ hJ=>?_
 · dsimp only
   refine dh (by omega) ⟨⟨by omega,by omega⟩,af (fun h=>⟨Gt hp hn,?_⟩) fun h=>⟨rfl,next fun i hi=>?_⟩⟩
   · exact congrArg (·,()) (ahk hn hJ (beq_iff_eq.1 h)).symm
   · rcases Nat.lt_or_ge i n with h'|h'
     · exact hJ i h'
     · have:i=n:=by omega
       rw [this];exact beq_eq_false_iff_ne.1 h
 · dsimp only
   exact dm (by omega) (congrArg (·,()) (Sp.Jd hJ).symm)
theorem EL:ai prog G qJ.e:=by
 refine abS (aj ah trivial) ?_
 intro r s hin hp
 dsimp only [qJ] at hp ⊢
 have hp:Sp.bF r:=hp
 have hlen:r.length≤1000:=hp.1
 refine iU r.length (by omega) (fun n=>∀ i,i<n→(Sp.jr r i).1≠s) (fun i hi=>by omega) (fun I μ n hn hJ next=>?_) fun I μ hJ=>?_
 · dsimp only
   refine dh (by omega) ⟨⟨by omega,by omega⟩,af (fun h=>⟨⟨by omega,by omega⟩,by have:(r.getD n ([],[],())).2.1.length≤1000:=Gt hp hn;rw [bT,Int.toNat_natCast];omega,?_⟩) fun h=>⟨rfl,next fun i hi=>?_⟩⟩
   · exact congrArg (·,()) (ahk hn hJ (beq_iff_eq.1 h)).symm
   · rcases Nat.lt_or_ge i n with h'|h'
     · exact hJ i h'
     · have:i=n:=by omega
       rw [this];exact beq_eq_false_iff_ne.1 h
 · dsimp only
   exact dm (by omega) (congrArg (·,()) (Sp.Jd hJ).symm)
theorem aeG {q:List Sp.bH} {f:Sp.aN} {X:Sp.BX} {a:Nat} (h5:(Sp.nodeAt q a).1≠5) (h6:(Sp.nodeAt q a).1≠6) (h7:(Sp.nodeAt q a).1≠7):Sp.val q f X a=Sp.iP (Sp.nodeAt q a) f X:=by
 rw [Sp.Jy,if_neg h5,if_neg h6,if_neg h7]
theorem apj {q:List Sp.bH} {f:Sp.aN} {X:Sp.BX} {a:Nat} (h5:(Sp.nodeAt q a).1=5) (hl:(Sp.nodeAt q a).2.1.toNat<a):Sp.val q f X a=!Sp.val q f X (Sp.nodeAt q a).2.1.toNat:=by
 rw [Sp.Jy q f X a,if_pos h5,dif_pos hl]
theorem apk {q:List Sp.bH} {f:Sp.aN} {X:Sp.BX} {a:Nat} (h6:(Sp.nodeAt q a).1=6) (hl:(Sp.nodeAt q a).2.1.toNat<a∧(Sp.nodeAt q a).2.2.1.toNat<a):Sp.val q f X a=(Sp.val q f X (Sp.nodeAt q a).2.1.toNat&&Sp.val q f X (Sp.nodeAt q a).2.2.1.toNat):=by
 rw [Sp.Jy q f X a,if_neg (by omega),if_pos h6,dif_pos hl]
theorem arv {q:List Sp.bH} {f:Sp.aN} {X:Sp.BX} {a:Nat} (h7:(Sp.nodeAt q a).1=7) (hl:(Sp.nodeAt q a).2.1.toNat<a∧(Sp.nodeAt q a).2.2.1.toNat<a):Sp.val q f X a=(Sp.val q f X (Sp.nodeAt q a).2.1.toNat||Sp.val q f X (Sp.nodeAt q a).2.2.1.toNat):=by
 rw [Sp.Jy q f X a,if_neg (by omega),if_neg (by omega),if_pos h7,dif_pos hl]
theorem as6 {n:Sp.bH} {f:Sp.aN} {X:Sp.BX} (h:n.1=2):Sp.iP n f X=!((Sp.cO f.2.2.2.2.1 n.2.2.2.1).1==0):=by
 unfold Sp.iP;rw [h];rfl
theorem as7 {n:Sp.bH} {f:Sp.aN} {X:Sp.BX} (h:n.1=3):Sp.iP n f X=decide (Sp.cO f.2.2.2.2.1 n.2.2.2.1=(n.2.2.2.2.1,n.2.2.2.2.2.1,n.2.2.2.2.2.2.1,())):=by
 unfold Sp.iP;rw [h];rfl
theorem as8 {n:Sp.bH} {f:Sp.aN} {X:Sp.BX} (h:n.1=4):Sp.iP n f X=((Sp.cO f.2.2.2.2.1 n.2.2.2.1).1==1&&decide ((Sp.cO f.2.2.2.2.1 n.2.2.2.1).2.1<n.2.2.2.2.2.1)):=by
 unfold Sp.iP;rw [h];rfl
theorem as9 {n:Sp.bH} {f:Sp.aN} {X:Sp.BX} (h:n.1=8):Sp.iP n f X=X n.2.2.2.1 f.1:=by
 unfold Sp.iP;rw [h];rfl
theorem ata {n:Sp.bH} {f:Sp.aN} {X:Sp.BX} (h:n.1=9):Sp.iP n f X=(!(f.2.2.2.1==0)&&X n.2.2.2.1 f.2.2.2.1):=by
 unfold Sp.iP;rw [h];rfl
theorem atb {n:Sp.bH} {f:Sp.aN} {X:Sp.BX} (h2:n.1≠2) (h3:n.1≠3) (h4:n.1≠4) (h8:n.1≠8) (h9:n.1≠9):Sp.iP n f X=true:=by
 unfold Sp.iP
 rw [beq_eq_false_iff_ne.2 h2,beq_eq_false_iff_ne.2 h3,beq_eq_false_iff_ne.2 h4,beq_eq_false_iff_ne.2 h8,beq_eq_false_iff_ne.2 h9];rfl
theorem eq3 (v w:Sp.anW):(v.1==w.1&&(v.2.1==w.2.1&&(v.2.2.1==w.2.2.1&&true)))=decide (v=w):=by
 rw [Bool.eq_iff_iff]
 simp [Prod.ext_iff]
theorem Hu {x y z:Int} (h:x=y) (hne:y≠z):x≠z:=by rw [h];exact hne
theorem aql {n:Sp.bH} {a:Int} (h:Sp.kJ n a=true):n.1=1∨n.1=2∨n.1=3∨n.1=4∨n.1=5∨n.1=6∨n.1=7∨n.1=8∨n.1=9:=by
 unfold Sp.kJ at h
 dsimp only at h
 refine Classical.byContradiction fun hno=>?_
 have e:∀ k:Int,n.1≠k→(n.1==k)=false:=fun k hk=>beq_eq_false_iff_ne.2 hk
 rw [e 1 (fun h=>hno (by simp [h])),e 2 (fun h=>hno (by simp [h])),e 3 (fun h=>hno (by simp [h])),e 4 (fun h=>hno (by simp [h])),e 5 (fun h=>hno (by simp [h])),e 6 (fun h=>hno (by simp [h])),e 7 (fun h=>hno (by simp [h])),e 8 (fun h=>hno (by simp [h])),e 9 (fun h=>hno (by simp [h]))] at h
 cases h
theorem NW [vI] (PL:uw prog G Bc EF):uw prog G Fp D7:=by
 refine NY (aj ah ⟨YZ,EK,⟨PL,NT⟩,ahi,Ht,trivial⟩) ?_
 intro q a f0 f1 f2 f3 f4 r hin hp
 obtain ⟨⟨hq,h0,h1,hr⟩,hm⟩:=hp
 have ha:a.toNat<q.length:=by omega
 obtain ⟨k1,k2⟩:=Sp.MZ hq ha
 have fin:∀ z:Bool,Sp.val q (f0,f1,f2,f3,f4,()) (Sp.bC r) a.toNat=z→(z,())=(Sp.val q (f0,f1,f2,f3,f4,()) (Sp.bC r) a.toNat,()):=fun z h=>by rw [h]
 have leaf:∀ k:Int,k≠5→k≠6→k≠7→(Sp.nodeAt q a.toNat).1=k→Sp.val q (f0,f1,f2,f3,f4,()) (Sp.bC r) a.toNat=Sp.iP (Sp.nodeAt q a.toNat) (f0,f1,f2,f3,f4,()) (Sp.bC r):=fun k a b c h=>aeG (Hu h a) (Hu h b) (Hu h c)
 have kid:∀ k:Int,0≤k→k.toNat<a.toNat→(Sp.bQ q=true∧0≤k∧k<(q.length:Int)∧Sp.bF r)∧k.toNat<uO:=fun k h2 h3=>⟨⟨hq,h2,by omega,hr⟩,by omega⟩
 refine ⟨⟨h0,h1⟩,af (fun h=>⟨trivial,fin _ ((leaf 2 (by decide) (by decide) (by decide) (beq_iff_eq.1 h)).trans (as6 (beq_iff_eq.1 h)))⟩) fun h2=>af (fun h=>⟨trivial,fin _ ((leaf 3 (by decide) (by decide) (by decide) (beq_iff_eq.1 h)).trans ((as7 (beq_iff_eq.1 h)).trans (eq3 _ _).symm))⟩) fun h3=>af (fun h=>⟨trivial,?_⟩) fun h4=>af (fun h=>?_) fun h5=>af (fun h=>?_) fun h6=>af (fun h=>?_) fun h7=>af (fun h=>⟨hr,trivial,fin _ ((leaf 8 (by decide) (by decide) (by decide) (beq_iff_eq.1 h)).trans (as9 (beq_iff_eq.1 h)))⟩) fun h8=>af (fun h=>?_) fun h9=>?_⟩
 · have e:=(leaf 4 (by decide) (by decide) (by decide) (beq_iff_eq.1 h)).trans (as8 (beq_iff_eq.1 h))
   dsimp only at e ⊢
   refine af (fun g=>fin _ (e.trans ?_)) fun g=>fin _ (e.trans ?_)
   · unfold Sp.nodeAt;rw [g];rfl
   · unfold Sp.nodeAt;rw [g];rfl
 · have hk:=k1 (.inl (beq_iff_eq.1 h))
   exact ⟨kid _ hk.1 hk.2,fin _ (apj (beq_iff_eq.1 h) hk.2)⟩
 · have ht:Sp.jP (Sp.nodeAt q a.toNat)=true:=Sp.Ad.2 (.inl (beq_iff_eq.1 h))
   have hk:=k1 (.inr ht)
   have hk2:=k2 ht
   have e:=apk (f:=(f0,f1,f2,f3,f4,())) (X:=Sp.bC r) (beq_iff_eq.1 h) ⟨hk.2,hk2.2⟩
   refine ⟨kid _ hk.1 hk.2,af (fun g=>⟨kid _ hk2.1 hk2.2,fin _ (e.trans ?_)⟩) fun g=>fin _ (e.trans ?_)⟩
   · have g:Sp.val q (f0,f1,f2,f3,f4,()) (Sp.bC r) (Sp.nodeAt q a.toNat).2.1.toNat=true:=g
     rw [g];rfl
   · have g:Sp.val q (f0,f1,f2,f3,f4,()) (Sp.bC r) (Sp.nodeAt q a.toNat).2.1.toNat=false:=g
     rw [g];rfl
 · have ht:Sp.jP (Sp.nodeAt q a.toNat)=true:=Sp.Ad.2 (.inr (beq_iff_eq.1 h))
   have hk:=k1 (.inr ht)
   have hk2:=k2 ht
   have e:=arv (f:=(f0,f1,f2,f3,f4,())) (X:=Sp.bC r) (beq_iff_eq.1 h) ⟨hk.2,hk2.2⟩
   refine ⟨kid _ hk.1 hk.2,af (fun g=>fin _ (e.trans ?_)) fun g=>⟨kid _ hk2.1 hk2.2,fin _ (e.trans ?_)⟩⟩
   · have g:Sp.val q (f0,f1,f2,f3,f4,()) (Sp.bC r) (Sp.nodeAt q a.toNat).2.1.toNat=true:=g
     rw [g];rfl
   · have g:Sp.val q (f0,f1,f2,f3,f4,()) (Sp.bC r) (Sp.nodeAt q a.toNat).2.1.toNat=false:=g
     rw [g];rfl
 · have e:=(leaf 9 (by decide) (by decide) (by decide) (beq_iff_eq.1 h)).trans (ata (beq_iff_eq.1 h))
   refine af (fun g=>⟨hr,trivial,fin _ (e.trans ?_)⟩) fun g=>fin _ (e.trans ?_)
   · have g:(!(f3==0))=true:=g
     dsimp only;rw [g];rfl
   · have g:(!(f3==0))=false:=g
     dsimp only;rw [g];rfl
 · have n2:=beq_eq_false_iff_ne.1 h2
   have n3:=beq_eq_false_iff_ne.1 h3
   have n4:=beq_eq_false_iff_ne.1 h4
   have n8:=beq_eq_false_iff_ne.1 h8
   have n9:=beq_eq_false_iff_ne.1 h9
   exact fin _ ((aeG (beq_eq_false_iff_ne.1 h5) (beq_eq_false_iff_ne.1 h6) (beq_eq_false_iff_ne.1 h7)).trans (atb n2 n3 n4 n8 n9))
theorem abT:uw prog G FT Jj:=
 aq3 (fun n=>@F9 ⟨n⟩) (fun n=>@EW ⟨n⟩) (by rintro ⟨q,at',⟨i,o,s,l,a,⟨⟩⟩,r,⟨⟩⟩ h;exact Nat.not_lt_zero _ h.2) (by rintro _ ⟨q,at',⟨i,o,s,l,a,⟨⟩⟩,r,⟨⟩⟩;rfl) (by rintro ⟨q,at',⟨i,o,s,l,a,⟨⟩⟩,r,⟨⟩⟩ h;exact ⟨_,h,Nat.lt_succ_self _⟩) (by rintro _ ⟨q,at',⟨i,o,s,l,a,⟨⟩⟩,r,⟨⟩⟩;rfl) fun n h=>@NW ⟨n⟩ h
theorem RH [vI] (Ue:uw prog G DF Gg):uw prog G Hg EY:=by
 refine RI (aj ah ⟨Eg,EL,⟨Ue,Rk⟩,OW,trivial⟩) ?_
 intro q a f0 f1 f2 f3 f4 r hin hp
 obtain ⟨⟨hq,h0,h1,hr⟩,hm⟩:=hp
 have ha:a.toNat<q.length:=by omega
 obtain ⟨k1,k2⟩:=Sp.MZ hq ha
 have fin:∀ z:Bool,Sp.val q (f0,f1,f2,f3,f4,()) (Sp.bC r) a.toNat=z→(z,())=(Sp.val q (f0,f1,f2,f3,f4,()) (Sp.bC r) a.toNat,()):=fun z h=>by rw [h]
 have leaf:∀ k:Int,k≠5→k≠6→k≠7→(Sp.nodeAt q a.toNat).1=k→Sp.val q (f0,f1,f2,f3,f4,()) (Sp.bC r) a.toNat=Sp.iP (Sp.nodeAt q a.toNat) (f0,f1,f2,f3,f4,()) (Sp.bC r):=fun k a b c h=>aeG (Hu h a) (Hu h b) (Hu h c)
 have kid:∀ k:Int,0≤k→k.toNat<a.toNat→(Sp.bQ q=true∧0≤k∧k<(q.length:Int)∧Sp.bF r)∧k.toNat<uO:=fun k h2 h3=>⟨⟨hq,h2,by omega,hr⟩,by omega⟩
 refine ⟨⟨h0,h1⟩,trivial,af (fun h=>fin _ ((leaf 1 (by decide) (by decide) (by decide) (beq_iff_eq.1 h)).trans (atb (Hu (beq_iff_eq.1 h) (by decide)) (Hu (beq_iff_eq.1 h) (by decide)) (Hu (beq_iff_eq.1 h) (by decide)) (Hu (beq_iff_eq.1 h) (by decide)) (Hu (beq_iff_eq.1 h) (by decide))))) fun h1=>af (fun h=>fin _ ((leaf 2 (by decide) (by decide) (by decide) (beq_iff_eq.1 h)).trans (as6 (beq_iff_eq.1 h)))) fun h2=>af (fun h=>fin _ ((leaf 3 (by decide) (by decide) (by decide) (beq_iff_eq.1 h)).trans ((as7 (beq_iff_eq.1 h)).trans (eq3 _ _).symm))) fun h3=>af (fun h=>?_) fun h4=>af (fun h=>?_) fun h5=>af (fun h=>?_) fun h6=>af (fun h=>?_) fun h7=>af (fun h=>⟨hr,trivial,fin _ ((leaf 8 (by decide) (by decide) (by decide) (beq_iff_eq.1 h)).trans (as9 (beq_iff_eq.1 h)))⟩) fun h8=>?_⟩
 · have e:=(leaf 4 (by decide) (by decide) (by decide) (beq_iff_eq.1 h)).trans (as8 (beq_iff_eq.1 h))
   dsimp only at e ⊢
   refine af (fun g=>fin _ (e.trans ?_)) fun g=>fin _ (e.trans ?_)
   · unfold Sp.nodeAt;rw [g];rfl
   · unfold Sp.nodeAt;rw [g];rfl
 · have hk:=k1 (.inl (beq_iff_eq.1 h))
   exact ⟨kid _ hk.1 hk.2,fin _ (apj (beq_iff_eq.1 h) hk.2)⟩
 · have ht:Sp.jP (Sp.nodeAt q a.toNat)=true:=Sp.Ad.2 (.inl (beq_iff_eq.1 h))
   have hk:=k1 (.inr ht)
   have hk2:=k2 ht
   have e:=apk (f:=(f0,f1,f2,f3,f4,())) (X:=Sp.bC r) (beq_iff_eq.1 h) ⟨hk.2,hk2.2⟩
   refine ⟨kid _ hk.1 hk.2,af (fun g=>⟨kid _ hk2.1 hk2.2,fin _ (e.trans ?_)⟩) fun g=>fin _ (e.trans ?_)⟩
   · have g:Sp.val q (f0,f1,f2,f3,f4,()) (Sp.bC r) (Sp.nodeAt q a.toNat).2.1.toNat=true:=g
     rw [g];rfl
   · have g:Sp.val q (f0,f1,f2,f3,f4,()) (Sp.bC r) (Sp.nodeAt q a.toNat).2.1.toNat=false:=g
     rw [g];rfl
 · have ht:Sp.jP (Sp.nodeAt q a.toNat)=true:=Sp.Ad.2 (.inr (beq_iff_eq.1 h))
   have hk:=k1 (.inr ht)
   have hk2:=k2 ht
   have e:=arv (f:=(f0,f1,f2,f3,f4,())) (X:=Sp.bC r) (beq_iff_eq.1 h) ⟨hk.2,hk2.2⟩
   refine ⟨kid _ hk.1 hk.2,af (fun g=>fin _ (e.trans ?_)) fun g=>⟨kid _ hk2.1 hk2.2,fin _ (e.trans ?_)⟩⟩
   · have g:Sp.val q (f0,f1,f2,f3,f4,()) (Sp.bC r) (Sp.nodeAt q a.toNat).2.1.toNat=true:=g
     rw [g];rfl
   · have g:Sp.val q (f0,f1,f2,f3,f4,()) (Sp.bC r) (Sp.nodeAt q a.toNat).2.1.toNat=false:=g
     rw [g];rfl
 · have n1:=beq_eq_false_iff_ne.1 h1
   have n2:=beq_eq_false_iff_ne.1 h2
   have n3:=beq_eq_false_iff_ne.1 h3
   have n4:=beq_eq_false_iff_ne.1 h4
   have n5:=beq_eq_false_iff_ne.1 h5
   have n6:=beq_eq_false_iff_ne.1 h6
   have n7:=beq_eq_false_iff_ne.1 h7
   have n8:=beq_eq_false_iff_ne.1 h8
   have h9:(Sp.nodeAt q a.toNat).1=9:=by
    rcases aql (Sp.Na hq ha).1 with h|h|h|h|h|h|h|h|h
    · exact (n1 h).elim
    · exact (n2 h).elim
    · exact (n3 h).elim
    · exact (n4 h).elim
    · exact (n5 h).elim
    · exact (n6 h).elim
    · exact (n7 h).elim
    · exact (n8 h).elim
    · exact h
   have e:=(leaf 9 (by decide) (by decide) (by decide) h9).trans (ata h9)
   refine af (fun g=>⟨hr,trivial,fin _ (e.trans ?_)⟩) fun g=>fin _ (e.trans ?_)
   · have g:(!(f3==0))=true:=g
     dsimp only;rw [g];rfl
   · have g:(!(f3==0))=false:=g
     dsimp only;rw [g];rfl
theorem ahl:uw prog G Iu LV:=
 aq3 (fun n=>@H9 ⟨n⟩) (fun n=>@GI ⟨n⟩) (by rintro ⟨q,at',⟨i,o,s,l,a,⟨⟩⟩,r,⟨⟩⟩ h;exact Nat.not_lt_zero _ h.2) (by rintro _ ⟨q,at',⟨i,o,s,l,a,⟨⟩⟩,r,⟨⟩⟩;rfl) (by rintro ⟨q,at',⟨i,o,s,l,a,⟨⟩⟩,r,⟨⟩⟩ h;exact ⟨_,h,Nat.lt_succ_self _⟩) (by rintro _ ⟨q,at',⟨i,o,s,l,a,⟨⟩⟩,r,⟨⟩⟩;rfl) fun n h=>@RH ⟨n⟩ h
theorem ahm:ai prog G A8.e:=by
 refine ahn (aj ah ⟨⟨abT,YM⟩,CB,trivial⟩) ?_
 intro q f0 f1 f2 f3 f4 r hin hp
 dsimp only [A8] at hp ⊢
 obtain ⟨h1,h2⟩:=hp
 have e:∀ z,Sp.bQ q=z→Sp.iM q (f0,f1,f2,f3,f4,()) (Sp.bC r)=(z&&Sp.val q (f0,f1,f2,f3,f4,()) (Sp.bC r) (q.length-1)):=fun z hz=>by unfold Sp.iM;rw [hz]
 refine ⟨by omega,af (fun h=>?_) fun h=>?_⟩
 · have hl:=Sp.Fv h
   rw [yO (by omega) (by omega)]
   refine ⟨⟨h,by omega,by omega,h2⟩,?_⟩
   rw [e _ h,Int.toNat_natCast];rfl
 · rw [e _ h];rfl
theorem aho:ai prog G Ba.e:=by
 refine ahp (aj ah ⟨⟨ahl,aen⟩,CG,trivial⟩) ?_
 intro q f0 f1 f2 f3 f4 r hin hp
 dsimp only [Ba] at hp ⊢
 obtain ⟨h1,h2⟩:=hp
 have e:∀ z,Sp.bQ q=z→Sp.iM q (f0,f1,f2,f3,f4,()) (Sp.bC r)=(z&&Sp.val q (f0,f1,f2,f3,f4,()) (Sp.bC r) (q.length-1)):=fun z hz=>by unfold Sp.iM;rw [hz]
 refine ⟨by omega,af (fun h=>?_) fun h=>?_⟩
 · have hl:=Sp.Fv h
   rw [yO (by omega) (by omega)]
   refine ⟨⟨h,by omega,by omega,h2⟩,?_⟩
   rw [e _ h,Int.toNat_natCast];rfl
 · rw [e _ h];rfl
theorem Wh:ai prog G vT.e:=by
 refine Wi (aj ah ⟨ahm,trivial⟩) ?_
 intro s0 fs nx q r hin hp
 dsimp only [vT] at hp ⊢
 obtain ⟨h1,h2,h3⟩:=hp
 have hl:fs.length≤1000:=h1.2.1
 exact aeH (K:=fun z=>z=(Sp.sel fs q (Sp.bC r),())) (fun f=>Sp.iM q f (Sp.bC r)) (fun f:Sp.aN=>(f.1,())) (0,0,false,0,[],()) fs _ (A:=fun _=>q.length≤1000∧Sp.bF r) (fun _ _=>⟨h2,h3⟩) (by omega) rfl
theorem Ig:ai prog G rG.e:=by
 refine Wj (aj ah trivial) ?_
 intro a b hin hp
 dsimp only [rG] at hp ⊢
 exact eqL (K:=fun r=>r=(decide (a=b),())) (fun x y:Int×Unit=>x.1 !=y.1) (fun x y=>by simp [Prod.ext_iff]) _ a b _ hin.1.1 rfl
theorem Fz:ai prog G mO.e:=by
 refine PN (aj ah ⟨Ig,trivial⟩) ?_
 intro a0 a1 b0 b1 hin hp
 dsimp only [mO] at hp ⊢
 refine af (fun h0=>⟨trivial,?_⟩) fun h0=>?_
 all_goals refine congrArg (·,()) (Bool.eq_iff_iff.2 ?_)
 · simp [beq_iff_eq.1 h0]
 · simp [show a0≠b0 by simpa using h0]
theorem qU:ai prog G dH.e:=by
 refine qV (aj ah ⟨Fz,trivial⟩) ?_
 intro a b hin hp
 dsimp only [dH] at hp ⊢
 exact asr (K:=fun r=>r=(decide (a=b),())) (fun x y=>!decide (x=y)) (fun x y=>by simp) _ a b _ hin.1.1 rfl
theorem Uf:ai prog G uF.e:=by
 refine Ug (aj ah ⟨Fz,qU,trivial⟩) ?_
 intro a b hin hp
 dsimp only [uF] at hp ⊢
 exact ⟨trivial,rfl⟩
end Go.Proofs.Tryz
