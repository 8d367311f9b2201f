import Derived.Test.YtlbkigkbmeckbaaGreatP14
import Derived.Test.YtlbkigkbmeckbaaGreatV4
import Derived.Test.YtlbkigkbmeckbaaGreatV6
import Derived.Test.YtlbkigkbmeckbaaGreatSp
namespace Go.Proofs.Tryz
open Go Go.Fw Go.IntWalk
theorem Ve:∀ {l:List Sp.dR} {n:Nat} {s:Sp.Bytes},n<l.length→(∀ i,i<n→(Sp.bT l i).1≠s)→(Sp.bT l n).1=s→Sp.bM l s=(Sp.bT l n).2
 |[],n,_,h,_,_=>by simp at h
 |x::r,0,s,_,_,e=>by
  have e:x.1=s:=e
  rw [Sp.bM,beq_iff_eq.2 e];rfl
 |x::r,n+1,s,h,hn,e=>by
  have h0:x.1≠s:=hn 0 (by omega)
  rw [Sp.bM,beq_eq_false_iff_ne.2 h0]
  exact Ve (l:=r) (by simpa using h) (fun i hi=>hn (i+1) (by omega)) e
theorem Ol:∀ {l:List Sp.dR} {s:Sp.Bytes},(∀ i,i<l.length→(Sp.bT l i).1≠s)→Sp.bM l s=(0,0,[],())
 |[],_,_=>rfl
 |x::r,s,h=>by
  have h0:x.1≠s:=h 0 (by simp)
  rw [Sp.bM,beq_eq_false_iff_ne.2 h0]
  exact Ol fun i hi=>h (i+1) (by simpa using hi)
theorem IU:ai prog G ve.e:=by
 refine aiv (aj ah trivial) ?_
 intro f0 f1 f2 f3 l s hin hp
 dsimp only [ve] at hp ⊢
 have hlen:l.length≤maxLen:=hin.1.2.2.2.2.1.1
 rw [maxLen_eq] at hlen
 refine jd l.length hlen (fun n=>∀ i,i<n→(Sp.bT l i).1≠s) (fun i hi=>by omega) (fun I μ n hn hJ next=>?_) fun I μ hJ=>?_
 · dsimp only
   refine dh (by omega) ⟨⟨by omega,by omega⟩,af (fun h=>?_) fun h=>⟨rfl,next fun i hi=>?_⟩⟩
   · exact congrArg (·,()) (Ve hn hJ (beq_iff_eq.1 h)).symm
   · rcases Nat.lt_or_ge i n with h'|h'
     · exact hJ i h'
     · have:i=n:=by omega
       rw [this];exact beq_eq_false_iff_ne.1 h
 · dsimp only
   exact dm (by omega) (congrArg (·,()) (Ol hJ).symm)
theorem IV:ai prog G vw.e:=by
 refine aiw (aj ah trivial) ?_
 intro f0 f1 f2 f3 l s hin hp
 dsimp only [vw] at hp ⊢
 have hlen:l.length≤maxLen:=hin.1.2.2.2.2.1.1
 rw [maxLen_eq] at hlen
 refine jd l.length hlen (fun n=>∀ i,i<n→(Sp.bT l i).1≠s) (fun i hi=>by omega) (fun I μ n hn hJ next=>?_) fun I μ hJ=>?_
 · dsimp only
   refine dh (by omega) ⟨⟨by omega,by omega⟩,af (fun h=>⟨⟨by omega,by omega⟩,?_⟩) fun h=>⟨rfl,next fun i hi=>?_⟩⟩
   · exact congrArg (·,()) (Ve hn hJ (beq_iff_eq.1 h)).symm
   · rcases Nat.lt_or_ge i n with h'|h'
     · exact hJ i h'
     · have:i=n:=by omega
       rw [this];exact beq_eq_false_iff_ne.1 h
 · dsimp only
   exact dm (by omega) (congrArg (·,()) (Ol hJ).symm)
theorem aix:ai prog G BZ.e:=by
 refine aiy (aj ah ⟨IU,trivial⟩) ?_
 intro f0 f1 f2 f3 l s hin hp
 dsimp only [BZ] at hp ⊢
 refine ⟨trivial,?_⟩
 cases h:((Sp.bM l s).1==1) with
 |true=>dsimp only [bne];rw [h];rfl
 |false=>dsimp only [bne];rw [h];rfl
theorem anc {α β:Type} [BEq β] [LawfulBEq β] (g:α→β) (v:β) (s:List α):Sp.findAt (fun x=>v==g x) s=Sp.findAt (fun x=>g x==v) s:=by
 congr 1
 funext x
 rw [Bool.eq_iff_iff,beq_iff_eq,beq_iff_eq]
 exact eq_comm
theorem XG:ai prog G wB.e:=by
 refine XH (aj ah trivial) ?_
 intro s v hin hp
 dsimp only [wB] at hp ⊢
 exact aty (K:=fun r=>r=(Sp.findAt (fun x=>x.1==v) s,())) (fun x:Int×Unit=>v==x.1) (0,()) s _ hin.1.1 (by rw [anc])
theorem QI:ai prog G rJ.e:=by
 refine QJ (aj ah trivial) ?_
 intro s v hin hp
 dsimp only [rJ] at hp ⊢
 exact aty (K:=fun r=>r=(Sp.findAt (fun x=>x.1==v) s,())) (fun x:List UInt8×Unit=>v==x.1) ([],()) s _ hin.1.1 (by rw [anc])
theorem Gm:ai prog G mZ.e:=by
 refine QK (aj ah ⟨XG,trivial⟩) ?_
 intro s v hin hp
 dsimp only [mZ] at hp ⊢
 exact ⟨trivial,congrArg (·,()) (Vf _ s)⟩
theorem sH:ai prog G iM.e:=by
 refine MX (aj ah ⟨QI,trivial⟩) ?_
 intro s v hin hp
 dsimp only [iM] at hp ⊢
 exact ⟨trivial,congrArg (·,()) (Vf _ s)⟩
theorem aal:ai prog G yx.e:=by
 refine aam (aj ah ⟨Gm,trivial⟩) ?_
 intro s v hin hp
 dsimp only [yx] at hp ⊢
 exact ⟨trivial,rfl⟩
theorem KF:ai prog G tY.e:=by
 refine aan (aj ah trivial) ?_
 intro s v hin hp
 dsimp only [tY] at hp ⊢
 exact auu (K:=fun r=>r=(Sp.fF s v,())) (fun x:Int×Unit=>x.1==v) (0,()) s _ hin.1.1 rfl
theorem Jo:ai prog G rM.e:=by
 refine XI (aj ah trivial) ?_
 intro s hin hp
 dsimp only [rM] at hp ⊢
 have hp:s.length≤1000:=hp
 intro g hg
 refine af (fun h=>?_) fun h=>⟨by rw [bU];omega,rfl⟩
 exact congrArg (·,()) (List.length_eq_zero_iff.1 (hg h)).symm
abbrev qH:Sp.dN:=([],[],())
theorem Hz {r:List Sp.dN} (h:Sp.bH r) {n:Nat} (hn:n<r.length):(r.getD n qH).2.1.length≤1000:=h.2 _ (getD_mem (d:=qH) hn)
theorem aiz {r:List Sp.dN} {n:Nat} {s:Sp.Bytes} (hn:n<r.length) (hJ:∀ i,i<n→(Sp.vW r i).1≠s) (e:(Sp.vW r n).1=s):Sp.fG r s=Sp.iU r n:=by
 rw [← e];exact Sp.aao hn fun j hj=>by rw [e];exact hJ j hj
theorem FP:ai prog G qJ.e:=by
 refine ac3 (aj ah ⟨Jo,trivial⟩) ?_
 intro r s hin hp
 dsimp only [qJ] at hp ⊢
 have hp:Sp.bH r:=hp
 have hlen:r.length≤1000:=hp.1
 refine jd r.length (by omega) (fun n=>∀ i,i<n→(Sp.vW r i).1≠s) (fun i hi=>by omega) (fun I μ n hn hJ next=>?_) fun I μ hJ=>?_
 · dsimp only
   refine dh (by omega) ⟨⟨by omega,by omega⟩,af (fun h=>⟨Hz hp hn,?_⟩) fun h=>⟨rfl,next fun i hi=>?_⟩⟩
   · exact congrArg (·,()) (aiz hn hJ (beq_iff_eq.1 h)).symm
   · rcases Nat.lt_or_ge i n with h'|h'
     · exact hJ i h'
     · have:i=n:=by omega
       rw [this];exact beq_eq_false_iff_ne.1 h
 · dsimp only
   exact dm (by omega) (congrArg (·,()) (Sp.JZ hJ).symm)
theorem FQ:ai prog G qK.e:=by
 refine ac4 (aj ah trivial) ?_
 intro r s hin hp
 dsimp only [qK] at hp ⊢
 have hp:Sp.bH r:=hp
 have hlen:r.length≤1000:=hp.1
 refine jd r.length (by omega) (fun n=>∀ i,i<n→(Sp.vW r i).1≠s) (fun i hi=>by omega) (fun I μ n hn hJ next=>?_) fun I μ hJ=>?_
 · dsimp only
   refine dh (by omega) ⟨⟨by omega,by omega⟩,af (fun h=>⟨⟨by omega,by omega⟩,by have:(r.getD n ([],[],())).2.1.length≤1000:=Hz hp hn;rw [bU,Int.toNat_natCast];omega,?_⟩) fun h=>⟨rfl,next fun i hi=>?_⟩⟩
   · exact congrArg (·,()) (aiz hn hJ (beq_iff_eq.1 h)).symm
   · rcases Nat.lt_or_ge i n with h'|h'
     · exact hJ i h'
     · have:i=n:=by omega
       rw [this];exact beq_eq_false_iff_ne.1 h
 · dsimp only
   exact dm (by omega) (congrArg (·,()) (Sp.JZ hJ).symm)
theorem afM {q:List Sp.bJ} {f:Sp.aK} {X:Sp.BX} {a:Nat} (h5:(Sp.nodeAt q a).1≠5) (h6:(Sp.nodeAt q a).1≠6) (h7:(Sp.nodeAt q a).1≠7):Sp.val q f X a=Sp.ja (Sp.nodeAt q a) f X:=by
 rw [Sp.KG,if_neg h5,if_neg h6,if_neg h7]
theorem aq6 {q:List Sp.bJ} {f:Sp.aK} {X:Sp.BX} {a:Nat} (h5:(Sp.nodeAt q a).1=5) (hl:(Sp.nodeAt q a).2.1.toNat<a):Sp.val q f X a=!Sp.val q f X (Sp.nodeAt q a).2.1.toNat:=by
 rw [Sp.KG q f X a,if_pos h5,dif_pos hl]
theorem aq7 {q:List Sp.bJ} {f:Sp.aK} {X:Sp.BX} {a:Nat} (h6:(Sp.nodeAt q a).1=6) (hl:(Sp.nodeAt q a).2.1.toNat<a∧(Sp.nodeAt q a).2.2.1.toNat<a):Sp.val q f X a=(Sp.val q f X (Sp.nodeAt q a).2.1.toNat&&Sp.val q f X (Sp.nodeAt q a).2.2.1.toNat):=by
 rw [Sp.KG q f X a,if_neg (by omega),if_pos h6,dif_pos hl]
theorem atz {q:List Sp.bJ} {f:Sp.aK} {X:Sp.BX} {a:Nat} (h7:(Sp.nodeAt q a).1=7) (hl:(Sp.nodeAt q a).2.1.toNat<a∧(Sp.nodeAt q a).2.2.1.toNat<a):Sp.val q f X a=(Sp.val q f X (Sp.nodeAt q a).2.1.toNat||Sp.val q f X (Sp.nodeAt q a).2.2.1.toNat):=by
 rw [Sp.KG q f X a,if_neg (by omega),if_neg (by omega),if_pos h7,dif_pos hl]
theorem au1 {n:Sp.bJ} {f:Sp.aK} {X:Sp.BX} (h:n.1=2):Sp.ja n f X=!((Sp.bM f.2.2.2.2.1 n.2.2.2.1).1==0):=by
 unfold Sp.ja;rw [h];rfl
theorem au2 {n:Sp.bJ} {f:Sp.aK} {X:Sp.BX} (h:n.1=3):Sp.ja n f X=decide (Sp.bM f.2.2.2.2.1 n.2.2.2.1=(n.2.2.2.2.1,n.2.2.2.2.2.1,n.2.2.2.2.2.2.1,())):=by
 unfold Sp.ja;rw [h];rfl
theorem au3 {n:Sp.bJ} {f:Sp.aK} {X:Sp.BX} (h:n.1=4):Sp.ja n f X=((Sp.bM f.2.2.2.2.1 n.2.2.2.1).1==1&&decide ((Sp.bM f.2.2.2.2.1 n.2.2.2.1).2.1<n.2.2.2.2.2.1)):=by
 unfold Sp.ja;rw [h];rfl
theorem au4 {n:Sp.bJ} {f:Sp.aK} {X:Sp.BX} (h:n.1=8):Sp.ja n f X=X n.2.2.2.1 f.1:=by
 unfold Sp.ja;rw [h];rfl
theorem au5 {n:Sp.bJ} {f:Sp.aK} {X:Sp.BX} (h:n.1=9):Sp.ja n f X=(!(f.2.2.2.1==0)&&X n.2.2.2.1 f.2.2.2.1):=by
 unfold Sp.ja;rw [h];rfl
theorem au6 {n:Sp.bJ} {f:Sp.aK} {X:Sp.BX} (h2:n.1≠2) (h3:n.1≠3) (h4:n.1≠4) (h8:n.1≠8) (h9:n.1≠9):Sp.ja n f X=true:=by
 unfold Sp.ja
 rw [beq_eq_false_iff_ne.2 h2,beq_eq_false_iff_ne.2 h3,beq_eq_false_iff_ne.2 h4,beq_eq_false_iff_ne.2 h8,beq_eq_false_iff_ne.2 h9];rfl
theorem eq3 (v w:Sp.apF):(v.1==w.1&&(v.2.1==w.2.1&&(v.2.2.1==w.2.2.1&&true)))=decide (v=w):=by
 rw [Bool.eq_iff_iff]
 simp [Prod.ext_iff]
theorem IW {x y z:Int} (h:x=y) (hne:y≠z):x≠z:=by rw [h];exact hne
theorem asl {n:Sp.bJ} {a:Int} (h:Sp.kS n a=true):n.1=1∨n.1=2∨n.1=3∨n.1=4∨n.1=5∨n.1=6∨n.1=7∨n.1=8∨n.1=9:=by
 unfold Sp.kS at h
 dsimp only at h
 refine Classical.byContradiction fun hno=>?_
 have e:∀ k:Int,n.1≠k→(n.1==k)=false:=fun k hk=>beq_eq_false_iff_ne.2 hk
 rw [e 1 (fun h=>hno (by simp [h])),e 2 (fun h=>hno (by simp [h])),e 3 (fun h=>hno (by simp [h])),e 4 (fun h=>hno (by simp [h])),e 5 (fun h=>hno (by simp [h])),e 6 (fun h=>hno (by simp [h])),e 7 (fun h=>hno (by simp [h])),e 8 (fun h=>hno (by simp [h])),e 9 (fun h=>hno (by simp [h]))] at h
 cases h
theorem O6 [vX] (QL:uH prog G Cj FC):uH prog G Gl EO:=by
 refine O7 (aj ah ⟨aal,FP,⟨QL,O3⟩,aix,IU,trivial⟩) ?_
 intro q a f0 f1 f2 f3 f4 r hin hp
 obtain ⟨⟨hq,h0,h1,hr⟩,hm⟩:=hp
 have ha:a.toNat<q.length:=by omega
 obtain ⟨k1,k2⟩:=Sp.Om hq ha
 have fin:∀ z:Bool,Sp.val q (f0,f1,f2,f3,f4,()) (Sp.bD r) a.toNat=z→(z,())=(Sp.val q (f0,f1,f2,f3,f4,()) (Sp.bD r) a.toNat,()):=fun z h=>by rw [h]
 have leaf:∀ k:Int,k≠5→k≠6→k≠7→(Sp.nodeAt q a.toNat).1=k→Sp.val q (f0,f1,f2,f3,f4,()) (Sp.bD r) a.toNat=Sp.ja (Sp.nodeAt q a.toNat) (f0,f1,f2,f3,f4,()) (Sp.bD r):=fun k a b c h=>afM (IW h a) (IW h b) (IW h c)
 have kid:∀ k:Int,0≤k→k.toNat<a.toNat→(Sp.bQ q=true∧0≤k∧k<(q.length:Int)∧Sp.bH r)∧k.toNat<uY:=fun k h2 h3=>⟨⟨hq,h2,by omega,hr⟩,by omega⟩
 refine ⟨⟨h0,h1⟩,af (fun h=>⟨trivial,fin _ ((leaf 2 (by decide) (by decide) (by decide) (beq_iff_eq.1 h)).trans (au1 (beq_iff_eq.1 h)))⟩) fun h2=>af (fun h=>⟨trivial,fin _ ((leaf 3 (by decide) (by decide) (by decide) (beq_iff_eq.1 h)).trans ((au2 (beq_iff_eq.1 h)).trans (eq3 _ _).symm))⟩) fun h3=>af (fun h=>⟨trivial,?_⟩) fun h4=>af (fun h=>?_) fun h5=>af (fun h=>?_) fun h6=>af (fun h=>?_) fun h7=>af (fun h=>⟨hr,trivial,fin _ ((leaf 8 (by decide) (by decide) (by decide) (beq_iff_eq.1 h)).trans (au4 (beq_iff_eq.1 h)))⟩) fun h8=>af (fun h=>?_) fun h9=>?_⟩
 · have e:=(leaf 4 (by decide) (by decide) (by decide) (beq_iff_eq.1 h)).trans (au3 (beq_iff_eq.1 h))
   dsimp only at e ⊢
   refine af (fun g=>fin _ (e.trans ?_)) fun g=>fin _ (e.trans ?_)
   · unfold Sp.nodeAt;rw [g];rfl
   · unfold Sp.nodeAt;rw [g];rfl
 · have hk:=k1 (.inl (beq_iff_eq.1 h))
   exact ⟨kid _ hk.1 hk.2,fin _ (aq6 (beq_iff_eq.1 h) hk.2)⟩
 · have ht:Sp.jR (Sp.nodeAt q a.toNat)=true:=Sp.AP.2 (.inl (beq_iff_eq.1 h))
   have hk:=k1 (.inr ht)
   have hk2:=k2 ht
   have e:=aq7 (f:=(f0,f1,f2,f3,f4,())) (X:=Sp.bD r) (beq_iff_eq.1 h) ⟨hk.2,hk2.2⟩
   refine ⟨kid _ hk.1 hk.2,af (fun g=>⟨kid _ hk2.1 hk2.2,fin _ (e.trans ?_)⟩) fun g=>fin _ (e.trans ?_)⟩
   · have g:Sp.val q (f0,f1,f2,f3,f4,()) (Sp.bD r) (Sp.nodeAt q a.toNat).2.1.toNat=true:=g
     rw [g];rfl
   · have g:Sp.val q (f0,f1,f2,f3,f4,()) (Sp.bD r) (Sp.nodeAt q a.toNat).2.1.toNat=false:=g
     rw [g];rfl
 · have ht:Sp.jR (Sp.nodeAt q a.toNat)=true:=Sp.AP.2 (.inr (beq_iff_eq.1 h))
   have hk:=k1 (.inr ht)
   have hk2:=k2 ht
   have e:=atz (f:=(f0,f1,f2,f3,f4,())) (X:=Sp.bD r) (beq_iff_eq.1 h) ⟨hk.2,hk2.2⟩
   refine ⟨kid _ hk.1 hk.2,af (fun g=>fin _ (e.trans ?_)) fun g=>⟨kid _ hk2.1 hk2.2,fin _ (e.trans ?_)⟩⟩
   · have g:Sp.val q (f0,f1,f2,f3,f4,()) (Sp.bD r) (Sp.nodeAt q a.toNat).2.1.toNat=true:=g
     rw [g];rfl
   · have g:Sp.val q (f0,f1,f2,f3,f4,()) (Sp.bD r) (Sp.nodeAt q a.toNat).2.1.toNat=false:=g
     rw [g];rfl
 · have e:=(leaf 9 (by decide) (by decide) (by decide) (beq_iff_eq.1 h)).trans (au5 (beq_iff_eq.1 h))
   refine af (fun g=>⟨hr,trivial,fin _ (e.trans ?_)⟩) fun g=>fin _ (e.trans ?_)
   · have g:(!(f3==0))=true:=g
     dsimp only;rw [g];rfl
   · have g:(!(f3==0))=false:=g
     dsimp only;rw [g];rfl
 · have n2:=beq_eq_false_iff_ne.1 h2
   have n3:=beq_eq_false_iff_ne.1 h3
   have n4:=beq_eq_false_iff_ne.1 h4
   have n8:=beq_eq_false_iff_ne.1 h8
   have n9:=beq_eq_false_iff_ne.1 h9
   exact fin _ ((afM (beq_eq_false_iff_ne.1 h5) (beq_eq_false_iff_ne.1 h6) (beq_eq_false_iff_ne.1 h7)).trans (au6 n2 n3 n4 n8 n9))
theorem ac5:uH prog G GI J9:=
 as9 (fun n=>@G8 ⟨n⟩) (fun n=>@FZ ⟨n⟩) (by rintro ⟨q,at',⟨i,o,s,l,a,⟨⟩⟩,r,⟨⟩⟩ h;exact Nat.not_lt_zero _ h.2) (by rintro _ ⟨q,at',⟨i,o,s,l,a,⟨⟩⟩,r,⟨⟩⟩;rfl) (by rintro ⟨q,at',⟨i,o,s,l,a,⟨⟩⟩,r,⟨⟩⟩ h;exact ⟨_,h,Nat.lt_succ_self _⟩) (by rintro _ ⟨q,at',⟨i,o,s,l,a,⟨⟩⟩,r,⟨⟩⟩;rfl) fun n h=>@O6 ⟨n⟩ h
theorem TL [vX] (Vg:uH prog G Ew He):uH prog G IG F6:=by
 refine TM (aj ah ⟨KF,FQ,⟨Vg,Ti⟩,IV,trivial⟩) ?_
 intro q a f0 f1 f2 f3 f4 r hin hp
 obtain ⟨⟨hq,h0,h1,hr⟩,hm⟩:=hp
 have ha:a.toNat<q.length:=by omega
 obtain ⟨k1,k2⟩:=Sp.Om hq ha
 have fin:∀ z:Bool,Sp.val q (f0,f1,f2,f3,f4,()) (Sp.bD r) a.toNat=z→(z,())=(Sp.val q (f0,f1,f2,f3,f4,()) (Sp.bD r) a.toNat,()):=fun z h=>by rw [h]
 have leaf:∀ k:Int,k≠5→k≠6→k≠7→(Sp.nodeAt q a.toNat).1=k→Sp.val q (f0,f1,f2,f3,f4,()) (Sp.bD r) a.toNat=Sp.ja (Sp.nodeAt q a.toNat) (f0,f1,f2,f3,f4,()) (Sp.bD r):=fun k a b c h=>afM (IW h a) (IW h b) (IW h c)
 have kid:∀ k:Int,0≤k→k.toNat<a.toNat→(Sp.bQ q=true∧0≤k∧k<(q.length:Int)∧Sp.bH r)∧k.toNat<uY:=fun k h2 h3=>⟨⟨hq,h2,by omega,hr⟩,by omega⟩
 refine ⟨⟨h0,h1⟩,trivial,af (fun h=>fin _ ((leaf 1 (by decide) (by decide) (by decide) (beq_iff_eq.1 h)).trans (au6 (IW (beq_iff_eq.1 h) (by decide)) (IW (beq_iff_eq.1 h) (by decide)) (IW (beq_iff_eq.1 h) (by decide)) (IW (beq_iff_eq.1 h) (by decide)) (IW (beq_iff_eq.1 h) (by decide))))) fun h1=>af (fun h=>fin _ ((leaf 2 (by decide) (by decide) (by decide) (beq_iff_eq.1 h)).trans (au1 (beq_iff_eq.1 h)))) fun h2=>af (fun h=>fin _ ((leaf 3 (by decide) (by decide) (by decide) (beq_iff_eq.1 h)).trans ((au2 (beq_iff_eq.1 h)).trans (eq3 _ _).symm))) fun h3=>af (fun h=>?_) fun h4=>af (fun h=>?_) fun h5=>af (fun h=>?_) fun h6=>af (fun h=>?_) fun h7=>af (fun h=>⟨hr,trivial,fin _ ((leaf 8 (by decide) (by decide) (by decide) (beq_iff_eq.1 h)).trans (au4 (beq_iff_eq.1 h)))⟩) fun h8=>?_⟩
 · have e:=(leaf 4 (by decide) (by decide) (by decide) (beq_iff_eq.1 h)).trans (au3 (beq_iff_eq.1 h))
   dsimp only at e ⊢
   refine af (fun g=>fin _ (e.trans ?_)) fun g=>fin _ (e.trans ?_)
   · unfold Sp.nodeAt;rw [g];rfl
   · unfold Sp.nodeAt;rw [g];rfl
 · have hk:=k1 (.inl (beq_iff_eq.1 h))
   exact ⟨kid _ hk.1 hk.2,fin _ (aq6 (beq_iff_eq.1 h) hk.2)⟩
 · have ht:Sp.jR (Sp.nodeAt q a.toNat)=true:=Sp.AP.2 (.inl (beq_iff_eq.1 h))
   have hk:=k1 (.inr ht)
   have hk2:=k2 ht
   have e:=aq7 (f:=(f0,f1,f2,f3,f4,())) (X:=Sp.bD r) (beq_iff_eq.1 h) ⟨hk.2,hk2.2⟩
   refine ⟨kid _ hk.1 hk.2,af (fun g=>⟨kid _ hk2.1 hk2.2,fin _ (e.trans ?_)⟩) fun g=>fin _ (e.trans ?_)⟩
   · have g:Sp.val q (f0,f1,f2,f3,f4,()) (Sp.bD r) (Sp.nodeAt q a.toNat).2.1.toNat=true:=g
     rw [g];rfl
   · have g:Sp.val q (f0,f1,f2,f3,f4,()) (Sp.bD r) (Sp.nodeAt q a.toNat).2.1.toNat=false:=g
     rw [g];rfl
 · have ht:Sp.jR (Sp.nodeAt q a.toNat)=true:=Sp.AP.2 (.inr (beq_iff_eq.1 h))
   have hk:=k1 (.inr ht)
   have hk2:=k2 ht
   have e:=atz (f:=(f0,f1,f2,f3,f4,())) (X:=Sp.bD r) (beq_iff_eq.1 h) ⟨hk.2,hk2.2⟩
   refine ⟨kid _ hk.1 hk.2,af (fun g=>fin _ (e.trans ?_)) fun g=>⟨kid _ hk2.1 hk2.2,fin _ (e.trans ?_)⟩⟩
   · have g:Sp.val q (f0,f1,f2,f3,f4,()) (Sp.bD r) (Sp.nodeAt q a.toNat).2.1.toNat=true:=g
     rw [g];rfl
   · have g:Sp.val q (f0,f1,f2,f3,f4,()) (Sp.bD r) (Sp.nodeAt q a.toNat).2.1.toNat=false:=g
     rw [g];rfl
 · have n1:=beq_eq_false_iff_ne.1 h1
   have n2:=beq_eq_false_iff_ne.1 h2
   have n3:=beq_eq_false_iff_ne.1 h3
   have n4:=beq_eq_false_iff_ne.1 h4
   have n5:=beq_eq_false_iff_ne.1 h5
   have n6:=beq_eq_false_iff_ne.1 h6
   have n7:=beq_eq_false_iff_ne.1 h7
   have n8:=beq_eq_false_iff_ne.1 h8
   have h9:(Sp.nodeAt q a.toNat).1=9:=by
    rcases asl (Sp.Oo hq ha).1 with h|h|h|h|h|h|h|h|h
    · exact (n1 h).elim
    · exact (n2 h).elim
    · exact (n3 h).elim
    · exact (n4 h).elim
    · exact (n5 h).elim
    · exact (n6 h).elim
    · exact (n7 h).elim
    · exact (n8 h).elim
    · exact h
   have e:=(leaf 9 (by decide) (by decide) (by decide) h9).trans (au5 h9)
   refine af (fun g=>⟨hr,trivial,fin _ (e.trans ?_)⟩) fun g=>fin _ (e.trans ?_)
   · have g:(!(f3==0))=true:=g
     dsimp only;rw [g];rfl
   · have g:(!(f3==0))=false:=g
     dsimp only;rw [g];rfl
theorem aiA:uH prog G Jy ND:=
 as9 (fun n=>@Jh ⟨n⟩) (fun n=>@Ie ⟨n⟩) (by rintro ⟨q,at',⟨i,o,s,l,a,⟨⟩⟩,r,⟨⟩⟩ h;exact Nat.not_lt_zero _ h.2) (by rintro _ ⟨q,at',⟨i,o,s,l,a,⟨⟩⟩,r,⟨⟩⟩;rfl) (by rintro ⟨q,at',⟨i,o,s,l,a,⟨⟩⟩,r,⟨⟩⟩ h;exact ⟨_,h,Nat.lt_succ_self _⟩) (by rintro _ ⟨q,at',⟨i,o,s,l,a,⟨⟩⟩,r,⟨⟩⟩;rfl) fun n h=>@TL ⟨n⟩ h
theorem aiB:ai prog G Cc.e:=by
 refine aiC (aj ah ⟨⟨ac5,Z5⟩,DL,trivial⟩) ?_
 intro q f0 f1 f2 f3 f4 r hin hp
 dsimp only [Cc] at hp ⊢
 obtain ⟨h1,h2⟩:=hp
 have e:∀ z,Sp.bQ q=z→Sp.iW q (f0,f1,f2,f3,f4,()) (Sp.bD r)=(z&&Sp.val q (f0,f1,f2,f3,f4,()) (Sp.bD r) (q.length-1)):=fun z hz=>by unfold Sp.iW;rw [hz]
 refine ⟨by omega,af (fun h=>?_) fun h=>?_⟩
 · have hl:=Sp.Gn h
   rw [zo (by omega) (by omega)]
   refine ⟨⟨h,by omega,by omega,h2⟩,?_⟩
   rw [e _ h,Int.toNat_natCast];rfl
 · rw [e _ h];rfl
theorem aiD:ai prog G Ce.e:=by
 refine aiE (aj ah ⟨⟨aiA,afu⟩,DN,trivial⟩) ?_
 intro q f0 f1 f2 f3 f4 r hin hp
 dsimp only [Ce] at hp ⊢
 obtain ⟨h1,h2⟩:=hp
 have e:∀ z,Sp.bQ q=z→Sp.iW q (f0,f1,f2,f3,f4,()) (Sp.bD r)=(z&&Sp.val q (f0,f1,f2,f3,f4,()) (Sp.bD r) (q.length-1)):=fun z hz=>by unfold Sp.iW;rw [hz]
 refine ⟨by omega,af (fun h=>?_) fun h=>?_⟩
 · have hl:=Sp.Gn h
   rw [zo (by omega) (by omega)]
   refine ⟨⟨h,by omega,by omega,h2⟩,?_⟩
   rw [e _ h,Int.toNat_natCast];rfl
 · rw [e _ h];rfl
theorem XJ:ai prog G wE.e:=by
 refine XK (aj ah ⟨aiB,trivial⟩) ?_
 intro s0 fs nx q r hin hp
 dsimp only [wE] at hp ⊢
 obtain ⟨h1,h2,h3⟩:=hp
 have hl:fs.length≤1000:=h1.2.1
 exact afN (K:=fun z=>z=(Sp.sel fs q (Sp.bD r),())) (fun f=>Sp.iW q f (Sp.bD r)) (fun f:Sp.aK=>(f.1,())) (0,0,false,0,[],()) fs _ (A:=fun _=>q.length≤1000∧Sp.bH r) (fun _ _=>⟨h2,h3⟩) (by omega) rfl
theorem Jp:ai prog G rP.e:=by
 refine XL (aj ah trivial) ?_
 intro a b hin hp
 dsimp only [rP] at hp ⊢
 exact eqL (K:=fun r=>r=(decide (a=b),())) (fun x y:Int×Unit=>x.1 !=y.1) (fun x y=>by simp [Prod.ext_iff]) _ a b _ hin.1.1 rfl
theorem Gp:ai prog G ng.e:=by
 refine QM (aj ah ⟨Jp,trivial⟩) ?_
 intro a0 a1 b0 b1 hin hp
 dsimp only [ng] at hp ⊢
 refine af (fun h0=>⟨trivial,?_⟩) fun h0=>?_
 all_goals refine congrArg (·,()) (Bool.eq_iff_iff.2 ?_)
 · simp [beq_iff_eq.1 h0]
 · simp [show a0≠b0 by simpa using h0]
theorem qX:ai prog G dF.e:=by
 refine qY (aj ah ⟨Gp,trivial⟩) ?_
 intro a b hin hp
 dsimp only [dF] at hp ⊢
 exact av5 (K:=fun r=>r=(decide (a=b),())) (fun x y=>!decide (x=y)) (fun x y=>by simp) _ a b _ hin.1.1 rfl
theorem Vh:ai prog G uN.e:=by
 refine Vj (aj ah ⟨Gp,qX,trivial⟩) ?_
 intro a b hin hp
 dsimp only [uN] at hp ⊢
 exact ⟨trivial,rfl⟩
end Go.Proofs.Tryz
