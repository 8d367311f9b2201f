import Derived.Test.YtlbkigkbmeckbaaGreatP14
import Derived.Test.YtlbkigkbmeckbaaGreatV4
import Derived.Test.YtlbkigkbmeckbaaGreatV6
import Derived.Test.YtlbkigkbmeckbaaGreatSp
namespace Go.Proofs.Tryz
open Go Go.Fw Go.IntWalk
theorem Sv:∀ {l:List Sp.fZ} {n:Nat} {s:Sp.Bytes},n<l.length→(∀ i,i<n→(Sp.bT l i).1≠s)→(Sp.bT l n).1=s→Sp.gu l s=(Sp.bT l n).2
 |[],n,_,h,_,_=>by simp at h
 |x::r,0,s,_,_,e=>by
  have e:x.1=s:=e
  rw [Sp.gu,beq_iff_eq.2 e];rfl
 |x::r,n+1,s,h,hn,e=>by
  have h0:x.1≠s:=hn 0 (by omega)
  rw [Sp.gu,beq_eq_false_iff_ne.2 h0]
  exact Sv (l:=r) (by simpa using h) (fun i hi=>hn (i+1) (by omega)) e
theorem Lr:∀ {l:List Sp.fZ} {s:Sp.Bytes},(∀ i,i<l.length→(Sp.bT l i).1≠s)→Sp.gu l s=(0,0,[],())
 |[],_,_=>rfl
 |x::r,s,h=>by
  have h0:x.1≠s:=h 0 (by simp)
  rw [Sp.gu,beq_eq_false_iff_ne.2 h0]
  exact Lr fun i hi=>h (i+1) (by simpa using hi)
theorem NQ:ai prog G xu.e:=by
 refine aft (ak ah trivial) ?_
 intro f0 f1 f2 f3 l s hin hp
 dsimp only [xu] at hp ⊢
 have hlen:l.length≤maxLen:=hin.1.2.2.2.2.1.1
 rw [maxLen_eq] at hlen
 refine iV l.length hlen (fun n=>∀ i,i<n→(Sp.bT l i).1≠s) (fun i hi=>by omega) (fun I μ n hn hJ next=>?_) fun I μ hJ=>?_
 · dsimp only
   refine dB (by omega) ⟨⟨by omega,by omega⟩,af (fun h=>?_) fun h=>⟨rfl,next fun i hi=>?_⟩⟩
   · exact congrArg (·,()) (Sv hn hJ (beq_iff_eq.1 h)).symm
   · rcases Nat.lt_or_ge i n with h'|h'
     · exact hJ i h'
     · have:i=n:=by omega
       rw [this];exact beq_eq_false_iff_ne.1 h
 · dsimp only
   exact dD (by omega) (congrArg (·,()) (Lr hJ).symm)
theorem afu:ai prog G zD.e:=by
 refine afv (ak ah trivial) ?_
 intro f0 f1 f2 f3 l s hin hp
 dsimp only [zD] at hp ⊢
 have hlen:l.length≤maxLen:=hin.1.2.2.2.2.1.1
 rw [maxLen_eq] at hlen
 refine iV l.length hlen (fun n=>∀ i,i<n→(Sp.bT l i).1≠s) (fun i hi=>by omega) (fun I μ n hn hJ next=>?_) fun I μ hJ=>?_
 · dsimp only
   refine dB (by omega) ⟨⟨by omega,by omega⟩,af (fun h=>⟨⟨by omega,by omega⟩,?_⟩) fun h=>⟨rfl,next fun i hi=>?_⟩⟩
   · exact congrArg (·,()) (Sv hn hJ (beq_iff_eq.1 h)).symm
   · rcases Nat.lt_or_ge i n with h'|h'
     · exact hJ i h'
     · have:i=n:=by omega
       rw [this];exact beq_eq_false_iff_ne.1 h
 · dsimp only
   exact dD (by omega) (congrArg (·,()) (Lr hJ).symm)
theorem afw:ai prog G zF.e:=by
 refine afx (ak ah ⟨NQ,trivial⟩) ?_
 intro f0 f1 f2 f3 l s hin hp
 dsimp only [zF] at hp ⊢
 refine ⟨trivial,?_⟩
 cases h:((Sp.gu l s).1==1) with
 |true=>dsimp only [bne];rw [h];rfl
 |false=>dsimp only [bne];rw [h];rfl
theorem ajL {α β:Type} [BEq β] [LawfulBEq β] (g:α→β) (v:β) (s:List α):Sp.findAt (fun x=>v==g x) s=Sp.findAt (fun x=>g x==v) s:=by
 congr 1
 funext x
 rw [Bool.eq_iff_iff,beq_iff_eq,beq_iff_eq]
 exact eq_comm
theorem UZ:ai prog G uU.e:=by
 refine U0 (ak ah trivial) ?_
 intro s v hin hp
 dsimp only [uU] at hp ⊢
 exact apT (K:=fun r=>r=(Sp.findAt (fun x=>x.1==v) s,())) (fun x:Int×Unit=>v==x.1) (0,()) s _ hin.1.1 (by rw [ajL])
theorem Ov:ai prog G qi.e:=by
 refine Ox (ak ah trivial) ?_
 intro s v hin hp
 dsimp only [qi] at hp ⊢
 exact apT (K:=fun r=>r=(Sp.findAt (fun x=>x.1==v) s,())) (fun x:List UInt8×Unit=>v==x.1) ([],()) s _ hin.1.1 (by rw [ajL])
theorem D6:ai prog G lg.e:=by
 refine Oy (ak ah ⟨UZ,trivial⟩) ?_
 intro s v hin hp
 dsimp only [lg] at hp ⊢
 exact ⟨trivial,congrArg (·,()) (amc _ s)⟩
theorem wW:ai prog G iQ.e:=by
 refine JI (ak ah ⟨Ov,trivial⟩) ?_
 intro s v hin hp
 dsimp only [iQ] at hp ⊢
 exact ⟨trivial,congrArg (·,()) (amc _ s)⟩
theorem XK:ai prog G wF.e:=by
 refine XL (ak ah ⟨D6,trivial⟩) ?_
 intro s v hin hp
 dsimp only [wF] at hp ⊢
 exact ⟨trivial,rfl⟩
theorem Ik:ai prog G rF.e:=by
 refine XM (ak ah trivial) ?_
 intro s v hin hp
 dsimp only [rF] at hp ⊢
 exact asl (K:=fun r=>r=(Sp.eH s v,())) (fun x:Int×Unit=>x.1==v) (0,()) s _ hin.1.1 rfl
theorem Gq:ai prog G qj.e:=by
 refine U1 (ak ah trivial) ?_
 intro s hin hp
 dsimp only [qj] at hp ⊢
 have hp:s.length≤1000:=hp
 intro g hg
 refine af (fun h=>?_) fun h=>⟨by rw [bV];omega,rfl⟩
 exact congrArg (·,()) (List.length_eq_zero_iff.1 (hg h)).symm
abbrev oQ:Sp.dn:=([],[],())
theorem EO {r:List Sp.dn} (h:Sp.bg r) {n:Nat} (hn:n<r.length):(r.getD n oQ).2.1.length≤1000:=h.2 _ (getD_mem (d:=oQ) hn)
theorem afy {r:List Sp.dn} {n:Nat} {s:Sp.Bytes} (hn:n<r.length) (hJ:∀ i,i<n→(Sp.uH r i).1≠s) (e:(Sp.uH r n).1=s):Sp.eU r s=Sp.iw r n:=by
 rw [← e];exact Sp.XO hn fun j hj=>by rw [e];exact hJ j hj
theorem Dw:ai prog G oV.e:=by
 refine aaf (ak ah ⟨Gq,trivial⟩) ?_
 intro r s hin hp
 dsimp only [oV] at hp ⊢
 have hp:Sp.bg r:=hp
 have hlen:r.length≤1000:=hp.1
 refine iV r.length (by omega) (fun n=>∀ i,i<n→(Sp.uH r i).1≠s) (fun i hi=>by omega) (fun I μ n hn hJ next=>?_) fun I μ hJ=>?_
 · dsimp only
   refine dB (by omega) ⟨⟨by omega,by omega⟩,af (fun h=>⟨EO hp hn,?_⟩) fun h=>⟨rfl,next fun i hi=>?_⟩⟩
   · exact congrArg (·,()) (afy hn hJ (beq_iff_eq.1 h)).symm
   · rcases Nat.lt_or_ge i n with h'|h'
     · exact hJ i h'
     · have:i=n:=by omega
       rw [this];exact beq_eq_false_iff_ne.1 h
 · dsimp only
   exact dD (by omega) (congrArg (·,()) (Sp.Hr hJ).symm)
theorem Dx:ai prog G oW.e:=by
 refine aag (ak ah trivial) ?_
 intro r s hin hp
 dsimp only [oW] at hp ⊢
 have hp:Sp.bg r:=hp
 have hlen:r.length≤1000:=hp.1
 refine iV r.length (by omega) (fun n=>∀ i,i<n→(Sp.uH r i).1≠s) (fun i hi=>by omega) (fun I μ n hn hJ next=>?_) fun I μ hJ=>?_
 · dsimp only
   refine dB (by omega) ⟨⟨by omega,by omega⟩,af (fun h=>⟨⟨by omega,by omega⟩,by have:(r.getD n ([],[],())).2.1.length≤1000:=EO hp hn;rw [bV,Int.toNat_natCast];omega,?_⟩) fun h=>⟨rfl,next fun i hi=>?_⟩⟩
   · exact congrArg (·,()) (afy hn hJ (beq_iff_eq.1 h)).symm
   · rcases Nat.lt_or_ge i n with h'|h'
     · exact hJ i h'
     · have:i=n:=by omega
       rw [this];exact beq_eq_false_iff_ne.1 h
 · dsimp only
   exact dD (by omega) (congrArg (·,()) (Sp.Hr hJ).symm)
theorem ac5 {q:List Sp.bD} {f:Sp.aZ} {X:Sp.BX} {a:Nat} (h5:(Sp.nodeAt q a).1≠5) (h6:(Sp.nodeAt q a).1≠6) (h7:(Sp.nodeAt q a).1≠7):Sp.val q f X a=Sp.jc (Sp.nodeAt q a) f X:=by
 rw [Sp.P7,if_neg h5,if_neg h6,if_neg h7]
theorem anF {q:List Sp.bD} {f:Sp.aZ} {X:Sp.BX} {a:Nat} (h5:(Sp.nodeAt q a).1=5) (hl:(Sp.nodeAt q a).2.1.toNat<a):Sp.val q f X a=!Sp.val q f X (Sp.nodeAt q a).2.1.toNat:=by
 rw [Sp.P7 q f X a,if_pos h5,dif_pos hl]
theorem anG {q:List Sp.bD} {f:Sp.aZ} {X:Sp.BX} {a:Nat} (h6:(Sp.nodeAt q a).1=6) (hl:(Sp.nodeAt q a).2.1.toNat<a∧(Sp.nodeAt q a).2.2.1.toNat<a):Sp.val q f X a=(Sp.val q f X (Sp.nodeAt q a).2.1.toNat&&Sp.val q f X (Sp.nodeAt q a).2.2.1.toNat):=by
 rw [Sp.P7 q f X a,if_neg (by omega),if_pos h6,dif_pos hl]
theorem apU {q:List Sp.bD} {f:Sp.aZ} {X:Sp.BX} {a:Nat} (h7:(Sp.nodeAt q a).1=7) (hl:(Sp.nodeAt q a).2.1.toNat<a∧(Sp.nodeAt q a).2.2.1.toNat<a):Sp.val q f X a=(Sp.val q f X (Sp.nodeAt q a).2.1.toNat||Sp.val q f X (Sp.nodeAt q a).2.2.1.toNat):=by
 rw [Sp.P7 q f X a,if_neg (by omega),if_neg (by omega),if_pos h7,dif_pos hl]
theorem aq7 {n:Sp.bD} {f:Sp.aZ} {X:Sp.BX} (h:n.1=2):Sp.jc n f X=!((Sp.gu f.2.2.2.2.1 n.2.2.2.1).1==0):=by
 unfold Sp.jc;rw [h];rfl
theorem aq8 {n:Sp.bD} {f:Sp.aZ} {X:Sp.BX} (h:n.1=3):Sp.jc n f X=decide (Sp.gu f.2.2.2.2.1 n.2.2.2.1=(n.2.2.2.2.1,n.2.2.2.2.2.1,n.2.2.2.2.2.2.1,())):=by
 unfold Sp.jc;rw [h];rfl
theorem aq9 {n:Sp.bD} {f:Sp.aZ} {X:Sp.BX} (h:n.1=4):Sp.jc n f X=((Sp.gu f.2.2.2.2.1 n.2.2.2.1).1==1&&decide ((Sp.gu f.2.2.2.2.1 n.2.2.2.1).2.1<n.2.2.2.2.2.1)):=by
 unfold Sp.jc;rw [h];rfl
theorem ara {n:Sp.bD} {f:Sp.aZ} {X:Sp.BX} (h:n.1=8):Sp.jc n f X=X n.2.2.2.1 f.1:=by
 unfold Sp.jc;rw [h];rfl
theorem arb {n:Sp.bD} {f:Sp.aZ} {X:Sp.BX} (h:n.1=9):Sp.jc n f X=(!(f.2.2.2.1==0)&&X n.2.2.2.1 f.2.2.2.1):=by
 unfold Sp.jc;rw [h];rfl
theorem ard {n:Sp.bD} {f:Sp.aZ} {X:Sp.BX} (h2:n.1≠2) (h3:n.1≠3) (h4:n.1≠4) (h8:n.1≠8) (h9:n.1≠9):Sp.jc n f X=true:=by
 unfold Sp.jc
 rw [beq_eq_false_iff_ne.2 h2,beq_eq_false_iff_ne.2 h3,beq_eq_false_iff_ne.2 h4,beq_eq_false_iff_ne.2 h8,beq_eq_false_iff_ne.2 h9];rfl
theorem eq3 (v w:Sp.amd):(v.1==w.1&&(v.2.1==w.2.1&&(v.2.2.1==w.2.2.1&&true)))=decide (v=w):=by
 rw [Bool.eq_iff_iff]
 simp [Prod.ext_iff]
theorem FU {x y z:Int} (h:x=y) (hne:y≠z):x≠z:=by rw [h];exact hne
theorem aoJ {n:Sp.bD} {a:Int} (h:Sp.jI n a=true):n.1=1∨n.1=2∨n.1=3∨n.1=4∨n.1=5∨n.1=6∨n.1=7∨n.1=8∨n.1=9:=by
 unfold Sp.jI at h
 dsimp only at h
 refine Classical.byContradiction fun hno=>?_
 have e:∀ k:Int,n.1≠k→(n.1==k)=false:=fun k hk=>beq_eq_false_iff_ne.2 hk
 rw [e 1 (fun h=>hno (by simp [h])),e 2 (fun h=>hno (by simp [h])),e 3 (fun h=>hno (by simp [h])),e 4 (fun h=>hno (by simp [h])),e 5 (fun h=>hno (by simp [h])),e 6 (fun h=>hno (by simp [h])),e 7 (fun h=>hno (by simp [h])),e 8 (fun h=>hno (by simp [h])),e 9 (fun h=>hno (by simp [h]))] at h
 cases h
theorem MH [uN] (Oz:sH prog G zK Dl):sH prog G D5 Cc:=by
 refine MI (ak ah ⟨XK,Dw,⟨Oz,MC⟩,afw,NQ,trivial⟩) ?_
 intro q a f0 f1 f2 f3 f4 r hin hp
 obtain ⟨⟨hq,h0,h1,hr⟩,hm⟩:=hp
 have ha:a.toNat<q.length:=by omega
 obtain ⟨k1,k2⟩:=Sp.Ls hq ha
 have fin:∀ z:Bool,Sp.val q (f0,f1,f2,f3,f4,()) (Sp.aY r) a.toNat=z→(z,())=(Sp.val q (f0,f1,f2,f3,f4,()) (Sp.aY r) a.toNat,()):=fun z h=>by rw [h]
 have leaf:∀ k:Int,k≠5→k≠6→k≠7→(Sp.nodeAt q a.toNat).1=k→Sp.val q (f0,f1,f2,f3,f4,()) (Sp.aY r) a.toNat=Sp.jc (Sp.nodeAt q a.toNat) (f0,f1,f2,f3,f4,()) (Sp.aY r):=fun k a b c h=>ac5 (FU h a) (FU h b) (FU h c)
 have kid:∀ k:Int,0≤k→k.toNat<a.toNat→(Sp.bF q=true∧0≤k∧k<(q.length:Int)∧Sp.bg r)∧k.toNat<sZ:=fun k h2 h3=>⟨⟨hq,h2,by omega,hr⟩,by omega⟩
 refine ⟨⟨h0,h1⟩,af (fun h=>⟨trivial,fin _ ((leaf 2 (by decide) (by decide) (by decide) (beq_iff_eq.1 h)).trans (aq7 (beq_iff_eq.1 h)))⟩) fun h2=>af (fun h=>⟨trivial,fin _ ((leaf 3 (by decide) (by decide) (by decide) (beq_iff_eq.1 h)).trans ((aq8 (beq_iff_eq.1 h)).trans (eq3 _ _).symm))⟩) fun h3=>af (fun h=>⟨trivial,?_⟩) fun h4=>af (fun h=>?_) fun h5=>af (fun h=>?_) fun h6=>af (fun h=>?_) fun h7=>af (fun h=>⟨hr,trivial,fin _ ((leaf 8 (by decide) (by decide) (by decide) (beq_iff_eq.1 h)).trans (ara (beq_iff_eq.1 h)))⟩) fun h8=>af (fun h=>?_) fun h9=>?_⟩
 · have e:=(leaf 4 (by decide) (by decide) (by decide) (beq_iff_eq.1 h)).trans (aq9 (beq_iff_eq.1 h))
   dsimp only at e ⊢
   refine af (fun g=>fin _ (e.trans ?_)) fun g=>fin _ (e.trans ?_)
   · unfold Sp.nodeAt;rw [g];rfl
   · unfold Sp.nodeAt;rw [g];rfl
 · have hk:=k1 (.inl (beq_iff_eq.1 h))
   exact ⟨kid _ hk.1 hk.2,fin _ (anF (beq_iff_eq.1 h) hk.2)⟩
 · have ht:Sp.jl (Sp.nodeAt q a.toNat)=true:=Sp.yX.2 (.inl (beq_iff_eq.1 h))
   have hk:=k1 (.inr ht)
   have hk2:=k2 ht
   have e:=anG (f:=(f0,f1,f2,f3,f4,())) (X:=Sp.aY r) (beq_iff_eq.1 h) ⟨hk.2,hk2.2⟩
   refine ⟨kid _ hk.1 hk.2,af (fun g=>⟨kid _ hk2.1 hk2.2,fin _ (e.trans ?_)⟩) fun g=>fin _ (e.trans ?_)⟩
   · have g:Sp.val q (f0,f1,f2,f3,f4,()) (Sp.aY r) (Sp.nodeAt q a.toNat).2.1.toNat=true:=g
     rw [g];rfl
   · have g:Sp.val q (f0,f1,f2,f3,f4,()) (Sp.aY r) (Sp.nodeAt q a.toNat).2.1.toNat=false:=g
     rw [g];rfl
 · have ht:Sp.jl (Sp.nodeAt q a.toNat)=true:=Sp.yX.2 (.inr (beq_iff_eq.1 h))
   have hk:=k1 (.inr ht)
   have hk2:=k2 ht
   have e:=apU (f:=(f0,f1,f2,f3,f4,())) (X:=Sp.aY r) (beq_iff_eq.1 h) ⟨hk.2,hk2.2⟩
   refine ⟨kid _ hk.1 hk.2,af (fun g=>fin _ (e.trans ?_)) fun g=>⟨kid _ hk2.1 hk2.2,fin _ (e.trans ?_)⟩⟩
   · have g:Sp.val q (f0,f1,f2,f3,f4,()) (Sp.aY r) (Sp.nodeAt q a.toNat).2.1.toNat=true:=g
     rw [g];rfl
   · have g:Sp.val q (f0,f1,f2,f3,f4,()) (Sp.aY r) (Sp.nodeAt q a.toNat).2.1.toNat=false:=g
     rw [g];rfl
 · have e:=(leaf 9 (by decide) (by decide) (by decide) (beq_iff_eq.1 h)).trans (arb (beq_iff_eq.1 h))
   refine af (fun g=>⟨hr,trivial,fin _ (e.trans ?_)⟩) fun g=>fin _ (e.trans ?_)
   · have g:(!(f3==0))=true:=g
     dsimp only;rw [g];rfl
   · have g:(!(f3==0))=false:=g
     dsimp only;rw [g];rfl
 · have n2:=beq_eq_false_iff_ne.1 h2
   have n3:=beq_eq_false_iff_ne.1 h3
   have n4:=beq_eq_false_iff_ne.1 h4
   have n8:=beq_eq_false_iff_ne.1 h8
   have n9:=beq_eq_false_iff_ne.1 h9
   exact fin _ ((ac5 (beq_eq_false_iff_ne.1 h5) (beq_eq_false_iff_ne.1 h6) (beq_eq_false_iff_ne.1 h7)).trans (ard n2 n3 n4 n8 n9))
theorem aah:sH prog G Ei Hz:=
 apw (fun n=>@Ez ⟨n⟩) (fun n=>@DJ ⟨n⟩) (by rintro ⟨q,at',⟨i,o,s,l,a,⟨⟩⟩,r,⟨⟩⟩ h;exact Nat.not_lt_zero _ h.2) (by rintro _ ⟨q,at',⟨i,o,s,l,a,⟨⟩⟩,r,⟨⟩⟩;rfl) (by rintro ⟨q,at',⟨i,o,s,l,a,⟨⟩⟩,r,⟨⟩⟩ h;exact ⟨_,h,Nat.lt_succ_self _⟩) (by rintro _ ⟨q,at',⟨i,o,s,l,a,⟨⟩⟩,r,⟨⟩⟩;rfl) fun n h=>@MH ⟨n⟩ h
theorem P8 [uN] (Sz:sH prog G BM ED):sH prog G FN DL:=by
 refine P9 (ak ah ⟨Ik,Dx,⟨Sz,PK⟩,afu,trivial⟩) ?_
 intro q a f0 f1 f2 f3 f4 r hin hp
 obtain ⟨⟨hq,h0,h1,hr⟩,hm⟩:=hp
 have ha:a.toNat<q.length:=by omega
 obtain ⟨k1,k2⟩:=Sp.Ls hq ha
 have fin:∀ z:Bool,Sp.val q (f0,f1,f2,f3,f4,()) (Sp.aY r) a.toNat=z→(z,())=(Sp.val q (f0,f1,f2,f3,f4,()) (Sp.aY r) a.toNat,()):=fun z h=>by rw [h]
 have leaf:∀ k:Int,k≠5→k≠6→k≠7→(Sp.nodeAt q a.toNat).1=k→Sp.val q (f0,f1,f2,f3,f4,()) (Sp.aY r) a.toNat=Sp.jc (Sp.nodeAt q a.toNat) (f0,f1,f2,f3,f4,()) (Sp.aY r):=fun k a b c h=>ac5 (FU h a) (FU h b) (FU h c)
 have kid:∀ k:Int,0≤k→k.toNat<a.toNat→(Sp.bF q=true∧0≤k∧k<(q.length:Int)∧Sp.bg r)∧k.toNat<sZ:=fun k h2 h3=>⟨⟨hq,h2,by omega,hr⟩,by omega⟩
 refine ⟨⟨h0,h1⟩,trivial,af (fun h=>fin _ ((leaf 1 (by decide) (by decide) (by decide) (beq_iff_eq.1 h)).trans (ard (FU (beq_iff_eq.1 h) (by decide)) (FU (beq_iff_eq.1 h) (by decide)) (FU (beq_iff_eq.1 h) (by decide)) (FU (beq_iff_eq.1 h) (by decide)) (FU (beq_iff_eq.1 h) (by decide))))) fun h1=>af (fun h=>fin _ ((leaf 2 (by decide) (by decide) (by decide) (beq_iff_eq.1 h)).trans (aq7 (beq_iff_eq.1 h)))) fun h2=>af (fun h=>fin _ ((leaf 3 (by decide) (by decide) (by decide) (beq_iff_eq.1 h)).trans ((aq8 (beq_iff_eq.1 h)).trans (eq3 _ _).symm))) fun h3=>af (fun h=>?_) fun h4=>af (fun h=>?_) fun h5=>af (fun h=>?_) fun h6=>af (fun h=>?_) fun h7=>af (fun h=>⟨hr,trivial,fin _ ((leaf 8 (by decide) (by decide) (by decide) (beq_iff_eq.1 h)).trans (ara (beq_iff_eq.1 h)))⟩) fun h8=>?_⟩
 · have e:=(leaf 4 (by decide) (by decide) (by decide) (beq_iff_eq.1 h)).trans (aq9 (beq_iff_eq.1 h))
   dsimp only at e ⊢
   refine af (fun g=>fin _ (e.trans ?_)) fun g=>fin _ (e.trans ?_)
   · unfold Sp.nodeAt;rw [g];rfl
   · unfold Sp.nodeAt;rw [g];rfl
 · have hk:=k1 (.inl (beq_iff_eq.1 h))
   exact ⟨kid _ hk.1 hk.2,fin _ (anF (beq_iff_eq.1 h) hk.2)⟩
 · have ht:Sp.jl (Sp.nodeAt q a.toNat)=true:=Sp.yX.2 (.inl (beq_iff_eq.1 h))
   have hk:=k1 (.inr ht)
   have hk2:=k2 ht
   have e:=anG (f:=(f0,f1,f2,f3,f4,())) (X:=Sp.aY r) (beq_iff_eq.1 h) ⟨hk.2,hk2.2⟩
   refine ⟨kid _ hk.1 hk.2,af (fun g=>⟨kid _ hk2.1 hk2.2,fin _ (e.trans ?_)⟩) fun g=>fin _ (e.trans ?_)⟩
   · have g:Sp.val q (f0,f1,f2,f3,f4,()) (Sp.aY r) (Sp.nodeAt q a.toNat).2.1.toNat=true:=g
     rw [g];rfl
   · have g:Sp.val q (f0,f1,f2,f3,f4,()) (Sp.aY r) (Sp.nodeAt q a.toNat).2.1.toNat=false:=g
     rw [g];rfl
 · have ht:Sp.jl (Sp.nodeAt q a.toNat)=true:=Sp.yX.2 (.inr (beq_iff_eq.1 h))
   have hk:=k1 (.inr ht)
   have hk2:=k2 ht
   have e:=apU (f:=(f0,f1,f2,f3,f4,())) (X:=Sp.aY r) (beq_iff_eq.1 h) ⟨hk.2,hk2.2⟩
   refine ⟨kid _ hk.1 hk.2,af (fun g=>fin _ (e.trans ?_)) fun g=>⟨kid _ hk2.1 hk2.2,fin _ (e.trans ?_)⟩⟩
   · have g:Sp.val q (f0,f1,f2,f3,f4,()) (Sp.aY r) (Sp.nodeAt q a.toNat).2.1.toNat=true:=g
     rw [g];rfl
   · have g:Sp.val q (f0,f1,f2,f3,f4,()) (Sp.aY r) (Sp.nodeAt q a.toNat).2.1.toNat=false:=g
     rw [g];rfl
 · have n1:=beq_eq_false_iff_ne.1 h1
   have n2:=beq_eq_false_iff_ne.1 h2
   have n3:=beq_eq_false_iff_ne.1 h3
   have n4:=beq_eq_false_iff_ne.1 h4
   have n5:=beq_eq_false_iff_ne.1 h5
   have n6:=beq_eq_false_iff_ne.1 h6
   have n7:=beq_eq_false_iff_ne.1 h7
   have n8:=beq_eq_false_iff_ne.1 h8
   have h9:(Sp.nodeAt q a.toNat).1=9:=by
    rcases aoJ (Sp.Lu hq ha).1 with h|h|h|h|h|h|h|h|h
    · exact (n1 h).elim
    · exact (n2 h).elim
    · exact (n3 h).elim
    · exact (n4 h).elim
    · exact (n5 h).elim
    · exact (n6 h).elim
    · exact (n7 h).elim
    · exact (n8 h).elim
    · exact h
   have e:=(leaf 9 (by decide) (by decide) (by decide) h9).trans (arb h9)
   refine af (fun g=>⟨hr,trivial,fin _ (e.trans ?_)⟩) fun g=>fin _ (e.trans ?_)
   · have g:(!(f3==0))=true:=g
     dsimp only;rw [g];rfl
   · have g:(!(f3==0))=false:=g
     dsimp only;rw [g];rfl
theorem afz:sH prog G GH Kw:=
 apw (fun n=>@Gg ⟨n⟩) (fun n=>@E8 ⟨n⟩) (by rintro ⟨q,at',⟨i,o,s,l,a,⟨⟩⟩,r,⟨⟩⟩ h;exact Nat.not_lt_zero _ h.2) (by rintro _ ⟨q,at',⟨i,o,s,l,a,⟨⟩⟩,r,⟨⟩⟩;rfl) (by rintro ⟨q,at',⟨i,o,s,l,a,⟨⟩⟩,r,⟨⟩⟩ h;exact ⟨_,h,Nat.lt_succ_self _⟩) (by rintro _ ⟨q,at',⟨i,o,s,l,a,⟨⟩⟩,r,⟨⟩⟩;rfl) fun n h=>@P8 ⟨n⟩ h
theorem afA:ai prog G zH.e:=by
 refine afB (ak ah ⟨⟨aah,Xv⟩,AL,trivial⟩) ?_
 intro q f0 f1 f2 f3 f4 r hin hp
 dsimp only [zH] at hp ⊢
 obtain ⟨h1,h2⟩:=hp
 have e:∀ z,Sp.bF q=z→Sp.mP q (f0,f1,f2,f3,f4,()) (Sp.aY r)=(z&&Sp.val q (f0,f1,f2,f3,f4,()) (Sp.aY r) (q.length-1)):=fun z hz=>by unfold Sp.mP;rw [hz]
 refine ⟨by omega,af (fun h=>?_) fun h=>?_⟩
 · have hl:=Sp.D7 h
   rw [xC (by omega) (by omega)]
   refine ⟨⟨h,by omega,by omega,h2⟩,?_⟩
   rw [e _ h,Int.toNat_natCast];rfl
 · rw [e _ h];rfl
theorem afC:ai prog G zI.e:=by
 refine afD (ak ah ⟨⟨afz,acL⟩,AO,trivial⟩) ?_
 intro q f0 f1 f2 f3 f4 r hin hp
 dsimp only [zI] at hp ⊢
 obtain ⟨h1,h2⟩:=hp
 have e:∀ z,Sp.bF q=z→Sp.mP q (f0,f1,f2,f3,f4,()) (Sp.aY r)=(z&&Sp.val q (f0,f1,f2,f3,f4,()) (Sp.aY r) (q.length-1)):=fun z hz=>by unfold Sp.mP;rw [hz]
 refine ⟨by omega,af (fun h=>?_) fun h=>?_⟩
 · have hl:=Sp.D7 h
   rw [xC (by omega) (by omega)]
   refine ⟨⟨h,by omega,by omega,h2⟩,?_⟩
   rw [e _ h,Int.toNat_natCast];rfl
 · rw [e _ h];rfl
theorem U2:ai prog G uX.e:=by
 refine U3 (ak ah ⟨afA,trivial⟩) ?_
 intro s0 fs nx q r hin hp
 dsimp only [uX] at hp ⊢
 obtain ⟨h1,h2,h3⟩:=hp
 have hl:fs.length≤1000:=h1.2.1
 exact ac6 (K:=fun z=>z=(Sp.sel fs q (Sp.aY r),())) (fun f=>Sp.mP q f (Sp.aY r)) (fun f:Sp.aZ=>(f.1,())) (0,0,false,0,[],()) fs _ (A:=fun _=>q.length≤1000∧Sp.bg r) (fun _ _=>⟨h2,h3⟩) (by omega) rfl
theorem Gs:ai prog G qm.e:=by
 refine U4 (ak ah trivial) ?_
 intro a b hin hp
 dsimp only [qm] at hp ⊢
 exact eqL (K:=fun r=>r=(decide (a=b),())) (fun x y:Int×Unit=>x.1 !=y.1) (fun x y=>by simp [Prod.ext_iff]) _ a b _ hin.1.1 rfl
theorem D8:ai prog G lq.e:=by
 refine OA (ak ah ⟨Gs,trivial⟩) ?_
 intro a0 a1 b0 b1 hin hp
 dsimp only [lq] at hp ⊢
 refine af (fun h0=>⟨trivial,?_⟩) fun h0=>?_
 all_goals refine congrArg (·,()) (Bool.eq_iff_iff.2 ?_)
 · simp [beq_iff_eq.1 h0]
 · simp [show a0≠b0 by simpa using h0]
theorem pI:ai prog G cu.e:=by
 refine pJ (ak ah ⟨D8,trivial⟩) ?_
 intro a b hin hp
 dsimp only [cu] at hp ⊢
 exact amb (K:=fun r=>r=(decide (a=b),())) (fun x y=>!decide (x=y)) (fun x y=>by simp) _ a b _ hin.1.1 rfl
theorem FV:ai prog G oh.e:=by
 refine SA (ak ah ⟨D8,pI,trivial⟩) ?_
 intro a b hin hp
 dsimp only [oh] at hp ⊢
 exact ⟨trivial,rfl⟩
end Go.Proofs.Tryz
