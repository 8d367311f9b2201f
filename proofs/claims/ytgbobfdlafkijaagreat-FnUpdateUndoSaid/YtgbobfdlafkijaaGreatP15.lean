import Derived.Test.YtgbobfdlafkijaaGreatP14
import Derived.Test.YtgbobfdlafkijaaGreatV4
import Derived.Test.YtgbobfdlafkijaaGreatV6
import Derived.Test.YtgbobfdlafkijaaGreatSp
namespace Go.Proofs.Tryz
open Go Go.Fw Go.IntWalk
theorem aeF:∀ {l:List Sp.gy} {n:Nat} {s:Sp.Bytes},n<l.length→(∀ i,i<n→(Sp.cu l i).1≠s)→(Sp.cu l n).1=s→Sp.dF l s=(Sp.cu l n).2
 |[],n,_,h,_,_=>by simp at h
 |x::r,0,s,_,_,e=>by
  have e:x.1=s:=e
  rw [Sp.dF,beq_iff_eq.2 e];rfl
 |x::r,n+1,s,h,hn,e=>by
  have h0:x.1≠s:=hn 0 (by omega)
  rw [Sp.dF,beq_eq_false_iff_ne.2 h0]
  exact aeF (l:=r) (by simpa using h) (fun i hi=>hn (i+1) (by omega)) e
theorem ZA:∀ {l:List Sp.gy} {s:Sp.Bytes},(∀ i,i<l.length→(Sp.cu l i).1≠s)→Sp.dF l s=(0,0,[],())
 |[],_,_=>rfl
 |x::r,s,h=>by
  have h0:x.1≠s:=h 0 (by simp)
  rw [Sp.dF,beq_eq_false_iff_ne.2 h0]
  exact ZA fun i hi=>h (i+1) (by simpa using hi)
theorem Tn:aA prog G qN pG:=by
 refine arK (aC (l:=[]) (au ah) (fun x hx=>by cases hx)) ?_
 intro f0 f1 f2 f3 l s hin hp
 have hlen:l.length≤maxLen:=hin.1.2.2.2.2.1.1
 rw [maxLen_eq] at hlen
 refine jH l.length hlen (fun n=>∀ i,i<n→(Sp.cu l i).1≠s) (fun i hi=>by omega) (fun I μ n hn hJ next=>?_) fun I μ hJ=>?_
 · dsimp only
   refine eF (by omega) ⟨⟨by omega,by omega⟩,af (fun h=>?_) fun h=>⟨rfl,next fun i hi=>?_⟩⟩
   · exact congrArg (·,()) (aeF hn hJ (beq_iff_eq.1 h)).symm
   · rcases Nat.lt_or_ge i n with h'|h'
     · exact hJ i h'
     · have:i=n:=by omega
       rw [this];exact beq_eq_false_iff_ne.1 h
 · dsimp only
   exact eG (by omega) (congrArg (·,()) (ZA hJ).symm)
theorem arL:aA prog G H7 Jo:=by
 refine arM (aC (l:=[]) (au ah) (fun x hx=>by cases hx)) ?_
 intro f0 f1 f2 f3 l s hin hp
 have hlen:l.length≤maxLen:=hin.1.2.2.2.2.1.1
 rw [maxLen_eq] at hlen
 refine jH l.length hlen (fun n=>∀ i,i<n→(Sp.cu l i).1≠s) (fun i hi=>by omega) (fun I μ n hn hJ next=>?_) fun I μ hJ=>?_
 · dsimp only
   refine eF (by omega) ⟨⟨by omega,by omega⟩,af (fun h=>⟨⟨by omega,by omega⟩,?_⟩) fun h=>⟨rfl,next fun i hi=>?_⟩⟩
   · exact congrArg (·,()) (aeF hn hJ (beq_iff_eq.1 h)).symm
   · rcases Nat.lt_or_ge i n with h'|h'
     · exact hJ i h'
     · have:i=n:=by omega
       rw [this];exact beq_eq_false_iff_ne.1 h
 · dsimp only
   exact eG (by omega) (congrArg (·,()) (ZA hJ).symm)
theorem arN:aA prog G H6 Jp:=by
 refine arO (aC (l:=[(qN, .pure pG)]) (au ah) (by simp only [List.forall_mem_cons];exact ⟨⟨Tn,PS⟩,fun x hx=>by cases hx⟩)) ?_
 intro f0 f1 f2 f3 l s hin hp
 refine ⟨trivial,?_⟩
 cases h:((Sp.dF l s).1==1) with
 |true=>dsimp only [bne];rw [h];rfl
 |false=>dsimp only [bne];rw [h];rfl
theorem av6 {α β:Type} [BEq β] [LawfulBEq β] (g:α→β) (v:β) (s:List α):Sp.findAt (fun x=>v==g x) s=Sp.findAt (fun x=>g x==v) s:=by
 congr 1
 funext x
 rw [Bool.eq_iff_iff,beq_iff_eq,beq_iff_eq]
 exact eq_comm
theorem agH:aA prog G zi CB:=by
 refine agI (aC (l:=[]) (au ah) (fun x hx=>by cases hx)) ?_
 intro s v hin hp
 exact aBI (K:=fun r=>r=(Sp.findAt (fun x=>x.1==v) s,())) (fun x:Int×Unit=>v==x.1) (0,()) s _ hin.1.1 (by rw [av6])
theorem abw:aA prog G uU xB:=by
 refine abx (aC (l:=[]) (au ah) (fun x hx=>by cases hx)) ?_
 intro s v hin hp
 exact aBI (K:=fun r=>r=(Sp.findAt (fun x=>x.1==v) s,())) (fun x:List UInt8×Unit=>v==x.1) ([],()) s _ hin.1.1 (by rw [av6])
theorem OV:aA prog G lW mY:=by
 refine aby (aC (l:=[(zi, .pure CB)]) (au ah) (by simp only [List.forall_mem_cons];exact ⟨⟨agH,ael⟩,fun x hx=>by cases hx⟩)) ?_
 intro s v hin hp
 exact ⟨trivial,congrArg (·,()) (aeG _ s)⟩
theorem vM:aA prog G gm gu:=by
 refine Yh (aC (l:=[(uU, .pure xB)]) (au ah) (by simp only [List.forall_mem_cons];exact ⟨⟨abw,Z5⟩,fun x hx=>by cases hx⟩)) ?_
 intro s v hin hp
 exact ⟨trivial,congrArg (·,()) (aeG _ s)⟩
theorem ajr:aA prog G BB Ea:=by
 refine ajs (aC (l:=[(lW, .pure mY)]) (au ah) (by simp only [List.forall_mem_cons];exact ⟨⟨OV,Nu⟩,fun x hx=>by cases hx⟩)) ?_
 intro s v hin hp
 exact ⟨trivial,rfl⟩
theorem V6:aA prog G ru su:=by
 refine ajt (aC (l:=[]) (au ah) (fun x hx=>by cases hx)) ?_
 intro s v hin hp
 exact aFB (K:=fun r=>r=(Sp.dS s v,())) (fun x:Int×Unit=>x.1==v) (0,()) s _ hin.1.1 rfl
theorem Ux:aA prog G pU qC:=by
 refine agJ (aC (l:=[]) (au ah) (fun x hx=>by cases hx)) ?_
 intro s hin hp
 have hp:s.length≤1000:=hp
 intro g hg
 refine af (fun h=>?_) fun h=>⟨by rw [dU];omega,rfl⟩
 exact congrArg (·,()) (List.length_eq_zero_iff.1 (hg h)).symm
abbrev Ep:Sp.dJ:=([],[],())
theorem aaZ {r:List Sp.dJ} (h:Sp.bJ r) {n:Nat} (hn:n<r.length):(r.getD n Ep).2.1.length≤1000:=h.2 _ (getD_mem (d:=Ep) hn)
theorem arP {r:List Sp.dJ} {n:Nat} {s:Sp.Bytes} (hn:n<r.length) (hJ:∀ i,i<n→(Sp.kE r i).1≠s) (e:(Sp.kE r n).1=s):Sp.gV r s=Sp.fK r n:=by
 rw [← e];exact Sp.aju hn fun j hj=>by rw [e];exact hJ j hj
theorem Oi:aA prog G nH mO:=by
 refine al4 (aC (l:=[(pU, .pure qC)]) (au ah) (by simp only [List.forall_mem_cons];exact ⟨⟨Ux,SN⟩,fun x hx=>by cases hx⟩)) ?_
 intro r s hin hp
 have hp:Sp.bJ r:=hp
 have hlen:r.length≤1000:=hp.1
 refine jH r.length (by omega) (fun n=>∀ i,i<n→(Sp.kE r i).1≠s) (fun i hi=>by omega) (fun I μ n hn hJ next=>?_) fun I μ hJ=>?_
 · dsimp only
   refine eF (by omega) ⟨⟨by omega,by omega⟩,af (fun h=>⟨aaZ hp hn,?_⟩) fun h=>⟨rfl,next fun i hi=>?_⟩⟩
   · exact congrArg (·,()) (arP hn hJ (beq_iff_eq.1 h)).symm
   · rcases Nat.lt_or_ge i n with h'|h'
     · exact hJ i h'
     · have:i=n:=by omega
       rw [this];exact beq_eq_false_iff_ne.1 h
 · dsimp only
   exact eG (by omega) (congrArg (·,()) (Sp.Vm hJ).symm)
theorem al5:aA prog G DF EU:=by
 refine al6 (aC (l:=[]) (au ah) (fun x hx=>by cases hx)) ?_
 intro r s hin hp
 have hp:Sp.bJ r:=hp
 have hlen:r.length≤1000:=hp.1
 refine jH r.length (by omega) (fun n=>∀ i,i<n→(Sp.kE r i).1≠s) (fun i hi=>by omega) (fun I μ n hn hJ next=>?_) fun I μ hJ=>?_
 · dsimp only
   refine eF (by omega) ⟨⟨by omega,by omega⟩,af (fun h=>⟨⟨by omega,by omega⟩,by have:(r.getD n ([],[],())).2.1.length≤1000:=aaZ hp hn;rw [dU,Int.toNat_natCast];omega,?_⟩) fun h=>⟨rfl,next fun i hi=>?_⟩⟩
   · exact congrArg (·,()) (arP hn hJ (beq_iff_eq.1 h)).symm
   · rcases Nat.lt_or_ge i n with h'|h'
     · exact hJ i h'
     · have:i=n:=by omega
       rw [this];exact beq_eq_false_iff_ne.1 h
 · dsimp only
   exact eG (by omega) (congrArg (·,()) (Sp.Vm hJ).symm)
theorem ao0 {q:List Sp.bM} {f:Sp.aQ} {X:Sp.BX} {a:Nat} (h5:(Sp.nodeAt q a).1≠5) (h6:(Sp.nodeAt q a).1≠6) (h7:(Sp.nodeAt q a).1≠7):Sp.val q f X a=Sp.jC (Sp.nodeAt q a) f X:=by
 rw [Sp.V7,if_neg h5,if_neg h6,if_neg h7]
theorem azy {q:List Sp.bM} {f:Sp.aQ} {X:Sp.BX} {a:Nat} (h5:(Sp.nodeAt q a).1=5) (hl:(Sp.nodeAt q a).2.1.toNat<a):Sp.val q f X a=!Sp.val q f X (Sp.nodeAt q a).2.1.toNat:=by
 rw [Sp.V7 q f X a,if_pos h5,dif_pos hl]
theorem azz {q:List Sp.bM} {f:Sp.aQ} {X:Sp.BX} {a:Nat} (h6:(Sp.nodeAt q a).1=6) (hl:(Sp.nodeAt q a).2.1.toNat<a∧(Sp.nodeAt q a).2.2.1.toNat<a):Sp.val q f X a=(Sp.val q f X (Sp.nodeAt q a).2.1.toNat&&Sp.val q f X (Sp.nodeAt q a).2.2.1.toNat):=by
 rw [Sp.V7 q f X a,if_neg (by omega),if_pos h6,dif_pos hl]
theorem aBJ {q:List Sp.bM} {f:Sp.aQ} {X:Sp.BX} {a:Nat} (h7:(Sp.nodeAt q a).1=7) (hl:(Sp.nodeAt q a).2.1.toNat<a∧(Sp.nodeAt q a).2.2.1.toNat<a):Sp.val q f X a=(Sp.val q f X (Sp.nodeAt q a).2.1.toNat||Sp.val q f X (Sp.nodeAt q a).2.2.1.toNat):=by
 rw [Sp.V7 q f X a,if_neg (by omega),if_neg (by omega),if_pos h7,dif_pos hl]
theorem aC1 {n:Sp.bM} {f:Sp.aQ} {X:Sp.BX} (h:n.1=2):Sp.jC n f X=!((Sp.dF f.2.2.2.2.1 n.2.2.2.1).1==0):=by
 unfold Sp.jC;rw [h];rfl
theorem aC2 {n:Sp.bM} {f:Sp.aQ} {X:Sp.BX} (h:n.1=3):Sp.jC n f X=decide (Sp.dF f.2.2.2.2.1 n.2.2.2.1=(n.2.2.2.2.1,n.2.2.2.2.2.1,n.2.2.2.2.2.2.1,())):=by
 unfold Sp.jC;rw [h];rfl
theorem aC3 {n:Sp.bM} {f:Sp.aQ} {X:Sp.BX} (h:n.1=4):Sp.jC n f X=((Sp.dF f.2.2.2.2.1 n.2.2.2.1).1==1&&decide ((Sp.dF f.2.2.2.2.1 n.2.2.2.1).2.1<n.2.2.2.2.2.1)):=by
 unfold Sp.jC;rw [h];rfl
theorem aC4 {n:Sp.bM} {f:Sp.aQ} {X:Sp.BX} (h:n.1=8):Sp.jC n f X=X n.2.2.2.1 f.1:=by
 unfold Sp.jC;rw [h];rfl
theorem aC5 {n:Sp.bM} {f:Sp.aQ} {X:Sp.BX} (h:n.1=9):Sp.jC n f X=(!(f.2.2.2.1==0)&&X n.2.2.2.1 f.2.2.2.1):=by
 unfold Sp.jC;rw [h];rfl
theorem aC6 {n:Sp.bM} {f:Sp.aQ} {X:Sp.BX} (h2:n.1≠2) (h3:n.1≠3) (h4:n.1≠4) (h8:n.1≠8) (h9:n.1≠9):Sp.jC n f X=true:=by
 unfold Sp.jC
 rw [beq_eq_false_iff_ne.2 h2,beq_eq_false_iff_ne.2 h3,beq_eq_false_iff_ne.2 h4,beq_eq_false_iff_ne.2 h8,beq_eq_false_iff_ne.2 h9];rfl
theorem eq3 (v w:Sp.ayb):(v.1==w.1&&(v.2.1==w.2.1&&(v.2.2.1==w.2.2.1&&true)))=decide (v=w):=by
 rw [Bool.eq_iff_iff]
 simp [Prod.ext_iff]
theorem Tq {x y z:Int} (h:x=y) (hne:y≠z):x≠z:=by rw [h];exact hne
theorem aAA {n:Sp.bM} {a:Int} (h:Sp.lG n a=true):n.1=1∨n.1=2∨n.1=3∨n.1=4∨n.1=5∨n.1=6∨n.1=7∨n.1=8∨n.1=9:=by
 unfold Sp.lG at h
 dsimp only at h
 refine Classical.byContradiction fun hno=>?_
 have e:∀ k:Int,n.1≠k→(n.1==k)=false:=fun k hk=>beq_eq_false_iff_ne.2 hk
 rw [e 1 (fun h=>hno (by simp [h])),e 2 (fun h=>hno (by simp [h])),e 3 (fun h=>hno (by simp [h])),e 4 (fun h=>hno (by simp [h])),e 5 (fun h=>hno (by simp [h])),e 6 (fun h=>hno (by simp [h])),e 7 (fun h=>hno (by simp [h])),e 8 (fun h=>hno (by simp [h])),e 9 (fun h=>hno (by simp [h]))] at h
 cases h
theorem aaf [yU] (abz:aA prog G AL Ey):aA prog G OU LQ:=by
 refine aag (aC (l:=[(BB, .pure Ea),(nH, .pure mO),(AL, .pure Ey),(H6, .pure Jp),(qN, .pure pG)]) (au ah) (by simp only [List.forall_mem_cons];exact ⟨⟨ajr,agq⟩,⟨Oi,MH⟩,⟨abz,Z7⟩,⟨arN,aoA⟩,⟨Tn,PS⟩,fun x hx=>by cases hx⟩)) ?_
 intro q a f0 f1 f2 f3 f4 r hin hp
 obtain ⟨⟨hq,h0,h1,hr⟩,hm⟩:=hp
 have ha:a.toNat<q.length:=by omega
 obtain ⟨k1,k2⟩:=Sp.ZB hq ha
 have fin:∀ z:Bool,Sp.val q (f0,f1,f2,f3,f4,()) (Sp.bD r) a.toNat=z→(z,())=(Sp.val q (f0,f1,f2,f3,f4,()) (Sp.bD r) a.toNat,()):=fun z h=>by rw [h]
 have leaf:∀ k:Int,k≠5→k≠6→k≠7→(Sp.nodeAt q a.toNat).1=k→Sp.val q (f0,f1,f2,f3,f4,()) (Sp.bD r) a.toNat=Sp.jC (Sp.nodeAt q a.toNat) (f0,f1,f2,f3,f4,()) (Sp.bD r):=fun k a b c h=>ao0 (Tq h a) (Tq h b) (Tq h c)
 have kid:∀ k:Int,0≤k→k.toNat<a.toNat→(Sp.bT q=true∧0≤k∧k<(q.length:Int)∧Sp.bJ r)∧k.toNat<yg:=fun k h2 h3=>⟨⟨hq,h2,by omega,hr⟩,by omega⟩
 refine ⟨⟨h0,h1⟩,af (fun h=>⟨trivial,fin _ ((leaf 2 (by decide) (by decide) (by decide) (beq_iff_eq.1 h)).trans (aC1 (beq_iff_eq.1 h)))⟩) fun h2=>af (fun h=>⟨trivial,fin _ ((leaf 3 (by decide) (by decide) (by decide) (beq_iff_eq.1 h)).trans ((aC2 (beq_iff_eq.1 h)).trans (eq3 _ _).symm))⟩) fun h3=>af (fun h=>⟨trivial,?_⟩) fun h4=>af (fun h=>?_) fun h5=>af (fun h=>?_) fun h6=>af (fun h=>?_) fun h7=>af (fun h=>⟨hr,trivial,fin _ ((leaf 8 (by decide) (by decide) (by decide) (beq_iff_eq.1 h)).trans (aC4 (beq_iff_eq.1 h)))⟩) fun h8=>af (fun h=>?_) fun h9=>?_⟩
 · have e:=(leaf 4 (by decide) (by decide) (by decide) (beq_iff_eq.1 h)).trans (aC3 (beq_iff_eq.1 h))
   dsimp only at e ⊢
   refine af (fun g=>fin _ (e.trans ?_)) fun g=>fin _ (e.trans ?_)
   · unfold Sp.nodeAt;rw [g];rfl
   · unfold Sp.nodeAt;rw [g];rfl
 · have hk:=k1 (.inl (beq_iff_eq.1 h))
   exact ⟨kid _ hk.1 hk.2,fin _ (azy (beq_iff_eq.1 h) hk.2)⟩
 · have ht:Sp.lD (Sp.nodeAt q a.toNat)=true:=Sp.FQ.2 (.inl (beq_iff_eq.1 h))
   have hk:=k1 (.inr ht)
   have hk2:=k2 ht
   have e:=azz (f:=(f0,f1,f2,f3,f4,())) (X:=Sp.bD r) (beq_iff_eq.1 h) ⟨hk.2,hk2.2⟩
   refine ⟨kid _ hk.1 hk.2,af (fun g=>⟨kid _ hk2.1 hk2.2,fin _ (e.trans ?_)⟩) fun g=>fin _ (e.trans ?_)⟩
   · have g:Sp.val q (f0,f1,f2,f3,f4,()) (Sp.bD r) (Sp.nodeAt q a.toNat).2.1.toNat=true:=g
     rw [g];rfl
   · have g:Sp.val q (f0,f1,f2,f3,f4,()) (Sp.bD r) (Sp.nodeAt q a.toNat).2.1.toNat=false:=g
     rw [g];rfl
 · have ht:Sp.lD (Sp.nodeAt q a.toNat)=true:=Sp.FQ.2 (.inr (beq_iff_eq.1 h))
   have hk:=k1 (.inr ht)
   have hk2:=k2 ht
   have e:=aBJ (f:=(f0,f1,f2,f3,f4,())) (X:=Sp.bD r) (beq_iff_eq.1 h) ⟨hk.2,hk2.2⟩
   refine ⟨kid _ hk.1 hk.2,af (fun g=>fin _ (e.trans ?_)) fun g=>⟨kid _ hk2.1 hk2.2,fin _ (e.trans ?_)⟩⟩
   · have g:Sp.val q (f0,f1,f2,f3,f4,()) (Sp.bD r) (Sp.nodeAt q a.toNat).2.1.toNat=true:=g
     rw [g];rfl
   · have g:Sp.val q (f0,f1,f2,f3,f4,()) (Sp.bD r) (Sp.nodeAt q a.toNat).2.1.toNat=false:=g
     rw [g];rfl
 · have e:=(leaf 9 (by decide) (by decide) (by decide) (beq_iff_eq.1 h)).trans (aC5 (beq_iff_eq.1 h))
   refine af (fun g=>⟨hr,trivial,fin _ (e.trans ?_)⟩) fun g=>fin _ (e.trans ?_)
   · have g:(!(f3==0))=true:=g
     dsimp only;rw [g];rfl
   · have g:(!(f3==0))=false:=g
     dsimp only;rw [g];rfl
 · have n2:=beq_eq_false_iff_ne.1 h2
   have n3:=beq_eq_false_iff_ne.1 h3
   have n4:=beq_eq_false_iff_ne.1 h4
   have n8:=beq_eq_false_iff_ne.1 h8
   have n9:=beq_eq_false_iff_ne.1 h9
   exact fin _ ((ao0 (beq_eq_false_iff_ne.1 h5) (beq_eq_false_iff_ne.1 h6) (beq_eq_false_iff_ne.1 h7)).trans (aC6 n2 n3 n4 n8 n9))
theorem al7:aA prog G Jz LM:=
 aBk (fun n=>@Qk ⟨n⟩) (fun n=>@OC ⟨n⟩) (by rintro ⟨q,at',⟨i,o,s,l,a,⟨⟩⟩,r,⟨⟩⟩ h;exact Nat.not_lt_zero _ h.2) (by rintro _ ⟨q,at',⟨i,o,s,l,a,⟨⟩⟩,r,⟨⟩⟩;rfl) (by rintro ⟨q,at',⟨i,o,s,l,a,⟨⟩⟩,r,⟨⟩⟩ h;exact ⟨_,h,Nat.lt_succ_self _⟩) (by rintro _ ⟨q,at',⟨i,o,s,l,a,⟨⟩⟩,r,⟨⟩⟩;rfl) fun n h=>@aaf ⟨n⟩ h
theorem adf [yU] (aeH:aA prog G Eo Hf):aA prog G SQ OE:=by
 refine adg (aC (l:=[(ru, .pure su),(DF, .pure EU),(Eo, .pure Hf),(H7, .pure Jo)]) (au ah) (by simp only [List.forall_mem_cons];exact ⟨⟨V6,Ur⟩,⟨al5,ai7⟩,⟨aeH,acX⟩,⟨arL,aoz⟩,fun x hx=>by cases hx⟩)) ?_
 intro q a f0 f1 f2 f3 f4 r hin hp
 obtain ⟨⟨hq,h0,h1,hr⟩,hm⟩:=hp
 have ha:a.toNat<q.length:=by omega
 obtain ⟨k1,k2⟩:=Sp.ZB hq ha
 have fin:∀ z:Bool,Sp.val q (f0,f1,f2,f3,f4,()) (Sp.bD r) a.toNat=z→(z,())=(Sp.val q (f0,f1,f2,f3,f4,()) (Sp.bD r) a.toNat,()):=fun z h=>by rw [h]
 have leaf:∀ k:Int,k≠5→k≠6→k≠7→(Sp.nodeAt q a.toNat).1=k→Sp.val q (f0,f1,f2,f3,f4,()) (Sp.bD r) a.toNat=Sp.jC (Sp.nodeAt q a.toNat) (f0,f1,f2,f3,f4,()) (Sp.bD r):=fun k a b c h=>ao0 (Tq h a) (Tq h b) (Tq h c)
 have kid:∀ k:Int,0≤k→k.toNat<a.toNat→(Sp.bT q=true∧0≤k∧k<(q.length:Int)∧Sp.bJ r)∧k.toNat<yg:=fun k h2 h3=>⟨⟨hq,h2,by omega,hr⟩,by omega⟩
 refine ⟨⟨h0,h1⟩,trivial,af (fun h=>fin _ ((leaf 1 (by decide) (by decide) (by decide) (beq_iff_eq.1 h)).trans (aC6 (Tq (beq_iff_eq.1 h) (by decide)) (Tq (beq_iff_eq.1 h) (by decide)) (Tq (beq_iff_eq.1 h) (by decide)) (Tq (beq_iff_eq.1 h) (by decide)) (Tq (beq_iff_eq.1 h) (by decide))))) fun h1=>af (fun h=>fin _ ((leaf 2 (by decide) (by decide) (by decide) (beq_iff_eq.1 h)).trans (aC1 (beq_iff_eq.1 h)))) fun h2=>af (fun h=>fin _ ((leaf 3 (by decide) (by decide) (by decide) (beq_iff_eq.1 h)).trans ((aC2 (beq_iff_eq.1 h)).trans (eq3 _ _).symm))) fun h3=>af (fun h=>?_) fun h4=>af (fun h=>?_) fun h5=>af (fun h=>?_) fun h6=>af (fun h=>?_) fun h7=>af (fun h=>⟨hr,trivial,fin _ ((leaf 8 (by decide) (by decide) (by decide) (beq_iff_eq.1 h)).trans (aC4 (beq_iff_eq.1 h)))⟩) fun h8=>?_⟩
 · have e:=(leaf 4 (by decide) (by decide) (by decide) (beq_iff_eq.1 h)).trans (aC3 (beq_iff_eq.1 h))
   dsimp only at e ⊢
   refine af (fun g=>fin _ (e.trans ?_)) fun g=>fin _ (e.trans ?_)
   · unfold Sp.nodeAt;rw [g];rfl
   · unfold Sp.nodeAt;rw [g];rfl
 · have hk:=k1 (.inl (beq_iff_eq.1 h))
   exact ⟨kid _ hk.1 hk.2,fin _ (azy (beq_iff_eq.1 h) hk.2)⟩
 · have ht:Sp.lD (Sp.nodeAt q a.toNat)=true:=Sp.FQ.2 (.inl (beq_iff_eq.1 h))
   have hk:=k1 (.inr ht)
   have hk2:=k2 ht
   have e:=azz (f:=(f0,f1,f2,f3,f4,())) (X:=Sp.bD r) (beq_iff_eq.1 h) ⟨hk.2,hk2.2⟩
   refine ⟨kid _ hk.1 hk.2,af (fun g=>⟨kid _ hk2.1 hk2.2,fin _ (e.trans ?_)⟩) fun g=>fin _ (e.trans ?_)⟩
   · have g:Sp.val q (f0,f1,f2,f3,f4,()) (Sp.bD r) (Sp.nodeAt q a.toNat).2.1.toNat=true:=g
     rw [g];rfl
   · have g:Sp.val q (f0,f1,f2,f3,f4,()) (Sp.bD r) (Sp.nodeAt q a.toNat).2.1.toNat=false:=g
     rw [g];rfl
 · have ht:Sp.lD (Sp.nodeAt q a.toNat)=true:=Sp.FQ.2 (.inr (beq_iff_eq.1 h))
   have hk:=k1 (.inr ht)
   have hk2:=k2 ht
   have e:=aBJ (f:=(f0,f1,f2,f3,f4,())) (X:=Sp.bD r) (beq_iff_eq.1 h) ⟨hk.2,hk2.2⟩
   refine ⟨kid _ hk.1 hk.2,af (fun g=>fin _ (e.trans ?_)) fun g=>⟨kid _ hk2.1 hk2.2,fin _ (e.trans ?_)⟩⟩
   · have g:Sp.val q (f0,f1,f2,f3,f4,()) (Sp.bD r) (Sp.nodeAt q a.toNat).2.1.toNat=true:=g
     rw [g];rfl
   · have g:Sp.val q (f0,f1,f2,f3,f4,()) (Sp.bD r) (Sp.nodeAt q a.toNat).2.1.toNat=false:=g
     rw [g];rfl
 · have n1:=beq_eq_false_iff_ne.1 h1
   have n2:=beq_eq_false_iff_ne.1 h2
   have n3:=beq_eq_false_iff_ne.1 h3
   have n4:=beq_eq_false_iff_ne.1 h4
   have n5:=beq_eq_false_iff_ne.1 h5
   have n6:=beq_eq_false_iff_ne.1 h6
   have n7:=beq_eq_false_iff_ne.1 h7
   have n8:=beq_eq_false_iff_ne.1 h8
   have h9:(Sp.nodeAt q a.toNat).1=9:=by
    rcases aAA (Sp.ZC hq ha).1 with h|h|h|h|h|h|h|h|h
    · exact (n1 h).elim
    · exact (n2 h).elim
    · exact (n3 h).elim
    · exact (n4 h).elim
    · exact (n5 h).elim
    · exact (n6 h).elim
    · exact (n7 h).elim
    · exact (n8 h).elim
    · exact h
   have e:=(leaf 9 (by decide) (by decide) (by decide) h9).trans (aC5 h9)
   refine af (fun g=>⟨hr,trivial,fin _ (e.trans ?_)⟩) fun g=>fin _ (e.trans ?_)
   · have g:(!(f3==0))=true:=g
     dsimp only;rw [g];rfl
   · have g:(!(f3==0))=false:=g
     dsimp only;rw [g];rfl
theorem arQ:aA prog G MR Pn:=
 aBk (fun n=>@Ub ⟨n⟩) (fun n=>@Ru ⟨n⟩) (by rintro ⟨q,at',⟨i,o,s,l,a,⟨⟩⟩,r,⟨⟩⟩ h;exact Nat.not_lt_zero _ h.2) (by rintro _ ⟨q,at',⟨i,o,s,l,a,⟨⟩⟩,r,⟨⟩⟩;rfl) (by rintro ⟨q,at',⟨i,o,s,l,a,⟨⟩⟩,r,⟨⟩⟩ h;exact ⟨_,h,Nat.lt_succ_self _⟩) (by rintro _ ⟨q,at',⟨i,o,s,l,a,⟨⟩⟩,r,⟨⟩⟩;rfl) fun n h=>@adf ⟨n⟩ h
theorem arR:aA prog G H8 Jq:=by
 refine arS (aC (l:=[(Jz, .pure LM),(kD, .pure kK)]) (au ah) (by simp only [List.forall_mem_cons];exact ⟨⟨al7,ai8⟩,⟨JI,Iw⟩,fun x hx=>by cases hx⟩)) ?_
 intro q f0 f1 f2 f3 f4 r hin hp
 obtain ⟨h1,h2⟩:=hp
 have e:∀ z,Sp.bT q=z→Sp.jh q (f0,f1,f2,f3,f4,()) (Sp.bD r)=(z&&Sp.val q (f0,f1,f2,f3,f4,()) (Sp.bD r) (q.length-1)):=fun z hz=>by unfold Sp.jh;rw [hz]
 refine ⟨by omega,af (fun h=>?_) fun h=>?_⟩
 · have hl:=Sp.OW h
   rw [Dt (by omega) (by omega)]
   refine ⟨⟨h,by omega,by omega,h2⟩,?_⟩
   rw [e _ h,Int.toNat_natCast];rfl
 · rw [e _ h];rfl
theorem arT:aA prog G H9 Jr:=by
 refine arU (aC (l:=[(MR, .pure Pn),(kC, .pure kJ)]) (au ah) (by simp only [List.forall_mem_cons];exact ⟨⟨arQ,aoB⟩,⟨JJ,Iu⟩,fun x hx=>by cases hx⟩)) ?_
 intro q f0 f1 f2 f3 f4 r hin hp
 obtain ⟨h1,h2⟩:=hp
 have e:∀ z,Sp.bT q=z→Sp.jh q (f0,f1,f2,f3,f4,()) (Sp.bD r)=(z&&Sp.val q (f0,f1,f2,f3,f4,()) (Sp.bD r) (q.length-1)):=fun z hz=>by unfold Sp.jh;rw [hz]
 refine ⟨by omega,af (fun h=>?_) fun h=>?_⟩
 · have hl:=Sp.OW h
   rw [Dt (by omega) (by omega)]
   refine ⟨⟨h,by omega,by omega,h2⟩,?_⟩
   rw [e _ h,Int.toNat_natCast];rfl
 · rw [e _ h];rfl
theorem agK:aA prog G zk CJ:=by
 refine agL (aC (l:=[(H8, .pure Jq)]) (au ah) (by simp only [List.forall_mem_cons];exact ⟨⟨arR,aoC⟩,fun x hx=>by cases hx⟩)) ?_
 intro s0 fs nx q r hin hp
 obtain ⟨h1,h2,h3⟩:=hp
 have hl:fs.length≤1000:=h1.2.1
 exact ao1 (K:=fun z=>z=(Sp.sel fs q (Sp.bD r),())) (fun f=>Sp.jh q f (Sp.bD r)) (fun f:Sp.aQ=>(f.1,())) (0,0,false,0,[],()) fs _ (A:=fun _=>q.length≤1000∧Sp.bJ r) (fun _ _=>⟨h2,h3⟩) (by omega) rfl
theorem Uy:aA prog G pV qE:=by
 refine agM (aC (l:=[]) (au ah) (fun x hx=>by cases hx)) ?_
 intro a b hin hp
 exact eqL (K:=fun r=>r=(decide (a=b),())) (fun x y:Int×Unit=>x.1 !=y.1) (fun x y=>by simp [Prod.ext_iff]) _ a b _ hin.1.1 rfl
theorem OX:aA prog G lX mZ:=by
 refine abA (aC (l:=[(pV, .pure qE)]) (au ah) (by simp only [List.forall_mem_cons];exact ⟨⟨Uy,SS⟩,fun x hx=>by cases hx⟩)) ?_
 intro a0 a1 b0 b1 hin hp
 refine af (fun h0=>⟨trivial,?_⟩) fun h0=>?_
 all_goals refine congrArg (·,()) (Bool.eq_iff_iff.2 ?_)
 · simp [beq_iff_eq.1 h0]
 · simp [show a0≠b0 by simpa using h0]
theorem ug:aA prog G dL eY:=by
 refine uh (aC (l:=[(lX, .pure mZ)]) (au ah) (by simp only [List.forall_mem_cons];exact ⟨⟨OX,Nv⟩,fun x hx=>by cases hx⟩)) ?_
 intro a b hin hp
 exact aDW (K:=fun r=>r=(decide (a=b),())) (fun x y=>!decide (x=y)) (fun x y=>by simp) _ a b _ hin.1.1 rfl
theorem aeI:aA prog G xQ Aq:=by
 refine aeJ (aC (l:=[(lX, .pure mZ),(dL, .pure eY)]) (au ah) (by simp only [List.forall_mem_cons];exact ⟨⟨OX,Nv⟩,⟨ug,tJ⟩,fun x hx=>by cases hx⟩)) ?_
 intro a b hin hp
 exact ⟨trivial,rfl⟩
end Go.Proofs.Tryz
