import Derived.Test.YtgbobfdlafkijaaGreatP14
import Derived.Test.YtgbobfdlafkijaaGreatV4
import Derived.Test.YtgbobfdlafkijaaGreatV6
import Derived.Test.YtgbobfdlafkijaaGreatSp
namespace Go.Proofs.Tryz
open Go Go.Fw Go.IntWalk
theorem ag2:∀ {l:List Sp.gZ} {n:Nat} {s:Sp.Bytes},n<l.length→(∀ i,i<n→(Sp.dB l i).1≠s)→(Sp.dB l n).1=s→Sp.dF l s=(Sp.dB l n).2
 |[],n,_,h,_,_=>by simp at h
 |x::r,0,s,_,_,e=>by
  have e:x.1=s:=e
  rw [Sp.dF,beq_iff_eq.2 e];rfl
 |x::r,n+1,s,h,hn,e=>by
  have h0:x.1≠s:=hn 0 (by omega)
  rw [Sp.dF,beq_eq_false_iff_ne.2 h0]
  exact ag2 (l:=r) (by simpa using h) (fun i hi=>hn (i+1) (by omega)) e
theorem abW:∀ {l:List Sp.gZ} {s:Sp.Bytes},(∀ i,i<l.length→(Sp.dB l i).1≠s)→Sp.dF l s=(0,0,[],())
 |[],_,_=>rfl
 |x::r,s,h=>by
  have h0:x.1≠s:=h 0 (by simp)
  rw [Sp.dF,beq_eq_false_iff_ne.2 h0]
  exact abW fun i hi=>h (i+1) (by simpa using hi)
theorem VE:aA prog G sH qI:=by
 refine avc (aB (l:=[]) (au ah) (fun x hx=>by cases hx)) ?_
 intro f0 f1 f2 f3 l s hin hp
 have hlen:l.length≤maxLen:=hin.1.2.2.2.2.1.1
 rw [maxLen_eq] at hlen
 refine ku l.length hlen (fun n=>∀ i,i<n→(Sp.dB l i).1≠s) (fun i hi=>by omega) (fun I μ n hn hJ next=>?_) fun I μ hJ=>?_
 · dsimp only
   refine dW (by omega) ⟨⟨by omega,by omega⟩,af (fun h=>?_) fun h=>⟨rfl,next fun i hi=>?_⟩⟩
   · exact congrArg (·,()) (ag2 hn hJ (beq_iff_eq.1 h)).symm
   · rcases Nat.lt_or_ge i n with h'|h'
     · exact hJ i h'
     · have:i=n:=by omega
       rw [this];exact beq_eq_false_iff_ne.1 h
 · dsimp only
   exact dX (by omega) (congrArg (·,()) (abW hJ).symm)
theorem adv:aA prog G zQ zK:=by
 refine avd (aB (l:=[]) (au ah) (fun x hx=>by cases hx)) ?_
 intro f0 f1 f2 f3 l s hin hp
 have hlen:l.length≤maxLen:=hin.1.2.2.2.2.1.1
 rw [maxLen_eq] at hlen
 refine ku l.length hlen (fun n=>∀ i,i<n→(Sp.dB l i).1≠s) (fun i hi=>by omega) (fun I μ n hn hJ next=>?_) fun I μ hJ=>?_
 · dsimp only
   refine dW (by omega) ⟨⟨by omega,by omega⟩,af (fun h=>⟨⟨by omega,by omega⟩,?_⟩) fun h=>⟨rfl,next fun i hi=>?_⟩⟩
   · exact congrArg (·,()) (ag2 hn hJ (beq_iff_eq.1 h)).symm
   · rcases Nat.lt_or_ge i n with h'|h'
     · exact hJ i h'
     · have:i=n:=by omega
       rw [this];exact beq_eq_false_iff_ne.1 h
 · dsimp only
   exact dX (by omega) (congrArg (·,()) (abW hJ).symm)
theorem ave:aA prog G Jz KX:=by
 refine avf (aB (l:=[(sH, .pure qI)]) (au ah) (by simp only [List.forall_mem_cons];exact ⟨⟨VE,SA⟩,fun x hx=>by cases hx⟩)) ?_
 intro f0 f1 f2 f3 l s hin hp
 refine ⟨trivial,?_⟩
 cases h:((Sp.dF l s).1==1) with
 |true=>dsimp only [bne];rw [h];rfl
 |false=>dsimp only [bne];rw [h];rfl
theorem azs {α β:Type} [BEq β] [LawfulBEq β] (g:α→β) (v:β) (s:List α):Sp.findAt (fun x=>v==g x) s=Sp.findAt (fun x=>g x==v) s:=by
 congr 1
 funext x
 rw [Bool.eq_iff_iff,beq_iff_eq,beq_iff_eq]
 exact eq_comm
theorem aje:aA prog G Aq Ef:=by
 refine ajf (aB (l:=[]) (au ah) (fun x hx=>by cases hx)) ?_
 intro s v hin hp
 exact aET (K:=fun r=>r=(Sp.findAt (fun x=>x.1==v) s,())) (fun x:Int×Unit=>v==x.1) (0,()) s _ hin.1.1 (by rw [azs])
theorem ad2:aA prog G wP yN:=by
 refine ad3 (aB (l:=[]) (au ah) (fun x hx=>by cases hx)) ?_
 intro s v hin hp
 exact aET (K:=fun r=>r=(Sp.findAt (fun x=>x.1==v) s,())) (fun x:List UInt8×Unit=>v==x.1) ([],()) s _ hin.1.1 (by rw [azs])
theorem Q8:aA prog G nD oz:=by
 refine ad4 (aB (l:=[(Aq, .pure Ef)]) (au ah) (by simp only [List.forall_mem_cons];exact ⟨⟨aje,agI⟩,fun x hx=>by cases hx⟩)) ?_
 intro s v hin hp
 exact ⟨trivial,congrArg (·,()) (ag3 _ s)⟩
theorem xB:aA prog G iw iy:=by
 refine aau (aB (l:=[(wP, .pure yN)]) (au ah) (by simp only [List.forall_mem_cons];exact ⟨⟨ad2,acz⟩,fun x hx=>by cases hx⟩)) ?_
 intro s v hin hp
 exact ⟨trivial,congrArg (·,()) (ag3 _ s)⟩
theorem ama:aA prog G Dy FP:=by
 refine amb (aB (l:=[(nD, .pure oz)]) (au ah) (by simp only [List.forall_mem_cons];exact ⟨⟨Q8,PD⟩,fun x hx=>by cases hx⟩)) ?_
 intro s v hin hp
 exact ⟨trivial,rfl⟩
theorem Yz:aA prog G tu uy:=by
 refine amc (aB (l:=[]) (au ah) (fun x hx=>by cases hx)) ?_
 intro s v hin hp
 exact aFC (K:=fun r=>r=(Sp.gu s v,())) (fun x:Int×Unit=>x.1==v) (0,()) s _ hin.1.1 rfl
theorem WI:aA prog G qN rP:=by
 refine ajg (aB (l:=[]) (au ah) (fun x hx=>by cases hx)) ?_
 intro s hin hp
 have hp:s.length≤1000:=hp
 intro g hg
 refine af (fun h=>?_) fun h=>⟨by rw [dS];omega,rfl⟩
 exact congrArg (·,()) (List.length_eq_zero_iff.1 (hg h)).symm
abbrev vG:Sp.eY:=([],[],())
theorem Ub {r:List Sp.eY} (h:Sp.aZ r) {n:Nat} (hn:n<r.length):(r.getD n vG).2.1.length≤1000:=h.2 _ (getD_mem (d:=vG) hn)
theorem avg {r:List Sp.eY} {n:Nat} {s:Sp.Bytes} (hn:n<r.length) (hJ:∀ i,i<n→(Sp.Ad r i).1≠s) (e:(Sp.Ad r n).1=s):Sp.gW r s=Sp.jS r n:=by
 rw [← e];exact Sp.amd hn fun j hj=>by rw [e];exact hJ j hj
theorem Qv:aA prog G oL nT:=by
 refine aoY (aB (l:=[(qN, .pure rP)]) (au ah) (by simp only [List.forall_mem_cons];exact ⟨⟨WI,Vq⟩,fun x hx=>by cases hx⟩)) ?_
 intro r s hin hp
 have hp:Sp.aZ r:=hp
 have hlen:r.length≤1000:=hp.1
 refine ku r.length (by omega) (fun n=>∀ i,i<n→(Sp.Ad r i).1≠s) (fun i hi=>by omega) (fun I μ n hn hJ next=>?_) fun I μ hJ=>?_
 · dsimp only
   refine dW (by omega) ⟨⟨by omega,by omega⟩,af (fun h=>⟨Ub hp hn,?_⟩) fun h=>⟨rfl,next fun i hi=>?_⟩⟩
   · exact congrArg (·,()) (avg hn hJ (beq_iff_eq.1 h)).symm
   · rcases Nat.lt_or_ge i n with h'|h'
     · exact hJ i h'
     · have:i=n:=by omega
       rw [this];exact beq_eq_false_iff_ne.1 h
 · dsimp only
   exact dX (by omega) (congrArg (·,()) (Sp.XK hJ).symm)
theorem Qw:aA prog G oM nU:=by
 refine aoZ (aB (l:=[]) (au ah) (fun x hx=>by cases hx)) ?_
 intro r s hin hp
 have hp:Sp.aZ r:=hp
 have hlen:r.length≤1000:=hp.1
 refine ku r.length (by omega) (fun n=>∀ i,i<n→(Sp.Ad r i).1≠s) (fun i hi=>by omega) (fun I μ n hn hJ next=>?_) fun I μ hJ=>?_
 · dsimp only
   refine dW (by omega) ⟨⟨by omega,by omega⟩,af (fun h=>⟨⟨by omega,by omega⟩,by have:(r.getD n ([],[],())).2.1.length≤1000:=Ub hp hn;rw [dS,Int.toNat_natCast];omega,?_⟩) fun h=>⟨rfl,next fun i hi=>?_⟩⟩
   · exact congrArg (·,()) (avg hn hJ (beq_iff_eq.1 h)).symm
   · rcases Nat.lt_or_ge i n with h'|h'
     · exact hJ i h'
     · have:i=n:=by omega
       rw [this];exact beq_eq_false_iff_ne.1 h
 · dsimp only
   exact dX (by omega) (congrArg (·,()) (Sp.XK hJ).symm)
theorem ase {q:List Sp.bY} {f:Sp.aT} {X:Sp.BX} {a:Nat} (h5:(Sp.nodeAt q a).1≠5) (h6:(Sp.nodeAt q a).1≠6) (h7:(Sp.nodeAt q a).1≠7):Sp.val q f X a=Sp.jV (Sp.nodeAt q a) f X:=by
 rw [Sp.YA,if_neg h5,if_neg h6,if_neg h7]
theorem aCK {q:List Sp.bY} {f:Sp.aT} {X:Sp.BX} {a:Nat} (h5:(Sp.nodeAt q a).1=5) (hl:(Sp.nodeAt q a).2.1.toNat<a):Sp.val q f X a=!Sp.val q f X (Sp.nodeAt q a).2.1.toNat:=by
 rw [Sp.YA q f X a,if_pos h5,dif_pos hl]
theorem aCL {q:List Sp.bY} {f:Sp.aT} {X:Sp.BX} {a:Nat} (h6:(Sp.nodeAt q a).1=6) (hl:(Sp.nodeAt q a).2.1.toNat<a∧(Sp.nodeAt q a).2.2.1.toNat<a):Sp.val q f X a=(Sp.val q f X (Sp.nodeAt q a).2.1.toNat&&Sp.val q f X (Sp.nodeAt q a).2.2.1.toNat):=by
 rw [Sp.YA q f X a,if_neg (by omega),if_pos h6,dif_pos hl]
theorem aEU {q:List Sp.bY} {f:Sp.aT} {X:Sp.BX} {a:Nat} (h7:(Sp.nodeAt q a).1=7) (hl:(Sp.nodeAt q a).2.1.toNat<a∧(Sp.nodeAt q a).2.2.1.toNat<a):Sp.val q f X a=(Sp.val q f X (Sp.nodeAt q a).2.1.toNat||Sp.val q f X (Sp.nodeAt q a).2.2.1.toNat):=by
 rw [Sp.YA q f X a,if_neg (by omega),if_neg (by omega),if_pos h7,dif_pos hl]
theorem aF8 {n:Sp.bY} {f:Sp.aT} {X:Sp.BX} (h:n.1=2):Sp.jV n f X=!((Sp.dF f.2.2.2.2.1 n.2.2.2.1).1==0):=by
 unfold Sp.jV;rw [h];rfl
theorem aF9 {n:Sp.bY} {f:Sp.aT} {X:Sp.BX} (h:n.1=3):Sp.jV n f X=decide (Sp.dF f.2.2.2.2.1 n.2.2.2.1=(n.2.2.2.2.1,n.2.2.2.2.2.1,n.2.2.2.2.2.2.1,())):=by
 unfold Sp.jV;rw [h];rfl
theorem aGa {n:Sp.bY} {f:Sp.aT} {X:Sp.BX} (h:n.1=4):Sp.jV n f X=((Sp.dF f.2.2.2.2.1 n.2.2.2.1).1==1&&decide ((Sp.dF f.2.2.2.2.1 n.2.2.2.1).2.1<n.2.2.2.2.2.1)):=by
 unfold Sp.jV;rw [h];rfl
theorem aGb {n:Sp.bY} {f:Sp.aT} {X:Sp.BX} (h:n.1=8):Sp.jV n f X=X n.2.2.2.1 f.1:=by
 unfold Sp.jV;rw [h];rfl
theorem aGc {n:Sp.bY} {f:Sp.aT} {X:Sp.BX} (h:n.1=9):Sp.jV n f X=(!(f.2.2.2.1==0)&&X n.2.2.2.1 f.2.2.2.1):=by
 unfold Sp.jV;rw [h];rfl
theorem aGd {n:Sp.bY} {f:Sp.aT} {X:Sp.BX} (h2:n.1≠2) (h3:n.1≠3) (h4:n.1≠4) (h8:n.1≠8) (h9:n.1≠9):Sp.jV n f X=true:=by
 unfold Sp.jV
 rw [beq_eq_false_iff_ne.2 h2,beq_eq_false_iff_ne.2 h3,beq_eq_false_iff_ne.2 h4,beq_eq_false_iff_ne.2 h8,beq_eq_false_iff_ne.2 h9];rfl
theorem eq3 (v w:Sp.aBt):(v.1==w.1&&(v.2.1==w.2.1&&(v.2.2.1==w.2.2.1&&true)))=decide (v=w):=by
 rw [Bool.eq_iff_iff]
 simp [Prod.ext_iff]
theorem VF {x y z:Int} (h:x=y) (hne:y≠z):x≠z:=by rw [h];exact hne
theorem aDP {n:Sp.bY} {a:Int} (h:Sp.mr n a=true):n.1=1∨n.1=2∨n.1=3∨n.1=4∨n.1=5∨n.1=6∨n.1=7∨n.1=8∨n.1=9:=by
 unfold Sp.mr at h
 dsimp only at h
 refine Classical.byContradiction fun hno=>?_
 have e:∀ k:Int,n.1≠k→(n.1==k)=false:=fun k hk=>beq_eq_false_iff_ne.2 hk
 rw [e 1 (fun h=>hno (by simp [h])),e 2 (fun h=>hno (by simp [h])),e 3 (fun h=>hno (by simp [h])),e 4 (fun h=>hno (by simp [h])),e 5 (fun h=>hno (by simp [h])),e 6 (fun h=>hno (by simp [h])),e 7 (fun h=>hno (by simp [h])),e 8 (fun h=>hno (by simp [h])),e 9 (fun h=>hno (by simp [h]))] at h
 cases h
theorem acG [Af] (ad5:aA prog G CQ Gl):aA prog G Q7 Ot:=by
 refine acH (aB (l:=[(Dy, .pure FP),(oL, .pure nT),(CQ, .pure Gl),(Jz, .pure KX),(sH, .pure qI)]) (au ah) (by simp only [List.forall_mem_cons];exact ⟨⟨ama,aiV⟩,⟨Qv,OT⟩,⟨ad5,acA⟩,⟨ave,arK⟩,⟨VE,SA⟩,fun x hx=>by cases hx⟩)) ?_
 intro q a f0 f1 f2 f3 f4 r hin hp
 obtain ⟨⟨hq,h0,h1,hr⟩,hm⟩:=hp
 have ha:a.toNat<q.length:=by omega
 obtain ⟨k1,k2⟩:=Sp.abX hq ha
 have fin:∀ z:Bool,Sp.val q (f0,f1,f2,f3,f4,()) (Sp.bK r) a.toNat=z→(z,())=(Sp.val q (f0,f1,f2,f3,f4,()) (Sp.bK r) a.toNat,()):=fun z h=>by rw [h]
 have leaf:∀ k:Int,k≠5→k≠6→k≠7→(Sp.nodeAt q a.toNat).1=k→Sp.val q (f0,f1,f2,f3,f4,()) (Sp.bK r) a.toNat=Sp.jV (Sp.nodeAt q a.toNat) (f0,f1,f2,f3,f4,()) (Sp.bK r):=fun k a b c h=>ase (VF h a) (VF h b) (VF h c)
 have kid:∀ k:Int,0≤k→k.toNat<a.toNat→(Sp.dn q=true∧0≤k∧k<(q.length:Int)∧Sp.aZ r)∧k.toNat<zA:=fun k h2 h3=>⟨⟨hq,h2,by omega,hr⟩,by omega⟩
 refine ⟨⟨h0,h1⟩,af (fun h=>⟨trivial,fin _ ((leaf 2 (by decide) (by decide) (by decide) (beq_iff_eq.1 h)).trans (aF8 (beq_iff_eq.1 h)))⟩) fun h2=>af (fun h=>⟨trivial,fin _ ((leaf 3 (by decide) (by decide) (by decide) (beq_iff_eq.1 h)).trans ((aF9 (beq_iff_eq.1 h)).trans (eq3 _ _).symm))⟩) fun h3=>af (fun h=>⟨trivial,?_⟩) fun h4=>af (fun h=>?_) fun h5=>af (fun h=>?_) fun h6=>af (fun h=>?_) fun h7=>af (fun h=>⟨hr,trivial,fin _ ((leaf 8 (by decide) (by decide) (by decide) (beq_iff_eq.1 h)).trans (aGb (beq_iff_eq.1 h)))⟩) fun h8=>af (fun h=>?_) fun h9=>?_⟩
 · have e:=(leaf 4 (by decide) (by decide) (by decide) (beq_iff_eq.1 h)).trans (aGa (beq_iff_eq.1 h))
   dsimp only at e ⊢
   refine af (fun g=>fin _ (e.trans ?_)) fun g=>fin _ (e.trans ?_)
   · unfold Sp.nodeAt;rw [g];rfl
   · unfold Sp.nodeAt;rw [g];rfl
 · have hk:=k1 (.inl (beq_iff_eq.1 h))
   exact ⟨kid _ hk.1 hk.2,fin _ (aCK (beq_iff_eq.1 h) hk.2)⟩
 · have ht:Sp.mg (Sp.nodeAt q a.toNat)=true:=Sp.Ic.2 (.inl (beq_iff_eq.1 h))
   have hk:=k1 (.inr ht)
   have hk2:=k2 ht
   have e:=aCL (f:=(f0,f1,f2,f3,f4,())) (X:=Sp.bK r) (beq_iff_eq.1 h) ⟨hk.2,hk2.2⟩
   refine ⟨kid _ hk.1 hk.2,af (fun g=>⟨kid _ hk2.1 hk2.2,fin _ (e.trans ?_)⟩) fun g=>fin _ (e.trans ?_)⟩
   · have g:Sp.val q (f0,f1,f2,f3,f4,()) (Sp.bK r) (Sp.nodeAt q a.toNat).2.1.toNat=true:=g
     rw [g];rfl
   · have g:Sp.val q (f0,f1,f2,f3,f4,()) (Sp.bK r) (Sp.nodeAt q a.toNat).2.1.toNat=false:=g
     rw [g];rfl
 · have ht:Sp.mg (Sp.nodeAt q a.toNat)=true:=Sp.Ic.2 (.inr (beq_iff_eq.1 h))
   have hk:=k1 (.inr ht)
   have hk2:=k2 ht
   have e:=aEU (f:=(f0,f1,f2,f3,f4,())) (X:=Sp.bK r) (beq_iff_eq.1 h) ⟨hk.2,hk2.2⟩
   refine ⟨kid _ hk.1 hk.2,af (fun g=>fin _ (e.trans ?_)) fun g=>⟨kid _ hk2.1 hk2.2,fin _ (e.trans ?_)⟩⟩
   · have g:Sp.val q (f0,f1,f2,f3,f4,()) (Sp.bK r) (Sp.nodeAt q a.toNat).2.1.toNat=true:=g
     rw [g];rfl
   · have g:Sp.val q (f0,f1,f2,f3,f4,()) (Sp.bK r) (Sp.nodeAt q a.toNat).2.1.toNat=false:=g
     rw [g];rfl
 · have e:=(leaf 9 (by decide) (by decide) (by decide) (beq_iff_eq.1 h)).trans (aGc (beq_iff_eq.1 h))
   refine af (fun g=>⟨hr,trivial,fin _ (e.trans ?_)⟩) fun g=>fin _ (e.trans ?_)
   · have g:(!(f3==0))=true:=g
     dsimp only;rw [g];rfl
   · have g:(!(f3==0))=false:=g
     dsimp only;rw [g];rfl
 · have n2:=beq_eq_false_iff_ne.1 h2
   have n3:=beq_eq_false_iff_ne.1 h3
   have n4:=beq_eq_false_iff_ne.1 h4
   have n8:=beq_eq_false_iff_ne.1 h8
   have n9:=beq_eq_false_iff_ne.1 h9
   exact fin _ ((ase (beq_eq_false_iff_ne.1 h5) (beq_eq_false_iff_ne.1 h6) (beq_eq_false_iff_ne.1 h7)).trans (aGd n2 n3 n4 n8 n9))
theorem ao0:aA prog G Lp Oo:=
 aEw (fun n=>@Tv ⟨n⟩) (fun n=>@QM ⟨n⟩) (by rintro ⟨q,at',⟨i,o,s,l,a,⟨⟩⟩,r,⟨⟩⟩ h;exact Nat.not_lt_zero _ h.2) (by rintro _ ⟨q,at',⟨i,o,s,l,a,⟨⟩⟩,r,⟨⟩⟩;rfl) (by rintro ⟨q,at',⟨i,o,s,l,a,⟨⟩⟩,r,⟨⟩⟩ h;exact ⟨_,h,Nat.lt_succ_self _⟩) (by rintro _ ⟨q,at',⟨i,o,s,l,a,⟨⟩⟩,r,⟨⟩⟩;rfl) fun n h=>@acG ⟨n⟩ h
theorem afA [Af] (ag4:aA prog G Gf Jk):aA prog G Vr QO:=by
 refine afB (aB (l:=[(tu, .pure uy),(oM, .pure nU),(Gf, .pure Jk),(zQ, .pure zK)]) (au ah) (by simp only [List.forall_mem_cons];exact ⟨⟨Yz,WC⟩,⟨Qw,OU⟩,⟨ag4,afh⟩,⟨adv,abR⟩,fun x hx=>by cases hx⟩)) ?_
 intro q a f0 f1 f2 f3 f4 r hin hp
 obtain ⟨⟨hq,h0,h1,hr⟩,hm⟩:=hp
 have ha:a.toNat<q.length:=by omega
 obtain ⟨k1,k2⟩:=Sp.abX hq ha
 have fin:∀ z:Bool,Sp.val q (f0,f1,f2,f3,f4,()) (Sp.bK r) a.toNat=z→(z,())=(Sp.val q (f0,f1,f2,f3,f4,()) (Sp.bK r) a.toNat,()):=fun z h=>by rw [h]
 have leaf:∀ k:Int,k≠5→k≠6→k≠7→(Sp.nodeAt q a.toNat).1=k→Sp.val q (f0,f1,f2,f3,f4,()) (Sp.bK r) a.toNat=Sp.jV (Sp.nodeAt q a.toNat) (f0,f1,f2,f3,f4,()) (Sp.bK r):=fun k a b c h=>ase (VF h a) (VF h b) (VF h c)
 have kid:∀ k:Int,0≤k→k.toNat<a.toNat→(Sp.dn q=true∧0≤k∧k<(q.length:Int)∧Sp.aZ r)∧k.toNat<zA:=fun k h2 h3=>⟨⟨hq,h2,by omega,hr⟩,by omega⟩
 refine ⟨⟨h0,h1⟩,trivial,af (fun h=>fin _ ((leaf 1 (by decide) (by decide) (by decide) (beq_iff_eq.1 h)).trans (aGd (VF (beq_iff_eq.1 h) (by decide)) (VF (beq_iff_eq.1 h) (by decide)) (VF (beq_iff_eq.1 h) (by decide)) (VF (beq_iff_eq.1 h) (by decide)) (VF (beq_iff_eq.1 h) (by decide))))) fun h1=>af (fun h=>fin _ ((leaf 2 (by decide) (by decide) (by decide) (beq_iff_eq.1 h)).trans (aF8 (beq_iff_eq.1 h)))) fun h2=>af (fun h=>fin _ ((leaf 3 (by decide) (by decide) (by decide) (beq_iff_eq.1 h)).trans ((aF9 (beq_iff_eq.1 h)).trans (eq3 _ _).symm))) fun h3=>af (fun h=>?_) fun h4=>af (fun h=>?_) fun h5=>af (fun h=>?_) fun h6=>af (fun h=>?_) fun h7=>af (fun h=>⟨hr,trivial,fin _ ((leaf 8 (by decide) (by decide) (by decide) (beq_iff_eq.1 h)).trans (aGb (beq_iff_eq.1 h)))⟩) fun h8=>?_⟩
 · have e:=(leaf 4 (by decide) (by decide) (by decide) (beq_iff_eq.1 h)).trans (aGa (beq_iff_eq.1 h))
   dsimp only at e ⊢
   refine af (fun g=>fin _ (e.trans ?_)) fun g=>fin _ (e.trans ?_)
   · unfold Sp.nodeAt;rw [g];rfl
   · unfold Sp.nodeAt;rw [g];rfl
 · have hk:=k1 (.inl (beq_iff_eq.1 h))
   exact ⟨kid _ hk.1 hk.2,fin _ (aCK (beq_iff_eq.1 h) hk.2)⟩
 · have ht:Sp.mg (Sp.nodeAt q a.toNat)=true:=Sp.Ic.2 (.inl (beq_iff_eq.1 h))
   have hk:=k1 (.inr ht)
   have hk2:=k2 ht
   have e:=aCL (f:=(f0,f1,f2,f3,f4,())) (X:=Sp.bK r) (beq_iff_eq.1 h) ⟨hk.2,hk2.2⟩
   refine ⟨kid _ hk.1 hk.2,af (fun g=>⟨kid _ hk2.1 hk2.2,fin _ (e.trans ?_)⟩) fun g=>fin _ (e.trans ?_)⟩
   · have g:Sp.val q (f0,f1,f2,f3,f4,()) (Sp.bK r) (Sp.nodeAt q a.toNat).2.1.toNat=true:=g
     rw [g];rfl
   · have g:Sp.val q (f0,f1,f2,f3,f4,()) (Sp.bK r) (Sp.nodeAt q a.toNat).2.1.toNat=false:=g
     rw [g];rfl
 · have ht:Sp.mg (Sp.nodeAt q a.toNat)=true:=Sp.Ic.2 (.inr (beq_iff_eq.1 h))
   have hk:=k1 (.inr ht)
   have hk2:=k2 ht
   have e:=aEU (f:=(f0,f1,f2,f3,f4,())) (X:=Sp.bK r) (beq_iff_eq.1 h) ⟨hk.2,hk2.2⟩
   refine ⟨kid _ hk.1 hk.2,af (fun g=>fin _ (e.trans ?_)) fun g=>⟨kid _ hk2.1 hk2.2,fin _ (e.trans ?_)⟩⟩
   · have g:Sp.val q (f0,f1,f2,f3,f4,()) (Sp.bK r) (Sp.nodeAt q a.toNat).2.1.toNat=true:=g
     rw [g];rfl
   · have g:Sp.val q (f0,f1,f2,f3,f4,()) (Sp.bK r) (Sp.nodeAt q a.toNat).2.1.toNat=false:=g
     rw [g];rfl
 · have n1:=beq_eq_false_iff_ne.1 h1
   have n2:=beq_eq_false_iff_ne.1 h2
   have n3:=beq_eq_false_iff_ne.1 h3
   have n4:=beq_eq_false_iff_ne.1 h4
   have n5:=beq_eq_false_iff_ne.1 h5
   have n6:=beq_eq_false_iff_ne.1 h6
   have n7:=beq_eq_false_iff_ne.1 h7
   have n8:=beq_eq_false_iff_ne.1 h8
   have h9:(Sp.nodeAt q a.toNat).1=9:=by
    rcases aDP (Sp.abY hq ha).1 with h|h|h|h|h|h|h|h|h
    · exact (n1 h).elim
    · exact (n2 h).elim
    · exact (n3 h).elim
    · exact (n4 h).elim
    · exact (n5 h).elim
    · exact (n6 h).elim
    · exact (n7 h).elim
    · exact (n8 h).elim
    · exact h
   have e:=(leaf 9 (by decide) (by decide) (by decide) h9).trans (aGc h9)
   refine af (fun g=>⟨hr,trivial,fin _ (e.trans ?_)⟩) fun g=>fin _ (e.trans ?_)
   · have g:(!(f3==0))=true:=g
     dsimp only;rw [g];rfl
   · have g:(!(f3==0))=false:=g
     dsimp only;rw [g];rfl
theorem avh:aA prog G O6 RN:=
 aEw (fun n=>@V7 ⟨n⟩) (fun n=>@UK ⟨n⟩) (by rintro ⟨q,at',⟨i,o,s,l,a,⟨⟩⟩,r,⟨⟩⟩ h;exact Nat.not_lt_zero _ h.2) (by rintro _ ⟨q,at',⟨i,o,s,l,a,⟨⟩⟩,r,⟨⟩⟩;rfl) (by rintro ⟨q,at',⟨i,o,s,l,a,⟨⟩⟩,r,⟨⟩⟩ h;exact ⟨_,h,Nat.lt_succ_self _⟩) (by rintro _ ⟨q,at',⟨i,o,s,l,a,⟨⟩⟩,r,⟨⟩⟩;rfl) fun n h=>@afA ⟨n⟩ h
theorem avi:aA prog G JA KY:=by
 refine avj (aB (l:=[(Lp, .pure Oo),(kX, .pure lg)]) (au ah) (by simp only [List.forall_mem_cons];exact ⟨⟨ao0,alP⟩,⟨LP,JW⟩,fun x hx=>by cases hx⟩)) ?_
 intro q f0 f1 f2 f3 f4 r hin hp
 obtain ⟨h1,h2⟩:=hp
 have e:∀ z,Sp.dn q=z→Sp.jC q (f0,f1,f2,f3,f4,()) (Sp.bK r)=(z&&Sp.val q (f0,f1,f2,f3,f4,()) (Sp.bK r) (q.length-1)):=fun z hz=>by unfold Sp.jC;rw [hz]
 refine ⟨by omega,af (fun h=>?_) fun h=>?_⟩
 · have hl:=Sp.Q9 h
   rw [ES (by omega) (by omega)]
   refine ⟨⟨h,by omega,by omega,h2⟩,?_⟩
   rw [e _ h,Int.toNat_natCast];rfl
 · rw [e _ h];rfl
theorem avk:aA prog G JB KZ:=by
 refine avl (aB (l:=[(O6, .pure RN),(kW, .pure kZ)]) (au ah) (by simp only [List.forall_mem_cons];exact ⟨⟨avh,arL⟩,⟨LQ,JV⟩,fun x hx=>by cases hx⟩)) ?_
 intro q f0 f1 f2 f3 f4 r hin hp
 obtain ⟨h1,h2⟩:=hp
 have e:∀ z,Sp.dn q=z→Sp.jC q (f0,f1,f2,f3,f4,()) (Sp.bK r)=(z&&Sp.val q (f0,f1,f2,f3,f4,()) (Sp.bK r) (q.length-1)):=fun z hz=>by unfold Sp.jC;rw [hz]
 refine ⟨by omega,af (fun h=>?_) fun h=>?_⟩
 · have hl:=Sp.Q9 h
   rw [ES (by omega) (by omega)]
   refine ⟨⟨h,by omega,by omega,h2⟩,?_⟩
   rw [e _ h,Int.toNat_natCast];rfl
 · rw [e _ h];rfl
theorem ajh:aA prog G Ar Eh:=by
 refine aji (aB (l:=[(JA, .pure KY)]) (au ah) (by simp only [List.forall_mem_cons];exact ⟨⟨avi,arM⟩,fun x hx=>by cases hx⟩)) ?_
 intro s0 fs nx q r hin hp
 obtain ⟨h1,h2,h3⟩:=hp
 have hl:fs.length≤1000:=h1.2.1
 exact asf (K:=fun z=>z=(Sp.sel fs q (Sp.bK r),())) (fun f=>Sp.jC q f (Sp.bK r)) (fun f:Sp.aT=>(f.1,())) (0,0,false,0,[],()) fs _ (A:=fun _=>q.length≤1000∧Sp.aZ r) (fun _ _=>⟨h2,h3⟩) (by omega) rfl
theorem WJ:aA prog G qO rU:=by
 refine ajj (aB (l:=[]) (au ah) (fun x hx=>by cases hx)) ?_
 intro a b hin hp
 exact eqL (K:=fun r=>r=(decide (a=b),())) (fun x y:Int×Unit=>x.1 !=y.1) (fun x y=>by simp [Prod.ext_iff]) _ a b _ hin.1.1 rfl
theorem Rf:aA prog G nG oC:=by
 refine ad6 (aB (l:=[(qO, .pure rU)]) (au ah) (by simp only [List.forall_mem_cons];exact ⟨⟨WJ,Vt⟩,fun x hx=>by cases hx⟩)) ?_
 intro a0 a1 b0 b1 hin hp
 refine af (fun h0=>⟨trivial,?_⟩) fun h0=>?_
 all_goals refine congrArg (·,()) (Bool.eq_iff_iff.2 ?_)
 · simp [beq_iff_eq.1 h0]
 · simp [show a0≠b0 by simpa using h0]
theorem vO:aA prog G dZ fQ:=by
 refine vP (aB (l:=[(nG, .pure oC)]) (au ah) (by simp only [List.forall_mem_cons];exact ⟨⟨Rf,PE⟩,fun x hx=>by cases hx⟩)) ?_
 intro a b hin hp
 exact aG4 (K:=fun r=>r=(decide (a=b),())) (fun x y=>!decide (x=y)) (fun x y=>by simp) _ a b _ hin.1.1 rfl
theorem ag5:aA prog G yZ BV:=by
 refine ag6 (aB (l:=[(nG, .pure oC),(dZ, .pure fQ)]) (au ah) (by simp only [List.forall_mem_cons];exact ⟨⟨Rf,PE⟩,⟨vO,vw⟩,fun x hx=>by cases hx⟩)) ?_
 intro a b hin hp
 exact ⟨trivial,rfl⟩
end Go.Proofs.Tryz
