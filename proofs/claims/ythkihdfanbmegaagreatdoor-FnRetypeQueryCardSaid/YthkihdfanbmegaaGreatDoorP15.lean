import Derived.Test.YthkihdfanbmegaaGreatDoorP1
import Derived.Test.YthkihdfanbmegaaGreatDoorV4
import Derived.Test.YthkihdfanbmegaaGreatDoorV6
import Derived.Test.YthkihdfanbmegaaGreatDoorSp
import Derived.Test.YthkihdfanbmegaaGreatDoorV7
import Derived.Test.YthkihdfanbmegaaGreatDoorV5
import Derived.Test.YthkihdfanbmegaaGreatDoorV8
import Derived.Test.YthkihdfanbmegaaGreatDoorV9
import Derived.Test.YthkihdfanbmegaaGreatDoorV10
import Derived.Test.YthkihdfanbmegaaGreatDoorL3
import Derived.Test.YthkihdfanbmegaaGreatDoorL4
import Derived.Test.YthkihdfanbmegaaGreatDoorV11
namespace Go.Proofs.Tryz
open Go Go.Fw Go.IntWalk Sp
theorem MZ:∀{l:List aW}{n:Nat}{s:Sp.Bytes},n<l.length->(∀i,i<n->(bf l i).1≠s)->(bf l n).1=s->aG l s=(bf l n).2
 |[],n,_,h,_,_=>by simp at h
 |x::r,0,s,_,_,e=>by
  have e:x.1=s:=e;rw[aG,alT.2 e];rfl
 |x::r,n+1,s,h,hn,e=>by have h0:x.1≠s:=hn 0 (by omega);rw[aG,alN.2 h0];exact MZ (l:=r) (by simpa using h) (λi hi=>hn (i+1) (by omega)) e
theorem G7:∀{l:List aW}{s:Sp.Bytes},(∀i,i<l.length->(bf l i).1≠s)->aG l s=(0,0,[],())
 |[],_,_=>rfl
 |x::r,s,h=>by have h0:x.1≠s:=h 0 (by simp);rw[aG,alN.2 h0];exact G7 λi hi=>h (i+1) (by simpa using hi)
theorem Dh:OK nG.e:=by
 refine PA.ok mixed (aC [] trivial) Zv (by kernel_rfl) (show∀f0 f1 f2 f3 f4 name,nG.goal (XY f0 f1 f2 f3 f4 name) ((f0,f1,f2,f3,f4,()),name,())from ?_);intro f0 f1 f2 f3 l s hin hp;dsimp only[nG]at hp ⊢;have hlen:l.length<=maxLen:=hin.1.2.2.2.2.1.1;rw[maxLen_eq]at hlen;refine iH l.length hlen (λn=>∀i,i<n->(bf l i).1≠s) (λi hi=>by omega) (λI μ n hn hJ next=>?_) λI μ hJ=>?_
 .dsimp only;refine dR (by omega) ⟨⟨by omega,by omega⟩,af (λh=>?_) λh=>⟨rfl,next λi hi=>?_⟩⟩
  .exact congrArg (·,()) (MZ hn hJ (alT.1 h)).symm
  .rcases al4 i n with h'|h'
   .exact hJ i h'
   .have:i=n:=by omega
    rw[this];exact alN.1 h
 .dsimp only;exact dS (by omega) (congrArg (·,()) (G7 hJ).symm)
theorem XZ:OK vC.e:=by
 refine PA.ok mixed (aC [] trivial) Zw (by kernel_rfl) (show∀f0 f1 f2 f3 f4 name,vC.goal (X0 f0 f1 f2 f3 f4 name) ((f0,f1,f2,f3,f4,()),name,())from ?_);intro f0 f1 f2 f3 l s hin hp;dsimp only[vC]at hp ⊢;have hlen:l.length<=maxLen:=hin.1.2.2.2.2.1.1;rw[maxLen_eq]at hlen;refine iH l.length hlen (λn=>∀i,i<n->(bf l i).1≠s) (λi hi=>by omega) (λI μ n hn hJ next=>?_) λI μ hJ=>?_
 .dsimp only;refine dR (by omega) ⟨⟨by omega,by omega⟩,af (λh=>⟨⟨by omega,by omega⟩,?_⟩) λh=>⟨rfl,next λi hi=>?_⟩⟩
  .exact congrArg (·,()) (MZ hn hJ (alT.1 h)).symm
  .rcases al4 i n with h'|h'
   .exact hJ i h'
   .have:i=n:=by omega
    rw[this];exact alN.1 h
 .dsimp only;exact dS (by omega) (congrArg (·,()) (G7 hJ).symm)
theorem X3:OK vF.e:=by
 refine PA.ok mixed (aC [nG.e] ⟨Dh,trivial⟩) H0 (by kernel_rfl) (show∀f0 f1 f2 f3 f4 name,vF.goal (X4 f0 f1 f2 f3 f4 name) ((f0,f1,f2,f3,f4,()),name,())from ?_);intro f0 f1 f2 f3 l s hin hp;dsimp only[vF]at hp ⊢;refine⟨trivial,?_⟩;cases h:((aG l s).1==1)with
 |true=>dsimp only[bne];rw[h];rfl
 |false=>dsimp only[bne];rw[h];rfl
theorem aaw{α β:Type}[BEq β][LawfulBEq β](g:α->β)(v:β)(s:List α):Sp.findAt (λx=>v==g x) s=Sp.findAt (λx=>g x==v) s:=by
 congr 1
 funext x
 rw[amc,alT,alT];exact eq_comm
theorem OG:OK sG.e:=by refine PA.ok mixed (aC [] trivial) QL (by kernel_rfl) (show∀s v,sG.goal (OH s v) (s,v,())from ?_);intro s v hin hp;dsimp only[sG]at hp ⊢;exact agz (K:=λr=>r=(Sp.findAt (λx=>x.1==v) s,())) (λx:Int×Unit=>v==x.1) (0,()) s _ hin.1.1 (by rw[aaw])
theorem Jw:OK oJ.e:=by refine PA.ok mixed (aC [] trivial) KT (by kernel_rfl) (show∀s v,oJ.goal (Jy s v) (s,v,())from ?_);intro s v hin hp;dsimp only[oJ]at hp ⊢;exact agz (K:=λr=>r=(Sp.findAt (λx=>x.1==v) s,())) (λx:List UInt8×Unit=>v==x.1) ([],()) s _ hin.1.1 (by rw[aaw])
theorem AO:OK lF.e:=by refine PA.ok mixed (aC [sG.e] ⟨OG,trivial⟩) H0 (by kernel_rfl) (show∀s v,lF.goal (Jz s v) (s,v,())from ?_);intro s v hin hp;dsimp only[lF]at hp ⊢;exact⟨trivial,congrArg (·,()) (acJ _ s)⟩
theorem FX:OK mg.e:=by refine PA.ok mixed (aC [oJ.e] ⟨Jw,trivial⟩) H0 (by kernel_rfl) (show∀s v,mg.goal (FY s v) (s,v,())from ?_);intro s v hin hp;dsimp only[mg]at hp ⊢;exact⟨trivial,congrArg (·,()) (acJ _ s)⟩
theorem QM:OK o6.e:=by refine PA.ok mixed (aC [lF.e] ⟨AO,trivial⟩) H0 (by kernel_rfl) (show∀ids id,o6.goal (QN ids id) (ids,id,())from ?_);intro s v hin hp;dsimp only[o6]at hp ⊢;exact⟨trivial,rfl⟩
theorem QO:OK o7.e:=by refine PA.ok mixed (aC [] trivial) TG (by kernel_rfl) (show∀ids id,o7.goal (QS ids id) (ids,id,())from ?_);intro s v hin hp;dsimp only[o7]at hp ⊢;exact akO (K:=λr=>r=(fF s v,())) (λx:Int×Unit=>x.1==v) (0,()) s _ hin.1.1 rfl
theorem DK:OK nZ.e:=by refine PA.ok mixed (aC [] trivial) QT (by kernel_rfl) (show∀s,nZ.goal (OI s) (s,())from ?_);intro s hin hp;dsimp only[nZ]at hp ⊢;have hp:s.length<=1000:=hp;intro g hg;refine af (λh=>?_) λh=>⟨by rw[eY];omega,rfl⟩;exact congrArg (·,()) (amH.1 (hg h)).symm
abbrev BM:bP:=([],[],())
theorem I4{r:List bP}(h:aZ r){n:Nat}(hn:n<r.length):(r.getD n BM).2.1.length<=1000:=h.2 _ (getD_mem (d:=BM) hn)
theorem X5{r:List bP}{n:Nat}{s:Sp.Bytes}(hn:n<r.length)(hJ:∀i,i<n->(nT r i).1≠s)(e:(nT r n).1=s):dn r s=fQ r n:=by rw[← e];exact QU hn λj hj=>by rw[e];exact hJ j hj
theorem uV:OK jw.e:=by
 refine PA.ok mixed (aC [nZ.e] ⟨DK,trivial⟩) VS (by kernel_rfl) (show∀Aa name,jw.goal (TJ Aa name) (Aa,name,())from ?_);intro r s hin hp;dsimp only[jw]at hp ⊢;have hp:aZ r:=hp;have hlen:r.length<=1000:=hp.1;refine iH r.length (by omega) (λn=>∀i,i<n->(nT r i).1≠s) (λi hi=>by omega) (λI μ n hn hJ next=>?_) λI μ hJ=>?_
 .dsimp only;refine dR (by omega) ⟨⟨by omega,by omega⟩,af (λh=>⟨I4 hp hn,?_⟩) λh=>⟨rfl,next λi hi=>?_⟩⟩
  .exact congrArg (·,()) (X5 hn hJ (alT.1 h)).symm
  .rcases al4 i n with h'|h'
   .exact hJ i h'
   .have:i=n:=by omega
    rw[this];exact alN.1 h
 .dsimp only;exact dS (by omega) (congrArg (·,()) (Eh hJ).symm)
theorem TL:OK qA.e:=by
 refine PA.ok mixed (aC [] trivial) VT (by kernel_rfl) (show∀a name,qA.goal (TM a name) (a,name,())from ?_);intro r s hin hp;dsimp only[qA]at hp ⊢;have hp:aZ r:=hp;have hlen:r.length<=1000:=hp.1;refine iH r.length (by omega) (λn=>∀i,i<n->(nT r i).1≠s) (λi hi=>by omega) (λI μ n hn hJ next=>?_) λI μ hJ=>?_
 .dsimp only;refine dR (by omega) ⟨⟨by omega,by omega⟩,af (λh=>⟨⟨by omega,by omega⟩,by have:(r.getD n ([],[],())).2.1.length<=1000:=I4 hp hn;rw[eY,amd];omega,?_⟩) λh=>⟨rfl,next λi hi=>?_⟩⟩
  .exact congrArg (·,()) (X5 hn hJ (alT.1 h)).symm
  .rcases al4 i n with h'|h'
   .exact hJ i h'
   .have:i=n:=by omega
    rw[this];exact alN.1 h
 .dsimp only;exact dS (by omega) (congrArg (·,()) (Eh hJ).symm)
theorem VU{q:List aY}{f:aH}{X:BX}{a:Nat}(h5:(Sp.nodeAt q a).1≠5)(h6:(Sp.nodeAt q a).1≠6)(h7:(Sp.nodeAt q a).1≠7):Sp.val q f X a=ig (Sp.nodeAt q a) f X:=by rw[EI,if_neg h5,if_neg h6,if_neg h7]
theorem aeb{q:List aY}{f:aH}{X:BX}{a:Nat}(h5:(Sp.nodeAt q a).1=5)(hl:(Sp.nodeAt q a).2.1.toNat<a):Sp.val q f X a=!Sp.val q f X (Sp.nodeAt q a).2.1.toNat:=by rw[EI q f X a,if_pos h5,dif_pos hl]
theorem aec{q:List aY}{f:aH}{X:BX}{a:Nat}(h6:(Sp.nodeAt q a).1=6)(hl:(Sp.nodeAt q a).2.1.toNat<a/\(Sp.nodeAt q a).2.2.1.toNat<a):Sp.val q f X a=(Sp.val q f X (Sp.nodeAt q a).2.1.toNat&&Sp.val q f X (Sp.nodeAt q a).2.2.1.toNat):=by rw[EI q f X a,if_neg (by omega),if_pos h6,dif_pos hl]
theorem agA{q:List aY}{f:aH}{X:BX}{a:Nat}(h7:(Sp.nodeAt q a).1=7)(hl:(Sp.nodeAt q a).2.1.toNat<a/\(Sp.nodeAt q a).2.2.1.toNat<a):Sp.val q f X a=(Sp.val q f X (Sp.nodeAt q a).2.1.toNat||Sp.val q f X (Sp.nodeAt q a).2.2.1.toNat):=by rw[EI q f X a,if_neg (by omega),if_neg (by omega),if_pos h7,dif_pos hl]
theorem ahU{n:aY}{f:aH}{X:BX}(h:n.1=2):ig n f X=!((aG f.2.2.2.2.1 n.2.2.2.1).1==0):=by unfold ig;rw[h];rfl
theorem ahV{n:aY}{f:aH}{X:BX}(h:n.1=3):ig n f X=decide (aG f.2.2.2.2.1 n.2.2.2.1=(n.2.2.2.2.1,n.2.2.2.2.2.1,n.2.2.2.2.2.2.1,())):=by unfold ig;rw[h];rfl
theorem ahW{n:aY}{f:aH}{X:BX}(h:n.1=4):ig n f X=((aG f.2.2.2.2.1 n.2.2.2.1).1==1&&decide ((aG f.2.2.2.2.1 n.2.2.2.1).2.1<n.2.2.2.2.2.1)):=by unfold ig;rw[h];rfl
theorem ahX{n:aY}{f:aH}{X:BX}(h:n.1=8):ig n f X=X n.2.2.2.1 f.1:=by unfold ig;rw[h];rfl
theorem ahY{n:aY}{f:aH}{X:BX}(h:n.1=9):ig n f X=(!(f.2.2.2.1==0)&&X n.2.2.2.1 f.2.2.2.1):=by unfold ig;rw[h];rfl
theorem ahZ{n:aY}{f:aH}{X:BX}(h2:n.1≠2)(h3:n.1≠3)(h4:n.1≠4)(h8:n.1≠8)(h9:n.1≠9):ig n f X=true:=by unfold ig;rw[alN.2 h2,alN.2 h3,alN.2 h4,alN.2 h8,alN.2 h9];rfl
theorem eq3(v w:pq):(v.1==w.1&&(v.2.1==w.2.1&&(v.2.2.1==w.2.2.1&&true)))=decide (v=w):=by rw[amc];simp[anw]
theorem Di{x y z:Int}(h:x=y)(hne:y≠z):x≠z:=by rw[h];exact hne
theorem afc{n:aY}{a:Int}(h:iT n a=true):n.1=1\/n.1=2\/n.1=3\/n.1=4\/n.1=5\/n.1=6\/n.1=7\/n.1=8\/n.1=9:=by unfold iT at h;dsimp only at h;refine amo λhno=>?_;have e:∀k:Int,n.1≠k->(n.1==k)=false:=λk hk=>alN.2 hk;rw[e 1 (λh=>hno (by simp[h])),e 2 (λh=>hno (by simp[h])),e 3 (λh=>hno (by simp[h])),e 4 (λh=>hno (by simp[h])),e 5 (λh=>hno (by simp[h])),e 6 (λh=>hno (by simp[h])),e 7 (λh=>hno (by simp[h])),e 8 (λh=>hno (by simp[h])),e 9 (λh=>hno (by simp[h]))]at h;cases h
theorem H9[yA](JA:lT prog G oM ru):lT prog G AL yY:=by
 refine Ia (aC [o6.e,jw.e,(oM,.pure ru),vF.e,nG.e] ⟨QM,uV,⟨JA,H6⟩,X3,Dh,trivial⟩) ?_;intro q a f0 f1 f2 f3 f4 r hin hp;obtain⟨⟨hq,h0,h1,hr⟩,hm⟩:=hp;have ha:a.toNat<q.length:=by omega
 obtain⟨k1,k2⟩:=G8 hq ha;have fin:∀z:Bool,Sp.val q (f0,f1,f2,f3,f4,()) (aT r) a.toNat=z->(z,())=(Sp.val q (f0,f1,f2,f3,f4,()) (aT r) a.toNat,()):=λz h=>by rw[h]
 have leaf:∀k:Int,k≠5->k≠6->k≠7->(Sp.nodeAt q a.toNat).1=k->Sp.val q (f0,f1,f2,f3,f4,()) (aT r) a.toNat=ig (Sp.nodeAt q a.toNat) (f0,f1,f2,f3,f4,()) (aT r):=λk a b c h=>VU (Di h a) (Di h b) (Di h c);have kid:∀k:Int,0<=k->k.toNat<a.toNat->(aU q=true/\0<=k/\k<(q.length:Int)/\aZ r)/\k.toNat<yB:=λk h2 h3=>⟨⟨hq,h2,by omega,hr⟩,by omega⟩;refine⟨⟨h0,h1⟩,af (λh=>⟨trivial,fin _ ((leaf 2 (by decide) (by decide) (by decide) (alT.1 h)).trans (ahU (alT.1 h)))⟩) λh2=>af (λh=>⟨trivial,fin _ ((leaf 3 (by decide) (by decide) (by decide) (alT.1 h)).trans ((ahV (alT.1 h)).trans (eq3 _ _).symm))⟩) λh3=>af (λh=>⟨trivial,?_⟩) λh4=>af (λh=>?_) λh5=>af (λh=>?_) λh6=>af (λh=>?_) λh7=>af (λh=>⟨hr,trivial,fin _ ((leaf 8 (by decide) (by decide) (by decide) (alT.1 h)).trans (ahX (alT.1 h)))⟩) λh8=>af (λh=>?_) λh9=>?_⟩
 .have e:=(leaf 4 (by decide) (by decide) (by decide) (alT.1 h)).trans (ahW (alT.1 h));dsimp only at e ⊢;refine af (λg=>fin _ (e.trans ?_)) λg=>fin _ (e.trans ?_)
  .unfold Sp.nodeAt;rw[g];rfl
  .unfold Sp.nodeAt;rw[g];rfl
 .have hk:=k1 (.inl (alT.1 h));exact⟨kid _ hk.1 hk.2,fin _ (aeb (alT.1 h) hk.2)⟩
 .have ht:iC (Sp.nodeAt q a.toNat)=true:=tJ.2 (.inl (alT.1 h));have hk:=k1 (.inr ht);have hk2:=k2 ht;have e:=aec (f:=(f0,f1,f2,f3,f4,())) (X:=aT r) (alT.1 h) ⟨hk.2,hk2.2⟩;refine⟨kid _ hk.1 hk.2,af (λg=>⟨kid _ hk2.1 hk2.2,fin _ (e.trans ?_)⟩) λg=>fin _ (e.trans ?_)⟩
  .have g:Sp.val q (f0,f1,f2,f3,f4,()) (aT r) (Sp.nodeAt q a.toNat).2.1.toNat=true:=g;rw[g];rfl
  .have g:Sp.val q (f0,f1,f2,f3,f4,()) (aT r) (Sp.nodeAt q a.toNat).2.1.toNat=false:=g;rw[g];rfl
 .have ht:iC (Sp.nodeAt q a.toNat)=true:=tJ.2 (.inr (alT.1 h));have hk:=k1 (.inr ht);have hk2:=k2 ht;have e:=agA (f:=(f0,f1,f2,f3,f4,())) (X:=aT r) (alT.1 h) ⟨hk.2,hk2.2⟩;refine⟨kid _ hk.1 hk.2,af (λg=>fin _ (e.trans ?_)) λg=>⟨kid _ hk2.1 hk2.2,fin _ (e.trans ?_)⟩⟩
  .have g:Sp.val q (f0,f1,f2,f3,f4,()) (aT r) (Sp.nodeAt q a.toNat).2.1.toNat=true:=g;rw[g];rfl
  .have g:Sp.val q (f0,f1,f2,f3,f4,()) (aT r) (Sp.nodeAt q a.toNat).2.1.toNat=false:=g;rw[g];rfl
 .have e:=(leaf 9 (by decide) (by decide) (by decide) (alT.1 h)).trans (ahY (alT.1 h));refine af (λg=>⟨hr,trivial,fin _ (e.trans ?_)⟩) λg=>fin _ (e.trans ?_)
  .have g:(!(f3==0))=true:=g;dsimp only;rw[g];rfl
  .have g:(!(f3==0))=false:=g;dsimp only;rw[g];rfl
 .have n2:=alN.1 h2;have n3:=alN.1 h3;have n4:=alN.1 h4;have n8:=alN.1 h8;have n9:=alN.1 h9;exact fin _ ((VU (alN.1 h5) (alN.1 h6) (alN.1 h7)).trans (ahZ n2 n3 n4 n8 n9))
theorem TN:lT prog G Bl Eo:=
 agb (λn=>@Bq ⟨n⟩) (λn=>@Ah ⟨n⟩) (by rintro⟨q,at',⟨i,o,s,l,a,⟨⟩⟩,r,⟨⟩⟩ h;exact Nat.not_lt_zero _ h.2) (by rintro _ ⟨q,at',⟨i,o,s,l,a,⟨⟩⟩,r,⟨⟩⟩;rfl) (by rintro⟨q,at',⟨i,o,s,l,a,⟨⟩⟩,r,⟨⟩⟩ h;exact⟨_,h,Nat.lt_succ_self _⟩) (by rintro _ ⟨q,at',⟨i,o,s,l,a,⟨⟩⟩,r,⟨⟩⟩;rfl) λn h=>@H9 ⟨n⟩ h
theorem KU[yA](Na:lT prog G qX vH):lT prog G CZ Aj:=by
 refine KW (aC [o7.e,qA.e,(qX,.pure vH),vC.e] ⟨QO,TL,⟨Na,KD⟩,XZ,trivial⟩) ?_;intro q a f0 f1 f2 f3 f4 r hin hp;obtain⟨⟨hq,h0,h1,hr⟩,hm⟩:=hp;have ha:a.toNat<q.length:=by omega
 obtain⟨k1,k2⟩:=G8 hq ha;have fin:∀z:Bool,Sp.val q (f0,f1,f2,f3,f4,()) (aT r) a.toNat=z->(z,())=(Sp.val q (f0,f1,f2,f3,f4,()) (aT r) a.toNat,()):=λz h=>by rw[h]
 have leaf:∀k:Int,k≠5->k≠6->k≠7->(Sp.nodeAt q a.toNat).1=k->Sp.val q (f0,f1,f2,f3,f4,()) (aT r) a.toNat=ig (Sp.nodeAt q a.toNat) (f0,f1,f2,f3,f4,()) (aT r):=λk a b c h=>VU (Di h a) (Di h b) (Di h c);have kid:∀k:Int,0<=k->k.toNat<a.toNat->(aU q=true/\0<=k/\k<(q.length:Int)/\aZ r)/\k.toNat<yB:=λk h2 h3=>⟨⟨hq,h2,by omega,hr⟩,by omega⟩;refine⟨⟨h0,h1⟩,trivial,af (λh=>fin _ ((leaf 1 (by decide) (by decide) (by decide) (alT.1 h)).trans (ahZ (Di (alT.1 h) (by decide)) (Di (alT.1 h) (by decide)) (Di (alT.1 h) (by decide)) (Di (alT.1 h) (by decide)) (Di (alT.1 h) (by decide))))) λh1=>af (λh=>fin _ ((leaf 2 (by decide) (by decide) (by decide) (alT.1 h)).trans (ahU (alT.1 h)))) λh2=>af (λh=>fin _ ((leaf 3 (by decide) (by decide) (by decide) (alT.1 h)).trans ((ahV (alT.1 h)).trans (eq3 _ _).symm))) λh3=>af (λh=>?_) λh4=>af (λh=>?_) λh5=>af (λh=>?_) λh6=>af (λh=>?_) λh7=>af (λh=>⟨hr,trivial,fin _ ((leaf 8 (by decide) (by decide) (by decide) (alT.1 h)).trans (ahX (alT.1 h)))⟩) λh8=>?_⟩
 .have e:=(leaf 4 (by decide) (by decide) (by decide) (alT.1 h)).trans (ahW (alT.1 h));dsimp only at e ⊢;refine af (λg=>fin _ (e.trans ?_)) λg=>fin _ (e.trans ?_)
  .unfold Sp.nodeAt;rw[g];rfl
  .unfold Sp.nodeAt;rw[g];rfl
 .have hk:=k1 (.inl (alT.1 h));exact⟨kid _ hk.1 hk.2,fin _ (aeb (alT.1 h) hk.2)⟩
 .have ht:iC (Sp.nodeAt q a.toNat)=true:=tJ.2 (.inl (alT.1 h));have hk:=k1 (.inr ht);have hk2:=k2 ht;have e:=aec (f:=(f0,f1,f2,f3,f4,())) (X:=aT r) (alT.1 h) ⟨hk.2,hk2.2⟩;refine⟨kid _ hk.1 hk.2,af (λg=>⟨kid _ hk2.1 hk2.2,fin _ (e.trans ?_)⟩) λg=>fin _ (e.trans ?_)⟩
  .have g:Sp.val q (f0,f1,f2,f3,f4,()) (aT r) (Sp.nodeAt q a.toNat).2.1.toNat=true:=g;rw[g];rfl
  .have g:Sp.val q (f0,f1,f2,f3,f4,()) (aT r) (Sp.nodeAt q a.toNat).2.1.toNat=false:=g;rw[g];rfl
 .have ht:iC (Sp.nodeAt q a.toNat)=true:=tJ.2 (.inr (alT.1 h));have hk:=k1 (.inr ht);have hk2:=k2 ht;have e:=agA (f:=(f0,f1,f2,f3,f4,())) (X:=aT r) (alT.1 h) ⟨hk.2,hk2.2⟩;refine⟨kid _ hk.1 hk.2,af (λg=>fin _ (e.trans ?_)) λg=>⟨kid _ hk2.1 hk2.2,fin _ (e.trans ?_)⟩⟩
  .have g:Sp.val q (f0,f1,f2,f3,f4,()) (aT r) (Sp.nodeAt q a.toNat).2.1.toNat=true:=g;rw[g];rfl
  .have g:Sp.val q (f0,f1,f2,f3,f4,()) (aT r) (Sp.nodeAt q a.toNat).2.1.toNat=false:=g;rw[g];rfl
 .have n1:=alN.1 h1;have n2:=alN.1 h2;have n3:=alN.1 h3;have n4:=alN.1 h4;have n5:=alN.1 h5;have n6:=alN.1 h6;have n7:=alN.1 h7;have n8:=alN.1 h8;have h9:(Sp.nodeAt q a.toNat).1=9:=by
   rcases afc (G9 hq ha).1 with h|h|h|h|h|h|h|h|h
   .exact(n1 h).elim
   .exact(n2 h).elim
   .exact(n3 h).elim
   .exact(n4 h).elim
   .exact(n5 h).elim
   .exact(n6 h).elim
   .exact(n7 h).elim
   .exact(n8 h).elim
   .exact h
  have e:=(leaf 9 (by decide) (by decide) (by decide) h9).trans (ahY h9);refine af (λg=>⟨hr,trivial,fin _ (e.trans ?_)⟩) λg=>fin _ (e.trans ?_)
  .have g:(!(f3==0))=true:=g;dsimp only;rw[g];rfl
  .have g:(!(f3==0))=false:=g;dsimp only;rw[g];rfl
theorem X6:lT prog G D6 Gl:=
 agb (λn=>@Dz ⟨n⟩) (λn=>@BZ ⟨n⟩) (by rintro⟨q,at',⟨i,o,s,l,a,⟨⟩⟩,r,⟨⟩⟩ h;exact Nat.not_lt_zero _ h.2) (by rintro _ ⟨q,at',⟨i,o,s,l,a,⟨⟩⟩,r,⟨⟩⟩;rfl) (by rintro⟨q,at',⟨i,o,s,l,a,⟨⟩⟩,r,⟨⟩⟩ h;exact⟨_,h,Nat.lt_succ_self _⟩) (by rintro _ ⟨q,at',⟨i,o,s,l,a,⟨⟩⟩,r,⟨⟩⟩;rfl) λn h=>@KU ⟨n⟩ h
theorem X7:OK zG.e:=by
 refine PA.ok mixed (aC [(Bl,.pure Eo),kH.e] ⟨⟨TN,QB⟩,xA,trivial⟩) H0 (by kernel_rfl) (show∀q f0 f1 f2 f3 f4 wK,zG.goal (X8 q f0 f1 f2 f3 f4 wK) (q,(f0,f1,f2,f3,f4,()),wK,())from ?_);intro q f0 f1 f2 f3 f4 r hin hp;dsimp only[zG]at hp ⊢;obtain⟨h1,h2⟩:=hp;have e:∀z,aU q=z->gZ q (f0,f1,f2,f3,f4,()) (aT r)=(z&&Sp.val q (f0,f1,f2,f3,f4,()) (aT r) (q.length-1)):=λz hz=>by unfold gZ;rw[hz]
 refine⟨by omega,af (λh=>?_) λh=>?_⟩
 .have hl:=Sp.AP h;rw[rO (by omega) (by omega)];refine⟨⟨h,by omega,by omega,h2⟩,?_⟩;rw[e _ h,amd];rfl
 .rw[e _ h];rfl
theorem X9:OK zH.e:=by
 refine PA.ok mixed (aC [(D6,.pure Gl),kG.e] ⟨⟨X6,Vt⟩,xB,trivial⟩) H0 (by kernel_rfl) (show∀q f0 f1 f2 f3 f4 a,zH.goal (Ya q f0 f1 f2 f3 f4 a) (q,(f0,f1,f2,f3,f4,()),a,())from ?_);intro q f0 f1 f2 f3 f4 r hin hp;dsimp only[zH]at hp ⊢;obtain⟨h1,h2⟩:=hp;have e:∀z,aU q=z->gZ q (f0,f1,f2,f3,f4,()) (aT r)=(z&&Sp.val q (f0,f1,f2,f3,f4,()) (aT r) (q.length-1)):=λz hz=>by unfold gZ;rw[hz]
 refine⟨by omega,af (λh=>?_) λh=>?_⟩
 .have hl:=Sp.AP h;rw[rO (by omega) (by omega)];refine⟨⟨h,by omega,by omega,h2⟩,?_⟩;rw[e _ h,amd];rfl
 .rw[e _ h];rfl
theorem OJ:OK sH.e:=by refine PA.ok mixed (aC [zG.e] ⟨X7,trivial⟩) QV (by kernel_rfl) (show∀s0 s1 s2 q wK,sH.goal (OL s0 s1 s2 q wK) ((s0,s1,s2,()),q,wK,())from ?_);intro s0 fs nx q r hin hp;dsimp only[sH]at hp ⊢;obtain⟨h1,h2,h3⟩:=hp;have hl:fs.length<=1000:=h1.2.1;exact VW (K:=λz=>z=(Sp.sel fs q (aT r),())) (λf=>gZ q f (aT r)) (λf:aH=>(f.1,())) (0,0,false,0,[],()) fs _ (A:=λ_=>q.length<=1000/\aZ r) (λ_ _=>⟨h2,h3⟩) (by omega) rfl
theorem DL:OK oh.e:=by refine PA.ok mixed (aC [] trivial) QW (by kernel_rfl) (show∀s1 s2,oh.goal (OM s1 s2) (s1,s2,())from ?_);intro a b hin hp;dsimp only[oh]at hp ⊢;exact eqL (K:=λr=>r=(decide (a=b),())) (λx y:Int×Unit=>x.1 !=y.1) (λx y=>by simp[anw]) _ a b _ hin.1.1 rfl
theorem AQ:OK lG.e:=by
 refine PA.ok mixed (aC [oh.e] ⟨DL,trivial⟩) H0 (by kernel_rfl) (show∀x0 x1 y0 y1,lG.goal (JB x0 x1 y0 y1) ((x0,x1,()),(y0,y1,()),())from ?_);intro a0 a1 b0 b1 hin hp;dsimp only[lG]at hp ⊢;refine af (λh0=>⟨trivial,?_⟩) λh0=>?_
 all_goals refine congrArg (·,()) (amc.2 ?_)
 .simp[alT.1 h0]
 .simp[show a0≠b0 by simpa using h0]
theorem lq:OK cu.e:=by refine PA.ok mixed (aC [lG.e] ⟨AQ,trivial⟩) lQ (by kernel_rfl) (show∀s1 s2,cu.goal (lC s1 s2) (s1,s2,(()),())from ?_);intro a b hin hp;dsimp only[cu]at hp ⊢;exact ai2 (K:=λr=>r=(decide (a=b),())) (λx y=>!decide (x=y)) (λx y=>by simp) _ a b _ hin.1.1 rfl
theorem Nb:OK qV.e:=by refine PA.ok mixed (aC [lG.e,cu.e] ⟨AQ,lq,trivial⟩) H0 (by kernel_rfl) (show∀a b,qV.goal (Nc a b) (a,b,())from ?_);intro a b hin hp;dsimp only[qV]at hp ⊢;exact⟨trivial,rfl⟩
end Go.Proofs.Tryz
namespace Go.Proofs.Tryz
open Go Go.Fw Go.IntWalk Sp
theorem Bo{fs:List aH}{a:List bV}{nx:Int}{d:List aK}(r:List bP)(nm:Sp.Bytes->Bool):∃out,(ax d&&aB (a,fs,nx,()))=true->fK fs d r nm out:=by
 by_cases h:(ax d&&aB (a,fs,nx,()))=true
 .rw[alK]at h;obtain⟨ak,hl⟩:=MS h.1;obtain⟨out,ho⟩:=Nh r nm (jO.1 h.1).1 hl (vY h.2);exact⟨out,λ_=>ho⟩
 .exact⟨[],λh'=>(h h').elim⟩
abbrev DD0:aK:=([],[],())
theorem ai3{a b:Int}(h:(a !=b)=false):a=b:=by simpa using h
theorem acK{α β:Type}(g:α->β)(d:α)(l:List α){n:Nat}(h:n<l.length):(l.take n).map g++[g (l.getD n d)]=(l.take (n+1)).map g:=by rw[Sp.take_succ' l n d h,amY];rfl
theorem tK{d:List aK}(h:ax d=true):eF d=true/\d.length<=5:=⟨(jO.1 h).1,MV (jO.1 h).1⟩
theorem still_at{d:List aK}{ak:List (Int×Unit)}{nm:Sp.Bytes->Bool}{fs:List aH}{out:List bP}{k:Nat}
 (h:∀j,j<d.length->j<d.length->nm (Sp.nameOf d j)=true->Sp.lv ak j=k->Sp.sel fs (eP d j) (aT out)=fQ out j):∀i,i<d.length->nm (Sp.nameOf d i)=true->Sp.lv ak i=k->Sp.sel fs (eP d i) (aT out)=fQ out i:=λi hi=>h i hi hi
theorem acL:∀(l:List (Int×Unit)),0<l.length->∃m:Int,(∀x∈l,x.1<=m)/\(m,())∈l
 |[x],_=>⟨x.1,λy hy=>by rw[amA.1 hy];exact amC _,amA.2 rfl⟩
 |x::y::r,_=>by
  obtain⟨m,h1,h2⟩:=acL (y::r) (by simp);by_cases h:x.1<=m
  .exact⟨m,λz hz=>by rcases ame.1 hz with rfl|hz;exact h;exact h1 z hz,alU _ h2⟩
  .exact⟨x.1,λz hz=>by rcases ame.1 hz with rfl|hz;exact amC _;have:=h1 z hz;omega,alW⟩
theorem OO:OK sJ.e:=by
 refine PA.ok mixed (aC [zH.e] ⟨X9,trivial⟩) QX (by kernel_rfl) (show∀s0 s1 s2 q a,sJ.goal (OQ s0 s1 s2 q a) ((s0,s1,s2,()),q,a,())from ?_);intro s0 fs nx q r hin hp;dsimp only[sJ]at hp ⊢;obtain⟨h1,h2,h3⟩:=hp;have hl:fs.length<=1000:=h1.2.1;obtain⟨I,μ,g0,g1⟩:=VW (K:=λz=>z=(Sp.sel fs q (aT r),())) (λf=>gZ q f (aT r)) (λf:aH=>(f.1,())) (0,0,false,0,[],()) fs (q,r,(s0,fs,nx,()),()) (A:=λ_=>q.length<=1000/\aZ r) (λ_ _=>⟨h2,h3⟩) (by omega) rfl;refine⟨I,μ,g0,λy hy=>?_⟩;have h:=g1 y hy;dsimp only at h ⊢;revert h;cases decide (y.1.2.1<(fs.length:Int))with
 |false=>exact id
 |true=>
  rintro⟨b,a,h⟩;refine⟨b,a,?_⟩;revert h;cases gZ q (fs.getD (Int.toNat y.1.2.1) (0,0,false,0,[],())) (aT r)with
  |true=>exactλh=>⟨b,h.1,rfl,h.2.2⟩
  |false=>exactλh=>⟨rfl,h.2⟩
theorem He:OK sK.e:=by refine PA.ok mixed (aC [] trivial) Yb (by kernel_rfl) (show∀d,sK.goal (VX d) (d,())from ?_);intro d hin hp;dsimp only[sK]at hp ⊢;exact akP (K:=λr=>r=(iJ d,())) (λx:aK=>(x.1,())) ([],[],()) d _ (by have hp:d.length<=1000:=hp;omega) rfl
theorem TP:OK wU.e:=by
 refine XA.ok mixed (aC [] trivial) VY (λ⟨l,_⟩ hp=>by obtain⟨m,h⟩:=acL l hp;exact⟨((m,()),()),h⟩) (by kernel_rfl) (show∀BI,wU.goal (TQ BI) (BI,())from ?_);intro l hin hp;dsimp only[wU]at hp ⊢;have hp:0<l.length:=hp;have hlen:l.length<=maxLen:=hin.1.1;rw[maxLen_eq]at hlen;refine⟨λ_=>True,af (λh=>by have:=iF h;omega) λh=>⟨rfl,trivial⟩,λ_ _=>⟨⟨by omega,by omega⟩,?_⟩⟩;refine⟨λy=>∃n:Nat,y.1.2.1=n/\1<=n/\n<=l.length/\(∀i,i<n->Sp.lv l i<=y.1.1)/\∃i,i<l.length/\Sp.lv l i=y.1.1,λy=>((l.length:Int)-y.1.2.1).toNat,⟨1,rfl,by omega,by omega,λi hi=>by rw[show i=0 by omega];exact amC _,0,hp,rfl⟩,?_⟩;rintro⟨⟨m,_,⟨⟩⟩,⟨⟩⟩ ⟨n,rfl,n1,n2,h1,h2⟩;dsimp only at h1 h2 ⊢;refine af (λhc=>?_) λhc=>⟨λx hx=>?_,?_⟩
 .have hc:=iF hc;have w:IntKind.i64.wrap ((n:Int)+1)=((n+1:Nat):Int):=fU _ (by omega);rw[w];have e:(l.getD (Int.toNat (n:Int)) (0,())).1=Sp.lv l n:=rfl;rw[e];refine⟨⟨by omega,by omega⟩,rfl,⟨n+1,rfl,by omega,by omega,λi hi=>?_,?_⟩,by omega⟩
  .by_cases hi':i=n
   .subst hi';split<;>omega
   .have:=h1 i (by omega);split<;>omega
  .split
   .exact⟨n,by omega,rfl⟩
   .exact h2
 .have hc:=iI hc;exact acH (p:=λz=>z<=m) (λi hi=>h1 i (by omega)) x hx
 .obtain⟨i,hi,e⟩:=h2;have:=QY hi;rw[e]at this;exact this
theorem QZ:OK uK.e:=by
 refine XA.ok mixed (aC [wU.e,xJ.e] ⟨TP,KR,trivial⟩) H0 (λ⟨d,_⟩ _=>⟨(((1000:Int),()),()),⟨amC _,λak hs hl i hi=>by have:=(hl.2.1 i hi).2;have:=(tK hs).2;show Sp.lv ak i<=1000;omega⟩⟩) (by kernel_rfl) (show∀d,uK.goal (Q5 d) (d,())from ?_);intro d hin hp;dsimp only[uK]at hp ⊢;refine⟨hp,?_⟩;rintro⟨⟨ak,ok,⟨⟩⟩,⟨⟩⟩ ⟨e1,e2⟩;have e1:ok=ax d:=e1;have e2:ok=true->jI d ak:=e2;refine af (λh=>?_) λh=>af (λh2=>?_) λh2=>⟨?_,?_⟩
 .have h:ok=false:=gW h;exact⟨by decide,λl hs=>by rw[← e1,h]at hs;cases hs⟩
 .have h2:(ak.length:Int)=0:=by simpa using h2
  have hl:=e2 (dM h);exact⟨by decide,λl hs hl' i hi=>by have:=hl.1;omega⟩
 .have h2:¬(ak.length:Int)=0:=by simpa using h2
  show 0<ak.length;omega
 .rintro⟨⟨m,⟨⟩⟩,⟨⟩⟩ ⟨g1,g2⟩;have hl:=e2 (dM h);have hlen:=(tK (e1▸dM h)).2;have g2:(m,())∈ak:=g2;refine⟨?_,λl hs hl' i hi=>?_⟩
  .obtain⟨i,hi,e⟩:=amx g2;have hi':i<d.length:=by rw[← hl.1];exact hi
   have:=(hl.2.1 i hi').2;have e3:Sp.lv ak i=m:=by unfold Sp.lv;rw[alM,alO hi,e];rfl
   show m<=1000;omega
  .rw[Q7 hl' hl];exact g1 _ (QY (by rw[hl.1];exact hi))
theorem Q8:OK uM.e:=by
 refine XA.ok mixed (aC [xK.e] ⟨KQ,trivial⟩) TR (λ⟨d,_⟩ _=>⟨(((1000:Int),()),()),⟨amC _,λak hs hl i hi=>by have:=(hl.2.1 i hi).2;have:=(tK hs).2;show Sp.lv ak i<=1000;omega⟩⟩) (by kernel_rfl) (show∀d,uM.goal (Q9 d) (d,())from ?_);intro d hin hp;dsimp only[uM]at hp ⊢;refine⟨hp,?_⟩;rintro⟨⟨ak,ok,⟨⟩⟩,⟨⟩⟩ ⟨e1,e2,e3⟩;have e1:ok=ax d:=e1;have e2:ok=true->jI d ak:=e2;have e3:ok=false->ak=[]:=e3;have hlen:ak.length<=5/\∀i,i<ak.length->Sp.lv ak i<=1000:=by
  cases hk:ok with
  |false=>rw[e3 hk];exact⟨by decide,λi hi=>by simp at hi⟩
  |true=>have hl:=e2 hk;have h5:=(tK (e1▸hk)).2;exact⟨by rw[hl.1];exact h5,λi hi=>by have:=(hl.2.1 i (by rw[← hl.1];exact hi)).2;omega⟩
 refine⟨λy=>∃n:Nat,y.1.2.1=n/\n<=ak.length/\y.1.1<=1000/\∀i,i<n->Sp.lv ak i<=y.1.1,λy=>((ak.length:Int)-y.1.2.1).toNat,⟨0,rfl,by omega,by decide,λi hi=>by omega⟩,?_⟩;rintro⟨⟨m,_,⟨⟩⟩,⟨⟩⟩ ⟨n,rfl,n2,hm,h1⟩;dsimp only at hm h1 ⊢;have e:(ak.getD (Int.toNat (n:Int)) (0,())).1=Sp.lv ak n:=rfl;rw[e];refine af (λhc=>?_) λhc=>?_
 .have hc:=iF hc;have w:IntKind.i64.wrap ((n:Int)+1)=((n+1:Nat):Int):=fU _ (by omega);rw[w];have ajM:=hlen.2 n (by omega);refine⟨⟨by omega,by omega⟩,af (λg=>⟨⟨by omega,by omega⟩,rfl,⟨n+1,rfl,by omega,ajM,λi hi=>?_⟩,by dsimp only;omega⟩) λg=>⟨rfl,⟨n+1,rfl,by omega,hm,λi hi=>?_⟩,by dsimp only;omega⟩⟩
  .have g:=iF g;by_cases hi':i=n
   .subst hi';exact amC _
   .have:=h1 i (by omega);dsimp only;omega
  .have g:=iI g;by_cases hi':i=n
   .subst hi';dsimp only;omega
   .exact h1 i (by omega)
 .have hc:=iI hc;refine⟨hm,λl hs hl' i hi=>?_⟩;have hl:=e2 (e1.trans hs);rw[Q7 hl' hl];exact h1 i (by rw[← hl.1]at hi;omega)
theorem Fb:OK qB.e:=by
 refine XA.ok mixed (aC [oh.e,sH.e,uK.e,jw.e,mg.e,ni.e,xJ.e] ⟨DL,OJ,QZ,uV,FX,Df,KR,trivial⟩) VZ (λ⟨(a,fs,nx,_),d,r,names,_⟩ _=>by obtain⟨out,h⟩:=Bo (fs:=fs) (a:=a) (nx:=nx) (d:=d) r (jv names);exact⟨(((out,0,(ax d&&aB (a,fs,nx,())),()),())),⟨rfl,h⟩⟩) (by kernel_rfl) (show∀s0 s1 s2 d wK names,qB.goal (TS s0 s1 s2 d wK names) ((s0,s1,s2,()),d,wK,names,())from ?_);intro a fs nx d r names hin hp;dsimp only[qB]at hp ⊢;obtain⟨hs,hd,hr⟩:dH (a,fs,nx,())/\bI d/\aZ r:=hp;refine⟨hd,?_⟩;rintro⟨⟨ak,ok0,⟨⟩⟩,⟨⟩⟩ ⟨e1,e2⟩;have e1:ok0=ax d:=e1;have e2:ok0=true->jI d ak:=e2;refine⟨λ_=>ok0=true/\aB (a,fs,nx,())=true,af (λh=>?_) λh=>⟨trivial,af (λh2=>?_) λh2=>⟨rfl,dM h,dM h2⟩⟩,?_⟩
 .have h:ok0=false:=gW h;have hz:(ax d&&aB (a,fs,nx,()))=false:=by rw[← e1,h];rfl
  exact⟨hz.symm,λh=>by cases h⟩
 .have h2:aB (a,fs,nx,())=false:=gW h2;have hz:(ax d&&aB (a,fs,nx,()))=false:=by rw[h2,amP]
  exact⟨hz.symm,λh=>by cases h⟩
 rintro y3 ⟨hk,hst⟩;have Hf:ax d=true:=e1▸hk;have hz:(ax d&&aB (a,fs,nx,()))=true:=by rw[Hf,hst];rfl
 obtain⟨hok,hlen⟩:=tK Hf;have hl:jI d ak:=e2 hk;have hf:=vY hst;have hf:Sp.distinct fs:=hf;have hfs:fs.length<=1000:=hs.2.1;refine fZ (λi(x:List bP)=>(((),i,()),x,())) (λy=>y.1.2.1) (λ_ _=>rfl) d.length (by omega) (λn l=>l=(d.take n).map (vZ r (jv names))) rfl (λI μ n l hn hJ next=>?_) λI μ l hJ=>?_
 .subst hJ;have hl:((d.take n).map (vZ r (jv names))).length<=n:=by rw[alV,alQ];omega
  have step:=acK (vZ r (jv names)) DD0 d hn;dsimp only;refine dR (by omega) ⟨⟨by omega,by omega⟩,trivial,af (λh=>⟨hr,by rw[eY];simp only[al2,aml];omega,rfl,next _ ?_⟩) λh=>⟨by rw[eY];simp only[al2,aml];omega,rfl,next _ ?_⟩⟩
  .rw[← step];have h:jv names (d.getD n DD0).1=false:=gW h;unfold vZ;rw[h];rfl
  .rw[← step];have h:jv names (d.getD n DD0).1=true:=dM h;unfold vZ;rw[h];rfl
 subst hJ;rw[amu];dsimp only;refine dS (by omega) ⟨λy=>∃k:Nat,y.1.2.1=k/\mO fs d r (jv names) ak k y.2.1,λy=>(1002-y.1.2.1).toNat,⟨0,rfl,JC hok hl⟩,?_⟩;rintro⟨⟨ps,_,⟨⟩⟩,out,⟨⟩⟩ ⟨k,rfl,A⟩;dsimp only at A ⊢;refine⟨hd,?_⟩;rintro⟨⟨m,⟨⟩⟩,⟨⟩⟩ ⟨m1,m2⟩;have m1:m<=1000:=m1;have m2:∀i,i<d.length->Sp.lv ak i<=m:=m2 ak Hf hl;refine af (λhc=>?_) λhc=>⟨hz.symm,λ_=>Sp.at_end hok hl A λi hi=>by have:=m2 i hi;have hc:¬(k:Int)<=m:=iI hc;omega⟩;have hc:(k:Int)<=m:=iF hc;refine⟨λy=>mO fs d r (jv names) ak k y.2.1/\(y.1.2.1=false->∀i,i<d.length->jv names (Sp.nameOf d i)=true->Sp.lv ak i=k->Sp.sel fs (eP d i) (aT y.2.1)=fQ y.2.1 i),λy=>Sp.room fs.length y.2.1*2+(if y.1.2.1=true then 1 else 0),⟨A,λh=>by cases h⟩,?_⟩;rintro⟨⟨ps2,ch,⟨⟩⟩,acM,⟨⟩⟩ ⟨A2,st2⟩;dsimp only at A2 st2 ⊢;have wk:IntKind.i64.wrap ((k:Int)+1)=((k+1:Nat):Int):=fU _ (by omega);refine af (λhch=>?_) λhch=>⟨rfl,⟨k+1,wk,Sp.at_next hok A2 (st2 hch)⟩,by rw[wk];dsimp only;omega⟩;subst hch;refine fZ (λi(x:Bool×List bP)=>((x.1,i,()),x.2,())) (λy=>y.1.2.1) (λ_ _=>rfl) d.length (by omega) (λi x=>Gi fs d r (jv names) ak k acM i x.1 x.2) (s0:=(false,acM)) ⟨A2,λh=>(by cases h),λ_=>⟨rfl,λj hj=>by omega⟩⟩ (λI μ i x hi hJ next=>?_) λI μ x hJ=>?_
 .obtain⟨c,JD⟩:=x;have A3:=hJ.1;have ol:JD.length=d.length:=A3.order.1;have hsm:=UI A3 (by omega) hfs hr;dsimp only;rw[amd];refine dR (by omega) ⟨⟨by omega,by omega⟩,⟨by omega,by rw[hl.1];omega⟩,af (λh=>⟨rfl,next (c,JD) (EJ hJ λ_ h'=>?_)⟩) λh=>⟨trivial,af (λh2=>⟨rfl,next (c,JD) (EJ hJ λh'=>?_)⟩) λh2=>⟨⟨hs,uz hd hi,hsm⟩,⟨by omega,by omega⟩,by omega,trivial,af (λh3=>⟨⟨by omega,by omega⟩,by omega,rfl,next (true,_) (acN hok hl hf hJ hi (dM h2) ?_ ?_)⟩) λh3=>⟨rfl,next (c,JD) (EJ hJ λ_ _=>?_)⟩⟩⟩⟩
  .exact(bne_iff_ne.1 h h').elim
  .have h2:jv names (Sp.nameOf d i)=false:=gW h2;rw[h2]at h';cases h'
  .exact ai3 h
  .exact iI (gW h3)
  .exact iF (dM h3)
 .obtain⟨c,JD⟩:=x;dsimp only;obtain⟨A3,c1,c2⟩:=hJ;refine dS (by omega) ⟨rfl,⟨A3,λhc=>still_at (c2 hc).2⟩,?_⟩;cases c with
  |true=>have:=c1 rfl;dsimp only at this ⊢;simp only[if_true];omega
  |false=>have:=(c2 rfl).1;dsimp only at this ⊢;rw[this];simp
theorem Zx:OK Ba.e:=by
 refine XA.ok mixed (aC [vz.e,sJ.e,uM.e,ng.e,xK.e] ⟨IY,OO,Q8,Dc,KQ,trivial⟩) aa3 (λ⟨(a,fs,nx,_),d,_⟩ _=>by obtain⟨out,h⟩:=Bo (fs:=fs) (a:=a) (nx:=nx) (d:=d) [] (λ_=>true);exact⟨(((out,0,(ax d&&aB (a,fs,nx,())),()),())),⟨rfl,h⟩⟩) (by kernel_rfl) (show∀s0 s1 s2 d,Ba.goal (Zy s0 s1 s2 d) ((s0,s1,s2,()),d,())from ?_);intro a fs nx d hin hp;dsimp only[Ba]at hp ⊢;obtain⟨hs,hd⟩:dH (a,fs,nx,())/\bI d:=hp;have hr:aZ []:=⟨by decide,λx hx=>by cases hx⟩;refine⟨hd,?_⟩;rintro⟨⟨ak,ok0,⟨⟩⟩,⟨⟩⟩ ⟨e1,e2,_⟩;have e1:ok0=ax d:=e1;have e2:ok0=true->jI d ak:=e2;refine⟨λ_=>ok0=true/\aB (a,fs,nx,())=true,af (λh=>?_) λh=>⟨trivial,af (λh2=>?_) λh2=>⟨rfl,dM h,dM h2⟩⟩,?_⟩
 .have h:ok0=false:=gW h;have hz:(ax d&&aB (a,fs,nx,()))=false:=by rw[← e1,h];rfl
  exact⟨hz.symm,λh=>by cases h⟩
 .have h2:aB (a,fs,nx,())=false:=gW h2;have hz:(ax d&&aB (a,fs,nx,()))=false:=by rw[h2,amP]
  exact⟨hz.symm,λh=>by cases h⟩
 rintro y3 ⟨hk,hst⟩;have Hf:ax d=true:=e1▸hk;have hz:(ax d&&aB (a,fs,nx,()))=true:=by rw[Hf,hst];rfl
 obtain⟨hok,hlen⟩:=tK Hf;have hl:jI d ak:=e2 hk;have hf:=vY hst;have hf:Sp.distinct fs:=hf;have hfs:fs.length<=1000:=hs.2.1;refine fZ (λi(x:List bP)=>(((),i,()),x,())) (λy=>y.1.2.1) (λ_ _=>rfl) d.length (by omega) (λn l=>l=(d.take n).map (vZ [] (λ_=>true))) rfl (λI μ n l hn hJ next=>?_) λI μ l hJ=>?_
 .subst hJ;have hl:((d.take n).map (vZ [] (λ_=>true))).length<=n:=by rw[alV,alQ];omega
  have step:=acK (vZ [] (λ_=>true)) DD0 d hn;dsimp only;refine dR (by omega) ⟨⟨by omega,by omega⟩,by rw[eY];simp only[al2,aml];omega,rfl,next _ ?_⟩;rw[← step];rfl
 subst hJ;rw[amu];dsimp only;refine dS (by omega) ⟨λy=>∃k:Nat,y.1.2.1=k/\mO fs d [] (λ_=>true) ak k y.2.1,λy=>(1002-y.1.2.1).toNat,⟨0,rfl,JC hok hl⟩,?_⟩;rintro⟨⟨ps,_,⟨⟩⟩,out,⟨⟩⟩ ⟨k,rfl,A⟩;dsimp only at A ⊢;refine⟨hd,?_⟩;rintro⟨⟨m,⟨⟩⟩,⟨⟩⟩ ⟨m1,m2⟩;have m1:m<=1000:=m1;have m2:∀i,i<d.length->Sp.lv ak i<=m:=m2 ak Hf hl;refine af (λhc=>?_) λhc=>⟨hz.symm,λ_=>Sp.at_end hok hl A λi hi=>by have:=m2 i hi;have hc:¬(k:Int)<=m:=iI hc;omega⟩;have hc:(k:Int)<=m:=iF hc;refine⟨λy=>mO fs d [] (λ_=>true) ak k y.2.1/\(y.1.2.1=false->∀i,i<d.length->true=true->Sp.lv ak i=k->Sp.sel fs (eP d i) (aT y.2.1)=fQ y.2.1 i),λy=>Sp.room fs.length y.2.1*2+(if y.1.2.1=true then 1 else 0),⟨A,λh=>by cases h⟩,?_⟩;rintro⟨⟨ps2,ch,⟨⟩⟩,acM,⟨⟩⟩ ⟨A2,st2⟩;dsimp only at A2 st2 ⊢;have wk:IntKind.i64.wrap ((k:Int)+1)=((k+1:Nat):Int):=fU _ (by omega);refine af (λhch=>?_) λhch=>⟨rfl,⟨k+1,wk,Sp.at_next hok A2 (st2 hch)⟩,by rw[wk];dsimp only;omega⟩;subst hch;refine fZ (λi(x:Bool×List bP)=>((x.1,i,()),x.2,())) (λy=>y.1.2.1) (λ_ _=>rfl) d.length (by omega) (λi x=>Gi fs d [] (λ_=>true) ak k acM i x.1 x.2) (s0:=(false,acM)) ⟨A2,λh=>(by cases h),λ_=>⟨rfl,λj hj=>by omega⟩⟩ (λI μ i x hi hJ next=>?_) λI μ x hJ=>?_
 .obtain⟨c,JD⟩:=x;have A3:=hJ.1;have ol:JD.length=d.length:=A3.order.1;have hsm:=UI A3 (by omega) hfs hr;dsimp only;rw[amd];refine dR (by omega) ⟨⟨by omega,by rw[hl.1];omega⟩,af (λh=>⟨rfl,next (c,JD) (EJ hJ λ_ h'=>?_)⟩) λh=>⟨⟨by omega,by omega⟩,⟨hs,uz hd hi,hsm⟩,⟨by omega,by omega⟩,by omega,trivial,af (λh3=>⟨⟨by omega,by omega⟩,by omega,rfl,next (true,_) (acN hok hl hf hJ hi rfl ?_ ?_)⟩) λh3=>⟨rfl,next (c,JD) (EJ hJ λ_ _=>?_)⟩⟩⟩
  .exact(bne_iff_ne.1 h h').elim
  .exact ai3 h
  .exact iI (gW h3)
  .exact iF (dM h3)
 .obtain⟨c,JD⟩:=x;dsimp only;obtain⟨A3,c1,c2⟩:=hJ;refine dS (by omega) ⟨rfl,⟨A3,λhc=>still_at (nm:=λ_=>true) (c2 hc).2⟩,?_⟩;cases c with
  |true=>have:=c1 rfl;dsimp only at this ⊢;simp only[if_true];omega
  |false=>have:=(c2 rfl).1;dsimp only at this ⊢;rw[this];simp
end Go.Proofs.Tryz
namespace Go.Proofs.Tryz
open Go Go.Fw Go.IntWalk Sp
theorem Nj{d:List aK}{i:Nat}(hi:i<d.length):jv (iJ d) (Sp.nameOf d i)=true:=by rw[V3];unfold iJ;rw[am6];exact⟨bW d i,getD_mem hi,rfl⟩
theorem Nk:aZ []:=⟨by decide,λx hx=>by cases hx⟩
theorem agB{fs:List aH}{d:List aK}{out:List bP}(h:fK fs d [] (jv (iJ d)) out):fK fs d [] (λ_=>true) out:=
 UJ h (λi hi=>Nj hi) λi hi hn=>absurd ((Nj hi).symm.trans hn) (by decide)
theorem Hg:OK sN.e:=by refine XA.ok mixed (aC [qB.e,sK.e] ⟨Fb,He,trivial⟩) H0 (λ⟨(a,fs,nx,_),d,_⟩ _=>by obtain⟨out,h⟩:=Bo (fs:=fs) (a:=a) (nx:=nx) (d:=d) [] (λ_=>true);exact⟨(((out,(ax d&&aB (a,fs,nx,())),()),())),⟨rfl,h⟩⟩) (by kernel_rfl) (show∀s0 s1 s2 d,sN.goal (V4 s0 s1 s2 d) ((s0,s1,s2,()),d,())from ?_);intro a fs nx d hin hp;dsimp only[sN]at hp ⊢;refine⟨hp.2.1,⟨hp.1,hp.2,Nk⟩,λr hr=>⟨hr.1,λh=>agB (hr.2 h)⟩⟩
theorem Rf:OK uN.e:=by refine XA.ok mixed (aC [qB.e] ⟨Fb,trivial⟩) H0 (λ⟨(a,fs,nx,_),d,r,names,_⟩ _=>by obtain⟨out,h⟩:=Bo (fs:=fs) (a:=a) (nx:=nx) (d:=d) r (jv names);exact⟨(((out,(ax d&&aB (a,fs,nx,())),()),())),⟨rfl,h⟩⟩) (by kernel_rfl) (show∀s0 s1 s2 d wK names,uN.goal (Rh s0 s1 s2 d wK names) ((s0,s1,s2,()),d,wK,names,())from ?_);intro a fs nx d r names hin hp;dsimp only[uN]at hp ⊢;exact⟨hp,λr hr=>hr⟩
theorem V5:OK yO.e:=by refine XA.ok mixed (aC [Ba.e] ⟨Zx,trivial⟩) Yc (λ⟨(a,fs,nx,_),d,_⟩ _=>by obtain⟨out,h⟩:=Bo (fs:=fs) (a:=a) (nx:=nx) (d:=d) [] (λ_=>true);exact⟨(((out,(ax d&&aB (a,fs,nx,())),()),())),⟨rfl,h⟩⟩) (by kernel_rfl) (show∀s0 s1 s2 d,yO.goal (V6 s0 s1 s2 d) ((s0,s1,s2,()),d,())from ?_);intro a fs nx d hin hp;dsimp only[yO]at hp ⊢;exact⟨hp,λr hr=>hr⟩
theorem afd(a:List bV)(fs:List aH)(nx:Int)(d:List aK):∃t:((List bV×List aH×Int×List aK×List bP×Unit)×Bool×Unit)×Unit,
 t.1.2.1=(ax d&&aB (a,fs,nx,()))/\(t.1.2.1=true->(t.1.1.1,t.1.1.2.1,t.1.1.2.2.1,())=(a,fs,nx,())/\t.1.1.2.2.2.1=d/\fK fs d [] (λ_=>true) t.1.1.2.2.2.2.1)/\(t.1.2.1=false->(t.1.1.1,t.1.1.2.1,t.1.1.2.2.1,t.1.1.2.2.2.1,t.1.1.2.2.2.2.1,())=([],[],0,[],[],())):=by
 obtain⟨out,h⟩:=Bo (fs:=fs) (a:=a) (nx:=nx) (d:=d) [] (λ_=>true);cases hk:(ax d&&aB (a,fs,nx,()))with
 |true=>exact⟨(((a,fs,nx,d,out,()),true,()),()),⟨rfl,λ_=>⟨rfl,rfl,h hk⟩,λh=>(by cases h)⟩⟩
 |false=>exact⟨((([],[],0,[],[],()),false,()),()),⟨rfl,λh=>(by cases h),λ_=>rfl⟩⟩
theorem Ri:OK uO.e:=by
 refine XA.ok mixed (aC [zD.e,ve.e,yO.e] ⟨Yd,IX,V5,trivial⟩) TT (λ⟨(a,fs,nx,_),d,_⟩ _=>afd a fs nx d) (by kernel_rfl) (show∀s0 s1 s2 d,uO.goal (Rj s0 s1 s2 d) ((s0,s1,s2,()),d,())from ?_);intro a fs nx d hin hp;dsimp only[uO]at hp ⊢;refine⟨hp,λr0 hr0=>af (λh=>?_) λh=>⟨hp.1,λr1 hr1=>⟨hp.2,?_⟩⟩⟩
 .have h:r0.1.2.1=false:=gW h;have e:(ax d&&aB (a,fs,nx,()))=false:=hr0.1.symm.trans h;exact⟨e.symm,λh=>(by cases h),λ_=>rfl⟩
 .have h:r0.1.2.1=true:=dM h;have e:(ax d&&aB (a,fs,nx,()))=true:=hr0.1.symm.trans h;exact⟨e.symm,λ_=>⟨hr1,rfl,hr0.2 h⟩,λh=>by cases h⟩
theorem acO{a:List bV}{fs:List aH}{nx:Int}{d:List aK}{r out:List bP}(h:(ax d&&aB (a,fs,nx,()))=true)(ho:fK fs d [] (λ_=>true) out):jg (a,fs,nx,d,r,())=decide (out=r):=by have e:jg (a,fs,nx,d,r,())=((ax d&&aB (a,fs,nx,()))&&@decide (fK fs d [] (λ_=>true) r) (Classical.propDecidable _)):=rfl;rw[e,h,anL,amc,alX (p:=out=r)];rw[alK]at h;exact(@aoA _ (Classical.propDecidable _)).trans ⟨λhr=>Dj (jO.1 h.1).1 ho hr,λe=>e▸ho⟩
theorem ai4{a:List bV}{fs:List aH}{nx:Int}{d:List aK}{r:List bP}(h:(ax d&&aB (a,fs,nx,()))=false):jg (a,fs,nx,d,r,())=false:=by have e:jg (a,fs,nx,d,r,())=((ax d&&aB (a,fs,nx,()))&&@decide (fK fs d [] (λ_=>true) r) (Classical.propDecidable _)):=rfl;rw[e,h,anE]
theorem TU:OK wV.e:=by
 refine PA.ok mixed (aC [qV.e,sN.e] ⟨Nb,Hg,trivial⟩) H0 (by kernel_rfl) (show∀c0 c1 c2 c3 c4,wV.goal (TV c0 c1 c2 c3 c4) ((c0,c1,c2,c3,c4,()),())from ?_);intro a fs nx d r hin hp;dsimp only[wV]at hp ⊢;obtain⟨h1,h2,h3⟩:dH (a,fs,nx,())/\bI d/\aZ r:=hp;refine⟨⟨h1,h2⟩,λr0 hr0=>af (λh=>⟨trivial,?_⟩) λh=>?_⟩
 .rw[acO (hr0.1.symm.trans h) (hr0.2 h)]
 .rw[ai4 (hr0.1.symm.trans h)]
end Go.Proofs.Tryz
namespace Go.Proofs.Tryz
open Go Go.Fw Go.IntWalk Sp
def asks(name:Sp.Bytes)(x:aK):Bool:=(Ye x.2.1).contains name
theorem Hl:OK mY.e:=by refine XA.ok mixed (aC [] trivial) Ib (λ⟨s,_⟩ _=>⟨((s,()),()),rfl⟩) (by kernel_rfl) (show∀s,mY.goal (Ho s) (s,())from ?_);intro s hin hp;dsimp only[mY]at hp ⊢;have hp:s.length<=1000:=hp;intro g hg;refine af (λh=>?_) λh=>⟨by rw[eY];omega,rfl⟩;exact(amH.1 (hg h)).symm
theorem Rk{α:Type}[BEq α][LawfulBEq α]:∀(a b:List α),a.Nodup->(∀x∈a,x∈b)->a.length<=b.length
 |[],_,_,_=>amm _
 |x::r,b,hn,h=>by
  rw[aoQ]at hn;have hx:=h x alW;have ih:=Rk r (b.erase x) hn.2 λy hy=>by
   have hne:y≠x:=λe=>by subst e;exact hn.1 hy
   rw[List.mem_erase_of_ne hne];exact h y (alU _ hy)
  rw[List.length_erase_of_mem hx]at ih;have:0<b.length:=List.length_pos_of_mem hx;rw[al2];omega
def Grown(d:List aK)(names out:Sp.LS):Prop:=∃ex,out=names++ex/\ex.Nodup/\(∀x∈ex,x∈iJ d)/\∀x∈out,Sp.Reach d (λs=>jv names s=true) x.1
theorem Grown.len{d:List aK}{names out:Sp.LS}(h:Grown d names out):out.length<=names.length+d.length:=by obtain⟨ex,rfl,h1,h2,_⟩:=h;have:=Rk ex (iJ d) h1 h2;unfold iJ at this;rw[alV]at this;rw[al7];omega
theorem Grown.add{d:List aK}{names out:Sp.LS}(h:Grown d names out){x:Sp.Bytes×Unit}(h1:x∈iJ d)(h2:x ∉ out)(h3:Sp.Reach d (λs=>jv names s=true) x.1):Grown d names (out++[x]):=by
 obtain⟨ex,rfl,g1,g2,g3⟩:=h;refine⟨ex++[x],by rw[amn],?_,λy hy=>?_,λy hy=>?_⟩
 .rw[List.nodup_append];refine⟨g1,aoQ.2 ⟨by simp,List.nodup_nil⟩,λa ha b hb e=>h2 ?_⟩;rw[amA.1 hb]at e;exact amg.2 (.inr (e▸ha))
 .rcases amg.1 hy with hy|hy
  .exact g2 y hy
  .rw[amA.1 hy];exact h1
 .rcases amg.1 hy with hy|hy
  .exact g3 y hy
  .rw[amA.1 hy];exact h3
theorem acP{d:List aK}{i:Nat}(hi:i<d.length):(Sp.nameOf d i,())∈iJ d:=V3.1 (Nj hi)
end Go.Proofs.Tryz
namespace Go.Proofs.Tryz
open Go Go.Fw Go.IntWalk Sp
theorem Ae:OK nH.e:=by refine PA.ok mixed (aC [lF.e] ⟨AO,trivial⟩) H0 (by kernel_rfl) (show∀id p10,nH.goal (TW id p10) (id,(p10,()),())from ?_);intro x b hin hp;dsimp only[nH]at hp ⊢;exact⟨trivial,rfl⟩
theorem xX:OK gK.e:=by refine PA.ok mixed (aC [nH.e] ⟨Ae,trivial⟩) yF (by kernel_rfl) (show∀s jP,gK.goal (xY s jP) (s,((jP,()),()),())from ?_);intro l b hin hp;dsimp only[gK]at hp ⊢;exact Rl (K:=λr=>r=(Sp.findAt (λx:Int×Unit=>fF b x.1) l,())) (λx:Int×Unit=>fF b x.1) (0,()) l _ hin.1.1 rfl
theorem xC:OK gG.e:=by refine XA.ok mixed (aC [gK.e,nH.e] ⟨xX,Ae,trivial⟩) xZ (λ⟨s,((b,_),_),_⟩ _=>⟨((s.filter (λx=>!fF b x.1),()),()),rfl⟩) (by kernel_rfl) (show∀s wo,gG.goal (xE s wo) (s,((wo,()),()),())from ?_);intro s b hin hp;dsimp only[gG]at hp ⊢;exact⟨trivial,aed (K:=λr=>r.1.1=s.filter λx=>!fF b x.1) (λx:Int×Unit=>fF b x.1) (0,()) s _ (by have hp:s.length<=1000:=hp;omega) rfl⟩
theorem Yf:OK zI.e:=by refine XA.ok mixed (aC [gG.e,nH.e,mY.e] ⟨xC,Ae,Hl,trivial⟩) Zz (λ⟨a,b,_⟩ _=>⟨((Sp.without a b,()),()),rfl⟩) (by kernel_rfl) (show∀a b,zI.goal (Yg a b) (a,b,())from ?_);intro a b hin hp;dsimp only[zI]at hp ⊢;have hp:a.length<=1000:=hp;refine⟨hp,?_⟩;rintro⟨⟨r0,⟨⟩⟩,⟨⟩⟩ e;have e:r0=a:=e;subst e;exact⟨hp,λr h=>h⟩
theorem Yh:OK zJ.e:=by refine XA.ok mixed (aC [zI.e] ⟨Yf,trivial⟩) H0 (λ⟨a,b,_⟩ _=>⟨((Sp.without b a,Sp.without a b,()),()),⟨rfl,rfl⟩⟩) (by kernel_rfl) (show∀a b,zJ.goal (Yi a b) (a,b,())from ?_);intro a b hin hp;dsimp only[zJ]at hp ⊢;exact⟨hp.2,λr0 h0=>⟨hp.1,λr1 h1=>⟨h0,h1⟩⟩⟩
theorem UK(a b:List (Int×Unit)):(Sp.without a b).length<=a.length:=amO _ _
theorem Yj{r:List bP}(h:aZ r)(s:Sp.Bytes):(dn r s).length<=1000:=by
 have:∀l:List bP,(∀x∈l,x.2.1.length<=1000)->(dn l s).length<=1000:=by
  intro l
  induction l with
  |nil=>exactλ_=>amm _
  |cons x t ih=>
   intro hl;rw[dn];cases x.1==s with
   |true=>exact hl x alW
   |false=>exact ih λy hy=>hl y (alU _ hy)
 exact this r h.2
theorem afe(a b:List bP){n:Nat}(h:n<b.length):((b.take (n+1)).map (zo a)).filter Dk=((b.take n).map (zo a)).filter Dk++(bif Dk (zo a (b.getD n BM))then[zo a (b.getD n BM)]else[]):=by rw[Sp.take_succ' b n BM h,amY,anj,List.map_singleton,an3];cases Dk (zo a (b.getD n BM))<;>rfl
theorem OT:OK sO.e:=by
 refine XA.ok mixed (aC [zJ.e,jw.e] ⟨Yh,uV,trivial⟩) Rn (λ⟨a,b,_⟩ _=>⟨((LH a b,()),()),rfl⟩) (by kernel_rfl) (show∀a b,sO.goal (OU a b) (a,b,())from ?_);intro a b hin hp;dsimp only[sO]at hp ⊢;obtain⟨ha,hb⟩:aZ a/\aZ b:=hp;have hbl:=hb.1;refine fZ (λi(x:List I5)=>(((),i,()),x,())) (λy=>y.1.2.1) (λ_ _=>rfl) b.length (by omega) (λn l=>l=((b.take n).map (zo a)).filter Dk) rfl (λI μ n l hn hJ next=>?_) λI μ l hJ=>?_
 .subst hJ;have hl:(((b.take n).map (zo a)).filter Dk).length<=n:=by have:=amO Dk ((b.take n).map (zo a));rw[alV,alQ]at this;omega
  have step:=afe a b hn;have l1:=Yj ha (b.getD n BM).1;have l2:(b.getD n BM).2.1.length<=1000:=I4 hb hn;dsimp only;refine dR (by omega) ⟨⟨by omega,by omega⟩,ha,⟨l1,l2⟩,?_⟩;rintro⟨⟨x,y,⟨⟩⟩,⟨⟩⟩ ⟨e1,e2⟩;have e1:x=Sp.without (b.getD n BM).2.1 (dn a (b.getD n BM).1):=e1;have e2:y=Sp.without (dn a (b.getD n BM).1) (b.getD n BM).2.1:=e2;have k1:=UK (b.getD n BM).2.1 (dn a (b.getD n BM).1);have k2:=UK (dn a (b.getD n BM).1) (b.getD n BM).2.1;rw[← e1]at k1;rw[← e2]at k2;have w:IntKind.i64.wrap ((x.length:Int)+(y.length:Int))=((x.length+y.length:Nat):Int):=by rw[fU _ (by omega)];omega
  have hd:zo a (b.getD n BM)=((b.getD n BM).1,x,y,()):=by rw[e1,e2];rfl
  have hz:Dk (zo a (b.getD n BM))=decide (0<x.length+y.length):=by rw[hd];rfl
  dsimp only;rw[w];refine af (λh=>⟨by rw[eY];simp only[al2,aml];omega,rfl,next _ ?_⟩) λh=>⟨rfl,next _ ?_⟩
  .have h:=iF h;rw[step,hz,alP (by omega),hd];rfl
  .have h:=iI h;rw[step,hz,alR (by omega)];simp
 .subst hJ;rw[amu];dsimp only;exact dS (by omega) rfl
theorem OV:OK sQ.e:=by
 refine XA.ok mixed (aC [nZ.e] ⟨DK,trivial⟩) Ro (λ⟨r,_⟩ _=>⟨((r,()),()),rfl⟩) (by kernel_rfl) (show∀Aa,sQ.goal (OW Aa) (Aa,())from ?_);intro r hin hp;dsimp only[sQ]at hp ⊢;have hp:aZ r:=hp;have hl:=hp.1;refine fZ (λi(x:List bP)=>(((),i,()),x,())) (λy=>y.1.2.1) (λ_ _=>rfl) r.length (by omega) (λn l=>l=r.take n) (by simp) (λI μ n l hn hJ next=>?_) λI μ l hJ=>?_
 .subst hJ;have hl:(r.take n).length<=n:=by rw[alQ];omega
  dsimp only;refine dR (by omega) ⟨⟨by omega,by omega⟩,I4 hp hn,by rw[eY];simp only[al2,aml];omega,rfl,next _ ?_⟩;rw[Sp.take_succ' r n BM hn];rfl
 .subst hJ;rw[amu];dsimp only;exact dS (by omega) rfl
theorem DN:OK oq.e:=by refine XA.ok mixed (aC [sQ.e,sF.e,qw.e] ⟨OV,Hq,Fa,trivial⟩) H0 (λ⟨(a,l,nx,d,r,_),_⟩ _=>⟨(((a,l,nx,d,r,()),()),()),rfl⟩) (by kernel_rfl) (show∀c0 c1 c2 c3 c4,oq.goal (OX c0 c1 c2 c3 c4) ((c0,c1,c2,c3,c4,()),())from ?_);intro a l nx d r hin hp;dsimp only[oq]at hp ⊢;obtain⟨h1,h2,h3⟩:dH (a,l,nx,())/\bI d/\aZ r:=hp;refine⟨h1,?_⟩;rintro⟨⟨⟨a',l',nx',⟨⟩⟩,⟨⟩⟩,⟨⟩⟩ e;have e:((a',l',nx',()):bF)=(a,l,nx,()):=e;refine⟨h2,h3,?_⟩;rintro⟨⟨r',⟨⟩⟩,⟨⟩⟩ e2;have e2:r'=r:=e2;simp only[Prod.mk.injEq]at e;obtain⟨rfl,rfl,rfl,_⟩:=e;subst e2;rfl
theorem JE{fs:List aH}{d:List aK}{r out:List bP}{nm:Sp.Bytes->Bool}(h:fK fs d r nm out)(hd:d.length<=1000)(hf:fs.length<=1000)(hr:aZ r):aZ out:=by
 refine⟨by rw[h.order.1];exact hd,λx hx=>?_⟩;obtain⟨i,hi,rfl⟩:=amx hx;have hi':i<d.length:=by rw[← h.order.1];exact hi
 have e:(out[i]).2.1=fQ out i:=by unfold fQ nT;rw[alM,alO hi];rfl
 rw[e];cases hn:nm (Sp.nameOf d i)with
 |true=>
  rw[h.fix i hi' hn];unfold Sp.sel;rw[alV];exact amk (amO _ _) hf
 |false=>rw[h.kept i hi' hn];exact Yj hr _
theorem aff(c:jV)(s:bF)(d:List aK)(nm:Sp.Bytes->Bool):∃c' df,Sp.turned c s d nm c' df (ax d&&aB s):=by
 obtain⟨a,fs,nx,_⟩:=s;obtain⟨out,h⟩:=Bo (fs:=fs) (a:=a) (nx:=nx) (d:=d) (xG c) nm;cases hk:(ax d&&aB (a,fs,nx,()))with
 |true=>exact⟨(a,fs,nx,d,out,()),LH (xG c) out,hk.symm,λ_=>⟨rfl,rfl,h hk,rfl⟩,λh=>(by cases h)⟩
 |false=>exact⟨c,[],hk.symm,λh=>(by cases h),λ_=>⟨rfl,rfl⟩⟩
theorem TY:OK wW.e:=by
 refine XA.ok mixed (aC [sO.e,sF.e,qw.e,oq.e,uN.e] ⟨OT,Hq,Fa,DN,Rf,trivial⟩) H0 (λ⟨c,s,d,names,_⟩ _=>by obtain⟨c',df,h⟩:=aff c s d (jv names);exact⟨((((c'.1,c'.2.1,c'.2.2.1,c'.2.2.2.1,c'.2.2.2.2.1,()),df,(ax d&&aB s),()),())),h⟩) (by kernel_rfl) (show∀c0 c1 c2 c3 c4 s0 s1 s2 d names,wW.goal (Ua c0 c1 c2 c3 c4 s0 s1 s2 d names) ((c0,c1,c2,c3,c4,()),(s0,s1,s2,()),d,names,())from ?_);intro a l nx d0 r0 sa sl sn d names hin hp;dsimp only[wW]at hp ⊢;obtain⟨hc,hs,hd⟩:=hp;have hr:aZ r0:=hc.2.2;refine⟨⟨hs,hd,hr⟩,?_⟩;rintro⟨⟨out,ok,⟨⟩⟩,⟨⟩⟩ ⟨e1,e2⟩;have e1:ok=(ax d&&aB (sa,sl,sn,())):=e1;have e2:ok=true->fK sl d r0 (jv names) out:=e2;dsimp only;refine af (λh=>⟨hc,λr1 hr1=>?_⟩) λh=>⟨hs,?_⟩
 .have h:ok=false:=gW h;exact⟨e1▸h.symm,λh=>(by cases h),λ_=>⟨hr1,rfl⟩⟩
 .have h:ok=true:=dM h;rintro⟨⟨s',⟨⟩⟩,⟨⟩⟩ es;have es:s'=(sa,sl,sn,()):=es;subst es;refine⟨hd,⟨hr,JE (e2 h) hd.1 hs.2.1 hr⟩,λr3 hr3=>⟨e1▸h.symm,λ_=>⟨rfl,rfl,e2 h,hr3⟩,λh=>(by cases h)⟩⟩
theorem EK{c:jV}(h:jg c=true):ax (gQ c)=true/\aB (dI c)=true/\fK c.2.1 (gQ c) [] (λ_=>true) (xG c):=by have e:jg c=((ax (gQ c)&&aB (dI c))&&@decide (fK c.2.1 (gQ c) [] (λ_=>true) (xG c)) (Classical.propDecidable _)):=rfl;rw[e,alK,alK]at h;exact⟨h.1.1,h.1.2,(@aoA _ (Classical.propDecidable _)).1 h.2⟩
theorem V7:OK yP.e:=by refine PA.ok mixed (aC [] trivial) Yk (by kernel_rfl) (show∀a b,yP.goal (V8 a b) (a,b,())from ?_);intro a b hin hp;dsimp only[yP]at hp ⊢;exact eqL (K:=λr=>r=(decide (a=b),())) (λx y:Int×Unit=>x.1 !=y.1) (λx y=>by simp[anw]) _ a b _ hin.1.1 rfl
theorem Rq:OK uP.e:=by
 refine PA.ok mixed (aC [yP.e] ⟨V7,trivial⟩) H0 (by kernel_rfl) (show∀a0 a1 b0 b1,uP.goal (Rt a0 a1 b0 b1) ((a0,a1,()),(b0,b1,()),())from ?_);intro a0 a1 b0 b1 hin hp;dsimp only[uP]at hp ⊢;refine af (λh0=>⟨trivial,?_⟩) λh0=>?_
 all_goals refine congrArg (·,()) (amc.2 ?_)
 .simp[alT.1 h0]
 .simp[show a0≠b0 by simpa using h0]
theorem OY:OK sS.e:=by refine PA.ok mixed (aC [uP.e] ⟨Rq,trivial⟩) Ru (by kernel_rfl) (show∀a b,sS.goal (OZ a b) (a,b,())from ?_);intro a b hin hp;dsimp only[sS]at hp ⊢;exact ai2 (K:=λr=>r=(decide (a=b),())) (λx y=>!decide (x=y)) (λx y=>by simp) _ a b _ hin.1.1 rfl
theorem O0:OK sU.e:=by
 refine PA.ok mixed (aC [sS.e,yN.e,wR.e] ⟨OY,V9,Tt,trivial⟩) H0 (by kernel_rfl) (show∀a0 a1 a2 a3 a4 b0 b1 b2 b3 b4,sU.goal (O1 a0 a1 a2 a3 a4 b0 b1 b2 b3 b4) ((a0,a1,a2,a3,a4,()),(b0,b1,b2,b3,b4,()),())from ?_);intro a0 a1 a2 a3 a4 b0 b1 b2 b3 b4 hin hp;dsimp only[sU]at hp ⊢;refine⟨trivial,af (λh0=>⟨trivial,af (λh1=>⟨trivial,?_⟩) λh1=>?_⟩) λh0=>?_⟩
 all_goals refine congrArg (·,()) (amc.2 ?_)
 .have h0:=iF h0;have h1:=iF h1;simp only[Prod.mk.injEq]at h0;obtain⟨rfl,rfl,rfl,_⟩:=h0;subst h1;simp
 .have h1:=iI h1;simp[h1]
 .have h0:=iI h0;simp only[alX,ana,false_iff,Prod.mk.injEq,and_true]at h0 ⊢;exactλh=>h0 ⟨h.1,h.2.1,h.2.2.1⟩
theorem Rw:OK uQ.e:=by
 refine XA.ok mixed (aC [yG.e,AZ.e] ⟨Vu,Zj,trivial⟩) Ub (λ_ _=>⟨((List.replicate 12 (0,()),()),()),⟨by decide,λx hx=>by rw[List.eq_of_mem_replicate hx];decide⟩⟩) (by kernel_rfl) (show∀code,uQ.goal (Rx code) (code,())from ?_);intro code hin hp;dsimp only[uQ]at hp ⊢;refine⟨hp,λr0 hr0=>?_⟩;refine⟨λy=>∃n:Nat,y.1.2.1=n/\n<=12/\0<=y.2.1.2.1/\y.2.2.1.length=n/\∀x∈y.2.2.1,0<=x.1/\x.1<10000,λy=>(12-y.1.2.1).toNat,⟨0,rfl,by decide,by rw[hr0];exact amC _,rfl,λx hx=>by cases hx⟩,?_⟩;rintro⟨⟨_,_,⟨⟩⟩,⟨b,i,h,⟨⟩⟩,l,⟨⟩⟩ ⟨n,rfl,hn,hi,hl,hx⟩;dsimp only at hi hl hx ⊢;have w:IntKind.i64.wrap ((n:Int)+1)=((n+1:Nat):Int):=fU _ (by omega);rw[w];refine af (λhc=>⟨hi,?_⟩) λhc=>⟨by have:=iI hc;show l.length=12;omega,hx⟩;have hc:=iF hc;rintro⟨⟨x,⟨⟩⟩,⟨b1,i1,h1,⟨⟩⟩,⟨⟩⟩ ⟨q1,q2,q3,_⟩;refine⟨by rw[eY];simp only[al2,aml];omega,rfl,⟨n+1,rfl,by omega,q1,by simp;omega,λy hy=>?_⟩,by dsimp only;omega⟩;rcases amg.1 hy with hy|hy
 .exact hx y hy
 .rw[amA.1 hy];exact⟨q2,q3 (by decide)⟩
end Go.Proofs.Tryz
namespace Go.Proofs.Tryz
open Go Go.Fw Go.IntWalk Sp
theorem aee{s:bF}(h:aB s=true){i j:Nat}(hi:i<s.2.1.length)(hj:j<s.2.1.length)(e:(Sp.fileAt s.2.1 i).1=(Sp.fileAt s.2.1 j).1):i=j:=by
 rcases anU i j with h1|h1|h1
 .have:=Nl h j i h1 hj;omega
 .exact h1
 .have:=Nl h i j h1 hi;omega
theorem aip{c:jV}(hok:aB (dI c)=true){m:Nat}(hm:m<c.2.1.length):bU c.1 (Sp.fileAt c.2.1 m)=true:=(wu.1 ((lW.1 hok).1 m hm)).1
theorem afg{a:List bV}{f:aH}(h:bU a f=true):kJ a f.2.2.2.2.1=true/\f.2.2.2.2.1.length<=5:=by unfold bU at h;simp only[alK]at h;have h1:=h.1.1.1.1;have h2:=h.1.1.1.2;refine⟨h1,amk (acQ h1) ?_⟩;unfold bK at h2;rw[alK,alX]at h2;omega
theorem aiq{c:jV}(hok:aB (dI c)=true):ajN c:=λf hf=>by
 obtain⟨i,hi,rfl⟩:=amx hf;have at_:Sp.fileAt c.2.1 i=c.2.1[i]:=by unfold Sp.fileAt;rw[alM,alO hi];rfl
 have:=(afg (aip hok hi)).2;rw[at_]at this;exact amk this (by decide)
theorem aax{c:jV}(h:jg c=true)(hs:bI (gQ c)):qC c:=by
 obtain⟨hst,hok,hev⟩:=EK h;have hf:c.2.1.length<=12:=(lW.1 hok).2.2.1;have afh:=(lW.1 hok).2.1;have h5:c.1.length<=5:=by have afh:bK c.1=true:=afh;unfold bK at afh;rw[alK,alX]at afh;omega
 refine⟨⟨by show c.1.length<=1000;omega,by show c.2.1.length<=1000;omega,λf hf=>amk (aiq hok f hf) (by decide)⟩,hs,JE hev hs.1 (by omega) Nk⟩
end Go.Proofs.Tryz
namespace Go.Proofs.Tryz
open Go Go.Fw Go.IntWalk Sp
def afi(l:Sp.LS):Prop:=l.Pairwise λx y=>Op.bytesLess x.1 y.1=true
theorem agC{x:Sp.Bytes×Unit}{r:Sp.LS}{s:Sp.Bytes}:Bg (x::r) s=if Op.bytesLess x.1 s=true then x::Bg r s else if x.1=s then x::r else(s,())::x::r:=by
 unfold Bg;by_cases h:Op.bytesLess x.1 s=true
 .rw[if_pos h,List.takeWhile_cons_of_pos (p:=λx:Sp.Bytes×Unit=>Op.bytesLess x.1 s) h];dsimp only;rw[al2];cases hc:(decide ((r.takeWhile λx=>Op.bytesLess x.1 s).length<r.length)&&(r.getD (r.takeWhile λx=>Op.bytesLess x.1 s).length ([],())).1==s)with
  |true=>
   have:(decide ((r.takeWhile λx=>Op.bytesLess x.1 s).length+1<(x::r).length)&&((x::r).getD ((r.takeWhile λx=>Op.bytesLess x.1 s).length+1) ([],())).1==s)=true:=by rw[← hc,al2];simp[List.getD_cons_succ]
   rw[this];rfl
  |false=>
   have:(decide ((r.takeWhile λx=>Op.bytesLess x.1 s).length+1<(x::r).length)&&((x::r).getD ((r.takeWhile λx=>Op.bytesLess x.1 s).length+1) ([],())).1==s)=false:=by rw[← hc,al2];simp[List.getD_cons_succ]
   rw[this];rfl
 .rw[if_neg h,List.takeWhile_cons_of_neg (p:=λx:Sp.Bytes×Unit=>Op.bytesLess x.1 s) h];by_cases e:x.1=s
  .rw[if_pos e];simp[e]
  .rw[if_neg e];simp[alN.2 e]
theorem acR{s:Sp.Bytes}:∀{l:Sp.LS},afi l->afi (Bg l s)
 |[],_=>aod _ _
 |y::r,h=>by
  obtain⟨h1,h2⟩:=amM.1 h;have i1:=acR (s:=s) h2;rw[agC];by_cases c1:Op.bytesLess y.1 s=true
  .rw[if_pos c1];refine amM.2 ⟨λz hz=>?_,i1⟩;rcases(Hr z).1 hz with rfl|hz
   .exact c1
   .exact h1 z hz
  .rw[if_neg c1];by_cases c2:y.1=s
   .rw[if_pos c2];exact h
   .rw[if_neg c2];have c3:Op.bytesLess s y.1=true:=Np y.1 s (by simpa using c1) c2;refine amM.2 ⟨λz hz=>?_,h⟩;rcases ame.1 hz with rfl|hz
    .exact c3
    .exact zT _ _ _ c3 (h1 z hz)
theorem air{l b:Sp.LS}(h:afi l)(hs:∀x∈l,x∈b):l.length<=b.length:=by
 have hn:l.Nodup:=by unfold List.Nodup;exact List.Pairwise.imp (λ{a b} hab e=>KX hab (congrArg Prod.fst e)) h
 exact Rk l b hn hs
structure Rd(d:List aK)(names out:Sp.LS):Prop where
 asc:afi out
 base:∀x∈names,x∈out
 reach:∀x∈out,Sp.Reach d (λs=>jv names s=true) x.1
 sub:∀x∈out,x∈names++iJ d
theorem Rd.len{d:List aK}{names out:Sp.LS}(h:Rd d names out):out.length<=names.length+d.length:=by
 have:=air h.asc h.sub;rw[al7]at this;have e:(iJ d).length=d.length:=by unfold iJ;rw[alV]
 omega
theorem Rd.put{d:List aK}{names out:Sp.LS}(h:Rd d names out){i:Nat}(hi:i<d.length){s:Sp.Bytes}(hs:(s,())∈out)(ha:s∈Ye (eP d i)):Rd d names (Bg out (Sp.nameOf d i)) where
 asc:=acR h.asc
 base:=λx hx=>(Hr x).2 (.inr (h.base x hx))
 reach:=λx hx=>by
  rcases(Hr x).1 hx with rfl|hx
  .exact .step (h.reach _ hs) hi ha
  .exact h.reach x hx
 sub:=λx hx=>by
  rcases(Hr x).1 hx with rfl|hx
  .exact amg.2 (.inr (acP hi))
  .exact h.sub x hx
def shut(d:List aK)(out:Sp.LS):Prop:=∀i,i<d.length->∀s∈Ye (eP d i),(s,())∈out->(Sp.nameOf d i,())∈out
end Go.Proofs.Tryz
namespace Go.Proofs.Tryz
open Go Go.Fw Go.IntWalk Sp
theorem ais{a b:jV}(h1:dI a=dI b)(h2:gQ a=gQ b)(h3:xG a=xG b):a=b:=by obtain⟨x1,x2,x3,x4,x5,_⟩:=a;obtain⟨y1,y2,y3,y4,y5,_⟩:=b;have t1:x1=y1:=congrArg (λs:bF=>s.1) h1;have t2:x2=y2:=congrArg (λs:bF=>s.2.1) h1;have t3:x3=y3:=congrArg (λs:bF=>s.2.2.1) h1;have t4:x4=y4:=h2;have t5:x5=y5:=h3;rw[t1,t2,t3,t4,t5]
theorem ahl{a b:jV}(ha:jg a=true)(hb:jg b=true)(h1:dI a=dI b)(h2:gQ a=gQ b):a=b:=by obtain⟨hst,_,e1⟩:=EK ha;obtain⟨_,_,e2⟩:=EK hb;have hf:a.2.1=b.2.1:=congrArg (λs:bF=>s.2.1) h1;rw[← hf,← h2]at e2;exact ais h1 h2 (Dj (tK hst).1 e1 e2)
end Go.Proofs.Tryz
namespace Go.Proofs.Tryz
open Go Go.Fw Go.IntWalk Sp
theorem afj{c c':jV}{s:bF}{d:List aK}{nm:Sp.Bytes->Bool}{df:List I5}{ok:Bool}(h:Sp.turned c s d nm c' df ok)(hz:(ax d&&aB s)=true)
 (he:∀R E,fK s.2.1 d (xG c) nm R->fK s.2.1 d [] (λ_=>true) E->R=E):Sp.became c s d true c' df ok:=by
 obtain⟨u1,u2,_⟩:=h;have hok:=u1.trans hz;obtain⟨k1,k2,k3,k4⟩:=u2 hok;rw[alK]at hz;obtain⟨ak,hl⟩:=MS hz.1;obtain⟨E,hE⟩:=Nh [] (λ_=>true) (tK hz.1).1 hl (vY hz.2);have e:=he _ _ k3 hE;refine⟨hok,λ_=>⟨k1,k2,?_,k4⟩,λhno=>by rw[hok]at hno;cases hno⟩;obtain⟨a,l,nx,d',r,_⟩:=c';have k1':((a,l,nx,()):bF)=s:=k1;have k2:d'=d:=k2;have e:r=E:=e;subst k1' k2 e;rw[acO (out:=r) (by rw[hz.1,hz.2];rfl) hE,alP rfl]
theorem afk(c:jV)(s:bF)(d:List aK)(b:Bool)(hb:b=true->(ax d&&aB s)=true):∃c' df,Sp.became c s d b c' df b:=by
 cases h:b with
 |false=>exact⟨c,[],rfl,λh=>(by cases h),λ_=>⟨rfl,rfl⟩⟩
 |true=>have hz:=hb h;have hz':=hz;rw[alK]at hz';obtain⟨ak,hl⟩:=MS hz'.1;obtain⟨E,hE⟩:=Nh [] (λ_=>true) (tK hz'.1).1 hl (vY hz'.2);obtain⟨a,l,nx,_⟩:=s;exact⟨(a,l,nx,d,E,()),LH (xG c) E,rfl,λ_=>⟨rfl,rfl,by rw[acO (out:=E) hz hE,alP rfl],rfl⟩,λh=>(by cases h)⟩
end Go.Proofs.Tryz
namespace Go.Proofs.Tryz
open Go Go.Fw Go.IntWalk Sp
theorem stays{c:jV}{s:bF}{d:List aK}{b:Bool}(hb:b=false){z:jV}(e:z=c):Sp.became c s d b z [] false:=⟨hb.symm,λh=>(by cases h),λ_=>⟨e,rfl⟩⟩
end Go.Proofs.Tryz
namespace Go.Proofs.Tryz
open Go Go.Fw Go.IntWalk Sp
theorem O3:OK sV.e:=by refine PA.ok mixed (aC [] trivial) H0 (by kernel_rfl) (show∀s,sV.goal (O4 s) (s,())from ?_);intro w hin hp;dsimp only[sV]at hp ⊢;exact rfl
theorem Dl:OK jm.e:=by refine XA.ok mixed (aC [] trivial) Dy (λ⟨s,_⟩ _=>⟨((s,()),()),rfl⟩) (by kernel_rfl) (show∀s,jm.goal (Dn s) (s,())from ?_);intro s hin hp;dsimp only[jm]at hp ⊢;have hp:s.length<=1000:=hp;intro g hg;refine af (λh=>?_) λh=>⟨by rw[eY];omega,rfl⟩;exact(amH.1 (hg h)).symm
theorem KY:OK pG.e:=by refine XA.ok mixed (aC [jm.e] ⟨Dl,trivial⟩) Nq (λ⟨(i,o,s,l,a,_),_⟩ _=>⟨(((i,o,s,l,a,()),()),()),⟨rfl,rfl,rfl,rfl,rfl⟩⟩) (by kernel_rfl) (show∀f0 f1 f2 f3 f4,pG.goal (KZ f0 f1 f2 f3 f4) ((f0,f1,f2,f3,f4,()),())from ?_);intro f0 f1 f2 f3 f4 hin hp;dsimp only[pG]at hp ⊢;exact⟨hp,λr0 hr0=>⟨rfl,rfl,rfl,rfl,hr0⟩⟩
theorem Af:OK nI.e:=by refine PA.ok mixed (aC [] trivial) H0 (by kernel_rfl) (show∀a0 a1 a2 a3 p10,nI.goal (Uc a0 a1 a2 a3 p10) ((a0,a1,a2,a3,()),(p10,()),())from ?_);intro a0 a1 a2 a3 p hin hp;dsimp only[nI]at hp ⊢;exact rfl
theorem Fe:OK qE.e:=by refine PA.ok mixed (aC [] trivial) H0 (by kernel_rfl) (show∀a0 a1 a2 a3 p10,qE.goal (Ud a0 a1 a2 a3 p10) ((a0,a1,a2,a3,()),(p10,()),())from ?_);intro a0 a1 a2 a3 p hin hp;dsimp only[qE]at hp ⊢;exact congrArg (·,()) (Wh a0 p)
theorem tN:OK fG.e:=by refine PA.ok mixed (aC [nI.e] ⟨Af,trivial⟩) uD (by kernel_rfl) (show∀s jP,fG.goal (tV s jP) (s,((jP,()),()),())from ?_);intro l nm hin hp;dsimp only[fG]at hp ⊢;exact Rl (K:=λr=>r=(Sp.findAt (λx:aW=>x.1==nm) l,())) (λx:aW=>x.1==nm) ([],0,0,[],()) l _ hin.1.1 rfl
theorem tX:OK fH.e:=by refine PA.ok mixed (aC [qE.e] ⟨Fe,trivial⟩) uF (by kernel_rfl) (show∀s jP,fH.goal (tY s jP) (s,((jP,()),()),())from ?_);intro l nm hin hp;dsimp only[fH]at hp ⊢;exact Rl (K:=λr=>r=(Sp.findAt (λx:aW=>Op.bytesLess nm x.1) l,())) (λx:aW=>Op.bytesLess nm x.1) ([],0,0,[],()) l _ hin.1.1 rfl
theorem rE:OK fA.e:=by refine XA.ok mixed (aC [fG.e,nI.e] ⟨tN,Af,trivial⟩) tZ (λ⟨s,((nm,_),_),_⟩ _=>⟨((s.filter (λx=>!(x.1==nm)),()),()),rfl⟩) (by kernel_rfl) (show∀s wo,fA.goal (rF s wo) (s,((wo,()),()),())from ?_);intro s nm hin hp;dsimp only[fA]at hp ⊢;exact⟨trivial,aed (K:=λr=>r.1.1=s.filter λx=>!(x.1==nm)) (λx:aW=>x.1==nm) ([],0,0,[],()) s _ (by have hp:s.length<=1000:=hp;omega) rfl⟩
theorem agD{r:List aW}{x:aW}{k:Nat}(hk:k<=r.length)(h1:∀i,i<k->Op.bytesLess x.1 (r.getD i ([],0,0,[],())).1=false)(h2:k<r.length->Op.bytesLess x.1 (r.getD k ([],0,0,[],())).1=true):r.take k++([x]++r.drop k)=vW r x:=by
 have e:∀y:aW,iO x.1 y=!Op.bytesLess x.1 y.1:=λy=>by rw[← Wh y.1 x.1,Bool.not_not];rfl
 have hl:=aay (iO x.1) ([],0,0,[],()) r k hk (λi hi=>by rw[e,h1 i hi];rfl) λh=>by rw[e,h2 h];rfl
 unfold vW;rw[ah1 (iO x.1) r,ah2,hl];rfl
theorem Yl:OK zK.e:=by
 refine XA.ok mixed (aC [(pX,.eff (Xg kS) wG),fH.e,qE.e,fA.e,nI.e,pG.e] ⟨⟨EP,EH⟩,tX,Fe,rE,Af,KY,trivial⟩) ZA (λ⟨(i,o,s,l,a,_),nm,(k,n,w,_),_⟩ _=>⟨(((i,o,s,l,eH a nm k n w,()),()),()),⟨rfl,rfl,rfl,rfl,rfl⟩⟩) (by kernel_rfl) (show∀f0 f1 f2 f3 f4 name v0 v1 v2,zK.goal (Ym f0 f1 f2 f3 f4 name v0 v1 v2) ((f0,f1,f2,f3,f4,()),name,(v0,v1,v2,()),())from ?_);intro f0 f1 f2 f3 f4 name v0 v1 v2 hin hp;dsimp only[zK]at hp ⊢;have hp:f4.length<=900:=hp;refine⟨by omega,?_⟩;rintro⟨⟨⟨i,o,s,l,a,⟨⟩⟩,⟨⟩⟩,⟨⟩⟩ ⟨e0,e1,e2,e3,e4⟩;obtain rfl:i=f0:=e0;obtain rfl:o=f1:=e1;obtain rfl:s=f2:=e2;obtain rfl:l=f3:=e3;obtain rfl:a=f4:=e4;refine⟨(show a.length<=1000 by omega),?_⟩;rintro⟨⟨r,⟨⟩⟩,⟨⟩⟩ er;have er:r=a.filter (gJ name):=er;have hl:r.length<=900:=by rw[er];exact amk (amO _ _) hp
 refine af (λh=>⟨rfl,rfl,rfl,rfl,?_⟩) λh=>⟨trivial,?_⟩
 .show r=eH a name v0 v1 v2;unfold eH;rw[alP (alT.1 h)];exact er
 .have akQ:eH a name v0 v1 v2=vW r (name,v0,v1,v2,()):=by unfold eH;rw[alR (alN.1 h),← er];rfl
  dsimp only;rw[akQ];rcases Dp (λx:aW=>Op.bytesLess name x.1) ([],0,0,[],()) r with⟨g,hg⟩|⟨k,hk,g,gk,hlt⟩
  .rw[g];refine dR (by decide) ⟨⟨by omega,by omega,by omega,rfl⟩,λr3 hr3=>⟨rfl,rfl,rfl,rfl,?_⟩⟩;rw[amd]at hr3;exact hr3.trans (agD (x:=(name,v0,v1,v2,())) (alY _) hg λh=>(by omega))
  .rw[g];refine dS (by omega) ⟨⟨by omega,by omega,by omega,rfl⟩,λr4 hr4=>⟨rfl,rfl,rfl,rfl,?_⟩⟩;rw[amd]at hr4;exact hr4.trans (agD (x:=(name,v0,v1,v2,())) (by omega) hlt λ_=>gk)
end Go.Proofs.Tryz
namespace Go.Proofs.Tryz
open Go Go.Fw Go.IntWalk Sp
theorem Wq:OK yQ.e:=by refine PA.ok mixed (aC [] trivial) H0 (by kernel_rfl) (show∀n,yQ.goal (Ws n) (n,())from ?_);intro n hin hp;dsimp only[yQ]at hp ⊢;exact rfl
theorem Yw{v:pq}{to:Int}:dJ v to=bif bQ v.1 v.2.1 v.2.2.1&&(!(v.1==0)&&(to==1||to==2))then
 (bif v.1==to then(v,true)else bif to==2 then((2,0,fJ v.2.1,()),true)else bif (eG v.2.2.1).2 then((1,(eG v.2.2.1).1,[],()),true)else((0,0,[],()),false))else((0,0,[],()),false):=rfl
theorem ahm{v:pq}{to:Int}(h:(bQ v.1 v.2.1 v.2.2.1&&(!(v.1==0)&&(to==1||to==2)))=false):dJ v to=((0,0,[],()),false):=by rw[Yw,h];rfl
theorem ait{v:pq}{to:Int}(h:(bQ v.1 v.2.1 v.2.2.1&&(!(v.1==0)&&(to==1||to==2)))=true):dJ v to=bif v.1==to then(v,true)else bif to==2 then((2,0,fJ v.2.1,()),true)else bif (eG v.2.2.1).2 then((1,(eG v.2.2.1).1,[],()),true)else((0,0,[],()),false):=by rw[Yw,h];rfl
theorem Nr:OK qW.e:=by
 refine PA.ok mixed (aC [yQ.e,(o5,.pure nJ),sV.e,(qL,.pure oU),kE.e] ⟨Wq,⟨EG,D7⟩,O3,⟨FQ,ER⟩,xw,trivial⟩) O7 (by kernel_rfl) (show∀v0 v1 v2 kind,qW.goal (Ns v0 v1 v2 kind) ((v0,v1,v2,()),kind,())from ?_);intro v0 v1 v2 kind hin hp;dsimp only[qW]at hp ⊢;have hp:v2.length<=1000:=hp;have out:(bQ v0 v1 v2&&(!(v0==0)&&(kind==1||kind==2)))=false->(((0,0,[],()),false,()):pq×Bool×Unit)=((dJ (v0,v1,v2,()) kind).1,(dJ (v0,v1,v2,()) kind).2,()):=λh=>by rw[ahm h]
 refine⟨λ_=>(bQ v0 v1 v2&&(!(v0==0)&&(kind==1||kind==2)))=true,⟨trivial,af (λh=>out (by rw[gW h];rfl)) λh1=>af (λh=>out (by rw[h,Bool.not_true,anE,amP])) λh2=>af (λh=>af (λh4=>out ?_) λh4=>⟨rfl,?_⟩) λh=>⟨rfl,?_⟩⟩,λ_ hJ=>?_⟩
 .have h:(kind==1)=false:=by simpa using h
  have h4:(kind==2)=false:=by simpa using h4
  rw[h,h4,aoF,amP,amP]
 .have h4:(kind==2)=true:=by simpa using h4
  rw[dM h1,show(v0==0)=false from h2,h4,Bool.or_true];rfl
 .have h:(kind==1)=true:=by simpa using h
  rw[dM h1,show(v0==0)=false from h2,h,Bool.true_or];rfl
 .have e:=ait (v:=(v0,v1,v2,())) (to:=kind) hJ;refine af (λh=>?_) λh=>af (λh2=>⟨trivial,trivial,?_⟩) λh2=>⟨hp,af (λh3=>?_) λh3=>⟨trivial,?_⟩⟩
  .rw[show(v0==kind)=true from h]at e;rw[e];rfl
  .rw[show(v0==kind)=false from h,h2]at e;rw[e];rfl
  .rw[show(v0==kind)=false from h,h2,show(eG v2).2=false from gW h3]at e;rw[e];rfl
  .rw[show(v0==kind)=false from h,h2,show(eG v2).2=true from dM h3]at e;rw[e];rfl
theorem zq:OK mJ.e:=by refine PA.ok mixed (aC [] trivial) H0 (by kernel_rfl) (show∀f0 f1 p10,mJ.goal (RD f0 f1 p10) ((f0,f1,()),(p10,()),())from ?_);intro f0 f1 p hin hp;dsimp only[mJ]at hp ⊢;exact rfl
theorem qZ:OK eU.e:=by refine PA.ok mixed (aC [mJ.e] ⟨zq,trivial⟩) rG (by kernel_rfl) (show∀s jP,eU.goal (rq s jP) (s,((jP,()),()),())from ?_);intro l nm hin hp;dsimp only[eU]at hp ⊢;exact Rl (K:=λr=>r=(Sp.fieldPlace l nm,())) (λx:bV=>x.1==nm) ([],0,()) l _ hin.1.1 rfl
theorem pY:OK dW.e:=by
 refine PA.ok mixed (aC [eU.e,mJ.e] ⟨qZ,zq,trivial⟩) H0 (by kernel_rfl) (show∀s jP,dW.goal (qc s jP) (s,((jP,()),()),())from ?_);intro l nm hin hp;dsimp only[dW]at hp ⊢;refine⟨trivial,congrArg (·,()) ?_⟩;by_cases h:0<=Sp.fieldPlace l nm
 .rw[alP (show Sp.fieldPlace l nm>=0 from h),alR (show ¬Sp.fieldPlace l nm<0 by omega)];rfl
 .rw[alR (show ¬Sp.fieldPlace l nm>=0 from h),alP (show Sp.fieldPlace l nm<0 by omega)];rfl
theorem Wu:OK yR.e:=by refine PA.ok mixed (aC [dW.e,mJ.e] ⟨pY,zq,trivial⟩) H0 (by kernel_rfl) (show∀s name,yR.goal (Wv s name) (s,name,())from ?_);intro l nm hin hp;dsimp only[yR]at hp ⊢;exact⟨trivial,rfl⟩
theorem BO:OK jh.e:=by refine XA.ok mixed (aC [] trivial) Dq (λ⟨s,_⟩ _=>⟨((s,()),()),rfl⟩) (by kernel_rfl) (show∀s,jh.goal (BP s) (s,())from ?_);intro s hin hp;dsimp only[jh]at hp ⊢;have hp:s.length<=1000:=hp;intro g hg;refine af (λh=>?_) λh=>⟨by rw[eY];omega,rfl⟩;exact(amH.1 (hg h)).symm
theorem JF:OK oL.e:=by refine XA.ok mixed (aC [qp.e,jh.e] ⟨E8,BO,trivial⟩) La (λ⟨(a,l,nx,_),_⟩ _=>⟨(((a,l,nx,()),()),()),rfl⟩) (by kernel_rfl) (show∀s0 s1 s2,oL.goal (JG s0 s1 s2) ((s0,s1,s2,()),())from ?_);intro s0 s1 s2 hin hp;dsimp only[oL]at hp ⊢;obtain⟨h0,h1,h2⟩:s0.length<=1000/\s1.length<=1000/\∀f∈s1,qo f:=hp;refine⟨h0,λr0 e0=>⟨⟨h1,h2⟩,λr1 e1=>?_⟩⟩;show(r0.1.1,r1.1.1,s2,())=_;rw[e0,e1]
def mapped{α:Type}(f:α->α)(l:List α)(k:Nat):List α:=(l.take k).map f++l.drop k
theorem Yx{α:Type}(f:α->α)(l:List α)(k:Nat):(mapped f l k).length=l.length:=by unfold mapped;rw[al7,alV,alQ,amh];omega
theorem aaz{α:Type}(f:α->α)(l:List α)(d:α){k:Nat}(h:k<l.length):(mapped f l k).getD k d=l.getD k d:=by unfold mapped;rw[alM,al6 (by rw[alV,alQ];omega),alV,alQ,am9 (by omega),anr,amb,am3,← alM]
theorem UL{α:Type}(f:α->α)(l:List α)(d:α){k:Nat}(h:k<l.length):mapped f l (k+1)=(mapped f l k).set k (f (l.getD k d)):=by unfold mapped;rw[Sp.take_succ' l k d h,amY,drop_cons l k d h,aoh _ _ (by rw[alV,alQ];omega),alV,alQ,am9 (by omega),anr,List.set_cons_zero,amn];rfl
theorem UM{α:Type}(f:α->α)(l:List α)(d:α){k:Nat}(h:k<l.length)(hf:f (l.getD k d)=l.getD k d):mapped f l (k+1)=mapped f l k:=by unfold mapped;rw[Sp.take_succ' l k d h,amY,drop_cons l k d h,amn];show _++([f (l.getD k d)]++_)=_;rw[hf];rfl
theorem Yy{α:Type}(f:α->α)(l:List α):mapped f l l.length=l.map f:=by unfold mapped;rw[amu,List.drop_length,amG]
theorem aa4(a:List aW)(name:Sp.Bytes):aG a name=(0,0,[],())\/∃x∈a,aG a name=x.2:=by
 induction a with
 |nil=>exact .inl rfl
 |cons x r ih=>
  rw[aG];cases x.1==name with
  |true=>exact .inr ⟨x,alW,rfl⟩
  |false=>exact ih.imp_right λ⟨y,hy,e⟩=>⟨y,alU _ hy,e⟩
theorem agE{k n:Int}{s:Sp.Bytes}(h:bQ k n s=true):s.length<=6:=by
 rcases acS h with e|e|e
 .subst e;unfold bQ at h;simp at h;rw[h.2];decide
 .subst e;rw[(ahn h).2.2];decide
 .subst e;have:=(akR h).1;unfold dX at this;simp only[alK,alX]at this;omega
theorem aaA{s:bF}(h:aB s=true){f:aH}(hf:f∈s.2.1)(name:Sp.Bytes):(aG f.2.2.2.2.1 name).2.2.1.length<=6/\f.2.2.2.2.1.length<=5:=by
 obtain⟨g1,_,g3,_⟩:=zu.1 h;have ha:=RG (g1 f hf).1;refine⟨?_,?_⟩
 .rcases aa4 f.2.2.2.2.1 name with e|⟨x,hx,e⟩
  .rw[e];decide
  .rw[e];have:=(uG.1 ha).1 x hx;unfold dY at this;rw[alK,alK]at this;exact agE this.1.1
 .have h1:=acQ ha;unfold bK at g3;rw[alK,alX]at g3;omega
theorem afl{s:bF}{name:Sp.Bytes}{kind:Int}(h:(aB s&&(!decide (Sp.fieldPlace s.1 name<0)&&(kind==1||kind==2)))=true):
 bM s name kind=((s.1.map (fD name kind),s.2.1.map (dQ name kind),s.2.2.1,()),(s.2.1.filter (Sp.bZ name kind)).map (λf=>(f.1,())),true):=by
 unfold bM;rw[h];rfl
theorem afm{s:bF}{name:Sp.Bytes}{kind:Int}(h:(aB s&&(!decide (Sp.fieldPlace s.1 name<0)&&(kind==1||kind==2)))=false):bM s name kind=(s,[],false):=by unfold bM;rw[h];rfl
def I7(name:Sp.Bytes)(kind:Int)(l:List aH):List (Int×Unit):=(l.filter (Sp.bZ name kind)).map λf=>(f.1,())
theorem agF{name:Sp.Bytes}{kind:Int}{l:List aH}{n:Nat}(hn:n<l.length):I7 name kind (l.take (n+1))=I7 name kind (l.take n)++bif Sp.bZ name kind (Sp.fileAt l n)then[((Sp.fileAt l n).1,())]else[]:=by unfold I7;rw[UN (Sp.bZ name kind) (0,0,false,0,[],()) l hn,amY];congr 1;show List.map _ (bif Sp.bZ name kind (Sp.fileAt l n)then[Sp.fileAt l n]else[])=_;cases Sp.bZ name kind (Sp.fileAt l n)<;>rfl
theorem aho{name:Sp.Bytes}{kind:Int}(l:List aH):(I7 name kind l).length<=l.length:=by unfold I7;rw[alV];exact amO _ _
theorem afn{name:Sp.Bytes}{kind:Int}{f:aH}(h:¬(aG f.2.2.2.2.1 name).1=0):dQ name kind f=(f.1,f.2.1,f.2.2.1,f.2.2.2.1,eH f.2.2.2.2.1 name (dJ (aG f.2.2.2.2.1 name) kind).1.1 (dJ (aG f.2.2.2.2.1 name) kind).1.2.1 (dJ (aG f.2.2.2.2.1 name) kind).1.2.2.1,()):=by unfold dQ;rw[alN.2 h];rfl
theorem Ic:OK nP.e:=by
 refine XA.ok mixed (aC [zK.e,qW.e,nG.e,yR.e,ni.e,oL.e] ⟨Yl,Nr,Dh,Wu,Df,JF,trivial⟩) JH (λ⟨s,name,kind,_⟩ _=>⟨((((bM s name kind).1.1,(bM s name kind).1.2.1,(bM s name kind).1.2.2.1,()),(bM s name kind).2.1,(bM s name kind).2.2,()),()),⟨rfl,rfl,rfl⟩⟩) (by kernel_rfl) (show∀s0 s1 s2 name kind,nP.goal (Ie s0 s1 s2 name kind) ((s0,s1,s2,()),name,kind,())from ?_);intro s0 s1 s2 name kind hin hp;dsimp only[nP]at hp ⊢;have hp:dH (s0,s1,s2,()):=hp;obtain⟨h0,h1,h2⟩:=hp;have h0:s0.length<=1000:=h0;have h1:s1.length<=1000:=h1;refine⟨⟨h0,h1,h2⟩,?_⟩;rintro⟨⟨⟨a,l,nx,⟨⟩⟩,⟨⟩⟩,⟨⟩⟩ e;have e:(a,l,nx,())=(s0,s1,s2,()):=e;cases e;have out:(aB (s0,s1,s2,())&&(!decide (Sp.fieldPlace s0 name<0)&&(kind==1||kind==2)))=false->(s0,s1,s2,())=(bM (s0,s1,s2,()) name kind).1/\([]:List (Int×Unit))=(bM (s0,s1,s2,()) name kind).2.1/\false=(bM (s0,s1,s2,()) name kind).2.2:=λh=>by rw[afm h];exact⟨rfl,rfl,rfl⟩
 refine⟨λ_=>(aB (s0,s1,s2,())&&(!decide (Sp.fieldPlace s0 name<0)&&(kind==1||kind==2)))=true,⟨trivial,af (λh=>out (by rw[gW h];rfl)) λg1=>⟨trivial,af (λh=>out (by rw[gW h,anE,amP])) λg2=>af (λh=>af (λh4=>out ?_) λh4=>⟨rfl,?_⟩) λh=>⟨rfl,?_⟩⟩⟩,λ_ hJ=>?_⟩
 .have h:(kind==1)=false:=by simpa using h
  have h4:(kind==2)=false:=by simpa using h4
  rw[h,h4,aoF,amP,amP]
 .have h4:(kind==2)=true:=by simpa using h4
  rw[show aB (s0,s1,s2,())=true from dM g1,show(!decide (Sp.fieldPlace s0 name<0))=true from dM g2,h4,Bool.or_true];rfl
 .have h:(kind==1)=true:=by simpa using h
  rw[show aB (s0,s1,s2,())=true from dM g1,show(!decide (Sp.fieldPlace s0 name<0))=true from dM g2,h,Bool.true_or];rfl
 .have ret:=afl (s:=(s0,s1,s2,())) hJ;have hok:aB (s0,s1,s2,())=true:=by rw[alK]at hJ;exact hJ.1
  refine fZ (λi(x:List bV)=>((i,()),x,())) (λy=>y.1.1) (λ_ _=>rfl) s0.length (by omega) (λn x=>x=mapped (fD name kind) s0 n) (by simp[mapped]) (λI μ n x hn hx next=>?_) λI μ x hx=>?_
  .subst hx;have hl:=Yx (fD name kind) s0 n;have hat:=aaz (fD name kind) s0 ([],0,()) hn;dsimp only;rw[amd,hl,hat];refine dR (by omega) ⟨⟨by omega,by omega⟩,hn,af (λh=>⟨⟨by omega,by omega⟩,hn,rfl,next _ ?_⟩) λh=>⟨rfl,next _ ?_⟩⟩
   .rw[UL (fD name kind) s0 ([],0,()) hn];refine congrArg (List.set _ n) ?_;unfold fD;rw[h];rfl
   .refine(UM (fD name kind) s0 ([],0,()) hn ?_).symm;unfold fD;rw[h];rfl
  .subst hx;rw[Yy];dsimp only;refine dS (by omega) ?_;refine fZ (s0:=(([]:List (Int×Unit)),s1)) (λi(x:List (Int×Unit)×List aH)=>(((),i,()),x.1,x.2,())) (λy=>y.1.2.1) (λ_ _=>rfl) s1.length (by omega) (λn x=>x.1=I7 name kind (s1.take n)/\x.2=mapped (dQ name kind) s1 n) ⟨rfl,by simp[mapped]⟩ (λI μ n x hn hx next=>?_) λI μ x hx=>?_
   .obtain⟨lost,files⟩:=x;obtain⟨rfl,rfl⟩:lost=I7 name kind (s1.take n)/\files=mapped (dQ name kind) s1 n:=hx;have hl:=Yx (dQ name kind) s1 n;have hat:(mapped (dQ name kind) s1 n).getD n (0,0,false,0,[],())=Sp.fileAt s1 n:=aaz (dQ name kind) s1 (0,0,false,0,[],()) hn;have Ee:=aho (name:=name) (kind:=kind) (s1.take n);rw[alQ]at Ee;have hft:=aaA hok (Dt (s:=s1) hn) name;have ln:=agF (name:=name) (kind:=kind) hn;have mn:mapped (dQ name kind) s1 (n+1)=(mapped (dQ name kind) s1 n).set n (dQ name kind (Sp.fileAt s1 n)):=UL (dQ name kind) s1 (0,0,false,0,[],()) hn;have ms:dQ name kind (Sp.fileAt s1 n)=Sp.fileAt s1 n->mapped (dQ name kind) s1 (n+1)=mapped (dQ name kind) s1 n:=λh=>UM (dQ name kind) s1 (0,0,false,0,[],()) hn h;dsimp only;rw[amd,hl,hat];generalize Sp.fileAt s1 n=f at hft ln mn ms ⊢;have fin:∀g:aH,¬(aG f.2.2.2.2.1 name).1=0->g.1=f.1/\g.2.1=f.2.1/\g.2.2.1=f.2.2.1/\g.2.2.2.1=f.2.2.2.1/\g.2.2.2.2.1=eH f.2.2.2.2.1 name (dJ (aG f.2.2.2.2.1 name) kind).1.1 (dJ (aG f.2.2.2.2.1 name) kind).1.2.1 (dJ (aG f.2.2.2.2.1 name) kind).1.2.2.1->g=dQ name kind f:=by rintro⟨a,b,c,d,e,⟨⟩⟩ h0 ⟨q1,q2,q3,q4,q5⟩;rw[afn h0];dsimp only at q1 q2 q3 q4 q5;rw[q1,q2,q3,q4,q5]
    refine dR (by omega) ⟨⟨by omega,by omega⟩,hn,trivial,af (λh=>⟨rfl,next (_,_) ⟨?_,?_⟩⟩) λh=>⟨by omega,af (λh3=>⟨?_,by omega,λr hr=>⟨⟨by omega,by omega⟩,hn,rfl,next (_,_) ⟨?_,?_⟩⟩⟩) λh3=>⟨by omega,λr hr=>⟨⟨by omega,by omega⟩,hn,rfl,next (_,_) ⟨?_,?_⟩⟩⟩⟩⟩
    .rw[ln];have:Sp.bZ name kind f=false:=by unfold Sp.bZ;rw[show((aG f.2.2.2.2.1 name).1==0)=true from h];rfl
     rw[this];exact(amG _).symm
    .refine(ms ?_).symm;unfold dQ;rw[show((aG f.2.2.2.2.1 name).1==0)=true from h];rfl
    .rw[eY];simp only[al2,aml];omega
    .rw[ln];have:Sp.bZ name kind f=true:=by unfold Sp.bZ;rw[show((aG f.2.2.2.2.1 name).1==0)=false from h,show(dJ (aG f.2.2.2.2.1 name) kind).2=false from gW h3];rfl
     rw[this];rfl
    .rw[mn,fin r.1.1 (alN.1 h) hr]
    .rw[ln];have:Sp.bZ name kind f=false:=by unfold Sp.bZ;rw[show(dJ (aG f.2.2.2.2.1 name) kind).2=true from dM h3,Bool.not_true,amP]
     rw[this];exact(amG _).symm
    .rw[mn,fin r.1.1 (alN.1 h) hr]
   .obtain⟨lost,files⟩:=x;obtain⟨rfl,rfl⟩:lost=I7 name kind (s1.take s1.length)/\files=mapped (dQ name kind) s1 s1.length:=hx;rw[amu,Yy];dsimp only;refine dS (by omega) ?_;rw[ret];exact⟨rfl,rfl,rfl⟩
end Go.Proofs.Tryz
namespace Go.Proofs.Tryz
open Go Go.Fw Go.IntWalk Sp
theorem acT{s:bF}(h:aB s=true):dH s:=by
 obtain⟨g1,_,g3,g4,_⟩:=zu.1 h;have h5:s.1.length<=5:=by unfold bK at g3;rw[alK,alX]at g3;omega
 refine⟨by omega,by omega,λf hf=>?_⟩;have:=(aaA h hf []).2;show f.2.2.2.2.1.length<=1000;omega
theorem agG{c:jV}{name:Sp.Bytes}{kind:Int}(h:(jg c&&(bM (dI c) name kind).2.2)=true):(ax (gQ c)&&aB (bM (dI c) name kind).1)=true:=by rw[alK]at h;rw[(EK h.1).1,(aaB h.2).1];rfl
theorem afo{c z:jV}{s:bF}{df:List I5}{ok:Bool}(h:Sp.turned c s (gQ c) (jv (iJ (gQ c))) z df ok)(hz:(ax (gQ c)&&aB s)=true):Sp.became c s (gQ c) true z df ok:=by
 have hd:ax (gQ c)=true:=by rw[alK]at hz;exact hz.1
 exact afj h hz λR E hR hE=>Dj (Nu hd) (ahp hR) hE
theorem aiu(c:jV)(name:Sp.Bytes)(kind:Int):∃c' df,Sp.became c (bM (dI c) name kind).1 (gQ c) (jg c&&(bM (dI c) name kind).2.2) c' df (jg c&&(bM (dI c) name kind).2.2):=afk c _ _ _ agG
theorem Du:OK jo.e:=by
 refine XA.ok mixed (aC [wW.e,sK.e,oq.e,wV.e,nP.e] ⟨TY,He,DN,TU,Ic,trivial⟩) H0 (λ⟨c,name,kind,_⟩ _=>by obtain⟨c',df,h⟩:=aiu c name kind;exact⟨((((c'.1,c'.2.1,c'.2.2.1,c'.2.2.2.1,c'.2.2.2.2.1,()),df,(bif (jg c&&(bM (dI c) name kind).2.2)then(bM (dI c) name kind).2.1 else[]),(jg c&&(bM (dI c) name kind).2.2),()),())),h,rfl⟩) (by kernel_rfl) (show∀c0 c1 c2 c3 c4 name kind,jo.goal (Dv c0 c1 c2 c3 c4 name kind) ((c0,c1,c2,c3,c4,()),name,kind,())from ?_);intro a l nx d r name kind hin hp;dsimp only[jo]at hp ⊢;have hc:qC (a,l,nx,d,r,()):=hp;have hl:d.length<=1000:=hc.2.1.1;refine⟨hc.1,?_⟩;rintro⟨⟨⟨sa,sl,sn,⟨⟩⟩,lost,ok,⟨⟩⟩,⟨⟩⟩ ⟨e1,e2,e3⟩;have e1:((sa,sl,sn,()):bF)=(bM (a,l,nx,()) name kind).1:=e1;have e2:lost=(bM (a,l,nx,()) name kind).2.1:=e2;have e3:ok=(bM (a,l,nx,()) name kind).2.2:=e3;refine af (λh=>⟨hc,λr1 hr1=>⟨stays ?_ hr1,rfl⟩⟩) λh=>⟨hc,af (λh2=>⟨hc,λr3 hr3=>⟨stays ?_ hr3,rfl⟩⟩) λh2=>⟨hl,⟨hc,?_,hc.2.1⟩,λr4 hr4=>?_⟩⟩
 .show(_&&(bM (a,l,nx,()) name kind).2.2)=false;rw[← e3,show ok=false from gW h,amP]
 .rw[show jg (a,l,nx,d,r,())=false from gW h2];rfl
 .show dH (sa,sl,sn,());rw[e1];exact acT (aaB (e3.symm.trans (dM h))).1
 .have hr4:Sp.turned (a,l,nx,d,r,()) (sa,sl,sn,()) d (jv (iJ d)) r4.1.1 r4.1.2.1 r4.1.2.2.1:=hr4;have hb:(jg (a,l,nx,d,r,())&&(bM (dI (a,l,nx,d,r,())) name kind).2.2)=true:=by rw[show jg (a,l,nx,d,r,())=true from dM h2];exact e3.symm.trans (dM h)
  rw[e1]at hr4;have hbe:=afo (c:=(a,l,nx,d,r,())) hr4 (agG hb);have hk:r4.1.2.2.1=true:=hbe.1;refine⟨?_,?_⟩
  .rw[hb];exact hbe
  .show lost=bif r4.1.2.2.1 then _ else _
   rw[hk];exact e2
theorem O8:OK sW.e:=by
 refine XA.ok mixed (aC [jw.e,sN.e] ⟨uV,Hg,trivial⟩) H0 (λ⟨s,d,name,_⟩ _=>⟨((_,()),()),rfl⟩) (by kernel_rfl) (show∀s0 s1 s2 d name,sW.goal (O9 s0 s1 s2 d name) ((s0,s1,s2,()),d,name,())from ?_);intro s0 s1 s2 d name hin hp;dsimp only[sW]at hp ⊢;obtain⟨hs,hd,ho,ht⟩:dH (s0,s1,s2,())/\bI d/\aB (s0,s1,s2,())=true/\ax d=true:=hp;refine⟨⟨hs,hd⟩,λr hr=>?_⟩;have hk:r.1.2.1=true:=by rw[hr.1,ho,ht];rfl
 have e:=hr.2 hk;refine⟨JE e hd.1 hs.2.1 Nk,?_⟩;show dn r.1.1 name=dn (Ep s1 d) name;rw[aaC (Nu ht) e]
theorem Lc:OK pJ.e:=by refine XA.ok mixed (aC [yH.e] ⟨Vx,trivial⟩) Nv (λ_ _=>⟨((_,()),()),rfl⟩) (by kernel_rfl) (show pJ.goal (Ld) (())from ?_);intro hin hp;dsimp only[pJ]at hp ⊢;exact⟨trivial,λr h=>h⟩
theorem Pe:OK sZ.e:=by refine XA.ok mixed (aC [uI.e,zB.e,rP.e,yK.e,pJ.e] ⟨QF,XR,GX,VJ,Lc,trivial⟩) H0 (λ⟨n,_⟩ _=>⟨((((Sp.sample n).1,(Sp.sample n).2.1,(Sp.sample n).2.2.1,()),()),()),rfl⟩) (by kernel_rfl) (show∀n,sZ.goal (Pg n) (n,())from ?_);intro n hin hp;dsimp only[sZ]at hp ⊢;refine⟨trivial,?_⟩;rintro⟨⟨u,⟨⟩⟩,⟨⟩⟩ eu;have eu:u=Sp.usual:=eu;subst eu;refine⟨by decide,?_⟩;rintro⟨⟨⟨a,l,nx,⟨⟩⟩,⟨⟩⟩,⟨⟩⟩ ⟨e1,e2,e3⟩;have e1:a=Sp.usual:=e1;have e2:l=[]:=e2;have e3:nx=1:=e3;subst e1 e2 e3;refine⟨trivial,by decide,?_⟩;rintro⟨⟨⟨f0,f1,f2,f3,f4,⟨⟩⟩,⟨⟩⟩,⟨⟩⟩ ⟨g0,g1,g2,g3,g4⟩;have g0:f0=0:=g0;have g1:f1=0:=g1;have g2:f2=false:=g2;have g3:f3=0:=g3;have g4:f4=eH [] [97] 1 n []:=g4;subst g0 g1 g2 g3 g4;have sl:=adD [] [97] 1 n [];refine⟨⟨⟨by decide,by decide,λf hf=>by cases hf⟩,show(eH [] [97] 1 n []).length<=1000 by rw[aml]at sl;omega⟩,?_⟩;rintro⟨⟨⟨s1,s2,s3,⟨⟩⟩,id,ok,⟨⟩⟩,⟨⟩⟩ ⟨h1,h2,h3,_⟩;exact ahk h1 h2 h3
theorem acU{fs:List aH}{n:Int}{out:List bP}{ids:List (Int×Unit)}(h:fK fs (Nw n) [] (λ_=>true) out)(hs:∀X,Sp.sel fs (D8 n) X=ids):out=[([100,97],ids,())]:=by
 have hl:out.length=1:=h.order.1;obtain⟨x,rfl⟩:∃x,out=[x]:=by
  match out,hl with
  |[x],_=>exact⟨x,rfl⟩
 have h1:x.1=[100,97]:=h.order.2 0 aor;have h2:x.2.1=_:=h.fix 0 aor rfl;have h3:x.2.1=ids:=h2.trans (hs _);obtain⟨a,b,⟨⟩⟩:=x;dsimp only at h1 h3;rw[h1,h3]
theorem Le:OK wX.e:=by
 refine PA.ok mixed (aC [sU.e,sW.e,jo.e,uO.e,sZ.e,rP.e,uQ.e,Fh.e] ⟨O0,O8,Du,Ri,Pe,GX,Rw,adE,trivial⟩) H0 (by kernel_rfl) (show∀code,wX.goal (Lh code) (code,())from ?_);intro code hin hp;dsimp only[wX]at hp ⊢;refine⟨trivial,af (λ_=>rfl) λhb=>?_⟩;have hc:code.length<=1048576:=by have:=iI hb;omega
 refine⟨hc,?_⟩;rintro⟨⟨p,⟨⟩⟩,⟨⟩⟩ ⟨hl,hx⟩;have hl:p.length=12:=hl;have hx:∀x∈p,0<=x.1/\x.1<10000:=hx;have hp0:=hx (p.getD 0 (0,())) (getD_mem (by omega));refine⟨⟨by decide,by dsimp only;omega⟩,by decide,trivial,trivial,?_⟩;dsimp only;generalize hn:(p.getD (Int.toNat 0) (0,())).1.tmod 999=n;have hn':(p.getD 0 (0,())).1.tmod 999=n:=hn;have n0:0<=n:=by rw[← hn'];exact aom _ hp0.1
 have n1:n<=999:=by rw[← hn'];have:=Int.tmod_lt_of_pos (p.getD 0 (0,())).1 (show(0:Int)<999 by decide);omega
 rintro⟨⟨⟨s0,s1,s2,⟨⟩⟩,⟨⟩⟩,⟨⟩⟩ es;have es:(s0,s1,s2,())=(Sp.usual,[F7 n],2,()):=es.trans (ahq n0 n1);cases es;have hdn:bI (Nw n):=⟨(show(1:Nat)<=1000 by decide),λx hx=>by rw[amA.1 hx];exact(show(1:Nat)<=1000 by decide)⟩;have sI:dH (AU n):=acT (Sp.okI n0 n1);refine⟨⟨sI,hdn⟩,?_⟩;rintro⟨⟨c,okc,⟨⟩⟩,⟨⟩⟩ ⟨c1,c2,_⟩;have akS:okc=true:=by have c1:okc=(ax (Nw n)&&aB (AU n)):=c1;rw[c1,afp n0 n1,Sp.okI n0 n1];rfl
 obtain⟨c3,c4,c5⟩:=c2 akS;have c3:dI c=AU n:=c3;have c4:gQ c=Nw n:=c4;have cc:jg c=true:=by
  have c5:fK (AU n).2.1 (Nw n) [] (λ_=>true) (xG c):=c5;unfold jg;rw[c4,c3,afp n0 n1,Sp.okI n0 n1];have:c.2.1=(AU n).2.1:=congrArg (λs:bF=>s.2.1) c3;rw[this]
  classical exact alP c5
 have sc:qC c:=aax cc (by rw[c4];exact hdn);refine⟨sc,?_⟩;rintro⟨⟨x,df,lost,ok,⟨⟩⟩,⟨⟩⟩ ⟨hb5,Ee⟩;have hb5:Sp.became c (bM (dI c) [97] 2).1 (gQ c) (jg c&&(bM (dI c) [97] 2).2.2) x df ok:=hb5;have Ee:lost=bif ok then(bM (dI c) [97] 2).2.1 else[]:=Ee
 rw[c3,ai6 n0 n1,cc,c4]at hb5;rw[c3,ai6 n0 n1]at Ee;have hok:ok=true:=hb5.1;subst hok;obtain⟨x1,x2,x3,x4⟩:=hb5.2.1 rfl;have Ee:lost=[]:=Ee;have sx:qC x:=aax x3 (by rw[x2];exact hdn);refine⟨sx,?_⟩;rintro⟨⟨y,df2,als,ok2,⟨⟩⟩,⟨⟩⟩ ⟨hb6,_⟩;have hb6:Sp.became x (bM (dI x) [97] 1).1 (gQ x) (jg x&&(bM (dI x) [97] 1).2.2) y df2 ok2:=hb6;rw[x1,akT n0 n1,x3,x2]at hb6;have hok2:ok2=true:=hb6.1;subst hok2;obtain⟨y1,y2,y3,y4⟩:=hb6.2.1 rfl;have ec:xG c=[([100,97],[(1,())],())]:=by have:=(EK cc).2.2;rw[c4,show c.2.1=(AU n).2.1 from congrArg (λs:bF=>s.2.1) c3]at this;exact acU this λX=>akU n0 n1 X
 have ex0:=(EK x3).2.2;rw[x2,show x.2.1=(Sp.storeT n).2.1 from congrArg (λs:bF=>s.2.1) x1]at ex0;have ex:xG x=[([100,97],[],())]:=acU ex0 λX=>akV n0 n1 X;have ey:y=c:=ahl y3 cc (y1.trans c3.symm) (y2.trans c4.symm);have d1:df.length=1:=by rw[x4,ec,ex];rfl
 have d2:df2.length=1:=by rw[y4,ey,ec,ex];rfl
 have fin:((decide (y=c),()):Bool×Unit)=(true,()):=by rw[alP ey]
 dsimp only;rw[Ee,d1,d2];have p1:dH (dI x)/\bI (gQ x)/\aB (dI x)=true/\ax (gQ x)=true:=⟨sx.1,sx.2.1,(EK x3).2.1,(EK x3).1⟩;refine⟨p1,?_⟩;rintro⟨⟨r,⟨⟩⟩,⟨⟩⟩ hr;have hr:r=[]:=by have hr:r=dn (Ep (dI x).2.1 (gQ x)) [100,97]:=hr;rw[hr,x1,x2,aaC (Nu (afp n0 n1)) ex0,ex];rfl
 dsimp only;rw[hr];exact⟨trivial,fin⟩
end Go.Proofs.Tryz
