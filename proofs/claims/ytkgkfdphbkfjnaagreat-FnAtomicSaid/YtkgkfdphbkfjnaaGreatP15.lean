import Derived.Test.YtkgkfdphbkfjnaaGreatP14
import Derived.Test.YtkgkfdphbkfjnaaGreatV4
import Derived.Test.YtkgkfdphbkfjnaaGreatV6
import Derived.Test.YtkgkfdphbkfjnaaGreatSp
namespace Go.Proofs.Tryz
open Go Go.Fw Go.IntWalk Sp
theorem UM:∀{l:List dL}{n:Nat}{s:Sp.Bytes},n<l.length->(∀i,i<n->(dG l i).1≠s)->(dG l n).1=s->dJ l s=(dG l n).2
 |[],n,_,h,_,_=>by simp at h
 |x::r,0,s,_,_,e=>by
  have e:x.1=s:=e;rw[dJ,auE.2 e];rfl
 |x::r,n+1,s,h,hn,e=>by have h0:x.1≠s:=hn 0 (by omega);rw[dJ,auu.2 h0];exact UM (l:=r) (by simpa using h) (λi hi=>hn (i+1) (by omega)) e
theorem OO:∀{l:List dL}{s:Sp.Bytes},(∀i,i<l.length->(dG l i).1≠s)->dJ l s=(0,0,[],())
 |[],_,_=>rfl
 |x::r,s,h=>by have h0:x.1≠s:=h 0 (by simp);rw[dJ,auu.2 h0];exact OO λi hi=>h (i+1) (by simpa using hi)
theorem Jw:OK sF.e:=by
 refine PA.ok mixed (au [] trivial) ag1 (by kernel_rfl) (show∀f0 f1 f2 f3 f4 name,sF.goal (aeX f0 f1 f2 f3 f4 name) ((f0,f1,f2,f3,f4,()),name,())from ?_);intro f0 f1 f2 f3 l s hin hp;dsimp only[sF]at hp ⊢;have hlen:l.length<=maxLen:=hin.1.2.2.2.2.1.1;rw[maxLen_eq]at hlen;refine iL l.length hlen (λn=>∀i,i<n->(dG l i).1≠s) (λi hi=>by omega) (λI μ n hn hJ next=>?_) λI μ hJ=>?_
 .dsimp only;refine dn (by omega) ⟨⟨by omega,by omega⟩,af (λh=>?_) λh=>⟨rfl,next λi hi=>?_⟩⟩
  .exact congrArg (·,()) (UM hn hJ (auE.1 h)).symm
  .rcases auJ i n with h'|h'
   .exact hJ i h'
   .have:i=n:=by omega
    rw[this];exact auu.1 h
 .dsimp only;exact dw (by omega) (congrArg (·,()) (OO hJ).symm)
theorem QB:OK wM.e:=by
 refine PA.ok mixed (au [] trivial) ag2 (by kernel_rfl) (show∀f0 f1 f2 f3 f4 name,wM.goal (aeY f0 f1 f2 f3 f4 name) ((f0,f1,f2,f3,f4,()),name,())from ?_);intro f0 f1 f2 f3 l s hin hp;dsimp only[wM]at hp ⊢;have hlen:l.length<=maxLen:=hin.1.2.2.2.2.1.1;rw[maxLen_eq]at hlen;refine iL l.length hlen (λn=>∀i,i<n->(dG l i).1≠s) (λi hi=>by omega) (λI μ n hn hJ next=>?_) λI μ hJ=>?_
 .dsimp only;refine dn (by omega) ⟨⟨by omega,by omega⟩,af (λh=>⟨⟨by omega,by omega⟩,?_⟩) λh=>⟨rfl,next λi hi=>?_⟩⟩
  .exact congrArg (·,()) (UM hn hJ (auE.1 h)).symm
  .rcases auJ i n with h'|h'
   .exact hJ i h'
   .have:i=n:=by omega
    rw[this];exact auu.1 h
 .dsimp only;exact dw (by omega) (congrArg (·,()) (OO hJ).symm)
theorem aeZ:OK A8.e:=by
 refine PA.ok mixed (au [sF.e] ⟨Jw,trivial⟩) H0 (by kernel_rfl) (show∀f0 f1 f2 f3 f4 name,A8.goal (ae0 f0 f1 f2 f3 f4 name) ((f0,f1,f2,f3,f4,()),name,())from ?_);intro f0 f1 f2 f3 l s hin hp;dsimp only[A8]at hp ⊢;refine⟨trivial,?_⟩;cases h:((dJ l s).1==1)with
 |true=>dsimp only[bne];rw[h];rfl
 |false=>dsimp only[bne];rw[h];rfl
theorem aic{α β:Type}[BEq β][LawfulBEq β](g:α->β)(v:β)(s:List α):Sp.findAt (λx=>v==g x) s=Sp.findAt (λx=>g x==v) s:=by
 congr 1
 funext x
 rw[auS,auE,auE];exact eq_comm
theorem V8:OK yS.e:=by refine PA.ok mixed (au [] trivial) Yh (by kernel_rfl) (show∀s v,yS.goal (V9 s v) (s,v,())from ?_);intro s v hin hp;dsimp only[yS]at hp ⊢;exact aoi (K:=λr=>r=(Sp.findAt (λx=>x.1==v) s,())) (λx:Int×Unit=>v==x.1) (0,()) s _ hin.1.1 (by rw[aic])
theorem QX:OK uK.e:=by refine PA.ok mixed (au [] trivial) Td (by kernel_rfl) (show∀s v,uK.goal (QY s v) (s,v,())from ?_);intro s v hin hp;dsimp only[uK]at hp ⊢;exact aoi (K:=λr=>r=(Sp.findAt (λx=>x.1==v) s,())) (λx:List UInt8×Unit=>v==x.1) ([],()) s _ hin.1.1 (by rw[aic])
theorem GV:OK pq.e:=by refine PA.ok mixed (au [yS.e] ⟨V8,trivial⟩) H0 (by kernel_rfl) (show∀s v,pq.goal (QZ s v) (s,v,())from ?_);intro s v hin hp;dsimp only[pq]at hp ⊢;exact⟨trivial,congrArg (·,()) (UN _ s)⟩
theorem qg:OK jh.e:=by refine PA.ok mixed (au [uK.e] ⟨QX,trivial⟩) H0 (by kernel_rfl) (show∀s v,jh.goal (NC s v) (s,v,())from ?_);intro s v hin hp;dsimp only[jh]at hp ⊢;exact⟨trivial,congrArg (·,()) (UN _ s)⟩
theorem Yi:OK vK.e:=by refine PA.ok mixed (au [pq.e] ⟨GV,trivial⟩) H0 (by kernel_rfl) (show∀ids id,vK.goal (Yj ids id) (ids,id,())from ?_);intro s v hin hp;dsimp only[vK]at hp ⊢;exact⟨trivial,rfl⟩
theorem Lr:OK qO.e:=by refine PA.ok mixed (au [] trivial) aar (by kernel_rfl) (show∀ids id,qO.goal (Yk ids id) (ids,id,())from ?_);intro s v hin hp;dsimp only[qO]at hp ⊢;exact apj (K:=λr=>r=(fM s v,())) (λx:Int×Unit=>x.1==v) (0,()) s _ hin.1.1 rfl
theorem JM:OK tC.e:=by refine PA.ok mixed (au [] trivial) Yl (by kernel_rfl) (show∀s,tC.goal (Wh s) (s,())from ?_);intro s hin hp;dsimp only[tC]at hp ⊢;have hp:s.length<=1000:=hp;intro g hg;refine af (λh=>?_) λh=>⟨by rw[bY];omega,rfl⟩;exact congrArg (·,()) (avz.1 (hg h)).symm
abbrev oI:dR:=([],[],())
theorem II{r:List dR}(h:bF r){n:Nat}(hn:n<r.length):(r.getD n oI).2.1.length<=1000:=h.2 _ (getD_mem (d:=oI) hn)
theorem ae1{r:List dR}{n:Nat}{s:Sp.Bytes}(hn:n<r.length)(hJ:∀i,i<n->(sZ r i).1≠s)(e:(sZ r n).1=s):fO r s=iM r n:=by rw[← e];exact Ym hn λj hj=>by rw[e];exact hJ j hj
theorem Gm:OK oJ.e:=by
 refine PA.ok mixed (au [tC.e] ⟨JM,trivial⟩) acQ (by kernel_rfl) (show∀Gg name,oJ.goal (aas Gg name) (Gg,name,())from ?_);intro r s hin hp;dsimp only[oJ]at hp ⊢;have hp:bF r:=hp;have hlen:r.length<=1000:=hp.1;refine iL r.length (by omega) (λn=>∀i,i<n->(sZ r i).1≠s) (λi hi=>by omega) (λI μ n hn hJ next=>?_) λI μ hJ=>?_
 .dsimp only;refine dn (by omega) ⟨⟨by omega,by omega⟩,af (λh=>⟨II hp hn,?_⟩) λh=>⟨rfl,next λi hi=>?_⟩⟩
  .exact congrArg (·,()) (ae1 hn hJ (auE.1 h)).symm
  .rcases auJ i n with h'|h'
   .exact hJ i h'
   .have:i=n:=by omega
    rw[this];exact auu.1 h
 .dsimp only;exact dw (by omega) (congrArg (·,()) (KQ hJ).symm)
theorem Gn:OK oK.e:=by
 refine PA.ok mixed (au [] trivial) acR (by kernel_rfl) (show∀a name,oK.goal (aat a name) (a,name,())from ?_);intro r s hin hp;dsimp only[oK]at hp ⊢;have hp:bF r:=hp;have hlen:r.length<=1000:=hp.1;refine iL r.length (by omega) (λn=>∀i,i<n->(sZ r i).1≠s) (λi hi=>by omega) (λI μ n hn hJ next=>?_) λI μ hJ=>?_
 .dsimp only;refine dn (by omega) ⟨⟨by omega,by omega⟩,af (λh=>⟨⟨by omega,by omega⟩,by have:(r.getD n ([],[],())).2.1.length<=1000:=II hp hn;rw[bY,auA];omega,?_⟩) λh=>⟨rfl,next λi hi=>?_⟩⟩
  .exact congrArg (·,()) (ae1 hn hJ (auE.1 h)).symm
  .rcases auJ i n with h'|h'
   .exact hJ i h'
   .have:i=n:=by omega
    rw[this];exact auu.1 h
 .dsimp only;exact dw (by omega) (congrArg (·,()) (KQ hJ).symm)
theorem acS{q:List bK}{f:aK}{X:BX}{a:Nat}(h5:(Sp.nodeAt q a).1≠5)(h6:(Sp.nodeAt q a).1≠6)(h7:(Sp.nodeAt q a).1≠7):Sp.val q f X a=iP (Sp.nodeAt q a) f X:=by rw[Ls,if_neg h5,if_neg h6,if_neg h7]
theorem al1{q:List bK}{f:aK}{X:BX}{a:Nat}(h5:(Sp.nodeAt q a).1=5)(hl:(Sp.nodeAt q a).2.1.toNat<a):Sp.val q f X a=!Sp.val q f X (Sp.nodeAt q a).2.1.toNat:=by rw[Ls q f X a,if_pos h5,dif_pos hl]
theorem al2{q:List bK}{f:aK}{X:BX}{a:Nat}(h6:(Sp.nodeAt q a).1=6)(hl:(Sp.nodeAt q a).2.1.toNat<a/\(Sp.nodeAt q a).2.2.1.toNat<a):Sp.val q f X a=(Sp.val q f X (Sp.nodeAt q a).2.1.toNat&&Sp.val q f X (Sp.nodeAt q a).2.2.1.toNat):=by rw[Ls q f X a,if_neg (by omega),if_pos h6,dif_pos hl]
theorem aoj{q:List bK}{f:aK}{X:BX}{a:Nat}(h7:(Sp.nodeAt q a).1=7)(hl:(Sp.nodeAt q a).2.1.toNat<a/\(Sp.nodeAt q a).2.2.1.toNat<a):Sp.val q f X a=(Sp.val q f X (Sp.nodeAt q a).2.1.toNat||Sp.val q f X (Sp.nodeAt q a).2.2.1.toNat):=by rw[Ls q f X a,if_neg (by omega),if_neg (by omega),if_pos h7,dif_pos hl]
theorem ap0{n:bK}{f:aK}{X:BX}(h:n.1=2):iP n f X=!((dJ f.2.2.2.2.1 n.2.2.2.1).1==0):=by unfold iP;rw[h];rfl
theorem ap1{n:bK}{f:aK}{X:BX}(h:n.1=3):iP n f X=decide (dJ f.2.2.2.2.1 n.2.2.2.1=(n.2.2.2.2.1,n.2.2.2.2.2.1,n.2.2.2.2.2.2.1,())):=by unfold iP;rw[h];rfl
theorem ap2{n:bK}{f:aK}{X:BX}(h:n.1=4):iP n f X=((dJ f.2.2.2.2.1 n.2.2.2.1).1==1&&decide ((dJ f.2.2.2.2.1 n.2.2.2.1).2.1<n.2.2.2.2.2.1)):=by unfold iP;rw[h];rfl
theorem ap3{n:bK}{f:aK}{X:BX}(h:n.1=8):iP n f X=X n.2.2.2.1 f.1:=by unfold iP;rw[h];rfl
theorem ap4{n:bK}{f:aK}{X:BX}(h:n.1=9):iP n f X=(!(f.2.2.2.1==0)&&X n.2.2.2.1 f.2.2.2.1):=by unfold iP;rw[h];rfl
theorem ap5{n:bK}{f:aK}{X:BX}(h2:n.1≠2)(h3:n.1≠3)(h4:n.1≠4)(h8:n.1≠8)(h9:n.1≠9):iP n f X=true:=by unfold iP;rw[auu.2 h2,auu.2 h3,auu.2 h4,auu.2 h8,auu.2 h9];rfl
theorem eq3(v w:akp):(v.1==w.1&&(v.2.1==w.2.1&&(v.2.2.1==w.2.2.1&&true)))=decide (v=w):=by rw[auS];simp[awi]
theorem Jy{x y z:Int}(h:x=y)(hne:y≠z):x≠z:=by rw[h];exact hne
theorem am7{n:bK}{a:Int}(h:kK n a=true):n.1=1\/n.1=2\/n.1=3\/n.1=4\/n.1=5\/n.1=6\/n.1=7\/n.1=8\/n.1=9:=by unfold kK at h;dsimp only at h;refine au8 λhno=>?_;have e:∀k:Int,n.1≠k->(n.1==k)=false:=λk hk=>auu.2 hk;rw[e 1 (λh=>hno (by simp[h])),e 2 (λh=>hno (by simp[h])),e 3 (λh=>hno (by simp[h])),e 4 (λh=>hno (by simp[h])),e 5 (λh=>hno (by simp[h])),e 6 (λh=>hno (by simp[h])),e 7 (λh=>hno (by simp[h])),e 8 (λh=>hno (by simp[h])),e 9 (λh=>hno (by simp[h]))]at h;cases h
theorem PO[tq](Q5:rG prog G uS yu):rG prog G GU EP:=by
 refine PS (au [vK.e,oJ.e,(uS,.pure yu),A8.e,sF.e] ⟨Yi,Gm,⟨Q5,PK⟩,aeZ,Jw,trivial⟩) ?_;intro q a f0 f1 f2 f3 f4 r hin hp;obtain⟨⟨hq,h0,h1,hr⟩,hm⟩:=hp;have ha:a.toNat<q.length:=by omega
 obtain⟨k1,k2⟩:=OQ hq ha;have fin:∀z:Bool,Sp.val q (f0,f1,f2,f3,f4,()) (bD r) a.toNat=z->(z,())=(Sp.val q (f0,f1,f2,f3,f4,()) (bD r) a.toNat,()):=λz h=>by rw[h]
 have leaf:∀k:Int,k≠5->k≠6->k≠7->(Sp.nodeAt q a.toNat).1=k->Sp.val q (f0,f1,f2,f3,f4,()) (bD r) a.toNat=iP (Sp.nodeAt q a.toNat) (f0,f1,f2,f3,f4,()) (bD r):=λk a b c h=>acS (Jy h a) (Jy h b) (Jy h c);have kid:∀k:Int,0<=k->k.toNat<a.toNat->(bQ q=true/\0<=k/\k<(q.length:Int)/\bF r)/\k.toNat<rX:=λk h2 h3=>⟨⟨hq,h2,by omega,hr⟩,by omega⟩;refine⟨⟨h0,h1⟩,af (λh=>⟨trivial,fin _ ((leaf 2 (by decide) (by decide) (by decide) (auE.1 h)).trans (ap0 (auE.1 h)))⟩) λh2=>af (λh=>⟨trivial,fin _ ((leaf 3 (by decide) (by decide) (by decide) (auE.1 h)).trans ((ap1 (auE.1 h)).trans (eq3 _ _).symm))⟩) λh3=>af (λh=>⟨trivial,?_⟩) λh4=>af (λh=>?_) λh5=>af (λh=>?_) λh6=>af (λh=>?_) λh7=>af (λh=>⟨hr,trivial,fin _ ((leaf 8 (by decide) (by decide) (by decide) (auE.1 h)).trans (ap3 (auE.1 h)))⟩) λh8=>af (λh=>?_) λh9=>?_⟩
 .have e:=(leaf 4 (by decide) (by decide) (by decide) (auE.1 h)).trans (ap2 (auE.1 h));dsimp only at e ⊢;refine af (λg=>fin _ (e.trans ?_)) λg=>fin _ (e.trans ?_)
  .unfold Sp.nodeAt;rw[g];rfl
  .unfold Sp.nodeAt;rw[g];rfl
 .have hk:=k1 (.inl (auE.1 h));exact⟨kid _ hk.1 hk.2,fin _ (al1 (auE.1 h) hk.2)⟩
 .have ht:jG (Sp.nodeAt q a.toNat)=true:=zD.2 (.inl (auE.1 h));have hk:=k1 (.inr ht);have hk2:=k2 ht;have e:=al2 (f:=(f0,f1,f2,f3,f4,())) (X:=bD r) (auE.1 h) ⟨hk.2,hk2.2⟩;refine⟨kid _ hk.1 hk.2,af (λg=>⟨kid _ hk2.1 hk2.2,fin _ (e.trans ?_)⟩) λg=>fin _ (e.trans ?_)⟩
  .have g:Sp.val q (f0,f1,f2,f3,f4,()) (bD r) (Sp.nodeAt q a.toNat).2.1.toNat=true:=g;rw[g];rfl
  .have g:Sp.val q (f0,f1,f2,f3,f4,()) (bD r) (Sp.nodeAt q a.toNat).2.1.toNat=false:=g;rw[g];rfl
 .have ht:jG (Sp.nodeAt q a.toNat)=true:=zD.2 (.inr (auE.1 h));have hk:=k1 (.inr ht);have hk2:=k2 ht;have e:=aoj (f:=(f0,f1,f2,f3,f4,())) (X:=bD r) (auE.1 h) ⟨hk.2,hk2.2⟩;refine⟨kid _ hk.1 hk.2,af (λg=>fin _ (e.trans ?_)) λg=>⟨kid _ hk2.1 hk2.2,fin _ (e.trans ?_)⟩⟩
  .have g:Sp.val q (f0,f1,f2,f3,f4,()) (bD r) (Sp.nodeAt q a.toNat).2.1.toNat=true:=g;rw[g];rfl
  .have g:Sp.val q (f0,f1,f2,f3,f4,()) (bD r) (Sp.nodeAt q a.toNat).2.1.toNat=false:=g;rw[g];rfl
 .have e:=(leaf 9 (by decide) (by decide) (by decide) (auE.1 h)).trans (ap4 (auE.1 h));refine af (λg=>⟨hr,trivial,fin _ (e.trans ?_)⟩) λg=>fin _ (e.trans ?_)
  .have g:(!(f3==0))=true:=g;dsimp only;rw[g];rfl
  .have g:(!(f3==0))=false:=g;dsimp only;rw[g];rfl
 .have n2:=auu.1 h2;have n3:=auu.1 h3;have n4:=auu.1 h4;have n8:=auu.1 h8;have n9:=auu.1 h9;exact fin _ ((acS (auu.1 h5) (auu.1 h6) (auu.1 h7)).trans (ap5 n2 n3 n4 n8 n9))
theorem aau:rG prog G Ib KY:=
 anV (λn=>@Io ⟨n⟩) (λn=>@Gv ⟨n⟩) (by rintro⟨q,at',⟨i,o,s,l,a,⟨⟩⟩,r,⟨⟩⟩ h;exact axd _ h.2) (by rintro _ ⟨q,at',⟨i,o,s,l,a,⟨⟩⟩,r,⟨⟩⟩;rfl) (by rintro⟨q,at',⟨i,o,s,l,a,⟨⟩⟩,r,⟨⟩⟩ h;exact⟨_,h,axz _⟩) (by rintro _ ⟨q,at',⟨i,o,s,l,a,⟨⟩⟩,r,⟨⟩⟩;rfl) λn h=>@PO ⟨n⟩ h
theorem Tf[tq](UO:rG prog G yc Ba):rG prog G Jr Gx:=by
 refine Ti (au [qO.e,oK.e,(yc,.pure Ba),wM.e] ⟨Lr,Gn,⟨UO,SG⟩,QB,trivial⟩) ?_;intro q a f0 f1 f2 f3 f4 r hin hp;obtain⟨⟨hq,h0,h1,hr⟩,hm⟩:=hp;have ha:a.toNat<q.length:=by omega
 obtain⟨k1,k2⟩:=OQ hq ha;have fin:∀z:Bool,Sp.val q (f0,f1,f2,f3,f4,()) (bD r) a.toNat=z->(z,())=(Sp.val q (f0,f1,f2,f3,f4,()) (bD r) a.toNat,()):=λz h=>by rw[h]
 have leaf:∀k:Int,k≠5->k≠6->k≠7->(Sp.nodeAt q a.toNat).1=k->Sp.val q (f0,f1,f2,f3,f4,()) (bD r) a.toNat=iP (Sp.nodeAt q a.toNat) (f0,f1,f2,f3,f4,()) (bD r):=λk a b c h=>acS (Jy h a) (Jy h b) (Jy h c);have kid:∀k:Int,0<=k->k.toNat<a.toNat->(bQ q=true/\0<=k/\k<(q.length:Int)/\bF r)/\k.toNat<rX:=λk h2 h3=>⟨⟨hq,h2,by omega,hr⟩,by omega⟩;refine⟨⟨h0,h1⟩,trivial,af (λh=>fin _ ((leaf 1 (by decide) (by decide) (by decide) (auE.1 h)).trans (ap5 (Jy (auE.1 h) (by decide)) (Jy (auE.1 h) (by decide)) (Jy (auE.1 h) (by decide)) (Jy (auE.1 h) (by decide)) (Jy (auE.1 h) (by decide))))) λh1=>af (λh=>fin _ ((leaf 2 (by decide) (by decide) (by decide) (auE.1 h)).trans (ap0 (auE.1 h)))) λh2=>af (λh=>fin _ ((leaf 3 (by decide) (by decide) (by decide) (auE.1 h)).trans ((ap1 (auE.1 h)).trans (eq3 _ _).symm))) λh3=>af (λh=>?_) λh4=>af (λh=>?_) λh5=>af (λh=>?_) λh6=>af (λh=>?_) λh7=>af (λh=>⟨hr,trivial,fin _ ((leaf 8 (by decide) (by decide) (by decide) (auE.1 h)).trans (ap3 (auE.1 h)))⟩) λh8=>?_⟩
 .have e:=(leaf 4 (by decide) (by decide) (by decide) (auE.1 h)).trans (ap2 (auE.1 h));dsimp only at e ⊢;refine af (λg=>fin _ (e.trans ?_)) λg=>fin _ (e.trans ?_)
  .unfold Sp.nodeAt;rw[g];rfl
  .unfold Sp.nodeAt;rw[g];rfl
 .have hk:=k1 (.inl (auE.1 h));exact⟨kid _ hk.1 hk.2,fin _ (al1 (auE.1 h) hk.2)⟩
 .have ht:jG (Sp.nodeAt q a.toNat)=true:=zD.2 (.inl (auE.1 h));have hk:=k1 (.inr ht);have hk2:=k2 ht;have e:=al2 (f:=(f0,f1,f2,f3,f4,())) (X:=bD r) (auE.1 h) ⟨hk.2,hk2.2⟩;refine⟨kid _ hk.1 hk.2,af (λg=>⟨kid _ hk2.1 hk2.2,fin _ (e.trans ?_)⟩) λg=>fin _ (e.trans ?_)⟩
  .have g:Sp.val q (f0,f1,f2,f3,f4,()) (bD r) (Sp.nodeAt q a.toNat).2.1.toNat=true:=g;rw[g];rfl
  .have g:Sp.val q (f0,f1,f2,f3,f4,()) (bD r) (Sp.nodeAt q a.toNat).2.1.toNat=false:=g;rw[g];rfl
 .have ht:jG (Sp.nodeAt q a.toNat)=true:=zD.2 (.inr (auE.1 h));have hk:=k1 (.inr ht);have hk2:=k2 ht;have e:=aoj (f:=(f0,f1,f2,f3,f4,())) (X:=bD r) (auE.1 h) ⟨hk.2,hk2.2⟩;refine⟨kid _ hk.1 hk.2,af (λg=>fin _ (e.trans ?_)) λg=>⟨kid _ hk2.1 hk2.2,fin _ (e.trans ?_)⟩⟩
  .have g:Sp.val q (f0,f1,f2,f3,f4,()) (bD r) (Sp.nodeAt q a.toNat).2.1.toNat=true:=g;rw[g];rfl
  .have g:Sp.val q (f0,f1,f2,f3,f4,()) (bD r) (Sp.nodeAt q a.toNat).2.1.toNat=false:=g;rw[g];rfl
 .have n1:=auu.1 h1;have n2:=auu.1 h2;have n3:=auu.1 h3;have n4:=auu.1 h4;have n5:=auu.1 h5;have n6:=auu.1 h6;have n7:=auu.1 h7;have n8:=auu.1 h8;have h9:(Sp.nodeAt q a.toNat).1=9:=by
   rcases am7 (OT hq ha).1 with h|h|h|h|h|h|h|h|h
   .exact(n1 h).elim
   .exact(n2 h).elim
   .exact(n3 h).elim
   .exact(n4 h).elim
   .exact(n5 h).elim
   .exact(n6 h).elim
   .exact(n7 h).elim
   .exact(n8 h).elim
   .exact h
  have e:=(leaf 9 (by decide) (by decide) (by decide) h9).trans (ap4 h9);refine af (λg=>⟨hr,trivial,fin _ (e.trans ?_)⟩) λg=>fin _ (e.trans ?_)
  .have g:(!(f3==0))=true:=g;dsimp only;rw[g];rfl
  .have g:(!(f3==0))=false:=g;dsimp only;rw[g];rfl
theorem ae2:rG prog G Kq Ob:=
 anV (λn=>@JI ⟨n⟩) (λn=>@IZ ⟨n⟩) (by rintro⟨q,at',⟨i,o,s,l,a,⟨⟩⟩,r,⟨⟩⟩ h;exact axd _ h.2) (by rintro _ ⟨q,at',⟨i,o,s,l,a,⟨⟩⟩,r,⟨⟩⟩;rfl) (by rintro⟨q,at',⟨i,o,s,l,a,⟨⟩⟩,r,⟨⟩⟩ h;exact⟨_,h,axz _⟩) (by rintro _ ⟨q,at',⟨i,o,s,l,a,⟨⟩⟩,r,⟨⟩⟩;rfl) λn h=>@Tf ⟨n⟩ h
theorem ae3:OK Fq.e:=by
 refine PA.ok mixed (au [(Ib,.pure KY),nR.e] ⟨⟨aau,X4⟩,Dl,trivial⟩) H0 (by kernel_rfl) (show∀q f0 f1 f2 f3 f4 BQ,Fq.goal (ae4 q f0 f1 f2 f3 f4 BQ) (q,(f0,f1,f2,f3,f4,()),BQ,())from ?_);intro q f0 f1 f2 f3 f4 r hin hp;dsimp only[Fq]at hp ⊢;obtain⟨h1,h2⟩:=hp;have e:∀z,bQ q=z->iO q (f0,f1,f2,f3,f4,()) (bD r)=(z&&Sp.val q (f0,f1,f2,f3,f4,()) (bD r) (q.length-1)):=λz hz=>by unfold iO;rw[hz]
 refine⟨by omega,af (λh=>?_) λh=>?_⟩
 .have hl:=Sp.GX h;rw[wU (by omega) (by omega)];refine⟨⟨h,by omega,by omega,h2⟩,?_⟩;rw[e _ h,auA];rfl
 .rw[e _ h];rfl
theorem ae5:OK Fv.e:=by
 refine PA.ok mixed (au [(Kq,.pure Ob),nP.e] ⟨⟨ae2,acr⟩,Dn,trivial⟩) H0 (by kernel_rfl) (show∀q f0 f1 f2 f3 f4 a,Fv.goal (ae6 q f0 f1 f2 f3 f4 a) (q,(f0,f1,f2,f3,f4,()),a,())from ?_);intro q f0 f1 f2 f3 f4 r hin hp;dsimp only[Fv]at hp ⊢;obtain⟨h1,h2⟩:=hp;have e:∀z,bQ q=z->iO q (f0,f1,f2,f3,f4,()) (bD r)=(z&&Sp.val q (f0,f1,f2,f3,f4,()) (bD r) (q.length-1)):=λz hz=>by unfold iO;rw[hz]
 refine⟨by omega,af (λh=>?_) λh=>?_⟩
 .have hl:=Sp.GX h;rw[wU (by omega) (by omega)];refine⟨⟨h,by omega,by omega,h2⟩,?_⟩;rw[e _ h,auA];rfl
 .rw[e _ h];rfl
theorem Wi:OK yT.e:=by refine PA.ok mixed (au [Fq.e] ⟨ae3,trivial⟩) Yn (by kernel_rfl) (show∀s0 s1 s2 q BQ,yT.goal (Wj s0 s1 s2 q BQ) ((s0,s1,s2,()),q,BQ,())from ?_);intro s0 fs nx q r hin hp;dsimp only[yT]at hp ⊢;obtain⟨h1,h2,h3⟩:=hp;have hl:fs.length<=1000:=h1.2.1;exact acT (K:=λz=>z=(Sp.sel fs q (bD r),())) (λf=>iO q f (bD r)) (λf:aK=>(f.1,())) (0,0,false,0,[],()) fs _ (A:=λ_=>q.length<=1000/\bF r) (λ_ _=>⟨h2,h3⟩) (by omega) rfl
theorem JO:OK tK.e:=by refine PA.ok mixed (au [] trivial) Yo (by kernel_rfl) (show∀s1 s2,tK.goal (Wl s1 s2) (s1,s2,())from ?_);intro a b hin hp;dsimp only[tK]at hp ⊢;exact eqL (K:=λr=>r=(decide (a=b),())) (λx y:Int×Unit=>x.1 !=y.1) (λx y=>by simp[awi]) _ a b _ hin.1.1 rfl
theorem GY:OK pz.e:=by
 refine PA.ok mixed (au [tK.e] ⟨JO,trivial⟩) H0 (by kernel_rfl) (show∀x0 x1 y0 y1,pz.goal (Q7 x0 x1 y0 y1) ((x0,x1,()),(y0,y1,()),())from ?_);intro a0 a1 b0 b1 hin hp;dsimp only[pz]at hp ⊢;refine af (λh0=>⟨trivial,?_⟩) λh0=>?_
 all_goals refine congrArg (·,()) (auS.2 ?_)
 .simp[auE.1 h0]
 .simp[show a0≠b0 by simpa using h0]
theorem oO:OK fA.e:=by refine PA.ok mixed (au [pz.e] ⟨GY,trivial⟩) pW (by kernel_rfl) (show∀s1 s2,fA.goal (oP s1 s2) (s1,s2,(()),())from ?_);intro a b hin hp;dsimp only[fA]at hp ⊢;exact apk (K:=λr=>r=(decide (a=b),())) (λx y=>!decide (x=y)) (λx y=>by simp) _ a b _ hin.1.1 rfl
theorem UQ:OK xP.e:=by refine PA.ok mixed (au [pz.e,fA.e] ⟨GY,oO,trivial⟩) H0 (by kernel_rfl) (show∀a b,xP.goal (UR a b) (a,b,())from ?_);intro a b hin hp;dsimp only[xP]at hp ⊢;exact⟨trivial,rfl⟩
end Go.Proofs.Tryz
