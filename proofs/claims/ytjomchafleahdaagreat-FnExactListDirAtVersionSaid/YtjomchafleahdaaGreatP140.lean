import Derived.Test.YtjomchafleahdaaGreatP10
import Derived.Test.YtjomchafleahdaaGreatV3
import Derived.Test.YtjomchafleahdaaGreatSp
import Derived.Test.YtjomchafleahdaaGreatL4
import Derived.WalkKit
import Derived.BigCall
import Derived.Test.YtjomchafleahdaaGreatFwC
namespace Go.Proofs.Tryz
open Go Go.Fw Go.IntWalk Sp
theorem sz1{n:Nat}{left:Int}(hn:n<=maxLen)(h0:0<=left)(h1:left<=1048576){K:Int×Unit->Prop}(hK:K (aH n left,())):
 bif decide (IntKind.i64.wrap (left-(n:Int))<(0:Int))then K ((-1:Int),())else K (IntKind.i64.wrap (left-(n:Int)),()):=by
 rw[maxLen_eq]at hn;rw[gm _ (by omega)];unfold aH at hK;refine af (λh=>?_) λh=>?_<;>simp only[arx,arC]at h
 .rw[if_pos h]at hK;exact hK
 .rw[if_neg h]at hK;exact hK
theorem szr{n:Nat}{left:Int}{K:Int×Unit->Prop}(hK:K (aH n left,())):
 bif decide (aH n left<(0:Int))then K ((-1:Int),())else K (aH n left,()):=by
 refine af (λh=>?_) λh=>?_<;>simp only[arx,arC]at h
 .have:=Oi (m:=0) h;rw[asI]at this;rw[this]at hK;exact hK
 .exact hK
theorem sz2{n m:Nat}{left:Int}(hn:n<=maxLen)(h0:0<=left)(h1:left<=1048576){K:Int×Unit->Prop}(hK:K (aH (n+m) left,())):
 bif decide (IntKind.i64.wrap (left-(n:Int))<(0:Int))then K ((-1:Int),())
 else((0:Int)<=IntKind.i64.wrap (left-(n:Int))/\IntKind.i64.wrap (left-(n:Int))<=(1048576:Int))/\
  (bif decide (aH m (IntKind.i64.wrap (left-(n:Int)))<(0:Int))then K ((-1:Int),())else K (aH m (IntKind.i64.wrap (left-(n:Int))),())):=by
 rw[maxLen_eq]at hn;rw[gm _ (by omega)];refine af (λh=>?_) λh=>?_<;>simp only[arx,arC]at h
 .rw[Oi (by unfold aH;rw[if_pos h];omega)]at hK;exact hK
 .refine⟨⟨by omega,by omega⟩,szr ?_⟩;rw[← RI h,RJ (by rw[RI h];omega)];exact hK
theorem sz3{n m:Nat}{left:Int}(h0:0<=left)(h1:left<=1048576){K:Int×Unit->Prop}(hK:K (aH (n+m) left,())):
 ((0:Int)<=left/\left<=(1048576:Int))/\
 (bif decide (aH n left<(0:Int))then K ((-1:Int),())
 else((0:Int)<=aH n left/\aH n left<=(1048576:Int))/\
  (bif decide (aH m (aH n left)<(0:Int))then K ((-1:Int),())else K (aH m (aH n left),()))):=by
 refine⟨⟨h0,h1⟩,af (λh=>?_) λh=>?_⟩<;>simp only[arx,arC]at h
 .rw[Oi h]at hK;exact hK
 .have:=adG (n:=n) h0;refine⟨⟨by omega,by omega⟩,szr ?_⟩;rw[RJ (by omega)];exact hK
theorem BM{W:Nat}{left:Int}(h:left<W):((-1:Int),())=(aH W left,()):=by unfold aH;rw[if_pos (by omega)]
theorem Gh{n:Nat}{left:Int}(h:(n:Int)<=left):aH n left=left-n:=by unfold aH;rw[if_neg (by omega)]
theorem afR{n W:Nat}{x left:Int}(h:left-W=x-n):(aH n x,())=(aH W left,()):=by unfold aH;rw[h]
theorem Oj{n:Nat}{left:Int}{K:Int×Unit->Prop}{R:Prop}(hK:left<n->K (-1,()))(hR:(n:Int)<=left->R):bif decide (aH n left<0)then K (-1,())else R:=by
 unfold aH;by_cases h:left-n<0
 .rw[if_pos h];exact hK (by omega)
 .rw[if_neg h,ars (by omega)];exact hR (by omega)
theorem afS{n:Nat}{left:Int}{K:Int×Unit->Prop}{R:Prop}(hn:n<=maxLen)(h0:0<=left)(h1:left<=1048576)(hK:left<n->K (-1,()))(hR:(n:Int)<=left->R):bif decide (IntKind.i64.wrap (left-(n:Int))<0)then K (-1,())else R:=by
 rw[maxLen_eq]at hn;rw[gm _ (by omega)];by_cases h:left-n<0
 .rw[arh h];exact hK (by omega)
 .rw[ars h];exact hR (by omega)
theorem JS:OK uS.e:=by
 refine aZ [] ⟨⟩ H0 λa0 a1 a2 left=>show uS.goal (Zc a0 a1 a2 left) ((a0,a1,a2,()),left,())fromλhin hp=>?_
 dsimp only[uS]at hp ⊢;exact sz1 (K:=λr=>r=(_,())) hin.1.2.2.1 hp.1 hp.2 rfl
theorem abT:OK Cb.e:=by
 refine aZ [uS.e] ⟨JS,⟨⟩⟩ H0 λa0 a1 a2 a3 left=>show Cb.goal (abU a0 a1 a2 a3 left) ((a0,a1,a2,a3,()),left,())fromλhin hp=>?_
 dsimp only[Cb]at hp ⊢;exact sz2 (K:=λr=>r=(_,())) hin.1.1 hp.1 hp.2 rfl
theorem abV:OK Cc.e:=by
 refine aZ [uS.e] ⟨JS,⟨⟩⟩ H0 λa0 a1 a2 a3 a4 a5 a6 left=>show Cc.goal (abW a0 a1 a2 a3 a4 a5 a6 left) ((a0,a1,a2,a3,a4,a5,a6,()),left,())fromλhin hp=>?_
 dsimp only[Cc]at hp ⊢;exact sz2 (K:=λr=>r=(_,())) hin.1.2.2.2.1 hp.1 hp.2 rfl
theorem Zd:OK zZ.e:=by
 refine aZ [Cb.e] ⟨abT,⟨⟩⟩ abX λa left=>show zZ.goal (Ze a left) (a,left,())fromλhin hp=>?_
 dsimp only[zZ]at hp ⊢;exact Ez (K:=λr=>r=(_,())) Nq _ a left _ hin.1.1 hp.1 hp.2 rfl
theorem Zf:OK Aa.e:=by
 refine aZ [Cc.e] ⟨abV,⟨⟩⟩ abY λa left=>show Aa.goal (Zg a left) (a,left,())fromλhin hp=>?_
 dsimp only[Aa]at hp ⊢;exact Ez (K:=λr=>r=(_,())) Nr _ a left _ hin.1.1 hp.1 hp.2 rfl
theorem abZ:OK Ce.e:=by
 refine aZ [zZ.e] ⟨Zd,⟨⟩⟩ H0 λa0 a1 a2 a3 a4 left=>show Ce.goal (ab1 a0 a1 a2 a3 a4 left) ((a0,a1,a2,a3,a4,()),left,())fromλhin hp=>?_
 dsimp only[Ce]at hp ⊢;exact⟨hp,szr (K:=λr=>r=(_,())) rfl⟩
theorem aec:OK DV.e:=by
 refine aZ [Aa.e] ⟨Zf,⟨⟩⟩ H0 λa0 a1 left=>show DV.goal (aed a0 a1 left) ((a0,a1,()),left,())fromλhin hp=>?_
 dsimp only[DV]at hp ⊢;exact sz2 (K:=λr=>r=(_,())) hin.1.1 hp.1 hp.2 rfl
theorem Zh:OK Ac.e:=by
 refine aZ [] ⟨⟩ H0 λa0 a1 left=>show Ac.goal (Zi a0 a1 left) ((a0,a1,()),left,())fromλhin hp=>?_
 dsimp only[Ac]at hp ⊢;exact sz1 (K:=λr=>r=(_,())) hin.1.1 hp.1 hp.2 rfl
theorem WQ:OK yL.e:=by
 refine aZ [Ac.e] ⟨Zh,⟨⟩⟩ Zj λa left=>show yL.goal (WR a left) (a,left,())fromλhin hp=>?_
 dsimp only[yL]at hp ⊢;exact Ez (K:=λr=>r=(_,())) Ic _ a left _ hin.1.1 hp.1 hp.2 rfl
theorem Zk:OK Ad.e:=by
 refine aZ [Ce.e] ⟨abZ,⟨⟩⟩ ab2 λa left=>show Ad.goal (Zl a left) (a,left,())fromλhin hp=>?_
 dsimp only[Ad]at hp ⊢;exact Ez (K:=λr=>r=(_,())) Fq _ a left _ hin.1.1 hp.1 hp.2 rfl
theorem MJ:OK xw.e:=by
 refine aZ [DV.e] ⟨aec,⟨⟩⟩ aee λa left=>show xw.goal (ab3 a left) (a,left,())fromλhin hp=>?_
 dsimp only[xw]at hp ⊢;exact Ez (K:=λr=>r=(_,())) Kw _ a left _ hin.1.1 hp.1 hp.2 rfl
theorem AU:OK oV.e:=by
 refine aZ [] ⟨⟩ H0 λa left=>show oV.goal (ab4 a left) (a,left,())fromλhin hp=>?_
 dsimp only[oV]at hp ⊢;exact sz1 (K:=λr=>r=(_,())) hin.1.1 hp.1 hp.2 rfl
theorem WS:OK yM.e:=by
 refine aZ [oV.e] ⟨AU,⟨⟩⟩ H0 λa0 a1 left=>show yM.goal (WT a0 a1 left) ((a0,a1,()),left,())fromλhin hp=>?_
 dsimp only[yM]at hp ⊢;exact sz2 (K:=λr=>r=(_,())) hin.1.1 hp.1 hp.2 rfl
theorem Uy:OK wC.e:=by
 refine aZ [yM.e] ⟨WS,⟨⟩⟩ WU λa left=>show wC.goal (Uz a left) (a,left,())fromλhin hp=>?_
 dsimp only[wC]at hp ⊢;exact Ez (K:=λr=>r=(_,())) abk _ a left _ hin.1.1 hp.1 hp.2 rfl
theorem JU:OK uT.e:=by
 refine aZ [Ad.e,yL.e] ⟨Zk,WQ,⟨⟩⟩ H0 λa0 a1 a2 left=>show uT.goal (Zm a0 a1 a2 left) ((a0,a1,a2,()),left,())fromλhin hp=>?_
 dsimp only[uT]at hp ⊢;exact sz3 (K:=λr=>r=(_,())) hp.1 hp.2 rfl
theorem RN:OK uq.e:=by
 refine aZ [xw.e,uT.e] ⟨MJ,JU,⟨⟩⟩ H0 λa0 a1 a2 a3 left=>show uq.goal (RP a0 a1 a2 a3 left) ((a0,a1,a2,a3,()),left,())fromλhin hp=>?_
 dsimp only[uq]at hp ⊢;exact sz3 (K:=λr=>r=(_,())) hp.1 hp.2 rfl
theorem UA:OK wF.e:=by
 refine aZ [uq.e] ⟨RN,⟨⟩⟩ H0 λa0 a1 a2 a3 a4 a5 left=>show wF.goal (UB a0 a1 a2 a3 a4 a5 left) ((a0,a1,a2,a3,a4,a5,()),left,())fromλhin hp=>?_
 dsimp only[wF]at hp ⊢;exact⟨hp,szr (K:=λr=>r=(_,())) rfl⟩
theorem RQ:OK uw.e:=by
 refine aZ [wF.e] ⟨UA,⟨⟩⟩ UC λa left=>show uw.goal (RS a left) (a,left,())fromλhin hp=>?_
 dsimp only[uw]at hp ⊢;exact Ez (K:=λr=>r=(_,())) Ky _ a left _ hin.1.1 hp.1 hp.2 rfl
theorem Zn:OK Ae.e:=by
 refine aZ [oV.e] ⟨AU,⟨⟩⟩ H0 λa0 a1 a2 left=>show Ae.goal (Zo a0 a1 a2 left) ((a0,a1,a2,()),left,())fromλhin hp=>?_
 dsimp only[Ae]at hp ⊢;exact sz3 (K:=λr=>r=(_,())) hp.1 hp.2 rfl
theorem WV:OK yN.e:=by
 refine aZ [Ae.e] ⟨Zn,⟨⟩⟩ Zp λa left=>show yN.goal (WW a left) (a,left,())fromλhin hp=>?_
 dsimp only[yN]at hp ⊢;exact Ez (K:=λr=>r=(_,())) wEv _ a left _ hin.1.1 hp.1 hp.2 rfl
theorem Zq:OK Ag.e:=by
 refine aZ [yN.e,oV.e] ⟨WV,AU,⟨⟩⟩ H0 λa0 a1 a2 a3 left=>show Ag.goal (Zr a0 a1 a2 a3 left) ((a0,a1,a2,a3,()),left,())fromλhin hp=>?_
 dsimp only[Ag]at hp ⊢;obtain⟨h0,h1⟩:0<=left/\left<=1048576:=hp;have l1:a1.length<=maxLen:=hin.1.2.1;have hw:VZ (a0,a1,a2,a3,())=a1.length+(a2.length+EY a3):=rfl;refine afS (K:=λr=>r=(_,())) l1 h0 h1 (λh=>BM (by rw[hw];omega)) λh=>?_;dsimp only;rw[maxLen_eq]at l1;rw[gm (left-a1.length) (by omega)];refine⟨⟨by omega,by omega⟩,Oj (K:=λr=>r=(_,())) (λh=>BM (by rw[hw];omega)) λh2=>?_⟩;rw[Gh h2];exact⟨⟨by omega,by omega⟩,szr (K:=λr=>r=(_,())) (afR (by rw[hw];omega))⟩
theorem WX:OK yO.e:=by
 refine aZ [Ag.e] ⟨Zq,⟨⟩⟩ Zt λa left=>show yO.goal (WY a left) (a,left,())fromλhin hp=>?_
 dsimp only[yO]at hp ⊢;exact Ez (K:=λr=>r=(_,())) VZ _ a left _ hin.1.1 hp.1 hp.2 rfl
theorem ab5:OK Cj.e:=by
 refine aZ [] ⟨⟩ H0 λa0 a1 left=>show Cj.goal (ab6 a0 a1 left) ((a0,a1,()),left,())fromλhin hp=>?_
 dsimp only[Cj]at hp ⊢;obtain⟨h0,h1⟩:0<=left/\left<=1048576:=hp;have l0:a0.length<=maxLen:=hin.1.1;have l1:a1.length<=maxLen:=hin.1.2.1;refine afS (K:=λr=>r=(_,())) l0 h0 h1 (λh=>BM (by omega)) λh=>?_;rw[maxLen_eq]at l0;rw[gm (left-a0.length) (by omega)];refine afS (K:=λr=>r=(_,())) l1 (by omega) (by omega) (λh=>BM (by omega)) λh2=>?_;rw[maxLen_eq]at l1;rw[gm _ (by omega)];show _=(aH (a0.length+a1.length) left,());rw[Gh (by omega)];exact congrArg (·,()) (by omega)
theorem UD:OK wE.e:=by
 refine aZ [wC.e,xw.e,uT.e] ⟨Uy,MJ,JU,⟨⟩⟩ H0 λa0 a1 a2 a3 a4 left=>show wE.goal (UE a0 a1 a2 a3 a4 left) ((a0,a1,a2,a3,a4,()),left,())fromλhin hp=>?_
 dsimp only[wE]at hp ⊢;obtain⟨h0,h1⟩:0<=left/\left<=1048576:=hp;have hw:Qu (a0,a1,a2,a3,a4,())=zu (a0,a1,a2,())+(pK a3+Fv a4):=rfl;refine⟨⟨h0,h1⟩,?_⟩;dsimp only;refine(Oj (K:=λr=>r=(_,())) (λh=>BM (by rw[hw];omega)) λh=>?_);rw[Gh h];refine⟨⟨by omega,by omega⟩,Oj (K:=λr=>r=(_,())) (λh=>BM (by rw[hw];omega)) λh2=>?_⟩;rw[Gh h2];exact⟨⟨by omega,by omega⟩,szr (K:=λr=>r=(_,())) (afR (by rw[hw];omega))⟩
theorem WZ:OK oJ.e:=by
 refine aZ [oV.e,yO.e,uw.e,Cj.e,wE.e] ⟨AU,WX,RQ,ab5,UD,⟨⟩⟩ H0 λa0 a1 a2 a3 a4 a5 a6 a7 a8 a9 a10 left=>show oJ.goal (W9 a0 a1 a2 a3 a4 a5 a6 a7 a8 a9 a10 left) ((a0,a1,a2,a3,a4,a5,a6,a7,a8,a9,a10,()),left,())fromλhin hp=>?_
 dsimp only[oJ]at hp ⊢;obtain⟨h0,h1⟩:0<=left/\left<=1048576:=hp;have hw:Ns (a0,a1,a2,a3,a4,a5,a6,a7,a8,a9,a10,())=Qu (a0,a1,a2,a3,a4,())+((a5.length+a6.length)+(sQ a8+(Ci a9+a10.length))):=rfl;refine⟨⟨h0,h1⟩,?_⟩;dsimp only;refine(Oj (K:=λr=>r=(_,())) (λh=>BM (by rw[hw];omega)) λh=>?_);rw[Gh h];refine⟨⟨by omega,by omega⟩,Oj (K:=λr=>r=(_,())) (λh=>BM (by rw[hw];omega)) λh2=>?_⟩;rw[Gh h2];refine⟨⟨by omega,by omega⟩,Oj (K:=λr=>r=(_,())) (λh=>BM (by rw[hw];omega)) λh3=>?_⟩;rw[Gh h3];refine⟨⟨by omega,by omega⟩,Oj (K:=λr=>r=(_,())) (λh=>BM (by rw[hw];omega)) λh4=>?_⟩;rw[Gh h4];exact⟨⟨by omega,by omega⟩,szr (K:=λr=>r=(_,())) (afR (by rw[hw];omega))⟩
theorem JV:OK uU.e:=by
 refine aZ [] ⟨⟩ H0 λa0 a1 a2=>show uU.goal (Zu a0 a1 a2) ((a0,a1,a2,()),())fromλhin hp=>?_
 dsimp only[uU]at hp ⊢;exact rfl
theorem ab7:OK Cm.e:=by
 refine aZ [uU.e] ⟨JV,⟨⟩⟩ H0 λa0 a1 a2 a3=>show Cm.goal (ab8 a0 a1 a2 a3) ((a0,a1,a2,a3,()),())fromλhin hp=>?_
 dsimp only[Cm]at hp ⊢;exact⟨trivial,rfl⟩
theorem ab9:OK CB.e:=by
 refine aZ [uU.e] ⟨JV,⟨⟩⟩ H0 λa0 a1 a2 a3 a4 a5 a6=>show CB.goal (acd a0 a1 a2 a3 a4 a5 a6) ((a0,a1,a2,a3,a4,a5,a6,()),())fromλhin hp=>?_
 dsimp only[CB]at hp ⊢;exact⟨trivial,rfl⟩
theorem Zv:OK Ah.e:=by
 refine aZ [Cm.e] ⟨ab7,⟨⟩⟩ ace λa=>show Ah.goal (Zw a) (a,())fromλhin hp=>?_
 dsimp only[Ah]at hp ⊢;exact toS_vc (K:=λr=>r=(_,())) (λ_=>True) _ a _ (by have h:iw Nq a<=big:=hp;rw[jd,dw]at h;omega) (λ_ _=>trivial) rfl
theorem Zx:OK Ai.e:=by
 refine aZ [CB.e] ⟨ab9,⟨⟩⟩ acf λa=>show Ai.goal (Zy a) (a,())fromλhin hp=>?_
 dsimp only[Ai]at hp ⊢;exact toS_vc (K:=λr=>r=(_,())) (λ_=>True) _ a _ (by have h:iw Nr a<=big:=hp;rw[jd,dw]at h;omega) (λ_ _=>trivial) rfl
theorem acg:OK CG.e:=by
 refine aZ [Ah.e] ⟨Zv,⟨⟩⟩ H0 λa0 a1 a2 a3 a4=>show CG.goal (ach a0 a1 a2 a3 a4) ((a0,a1,a2,a3,a4,()),())fromλhin hp=>?_
 dsimp only[CG]at hp ⊢;exact⟨hp,rfl⟩
theorem aef:OK DW.e:=by
 refine aZ [Ai.e] ⟨Zx,⟨⟩⟩ H0 λa0 a1=>show DW.goal (aeg a0 a1) ((a0,a1,()),())fromλhin hp=>?_
 dsimp only[DW]at hp ⊢;exact⟨hp,rfl⟩
theorem Zz:OK Aj.e:=by
 refine aZ [] ⟨⟩ H0 λa0 a1=>show Aj.goal (ZA a0 a1) ((a0,a1,()),())fromλhin hp=>?_
 dsimp only[Aj]at hp ⊢;exact rfl
theorem Xa:OK yP.e:=by
 refine aZ [Aj.e] ⟨Zz,⟨⟩⟩ ZB λa=>show yP.goal (Xb a) (a,())fromλhin hp=>?_
 dsimp only[yP]at hp ⊢;exact toS_vc (K:=λr=>r=(_,())) (λ_=>True) _ a _ (by have h:iw Ic a<=big:=hp;rw[jd,dw]at h;omega) (λ_ _=>trivial) rfl
theorem ZC:OK Ak.e:=by
 refine aZ [CG.e] ⟨acg,⟨⟩⟩ aci λa=>show Ak.goal (ZE a) (a,())fromλhin hp=>?_
 dsimp only[Ak]at hp ⊢;have h:iw Fq a<=big:=hp;exact toS_vc (K:=λr=>r=(_,())) (λx=>zq x.2.2.2.2.1<=big) _ a _ (by rw[jd,dw]at h;omega) (λx hx=>aq7 (ara _) (aq7 (qj Fq a x hx) h)) rfl
theorem MK:OK xA.e:=by
 refine aZ [DW.e] ⟨aef,⟨⟩⟩ aeh λa=>show xA.goal (acj a) (a,())fromλhin hp=>?_
 dsimp only[xA]at hp ⊢;have h:iw Kw a<=big:=hp;exact toS_vc (K:=λr=>r=(_,())) (λx=>Bz x.2.1<=big) _ a _ (by rw[jd,dw]at h;omega) (λx hx=>aq7 (asf _ _) (aq7 (qj Kw a x hx) h)) rfl
theorem AX:OK oW.e:=by
 refine aZ [] ⟨⟩ aei λa=>show oW.goal (ack a) (a,())fromλhin hp=>?_
 dsimp only[oW]at hp ⊢;have hbig:a.length<=4294967296:=hp;refine⟨⟨by omega,by omega,by rw[dw];omega⟩,λy=>∃n:Nat,y.1.1=n/\n<=a.length/\y.2.1=a.take n++List.replicate (a.length-n) (0,()),λy=>((a.length:Int)-y.1.1).toNat,⟨0,rfl,by omega,by simp⟩,?_⟩;rintro⟨⟨_,⟨⟩⟩,l,⟨⟩⟩ ⟨n,rfl,hn,rfl⟩;refine af (λh=>?_) λh=>?_<;>simp only[arx,arC]at h ⊢
 .have hlt:n<a.length:=by omega
  rw[gm _ (by omega)];have e:(a.take n++List.replicate (a.length-n) ((0:Int),())).set n ((a.getD n (0,())).1,())=a.take (n+1)++List.replicate (a.length-(n+1)) (0,()):=by
   rw[show a.length-n=a.length-(n+1)+1 by omega,List.replicate_succ,ast _ _ (by rw[arF];omega),arF,asF hn,asW,as9,
    arW hlt,ar9,arp,aq8 hlt]
   rfl
  refine⟨⟨by omega,by omega⟩,⟨by omega,by simp only[arL,arF,asu];omega⟩,by simp only[arL,arF,asu];omega,rfl,⟨n+1,by simp,by omega,?_⟩,by show((a.length:Int)-((n:Int)+1)).toNat<((a.length:Int)-(n:Int)).toNat;omega⟩;rw[arn,e]
 .have hge:n=a.length:=by omega
  subst hge;simp
theorem Xc:OK yQ.e:=by
 refine aZ [oW.e] ⟨AX,⟨⟩⟩ H0 λa0 a1=>show yQ.goal (Xd a0 a1) ((a0,a1,()),())fromλhin hp=>?_
 dsimp only[yQ]at hp ⊢;exact⟨hp,rfl⟩
theorem UF:OK wG.e:=by
 refine aZ [yQ.e] ⟨Xc,⟨⟩⟩ Xe λa=>show wG.goal (UG a) (a,())fromλhin hp=>?_
 dsimp only[wG]at hp ⊢;have h:iw abk a<=big:=hp;exact toS_vc (K:=λr=>r=(_,())) (λx=>x.2.1.length<=big) _ a _ (by rw[jd,dw]at h;omega) (λx hx=>aq7 (asf _ _) (aq7 (qj abk a x hx) h)) rfl
theorem JW:OK uV.e:=by
 refine aZ [Ak.e,yP.e] ⟨ZC,Xa,⟨⟩⟩ H0 λa0 a1 a2=>show uV.goal (ZF a0 a1 a2) ((a0,a1,a2,()),())fromλhin hp=>?_
 dsimp only[uV]at hp ⊢;have h:qp a0+BA a1<=big:=hp;exact⟨aq7 (asQ _ _) h,aq7 (asf _ _) h,rfl⟩
theorem RU:OK uy.e:=by
 refine aZ [xA.e,uV.e] ⟨MK,JW,⟨⟩⟩ H0 λa0 a1 a2 a3=>show uy.goal (RV a0 a1 a2 a3) ((a0,a1,a2,a3,()),())fromλhin hp=>?_
 dsimp only[uy]at hp ⊢;have h:zu (a0,a1,a2,())+pK a3<=big:=hp;exact⟨aq7 (asQ _ _) h,aq7 (asf _ _) h,rfl⟩
theorem UH:OK wI.e:=by
 refine aZ [uy.e] ⟨RU,⟨⟩⟩ H0 λa0 a1 a2 a3 a4 a5=>show wI.goal (UI a0 a1 a2 a3 a4 a5) ((a0,a1,a2,a3,a4,a5,()),())fromλhin hp=>?_
 dsimp only[wI]at hp ⊢;exact⟨hp,rfl⟩
theorem RX:OK uz.e:=by
 refine aZ [wI.e] ⟨UH,⟨⟩⟩ UJ λa=>show uz.goal (RY a) (a,())fromλhin hp=>?_
 dsimp only[uz]at hp ⊢;have h:iw Ky a<=big:=hp;exact toS_vc (K:=λr=>r=(_,())) (λx=>Ju (x.2.1,x.2.2.1,x.2.2.2.1,x.2.2.2.2.1,())<=big) _ a _ (by rw[jd,dw]at h;omega) (λx hx=>aq7 (ara _) (aq7 (qj Ky a x hx) h)) rfl
theorem ZG:OK Am.e:=by
 refine aZ [oW.e] ⟨AX,⟨⟩⟩ H0 λa0 a1 a2=>show Am.goal (ZH a0 a1 a2) ((a0,a1,a2,()),())fromλhin hp=>?_
 dsimp only[Am]at hp ⊢;have h:a1.length+a2.length<=big:=hp;exact⟨aq7 (asQ _ _) h,aq7 (asf _ _) h,rfl⟩
theorem Xf:OK yR.e:=by
 refine aZ [Am.e] ⟨ZG,⟨⟩⟩ ZI λa=>show yR.goal (Xg a) (a,())fromλhin hp=>?_
 dsimp only[yR]at hp ⊢;have h:iw wEv a<=big:=hp;exact toS_vc (K:=λr=>r=(_,())) (λx=>x.2.1.length+x.2.2.1.length<=big) _ a _ (by rw[jd,dw]at h;omega) (λx hx=>aq7 (ara _) (aq7 (qj wEv a x hx) h)) rfl
theorem ZJ:OK Ap.e:=by
 refine aZ [yR.e,oW.e] ⟨Xf,AX,⟨⟩⟩ H0 λa0 a1 a2 a3=>show Ap.goal (ZK a0 a1 a2 a3) ((a0,a1,a2,a3,()),())fromλhin hp=>?_
 dsimp only[Ap]at hp ⊢;have h:a2.length+EY a3<=big:=hp;exact⟨aq7 (asQ _ _) h,aq7 (asf _ _) h,rfl⟩
theorem Xh:OK yS.e:=by
 refine aZ [Ap.e] ⟨ZJ,⟨⟩⟩ ZL λa=>show yS.goal (Xi a) (a,())fromλhin hp=>?_
 dsimp only[yS]at hp ⊢;have h:iw VZ a<=big:=hp;exact toS_vc (K:=λr=>r=(_,())) (λx=>x.2.2.1.length+EY x.2.2.2.1<=big) _ a _ (by rw[jd,dw]at h;omega) (λx hx=>aq7 (asf _ _) (aq7 (qj VZ a x hx) h)) rfl
theorem acn:OK CJ.e:=by
 refine aZ [] ⟨⟩ H0 λa0 a1=>show CJ.goal (aco a0 a1) ((a0,a1,()),())fromλhin hp=>?_
 dsimp only[CJ]at hp ⊢;exact rfl
theorem UK:OK wH.e:=by
 refine aZ [wG.e,xA.e,uV.e] ⟨UF,MK,JW,⟨⟩⟩ H0 λa0 a1 a2 a3 a4=>show wH.goal (UL a0 a1 a2 a3 a4) ((a0,a1,a2,a3,a4,()),())fromλhin hp=>?_
 dsimp only[wH]at hp ⊢;have h:zu (a0,a1,a2,())+(pK a3+Fv a4)<=big:=hp;rw[dw]at h;exact⟨by rw[dw];omega,by rw[dw];omega,by rw[dw];omega,rfl⟩
theorem Xj:OK oK.e:=by
 refine aZ [oW.e,yS.e,uz.e,CJ.e,wH.e] ⟨AX,Xh,RX,acn,UK,⟨⟩⟩ H0 λa0 a1 a2 a3 a4 a5 a6 a7 a8 a9 a10=>show oK.goal (Xk a0 a1 a2 a3 a4 a5 a6 a7 a8 a9 a10) ((a0,a1,a2,a3,a4,a5,a6,a7,a8,a9,a10,()),())fromλhin hp=>?_
 dsimp only[oK]at hp ⊢;have h:Qu (a0,a1,a2,a3,a4,())+((a5.length+a6.length)+(sQ a8+(Ci a9+a10.length)))<=big:=hp;rw[dw]at h;exact⟨by rw[dw];omega,trivial,by rw[dw];omega,by rw[dw];omega,by rw[dw];omega,rfl⟩
theorem JX:OK uX.e:=by
 refine aZ [] ⟨⟩ H0 λa0 a1 a2 b0 b1 b2=>show uX.goal (JY a0 a1 a2 b0 b1 b2) ((a0,a1,a2,()),(b0,b1,b2,()),())fromλhin hp=>?_
 dsimp only[uX]at hp ⊢;have hp:(a0,a1,a2,())=(b0,b1,b2,()):=hp;cases hp;unfold JY;simp
theorem acp:OK CP.e:=by
 refine aZ [uX.e] ⟨JX,⟨⟩⟩ H0 λa0 a1 a2 a3 b0 b1 b2 b3=>show CP.goal (ML a0 a1 a2 a3 b0 b1 b2 b3) ((a0,a1,a2,a3,()),(b0,b1,b2,b3,()),())fromλhin hp=>?_
 dsimp only[CP]at hp ⊢;have hp:(a0,a1,a2,a3,())=(b0,b1,b2,b3,()):=hp;cases hp;unfold ML;simp
theorem acr:OK CQ.e:=by
 refine aZ [uX.e] ⟨JX,⟨⟩⟩ H0 λa0 a1 a2 a3 a4 a5 a6 b0 b1 b2 b3 b4 b5 b6=>show CQ.goal (MN a0 a1 a2 a3 a4 a5 a6 b0 b1 b2 b3 b4 b5 b6) ((a0,a1,a2,a3,a4,a5,a6,()),(b0,b1,b2,b3,b4,b5,b6,()),())fromλhin hp=>?_
 dsimp only[CQ]at hp ⊢;have hp:(a0,a1,a2,a3,a4,a5,a6,())=(b0,b1,b2,b3,b4,b5,b6,()):=hp;cases hp;unfold MN;simp
theorem ZM:OK Aq.e:=by
 refine aZ [CP.e] ⟨acp,⟨⟩⟩ acs λa b=>show Aq.goal (ZN a b) (a,b,())fromλhin hp=>?_
 dsimp only[Aq]at hp ⊢;obtain rfl:a=b:=hp;exact af (λh=>absurd h (by simp)) λ_=>dW a.length hin.1.1 (λ_=>True) trivial (λI μ n hn _ next=>by dsimp only;exact dB (by omega) ⟨⟨by omega,by omega⟩,⟨by omega,by omega⟩,rfl,rfl,next trivial⟩) λI μ _=>by dsimp only;exact dm (by omega) rfl
theorem ZO:OK Ar.e:=by
 refine aZ [CQ.e] ⟨acr,⟨⟩⟩ acu λa b=>show Ar.goal (ZP a b) (a,b,())fromλhin hp=>?_
 dsimp only[Ar]at hp ⊢;obtain rfl:a=b:=hp;exact af (λh=>absurd h (by simp)) λ_=>dW a.length hin.1.1 (λ_=>True) trivial (λI μ n hn _ next=>by dsimp only;exact dB (by omega) ⟨⟨by omega,by omega⟩,⟨by omega,by omega⟩,rfl,rfl,next trivial⟩) λI μ _=>by dsimp only;exact dm (by omega) rfl
theorem acv:OK CS.e:=by
 refine aZ [Aq.e] ⟨ZM,⟨⟩⟩ H0 λa0 a1 a2 a3 a4 b0 b1 b2 b3 b4=>show CS.goal (MO a0 a1 a2 a3 a4 b0 b1 b2 b3 b4) ((a0,a1,a2,a3,a4,()),(b0,b1,b2,b3,b4,()),())fromλhin hp=>?_
 dsimp only[CS]at hp ⊢;have hp:(a0,a1,a2,a3,a4,())=(b0,b1,b2,b3,b4,()):=hp;cases hp;unfold MO;simp
theorem aej:OK DX.e:=by
 refine aZ [Ar.e] ⟨ZO,⟨⟩⟩ H0 λa0 a1 b0 b1=>show DX.goal (Po a0 a1 b0 b1) ((a0,a1,()),(b0,b1,()),())fromλhin hp=>?_
 dsimp only[DX]at hp ⊢;have hp:(a0,a1,())=(b0,b1,()):=hp;cases hp;unfold Po;simp
theorem ZQ:OK Au.e:=by
 refine aZ [] ⟨⟩ H0 λa0 a1 b0 b1=>show Au.goal (JZ a0 a1 b0 b1) ((a0,a1,()),(b0,b1,()),())fromλhin hp=>?_
 dsimp only[Au]at hp ⊢;have hp:(a0,a1,())=(b0,b1,()):=hp;cases hp;unfold JZ;simp
theorem Xl:OK yT.e:=by
 refine aZ [Au.e] ⟨ZQ,⟨⟩⟩ ZR λa b=>show yT.goal (Xm a b) (a,b,())fromλhin hp=>?_
 dsimp only[yT]at hp ⊢;obtain rfl:a=b:=hp;exact af (λh=>absurd h (by simp)) λ_=>dW a.length hin.1.1 (λ_=>True) trivial (λI μ n hn _ next=>by dsimp only;exact dB (by omega) ⟨⟨by omega,by omega⟩,⟨by omega,by omega⟩,rfl,rfl,next trivial⟩) λI μ _=>by dsimp only;exact dm (by omega) rfl
theorem ZT:OK Aw.e:=by
 refine aZ [CS.e] ⟨acv,⟨⟩⟩ acw λa b=>show Aw.goal (ZU a b) (a,b,())fromλhin hp=>?_
 dsimp only[Aw]at hp ⊢;obtain rfl:a=b:=hp;exact af (λh=>absurd h (by simp)) λ_=>dW a.length hin.1.1 (λ_=>True) trivial (λI μ n hn _ next=>by dsimp only;exact dB (by omega) ⟨⟨by omega,by omega⟩,⟨by omega,by omega⟩,rfl,rfl,next trivial⟩) λI μ _=>by dsimp only;exact dm (by omega) rfl
theorem MP:OK xB.e:=by
 refine aZ [DX.e] ⟨aej,⟨⟩⟩ aek λa b=>show xB.goal (acy a b) (a,b,())fromλhin hp=>?_
 dsimp only[xB]at hp ⊢;obtain rfl:a=b:=hp;exact af (λh=>absurd h (by simp)) λ_=>dW a.length hin.1.1 (λ_=>True) trivial (λI μ n hn _ next=>by dsimp only;exact dB (by omega) ⟨⟨by omega,by omega⟩,⟨by omega,by omega⟩,rfl,rfl,next trivial⟩) λI μ _=>by dsimp only;exact dm (by omega) rfl
theorem vM:OK jL.e:=by
 refine aZ [] ⟨⟩ ael λa b=>show jL.goal (acz a b) (a,b,())fromλhin hp=>?_
 dsimp only[jL]at hp ⊢;obtain rfl:a=b:=hp;exact af (λh=>absurd h (by simp)) λ_=>dW a.length hin.1.1 (λ_=>True) trivial (λI μ n hn _ next=>by dsimp only;exact dB (by omega) ⟨⟨by omega,by omega⟩,⟨by omega,by omega⟩,af (λh=>absurd h (by simp)) λ_=>⟨rfl,next trivial⟩⟩) λI μ _=>by dsimp only;exact dm (by omega) rfl
theorem Xn:OK yU.e:=by
 refine aZ [jL.e] ⟨vM,⟨⟩⟩ H0 λa0 a1 b0 b1=>show yU.goal (IJ a0 a1 b0 b1) ((a0,a1,()),(b0,b1,()),())fromλhin hp=>?_
 dsimp only[yU]at hp ⊢;have hp:(a0,a1,())=(b0,b1,()):=hp;cases hp;unfold IJ;simp
theorem UM:OK wJ.e:=by
 refine aZ [yU.e] ⟨Xn,⟨⟩⟩ Xo λa b=>show wJ.goal (UN a b) (a,b,())fromλhin hp=>?_
 dsimp only[wJ]at hp ⊢;obtain rfl:a=b:=hp;exact af (λh=>absurd h (by simp)) λ_=>dW a.length hin.1.1 (λ_=>True) trivial (λI μ n hn _ next=>by dsimp only;exact dB (by omega) ⟨⟨by omega,by omega⟩,⟨by omega,by omega⟩,rfl,rfl,next trivial⟩) λI μ _=>by dsimp only;exact dm (by omega) rfl
theorem J3:OK uY.e:=by
 refine aZ [Aw.e,yT.e] ⟨ZT,Xl,⟨⟩⟩ H0 λa0 a1 a2 b0 b1 b2=>show uY.goal (J4 a0 a1 a2 b0 b1 b2) ((a0,a1,a2,()),(b0,b1,b2,()),())fromλhin hp=>?_
 dsimp only[uY]at hp ⊢;have hp:(a0,a1,a2,())=(b0,b1,b2,()):=hp;cases hp;unfold J4;simp
theorem RZ:OK uD.e:=by
 refine aZ [xB.e,uY.e] ⟨MP,J3,⟨⟩⟩ H0 λa0 a1 a2 a3 b0 b1 b2 b3=>show uD.goal (Gi a0 a1 a2 a3 b0 b1 b2 b3) ((a0,a1,a2,a3,()),(b0,b1,b2,b3,()),())fromλhin hp=>?_
 dsimp only[uD]at hp ⊢;have hp:(a0,a1,a2,a3,())=(b0,b1,b2,b3,()):=hp;cases hp;unfold Gi;simp
theorem UO:OK wL.e:=by
 refine aZ [uD.e] ⟨RZ,⟨⟩⟩ H0 λa0 a1 a2 a3 a4 a5 b0 b1 b2 b3 b4 b5=>show wL.goal (Gy a0 a1 a2 a3 a4 a5 b0 b1 b2 b3 b4 b5) ((a0,a1,a2,a3,a4,a5,()),(b0,b1,b2,b3,b4,b5,()),())fromλhin hp=>?_
 dsimp only[wL]at hp ⊢;have hp:(a0,a1,a2,a3,a4,a5,())=(b0,b1,b2,b3,b4,b5,()):=hp;cases hp;unfold Gy;simp
theorem Si:OK uF.e:=by
 refine aZ [wL.e] ⟨UO,⟨⟩⟩ UQ λa b=>show uF.goal (Sj a b) (a,b,())fromλhin hp=>?_
 dsimp only[uF]at hp ⊢;obtain rfl:a=b:=hp;exact af (λh=>absurd h (by simp)) λ_=>dW a.length hin.1.1 (λ_=>True) trivial (λI μ n hn _ next=>by dsimp only;exact dB (by omega) ⟨⟨by omega,by omega⟩,⟨by omega,by omega⟩,rfl,rfl,next trivial⟩) λI μ _=>by dsimp only;exact dm (by omega) rfl
theorem ZV:OK Az.e:=by
 refine aZ [jL.e] ⟨vM,⟨⟩⟩ H0 λa0 a1 a2 b0 b1 b2=>show Az.goal (J5 a0 a1 a2 b0 b1 b2) ((a0,a1,a2,()),(b0,b1,b2,()),())fromλhin hp=>?_
 dsimp only[Az]at hp ⊢;have hp:(a0,a1,a2,())=(b0,b1,b2,()):=hp;cases hp;unfold J5;simp
theorem Xp:OK yV.e:=by
 refine aZ [Az.e] ⟨ZV,⟨⟩⟩ ZW λa b=>show yV.goal (Xq a b) (a,b,())fromλhin hp=>?_
 dsimp only[yV]at hp ⊢;obtain rfl:a=b:=hp;exact af (λh=>absurd h (by simp)) λ_=>dW a.length hin.1.1 (λ_=>True) trivial (λI μ n hn _ next=>by dsimp only;exact dB (by omega) ⟨⟨by omega,by omega⟩,⟨by omega,by omega⟩,rfl,rfl,next trivial⟩) λI μ _=>by dsimp only;exact dm (by omega) rfl
theorem ZX:OK AA.e:=by
 refine aZ [yV.e,jL.e] ⟨Xp,vM,⟨⟩⟩ H0 λa0 a1 a2 a3 b0 b1 b2 b3=>show AA.goal (J6 a0 a1 a2 a3 b0 b1 b2 b3) ((a0,a1,a2,a3,()),(b0,b1,b2,b3,()),())fromλhin hp=>?_
 dsimp only[AA]at hp ⊢;have hp:(a0,a1,a2,a3,())=(b0,b1,b2,b3,()):=hp;cases hp;unfold J6;simp
theorem Xr:OK yX.e:=by
 refine aZ [AA.e] ⟨ZX,⟨⟩⟩ ZY λa b=>show yX.goal (Xt a b) (a,b,())fromλhin hp=>?_
 dsimp only[yX]at hp ⊢;obtain rfl:a=b:=hp;exact af (λh=>absurd h (by simp)) λ_=>dW a.length hin.1.1 (λ_=>True) trivial (λI μ n hn _ next=>by dsimp only;exact dB (by omega) ⟨⟨by omega,by omega⟩,⟨by omega,by omega⟩,rfl,rfl,next trivial⟩) λI μ _=>by dsimp only;exact dm (by omega) rfl
theorem acA:OK CU.e:=by
 refine aZ [] ⟨⟩ H0 λa0 a1 b0 b1=>show CU.goal (MQ a0 a1 b0 b1) ((a0,a1,()),(b0,b1,()),())fromλhin hp=>?_
 dsimp only[CU]at hp ⊢;have hp:(a0,a1,())=(b0,b1,()):=hp;cases hp;unfold MQ;simp
theorem UR:OK wK.e:=by
 refine aZ [wJ.e,xB.e,uY.e] ⟨UM,MP,J3,⟨⟩⟩ H0 λa0 a1 a2 a3 a4 b0 b1 b2 b3 b4=>show wK.goal (Gz a0 a1 a2 a3 a4 b0 b1 b2 b3 b4) ((a0,a1,a2,a3,a4,()),(b0,b1,b2,b3,b4,()),())fromλhin hp=>?_
 dsimp only[wK]at hp ⊢;have hp:(a0,a1,a2,a3,a4,())=(b0,b1,b2,b3,b4,()):=hp;cases hp;unfold Gz;simp
theorem Xu:OK oL.e:=by
 refine aZ [jL.e,yX.e,uF.e,CU.e,wK.e] ⟨vM,Xr,Si,acA,UR,⟨⟩⟩ H0 λa0 a1 a2 a3 a4 a5 a6 a7 a8 a9 a10 b0 b1 b2 b3 b4 b5 b6 b7 b8 b9 b10=>show oL.goal (IK a0 a1 a2 a3 a4 a5 a6 a7 a8 a9 a10 b0 b1 b2 b3 b4 b5 b6 b7 b8 b9 b10) ((a0,a1,a2,a3,a4,a5,a6,a7,a8,a9,a10,()),(b0,b1,b2,b3,b4,b5,b6,b7,b8,b9,b10,()),())fromλhin hp=>?_
 dsimp only[oL]at hp ⊢;have hp:(a0,a1,a2,a3,a4,a5,a6,a7,a8,a9,a10,())=(b0,b1,b2,b3,b4,b5,b6,b7,b8,b9,b10,()):=hp;cases hp;unfold IK;simp
end Go.Proofs.Tryz
namespace Go.Proofs.Tryz
open Go Go.Fw Go.RowKit Sp
set_option maxRecDepth 100000
def Oo(n:Int):Prop:=-9223372036854775808<=n/\n<=9223372036854775807
theorem Sl{k:Int}(h:0<=k/\k<=1000000000):Oo k:=⟨by omega,by omega⟩
abbrev VW(w:World):V:=⟨w,w.heap.size,λ_=>True,λ_=>undef,λ_=>none⟩
theorem acH{w:World}{c:CT}{v:Value}{x:c.den}(h:cZ w.heap (λb=>b<w.heap.size) c v x):cZ w.heap ((VW w).bP false) c v x:=
 cZ.mono (λb hb=>⟨⟨⟨hb,λ_=>trivial,λo x hx=>by cases hx⟩,λe=>by cases e⟩,rfl⟩) _ _ _ h
theorem mF{h:Array Obj}{S:Nat->Prop}{e:TypeId}{r:ak}{v:Value}{l:List r.den}(H:cZ h S (.sl e r) v l):∃a c,v=.slice a l.length c:=by
 rcases H.2 with⟨rfl,a,c,e⟩|⟨b,off,cap,cs,t,fz,e,_⟩
 .exact⟨a,c,e⟩
 .exact⟨_,_,e⟩
theorem DF(k:Int)(hk:0<=k/\k<=1000000000){w:World}(hG:G.ok w):
 Calls prog 62 #[.int .i64 k] w λo w'=>o=.returned (.string ⟨(Sp.markT k).toArray⟩)/\Below w.heap.size w w':=by
 have hcon:ja prog G 62 (nV oH.sh oH.bZ oH.F):=XF.1;refine(hcon [.sv (.one (.int .i64 k))] (0<=k/\k<=1000000000) _ 0 (λ_=>True) #[.int .i64 k] w rfl hk hG ⟨⟨rfl,Sl hk⟩,trivial⟩).mono ?_;rintro e w' ⟨v,vals,rfl,h1,h2,h3,h4,h5,h6,_,_⟩;have h6:v=.string ⟨(Sp.markT k).toArray⟩/\_:=h6;exact⟨by rw[h6.1],h1,h2,h3,h4,h5⟩
end Go.Proofs.Tryz
namespace Go.Proofs.Tryz
open Go Go.Fw Go.RowKit Sp
set_option maxRecDepth 100000
def mg:(Int×Unit)->Nat
 |(_,_)=>1
set_option maxHeartbeats 16000000 in
theorem xJ(W:World)(hG:G.ok W)(P:Nat->Prop)(hP:∀b,P b->G.n<=b)(v:Value)(l:List (Int×Unit))(k:Int)(h:iC W.heap P (.sl aV dn) v l)(hk:0<=k/\k+cnt mg l<=100000000):
 Calls prog 11 #[v,.int .i64 k] W λe w'=>e=.returned (.int .i64 (k+cnt mg l))/\aF P W w':=by
 have mixed:=Tryz.mixed;have hlen:l.length<=100000000:=by have:=vz (f:=mg) (l:=l) λ⟨x0,⟨⟩⟩=>aq7 (show 1<=1 by decide) (show 1<=1 by omega);omega
 have h0:=h;rcases h with⟨rfl,a,c,rfl⟩|⟨b,off,cap,cs,t,fz,rfl,h2,h3,h4,h5,h6⟩
 .clear h0
  go_enter Tryz.func11,Tryz.ntmps11
  go_wp2
  go_loopw [1,5] (λkk i wr=>kk=.int .i64 k/\i=.int .i64 0/\wr=W) (λ_ _ _=>0)
  case atStart=>exact⟨rfl,rfl,rfl⟩
  case round=>
   obtain⟨rfl,rfl,rfl⟩:=hrel
   go_wp2
   all_goals go_ret
   all_goals exact⟨by simp[cnt],aF.refl _ _⟩
 .clear h4 h5 h6
  go_enter Tryz.func11,Tryz.ntmps11
  go_wp2
  go_loopw [1,5] (λkk i wr=>∃(m c:Nat),m<=l.length/\c=cnt mg (l.take m)/\kk=.int .i64 (k+c)/\i=.int .i64 m/\aF P W wr)
   (λ_ i _=>l.length-(intOf i).toNat)
  case atStart=>exact⟨0,0,arw _,rfl,by simp,rfl,aF.refl _ _⟩
  case round=>
   obtain⟨m,c,hm,hc,rfl,rfl,hst⟩:=hrel;rcases ark m l.length with hlt|hge
   .have hlt':((m:Nat):Int)<l.length:=by omega
    obtain⟨⟨x0,⟨⟩⟩,hx⟩:∃x,l[m]? =some x:=⟨_,aq8 hlt⟩;rcases h0.keep hst with⟨rfl,_⟩|⟨b',off',cap',cs',t',fz',e,_,_,k4,k5,k6⟩
    .cases hx
    cases e;obtain⟨s1,s2⟩:=uf mg hx;rw[← hc]at s1 s2;clear hc;obtain⟨c',hc'⟩:∃c',c'=cnt mg (l.take (m+1)):=⟨_,rfl⟩;rw[← hc']at s1;have s1:c'=c+(1):=s1;have s2:c+(1)<=cnt mg l:=s2;have vN:=hst.jr hG hP;obtain⟨u0,_,q,f0,rfl⟩:=k6 m _ hx;have c0:cs'[off+m]? =some u0:=(congrArg (cs'[·]?) (show off+m=off+m*1+0 by omega)).trans (dD q rfl);have d0:wr.cell? ⟨b,off+m,none⟩=some (u0):=(bH k4 _).trans c0;have z0:=iM k4 (k5 _ (aq6.1 c0).1);have zJ:=aF.refl P wr;have nI:=Tok.mk 0;clear q k4 k5 k6 c0 hx h0;have mP:aF P wr (wr.setCell ⟨b,off+m,none⟩ (.int .i64 (k+c))):=zJ.trans (aF.set _ d0 f0 h3 trivial)
    go_wp2
    refine⟨⟨m+1,c',hlt,hc',congrArg _ (by omega),rfl,hst.trans mP⟩,?_⟩;simp only[intOf];omega
   .have hge':¬((m:Nat):Int)<l.length:=by omega
    obtain rfl:m=l.length:=by omega
    rw[arA]at hc;subst hc
    go_wp2
    all_goals go_ret
    all_goals exact⟨rfl,hst⟩
def eY:dH->Nat
 |(_,_,_)=>2
set_option maxHeartbeats 16000000 in
theorem J7(W:World)(hG:G.ok W)(P:Nat->Prop)(hP:∀b,P b->G.n<=b)(v:Value)(l:List dH)(k:Int)(h:iC W.heap P (.sl au bJ) v l)(hk:0<=k/\k+cnt eY l<=100000000):
 Calls prog 60 #[v,.int .i64 k] W λe w'=>e=.returned (.int .i64 (k+cnt eY l))/\aF P W w':=by
 have mixed:=Tryz.mixed;have hlen:l.length<=100000000:=by have:=vz (f:=eY) (l:=l) λ⟨x0,x1,⟨⟩⟩=>aq7 (show 1<=2 by decide) (show 2<=2 by omega);omega
 have h0:=h;rcases h with⟨rfl,a,c,rfl⟩|⟨b,off,cap,cs,t,fz,rfl,h2,h3,h4,h5,h6⟩
 .clear h0
  go_enter Tryz.func60,Tryz.ntmps60
  go_wp2
  go_loopw [1,5] (λkk i wr=>kk=.int .i64 k/\i=.int .i64 0/\wr=W) (λ_ _ _=>0)
  case atStart=>exact⟨rfl,rfl,rfl⟩
  case round=>
   obtain⟨rfl,rfl,rfl⟩:=hrel
   go_wp2
   all_goals go_ret
   all_goals exact⟨by simp[cnt],aF.refl _ _⟩
 .clear h4 h5 h6
  go_enter Tryz.func60,Tryz.ntmps60
  go_wp2
  go_loopw [1,5] (λkk i wr=>∃(m c:Nat),m<=l.length/\c=cnt eY (l.take m)/\kk=.int .i64 (k+c)/\i=.int .i64 m/\aF P W wr)
   (λ_ i _=>l.length-(intOf i).toNat)
  case atStart=>exact⟨0,0,arw _,rfl,by simp,rfl,aF.refl _ _⟩
  case round=>
   obtain⟨m,c,hm,hc,rfl,rfl,hst⟩:=hrel;rcases ark m l.length with hlt|hge
   .have hlt':((m:Nat):Int)<l.length:=by omega
    obtain⟨⟨x0,x1,⟨⟩⟩,hx⟩:∃x,l[m]? =some x:=⟨_,aq8 hlt⟩;rcases h0.keep hst with⟨rfl,_⟩|⟨b',off',cap',cs',t',fz',e,_,_,k4,k5,k6⟩
    .cases hx
    cases e;obtain⟨s1,s2⟩:=uf eY hx;rw[← hc]at s1 s2;clear hc;obtain⟨c',hc'⟩:∃c',c'=cnt eY (l.take (m+1)):=⟨_,rfl⟩;rw[← hc']at s1;have s1:c'=c+(2):=s1;have s2:c+(2)<=cnt eY l:=s2;have vN:=hst.jr hG hP;obtain⟨u0,_,q,f0,u1,_,rfl,f1,rfl⟩:=k6 m _ hx;have c0:cs'[off+m*2]? =some (u0):=dD q (k:=0) rfl;have d0:wr.cell? ⟨b,off+m*2,none⟩=some (u0):=(bH k4 _).trans c0;have z0:=iM k4 (k5 _ (aq6.1 c0).1);have c1:cs'[off+m*2+1]? =some (u1):=dD q (k:=1) rfl;have d1:wr.cell? ⟨b,off+m*2+1,none⟩=some (u1):=(bH k4 _).trans c1;have z1:=iM k4 (k5 _ (aq6.1 c1).1);have zJ:=aF.refl P wr;have nI:=Tok.mk 0;clear q k4 k5 k6 c0 c1 hx h0
    go_wp2_with (first
     |(go_at_call 62;have _:=nI;refine aru (DF (k+c) (by omega) (zJ.jr vN hP)) ?_;rintro e w1 ⟨rfl,hb1⟩;have mP:=zJ.trans (aF.of (P:=P) hb1);clear nI;have tk1:=Tok.mk 1;obtain⟨y0,D0,g0⟩:=mP.jq d0 f0;have Z0:=mP.fz d0 z0;have mr:aF P wr (w1.setCell ⟨b,off+m*2,none⟩ (.string ⟨(Sp.markT (k+c)).toArray⟩)):=mP.trans (aF.set _ D0 g0 h3 trivial);obtain⟨y1,D1,g1⟩:=mr.jq d1 f1;have Z1:=mr.fz d1 z1;have vO:aF P wr ((w1.setCell ⟨b,off+m*2,none⟩ (.string ⟨(Sp.markT (k+c)).toArray⟩)).setCell ⟨b,off+m*2+1,none⟩ (.int .i64 (k+c+1))):=mr.trans (aF.set _ D1 g1 h3 trivial)))
    refine⟨⟨m+1,c',hlt,hc',congrArg _ (by omega),rfl,hst.trans vO⟩,?_⟩;simp only[intOf];omega
   .have hge':¬((m:Nat):Int)<l.length:=by omega
    obtain rfl:m=l.length:=by omega
    rw[arA]at hc;subst hc
    go_wp2
    all_goals go_ret
    all_goals exact⟨rfl,hst⟩
def EC:dK->Nat
 |(_,_,_,_,_)=>4
set_option maxHeartbeats 16000000 in
theorem acI(W:World)(hG:G.ok W)(P:Nat->Prop)(hP:∀b,P b->G.n<=b)(v:Value)(l:List dK)(k:Int)(h:iC W.heap P (.sl bK iE) v l)(hk:0<=k/\k+cnt EC l<=100000000):
 Calls prog 98 #[v,.int .i64 k] W λe w'=>e=.returned (.int .i64 (k+cnt EC l))/\aF P W w':=by
 have mixed:=Tryz.mixed;have hlen:l.length<=100000000:=by have:=vz (f:=EC) (l:=l) λ⟨x0,x1,x2,x3,⟨⟩⟩=>aq7 (show 1<=4 by decide) (show 4<=4 by omega);omega
 have h0:=h;rcases h with⟨rfl,a,c,rfl⟩|⟨b,off,cap,cs,t,fz,rfl,h2,h3,h4,h5,h6⟩
 .clear h0
  go_enter Tryz.func98,Tryz.ntmps98
  go_wp2
  go_loopw [1,5] (λkk i wr=>kk=.int .i64 k/\i=.int .i64 0/\wr=W) (λ_ _ _=>0)
  case atStart=>exact⟨rfl,rfl,rfl⟩
  case round=>
   obtain⟨rfl,rfl,rfl⟩:=hrel
   go_wp2
   all_goals go_ret
   all_goals exact⟨by simp[cnt],aF.refl _ _⟩
 .clear h4 h5 h6
  go_enter Tryz.func98,Tryz.ntmps98
  go_wp2
  go_loopw [1,5] (λkk i wr=>∃(m c:Nat),m<=l.length/\c=cnt EC (l.take m)/\kk=.int .i64 (k+c)/\i=.int .i64 m/\aF P W wr)
   (λ_ i _=>l.length-(intOf i).toNat)
  case atStart=>exact⟨0,0,arw _,rfl,by simp,rfl,aF.refl _ _⟩
  case round=>
   obtain⟨m,c,hm,hc,rfl,rfl,hst⟩:=hrel;rcases ark m l.length with hlt|hge
   .have hlt':((m:Nat):Int)<l.length:=by omega
    obtain⟨⟨x0,x1,x2,x3,⟨⟩⟩,hx⟩:∃x,l[m]? =some x:=⟨_,aq8 hlt⟩;rcases h0.keep hst with⟨rfl,_⟩|⟨b',off',cap',cs',t',fz',e,_,_,k4,k5,k6⟩
    .cases hx
    cases e;obtain⟨s1,s2⟩:=uf EC hx;rw[← hc]at s1 s2;clear hc;obtain⟨c',hc'⟩:∃c',c'=cnt EC (l.take (m+1)):=⟨_,rfl⟩;rw[← hc']at s1;have s1:c'=c+(4):=s1;have s2:c+(4)<=cnt EC l:=s2;have vN:=hst.jr hG hP;obtain⟨u0,_,q,f0,u1,_,rfl,f1,u2,_,rfl,f2,u3,_,rfl,f3,rfl⟩:=k6 m _ hx;have c0:cs'[off+m*4]? =some (u0):=dD q (k:=0) rfl;have d0:wr.cell? ⟨b,off+m*4,none⟩=some (u0):=(bH k4 _).trans c0;have z0:=iM k4 (k5 _ (aq6.1 c0).1);have c1:cs'[off+m*4+1]? =some (u1):=dD q (k:=1) rfl;have d1:wr.cell? ⟨b,off+m*4+1,none⟩=some (u1):=(bH k4 _).trans c1;have z1:=iM k4 (k5 _ (aq6.1 c1).1);have c2:cs'[off+m*4+2]? =some (u2):=dD q (k:=2) rfl;have d2:wr.cell? ⟨b,off+m*4+2,none⟩=some (u2):=(bH k4 _).trans c2;have z2:=iM k4 (k5 _ (aq6.1 c2).1);have c3:cs'[off+m*4+3]? =some (u3):=dD q (k:=3) rfl;have d3:wr.cell? ⟨b,off+m*4+3,none⟩=some (u3):=(bH k4 _).trans c3;have z3:=iM k4 (k5 _ (aq6.1 c3).1);have zJ:=aF.refl P wr;have nI:=Tok.mk 0;clear q k4 k5 k6 c0 c1 c2 c3 hx h0
    go_wp2_with (first
     |(go_at_call 62;have _:=nI;refine aru (DF (k+c) (by omega) (zJ.jr vN hP)) ?_;rintro e w1 ⟨rfl,hb1⟩;have mP:=zJ.trans (aF.of (P:=P) hb1);clear nI;have tk1:=Tok.mk 1;obtain⟨y0,D0,g0⟩:=mP.jq d0 f0;have Z0:=mP.fz d0 z0;have mr:aF P wr (w1.setCell ⟨b,off+m*4,none⟩ (.string ⟨(Sp.markT (k+c)).toArray⟩)):=mP.trans (aF.set _ D0 g0 h3 trivial);obtain⟨y1,D1,g1⟩:=mr.jq d1 f1;have Z1:=mr.fz d1 z1;have vO:aF P wr ((w1.setCell ⟨b,off+m*4,none⟩ (.string ⟨(Sp.markT (k+c)).toArray⟩)).setCell ⟨b,off+m*4+1,none⟩ (.int .i64 (k+c+1))):=mr.trans (aF.set _ D1 g1 h3 trivial);obtain⟨y2,D2,g2⟩:=vO.jq d2 f2;have Z2:=vO.fz d2 z2;have BN:aF P wr (((w1.setCell ⟨b,off+m*4,none⟩ (.string ⟨(Sp.markT (k+c)).toArray⟩)).setCell ⟨b,off+m*4+1,none⟩ (.int .i64 (k+c+1))).setCell ⟨b,off+m*4+2,none⟩ (.int .i64 (k+c+1+1))):=vO.trans (aF.set _ D2 g2 h3 trivial))
     |(go_at_call 62;have _:=tk1;refine aru (DF (k+c+1+1+1) (by omega) (BN.jr vN hP)) ?_;rintro e w2 ⟨rfl,hb2⟩;have IX:=BN.trans (aF.of (P:=P) hb2);clear tk1;have tk2:=Tok.mk 2;obtain⟨y3,D3,g3⟩:=IX.jq d3 f3;have Z3:=IX.fz d3 z3;have sx6:aF P wr (w2.setCell ⟨b,off+m*4+3,none⟩ (.string ⟨(Sp.markT (k+c+1+1+1)).toArray⟩)):=IX.trans (aF.set _ D3 g3 h3 trivial)))
    refine⟨⟨m+1,c',hlt,hc',congrArg _ (by omega),rfl,hst.trans sx6⟩,?_⟩;simp only[intOf];omega
   .have hge':¬((m:Nat):Int)<l.length:=by omega
    obtain rfl:m=l.length:=by omega
    rw[arA]at hc;subst hc
    go_wp2
    all_goals go_ret
    all_goals exact⟨rfl,hst⟩
def fE:ay->Nat
 |(_,_,_,_,x4,_)=>4+cnt EC x4
set_option maxHeartbeats 16000000 in
theorem MR(W:World)(hG:G.ok W)(P:Nat->Prop)(hP:∀b,P b->G.n<=b)(v:Value)(l:List ay)(k:Int)(h:iC W.heap P (.sl aA aQ) v l)(hk:0<=k/\k+cnt fE l<=100000000):
 Calls prog 61 #[v,.int .i64 k] W λe w'=>e=.returned (.int .i64 (k+cnt fE l))/\aF P W w':=by
 have mixed:=Tryz.mixed;have hlen:l.length<=100000000:=by have:=vz (f:=fE) (l:=l) λ⟨x0,x1,x2,x3,x4,⟨⟩⟩=>aq7 (show 1<=4 by decide) (show 4<=4+cnt EC x4 by omega);omega
 have h0:=h;rcases h with⟨rfl,a,c,rfl⟩|⟨b,off,cap,cs,t,fz,rfl,h2,h3,h4,h5,h6⟩
 .clear h0
  go_enter Tryz.func61,Tryz.ntmps61
  go_wp2
  go_loopw [1,5] (λkk i wr=>kk=.int .i64 k/\i=.int .i64 0/\wr=W) (λ_ _ _=>0)
  case atStart=>exact⟨rfl,rfl,rfl⟩
  case round=>
   obtain⟨rfl,rfl,rfl⟩:=hrel
   go_wp2
   all_goals go_ret
   all_goals exact⟨by simp[cnt],aF.refl _ _⟩
 .clear h4 h5 h6
  go_enter Tryz.func61,Tryz.ntmps61
  go_wp2
  go_loopw [1,5] (λkk i wr=>∃(m c:Nat),m<=l.length/\c=cnt fE (l.take m)/\kk=.int .i64 (k+c)/\i=.int .i64 m/\aF P W wr)
   (λ_ i _=>l.length-(intOf i).toNat)
  case atStart=>exact⟨0,0,arw _,rfl,by simp,rfl,aF.refl _ _⟩
  case round=>
   obtain⟨m,c,hm,hc,rfl,rfl,hst⟩:=hrel;rcases ark m l.length with hlt|hge
   .have hlt':((m:Nat):Int)<l.length:=by omega
    obtain⟨⟨x0,x1,x2,x3,x4,⟨⟩⟩,hx⟩:∃x,l[m]? =some x:=⟨_,aq8 hlt⟩;rcases h0.keep hst with⟨rfl,_⟩|⟨b',off',cap',cs',t',fz',e,_,_,k4,k5,k6⟩
    .cases hx
    cases e;obtain⟨s1,s2⟩:=uf fE hx;rw[← hc]at s1 s2;clear hc;obtain⟨c',hc'⟩:∃c',c'=cnt fE (l.take (m+1)):=⟨_,rfl⟩;rw[← hc']at s1;have s1:c'=c+(4+cnt EC x4):=s1;have s2:c+(4+cnt EC x4)<=cnt fE l:=s2;have vN:=hst.jr hG hP;obtain⟨n4,hn4⟩:∃n,n=cnt EC x4:=⟨_,rfl⟩;rw[← hn4]at s1 s2;obtain⟨u0,_,q,f0,u1,_,rfl,f1,u2,_,rfl,f2,u3,_,rfl,f3,u4,_,rfl,f4,rfl⟩:=k6 m _ hx;obtain⟨a4,p4,rfl⟩:=f4.form;have c0:cs'[off+m*5]? =some (u0):=dD q (k:=0) rfl;have d0:wr.cell? ⟨b,off+m*5,none⟩=some (u0):=(bH k4 _).trans c0;have z0:=iM k4 (k5 _ (aq6.1 c0).1);have c1:cs'[off+m*5+1]? =some (u1):=dD q (k:=1) rfl;have d1:wr.cell? ⟨b,off+m*5+1,none⟩=some (u1):=(bH k4 _).trans c1;have z1:=iM k4 (k5 _ (aq6.1 c1).1);have c2:cs'[off+m*5+2]? =some (u2):=dD q (k:=2) rfl;have d2:wr.cell? ⟨b,off+m*5+2,none⟩=some (u2):=(bH k4 _).trans c2;have z2:=iM k4 (k5 _ (aq6.1 c2).1);have c3:cs'[off+m*5+3]? =some (u3):=dD q (k:=3) rfl;have d3:wr.cell? ⟨b,off+m*5+3,none⟩=some (u3):=(bH k4 _).trans c3;have z3:=iM k4 (k5 _ (aq6.1 c3).1);have c4:cs'[off+m*5+4]? =some (.slice a4 x4.length p4):=dD q (k:=4) rfl;have d4:wr.cell? ⟨b,off+m*5+4,none⟩=some (.slice a4 x4.length p4):=(bH k4 _).trans c4;have C4:∀(w:World)(E:Int),G.ok w->iC w.heap P (.sl bK iE) (.slice a4 x4.length p4) x4->0<=E/\E+n4<=100000000->Calls prog 98 #[.slice a4 x4.length p4,.int .i64 E] w λe w'=>e=.returned (.int .i64 (E+n4))/\aF P w w':=by intro w E g s h;rw[hn4]at h ⊢;exact acI w g P hP _ _ E s h
    clear hn4;have zJ:=aF.refl P wr;have nI:=Tok.mk 0;clear q k4 k5 k6 c0 c1 c2 c3 c4 hx h0;have mP:aF P wr (wr.setCell ⟨b,off+m*5,none⟩ (.int .i64 (k+c))):=zJ.trans (aF.set _ d0 f0 h3 trivial);obtain⟨y1,D1,g1⟩:=mP.jq d1 f1;have Z1:=mP.fz d1 z1;have mr:aF P wr ((wr.setCell ⟨b,off+m*5,none⟩ (.int .i64 (k+c))).setCell ⟨b,off+m*5+1,none⟩ (.int .i64 (k+c+1))):=mP.trans (aF.set _ D1 g1 h3 trivial);obtain⟨y2,D2,g2⟩:=mr.jq d2 f2;have Z2:=mr.fz d2 z2;have vO:aF P wr (((wr.setCell ⟨b,off+m*5,none⟩ (.int .i64 (k+c))).setCell ⟨b,off+m*5+1,none⟩ (.int .i64 (k+c+1))).setCell ⟨b,off+m*5+2,none⟩ (.bool ((k+c+1+1)%3==0))):=mr.trans (aF.set _ D2 g2 h3 trivial);obtain⟨y3,D3,g3⟩:=vO.jq d3 f3;have Z3:=vO.fz d3 z3;have BN:aF P wr ((((wr.setCell ⟨b,off+m*5,none⟩ (.int .i64 (k+c))).setCell ⟨b,off+m*5+1,none⟩ (.int .i64 (k+c+1))).setCell ⟨b,off+m*5+2,none⟩ (.bool ((k+c+1+1)%3==0))).setCell ⟨b,off+m*5+3,none⟩ (.int .i64 (k+c+1+1+1))):=vO.trans (aF.set _ D3 g3 h3 trivial);have D4:=BN.slice d4
    go_wp2_with (first
     |(go_at_call 98;have _:=nI;refine aru (C4 ((((wr.setCell ⟨b,off+m*5,none⟩ (.int .i64 (k+c))).setCell ⟨b,off+m*5+1,none⟩ (.int .i64 (k+c+1))).setCell ⟨b,off+m*5+2,none⟩ (.bool ((k+c+1+1)%3==0))).setCell ⟨b,off+m*5+3,none⟩ (.int .i64 (k+c+1+1+1))) (k+c+1+1+1+1) (BN.jr vN hP) (f4.keep BN) (by omega)) ?_;rintro e w1 ⟨rfl,s1'⟩;have IX:=BN.trans s1';clear nI;have tk1:=Tok.mk 1))
    refine⟨⟨m+1,c',hlt,hc',congrArg _ (by omega),rfl,hst.trans IX⟩,?_⟩;simp only[intOf];omega
   .have hge':¬((m:Nat):Int)<l.length:=by omega
    obtain rfl:m=l.length:=by omega
    rw[arA]at hc;subst hc
    go_wp2
    all_goals go_ret
    all_goals exact⟨rfl,hst⟩
def zf:aT->Nat
 |(_,_,_,_,_,_,_,_)=>7
set_option maxHeartbeats 16000000 in
theorem acJ(W:World)(hG:G.ok W)(P:Nat->Prop)(hP:∀b,P b->G.n<=b)(v:Value)(l:List aT)(k:Int)(h:iC W.heap P (.sl bg fU) v l)(hk:0<=k/\k+cnt zf l<=100000000):
 Calls prog 97 #[v,.int .i64 k] W λe w'=>e=.returned (.int .i64 (k+cnt zf l))/\aF P W w':=by
 have mixed:=Tryz.mixed;have hlen:l.length<=100000000:=by have:=vz (f:=zf) (l:=l) λ⟨x0,x1,x2,x3,x4,x5,x6,⟨⟩⟩=>aq7 (show 1<=7 by decide) (show 7<=7 by omega);omega
 have h0:=h;rcases h with⟨rfl,a,c,rfl⟩|⟨b,off,cap,cs,t,fz,rfl,h2,h3,h4,h5,h6⟩
 .clear h0
  go_enter Tryz.func97,Tryz.ntmps97
  go_wp2
  go_loopw [1,5] (λkk i wr=>kk=.int .i64 k/\i=.int .i64 0/\wr=W) (λ_ _ _=>0)
  case atStart=>exact⟨rfl,rfl,rfl⟩
  case round=>
   obtain⟨rfl,rfl,rfl⟩:=hrel
   go_wp2
   all_goals go_ret
   all_goals exact⟨by simp[cnt],aF.refl _ _⟩
 .clear h4 h5 h6
  go_enter Tryz.func97,Tryz.ntmps97
  go_wp2
  go_loopw [1,5] (λkk i wr=>∃(m c:Nat),m<=l.length/\c=cnt zf (l.take m)/\kk=.int .i64 (k+c)/\i=.int .i64 m/\aF P W wr)
   (λ_ i _=>l.length-(intOf i).toNat)
  case atStart=>exact⟨0,0,arw _,rfl,by simp,rfl,aF.refl _ _⟩
  case round=>
   obtain⟨m,c,hm,hc,rfl,rfl,hst⟩:=hrel;rcases ark m l.length with hlt|hge
   .have hlt':((m:Nat):Int)<l.length:=by omega
    obtain⟨⟨x0,x1,x2,x3,x4,x5,x6,⟨⟩⟩,hx⟩:∃x,l[m]? =some x:=⟨_,aq8 hlt⟩;rcases h0.keep hst with⟨rfl,_⟩|⟨b',off',cap',cs',t',fz',e,_,_,k4,k5,k6⟩
    .cases hx
    cases e;obtain⟨s1,s2⟩:=uf zf hx;rw[← hc]at s1 s2;clear hc;obtain⟨c',hc'⟩:∃c',c'=cnt zf (l.take (m+1)):=⟨_,rfl⟩;rw[← hc']at s1;have s1:c'=c+(7):=s1;have s2:c+(7)<=cnt zf l:=s2;have vN:=hst.jr hG hP;obtain⟨u0,_,q,f0,u1,_,rfl,f1,u2,_,rfl,f2,u3,_,rfl,f3,u4,_,rfl,f4,u5,_,rfl,f5,u6,_,rfl,f6,rfl⟩:=k6 m _ hx;have c0:cs'[off+m*7]? =some (u0):=dD q (k:=0) rfl;have d0:wr.cell? ⟨b,off+m*7,none⟩=some (u0):=(bH k4 _).trans c0;have z0:=iM k4 (k5 _ (aq6.1 c0).1);have c1:cs'[off+m*7+1]? =some (u1):=dD q (k:=1) rfl;have d1:wr.cell? ⟨b,off+m*7+1,none⟩=some (u1):=(bH k4 _).trans c1;have z1:=iM k4 (k5 _ (aq6.1 c1).1);have c2:cs'[off+m*7+2]? =some (u2):=dD q (k:=2) rfl;have d2:wr.cell? ⟨b,off+m*7+2,none⟩=some (u2):=(bH k4 _).trans c2;have z2:=iM k4 (k5 _ (aq6.1 c2).1);have c3:cs'[off+m*7+3]? =some (u3):=dD q (k:=3) rfl;have d3:wr.cell? ⟨b,off+m*7+3,none⟩=some (u3):=(bH k4 _).trans c3;have z3:=iM k4 (k5 _ (aq6.1 c3).1);have c4:cs'[off+m*7+4]? =some (u4):=dD q (k:=4) rfl;have d4:wr.cell? ⟨b,off+m*7+4,none⟩=some (u4):=(bH k4 _).trans c4;have z4:=iM k4 (k5 _ (aq6.1 c4).1);have c5:cs'[off+m*7+5]? =some (u5):=dD q (k:=5) rfl;have d5:wr.cell? ⟨b,off+m*7+5,none⟩=some (u5):=(bH k4 _).trans c5;have z5:=iM k4 (k5 _ (aq6.1 c5).1);have c6:cs'[off+m*7+6]? =some (u6):=dD q (k:=6) rfl;have d6:wr.cell? ⟨b,off+m*7+6,none⟩=some (u6):=(bH k4 _).trans c6;have z6:=iM k4 (k5 _ (aq6.1 c6).1);have zJ:=aF.refl P wr;have nI:=Tok.mk 0;clear q k4 k5 k6 c0 c1 c2 c3 c4 c5 c6 hx h0;have mP:aF P wr (wr.setCell ⟨b,off+m*7,none⟩ (.int .i64 (k+c))):=zJ.trans (aF.set _ d0 f0 h3 trivial);obtain⟨y1,D1,g1⟩:=mP.jq d1 f1;have Z1:=mP.fz d1 z1;have mr:aF P wr ((wr.setCell ⟨b,off+m*7,none⟩ (.int .i64 (k+c))).setCell ⟨b,off+m*7+1,none⟩ (.int .i64 (k+c+1))):=mP.trans (aF.set _ D1 g1 h3 trivial);obtain⟨y2,D2,g2⟩:=mr.jq d2 f2;have Z2:=mr.fz d2 z2;have vO:aF P wr (((wr.setCell ⟨b,off+m*7,none⟩ (.int .i64 (k+c))).setCell ⟨b,off+m*7+1,none⟩ (.int .i64 (k+c+1))).setCell ⟨b,off+m*7+2,none⟩ (.int .i64 (k+c+1+1))):=mr.trans (aF.set _ D2 g2 h3 trivial)
    go_wp2_with (first
     |(go_at_call 62;have _:=nI;refine aru (DF (k+c+1+1+1) (by omega) (vO.jr vN hP)) ?_;rintro e w1 ⟨rfl,hb1⟩;have BN:=vO.trans (aF.of (P:=P) hb1);clear nI;have tk1:=Tok.mk 1;obtain⟨y3,D3,g3⟩:=BN.jq d3 f3;have Z3:=BN.fz d3 z3;have IX:aF P wr (w1.setCell ⟨b,off+m*7+3,none⟩ (.string ⟨(Sp.markT (k+c+1+1+1)).toArray⟩)):=BN.trans (aF.set _ D3 g3 h3 trivial);obtain⟨y4,D4,g4⟩:=IX.jq d4 f4;have Z4:=IX.fz d4 z4;have sx6:aF P wr ((w1.setCell ⟨b,off+m*7+3,none⟩ (.string ⟨(Sp.markT (k+c+1+1+1)).toArray⟩)).setCell ⟨b,off+m*7+4,none⟩ (.int .i64 (k+c+1+1+1+1))):=IX.trans (aF.set _ D4 g4 h3 trivial);obtain⟨y5,D5,g5⟩:=sx6.jq d5 f5;have Z5:=sx6.fz d5 z5;have sx7:aF P wr (((w1.setCell ⟨b,off+m*7+3,none⟩ (.string ⟨(Sp.markT (k+c+1+1+1)).toArray⟩)).setCell ⟨b,off+m*7+4,none⟩ (.int .i64 (k+c+1+1+1+1))).setCell ⟨b,off+m*7+5,none⟩ (.int .i64 (k+c+1+1+1+1+1))):=sx6.trans (aF.set _ D5 g5 h3 trivial))
     |(go_at_call 62;have _:=tk1;refine aru (DF (k+c+1+1+1+1+1+1) (by omega) (sx7.jr vN hP)) ?_;rintro e w2 ⟨rfl,hb2⟩;have sx8:=sx7.trans (aF.of (P:=P) hb2);clear tk1;have tk2:=Tok.mk 2;obtain⟨y6,D6,g6⟩:=sx8.jq d6 f6;have Z6:=sx8.fz d6 z6;have sx9:aF P wr (w2.setCell ⟨b,off+m*7+6,none⟩ (.string ⟨(Sp.markT (k+c+1+1+1+1+1+1)).toArray⟩)):=sx8.trans (aF.set _ D6 g6 h3 trivial)))
    refine⟨⟨m+1,c',hlt,hc',congrArg _ (by omega),rfl,hst.trans sx9⟩,?_⟩;simp only[intOf];omega
   .have hge':¬((m:Nat):Int)<l.length:=by omega
    obtain rfl:m=l.length:=by omega
    rw[arA]at hc;subst hc
    go_wp2
    all_goals go_ret
    all_goals exact⟨rfl,hst⟩
def gY:aC->Nat
 |(_,x1,_)=>1+cnt zf x1
set_option maxHeartbeats 16000000 in
theorem Pq(W:World)(hG:G.ok W)(P:Nat->Prop)(hP:∀b,P b->G.n<=b)(v:Value)(l:List aC)(k:Int)(h:iC W.heap P (.sl aI aY) v l)(hk:0<=k/\k+cnt gY l<=100000000):
 Calls prog 58 #[v,.int .i64 k] W λe w'=>e=.returned (.int .i64 (k+cnt gY l))/\aF P W w':=by
 have mixed:=Tryz.mixed;have hlen:l.length<=100000000:=by have:=vz (f:=gY) (l:=l) λ⟨x0,x1,⟨⟩⟩=>aq7 (show 1<=1 by decide) (show 1<=1+cnt zf x1 by omega);omega
 have h0:=h;rcases h with⟨rfl,a,c,rfl⟩|⟨b,off,cap,cs,t,fz,rfl,h2,h3,h4,h5,h6⟩
 .clear h0
  go_enter Tryz.func58,Tryz.ntmps58
  go_wp2
  go_loopw [1,5] (λkk i wr=>kk=.int .i64 k/\i=.int .i64 0/\wr=W) (λ_ _ _=>0)
  case atStart=>exact⟨rfl,rfl,rfl⟩
  case round=>
   obtain⟨rfl,rfl,rfl⟩:=hrel
   go_wp2
   all_goals go_ret
   all_goals exact⟨by simp[cnt],aF.refl _ _⟩
 .clear h4 h5 h6
  go_enter Tryz.func58,Tryz.ntmps58
  go_wp2
  go_loopw [1,5] (λkk i wr=>∃(m c:Nat),m<=l.length/\c=cnt gY (l.take m)/\kk=.int .i64 (k+c)/\i=.int .i64 m/\aF P W wr)
   (λ_ i _=>l.length-(intOf i).toNat)
  case atStart=>exact⟨0,0,arw _,rfl,by simp,rfl,aF.refl _ _⟩
  case round=>
   obtain⟨m,c,hm,hc,rfl,rfl,hst⟩:=hrel;rcases ark m l.length with hlt|hge
   .have hlt':((m:Nat):Int)<l.length:=by omega
    obtain⟨⟨x0,x1,⟨⟩⟩,hx⟩:∃x,l[m]? =some x:=⟨_,aq8 hlt⟩;rcases h0.keep hst with⟨rfl,_⟩|⟨b',off',cap',cs',t',fz',e,_,_,k4,k5,k6⟩
    .cases hx
    cases e;obtain⟨s1,s2⟩:=uf gY hx;rw[← hc]at s1 s2;clear hc;obtain⟨c',hc'⟩:∃c',c'=cnt gY (l.take (m+1)):=⟨_,rfl⟩;rw[← hc']at s1;have s1:c'=c+(1+cnt zf x1):=s1;have s2:c+(1+cnt zf x1)<=cnt gY l:=s2;have vN:=hst.jr hG hP;obtain⟨n1,hn1⟩:∃n,n=cnt zf x1:=⟨_,rfl⟩;rw[← hn1]at s1 s2;obtain⟨u0,_,q,f0,u1,_,rfl,f1,rfl⟩:=k6 m _ hx;obtain⟨a1,p1,rfl⟩:=f1.form;have c0:cs'[off+m*2]? =some (u0):=dD q (k:=0) rfl;have d0:wr.cell? ⟨b,off+m*2,none⟩=some (u0):=(bH k4 _).trans c0;have z0:=iM k4 (k5 _ (aq6.1 c0).1);have c1:cs'[off+m*2+1]? =some (.slice a1 x1.length p1):=dD q (k:=1) rfl;have d1:wr.cell? ⟨b,off+m*2+1,none⟩=some (.slice a1 x1.length p1):=(bH k4 _).trans c1;have C1:∀(w:World)(E:Int),G.ok w->iC w.heap P (.sl bg fU) (.slice a1 x1.length p1) x1->0<=E/\E+n1<=100000000->Calls prog 97 #[.slice a1 x1.length p1,.int .i64 E] w λe w'=>e=.returned (.int .i64 (E+n1))/\aF P w w':=by intro w E g s h;rw[hn1]at h ⊢;exact acJ w g P hP _ _ E s h
    clear hn1;have zJ:=aF.refl P wr;have nI:=Tok.mk 0;clear q k4 k5 k6 c0 c1 hx h0
    go_wp2_with (first
     |(go_at_call 62;have _:=nI;refine aru (DF (k+c) (by omega) (zJ.jr vN hP)) ?_;rintro e w1 ⟨rfl,hb1⟩;have mP:=zJ.trans (aF.of (P:=P) hb1);clear nI;have tk1:=Tok.mk 1;obtain⟨y0,D0,g0⟩:=mP.jq d0 f0;have Z0:=mP.fz d0 z0;have mr:aF P wr (w1.setCell ⟨b,off+m*2,none⟩ (.string ⟨(Sp.markT (k+c)).toArray⟩)):=mP.trans (aF.set _ D0 g0 h3 trivial);have D1:=mr.slice d1)
     |(go_at_call 97;have _:=tk1;refine aru (C1 (w1.setCell ⟨b,off+m*2,none⟩ (.string ⟨(Sp.markT (k+c)).toArray⟩)) (k+c+1) (mr.jr vN hP) (f1.keep mr) (by omega)) ?_;rintro e w2 ⟨rfl,s2'⟩;have vO:=mr.trans s2';clear tk1;have tk2:=Tok.mk 2))
    refine⟨⟨m+1,c',hlt,hc',congrArg _ (by omega),rfl,hst.trans vO⟩,?_⟩;simp only[intOf];omega
   .have hge':¬((m:Nat):Int)<l.length:=by omega
    obtain rfl:m=l.length:=by omega
    rw[arA]at hc;subst hc
    go_wp2
    all_goals go_ret
    all_goals exact⟨rfl,hst⟩
end Go.Proofs.Tryz
namespace Go.Proofs.Tryz
open Go Go.Fw Go.RowKit Sp
set_option maxRecDepth 100000
def jW:bM->Nat
 |(_,x1,_)=>1+cnt mg x1
set_option maxHeartbeats 16000000 in
theorem XJ(W:World)(hG:G.ok W)(P:Nat->Prop)(hP:∀b,P b->G.n<=b)(v:Value)(l:List bM)(k:Int)(h:iC W.heap P (.sl aS fV) v l)(hk:0<=k/\k+cnt jW l<=100000000):
 Calls prog 59 #[v,.int .i64 k] W λe w'=>e=.returned (.int .i64 (k+cnt jW l))/\aF P W w':=by
 have mixed:=Tryz.mixed;have hlen:l.length<=100000000:=by have:=vz (f:=jW) (l:=l) λ⟨x0,x1,⟨⟩⟩=>aq7 (show 1<=1 by decide) (show 1<=1+cnt mg x1 by omega);omega
 have h0:=h;rcases h with⟨rfl,a,c,rfl⟩|⟨b,off,cap,cs,t,fz,rfl,h2,h3,h4,h5,h6⟩
 .clear h0
  go_enter Tryz.func59,Tryz.ntmps59
  go_wp2
  go_loopw [1,5] (λkk i wr=>kk=.int .i64 k/\i=.int .i64 0/\wr=W) (λ_ _ _=>0)
  case atStart=>exact⟨rfl,rfl,rfl⟩
  case round=>
   obtain⟨rfl,rfl,rfl⟩:=hrel
   go_wp2
   all_goals go_ret
   all_goals exact⟨by simp[cnt],aF.refl _ _⟩
 .clear h4 h5 h6
  go_enter Tryz.func59,Tryz.ntmps59
  go_wp2
  go_loopw [1,5] (λkk i wr=>∃(m c:Nat),m<=l.length/\c=cnt jW (l.take m)/\kk=.int .i64 (k+c)/\i=.int .i64 m/\aF P W wr)
   (λ_ i _=>l.length-(intOf i).toNat)
  case atStart=>exact⟨0,0,arw _,rfl,by simp,rfl,aF.refl _ _⟩
  case round=>
   obtain⟨m,c,hm,hc,rfl,rfl,hst⟩:=hrel;rcases ark m l.length with hlt|hge
   .have hlt':((m:Nat):Int)<l.length:=by omega
    obtain⟨⟨x0,x1,⟨⟩⟩,hx⟩:∃x,l[m]? =some x:=⟨_,aq8 hlt⟩;rcases h0.keep hst with⟨rfl,_⟩|⟨b',off',cap',cs',t',fz',e,_,_,k4,k5,k6⟩
    .cases hx
    cases e;obtain⟨s1,s2⟩:=uf jW hx;rw[← hc]at s1 s2;clear hc;obtain⟨c',hc'⟩:∃c',c'=cnt jW (l.take (m+1)):=⟨_,rfl⟩;rw[← hc']at s1;have s1:c'=c+(1+cnt mg x1):=s1;have s2:c+(1+cnt mg x1)<=cnt jW l:=s2;have vN:=hst.jr hG hP;obtain⟨n1,hn1⟩:∃n,n=cnt mg x1:=⟨_,rfl⟩;rw[← hn1]at s1 s2;obtain⟨u0,_,q,f0,u1,_,rfl,f1,rfl⟩:=k6 m _ hx;obtain⟨a1,p1,rfl⟩:=f1.form;have c0:cs'[off+m*2]? =some (u0):=dD q (k:=0) rfl;have d0:wr.cell? ⟨b,off+m*2,none⟩=some (u0):=(bH k4 _).trans c0;have z0:=iM k4 (k5 _ (aq6.1 c0).1);have c1:cs'[off+m*2+1]? =some (.slice a1 x1.length p1):=dD q (k:=1) rfl;have d1:wr.cell? ⟨b,off+m*2+1,none⟩=some (.slice a1 x1.length p1):=(bH k4 _).trans c1;have C1:∀(w:World)(E:Int),G.ok w->iC w.heap P (.sl aV dn) (.slice a1 x1.length p1) x1->0<=E/\E+n1<=100000000->Calls prog 11 #[.slice a1 x1.length p1,.int .i64 E] w λe w'=>e=.returned (.int .i64 (E+n1))/\aF P w w':=by intro w E g s h;rw[hn1]at h ⊢;exact xJ w g P hP _ _ E s h
    clear hn1;have zJ:=aF.refl P wr;have nI:=Tok.mk 0;clear q k4 k5 k6 c0 c1 hx h0
    go_wp2_with (first
     |(go_at_call 62;have _:=nI;refine aru (DF (k+c) (by omega) (zJ.jr vN hP)) ?_;rintro e w1 ⟨rfl,hb1⟩;have mP:=zJ.trans (aF.of (P:=P) hb1);clear nI;have tk1:=Tok.mk 1;obtain⟨y0,D0,g0⟩:=mP.jq d0 f0;have Z0:=mP.fz d0 z0;have mr:aF P wr (w1.setCell ⟨b,off+m*2,none⟩ (.string ⟨(Sp.markT (k+c)).toArray⟩)):=mP.trans (aF.set _ D0 g0 h3 trivial);have D1:=mr.slice d1)
     |(go_at_call 11;have _:=tk1;refine aru (C1 (w1.setCell ⟨b,off+m*2,none⟩ (.string ⟨(Sp.markT (k+c)).toArray⟩)) (k+c+1) (mr.jr vN hP) (f1.keep mr) (by omega)) ?_;rintro e w2 ⟨rfl,s2'⟩;have vO:=mr.trans s2';clear tk1;have tk2:=Tok.mk 2))
    refine⟨⟨m+1,c',hlt,hc',congrArg _ (by omega),rfl,hst.trans vO⟩,?_⟩;simp only[intOf];omega
   .have hge':¬((m:Nat):Int)<l.length:=by omega
    obtain rfl:m=l.length:=by omega
    rw[arA]at hc;subst hc
    go_wp2
    all_goals go_ret
    all_goals exact⟨rfl,hst⟩
def oU:fH->Nat
 |(_,x1,x2,_,x4,_,_)=>3+cnt eY x1+cnt fE x2+cnt gY x4
set_option maxHeartbeats 16000000 in
theorem U1(W:World)(hG:G.ok W)(P:Nat->Prop)(hP:∀b,P b->G.n<=b)(v:Value)(l:List fH)(k:Int)(h:iC W.heap P (.sl dN pJ) v l)(hk:0<=k/\k+cnt oU l<=100000000):
 Calls prog 32 #[v,.int .i64 k] W λe w'=>e=.returned (.int .i64 (k+cnt oU l))/\aF P W w':=by
 have mixed:=Tryz.mixed;have hlen:l.length<=100000000:=by have:=vz (f:=oU) (l:=l) λ⟨x0,x1,x2,x3,x4,x5,⟨⟩⟩=>aq7 (show 1<=3 by decide) (show 3<=3+cnt eY x1+cnt fE x2+cnt gY x4 by omega);omega
 have h0:=h;rcases h with⟨rfl,a,c,rfl⟩|⟨b,off,cap,cs,t,fz,rfl,h2,h3,h4,h5,h6⟩
 .clear h0
  go_enter Tryz.func32,Tryz.ntmps32
  go_wp2
  go_loopw [1,5] (λkk i wr=>kk=.int .i64 k/\i=.int .i64 0/\wr=W) (λ_ _ _=>0)
  case atStart=>exact⟨rfl,rfl,rfl⟩
  case round=>
   obtain⟨rfl,rfl,rfl⟩:=hrel
   go_wp2
   all_goals go_ret
   all_goals exact⟨by simp[cnt],aF.refl _ _⟩
 .clear h4 h5 h6
  go_enter Tryz.func32,Tryz.ntmps32
  go_wp2
  go_loopw [1,5] (λkk i wr=>∃(m c:Nat),m<=l.length/\c=cnt oU (l.take m)/\kk=.int .i64 (k+c)/\i=.int .i64 m/\aF P W wr)
   (λ_ i _=>l.length-(intOf i).toNat)
  case atStart=>exact⟨0,0,arw _,rfl,by simp,rfl,aF.refl _ _⟩
  case round=>
   obtain⟨m,c,hm,hc,rfl,rfl,hst⟩:=hrel;rcases ark m l.length with hlt|hge
   .have hlt':((m:Nat):Int)<l.length:=by omega
    obtain⟨⟨x0,x1,x2,x3,x4,x5,⟨⟩⟩,hx⟩:∃x,l[m]? =some x:=⟨_,aq8 hlt⟩;rcases h0.keep hst with⟨rfl,_⟩|⟨b',off',cap',cs',t',fz',e,_,_,k4,k5,k6⟩
    .cases hx
    cases e;obtain⟨s1,s2⟩:=uf oU hx;rw[← hc]at s1 s2;clear hc;obtain⟨c',hc'⟩:∃c',c'=cnt oU (l.take (m+1)):=⟨_,rfl⟩;rw[← hc']at s1;have s1:c'=c+(3+cnt eY x1+cnt fE x2+cnt gY x4):=s1;have s2:c+(3+cnt eY x1+cnt fE x2+cnt gY x4)<=cnt oU l:=s2;have vN:=hst.jr hG hP;obtain⟨n1,hn1⟩:∃n,n=cnt eY x1:=⟨_,rfl⟩;obtain⟨n2,hn2⟩:∃n,n=cnt fE x2:=⟨_,rfl⟩;obtain⟨n4,hn4⟩:∃n,n=cnt gY x4:=⟨_,rfl⟩;rw[← hn1,← hn2,← hn4]at s1 s2;obtain⟨u0,_,q,f0,u1,_,rfl,f1,u2,_,rfl,f2,u3,_,rfl,f3,u4,_,rfl,f4,u5,_,rfl,f5,rfl⟩:=k6 m _ hx;obtain⟨a1,p1,rfl⟩:=f1.form;obtain⟨a2,p2,rfl⟩:=f2.form;obtain⟨a4,p4,rfl⟩:=f4.form;have c0:cs'[off+m*6]? =some (u0):=dD q (k:=0) rfl;have d0:wr.cell? ⟨b,off+m*6,none⟩=some (u0):=(bH k4 _).trans c0;have z0:=iM k4 (k5 _ (aq6.1 c0).1);have c1:cs'[off+m*6+1]? =some (.slice a1 x1.length p1):=dD q (k:=1) rfl;have d1:wr.cell? ⟨b,off+m*6+1,none⟩=some (.slice a1 x1.length p1):=(bH k4 _).trans c1;have c2:cs'[off+m*6+2]? =some (.slice a2 x2.length p2):=dD q (k:=2) rfl;have d2:wr.cell? ⟨b,off+m*6+2,none⟩=some (.slice a2 x2.length p2):=(bH k4 _).trans c2;have c3:cs'[off+m*6+3]? =some (u3):=dD q (k:=3) rfl;have d3:wr.cell? ⟨b,off+m*6+3,none⟩=some (u3):=(bH k4 _).trans c3;have z3:=iM k4 (k5 _ (aq6.1 c3).1);have c4:cs'[off+m*6+4]? =some (.slice a4 x4.length p4):=dD q (k:=4) rfl;have d4:wr.cell? ⟨b,off+m*6+4,none⟩=some (.slice a4 x4.length p4):=(bH k4 _).trans c4;have c5:cs'[off+m*6+5]? =some (u5):=dD q (k:=5) rfl;have d5:wr.cell? ⟨b,off+m*6+5,none⟩=some (u5):=(bH k4 _).trans c5;have z5:=iM k4 (k5 _ (aq6.1 c5).1);have C1:∀(w:World)(E:Int),G.ok w->iC w.heap P (.sl au bJ) (.slice a1 x1.length p1) x1->0<=E/\E+n1<=100000000->Calls prog 60 #[.slice a1 x1.length p1,.int .i64 E] w λe w'=>e=.returned (.int .i64 (E+n1))/\aF P w w':=by intro w E g s h;rw[hn1]at h ⊢;exact J7 w g P hP _ _ E s h
    have C2:∀(w:World)(E:Int),G.ok w->iC w.heap P (.sl aA aQ) (.slice a2 x2.length p2) x2->0<=E/\E+n2<=100000000->Calls prog 61 #[.slice a2 x2.length p2,.int .i64 E] w λe w'=>e=.returned (.int .i64 (E+n2))/\aF P w w':=by intro w E g s h;rw[hn2]at h ⊢;exact MR w g P hP _ _ E s h
    have C4:∀(w:World)(E:Int),G.ok w->iC w.heap P (.sl aI aY) (.slice a4 x4.length p4) x4->0<=E/\E+n4<=100000000->Calls prog 58 #[.slice a4 x4.length p4,.int .i64 E] w λe w'=>e=.returned (.int .i64 (E+n4))/\aF P w w':=by intro w E g s h;rw[hn4]at h ⊢;exact Pq w g P hP _ _ E s h
    clear hn1 hn2 hn4;have zJ:=aF.refl P wr;have nI:=Tok.mk 0;clear q k4 k5 k6 c0 c1 c2 c3 c4 c5 hx h0;have mP:aF P wr (wr.setCell ⟨b,off+m*6,none⟩ (.int .i64 (k+c))):=zJ.trans (aF.set _ d0 f0 h3 trivial);have D1:=mP.slice d1
    go_wp2_with (first
     |(go_at_call 60;have _:=nI;refine aru (C1 (wr.setCell ⟨b,off+m*6,none⟩ (.int .i64 (k+c))) (k+c+1) (mP.jr vN hP) (f1.keep mP) (by omega)) ?_;rintro e w1 ⟨rfl,s1'⟩;have mr:=mP.trans s1';clear nI;have tk1:=Tok.mk 1;have D2:=mr.slice d2)
     |(go_at_call 61;have _:=tk1;refine aru (C2 w1 (k+c+1+n1) (mr.jr vN hP) (f2.keep mr) (by omega)) ?_;rintro e w2 ⟨rfl,s2'⟩;have vO:=mr.trans s2';clear tk1;have tk2:=Tok.mk 2;obtain⟨y3,D3,g3⟩:=vO.jq d3 f3;have Z3:=vO.fz d3 z3;have BN:aF P wr (w2.setCell ⟨b,off+m*6+3,none⟩ (.int .i64 (k+c+1+n1+n2))):=vO.trans (aF.set _ D3 g3 h3 trivial);have D4:=BN.slice d4)
     |(go_at_call 58;have _:=tk2;refine aru (C4 (w2.setCell ⟨b,off+m*6+3,none⟩ (.int .i64 (k+c+1+n1+n2))) (k+c+1+n1+n2+1) (BN.jr vN hP) (f4.keep BN) (by omega)) ?_;rintro e w3 ⟨rfl,s3'⟩;have IX:=BN.trans s3';clear tk2;have tk3:=Tok.mk 3;obtain⟨y5,D5,g5⟩:=IX.jq d5 f5;have Z5:=IX.fz d5 z5;have sx6:aF P wr (w3.setCell ⟨b,off+m*6+5,none⟩ (.int .i64 (k+c+1+n1+n2+1+n4))):=IX.trans (aF.set _ D5 g5 h3 trivial)))
    refine⟨⟨m+1,c',hlt,hc',congrArg _ (by omega),rfl,hst.trans sx6⟩,?_⟩;simp only[intOf];omega
   .have hge':¬((m:Nat):Int)<l.length:=by omega
    obtain rfl:m=l.length:=by omega
    rw[arA]at hc;subst hc
    go_wp2
    all_goals go_ret
    all_goals exact⟨rfl,hst⟩
def ED:zK->Nat
 |(_,x1,x2,_)=>1+cnt mg x1+cnt mg x2
set_option maxHeartbeats 16000000 in
theorem aam(W:World)(hG:G.ok W)(P:Nat->Prop)(hP:∀b,P b->G.n<=b)(v:Value)(l:List zK)(k:Int)(h:iC W.heap P (.sl je CO) v l)(hk:0<=k/\k+cnt ED l<=100000000):
 Calls prog 63 #[v,.int .i64 k] W λe w'=>e=.returned (.int .i64 (k+cnt ED l))/\aF P W w':=by
 have mixed:=Tryz.mixed;have hlen:l.length<=100000000:=by have:=vz (f:=ED) (l:=l) λ⟨x0,x1,x2,⟨⟩⟩=>aq7 (show 1<=1 by decide) (show 1<=1+cnt mg x1+cnt mg x2 by omega);omega
 have h0:=h;rcases h with⟨rfl,a,c,rfl⟩|⟨b,off,cap,cs,t,fz,rfl,h2,h3,h4,h5,h6⟩
 .clear h0
  go_enter Tryz.func63,Tryz.ntmps63
  go_wp2
  go_loopw [1,5] (λkk i wr=>kk=.int .i64 k/\i=.int .i64 0/\wr=W) (λ_ _ _=>0)
  case atStart=>exact⟨rfl,rfl,rfl⟩
  case round=>
   obtain⟨rfl,rfl,rfl⟩:=hrel
   go_wp2
   all_goals go_ret
   all_goals exact⟨by simp[cnt],aF.refl _ _⟩
 .clear h4 h5 h6
  go_enter Tryz.func63,Tryz.ntmps63
  go_wp2
  go_loopw [1,5] (λkk i wr=>∃(m c:Nat),m<=l.length/\c=cnt ED (l.take m)/\kk=.int .i64 (k+c)/\i=.int .i64 m/\aF P W wr)
   (λ_ i _=>l.length-(intOf i).toNat)
  case atStart=>exact⟨0,0,arw _,rfl,by simp,rfl,aF.refl _ _⟩
  case round=>
   obtain⟨m,c,hm,hc,rfl,rfl,hst⟩:=hrel;rcases ark m l.length with hlt|hge
   .have hlt':((m:Nat):Int)<l.length:=by omega
    obtain⟨⟨x0,x1,x2,⟨⟩⟩,hx⟩:∃x,l[m]? =some x:=⟨_,aq8 hlt⟩;rcases h0.keep hst with⟨rfl,_⟩|⟨b',off',cap',cs',t',fz',e,_,_,k4,k5,k6⟩
    .cases hx
    cases e;obtain⟨s1,s2⟩:=uf ED hx;rw[← hc]at s1 s2;clear hc;obtain⟨c',hc'⟩:∃c',c'=cnt ED (l.take (m+1)):=⟨_,rfl⟩;rw[← hc']at s1;have s1:c'=c+(1+cnt mg x1+cnt mg x2):=s1;have s2:c+(1+cnt mg x1+cnt mg x2)<=cnt ED l:=s2;have vN:=hst.jr hG hP;obtain⟨n1,hn1⟩:∃n,n=cnt mg x1:=⟨_,rfl⟩;obtain⟨n2,hn2⟩:∃n,n=cnt mg x2:=⟨_,rfl⟩;rw[← hn1,← hn2]at s1 s2;obtain⟨u0,_,q,f0,u1,_,rfl,f1,u2,_,rfl,f2,rfl⟩:=k6 m _ hx;obtain⟨a1,p1,rfl⟩:=f1.form;obtain⟨a2,p2,rfl⟩:=f2.form;have c0:cs'[off+m*3]? =some (u0):=dD q (k:=0) rfl;have d0:wr.cell? ⟨b,off+m*3,none⟩=some (u0):=(bH k4 _).trans c0;have z0:=iM k4 (k5 _ (aq6.1 c0).1);have c1:cs'[off+m*3+1]? =some (.slice a1 x1.length p1):=dD q (k:=1) rfl;have d1:wr.cell? ⟨b,off+m*3+1,none⟩=some (.slice a1 x1.length p1):=(bH k4 _).trans c1;have c2:cs'[off+m*3+2]? =some (.slice a2 x2.length p2):=dD q (k:=2) rfl;have d2:wr.cell? ⟨b,off+m*3+2,none⟩=some (.slice a2 x2.length p2):=(bH k4 _).trans c2;have C1:∀(w:World)(E:Int),G.ok w->iC w.heap P (.sl aV dn) (.slice a1 x1.length p1) x1->0<=E/\E+n1<=100000000->Calls prog 11 #[.slice a1 x1.length p1,.int .i64 E] w λe w'=>e=.returned (.int .i64 (E+n1))/\aF P w w':=by intro w E g s h;rw[hn1]at h ⊢;exact xJ w g P hP _ _ E s h
    have C2:∀(w:World)(E:Int),G.ok w->iC w.heap P (.sl aV dn) (.slice a2 x2.length p2) x2->0<=E/\E+n2<=100000000->Calls prog 11 #[.slice a2 x2.length p2,.int .i64 E] w λe w'=>e=.returned (.int .i64 (E+n2))/\aF P w w':=by intro w E g s h;rw[hn2]at h ⊢;exact xJ w g P hP _ _ E s h
    clear hn1 hn2;have zJ:=aF.refl P wr;have nI:=Tok.mk 0;clear q k4 k5 k6 c0 c1 c2 hx h0;have mP:aF P wr (wr.setCell ⟨b,off+m*3,none⟩ (.int .i64 (k+c))):=zJ.trans (aF.set _ d0 f0 h3 trivial);have D1:=mP.slice d1
    go_wp2_with (first
     |(go_at_call 11;have _:=nI;refine aru (C1 (wr.setCell ⟨b,off+m*3,none⟩ (.int .i64 (k+c))) (k+c+1) (mP.jr vN hP) (f1.keep mP) (by omega)) ?_;rintro e w1 ⟨rfl,s1'⟩;have mr:=mP.trans s1';clear nI;have tk1:=Tok.mk 1;have D2:=mr.slice d2)
     |(go_at_call 11;have _:=tk1;refine aru (C2 w1 (k+c+1+n1) (mr.jr vN hP) (f2.keep mr) (by omega)) ?_;rintro e w2 ⟨rfl,s2'⟩;have vO:=mr.trans s2';clear tk1;have tk2:=Tok.mk 2))
    refine⟨⟨m+1,c',hlt,hc',congrArg _ (by omega),rfl,hst.trans vO⟩,?_⟩;simp only[intOf];omega
   .have hge':¬((m:Nat):Int)<l.length:=by omega
    obtain rfl:m=l.length:=by omega
    rw[arA]at hc;subst hc
    go_wp2
    all_goals go_ret
    all_goals exact⟨rfl,hst⟩
def tq:jZ->Nat
 |(_,_,x2,x3,_)=>2+cnt mg x2+cnt ED x3
set_option maxHeartbeats 16000000 in
theorem aan(W:World)(hG:G.ok W)(P:Nat->Prop)(hP:∀b,P b->G.n<=b)(v:Value)(l:List jZ)(k:Int)(h:iC W.heap P (.sl ig sO) v l)(hk:0<=k/\k+cnt tq l<=100000000):
 Calls prog 33 #[v,.int .i64 k] W λe w'=>e=.returned (.int .i64 (k+cnt tq l))/\aF P W w':=by
 have mixed:=Tryz.mixed;have hlen:l.length<=100000000:=by have:=vz (f:=tq) (l:=l) λ⟨x0,x1,x2,x3,⟨⟩⟩=>aq7 (show 1<=2 by decide) (show 2<=2+cnt mg x2+cnt ED x3 by omega);omega
 have h0:=h;rcases h with⟨rfl,a,c,rfl⟩|⟨b,off,cap,cs,t,fz,rfl,h2,h3,h4,h5,h6⟩
 .clear h0
  go_enter Tryz.func33,Tryz.ntmps33
  go_wp2
  go_loopw [1,5] (λkk i wr=>kk=.int .i64 k/\i=.int .i64 0/\wr=W) (λ_ _ _=>0)
  case atStart=>exact⟨rfl,rfl,rfl⟩
  case round=>
   obtain⟨rfl,rfl,rfl⟩:=hrel
   go_wp2
   all_goals go_ret
   all_goals exact⟨by simp[cnt],aF.refl _ _⟩
 .clear h4 h5 h6
  go_enter Tryz.func33,Tryz.ntmps33
  go_wp2
  go_loopw [1,5] (λkk i wr=>∃(m c:Nat),m<=l.length/\c=cnt tq (l.take m)/\kk=.int .i64 (k+c)/\i=.int .i64 m/\aF P W wr)
   (λ_ i _=>l.length-(intOf i).toNat)
  case atStart=>exact⟨0,0,arw _,rfl,by simp,rfl,aF.refl _ _⟩
  case round=>
   obtain⟨m,c,hm,hc,rfl,rfl,hst⟩:=hrel;rcases ark m l.length with hlt|hge
   .have hlt':((m:Nat):Int)<l.length:=by omega
    obtain⟨⟨x0,x1,x2,x3,⟨⟩⟩,hx⟩:∃x,l[m]? =some x:=⟨_,aq8 hlt⟩;rcases h0.keep hst with⟨rfl,_⟩|⟨b',off',cap',cs',t',fz',e,_,_,k4,k5,k6⟩
    .cases hx
    cases e;obtain⟨s1,s2⟩:=uf tq hx;rw[← hc]at s1 s2;clear hc;obtain⟨c',hc'⟩:∃c',c'=cnt tq (l.take (m+1)):=⟨_,rfl⟩;rw[← hc']at s1;have s1:c'=c+(2+cnt mg x2+cnt ED x3):=s1;have s2:c+(2+cnt mg x2+cnt ED x3)<=cnt tq l:=s2;have vN:=hst.jr hG hP;obtain⟨n2,hn2⟩:∃n,n=cnt mg x2:=⟨_,rfl⟩;obtain⟨n3,hn3⟩:∃n,n=cnt ED x3:=⟨_,rfl⟩;rw[← hn2,← hn3]at s1 s2;obtain⟨u0,_,q,f0,u1,_,rfl,f1,u2,_,rfl,f2,u3,_,rfl,f3,rfl⟩:=k6 m _ hx;obtain⟨a2,p2,rfl⟩:=f2.form;obtain⟨a3,p3,rfl⟩:=f3.form;have c0:cs'[off+m*4]? =some (u0):=dD q (k:=0) rfl;have d0:wr.cell? ⟨b,off+m*4,none⟩=some (u0):=(bH k4 _).trans c0;have z0:=iM k4 (k5 _ (aq6.1 c0).1);have c1:cs'[off+m*4+1]? =some (u1):=dD q (k:=1) rfl;have d1:wr.cell? ⟨b,off+m*4+1,none⟩=some (u1):=(bH k4 _).trans c1;have z1:=iM k4 (k5 _ (aq6.1 c1).1);have c2:cs'[off+m*4+2]? =some (.slice a2 x2.length p2):=dD q (k:=2) rfl;have d2:wr.cell? ⟨b,off+m*4+2,none⟩=some (.slice a2 x2.length p2):=(bH k4 _).trans c2;have c3:cs'[off+m*4+3]? =some (.slice a3 x3.length p3):=dD q (k:=3) rfl;have d3:wr.cell? ⟨b,off+m*4+3,none⟩=some (.slice a3 x3.length p3):=(bH k4 _).trans c3;have C2:∀(w:World)(E:Int),G.ok w->iC w.heap P (.sl aV dn) (.slice a2 x2.length p2) x2->0<=E/\E+n2<=100000000->Calls prog 11 #[.slice a2 x2.length p2,.int .i64 E] w λe w'=>e=.returned (.int .i64 (E+n2))/\aF P w w':=by intro w E g s h;rw[hn2]at h ⊢;exact xJ w g P hP _ _ E s h
    have C3:∀(w:World)(E:Int),G.ok w->iC w.heap P (.sl je CO) (.slice a3 x3.length p3) x3->0<=E/\E+n3<=100000000->Calls prog 63 #[.slice a3 x3.length p3,.int .i64 E] w λe w'=>e=.returned (.int .i64 (E+n3))/\aF P w w':=by intro w E g s h;rw[hn3]at h ⊢;exact aam w g P hP _ _ E s h
    clear hn2 hn3;have zJ:=aF.refl P wr;have nI:=Tok.mk 0;clear q k4 k5 k6 c0 c1 c2 c3 hx h0;have mP:aF P wr (wr.setCell ⟨b,off+m*4,none⟩ (.int .i64 (k+c))):=zJ.trans (aF.set _ d0 f0 h3 trivial)
    go_wp2_with (first
     |(go_at_call 62;have _:=nI;refine aru (DF (k+c+1) (by omega) (mP.jr vN hP)) ?_;rintro e w1 ⟨rfl,hb1⟩;have mr:=mP.trans (aF.of (P:=P) hb1);clear nI;have tk1:=Tok.mk 1;obtain⟨y1,D1,g1⟩:=mr.jq d1 f1;have Z1:=mr.fz d1 z1;have vO:aF P wr (w1.setCell ⟨b,off+m*4+1,none⟩ (.string ⟨(Sp.markT (k+c+1)).toArray⟩)):=mr.trans (aF.set _ D1 g1 h3 trivial);have D2:=vO.slice d2)
     |(go_at_call 11;have _:=tk1;refine aru (C2 (w1.setCell ⟨b,off+m*4+1,none⟩ (.string ⟨(Sp.markT (k+c+1)).toArray⟩)) (k+c+1+1) (vO.jr vN hP) (f2.keep vO) (by omega)) ?_;rintro e w2 ⟨rfl,s2'⟩;have BN:=vO.trans s2';clear tk1;have tk2:=Tok.mk 2;have D3:=BN.slice d3)
     |(go_at_call 63;have _:=tk2;refine aru (C3 w2 (k+c+1+1+n2) (BN.jr vN hP) (f3.keep BN) (by omega)) ?_;rintro e w3 ⟨rfl,s3'⟩;have IX:=BN.trans s3';clear tk2;have tk3:=Tok.mk 3))
    refine⟨⟨m+1,c',hlt,hc',congrArg _ (by omega),rfl,hst.trans IX⟩,?_⟩;simp only[intOf];omega
   .have hge':¬((m:Nat):Int)<l.length:=by omega
    obtain rfl:m=l.length:=by omega
    rw[arA]at hc;subst hc
    go_wp2
    all_goals go_ret
    all_goals exact⟨rfl,hst⟩
set_option maxHeartbeats 16000000 in
theorem acK{W:World}(hG:G.ok W){P:Nat->Prop}(hP:∀b,P b->G.n<=b/\b<W.heap.size){v0:Value}{x0:List dH}{v1:Value}{x1:List ay}(v2:Int)(k:Int)(f0:iC W.heap P (.sl au bJ) v0 x0)(f1:iC W.heap P (.sl aA aQ) v1 x1)(hk:0<=k/\k+(cnt eY x0+cnt fE x1)<=100000000):
 Calls prog 57 #[.agg #[v0,v1,.int .i64 v2],.int .i64 k] W λe w'=>e=.returned (.int .i64 (k+cnt eY x0+cnt fE x1))/\aF P W w':=by
 have mixed:=Tryz.mixed;have H0:∀o:Obj,Calls prog 60 #[v0,.int .i64 (k)] (W.alloc o) λe w'=>e=.returned (.int .i64 (k+cnt eY x0))/\aF P (W.alloc o) w':=λo=>(J7 (W.alloc o) ((dO P W o).jr hG λb hb=>(hP b hb).1) P (λb hb=>(hP b hb).1) v0 x0 (k) (f0.keep (dO P W o)) (by omega)).mono λe w'⟨e1,e2⟩=>⟨e1,e2⟩;have H1:∀(o:Obj)(w:World),aF P (W.alloc o) w->Calls prog 61 #[v1,.int .i64 (k+cnt eY x0)] w λe w'=>e=.returned (.int .i64 (k+cnt eY x0+cnt fE x1))/\aF P (W.alloc o) w':=λo w s=>(MR w (((dO P W o).trans s).jr hG λb hb=>(hP b hb).1) P (λb hb=>(hP b hb).1) v1 x1 (k+cnt eY x0) (f1.keep ((dO P W o).trans s)) (by omega)).mono λe w'⟨e1,e2⟩=>⟨e1,s.trans e2⟩;obtain⟨a0,p0,rfl⟩:=f0.form;obtain⟨a1,p1,rfl⟩:=f1.form;have hNa:¬P W.heap.size:=λe=>by have:=(hP _ e).2;omega
 clear f0 f1 hP;have nI:=Tok.mk 0;obtain⟨n0,hn0⟩:∃n,n=cnt eY x0:=⟨_,rfl⟩;obtain⟨n1,hn1⟩:∃n,n=cnt fE x1:=⟨_,rfl⟩;simp only[← hn0,← hn1]at hk H0 H1 ⊢;clear hn0 hn1
 go_enter Tryz.func57,Tryz.ntmps57
 go_wp2_with (first
  |(go_at_call 60;have _:=nI;refine aru (H0 _) ?_;rintro e w1 ⟨rfl,s1⟩;have hN:=(s1.block W.heap.size (by simp) hNa).trans (asa W _);have d1:w1.cell? ⟨W.heap.size,1,none⟩=some (.slice a1 x1.length p1):=bH hN 1;clear hN;clear nI;have tk1:=Tok.mk 1)
  |(go_at_call 61;have _:=tk1;refine aru (H1 _ w1 s1) ?_;rintro e w2 ⟨rfl,s2⟩;clear tk1;have tk2:=Tok.mk 2))
 all_goals go_ret
 all_goals exact⟨rfl,(dO P W _).trans s2⟩
set_option maxHeartbeats 16000000 in
theorem XK{W:World}(hG:G.ok W){P:Nat->Prop}(hP:∀b,P b->G.n<=b/\b<W.heap.size){v0:Value}{x0:List dH}{v1:Value}{x1:List ay}(v2:Int){v3:Value}{x3:List aC}{v4:Value}{x4:List bM}(k:Int)(f0:iC W.heap P (.sl au bJ) v0 x0)(f1:iC W.heap P (.sl aA aQ) v1 x1)(f3:iC W.heap P (.sl aI aY) v3 x3)(f4:iC W.heap P (.sl aS fV) v4 x4)(hk:0<=k/\k+(cnt eY x0+cnt fE x1+cnt gY x3+cnt jW x4)<=100000000):
 Calls prog 31 #[.agg #[v0,v1,.int .i64 v2,v3,v4],.int .i64 k] W λe w'=>e=.returned (.int .i64 (k+cnt eY x0+cnt fE x1+cnt gY x3+cnt jW x4))/\aF P W w':=by
 have mixed:=Tryz.mixed;have H0:∀o:Obj,Calls prog 57 #[.agg #[v0,v1,.int .i64 v2],.int .i64 (k)] (W.alloc o) λe w'=>e=.returned (.int .i64 (k+cnt eY x0+cnt fE x1))/\aF P (W.alloc o) w':=λo=>(acK ((dO P W o).jr hG λb hb=>(hP b hb).1) (λb hb=>⟨(hP b hb).1,ari (hP b hb).2 (dO P W o).size⟩) v2 (k) (f0.keep (dO P W o)) (f1.keep (dO P W o)) (by omega)).mono λe w'⟨e1,e2⟩=>⟨e1,e2⟩;have H1:∀(o:Obj)(w:World),aF P (W.alloc o) w->Calls prog 58 #[v3,.int .i64 (k+cnt eY x0+cnt fE x1)] w λe w'=>e=.returned (.int .i64 (k+cnt eY x0+cnt fE x1+cnt gY x3))/\aF P (W.alloc o) w':=λo w s=>(Pq w (((dO P W o).trans s).jr hG λb hb=>(hP b hb).1) P (λb hb=>(hP b hb).1) v3 x3 (k+cnt eY x0+cnt fE x1) (f3.keep ((dO P W o).trans s)) (by omega)).mono λe w'⟨e1,e2⟩=>⟨e1,s.trans e2⟩;have H2:∀(o:Obj)(w:World),aF P (W.alloc o) w->Calls prog 59 #[v4,.int .i64 (k+cnt eY x0+cnt fE x1+cnt gY x3)] w λe w'=>e=.returned (.int .i64 (k+cnt eY x0+cnt fE x1+cnt gY x3+cnt jW x4))/\aF P (W.alloc o) w':=λo w s=>(XJ w (((dO P W o).trans s).jr hG λb hb=>(hP b hb).1) P (λb hb=>(hP b hb).1) v4 x4 (k+cnt eY x0+cnt fE x1+cnt gY x3) (f4.keep ((dO P W o).trans s)) (by omega)).mono λe w'⟨e1,e2⟩=>⟨e1,s.trans e2⟩;obtain⟨a0,p0,rfl⟩:=f0.form;obtain⟨a1,p1,rfl⟩:=f1.form;obtain⟨a3,p3,rfl⟩:=f3.form;obtain⟨a4,p4,rfl⟩:=f4.form;have hNa:¬P W.heap.size:=λe=>by have:=(hP _ e).2;omega
 clear f0 f1 f3 f4 hP;have nI:=Tok.mk 0;obtain⟨n0,hn0⟩:∃n,n=cnt eY x0:=⟨_,rfl⟩;obtain⟨n1,hn1⟩:∃n,n=cnt fE x1:=⟨_,rfl⟩;obtain⟨n2,hn2⟩:∃n,n=cnt gY x3:=⟨_,rfl⟩;obtain⟨n3,hn3⟩:∃n,n=cnt jW x4:=⟨_,rfl⟩;simp only[← hn0,← hn1,← hn2,← hn3]at hk H0 H1 H2 ⊢;clear hn0 hn1 hn2 hn3
 go_enter Tryz.func31,Tryz.ntmps31
 go_wp2_with (first
  |(go_at_call 57;have _:=nI;refine aru (H0 _) ?_;rintro e w1 ⟨rfl,s1⟩;have hN:=(s1.block W.heap.size (by simp) hNa).trans (asa W _);have d3:w1.cell? ⟨W.heap.size,3,none⟩=some (.slice a3 x3.length p3):=bH hN 3;clear hN;clear nI;have tk1:=Tok.mk 1)
  |(go_at_call 58;have _:=tk1;refine aru (H1 _ w1 s1) ?_;rintro e w2 ⟨rfl,s2⟩;have hN:=(s2.block W.heap.size (by simp) hNa).trans (asa W _);have d4:w2.cell? ⟨W.heap.size,4,none⟩=some (.slice a4 x4.length p4):=bH hN 4;clear hN;clear tk1;have tk2:=Tok.mk 2)
  |(go_at_call 59;have _:=tk2;refine aru (H2 _ w2 s2) ?_;rintro e w3 ⟨rfl,s3⟩;clear tk2;have tk3:=Tok.mk 3))
 all_goals go_ret
 all_goals exact⟨rfl,(dO P W _).trans s3⟩
set_option maxHeartbeats 16000000 in
theorem aao{W:World}(hG:G.ok W){P:Nat->Prop}(hP:∀b,P b->G.n<=b/\b<W.heap.size){v0:Value}{x0:List dH}{v1:Value}{x1:List ay}(v2:Int){v3:Value}{x3:List aC}{v4:Value}{x4:List bM}(v5:ByteArray)(v6:ByteArray)(v7:Int){v8:Value}{x8:List fH}{v9:Value}{x9:List jZ}{v10:Value}{x10:List (Int×Unit)}(k:Int)(f0:iC W.heap P (.sl au bJ) v0 x0)(f1:iC W.heap P (.sl aA aQ) v1 x1)(f3:iC W.heap P (.sl aI aY) v3 x3)(f4:iC W.heap P (.sl aS fV) v4 x4)(f8:iC W.heap P (.sl dN pJ) v8 x8)(f9:iC W.heap P (.sl ig sO) v9 x9)(f10:iC W.heap P (.sl aV dn) v10 x10)(hk:0<=k/\k+(cnt eY x0+cnt fE x1+cnt gY x3+cnt jW x4+cnt oU x8+cnt tq x9+cnt mg x10)<=100000000):
 Calls prog 10 #[.agg #[v0,v1,.int .i64 v2,v3,v4,.string v5,.string v6,.int .i64 v7,v8,v9,v10],.int .i64 k] W λe w'=>e=.returned (.int .i64 (k+cnt eY x0+cnt fE x1+cnt gY x3+cnt jW x4+cnt oU x8+cnt tq x9+cnt mg x10))/\aF P W w':=by
 have mixed:=Tryz.mixed;have H0:∀o:Obj,Calls prog 31 #[.agg #[v0,v1,.int .i64 v2,v3,v4],.int .i64 (k)] (W.alloc o) λe w'=>e=.returned (.int .i64 (k+cnt eY x0+cnt fE x1+cnt gY x3+cnt jW x4))/\aF P (W.alloc o) w':=λo=>(XK ((dO P W o).jr hG λb hb=>(hP b hb).1) (λb hb=>⟨(hP b hb).1,ari (hP b hb).2 (dO P W o).size⟩) v2 (k) (f0.keep (dO P W o)) (f1.keep (dO P W o)) (f3.keep (dO P W o)) (f4.keep (dO P W o)) (by omega)).mono λe w'⟨e1,e2⟩=>⟨e1,e2⟩;have H1:∀(o:Obj)(w:World),aF P (W.alloc o) w->Calls prog 32 #[v8,.int .i64 (k+cnt eY x0+cnt fE x1+cnt gY x3+cnt jW x4)] w λe w'=>e=.returned (.int .i64 (k+cnt eY x0+cnt fE x1+cnt gY x3+cnt jW x4+cnt oU x8))/\aF P (W.alloc o) w':=λo w s=>(U1 w (((dO P W o).trans s).jr hG λb hb=>(hP b hb).1) P (λb hb=>(hP b hb).1) v8 x8 (k+cnt eY x0+cnt fE x1+cnt gY x3+cnt jW x4) (f8.keep ((dO P W o).trans s)) (by omega)).mono λe w'⟨e1,e2⟩=>⟨e1,s.trans e2⟩;have H2:∀(o:Obj)(w:World),aF P (W.alloc o) w->Calls prog 33 #[v9,.int .i64 (k+cnt eY x0+cnt fE x1+cnt gY x3+cnt jW x4+cnt oU x8)] w λe w'=>e=.returned (.int .i64 (k+cnt eY x0+cnt fE x1+cnt gY x3+cnt jW x4+cnt oU x8+cnt tq x9))/\aF P (W.alloc o) w':=λo w s=>(aan w (((dO P W o).trans s).jr hG λb hb=>(hP b hb).1) P (λb hb=>(hP b hb).1) v9 x9 (k+cnt eY x0+cnt fE x1+cnt gY x3+cnt jW x4+cnt oU x8) (f9.keep ((dO P W o).trans s)) (by omega)).mono λe w'⟨e1,e2⟩=>⟨e1,s.trans e2⟩;have H3:∀(o:Obj)(w:World),aF P (W.alloc o) w->Calls prog 11 #[v10,.int .i64 (k+cnt eY x0+cnt fE x1+cnt gY x3+cnt jW x4+cnt oU x8+cnt tq x9)] w λe w'=>e=.returned (.int .i64 (k+cnt eY x0+cnt fE x1+cnt gY x3+cnt jW x4+cnt oU x8+cnt tq x9+cnt mg x10))/\aF P (W.alloc o) w':=λo w s=>(xJ w (((dO P W o).trans s).jr hG λb hb=>(hP b hb).1) P (λb hb=>(hP b hb).1) v10 x10 (k+cnt eY x0+cnt fE x1+cnt gY x3+cnt jW x4+cnt oU x8+cnt tq x9) (f10.keep ((dO P W o).trans s)) (by omega)).mono λe w'⟨e1,e2⟩=>⟨e1,s.trans e2⟩;obtain⟨a0,p0,rfl⟩:=f0.form;obtain⟨a1,p1,rfl⟩:=f1.form;obtain⟨a3,p3,rfl⟩:=f3.form;obtain⟨a4,p4,rfl⟩:=f4.form;obtain⟨a8,p8,rfl⟩:=f8.form;obtain⟨a9,p9,rfl⟩:=f9.form;obtain⟨a10,p10,rfl⟩:=f10.form;have hNa:¬P W.heap.size:=λe=>by have:=(hP _ e).2;omega
 clear f0 f1 f3 f4 f8 f9 f10 hP;have nI:=Tok.mk 0;obtain⟨n0,hn0⟩:∃n,n=cnt eY x0:=⟨_,rfl⟩;obtain⟨n1,hn1⟩:∃n,n=cnt fE x1:=⟨_,rfl⟩;obtain⟨n2,hn2⟩:∃n,n=cnt gY x3:=⟨_,rfl⟩;obtain⟨n3,hn3⟩:∃n,n=cnt jW x4:=⟨_,rfl⟩;obtain⟨n4,hn4⟩:∃n,n=cnt oU x8:=⟨_,rfl⟩;obtain⟨n5,hn5⟩:∃n,n=cnt tq x9:=⟨_,rfl⟩;obtain⟨n6,hn6⟩:∃n,n=cnt mg x10:=⟨_,rfl⟩;simp only[← hn0,← hn1,← hn2,← hn3,← hn4,← hn5,← hn6]at hk H0 H1 H2 H3 ⊢;clear hn0 hn1 hn2 hn3 hn4 hn5 hn6
 go_enter Tryz.func10,Tryz.ntmps10
 go_wp2_with (first
  |(go_at_call 31;have _:=nI;refine aru (H0 _) ?_;rintro e w1 ⟨rfl,s1⟩;have hN:=(s1.block W.heap.size (by simp) hNa).trans (asa W _);have d8:w1.cell? ⟨W.heap.size,8,none⟩=some (.slice a8 x8.length p8):=bH hN 8;clear hN;clear nI;have tk1:=Tok.mk 1)
  |(go_at_call 32;have _:=tk1;refine aru (H1 _ w1 s1) ?_;rintro e w2 ⟨rfl,s2⟩;have hN:=(s2.block W.heap.size (by simp) hNa).trans (asa W _);have d9:w2.cell? ⟨W.heap.size,9,none⟩=some (.slice a9 x9.length p9):=bH hN 9;clear hN;clear tk1;have tk2:=Tok.mk 2)
  |(go_at_call 33;have _:=tk2;refine aru (H2 _ w2 s2) ?_;rintro e w3 ⟨rfl,s3⟩;have hN:=(s3.block W.heap.size (by simp) hNa).trans (asa W _);have d10:w3.cell? ⟨W.heap.size,10,none⟩=some (.slice a10 x10.length p10):=bH hN 10;clear hN;clear tk2;have tk3:=Tok.mk 3)
  |(go_at_call 11;have _:=tk3;refine aru (H3 _ w3 s3) ?_;rintro e w4 ⟨rfl,s4⟩;clear tk3;have tk4:=Tok.mk 4))
 all_goals go_ret
 all_goals exact⟨rfl,(dO P W _).trans s4⟩
end Go.Proofs.Tryz
