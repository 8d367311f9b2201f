import Derived.Test.YtgnfgfokndjepaaDoorL1
import Derived.Test.YtgnfgfokndjepaaDoorV1
import Derived.Test.YtgnfgfokndjepaaDoorSp
import Derived.Test.YtgnfgfokndjepaaDoorFwC
import Derived.Deep.RegionHeld3
namespace Go.Proofs.Tryd
open Go Go.Fw Go.IntWalk Sp
theorem nG:OK gG.e:=by
 refine kz [(qi,.pure ou)] ⟨⟨EC,CY⟩,⟨⟩⟩ H0 λn=>show gG.goal (AP n) (n,())fromλhin hp=>?_
 dsimp only[gG]at hp ⊢;exact⟨hin.1,rfl⟩
theorem AQ:OK kD.e:=by
 refine kz [] ⟨⟩ H0 λx=>show kD.goal (AU x) (x,())fromλhin hp=>?_
 dsimp only[kD]at hp ⊢;obtain⟨h0,h1⟩:=hp;refine aI (λh=>?_) λh=>?_<;>simp only[Zi,Za]at h
 .rw[i64_in (48+x) (by omega),u8_in (48+x) (by omega)]
 .omega
theorem jG{l:List (Int×Unit)}(h:∀(x:Int×Unit),x∈l->((-9223372036854775808:Int)<=x.fst/\x.fst<=(9223372036854775807:Int))/\True):jH l:=λx hx=>(h x hx).1
theorem wE{c:Int}(h:¬c.tmod 10<0):c.tmod 10=((c.natAbs%10:Nat):Int):=by have:(c.tmod 10).natAbs=c.natAbs%10:=aaC c 10;omega
theorem LK{c:Int}(h:c.tmod 10<0):0-c.tmod 10=((c.natAbs%10:Nat):Int):=by have:(c.tmod 10).natAbs=c.natAbs%10:=aaC c 10;omega
theorem uQ(k:Nat):byteRow [((48:Int)+(k:Int),())]=[UInt8.ofNat (48+k)]:=by
 have:((48:Int)+(k:Int)).toNat=48+k:=by omega
 simp[byteRow,FQ,this]
theorem EF{n c:Nat}{s:List UInt8}(hc:c≠0)(hJ:Lib.decDigits n=(if c=0 then[]else Lib.decDigits c)++s):
 Lib.decDigits n=(if c / 10=0 then[]else Lib.decDigits (c / 10))++(UInt8.ofNat (48+c%10)::s):=by
 rw[hJ,if_neg hc,Gt c];simp
theorem nH:OK gI.e:=by
 refine kz [kD.e] ⟨AQ,⟨⟩⟩ C9 λn=>show gI.goal (AX n) (n,())fromλhin hp=>?_
 dsimp only[gI]at hp ⊢;have h0:(-9223372036854775808:Int)<=n/\n<=9223372036854775807:=hin.1;have hL:=Lib.itoa_length_le n h0.1 h0.2;have hD:(Lib.decDigits n.natAbs).length<=21:=by
  unfold Lib.itoa at hL;split at hL
  .simp at hL;omega
  .rw[show n.natAbs=n.toNat by omega];exact hL
 refine aI (λh=>?_) λh=>?_
 .have:n=0:=by simpa using h
  subst this;simp[Lib.itoa,Lib.decDigits]
 .have hn0:n≠0:=by simpa using h
  refine⟨λy=>-9223372036854775808<=y.1.1/\y.1.1<=9223372036854775807/\Lib.decDigits n.natAbs=(if y.1.1.natAbs=0 then[]else Lib.decDigits y.1.1.natAbs)++y.1.2.1,λy=>y.1.1.natAbs,⟨h0.1,h0.2,?_⟩,?_⟩
  .show _=(if n.natAbs=0 then _ else _)++_;rw[if_neg (by omega)];simp
  rintro⟨⟨c,s,⟨⟩⟩,⟨⟩⟩ ⟨hc1,hc2,hJ⟩;dsimp only at hc1 hc2 hJ ⊢;have hs:s.length<=21:=by rw[hJ,Y7]at hD;omega
  have hq:(c.tdiv 10).natAbs=c.natAbs / 10:=Int.natAbs_tdiv c 10;have hrow:∀k:Nat,(byteRow [((48:Int)+(k:Int),())]).length=1:=λk=>by rw[uQ];rfl
  refine aI (λh=>?_) λh=>?_
  .have hc:c.natAbs≠0:=by simp at h;omega
   have hstep:=EF hc hJ;have hm:c.natAbs%10<10:=aax _ (by decide);have hlt:c.natAbs / 10<c.natAbs:=Nat.div_lt_self (by omega) (by decide);have hw:IntKind.i64.wrap (c.tdiv 10)=c.tdiv 10:=dP _ (by omega);refine⟨by decide,aI (λhd=>?_) λhd=>?_⟩<;>simp only[Zi,Za]at hd
   .have e:=LK hd;rw[dP (0-c.tmod 10) (by omega),e,hw,uQ];refine⟨⟨by omega,by omega⟩,by simp only[Y0,Y4];rw[maxLen_eq];omega,by decide,rfl,⟨by dsimp only;omega,by dsimp only;omega,?_⟩,?_⟩
    .show _=(if(c.tdiv 10).natAbs=0 then[]else Lib.decDigits (c.tdiv 10).natAbs)++_;rw[hq];exact hstep
    .show(c.tdiv 10).natAbs<c.natAbs;rw[hq];exact hlt
   .have e:=wE hd;rw[e,hw,uQ];refine⟨⟨by omega,by omega⟩,by simp only[Y0,Y4];rw[maxLen_eq];omega,by decide,rfl,⟨by dsimp only;omega,by dsimp only;omega,?_⟩,?_⟩
    .show _=(if(c.tdiv 10).natAbs=0 then[]else Lib.decDigits (c.tdiv 10).natAbs)++_;rw[hq];exact hstep
    .show(c.tdiv 10).natAbs<c.natAbs;rw[hq];exact hlt
  .have hc:c=0:=by simpa using h
   subst hc;have hJ:Lib.decDigits n.natAbs=s:=by simpa using hJ
   subst hJ;refine aI (λhd=>?_) λhd=>?_<;>simp only[Zi,Za]at hd
   .refine⟨by simp only[Y0,Y4];rw[maxLen_eq];omega,?_⟩;rw[Lib.itoa,if_pos hd];rfl
   .rw[Lib.itoa,if_neg hd,show n.toNat=n.natAbs by omega]
theorem yx:OK jy.e:=by
 refine kz [gI.e] ⟨nH,⟨⟩⟩ zI λv a r=>show jy.goal (yA v a r) ((v,a,r,()),())fromλhin hp=>?_
 dsimp only[jy]at hp ⊢;obtain⟨ha,hr⟩:=hp;have rC:jH a:=jG hin.1.2.1.2;have P5:jH r:=jG hin.1.2.2.1.2;have hv:=Lib.itoa_length_le v hin.1.1.1 hin.1.1.2;refine⟨trivial,λy=>∃n:Nat,y.1.2.1=n/\n<=a.length/\y.1.1=Lib.itoa v++Sp.marked [32,43] (a.take n),λy=>((a.length:Int)-y.1.2.1).toNat,⟨0,rfl,by omega,by simp[Sp.marked]⟩,?_⟩;rintro⟨⟨_,_,⟨⟩⟩,⟨⟩⟩ ⟨n,rfl,hn,rfl⟩;dsimp only;have hl:=iG [32,43] a rC n 1048576 (by omega);have hl2:=iG [32,43] a rC a.length 1048576 (by omega);simp only[Y0,Y4]at hl hl2;refine aI (λh=>?_) λh=>?_<;>simp only[Zi,Za]at h
 .have hlt:n<a.length:=by omega
  have hg:=rC.get hlt (0,());rw[dP _ (by omega),Zr];refine⟨by simp only[Y7,Y0,Y4];rw[maxLen_eq];omega,⟨by omega,by omega⟩,trivial,by simp only[Y7,Y0,Y4];rw[maxLen_eq];omega,rfl,⟨n+1,by simp,by omega,?_⟩,by dsimp only;omega⟩;rw[nS _ _ _ (0,()) hlt];simp
 .have hge:n=a.length:=by omega
  subst hge;rw[ZE]at hl ⊢;refine⟨λy=>∃n:Nat,y.1.2.1=n/\n<=r.length/\y.1.1=Lib.itoa v++Sp.marked [32,43] a++Sp.marked [32,45] (r.take n),λy=>((r.length:Int)-y.1.2.1).toNat,⟨0,rfl,by omega,by simp[Sp.marked]⟩,?_⟩;rintro⟨⟨_,_,⟨⟩⟩,⟨⟩⟩ ⟨n,rfl,hn,rfl⟩;dsimp only;have hl3:=iG [32,45] r P5 n 1048576 (by omega);simp only[Y0,Y4]at hl3;refine aI (λh=>?_) λh=>?_<;>simp only[Zi,Za]at h
  .have hlt:n<r.length:=by omega
   have hg:=P5.get hlt (0,());rw[dP _ (by omega),Zr];refine⟨by simp only[Y7,Y0,Y4];rw[maxLen_eq];omega,⟨by omega,by omega⟩,trivial,by simp only[Y7,Y0,Y4];rw[maxLen_eq];omega,rfl,⟨n+1,by simp,by omega,?_⟩,by dsimp only;omega⟩;rw[nS _ _ _ (0,()) hlt];simp
  .have hge:n=r.length:=by omega
   subst hge;rw[ZE];rfl
theorem yB:OK jA.e:=by
 refine kz [gG.e] ⟨nG,⟨⟩⟩ zJ λv a r=>show jA.goal (yC v a r) ((v,a,r,()),())fromλhin hp=>?_
 dsimp only[jA]at hp ⊢;obtain⟨ha,hr⟩:=hp;have rC:jH a:=jG hin.1.2.1.2;have P5:jH r:=jG hin.1.2.2.1.2;have hv:=Lib.itoa_length_le v hin.1.1.1 hin.1.1.2;refine⟨trivial,λy=>∃n:Nat,y.1.2.1=n/\n<=a.length/\y.1.1=Lib.itoa v++Sp.marked [32,43] (a.take n),λy=>((a.length:Int)-y.1.2.1).toNat,⟨0,rfl,by omega,by simp[Sp.marked]⟩,?_⟩;rintro⟨⟨_,_,⟨⟩⟩,⟨⟩⟩ ⟨n,rfl,hn,rfl⟩;dsimp only;have hl:=iG [32,43] a rC n 1048576 (by omega);have hl2:=iG [32,43] a rC a.length 1048576 (by omega);simp only[Y0,Y4]at hl hl2;refine aI (λh=>?_) λh=>?_<;>simp only[Zi,Za]at h
 .have hlt:n<a.length:=by omega
  have hg:=rC.get hlt (0,());rw[dP _ (by omega),Zr];refine⟨⟨by omega,by omega⟩,trivial,by simp only[Y7,Y0,Y4];rw[maxLen_eq];omega,by simp only[Y7,Y0,Y4];rw[maxLen_eq];omega,rfl,⟨n+1,by simp,by omega,?_⟩,by dsimp only;omega⟩;rw[nS _ _ _ (0,()) hlt];simp
 .have hge:n=a.length:=by omega
  subst hge;rw[ZE]at hl ⊢;refine⟨λy=>∃n:Nat,y.1.2.1=n/\n<=r.length/\y.1.1=Lib.itoa v++Sp.marked [32,43] a++Sp.marked [32,45] (r.take n),λy=>((r.length:Int)-y.1.2.1).toNat,⟨0,rfl,by omega,by simp[Sp.marked]⟩,?_⟩;rintro⟨⟨_,_,⟨⟩⟩,⟨⟩⟩ ⟨n,rfl,hn,rfl⟩;dsimp only;have hl3:=iG [32,45] r P5 n 1048576 (by omega);simp only[Y0,Y4]at hl3;refine aI (λh=>?_) λh=>?_<;>simp only[Zi,Za]at h
  .have hlt:n<r.length:=by omega
   have hg:=P5.get hlt (0,());rw[dP _ (by omega),Zr];refine⟨⟨by omega,by omega⟩,trivial,by simp only[Y7,Y0,Y4];rw[maxLen_eq];omega,by simp only[Y7,Y0,Y4];rw[maxLen_eq];omega,rfl,⟨n+1,by simp,by omega,?_⟩,by dsimp only;omega⟩;rw[nS _ _ _ (0,()) hlt];simp
  .have hge:n=r.length:=by omega
   subst hge;rw[ZE];rfl
theorem AY:OK kE.e:=by
 refine kz [gI.e] ⟨nH,⟨⟩⟩ Dc λa=>show kE.goal (AZ a) (a,())fromλhin hp=>?_
 dsimp only[kE]at hp ⊢;have hp:a.length<=1048576:=hp;have rC:jH a:=jG hin.1.2;refine⟨λy=>∃n:Nat,y.1.2.1=n/\n<=a.length/\y.1.1=dH (a.take n),λy=>((a.length:Int)-y.1.2.1).toNat,⟨0,rfl,by omega,by simp[dH]⟩,?_⟩;rintro⟨⟨_,_,⟨⟩⟩,⟨⟩⟩ ⟨n,rfl,hn,rfl⟩;dsimp only;have hl:=qC (a.take n) (rC.take n);have hl2:(a.take n).length<=n:=by rw[Zw];omega
 refine aI (λh=>?_) λh=>?_<;>simp only[Zi,Za]at h
 .have hlt:n<a.length:=by omega
  have hg:=rC.get hlt (0,());rw[dP _ (by omega),Zr];have hs:=LM a n (0,()) hlt;refine aI (λh2=>?_) λh2=>?_<;>simp only[Zi,Za]at h2
  .rw[if_neg (by omega)]at hs;refine⟨by simp only[Y7,Y0,Y4];rw[maxLen_eq];omega,⟨by omega,by omega⟩,trivial,by simp only[Y7,Y0,Y4];rw[maxLen_eq];omega,rfl,⟨n+1,by simp,by omega,hs.symm⟩,by dsimp only;omega⟩
  .rw[if_pos (by omega)]at hs;refine⟨⟨by omega,by omega⟩,trivial,by rw[maxLen_eq];omega,rfl,⟨n+1,by simp,by omega,?_⟩,by dsimp only;omega⟩;rw[hs];have:n=0:=by omega
   subst this;simp[dH]
 .have hge:n=a.length:=by omega
  subst hge;rw[ZE]
theorem A7:OK kF.e:=by
 refine kz [(qj,.pure oz),gG.e] ⟨⟨ED,CZ⟩,nG,⟨⟩⟩ Df λa=>show kF.goal (A8 a) (a,())fromλhin hp=>?_
 dsimp only[kF]at hp ⊢;have hp:a.length<=1048576:=hp;have rC:jH a:=jG hin.1.2;refine⟨λy=>∃n:Nat,y.1.2.1=n/\n<=a.length/\y.2.1=(a.take n).map λx=>(Lib.itoa x.1,()),λy=>((a.length:Int)-y.1.2.1).toNat,⟨0,rfl,by omega,by simp⟩,?_⟩;rintro⟨⟨⟨⟩,_,⟨⟩⟩,_,⟨⟩⟩ ⟨n,rfl,hn,rfl⟩;dsimp only;refine aI (λh=>?_) λh=>?_<;>simp only[Zi,Za]at h
 .have hlt:n<a.length:=by omega
  rw[dP _ (by omega),Zr];refine⟨⟨by omega,by omega⟩,trivial,by simp only[ZF,Zw,Y0,Y4];rw[tJ];omega,rfl,⟨n+1,by simp,by omega,?_⟩,by dsimp only;omega⟩;rw[Sp.take_succ' a n (0,()) hlt];simp
 .have hge:n=a.length:=by omega
  subst hge;rw[ZE];have e:List.map (λx:List UInt8×Unit=>x.fst) (a.map λx=>(Lib.itoa x.1,()))=a.map λx=>Lib.itoa x.1:=by rw[aae];rfl
  have hl:=qC a rC;rw[e,QV];exact⟨⟨by rw[ZF];omega,by omega⟩,rfl⟩
theorem EG:OK mM.e:=by
 refine kz [kE.e] ⟨AY,⟨⟩⟩ H0 λs a=>show mM.goal (EH s a) (s,a,())fromλhin hp=>?_
 dsimp only[mM]at hp ⊢;obtain⟨h1,h2⟩:=hp;have rC:jH a:=jG hin.2.1.2;have hl:=qC a rC;refine aI (λh=>?_) λh=>?_
 .have:a=[]:=by simpa using h
  subst this;simp[Sp.withIds]
 .have hne:a≠[]:=by simpa using h
  refine⟨by simp only[Y0,Y4];rw[maxLen_eq];omega,h2,by simp only[Y7,Y0,Y4];rw[maxLen_eq];omega,?_⟩;rw[Sp.withIds,if_neg (by simp[hne])]
theorem EI:OK mO.e:=by
 refine kz [kF.e] ⟨A7,⟨⟩⟩ H0 λs a=>show mO.goal (EJ s a) (s,a,())fromλhin hp=>?_
 dsimp only[mO]at hp ⊢;obtain⟨h1,h2⟩:=hp;have rC:jH a:=jG hin.2.1.2;have hl:=qC a rC;refine aI (λh=>?_) λh=>?_
 .have:a=[]:=by simpa using h
  subst this;simp[Sp.withIds]
 .have hne:a≠[]:=by simpa using h
  refine⟨by simp only[Y0,Y4];rw[maxLen_eq];omega,h2,by simp only[Y7,Y0,Y4];rw[maxLen_eq];omega,?_⟩;rw[Sp.withIds,if_neg (by simp[hne])]
end Go.Proofs.Tryd
namespace Go.Proofs.Tryd
open Go Go.Fw Go.IntWalk Sp
theorem Yh{n:Nat}{left:Int}(hn:n<=maxLen)(h0:0<=left)(h1:left<=1048576){K:Int×Unit->Prop}(hK:K (aO n left,())):
 bif decide (IntKind.i64.wrap (left-(n:Int))<(0:Int))then K ((-1:Int),())else K (IntKind.i64.wrap (left-(n:Int)),()):=by
 rw[maxLen_eq]at hn;rw[dP _ (by omega)];unfold aO at hK;refine aI (λh=>?_) λh=>?_<;>simp only[Zi,Za]at h
 .rw[if_pos h]at hK;exact hK
 .rw[if_neg h]at hK;exact hK
theorem szr{n:Nat}{left:Int}{K:Int×Unit->Prop}(hK:K (aO n left,())):
 bif decide (aO n left<(0:Int))then K ((-1:Int),())else K (aO n left,()):=by
 refine aI (λh=>?_) λh=>?_<;>simp only[Zi,Za]at h
 .have:=EK (m:=0) h;rw[aaB]at this;rw[this]at hK;exact hK
 .exact hK
theorem Yi{n m:Nat}{left:Int}(h0:0<=left)(h1:left<=1048576){K:Int×Unit->Prop}(hK:K (aO (n+m) left,())):
 ((0:Int)<=left/\left<=(1048576:Int))/\
 (bif decide (aO n left<(0:Int))then K ((-1:Int),())
 else((0:Int)<=aO n left/\aO n left<=(1048576:Int))/\
  (bif decide (aO m (aO n left)<(0:Int))then K ((-1:Int),())else K (aO m (aO n left),()))):=by
 refine⟨⟨h0,h1⟩,aI (λh=>?_) λh=>?_⟩<;>simp only[Zi,Za]at h
 .rw[EK h]at hK;exact hK
 .have:=Ig (n:=n) h0;refine⟨⟨by omega,by omega⟩,szr ?_⟩;rw[Ih (by omega)];exact hK
theorem P6{W:Nat}{left:Int}(h:left<W):((-1:Int),())=(aO W left,()):=by unfold aO;rw[if_pos (by omega)]
theorem U0{n:Nat}{left:Int}(h:(n:Int)<=left):aO n left=left-n:=by unfold aO;rw[if_neg (by omega)]
theorem U1{n W:Nat}{x left:Int}(h:left-W=x-n):(aO n x,())=(aO W left,()):=by unfold aO;rw[h]
theorem VZ{n:Nat}{left:Int}{K:Int×Unit->Prop}{R:Prop}(hK:left<n->K (-1,()))(hR:(n:Int)<=left->R):bif decide (aO n left<0)then K (-1,())else R:=by
 unfold aO;by_cases h:left-n<0
 .rw[if_pos h];exact hK (by omega)
 .rw[if_neg h,decide_eq_false (by omega)];exact hR (by omega)
theorem U2{n:Nat}{left:Int}{K:Int×Unit->Prop}{R:Prop}(hn:n<=maxLen)(h0:0<=left)(h1:left<=1048576)(hK:left<n->K (-1,()))(hR:(n:Int)<=left->R):bif decide (IntKind.i64.wrap (left-(n:Int))<0)then K (-1,())else R:=by
 rw[maxLen_eq]at hn;rw[dP _ (by omega)];by_cases h:left-n<0
 .rw[decide_eq_true h];exact hK (by omega)
 .rw[decide_eq_false h];exact hR (by omega)
theorem wF:OK kS.e:=by
 refine kz [] ⟨⟩ H0 λa left=>show kS.goal (Gu a left) (a,left,())fromλhin hp=>?_
 dsimp only[kS]at hp ⊢;exact Yh (K:=λr=>r=(_,())) hin.1.1 hp.1 hp.2 rfl
theorem EL:OK mF.e:=by
 refine kz [kS.e] ⟨wF,⟨⟩⟩ H0 λa0 a1 a2 left=>show mF.goal (EM a0 a1 a2 left) ((a0,a1,a2,()),left,())fromλhin hp=>?_
 dsimp only[mF]at hp ⊢;exact Yi (K:=λr=>r=(_,())) hp.1 hp.2 rfl
theorem Dh:OK lN.e:=by
 refine kz [mF.e] ⟨EL,⟨⟩⟩ EN λa left=>show lN.goal (Di a left) (a,left,())fromλhin hp=>?_
 dsimp only[lN]at hp ⊢;exact U3 (K:=λr=>r=(_,())) qZ _ a left _ hin.1.1 hp.1 hp.2 rfl
theorem EO:OK ja.e:=by
 refine kz [lN.e,kS.e] ⟨Dh,wF,⟨⟩⟩ H0 λa0 a1 a2 a3 left=>show ja.goal (EP a0 a1 a2 a3 left) ((a0,a1,a2,a3,()),left,())fromλhin hp=>?_
 dsimp only[ja]at hp ⊢;obtain⟨h0,h1⟩:0<=left/\left<=1048576:=hp;have l1:a1.length<=maxLen:=hin.1.2.1;have hw:oL (a0,a1,a2,a3,())=a1.length+(a2.length+oq a3):=rfl;refine U2 (K:=λr=>r=(_,())) l1 h0 h1 (λh=>P6 (by rw[hw];omega)) λh=>?_;dsimp only;rw[maxLen_eq]at l1;rw[dP (left-a1.length) (by omega)];refine⟨⟨by omega,by omega⟩,VZ (K:=λr=>r=(_,())) (λh=>P6 (by rw[hw];omega)) λh2=>?_⟩;rw[U0 h2];exact⟨⟨by omega,by omega⟩,szr (K:=λr=>r=(_,())) (U1 (by rw[hw];omega))⟩
theorem wG:OK kT.e:=by
 refine kz [] ⟨⟩ IQ λa=>show kT.goal (Gv a) (a,())fromλhin hp=>?_
 dsimp only[kT]at hp ⊢;have hbig:a.length<=4294967296:=hp;refine⟨⟨by omega,by omega,by rw[tJ];omega⟩,λy=>∃n:Nat,y.1.1=n/\n<=a.length/\y.2.1=a.take n++List.replicate (a.length-n) (0,()),λy=>((a.length:Int)-y.1.1).toNat,⟨0,rfl,by omega,by simp⟩,?_⟩;rintro⟨⟨_,⟨⟩⟩,l,⟨⟩⟩ ⟨n,rfl,hn,rfl⟩;refine aI (λh=>?_) λh=>?_<;>simp only[Zi,Za]at h ⊢
 .have hlt:n<a.length:=by omega
  rw[dP _ (by omega)];have e:(a.take n++List.replicate (a.length-n) ((0:Int),())).set n ((a.getD n (0,())).1,())=a.take (n+1)++List.replicate (a.length-(n+1)) (0,()):=by
   rw[show a.length-n=a.length-(n+1)+1 by omega,List.replicate_succ,aaj _ _ (by rw[Zw];omega),Zw,aaE hn,Nat.sub_self,List.set_cons_zero,
    Zy hlt,ZM,Zq,Zf hlt]
   rfl
  refine⟨⟨by omega,by omega⟩,⟨by omega,by simp only[Y7,Zw,ZX];omega⟩,by simp only[Y7,Zw,ZX];omega,rfl,⟨n+1,by simp,by omega,?_⟩,by show((a.length:Int)-((n:Int)+1)).toNat<((a.length:Int)-(n:Int)).toNat;omega⟩;rw[Zr,e]
 .have hge:n=a.length:=by omega
  subst hge;simp
theorem ER:OK mG.e:=by
 refine kz [kT.e] ⟨wG,⟨⟩⟩ H0 λa0 a1 a2=>show mG.goal (ES a0 a1 a2) ((a0,a1,a2,()),())fromλhin hp=>?_
 dsimp only[mG]at hp ⊢;have h:a1.length+a2.length<=big:=hp;exact⟨Y9 (Nat.le_add_right _ _) h,Y9 (Nat.le_add_left _ _) h,rfl⟩
theorem Dj:OK lQ.e:=by
 refine kz [mG.e] ⟨ER,⟨⟩⟩ ET λa=>show lQ.goal (Dk a) (a,())fromλhin hp=>?_
 dsimp only[lQ]at hp ⊢;have h:mY qZ a<=big:=hp;exact toS_vc (K:=λr=>r=(_,())) (λx=>x.2.1.length+x.2.2.1.length<=big) _ a _ (by rw[mD,tJ]at h;omega) (λx hx=>Y9 (Zg _) (Y9 (uS qZ a x hx) h)) rfl
theorem EU:OK jb.e:=by
 refine kz [lQ.e,kT.e] ⟨Dj,wG,⟨⟩⟩ H0 λa0 a1 a2 a3=>show jb.goal (EW a0 a1 a2 a3) ((a0,a1,a2,a3,()),())fromλhin hp=>?_
 dsimp only[jb]at hp ⊢;have h:a2.length+oq a3<=big:=hp;exact⟨Y9 (Nat.le_add_right _ _) h,Y9 (Nat.le_add_left _ _) h,rfl⟩
theorem wH:OK kU.e:=by
 refine kz [] ⟨⟩ IU λa b=>show kU.goal (Gw a b) (a,b,())fromλhin hp=>?_
 dsimp only[kU]at hp ⊢;obtain rfl:a=b:=hp;exact aI (λh=>absurd h (by simp)) λ_=>Gx a.length hin.1.1 (λ_=>True) trivial (λI μ n hn _ next=>by dsimp only;exact Ja (by omega) ⟨⟨by omega,by omega⟩,⟨by omega,by omega⟩,aI (λh=>absurd h (by simp)) λ_=>⟨rfl,next trivial⟩⟩) λI μ _=>by dsimp only;exact Jb (by omega) rfl
theorem EX:OK mJ.e:=by
 refine kz [kU.e] ⟨wH,⟨⟩⟩ H0 λa0 a1 a2 b0 b1 b2=>show mJ.goal (uT a0 a1 a2 b0 b1 b2) ((a0,a1,a2,()),(b0,b1,b2,()),())fromλhin hp=>?_
 dsimp only[mJ]at hp ⊢;have hp:(a0,a1,a2,())=(b0,b1,b2,()):=hp;cases hp;unfold uT;simp
theorem Dl:OK lS.e:=by
 refine kz [mJ.e] ⟨EX,⟨⟩⟩ EY λa b=>show lS.goal (Dn a b) (a,b,())fromλhin hp=>?_
 dsimp only[lS]at hp ⊢;obtain rfl:a=b:=hp;exact aI (λh=>absurd h (by simp)) λ_=>Gx a.length hin.1.1 (λ_=>True) trivial (λI μ n hn _ next=>by dsimp only;exact Ja (by omega) ⟨⟨by omega,by omega⟩,⟨by omega,by omega⟩,rfl,rfl,next trivial⟩) λI μ _=>by dsimp only;exact Jb (by omega) rfl
theorem EZ:OK jc.e:=by
 refine kz [lS.e,kU.e] ⟨Dl,wH,⟨⟩⟩ H0 λa0 a1 a2 a3 b0 b1 b2 b3=>show jc.goal (uU a0 a1 a2 a3 b0 b1 b2 b3) ((a0,a1,a2,a3,()),(b0,b1,b2,b3,()),())fromλhin hp=>?_
 dsimp only[jc]at hp ⊢;have hp:(a0,a1,a2,a3,())=(b0,b1,b2,b3,()):=hp;cases hp;unfold uU;simp
end Go.Proofs.Tryd
namespace Go.Proofs.Tryd
open Go Go.Fw Go.IntWalk Sp
theorem rY(n:Int)(h:(-9223372036854775808:Int)<=n/\n<=(9223372036854775807:Int)):(Lib.itoa n).length<=21:=Lib.itoa_length_le n h.1 h.2
theorem oK{n:Nat}(h:n<=100000000):n<=maxLen:=by rw[maxLen_eq];omega
theorem yD:OK dW.e:=by
 refine kz [jy.e,mM.e,gI.e] ⟨yx,EG,nH,⟨⟩⟩ zK λw0 w1 w2 w3=>show dW.goal (yE w0 w1 w2 w3) ((w0,w1,w2,w3,()),())fromλhin hp=>?_
 dsimp only[dW]at hp ⊢;have hp:w1.length+(w2.length+mY qZ w3)<=1048576:=hp;have hl:=mD qZ w3;have hi:=rY w0 hin.1.1;refine⟨trivial,oK (by simp only[Y0,Y4];omega),oK (by simp only[Y7,Y0,Y4];omega),oK (by simp only[Y7,Y0,Y4];omega),⟨by simp only[Y7,Y0,Y4];omega,by omega⟩,?_⟩;refine⟨λy=>∃n:Nat,y.1.2.1=n/\n<=w3.length/\y.2.1=(zL (w0,w1,w2,w3,()),())::(w3.take n).map (λe=>(KC e,())),λy=>((w3.length:Int)-y.1.2.1).toNat,⟨0,rfl,Zm _,rfl⟩,?_⟩;rintro⟨⟨⟨⟩,_,⟨⟩⟩,_,⟨⟩⟩ ⟨n,rfl,hn,rfl⟩;dsimp only;refine aI (λh=>?_) λh=>?_<;>simp only[Zi,Za]at h
 .have hlt:n<w3.length:=by omega
  have hx:(w3.getD n (0,[],[],())).2.1.length+(w3.getD n (0,[],[],())).2.2.1.length<=mY qZ w3:=uS qZ w3 _ (getD_mem hlt);rw[dP _ (by omega),Zr];refine⟨⟨by omega,by omega⟩,⟨by omega,by omega⟩,by simp only[Y0,ZF,Zw,Y4];rw[tJ];omega,rfl,⟨n+1,by simp,by omega,?_⟩,by dsimp only;omega⟩;rw[Sp.take_succ' w3 n (0,[],[],()) hlt,aaq];rfl
 .obtain rfl:n=w3.length:=by omega
  rw[ZE];rfl
theorem yF:OK dX.e:=by
 refine kz [jA.e,mO.e,gG.e] ⟨yB,EI,nG,⟨⟩⟩ zM λw0 w1 w2 w3=>show dX.goal (yG w0 w1 w2 w3) ((w0,w1,w2,w3,()),())fromλhin hp=>?_
 dsimp only[dX]at hp ⊢;have hp:w1.length+(w2.length+mY qZ w3)<=1048576:=hp;have hl:=mD qZ w3;have hi:=rY w0 hin.1.1;refine⟨trivial,oK (by simp only[Y0,Y4];omega),oK (by simp only[Y7,Y0,Y4];omega),oK (by simp only[Y7,Y0,Y4];omega),⟨by simp only[Y7,Y0,Y4];omega,by omega⟩,?_⟩;refine⟨λy=>∃n:Nat,y.1.2.1=n/\n<=w3.length/\y.2.1=(zL (w0,w1,w2,w3,()),())::(w3.take n).map (λe=>(KC e,())),λy=>((w3.length:Int)-y.1.2.1).toNat,⟨0,rfl,Zm _,rfl⟩,?_⟩;rintro⟨⟨⟨⟩,_,⟨⟩⟩,_,⟨⟩⟩ ⟨n,rfl,hn,rfl⟩;dsimp only;refine aI (λh=>?_) λh=>?_<;>simp only[Zi,Za]at h
 .have hlt:n<w3.length:=by omega
  have hx:(w3.getD n (0,[],[],())).2.1.length+(w3.getD n (0,[],[],())).2.2.1.length<=mY qZ w3:=uS qZ w3 _ (getD_mem hlt);rw[dP _ (by omega),Zr];refine⟨⟨by omega,by omega⟩,⟨by omega,by omega⟩,by simp only[Y0,ZF,Zw,Y4];rw[tJ];omega,rfl,⟨n+1,by simp,by omega,?_⟩,by dsimp only;omega⟩;rw[Sp.take_succ' w3 n (0,[],[],()) hlt,aaq];rfl
 .obtain rfl:n=w3.length:=by omega
  rw[ZE];rfl
theorem ug:OK fE.e:=by
 refine kz [] ⟨⟩ E5 λk=>show fE.goal (Dp k) (k,())fromλhin hp=>?_
 dsimp only[fE]at hp ⊢;obtain⟨h0,h1⟩:0<=k/\k<=1000000000:=hp;refine aI (λh=>?_) λh=>?_
 .obtain rfl:k=0:=by have:=U4 h;omega
  exact congrArg (·,()) (show[109,48]=Sp.markT 0 by unfold Sp.markT Lib.itoa;rw[if_neg (by decide)];show _=109::Lib.decDigits 0;rw[Lib.decDigits];rfl)
 have hk:0<k:=by have:=U5 h;omega
 have hL:=rY k (by omega);have hit:Lib.itoa k=Lib.decDigits k.natAbs:=by rw[Lib.itoa,if_neg (by omega),show k.toNat=k.natAbs by omega]
 have hD:(Lib.decDigits k.natAbs).length<=21:=by rw[← hit];exact hL
 refine⟨λy=>0<=y.1.1/\y.1.1<=1000000000/\Lib.decDigits k.natAbs=(if y.1.1.natAbs=0 then[]else Lib.decDigits y.1.1.natAbs)++y.1.2.1,λy=>y.1.1.natAbs,⟨h0,h1,?_⟩,?_⟩
 .show _=(if k.natAbs=0 then _ else _)++_;rw[if_neg (by omega)];simp
 rintro⟨⟨c,s,⟨⟩⟩,⟨⟩⟩ ⟨hc1,hc2,hJ⟩;dsimp only at hc1 hc2 hJ ⊢;have hs:s.length<=21:=by rw[hJ,Y7]at hD;omega
 refine aI (λh=>?_) λh=>?_
 .have hcp:0<c:=U4 h;have hc:c.natAbs≠0:=by omega
  have hstep:=EF hc hJ;have hm:c.natAbs%10<10:=aax _ (by decide);have hlt:c.natAbs / 10<c.natAbs:=Nat.div_lt_self (by omega) (by decide);have hq:(c.tdiv 10).natAbs=c.natAbs / 10:=Int.natAbs_tdiv c 10;have hq0:0<=c.tdiv 10:=Int.tdiv_nonneg hc1 (by decide);have hw:IntKind.i64.wrap (c.tdiv 10)=c.tdiv 10:=dP _ (by omega);have e:=wE (c:=c) (by have:=Int.tmod_nonneg 10 hc1;omega);have e8:IntKind.u8.wrap (IntKind.i64.wrap (48+c.tmod 10))=48+((c.natAbs%10:Nat):Int):=by rw[e,i64_in _ (by omega),u8_in _ (by omega)]
  rw[e8,hw,uQ];refine⟨by decide,oK (by rw[Y0,Y4];omega),by decide,rfl,⟨hq0,by omega,?_⟩,?_⟩
  .show _=(if(c.tdiv 10).natAbs=0 then[]else Lib.decDigits (c.tdiv 10).natAbs)++_;rw[hq];exact hstep
  .show(c.tdiv 10).natAbs<c.natAbs;rw[hq];exact hlt
 .obtain rfl:c=0:=by have:=U5 h;omega
  have hJ:Lib.decDigits k.natAbs=s:=by simpa using hJ
  refine⟨oK (by rw[Y0,Y4];omega),?_⟩;unfold Sp.markT;rw[hit,hJ];rfl
theorem Ba:OK gB.e:=by
 refine kz [] ⟨⟩ Dq λa b=>show gB.goal (Bc a b) (a,b,())fromλhin hp=>?_
 dsimp only[gB]at hp ⊢;obtain rfl:a=b:=hp;exact aI (λh=>absurd h (by simp)) λ_=>Gx a.length hin.1.1 (λ_=>True) trivial (λI μ n hn _ next=>by dsimp only;exact Ja (by omega) ⟨⟨by omega,by omega⟩,⟨by omega,by omega⟩,aI (λh=>absurd h (by simp)) λ_=>⟨rfl,next trivial⟩⟩) λI μ _=>by dsimp only;exact Jb (by omega) rfl
theorem yH:OK dY.e:=by
 refine kz [fE.e] ⟨ug,⟨⟩⟩ zN λa k=>show dY.goal (yI a k) (a,k,())fromλhin hp=>?_
 dsimp only[dY]at hp ⊢;obtain⟨h0,h1,hl⟩:0<=k/\k<=10000000/\a.length<=4000000:=hp;refine QW (mk:=λi(v:Int)=>((v,i,()),())) (λy=>y.1.2.1) (λ_ _=>rfl) a.length (by omega) (λn v=>v=k+n/\rD a k=rD (a.drop n) v) ⟨by omega,rfl⟩ (λI μ n v hn hJ next=>?_) λI μ v hJ=>?_
 .obtain⟨rfl,hh⟩:=hJ;rw[drop_cons a n ([],()) hn,rD]at hh;dsimp only;rw[dP (k+(n:Int)+1) (by omega),Zr];refine Ja (by omega) ⟨⟨by omega,by omega⟩,⟨by omega,by omega⟩,aI (λh=>?_) λh=>⟨rfl,next _ ⟨by omega,?_⟩⟩⟩
  .rw[if_neg (by simpa using h)]at hh;rw[hh]
  .rw[if_pos (by simpa using h)]at hh;exact hh
 .obtain⟨rfl,hh⟩:=hJ;rw[List.drop_length]at hh;dsimp only;exact Jb (by omega) (by rw[hh];rfl)
end Go.Proofs.Tryd
namespace Go.Proofs.Tryd
open Go Go.Fw Go.RowKit Sp
set_option maxRecDepth 100000
set_option maxHeartbeats 16000000 in
theorem xJ(W:World)(P:Nat->Prop)(v:Value)(l:List (Int×Unit))(k:Int)(h:jF W.heap P (.sl aX dm) v l)(hk:0<=k/\k<=10000000)(hl:l.length<=2000000):
 Calls prog 25 #[v,.int .i64 k] W λe w'=>e=.returned (.int .i64 (k+l.length))/\bK P W w':=by
 have mixed:=Tryd.mixed;have h0:=h;rcases h with⟨rfl,a,c,rfl⟩|⟨b,off,cap,cs,t,fz,rfl,h2,h3,h4,h5,h6⟩
 .clear h0
  go_enter Tryd.func25,Tryd.ntmps25
  go_wp2
  go_loopw [1,5] (λkk i wr=>kk=.int .i64 k/\i=.int .i64 0/\wr=W) (λ_ _ _=>0)
  case atStart=>exact⟨rfl,rfl,rfl⟩
  case round=>
   obtain⟨rfl,rfl,rfl⟩:=hrel
   go_wp2
   all_goals go_ret
   all_goals exact⟨by simp,bK.refl _ _⟩
 .clear h4 h5 h6
  go_enter Tryd.func25,Tryd.ntmps25
  go_wp2
  go_loopw [1,5] (λkk i wr=>∃(m:Nat),m<=l.length/\kk=.int .i64 (k+m)/\i=.int .i64 m/\bK P W wr)
   (λ_ i _=>l.length-(intOf i).toNat)
  case atStart=>exact⟨0,Zm _,by simp,rfl,bK.refl _ _⟩
  case round=>
   obtain⟨m,hm,rfl,rfl,hst⟩:=hrel;rcases Zp m l.length with hlt|hge
   .have hlt':((m:Nat):Int)<l.length:=by omega
    obtain⟨x,hx⟩:∃x,l[m]? =some x:=⟨_,Zf hlt⟩;rcases h0.keep hst with⟨rfl,_⟩|⟨b',off',cap',cs',t',fz',e,_,_,k4,k5,k6⟩
    .cases hx
    cases e;obtain⟨u0,_,q,s0,_⟩:=k6 m x hx;have c0:cs'[off+m]? =some u0:=(congrArg (cs'[·]?) (show off+m=off+m*1+0 by omega)).trans (tK q rfl);have z0:=J3 k4 (k5 _ (Zd.1 c0).1);have d0:wr.cell? ⟨b,off+m,none⟩=some u0:=(gu k4 _).trans c0;have st:=hst.trans (bK.set (.int .i64 (k+m)) d0 s0 h3 trivial);clear q k4 k5 k6 c0 hx h0
    go_wp2
    refine⟨⟨m+1,hlt,congrArg _ (by omega),rfl,st⟩,?_⟩;simp only[intOf];omega
   .have hge':¬((m:Nat):Int)<l.length:=by omega
    obtain rfl:m=l.length:=by omega
    go_wp2
    all_goals go_ret
    all_goals exact⟨rfl,hst⟩
def ql(e:bT):Nat:=1+e.2.1.length+e.2.2.1.length
set_option maxHeartbeats 16000000 in
theorem Oj(W:World)(P:Nat->Prop)(v:Value)(l:List bT)(k:Int)(h:jF W.heap P (.sl bC nC) v l)(hk:0<=k/\k<=5000000)(hl:cnt ql l<=2000000)(hn:l.length<=2000000):
 Calls prog 26 #[v,.int .i64 k] W λe w'=>e=.returned (.int .i64 (k+cnt ql l))/\bK P W w':=by
 have mixed:=Tryd.mixed;have h0:=h;rcases h with⟨rfl,a,c,rfl⟩|⟨b,off,cap,cs,t,fz,rfl,h2,h3,h4,h5,h6⟩
 .clear h0
  go_enter Tryd.func26,Tryd.ntmps26
  go_wp2
  go_loopw [1,5] (λkk i wr=>kk=.int .i64 k/\i=.int .i64 0/\wr=W) (λ_ _ _=>0)
  case atStart=>exact⟨rfl,rfl,rfl⟩
  case round=>
   obtain⟨rfl,rfl,rfl⟩:=hrel
   go_wp2
   all_goals go_ret
   all_goals exact⟨by simp[cnt],bK.refl _ _⟩
 .clear h4 h5 h6
  go_enter Tryd.func26,Tryd.ntmps26
  go_wp2
  go_loopw [1,5] (λkk i wr=>∃(m c:Nat),m<=l.length/\c=cnt ql (l.take m)/\kk=.int .i64 (k+c)/\i=.int .i64 m/\bK P W wr)
   (λ_ i _=>l.length-(intOf i).toNat)
  case atStart=>exact⟨0,0,Zm _,rfl,by simp,rfl,bK.refl _ _⟩
  case round=>
   obtain⟨m,c,hm,hc,rfl,rfl,hst⟩:=hrel;rcases Zp m l.length with hlt|hge
   .have hlt':((m:Nat):Int)<l.length:=by omega
    obtain⟨⟨x0,x1,x2,⟨⟩⟩,hx⟩:∃x,l[m]? =some x:=⟨_,Zf hlt⟩;rcases h0.keep hst with⟨rfl,_⟩|⟨b',off',cap',cs',t',fz',e,_,_,k4,k5,k6⟩
    .cases hx
    cases e;obtain⟨s1,s2⟩:=QG ql hx;rw[← hc]at s1 s2;clear hc;obtain⟨c',hc'⟩:∃c',c'=cnt ql (l.take (m+1)):=⟨_,rfl⟩;rw[← hc']at s1;have s1:c'=c+(1+x1.length+x2.length):=s1;have s2:c+(1+x1.length+x2.length)<=cnt ql l:=s2;obtain⟨u0,_,q,s0,va,_,rfl,ha,vr,_,rfl,hr,rfl⟩:=k6 m _ hx;obtain⟨a1,p1,rfl⟩:=ha.form;obtain⟨a2,p2,rfl⟩:=hr.form;have c0:cs'[off+m*3]? =some u0:=tK q (k:=0) rfl;have c1:cs'[off+m*3+1]? =some (.slice a1 x1.length p1):=tK q (k:=1) rfl;have c2:cs'[off+m*3+2]? =some (.slice a2 x2.length p2):=tK q (k:=2) rfl;have z0:=J3 k4 (k5 _ (Zd.1 c0).1);have d0:wr.cell? ⟨b,off+m*3,none⟩=some u0:=(gu k4 _).trans c0;have st1:bK P wr (wr.setCell ⟨b,off+m*3,none⟩ (.int .i64 (k+c))):=bK.set _ d0 s0 h3 trivial;have d1:=st1.slice ((gu k4 _).trans c1);have d2:=st1.slice ((gu k4 _).trans c2);have Tc:=xJ (wr.setCell ⟨b,off+m*3,none⟩ (.int .i64 (k+c))) P (.slice a1 x1.length p1) x1 (k+c+1) (ha.keep st1) (by omega) (by omega);clear q k4 k5 k6 c0 c1 c2 hx h0
    go_wp2_with (first
     |(go_at_call 25;refine Zo Tc ?_;clear Tc;rintro e w2 ⟨rfl,st2⟩;have d3:=st2.slice d2;have call2:=xJ w2 P (.slice a2 x2.length p2) x2 (k+c+1+x1.length) ((hr.keep st1).keep st2) (by omega) (by omega))
     |(go_at_call 25;refine Zo call2 ?_;clear call2;rintro e w3 ⟨rfl,U6⟩))
    refine⟨⟨m+1,c',hlt,hc',congrArg _ (by omega),rfl,((hst.trans st1).trans st2).trans U6⟩,?_⟩;simp only[intOf];omega
   .have hge':¬((m:Nat):Int)<l.length:=by omega
    obtain rfl:m=l.length:=by omega
    rw[ZE]at hc;subst hc
    go_wp2
    all_goals go_ret
    all_goals exact⟨rfl,hst⟩
set_option maxHeartbeats 4000000 in
theorem Ol{W:World}{P:Nat->Prop}(hP:∀b,P b->b<W.heap.size){vi ve:Value}{l:List (Int×Unit)}{es:List bT}{k:Int}(u:Int)(s:ByteArray)(hi:jF W.heap P (.sl aX dm) vi l)(he:jF W.heap P (.sl bC nC) ve es)
 (hk:0<=k/\k<=1000000) (hn:l.length<=2000000) (hl:cnt ql es<=2000000) (hm:es.length<=2000000):
 Calls prog 10 #[.agg #[.int .i64 u,.string s,vi,ve],.int .i64 k] W λe w'=>e=.returned (.int .i64 (k+l.length+cnt ql es))/\bK P W w':=by
 have mixed:=Tryd.mixed;have H:∀o,Calls prog 25 #[vi,.int .i64 k] (W.alloc o) λe w'=>e=.returned (.int .i64 (k+l.length))/\bK P (W.alloc o) w':=λo=>
  xJ _ P vi l k (hi.keep (xA P W o)) (by omega) hn
 have H2:∀(o:Obj)(w1:World),bK P (W.alloc o) w1->Calls prog 26 #[ve,.int .i64 (k+l.length)] w1 λe w'=>e=.returned (.int .i64 (k+l.length+cnt ql es))/\bK P W w':=λo w1 h1=>
  (Oj w1 P ve es (k+l.length) ((he.keep (xA P W o)).keep h1) (by omega) hl hm).mono λe w'⟨h2,h3⟩=>⟨h2,((xA P W o).trans h1).trans h3⟩
 obtain⟨a1,c1,rfl⟩:=hi.form;obtain⟨a2,c2,rfl⟩:=he.form;have Yj:¬P W.heap.size:=λe=>by have:=hP _ e;omega
 clear hi he hP
 go_enter Tryd.func10,Tryd.ntmps10
 go_wp2_with (first
  |(go_at_call 25;refine Zo (H _) ?_;rintro e w1 ⟨rfl,h1⟩;have hN:=(h1.block W.heap.size (by simp) Yj).trans (heap_alloc_new W _);have c3:w1.cell? ⟨W.heap.size,3,none⟩=some (.slice a2 es.length c2):=gu hN 3)
  |(go_at_call 26;refine Zo (H2 _ w1 h1) ?_;rintro e w' ⟨rfl,h2⟩))
 all_goals go_ret
 all_goals exact⟨rfl,h2⟩
end Go.Proofs.Tryd
namespace Go.Proofs.Tryd
open Go Go.Fw Go.RowKit Sp
set_option maxRecDepth 100000
def Td(n:Int):Prop:=-9223372036854775808<=n/\n<=9223372036854775807
theorem E8{k:Int}(h:0<=k/\k<=1000000000):Td k:=⟨by omega,by omega⟩
theorem TY{w w':World}(hG:G.ok w)(h:Below w.heap.size w w'):G.ok w':=G.stable w w' hG h.size λb hb=>h.block b (Zc hb (G.low w hG))
abbrev VW(w:World):V:=⟨w,w.heap.size,λ_=>True,λ_=>undef,λ_=>none⟩
theorem qm{w:World}{c:CT}{v:Value}{x:c.den}(h:aU w.heap (λb=>b<w.heap.size) c v x):aU w.heap ((VW w).aH false) c v x:=
 aU.mono (λb hb=>⟨⟨⟨hb,λ_=>trivial,λo x hx=>by cases hx⟩,λe=>by cases e⟩,rfl⟩) _ _ _ h
theorem sH{h:Array Obj}{S:Nat->Prop}{e:TypeId}{r:aj}{v:Value}{l:List r.den}(H:aU h S (.sl e r) v l):∃a c,v=.slice a l.length c:=by
 rcases H.2 with⟨rfl,a,c,e⟩|⟨b,off,cap,cs,t,fz,e,_⟩
 .exact⟨a,c,e⟩
 .exact⟨_,_,e⟩
def kN(u:Int)(n:List UInt8)(vi ve:Value):Value:=.agg #[.int .i64 u,.string ⟨n.toArray⟩,vi,ve]
abbrev Ii(u:Int)(n:List UInt8):Prop:=Td u/\n.length<=maxLen
abbrev RI(w:World)(S:Nat->Prop)(v:Value)(l:List (Int×Unit)):Prop:=aU w.heap S (.sl aX dm) v l
abbrev RE(w:World)(S:Nat->Prop)(v:Value)(l:List bT):Prop:=aU w.heap S (.sl bC nC) v l
abbrev RL(w:World)(S:Nat->Prop)(v:Value)(l:List bT):Prop:=aU w.heap S (.sl bZ kC) v l
abbrev RS(w:World)(S:Nat->Prop)(v:Value)(l:List (List UInt8×Unit)):Prop:=aU w.heap S (.sl fD nI) v l
abbrev lt(w:World)(b:Nat):Prop:=b<w.heap.size
def KD(u:Int)(n:List UInt8)(l:List (Int×Unit))(es:List bT):Arg:=.sv (.agg [.int .i64 u,.str n,.sl aX dm l false,.sl bC nC es false])
def QX(u:Int)(n:List UInt8)(l:List (Int×Unit))(es:List bT):Arg:=.sv (.agg [.int .i64 u,.str n,.sl aX dm l false,.sl bZ kC es false])
theorem Ap{w:World}{u:Int}{n:List UInt8}{l:List (Int×Unit)}{es:List bT}{vi ve:Value}(h:Ii u n)(hi:RI w (lt w) vi l)(he:RE w (lt w) ve es):jQ (VW w) (KD u n l es) (kN u n vi ve):=
 ⟨_,rfl,⟨rfl,h.1⟩,⟨rfl,h.2⟩,qm hi,qm he,trivial⟩
theorem MP{w:World}{u:Int}{n:List UInt8}{l:List (Int×Unit)}{es:List bT}{vi ve:Value}(h:Ii u n)(hi:RI w (lt w) vi l)(he:RL w (lt w) ve es):jQ (VW w) (QX u n l es) (kN u n vi ve):=
 ⟨_,rfl,⟨rfl,h.1⟩,⟨rfl,h.2⟩,qm hi,qm he,trivial⟩
theorem Ua{w:World}(hG:G.ok w){u:Int}{n:List UInt8}{l:List (Int×Unit)}{es:List bT}{vi ve:Value}(h:Ii u n)(hi:RI w (lt w) vi l)(he:RL w (lt w) ve es):
 Calls prog 4 #[kN u n vi ve,.int .i64 1048576] w λo w'=>o=.returned (.int .i64 (aO (oL (u,n,l,es,())) 1048576))/\Below w.heap.size w w':=by
 have hcon:jr prog G 4 (lW ja.sh ja.aT ja.F):=EO.1;refine(hcon [QX u n l es,.sv (.one (.int .i64 1048576))] ((0:Int)<=1048576/\(1048576:Int)<=1048576) ⟨[(false,[.plain (.int .i64 (aO (oL (u,n,l,es,())) 1048576))])],none⟩ 0 (λ_=>True) #[kN u n vi ve,.int .i64 1048576] w rfl ⟨by decide,by decide⟩ hG ⟨MP h hi he,⟨rfl,E8 (by decide)⟩,trivial⟩).mono ?_;rintro e w' ⟨v,vals,rfl,h1,h2,h3,h4,h5,h6,_,_⟩;have h6:v=.int .i64 _/\_:=h6;exact⟨by rw[h6.1],h1,h2,h3,h4,h5⟩
theorem toW_runs{w:World}(hG:G.ok w){u:Int}{n:List UInt8}{l:List (Int×Unit)}{es:List bT}{vi ve:Value}(h:Ii u n)(hi:RI w (lt w) vi l)(he:RL w (lt w) ve es)(hw:l.length+oq es<=big):
 Calls prog 6 #[kN u n vi ve] w λo w'=>∃ui ue,o=.returned (kN u n ui ue)/\Below w.heap.size w w'/\RI w' (New w w') ui l/\RE w' (New w w') ue es:=by
 have hcon:jr prog G 6 (lW jb.sh jb.aT jb.F):=EU.1;refine(hcon [QX u n l es] (l.length+oq es<=big) _ 0 (λ_=>True) #[kN u n vi ve] w rfl hw hG ⟨MP h hi he,trivial⟩).mono ?_;rintro e w' ⟨v,vals,rfl,h1,h2,h3,h4,h5,h6,_,_⟩;obtain⟨vs,rfl,h7⟩:=h6;obtain⟨q⟩:=vs
 match q,h7 with
 |[x1,x2,x3,x4],h7=>obtain⟨b1,b2,b3,b4,_⟩:=h7;rw[b1.1,b2.1];exact⟨x3,x4,rfl,⟨h1,h2,h3,h4,h5⟩,aU.mono (λb hb=>⟨⟨(hb.2 rfl).1,hb.1.1,(hb.2 rfl).2⟩,rfl⟩) _ _ _ b3,aU.mono (λb hb=>⟨⟨(hb.2 rfl).1,hb.1.1,(hb.2 rfl).2⟩,rfl⟩) _ _ _ b4⟩
theorem P7{w:World}(hG:G.ok w){u:Int}{n:List UInt8}{l:List (Int×Unit)}{es:List bT}{vi ve:Value}(h:Ii u n)(hi:RI w (lt w) vi l)(he:RE w (lt w) ve es)(hw:oL (u,n,l,es,())<=1048576):
 Calls prog 5 #[kN u n vi ve] w λo w'=>∃v,o=.returned v/\Below w.heap.size w w'/\RS w' (New w w') v (ku (u,n,l,es,())):=by
 have hcon:jr prog G 5 (lW dW.sh dW.aT dW.F):=yD.1;refine(hcon [KD u n l es] (oL (u,n,l,es,())<=1048576) _ 0 (λ_=>True) #[kN u n vi ve] w rfl hw hG ⟨Ap h hi he,trivial⟩).mono ?_;rintro e w' ⟨v,vals,rfl,h1,h2,h3,h4,h5,h6,_,_⟩;exact⟨v,rfl,⟨h1,h2,h3,h4,h5⟩,aU.mono (λb hb=>⟨⟨(hb.2 rfl).1,hb.1.1,(hb.2 rfl).2⟩,rfl⟩) _ _ _ h6⟩
theorem P8{w:World}(hG:G.ok w){u:Int}{n:List UInt8}{l:List (Int×Unit)}{es:List bT}{vi ve:Value}(h:Ii u n)(hi:RI w (lt w) vi l)(he:RE w (lt w) ve es)(hw:oL (u,n,l,es,())<=1048576):
 Calls prog 7 #[kN u n vi ve] w λo w'=>∃v,o=.returned v/\Below w.heap.size w w'/\RS w' (New w w') v (ku (u,n,l,es,())):=by
 have hcon:jr prog G 7 (lW dX.sh dX.aT dX.F):=yF.1;refine(hcon [KD u n l es] (oL (u,n,l,es,())<=1048576) _ 0 (λ_=>True) #[kN u n vi ve] w rfl hw hG ⟨Ap h hi he,trivial⟩).mono ?_;rintro e w' ⟨v,vals,rfl,h1,h2,h3,h4,h5,h6,_,_⟩;exact⟨v,rfl,⟨h1,h2,h3,h4,h5⟩,aU.mono (λb hb=>⟨⟨(hb.2 rfl).1,hb.1.1,(hb.2 rfl).2⟩,rfl⟩) _ _ _ h6⟩
theorem Dt{w:World}(hG:G.ok w){a b:Value}{l:List (List UInt8×Unit)}(ha:RS w (lt w) a l)(hb:RS w (lt w) b l):
 Calls prog 8 #[a,b] w λo w'=>o=.returned (.bool true)/\Below w.heap.size w w':=by
 have hcon:jr prog G 8 (lW gB.sh gB.aT gB.F):=Ba.1;refine(hcon [.sv (.one (.sl fD nI l false)),.sv (.one (.sl fD nI l false))] (l=l) _ 0 (λ_=>True) #[a,b] w rfl rfl hG ⟨qm ha,qm hb,trivial⟩).mono ?_;rintro e w' ⟨v,vals,rfl,h1,h2,h3,h4,h5,h6,_,_⟩;have h6:v=.bool true:=h6;exact⟨by rw[h6],h1,h2,h3,h4,h5⟩
theorem QY{w:World}(hG:G.ok w){u:Int}{n:List UInt8}{l:List (Int×Unit)}{es:List bT}{vi ve ui ue:Value}(h:Ii u n)(hi:RI w (lt w) vi l)(he:RE w (lt w) ve es)(ki:RI w (lt w) ui l)(ke:RE w (lt w) ue es):
 Calls prog 9 #[kN u n vi ve,kN u n ui ue] w λo w'=>o=.returned (.bool true)/\Below w.heap.size w w':=by
 have hcon:jr prog G 9 (lW jc.sh jc.aT jc.F):=EZ.1;refine(hcon [KD u n l es,KD u n l es] (((u,n,l,es,()):Int×List UInt8×List (Int×Unit)×List bT×Unit)=(u,n,l,es,())) _ 0 (λ_=>True) #[kN u n vi ve,kN u n ui ue] w rfl rfl hG ⟨Ap h hi he,Ap h ki ke,trivial⟩).mono ?_;rintro e w' ⟨v,vals,rfl,h1,h2,h3,h4,h5,h6,_,_⟩;have h6:v=.bool true:=h6;exact⟨by rw[h6],h1,h2,h3,h4,h5⟩
theorem P9{w:World}(hG:G.ok w){a:Value}{l:List (List UInt8×Unit)}(ha:RS w (lt w) a l)(hl:l.length<=4000000):
 Calls prog 12 #[a,.int .i64 1] w λo w'=>o=.returned (.int .i64 (rD l 1))/\Below w.heap.size w w':=by
 have hcon:jr prog G 12 (lW dY.sh dY.aT dY.F):=yH.1;refine(hcon [.sv (.one (.sl fD nI l false)),.sv (.one (.int .i64 1))] ((0:Int)<=1/\(1:Int)<=10000000/\l.length<=4000000) ⟨[(false,[.plain (.int .i64 (rD l 1))])],none⟩ 0 (λ_=>True) #[a,.int .i64 1] w rfl ⟨by decide,by decide,hl⟩ hG ⟨qm ha,⟨rfl,E8 (by decide)⟩,trivial⟩).mono ?_;rintro e w' ⟨v,vals,rfl,h1,h2,h3,h4,h5,h6,_,_⟩;have h6:v=.int .i64 _/\_:=h6;exact⟨by rw[h6.1],h1,h2,h3,h4,h5⟩
theorem Ub(k:Int)(hk:0<=k/\k<=1000000000){w:World}(hG:G.ok w):
 Calls prog 27 #[.int .i64 k] w λo w'=>o=.returned (.string ⟨(Sp.markT k).toArray⟩)/\Below w.heap.size w w':=by
 have hcon:jr prog G 27 (lW fE.sh fE.aT fE.F):=ug.1;refine(hcon [.sv (.one (.int .i64 k))] (0<=k/\k<=1000000000) _ 0 (λ_=>True) #[.int .i64 k] w rfl hk hG ⟨⟨rfl,E8 hk⟩,trivial⟩).mono ?_;rintro e w' ⟨v,vals,rfl,h1,h2,h3,h4,h5,h6,_,_⟩;have h6:v=.string ⟨(Sp.markT k).toArray⟩/\_:=h6;exact⟨by rw[h6.1],h1,h2,h3,h4,h5⟩
end Go.Proofs.Tryd
namespace Go.Proofs.Tryd
open Go Go.Fw Go.RowKit Sp
set_option maxRecDepth 100000
def lF:Nat->Int->List (List UInt8×Unit)
 |0,_=>[]
 |n+1,k=>(Sp.markT k,())::lF n (k+1)
theorem lG:∀(n:Nat)(k:Int),(lF n k).length=n
 |0,_=>rfl
 |n+1,k=>congrArg (· +1) (lG n (k+1))
theorem Fa:∀(n:Nat)(k:Int)(i:Nat),i<n->(lF n k)[i]? =some (Sp.markT (k+i),())
 |n+1,k,0,_=>by rw[lF,List.getElem?_cons_zero,show k+((0:Nat):Int)=k by omega]
 |n+1,k,i+1,h=>by rw[lF,List.getElem?_cons_succ,Fa n (k+1) i (by omega),show k+1+(i:Int)=k+((i+1:Nat):Int) by omega]
theorem zO:∀(n:Nat)(k:Int),rD (lF n k) k=k+n
 |0,k=>by show k=k+((0:Nat):Int);omega
 |n+1,k=>by rw[lF,rD,if_pos rfl,zO n (k+1)];omega
theorem QZ{w:World}{b i:Nat}{u:Value}(v:Value)(h:w.cell? ⟨b,i,none⟩=some u):(w.setCell ⟨b,i,none⟩ v).cell? ⟨b,i,none⟩=some v:=by
 rcases hW:w.heap[b]? with _|o
 .simp[World.cell?,hW]at h
 .cases o with
  |cells cs t fz=>
   rw[gu hW]at h;rw[gu (Gi hW i v),aah,if_pos (Zd.1 h).1]
  |_=>simp[World.cell?,hW]at h
theorem Uc{w:World}{b i j:Nat}{u:Value}(v:Value)(hij:i≠j)(h:w.cell? ⟨b,j,none⟩=some u):(w.setCell ⟨b,i,none⟩ v).cell? ⟨b,j,none⟩=some u:=by
 rcases hW:w.heap[b]? with _|o
 .simp[World.cell?,hW]at h
 .cases o with
  |cells cs t fz=>
   rw[gu hW]at h;rw[gu (Gi hW i v),aak hij,h]
  |_=>simp[World.cell?,hW]at h
theorem cell_below{w w':World}(h:Below w.heap.size w w'){b i:Nat}{u:Value}(hc:w.cell? ⟨b,i,none⟩=some u):w'.cell? ⟨b,i,none⟩=some u:=by
 rcases hW:w.heap[b]? with _|o
 .simp[World.cell?,hW]at hc
 .have:=(h.block b (Zd.1 hW).1).trans hW;simp only[World.cell?,hW]at hc;simp only[World.cell?,this,hc]
theorem Qa(k:Int)(h:0<=k/\k<=1000000000):(Sp.markT k).length<=maxLen:=by have:=rY k (by omega);rw[maxLen_eq];show(Lib.itoa k).length+1<=_;omega
set_option maxHeartbeats 16000000 in
theorem Om(W:World)(hG:G.ok W)(P:Nat->Prop)(hP:∀b,P b->G.n<=b)(v:Value)(l:List (List UInt8×Unit))(k:Int)(h:jF W.heap P (.sl fD nI) v l)(hk:0<=k/\k<=10000000)(hl:l.length<=2000000):
 Calls prog 11 #[v,.int .i64 k] W λe w'=>e=.returned (.int .i64 (k+l.length))/\bK P W w'/\RS w' P v (lF l.length k):=by
 have mixed:=Tryd.mixed;have h0:=h;rcases h with⟨rfl,a,c,rfl⟩|⟨b,off,cap,cs,t,fz,rfl,h2,h3,h4,h5,h6⟩
 .clear h0
  go_enter Tryd.func11,Tryd.ntmps11
  go_wp2
  go_loopw [1,5] (λkk i wr=>kk=.int .i64 k/\i=.int .i64 0/\wr=W) (λ_ _ _=>0)
  case atStart=>exact⟨rfl,rfl,rfl⟩
  case round=>
   obtain⟨rfl,rfl,rfl⟩:=hrel
   go_wp2
   all_goals go_ret
   all_goals exact⟨by simp,bK.refl _ _,Zm _,.inl ⟨rfl,a,c,rfl⟩⟩
 .clear h4 h5 h6
  go_enter Tryd.func11,Tryd.ntmps11
  go_wp2
  go_loopw [1,5] (λkk i wr=>∃(m:Nat),m<=l.length/\kk=.int .i64 (k+m)/\i=.int .i64 m/\bK P W wr/\∀j:Nat,j<m->wr.cell? ⟨b,off+j,none⟩=some (.string ⟨(Sp.markT (k+j)).toArray⟩))
   (λ_ i _=>l.length-(intOf i).toNat)
  case atStart=>exact⟨0,Zm _,by simp,rfl,bK.refl _ _,λj hj=>absurd hj (Nat.not_lt_zero _)⟩
  case round=>
   obtain⟨m,hm,rfl,rfl,hst,DL⟩:=hrel;rcases Zp m l.length with hlt|hge
   .have hlt':((m:Nat):Int)<l.length:=by omega
    obtain⟨x,hx⟩:∃x,l[m]? =some x:=⟨_,Zf hlt⟩;have call:=Ub (k+m) (by omega) (hst.W9 hG hP)
    go_wp2_with (first
     |(go_at_call 27;refine Zo call ?_;clear call;rintro o w2 ⟨rfl,hb2⟩;have st2:=hst.trans (bK.of (P:=P) hb2);rcases h0.keep st2 with⟨rfl,_⟩|⟨b',off',cap',cs',t',fz',e,_,_,k4,k5,k6⟩;cases hx;cases e;obtain⟨u0,_,q,s0,_⟩:=k6 m x hx;have c0:cs'[off+m]? =some u0:=(congrArg (cs'[·]?) (show off+m=off+m*1+0 by omega)).trans (tK q rfl);have z0:=J3 k4 (k5 _ (Zd.1 c0).1);have d0:w2.cell? ⟨b,off+m,none⟩=some u0:=(gu k4 _).trans c0;have U6:=st2.trans (bK.set (.string ⟨(Sp.markT (k+m)).toArray⟩) d0 s0 h3 trivial);have hf3:∀j:Nat,j<m+1->(w2.setCell ⟨b,off+m,none⟩ (.string ⟨(Sp.markT (k+m)).toArray⟩)).cell? ⟨b,off+j,none⟩=some (.string ⟨(Sp.markT (k+j)).toArray⟩):=(λj hj=>by
        rcases Zp j m with hjm|hjm
        .exact Uc _ (by omega) (cell_below hb2 (DL j hjm))
        .obtain rfl:j=m:=by omega
         exact QZ _ d0);clear q k4 k5 k6 c0 h0 DL))
    refine⟨⟨m+1,hlt,congrArg _ (by omega),rfl,U6,hf3⟩,?_⟩;simp only[intOf];omega
   .have hge':¬((m:Nat):Int)<l.length:=by omega
    obtain rfl:m=l.length:=by omega
    have hrs:RS wr P (.slice (some ⟨b,off,none⟩) l.length cap) (lF l.length k):=by
     rcases h0.keep hst with⟨rfl,_⟩|⟨b',off',cap',cs',t',fz',e,_,_,k4,_,_⟩
     .exact⟨Zm _,.inl ⟨rfl,_,_,rfl⟩⟩
     cases e;refine⟨by rw[lG,maxLen_eq];omega,.inr ⟨b,off,cap,cs',t',fz',by rw[lG],by rw[lG];exact h2,h3,k4,λi x hx=>?_⟩⟩;have hi:i<l.length:=by have:=(Y8.1 hx).1;rw[lG]at this;exact this
     rw[Fa _ _ i hi]at hx;cases hx;have hc:=DL i hi;rw[gu k4]at hc;obtain⟨hl1,e1⟩:=Zd.1 hc;refine⟨_,[],?_,⟨rfl,Qa _ (by omega)⟩,rfl⟩;rw[show off+i*nI.len=off+i from by show off+i*1=_;omega,List.drop_eq_getElem_cons (by simpa using hl1),Array.getElem_toList,e1];rfl
    clear h0 DL
    go_wp2
    all_goals go_ret
    all_goals exact⟨rfl,hst,hrs⟩
end Go.Proofs.Tryd
namespace Go.Proofs.Tryd
open Go Go.Fw Go.RowKit Sp
set_option maxRecDepth 100000
theorem four{w:World}{g:Nat}{x0 x1 x2 x3:Value}{t:TypeId}{fz:Nat×Nat}(h:w.heap[g]? =some (.cells #[x0,x1,x2,x3] t fz)):
 w.cell? ⟨g,0,none⟩=some x0/\w.cell? ⟨g,1,none⟩=some x1/\w.cell? ⟨g,2,none⟩=some x2/\w.cell? ⟨g,3,none⟩=some x3:=
 ⟨gu h 0,gu h 1,gu h 2,gu h 3⟩
theorem Q5{u:Int}{n:List UInt8}{l:List (Int×Unit)}{es:List bT}(h:0<=aO (oL (u,n,l,es,())) 1048576):oL (u,n,l,es,())<=1048576:=by unfold aO at h;split at h<;>omega
theorem Qb:∀es:List bT,cnt ql es=oq es
 |[]=>rfl
 |⟨n,a,r,⟨⟩⟩::es=>by show 1+a.length+r.length+cnt ql es=1+(a.length+r.length)+oq es;rw[Qb es];omega
theorem Oo{u:Int}{n:List UInt8}{l:List (Int×Unit)}{es:List bT}(h:oL (u,n,l,es,())<=1048576):
 l.length+oq es<=big/\(ku (u,n,l,es,())).length<=2000000/\l.length<=2000000/\es.length<=2000000/\cnt ql es<=2000000:=by
 have h:n.length+(l.length+mY qZ es)<=1048576:=h;have e:(ku (u,n,l,es,())).length=es.length+1:=by simp[ku]
 have h1:=mD qZ es;rw[e,Qb,tJ];unfold oq;omega
set_option maxHeartbeats 16000000 in
theorem Q7(W:World)(hG:G.ok W){u:Int}{n:List UInt8}{l:List (Int×Unit)}{es:List bT}{vi ve:Value}(h:Ii u n)(hi:RI W (lt W) vi l)(he:RL W (lt W) ve es):
 Calls prog 3 #[kN u n vi ve] W λe w'=>e=.returned (.bool true)/\Below W.heap.size W w':=by
 have mixed:=Tryd.mixed;have hi':∀{w},Below W.heap.size W w->RI w (lt w) vi l:=λk=>aU.mono (λb hb=>⟨Zc hb k.size,k.block b hb⟩) _ _ _ hi;have he':∀{w},Below W.heap.size W w->RL w (lt w) ve es:=λk=>aU.mono (λb hb=>⟨Zc hb k.size,k.block b hb⟩) _ _ _ he;obtain⟨a1,c1,rfl⟩:=sH hi;obtain⟨a2,c2,rfl⟩:=sH he;have g0:∀{w},Below W.heap.size W w->G.ok w:=λk=>TY hG k;have Du:∀o,Below W.heap.size W (W.alloc o):=λo=>(Below.refl _ _).alloc (Zg _) o;have sz:=λo=>Ua (g0 (Du o)) h (hi' (Du o)) (he' (Du o));have hSz:∃S,S=aO (oL (u,n,l,es,())) 1048576:=⟨_,rfl⟩;obtain⟨S,hSz⟩:=hSz;rw[← hSz]at sz;rcases Int.lt_or_le S 0 with hneg|hpos
 .clear hSz;unfold kN at sz ⊢
  go_enter Tryd.func3,Tryd.ntmps3
  go_wp2_with (first
   |(go_at_call 4;refine Zo (sz _) ?_;rintro e w1 ⟨rfl,hb1⟩;have KE:=(Du _).trans (hb1.mono (Du _).size)))
  all_goals go_ret
  all_goals exact⟨rfl,KE⟩
 .rw[hSz]at hpos;have hW:=Q5 hpos;rw[← hSz]at hpos;clear hSz;have hpos:¬S<0:=by omega
  obtain⟨hB,hl,hi2,he2,hce⟩:=Oo hW;have toW:=λ{w:World}(k:Below W.heap.size W w)=>toW_runs (g0 k) h (hi' k) (he' k) hB;have Oq:=λ{w:World}{vi ve:Value}(k:Below W.heap.size W w)(ki:RI w (lt w) vi l)(ke:RE w (lt w) ve es)=>P7 (g0 k) h ki ke hW;have Ot:=λ{w:World}{vi ve:Value}(k:Below W.heap.size W w)(ki:RI w (lt w) vi l)(ke:RE w (lt w) ve es)=>P8 (g0 k) h ki ke hW;have U7:=λ{w:World}{vi ve ui ue:Value}(k:Below W.heap.size W w)(ki:RI w (lt w) vi l)(ke:RE w (lt w) ve es)(mi:RI w (lt w) ui l)(me:RE w (lt w) ue es)=>QY (g0 k) h ki ke mi me;obtain⟨tx,htx⟩:∃tx,tx=ku (u,n,l,es,()):=⟨_,rfl⟩;rw[← htx]at Oq Ot hl;have hk0:¬1+(l.length:Int)+(cnt ql es:Int)<0:=by omega
  have Tf:=λ{w:World}{v:Value}(k:G.ok w)(r:RS w (lt w) v (lF tx.length 1))=>(zO tx.length 1)▸P9 k r (by rw[lG];omega);clear htx;have tk1:=Tok.mk 1;unfold kN at*
  go_enter Tryd.func3,Tryd.ntmps3
  go_wp2_with (first
   |(go_at_call 4;refine Zo (sz _) ?_;rintro e w1 ⟨rfl,hb1⟩;have KE:=(Du _).trans (hb1.mono (Du _).size);have bx1:=(hb1.block _ (by simp)).trans (heap_alloc_new W _);obtain⟨d0,d1,d2,d3⟩:=four bx1;clear tk1 sz;have tk2:=Tok.mk 2)
   |(go_at_call 6;have _:=tk2;refine Zo (toW KE) ?_;rintro e w2 ⟨ui,ue,rfl,hb2,ri,re⟩;have m2:Mem w2 [.box W.heap.size _]:=Mem.below hb2 ⟨bx1,trivial⟩;have Q8:=KE.trans (hb2.mono KE.size);clear bx1 d0 d1 d2 d3;clear tk2;have WC:=Tok.mk 3)
   |(go_at_call 5;have _:=WC;refine Zo (Oq Q8 (cO.lt (cO.new ri)) (cO.lt (cO.new re))) ?_;rintro e w3 ⟨v0,rfl,hb3,rs⟩;have m3:Mem w3 [.box W.heap.size _]:=m2.below hb3;have Gy:=Q8.trans (hb3.mono Q8.size);obtain⟨d0,d1,d2,d3⟩:=four m3.1;obtain⟨a3,c3,rfl⟩:=sH rs;have m3:Mem w3 [.box W.heap.size _,.tree _ _ _ _ _]:=⟨m3.1,cO.new rs,trivial⟩;have h03:=(Zd.1 m3.1).1;clear WC ri re m2 rs Oq;have WE:=Tok.mk 4)
   |(go_at_call 6;have _:=WE;refine Zo (toW Gy) ?_;rintro e w4 ⟨ui,ue,rfl,hb4,ri,re⟩;have low4:=λo=>(Gy.trans (hb4.mono Gy.size)).alloc (Gy.trans (hb4.mono Gy.size)).size o;obtain⟨a4,c4,rfl⟩:=sH ri;obtain⟨a5,c5,rfl⟩:=sH re;have m4:∀o,Mem (w4.alloc o) [.box W.heap.size _,.tree _ _ _ _ _,.tree _ _ _ _ _,.tree _ _ _ _ _]:=λo=>Mem.below ((Below.refl _ _).alloc (Zg _) o) (have q:=m3.below hb4;⟨q.1,q.2.1,cO.new ri,cO.new re,trivial⟩);have WG:=hb4.size;have h45:∀o:Obj,w4.heap.size<=(w4.alloc o).heap.size:=(λo=>by simp);clear WE m3 ri re d0 d1 d2 d3;have WH:=Tok.mk 5)
   |(go_at_call 7;have _:=WH;refine Zo (Ot (low4 _) (cO.lt (m4 _).2.2.1) (cO.lt (m4 _).2.2.2.1)) ?_;rintro e w5 ⟨g,rfl,hb5,rg⟩;have Q9:=(low4 _).trans (hb5.mono (low4 _).size);have WI:=(hb5.block _ (by simp)).trans (heap_alloc_new w4 _);obtain⟨a6,c6,rfl⟩:=sH rg;have m5:Mem w5 [.box W.heap.size _,.tree _ _ _ _ _,.tree _ _ _ _ _,.tree _ _ _ _ _,.box w4.heap.size _,.tree _ _ _ _ _]:=(have q:=(m4 _).below hb5;⟨q.1,q.2.1,q.2.2.1,q.2.2.2.1,WI,cO.new rg,trivial⟩);clear WH m4 rg WI;have WJ:=Tok.mk 6)
   |(go_at_call 8;have _:=WJ;refine Zo (Dt (g0 Q9) (cO.lt m5.2.2.2.2.2.1) (cO.lt m5.2.1)) ?_;rintro e w6 ⟨rfl,hb6⟩;have Rf:=Q9.trans (hb6.mono Q9.size);have m6:=m5.below hb6;obtain⟨d0,d1,d2,d3⟩:=four m6.1;obtain⟨x0,x1,x2,x3⟩:=four m6.2.2.2.2.1;clear WJ m5;have YW:=Tok.mk 7))
  go_region_held3 (λw'=>(w'.cell? ⟨W.heap.size,0,none⟩=some (.int .i64 u)/\w'.cell? ⟨W.heap.size,1,none⟩=some (.string ⟨n.toArray⟩)/\w'.cell? ⟨W.heap.size,2,none⟩=some (.slice a1 l.length c1)/\w'.cell? ⟨W.heap.size,3,none⟩=some (.slice a2 es.length c2))/\
   w'.cell? ⟨w4.heap.size,0,none⟩=some (.int .i64 u)/\w'.cell? ⟨w4.heap.size,1,none⟩=some (.string ⟨n.toArray⟩)/\w'.cell? ⟨w4.heap.size,2,none⟩=some (.slice a4 l.length c4)/\w'.cell? ⟨w4.heap.size,3,none⟩=some (.slice a5 es.length c5))
   (first|exact⟨four m8.1,four m8.2.2.2.2.1⟩|exact⟨four m7.1,four m7.2.2.2.2.1⟩|exact⟨four m6.1,four m6.2.2.2.2.1⟩)
   (first
     |(go_at_call 6;refine Zo (toW Rf.drew) ?_;rintro e w7 ⟨ui,ue,rfl,hb7,ri,re⟩;have Gz:=Rf.drew.trans (hb7.mono Rf.size);have m7:=(Mem.below ((Below.refl _ w6).drew) m6).below hb7)
     |(go_at_call 9;refine Zo (U7 Gz (cO.lt m7.2.2.1) (cO.lt m7.2.2.2.1) (cO.lt (cO.new ri)) (cO.lt (cO.new re))) ?_;rintro e w8 ⟨rfl,hb8⟩;have Rh:=Gz.trans (hb8.mono Gz.size);have m8:=m7.below hb8)
     |(go_at_call 9;refine Zo (U7 Gz.drew (cO.lt m7.2.2.1) (cO.lt m7.2.2.2.1) (cO.lt (cO.new ri)) (cO.lt (cO.new re))) ?_;rintro e w8 ⟨rfl,hb8⟩;have Rh:=Gz.drew.trans (hb8.mono Gz.size);have m8:=(Mem.below ((Below.refl _ w7).drew) m7).below hb8))
  clear U7;obtain⟨x0,x1,x2,x3⟩:=four m8.2.2.2.2.1;have WL:=Tok.mk 9
  go_wp2_with (first
   |(go_at_call 10;have _:=WL;refine Zo (Ol (P:=Rg w8 w3.heap.size w4.heap.size) (λb hb=>Zc hb.2.1 m8.2.2.1.1) u _ (cO.shape m8.2.2.1) (cO.shape m8.2.2.2.1) (by omega) hi2 hce he2) ?_;rintro e w9 ⟨rfl,s9⟩;have Ri:=J5 Rh s9 Rh.size (λb hb=>Y9 Gy.size hb.1);have m9:Mem w9 [.box W.heap.size _,.tree _ _ _ _ _,.tree _ _ _ _ _]:=Mem.soft s9 ⟨m8.1,m8.2.1,m8.2.2.2.2.2.1,trivial⟩ ⟨λhb=>aaz.2 hb.1 h03,λb hb=>by have:=hb.1;omega,λb hb hc=>aaz.2 (Y9 (h45 _) hc.1) hb.2.1,trivial⟩;clear WL m8 x0 x1 x2 x3;have U8:=Tok.mk 10)
   |(go_at_call 8;have _:=U8;refine Zo (Dt (g0 Ri) (cO.lt m9.2.2.1) (cO.lt m9.2.1)) ?_;rintro e w10 ⟨rfl,U9⟩;have Ou:=Ri.trans (U9.mono Ri.size);have m10:=m9.below U9;clear U8 m9;have Va:=Tok.mk 11)
   |(go_at_call 11;have _:=Va;refine Zo (Om w10 (g0 Ou) _ (λb hb=>Y9 (Y9 (G.low W hG) (low4 _).size) hb.1) _ _ 1 (cO.shape m10.2.2.1) (by omega) hl) ?_;rintro e Vb ⟨rfl,s11,rg⟩;have Ov:=J5 Ou s11 Ou.size (λb hb=>Y9 (low4 _).size hb.1);have m11:Mem Vb [.box W.heap.size _,.tree _ _ _ _ _]:=Mem.soft s11 ⟨m10.1,m10.2.1,trivial⟩ ⟨λhb=>aaz.2 (Y9 WG (Y9 (h45 _) hb.1)) h03,λb hb hc=>aaz.2 (Y9 WG (Y9 (h45 _) hb.1)) hc.2,trivial⟩;have rg:RS Vb (lt Vb) _ _:=aU.mono (λb hb=>⟨Zc hb.2.1 (Y9 m10.2.2.1.1 s11.size),rfl⟩) _ _ _ rg;clear Va m10;have Vd:=Tok.mk 12)
   |(go_at_call 12;have _:=Vd;refine Zo (Tf (g0 Ov) rg) ?_;rintro e w12 ⟨rfl,Ox⟩;have Oy:=Ov.trans (Ox.mono Ov.size);have m12:=m11.below Ox;have WM:RS w12 (lt w12) _ _:=aU.mono (λb hb=>⟨Zc hb Ox.size,Ox.block b hb⟩) _ _ _ rg;obtain⟨d0,d1,d2,d3⟩:=four m12.1;clear Vd m11 rg;have Ve:=Tok.mk 13)
   |(go_at_call 6;have _:=Ve;refine Zo (toW Oy) ?_;rintro e WN ⟨ui,ue,rfl,Oz,ri,re⟩;have OA:=Oy.trans (Oz.mono Oy.size);have m13:=m12.below Oz;have WO:RS WN (lt WN) _ _:=aU.mono (λb hb=>⟨Zc hb Oz.size,Oz.block b hb⟩) _ _ _ WM;clear Ve m12 d0 d1 d2 d3 WM;have Vf:=Tok.mk 14)
   |(go_at_call 7;have _:=Vf;refine Zo (Ot OA (cO.lt (cO.new ri)) (cO.lt (cO.new re))) ?_;rintro e WQ ⟨h0,rfl,OB,rh⟩;have OC:=OA.trans (OB.mono OA.size);have m14:=m13.below OB;have WR:RS WQ (lt WQ) _ _:=aU.mono (λb hb=>⟨Zc hb OB.size,OB.block b hb⟩) _ _ _ WO;clear Vf m13 WO ri re;have Vg:=Tok.mk 15)
   |(go_at_call 8;have _:=Vg;refine Zo (Dt (g0 OC) (cO.lt (cO.new rh)) (cO.lt m14.2.1)) ?_;rintro e WS ⟨rfl,Rj⟩;have OD:=OC.trans (Rj.mono OC.size);have Yk:RS WS (lt WS) _ _:=aU.mono (λb hb=>⟨Zc hb Rj.size,Rj.block b hb⟩) _ _ _ WR;clear Vg m14 rh WR;have Vh:=Tok.mk 16)
   |(go_at_call 12;have _:=Vh;refine Zo (Tf (g0 OD) Yk) ?_;rintro e w16 ⟨rfl,hb16⟩;have V3:=OD.trans (hb16.mono OD.size);clear Vh;have YJ:=Tok.mk 17))
  all_goals go_ret
  all_goals exact⟨rfl,V3⟩
theorem qX:jr prog G 3 (lW [.v (.agg [.i,.s,.l aX dm,.l bZ kC])] [.one .bool] λ_=>(True,true,()))/\True:=by
 refine⟨?_,trivial⟩;intro args p out k S vs w hcon hp hG hrep;unfold lW rM at hcon;split at hcon
 .next x hx=>
  revert x;show∀x:(Int×List UInt8×List (Int×Unit)×List bT×Unit)×Unit,_;rintro⟨⟨u,n,l,es,⟨⟩⟩,⟨⟩⟩ hx hcon;have hv:=zl [.v (.agg [.i,.s,.l aX dm,.l bZ kC])] args _ vs.toList hx hrep
  match hvs:vs.toList,hv with
  |[v],hv=>
   obtain⟨⟨us,e1,hu⟩,_⟩:=hv;obtain⟨ul⟩:=us
   match ul,hu with
   |[x1,x2,x3,x4],hu=>
    obtain⟨b1,b2,b3,b4,_⟩:=hu;have e2:vs=#[kN u n x3 x4]:=by obtain⟨l⟩:=vs;simp at hvs;rw[hvs,e1,b1.1,b2.1];rfl
    subst e2;have hF:=Option.some.inj hcon;have hout:out=⟨[(false,[.plain (.bool true)])],none⟩:=(congrArg Prod.snd hF).symm;subst hout;refine(Q7 w hG ⟨b1.2,b2.2⟩ (aU.mono (λb hb=>⟨hb.1.1,rfl⟩) _ _ _ b3) (aU.mono (λb hb=>⟨hb.1.1,rfl⟩) _ _ _ b4)).mono ?_;rintro e w' ⟨rfl,hb⟩;exact⟨_,λ_=>undef,rfl,hb.os,hb.tape,hb.output,hb.size,hb.block,rfl,(λo x hx=>by cases hx),(λo x q y b hx=>by cases hx)⟩
 .cases hcon
end Go.Proofs.Tryd
