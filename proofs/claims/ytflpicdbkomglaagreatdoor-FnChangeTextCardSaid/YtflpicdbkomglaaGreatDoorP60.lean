import Derived.Test.YtflpicdbkomglaaGreatDoorP1
import Derived.Test.YtflpicdbkomglaaGreatDoorL4
import Derived.Test.YtflpicdbkomglaaGreatDoorV20
import Derived.Test.YtflpicdbkomglaaGreatDoorSp
import Derived.Test.YtflpicdbkomglaaGreatDoorFwC
import Derived.Test.YtflpicdbkomglaaGreatDoorV22
import Derived.Test.YtflpicdbkomglaaGreatDoorV21
namespace Go.Proofs.Tryz
open Go Go.Fw Go.IntWalk Sp
theorem vZ:OK mD.e:=by refine PA.ok mixed (aQ [(EK,.pure BR)] ⟨⟨Xi,VQ⟩,trivial⟩) H0 (by kernel_rfl) (show∀n,mD.goal (Ul n) (n,())from ?_);intro n hin hp;dsimp only[mD]at hp ⊢;exact⟨hin.1,rfl⟩
theorem Um:OK xw.e:=by
 refine PA.ok mixed (aQ [] trivial) H0 (by kernel_rfl) (show∀Pv,xw.goal (Un Pv) (Pv,())from ?_);intro x hin hp;dsimp only[xw]at hp ⊢;obtain⟨h0,h1⟩:=hp;refine af (λh=>?_) λh=>?_<;>simp only[anl,an1]at h
 .rw[i64_in (48+x) (by omega),u8_in (48+x) (by omega)]
 .omega
theorem Zb{c:Int}(h:¬c.tmod 10<0):c.tmod 10=((c.natAbs%10:Nat):Int):=by have:(c.tmod 10).natAbs=c.natAbs%10:=ap8 c 10;omega
theorem ady{c:Int}(h:c.tmod 10<0):0-c.tmod 10=((c.natAbs%10:Nat):Int):=by have:(c.tmod 10).natAbs=c.natAbs%10:=ap8 c 10;omega
theorem RN(k:Nat):byteRow [((48:Int)+(k:Int),())]=[UInt8.ofNat (48+k)]:=by
 have:((48:Int)+(k:Int)).toNat=48+k:=by omega
 simp[byteRow,Vq,this]
theorem aff{n c:Nat}{s:List UInt8}(hc:c≠0)(hJ:Lib.decDigits n=(if c=0 then[]else Lib.decDigits c)++s):
 Lib.decDigits n=(if c / 10=0 then[]else Lib.decDigits (c / 10))++(UInt8.ofNat (48+c%10)::s):=by
 rw[hJ,if_neg hc,Zc c];simp
theorem qW:OK jV.e:=by
 refine PA.ok mixed (aQ [xw.e] ⟨Um,trivial⟩) V5 (by kernel_rfl) (show∀n,jV.goal (Uo n) (n,())from ?_);intro n hin hp;dsimp only[jV]at hp ⊢;have h0:(-9223372036854775808:Int)<=n/\n<=9223372036854775807:=hin.1;have hL:=Lib.itoa_length_le n h0.1 h0.2;have hD:(Lib.decDigits n.natAbs).length<=21:=by
  unfold Lib.itoa at hL;split at hL
  .simp at hL;omega
  .rw[show n.natAbs=n.toNat by omega];exact hL
 refine af (λh=>?_) λh=>?_
 .have:n=0:=by simpa using h
  subst this;simp[Lib.itoa,Lib.decDigits]
 .have hn0:n≠0:=by simpa using h
  refine⟨λy=>-9223372036854775808<=y.1.1/\y.1.1<=9223372036854775807/\Lib.decDigits n.natAbs=(if y.1.1.natAbs=0 then[]else Lib.decDigits y.1.1.natAbs)++y.1.2.1,λy=>y.1.1.natAbs,⟨h0.1,h0.2,?_⟩,?_⟩
  .show _=(if n.natAbs=0 then _ else _)++_;rw[if_neg (by omega)];simp
  rintro⟨⟨c,s,⟨⟩⟩,⟨⟩⟩ ⟨hc1,hc2,hJ⟩;dsimp only at hc1 hc2 hJ ⊢;have hs:s.length<=21:=by rw[hJ,anf]at hD;omega
  have hq:(c.tdiv 10).natAbs=c.natAbs / 10:=Int.natAbs_tdiv c 10;have hrow:∀k:Nat,(byteRow [((48:Int)+(k:Int),())]).length=1:=λk=>by rw[RN];rfl
  refine af (λh=>?_) λh=>?_
  .have hc:c.natAbs≠0:=by simp at h;omega
   have hstep:=aff hc hJ;have hm:c.natAbs%10<10:=apR _ (by decide);have hlt:c.natAbs / 10<c.natAbs:=Nat.div_lt_self (by omega) (by decide);have hw:IntKind.i64.wrap (c.tdiv 10)=c.tdiv 10:=gJ _ (by omega);refine⟨by decide,af (λhd=>?_) λhd=>?_⟩<;>simp only[anl,an1]at hd
   .have e:=ady hd;rw[gJ (0-c.tmod 10) (by omega),e,hw,RN];refine⟨⟨by omega,by omega⟩,by simp only[anh,anj];rw[maxLen_eq];omega,by decide,rfl,⟨by dsimp only;omega,by dsimp only;omega,?_⟩,?_⟩
    .show _=(if(c.tdiv 10).natAbs=0 then[]else Lib.decDigits (c.tdiv 10).natAbs)++_;rw[hq];exact hstep
    .show(c.tdiv 10).natAbs<c.natAbs;rw[hq];exact hlt
   .have e:=Zb hd;rw[e,hw,RN];refine⟨⟨by omega,by omega⟩,by simp only[anh,anj];rw[maxLen_eq];omega,by decide,rfl,⟨by dsimp only;omega,by dsimp only;omega,?_⟩,?_⟩
    .show _=(if(c.tdiv 10).natAbs=0 then[]else Lib.decDigits (c.tdiv 10).natAbs)++_;rw[hq];exact hstep
    .show(c.tdiv 10).natAbs<c.natAbs;rw[hq];exact hlt
  .have hc:c=0:=by simpa using h
   subst hc;have hJ:Lib.decDigits n.natAbs=s:=by simpa using hJ
   subst hJ;refine af (λhd=>?_) λhd=>?_<;>simp only[anl,an1]at hd
   .refine⟨by simp only[anh,anj];rw[maxLen_eq];omega,?_⟩;rw[Lib.itoa,if_pos hd];rfl
   .rw[Lib.itoa,if_neg hd,show n.toNat=n.natAbs by omega]
theorem ai3{p q:Bool}{K:Bool×Unit->Prop}(h:K ((p&&q),())):bif p then K (q,())else K (false,()):=by cases p<;>exact h
theorem MO:OK rq.e:=by refine PA.ok mixed (aQ [iF.e] ⟨kD,trivial⟩) H0 (by kernel_rfl) (show∀a0 a1 a2 a3 a4,rq.goal (MP a0 a1 a2 a3 a4) ((a0,a1,a2,a3,a4,()),())from ?_);intro a0 a1 a2 a3 a4 hin hp;dsimp only[rq]at hp ⊢;exact⟨trivial,ai3 (K:=λr=>r=(_,())) rfl⟩
theorem MQ:OK ru.e:=by refine PA.ok mixed (aQ [jw.e] ⟨nC,trivial⟩) H0 (by kernel_rfl) (show∀a0 a1 a2 a3 a4,ru.goal (MR a0 a1 a2 a3 a4) ((a0,a1,a2,a3,a4,()),())from ?_);intro a0 a1 a2 a3 a4 hin hp;dsimp only[ru]at hp ⊢;exact⟨trivial,ai3 (K:=λr=>r=(_,())) rfl⟩
theorem xP:OK lJ.e:=by refine PA.ok mixed (aQ [jw.e] ⟨nC,trivial⟩) H0 (by kernel_rfl) (show∀n,lJ.goal (Oy n) (n,())from ?_);intro n hin hp;dsimp only[lJ]at hp ⊢;exact⟨trivial,rfl⟩
theorem U0:∀(l:Sp.LI)(k:Int),0<=k->decide (Sp.idxFrom k l>=0)=!iU l
 |[],k,h=>by simp[Sp.idxFrom,iU]
 |x::r,k,h=>by
  have ih:=U0 r (k+1) (by omega);unfold iU at ih ⊢;rw[Sp.idxFrom,aoj];cases hx:aB x.1 with
  |true=>rw[if_pos rfl,ih];rfl
  |false=>rw[if_neg (by simp)];simp[h]
theorem wS:OK fZ.e:=by
 refine PA.ok mixed (aQ [lJ.e] ⟨xP,trivial⟩) wZ (by kernel_rfl) (show∀s,fZ.goal (wU s) (s,(()),())from ?_);intro s hin hp;dsimp only[fZ]at hp ⊢;have hlen:s.length<=maxLen:=hin.1.1;rw[maxLen_eq]at hlen;refine⟨λy=>∃n:Nat,y.1.1=n/\n<=s.length/\Sp.idxOf s=Sp.idxFrom n (s.drop n),λy=>((s.length:Int)-y.1.1).toNat,⟨0,rfl,by omega,rfl⟩,?_⟩;rintro⟨⟨_,⟨⟩⟩,⟨⟩⟩ ⟨n,rfl,hn,hJ⟩;dsimp only;refine af (λh=>?_) λh=>?_<;>simp only[anl,an1]at h
 .have hlt:n<s.length:=by omega
  rw[drop_cons s n (0,()) hlt,Sp.idxFrom]at hJ;rw[gJ _ (by omega),an9];refine⟨⟨by omega,by omega⟩,trivial,af (λh2=>?_) λh2=>?_⟩
  .rw[if_neg (by intro h3;rw[h3]at h2;cases h2)]at hJ;rw[hJ]
  .have h3:aB (s.getD n (0,())).1=true:=by simpa using h2
   rw[if_pos h3]at hJ;exact⟨rfl,⟨n+1,by simp,by omega,hJ⟩,by dsimp only;omega⟩
 .have hge:n=s.length:=by omega
  rw[hge,ap7]at hJ;rw[hJ];rfl
theorem uV:OK fC.e:=by refine PA.ok mixed (aQ [fZ.e,lJ.e] ⟨wS,xP,trivial⟩) H0 (by kernel_rfl) (show∀s,fC.goal (uX s) (s,(()),())from ?_);intro s hin hp;dsimp only[fC]at hp ⊢;have h:decide (Sp.idxOf s>=0)=!iU s:=U0 s 0 (by omega);exact⟨trivial,by rw[h]⟩
theorem FX:OK qQ.e:=by refine PA.ok mixed (aQ [lJ.e,fC.e] ⟨xP,uV,trivial⟩) H0 (by kernel_rfl) (show∀l,qQ.goal (RP l) (l,())from ?_);intro l hin hp;dsimp only[qQ]at hp ⊢;exact⟨trivial,by rw[Bool.not_not]⟩
theorem H6(n:Int)(h:(-9223372036854775808:Int)<=n/\n<=(9223372036854775807:Int)):(Lib.itoa n).length<=21:=Lib.itoa_length_le n h.1 h.2
theorem le_max{n:Nat}(h:n<=9000000):n<=maxLen:=by rw[maxLen_eq];omega
theorem xQ:OK lK.e:=by
 refine PA.ok mixed (aQ [jV.e,rq.e,jm.e,iF.e] ⟨qW,MO,qC,kD,trivial⟩) PW (by kernel_rfl) (show∀a0 a1 a2 a3 a4,lK.goal (Oz a0 a1 a2 a3 a4) ((a0,a1,a2,a3,a4,()),())from ?_);intro k u c n a hin hp;dsimp only[lK]at hp ⊢;have hn:n.length<=1048576:=hp;have hu:=H6 u hin.1.2.1;have ha:=H6 a hin.1.2.2.2.2.1;refine⟨trivial,?_⟩;intro r0;refine⟨trivial,?_⟩;intro r1;refine⟨trivial,?_⟩;have e0:aB u=r0:=rfl;have e1:aB a=r1:=rfl;unfold aS;rw[e0,e1]
 clear_value r0 r1
 cases hv:iC k c.length with
 |false=>exact⟨λ_=>False,⟨trivial,rfl⟩,λ_ h=>h.elim⟩
 |true=>
 refine⟨λ_=>(decide ((c.length:Int)>0)&&decide (k>2))=false,⟨trivial,?_⟩,λ_ hj=>?_⟩
 .cases decide ((c.length:Int)>0)<;>cases decide (k>2)<;>first|exact rfl|exact⟨rfl,rfl⟩
 simp only[hj,aoc,anO];clear hj hv hp hin;refine aP ((((k==1)&&(r0&&((a==0)&&(n==[])))),()),()) (by cases (k==1)<;>cases r0<;>cases (a==0)<;>exact⟨by trivial,rfl⟩) ?_;refine af (λh=>?_) λh=>?_
 .have h:((k==1)&&(r0&&((a==0)&&(n==[]))))=true:=h;simp only[h,aoa];exact⟨trivial,le_max (by simp only[anf,anh,anj];omega),trivial⟩
 replace h:((k==1)&&(r0&&((a==0)&&(n==[]))))=false:=h
 simp only[h,anO];clear h;refine aP ((((k==2)&&(r0&&(r1&&(n==[])))),()),()) (by cases (k==2)<;>cases r0<;>cases r1<;>exact⟨by trivial,rfl⟩) ?_;refine af (λh=>?_) λh=>?_
 .have h:((k==2)&&(r0&&(r1&&(n==[]))))=true:=h;simp only[h,aoa];exact⟨trivial,le_max (by simp only[anf,anh,anj];omega),le_max (by simp only[anf,anh,anj];omega),trivial,le_max (by simp only[anf,anh,anj];omega),trivial⟩
 replace h:((k==2)&&(r0&&(r1&&(n==[]))))=false:=h
 simp only[h,anO];clear h;refine aP ((((k==3)&&(r0&&((au n)&&(a==0)))),()),()) (by cases (k==3)<;>cases r0<;>cases (au n)<;>exact⟨by trivial,rfl⟩) ?_;refine af (λh=>?_) λh=>?_
 .have h:((k==3)&&(r0&&((au n)&&(a==0))))=true:=h;simp only[h,aoa];exact⟨trivial,le_max (by simp only[anf,anh,anj];omega),le_max (by simp only[anf,anh,anj];omega),le_max (by simp only[anf,anh,anj];omega),trivial⟩
 replace h:((k==3)&&(r0&&((au n)&&(a==0))))=false:=h
 simp only[h,anO];clear h;refine aP ((((k==4)&&((u==0)&&(r1&&(n==[])))),()),()) (by cases (k==4)<;>cases (u==0)<;>cases r1<;>exact⟨by trivial,rfl⟩) ?_;refine af (λh=>?_) λh=>?_
 .have h:((k==4)&&((u==0)&&(r1&&(n==[]))))=true:=h;simp only[h,aoa];exact⟨trivial,le_max (by simp only[anf,anh,anj];omega),trivial⟩
 replace h:((k==4)&&((u==0)&&(r1&&(n==[]))))=false:=h
 simp only[h,anO];clear h;refine aP ((((k==5)&&((u==0)&&(r1&&(n==[])))),()),()) (by cases (k==5)<;>cases (u==0)<;>cases r1<;>exact⟨by trivial,rfl⟩) ?_;refine af (λh=>?_) λh=>?_
 .have h:((k==5)&&((u==0)&&(r1&&(n==[]))))=true:=h;simp only[h,aoa];exact⟨trivial,le_max (by simp only[anf,anh,anj];omega),trivial⟩
 replace h:((k==5)&&((u==0)&&(r1&&(n==[]))))=false:=h
 simp only[h,anO];clear h;refine aP ((((k==6)&&((u==0)&&((a==0)&&(n==[])))),()),()) (by cases (k==6)<;>cases (u==0)<;>cases (a==0)<;>exact⟨by trivial,rfl⟩) ?_;refine af (λh=>?_) λh=>?_
 .have h:((k==6)&&((u==0)&&((a==0)&&(n==[]))))=true:=h;simp only[h,aoa]
 replace h:((k==6)&&((u==0)&&((a==0)&&(n==[]))))=false:=h
 simp only[h,anO];clear h;refine aP ((((k==7)&&(r0&&(r1&&(au n)))),()),()) (by cases (k==7)<;>cases r0<;>cases r1<;>exact⟨by trivial,rfl⟩) ?_;refine af (λh=>?_) λh=>?_
 .have h:((k==7)&&(r0&&(r1&&(au n))))=true:=h;simp only[h,aoa];exact⟨trivial,le_max (by simp only[anf,anh,anj];omega),le_max (by simp only[anf,anh,anj];omega),le_max (by simp only[anf,anh,anj];omega),le_max (by simp only[anf,anh,anj];omega),trivial,le_max (by simp only[anf,anh,anj];omega),trivial⟩
 replace h:((k==7)&&(r0&&(r1&&(au n))))=false:=h
 simp only[h,anO];clear h;refine aP ((((k==8)&&(r0&&(r1&&(au n)))),()),()) (by cases (k==8)<;>cases r0<;>cases r1<;>exact⟨by trivial,rfl⟩) ?_;refine af (λh=>?_) λh=>?_
 .have h:((k==8)&&(r0&&(r1&&(au n))))=true:=h;simp only[h,aoa];exact⟨trivial,le_max (by simp only[anf,anh,anj];omega),le_max (by simp only[anf,anh,anj];omega),le_max (by simp only[anf,anh,anj];omega),le_max (by simp only[anf,anh,anj];omega),trivial,le_max (by simp only[anf,anh,anj];omega),trivial⟩
 replace h:((k==8)&&(r0&&(r1&&(au n))))=false:=h
 simp only[h,anO]
theorem tV(x y:List UInt8):Lib.join [x,y] [32]=x++[32]++y:=by simp[Lib.join_cons,Lib.joinTail]
theorem BL(x y z:List UInt8):Lib.join [x,y,z] [32]=x++[32]++y++[32]++z:=by simp[Lib.join_cons,Lib.joinTail]
theorem OA(x y z w:List UInt8):Lib.join [x,y,z,w] [32]=x++[32]++y++[32]++z++[32]++w:=by simp[Lib.join_cons,Lib.joinTail]
theorem ahP(x:List UInt8):Lib.join [x] [32]=x:=by simp[Lib.join_cons,Lib.joinTail]
theorem nX{α:Type}[BEq α][LawfulBEq α]{x y:α}(h:x≠y):(x==y)=false/\(y==x)=false/\(x !=y)=true/\(y !=x)=true:=by
 have h1:(x==y)=false:=by simpa using h
 have h2:(y==x)=false:=by simpa using aoQ h
 exact⟨h1,h2,by simp[bne,h1],by simp[bne,h2]⟩
theorem D6:OK oP.e:=by
 refine PA.ok mixed (aQ [(mX,.pure jT),jo.e,qQ.e,ru.e,mD.e] ⟨⟨uT,sS⟩,qE,FX,MQ,vZ,trivial⟩) PX (by kernel_rfl) (show∀a0 a1 a2 a3 a4,oP.goal (fD a0 a1 a2 a3 a4) ((a0,a1,a2,a3,a4,()),())from ?_);intro k u c n a hin hp;dsimp only[oP]at hp ⊢;have hn:n.length<=1048576:=hp;have hu:=H6 u hin.1.2.1;have ha:=H6 a hin.1.2.2.2.2.1;clear hin hp;have eU:iU [(u,()),(a,())]=(aB u&&aB a):=by simp[iU]
 have i0:aB 0=true:=rfl;by_cases k1:k=1
 .subst k1;simp only[fD,Int.reduceBEq,aoa,anO];refine aP _ ⟨by trivial,by trivial,rfl⟩ (aP _ ⟨by trivial,rfl⟩ (aP _ ⟨by trivial,rfl⟩ ⟨trivial,?_⟩));dsimp only;rw[eU];unfold aS;simp only[Int.reduceBEq,anF,anY,anO,Int.reduceGT,apf,apb,anQ,anB];generalize decide ((c.length:Int)>0)=z;generalize iC 1 c.length=v;by_cases hn:n=[]
  rotate_left
  .cases v<;>cases z<;>simp[hn,nX hn]
  subst hn;by_cases ha:a=0
  rotate_left
  .cases v<;>cases z<;>simp[ha,nX ha]
  subst ha;simp only[i0,anF,anQ,aoK,anT,aoc,anO,aoi,aoa];cases v<;>cases z<;>cases (aB u)<;>simp only[aoc,aoi,aoa,anO,aoI,anQ,anB,anF]<;>first
   |rfl
   |exact⟨⟨by show 2<=140737488355328;omega,by show(Lib.join [_,_] [32]).length<=_;rw[tV];simp only[anf,anh,anj]<;>omega⟩,by show(Lib.join [_,_] [32],())=_;rw[tV];rfl⟩
 by_cases k2:k=2
 .subst k2;simp only[fD,Int.reduceBEq,aoa,anO];refine aP _ ⟨by trivial,by trivial,by trivial,rfl⟩ (aP _ ⟨by trivial,rfl⟩ (aP _ ⟨by trivial,rfl⟩ ⟨trivial,?_⟩));dsimp only;rw[eU];unfold aS;simp only[Int.reduceBEq,anF,anY,anO,Int.reduceGT,apf,apb,anQ,anB];generalize decide ((c.length:Int)>0)=z;generalize iC 2 c.length=v;by_cases hn:n=[]
  rotate_left
  .cases v<;>cases z<;>simp[hn,nX hn]
  subst hn;simp only[i0,anF,anQ,aoK,anT,aoc,anO,aoi,aoa];cases v<;>cases z<;>cases (aB u)<;>cases (aB a)<;>simp only[aoc,aoi,aoa,anO,aoI,anQ,anB,anF]<;>first
   |rfl
   |exact⟨⟨by show 3<=140737488355328;omega,by show(Lib.join [_,_,_] [32]).length<=_;rw[BL];simp only[anf,anh,anj]<;>omega⟩,by show(Lib.join [_,_,_] [32],())=_;rw[BL];rfl⟩
 by_cases k3:k=3
 .subst k3;simp only[fD,Int.reduceBEq,aoa,anO];refine aP _ ⟨by trivial,by trivial,rfl⟩ (aP _ ⟨by trivial,rfl⟩ (aP _ ⟨by trivial,rfl⟩ ⟨trivial,?_⟩));dsimp only;rw[eU];unfold aS;simp only[Int.reduceBEq,anF,anY,anO,Int.reduceGT,apf,apb,anQ,anB];generalize decide ((c.length:Int)>0)=z;generalize iC 3 c.length=v;by_cases ha:a=0
  rotate_left
  .cases v<;>cases z<;>simp[ha,nX ha]
  subst ha;simp only[i0,anF,anQ,aoK,anT,aoc,anO,aoi,aoa];cases v<;>cases z<;>cases (aB u)<;>cases (au n)<;>simp only[aoc,aoi,aoa,anO,aoI,anQ,anB,anF]<;>first
   |rfl
   |exact⟨⟨by show 3<=140737488355328;omega,by show(Lib.join [_,_,_] [32]).length<=_;rw[BL];simp only[anf,anh,anj]<;>omega⟩,by show(Lib.join [_,_,_] [32],())=_;rw[BL];rfl⟩
 by_cases k4:k=4
 .subst k4;simp only[fD,Int.reduceBEq,aoa,anO];refine aP _ ⟨by trivial,by trivial,rfl⟩ (aP _ ⟨by trivial,rfl⟩ (aP _ ⟨by trivial,rfl⟩ ⟨trivial,?_⟩));dsimp only;rw[eU];unfold aS;simp only[Int.reduceBEq,anF,anY,anO,Int.reduceGT,apf,apb,anQ,anB];generalize decide ((c.length:Int)>0)=z;generalize iC 4 c.length=v;by_cases hu:u=0
  rotate_left
  .cases v<;>cases z<;>simp[hu,nX hu]
  subst hu;by_cases hn:n=[]
  rotate_left
  .cases v<;>cases z<;>simp[hn,nX hn]
  subst hn;simp only[i0,anF,anQ,aoK,anT,aoc,anO,aoi,aoa];cases v<;>cases z<;>cases (aB a)<;>simp only[aoc,aoi,aoa,anO,aoI,anQ,anB,anF]<;>first
   |rfl
   |exact⟨⟨by show 2<=140737488355328;omega,by show(Lib.join [_,_] [32]).length<=_;rw[tV];simp only[anf,anh,anj]<;>omega⟩,by show(Lib.join [_,_] [32],())=_;rw[tV];rfl⟩
 by_cases k5:k=5
 .subst k5;simp only[fD,Int.reduceBEq,aoa,anO];refine aP _ ⟨by trivial,⟨by decide,by simp⟩,by simp,by trivial,rfl⟩ (aP _ ⟨by trivial,rfl⟩ (aP _ ⟨by trivial,rfl⟩ ⟨trivial,?_⟩));dsimp only;rw[eU];unfold aS;simp only[Int.reduceBEq,anF,anY,anO,Int.reduceGT,apf,apb,anQ,anB];generalize decide ((c.length:Int)>0)=z;generalize iC 5 c.length=v;by_cases hu:u=0
  rotate_left
  .cases v<;>cases z<;>simp[hu,nX hu]
  subst hu;by_cases hn:n=[]
  rotate_left
  .cases v<;>cases z<;>simp[hn,nX hn]
  subst hn;simp only[i0,anF,anQ,aoK,anT,aoc,anO,aoi,aoa];cases v<;>cases z<;>cases (aB a)<;>simp only[aoc,aoi,aoa,anO,aoI,anQ,anB,anF]<;>first
   |rfl
   |exact⟨⟨by show 2<=140737488355328;omega,by show(Lib.join [_,_] [32]).length<=_;rw[tV];simp only[anf,anh,anj]<;>omega⟩,by show(Lib.join [_,_] [32],())=_;rw[tV];rfl⟩
 by_cases k6:k=6
 .subst k6;simp only[fD,Int.reduceBEq,aoa,anO];refine aP _ ⟨by trivial,rfl⟩ (aP _ ⟨by trivial,rfl⟩ (aP _ ⟨by trivial,rfl⟩ ⟨trivial,?_⟩));dsimp only;rw[eU];unfold aS;simp only[Int.reduceBEq,anF,anY,anO,Int.reduceGT,apf,apb,anQ,anB];generalize decide ((c.length:Int)>0)=z;generalize iC 6 c.length=v;by_cases hu:u=0
  rotate_left
  .cases v<;>cases z<;>simp[hu,nX hu]
  subst hu;by_cases hn:n=[]
  rotate_left
  .cases v<;>cases z<;>simp[hn,nX hn]
  subst hn;by_cases ha:a=0
  rotate_left
  .cases v<;>cases z<;>simp[ha,nX ha]
  subst ha;simp only[i0,anF,anQ,aoK,anT,aoc,anO,aoi,aoa];cases v<;>cases z<;>simp only[aoc,aoi,aoa,anO,aoI,anQ,anB,anF]<;>first
   |rfl
   |exact⟨⟨by show 1<=140737488355328;omega,by show(Lib.join [_] [32]).length<=_;rw[ahP];simp only[anf,anh,anj]<;>omega⟩,by show(Lib.join [_] [32],())=_;rw[ahP]⟩
 by_cases k7:k=7
 .subst k7;simp only[fD,Int.reduceBEq,aoa,anO];refine aP _ ⟨by trivial,by trivial,by trivial,rfl⟩ (aP _ ⟨by trivial,rfl⟩ (aP _ ⟨by trivial,rfl⟩ ⟨trivial,?_⟩));dsimp only;rw[eU];unfold aS;simp only[Int.reduceBEq,anF,anY,anO,Int.reduceGT,apf,apb,anQ,anB];generalize decide ((c.length:Int)>0)=z;generalize iC 7 c.length=v;simp only[i0,anF,anQ,aoK,anT,aoc,anO,aoi,aoa];cases v<;>cases z<;>cases (aB u)<;>cases (aB a)<;>cases (au n)<;>simp only[aoc,aoi,aoa,anO,aoI,anQ,anB,anF]<;>first
   |rfl
   |exact⟨⟨by show 4<=140737488355328;omega,by show(Lib.join [_,_,_,_] [32]).length<=_;rw[OA];simp only[anf,anh,anj]<;>omega⟩,by show(Lib.join [_,_,_,_] [32],())=_;rw[OA];rfl⟩
 by_cases k8:k=8
 .subst k8;simp only[fD,Int.reduceBEq,aoa,anO];refine aP _ ⟨by trivial,by trivial,by trivial,rfl⟩ (aP _ ⟨by trivial,rfl⟩ (aP _ ⟨by trivial,rfl⟩ ⟨trivial,?_⟩));dsimp only;rw[eU];unfold aS;simp only[Int.reduceBEq,anF,anY,anO,Int.reduceGT,apf,apb,anQ,anB];generalize decide ((c.length:Int)>0)=z;generalize iC 8 c.length=v;simp only[i0,anF,anQ,aoK,anT,aoc,anO,aoi,aoa];cases v<;>cases z<;>cases (aB u)<;>cases (aB a)<;>cases (au n)<;>simp only[aoc,aoi,aoa,anO,aoI,anQ,anB,anF]<;>first
   |rfl
   |exact⟨⟨by show 4<=140737488355328;omega,by show(Lib.join [_,_,_,_] [32]).length<=_;rw[OA];simp only[anf,anh,anj]<;>omega⟩,by show(Lib.join [_,_,_,_] [32],())=_;rw[OA];rfl⟩
 have hv:iC k c.length=false:=by
  unfold iC;by_cases h1:1<=k
  .by_cases h2:k<=8
   .omega
   .simp[h2]
  .simp[h1]
 simp only[fD,nX k1,nX k2,nX k3,nX k4,nX k5,nX k6,nX k7,nX k8,anO];refine aP _ ⟨by trivial,rfl⟩ (aP _ ⟨by trivial,rfl⟩ (aP _ ⟨by trivial,rfl⟩ ⟨trivial,?_⟩));unfold aS;rw[hv];rfl
theorem GR:OK sF.e:=by
 refine PA.ok mixed (aQ [jV.e] ⟨qW,trivial⟩) V6 (by kernel_rfl) (show∀text,sF.goal (Ur text) (text,())from ?_);intro text hin hp;dsimp only[sF]at hp ⊢;refine af (λh=>?_) λh=>?_
 .exact I8 (Ro (by have:=lV h;omega))
 .have hl:text.length<=10:=by have:=nH h;omega
  refine zH (mk:=λi v=>((v,i,()),())) (λy=>y.1.2.1) (λ_ _=>rfl) text.length (by omega)
   (λn v=>v=ji (text.take n)/\∀i,i<n->48<=(text.getD i 0).toNat/\(text.getD i 0).toNat<=57) ⟨rfl,λi hi=>absurd hi (aoo _)⟩ (λI μ n v hn hJ next=>?_) λI μ v hJ=>?_
  .obtain⟨rfl,hd⟩:=hJ;obtain⟨b0,b1⟩:=acj hn hl hd;dsimp only;rw[an9];refine vX (by omega) ⟨⟨by omega,by omega⟩,af (λh2=>?_) λh2=>⟨⟨by omega,by omega⟩,af (λh3=>?_) λh3=>⟨⟨by omega,by omega⟩,rfl,?_⟩⟩⟩
   .exact I8 (Kr hn (by have:=lV h2;omega))
   .exact I8 (Kr hn (by have:=lV h3;omega))
   .have g2:=nH h2;have g3:=nH h3;have w1:IntKind.i64.wrap (10*ji (text.take n))=10*ji (text.take n):=gJ _ (by omega);have w2:IntKind.i64.wrap ((text.getD n 0).toNat:Int)=(text.getD n 0).toNat:=gJ _ (by omega);have w3:IntKind.i64.wrap (10*ji (text.take n)+(text.getD n 0).toNat)=10*ji (text.take n)+(text.getD n 0).toNat:=gJ _ (by omega);have w4:IntKind.i64.wrap (10*ji (text.take n)+(text.getD n 0).toNat-48)=10*ji (text.take n)+(text.getD n 0).toNat-48:=gJ _ (by omega);refine next _ ⟨?_,λi hi=>?_⟩
    .rw[w1,w2,w3,w4,adz hn];omega
    .rcases anL i n with h5|h5
     .exact hd i h5
     .rw[show i=n by omega];omega
  .obtain⟨rfl,hd⟩:=hJ;dsimp only;rw[aok (ann _)];refine vY (by omega) (af (λh2=>?_) λh2=>⟨trivial,af (λh3=>?_) λh3=>?_⟩)
   .refine I8 ?_;cases hk:aN text with
    |false=>rfl
    |true=>have:=(xJ.1 (Bz.1 hk).1).2;have:=lV h2;omega
   .refine I8 ?_;cases hk:aN text with
    |false=>rfl
    |true=>exact absurd (Bz.1 hk).2 (ne_of_beq_false (nV h3))
   .have e:=anq.1 (jL h3);have h0:0<=ji text:=(I9 text.length text rfl (λb hb=>by obtain⟨i,hi,rfl⟩:=aoB.1 hb;have:=hd i hi;rw[anm,anu hi]at this;exact this)).1;have:=Og (xJ.2 ⟨h0,by have:=nH h2;omega⟩) e;rw[this.1,this.2]
theorem yT:OK mP.e:=by
 refine PA.ok mixed (aQ [] trivial) RQ (by kernel_rfl) (show∀line,mP.goal (PY line) (line,())from ?_);intro line hin hp;dsimp only[mP]at hp ⊢;have hp:line.length<=1048576:=hp;refine af (λh=>?_) λh=>?_
 .exact(Cc λhh=>by have:=lV h;omega).symm
 .have hl:line.length<=600:=by have:=nH h;omega
  refine zH (mk:=λi(s:Int×Sp.LS)=>(((),s.1,i,()),s.2,())) (λy=>y.1.2.2.1) (λ_ _=>rfl) (line.length+1) (by omega)
   (λn s=>∃b:Nat,s.1=b/\Sp.splitAt line n b s.2) (s0:=((0:Int),[])) ⟨0,rfl,ack line⟩ (λI μ n s hn hJ next=>?_) λI μ s hJ=>?_
  .obtain⟨b,out⟩:=s;obtain⟨b,rfl,hs⟩:=hJ;dsimp only at hs ⊢;have hb:=hs.1;have hout:=hs.2.2.1;have hw:IntKind.i64.wrap ((n:Int)+1)=((n+1:Nat):Int):=gJ _ (by omega);rw[an9,an9];refine vX (by omega) ⟨λ_=>n<line.length->jO (line.getD n 0)=true,?_,λ_ hj=>?_⟩
   .refine af (λh2=>⟨⟨by omega,by have:=lV h2;omega⟩,af (λh3=>?_) λh3=>⟨⟨by omega,by have:=lV h2;omega⟩,af (λh4=>?_) λh4=>⟨rfl,λ_=>?_⟩⟩⟩) λh2=>⟨rfl,λhh=>?_⟩
    .exact(Cc λhh=>by have h5:=xR.1 (V7 hh.2.1 (show n<line.length by have:=lV h2;omega));have:=lV h3;omega).symm
    .exact(Cc λhh=>by have h5:=xR.1 (V7 hh.2.1 (show n<line.length by have:=lV h2;omega));have:=lV h4;omega).symm
    .exact xR.2 ⟨by have:=nH h3;omega,by have:=nH h4;omega⟩
    .have:=nH h2;omega
   .have tail:(n<line.length->jO (line.getD n 0)=true/\line.getD n 0=32)->
     bif decide ((b:Int)<n)then((0:Int)<=b/\(b:Int)<=n/\(n:Int)<=line.length)/\List.length out+[(List.drop b (List.take n line),())].length<=big/\(((line,()),())=((line,()),()))/\
         I (((),IntKind.i64.wrap ((n:Int)+1),IntKind.i64.wrap ((n:Int)+1),()),out++[(List.drop b (List.take n line),())],())/\μ (((),IntKind.i64.wrap ((n:Int)+1),IntKind.i64.wrap ((n:Int)+1),()),out++[(List.drop b (List.take n line),())],())<μ (((),(b:Int),(n:Int),()),out,())
      else(((line,()),())=((line,()),()))/\I (((),IntKind.i64.wrap ((n:Int)+1),IntKind.i64.wrap ((n:Int)+1),()),out,())/\μ (((),IntKind.i64.wrap ((n:Int)+1),IntKind.i64.wrap ((n:Int)+1),()),out,())<μ (((),(b:Int),(n:Int),()),out,()):=by
     intro ho;refine af (λh3=>⟨⟨by omega,by omega,by omega⟩,?_,rfl,?_⟩) λh3=>⟨rfl,?_⟩
     .rw[yx];show _+1<=_;omega
     .exact next (IntKind.i64.wrap ((n:Int)+1),out++[((line.take n).drop b,())]) ⟨n+1,hw,acn hs (by omega) (by have:=lV h3;omega) ho⟩
     .exact next (IntKind.i64.wrap ((n:Int)+1),out) ⟨n+1,hw,aco hs (by omega) (by have:=nH h3;omega) ho⟩
    refine af (λh2=>⟨⟨by omega,by have:=lV h2;omega⟩,af (λh3=>⟨rfl,?_⟩) λh3=>?_⟩) λh2=>?_
    .have hn2:n<line.length:=by have:=lV h2;omega
     exact next ((b:Int),out) ⟨b,rfl,acp hs hn2 (hj hn2) λe=>by rw[e]at h3;revert h3;decide⟩
    .refine tail λhn2=>⟨hj hn2,?_⟩;have h3:((line.getD n 0).toNat:Int)=32:=by simpa using h3
     exact UInt8.toNat_inj.1 (by show _=32;omega)
    .exact tail λhn2=>by have:=nH h2;omega
  .obtain⟨b,out⟩:=s;obtain⟨b,rfl,hs⟩:=hJ;dsimp only at hs ⊢;obtain⟨h1,h2⟩:=adA hs;subst h2;refine vY (by omega) (af (λh2=>?_) λh2=>?_)
   .exact(Cc λhh=>by have:=lV h2;rw[lX]at this;omega).symm
   .exact(aah (kE.2 ⟨hl,h1,by have:=nH h2;rw[lX]at this;omega⟩)).symm
theorem D7:OK rX.e:=by
 refine PA.ok mixed (aQ [] trivial) Zd (by kernel_rfl) (show∀p,rX.goal (XL p) (p,())from ?_);intro p hin hp;dsimp only[rX]at hp ⊢;have hp1:p.length<=1000:=hp.1;have hp2:(dL p).length<=2097152:=hp.2;refine zH (mk:=λi s=>((s,i,()),())) (λy=>y.1.2.1) (λ_ _=>rfl) p.length (by omega) (λn s=>s=dL (p.take n)) rfl (λI μ n s hn hJ next=>?_) λI μ s hJ=>?_
 .subst hJ;have e:=afg hn;have hle:=aaN p (n+1);have hll:=congrArg List.length e;have h1:([32]:Sp.Bytes).length=1:=rfl;dsimp only;rw[an9];refine vX (by omega) (af (λh2=>?_) λh2=>?_)
  .have hn0:n≠0:=by have:=lV h2;omega
   rw[if_neg hn0]at e hll;rw[anf,anf,h1]at hll;refine⟨?_,⟨by omega,by omega⟩,?_,rfl,next _ e.symm⟩
   .rw[maxLen_eq,h1];omega
   .rw[maxLen_eq,anf,h1];omega
  .have hn0:n=0:=by have:=nH h2;omega
   subst hn0;refine⟨⟨by omega,by omega⟩,?_,rfl,next _ e.symm⟩;have h0:(dL (p.take 0)).length=0:=rfl;rw[maxLen_eq,h0];rw[if_pos rfl,an7]at hll;omega
 .subst hJ;dsimp only;refine vY (by omega) ?_;rw[aok (ann _)]
theorem yU:OK jd.e:=by
 refine PA.ok mixed (aQ [(xK,.pure uF),jw.e] ⟨⟨GN,FU⟩,nC,trivial⟩) RS (by kernel_rfl) (show∀line,jd.goal (PZ line) (line,())from ?_);intro line hin hp;dsimp only[jd]at hp ⊢;refine af (λh=>?_) λh=>?_
 .exact(Cc λhh=>by have:=lV h;omega).symm
 .have hl:line.length<=600:=by have:=nH h;omega
  refine CX line.length (by omega) (λn=>∀i,i<n->jO (line.getD i 0)=true) (λi hi=>absurd hi (aoo _)) (λI μ n hn hJ next=>?_) λI μ hJ=>?_
  .dsimp only;rw[an9,afh];refine vX (by omega) ⟨⟨by omega,by omega⟩,trivial,af (λh2=>?_) λh2=>⟨rfl,next λi hi=>?_⟩⟩
   .exact(Cc λhh=>by have:=V7 hh.2.1 hn;rw[nV h2]at this;cases this).symm
   .rcases anL i n with h5|h5
    .exact hJ i h5
    .rw[show i=n by omega];exact jL h2
  .dsimp only;have hall:=acr hJ;refine vY (by omega) ⟨⟨hp,acs hall⟩,af (λh2=>?_) λh2=>?_⟩
   .exact(Cc λhh=>by have:=lV h2;rw[lX]at this;omega).symm
   .exact(aah (kE.2 ⟨hl,hall,by have:=nH h2;rw[lX]at this;omega⟩)).symm
theorem zi:OK mQ.e:=by
 refine PA.ok mixed (aQ [] trivial) H0 (by kernel_rfl) (show∀p at',mQ.goal (XM p at') (p,at',())from ?_);intro w i hin hp;dsimp only[mQ]at hp ⊢;refine af (λh=>?_) λh=>⟨⟨hp,by have:=nH h;omega⟩,?_⟩
 .rw[oD (lV h)]
 .rw[jk (by have:=nH h;omega)]
theorem EN:OK tZ.e:=by
 refine PA.ok mixed (aQ [] trivial) H0 (by kernel_rfl) (show∀w i,tZ.goal (Ze w i) (w,i,())from ?_);intro w i hin hp;dsimp only[tZ]at hp ⊢;refine af (λh=>?_) λh=>⟨⟨hp,by have:=nH h;omega⟩,?_⟩
 .rw[oD (lV h)]
 .rw[jk (by have:=nH h;omega)]
theorem EO:OK uf.e:=by refine PA.ok mixed (aQ [sF.e,mQ.e] ⟨GR,zi,trivial⟩) H0 (by kernel_rfl) (show∀p at',uf.goal (Zf p at') (p,at',())from ?_);intro w i hin hp;dsimp only[uf]at hp ⊢;exact⟨hp,trivial,rfl⟩
theorem Ja:OK uG.e:=by refine PA.ok mixed (aQ [(sQ,.pure pW),tZ.e] ⟨⟨AO,zG⟩,EN,trivial⟩) H0 (by kernel_rfl) (show∀w i,uG.goal (V8 w i) (w,i,())from ?_);intro w i hin hp;dsimp only[uG]at hp ⊢;exact⟨hp,trivial,rfl⟩
theorem KU:OK qm.e:=by
 refine PA.ok mixed (aQ [] trivial) MS (by kernel_rfl) (show∀s1 s2,qm.goal (KW s1 s2) (s1,s2,())from ?_);intro a b hin hp;dsimp only[qm]at hp ⊢;have hlen:a.length<=maxLen:=hin.1.1;rw[maxLen_eq]at hlen;refine af (λh=>?_) λh=>?_
 .have h:(a.length:Int)≠b.length:=by simpa using h
  exact congrArg (·,()) (anC λe=>h (by rw[e])).symm
 .have h:(a.length:Int)=b.length:=by simpa using h
  exact MJ (K:=λr=>r=(decide (a=b),())) (λx y=>!(x.1==y.1)) (λx y=>by simp[apl]) _ a b _ hlen (by omega) (λe=>by rw[anC e]) λe=>by rw[anE e]
theorem FY:OK qO.e:=by
 refine PA.ok mixed (aQ [qm.e,(xK,.pure uF)] ⟨KU,⟨GN,FU⟩,trivial⟩) H0 (by kernel_rfl) (show∀text w,qO.goal (RU text w) (text,w,())from ?_);intro text w hin hp;dsimp only[qO]at hp ⊢;refine af (λh=>⟨hp,trivial,?_⟩) λh=>?_
 .rw[h,anF]
 .rw[h,anY]
theorem P5:OK uH.e:=by
 refine PA.ok mixed (aQ [rX.e,lK.e,mQ.e,uf.e,mP.e] ⟨D7,xQ,zi,EO,yT,trivial⟩) RV (by kernel_rfl) (show∀line,uH.goal (P6 line) (line,())from ?_);intro line hin hp;dsimp only[uH]at hp ⊢;have hp:line.length<=1048576:=hp;refine⟨hp,λ_=>bW line=true/\ai line≠[],?_,λ_ hj=>?_⟩
 .refine af (λh=>FZ (aeg (nV h))) λh=>af (λh2=>?_) λh2=>⟨rfl,jL h,λe=>?_⟩
  .have h2:((ai line).length:Int)=0:=by simpa using h2
   refine FZ (aeh ?_);rw[← (nJ (jL h)).1];exact an0.1 (by omega)
  .rw[e]at h2;revert h2;decide
 .obtain⟨hok,hne⟩:=hj;obtain⟨hw,hl1,hl2,hl3,hl4⟩:=nJ hok;have hlen:0<(ai line).length:=aoZ.2 hne;have e0:(List.getD (ai line) (Int.toNat (0:Int)) ([],())).fst=Sp.wordAt (ai line) 0:=(jk (by omega)).symm;refine⟨λy=>y=((),((dQ (ai line)).1,(dQ (ai line)).2.1,(),(dQ (ai line)).2.2.1,(dQ (ai line)).2.2.2,()),()),⟨⟨by decide,by omega⟩,?_⟩,?_⟩
  .rw[e0];have n1:(0:Int)<=1:=by decide
   have n2:(0:Int)<=2:=by decide
   have n3:(0:Int)<=3:=by decide
   unfold dQ;cases Sp.wordAt (ai line) 0==[99,111,109,109,105,116]with
   |true=>exact⟨n1,rfl,rfl⟩
   |false=>
   cases Sp.wordAt (ai line) 0==[99,114,97,115,104]with
   |true=>exact⟨n1,n2,rfl,rfl⟩
   |false=>
   cases Sp.wordAt (ai line) 0==[119,97,116,99,104]with
   |true=>exact⟨n1,n2,rfl,rfl⟩
   |false=>
   cases Sp.wordAt (ai line) 0==[112,105,110]with
   |true=>exact⟨n1,rfl,rfl⟩
   |false=>
   cases Sp.wordAt (ai line) 0==[117,110,112,105,110]with
   |true=>exact⟨n1,rfl,rfl⟩
   |false=>
   cases Sp.wordAt (ai line) 0==[99,111,108,108,101,99,116]with
   |true=>exact⟨rfl,rfl⟩
   |false=>
   cases Sp.wordAt (ai line) 0==[97,100,100]with
   |true=>exact⟨n1,n2,n3,rfl,rfl⟩
   |false=>
   cases Sp.wordAt (ai line) 0==[114,101,109,111,118,101]with
   |true=>exact⟨n1,n2,n3,rfl,rfl⟩
   |false=>exact⟨rfl,rfl⟩
  .rintro _ rfl;dsimp only;rw[hw];have hwne:(Sp.wordsOf line==[])=false:=ang.2 (by rw[← hw];exact hne);refine⟨hl3,af (λh=>?_) λh=>⟨⟨hl1,hl2⟩,af (λh2=>?_) λh2=>?_⟩⟩
   .refine FZ ?_;have h:(gV (dQ (Sp.wordsOf line))==[])=true:=h;unfold dR;rw[h,aoc,anY,anB]
   .refine FZ ?_;have h2:(gV (dQ (Sp.wordsOf line))==dL (Sp.wordsOf line))=false:=nV h2;unfold dR;rw[h2,anB,anB]
   .refine aei ?_;have h:(gV (dQ (Sp.wordsOf line))==[])=false:=h;have h2:(gV (dQ (Sp.wordsOf line))==dL (Sp.wordsOf line))=true:=jL h2;unfold dR;rw[hok,hwne,h,h2];rfl
theorem P7:OK uI.e:=by
 refine PA.ok mixed (aQ [qO.e,oP.e,tZ.e,uG.e,jd.e] ⟨FY,D6,EN,Ja,yU,trivial⟩) RX (by kernel_rfl) (show∀line,uI.goal (P8 line) (line,())from ?_);intro line hin hp;dsimp only[uI]at hp ⊢;have hp:line.length<=1048576:=hp;refine⟨hp,λ_=>bW line=true/\ai line≠[],?_,λ_ hj=>?_⟩
 .refine af (λh=>FZ (aeg (nV h))) λh=>af (λh2=>?_) λh2=>⟨rfl,jL h,λe=>?_⟩
  .have h2:((ai line).length:Int)=0:=by simpa using h2
   refine FZ (aeh ?_);rw[← (nJ (jL h)).1];exact an0.1 (by omega)
  .rw[e]at h2;revert h2;decide
 .obtain⟨hok,hne⟩:=hj;obtain⟨hw,hl1,hl2,hl3,hl4⟩:=nJ hok;have hlen:0<(ai line).length:=aoZ.2 hne;have hlen2:(0:Int)<((ai line).length:Int):=by omega
  have e0:(List.getD (ai line) (Int.toNat (0:Int)) ([],())).fst=Sp.wordAt (ai line) 0:=(jk (by omega)).symm;refine⟨λy=>y=((Zg (ai line),()),((dQ (ai line)).1,(dQ (ai line)).2.1,(),(dQ (ai line)).2.2.1,(dQ (ai line)).2.2.2,()),()),⟨⟨by decide,hlen2⟩,?_⟩,?_⟩
  .rw[e0,hok];have n0:(0:Int)<=0:=by decide
   have n1:(0:Int)<=1:=by decide
   have n2:(0:Int)<=2:=by decide
   have n3:(0:Int)<=3:=by decide
   unfold dQ Zg kX nD lM BM um qj xU mO;cases Sp.wordAt (ai line) 0==[99,111,109,109,105,116]with
   |true=>exact⟨n1,rfl,rfl⟩
   |false=>
   cases Sp.wordAt (ai line) 0==[99,114,97,115,104]with
   |true=>exact⟨n1,n2,rfl,rfl⟩
   |false=>
   cases Sp.wordAt (ai line) 0==[119,97,116,99,104]with
   |true=>exact⟨n1,n2,rfl,rfl⟩
   |false=>
   refine⟨λy=>y=(((Sp.wordAt (ai line) 0==[112,105,110])||(Sp.wordAt (ai line) 0==[117,110,112,105,110]),()),()),?_,?_⟩
   .cases Sp.wordAt (ai line) 0==[112,105,110]<;>exact⟨rfl,rfl⟩
   rintro _ rfl;dsimp only;cases h4:Sp.wordAt (ai line) 0==[112,105,110]with
   |true=>
    have h5:(Sp.wordAt (ai line) 0==[117,110,112,105,110])=false:=by rw[anq.1 h4];decide
    rw[h5];exact⟨⟨n0,hlen2⟩,n1,rfl,rfl⟩
   |false=>
   cases Sp.wordAt (ai line) 0==[117,110,112,105,110]with
   |true=>exact⟨⟨n0,hlen2⟩,n1,rfl,rfl⟩
   |false=>
   cases Sp.wordAt (ai line) 0==[99,111,108,108,101,99,116]with
   |true=>exact⟨rfl,rfl⟩
   |false=>
   cases h7:Sp.wordAt (ai line) 0==[97,100,100]with
   |true=>
    have h8:(Sp.wordAt (ai line) 0==[114,101,109,111,118,101])=false:=by rw[anq.1 h7];decide
    rw[h8];exact⟨⟨n0,hlen2⟩,n1,n2,n3,rfl,rfl⟩
   |false=>
   cases Sp.wordAt (ai line) 0==[114,101,109,111,118,101]with
   |true=>exact⟨⟨n0,hlen2⟩,n1,n2,n3,rfl,rfl⟩
   |false=>exact⟨rfl,rfl⟩
  .rintro _ rfl;dsimp only;rw[hw];have hwne:(Sp.wordsOf line==[])=false:=ang.2 (by rw[← hw];exact hne);have heq:=aaO line;rw[hok,hwne,aoi,anF,anF]at heq;refine af (λh=>?_) λh=>⟨hl3,⟨hl4,aaP _⟩,af (λh2=>?_) λh2=>?_⟩
   .refine FZ ?_;rw[heq,nV h,anY]
   .refine FZ ?_;have h2:(!(gV (dQ (Sp.wordsOf line))==[])&&decide (Sp.wordsOf (gV (dQ (Sp.wordsOf line)))=Sp.wordsOf line))=false:=nV h2;rw[heq,h2,anB]
   .refine aei ?_;have h2:(!(gV (dQ (Sp.wordsOf line))==[])&&decide (Sp.wordsOf (gV (dQ (Sp.wordsOf line)))=Sp.wordsOf line))=true:=jL h2;rw[heq,h2,jL h];rfl
end Go.Proofs.Tryz
namespace Go.Proofs.Tryz
open Go Go.Fw Go.IntWalk Sp
theorem Ez:OK mV.e:=by
 refine PA.ok mixed (aQ [mD.e,jH.e] ⟨vZ,rJ,trivial⟩) H0 (by kernel_rfl) (show∀v0 v1 v2,mV.goal (P9 v0 v1 v2) ((v0,v1,v2,()),())from ?_);intro v0 v1 v2 hin hp;dsimp only[mV]at hp ⊢;refine⟨trivial,?_⟩;unfold bn;dsimp only;cases !aZ v0 v1 v2 with
 |true=>exact rfl
 |false=>
 cases v0==1 with
 |true=>exact⟨trivial,rfl⟩
 |false=>cases v0==2<;>exact rfl
theorem yV:OK jW.e:=by
 refine PA.ok mixed (aQ [jV.e,jG.e] ⟨qW,rH,trivial⟩) H0 (by kernel_rfl) (show∀v0 v1 v2,jW.goal (Qa v0 v1 v2) ((v0,v1,v2,()),())from ?_);intro v0 v1 v2 hin hp;dsimp only[jW]at hp ⊢;refine⟨trivial,?_⟩;unfold bn;dsimp only;cases !aZ v0 v1 v2 with
 |true=>exact rfl
 |false=>
 cases v0==1 with
 |true=>exact⟨trivial,rfl⟩
 |false=>cases v0==2<;>exact rfl
theorem Zh{n:Int}(h:0<=n):aZ 1 n []=decide (n<=999):=by unfold aZ;simp[h]
theorem Zi(s:List UInt8):aZ 2 0 s=au s:=by unfold aZ;simp
theorem afi:aN [45]=false:=by decide
theorem V9:OK zf.e:=by refine PA.ok mixed (aQ [] trivial) H0 (by kernel_rfl) (show∀n,zf.goal (Wh n) (n,())from ?_);intro n hin hp;dsimp only[zf]at hp ⊢;exact rfl
theorem F5:OK kT.e:=by
 refine PA.ok mixed (aQ [jH.e,uD.e,zf.e,(sQ,.pure pW)] ⟨rJ,PU,V9,⟨AO,zG⟩,trivial⟩) H0 (by kernel_rfl) (show∀s,kT.goal (RY s) (s,())from ?_);intro s hin hp;dsimp only[kT]at hp ⊢;have h0:=(xJ.1 (BK s)).1;refine⟨trivial,?_⟩;unfold aY;cases hk:aN s with
 |true=>
  refine⟨trivial,trivial,?_⟩;dsimp only;rw[Zh h0];cases decide (Sp.parseNum s<=999)<;>exact rfl
 |false=>
  cases hs:s==[45]with
  |true=>exact⟨trivial,rfl⟩
  |false=>refine⟨trivial,trivial,?_⟩;dsimp only;rw[Zi];cases au s<;>exact rfl
theorem F6:OK nZ.e:=by
 refine PA.ok mixed (aQ [jW.e,jG.e,nK.e,jc.e,sF.e] ⟨yV,rH,xM,oU,GR,trivial⟩) H0 (by kernel_rfl) (show∀s,nZ.goal (RZ s) (s,())from ?_);intro s hin hp;dsimp only[nZ]at hp ⊢;have h0:=(xJ.1 (BK s)).1;unfold aY;refine af (λh=>?_) λh=>?_
 .have e:s=[45]:=anq.1 h;subst e;rw[afi,h];rfl
 rw[h];refine⟨trivial,trivial,?_⟩;cases hk:aN s with
 |true=>
  refine⟨trivial,trivial,?_⟩;dsimp only;rw[Zh h0];cases h9:decide (Sp.parseNum s<=999)with
  |false=>exact rfl
  |true=>
   refine⟨trivial,?_⟩;have e:bn (1,Sp.parseNum s,[],())=s:=by unfold bn;dsimp only;rw[Zh h0,h9];exact(iR hk).1
   rw[e,anT];exact rfl
 |false=>
  refine⟨trivial,?_⟩;dsimp only;rw[Zi];cases hv:au s with
  |false=>exact rfl
  |true=>
   refine⟨trivial,?_⟩;have e:bn (2,0,s,())=s:=by unfold bn;dsimp only;rw[Zi,hv];rfl
   rw[e,anT];exact rfl
theorem agp{op:Int}(h:(decide (1<=op)&&decide (op<=9))=false):dW op=[63]:=by rw[Bool.and_eq_false_iff,an1,an1]at h;unfold dW;rw[ang.2 (show op≠1 by omega),ang.2 (show op≠2 by omega),ang.2 (show op≠3 by omega),ang.2 (show op≠4 by omega),ang.2 (show op≠5 by omega),ang.2 (show op≠6 by omega),ang.2 (show op≠7 by omega),ang.2 (show op≠8 by omega),ang.2 (show op≠9 by omega)];rfl
theorem ahQ{op:Int}(h:(decide (1<=op)&&decide (op<=9))=true):op=1\/op=2\/op=3\/op=4\/op=5\/op=6\/op=7\/op=8\/op=9:=by rw[ane,anl,anl]at h;omega
theorem GU:OK jX.e:=by
 refine PA.ok mixed (aQ [jw.e] ⟨nC,trivial⟩) H0 (by kernel_rfl) (show∀op,jX.goal (Us op) (op,())from ?_);intro op hin hp;dsimp only[jX]at hp ⊢;refine⟨trivial,af (λh=>?_) λh=>?_⟩
 .exact congrArg (·,()) (agp (nV h)).symm
 .rcases ahQ (jL h)with e|e|e|e|e|e|e|e|e<;>subst e<;>exact⟨by decide,rfl⟩
theorem GV:OK mF.e:=by
 refine PA.ok mixed (aQ [iF.e] ⟨kD,trivial⟩) H0 (by kernel_rfl) (show∀op,mF.goal (Ut op) (op,())from ?_);intro op hin hp;dsimp only[mF]at hp ⊢;refine⟨trivial,af (λh=>?_) λh=>?_⟩
 .exact congrArg (·,()) (agp (nV h)).symm
 .rcases ahQ (jL h)with e|e|e|e|e|e|e|e|e<;>subst e<;>exact⟨by decide,rfl⟩
theorem bQ{n:Nat}(h:n<=100000000000):n<=maxLen:=by rw[maxLen_eq];omega
theorem yM{n:Nat}(h:n<=4000000000):n<=big:=by rw[yx];omega
theorem D8{n:Nat}(h:Nat.ble n 10=true):n<=big:=yM (ank (aon h) (by decide))
theorem yC{n:Nat}(h:Nat.ble n 10=true):n<=140737488355328:=ank (aon h) (by decide)
theorem JF[kJ](KX:jM prog G qx tX):jM prog G Bv zo:=by
 refine JG (aQ [(mX,.pure jT),(qx,.pure tX),mV.e,jX.e] ⟨⟨uT,sS⟩,⟨KX,Jy⟩,Ez,GU,trivial⟩) ?_;intro q i hin hp;obtain⟨⟨ho,h0,hl⟩,hf⟩:=hp;have hT:(Lib.join (bf (i.toNat+1) q i) [32]).length<=140737488355328:=ank (acu ho h0 hl) (by decide);have hlen:=(jD ho).2;have hn:=(nY ho (show i.toNat<q.length by omega)).1;refine⟨⟨h0,hl⟩,trivial,?_⟩;have eN:q.getD i.toNat (0,0,0,[],0,0,[],())=Sp.nodeAt q i.toNat:=rfl;dsimp only;rw[eN];rcases aai hn with c|c|c
 .have e:=aej (q:=q) (i:=i) i.toNat c;rw[e]at hT ⊢;generalize Sp.nodeAt q i.toNat=n at c hT;obtain⟨op,l,r,s,v⟩:=n;dsimp only at c hT ⊢;rcases c with rfl|rfl|rfl|rfl|rfl|rfl
  .exact aP ((false,()),()) ⟨rfl,rfl⟩ ⟨⟨yC rfl,hT⟩,rfl⟩
  .exact aP ((true,()),()) ⟨rfl,rfl⟩ ⟨D8 rfl,⟨yC rfl,hT⟩,rfl⟩
  .exact aP ((false,()),()) ⟨rfl,rfl⟩ ⟨trivial,D8 rfl,⟨yC rfl,hT⟩,rfl⟩
  .exact aP ((false,()),()) ⟨rfl,rfl⟩ ⟨trivial,D8 rfl,⟨yC rfl,hT⟩,rfl⟩
  .exact aP ((true,()),()) ⟨rfl,rfl⟩ ⟨D8 rfl,⟨yC rfl,hT⟩,rfl⟩
  .exact aP ((true,()),()) ⟨rfl,rfl⟩ ⟨D8 rfl,⟨yC rfl,hT⟩,rfl⟩
 .obtain⟨e,k0,k1⟩:=agq ho h0 hl c;rw[e]at hT ⊢;have e2:=XO (dW 5) (CY (Sp.nodeAt q i.toNat).2.1.toNat q (Sp.nodeAt q i.toNat).2.1);rw[← e2]at hT ⊢;have hk:(aH q=true/\0<=(Sp.nodeAt q i.toNat).2.1/\(Sp.nodeAt q i.toNat).2.1<(q.length:Int))/\(Sp.nodeAt q i.toNat).2.1.toNat<gQ:=⟨⟨ho,k0,by omega⟩,by omega⟩;rw[c];exact aP ((false,()),()) ⟨rfl,rfl⟩ ⟨hk,D8 rfl,⟨yC rfl,hT⟩,rfl⟩
 .obtain⟨e,⟨k0,k1⟩,m0,m1⟩:=agr ho h0 hl c;rw[e]at hT ⊢;have e2:=XP (dW (Sp.nodeAt q i.toNat).1) (CY (Sp.nodeAt q i.toNat).2.1.toNat q (Sp.nodeAt q i.toNat).2.1) (CY (Sp.nodeAt q i.toNat).2.2.1.toNat q (Sp.nodeAt q i.toNat).2.2.1);rw[← e2]at hT ⊢;have hk:(aH q=true/\0<=(Sp.nodeAt q i.toNat).2.1/\(Sp.nodeAt q i.toNat).2.1<(q.length:Int))/\(Sp.nodeAt q i.toNat).2.1.toNat<gQ:=⟨⟨ho,k0,by omega⟩,by omega⟩;have hm:(aH q=true/\0<=(Sp.nodeAt q i.toNat).2.2.1/\(Sp.nodeAt q i.toNat).2.2.1<(q.length:Int))/\(Sp.nodeAt q i.toNat).2.2.1.toNat<gQ:=⟨⟨ho,m0,by omega⟩,by omega⟩;rcases c with c|c<;>rw[c]at hT ⊢
  .exact aP ((false,()),()) ⟨rfl,rfl⟩ ⟨hk,hm,D8 rfl,⟨yC rfl,hT⟩,rfl⟩
  .exact aP ((false,()),()) ⟨rfl,rfl⟩ ⟨hk,hm,D8 rfl,⟨yC rfl,hT⟩,rfl⟩
theorem Uu:jM prog G Cb FB:=
 afZ (λn=>@CJ ⟨n⟩) (λn=>@AY ⟨n⟩) (by rintro⟨q,at',⟨⟩⟩ h;exact aoo _ h.2) (by rintro _ ⟨q,at',⟨⟩⟩;rfl) (by rintro⟨q,at',⟨⟩⟩ h;exact⟨_,h,aoF _⟩) (by rintro _ ⟨q,at',⟨⟩⟩;rfl) λn h=>@JF ⟨n⟩ h
theorem MV[kJ](OB:jM prog G tK wC):jM prog G DX A7:=by
 refine MW (aQ [(tK,.pure wC),jW.e,mF.e] ⟨⟨OB,MF⟩,yV,GV,trivial⟩) ?_;intro q i hin hp;obtain⟨⟨ho,h0,hl⟩,hf⟩:=hp;have hT:=acu ho h0 hl;have hlen:=(jD ho).2;have hn:=(nY ho (show i.toNat<q.length by omega)).1;refine⟨⟨h0,hl⟩,trivial,?_⟩;have eN:q.getD i.toNat (0,0,0,[],0,0,[],())=Sp.nodeAt q i.toNat:=rfl;dsimp only;rw[eN];rcases aai hn with c|c|c
 .have e:=aej (q:=q) (i:=i) i.toNat c;rw[e]at hT ⊢;generalize Sp.nodeAt q i.toNat=n at c hT;obtain⟨op,l,r,s,v⟩:=n;dsimp only at c hT ⊢;rcases c with rfl|rfl|rfl|rfl|rfl|rfl
  .exact aP ((false,()),()) ⟨rfl,rfl⟩ rfl
  .have e2:Lib.join (iY (2,l,r,s,v)) [32]=dW 2++[32]++s:=tV _ _;rw[e2]at hT ⊢;simp only[anf]at hT;exact aP ((true,()),()) ⟨rfl,rfl⟩ ⟨bQ (by omega),bQ (by rw[anf];omega),rfl⟩
  .have e2:Lib.join (iY (3,l,r,s,v)) [32]=dW 3++[32]++s++[32]++bn v:=BL _ _ _;rw[e2]at hT ⊢;simp only[anf]at hT;exact aP ((false,()),()) ⟨rfl,rfl⟩ ⟨bQ (by omega),bQ (by simp only[anf];omega),bQ (by simp only[anf];omega),trivial,bQ (by simp only[anf];omega),rfl⟩
  .have e2:Lib.join (iY (4,l,r,s,v)) [32]=dW 4++[32]++s++[32]++bn v:=BL _ _ _;rw[e2]at hT ⊢;simp only[anf]at hT;exact aP ((false,()),()) ⟨rfl,rfl⟩ ⟨bQ (by omega),bQ (by simp only[anf];omega),bQ (by simp only[anf];omega),trivial,bQ (by simp only[anf];omega),rfl⟩
  .have e2:Lib.join (iY (8,l,r,s,v)) [32]=dW 8++[32]++s:=tV _ _;rw[e2]at hT ⊢;simp only[anf]at hT;exact aP ((true,()),()) ⟨rfl,rfl⟩ ⟨bQ (by omega),bQ (by rw[anf];omega),rfl⟩
  .have e2:Lib.join (iY (9,l,r,s,v)) [32]=dW 9++[32]++s:=tV _ _;rw[e2]at hT ⊢;simp only[anf]at hT;exact aP ((true,()),()) ⟨rfl,rfl⟩ ⟨bQ (by omega),bQ (by rw[anf];omega),rfl⟩
 .obtain⟨e,k0,k1⟩:=agq ho h0 hl c;rw[e]at hT ⊢;have e2:=XO (dW 5) (CY (Sp.nodeAt q i.toNat).2.1.toNat q (Sp.nodeAt q i.toNat).2.1);rw[tV]at e2;rw[← e2]at hT ⊢;simp only[anf]at hT;have hk:(aH q=true/\0<=(Sp.nodeAt q i.toNat).2.1/\(Sp.nodeAt q i.toNat).2.1<(q.length:Int))/\(Sp.nodeAt q i.toNat).2.1.toNat<gQ:=⟨⟨ho,k0,by omega⟩,by omega⟩;rw[c];exact aP ((false,()),()) ⟨rfl,rfl⟩ ⟨bQ (by omega),hk,bQ (by simp only[anf];omega),rfl⟩
 .obtain⟨e,⟨k0,k1⟩,m0,m1⟩:=agr ho h0 hl c;rw[e]at hT ⊢;have e2:=XP (dW (Sp.nodeAt q i.toNat).1) (CY (Sp.nodeAt q i.toNat).2.1.toNat q (Sp.nodeAt q i.toNat).2.1) (CY (Sp.nodeAt q i.toNat).2.2.1.toNat q (Sp.nodeAt q i.toNat).2.2.1);rw[BL]at e2;rw[← e2]at hT ⊢;simp only[anf]at hT;have hk:(aH q=true/\0<=(Sp.nodeAt q i.toNat).2.1/\(Sp.nodeAt q i.toNat).2.1<(q.length:Int))/\(Sp.nodeAt q i.toNat).2.1.toNat<gQ:=⟨⟨ho,k0,by omega⟩,by omega⟩;have hm:(aH q=true/\0<=(Sp.nodeAt q i.toNat).2.2.1/\(Sp.nodeAt q i.toNat).2.2.1<(q.length:Int))/\(Sp.nodeAt q i.toNat).2.2.1.toNat<gQ:=⟨⟨ho,m0,by omega⟩,by omega⟩;rcases c with c|c<;>rw[c]at hT ⊢
  .exact aP ((false,()),()) ⟨rfl,rfl⟩ ⟨bQ (by omega),hk,bQ (by simp only[anf];omega),bQ (by simp only[anf];omega),hm,bQ (by simp only[anf];omega),rfl⟩
  .exact aP ((false,()),()) ⟨rfl,rfl⟩ ⟨bQ (by omega),hk,bQ (by simp only[anf];omega),bQ (by simp only[anf];omega),hm,bQ (by simp only[anf];omega),rfl⟩
theorem XQ:jM prog G EL Ip:=
 afZ (λn=>@Ej ⟨n⟩) (λn=>@Du ⟨n⟩) (by rintro⟨q,at',⟨⟩⟩ h;exact aoo _ h.2) (by rintro _ ⟨q,at',⟨⟩⟩;rfl) (by rintro⟨q,at',⟨⟩⟩ h;exact⟨_,h,aoF _⟩) (by rintro _ ⟨q,at',⟨⟩⟩;rfl) λn h=>@MV ⟨n⟩ h
theorem acv{q:List aA}(h:aH q=true):bf (((q.length:Int)-1).toNat+1) q ((q.length:Int)-1)=bf 9 q ((q.length:Int)-1):=by have hl:=jD h;exact zI h _ _ _ (by omega) (by omega) (by omega) (by omega)
theorem EC:OK pX.e:=by
 refine PA.ok mixed (aQ [(Cb,.pure FB),iO.e] ⟨⟨Uu,Rq⟩,xO,trivial⟩) H0 (by kernel_rfl) (show∀q,pX.goal (Qb q) (q,())from ?_);intro q hin hp;dsimp only[pX]at hp ⊢;have hp:q.length<=2000000:=hp;refine⟨hp,?_⟩;unfold Sp.textOf;cases h:aH q with
 |false=>exact rfl
 |true=>have hl:=jD h;have hw:IntKind.i64.wrap ((q.length:Int)-1)=(q.length:Int)-1:=gJ _ (by omega);rw[hw];dsimp only;rw[acv h];exact⟨⟨rfl,by omega,by omega⟩,rfl⟩
theorem yX:OK mW.e:=by
 refine PA.ok mixed (aQ [(EL,.pure Ip),oN.e] ⟨⟨XQ,VR⟩,D5,trivial⟩) H0 (by kernel_rfl) (show∀q,mW.goal (Qc q) (q,())from ?_);intro q hin hp;dsimp only[mW]at hp ⊢;have hp:q.length<=2000000:=hp;refine⟨hp,?_⟩;unfold Sp.textOf;cases h:aH q with
 |false=>exact rfl
 |true=>have hl:=jD h;have hw:IntKind.i64.wrap ((q.length:Int)-1)=(q.length:Int)-1:=gJ _ (by omega);rw[hw];dsimp only;rw[acv h];exact⟨⟨rfl,by omega,by omega⟩,rfl⟩
end Go.Proofs.Tryz
