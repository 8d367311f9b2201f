import Derived.Test.YtncbcelpbmlgdaaGreatDoorP5
import Derived.Test.YtncbcelpbmlgdaaGreatDoorSp
import Derived.Deep.AppendLies
import Derived.Deep.RegionLaw
import Derived.BigRegion
namespace Go.Proofs.Tryz
open Go Go.Fw Go.IntWalk Sp
theorem Hr:OK oq.e:=by
 refine PA.ok mixed (aA [qF.e,kH.e] ⟨DI,uo,trivial⟩) H0 (by kernel_rfl) (show∀v0 v1 v2,oq.goal (Vy v0 v1 v2) ((v0,v1,v2,()),())from ?_);intro v0 v1 v2 hin hp;dsimp only[oq]at hp ⊢;refine⟨trivial,?_⟩;unfold bn;dsimp only;cases !bF v0 v1 v2 with
 |true=>exact rfl
 |false=>
 cases v0==1 with
 |true=>exact⟨trivial,rfl⟩
 |false=>cases v0==2<;>exact rfl
theorem BH:OK kX.e:=by
 refine PA.ok mixed (aA [kV.e,kG.e] ⟨tH,um,trivial⟩) H0 (by kernel_rfl) (show∀v0 v1 v2,kX.goal (Vz v0 v1 v2) ((v0,v1,v2,()),())from ?_);intro v0 v1 v2 hin hp;dsimp only[kX]at hp ⊢;refine⟨trivial,?_⟩;unfold bn;dsimp only;cases !bF v0 v1 v2 with
 |true=>exact rfl
 |false=>
 cases v0==1 with
 |true=>exact⟨trivial,rfl⟩
 |false=>cases v0==2<;>exact rfl
theorem aeE{n:Int}(h:0<=n):bF 1 n []=decide (n<=999):=by unfold bF;simp[h]
theorem aeF(s:List UInt8):bF 2 0 s=aT s:=by unfold bF;simp
theorem alp:aY [45]=false:=by decide
theorem aaZ:OK BV.e:=by refine PA.ok mixed (aA [] trivial) H0 (by kernel_rfl) (show∀n,BV.goal (aa0 n) (n,())from ?_);intro n hin hp;dsimp only[BV]at hp ⊢;exact rfl
theorem Jg:OK mg.e:=by
 refine PA.ok mixed (aA [kH.e,xA.e,BV.e,(Ap,.pure xB)] ⟨uo,Vq,aaZ,⟨DF,I7⟩,trivial⟩) H0 (by kernel_rfl) (show∀s,mg.goal (Xv s) (s,())from ?_);intro s hin hp;dsimp only[mg]at hp ⊢;have h0:=(lS.1 (A7 s)).1;refine⟨trivial,?_⟩;unfold aV;cases hk:aY s with
 |true=>
  refine⟨trivial,trivial,?_⟩;dsimp only;rw[aeE h0];cases decide (Sp.parseNum s<=999)<;>exact rfl
 |false=>
  cases hs:s==[45]with
  |true=>exact⟨trivial,rfl⟩
  |false=>refine⟨trivial,trivial,?_⟩;dsimp only;rw[aeF];cases aT s<;>exact rfl
theorem I9:OK kE.e:=by
 refine PA.ok mixed (aA [kX.e,kG.e,oZ.e,jk.e,uY.e] ⟨BH,um,Aq,mZ,JY,trivial⟩) H0 (by kernel_rfl) (show∀s,kE.goal (Xw s) (s,())from ?_);intro s hin hp;dsimp only[kE]at hp ⊢;have h0:=(lS.1 (A7 s)).1;unfold aV;refine af (λh=>?_) λh=>?_
 .have e:s=[45]:=avj.1 h;subst e;rw[alp,h];rfl
 rw[h];refine⟨trivial,trivial,?_⟩;cases hk:aY s with
 |true=>
  refine⟨trivial,trivial,?_⟩;dsimp only;rw[aeE h0];cases h9:decide (Sp.parseNum s<=999)with
  |false=>exact rfl
  |true=>
   refine⟨trivial,?_⟩;have e:bn (1,Sp.parseNum s,[],())=s:=by unfold bn;dsimp only;rw[aeE h0,h9];exact(jF hk).1
   rw[e,avO];exact rfl
 |false=>
  refine⟨trivial,?_⟩;dsimp only;rw[aeF];cases hv:aT s with
  |false=>exact rfl
  |true=>
   refine⟨trivial,?_⟩;have e:bn (2,0,s,())=s:=by unfold bn;dsimp only;rw[aeF,hv];rfl
   rw[e,avO];exact rfl
theorem amS{op:Int}(h:(decide (1<=op)&&decide (op<=9))=false):fU op=[63]:=by rw[awT,avt,avt]at h;unfold fU;rw[auP.2 (show op≠1 by omega),auP.2 (show op≠2 by omega),auP.2 (show op≠3 by omega),auP.2 (show op≠4 by omega),auP.2 (show op≠5 by omega),auP.2 (show op≠6 by omega),auP.2 (show op≠7 by omega),auP.2 (show op≠8 by omega),auP.2 (show op≠9 by omega)];rfl
theorem aoW{op:Int}(h:(decide (1<=op)&&decide (op<=9))=true):op=1\/op=2\/op=3\/op=4\/op=5\/op=6\/op=7\/op=8\/op=9:=by rw[auO,au1,au1]at h;omega
theorem JZ:OK kY.e:=by
 refine PA.ok mixed (aA [jE.e] ⟨lT,trivial⟩) H0 (by kernel_rfl) (show∀op,kY.goal (YT op) (op,())from ?_);intro op hin hp;dsimp only[kY]at hp ⊢;refine⟨trivial,af (λh=>?_) λh=>?_⟩
 .exact congrArg (·,()) (amS (jP h)).symm
 .rcases aoW (gI h)with e|e|e|e|e|e|e|e|e<;>subst e<;>exact⟨by decide,rfl⟩
theorem J3:OK nS.e:=by
 refine PA.ok mixed (aA [jl.e] ⟨lD,trivial⟩) H0 (by kernel_rfl) (show∀op,nS.goal (YU op) (op,())from ?_);intro op hin hp;dsimp only[nS]at hp ⊢;refine⟨trivial,af (λh=>?_) λh=>?_⟩
 .exact congrArg (·,()) (amS (jP h)).symm
 .rcases aoW (gI h)with e|e|e|e|e|e|e|e|e<;>subst e<;>exact⟨by decide,rfl⟩
theorem bP{n:Nat}(h:n<=100000000000):n<=maxLen:=by rw[maxLen_eq];omega
theorem lX{n:Nat}(h:n<=4000000000):n<=big:=by rw[iF];omega
theorem OE{n:Nat}(h:Nat.ble n 10=true):n<=big:=lX (auU (avU h) (by decide))
theorem Gx{n:Nat}(h:Nat.ble n 10=true):n<=140737488355328:=auU (avU h) (by decide)
theorem NP[lG](Pz:fG prog G sH wC):fG prog G Ed CB:=by
 refine NQ (aA [(zk,.pure uX),(sH,.pure wC),oq.e,kY.e] ⟨⟨Gi,MJ⟩,⟨Pz,Nv⟩,Hr,JZ,trivial⟩) ?_;intro q i hin hp;obtain⟨⟨ho,h0,hl⟩,hf⟩:=hp;have hT:(Lib.join (bZ (i.toNat+1) q i) [32]).length<=140737488355328:=auU (aij ho h0 hl) (by decide);have hlen:=(Sp.gy ho).2;have hn:=(jK ho (show i.toNat<q.length by omega)).1;refine⟨⟨h0,hl⟩,trivial,?_⟩;have eN:q.getD i.toNat (0,0,0,[],0,0,[],())=Sp.nodeAt q i.toNat:=rfl;dsimp only;rw[eN];rcases OG hn with c|c|c
 .have e:=aj7 (q:=q) (i:=i) i.toNat c;rw[e]at hT ⊢;generalize Sp.nodeAt q i.toNat=n at c hT;obtain⟨op,l,r,s,v⟩:=n;dsimp only at c hT ⊢;rcases c with rfl|rfl|rfl|rfl|rfl|rfl
  .exact iE ((false,()),()) ⟨rfl,rfl⟩ ⟨⟨Gx rfl,hT⟩,rfl⟩
  .exact iE ((true,()),()) ⟨rfl,rfl⟩ ⟨OE rfl,⟨Gx rfl,hT⟩,rfl⟩
  .exact iE ((false,()),()) ⟨rfl,rfl⟩ ⟨trivial,OE rfl,⟨Gx rfl,hT⟩,rfl⟩
  .exact iE ((false,()),()) ⟨rfl,rfl⟩ ⟨trivial,OE rfl,⟨Gx rfl,hT⟩,rfl⟩
  .exact iE ((true,()),()) ⟨rfl,rfl⟩ ⟨OE rfl,⟨Gx rfl,hT⟩,rfl⟩
  .exact iE ((true,()),()) ⟨rfl,rfl⟩ ⟨OE rfl,⟨Gx rfl,hT⟩,rfl⟩
 .obtain⟨e,k0,k1⟩:=amT ho h0 hl c;rw[e]at hT ⊢;have e2:=acT (fU 5) (Lj (Sp.nodeAt q i.toNat).2.1.toNat q (Sp.nodeAt q i.toNat).2.1);rw[← e2]at hT ⊢;have hk:(ax q=true/\0<=(Sp.nodeAt q i.toNat).2.1/\(Sp.nodeAt q i.toNat).2.1<(q.length:Int))/\(Sp.nodeAt q i.toNat).2.1.toNat<iU:=⟨⟨ho,k0,by omega⟩,by omega⟩;rw[c];exact iE ((false,()),()) ⟨rfl,rfl⟩ ⟨hk,OE rfl,⟨Gx rfl,hT⟩,rfl⟩
 .obtain⟨e,⟨k0,k1⟩,m0,m1⟩:=amU ho h0 hl c;rw[e]at hT ⊢;have e2:=acU (fU (Sp.nodeAt q i.toNat).1) (Lj (Sp.nodeAt q i.toNat).2.1.toNat q (Sp.nodeAt q i.toNat).2.1) (Lj (Sp.nodeAt q i.toNat).2.2.1.toNat q (Sp.nodeAt q i.toNat).2.2.1);rw[← e2]at hT ⊢;have hk:(ax q=true/\0<=(Sp.nodeAt q i.toNat).2.1/\(Sp.nodeAt q i.toNat).2.1<(q.length:Int))/\(Sp.nodeAt q i.toNat).2.1.toNat<iU:=⟨⟨ho,k0,by omega⟩,by omega⟩;have hm:(ax q=true/\0<=(Sp.nodeAt q i.toNat).2.2.1/\(Sp.nodeAt q i.toNat).2.2.1<(q.length:Int))/\(Sp.nodeAt q i.toNat).2.2.1.toNat<iU:=⟨⟨ho,m0,by omega⟩,by omega⟩;rcases c with c|c<;>rw[c]at hT ⊢
  .exact iE ((false,()),()) ⟨rfl,rfl⟩ ⟨hk,hm,OE rfl,⟨Gx rfl,hT⟩,rfl⟩
  .exact iE ((false,()),()) ⟨rfl,rfl⟩ ⟨hk,hm,OE rfl,⟨Gx rfl,hT⟩,rfl⟩
theorem YV:fG prog G EL IL:=
 amh (λn=>@EX ⟨n⟩) (λn=>@DR ⟨n⟩) (by rintro⟨q,at',⟨⟩⟩ h;exact avR _ h.2) (by rintro _ ⟨q,at',⟨⟩⟩;rfl) (by rintro⟨q,at',⟨⟩⟩ h;exact⟨_,h,awx _⟩) (by rintro _ ⟨q,at',⟨⟩⟩;rfl) λn h=>@NP ⟨n⟩ h
theorem QW[lG](TP:fG prog G wo zf):fG prog G Gl DU:=by
 refine QX (aA [(wo,.pure zf),kX.e,nS.e] ⟨⟨TP,Qx⟩,BH,J3,trivial⟩) ?_;intro q i hin hp;obtain⟨⟨ho,h0,hl⟩,hf⟩:=hp;have hT:=aij ho h0 hl;have hlen:=(Sp.gy ho).2;have hn:=(jK ho (show i.toNat<q.length by omega)).1;refine⟨⟨h0,hl⟩,trivial,?_⟩;have eN:q.getD i.toNat (0,0,0,[],0,0,[],())=Sp.nodeAt q i.toNat:=rfl;dsimp only;rw[eN];rcases OG hn with c|c|c
 .have e:=aj7 (q:=q) (i:=i) i.toNat c;rw[e]at hT ⊢;generalize Sp.nodeAt q i.toNat=n at c hT;obtain⟨op,l,r,s,v⟩:=n;dsimp only at c hT ⊢;rcases c with rfl|rfl|rfl|rfl|rfl|rfl
  .exact iE ((false,()),()) ⟨rfl,rfl⟩ rfl
  .have e2:Lib.join (jA (2,l,r,s,v)) [32]=fU 2++[32]++s:=TN _ _;rw[e2]at hT ⊢;simp only[auN]at hT;exact iE ((true,()),()) ⟨rfl,rfl⟩ ⟨bP (by omega),bP (by rw[auN];omega),rfl⟩
  .have e2:Lib.join (jA (3,l,r,s,v)) [32]=fU 3++[32]++s++[32]++bn v:=acQ _ _ _;rw[e2]at hT ⊢;simp only[auN]at hT;exact iE ((false,()),()) ⟨rfl,rfl⟩ ⟨bP (by omega),bP (by simp only[auN];omega),bP (by simp only[auN];omega),trivial,bP (by simp only[auN];omega),rfl⟩
  .have e2:Lib.join (jA (4,l,r,s,v)) [32]=fU 4++[32]++s++[32]++bn v:=acQ _ _ _;rw[e2]at hT ⊢;simp only[auN]at hT;exact iE ((false,()),()) ⟨rfl,rfl⟩ ⟨bP (by omega),bP (by simp only[auN];omega),bP (by simp only[auN];omega),trivial,bP (by simp only[auN];omega),rfl⟩
  .have e2:Lib.join (jA (8,l,r,s,v)) [32]=fU 8++[32]++s:=TN _ _;rw[e2]at hT ⊢;simp only[auN]at hT;exact iE ((true,()),()) ⟨rfl,rfl⟩ ⟨bP (by omega),bP (by rw[auN];omega),rfl⟩
  .have e2:Lib.join (jA (9,l,r,s,v)) [32]=fU 9++[32]++s:=TN _ _;rw[e2]at hT ⊢;simp only[auN]at hT;exact iE ((true,()),()) ⟨rfl,rfl⟩ ⟨bP (by omega),bP (by rw[auN];omega),rfl⟩
 .obtain⟨e,k0,k1⟩:=amT ho h0 hl c;rw[e]at hT ⊢;have e2:=acT (fU 5) (Lj (Sp.nodeAt q i.toNat).2.1.toNat q (Sp.nodeAt q i.toNat).2.1);rw[TN]at e2;rw[← e2]at hT ⊢;simp only[auN]at hT;have hk:(ax q=true/\0<=(Sp.nodeAt q i.toNat).2.1/\(Sp.nodeAt q i.toNat).2.1<(q.length:Int))/\(Sp.nodeAt q i.toNat).2.1.toNat<iU:=⟨⟨ho,k0,by omega⟩,by omega⟩;rw[c];exact iE ((false,()),()) ⟨rfl,rfl⟩ ⟨bP (by omega),hk,bP (by simp only[auN];omega),rfl⟩
 .obtain⟨e,⟨k0,k1⟩,m0,m1⟩:=amU ho h0 hl c;rw[e]at hT ⊢;have e2:=acU (fU (Sp.nodeAt q i.toNat).1) (Lj (Sp.nodeAt q i.toNat).2.1.toNat q (Sp.nodeAt q i.toNat).2.1) (Lj (Sp.nodeAt q i.toNat).2.2.1.toNat q (Sp.nodeAt q i.toNat).2.2.1);rw[acQ]at e2;rw[← e2]at hT ⊢;simp only[auN]at hT;have hk:(ax q=true/\0<=(Sp.nodeAt q i.toNat).2.1/\(Sp.nodeAt q i.toNat).2.1<(q.length:Int))/\(Sp.nodeAt q i.toNat).2.1.toNat<iU:=⟨⟨ho,k0,by omega⟩,by omega⟩;have hm:(ax q=true/\0<=(Sp.nodeAt q i.toNat).2.2.1/\(Sp.nodeAt q i.toNat).2.2.1<(q.length:Int))/\(Sp.nodeAt q i.toNat).2.2.1.toNat<iU:=⟨⟨ho,m0,by omega⟩,by omega⟩;rcases c with c|c<;>rw[c]at hT ⊢
  .exact iE ((false,()),()) ⟨rfl,rfl⟩ ⟨bP (by omega),hk,bP (by simp only[auN];omega),bP (by simp only[auN];omega),hm,bP (by simp only[auN];omega),rfl⟩
  .exact iE ((false,()),()) ⟨rfl,rfl⟩ ⟨bP (by omega),hk,bP (by simp only[auN];omega),bP (by simp only[auN];omega),hm,bP (by simp only[auN];omega),rfl⟩
theorem acV:fG prog G H9 LK:=
 amh (λn=>@GZ ⟨n⟩) (λn=>@FO ⟨n⟩) (by rintro⟨q,at',⟨⟩⟩ h;exact avR _ h.2) (by rintro _ ⟨q,at',⟨⟩⟩;rfl) (by rintro⟨q,at',⟨⟩⟩ h;exact⟨_,h,awx _⟩) (by rintro _ ⟨q,at',⟨⟩⟩;rfl) λn h=>@QW ⟨n⟩ h
theorem aik{q:List ak}(h:ax q=true):bZ (((q.length:Int)-1).toNat+1) q ((q.length:Int)-1)=bZ 9 q ((q.length:Int)-1):=by have hl:=Sp.gy h;exact CW h _ _ _ (by omega) (by omega) (by omega) (by omega)
theorem VA:OK xC.e:=by
 refine PA.ok mixed (aA [(EL,.pure IL),ja.e] ⟨⟨YV,WN⟩,uz,trivial⟩) H0 (by kernel_rfl) (show∀q,xC.goal (VB q) (q,())from ?_);intro q hin hp;dsimp only[xC]at hp ⊢;have hp:q.length<=2000000:=hp;refine⟨hp,?_⟩;unfold Sp.textOf;cases h:ax q with
 |false=>exact rfl
 |true=>have hl:=Sp.gy h;have hw:IntKind.i64.wrap ((q.length:Int)-1)=(q.length:Int)-1:=fE _ (by omega);rw[hw];dsimp only;rw[aik h];exact⟨⟨rfl,by omega,by omega⟩,rfl⟩
theorem BI:OK ou.e:=by
 refine PA.ok mixed (aA [(H9,.pure LK),mY.e] ⟨⟨acV,aan⟩,AA,trivial⟩) H0 (by kernel_rfl) (show∀q,ou.goal (VD q) (q,())from ?_);intro q hin hp;dsimp only[ou]at hp ⊢;have hp:q.length<=2000000:=hp;refine⟨hp,?_⟩;unfold Sp.textOf;cases h:ax q with
 |false=>exact rfl
 |true=>have hl:=Sp.gy h;have hw:IntKind.i64.wrap ((q.length:Int)-1)=(q.length:Int)-1:=fE _ (by omega);rw[hw];dsimp only;rw[aik h];exact⟨⟨rfl,by omega,by omega⟩,rfl⟩
end Go.Proofs.Tryz
namespace Go.Proofs.Tryz
open Go Go.Fw Go.IntWalk Sp
theorem wrap_in{z:Int}(h:-1000000000000<=z/\z<=1000000000000):IntKind.i64.wrap z=z:=fE z (by omega)
theorem QY[lG](TS:jm prog G wu zi):jm prog G Gm DW:=by
 refine QZ (aA [(wu,.eff (DX pF) zi),jl.e,kE.e,nS.e,lK.e] ⟨⟨TS,Qy⟩,lD,I9,J3,Gs,trivial⟩) (λ_ _=>⟨((_,_,()),()),⟨rfl,rfl⟩⟩) ?_;intro p at' q deep hin hp;obtain⟨⟨hpl,ha,hb,hd0,hd1,hws,hq⟩,hfuel⟩:=hp;have hp3:(1:Nat)<=2 ^ (10-deep).toNat:=axq;refine⟨λy=>∃n:Nat,y=((Gz (Sp.wordAt p at') n,(n:Int)+1,()),())/\n<=9,λy=>(10-y.1.2.1).toNat,⟨0,rfl,avc _⟩,?_⟩;rintro _ ⟨n,rfl,hn⟩;dsimp only;refine af (λh=>⟨ha,trivial,?_⟩) λh=>?_
 .have h:=fH h;have hw:IntKind.i64.wrap ((n:Int)+1+1)=((n+1:Nat):Int)+1:=(wrap_in (by omega)).trans (by omega);rw[hw];have e:Gz (Sp.wordAt p at') (n+1)=bif Sp.wordAt p at'==fU ((n:Int)+1)then(n:Int)+1 else Gz (Sp.wordAt p at') n:=rfl
  refine af (λh2=>⟨rfl,⟨n+1,?_,by omega⟩,by dsimp only;omega⟩) λh2=>⟨rfl,⟨n+1,?_,by omega⟩,by dsimp only;omega⟩
  .rw[e,h2];rfl
  .rw[e,h2];rfl
 have hn9:n=9:=by have:=fV h;omega
 subst hn9;rw[acY];have hop:=acZ (Sp.wordAt p at');have hw0:Sp.wordAt p at'=Sp.wordAt (p.drop at'.toNat) 0:=by rw[Sp.uK p at' 0 ha (avI _),aw1]
 have e1:IntKind.i64.wrap (at'+1)=at'+1:=wrap_in (by omega);have e2:IntKind.i64.wrap (at'+2)=at'+2:=wrap_in (by omega);have ed:IntKind.i64.wrap (deep+1)=deep+1:=wrap_in (by omega);have hw1:Sp.wordAt p (at'+1)=Sp.wordAt (p.drop at'.toNat) 1:=(Sp.uK p at' 1 ha (by decide)).symm;have hw2:Sp.wordAt p (at'+2)=Sp.wordAt (p.drop at'.toNat) 2:=(Sp.uK p at' 2 ha (by decide)).symm;have hlen2:(Sp.wordAt p (at'+2)).length<=1048576:=by
  by_cases hh:at'+2<(p.length:Int)
  .rw[qi hh];exact auU (hws _ (getD_mem (by omega))) (by decide)
  .rw[qj (by omega)];exact avc _
 rw[e1,e2,ed];have hbig:∀k:Nat,k<=1000->k<=big:=λk hk=>lX (by omega);rw[hw1];rw[hw2]at hlen2 ⊢;rw[hw0]at hop ⊢;have as5:(p.drop at'.toNat).drop 1=p.drop (at'+1).toNat:=by rw[awo,show at'.toNat+1=(at'+1).toNat by omega]
 refine⟨λy=>y=(((dF (Sp.wordAt (p.drop at'.toNat) 0)==0||(decide (deep>9)||decide ((q.length:Int)>9)),()),())),?_,?_⟩
 .cases dF (Sp.wordAt (p.drop at'.toNat) 0)==0 with
  |true=>exact⟨rfl,rfl⟩
  |false=>cases decide (deep>9)<;>exact⟨rfl,rfl⟩
 rintro _ rfl;dsimp only;by_cases arL:deep>9
 .have hd10:deep=10:=by omega
  subst hd10;rw[au2 (show(10:Int)>9 by decide),Bool.true_or,Bool.or_true];exact⟨rfl,rfl⟩
 rw[au6 arL,axw];have hs:(10-deep).toNat=(10-(deep+1)).toNat+1:=by omega
 have aqC:2 ^ (10-deep).toNat=2*2 ^ (10-(deep+1)).toNat:=by rw[hs,Nat.pow_succ,axp]
 have hp4:(1:Nat)<=2 ^ (10-(deep+1)).toNat:=axq;rw[aqC]at hb;have hfu:(10-(deep+1)).toNat<iU:=by omega
 rw[hs,Sp.rs,as5];have hrb:=λw s=>OI (10-(deep+1)).toNat w s;have hdd:∀k:Int,0<=k->(p.drop at'.toNat).drop (1+k).toNat=p.drop (at'+(1+k)).toNat:=λk hk=>by rw[awo,show at'.toNat+(1+k).toNat=(at'+(1+k)).toNat by omega]
 rw[hdd _ (hrb (p.drop (at'+1).toNat) q).2.1];have hfl:(10-(deep+1)).toNat<=10:=by omega
 have hpc:((3*2 ^ (10-(deep+1)).toNat:Nat):Int)=3*2 ^ (10-(deep+1)).toNat:=by push_cast;rfl
 generalize (10-(deep+1)).toNat=d at hrb hb hfu hp4 hfl hpc ⊢;generalize hv:Sp.wordAt (p.drop at'.toNat) 0=w0;rw[hv]at hop;generalize dF w0=op at hop ⊢;refine af (λh0=>?_) λh0=>?_
 .rw[h0];exact⟨rfl,rfl⟩
 rw[h0];have nG:q.length<=9:=by have:=fV (av3.1 h0).2;omega
 have ho0:op≠0:=auP.1 (av3.1 h0).1;clear h0 aqC;have hdp:0<=deep+1/\deep+1<=10:=by omega
 have aqD:p.length<=1000/\0<=at'+1/\(at'+1).toNat+3*2 ^ d<=1000000/\0<=deep+1/\deep+1<=10/\(∀x,x∈p->List.length x.1<=1000)/\q.length<=100:=⟨hpl,by omega,by omega,hdp.1,hdp.2,hws,by omega⟩;have ha1:0<=at'+1:=by omega
 have ha2:0<=at'+2:=by omega
 clear hin;rcases(show op=1\/op=2\/op=3\/op=4\/(op=5\/op=6\/op=7)\/op=8\/op=9 by omega)with rfl|rfl|rfl|rfl|h5|rfl|rfl
 .exact⟨λy=>y=((false,()),()),⟨rfl,rfl⟩,by rintro _ rfl;exact⟨λy=>y=((false,()),()),⟨rfl,rfl⟩,by rintro _ rfl;exact⟨trivial,hbig _ (by rw[auQ,auW];omega),rfl,rfl⟩⟩⟩
 .exact⟨λy=>y=((true,()),()),⟨rfl,rfl⟩,by rintro _ rfl;exact⟨ha1,hbig _ (by rw[auQ,auW];omega),rfl,rfl⟩⟩
 .exact⟨λy=>y=((false,()),()),⟨rfl,rfl⟩,by rintro _ rfl;exact⟨λy=>y=((true,()),()),⟨rfl,rfl⟩,by rintro _ rfl;exact⟨ha1,ha2,hlen2,hbig _ (by rw[auQ,auW];omega),rfl,rfl⟩⟩⟩
 .exact⟨λy=>y=((false,()),()),⟨rfl,rfl⟩,by rintro _ rfl;exact⟨λy=>y=((true,()),()),⟨rfl,rfl⟩,by rintro _ rfl;exact⟨ha1,ha2,hlen2,hbig _ (by rw[auQ,auW];omega),rfl,rfl⟩⟩⟩
 .have g2:(op==2)=false:=auP.2 (by omega);have g3:(op==3)=false:=auP.2 (by omega);have g4:(op==4)=false:=auP.2 (by omega);have g8:(op==8)=false:=auP.2 (by omega);have g9:(op==9)=false:=auP.2 (by omega);have g57:(decide (5<=op)&&decide (op<=7))=true:=by rw[au2 (by omega),au2 (by omega)];rfl
  have as6:(op==5||(op==6||op==7))=true:=by rcases h5 with rfl|rfl|rfl<;>rfl
  rw[g2,g3,g4,g8,g9,g57,as6];refine⟨λy=>y=((false,()),()),⟨rfl,rfl⟩,?_⟩;rintro _ rfl;refine⟨λy=>y=((false,()),()),⟨rfl,rfl⟩,?_⟩;rintro _ rfl;refine⟨trivial,⟨aqD,hfu⟩,?_⟩;rintro⟨⟨r,k,⟨⟩⟩,⟨⟩⟩ ⟨er,ek⟩;have er:r=(Sp.rs d (p.drop (at'+1).toNat) q).1:=er;have ek:k=(Sp.rs d (p.drop (at'+1).toNat) q).2:=ek;have hb1:=hrb (p.drop (at'+1).toNat) q;rw[← er,← ek]at hb1 ⊢;clear er ek;dsimp only;have hrl:r.length<=20:=by have:=hb1.1;omega
  have hk3:k<3*2 ^ d:=hb1.2.2;have hk1:IntKind.i64.wrap (1+k)=1+k:=wrap_in (by omega);have hk2:IntKind.i64.wrap (at'+(1+k))=at'+(1+k):=wrap_in (by omega);have as7:IntKind.i64.wrap ((r.length:Int)-1)=(r.length:Int)-1:=wrap_in (by omega);rw[hk1,hk2,as7];refine af (λh=>?_) λh=>?_
  .rw[h];exact⟨rfl,rfl⟩
  rw[h];have hc2:p.length<=1000/\0<=at'+(1+k)/\(at'+(1+k)).toNat+3*2 ^ d<=1000000/\0<=deep+1/\deep+1<=10/\(∀x,x∈p->List.length x.1<=1000)/\r.length<=100:=⟨hpl,by omega,by omega,hdp.1,hdp.2,hws,by omega⟩;by_cases h55:op=5
  .subst h55;exact⟨hbig _ (by rw[auQ,auW];omega),rfl,rfl⟩
  have gn:(op !=5)=true:=bne_iff_ne.2 h55;have g5:(op==5)=false:=auP.2 h55;rw[gn,g5];refine⟨⟨hc2,hfu⟩,?_⟩;rintro⟨⟨s,m,⟨⟩⟩,⟨⟩⟩ ⟨es,em⟩;have es:s=(Sp.rs d (p.drop (at'+(1+k)).toNat) r).1:=es;have em:m=(Sp.rs d (p.drop (at'+(1+k)).toNat) r).2:=em;have hb2:=hrb (p.drop (at'+(1+k)).toNat) r;rw[← es,← em]at hb2 ⊢;clear es em;dsimp only;have hsl:s.length<=20:=by have:=hb2.1;omega
  have hm3:m<3*2 ^ d:=hb2.2.2;have hm1:IntKind.i64.wrap (1+k+m)=1+k+m:=wrap_in (by omega);have hsl1:IntKind.i64.wrap ((s.length:Int)-1)=(s.length:Int)-1:=wrap_in (by omega);rw[hm1,hsl1];refine af (λh2=>?_) λh2=>?_
  .rw[h2];exact⟨rfl,rfl⟩
  rw[h2];exact⟨hbig _ (by rw[auQ,auW];omega),rfl,rfl⟩
 .exact⟨λy=>y=((true,()),()),⟨rfl,rfl⟩,by rintro _ rfl;exact⟨ha1,hbig _ (by rw[auQ,auW];omega),rfl,rfl⟩⟩
 .exact⟨λy=>y=((true,()),()),⟨rfl,rfl⟩,by rintro _ rfl;exact⟨ha1,hbig _ (by rw[auQ,auW];omega),rfl,rfl⟩⟩
theorem ac2:jm prog G Ia LQ:=
 ajR (λn=>@G5 ⟨n⟩) (λn=>@tY ⟨n⟩) (by rintro⟨p,at',q,deep,⟨⟩⟩ h;exact avR _ h.2) (by rintro _ ⟨p,at',q,deep,⟨⟩⟩;rfl) (by rintro⟨p,at',q,deep,⟨⟩⟩ h;exact⟨_,h,awx _⟩) (by rintro _ ⟨p,at',q,deep,⟨⟩⟩;rfl) λn h=>@QY ⟨n⟩ h
end Go.Proofs.Tryz
namespace Go.Proofs.Tryz
open Go Go.Fw Go.IntWalk Sp
theorem ajo(s:List UInt8)(h:gZ s=true):gq s=((Sp.rs 10 (Sp.wordsOf s) []).2==((Sp.wordsOf s).length:Int)&&(!(Sp.textOf (Sp.rs 10 (Sp.wordsOf s) []).1==[])&&Sp.textOf (Sp.rs 10 (Sp.wordsOf s) []).1==gm (Sp.wordsOf s))):=by rw[← ac3,Yi,h,awJ]
theorem OJ{s:List UInt8}(h:gq s=false):(([]:List ak),false,())=(fM s,gq s,()):=by unfold fM;rw[h];rfl
theorem Xb:OK pV.e:=by
 refine PA.ok mixed (aA [qG.e,ou.e,(Ia,.eff (DX BU) LQ),kW.e] ⟨Oy,BI,⟨ac2,aao⟩,Hf,trivial⟩) YW (by kernel_rfl) (show∀s,pV.goal (XB s) (s,())from ?_);intro s hin hp;dsimp only[pV]at hp ⊢;have hp:s.length<=1048576:=hp;refine⟨hp,af (λh=>?_) λh=>?_⟩
 .refine OJ ?_;rw[← ac3,Yi,jP h];rfl
 have hok:=gI h;obtain⟨hw,hl,hj,_,_⟩:=Zz hok;have hpp:=ajo s hok;have hws:∀x∈Sp.wordsOf s,x.1.length<=1000:=λx hx=>auU (Td x hx) (auU (qZ.1 hok).1 (by decide));rw[hw];refine⟨⟨hl,by decide,by decide,by decide,by decide,hws,by decide⟩,?_⟩;rintro⟨⟨r,k,⟨⟩⟩,⟨⟩⟩ ⟨er,ek⟩;have er:r=(Sp.rs 10 (Sp.wordsOf s) []).1:=er;have ek:k=(Sp.rs 10 (Sp.wordsOf s) []).2:=ek;have hb:=(OI 10 (Sp.wordsOf s) []).1;have hsame:=λhq:gq s=true=>TT hq;rw[← er]at hb hpp hsame;rw[← ek]at hpp;clear er ek;dsimp only;refine⟨auU hb (by decide),af (λh1=>OJ ?_) λh1=>af (λh2=>OJ ?_) λh2=>⟨⟨hl,hj⟩,af (λh3=>OJ ?_) λh3=>?_⟩⟩
 .have h1:(k==((Sp.wordsOf s).length:Int))=false:=jP h1;rw[hpp,h1];rfl
 .rw[hpp,h2,Bool.not_true,awY,awN]
 .rw[hpp,jP h3,awN,awN]
 .have h1:(k==((Sp.wordsOf s).length:Int))=true:=gI h1;have hq:gq s=true:=by rw[hpp,h1,h2,gI h3];rfl
  obtain⟨q1,q2,_⟩:=hsame hq;rw[hq,q2,← q1]
theorem XC(a b:List (List UInt8)):Sp.ls (a++b)=Sp.ls a++Sp.ls b:=avN
theorem Jc:OK tq.e:=by
 refine PA.ok mixed (aA [(zk,.pure uX),oq.e,qF.e] ⟨⟨Gi,MJ⟩,Hr,DI,trivial⟩) YX (by kernel_rfl) (show∀f0 f1 f2 f3 f4,tq.goal (XD f0 f1 f2 f3 f4) ((f0,f1,f2,f3,f4,()),())from ?_);intro f0 f1 f2 f3 f4 hin hp;dsimp only[tq]at hp ⊢;obtain⟨hl,ht⟩:f4.length<=1048576/\(dP f4).length<=1073741824:=hp;have hlong:=(aip (f:=(f0,f1,f2,f3,f4,())) hin.1.1 hin.1.2.1 hin.1.2.2.2.1).1;refine iE (((bif f2 then[115]else[111],()),())) ?_ ⟨trivial,trivial,trivial,?_⟩
 .cases f2<;>exact⟨rfl,rfl⟩
 refine iy (mk:=λi(s:Sp.LS)=>(((),i,()),s,())) (λy=>y.1.2.1) (λ_ _=>rfl) f4.length (by omega)
  (λn s=>s=Sp.ls (jX::Lib.itoa f0::Lib.itoa f1::(bif f2 then[115]else[111])::Lib.itoa f3::dV (f4.take n))) rfl (λI μ n s hn hJ next=>?_) λI μ s hJ=>?_
 .subst hJ;dsimp only;rw[ava];refine fP (by omega) ⟨⟨by omega,by omega⟩,trivial,lX ?_,rfl,next _ ?_⟩
  .have:=Ih (f4.take n);rw[auY]at this;simp only[Sp.ls,au7,auQ,auW];omega
  .rw[ac4 hn];rw[show∀a b c d e,jX::a::b::c::d::(dV (f4.take n)++e)=(jX::a::b::c::d::dV (f4.take n))++e fromλ_ _ _ _ _=>rfl,XC];rfl
 .subst hJ;dsimp only;rw[avy (auT _)];have e:List.map (λ(x:List UInt8×Unit)=>x.1) (Sp.ls (jX::Lib.itoa f0::Lib.itoa f1::(bif f2 then[115]else[111])::Lib.itoa f3::dV f4))=jX::Lib.itoa f0::jy (f0,f1,f2,f3,f4,()):=aiq _;rw[e];refine fQ (by omega) ⟨⟨?_,auU hlong (by have ht:(dP (f0,f1,f2,f3,f4,()).2.2.2.2.1).length<=1073741824:=ht;omega)⟩,rfl⟩;have:=Ih f4;simp only[Sp.ls,au7,auQ];omega
end Go.Proofs.Tryz
namespace Go.Proofs.Tryz
open Go Go.Fw Go.RowKit Sp
theorem aN{w:World}{g:Nat}{cur:Array Value}{t:TypeId}{fz:Nat×Nat}(h:w.heap[g]? =some (.cells cur t fz))(k:Nat):w.cell? ⟨g,k,none⟩=cur[k]? :=by simp[World.cell?,h]
theorem dN{w:World}{g:Nat}{cur:Array Value}{t:TypeId}(h:w.heap[g]? =some (.cells cur t (0,0)))(k:Nat):w.frozen? ⟨g,k,none⟩=false:=by simp[World.frozen?,h]
theorem gG{w:World}{g:Nat}{cur:Array Value}{t:TypeId}{fz:Nat×Nat}(h:w.heap[g]? =some (.cells cur t fz))(k:Nat)(v:Value):(w.setCell ⟨g,k,none⟩ v).heap[g]? =some (.cells (cur.setIfInBounds k v) t fz):=by simp only[World.setCell,axA,if_pos,h];rfl
theorem ng{w:World}{p:Addr}{b:Nat}(v:Value)(h:b≠p.block):(w.setCell p v).heap[b]? =w.heap[b]? :=by simp only[World.setCell,axA,if_neg (awM h)]
def FW(B:Nat)(W:World)(v:Value)(f:Sp.LS):Prop:=dh W.heap (λb=>b<B) (.sl aU dK) v f
structure Step(W w':World)(P:Nat)(own:Option Nat):Prop where
 os:w'.os=W.os
 tape:w'.tape=W.tape
 output:w'.output=W.output
 size:W.heap.size<=w'.heap.size
 block:∀b,b<W.heap.size->b≠P->own≠some b->w'.heap[b]? =W.heap[b]?
theorem FW.keep{B:Nat}{W w':World}{v:Value}{f:Sp.LS}(h:FW B W v f)(hk:∀b,b<B->w'.heap[b]? =W.heap[b]?):FW B w' v f:=by
 refine⟨h.1,?_⟩;rcases h.2 with h2|⟨b,off,cap,cs,t,fz,h1,h2,h3,h4,h5⟩
 .exact .inl h2
 .exact .inr ⟨b,off,cap,cs,t,fz,h1,h2,h3,(hk b h3).trans h4,λi x hx=>aI.flat (S:=λb=>b<B) _ _ _ rfl (h5 i x hx)⟩
set_option maxHeartbeats 4000000 in
set_option maxRecDepth 100000 in
theorem zT(B P:Nat)(W:World)(vf vn:Value)(f:Sp.LS)(Gy:B<=P)(hP:W.heap[P]? =some (.cells #[vf,vn] 173 (0,0)))(hf:FW B W vf f):
 Calls prog 189 #[.pointer (some ⟨P,0,none⟩)] W λe w'=>e=.returned (.string ⟨(Sp.wordAt f 0).toArray⟩)/\∃J4,FW B w' J4 (f.drop 1)/\w'.heap[P]? =some (.cells #[J4,vn] 173 (0,0))/\Step W w' P none:=by
 have mixed:=Tryz.mixed;have c0:W.cell? ⟨P,0,none⟩=some vf:=aN hP 0;have z0:W.frozen? ⟨P,0,none⟩=false:=dN hP 0;obtain⟨hml,hcase⟩:=id hf;rcases hcase with⟨e1,a,c,rfl⟩|⟨b,off,cap,cs,t,fz,rfl,hcap,hb,hbl,hx⟩
 .subst e1
  go_enter Tryz.func189,Tryz.ntmps189
  go_wp2
  go_ret
  exact⟨rfl,_,hf,hP,rfl,rfl,rfl,auT _,λ_ _ _ _=>rfl⟩
 .cases f with
  |nil=>
   go_enter Tryz.func189,Tryz.ntmps189
   go_wp2
   go_ret
   exact⟨rfl,_,hf,hP,rfl,rfl,rfl,auT _,λ_ _ _ _=>rfl⟩
  |cons x r=>
   have hx0:=hx 0 x rfl;obtain⟨u,us,e1,⟨e2,_⟩,_⟩:=hx0;have cx:W.cell? ⟨b,off,none⟩=some (.string ⟨x.1.toArray⟩):=by rw[aN hbl,← e2];have h0:=congrArg (λl=>l[0]?) e1;have h0:((cs.toList.drop (off+0*1)).take 1)[0]? =some u:=h0;simpa[avr,avs]using h0
   have hl:(x::r).length=r.length+1:=rfl;rw[hl]at hcap c0 hml;have hrl:¬((r.length+1:Nat):Int)=0:=by omega
   have hw:Sp.wordAt (x::r) 0=x.1:=eP x r;rw[hw];have hr:FW B W (.slice (if cap=1 then some ⟨b,off,none⟩else some ⟨b,off+1,none⟩) r.length (cap-1)) r:=by
    refine⟨by have:=hml;omega,?_⟩;by_cases h1:cap=1
    .have hr0:r=[]:=avH.1 (by omega);subst hr0;exact .inl ⟨rfl,_,_,rfl⟩
    .rw[if_neg h1];refine .inr ⟨b,off+1,cap-1,cs,t,fz,rfl,by omega,hb,hbl,λi y hy=>?_⟩;have:=hx (i+1) y (by simpa using hy);rw[show off+1+i*dK.len=off+(i+1)*dK.len by show off+1+i*1=off+(i+1)*1;omega];exact this
   generalize r.length=n at*
   go_enter Tryz.func189,Tryz.ntmps189
   go_wp2
   all_goals go_ret
   all_goals refine⟨rfl,_,FW.keep (W:=W) ?_ λb' hb'=>ng _ (show b'≠P by omega),gG hP 0 _,rfl,rfl,rfl,by simp[World.setCell],λb' _ hb' _=>ng _ hb'⟩
   .rw[if_pos h,show cap-1=0 by omega]at hr;exact hr
   .rw[if_neg h]at hr;exact hr
theorem apC(op:Int)(h:-9223372036854775808<=op/\op<=9223372036854775807)(w:World)(hG:G.ok w):Calls prog 151 #[.int .i64 op] w λe w'=>e=.returned (.string ⟨(fU op).toArray⟩)/\Below w.heap.size w w':=by have hc:fG prog G 151 (iw kY.sh kY.bI kY.F):=JZ.1;refine(hc [.sv (.one (.int .i64 op))] True ⟨[(false,[.plain (.str (fU op))])],none⟩ 0 (λ_=>True) #[.int .i64 op] w rfl trivial hG ⟨⟨rfl,h⟩,trivial⟩).mono ?_;rintro e w' ⟨v,vals,rfl,h1,h2,h3,h4,h5,h6,_,_⟩;have h6:v=.string ⟨(fU op).toArray⟩/\(fU op).length<=maxLen:=h6;exact⟨by rw[h6.1],h1,h2,h3,h4,h5⟩
theorem aj8(s:List UInt8)(hs:s.length<=1048576)(w:World)(hG:G.ok w):Calls prog 152 #[.string ⟨s.toArray⟩] w λe w'=>
 e=.returned (.tuple #[.agg #[.int .i64 (aV s).1.1,.int .i64 (aV s).1.2.1,.string ⟨(aV s).1.2.2.1.toArray⟩],.bool (aV s).2])/\Below w.heap.size w w'/\
  (-9223372036854775808<=(aV s).1.1/\(aV s).1.1<=9223372036854775807)/\(-9223372036854775808<=(aV s).1.2.1/\(aV s).1.2.1<=9223372036854775807)/\(aV s).1.2.2.1.length<=maxLen:=by
 have hc:fG prog G 152 (iw mg.sh mg.bI mg.F):=Jg.1;refine(hc [.sv (.one (.str s))] (s.length<=1048576) _ 0 (λ_=>True) #[.string ⟨s.toArray⟩] w rfl hs hG ⟨⟨rfl,by rw[maxLen_eq];omega⟩,trivial⟩).mono ?_;rintro e w' ⟨v,vals,rfl,h1,h2,h3,h4,h5,h6,_,_⟩;obtain⟨vs,rfl,h7⟩:=h6;obtain⟨l⟩:=vs
 match l,h7 with
 |[a,b],h7=>
  obtain⟨⟨us,ea,h8⟩,h9,_⟩:=h7;obtain⟨ul⟩:=us
  match ul,h8 with
  |[x,y,z],h8=>obtain⟨x1,y1,z1,_⟩:=h8;have h9:b=.bool (aV s).2:=h9;rw[ea,h9,x1.1,y1.1,z1.1];exact⟨rfl,⟨h1,h2,h3,h4,h5⟩,x1.2,y1.2,z1.2⟩
def NW(B P:Nat)(W:World)(v:Value)(q:List ak):Prop:=
 ∃xs,W.ownsRow B 168 7 v q.length xs/\v.ownBlock≠some P/\∀i x,q[i]? =some x->aI #[] (λ_=>False) bg ((xs.drop (i*7)).take 7) x
def fD(op l r:Int)(s:List UInt8)(k n:Int)(t:List UInt8):Array Value:=#[.int .i64 op,.int .i64 l,.int .i64 r,.string ⟨s.toArray⟩,.int .i64 k,.int .i64 n,.string ⟨t.toArray⟩]
theorem vI{W w':World}{base size n:Nat}{e:TypeId}{v:Value}{xs:List Value}(h:W.ownsRow base e size v n xs)(hk:∀g,v.ownBlock=some g->w'.heap[g]? =W.heap[g]?):w'.ownsRow base e size v n xs:=by
 refine⟨h.1,?_⟩;rcases h.2 with h2|⟨g,cap,cur,rfl,h3,h4,h5⟩
 .exact .inl h2
 .exact .inr ⟨g,cap,cur,rfl,h3,(hk g rfl).trans h4,h5⟩
theorem apD:(prog.info? 168).map (λi=>(i.zero,i.size,i.bytes))=some (some (.agg (fD 0 0 0 [] 0 0 [])),7,72):=by kernel_rfl
theorem amV(op l r:Int)(s:List UInt8)(k n:Int)(t:List UInt8):∀u∈(fD op l r s k n t).toList,u.oneCell'=true:=by intro u hu;simp[fD]at hu;rcases hu with rfl|rfl|rfl|rfl|rfl|rfl|rfl<;>rfl
def uy(n:Int):Prop:=-9223372036854775808<=n/\n<=9223372036854775807
theorem sU{op l r:Int}{s:List UInt8}{k n:Int}{t:List UInt8}(h1:uy op)(h2:uy l)(h3:uy r)(h4:s.length<=maxLen)(h5:uy k)(h6:uy n)(h7:t.length<=maxLen):
 aI #[] (λ_=>False) bg (fD op l r s k n t).toList (op,l,r,s,k,n,t,()):=
 ⟨_,_,rfl,⟨rfl,h1⟩,_,_,rfl,⟨rfl,h2⟩,_,_,rfl,⟨rfl,h3⟩,_,_,rfl,⟨rfl,h4⟩,_,_,rfl,⟨rfl,h5⟩,_,_,rfl,⟨rfl,h6⟩,_,_,rfl,⟨rfl,h7⟩,rfl⟩
structure FC(B P N:Nat)(W:World)(aa1:Option Nat)(w:World)(vf vn:Value)(f:Sp.LS)(q:List ak):Prop where
 gl:G.ok w
 cells:w.heap[P]? =some (.cells #[vf,vn] 173 (0,0))
 words:FW B w vf f
 nodes:NW B P w vn q
 step:Step W w P aa1
 fresh:∀g,vn.ownBlock=some g->aa1=some g\/W.heap.size<=g
 aeG:vn.ownBlock≠some N
 old:W.heap.size<=N
 lt:N<w.heap.size
 low:5<=B/\B<=P/\P<W.heap.size
theorem Eh{w:World}{g:Nat}{o l r:Int}{s:List UInt8}{k n:Int}{t:List UInt8}{ty:TypeId}{fz:Nat×Nat}(h:w.heap[g]? =some (.cells (fD o l r s k n t) ty fz)):w.cell? ⟨g,0,none⟩=some (.int .i64 o)/\w.cell? ⟨g,1,none⟩=some (.int .i64 l)/\w.cell? ⟨g,2,none⟩=some (.int .i64 r)/\w.cell? ⟨g,3,none⟩=some (.string ⟨s.toArray⟩)/\w.cell? ⟨g,4,none⟩=some (.int .i64 k)/\w.cell? ⟨g,5,none⟩=some (.int .i64 n)/\w.cell? ⟨g,6,none⟩=some (.string ⟨t.toArray⟩):=
 ⟨aN h 0,aN h 1,aN h 2,aN h 3,aN h 4,aN h 5,aN h 6⟩
theorem FC.four{B P N:Nat}{W:World}{o:Option Nat}{w:World}{vf vn:Value}{f:Sp.LS}{q:List ak}(h:FC B P N W o w vf vn f q):w.cell? ⟨P,1,none⟩=some vn/\w.frozen? ⟨P,1,none⟩=false/\P<w.heap.size/\B<=w.heap.size:=
 ⟨aN h.cells 1,dN h.cells 1,(auV.1 h.cells).1,by have:=(auV.1 h.cells).1;have:=h.low;omega⟩
theorem ql{ops:Array Oper}{o:Oper}{a:Act}{K:Act->World->Prop}{Q:Exit->Act->World->Prop}{E:Prop}{B P N:Nat}{W:World}{aa1:Option Nat}{w:World}{vf vn:Value}{f:Sp.LS}{q:List ak}{xs:List Value}(op l r:Int)(s:List UInt8)(k n:Int)(t:List UInt8)
 (hR:FC B P N W aa1 w vf vn f q) (nG:(q.length+1)*72<=140737488355328) (hgd:o.guard=none) (ho:o.op=.call {callee:=.builtin .append,args:=#[.tmp 84,.tmp 86],argTypes:=#[91,91]})
 (hown:w.ownsRow B 168 7 vn q.length xs) (tJ:vn.ownBlock≠some P) (hs:a.eval (.tmp 84)=vn) (hx:a.eval (.tmp 86)=.slice (some ⟨w.heap.size,0,none⟩) 1 1)
 (h:∀g cap w5,w5.ownsRow B 168 7 (.slice (some ⟨g,0,none⟩) (q.length+1) cap) (q.length+1) (xs++(fD op l r s k n t).toList)->(w.drew.alloc (Obj.cells (fD op l r s k n t) 168 (0,0))).grownBy w5 vn.ownBlock->(vn.ownBlock=some g\/g=(w.drew.alloc (Obj.cells (fD op l r s k n t) 168 (0,0))).heap.size)->g<w5.heap.size->
   w5.heap[P]? =some (.cells #[vf,vn] 173 (0,0))->w5.cell? ⟨P,1,none⟩=some vn->w5.frozen? ⟨P,1,none⟩=false->K (a.put o.dst (.slice (some ⟨g,0,none⟩) (q.length+1) cap)) w5):
 if Region.wanted o (yielded ops a.tmps)=true then Oper.wp prog o a (w.drew.alloc (Obj.cells (fD op l r s k n t) 168 (0,0))) K Q else E:=by
 obtain⟨i0,hi,hz0,hz1,hz2⟩:=awW apD;obtain⟨-,-,vJ,hBr⟩:=hR.four;have hqm:q.length+1<=maxLen:=by rw[maxLen_eq];omega
 refine step_append_lies _ hgd (.tmp 84) (.tmp 86) 91 ho B 168 i0 (.agg (fD 0 0 0 [] 0 0 [])) 7 72 Tryz.underlying91 hi hz0 hz1 hz2 rfl (by decide) vn q.length xs hs ((awS hown).alloc _) ⟨w.heap.size,0,none⟩ 1 1 (fD op l r s k n t).toList hx rfl (World.news_of_block (avz _ _)) (amV op l r s k n t) (by decide) hqm nG (by simp;omega) _ rfl ?_;intro g cap w5 h1 h2 h3 h4;have nR:=(h2.block P (by simp;omega) (λe=>tJ e.symm)).trans ((heap_alloc_old w.drew _ vJ).trans hR.cells);exact h g cap w5 h1 h2 h3 h4 nR (aN nR 1) (dN nR 1)
def Done(B P:Nat)(W:World)(aa1:Option Nat)(f:Sp.LS)(q:List ak)(w:World):Prop:=
 ∃vf vn,w.heap[P]? =some (.cells #[vf,vn] 173 (0,0))/\FW B w vf f/\NW B P w vn q/\Step W w P aa1/\∀g,vn.ownBlock=some g->aa1=some g\/W.heap.size<=g
theorem Step.refl(w:World)(P:Nat)(own:Option Nat):Step w w P own:=⟨rfl,rfl,rfl,auT _,λ_ _ _ _=>rfl⟩
theorem Step.trans{a b c:World}{P:Nat}{o o':Option Nat}(h:Step a b P o)(k:Step b c P o')(hf:∀g,o'=some g->o=some g\/a.heap.size<=g):Step a c P o:=
 ⟨k.os.trans h.os,k.tape.trans h.tape,k.output.trans h.output,auU h.size k.size,λx hx hP ho=>(k.block x (avh hx h.size) hP λe=>by
   rcases hf x e with h1|h1
   .exact ho h1
   .omega).trans (h.block x hx hP ho)⟩
theorem Step.below{a b c:World}{P:Nat}{o:Option Nat}(h:Step a b P o)(k:Below b.heap.size b c):Step a c P o:=
 ⟨k.os.trans h.os,k.tape.trans h.tape,k.output.trans h.output,auU h.size k.size,λx hx hP ho=>(k.block x (avh hx h.size)).trans (h.block x hx hP ho)⟩
theorem NW.keep{B P:Nat}{w w':World}{v:Value}{q:List ak}(h:NW B P w v q)(hk:∀g,v.ownBlock=some g->w'.heap[g]? =w.heap[g]?):NW B P w' v q:=by obtain⟨xs,h1,h2,h3⟩:=h;exact⟨xs,vI h1 hk,h2,h3⟩
theorem NW.lt{B P:Nat}{w:World}{v:Value}{q:List ak}(h:NW B P w v q){g:Nat}(hg:v.ownBlock=some g):B<=g/\g<w.heap.size/\g≠P:=by obtain⟨xs,h1,h2,_⟩:=h;exact⟨(h1.lt g hg).1,(h1.lt g hg).2,λe=>h2 (by rw[hg,e])⟩
theorem FC.below{B P N:Nat}{W:World}{o:Option Nat}{w w':World}{vf vn:Value}{f:Sp.LS}{q:List ak}(h:FC B P N W o w vf vn f q)(k:Below w.heap.size w w'):FC B P N W o w' vf vn f q:=by have hP:P<w.heap.size:=avh h.low.2.2 h.step.size;exact⟨bG h.gl k,(k.block P hP).trans h.cells,h.words.keep λb hb=>k.block b (by have:=h.low;omega),h.nodes.keep λg hg=>k.block g (h.nodes.lt hg).2.1,h.step.below k,h.fresh,h.aeG,h.old,avh h.lt k.size,h.low⟩
theorem FC.zI{B P N:Nat}{W:World}{o:Option Nat}{w:World}{vf vn:Value}{f:Sp.LS}{q:List ak}(h:FC B P N W o w vf vn f q)(k:Nat)(v:Value):FC B P N W o (w.setCell ⟨N,k,none⟩ v) vf vn f q:=by
 have hl:=h.low;have ho:=h.old;have far:∀b,b≠N->(w.setCell ⟨N,k,none⟩ v).heap[b]? =w.heap[b]? :=λb hb=>ng v hb;have hs:(w.setCell ⟨N,k,none⟩ v).heap.size=w.heap.size:=by simp[World.setCell]
 refine⟨G.stable _ _ h.gl (by rw[hs];exact auT _) λb hb=>far b (by have:b<5:=hb;omega),(far P (by omega)).trans h.cells,h.words.keep λb hb=>far b (by omega),h.nodes.keep λg hg=>far g (λe=>h.aeG (by rw[hg,e])),?_,h.fresh,h.aeG,ho,by rw[hs];exact h.lt,hl⟩;exact⟨h.step.os,h.step.tape,h.step.output,by rw[hs];exact h.step.size,λx hx hP hoo=>(far x (by omega)).trans (h.step.block x hx hP hoo)⟩
theorem G_step{W w':World}{P B:Nat}{own:Option Nat}(Zy:5<=B)(Gy:B<=P)(hG:G.ok W)(h:Step W w' P own)(ho:∀b,own=some b->B<=b):G.ok w':=
 G.stable W w' hG h.size λb hb=>h.block b (avh hb (G.low W hG)) (by have:b<5:=hb;omega) λe=>by have:=ho b e;have:b<5:=hb;omega
theorem FC.next{B P N:Nat}{W:World}{o:Option Nat}{w w':World}{vf vn J4:Value}{f f':Sp.LS}{q:List ak}(h:FC B P N W o w vf vn f q)(h1:FW B w' J4 f')(h2:w'.heap[P]? =some (.cells #[J4,vn] 173 (0,0)))(h3:Step w w' P none):FC B P N W o w' J4 vn f' q/\w'.heap[N]? =w.heap[N]? :=by have hl:=h.low;have ho:=h.old;exact⟨⟨G_step hl.1 hl.2.1 h.gl h3 (λb e=>by cases e),h2,h1,h.nodes.keep λg hg=>h3.block g (h.nodes.lt hg).2.1 (h.nodes.lt hg).2.2 (λe=>by cases e),h.step.trans h3 (λg e=>by cases e),h.fresh,h.aeG,ho,avh h.lt h3.size,hl⟩,h3.block N h.lt (by omega) (λe=>by cases e)⟩
theorem FC.read{B P N:Nat}{W:World}{o:Option Nat}{w w':World}{vf vn:Value}{f f':Sp.LS}{q q':List ak}(h:FC B P N W o w vf vn f q)(k:Done B P w vn.ownBlock f' q' w'):(∃J4 vn',FC B P N W o w' J4 vn' f' q')/\w'.heap[N]? =w.heap[N]? :=by
 have hl:=h.low;have ho:=h.old;have hN:=h.lt;obtain⟨J4,vn',h1,h2,h3,h4,h5⟩:=k;refine⟨⟨J4,vn',G_step hl.1 hl.2.1 h.gl h4 (λb e=>(h.nodes.lt e).1),h1,h2,h3,h.step.trans h4 h.fresh,λg hg=>?_,λe=>?_,ho,avh h.lt h4.size,hl⟩,h4.block N h.lt (by omega) (λe=>h.aeG e)⟩
 .rcases h5 g hg with e|e
  .exact h.fresh g e
  .exact .inr (auU h.step.size e)
 .rcases h5 N e with e|e
  .exact h.aeG e
  .omega
theorem FC.put{B P N:Nat}{W:World}{o:Option Nat}{w w0 w5:World}{vf vn:Value}{f:Sp.LS}{q:List ak}(h:FC B P N W o w vf vn f q)(hb:Below w.heap.size w w0){xs:List Value}(hown:w.ownsRow B 168 7 vn q.length xs)
 (hrep:∀i x,q[i]? =some x->aI #[] (λ_=>False) bg ((xs.drop (i*7)).take 7) x) {op l r:Int} {s:List UInt8} {k n:Int} {t:List UInt8} (hx:aI #[] (λ_=>False) bg (fD op l r s k n t).toList (op,l,r,s,k,n,t,()))
 {g cap:Nat} (h5:w5.ownsRow B 168 7 (.slice (some ⟨g,0,none⟩) (q.length+1) cap) (q.length+1) (xs++(fD op l r s k n t).toList)) (hg:w0.grownBy w5 vn.ownBlock) (hat:vn.ownBlock=some g\/g=w0.heap.size) (hlt:g<w5.heap.size):
 Done B P W o f (q++[(op,l,r,s,k,n,t,())]) (w5.setCell ⟨P,1,none⟩ (.slice (some ⟨g,0,none⟩) (q.length+1) cap)):=by
 have hl:=h.low;have ho:=h.old;have hPw:P<w.heap.size:=avh hl.2.2 h.step.size;have hPn:vn.ownBlock≠some P:=λe=>(h.nodes.lt e).2.2 rfl;have hgP:g≠P:=by
  rcases hat with e|e
  .exactλe2=>hPn (by rw[e,e2])
  .have:=hb.size;omega
 have same:∀b,b<w.heap.size->vn.ownBlock≠some b->w5.heap[b]? =w.heap[b]? :=λb hlb hnb=>(hg.block b (avh hlb hb.size) (λe=>hnb e.symm)).trans (hb.block b hlb);have far:∀b,b≠P->(w5.setCell ⟨P,1,none⟩ (.slice (some ⟨g,0,none⟩) (q.length+1) cap)).heap[b]? =w5.heap[b]? :=λb hb=>ng _ hb;have nR:=(same P hPw hPn).trans h.cells;have hs5:(w5.setCell ⟨P,1,none⟩ (.slice (some ⟨g,0,none⟩) (q.length+1) cap)).heap.size=w5.heap.size:=by simp[World.setCell]
 have hsz:w.heap.size<=w5.heap.size:=auU hb.size hg.size;refine⟨vf,.slice (some ⟨g,0,none⟩) (q.length+1) cap,gG nR 1 _,h.words.keep λb hb=>?_,⟨xs++(fD op l r s k n t).toList,?_,λe=>hgP (by cases e;rfl),λi x hi=>?_⟩,?_,λg' hg'=>?_⟩
 .exact(far b (by omega)).trans (same b (by omega) λe=>by have:=(h.nodes.lt e).1;omega)
 .rw[auN];exact vI h5 λg' hg'=>far g' (by cases hg';exact hgP)
 .have hxl:xs.length=q.length*7:=hown.1;rcases avb i q.length with hi'|hi'
  .rw[avA hi']at hi;have:=hrep i x hi;rw[awl (by rw[hxl];omega),awK (by rw[avl,hxl];omega)];exact this
  .rw[avq hi']at hi;have e0:i=q.length:=by have:=(au5.1 hi).1;simp at this;omega
   subst e0;rw[aw9]at hi;cases hi;rw[← hxl,axN];exact hx
 .refine⟨hg.os.trans (hb.os.trans h.step.os),hg.tape.trans (hb.tape.trans h.step.tape),hg.output.trans (hb.output.trans h.step.output),by rw[hs5];exact auU h.step.size hsz,λb hlb hbP hob=>?_⟩;refine(far b hbP).trans ((same b (avh hlb h.step.size) λe=>?_).trans (h.step.block b hlb hbP hob));rcases h.fresh b e with e2|e2
  .exact hob e2
  .omega
 .have hg':some g=some g':=hg';cases hg';rcases hat with e|e
  .exact h.fresh g e
  .right;have:=hb.size;have:=h.step.size;omega
theorem wQ{B P:Nat}{W:World}{o:Option Nat}{w:World}{b c:Bool}{f:Sp.LS}{q:List ak}{z:Bool×Sp.LS×List ak}(e:Hid (z=(c,f,q)))(hb:Ending.returned (.bool b)=Ending.returned (.bool c))(h:Done B P W o f q w):Ending.returned (.bool b)=Ending.returned (.bool z.1)/\Done B P W o z.2.1 z.2.2 w:=by rw[e.out];exact⟨hb,h⟩
theorem Ig{k:Nat}{f:Sp.LS}{q:List ak}{op:Int}(h:op=dF (Sp.wordAt f 0))(c:op=0\/op=1):Sp.rd (k+1) f q=(!(op==0),f.drop 1,q++[(op,0,0,[],0,0,[],())]):=by rw[Sp.rd,← h];rcases c with rfl|rfl<;>rfl
theorem Na{k:Nat}{f:Sp.LS}{q:List ak}{op:Int}(h:op=dF (Sp.wordAt f 0))(c:op=2\/op=8\/op=9):Sp.rd (k+1) f q=(true,(f.drop 1).drop 1,q++[(op,0,0,Sp.wordAt (f.drop 1) 0,0,0,[],())]):=by rw[Sp.rd,← h];rcases c with rfl|rfl|rfl<;>rfl
theorem TQ{k:Nat}{f:Sp.LS}{q:List ak}{op:Int}(h:op=dF (Sp.wordAt f 0))(c:op=3\/op=4):Sp.rd (k+1) f q=((aV (Sp.wordAt ((f.drop 1).drop 1) 0)).2,((f.drop 1).drop 1).drop 1,q++[(op,0,0,Sp.wordAt (f.drop 1) 0,(aV (Sp.wordAt ((f.drop 1).drop 1) 0)).1)]):=by rw[Sp.rd,← h];rcases c with rfl|rfl<;>rfl
theorem ail{k:Nat}{f:Sp.LS}{q:List ak}(h:(5:Int)=dF (Sp.wordAt f 0)):Sp.rd (k+1) f q=((Sp.rd k (f.drop 1) q).1,(Sp.rd k (f.drop 1) q).2.1,(Sp.rd k (f.drop 1) q).2.2++[(5,((Sp.rd k (f.drop 1) q).2.2.length:Int)-1,0,[],0,0,[],())]):=by rw[Sp.rd,← h];rfl
theorem Yg{k:Nat}{f:Sp.LS}{q:List ak}{op:Int}(h:op=dF (Sp.wordAt f 0))(c:op=6\/op=7)(h1:(Sp.rd k (f.drop 1) q).1=true):Sp.rd (k+1) f q=((Sp.rd k (Sp.rd k (f.drop 1) q).2.1 (Sp.rd k (f.drop 1) q).2.2).1,(Sp.rd k (Sp.rd k (f.drop 1) q).2.1 (Sp.rd k (f.drop 1) q).2.2).2.1,
 (Sp.rd k (Sp.rd k (f.drop 1) q).2.1 (Sp.rd k (f.drop 1) q).2.2).2.2++[(op,((Sp.rd k (f.drop 1) q).2.2.length:Int)-1,((Sp.rd k (Sp.rd k (f.drop 1) q).2.1 (Sp.rd k (f.drop 1) q).2.2).2.2.length:Int)-1,[],0,0,[],())]):=by
 rw[Sp.rd,← h,h1];rcases c with rfl|rfl<;>rfl
theorem acX{k:Nat}{f:Sp.LS}{q:List ak}{op:Int}(h:op=dF (Sp.wordAt f 0))(c:op=6\/op=7)(h1:(Sp.rd k (f.drop 1) q).1=false):Sp.rd (k+1) f q=(false,(Sp.rd k (f.drop 1) q).2.1,
 (Sp.rd k (f.drop 1) q).2.2++[(op,((Sp.rd k (f.drop 1) q).2.2.length:Int)-1,((Sp.rd k (f.drop 1) q).2.2.length:Int)-1,[],0,0,[],())]):=by
 rw[Sp.rd,← h,h1];rcases c with rfl|rfl<;>rfl
theorem yA:∀(k:Nat)(w:Sp.LS)(q:List ak),(Sp.rd k w q).2.2.length+2*(Sp.rd k w q).2.1.length<=q.length+2*w.length+1
 |0,w,q=>Nat.le_succ _
 |k+1,w,q=>by
  have hd:(w.drop 1).length=w.length-1:=avl;rcases AL (Sp.wordAt w 0)with h0|⟨hc,_⟩
  .rw[Ig h0.symm (.inl rfl)];simp only[auN,auQ,auW,hd];omega
  have hne:0<w.length:=by obtain⟨r,e,_⟩:=Yh (w:=w) (by omega);rw[e,auQ];omega
  have d2:((w.drop 1).drop 1).length<=w.length-1:=by rw[avl];omega
  have d3:(((w.drop 1).drop 1).drop 1).length<=w.length-1:=by rw[avl];omega
  have i1:=yA k (w.drop 1) q;generalize ho:dF (Sp.wordAt w 0)=op at hc;rcases(show op=1\/(op=2\/op=8\/op=9)\/(op=3\/op=4)\/op=5\/(op=6\/op=7) by omega)with c|c|c|c|c
  .rw[Ig ho.symm (.inr c)];simp only[auN,auQ,auW,hd];omega
  .rw[Na ho.symm c];simp only[auN,auQ,auW];omega
  .rw[TQ ho.symm c];simp only[auN,auQ,auW];omega
  .subst c;rw[ail ho.symm];simp only[auN,auQ,auW];omega
  .cases h1:(Sp.rd k (w.drop 1) q).1 with
   |true=>
    have i2:=yA k (Sp.rd k (w.drop 1) q).2.1 (Sp.rd k (w.drop 1) q).2.2;rw[Yg ho.symm c h1];simp only[auN,auQ,auW];omega
   |false=>rw[acX ho.symm c h1];simp only[auN,auQ,auW];omega
theorem NW.form{B P:Nat}{w:World}{v:Value}{q:List ak}(h:NW B P w v q):∃a cap,v=.slice a q.length cap:=by
 obtain⟨xs,h1,_,_⟩:=h;rcases h1.2 with⟨e,e2⟩|⟨g,cap,cur,e,_⟩
 .exact⟨none,0,by rw[e,e2]⟩
 .exact⟨_,_,e⟩
theorem EP{f:Sp.LS}(h:∀x∈f,x.1.length<=1000)(i:Int):(Sp.wordAt f i).length<=1000:=by
 by_cases hh:i<(f.length:Int)
 .rw[qi hh,auS];cases e:f[i.toNat]? with
  |none=>exact avc _
  |some x=>exact h x (avx e)
 .rw[qj (by omega)];exact avc _
theorem rD{f:Sp.LS}(h:∀x∈f,x.1.length<=1000)(i:Nat):∀x∈f.drop i,x.1.length<=1000:=λx hx=>h x (av8 hx)
theorem yB:∀(k:Nat)(w:Sp.LS)(q:List ak),(∀x∈w,x.1.length<=1000)->∀x∈(Sp.rd k w q).2.1,x.1.length<=1000
 |0,_,_,h=>h
 |k+1,w,q,h=>by
  have i1:=yB k (w.drop 1) q (rD h 1);rcases AL (Sp.wordAt w 0)with h0|⟨hc,_⟩
  .rw[Ig h0.symm (.inl rfl)];exact rD h 1
  generalize ho:dF (Sp.wordAt w 0)=op at hc;rcases(show op=1\/(op=2\/op=8\/op=9)\/(op=3\/op=4)\/op=5\/(op=6\/op=7) by omega)with c|c|c|c|c
  .rw[Ig ho.symm (.inr c)];exact rD h 1
  .rw[Na ho.symm c];exact rD (rD h 1) 1
  .rw[TQ ho.symm c];exact rD (rD (rD h 1) 1) 1
  .subst c;rw[ail ho.symm];exact i1
  .cases h1:(Sp.rd k (w.drop 1) q).1 with
   |true=>rw[Yg ho.symm c h1];exact yB k _ _ i1
   |false=>rw[acX ho.symm c h1];exact i1
theorem Xx{f:Sp.LS}{op:Int}(h:op=dF (Sp.wordAt f 0))(h0:op≠0):(f.drop 1).length<f.length:=by obtain⟨r,e,_⟩:=Yh (w:=f) (by omega);rw[e];exact awx _
def Reads(k:Nat):Prop:=∀(B P:Nat)(W:World)(vf vn:Value)(f:Sp.LS)(q:List ak),f.length<k->5<=B->B<=P->G.ok W->W.heap[P]? =some (.cells #[vf,vn] 173 (0,0))->FW B W vf f->NW B P W vn q->
    (∀x∈f,x.1.length<=1000)->q.length+2*f.length+1<=1000->
    Calls prog 154 #[.pointer (some ⟨P,0,none⟩)] W λe w'=>e=.returned (.bool (Sp.rd k f q).1)/\Done B P W vn.ownBlock (Sp.rd k f q).2.1 (Sp.rd k f q).2.2 w'
set_option maxHeartbeats 16000000 in
set_option maxRecDepth 100000 in
theorem amW(k:Nat)(ih:Hid (Reads k)):Reads (k+1):=by
 intro B P W vf vn f q hk Zy Gy hG hP hf hn hfx hq;have mixed:=Tryz.mixed
 go_enter Tryz.func154,Tryz.ntmps154
 go_wp2_with (first
  |(go_at_call 189;refine(zT B P _ vf vn f Gy hP hf).mono ?_;rintro e W1 ⟨rfl,Xy,hf1,hP1,hs1⟩))
 have hG1:=G_step Zy Gy hG hs1 (λb h=>by cases h);have hword:∃word,Hid (word=Sp.wordAt f 0)/\word=Sp.wordAt f 0:=⟨_,rfl,rfl⟩;obtain⟨word,hword,hw2⟩:=hword;rw[← hw2];clear hw2;have as4:P<W1.heap.size:=(auV.1 hP1).1;have hPW:P<W.heap.size:=(auV.1 hP).1
 go_loopw [5] (λi wr=>∃n:Nat,n<=9/\i=.int .i64 ((n+1:Nat):Int)/\wr.heap[W1.heap.size]? =some (.cells (fD (Gz word n) 0 0 [] 0 0 []) 168 (0,0))/\Below W1.heap.size W1 wr)
  (λi _=>10-(intOf i).toNat)
 case atStart=>refine⟨0,by decide,rfl,?_,(Below.alloc (Below.refl _ _) (auT _) _)⟩;exact avz W1 _
 case round=>
  obtain⟨n,hn9,rfl,hrow,hbel⟩:=hrel;rcases avb n 9 with hlt|hge
  .have hlt':((n+1:Nat):Int)<=9:=by omega
   have hGr:G.ok wr:=bG hG1 hbel;have hz:=dN hrow 0;have e1:Gz word (n+1)=bif word==fU ((n:Int)+1)then(n:Int)+1 else Gz word n:=rfl
   have kw:=apC ((n+1:Nat):Int) (by omega) wr hGr;obtain⟨t,ht,ht2⟩:∃t,Hid (t=fU ((n:Int)+1))/\t=fU ((n+1:Nat):Int):=⟨_,rfl,rfl⟩;rw[← ht2]at kw;clear ht2;by_cases hk:t=word
   .subst hk
    go_wp2_with (first
     |(go_at_call 151;refine kw.mono ?_;rintro e w2 ⟨rfl,hb2⟩;have hrow2:=(hb2.block _ (auV.1 hrow).1).trans hrow;have hz2:=dN hrow2 0;have hc2:=aN hrow2 0))
    all_goals go_roundw
    case measure=>simp only[intOf];omega
    case rel=>refine⟨n+1,hlt,by go_num,(gG hrow2 0 _).trans ?_,(hbel.trans (hb2.mono (axI (auV.1 hrow).1))).setCell (auT _) _⟩;rw[e1,← ht.out,avO];rfl
   .have hk2:(t==word)=false:=auP.2 hk
    go_wp2_with (first
     |(go_at_call 151;refine kw.mono ?_;rintro e w2 ⟨rfl,hb2⟩;have hrow2:=(hb2.block _ (auV.1 hrow).1).trans hrow;have hz2:=dN hrow2 0;have hc2:=aN hrow2 0))
    all_goals go_roundw
    case measure=>simp only[intOf];omega
    case rel=>refine⟨n+1,hlt,by go_num,hrow2.trans ?_,hbel.trans (hb2.mono (axI (auV.1 hrow).1))⟩;rw[e1,← ht.out,auP.2 (awM hk)];rfl
  .have hge':¬((n+1:Nat):Int)<=9:=by omega
   obtain rfl:n=9:=by omega
   rw[acY]at hrow;have hrg:=acZ word;obtain⟨op,hop,hop2⟩:∃op,Hid (op=dF (Sp.wordAt f 0))/\op=dF word:=⟨_,congrArg dF hword.out,rfl⟩;rw[← hop2]at hrow hrg;clear hop2;have hNr:=(auV.1 hrow).1;have hR:FC B P W1.heap.size W vn.ownBlock wr Xy vn (f.drop 1) q:=by
    have hPr:=(hbel.block _ as4).trans hP1;refine⟨bG hG1 hbel,hPr,hf1.keep λb hb=>hbel.block b (by omega),hn.keep λg hg=>?_,?_,λg hg=>.inl hg,λe=>?_,hs1.size,hNr,Zy,Gy,hPW⟩
    .have hgl:=hn.lt hg;exact(hbel.block g (avh hgl.2.1 hs1.size)).trans (hs1.block g hgl.2.1 hgl.2.2 (λe=>by cases e))
    .exact⟨hbel.os.trans hs1.os,hbel.tape.trans hs1.tape,hbel.output.trans hs1.output,auU hs1.size hbel.size,λb hb hbP _=>(hbel.block b (avh hb hs1.size)).trans (hs1.block b hb hbP (λe=>by cases e))⟩
    .have:=(hn.lt e).2.1;have:=hs1.size;omega
   clear hbel hn hf hP hf1 hP1;have hz1:=dN hrow 1;have hz2:=dN hrow 2;have hz3:=dN hrow 3;have hz4:=dN hrow 4;have hz5:=dN hrow 5;have hz6:=dN hrow 6;have DJ:=rD hfx 1;have aqy:=rD DJ 1;have c0:wr.cell? ⟨W1.heap.size,0,none⟩=some (.int .i64 op):=aN hrow 0;have n0:uy 0:=⟨by decide,by decide⟩;have m0:([]:List UInt8).length<=maxLen:=avc _;rcases(show op=0\/op=1\/op=2\/op=8\/op=9\/op=3\/op=4\/op=5\/op=6\/op=7 by omega)with rfl|rfl|rfl|rfl|rfl|rfl|rfl|rfl|rfl|rfl
   .have he:Hid _:=Ig (k:=k) (q:=q) hop.out (by decide);have hx:=sU (op:=0) ⟨by decide,by decide⟩ n0 n0 m0 n0 n0 m0
    go_wp2
    obtain⟨xs,hown,tJ,hrep⟩:=hR.nodes;obtain⟨c0,c1,c2,c3,c4,c5,c6⟩:=Eh hrow;obtain⟨p1,zP,vJ,hBr⟩:=hR.four;have nG:(q.length+1)*72<=140737488355328:=by omega
    go_region_law (refine ql (0) (0) (0) ([]) (0) (0) ([]) hR nG rfl rfl hown tJ (by simp[Act.eval]) (by simp[Act.eval]) ?_;intro g cap w5 hown5 gB nX nY nR k5 z5)
    all_goals go_wp2
    all_goals go_ret
    all_goals exact wQ he rfl (hR.put (((Below.refl _ wr).drew).alloc (auT _) _) hown hrep hx hown5 gB nX nY)
   .have he:Hid _:=Ig (k:=k) (q:=q) hop.out (by decide);have hx:=sU (op:=1) ⟨by decide,by decide⟩ n0 n0 m0 n0 n0 m0
    go_wp2
    obtain⟨xs,hown,tJ,hrep⟩:=hR.nodes;obtain⟨c0,c1,c2,c3,c4,c5,c6⟩:=Eh hrow;obtain⟨p1,zP,vJ,hBr⟩:=hR.four;have nG:(q.length+1)*72<=140737488355328:=by omega
    go_region_law (refine ql (1) (0) (0) ([]) (0) (0) ([]) hR nG rfl rfl hown tJ (by simp[Act.eval]) (by simp[Act.eval]) ?_;intro g cap w5 hown5 gB nX nY nR k5 z5)
    all_goals go_wp2
    all_goals go_ret
    all_goals exact wQ he rfl (hR.put (((Below.refl _ wr).drew).alloc (auT _) _) hown hrep hx hown5 gB nX nY)
   .obtain⟨s2,hs2,hs2'⟩:∃s2,Hid (s2=Sp.wordAt (f.drop 1) 0)/\s2=Sp.wordAt (f.drop 1) 0:=⟨_,rfl,rfl⟩;have nx:=zT B P wr Xy vn (f.drop 1) Gy hR.cells hR.words;have hl2:=EP DJ 0;rw[← hs2']at nx hl2;clear hs2';have he:Hid _:=Na (k:=k) (q:=q) hop.out (by decide);rw[← hs2.out]at he;have hx:=sU (op:=2) (s:=s2) ⟨by decide,by decide⟩ n0 n0 (by rw[maxLen_eq];omega) n0 n0 m0
    go_wp2_with (first
     |(go_at_call 189;refine nx.mono ?_;rintro e w2 ⟨rfl,OH,hf2,hP2,hst2⟩;obtain⟨hR2,GH⟩:=hR.next hf2 hP2 hst2;have hrow2:=GH.trans hrow;have z3:=dN hrow2 3;have d3:=aN hrow2 3))
    have jW:=hR2.zI 3 (.string ⟨s2.toArray⟩);have hrow3:(w2.setCell ⟨W1.heap.size,3,none⟩ (.string ⟨s2.toArray⟩)).heap[W1.heap.size]? =some (.cells (fD 2 0 0 s2 0 0 []) 168 (0,0)):=gG hrow2 3 _;generalize w2.setCell ⟨W1.heap.size,3,none⟩ (.string ⟨s2.toArray⟩)=w3 at jW hrow3 ⊢;obtain⟨xs,hown,tJ,hrep⟩:=jW.nodes;obtain⟨c0,c1,c2,c3,c4,c5,c6⟩:=Eh hrow3;obtain⟨p1,zP,vJ,hBr⟩:=jW.four;have nG:(q.length+1)*72<=140737488355328:=by omega
    go_region_law (refine ql (2) (0) (0) (s2) (0) (0) ([]) jW nG rfl rfl hown tJ (by simp[Act.eval]) (by simp[Act.eval]) ?_;intro g cap w5 hown5 gB nX nY nR k5 z5)
    all_goals go_wp2
    all_goals go_ret
    all_goals exact wQ he rfl (jW.put (((Below.refl _ w3).drew).alloc (auT _) _) hown hrep hx hown5 gB nX nY)
   .obtain⟨s2,hs2,hs2'⟩:∃s2,Hid (s2=Sp.wordAt (f.drop 1) 0)/\s2=Sp.wordAt (f.drop 1) 0:=⟨_,rfl,rfl⟩;have nx:=zT B P wr Xy vn (f.drop 1) Gy hR.cells hR.words;have hl2:=EP DJ 0;rw[← hs2']at nx hl2;clear hs2';have he:Hid _:=Na (k:=k) (q:=q) hop.out (by decide);rw[← hs2.out]at he;have hx:=sU (op:=8) (s:=s2) ⟨by decide,by decide⟩ n0 n0 (by rw[maxLen_eq];omega) n0 n0 m0
    go_wp2_with (first
     |(go_at_call 189;refine nx.mono ?_;rintro e w2 ⟨rfl,OH,hf2,hP2,hst2⟩;obtain⟨hR2,GH⟩:=hR.next hf2 hP2 hst2;have hrow2:=GH.trans hrow;have z3:=dN hrow2 3;have d3:=aN hrow2 3))
    have jW:=hR2.zI 3 (.string ⟨s2.toArray⟩);have hrow3:(w2.setCell ⟨W1.heap.size,3,none⟩ (.string ⟨s2.toArray⟩)).heap[W1.heap.size]? =some (.cells (fD 8 0 0 s2 0 0 []) 168 (0,0)):=gG hrow2 3 _;generalize w2.setCell ⟨W1.heap.size,3,none⟩ (.string ⟨s2.toArray⟩)=w3 at jW hrow3 ⊢;obtain⟨xs,hown,tJ,hrep⟩:=jW.nodes;obtain⟨c0,c1,c2,c3,c4,c5,c6⟩:=Eh hrow3;obtain⟨p1,zP,vJ,hBr⟩:=jW.four;have nG:(q.length+1)*72<=140737488355328:=by omega
    go_region_law (refine ql (8) (0) (0) (s2) (0) (0) ([]) jW nG rfl rfl hown tJ (by simp[Act.eval]) (by simp[Act.eval]) ?_;intro g cap w5 hown5 gB nX nY nR k5 z5)
    all_goals go_wp2
    all_goals go_ret
    all_goals exact wQ he rfl (jW.put (((Below.refl _ w3).drew).alloc (auT _) _) hown hrep hx hown5 gB nX nY)
   .obtain⟨s2,hs2,hs2'⟩:∃s2,Hid (s2=Sp.wordAt (f.drop 1) 0)/\s2=Sp.wordAt (f.drop 1) 0:=⟨_,rfl,rfl⟩;have nx:=zT B P wr Xy vn (f.drop 1) Gy hR.cells hR.words;have hl2:=EP DJ 0;rw[← hs2']at nx hl2;clear hs2';have he:Hid _:=Na (k:=k) (q:=q) hop.out (by decide);rw[← hs2.out]at he;have hx:=sU (op:=9) (s:=s2) ⟨by decide,by decide⟩ n0 n0 (by rw[maxLen_eq];omega) n0 n0 m0
    go_wp2_with (first
     |(go_at_call 189;refine nx.mono ?_;rintro e w2 ⟨rfl,OH,hf2,hP2,hst2⟩;obtain⟨hR2,GH⟩:=hR.next hf2 hP2 hst2;have hrow2:=GH.trans hrow;have z3:=dN hrow2 3;have d3:=aN hrow2 3))
    have jW:=hR2.zI 3 (.string ⟨s2.toArray⟩);have hrow3:(w2.setCell ⟨W1.heap.size,3,none⟩ (.string ⟨s2.toArray⟩)).heap[W1.heap.size]? =some (.cells (fD 9 0 0 s2 0 0 []) 168 (0,0)):=gG hrow2 3 _;generalize w2.setCell ⟨W1.heap.size,3,none⟩ (.string ⟨s2.toArray⟩)=w3 at jW hrow3 ⊢;obtain⟨xs,hown,tJ,hrep⟩:=jW.nodes;obtain⟨c0,c1,c2,c3,c4,c5,c6⟩:=Eh hrow3;obtain⟨p1,zP,vJ,hBr⟩:=jW.four;have nG:(q.length+1)*72<=140737488355328:=by omega
    go_region_law (refine ql (9) (0) (0) (s2) (0) (0) ([]) jW nG rfl rfl hown tJ (by simp[Act.eval]) (by simp[Act.eval]) ?_;intro g cap w5 hown5 gB nX nY nR k5 z5)
    all_goals go_wp2
    all_goals go_ret
    all_goals exact wQ he rfl (jW.put (((Below.refl _ w3).drew).alloc (auT _) _) hown hrep hx hown5 gB nX nY)
   .obtain⟨s2,hs2,hs2'⟩:∃s2,Hid (s2=Sp.wordAt (f.drop 1) 0)/\s2=Sp.wordAt (f.drop 1) 0:=⟨_,rfl,rfl⟩;obtain⟨s3,hs3,aim⟩:∃s3,Hid (s3=Sp.wordAt ((f.drop 1).drop 1) 0)/\s3=Sp.wordAt ((f.drop 1).drop 1) 0:=⟨_,rfl,rfl⟩;have nx:=zT B P wr Xy vn (f.drop 1) Gy hR.cells hR.words;have hl2:=EP DJ 0;have hl3:=EP aqy 0;rw[← hs2']at nx hl2;rw[← aim]at hl3;clear hs2' aim;have he:Hid _:=TQ (k:=k) (q:=q) hop.out (by decide);rw[← hs2.out,← hs3.out]at he;have pv:=aj8 s3 (by omega);generalize aV s3=z at he pv;obtain⟨⟨v1,v2,v3,⟨⟩⟩,ok⟩:=z;dsimp only at pv
    go_wp2_with (first
     |(go_at_call 189;refine nx.mono ?_;rintro e w2 ⟨rfl,OH,hf2,hP2,hst2⟩;obtain⟨hR2,GH⟩:=hR.next hf2 hP2 hst2;have hrow2:=GH.trans hrow;have z3:=dN hrow2 3;have d3:=aN hrow2 3;clear nx)
     |(have jW:=hR2.zI 3 (.string ⟨s2.toArray⟩);have hrow3:(w2.setCell ⟨W1.heap.size,3,none⟩ (.string ⟨s2.toArray⟩)).heap[W1.heap.size]? =some (.cells (fD 3 0 0 s2 0 0 []) 168 (0,0)):=gG hrow2 3 _;have Zv:=zT B P _ OH vn ((f.drop 1).drop 1) Gy jW.cells jW.words;rw[← hs3.out]at Zv;go_at_call 189;refine Zv.mono ?_;rintro e w4 ⟨rfl,vf4,hf4,hP4,aoa⟩;obtain⟨Nb,hN4⟩:=jW.next hf4 hP4 aoa;have hrow4:=hN4.trans hrow3;clear Zv)
     |(go_at_call 152;refine(pv _ Nb.gl).mono ?_;rintro e w6 ⟨rfl,hb6,hv1,hv2,hv3⟩;have hR6:=Nb.below hb6;have AO:=(hb6.block _ Nb.lt).trans hrow4;have y4:=dN AO 4;have y5:=dN AO 5;have y6:=dN AO 6;have x4:w6.cell? ⟨W1.heap.size,4,none⟩=some (.int .i64 0):=aN AO 4;have x5:w6.cell? ⟨W1.heap.size,5,none⟩=some (.int .i64 0):=aN AO 5;have x6:w6.cell? ⟨W1.heap.size,6,none⟩=some (.string ⟨([]:List UInt8).toArray⟩):=aN AO 6))
    have Xz:=((hR6.zI 4 (.int .i64 v1)).zI 5 (.int .i64 v2)).zI 6 (.string ⟨v3.toArray⟩);have ac0:(((w6.setCell ⟨W1.heap.size,4,none⟩ (.int .i64 v1)).setCell ⟨W1.heap.size,5,none⟩ (.int .i64 v2)).setCell ⟨W1.heap.size,6,none⟩ (.string ⟨v3.toArray⟩)).heap[W1.heap.size]? =some (.cells (fD 3 0 0 s2 v1 v2 v3) 168 (0,0)):=gG (gG (gG AO 4 _) 5 _) 6 _;have hx:=sU (op:=3) (s:=s2) ⟨by decide,by decide⟩ n0 n0 (by rw[maxLen_eq];omega) hv1 hv2 hv3;generalize ((w6.setCell ⟨W1.heap.size,4,none⟩ (.int .i64 v1)).setCell ⟨W1.heap.size,5,none⟩ (.int .i64 v2)).setCell ⟨W1.heap.size,6,none⟩ (.string ⟨v3.toArray⟩)=w7 at Xz ac0 ⊢;clear x4 x5 x6 y4 y5 y6 d3 z3;obtain⟨xs,hown,tJ,hrep⟩:=Xz.nodes;obtain⟨c0,c1,c2,c3,c4,c5,c6⟩:=Eh ac0;obtain⟨p1,zP,vJ,hBr⟩:=Xz.four;have nG:(q.length+1)*72<=140737488355328:=by omega
    go_region_law (refine ql (3) (0) (0) (s2) (v1) (v2) (v3) Xz nG rfl rfl hown tJ (by simp[Act.eval]) (by simp[Act.eval]) ?_;intro g cap w5 hown5 gB nX nY nR k5 z5)
    all_goals go_wp2
    all_goals go_ret
    all_goals exact wQ he rfl (Xz.put (((Below.refl _ w7).drew).alloc (auT _) _) hown hrep hx hown5 gB nX nY)
   .obtain⟨s2,hs2,hs2'⟩:∃s2,Hid (s2=Sp.wordAt (f.drop 1) 0)/\s2=Sp.wordAt (f.drop 1) 0:=⟨_,rfl,rfl⟩;obtain⟨s3,hs3,aim⟩:∃s3,Hid (s3=Sp.wordAt ((f.drop 1).drop 1) 0)/\s3=Sp.wordAt ((f.drop 1).drop 1) 0:=⟨_,rfl,rfl⟩;have nx:=zT B P wr Xy vn (f.drop 1) Gy hR.cells hR.words;have hl2:=EP DJ 0;have hl3:=EP aqy 0;rw[← hs2']at nx hl2;rw[← aim]at hl3;clear hs2' aim;have he:Hid _:=TQ (k:=k) (q:=q) hop.out (by decide);rw[← hs2.out,← hs3.out]at he;have pv:=aj8 s3 (by omega);generalize aV s3=z at he pv;obtain⟨⟨v1,v2,v3,⟨⟩⟩,ok⟩:=z;dsimp only at pv
    go_wp2_with (first
     |(go_at_call 189;refine nx.mono ?_;rintro e w2 ⟨rfl,OH,hf2,hP2,hst2⟩;obtain⟨hR2,GH⟩:=hR.next hf2 hP2 hst2;have hrow2:=GH.trans hrow;have z3:=dN hrow2 3;have d3:=aN hrow2 3;clear nx)
     |(have jW:=hR2.zI 3 (.string ⟨s2.toArray⟩);have hrow3:(w2.setCell ⟨W1.heap.size,3,none⟩ (.string ⟨s2.toArray⟩)).heap[W1.heap.size]? =some (.cells (fD 4 0 0 s2 0 0 []) 168 (0,0)):=gG hrow2 3 _;have Zv:=zT B P _ OH vn ((f.drop 1).drop 1) Gy jW.cells jW.words;rw[← hs3.out]at Zv;go_at_call 189;refine Zv.mono ?_;rintro e w4 ⟨rfl,vf4,hf4,hP4,aoa⟩;obtain⟨Nb,hN4⟩:=jW.next hf4 hP4 aoa;have hrow4:=hN4.trans hrow3;clear Zv)
     |(go_at_call 152;refine(pv _ Nb.gl).mono ?_;rintro e w6 ⟨rfl,hb6,hv1,hv2,hv3⟩;have hR6:=Nb.below hb6;have AO:=(hb6.block _ Nb.lt).trans hrow4;have y4:=dN AO 4;have y5:=dN AO 5;have y6:=dN AO 6;have x4:w6.cell? ⟨W1.heap.size,4,none⟩=some (.int .i64 0):=aN AO 4;have x5:w6.cell? ⟨W1.heap.size,5,none⟩=some (.int .i64 0):=aN AO 5;have x6:w6.cell? ⟨W1.heap.size,6,none⟩=some (.string ⟨([]:List UInt8).toArray⟩):=aN AO 6))
    have Xz:=((hR6.zI 4 (.int .i64 v1)).zI 5 (.int .i64 v2)).zI 6 (.string ⟨v3.toArray⟩);have ac0:(((w6.setCell ⟨W1.heap.size,4,none⟩ (.int .i64 v1)).setCell ⟨W1.heap.size,5,none⟩ (.int .i64 v2)).setCell ⟨W1.heap.size,6,none⟩ (.string ⟨v3.toArray⟩)).heap[W1.heap.size]? =some (.cells (fD 4 0 0 s2 v1 v2 v3) 168 (0,0)):=gG (gG (gG AO 4 _) 5 _) 6 _;have hx:=sU (op:=4) (s:=s2) ⟨by decide,by decide⟩ n0 n0 (by rw[maxLen_eq];omega) hv1 hv2 hv3;generalize ((w6.setCell ⟨W1.heap.size,4,none⟩ (.int .i64 v1)).setCell ⟨W1.heap.size,5,none⟩ (.int .i64 v2)).setCell ⟨W1.heap.size,6,none⟩ (.string ⟨v3.toArray⟩)=w7 at Xz ac0 ⊢;clear x4 x5 x6 y4 y5 y6 d3 z3;obtain⟨xs,hown,tJ,hrep⟩:=Xz.nodes;obtain⟨c0,c1,c2,c3,c4,c5,c6⟩:=Eh ac0;obtain⟨p1,zP,vJ,hBr⟩:=Xz.four;have nG:(q.length+1)*72<=140737488355328:=by omega
    go_region_law (refine ql (4) (0) (0) (s2) (v1) (v2) (v3) Xz nG rfl rfl hown tJ (by simp[Act.eval]) (by simp[Act.eval]) ?_;intro g cap w5 hown5 gB nX nY nR k5 z5)
    all_goals go_wp2
    all_goals go_ret
    all_goals exact wQ he rfl (Xz.put (((Below.refl _ w7).drew).alloc (auT _) _) hown hrep hx hown5 gB nX nY)
   .have he:Hid _:=ail (k:=k) (q:=q) hop.out;have hcnt:=yA k (f.drop 1) q;have hrl:=Nc k (f.drop 1) q;have hwl:=yB k (f.drop 1) q DJ;have hlp:=Xx hop.out (by decide);have nd:=ih.out B P wr Xy vn (f.drop 1) q (by omega) Zy Gy hR.gl hR.cells hR.words hR.nodes DJ (by omega);generalize Sp.rd k (f.drop 1) q=z at he nd hcnt hwl hrl;obtain⟨b1,f2,q2⟩:=z;dsimp only at nd hcnt hwl
    go_wp2_with (first
     |(go_at_call 154;refine nd.mono ?_;rintro e w2 ⟨rfl,hd⟩;obtain⟨⟨OH,vn2,hR2⟩,GH⟩:=hR.read hd;obtain⟨a2,cap2,TR⟩:=hR2.nodes.form;subst TR;have hrow2:=GH.trans hrow;have p2:w2.cell? ⟨P,1,none⟩=some (.slice a2 q2.length cap2):=aN hR2.cells 1;have y1:=dN hrow2 1;have x1:w2.cell? ⟨W1.heap.size,1,none⟩=some (.int .i64 0):=aN hrow2 1;clear nd))
    have jW:=hR2.zI 1 (.int .i64 ((q2.length:Int)-1));have hrow3:(w2.setCell ⟨W1.heap.size,1,none⟩ (.int .i64 ((q2.length:Int)-1))).heap[W1.heap.size]? =some (.cells (fD 5 ((q2.length:Int)-1) 0 [] 0 0 []) 168 (0,0)):=gG hrow2 1 _;have hx:=sU (op:=5) (l:=(q2.length:Int)-1) ⟨by decide,by decide⟩ ⟨by omega,by omega⟩ n0 m0 n0 n0 m0;generalize w2.setCell ⟨W1.heap.size,1,none⟩ (.int .i64 ((q2.length:Int)-1))=w3 at jW hrow3 ⊢;clear x1 y1 p2;obtain⟨xs,hown,tJ,hrep⟩:=jW.nodes;obtain⟨c0,c1,c2,c3,c4,c5,c6⟩:=Eh hrow3;obtain⟨p1,zP,vJ,hBr⟩:=jW.four;have nG:(q2.length+1)*72<=140737488355328:=by omega
    go_region_law (refine ql (5) ((q2.length:Int)-1) (0) ([]) (0) (0) ([]) jW nG rfl rfl hown tJ (by simp[Act.eval]) (by simp[Act.eval]) ?_;intro g cap w5 hown5 gB nX nY nR k5 z5)
    all_goals go_wp2
    all_goals go_ret
    all_goals exact wQ he rfl (jW.put (((Below.refl _ w3).drew).alloc (auT _) _) hown hrep hx hown5 gB nX nY)
   .cases hb1:(Sp.rd k (f.drop 1) q).1 with
    |false=>
     have he:Hid _:=acX (k:=k) (q:=q) hop.out (by decide) hb1;have hcnt:=yA k (f.drop 1) q;have hrl:=Nc k (f.drop 1) q;have hwl:=yB k (f.drop 1) q DJ;have hlp:=Xx hop.out (by decide);have nd:=ih.out B P wr Xy vn (f.drop 1) q (by omega) Zy Gy hR.gl hR.cells hR.words hR.nodes DJ (by omega);generalize Sp.rd k (f.drop 1) q=z at he nd hcnt hwl hrl hb1;obtain⟨b1,f2,q2⟩:=z;dsimp only at nd hcnt hwl hrl hb1;subst hb1
     go_wp2_with (first
      |(go_at_call 154;refine nd.mono ?_;rintro e w2 ⟨rfl,hd⟩;obtain⟨⟨OH,vn2,hR2⟩,GH⟩:=hR.read hd;obtain⟨a2,cap2,TR⟩:=hR2.nodes.form;subst TR;have hrow2:=GH.trans hrow;have p2:w2.cell? ⟨P,1,none⟩=some (.slice a2 q2.length cap2):=aN hR2.cells 1;have y1:=dN hrow2 1;have x1:w2.cell? ⟨W1.heap.size,1,none⟩=some (.int .i64 0):=aN hrow2 1;have y2:=dN hrow2 2;have x2:w2.cell? ⟨W1.heap.size,2,none⟩=some (.int .i64 0):=aN hrow2 2;clear nd))
     have jW:=(hR2.zI 1 (.int .i64 ((q2.length:Int)-1))).zI 2 (.int .i64 ((q2.length:Int)-1));have hrow3:((w2.setCell ⟨W1.heap.size,1,none⟩ (.int .i64 ((q2.length:Int)-1))).setCell ⟨W1.heap.size,2,none⟩ (.int .i64 ((q2.length:Int)-1))).heap[W1.heap.size]? =some (.cells (fD 6 ((q2.length:Int)-1) ((q2.length:Int)-1) [] 0 0 []) 168 (0,0)):=gG (gG hrow2 1 _) 2 _;have hx:=sU (op:=6) (l:=((q2.length:Int)-1)) (r:=((q2.length:Int)-1)) ⟨by decide,by decide⟩ ⟨by omega,by omega⟩ ⟨by omega,by omega⟩ m0 n0 n0 m0;generalize (w2.setCell ⟨W1.heap.size,1,none⟩ (.int .i64 ((q2.length:Int)-1))).setCell ⟨W1.heap.size,2,none⟩ (.int .i64 ((q2.length:Int)-1))=w3 at jW hrow3 ⊢;clear x1 y1 x2 y2 p2;obtain⟨xs,hown,tJ,hrep⟩:=jW.nodes;obtain⟨c0,c1,c2,c3,c4,c5,c6⟩:=Eh hrow3;obtain⟨p1,zP,vJ,hBr⟩:=jW.four;have nG:(q2.length+1)*72<=140737488355328:=by omega
     go_region_law (refine ql (6) ((q2.length:Int)-1) ((q2.length:Int)-1) ([]) (0) (0) ([]) jW nG rfl rfl hown tJ (by simp[Act.eval]) (by simp[Act.eval]) ?_;intro g cap w5 hown5 gB nX nY nR k5 z5)
     all_goals go_wp2
     all_goals go_ret
     all_goals exact wQ he rfl (jW.put (((Below.refl _ w3).drew).alloc (auT _) _) hown hrep hx hown5 gB nX nY)
    |true=>
     have he:Hid _:=Yg (k:=k) (q:=q) hop.out (by decide) hb1;have hcnt:=yA k (f.drop 1) q;have hrl:=Nc k (f.drop 1) q;have hwl:=yB k (f.drop 1) q DJ;have hlp:=Xx hop.out (by decide);have nd:=ih.out B P wr Xy vn (f.drop 1) q (by omega) Zy Gy hR.gl hR.cells hR.words hR.nodes DJ (by omega);generalize Sp.rd k (f.drop 1) q=z at he nd hcnt hwl hrl hb1;obtain⟨b1,f2,q2⟩:=z;dsimp only at he nd hcnt hwl hrl hb1;subst hb1;have nd2:=λ(w:World)(J4 vn':Value)(hr:FC B P W1.heap.size W vn.ownBlock w J4 vn' f2 q2)=>ih.out B P w J4 vn' f2 q2 (by omega) Zy Gy hr.gl hr.cells hr.words hr.nodes hwl (by omega);have hcnt2:=yA k f2 q2;generalize Sp.rd k f2 q2=z2 at he nd2 hcnt2;obtain⟨b2,f3,q3⟩:=z2;dsimp only at he nd2 hcnt2
     go_wp2_with (first
      |(go_at_call 154;refine nd.mono ?_;rintro e w2 ⟨rfl,hd⟩;obtain⟨⟨OH,vn2,hR2⟩,GH⟩:=hR.read hd;obtain⟨a2,cap2,TR⟩:=hR2.nodes.form;subst TR;have hrow2:=GH.trans hrow;have p2:w2.cell? ⟨P,1,none⟩=some (.slice a2 q2.length cap2):=aN hR2.cells 1;have y1:=dN hrow2 1;have x1:w2.cell? ⟨W1.heap.size,1,none⟩=some (.int .i64 0):=aN hrow2 1;clear nd)
      |(have jW:=hR2.zI 1 (.int .i64 ((q2.length:Int)-1));have hrow3:(w2.setCell ⟨W1.heap.size,1,none⟩ (.int .i64 ((q2.length:Int)-1))).heap[W1.heap.size]? =some (.cells (fD 6 ((q2.length:Int)-1) 0 [] 0 0 []) 168 (0,0)):=gG hrow2 1 _;go_at_call 154;refine(nd2 _ _ _ jW).mono ?_;rintro e w4 ⟨rfl,hd4⟩;obtain⟨⟨vf4,vn4,Nb⟩,hN4⟩:=jW.read hd4;obtain⟨a4,cap4,aob⟩:=Nb.nodes.form;subst aob;have hrow4:=hN4.trans hrow3;have p4:w4.cell? ⟨P,1,none⟩=some (.slice a4 q3.length cap4):=aN Nb.cells 1;have y2:=dN hrow4 2;have x2:w4.cell? ⟨W1.heap.size,2,none⟩=some (.int .i64 0):=aN hrow4 2;clear nd2 p2 x1 y1))
     have Nh:=Nb.zI 2 (.int .i64 ((q3.length:Int)-1));have qp:(w4.setCell ⟨W1.heap.size,2,none⟩ (.int .i64 ((q3.length:Int)-1))).heap[W1.heap.size]? =some (.cells (fD 6 ((q2.length:Int)-1) ((q3.length:Int)-1) [] 0 0 []) 168 (0,0)):=gG hrow4 2 _;have hx:=sU (op:=6) (l:=((q2.length:Int)-1)) (r:=(q3.length:Int)-1) ⟨by decide,by decide⟩ ⟨by omega,by omega⟩ ⟨by omega,by omega⟩ m0 n0 n0 m0;generalize w4.setCell ⟨W1.heap.size,2,none⟩ (.int .i64 ((q3.length:Int)-1))=CX at Nh qp ⊢;clear x2 y2 p4;obtain⟨xs,hown,tJ,hrep⟩:=Nh.nodes;have c0:CX.cell? ⟨W1.heap.size,0,none⟩=some (.int .i64 (6)):=aN qp 0;have c1:CX.cell? ⟨W1.heap.size,1,none⟩=some (.int .i64 ((q2.length:Int)-1)):=aN qp 1;have c2:CX.cell? ⟨W1.heap.size,2,none⟩=some (.int .i64 ((q3.length:Int)-1)):=aN qp 2;have c3:CX.cell? ⟨W1.heap.size,3,none⟩=some (.string ⟨([]:List UInt8).toArray⟩):=aN qp 3;have c4:CX.cell? ⟨W1.heap.size,4,none⟩=some (.int .i64 (0)):=aN qp 4;have c5:CX.cell? ⟨W1.heap.size,5,none⟩=some (.int .i64 (0)):=aN qp 5;have c6:CX.cell? ⟨W1.heap.size,6,none⟩=some (.string ⟨([]:List UInt8).toArray⟩):=aN qp 6;have p1:CX.cell? ⟨P,1,none⟩=some (.slice a4 q3.length cap4):=aN Nh.cells 1;have zP:=dN Nh.cells 1;have vJ:P<CX.heap.size:=(auV.1 Nh.cells).1;have hBr:B<=CX.heap.size:=by omega
     have nG:(q3.length+1)*72<=140737488355328:=by omega
     go_region_law (refine ql (6) ((q2.length:Int)-1) ((q3.length:Int)-1) ([]) (0) (0) ([]) Nh nG rfl rfl hown tJ (by simp[Act.eval]) (by simp[Act.eval]) ?_;intro g cap w5 hown5 gB nX nY nR k5 z5)
     all_goals go_wp2
     all_goals go_ret
     all_goals exact wQ he rfl (Nh.put (((Below.refl _ CX).drew).alloc (auT _) _) hown hrep hx hown5 gB nX nY)
   .cases hb1:(Sp.rd k (f.drop 1) q).1 with
    |false=>
     have he:Hid _:=acX (k:=k) (q:=q) hop.out (by decide) hb1;have hcnt:=yA k (f.drop 1) q;have hrl:=Nc k (f.drop 1) q;have hwl:=yB k (f.drop 1) q DJ;have hlp:=Xx hop.out (by decide);have nd:=ih.out B P wr Xy vn (f.drop 1) q (by omega) Zy Gy hR.gl hR.cells hR.words hR.nodes DJ (by omega);generalize Sp.rd k (f.drop 1) q=z at he nd hcnt hwl hrl hb1;obtain⟨b1,f2,q2⟩:=z;dsimp only at nd hcnt hwl hrl hb1;subst hb1
     go_wp2_with (first
      |(go_at_call 154;refine nd.mono ?_;rintro e w2 ⟨rfl,hd⟩;obtain⟨⟨OH,vn2,hR2⟩,GH⟩:=hR.read hd;obtain⟨a2,cap2,TR⟩:=hR2.nodes.form;subst TR;have hrow2:=GH.trans hrow;have p2:w2.cell? ⟨P,1,none⟩=some (.slice a2 q2.length cap2):=aN hR2.cells 1;have y1:=dN hrow2 1;have x1:w2.cell? ⟨W1.heap.size,1,none⟩=some (.int .i64 0):=aN hrow2 1;have y2:=dN hrow2 2;have x2:w2.cell? ⟨W1.heap.size,2,none⟩=some (.int .i64 0):=aN hrow2 2;clear nd))
     have jW:=(hR2.zI 1 (.int .i64 ((q2.length:Int)-1))).zI 2 (.int .i64 ((q2.length:Int)-1));have hrow3:((w2.setCell ⟨W1.heap.size,1,none⟩ (.int .i64 ((q2.length:Int)-1))).setCell ⟨W1.heap.size,2,none⟩ (.int .i64 ((q2.length:Int)-1))).heap[W1.heap.size]? =some (.cells (fD 7 ((q2.length:Int)-1) ((q2.length:Int)-1) [] 0 0 []) 168 (0,0)):=gG (gG hrow2 1 _) 2 _;have hx:=sU (op:=7) (l:=((q2.length:Int)-1)) (r:=((q2.length:Int)-1)) ⟨by decide,by decide⟩ ⟨by omega,by omega⟩ ⟨by omega,by omega⟩ m0 n0 n0 m0;generalize (w2.setCell ⟨W1.heap.size,1,none⟩ (.int .i64 ((q2.length:Int)-1))).setCell ⟨W1.heap.size,2,none⟩ (.int .i64 ((q2.length:Int)-1))=w3 at jW hrow3 ⊢;clear x1 y1 x2 y2 p2;obtain⟨xs,hown,tJ,hrep⟩:=jW.nodes;obtain⟨c0,c1,c2,c3,c4,c5,c6⟩:=Eh hrow3;obtain⟨p1,zP,vJ,hBr⟩:=jW.four;have nG:(q2.length+1)*72<=140737488355328:=by omega
     go_region_law (refine ql (7) ((q2.length:Int)-1) ((q2.length:Int)-1) ([]) (0) (0) ([]) jW nG rfl rfl hown tJ (by simp[Act.eval]) (by simp[Act.eval]) ?_;intro g cap w5 hown5 gB nX nY nR k5 z5)
     all_goals go_wp2
     all_goals go_ret
     all_goals exact wQ he rfl (jW.put (((Below.refl _ w3).drew).alloc (auT _) _) hown hrep hx hown5 gB nX nY)
    |true=>
     have he:Hid _:=Yg (k:=k) (q:=q) hop.out (by decide) hb1;have hcnt:=yA k (f.drop 1) q;have hrl:=Nc k (f.drop 1) q;have hwl:=yB k (f.drop 1) q DJ;have hlp:=Xx hop.out (by decide);have nd:=ih.out B P wr Xy vn (f.drop 1) q (by omega) Zy Gy hR.gl hR.cells hR.words hR.nodes DJ (by omega);generalize Sp.rd k (f.drop 1) q=z at he nd hcnt hwl hrl hb1;obtain⟨b1,f2,q2⟩:=z;dsimp only at he nd hcnt hwl hrl hb1;subst hb1;have nd2:=λ(w:World)(J4 vn':Value)(hr:FC B P W1.heap.size W vn.ownBlock w J4 vn' f2 q2)=>ih.out B P w J4 vn' f2 q2 (by omega) Zy Gy hr.gl hr.cells hr.words hr.nodes hwl (by omega);have hcnt2:=yA k f2 q2;generalize Sp.rd k f2 q2=z2 at he nd2 hcnt2;obtain⟨b2,f3,q3⟩:=z2;dsimp only at he nd2 hcnt2
     go_wp2_with (first
      |(go_at_call 154;refine nd.mono ?_;rintro e w2 ⟨rfl,hd⟩;obtain⟨⟨OH,vn2,hR2⟩,GH⟩:=hR.read hd;obtain⟨a2,cap2,TR⟩:=hR2.nodes.form;subst TR;have hrow2:=GH.trans hrow;have p2:w2.cell? ⟨P,1,none⟩=some (.slice a2 q2.length cap2):=aN hR2.cells 1;have y1:=dN hrow2 1;have x1:w2.cell? ⟨W1.heap.size,1,none⟩=some (.int .i64 0):=aN hrow2 1;clear nd)
      |(have jW:=hR2.zI 1 (.int .i64 ((q2.length:Int)-1));have hrow3:(w2.setCell ⟨W1.heap.size,1,none⟩ (.int .i64 ((q2.length:Int)-1))).heap[W1.heap.size]? =some (.cells (fD 7 ((q2.length:Int)-1) 0 [] 0 0 []) 168 (0,0)):=gG hrow2 1 _;go_at_call 154;refine(nd2 _ _ _ jW).mono ?_;rintro e w4 ⟨rfl,hd4⟩;obtain⟨⟨vf4,vn4,Nb⟩,hN4⟩:=jW.read hd4;obtain⟨a4,cap4,aob⟩:=Nb.nodes.form;subst aob;have hrow4:=hN4.trans hrow3;have p4:w4.cell? ⟨P,1,none⟩=some (.slice a4 q3.length cap4):=aN Nb.cells 1;have y2:=dN hrow4 2;have x2:w4.cell? ⟨W1.heap.size,2,none⟩=some (.int .i64 0):=aN hrow4 2;clear nd2 p2 x1 y1))
     have Nh:=Nb.zI 2 (.int .i64 ((q3.length:Int)-1));have qp:(w4.setCell ⟨W1.heap.size,2,none⟩ (.int .i64 ((q3.length:Int)-1))).heap[W1.heap.size]? =some (.cells (fD 7 ((q2.length:Int)-1) ((q3.length:Int)-1) [] 0 0 []) 168 (0,0)):=gG hrow4 2 _;have hx:=sU (op:=7) (l:=((q2.length:Int)-1)) (r:=(q3.length:Int)-1) ⟨by decide,by decide⟩ ⟨by omega,by omega⟩ ⟨by omega,by omega⟩ m0 n0 n0 m0;generalize w4.setCell ⟨W1.heap.size,2,none⟩ (.int .i64 ((q3.length:Int)-1))=CX at Nh qp ⊢;clear x2 y2 p4;obtain⟨xs,hown,tJ,hrep⟩:=Nh.nodes;have c0:CX.cell? ⟨W1.heap.size,0,none⟩=some (.int .i64 (7)):=aN qp 0;have c1:CX.cell? ⟨W1.heap.size,1,none⟩=some (.int .i64 ((q2.length:Int)-1)):=aN qp 1;have c2:CX.cell? ⟨W1.heap.size,2,none⟩=some (.int .i64 ((q3.length:Int)-1)):=aN qp 2;have c3:CX.cell? ⟨W1.heap.size,3,none⟩=some (.string ⟨([]:List UInt8).toArray⟩):=aN qp 3;have c4:CX.cell? ⟨W1.heap.size,4,none⟩=some (.int .i64 (0)):=aN qp 4;have c5:CX.cell? ⟨W1.heap.size,5,none⟩=some (.int .i64 (0)):=aN qp 5;have c6:CX.cell? ⟨W1.heap.size,6,none⟩=some (.string ⟨([]:List UInt8).toArray⟩):=aN qp 6;have p1:CX.cell? ⟨P,1,none⟩=some (.slice a4 q3.length cap4):=aN Nh.cells 1;have zP:=dN Nh.cells 1;have vJ:P<CX.heap.size:=(auV.1 Nh.cells).1;have hBr:B<=CX.heap.size:=by omega
     have nG:(q3.length+1)*72<=140737488355328:=by omega
     go_region_law (refine ql (7) ((q2.length:Int)-1) ((q3.length:Int)-1) ([]) (0) (0) ([]) Nh nG rfl rfl hown tJ (by simp[Act.eval]) (by simp[Act.eval]) ?_;intro g cap w5 hown5 gB nX nY nR k5 z5)
     all_goals go_wp2
     all_goals go_ret
     all_goals exact wQ he rfl (Nh.put (((Below.refl _ CX).drew).alloc (auT _) _) hown hrep hx hown5 gB nX nY)
theorem afA:∀k:Nat,Reads k
 |0=>λ_ _ _ _ _ _ _ h=>absurd h (avR _)
 |k+1=>amW k (afA k)
end Go.Proofs.Tryz
