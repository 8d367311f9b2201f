import Derived.Test.YtncbcelpbmlgdaaGreatDoorP5
import Derived.Test.YtncbcelpbmlgdaaGreatDoorSp
import Derived.Deep.AppendLies
import Derived.Deep.RegionLaw
import Derived.BigRegion
namespace Go.Proofs.Tryz
open Go Go.Fw Go.IntWalk Sp
theorem Ht:OK oh.e:=by
 refine PA.ok mixed (aC [nR.e,kQ.e] ⟨yx,sQ,trivial⟩) H0 abu (show∀v0 v1 v2,oh.goal (U7 v0 v1 v2) ((v0,v1,v2,()),())from ?_);intro v0 v1 v2 hin hp;dsimp only[oh]at hp ⊢;refine⟨trivial,?_⟩;unfold bD;dsimp only;cases !bJ v0 v1 v2 with
 |true=>exact rfl
 |false=>
 cases v0==1 with
 |true=>exact⟨trivial,rfl⟩
 |false=>cases v0==2<;>exact rfl
theorem Bd:OK lF.e:=by
 refine PA.ok mixed (aC [lC.e,kP.e] ⟨rX,sO,trivial⟩) H0 abu (show∀v0 v1 v2,lF.goal (U8 v0 v1 v2) ((v0,v1,v2,()),())from ?_);intro v0 v1 v2 hin hp;dsimp only[lF]at hp ⊢;refine⟨trivial,?_⟩;unfold bD;dsimp only;cases !bJ v0 v1 v2 with
 |true=>exact rfl
 |false=>
 cases v0==1 with
 |true=>exact⟨trivial,rfl⟩
 |false=>cases v0==2<;>exact rfl
theorem aeY{n:Int}(h:0<=n):bJ 1 n []=decide (n<=999):=by unfold bJ;simp[h]
theorem aeZ(s:List UInt8):bJ 2 0 s=aW s:=by unfold bJ;simp
theorem alX:bf [45]=false:=abA
theorem aa0:OK BA.e:=by refine PA.ok mixed (aC [] trivial) H0 abu (show∀n,BA.goal (aa1 n) (n,())from ?_);intro n hin hp;dsimp only[BA]at hp ⊢;exact rfl
theorem Jg:OK mg.e:=by
 refine PA.ok mixed (aC [kQ.e,wJ.e,BA.e,(uG,.pure qN)] ⟨sQ,U0,aa0,⟨yj,Ce⟩,trivial⟩) H0 abu (show∀s,mg.goal (Xc s) (s,())from ?_);intro s hin hp;dsimp only[mg]at hp ⊢;have h0:=(ig.1 (Ap s)).1;refine⟨trivial,?_⟩;unfold aZ;cases hk:bf s with
 |true=>
  refine⟨trivial,trivial,?_⟩;dsimp only;rw[aeY h0];cases decide (Sp.parseNum s<=999)<;>exact rfl
 |false=>
  cases hs:s==[45]with
  |true=>exact⟨trivial,rfl⟩
  |false=>refine⟨trivial,trivial,?_⟩;dsimp only;rw[aeZ];cases aW s<;>exact rfl
theorem Jd:OK kM.e:=by
 refine PA.ok mixed (aC [lF.e,kP.e,oN.e,jQ.e,qo.e] ⟨Bd,sO,zX,ql,Dy,trivial⟩) H0 abu (show∀s,kM.goal (Xd s) (s,())from ?_);intro s hin hp;dsimp only[kM]at hp ⊢;have h0:=(ig.1 (Ap s)).1;unfold aZ;refine af (λh=>?_) λh=>?_
 .have e:s=[45]:=avS.1 h;subst e;rw[alX,h];rfl
 rw[h];refine⟨trivial,trivial,?_⟩;cases hk:bf s with
 |true=>
  refine⟨trivial,trivial,?_⟩;dsimp only;rw[aeY h0];cases h9:decide (Sp.parseNum s<=999)with
  |false=>exact rfl
  |true=>
   refine⟨trivial,?_⟩;have e:bD (1,Sp.parseNum s,[],())=s:=by unfold bD;dsimp only;rw[aeY h0,h9];exact(jH hk).1
   rw[e,awF];exact rfl
 |false=>
  refine⟨trivial,?_⟩;dsimp only;rw[aeZ];cases hv:aW s with
  |false=>exact rfl
  |true=>
   refine⟨trivial,?_⟩;have e:bD (2,0,s,())=s:=by unfold bD;dsimp only;rw[aeZ,hv];rfl
   rw[e,awF];exact rfl
theorem anp{op:Int}(h:(decide (1<=op)&&decide (op<=9))=false):gq op=[63]:=by rw[axt,av7,av7]at h;unfold gq;rw[avp.2 (show op≠1 from abn),avp.2 (show op≠2 from abn),avp.2 (show op≠3 from abn),avp.2 (show op≠4 from abn),avp.2 (show op≠5 from abn),avp.2 (show op≠6 from abn),avp.2 (show op≠7 from abn),avp.2 (show op≠8 from abn),avp.2 (show op≠9 from abn)];rfl
theorem apz{op:Int}(h:(decide (1<=op)&&decide (op<=9))=true):op=1\/op=2\/op=3\/op=4\/op=5\/op=6\/op=7\/op=8\/op=9:=by rw[avo,avC,avC]at h;omega
theorem JH:OK lG.e:=by
 refine PA.ok mixed (aC [jo.e] ⟨kJ,trivial⟩) H0 abu (show∀op,lG.goal (YN op) (op,())from ?_);intro op hin hp;dsimp only[lG]at hp ⊢;refine⟨trivial,af (λh=>?_) λh=>?_⟩
 .exact congrArg (·,()) (anp (iY h)).symm
 .rcases apz (fG h)with e|e|e|e|e|e|e|e|e<;>subst e<;>exact⟨abA,rfl⟩
theorem JI:OK nS.e:=by
 refine PA.ok mixed (aC [ja.e] ⟨kz,trivial⟩) H0 abu (show∀op,nS.goal (YO op) (op,())from ?_);intro op hin hp;dsimp only[nS]at hp ⊢;refine⟨trivial,af (λh=>?_) λh=>?_⟩
 .exact congrArg (·,()) (anp (iY h)).symm
 .rcases apz (fG h)with e|e|e|e|e|e|e|e|e<;>subst e<;>exact⟨abA,rfl⟩
theorem bF{n:Nat}(h:n<=100000000000):n<=maxLen:=ac2
theorem tZ{n:Nat}(h:n<=4000000000):n<=big:=am7
theorem Ob{n:Nat}(h:Nat.ble n 10=true):n<=big:=tZ (avx (awy h) abA)
theorem GH{n:Nat}(h:Nat.ble n 10=true):n<=140737488355328:=avx (awy h) abA
theorem Nh[lN](O0:fJ prog G rC vG):fJ prog G D8 BO:=by
 refine Nj (aC [(yP,.pure uj),(rC,.pure vG),oh.e,lG.e] ⟨⟨Gl,LH⟩,⟨O0,MP⟩,Ht,JH,trivial⟩) ?_;intro q i hin hp;obtain⟨⟨ho,h0,hl⟩,hf⟩:=hp;have hT:(Lib.join (bY (i.toNat+1) q i) [32]).length<=140737488355328:=avx (aiK ho h0 hl) abA;have hlen:=(Sp.gW ho).2;have hn:=(jL ho (show i.toNat<q.length from abn)).1;refine⟨⟨h0,hl⟩,trivial,?_⟩;have eN:q.getD i.toNat (0,0,0,[],0,0,[],())=Sp.nodeAt q i.toNat:=rfl;dsimp only;rw[eN];rcases Oc hn with c|c|c
 .have e:=akC (q:=q) (i:=i) i.toNat c;rw[e]at hT ⊢;generalize Sp.nodeAt q i.toNat=n at c hT;obtain⟨op,l,r,s,v⟩:=n;dsimp only at c hT ⊢;rcases c with rfl|rfl|rfl|rfl|rfl|rfl
  .exact iE ((false,()),()) ⟨rfl,rfl⟩ ⟨⟨GH rfl,hT⟩,rfl⟩
  .exact iE ((true,()),()) ⟨rfl,rfl⟩ ⟨Ob rfl,⟨GH rfl,hT⟩,rfl⟩
  .exact iE ((false,()),()) ⟨rfl,rfl⟩ ⟨trivial,Ob rfl,⟨GH rfl,hT⟩,rfl⟩
  .exact iE ((false,()),()) ⟨rfl,rfl⟩ ⟨trivial,Ob rfl,⟨GH rfl,hT⟩,rfl⟩
  .exact iE ((true,()),()) ⟨rfl,rfl⟩ ⟨Ob rfl,⟨GH rfl,hT⟩,rfl⟩
  .exact iE ((true,()),()) ⟨rfl,rfl⟩ ⟨Ob rfl,⟨GH rfl,hT⟩,rfl⟩
 .obtain⟨e,k0,k1⟩:=anq ho h0 hl c;rw[e]at hT ⊢;have e2:=acZ (gq 5) (KF (Sp.nodeAt q i.toNat).2.1.toNat q (Sp.nodeAt q i.toNat).2.1);rw[← e2]at hT ⊢;have hk:(ay q=true/\0<=(Sp.nodeAt q i.toNat).2.1/\(Sp.nodeAt q i.toNat).2.1<(q.length:Int))/\(Sp.nodeAt q i.toNat).2.1.toNat<iV:=⟨⟨ho,k0,abn⟩,abn⟩;rw[c];exact iE ((false,()),()) ⟨rfl,rfl⟩ ⟨hk,Ob rfl,⟨GH rfl,hT⟩,rfl⟩
 .obtain⟨e,⟨k0,k1⟩,m0,m1⟩:=anr ho h0 hl c;rw[e]at hT ⊢;have e2:=ac0 (gq (Sp.nodeAt q i.toNat).1) (KF (Sp.nodeAt q i.toNat).2.1.toNat q (Sp.nodeAt q i.toNat).2.1) (KF (Sp.nodeAt q i.toNat).2.2.1.toNat q (Sp.nodeAt q i.toNat).2.2.1);rw[← e2]at hT ⊢;have hk:(ay q=true/\0<=(Sp.nodeAt q i.toNat).2.1/\(Sp.nodeAt q i.toNat).2.1<(q.length:Int))/\(Sp.nodeAt q i.toNat).2.1.toNat<iV:=⟨⟨ho,k0,abn⟩,abn⟩;have hm:(ay q=true/\0<=(Sp.nodeAt q i.toNat).2.2.1/\(Sp.nodeAt q i.toNat).2.2.1<(q.length:Int))/\(Sp.nodeAt q i.toNat).2.2.1.toNat<iV:=⟨⟨ho,m0,abn⟩,abn⟩;rcases c with c|c<;>rw[c]at hT ⊢
  .exact iE ((false,()),()) ⟨rfl,rfl⟩ ⟨hk,hm,Ob rfl,⟨GH rfl,hT⟩,rfl⟩
  .exact iE ((false,()),()) ⟨rfl,rfl⟩ ⟨hk,hm,Ob rfl,⟨GH rfl,hT⟩,rfl⟩
theorem YP:fJ prog G EM IU:=
 amO (λn=>@EW ⟨n⟩) (λn=>@DJ ⟨n⟩) (by rintro⟨q,at',⟨⟩⟩ h;exact awv _ h.2) aq1 (by rintro⟨q,at',⟨⟩⟩ h;exact⟨_,h,aw9 _⟩) aq1 λn h=>@Nh ⟨n⟩ h
theorem Qu[lN](S9:fJ prog G vw yM):fJ prog G Gp DL:=by
 refine Qv (aC [(vw,.pure yM),lF.e,nS.e] ⟨⟨S9,P8⟩,Bd,JI,trivial⟩) ?_;intro q i hin hp;obtain⟨⟨ho,h0,hl⟩,hf⟩:=hp;have hT:=aiK ho h0 hl;have hlen:=(Sp.gW ho).2;have hn:=(jL ho (show i.toNat<q.length from abn)).1;refine⟨⟨h0,hl⟩,trivial,?_⟩;have eN:q.getD i.toNat (0,0,0,[],0,0,[],())=Sp.nodeAt q i.toNat:=rfl;dsimp only;rw[eN];rcases Oc hn with c|c|c
 .have e:=akC (q:=q) (i:=i) i.toNat c;rw[e]at hT ⊢;generalize Sp.nodeAt q i.toNat=n at c hT;obtain⟨op,l,r,s,v⟩:=n;dsimp only at c hT ⊢;rcases c with rfl|rfl|rfl|rfl|rfl|rfl
  .exact iE ((false,()),()) ⟨rfl,rfl⟩ rfl
  .have e2:Lib.join (jD (2,l,r,s,v)) [32]=gq 2++[32]++s:=SY _ _;rw[e2]at hT ⊢;simp only[avn]at hT;exact iE ((true,()),()) ⟨rfl,rfl⟩ ⟨bF abn,bF asV,rfl⟩
  .have e2:Lib.join (jD (3,l,r,s,v)) [32]=gq 3++[32]++s++[32]++bD v:=acW _ _ _;rw[e2]at hT ⊢;simp only[avn]at hT;exact iE ((false,()),()) ⟨rfl,rfl⟩ ⟨bF abn,bF ahQ,bF ahQ,trivial,bF ahQ,rfl⟩
  .have e2:Lib.join (jD (4,l,r,s,v)) [32]=gq 4++[32]++s++[32]++bD v:=acW _ _ _;rw[e2]at hT ⊢;simp only[avn]at hT;exact iE ((false,()),()) ⟨rfl,rfl⟩ ⟨bF abn,bF ahQ,bF ahQ,trivial,bF ahQ,rfl⟩
  .have e2:Lib.join (jD (8,l,r,s,v)) [32]=gq 8++[32]++s:=SY _ _;rw[e2]at hT ⊢;simp only[avn]at hT;exact iE ((true,()),()) ⟨rfl,rfl⟩ ⟨bF abn,bF asV,rfl⟩
  .have e2:Lib.join (jD (9,l,r,s,v)) [32]=gq 9++[32]++s:=SY _ _;rw[e2]at hT ⊢;simp only[avn]at hT;exact iE ((true,()),()) ⟨rfl,rfl⟩ ⟨bF abn,bF asV,rfl⟩
 .obtain⟨e,k0,k1⟩:=anq ho h0 hl c;rw[e]at hT ⊢;have e2:=acZ (gq 5) (KF (Sp.nodeAt q i.toNat).2.1.toNat q (Sp.nodeAt q i.toNat).2.1);rw[SY]at e2;rw[← e2]at hT ⊢;simp only[avn]at hT;have hk:(ay q=true/\0<=(Sp.nodeAt q i.toNat).2.1/\(Sp.nodeAt q i.toNat).2.1<(q.length:Int))/\(Sp.nodeAt q i.toNat).2.1.toNat<iV:=⟨⟨ho,k0,abn⟩,abn⟩;rw[c];exact iE ((false,()),()) ⟨rfl,rfl⟩ ⟨bF abn,hk,bF ahQ,rfl⟩
 .obtain⟨e,⟨k0,k1⟩,m0,m1⟩:=anr ho h0 hl c;rw[e]at hT ⊢;have e2:=ac0 (gq (Sp.nodeAt q i.toNat).1) (KF (Sp.nodeAt q i.toNat).2.1.toNat q (Sp.nodeAt q i.toNat).2.1) (KF (Sp.nodeAt q i.toNat).2.2.1.toNat q (Sp.nodeAt q i.toNat).2.2.1);rw[acW]at e2;rw[← e2]at hT ⊢;simp only[avn]at hT;have hk:(ay q=true/\0<=(Sp.nodeAt q i.toNat).2.1/\(Sp.nodeAt q i.toNat).2.1<(q.length:Int))/\(Sp.nodeAt q i.toNat).2.1.toNat<iV:=⟨⟨ho,k0,abn⟩,abn⟩;have hm:(ay q=true/\0<=(Sp.nodeAt q i.toNat).2.2.1/\(Sp.nodeAt q i.toNat).2.2.1<(q.length:Int))/\(Sp.nodeAt q i.toNat).2.2.1.toNat<iV:=⟨⟨ho,m0,abn⟩,abn⟩;rcases c with c|c<;>rw[c]at hT ⊢
  .exact iE ((false,()),()) ⟨rfl,rfl⟩ ⟨bF abn,hk,bF ahQ,bF ahQ,hm,bF ahQ,rfl⟩
  .exact iE ((false,()),()) ⟨rfl,rfl⟩ ⟨bF abn,hk,bF ahQ,bF ahQ,hm,bF ahQ,rfl⟩
theorem ac1:fJ prog G H9 KR:=
 amO (λn=>@G7 ⟨n⟩) (λn=>@FP ⟨n⟩) (by rintro⟨q,at',⟨⟩⟩ h;exact awv _ h.2) aq1 (by rintro⟨q,at',⟨⟩⟩ h;exact⟨_,h,aw9 _⟩) aq1 λn h=>@Qu ⟨n⟩ h
theorem aiL{q:List ak}(h:ay q=true):bY (((q.length:Int)-1).toNat+1) q ((q.length:Int)-1)=bY 9 q ((q.length:Int)-1):=by have hl:=Sp.gW h;exact Cm h _ _ _ abn abn abn abn
theorem U9:OK wK.e:=by
 refine PA.ok mixed (aC [(EM,.pure IU),jf.e] ⟨⟨YP,Wi⟩,sW,trivial⟩) H0 abu (show∀q,wK.goal (Va q) (q,())from ?_);intro q hin hp;dsimp only[wK]at hp ⊢;have hp:q.length<=2000000:=hp;refine⟨hp,?_⟩;unfold Sp.textOf;cases h:ay q with
 |false=>exact rfl
 |true=>have hl:=Sp.gW h;have hw:IntKind.i64.wrap ((q.length:Int)-1)=(q.length:Int)-1:=fD _ abn;rw[hw];dsimp only;rw[aiL h];exact⟨⟨rfl,abn,abn⟩,rfl⟩
theorem Hu:OK qO.e:=by
 refine PA.ok mixed (aC [(H9,.pure KR),mY.e] ⟨⟨ac1,aaj⟩,Ac,trivial⟩) H0 abu (show∀q,qO.goal (Vb q) (q,())from ?_);intro q hin hp;dsimp only[qO]at hp ⊢;have hp:q.length<=2000000:=hp;refine⟨hp,?_⟩;unfold Sp.textOf;cases h:ay q with
 |false=>exact rfl
 |true=>have hl:=Sp.gW h;have hw:IntKind.i64.wrap ((q.length:Int)-1)=(q.length:Int)-1:=fD _ abn;rw[hw];dsimp only;rw[aiL h];exact⟨⟨rfl,abn,abn⟩,rfl⟩
end Go.Proofs.Tryz
namespace Go.Proofs.Tryz
open Go Go.Fw Go.IntWalk Sp
theorem wrap_in{z:Int}(h:-1000000000000<=z/\z<=1000000000000):IntKind.i64.wrap z=z:=fD z abn
theorem Qw[lN](Tf:jq prog G vz yO):jq prog G Gq DR:=by
 refine Qx (aC [(vz,.eff (DT oV) yO),ja.e,kM.e,nS.e,lU.e] ⟨⟨Tf,P9⟩,kz,Jd,JI,Gw,trivial⟩) (λ_ _=>⟨((_,_,()),()),⟨rfl,rfl⟩⟩) ?_;intro p at' q deep hin hp;obtain⟨⟨hpl,ha,hb,hd0,hd1,hws,hq⟩,hfuel⟩:=hp;have hp3:(1:Nat)<=2 ^ (10-deep).toNat:=ax2;refine⟨λy=>∃n:Nat,y=((GK (Sp.wordAt p at') n,(n:Int)+1,()),())/\n<=9,λy=>(10-y.1.2.1).toNat,⟨0,rfl,avM _⟩,?_⟩;rintro _ ⟨n,rfl,hn⟩;dsimp only;refine af (λh=>⟨ha,trivial,?_⟩) λh=>?_
 .have h:=fB h;have hw:IntKind.i64.wrap ((n:Int)+1+1)=((n+1:Nat):Int)+1:=(wrap_in abn).trans abn;rw[hw];have e:GK (Sp.wordAt p at') (n+1)=bif Sp.wordAt p at'==gq ((n:Int)+1)then(n:Int)+1 else GK (Sp.wordAt p at') n:=rfl
  refine af (λh2=>⟨rfl,⟨n+1,?_,abn⟩,afw⟩) λh2=>⟨rfl,⟨n+1,?_,abn⟩,afw⟩
  .rw[e,h2];rfl
  .rw[e,h2];rfl
 have hn9:n=9:=apl;subst hn9;rw[ac4];have hop:=ac5 (Sp.wordAt p at');have hw0:Sp.wordAt p at'=Sp.wordAt (p.drop at'.toNat) 0:=by rw[Sp.tJ p at' 0 ha (awk _),axB]
 have e1:IntKind.i64.wrap (at'+1)=at'+1:=wrap_in abn;have e2:IntKind.i64.wrap (at'+2)=at'+2:=wrap_in abn;have ed:IntKind.i64.wrap (deep+1)=deep+1:=wrap_in abn;have hw1:Sp.wordAt p (at'+1)=Sp.wordAt (p.drop at'.toNat) 1:=(Sp.tJ p at' 1 ha abA).symm;have hw2:Sp.wordAt p (at'+2)=Sp.wordAt (p.drop at'.toNat) 2:=(Sp.tJ p at' 2 ha abA).symm;have hlen2:(Sp.wordAt p (at'+2)).length<=1048576:=by
  by_cases hh:at'+2<(p.length:Int)
  .rw[pX hh];exact avx (hws _ (getD_mem abn)) abA
  .rw[pY abn];exact avM _
 rw[e1,e2,ed];have hbig:∀k:Nat,k<=1000->k<=big:=λk hk=>tZ abn;rw[hw1];rw[hw2]at hlen2 ⊢;rw[hw0]at hop ⊢;have atO:(p.drop at'.toNat).drop 1=p.drop (at'+1).toNat:=by rw[aw1,show at'.toNat+1=(at'+1).toNat from abn]
 refine⟨λy=>y=(((dG (Sp.wordAt (p.drop at'.toNat) 0)==0||(decide (deep>9)||decide ((q.length:Int)>9)),()),())),?_,?_⟩
 .cases dG (Sp.wordAt (p.drop at'.toNat) 0)==0 with
  |true=>exact⟨rfl,rfl⟩
  |false=>cases decide (deep>9)<;>exact⟨rfl,rfl⟩
 rintro _ rfl;dsimp only;by_cases asr:deep>9
 .have hd10:deep=10:=abn;subst hd10;rw[avD (show(10:Int)>9 from abA),Bool.true_or,ayo];exact⟨rfl,rfl⟩
 rw[avH asr,ax9];have hs:(10-deep).toNat=(10-(deep+1)).toNat+1:=abn;have aq9:2 ^ (10-deep).toNat=2*2 ^ (10-(deep+1)).toNat:=by rw[hs,Nat.pow_succ,ax0]
 have hp4:(1:Nat)<=2 ^ (10-(deep+1)).toNat:=ax2;rw[aq9]at hb;have hfu:(10-(deep+1)).toNat<iV:=abn;rw[hs,Sp.rs,atO];have hrb:=λw s=>Og (10-(deep+1)).toNat w s;have hdd:∀k:Int,0<=k->(p.drop at'.toNat).drop (1+k).toNat=p.drop (at'+(1+k)).toNat:=λk hk=>by rw[aw1,show at'.toNat+(1+k).toNat=(at'+(1+k)).toNat from abn]
 rw[hdd _ (hrb (p.drop (at'+1).toNat) q).2.1];have hfl:(10-(deep+1)).toNat<=10:=abn;have hpc:((3*2 ^ (10-(deep+1)).toNat:Nat):Int)=3*2 ^ (10-(deep+1)).toNat:=by push_cast;rfl
 generalize (10-(deep+1)).toNat=d at hrb hb hfu hp4 hfl hpc ⊢;generalize hv:Sp.wordAt (p.drop at'.toNat) 0=w0;rw[hv]at hop;generalize dG w0=op at hop ⊢;refine af (λh0=>?_) λh0=>?_
 .rw[h0];exact⟨rfl,rfl⟩
 rw[h0];have nD:q.length<=9:=by have:=fO (awK.1 h0).2;omega
 have ho0:op≠0:=avp.1 (awK.1 h0).1;clear h0 aq9;have hdp:0<=deep+1/\deep+1<=10:=abn;have ara:p.length<=1000/\0<=at'+1/\(at'+1).toNat+3*2 ^ d<=1000000/\0<=deep+1/\deep+1<=10/\(∀x,x∈p->List.length x.1<=1000)/\q.length<=100:=⟨hpl,abn,abn,hdp.1,hdp.2,hws,abn⟩;have ha1:0<=at'+1:=abn;have ha2:0<=at'+2:=abn;clear hin;rcases(show op=1\/op=2\/op=3\/op=4\/(op=5\/op=6\/op=7)\/op=8\/op=9 from abn)with rfl|rfl|rfl|rfl|h5|rfl|rfl
 .exact⟨λy=>y=((false,()),()),⟨rfl,rfl⟩,by rintro _ rfl;exact⟨λy=>y=((false,()),()),⟨rfl,rfl⟩,by rintro _ rfl;exact⟨trivial,hbig _ akY,rfl,rfl⟩⟩⟩
 .exact⟨λy=>y=((true,()),()),⟨rfl,rfl⟩,by rintro _ rfl;exact⟨ha1,hbig _ akY,rfl,rfl⟩⟩
 .exact⟨λy=>y=((false,()),()),⟨rfl,rfl⟩,by rintro _ rfl;exact⟨λy=>y=((true,()),()),⟨rfl,rfl⟩,by rintro _ rfl;exact⟨ha1,ha2,hlen2,hbig _ akY,rfl,rfl⟩⟩⟩
 .exact⟨λy=>y=((false,()),()),⟨rfl,rfl⟩,by rintro _ rfl;exact⟨λy=>y=((true,()),()),⟨rfl,rfl⟩,by rintro _ rfl;exact⟨ha1,ha2,hlen2,hbig _ akY,rfl,rfl⟩⟩⟩
 .have g2:(op==2)=false:=avp.2 abn;have g3:(op==3)=false:=avp.2 abn;have g4:(op==4)=false:=avp.2 abn;have g8:(op==8)=false:=avp.2 abn;have g9:(op==9)=false:=avp.2 abn;have g57:(decide (5<=op)&&decide (op<=7))=true:=by rw[avD abn,avD abn];rfl
  have atP:(op==5||(op==6||op==7))=true:=by rcases h5 with rfl|rfl|rfl<;>rfl
  rw[g2,g3,g4,g8,g9,g57,atP];refine⟨λy=>y=((false,()),()),⟨rfl,rfl⟩,?_⟩;rintro _ rfl;refine⟨λy=>y=((false,()),()),⟨rfl,rfl⟩,?_⟩;rintro _ rfl;refine⟨trivial,⟨ara,hfu⟩,?_⟩;rintro⟨⟨r,k,⟨⟩⟩,⟨⟩⟩ ⟨er,ek⟩;have er:r=(Sp.rs d (p.drop (at'+1).toNat) q).1:=er;have ek:k=(Sp.rs d (p.drop (at'+1).toNat) q).2:=ek;have hb1:=hrb (p.drop (at'+1).toNat) q;rw[← er,← ek]at hb1 ⊢;clear er ek;dsimp only;have hrl:r.length<=20:=by have:=hb1.1;omega
  have hk3:k<3*2 ^ d:=hb1.2.2;have hk1:IntKind.i64.wrap (1+k)=1+k:=wrap_in abn;have hk2:IntKind.i64.wrap (at'+(1+k))=at'+(1+k):=wrap_in abn;have atQ:IntKind.i64.wrap ((r.length:Int)-1)=(r.length:Int)-1:=wrap_in abn;rw[hk1,hk2,atQ];refine af (λh=>?_) λh=>?_
  .rw[h];exact⟨rfl,rfl⟩
  rw[h];have hc2:p.length<=1000/\0<=at'+(1+k)/\(at'+(1+k)).toNat+3*2 ^ d<=1000000/\0<=deep+1/\deep+1<=10/\(∀x,x∈p->List.length x.1<=1000)/\r.length<=100:=⟨hpl,abn,abn,hdp.1,hdp.2,hws,abn⟩;by_cases h55:op=5
  .subst h55;exact⟨hbig _ akY,rfl,rfl⟩
  have gn:(op !=5)=true:=bne_iff_ne.2 h55;have g5:(op==5)=false:=avp.2 h55;rw[gn,g5];refine⟨⟨hc2,hfu⟩,?_⟩;rintro⟨⟨s,m,⟨⟩⟩,⟨⟩⟩ ⟨es,em⟩;have es:s=(Sp.rs d (p.drop (at'+(1+k)).toNat) r).1:=es;have em:m=(Sp.rs d (p.drop (at'+(1+k)).toNat) r).2:=em;have hb2:=hrb (p.drop (at'+(1+k)).toNat) r;rw[← es,← em]at hb2 ⊢;clear es em;dsimp only;have hsl:s.length<=20:=by have:=hb2.1;omega
  have hm3:m<3*2 ^ d:=hb2.2.2;have hm1:IntKind.i64.wrap (1+k+m)=1+k+m:=wrap_in abn;have hsl1:IntKind.i64.wrap ((s.length:Int)-1)=(s.length:Int)-1:=wrap_in abn;rw[hm1,hsl1];refine af (λh2=>?_) λh2=>?_
  .rw[h2];exact⟨rfl,rfl⟩
  rw[h2];exact⟨hbig _ akY,rfl,rfl⟩
 .exact⟨λy=>y=((true,()),()),⟨rfl,rfl⟩,by rintro _ rfl;exact⟨ha1,hbig _ akY,rfl,rfl⟩⟩
 .exact⟨λy=>y=((true,()),()),⟨rfl,rfl⟩,by rintro _ rfl;exact⟨ha1,hbig _ akY,rfl,rfl⟩⟩
theorem ac8:jq prog G Ia KU:=
 akp (λn=>@G8 ⟨n⟩) (λn=>@sF ⟨n⟩) (by rintro⟨p,at',q,deep,⟨⟩⟩ h;exact awv _ h.2) (by rintro _ ⟨p,at',q,deep,⟨⟩⟩;rfl) (by rintro⟨p,at',q,deep,⟨⟩⟩ h;exact⟨_,h,aw9 _⟩) (by rintro _ ⟨p,at',q,deep,⟨⟩⟩;rfl) λn h=>@Qw ⟨n⟩ h
end Go.Proofs.Tryz
namespace Go.Proofs.Tryz
open Go Go.Fw Go.IntWalk Sp
theorem ajV(s:List UInt8)(h:jA s=true):gB s=((Sp.rs 10 (Sp.wordsOf s) []).2==((Sp.wordsOf s).length:Int)&&(!(Sp.textOf (Sp.rs 10 (Sp.wordsOf s) []).1==[])&&Sp.textOf (Sp.rs 10 (Sp.wordsOf s) []).1==gy (Sp.wordsOf s))):=by rw[← ac9,X7,h,axj]
theorem Oh{s:List UInt8}(h:gB s=false):(([]:List ak),false,())=(fU s,gB s,()):=by unfold fU;rw[h];rfl
theorem WH:OK pI.e:=by
 refine PA.ok mixed (aC [qp.e,qO.e,(Ia,.eff (DT Bz) KU),lD.e] ⟨NZ,Hu,⟨ac8,aak⟩,Ho,trivial⟩) YQ abu (show∀s,pI.goal (Xh s) (s,())from ?_);intro s hin hp;dsimp only[pI]at hp ⊢;have hp:s.length<=1048576:=hp;refine⟨hp,af (λh=>?_) λh=>?_⟩
 .refine Oh ?_;rw[← ac9,X7,iY h];rfl
 have hok:=fG h;obtain⟨hw,hl,hj,_,_⟩:=Zt hok;have hpp:=ajV s hok;have hws:∀x∈Sp.wordsOf s,x.1.length<=1000:=λx hx=>avx (Sm x hx) (avx (qI.1 hok).1 abA);rw[hw];refine⟨⟨hl,abA,abA,abA,abA,hws,abA⟩,?_⟩;rintro⟨⟨r,k,⟨⟩⟩,⟨⟩⟩ ⟨er,ek⟩;have er:r=(Sp.rs 10 (Sp.wordsOf s) []).1:=er;have ek:k=(Sp.rs 10 (Sp.wordsOf s) []).2:=ek;have hb:=(Og 10 (Sp.wordsOf s) []).1;have hsame:=λhq:gB s=true=>Ti hq;rw[← er]at hb hpp hsame;rw[← ek]at hpp;clear er ek;dsimp only;refine⟨avx hb abA,af (λh1=>Oh ?_) λh1=>af (λh2=>Oh ?_) λh2=>⟨⟨hl,hj⟩,af (λh3=>Oh ?_) λh3=>?_⟩⟩
 .have h1:(k==((Sp.wordsOf s).length:Int))=false:=iY h1;rw[hpp,h1];rfl
 .rw[hpp,h2,Bool.not_true,axm,awO]
 .rw[hpp,iY h3,awO,awO]
 .have h1:(k==((Sp.wordsOf s).length:Int))=true:=fG h1;have hq:gB s=true:=by rw[hpp,h1,h2,fG h3];rfl
  obtain⟨q1,q2,_⟩:=hsame hq;rw[hq,q2,← q1]
theorem Xi(a b:List (List UInt8)):Sp.ls (a++b)=Sp.ls a++Sp.ls b:=aws
theorem Xj:OK xY.e:=by
 refine PA.ok mixed (aC [(yP,.pure uj),oh.e,nR.e] ⟨⟨Gl,LH⟩,Ht,yx,trivial⟩) YR abu (show∀f0 f1 f2 f3 f4,xY.goal (Xk f0 f1 f2 f3 f4) ((f0,f1,f2,f3,f4,()),())from ?_);intro f0 f1 f2 f3 f4 hin hp;dsimp only[xY]at hp ⊢;obtain⟨hl,ht⟩:f4.length<=1048576/\(fV f4).length<=1073741824:=hp;have hlong:=(aiR (f:=(f0,f1,f2,f3,f4,())) hin.1.1 hin.1.2.1 hin.1.2.2.2.1).1;refine iE (((bif f2 then[115]else[111],()),())) ?_ ⟨trivial,trivial,trivial,?_⟩
 .cases f2<;>exact⟨rfl,rfl⟩
 refine gU (mk:=λi(s:Sp.LS)=>(((),i,()),s,())) (λy=>y.1.2.1) (λ_ _=>rfl) f4.length abn
  (λn s=>s=Sp.ls (kC::Lib.itoa f0::Lib.itoa f1::(bif f2 then[115]else[111])::Lib.itoa f3::dX (f4.take n))) rfl (λI μ n s hn hJ next=>?_) λI μ s hJ=>?_
 .subst hJ;dsimp only;rw[avJ];refine fK abn ⟨⟨abn,abn⟩,trivial,tZ ?_,rfl,next _ ?_⟩
  .have:=Ih (f4.take n);rw[avz]at this;simp only[Sp.ls,avI,avq,avu];omega
  .rw[ada hn];rw[show∀a b c d e,kC::a::b::c::d::(dX (f4.take n)++e)=(kC::a::b::c::d::dX (f4.take n))++e fromλ_ _ _ _ _=>rfl,Xi];rfl
 .subst hJ;dsimp only;rw[av6 (avt _)];have e:List.map (λ(x:List UInt8×Unit)=>x.1) (Sp.ls (kC::Lib.itoa f0::Lib.itoa f1::(bif f2 then[115]else[111])::Lib.itoa f3::dX f4))=kC::Lib.itoa f0::jC (f0,f1,f2,f3,f4,()):=aiS _;rw[e];refine fM abn ⟨⟨?_,avx hlong (by have ht:(fV (f0,f1,f2,f3,f4,()).2.2.2.2.1).length<=1073741824:=ht;omega)⟩,rfl⟩;have:=Ih f4;simp only[Sp.ls,avI,avq];omega
end Go.Proofs.Tryz
namespace Go.Proofs.Tryz
open Go Go.Fw Go.RowKit Sp
theorem aQ{w:World}{g:Nat}{cur:Array Value}{t:TypeId}{fz:Nat×Nat}(h:w.heap[g]? =some (.cells cur t fz))(k:Nat):w.cell? ⟨g,k,none⟩=cur[k]? :=by simp[World.cell?,h]
theorem dO{w:World}{g:Nat}{cur:Array Value}{t:TypeId}(h:w.heap[g]? =some (.cells cur t (0,0)))(k:Nat):w.frozen? ⟨g,k,none⟩=false:=by simp[World.frozen?,h]
theorem gJ{w:World}{g:Nat}{cur:Array Value}{t:TypeId}{fz:Nat×Nat}(h:w.heap[g]? =some (.cells cur t fz))(k:Nat)(v:Value):(w.setCell ⟨g,k,none⟩ v).heap[g]? =some (.cells (cur.setIfInBounds k v) t fz):=by simp only[World.setCell,ayd,if_pos,h];rfl
theorem mZ{w:World}{p:Addr}{b:Nat}(v:Value)(h:b≠p.block):(w.setCell p v).heap[b]? =w.heap[b]? :=by simp only[World.setCell,ayd,if_neg (axl h)]
def FW(B:Nat)(W:World)(v:Value)(f:Sp.LS):Prop:=cZ W.heap (λb=>b<B) (.sl aY dQ) v f
structure Step(W w':World)(P:Nat)(own:Option Nat):Prop where
 os:w'.os=W.os
 tape:w'.tape=W.tape
 output:w'.output=W.output
 size:W.heap.size<=w'.heap.size
 block:∀b,b<W.heap.size->b≠P->own≠some b->w'.heap[b]? =W.heap[b]?
theorem FW.keep{B:Nat}{W w':World}{v:Value}{f:Sp.LS}(h:FW B W v f)(hk:∀b,b<B->w'.heap[b]? =W.heap[b]?):FW B w' v f:=by
 refine⟨h.1,?_⟩;rcases h.2 with h2|⟨b,off,cap,cs,t,fz,h1,h2,h3,h4,h5⟩
 .exact .inl h2
 .exact .inr ⟨b,off,cap,cs,t,fz,h1,h2,h3,(hk b h3).trans h4,λi x hx=>aJ.flat (S:=λb=>b<B) _ _ _ rfl (h5 i x hx)⟩
set_option maxHeartbeats 4000000 in
set_option maxRecDepth 100000 in
theorem zB(B P:Nat)(W:World)(vf vn:Value)(f:Sp.LS)(GI:B<=P)(hP:W.heap[P]? =some (.cells #[vf,vn] 173 (0,0)))(hf:FW B W vf f):
 Calls prog 189 #[.pointer (some ⟨P,0,none⟩)] W λe w'=>e=.returned (.string ⟨(Sp.wordAt f 0).toArray⟩)/\∃JJ,FW B w' JJ (f.drop 1)/\w'.heap[P]? =some (.cells #[JJ,vn] 173 (0,0))/\Step W w' P none:=by
 have mixed:=Tryz.mixed;have c0:W.cell? ⟨P,0,none⟩=some vf:=aQ hP 0;have z0:W.frozen? ⟨P,0,none⟩=false:=dO hP 0;obtain⟨hml,hcase⟩:=id hf;rcases hcase with⟨e1,a,c,rfl⟩|⟨b,off,cap,cs,t,fz,rfl,hcap,hb,hbl,hx⟩
 .subst e1
  go_enter Tryz.func189,Tryz.ntmps189
  go_wp2
  go_ret
  exact⟨rfl,_,hf,hP,rfl,rfl,rfl,avt _,λ_ _ _ _=>rfl⟩
 .cases f with
  |nil=>
   go_enter Tryz.func189,Tryz.ntmps189
   go_wp2
   go_ret
   exact⟨rfl,_,hf,hP,rfl,rfl,rfl,avt _,λ_ _ _ _=>rfl⟩
  |cons x r=>
   have hx0:=hx 0 x rfl;obtain⟨u,us,e1,⟨e2,_⟩,_⟩:=hx0;have cx:W.cell? ⟨b,off,none⟩=some (.string ⟨x.1.toArray⟩):=by rw[aQ hbl,← e2];have h0:=congrArg (λl=>l[0]?) e1;have h0:((cs.toList.drop (off+0*1)).take 1)[0]? =some u:=h0;simpa[av4,av5]using h0
   have hl:(x::r).length=r.length+1:=rfl;rw[hl]at hcap c0 hml;have hrl:¬((r.length+1:Nat):Int)=0:=abn;have hw:Sp.wordAt (x::r) 0=x.1:=eY x r;rw[hw];have hr:FW B W (.slice (if cap=1 then some ⟨b,off,none⟩else some ⟨b,off+1,none⟩) r.length (cap-1)) r:=by
    refine⟨by have:=hml;omega,?_⟩;by_cases h1:cap=1
    .have hr0:r=[]:=awm.1 abn;subst hr0;exact .inl ⟨rfl,_,_,rfl⟩
    .rw[if_neg h1];refine .inr ⟨b,off+1,cap-1,cs,t,fz,rfl,abn,hb,hbl,λi y hy=>?_⟩;have:=hx (i+1) y (by simpa using hy);rw[show off+1+i*dQ.len=off+(i+1)*dQ.len by show off+1+i*1=off+(i+1)*1;omega];exact this
   generalize r.length=n at*
   go_enter Tryz.func189,Tryz.ntmps189
   go_wp2
   all_goals go_ret
   all_goals refine⟨rfl,_,FW.keep (W:=W) ?_ λb' hb'=>mZ _ (show b'≠P from abn),gJ hP 0 _,rfl,rfl,rfl,aq0,λb' _ hb' _=>mZ _ hb'⟩
   .rw[if_pos h,show cap-1=0 from abn]at hr;exact hr
   .rw[if_neg h]at hr;exact hr
theorem aqb(op:Int)(h:-9223372036854775808<=op/\op<=9223372036854775807)(w:World)(hG:G.ok w):Calls prog 151 #[.int .i64 op] w λe w'=>e=.returned (.string ⟨(gq op).toArray⟩)/\Below w.heap.size w w':=by have hc:fJ prog G 151 (iy lG.sh lG.bI lG.F):=JH.1;refine(hc [.sv (.one (.int .i64 op))] True ⟨[(false,[.plain (.str (gq op))])],none⟩ 0 (λ_=>True) #[.int .i64 op] w rfl trivial hG ⟨⟨rfl,h⟩,trivial⟩).mono ?_;rintro e w' ⟨v,vals,rfl,h1,h2,h3,h4,h5,h6,_,_⟩;have h6:v=.string ⟨(gq op).toArray⟩/\(gq op).length<=maxLen:=h6;exact⟨by rw[h6.1],h1,h2,h3,h4,h5⟩
theorem akD(s:List UInt8)(hs:s.length<=1048576)(w:World)(hG:G.ok w):Calls prog 152 #[.string ⟨s.toArray⟩] w λe w'=>
 e=.returned (.tuple #[.agg #[.int .i64 (aZ s).1.1,.int .i64 (aZ s).1.2.1,.string ⟨(aZ s).1.2.2.1.toArray⟩],.bool (aZ s).2])/\Below w.heap.size w w'/\
  (-9223372036854775808<=(aZ s).1.1/\(aZ s).1.1<=9223372036854775807)/\(-9223372036854775808<=(aZ s).1.2.1/\(aZ s).1.2.1<=9223372036854775807)/\(aZ s).1.2.2.1.length<=maxLen:=by
 have hc:fJ prog G 152 (iy mg.sh mg.bI mg.F):=Jg.1;refine(hc [.sv (.one (.str s))] (s.length<=1048576) _ 0 (λ_=>True) #[.string ⟨s.toArray⟩] w rfl hs hG ⟨⟨rfl,ac2⟩,trivial⟩).mono ?_;rintro e w' ⟨v,vals,rfl,h1,h2,h3,h4,h5,h6,_,_⟩;obtain⟨vs,rfl,h7⟩:=h6;obtain⟨l⟩:=vs
 match l,h7 with
 |[a,b],h7=>
  obtain⟨⟨us,ea,h8⟩,h9,_⟩:=h7;obtain⟨ul⟩:=us
  match ul,h8 with
  |[x,y,z],h8=>obtain⟨x1,y1,z1,_⟩:=h8;have h9:b=.bool (aZ s).2:=h9;rw[ea,h9,x1.1,y1.1,z1.1];exact⟨rfl,⟨h1,h2,h3,h4,h5⟩,x1.2,y1.2,z1.2⟩
def NW(B P:Nat)(W:World)(v:Value)(q:List ak):Prop:=
 ∃xs,W.ownsRow B 168 7 v q.length xs/\v.ownBlock≠some P/\∀i x,q[i]? =some x->aJ #[] (λ_=>False) bG ((xs.drop (i*7)).take 7) x
def fE(op l r:Int)(s:List UInt8)(k n:Int)(t:List UInt8):Array Value:=#[.int .i64 op,.int .i64 l,.int .i64 r,.string ⟨s.toArray⟩,.int .i64 k,.int .i64 n,.string ⟨t.toArray⟩]
theorem uK{W w':World}{base size n:Nat}{e:TypeId}{v:Value}{xs:List Value}(h:W.ownsRow base e size v n xs)(hk:∀g,v.ownBlock=some g->w'.heap[g]? =W.heap[g]?):w'.ownsRow base e size v n xs:=by
 refine⟨h.1,?_⟩;rcases h.2 with h2|⟨g,cap,cur,rfl,h3,h4,h5⟩
 .exact .inl h2
 .exact .inr ⟨g,cap,cur,rfl,h3,(hk g rfl).trans h4,h5⟩
theorem aqc:(prog.info? 168).map (λi=>(i.zero,i.size,i.bytes))=some (some (.agg (fE 0 0 0 [] 0 0 [])),7,72):=abu
theorem ant(op l r:Int)(s:List UInt8)(k n:Int)(t:List UInt8):∀u∈(fE op l r s k n t).toList,u.oneCell'=true:=by intro u hu;simp[fE]at hu;rcases hu with rfl|rfl|rfl|rfl|rfl|rfl|rfl<;>rfl
def sV(n:Int):Prop:=-9223372036854775808<=n/\n<=9223372036854775807
theorem rJ{op l r:Int}{s:List UInt8}{k n:Int}{t:List UInt8}(h1:sV op)(h2:sV l)(h3:sV r)(h4:s.length<=maxLen)(h5:sV k)(h6:sV n)(h7:t.length<=maxLen):
 aJ #[] (λ_=>False) bG (fE op l r s k n t).toList (op,l,r,s,k,n,t,()):=
 ⟨_,_,rfl,⟨rfl,h1⟩,_,_,rfl,⟨rfl,h2⟩,_,_,rfl,⟨rfl,h3⟩,_,_,rfl,⟨rfl,h4⟩,_,_,rfl,⟨rfl,h5⟩,_,_,rfl,⟨rfl,h6⟩,_,_,rfl,⟨rfl,h7⟩,rfl⟩
structure FB(B P N:Nat)(W:World)(aa2:Option Nat)(w:World)(vf vn:Value)(f:Sp.LS)(q:List ak):Prop where
 gl:G.ok w
 cells:w.heap[P]? =some (.cells #[vf,vn] 173 (0,0))
 words:FW B w vf f
 nodes:NW B P w vn q
 step:Step W w P aa2
 fresh:∀g,vn.ownBlock=some g->aa2=some g\/W.heap.size<=g
 ae0:vn.ownBlock≠some N
 old:W.heap.size<=N
 lt:N<w.heap.size
 low:5<=B/\B<=P/\P<W.heap.size
theorem Eb{w:World}{g:Nat}{o l r:Int}{s:List UInt8}{k n:Int}{t:List UInt8}{ty:TypeId}{fz:Nat×Nat}(h:w.heap[g]? =some (.cells (fE o l r s k n t) ty fz)):w.cell? ⟨g,0,none⟩=some (.int .i64 o)/\w.cell? ⟨g,1,none⟩=some (.int .i64 l)/\w.cell? ⟨g,2,none⟩=some (.int .i64 r)/\w.cell? ⟨g,3,none⟩=some (.string ⟨s.toArray⟩)/\w.cell? ⟨g,4,none⟩=some (.int .i64 k)/\w.cell? ⟨g,5,none⟩=some (.int .i64 n)/\w.cell? ⟨g,6,none⟩=some (.string ⟨t.toArray⟩):=
 ⟨aQ h 0,aQ h 1,aQ h 2,aQ h 3,aQ h 4,aQ h 5,aQ h 6⟩
theorem FB.four{B P N:Nat}{W:World}{o:Option Nat}{w:World}{vf vn:Value}{f:Sp.LS}{q:List ak}(h:FB B P N W o w vf vn f q):w.cell? ⟨P,1,none⟩=some vn/\w.frozen? ⟨P,1,none⟩=false/\P<w.heap.size/\B<=w.heap.size:=
 ⟨aQ h.cells 1,dO h.cells 1,(avw.1 h.cells).1,by have:=(avw.1 h.cells).1;have:=h.low;omega⟩
theorem qc{ops:Array Oper}{o:Oper}{a:Act}{K:Act->World->Prop}{Q:Exit->Act->World->Prop}{E:Prop}{B P N:Nat}{W:World}{aa2:Option Nat}{w:World}{vf vn:Value}{f:Sp.LS}{q:List ak}{xs:List Value}(op l r:Int)(s:List UInt8)(k n:Int)(t:List UInt8)
 (hR:FB B P N W aa2 w vf vn f q) (nD:(q.length+1)*72<=140737488355328) (hgd:o.guard=none) (ho:o.op=.call {callee:=.builtin .append,args:=#[.tmp 84,.tmp 86],argTypes:=#[91,91]})
 (hown:w.ownsRow B 168 7 vn q.length xs) (rY:vn.ownBlock≠some P) (hs:a.eval (.tmp 84)=vn) (hx:a.eval (.tmp 86)=.slice (some ⟨w.heap.size,0,none⟩) 1 1)
 (h:∀g cap w5,w5.ownsRow B 168 7 (.slice (some ⟨g,0,none⟩) (q.length+1) cap) (q.length+1) (xs++(fE op l r s k n t).toList)->(w.drew.alloc (Obj.cells (fE op l r s k n t) 168 (0,0))).grownBy w5 vn.ownBlock->(vn.ownBlock=some g\/g=(w.drew.alloc (Obj.cells (fE op l r s k n t) 168 (0,0))).heap.size)->g<w5.heap.size->
   w5.heap[P]? =some (.cells #[vf,vn] 173 (0,0))->w5.cell? ⟨P,1,none⟩=some vn->w5.frozen? ⟨P,1,none⟩=false->K (a.put o.dst (.slice (some ⟨g,0,none⟩) (q.length+1) cap)) w5):
 if Region.wanted o (yielded ops a.tmps)=true then Oper.wp prog o a (w.drew.alloc (Obj.cells (fE op l r s k n t) 168 (0,0))) K Q else E:=by
 obtain⟨i0,hi,hz0,hz1,hz2⟩:=axw aqc;obtain⟨-,-,uM,hBr⟩:=hR.four;have hqm:q.length+1<=maxLen:=ac2;refine step_append_lies _ hgd (.tmp 84) (.tmp 86) 91 ho B 168 i0 (.agg (fE 0 0 0 [] 0 0 [])) 7 72 Tryz.underlying91 hi hz0 hz1 hz2 rfl abA vn q.length xs hs ((axs hown).alloc _) ⟨w.heap.size,0,none⟩ 1 1 (fE op l r s k n t).toList hx rfl (World.news_of_block (awf _ _)) (ant op l r s k n t) abA hqm nD adK _ rfl ?_;intro g cap w5 h1 h2 h3 h4;have nP:=(h2.block P adK (λe=>rY e.symm)).trans ((heap_alloc_old w.drew _ uM).trans hR.cells);exact h g cap w5 h1 h2 h3 h4 nP (aQ nP 1) (dO nP 1)
def Done(B P:Nat)(W:World)(aa2:Option Nat)(f:Sp.LS)(q:List ak)(w:World):Prop:=
 ∃vf vn,w.heap[P]? =some (.cells #[vf,vn] 173 (0,0))/\FW B w vf f/\NW B P w vn q/\Step W w P aa2/\∀g,vn.ownBlock=some g->aa2=some g\/W.heap.size<=g
theorem Step.refl(w:World)(P:Nat)(own:Option Nat):Step w w P own:=⟨rfl,rfl,rfl,avt _,λ_ _ _ _=>rfl⟩
theorem Step.trans{a b c:World}{P:Nat}{o o':Option Nat}(h:Step a b P o)(k:Step b c P o')(hf:∀g,o'=some g->o=some g\/a.heap.size<=g):Step a c P o:=
 ⟨k.os.trans h.os,k.tape.trans h.tape,k.output.trans h.output,avx h.size k.size,λx hx hP ho=>(k.block x (avT hx h.size) hP λe=>by
   rcases hf x e with h1|h1
   .exact ho h1
   .omega).trans (h.block x hx hP ho)⟩
theorem Step.below{a b c:World}{P:Nat}{o:Option Nat}(h:Step a b P o)(k:Below b.heap.size b c):Step a c P o:=
 ⟨k.os.trans h.os,k.tape.trans h.tape,k.output.trans h.output,avx h.size k.size,λx hx hP ho=>(k.block x (avT hx h.size)).trans (h.block x hx hP ho)⟩
theorem NW.keep{B P:Nat}{w w':World}{v:Value}{q:List ak}(h:NW B P w v q)(hk:∀g,v.ownBlock=some g->w'.heap[g]? =w.heap[g]?):NW B P w' v q:=by obtain⟨xs,h1,h2,h3⟩:=h;exact⟨xs,uK h1 hk,h2,h3⟩
theorem NW.lt{B P:Nat}{w:World}{v:Value}{q:List ak}(h:NW B P w v q){g:Nat}(hg:v.ownBlock=some g):B<=g/\g<w.heap.size/\g≠P:=by obtain⟨xs,h1,h2,_⟩:=h;exact⟨(h1.lt g hg).1,(h1.lt g hg).2,λe=>h2 (by rw[hg,e])⟩
theorem FB.below{B P N:Nat}{W:World}{o:Option Nat}{w w':World}{vf vn:Value}{f:Sp.LS}{q:List ak}(h:FB B P N W o w vf vn f q)(k:Below w.heap.size w w'):FB B P N W o w' vf vn f q:=by have hP:P<w.heap.size:=avT h.low.2.2 h.step.size;exact⟨dR h.gl k,(k.block P hP).trans h.cells,h.words.keep λb hb=>k.block b (by have:=h.low;omega),h.nodes.keep λg hg=>k.block g (h.nodes.lt hg).2.1,h.step.below k,h.fresh,h.ae0,h.old,avT h.lt k.size,h.low⟩
theorem FB.zk{B P N:Nat}{W:World}{o:Option Nat}{w:World}{vf vn:Value}{f:Sp.LS}{q:List ak}(h:FB B P N W o w vf vn f q)(k:Nat)(v:Value):FB B P N W o (w.setCell ⟨N,k,none⟩ v) vf vn f q:=by have hl:=h.low;have ho:=h.old;have far:∀b,b≠N->(w.setCell ⟨N,k,none⟩ v).heap[b]? =w.heap[b]? :=λb hb=>mZ v hb;have hs:(w.setCell ⟨N,k,none⟩ v).heap.size=w.heap.size:=aq0;refine⟨G.stable _ _ h.gl (by rw[hs];exact avt _) λb hb=>far b (by have:b<5:=hb;omega),(far P abn).trans h.cells,h.words.keep λb hb=>far b abn,h.nodes.keep λg hg=>far g (λe=>h.ae0 (by rw[hg,e])),?_,h.fresh,h.ae0,ho,by rw[hs];exact h.lt,hl⟩;exact⟨h.step.os,h.step.tape,h.step.output,by rw[hs];exact h.step.size,λx hx hP hoo=>(far x abn).trans (h.step.block x hx hP hoo)⟩
theorem G_step{W w':World}{P B:Nat}{own:Option Nat}(Zr:5<=B)(GI:B<=P)(hG:G.ok W)(h:Step W w' P own)(ho:∀b,own=some b->B<=b):G.ok w':=
 G.stable W w' hG h.size λb hb=>h.block b (avT hb (G.low W hG)) (by have:b<5:=hb;omega) λe=>by have:=ho b e;have:b<5:=hb;omega
theorem FB.next{B P N:Nat}{W:World}{o:Option Nat}{w w':World}{vf vn JJ:Value}{f f':Sp.LS}{q:List ak}(h:FB B P N W o w vf vn f q)(h1:FW B w' JJ f')(h2:w'.heap[P]? =some (.cells #[JJ,vn] 173 (0,0)))(h3:Step w w' P none):FB B P N W o w' JJ vn f' q/\w'.heap[N]? =w.heap[N]? :=by have hl:=h.low;have ho:=h.old;exact⟨⟨G_step hl.1 hl.2.1 h.gl h3 (λb e=>ahB),h2,h1,h.nodes.keep λg hg=>h3.block g (h.nodes.lt hg).2.1 (h.nodes.lt hg).2.2 (λe=>ahB),h.step.trans h3 (λg e=>ahB),h.fresh,h.ae0,ho,avT h.lt h3.size,hl⟩,h3.block N h.lt abn (λe=>ahB)⟩
theorem FB.read{B P N:Nat}{W:World}{o:Option Nat}{w w':World}{vf vn:Value}{f f':Sp.LS}{q q':List ak}(h:FB B P N W o w vf vn f q)(k:Done B P w vn.ownBlock f' q' w'):(∃JJ vn',FB B P N W o w' JJ vn' f' q')/\w'.heap[N]? =w.heap[N]? :=by
 have hl:=h.low;have ho:=h.old;have hN:=h.lt;obtain⟨JJ,vn',h1,h2,h3,h4,h5⟩:=k;refine⟨⟨JJ,vn',G_step hl.1 hl.2.1 h.gl h4 (λb e=>(h.nodes.lt e).1),h1,h2,h3,h.step.trans h4 h.fresh,λg hg=>?_,λe=>?_,ho,avT h.lt h4.size,hl⟩,h4.block N h.lt abn (λe=>h.ae0 e)⟩
 .rcases h5 g hg with e|e
  .exact h.fresh g e
  .exact .inr (avx h.step.size e)
 .rcases h5 N e with e|e
  .exact h.ae0 e
  .omega
theorem FB.put{B P N:Nat}{W:World}{o:Option Nat}{w w0 w5:World}{vf vn:Value}{f:Sp.LS}{q:List ak}(h:FB B P N W o w vf vn f q)(hb:Below w.heap.size w w0){xs:List Value}(hown:w.ownsRow B 168 7 vn q.length xs)
 (hrep:∀i x,q[i]? =some x->aJ #[] (λ_=>False) bG ((xs.drop (i*7)).take 7) x) {op l r:Int} {s:List UInt8} {k n:Int} {t:List UInt8} (hx:aJ #[] (λ_=>False) bG (fE op l r s k n t).toList (op,l,r,s,k,n,t,()))
 {g cap:Nat} (h5:w5.ownsRow B 168 7 (.slice (some ⟨g,0,none⟩) (q.length+1) cap) (q.length+1) (xs++(fE op l r s k n t).toList)) (hg:w0.grownBy w5 vn.ownBlock) (hat:vn.ownBlock=some g\/g=w0.heap.size) (hlt:g<w5.heap.size):
 Done B P W o f (q++[(op,l,r,s,k,n,t,())]) (w5.setCell ⟨P,1,none⟩ (.slice (some ⟨g,0,none⟩) (q.length+1) cap)):=by
 have hl:=h.low;have ho:=h.old;have hPw:P<w.heap.size:=avT hl.2.2 h.step.size;have hPn:vn.ownBlock≠some P:=λe=>(h.nodes.lt e).2.2 rfl;have hgP:g≠P:=by
  rcases hat with e|e
  .exactλe2=>hPn (by rw[e,e2])
  .have:=hb.size;omega
 have same:∀b,b<w.heap.size->vn.ownBlock≠some b->w5.heap[b]? =w.heap[b]? :=λb hlb hnb=>(hg.block b (avT hlb hb.size) (λe=>hnb e.symm)).trans (hb.block b hlb);have far:∀b,b≠P->(w5.setCell ⟨P,1,none⟩ (.slice (some ⟨g,0,none⟩) (q.length+1) cap)).heap[b]? =w5.heap[b]? :=λb hb=>mZ _ hb;have nP:=(same P hPw hPn).trans h.cells;have hs5:(w5.setCell ⟨P,1,none⟩ (.slice (some ⟨g,0,none⟩) (q.length+1) cap)).heap.size=w5.heap.size:=aq0;have hsz:w.heap.size<=w5.heap.size:=avx hb.size hg.size;refine⟨vf,.slice (some ⟨g,0,none⟩) (q.length+1) cap,gJ nP 1 _,h.words.keep λb hb=>?_,⟨xs++(fE op l r s k n t).toList,?_,λe=>hgP (by cases e;rfl),λi x hi=>?_⟩,?_,λg' hg'=>?_⟩
 .exact(far b abn).trans (same b abn λe=>by have:=(h.nodes.lt e).1;omega)
 .rw[avn];exact uK h5 λg' hg'=>far g' (by cases hg';exact hgP)
 .have hxl:xs.length=q.length*7:=hown.1;rcases avN i q.length with hi'|hi'
  .rw[awe hi']at hi;have:=hrep i x hi;rw[awR (by rw[hxl];omega),axk (by rw[avW,hxl];omega)];exact this
  .rw[av1 hi']at hi;have e0:i=q.length:=by have:=(avG.1 hi).1;simp at this;omega
   subst e0;rw[axJ]at hi;cases hi;rw[← hxl,ays];exact hx
 .refine⟨hg.os.trans (hb.os.trans h.step.os),hg.tape.trans (hb.tape.trans h.step.tape),hg.output.trans (hb.output.trans h.step.output),by rw[hs5];exact avx h.step.size hsz,λb hlb hbP hob=>?_⟩;refine(far b hbP).trans ((same b (avT hlb h.step.size) λe=>?_).trans (h.step.block b hlb hbP hob));rcases h.fresh b e with e2|e2
  .exact hob e2
  .omega
 .have hg':some g=some g':=hg';cases hg';rcases hat with e|e
  .exact h.fresh g e
  .right;have:=hb.size;have:=h.step.size;omega
theorem vW{B P:Nat}{W:World}{o:Option Nat}{w:World}{b c:Bool}{f:Sp.LS}{q:List ak}{z:Bool×Sp.LS×List ak}(e:Hid (z=(c,f,q)))(hb:Ending.returned (.bool b)=Ending.returned (.bool c))(h:Done B P W o f q w):Ending.returned (.bool b)=Ending.returned (.bool z.1)/\Done B P W o z.2.1 z.2.2 w:=by rw[e.out];exact⟨hb,h⟩
theorem Ig{k:Nat}{f:Sp.LS}{q:List ak}{op:Int}(h:op=dG (Sp.wordAt f 0))(c:op=0\/op=1):Sp.rd (k+1) f q=(!(op==0),f.drop 1,q++[(op,0,0,[],0,0,[],())]):=by rw[Sp.rd,← h];rcases c with rfl|rfl<;>rfl
theorem L9{k:Nat}{f:Sp.LS}{q:List ak}{op:Int}(h:op=dG (Sp.wordAt f 0))(c:op=2\/op=8\/op=9):Sp.rd (k+1) f q=(true,(f.drop 1).drop 1,q++[(op,0,0,Sp.wordAt (f.drop 1) 0,0,0,[],())]):=by rw[Sp.rd,← h];rcases c with rfl|rfl|rfl<;>rfl
theorem Tc{k:Nat}{f:Sp.LS}{q:List ak}{op:Int}(h:op=dG (Sp.wordAt f 0))(c:op=3\/op=4):Sp.rd (k+1) f q=((aZ (Sp.wordAt ((f.drop 1).drop 1) 0)).2,((f.drop 1).drop 1).drop 1,q++[(op,0,0,Sp.wordAt (f.drop 1) 0,(aZ (Sp.wordAt ((f.drop 1).drop 1) 0)).1)]):=by rw[Sp.rd,← h];rcases c with rfl|rfl<;>rfl
theorem aiM{k:Nat}{f:Sp.LS}{q:List ak}(h:(5:Int)=dG (Sp.wordAt f 0)):Sp.rd (k+1) f q=((Sp.rd k (f.drop 1) q).1,(Sp.rd k (f.drop 1) q).2.1,(Sp.rd k (f.drop 1) q).2.2++[(5,((Sp.rd k (f.drop 1) q).2.2.length:Int)-1,0,[],0,0,[],())]):=by rw[Sp.rd,← h];rfl
theorem X5{k:Nat}{f:Sp.LS}{q:List ak}{op:Int}(h:op=dG (Sp.wordAt f 0))(c:op=6\/op=7)(h1:(Sp.rd k (f.drop 1) q).1=true):Sp.rd (k+1) f q=((Sp.rd k (Sp.rd k (f.drop 1) q).2.1 (Sp.rd k (f.drop 1) q).2.2).1,(Sp.rd k (Sp.rd k (f.drop 1) q).2.1 (Sp.rd k (f.drop 1) q).2.2).2.1,
 (Sp.rd k (Sp.rd k (f.drop 1) q).2.1 (Sp.rd k (f.drop 1) q).2.2).2.2++[(op,((Sp.rd k (f.drop 1) q).2.2.length:Int)-1,((Sp.rd k (Sp.rd k (f.drop 1) q).2.1 (Sp.rd k (f.drop 1) q).2.2).2.2.length:Int)-1,[],0,0,[],())]):=by
 rw[Sp.rd,← h,h1];rcases c with rfl|rfl<;>rfl
theorem ac3{k:Nat}{f:Sp.LS}{q:List ak}{op:Int}(h:op=dG (Sp.wordAt f 0))(c:op=6\/op=7)(h1:(Sp.rd k (f.drop 1) q).1=false):Sp.rd (k+1) f q=(false,(Sp.rd k (f.drop 1) q).2.1,
 (Sp.rd k (f.drop 1) q).2.2++[(op,((Sp.rd k (f.drop 1) q).2.2.length:Int)-1,((Sp.rd k (f.drop 1) q).2.2.length:Int)-1,[],0,0,[],())]):=by
 rw[Sp.rd,← h,h1];rcases c with rfl|rfl<;>rfl
theorem xM:∀(k:Nat)(w:Sp.LS)(q:List ak),(Sp.rd k w q).2.2.length+2*(Sp.rd k w q).2.1.length<=q.length+2*w.length+1
 |0,w,q=>Nat.le_succ _
 |k+1,w,q=>by
  have hd:(w.drop 1).length=w.length-1:=avW;rcases Ae (Sp.wordAt w 0)with h0|⟨hc,_⟩
  .rw[Ig h0.symm (.inl rfl)];simp only[avn,avq,avu,hd];omega
  have hne:0<w.length:=by obtain⟨r,e,_⟩:=X6 (w:=w) abn;rw[e,avq];omega
  have d2:((w.drop 1).drop 1).length<=w.length-1:=amS;have d3:(((w.drop 1).drop 1).drop 1).length<=w.length-1:=amS;have i1:=xM k (w.drop 1) q;generalize ho:dG (Sp.wordAt w 0)=op at hc;rcases(show op=1\/(op=2\/op=8\/op=9)\/(op=3\/op=4)\/op=5\/(op=6\/op=7)from abn)with c|c|c|c|c
  .rw[Ig ho.symm (.inr c)];simp only[avn,avq,avu,hd];omega
  .rw[L9 ho.symm c];simp only[avn,avq,avu];omega
  .rw[Tc ho.symm c];simp only[avn,avq,avu];omega
  .subst c;rw[aiM ho.symm];simp only[avn,avq,avu];omega
  .cases h1:(Sp.rd k (w.drop 1) q).1 with
   |true=>
    have i2:=xM k (Sp.rd k (w.drop 1) q).2.1 (Sp.rd k (w.drop 1) q).2.2;rw[X5 ho.symm c h1];simp only[avn,avq,avu];omega
   |false=>rw[ac3 ho.symm c h1];simp only[avn,avq,avu];omega
theorem NW.form{B P:Nat}{w:World}{v:Value}{q:List ak}(h:NW B P w v q):∃a cap,v=.slice a q.length cap:=by
 obtain⟨xs,h1,_,_⟩:=h;rcases h1.2 with⟨e,e2⟩|⟨g,cap,cur,e,_⟩
 .exact⟨none,0,by rw[e,e2]⟩
 .exact⟨_,_,e⟩
theorem EO{f:Sp.LS}(h:∀x∈f,x.1.length<=1000)(i:Int):(Sp.wordAt f i).length<=1000:=by
 by_cases hh:i<(f.length:Int)
 .rw[pX hh,avr];cases e:f[i.toNat]? with
  |none=>exact avM _
  |some x=>exact h x (awc e)
 .rw[pY abn];exact avM _
theorem qJ{f:Sp.LS}(h:∀x∈f,x.1.length<=1000)(i:Nat):∀x∈f.drop i,x.1.length<=1000:=λx hx=>h x (awU hx)
theorem xO:∀(k:Nat)(w:Sp.LS)(q:List ak),(∀x∈w,x.1.length<=1000)->∀x∈(Sp.rd k w q).2.1,x.1.length<=1000
 |0,_,_,h=>h
 |k+1,w,q,h=>by
  have i1:=xO k (w.drop 1) q (qJ h 1);rcases Ae (Sp.wordAt w 0)with h0|⟨hc,_⟩
  .rw[Ig h0.symm (.inl rfl)];exact qJ h 1
  generalize ho:dG (Sp.wordAt w 0)=op at hc;rcases(show op=1\/(op=2\/op=8\/op=9)\/(op=3\/op=4)\/op=5\/(op=6\/op=7)from abn)with c|c|c|c|c
  .rw[Ig ho.symm (.inr c)];exact qJ h 1
  .rw[L9 ho.symm c];exact qJ (qJ h 1) 1
  .rw[Tc ho.symm c];exact qJ (qJ (qJ h 1) 1) 1
  .subst c;rw[aiM ho.symm];exact i1
  .cases h1:(Sp.rd k (w.drop 1) q).1 with
   |true=>rw[X5 ho.symm c h1];exact xO k _ _ i1
   |false=>rw[ac3 ho.symm c h1];exact i1
theorem Xe{f:Sp.LS}{op:Int}(h:op=dG (Sp.wordAt f 0))(h0:op≠0):(f.drop 1).length<f.length:=by obtain⟨r,e,_⟩:=X6 (w:=f) abn;rw[e];exact aw9 _
def Reads(k:Nat):Prop:=∀(B P:Nat)(W:World)(vf vn:Value)(f:Sp.LS)(q:List ak),f.length<k->5<=B->B<=P->G.ok W->W.heap[P]? =some (.cells #[vf,vn] 173 (0,0))->FW B W vf f->NW B P W vn q->
    (∀x∈f,x.1.length<=1000)->q.length+2*f.length+1<=1000->
    Calls prog 154 #[.pointer (some ⟨P,0,none⟩)] W λe w'=>e=.returned (.bool (Sp.rd k f q).1)/\Done B P W vn.ownBlock (Sp.rd k f q).2.1 (Sp.rd k f q).2.2 w'
set_option maxHeartbeats 16000000 in
set_option maxRecDepth 100000 in
theorem anu(k:Nat)(ih:Hid (Reads k)):Reads (k+1):=by
 intro B P W vf vn f q hk Zr GI hG hP hf hn hfx hq;have mixed:=Tryz.mixed
 go_enter Tryz.func154,Tryz.ntmps154
 go_wp2_with (first
  |(go_at_call 189;refine(zB B P _ vf vn f GI hP hf).mono ?_;rintro e W1 ⟨rfl,Xf,hf1,hP1,hs1⟩))
 have hG1:=G_step Zr GI hG hs1 (λb h=>agk);have hword:∃word,Hid (word=Sp.wordAt f 0)/\word=Sp.wordAt f 0:=⟨_,rfl,rfl⟩;obtain⟨word,hword,hw2⟩:=hword;rw[← hw2];clear hw2;have atN:P<W1.heap.size:=(avw.1 hP1).1;have hPW:P<W.heap.size:=(avw.1 hP).1
 go_loopw [5] (λi wr=>∃n:Nat,n<=9/\i=.int .i64 ((n+1:Nat):Int)/\wr.heap[W1.heap.size]? =some (.cells (fE (GK word n) 0 0 [] 0 0 []) 168 (0,0))/\Below W1.heap.size W1 wr)
  (λi _=>10-(intOf i).toNat)
 case atStart=>refine⟨0,abA,rfl,?_,(Below.alloc (Below.refl _ _) (avt _) _)⟩;exact awf W1 _
 case round=>
  obtain⟨n,hn9,rfl,hrow,hbel⟩:=hrel;rcases avN n 9 with hlt|hge
  .have hlt':((n+1:Nat):Int)<=9:=abn;have hGr:G.ok wr:=dR hG1 hbel;have hz:=dO hrow 0;have e1:GK word (n+1)=bif word==gq ((n:Int)+1)then(n:Int)+1 else GK word n:=rfl
   have kw:=aqb ((n+1:Nat):Int) abn wr hGr;obtain⟨t,ht,ht2⟩:∃t,Hid (t=gq ((n:Int)+1))/\t=gq ((n+1:Nat):Int):=⟨_,rfl,rfl⟩;rw[← ht2]at kw;clear ht2;by_cases hk:t=word
   .subst hk
    go_wp2_with (first
     |(go_at_call 151;refine kw.mono ?_;rintro e w2 ⟨rfl,hb2⟩;have hrow2:=(hb2.block _ (avw.1 hrow).1).trans hrow;have hz2:=dO hrow2 0;have hc2:=aQ hrow2 0))
    all_goals go_roundw
    case measure=>simp only[intOf];omega
    case rel=>refine⟨n+1,hlt,by go_num,(gJ hrow2 0 _).trans ?_,(hbel.trans (hb2.mono (aym (avw.1 hrow).1))).setCell (avt _) _⟩;rw[e1,← ht.out,awF];rfl
   .have hk2:(t==word)=false:=avp.2 hk
    go_wp2_with (first
     |(go_at_call 151;refine kw.mono ?_;rintro e w2 ⟨rfl,hb2⟩;have hrow2:=(hb2.block _ (avw.1 hrow).1).trans hrow;have hz2:=dO hrow2 0;have hc2:=aQ hrow2 0))
    all_goals go_roundw
    case measure=>simp only[intOf];omega
    case rel=>refine⟨n+1,hlt,by go_num,hrow2.trans ?_,hbel.trans (hb2.mono (aym (avw.1 hrow).1))⟩;rw[e1,← ht.out,avp.2 (axl hk)];rfl
  .have hge':¬((n+1:Nat):Int)<=9:=abn;obtain rfl:n=9:=abn;rw[ac4]at hrow;have hrg:=ac5 word;obtain⟨op,hop,hop2⟩:∃op,Hid (op=dG (Sp.wordAt f 0))/\op=dG word:=⟨_,congrArg dG hword.out,rfl⟩;rw[← hop2]at hrow hrg;clear hop2;have hNr:=(avw.1 hrow).1;have hR:FB B P W1.heap.size W vn.ownBlock wr Xf vn (f.drop 1) q:=by
    have hPr:=(hbel.block _ atN).trans hP1;refine⟨dR hG1 hbel,hPr,hf1.keep λb hb=>hbel.block b abn,hn.keep λg hg=>?_,?_,λg hg=>.inl hg,λe=>?_,hs1.size,hNr,Zr,GI,hPW⟩
    .have hgl:=hn.lt hg;exact(hbel.block g (avT hgl.2.1 hs1.size)).trans (hs1.block g hgl.2.1 hgl.2.2 (λe=>ahB))
    .exact⟨hbel.os.trans hs1.os,hbel.tape.trans hs1.tape,hbel.output.trans hs1.output,avx hs1.size hbel.size,λb hb hbP _=>(hbel.block b (avT hb hs1.size)).trans (hs1.block b hb hbP (λe=>ahB))⟩
    .have:=(hn.lt e).2.1;have:=hs1.size;omega
   clear hbel hn hf hP hf1 hP1;have hz1:=dO hrow 1;have hz2:=dO hrow 2;have hz3:=dO hrow 3;have hz4:=dO hrow 4;have hz5:=dO hrow 5;have hz6:=dO hrow 6;have Dz:=qJ hfx 1;have aq5:=qJ Dz 1;have c0:wr.cell? ⟨W1.heap.size,0,none⟩=some (.int .i64 op):=aQ hrow 0;have n0:sV 0:=⟨abA,abA⟩;have m0:([]:List UInt8).length<=maxLen:=avM _;rcases(show op=0\/op=1\/op=2\/op=8\/op=9\/op=3\/op=4\/op=5\/op=6\/op=7 from abn)with rfl|rfl|rfl|rfl|rfl|rfl|rfl|rfl|rfl|rfl
   .have he:Hid _:=Ig (k:=k) (q:=q) hop.out abA;have hx:=rJ (op:=0) ⟨abA,abA⟩ n0 n0 m0 n0 n0 m0
    go_wp2
    obtain⟨xs,hown,rY,hrep⟩:=hR.nodes;obtain⟨c0,c1,c2,c3,c4,c5,c6⟩:=Eb hrow;obtain⟨p1,zP,uM,hBr⟩:=hR.four;have nD:(q.length+1)*72<=140737488355328:=abn
    go_region_law (refine qc (0) (0) (0) ([]) (0) (0) ([]) hR nD rfl rfl hown rY ac7 ac7 ?_;intro g cap w5 hown5 gI nV nX nP k5 z5)
    all_goals go_wp2
    all_goals go_ret
    all_goals exact vW he rfl (hR.put (((Below.refl _ wr).drew).alloc (avt _) _) hown hrep hx hown5 gI nV nX)
   .have he:Hid _:=Ig (k:=k) (q:=q) hop.out abA;have hx:=rJ (op:=1) ⟨abA,abA⟩ n0 n0 m0 n0 n0 m0
    go_wp2
    obtain⟨xs,hown,rY,hrep⟩:=hR.nodes;obtain⟨c0,c1,c2,c3,c4,c5,c6⟩:=Eb hrow;obtain⟨p1,zP,uM,hBr⟩:=hR.four;have nD:(q.length+1)*72<=140737488355328:=abn
    go_region_law (refine qc (1) (0) (0) ([]) (0) (0) ([]) hR nD rfl rfl hown rY ac7 ac7 ?_;intro g cap w5 hown5 gI nV nX nP k5 z5)
    all_goals go_wp2
    all_goals go_ret
    all_goals exact vW he rfl (hR.put (((Below.refl _ wr).drew).alloc (avt _) _) hown hrep hx hown5 gI nV nX)
   .obtain⟨s2,hs2,hs2'⟩:∃s2,Hid (s2=Sp.wordAt (f.drop 1) 0)/\s2=Sp.wordAt (f.drop 1) 0:=⟨_,rfl,rfl⟩;have nx:=zB B P wr Xf vn (f.drop 1) GI hR.cells hR.words;have hl2:=EO Dz 0;rw[← hs2']at nx hl2;clear hs2';have he:Hid _:=L9 (k:=k) (q:=q) hop.out abA;rw[← hs2.out]at he;have hx:=rJ (op:=2) (s:=s2) ⟨abA,abA⟩ n0 n0 ac2 n0 n0 m0
    go_wp2_with (first
     |(go_at_call 189;refine nx.mono ?_;rintro e w2 ⟨rfl,Oe,hf2,hP2,hst2⟩;obtain⟨hR2,GL⟩:=hR.next hf2 hP2 hst2;have hrow2:=GL.trans hrow;have z3:=dO hrow2 3;have d3:=aQ hrow2 3))
    have ku:=hR2.zk 3 (.string ⟨s2.toArray⟩);have hrow3:(w2.setCell ⟨W1.heap.size,3,none⟩ (.string ⟨s2.toArray⟩)).heap[W1.heap.size]? =some (.cells (fE 2 0 0 s2 0 0 []) 168 (0,0)):=gJ hrow2 3 _;generalize w2.setCell ⟨W1.heap.size,3,none⟩ (.string ⟨s2.toArray⟩)=w3 at ku hrow3 ⊢;obtain⟨xs,hown,rY,hrep⟩:=ku.nodes;obtain⟨c0,c1,c2,c3,c4,c5,c6⟩:=Eb hrow3;obtain⟨p1,zP,uM,hBr⟩:=ku.four;have nD:(q.length+1)*72<=140737488355328:=abn
    go_region_law (refine qc (2) (0) (0) (s2) (0) (0) ([]) ku nD rfl rfl hown rY ac7 ac7 ?_;intro g cap w5 hown5 gI nV nX nP k5 z5)
    all_goals go_wp2
    all_goals go_ret
    all_goals exact vW he rfl (ku.put (((Below.refl _ w3).drew).alloc (avt _) _) hown hrep hx hown5 gI nV nX)
   .obtain⟨s2,hs2,hs2'⟩:∃s2,Hid (s2=Sp.wordAt (f.drop 1) 0)/\s2=Sp.wordAt (f.drop 1) 0:=⟨_,rfl,rfl⟩;have nx:=zB B P wr Xf vn (f.drop 1) GI hR.cells hR.words;have hl2:=EO Dz 0;rw[← hs2']at nx hl2;clear hs2';have he:Hid _:=L9 (k:=k) (q:=q) hop.out abA;rw[← hs2.out]at he;have hx:=rJ (op:=8) (s:=s2) ⟨abA,abA⟩ n0 n0 ac2 n0 n0 m0
    go_wp2_with (first
     |(go_at_call 189;refine nx.mono ?_;rintro e w2 ⟨rfl,Oe,hf2,hP2,hst2⟩;obtain⟨hR2,GL⟩:=hR.next hf2 hP2 hst2;have hrow2:=GL.trans hrow;have z3:=dO hrow2 3;have d3:=aQ hrow2 3))
    have ku:=hR2.zk 3 (.string ⟨s2.toArray⟩);have hrow3:(w2.setCell ⟨W1.heap.size,3,none⟩ (.string ⟨s2.toArray⟩)).heap[W1.heap.size]? =some (.cells (fE 8 0 0 s2 0 0 []) 168 (0,0)):=gJ hrow2 3 _;generalize w2.setCell ⟨W1.heap.size,3,none⟩ (.string ⟨s2.toArray⟩)=w3 at ku hrow3 ⊢;obtain⟨xs,hown,rY,hrep⟩:=ku.nodes;obtain⟨c0,c1,c2,c3,c4,c5,c6⟩:=Eb hrow3;obtain⟨p1,zP,uM,hBr⟩:=ku.four;have nD:(q.length+1)*72<=140737488355328:=abn
    go_region_law (refine qc (8) (0) (0) (s2) (0) (0) ([]) ku nD rfl rfl hown rY ac7 ac7 ?_;intro g cap w5 hown5 gI nV nX nP k5 z5)
    all_goals go_wp2
    all_goals go_ret
    all_goals exact vW he rfl (ku.put (((Below.refl _ w3).drew).alloc (avt _) _) hown hrep hx hown5 gI nV nX)
   .obtain⟨s2,hs2,hs2'⟩:∃s2,Hid (s2=Sp.wordAt (f.drop 1) 0)/\s2=Sp.wordAt (f.drop 1) 0:=⟨_,rfl,rfl⟩;have nx:=zB B P wr Xf vn (f.drop 1) GI hR.cells hR.words;have hl2:=EO Dz 0;rw[← hs2']at nx hl2;clear hs2';have he:Hid _:=L9 (k:=k) (q:=q) hop.out abA;rw[← hs2.out]at he;have hx:=rJ (op:=9) (s:=s2) ⟨abA,abA⟩ n0 n0 ac2 n0 n0 m0
    go_wp2_with (first
     |(go_at_call 189;refine nx.mono ?_;rintro e w2 ⟨rfl,Oe,hf2,hP2,hst2⟩;obtain⟨hR2,GL⟩:=hR.next hf2 hP2 hst2;have hrow2:=GL.trans hrow;have z3:=dO hrow2 3;have d3:=aQ hrow2 3))
    have ku:=hR2.zk 3 (.string ⟨s2.toArray⟩);have hrow3:(w2.setCell ⟨W1.heap.size,3,none⟩ (.string ⟨s2.toArray⟩)).heap[W1.heap.size]? =some (.cells (fE 9 0 0 s2 0 0 []) 168 (0,0)):=gJ hrow2 3 _;generalize w2.setCell ⟨W1.heap.size,3,none⟩ (.string ⟨s2.toArray⟩)=w3 at ku hrow3 ⊢;obtain⟨xs,hown,rY,hrep⟩:=ku.nodes;obtain⟨c0,c1,c2,c3,c4,c5,c6⟩:=Eb hrow3;obtain⟨p1,zP,uM,hBr⟩:=ku.four;have nD:(q.length+1)*72<=140737488355328:=abn
    go_region_law (refine qc (9) (0) (0) (s2) (0) (0) ([]) ku nD rfl rfl hown rY ac7 ac7 ?_;intro g cap w5 hown5 gI nV nX nP k5 z5)
    all_goals go_wp2
    all_goals go_ret
    all_goals exact vW he rfl (ku.put (((Below.refl _ w3).drew).alloc (avt _) _) hown hrep hx hown5 gI nV nX)
   .obtain⟨s2,hs2,hs2'⟩:∃s2,Hid (s2=Sp.wordAt (f.drop 1) 0)/\s2=Sp.wordAt (f.drop 1) 0:=⟨_,rfl,rfl⟩;obtain⟨s3,hs3,aiN⟩:∃s3,Hid (s3=Sp.wordAt ((f.drop 1).drop 1) 0)/\s3=Sp.wordAt ((f.drop 1).drop 1) 0:=⟨_,rfl,rfl⟩;have nx:=zB B P wr Xf vn (f.drop 1) GI hR.cells hR.words;have hl2:=EO Dz 0;have hl3:=EO aq5 0;rw[← hs2']at nx hl2;rw[← aiN]at hl3;clear hs2' aiN;have he:Hid _:=Tc (k:=k) (q:=q) hop.out abA;rw[← hs2.out,← hs3.out]at he;have pv:=akD s3 abn;generalize aZ s3=z at he pv;obtain⟨⟨v1,v2,v3,⟨⟩⟩,ok⟩:=z;dsimp only at pv
    go_wp2_with (first
     |(go_at_call 189;refine nx.mono ?_;rintro e w2 ⟨rfl,Oe,hf2,hP2,hst2⟩;obtain⟨hR2,GL⟩:=hR.next hf2 hP2 hst2;have hrow2:=GL.trans hrow;have z3:=dO hrow2 3;have d3:=aQ hrow2 3;clear nx)
     |(have ku:=hR2.zk 3 (.string ⟨s2.toArray⟩);have hrow3:(w2.setCell ⟨W1.heap.size,3,none⟩ (.string ⟨s2.toArray⟩)).heap[W1.heap.size]? =some (.cells (fE 3 0 0 s2 0 0 []) 168 (0,0)):=gJ hrow2 3 _;have nx2:=zB B P _ Oe vn ((f.drop 1).drop 1) GI ku.cells ku.words;rw[← hs3.out]at nx2;go_at_call 189;refine nx2.mono ?_;rintro e w4 ⟨rfl,vf4,hf4,hP4,aoH⟩;obtain⟨Mc,hN4⟩:=ku.next hf4 hP4 aoH;have hrow4:=hN4.trans hrow3;clear nx2)
     |(go_at_call 152;refine(pv _ Mc.gl).mono ?_;rintro e w6 ⟨rfl,hb6,hv1,hv2,hv3⟩;have hR6:=Mc.below hb6;have Af:=(hb6.block _ Mc.lt).trans hrow4;have y4:=dO Af 4;have y5:=dO Af 5;have y6:=dO Af 6;have x4:w6.cell? ⟨W1.heap.size,4,none⟩=some (.int .i64 0):=aQ Af 4;have x5:w6.cell? ⟨W1.heap.size,5,none⟩=some (.int .i64 0):=aQ Af 5;have x6:w6.cell? ⟨W1.heap.size,6,none⟩=some (.string ⟨([]:List UInt8).toArray⟩):=aQ Af 6))
    have Xg:=((hR6.zk 4 (.int .i64 v1)).zk 5 (.int .i64 v2)).zk 6 (.string ⟨v3.toArray⟩);have ac6:(((w6.setCell ⟨W1.heap.size,4,none⟩ (.int .i64 v1)).setCell ⟨W1.heap.size,5,none⟩ (.int .i64 v2)).setCell ⟨W1.heap.size,6,none⟩ (.string ⟨v3.toArray⟩)).heap[W1.heap.size]? =some (.cells (fE 3 0 0 s2 v1 v2 v3) 168 (0,0)):=gJ (gJ (gJ Af 4 _) 5 _) 6 _;have hx:=rJ (op:=3) (s:=s2) ⟨abA,abA⟩ n0 n0 ac2 hv1 hv2 hv3;generalize ((w6.setCell ⟨W1.heap.size,4,none⟩ (.int .i64 v1)).setCell ⟨W1.heap.size,5,none⟩ (.int .i64 v2)).setCell ⟨W1.heap.size,6,none⟩ (.string ⟨v3.toArray⟩)=w7 at Xg ac6 ⊢;clear x4 x5 x6 y4 y5 y6 d3 z3;obtain⟨xs,hown,rY,hrep⟩:=Xg.nodes;obtain⟨c0,c1,c2,c3,c4,c5,c6⟩:=Eb ac6;obtain⟨p1,zP,uM,hBr⟩:=Xg.four;have nD:(q.length+1)*72<=140737488355328:=abn
    go_region_law (refine qc (3) (0) (0) (s2) (v1) (v2) (v3) Xg nD rfl rfl hown rY ac7 ac7 ?_;intro g cap w5 hown5 gI nV nX nP k5 z5)
    all_goals go_wp2
    all_goals go_ret
    all_goals exact vW he rfl (Xg.put (((Below.refl _ w7).drew).alloc (avt _) _) hown hrep hx hown5 gI nV nX)
   .obtain⟨s2,hs2,hs2'⟩:∃s2,Hid (s2=Sp.wordAt (f.drop 1) 0)/\s2=Sp.wordAt (f.drop 1) 0:=⟨_,rfl,rfl⟩;obtain⟨s3,hs3,aiN⟩:∃s3,Hid (s3=Sp.wordAt ((f.drop 1).drop 1) 0)/\s3=Sp.wordAt ((f.drop 1).drop 1) 0:=⟨_,rfl,rfl⟩;have nx:=zB B P wr Xf vn (f.drop 1) GI hR.cells hR.words;have hl2:=EO Dz 0;have hl3:=EO aq5 0;rw[← hs2']at nx hl2;rw[← aiN]at hl3;clear hs2' aiN;have he:Hid _:=Tc (k:=k) (q:=q) hop.out abA;rw[← hs2.out,← hs3.out]at he;have pv:=akD s3 abn;generalize aZ s3=z at he pv;obtain⟨⟨v1,v2,v3,⟨⟩⟩,ok⟩:=z;dsimp only at pv
    go_wp2_with (first
     |(go_at_call 189;refine nx.mono ?_;rintro e w2 ⟨rfl,Oe,hf2,hP2,hst2⟩;obtain⟨hR2,GL⟩:=hR.next hf2 hP2 hst2;have hrow2:=GL.trans hrow;have z3:=dO hrow2 3;have d3:=aQ hrow2 3;clear nx)
     |(have ku:=hR2.zk 3 (.string ⟨s2.toArray⟩);have hrow3:(w2.setCell ⟨W1.heap.size,3,none⟩ (.string ⟨s2.toArray⟩)).heap[W1.heap.size]? =some (.cells (fE 4 0 0 s2 0 0 []) 168 (0,0)):=gJ hrow2 3 _;have nx2:=zB B P _ Oe vn ((f.drop 1).drop 1) GI ku.cells ku.words;rw[← hs3.out]at nx2;go_at_call 189;refine nx2.mono ?_;rintro e w4 ⟨rfl,vf4,hf4,hP4,aoH⟩;obtain⟨Mc,hN4⟩:=ku.next hf4 hP4 aoH;have hrow4:=hN4.trans hrow3;clear nx2)
     |(go_at_call 152;refine(pv _ Mc.gl).mono ?_;rintro e w6 ⟨rfl,hb6,hv1,hv2,hv3⟩;have hR6:=Mc.below hb6;have Af:=(hb6.block _ Mc.lt).trans hrow4;have y4:=dO Af 4;have y5:=dO Af 5;have y6:=dO Af 6;have x4:w6.cell? ⟨W1.heap.size,4,none⟩=some (.int .i64 0):=aQ Af 4;have x5:w6.cell? ⟨W1.heap.size,5,none⟩=some (.int .i64 0):=aQ Af 5;have x6:w6.cell? ⟨W1.heap.size,6,none⟩=some (.string ⟨([]:List UInt8).toArray⟩):=aQ Af 6))
    have Xg:=((hR6.zk 4 (.int .i64 v1)).zk 5 (.int .i64 v2)).zk 6 (.string ⟨v3.toArray⟩);have ac6:(((w6.setCell ⟨W1.heap.size,4,none⟩ (.int .i64 v1)).setCell ⟨W1.heap.size,5,none⟩ (.int .i64 v2)).setCell ⟨W1.heap.size,6,none⟩ (.string ⟨v3.toArray⟩)).heap[W1.heap.size]? =some (.cells (fE 4 0 0 s2 v1 v2 v3) 168 (0,0)):=gJ (gJ (gJ Af 4 _) 5 _) 6 _;have hx:=rJ (op:=4) (s:=s2) ⟨abA,abA⟩ n0 n0 ac2 hv1 hv2 hv3;generalize ((w6.setCell ⟨W1.heap.size,4,none⟩ (.int .i64 v1)).setCell ⟨W1.heap.size,5,none⟩ (.int .i64 v2)).setCell ⟨W1.heap.size,6,none⟩ (.string ⟨v3.toArray⟩)=w7 at Xg ac6 ⊢;clear x4 x5 x6 y4 y5 y6 d3 z3;obtain⟨xs,hown,rY,hrep⟩:=Xg.nodes;obtain⟨c0,c1,c2,c3,c4,c5,c6⟩:=Eb ac6;obtain⟨p1,zP,uM,hBr⟩:=Xg.four;have nD:(q.length+1)*72<=140737488355328:=abn
    go_region_law (refine qc (4) (0) (0) (s2) (v1) (v2) (v3) Xg nD rfl rfl hown rY ac7 ac7 ?_;intro g cap w5 hown5 gI nV nX nP k5 z5)
    all_goals go_wp2
    all_goals go_ret
    all_goals exact vW he rfl (Xg.put (((Below.refl _ w7).drew).alloc (avt _) _) hown hrep hx hown5 gI nV nX)
   .have he:Hid _:=aiM (k:=k) (q:=q) hop.out;have hcnt:=xM k (f.drop 1) q;have hrl:=Md k (f.drop 1) q;have hwl:=xO k (f.drop 1) q Dz;have hlp:=Xe hop.out abA;have nd:=ih.out B P wr Xf vn (f.drop 1) q abn Zr GI hR.gl hR.cells hR.words hR.nodes Dz abn;generalize Sp.rd k (f.drop 1) q=z at he nd hcnt hwl hrl;obtain⟨b1,f2,q2⟩:=z;dsimp only at nd hcnt hwl
    go_wp2_with (first
     |(go_at_call 154;refine nd.mono ?_;rintro e w2 ⟨rfl,hd⟩;obtain⟨⟨Oe,vn2,hR2⟩,GL⟩:=hR.read hd;obtain⟨a2,cap2,Td⟩:=hR2.nodes.form;subst Td;have hrow2:=GL.trans hrow;have p2:w2.cell? ⟨P,1,none⟩=some (.slice a2 q2.length cap2):=aQ hR2.cells 1;have y1:=dO hrow2 1;have x1:w2.cell? ⟨W1.heap.size,1,none⟩=some (.int .i64 0):=aQ hrow2 1;clear nd))
    have ku:=hR2.zk 1 (.int .i64 ((q2.length:Int)-1));have hrow3:(w2.setCell ⟨W1.heap.size,1,none⟩ (.int .i64 ((q2.length:Int)-1))).heap[W1.heap.size]? =some (.cells (fE 5 ((q2.length:Int)-1) 0 [] 0 0 []) 168 (0,0)):=gJ hrow2 1 _;have hx:=rJ (op:=5) (l:=(q2.length:Int)-1) ⟨abA,abA⟩ ⟨abn,abn⟩ n0 m0 n0 n0 m0;generalize w2.setCell ⟨W1.heap.size,1,none⟩ (.int .i64 ((q2.length:Int)-1))=w3 at ku hrow3 ⊢;clear x1 y1 p2;obtain⟨xs,hown,rY,hrep⟩:=ku.nodes;obtain⟨c0,c1,c2,c3,c4,c5,c6⟩:=Eb hrow3;obtain⟨p1,zP,uM,hBr⟩:=ku.four;have nD:(q2.length+1)*72<=140737488355328:=abn
    go_region_law (refine qc (5) ((q2.length:Int)-1) (0) ([]) (0) (0) ([]) ku nD rfl rfl hown rY ac7 ac7 ?_;intro g cap w5 hown5 gI nV nX nP k5 z5)
    all_goals go_wp2
    all_goals go_ret
    all_goals exact vW he rfl (ku.put (((Below.refl _ w3).drew).alloc (avt _) _) hown hrep hx hown5 gI nV nX)
   .cases hb1:(Sp.rd k (f.drop 1) q).1 with
    |false=>
     have he:Hid _:=ac3 (k:=k) (q:=q) hop.out abA hb1;have hcnt:=xM k (f.drop 1) q;have hrl:=Md k (f.drop 1) q;have hwl:=xO k (f.drop 1) q Dz;have hlp:=Xe hop.out abA;have nd:=ih.out B P wr Xf vn (f.drop 1) q abn Zr GI hR.gl hR.cells hR.words hR.nodes Dz abn;generalize Sp.rd k (f.drop 1) q=z at he nd hcnt hwl hrl hb1;obtain⟨b1,f2,q2⟩:=z;dsimp only at nd hcnt hwl hrl hb1;subst hb1
     go_wp2_with (first
      |(go_at_call 154;refine nd.mono ?_;rintro e w2 ⟨rfl,hd⟩;obtain⟨⟨Oe,vn2,hR2⟩,GL⟩:=hR.read hd;obtain⟨a2,cap2,Td⟩:=hR2.nodes.form;subst Td;have hrow2:=GL.trans hrow;have p2:w2.cell? ⟨P,1,none⟩=some (.slice a2 q2.length cap2):=aQ hR2.cells 1;have y1:=dO hrow2 1;have x1:w2.cell? ⟨W1.heap.size,1,none⟩=some (.int .i64 0):=aQ hrow2 1;have y2:=dO hrow2 2;have x2:w2.cell? ⟨W1.heap.size,2,none⟩=some (.int .i64 0):=aQ hrow2 2;clear nd))
     have ku:=(hR2.zk 1 (.int .i64 ((q2.length:Int)-1))).zk 2 (.int .i64 ((q2.length:Int)-1));have hrow3:((w2.setCell ⟨W1.heap.size,1,none⟩ (.int .i64 ((q2.length:Int)-1))).setCell ⟨W1.heap.size,2,none⟩ (.int .i64 ((q2.length:Int)-1))).heap[W1.heap.size]? =some (.cells (fE 6 ((q2.length:Int)-1) ((q2.length:Int)-1) [] 0 0 []) 168 (0,0)):=gJ (gJ hrow2 1 _) 2 _;have hx:=rJ (op:=6) (l:=((q2.length:Int)-1)) (r:=((q2.length:Int)-1)) ⟨abA,abA⟩ ⟨abn,abn⟩ ⟨abn,abn⟩ m0 n0 n0 m0;generalize (w2.setCell ⟨W1.heap.size,1,none⟩ (.int .i64 ((q2.length:Int)-1))).setCell ⟨W1.heap.size,2,none⟩ (.int .i64 ((q2.length:Int)-1))=w3 at ku hrow3 ⊢;clear x1 y1 x2 y2 p2;obtain⟨xs,hown,rY,hrep⟩:=ku.nodes;obtain⟨c0,c1,c2,c3,c4,c5,c6⟩:=Eb hrow3;obtain⟨p1,zP,uM,hBr⟩:=ku.four;have nD:(q2.length+1)*72<=140737488355328:=abn
     go_region_law (refine qc (6) ((q2.length:Int)-1) ((q2.length:Int)-1) ([]) (0) (0) ([]) ku nD rfl rfl hown rY ac7 ac7 ?_;intro g cap w5 hown5 gI nV nX nP k5 z5)
     all_goals go_wp2
     all_goals go_ret
     all_goals exact vW he rfl (ku.put (((Below.refl _ w3).drew).alloc (avt _) _) hown hrep hx hown5 gI nV nX)
    |true=>
     have he:Hid _:=X5 (k:=k) (q:=q) hop.out abA hb1;have hcnt:=xM k (f.drop 1) q;have hrl:=Md k (f.drop 1) q;have hwl:=xO k (f.drop 1) q Dz;have hlp:=Xe hop.out abA;have nd:=ih.out B P wr Xf vn (f.drop 1) q abn Zr GI hR.gl hR.cells hR.words hR.nodes Dz abn;generalize Sp.rd k (f.drop 1) q=z at he nd hcnt hwl hrl hb1;obtain⟨b1,f2,q2⟩:=z;dsimp only at he nd hcnt hwl hrl hb1;subst hb1;have nd2:=λ(w:World)(JJ vn':Value)(hr:FB B P W1.heap.size W vn.ownBlock w JJ vn' f2 q2)=>ih.out B P w JJ vn' f2 q2 abn Zr GI hr.gl hr.cells hr.words hr.nodes hwl abn;have hcnt2:=xM k f2 q2;generalize Sp.rd k f2 q2=z2 at he nd2 hcnt2;obtain⟨b2,f3,q3⟩:=z2;dsimp only at he nd2 hcnt2
     go_wp2_with (first
      |(go_at_call 154;refine nd.mono ?_;rintro e w2 ⟨rfl,hd⟩;obtain⟨⟨Oe,vn2,hR2⟩,GL⟩:=hR.read hd;obtain⟨a2,cap2,Td⟩:=hR2.nodes.form;subst Td;have hrow2:=GL.trans hrow;have p2:w2.cell? ⟨P,1,none⟩=some (.slice a2 q2.length cap2):=aQ hR2.cells 1;have y1:=dO hrow2 1;have x1:w2.cell? ⟨W1.heap.size,1,none⟩=some (.int .i64 0):=aQ hrow2 1;clear nd)
      |(have ku:=hR2.zk 1 (.int .i64 ((q2.length:Int)-1));have hrow3:(w2.setCell ⟨W1.heap.size,1,none⟩ (.int .i64 ((q2.length:Int)-1))).heap[W1.heap.size]? =some (.cells (fE 6 ((q2.length:Int)-1) 0 [] 0 0 []) 168 (0,0)):=gJ hrow2 1 _;go_at_call 154;refine(nd2 _ _ _ ku).mono ?_;rintro e w4 ⟨rfl,hd4⟩;obtain⟨⟨vf4,vn4,Mc⟩,hN4⟩:=ku.read hd4;obtain⟨a4,cap4,aoI⟩:=Mc.nodes.form;subst aoI;have hrow4:=hN4.trans hrow3;have p4:w4.cell? ⟨P,1,none⟩=some (.slice a4 q3.length cap4):=aQ Mc.cells 1;have y2:=dO hrow4 2;have x2:w4.cell? ⟨W1.heap.size,2,none⟩=some (.int .i64 0):=aQ hrow4 2;clear nd2 p2 x1 y1))
     have Me:=Mc.zk 2 (.int .i64 ((q3.length:Int)-1));have qh:(w4.setCell ⟨W1.heap.size,2,none⟩ (.int .i64 ((q3.length:Int)-1))).heap[W1.heap.size]? =some (.cells (fE 6 ((q2.length:Int)-1) ((q3.length:Int)-1) [] 0 0 []) 168 (0,0)):=gJ hrow4 2 _;have hx:=rJ (op:=6) (l:=((q2.length:Int)-1)) (r:=(q3.length:Int)-1) ⟨abA,abA⟩ ⟨abn,abn⟩ ⟨abn,abn⟩ m0 n0 n0 m0;generalize w4.setCell ⟨W1.heap.size,2,none⟩ (.int .i64 ((q3.length:Int)-1))=CB at Me qh ⊢;clear x2 y2 p4;obtain⟨xs,hown,rY,hrep⟩:=Me.nodes;have c0:CB.cell? ⟨W1.heap.size,0,none⟩=some (.int .i64 (6)):=aQ qh 0;have c1:CB.cell? ⟨W1.heap.size,1,none⟩=some (.int .i64 ((q2.length:Int)-1)):=aQ qh 1;have c2:CB.cell? ⟨W1.heap.size,2,none⟩=some (.int .i64 ((q3.length:Int)-1)):=aQ qh 2;have c3:CB.cell? ⟨W1.heap.size,3,none⟩=some (.string ⟨([]:List UInt8).toArray⟩):=aQ qh 3;have c4:CB.cell? ⟨W1.heap.size,4,none⟩=some (.int .i64 (0)):=aQ qh 4;have c5:CB.cell? ⟨W1.heap.size,5,none⟩=some (.int .i64 (0)):=aQ qh 5;have c6:CB.cell? ⟨W1.heap.size,6,none⟩=some (.string ⟨([]:List UInt8).toArray⟩):=aQ qh 6;have p1:CB.cell? ⟨P,1,none⟩=some (.slice a4 q3.length cap4):=aQ Me.cells 1;have zP:=dO Me.cells 1;have uM:P<CB.heap.size:=(avw.1 Me.cells).1;have hBr:B<=CB.heap.size:=abn;have nD:(q3.length+1)*72<=140737488355328:=abn
     go_region_law (refine qc (6) ((q2.length:Int)-1) ((q3.length:Int)-1) ([]) (0) (0) ([]) Me nD rfl rfl hown rY ac7 ac7 ?_;intro g cap w5 hown5 gI nV nX nP k5 z5)
     all_goals go_wp2
     all_goals go_ret
     all_goals exact vW he rfl (Me.put (((Below.refl _ CB).drew).alloc (avt _) _) hown hrep hx hown5 gI nV nX)
   .cases hb1:(Sp.rd k (f.drop 1) q).1 with
    |false=>
     have he:Hid _:=ac3 (k:=k) (q:=q) hop.out abA hb1;have hcnt:=xM k (f.drop 1) q;have hrl:=Md k (f.drop 1) q;have hwl:=xO k (f.drop 1) q Dz;have hlp:=Xe hop.out abA;have nd:=ih.out B P wr Xf vn (f.drop 1) q abn Zr GI hR.gl hR.cells hR.words hR.nodes Dz abn;generalize Sp.rd k (f.drop 1) q=z at he nd hcnt hwl hrl hb1;obtain⟨b1,f2,q2⟩:=z;dsimp only at nd hcnt hwl hrl hb1;subst hb1
     go_wp2_with (first
      |(go_at_call 154;refine nd.mono ?_;rintro e w2 ⟨rfl,hd⟩;obtain⟨⟨Oe,vn2,hR2⟩,GL⟩:=hR.read hd;obtain⟨a2,cap2,Td⟩:=hR2.nodes.form;subst Td;have hrow2:=GL.trans hrow;have p2:w2.cell? ⟨P,1,none⟩=some (.slice a2 q2.length cap2):=aQ hR2.cells 1;have y1:=dO hrow2 1;have x1:w2.cell? ⟨W1.heap.size,1,none⟩=some (.int .i64 0):=aQ hrow2 1;have y2:=dO hrow2 2;have x2:w2.cell? ⟨W1.heap.size,2,none⟩=some (.int .i64 0):=aQ hrow2 2;clear nd))
     have ku:=(hR2.zk 1 (.int .i64 ((q2.length:Int)-1))).zk 2 (.int .i64 ((q2.length:Int)-1));have hrow3:((w2.setCell ⟨W1.heap.size,1,none⟩ (.int .i64 ((q2.length:Int)-1))).setCell ⟨W1.heap.size,2,none⟩ (.int .i64 ((q2.length:Int)-1))).heap[W1.heap.size]? =some (.cells (fE 7 ((q2.length:Int)-1) ((q2.length:Int)-1) [] 0 0 []) 168 (0,0)):=gJ (gJ hrow2 1 _) 2 _;have hx:=rJ (op:=7) (l:=((q2.length:Int)-1)) (r:=((q2.length:Int)-1)) ⟨abA,abA⟩ ⟨abn,abn⟩ ⟨abn,abn⟩ m0 n0 n0 m0;generalize (w2.setCell ⟨W1.heap.size,1,none⟩ (.int .i64 ((q2.length:Int)-1))).setCell ⟨W1.heap.size,2,none⟩ (.int .i64 ((q2.length:Int)-1))=w3 at ku hrow3 ⊢;clear x1 y1 x2 y2 p2;obtain⟨xs,hown,rY,hrep⟩:=ku.nodes;obtain⟨c0,c1,c2,c3,c4,c5,c6⟩:=Eb hrow3;obtain⟨p1,zP,uM,hBr⟩:=ku.four;have nD:(q2.length+1)*72<=140737488355328:=abn
     go_region_law (refine qc (7) ((q2.length:Int)-1) ((q2.length:Int)-1) ([]) (0) (0) ([]) ku nD rfl rfl hown rY ac7 ac7 ?_;intro g cap w5 hown5 gI nV nX nP k5 z5)
     all_goals go_wp2
     all_goals go_ret
     all_goals exact vW he rfl (ku.put (((Below.refl _ w3).drew).alloc (avt _) _) hown hrep hx hown5 gI nV nX)
    |true=>
     have he:Hid _:=X5 (k:=k) (q:=q) hop.out abA hb1;have hcnt:=xM k (f.drop 1) q;have hrl:=Md k (f.drop 1) q;have hwl:=xO k (f.drop 1) q Dz;have hlp:=Xe hop.out abA;have nd:=ih.out B P wr Xf vn (f.drop 1) q abn Zr GI hR.gl hR.cells hR.words hR.nodes Dz abn;generalize Sp.rd k (f.drop 1) q=z at he nd hcnt hwl hrl hb1;obtain⟨b1,f2,q2⟩:=z;dsimp only at he nd hcnt hwl hrl hb1;subst hb1;have nd2:=λ(w:World)(JJ vn':Value)(hr:FB B P W1.heap.size W vn.ownBlock w JJ vn' f2 q2)=>ih.out B P w JJ vn' f2 q2 abn Zr GI hr.gl hr.cells hr.words hr.nodes hwl abn;have hcnt2:=xM k f2 q2;generalize Sp.rd k f2 q2=z2 at he nd2 hcnt2;obtain⟨b2,f3,q3⟩:=z2;dsimp only at he nd2 hcnt2
     go_wp2_with (first
      |(go_at_call 154;refine nd.mono ?_;rintro e w2 ⟨rfl,hd⟩;obtain⟨⟨Oe,vn2,hR2⟩,GL⟩:=hR.read hd;obtain⟨a2,cap2,Td⟩:=hR2.nodes.form;subst Td;have hrow2:=GL.trans hrow;have p2:w2.cell? ⟨P,1,none⟩=some (.slice a2 q2.length cap2):=aQ hR2.cells 1;have y1:=dO hrow2 1;have x1:w2.cell? ⟨W1.heap.size,1,none⟩=some (.int .i64 0):=aQ hrow2 1;clear nd)
      |(have ku:=hR2.zk 1 (.int .i64 ((q2.length:Int)-1));have hrow3:(w2.setCell ⟨W1.heap.size,1,none⟩ (.int .i64 ((q2.length:Int)-1))).heap[W1.heap.size]? =some (.cells (fE 7 ((q2.length:Int)-1) 0 [] 0 0 []) 168 (0,0)):=gJ hrow2 1 _;go_at_call 154;refine(nd2 _ _ _ ku).mono ?_;rintro e w4 ⟨rfl,hd4⟩;obtain⟨⟨vf4,vn4,Mc⟩,hN4⟩:=ku.read hd4;obtain⟨a4,cap4,aoI⟩:=Mc.nodes.form;subst aoI;have hrow4:=hN4.trans hrow3;have p4:w4.cell? ⟨P,1,none⟩=some (.slice a4 q3.length cap4):=aQ Mc.cells 1;have y2:=dO hrow4 2;have x2:w4.cell? ⟨W1.heap.size,2,none⟩=some (.int .i64 0):=aQ hrow4 2;clear nd2 p2 x1 y1))
     have Me:=Mc.zk 2 (.int .i64 ((q3.length:Int)-1));have qh:(w4.setCell ⟨W1.heap.size,2,none⟩ (.int .i64 ((q3.length:Int)-1))).heap[W1.heap.size]? =some (.cells (fE 7 ((q2.length:Int)-1) ((q3.length:Int)-1) [] 0 0 []) 168 (0,0)):=gJ hrow4 2 _;have hx:=rJ (op:=7) (l:=((q2.length:Int)-1)) (r:=(q3.length:Int)-1) ⟨abA,abA⟩ ⟨abn,abn⟩ ⟨abn,abn⟩ m0 n0 n0 m0;generalize w4.setCell ⟨W1.heap.size,2,none⟩ (.int .i64 ((q3.length:Int)-1))=CB at Me qh ⊢;clear x2 y2 p4;obtain⟨xs,hown,rY,hrep⟩:=Me.nodes;have c0:CB.cell? ⟨W1.heap.size,0,none⟩=some (.int .i64 (7)):=aQ qh 0;have c1:CB.cell? ⟨W1.heap.size,1,none⟩=some (.int .i64 ((q2.length:Int)-1)):=aQ qh 1;have c2:CB.cell? ⟨W1.heap.size,2,none⟩=some (.int .i64 ((q3.length:Int)-1)):=aQ qh 2;have c3:CB.cell? ⟨W1.heap.size,3,none⟩=some (.string ⟨([]:List UInt8).toArray⟩):=aQ qh 3;have c4:CB.cell? ⟨W1.heap.size,4,none⟩=some (.int .i64 (0)):=aQ qh 4;have c5:CB.cell? ⟨W1.heap.size,5,none⟩=some (.int .i64 (0)):=aQ qh 5;have c6:CB.cell? ⟨W1.heap.size,6,none⟩=some (.string ⟨([]:List UInt8).toArray⟩):=aQ qh 6;have p1:CB.cell? ⟨P,1,none⟩=some (.slice a4 q3.length cap4):=aQ Me.cells 1;have zP:=dO Me.cells 1;have uM:P<CB.heap.size:=(avw.1 Me.cells).1;have hBr:B<=CB.heap.size:=abn;have nD:(q3.length+1)*72<=140737488355328:=abn
     go_region_law (refine qc (7) ((q2.length:Int)-1) ((q3.length:Int)-1) ([]) (0) (0) ([]) Me nD rfl rfl hown rY ac7 ac7 ?_;intro g cap w5 hown5 gI nV nX nP k5 z5)
     all_goals go_wp2
     all_goals go_ret
     all_goals exact vW he rfl (Me.put (((Below.refl _ CB).drew).alloc (avt _) _) hown hrep hx hown5 gI nV nX)
theorem afW:∀k:Nat,Reads k
 |0=>λ_ _ _ _ _ _ _ h=>absurd h (awv _)
 |k+1=>anu k (afW k)
end Go.Proofs.Tryz
