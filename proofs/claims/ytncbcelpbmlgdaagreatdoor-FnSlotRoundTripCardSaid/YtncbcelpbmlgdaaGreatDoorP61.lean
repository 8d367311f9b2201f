import Derived.Test.YtncbcelpbmlgdaaGreatDoorP5
import Derived.Test.YtncbcelpbmlgdaaGreatDoorSp
import Derived.Deep.AppendLies
import Derived.Deep.RegionLaw
import Derived.BigRegion
namespace Go.Proofs.Tryz
open Go Go.Fw Go.IntWalk Sp
theorem GZ:OK nX.e:=by
 refine PA.ok mixed (aB [nO.e,kL.e] ⟨yA,sQ,trivial⟩) H0 aa1 (show∀v0 v1 v2,nX.goal (UQ v0 v1 v2) ((v0,v1,v2,()),())from ?_);intro v0 v1 v2 hin hp;dsimp only[nX]at hp ⊢;refine⟨trivial,?_⟩;unfold bg;dsimp only;cases !bI v0 v1 v2 with
 |true=>exact rfl
 |false=>
 cases v0==1 with
 |true=>exact⟨trivial,rfl⟩
 |false=>cases v0==2<;>exact rfl
theorem A7:OK lq.e:=by
 refine PA.ok mixed (aB [kZ.e,kK.e] ⟨rV,sO,trivial⟩) H0 aa1 (show∀v0 v1 v2,lq.goal (UR v0 v1 v2) ((v0,v1,v2,()),())from ?_);intro v0 v1 v2 hin hp;dsimp only[lq]at hp ⊢;refine⟨trivial,?_⟩;unfold bg;dsimp only;cases !bI v0 v1 v2 with
 |true=>exact rfl
 |false=>
 cases v0==1 with
 |true=>exact⟨trivial,rfl⟩
 |false=>cases v0==2<;>exact rfl
theorem aej{n:Int}(h:0<=n):bI 1 n []=decide (n<=999):=by unfold bI;simp[h]
theorem aek(s:List UInt8):bI 2 0 s=aS s:=by unfold bI;simp
theorem ale:aW [45]=false:=abV
theorem aax:OK Bo.e:=by refine PA.ok mixed (aB [] trivial) H0 aa1 (show∀n,Bo.goal (aay n) (n,())from ?_);intro n hin hp;dsimp only[Bo]at hp ⊢;exact rfl
theorem IV:OK lZ.e:=by
 refine PA.ok mixed (aB [kL.e,wH.e,Bo.e,(uF,.pure qK)] ⟨sQ,UI,aax,⟨yt,BN⟩,trivial⟩) H0 aa1 (show∀s,lZ.goal (WQ s) (s,())from ?_);intro s hin hp;dsimp only[lZ]at hp ⊢;have h0:=(gX.1 (Aj s)).1;refine⟨trivial,?_⟩;unfold aU;cases hk:aW s with
 |true=>
  refine⟨trivial,trivial,?_⟩;dsimp only;rw[aej h0];cases decide (Sp.parseNum s<=999)<;>exact rfl
 |false=>
  cases hs:s==[45]with
  |true=>exact⟨trivial,rfl⟩
  |false=>refine⟨trivial,trivial,?_⟩;dsimp only;rw[aek];cases aS s<;>exact rfl
theorem IL:OK kH.e:=by
 refine PA.ok mixed (aB [lq.e,kK.e,oI.e,jL.e,qj.e] ⟨A7,sO,zU,qf,Di,trivial⟩) H0 aa1 (show∀s,kH.goal (WR s) (s,())from ?_);intro s hin hp;dsimp only[kH]at hp ⊢;have h0:=(gX.1 (Aj s)).1;unfold aU;refine af (λh=>?_) λh=>?_
 .have e:s=[45]:=au5.1 h;subst e;rw[ale,h];rfl
 rw[h];refine⟨trivial,trivial,?_⟩;cases hk:aW s with
 |true=>
  refine⟨trivial,trivial,?_⟩;dsimp only;rw[aej h0];cases h9:decide (Sp.parseNum s<=999)with
  |false=>exact rfl
  |true=>
   refine⟨trivial,?_⟩;have e:bg (1,Sp.parseNum s,[],())=s:=by unfold bg;dsimp only;rw[aej h0,h9];exact(jE hk).1
   rw[e,awk];exact rfl
 |false=>
  refine⟨trivial,?_⟩;dsimp only;rw[aek];cases hv:aS s with
  |false=>exact rfl
  |true=>
   refine⟨trivial,?_⟩;have e:bg (2,0,s,())=s:=by unfold bg;dsimp only;rw[aek,hv];rfl
   rw[e,awk];exact rfl
theorem amK{op:Int}(h:(decide (1<=op)&&decide (op<=9))=false):fP op=[63]:=by rw[awG,avi,avi]at h;unfold fP;rw[auD.2 (show op≠1 from aaV),auD.2 (show op≠2 from aaV),auD.2 (show op≠3 from aaV),auD.2 (show op≠4 from aaV),auD.2 (show op≠5 from aaV),auD.2 (show op≠6 from aaV),auD.2 (show op≠7 from aaV),auD.2 (show op≠8 from aaV),auD.2 (show op≠9 from aaV)];rfl
theorem aoR{op:Int}(h:(decide (1<=op)&&decide (op<=9))=true):op=1\/op=2\/op=3\/op=4\/op=5\/op=6\/op=7\/op=8\/op=9:=by rw[auC,auP,auP]at h;omega
theorem Jp:OK lC.e:=by
 refine PA.ok mixed (aB [ji.e] ⟨kE,trivial⟩) H0 aa1 (show∀op,lC.goal (Yu op) (op,())from ?_);intro op hin hp;dsimp only[lC]at hp ⊢;refine⟨trivial,af (λh=>?_) λh=>?_⟩
 .exact congrArg (·,()) (amK (iZ h)).symm
 .rcases aoR (fB h)with e|e|e|e|e|e|e|e|e<;>subst e<;>exact⟨abV,rfl⟩
theorem Jq:OK nP.e:=by
 refine PA.ok mixed (aB [iU.e] ⟨jX,trivial⟩) H0 aa1 (show∀op,nP.goal (Yv op) (op,())from ?_);intro op hin hp;dsimp only[nP]at hp ⊢;refine⟨trivial,af (λh=>?_) λh=>?_⟩
 .exact congrArg (·,()) (amK (iZ h)).symm
 .rcases aoR (fB h)with e|e|e|e|e|e|e|e|e<;>subst e<;>exact⟨abV,rfl⟩
theorem bn{n:Nat}(h:n<=100000000000):n<=maxLen:=acz
theorem qx{n:Nat}(h:n<=4000000000):n<=big:=amw
theorem NP{n:Nat}(h:Nat.ble n 10=true):n<=big:=qx (auK (avI h) abV)
theorem Gl{n:Nat}(h:Nat.ble n 10=true):n<=140737488355328:=auK (avI h) abV
theorem MK[lJ](OG:fD prog G rq vC):fD prog G DN BF:=by
 refine ML (aB [(yQ,.pure um),(rq,.pure vC),nX.e,lC.e] ⟨⟨FV,KX⟩,⟨OG,L6⟩,GZ,Jp,trivial⟩) ?_;intro q i hin hp;obtain⟨⟨ho,h0,hl⟩,hf⟩:=hp;have hT:(Lib.join (bV (i.toNat+1) q i) [32]).length<=140737488355328:=auK (ah3 ho h0 hl) abV;have hlen:=(Sp.gQ ho).2;have hn:=(jJ ho (show i.toNat<q.length from aaV)).1;refine⟨⟨h0,hl⟩,trivial,?_⟩;have eN:q.getD i.toNat (0,0,0,[],0,0,[],())=Sp.nodeAt q i.toNat:=rfl;dsimp only;rw[eN];rcases NQ hn with c|c|c
 .have e:=ajU (q:=q) (i:=i) i.toNat c;rw[e]at hT ⊢;generalize Sp.nodeAt q i.toNat=n at c hT;obtain⟨op,l,r,s,v⟩:=n;dsimp only at c hT ⊢;rcases c with rfl|rfl|rfl|rfl|rfl|rfl
  .exact iy ((false,()),()) ⟨rfl,rfl⟩ ⟨⟨Gl rfl,hT⟩,rfl⟩
  .exact iy ((true,()),()) ⟨rfl,rfl⟩ ⟨NP rfl,⟨Gl rfl,hT⟩,rfl⟩
  .exact iy ((false,()),()) ⟨rfl,rfl⟩ ⟨trivial,NP rfl,⟨Gl rfl,hT⟩,rfl⟩
  .exact iy ((false,()),()) ⟨rfl,rfl⟩ ⟨trivial,NP rfl,⟨Gl rfl,hT⟩,rfl⟩
  .exact iy ((true,()),()) ⟨rfl,rfl⟩ ⟨NP rfl,⟨Gl rfl,hT⟩,rfl⟩
  .exact iy ((true,()),()) ⟨rfl,rfl⟩ ⟨NP rfl,⟨Gl rfl,hT⟩,rfl⟩
 .obtain⟨e,k0,k1⟩:=amL ho h0 hl c;rw[e]at hT ⊢;have e2:=aco (fP 5) (J5 (Sp.nodeAt q i.toNat).2.1.toNat q (Sp.nodeAt q i.toNat).2.1);rw[← e2]at hT ⊢;have hk:(ax q=true/\0<=(Sp.nodeAt q i.toNat).2.1/\(Sp.nodeAt q i.toNat).2.1<(q.length:Int))/\(Sp.nodeAt q i.toNat).2.1.toNat<iR:=⟨⟨ho,k0,aaV⟩,aaV⟩;rw[c];exact iy ((false,()),()) ⟨rfl,rfl⟩ ⟨hk,NP rfl,⟨Gl rfl,hT⟩,rfl⟩
 .obtain⟨e,⟨k0,k1⟩,m0,m1⟩:=amM ho h0 hl c;rw[e]at hT ⊢;have e2:=acp (fP (Sp.nodeAt q i.toNat).1) (J5 (Sp.nodeAt q i.toNat).2.1.toNat q (Sp.nodeAt q i.toNat).2.1) (J5 (Sp.nodeAt q i.toNat).2.2.1.toNat q (Sp.nodeAt q i.toNat).2.2.1);rw[← e2]at hT ⊢;have hk:(ax q=true/\0<=(Sp.nodeAt q i.toNat).2.1/\(Sp.nodeAt q i.toNat).2.1<(q.length:Int))/\(Sp.nodeAt q i.toNat).2.1.toNat<iR:=⟨⟨ho,k0,aaV⟩,aaV⟩;have hm:(ax q=true/\0<=(Sp.nodeAt q i.toNat).2.2.1/\(Sp.nodeAt q i.toNat).2.2.1<(q.length:Int))/\(Sp.nodeAt q i.toNat).2.2.1.toNat<iR:=⟨⟨ho,m0,aaV⟩,aaV⟩;rcases c with c|c<;>rw[c]at hT ⊢
  .exact iy ((false,()),()) ⟨rfl,rfl⟩ ⟨hk,hm,NP rfl,⟨Gl rfl,hT⟩,rfl⟩
  .exact iy ((false,()),()) ⟨rfl,rfl⟩ ⟨hk,hm,NP rfl,⟨Gl rfl,hT⟩,rfl⟩
theorem Yw:fD prog G Ey Ir:=
 al7 (λn=>@EJ ⟨n⟩) (λn=>@Dp ⟨n⟩) (by rintro⟨q,at',⟨⟩⟩ h;exact avE _ h.2) aqs (by rintro⟨q,at',⟨⟩⟩ h;exact⟨_,h,awl _⟩) aqs λn h=>@MK ⟨n⟩ h
theorem Qk[lJ](SE:fD prog G ve yN):fD prog G FZ Dt:=by
 refine Ql (aB [(ve,.pure yN),lq.e,nP.e] ⟨⟨SE,PV⟩,A7,Jq,trivial⟩) ?_;intro q i hin hp;obtain⟨⟨ho,h0,hl⟩,hf⟩:=hp;have hT:=ah3 ho h0 hl;have hlen:=(Sp.gQ ho).2;have hn:=(jJ ho (show i.toNat<q.length from aaV)).1;refine⟨⟨h0,hl⟩,trivial,?_⟩;have eN:q.getD i.toNat (0,0,0,[],0,0,[],())=Sp.nodeAt q i.toNat:=rfl;dsimp only;rw[eN];rcases NQ hn with c|c|c
 .have e:=ajU (q:=q) (i:=i) i.toNat c;rw[e]at hT ⊢;generalize Sp.nodeAt q i.toNat=n at c hT;obtain⟨op,l,r,s,v⟩:=n;dsimp only at c hT ⊢;rcases c with rfl|rfl|rfl|rfl|rfl|rfl
  .exact iy ((false,()),()) ⟨rfl,rfl⟩ rfl
  .have e2:Lib.join (jB (2,l,r,s,v)) [32]=fP 2++[32]++s:=SC _ _;rw[e2]at hT ⊢;simp only[auB]at hT;exact iy ((true,()),()) ⟨rfl,rfl⟩ ⟨bn aaV,bn ar9,rfl⟩
  .have e2:Lib.join (jB (3,l,r,s,v)) [32]=fP 3++[32]++s++[32]++bg v:=acj _ _ _;rw[e2]at hT ⊢;simp only[auB]at hT;exact iy ((false,()),()) ⟨rfl,rfl⟩ ⟨bn aaV,bn ahE,bn ahE,trivial,bn ahE,rfl⟩
  .have e2:Lib.join (jB (4,l,r,s,v)) [32]=fP 4++[32]++s++[32]++bg v:=acj _ _ _;rw[e2]at hT ⊢;simp only[auB]at hT;exact iy ((false,()),()) ⟨rfl,rfl⟩ ⟨bn aaV,bn ahE,bn ahE,trivial,bn ahE,rfl⟩
  .have e2:Lib.join (jB (8,l,r,s,v)) [32]=fP 8++[32]++s:=SC _ _;rw[e2]at hT ⊢;simp only[auB]at hT;exact iy ((true,()),()) ⟨rfl,rfl⟩ ⟨bn aaV,bn ar9,rfl⟩
  .have e2:Lib.join (jB (9,l,r,s,v)) [32]=fP 9++[32]++s:=SC _ _;rw[e2]at hT ⊢;simp only[auB]at hT;exact iy ((true,()),()) ⟨rfl,rfl⟩ ⟨bn aaV,bn ar9,rfl⟩
 .obtain⟨e,k0,k1⟩:=amL ho h0 hl c;rw[e]at hT ⊢;have e2:=aco (fP 5) (J5 (Sp.nodeAt q i.toNat).2.1.toNat q (Sp.nodeAt q i.toNat).2.1);rw[SC]at e2;rw[← e2]at hT ⊢;simp only[auB]at hT;have hk:(ax q=true/\0<=(Sp.nodeAt q i.toNat).2.1/\(Sp.nodeAt q i.toNat).2.1<(q.length:Int))/\(Sp.nodeAt q i.toNat).2.1.toNat<iR:=⟨⟨ho,k0,aaV⟩,aaV⟩;rw[c];exact iy ((false,()),()) ⟨rfl,rfl⟩ ⟨bn aaV,hk,bn ahE,rfl⟩
 .obtain⟨e,⟨k0,k1⟩,m0,m1⟩:=amM ho h0 hl c;rw[e]at hT ⊢;have e2:=acp (fP (Sp.nodeAt q i.toNat).1) (J5 (Sp.nodeAt q i.toNat).2.1.toNat q (Sp.nodeAt q i.toNat).2.1) (J5 (Sp.nodeAt q i.toNat).2.2.1.toNat q (Sp.nodeAt q i.toNat).2.2.1);rw[acj]at e2;rw[← e2]at hT ⊢;simp only[auB]at hT;have hk:(ax q=true/\0<=(Sp.nodeAt q i.toNat).2.1/\(Sp.nodeAt q i.toNat).2.1<(q.length:Int))/\(Sp.nodeAt q i.toNat).2.1.toNat<iR:=⟨⟨ho,k0,aaV⟩,aaV⟩;have hm:(ax q=true/\0<=(Sp.nodeAt q i.toNat).2.2.1/\(Sp.nodeAt q i.toNat).2.2.1<(q.length:Int))/\(Sp.nodeAt q i.toNat).2.2.1.toNat<iR:=⟨⟨ho,m0,aaV⟩,aaV⟩;rcases c with c|c<;>rw[c]at hT ⊢
  .exact iy ((false,()),()) ⟨rfl,rfl⟩ ⟨bn aaV,hk,bn ahE,bn ahE,hm,bn ahE,rfl⟩
  .exact iy ((false,()),()) ⟨rfl,rfl⟩ ⟨bn aaV,hk,bn ahE,bn ahE,hm,bn ahE,rfl⟩
theorem acr:fD prog G Hl Kv:=
 al7 (λn=>@GH ⟨n⟩) (λn=>@Fq ⟨n⟩) (by rintro⟨q,at',⟨⟩⟩ h;exact avE _ h.2) aqs (by rintro⟨q,at',⟨⟩⟩ h;exact⟨_,h,awl _⟩) aqs λn h=>@Qk ⟨n⟩ h
theorem ah4{q:List ak}(h:ax q=true):bV (((q.length:Int)-1).toNat+1) q ((q.length:Int)-1)=bV 9 q ((q.length:Int)-1):=by have hl:=Sp.gQ h;exact BQ h _ _ _ aaV aaV aaV aaV
theorem UU:OK wI.e:=by
 refine PA.ok mixed (aB [(Ey,.pure Ir),jb.e] ⟨⟨Yw,VW⟩,sW,trivial⟩) H0 aa1 (show∀q,wI.goal (UW q) (q,())from ?_);intro q hin hp;dsimp only[wI]at hp ⊢;have hp:q.length<=2000000:=hp;refine⟨hp,?_⟩;unfold Sp.textOf;cases h:ax q with
 |false=>exact rfl
 |true=>have hl:=Sp.gQ h;have hw:IntKind.i64.wrap ((q.length:Int)-1)=(q.length:Int)-1:=eF _ aaV;rw[hw];dsimp only;rw[ah4 h];exact⟨⟨rfl,aaV,aaV⟩,rfl⟩
theorem G5:OK qL.e:=by
 refine PA.ok mixed (aB [(Hl,.pure Kv),mV.e] ⟨⟨acr,ZO⟩,zY,trivial⟩) H0 aa1 (show∀q,qL.goal (UX q) (q,())from ?_);intro q hin hp;dsimp only[qL]at hp ⊢;have hp:q.length<=2000000:=hp;refine⟨hp,?_⟩;unfold Sp.textOf;cases h:ax q with
 |false=>exact rfl
 |true=>have hl:=Sp.gQ h;have hw:IntKind.i64.wrap ((q.length:Int)-1)=(q.length:Int)-1:=eF _ aaV;rw[hw];dsimp only;rw[ah4 h];exact⟨⟨rfl,aaV,aaV⟩,rfl⟩
end Go.Proofs.Tryz
namespace Go.Proofs.Tryz
open Go Go.Fw Go.IntWalk Sp
theorem wrap_in{z:Int}(h:-1000000000000<=z/\z<=1000000000000):IntKind.i64.wrap z=z:=eF z aaV
theorem Qm[lJ](SI:jl prog G vg yP):jl prog G F5 Dv:=by
 refine Qn (aB [(vg,.eff (Dw oN) yP),iU.e,kH.e,nP.e,lQ.e] ⟨⟨SI,PW⟩,jX,IL,Jq,Gg,trivial⟩) (λ_ _=>⟨((_,_,()),()),⟨rfl,rfl⟩⟩) ?_;intro p at' q deep hin hp;obtain⟨⟨hpl,ha,hb,hd0,hd1,hws,hq⟩,hfuel⟩:=hp;have hp3:(1:Nat)<=2 ^ (10-deep).toNat:=axh;refine⟨λy=>∃n:Nat,y=((Gn (Sp.wordAt p at') n,(n:Int)+1,()),())/\n<=9,λy=>(10-y.1.2.1).toNat,⟨0,rfl,auZ _⟩,?_⟩;rintro _ ⟨n,rfl,hn⟩;dsimp only;refine af (λh=>⟨ha,trivial,?_⟩) λh=>?_
 .have h:=fE h;have hw:IntKind.i64.wrap ((n:Int)+1+1)=((n+1:Nat):Int)+1:=(wrap_in aaV).trans aaV;rw[hw];have e:Gn (Sp.wordAt p at') (n+1)=bif Sp.wordAt p at'==fP ((n:Int)+1)then(n:Int)+1 else Gn (Sp.wordAt p at') n:=rfl
  refine af (λh2=>⟨rfl,⟨n+1,?_,aaV⟩,afb⟩) λh2=>⟨rfl,⟨n+1,?_,aaV⟩,afb⟩
  .rw[e,h2];rfl
  .rw[e,h2];rfl
 have hn9:n=9:=aoH;subst hn9;rw[acv];have hop:=acw (Sp.wordAt p at');have hw0:Sp.wordAt p at'=Sp.wordAt (p.drop at'.toNat) 0:=by rw[Sp.tJ p at' 0 ha (avt _),awP]
 have e1:IntKind.i64.wrap (at'+1)=at'+1:=wrap_in aaV;have e2:IntKind.i64.wrap (at'+2)=at'+2:=wrap_in aaV;have ed:IntKind.i64.wrap (deep+1)=deep+1:=wrap_in aaV;have hw1:Sp.wordAt p (at'+1)=Sp.wordAt (p.drop at'.toNat) 1:=(Sp.tJ p at' 1 ha abV).symm;have hw2:Sp.wordAt p (at'+2)=Sp.wordAt (p.drop at'.toNat) 2:=(Sp.tJ p at' 2 ha abV).symm;have hlen2:(Sp.wordAt p (at'+2)).length<=1048576:=by
  by_cases hh:at'+2<(p.length:Int)
  .rw[pK hh];exact auK (hws _ (getD_mem aaV)) abV
  .rw[pO aaV];exact auZ _
 rw[e1,e2,ed];have hbig:∀k:Nat,k<=1000->k<=big:=λk hk=>qx aaV;rw[hw1];rw[hw2]at hlen2 ⊢;rw[hw0]at hop ⊢;have as1:(p.drop at'.toNat).drop 1=p.drop (at'+1).toNat:=by rw[awc,show at'.toNat+1=(at'+1).toNat from aaV]
 refine⟨λy=>y=(((dw (Sp.wordAt (p.drop at'.toNat) 0)==0||(decide (deep>9)||decide ((q.length:Int)>9)),()),())),?_,?_⟩
 .cases dw (Sp.wordAt (p.drop at'.toNat) 0)==0 with
  |true=>exact⟨rfl,rfl⟩
  |false=>cases decide (deep>9)<;>exact⟨rfl,rfl⟩
 rintro _ rfl;dsimp only;by_cases arE:deep>9
 .have hd10:deep=10:=aaV;subst hd10;rw[auS (show(10:Int)>9 from abV),Bool.true_or,Bool.or_true];exact⟨rfl,rfl⟩
 rw[auU arE,axo];have hs:(10-deep).toNat=(10-(deep+1)).toNat+1:=aaV;have aqu:2 ^ (10-deep).toNat=2*2 ^ (10-(deep+1)).toNat:=by rw[hs,Nat.pow_succ,axf]
 have hp4:(1:Nat)<=2 ^ (10-(deep+1)).toNat:=axh;rw[aqu]at hb;have hfu:(10-(deep+1)).toNat<iR:=aaV;rw[hs,Sp.rs,as1];have hrb:=λw s=>NS (10-(deep+1)).toNat w s;have hdd:∀k:Int,0<=k->(p.drop at'.toNat).drop (1+k).toNat=p.drop (at'+(1+k)).toNat:=λk hk=>by rw[awc,show at'.toNat+(1+k).toNat=(at'+(1+k)).toNat from aaV]
 rw[hdd _ (hrb (p.drop (at'+1).toNat) q).2.1];have hfl:(10-(deep+1)).toNat<=10:=aaV;have hpc:((3*2 ^ (10-(deep+1)).toNat:Nat):Int)=3*2 ^ (10-(deep+1)).toNat:=by push_cast;rfl
 generalize (10-(deep+1)).toNat=d at hrb hb hfu hp4 hfl hpc ⊢;generalize hv:Sp.wordAt (p.drop at'.toNat) 0=w0;rw[hv]at hop;generalize dw w0=op at hop ⊢;refine af (λh0=>?_) λh0=>?_
 .rw[h0];exact⟨rfl,rfl⟩
 rw[h0];have ny:q.length<=9:=by have:=fV (avR.1 h0).2;omega
 have ho0:op≠0:=auD.1 (avR.1 h0).1;clear h0 aqu;have hdp:0<=deep+1/\deep+1<=10:=aaV;have aqv:p.length<=1000/\0<=at'+1/\(at'+1).toNat+3*2 ^ d<=1000000/\0<=deep+1/\deep+1<=10/\(∀x,x∈p->List.length x.1<=1000)/\q.length<=100:=⟨hpl,aaV,aaV,hdp.1,hdp.2,hws,aaV⟩;have ha1:0<=at'+1:=aaV;have ha2:0<=at'+2:=aaV;clear hin;rcases(show op=1\/op=2\/op=3\/op=4\/(op=5\/op=6\/op=7)\/op=8\/op=9 from aaV)with rfl|rfl|rfl|rfl|h5|rfl|rfl
 .exact⟨λy=>y=((false,()),()),⟨rfl,rfl⟩,by rintro _ rfl;exact⟨λy=>y=((false,()),()),⟨rfl,rfl⟩,by rintro _ rfl;exact⟨trivial,hbig _ alT,rfl,rfl⟩⟩⟩
 .exact⟨λy=>y=((true,()),()),⟨rfl,rfl⟩,by rintro _ rfl;exact⟨ha1,hbig _ alT,rfl,rfl⟩⟩
 .exact⟨λy=>y=((false,()),()),⟨rfl,rfl⟩,by rintro _ rfl;exact⟨λy=>y=((true,()),()),⟨rfl,rfl⟩,by rintro _ rfl;exact⟨ha1,ha2,hlen2,hbig _ alT,rfl,rfl⟩⟩⟩
 .exact⟨λy=>y=((false,()),()),⟨rfl,rfl⟩,by rintro _ rfl;exact⟨λy=>y=((true,()),()),⟨rfl,rfl⟩,by rintro _ rfl;exact⟨ha1,ha2,hlen2,hbig _ alT,rfl,rfl⟩⟩⟩
 .have g2:(op==2)=false:=auD.2 aaV;have g3:(op==3)=false:=auD.2 aaV;have g4:(op==4)=false:=auD.2 aaV;have g8:(op==8)=false:=auD.2 aaV;have g9:(op==9)=false:=auD.2 aaV;have g57:(decide (5<=op)&&decide (op<=7))=true:=by rw[auS aaV,auS aaV];rfl
  have as2:(op==5||(op==6||op==7))=true:=by rcases h5 with rfl|rfl|rfl<;>rfl
  rw[g2,g3,g4,g8,g9,g57,as2];refine⟨λy=>y=((false,()),()),⟨rfl,rfl⟩,?_⟩;rintro _ rfl;refine⟨λy=>y=((false,()),()),⟨rfl,rfl⟩,?_⟩;rintro _ rfl;refine⟨trivial,⟨aqv,hfu⟩,?_⟩;rintro⟨⟨r,k,⟨⟩⟩,⟨⟩⟩ ⟨er,ek⟩;have er:r=(Sp.rs d (p.drop (at'+1).toNat) q).1:=er;have ek:k=(Sp.rs d (p.drop (at'+1).toNat) q).2:=ek;have hb1:=hrb (p.drop (at'+1).toNat) q;rw[← er,← ek]at hb1 ⊢;clear er ek;dsimp only;have hrl:r.length<=20:=by have:=hb1.1;omega
  have hk3:k<3*2 ^ d:=hb1.2.2;have hk1:IntKind.i64.wrap (1+k)=1+k:=wrap_in aaV;have hk2:IntKind.i64.wrap (at'+(1+k))=at'+(1+k):=wrap_in aaV;have as3:IntKind.i64.wrap ((r.length:Int)-1)=(r.length:Int)-1:=wrap_in aaV;rw[hk1,hk2,as3];refine af (λh=>?_) λh=>?_
  .rw[h];exact⟨rfl,rfl⟩
  rw[h];have hc2:p.length<=1000/\0<=at'+(1+k)/\(at'+(1+k)).toNat+3*2 ^ d<=1000000/\0<=deep+1/\deep+1<=10/\(∀x,x∈p->List.length x.1<=1000)/\r.length<=100:=⟨hpl,aaV,aaV,hdp.1,hdp.2,hws,aaV⟩;by_cases h55:op=5
  .subst h55;exact⟨hbig _ alT,rfl,rfl⟩
  have gn:(op !=5)=true:=bne_iff_ne.2 h55;have g5:(op==5)=false:=auD.2 h55;rw[gn,g5];refine⟨⟨hc2,hfu⟩,?_⟩;rintro⟨⟨s,m,⟨⟩⟩,⟨⟩⟩ ⟨es,em⟩;have es:s=(Sp.rs d (p.drop (at'+(1+k)).toNat) r).1:=es;have em:m=(Sp.rs d (p.drop (at'+(1+k)).toNat) r).2:=em;have hb2:=hrb (p.drop (at'+(1+k)).toNat) r;rw[← es,← em]at hb2 ⊢;clear es em;dsimp only;have hsl:s.length<=20:=by have:=hb2.1;omega
  have hm3:m<3*2 ^ d:=hb2.2.2;have hm1:IntKind.i64.wrap (1+k+m)=1+k+m:=wrap_in aaV;have hsl1:IntKind.i64.wrap ((s.length:Int)-1)=(s.length:Int)-1:=wrap_in aaV;rw[hm1,hsl1];refine af (λh2=>?_) λh2=>?_
  .rw[h2];exact⟨rfl,rfl⟩
  rw[h2];exact⟨hbig _ alT,rfl,rfl⟩
 .exact⟨λy=>y=((true,()),()),⟨rfl,rfl⟩,by rintro _ rfl;exact⟨ha1,hbig _ alT,rfl,rfl⟩⟩
 .exact⟨λy=>y=((true,()),()),⟨rfl,rfl⟩,by rintro _ rfl;exact⟨ha1,hbig _ alT,rfl,rfl⟩⟩
theorem acA:jl prog G Ho Ky:=
 ajH (λn=>@GI ⟨n⟩) (λn=>@sF ⟨n⟩) (by rintro⟨p,at',q,deep,⟨⟩⟩ h;exact avE _ h.2) (by rintro _ ⟨p,at',q,deep,⟨⟩⟩;rfl) (by rintro⟨p,at',q,deep,⟨⟩⟩ h;exact⟨_,h,awl _⟩) (by rintro _ ⟨p,at',q,deep,⟨⟩⟩;rfl) λn h=>@Qm ⟨n⟩ h
end Go.Proofs.Tryz
namespace Go.Proofs.Tryz
open Go Go.Fw Go.IntWalk Sp
theorem ajg(s:List UInt8)(h:jv s=true):gq s=((Sp.rs 10 (Sp.wordsOf s) []).2==((Sp.wordsOf s).length:Int)&&(!(Sp.textOf (Sp.rs 10 (Sp.wordsOf s) []).1==[])&&Sp.textOf (Sp.rs 10 (Sp.wordsOf s) []).1==gm (Sp.wordsOf s))):=by rw[← acB,XQ,h,awI]
theorem NT{s:List UInt8}(h:gq s=false):(([]:List ak),false,())=(fJ s,gq s,()):=by unfold fJ;rw[h];rfl
theorem Wn:OK o7.e:=by
 refine PA.ok mixed (aB [ql.e,qL.e,(Ho,.eff (Dw Bl) Ky),lg.e] ⟨NG,G5,⟨acA,ZP⟩,GV,trivial⟩) Yx aa1 (show∀s,o7.goal (WV s) (s,())from ?_);intro s hin hp;dsimp only[o7]at hp ⊢;have hp:s.length<=1048576:=hp;refine⟨hp,af (λh=>?_) λh=>?_⟩
 .refine NT ?_;rw[← acB,XQ,iZ h];rfl
 have hok:=fB h;obtain⟨hw,hl,hj,_,_⟩:=Y6 hok;have hpp:=ajg s hok;have hws:∀x∈Sp.wordsOf s,x.1.length<=1000:=λx hx=>auK (RS x hx) (auK (qG.1 hok).1 abV);rw[hw];refine⟨⟨hl,abV,abV,abV,abV,hws,abV⟩,?_⟩;rintro⟨⟨r,k,⟨⟩⟩,⟨⟩⟩ ⟨er,ek⟩;have er:r=(Sp.rs 10 (Sp.wordsOf s) []).1:=er;have ek:k=(Sp.rs 10 (Sp.wordsOf s) []).2:=ek;have hb:=(NS 10 (Sp.wordsOf s) []).1;have hsame:=λhq:gq s=true=>SK hq;rw[← er]at hb hpp hsame;rw[← ek]at hpp;clear er ek;dsimp only;refine⟨auK hb abV,af (λh1=>NT ?_) λh1=>af (λh2=>NT ?_) λh2=>⟨⟨hl,hj⟩,af (λh3=>NT ?_) λh3=>?_⟩⟩
 .have h1:(k==((Sp.wordsOf s).length:Int))=false:=iZ h1;rw[hpp,h1];rfl
 .rw[hpp,h2,Bool.not_true,awx,avP]
 .rw[hpp,iZ h3,avP,avP]
 .have h1:(k==((Sp.wordsOf s).length:Int))=true:=fB h1;have hq:gq s=true:=by rw[hpp,h1,h2,fB h3];rfl
  obtain⟨q1,q2,_⟩:=hsame hq;rw[hq,q2,← q1]
theorem WW(a b:List (List UInt8)):Sp.ls (a++b)=Sp.ls a++Sp.ls b:=avA
theorem WX:OK xZ.e:=by
 refine PA.ok mixed (aB [(yQ,.pure um),nX.e,nO.e] ⟨⟨FV,KX⟩,GZ,yA,trivial⟩) Yy aa1 (show∀f0 f1 f2 f3 f4,xZ.goal (WY f0 f1 f2 f3 f4) ((f0,f1,f2,f3,f4,()),())from ?_);intro f0 f1 f2 f3 f4 hin hp;dsimp only[xZ]at hp ⊢;obtain⟨hl,ht⟩:f4.length<=1048576/\(fK f4).length<=1073741824:=hp;have hlong:=(aia (f:=(f0,f1,f2,f3,f4,())) hin.1.1 hin.1.2.1 hin.1.2.2.2.1).1;refine iy (((bif f2 then[115]else[111],()),())) ?_ ⟨trivial,trivial,trivial,?_⟩
 .cases f2<;>exact⟨rfl,rfl⟩
 refine fZ (mk:=λi(s:Sp.LS)=>(((),i,()),s,())) (λy=>y.1.2.1) (λ_ _=>rfl) f4.length aaV
  (λn s=>s=Sp.ls (jY::Lib.itoa f0::Lib.itoa f1::(bif f2 then[115]else[111])::Lib.itoa f3::dQ (f4.take n))) rfl (λI μ n s hn hJ next=>?_) λI μ s hJ=>?_
 .subst hJ;dsimp only;rw[auW];refine eX aaV ⟨⟨aaV,aaV⟩,trivial,qx ?_,rfl,next _ ?_⟩
  .have:=Hw (f4.take n);rw[auN]at this;simp only[Sp.ls,auV,auE,auI];omega
  .rw[acC hn];rw[show∀a b c d e,jY::a::b::c::d::(dQ (f4.take n)++e)=(jY::a::b::c::d::dQ (f4.take n))++e fromλ_ _ _ _ _=>rfl,WW];rfl
 .subst hJ;dsimp only;rw[avl (auH _)];have e:List.map (λ(x:List UInt8×Unit)=>x.1) (Sp.ls (jY::Lib.itoa f0::Lib.itoa f1::(bif f2 then[115]else[111])::Lib.itoa f3::dQ f4))=jY::Lib.itoa f0::jy (f0,f1,f2,f3,f4,()):=aib _;rw[e];refine eG aaV ⟨⟨?_,auK hlong (by have ht:(fK (f0,f1,f2,f3,f4,()).2.2.2.2.1).length<=1073741824:=ht;omega)⟩,rfl⟩;have:=Hw f4;simp only[Sp.ls,auV,auE];omega
end Go.Proofs.Tryz
namespace Go.Proofs.Tryz
open Go Go.Fw Go.RowKit Sp
theorem aN{w:World}{g:Nat}{cur:Array Value}{t:TypeId}{fz:Nat×Nat}(h:w.heap[g]? =some (.cells cur t fz))(k:Nat):w.cell? ⟨g,k,none⟩=cur[k]? :=by simp[World.cell?,h]
theorem dH{w:World}{g:Nat}{cur:Array Value}{t:TypeId}(h:w.heap[g]? =some (.cells cur t (0,0)))(k:Nat):w.frozen? ⟨g,k,none⟩=false:=by simp[World.frozen?,h]
theorem gJ{w:World}{g:Nat}{cur:Array Value}{t:TypeId}{fz:Nat×Nat}(h:w.heap[g]? =some (.cells cur t fz))(k:Nat)(v:Value):(w.setCell ⟨g,k,none⟩ v).heap[g]? =some (.cells (cur.setIfInBounds k v) t fz):=by simp only[World.setCell,axt,if_pos,h];rfl
theorem mX{w:World}{p:Addr}{b:Nat}(v:Value)(h:b≠p.block):(w.setCell p v).heap[b]? =w.heap[b]? :=by simp only[World.setCell,axt,if_neg (aww h)]
def FW(B:Nat)(W:World)(v:Value)(f:Sp.LS):Prop:=bY W.heap (λb=>b<B) (.sl aT dJ) v f
structure Step(W w':World)(P:Nat)(own:Option Nat):Prop where
 os:w'.os=W.os
 tape:w'.tape=W.tape
 output:w'.output=W.output
 size:W.heap.size<=w'.heap.size
 block:∀b,b<W.heap.size->b≠P->own≠some b->w'.heap[b]? =W.heap[b]?
theorem FW.keep{B:Nat}{W w':World}{v:Value}{f:Sp.LS}(h:FW B W v f)(hk:∀b,b<B->w'.heap[b]? =W.heap[b]?):FW B w' v f:=by
 refine⟨h.1,?_⟩;rcases h.2 with h2|⟨b,off,cap,cs,t,fz,h1,h2,h3,h4,h5⟩
 .exact .inl h2
 .exact .inr ⟨b,off,cap,cs,t,fz,h1,h2,h3,(hk b h3).trans h4,λi x hx=>aH.flat (S:=λb=>b<B) _ _ _ rfl (h5 i x hx)⟩
set_option maxHeartbeats 4000000 in
set_option maxRecDepth 100000 in
theorem zB(B P:Nat)(W:World)(vf vn:Value)(f:Sp.LS)(Gm:B<=P)(hP:W.heap[P]? =some (.cells #[vf,vn] 173 (0,0)))(hf:FW B W vf f):
 Calls prog 189 #[.pointer (some ⟨P,0,none⟩)] W λe w'=>e=.returned (.string ⟨(Sp.wordAt f 0).toArray⟩)/\∃Jr,FW B w' Jr (f.drop 1)/\w'.heap[P]? =some (.cells #[Jr,vn] 173 (0,0))/\Step W w' P none:=by
 have mixed:=Tryz.mixed;have c0:W.cell? ⟨P,0,none⟩=some vf:=aN hP 0;have z0:W.frozen? ⟨P,0,none⟩=false:=dH hP 0;obtain⟨hml,hcase⟩:=id hf;rcases hcase with⟨e1,a,c,rfl⟩|⟨b,off,cap,cs,t,fz,rfl,hcap,hb,hbl,hx⟩
 .subst e1
  go_enter Tryz.func189,Tryz.ntmps189
  go_wp2
  go_ret
  exact⟨rfl,_,hf,hP,rfl,rfl,rfl,auH _,λ_ _ _ _=>rfl⟩
 .cases f with
  |nil=>
   go_enter Tryz.func189,Tryz.ntmps189
   go_wp2
   go_ret
   exact⟨rfl,_,hf,hP,rfl,rfl,rfl,auH _,λ_ _ _ _=>rfl⟩
  |cons x r=>
   have hx0:=hx 0 x rfl;obtain⟨u,us,e1,⟨e2,_⟩,_⟩:=hx0;have cx:W.cell? ⟨b,off,none⟩=some (.string ⟨x.1.toArray⟩):=by rw[aN hbl,← e2];have h0:=congrArg (λl=>l[0]?) e1;have h0:((cs.toList.drop (off+0*1)).take 1)[0]? =some u:=h0;simpa[avf,avg]using h0
   have hl:(x::r).length=r.length+1:=rfl;rw[hl]at hcap c0 hml;have hrl:¬((r.length+1:Nat):Int)=0:=aaV;have hw:Sp.wordAt (x::r) 0=x.1:=eH x r;rw[hw];have hr:FW B W (.slice (if cap=1 then some ⟨b,off,none⟩else some ⟨b,off+1,none⟩) r.length (cap-1)) r:=by
    refine⟨by have:=hml;omega,?_⟩;by_cases h1:cap=1
    .have hr0:r=[]:=avv.1 aaV;subst hr0;exact .inl ⟨rfl,_,_,rfl⟩
    .rw[if_neg h1];refine .inr ⟨b,off+1,cap-1,cs,t,fz,rfl,aaV,hb,hbl,λi y hy=>?_⟩;have:=hx (i+1) y (by simpa using hy);rw[show off+1+i*dJ.len=off+(i+1)*dJ.len by show off+1+i*1=off+(i+1)*1;omega];exact this
   generalize r.length=n at*
   go_enter Tryz.func189,Tryz.ntmps189
   go_wp2
   all_goals go_ret
   all_goals refine⟨rfl,_,FW.keep (W:=W) ?_ λb' hb'=>mX _ (show b'≠P from aaV),gJ hP 0 _,rfl,rfl,rfl,aqr,λb' _ hb' _=>mX _ hb'⟩
   .rw[if_pos h,show cap-1=0 from aaV]at hr;exact hr
   .rw[if_neg h]at hr;exact hr
theorem apt(op:Int)(h:-9223372036854775808<=op/\op<=9223372036854775807)(w:World)(hG:G.ok w):Calls prog 151 #[.int .i64 op] w λe w'=>e=.returned (.string ⟨(fP op).toArray⟩)/\Below w.heap.size w w':=by have hc:fD prog G 151 (ig lC.sh lC.bH lC.F):=Jp.1;refine(hc [.sv (.one (.int .i64 op))] True ⟨[(false,[.plain (.str (fP op))])],none⟩ 0 (λ_=>True) #[.int .i64 op] w rfl trivial hG ⟨⟨rfl,h⟩,trivial⟩).mono ?_;rintro e w' ⟨v,vals,rfl,h1,h2,h3,h4,h5,h6,_,_⟩;have h6:v=.string ⟨(fP op).toArray⟩/\(fP op).length<=maxLen:=h6;exact⟨by rw[h6.1],h1,h2,h3,h4,h5⟩
theorem ajV(s:List UInt8)(hs:s.length<=1048576)(w:World)(hG:G.ok w):Calls prog 152 #[.string ⟨s.toArray⟩] w λe w'=>
 e=.returned (.tuple #[.agg #[.int .i64 (aU s).1.1,.int .i64 (aU s).1.2.1,.string ⟨(aU s).1.2.2.1.toArray⟩],.bool (aU s).2])/\Below w.heap.size w w'/\
  (-9223372036854775808<=(aU s).1.1/\(aU s).1.1<=9223372036854775807)/\(-9223372036854775808<=(aU s).1.2.1/\(aU s).1.2.1<=9223372036854775807)/\(aU s).1.2.2.1.length<=maxLen:=by
 have hc:fD prog G 152 (ig lZ.sh lZ.bH lZ.F):=IV.1;refine(hc [.sv (.one (.str s))] (s.length<=1048576) _ 0 (λ_=>True) #[.string ⟨s.toArray⟩] w rfl hs hG ⟨⟨rfl,acz⟩,trivial⟩).mono ?_;rintro e w' ⟨v,vals,rfl,h1,h2,h3,h4,h5,h6,_,_⟩;obtain⟨vs,rfl,h7⟩:=h6;obtain⟨l⟩:=vs
 match l,h7 with
 |[a,b],h7=>
  obtain⟨⟨us,ea,h8⟩,h9,_⟩:=h7;obtain⟨ul⟩:=us
  match ul,h8 with
  |[x,y,z],h8=>obtain⟨x1,y1,z1,_⟩:=h8;have h9:b=.bool (aU s).2:=h9;rw[ea,h9,x1.1,y1.1,z1.1];exact⟨rfl,⟨h1,h2,h3,h4,h5⟩,x1.2,y1.2,z1.2⟩
def NW(B P:Nat)(W:World)(v:Value)(q:List ak):Prop:=
 ∃xs,W.ownsRow B 168 7 v q.length xs/\v.ownBlock≠some P/\∀i x,q[i]? =some x->aH #[] (λ_=>False) bD ((xs.drop (i*7)).take 7) x
def eY(op l r:Int)(s:List UInt8)(k n:Int)(t:List UInt8):Array Value:=#[.int .i64 op,.int .i64 l,.int .i64 r,.string ⟨s.toArray⟩,.int .i64 k,.int .i64 n,.string ⟨t.toArray⟩]
theorem uJ{W w':World}{base size n:Nat}{e:TypeId}{v:Value}{xs:List Value}(h:W.ownsRow base e size v n xs)(hk:∀g,v.ownBlock=some g->w'.heap[g]? =W.heap[g]?):w'.ownsRow base e size v n xs:=by
 refine⟨h.1,?_⟩;rcases h.2 with h2|⟨g,cap,cur,rfl,h3,h4,h5⟩
 .exact .inl h2
 .exact .inr ⟨g,cap,cur,rfl,h3,(hk g rfl).trans h4,h5⟩
theorem apu:(prog.info? 168).map (λi=>(i.zero,i.size,i.bytes))=some (some (.agg (eY 0 0 0 [] 0 0 [])),7,72):=aa1
theorem amN(op l r:Int)(s:List UInt8)(k n:Int)(t:List UInt8):∀u∈(eY op l r s k n t).toList,u.oneCell'=true:=by intro u hu;simp[eY]at hu;rcases hu with rfl|rfl|rfl|rfl|rfl|rfl|rfl<;>rfl
def sV(n:Int):Prop:=-9223372036854775808<=n/\n<=9223372036854775807
theorem rJ{op l r:Int}{s:List UInt8}{k n:Int}{t:List UInt8}(h1:sV op)(h2:sV l)(h3:sV r)(h4:s.length<=maxLen)(h5:sV k)(h6:sV n)(h7:t.length<=maxLen):
 aH #[] (λ_=>False) bD (eY op l r s k n t).toList (op,l,r,s,k,n,t,()):=
 ⟨_,_,rfl,⟨rfl,h1⟩,_,_,rfl,⟨rfl,h2⟩,_,_,rfl,⟨rfl,h3⟩,_,_,rfl,⟨rfl,h4⟩,_,_,rfl,⟨rfl,h5⟩,_,_,rfl,⟨rfl,h6⟩,_,_,rfl,⟨rfl,h7⟩,rfl⟩
structure EZ(B P N:Nat)(W:World)(aaz:Option Nat)(w:World)(vf vn:Value)(f:Sp.LS)(q:List ak):Prop where
 gl:G.ok w
 cells:w.heap[P]? =some (.cells #[vf,vn] 173 (0,0))
 words:FW B w vf f
 nodes:NW B P w vn q
 step:Step W w P aaz
 fresh:∀g,vn.ownBlock=some g->aaz=some g\/W.heap.size<=g
 ael:vn.ownBlock≠some N
 old:W.heap.size<=N
 lt:N<w.heap.size
 low:5<=B/\B<=P/\P<W.heap.size
theorem DU{w:World}{g:Nat}{o l r:Int}{s:List UInt8}{k n:Int}{t:List UInt8}{ty:TypeId}{fz:Nat×Nat}(h:w.heap[g]? =some (.cells (eY o l r s k n t) ty fz)):w.cell? ⟨g,0,none⟩=some (.int .i64 o)/\w.cell? ⟨g,1,none⟩=some (.int .i64 l)/\w.cell? ⟨g,2,none⟩=some (.int .i64 r)/\w.cell? ⟨g,3,none⟩=some (.string ⟨s.toArray⟩)/\w.cell? ⟨g,4,none⟩=some (.int .i64 k)/\w.cell? ⟨g,5,none⟩=some (.int .i64 n)/\w.cell? ⟨g,6,none⟩=some (.string ⟨t.toArray⟩):=
 ⟨aN h 0,aN h 1,aN h 2,aN h 3,aN h 4,aN h 5,aN h 6⟩
theorem EZ.four{B P N:Nat}{W:World}{o:Option Nat}{w:World}{vf vn:Value}{f:Sp.LS}{q:List ak}(h:EZ B P N W o w vf vn f q):w.cell? ⟨P,1,none⟩=some vn/\w.frozen? ⟨P,1,none⟩=false/\P<w.heap.size/\B<=w.heap.size:=
 ⟨aN h.cells 1,dH h.cells 1,(auL.1 h.cells).1,by have:=(auL.1 h.cells).1;have:=h.low;omega⟩
theorem pR{ops:Array Oper}{o:Oper}{a:Act}{K:Act->World->Prop}{Q:Exit->Act->World->Prop}{E:Prop}{B P N:Nat}{W:World}{aaz:Option Nat}{w:World}{vf vn:Value}{f:Sp.LS}{q:List ak}{xs:List Value}(op l r:Int)(s:List UInt8)(k n:Int)(t:List UInt8)
 (hR:EZ B P N W aaz w vf vn f q) (ny:(q.length+1)*72<=140737488355328) (hgd:o.guard=none) (ho:o.op=.call {callee:=.builtin .append,args:=#[.tmp 84,.tmp 86],argTypes:=#[91,91]})
 (hown:w.ownsRow B 168 7 vn q.length xs) (rW:vn.ownBlock≠some P) (hs:a.eval (.tmp 84)=vn) (hx:a.eval (.tmp 86)=.slice (some ⟨w.heap.size,0,none⟩) 1 1)
 (h:∀g cap w5,w5.ownsRow B 168 7 (.slice (some ⟨g,0,none⟩) (q.length+1) cap) (q.length+1) (xs++(eY op l r s k n t).toList)->(w.drew.alloc (Obj.cells (eY op l r s k n t) 168 (0,0))).grownBy w5 vn.ownBlock->(vn.ownBlock=some g\/g=(w.drew.alloc (Obj.cells (eY op l r s k n t) 168 (0,0))).heap.size)->g<w5.heap.size->
   w5.heap[P]? =some (.cells #[vf,vn] 173 (0,0))->w5.cell? ⟨P,1,none⟩=some vn->w5.frozen? ⟨P,1,none⟩=false->K (a.put o.dst (.slice (some ⟨g,0,none⟩) (q.length+1) cap)) w5):
 if Region.wanted o (yielded ops a.tmps)=true then Oper.wp prog o a (w.drew.alloc (Obj.cells (eY op l r s k n t) 168 (0,0))) K Q else E:=by
 obtain⟨i0,hi,hz0,hz1,hz2⟩:=awK apu;obtain⟨-,-,uK,hBr⟩:=hR.four;have hqm:q.length+1<=maxLen:=acz;refine step_append_lies _ hgd (.tmp 84) (.tmp 86) 91 ho B 168 i0 (.agg (eY 0 0 0 [] 0 0 [])) 7 72 Tryz.underlying91 hi hz0 hz1 hz2 rfl abV vn q.length xs hs ((awF hown).alloc _) ⟨w.heap.size,0,none⟩ 1 1 (eY op l r s k n t).toList hx rfl (World.news_of_block (avo _ _)) (amN op l r s k n t) abV hqm ny aeV _ rfl ?_;intro g cap w5 h1 h2 h3 h4;have nN:=(h2.block P aeV (λe=>rW e.symm)).trans ((heap_alloc_old w.drew _ uK).trans hR.cells);exact h g cap w5 h1 h2 h3 h4 nN (aN nN 1) (dH nN 1)
def Done(B P:Nat)(W:World)(aaz:Option Nat)(f:Sp.LS)(q:List ak)(w:World):Prop:=
 ∃vf vn,w.heap[P]? =some (.cells #[vf,vn] 173 (0,0))/\FW B w vf f/\NW B P w vn q/\Step W w P aaz/\∀g,vn.ownBlock=some g->aaz=some g\/W.heap.size<=g
theorem Step.refl(w:World)(P:Nat)(own:Option Nat):Step w w P own:=⟨rfl,rfl,rfl,auH _,λ_ _ _ _=>rfl⟩
theorem Step.trans{a b c:World}{P:Nat}{o o':Option Nat}(h:Step a b P o)(k:Step b c P o')(hf:∀g,o'=some g->o=some g\/a.heap.size<=g):Step a c P o:=
 ⟨k.os.trans h.os,k.tape.trans h.tape,k.output.trans h.output,auK h.size k.size,λx hx hP ho=>(k.block x (au6 hx h.size) hP λe=>by
   rcases hf x e with h1|h1
   .exact ho h1
   .omega).trans (h.block x hx hP ho)⟩
theorem Step.below{a b c:World}{P:Nat}{o:Option Nat}(h:Step a b P o)(k:Below b.heap.size b c):Step a c P o:=
 ⟨k.os.trans h.os,k.tape.trans h.tape,k.output.trans h.output,auK h.size k.size,λx hx hP ho=>(k.block x (au6 hx h.size)).trans (h.block x hx hP ho)⟩
theorem NW.keep{B P:Nat}{w w':World}{v:Value}{q:List ak}(h:NW B P w v q)(hk:∀g,v.ownBlock=some g->w'.heap[g]? =w.heap[g]?):NW B P w' v q:=by obtain⟨xs,h1,h2,h3⟩:=h;exact⟨xs,uJ h1 hk,h2,h3⟩
theorem NW.lt{B P:Nat}{w:World}{v:Value}{q:List ak}(h:NW B P w v q){g:Nat}(hg:v.ownBlock=some g):B<=g/\g<w.heap.size/\g≠P:=by obtain⟨xs,h1,h2,_⟩:=h;exact⟨(h1.lt g hg).1,(h1.lt g hg).2,λe=>h2 (by rw[hg,e])⟩
theorem EZ.below{B P N:Nat}{W:World}{o:Option Nat}{w w':World}{vf vn:Value}{f:Sp.LS}{q:List ak}(h:EZ B P N W o w vf vn f q)(k:Below w.heap.size w w'):EZ B P N W o w' vf vn f q:=by have hP:P<w.heap.size:=au6 h.low.2.2 h.step.size;exact⟨dL h.gl k,(k.block P hP).trans h.cells,h.words.keep λb hb=>k.block b (by have:=h.low;omega),h.nodes.keep λg hg=>k.block g (h.nodes.lt hg).2.1,h.step.below k,h.fresh,h.ael,h.old,au6 h.lt k.size,h.low⟩
theorem EZ.zl{B P N:Nat}{W:World}{o:Option Nat}{w:World}{vf vn:Value}{f:Sp.LS}{q:List ak}(h:EZ B P N W o w vf vn f q)(k:Nat)(v:Value):EZ B P N W o (w.setCell ⟨N,k,none⟩ v) vf vn f q:=by have hl:=h.low;have ho:=h.old;have far:∀b,b≠N->(w.setCell ⟨N,k,none⟩ v).heap[b]? =w.heap[b]? :=λb hb=>mX v hb;have hs:(w.setCell ⟨N,k,none⟩ v).heap.size=w.heap.size:=aqr;refine⟨G.stable _ _ h.gl (by rw[hs];exact auH _) λb hb=>far b (by have:b<5:=hb;omega),(far P aaV).trans h.cells,h.words.keep λb hb=>far b aaV,h.nodes.keep λg hg=>far g (λe=>h.ael (by rw[hg,e])),?_,h.fresh,h.ael,ho,by rw[hs];exact h.lt,hl⟩;exact⟨h.step.os,h.step.tape,h.step.output,by rw[hs];exact h.step.size,λx hx hP hoo=>(far x aaV).trans (h.step.block x hx hP hoo)⟩
theorem G_step{W w':World}{P B:Nat}{own:Option Nat}(Y5:5<=B)(Gm:B<=P)(hG:G.ok W)(h:Step W w' P own)(ho:∀b,own=some b->B<=b):G.ok w':=
 G.stable W w' hG h.size λb hb=>h.block b (au6 hb (G.low W hG)) (by have:b<5:=hb;omega) λe=>by have:=ho b e;have:b<5:=hb;omega
theorem EZ.next{B P N:Nat}{W:World}{o:Option Nat}{w w':World}{vf vn Jr:Value}{f f':Sp.LS}{q:List ak}(h:EZ B P N W o w vf vn f q)(h1:FW B w' Jr f')(h2:w'.heap[P]? =some (.cells #[Jr,vn] 173 (0,0)))(h3:Step w w' P none):EZ B P N W o w' Jr vn f' q/\w'.heap[N]? =w.heap[N]? :=by have hl:=h.low;have ho:=h.old;exact⟨⟨G_step hl.1 hl.2.1 h.gl h3 (λb e=>ahb),h2,h1,h.nodes.keep λg hg=>h3.block g (h.nodes.lt hg).2.1 (h.nodes.lt hg).2.2 (λe=>ahb),h.step.trans h3 (λg e=>ahb),h.fresh,h.ael,ho,au6 h.lt h3.size,hl⟩,h3.block N h.lt aaV (λe=>ahb)⟩
theorem EZ.read{B P N:Nat}{W:World}{o:Option Nat}{w w':World}{vf vn:Value}{f f':Sp.LS}{q q':List ak}(h:EZ B P N W o w vf vn f q)(k:Done B P w vn.ownBlock f' q' w'):(∃Jr vn',EZ B P N W o w' Jr vn' f' q')/\w'.heap[N]? =w.heap[N]? :=by
 have hl:=h.low;have ho:=h.old;have hN:=h.lt;obtain⟨Jr,vn',h1,h2,h3,h4,h5⟩:=k;refine⟨⟨Jr,vn',G_step hl.1 hl.2.1 h.gl h4 (λb e=>(h.nodes.lt e).1),h1,h2,h3,h.step.trans h4 h.fresh,λg hg=>?_,λe=>?_,ho,au6 h.lt h4.size,hl⟩,h4.block N h.lt aaV (λe=>h.ael e)⟩
 .rcases h5 g hg with e|e
  .exact h.fresh g e
  .exact .inr (auK h.step.size e)
 .rcases h5 N e with e|e
  .exact h.ael e
  .omega
theorem EZ.put{B P N:Nat}{W:World}{o:Option Nat}{w w0 w5:World}{vf vn:Value}{f:Sp.LS}{q:List ak}(h:EZ B P N W o w vf vn f q)(hb:Below w.heap.size w w0){xs:List Value}(hown:w.ownsRow B 168 7 vn q.length xs)
 (hrep:∀i x,q[i]? =some x->aH #[] (λ_=>False) bD ((xs.drop (i*7)).take 7) x) {op l r:Int} {s:List UInt8} {k n:Int} {t:List UInt8} (hx:aH #[] (λ_=>False) bD (eY op l r s k n t).toList (op,l,r,s,k,n,t,()))
 {g cap:Nat} (h5:w5.ownsRow B 168 7 (.slice (some ⟨g,0,none⟩) (q.length+1) cap) (q.length+1) (xs++(eY op l r s k n t).toList)) (hg:w0.grownBy w5 vn.ownBlock) (hat:vn.ownBlock=some g\/g=w0.heap.size) (hlt:g<w5.heap.size):
 Done B P W o f (q++[(op,l,r,s,k,n,t,())]) (w5.setCell ⟨P,1,none⟩ (.slice (some ⟨g,0,none⟩) (q.length+1) cap)):=by
 have hl:=h.low;have ho:=h.old;have hPw:P<w.heap.size:=au6 hl.2.2 h.step.size;have hPn:vn.ownBlock≠some P:=λe=>(h.nodes.lt e).2.2 rfl;have hgP:g≠P:=by
  rcases hat with e|e
  .exactλe2=>hPn (by rw[e,e2])
  .have:=hb.size;omega
 have same:∀b,b<w.heap.size->vn.ownBlock≠some b->w5.heap[b]? =w.heap[b]? :=λb hlb hnb=>(hg.block b (au6 hlb hb.size) (λe=>hnb e.symm)).trans (hb.block b hlb);have far:∀b,b≠P->(w5.setCell ⟨P,1,none⟩ (.slice (some ⟨g,0,none⟩) (q.length+1) cap)).heap[b]? =w5.heap[b]? :=λb hb=>mX _ hb;have nN:=(same P hPw hPn).trans h.cells;have hs5:(w5.setCell ⟨P,1,none⟩ (.slice (some ⟨g,0,none⟩) (q.length+1) cap)).heap.size=w5.heap.size:=aqr;have hsz:w.heap.size<=w5.heap.size:=auK hb.size hg.size;refine⟨vf,.slice (some ⟨g,0,none⟩) (q.length+1) cap,gJ nN 1 _,h.words.keep λb hb=>?_,⟨xs++(eY op l r s k n t).toList,?_,λe=>hgP (by cases e;rfl),λi x hi=>?_⟩,?_,λg' hg'=>?_⟩
 .exact(far b aaV).trans (same b aaV λe=>by have:=(h.nodes.lt e).1;omega)
 .rw[auB];exact uJ h5 λg' hg'=>far g' (by cases hg';exact hgP)
 .have hxl:xs.length=q.length*7:=hown.1;rcases au2 i q.length with hi'|hi'
  .rw[avn hi']at hi;have:=hrep i x hi;rw[avW (by rw[hxl];omega),awv (by rw[au9,hxl];omega)];exact this
  .rw[avc hi']at hi;have e0:i=q.length:=by have:=(auT.1 hi).1;simp at this;omega
   subst e0;rw[awX]at hi;cases hi;rw[← hxl,axG];exact hx
 .refine⟨hg.os.trans (hb.os.trans h.step.os),hg.tape.trans (hb.tape.trans h.step.tape),hg.output.trans (hb.output.trans h.step.output),by rw[hs5];exact auK h.step.size hsz,λb hlb hbP hob=>?_⟩;refine(far b hbP).trans ((same b (au6 hlb h.step.size) λe=>?_).trans (h.step.block b hlb hbP hob));rcases h.fresh b e with e2|e2
  .exact hob e2
  .omega
 .have hg':some g=some g':=hg';cases hg';rcases hat with e|e
  .exact h.fresh g e
  .right;have:=hb.size;have:=h.step.size;omega
theorem vU{B P:Nat}{W:World}{o:Option Nat}{w:World}{b c:Bool}{f:Sp.LS}{q:List ak}{z:Bool×Sp.LS×List ak}(e:Hid (z=(c,f,q)))(hb:Ending.returned (.bool b)=Ending.returned (.bool c))(h:Done B P W o f q w):Ending.returned (.bool b)=Ending.returned (.bool z.1)/\Done B P W o z.2.1 z.2.2 w:=by rw[e.out];exact⟨hb,h⟩
theorem Hu{k:Nat}{f:Sp.LS}{q:List ak}{op:Int}(h:op=dw (Sp.wordAt f 0))(c:op=0\/op=1):Sp.rd (k+1) f q=(!(op==0),f.drop 1,q++[(op,0,0,[],0,0,[],())]):=by rw[Sp.rd,← h];rcases c with rfl|rfl<;>rfl
theorem Lu{k:Nat}{f:Sp.LS}{q:List ak}{op:Int}(h:op=dw (Sp.wordAt f 0))(c:op=2\/op=8\/op=9):Sp.rd (k+1) f q=(true,(f.drop 1).drop 1,q++[(op,0,0,Sp.wordAt (f.drop 1) 0,0,0,[],())]):=by rw[Sp.rd,← h];rcases c with rfl|rfl|rfl<;>rfl
theorem SG{k:Nat}{f:Sp.LS}{q:List ak}{op:Int}(h:op=dw (Sp.wordAt f 0))(c:op=3\/op=4):Sp.rd (k+1) f q=((aU (Sp.wordAt ((f.drop 1).drop 1) 0)).2,((f.drop 1).drop 1).drop 1,q++[(op,0,0,Sp.wordAt (f.drop 1) 0,(aU (Sp.wordAt ((f.drop 1).drop 1) 0)).1)]):=by rw[Sp.rd,← h];rcases c with rfl|rfl<;>rfl
theorem ah5{k:Nat}{f:Sp.LS}{q:List ak}(h:(5:Int)=dw (Sp.wordAt f 0)):Sp.rd (k+1) f q=((Sp.rd k (f.drop 1) q).1,(Sp.rd k (f.drop 1) q).2.1,(Sp.rd k (f.drop 1) q).2.2++[(5,((Sp.rd k (f.drop 1) q).2.2.length:Int)-1,0,[],0,0,[],())]):=by rw[Sp.rd,← h];rfl
theorem XO{k:Nat}{f:Sp.LS}{q:List ak}{op:Int}(h:op=dw (Sp.wordAt f 0))(c:op=6\/op=7)(h1:(Sp.rd k (f.drop 1) q).1=true):Sp.rd (k+1) f q=((Sp.rd k (Sp.rd k (f.drop 1) q).2.1 (Sp.rd k (f.drop 1) q).2.2).1,(Sp.rd k (Sp.rd k (f.drop 1) q).2.1 (Sp.rd k (f.drop 1) q).2.2).2.1,
 (Sp.rd k (Sp.rd k (f.drop 1) q).2.1 (Sp.rd k (f.drop 1) q).2.2).2.2++[(op,((Sp.rd k (f.drop 1) q).2.2.length:Int)-1,((Sp.rd k (Sp.rd k (f.drop 1) q).2.1 (Sp.rd k (f.drop 1) q).2.2).2.2.length:Int)-1,[],0,0,[],())]):=by
 rw[Sp.rd,← h,h1];rcases c with rfl|rfl<;>rfl
theorem acu{k:Nat}{f:Sp.LS}{q:List ak}{op:Int}(h:op=dw (Sp.wordAt f 0))(c:op=6\/op=7)(h1:(Sp.rd k (f.drop 1) q).1=false):Sp.rd (k+1) f q=(false,(Sp.rd k (f.drop 1) q).2.1,
 (Sp.rd k (f.drop 1) q).2.2++[(op,((Sp.rd k (f.drop 1) q).2.2.length:Int)-1,((Sp.rd k (f.drop 1) q).2.2.length:Int)-1,[],0,0,[],())]):=by
 rw[Sp.rd,← h,h1];rcases c with rfl|rfl<;>rfl
theorem xK:∀(k:Nat)(w:Sp.LS)(q:List ak),(Sp.rd k w q).2.2.length+2*(Sp.rd k w q).2.1.length<=q.length+2*w.length+1
 |0,w,q=>Nat.le_succ _
 |k+1,w,q=>by
  have hd:(w.drop 1).length=w.length-1:=au9;rcases Aa (Sp.wordAt w 0)with h0|⟨hc,_⟩
  .rw[Hu h0.symm (.inl rfl)];simp only[auB,auE,auI,hd];omega
  have hne:0<w.length:=by obtain⟨r,e,_⟩:=XP (w:=w) aaV;rw[e,auE];omega
  have d2:((w.drop 1).drop 1).length<=w.length-1:=amr;have d3:(((w.drop 1).drop 1).drop 1).length<=w.length-1:=amr;have i1:=xK k (w.drop 1) q;generalize ho:dw (Sp.wordAt w 0)=op at hc;rcases(show op=1\/(op=2\/op=8\/op=9)\/(op=3\/op=4)\/op=5\/(op=6\/op=7)from aaV)with c|c|c|c|c
  .rw[Hu ho.symm (.inr c)];simp only[auB,auE,auI,hd];omega
  .rw[Lu ho.symm c];simp only[auB,auE,auI];omega
  .rw[SG ho.symm c];simp only[auB,auE,auI];omega
  .subst c;rw[ah5 ho.symm];simp only[auB,auE,auI];omega
  .cases h1:(Sp.rd k (w.drop 1) q).1 with
   |true=>
    have i2:=xK k (Sp.rd k (w.drop 1) q).2.1 (Sp.rd k (w.drop 1) q).2.2;rw[XO ho.symm c h1];simp only[auB,auE,auI];omega
   |false=>rw[acu ho.symm c h1];simp only[auB,auE,auI];omega
theorem NW.form{B P:Nat}{w:World}{v:Value}{q:List ak}(h:NW B P w v q):∃a cap,v=.slice a q.length cap:=by
 obtain⟨xs,h1,_,_⟩:=h;rcases h1.2 with⟨e,e2⟩|⟨g,cap,cur,e,_⟩
 .exact⟨none,0,by rw[e,e2]⟩
 .exact⟨_,_,e⟩
theorem EC{f:Sp.LS}(h:∀x∈f,x.1.length<=1000)(i:Int):(Sp.wordAt f i).length<=1000:=by
 by_cases hh:i<(f.length:Int)
 .rw[pK hh,auF];cases e:f[i.toNat]? with
  |none=>exact auZ _
  |some x=>exact h x (avk e)
 .rw[pO aaV];exact auZ _
theorem qH{f:Sp.LS}(h:∀x∈f,x.1.length<=1000)(i:Nat):∀x∈f.drop i,x.1.length<=1000:=λx hx=>h x (av2 hx)
theorem xM:∀(k:Nat)(w:Sp.LS)(q:List ak),(∀x∈w,x.1.length<=1000)->∀x∈(Sp.rd k w q).2.1,x.1.length<=1000
 |0,_,_,h=>h
 |k+1,w,q,h=>by
  have i1:=xM k (w.drop 1) q (qH h 1);rcases Aa (Sp.wordAt w 0)with h0|⟨hc,_⟩
  .rw[Hu h0.symm (.inl rfl)];exact qH h 1
  generalize ho:dw (Sp.wordAt w 0)=op at hc;rcases(show op=1\/(op=2\/op=8\/op=9)\/(op=3\/op=4)\/op=5\/(op=6\/op=7)from aaV)with c|c|c|c|c
  .rw[Hu ho.symm (.inr c)];exact qH h 1
  .rw[Lu ho.symm c];exact qH (qH h 1) 1
  .rw[SG ho.symm c];exact qH (qH (qH h 1) 1) 1
  .subst c;rw[ah5 ho.symm];exact i1
  .cases h1:(Sp.rd k (w.drop 1) q).1 with
   |true=>rw[XO ho.symm c h1];exact xM k _ _ i1
   |false=>rw[acu ho.symm c h1];exact i1
theorem WS{f:Sp.LS}{op:Int}(h:op=dw (Sp.wordAt f 0))(h0:op≠0):(f.drop 1).length<f.length:=by obtain⟨r,e,_⟩:=XP (w:=f) aaV;rw[e];exact awl _
def Reads(k:Nat):Prop:=∀(B P:Nat)(W:World)(vf vn:Value)(f:Sp.LS)(q:List ak),f.length<k->5<=B->B<=P->G.ok W->W.heap[P]? =some (.cells #[vf,vn] 173 (0,0))->FW B W vf f->NW B P W vn q->
    (∀x∈f,x.1.length<=1000)->q.length+2*f.length+1<=1000->
    Calls prog 154 #[.pointer (some ⟨P,0,none⟩)] W λe w'=>e=.returned (.bool (Sp.rd k f q).1)/\Done B P W vn.ownBlock (Sp.rd k f q).2.1 (Sp.rd k f q).2.2 w'
set_option maxHeartbeats 16000000 in
set_option maxRecDepth 100000 in
theorem amO(k:Nat)(ih:Hid (Reads k)):Reads (k+1):=by
 intro B P W vf vn f q hk Y5 Gm hG hP hf hn hfx hq;have mixed:=Tryz.mixed
 go_enter Tryz.func154,Tryz.ntmps154
 go_wp2_with (first
  |(go_at_call 189;refine(zB B P _ vf vn f Gm hP hf).mono ?_;rintro e W1 ⟨rfl,WT,hf1,hP1,hs1⟩))
 have hG1:=G_step Y5 Gm hG hs1 (λb h=>afH);have hword:∃word,Hid (word=Sp.wordAt f 0)/\word=Sp.wordAt f 0:=⟨_,rfl,rfl⟩;obtain⟨word,hword,hw2⟩:=hword;rw[← hw2];clear hw2;have asZ:P<W1.heap.size:=(auL.1 hP1).1;have hPW:P<W.heap.size:=(auL.1 hP).1
 go_loopw [5] (λi wr=>∃n:Nat,n<=9/\i=.int .i64 ((n+1:Nat):Int)/\wr.heap[W1.heap.size]? =some (.cells (eY (Gn word n) 0 0 [] 0 0 []) 168 (0,0))/\Below W1.heap.size W1 wr)
  (λi _=>10-(intOf i).toNat)
 case atStart=>refine⟨0,abV,rfl,?_,(Below.alloc (Below.refl _ _) (auH _) _)⟩;exact avo W1 _
 case round=>
  obtain⟨n,hn9,rfl,hrow,hbel⟩:=hrel;rcases au2 n 9 with hlt|hge
  .have hlt':((n+1:Nat):Int)<=9:=aaV;have hGr:G.ok wr:=dL hG1 hbel;have hz:=dH hrow 0;have e1:Gn word (n+1)=bif word==fP ((n:Int)+1)then(n:Int)+1 else Gn word n:=rfl
   have kw:=apt ((n+1:Nat):Int) aaV wr hGr;obtain⟨t,ht,ht2⟩:∃t,Hid (t=fP ((n:Int)+1))/\t=fP ((n+1:Nat):Int):=⟨_,rfl,rfl⟩;rw[← ht2]at kw;clear ht2;by_cases hk:t=word
   .subst hk
    go_wp2_with (first
     |(go_at_call 151;refine kw.mono ?_;rintro e w2 ⟨rfl,hb2⟩;have hrow2:=(hb2.block _ (auL.1 hrow).1).trans hrow;have hz2:=dH hrow2 0;have hc2:=aN hrow2 0))
    all_goals go_roundw
    case measure=>simp only[intOf];omega
    case rel=>refine⟨n+1,hlt,by go_num,(gJ hrow2 0 _).trans ?_,(hbel.trans (hb2.mono (axB (auL.1 hrow).1))).setCell (auH _) _⟩;rw[e1,← ht.out,awk];rfl
   .have hk2:(t==word)=false:=auD.2 hk
    go_wp2_with (first
     |(go_at_call 151;refine kw.mono ?_;rintro e w2 ⟨rfl,hb2⟩;have hrow2:=(hb2.block _ (auL.1 hrow).1).trans hrow;have hz2:=dH hrow2 0;have hc2:=aN hrow2 0))
    all_goals go_roundw
    case measure=>simp only[intOf];omega
    case rel=>refine⟨n+1,hlt,by go_num,hrow2.trans ?_,hbel.trans (hb2.mono (axB (auL.1 hrow).1))⟩;rw[e1,← ht.out,auD.2 (aww hk)];rfl
  .have hge':¬((n+1:Nat):Int)<=9:=aaV;obtain rfl:n=9:=aaV;rw[acv]at hrow;have hrg:=acw word;obtain⟨op,hop,hop2⟩:∃op,Hid (op=dw (Sp.wordAt f 0))/\op=dw word:=⟨_,congrArg dw hword.out,rfl⟩;rw[← hop2]at hrow hrg;clear hop2;have hNr:=(auL.1 hrow).1;have hR:EZ B P W1.heap.size W vn.ownBlock wr WT vn (f.drop 1) q:=by
    have hPr:=(hbel.block _ asZ).trans hP1;refine⟨dL hG1 hbel,hPr,hf1.keep λb hb=>hbel.block b aaV,hn.keep λg hg=>?_,?_,λg hg=>.inl hg,λe=>?_,hs1.size,hNr,Y5,Gm,hPW⟩
    .have hgl:=hn.lt hg;exact(hbel.block g (au6 hgl.2.1 hs1.size)).trans (hs1.block g hgl.2.1 hgl.2.2 (λe=>ahb))
    .exact⟨hbel.os.trans hs1.os,hbel.tape.trans hs1.tape,hbel.output.trans hs1.output,auK hs1.size hbel.size,λb hb hbP _=>(hbel.block b (au6 hb hs1.size)).trans (hs1.block b hb hbP (λe=>ahb))⟩
    .have:=(hn.lt e).2.1;have:=hs1.size;omega
   clear hbel hn hf hP hf1 hP1;have hz1:=dH hrow 1;have hz2:=dH hrow 2;have hz3:=dH hrow 3;have hz4:=dH hrow 4;have hz5:=dH hrow 5;have hz6:=dH hrow 6;have Dj:=qH hfx 1;have aqp:=qH Dj 1;have c0:wr.cell? ⟨W1.heap.size,0,none⟩=some (.int .i64 op):=aN hrow 0;have n0:sV 0:=⟨abV,abV⟩;have m0:([]:List UInt8).length<=maxLen:=auZ _;rcases(show op=0\/op=1\/op=2\/op=8\/op=9\/op=3\/op=4\/op=5\/op=6\/op=7 from aaV)with rfl|rfl|rfl|rfl|rfl|rfl|rfl|rfl|rfl|rfl
   .have he:Hid _:=Hu (k:=k) (q:=q) hop.out abV;have hx:=rJ (op:=0) ⟨abV,abV⟩ n0 n0 m0 n0 n0 m0
    go_wp2
    obtain⟨xs,hown,rW,hrep⟩:=hR.nodes;obtain⟨c0,c1,c2,c3,c4,c5,c6⟩:=DU hrow;obtain⟨p1,zP,uK,hBr⟩:=hR.four;have ny:(q.length+1)*72<=140737488355328:=aaV
    go_region_law (refine pR (0) (0) (0) ([]) (0) (0) ([]) hR ny rfl rfl hown rW aeF aeF ?_;intro g cap w5 hown5 gI nT nU nN k5 z5)
    all_goals go_wp2
    all_goals go_ret
    all_goals exact vU he rfl (hR.put (((Below.refl _ wr).drew).alloc (auH _) _) hown hrep hx hown5 gI nT nU)
   .have he:Hid _:=Hu (k:=k) (q:=q) hop.out abV;have hx:=rJ (op:=1) ⟨abV,abV⟩ n0 n0 m0 n0 n0 m0
    go_wp2
    obtain⟨xs,hown,rW,hrep⟩:=hR.nodes;obtain⟨c0,c1,c2,c3,c4,c5,c6⟩:=DU hrow;obtain⟨p1,zP,uK,hBr⟩:=hR.four;have ny:(q.length+1)*72<=140737488355328:=aaV
    go_region_law (refine pR (1) (0) (0) ([]) (0) (0) ([]) hR ny rfl rfl hown rW aeF aeF ?_;intro g cap w5 hown5 gI nT nU nN k5 z5)
    all_goals go_wp2
    all_goals go_ret
    all_goals exact vU he rfl (hR.put (((Below.refl _ wr).drew).alloc (auH _) _) hown hrep hx hown5 gI nT nU)
   .obtain⟨s2,hs2,hs2'⟩:∃s2,Hid (s2=Sp.wordAt (f.drop 1) 0)/\s2=Sp.wordAt (f.drop 1) 0:=⟨_,rfl,rfl⟩;have nx:=zB B P wr WT vn (f.drop 1) Gm hR.cells hR.words;have hl2:=EC Dj 0;rw[← hs2']at nx hl2;clear hs2';have he:Hid _:=Lu (k:=k) (q:=q) hop.out abV;rw[← hs2.out]at he;have hx:=rJ (op:=2) (s:=s2) ⟨abV,abV⟩ n0 n0 acz n0 n0 m0
    go_wp2_with (first
     |(go_at_call 189;refine nx.mono ?_;rintro e w2 ⟨rfl,NR,hf2,hP2,hst2⟩;obtain⟨hR2,Gp⟩:=hR.next hf2 hP2 hst2;have hrow2:=Gp.trans hrow;have z3:=dH hrow2 3;have d3:=aN hrow2 3))
    have jW:=hR2.zl 3 (.string ⟨s2.toArray⟩);have hrow3:(w2.setCell ⟨W1.heap.size,3,none⟩ (.string ⟨s2.toArray⟩)).heap[W1.heap.size]? =some (.cells (eY 2 0 0 s2 0 0 []) 168 (0,0)):=gJ hrow2 3 _;generalize w2.setCell ⟨W1.heap.size,3,none⟩ (.string ⟨s2.toArray⟩)=w3 at jW hrow3 ⊢;obtain⟨xs,hown,rW,hrep⟩:=jW.nodes;obtain⟨c0,c1,c2,c3,c4,c5,c6⟩:=DU hrow3;obtain⟨p1,zP,uK,hBr⟩:=jW.four;have ny:(q.length+1)*72<=140737488355328:=aaV
    go_region_law (refine pR (2) (0) (0) (s2) (0) (0) ([]) jW ny rfl rfl hown rW aeF aeF ?_;intro g cap w5 hown5 gI nT nU nN k5 z5)
    all_goals go_wp2
    all_goals go_ret
    all_goals exact vU he rfl (jW.put (((Below.refl _ w3).drew).alloc (auH _) _) hown hrep hx hown5 gI nT nU)
   .obtain⟨s2,hs2,hs2'⟩:∃s2,Hid (s2=Sp.wordAt (f.drop 1) 0)/\s2=Sp.wordAt (f.drop 1) 0:=⟨_,rfl,rfl⟩;have nx:=zB B P wr WT vn (f.drop 1) Gm hR.cells hR.words;have hl2:=EC Dj 0;rw[← hs2']at nx hl2;clear hs2';have he:Hid _:=Lu (k:=k) (q:=q) hop.out abV;rw[← hs2.out]at he;have hx:=rJ (op:=8) (s:=s2) ⟨abV,abV⟩ n0 n0 acz n0 n0 m0
    go_wp2_with (first
     |(go_at_call 189;refine nx.mono ?_;rintro e w2 ⟨rfl,NR,hf2,hP2,hst2⟩;obtain⟨hR2,Gp⟩:=hR.next hf2 hP2 hst2;have hrow2:=Gp.trans hrow;have z3:=dH hrow2 3;have d3:=aN hrow2 3))
    have jW:=hR2.zl 3 (.string ⟨s2.toArray⟩);have hrow3:(w2.setCell ⟨W1.heap.size,3,none⟩ (.string ⟨s2.toArray⟩)).heap[W1.heap.size]? =some (.cells (eY 8 0 0 s2 0 0 []) 168 (0,0)):=gJ hrow2 3 _;generalize w2.setCell ⟨W1.heap.size,3,none⟩ (.string ⟨s2.toArray⟩)=w3 at jW hrow3 ⊢;obtain⟨xs,hown,rW,hrep⟩:=jW.nodes;obtain⟨c0,c1,c2,c3,c4,c5,c6⟩:=DU hrow3;obtain⟨p1,zP,uK,hBr⟩:=jW.four;have ny:(q.length+1)*72<=140737488355328:=aaV
    go_region_law (refine pR (8) (0) (0) (s2) (0) (0) ([]) jW ny rfl rfl hown rW aeF aeF ?_;intro g cap w5 hown5 gI nT nU nN k5 z5)
    all_goals go_wp2
    all_goals go_ret
    all_goals exact vU he rfl (jW.put (((Below.refl _ w3).drew).alloc (auH _) _) hown hrep hx hown5 gI nT nU)
   .obtain⟨s2,hs2,hs2'⟩:∃s2,Hid (s2=Sp.wordAt (f.drop 1) 0)/\s2=Sp.wordAt (f.drop 1) 0:=⟨_,rfl,rfl⟩;have nx:=zB B P wr WT vn (f.drop 1) Gm hR.cells hR.words;have hl2:=EC Dj 0;rw[← hs2']at nx hl2;clear hs2';have he:Hid _:=Lu (k:=k) (q:=q) hop.out abV;rw[← hs2.out]at he;have hx:=rJ (op:=9) (s:=s2) ⟨abV,abV⟩ n0 n0 acz n0 n0 m0
    go_wp2_with (first
     |(go_at_call 189;refine nx.mono ?_;rintro e w2 ⟨rfl,NR,hf2,hP2,hst2⟩;obtain⟨hR2,Gp⟩:=hR.next hf2 hP2 hst2;have hrow2:=Gp.trans hrow;have z3:=dH hrow2 3;have d3:=aN hrow2 3))
    have jW:=hR2.zl 3 (.string ⟨s2.toArray⟩);have hrow3:(w2.setCell ⟨W1.heap.size,3,none⟩ (.string ⟨s2.toArray⟩)).heap[W1.heap.size]? =some (.cells (eY 9 0 0 s2 0 0 []) 168 (0,0)):=gJ hrow2 3 _;generalize w2.setCell ⟨W1.heap.size,3,none⟩ (.string ⟨s2.toArray⟩)=w3 at jW hrow3 ⊢;obtain⟨xs,hown,rW,hrep⟩:=jW.nodes;obtain⟨c0,c1,c2,c3,c4,c5,c6⟩:=DU hrow3;obtain⟨p1,zP,uK,hBr⟩:=jW.four;have ny:(q.length+1)*72<=140737488355328:=aaV
    go_region_law (refine pR (9) (0) (0) (s2) (0) (0) ([]) jW ny rfl rfl hown rW aeF aeF ?_;intro g cap w5 hown5 gI nT nU nN k5 z5)
    all_goals go_wp2
    all_goals go_ret
    all_goals exact vU he rfl (jW.put (((Below.refl _ w3).drew).alloc (auH _) _) hown hrep hx hown5 gI nT nU)
   .obtain⟨s2,hs2,hs2'⟩:∃s2,Hid (s2=Sp.wordAt (f.drop 1) 0)/\s2=Sp.wordAt (f.drop 1) 0:=⟨_,rfl,rfl⟩;obtain⟨s3,hs3,ah6⟩:∃s3,Hid (s3=Sp.wordAt ((f.drop 1).drop 1) 0)/\s3=Sp.wordAt ((f.drop 1).drop 1) 0:=⟨_,rfl,rfl⟩;have nx:=zB B P wr WT vn (f.drop 1) Gm hR.cells hR.words;have hl2:=EC Dj 0;have hl3:=EC aqp 0;rw[← hs2']at nx hl2;rw[← ah6]at hl3;clear hs2' ah6;have he:Hid _:=SG (k:=k) (q:=q) hop.out abV;rw[← hs2.out,← hs3.out]at he;have pv:=ajV s3 aaV;generalize aU s3=z at he pv;obtain⟨⟨v1,v2,v3,⟨⟩⟩,ok⟩:=z;dsimp only at pv
    go_wp2_with (first
     |(go_at_call 189;refine nx.mono ?_;rintro e w2 ⟨rfl,NR,hf2,hP2,hst2⟩;obtain⟨hR2,Gp⟩:=hR.next hf2 hP2 hst2;have hrow2:=Gp.trans hrow;have z3:=dH hrow2 3;have d3:=aN hrow2 3;clear nx)
     |(have jW:=hR2.zl 3 (.string ⟨s2.toArray⟩);have hrow3:(w2.setCell ⟨W1.heap.size,3,none⟩ (.string ⟨s2.toArray⟩)).heap[W1.heap.size]? =some (.cells (eY 3 0 0 s2 0 0 []) 168 (0,0)):=gJ hrow2 3 _;have nx2:=zB B P _ NR vn ((f.drop 1).drop 1) Gm jW.cells jW.words;rw[← hs3.out]at nx2;go_at_call 189;refine nx2.mono ?_;rintro e w4 ⟨rfl,vf4,hf4,hP4,an2⟩;obtain⟨LC,hN4⟩:=jW.next hf4 hP4 an2;have hrow4:=hN4.trans hrow3;clear nx2)
     |(go_at_call 152;refine(pv _ LC.gl).mono ?_;rintro e w6 ⟨rfl,hb6,hv1,hv2,hv3⟩;have hR6:=LC.below hb6;have Ac:=(hb6.block _ LC.lt).trans hrow4;have y4:=dH Ac 4;have y5:=dH Ac 5;have y6:=dH Ac 6;have x4:w6.cell? ⟨W1.heap.size,4,none⟩=some (.int .i64 0):=aN Ac 4;have x5:w6.cell? ⟨W1.heap.size,5,none⟩=some (.int .i64 0):=aN Ac 5;have x6:w6.cell? ⟨W1.heap.size,6,none⟩=some (.string ⟨([]:List UInt8).toArray⟩):=aN Ac 6))
    have WU:=((hR6.zl 4 (.int .i64 v1)).zl 5 (.int .i64 v2)).zl 6 (.string ⟨v3.toArray⟩);have acy:(((w6.setCell ⟨W1.heap.size,4,none⟩ (.int .i64 v1)).setCell ⟨W1.heap.size,5,none⟩ (.int .i64 v2)).setCell ⟨W1.heap.size,6,none⟩ (.string ⟨v3.toArray⟩)).heap[W1.heap.size]? =some (.cells (eY 3 0 0 s2 v1 v2 v3) 168 (0,0)):=gJ (gJ (gJ Ac 4 _) 5 _) 6 _;have hx:=rJ (op:=3) (s:=s2) ⟨abV,abV⟩ n0 n0 acz hv1 hv2 hv3;generalize ((w6.setCell ⟨W1.heap.size,4,none⟩ (.int .i64 v1)).setCell ⟨W1.heap.size,5,none⟩ (.int .i64 v2)).setCell ⟨W1.heap.size,6,none⟩ (.string ⟨v3.toArray⟩)=w7 at WU acy ⊢;clear x4 x5 x6 y4 y5 y6 d3 z3;obtain⟨xs,hown,rW,hrep⟩:=WU.nodes;obtain⟨c0,c1,c2,c3,c4,c5,c6⟩:=DU acy;obtain⟨p1,zP,uK,hBr⟩:=WU.four;have ny:(q.length+1)*72<=140737488355328:=aaV
    go_region_law (refine pR (3) (0) (0) (s2) (v1) (v2) (v3) WU ny rfl rfl hown rW aeF aeF ?_;intro g cap w5 hown5 gI nT nU nN k5 z5)
    all_goals go_wp2
    all_goals go_ret
    all_goals exact vU he rfl (WU.put (((Below.refl _ w7).drew).alloc (auH _) _) hown hrep hx hown5 gI nT nU)
   .obtain⟨s2,hs2,hs2'⟩:∃s2,Hid (s2=Sp.wordAt (f.drop 1) 0)/\s2=Sp.wordAt (f.drop 1) 0:=⟨_,rfl,rfl⟩;obtain⟨s3,hs3,ah6⟩:∃s3,Hid (s3=Sp.wordAt ((f.drop 1).drop 1) 0)/\s3=Sp.wordAt ((f.drop 1).drop 1) 0:=⟨_,rfl,rfl⟩;have nx:=zB B P wr WT vn (f.drop 1) Gm hR.cells hR.words;have hl2:=EC Dj 0;have hl3:=EC aqp 0;rw[← hs2']at nx hl2;rw[← ah6]at hl3;clear hs2' ah6;have he:Hid _:=SG (k:=k) (q:=q) hop.out abV;rw[← hs2.out,← hs3.out]at he;have pv:=ajV s3 aaV;generalize aU s3=z at he pv;obtain⟨⟨v1,v2,v3,⟨⟩⟩,ok⟩:=z;dsimp only at pv
    go_wp2_with (first
     |(go_at_call 189;refine nx.mono ?_;rintro e w2 ⟨rfl,NR,hf2,hP2,hst2⟩;obtain⟨hR2,Gp⟩:=hR.next hf2 hP2 hst2;have hrow2:=Gp.trans hrow;have z3:=dH hrow2 3;have d3:=aN hrow2 3;clear nx)
     |(have jW:=hR2.zl 3 (.string ⟨s2.toArray⟩);have hrow3:(w2.setCell ⟨W1.heap.size,3,none⟩ (.string ⟨s2.toArray⟩)).heap[W1.heap.size]? =some (.cells (eY 4 0 0 s2 0 0 []) 168 (0,0)):=gJ hrow2 3 _;have nx2:=zB B P _ NR vn ((f.drop 1).drop 1) Gm jW.cells jW.words;rw[← hs3.out]at nx2;go_at_call 189;refine nx2.mono ?_;rintro e w4 ⟨rfl,vf4,hf4,hP4,an2⟩;obtain⟨LC,hN4⟩:=jW.next hf4 hP4 an2;have hrow4:=hN4.trans hrow3;clear nx2)
     |(go_at_call 152;refine(pv _ LC.gl).mono ?_;rintro e w6 ⟨rfl,hb6,hv1,hv2,hv3⟩;have hR6:=LC.below hb6;have Ac:=(hb6.block _ LC.lt).trans hrow4;have y4:=dH Ac 4;have y5:=dH Ac 5;have y6:=dH Ac 6;have x4:w6.cell? ⟨W1.heap.size,4,none⟩=some (.int .i64 0):=aN Ac 4;have x5:w6.cell? ⟨W1.heap.size,5,none⟩=some (.int .i64 0):=aN Ac 5;have x6:w6.cell? ⟨W1.heap.size,6,none⟩=some (.string ⟨([]:List UInt8).toArray⟩):=aN Ac 6))
    have WU:=((hR6.zl 4 (.int .i64 v1)).zl 5 (.int .i64 v2)).zl 6 (.string ⟨v3.toArray⟩);have acy:(((w6.setCell ⟨W1.heap.size,4,none⟩ (.int .i64 v1)).setCell ⟨W1.heap.size,5,none⟩ (.int .i64 v2)).setCell ⟨W1.heap.size,6,none⟩ (.string ⟨v3.toArray⟩)).heap[W1.heap.size]? =some (.cells (eY 4 0 0 s2 v1 v2 v3) 168 (0,0)):=gJ (gJ (gJ Ac 4 _) 5 _) 6 _;have hx:=rJ (op:=4) (s:=s2) ⟨abV,abV⟩ n0 n0 acz hv1 hv2 hv3;generalize ((w6.setCell ⟨W1.heap.size,4,none⟩ (.int .i64 v1)).setCell ⟨W1.heap.size,5,none⟩ (.int .i64 v2)).setCell ⟨W1.heap.size,6,none⟩ (.string ⟨v3.toArray⟩)=w7 at WU acy ⊢;clear x4 x5 x6 y4 y5 y6 d3 z3;obtain⟨xs,hown,rW,hrep⟩:=WU.nodes;obtain⟨c0,c1,c2,c3,c4,c5,c6⟩:=DU acy;obtain⟨p1,zP,uK,hBr⟩:=WU.four;have ny:(q.length+1)*72<=140737488355328:=aaV
    go_region_law (refine pR (4) (0) (0) (s2) (v1) (v2) (v3) WU ny rfl rfl hown rW aeF aeF ?_;intro g cap w5 hown5 gI nT nU nN k5 z5)
    all_goals go_wp2
    all_goals go_ret
    all_goals exact vU he rfl (WU.put (((Below.refl _ w7).drew).alloc (auH _) _) hown hrep hx hown5 gI nT nU)
   .have he:Hid _:=ah5 (k:=k) (q:=q) hop.out;have hcnt:=xK k (f.drop 1) q;have hrl:=LD k (f.drop 1) q;have hwl:=xM k (f.drop 1) q Dj;have hlp:=WS hop.out abV;have nd:=ih.out B P wr WT vn (f.drop 1) q aaV Y5 Gm hR.gl hR.cells hR.words hR.nodes Dj aaV;generalize Sp.rd k (f.drop 1) q=z at he nd hcnt hwl hrl;obtain⟨b1,f2,q2⟩:=z;dsimp only at nd hcnt hwl
    go_wp2_with (first
     |(go_at_call 154;refine nd.mono ?_;rintro e w2 ⟨rfl,hd⟩;obtain⟨⟨NR,vn2,hR2⟩,Gp⟩:=hR.read hd;obtain⟨a2,cap2,SH⟩:=hR2.nodes.form;subst SH;have hrow2:=Gp.trans hrow;have p2:w2.cell? ⟨P,1,none⟩=some (.slice a2 q2.length cap2):=aN hR2.cells 1;have y1:=dH hrow2 1;have x1:w2.cell? ⟨W1.heap.size,1,none⟩=some (.int .i64 0):=aN hrow2 1;clear nd))
    have jW:=hR2.zl 1 (.int .i64 ((q2.length:Int)-1));have hrow3:(w2.setCell ⟨W1.heap.size,1,none⟩ (.int .i64 ((q2.length:Int)-1))).heap[W1.heap.size]? =some (.cells (eY 5 ((q2.length:Int)-1) 0 [] 0 0 []) 168 (0,0)):=gJ hrow2 1 _;have hx:=rJ (op:=5) (l:=(q2.length:Int)-1) ⟨abV,abV⟩ ⟨aaV,aaV⟩ n0 m0 n0 n0 m0;generalize w2.setCell ⟨W1.heap.size,1,none⟩ (.int .i64 ((q2.length:Int)-1))=w3 at jW hrow3 ⊢;clear x1 y1 p2;obtain⟨xs,hown,rW,hrep⟩:=jW.nodes;obtain⟨c0,c1,c2,c3,c4,c5,c6⟩:=DU hrow3;obtain⟨p1,zP,uK,hBr⟩:=jW.four;have ny:(q2.length+1)*72<=140737488355328:=aaV
    go_region_law (refine pR (5) ((q2.length:Int)-1) (0) ([]) (0) (0) ([]) jW ny rfl rfl hown rW aeF aeF ?_;intro g cap w5 hown5 gI nT nU nN k5 z5)
    all_goals go_wp2
    all_goals go_ret
    all_goals exact vU he rfl (jW.put (((Below.refl _ w3).drew).alloc (auH _) _) hown hrep hx hown5 gI nT nU)
   .cases hb1:(Sp.rd k (f.drop 1) q).1 with
    |false=>
     have he:Hid _:=acu (k:=k) (q:=q) hop.out abV hb1;have hcnt:=xK k (f.drop 1) q;have hrl:=LD k (f.drop 1) q;have hwl:=xM k (f.drop 1) q Dj;have hlp:=WS hop.out abV;have nd:=ih.out B P wr WT vn (f.drop 1) q aaV Y5 Gm hR.gl hR.cells hR.words hR.nodes Dj aaV;generalize Sp.rd k (f.drop 1) q=z at he nd hcnt hwl hrl hb1;obtain⟨b1,f2,q2⟩:=z;dsimp only at nd hcnt hwl hrl hb1;subst hb1
     go_wp2_with (first
      |(go_at_call 154;refine nd.mono ?_;rintro e w2 ⟨rfl,hd⟩;obtain⟨⟨NR,vn2,hR2⟩,Gp⟩:=hR.read hd;obtain⟨a2,cap2,SH⟩:=hR2.nodes.form;subst SH;have hrow2:=Gp.trans hrow;have p2:w2.cell? ⟨P,1,none⟩=some (.slice a2 q2.length cap2):=aN hR2.cells 1;have y1:=dH hrow2 1;have x1:w2.cell? ⟨W1.heap.size,1,none⟩=some (.int .i64 0):=aN hrow2 1;have y2:=dH hrow2 2;have x2:w2.cell? ⟨W1.heap.size,2,none⟩=some (.int .i64 0):=aN hrow2 2;clear nd))
     have jW:=(hR2.zl 1 (.int .i64 ((q2.length:Int)-1))).zl 2 (.int .i64 ((q2.length:Int)-1));have hrow3:((w2.setCell ⟨W1.heap.size,1,none⟩ (.int .i64 ((q2.length:Int)-1))).setCell ⟨W1.heap.size,2,none⟩ (.int .i64 ((q2.length:Int)-1))).heap[W1.heap.size]? =some (.cells (eY 6 ((q2.length:Int)-1) ((q2.length:Int)-1) [] 0 0 []) 168 (0,0)):=gJ (gJ hrow2 1 _) 2 _;have hx:=rJ (op:=6) (l:=((q2.length:Int)-1)) (r:=((q2.length:Int)-1)) ⟨abV,abV⟩ ⟨aaV,aaV⟩ ⟨aaV,aaV⟩ m0 n0 n0 m0;generalize (w2.setCell ⟨W1.heap.size,1,none⟩ (.int .i64 ((q2.length:Int)-1))).setCell ⟨W1.heap.size,2,none⟩ (.int .i64 ((q2.length:Int)-1))=w3 at jW hrow3 ⊢;clear x1 y1 x2 y2 p2;obtain⟨xs,hown,rW,hrep⟩:=jW.nodes;obtain⟨c0,c1,c2,c3,c4,c5,c6⟩:=DU hrow3;obtain⟨p1,zP,uK,hBr⟩:=jW.four;have ny:(q2.length+1)*72<=140737488355328:=aaV
     go_region_law (refine pR (6) ((q2.length:Int)-1) ((q2.length:Int)-1) ([]) (0) (0) ([]) jW ny rfl rfl hown rW aeF aeF ?_;intro g cap w5 hown5 gI nT nU nN k5 z5)
     all_goals go_wp2
     all_goals go_ret
     all_goals exact vU he rfl (jW.put (((Below.refl _ w3).drew).alloc (auH _) _) hown hrep hx hown5 gI nT nU)
    |true=>
     have he:Hid _:=XO (k:=k) (q:=q) hop.out abV hb1;have hcnt:=xK k (f.drop 1) q;have hrl:=LD k (f.drop 1) q;have hwl:=xM k (f.drop 1) q Dj;have hlp:=WS hop.out abV;have nd:=ih.out B P wr WT vn (f.drop 1) q aaV Y5 Gm hR.gl hR.cells hR.words hR.nodes Dj aaV;generalize Sp.rd k (f.drop 1) q=z at he nd hcnt hwl hrl hb1;obtain⟨b1,f2,q2⟩:=z;dsimp only at he nd hcnt hwl hrl hb1;subst hb1;have nd2:=λ(w:World)(Jr vn':Value)(hr:EZ B P W1.heap.size W vn.ownBlock w Jr vn' f2 q2)=>ih.out B P w Jr vn' f2 q2 aaV Y5 Gm hr.gl hr.cells hr.words hr.nodes hwl aaV;have hcnt2:=xK k f2 q2;generalize Sp.rd k f2 q2=z2 at he nd2 hcnt2;obtain⟨b2,f3,q3⟩:=z2;dsimp only at he nd2 hcnt2
     go_wp2_with (first
      |(go_at_call 154;refine nd.mono ?_;rintro e w2 ⟨rfl,hd⟩;obtain⟨⟨NR,vn2,hR2⟩,Gp⟩:=hR.read hd;obtain⟨a2,cap2,SH⟩:=hR2.nodes.form;subst SH;have hrow2:=Gp.trans hrow;have p2:w2.cell? ⟨P,1,none⟩=some (.slice a2 q2.length cap2):=aN hR2.cells 1;have y1:=dH hrow2 1;have x1:w2.cell? ⟨W1.heap.size,1,none⟩=some (.int .i64 0):=aN hrow2 1;clear nd)
      |(have jW:=hR2.zl 1 (.int .i64 ((q2.length:Int)-1));have hrow3:(w2.setCell ⟨W1.heap.size,1,none⟩ (.int .i64 ((q2.length:Int)-1))).heap[W1.heap.size]? =some (.cells (eY 6 ((q2.length:Int)-1) 0 [] 0 0 []) 168 (0,0)):=gJ hrow2 1 _;go_at_call 154;refine(nd2 _ _ _ jW).mono ?_;rintro e w4 ⟨rfl,hd4⟩;obtain⟨⟨vf4,vn4,LC⟩,hN4⟩:=jW.read hd4;obtain⟨a4,cap4,an3⟩:=LC.nodes.form;subst an3;have hrow4:=hN4.trans hrow3;have p4:w4.cell? ⟨P,1,none⟩=some (.slice a4 q3.length cap4):=aN LC.cells 1;have y2:=dH hrow4 2;have x2:w4.cell? ⟨W1.heap.size,2,none⟩=some (.int .i64 0):=aN hrow4 2;clear nd2 p2 x1 y1))
     have LG:=LC.zl 2 (.int .i64 ((q3.length:Int)-1));have pX:(w4.setCell ⟨W1.heap.size,2,none⟩ (.int .i64 ((q3.length:Int)-1))).heap[W1.heap.size]? =some (.cells (eY 6 ((q2.length:Int)-1) ((q3.length:Int)-1) [] 0 0 []) 168 (0,0)):=gJ hrow4 2 _;have hx:=rJ (op:=6) (l:=((q2.length:Int)-1)) (r:=(q3.length:Int)-1) ⟨abV,abV⟩ ⟨aaV,aaV⟩ ⟨aaV,aaV⟩ m0 n0 n0 m0;generalize w4.setCell ⟨W1.heap.size,2,none⟩ (.int .i64 ((q3.length:Int)-1))=BR at LG pX ⊢;clear x2 y2 p4;obtain⟨xs,hown,rW,hrep⟩:=LG.nodes;have c0:BR.cell? ⟨W1.heap.size,0,none⟩=some (.int .i64 (6)):=aN pX 0;have c1:BR.cell? ⟨W1.heap.size,1,none⟩=some (.int .i64 ((q2.length:Int)-1)):=aN pX 1;have c2:BR.cell? ⟨W1.heap.size,2,none⟩=some (.int .i64 ((q3.length:Int)-1)):=aN pX 2;have c3:BR.cell? ⟨W1.heap.size,3,none⟩=some (.string ⟨([]:List UInt8).toArray⟩):=aN pX 3;have c4:BR.cell? ⟨W1.heap.size,4,none⟩=some (.int .i64 (0)):=aN pX 4;have c5:BR.cell? ⟨W1.heap.size,5,none⟩=some (.int .i64 (0)):=aN pX 5;have c6:BR.cell? ⟨W1.heap.size,6,none⟩=some (.string ⟨([]:List UInt8).toArray⟩):=aN pX 6;have p1:BR.cell? ⟨P,1,none⟩=some (.slice a4 q3.length cap4):=aN LG.cells 1;have zP:=dH LG.cells 1;have uK:P<BR.heap.size:=(auL.1 LG.cells).1;have hBr:B<=BR.heap.size:=aaV;have ny:(q3.length+1)*72<=140737488355328:=aaV
     go_region_law (refine pR (6) ((q2.length:Int)-1) ((q3.length:Int)-1) ([]) (0) (0) ([]) LG ny rfl rfl hown rW aeF aeF ?_;intro g cap w5 hown5 gI nT nU nN k5 z5)
     all_goals go_wp2
     all_goals go_ret
     all_goals exact vU he rfl (LG.put (((Below.refl _ BR).drew).alloc (auH _) _) hown hrep hx hown5 gI nT nU)
   .cases hb1:(Sp.rd k (f.drop 1) q).1 with
    |false=>
     have he:Hid _:=acu (k:=k) (q:=q) hop.out abV hb1;have hcnt:=xK k (f.drop 1) q;have hrl:=LD k (f.drop 1) q;have hwl:=xM k (f.drop 1) q Dj;have hlp:=WS hop.out abV;have nd:=ih.out B P wr WT vn (f.drop 1) q aaV Y5 Gm hR.gl hR.cells hR.words hR.nodes Dj aaV;generalize Sp.rd k (f.drop 1) q=z at he nd hcnt hwl hrl hb1;obtain⟨b1,f2,q2⟩:=z;dsimp only at nd hcnt hwl hrl hb1;subst hb1
     go_wp2_with (first
      |(go_at_call 154;refine nd.mono ?_;rintro e w2 ⟨rfl,hd⟩;obtain⟨⟨NR,vn2,hR2⟩,Gp⟩:=hR.read hd;obtain⟨a2,cap2,SH⟩:=hR2.nodes.form;subst SH;have hrow2:=Gp.trans hrow;have p2:w2.cell? ⟨P,1,none⟩=some (.slice a2 q2.length cap2):=aN hR2.cells 1;have y1:=dH hrow2 1;have x1:w2.cell? ⟨W1.heap.size,1,none⟩=some (.int .i64 0):=aN hrow2 1;have y2:=dH hrow2 2;have x2:w2.cell? ⟨W1.heap.size,2,none⟩=some (.int .i64 0):=aN hrow2 2;clear nd))
     have jW:=(hR2.zl 1 (.int .i64 ((q2.length:Int)-1))).zl 2 (.int .i64 ((q2.length:Int)-1));have hrow3:((w2.setCell ⟨W1.heap.size,1,none⟩ (.int .i64 ((q2.length:Int)-1))).setCell ⟨W1.heap.size,2,none⟩ (.int .i64 ((q2.length:Int)-1))).heap[W1.heap.size]? =some (.cells (eY 7 ((q2.length:Int)-1) ((q2.length:Int)-1) [] 0 0 []) 168 (0,0)):=gJ (gJ hrow2 1 _) 2 _;have hx:=rJ (op:=7) (l:=((q2.length:Int)-1)) (r:=((q2.length:Int)-1)) ⟨abV,abV⟩ ⟨aaV,aaV⟩ ⟨aaV,aaV⟩ m0 n0 n0 m0;generalize (w2.setCell ⟨W1.heap.size,1,none⟩ (.int .i64 ((q2.length:Int)-1))).setCell ⟨W1.heap.size,2,none⟩ (.int .i64 ((q2.length:Int)-1))=w3 at jW hrow3 ⊢;clear x1 y1 x2 y2 p2;obtain⟨xs,hown,rW,hrep⟩:=jW.nodes;obtain⟨c0,c1,c2,c3,c4,c5,c6⟩:=DU hrow3;obtain⟨p1,zP,uK,hBr⟩:=jW.four;have ny:(q2.length+1)*72<=140737488355328:=aaV
     go_region_law (refine pR (7) ((q2.length:Int)-1) ((q2.length:Int)-1) ([]) (0) (0) ([]) jW ny rfl rfl hown rW aeF aeF ?_;intro g cap w5 hown5 gI nT nU nN k5 z5)
     all_goals go_wp2
     all_goals go_ret
     all_goals exact vU he rfl (jW.put (((Below.refl _ w3).drew).alloc (auH _) _) hown hrep hx hown5 gI nT nU)
    |true=>
     have he:Hid _:=XO (k:=k) (q:=q) hop.out abV hb1;have hcnt:=xK k (f.drop 1) q;have hrl:=LD k (f.drop 1) q;have hwl:=xM k (f.drop 1) q Dj;have hlp:=WS hop.out abV;have nd:=ih.out B P wr WT vn (f.drop 1) q aaV Y5 Gm hR.gl hR.cells hR.words hR.nodes Dj aaV;generalize Sp.rd k (f.drop 1) q=z at he nd hcnt hwl hrl hb1;obtain⟨b1,f2,q2⟩:=z;dsimp only at he nd hcnt hwl hrl hb1;subst hb1;have nd2:=λ(w:World)(Jr vn':Value)(hr:EZ B P W1.heap.size W vn.ownBlock w Jr vn' f2 q2)=>ih.out B P w Jr vn' f2 q2 aaV Y5 Gm hr.gl hr.cells hr.words hr.nodes hwl aaV;have hcnt2:=xK k f2 q2;generalize Sp.rd k f2 q2=z2 at he nd2 hcnt2;obtain⟨b2,f3,q3⟩:=z2;dsimp only at he nd2 hcnt2
     go_wp2_with (first
      |(go_at_call 154;refine nd.mono ?_;rintro e w2 ⟨rfl,hd⟩;obtain⟨⟨NR,vn2,hR2⟩,Gp⟩:=hR.read hd;obtain⟨a2,cap2,SH⟩:=hR2.nodes.form;subst SH;have hrow2:=Gp.trans hrow;have p2:w2.cell? ⟨P,1,none⟩=some (.slice a2 q2.length cap2):=aN hR2.cells 1;have y1:=dH hrow2 1;have x1:w2.cell? ⟨W1.heap.size,1,none⟩=some (.int .i64 0):=aN hrow2 1;clear nd)
      |(have jW:=hR2.zl 1 (.int .i64 ((q2.length:Int)-1));have hrow3:(w2.setCell ⟨W1.heap.size,1,none⟩ (.int .i64 ((q2.length:Int)-1))).heap[W1.heap.size]? =some (.cells (eY 7 ((q2.length:Int)-1) 0 [] 0 0 []) 168 (0,0)):=gJ hrow2 1 _;go_at_call 154;refine(nd2 _ _ _ jW).mono ?_;rintro e w4 ⟨rfl,hd4⟩;obtain⟨⟨vf4,vn4,LC⟩,hN4⟩:=jW.read hd4;obtain⟨a4,cap4,an3⟩:=LC.nodes.form;subst an3;have hrow4:=hN4.trans hrow3;have p4:w4.cell? ⟨P,1,none⟩=some (.slice a4 q3.length cap4):=aN LC.cells 1;have y2:=dH hrow4 2;have x2:w4.cell? ⟨W1.heap.size,2,none⟩=some (.int .i64 0):=aN hrow4 2;clear nd2 p2 x1 y1))
     have LG:=LC.zl 2 (.int .i64 ((q3.length:Int)-1));have pX:(w4.setCell ⟨W1.heap.size,2,none⟩ (.int .i64 ((q3.length:Int)-1))).heap[W1.heap.size]? =some (.cells (eY 7 ((q2.length:Int)-1) ((q3.length:Int)-1) [] 0 0 []) 168 (0,0)):=gJ hrow4 2 _;have hx:=rJ (op:=7) (l:=((q2.length:Int)-1)) (r:=(q3.length:Int)-1) ⟨abV,abV⟩ ⟨aaV,aaV⟩ ⟨aaV,aaV⟩ m0 n0 n0 m0;generalize w4.setCell ⟨W1.heap.size,2,none⟩ (.int .i64 ((q3.length:Int)-1))=BR at LG pX ⊢;clear x2 y2 p4;obtain⟨xs,hown,rW,hrep⟩:=LG.nodes;have c0:BR.cell? ⟨W1.heap.size,0,none⟩=some (.int .i64 (7)):=aN pX 0;have c1:BR.cell? ⟨W1.heap.size,1,none⟩=some (.int .i64 ((q2.length:Int)-1)):=aN pX 1;have c2:BR.cell? ⟨W1.heap.size,2,none⟩=some (.int .i64 ((q3.length:Int)-1)):=aN pX 2;have c3:BR.cell? ⟨W1.heap.size,3,none⟩=some (.string ⟨([]:List UInt8).toArray⟩):=aN pX 3;have c4:BR.cell? ⟨W1.heap.size,4,none⟩=some (.int .i64 (0)):=aN pX 4;have c5:BR.cell? ⟨W1.heap.size,5,none⟩=some (.int .i64 (0)):=aN pX 5;have c6:BR.cell? ⟨W1.heap.size,6,none⟩=some (.string ⟨([]:List UInt8).toArray⟩):=aN pX 6;have p1:BR.cell? ⟨P,1,none⟩=some (.slice a4 q3.length cap4):=aN LG.cells 1;have zP:=dH LG.cells 1;have uK:P<BR.heap.size:=(auL.1 LG.cells).1;have hBr:B<=BR.heap.size:=aaV;have ny:(q3.length+1)*72<=140737488355328:=aaV
     go_region_law (refine pR (7) ((q2.length:Int)-1) ((q3.length:Int)-1) ([]) (0) (0) ([]) LG ny rfl rfl hown rW aeF aeF ?_;intro g cap w5 hown5 gI nT nU nN k5 z5)
     all_goals go_wp2
     all_goals go_ret
     all_goals exact vU he rfl (LG.put (((Below.refl _ BR).drew).alloc (auH _) _) hown hrep hx hown5 gI nT nU)
theorem afk:∀k:Nat,Reads k
 |0=>λ_ _ _ _ _ _ _ h=>absurd h (avE _)
 |k+1=>amO k (afk k)
end Go.Proofs.Tryz
