import Derived.Test.YtncbcelpbmlgdaaGreatDoorP1
import Derived.Test.YtncbcelpbmlgdaaGreatDoorL1
import Derived.Test.YtncbcelpbmlgdaaGreatDoorSp
import Derived.Test.YtncbcelpbmlgdaaGreatDoorV3
import Derived.Test.YtncbcelpbmlgdaaGreatDoorL4
import Derived.Test.YtncbcelpbmlgdaaGreatDoorV20
import Derived.Test.YtncbcelpbmlgdaaGreatDoorFwC
namespace Go.Proofs.Tryz
open Go Go.Fw Go.IntWalk Sp
theorem Sl(a:Int)(x:ak):(Sp.refsOf a x:Int)=(if(x.1=6\/x.1=7\/x.1=5)/\x.2.1=a then 1 else 0)+(if(x.1=6\/x.1=7)/\x.2.2.1=a then 1 else 0):=by unfold Sp.refsOf iT;by_cases h6:x.1=6<;>by_cases h7:x.1=7<;>by_cases h5:x.1=5<;>by_cases hl:x.2.1=a<;>by_cases hr:x.2.2.1=a<;>simp[cond_eq_ite,h6,h7,h5,hl,hr]
theorem aps(a:Int)(x:ak):Sp.refsOf a x<=2:=by have:=Sl a x;split at this<;>split at this<;>omega
def nC(q:List ak)(a:Int)(n:Nat):Nat:=((q.take n).map (Sp.refsOf a)).sum
theorem Oz(q:List ak)(a:Int){n:Nat}(hn:n<q.length):nC q a (n+1)=nC q a n+Sp.refsOf a (Sp.nodeAt q n):=by unfold nC;rw[Sp.take_succ' q n (0,0,0,[],0,0,[],()) hn];simp only[avA,awt,auX,axA,avC,List.sum_nil,av8];rfl
theorem WG(q:List ak)(a:Int):∀n,n<=q.length->nC q a n<=2*n
 |0,_=>by simp[nC]
 |n+1,h=>by rw[Oz q a aaV];have:=WG q a n aaV;have:=aps a (Sp.nodeAt q n);omega
theorem acg(q:List ak)(a:Int):nC q a q.length=gU q a:=by unfold nC gU;rw[avQ]
theorem MG:OK qA.e:=by
 refine PA.ok mixed (aB [] trivial) OA aa1 (show∀q at',qA.goal (MH q at') (q,at',())from ?_);intro q a hin hp;dsimp only[qA]at hp ⊢;have hp:q.length<=2000000:=hp;refine fZ (λi(c:Int)=>((c,i,()),())) (λy=>y.1.2.1) (λ_ _=>rfl) q.length aaV (λn c=>c=(nC q a n:Int)) rfl (λI μ n c hn hJ next=>?_) λI μ c hJ=>?_
 .subst hJ;have hs:=Oz q a hn;have hb:=WG q a n aaV;have hr:=Sl a (Sp.nodeAt q n);dsimp only;rw[auW];have e:q.getD n (0,0,0,[],0,0,[],())=Sp.nodeAt q n:=rfl;rw[e];have w1:IntKind.i64.wrap ((nC q a n:Int)+1)=(nC q a n:Int)+1:=eF _ aaV;have w2:IntKind.i64.wrap ((nC q a n:Int)+1+1)=(nC q a n:Int)+1+1:=eF _ aaV;refine eX aaV ⟨⟨aaV,aaV⟩,af (λh6=>⟨λy=>y=(((nC q a n:Int)+(if(Sp.nodeAt q n).2.1=a then 1 else 0),()),()),⟨⟨aaV,aaV⟩,af (λhl=>⟨rfl,?_⟩) λhl=>⟨rfl,?_⟩⟩,?_⟩) λh6=>⟨⟨aaV,aaV⟩,λy=>y=(((nC q a n:Int)+(if((Sp.nodeAt q n).1=7\/(Sp.nodeAt q n).1=5)/\(Sp.nodeAt q n).2.1=a then 1 else 0),()),()),?_,?_⟩⟩
  .simp only[au5]at hl;rw[w1,if_pos hl]
  .simp only[auD]at hl;rw[if_neg hl,awP]
  .rintro _ rfl;simp only[au5]at h6;refine⟨⟨aaV,aaV⟩,af (λhrr=>⟨rfl,next _ ?_⟩) λhrr=>⟨rfl,next _ ?_⟩⟩
   all_goals
    dsimp only;simp only[au5,auD,ne_eq]at hrr;by_cases hl:(Sp.nodeAt q n).2.1=a<;>simp[h6,hl,hrr]at hr<;>simp only[hl,if_true,awY,awP,w1,w2]<;>omega
  .simp only[auD,ne_eq]at h6;refine af (λh7=>⟨⟨aaV,aaV⟩,af (λhl=>⟨rfl,?_⟩) λhl=>⟨rfl,?_⟩⟩) λh7=>⟨⟨aaV,aaV⟩,af (λh5=>⟨⟨aaV,aaV⟩,af (λhl=>⟨rfl,?_⟩) λhl=>⟨rfl,?_⟩⟩) λh5=>⟨rfl,?_⟩⟩
   all_goals simp_all
  .rintro _ rfl;simp only[auD,ne_eq]at h6;refine af (λh7=>⟨⟨aaV,aaV⟩,af (λhrr=>⟨rfl,next _ ?_⟩) λhrr=>⟨rfl,next _ ?_⟩⟩) λh7=>⟨rfl,next _ ?_⟩
   .simp only[au5]at h7 hrr;by_cases hl:(Sp.nodeAt q n).2.1=a<;>simp[h6,h7,hl,hrr]at hr<;>simp only[h7,hl,true_or,and_self,and_false,if_true,awY,awP,w1,w2]<;>omega
   .simp only[au5,auD,ne_eq]at h7 hrr;by_cases hl:(Sp.nodeAt q n).2.1=a<;>simp[h6,h7,hl,hrr]at hr<;>simp only[h7,hl,true_or,and_self,and_false,if_true,awY,awP,w1,w2]<;>omega
   .simp only[auD,ne_eq]at h7;dsimp only;by_cases h5:(Sp.nodeAt q n).1=5<;>by_cases hl:(Sp.nodeAt q n).2.1=a<;>simp[h6,h7,h5,hl]at hr<;>simp[h7,h5,hl]<;>omega
 .dsimp only;refine eG aaV ?_;rw[hJ,acg]
theorem MI:OK qB.e:=by
 refine PA.ok mixed (aB [] trivial) OB aa1 (show∀q at',qB.goal (MJ q at') (q,at',())from ?_);intro q a hin hp;dsimp only[qB]at hp ⊢;have hp:q.length<=2000000:=hp;refine fZ (λi(c:Int)=>((c,i,()),())) (λy=>y.1.2.1) (λ_ _=>rfl) q.length aaV (λn c=>c=(nC q a n:Int)) rfl (λI μ n c hn hJ next=>?_) λI μ c hJ=>?_
 .subst hJ;have hs:=Oz q a hn;have hb:=WG q a n aaV;have hr:=Sl a (Sp.nodeAt q n);dsimp only;rw[auW];have e:q.getD n (0,0,0,[],0,0,[],())=Sp.nodeAt q n:=rfl;rw[e];have w1:IntKind.i64.wrap ((nC q a n:Int)+1)=(nC q a n:Int)+1:=eF _ aaV;have w2:IntKind.i64.wrap ((nC q a n:Int)+1+1)=(nC q a n:Int)+1+1:=eF _ aaV;refine eX aaV ⟨⟨aaV,aaV⟩,af (λh6=>⟨λy=>y=(((nC q a n:Int)+(if(Sp.nodeAt q n).2.1=a then 1 else 0),()),()),af (λhl=>⟨rfl,?_⟩) λhl=>⟨rfl,?_⟩,?_⟩) λh6=>⟨λy=>y=(((nC q a n:Int)+(if((Sp.nodeAt q n).1=7\/(Sp.nodeAt q n).1=5)/\(Sp.nodeAt q n).2.1=a then 1 else 0),()),()),?_,?_⟩⟩
  .simp only[au5]at hl;rw[w1,if_pos hl]
  .simp only[auD]at hl;rw[if_neg hl,awP]
  .rintro _ rfl;simp only[au5]at h6;refine af (λhrr=>⟨rfl,next _ ?_⟩) λhrr=>⟨rfl,next _ ?_⟩
   all_goals
    dsimp only;simp only[au5,auD,ne_eq]at hrr;by_cases hl:(Sp.nodeAt q n).2.1=a<;>simp[h6,hl,hrr]at hr<;>simp only[hl,if_true,awY,awP,w1,w2]<;>omega
  .simp only[auD,ne_eq]at h6;refine af (λhl=>af (λh7=>⟨rfl,?_⟩) λh7=>af (λh5=>⟨rfl,?_⟩) λh5=>⟨rfl,?_⟩) λhl=>⟨rfl,?_⟩
   all_goals simp_all
  .rintro _ rfl;simp only[auD,ne_eq]at h6;refine af (λhrr=>af (λh7=>⟨rfl,next _ ?_⟩) λh7=>⟨rfl,next _ ?_⟩) λhrr=>⟨rfl,next _ ?_⟩
   .simp only[au5]at h7 hrr;by_cases hl:(Sp.nodeAt q n).2.1=a<;>simp[h6,h7,hl,hrr]at hr<;>simp only[h7,hl,true_or,and_self,and_false,if_true,awY,awP,w1,w2]<;>omega
   .simp only[auD,ne_eq]at h7;dsimp only;by_cases h5:(Sp.nodeAt q n).1=5<;>by_cases hl:(Sp.nodeAt q n).2.1=a<;>simp[h6,h7,h5,hl]at hr<;>simp[h7,h5,hl]<;>omega
   .simp only[auD,ne_eq]at hrr;dsimp only;by_cases h7:(Sp.nodeAt q n).1=7<;>by_cases h5:(Sp.nodeAt q n).1=5<;>by_cases hl:(Sp.nodeAt q n).2.1=a<;>simp[h6,h7,h5,hl,hrr]at hr<;>simp[h7,h5,hl]<;>omega
 .dsimp only;refine eG aaV ?_;rw[hJ,acg]
theorem ach{q:List ak}{n:Nat}(hn:n<q.length)(h:kR q n=false):ax q=false:=by unfold ax;rw[Am hn h];rfl
theorem zY:OK mV.e:=by
 refine PA.ok mixed (aB [iU.e,qA.e,wu.e] ⟨jX,MG,UD,trivial⟩) UE aa1 (show∀q,mV.goal (Sm q) (q,())from ?_);intro q hin hp;dsimp only[mV]at hp ⊢;have hp:q.length<=2000000:=hp;refine kW q.length aaV (λn=>∀i,i<n->kR q i=true) (λi hi=>aaV) (λI μ n hn hJ next=>?_) λI μ hJ=>?_
 .dsimp only;have no:kR q n=false->(false,())=(ax q,()):=λh=>by rw[ach hn h]
  rw[zi (show 0<q.length from aaV) aaV];refine eX aaV ⟨⟨aaV,aaV⟩,trivial,af (λh2=>no ?_) λh2=>af (λh3=>⟨hp,af (λh4=>no ?_) λh4=>⟨rfl,next (dR hJ ?_)⟩⟩) λh3=>⟨rfl,next (dR hJ ?_)⟩⟩
  .have h2:dM (Sp.nodeAt q n) n=false:=iZ h2;unfold kR;rw[h2];rfl
  .have h2:dM (Sp.nodeAt q n) n=true:=fB h2;have h4:(gU q n:Int)≠1:=by simpa using h4
   have h3:(n:Int)<(q.length:Int)-1:=ar4;unfold kR;simp only[h3,h2];simp;omega
  .have h2:dM (Sp.nodeAt q n) n=true:=fB h2;have h4:(gU q n:Int)=1:=by simpa using h4
   have h4:gU q n=1:=aaV;unfold kR;simp[h2,h4]
  .have h2:dM (Sp.nodeAt q n) n=true:=fB h2;have h3:¬(n:Int)<(q.length:Int)-1:=ar5;unfold kR;simp[h2,h3]
 .dsimp only;refine eG aaV ⟨trivial,congrArg (·,()) ?_⟩;unfold ax;rw[ni hJ];rfl
theorem sW:OK jb.e:=by
 refine PA.ok mixed (aB [ji.e,qB.e,wz.e] ⟨kE,MI,UC,trivial⟩) UF aa1 (show∀q,jb.goal (Sr q) (q,())from ?_);intro q hin hp;dsimp only[jb]at hp ⊢;have hp:q.length<=2000000:=hp;refine kW q.length aaV (λn=>∀i,i<n->kR q i=true) (λi hi=>aaV) (λI μ n hn hJ next=>?_) λI μ hJ=>?_
 .dsimp only;have no:kR q n=false->(false,())=(ax q,()):=λh=>by rw[ach hn h]
  rw[zi (show 0<q.length from aaV) aaV];refine eX aaV ⟨⟨aaV,aaV⟩,trivial,af (λh2=>no ?_) λh2=>af (λh3=>⟨hp,af (λh4=>no ?_) λh4=>⟨rfl,next (dR hJ ?_)⟩⟩) λh3=>⟨rfl,next (dR hJ ?_)⟩⟩
  .have h2:dM (Sp.nodeAt q n) n=false:=iZ h2;unfold kR;rw[h2];rfl
  .have h2:dM (Sp.nodeAt q n) n=true:=fB h2;have h4:(gU q n:Int)≠1:=by simpa using h4
   have h3:(n:Int)<(q.length:Int)-1:=ar4;unfold kR;simp only[h3,h2];simp;omega
  .have h2:dM (Sp.nodeAt q n) n=true:=fB h2;have h4:(gU q n:Int)=1:=by simpa using h4
   have h4:gU q n=1:=aaV;unfold kR;simp[h2,h4]
  .have h2:dM (Sp.nodeAt q n) n=true:=fB h2;have h3:¬(n:Int)<(q.length:Int)-1:=ar5;unfold kR;simp[h2,h3]
 .dsimp only;refine eG aaV ⟨trivial,congrArg (·,()) ?_⟩;unfold ax;rw[ni hJ];rfl
theorem afh{d:List bf}{n:Nat}(hn:n<d.length)(h:kF d n=false):mZ d=false:=by unfold mZ;rw[Am hn h];rfl
theorem Ux:OK wB.e:=by
 refine PA.ok mixed (aB [mV.e,lK.e] ⟨zY,zh,trivial⟩) WH aa1 (show∀d,wB.goal (UG d) (d,())from ?_);intro d hin hp;dsimp only[wB]at hp ⊢;have hp:eu d:=hp;have hlen:d.length<=1000:=hp.1;refine kW d.length aaV (λn=>∀i,i<n->kF d i=true) (λi hi=>aaV) (λI μ n hn hJ next=>?_) λI μ hJ=>?_
 .dsimp only;have no:kF d n=false->(false,())=(mZ d,()):=λh=>by rw[afh hn h]
  have hq:(bZ d n).2.1.length<=2000000:=auK (Hr hp hn) aaV;refine eX aaV ⟨⟨aaV,aaV⟩,trivial,af (λh2=>no ?_) λh2=>⟨⟨aaV,aaV⟩,hq,af (λh3=>no ?_) λh3=>af (λh4=>?_) λh4=>⟨rfl,next (dR hJ ?_)⟩⟩⟩
  .have h2:aS (bZ d n).1=false:=iZ h2;unfold kF;rw[h2];rfl
  .have h3:ax (bZ d n).2.1=false:=iZ h3;unfold kF;rw[h3];simp
  .have h2:aS (bZ d n).1=true:=fB h2;have h3:ax (bZ d n).2.1=true:=fB h3;have h4:0<n:=amV;rw[zi h4 aaV];refine⟨⟨aaV,aaV⟩,⟨aaV,aaV⟩,af (λh5=>no ?_) λh5=>⟨rfl,next (dR hJ ?_)⟩⟩
   .have h5:Op.bytesLess (bZ d (n-1)).1 (bZ d n).1=false:=iZ h5;unfold kF;rw[h2,h3,h5,auS h4];rfl
   .have h5:Op.bytesLess (bZ d (n-1)).1 (bZ d n).1=true:=fB h5;unfold kF;rw[h2,h3,h5,auS h4];rfl
  .have h2:aS (bZ d n).1=true:=fB h2;have h3:ax (bZ d n).2.1=true:=fB h3;have h4:¬0<n:=amv;unfold kF;rw[h2,h3,auU h4];rfl
 .dsimp only;refine eG aaV (congrArg (·,()) ?_);unfold mZ;rw[ni hJ];rfl
theorem Uz:OK wC.e:=by
 refine PA.ok mixed (aB [jb.e,lM.e] ⟨sW,zk,trivial⟩) WI aa1 (show∀d,wC.goal (UH d) (d,())from ?_);intro d hin hp;dsimp only[wC]at hp ⊢;have hp:eu d:=hp;have hlen:d.length<=1000:=hp.1;refine kW d.length aaV (λn=>∀i,i<n->kF d i=true) (λi hi=>aaV) (λI μ n hn hJ next=>?_) λI μ hJ=>?_
 .dsimp only;have no:kF d n=false->(false,())=(mZ d,()):=λh=>by rw[afh hn h]
  have hq:(bZ d n).2.1.length<=2000000:=auK (Hr hp hn) aaV;refine eX aaV ⟨⟨aaV,aaV⟩,trivial,af (λh2=>no ?_) λh2=>af (λh4=>?_) λh4=>⟨hq,af (λh3=>no ?_) λh3=>⟨rfl,next (dR hJ ?_)⟩⟩⟩
  .have h2:aS (bZ d n).1=false:=iZ h2;unfold kF;rw[h2];rfl
  .have h2:aS (bZ d n).1=true:=fB h2;have h4:0<n:=amV;rw[zi h4 aaV];refine⟨⟨aaV,aaV⟩,af (λh5=>no ?_) λh5=>⟨hq,af (λh3=>no ?_) λh3=>⟨rfl,next (dR hJ ?_)⟩⟩⟩
   .have h5:Op.bytesLess (bZ d (n-1)).1 (bZ d n).1=false:=iZ h5;unfold kF;rw[h5,auS h4];simp
   .have h3:ax (bZ d n).2.1=false:=iZ h3;unfold kF;rw[h3];simp
   .have h3:ax (bZ d n).2.1=true:=fB h3;have h5:Op.bytesLess (bZ d (n-1)).1 (bZ d n).1=true:=fB h5;unfold kF;rw[h2,h3,h5,auS h4];rfl
  .have h3:ax (bZ d n).2.1=false:=iZ h3;unfold kF;rw[h3];simp
  .have h2:aS (bZ d n).1=true:=fB h2;have h3:ax (bZ d n).2.1=true:=fB h3;have h4:¬0<n:=amv;unfold kF;rw[h2,h3,auU h4];rfl
 .dsimp only;refine eG aaV (congrArg (·,()) ?_);unfold mZ;rw[ni hJ];rfl
end Go.Proofs.Tryz
namespace Go.Proofs.Tryz
open Go Go.Fw Go.IntWalk Sp
theorem afi{S:Type}{B:((Int×Unit)×S->Prop)->((Int×Unit)×S->Nat)->(Int×Unit)×S->Prop}(len:Nat)(hlen:len<=9223372036854775807)(J:Nat->S->Prop){s0:S}(h0:J len s0)
 (hstep:∀I μ(n:Nat)(s:S),n<len->J (n+1) s->(∀s',J n s'->I ((IntKind.i64.wrap ((n:Int)-1),()),s')/\μ ((IntKind.i64.wrap ((n:Int)-1),()),s')<μ (((n:Int),()),s))->B I μ (((n:Int),()),s))
 (hend:∀I μ s,J 0 s->B I μ ((-1,()),s)):∃I,∃μ,I ((IntKind.i64.wrap ((len:Int)-1),()),s0)/\∀y,I y->B I μ y:=by
 have w:∀n:Nat,n<=len->IntKind.i64.wrap ((n:Int)-1)=(n:Int)-1:=λn hn=>eF _ aaV;refine⟨λy=>∃(n:Nat)(s:S),y=(((n:Int)-1,()),s)/\n<=len/\J n s,λy=>(y.1.1+1).toNat,⟨len,s0,by rw[w len (auH _)],auH _,h0⟩,?_⟩;rintro _ ⟨n,s,rfl,hn,hJ⟩;cases n with
 |zero=>exact hend _ _ s hJ
 |succ n=>have e:((n+1:Nat):Int)-1=n:=aaV;rw[e];refine hstep _ _ n s hn hJ λs' hJ'=>?_;rw[w n aaV];refine⟨⟨n,s',rfl,aaV,hJ'⟩,?_⟩;show((n:Int)-1+1).toNat<((n:Int)+1).toNat;omega
theorem getD_set_ne{α:Type}(l:List α)(i n:Nat)(x d:α)(h:i≠n):(l.set i x).getD n d=l.getD n d:=by rw[auF,auF,avy h]
theorem JR{x:ak}{a:Int}(h:dM x a=true)(h2:x.1=5\/x.1=6\/x.1=7):0<=x.2.1/\x.2.1<a:=by obtain⟨x0,x1,x2,x3,x4,x5,x6,_⟩:=x;rw[JQ]at h;rcases h2 with rfl|rfl|rfl<;>simp at h<;>exact⟨h.1.1.1.1,afb⟩
theorem JS{x:ak}{a:Int}(h:dM x a=true)(h2:x.1=6\/x.1=7):0<=x.2.2.1/\x.2.2.1<a:=by obtain⟨x0,x1,x2,x3,x4,x5,x6,_⟩:=x;rw[JQ]at h;rcases h2 with rfl|rfl<;>simp at h<;>exact⟨h.1.2.1,afb⟩
theorem aci{q:List ak}(h:ax q=true){n:Nat}(hn:n<q.length):dM (Sp.nodeAt q n) n=true:=by unfold ax at h;simp only[auC]at h;have:=OC.1 h.1 n hn;unfold kR at this;simp only[auC]at this;exact this.1
theorem gQ{q:List ak}(h:ax q=true):1<=q.length/\q.length<=9:=by unfold ax at h;simp only[auC,auP]at h;omega
theorem Y3{q:List ak}{n:Nat}{out:List (Bool×Unit)}(h:(Sp.nodeAt q n).1=5):jS q n out=out.set (Sp.nodeAt q n).2.1.toNat (true,()):=by unfold jS;simp[h]
theorem Y4{q:List ak}{n:Nat}{out:List (Bool×Unit)}(h:(Sp.nodeAt q n).1=6\/(Sp.nodeAt q n).1=7):jS q n out=(out.set (Sp.nodeAt q n).2.1.toNat ((out.getD n (false,())).1,())).set (Sp.nodeAt q n).2.2.1.toNat ((out.getD n (false,())).1,()):=by unfold jS iT;rcases h with h|h<;>simp[h]
theorem WL{q:List ak}{n:Nat}{out:List (Bool×Unit)}(h5:(Sp.nodeAt q n).1≠5)(h6:(Sp.nodeAt q n).1≠6)(h7:(Sp.nodeAt q n).1≠7):jS q n out=out:=by unfold jS iT;dsimp only;rw[auD.2 h5,auD.2 h6,auD.2 h7];rfl
theorem AB(q:List ak):∀(n:Nat)(out:List (Bool×Unit)),(iF q n out).length=out.length
 |0,out=>rfl
 |n+1,out=>by
  rw[iF,AB q n];unfold jS;simp only[cond_eq_ite];split
  .simp
  .split<;>simp
theorem ajc{q:List ak}(h:ax q=true):(Sp.negated q).length=q.length:=by unfold Sp.negated;rw[h];show(iF q _ _).length=_;rw[AB];simp
theorem Sv:OK uP.e:=by
 refine PA.ok mixed (aB [jb.e] ⟨sW,trivial⟩) UK aa1 (show∀q,uP.goal (Sz q) (q,())from ?_);intro q hin hp;dsimp only[uP]at hp ⊢;have hp:q.length<=1000:=hp;refine⟨aaV,af (λh=>?_) λh=>⟨⟨aaV,aaV,amw⟩,?_⟩⟩
 .have h:=iZ h;unfold Sp.negated;rw[h];rfl
 have hok:=fB h;have hR:Sp.negated q=iF q q.length (List.replicate q.length (false,())):=by unfold Sp.negated;rw[hok];rfl
 refine afi q.length aaV (λn(s:List (Bool×Unit)×Unit)=>s.1.length=q.length/\iF q n s.1=Sp.negated q) ⟨abZ,hR.symm⟩ (λI μ n s hn hJ next=>?_) λI μ s hJ=>?_
 .obtain⟨out,⟨⟩⟩:=s;obtain⟨hl,hJ⟩:=hJ;have hl:out.length=q.length:=hl;have hJ:iF q n (jS q n out)=Sp.negated q:=hJ;have hk:=aci hok hn;have e:q.getD n (0,0,0,[],0,0,[],())=Sp.nodeAt q n:=rfl;dsimp only;rw[auW,e];simp only[avb];refine eX aaV ⟨⟨aaV,aaV⟩,aaV,?_⟩;by_cases h5:(Sp.nodeAt q n).1=5
  .have hb:=JR hk (.inl h5);simp only[h5,Int.reduceBEq,axH,aw2];have fin:iF q n (out.set (Sp.nodeAt q n).2.1.toNat (true,()))=Sp.negated q:=by rw[← Y3 h5];exact hJ
   refine af (λ_=>⟨⟨aaV,aaV⟩,⟨aaV,aaV⟩,⟨aaV,aaV⟩,aaV,trivial,next _ ⟨ar1,fin⟩⟩) λ_=>⟨⟨aaV,aaV⟩,⟨aaV,aaV⟩,⟨aaV,aaV⟩,⟨aaV,aaV⟩,aaV,trivial,next _ ⟨ar1,fin⟩⟩
  by_cases Qi:(Sp.nodeAt q n).1=6\/(Sp.nodeAt q n).1=7
  .have hb:=JR hk (.inr Qi);have hb2:=JS hk Qi;have fin:∀b,(out.getD n (false,())).1=b->iF q n ((out.set (Sp.nodeAt q n).2.1.toNat (b,())).set (Sp.nodeAt q n).2.2.1.toNat (b,()))=Sp.negated q:=λb hb=>by rw[← hb,← Y4 Qi];exact hJ
   rcases Qi with h6|h6
   all_goals
    simp only[h6,Int.reduceBEq,axH,aw2];refine af (λhc=>⟨⟨aaV,aaV⟩,⟨aaV,aaV⟩,⟨aaV,aaV⟩,⟨aaV,aaV⟩,aaV,⟨aaV,aaV⟩,aaV,trivial,next _ ⟨ar1,fin true hc⟩⟩) λhc=>⟨⟨aaV,aaV⟩,⟨aaV,aaV⟩,⟨aaV,aaV⟩,⟨aaV,aaV⟩,⟨aaV,aaV⟩,aaV,⟨aaV,aaV⟩,aaV,trivial,next _ ⟨ar1,fin false hc⟩⟩
  .have h6:(Sp.nodeAt q n).1≠6:=λh=>Qi (.inl h);have h7:(Sp.nodeAt q n).1≠7:=λh=>Qi (.inr h);have fin:iF q n out=Sp.negated q:=by rw[WL h5 h6 h7]at hJ;exact hJ
   simp only[auD.2 h5,auD.2 h6,auD.2 h7,aw2];exact af (λ_=>⟨⟨aaV,aaV⟩,rfl,next _ ⟨hl,fin⟩⟩) λ_=>⟨⟨aaV,aaV⟩,⟨aaV,aaV⟩,rfl,next _ ⟨hl,fin⟩⟩
 .obtain⟨out,⟨⟩⟩:=s;obtain⟨hl,hJ⟩:=hJ;dsimp only;refine eG aaV ?_;have hJ:out=Sp.negated q:=hJ;rw[hJ]
theorem SA:OK uO.e:=by
 refine PA.ok mixed (aB [mV.e] ⟨zY,trivial⟩) UL aa1 (show∀q,uO.goal (SB q) (q,())from ?_);intro q hin hp;dsimp only[uO]at hp ⊢;have hp:q.length<=1000:=hp;refine⟨aaV,af (λh=>?_) λh=>⟨⟨aaV,aaV,amw⟩,?_⟩⟩
 .have h:=iZ h;unfold Sp.negated;rw[h];rfl
 have hok:=fB h;have hR:Sp.negated q=iF q q.length (List.replicate q.length (false,())):=by unfold Sp.negated;rw[hok];rfl
 refine afi q.length aaV (λn(s:List (Bool×Unit)×Unit)=>s.1.length=q.length/\iF q n s.1=Sp.negated q) ⟨abZ,hR.symm⟩ (λI μ n s hn hJ next=>?_) λI μ s hJ=>?_
 .obtain⟨out,⟨⟩⟩:=s;obtain⟨hl,hJ⟩:=hJ;have hl:out.length=q.length:=hl;have hJ:iF q n (jS q n out)=Sp.negated q:=hJ;have hk:=aci hok hn;have e:q.getD n (0,0,0,[],0,0,[],())=Sp.nodeAt q n:=rfl;dsimp only;rw[auW,e];simp only[avb];refine eX aaV ⟨⟨aaV,aaV⟩,?_⟩;by_cases h5:(Sp.nodeAt q n).1=5
  .have hb:=JR hk (.inl h5);simp only[h5,Int.reduceBEq,axH,aw2];have fin:iF q n (out.set (Sp.nodeAt q n).2.1.toNat (true,()))=Sp.negated q:=by rw[← Y3 h5];exact hJ
   exact⟨⟨aaV,aaV⟩,aaV,trivial,next _ ⟨ar1,fin⟩⟩
  by_cases Qi:(Sp.nodeAt q n).1=6\/(Sp.nodeAt q n).1=7
  .have hb:=JR hk (.inr Qi);have hb2:=JS hk Qi;have hne:(Sp.nodeAt q n).2.1.toNat≠n:=aaV;have fin:iF q n ((out.set (Sp.nodeAt q n).2.1.toNat ((out.getD n (false,())).1,())).set (Sp.nodeAt q n).2.2.1.toNat ((out.getD n (false,())).1,()))=Sp.negated q:=by rw[← Y4 Qi];exact hJ
   rcases Qi with h6|h6
   all_goals
    simp only[h6,Int.reduceBEq,axH,aw2,getD_set_ne _ _ _ _ _ hne];exact⟨⟨aaV,aaV⟩,aaV,⟨aaV,aaV⟩,aaV,⟨aaV,aaV⟩,aaV,⟨aaV,aaV⟩,aaV,trivial,next _ ⟨ar1,fin⟩⟩
  .have h6:(Sp.nodeAt q n).1≠6:=λh=>Qi (.inl h);have h7:(Sp.nodeAt q n).1≠7:=λh=>Qi (.inr h);have fin:iF q n out=Sp.negated q:=by rw[WL h5 h6 h7]at hJ;exact hJ
   simp only[auD.2 h5,auD.2 h6,auD.2 h7,aw2];exact⟨rfl,next _ ⟨hl,fin⟩⟩
 .obtain⟨out,⟨⟩⟩:=s;obtain⟨hl,hJ⟩:=hJ;dsimp only;refine eG aaV ?_;have hJ:out=Sp.negated q:=hJ;rw[hJ]
end Go.Proofs.Tryz
namespace Go.Proofs.Tryz
open Go Go.Fw Go.IntWalk Sp
def aeo(q:List ak)(neg:Bool)(i:Nat):Option Sp.Bytes:=bif o5 (Sp.nodeAt q i)&&((Sp.negated q).getD i (false,())).1==neg then some (Sp.nodeAt q i).2.2.2.1 else none
def BU(q:List ak)(neg:Bool)(n:Nat):List Sp.Bytes:=(List.range n).filterMap (aeo q neg)
theorem wZ(q:List ak)(neg:Bool):BU q neg (Sp.negated q).length=dO q neg:=rfl
theorem acE{q:List ak}{neg:Bool}{n:Nat}(h1:o5 (Sp.nodeAt q n)=true)(h2:((Sp.negated q).getD n (false,())).1=neg):BU q neg (n+1)=BU q neg n++[(Sp.nodeAt q n).2.2.2.1]:=by
 unfold BU;rw[axb,List.filterMap_append];congr 1;show List.filterMap _ [n]=_;rw[List.filterMap_cons];have:aeo q neg n=some (Sp.nodeAt q n).2.2.2.1:=by unfold aeo;rw[h1,h2];simp
 rw[this];rfl
theorem NU{q:List ak}{neg:Bool}{n:Nat}(h:¬(o5 (Sp.nodeAt q n)=true/\((Sp.negated q).getD n (false,())).1=neg)):BU q neg (n+1)=BU q neg n:=by
 unfold BU;rw[axb,List.filterMap_append];have:aeo q neg n=none:=by
  unfold aeo;have:(o5 (Sp.nodeAt q n)&&((Sp.negated q).getD n (false,())).1==neg)=false:=by rw[axM];intro h';rw[auC,au5]at h';exact h h'
  rw[this];rfl
 rw[List.filterMap_cons,this];simp
theorem xg(q:List ak)(neg:Bool)(n:Nat):(BU q neg n).length<=n:=by have:=List.length_filterMap_le (aeo q neg) (List.range n);rw[List.length_range]at this;exact this
theorem xk(q:List ak):(Sp.negated q).length<=q.length:=by
 cases h:ax q with
 |true=>rw[ajc h];exact auH _
 |false=>unfold Sp.negated;rw[h];exact auZ _
theorem Js:OK uj.e:=by
 refine XA.ok mixed (aB [(Dh,.eff (Dw qJ) AX),Bf.e,uP.e] ⟨⟨VR,Un⟩,aas,Sv,trivial⟩) aaA (λ⟨q,neg,_⟩ hp=>⟨((((dO q neg).map λs=>(s,()),()),())),⟨by show((dO q neg).map _).length<=1000;rw[auV];have:=xg q neg (Sp.negated q).length;have:=xk q;have hp:q.length<=1000:=hp;rw[wZ]at*;omega,λs=>by show(s,())∈(dO q neg).map _↔_;simp⟩⟩) aa1 (show∀q negated,uj.goal (Yz q negated) (q,negated,())from ?_);intro q neg hin hp;dsimp only[uj]at hp ⊢;have hp:q.length<=1000:=hp;have hnl:=xk q;refine⟨hp,?_⟩;refine fZ (λi(x:Sp.LS)=>(((),i,()),x,())) (λy=>y.1.2.1) (λ_ _=>rfl) (Sp.negated q).length aaV (λn l=>l=(BU q neg n).map λs=>(s,())) rfl (λI μ n l hn hJ next=>?_) λI μ l hJ=>?_
 .subst hJ;have hl:=xg q neg n;dsimp only;refine eX aaV ⟨⟨aaV,aaV⟩,⟨aaV,aaV⟩,trivial,af (λh1=>af (λh2=>⟨⟨aaV,aaV⟩,?_,rfl,next _ ?_⟩) λh2=>⟨rfl,next _ ?_⟩) λh1=>⟨rfl,next _ ?_⟩⟩
  .rw[iC];simp only[auE,auI,auV];omega
  .rw[acE (show o5 (Sp.nodeAt q n)=true from h1) (au5.1 h2),avA];rfl
  .rw[NU λh=>by have h2:=auD.1 h2;exact h2 h.2]
  .rw[NU λh=>by have h1:o5 (Sp.nodeAt q n)=false:=h1;rw[h1]at h;cases h.1]
 .subst hJ;have hl:=xg q neg (Sp.negated q).length;rw[wZ]at hl ⊢;dsimp only;refine eG aaV ⟨by rw[auV];omega,?_⟩;rintro⟨⟨r,⟨⟩⟩,⟨⟩⟩ ⟨h1,h2⟩;have h1:r.length<=((dO q neg).map λs=>(s,())).length:=h1;rw[auV]at h1;refine⟨by show r.length<=1000;omega,λs=>?_⟩;have:=h2 (s,());show(s,())∈r↔_;rw[this];simp
theorem RG:OK uQ.e:=by refine XA.ok mixed (aB [uj.e] ⟨Js,trivial⟩) H0 (λ⟨q,_⟩ hp=>⟨((((dO q false).map λs=>(s,()),()),())),⟨by show((dO q false).map _).length<=1000;rw[auV];have:=xg q false (Sp.negated q).length;have:=xk q;have hp:q.length<=1000:=hp;rw[wZ]at*;omega,λs=>by show(s,())∈(dO q false).map _↔_;simp⟩⟩) aa1 (show∀q,uQ.goal (SL q) (q,())from ?_);intro q hin hp;dsimp only[uQ]at hp ⊢;exact⟨hp,λr hr=>hr⟩
theorem RD:OK uS.e:=by refine XA.ok mixed (aB [uj.e] ⟨Js,trivial⟩) H0 (λ⟨q,_⟩ hp=>⟨((((dO q true).map λs=>(s,()),()),())),⟨by show((dO q true).map _).length<=1000;rw[auV];have:=xg q true (Sp.negated q).length;have:=xk q;have hp:q.length<=1000:=hp;rw[wZ]at*;omega,λs=>by show(s,())∈(dO q true).map _↔_;simp⟩⟩) aa1 (show∀q,uS.goal (SN q) (q,())from ?_);intro q hin hp;dsimp only[uS]at hp ⊢;exact⟨hp,λr hr=>hr⟩
theorem ajY{l:Sp.LS}{s:Sp.Bytes}{m:Nat}(hm:m<=l.length)(h1:∀i,i<m->Op.bytesLess (l.getD i ([],())).1 s=true)(h2:m<l.length->Op.bytesLess (l.getD m ([],())).1 s=false):
 N8 l s=bif decide (m<l.length)&&(l.getD m ([],())).1==s then l else l.take m++[(s,())]++l.drop m:=by
 obtain⟨e1,_⟩:=Lc (d:=(([]:List UInt8),())) l m hm (p:=λx=>Op.bytesLess x.1 s) h1 h2;unfold N8;rw[e1];have:(l.take m).length=m:=ah8;rw[this]
theorem an5{l:Sp.LS}{s:Sp.Bytes}(x:Sp.Bytes×Unit):x∈N8 l s↔x=(s,())\/x∈l:=by
 unfold N8;dsimp only;generalize (l.takeWhile λx=>Op.bytesLess x.1 s).length=n;cases h:decide (n<l.length)&&(l.getD n ([],())).1==s with
 |true=>
  rw[auC,au5]at h;refine⟨.inr,λhx=>?_⟩;rcases hx with rfl|hx
  .have:=getD_mem (d:=(([]:List UInt8),())) (fE h.1);rw[show l.getD n ([],())=(s,())from axU h.2 rfl]at this;exact this
  .exact hx
 |false=>
  show x∈l.take n++[(s,())]++l.drop n↔_;rw[au4,au4,au0]
  conv=>rhs;rw[← awm n l,au4]
  constructor
  .rintro((h|h)|h)
   .exact .inr (.inl h)
   .exact .inl h
   .exact .inr (.inr h)
  .rintro(h|h|h)
   .exact .inl (.inr h)
   .exact .inl (.inl h)
   .exact .inr h
theorem an6(l:Sp.LS)(s:Sp.Bytes):(N8 l s).length<=l.length+1:=by
 unfold N8;dsimp only;generalize (l.takeWhile λx=>Op.bytesLess x.1 s).length=n;cases decide (n<l.length)&&(l.getD n ([],())).1==s with
 |true=>exact Nat.le_succ _
 |false=>show(l.take n++[(s,())]++l.drop n).length<=_;simp;omega
theorem aep:OK Ec.e:=by
 refine PA.ok mixed (aB [] trivial) aga aa1 (show∀list s,Ec.goal (aer list s) (list,s,())from ?_);intro l s hin hp;dsimp only[Ec]at hp ⊢;have hp:l.length<=1000:=hp;have fin:∀m:Nat,m<=l.length->N8 l s=l.take m++[(s,())]++l.drop m->((0:Int)<=m/\(m:Int)<=l.length)/\0+(List.drop 0 (List.take m l)).length<=big/\(List.drop 0 (List.take m l)).length+[(s,())].length<=big/\((0:Int)<=m/\(m:Int)<=l.length)/\
  (List.drop 0 (List.take m l)++[(s,())]).length+(List.drop m (List.take l.length l)).length<=big/\(List.drop 0 (List.take m l)++[(s,())]++List.drop m (List.take l.length l),())=(N8 l s,()):=by
  intro m hm h;refine⟨⟨aaV,aaV⟩,?_,?_,⟨aaV,aaV⟩,?_,?_⟩
  .rw[iC];simp only[au9,auN];omega
  .rw[iC];simp only[au9,auN,auE,auI];omega
  .rw[iC];simp only[auB,au9,auN,auE,auI];omega
  .rw[h,avQ,awn]
 refine kW l.length aaV (λn=>∀i,i<n->Op.bytesLess (l.getD i ([],())).1 s=true) (λi hi=>aaV) (λI μ n hn hJ next=>?_) λI μ hJ=>?_
 .dsimp only;refine eX aaV ⟨⟨aaV,aaV⟩,af (λh=>⟨rfl,next (dR (f:=λi=>Op.bytesLess (l.getD i ([],())).1 s) hJ h)⟩) λh=>eX aaV ⟨⟨aaV,aaV⟩,?_⟩⟩;have e:=ajY (axB hn) hJ λ_=>h;rw[auS hn,awI]at e;refine af (λh2=>?_) λh2=>fin n (axB hn) ?_
  .rw[show((l.getD n ([],())).1==s)=true from h2]at e;rw[e];rfl
  .rw[show((l.getD n ([],())).1==s)=false from h2]at e;exact e
 .dsimp only;refine eG aaV (eG aaV (fin l.length (auH _) ?_));have e:=ajY (auH _) hJ λh=>aaV;rw[auU aaV]at e;exact e
theorem amP(x:ak):o5 x=(decide (8<=x.1)&&decide (x.1<=9)):=by unfold o5;rw[ave];simp;omega
theorem LH:OK wE.e:=by
 refine XA.ok mixed (aB [Ec.e,iU.e,uO.e] ⟨aep,jX,SA,trivial⟩) acF (λ⟨q,neg,_⟩ hp=>⟨((((dO q neg).map λs=>(s,()),()),())),⟨by show((dO q neg).map _).length<=1000;rw[auV];have:=xg q neg (Sp.negated q).length;have:=xk q;have hp:q.length<=1000:=hp;rw[wZ]at*;omega,λs=>by show(s,())∈(dO q neg).map _↔_;simp⟩⟩) aa1 (show∀q under,wE.goal (aaB q under) (q,under,())from ?_);intro q neg hin hp;dsimp only[wE]at hp ⊢;have hp:q.length<=1000:=hp;have hnl:=xk q;refine⟨hp,?_⟩;refine fZ (λi(x:Sp.LS)=>((x,i,()),())) (λy=>y.1.2.1) (λ_ _=>rfl) (Sp.negated q).length aaV (λn l=>l.length<=n/\∀s,(s,())∈l↔s∈BU q neg n) ⟨auH _,λs=>by simp[BU]⟩ (λI μ n l hn hJ next=>?_) λI μ l hJ=>?_
 .obtain⟨hl,hJ⟩:=hJ;dsimp only;have hnm:=amP (Sp.nodeAt q n);refine eX aaV ⟨⟨aaV,aaV⟩,trivial,af (λh1=>⟨⟨aaV,aaV⟩,af (λh2=>⟨⟨aaV,aaV⟩,aaV,rfl,next _ ?_⟩) λh2=>⟨rfl,next _ ⟨aaV,?_⟩⟩⟩) λh1=>⟨rfl,next _ ⟨aaV,?_⟩⟩⟩
  .have h1:(decide (8<=(Sp.nodeAt q n).1)&&decide ((Sp.nodeAt q n).1<=9))=true:=h1;rw[acE (hnm.trans h1) (au5.1 h2)];refine⟨auK (an6 _ _) aaV,λs=>?_⟩;rw[an5,au4,au0,hJ,Prod.mk.injEq];constructor
   .rintro(⟨h,_⟩|h)
    .exact .inr h
    .exact .inl h
   .rintro(h|h)
    .exact .inr h
    .exact .inl ⟨h,rfl⟩
  .rw[NU λh=>by have h2:=auD.1 h2;exact h2 h.2];exact hJ
  .rw[NU λh=>by have h1:(decide (8<=(Sp.nodeAt q n).1)&&decide ((Sp.nodeAt q n).1<=9))=false:=h1;rw[hnm,h1]at h;cases h.1];exact hJ
 .obtain⟨hl,hJ⟩:=hJ;rw[wZ]at hJ;dsimp only;exact eG aaV ⟨amw,by show l.length<=1000;omega,hJ⟩
theorem SQ:OK uT.e:=by refine XA.ok mixed (aB [wE.e] ⟨LH,trivial⟩) H0 (λ⟨q,_⟩ hp=>⟨((((dO q false).map λs=>(s,()),()),())),⟨by show((dO q false).map _).length<=1000;rw[auV];have:=xg q false (Sp.negated q).length;have:=xk q;have hp:q.length<=1000:=hp;rw[wZ]at*;omega,λs=>by show(s,())∈(dO q false).map _↔_;simp⟩⟩) aa1 (show∀q,uT.goal (SS q) (q,())from ?_);intro q hin hp;dsimp only[uT]at hp ⊢;exact⟨hp,λr hr=>hr⟩
theorem SX:OK uU.e:=by refine XA.ok mixed (aB [wE.e] ⟨LH,trivial⟩) H0 (λ⟨q,_⟩ hp=>⟨((((dO q true).map λs=>(s,()),()),())),⟨by show((dO q true).map _).length<=1000;rw[auV];have:=xg q true (Sp.negated q).length;have:=xk q;have hp:q.length<=1000:=hp;rw[wZ]at*;omega,λs=>by show(s,())∈(dO q true).map _↔_;simp⟩⟩) aa1 (show∀q,uU.goal (SY q) (q,())from ?_);intro q hin hp;dsimp only[uU]at hp ⊢;exact⟨hp,λr hr=>hr⟩
end Go.Proofs.Tryz
namespace Go.Proofs.Tryz
open Go Go.Fw Go.IntWalk Sp
theorem NV:OK yM.e:=by refine PA.ok mixed (aB [] trivial) H0 aa1 (show∀x0 x1 p10,yM.goal (acG x0 x1 p10) ((x0,x1,()),(p10,()),())from ?_);intro x0 x1 p hin hp;dsimp only[yM]at hp ⊢;exact rfl
theorem KZ{d:List bf}{s:Sp.Bytes}{n:Nat}(hn:n<d.length)(h1:(bZ d n).1=s)(h2:∀i,i<n->(bZ d i).1≠s):aA d s=n:=by
 rcases Hy d s with⟨_,h⟩|⟨m,g1,g2,g3,g4⟩
 .exact(h _ (getD_mem (d:=(([]:List UInt8),([]:List ak),())) hn) h1).elim
 .have:m=n:=by
   rcases Nat.lt_trichotomy m n with h|h|h
   .exact(h2 m h g3).elim
   .exact h
   .exact(g4 n h h1).elim
  rw[g2,this]
theorem aic{d:List bf}{s:Sp.Bytes}(h2:∀i,i<d.length->(bZ d i).1≠s):aA d s=-1:=by
 rcases Hy d s with⟨h,_⟩|⟨m,g1,_,g3,_⟩
 .exact h
 .exact(h2 m g1 g3).elim
theorem zn:OK iD.e:=by
 refine PA.ok mixed (aB [yM.e] ⟨NV,trivial⟩) zy aa1 (show∀s aid,iD.goal (zo s aid) (s,((aid,()),()),())from ?_);intro d s hin hp;dsimp only[iD]at hp ⊢;have hlen:d.length<=maxLen:=hin.1.1;rw[maxLen_eq]at hlen;refine kW d.length hlen (λn=>∀i,i<n->(bZ d i).1≠s) (λi hi=>aaV) (λI μ n hn hJ next=>?_) λI μ hJ=>?_
 .dsimp only;refine eX aaV ⟨⟨aaV,aaV⟩,trivial,af (λh=>?_) λh=>⟨rfl,next λi hi=>?_⟩⟩
  .rw[KZ hn (au5.1 h) hJ]
  .rcases au2 i n with h'|h'
   .exact hJ i h'
   .have:i=n:=aaV;rw[this];exact auD.1 h
 .dsimp only;refine eG aaV ?_;rw[aic hJ]
theorem agb:OK Fh.e:=by refine PA.ok mixed (aB [iD.e,yM.e] ⟨zn,NV,trivial⟩) H0 aa1 (show∀d name,Fh.goal (agc d name) (d,name,())from ?_);intro d s hin hp;dsimp only[Fh]at hp ⊢;exact⟨trivial,rfl⟩
theorem aaC:OK Bg.e:=by
 refine PA.ok mixed (aB [] trivial) acH aa1 (show∀d name,Bg.goal (aaD d name) (d,name,())from ?_);intro d s hin hp;dsimp only[Bg]at hp ⊢;have hlen:d.length<=maxLen:=hin.1.1;rw[maxLen_eq]at hlen;refine kW d.length hlen (λn=>∀i,i<n->(bZ d i).1≠s) (λi hi=>aaV) (λI μ n hn hJ next=>?_) λI μ hJ=>?_
 .dsimp only;refine eX aaV ⟨⟨aaV,aaV⟩,af (λh=>?_) λh=>⟨rfl,next λi hi=>?_⟩⟩
  .rw[KZ hn (au5.1 h) hJ]
  .rcases au2 i n with h'|h'
   .exact hJ i h'
   .have:i=n:=aaV;rw[this];exact auD.1 h
 .dsimp only;refine eG aaV ?_;rw[aic hJ]
theorem Uy:OK wF.e:=by
 refine PA.ok mixed (aB [Fh.e] ⟨agb,trivial⟩) W9 aa1 (show∀d Gq names more,wF.goal (UY d Gq names more) (d,Gq,names,more,())from ?_);intro d aI names more hin hp;dsimp only[wF]at hp ⊢;obtain⟨h1,h2,h3,h4,h5⟩:d.length<=aI.length/\names.length<=1000/\0<=more/\more<=1/\∀x∈aI,0<=x.1/\x.1<=1000000:=hp;refine fZ (λi(c:Int)=>((c,i,()),())) (λy=>y.1.2.1) (λ_ _=>rfl) names.length aaV (λn c=>∀B,c<=B↔0<=B/\∀x∈names.take n,0<=aA d x.1->Sp.lv aI (aA d x.1).toNat+more<=B) (λB=>abZ) (λI μ n c hn hJ next=>?_) λI μ c hJ=>?_
 .dsimp only;rw[auW];have e:=Sp.take_succ' names n ([],()) hn;refine eX aaV ⟨⟨aaV,aaV⟩,trivial,af (λh=>?_) λh=>⟨rfl,next _ λB=>?_⟩⟩
  .have h:0<=aA d (names.getD n ([],())).1:=fE h;have hlt:=Ig h;have hb:=h5 _ (aie (l:=aI) (i:=(aA d (names.getD n ([],())).1).toNat) aaV);dsimp only at hb;have hw:IntKind.i64.wrap (Sp.lv aI (aA d (names.getD n ([],())).1).toNat+more)=Sp.lv aI (aA d (names.getD n ([],())).1).toNat+more:=eF _ aaV;have e2:(aI.getD (aA d (names.getD n ([],())).1).toNat (0,())).1=Sp.lv aI (aA d (names.getD n ([],())).1).toNat:=rfl;refine⟨⟨h,aaV⟩,rfl,next _ λB=>?_⟩;rw[e2,hw,e];simp only[au4,au0];have:=hJ B;constructor
   .intro hB;have hc:c<=B:=by split at hB<;>omega
    have hv:Sp.lv aI (aA d (names.getD n ([],())).1).toNat+more<=B:=by split at hB<;>omega
    obtain⟨a,b⟩:=this.1 hc;refine⟨a,λx hx hx0=>?_⟩;rcases hx with hx|rfl
    .exact b x hx hx0
    .exact hv
   .rintro⟨a,b⟩;have hc:=this.2 ⟨a,λx hx=>b x (.inl hx)⟩;have hv:=b _ (.inr rfl) h;split<;>omega
  .have h:¬0<=aA d (names.getD n ([],())).1:=fV h;rw[hJ B,e];simp only[au4,au0];constructor
   .rintro⟨a,b⟩;refine⟨a,λx hx hx0=>?_⟩;rcases hx with hx|rfl
    .exact b x hx hx0
    .exact(h hx0).elim
   .exactλ⟨a,b⟩=>⟨a,λx hx=>b x (.inl hx)⟩
 .dsimp only;refine eG aaV (congrArg (·,()) ?_);rw[avQ]at hJ;have h6:=λB=>(hJ B).trans (EW (d:=d) (aI:=aI) (more:=more) names B).symm;have a:=(h6 c).1 (avt _);have b:=(h6 (wG d aI more names)).2 (avt _);omega
end Go.Proofs.Tryz
namespace Go.Proofs.Tryz
open Go Go.Fw Go.IntWalk Sp
theorem afm{d:List bf}{i:Nat}(hi:i<d.length){neg:Bool}{r:Sp.LS}(hr:jc r (dO (bZ d i).2.1 neg)){p:Nat}(hp:p<r.length)(h0:0<=aA d (r.getD p ([],())).1):
 (i,(aA d (r.getD p ([],())).1).toNat,if neg then 1 else 0)∈cZ d:=by
 have hm:=getD_mem (d:=(([]:List UInt8),())) hp;have:=(hr.2 (r.getD p ([],())).1).1 hm;cases neg with
 |false=>exact EX.2 ⟨hi,_,.inl ⟨rfl,this⟩,h0,rfl⟩
 |true=>exact EX.2 ⟨hi,_,.inr ⟨rfl,this⟩,h0,rfl⟩
theorem ND{d:List bf}{i j m:Nat}{neg:Bool}{r:Sp.LS}(hr:jc r (dO (bZ d i).2.1 neg))(he:(i,j,m)∈cZ d)(hm:m=if neg then 1 else 0):
 ∃p,p<r.length/\0<=aA d (r.getD p ([],())).1/\j=(aA d (r.getD p ([],())).1).toNat:=by
 obtain⟨_,s,h2,h3,h4⟩:=EX.1 he;have hs:s∈dO (bZ d i).2.1 neg:=by
  cases neg with
  |false=>rcases h2 with⟨_,h⟩|⟨h,_⟩;exact h;simp at hm;omega
  |true=>rcases h2 with⟨h,_⟩|⟨_,h⟩;simp at hm;omega;exact h
 have hm:=(hr.2 s).2 hs;obtain⟨p,hp,e⟩:=avY hm;have e2:r.getD p ([],())=(s,()):=by rw[auF,auJ hp,e];rfl
 exact⟨p,hp,by rw[e2];exact h3,by rw[e2];exact h4⟩
theorem amQ:∀x,(qV.F x).1->∃t,(qV.F x).2 t:=by rintro⟨d,aI,_⟩ hp;obtain⟨_,_,h3,h4⟩:eu d/\d.length<=5/\aI.length=d.length/\∀x∈aI,0<=x.1/\x.1<=1000000:=hp;obtain⟨r,hr⟩:=ajh d aI h3 λi hi=>(h4 _ (aie aaV)).1;exact⟨((r,()),()),hr⟩
theorem aag:OK qV.e:=by
 refine XA.ok mixed (aB [uU.e,Bg.e,uT.e] ⟨SX,aaC,SQ,trivial⟩) acI (amQ) aa1 (show∀d aI,qV.goal (aaE d aI) (d,aI,())from ?_);intro d aI hin hp;dsimp only[qV]at hp ⊢;obtain⟨h1,h2,h3,h4⟩:eu d/\d.length<=5/\aI.length=d.length/\∀x∈aI,0<=x.1/\x.1<=1000000:=hp;have h0:∀i,i<d.length->0<=Sp.lv aI i/\Sp.lv aI i<=1000000:=λi hi=>h4 _ (aie aaV);have hB:∀i,i<d.length->Sp.lv aI i<=1000000:=λi hi=>(h0 i hi).2;refine⟨amw,?_⟩;refine fZ (λi(x:List (Int×Unit))=>((i,()),x,())) (λy=>y.1.1) (λ_ _=>rfl) d.length aaV (λi cur=>G6 d aI cur (1000*i) λe=>e∈cZ d/\e.1<i) ((G6.start h3).weaken aaV λe he=>by have:=he.2;omega) (λI μ i cur hi hJ next=>?_) λI μ cur hJ=>?_
 .dsimp only;rw[auW];refine eX aaV ⟨⟨aaV,aaV⟩,Hr h1 hi,?_⟩;rintro⟨⟨r,⟨⟩⟩,⟨⟩⟩ hr;have hr:jc r (dO (bZ d i).2.1 false):=hr;have hrl:r.length<=1000:=hr.1;refine fZ (λi(x:List (Int×Unit))=>((i,()),x,())) (λy=>y.1.1) (λ_ _=>rfl) r.length aaV (λp cur=>G6 d aI cur (1000*i) λe=>e∈cZ d/\(e.1<i\/(e.1=i/\e.2.2=0/\∃p',p'<p/\e.2.1=(aA d (r.getD p' ([],())).1).toNat/\0<=aA d (r.getD p' ([],())).1))) (hJ.weaken (avt _) λe he=>⟨he.1,by rcases he.2 with h|⟨_,_,_,h,_⟩;exact h;omega⟩) (λI1 μ1 p cur hp hJ alg=>?_) λI1 μ1 cur hJ=>?_
  .dsimp only;rw[auW];have hl:=hJ.len;have hP:∀e:Nat×Nat×Nat,(e∈cZ d/\(e.1<i\/(e.1=i/\e.2.2=0/\∃p',p'<p+1/\e.2.1=(aA d (r.getD p' ([],())).1).toNat/\0<=aA d (r.getD p' ([],())).1)))->
    (e∈cZ d/\(e.1<i\/(e.1=i/\e.2.2=0/\∃p',p'<p/\e.2.1=(aA d (r.getD p' ([],())).1).toNat/\0<=aA d (r.getD p' ([],())).1)))\/(e=(i,(aA d (r.getD p ([],())).1).toNat,0)/\0<=aA d (r.getD p ([],())).1):=by
    rintro⟨a,b,c⟩ ⟨he,h|⟨h,h5,p',h6,h7,h8⟩⟩
    .exact .inl ⟨he,.inl h⟩
    .by_cases hpp:p'=p
     .subst hpp;have h:a=i:=h;have h5:c=0:=h5;have h7:b=(aA d (r.getD p' ([],())).1).toNat:=h7;exact .inr ⟨by rw[h,h5,h7],h8⟩
     .exact .inl ⟨he,.inr ⟨h,h5,p',aaV,h7,h8⟩⟩
   refine eX aaV ⟨⟨aaV,aaV⟩,trivial,af (λh=>?_) λh=>⟨rfl,alg _ (hJ.weaken (avt _) λe he=>?_)⟩⟩
   .have h:0<=aA d (r.getD p ([],())).1:=fE h;have hlt:=Ig h;have he:=afm hi hr hp h;refine⟨⟨h,aaV⟩,aaV,⟨aaV,aaV⟩,aaV,af (λhc=>⟨⟨h,aaV⟩,aaV,⟨aaV,aaV⟩,aaV,rfl,alg _ ?_⟩) λhc=>⟨rfl,alg _ ?_⟩⟩
    .have hc:Sp.lv cur i<Sp.lv cur (aA d (r.getD p ([],())).1).toNat:=fE hc;have:=hJ.set he (by show _<_+((0:Nat):Int);omega);have e0:Sp.lv cur (aA d (r.getD p ([],())).1).toNat+((if false=true then 1 else 0:Nat):Int)=Sp.lv cur (aA d (r.getD p ([],())).1).toNat:=by show _+((0:Nat):Int)=_;omega
     rw[e0]at this;exact this.weaken (by show 1000*(i:Int)+((0:Nat):Int)<=_;omega) λe he=>(hP e he).imp_right λh=>h.1
    .have hc:¬Sp.lv cur i<Sp.lv cur (aA d (r.getD p ([],())).1).toNat:=fV hc;have:=hJ.still he (by show _+((0:Nat):Int)<=_;omega);exact this.weaken (avt _) λe he=>(hP e he).imp_right λh=>h.1
   .have h:¬0<=aA d (r.getD p ([],())).1:=fV h;rcases hP e he with h'|h'
    .exact h'
    .exact(h h'.2).elim
  .dsimp only;have hJ2:G6 d aI cur (1000*i) λe=>e∈cZ d/\(e.1<i\/(e.1=i/\e.2.2=0)):=hJ.weaken (avt _) λe he=>⟨he.1,he.2.imp_right λh=>⟨h.1,h.2,by obtain⟨a,b,c⟩:=e;obtain⟨he,_⟩:=he;obtain⟨h,h5⟩:=h;have h:a=i:=h;have h5:c=0:=h5;subst h h5;obtain⟨p,q1,q2,q3⟩:=ND hr he rfl;exact⟨p,q1,q3,q2⟩⟩⟩;clear hJ;refine eG aaV ⟨⟨aaV,aaV⟩,Hr h1 hi,?_⟩;rintro⟨⟨r2,⟨⟩⟩,⟨⟩⟩ hr2;have hr2:jc r2 (dO (bZ d i).2.1 true):=hr2;have hrl2:r2.length<=1000:=hr2.1;refine fZ (λi(x:List (Int×Unit))=>((i,()),x,())) (λy=>y.1.1) (λ_ _=>rfl) r2.length aaV (λp cur=>G6 d aI cur (1000*i+p) λe=>e∈cZ d/\(e.1<i\/(e.1=i/\e.2.2=0)\/(e.1=i/\e.2.2=1/\∃p',p'<p/\e.2.1=(aA d (r2.getD p' ([],())).1).toNat/\0<=aA d (r2.getD p' ([],())).1))) (hJ2.weaken aaV λe he=>⟨he.1,by rcases he.2 with h|h|⟨_,_,_,h,_⟩;exact .inl h;exact .inr h;omega⟩) (λI2 μ2 p cur hp hJ alh=>?_) λI2 μ2 cur hJ=>?_
   .dsimp only;rw[auW];have hl:=hJ.len;have hP:∀e:Nat×Nat×Nat,(e∈cZ d/\(e.1<i\/(e.1=i/\e.2.2=0)\/(e.1=i/\e.2.2=1/\∃p',p'<p+1/\e.2.1=(aA d (r2.getD p' ([],())).1).toNat/\0<=aA d (r2.getD p' ([],())).1)))->
     (e∈cZ d/\(e.1<i\/(e.1=i/\e.2.2=0)\/(e.1=i/\e.2.2=1/\∃p',p'<p/\e.2.1=(aA d (r2.getD p' ([],())).1).toNat/\0<=aA d (r2.getD p' ([],())).1)))\/(e=(i,(aA d (r2.getD p ([],())).1).toNat,1)/\0<=aA d (r2.getD p ([],())).1):=by
     rintro⟨a,b,c⟩ ⟨he,h|h|⟨h,h5,p',h6,h7,h8⟩⟩
     .exact .inl ⟨he,.inl h⟩
     .exact .inl ⟨he,.inr (.inl h)⟩
     .by_cases hpp:p'=p
      .subst hpp;have h:a=i:=h;have h5:c=1:=h5;have h7:b=(aA d (r2.getD p' ([],())).1).toNat:=h7;exact .inr ⟨by rw[h,h5,h7],h8⟩
      .exact .inl ⟨he,.inr (.inr ⟨h,h5,p',aaV,h7,h8⟩)⟩
    refine eX aaV ⟨⟨aaV,aaV⟩,trivial,af (λh=>?_) λh=>⟨rfl,alh _ (hJ.weaken aaV λe he=>?_)⟩⟩
    .have h:0<=aA d (r2.getD p ([],())).1:=fE h;have hlt:=Ig h;have he:=afm hi hr2 hp h;have hg:=hJ.grow 1000000 hB (aA d (r2.getD p ([],())).1).toNat aaV;have hu:=hJ.up (aA d (r2.getD p ([],())).1).toNat aaV;have hz:=(h0 (aA d (r2.getD p ([],())).1).toNat aaV).1;have hw:IntKind.i64.wrap (Sp.lv cur (aA d (r2.getD p ([],())).1).toNat+1)=Sp.lv cur (aA d (r2.getD p ([],())).1).toNat+1:=eF _ aaV;have e2:(cur.getD (aA d (r2.getD p ([],())).1).toNat (0,())).1=Sp.lv cur (aA d (r2.getD p ([],())).1).toNat:=rfl;rw[e2,hw];refine⟨⟨h,aaV⟩,aaV,⟨aaV,aaV⟩,aaV,af (λhc=>⟨⟨h,aaV⟩,aaV,⟨aaV,aaV⟩,aaV,rfl,alh _ ?_⟩) λhc=>⟨rfl,alh _ ?_⟩⟩
     .have hc:Sp.lv cur i<Sp.lv cur (aA d (r2.getD p ([],())).1).toNat+1:=fE hc;have:=hJ.set he (by show _<_+((1:Nat):Int);omega);exact this.weaken (by show 1000*(i:Int)+p+((1:Nat):Int)<=_;omega) λe he=>(hP e he).imp_right λh=>h.1
     .have hc:¬Sp.lv cur i<Sp.lv cur (aA d (r2.getD p ([],())).1).toNat+1:=fV hc;have:=hJ.still he (by show _+((1:Nat):Int)<=_;omega);exact this.weaken aaV λe he=>(hP e he).imp_right λh=>h.1
    .have h:¬0<=aA d (r2.getD p ([],())).1:=fV h;rcases hP e he with h'|h'
     .exact h'
     .exact(h h'.2).elim
   .dsimp only;refine eG aaV ⟨rfl,next _ (hJ.weaken aaV λe he=>⟨he.1,?_⟩)⟩;obtain⟨a,b,c⟩:=e;obtain⟨he,h⟩:=he;have h:a<i+1:=h;rcases au2 a i with h'|h'
    .exact .inl h'
    .have:a=i:=aaV;subst this;obtain⟨_,_,hc⟩:=kQ d _ he;have hc:c<=1:=hc;rcases av9 c with hc0|hc0
     .exact .inr (.inl ⟨rfl,hc0⟩)
     .have hc1:c=1:=aaV;subst hc1;obtain⟨p,q1,q2,q3⟩:=ND hr2 he rfl;exact .inr (.inr ⟨rfl,rfl,p,q1,q3,q2⟩)
 .dsimp only;refine eG aaV ?_;exact hJ.raised aaV (λe he=>⟨he,(kQ d e he).1⟩) λi hi=>(h0 i hi).1
end Go.Proofs.Tryz
namespace Go.Proofs.Tryz
open Go Go.Fw Go.IntWalk Sp
theorem Wi{d:List bf}{aI r:List (Int×Unit)}(h:Sp.raised d aI r)(h0:∀i,i<d.length->0<=Sp.lv aI i)(hp:iQ (cZ d) λi=>(Sp.lv aI i).toNat):∀i,i<d.length->Sp.lv r i=Sp.lv aI i:=by obtain⟨_,h2,_,_,h5⟩:=h;intro i hi;have a:Sp.lv aI i<=Sp.lv r i:=h2 i hi;have b:Sp.lv r i<=((Sp.lv aI i).toNat:Int):=h5 _ hp (λj hj=>by have:=h0 j hj;show Sp.lv aI j<=((Sp.lv aI j).toNat:Int);omega) i hi;have:=h0 i hi;omega
theorem ahG{d:List bf}{aI r:List (Int×Unit)}(h:Sp.raised d aI r)(hp:¬iQ (cZ d) λi=>(Sp.lv aI i).toNat):∃i,i<d.length/\Sp.lv aI i<Sp.lv r i:=by obtain⟨_,h2,_,h4,_⟩:=h;refine avS λhno=>hp (h4 λi hi=>?_);have a:Sp.lv aI i<=Sp.lv r i:=h2 i hi;have b:¬Sp.lv aI i<Sp.lv r i:=λh=>hno ⟨i,hi,h⟩;show Sp.lv r i=Sp.lv aI i;omega
theorem afc{d:List bf}(h1:mZ d=true){L:Nat->Nat}(h2:iQ (cZ d) L):dI d=true:=lV.2 ⟨h1,L,h2⟩
theorem ahH{d:List bf}(h:∀M,iQ (cZ d) M->(∀i,i<d.length->M i<d.length)->False):dI d=false:=by rw[axM];intro h1;obtain⟨_,h2⟩:=lV.1 h1;obtain⟨M,h3,h4⟩:=Le (kQ d) h2;exact h M h3 h4
theorem afd{d:List bf}(h:mZ d=false):dI d=false:=by rw[axM];intro h1;rw[(lV.1 h1).1]at h;cases h
theorem Qb(n i:Nat):Sp.lv (List.replicate n (0,())) i=0:=by
 unfold Sp.lv;rw[auF];by_cases h:i<n
 .rw[awR,if_pos h];rfl
 .rw[avF aeV];rfl
theorem anH{d:List bf}(h:dI d=true):∃s,MO d s:=by obtain⟨hok,h2⟩:=lV.1 h;exact ak5 (Le (kQ d) h2)
theorem abS{d:List bf}:∃s:List (Int×Unit),(dI d=true->MO d s)/\(dI d=false->s=[]):=by
 cases h:dI d with
 |true=>obtain⟨s,hs⟩:=anH h;exact⟨s,λ_=>hs,λh=>afH⟩
 |false=>exact⟨[],λh=>afH,λ_=>rfl⟩
theorem adV:OK Ee.e:=by
 refine XA.ok mixed (aB [Cc.e,qV.e,wB.e] ⟨abT,aag,Ux,trivial⟩) af2 (λ⟨d,_⟩ hp=>by obtain⟨s,h1,h2⟩:=abS (d:=d);exact⟨(((s,dI d,()),())),⟨rfl,h1,h2⟩⟩) aa1 (show∀d,Ee.goal (adW d) (d,())from ?_);intro d hin hp;dsimp only[Ee]at hp ⊢;have hp:eu d:=hp;refine⟨hp,af (λh=>⟨(afd (iZ h)).symm,λh=>afH,λ_=>rfl⟩) λh=>?_⟩;have hok:=fB h;have hlen:=abU hok;refine⟨⟨aaV,aaV,amw⟩,?_⟩;have hnn:d.length*d.length<=25:=axZ hlen hlen;have e1:(d.length:Int)*(d.length:Int)=((d.length*d.length:Nat):Int):=abZ;have w:IntKind.i64.wrap (IntKind.i64.wrap ((d.length:Int)*(d.length:Int))+1)=((d.length*d.length:Nat):Int)+1:=by rw[e1,eF ((d.length*d.length:Nat):Int) aaV];exact eF _ aaV
 rw[w];have hmem:∀aI:List (Int×Unit),aI.length=d.length->∀k:Nat,k<=27->(∀i,i<d.length->0<=Sp.lv aI i/\Sp.lv aI i<=5000*k)->∀x∈aI,0<=x.1/\x.1<=1000000:=λaI hl k hk h=>
  amu (p:=λz=>0<=z/\z<=1000000) λi hi=>by have:=h i aaV;omega
 refine fZ (λi(x:List (Int×Unit))=>((x,i,()),())) (λy=>y.1.2.1) (λ_ _=>rfl) (d.length*d.length+2) aaV
  (λk aI=>aI.length=d.length/\(∀i,i<d.length->0<=Sp.lv aI i/\Sp.lv aI i<=5000*k)/\(∀M,iQ (cZ d) M->∀i,i<d.length->Sp.lv aI i<=M i)/\((iQ (cZ d) λi=>(Sp.lv aI i).toNat)\/(k:Int)<=wV aI d.length))
  ⟨abZ,λi hi=>arR,λM hM i hi=>arR,.inr (Wj _ λi hi=>arR)⟩ (λI μ k aI hk hJ next=>?_) λI μ aI hJ=>?_
 .obtain⟨g1,g2,g3,g4⟩:=hJ;dsimp only;refine eX aaV ⟨⟨hp,hlen,g1,hmem aI g1 k aaV g2⟩,?_⟩;rintro⟨⟨r,⟨⟩⟩,⟨⟩⟩ hr;have hr:Sp.raised d aI r:=hr;have hr':=hr;obtain⟨q1,q2,q3,q4,q5⟩:=hr';have hup:∀i,i<d.length->Sp.lv aI i<=Sp.lv r i:=q2;refine⟨rfl,next r ⟨q1,λi hi=>?_,λM hM i hi=>q5 M hM (g3 M hM) i hi,?_⟩⟩
  .have a:=hup i hi;have b:=q3 (5000*k) (λj hj=>(g2 j hj).2) i hi;have b:Sp.lv r i<=5000*k+5000:=b;have c:=g2 i hi;omega
  .by_cases hpf:iQ (cZ d) λi=>(Sp.lv aI i).toNat
   .left;have hs:=Wi hr (λi hi=>(g2 i hi).1) hpf;intro e he;have:=hpf e he;obtain⟨a,b,_⟩:=kQ d e he;dsimp only at this ⊢;rw[hs _ a,hs _ b];exact this
   .right;have hm:=aah d.length hup (ahG hr hpf);rcases g4 with g4|g4
    .exact(hpf g4).elim
    .omega
 .obtain⟨g1,g2,g3,g4⟩:=hJ;dsimp only;refine eG aaV ⟨⟨hp,hlen,g1,hmem aI g1 _ aaV g2⟩,?_⟩;rintro⟨⟨r,⟨⟩⟩,⟨⟩⟩ hr;have hr:Sp.raised d aI r:=hr;refine⟨trivial,af (λhne=>?_) λhe=>?_⟩
  .have hne:¬r=aI:=fV (iZ hne);refine⟨(ahH λM hM hb=>?_).symm,λh=>afH,λ_=>rfl⟩;rcases g4 with g4|g4
   .exact hne (aqf (by rw[hr.1,g1]) λi hi=>Wi hr (λi hi=>(g2 i hi).1) g4 i (by rw[← hr.1];exact hi))
   .have:=Oo (a:=aI) (b:=d.length) d.length λi hi=>by have a:=g3 M hM i hi;have b:=hb i hi;omega
    omega
  .have he:r=aI:=fE (fB he);subst he;have hpf:=hr.2.2.2.1 λi hi=>rfl;obtain⟨M,hM,hb⟩:=Le (kQ d) ⟨_,hpf⟩;exact⟨(afc hok hpf).symm,λ_=>⟨g1,λi hi=>⟨(g2 i hi).1,by have a:=g3 M hM i hi;have b:=hb i hi;omega⟩,hpf,g3⟩,λh=>afH⟩
theorem adX:OK Ed.e:=by
 refine XA.ok mixed (aB [uS.e,wF.e,uQ.e,wC.e] ⟨RD,Uy,RG,Uz,trivial⟩) af4 (λ⟨d,_⟩ hp=>by obtain⟨s,h1,h2⟩:=abS (d:=d);exact⟨(((s,dI d,()),())),⟨rfl,h1⟩⟩) aa1 (show∀d,Ed.goal (adY d) (d,())from ?_);intro d hin hp;dsimp only[Ed]at hp ⊢;have hp:eu d:=hp;refine⟨hp,af (λh=>⟨(afd (iZ h)).symm,λh=>afH⟩) λh=>?_⟩;have hok:=fB h;have hlen:=abU hok;refine⟨⟨aaV,aaV,amw⟩,?_⟩;have hmem:∀aI:List (Int×Unit),aI.length=d.length->(∀i,i<d.length->0<=Sp.lv aI i/\Sp.lv aI i<=d.length)->∀x∈aI,0<=x.1/\x.1<=1000000:=λaI hl h=>
  amu (p:=λz=>0<=z/\z<=1000000) λi hi=>by have:=h i aaV;omega
 refine⟨λy=>y.2.1.length=d.length/\(∀i,i<d.length->0<=Sp.lv y.2.1 i/\Sp.lv y.2.1 i<=d.length)/\(∀M,iQ (cZ d) M->∀i,i<d.length->Sp.lv y.2.1 i<=M i)/\(y.1.1=false->iQ (cZ d) λi=>(Sp.lv y.2.1 i).toNat),
  λy=>(((d.length*d.length:Nat):Int)-wV y.2.1 d.length).toNat*2+(if y.1.1=true then 1 else 0),⟨abZ,λi hi=>arR,λM hM i hi=>arR,λh=>afH⟩,?_⟩
 rintro⟨⟨ch,⟨⟩⟩,aI,⟨⟩⟩ ⟨g1,g2,g3,g4⟩;dsimp only at g1 g2 g3 g4 ⊢;refine af (λhch=>?_) λhch=>⟨(afc hok (g4 hch)).symm,λ_=>⟨g1,g2,g4 hch,g3⟩⟩;subst hch;refine fZ (λi(x:Bool×List (Int×Unit))=>((x.1,i,()),x.2,())) (λy=>y.1.2.1) (λ_ _=>rfl) d.length aaV
  (λi(x:Bool×List (Int×Unit))=>x.2.length=d.length/\(∀i,i<d.length->Sp.lv aI i<=Sp.lv x.2 i/\Sp.lv x.2 i<=d.length)/\(∀M,iQ (cZ d) M->∀i,i<d.length->Sp.lv x.2 i<=M i)/\
    (x.1=true->wV aI d.length<wV x.2 d.length)/\(x.1=false->x.2=aI/\∀e∈cZ d,e.1<i->Sp.lv aI e.2.1+e.2.2<=Sp.lv aI e.1))
  (s0:=(false,aI)) ⟨g1,λi hi=>⟨avt _,(g2 i hi).2⟩,g3,λh=>afH,λ_=>⟨rfl,λe _ h=>aaV⟩⟩ (λI μ i x hi hJ next=>?_) λI μ x hJ=>?_
 .obtain⟨c,cur⟩:=x;obtain⟨q1,q2,q3,q4,q5⟩:=hJ;have q1:cur.length=d.length:=q1;have hcur:∀i,i<d.length->0<=Sp.lv cur i/\Sp.lv cur i<=d.length:=λi hi=>⟨Int.le_trans (g2 i hi).1 (q2 i hi).1,(q2 i hi).2⟩;have hm:=hmem cur q1 hcur;dsimp only;rw[auW];refine eX aaV ⟨⟨aaV,aaV⟩,Hr hp hi,?_⟩;rintro⟨⟨r4,⟨⟩⟩,⟨⟩⟩ hr4;have hr4:jc r4 (dO (bZ d i).2.1 false):=hr4;refine⟨⟨aaV,hr4.1,aaV,aaV,hm⟩,Hr hp hi,?_⟩;rintro⟨⟨r6,⟨⟩⟩,⟨⟩⟩ hr6;have hr6:jc r6 (dO (bZ d i).2.1 true):=hr6;refine⟨⟨aaV,hr6.1,aaV,aaV,hm⟩,?_⟩;dsimp only;have hle:∀M,iQ (cZ d) M->wG d cur 0 r4<=M i/\wG d cur 1 r6<=M i:=by
   intro M hM;refine⟨(EW r4 _).2 ⟨aaV,λx hx h0=>?_⟩,(EW r6 _).2 ⟨aaV,λx hx h0=>?_⟩⟩
   .have he:=EX.2 ⟨hi,x.1,.inl ⟨rfl,(hr4.2 x.1).1 hx⟩,h0,rfl⟩;have a:=hM _ he;have a:M (aA d x.1).toNat+0<=M i:=a;have b:=q3 M hM _ (kQ d _ he).2.1;have b:Sp.lv cur (aA d x.1).toNat<=M (aA d x.1).toNat:=b;omega
   .have he:=EX.2 ⟨hi,x.1,.inr ⟨rfl,(hr6.2 x.1).1 hx⟩,h0,rfl⟩;have a:=hM _ he;have a:M (aA d x.1).toNat+1<=M i:=a;have b:=q3 M hM _ (kQ d _ he).2.1;have b:Sp.lv cur (aA d x.1).toNat<=M (aA d x.1).toNat:=b;omega
  have hge:∀e∈cZ d,e.1=i->Sp.lv cur e.2.1+e.2.2<=wG d cur 0 r4\/Sp.lv cur e.2.1+e.2.2<=wG d cur 1 r6:=by
   rintro⟨a,b,m⟩ he ha;have ha:a=i:=ha;subst ha;have hm1:m<=1:=(kQ d _ he).2.2;rcases av9 m with h|h
   .subst h;obtain⟨p,p1,p2,p3⟩:=ND hr4 he rfl;left;have:=((EW (d:=d) (aI:=cur) (more:=0) r4 _).1 (avt _)).2 _ (getD_mem (d:=(([]:List UInt8),())) p1) p2;show Sp.lv cur b+((0:Nat):Int)<=_;rw[p3];omega
   .have:m=1:=aaV;subst this;obtain⟨p,p1,p2,p3⟩:=ND hr6 he rfl;right;have:=((EW (d:=d) (aI:=cur) (more:=1) r6 _).1 (avt _)).2 _ (getD_mem (d:=(([]:List UInt8),())) p1) p2;show Sp.lv cur b+((1:Nat):Int)<=_;rw[p3];omega
  generalize wG d cur 0 r4=u at hle hge ⊢;generalize wG d cur 1 r6=v at hle hge ⊢;have hv:∃z,(if v>u then v else u)=z/\u<=z/\v<=z/\(z=u\/z=v):=by refine⟨_,rfl,?_,?_,?_⟩<;>split<;>omega
  obtain⟨z,ez,hz1,hz2,hz3⟩:=hv;rw[ez];have e2:(cur.getD i (0,())).1=Sp.lv cur i:=rfl;rw[e2];refine af (λhbig=>?_) λhbig=>⟨⟨aaV,aaV⟩,aaV,af (λhup=>⟨⟨aaV,aaV⟩,aaV,rfl,next (true,cur.set i (z,())) ?_⟩) λhup=>⟨rfl,next (c,cur) ?_⟩⟩
  .have hbig:z>(d.length:Int):=fE hbig;refine⟨(ahH λM hM hb=>?_).symm,λh=>afH⟩;have a:=hle M hM;have b:=hb i hi;omega
  .have hbig:¬z>(d.length:Int):=fV hbig;have hup:z>Sp.lv cur i:=fE hup;have hs:=λk=>ahI (l:=cur) (i:=i) aaV z k;refine⟨aeV,λk hk=>?_,λM hM k hk=>?_,λ_=>?_,λh=>afH⟩
   .dsimp only;rw[hs];have:=q2 k hk;dsimp only at this;split
    .next e=>subst e;omega
    .exact this
   .dsimp only;rw[hs];split
    .next e=>subst e;have:=hle M hM;omega
    .exact q3 M hM k hk
   .have a:=aai (a:=aI) (b:=cur) d.length λk hk=>(q2 k hk).1;have hsk:∀k,k<d.length->Sp.lv cur k<=Sp.lv (cur.set i (z,())) k:=λk hk=>by
     rw[hs];split
     .next e=>subst e;omega
     .exact avt _
    have b:=aah (a:=cur) (b:=cur.set i (z,())) d.length hsk ⟨i,hi,by rw[hs,if_pos rfl];omega⟩;show wV aI d.length<wV (cur.set i (z,())) d.length;omega
  .have hup:¬z>Sp.lv cur i:=fV hup;refine⟨q1,q2,q3,q4,λh=>?_⟩;obtain⟨a,b⟩:=q5 h;have a:cur=aI:=a;subst a;refine⟨rfl,λe he hlt=>?_⟩;rcases au2 e.1 i with h'|h'
   .exact b e he h'
   .have PL:e.1=i:=aaV;have:=hge e he PL;rw[PL];omega
 .obtain⟨c,cur⟩:=x;obtain⟨q1,q2,q3,q4,q5⟩:=hJ;dsimp only at q1 q2 q3 q4 q5 ⊢;have hcur:∀i,i<d.length->0<=Sp.lv cur i/\Sp.lv cur i<=d.length:=λi hi=>⟨Int.le_trans (g2 i hi).1 (q2 i hi).1,(q2 i hi).2⟩;have hsum:=Oo (a:=cur) (b:=d.length) d.length λi hi=>(q2 i hi).2;refine eG aaV ⟨rfl,⟨q1,hcur,q3,λhc e he=>?_⟩,?_⟩
  .obtain⟨a,b⟩:=q5 hc;subst a;obtain⟨x1,x2,_⟩:=kQ d e he;have:=b e he x1;have y1:=(hcur _ x1).1;have y2:=(hcur _ x2).1;dsimp only;omega
  .cases c with
   |true=>
    have:=q4 rfl;simp only[if_true];omega
   |false=>obtain⟨a,_⟩:=q5 rfl;subst a;simp
theorem RH:OK uV.e:=by refine PA.ok mixed (aB [Ed.e] ⟨adX,trivial⟩) H0 aa1 (show∀d,uV.goal (RI d) (d,())from ?_);intro d hin hp;dsimp only[uV]at hp ⊢;refine⟨hp,λr hr=>?_⟩;exact axU hr.1 rfl
theorem F8:OK pY.e:=by refine PA.ok mixed (aB [Ee.e] ⟨adV,trivial⟩) H0 aa1 (show∀d,pY.goal (RJ d) (d,())from ?_);intro d hin hp;dsimp only[pY]at hp ⊢;refine⟨hp,λr hr=>?_⟩;exact axU hr.1 rfl
end Go.Proofs.Tryz
namespace Go.Proofs.Tryz
open Go Go.Fw Go.IntWalk Sp
theorem vM:OK iJ.e:=by
 refine PA.ok mixed (aB [uV.e,uN.e] ⟨RH,Ry,trivial⟩) H0 aa1 (show∀x0 x1 x2 x3,iJ.goal (Me x0 x1 x2 x3) ((x0,x1,x2,x3,()),())from ?_);intro x0 x1 x2 x3 hin hp;dsimp only[iJ]at hp ⊢;refine⟨trivial,af (λh=>⟨hp.2,?_⟩) λh=>?_⟩
 .have h:bT (BO (x0,x1,x2,x3,()))=true:=h;unfold bM;rw[h];rfl
 .have h:bT (BO (x0,x1,x2,x3,()))=false:=h;unfold bM;rw[h];rfl
theorem vK:OK iK.e:=by
 refine PA.ok mixed (aB [pY.e,mQ.e] ⟨F8,zV,trivial⟩) H0 aa1 (show∀x0 x1 x2 x3,iK.goal (MB x0 x1 x2 x3) ((x0,x1,x2,x3,()),())from ?_);intro x0 x1 x2 x3 hin hp;dsimp only[iK]at hp ⊢;refine⟨trivial,af (λh=>⟨hp.2,?_⟩) λh=>?_⟩
 .have h:bT (BO (x0,x1,x2,x3,()))=true:=h;unfold bM;rw[h];rfl
 .have h:bT (BO (x0,x1,x2,x3,()))=false:=h;unfold bM;rw[h];rfl
end Go.Proofs.Tryz
namespace Go.Proofs.Tryz
open Go Go.Fw Go.IntWalk Sp
theorem amI:dI [([100,97],[(1,0,0,[],0,0,[],())],())]=true:=lV.2 ⟨aa1,λ_=>0,λe he=>by rw[show cZ [([100,97],[(1,0,0,[],0,0,[],())],())]=[] by kernel_rfl]at he;cases he⟩
theorem ab2:OK Cb.e:=by
 refine XA.ok mixed (aB [pY.e,yL.e] ⟨F8,NJ,trivial⟩) ad4 (λ_ _=>⟨(([([100,97],[(1,0,0,[],0,0,[],())],())],()),(([],0,0,()),())),⟨abV,abV,JM zX abZ abZ,amI,abV⟩⟩) aa1 (show∀c0 c1 c2,Cb.goal (ab3 c0 c1 c2) ((c0,c1,c2,()),())from ?_);intro b i h hin hp;dsimp only[Cb]at hp ⊢;have hp:0<=i:=hp;refine⟨hp,?_⟩;rintro⟨⟨d,_⟩,⟨b1,i1,h1,_⟩,_⟩ ⟨q1,q2,q3,q4⟩;dsimp only at q1 q2 q3 q4 ⊢;have fin:∀l:List bf,l.length<=4->eu l->(0<l.length->dI l=true)->(bif (l.length:Int)==(0:Int)then 0<=i1/\([(([100,97]:List UInt8),[((1:Int),(0:Int),(0:Int),([]:List UInt8),(0:Int),(0:Int),([]:List UInt8),())],())]:List bf).length<=10/\eu [([100,97],[(1,0,0,[],0,0,[],())],())]/\dI [([100,97],[(1,0,0,[],0,0,[],())],())]=true/\0<[(([100,97]:List UInt8),[((1:Int),(0:Int),(0:Int),([]:List UInt8),(0:Int),(0:Int),([]:List UInt8),())],())].length else 0<=i1/\l.length<=10/\eu l/\dI l=true/\0<l.length):=λl hl hs hst=>
  af (λ_=>⟨q1,abZ,JM zX abZ abZ,amI,abZ⟩) λh0=>have h1:0<l.length:=(by have h0:¬(l.length:Int)=0:=auD.1 h0;omega);⟨q1,aaV,hs,hst h1,h1⟩
 refine⟨λy=>y.1.1.length<=4/\eu y.1.1,λy=>y.1.1.length,⟨q3,q4⟩,?_⟩;rintro⟨⟨l,⟨⟩⟩,⟨⟩⟩ ⟨g1,g2⟩;dsimp only at g1 g2 ⊢;refine af (λhc=>⟨g2,af (λ_=>?_) λhst=>fin l g1 g2 λ_=>fB hst⟩) λhc=>fin l g1 g2 λh=>(by have:=fV hc;omega);have hc:0<l.length:=by have:=fE hc;omega
 rw[zi hc aaV,awn,auW];exact⟨⟨aaV,aaV⟩,rfl,⟨ah8,ajb _ g2⟩,by dsimp only;rw[auN];omega⟩
theorem ab4{a:List dP}{l:List aQ}{nx:Int}(h:bT (a,l,nx,())=true):∀f∈l,f.2.2.2.2.1.length<=400:=λf hf=>by obtain⟨h1,_,h3,_⟩:=Wu.1 h;have hl:=ahW (Wv (h1 f hf).1);have h5:=(Wx.1 h3).2;have hl:f.2.2.2.2.1.length<=a.length:=hl;have h5:a.length<=5:=h5;omega
theorem ad5:OK D8.e:=by
 refine XA.ok mixed (aB [rO.e,tK.e,D5.e,D7.e,kG.e,bU.e,vY.e] ⟨II,F7,adG,adR,qQ,dA,Ld,trivial⟩) af5 (λ_ _=>⟨((([],[],0,()),()),(([],0,0,()),())),⟨abV,⟨abV,abV,λf hf=>by cases hf⟩,λf hf=>by cases hf⟩⟩) aa1 (show∀c0 c1 c2,D8.goal (ad6 c0 c1 c2) ((c0,c1,c2,()),())from ?_);intro b i h hin hp;dsimp only[D8]at hp ⊢;have hp:0<=i:=hp;refine⟨hp,?_⟩;rintro⟨⟨⟨a,l,nx,⟨⟩⟩,⟨⟩⟩,⟨b0,i0,g0,⟨⟩⟩,⟨⟩⟩ ⟨p0,d1,d2,d3,d4,_⟩;have D:qE 2 (a,l,nx,()):=⟨d1,d2,d3,d4⟩;obtain⟨z0,z1,z2⟩:a.length<=1000/\l.length<=1000/\∀f∈l,vX f:=d4;have z3:l.length<=12:=(oG.1 D.ok).2.2.1;have hh:=ab4 D.ok;refine⟨p0,?_⟩;rintro⟨⟨x1,⟨⟩⟩,⟨b1,i1,g1,⟨⟩⟩,⟨⟩⟩ ⟨p1,_⟩;refine af (λ_=>⟨⟨p1,abZ⟩,?_⟩) λ_=>af (λ_=>⟨p1,?_⟩) λ_=>af (λ_=>⟨p1,?_⟩) λ_=>af (λ_=>?_) λ_=>⟨p1,D.small,hh⟩
 .rintro⟨⟨x3,⟨⟩⟩,⟨b3,i3,g3,⟨⟩⟩,⟨⟩⟩ ⟨p3,_⟩;exact⟨p3,⟨z0,z1,z2⟩,hh⟩
 .rintro⟨⟨⟨d,o,s,lk,al,⟨⟩⟩,⟨⟩⟩,⟨b2,i2,g2,⟨⟩⟩,⟨⟩⟩ ⟨p2,ha⟩;have hf:vX (d,o,s,lk,al,()):=(show al.length<=1000 from auK ha abV);refine⟨(show l.length+1<=big from amw),p2,⟨z0,?_,λf hf'=>?_⟩,λf hf'=>?_⟩
  .show(l++[_]).length<=1000;rw[auB,auE,auI];omega
  .rcases au4.1 hf' with h'|h'
   .exact z2 f h'
   .have:f=(d,o,s,lk,al,()):=by simpa using h'
    rw[this];exact hf
  .rcases au4.1 hf' with h'|h'
   .exact hh f h'
   .have:f=(d,o,s,lk,al,()):=by simpa using h'
    rw[this];exact auK ha abV
 .rintro⟨⟨x3,⟨⟩⟩,⟨b3,i3,g3,⟨⟩⟩,⟨⟩⟩ ⟨p3,hx⟩;exact⟨p3,⟨auK (show x3.length<=6 from hx) abV,z1,z2⟩,hh⟩
 .refine⟨λy=>0<=y.2.1.2.1/\qE 2 y.2.2.1,λy=>12-y.2.2.1.2.1.length,⟨p1,D⟩,?_⟩;rintro⟨⟨⟩,⟨b2,i2,g2,⟨⟩⟩,⟨a,l,nx,⟨⟩⟩,⟨⟩⟩ ⟨p2,D⟩;have D:qE 2 (a,l,nx,()):=D;refine af (λhc=>⟨p2,?_⟩) λ_=>⟨p2,D.small,ab4 D.ok⟩;have hc:(l.length:Int)<12:=fE hc;rintro⟨⟨⟨d,o,s,lk,al,⟨⟩⟩,⟨⟩⟩,⟨b3,i3,g3,⟨⟩⟩,⟨⟩⟩ ⟨p3,_,ho1,ho2,hl1,hl2,hok,ha⟩;have hf:vX (d,o,s,lk,al,()):=(show al.length<=1000 from auK ha abV);refine⟨⟨D.small,hf⟩,?_⟩;rintro⟨⟨⟨a3,l3,nx3,⟨⟩⟩,id3,ok3,⟨⟩⟩,⟨⟩⟩ ⟨e1,e2,e3,_⟩;have e:((a3,l3,nx3,()):dU)=(bQ (a,l,nx,()) (d,o,s,lk,al,())).1:=aad e1 e2 e3;have hg:=D.grows (f:=(d,o,s,lk,al,())) (show l.length<12 from aaV) ⟨ho1,ho2⟩ ⟨hl1,hl2⟩ hok;have e2:l3=(bQ (a,l,nx,()) (d,o,s,lk,al,())).1.2.1:=e2;refine⟨rfl,⟨p3,?_⟩,?_⟩
  .show qE 2 (a3,l3,nx3,());rw[e];exact D.create hf
  .show 12-l3.length<12-l.length;have hg:(bQ (a,l,nx,()) (d,o,s,lk,al,())).1.2.1.length=l.length+1:=hg;rw[e2,hg];omega
theorem Lp:OK wo.e:=by refine XA.ok mixed (aB [Cb.e,vY.e] ⟨ab2,Ld,trivial⟩) H0 (λ_ _=>⟨((([],[],0,[],()),()),(([],0,0,()),())),⟨abV,⟨abV,abV,λx hx=>aeZ⟩,zX⟩⟩) aa1 (show∀c0 c1 c2,wo.goal (aao c0 c1 c2) ((c0,c1,c2,()),())from ?_);intro b i h hin hp;dsimp only[wo]at hp ⊢;have hp:0<=i:=hp;refine⟨hp,λr hr=>⟨hr.1,λx hx=>⟨hx.1,hr.2.2.2.2.1,hx.2.2.1⟩⟩⟩
theorem ad7:OK Eb.e:=by refine XA.ok mixed (aB [Ea.e,D8.e,bU.e,wo.e] ⟨ad8,ad5,dA,Lp,trivial⟩) H0 (λ_ _=>⟨((([],[],0,[],()),()),(([],0,0,()),())),⟨abV,⟨abV,abV,λx hx=>aeZ⟩,zX⟩⟩) aa1 (show∀c0 c1 c2,Eb.goal (ad9 c0 c1 c2) ((c0,c1,c2,()),())from ?_);intro b i h hin hp;dsimp only[Eb]at hp ⊢;have hp:0<=i:=hp;refine⟨hp,λr hr=>⟨hr.1,λx hx=>af (λ_=>⟨hx.1,λy hy=>⟨hy.1,hy.2.1,hr.2.2⟩⟩) λ_=>af (λ_=>⟨hx.1,λy hy=>⟨hy.1,hr.2.1,hy.2.2⟩⟩) λ_=>⟨hx.1,hr.2⟩⟩⟩
end Go.Proofs.Tryz
namespace Go.Proofs.Tryz
open Go Go.Fw Go.IntWalk
theorem UI:OK wH.e:=by refine PA.ok mixed (aB [] trivial) H0 aa1 (show∀s,wH.goal (UJ s) (s,())from ?_);intro w hin hp;dsimp only[wH]at hp ⊢;exact rfl
theorem Wq:OK xX.e:=by
 refine XA.ok mixed (aB [bU.e,rF.e] ⟨dA,CJ,trivial⟩) Yn (λ_ _=>⟨((List.replicate 12 (0,()),()),()),⟨abV,λx hx=>by rw[List.eq_of_mem_replicate hx];decide⟩⟩) aa1 (show∀code,xX.goal (WJ code) (code,())from ?_);intro code hin hp;dsimp only[xX]at hp ⊢;refine⟨hp,λr0 hr0=>?_⟩;refine⟨λy=>∃n:Nat,y.1.2.1=n/\n<=12/\0<=y.2.1.2.1/\y.2.2.1.length=n/\∀x∈y.2.2.1,0<=x.1/\x.1<10000,λy=>(12-y.1.2.1).toNat,⟨0,rfl,abV,by rw[hr0];exact avt _,rfl,λx hx=>aeZ⟩,?_⟩;rintro⟨⟨_,_,⟨⟩⟩,⟨b,i,h,⟨⟩⟩,l,⟨⟩⟩ ⟨n,rfl,hn,hi,hl,hx⟩;dsimp only at hi hl hx ⊢;have w:IntKind.i64.wrap ((n:Int)+1)=((n+1:Nat):Int):=eF _ aaV;rw[w];refine af (λhc=>⟨hi,?_⟩) λhc=>⟨by have:=fV hc;show l.length=12;omega,hx⟩;have hc:=fE hc;rintro⟨⟨x,⟨⟩⟩,⟨b1,i1,h1,⟨⟩⟩,⟨⟩⟩ ⟨q1,q2,q3,_⟩;refine⟨akg,rfl,⟨n+1,rfl,aaV,q1,aeV,λy hy=>?_⟩,afb⟩;rcases au4.1 hy with hy|hy
 .exact hx y hy
 .rw[au0.1 hy];exact⟨q2,q3 abV⟩
end Go.Proofs.Tryz
namespace Go.Proofs.Tryz
open Go Go.Fw Go.IntWalk Sp
theorem yA:OK nO.e:=by refine PA.ok mixed (aB [(Hg,.pure Eo)] ⟨⟨abw,ZN⟩,trivial⟩) H0 aa1 (show∀n,nO.goal (Yo n) (n,())from ?_);intro n hin hp;dsimp only[nO]at hp ⊢;exact⟨hin.1,rfl⟩
theorem Yp:OK zL.e:=by
 refine PA.ok mixed (aB [] trivial) H0 aa1 (show∀Uh,zL.goal (Yq Uh) (Uh,())from ?_);intro x hin hp;dsimp only[zL]at hp ⊢;obtain⟨h0,h1⟩:=hp;refine af (λh=>?_) λh=>?_<;>simp only[auP,avi]at h
 .rw[i64_in (48+x) aaV,u8_in (48+x) aaV]
 .omega
theorem aef{c:Int}(h:¬c.tmod 10<0):c.tmod 10=((c.natAbs%10:Nat):Int):=by have:(c.tmod 10).natAbs=c.natAbs%10:=axW c 10;omega
theorem ajd{c:Int}(h:c.tmod 10<0):0-c.tmod 10=((c.natAbs%10:Nat):Int):=by have:(c.tmod 10).natAbs=c.natAbs%10:=axW c 10;omega
theorem WM(k:Nat):byteRow [((48:Int)+(k:Int),())]=[UInt8.ofNat (48+k)]:=by have:((48:Int)+(k:Int)).toNat=48+k:=aaV;simp[byteRow,Zp,this]
theorem alb{n c:Nat}{s:List UInt8}(hc:c≠0)(hJ:Lib.decDigits n=(if c=0 then[]else Lib.decDigits c)++s):
 Lib.decDigits n=(if c / 10=0 then[]else Lib.decDigits (c / 10))++(UInt8.ofNat (48+c%10)::s):=by
 rw[hJ,if_neg hc,aeg c];simp
theorem rV:OK kZ.e:=by
 refine PA.ok mixed (aB [zL.e] ⟨Yp,trivial⟩) aau aa1 (show∀n,kZ.goal (Yr n) (n,())from ?_);intro n hin hp;dsimp only[kZ]at hp ⊢;have h0:(-9223372036854775808:Int)<=n/\n<=9223372036854775807:=hin.1;have hL:=Lib.itoa_length_le n h0.1 h0.2;have hD:(Lib.decDigits n.natAbs).length<=21:=by
  unfold Lib.itoa at hL;split at hL
  .simp at hL;omega
  .rw[show n.natAbs=n.toNat from aaV];exact hL
 refine af (λh=>?_) λh=>?_
 .have:n=0:=acs;subst this;simp[Lib.itoa,Lib.decDigits]
 .have hn0:n≠0:=acs;refine⟨λy=>-9223372036854775808<=y.1.1/\y.1.1<=9223372036854775807/\Lib.decDigits n.natAbs=(if y.1.1.natAbs=0 then[]else Lib.decDigits y.1.1.natAbs)++y.1.2.1,λy=>y.1.1.natAbs,⟨h0.1,h0.2,?_⟩,?_⟩
  .show _=(if n.natAbs=0 then _ else _)++_;rw[if_neg aaV];simp
  rintro⟨⟨c,s,⟨⟩⟩,⟨⟩⟩ ⟨hc1,hc2,hJ⟩;dsimp only at hc1 hc2 hJ ⊢;have hs:s.length<=21:=by rw[hJ,auB]at hD;omega
  have hq:(c.tdiv 10).natAbs=c.natAbs / 10:=Int.natAbs_tdiv c 10;have hrow:∀k:Nat,(byteRow [((48:Int)+(k:Int),())]).length=1:=λk=>by rw[WM];rfl
  refine af (λh=>?_) λh=>?_
  .have hc:c.natAbs≠0:=by simp at h;omega
   have hstep:=alb hc hJ;have hm:c.natAbs%10<10:=axx _ abV;have hlt:c.natAbs / 10<c.natAbs:=Nat.div_lt_self aaV abV;have hw:IntKind.i64.wrap (c.tdiv 10)=c.tdiv 10:=eF _ aaV;refine⟨abV,af (λhd=>?_) λhd=>?_⟩<;>simp only[auP,avi]at hd
   .have e:=ajd hd;rw[eF (0-c.tmod 10) aaV,e,hw,WM];refine⟨⟨aaV,aaV⟩,ap6,abV,rfl,⟨afb,afb,?_⟩,?_⟩
    .show _=(if(c.tdiv 10).natAbs=0 then[]else Lib.decDigits (c.tdiv 10).natAbs)++_;rw[hq];exact hstep
    .show(c.tdiv 10).natAbs<c.natAbs;rw[hq];exact hlt
   .have e:=aef hd;rw[e,hw,WM];refine⟨⟨aaV,aaV⟩,ap6,abV,rfl,⟨afb,afb,?_⟩,?_⟩
    .show _=(if(c.tdiv 10).natAbs=0 then[]else Lib.decDigits (c.tdiv 10).natAbs)++_;rw[hq];exact hstep
    .show(c.tdiv 10).natAbs<c.natAbs;rw[hq];exact hlt
  .have hc:c=0:=acs;subst hc;have hJ:Lib.decDigits n.natAbs=s:=by simpa using hJ
   subst hJ;refine af (λhd=>?_) λhd=>?_<;>simp only[auP,avi]at hd
   .refine⟨ap6,?_⟩;rw[Lib.itoa,if_pos hd];rfl
   .rw[Lib.itoa,if_neg hd,show n.toNat=n.natAbs from aaV]
theorem SC(x y:List UInt8):Lib.join [x,y] [32]=x++[32]++y:=by simp[Lib.join_cons,Lib.joinTail]
theorem acj(x y z:List UInt8):Lib.join [x,y,z] [32]=x++[32]++y++[32]++z:=by simp[Lib.join_cons,Lib.joinTail]
theorem Di:OK qj.e:=by
 refine PA.ok mixed (aB [kZ.e] ⟨rV,trivial⟩) aav aa1 (show∀text,qj.goal (Yt text) (text,())from ?_);intro text hin hp;dsimp only[qj]at hp ⊢;refine af (λh=>?_) λh=>?_
 .exact Lr (VS (by have:=fE h;omega))
 .have hl:text.length<=10:=aoH;refine fZ (mk:=λi v=>((v,i,()),())) (λy=>y.1.2.1) (λ_ _=>rfl) text.length aaV
   (λn v=>v=jQ (text.take n)/\∀i,i<n->48<=(text.getD i 0).toNat/\(text.getD i 0).toNat<=57) ⟨rfl,λi hi=>absurd hi (avE _)⟩ (λI μ n v hn hJ next=>?_) λI μ v hJ=>?_
  .obtain⟨rfl,hd⟩:=hJ;obtain⟨b0,b1⟩:=ahX hn hl hd;dsimp only;rw[auW];refine eX aaV ⟨⟨aaV,aaV⟩,af (λh2=>?_) λh2=>⟨⟨aaV,aaV⟩,af (λh3=>?_) λh3=>⟨⟨aaV,aaV⟩,rfl,?_⟩⟩⟩
   .exact Lr (NM hn aoA)
   .exact Lr (NM hn ar4)
   .have g2:=fV h2;have g3:=fV h3;have w1:IntKind.i64.wrap (10*jQ (text.take n))=10*jQ (text.take n):=eF _ aaV;have w2:IntKind.i64.wrap ((text.getD n 0).toNat:Int)=(text.getD n 0).toNat:=eF _ aaV;have w3:IntKind.i64.wrap (10*jQ (text.take n)+(text.getD n 0).toNat)=10*jQ (text.take n)+(text.getD n 0).toNat:=eF _ aaV;have w4:IntKind.i64.wrap (10*jQ (text.take n)+(text.getD n 0).toNat-48)=10*jQ (text.take n)+(text.getD n 0).toNat-48:=eF _ aaV;refine next _ ⟨?_,λi hi=>?_⟩
    .rw[w1,w2,w3,w4,aje hn];omega
    .rcases au2 i n with h5|h5
     .exact hd i h5
     .rw[show i=n from aaV];omega
  .obtain⟨rfl,hd⟩:=hJ;dsimp only;rw[avl (auH _)];refine eG aaV (af (λh2=>?_) λh2=>⟨trivial,af (λh3=>?_) λh3=>?_⟩)
   .refine Lr ?_;cases hk:aW text with
    |false=>rfl
    |true=>have:=(gX.1 (DT.1 hk).1).2;have:=fE h2;omega
   .refine Lr ?_;cases hk:aW text with
    |false=>rfl
    |true=>exact absurd (DT.1 hk).2 (ne_of_beq_false (iZ h3))
   .have e:=au5.1 (fB h3);have h0:0<=jQ text:=(Ls text.length text rfl (λb hb=>by obtain⟨i,hi,rfl⟩:=aws.1 hb;have:=hd i hi;rw[auF,auJ hi]at this;exact this)).1;have:=Rn (gX.2 ⟨h0,by have:=fV h2;omega⟩) e;rw[this.1,this.2]
theorem GV:OK lg.e:=by
 refine PA.ok mixed (aB [] trivial) WN aa1 (show∀line,lg.goal (UM line) (line,())from ?_);intro line hin hp;dsimp only[lg]at hp ⊢;have hp:line.length<=1048576:=hp;refine af (λh=>?_) λh=>?_
 .exact(Ez λhh=>by have:=fE h;omega).symm
 .have hl:line.length<=600:=aoH;refine fZ (mk:=λi(s:Int×Sp.LS)=>(((),s.1,i,()),s.2,())) (λy=>y.1.2.2.1) (λ_ _=>rfl) (line.length+1) aaV
   (λn s=>∃b:Nat,s.1=b/\Sp.splitAt line n b s.2) (s0:=((0:Int),[])) ⟨0,rfl,ahY line⟩ (λI μ n s hn hJ next=>?_) λI μ s hJ=>?_
  .obtain⟨b,out⟩:=s;obtain⟨b,rfl,hs⟩:=hJ;dsimp only at hs ⊢;have hb:=hs.1;have hout:=hs.2.2.1;have hw:IntKind.i64.wrap ((n:Int)+1)=((n+1:Nat):Int):=eF _ aaV;rw[auW,auW];refine eX aaV ⟨λ_=>n<line.length->lX (line.getD n 0)=true,?_,λ_ hj=>?_⟩
   .refine af (λh2=>⟨⟨aaV,aoA⟩,af (λh3=>?_) λh3=>⟨⟨aaV,aoA⟩,af (λh4=>?_) λh4=>⟨rfl,λ_=>?_⟩⟩⟩) λh2=>⟨rfl,λhh=>?_⟩
    .exact(Ez λhh=>by have h5:=zZ.1 (aaw hh.2.1 (show n<line.length from aoA));have:=fE h3;omega).symm
    .exact(Ez λhh=>by have h5:=zZ.1 (aaw hh.2.1 (show n<line.length from aoA));have:=fE h4;omega).symm
    .exact zZ.2 ⟨ar5,amv⟩
    .have:=fV h2;omega
   .have tail:(n<line.length->lX (line.getD n 0)=true/\line.getD n 0=32)->
     bif decide ((b:Int)<n)then((0:Int)<=b/\(b:Int)<=n/\(n:Int)<=line.length)/\List.length out+[(List.drop b (List.take n line),())].length<=big/\(((line,()),())=((line,()),()))/\
         I (((),IntKind.i64.wrap ((n:Int)+1),IntKind.i64.wrap ((n:Int)+1),()),out++[(List.drop b (List.take n line),())],())/\μ (((),IntKind.i64.wrap ((n:Int)+1),IntKind.i64.wrap ((n:Int)+1),()),out++[(List.drop b (List.take n line),())],())<μ (((),(b:Int),(n:Int),()),out,())
      else(((line,()),())=((line,()),()))/\I (((),IntKind.i64.wrap ((n:Int)+1),IntKind.i64.wrap ((n:Int)+1),()),out,())/\μ (((),IntKind.i64.wrap ((n:Int)+1),IntKind.i64.wrap ((n:Int)+1),()),out,())<μ (((),(b:Int),(n:Int),()),out,()):=by
     intro ho;refine af (λh3=>⟨⟨aaV,aaV,aaV⟩,?_,rfl,?_⟩) λh3=>⟨rfl,?_⟩
     .rw[iC];show _+1<=_;omega
     .exact next (IntKind.i64.wrap ((n:Int)+1),out++[((line.take n).drop b,())]) ⟨n+1,hw,ahZ hs aaV ar4 ho⟩
     .exact next (IntKind.i64.wrap ((n:Int)+1),out) ⟨n+1,hw,ah0 hs aaV ar5 ho⟩
    refine af (λh2=>⟨⟨aaV,aoA⟩,af (λh3=>⟨rfl,?_⟩) λh3=>?_⟩) λh2=>?_
    .have hn2:n<line.length:=aoA;exact next ((b:Int),out) ⟨b,rfl,ah1 hs hn2 (hj hn2) λe=>by rw[e]at h3;revert h3;decide⟩
    .refine tail λhn2=>⟨hj hn2,?_⟩;have h3:((line.getD n 0).toNat:Int)=32:=apR;exact UInt8.toNat_inj.1 (by show _=32;omega)
    .exact tail λhn2=>by have:=fV h2;omega
  .obtain⟨b,out⟩:=s;obtain⟨b,rfl,hs⟩:=hJ;dsimp only at hs ⊢;obtain⟨h1,h2⟩:=ajf hs;subst h2;refine eG aaV (af (λh2=>?_) λh2=>?_)
   .exact(Ez λhh=>by have:=fE h2;rw[uI]at this;omega).symm
   .exact(afj (qG.2 ⟨hl,h1,by have:=fV h2;rw[uI]at this;omega⟩)).symm
theorem NG:OK ql.e:=by
 refine PA.ok mixed (aB [] trivial) aeh aa1 (show∀p,ql.goal (ack p) (p,())from ?_);intro p hin hp;dsimp only[ql]at hp ⊢;have hp1:p.length<=1000:=hp.1;have hp2:(gm p).length<=2097152:=hp.2;refine fZ (mk:=λi s=>((s,i,()),())) (λy=>y.1.2.1) (λ_ _=>rfl) p.length aaV (λn s=>s=gm (p.take n)) rfl (λI μ n s hn hJ next=>?_) λI μ s hJ=>?_
 .subst hJ;have e:=alc hn;have hle:=af8 p (n+1);have hll:=congrArg List.length e;have h1:([32]:Sp.Bytes).length=1:=rfl;dsimp only;rw[auW];refine eX aaV (af (λh2=>?_) λh2=>?_)
  .have hn0:n≠0:=aoA;rw[if_neg hn0]at e hll;rw[auB,auB,h1]at hll;refine⟨?_,⟨aaV,aaV⟩,?_,rfl,next _ e.symm⟩
   .rw[maxLen_eq,h1];omega
   .rw[maxLen_eq,auB,h1];omega
  .have hn0:n=0:=by have:=fV h2;omega
   subst hn0;refine⟨⟨aaV,aaV⟩,?_,rfl,next _ e.symm⟩;have h0:(gm (p.take 0)).length=0:=rfl;rw[maxLen_eq,h0];rw[if_pos rfl,avx]at hll;omega
 .subst hJ;dsimp only;refine eG aaV ?_;rw[avl (auH _)]
theorem UN:OK nV.e:=by
 refine PA.ok mixed (aB [(Ew,.pure BA),ji.e] ⟨⟨X6,VU⟩,kE,trivial⟩) WO aa1 (show∀line,nV.goal (UO line) (line,())from ?_);intro line hin hp;dsimp only[nV]at hp ⊢;refine af (λh=>?_) λh=>?_
 .exact(Ez λhh=>by have:=fE h;omega).symm
 .have hl:line.length<=600:=aoH;refine kW line.length aaV (λn=>∀i,i<n->lX (line.getD i 0)=true) (λi hi=>absurd hi (avE _)) (λI μ n hn hJ next=>?_) λI μ hJ=>?_
  .dsimp only;rw[auW,ald];refine eX aaV ⟨⟨aaV,aaV⟩,trivial,af (λh2=>?_) λh2=>⟨rfl,next λi hi=>?_⟩⟩
   .exact(Ez λhh=>by have:=aaw hh.2.1 hn;rw[iZ h2]at this;cases this).symm
   .rcases au2 i n with h5|h5
    .exact hJ i h5
    .rw[show i=n from aaV];exact fB h2
  .dsimp only;have hall:=ah2 hJ;refine eG aaV ⟨⟨hp,an1 hall⟩,af (λh2=>?_) λh2=>?_⟩
   .exact(Ez λhh=>by have:=fE h2;rw[uI]at this;omega).symm
   .exact(afj (qG.2 ⟨hl,hall,by have:=fV h2;rw[uI]at this;omega⟩)).symm
theorem Gg:OK lQ.e:=by
 refine PA.ok mixed (aB [] trivial) H0 aa1 (show∀p at',lQ.goal (acn p at') (p,at',())from ?_);intro w i hin hp;dsimp only[lQ]at hp ⊢;refine af (λh=>?_) λh=>⟨⟨hp,aoH⟩,?_⟩
 .rw[pO (fE h)]
 .rw[pK aoH]
theorem ad1:OK vO.e:=by refine PA.ok mixed (aB [qj.e,lQ.e] ⟨Di,Gg,trivial⟩) H0 aa1 (show∀p at',vO.goal (aei p at') (p,at',())from ?_);intro w i hin hp;dsimp only[vO]at hp ⊢;exact⟨hp,trivial,rfl⟩
theorem OD:OK kV.e:=by
 refine PA.ok mixed (aB [] trivial) Qj aa1 (show∀s1 s2,kV.goal (OE s1 s2) (s1,s2,())from ?_);intro a b hin hp;dsimp only[kV]at hp ⊢;have hlen:a.length<=maxLen:=hin.1.1;rw[maxLen_eq]at hlen;refine af (λh=>?_) λh=>?_
 .have h:(a.length:Int)≠b.length:=acs;exact congrArg (·,()) (auU λe=>h ar2).symm
 .have h:(a.length:Int)=b.length:=acs;exact Hq (K:=λr=>r=(decide (a=b),())) (λx y=>!(x.1==y.1)) (λx y=>aqM) _ a b _ hlen aaV (λe=>arM) λe=>arN
end Go.Proofs.Tryz
