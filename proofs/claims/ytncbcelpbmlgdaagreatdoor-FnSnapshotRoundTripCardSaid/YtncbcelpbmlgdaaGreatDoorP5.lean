import Derived.Test.YtncbcelpbmlgdaaGreatDoorP1
import Derived.Test.YtncbcelpbmlgdaaGreatDoorL1
import Derived.Test.YtncbcelpbmlgdaaGreatDoorSp
import Derived.Test.YtncbcelpbmlgdaaGreatDoorV3
import Derived.Test.YtncbcelpbmlgdaaGreatDoorL4
import Derived.Test.YtncbcelpbmlgdaaGreatDoorV20
import Derived.Test.YtncbcelpbmlgdaaGreatDoorFwC
namespace Go.Proofs.Tryz
open Go Go.Fw Go.IntWalk Sp
theorem TB(a:Int)(x:ak):(Sp.refsOf a x:Int)=(if(x.1=6\/x.1=7\/x.1=5)/\x.2.1=a then 1 else 0)+(if(x.1=6\/x.1=7)/\x.2.2.1=a then 1 else 0):=by unfold Sp.refsOf iW;by_cases h6:x.1=6<;>by_cases h7:x.1=7<;>by_cases h5:x.1=5<;>by_cases hl:x.2.1=a<;>by_cases hr:x.2.2.1=a<;>simp[cond_eq_ite,h6,h7,h5,hl,hr]
theorem apB(a:Int)(x:ak):Sp.refsOf a x<=2:=by have:=TB a x;split at this<;>split at this<;>omega
def nH(q:List ak)(a:Int)(n:Nat):Nat:=((q.take n).map (Sp.refsOf a)).sum
theorem Pn(q:List ak)(a:Int){n:Nat}(hn:n<q.length):nH q a (n+1)=nH q a n+Sp.refsOf a (Sp.nodeAt q n):=by unfold nH;rw[Sp.take_succ' q n (0,0,0,[],0,0,[],()) hn];simp only[avN,awH,au8,axH,avT,List.sum_nil,awm];rfl
theorem Xn(q:List ak)(a:Int):∀n,n<=q.length->nH q a n<=2*n
 |0,_=>by simp[nH]
 |n+1,h=>by rw[Pn q a (by omega)];have:=Xn q a n (by omega);have:=apB a (Sp.nodeAt q n);omega
theorem acN(q:List ak)(a:Int):nH q a q.length=gK q a:=by unfold nH gK;rw[av7]
theorem NI:OK qQ.e:=by
 refine PA.ok mixed (aA [] trivial) Po (by kernel_rfl) (show∀q at',qQ.goal (NJ q at') (q,at',())from ?_);intro q a hin hp;dsimp only[qQ]at hp ⊢;have hp:q.length<=2000000:=hp;refine iy (λi(c:Int)=>((c,i,()),())) (λy=>y.1.2.1) (λ_ _=>rfl) q.length (by omega) (λn c=>c=(nH q a n:Int)) rfl (λI μ n c hn hJ next=>?_) λI μ c hJ=>?_
 .subst hJ;have hs:=Pn q a hn;have hb:=Xn q a n (by omega);have hr:=TB a (Sp.nodeAt q n);dsimp only;rw[ava];have e:q.getD n (0,0,0,[],0,0,[],())=Sp.nodeAt q n:=rfl;rw[e];have w1:IntKind.i64.wrap ((nH q a n:Int)+1)=(nH q a n:Int)+1:=fE _ (by omega);have w2:IntKind.i64.wrap ((nH q a n:Int)+1+1)=(nH q a n:Int)+1+1:=fE _ (by omega);refine fP (by omega) ⟨⟨by omega,by omega⟩,af (λh6=>⟨λy=>y=(((nH q a n:Int)+(if(Sp.nodeAt q n).2.1=a then 1 else 0),()),()),⟨⟨by omega,by omega⟩,af (λhl=>⟨rfl,?_⟩) λhl=>⟨rfl,?_⟩⟩,?_⟩) λh6=>⟨⟨by omega,by omega⟩,λy=>y=(((nH q a n:Int)+(if((Sp.nodeAt q n).1=7\/(Sp.nodeAt q n).1=5)/\(Sp.nodeAt q n).2.1=a then 1 else 0),()),()),?_,?_⟩⟩
  .simp only[avj]at hl;rw[w1,if_pos hl]
  .simp only[auP]at hl;rw[if_neg hl,aw1]
  .rintro _ rfl;simp only[avj]at h6;refine⟨⟨by omega,by omega⟩,af (λhrr=>⟨rfl,next _ ?_⟩) λhrr=>⟨rfl,next _ ?_⟩⟩
   all_goals
    dsimp only;simp only[avj,auP,ne_eq]at hrr;by_cases hl:(Sp.nodeAt q n).2.1=a<;>simp[h6,hl,hrr]at hr<;>simp only[hl,if_true,axb,aw1,w1,w2]<;>omega
  .simp only[auP,ne_eq]at h6;refine af (λh7=>⟨⟨by omega,by omega⟩,af (λhl=>⟨rfl,?_⟩) λhl=>⟨rfl,?_⟩⟩) λh7=>⟨⟨by omega,by omega⟩,af (λh5=>⟨⟨by omega,by omega⟩,af (λhl=>⟨rfl,?_⟩) λhl=>⟨rfl,?_⟩⟩) λh5=>⟨rfl,?_⟩⟩
   all_goals simp_all
  .rintro _ rfl;simp only[auP,ne_eq]at h6;refine af (λh7=>⟨⟨by omega,by omega⟩,af (λhrr=>⟨rfl,next _ ?_⟩) λhrr=>⟨rfl,next _ ?_⟩⟩) λh7=>⟨rfl,next _ ?_⟩
   .simp only[avj]at h7 hrr;by_cases hl:(Sp.nodeAt q n).2.1=a<;>simp[h6,h7,hl,hrr]at hr<;>simp only[h7,hl,true_or,and_self,and_false,if_true,axb,aw1,w1,w2]<;>omega
   .simp only[avj,auP,ne_eq]at h7 hrr;by_cases hl:(Sp.nodeAt q n).2.1=a<;>simp[h6,h7,hl,hrr]at hr<;>simp only[h7,hl,true_or,and_self,and_false,if_true,axb,aw1,w1,w2]<;>omega
   .simp only[auP,ne_eq]at h7;dsimp only;by_cases h5:(Sp.nodeAt q n).1=5<;>by_cases hl:(Sp.nodeAt q n).2.1=a<;>simp[h6,h7,h5,hl]at hr<;>simp[h7,h5,hl]<;>omega
 .dsimp only;refine fQ (by omega) ?_;rw[hJ,acN]
theorem NK:OK qR.e:=by
 refine PA.ok mixed (aA [] trivial) Pq (by kernel_rfl) (show∀q at',qR.goal (NM q at') (q,at',())from ?_);intro q a hin hp;dsimp only[qR]at hp ⊢;have hp:q.length<=2000000:=hp;refine iy (λi(c:Int)=>((c,i,()),())) (λy=>y.1.2.1) (λ_ _=>rfl) q.length (by omega) (λn c=>c=(nH q a n:Int)) rfl (λI μ n c hn hJ next=>?_) λI μ c hJ=>?_
 .subst hJ;have hs:=Pn q a hn;have hb:=Xn q a n (by omega);have hr:=TB a (Sp.nodeAt q n);dsimp only;rw[ava];have e:q.getD n (0,0,0,[],0,0,[],())=Sp.nodeAt q n:=rfl;rw[e];have w1:IntKind.i64.wrap ((nH q a n:Int)+1)=(nH q a n:Int)+1:=fE _ (by omega);have w2:IntKind.i64.wrap ((nH q a n:Int)+1+1)=(nH q a n:Int)+1+1:=fE _ (by omega);refine fP (by omega) ⟨⟨by omega,by omega⟩,af (λh6=>⟨λy=>y=(((nH q a n:Int)+(if(Sp.nodeAt q n).2.1=a then 1 else 0),()),()),af (λhl=>⟨rfl,?_⟩) λhl=>⟨rfl,?_⟩,?_⟩) λh6=>⟨λy=>y=(((nH q a n:Int)+(if((Sp.nodeAt q n).1=7\/(Sp.nodeAt q n).1=5)/\(Sp.nodeAt q n).2.1=a then 1 else 0),()),()),?_,?_⟩⟩
  .simp only[avj]at hl;rw[w1,if_pos hl]
  .simp only[auP]at hl;rw[if_neg hl,aw1]
  .rintro _ rfl;simp only[avj]at h6;refine af (λhrr=>⟨rfl,next _ ?_⟩) λhrr=>⟨rfl,next _ ?_⟩
   all_goals
    dsimp only;simp only[avj,auP,ne_eq]at hrr;by_cases hl:(Sp.nodeAt q n).2.1=a<;>simp[h6,hl,hrr]at hr<;>simp only[hl,if_true,axb,aw1,w1,w2]<;>omega
  .simp only[auP,ne_eq]at h6;refine af (λhl=>af (λh7=>⟨rfl,?_⟩) λh7=>af (λh5=>⟨rfl,?_⟩) λh5=>⟨rfl,?_⟩) λhl=>⟨rfl,?_⟩
   all_goals simp_all
  .rintro _ rfl;simp only[auP,ne_eq]at h6;refine af (λhrr=>af (λh7=>⟨rfl,next _ ?_⟩) λh7=>⟨rfl,next _ ?_⟩) λhrr=>⟨rfl,next _ ?_⟩
   .simp only[avj]at h7 hrr;by_cases hl:(Sp.nodeAt q n).2.1=a<;>simp[h6,h7,hl,hrr]at hr<;>simp only[h7,hl,true_or,and_self,and_false,if_true,axb,aw1,w1,w2]<;>omega
   .simp only[auP,ne_eq]at h7;dsimp only;by_cases h5:(Sp.nodeAt q n).1=5<;>by_cases hl:(Sp.nodeAt q n).2.1=a<;>simp[h6,h7,h5,hl]at hr<;>simp[h7,h5,hl]<;>omega
   .simp only[auP,ne_eq]at hrr;dsimp only;by_cases h7:(Sp.nodeAt q n).1=7<;>by_cases h5:(Sp.nodeAt q n).1=5<;>by_cases hl:(Sp.nodeAt q n).2.1=a<;>simp[h6,h7,h5,hl,hrr]at hr<;>simp[h7,h5,hl]<;>omega
 .dsimp only;refine fQ (by omega) ?_;rw[hJ,acN]
theorem acO{q:List ak}{n:Nat}(hn:n<q.length)(h:kN q n=false):ax q=false:=by unfold ax;rw[Ba hn h];rfl
theorem AA:OK mY.e:=by
 refine PA.ok mixed (aA [jl.e,qQ.e,wX.e] ⟨lD,NI,Vk,trivial⟩) Vl (by kernel_rfl) (show∀q,mY.goal (TD q) (q,())from ?_);intro q hin hp;dsimp only[mY]at hp ⊢;have hp:q.length<=2000000:=hp;refine kS q.length (by omega) (λn=>∀i,i<n->kN q i=true) (λi hi=>by omega) (λI μ n hn hJ next=>?_) λI μ hJ=>?_
 .dsimp only;have no:kN q n=false->(false,())=(ax q,()):=λh=>by rw[acO hn h]
  rw[zG (show 0<q.length by omega) (by omega)];refine fP (by omega) ⟨⟨by omega,by omega⟩,trivial,af (λh2=>no ?_) λh2=>af (λh3=>⟨hp,af (λh4=>no ?_) λh4=>⟨rfl,next (dW hJ ?_)⟩⟩) λh3=>⟨rfl,next (dW hJ ?_)⟩⟩
  .have h2:dO (Sp.nodeAt q n) n=false:=jP h2;unfold kN;rw[h2];rfl
  .have h2:dO (Sp.nodeAt q n) n=true:=gI h2;have h4:(gK q n:Int)≠1:=by simpa using h4
   have h3:(n:Int)<(q.length:Int)-1:=by have:=fH h3;omega
   unfold kN;simp only[h3,h2];simp;omega
  .have h2:dO (Sp.nodeAt q n) n=true:=gI h2;have h4:(gK q n:Int)=1:=by simpa using h4
   have h4:gK q n=1:=by omega
   unfold kN;simp[h2,h4]
  .have h2:dO (Sp.nodeAt q n) n=true:=gI h2;have h3:¬(n:Int)<(q.length:Int)-1:=by have:=fV h3;omega
   unfold kN;simp[h2,h3]
 .dsimp only;refine fQ (by omega) ⟨trivial,congrArg (·,()) ?_⟩;unfold ax;rw[nD hJ];rfl
theorem uz:OK ja.e:=by
 refine PA.ok mixed (aA [jE.e,qR.e,wY.e] ⟨lT,NK,Vj,trivial⟩) Vm (by kernel_rfl) (show∀q,ja.goal (TF q) (q,())from ?_);intro q hin hp;dsimp only[ja]at hp ⊢;have hp:q.length<=2000000:=hp;refine kS q.length (by omega) (λn=>∀i,i<n->kN q i=true) (λi hi=>by omega) (λI μ n hn hJ next=>?_) λI μ hJ=>?_
 .dsimp only;have no:kN q n=false->(false,())=(ax q,()):=λh=>by rw[acO hn h]
  rw[zG (show 0<q.length by omega) (by omega)];refine fP (by omega) ⟨⟨by omega,by omega⟩,trivial,af (λh2=>no ?_) λh2=>af (λh3=>⟨hp,af (λh4=>no ?_) λh4=>⟨rfl,next (dW hJ ?_)⟩⟩) λh3=>⟨rfl,next (dW hJ ?_)⟩⟩
  .have h2:dO (Sp.nodeAt q n) n=false:=jP h2;unfold kN;rw[h2];rfl
  .have h2:dO (Sp.nodeAt q n) n=true:=gI h2;have h4:(gK q n:Int)≠1:=by simpa using h4
   have h3:(n:Int)<(q.length:Int)-1:=by have:=fH h3;omega
   unfold kN;simp only[h3,h2];simp;omega
  .have h2:dO (Sp.nodeAt q n) n=true:=gI h2;have h4:(gK q n:Int)=1:=by simpa using h4
   have h4:gK q n=1:=by omega
   unfold kN;simp[h2,h4]
  .have h2:dO (Sp.nodeAt q n) n=true:=gI h2;have h3:¬(n:Int)<(q.length:Int)-1:=by have:=fV h3;omega
   unfold kN;simp[h2,h3]
 .dsimp only;refine fQ (by omega) ⟨trivial,congrArg (·,()) ?_⟩;unfold ax;rw[nD hJ];rfl
theorem afx{d:List bD}{n:Nat}(hn:n<d.length)(h:kz d n=false):ny d=false:=by unfold ny;rw[Ba hn h];rfl
theorem U9:OK wZ.e:=by
 refine PA.ok mixed (aA [mY.e,lH.e] ⟨AA,zF,trivial⟩) Xo (by kernel_rfl) (show∀d,wZ.goal (Vo d) (d,())from ?_);intro d hin hp;dsimp only[wZ]at hp ⊢;have hp:eu d:=hp;have hlen:d.length<=1000:=hp.1;refine kS d.length (by omega) (λn=>∀i,i<n->kz d i=true) (λi hi=>by omega) (λI μ n hn hJ next=>?_) λI μ hJ=>?_
 .dsimp only;have no:kz d n=false->(false,())=(ny d,()):=λh=>by rw[afx hn h]
  have hq:(dm d n).2.1.length<=2000000:=auU (Ic hp hn) (by omega);refine fP (by omega) ⟨⟨by omega,by omega⟩,trivial,af (λh2=>no ?_) λh2=>⟨⟨by omega,by omega⟩,hq,af (λh3=>no ?_) λh3=>af (λh4=>?_) λh4=>⟨rfl,next (dW hJ ?_)⟩⟩⟩
  .have h2:aT (dm d n).1=false:=jP h2;unfold kz;rw[h2];rfl
  .have h3:ax (dm d n).2.1=false:=jP h3;unfold kz;rw[h3];simp
  .have h2:aT (dm d n).1=true:=gI h2;have h3:ax (dm d n).2.1=true:=gI h3;have h4:0<n:=by have:=fH h4;omega
   rw[zG h4 (by omega)];refine⟨⟨by omega,by omega⟩,⟨by omega,by omega⟩,af (λh5=>no ?_) λh5=>⟨rfl,next (dW hJ ?_)⟩⟩
   .have h5:Op.bytesLess (dm d (n-1)).1 (dm d n).1=false:=jP h5;unfold kz;rw[h2,h3,h5,au2 h4];rfl
   .have h5:Op.bytesLess (dm d (n-1)).1 (dm d n).1=true:=gI h5;unfold kz;rw[h2,h3,h5,au2 h4];rfl
  .have h2:aT (dm d n).1=true:=gI h2;have h3:ax (dm d n).2.1=true:=gI h3;have h4:¬0<n:=by have:=fV h4;omega
   unfold kz;rw[h2,h3,au6 h4];rfl
 .dsimp only;refine fQ (by omega) (congrArg (·,()) ?_);unfold ny;rw[nD hJ];rfl
theorem Vb:OK xg.e:=by
 refine PA.ok mixed (aA [ja.e,lI.e] ⟨uz,zH,trivial⟩) Xp (by kernel_rfl) (show∀d,xg.goal (Vp d) (d,())from ?_);intro d hin hp;dsimp only[xg]at hp ⊢;have hp:eu d:=hp;have hlen:d.length<=1000:=hp.1;refine kS d.length (by omega) (λn=>∀i,i<n->kz d i=true) (λi hi=>by omega) (λI μ n hn hJ next=>?_) λI μ hJ=>?_
 .dsimp only;have no:kz d n=false->(false,())=(ny d,()):=λh=>by rw[afx hn h]
  have hq:(dm d n).2.1.length<=2000000:=auU (Ic hp hn) (by omega);refine fP (by omega) ⟨⟨by omega,by omega⟩,trivial,af (λh2=>no ?_) λh2=>af (λh4=>?_) λh4=>⟨hq,af (λh3=>no ?_) λh3=>⟨rfl,next (dW hJ ?_)⟩⟩⟩
  .have h2:aT (dm d n).1=false:=jP h2;unfold kz;rw[h2];rfl
  .have h2:aT (dm d n).1=true:=gI h2;have h4:0<n:=by have:=fH h4;omega
   rw[zG h4 (by omega)];refine⟨⟨by omega,by omega⟩,af (λh5=>no ?_) λh5=>⟨hq,af (λh3=>no ?_) λh3=>⟨rfl,next (dW hJ ?_)⟩⟩⟩
   .have h5:Op.bytesLess (dm d (n-1)).1 (dm d n).1=false:=jP h5;unfold kz;rw[h5,au2 h4];simp
   .have h3:ax (dm d n).2.1=false:=jP h3;unfold kz;rw[h3];simp
   .have h3:ax (dm d n).2.1=true:=gI h3;have h5:Op.bytesLess (dm d (n-1)).1 (dm d n).1=true:=gI h5;unfold kz;rw[h2,h3,h5,au2 h4];rfl
  .have h3:ax (dm d n).2.1=false:=jP h3;unfold kz;rw[h3];simp
  .have h2:aT (dm d n).1=true:=gI h2;have h3:ax (dm d n).2.1=true:=gI h3;have h4:¬0<n:=by have:=fV h4;omega
   unfold kz;rw[h2,h3,au6 h4];rfl
 .dsimp only;refine fQ (by omega) (congrArg (·,()) ?_);unfold ny;rw[nD hJ];rfl
end Go.Proofs.Tryz
namespace Go.Proofs.Tryz
open Go Go.Fw Go.IntWalk Sp
theorem afy{S:Type}{B:((Int×Unit)×S->Prop)->((Int×Unit)×S->Nat)->(Int×Unit)×S->Prop}(len:Nat)(hlen:len<=9223372036854775807)(J:Nat->S->Prop){s0:S}(h0:J len s0)
 (hstep:∀I μ(n:Nat)(s:S),n<len->J (n+1) s->(∀s',J n s'->I ((IntKind.i64.wrap ((n:Int)-1),()),s')/\μ ((IntKind.i64.wrap ((n:Int)-1),()),s')<μ (((n:Int),()),s))->B I μ (((n:Int),()),s))
 (hend:∀I μ s,J 0 s->B I μ ((-1,()),s)):∃I,∃μ,I ((IntKind.i64.wrap ((len:Int)-1),()),s0)/\∀y,I y->B I μ y:=by
 have w:∀n:Nat,n<=len->IntKind.i64.wrap ((n:Int)-1)=(n:Int)-1:=λn hn=>fE _ (by omega);refine⟨λy=>∃(n:Nat)(s:S),y=(((n:Int)-1,()),s)/\n<=len/\J n s,λy=>(y.1.1+1).toNat,⟨len,s0,by rw[w len (auT _)],auT _,h0⟩,?_⟩;rintro _ ⟨n,s,rfl,hn,hJ⟩;cases n with
 |zero=>exact hend _ _ s hJ
 |succ n=>
  have e:((n+1:Nat):Int)-1=n:=by omega
  rw[e];refine hstep _ _ n s hn hJ λs' hJ'=>?_;rw[w n (by omega)];refine⟨⟨n,s',rfl,by omega,hJ'⟩,?_⟩;show((n:Int)-1+1).toNat<((n:Int)+1).toNat;omega
theorem getD_set_ne{α:Type}(l:List α)(i n:Nat)(x d:α)(h:i≠n):(l.set i x).getD n d=l.getD n d:=by rw[auS,auS,avL h]
theorem KP{x:ak}{a:Int}(h:dO x a=true)(h2:x.1=5\/x.1=6\/x.1=7):0<=x.2.1/\x.2.1<a:=by obtain⟨x0,x1,x2,x3,x4,x5,x6,_⟩:=x;rw[KO]at h;rcases h2 with rfl|rfl|rfl<;>simp at h<;>exact⟨h.1.1.1.1,by dsimp only;omega⟩
theorem KQ{x:ak}{a:Int}(h:dO x a=true)(h2:x.1=6\/x.1=7):0<=x.2.2.1/\x.2.2.1<a:=by obtain⟨x0,x1,x2,x3,x4,x5,x6,_⟩:=x;rw[KO]at h;rcases h2 with rfl|rfl<;>simp at h<;>exact⟨h.1.2.1,by dsimp only;omega⟩
theorem acP{q:List ak}(h:ax q=true){n:Nat}(hn:n<q.length):dO (Sp.nodeAt q n) n=true:=by unfold ax at h;simp only[auO]at h;have:=Pv.1 h.1 n hn;unfold kN at this;simp only[auO]at this;exact this.1
theorem gy{q:List ak}(h:ax q=true):1<=q.length/\q.length<=9:=by unfold ax at h;simp only[auO,au1]at h;omega
theorem Zw{q:List ak}{n:Nat}{out:List (Bool×Unit)}(h:(Sp.nodeAt q n).1=5):jU q n out=out.set (Sp.nodeAt q n).2.1.toNat (true,()):=by unfold jU;simp[h]
theorem Zx{q:List ak}{n:Nat}{out:List (Bool×Unit)}(h:(Sp.nodeAt q n).1=6\/(Sp.nodeAt q n).1=7):jU q n out=(out.set (Sp.nodeAt q n).2.1.toNat ((out.getD n (false,())).1,())).set (Sp.nodeAt q n).2.2.1.toNat ((out.getD n (false,())).1,()):=by unfold jU iW;rcases h with h|h<;>simp[h]
theorem Xq{q:List ak}{n:Nat}{out:List (Bool×Unit)}(h5:(Sp.nodeAt q n).1≠5)(h6:(Sp.nodeAt q n).1≠6)(h7:(Sp.nodeAt q n).1≠7):jU q n out=out:=by unfold jU iW;dsimp only;rw[auP.2 h5,auP.2 h6,auP.2 h7];rfl
theorem Bo(q:List ak):∀(n:Nat)(out:List (Bool×Unit)),(iI q n out).length=out.length
 |0,out=>rfl
 |n+1,out=>by
  rw[iI,Bo q n];unfold jU;simp only[cond_eq_ite];split
  .simp
  .split<;>simp
theorem ajk{q:List ak}(h:ax q=true):(Sp.negated q).length=q.length:=by unfold Sp.negated;rw[h];show(iI q _ _).length=_;rw[Bo];simp
theorem TG:OK vO.e:=by
 refine PA.ok mixed (aA [ja.e] ⟨uz,trivial⟩) Vs (by kernel_rfl) (show∀q,vO.goal (TJ q) (q,())from ?_);intro q hin hp;dsimp only[vO]at hp ⊢;have hp:q.length<=1000:=hp;refine⟨by omega,af (λh=>?_) λh=>⟨⟨by omega,by omega,by rw[iF];omega⟩,?_⟩⟩
 .have h:=jP h;unfold Sp.negated;rw[h];rfl
 have hok:=gI h;have hR:Sp.negated q=iI q q.length (List.replicate q.length (false,())):=by unfold Sp.negated;rw[hok];rfl
 refine afy q.length (by omega) (λn(s:List (Bool×Unit)×Unit)=>s.1.length=q.length/\iI q n s.1=Sp.negated q) ⟨by simp,hR.symm⟩ (λI μ n s hn hJ next=>?_) λI μ s hJ=>?_
 .obtain⟨out,⟨⟩⟩:=s;obtain⟨hl,hJ⟩:=hJ;have hl:out.length=q.length:=hl;have hJ:iI q n (jU q n out)=Sp.negated q:=hJ;have hk:=acP hok hn;have e:q.getD n (0,0,0,[],0,0,[],())=Sp.nodeAt q n:=rfl;dsimp only;rw[ava,e];simp only[avn];refine fP (by omega) ⟨⟨by omega,by omega⟩,by omega,?_⟩;by_cases h5:(Sp.nodeAt q n).1=5
  .have hb:=KP hk (.inl h5);simp only[h5,Int.reduceBEq,axQ,axf];have fin:iI q n (out.set (Sp.nodeAt q n).2.1.toNat (true,()))=Sp.negated q:=by rw[← Zw h5];exact hJ
   refine af (λ_=>⟨⟨by omega,by omega⟩,⟨by omega,by omega⟩,⟨by omega,by omega⟩,by omega,trivial,next _ ⟨by simp[hl],fin⟩⟩) λ_=>⟨⟨by omega,by omega⟩,⟨by omega,by omega⟩,⟨by omega,by omega⟩,⟨by omega,by omega⟩,by omega,trivial,next _ ⟨by simp[hl],fin⟩⟩
  by_cases QU:(Sp.nodeAt q n).1=6\/(Sp.nodeAt q n).1=7
  .have hb:=KP hk (.inr QU);have hb2:=KQ hk QU;have fin:∀b,(out.getD n (false,())).1=b->iI q n ((out.set (Sp.nodeAt q n).2.1.toNat (b,())).set (Sp.nodeAt q n).2.2.1.toNat (b,()))=Sp.negated q:=λb hb=>by rw[← hb,← Zx QU];exact hJ
   rcases QU with h6|h6
   all_goals
    simp only[h6,Int.reduceBEq,axQ,axf];refine af (λhc=>⟨⟨by omega,by omega⟩,⟨by omega,by omega⟩,⟨by omega,by omega⟩,⟨by omega,by omega⟩,by omega,⟨by omega,by omega⟩,by omega,trivial,next _ ⟨by simp[hl],fin true hc⟩⟩) λhc=>⟨⟨by omega,by omega⟩,⟨by omega,by omega⟩,⟨by omega,by omega⟩,⟨by omega,by omega⟩,⟨by omega,by omega⟩,by omega,⟨by omega,by omega⟩,by omega,trivial,next _ ⟨by simp[hl],fin false hc⟩⟩
  .have h6:(Sp.nodeAt q n).1≠6:=λh=>QU (.inl h);have h7:(Sp.nodeAt q n).1≠7:=λh=>QU (.inr h);have fin:iI q n out=Sp.negated q:=by rw[Xq h5 h6 h7]at hJ;exact hJ
   simp only[auP.2 h5,auP.2 h6,auP.2 h7,axf];exact af (λ_=>⟨⟨by omega,by omega⟩,rfl,next _ ⟨hl,fin⟩⟩) λ_=>⟨⟨by omega,by omega⟩,⟨by omega,by omega⟩,rfl,next _ ⟨hl,fin⟩⟩
 .obtain⟨out,⟨⟩⟩:=s;obtain⟨hl,hJ⟩:=hJ;dsimp only;refine fQ (by omega) ?_;have hJ:out=Sp.negated q:=hJ;rw[hJ]
theorem TL:OK vN.e:=by
 refine PA.ok mixed (aA [mY.e] ⟨AA,trivial⟩) Vt (by kernel_rfl) (show∀q,vN.goal (TM q) (q,())from ?_);intro q hin hp;dsimp only[vN]at hp ⊢;have hp:q.length<=1000:=hp;refine⟨by omega,af (λh=>?_) λh=>⟨⟨by omega,by omega,by rw[iF];omega⟩,?_⟩⟩
 .have h:=jP h;unfold Sp.negated;rw[h];rfl
 have hok:=gI h;have hR:Sp.negated q=iI q q.length (List.replicate q.length (false,())):=by unfold Sp.negated;rw[hok];rfl
 refine afy q.length (by omega) (λn(s:List (Bool×Unit)×Unit)=>s.1.length=q.length/\iI q n s.1=Sp.negated q) ⟨by simp,hR.symm⟩ (λI μ n s hn hJ next=>?_) λI μ s hJ=>?_
 .obtain⟨out,⟨⟩⟩:=s;obtain⟨hl,hJ⟩:=hJ;have hl:out.length=q.length:=hl;have hJ:iI q n (jU q n out)=Sp.negated q:=hJ;have hk:=acP hok hn;have e:q.getD n (0,0,0,[],0,0,[],())=Sp.nodeAt q n:=rfl;dsimp only;rw[ava,e];simp only[avn];refine fP (by omega) ⟨⟨by omega,by omega⟩,?_⟩;by_cases h5:(Sp.nodeAt q n).1=5
  .have hb:=KP hk (.inl h5);simp only[h5,Int.reduceBEq,axQ,axf];have fin:iI q n (out.set (Sp.nodeAt q n).2.1.toNat (true,()))=Sp.negated q:=by rw[← Zw h5];exact hJ
   exact⟨⟨by omega,by omega⟩,by omega,trivial,next _ ⟨by simp[hl],fin⟩⟩
  by_cases QU:(Sp.nodeAt q n).1=6\/(Sp.nodeAt q n).1=7
  .have hb:=KP hk (.inr QU);have hb2:=KQ hk QU;have hne:(Sp.nodeAt q n).2.1.toNat≠n:=by omega
   have fin:iI q n ((out.set (Sp.nodeAt q n).2.1.toNat ((out.getD n (false,())).1,())).set (Sp.nodeAt q n).2.2.1.toNat ((out.getD n (false,())).1,()))=Sp.negated q:=by rw[← Zx QU];exact hJ
   rcases QU with h6|h6
   all_goals
    simp only[h6,Int.reduceBEq,axQ,axf,getD_set_ne _ _ _ _ _ hne];exact⟨⟨by omega,by omega⟩,by omega,⟨by omega,by omega⟩,by omega,⟨by omega,by omega⟩,by omega,⟨by omega,by omega⟩,by omega,trivial,next _ ⟨by simp[hl],fin⟩⟩
  .have h6:(Sp.nodeAt q n).1≠6:=λh=>QU (.inl h);have h7:(Sp.nodeAt q n).1≠7:=λh=>QU (.inr h);have fin:iI q n out=Sp.negated q:=by rw[Xq h5 h6 h7]at hJ;exact hJ
   simp only[auP.2 h5,auP.2 h6,auP.2 h7,axf];exact⟨rfl,next _ ⟨hl,fin⟩⟩
 .obtain⟨out,⟨⟩⟩:=s;obtain⟨hl,hJ⟩:=hJ;dsimp only;refine fQ (by omega) ?_;have hJ:out=Sp.negated q:=hJ;rw[hJ]
end Go.Proofs.Tryz
namespace Go.Proofs.Tryz
open Go Go.Fw Go.IntWalk Sp
def aeJ(q:List ak)(neg:Bool)(i:Nat):Option Sp.Bytes:=bif pR (Sp.nodeAt q i)&&((Sp.negated q).getD i (false,())).1==neg then some (Sp.nodeAt q i).2.2.2.1 else none
def CY(q:List ak)(neg:Bool)(n:Nat):List Sp.Bytes:=(List.range n).filterMap (aeJ q neg)
theorem xU(q:List ak)(neg:Bool):CY q neg (Sp.negated q).length=dU q neg:=rfl
theorem ac6{q:List ak}{neg:Bool}{n:Nat}(h1:pR (Sp.nodeAt q n)=true)(h2:((Sp.negated q).getD n (false,())).1=neg):CY q neg (n+1)=CY q neg n++[(Sp.nodeAt q n).2.2.2.1]:=by
 unfold CY;rw[axm,List.filterMap_append];congr 1;show List.filterMap _ [n]=_;rw[List.filterMap_cons];have:aeJ q neg n=some (Sp.nodeAt q n).2.2.2.1:=by unfold aeJ;rw[h1,h2];simp
 rw[this];rfl
theorem OM{q:List ak}{neg:Bool}{n:Nat}(h:¬(pR (Sp.nodeAt q n)=true/\((Sp.negated q).getD n (false,())).1=neg)):CY q neg (n+1)=CY q neg n:=by
 unfold CY;rw[axm,List.filterMap_append];have:aeJ q neg n=none:=by
  unfold aeJ;have:(pR (Sp.nodeAt q n)&&((Sp.negated q).getD n (false,())).1==neg)=false:=by rw[axV];intro h';rw[auO,avj]at h';exact h h'
  rw[this];rfl
 rw[List.filterMap_cons,this];simp
theorem xW(q:List ak)(neg:Bool)(n:Nat):(CY q neg n).length<=n:=by have:=List.length_filterMap_le (aeJ q neg) (List.range n);rw[List.length_range]at this;exact this
theorem xX(q:List ak):(Sp.negated q).length<=q.length:=by
 cases h:ax q with
 |true=>rw[ajk h];exact auT _
 |false=>unfold Sp.negated;rw[h];exact avc _
theorem J5:OK uV.e:=by
 refine XA.ok mixed (aA [(DC,.eff (DX rG) BB),BO.e,vO.e] ⟨⟨WJ,U2⟩,aaU,TG,trivial⟩) aa2 (λ⟨q,neg,_⟩ hp=>⟨((((dU q neg).map λs=>(s,()),()),())),⟨by show((dU q neg).map _).length<=1000;rw[au7];have:=xW q neg (Sp.negated q).length;have:=xX q;have hp:q.length<=1000:=hp;rw[xU]at*;omega,λs=>by show(s,())∈(dU q neg).map _↔_;simp⟩⟩) (by kernel_rfl) (show∀q negated,uV.goal (YZ q negated) (q,negated,())from ?_);intro q neg hin hp;dsimp only[uV]at hp ⊢;have hp:q.length<=1000:=hp;have hnl:=xX q;refine⟨hp,?_⟩;refine iy (λi(x:Sp.LS)=>(((),i,()),x,())) (λy=>y.1.2.1) (λ_ _=>rfl) (Sp.negated q).length (by omega) (λn l=>l=(CY q neg n).map λs=>(s,())) rfl (λI μ n l hn hJ next=>?_) λI μ l hJ=>?_
 .subst hJ;have hl:=xW q neg n;dsimp only;refine fP (by omega) ⟨⟨by omega,by omega⟩,⟨by omega,by omega⟩,trivial,af (λh1=>af (λh2=>⟨⟨by omega,by omega⟩,?_,rfl,next _ ?_⟩) λh2=>⟨rfl,next _ ?_⟩) λh1=>⟨rfl,next _ ?_⟩⟩
  .rw[iF];simp only[auQ,auW,au7];omega
  .rw[ac6 (show pR (Sp.nodeAt q n)=true from h1) (avj.1 h2),avN];rfl
  .rw[OM λh=>by have h2:=auP.1 h2;exact h2 h.2]
  .rw[OM λh=>by have h1:pR (Sp.nodeAt q n)=false:=h1;rw[h1]at h;cases h.1]
 .subst hJ;have hl:=xW q neg (Sp.negated q).length;rw[xU]at hl ⊢;dsimp only;refine fQ (by omega) ⟨by rw[au7];omega,?_⟩;rintro⟨⟨r,⟨⟩⟩,⟨⟩⟩ ⟨h1,h2⟩;have h1:r.length<=((dU q neg).map λs=>(s,())).length:=h1;rw[au7]at h1;refine⟨by show r.length<=1000;omega,λs=>?_⟩;have:=h2 (s,());show(s,())∈r↔_;rw[this];simp
theorem SN:OK vP.e:=by refine XA.ok mixed (aA [uV.e] ⟨J5,trivial⟩) H0 (λ⟨q,_⟩ hp=>⟨((((dU q false).map λs=>(s,()),()),())),⟨by show((dU q false).map _).length<=1000;rw[au7];have:=xW q false (Sp.negated q).length;have:=xX q;have hp:q.length<=1000:=hp;rw[xU]at*;omega,λs=>by show(s,())∈(dU q false).map _↔_;simp⟩⟩) (by kernel_rfl) (show∀q,vP.goal (TU q) (q,())from ?_);intro q hin hp;dsimp only[vP]at hp ⊢;exact⟨hp,λr hr=>hr⟩
theorem SL:OK vS.e:=by refine XA.ok mixed (aA [uV.e] ⟨J5,trivial⟩) H0 (λ⟨q,_⟩ hp=>⟨((((dU q true).map λs=>(s,()),()),())),⟨by show((dU q true).map _).length<=1000;rw[au7];have:=xW q true (Sp.negated q).length;have:=xX q;have hp:q.length<=1000:=hp;rw[xU]at*;omega,λs=>by show(s,())∈(dU q true).map _↔_;simp⟩⟩) (by kernel_rfl) (show∀q,vS.goal (TV q) (q,())from ?_);intro q hin hp;dsimp only[vS]at hp ⊢;exact⟨hp,λr hr=>hr⟩
theorem akd{l:Sp.LS}{s:Sp.Bytes}{m:Nat}(hm:m<=l.length)(h1:∀i,i<m->Op.bytesLess (l.getD i ([],())).1 s=true)(h2:m<l.length->Op.bytesLess (l.getD m ([],())).1 s=false):
 OW l s=bif decide (m<l.length)&&(l.getD m ([],())).1==s then l else l.take m++[(s,())]++l.drop m:=by
 obtain⟨e1,_⟩:=MO (d:=(([]:List UInt8),())) l m hm (p:=λx=>Op.bytesLess x.1 s) h1 h2;unfold OW;rw[e1];have:(l.take m).length=m:=by rw[auY];omega
 rw[this]
theorem aod{l:Sp.LS}{s:Sp.Bytes}(x:Sp.Bytes×Unit):x∈OW l s↔x=(s,())\/x∈l:=by
 unfold OW;dsimp only;generalize (l.takeWhile λx=>Op.bytesLess x.1 s).length=n;cases h:decide (n<l.length)&&(l.getD n ([],())).1==s with
 |true=>
  rw[auO,avj]at h;refine⟨.inr,λhx=>?_⟩;rcases hx with rfl|hx
  .have:=getD_mem (d:=(([]:List UInt8),())) (fH h.1);rw[show l.getD n ([],())=(s,())from ax2 h.2 rfl]at this;exact this
  .exact hx
 |false=>
  show x∈l.take n++[(s,())]++l.drop n↔_;rw[avf,avf,avg]
  conv=>rhs;rw[← awy n l,avf]
  constructor
  .rintro((h|h)|h)
   .exact .inr (.inl h)
   .exact .inl h
   .exact .inr (.inr h)
  .rintro(h|h|h)
   .exact .inl (.inr h)
   .exact .inl (.inl h)
   .exact .inr h
theorem aoe(l:Sp.LS)(s:Sp.Bytes):(OW l s).length<=l.length+1:=by
 unfold OW;dsimp only;generalize (l.takeWhile λx=>Op.bytesLess x.1 s).length=n;cases decide (n<l.length)&&(l.getD n ([],())).1==s with
 |true=>exact Nat.le_succ _
 |false=>show(l.take n++[(s,())]++l.drop n).length<=_;simp;omega
theorem aeK:OK Eu.e:=by
 refine PA.ok mixed (aA [] trivial) agt (by kernel_rfl) (show∀list s,Eu.goal (aeL list s) (list,s,())from ?_);intro l s hin hp;dsimp only[Eu]at hp ⊢;have hp:l.length<=1000:=hp;have fin:∀m:Nat,m<=l.length->OW l s=l.take m++[(s,())]++l.drop m->((0:Int)<=m/\(m:Int)<=l.length)/\0+(List.drop 0 (List.take m l)).length<=big/\(List.drop 0 (List.take m l)).length+[(s,())].length<=big/\((0:Int)<=m/\(m:Int)<=l.length)/\
  (List.drop 0 (List.take m l)++[(s,())]).length+(List.drop m (List.take l.length l)).length<=big/\(List.drop 0 (List.take m l)++[(s,())]++List.drop m (List.take l.length l),())=(OW l s,()):=by
  intro m hm h;refine⟨⟨by omega,by omega⟩,?_,?_,⟨by omega,by omega⟩,?_,?_⟩
  .rw[iF];simp only[avl,auY];omega
  .rw[iF];simp only[avl,auY,auQ,auW];omega
  .rw[iF];simp only[auN,avl,auY,auQ,auW];omega
  .rw[h,av7,awL]
 refine kS l.length (by omega) (λn=>∀i,i<n->Op.bytesLess (l.getD i ([],())).1 s=true) (λi hi=>by omega) (λI μ n hn hJ next=>?_) λI μ hJ=>?_
 .dsimp only;refine fP (by omega) ⟨⟨by omega,by omega⟩,af (λh=>⟨rfl,next (dW (f:=λi=>Op.bytesLess (l.getD i ([],())).1 s) hJ h)⟩) λh=>fP (by omega) ⟨⟨by omega,by omega⟩,?_⟩⟩;have e:=akd (axI hn) hJ λ_=>h;rw[au2 hn,awJ]at e;refine af (λh2=>?_) λh2=>fin n (axI hn) ?_
  .rw[show((l.getD n ([],())).1==s)=true from h2]at e;rw[e];rfl
  .rw[show((l.getD n ([],())).1==s)=false from h2]at e;exact e
 .dsimp only;refine fQ (by omega) (fQ (by omega) (fin l.length (auT _) ?_));have e:=akd (auT _) hJ λh=>by omega
  rw[au6 (by omega)]at e;exact e
theorem amY(x:ak):pR x=(decide (8<=x.1)&&decide (x.1<=9)):=by unfold pR;rw[avp];simp;omega
theorem Nj:OK xk.e:=by
 refine XA.ok mixed (aA [Eu.e,jl.e,vN.e] ⟨aeK,lD,TL,trivial⟩) ac7 (λ⟨q,neg,_⟩ hp=>⟨((((dU q neg).map λs=>(s,()),()),())),⟨by show((dU q neg).map _).length<=1000;rw[au7];have:=xW q neg (Sp.negated q).length;have:=xX q;have hp:q.length<=1000:=hp;rw[xU]at*;omega,λs=>by show(s,())∈(dU q neg).map _↔_;simp⟩⟩) (by kernel_rfl) (show∀q under,xk.goal (aa3 q under) (q,under,())from ?_);intro q neg hin hp;dsimp only[xk]at hp ⊢;have hp:q.length<=1000:=hp;have hnl:=xX q;refine⟨hp,?_⟩;refine iy (λi(x:Sp.LS)=>((x,i,()),())) (λy=>y.1.2.1) (λ_ _=>rfl) (Sp.negated q).length (by omega) (λn l=>l.length<=n/\∀s,(s,())∈l↔s∈CY q neg n) ⟨auT _,λs=>by simp[CY]⟩ (λI μ n l hn hJ next=>?_) λI μ l hJ=>?_
 .obtain⟨hl,hJ⟩:=hJ;dsimp only;have hnm:=amY (Sp.nodeAt q n);refine fP (by omega) ⟨⟨by omega,by omega⟩,trivial,af (λh1=>⟨⟨by omega,by omega⟩,af (λh2=>⟨⟨by omega,by omega⟩,by omega,rfl,next _ ?_⟩) λh2=>⟨rfl,next _ ⟨by omega,?_⟩⟩⟩) λh1=>⟨rfl,next _ ⟨by omega,?_⟩⟩⟩
  .have h1:(decide (8<=(Sp.nodeAt q n).1)&&decide ((Sp.nodeAt q n).1<=9))=true:=h1;rw[ac6 (hnm.trans h1) (avj.1 h2)];refine⟨auU (aoe _ _) (by omega),λs=>?_⟩;rw[aod,avf,avg,hJ,Prod.mk.injEq];constructor
   .rintro(⟨h,_⟩|h)
    .exact .inr h
    .exact .inl h
   .rintro(h|h)
    .exact .inr h
    .exact .inl ⟨h,rfl⟩
  .rw[OM λh=>by have h2:=auP.1 h2;exact h2 h.2];exact hJ
  .rw[OM λh=>by have h1:(decide (8<=(Sp.nodeAt q n).1)&&decide ((Sp.nodeAt q n).1<=9))=false:=h1;rw[hnm,h1]at h;cases h.1];exact hJ
 .obtain⟨hl,hJ⟩:=hJ;rw[xU]at hJ;dsimp only;exact fQ (by omega) ⟨by rw[iF];omega,by show l.length<=1000;omega,hJ⟩
theorem TW:OK vT.e:=by refine XA.ok mixed (aA [xk.e] ⟨Nj,trivial⟩) H0 (λ⟨q,_⟩ hp=>⟨((((dU q false).map λs=>(s,()),()),())),⟨by show((dU q false).map _).length<=1000;rw[au7];have:=xW q false (Sp.negated q).length;have:=xX q;have hp:q.length<=1000:=hp;rw[xU]at*;omega,λs=>by show(s,())∈(dU q false).map _↔_;simp⟩⟩) (by kernel_rfl) (show∀q,vT.goal (TY q) (q,())from ?_);intro q hin hp;dsimp only[vT]at hp ⊢;exact⟨hp,λr hr=>hr⟩
theorem Ua:OK vU.e:=by refine XA.ok mixed (aA [xk.e] ⟨Nj,trivial⟩) H0 (λ⟨q,_⟩ hp=>⟨((((dU q true).map λs=>(s,()),()),())),⟨by show((dU q true).map _).length<=1000;rw[au7];have:=xW q true (Sp.negated q).length;have:=xX q;have hp:q.length<=1000:=hp;rw[xU]at*;omega,λs=>by show(s,())∈(dU q true).map _↔_;simp⟩⟩) (by kernel_rfl) (show∀q,vU.goal (Ub q) (q,())from ?_);intro q hin hp;dsimp only[vU]at hp ⊢;exact⟨hp,λr hr=>hr⟩
end Go.Proofs.Tryz
namespace Go.Proofs.Tryz
open Go Go.Fw Go.IntWalk Sp
theorem OO:OK y7.e:=by refine PA.ok mixed (aA [] trivial) H0 (by kernel_rfl) (show∀x0 x1 p10,y7.goal (ac8 x0 x1 p10) ((x0,x1,()),(p10,()),())from ?_);intro x0 x1 p hin hp;dsimp only[y7]at hp ⊢;exact rfl
theorem ML{d:List bD}{s:Sp.Bytes}{n:Nat}(hn:n<d.length)(h1:(dm d n).1=s)(h2:∀i,i<n->(dm d i).1≠s):aC d s=n:=by
 rcases Ii d s with⟨_,h⟩|⟨m,g1,g2,g3,g4⟩
 .exact(h _ (getD_mem (d:=(([]:List UInt8),([]:List ak),())) hn) h1).elim
 .have:m=n:=by
   rcases Nat.lt_trichotomy m n with h|h|h
   .exact(h2 m h g3).elim
   .exact h
   .exact(g4 n h h1).elim
  rw[g2,this]
theorem ais{d:List bD}{s:Sp.Bytes}(h2:∀i,i<d.length->(dm d i).1≠s):aC d s=-1:=by
 rcases Ii d s with⟨h,_⟩|⟨m,g1,_,g3,_⟩
 .exact h
 .exact(h2 m g1 g3).elim
theorem zJ:OK iG.e:=by
 refine PA.ok mixed (aA [y7.e] ⟨OO,trivial⟩) zO (by kernel_rfl) (show∀s ait,iG.goal (zK s ait) (s,((ait,()),()),())from ?_);intro d s hin hp;dsimp only[iG]at hp ⊢;have hlen:d.length<=maxLen:=hin.1.1;rw[maxLen_eq]at hlen;refine kS d.length hlen (λn=>∀i,i<n->(dm d i).1≠s) (λi hi=>by omega) (λI μ n hn hJ next=>?_) λI μ hJ=>?_
 .dsimp only;refine fP (by omega) ⟨⟨by omega,by omega⟩,trivial,af (λh=>?_) λh=>⟨rfl,next λi hi=>?_⟩⟩
  .rw[ML hn (avj.1 h) hJ]
  .rcases avb i n with h'|h'
   .exact hJ i h'
   .have:i=n:=by omega
    rw[this];exact auP.1 h
 .dsimp only;refine fQ (by omega) ?_;rw[ais hJ]
theorem agu:OK FK.e:=by refine PA.ok mixed (aA [iG.e,y7.e] ⟨zJ,OO,trivial⟩) H0 (by kernel_rfl) (show∀d name,FK.goal (agv d name) (d,name,())from ?_);intro d s hin hp;dsimp only[FK]at hp ⊢;exact⟨trivial,rfl⟩
theorem aa4:OK BP.e:=by
 refine PA.ok mixed (aA [] trivial) ac9 (by kernel_rfl) (show∀d name,BP.goal (aa5 d name) (d,name,())from ?_);intro d s hin hp;dsimp only[BP]at hp ⊢;have hlen:d.length<=maxLen:=hin.1.1;rw[maxLen_eq]at hlen;refine kS d.length hlen (λn=>∀i,i<n->(dm d i).1≠s) (λi hi=>by omega) (λI μ n hn hJ next=>?_) λI μ hJ=>?_
 .dsimp only;refine fP (by omega) ⟨⟨by omega,by omega⟩,af (λh=>?_) λh=>⟨rfl,next λi hi=>?_⟩⟩
  .rw[ML hn (avj.1 h) hJ]
  .rcases avb i n with h'|h'
   .exact hJ i h'
   .have:i=n:=by omega
    rw[this];exact auP.1 h
 .dsimp only;refine fQ (by omega) ?_;rw[ais hJ]
theorem Va:OK xq.e:=by
 refine PA.ok mixed (aA [FK.e] ⟨agu,trivial⟩) XH (by kernel_rfl) (show∀d GI names more,xq.goal (VG d GI names more) (d,GI,names,more,())from ?_);intro d aJ names more hin hp;dsimp only[xq]at hp ⊢;obtain⟨h1,h2,h3,h4,h5⟩:d.length<=aJ.length/\names.length<=1000/\0<=more/\more<=1/\∀x∈aJ,0<=x.1/\x.1<=1000000:=hp;refine iy (λi(c:Int)=>((c,i,()),())) (λy=>y.1.2.1) (λ_ _=>rfl) names.length (by omega) (λn c=>∀B,c<=B↔0<=B/\∀x∈names.take n,0<=aC d x.1->Sp.lv aJ (aC d x.1).toNat+more<=B) (λB=>by simp) (λI μ n c hn hJ next=>?_) λI μ c hJ=>?_
 .dsimp only;rw[ava];have e:=Sp.take_succ' names n ([],()) hn;refine fP (by omega) ⟨⟨by omega,by omega⟩,trivial,af (λh=>?_) λh=>⟨rfl,next _ λB=>?_⟩⟩
  .have h:0<=aC d (names.getD n ([],())).1:=fH h;have hlt:=IA h;have hb:=h5 _ (aiu (l:=aJ) (i:=(aC d (names.getD n ([],())).1).toNat) (by omega));dsimp only at hb;have hw:IntKind.i64.wrap (Sp.lv aJ (aC d (names.getD n ([],())).1).toNat+more)=Sp.lv aJ (aC d (names.getD n ([],())).1).toNat+more:=fE _ (by omega);have e2:(aJ.getD (aC d (names.getD n ([],())).1).toNat (0,())).1=Sp.lv aJ (aC d (names.getD n ([],())).1).toNat:=rfl;refine⟨⟨h,by omega⟩,rfl,next _ λB=>?_⟩;rw[e2,hw,e];simp only[avf,avg];have:=hJ B;constructor
   .intro hB;have hc:c<=B:=by split at hB<;>omega
    have hv:Sp.lv aJ (aC d (names.getD n ([],())).1).toNat+more<=B:=by split at hB<;>omega
    obtain⟨a,b⟩:=this.1 hc;refine⟨a,λx hx hx0=>?_⟩;rcases hx with hx|rfl
    .exact b x hx hx0
    .exact hv
   .rintro⟨a,b⟩;have hc:=this.2 ⟨a,λx hx=>b x (.inl hx)⟩;have hv:=b _ (.inr rfl) h;split<;>omega
  .have h:¬0<=aC d (names.getD n ([],())).1:=fV h;rw[hJ B,e];simp only[avf,avg];constructor
   .rintro⟨a,b⟩;refine⟨a,λx hx hx0=>?_⟩;rcases hx with hx|rfl
    .exact b x hx hx0
    .exact(h hx0).elim
   .exactλ⟨a,b⟩=>⟨a,λx hx=>b x (.inl hx)⟩
 .dsimp only;refine fQ (by omega) (congrArg (·,()) ?_);rw[av7]at hJ;have h6:=λB=>(hJ B).trans (Fq (d:=d) (aJ:=aJ) (more:=more) names B).symm;have a:=(h6 c).1 (avI _);have b:=(h6 (xu d aJ more names)).2 (avI _);omega
end Go.Proofs.Tryz
namespace Go.Proofs.Tryz
open Go Go.Fw Go.IntWalk Sp
theorem afD{d:List bD}{i:Nat}(hi:i<d.length){neg:Bool}{r:Sp.LS}(hr:jc r (dU (dm d i).2.1 neg)){p:Nat}(hp:p<r.length)(h0:0<=aC d (r.getD p ([],())).1):
 (i,(aC d (r.getD p ([],())).1).toNat,if neg then 1 else 0)∈dn d:=by
 have hm:=getD_mem (d:=(([]:List UInt8),())) hp;have:=(hr.2 (r.getD p ([],())).1).1 hm;cases neg with
 |false=>exact Fv.2 ⟨hi,_,.inl ⟨rfl,this⟩,h0,rfl⟩
 |true=>exact Fv.2 ⟨hi,_,.inr ⟨rfl,this⟩,h0,rfl⟩
theorem Ox{d:List bD}{i j m:Nat}{neg:Bool}{r:Sp.LS}(hr:jc r (dU (dm d i).2.1 neg))(he:(i,j,m)∈dn d)(hm:m=if neg then 1 else 0):
 ∃p,p<r.length/\0<=aC d (r.getD p ([],())).1/\j=(aC d (r.getD p ([],())).1).toNat:=by
 obtain⟨_,s,h2,h3,h4⟩:=Fv.1 he;have hs:s∈dU (dm d i).2.1 neg:=by
  cases neg with
  |false=>rcases h2 with⟨_,h⟩|⟨h,_⟩;exact h;simp at hm;omega
  |true=>rcases h2 with⟨h,_⟩|⟨_,h⟩;simp at hm;omega;exact h
 have hm:=(hr.2 s).2 hs;obtain⟨p,hp,e⟩:=av9 hm;have e2:r.getD p ([],())=(s,()):=by rw[auS,auX hp,e];rfl
 exact⟨p,hp,by rw[e2];exact h3,by rw[e2];exact h4⟩
theorem amZ:∀x,(rZ.F x).1->∃t,(rZ.F x).2 t:=by rintro⟨d,aJ,_⟩ hp;obtain⟨_,_,h3,h4⟩:eu d/\d.length<=5/\aJ.length=d.length/\∀x∈aJ,0<=x.1/\x.1<=1000000:=hp;obtain⟨r,hr⟩:=ajq d aJ h3 λi hi=>(h4 _ (aiu (by omega))).1;exact⟨((r,()),()),hr⟩
theorem aaH:OK rZ.e:=by
 refine XA.ok mixed (aA [vU.e,BP.e,vT.e] ⟨Ua,aa4,TW,trivial⟩) ada (amZ) (by kernel_rfl) (show∀d aJ,rZ.goal (aa6 d aJ) (d,aJ,())from ?_);intro d aJ hin hp;dsimp only[rZ]at hp ⊢;obtain⟨h1,h2,h3,h4⟩:eu d/\d.length<=5/\aJ.length=d.length/\∀x∈aJ,0<=x.1/\x.1<=1000000:=hp;have h0:∀i,i<d.length->0<=Sp.lv aJ i/\Sp.lv aJ i<=1000000:=λi hi=>h4 _ (aiu (by omega));have hB:∀i,i<d.length->Sp.lv aJ i<=1000000:=λi hi=>(h0 i hi).2;refine⟨by rw[iF];omega,?_⟩;refine iy (λi(x:List (Int×Unit))=>((i,()),x,())) (λy=>y.1.1) (λ_ _=>rfl) d.length (by omega) (λi cur=>Ht d aJ cur (1000*i) λe=>e∈dn d/\e.1<i) ((Ht.start h3).weaken (by omega) λe he=>by have:=he.2;omega) (λI μ i cur hi hJ next=>?_) λI μ cur hJ=>?_
 .dsimp only;rw[ava];refine fP (by omega) ⟨⟨by omega,by omega⟩,Ic h1 hi,?_⟩;rintro⟨⟨r,⟨⟩⟩,⟨⟩⟩ hr;have hr:jc r (dU (dm d i).2.1 false):=hr;have hrl:r.length<=1000:=hr.1;refine iy (λi(x:List (Int×Unit))=>((i,()),x,())) (λy=>y.1.1) (λ_ _=>rfl) r.length (by omega) (λp cur=>Ht d aJ cur (1000*i) λe=>e∈dn d/\(e.1<i\/(e.1=i/\e.2.2=0/\∃p',p'<p/\e.2.1=(aC d (r.getD p' ([],())).1).toNat/\0<=aC d (r.getD p' ([],())).1))) (hJ.weaken (avI _) λe he=>⟨he.1,by rcases he.2 with h|⟨_,_,_,h,_⟩;exact h;omega⟩) (λI1 μ1 p cur hp hJ als=>?_) λI1 μ1 cur hJ=>?_
  .dsimp only;rw[ava];have hl:=hJ.len;have hP:∀e:Nat×Nat×Nat,(e∈dn d/\(e.1<i\/(e.1=i/\e.2.2=0/\∃p',p'<p+1/\e.2.1=(aC d (r.getD p' ([],())).1).toNat/\0<=aC d (r.getD p' ([],())).1)))->
    (e∈dn d/\(e.1<i\/(e.1=i/\e.2.2=0/\∃p',p'<p/\e.2.1=(aC d (r.getD p' ([],())).1).toNat/\0<=aC d (r.getD p' ([],())).1)))\/(e=(i,(aC d (r.getD p ([],())).1).toNat,0)/\0<=aC d (r.getD p ([],())).1):=by
    rintro⟨a,b,c⟩ ⟨he,h|⟨h,h5,p',h6,h7,h8⟩⟩
    .exact .inl ⟨he,.inl h⟩
    .by_cases hpp:p'=p
     .subst hpp;have h:a=i:=h;have h5:c=0:=h5;have h7:b=(aC d (r.getD p' ([],())).1).toNat:=h7;exact .inr ⟨by rw[h,h5,h7],h8⟩
     .exact .inl ⟨he,.inr ⟨h,h5,p',by omega,h7,h8⟩⟩
   refine fP (by omega) ⟨⟨by omega,by omega⟩,trivial,af (λh=>?_) λh=>⟨rfl,als _ (hJ.weaken (avI _) λe he=>?_)⟩⟩
   .have h:0<=aC d (r.getD p ([],())).1:=fH h;have hlt:=IA h;have he:=afD hi hr hp h;refine⟨⟨h,by omega⟩,by omega,⟨by omega,by omega⟩,by omega,af (λhc=>⟨⟨h,by omega⟩,by omega,⟨by omega,by omega⟩,by omega,rfl,als _ ?_⟩) λhc=>⟨rfl,als _ ?_⟩⟩
    .have hc:Sp.lv cur i<Sp.lv cur (aC d (r.getD p ([],())).1).toNat:=fH hc;have:=hJ.set he (by show _<_+((0:Nat):Int);omega);have e0:Sp.lv cur (aC d (r.getD p ([],())).1).toNat+((if false=true then 1 else 0:Nat):Int)=Sp.lv cur (aC d (r.getD p ([],())).1).toNat:=by show _+((0:Nat):Int)=_;omega
     rw[e0]at this;exact this.weaken (by show 1000*(i:Int)+((0:Nat):Int)<=_;omega) λe he=>(hP e he).imp_right λh=>h.1
    .have hc:¬Sp.lv cur i<Sp.lv cur (aC d (r.getD p ([],())).1).toNat:=fV hc;have:=hJ.still he (by show _+((0:Nat):Int)<=_;omega);exact this.weaken (avI _) λe he=>(hP e he).imp_right λh=>h.1
   .have h:¬0<=aC d (r.getD p ([],())).1:=fV h;rcases hP e he with h'|h'
    .exact h'
    .exact(h h'.2).elim
  .dsimp only;have hJ2:Ht d aJ cur (1000*i) λe=>e∈dn d/\(e.1<i\/(e.1=i/\e.2.2=0)):=hJ.weaken (avI _) λe he=>⟨he.1,he.2.imp_right λh=>⟨h.1,h.2,by obtain⟨a,b,c⟩:=e;obtain⟨he,_⟩:=he;obtain⟨h,h5⟩:=h;have h:a=i:=h;have h5:c=0:=h5;subst h h5;obtain⟨p,q1,q2,q3⟩:=Ox hr he rfl;exact⟨p,q1,q3,q2⟩⟩⟩;clear hJ;refine fQ (by omega) ⟨⟨by omega,by omega⟩,Ic h1 hi,?_⟩;rintro⟨⟨r2,⟨⟩⟩,⟨⟩⟩ hr2;have hr2:jc r2 (dU (dm d i).2.1 true):=hr2;have hrl2:r2.length<=1000:=hr2.1;refine iy (λi(x:List (Int×Unit))=>((i,()),x,())) (λy=>y.1.1) (λ_ _=>rfl) r2.length (by omega) (λp cur=>Ht d aJ cur (1000*i+p) λe=>e∈dn d/\(e.1<i\/(e.1=i/\e.2.2=0)\/(e.1=i/\e.2.2=1/\∃p',p'<p/\e.2.1=(aC d (r2.getD p' ([],())).1).toNat/\0<=aC d (r2.getD p' ([],())).1))) (hJ2.weaken (by omega) λe he=>⟨he.1,by rcases he.2 with h|h|⟨_,_,_,h,_⟩;exact .inl h;exact .inr h;omega⟩) (λI2 μ2 p cur hp hJ alu=>?_) λI2 μ2 cur hJ=>?_
   .dsimp only;rw[ava];have hl:=hJ.len;have hP:∀e:Nat×Nat×Nat,(e∈dn d/\(e.1<i\/(e.1=i/\e.2.2=0)\/(e.1=i/\e.2.2=1/\∃p',p'<p+1/\e.2.1=(aC d (r2.getD p' ([],())).1).toNat/\0<=aC d (r2.getD p' ([],())).1)))->
     (e∈dn d/\(e.1<i\/(e.1=i/\e.2.2=0)\/(e.1=i/\e.2.2=1/\∃p',p'<p/\e.2.1=(aC d (r2.getD p' ([],())).1).toNat/\0<=aC d (r2.getD p' ([],())).1)))\/(e=(i,(aC d (r2.getD p ([],())).1).toNat,1)/\0<=aC d (r2.getD p ([],())).1):=by
     rintro⟨a,b,c⟩ ⟨he,h|h|⟨h,h5,p',h6,h7,h8⟩⟩
     .exact .inl ⟨he,.inl h⟩
     .exact .inl ⟨he,.inr (.inl h)⟩
     .by_cases hpp:p'=p
      .subst hpp;have h:a=i:=h;have h5:c=1:=h5;have h7:b=(aC d (r2.getD p' ([],())).1).toNat:=h7;exact .inr ⟨by rw[h,h5,h7],h8⟩
      .exact .inl ⟨he,.inr (.inr ⟨h,h5,p',by omega,h7,h8⟩)⟩
    refine fP (by omega) ⟨⟨by omega,by omega⟩,trivial,af (λh=>?_) λh=>⟨rfl,alu _ (hJ.weaken (by omega) λe he=>?_)⟩⟩
    .have h:0<=aC d (r2.getD p ([],())).1:=fH h;have hlt:=IA h;have he:=afD hi hr2 hp h;have hg:=hJ.grow 1000000 hB (aC d (r2.getD p ([],())).1).toNat (by omega);have hu:=hJ.up (aC d (r2.getD p ([],())).1).toNat (by omega);have hz:=(h0 (aC d (r2.getD p ([],())).1).toNat (by omega)).1;have hw:IntKind.i64.wrap (Sp.lv cur (aC d (r2.getD p ([],())).1).toNat+1)=Sp.lv cur (aC d (r2.getD p ([],())).1).toNat+1:=fE _ (by omega);have e2:(cur.getD (aC d (r2.getD p ([],())).1).toNat (0,())).1=Sp.lv cur (aC d (r2.getD p ([],())).1).toNat:=rfl;rw[e2,hw];refine⟨⟨h,by omega⟩,by omega,⟨by omega,by omega⟩,by omega,af (λhc=>⟨⟨h,by omega⟩,by omega,⟨by omega,by omega⟩,by omega,rfl,alu _ ?_⟩) λhc=>⟨rfl,alu _ ?_⟩⟩
     .have hc:Sp.lv cur i<Sp.lv cur (aC d (r2.getD p ([],())).1).toNat+1:=fH hc;have:=hJ.set he (by show _<_+((1:Nat):Int);omega);exact this.weaken (by show 1000*(i:Int)+p+((1:Nat):Int)<=_;omega) λe he=>(hP e he).imp_right λh=>h.1
     .have hc:¬Sp.lv cur i<Sp.lv cur (aC d (r2.getD p ([],())).1).toNat+1:=fV hc;have:=hJ.still he (by show _+((1:Nat):Int)<=_;omega);exact this.weaken (by omega) λe he=>(hP e he).imp_right λh=>h.1
    .have h:¬0<=aC d (r2.getD p ([],())).1:=fV h;rcases hP e he with h'|h'
     .exact h'
     .exact(h h'.2).elim
   .dsimp only;refine fQ (by omega) ⟨rfl,next _ (hJ.weaken (by omega) λe he=>⟨he.1,?_⟩)⟩;obtain⟨a,b,c⟩:=e;obtain⟨he,h⟩:=he;have h:a<i+1:=h;rcases avb a i with h'|h'
    .exact .inl h'
    .have:a=i:=by omega
     subst this;obtain⟨_,_,hc⟩:=kM d _ he;have hc:c<=1:=hc;rcases awC c with hc0|hc0
     .exact .inr (.inl ⟨rfl,hc0⟩)
     .have hc1:c=1:=by omega
      subst hc1;obtain⟨p,q1,q2,q3⟩:=Ox hr2 he rfl;exact .inr (.inr ⟨rfl,rfl,p,q1,q3,q2⟩)
 .dsimp only;refine fQ (by omega) ?_;exact hJ.raised (by omega) (λe he=>⟨he,(kM d e he).1⟩) λi hi=>(h0 i hi).1
end Go.Proofs.Tryz
namespace Go.Proofs.Tryz
open Go Go.Fw Go.IntWalk Sp
theorem W9{d:List bD}{aJ r:List (Int×Unit)}(h:Sp.raised d aJ r)(h0:∀i,i<d.length->0<=Sp.lv aJ i)(hp:iT (dn d) λi=>(Sp.lv aJ i).toNat):∀i,i<d.length->Sp.lv r i=Sp.lv aJ i:=by obtain⟨_,h2,_,_,h5⟩:=h;intro i hi;have a:Sp.lv aJ i<=Sp.lv r i:=h2 i hi;have b:Sp.lv r i<=((Sp.lv aJ i).toNat:Int):=h5 _ hp (λj hj=>by have:=h0 j hj;show Sp.lv aJ j<=((Sp.lv aJ j).toNat:Int);omega) i hi;have:=h0 i hi;omega
theorem ahV{d:List bD}{aJ r:List (Int×Unit)}(h:Sp.raised d aJ r)(hp:¬iT (dn d) λi=>(Sp.lv aJ i).toNat):∃i,i<d.length/\Sp.lv aJ i<Sp.lv r i:=by obtain⟨_,h2,_,h4,_⟩:=h;refine av4 λhno=>hp (h4 λi hi=>?_);have a:Sp.lv aJ i<=Sp.lv r i:=h2 i hi;have b:¬Sp.lv aJ i<Sp.lv r i:=λh=>hno ⟨i,hi,h⟩;show Sp.lv r i=Sp.lv aJ i;omega
theorem aft{d:List bD}(h1:ny d=true){L:Nat->Nat}(h2:iT (dn d) L):dH d=true:=lU.2 ⟨h1,L,h2⟩
theorem ahW{d:List bD}(h:∀M,iT (dn d) M->(∀i,i<d.length->M i<d.length)->False):dH d=false:=by rw[axV];intro h1;obtain⟨_,h2⟩:=lU.1 h1;obtain⟨M,h3,h4⟩:=MP (kM d) h2;exact h M h3 h4
theorem afu{d:List bD}(h:ny d=false):dH d=false:=by rw[axV];intro h1;rw[(lU.1 h1).1]at h;cases h
theorem QJ(n i:Nat):Sp.lv (List.replicate n (0,())) i=0:=by
 unfold Sp.lv;rw[auS];by_cases h:i<n
 .rw[aw3,if_pos h];rfl
 .rw[avP (by simp;omega)];rfl
theorem anM{d:List bD}(h:dH d=true):∃s,NT d s:=by obtain⟨hok,h2⟩:=lU.1 h;exact alg (MP (kM d) h2)
theorem acr{d:List bD}:∃s:List (Int×Unit),(dH d=true->NT d s)/\(dH d=false->s=[]):=by
 cases h:dH d with
 |true=>obtain⟨s,hs⟩:=anM h;exact⟨s,λ_=>hs,λh=>by cases h⟩
 |false=>exact⟨[],λh=>(by cases h),λ_=>rfl⟩
theorem aeh:OK Ey.e:=by
 refine XA.ok mixed (aA [Dh.e,rZ.e,wZ.e] ⟨acs,aaH,U9,trivial⟩) agi (λ⟨d,_⟩ hp=>by obtain⟨s,h1,h2⟩:=acr (d:=d);exact⟨(((s,dH d,()),())),⟨rfl,h1,h2⟩⟩) (by kernel_rfl) (show∀d,Ey.goal (aei d) (d,())from ?_);intro d hin hp;dsimp only[Ey]at hp ⊢;have hp:eu d:=hp;refine⟨hp,af (λh=>⟨(afu (jP h)).symm,λh=>(by cases h),λ_=>rfl⟩) λh=>?_⟩;have hok:=gI h;have hlen:=acu hok;refine⟨⟨by omega,by omega,by rw[iF];omega⟩,?_⟩;have hnn:d.length*d.length<=25:=ax7 hlen hlen;have e1:(d.length:Int)*(d.length:Int)=((d.length*d.length:Nat):Int):=by simp
 have w:IntKind.i64.wrap (IntKind.i64.wrap ((d.length:Int)*(d.length:Int))+1)=((d.length*d.length:Nat):Int)+1:=by rw[e1,fE ((d.length*d.length:Nat):Int) (by omega)];exact fE _ (by omega)
 rw[w];have hmem:∀aJ:List (Int×Unit),aJ.length=d.length->∀k:Nat,k<=27->(∀i,i<d.length->0<=Sp.lv aJ i/\Sp.lv aJ i<=5000*k)->∀x∈aJ,0<=x.1/\x.1<=1000000:=λaJ hl k hk h=>
  amE (p:=λz=>0<=z/\z<=1000000) λi hi=>by have:=h i (by omega);omega
 refine iy (λi(x:List (Int×Unit))=>((x,i,()),())) (λy=>y.1.2.1) (λ_ _=>rfl) (d.length*d.length+2) (by omega)
  (λk aJ=>aJ.length=d.length/\(∀i,i<d.length->0<=Sp.lv aJ i/\Sp.lv aJ i<=5000*k)/\(∀M,iT (dn d) M->∀i,i<d.length->Sp.lv aJ i<=M i)/\((iT (dn d) λi=>(Sp.lv aJ i).toNat)\/(k:Int)<=xO aJ d.length))
  ⟨by simp,λi hi=>by rw[ava,QJ];omega,λM hM i hi=>by rw[ava,QJ];omega,.inr (Xa _ λi hi=>by rw[ava,QJ];omega)⟩ (λI μ k aJ hk hJ next=>?_) λI μ aJ hJ=>?_
 .obtain⟨g1,g2,g3,g4⟩:=hJ;dsimp only;refine fP (by omega) ⟨⟨hp,hlen,g1,hmem aJ g1 k (by omega) g2⟩,?_⟩;rintro⟨⟨r,⟨⟩⟩,⟨⟩⟩ hr;have hr:Sp.raised d aJ r:=hr;have hr':=hr;obtain⟨q1,q2,q3,q4,q5⟩:=hr';have hup:∀i,i<d.length->Sp.lv aJ i<=Sp.lv r i:=q2;refine⟨rfl,next r ⟨q1,λi hi=>?_,λM hM i hi=>q5 M hM (g3 M hM) i hi,?_⟩⟩
  .have a:=hup i hi;have b:=q3 (5000*k) (λj hj=>(g2 j hj).2) i hi;have b:Sp.lv r i<=5000*k+5000:=b;have c:=g2 i hi;omega
  .by_cases hpf:iT (dn d) λi=>(Sp.lv aJ i).toNat
   .left;have hs:=W9 hr (λi hi=>(g2 i hi).1) hpf;intro e he;have:=hpf e he;obtain⟨a,b,_⟩:=kM d e he;dsimp only at this ⊢;rw[hs _ a,hs _ b];exact this
   .right;have hm:=aaI d.length hup (ahV hr hpf);rcases g4 with g4|g4
    .exact(hpf g4).elim
    .omega
 .obtain⟨g1,g2,g3,g4⟩:=hJ;dsimp only;refine fQ (by omega) ⟨⟨hp,hlen,g1,hmem aJ g1 _ (by omega) g2⟩,?_⟩;rintro⟨⟨r,⟨⟩⟩,⟨⟩⟩ hr;have hr:Sp.raised d aJ r:=hr;refine⟨trivial,af (λhne=>?_) λhe=>?_⟩
  .have hne:¬r=aJ:=fV (jP hne);refine⟨(ahW λM hM hb=>?_).symm,λh=>(by cases h),λ_=>rfl⟩;rcases g4 with g4|g4
   .exact hne (aqm (by rw[hr.1,g1]) λi hi=>W9 hr (λi hi=>(g2 i hi).1) g4 i (by rw[← hr.1];exact hi))
   .have:=O9 (a:=aJ) (b:=d.length) d.length λi hi=>by have a:=g3 M hM i hi;have b:=hb i hi;omega
    omega
  .have he:r=aJ:=fH (gI he);subst he;have hpf:=hr.2.2.2.1 λi hi=>rfl;obtain⟨M,hM,hb⟩:=MP (kM d) ⟨_,hpf⟩;exact⟨(aft hok hpf).symm,λ_=>⟨g1,λi hi=>⟨(g2 i hi).1,by have a:=g3 M hM i hi;have b:=hb i hi;omega⟩,hpf,g3⟩,λh=>by cases h⟩
theorem aej:OK Ew.e:=by
 refine XA.ok mixed (aA [vS.e,xq.e,vP.e,xg.e] ⟨SL,Va,SN,Vb,trivial⟩) agj (λ⟨d,_⟩ hp=>by obtain⟨s,h1,h2⟩:=acr (d:=d);exact⟨(((s,dH d,()),())),⟨rfl,h1⟩⟩) (by kernel_rfl) (show∀d,Ew.goal (aek d) (d,())from ?_);intro d hin hp;dsimp only[Ew]at hp ⊢;have hp:eu d:=hp;refine⟨hp,af (λh=>⟨(afu (jP h)).symm,λh=>by cases h⟩) λh=>?_⟩;have hok:=gI h;have hlen:=acu hok;refine⟨⟨by omega,by omega,by rw[iF];omega⟩,?_⟩;have hmem:∀aJ:List (Int×Unit),aJ.length=d.length->(∀i,i<d.length->0<=Sp.lv aJ i/\Sp.lv aJ i<=d.length)->∀x∈aJ,0<=x.1/\x.1<=1000000:=λaJ hl h=>
  amE (p:=λz=>0<=z/\z<=1000000) λi hi=>by have:=h i (by omega);omega
 refine⟨λy=>y.2.1.length=d.length/\(∀i,i<d.length->0<=Sp.lv y.2.1 i/\Sp.lv y.2.1 i<=d.length)/\(∀M,iT (dn d) M->∀i,i<d.length->Sp.lv y.2.1 i<=M i)/\(y.1.1=false->iT (dn d) λi=>(Sp.lv y.2.1 i).toNat),
  λy=>(((d.length*d.length:Nat):Int)-xO y.2.1 d.length).toNat*2+(if y.1.1=true then 1 else 0),⟨by simp,λi hi=>by rw[ava,QJ];omega,λM hM i hi=>by rw[ava,QJ];omega,λh=>by cases h⟩,?_⟩
 rintro⟨⟨ch,⟨⟩⟩,aJ,⟨⟩⟩ ⟨g1,g2,g3,g4⟩;dsimp only at g1 g2 g3 g4 ⊢;refine af (λhch=>?_) λhch=>⟨(aft hok (g4 hch)).symm,λ_=>⟨g1,g2,g4 hch,g3⟩⟩;subst hch;refine iy (λi(x:Bool×List (Int×Unit))=>((x.1,i,()),x.2,())) (λy=>y.1.2.1) (λ_ _=>rfl) d.length (by omega)
  (λi(x:Bool×List (Int×Unit))=>x.2.length=d.length/\(∀i,i<d.length->Sp.lv aJ i<=Sp.lv x.2 i/\Sp.lv x.2 i<=d.length)/\(∀M,iT (dn d) M->∀i,i<d.length->Sp.lv x.2 i<=M i)/\
    (x.1=true->xO aJ d.length<xO x.2 d.length)/\(x.1=false->x.2=aJ/\∀e∈dn d,e.1<i->Sp.lv aJ e.2.1+e.2.2<=Sp.lv aJ e.1))
  (s0:=(false,aJ)) ⟨g1,λi hi=>⟨avI _,(g2 i hi).2⟩,g3,λh=>(by cases h),λ_=>⟨rfl,λe _ h=>by omega⟩⟩ (λI μ i x hi hJ next=>?_) λI μ x hJ=>?_
 .obtain⟨c,cur⟩:=x;obtain⟨q1,q2,q3,q4,q5⟩:=hJ;have q1:cur.length=d.length:=q1;have hcur:∀i,i<d.length->0<=Sp.lv cur i/\Sp.lv cur i<=d.length:=λi hi=>⟨Int.le_trans (g2 i hi).1 (q2 i hi).1,(q2 i hi).2⟩;have hm:=hmem cur q1 hcur;dsimp only;rw[ava];refine fP (by omega) ⟨⟨by omega,by omega⟩,Ic hp hi,?_⟩;rintro⟨⟨r4,⟨⟩⟩,⟨⟩⟩ hr4;have hr4:jc r4 (dU (dm d i).2.1 false):=hr4;refine⟨⟨by omega,hr4.1,by omega,by omega,hm⟩,Ic hp hi,?_⟩;rintro⟨⟨r6,⟨⟩⟩,⟨⟩⟩ hr6;have hr6:jc r6 (dU (dm d i).2.1 true):=hr6;refine⟨⟨by omega,hr6.1,by omega,by omega,hm⟩,?_⟩;dsimp only;have hle:∀M,iT (dn d) M->xu d cur 0 r4<=M i/\xu d cur 1 r6<=M i:=by
   intro M hM;refine⟨(Fq r4 _).2 ⟨by omega,λx hx h0=>?_⟩,(Fq r6 _).2 ⟨by omega,λx hx h0=>?_⟩⟩
   .have he:=Fv.2 ⟨hi,x.1,.inl ⟨rfl,(hr4.2 x.1).1 hx⟩,h0,rfl⟩;have a:=hM _ he;have a:M (aC d x.1).toNat+0<=M i:=a;have b:=q3 M hM _ (kM d _ he).2.1;have b:Sp.lv cur (aC d x.1).toNat<=M (aC d x.1).toNat:=b;omega
   .have he:=Fv.2 ⟨hi,x.1,.inr ⟨rfl,(hr6.2 x.1).1 hx⟩,h0,rfl⟩;have a:=hM _ he;have a:M (aC d x.1).toNat+1<=M i:=a;have b:=q3 M hM _ (kM d _ he).2.1;have b:Sp.lv cur (aC d x.1).toNat<=M (aC d x.1).toNat:=b;omega
  have hge:∀e∈dn d,e.1=i->Sp.lv cur e.2.1+e.2.2<=xu d cur 0 r4\/Sp.lv cur e.2.1+e.2.2<=xu d cur 1 r6:=by
   rintro⟨a,b,m⟩ he ha;have ha:a=i:=ha;subst ha;have hm1:m<=1:=(kM d _ he).2.2;rcases awC m with h|h
   .subst h;obtain⟨p,p1,p2,p3⟩:=Ox hr4 he rfl;left;have:=((Fq (d:=d) (aJ:=cur) (more:=0) r4 _).1 (avI _)).2 _ (getD_mem (d:=(([]:List UInt8),())) p1) p2;show Sp.lv cur b+((0:Nat):Int)<=_;rw[p3];omega
   .have:m=1:=by omega
    subst this;obtain⟨p,p1,p2,p3⟩:=Ox hr6 he rfl;right;have:=((Fq (d:=d) (aJ:=cur) (more:=1) r6 _).1 (avI _)).2 _ (getD_mem (d:=(([]:List UInt8),())) p1) p2;show Sp.lv cur b+((1:Nat):Int)<=_;rw[p3];omega
  generalize xu d cur 0 r4=u at hle hge ⊢;generalize xu d cur 1 r6=v at hle hge ⊢;have hv:∃z,(if v>u then v else u)=z/\u<=z/\v<=z/\(z=u\/z=v):=by refine⟨_,rfl,?_,?_,?_⟩<;>split<;>omega
  obtain⟨z,ez,hz1,hz2,hz3⟩:=hv;rw[ez];have e2:(cur.getD i (0,())).1=Sp.lv cur i:=rfl;rw[e2];refine af (λhbig=>?_) λhbig=>⟨⟨by omega,by omega⟩,by omega,af (λhup=>⟨⟨by omega,by omega⟩,by omega,rfl,next (true,cur.set i (z,())) ?_⟩) λhup=>⟨rfl,next (c,cur) ?_⟩⟩
  .have hbig:z>(d.length:Int):=fH hbig;refine⟨(ahW λM hM hb=>?_).symm,λh=>by cases h⟩;have a:=hle M hM;have b:=hb i hi;omega
  .have hbig:¬z>(d.length:Int):=fV hbig;have hup:z>Sp.lv cur i:=fH hup;have hs:=λk=>ahX (l:=cur) (i:=i) (by omega) z k;refine⟨by simp;omega,λk hk=>?_,λM hM k hk=>?_,λ_=>?_,λh=>by cases h⟩
   .dsimp only;rw[hs];have:=q2 k hk;dsimp only at this;split
    .next e=>subst e;omega
    .exact this
   .dsimp only;rw[hs];split
    .next e=>subst e;have:=hle M hM;omega
    .exact q3 M hM k hk
   .have a:=aaJ (a:=aJ) (b:=cur) d.length λk hk=>(q2 k hk).1;have hsk:∀k,k<d.length->Sp.lv cur k<=Sp.lv (cur.set i (z,())) k:=λk hk=>by
     rw[hs];split
     .next e=>subst e;omega
     .exact avI _
    have b:=aaI (a:=cur) (b:=cur.set i (z,())) d.length hsk ⟨i,hi,by rw[hs,if_pos rfl];omega⟩;show xO aJ d.length<xO (cur.set i (z,())) d.length;omega
  .have hup:¬z>Sp.lv cur i:=fV hup;refine⟨q1,q2,q3,q4,λh=>?_⟩;obtain⟨a,b⟩:=q5 h;have a:cur=aJ:=a;subst a;refine⟨rfl,λe he hlt=>?_⟩;rcases avb e.1 i with h'|h'
   .exact b e he h'
   .have Qr:e.1=i:=by omega
    have:=hge e he Qr;rw[Qr];omega
 .obtain⟨c,cur⟩:=x;obtain⟨q1,q2,q3,q4,q5⟩:=hJ;dsimp only at q1 q2 q3 q4 q5 ⊢;have hcur:∀i,i<d.length->0<=Sp.lv cur i/\Sp.lv cur i<=d.length:=λi hi=>⟨Int.le_trans (g2 i hi).1 (q2 i hi).1,(q2 i hi).2⟩;have hsum:=O9 (a:=cur) (b:=d.length) d.length λi hi=>(q2 i hi).2;refine fQ (by omega) ⟨rfl,⟨q1,hcur,q3,λhc e he=>?_⟩,?_⟩
  .obtain⟨a,b⟩:=q5 hc;subst a;obtain⟨x1,x2,_⟩:=kM d e he;have:=b e he x1;have y1:=(hcur _ x1).1;have y2:=(hcur _ x2).1;dsimp only;omega
  .cases c with
   |true=>
    have:=q4 rfl;simp only[if_true];omega
   |false=>obtain⟨a,_⟩:=q5 rfl;subst a;simp
theorem SQ:OK vV.e:=by refine PA.ok mixed (aA [Ew.e] ⟨aej,trivial⟩) H0 (by kernel_rfl) (show∀d,vV.goal (SS d) (d,())from ?_);intro d hin hp;dsimp only[vV]at hp ⊢;refine⟨hp,λr hr=>?_⟩;exact ax2 hr.1 rfl
theorem Gp:OK qx.e:=by refine PA.ok mixed (aA [Ey.e] ⟨aeh,trivial⟩) H0 (by kernel_rfl) (show∀d,qx.goal (SX d) (d,())from ?_);intro d hin hp;dsimp only[qx]at hp ⊢;refine⟨hp,λr hr=>?_⟩;exact ax2 hr.1 rfl
end Go.Proofs.Tryz
namespace Go.Proofs.Tryz
open Go Go.Fw Go.IntWalk Sp
theorem wJ:OK iO.e:=by
 refine PA.ok mixed (aA [vV.e,vM.e] ⟨SQ,SI,trivial⟩) H0 (by kernel_rfl) (show∀x0 x1 x2 x3,iO.goal (NG x0 x1 x2 x3) ((x0,x1,x2,x3,()),())from ?_);intro x0 x1 x2 x3 hin hp;dsimp only[iO]at hp ⊢;refine⟨trivial,af (λh=>⟨hp.2,?_⟩) λh=>?_⟩
 .have h:bM (zS (x0,x1,x2,x3,()))=true:=h;unfold bT;rw[h];rfl
 .have h:bM (zS (x0,x1,x2,x3,()))=false:=h;unfold bT;rw[h];rfl
theorem qw:OK gX.e:=by
 refine PA.ok mixed (aA [qx.e,mX.e] ⟨Gp,Ar,trivial⟩) H0 (by kernel_rfl) (show∀x0 x1 x2 x3,gX.goal (NH x0 x1 x2 x3) ((x0,x1,x2,x3,()),())from ?_);intro x0 x1 x2 x3 hin hp;dsimp only[gX]at hp ⊢;refine⟨trivial,af (λh=>⟨hp.2,?_⟩) λh=>?_⟩
 .have h:bM (zS (x0,x1,x2,x3,()))=true:=h;unfold bT;rw[h];rfl
 .have h:bM (zS (x0,x1,x2,x3,()))=false:=h;unfold bT;rw[h];rfl
end Go.Proofs.Tryz
namespace Go.Proofs.Tryz
open Go Go.Fw Go.IntWalk Sp
theorem amQ:dH [([100,97],[(1,0,0,[],0,0,[],())],())]=true:=lU.2 ⟨by kernel_rfl,λ_=>0,λe he=>by rw[show dn [([100,97],[(1,0,0,[],0,0,[],())],())]=[] by kernel_rfl]at he;cases he⟩
theorem OA:OK yZ.e:=by
 refine XA.ok mixed (aA [qx.e,yY.e] ⟨Gp,OB,trivial⟩) aeo (λ_ _=>⟨(([([100,97],[(1,0,0,[],0,0,[],())],())],()),(([],0,0,()),())),⟨by decide,by decide,KF Az (by simp) (by simp),amQ,by decide⟩⟩) (by kernel_rfl) (show∀c0 c1 c2,yZ.goal (acD c0 c1 c2) ((c0,c1,c2,()),())from ?_);intro b i h hin hp;dsimp only[yZ]at hp ⊢;have hp:0<=i:=hp;refine⟨hp,?_⟩;rintro⟨⟨d,_⟩,⟨b1,i1,h1,_⟩,_⟩ ⟨q1,q2,q3,q4⟩;dsimp only at q1 q2 q3 q4 ⊢;have fin:∀l:List bD,l.length<=4->eu l->(0<l.length->dH l=true)->(bif (l.length:Int)==(0:Int)then 0<=i1/\([(([100,97]:List UInt8),[((1:Int),(0:Int),(0:Int),([]:List UInt8),(0:Int),(0:Int),([]:List UInt8),())],())]:List bD).length<=10/\eu [([100,97],[(1,0,0,[],0,0,[],())],())]/\dH [([100,97],[(1,0,0,[],0,0,[],())],())]=true/\0<[(([100,97]:List UInt8),[((1:Int),(0:Int),(0:Int),([]:List UInt8),(0:Int),(0:Int),([]:List UInt8),())],())].length else 0<=i1/\l.length<=10/\eu l/\dH l=true/\0<l.length):=λl hl hs hst=>
  af (λ_=>⟨q1,by simp,KF Az (by simp) (by simp),amQ,by simp⟩) λh0=>have h1:0<l.length:=(by have h0:¬(l.length:Int)=0:=auP.1 h0;omega);⟨q1,by omega,hs,hst h1,h1⟩
 refine⟨λy=>y.1.1.length<=4/\eu y.1.1,λy=>y.1.1.length,⟨q3,q4⟩,?_⟩;rintro⟨⟨l,⟨⟩⟩,⟨⟩⟩ ⟨g1,g2⟩;dsimp only at g1 g2 ⊢;refine af (λhc=>⟨g2,af (λ_=>?_) λhst=>fin l g1 g2 λ_=>gI hst⟩) λhc=>fin l g1 g2 λh=>(by have:=fV hc;omega);have hc:0<l.length:=by have:=fH hc;omega
 rw[zG hc (by omega),awL,ava];exact⟨⟨by omega,by omega⟩,rfl,⟨by rw[auY];omega,ajj _ g2⟩,by dsimp only;rw[auY];omega⟩
theorem acE{a:List dR}{l:List aS}{nx:Int}(h:bM (a,l,nx,())=true):∀f∈l,f.2.2.2.2.1.length<=400:=λf hf=>by obtain⟨h1,_,h3,_⟩:=Xe.1 h;have hl:=aia (Xf (h1 f hf).1);have h5:=(Xg.1 h3).2;have hl:f.2.2.2.2.1.length<=a.length:=hl;have h5:a.length<=5:=h5;omega
theorem aep:OK Ep.e:=by
 refine XA.ok mixed (aA [sW.e,qE.e,Em.e,Eo.e,kD.e,bQ.e,rX.e] ⟨I8,Ce,ad2,aed,rU,dw,EM,trivial⟩) agn (λ_ _=>⟨((([],[],0,()),()),(([],0,0,()),())),⟨by decide,⟨by decide,by decide,λf hf=>by cases hf⟩,λf hf=>by cases hf⟩⟩) (by kernel_rfl) (show∀c0 c1 c2,Ep.goal (aer c0 c1 c2) ((c0,c1,c2,()),())from ?_);intro b i h hin hp;dsimp only[Ep]at hp ⊢;have hp:0<=i:=hp;refine⟨hp,?_⟩;rintro⟨⟨⟨a,l,nx,⟨⟩⟩,⟨⟩⟩,⟨b0,i0,g0,⟨⟩⟩,⟨⟩⟩ ⟨p0,d1,d2,d3,d4,_⟩;have D:qW 2 (a,l,nx,()):=⟨d1,d2,d3,d4⟩;obtain⟨z0,z1,z2⟩:a.length<=1000/\l.length<=1000/\∀f∈l,wV f:=d4;have z3:l.length<=12:=(oU.1 D.ok).2.2.1;have hh:=acE D.ok;refine⟨p0,?_⟩;rintro⟨⟨x1,⟨⟩⟩,⟨b1,i1,g1,⟨⟩⟩,⟨⟩⟩ ⟨p1,_⟩;refine af (λ_=>⟨⟨p1,by simp⟩,?_⟩) λ_=>af (λ_=>⟨p1,?_⟩) λ_=>af (λ_=>⟨p1,?_⟩) λ_=>af (λ_=>?_) λ_=>⟨p1,D.small,hh⟩
 .rintro⟨⟨x3,⟨⟩⟩,⟨b3,i3,g3,⟨⟩⟩,⟨⟩⟩ ⟨p3,_⟩;exact⟨p3,⟨z0,z1,z2⟩,hh⟩
 .rintro⟨⟨⟨d,o,s,lk,al,⟨⟩⟩,⟨⟩⟩,⟨b2,i2,g2,⟨⟩⟩,⟨⟩⟩ ⟨p2,ha⟩;have hf:wV (d,o,s,lk,al,()):=(show al.length<=1000 from auU ha (by decide));refine⟨(show l.length+1<=big by rw[iF];omega),p2,⟨z0,?_,λf hf'=>?_⟩,λf hf'=>?_⟩
  .show(l++[_]).length<=1000;rw[auN,auQ,auW];omega
  .rcases avf.1 hf' with h'|h'
   .exact z2 f h'
   .have:f=(d,o,s,lk,al,()):=by simpa using h'
    rw[this];exact hf
  .rcases avf.1 hf' with h'|h'
   .exact hh f h'
   .have:f=(d,o,s,lk,al,()):=by simpa using h'
    rw[this];exact auU ha (by decide)
 .rintro⟨⟨x3,⟨⟩⟩,⟨b3,i3,g3,⟨⟩⟩,⟨⟩⟩ ⟨p3,hx⟩;exact⟨p3,⟨auU (show x3.length<=6 from hx) (by decide),z1,z2⟩,hh⟩
 .refine⟨λy=>0<=y.2.1.2.1/\qW 2 y.2.2.1,λy=>12-y.2.2.1.2.1.length,⟨p1,D⟩,?_⟩;rintro⟨⟨⟩,⟨b2,i2,g2,⟨⟩⟩,⟨a,l,nx,⟨⟩⟩,⟨⟩⟩ ⟨p2,D⟩;have D:qW 2 (a,l,nx,()):=D;refine af (λhc=>⟨p2,?_⟩) λ_=>⟨p2,D.small,acE D.ok⟩;have hc:(l.length:Int)<12:=fH hc;rintro⟨⟨⟨d,o,s,lk,al,⟨⟩⟩,⟨⟩⟩,⟨b3,i3,g3,⟨⟩⟩,⟨⟩⟩ ⟨p3,_,ho1,ho2,hl1,hl2,hok,ha⟩;have hf:wV (d,o,s,lk,al,()):=(show al.length<=1000 from auU ha (by decide));refine⟨⟨D.small,hf⟩,?_⟩;rintro⟨⟨⟨a3,l3,nx3,⟨⟩⟩,id3,ok3,⟨⟩⟩,⟨⟩⟩ ⟨e1,e2,e3,_⟩;have e:((a3,l3,nx3,()):dZ)=(bY (a,l,nx,()) (d,o,s,lk,al,())).1:=aaE e1 e2 e3;have hg:=D.grows (f:=(d,o,s,lk,al,())) (show l.length<12 by omega) ⟨ho1,ho2⟩ ⟨hl1,hl2⟩ hok;have e2:l3=(bY (a,l,nx,()) (d,o,s,lk,al,())).1.2.1:=e2;refine⟨rfl,⟨p3,?_⟩,?_⟩
  .show qW 2 (a3,l3,nx3,());rw[e];exact D.create hf
  .show 12-l3.length<12-l.length;have hg:(bY (a,l,nx,()) (d,o,s,lk,al,())).1.2.1.length=l.length+1:=hg;rw[e2,hg];omega
theorem aaP:OK BN.e:=by refine XA.ok mixed (aA [yZ.e,rX.e] ⟨OA,EM,trivial⟩) H0 (λ_ _=>⟨((([],[],0,[],()),()),(([],0,0,()),())),⟨by decide,⟨by decide,by decide,λx hx=>by cases hx⟩,Az⟩⟩) (by kernel_rfl) (show∀c0 c1 c2,BN.goal (aaQ c0 c1 c2) ((c0,c1,c2,()),())from ?_);intro b i h hin hp;dsimp only[BN]at hp ⊢;have hp:0<=i:=hp;refine⟨hp,λr hr=>⟨hr.1,λx hx=>⟨hx.1,hr.2.2.2.2.1,hx.2.2.1⟩⟩⟩
theorem QN:OK AQ.e:=by refine XA.ok mixed (aA [Et.e,Ep.e,bQ.e,BN.e] ⟨aes,aep,dw,aaP,trivial⟩) H0 (λ_ _=>⟨((([],[],0,[],()),()),(([],0,0,()),())),⟨by decide,⟨by decide,by decide,λx hx=>by cases hx⟩,Az⟩⟩) (by kernel_rfl) (show∀c0 c1 c2,AQ.goal (aeu c0 c1 c2) ((c0,c1,c2,()),())from ?_);intro b i h hin hp;dsimp only[AQ]at hp ⊢;have hp:0<=i:=hp;refine⟨hp,λr hr=>⟨hr.1,λx hx=>af (λ_=>⟨hx.1,λy hy=>⟨hy.1,hy.2.1,hr.2.2⟩⟩) λ_=>af (λ_=>⟨hx.1,λy hy=>⟨hy.1,hr.2.1,hy.2.2⟩⟩) λ_=>⟨hx.1,hr.2⟩⟩⟩
end Go.Proofs.Tryz
namespace Go.Proofs.Tryz
open Go Go.Fw Go.IntWalk
theorem KG:OK o9.e:=by refine PA.ok mixed (aA [] trivial) MV (by kernel_rfl) (show∀s1 s2,o9.goal (KH s1 s2) (s1,s2,())from ?_);intro a b hin hp;dsimp only[o9]at hp ⊢;exact eqL (K:=λr=>r=(decide (a=b),())) (λx y=>!(x.1==y.1&&(x.2.1==y.2.1&&(x.2.2.1==y.2.2.1&&(x.2.2.2.1==y.2.2.2.1&&true))))) (λx y=>by simp[awn]) _ a b _ hin.1.1 rfl
theorem JD:OK oK.e:=by refine PA.ok mixed (aA [] trivial) KI (by kernel_rfl) (show∀s1 s2,oK.goal (JE s1 s2) (s1,s2,())from ?_);intro a b hin hp;dsimp only[oK]at hp ⊢;exact eqL (K:=λr=>r=(decide (a=b),())) (λx y=>!(x.1==y.1&&(x.2.1==y.2.1&&true))) (λx y=>by simp[awn]) _ a b _ hin.1.1 rfl
theorem KJ:OK pz.e:=by refine PA.ok mixed (aA [] trivial) MW (by kernel_rfl) (show∀s1 s2,pz.goal (KL s1 s2) (s1,s2,())from ?_);intro a b hin hp;dsimp only[pz]at hp ⊢;exact eqL (K:=λr=>r=(decide (a=b),())) (λx y=>!(x.1==y.1&&(x.2.1==y.2.1&&(x.2.2.1==y.2.2.1&&(x.2.2.2.1==y.2.2.2.1&&(x.2.2.2.2.1==y.2.2.2.2.1&&(x.2.2.2.2.2.1==y.2.2.2.2.2.1&&(x.2.2.2.2.2.2.1==y.2.2.2.2.2.2.1&&true)))))))) (λx y=>by simp[awn]) _ a b _ hin.1.1 rfl
theorem Jf:OK sZ.e:=by
 refine PA.ok mixed (aA [o9.e] ⟨KG,trivial⟩) H0 (by kernel_rfl) (show∀a0 a1 a2 a3 a4 b0 b1 b2 b3 b4,sZ.goal (Xh a0 a1 a2 a3 a4 b0 b1 b2 b3 b4) ((a0,a1,a2,a3,a4,()),(b0,b1,b2,b3,b4,()),())from ?_);intro a0 a1 a2 a3 a4 b0 b1 b2 b3 b4 hin hp;dsimp only[sZ]at hp ⊢;refine af (λh0=>af (λh1=>af (λh2=>af (λh3=>⟨trivial,?_⟩) λh3=>?_) λh2=>?_) λh1=>?_) λh0=>?_
 all_goals refine congrArg (·,()) (avp.2 ?_)
 .simp only[avj]at h0 h1 h2 h3;subst h0 h1 h2 h3;simp
 .have h3:a3≠b3:=by simpa using h3
  simp[h3]
 .have h2:a2≠b2:=by simpa using h2
  simp[h2]
 .have h1:a1≠b1:=by simpa using h1
  simp[h1]
 .have h0:a0≠b0:=by simpa using h0
  simp[h0]
theorem qM:OK eH.e:=by refine PA.ok mixed (aA [sZ.e] ⟨Jf,trivial⟩) rq (by kernel_rfl) (show∀s1 s2,eH.goal (qN s1 s2) (s1,s2,(()),())from ?_);intro a b hin hp;dsimp only[eH]at hp ⊢;exact aqx (K:=λr=>r=(decide (a=b),())) (λx y=>!decide (x=y)) (λx y=>by simp) _ a b _ hin.1.1 rfl
theorem Vd:OK xw.e:=by
 refine PA.ok mixed (aA [sZ.e,eH.e,oK.e] ⟨Jf,qM,JD,trivial⟩) H0 (by kernel_rfl) (show∀a0 a1 a2 b0 b1 b2,xw.goal (Ve a0 a1 a2 b0 b1 b2) ((a0,a1,a2,()),(b0,b1,b2,()),())from ?_);intro a0 a1 a2 b0 b1 b2 hin hp;dsimp only[xw]at hp ⊢;refine⟨trivial,af (λh0=>⟨trivial,af (λh1=>?_) λh1=>?_⟩) λh0=>?_⟩
 all_goals refine congrArg (·,()) (avp.2 ?_)
 .have h0:=fH h0;have h1:=fH h1;subst h0 h1;simp
 .have h1:=fV h1;simp[h1]
 .have h0:=fV h0;simp[h0]
theorem Tt:OK vX.e:=by refine PA.ok mixed (aA [pz.e] ⟨KJ,trivial⟩) H0 (by kernel_rfl) (show∀a b,vX.goal (Tv a b) (a,b,())from ?_);intro a b hin hp;dsimp only[vX]at hp ⊢;exact⟨trivial,rfl⟩
theorem Hl:OK rH.e:=by
 refine PA.ok mixed (aA [vX.e] ⟨Tt,trivial⟩) H0 (by kernel_rfl) (show∀x0 x1 y0 y1,rH.goal (Vf x0 x1 y0 y1) ((x0,x1,()),(y0,y1,()),())from ?_);intro a0 a1 b0 b1 hin hp;dsimp only[rH]at hp ⊢;refine af (λh0=>⟨trivial,?_⟩) λh0=>?_
 all_goals refine congrArg (·,()) (avp.2 ?_)
 .simp[avj.1 h0]
 .simp[show a0≠b0 by simpa using h0]
theorem ru:OK fC.e:=by refine PA.ok mixed (aA [rH.e] ⟨Hl,trivial⟩) rV (by kernel_rfl) (show∀s1 s2,fC.goal (rC s1 s2) (s1,s2,(()),())from ?_);intro a b hin hp;dsimp only[fC]at hp ⊢;exact aqx (K:=λr=>r=(decide (a=b),())) (λx y=>!decide (x=y)) (λx y=>by simp) _ a b _ hin.1.1 rfl
theorem YK:OK Ad.e:=by refine PA.ok mixed (aA [rH.e,fC.e] ⟨Hl,ru,trivial⟩) H0 (by kernel_rfl) (show∀a b,Ad.goal (YL a b) (a,b,())from ?_);intro a b hin hp;dsimp only[Ad]at hp ⊢;exact⟨trivial,rfl⟩
theorem Ph:OK su.e:=by
 refine PA.ok mixed (aA [Ad.e,xw.e] ⟨YK,Vd,trivial⟩) H0 (by kernel_rfl) (show∀a0 a1 a2 a3 b0 b1 b2 b3,su.goal (Pm a0 a1 a2 a3 b0 b1 b2 b3) ((a0,a1,a2,a3,()),(b0,b1,b2,b3,()),())from ?_);intro a0 a1 a2 a3 b0 b1 b2 b3 hin hp;dsimp only[su]at hp ⊢;refine⟨trivial,af (λh0=>⟨trivial,?_⟩) λh0=>?_⟩
 all_goals refine congrArg (·,()) (avp.2 ?_)
 .have h0:=fH h0;simp only[Prod.mk.injEq]at h0;obtain⟨rfl,rfl,rfl,_⟩:=h0;simp
 .have h0:=fV h0;simp only[au1,awe,false_iff,Prod.mk.injEq,axO]at h0 ⊢;exactλh=>h0 ⟨h.1,h.2.1,h.2.2.1⟩
end Go.Proofs.Tryz
namespace Go.Proofs.Tryz
open Go Go.Fw Go.IntWalk
theorem Vq:OK xA.e:=by refine PA.ok mixed (aA [] trivial) H0 (by kernel_rfl) (show∀s,xA.goal (Vr s) (s,())from ?_);intro w hin hp;dsimp only[xA]at hp ⊢;exact rfl
end Go.Proofs.Tryz
namespace Go.Proofs.Tryz
open Go Go.Fw Go.IntWalk Sp
theorem DI:OK qF.e:=by refine PA.ok mixed (aA [(H8,.pure EG)] ⟨⟨abX,aam⟩,trivial⟩) H0 (by kernel_rfl) (show∀n,qF.goal (YO n) (n,())from ?_);intro n hin hp;dsimp only[qF]at hp ⊢;exact⟨hin.1,rfl⟩
theorem YP:OK Af.e:=by
 refine PA.ok mixed (aA [] trivial) H0 (by kernel_rfl) (show∀UX,Af.goal (YQ UX) (UX,())from ?_);intro x hin hp;dsimp only[Af]at hp ⊢;obtain⟨h0,h1⟩:=hp;refine af (λh=>?_) λh=>?_<;>simp only[au1,avt]at h
 .rw[i64_in (48+x) (by omega),u8_in (48+x) (by omega)]
 .omega
theorem aeA{c:Int}(h:¬c.tmod 10<0):c.tmod 10=((c.natAbs%10:Nat):Int):=by have:(c.tmod 10).natAbs=c.natAbs%10:=ax4 c 10;omega
theorem ajl{c:Int}(h:c.tmod 10<0):0-c.tmod 10=((c.natAbs%10:Nat):Int):=by have:(c.tmod 10).natAbs=c.natAbs%10:=ax4 c 10;omega
theorem Xr(k:Nat):byteRow [((48:Int)+(k:Int),())]=[UInt8.ofNat (48+k)]:=by
 have:((48:Int)+(k:Int)).toNat=48+k:=by omega
 simp[byteRow,ZQ,this]
theorem alm{n c:Nat}{s:List UInt8}(hc:c≠0)(hJ:Lib.decDigits n=(if c=0 then[]else Lib.decDigits c)++s):
 Lib.decDigits n=(if c / 10=0 then[]else Lib.decDigits (c / 10))++(UInt8.ofNat (48+c%10)::s):=by
 rw[hJ,if_neg hc,aeB c];simp
theorem tH:OK kV.e:=by
 refine PA.ok mixed (aA [Af.e] ⟨YP,trivial⟩) aaW (by kernel_rfl) (show∀n,kV.goal (YR n) (n,())from ?_);intro n hin hp;dsimp only[kV]at hp ⊢;have h0:(-9223372036854775808:Int)<=n/\n<=9223372036854775807:=hin.1;have hL:=Lib.itoa_length_le n h0.1 h0.2;have hD:(Lib.decDigits n.natAbs).length<=21:=by
  unfold Lib.itoa at hL;split at hL
  .simp at hL;omega
  .rw[show n.natAbs=n.toNat by omega];exact hL
 refine af (λh=>?_) λh=>?_
 .have:n=0:=by simpa using h
  subst this;simp[Lib.itoa,Lib.decDigits]
 .have hn0:n≠0:=by simpa using h
  refine⟨λy=>-9223372036854775808<=y.1.1/\y.1.1<=9223372036854775807/\Lib.decDigits n.natAbs=(if y.1.1.natAbs=0 then[]else Lib.decDigits y.1.1.natAbs)++y.1.2.1,λy=>y.1.1.natAbs,⟨h0.1,h0.2,?_⟩,?_⟩
  .show _=(if n.natAbs=0 then _ else _)++_;rw[if_neg (by omega)];simp
  rintro⟨⟨c,s,⟨⟩⟩,⟨⟩⟩ ⟨hc1,hc2,hJ⟩;dsimp only at hc1 hc2 hJ ⊢;have hs:s.length<=21:=by rw[hJ,auN]at hD;omega
  have hq:(c.tdiv 10).natAbs=c.natAbs / 10:=Int.natAbs_tdiv c 10;have hrow:∀k:Nat,(byteRow [((48:Int)+(k:Int),())]).length=1:=λk=>by rw[Xr];rfl
  refine af (λh=>?_) λh=>?_
  .have hc:c.natAbs≠0:=by simp at h;omega
   have hstep:=alm hc hJ;have hm:c.natAbs%10<10:=axE _ (by decide);have hlt:c.natAbs / 10<c.natAbs:=Nat.div_lt_self (by omega) (by decide);have hw:IntKind.i64.wrap (c.tdiv 10)=c.tdiv 10:=fE _ (by omega);refine⟨by decide,af (λhd=>?_) λhd=>?_⟩<;>simp only[au1,avt]at hd
   .have e:=ajl hd;rw[fE (0-c.tmod 10) (by omega),e,hw,Xr];refine⟨⟨by omega,by omega⟩,by simp only[auQ,auW];rw[maxLen_eq];omega,by decide,rfl,⟨by dsimp only;omega,by dsimp only;omega,?_⟩,?_⟩
    .show _=(if(c.tdiv 10).natAbs=0 then[]else Lib.decDigits (c.tdiv 10).natAbs)++_;rw[hq];exact hstep
    .show(c.tdiv 10).natAbs<c.natAbs;rw[hq];exact hlt
   .have e:=aeA hd;rw[e,hw,Xr];refine⟨⟨by omega,by omega⟩,by simp only[auQ,auW];rw[maxLen_eq];omega,by decide,rfl,⟨by dsimp only;omega,by dsimp only;omega,?_⟩,?_⟩
    .show _=(if(c.tdiv 10).natAbs=0 then[]else Lib.decDigits (c.tdiv 10).natAbs)++_;rw[hq];exact hstep
    .show(c.tdiv 10).natAbs<c.natAbs;rw[hq];exact hlt
  .have hc:c=0:=by simpa using h
   subst hc;have hJ:Lib.decDigits n.natAbs=s:=by simpa using hJ
   subst hJ;refine af (λhd=>?_) λhd=>?_<;>simp only[au1,avt]at hd
   .refine⟨by simp only[auQ,auW];rw[maxLen_eq];omega,?_⟩;rw[Lib.itoa,if_pos hd];rfl
   .rw[Lib.itoa,if_neg hd,show n.toNat=n.natAbs by omega]
theorem TN(x y:List UInt8):Lib.join [x,y] [32]=x++[32]++y:=by simp[Lib.join_cons,Lib.joinTail]
theorem acQ(x y z:List UInt8):Lib.join [x,y,z] [32]=x++[32]++y++[32]++z:=by simp[Lib.join_cons,Lib.joinTail]
theorem JY:OK uY.e:=by
 refine PA.ok mixed (aA [kV.e] ⟨tH,trivial⟩) aaX (by kernel_rfl) (show∀text,uY.goal (YS text) (text,())from ?_);intro text hin hp;dsimp only[uY]at hp ⊢;refine af (λh=>?_) λh=>?_
 .exact MX (WL (by have:=fH h;omega))
 .have hl:text.length<=10:=by have:=fV h;omega
  refine iy (mk:=λi v=>((v,i,()),())) (λy=>y.1.2.1) (λ_ _=>rfl) text.length (by omega)
   (λn v=>v=jT (text.take n)/\∀i,i<n->48<=(text.getD i 0).toNat/\(text.getD i 0).toNat<=57) ⟨rfl,λi hi=>absurd hi (avR _)⟩ (λI μ n v hn hJ next=>?_) λI μ v hJ=>?_
  .obtain⟨rfl,hd⟩:=hJ;obtain⟨b0,b1⟩:=aib hn hl hd;dsimp only;rw[ava];refine fP (by omega) ⟨⟨by omega,by omega⟩,af (λh2=>?_) λh2=>⟨⟨by omega,by omega⟩,af (λh3=>?_) λh3=>⟨⟨by omega,by omega⟩,rfl,?_⟩⟩⟩
   .exact MX (OD hn (by have:=fH h2;omega))
   .exact MX (OD hn (by have:=fH h3;omega))
   .have g2:=fV h2;have g3:=fV h3;have w1:IntKind.i64.wrap (10*jT (text.take n))=10*jT (text.take n):=fE _ (by omega);have w2:IntKind.i64.wrap ((text.getD n 0).toNat:Int)=(text.getD n 0).toNat:=fE _ (by omega);have w3:IntKind.i64.wrap (10*jT (text.take n)+(text.getD n 0).toNat)=10*jT (text.take n)+(text.getD n 0).toNat:=fE _ (by omega);have w4:IntKind.i64.wrap (10*jT (text.take n)+(text.getD n 0).toNat-48)=10*jT (text.take n)+(text.getD n 0).toNat-48:=fE _ (by omega);refine next _ ⟨?_,λi hi=>?_⟩
    .rw[w1,w2,w3,w4,ajm hn];omega
    .rcases avb i n with h5|h5
     .exact hd i h5
     .rw[show i=n by omega];omega
  .obtain⟨rfl,hd⟩:=hJ;dsimp only;rw[avy (auT _)];refine fQ (by omega) (af (λh2=>?_) λh2=>⟨trivial,af (λh3=>?_) λh3=>?_⟩)
   .refine MX ?_;cases hk:aY text with
    |false=>rfl
    |true=>have:=(lS.1 (Eg.1 hk).1).2;have:=fH h2;omega
   .refine MX ?_;cases hk:aY text with
    |false=>rfl
    |true=>exact absurd (Eg.1 hk).2 (ne_of_beq_false (jP h3))
   .have e:=avj.1 (gI h3);have h0:0<=jT text:=(MZ text.length text rfl (λb hb=>by obtain⟨i,hi,rfl⟩:=awF.1 hb;have:=hd i hi;rw[auS,auX hi]at this;exact this)).1;have:=Sz (lS.2 ⟨h0,by have:=fV h2;omega⟩) e;rw[this.1,this.2]
theorem Hf:OK kW.e:=by
 refine PA.ok mixed (aA [] trivial) Xt (by kernel_rfl) (show∀line,kW.goal (Vu line) (line,())from ?_);intro line hin hp;dsimp only[kW]at hp ⊢;have hp:line.length<=1048576:=hp;refine af (λh=>?_) λh=>?_
 .exact(EO λhh=>by have:=fH h;omega).symm
 .have hl:line.length<=600:=by have:=fV h;omega
  refine iy (mk:=λi(s:Int×Sp.LS)=>(((),s.1,i,()),s.2,())) (λy=>y.1.2.2.1) (λ_ _=>rfl) (line.length+1) (by omega)
   (λn s=>∃b:Nat,s.1=b/\Sp.splitAt line n b s.2) (s0:=((0:Int),[])) ⟨0,rfl,aic line⟩ (λI μ n s hn hJ next=>?_) λI μ s hJ=>?_
  .obtain⟨b,out⟩:=s;obtain⟨b,rfl,hs⟩:=hJ;dsimp only at hs ⊢;have hb:=hs.1;have hout:=hs.2.2.1;have hw:IntKind.i64.wrap ((n:Int)+1)=((n+1:Nat):Int):=fE _ (by omega);rw[ava,ava];refine fP (by omega) ⟨λ_=>n<line.length->l7 (line.getD n 0)=true,?_,λ_ hj=>?_⟩
   .refine af (λh2=>⟨⟨by omega,by have:=fH h2;omega⟩,af (λh3=>?_) λh3=>⟨⟨by omega,by have:=fH h2;omega⟩,af (λh4=>?_) λh4=>⟨rfl,λ_=>?_⟩⟩⟩) λh2=>⟨rfl,λhh=>?_⟩
    .exact(EO λhh=>by have h5:=AB.1 (aaY hh.2.1 (show n<line.length by have:=fH h2;omega));have:=fH h3;omega).symm
    .exact(EO λhh=>by have h5:=AB.1 (aaY hh.2.1 (show n<line.length by have:=fH h2;omega));have:=fH h4;omega).symm
    .exact AB.2 ⟨by have:=fV h3;omega,by have:=fV h4;omega⟩
    .have:=fV h2;omega
   .have tail:(n<line.length->l7 (line.getD n 0)=true/\line.getD n 0=32)->
     bif decide ((b:Int)<n)then((0:Int)<=b/\(b:Int)<=n/\(n:Int)<=line.length)/\List.length out+[(List.drop b (List.take n line),())].length<=big/\(((line,()),())=((line,()),()))/\
         I (((),IntKind.i64.wrap ((n:Int)+1),IntKind.i64.wrap ((n:Int)+1),()),out++[(List.drop b (List.take n line),())],())/\μ (((),IntKind.i64.wrap ((n:Int)+1),IntKind.i64.wrap ((n:Int)+1),()),out++[(List.drop b (List.take n line),())],())<μ (((),(b:Int),(n:Int),()),out,())
      else(((line,()),())=((line,()),()))/\I (((),IntKind.i64.wrap ((n:Int)+1),IntKind.i64.wrap ((n:Int)+1),()),out,())/\μ (((),IntKind.i64.wrap ((n:Int)+1),IntKind.i64.wrap ((n:Int)+1),()),out,())<μ (((),(b:Int),(n:Int),()),out,()):=by
     intro ho;refine af (λh3=>⟨⟨by omega,by omega,by omega⟩,?_,rfl,?_⟩) λh3=>⟨rfl,?_⟩
     .rw[iF];show _+1<=_;omega
     .exact next (IntKind.i64.wrap ((n:Int)+1),out++[((line.take n).drop b,())]) ⟨n+1,hw,aid hs (by omega) (by have:=fH h3;omega) ho⟩
     .exact next (IntKind.i64.wrap ((n:Int)+1),out) ⟨n+1,hw,aie hs (by omega) (by have:=fV h3;omega) ho⟩
    refine af (λh2=>⟨⟨by omega,by have:=fH h2;omega⟩,af (λh3=>⟨rfl,?_⟩) λh3=>?_⟩) λh2=>?_
    .have hn2:n<line.length:=by have:=fH h2;omega
     exact next ((b:Int),out) ⟨b,rfl,aif hs hn2 (hj hn2) λe=>by rw[e]at h3;revert h3;decide⟩
    .refine tail λhn2=>⟨hj hn2,?_⟩;have h3:((line.getD n 0).toNat:Int)=32:=by simpa using h3
     exact UInt8.toNat_inj.1 (by show _=32;omega)
    .exact tail λhn2=>by have:=fV h2;omega
  .obtain⟨b,out⟩:=s;obtain⟨b,rfl,hs⟩:=hJ;dsimp only at hs ⊢;obtain⟨h1,h2⟩:=ajn hs;subst h2;refine fQ (by omega) (af (λh2=>?_) λh2=>?_)
   .exact(EO λhh=>by have:=fH h2;rw[vH]at this;omega).symm
   .exact(afz (qZ.2 ⟨hl,h1,by have:=fV h2;rw[vH]at this;omega⟩)).symm
theorem Oy:OK qG.e:=by
 refine PA.ok mixed (aA [] trivial) aeC (by kernel_rfl) (show∀p,qG.goal (acR p) (p,())from ?_);intro p hin hp;dsimp only[qG]at hp ⊢;have hp1:p.length<=1000:=hp.1;have hp2:(gm p).length<=2097152:=hp.2;refine iy (mk:=λi s=>((s,i,()),())) (λy=>y.1.2.1) (λ_ _=>rfl) p.length (by omega) (λn s=>s=gm (p.take n)) rfl (λI μ n s hn hJ next=>?_) λI μ s hJ=>?_
 .subst hJ;have e:=aln hn;have hle:=agr p (n+1);have hll:=congrArg List.length e;have h1:([32]:Sp.Bytes).length=1:=rfl;dsimp only;rw[ava];refine fP (by omega) (af (λh2=>?_) λh2=>?_)
  .have hn0:n≠0:=by have:=fH h2;omega
   rw[if_neg hn0]at e hll;rw[auN,auN,h1]at hll;refine⟨?_,⟨by omega,by omega⟩,?_,rfl,next _ e.symm⟩
   .rw[maxLen_eq,h1];omega
   .rw[maxLen_eq,auN,h1];omega
  .have hn0:n=0:=by have:=fV h2;omega
   subst hn0;refine⟨⟨by omega,by omega⟩,?_,rfl,next _ e.symm⟩;have h0:(gm (p.take 0)).length=0:=rfl;rw[maxLen_eq,h0];rw[if_pos rfl,avJ]at hll;omega
 .subst hJ;dsimp only;refine fQ (by omega) ?_;rw[avy (auT _)]
theorem Vw:OK oh.e:=by
 refine PA.ok mixed (aA [(EK,.pure Ci),jE.e] ⟨⟨Yv,WM⟩,lT,trivial⟩) Xu (by kernel_rfl) (show∀line,oh.goal (Vx line) (line,())from ?_);intro line hin hp;dsimp only[oh]at hp ⊢;refine af (λh=>?_) λh=>?_
 .exact(EO λhh=>by have:=fH h;omega).symm
 .have hl:line.length<=600:=by have:=fV h;omega
  refine kS line.length (by omega) (λn=>∀i,i<n->l7 (line.getD i 0)=true) (λi hi=>absurd hi (avR _)) (λI μ n hn hJ next=>?_) λI μ hJ=>?_
  .dsimp only;rw[ava,alo];refine fP (by omega) ⟨⟨by omega,by omega⟩,trivial,af (λh2=>?_) λh2=>⟨rfl,next λi hi=>?_⟩⟩
   .exact(EO λhh=>by have:=aaY hh.2.1 hn;rw[jP h2]at this;cases this).symm
   .rcases avb i n with h5|h5
    .exact hJ i h5
    .rw[show i=n by omega];exact gI h2
  .dsimp only;have hall:=aii hJ;refine fQ (by omega) ⟨⟨hp,an9 hall⟩,af (λh2=>?_) λh2=>?_⟩
   .exact(EO λhh=>by have:=fH h2;rw[vH]at this;omega).symm
   .exact(afz (qZ.2 ⟨hl,hall,by have:=fV h2;rw[vH]at this;omega⟩)).symm
theorem Gs:OK lK.e:=by
 refine PA.ok mixed (aA [] trivial) H0 (by kernel_rfl) (show∀p at',lK.goal (acS p at') (p,at',())from ?_);intro w i hin hp;dsimp only[lK]at hp ⊢;refine af (λh=>?_) λh=>⟨⟨hp,by have:=fV h;omega⟩,?_⟩
 .rw[qj (fH h)]
 .rw[qi (by have:=fV h;omega)]
theorem aem:OK wL.e:=by refine PA.ok mixed (aA [uY.e,lK.e] ⟨JY,Gs,trivial⟩) H0 (by kernel_rfl) (show∀p at',wL.goal (aeD p at') (p,at',())from ?_);intro w i hin hp;dsimp only[wL]at hp ⊢;exact⟨hp,trivial,rfl⟩
theorem Px:OK kR.e:=by
 refine PA.ok mixed (aA [] trivial) QV (by kernel_rfl) (show∀s1 s2,kR.goal (Py s1 s2) (s1,s2,())from ?_);intro a b hin hp;dsimp only[kR]at hp ⊢;have hlen:a.length<=maxLen:=hin.1.1;rw[maxLen_eq]at hlen;refine af (λh=>?_) λh=>?_
 .have h:(a.length:Int)≠b.length:=by simpa using h
  exact congrArg (·,()) (au6 λe=>h (by rw[e])).symm
 .have h:(a.length:Int)=b.length:=by simpa using h
  exact Fj (K:=λr=>r=(decide (a=b),())) (λx y=>!(x.1==y.1)) (λx y=>by simp[awn]) _ a b _ hlen (by omega) (λe=>by rw[au6 e]) λe=>by rw[au2 e]
end Go.Proofs.Tryz
