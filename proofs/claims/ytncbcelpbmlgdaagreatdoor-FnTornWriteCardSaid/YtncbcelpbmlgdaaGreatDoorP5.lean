import Derived.Test.YtncbcelpbmlgdaaGreatDoorP1
import Derived.Test.YtncbcelpbmlgdaaGreatDoorL1
import Derived.Test.YtncbcelpbmlgdaaGreatDoorSp
import Derived.Test.YtncbcelpbmlgdaaGreatDoorV3
import Derived.Test.YtncbcelpbmlgdaaGreatDoorL4
import Derived.Test.YtncbcelpbmlgdaaGreatDoorV20
import Derived.Test.YtncbcelpbmlgdaaGreatDoorFwC
namespace Go.Proofs.Tryz
open Go Go.Fw Go.IntWalk Sp
theorem SI(a:Int)(x:ak):(Sp.refsOf a x:Int)=(if(x.1=6\/x.1=7\/x.1=5)/\x.2.1=a then 1 else 0)+(if(x.1=6\/x.1=7)/\x.2.2.1=a then 1 else 0):=by unfold Sp.refsOf iZ;by_cases h6:x.1=6<;>by_cases h7:x.1=7<;>by_cases h5:x.1=5<;>by_cases hl:x.2.1=a<;>by_cases hr:x.2.2.1=a<;>simp[cond_eq_ite,h6,h7,h5,hl,hr]
theorem aqa(a:Int)(x:ak):Sp.refsOf a x<=2:=by have:=SI a x;split at this<;>split at this<;>omega
def nG(q:List ak)(a:Int)(n:Nat):Nat:=((q.take n).map (Sp.refsOf a)).sum
theorem OU(q:List ak)(a:Int){n:Nat}(hn:n<q.length):nG q a (n+1)=nG q a n+Sp.refsOf a (Sp.nodeAt q n):=by unfold nG;rw[Sp.take_succ' q n (0,0,0,[],0,0,[],()) hn];simp only[aws,axh,avK,ayl,awt,List.sum_nil,aw0];rfl
theorem WW(q:List ak)(a:Int):∀n,n<=q.length->nG q a n<=2*n
 |0,_=>by simp[nG]
 |n+1,h=>by rw[OU q a abn];have:=WW q a n abn;have:=aqa a (Sp.nodeAt q n);omega
theorem acT(q:List ak)(a:Int):nG q a q.length=gX q a:=by unfold nG gX;rw[awE]
theorem MZ:OK qC.e:=by
 refine PA.ok mixed (aC [] trivial) OV abu (show∀q at',qC.goal (Na q at') (q,at',())from ?_);intro q a hin hp;dsimp only[qC]at hp ⊢;have hp:q.length<=2000000:=hp;refine gU (λi(c:Int)=>((c,i,()),())) (λy=>y.1.2.1) (λ_ _=>rfl) q.length abn (λn c=>c=(nG q a n:Int)) rfl (λI μ n c hn hJ next=>?_) λI μ c hJ=>?_
 .subst hJ;have hs:=OU q a hn;have hb:=WW q a n abn;have hr:=SI a (Sp.nodeAt q n);dsimp only;rw[avJ];have e:q.getD n (0,0,0,[],0,0,[],())=Sp.nodeAt q n:=rfl;rw[e];have w1:IntKind.i64.wrap ((nG q a n:Int)+1)=(nG q a n:Int)+1:=fD _ abn;have w2:IntKind.i64.wrap ((nG q a n:Int)+1+1)=(nG q a n:Int)+1+1:=fD _ abn;refine fK abn ⟨⟨abn,abn⟩,af (λh6=>⟨λy=>y=(((nG q a n:Int)+(if(Sp.nodeAt q n).2.1=a then 1 else 0),()),()),⟨⟨abn,abn⟩,af (λhl=>⟨rfl,?_⟩) λhl=>⟨rfl,?_⟩⟩,?_⟩) λh6=>⟨⟨abn,abn⟩,λy=>y=(((nG q a n:Int)+(if((Sp.nodeAt q n).1=7\/(Sp.nodeAt q n).1=5)/\(Sp.nodeAt q n).2.1=a then 1 else 0),()),()),?_,?_⟩⟩
  .simp only[avS]at hl;rw[w1,if_pos hl]
  .simp only[avp]at hl;rw[if_neg hl,axB]
  .rintro _ rfl;simp only[avS]at h6;refine⟨⟨abn,abn⟩,af (λhrr=>⟨rfl,next _ ?_⟩) λhrr=>⟨rfl,next _ ?_⟩⟩
   all_goals
    dsimp only;simp only[avS,avp,ne_eq]at hrr;by_cases hl:(Sp.nodeAt q n).2.1=a<;>simp[h6,hl,hrr]at hr<;>simp only[hl,if_true,axK,axB,w1,w2]<;>omega
  .simp only[avp,ne_eq]at h6;refine af (λh7=>⟨⟨abn,abn⟩,af (λhl=>⟨rfl,?_⟩) λhl=>⟨rfl,?_⟩⟩) λh7=>⟨⟨abn,abn⟩,af (λh5=>⟨⟨abn,abn⟩,af (λhl=>⟨rfl,?_⟩) λhl=>⟨rfl,?_⟩⟩) λh5=>⟨rfl,?_⟩⟩
   all_goals simp_all
  .rintro _ rfl;simp only[avp,ne_eq]at h6;refine af (λh7=>⟨⟨abn,abn⟩,af (λhrr=>⟨rfl,next _ ?_⟩) λhrr=>⟨rfl,next _ ?_⟩⟩) λh7=>⟨rfl,next _ ?_⟩
   .simp only[avS]at h7 hrr;by_cases hl:(Sp.nodeAt q n).2.1=a<;>simp[h6,h7,hl,hrr]at hr<;>simp only[h7,hl,true_or,and_self,and_false,if_true,axK,axB,w1,w2]<;>omega
   .simp only[avS,avp,ne_eq]at h7 hrr;by_cases hl:(Sp.nodeAt q n).2.1=a<;>simp[h6,h7,hl,hrr]at hr<;>simp only[h7,hl,true_or,and_self,and_false,if_true,axK,axB,w1,w2]<;>omega
   .simp only[avp,ne_eq]at h7;dsimp only;by_cases h5:(Sp.nodeAt q n).1=5<;>by_cases hl:(Sp.nodeAt q n).2.1=a<;>simp[h6,h7,h5,hl]at hr<;>simp[h7,h5,hl]<;>omega
 .dsimp only;refine fM abn ?_;rw[hJ,acT]
theorem Nb:OK qE.e:=by
 refine PA.ok mixed (aC [] trivial) OW abu (show∀q at',qE.goal (Nc q at') (q,at',())from ?_);intro q a hin hp;dsimp only[qE]at hp ⊢;have hp:q.length<=2000000:=hp;refine gU (λi(c:Int)=>((c,i,()),())) (λy=>y.1.2.1) (λ_ _=>rfl) q.length abn (λn c=>c=(nG q a n:Int)) rfl (λI μ n c hn hJ next=>?_) λI μ c hJ=>?_
 .subst hJ;have hs:=OU q a hn;have hb:=WW q a n abn;have hr:=SI a (Sp.nodeAt q n);dsimp only;rw[avJ];have e:q.getD n (0,0,0,[],0,0,[],())=Sp.nodeAt q n:=rfl;rw[e];have w1:IntKind.i64.wrap ((nG q a n:Int)+1)=(nG q a n:Int)+1:=fD _ abn;have w2:IntKind.i64.wrap ((nG q a n:Int)+1+1)=(nG q a n:Int)+1+1:=fD _ abn;refine fK abn ⟨⟨abn,abn⟩,af (λh6=>⟨λy=>y=(((nG q a n:Int)+(if(Sp.nodeAt q n).2.1=a then 1 else 0),()),()),af (λhl=>⟨rfl,?_⟩) λhl=>⟨rfl,?_⟩,?_⟩) λh6=>⟨λy=>y=(((nG q a n:Int)+(if((Sp.nodeAt q n).1=7\/(Sp.nodeAt q n).1=5)/\(Sp.nodeAt q n).2.1=a then 1 else 0),()),()),?_,?_⟩⟩
  .simp only[avS]at hl;rw[w1,if_pos hl]
  .simp only[avp]at hl;rw[if_neg hl,axB]
  .rintro _ rfl;simp only[avS]at h6;refine af (λhrr=>⟨rfl,next _ ?_⟩) λhrr=>⟨rfl,next _ ?_⟩
   all_goals
    dsimp only;simp only[avS,avp,ne_eq]at hrr;by_cases hl:(Sp.nodeAt q n).2.1=a<;>simp[h6,hl,hrr]at hr<;>simp only[hl,if_true,axK,axB,w1,w2]<;>omega
  .simp only[avp,ne_eq]at h6;refine af (λhl=>af (λh7=>⟨rfl,?_⟩) λh7=>af (λh5=>⟨rfl,?_⟩) λh5=>⟨rfl,?_⟩) λhl=>⟨rfl,?_⟩
   all_goals simp_all
  .rintro _ rfl;simp only[avp,ne_eq]at h6;refine af (λhrr=>af (λh7=>⟨rfl,next _ ?_⟩) λh7=>⟨rfl,next _ ?_⟩) λhrr=>⟨rfl,next _ ?_⟩
   .simp only[avS]at h7 hrr;by_cases hl:(Sp.nodeAt q n).2.1=a<;>simp[h6,h7,hl,hrr]at hr<;>simp only[h7,hl,true_or,and_self,and_false,if_true,axK,axB,w1,w2]<;>omega
   .simp only[avp,ne_eq]at h7;dsimp only;by_cases h5:(Sp.nodeAt q n).1=5<;>by_cases hl:(Sp.nodeAt q n).2.1=a<;>simp[h6,h7,h5,hl]at hr<;>simp[h7,h5,hl]<;>omega
   .simp only[avp,ne_eq]at hrr;dsimp only;by_cases h7:(Sp.nodeAt q n).1=7<;>by_cases h5:(Sp.nodeAt q n).1=5<;>by_cases hl:(Sp.nodeAt q n).2.1=a<;>simp[h6,h7,h5,hl,hrr]at hr<;>simp[h7,h5,hl]<;>omega
 .dsimp only;refine fM abn ?_;rw[hJ,acT]
theorem acU{q:List ak}{n:Nat}(hn:n<q.length)(h:kV q n=false):ay q=false:=by unfold ay;rw[Ar hn h];rfl
theorem Ac:OK mY.e:=by
 refine PA.ok mixed (aC [ja.e,qC.e,wB.e] ⟨kz,MZ,UU,trivial⟩) UW abu (show∀q,mY.goal (SK q) (q,())from ?_);intro q hin hp;dsimp only[mY]at hp ⊢;have hp:q.length<=2000000:=hp;refine kZ q.length abn (λn=>∀i,i<n->kV q i=true) (λi hi=>abn) (λI μ n hn hJ next=>?_) λI μ hJ=>?_
 .dsimp only;have no:kV q n=false->(false,())=(ay q,()):=λh=>by rw[acU hn h]
  rw[zh (show 0<q.length from abn) abn];refine fK abn ⟨⟨abn,abn⟩,trivial,af (λh2=>no ?_) λh2=>af (λh3=>⟨hp,af (λh4=>no ?_) λh4=>⟨rfl,next (dY hJ ?_)⟩⟩) λh3=>⟨rfl,next (dY hJ ?_)⟩⟩
  .have h2:dS (Sp.nodeAt q n) n=false:=iY h2;unfold kV;rw[h2];rfl
  .have h2:dS (Sp.nodeAt q n) n=true:=fG h2;have h4:(gX q n:Int)≠1:=by simpa using h4
   have h3:(n:Int)<(q.length:Int)-1:=asO;unfold kV;simp only[h3,h2];simp;omega
  .have h2:dS (Sp.nodeAt q n) n=true:=fG h2;have h4:(gX q n:Int)=1:=by simpa using h4
   have h4:gX q n=1:=abn;unfold kV;simp[h2,h4]
  .have h2:dS (Sp.nodeAt q n) n=true:=fG h2;have h3:¬(n:Int)<(q.length:Int)-1:=asP;unfold kV;simp[h2,h3]
 .dsimp only;refine fM abn ⟨trivial,congrArg (·,()) ?_⟩;unfold ay;rw[nC hJ];rfl
theorem sW:OK jf.e:=by
 refine PA.ok mixed (aC [jo.e,qE.e,wC.e] ⟨kJ,Nb,UR,trivial⟩) UX abu (show∀q,jf.goal (SL q) (q,())from ?_);intro q hin hp;dsimp only[jf]at hp ⊢;have hp:q.length<=2000000:=hp;refine kZ q.length abn (λn=>∀i,i<n->kV q i=true) (λi hi=>abn) (λI μ n hn hJ next=>?_) λI μ hJ=>?_
 .dsimp only;have no:kV q n=false->(false,())=(ay q,()):=λh=>by rw[acU hn h]
  rw[zh (show 0<q.length from abn) abn];refine fK abn ⟨⟨abn,abn⟩,trivial,af (λh2=>no ?_) λh2=>af (λh3=>⟨hp,af (λh4=>no ?_) λh4=>⟨rfl,next (dY hJ ?_)⟩⟩) λh3=>⟨rfl,next (dY hJ ?_)⟩⟩
  .have h2:dS (Sp.nodeAt q n) n=false:=iY h2;unfold kV;rw[h2];rfl
  .have h2:dS (Sp.nodeAt q n) n=true:=fG h2;have h4:(gX q n:Int)≠1:=by simpa using h4
   have h3:(n:Int)<(q.length:Int)-1:=asO;unfold kV;simp only[h3,h2];simp;omega
  .have h2:dS (Sp.nodeAt q n) n=true:=fG h2;have h4:(gX q n:Int)=1:=by simpa using h4
   have h4:gX q n=1:=abn;unfold kV;simp[h2,h4]
  .have h2:dS (Sp.nodeAt q n) n=true:=fG h2;have h3:¬(n:Int)<(q.length:Int)-1:=asP;unfold kV;simp[h2,h3]
 .dsimp only;refine fM abn ⟨trivial,congrArg (·,()) ?_⟩;unfold ay;rw[nC hJ];rfl
theorem afT{d:List bC}{n:Nat}(hn:n<d.length)(h:kK d n=false):ni d=false:=by unfold ni;rw[Ar hn h];rfl
theorem UI:OK wE.e:=by
 refine PA.ok mixed (aC [mY.e,lQ.e] ⟨Ac,zf,trivial⟩) WX abu (show∀d,wE.goal (UY d) (d,())from ?_);intro d hin hp;dsimp only[wE]at hp ⊢;have hp:eU d:=hp;have hlen:d.length<=1000:=hp.1;refine kZ d.length abn (λn=>∀i,i<n->kK d i=true) (λi hi=>abn) (λI μ n hn hJ next=>?_) λI μ hJ=>?_
 .dsimp only;have no:kK d n=false->(false,())=(ni d,()):=λh=>by rw[afT hn h]
  have hq:(dm d n).2.1.length<=2000000:=avx (Ic hp hn) abn;refine fK abn ⟨⟨abn,abn⟩,trivial,af (λh2=>no ?_) λh2=>⟨⟨abn,abn⟩,hq,af (λh3=>no ?_) λh3=>af (λh4=>?_) λh4=>⟨rfl,next (dY hJ ?_)⟩⟩⟩
  .have h2:aW (dm d n).1=false:=iY h2;unfold kK;rw[h2];rfl
  .have h3:ay (dm d n).2.1=false:=iY h3;unfold kK;rw[h3];simp
  .have h2:aW (dm d n).1=true:=fG h2;have h3:ay (dm d n).2.1=true:=fG h3;have h4:0<n:=anb;rw[zh h4 abn];refine⟨⟨abn,abn⟩,⟨abn,abn⟩,af (λh5=>no ?_) λh5=>⟨rfl,next (dY hJ ?_)⟩⟩
   .have h5:Op.bytesLess (dm d (n-1)).1 (dm d n).1=false:=iY h5;unfold kK;rw[h2,h3,h5,avD h4];rfl
   .have h5:Op.bytesLess (dm d (n-1)).1 (dm d n).1=true:=fG h5;unfold kK;rw[h2,h3,h5,avD h4];rfl
  .have h2:aW (dm d n).1=true:=fG h2;have h3:ay (dm d n).2.1=true:=fG h3;have h4:¬0<n:=amU;unfold kK;rw[h2,h3,avH h4];rfl
 .dsimp only;refine fM abn (congrArg (·,()) ?_);unfold ni;rw[nC hJ];rfl
theorem UK:OK wF.e:=by
 refine PA.ok mixed (aC [jf.e,lS.e] ⟨sW,zi,trivial⟩) WY abu (show∀d,wF.goal (UZ d) (d,())from ?_);intro d hin hp;dsimp only[wF]at hp ⊢;have hp:eU d:=hp;have hlen:d.length<=1000:=hp.1;refine kZ d.length abn (λn=>∀i,i<n->kK d i=true) (λi hi=>abn) (λI μ n hn hJ next=>?_) λI μ hJ=>?_
 .dsimp only;have no:kK d n=false->(false,())=(ni d,()):=λh=>by rw[afT hn h]
  have hq:(dm d n).2.1.length<=2000000:=avx (Ic hp hn) abn;refine fK abn ⟨⟨abn,abn⟩,trivial,af (λh2=>no ?_) λh2=>af (λh4=>?_) λh4=>⟨hq,af (λh3=>no ?_) λh3=>⟨rfl,next (dY hJ ?_)⟩⟩⟩
  .have h2:aW (dm d n).1=false:=iY h2;unfold kK;rw[h2];rfl
  .have h2:aW (dm d n).1=true:=fG h2;have h4:0<n:=anb;rw[zh h4 abn];refine⟨⟨abn,abn⟩,af (λh5=>no ?_) λh5=>⟨hq,af (λh3=>no ?_) λh3=>⟨rfl,next (dY hJ ?_)⟩⟩⟩
   .have h5:Op.bytesLess (dm d (n-1)).1 (dm d n).1=false:=iY h5;unfold kK;rw[h5,avD h4];simp
   .have h3:ay (dm d n).2.1=false:=iY h3;unfold kK;rw[h3];simp
   .have h3:ay (dm d n).2.1=true:=fG h3;have h5:Op.bytesLess (dm d (n-1)).1 (dm d n).1=true:=fG h5;unfold kK;rw[h2,h3,h5,avD h4];rfl
  .have h3:ay (dm d n).2.1=false:=iY h3;unfold kK;rw[h3];simp
  .have h2:aW (dm d n).1=true:=fG h2;have h3:ay (dm d n).2.1=true:=fG h3;have h4:¬0<n:=amU;unfold kK;rw[h2,h3,avH h4];rfl
 .dsimp only;refine fM abn (congrArg (·,()) ?_);unfold ni;rw[nC hJ];rfl
end Go.Proofs.Tryz
namespace Go.Proofs.Tryz
open Go Go.Fw Go.IntWalk Sp
theorem afU{S:Type}{B:((Int×Unit)×S->Prop)->((Int×Unit)×S->Nat)->(Int×Unit)×S->Prop}(len:Nat)(hlen:len<=9223372036854775807)(J:Nat->S->Prop){s0:S}(h0:J len s0)
 (hstep:∀I μ(n:Nat)(s:S),n<len->J (n+1) s->(∀s',J n s'->I ((IntKind.i64.wrap ((n:Int)-1),()),s')/\μ ((IntKind.i64.wrap ((n:Int)-1),()),s')<μ (((n:Int),()),s))->B I μ (((n:Int),()),s))
 (hend:∀I μ s,J 0 s->B I μ ((-1,()),s)):∃I,∃μ,I ((IntKind.i64.wrap ((len:Int)-1),()),s0)/\∀y,I y->B I μ y:=by
 have w:∀n:Nat,n<=len->IntKind.i64.wrap ((n:Int)-1)=(n:Int)-1:=λn hn=>fD _ abn;refine⟨λy=>∃(n:Nat)(s:S),y=(((n:Int)-1,()),s)/\n<=len/\J n s,λy=>(y.1.1+1).toNat,⟨len,s0,by rw[w len (avt _)],avt _,h0⟩,?_⟩;rintro _ ⟨n,s,rfl,hn,hJ⟩;cases n with
 |zero=>exact hend _ _ s hJ
 |succ n=>have e:((n+1:Nat):Int)-1=n:=abn;rw[e];refine hstep _ _ n s hn hJ λs' hJ'=>?_;rw[w n abn];refine⟨⟨n,s',rfl,abn,hJ'⟩,?_⟩;show((n:Int)-1+1).toNat<((n:Int)+1).toNat;omega
theorem getD_set_ne{α:Type}(l:List α)(i n:Nat)(x d:α)(h:i≠n):(l.set i x).getD n d=l.getD n d:=by rw[avr,avr,awq h]
theorem Kt{x:ak}{a:Int}(h:dS x a=true)(h2:x.1=5\/x.1=6\/x.1=7):0<=x.2.1/\x.2.1<a:=by obtain⟨x0,x1,x2,x3,x4,x5,x6,_⟩:=x;rw[Kr]at h;rcases h2 with rfl|rfl|rfl<;>simp at h<;>exact⟨h.1.1.1.1,afw⟩
theorem Ku{x:ak}{a:Int}(h:dS x a=true)(h2:x.1=6\/x.1=7):0<=x.2.2.1/\x.2.2.1<a:=by obtain⟨x0,x1,x2,x3,x4,x5,x6,_⟩:=x;rw[Kr]at h;rcases h2 with rfl|rfl<;>simp at h<;>exact⟨h.1.2.1,afw⟩
theorem acV{q:List ak}(h:ay q=true){n:Nat}(hn:n<q.length):dS (Sp.nodeAt q n) n=true:=by unfold ay at h;simp only[avo]at h;have:=OX.1 h.1 n hn;unfold kV at this;simp only[avo]at this;exact this.1
theorem gW{q:List ak}(h:ay q=true):1<=q.length/\q.length<=9:=by unfold ay at h;simp only[avo,avC]at h;omega
theorem Zp{q:List ak}{n:Nat}{out:List (Bool×Unit)}(h:(Sp.nodeAt q n).1=5):jW q n out=out.set (Sp.nodeAt q n).2.1.toNat (true,()):=by unfold jW;simp[h]
theorem Zq{q:List ak}{n:Nat}{out:List (Bool×Unit)}(h:(Sp.nodeAt q n).1=6\/(Sp.nodeAt q n).1=7):jW q n out=(out.set (Sp.nodeAt q n).2.1.toNat ((out.getD n (false,())).1,())).set (Sp.nodeAt q n).2.2.1.toNat ((out.getD n (false,())).1,()):=by unfold jW iZ;rcases h with h|h<;>simp[h]
theorem WZ{q:List ak}{n:Nat}{out:List (Bool×Unit)}(h5:(Sp.nodeAt q n).1≠5)(h6:(Sp.nodeAt q n).1≠6)(h7:(Sp.nodeAt q n).1≠7):jW q n out=out:=by unfold jW iZ;dsimp only;rw[avp.2 h5,avp.2 h6,avp.2 h7];rfl
theorem AQ(q:List ak):∀(n:Nat)(out:List (Bool×Unit)),(iI q n out).length=out.length
 |0,out=>rfl
 |n+1,out=>by
  rw[iI,AQ q n];unfold jW;simp only[cond_eq_ite];split
  .simp
  .split<;>simp
theorem ajR{q:List ak}(h:ay q=true):(Sp.negated q).length=q.length:=by unfold Sp.negated;rw[h];show(iI q _ _).length=_;rw[AQ];simp
theorem SN:OK uS.e:=by
 refine PA.ok mixed (aC [jf.e] ⟨sW,trivial⟩) U2 abu (show∀q,uS.goal (SQ q) (q,())from ?_);intro q hin hp;dsimp only[uS]at hp ⊢;have hp:q.length<=1000:=hp;refine⟨abn,af (λh=>?_) λh=>⟨⟨abn,abn,am7⟩,?_⟩⟩
 .have h:=iY h;unfold Sp.negated;rw[h];rfl
 have hok:=fG h;have hR:Sp.negated q=iI q q.length (List.replicate q.length (false,())):=by unfold Sp.negated;rw[hok];rfl
 refine afU q.length abn (λn(s:List (Bool×Unit)×Unit)=>s.1.length=q.length/\iI q n s.1=Sp.negated q) ⟨acA,hR.symm⟩ (λI μ n s hn hJ next=>?_) λI μ s hJ=>?_
 .obtain⟨out,⟨⟩⟩:=s;obtain⟨hl,hJ⟩:=hJ;have hl:out.length=q.length:=hl;have hJ:iI q n (jW q n out)=Sp.negated q:=hJ;have hk:=acV hok hn;have e:q.getD n (0,0,0,[],0,0,[],())=Sp.nodeAt q n:=rfl;dsimp only;rw[avJ,e];simp only[avZ];refine fK abn ⟨⟨abn,abn⟩,abn,?_⟩;by_cases h5:(Sp.nodeAt q n).1=5
  .have hb:=Kt hk (.inl h5);simp only[h5,Int.reduceBEq,ayt,axO];have fin:iI q n (out.set (Sp.nodeAt q n).2.1.toNat (true,()))=Sp.negated q:=by rw[← Zp h5];exact hJ
   refine af (λ_=>⟨⟨abn,abn⟩,⟨abn,abn⟩,⟨abn,abn⟩,abn,trivial,next _ ⟨asM,fin⟩⟩) λ_=>⟨⟨abn,abn⟩,⟨abn,abn⟩,⟨abn,abn⟩,⟨abn,abn⟩,abn,trivial,next _ ⟨asM,fin⟩⟩
  by_cases Qr:(Sp.nodeAt q n).1=6\/(Sp.nodeAt q n).1=7
  .have hb:=Kt hk (.inr Qr);have hb2:=Ku hk Qr;have fin:∀b,(out.getD n (false,())).1=b->iI q n ((out.set (Sp.nodeAt q n).2.1.toNat (b,())).set (Sp.nodeAt q n).2.2.1.toNat (b,()))=Sp.negated q:=λb hb=>by rw[← hb,← Zq Qr];exact hJ
   rcases Qr with h6|h6
   all_goals
    simp only[h6,Int.reduceBEq,ayt,axO];refine af (λhc=>⟨⟨abn,abn⟩,⟨abn,abn⟩,⟨abn,abn⟩,⟨abn,abn⟩,abn,⟨abn,abn⟩,abn,trivial,next _ ⟨asM,fin true hc⟩⟩) λhc=>⟨⟨abn,abn⟩,⟨abn,abn⟩,⟨abn,abn⟩,⟨abn,abn⟩,⟨abn,abn⟩,abn,⟨abn,abn⟩,abn,trivial,next _ ⟨asM,fin false hc⟩⟩
  .have h6:(Sp.nodeAt q n).1≠6:=λh=>Qr (.inl h);have h7:(Sp.nodeAt q n).1≠7:=λh=>Qr (.inr h);have fin:iI q n out=Sp.negated q:=by rw[WZ h5 h6 h7]at hJ;exact hJ
   simp only[avp.2 h5,avp.2 h6,avp.2 h7,axO];exact af (λ_=>⟨⟨abn,abn⟩,rfl,next _ ⟨hl,fin⟩⟩) λ_=>⟨⟨abn,abn⟩,⟨abn,abn⟩,rfl,next _ ⟨hl,fin⟩⟩
 .obtain⟨out,⟨⟩⟩:=s;obtain⟨hl,hJ⟩:=hJ;dsimp only;refine fM abn ?_;have hJ:out=Sp.negated q:=hJ;rw[hJ]
theorem SS:OK uQ.e:=by
 refine PA.ok mixed (aC [mY.e] ⟨Ac,trivial⟩) U3 abu (show∀q,uQ.goal (SX q) (q,())from ?_);intro q hin hp;dsimp only[uQ]at hp ⊢;have hp:q.length<=1000:=hp;refine⟨abn,af (λh=>?_) λh=>⟨⟨abn,abn,am7⟩,?_⟩⟩
 .have h:=iY h;unfold Sp.negated;rw[h];rfl
 have hok:=fG h;have hR:Sp.negated q=iI q q.length (List.replicate q.length (false,())):=by unfold Sp.negated;rw[hok];rfl
 refine afU q.length abn (λn(s:List (Bool×Unit)×Unit)=>s.1.length=q.length/\iI q n s.1=Sp.negated q) ⟨acA,hR.symm⟩ (λI μ n s hn hJ next=>?_) λI μ s hJ=>?_
 .obtain⟨out,⟨⟩⟩:=s;obtain⟨hl,hJ⟩:=hJ;have hl:out.length=q.length:=hl;have hJ:iI q n (jW q n out)=Sp.negated q:=hJ;have hk:=acV hok hn;have e:q.getD n (0,0,0,[],0,0,[],())=Sp.nodeAt q n:=rfl;dsimp only;rw[avJ,e];simp only[avZ];refine fK abn ⟨⟨abn,abn⟩,?_⟩;by_cases h5:(Sp.nodeAt q n).1=5
  .have hb:=Kt hk (.inl h5);simp only[h5,Int.reduceBEq,ayt,axO];have fin:iI q n (out.set (Sp.nodeAt q n).2.1.toNat (true,()))=Sp.negated q:=by rw[← Zp h5];exact hJ
   exact⟨⟨abn,abn⟩,abn,trivial,next _ ⟨asM,fin⟩⟩
  by_cases Qr:(Sp.nodeAt q n).1=6\/(Sp.nodeAt q n).1=7
  .have hb:=Kt hk (.inr Qr);have hb2:=Ku hk Qr;have hne:(Sp.nodeAt q n).2.1.toNat≠n:=abn;have fin:iI q n ((out.set (Sp.nodeAt q n).2.1.toNat ((out.getD n (false,())).1,())).set (Sp.nodeAt q n).2.2.1.toNat ((out.getD n (false,())).1,()))=Sp.negated q:=by rw[← Zq Qr];exact hJ
   rcases Qr with h6|h6
   all_goals
    simp only[h6,Int.reduceBEq,ayt,axO,getD_set_ne _ _ _ _ _ hne];exact⟨⟨abn,abn⟩,abn,⟨abn,abn⟩,abn,⟨abn,abn⟩,abn,⟨abn,abn⟩,abn,trivial,next _ ⟨asM,fin⟩⟩
  .have h6:(Sp.nodeAt q n).1≠6:=λh=>Qr (.inl h);have h7:(Sp.nodeAt q n).1≠7:=λh=>Qr (.inr h);have fin:iI q n out=Sp.negated q:=by rw[WZ h5 h6 h7]at hJ;exact hJ
   simp only[avp.2 h5,avp.2 h6,avp.2 h7,axO];exact⟨rfl,next _ ⟨hl,fin⟩⟩
 .obtain⟨out,⟨⟩⟩:=s;obtain⟨hl,hJ⟩:=hJ;dsimp only;refine fM abn ?_;have hJ:out=Sp.negated q:=hJ;rw[hJ]
end Go.Proofs.Tryz
namespace Go.Proofs.Tryz
open Go Go.Fw Go.IntWalk Sp
def ae3(q:List ak)(neg:Bool)(i:Nat):Option Sp.Bytes:=bif pF (Sp.nodeAt q i)&&((Sp.negated q).getD i (false,())).1==neg then some (Sp.nodeAt q i).2.2.2.1 else none
def CG(q:List ak)(neg:Bool)(n:Nat):List Sp.Bytes:=(List.range n).filterMap (ae3 q neg)
theorem xg(q:List ak)(neg:Bool):CG q neg (Sp.negated q).length=dV q neg:=rfl
theorem ade{q:List ak}{neg:Bool}{n:Nat}(h1:pF (Sp.nodeAt q n)=true)(h2:((Sp.negated q).getD n (false,())).1=neg):CG q neg (n+1)=CG q neg n++[(Sp.nodeAt q n).2.2.2.1]:=by
 unfold CG;rw[axW,List.filterMap_append];congr 1;show List.filterMap _ [n]=_;rw[List.filterMap_cons];have:ae3 q neg n=some (Sp.nodeAt q n).2.2.2.1:=by unfold ae3;rw[h1,h2];simp
 rw[this];rfl
theorem Oi{q:List ak}{neg:Bool}{n:Nat}(h:¬(pF (Sp.nodeAt q n)=true/\((Sp.negated q).getD n (false,())).1=neg)):CG q neg (n+1)=CG q neg n:=by
 unfold CG;rw[axW,List.filterMap_append];have:ae3 q neg n=none:=by
  unfold ae3;have:(pF (Sp.nodeAt q n)&&((Sp.negated q).getD n (false,())).1==neg)=false:=by rw[ayx];intro h';rw[avo,avS]at h';exact h h'
  rw[this];rfl
 rw[List.filterMap_cons,this];simp
theorem xk(q:List ak)(neg:Bool)(n:Nat):(CG q neg n).length<=n:=by have:=List.length_filterMap_le (ae3 q neg) (List.range n);rw[List.length_range]at this;exact this
theorem xq(q:List ak):(Sp.negated q).length<=q.length:=by
 cases h:ay q with
 |true=>rw[ajR h];exact avt _
 |false=>unfold Sp.negated;rw[h];exact avM _
theorem JK:OK uh.e:=by
 refine XA.ok mixed (aC [(Dx,.eff (DT qM) A8),Bl.e,uS.e] ⟨⟨V8,UB⟩,aaV,SN,trivial⟩) aa3 (λ⟨q,neg,_⟩ hp=>⟨((((dV q neg).map λs=>(s,()),()),())),⟨by show((dV q neg).map _).length<=1000;rw[avI];have:=xk q neg (Sp.negated q).length;have:=xq q;have hp:q.length<=1000:=hp;rw[xg]at*;omega,λs=>by show(s,())∈(dV q neg).map _↔_;simp⟩⟩) abu (show∀q negated,uh.goal (YS q negated) (q,negated,())from ?_);intro q neg hin hp;dsimp only[uh]at hp ⊢;have hp:q.length<=1000:=hp;have hnl:=xq q;refine⟨hp,?_⟩;refine gU (λi(x:Sp.LS)=>(((),i,()),x,())) (λy=>y.1.2.1) (λ_ _=>rfl) (Sp.negated q).length abn (λn l=>l=(CG q neg n).map λs=>(s,())) rfl (λI μ n l hn hJ next=>?_) λI μ l hJ=>?_
 .subst hJ;have hl:=xk q neg n;dsimp only;refine fK abn ⟨⟨abn,abn⟩,⟨abn,abn⟩,trivial,af (λh1=>af (λh2=>⟨⟨abn,abn⟩,?_,rfl,next _ ?_⟩) λh2=>⟨rfl,next _ ?_⟩) λh1=>⟨rfl,next _ ?_⟩⟩
  .rw[iH];simp only[avq,avu,avI];omega
  .rw[ade (show pF (Sp.nodeAt q n)=true from h1) (avS.1 h2),aws];rfl
  .rw[Oi λh=>by have h2:=avp.1 h2;exact h2 h.2]
  .rw[Oi λh=>by have h1:pF (Sp.nodeAt q n)=false:=h1;rw[h1]at h;cases h.1]
 .subst hJ;have hl:=xk q neg (Sp.negated q).length;rw[xg]at hl ⊢;dsimp only;refine fM abn ⟨by rw[avI];omega,?_⟩;rintro⟨⟨r,⟨⟩⟩,⟨⟩⟩ ⟨h1,h2⟩;have h1:r.length<=((dV q neg).map λs=>(s,())).length:=h1;rw[avI]at h1;refine⟨by show r.length<=1000;omega,λs=>?_⟩;have:=h2 (s,());show(s,())∈r↔_;rw[this];simp
theorem RV:OK uT.e:=by refine XA.ok mixed (aC [uh.e] ⟨JK,trivial⟩) H0 (λ⟨q,_⟩ hp=>⟨((((dV q false).map λs=>(s,()),()),())),⟨by show((dV q false).map _).length<=1000;rw[avI];have:=xk q false (Sp.negated q).length;have:=xq q;have hp:q.length<=1000:=hp;rw[xg]at*;omega,λs=>by show(s,())∈(dV q false).map _↔_;simp⟩⟩) abu (show∀q,uT.goal (Tj q) (q,())from ?_);intro q hin hp;dsimp only[uT]at hp ⊢;exact⟨hp,λr hr=>hr⟩
theorem RU:OK uU.e:=by refine XA.ok mixed (aC [uh.e] ⟨JK,trivial⟩) H0 (λ⟨q,_⟩ hp=>⟨((((dV q true).map λs=>(s,()),()),())),⟨by show((dV q true).map _).length<=1000;rw[avI];have:=xk q true (Sp.negated q).length;have:=xq q;have hp:q.length<=1000:=hp;rw[xg]at*;omega,λs=>by show(s,())∈(dV q true).map _↔_;simp⟩⟩) abu (show∀q,uU.goal (Tm q) (q,())from ?_);intro q hin hp;dsimp only[uU]at hp ⊢;exact⟨hp,λr hr=>hr⟩
theorem akG{l:Sp.LS}{s:Sp.Bytes}{m:Nat}(hm:m<=l.length)(h1:∀i,i<m->Op.bytesLess (l.getD i ([],())).1 s=true)(h2:m<l.length->Op.bytesLess (l.getD m ([],())).1 s=false):
 Ot l s=bif decide (m<l.length)&&(l.getD m ([],())).1==s then l else l.take m++[(s,())]++l.drop m:=by
 obtain⟨e1,_⟩:=LQ (d:=(([]:List UInt8),())) l m hm (p:=λx=>Op.bytesLess x.1 s) h1 h2;unfold Ot;rw[e1];have:(l.take m).length=m:=aiO;rw[this]
theorem aoK{l:Sp.LS}{s:Sp.Bytes}(x:Sp.Bytes×Unit):x∈Ot l s↔x=(s,())\/x∈l:=by
 unfold Ot;dsimp only;generalize (l.takeWhile λx=>Op.bytesLess x.1 s).length=n;cases h:decide (n<l.length)&&(l.getD n ([],())).1==s with
 |true=>
  rw[avo,avS]at h;refine⟨.inr,λhx=>?_⟩;rcases hx with rfl|hx
  .have:=getD_mem (d:=(([]:List UInt8),())) (fB h.1);rw[show l.getD n ([],())=(s,())from ayE h.2 rfl]at this;exact this
  .exact hx
 |false=>
  show x∈l.take n++[(s,())]++l.drop n↔_;rw[avR,avR,avP]
  conv=>rhs;rw[← axa n l,avR]
  constructor
  .rintro((h|h)|h)
   .exact .inr (.inl h)
   .exact .inl h
   .exact .inr (.inr h)
  .rintro(h|h|h)
   .exact .inl (.inr h)
   .exact .inl (.inl h)
   .exact .inr h
theorem aoL(l:Sp.LS)(s:Sp.Bytes):(Ot l s).length<=l.length+1:=by
 unfold Ot;dsimp only;generalize (l.takeWhile λx=>Op.bytesLess x.1 s).length=n;cases decide (n<l.length)&&(l.getD n ([],())).1==s with
 |true=>exact Nat.le_succ _
 |false=>show(l.take n++[(s,())]++l.drop n).length<=_;simp;omega
theorem ae4:OK Es.e:=by
 refine PA.ok mixed (aC [] trivial) agP abu (show∀list s,Es.goal (ae5 list s) (list,s,())from ?_);intro l s hin hp;dsimp only[Es]at hp ⊢;have hp:l.length<=1000:=hp;have fin:∀m:Nat,m<=l.length->Ot l s=l.take m++[(s,())]++l.drop m->((0:Int)<=m/\(m:Int)<=l.length)/\0+(List.drop 0 (List.take m l)).length<=big/\(List.drop 0 (List.take m l)).length+[(s,())].length<=big/\((0:Int)<=m/\(m:Int)<=l.length)/\
  (List.drop 0 (List.take m l)++[(s,())]).length+(List.drop m (List.take l.length l)).length<=big/\(List.drop 0 (List.take m l)++[(s,())]++List.drop m (List.take l.length l),())=(Ot l s,()):=by
  intro m hm h;refine⟨⟨abn,abn⟩,?_,?_,⟨abn,abn⟩,?_,?_⟩
  .rw[iH];simp only[avW,avz];omega
  .rw[iH];simp only[avW,avz,avq,avu];omega
  .rw[iH];simp only[avn,avW,avz,avq,avu];omega
  .rw[h,awE,axb]
 refine kZ l.length abn (λn=>∀i,i<n->Op.bytesLess (l.getD i ([],())).1 s=true) (λi hi=>abn) (λI μ n hn hJ next=>?_) λI μ hJ=>?_
 .dsimp only;refine fK abn ⟨⟨abn,abn⟩,af (λh=>⟨rfl,next (dY (f:=λi=>Op.bytesLess (l.getD i ([],())).1 s) hJ h)⟩) λh=>fK abn ⟨⟨abn,abn⟩,?_⟩⟩;have e:=akG (aym hn) hJ λ_=>h;rw[avD hn,axj]at e;refine af (λh2=>?_) λh2=>fin n (aym hn) ?_
  .rw[show((l.getD n ([],())).1==s)=true from h2]at e;rw[e];rfl
  .rw[show((l.getD n ([],())).1==s)=false from h2]at e;exact e
 .dsimp only;refine fM abn (fM abn (fin l.length (avt _) ?_));have e:=akG (avt _) hJ λh=>abn;rw[avH abn]at e;exact e
theorem anv(x:ak):pF x=(decide (8<=x.1)&&decide (x.1<=9)):=by unfold pF;rw[av3];simp;omega
theorem MB:OK wG.e:=by
 refine XA.ok mixed (aC [Es.e,ja.e,uQ.e] ⟨ae4,kz,SS,trivial⟩) adf (λ⟨q,neg,_⟩ hp=>⟨((((dV q neg).map λs=>(s,()),()),())),⟨by show((dV q neg).map _).length<=1000;rw[avI];have:=xk q neg (Sp.negated q).length;have:=xq q;have hp:q.length<=1000:=hp;rw[xg]at*;omega,λs=>by show(s,())∈(dV q neg).map _↔_;simp⟩⟩) abu (show∀q under,wG.goal (aa4 q under) (q,under,())from ?_);intro q neg hin hp;dsimp only[wG]at hp ⊢;have hp:q.length<=1000:=hp;have hnl:=xq q;refine⟨hp,?_⟩;refine gU (λi(x:Sp.LS)=>((x,i,()),())) (λy=>y.1.2.1) (λ_ _=>rfl) (Sp.negated q).length abn (λn l=>l.length<=n/\∀s,(s,())∈l↔s∈CG q neg n) ⟨avt _,λs=>by simp[CG]⟩ (λI μ n l hn hJ next=>?_) λI μ l hJ=>?_
 .obtain⟨hl,hJ⟩:=hJ;dsimp only;have hnm:=anv (Sp.nodeAt q n);refine fK abn ⟨⟨abn,abn⟩,trivial,af (λh1=>⟨⟨abn,abn⟩,af (λh2=>⟨⟨abn,abn⟩,abn,rfl,next _ ?_⟩) λh2=>⟨rfl,next _ ⟨abn,?_⟩⟩⟩) λh1=>⟨rfl,next _ ⟨abn,?_⟩⟩⟩
  .have h1:(decide (8<=(Sp.nodeAt q n).1)&&decide ((Sp.nodeAt q n).1<=9))=true:=h1;rw[ade (hnm.trans h1) (avS.1 h2)];refine⟨avx (aoL _ _) abn,λs=>?_⟩;rw[aoK,avR,avP,hJ,Prod.mk.injEq];constructor
   .rintro(⟨h,_⟩|h)
    .exact .inr h
    .exact .inl h
   .rintro(h|h)
    .exact .inr h
    .exact .inl ⟨h,rfl⟩
  .rw[Oi λh=>by have h2:=avp.1 h2;exact h2 h.2];exact hJ
  .rw[Oi λh=>by have h1:(decide (8<=(Sp.nodeAt q n).1)&&decide ((Sp.nodeAt q n).1<=9))=false:=h1;rw[hnm,h1]at h;cases h.1];exact hJ
 .obtain⟨hl,hJ⟩:=hJ;rw[xg]at hJ;dsimp only;exact fM abn ⟨am7,by show l.length<=1000;omega,hJ⟩
theorem Tn:OK uV.e:=by refine XA.ok mixed (aC [wG.e] ⟨MB,trivial⟩) H0 (λ⟨q,_⟩ hp=>⟨((((dV q false).map λs=>(s,()),()),())),⟨by show((dV q false).map _).length<=1000;rw[avI];have:=xk q false (Sp.negated q).length;have:=xq q;have hp:q.length<=1000:=hp;rw[xg]at*;omega,λs=>by show(s,())∈(dV q false).map _↔_;simp⟩⟩) abu (show∀q,uV.goal (Tq q) (q,())from ?_);intro q hin hp;dsimp only[uV]at hp ⊢;exact⟨hp,λr hr=>hr⟩
theorem Tt:OK uX.e:=by refine XA.ok mixed (aC [wG.e] ⟨MB,trivial⟩) H0 (λ⟨q,_⟩ hp=>⟨((((dV q true).map λs=>(s,()),()),())),⟨by show((dV q true).map _).length<=1000;rw[avI];have:=xk q true (Sp.negated q).length;have:=xq q;have hp:q.length<=1000:=hp;rw[xg]at*;omega,λs=>by show(s,())∈(dV q true).map _↔_;simp⟩⟩) abu (show∀q,uX.goal (Tv q) (q,())from ?_);intro q hin hp;dsimp only[uX]at hp ⊢;exact⟨hp,λr hr=>hr⟩
end Go.Proofs.Tryz
namespace Go.Proofs.Tryz
open Go Go.Fw Go.IntWalk Sp
theorem Oj:OK yL.e:=by refine PA.ok mixed (aC [] trivial) H0 abu (show∀x0 x1 p10,yL.goal (adg x0 x1 p10) ((x0,x1,()),(p10,()),())from ?_);intro x0 x1 p hin hp;dsimp only[yL]at hp ⊢;exact rfl
theorem LK{d:List bC}{s:Sp.Bytes}{n:Nat}(hn:n<d.length)(h1:(dm d n).1=s)(h2:∀i,i<n->(dm d i).1≠s):aF d s=n:=by
 rcases Ii d s with⟨_,h⟩|⟨m,g1,g2,g3,g4⟩
 .exact(h _ (getD_mem (d:=(([]:List UInt8),([]:List ak),())) hn) h1).elim
 .have:m=n:=by
   rcases Nat.lt_trichotomy m n with h|h|h
   .exact(h2 m h g3).elim
   .exact h
   .exact(g4 n h h1).elim
  rw[g2,this]
theorem aiT{d:List bC}{s:Sp.Bytes}(h2:∀i,i<d.length->(dm d i).1≠s):aF d s=-1:=by
 rcases Ii d s with⟨h,_⟩|⟨m,g1,_,g3,_⟩
 .exact h
 .exact(h2 m g1 g3).elim
theorem zl:OK iF.e:=by
 refine PA.ok mixed (aC [yL.e] ⟨Oj,trivial⟩) zx abu (show∀s aiU,iF.goal (zn s aiU) (s,((aiU,()),()),())from ?_);intro d s hin hp;dsimp only[iF]at hp ⊢;have hlen:d.length<=maxLen:=hin.1.1;rw[maxLen_eq]at hlen;refine kZ d.length hlen (λn=>∀i,i<n->(dm d i).1≠s) (λi hi=>abn) (λI μ n hn hJ next=>?_) λI μ hJ=>?_
 .dsimp only;refine fK abn ⟨⟨abn,abn⟩,trivial,af (λh=>?_) λh=>⟨rfl,next λi hi=>?_⟩⟩
  .rw[LK hn (avS.1 h) hJ]
  .rcases avN i n with h'|h'
   .exact hJ i h'
   .have:i=n:=abn;rw[this];exact avp.1 h
 .dsimp only;refine fM abn ?_;rw[aiT hJ]
theorem agQ:OK FM.e:=by refine PA.ok mixed (aC [iF.e,yL.e] ⟨zl,Oj,trivial⟩) H0 abu (show∀d name,FM.goal (agR d name) (d,name,())from ?_);intro d s hin hp;dsimp only[FM]at hp ⊢;exact⟨trivial,rfl⟩
theorem aa5:OK Bo.e:=by
 refine PA.ok mixed (aC [] trivial) adh abu (show∀d name,Bo.goal (aa6 d name) (d,name,())from ?_);intro d s hin hp;dsimp only[Bo]at hp ⊢;have hlen:d.length<=maxLen:=hin.1.1;rw[maxLen_eq]at hlen;refine kZ d.length hlen (λn=>∀i,i<n->(dm d i).1≠s) (λi hi=>abn) (λI μ n hn hJ next=>?_) λI μ hJ=>?_
 .dsimp only;refine fK abn ⟨⟨abn,abn⟩,af (λh=>?_) λh=>⟨rfl,next λi hi=>?_⟩⟩
  .rw[LK hn (avS.1 h) hJ]
  .rcases avN i n with h'|h'
   .exact hJ i h'
   .have:i=n:=abn;rw[this];exact avp.1 h
 .dsimp only;refine fM abn ?_;rw[aiT hJ]
theorem UJ:OK wH.e:=by
 refine PA.ok mixed (aC [FM.e] ⟨agQ,trivial⟩) Xm abu (show∀d GN names more,wH.goal (Vd d GN names more) (d,GN,names,more,())from ?_);intro d aK names more hin hp;dsimp only[wH]at hp ⊢;obtain⟨h1,h2,h3,h4,h5⟩:d.length<=aK.length/\names.length<=1000/\0<=more/\more<=1/\∀x∈aK,0<=x.1/\x.1<=1000000:=hp;refine gU (λi(c:Int)=>((c,i,()),())) (λy=>y.1.2.1) (λ_ _=>rfl) names.length abn (λn c=>∀B,c<=B↔0<=B/\∀x∈names.take n,0<=aF d x.1->Sp.lv aK (aF d x.1).toNat+more<=B) (λB=>acA) (λI μ n c hn hJ next=>?_) λI μ c hJ=>?_
 .dsimp only;rw[avJ];have e:=Sp.take_succ' names n ([],()) hn;refine fK abn ⟨⟨abn,abn⟩,trivial,af (λh=>?_) λh=>⟨rfl,next _ λB=>?_⟩⟩
  .have h:0<=aF d (names.getD n ([],())).1:=fB h;have hlt:=IA h;have hb:=h5 _ (aiV (l:=aK) (i:=(aF d (names.getD n ([],())).1).toNat) abn);dsimp only at hb;have hw:IntKind.i64.wrap (Sp.lv aK (aF d (names.getD n ([],())).1).toNat+more)=Sp.lv aK (aF d (names.getD n ([],())).1).toNat+more:=fD _ abn;have e2:(aK.getD (aF d (names.getD n ([],())).1).toNat (0,())).1=Sp.lv aK (aF d (names.getD n ([],())).1).toNat:=rfl;refine⟨⟨h,abn⟩,rfl,next _ λB=>?_⟩;rw[e2,hw,e];simp only[avR,avP];have:=hJ B;constructor
   .intro hB;have hc:c<=B:=by split at hB<;>omega
    have hv:Sp.lv aK (aF d (names.getD n ([],())).1).toNat+more<=B:=by split at hB<;>omega
    obtain⟨a,b⟩:=this.1 hc;refine⟨a,λx hx hx0=>?_⟩;rcases hx with hx|rfl
    .exact b x hx hx0
    .exact hv
   .rintro⟨a,b⟩;have hc:=this.2 ⟨a,λx hx=>b x (.inl hx)⟩;have hv:=b _ (.inr rfl) h;split<;>omega
  .have h:¬0<=aF d (names.getD n ([],())).1:=fO h;rw[hJ B,e];simp only[avR,avP];constructor
   .rintro⟨a,b⟩;refine⟨a,λx hx hx0=>?_⟩;rcases hx with hx|rfl
    .exact b x hx hx0
    .exact(h hx0).elim
   .exactλ⟨a,b⟩=>⟨a,λx hx=>b x (.inl hx)⟩
 .dsimp only;refine fM abn (congrArg (·,()) ?_);rw[awE]at hJ;have h6:=λB=>(hJ B).trans (Fj (d:=d) (aK:=aK) (more:=more) names B).symm;have a:=(h6 c).1 (awk _);have b:=(h6 (wI d aK more names)).2 (awk _);omega
end Go.Proofs.Tryz
namespace Go.Proofs.Tryz
open Go Go.Fw Go.IntWalk Sp
theorem afY{d:List bC}{i:Nat}(hi:i<d.length){neg:Bool}{r:Sp.LS}(hr:jg r (dV (dm d i).2.1 neg)){p:Nat}(hp:p<r.length)(h0:0<=aF d (r.getD p ([],())).1):
 (i,(aF d (r.getD p ([],())).1).toNat,if neg then 1 else 0)∈dn d:=by
 have hm:=getD_mem (d:=(([]:List UInt8),())) hp;have:=(hr.2 (r.getD p ([],())).1).1 hm;cases neg with
 |false=>exact Fp.2 ⟨hi,_,.inl ⟨rfl,this⟩,h0,rfl⟩
 |true=>exact Fp.2 ⟨hi,_,.inr ⟨rfl,this⟩,h0,rfl⟩
theorem NY{d:List bC}{i j m:Nat}{neg:Bool}{r:Sp.LS}(hr:jg r (dV (dm d i).2.1 neg))(he:(i,j,m)∈dn d)(hm:m=if neg then 1 else 0):
 ∃p,p<r.length/\0<=aF d (r.getD p ([],())).1/\j=(aF d (r.getD p ([],())).1).toNat:=by
 obtain⟨_,s,h2,h3,h4⟩:=Fp.1 he;have hs:s∈dV (dm d i).2.1 neg:=by
  cases neg with
  |false=>rcases h2 with⟨_,h⟩|⟨h,_⟩;exact h;simp at hm;omega
  |true=>rcases h2 with⟨h,_⟩|⟨_,h⟩;simp at hm;omega;exact h
 have hm:=(hr.2 s).2 hs;obtain⟨p,hp,e⟩:=awS hm;have e2:r.getD p ([],())=(s,()):=by rw[avr,avv hp,e];rfl
 exact⟨p,hp,by rw[e2];exact h3,by rw[e2];exact h4⟩
theorem anw:∀x,(qY.F x).1->∃t,(qY.F x).2 t:=by rintro⟨d,aK,_⟩ hp;obtain⟨_,_,h3,h4⟩:eU d/\d.length<=5/\aK.length=d.length/\∀x∈aK,0<=x.1/\x.1<=1000000:=hp;obtain⟨r,hr⟩:=ajW d aK h3 λi hi=>(h4 _ (aiV abn)).1;exact⟨((r,()),()),hr⟩
theorem aaC:OK qY.e:=by
 refine XA.ok mixed (aC [uX.e,Bo.e,uV.e] ⟨Tt,aa5,Tn,trivial⟩) adi (anw) abu (show∀d aK,qY.goal (aa7 d aK) (d,aK,())from ?_);intro d aK hin hp;dsimp only[qY]at hp ⊢;obtain⟨h1,h2,h3,h4⟩:eU d/\d.length<=5/\aK.length=d.length/\∀x∈aK,0<=x.1/\x.1<=1000000:=hp;have h0:∀i,i<d.length->0<=Sp.lv aK i/\Sp.lv aK i<=1000000:=λi hi=>h4 _ (aiV abn);have hB:∀i,i<d.length->Sp.lv aK i<=1000000:=λi hi=>(h0 i hi).2;refine⟨am7,?_⟩;refine gU (λi(x:List (Int×Unit))=>((i,()),x,())) (λy=>y.1.1) (λ_ _=>rfl) d.length abn (λi cur=>Hw d aK cur (1000*i) λe=>e∈dn d/\e.1<i) ((Hw.start h3).weaken abn λe he=>by have:=he.2;omega) (λI μ i cur hi hJ next=>?_) λI μ cur hJ=>?_
 .dsimp only;rw[avJ];refine fK abn ⟨⟨abn,abn⟩,Ic h1 hi,?_⟩;rintro⟨⟨r,⟨⟩⟩,⟨⟩⟩ hr;have hr:jg r (dV (dm d i).2.1 false):=hr;have hrl:r.length<=1000:=hr.1;refine gU (λi(x:List (Int×Unit))=>((i,()),x,())) (λy=>y.1.1) (λ_ _=>rfl) r.length abn (λp cur=>Hw d aK cur (1000*i) λe=>e∈dn d/\(e.1<i\/(e.1=i/\e.2.2=0/\∃p',p'<p/\e.2.1=(aF d (r.getD p' ([],())).1).toNat/\0<=aF d (r.getD p' ([],())).1))) (hJ.weaken (awk _) λe he=>⟨he.1,by rcases he.2 with h|⟨_,_,_,h,_⟩;exact h;omega⟩) (λI1 μ1 p cur hp hJ alZ=>?_) λI1 μ1 cur hJ=>?_
  .dsimp only;rw[avJ];have hl:=hJ.len;have hP:∀e:Nat×Nat×Nat,(e∈dn d/\(e.1<i\/(e.1=i/\e.2.2=0/\∃p',p'<p+1/\e.2.1=(aF d (r.getD p' ([],())).1).toNat/\0<=aF d (r.getD p' ([],())).1)))->
    (e∈dn d/\(e.1<i\/(e.1=i/\e.2.2=0/\∃p',p'<p/\e.2.1=(aF d (r.getD p' ([],())).1).toNat/\0<=aF d (r.getD p' ([],())).1)))\/(e=(i,(aF d (r.getD p ([],())).1).toNat,0)/\0<=aF d (r.getD p ([],())).1):=by
    rintro⟨a,b,c⟩ ⟨he,h|⟨h,h5,p',h6,h7,h8⟩⟩
    .exact .inl ⟨he,.inl h⟩
    .by_cases hpp:p'=p
     .subst hpp;have h:a=i:=h;have h5:c=0:=h5;have h7:b=(aF d (r.getD p' ([],())).1).toNat:=h7;exact .inr ⟨by rw[h,h5,h7],h8⟩
     .exact .inl ⟨he,.inr ⟨h,h5,p',abn,h7,h8⟩⟩
   refine fK abn ⟨⟨abn,abn⟩,trivial,af (λh=>?_) λh=>⟨rfl,alZ _ (hJ.weaken (awk _) λe he=>?_)⟩⟩
   .have h:0<=aF d (r.getD p ([],())).1:=fB h;have hlt:=IA h;have he:=afY hi hr hp h;refine⟨⟨h,abn⟩,abn,⟨abn,abn⟩,abn,af (λhc=>⟨⟨h,abn⟩,abn,⟨abn,abn⟩,abn,rfl,alZ _ ?_⟩) λhc=>⟨rfl,alZ _ ?_⟩⟩
    .have hc:Sp.lv cur i<Sp.lv cur (aF d (r.getD p ([],())).1).toNat:=fB hc;have:=hJ.set he (by show _<_+((0:Nat):Int);omega);have e0:Sp.lv cur (aF d (r.getD p ([],())).1).toNat+((if false=true then 1 else 0:Nat):Int)=Sp.lv cur (aF d (r.getD p ([],())).1).toNat:=by show _+((0:Nat):Int)=_;omega
     rw[e0]at this;exact this.weaken (by show 1000*(i:Int)+((0:Nat):Int)<=_;omega) λe he=>(hP e he).imp_right λh=>h.1
    .have hc:¬Sp.lv cur i<Sp.lv cur (aF d (r.getD p ([],())).1).toNat:=fO hc;have:=hJ.still he (by show _+((0:Nat):Int)<=_;omega);exact this.weaken (awk _) λe he=>(hP e he).imp_right λh=>h.1
   .have h:¬0<=aF d (r.getD p ([],())).1:=fO h;rcases hP e he with h'|h'
    .exact h'
    .exact(h h'.2).elim
  .dsimp only;have hJ2:Hw d aK cur (1000*i) λe=>e∈dn d/\(e.1<i\/(e.1=i/\e.2.2=0)):=hJ.weaken (awk _) λe he=>⟨he.1,he.2.imp_right λh=>⟨h.1,h.2,by obtain⟨a,b,c⟩:=e;obtain⟨he,_⟩:=he;obtain⟨h,h5⟩:=h;have h:a=i:=h;have h5:c=0:=h5;subst h h5;obtain⟨p,q1,q2,q3⟩:=NY hr he rfl;exact⟨p,q1,q3,q2⟩⟩⟩;clear hJ;refine fM abn ⟨⟨abn,abn⟩,Ic h1 hi,?_⟩;rintro⟨⟨r2,⟨⟩⟩,⟨⟩⟩ hr2;have hr2:jg r2 (dV (dm d i).2.1 true):=hr2;have hrl2:r2.length<=1000:=hr2.1;refine gU (λi(x:List (Int×Unit))=>((i,()),x,())) (λy=>y.1.1) (λ_ _=>rfl) r2.length abn (λp cur=>Hw d aK cur (1000*i+p) λe=>e∈dn d/\(e.1<i\/(e.1=i/\e.2.2=0)\/(e.1=i/\e.2.2=1/\∃p',p'<p/\e.2.1=(aF d (r2.getD p' ([],())).1).toNat/\0<=aF d (r2.getD p' ([],())).1))) (hJ2.weaken abn λe he=>⟨he.1,by rcases he.2 with h|h|⟨_,_,_,h,_⟩;exact .inl h;exact .inr h;omega⟩) (λI2 μ2 p cur hp hJ al0=>?_) λI2 μ2 cur hJ=>?_
   .dsimp only;rw[avJ];have hl:=hJ.len;have hP:∀e:Nat×Nat×Nat,(e∈dn d/\(e.1<i\/(e.1=i/\e.2.2=0)\/(e.1=i/\e.2.2=1/\∃p',p'<p+1/\e.2.1=(aF d (r2.getD p' ([],())).1).toNat/\0<=aF d (r2.getD p' ([],())).1)))->
     (e∈dn d/\(e.1<i\/(e.1=i/\e.2.2=0)\/(e.1=i/\e.2.2=1/\∃p',p'<p/\e.2.1=(aF d (r2.getD p' ([],())).1).toNat/\0<=aF d (r2.getD p' ([],())).1)))\/(e=(i,(aF d (r2.getD p ([],())).1).toNat,1)/\0<=aF d (r2.getD p ([],())).1):=by
     rintro⟨a,b,c⟩ ⟨he,h|h|⟨h,h5,p',h6,h7,h8⟩⟩
     .exact .inl ⟨he,.inl h⟩
     .exact .inl ⟨he,.inr (.inl h)⟩
     .by_cases hpp:p'=p
      .subst hpp;have h:a=i:=h;have h5:c=1:=h5;have h7:b=(aF d (r2.getD p' ([],())).1).toNat:=h7;exact .inr ⟨by rw[h,h5,h7],h8⟩
      .exact .inl ⟨he,.inr (.inr ⟨h,h5,p',abn,h7,h8⟩)⟩
    refine fK abn ⟨⟨abn,abn⟩,trivial,af (λh=>?_) λh=>⟨rfl,al0 _ (hJ.weaken abn λe he=>?_)⟩⟩
    .have h:0<=aF d (r2.getD p ([],())).1:=fB h;have hlt:=IA h;have he:=afY hi hr2 hp h;have hg:=hJ.grow 1000000 hB (aF d (r2.getD p ([],())).1).toNat abn;have hu:=hJ.up (aF d (r2.getD p ([],())).1).toNat abn;have hz:=(h0 (aF d (r2.getD p ([],())).1).toNat abn).1;have hw:IntKind.i64.wrap (Sp.lv cur (aF d (r2.getD p ([],())).1).toNat+1)=Sp.lv cur (aF d (r2.getD p ([],())).1).toNat+1:=fD _ abn;have e2:(cur.getD (aF d (r2.getD p ([],())).1).toNat (0,())).1=Sp.lv cur (aF d (r2.getD p ([],())).1).toNat:=rfl;rw[e2,hw];refine⟨⟨h,abn⟩,abn,⟨abn,abn⟩,abn,af (λhc=>⟨⟨h,abn⟩,abn,⟨abn,abn⟩,abn,rfl,al0 _ ?_⟩) λhc=>⟨rfl,al0 _ ?_⟩⟩
     .have hc:Sp.lv cur i<Sp.lv cur (aF d (r2.getD p ([],())).1).toNat+1:=fB hc;have:=hJ.set he (by show _<_+((1:Nat):Int);omega);exact this.weaken (by show 1000*(i:Int)+p+((1:Nat):Int)<=_;omega) λe he=>(hP e he).imp_right λh=>h.1
     .have hc:¬Sp.lv cur i<Sp.lv cur (aF d (r2.getD p ([],())).1).toNat+1:=fO hc;have:=hJ.still he (by show _+((1:Nat):Int)<=_;omega);exact this.weaken abn λe he=>(hP e he).imp_right λh=>h.1
    .have h:¬0<=aF d (r2.getD p ([],())).1:=fO h;rcases hP e he with h'|h'
     .exact h'
     .exact(h h'.2).elim
   .dsimp only;refine fM abn ⟨rfl,next _ (hJ.weaken abn λe he=>⟨he.1,?_⟩)⟩;obtain⟨a,b,c⟩:=e;obtain⟨he,h⟩:=he;have h:a<i+1:=h;rcases avN a i with h'|h'
    .exact .inl h'
    .have:a=i:=abn;subst this;obtain⟨_,_,hc⟩:=kU d _ he;have hc:c<=1:=hc;rcases axd c with hc0|hc0
     .exact .inr (.inl ⟨rfl,hc0⟩)
     .have hc1:c=1:=abn;subst hc1;obtain⟨p,q1,q2,q3⟩:=NY hr2 he rfl;exact .inr (.inr ⟨rfl,rfl,p,q1,q3,q2⟩)
 .dsimp only;refine fM abn ?_;exact hJ.raised abn (λe he=>⟨he,(kU d e he).1⟩) λi hi=>(h0 i hi).1
end Go.Proofs.Tryz
namespace Go.Proofs.Tryz
open Go Go.Fw Go.IntWalk Sp
theorem WB{d:List bC}{aK r:List (Int×Unit)}(h:Sp.raised d aK r)(h0:∀i,i<d.length->0<=Sp.lv aK i)(hp:iU (dn d) λi=>(Sp.lv aK i).toNat):∀i,i<d.length->Sp.lv r i=Sp.lv aK i:=by obtain⟨_,h2,_,_,h5⟩:=h;intro i hi;have a:Sp.lv aK i<=Sp.lv r i:=h2 i hi;have b:Sp.lv r i<=((Sp.lv aK i).toNat:Int):=h5 _ hp (λj hj=>by have:=h0 j hj;show Sp.lv aK j<=((Sp.lv aK j).toNat:Int);omega) i hi;have:=h0 i hi;omega
theorem ain{d:List bC}{aK r:List (Int×Unit)}(h:Sp.raised d aK r)(hp:¬iU (dn d) λi=>(Sp.lv aK i).toNat):∃i,i<d.length/\Sp.lv aK i<Sp.lv r i:=by obtain⟨_,h2,_,h4,_⟩:=h;refine awL λhno=>hp (h4 λi hi=>?_);have a:Sp.lv aK i<=Sp.lv r i:=h2 i hi;have b:¬Sp.lv aK i<Sp.lv r i:=λh=>hno ⟨i,hi,h⟩;show Sp.lv r i=Sp.lv aK i;omega
theorem afN{d:List bC}(h1:ni d=true){L:Nat->Nat}(h2:iU (dn d) L):dP d=true:=lY.2 ⟨h1,L,h2⟩
theorem aio{d:List bC}(h:∀M,iU (dn d) M->(∀i,i<d.length->M i<d.length)->False):dP d=false:=by rw[ayx];intro h1;obtain⟨_,h2⟩:=lY.1 h1;obtain⟨M,h3,h4⟩:=LV (kU d) h2;exact h M h3 h4
theorem afO{d:List bC}(h:ni d=false):dP d=false:=by rw[ayx];intro h1;rw[(lY.1 h1).1]at h;cases h
theorem Qk(n i:Nat):Sp.lv (List.replicate n (0,())) i=0:=by
 unfold Sp.lv;rw[avr];by_cases h:i<n
 .rw[axD,if_pos h];rfl
 .rw[aww adK];rfl
theorem aol{d:List bC}(h:dP d=true):∃s,Nl d s:=by obtain⟨hok,h2⟩:=lY.1 h;exact alP (LV (kU d) h2)
theorem acw{d:List bC}:∃s:List (Int×Unit),(dP d=true->Nl d s)/\(dP d=false->s=[]):=by
 cases h:dP d with
 |true=>obtain⟨s,hs⟩:=aol h;exact⟨s,λ_=>hs,λh=>agk⟩
 |false=>exact⟨[],λh=>agk,λ_=>rfl⟩
theorem aez:OK Eu.e:=by
 refine XA.ok mixed (aC [CS.e,qY.e,wE.e] ⟨acy,aaC,UI,trivial⟩) agG (λ⟨d,_⟩ hp=>by obtain⟨s,h1,h2⟩:=acw (d:=d);exact⟨(((s,dP d,()),())),⟨rfl,h1,h2⟩⟩) abu (show∀d,Eu.goal (aeA d) (d,())from ?_);intro d hin hp;dsimp only[Eu]at hp ⊢;have hp:eU d:=hp;refine⟨hp,af (λh=>⟨(afO (iY h)).symm,λh=>agk,λ_=>rfl⟩) λh=>?_⟩;have hok:=fG h;have hlen:=acz hok;refine⟨⟨abn,abn,am7⟩,?_⟩;have hnn:d.length*d.length<=25:=ayK hlen hlen;have e1:(d.length:Int)*(d.length:Int)=((d.length*d.length:Nat):Int):=acA;have w:IntKind.i64.wrap (IntKind.i64.wrap ((d.length:Int)*(d.length:Int))+1)=((d.length*d.length:Nat):Int)+1:=by rw[e1,fD ((d.length*d.length:Nat):Int) abn];exact fD _ abn
 rw[w];have hmem:∀aK:List (Int×Unit),aK.length=d.length->∀k:Nat,k<=27->(∀i,i<d.length->0<=Sp.lv aK i/\Sp.lv aK i<=5000*k)->∀x∈aK,0<=x.1/\x.1<=1000000:=λaK hl k hk h=>
  am9 (p:=λz=>0<=z/\z<=1000000) λi hi=>by have:=h i abn;omega
 refine gU (λi(x:List (Int×Unit))=>((x,i,()),())) (λy=>y.1.2.1) (λ_ _=>rfl) (d.length*d.length+2) abn
  (λk aK=>aK.length=d.length/\(∀i,i<d.length->0<=Sp.lv aK i/\Sp.lv aK i<=5000*k)/\(∀M,iU (dn d) M->∀i,i<d.length->Sp.lv aK i<=M i)/\((iU (dn d) λi=>(Sp.lv aK i).toNat)\/(k:Int)<=wW aK d.length))
  ⟨acA,λi hi=>asC,λM hM i hi=>asC,.inr (WC _ λi hi=>asC)⟩ (λI μ k aK hk hJ next=>?_) λI μ aK hJ=>?_
 .obtain⟨g1,g2,g3,g4⟩:=hJ;dsimp only;refine fK abn ⟨⟨hp,hlen,g1,hmem aK g1 k abn g2⟩,?_⟩;rintro⟨⟨r,⟨⟩⟩,⟨⟩⟩ hr;have hr:Sp.raised d aK r:=hr;have hr':=hr;obtain⟨q1,q2,q3,q4,q5⟩:=hr';have hup:∀i,i<d.length->Sp.lv aK i<=Sp.lv r i:=q2;refine⟨rfl,next r ⟨q1,λi hi=>?_,λM hM i hi=>q5 M hM (g3 M hM) i hi,?_⟩⟩
  .have a:=hup i hi;have b:=q3 (5000*k) (λj hj=>(g2 j hj).2) i hi;have b:Sp.lv r i<=5000*k+5000:=b;have c:=g2 i hi;omega
  .by_cases hpf:iU (dn d) λi=>(Sp.lv aK i).toNat
   .left;have hs:=WB hr (λi hi=>(g2 i hi).1) hpf;intro e he;have:=hpf e he;obtain⟨a,b,_⟩:=kU d e he;dsimp only at this ⊢;rw[hs _ a,hs _ b];exact this
   .right;have hm:=aaD d.length hup (ain hr hpf);rcases g4 with g4|g4
    .exact(hpf g4).elim
    .omega
 .obtain⟨g1,g2,g3,g4⟩:=hJ;dsimp only;refine fM abn ⟨⟨hp,hlen,g1,hmem aK g1 _ abn g2⟩,?_⟩;rintro⟨⟨r,⟨⟩⟩,⟨⟩⟩ hr;have hr:Sp.raised d aK r:=hr;refine⟨trivial,af (λhne=>?_) λhe=>?_⟩
  .have hne:¬r=aK:=fO (iY hne);refine⟨(aio λM hM hb=>?_).symm,λh=>agk,λ_=>rfl⟩;rcases g4 with g4|g4
   .exact hne (aqW (by rw[hr.1,g1]) λi hi=>WB hr (λi hi=>(g2 i hi).1) g4 i (by rw[← hr.1];exact hi))
   .have:=OH (a:=aK) (b:=d.length) d.length λi hi=>by have a:=g3 M hM i hi;have b:=hb i hi;omega
    omega
  .have he:r=aK:=fB (fG he);subst he;have hpf:=hr.2.2.2.1 λi hi=>rfl;obtain⟨M,hM,hb⟩:=LV (kU d) ⟨_,hpf⟩;exact⟨(afN hok hpf).symm,λ_=>⟨g1,λi hi=>⟨(g2 i hi).1,by have a:=g3 M hM i hi;have b:=hb i hi;omega⟩,hpf,g3⟩,λh=>agk⟩
theorem aeB:OK Et.e:=by
 refine XA.ok mixed (aC [uU.e,wH.e,uT.e,wF.e] ⟨RU,UJ,RV,UK,trivial⟩) agH (λ⟨d,_⟩ hp=>by obtain⟨s,h1,h2⟩:=acw (d:=d);exact⟨(((s,dP d,()),())),⟨rfl,h1⟩⟩) abu (show∀d,Et.goal (aeC d) (d,())from ?_);intro d hin hp;dsimp only[Et]at hp ⊢;have hp:eU d:=hp;refine⟨hp,af (λh=>⟨(afO (iY h)).symm,λh=>agk⟩) λh=>?_⟩;have hok:=fG h;have hlen:=acz hok;refine⟨⟨abn,abn,am7⟩,?_⟩;have hmem:∀aK:List (Int×Unit),aK.length=d.length->(∀i,i<d.length->0<=Sp.lv aK i/\Sp.lv aK i<=d.length)->∀x∈aK,0<=x.1/\x.1<=1000000:=λaK hl h=>
  am9 (p:=λz=>0<=z/\z<=1000000) λi hi=>by have:=h i abn;omega
 refine⟨λy=>y.2.1.length=d.length/\(∀i,i<d.length->0<=Sp.lv y.2.1 i/\Sp.lv y.2.1 i<=d.length)/\(∀M,iU (dn d) M->∀i,i<d.length->Sp.lv y.2.1 i<=M i)/\(y.1.1=false->iU (dn d) λi=>(Sp.lv y.2.1 i).toNat),
  λy=>(((d.length*d.length:Nat):Int)-wW y.2.1 d.length).toNat*2+(if y.1.1=true then 1 else 0),⟨acA,λi hi=>asC,λM hM i hi=>asC,λh=>agk⟩,?_⟩
 rintro⟨⟨ch,⟨⟩⟩,aK,⟨⟩⟩ ⟨g1,g2,g3,g4⟩;dsimp only at g1 g2 g3 g4 ⊢;refine af (λhch=>?_) λhch=>⟨(afN hok (g4 hch)).symm,λ_=>⟨g1,g2,g4 hch,g3⟩⟩;subst hch;refine gU (λi(x:Bool×List (Int×Unit))=>((x.1,i,()),x.2,())) (λy=>y.1.2.1) (λ_ _=>rfl) d.length abn
  (λi(x:Bool×List (Int×Unit))=>x.2.length=d.length/\(∀i,i<d.length->Sp.lv aK i<=Sp.lv x.2 i/\Sp.lv x.2 i<=d.length)/\(∀M,iU (dn d) M->∀i,i<d.length->Sp.lv x.2 i<=M i)/\
    (x.1=true->wW aK d.length<wW x.2 d.length)/\(x.1=false->x.2=aK/\∀e∈dn d,e.1<i->Sp.lv aK e.2.1+e.2.2<=Sp.lv aK e.1))
  (s0:=(false,aK)) ⟨g1,λi hi=>⟨awk _,(g2 i hi).2⟩,g3,λh=>agk,λ_=>⟨rfl,λe _ h=>abn⟩⟩ (λI μ i x hi hJ next=>?_) λI μ x hJ=>?_
 .obtain⟨c,cur⟩:=x;obtain⟨q1,q2,q3,q4,q5⟩:=hJ;have q1:cur.length=d.length:=q1;have hcur:∀i,i<d.length->0<=Sp.lv cur i/\Sp.lv cur i<=d.length:=λi hi=>⟨Int.le_trans (g2 i hi).1 (q2 i hi).1,(q2 i hi).2⟩;have hm:=hmem cur q1 hcur;dsimp only;rw[avJ];refine fK abn ⟨⟨abn,abn⟩,Ic hp hi,?_⟩;rintro⟨⟨r4,⟨⟩⟩,⟨⟩⟩ hr4;have hr4:jg r4 (dV (dm d i).2.1 false):=hr4;refine⟨⟨abn,hr4.1,abn,abn,hm⟩,Ic hp hi,?_⟩;rintro⟨⟨r6,⟨⟩⟩,⟨⟩⟩ hr6;have hr6:jg r6 (dV (dm d i).2.1 true):=hr6;refine⟨⟨abn,hr6.1,abn,abn,hm⟩,?_⟩;dsimp only;have hle:∀M,iU (dn d) M->wI d cur 0 r4<=M i/\wI d cur 1 r6<=M i:=by
   intro M hM;refine⟨(Fj r4 _).2 ⟨abn,λx hx h0=>?_⟩,(Fj r6 _).2 ⟨abn,λx hx h0=>?_⟩⟩
   .have he:=Fp.2 ⟨hi,x.1,.inl ⟨rfl,(hr4.2 x.1).1 hx⟩,h0,rfl⟩;have a:=hM _ he;have a:M (aF d x.1).toNat+0<=M i:=a;have b:=q3 M hM _ (kU d _ he).2.1;have b:Sp.lv cur (aF d x.1).toNat<=M (aF d x.1).toNat:=b;omega
   .have he:=Fp.2 ⟨hi,x.1,.inr ⟨rfl,(hr6.2 x.1).1 hx⟩,h0,rfl⟩;have a:=hM _ he;have a:M (aF d x.1).toNat+1<=M i:=a;have b:=q3 M hM _ (kU d _ he).2.1;have b:Sp.lv cur (aF d x.1).toNat<=M (aF d x.1).toNat:=b;omega
  have hge:∀e∈dn d,e.1=i->Sp.lv cur e.2.1+e.2.2<=wI d cur 0 r4\/Sp.lv cur e.2.1+e.2.2<=wI d cur 1 r6:=by
   rintro⟨a,b,m⟩ he ha;have ha:a=i:=ha;subst ha;have hm1:m<=1:=(kU d _ he).2.2;rcases axd m with h|h
   .subst h;obtain⟨p,p1,p2,p3⟩:=NY hr4 he rfl;left;have:=((Fj (d:=d) (aK:=cur) (more:=0) r4 _).1 (awk _)).2 _ (getD_mem (d:=(([]:List UInt8),())) p1) p2;show Sp.lv cur b+((0:Nat):Int)<=_;rw[p3];omega
   .have:m=1:=abn;subst this;obtain⟨p,p1,p2,p3⟩:=NY hr6 he rfl;right;have:=((Fj (d:=d) (aK:=cur) (more:=1) r6 _).1 (awk _)).2 _ (getD_mem (d:=(([]:List UInt8),())) p1) p2;show Sp.lv cur b+((1:Nat):Int)<=_;rw[p3];omega
  generalize wI d cur 0 r4=u at hle hge ⊢;generalize wI d cur 1 r6=v at hle hge ⊢;have hv:∃z,(if v>u then v else u)=z/\u<=z/\v<=z/\(z=u\/z=v):=by refine⟨_,rfl,?_,?_,?_⟩<;>split<;>omega
  obtain⟨z,ez,hz1,hz2,hz3⟩:=hv;rw[ez];have e2:(cur.getD i (0,())).1=Sp.lv cur i:=rfl;rw[e2];refine af (λhbig=>?_) λhbig=>⟨⟨abn,abn⟩,abn,af (λhup=>⟨⟨abn,abn⟩,abn,rfl,next (true,cur.set i (z,())) ?_⟩) λhup=>⟨rfl,next (c,cur) ?_⟩⟩
  .have hbig:z>(d.length:Int):=fB hbig;refine⟨(aio λM hM hb=>?_).symm,λh=>agk⟩;have a:=hle M hM;have b:=hb i hi;omega
  .have hbig:¬z>(d.length:Int):=fO hbig;have hup:z>Sp.lv cur i:=fB hup;have hs:=λk=>aip (l:=cur) (i:=i) abn z k;refine⟨adK,λk hk=>?_,λM hM k hk=>?_,λ_=>?_,λh=>agk⟩
   .dsimp only;rw[hs];have:=q2 k hk;dsimp only at this;split
    .next e=>subst e;omega
    .exact this
   .dsimp only;rw[hs];split
    .next e=>subst e;have:=hle M hM;omega
    .exact q3 M hM k hk
   .have a:=aaE (a:=aK) (b:=cur) d.length λk hk=>(q2 k hk).1;have hsk:∀k,k<d.length->Sp.lv cur k<=Sp.lv (cur.set i (z,())) k:=λk hk=>by
     rw[hs];split
     .next e=>subst e;omega
     .exact awk _
    have b:=aaD (a:=cur) (b:=cur.set i (z,())) d.length hsk ⟨i,hi,by rw[hs,if_pos rfl];omega⟩;show wW aK d.length<wW (cur.set i (z,())) d.length;omega
  .have hup:¬z>Sp.lv cur i:=fO hup;refine⟨q1,q2,q3,q4,λh=>?_⟩;obtain⟨a,b⟩:=q5 h;have a:cur=aK:=a;subst a;refine⟨rfl,λe he hlt=>?_⟩;rcases avN e.1 i with h'|h'
   .exact b e he h'
   .have PY:e.1=i:=abn;have:=hge e he PY;rw[PY];omega
 .obtain⟨c,cur⟩:=x;obtain⟨q1,q2,q3,q4,q5⟩:=hJ;dsimp only at q1 q2 q3 q4 q5 ⊢;have hcur:∀i,i<d.length->0<=Sp.lv cur i/\Sp.lv cur i<=d.length:=λi hi=>⟨Int.le_trans (g2 i hi).1 (q2 i hi).1,(q2 i hi).2⟩;have hsum:=OH (a:=cur) (b:=d.length) d.length λi hi=>(q2 i hi).2;refine fM abn ⟨rfl,⟨q1,hcur,q3,λhc e he=>?_⟩,?_⟩
  .obtain⟨a,b⟩:=q5 hc;subst a;obtain⟨x1,x2,_⟩:=kU d e he;have:=b e he x1;have y1:=(hcur _ x1).1;have y2:=(hcur _ x2).1;dsimp only;omega
  .cases c with
   |true=>
    have:=q4 rfl;simp only[if_true];omega
   |false=>obtain⟨a,_⟩:=q5 rfl;subst a;simp
theorem RX:OK uY.e:=by refine PA.ok mixed (aC [Et.e] ⟨aeB,trivial⟩) H0 abu (show∀d,uY.goal (RY d) (d,())from ?_);intro d hin hp;dsimp only[uY]at hp ⊢;refine⟨hp,λr hr=>?_⟩;exact ayE hr.1 rfl
theorem Gt:OK qi.e:=by refine PA.ok mixed (aC [Eu.e] ⟨aez,trivial⟩) H0 abu (show∀d,qi.goal (RZ d) (d,())from ?_);intro d hin hp;dsimp only[qi]at hp ⊢;refine⟨hp,λr hr=>?_⟩;exact ayE hr.1 rfl
end Go.Proofs.Tryz
namespace Go.Proofs.Tryz
open Go Go.Fw Go.IntWalk Sp
theorem vO:OK iM.e:=by
 refine PA.ok mixed (aC [uY.e,uP.e] ⟨RX,RQ,trivial⟩) H0 abu (show∀x0 x1 x2 x3,iM.goal (MW x0 x1 x2 x3) ((x0,x1,x2,x3,()),())from ?_);intro x0 x1 x2 x3 hin hp;dsimp only[iM]at hp ⊢;refine⟨trivial,af (λh=>⟨hp.2,?_⟩) λh=>?_⟩
 .have h:bW (Ci (x0,x1,x2,x3,()))=true:=h;unfold bT;rw[h];rfl
 .have h:bW (Ci (x0,x1,x2,x3,()))=false:=h;unfold bT;rw[h];rfl
theorem vN:OK iO.e:=by
 refine PA.ok mixed (aC [qi.e,mX.e] ⟨Gt,zY,trivial⟩) H0 abu (show∀x0 x1 x2 x3,iO.goal (MX x0 x1 x2 x3) ((x0,x1,x2,x3,()),())from ?_);intro x0 x1 x2 x3 hin hp;dsimp only[iO]at hp ⊢;refine⟨trivial,af (λh=>⟨hp.2,?_⟩) λh=>?_⟩
 .have h:bW (Ci (x0,x1,x2,x3,()))=true:=h;unfold bT;rw[h];rfl
 .have h:bW (Ci (x0,x1,x2,x3,()))=false:=h;unfold bT;rw[h];rfl
end Go.Proofs.Tryz
namespace Go.Proofs.Tryz
open Go Go.Fw Go.IntWalk Sp
theorem ann:dP [([100,97],[(1,0,0,[],0,0,[],())],())]=true:=lY.2 ⟨abu,λ_=>0,λe he=>by rw[show dn [([100,97],[(1,0,0,[],0,0,[],())],())]=[] by kernel_rfl]at he;cases he⟩
theorem acI:OK CQ.e:=by
 refine XA.ok mixed (aC [qi.e,yK.e] ⟨Gt,N8,trivial⟩) aeK (λ_ _=>⟨(([([100,97],[(1,0,0,[],0,0,[],())],())],()),(([],0,0,()),())),⟨abA,abA,Ko Aa acA acA,ann,abA⟩⟩) abu (show∀c0 c1 c2,CQ.goal (acJ c0 c1 c2) ((c0,c1,c2,()),())from ?_);intro b i h hin hp;dsimp only[CQ]at hp ⊢;have hp:0<=i:=hp;refine⟨hp,?_⟩;rintro⟨⟨d,_⟩,⟨b1,i1,h1,_⟩,_⟩ ⟨q1,q2,q3,q4⟩;dsimp only at q1 q2 q3 q4 ⊢;have fin:∀l:List bC,l.length<=4->eU l->(0<l.length->dP l=true)->(bif (l.length:Int)==(0:Int)then 0<=i1/\([(([100,97]:List UInt8),[((1:Int),(0:Int),(0:Int),([]:List UInt8),(0:Int),(0:Int),([]:List UInt8),())],())]:List bC).length<=10/\eU [([100,97],[(1,0,0,[],0,0,[],())],())]/\dP [([100,97],[(1,0,0,[],0,0,[],())],())]=true/\0<[(([100,97]:List UInt8),[((1:Int),(0:Int),(0:Int),([]:List UInt8),(0:Int),(0:Int),([]:List UInt8),())],())].length else 0<=i1/\l.length<=10/\eU l/\dP l=true/\0<l.length):=λl hl hs hst=>
  af (λ_=>⟨q1,acA,Ko Aa acA acA,ann,acA⟩) λh0=>have h1:0<l.length:=(by have h0:¬(l.length:Int)=0:=avp.1 h0;omega);⟨q1,abn,hs,hst h1,h1⟩
 refine⟨λy=>y.1.1.length<=4/\eU y.1.1,λy=>y.1.1.length,⟨q3,q4⟩,?_⟩;rintro⟨⟨l,⟨⟩⟩,⟨⟩⟩ ⟨g1,g2⟩;dsimp only at g1 g2 ⊢;refine af (λhc=>⟨g2,af (λ_=>?_) λhst=>fin l g1 g2 λ_=>fG hst⟩) λhc=>fin l g1 g2 λh=>(by have:=fO hc;omega);have hc:0<l.length:=by have:=fB hc;omega
 rw[zh hc abn,axb,avJ];exact⟨⟨abn,abn⟩,rfl,⟨aiO,ajQ _ g2⟩,by dsimp only;rw[avz];omega⟩
theorem acK{a:List dW}{l:List aU}{nx:Int}(h:bW (a,l,nx,())=true):∀f∈l,f.2.2.2.2.1.length<=400:=λf hf=>by obtain⟨h1,_,h3,_⟩:=WN.1 h;have hl:=aiD (WO (h1 f hf).1);have h5:=(WQ.1 h3).2;have hl:f.2.2.2.2.1.length<=a.length:=hl;have h5:a.length<=5:=h5;omega
theorem aeL:OK Em.e:=by
 refine XA.ok mixed (aC [rP.e,tK.e,Eh.e,Ej.e,kL.e,dh.e,wo.e] ⟨I9,Gs,aei,aev,qV,dL,LU,trivial⟩) agK (λ_ _=>⟨((([],[],0,()),()),(([],0,0,()),())),⟨abA,⟨abA,abA,λf hf=>by cases hf⟩,λf hf=>by cases hf⟩⟩) abu (show∀c0 c1 c2,Em.goal (aeM c0 c1 c2) ((c0,c1,c2,()),())from ?_);intro b i h hin hp;dsimp only[Em]at hp ⊢;have hp:0<=i:=hp;refine⟨hp,?_⟩;rintro⟨⟨⟨a,l,nx,⟨⟩⟩,⟨⟩⟩,⟨b0,i0,g0,⟨⟩⟩,⟨⟩⟩ ⟨p0,d1,d2,d3,d4,_⟩;have D:qG 2 (a,l,nx,()):=⟨d1,d2,d3,d4⟩;obtain⟨z0,z1,z2⟩:a.length<=1000/\l.length<=1000/\∀f∈l,vZ f:=d4;have z3:l.length<=12:=(oK.1 D.ok).2.2.1;have hh:=acK D.ok;refine⟨p0,?_⟩;rintro⟨⟨x1,⟨⟩⟩,⟨b1,i1,g1,⟨⟩⟩,⟨⟩⟩ ⟨p1,_⟩;refine af (λ_=>⟨⟨p1,acA⟩,?_⟩) λ_=>af (λ_=>⟨p1,?_⟩) λ_=>af (λ_=>⟨p1,?_⟩) λ_=>af (λ_=>?_) λ_=>⟨p1,D.small,hh⟩
 .rintro⟨⟨x3,⟨⟩⟩,⟨b3,i3,g3,⟨⟩⟩,⟨⟩⟩ ⟨p3,_⟩;exact⟨p3,⟨z0,z1,z2⟩,hh⟩
 .rintro⟨⟨⟨d,o,s,lk,al,⟨⟩⟩,⟨⟩⟩,⟨b2,i2,g2,⟨⟩⟩,⟨⟩⟩ ⟨p2,ha⟩;have hf:vZ (d,o,s,lk,al,()):=(show al.length<=1000 from avx ha abA);refine⟨(show l.length+1<=big from am7),p2,⟨z0,?_,λf hf'=>?_⟩,λf hf'=>?_⟩
  .show(l++[_]).length<=1000;rw[avn,avq,avu];omega
  .rcases avR.1 hf' with h'|h'
   .exact z2 f h'
   .have:f=(d,o,s,lk,al,()):=by simpa using h'
    rw[this];exact hf
  .rcases avR.1 hf' with h'|h'
   .exact hh f h'
   .have:f=(d,o,s,lk,al,()):=by simpa using h'
    rw[this];exact avx ha abA
 .rintro⟨⟨x3,⟨⟩⟩,⟨b3,i3,g3,⟨⟩⟩,⟨⟩⟩ ⟨p3,hx⟩;exact⟨p3,⟨avx (show x3.length<=6 from hx) abA,z1,z2⟩,hh⟩
 .refine⟨λy=>0<=y.2.1.2.1/\qG 2 y.2.2.1,λy=>12-y.2.2.1.2.1.length,⟨p1,D⟩,?_⟩;rintro⟨⟨⟩,⟨b2,i2,g2,⟨⟩⟩,⟨a,l,nx,⟨⟩⟩,⟨⟩⟩ ⟨p2,D⟩;have D:qG 2 (a,l,nx,()):=D;refine af (λhc=>⟨p2,?_⟩) λ_=>⟨p2,D.small,acK D.ok⟩;have hc:(l.length:Int)<12:=fB hc;rintro⟨⟨⟨d,o,s,lk,al,⟨⟩⟩,⟨⟩⟩,⟨b3,i3,g3,⟨⟩⟩,⟨⟩⟩ ⟨p3,_,ho1,ho2,hl1,hl2,hok,ha⟩;have hf:vZ (d,o,s,lk,al,()):=(show al.length<=1000 from avx ha abA);refine⟨⟨D.small,hf⟩,?_⟩;rintro⟨⟨⟨a3,l3,nx3,⟨⟩⟩,id3,ok3,⟨⟩⟩,⟨⟩⟩ ⟨e1,e2,e3,_⟩;have e:((a3,l3,nx3,()):eX)=(bV (a,l,nx,()) (d,o,s,lk,al,())).1:=aaz e1 e2 e3;have hg:=D.grows (f:=(d,o,s,lk,al,())) (show l.length<12 from abn) ⟨ho1,ho2⟩ ⟨hl1,hl2⟩ hok;have e2:l3=(bV (a,l,nx,()) (d,o,s,lk,al,())).1.2.1:=e2;refine⟨rfl,⟨p3,?_⟩,?_⟩
  .show qG 2 (a3,l3,nx3,());rw[e];exact D.create hf
  .show 12-l3.length<12-l.length;have hg:(bV (a,l,nx,()) (d,o,s,lk,al,())).1.2.1.length=l.length+1:=hg;rw[e2,hg];omega
theorem LZ:OK wz.e:=by refine XA.ok mixed (aC [CQ.e,wo.e] ⟨acI,LU,trivial⟩) H0 (λ_ _=>⟨((([],[],0,[],()),()),(([],0,0,()),())),⟨abA,⟨abA,abA,λx hx=>afg⟩,Aa⟩⟩) abu (show∀c0 c1 c2,wz.goal (aaR c0 c1 c2) ((c0,c1,c2,()),())from ?_);intro b i h hin hp;dsimp only[wz]at hp ⊢;have hp:0<=i:=hp;refine⟨hp,λr hr=>⟨hr.1,λx hx=>⟨hx.1,hr.2.2.2.2.1,hx.2.2.1⟩⟩⟩
theorem aeI:OK Ep.e:=by refine XA.ok mixed (aC [Eo.e,Em.e,dh.e,wz.e] ⟨aeN,aeL,dL,LZ,trivial⟩) H0 (λ_ _=>⟨((([],[],0,[],()),()),(([],0,0,()),())),⟨abA,⟨abA,abA,λx hx=>afg⟩,Aa⟩⟩) abu (show∀c0 c1 c2,Ep.goal (aeO c0 c1 c2) ((c0,c1,c2,()),())from ?_);intro b i h hin hp;dsimp only[Ep]at hp ⊢;have hp:0<=i:=hp;refine⟨hp,λr hr=>⟨hr.1,λx hx=>af (λ_=>⟨hx.1,λy hy=>⟨hy.1,hy.2.1,hr.2.2⟩⟩) λ_=>af (λ_=>⟨hx.1,λy hy=>⟨hy.1,hr.2.1,hy.2.2⟩⟩) λ_=>⟨hx.1,hr.2⟩⟩⟩
end Go.Proofs.Tryz
namespace Go.Proofs.Tryz
open Go Go.Fw Go.IntWalk
theorem U0:OK wJ.e:=by refine PA.ok mixed (aC [] trivial) H0 abu (show∀s,wJ.goal (U1 s) (s,())from ?_);intro w hin hp;dsimp only[wJ]at hp ⊢;exact rfl
end Go.Proofs.Tryz
namespace Go.Proofs.Tryz
open Go Go.Fw Go.IntWalk Sp
theorem yx:OK nR.e:=by refine PA.ok mixed (aC [(H8,.pure EH)] ⟨⟨ab3,aai⟩,trivial⟩) H0 abu (show∀n,nR.goal (YI n) (n,())from ?_);intro n hin hp;dsimp only[nR]at hp ⊢;exact⟨hin.1,rfl⟩
theorem YJ:OK zM.e:=by
 refine PA.ok mixed (aC [] trivial) H0 abu (show∀Ut,zM.goal (YK Ut) (Ut,())from ?_);intro x hin hp;dsimp only[zM]at hp ⊢;obtain⟨h0,h1⟩:=hp;refine af (λh=>?_) λh=>?_<;>simp only[avC,av7]at h
 .rw[i64_in (48+x) abn,u8_in (48+x) abn]
 .omega
theorem aeU{c:Int}(h:¬c.tmod 10<0):c.tmod 10=((c.natAbs%10:Nat):Int):=by have:(c.tmod 10).natAbs=c.natAbs%10:=ayH c 10;omega
theorem ajS{c:Int}(h:c.tmod 10<0):0-c.tmod 10=((c.natAbs%10:Nat):Int):=by have:(c.tmod 10).natAbs=c.natAbs%10:=ayH c 10;omega
theorem W9(k:Nat):byteRow [((48:Int)+(k:Int),())]=[UInt8.ofNat (48+k)]:=by have:((48:Int)+(k:Int)).toNat=48+k:=abn;simp[byteRow,ZN,this]
theorem alU{n c:Nat}{s:List UInt8}(hc:c≠0)(hJ:Lib.decDigits n=(if c=0 then[]else Lib.decDigits c)++s):
 Lib.decDigits n=(if c / 10=0 then[]else Lib.decDigits (c / 10))++(UInt8.ofNat (48+c%10)::s):=by
 rw[hJ,if_neg hc,aeV c];simp
theorem rX:OK lC.e:=by
 refine PA.ok mixed (aC [zM.e] ⟨YJ,trivial⟩) aaX abu (show∀n,lC.goal (YL n) (n,())from ?_);intro n hin hp;dsimp only[lC]at hp ⊢;have h0:(-9223372036854775808:Int)<=n/\n<=9223372036854775807:=hin.1;have hL:=Lib.itoa_length_le n h0.1 h0.2;have hD:(Lib.decDigits n.natAbs).length<=21:=by
  unfold Lib.itoa at hL;split at hL
  .simp at hL;omega
  .rw[show n.natAbs=n.toNat from abn];exact hL
 refine af (λh=>?_) λh=>?_
 .have:n=0:=acG;subst this;simp[Lib.itoa,Lib.decDigits]
 .have hn0:n≠0:=acG;refine⟨λy=>-9223372036854775808<=y.1.1/\y.1.1<=9223372036854775807/\Lib.decDigits n.natAbs=(if y.1.1.natAbs=0 then[]else Lib.decDigits y.1.1.natAbs)++y.1.2.1,λy=>y.1.1.natAbs,⟨h0.1,h0.2,?_⟩,?_⟩
  .show _=(if n.natAbs=0 then _ else _)++_;rw[if_neg abn];simp
  rintro⟨⟨c,s,⟨⟩⟩,⟨⟩⟩ ⟨hc1,hc2,hJ⟩;dsimp only at hc1 hc2 hJ ⊢;have hs:s.length<=21:=by rw[hJ,avn]at hD;omega
  have hq:(c.tdiv 10).natAbs=c.natAbs / 10:=Int.natAbs_tdiv c 10;have hrow:∀k:Nat,(byteRow [((48:Int)+(k:Int),())]).length=1:=λk=>by rw[W9];rfl
  refine af (λh=>?_) λh=>?_
  .have hc:c.natAbs≠0:=by simp at h;omega
   have hstep:=alU hc hJ;have hm:c.natAbs%10<10:=ayi _ abA;have hlt:c.natAbs / 10<c.natAbs:=Nat.div_lt_self abn abA;have hw:IntKind.i64.wrap (c.tdiv 10)=c.tdiv 10:=fD _ abn;refine⟨abA,af (λhd=>?_) λhd=>?_⟩<;>simp only[avC,av7]at hd
   .have e:=ajS hd;rw[fD (0-c.tmod 10) abn,e,hw,W9];refine⟨⟨abn,abn⟩,aqG,abA,rfl,⟨afw,afw,?_⟩,?_⟩
    .show _=(if(c.tdiv 10).natAbs=0 then[]else Lib.decDigits (c.tdiv 10).natAbs)++_;rw[hq];exact hstep
    .show(c.tdiv 10).natAbs<c.natAbs;rw[hq];exact hlt
   .have e:=aeU hd;rw[e,hw,W9];refine⟨⟨abn,abn⟩,aqG,abA,rfl,⟨afw,afw,?_⟩,?_⟩
    .show _=(if(c.tdiv 10).natAbs=0 then[]else Lib.decDigits (c.tdiv 10).natAbs)++_;rw[hq];exact hstep
    .show(c.tdiv 10).natAbs<c.natAbs;rw[hq];exact hlt
  .have hc:c=0:=acG;subst hc;have hJ:Lib.decDigits n.natAbs=s:=by simpa using hJ
   subst hJ;refine af (λhd=>?_) λhd=>?_<;>simp only[avC,av7]at hd
   .refine⟨aqG,?_⟩;rw[Lib.itoa,if_pos hd];rfl
   .rw[Lib.itoa,if_neg hd,show n.toNat=n.natAbs from abn]
theorem SY(x y:List UInt8):Lib.join [x,y] [32]=x++[32]++y:=by simp[Lib.join_cons,Lib.joinTail]
theorem acW(x y z:List UInt8):Lib.join [x,y,z] [32]=x++[32]++y++[32]++z:=by simp[Lib.join_cons,Lib.joinTail]
theorem Dy:OK qo.e:=by
 refine PA.ok mixed (aC [lC.e] ⟨rX,trivial⟩) aaY abu (show∀text,qo.goal (YM text) (text,())from ?_);intro text hin hp;dsimp only[qo]at hp ⊢;refine af (λh=>?_) λh=>?_
 .exact L6 (V9 asY)
 .have hl:text.length<=10:=apl;refine gU (mk:=λi v=>((v,i,()),())) (λy=>y.1.2.1) (λ_ _=>rfl) text.length abn
   (λn v=>v=jU (text.take n)/\∀i,i<n->48<=(text.getD i 0).toNat/\(text.getD i 0).toNat<=57) ⟨rfl,λi hi=>absurd hi (awv _)⟩ (λI μ n v hn hJ next=>?_) λI μ v hJ=>?_
  .obtain⟨rfl,hd⟩:=hJ;obtain⟨b0,b1⟩:=aiE hn hl hd;dsimp only;rw[avJ];refine fK abn ⟨⟨abn,abn⟩,af (λh2=>?_) λh2=>⟨⟨abn,abn⟩,af (λh3=>?_) λh3=>⟨⟨abn,abn⟩,rfl,?_⟩⟩⟩
   .exact L6 (Oa hn anm)
   .exact L6 (Oa hn asO)
   .have g2:=fO h2;have g3:=fO h3;have w1:IntKind.i64.wrap (10*jU (text.take n))=10*jU (text.take n):=fD _ abn;have w2:IntKind.i64.wrap ((text.getD n 0).toNat:Int)=(text.getD n 0).toNat:=fD _ abn;have w3:IntKind.i64.wrap (10*jU (text.take n)+(text.getD n 0).toNat)=10*jU (text.take n)+(text.getD n 0).toNat:=fD _ abn;have w4:IntKind.i64.wrap (10*jU (text.take n)+(text.getD n 0).toNat-48)=10*jU (text.take n)+(text.getD n 0).toNat-48:=fD _ abn;refine next _ ⟨?_,λi hi=>?_⟩
    .rw[w1,w2,w3,w4,ajT hn];omega
    .rcases avN i n with h5|h5
     .exact hd i h5
     .rw[show i=n from abn];omega
  .obtain⟨rfl,hd⟩:=hJ;dsimp only;rw[av6 (avt _)];refine fM abn (af (λh2=>?_) λh2=>⟨trivial,af (λh3=>?_) λh3=>?_⟩)
   .refine L6 ?_;cases hk:bf text with
    |false=>rfl
    |true=>have:=(ig.1 (Ea.1 hk).1).2;have:=fB h2;omega
   .refine L6 ?_;cases hk:bf text with
    |false=>rfl
    |true=>exact absurd (Ea.1 hk).2 (ne_of_beq_false (iY h3))
   .have e:=avS.1 (fG h3);have h0:0<=jU text:=(L8 text.length text rfl (λb hb=>by obtain⟨i,hi,rfl⟩:=axg.1 hb;have:=hd i hi;rw[avr,avv hi]at this;exact this)).1;have:=RD (ig.2 ⟨h0,by have:=fO h2;omega⟩) e;rw[this.1,this.2]
theorem Ho:OK lD.e:=by
 refine PA.ok mixed (aC [] trivial) Xa abu (show∀line,lD.goal (U4 line) (line,())from ?_);intro line hin hp;dsimp only[lD]at hp ⊢;have hp:line.length<=1048576:=hp;refine af (λh=>?_) λh=>?_
 .exact(EN λhh=>asY).symm
 .have hl:line.length<=600:=apl;refine gU (mk:=λi(s:Int×Sp.LS)=>(((),s.1,i,()),s.2,())) (λy=>y.1.2.2.1) (λ_ _=>rfl) (line.length+1) abn
   (λn s=>∃b:Nat,s.1=b/\Sp.splitAt line n b s.2) (s0:=((0:Int),[])) ⟨0,rfl,aiF line⟩ (λI μ n s hn hJ next=>?_) λI μ s hJ=>?_
  .obtain⟨b,out⟩:=s;obtain⟨b,rfl,hs⟩:=hJ;dsimp only at hs ⊢;have hb:=hs.1;have hout:=hs.2.2.1;have hw:IntKind.i64.wrap ((n:Int)+1)=((n+1:Nat):Int):=fD _ abn;rw[avJ,avJ];refine fK abn ⟨λ_=>n<line.length->l7 (line.getD n 0)=true,?_,λ_ hj=>?_⟩
   .refine af (λh2=>⟨⟨abn,anm⟩,af (λh3=>?_) λh3=>⟨⟨abn,anm⟩,af (λh4=>?_) λh4=>⟨rfl,λ_=>?_⟩⟩⟩) λh2=>⟨rfl,λhh=>?_⟩
    .exact(EN λhh=>by have h5:=Ad.1 (aaZ hh.2.1 (show n<line.length from anm));have:=fB h3;omega).symm
    .exact(EN λhh=>by have h5:=Ad.1 (aaZ hh.2.1 (show n<line.length from anm));have:=fB h4;omega).symm
    .exact Ad.2 ⟨asP,amU⟩
    .have:=fO h2;omega
   .have tail:(n<line.length->l7 (line.getD n 0)=true/\line.getD n 0=32)->
     bif decide ((b:Int)<n)then((0:Int)<=b/\(b:Int)<=n/\(n:Int)<=line.length)/\List.length out+[(List.drop b (List.take n line),())].length<=big/\(((line,()),())=((line,()),()))/\
         I (((),IntKind.i64.wrap ((n:Int)+1),IntKind.i64.wrap ((n:Int)+1),()),out++[(List.drop b (List.take n line),())],())/\μ (((),IntKind.i64.wrap ((n:Int)+1),IntKind.i64.wrap ((n:Int)+1),()),out++[(List.drop b (List.take n line),())],())<μ (((),(b:Int),(n:Int),()),out,())
      else(((line,()),())=((line,()),()))/\I (((),IntKind.i64.wrap ((n:Int)+1),IntKind.i64.wrap ((n:Int)+1),()),out,())/\μ (((),IntKind.i64.wrap ((n:Int)+1),IntKind.i64.wrap ((n:Int)+1),()),out,())<μ (((),(b:Int),(n:Int),()),out,()):=by
     intro ho;refine af (λh3=>⟨⟨abn,abn,abn⟩,?_,rfl,?_⟩) λh3=>⟨rfl,?_⟩
     .rw[iH];show _+1<=_;omega
     .exact next (IntKind.i64.wrap ((n:Int)+1),out++[((line.take n).drop b,())]) ⟨n+1,hw,aiG hs abn asO ho⟩
     .exact next (IntKind.i64.wrap ((n:Int)+1),out) ⟨n+1,hw,aiH hs abn asP ho⟩
    refine af (λh2=>⟨⟨abn,anm⟩,af (λh3=>⟨rfl,?_⟩) λh3=>?_⟩) λh2=>?_
    .have hn2:n<line.length:=anm;exact next ((b:Int),out) ⟨b,rfl,aiI hs hn2 (hj hn2) λe=>by rw[e]at h3;revert h3;decide⟩
    .refine tail λhn2=>⟨hj hn2,?_⟩;have h3:((line.getD n 0).toNat:Int)=32:=aqw;exact UInt8.toNat_inj.1 (by show _=32;omega)
    .exact tail λhn2=>by have:=fO h2;omega
  .obtain⟨b,out⟩:=s;obtain⟨b,rfl,hs⟩:=hJ;dsimp only at hs ⊢;obtain⟨h1,h2⟩:=ajU hs;subst h2;refine fM abn (af (λh2=>?_) λh2=>?_)
   .exact(EN λhh=>by have:=fB h2;rw[uJ]at this;omega).symm
   .exact(afV (qI.2 ⟨hl,h1,by have:=fO h2;rw[uJ]at this;omega⟩)).symm
theorem NZ:OK qp.e:=by
 refine PA.ok mixed (aC [] trivial) aeW abu (show∀p,qp.goal (acX p) (p,())from ?_);intro p hin hp;dsimp only[qp]at hp ⊢;have hp1:p.length<=1000:=hp.1;have hp2:(gy p).length<=2097152:=hp.2;refine gU (mk:=λi s=>((s,i,()),())) (λy=>y.1.2.1) (λ_ _=>rfl) p.length abn (λn s=>s=gy (p.take n)) rfl (λI μ n s hn hJ next=>?_) λI μ s hJ=>?_
 .subst hJ;have e:=alV hn;have hle:=agN p (n+1);have hll:=congrArg List.length e;have h1:([32]:Sp.Bytes).length=1:=rfl;dsimp only;rw[avJ];refine fK abn (af (λh2=>?_) λh2=>?_)
  .have hn0:n≠0:=anm;rw[if_neg hn0]at e hll;rw[avn,avn,h1]at hll;refine⟨?_,⟨abn,abn⟩,?_,rfl,next _ e.symm⟩
   .rw[maxLen_eq,h1];omega
   .rw[maxLen_eq,avn,h1];omega
  .have hn0:n=0:=by have:=fO h2;omega
   subst hn0;refine⟨⟨abn,abn⟩,?_,rfl,next _ e.symm⟩;have h0:(gy (p.take 0)).length=0:=rfl;rw[maxLen_eq,h0];rw[if_pos rfl,awo]at hll;omega
 .subst hJ;dsimp only;refine fM abn ?_;rw[av6 (avt _)]
theorem U5:OK nZ.e:=by
 refine PA.ok mixed (aC [(EL,.pure BL),jo.e] ⟨⟨Yk,Wh⟩,kJ,trivial⟩) Xb abu (show∀line,nZ.goal (U6 line) (line,())from ?_);intro line hin hp;dsimp only[nZ]at hp ⊢;refine af (λh=>?_) λh=>?_
 .exact(EN λhh=>asY).symm
 .have hl:line.length<=600:=apl;refine kZ line.length abn (λn=>∀i,i<n->l7 (line.getD i 0)=true) (λi hi=>absurd hi (awv _)) (λI μ n hn hJ next=>?_) λI μ hJ=>?_
  .dsimp only;rw[avJ,alW];refine fK abn ⟨⟨abn,abn⟩,trivial,af (λh2=>?_) λh2=>⟨rfl,next λi hi=>?_⟩⟩
   .exact(EN λhh=>by have:=aaZ hh.2.1 hn;rw[iY h2]at this;cases this).symm
   .rcases avN i n with h5|h5
    .exact hJ i h5
    .rw[show i=n from abn];exact fG h2
  .dsimp only;have hall:=aiJ hJ;refine fM abn ⟨⟨hp,aoG hall⟩,af (λh2=>?_) λh2=>?_⟩
   .exact(EN λhh=>by have:=fB h2;rw[uJ]at this;omega).symm
   .exact(afV (qI.2 ⟨hl,hall,by have:=fO h2;rw[uJ]at this;omega⟩)).symm
theorem Gw:OK lU.e:=by
 refine PA.ok mixed (aC [] trivial) H0 abu (show∀p at',lU.goal (acY p at') (p,at',())from ?_);intro w i hin hp;dsimp only[lU]at hp ⊢;refine af (λh=>?_) λh=>⟨⟨hp,apl⟩,?_⟩
 .rw[pY (fB h)]
 .rw[pX apl]
theorem aeF:OK vS.e:=by refine PA.ok mixed (aC [qo.e,lU.e] ⟨Dy,Gw,trivial⟩) H0 abu (show∀p at',vS.goal (aeX p at') (p,at',())from ?_);intro w i hin hp;dsimp only[vS]at hp ⊢;exact⟨hp,trivial,rfl⟩
theorem OY:OK kY.e:=by
 refine PA.ok mixed (aC [] trivial) Qs abu (show∀s1 s2,kY.goal (OZ s1 s2) (s1,s2,())from ?_);intro a b hin hp;dsimp only[kY]at hp ⊢;have hlen:a.length<=maxLen:=hin.1.1;rw[maxLen_eq]at hlen;refine af (λh=>?_) λh=>?_
 .have h:(a.length:Int)≠b.length:=acG;exact congrArg (·,()) (avH λe=>h asN).symm
 .have h:(a.length:Int)=b.length:=acG;exact Ib (K:=λr=>r=(decide (a=b),())) (λx y=>!(x.1==y.1)) (λx y=>aq8) _ a b _ hlen abn (λe=>arb) λe=>arx
end Go.Proofs.Tryz
