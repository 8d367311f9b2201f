import Derived.Test.YtkgkfdphbkfjnaaGreatP5
namespace Go.Proofs.Tryz
open Go Go.Fw Go.IntWalk Sp
theorem ail{S:Type}{B:((Int×Unit)×S->Prop)->((Int×Unit)×S->Nat)->(Int×Unit)×S->Prop}(len:Nat)(hlen:len<=9223372036854775807)(J:Nat->S->Prop){s0:S}(h0:J len s0)
 (hstep:∀I μ(n:Nat)(s:S),n<len->J (n+1) s->(∀s',J n s'->I ((IntKind.i64.wrap ((n:Int)-1),()),s')/\μ ((IntKind.i64.wrap ((n:Int)-1),()),s')<μ (((n:Int),()),s))->B I μ (((n:Int),()),s))
 (hend:∀I μ s,J 0 s->B I μ ((-1,()),s)):∃I,∃μ,I ((IntKind.i64.wrap ((len:Int)-1),()),s0)/\∀y,I y->B I μ y:=by
 have w:∀n:Nat,n<=len->IntKind.i64.wrap ((n:Int)-1)=(n:Int)-1:=λn hn=>eP _ (by omega);refine⟨λy=>∃(n:Nat)(s:S),y=(((n:Int)-1,()),s)/\n<=len/\J n s,λy=>(y.1.1+1).toNat,⟨len,s0,by rw[w len (auI _)],auI _,h0⟩,?_⟩;rintro _ ⟨n,s,rfl,hn,hJ⟩;cases n with
 |zero=>exact hend _ _ s hJ
 |succ n=>
  have e:((n+1:Nat):Int)-1=n:=by omega
  rw[e];refine hstep _ _ n s hn hJ λs' hJ'=>?_;rw[w n (by omega)];refine⟨⟨n,s',rfl,by omega,hJ'⟩,?_⟩;show((n:Int)-1+1).toNat<((n:Int)+1).toNat;omega
theorem getD_set_ne{α:Type}(l:List α)(i n:Nat)(x d:α)(h:i≠n):(l.set i x).getD n d=l.getD n d:=by rw[aur,aur,avn h]
theorem NT{x:bK}{a:Int}(h:kK x a=true)(h2:x.1=5\/x.1=6\/x.1=7):0<=x.2.1/\x.2.1<a:=by obtain⟨x0,x1,x2,x3,x4,x5,x6,_⟩:=x;rw[NM]at h;rcases h2 with rfl|rfl|rfl<;>simp at h<;>exact⟨h.1.1.1.1,by dsimp only;omega⟩
theorem NU{x:bK}{a:Int}(h:kK x a=true)(h2:x.1=6\/x.1=7):0<=x.2.2.1/\x.2.2.1<a:=by obtain⟨x0,x1,x2,x3,x4,x5,x6,_⟩:=x;rw[NM]at h;rcases h2 with rfl|rfl<;>simp at h<;>exact⟨h.1.2.1,by dsimp only;omega⟩
theorem af0{q:List bK}(h:bQ q=true){n:Nat}(hn:n<q.length):kK (Sp.nodeAt q n) n=true:=by unfold bQ at h;simp only[auq]at h;have:=abL.1 h.1 n hn;unfold l9 at this;simp only[auq]at this;exact this.1
theorem GX{q:List bK}(h:bQ q=true):1<=q.length/\q.length<=9:=by unfold bQ at h;simp only[auq,auK]at h;omega
theorem abM{q:List bK}{n:Nat}{out:List (Bool×Unit)}(h:(Sp.nodeAt q n).1=5):kP q n out=out.set (Sp.nodeAt q n).2.1.toNat (true,()):=by unfold kP;simp[h]
theorem abN{q:List bK}{n:Nat}{out:List (Bool×Unit)}(h:(Sp.nodeAt q n).1=6\/(Sp.nodeAt q n).1=7):kP q n out=(out.set (Sp.nodeAt q n).2.1.toNat ((out.getD n (false,())).1,())).set (Sp.nodeAt q n).2.2.1.toNat ((out.getD n (false,())).1,()):=by unfold kP jG;rcases h with h|h<;>simp[h]
theorem Zq{q:List bK}{n:Nat}{out:List (Bool×Unit)}(h5:(Sp.nodeAt q n).1≠5)(h6:(Sp.nodeAt q n).1≠6)(h7:(Sp.nodeAt q n).1≠7):kP q n out=out:=by unfold kP jG;dsimp only;rw[auu.2 h5,auu.2 h6,auu.2 h7];rfl
theorem GZ(q:List bK):∀(n:Nat)(out:List (Bool×Unit)),(je q n out).length=out.length
 |0,out=>rfl
 |n+1,out=>by
  rw[je,GZ q n];unfold kP;simp only[cond_eq_ite];split
  .simp
  .split<;>simp
theorem alr{q:List bK}(h:bQ q=true):(Sp.negated q).length=q.length:=by unfold Sp.negated;rw[h];show(je q _ _).length=_;rw[GZ];simp
theorem Vr:OK xG.e:=by
 refine PA.ok mixed (au [nR.e] ⟨Dl,trivial⟩) WY (by kernel_rfl) (show∀q,xG.goal (Vs q) (q,())from ?_);intro q hin hp;dsimp only[xG]at hp ⊢;have hp:q.length<=1000:=hp;refine⟨by omega,af (λh=>?_) λh=>⟨⟨by omega,by omega,by rw[bY];omega⟩,?_⟩⟩
 .have h:=dQ h;unfold Sp.negated;rw[h];rfl
 have hok:=bP h;have hR:Sp.negated q=je q q.length (List.replicate q.length (false,())):=by unfold Sp.negated;rw[hok];rfl
 refine ail q.length (by omega) (λn(s:List (Bool×Unit)×Unit)=>s.1.length=q.length/\je q n s.1=Sp.negated q) ⟨by simp,hR.symm⟩ (λI μ n s hn hJ next=>?_) λI μ s hJ=>?_
 .obtain⟨out,⟨⟩⟩:=s;obtain⟨hl,hJ⟩:=hJ;have hl:out.length=q.length:=hl;have hJ:je q n (kP q n out)=Sp.negated q:=hJ;have hk:=af0 hok hn;have e:q.getD n (0,0,0,[],0,0,[],())=Sp.nodeAt q n:=rfl;dsimp only;rw[auA,e];simp only[auR];refine dn (by omega) ⟨⟨by omega,by omega⟩,by omega,?_⟩;by_cases h5:(Sp.nodeAt q n).1=5
  .have hb:=NT hk (.inl h5);simp only[h5,Int.reduceBEq,axh,awK];have fin:je q n (out.set (Sp.nodeAt q n).2.1.toNat (true,()))=Sp.negated q:=by rw[← abM h5];exact hJ
   refine af (λ_=>⟨⟨by omega,by omega⟩,⟨by omega,by omega⟩,⟨by omega,by omega⟩,by omega,trivial,next _ ⟨by simp[hl],fin⟩⟩) λ_=>⟨⟨by omega,by omega⟩,⟨by omega,by omega⟩,⟨by omega,by omega⟩,⟨by omega,by omega⟩,by omega,trivial,next _ ⟨by simp[hl],fin⟩⟩
  by_cases TG:(Sp.nodeAt q n).1=6\/(Sp.nodeAt q n).1=7
  .have hb:=NT hk (.inr TG);have hb2:=NU hk TG;have fin:∀b,(out.getD n (false,())).1=b->je q n ((out.set (Sp.nodeAt q n).2.1.toNat (b,())).set (Sp.nodeAt q n).2.2.1.toNat (b,()))=Sp.negated q:=λb hb=>by rw[← hb,← abN TG];exact hJ
   rcases TG with h6|h6
   all_goals
    simp only[h6,Int.reduceBEq,axh,awK];refine af (λhc=>⟨⟨by omega,by omega⟩,⟨by omega,by omega⟩,⟨by omega,by omega⟩,⟨by omega,by omega⟩,by omega,⟨by omega,by omega⟩,by omega,trivial,next _ ⟨by simp[hl],fin true hc⟩⟩) λhc=>⟨⟨by omega,by omega⟩,⟨by omega,by omega⟩,⟨by omega,by omega⟩,⟨by omega,by omega⟩,⟨by omega,by omega⟩,by omega,⟨by omega,by omega⟩,by omega,trivial,next _ ⟨by simp[hl],fin false hc⟩⟩
  .have h6:(Sp.nodeAt q n).1≠6:=λh=>TG (.inl h);have h7:(Sp.nodeAt q n).1≠7:=λh=>TG (.inr h);have fin:je q n out=Sp.negated q:=by rw[Zq h5 h6 h7]at hJ;exact hJ
   simp only[auu.2 h5,auu.2 h6,auu.2 h7,awK];exact af (λ_=>⟨⟨by omega,by omega⟩,rfl,next _ ⟨hl,fin⟩⟩) λ_=>⟨⟨by omega,by omega⟩,⟨by omega,by omega⟩,rfl,next _ ⟨hl,fin⟩⟩
 .obtain⟨out,⟨⟩⟩:=s;obtain⟨hl,hJ⟩:=hJ;dsimp only;refine dw (by omega) ?_;have hJ:out=Sp.negated q:=hJ;rw[hJ]
theorem Vt:OK xE.e:=by
 refine PA.ok mixed (au [nP.e] ⟨Dn,trivial⟩) WZ (by kernel_rfl) (show∀q,xE.goal (Vu q) (q,())from ?_);intro q hin hp;dsimp only[xE]at hp ⊢;have hp:q.length<=1000:=hp;refine⟨by omega,af (λh=>?_) λh=>⟨⟨by omega,by omega,by rw[bY];omega⟩,?_⟩⟩
 .have h:=dQ h;unfold Sp.negated;rw[h];rfl
 have hok:=bP h;have hR:Sp.negated q=je q q.length (List.replicate q.length (false,())):=by unfold Sp.negated;rw[hok];rfl
 refine ail q.length (by omega) (λn(s:List (Bool×Unit)×Unit)=>s.1.length=q.length/\je q n s.1=Sp.negated q) ⟨by simp,hR.symm⟩ (λI μ n s hn hJ next=>?_) λI μ s hJ=>?_
 .obtain⟨out,⟨⟩⟩:=s;obtain⟨hl,hJ⟩:=hJ;have hl:out.length=q.length:=hl;have hJ:je q n (kP q n out)=Sp.negated q:=hJ;have hk:=af0 hok hn;have e:q.getD n (0,0,0,[],0,0,[],())=Sp.nodeAt q n:=rfl;dsimp only;rw[auA,e];simp only[auR];refine dn (by omega) ⟨⟨by omega,by omega⟩,?_⟩;by_cases h5:(Sp.nodeAt q n).1=5
  .have hb:=NT hk (.inl h5);simp only[h5,Int.reduceBEq,axh,awK];have fin:je q n (out.set (Sp.nodeAt q n).2.1.toNat (true,()))=Sp.negated q:=by rw[← abM h5];exact hJ
   exact⟨⟨by omega,by omega⟩,by omega,trivial,next _ ⟨by simp[hl],fin⟩⟩
  by_cases TG:(Sp.nodeAt q n).1=6\/(Sp.nodeAt q n).1=7
  .have hb:=NT hk (.inr TG);have hb2:=NU hk TG;have hne:(Sp.nodeAt q n).2.1.toNat≠n:=by omega
   have fin:je q n ((out.set (Sp.nodeAt q n).2.1.toNat ((out.getD n (false,())).1,())).set (Sp.nodeAt q n).2.2.1.toNat ((out.getD n (false,())).1,()))=Sp.negated q:=by rw[← abN TG];exact hJ
   rcases TG with h6|h6
   all_goals
    simp only[h6,Int.reduceBEq,axh,awK,getD_set_ne _ _ _ _ _ hne];exact⟨⟨by omega,by omega⟩,by omega,⟨by omega,by omega⟩,by omega,⟨by omega,by omega⟩,by omega,⟨by omega,by omega⟩,by omega,trivial,next _ ⟨by simp[hl],fin⟩⟩
  .have h6:(Sp.nodeAt q n).1≠6:=λh=>TG (.inl h);have h7:(Sp.nodeAt q n).1≠7:=λh=>TG (.inr h);have fin:je q n out=Sp.negated q:=by rw[Zq h5 h6 h7]at hJ;exact hJ
   simp only[auu.2 h5,auu.2 h6,auu.2 h7,awK];exact⟨rfl,next _ ⟨hl,fin⟩⟩
 .obtain⟨out,⟨⟩⟩:=s;obtain⟨hl,hJ⟩:=hJ;dsimp only;refine dw (by omega) ?_;have hJ:out=Sp.negated q:=hJ;rw[hJ]
end Go.Proofs.Tryz
