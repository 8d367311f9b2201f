import Derived.Test.YtkgkfdphbkfjnaaGreatP4
namespace Go.Proofs.Tryz
open Go Go.Fw Go.IntWalk Sp
theorem Vo(a:Int)(x:bK):(Sp.refsOf a x:Int)=(if(x.1=6\/x.1=7\/x.1=5)/\x.2.1=a then 1 else 0)+(if(x.1=6\/x.1=7)/\x.2.2.1=a then 1 else 0):=by unfold Sp.refsOf jG;by_cases h6:x.1=6<;>by_cases h7:x.1=7<;>by_cases h5:x.1=5<;>by_cases hl:x.2.1=a<;>by_cases hr:x.2.2.1=a<;>simp[cond_eq_ite,h6,h7,h5,hl,hr]
theorem aqF(a:Int)(x:bK):Sp.refsOf a x<=2:=by have:=Vo a x;split at this<;>split at this<;>omega
def oq(q:List bK)(a:Int)(n:Nat):Nat:=((q.take n).map (Sp.refsOf a)).sum
theorem Rt(q:List bK)(a:Int){n:Nat}(hn:n<q.length):oq q a (n+1)=oq q a n+Sp.refsOf a (Sp.nodeAt q n):=by unfold oq;rw[Sp.take_succ' q n (0,0,0,[],0,0,[],()) hn];simp only[avd,List.sum_append,auW,List.map_nil,awm,List.sum_nil,avT];rfl
theorem Zn(q:List bK)(a:Int):∀n,n<=q.length->oq q a n<=2*n
 |0,_=>by simp[oq]
 |n+1,h=>by rw[Rt q a (by omega)];have:=Zn q a n (by omega);have:=aqF a (Sp.nodeAt q n);omega
theorem afY(q:List bK)(a:Int):oq q a q.length=nC q a:=by unfold oq nC;rw[auO]
theorem PZ:OK sO.e:=by
 refine PA.ok mixed (au [] trivial) Ru (by kernel_rfl) (show∀q at',sO.goal (P5 q at') (q,at',())from ?_);intro q a hin hp;dsimp only[sO]at hp ⊢;have hp:q.length<=1000000:=hp;refine dM (λi(c:Int)=>((c,i,()),())) (λy=>y.1.2.1) (λ_ _=>rfl) q.length (by omega) (λn c=>c=(oq q a n:Int)) rfl (λI μ n c hn hJ next=>?_) λI μ c hJ=>?_
 .subst hJ;have hs:=Rt q a hn;have hb:=Zn q a n (by omega);have hr:=Vo a (Sp.nodeAt q n);dsimp only;rw[auA];have e:q.getD n (0,0,0,[],0,0,[],())=Sp.nodeAt q n:=rfl;rw[e];have w1:IntKind.i64.wrap ((oq q a n:Int)+1)=(oq q a n:Int)+1:=eP _ (by omega);have w2:IntKind.i64.wrap ((oq q a n:Int)+1+1)=(oq q a n:Int)+1+1:=eP _ (by omega);refine dn (by omega) ⟨⟨by omega,by omega⟩,af (λh6=>⟨λy=>y=(((oq q a n:Int)+(if(Sp.nodeAt q n).2.1=a then 1 else 0),()),()),⟨⟨by omega,by omega⟩,af (λhl=>⟨rfl,?_⟩) λhl=>⟨rfl,?_⟩⟩,?_⟩) λh6=>⟨⟨by omega,by omega⟩,λy=>y=(((oq q a n:Int)+(if((Sp.nodeAt q n).1=7\/(Sp.nodeAt q n).1=5)/\(Sp.nodeAt q n).2.1=a then 1 else 0),()),()),?_,?_⟩⟩
  .simp only[auE]at hl;rw[w1,if_pos hl]
  .simp only[auu]at hl;rw[if_neg hl,awj]
  .rintro _ rfl;simp only[auE]at h6;refine⟨⟨by omega,by omega⟩,af (λhrr=>⟨rfl,next _ ?_⟩) λhrr=>⟨rfl,next _ ?_⟩⟩
   all_goals
    dsimp only;simp only[auE,auu,ne_eq]at hrr;by_cases hl:(Sp.nodeAt q n).2.1=a<;>simp[h6,hl,hrr]at hr<;>simp only[hl,if_true,awV,awj,w1,w2]<;>omega
  .simp only[auu,ne_eq]at h6;refine af (λh7=>⟨⟨by omega,by omega⟩,af (λhl=>⟨rfl,?_⟩) λhl=>⟨rfl,?_⟩⟩) λh7=>⟨⟨by omega,by omega⟩,af (λh5=>⟨⟨by omega,by omega⟩,af (λhl=>⟨rfl,?_⟩) λhl=>⟨rfl,?_⟩⟩) λh5=>⟨rfl,?_⟩⟩
   all_goals simp_all
  .rintro _ rfl;simp only[auu,ne_eq]at h6;refine af (λh7=>⟨⟨by omega,by omega⟩,af (λhrr=>⟨rfl,next _ ?_⟩) λhrr=>⟨rfl,next _ ?_⟩⟩) λh7=>⟨rfl,next _ ?_⟩
   .simp only[auE]at h7 hrr;by_cases hl:(Sp.nodeAt q n).2.1=a<;>simp[h6,h7,hl,hrr]at hr<;>simp only[h7,hl,true_or,and_self,and_false,if_true,awV,awj,w1,w2]<;>omega
   .simp only[auE,auu,ne_eq]at h7 hrr;by_cases hl:(Sp.nodeAt q n).2.1=a<;>simp[h6,h7,hl,hrr]at hr<;>simp only[h7,hl,true_or,and_self,and_false,if_true,awV,awj,w1,w2]<;>omega
   .simp only[auu,ne_eq]at h7;dsimp only;by_cases h5:(Sp.nodeAt q n).1=5<;>by_cases hl:(Sp.nodeAt q n).2.1=a<;>simp[h6,h7,h5,hl]at hr<;>simp[h7,h5,hl]<;>omega
 .dsimp only;refine dw (by omega) ?_;rw[hJ,afY]
theorem P6:OK sQ.e:=by
 refine PA.ok mixed (au [] trivial) Rw (by kernel_rfl) (show∀q at',sQ.goal (P7 q at') (q,at',())from ?_);intro q a hin hp;dsimp only[sQ]at hp ⊢;have hp:q.length<=1000000:=hp;refine dM (λi(c:Int)=>((c,i,()),())) (λy=>y.1.2.1) (λ_ _=>rfl) q.length (by omega) (λn c=>c=(oq q a n:Int)) rfl (λI μ n c hn hJ next=>?_) λI μ c hJ=>?_
 .subst hJ;have hs:=Rt q a hn;have hb:=Zn q a n (by omega);have hr:=Vo a (Sp.nodeAt q n);dsimp only;rw[auA];have e:q.getD n (0,0,0,[],0,0,[],())=Sp.nodeAt q n:=rfl;rw[e];have w1:IntKind.i64.wrap ((oq q a n:Int)+1)=(oq q a n:Int)+1:=eP _ (by omega);have w2:IntKind.i64.wrap ((oq q a n:Int)+1+1)=(oq q a n:Int)+1+1:=eP _ (by omega);refine dn (by omega) ⟨⟨by omega,by omega⟩,af (λh6=>⟨λy=>y=(((oq q a n:Int)+(if(Sp.nodeAt q n).2.1=a then 1 else 0),()),()),af (λhl=>⟨rfl,?_⟩) λhl=>⟨rfl,?_⟩,?_⟩) λh6=>⟨λy=>y=(((oq q a n:Int)+(if((Sp.nodeAt q n).1=7\/(Sp.nodeAt q n).1=5)/\(Sp.nodeAt q n).2.1=a then 1 else 0),()),()),?_,?_⟩⟩
  .simp only[auE]at hl;rw[w1,if_pos hl]
  .simp only[auu]at hl;rw[if_neg hl,awj]
  .rintro _ rfl;simp only[auE]at h6;refine af (λhrr=>⟨rfl,next _ ?_⟩) λhrr=>⟨rfl,next _ ?_⟩
   all_goals
    dsimp only;simp only[auE,auu,ne_eq]at hrr;by_cases hl:(Sp.nodeAt q n).2.1=a<;>simp[h6,hl,hrr]at hr<;>simp only[hl,if_true,awV,awj,w1,w2]<;>omega
  .simp only[auu,ne_eq]at h6;refine af (λhl=>af (λh7=>⟨rfl,?_⟩) λh7=>af (λh5=>⟨rfl,?_⟩) λh5=>⟨rfl,?_⟩) λhl=>⟨rfl,?_⟩
   all_goals simp_all
  .rintro _ rfl;simp only[auu,ne_eq]at h6;refine af (λhrr=>af (λh7=>⟨rfl,next _ ?_⟩) λh7=>⟨rfl,next _ ?_⟩) λhrr=>⟨rfl,next _ ?_⟩
   .simp only[auE]at h7 hrr;by_cases hl:(Sp.nodeAt q n).2.1=a<;>simp[h6,h7,hl,hrr]at hr<;>simp only[h7,hl,true_or,and_self,and_false,if_true,awV,awj,w1,w2]<;>omega
   .simp only[auu,ne_eq]at h7;dsimp only;by_cases h5:(Sp.nodeAt q n).1=5<;>by_cases hl:(Sp.nodeAt q n).2.1=a<;>simp[h6,h7,h5,hl]at hr<;>simp[h7,h5,hl]<;>omega
   .simp only[auu,ne_eq]at hrr;dsimp only;by_cases h7:(Sp.nodeAt q n).1=7<;>by_cases h5:(Sp.nodeAt q n).1=5<;>by_cases hl:(Sp.nodeAt q n).2.1=a<;>simp[h6,h7,h5,hl,hrr]at hr<;>simp[h7,h5,hl]<;>omega
 .dsimp only;refine dw (by omega) ?_;rw[hJ,afY]
theorem afZ{q:List bK}{n:Nat}(hn:n<q.length)(h:l9 q n=false):bQ q=false:=by unfold bQ;rw[DX hn h];rfl
theorem Dn:OK nP.e:=by
 refine PA.ok mixed (au [iT.e,sO.e,yK.e] ⟨jA,PZ,WQ,trivial⟩) WU (by kernel_rfl) (show∀q,nP.goal (Vp q) (q,())from ?_);intro q hin hp;dsimp only[nP]at hp ⊢;have hp:q.length<=1000000:=hp;refine iL q.length (by omega) (λn=>∀i,i<n->l9 q i=true) (λi hi=>by omega) (λI μ n hn hJ next=>?_) λI μ hJ=>?_
 .dsimp only;have no:l9 q n=false->(false,())=(bQ q,()):=λh=>by rw[afZ hn h]
  rw[wU (show 0<q.length by omega) (by omega)];refine dn (by omega) ⟨⟨by omega,by omega⟩,trivial,af (λh2=>no ?_) λh2=>af (λh3=>⟨hp,af (λh4=>no ?_) λh4=>⟨rfl,next (fJ hJ ?_)⟩⟩) λh3=>⟨rfl,next (fJ hJ ?_)⟩⟩
  .have h2:kK (Sp.nodeAt q n) n=false:=dQ h2;unfold l9;rw[h2];rfl
  .have h2:kK (Sp.nodeAt q n) n=true:=bP h2;have h4:(nC q n:Int)≠1:=by simpa using h4
   have h3:(n:Int)<(q.length:Int)-1:=by have:=fG h3;omega
   unfold l9;simp only[h3,h2];simp;omega
  .have h2:kK (Sp.nodeAt q n) n=true:=bP h2;have h4:(nC q n:Int)=1:=by simpa using h4
   have h4:nC q n=1:=by omega
   unfold l9;simp[h2,h4]
  .have h2:kK (Sp.nodeAt q n) n=true:=bP h2;have h3:¬(n:Int)<(q.length:Int)-1:=by have:=fZ h3;omega
   unfold l9;simp[h2,h3]
 .dsimp only;refine dw (by omega) ⟨trivial,congrArg (·,()) ?_⟩;unfold bQ;rw[oh hJ];rfl
theorem Dl:OK nR.e:=by
 refine PA.ok mixed (au [kT.e,sQ.e,yL.e] ⟨pV,P6,WO,trivial⟩) WV (by kernel_rfl) (show∀q,nR.goal (Vq q) (q,())from ?_);intro q hin hp;dsimp only[nR]at hp ⊢;have hp:q.length<=1000000:=hp;refine iL q.length (by omega) (λn=>∀i,i<n->l9 q i=true) (λi hi=>by omega) (λI μ n hn hJ next=>?_) λI μ hJ=>?_
 .dsimp only;have no:l9 q n=false->(false,())=(bQ q,()):=λh=>by rw[afZ hn h]
  rw[wU (show 0<q.length by omega) (by omega)];refine dn (by omega) ⟨⟨by omega,by omega⟩,trivial,af (λh2=>no ?_) λh2=>af (λh3=>⟨hp,af (λh4=>no ?_) λh4=>⟨rfl,next (fJ hJ ?_)⟩⟩) λh3=>⟨rfl,next (fJ hJ ?_)⟩⟩
  .have h2:kK (Sp.nodeAt q n) n=false:=dQ h2;unfold l9;rw[h2];rfl
  .have h2:kK (Sp.nodeAt q n) n=true:=bP h2;have h4:(nC q n:Int)≠1:=by simpa using h4
   have h3:(n:Int)<(q.length:Int)-1:=by have:=fG h3;omega
   unfold l9;simp only[h3,h2];simp;omega
  .have h2:kK (Sp.nodeAt q n) n=true:=bP h2;have h4:(nC q n:Int)=1:=by simpa using h4
   have h4:nC q n=1:=by omega
   unfold l9;simp[h2,h4]
  .have h2:kK (Sp.nodeAt q n) n=true:=bP h2;have h3:¬(n:Int)<(q.length:Int)-1:=by have:=fZ h3;omega
   unfold l9;simp[h2,h3]
 .dsimp only;refine dw (by omega) ⟨trivial,congrArg (·,()) ?_⟩;unfold bQ;rw[oh hJ];rfl
theorem aik{d:List aF}{n:Nat}(hn:n<d.length)(h:kE d n=false):bI d=false:=by unfold bI;rw[DX hn h];rfl
theorem Ef:OK oZ.e:=by
 refine PA.ok mixed (au [nP.e,mD.e] ⟨Dn,BA,trivial⟩) Zo (by kernel_rfl) (show∀d,oZ.goal (WW d) (d,())from ?_);intro d hin hp;dsimp only[oZ]at hp ⊢;have hp:aC d:=hp;have hlen:d.length<=1000:=hp.1;refine iL d.length (by omega) (λn=>∀i,i<n->kE d i=true) (λi hi=>by omega) (λI μ n hn hJ next=>?_) λI μ hJ=>?_
 .dsimp only;have no:kE d n=false->(false,())=(bI d,()):=λh=>by rw[aik hn h]
  have hq:(bH d n).2.1.length<=1000000:=auM (mZ hp hn) (by omega);refine dn (by omega) ⟨⟨by omega,by omega⟩,trivial,af (λh2=>no ?_) λh2=>⟨⟨by omega,by omega⟩,hq,af (λh3=>no ?_) λh3=>af (λh4=>?_) λh4=>⟨rfl,next (fJ hJ ?_)⟩⟩⟩
  .have h2:iD (bH d n).1=false:=dQ h2;unfold kE;rw[h2];rfl
  .have h3:bQ (bH d n).2.1=false:=dQ h3;unfold kE;rw[h3];simp
  .have h2:iD (bH d n).1=true:=bP h2;have h3:bQ (bH d n).2.1=true:=bP h3;have h4:0<n:=by have:=fG h4;omega
   rw[wU h4 (by omega)];refine⟨⟨by omega,by omega⟩,⟨by omega,by omega⟩,af (λh5=>no ?_) λh5=>⟨rfl,next (fJ hJ ?_)⟩⟩
   .have h5:Op.bytesLess (bH d (n-1)).1 (bH d n).1=false:=dQ h5;unfold kE;rw[h2,h3,h5,auB h4];rfl
   .have h5:Op.bytesLess (bH d (n-1)).1 (bH d n).1=true:=bP h5;unfold kE;rw[h2,h3,h5,auB h4];rfl
  .have h2:iD (bH d n).1=true:=bP h2;have h3:bQ (bH d n).2.1=true:=bP h3;have h4:¬0<n:=by have:=fZ h4;omega
   unfold kE;rw[h2,h3,auD h4];rfl
 .dsimp only;refine dw (by omega) (congrArg (·,()) ?_);unfold bI;rw[oh hJ];rfl
theorem Eg:OK o9.e:=by
 refine PA.ok mixed (au [nR.e,mF.e] ⟨Dl,BB,trivial⟩) Zp (by kernel_rfl) (show∀d,o9.goal (WX d) (d,())from ?_);intro d hin hp;dsimp only[o9]at hp ⊢;have hp:aC d:=hp;have hlen:d.length<=1000:=hp.1;refine iL d.length (by omega) (λn=>∀i,i<n->kE d i=true) (λi hi=>by omega) (λI μ n hn hJ next=>?_) λI μ hJ=>?_
 .dsimp only;have no:kE d n=false->(false,())=(bI d,()):=λh=>by rw[aik hn h]
  have hq:(bH d n).2.1.length<=1000000:=auM (mZ hp hn) (by omega);refine dn (by omega) ⟨⟨by omega,by omega⟩,trivial,af (λh2=>no ?_) λh2=>af (λh4=>?_) λh4=>⟨hq,af (λh3=>no ?_) λh3=>⟨rfl,next (fJ hJ ?_)⟩⟩⟩
  .have h2:iD (bH d n).1=false:=dQ h2;unfold kE;rw[h2];rfl
  .have h2:iD (bH d n).1=true:=bP h2;have h4:0<n:=by have:=fG h4;omega
   rw[wU h4 (by omega)];refine⟨⟨by omega,by omega⟩,af (λh5=>no ?_) λh5=>⟨hq,af (λh3=>no ?_) λh3=>⟨rfl,next (fJ hJ ?_)⟩⟩⟩
   .have h5:Op.bytesLess (bH d (n-1)).1 (bH d n).1=false:=dQ h5;unfold kE;rw[h5,auB h4];simp
   .have h3:bQ (bH d n).2.1=false:=dQ h3;unfold kE;rw[h3];simp
   .have h3:bQ (bH d n).2.1=true:=bP h3;have h5:Op.bytesLess (bH d (n-1)).1 (bH d n).1=true:=bP h5;unfold kE;rw[h2,h3,h5,auB h4];rfl
  .have h3:bQ (bH d n).2.1=false:=dQ h3;unfold kE;rw[h3];simp
  .have h2:iD (bH d n).1=true:=bP h2;have h3:bQ (bH d n).2.1=true:=bP h3;have h4:¬0<n:=by have:=fZ h4;omega
   unfold kE;rw[h2,h3,auD h4];rfl
 .dsimp only;refine dw (by omega) (congrArg (·,()) ?_);unfold bI;rw[oh hJ];rfl
end Go.Proofs.Tryz
