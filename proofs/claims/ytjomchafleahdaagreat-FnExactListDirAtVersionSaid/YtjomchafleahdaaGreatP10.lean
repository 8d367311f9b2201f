import Derived.Test.YtjomchafleahdaaGreatP1
import Derived.Test.YtjomchafleahdaaGreatSp
import Derived.Lib.ItoaLen
namespace Go.Proofs.Tryz
open Go Go.Fw Go.IntWalk Sp
theorem RD{d:List aC}{ax r:List (Int×Unit)}(h:Sp.raised d ax r)(h0:∀i,i<d.length->0<=Sp.lv ax i)(hp:gq (bW d) λi=>(Sp.lv ax i).toNat):∀i,i<d.length->Sp.lv r i=Sp.lv ax i:=by obtain⟨_,h2,_,_,h5⟩:=h;intro i hi;have a:Sp.lv ax i<=Sp.lv r i:=h2 i hi;have b:Sp.lv r i<=((Sp.lv ax i).toNat:Int):=h5 _ hp (λj hj=>by have:=h0 j hj;show Sp.lv ax j<=((Sp.lv ax j).toNat:Int);omega) i hi;have:=h0 i hi;omega
theorem afM{d:List aC}{ax r:List (Int×Unit)}(h:Sp.raised d ax r)(hp:¬gq (bW d) λi=>(Sp.lv ax i).toNat):∃i,i<d.length/\Sp.lv ax i<Sp.lv r i:=by obtain⟨_,h2,_,h4,_⟩:=h;refine arK λhno=>hp (h4 λi hi=>?_);have a:Sp.lv ax i<=Sp.lv r i:=h2 i hi;have b:¬Sp.lv ax i<Sp.lv r i:=λh=>hno ⟨i,hi,h⟩;show Sp.lv r i=Sp.lv ax i;omega
theorem adE{d:List aC}(h1:dR d=true){L:Nat->Nat}(h2:gq (bW d) L):aK d=true:=jm.2 ⟨h1,L,h2⟩
theorem afN{d:List aC}(h:∀M,gq (bW d) M->(∀i,i<d.length->M i<d.length)->False):aK d=false:=by rw[asL];intro h1;obtain⟨_,h2⟩:=jm.1 h1;obtain⟨M,h3,h4⟩:=Ey (jv d) h2;exact h M h3 h4
theorem adF{d:List aC}(h:dR d=false):aK d=false:=by rw[asL];intro h1;rw[(jm.1 h1).1]at h;cases h
theorem MG(n i:Nat):Sp.lv (List.replicate n (0,())) i=0:=by
 unfold Sp.lv;rw[arp];by_cases h:i<n
 .rw[List.getElem?_replicate,if_pos h];rfl
 .rw[asw (by simp;omega)];rfl
theorem afO{d:List aC}(h:aK d=true):∃s,jS d s:=by obtain⟨hok,h2⟩:=jm.1 h;exact Za (Ey (jv d) h2)
theorem Zb{d:List aC}:∃s:List (Int×Unit),(aK d=true->jS d s)/\(aK d=false->s=[]):=by
 cases h:aK d with
 |true=>obtain⟨s,hs⟩:=afO h;exact⟨s,λ_=>hs,λh=>by cases h⟩
 |false=>exact⟨[],λh=>(by cases h),λ_=>rfl⟩
theorem MH:OK xu.e:=by
 refine xH [uM.e,oC.e,rV.e] ⟨JQ,WM,PO,⟨⟩⟩ aea (λ⟨d,_⟩ hp=>by obtain⟨s,h1,h2⟩:=Zb (d:=d);exact⟨(((s,aK d,()),())),⟨rfl,h1,h2⟩⟩) λd=>show xu.goal (abR d) (d,())fromλhin hp=>?_
 dsimp only[xu]at hp ⊢;have hp:fO d:=hp;refine⟨hp,af (λh=>⟨(adF (jb h)).symm,λh=>(by cases h),λ_=>rfl⟩) λh=>?_⟩;have hok:=dZ h;have hp:qC d:=zH hok;have hlen:=Oc hok;refine⟨⟨by omega,by omega,by rw[dw];omega⟩,?_⟩;have hnn:d.length*d.length<=25:=atp hlen hlen;have e1:(d.length:Int)*(d.length:Int)=((d.length*d.length:Nat):Int):=by simp
 have w:IntKind.i64.wrap (IntKind.i64.wrap ((d.length:Int)*(d.length:Int))+1)=((d.length*d.length:Nat):Int)+1:=by rw[e1,gm ((d.length*d.length:Nat):Int) (by omega)];exact gm _ (by omega)
 rw[w];have hmem:∀ax:List (Int×Unit),ax.length=d.length->∀k:Nat,k<=27->(∀i,i<d.length->0<=Sp.lv ax i/\Sp.lv ax i<=5000*k)->∀x∈ax,0<=x.1/\x.1<=1000000:=λax hl k hk h=>
  afP (p:=λz=>0<=z/\z<=1000000) λi hi=>by have:=h i (by omega);omega
 refine fZ (λi(x:List (Int×Unit))=>((x,i,()),())) (λy=>y.1.2.1) (λ_ _=>rfl) (d.length*d.length+2) (by omega)
  (λk ax=>ax.length=d.length/\(∀i,i<d.length->0<=Sp.lv ax i/\Sp.lv ax i<=5000*k)/\(∀M,gq (bW d) M->∀i,i<d.length->Sp.lv ax i<=M i)/\((gq (bW d) λi=>(Sp.lv ax i).toNat)\/(k:Int)<=sZ ax d.length))
  ⟨by simp,λi hi=>by rw[arn,MG];omega,λM hM i hi=>by rw[arn,MG];omega,.inr (RG _ λi hi=>by rw[arn,MG];omega)⟩ (λI μ k ax hk hJ next=>?_) λI μ ax hJ=>?_
 .obtain⟨g1,g2,g3,g4⟩:=hJ;dsimp only;refine dB (by omega) ⟨⟨hp,hlen,g1,hmem ax g1 k (by omega) g2⟩,?_⟩;rintro⟨⟨r,⟨⟩⟩,⟨⟩⟩ hr;have hr:Sp.raised d ax r:=hr;have hr':=hr;obtain⟨q1,q2,q3,q4,q5⟩:=hr';have hup:∀i,i<d.length->Sp.lv ax i<=Sp.lv r i:=q2;refine⟨rfl,next r ⟨q1,λi hi=>?_,λM hM i hi=>q5 M hM (g3 M hM) i hi,?_⟩⟩
  .have a:=hup i hi;have b:=q3 (5000*k) (λj hj=>(g2 j hj).2) i hi;have b:Sp.lv r i<=5000*k+5000:=b;have c:=g2 i hi;omega
  .by_cases hpf:gq (bW d) λi=>(Sp.lv ax i).toNat
   .left;have hs:=RD hr (λi hi=>(g2 i hi).1) hpf;intro e he;have:=hpf e he;obtain⟨a,b,_⟩:=jv d e he;dsimp only at this ⊢;rw[hs _ a,hs _ b];exact this
   .right;have hm:=WN d.length hup (afM hr hpf);rcases g4 with g4|g4
    .exact(hpf g4).elim
    .omega
 .obtain⟨g1,g2,g3,g4⟩:=hJ;dsimp only;refine dm (by omega) ⟨⟨hp,hlen,g1,hmem ax g1 _ (by omega) g2⟩,?_⟩;rintro⟨⟨r,⟨⟩⟩,⟨⟩⟩ hr;have hr:Sp.raised d ax r:=hr;refine⟨trivial,af (λhne=>?_) λhe=>?_⟩
  .have hne:¬r=ax:=iG (jb hne);refine⟨(afN λM hM hb=>?_).symm,λh=>(by cases h),λ_=>rfl⟩;rcases g4 with g4|g4
   .exact hne (ajF (by rw[hr.1,g1]) λi hi=>RD hr (λi hi=>(g2 i hi).1) g4 i (by rw[← hr.1];exact hi))
   .have:=KN (a:=ax) (b:=d.length) d.length λi hi=>by have a:=g3 M hM i hi;have b:=hb i hi;omega
    omega
  .have he:r=ax:=iq (dZ he);subst he;have hpf:=hr.2.2.2.1 λi hi=>rfl;obtain⟨M,hM,hb⟩:=Ey (jv d) ⟨_,hpf⟩;exact⟨(adE hok hpf).symm,λ_=>⟨g1,λi hi=>⟨(g2 i hi).1,by have a:=g3 M hM i hi;have b:=hb i hi;omega⟩,hpf,g3⟩,λh=>by cases h⟩
theorem MI:OK xq.e:=by
 refine xH [qP.e,rY.e,qO.e,rW.e] ⟨Oe,PS,Og,PU,⟨⟩⟩ aeb (λ⟨d,_⟩ hp=>by obtain⟨s,h1,h2⟩:=Zb (d:=d);exact⟨(((s,aK d,()),())),⟨rfl,h1⟩⟩) λd=>show xq.goal (abS d) (d,())fromλhin hp=>?_
 dsimp only[xq]at hp ⊢;have hp:fO d:=hp;refine⟨hp,af (λh=>⟨(adF (jb h)).symm,λh=>by cases h⟩) λh=>?_⟩;have hok:=dZ h;have hp:qC d:=zH hok;have hlen:=Oc hok;refine⟨⟨by omega,by omega,by rw[dw];omega⟩,?_⟩;have hmem:∀ax:List (Int×Unit),ax.length=d.length->(∀i,i<d.length->0<=Sp.lv ax i/\Sp.lv ax i<=d.length)->∀x∈ax,0<=x.1/\x.1<=1000000:=λax hl h=>
  afP (p:=λz=>0<=z/\z<=1000000) λi hi=>by have:=h i (by omega);omega
 refine⟨λy=>y.2.1.length=d.length/\(∀i,i<d.length->0<=Sp.lv y.2.1 i/\Sp.lv y.2.1 i<=d.length)/\(∀M,gq (bW d) M->∀i,i<d.length->Sp.lv y.2.1 i<=M i)/\(y.1.1=false->gq (bW d) λi=>(Sp.lv y.2.1 i).toNat),
  λy=>(((d.length*d.length:Nat):Int)-sZ y.2.1 d.length).toNat*2+(if y.1.1=true then 1 else 0),⟨by simp,λi hi=>by rw[arn,MG];omega,λM hM i hi=>by rw[arn,MG];omega,λh=>by cases h⟩,?_⟩
 rintro⟨⟨ch,⟨⟩⟩,ax,⟨⟩⟩ ⟨g1,g2,g3,g4⟩;dsimp only at g1 g2 g3 g4 ⊢;refine af (λhch=>?_) λhch=>⟨(adE hok (g4 hch)).symm,λ_=>⟨g1,g2,g4 hch,g3⟩⟩;subst hch;refine fZ (λi(x:Bool×List (Int×Unit))=>((x.1,i,()),x.2,())) (λy=>y.1.2.1) (λ_ _=>rfl) d.length (by omega)
  (λi(x:Bool×List (Int×Unit))=>x.2.length=d.length/\(∀i,i<d.length->Sp.lv ax i<=Sp.lv x.2 i/\Sp.lv x.2 i<=d.length)/\(∀M,gq (bW d) M->∀i,i<d.length->Sp.lv x.2 i<=M i)/\
    (x.1=true->sZ ax d.length<sZ x.2 d.length)/\(x.1=false->x.2=ax/\∀e∈bW d,e.1<i->Sp.lv ax e.2.1+e.2.2<=Sp.lv ax e.1))
  (s0:=(false,ax)) ⟨g1,λi hi=>⟨arM _,(g2 i hi).2⟩,g3,λh=>(by cases h),λ_=>⟨rfl,λe _ h=>by omega⟩⟩ (λI μ i x hi hJ next=>?_) λI μ x hJ=>?_
 .obtain⟨c,cur⟩:=x;obtain⟨q1,q2,q3,q4,q5⟩:=hJ;have q1:cur.length=d.length:=q1;have hcur:∀i,i<d.length->0<=Sp.lv cur i/\Sp.lv cur i<=d.length:=λi hi=>⟨Int.le_trans (g2 i hi).1 (q2 i hi).1,(q2 i hi).2⟩;have hm:=hmem cur q1 hcur;dsimp only;rw[arn];refine dB (by omega) ⟨⟨by omega,by omega⟩,Fj hp hi,?_⟩;rintro⟨⟨r4,⟨⟩⟩,⟨⟩⟩ hr4;have hr4:gK r4 (dM (bT d i).2.1 false):=hr4;refine⟨⟨by omega,hr4.1,by omega,by omega,hm⟩,Fj hp hi,?_⟩;rintro⟨⟨r6,⟨⟩⟩,⟨⟩⟩ hr6;have hr6:gK r6 (dM (bT d i).2.1 true):=hr6;refine⟨⟨by omega,hr6.1,by omega,by omega,hm⟩,?_⟩;dsimp only;have hle:∀M,gq (bW d) M->rZ d cur 0 r4<=M i/\rZ d cur 1 r6<=M i:=by
   intro M hM;refine⟨(Dz r4 _).2 ⟨by omega,λx hx h0=>?_⟩,(Dz r6 _).2 ⟨by omega,λx hx h0=>?_⟩⟩
   .have he:=zI.2 ⟨hi,x.1,.inl ⟨rfl,(hr4.2 x.1).1 hx⟩,h0,rfl⟩;have a:=hM _ he;have a:M (aG d x.1).toNat+0<=M i:=a;have b:=q3 M hM _ (jv d _ he).2.1;have b:Sp.lv cur (aG d x.1).toNat<=M (aG d x.1).toNat:=b;omega
   .have he:=zI.2 ⟨hi,x.1,.inr ⟨rfl,(hr6.2 x.1).1 hx⟩,h0,rfl⟩;have a:=hM _ he;have a:M (aG d x.1).toNat+1<=M i:=a;have b:=q3 M hM _ (jv d _ he).2.1;have b:Sp.lv cur (aG d x.1).toNat<=M (aG d x.1).toNat:=b;omega
  have hge:∀e∈bW d,e.1=i->Sp.lv cur e.2.1+e.2.2<=rZ d cur 0 r4\/Sp.lv cur e.2.1+e.2.2<=rZ d cur 1 r6:=by
   rintro⟨a,b,m⟩ he ha;have ha:a=i:=ha;subst ha;have hm1:m<=1:=(jv d _ he).2.2;rcases asq m with h|h
   .subst h;obtain⟨p,p1,p2,p3⟩:=JR hr4 he rfl;left;have:=((Dz (d:=d) (ax:=cur) (more:=0) r4 _).1 (arM _)).2 _ (getD_mem (d:=(([]:List UInt8),())) p1) p2;show Sp.lv cur b+((0:Nat):Int)<=_;rw[p3];omega
   .have:m=1:=by omega
    subst this;obtain⟨p,p1,p2,p3⟩:=JR hr6 he rfl;right;have:=((Dz (d:=d) (ax:=cur) (more:=1) r6 _).1 (arM _)).2 _ (getD_mem (d:=(([]:List UInt8),())) p1) p2;show Sp.lv cur b+((1:Nat):Int)<=_;rw[p3];omega
  generalize rZ d cur 0 r4=u at hle hge ⊢;generalize rZ d cur 1 r6=v at hle hge ⊢;have hv:∃z,(if v>u then v else u)=z/\u<=z/\v<=z/\(z=u\/z=v):=by refine⟨_,rfl,?_,?_,?_⟩<;>split<;>omega
  obtain⟨z,ez,hz1,hz2,hz3⟩:=hv;rw[ez];have e2:(cur.getD i (0,())).1=Sp.lv cur i:=rfl;rw[e2];refine af (λhbig=>?_) λhbig=>⟨⟨by omega,by omega⟩,by omega,af (λhup=>⟨⟨by omega,by omega⟩,by omega,rfl,next (true,cur.set i (z,())) ?_⟩) λhup=>⟨rfl,next (c,cur) ?_⟩⟩
  .have hbig:z>(d.length:Int):=iq hbig;refine⟨(afN λM hM hb=>?_).symm,λh=>by cases h⟩;have a:=hle M hM;have b:=hb i hi;omega
  .have hbig:¬z>(d.length:Int):=iG hbig;have hup:z>Sp.lv cur i:=iq hup;have hs:=λk=>afQ (l:=cur) (i:=i) (by omega) z k;refine⟨by simp;omega,λk hk=>?_,λM hM k hk=>?_,λ_=>?_,λh=>by cases h⟩
   .dsimp only;rw[hs];have:=q2 k hk;dsimp only at this;split
    .next e=>subst e;omega
    .exact this
   .dsimp only;rw[hs];split
    .next e=>subst e;have:=hle M hM;omega
    .exact q3 M hM k hk
   .have a:=WO (a:=ax) (b:=cur) d.length λk hk=>(q2 k hk).1;have hsk:∀k,k<d.length->Sp.lv cur k<=Sp.lv (cur.set i (z,())) k:=λk hk=>by
     rw[hs];split
     .next e=>subst e;omega
     .exact arM _
    have b:=WN (a:=cur) (b:=cur.set i (z,())) d.length hsk ⟨i,hi,by rw[hs,if_pos rfl];omega⟩;show sZ ax d.length<sZ (cur.set i (z,())) d.length;omega
  .have hup:¬z>Sp.lv cur i:=iG hup;refine⟨q1,q2,q3,q4,λh=>?_⟩;obtain⟨a,b⟩:=q5 h;have a:cur=ax:=a;subst a;refine⟨rfl,λe he hlt=>?_⟩;rcases ark e.1 i with h'|h'
   .exact b e he h'
   .have YU:e.1=i:=by omega
    have:=hge e he YU;rw[YU];omega
 .obtain⟨c,cur⟩:=x;obtain⟨q1,q2,q3,q4,q5⟩:=hJ;dsimp only at q1 q2 q3 q4 q5 ⊢;have hcur:∀i,i<d.length->0<=Sp.lv cur i/\Sp.lv cur i<=d.length:=λi hi=>⟨Int.le_trans (g2 i hi).1 (q2 i hi).1,(q2 i hi).2⟩;have hsum:=KN (a:=cur) (b:=d.length) d.length λi hi=>(q2 i hi).2;refine dm (by omega) ⟨rfl,⟨q1,hcur,q3,λhc e he=>?_⟩,?_⟩
  .obtain⟨a,b⟩:=q5 hc;subst a;obtain⟨x1,x2,_⟩:=jv d e he;have:=b e he x1;have y1:=(hcur _ x1).1;have y2:=(hcur _ x2).1;dsimp only;omega
  .cases c with
   |true=>
    have:=q4 rfl;simp only[if_true];omega
   |false=>obtain⟨a,_⟩:=q5 rfl;subst a;simp
end Go.Proofs.Tryz
namespace Go.Proofs.Tryz
open Go Go.Fw Go.IntWalk Sp
abbrev V0:fH:=(0,[],[],0,[],0,())
theorem RH(s:Int):∀(d:List fH)(k:Int),(AQ k d s=-1/\∀x∈d,x.1≠s)\/∃n,n<d.length/\AQ k d s=k+n/\(kW d n).1=s/\∀i,i<n->(kW d i).1≠s
 |[],k=>.inl ⟨rfl,λx hx=>by cases hx⟩
 |x::r,k=>by
  by_cases h:x.1=s
  .right;refine⟨0,by simp,?_,h,λi hi=>by omega⟩;rw[AQ,aq9.2 h];simp
  .rcases RH s r (k+1)with⟨h1,h2⟩|⟨n,h1,h2,h3,h4⟩
   .left;refine⟨by rw[AQ,aq4.2 h];exact h1,λy hy=>?_⟩;rcases arD.1 hy with rfl|hy
    .exact h
    .exact h2 y hy
   .right;refine⟨n+1,by simp;omega,by rw[AQ,aq4.2 h];show AQ (k+1) r s=_;omega,h3,λi hi=>?_⟩;cases i with
    |zero=>exact h
    |succ i=>exact h4 i (by omega)
theorem Fp(d:List fH)(s:Int):(bF d s=-1/\∀x∈d,x.1≠s)\/∃n,n<d.length/\bF d s=n/\(kW d n).1=s/\∀i,i<n->(kW d i).1≠s:=by
 rcases RH s d 0 with h|⟨n,h1,h2,h3⟩
 .exact .inl h
 .exact .inr ⟨n,h1,by show AQ 0 d s=_;omega,h3⟩
theorem KO{d:List fH}{s:Int}(h:0<=bF d s):bF d s<d.length:=by rcases Fp d s with⟨h1,_⟩|⟨n,h1,h2,_⟩<;>omega
theorem VE{d:List fH}{s:Int}{n:Nat}(hn:n<d.length)(h1:(kW d n).1=s)(h2:∀i,i<n->(kW d i).1≠s):bF d s=n:=by
 rcases Fp d s with⟨_,h⟩|⟨m,g1,g2,g3,g4⟩
 .exact(h _ (getD_mem (d:=V0) hn) h1).elim
 .have:m=n:=by
   rcases asM m n with h|h|h
   .exact(h2 m h g3).elim
   .exact h
   .exact(g4 n h h1).elim
  rw[g2,this]
theorem VF{d:List fH}{s:Int}(h2:∀i,i<d.length->(kW d i).1≠s):bF d s=-1:=by
 rcases Fp d s with⟨h,_⟩|⟨m,g1,_,g3,_⟩
 .exact h
 .exact(h2 m g1 g3).elim
theorem KP{v:List fH}{n:Int}(h:0<=bF v n):dI v n=(H6 (kW v (bF v n).toNat),true):=by unfold dI;rw[arh h];rfl
theorem Oh{v:List fH}{n:Int}(h:¬0<=bF v n):dI v n=(([],[],0,[],()),false):=by unfold dI;rw[ars h];rfl
end Go.Proofs.Tryz
namespace Go.Proofs.Tryz
open Go Go.Fw Go.IntWalk Sp
theorem Oq:∀{l:List dK}{n:Nat}{s:Sp.Bytes},n<l.length->(∀i,i<n->(bV l i).1≠s)->(bV l n).1=s->eH l s=(bV l n).2
 |[],n,_,h,_,_=>by simp at h
 |x::r,0,s,_,_,e=>by
  have e:x.1=s:=e;rw[eH,aq9.2 e];rfl
 |x::r,n+1,s,h,hn,e=>by have h0:x.1≠s:=hn 0 (by omega);rw[eH,aq4.2 h0];exact Oq (l:=r) (by simpa using h) (λi hi=>hn (i+1) (by omega)) e
theorem IY:∀{l:List dK}{s:Sp.Bytes},(∀i,i<l.length->(bV l i).1≠s)->eH l s=(0,0,[],())
 |[],_,_=>rfl
 |x::r,s,h=>by have h0:x.1≠s:=h 0 (by simp);rw[eH,aq4.2 h0];exact IY λi hi=>h (i+1) (by simpa using hi)
theorem J8:OK qo.e:=by
 refine aZ [] ⟨⟩ acM λf0 f1 f2 f3 l s=>show qo.goal (aas f0 f1 f2 f3 l s) ((f0,f1,f2,f3,l,()),s,())fromλhin hp=>?_
 dsimp only[qo]at hp ⊢;have hlen:l.length<=maxLen:=hin.1.2.2.2.2.1.1;rw[maxLen_eq]at hlen;refine dW l.length hlen (λn=>∀i,i<n->(bV l i).1≠s) (λi hi=>by omega) (λI μ n hn hJ next=>?_) λI μ hJ=>?_
 .dsimp only;refine dB (by omega) ⟨⟨by omega,by omega⟩,af (λh=>?_) λh=>⟨rfl,next λi hi=>?_⟩⟩
  .exact congrArg (·,()) (Oq hn hJ (aq9.1 h)).symm
  .rcases ark i n with h'|h'
   .exact hJ i h'
   .have:i=n:=by omega
    rw[this];exact aq4.1 h
 .dsimp only;exact dm (by omega) (congrArg (·,()) (IY hJ).symm)
theorem aat:OK uN.e:=by
 refine aZ [] ⟨⟩ acN λf0 f1 f2 f3 l s=>show uN.goal (aau f0 f1 f2 f3 l s) ((f0,f1,f2,f3,l,()),s,())fromλhin hp=>?_
 dsimp only[uN]at hp ⊢;have hlen:l.length<=maxLen:=hin.1.2.2.2.2.1.1;rw[maxLen_eq]at hlen;refine dW l.length hlen (λn=>∀i,i<n->(bV l i).1≠s) (λi hi=>by omega) (λI μ n hn hJ next=>?_) λI μ hJ=>?_
 .dsimp only;refine dB (by omega) ⟨⟨by omega,by omega⟩,af (λh=>⟨⟨by omega,by omega⟩,?_⟩) λh=>⟨rfl,next λi hi=>?_⟩⟩
  .exact congrArg (·,()) (Oq hn hJ (aq9.1 h)).symm
  .rcases ark i n with h'|h'
   .exact hJ i h'
   .have:i=n:=by omega
    rw[this];exact aq4.1 h
 .dsimp only;exact dm (by omega) (congrArg (·,()) (IY hJ).symm)
theorem aav:OK uO.e:=by
 refine aZ [qo.e] ⟨J8,⟨⟩⟩ H0 λf0 f1 f2 f3 l s=>show uO.goal (aaw f0 f1 f2 f3 l s) ((f0,f1,f2,f3,l,()),s,())fromλhin hp=>?_
 dsimp only[uO]at hp ⊢;refine⟨trivial,?_⟩;cases h:((eH l s).1==1)with
 |true=>dsimp only[bne];rw[h];rfl
 |false=>dsimp only[bne];rw[h];rfl
theorem adK{α β:Type}[BEq β][LawfulBEq β](g:α->β)(v:β)(s:List α):Sp.findAt (λx=>v==g x) s=Sp.findAt (λx=>g x==v) s:=by
 congr 1
 funext x
 rw[arz,aq9,aq9];exact eq_comm
theorem P5:OK su.e:=by
 refine aZ [] ⟨⟩ Sr λs v=>show su.goal (P6 s v) (s,v,())fromλhin hp=>?_
 dsimp only[su]at hp ⊢;exact ajL (K:=λr=>r=(Sp.findAt (λx=>x.1==v) s,())) (λx:Int×Unit=>v==x.1) (0,()) s _ hin.1.1 (by rw[adK])
theorem KR:OK oG.e:=by
 refine aZ [] ⟨⟩ MS λs v=>show oG.goal (KT s v) (s,v,())fromλhin hp=>?_
 dsimp only[oG]at hp ⊢;exact ajL (K:=λr=>r=(Sp.findAt (λx=>x.1==v) s,())) (λx:List UInt8×Unit=>v==x.1) ([],()) s _ hin.1.1 (by rw[adK])
theorem KU:OK oD.e:=by
 refine aZ [su.e] ⟨P5,⟨⟩⟩ H0 λs v=>show oD.goal (KW s v) (s,v,())fromλhin hp=>?_
 dsimp only[oD]at hp ⊢;exact⟨trivial,congrArg (·,()) (afW _ s)⟩
theorem Hr:OK lT.e:=by
 refine aZ [oG.e] ⟨KR,⟨⟩⟩ H0 λs v=>show lT.goal (Ht s v) (s,v,())fromλhin hp=>?_
 dsimp only[lT]at hp ⊢;exact⟨trivial,congrArg (·,()) (afW _ s)⟩
theorem Sv:OK o8.e:=by
 refine aZ [oD.e] ⟨KU,⟨⟩⟩ H0 λs v=>show o8.goal (Sz s v) (s,v,())fromλhin hp=>?_
 dsimp only[o8]at hp ⊢;exact⟨trivial,rfl⟩
theorem SA:OK o9.e:=by
 refine aZ [] ⟨⟩ U2 λs v=>show o9.goal (SB s v) (s,v,())fromλhin hp=>?_
 dsimp only[o9]at hp ⊢;exact apP (K:=λr=>r=(jh s v,())) (λx:Int×Unit=>x.1==v) (0,()) s _ hin.1.1 rfl
theorem P7:OK sD.e:=by
 refine aZ [] ⟨⟩ SC λs=>show sD.goal (P8 s) (s,())fromλhin hp=>?_
 dsimp only[sD]at hp ⊢;have hp:s.length<=10000000:=hp;intro g hg;refine af (λh=>?_) λh=>⟨by rw[dw];omega,rfl⟩;exact congrArg (·,()) (arP.1 (hg h)).symm
abbrev RR0:bM:=([],[],())
theorem adL{r:List bM}(h:bU r){n:Nat}(hn:n<r.length):(r.getD n RR0).2.1.length<=1000:=h.2 _ (getD_mem (d:=RR0) hn)
theorem aax{r:List bM}{n:Nat}{s:Sp.Bytes}(hn:n<r.length)(hJ:∀i,i<n->(nT r i).1≠s)(e:(nT r n).1=s):dY r s=fK r n:=by rw[← e];exact SE hn λj hj=>by rw[e];exact hJ j hj
theorem Bj:OK kZ.e:=by
 refine aZ [sD.e] ⟨P7,⟨⟩⟩ XP λr s=>show kZ.goal (U3 r s) (r,s,())fromλhin hp=>?_
 dsimp only[kZ]at hp ⊢;have hp:bU r:=hp;have hlen:r.length<=1000:=hp.1;refine dW r.length (by omega) (λn=>∀i,i<n->(nT r i).1≠s) (λi hi=>by omega) (λI μ n hn hJ next=>?_) λI μ hJ=>?_
 .dsimp only;refine dB (by omega) ⟨⟨by omega,by omega⟩,af (λh=>⟨aq7 (adL hp hn) (by decide),?_⟩) λh=>⟨rfl,next λi hi=>?_⟩⟩
  .exact congrArg (·,()) (aax hn hJ (aq9.1 h)).symm
  .rcases ark i n with h'|h'
   .exact hJ i h'
   .have:i=n:=by omega
    rw[this];exact aq4.1 h
 .dsimp only;exact dm (by omega) (congrArg (·,()) (FP hJ).symm)
theorem GH:OK nC.e:=by
 refine aZ [] ⟨⟩ XQ λr s=>show nC.goal (U4 r s) (r,s,())fromλhin hp=>?_
 dsimp only[nC]at hp ⊢;have hp:bU r:=hp;have hlen:r.length<=1000:=hp.1;refine dW r.length (by omega) (λn=>∀i,i<n->(nT r i).1≠s) (λi hi=>by omega) (λI μ n hn hJ next=>?_) λI μ hJ=>?_
 .dsimp only;refine dB (by omega) ⟨⟨by omega,by omega⟩,af (λh=>⟨⟨by omega,by omega⟩,by have:(r.getD n ([],[],())).2.1.length<=1000:=adL hp hn;rw[dw,arn];omega,?_⟩) λh=>⟨rfl,next λi hi=>?_⟩⟩
  .exact congrArg (·,()) (aax hn hJ (aq9.1 h)).symm
  .rcases ark i n with h'|h'
   .exact hJ i h'
   .have:i=n:=by omega
    rw[this];exact aq4.1 h
 .dsimp only;exact dm (by omega) (congrArg (·,()) (FP hJ).symm)
theorem XR{q:List aT}{f:ay}{X:BX}{a:Nat}(h5:(Sp.nodeAt q a).1≠5)(h6:(Sp.nodeAt q a).1≠6)(h7:(Sp.nodeAt q a).1≠7):Sp.val q f X a=jw (Sp.nodeAt q a) f X:=by rw[MV,if_neg h5,if_neg h6,if_neg h7]
theorem aho{q:List aT}{f:ay}{X:BX}{a:Nat}(h5:(Sp.nodeAt q a).1=5)(hl:(Sp.nodeAt q a).2.1.toNat<a):Sp.val q f X a=!Sp.val q f X (Sp.nodeAt q a).2.1.toNat:=by rw[MV q f X a,if_pos h5,dif_pos hl]
theorem ahp{q:List aT}{f:ay}{X:BX}{a:Nat}(h6:(Sp.nodeAt q a).1=6)(hl:(Sp.nodeAt q a).2.1.toNat<a/\(Sp.nodeAt q a).2.2.1.toNat<a):Sp.val q f X a=(Sp.val q f X (Sp.nodeAt q a).2.1.toNat&&Sp.val q f X (Sp.nodeAt q a).2.2.1.toNat):=by rw[MV q f X a,if_neg (by omega),if_pos h6,dif_pos hl]
theorem ajM{q:List aT}{f:ay}{X:BX}{a:Nat}(h7:(Sp.nodeAt q a).1=7)(hl:(Sp.nodeAt q a).2.1.toNat<a/\(Sp.nodeAt q a).2.2.1.toNat<a):Sp.val q f X a=(Sp.val q f X (Sp.nodeAt q a).2.1.toNat||Sp.val q f X (Sp.nodeAt q a).2.2.1.toNat):=by rw[MV q f X a,if_neg (by omega),if_neg (by omega),if_pos h7,dif_pos hl]
theorem alD{n:aT}{f:ay}{X:BX}(h:n.1=2):jw n f X=!((eH f.2.2.2.2.1 n.2.2.2.1).1==0):=by unfold jw;rw[h];rfl
theorem alE{n:aT}{f:ay}{X:BX}(h:n.1=3):jw n f X=decide (eH f.2.2.2.2.1 n.2.2.2.1=(n.2.2.2.2.1,n.2.2.2.2.2.1,n.2.2.2.2.2.2.1,())):=by unfold jw;rw[h];rfl
theorem alF{n:aT}{f:ay}{X:BX}(h:n.1=4):jw n f X=((eH f.2.2.2.2.1 n.2.2.2.1).1==1&&decide ((eH f.2.2.2.2.1 n.2.2.2.1).2.1<n.2.2.2.2.2.1)):=by unfold jw;rw[h];rfl
theorem alG{n:aT}{f:ay}{X:BX}(h:n.1=8):jw n f X=X n.2.2.2.1 f.1:=by unfold jw;rw[h];rfl
theorem alH{n:aT}{f:ay}{X:BX}(h:n.1=9):jw n f X=(!(f.2.2.2.1==0)&&X n.2.2.2.1 f.2.2.2.1):=by unfold jw;rw[h];rfl
theorem alI{n:aT}{f:ay}{X:BX}(h2:n.1≠2)(h3:n.1≠3)(h4:n.1≠4)(h8:n.1≠8)(h9:n.1≠9):jw n f X=true:=by unfold jw;rw[aq4.2 h2,aq4.2 h3,aq4.2 h4,aq4.2 h8,aq4.2 h9];rfl
theorem eq3(v w:SG):(v.1==w.1&&(v.2.1==w.2.1&&(v.2.2.1==w.2.2.1&&true)))=decide (v=w):=by rw[arz];simp[Prod.ext_iff]
theorem EF{x y z:Int}(h:x=y)(hne:y≠z):x≠z:=by rw[h];exact hne
theorem aiE{n:aT}{a:Int}(h:iR n a=true):n.1=1\/n.1=2\/n.1=3\/n.1=4\/n.1=5\/n.1=6\/n.1=7\/n.1=8\/n.1=9:=by unfold iR at h;dsimp only at h;refine arK λhno=>?_;have e:∀k:Int,n.1≠k->(n.1==k)=false:=λk hk=>aq4.2 hk;rw[e 1 (λh=>hno (by simp[h])),e 2 (λh=>hno (by simp[h])),e 3 (λh=>hno (by simp[h])),e 4 (λh=>hno (by simp[h])),e 5 (λh=>hno (by simp[h])),e 6 (λh=>hno (by simp[h])),e 7 (λh=>hno (by simp[h])),e 8 (λh=>hno (by simp[h])),e 9 (λh=>hno (by simp[h]))]at h;cases h
theorem Jh[yj](KX:ja prog G oM ru):ja prog G BL zn:=by
 refine Ji (aeE [o8.e,kZ.e,(oM,.pure ru),uO.e,qo.e] ⟨Sv,Bj,⟨KX,Je⟩,aav,J8,trivial⟩) ?_;intro q a f0 f1 f2 f3 f4 r hin hp;obtain⟨⟨hq,h0,h1,hr⟩,hm⟩:=hp;have ha:a.toNat<q.length:=by omega
 obtain⟨k1,k2⟩:=MW hq ha;have fin:∀z:Bool,Sp.val q (f0,f1,f2,f3,f4,()) (aW r) a.toNat=z->(z,())=(Sp.val q (f0,f1,f2,f3,f4,()) (aW r) a.toNat,()):=λz h=>by rw[h]
 have leaf:∀k:Int,k≠5->k≠6->k≠7->(Sp.nodeAt q a.toNat).1=k->Sp.val q (f0,f1,f2,f3,f4,()) (aW r) a.toNat=jw (Sp.nodeAt q a.toNat) (f0,f1,f2,f3,f4,()) (aW r):=λk a b c h=>XR (EF h a) (EF h b) (EF h c);have kid:∀k:Int,0<=k->k.toNat<a.toNat->(aU q=true/\0<=k/\k<(q.length:Int)/\bU r)/\k.toNat<yt:=λk h2 h3=>⟨⟨hq,h2,by omega,hr⟩,by omega⟩;refine⟨⟨h0,h1⟩,af (λh=>⟨trivial,fin _ ((leaf 2 (by decide) (by decide) (by decide) (aq9.1 h)).trans (alD (aq9.1 h)))⟩) λh2=>af (λh=>⟨trivial,fin _ ((leaf 3 (by decide) (by decide) (by decide) (aq9.1 h)).trans ((alE (aq9.1 h)).trans (eq3 _ _).symm))⟩) λh3=>af (λh=>⟨trivial,?_⟩) λh4=>af (λh=>?_) λh5=>af (λh=>?_) λh6=>af (λh=>?_) λh7=>af (λh=>⟨hr,trivial,fin _ ((leaf 8 (by decide) (by decide) (by decide) (aq9.1 h)).trans (alG (aq9.1 h)))⟩) λh8=>af (λh=>?_) λh9=>?_⟩
 .have e:=(leaf 4 (by decide) (by decide) (by decide) (aq9.1 h)).trans (alF (aq9.1 h));dsimp only at e ⊢;refine af (λg=>fin _ (e.trans ?_)) λg=>fin _ (e.trans ?_)
  .unfold Sp.nodeAt;rw[g];rfl
  .unfold Sp.nodeAt;rw[g];rfl
 .have hk:=k1 (.inl (aq9.1 h));exact⟨kid _ hk.1 hk.2,fin _ (aho (aq9.1 h) hk.2)⟩
 .have ht:kK (Sp.nodeAt q a.toNat)=true:=vV.2 (.inl (aq9.1 h));have hk:=k1 (.inr ht);have hk2:=k2 ht;have e:=ahp (f:=(f0,f1,f2,f3,f4,())) (X:=aW r) (aq9.1 h) ⟨hk.2,hk2.2⟩;refine⟨kid _ hk.1 hk.2,af (λg=>⟨kid _ hk2.1 hk2.2,fin _ (e.trans ?_)⟩) λg=>fin _ (e.trans ?_)⟩
  .have g:Sp.val q (f0,f1,f2,f3,f4,()) (aW r) (Sp.nodeAt q a.toNat).2.1.toNat=true:=g;rw[g];rfl
  .have g:Sp.val q (f0,f1,f2,f3,f4,()) (aW r) (Sp.nodeAt q a.toNat).2.1.toNat=false:=g;rw[g];rfl
 .have ht:kK (Sp.nodeAt q a.toNat)=true:=vV.2 (.inr (aq9.1 h));have hk:=k1 (.inr ht);have hk2:=k2 ht;have e:=ajM (f:=(f0,f1,f2,f3,f4,())) (X:=aW r) (aq9.1 h) ⟨hk.2,hk2.2⟩;refine⟨kid _ hk.1 hk.2,af (λg=>fin _ (e.trans ?_)) λg=>⟨kid _ hk2.1 hk2.2,fin _ (e.trans ?_)⟩⟩
  .have g:Sp.val q (f0,f1,f2,f3,f4,()) (aW r) (Sp.nodeAt q a.toNat).2.1.toNat=true:=g;rw[g];rfl
  .have g:Sp.val q (f0,f1,f2,f3,f4,()) (aW r) (Sp.nodeAt q a.toNat).2.1.toNat=false:=g;rw[g];rfl
 .have e:=(leaf 9 (by decide) (by decide) (by decide) (aq9.1 h)).trans (alH (aq9.1 h));refine af (λg=>⟨hr,trivial,fin _ (e.trans ?_)⟩) λg=>fin _ (e.trans ?_)
  .have g:(!(f3==0))=true:=g;dsimp only;rw[g];rfl
  .have g:(!(f3==0))=false:=g;dsimp only;rw[g];rfl
 .have n2:=aq4.1 h2;have n3:=aq4.1 h3;have n4:=aq4.1 h4;have n8:=aq4.1 h8;have n9:=aq4.1 h9;exact fin _ ((XR (aq4.1 h5) (aq4.1 h6) (aq4.1 h7)).trans (alI n2 n3 n4 n8 n9))
theorem U5:ja prog G Dl FV:=
 ajr (λn=>@Dn ⟨n⟩) (λn=>@Bo ⟨n⟩) (by rintro⟨q,at',⟨i,o,s,l,a,⟨⟩⟩,r,⟨⟩⟩ h;exact asV _ h.2) (by rintro _ ⟨q,at',⟨i,o,s,l,a,⟨⟩⟩,r,⟨⟩⟩;rfl) (by rintro⟨q,at',⟨i,o,s,l,a,⟨⟩⟩,r,⟨⟩⟩ h;exact⟨_,h,Nat.lt_succ_self _⟩) (by rintro _ ⟨q,at',⟨i,o,s,l,a,⟨⟩⟩,r,⟨⟩⟩;rfl) λn h=>@Jh ⟨n⟩ h
theorem MX[yj](Ot:ja prog G qZ uP):ja prog G Ep Bv:=by
 refine MZ (aeE [o9.e,nC.e,(qZ,.pure uP),uN.e] ⟨SA,GH,⟨Ot,L6⟩,aat,trivial⟩) ?_;intro q a f0 f1 f2 f3 f4 r hin hp;obtain⟨⟨hq,h0,h1,hr⟩,hm⟩:=hp;have ha:a.toNat<q.length:=by omega
 obtain⟨k1,k2⟩:=MW hq ha;have fin:∀z:Bool,Sp.val q (f0,f1,f2,f3,f4,()) (aW r) a.toNat=z->(z,())=(Sp.val q (f0,f1,f2,f3,f4,()) (aW r) a.toNat,()):=λz h=>by rw[h]
 have leaf:∀k:Int,k≠5->k≠6->k≠7->(Sp.nodeAt q a.toNat).1=k->Sp.val q (f0,f1,f2,f3,f4,()) (aW r) a.toNat=jw (Sp.nodeAt q a.toNat) (f0,f1,f2,f3,f4,()) (aW r):=λk a b c h=>XR (EF h a) (EF h b) (EF h c);have kid:∀k:Int,0<=k->k.toNat<a.toNat->(aU q=true/\0<=k/\k<(q.length:Int)/\bU r)/\k.toNat<yt:=λk h2 h3=>⟨⟨hq,h2,by omega,hr⟩,by omega⟩;refine⟨⟨h0,h1⟩,trivial,af (λh=>fin _ ((leaf 1 (by decide) (by decide) (by decide) (aq9.1 h)).trans (alI (EF (aq9.1 h) (by decide)) (EF (aq9.1 h) (by decide)) (EF (aq9.1 h) (by decide)) (EF (aq9.1 h) (by decide)) (EF (aq9.1 h) (by decide))))) λh1=>af (λh=>fin _ ((leaf 2 (by decide) (by decide) (by decide) (aq9.1 h)).trans (alD (aq9.1 h)))) λh2=>af (λh=>fin _ ((leaf 3 (by decide) (by decide) (by decide) (aq9.1 h)).trans ((alE (aq9.1 h)).trans (eq3 _ _).symm))) λh3=>af (λh=>?_) λh4=>af (λh=>?_) λh5=>af (λh=>?_) λh6=>af (λh=>?_) λh7=>af (λh=>⟨hr,trivial,fin _ ((leaf 8 (by decide) (by decide) (by decide) (aq9.1 h)).trans (alG (aq9.1 h)))⟩) λh8=>?_⟩
 .have e:=(leaf 4 (by decide) (by decide) (by decide) (aq9.1 h)).trans (alF (aq9.1 h));dsimp only at e ⊢;refine af (λg=>fin _ (e.trans ?_)) λg=>fin _ (e.trans ?_)
  .unfold Sp.nodeAt;rw[g];rfl
  .unfold Sp.nodeAt;rw[g];rfl
 .have hk:=k1 (.inl (aq9.1 h));exact⟨kid _ hk.1 hk.2,fin _ (aho (aq9.1 h) hk.2)⟩
 .have ht:kK (Sp.nodeAt q a.toNat)=true:=vV.2 (.inl (aq9.1 h));have hk:=k1 (.inr ht);have hk2:=k2 ht;have e:=ahp (f:=(f0,f1,f2,f3,f4,())) (X:=aW r) (aq9.1 h) ⟨hk.2,hk2.2⟩;refine⟨kid _ hk.1 hk.2,af (λg=>⟨kid _ hk2.1 hk2.2,fin _ (e.trans ?_)⟩) λg=>fin _ (e.trans ?_)⟩
  .have g:Sp.val q (f0,f1,f2,f3,f4,()) (aW r) (Sp.nodeAt q a.toNat).2.1.toNat=true:=g;rw[g];rfl
  .have g:Sp.val q (f0,f1,f2,f3,f4,()) (aW r) (Sp.nodeAt q a.toNat).2.1.toNat=false:=g;rw[g];rfl
 .have ht:kK (Sp.nodeAt q a.toNat)=true:=vV.2 (.inr (aq9.1 h));have hk:=k1 (.inr ht);have hk2:=k2 ht;have e:=ajM (f:=(f0,f1,f2,f3,f4,())) (X:=aW r) (aq9.1 h) ⟨hk.2,hk2.2⟩;refine⟨kid _ hk.1 hk.2,af (λg=>fin _ (e.trans ?_)) λg=>⟨kid _ hk2.1 hk2.2,fin _ (e.trans ?_)⟩⟩
  .have g:Sp.val q (f0,f1,f2,f3,f4,()) (aW r) (Sp.nodeAt q a.toNat).2.1.toNat=true:=g;rw[g];rfl
  .have g:Sp.val q (f0,f1,f2,f3,f4,()) (aW r) (Sp.nodeAt q a.toNat).2.1.toNat=false:=g;rw[g];rfl
 .have n1:=aq4.1 h1;have n2:=aq4.1 h2;have n3:=aq4.1 h3;have n4:=aq4.1 h4;have n5:=aq4.1 h5;have n6:=aq4.1 h6;have n7:=aq4.1 h7;have n8:=aq4.1 h8;have h9:(Sp.nodeAt q a.toNat).1=9:=by
   rcases aiE (IZ hq ha).1 with h|h|h|h|h|h|h|h|h
   .exact(n1 h).elim
   .exact(n2 h).elim
   .exact(n3 h).elim
   .exact(n4 h).elim
   .exact(n5 h).elim
   .exact(n6 h).elim
   .exact(n7 h).elim
   .exact(n8 h).elim
   .exact h
  have e:=(leaf 9 (by decide) (by decide) (by decide) h9).trans (alH h9);refine af (λg=>⟨hr,trivial,fin _ (e.trans ?_)⟩) λg=>fin _ (e.trans ?_)
  .have g:(!(f3==0))=true:=g;dsimp only;rw[g];rfl
  .have g:(!(f3==0))=false:=g;dsimp only;rw[g];rfl
theorem aay:ja prog G Fg Ib:=
 ajr (λn=>@EN ⟨n⟩) (λn=>@DU ⟨n⟩) (by rintro⟨q,at',⟨i,o,s,l,a,⟨⟩⟩,r,⟨⟩⟩ h;exact asV _ h.2) (by rintro _ ⟨q,at',⟨i,o,s,l,a,⟨⟩⟩,r,⟨⟩⟩;rfl) (by rintro⟨q,at',⟨i,o,s,l,a,⟨⟩⟩,r,⟨⟩⟩ h;exact⟨_,h,Nat.lt_succ_self _⟩) (by rintro _ ⟨q,at',⟨i,o,s,l,a,⟨⟩⟩,r,⟨⟩⟩;rfl) λn h=>@MX ⟨n⟩ h
theorem aaz:OK zO.e:=by
 refine aZ [(Dl,.pure FV),kM.e] ⟨⟨U5,Ru⟩,wW,⟨⟩⟩ H0 λq f0 f1 f2 f3 f4 r=>show zO.goal (aaA q f0 f1 f2 f3 f4 r) (q,(f0,f1,f2,f3,f4,()),r,())fromλhin hp=>?_
 dsimp only[zO]at hp ⊢;obtain⟨h1,h2⟩:=hp;have e:∀z,aU q=z->ku q (f0,f1,f2,f3,f4,()) (aW r)=(z&&Sp.val q (f0,f1,f2,f3,f4,()) (aW r) (q.length-1)):=λz hz=>by unfold ku;rw[hz]
 refine⟨by omega,af (λh=>?_) λh=>?_⟩
 .have hl:=Sp.yg h;rw[rJ (by omega) (by omega)];refine⟨⟨h,by omega,by omega,h2⟩,?_⟩;rw[e _ h,arn];rfl
 .rw[e _ h];rfl
theorem aaB:OK zQ.e:=by
 refine aZ [(Fg,.pure Ib),kL.e] ⟨⟨aay,WE⟩,wX,⟨⟩⟩ H0 λq f0 f1 f2 f3 f4 r=>show zQ.goal (aaC q f0 f1 f2 f3 f4 r) (q,(f0,f1,f2,f3,f4,()),r,())fromλhin hp=>?_
 dsimp only[zQ]at hp ⊢;obtain⟨h1,h2⟩:=hp;have e:∀z,aU q=z->ku q (f0,f1,f2,f3,f4,()) (aW r)=(z&&Sp.val q (f0,f1,f2,f3,f4,()) (aW r) (q.length-1)):=λz hz=>by unfold ku;rw[hz]
 refine⟨by omega,af (λh=>?_) λh=>?_⟩
 .have hl:=Sp.yg h;rw[rJ (by omega) (by omega)];refine⟨⟨h,by omega,by omega,h2⟩,?_⟩;rw[e _ h,arn];rfl
 .rw[e _ h];rfl
theorem P9:OK sF.e:=by
 refine aZ [zO.e] ⟨aaz,⟨⟩⟩ SH λs0 fs nx q r=>show sF.goal (Qa s0 fs nx q r) ((s0,fs,nx,()),q,r,())fromλhin hp=>?_
 dsimp only[sF]at hp ⊢;obtain⟨h1,h2,h3⟩:=hp;have hl:fs.length<=1000:=h1.2.1;exact XT (K:=λz=>z=(Sp.sel fs q (aW r),())) (λf=>ku q f (aW r)) (λf:ay=>(f.1,())) (0,0,false,0,[],()) fs _ (A:=λ_=>q.length<=1000/\bU r) (λ_ _=>⟨h2,h3⟩) (by omega) rfl
theorem Qb:OK sH.e:=by
 refine aZ [] ⟨⟩ SI λa b=>show sH.goal (Qc a b) (a,b,())fromλhin hp=>?_
 dsimp only[sH]at hp ⊢;exact eqL (K:=λr=>r=(decide (a=b),())) (λx y:Int×Unit=>x.1 !=y.1) (λx y=>by simp[Prod.ext_iff]) _ a b _ hin.1.1 rfl
end Go.Proofs.Tryz
namespace Go.Proofs.Tryz
open Go Go.Fw Go.IntWalk Sp
theorem akJ{fs:List ay}{a:List dH}{nx:Int}{d:List aC}(r:List bM)(nm:Sp.Bytes->Bool):∃out,(aK d&&bf (a,fs,nx,()))=true->kE fs d r nm out:=by
 by_cases h:(aK d&&bf (a,fs,nx,()))=true
 .rw[aq5]at h;obtain⟨ax,hl⟩:=afO h.1;obtain⟨out,ho⟩:=aaD r nm (jm.1 h.1).1 hl (AY h.2);exact⟨out,λ_=>ho⟩
 .exact⟨[],λh'=>(h h').elim⟩
theorem J9{fs:List ay}{a:List dH}{nx:Int}{d:List aC}(r:List bM)(nm:Sp.Bytes->Bool):∃out,((aK d&&bf (a,fs,nx,()))=true->kE fs d r nm out)/\((aK d&&bf (a,fs,nx,()))=false->out=[]):=by
 cases h:(aK d&&bf (a,fs,nx,()))with
 |true=>obtain⟨out,ho⟩:=akJ (fs:=fs) (a:=a) (nx:=nx) (d:=d) r nm;exact⟨out,λ_=>ho h,λh=>by cases h⟩
 |false=>exact⟨[],λh=>(by cases h),λ_=>rfl⟩
abbrev DD0:aC:=([],[],())
theorem am6{a b:Int}(h:(a !=b)=false):a=b:=by simpa using h
theorem afX{α β:Type}(g:α->β)(d:α)(l:List α){n:Nat}(h:n<l.length):(l.take n).map g++[g (l.getD n d)]=(l.take (n+1)).map g:=by rw[Sp.take_succ' l n d h,ar6];rfl
theorem DI{d:List aC}(h:aK d=true):dR d=true/\d.length<=5:=⟨(jm.1 h).1,Oc (jm.1 h).1⟩
theorem still_at{d:List aC}{ax:List (Int×Unit)}{nm:Sp.Bytes->Bool}{fs:List ay}{out:List bM}{k:Nat}
 (h:∀j,j<d.length->j<d.length->nm (Sp.nameOf d j)=true->Sp.lv ax j=k->Sp.sel fs (eU d j) (aW out)=fK out j):∀i,i<d.length->nm (Sp.nameOf d i)=true->Sp.lv ax i=k->Sp.sel fs (eU d i) (aW out)=fK out i:=λi hi=>h i hi hi
theorem afY:∀(l:List (Int×Unit)),0<l.length->∃m:Int,(∀x∈l,x.1<=m)/\(m,())∈l
 |[x],_=>⟨x.1,λy hy=>by rw[arQ.1 hy];exact arM _,arQ.2 rfl⟩
 |x::y::r,_=>by
  obtain⟨m,h1,h2⟩:=afY (y::r) (by simp);by_cases h:x.1<=m
  .exact⟨m,λz hz=>by rcases arD.1 hz with rfl|hz;exact h;exact h1 z hz,ard _ h2⟩
  .exact⟨x.1,λz hz=>by rcases arD.1 hz with rfl|hz;exact arM _;have:=h1 z hz;omega,arj⟩
theorem Qd:OK sG.e:=by
 refine aZ [zQ.e] ⟨aaB,⟨⟩⟩ SK λs0 fs nx q r=>show sG.goal (Qe s0 fs nx q r) ((s0,fs,nx,()),q,r,())fromλhin hp=>?_
 dsimp only[sG]at hp ⊢;obtain⟨h1,h2,h3⟩:=hp;have hl:fs.length<=1000:=h1.2.1;obtain⟨I,μ,g0,g1⟩:=XT (K:=λz=>z=(Sp.sel fs q (aW r),())) (λf=>ku q f (aW r)) (λf:ay=>(f.1,())) (0,0,false,0,[],()) fs (q,r,(s0,fs,nx,()),()) (A:=λ_=>q.length<=1000/\bU r) (λ_ _=>⟨h2,h3⟩) (by omega) rfl;refine⟨I,μ,g0,λy hy=>?_⟩;have h:=g1 y hy;dsimp only at h ⊢;revert h;cases decide (y.1.2.1<(fs.length:Int))with
 |false=>exact id
 |true=>
  rintro⟨b,a,h⟩;refine⟨b,a,?_⟩;revert h;cases ku q (fs.getD (Int.toNat y.1.2.1) (0,0,false,0,[],())) (aW r)with
  |true=>exactλh=>⟨b,h.1,rfl,h.2.2⟩
  |false=>exactλh=>⟨rfl,h.2⟩
theorem XU:OK yF.e:=by
 refine aZ [] ⟨⟩ aaE λd=>show yF.goal (XV d) (d,())fromλhin hp=>?_
 dsimp only[yF]at hp ⊢;exact apQ (K:=λr=>r=(lU d,())) (λx:aC=>(x.1,())) ([],[],()) d _ (by have hp:d.length<=2000000:=hp;omega) rfl
theorem U6:OK vZ.e:=by
 refine xH [] ⟨⟩ XW (λ⟨l,_⟩ hp=>by obtain⟨m,h⟩:=afY l hp;exact⟨((m,()),()),h⟩) λl=>show vZ.goal (U7 l) (l,())fromλhin hp=>?_
 dsimp only[vZ]at hp ⊢;have hp:0<l.length:=hp;have hlen:l.length<=maxLen:=hin.1.1;rw[maxLen_eq]at hlen;refine⟨λ_=>True,af (λh=>by have:=iq h;omega) λh=>⟨rfl,trivial⟩,λ_ _=>⟨⟨by omega,by omega⟩,?_⟩⟩;refine⟨λy=>∃n:Nat,y.1.2.1=n/\1<=n/\n<=l.length/\(∀i,i<n->Sp.lv l i<=y.1.1)/\∃i,i<l.length/\Sp.lv l i=y.1.1,λy=>((l.length:Int)-y.1.2.1).toNat,⟨1,rfl,by omega,by omega,λi hi=>by rw[show i=0 by omega];exact arM _,0,hp,rfl⟩,?_⟩;rintro⟨⟨m,_,⟨⟩⟩,⟨⟩⟩ ⟨n,rfl,n1,n2,h1,h2⟩;dsimp only at h1 h2 ⊢;refine af (λhc=>?_) λhc=>⟨λx hx=>?_,?_⟩
 .have hc:=iq hc;have w:IntKind.i64.wrap ((n:Int)+1)=((n+1:Nat):Int):=gm _ (by omega);rw[w];have e:(l.getD (Int.toNat (n:Int)) (0,())).1=Sp.lv l n:=rfl;rw[e];refine⟨⟨by omega,by omega⟩,rfl,⟨n+1,rfl,by omega,by omega,λi hi=>?_,?_⟩,by omega⟩
  .by_cases hi':i=n
   .subst hi';split<;>omega
   .have:=h1 i (by omega);split<;>omega
  .split
   .exact⟨n,by omega,rfl⟩
   .exact h2
 .have hc:=iG hc;exact afP (p:=λz=>z<=m) (λi hi=>h1 i (by omega)) x hx
 .obtain⟨i,hi,e⟩:=h2;have:=SL hi;rw[e]at this;exact this
theorem SN:OK um.e:=by
 refine xH [vZ.e,xq.e] ⟨U6,MI,⟨⟩⟩ H0 (λ⟨d,_⟩ _=>⟨(((1000:Int),()),()),⟨arM _,λax hs hl i hi=>by have:=(hl.2.1 i hi).2;have:=(DI hs).2;show Sp.lv ax i<=1000;omega⟩⟩) λd=>show um.goal (SQ d) (d,())fromλhin hp=>?_
 dsimp only[um]at hp ⊢;refine⟨hp,?_⟩;rintro⟨⟨ax,ok,⟨⟩⟩,⟨⟩⟩ ⟨e1,e2⟩;have e1:ok=aK d:=e1;have e2:ok=true->jS d ax:=e2;refine af (λh=>?_) λh=>af (λh2=>?_) λh2=>⟨?_,?_⟩
 .have h:ok=false:=jb h;exact⟨by decide,λl hs=>by rw[← e1,h]at hs;cases hs⟩
 .have h2:(ax.length:Int)=0:=by simpa using h2
  have hl:=e2 (dZ h);exact⟨by decide,λl hs hl' i hi=>by have:=hl.1;omega⟩
 .have h2:¬(ax.length:Int)=0:=by simpa using h2
  show 0<ax.length;omega
 .rintro⟨⟨m,⟨⟩⟩,⟨⟩⟩ ⟨g1,g2⟩;have hl:=e2 (dZ h);have hlen:=(DI (e1▸dZ h)).2;have g2:(m,())∈ax:=g2;refine⟨?_,λl hs hl' i hi=>?_⟩
  .obtain⟨i,hi,e⟩:=arN g2;have hi':i<d.length:=by rw[← hl.1];exact hi
   have:=(hl.2.1 i hi').2;have e3:Sp.lv ax i=m:=by unfold Sp.lv;rw[arp,aq8 hi,e];rfl
   show m<=1000;omega
  .rw[SS hl' hl];exact g1 _ (SL (by rw[hl.1];exact hi))
theorem SX:OK uo.e:=by
 refine xH [xu.e] ⟨MH,⟨⟩⟩ U8 (λ⟨d,_⟩ _=>⟨(((1000:Int),()),()),⟨arM _,λax hs hl i hi=>by have:=(hl.2.1 i hi).2;have:=(DI hs).2;show Sp.lv ax i<=1000;omega⟩⟩) λd=>show uo.goal (SY d) (d,())fromλhin hp=>?_
 dsimp only[uo]at hp ⊢;refine⟨hp,?_⟩;rintro⟨⟨ax,ok,⟨⟩⟩,⟨⟩⟩ ⟨e1,e2,e3⟩;have e1:ok=aK d:=e1;have e2:ok=true->jS d ax:=e2;have e3:ok=false->ax=[]:=e3;have hlen:ax.length<=5/\∀i,i<ax.length->Sp.lv ax i<=1000:=by
  cases hk:ok with
  |false=>rw[e3 hk];exact⟨by decide,λi hi=>by simp at hi⟩
  |true=>have hl:=e2 hk;have h5:=(DI (e1▸hk)).2;exact⟨by rw[hl.1];exact h5,λi hi=>by have:=(hl.2.1 i (by rw[← hl.1];exact hi)).2;omega⟩
 refine⟨λy=>∃n:Nat,y.1.2.1=n/\n<=ax.length/\y.1.1<=1000/\∀i,i<n->Sp.lv ax i<=y.1.1,λy=>((ax.length:Int)-y.1.2.1).toNat,⟨0,rfl,by omega,by decide,λi hi=>by omega⟩,?_⟩;rintro⟨⟨m,_,⟨⟩⟩,⟨⟩⟩ ⟨n,rfl,n2,hm,h1⟩;dsimp only at hm h1 ⊢;have e:(ax.getD (Int.toNat (n:Int)) (0,())).1=Sp.lv ax n:=rfl;rw[e];refine af (λhc=>?_) λhc=>?_
 .have hc:=iq hc;have w:IntKind.i64.wrap ((n:Int)+1)=((n+1:Nat):Int):=gm _ (by omega);rw[w];have aon:=hlen.2 n (by omega);refine⟨⟨by omega,by omega⟩,af (λg=>⟨⟨by omega,by omega⟩,rfl,⟨n+1,rfl,by omega,aon,λi hi=>?_⟩,by dsimp only;omega⟩) λg=>⟨rfl,⟨n+1,rfl,by omega,hm,λi hi=>?_⟩,by dsimp only;omega⟩⟩
  .have g:=iq g;by_cases hi':i=n
   .subst hi';exact arM _
   .have:=h1 i (by omega);dsimp only;omega
  .have g:=iG g;by_cases hi':i=n
   .subst hi';dsimp only;omega
   .exact h1 i (by omega)
 .have hc:=iG hc;refine⟨hm,λl hs hl' i hi=>?_⟩;have hl:=e2 (e1.trans hs);rw[SS hl' hl];exact h1 i (by rw[← hl.1]at hi;omega)
theorem U9:OK wo.e:=by
 refine xH [sH.e,sF.e,um.e,kZ.e,lT.e,ng.e,xq.e] ⟨Qb,P9,SN,Bj,Hr,Ew,MI,⟨⟩⟩ XY (λ⟨(a,fs,nx,_),d,r,names,_⟩ _=>by obtain⟨out,h⟩:=J9 (fs:=fs) (a:=a) (nx:=nx) (d:=d) r (qE names);exact⟨(((out,0,(aK d&&bf (a,fs,nx,())),()),())),⟨rfl,h⟩⟩) λa fs nx d r names=>show wo.goal (Va a fs nx d r names) ((a,fs,nx,()),d,r,names,())fromλhin hp=>?_
 dsimp only[wo]at hp ⊢;obtain⟨hs,hd,hr⟩:iK (a,fs,nx,())/\fO d/\bU r:=hp;refine⟨hd,?_⟩;rintro⟨⟨ax,ok0,⟨⟩⟩,⟨⟩⟩ ⟨e1,e2⟩;have e1:ok0=aK d:=e1;have e2:ok0=true->jS d ax:=e2;refine⟨λ_=>ok0=true/\bf (a,fs,nx,())=true,af (λh=>?_) λh=>⟨trivial,af (λh2=>?_) λh2=>⟨rfl,dZ h,dZ h2⟩⟩,?_⟩
 .have h:ok0=false:=jb h;have hz:(aK d&&bf (a,fs,nx,()))=false:=by rw[← e1,h];rfl
  exact⟨hz.symm,λh=>(by cases h),λ_=>rfl⟩
 .have h2:bf (a,fs,nx,())=false:=jb h2;have hz:(aK d&&bf (a,fs,nx,()))=false:=by rw[h2,asj]
  exact⟨hz.symm,λh=>(by cases h),λ_=>rfl⟩
 rintro y3 ⟨hk,hst⟩;have I4:aK d=true:=e1▸hk;have hz:(aK d&&bf (a,fs,nx,()))=true:=by rw[I4,hst];rfl
 obtain⟨hok,hlen⟩:=DI I4;have hd:qC d:=zH hok;have hl:jS d ax:=e2 hk;have hf:=AY hst;have hf:Sp.distinct fs:=hf;have hfs:fs.length<=1000:=hs.2.1;refine fZ (λi(x:List bM)=>(((),i,()),x,())) (λy=>y.1.2.1) (λ_ _=>rfl) d.length (by omega) (λn l=>l=(d.take n).map (vP r (qE names))) rfl (λI μ n l hn hJ next=>?_) λI μ l hJ=>?_
 .subst hJ;have hl:((d.take n).map (vP r (qE names))).length<=n:=by rw[arq,arF];omega
  have step:=afX (vP r (qE names)) DD0 d hn;dsimp only;refine dB (by omega) ⟨⟨by omega,by omega⟩,trivial,af (λh=>⟨hr,by rw[dw];simp only[arl,arI];omega,rfl,next _ ?_⟩) λh=>⟨by rw[dw];simp only[arl,arI];omega,rfl,next _ ?_⟩⟩
  .rw[← step];have h:qE names (d.getD n DD0).1=false:=jb h;unfold vP;rw[h];rfl
  .rw[← step];have h:qE names (d.getD n DD0).1=true:=dZ h;unfold vP;rw[h];rfl
 subst hJ;rw[arA];dsimp only;refine dm (by omega) ⟨λy=>∃k:Nat,y.1.2.1=k/\mG fs d r (qE names) ax k y.2.1,λy=>(1002-y.1.2.1).toNat,⟨0,rfl,KY hok hl⟩,?_⟩;rintro⟨⟨ps,_,⟨⟩⟩,out,⟨⟩⟩ ⟨k,rfl,A⟩;dsimp only at A ⊢;refine⟨adM hd,?_⟩;rintro⟨⟨m,⟨⟩⟩,⟨⟩⟩ ⟨m1,m2⟩;have m1:m<=1000:=m1;have m2:∀i,i<d.length->Sp.lv ax i<=m:=m2 ax I4 hl;refine af (λhc=>?_) λhc=>⟨hz.symm,λ_=>Sp.at_end hok hl A λi hi=>(by have:=m2 i hi;have hc:¬(k:Int)<=m:=iG hc;omega),λh=>by cases h⟩;have hc:(k:Int)<=m:=iq hc;refine⟨λy=>mG fs d r (qE names) ax k y.2.1/\(y.1.2.1=false->∀i,i<d.length->qE names (Sp.nameOf d i)=true->Sp.lv ax i=k->Sp.sel fs (eU d i) (aW y.2.1)=fK y.2.1 i),λy=>Sp.room fs.length y.2.1*2+(if y.1.2.1=true then 1 else 0),⟨A,λh=>by cases h⟩,?_⟩;rintro⟨⟨ps2,ch,⟨⟩⟩,afZ,⟨⟩⟩ ⟨A2,st2⟩;dsimp only at A2 st2 ⊢;have wk:IntKind.i64.wrap ((k:Int)+1)=((k+1:Nat):Int):=gm _ (by omega);refine af (λhch=>?_) λhch=>⟨rfl,⟨k+1,wk,Sp.at_next hok A2 (st2 hch)⟩,by rw[wk];dsimp only;omega⟩;subst hch;refine fZ (λi(x:Bool×List bM)=>((x.1,i,()),x.2,())) (λy=>y.1.2.1) (λ_ _=>rfl) d.length (by omega) (λi x=>H8 fs d r (qE names) ax k afZ i x.1 x.2) (s0:=(false,afZ)) ⟨A2,λh=>(by cases h),λ_=>⟨rfl,λj hj=>by omega⟩⟩ (λI μ i x hi hJ next=>?_) λI μ x hJ=>?_
 .obtain⟨c,KZ⟩:=x;have A3:=hJ.1;have ol:KZ.length=d.length:=A3.order.1;have hsm:=VI A3 (by omega) hfs hr;dsimp only;rw[arn];refine dB (by omega) ⟨⟨by omega,by omega⟩,⟨by omega,by rw[hl.1];omega⟩,af (λh=>⟨rfl,next (c,KZ) (Gj hJ λ_ h'=>?_)⟩) λh=>⟨trivial,af (λh2=>⟨rfl,next (c,KZ) (Gj hJ λh'=>?_)⟩) λh2=>⟨⟨hs,Fj hd hi,hsm⟩,⟨by omega,by omega⟩,by omega,trivial,af (λh3=>⟨⟨by omega,by omega⟩,by omega,rfl,next (true,_) (af0 hok hl hf hJ hi (dZ h2) ?_ ?_)⟩) λh3=>⟨rfl,next (c,KZ) (Gj hJ λ_ _=>?_)⟩⟩⟩⟩
  .exact(bne_iff_ne.1 h h').elim
  .have h2:qE names (Sp.nameOf d i)=false:=jb h2;rw[h2]at h';cases h'
  .exact am6 h
  .exact iG (jb h3)
  .exact iq (dZ h3)
 .obtain⟨c,KZ⟩:=x;dsimp only;obtain⟨A3,c1,c2⟩:=hJ;refine dm (by omega) ⟨rfl,⟨A3,λhc=>still_at (c2 hc).2⟩,?_⟩;cases c with
  |true=>have:=c1 rfl;dsimp only at this ⊢;simp only[if_true];omega
  |false=>have:=(c2 rfl).1;dsimp only at this ⊢;rw[this];simp
theorem acO:OK BV.e:=by
 refine xH [uM.e,sG.e,uo.e,mZ.e,xu.e] ⟨JQ,Qd,SX,Et,MH,⟨⟩⟩ aem (λ⟨(a,fs,nx,_),d,_⟩ _=>by obtain⟨out,h⟩:=J9 (fs:=fs) (a:=a) (nx:=nx) (d:=d) [] (λ_=>true);exact⟨(((out,0,(aK d&&bf (a,fs,nx,())),()),())),⟨rfl,h⟩⟩) λa fs nx d=>show BV.goal (acP a fs nx d) ((a,fs,nx,()),d,())fromλhin hp=>?_
 dsimp only[BV]at hp ⊢;obtain⟨hs,hd⟩:iK (a,fs,nx,())/\fO d:=hp;have hr:bU []:=⟨by decide,λx hx=>by cases hx⟩;refine⟨hd,?_⟩;rintro⟨⟨ax,ok0,⟨⟩⟩,⟨⟩⟩ ⟨e1,e2,_⟩;have e1:ok0=aK d:=e1;have e2:ok0=true->jS d ax:=e2;refine⟨λ_=>ok0=true/\bf (a,fs,nx,())=true,af (λh=>?_) λh=>⟨trivial,af (λh2=>?_) λh2=>⟨rfl,dZ h,dZ h2⟩⟩,?_⟩
 .have h:ok0=false:=jb h;have hz:(aK d&&bf (a,fs,nx,()))=false:=by rw[← e1,h];rfl
  exact⟨hz.symm,λh=>(by cases h),λ_=>rfl⟩
 .have h2:bf (a,fs,nx,())=false:=jb h2;have hz:(aK d&&bf (a,fs,nx,()))=false:=by rw[h2,asj]
  exact⟨hz.symm,λh=>(by cases h),λ_=>rfl⟩
 rintro y3 ⟨hk,hst⟩;have I4:aK d=true:=e1▸hk;have hz:(aK d&&bf (a,fs,nx,()))=true:=by rw[I4,hst];rfl
 obtain⟨hok,hlen⟩:=DI I4;have hd:qC d:=zH hok;have hl:jS d ax:=e2 hk;have hf:=AY hst;have hf:Sp.distinct fs:=hf;have hfs:fs.length<=1000:=hs.2.1;refine fZ (λi(x:List bM)=>(((),i,()),x,())) (λy=>y.1.2.1) (λ_ _=>rfl) d.length (by omega) (λn l=>l=(d.take n).map (vP [] (λ_=>true))) rfl (λI μ n l hn hJ next=>?_) λI μ l hJ=>?_
 .subst hJ;have hl:((d.take n).map (vP [] (λ_=>true))).length<=n:=by rw[arq,arF];omega
  have step:=afX (vP [] (λ_=>true)) DD0 d hn;dsimp only;refine dB (by omega) ⟨⟨by omega,by omega⟩,by rw[dw];simp only[arl,arI];omega,rfl,next _ ?_⟩;rw[← step];rfl
 subst hJ;rw[arA];dsimp only;refine dm (by omega) ⟨λy=>∃k:Nat,y.1.2.1=k/\mG fs d [] (λ_=>true) ax k y.2.1,λy=>(1002-y.1.2.1).toNat,⟨0,rfl,KY hok hl⟩,?_⟩;rintro⟨⟨ps,_,⟨⟩⟩,out,⟨⟩⟩ ⟨k,rfl,A⟩;dsimp only at A ⊢;refine⟨adM hd,?_⟩;rintro⟨⟨m,⟨⟩⟩,⟨⟩⟩ ⟨m1,m2⟩;have m1:m<=1000:=m1;have m2:∀i,i<d.length->Sp.lv ax i<=m:=m2 ax I4 hl;refine af (λhc=>?_) λhc=>⟨hz.symm,λ_=>Sp.at_end hok hl A λi hi=>(by have:=m2 i hi;have hc:¬(k:Int)<=m:=iG hc;omega),λh=>by cases h⟩;have hc:(k:Int)<=m:=iq hc;refine⟨λy=>mG fs d [] (λ_=>true) ax k y.2.1/\(y.1.2.1=false->∀i,i<d.length->true=true->Sp.lv ax i=k->Sp.sel fs (eU d i) (aW y.2.1)=fK y.2.1 i),λy=>Sp.room fs.length y.2.1*2+(if y.1.2.1=true then 1 else 0),⟨A,λh=>by cases h⟩,?_⟩;rintro⟨⟨ps2,ch,⟨⟩⟩,afZ,⟨⟩⟩ ⟨A2,st2⟩;dsimp only at A2 st2 ⊢;have wk:IntKind.i64.wrap ((k:Int)+1)=((k+1:Nat):Int):=gm _ (by omega);refine af (λhch=>?_) λhch=>⟨rfl,⟨k+1,wk,Sp.at_next hok A2 (st2 hch)⟩,by rw[wk];dsimp only;omega⟩;subst hch;refine fZ (λi(x:Bool×List bM)=>((x.1,i,()),x.2,())) (λy=>y.1.2.1) (λ_ _=>rfl) d.length (by omega) (λi x=>H8 fs d [] (λ_=>true) ax k afZ i x.1 x.2) (s0:=(false,afZ)) ⟨A2,λh=>(by cases h),λ_=>⟨rfl,λj hj=>by omega⟩⟩ (λI μ i x hi hJ next=>?_) λI μ x hJ=>?_
 .obtain⟨c,KZ⟩:=x;have A3:=hJ.1;have ol:KZ.length=d.length:=A3.order.1;have hsm:=VI A3 (by omega) hfs hr;dsimp only;rw[arn];refine dB (by omega) ⟨⟨by omega,by rw[hl.1];omega⟩,af (λh=>⟨rfl,next (c,KZ) (Gj hJ λ_ h'=>?_)⟩) λh=>⟨⟨by omega,by omega⟩,⟨hs,Fj hd hi,hsm⟩,⟨by omega,by omega⟩,by omega,trivial,af (λh3=>⟨⟨by omega,by omega⟩,by omega,rfl,next (true,_) (af0 hok hl hf hJ hi rfl ?_ ?_)⟩) λh3=>⟨rfl,next (c,KZ) (Gj hJ λ_ _=>?_)⟩⟩⟩
  .exact(bne_iff_ne.1 h h').elim
  .exact am6 h
  .exact iG (jb h3)
  .exact iq (dZ h3)
 .obtain⟨c,KZ⟩:=x;dsimp only;obtain⟨A3,c1,c2⟩:=hJ;refine dm (by omega) ⟨rfl,⟨A3,λhc=>still_at (nm:=λ_=>true) (c2 hc).2⟩,?_⟩;cases c with
  |true=>have:=c1 rfl;dsimp only at this ⊢;simp only[if_true];omega
  |false=>have:=(c2 rfl).1;dsimp only at this ⊢;rw[this];simp
end Go.Proofs.Tryz
namespace Go.Proofs.Tryz
open Go Go.Fw Go.IntWalk Sp
theorem I5:OK sJ.e:=by
 refine aZ [] ⟨⟩ H0 λf0 f1 f2 f3 f4 id=>show sJ.goal (XZ f0 f1 f2 f3 f4 id) ((f0,f1,f2,f3,f4,()),(id,()),())fromλhin hp=>?_
 dsimp only[sJ]at hp ⊢;exact rfl
theorem ug:OK fG.e:=by
 refine aZ [sJ.e] ⟨I5,⟨⟩⟩ uj λs1 id=>show fG.goal (uh s1 id) (s1,((id,()),()),())fromλhin hp=>?_
 dsimp only[fG]at hp ⊢;have hlen:s1.length<=maxLen:=hin.1.1;rw[maxLen_eq]at hlen;refine dW s1.length hlen (λn=>∀i,i<n->(Sp.fileAt s1 i).1≠id) (λi hi=>by omega) (λI μ n hn hJ next=>?_) λI μ hJ=>?_
 .dsimp only;refine dB (by omega) ⟨⟨by omega,by omega⟩,trivial,af (λh=>?_) λh=>⟨rfl,next λi hi=>?_⟩⟩
  .have h:(Sp.fileAt s1 n).1=id:=iq h;exact congrArg (·,()) (Sp.IG hn hJ h).symm
  .rcases ark i n with h'|h'
   .exact hJ i h'
   .have:i=n:=by omega
    subst this;have h:¬(Sp.fileAt s1 i).1=id:=iG h;exact h
 .dsimp only;exact dm (by omega) (congrArg (·,()) (Y9 hJ).symm)
theorem acQ:OK BZ.e:=by
 refine aZ [fG.e,sJ.e] ⟨ug,I5,⟨⟩⟩ H0 λs0 s1 s2 id=>show BZ.goal (acR s0 s1 s2 id) ((s0,s1,s2,()),id,())fromλhin hp=>?_
 dsimp only[BZ]at hp ⊢;exact⟨trivial,rfl⟩
theorem Ou{d:List aC}{i:Nat}(hi:i<d.length):qE (lU d) (Sp.nameOf d i)=true:=by rw[af2];unfold lU;rw[asb];exact⟨bT d i,getD_mem hi,rfl⟩
theorem EG:bU []:=⟨by decide,λx hx=>by cases hx⟩
theorem ajN{fs:List ay}{d:List aC}{out:List bM}(h:kE fs d [] (qE (lU d)) out):kE fs d [] (λ_=>true) out:=
 agT h (λi hi=>Ou hi) λi hi hn=>absurd ((Ou hi).symm.trans hn) (by decide)
theorem X0:OK yG.e:=by
 refine xH [wo.e,yF.e] ⟨U9,XU,⟨⟩⟩ H0 (λ⟨(a,fs,nx,_),d,_⟩ _=>by obtain⟨out,h⟩:=J9 (fs:=fs) (a:=a) (nx:=nx) (d:=d) [] (λ_=>true);exact⟨(((out,(aK d&&bf (a,fs,nx,())),()),())),⟨rfl,h⟩⟩) λa fs nx d=>show yG.goal (X3 a fs nx d) ((a,fs,nx,()),d,())fromλhin hp=>?_
 dsimp only[yG]at hp ⊢;refine⟨hp.2.1,⟨hp.1,hp.2,EG⟩,λr hr=>⟨hr.1,λh=>ajN (hr.2.1 h),hr.2.2⟩⟩
theorem X4:OK yH.e:=by
 refine xH [BV.e] ⟨acO,⟨⟩⟩ aaF (λ⟨(a,fs,nx,_),d,_⟩ _=>by obtain⟨out,h⟩:=J9 (fs:=fs) (a:=a) (nx:=nx) (d:=d) [] (λ_=>true);exact⟨(((out,(aK d&&bf (a,fs,nx,())),()),())),⟨rfl,h⟩⟩) λa fs nx d=>show yH.goal (X5 a fs nx d) ((a,fs,nx,()),d,())fromλhin hp=>?_
 dsimp only[yH]at hp ⊢;exact⟨hp,λr hr=>hr⟩
end Go.Proofs.Tryz
namespace Go.Proofs.Tryz
open Go Go.Fw Go.IntWalk Sp
def asks(name:Sp.Bytes)(x:aC):Bool:=(aaG x.2.1).contains name
theorem S9{α:Type}[BEq α][LawfulBEq α]:∀(a b:List α),a.Nodup->(∀x∈a,x∈b)->a.length<=b.length
 |[],_,_,_=>arw _
 |x::r,b,hn,h=>by
  rw[atn]at hn;have hx:=h x arj;have ih:=S9 r (b.erase x) hn.2 λy hy=>by
   have hne:y≠x:=λe=>by subst e;exact hn.1 hy
   rw[List.mem_erase_of_ne hne];exact h y (ard _ hy)
  rw[List.length_erase_of_mem hx]at ih;have:0<b.length:=List.length_pos_of_mem hx;rw[arl];omega
def Grown(d:List aC)(names out:Sp.LS):Prop:=∃ex,out=names++ex/\ex.Nodup/\(∀x∈ex,x∈lU d)/\∀x∈out,Sp.Reach d (λs=>qE names s=true) x.1
theorem Grown.len{d:List aC}{names out:Sp.LS}(h:Grown d names out):out.length<=names.length+d.length:=by obtain⟨ex,rfl,h1,h2,_⟩:=h;have:=S9 ex (lU d) h1 h2;unfold lU at this;rw[arq]at this;rw[arL];omega
theorem Grown.add{d:List aC}{names out:Sp.LS}(h:Grown d names out){x:Sp.Bytes×Unit}(h1:x∈lU d)(h2:x ∉ out)(h3:Sp.Reach d (λs=>qE names s=true) x.1):Grown d names (out++[x]):=by
 obtain⟨ex,rfl,g1,g2,g3⟩:=h;refine⟨ex++[x],by rw[ar9],?_,λy hy=>?_,λy hy=>?_⟩
 .rw[List.nodup_append];refine⟨g1,atn.2 ⟨by simp,List.nodup_nil⟩,λa ha b hb e=>h2 ?_⟩;rw[arQ.1 hb]at e;exact arH.2 (.inr (e▸ha))
 .rcases arH.1 hy with hy|hy
  .exact g2 y hy
  .rw[arQ.1 hy];exact h1
 .rcases arH.1 hy with hy|hy
  .exact g3 y hy
  .rw[arQ.1 hy];exact h3
theorem af4{d:List aC}{i:Nat}(hi:i<d.length):(Sp.nameOf d i,())∈lU d:=af2.1 (Ou hi)
end Go.Proofs.Tryz
namespace Go.Proofs.Tryz
open Go Go.Fw Go.IntWalk Sp
theorem aar{r:List bM}(h:bU r)(s:Sp.Bytes):(dY r s).length<=1000:=by
 have:∀l:List bM,(∀x∈l,x.2.1.length<=1000)->(dY l s).length<=1000:=by
  intro l
  induction l with
  |nil=>exactλ_=>arw _
  |cons x t ih=>
   intro hl;rw[dY];cases x.1==s with
   |true=>exact hl x arj
   |false=>exact ih λy hy=>hl y (ard _ hy)
 exact this r h.2
theorem agU{fs:List ay}{d:List aC}{r out:List bM}{nm:Sp.Bytes->Bool}(h:kE fs d r nm out)(hd:d.length<=1000)(hf:fs.length<=1000)(hr:bU r):bU out:=by
 refine⟨by rw[h.order.1];exact hd,λx hx=>?_⟩;obtain⟨i,hi,rfl⟩:=arN hx;have hi':i<d.length:=by rw[← h.order.1];exact hi
 have e:(out[i]).2.1=fK out i:=by unfold fK nT;rw[arp,aq8 hi];rfl
 rw[e];cases hn:nm (Sp.nameOf d i)with
 |true=>
  rw[h.fix i hi' hn];unfold Sp.sel;rw[arq];exact aq7 (asx _ _) hf
 |false=>rw[h.kept i hi' hn];exact aar hr _
end Go.Proofs.Tryz
namespace Go.Proofs.Tryz
open Go Go.Fw Go.IntWalk Sp
def aiF(l:Sp.LS):Prop:=l.Pairwise λx y=>Op.bytesLess x.1 y.1=true
theorem ajO{x:Sp.Bytes×Unit}{r:Sp.LS}{s:Sp.Bytes}:Di (x::r) s=if Op.bytesLess x.1 s=true then x::Di r s else if x.1=s then x::r else(s,())::x::r:=by
 unfold Di;by_cases h:Op.bytesLess x.1 s=true
 .rw[if_pos h,List.takeWhile_cons_of_pos (p:=λx:Sp.Bytes×Unit=>Op.bytesLess x.1 s) h];dsimp only;rw[arl];cases hc:(decide ((r.takeWhile λx=>Op.bytesLess x.1 s).length<r.length)&&(r.getD (r.takeWhile λx=>Op.bytesLess x.1 s).length ([],())).1==s)with
  |true=>
   have:(decide ((r.takeWhile λx=>Op.bytesLess x.1 s).length+1<(x::r).length)&&((x::r).getD ((r.takeWhile λx=>Op.bytesLess x.1 s).length+1) ([],())).1==s)=true:=by rw[← hc,arl];simp[as3]
   rw[this];rfl
  |false=>
   have:(decide ((r.takeWhile λx=>Op.bytesLess x.1 s).length+1<(x::r).length)&&((x::r).getD ((r.takeWhile λx=>Op.bytesLess x.1 s).length+1) ([],())).1==s)=false:=by rw[← hc,arl];simp[as3]
   rw[this];rfl
 .rw[if_neg h,List.takeWhile_cons_of_neg (p:=λx:Sp.Bytes×Unit=>Op.bytesLess x.1 s) h];by_cases e:x.1=s
  .rw[if_pos e];simp[e]
  .rw[if_neg e];simp[aq4.2 e]
theorem af5{s:Sp.Bytes}:∀{l:Sp.LS},aiF l->aiF (Di l s)
 |[],_=>List.pairwise_singleton _ _
 |y::r,h=>by
  obtain⟨h1,h2⟩:=ar5.1 h;have i1:=af5 (s:=s) h2;rw[ajO];by_cases c1:Op.bytesLess y.1 s=true
  .rw[if_pos c1];refine ar5.2 ⟨λz hz=>?_,i1⟩;rcases(I7 z).1 hz with rfl|hz
   .exact c1
   .exact h1 z hz
  .rw[if_neg c1];by_cases c2:y.1=s
   .rw[if_pos c2];exact h
   .rw[if_neg c2];have c3:Op.bytesLess s y.1=true:=aaH y.1 s (by simpa using c1) c2;refine ar5.2 ⟨λz hz=>?_,h⟩;rcases arD.1 hz with rfl|hz
    .exact c3
    .exact EH _ _ _ c3 (h1 z hz)
theorem amc{l b:Sp.LS}(h:aiF l)(hs:∀x∈l,x∈b):l.length<=b.length:=by
 have hn:l.Nodup:=by unfold List.Nodup;exact List.Pairwise.imp (λ{a b} hab e=>Uj hab (congrArg Prod.fst e)) h
 exact S9 l b hn hs
structure Rd(d:List aC)(names out:Sp.LS):Prop where
 asc:aiF out
 base:∀x∈names,x∈out
 reach:∀x∈out,Sp.Reach d (λs=>qE names s=true) x.1
 sub:∀x∈out,x∈names++lU d
theorem Rd.len{d:List aC}{names out:Sp.LS}(h:Rd d names out):out.length<=names.length+d.length:=by
 have:=amc h.asc h.sub;rw[arL]at this;have e:(lU d).length=d.length:=by unfold lU;rw[arq]
 omega
theorem Rd.put{d:List aC}{names out:Sp.LS}(h:Rd d names out){i:Nat}(hi:i<d.length){s:Sp.Bytes}(hs:(s,())∈out)(ha:s∈aaG (eU d i)):Rd d names (Di out (Sp.nameOf d i)) where
 asc:=af5 h.asc
 base:=λx hx=>(I7 x).2 (.inr (h.base x hx))
 reach:=λx hx=>by
  rcases(I7 x).1 hx with rfl|hx
  .exact .step (h.reach _ hs) hi ha
  .exact h.reach x hx
 sub:=λx hx=>by
  rcases(I7 x).1 hx with rfl|hx
  .exact arH.2 (.inr (af4 hi))
  .exact h.sub x hx
def shut(d:List aC)(out:Sp.LS):Prop:=∀i,i<d.length->∀s∈aaG (eU d i),(s,())∈out->(Sp.nameOf d i,())∈out
end Go.Proofs.Tryz
namespace Go.Proofs.Tryz
open Go Go.Fw Go.IntWalk Sp
theorem stays{c:jX}{s:cu}{d:List aC}{b:Bool}(hb:b=false){z:jX}(e:z=c):Sp.became c s d b z [] false:=⟨hb.symm,λh=>(by cases h),λ_=>⟨e,rfl⟩⟩
end Go.Proofs.Tryz
namespace Go.Proofs.Tryz
open Go Go.Fw Go.IntWalk
theorem aaI:OK zS.e:=by
 refine aZ [iJ.e] ⟨jO,⟨⟩⟩ H0 λf0 f1 f2 f3 f4 u=>show zS.goal (aaJ f0 f1 f2 f3 f4 u) ((f0,f1,f2,f3,f4,()),u,())fromλhin hp=>?_
 dsimp only[zS]at hp ⊢;refine⟨trivial,af (λh=>af (λh2=>?_) λh2=>?_) λh=>?_⟩
 all_goals refine congrArg (·,()) ?_
 .show _=((decide (0<=u)&&decide (u<=2))&&(decide (f1=u)||f2));rw[h,show decide (f1=u)=true from h2];rfl
 .show _=((decide (0<=u)&&decide (u<=2))&&(decide (f1=u)||f2));rw[h,show decide (f1=u)=false from h2];rfl
 .show _=((decide (0<=u)&&decide (u<=2))&&(decide (f1=u)||f2));rw[h];rfl
theorem aaK:OK zT.e:=by
 refine aZ [rF.e] ⟨Fh,⟨⟩⟩ H0 λf0 f1 f2 f3 f4 u=>show zT.goal (aaL f0 f1 f2 f3 f4 u) ((f0,f1,f2,f3,f4,()),u,())fromλhin hp=>?_
 dsimp only[zT]at hp ⊢;refine⟨trivial,af (λh=>af (λh2=>?_) λh2=>?_) λh=>?_⟩
 all_goals refine congrArg (·,()) ?_
 .show _=((decide (0<=u)&&decide (u<=2))&&(decide (f1=u)||f2));rw[h,show decide (f1=u)=true from h2];rfl
 .show _=((decide (0<=u)&&decide (u<=2))&&(decide (f1=u)||f2));rw[h,show decide (f1=u)=false from h2];rfl
 .show _=((decide (0<=u)&&decide (u<=2))&&(decide (f1=u)||f2));rw[h];rfl
end Go.Proofs.Tryz
namespace Go.Proofs.Tryz
open Go Go.Fw Go.IntWalk Sp
theorem made{c z:jX}{u:Int}{x:jo}{s:cu}{d:List aC}{b ok:Bool}{df:List Ov}(hu:zL u=true)(hc:Ko c=true)(h1:ahq c x=s)(h2:ajP c x=d)(h3:alK c u x=b)(h:Sp.became c s d b z df ok):Sp.applied c u x z df ok:=by unfold Sp.applied am8;rw[h1,h2,h3,hu,hc];exact h
end Go.Proofs.Tryz
namespace Go.Proofs.Tryz
open Go Go.Fw Go.IntWalk Sp
theorem Ox:OK qV.e:=by
 refine aZ [yB.e,uJ.e,zS.e] ⟨WI,JM,aaI,⟨⟩⟩ Qi λs0 s1 s2 u=>show qV.goal (Oy s0 s1 s2 u) ((s0,s1,s2,()),u,())fromλhin hp=>?_
 dsimp only[qV]at hp ⊢;obtain⟨h0,h1,h2⟩:s0.length<=1000/\s1.length<=1000/\∀f∈s1,aaM f:=hp;refine⟨by rw[dw];omega,?_⟩;refine fZ (λi(x:List ay)=>((i,()),((),(),s2,()),x,())) (λy=>y.1.1) (λ_ _=>rfl) s1.length (by omega) (λn l=>l=(s1.take n).filter (iF · u)) (by simp) (λI μ n l hn hJ next=>?_) λI μ l hJ=>?_
 .subst hJ;have hl:=JO s1 (iF · u) n;dsimp only;refine dB (by omega) ⟨⟨by omega,by omega⟩,trivial,af (λh=>⟨⟨by omega,by omega⟩,aaN (h2 _ (getD_mem (d:=((0:Int),(0:Int),false,(0:Int),[],())) hn)),by rw[dw];simp only[arl,arI];omega,rfl,next _ ?_⟩) λh=>⟨rfl,next _ ?_⟩⟩
  .rw[FM _ hn,if_pos (show iF (Sp.fileAt s1 n) u=true from h)];rfl
  .rw[FM _ hn,if_neg (show ¬iF (Sp.fileAt s1 n) u=true fromλh'=>by have h:iF (Sp.fileAt s1 n) u=false:=h;rw[h]at h';cases h'),arU]
 .rw[arA]at hJ;subst hJ;dsimp only;have hl:=asx (iF · u) s1;refine dm (by omega) ?_;generalize hfs:List.filter (λx=>iF x u) s1=fs at hl ⊢;refine fZ (λi(x:List ay)=>((i,()),x,())) (λy=>y.1.1) (λ_ _=>rfl) fs.length (by omega) (λn l=>l=gZ fs n) (by simp[gZ]) (λI μ n l hn hJ next=>?_) λI μ l hJ=>?_
  .subst hJ;have hu:=zG fs (show n<=fs.length by omega);have ha:=KL fs hn;dsimp only;simp only[arn,ha,hu];refine dB (by omega) ⟨⟨by omega,by omega⟩,hn,trivial,af (λh=>⟨⟨by omega,by omega⟩,hn,trivial,next _ ?_⟩) λh=>⟨rfl,next _ ?_⟩⟩
   .exact((CZ fs hn).1 (iq h)).symm
   .exact((CZ fs hn).2 (iG h)).symm
  .subst hJ;have hu:=zG fs (ara fs.length);dsimp only;refine dm (by omega) ?_;show _=(Sp.visible (s0,s1,s2,()) u,());unfold Sp.visible;rw[Ry,← hfs]
theorem Oz:OK qW.e:=by
 refine aZ [BZ.e,rP.e,zT.e,jy.e] ⟨acQ,IE,aaK,xI,⟨⟩⟩ Qj λs0 s1 s2 u=>show qW.goal (OA s0 s1 s2 u) ((s0,s1,s2,()),u,())fromλhin hp=>?_
 dsimp only[qW]at hp ⊢;obtain⟨h0,h1,h2⟩:s0.length<=1000/\s1.length<=1000/\∀f∈s1,aaM f:=hp;refine⟨aq7 h0 (by decide),?_⟩;refine fZ (λi(x:List ay)=>((i,()),(s0,(),s2,()),x,())) (λy=>y.1.1) (λ_ _=>rfl) s1.length (by omega) (λn l=>l=(s1.take n).filter (iF · u)) (by simp) (λI μ n l hn hJ next=>?_) λI μ l hJ=>?_
 .subst hJ;have hl:=JO s1 (iF · u) n;dsimp only;refine dB (by omega) ⟨⟨by omega,by omega⟩,trivial,af (λh=>⟨aaN (h2 _ (getD_mem (d:=((0:Int),(0:Int),false,(0:Int),[],())) hn)),by rw[dw];simp only[arl,arI];omega,rfl,next _ ?_⟩) λh=>⟨rfl,next _ ?_⟩⟩
  .rw[FM _ hn,if_pos (show iF (Sp.fileAt s1 n) u=true from h)];rfl
  .rw[FM _ hn,if_neg (show ¬iF (Sp.fileAt s1 n) u=true fromλh'=>by have h:iF (Sp.fileAt s1 n) u=false:=h;rw[h]at h';cases h'),arU]
 .rw[arA]at hJ;subst hJ;dsimp only;have hl:=asx (iF · u) s1;refine dm (by omega) ?_;generalize hfs:List.filter (λx=>iF x u) s1=fs at hl ⊢;refine fZ (λi(x:List ay)=>((i,()),x,())) (λy=>y.1.1) (λ_ _=>rfl) fs.length (by omega) (λn l=>l=gZ fs n) (by simp[gZ]) (λI μ n l hn hJ next=>?_) λI μ l hJ=>?_
  .subst hJ;have hu:=zG fs (show n<=fs.length by omega);have ha:=KL fs hn;dsimp only;simp only[arn,ha,hu];refine dB (by omega) ⟨⟨by omega,by omega⟩,hn,trivial,af (λh=>⟨⟨by omega,by omega⟩,hn,trivial,next _ ?_⟩) λh=>⟨rfl,next _ ?_⟩⟩
   .exact((CZ fs hn).1 (iq h)).symm
   .exact((CZ fs hn).2 (iG h)).symm
  .subst hJ;have hu:=zG fs (ara fs.length);dsimp only;refine dm (by omega) ?_;show _=(Sp.visible (s0,s1,s2,()) u,());unfold Sp.visible;rw[Ry,← hfs]
theorem Tf{s:cu}{d:List aC}{u:Int}(h:ahr s d u):iU s d u=(BO (Sp.visible s u).2.1 d,true):=by unfold iU;rw[h.1,h.2.1,h.2.2];rfl
theorem ql{s:cu}{d:List aC}{u:Int}(h:bf s=false\/aK d=false\/zL u=false):iU s d u=([],false):=by
 unfold iU;have:(bf s&&(aK d&&zL u))=false:=by rcases h with h|h|h<;>rw[h]<;>simp
 rw[this];rfl
theorem Ti{s:cu}{d:List aC}{u:Int}(h1:bf s=true)(h2:zL u=true){out:List bM}{ok:Bool}(hk:ok=(aK d&&bf (Sp.visible s u)))(ht:ok=true->kE (Sp.visible s u).2.1 d [] (λ_=>true) out)(hf:ok=false->out=[]):out=(iU s d u).1/\ok=(iU s d u).2:=by
 rw[aaO u h1,asC]at hk;cases ok with
 |true=>rw[Tf ⟨h1,hk.symm,h2⟩];exact⟨(ajQ (OB hk.symm) (ht rfl)).symm,rfl⟩
 |false=>rw[ql (.inr (.inl hk.symm))];exact⟨hf rfl,rfl⟩
theorem Jj:OK nM.e:=by
 refine xH [yG.e,qW.e,rF.e,ng.e] ⟨X0,Oz,Fh,Ew,⟨⟩⟩ H0 (λ⟨s,d,u,_⟩ _=>⟨(((iU s d u).1,(iU s d u).2,()),()),⟨rfl,rfl⟩⟩) λs0 s1 s2 d u=>show nM.goal (Jk s0 s1 s2 d u) ((s0,s1,s2,()),d,u,())fromλhin hp=>?_
 dsimp only[nM]at hp ⊢;have hd:fO d:=hp;have hs:bf (s0,s1,s2,())=true->iK (s0,s1,s2,()):=Gs;refine⟨trivial,af (λh=>?_) λh=>⟨trivial,af (λh2=>?_) λh2=>⟨hs (dZ h),⟨Gt u (hs (dZ h)),hd⟩,λr hr=>?_⟩⟩⟩
 .dsimp only;rw[ql (.inl (jb h))];exact⟨rfl,rfl⟩
 .dsimp only;rw[ql (.inr (.inr (jb h2)))];exact⟨rfl,rfl⟩
 .exact Ti (dZ h) (dZ h2) hr.1 hr.2.1 hr.2.2
theorem Jl:OK nN.e:=by
 refine xH [yH.e,qV.e,mZ.e,iJ.e] ⟨X4,Ox,Et,jO,⟨⟩⟩ H0 (λ⟨s,d,u,_⟩ _=>⟨(((iU s d u).1,(iU s d u).2,()),()),⟨rfl,rfl⟩⟩) λs0 s1 s2 d u=>show nN.goal (Jm s0 s1 s2 d u) ((s0,s1,s2,()),d,u,())fromλhin hp=>?_
 dsimp only[nN]at hp ⊢;have hd:fO d:=hp;have hs:bf (s0,s1,s2,())=true->iK (s0,s1,s2,()):=Gs;refine⟨trivial,af (λh=>?_) λh=>⟨trivial,af (λh2=>?_) λh2=>⟨hs (dZ h2),⟨Gt u (hs (dZ h2)),hd⟩,λr hr=>?_⟩⟩⟩
 .dsimp only;rw[ql (.inr (.inr (jb h)))];exact⟨rfl,rfl⟩
 .dsimp only;rw[ql (.inl (jb h2))];exact⟨rfl,rfl⟩
 .exact Ti (dZ h2) (dZ h) hr.1 hr.2.1 hr.2.2
theorem aiG{s:cu}{d:List aC}{u:Int}(hs:iK s)(hd:qC d)(hf:ahr s d u):bU (BO (Sp.visible s u).2.1 d):=
 agU (ajR (aaO u hf.1) hf.2.1) hd.1 (Gt u hs).2.1 EG
theorem aen{s:cu}{d:List aC}{u:Int}(hs:iK s)(hd:qC d):bU (iU s d u).1:=by
 cases h1:bf s with
 |false=>rw[ql (.inl h1)];exact EG
 |true=>cases h2:aK d with
  |false=>rw[ql (.inr (.inl h2))];exact EG
  |true=>cases h3:zL u with
   |false=>rw[ql (.inr (.inr h3))];exact EG
   |true=>rw[Tf ⟨h1,h2,h3⟩];exact aiG hs hd ⟨h1,h2,h3⟩
theorem KQ{s:cu}{d:List aC}{u:Int}:bU (iU s d u).1:=by
 cases h:bf s&&(aK d&&zL u)with
 |false=>
  unfold iU;rw[h];exact⟨arw _,λx hx=>by cases hx⟩
 |true=>simp only[aq5]at h;exact aen (Gs h.1) (zH (OB h.2.1))
theorem aai:OK zU.e:=by
 refine aZ [kZ.e,nM.e] ⟨Bj,Jj,⟨⟩⟩ H0 λs0 s1 s2 d u name=>show zU.goal (aaP s0 s1 s2 d u name) ((s0,s1,s2,()),d,u,name,())fromλhin hp=>?_
 dsimp only[zU]at hp ⊢;have hd:fO d:=hp;refine⟨hd,λr hr=>?_⟩;dsimp only;rw[hr.1];exact⟨KQ,rfl⟩
theorem aaj:OK zV.e:=by
 refine aZ [nC.e,nN.e] ⟨GH,Jl,⟨⟩⟩ H0 λs0 s1 s2 d u name=>show zV.goal (aaQ s0 s1 s2 d u name) ((s0,s1,s2,()),d,u,name,())fromλhin hp=>?_
 dsimp only[zV]at hp ⊢;have hd:fO d:=hp;refine⟨hd,λr hr=>?_⟩;dsimp only;rw[hr.1];exact⟨KQ,rfl⟩
end Go.Proofs.Tryz
namespace Go.Proofs.Tryz
open Go Go.Fw Go.IntWalk Sp
theorem ajH{d:List aC}(h:fO d){n:Nat}(hn:n<d.length):(d.getD n ([],[],())).2.1.length<=2000000:=h.2 _ (getD_mem hn)
theorem UU:OK wu.e:=by
 refine xH [rP.e] ⟨IE,⟨⟩⟩ Xv (λ⟨l,_⟩ _=>⟨((l,()),()),rfl⟩) λl=>show wu.goal (UW l) (l,())fromλhin hp=>?_
 dsimp only[wu]at hp ⊢;obtain⟨h1,h2⟩:l.length<=2000000/\∀f∈l,EX f:=hp;refine fZ (λi(x:List ay)=>(((),i,()),x,())) (λy=>y.1.2.1) (λ_ _=>rfl) l.length (by omega) (λn x=>x=l.take n) (by simp) (λI μ n x hn hJ next=>?_) λI μ x hJ=>?_
 .subst hJ;have hl:(l.take n).length<=n:=by rw[arF];omega
  dsimp only;refine dB (by omega) ⟨⟨by omega,by omega⟩,h2 _ (getD_mem (d:=((0:Int),(0:Int),false,(0:Int),[],())) hn),by rw[dw];simp only[arl,arI];omega,rfl,next _ ?_⟩;exact(Sp.take_succ' l n (0,0,false,0,[],()) hn).symm
 .subst hJ;dsimp only;refine dm (by omega) ?_;show List.take l.length l=l;rw[arA]
theorem UX:OK wz.e:=by
 refine xH [wu.e,jy.e] ⟨UU,xI,⟨⟩⟩ Xw (λ⟨(a,l,nx,_),_⟩ _=>⟨(((a,l,nx,()),()),()),rfl⟩) λs0 s1 s2=>show wz.goal (UY s0 s1 s2) ((s0,s1,s2,()),())fromλhin hp=>?_
 dsimp only[wz]at hp ⊢;obtain⟨h0,h1,h2⟩:s0.length<=2000000/\s1.length<=2000000/\∀f∈s1,EX f:=hp;refine⟨aq7 h0 (by decide),⟨h1,h2⟩,?_⟩;rintro⟨⟨x,⟨⟩⟩,⟨⟩⟩ e;have e:x=s1:=e;subst e;exact rfl
theorem Z7:OK zY.e:=by
 refine xH [uJ.e] ⟨JM,⟨⟩⟩ acB (λ⟨(a,l,nx,_),_⟩ _=>⟨(((a,l,nx,()),()),()),rfl⟩) λs0 s1 s2=>show zY.goal (Z8 s0 s1 s2) ((s0,s1,s2,()),())fromλhin hp=>?_
 dsimp only[zY]at hp ⊢;obtain⟨h0,h1,h2⟩:s0.length<=2000000/\s1.length<=2000000/\∀f∈s1,EX f:=hp;refine⟨by rw[dw];omega,?_⟩;refine fZ (λi(x:List ay)=>((i,()),((),(),s2,()),x,())) (λy=>y.1.1) (λ_ _=>rfl) s1.length (by omega) (λn l=>l=s1.take n) (by simp) (λI μ n l hn hJ next=>?_) λI μ l hJ=>?_
 .subst hJ;have hl:(s1.take n).length<=n:=by rw[arF];omega
  dsimp only;refine dB (by omega) ⟨⟨by omega,by omega⟩,h2 _ (getD_mem (d:=((0:Int),(0:Int),false,(0:Int),[],())) hn),by rw[dw];simp only[arl,arI];omega,rfl,next _ ?_⟩;exact(Sp.take_succ' s1 n (0,0,false,0,[],()) hn).symm
 .subst hJ;dsimp only;refine dm (by omega) ?_;rw[arA]
theorem Ho:OK lV.e:=by
 refine aZ [] ⟨⟩ IL λs=>show lV.goal (Hq s) (s,())fromλhin hp=>?_
 dsimp only[lV]at hp ⊢;have hp:s.length<=10000000:=hp;refineλg hg=>af (λh=>?_) λh=>⟨by rw[dw];omega,rfl⟩;have:=hg h;rw[List.eq_nil_of_length_eq_zero this]
theorem Z9:OK zW.e:=by
 refine aZ [lV.e] ⟨Ho,⟨⟩⟩ acC λx0 x1=>show zW.goal (aac x0 x1) ((x0,x1,()),())fromλhin hp=>?_
 dsimp only[zW]at hp ⊢;exact⟨hp,rfl⟩
theorem Xx:OK yI.e:=by
 refine aZ [zW.e] ⟨Z9,⟨⟩⟩ aad λd=>show yI.goal (Xy d) (d,())fromλhin hp=>?_
 dsimp only[yI]at hp ⊢;have hp:fO d:=hp;have hlen:d.length<=2000000:=hp.1;refine fZ (λi(x:List aC)=>(((),i,()),x,())) (λy=>y.1.2.1) (λ_ _=>rfl) d.length (by omega) (λn l=>l=d.take n) (by simp) (λI μ n l hn hJ next=>?_) λI μ l hJ=>?_
 .subst hJ;have hl:(d.take n).length<=n:=by rw[arF];omega
  dsimp only;refine dB (by omega) ⟨⟨by omega,by omega⟩,aq7 (ajH hp hn) (by decide),by rw[dw];simp only[arl,arI];omega,rfl,next _ ?_⟩;exact(Sp.take_succ' d n ([],[],()) hn).symm
 .subst hJ;dsimp only;refine dm (by omega) ?_;rw[arA]
theorem aae:OK zX.e:=by
 refine aZ [] ⟨⟩ acD λd=>show zX.goal (aaf d) (d,())fromλhin hp=>?_
 dsimp only[zX]at hp ⊢;have hp:fO d:=hp;have hlen:d.length<=2000000:=hp.1;refine fZ (λi(x:List aC)=>(((),i,()),x,())) (λy=>y.1.2.1) (λ_ _=>rfl) d.length (by omega) (λn l=>l=d.take n) (by simp) (λI μ n l hn hJ next=>?_) λI μ l hJ=>?_
 .subst hJ;have hl:(d.take n).length<=n:=by rw[arF];omega
  dsimp only;refine dB (by omega) ⟨⟨by omega,by omega⟩,⟨by omega,by omega⟩,by rw[dw];have:=ajH hp hn;show 0+(d.getD n ([],[],())).2.1.length<=_;omega,by rw[dw];simp only[arl,arI];omega,rfl,next _ ?_⟩;exact(Sp.take_succ' d n ([],[],()) hn).symm
 .subst hJ;dsimp only;refine dm (by omega) ?_;rw[arA]
theorem Ol:OK qX.e:=by
 refine xH [yI.e,wz.e] ⟨Xx,UX,⟨⟩⟩ H0 (λ⟨(a,l,nx,d,_),_⟩ _=>⟨(((a,l,nx,d,()),()),()),rfl⟩) λx0 x1 x2 x3=>show qX.goal (Om x0 x1 x2 x3) ((x0,x1,x2,x3,()),())fromλhin hp=>?_
 dsimp only[qX]at hp ⊢;refine⟨hp.1,?_⟩;rintro⟨⟨⟨a,l,nx,⟨⟩⟩,⟨⟩⟩,⟨⟩⟩ e;obtain⟨rfl,rfl,rfl⟩:a=x0/\l=x1/\nx=x2:=by simpa using e
 exact⟨hp.2,rfl⟩
theorem Xz:OK yJ.e:=by
 refine xH [zX.e,zY.e] ⟨aae,Z7,⟨⟩⟩ H0 (λ⟨(a,l,nx,d,_),_⟩ _=>⟨(((a,l,nx,d,()),()),()),rfl⟩) λx0 x1 x2 x3=>show yJ.goal (XB x0 x1 x2 x3) ((x0,x1,x2,x3,()),())fromλhin hp=>?_
 dsimp only[yJ]at hp ⊢;refine⟨hp.1,?_⟩;rintro⟨⟨⟨a,l,nx,⟨⟩⟩,⟨⟩⟩,⟨⟩⟩ e;obtain⟨rfl,rfl,rfl⟩:a=x0/\l=x1/\nx=x2:=by simpa using e
 exact⟨hp.2,rfl⟩
theorem acE{v:List fH}(h:yx v){n:Nat}(hn:n<v.length):abj (H6 (kW v n)):=h.2 _ (getD_mem (d:=V0) hn)
theorem ES:OK nX.e:=by
 refine aZ [] ⟨⟩ H0 λx0 x1 x2 x3 x4 x5 p=>show nX.goal (PV x0 x1 x2 x3 x4 x5 p) ((x0,x1,x2,x3,x4,x5,()),(p,()),())fromλhin hp=>?_
 dsimp only[nX]at hp ⊢;exact rfl
theorem pX:OK eP.e:=by
 refine aZ [nX.e] ⟨ES,⟨⟩⟩ qy λd s=>show eP.goal (pY d s) (d,((s,()),()),())fromλhin hp=>?_
 dsimp only[eP]at hp ⊢;have hlen:d.length<=maxLen:=hin.1.1;rw[maxLen_eq]at hlen;refine dW d.length hlen (λn=>∀i,i<n->(kW d i).1≠s) (λi hi=>by omega) (λI μ n hn hJ next=>?_) λI μ hJ=>?_
 .dsimp only;refine dB (by omega) ⟨⟨by omega,by omega⟩,trivial,af (λh=>?_) λh=>⟨rfl,next λi hi=>?_⟩⟩
  .rw[VE hn (aq9.1 h) hJ]
  .rcases ark i n with h'|h'
   .exact hJ i h'
   .have:i=n:=by omega
    rw[this];exact aq4.1 h
 .dsimp only;refine dm (by omega) ?_;rw[VF hJ]
theorem UZ:OK wB.e:=by
 refine aZ [eP.e,nX.e] ⟨pX,ES,⟨⟩⟩ H0 λd s=>show wB.goal (U0 d s) (d,s,())fromλhin hp=>?_
 dsimp only[wB]at hp ⊢;exact⟨trivial,rfl⟩
theorem XC:OK yK.e:=by
 refine aZ [] ⟨⟩ aag λd s=>show yK.goal (XD d s) (d,s,())fromλhin hp=>?_
 dsimp only[yK]at hp ⊢;have hlen:d.length<=maxLen:=hin.1.1;rw[maxLen_eq]at hlen;refine dW d.length hlen (λn=>∀i,i<n->(kW d i).1≠s) (λi hi=>by omega) (λI μ n hn hJ next=>?_) λI μ hJ=>?_
 .dsimp only;refine dB (by omega) ⟨⟨by omega,by omega⟩,af (λh=>?_) λh=>⟨rfl,next λi hi=>?_⟩⟩
  .rw[VE hn (aq9.1 h) hJ]
  .rcases ark i n with h'|h'
   .exact hJ i h'
   .have:i=n:=by omega
    rw[this];exact aq4.1 h
 .dsimp only;refine dm (by omega) ?_;rw[VF hJ]
theorem PW:OK sK.e:=by
 refine xH [qX.e,wB.e] ⟨Ol,UZ,⟨⟩⟩ H0 (λ⟨v,n,_⟩ hp=>⟨((((dI v n).1.1,(dI v n).1.2.1,(dI v n).1.2.2.1,(dI v n).1.2.2.2.1,()),(dI v n).2,()),()),⟨rfl,rfl⟩⟩) λv n=>show sK.goal (PX v n) (v,n,())fromλhin hp=>?_
 dsimp only[sK]at hp ⊢;have hp:yx v:=hp;refine⟨trivial,af (λg=>?_) λg=>?_⟩
 .have g:0<=bF v n:=iq g;have hlt:=KO g;refine⟨⟨g,hlt⟩,acE hp (by omega),?_⟩;intro r e;dsimp only;rw[KP g];exact⟨e,rfl⟩
 .have g:¬0<=bF v n:=iG g;dsimp only;rw[Oh g];exact⟨rfl,rfl⟩
theorem PY:OK sN.e:=by
 refine xH [yJ.e,yK.e] ⟨Xz,XC,⟨⟩⟩ H0 (λ⟨v,n,_⟩ hp=>⟨((((dI v n).1.1,(dI v n).1.2.1,(dI v n).1.2.2.1,(dI v n).1.2.2.2.1,()),(dI v n).2,()),()),⟨rfl,rfl⟩⟩) λv n=>show sN.goal (PZ v n) (v,n,())fromλhin hp=>?_
 dsimp only[sN]at hp ⊢;have hp:yx v:=hp;refine⟨trivial,af (λg=>?_) λg=>?_⟩
 .have g:¬0<=bF v n:=by have:=iq g;omega
  dsimp only;rw[Oh g];exact⟨rfl,rfl⟩
 .have g:0<=bF v n:=by have:=iG g;omega
  have hlt:=KO g;refine⟨⟨g,hlt⟩,acE hp (by omega),?_⟩;intro r e;dsimp only;rw[KP g];exact⟨e,rfl⟩
theorem aah{v:List fH}{n u:Int}{name:Sp.Bytes}(h:(dI v n).2=true):zo v n u name=xO (DC (dI v n).1) (dI v n).1.2.2.2.1 u name:=by unfold zo;rw[h];rfl
theorem adH{v:List fH}{n u:Int}{name:Sp.Bytes}(h:(dI v n).2=false):zo v n u name=[]:=by unfold zo;rw[h];rfl
theorem VG{v:List fH}(h:yx v)(n:Int):fO (dI v n).1.2.2.2.1:=by
 by_cases g:0<=bF v n
 .rw[KP g];have:=KO g;exact(acE h (by omega)).2
 .rw[Oh g];exact⟨arw _,λx hx=>by cases hx⟩
theorem IQ:OK iV.e:=by
 refine aZ [zU.e,sK.e] ⟨aai,PW,⟨⟩⟩ H0 λx0 x1 x2 x3 x4 x5 x6 x7 x8 x9 x10 n u name=>show iV.goal (IU x0 x1 x2 x3 x4 x5 x6 x7 x8 x9 x10 n u name) ((x0,x1,x2,x3,x4,x5,x6,x7,x8,x9,x10,()),n,u,name,())fromλhin hp=>?_
 dsimp only[iV]at hp ⊢;have hp:yx x8:=hp;refine⟨hp,?_⟩;rintro⟨⟨r,ok,⟨⟩⟩,⟨⟩⟩ ⟨e1,e2⟩;dsimp only at e1 e2 ⊢;subst e1 e2;refine af (λh=>?_) λh=>⟨VG hp n,?_⟩
 .have h:(dI x8 n).2=false:=by simpa using h
  show _=(_,_,());rw[adH h,h]
 .have h:(dI x8 n).2=true:=by simpa using h
  show _=(_,_,());rw[aah h,h];rfl
theorem IV:OK iW.e:=by
 refine aZ [zV.e,sN.e] ⟨aaj,PY,⟨⟩⟩ H0 λx0 x1 x2 x3 x4 x5 x6 x7 x8 x9 x10 n u name=>show iW.goal (IW x0 x1 x2 x3 x4 x5 x6 x7 x8 x9 x10 n u name) ((x0,x1,x2,x3,x4,x5,x6,x7,x8,x9,x10,()),n,u,name,())fromλhin hp=>?_
 dsimp only[iW]at hp ⊢;have hp:yx x8:=hp;refine⟨hp,?_⟩;rintro⟨⟨r,ok,⟨⟩⟩,⟨⟩⟩ ⟨e1,e2⟩;dsimp only at e1 e2 ⊢;subst e1 e2;refine af (λh=>?_) λh=>⟨VG hp n,?_⟩
 .have h:(dI x8 n).2=false:=by simpa using h
  show _=(_,_,());rw[adH h,h]
 .have h:(dI x8 n).2=true:=by simpa using h
  show _=(_,_,());rw[aah h,h];rfl
theorem aio(n:Int)(h:(-9223372036854775808:Int)<=n/\n<=(9223372036854775807:Int)):(Lib.itoa n).length<=21:=Lib.itoa_length_le n h.1 h.2
theorem ahn{n:Nat}(h:n<=100000000):n<=maxLen:=by rw[maxLen_eq];omega
theorem acF{c:Int}(h:¬c.tmod 10<0):c.tmod 10=((c.natAbs%10:Nat):Int):=by have:(c.tmod 10).natAbs=c.natAbs%10:=Int.natAbs_tmod c 10;omega
theorem ajI(k:Nat):byteRow [((48:Int)+(k:Int),())]=[UInt8.ofNat (48+k)]:=by
 have:((48:Int)+(k:Int)).toNat=48+k:=by omega
 simp[byteRow,abm,this]
theorem aip{n c:Nat}{s:List UInt8}(hc:c≠0)(hJ:Lib.decDigits n=(if c=0 then[]else Lib.decDigits c)++s):
 Lib.decDigits n=(if c / 10=0 then[]else Lib.decDigits (c / 10))++(UInt8.ofNat (48+c%10)::s):=by
 rw[hJ,if_neg hc,acG c];simp
theorem XF:OK oH.e:=by
 refine aZ [] ⟨⟩ aak λk=>show oH.goal (XG k) (k,())fromλhin hp=>?_
 dsimp only[oH]at hp ⊢;obtain⟨h0,h1⟩:0<=k/\k<=1000000000:=hp;refine af (λh=>?_) λh=>?_
 .obtain rfl:k=0:=by have:=iq h;omega
  exact congrArg (·,()) (show[109,48]=Sp.markT 0 by unfold Sp.markT Lib.itoa;rw[if_neg (by decide)];show _=109::Lib.decDigits 0;rw[Lib.decDigits];rfl)
 have hk:0<k:=by have:=iG h;omega
 have hL:=aio k (by omega);have hit:Lib.itoa k=Lib.decDigits k.natAbs:=by rw[Lib.itoa,if_neg (by omega),show k.toNat=k.natAbs by omega]
 have hD:(Lib.decDigits k.natAbs).length<=21:=by rw[← hit];exact hL
 refine⟨λy=>0<=y.1.1/\y.1.1<=1000000000/\Lib.decDigits k.natAbs=(if y.1.1.natAbs=0 then[]else Lib.decDigits y.1.1.natAbs)++y.1.2.1,λy=>y.1.1.natAbs,⟨h0,h1,?_⟩,?_⟩
 .show _=(if k.natAbs=0 then _ else _)++_;rw[if_neg (by omega)];simp
 rintro⟨⟨c,s,⟨⟩⟩,⟨⟩⟩ ⟨hc1,hc2,hJ⟩;dsimp only at hc1 hc2 hJ ⊢;have hs:s.length<=21:=by rw[hJ,arL]at hD;omega
 refine af (λh=>?_) λh=>?_
 .have hcp:0<c:=iq h;have hc:c.natAbs≠0:=by omega
  have hstep:=aip hc hJ;have hm:c.natAbs%10<10:=Nat.mod_lt _ (by decide);have hlt:c.natAbs / 10<c.natAbs:=Nat.div_lt_self (by omega) (by decide);have hq:(c.tdiv 10).natAbs=c.natAbs / 10:=Int.natAbs_tdiv c 10;have hq0:0<=c.tdiv 10:=Int.tdiv_nonneg hc1 (by decide);have hw:IntKind.i64.wrap (c.tdiv 10)=c.tdiv 10:=gm _ (by omega);have e:=acF (c:=c) (by have:=Int.tmod_nonneg 10 hc1;omega);have e8:IntKind.u8.wrap (IntKind.i64.wrap (48+c.tmod 10))=48+((c.natAbs%10:Nat):Int):=by rw[e,i64_in _ (by omega),u8_in _ (by omega)]
  rw[e8,hw,ajI];refine⟨by decide,ahn (by rw[arl,arI];omega),by decide,rfl,⟨hq0,by omega,?_⟩,?_⟩
  .show _=(if(c.tdiv 10).natAbs=0 then[]else Lib.decDigits (c.tdiv 10).natAbs)++_;rw[hq];exact hstep
  .show(c.tdiv 10).natAbs<c.natAbs;rw[hq];exact hlt
 .obtain rfl:c=0:=by have:=iG h;omega
  have hJ:Lib.decDigits k.natAbs=s:=by simpa using hJ
  refine⟨ahn (by rw[arl,arI];omega),?_⟩;unfold Sp.markT;rw[hit,hJ];rfl
theorem XH:OK oI.e:=by
 refine aZ [] ⟨⟩ aal λa k=>show oI.goal (XI a k) (a,k,())fromλhin hp=>?_
 dsimp only[oI]at hp ⊢;obtain⟨h0,h1,hl⟩:0<=k/\k<=10000000/\a.length<=4000000:=hp;refine fZ (mk:=λi(v:Int)=>((v,i,()),())) (λy=>y.1.2.1) (λ_ _=>rfl) a.length (by omega) (λn v=>v=k+n/\GK a k=GK (a.drop n) v) ⟨by omega,rfl⟩ (λI μ n v hn hJ next=>?_) λI μ v hJ=>?_
 .obtain⟨rfl,hh⟩:=hJ;rw[drop_cons a n (0,()) hn,GK]at hh;dsimp only;rw[gm (k+(n:Int)+1) (by omega),arn];refine dB (by omega) ⟨⟨by omega,by omega⟩,af (λh=>?_) λh=>⟨rfl,next _ ⟨by omega,?_⟩⟩⟩
  .rw[if_neg (by simpa using h)]at hh;rw[hh]
  .rw[if_pos (by simpa using h)]at hh;exact hh
 .obtain⟨rfl,hh⟩:=hJ;rw[List.drop_length]at hh;dsimp only;exact dm (by omega) (by rw[hh];rfl)
end Go.Proofs.Tryz
