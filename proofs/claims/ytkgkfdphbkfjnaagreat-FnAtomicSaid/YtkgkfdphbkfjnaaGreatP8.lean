import Derived.Test.YtkgkfdphbkfjnaaGreatP7
namespace Go.Proofs.Tryz
open Go Go.Fw Go.IntWalk Sp
theorem QF:OK AZ.e:=by refine PA.ok mixed (au [] trivial) H0 (by kernel_rfl) (show∀x0 x1 p10,AZ.goal (af5 x0 x1 p10) ((x0,x1,()),(p10,()),())from ?_);intro x0 x1 p hin hp;dsimp only[AZ]at hp ⊢;exact rfl
theorem Kt{d:List aF}{s:Sp.Bytes}{n:Nat}(hn:n<d.length)(h1:(bH d n).1=s)(h2:∀i,i<n->(bH d i).1≠s):aJ d s=n:=by
 rcases pX d s with⟨_,h⟩|⟨m,g1,g2,g3,g4⟩
 .exact(h _ (getD_mem (d:=(([]:List UInt8),([]:List bK),())) hn) h1).elim
 .have:m=n:=by
   rcases awo m n with h|h|h
   .exact(h2 m h g3).elim
   .exact h
   .exact(g4 n h h1).elim
  rw[g2,this]
theorem akH{d:List aF}{s:Sp.Bytes}(h2:∀i,i<d.length->(bH d i).1≠s):aJ d s=-1:=by
 rcases pX d s with⟨h,_⟩|⟨m,g1,_,g3,_⟩
 .exact h
 .exact(h2 m g1 g3).elim
theorem BL:OK iR.e:=by
 refine PA.ok mixed (au [AZ.e] ⟨QF,trivial⟩) BN (by kernel_rfl) (show∀s mQ,iR.goal (BM s mQ) (s,((mQ,()),()),())from ?_);intro d s hin hp;dsimp only[iR]at hp ⊢;have hlen:d.length<=maxLen:=hin.1.1;rw[maxLen_eq]at hlen;refine iL d.length hlen (λn=>∀i,i<n->(bH d i).1≠s) (λi hi=>by omega) (λI μ n hn hJ next=>?_) λI μ hJ=>?_
 .dsimp only;refine dn (by omega) ⟨⟨by omega,by omega⟩,trivial,af (λh=>?_) λh=>⟨rfl,next λi hi=>?_⟩⟩
  .rw[Kt hn (auE.1 h) hJ]
  .rcases auJ i n with h'|h'
   .exact hJ i h'
   .have:i=n:=by omega
    rw[this];exact auu.1 h
 .dsimp only;refine dw (by omega) ?_;rw[akH hJ]
theorem MC:OK A7.e:=by refine PA.ok mixed (au [iR.e,AZ.e] ⟨BL,QF,trivial⟩) H0 (by kernel_rfl) (show∀d name,A7.goal (ai1 d name) (d,name,())from ?_);intro d s hin hp;dsimp only[A7]at hp ⊢;exact⟨trivial,rfl⟩
theorem Pq:OK yO.e:=by
 refine PA.ok mixed (au [] trivial) af6 (by kernel_rfl) (show∀d name,yO.goal (adL d name) (d,name,())from ?_);intro d s hin hp;dsimp only[yO]at hp ⊢;have hlen:d.length<=maxLen:=hin.1.1;rw[maxLen_eq]at hlen;refine iL d.length hlen (λn=>∀i,i<n->(bH d i).1≠s) (λi hi=>by omega) (λI μ n hn hJ next=>?_) λI μ hJ=>?_
 .dsimp only;refine dn (by omega) ⟨⟨by omega,by omega⟩,af (λh=>?_) λh=>⟨rfl,next λi hi=>?_⟩⟩
  .rw[Kt hn (auE.1 h) hJ]
  .rcases auJ i n with h'|h'
   .exact hJ i h'
   .have:i=n:=by omega
    rw[this];exact auu.1 h
 .dsimp only;refine dw (by omega) ?_;rw[akH hJ]
theorem V7:OK yP.e:=by
 refine PA.ok mixed (au [A7.e] ⟨MC,trivial⟩) Zr (by kernel_rfl) (show∀d JE names more,yP.goal (W9 d JE names more) (d,JE,names,more,())from ?_);intro d aH names more hin hp;dsimp only[yP]at hp ⊢;obtain⟨h1,h2,h3,h4,h5⟩:d.length<=aH.length/\names.length<=1000/\0<=more/\more<=1/\∀x∈aH,0<=x.1/\x.1<=1000000:=hp;refine dM (λi(c:Int)=>((c,i,()),())) (λy=>y.1.2.1) (λ_ _=>rfl) names.length (by omega) (λn c=>∀B,c<=B↔0<=B/\∀x∈names.take n,0<=aJ d x.1->Sp.lv aH (aJ d x.1).toNat+more<=B) (λB=>by simp) (λI μ n c hn hJ next=>?_) λI μ c hJ=>?_
 .dsimp only;rw[auA];have e:=Sp.take_succ' names n ([],()) hn;refine dn (by omega) ⟨⟨by omega,by omega⟩,trivial,af (λh=>?_) λh=>⟨rfl,next _ λB=>?_⟩⟩
  .have h:0<=aJ d (names.getD n ([],())).1:=fG h;have hlt:=G5 h;have hb:=h5 _ (Yq (l:=aH) (i:=(aJ d (names.getD n ([],())).1).toNat) (by omega));dsimp only at hb;have hw:IntKind.i64.wrap (Sp.lv aH (aJ d (names.getD n ([],())).1).toNat+more)=Sp.lv aH (aJ d (names.getD n ([],())).1).toNat+more:=eP _ (by omega);have e2:(aH.getD (aJ d (names.getD n ([],())).1).toNat (0,())).1=Sp.lv aH (aJ d (names.getD n ([],())).1).toNat:=rfl;refine⟨⟨h,by omega⟩,rfl,next _ λB=>?_⟩;rw[e2,hw,e];simp only[auL,avk];have:=hJ B;constructor
   .intro hB;have hc:c<=B:=by split at hB<;>omega
    have hv:Sp.lv aH (aJ d (names.getD n ([],())).1).toNat+more<=B:=by split at hB<;>omega
    obtain⟨a,b⟩:=this.1 hc;refine⟨a,λx hx hx0=>?_⟩;rcases hx with hx|rfl
    .exact b x hx hx0
    .exact hv
   .rintro⟨a,b⟩;have hc:=this.2 ⟨a,λx hx=>b x (.inl hx)⟩;have hv:=b _ (.inr rfl) h;split<;>omega
  .have h:¬0<=aJ d (names.getD n ([],())).1:=fZ h;rw[hJ B,e];simp only[auL,avk];constructor
   .rintro⟨a,b⟩;refine⟨a,λx hx hx0=>?_⟩;rcases hx with hx|rfl
    .exact b x hx hx0
    .exact(h hx0).elim
   .exactλ⟨a,b⟩=>⟨a,λx hx=>b x (.inl hx)⟩
 .dsimp only;refine dw (by omega) (congrArg (·,()) ?_);rw[auO]at hJ;have h6:=λB=>(hJ B).trans (IG (d:=d) (aH:=aH) (more:=more) names B).symm;have a:=(h6 c).1 (au7 _);have b:=(h6 (yQ d aH more names)).2 (au7 _);omega
end Go.Proofs.Tryz
