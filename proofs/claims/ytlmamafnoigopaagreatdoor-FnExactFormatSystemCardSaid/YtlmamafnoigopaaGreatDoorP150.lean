import Derived.Test.YtlmamafnoigopaaGreatDoorP10
import Derived.Test.YtlmamafnoigopaaGreatDoorV3
import Derived.Test.YtlmamafnoigopaaGreatDoorSp
import Derived.Test.YtlmamafnoigopaaGreatDoorL4
import Derived.WalkKit
import Derived.BigCall
import Derived.Test.YtlmamafnoigopaaGreatDoorFwC
namespace Go.Proofs.Tryz
open Go Go.Fw Go.IntWalk Sp
theorem Za:OK yZ.e:=by
 refine aV [nT.e] ⟨Fq,⟨⟩⟩ H0 λf0 f1 f2 f3 f4=>show yZ.goal (Zb f0 f1 f2 f3 f4) ((f0,f1,f2,f3,f4,()),())fromλhin hp=>?_
 dsimp only[yZ]at hp ⊢;refine⟨trivial,af (λh=>congrArg (·,()) ?_) λh=>congrArg (·,()) ?_⟩
 .show _=bif (bU f4 [110]).1==2 then _ else _
  rw[show((bU f4 [110]).1==2)=true from h];rfl
 .show _=bif (bU f4 [110]).1==2 then _ else _
  rw[show((bU f4 [110]).1==2)=false from h];rfl
theorem Zc:OK zf.e:=by
 refine aV [qQ.e] ⟨LH,⟨⟩⟩ H0 λf0 f1 f2 f3 f4=>show zf.goal (Zd f0 f1 f2 f3 f4) ((f0,f1,f2,f3,f4,()),())fromλhin hp=>?_
 dsimp only[zf]at hp ⊢;refine⟨trivial,af (λh=>congrArg (·,()) ?_) λh=>congrArg (·,()) ?_⟩
 .show _=bif (bU f4 [110]).1==2 then _ else _
  rw[show((bU f4 [110]).1==2)=false by simpa using h];rfl
 .show _=bif (bU f4 [110]).1==2 then _ else _
  rw[show((bU f4 [110]).1==2)=true by simpa using h];rfl
theorem Ze:OK zh.e:=by
 refine aV [sF.e,xX.e] ⟨JD,Oo,⟨⟩⟩ H0 λs0 s1 s2 id=>show zh.goal (Zf s0 s1 s2 id) ((s0,s1,s2,()),id,())fromλhin hp=>?_
 dsimp only[zh]at hp ⊢;obtain⟨h0,h1,h2⟩:s0.length<=1000/\s1.length<=1000/\∀f∈s1,Oq f:=hp;refine⟨trivial,?_⟩;rcases MP s1 id with⟨h,_⟩|⟨n,hn,h,_,_⟩
 .have e:dn (s0,s1,s2,()) id=(abY,false):=by show(bif decide (Sp.place s1 id<0)then _ else _)=_;rw[h];rfl
  refine bV (by omega) ?_;show _=((dn (s0,s1,s2,()) id).1,(dn (s0,s1,s2,()) id).2,());rw[e];rfl
 .have e:dn (s0,s1,s2,()) id=(Sp.fileAt s1 n,true):=by show(bif decide (Sp.place s1 id<0)then _ else(Sp.fileAt s1 (Sp.place s1 id).toNat,true))=_;rw[h,atp (by omega)];rfl
  refine bY (by omega) ⟨⟨by omega,by omega⟩,?_,?_⟩
  .rw[h,ata];exact IY (h2 _ (getD_mem (d:=((0:Int),(0:Int),false,(0:Int),[],())) hn))
  .show _=((dn (s0,s1,s2,()) id).1,(dn (s0,s1,s2,()) id).2,());rw[e,h];rfl
theorem Zg:OK zi.e:=by
 refine aV [vF.e,sG.e] ⟨KX,JE,⟨⟩⟩ H0 λs0 s1 s2 id=>show zi.goal (Zh s0 s1 s2 id) ((s0,s1,s2,()),id,())fromλhin hp=>?_
 dsimp only[zi]at hp ⊢;obtain⟨h0,h1,h2⟩:s0.length<=1000/\s1.length<=1000/\∀f∈s1,Oq f:=hp;refine⟨trivial,?_⟩;rcases MP s1 id with⟨h,_⟩|⟨n,hn,h,_,_⟩
 .have e:dn (s0,s1,s2,()) id=(abY,false):=by show(bif decide (Sp.place s1 id<0)then _ else _)=_;rw[h];rfl
  refine bY (by omega) ?_;show _=((dn (s0,s1,s2,()) id).1,(dn (s0,s1,s2,()) id).2,());rw[e];rfl
 .have e:dn (s0,s1,s2,()) id=(Sp.fileAt s1 n,true):=by show(bif decide (Sp.place s1 id<0)then _ else(Sp.fileAt s1 (Sp.place s1 id).toNat,true))=_;rw[h,atp (by omega)];rfl
  refine bV (by omega) ⟨⟨by omega,by omega⟩,?_,?_⟩
  .rw[h,ata];exact IY (h2 _ (getD_mem (d:=((0:Int),(0:Int),false,(0:Int),[],())) hn))
  .show _=((dn (s0,s1,s2,()) id).1,(dn (s0,s1,s2,()) id).2,());rw[e,h];rfl
theorem abZ:OK AL.e:=by
 refine aV [zf.e,zi.e] ⟨Zc,Zg,⟨⟩⟩ H0 λs0 s1 s2 id=>show AL.goal (ab1 s0 s1 s2 id) ((s0,s1,s2,()),id,())fromλhin hp=>?_
 dsimp only[AL]at hp ⊢;exact⟨hp,trivial,rfl⟩
theorem ab2(s:aT)(ids:List (Int×Unit))(n:Nat)(h:n<ids.length):Sp.bases s (ids.take (n+1))=Sp.bases s (ids.take n)++[(Sp.aP s (ids.getD n (0,())).1,())]:=by unfold Sp.bases;rw[Sp.take_succ' ids n (0,()) h,atE];rfl
theorem alo(s:aT)(ids:List (Int×Unit)):(Sp.bases s ids).length=ids.length:=atb _
theorem GK(s:aT)(ids:List (Int×Unit)):(Sp.entries s ids).length=ids.length:=LJ s [] ids
theorem Ot{α:Type}(l:List α)(n:Nat):(l.take n).length<=n:=by rw[atv];omega
theorem ae9{s:aT}{seen:Sp.LS}{id:Int}(h:lG seen (Sp.aP s id)=true):Sp.entryOf s seen id=Sp.aP s id++[46]++Lib.itoa id:=by unfold Sp.entryOf;rw[h,atz];rfl
theorem alp{s:aT}{seen:Sp.LS}{id:Int}(h:lG seen (Sp.aP s id)=false):Sp.entryOf s seen id=Sp.aP s id:=by unfold Sp.entryOf;rw[h];rfl
theorem aoL{b s:List UInt8}(h1:b.length<=2000000)(h2:s.length<=21):(b++[46]).length+s.length<=maxLen:=pV (by rw[as4];show b.length+1+_<=_;omega)
theorem aoM{b:List UInt8}(h1:b.length<=2000000):b.length+[(46:UInt8)].length<=maxLen:=pV (by show b.length+1<=_;omega)
theorem Zi{α:Type}{l:List α}{n:Nat}(x:α)(h:l.length<=n)(hn:n<=100000000):l.length+[x].length<=big:=by rw[dm];show l.length+1<=_;omega
theorem UC:OK uQ.e:=by
 refine aV [jH.e,jG.e,yZ.e,zh.e] ⟨ql,zJ,Za,Ze,⟨⟩⟩ WJ λs0 s1 s2 ids=>show uQ.goal (UD s0 s1 s2 ids) ((s0,s1,s2,()),ids,())fromλhin hp=>?_
 dsimp only[uQ]at hp ⊢;obtain⟨hs,ht,hl⟩:dH (s0,s1,s2,())/\qy (s0,s1,s2,())/\ids.length<=1000:=hp;have hI:oK ids:=oJ hin.2.1.2;refine eH (λi(x:Sp.LS×Sp.LS)=>(((),(),i,()),x.1,x.2,())) (λy=>y.1.2.2.1) (λ_ _=>rfl) ids.length (by omega) (λn x=>x=(Sp.bases (s0,s1,s2,()) (ids.take n),Sp.entries (s0,s1,s2,()) (ids.take n))) rfl (λI μ n x hn hJ next=>?_) λI μ x hJ=>?_
 .subst hJ;have hb:=Zj ht (ids.getD n (0,())).1;have hi:=hI.get hn (0,());have l1:(Sp.bases (s0,s1,s2,()) (ids.take n)).length<=n:=by rw[alo];exact Ot ids n
  have l2:(Sp.entries (s0,s1,s2,()) (ids.take n)).length<=n:=by rw[GK];exact Ot ids n
  have e1:=ab2 (s0,s1,s2,()) ids n hn;have e2:=UE (s0,s1,s2,()) ids n hn;dsimp only;refine bY (by omega) ⟨⟨by omega,by omega⟩,hs,trivial,trivial,af (λh=>?_) λh=>?_⟩
  .rw[ae9 (id:=(ids.getD n (0,())).1) h]at e2;exact⟨aoM hb,trivial,aoL hb hi,Zi _ l2 (by omega),Zi _ l1 (by omega),rfl,next (_,_) (Prod.ext e1.symm e2.symm)⟩
  .rw[alp (id:=(ids.getD n (0,())).1) h]at e2;exact⟨Zi _ l2 (by omega),Zi _ l1 (by omega),rfl,next (_,_) (Prod.ext e1.symm e2.symm)⟩
 .subst hJ;dsimp only;refine bV (by omega) ?_;rw[atg]
theorem UF:OK uS.e:=by
 refine aV [jI.e,AL.e] ⟨qm,abZ,⟨⟩⟩ WL λs0 s1 s2 ids=>show uS.goal (UG s0 s1 s2 ids) ((s0,s1,s2,()),ids,())fromλhin hp=>?_
 dsimp only[uS]at hp ⊢;obtain⟨hs,ht,hl⟩:dH (s0,s1,s2,())/\qy (s0,s1,s2,())/\ids.length<=1000:=hp;have hI:oK ids:=oJ hin.2.1.2;refine eH (λi(x:Sp.LS)=>(((),i,()),x,())) (λy=>y.1.2.1) (λ_ _=>rfl) ids.length (by omega) (λn x=>x=Sp.entries (s0,s1,s2,()) (ids.take n)) rfl (λI μ n x hn hJ next=>?_) λI μ x hJ=>?_
 .subst hJ;have hb:=Zj ht (ids.getD n (0,())).1;have hi:=hI.get hn (0,());have l2:(Sp.entries (s0,s1,s2,()) (ids.take n)).length<=n:=by rw[GK];exact Ot ids n
  have e2:=UE (s0,s1,s2,()) ids n hn;dsimp only;refine bY (by omega) ⟨⟨by omega,by omega⟩,hs,?_⟩;refine eH (mk:=λi(v:List UInt8)=>((v,i,()),())) (λy=>y.1.2.1) (λ_ _=>rfl) n (by omega) (λk v=>v=Sp.entryOf (s0,s1,s2,()) (Sp.bases (s0,s1,s2,()) (ids.take k)) (ids.getD n (0,())).1) rfl (λI' μ' k v hk hJ next'=>?_) λI' μ' v hJ=>?_
  .have hkl:k<ids.length:=by omega
   have e3:=ab2 (s0,s1,s2,()) ids k hkl;have e4:=alq (Sp.bases (s0,s1,s2,()) (ids.take k)) (Sp.aP (s0,s1,s2,()) (ids.getD k (0,())).1) (Sp.aP (s0,s1,s2,()) (ids.getD n (0,())).1);rw[← e3]at e4;dsimp only;refine bY (by omega) ⟨⟨by omega,by omega⟩,hs,af (λh=>?_) λh=>?_⟩
   .have h:(Sp.aP (s0,s1,s2,()) (ids.getD k (0,())).1==Sp.aP (s0,s1,s2,()) (ids.getD n (0,())).1)=true:=h;rw[h,Bool.or_true]at e4;exact⟨aoM hb,⟨by omega,by omega⟩,trivial,aoL hb hi,rfl,next' _ (ae9 e4).symm⟩
   .have h:(Sp.aP (s0,s1,s2,()) (ids.getD k (0,())).1==Sp.aP (s0,s1,s2,()) (ids.getD n (0,())).1)=false:=h;rw[h,Bool.or_false]at e4;refine⟨rfl,next' _ ?_⟩;rw[hJ];unfold Sp.entryOf;rw[e4]
  .subst hJ;dsimp only;refine bV (by omega) ⟨Zi _ l2 (by omega),rfl,next _ e2.symm⟩
 .subst hJ;dsimp only;refine bV (by omega) ?_;rw[atg]
theorem Xt(l:Sp.LS){n:Nat}(h:n<l.length):qo (l.take (n+1))=qo (l.take n)++([32]++(l.getD n ([],())).1):=by rw[Sp.take_succ' l n ([],()) h,Qz];simp[qo]
theorem afa{l:Sp.LS}(hl:l.length<=1000)(h:∀e∈l,e.1.length<=2000022)(n:Nat):(qo (l.take n)).length<=2100000000:=by have h1:=ab3 (l.take n) λe he=>h e (List.mem_of_mem_take he);have h2:(l.take n).length<=1000:=as3 (List.length_take_le' _ _) hl;have h3:(2000022+1)*(l.take n).length<=(2000022+1)*1000:=auY _ h2;omega
theorem PE{n:Nat}(h:n<=10000000000):n<=maxLen:=by rw[maxLen_eq];omega
theorem Zk:OK zk.e:=by
 refine aV [uQ.e,Aw.e,nP.e] ⟨UC,ab4,Fz,⟨⟩⟩ ab5 λs0 s1 s2 d u name=>show zk.goal (Zl s0 s1 s2 d u name) ((s0,s1,s2,()),d,u,name,())fromλhin hp=>?_
 dsimp only[zk]at hp ⊢;obtain⟨hs,ht,hd,hl⟩:dH (s0,s1,s2,())/\qy (s0,s1,s2,())/\fF d/\name.length<=2000000:=hp;have hr:=PG (GL (s:=(s0,s1,s2,())) (d:=d) (u:=u)) name;have hm:=FB (GN ht u) [] _ (Xu (s0,s1,s2,()) d u name);have hn':=GK (Sp.visible (s0,s1,s2,()) u) (jB (s0,s1,s2,()) d u name);refine⟨hs,hd,⟨yw u hs,GN ht u,hr⟩,?_⟩;have hn:(Sp.entries (Sp.visible (s0,s1,s2,()) u) (jB (s0,s1,s2,()) d u name)).length<=1000:=hn'▸hr;have hm:∀e∈Sp.entries (Sp.visible (s0,s1,s2,()) u) (jB (s0,s1,s2,()) d u name),e.1.length<=2000022:=hm;show LP _ _;generalize hE:Sp.entries _ _=E;have hE':Sp.entries (Sp.visible (s0,s1,s2,()) u) (jB (s0,s1,s2,()) d u name)=E:=hE;rw[hE']at hn hm;refine eH (mk:=λi(v:List UInt8)=>((v,i,()),())) (λy=>y.1.2.1) (λ_ _=>rfl) E.length (by omega) (λn v=>v=name++qo (E.take n)) (by simp[qo]) (λI μ n v hn hJ next=>?_) λI μ v hJ=>?_
 .subst hJ;have he:=hm _ (getD_mem (d:=(([]:List UInt8),())) hn);have hsp:=afa (by omega) hm n;dsimp only;refine bY (by omega) ⟨⟨by omega,by omega⟩,PE (by show 1+(E.getD n ([],())).1.length<=_;omega),PE (by rw[as4,as4];show name.length+_+(1+(E.getD n ([],())).1.length)<=_;omega),rfl,next _ ?_⟩;rw[Xt E hn,atz];rfl
 .subst hJ;dsimp only;refine bV (by omega) ?_;rw[atg,← hE'];rfl
theorem ab6:OK AO.e:=by
 refine aV [uS.e,Az.e,nO.e] ⟨UF,ab7,FC,⟨⟩⟩ aec λs0 s1 s2 d u name=>show AO.goal (ab8 s0 s1 s2 d u name) ((s0,s1,s2,()),d,u,name,())fromλhin hp=>?_
 dsimp only[AO]at hp ⊢;obtain⟨hs,ht,hd,hl⟩:dH (s0,s1,s2,())/\qy (s0,s1,s2,())/\fF d/\name.length<=2000000:=hp;have hr:=PG (GL (s:=(s0,s1,s2,())) (d:=d) (u:=u)) name;have hm:=FB (GN ht u) [] _ (Xu (s0,s1,s2,()) d u name);have hn':=GK (Sp.visible (s0,s1,s2,()) u) (jB (s0,s1,s2,()) d u name);refine⟨hs,hd,⟨yw u hs,GN ht u,hr⟩,?_⟩;have hn:(Sp.entries (Sp.visible (s0,s1,s2,()) u) (jB (s0,s1,s2,()) d u name)).length<=1000:=hn'▸hr;have hm:∀e∈Sp.entries (Sp.visible (s0,s1,s2,()) u) (jB (s0,s1,s2,()) d u name),e.1.length<=2000022:=hm;show LP _ _;generalize hE:Sp.entries _ _=E;have hE':Sp.entries (Sp.visible (s0,s1,s2,()) u) (jB (s0,s1,s2,()) d u name)=E:=hE;rw[hE']at hn hm;refine eH (mk:=λi(v:List UInt8)=>((v,i,()),())) (λy=>y.1.2.1) (λ_ _=>rfl) E.length (by omega) (λn v=>v=name++qo (E.take n)) (by simp[qo]) (λI μ n v hn hJ next=>?_) λI μ v hJ=>?_
 .subst hJ;have he:=hm _ (getD_mem (d:=(([]:List UInt8),())) hn);have hsp:=afa (by omega) hm n;dsimp only;refine bY (by omega) ⟨PE (by rw[as4];show name.length+_+1<=_;omega),⟨by omega,by omega⟩,PE (by rw[as4,as4];show name.length+_+1+(E.getD n ([],())).1.length<=_;omega),rfl,next _ ?_⟩;rw[Xt E hn];simp[atz]
 .subst hJ;dsimp only;refine bV (by omega) ?_;rw[atg,← hE'];rfl
theorem IW{s:aT}{d:List ay}{u:Int}(h:(dR s d u).2=true):Sp.aj s d u=d.map λx=>(zT s d u x.1,()):=by unfold Sp.aj;rw[h];rfl
theorem LD{s:aT}{d:List ay}{u:Int}(h:(dR s d u).2=false):Sp.aj s d u=[]:=by unfold Sp.aj;rw[h];rfl
theorem ab9{s:aT}{d:List ay}{u:Int}(h:(dR s d u).2=true):dH s:=by
 unfold dR at h;cases hk:bf s with
 |true=>exact DL hk
 |false=>rw[hk]at h;cases h
theorem UH:OK uT.e:=by
 refine aV [zk.e,kW.e] ⟨Zk,BQ,⟨⟩⟩ WM λs0 s1 s2 d u=>show uT.goal (UI s0 s1 s2 d u) ((s0,s1,s2,()),d,u,())fromλhin hp=>?_
 dsimp only[uT]at hp ⊢;obtain⟨ht,hd,hx⟩:qy (s0,s1,s2,())/\fF d/\∀x∈d,x.1.length<=2000000:=hp;have hdl:=hd.1;refine⟨hd,?_⟩;rintro⟨⟨r,ok,⟨⟩⟩,⟨⟩⟩ ⟨e1,e2⟩;dsimp only at e1 e2 ⊢;subst e1 e2;refine af (λh=>?_) λh=>?_
 .exact congrArg (·,()) (LD (iR h)).symm
 have h:(dR (s0,s1,s2,()) d u).2=true:=dY h;refine eH (λi(x:Sp.LS)=>(((),i,()),x,())) (λy=>y.1.2.1) (λ_ _=>rfl) d.length (by omega) (λn x=>x=(d.take n).map λx=>(zT (s0,s1,s2,()) d u x.1,())) rfl (λI μ n x hn hJ next=>?_) λI μ x hJ=>?_
 .subst hJ;dsimp only;refine bY (by omega) ⟨⟨by omega,by omega⟩,⟨ab9 h,ht,hd,hx _ (getD_mem (d:=(([]:List UInt8),([]:List aS),())) hn)⟩,Zi (n:=n) _ (by rw[atb];exact Ot d n) (by omega),rfl,next _ ?_⟩;rw[Sp.take_succ' d n ([],[],()) hn,atE];rfl
 .subst hJ;dsimp only;refine bV (by omega) ?_;rw[atg];exact congrArg (·,()) (IW h).symm
theorem UJ:OK uU.e:=by
 refine aV [AO.e,kX.e] ⟨ab6,BR,⟨⟩⟩ WN λs0 s1 s2 d u=>show uU.goal (UK s0 s1 s2 d u) ((s0,s1,s2,()),d,u,())fromλhin hp=>?_
 dsimp only[uU]at hp ⊢;obtain⟨ht,hd,hx⟩:qy (s0,s1,s2,())/\fF d/\∀x∈d,x.1.length<=2000000:=hp;have hdl:=hd.1;refine⟨hd,?_⟩;rintro⟨⟨r,ok,⟨⟩⟩,⟨⟩⟩ ⟨e1,e2⟩;dsimp only at e1 e2 ⊢;subst e1 e2;refine af (λh=>?_) λh=>?_
 .exact congrArg (·,()) (LD (iR h)).symm
 have h:(dR (s0,s1,s2,()) d u).2=true:=dY h;refine eH (λi(x:Sp.LS)=>(((),i,()),x,())) (λy=>y.1.2.1) (λ_ _=>rfl) d.length (by omega) (λn x=>x=(d.take n).map λx=>(zT (s0,s1,s2,()) d u x.1,())) rfl (λI μ n x hn hJ next=>?_) λI μ x hJ=>?_
 .subst hJ;dsimp only;refine bY (by omega) ⟨⟨by omega,by omega⟩,⟨ab9 h,ht,hd,hx _ (getD_mem (d:=(([]:List UInt8),([]:List aS),())) hn)⟩,Zi (n:=n) _ (by rw[atb];exact Ot d n) (by omega),rfl,next _ ?_⟩;rw[Sp.take_succ' d n ([],[],()) hn,atE];rfl
 .subst hJ;dsimp only;refine bV (by omega) ?_;rw[atg];exact congrArg (·,()) (IW h).symm
end Go.Proofs.Tryz
namespace Go.Proofs.Tryz
open Go Go.Fw Go.IntWalk Sp
theorem aj9{α:Type}(f:α->Nat):∀(l:List α)(n:Nat),fB f (l.take n)<=fB f l
 |[],n=>by rw[List.take_nil];exact as7 _
 |x::l,0=>atl _
 |x::l,n+1=>by have:=aj9 f l n;show 1+f x+fB f (l.take n)<=1+f x+fB f l;omega
theorem YW{x0:List dI}{x1:List aA}{x2:Int}{x3:List ay}{x4:List bK}{x5 x6:List UInt8}{x7:Int}{x8:List jA}{x9:List iw}{x10:List (Int×Unit)}(h:zU (x0,x1,x2,x3,x4,x5,x6,x7,x8,x9,x10,())<=1048576):
 (qy (x0,x1,x2,())/\fF x3/\∀x∈x3,x.1.length<=2000000)/\pq x9<=1048576:=by
 have h:((o9 x0+fB Iq x1)+(fB Hz x3+Ez x4))+((x5.length+x6.length)+(uY x8+(pq x9+x10.length)))<=1048576:=h;have hd:=jd Hz x3;refine⟨⟨λf hf a ha=>?_,⟨by omega,λe he=>?_⟩,λe he=>?_⟩,by omega⟩
 .have h3:=jK Iq x1 f hf;obtain⟨i,o,s,k,at',⟨⟩⟩:=f;have h3:fB Kz at'<=fB Iq x1:=h3;have h4:=jK Kz at' a ha;obtain⟨nm,k,i,s,⟨⟩⟩:=a;have h4:nm.length+s.length<=fB Kz at':=h4;show s.length<=2000000;omega
 .have h3:=jK Hz x3 e he;obtain⟨nm,q,⟨⟩⟩:=e;have h3:nm.length+fB KA q<=fB Hz x3:=h3;have h5:=jd KA q;show q.length<=2000000;omega
 .have h3:=jK Hz x3 e he;obtain⟨nm,q,⟨⟩⟩:=e;have h3:nm.length+fB KA q<=fB Hz x3:=h3;show nm.length<=2000000;omega
theorem LK{s:aT}{d:List ay}(h:d.length<=2000000){n:Nat}(hn:n<=3):(oh s d n).length<=6000003:=by have h1:=Xv (s:=s) h n;have h2:n*(2000000+1)<=3*(2000000+1):=atf _ hn;omega
theorem ahr{s:aT}{d:List ay}(h:d.length<=2000000)(u:Int):(Sp.aj s d u).length<=2000000:=by
 cases hk:(dR s d u).2 with
 |true=>rw[IW hk,atb];exact h
 |false=>rw[LD hk];exact atl _
theorem acd(s:aT)(d:List ay)(n:Nat)(x:List UInt8×Unit):x::oh s d n++[([117,115,101,114,32]++Lib.itoa n,())]++Sp.aj s d n=x::oh s d (n+1):=by show _=x::(oh s d n++(([117,115,101,114,32]++Lib.itoa n,())::Sp.aj s d n));simp[atz]
theorem FD(ws:List iw){n:Nat}(h:n<ws.length)(l:Sp.LS):l++jo (ws.take n)++oN (ws.getD n (0,[],[],[],()))=l++jo (ws.take (n+1)):=by rw[Sp.take_succ' ws n (0,[],[],[],()) h,JM,atz];simp[jo]
theorem Px:OK kR.e:=by
 refine aV [tK.e,uT.e,jH.e] ⟨Q7,UH,ql,⟨⟩⟩ Rq λx0 x1 x2 x3 x4 x5 x6 x7 x8 x9 x10=>show kR.goal (PI x0 x1 x2 x3 x4 x5 x6 x7 x8 x9 x10) ((x0,x1,x2,x3,x4,x5,x6,x7,x8,x9,x10,()),())fromλhin hp=>?_
 dsimp only[kR]at hp ⊢;obtain⟨ht,hw⟩:=YW hp;have hd:=ht.2.1.1;have hi:=uf x7 hin.1.2.2.2.2.2.2.2.1;have hwl:=jd uD x9;have hw':fB uD x9<=1048576:=hw;refine⟨trivial,pV (by show 8+_<=_;omega),?_⟩;refine eH (λi(x:Sp.LS)=>(((),i,()),x,())) (λy=>y.1.2.1) (λ_ _=>rfl) 3 (by decide) (λn x=>x=([118,101,114,115,105,111,110,32]++Lib.itoa x7,())::oh (x0,x1,x2,()) x3 n) rfl (λI μ n x hn hJ next=>?_) λI μ x hJ=>?_
 .subst hJ;have hu:=uf (n:Int) (by omega);have l1:=LK (s:=(x0,x1,x2,())) hd (ave hn);have l2:=ahr (s:=(x0,x1,x2,())) hd (n:Int);dsimp only;refine bY (by omega) ⟨trivial,pV (by show 5+_<=_;omega),by rw[dm];simp only[asY,as6];omega,ht,by rw[dm];simp only[as4,asY,as6];omega,rfl,next _ (acd (x0,x1,x2,()) x3 n _)⟩
 .subst hJ;dsimp only;have l1:=LK (s:=(x0,x1,x2,())) hd (as7 3);refine bV (by omega) ?_;refine eH (λi(x:Sp.LS)=>(((),i,()),x,())) (λy=>y.1.2.1) (λ_ _=>rfl) x9.length (by omega) (λn x=>x=([118,101,114,115,105,111,110,32]++Lib.itoa x7,())::oh (x0,x1,x2,()) x3 3++jo (x9.take n)) (by simp[jo]) (λI μ n x hn hJ next=>?_) λI μ x hJ=>?_
  .subst hJ;have h1:=jK uD x9 (x9.getD n (0,[],[],[],())) (getD_mem hn);have h2:=DK (x9.take (n+1));have h3:pq (x9.take (n+1))<=pq x9:=aj9 uD x9 (n+1);have h4:=congrArg List.length (FD x9 hn []);rw[as4,at6,at6]at h4;dsimp only;refine bY (by omega) ⟨⟨by omega,by omega⟩,?_,?_,rfl,next _ ?_⟩
   .show uD (x9.getD n (0,[],[],[],()))<=_;omega
   .show List.length (_++_)+(oN (x9.getD n (0,[],[],[],()))).length<=_;rw[dm,as4,asY];omega
   .exact FD x9 hn _
  .subst hJ;dsimp only;refine bV (by omega) ?_;rw[atg];rfl
theorem Pv:OK kS.e:=by
 refine aV [tJ.e,uU.e,jI.e] ⟨QZ,UJ,qm,⟨⟩⟩ Rt λx0 x1 x2 x3 x4 x5 x6 x7 x8 x9 x10=>show kS.goal (PK x0 x1 x2 x3 x4 x5 x6 x7 x8 x9 x10) ((x0,x1,x2,x3,x4,x5,x6,x7,x8,x9,x10,()),())fromλhin hp=>?_
 dsimp only[kS]at hp ⊢;obtain⟨ht,hw⟩:=YW hp;have hd:=ht.2.1.1;have hi:=uf x7 hin.1.2.2.2.2.2.2.2.1;have hwl:=jd uD x9;have hw':fB uD x9<=1048576:=hw;refine⟨trivial,pV (by show 8+_<=_;omega),?_⟩;refine eH (λi(x:Sp.LS)=>(((),i,()),x,())) (λy=>y.1.2.1) (λ_ _=>rfl) 3 (by decide) (λn x=>x=([118,101,114,115,105,111,110,32]++Lib.itoa x7,())::oh (x0,x1,x2,()) x3 n) rfl (λI μ n x hn hJ next=>?_) λI μ x hJ=>?_
 .subst hJ;have hu:=uf (n:Int) (by omega);have l1:=LK (s:=(x0,x1,x2,())) hd (ave hn);have l2:=ahr (s:=(x0,x1,x2,())) hd (n:Int);dsimp only;refine bY (by omega) ⟨trivial,pV (by show 5+_<=_;omega),by rw[dm];simp only[asY,as6];omega,ht,by rw[dm];simp only[as4,asY,as6];omega,rfl,next _ (acd (x0,x1,x2,()) x3 n _)⟩
 .subst hJ;dsimp only;have l1:=LK (s:=(x0,x1,x2,())) hd (as7 3);refine bV (by omega) ?_;refine eH (λi(x:Sp.LS)=>(((),i,()),x,())) (λy=>y.1.2.1) (λ_ _=>rfl) x9.length (by omega) (λn x=>x=([118,101,114,115,105,111,110,32]++Lib.itoa x7,())::oh (x0,x1,x2,()) x3 3++jo (x9.take n)) (by simp[jo]) (λI μ n x hn hJ next=>?_) λI μ x hJ=>?_
  .subst hJ;have h1:=jK uD x9 (x9.getD n (0,[],[],[],())) (getD_mem hn);have h2:=DK (x9.take (n+1));have h3:pq (x9.take (n+1))<=pq x9:=aj9 uD x9 (n+1);have h4:=congrArg List.length (FD x9 hn []);rw[as4,at6,at6]at h4;dsimp only;refine bY (by omega) ⟨⟨by omega,by omega⟩,?_,?_,rfl,next _ ?_⟩
   .show uD (x9.getD n (0,[],[],[],()))<=_;omega
   .show List.length (_++_)+(oN (x9.getD n (0,[],[],[],()))).length<=_;rw[dm,as4,asY];omega
   .exact FD x9 hn _
  .subst hJ;dsimp only;refine bV (by omega) ?_;rw[atg];rfl
end Go.Proofs.Tryz
namespace Go.Proofs.Tryz
open Go Go.Fw Go.IntWalk Sp
theorem sz1{n:Nat}{left:Int}(hn:n<=maxLen)(h0:0<=left)(h1:left<=1048576){K:Int×Unit->Prop}(hK:K (aH n left,())):
 bif decide (IntKind.i64.wrap (left-(n:Int))<(0:Int))then K ((-1:Int),())else K (IntKind.i64.wrap (left-(n:Int)),()):=by
 rw[maxLen_eq]at hn;rw[eu _ (by omega)];unfold aH at hK;refine af (λh=>?_) λh=>?_<;>simp only[ate,atc]at h
 .rw[if_pos h]at hK;exact hK
 .rw[if_neg h]at hK;exact hK
theorem szr{n:Nat}{left:Int}{K:Int×Unit->Prop}(hK:K (aH n left,())):
 bif decide (aH n left<(0:Int))then K ((-1:Int),())else K (aH n left,()):=by
 refine af (λh=>?_) λh=>?_<;>simp only[ate,atc]at h
 .have:=Po (m:=0) h;rw[auE]at this;rw[this]at hK;exact hK
 .exact hK
theorem sz2{n m:Nat}{left:Int}(hn:n<=maxLen)(h0:0<=left)(h1:left<=1048576){K:Int×Unit->Prop}(hK:K (aH (n+m) left,())):
 bif decide (IntKind.i64.wrap (left-(n:Int))<(0:Int))then K ((-1:Int),())
 else((0:Int)<=IntKind.i64.wrap (left-(n:Int))/\IntKind.i64.wrap (left-(n:Int))<=(1048576:Int))/\
  (bif decide (aH m (IntKind.i64.wrap (left-(n:Int)))<(0:Int))then K ((-1:Int),())else K (aH m (IntKind.i64.wrap (left-(n:Int))),())):=by
 rw[maxLen_eq]at hn;rw[eu _ (by omega)];refine af (λh=>?_) λh=>?_<;>simp only[ate,atc]at h
 .rw[Po (by unfold aH;rw[if_pos h];omega)]at hK;exact hK
 .refine⟨⟨by omega,by omega⟩,szr ?_⟩;rw[← TT h,TU (by rw[TT h];omega)];exact hK
theorem sz3{n m:Nat}{left:Int}(h0:0<=left)(h1:left<=1048576){K:Int×Unit->Prop}(hK:K (aH (n+m) left,())):
 ((0:Int)<=left/\left<=(1048576:Int))/\
 (bif decide (aH n left<(0:Int))then K ((-1:Int),())
 else((0:Int)<=aH n left/\aH n left<=(1048576:Int))/\
  (bif decide (aH m (aH n left)<(0:Int))then K ((-1:Int),())else K (aH m (aH n left),()))):=by
 refine⟨⟨h0,h1⟩,af (λh=>?_) λh=>?_⟩<;>simp only[ate,atc]at h
 .rw[Po h]at hK;exact hK
 .have:=ae4 (n:=n) h0;refine⟨⟨by omega,by omega⟩,szr ?_⟩;rw[TU (by omega)];exact hK
theorem CW{W:Nat}{left:Int}(h:left<W):((-1:Int),())=(aH W left,()):=by unfold aH;rw[if_pos (by omega)]
theorem Hr{n:Nat}{left:Int}(h:(n:Int)<=left):aH n left=left-n:=by unfold aH;rw[if_neg (by omega)]
theorem ahl{n W:Nat}{x left:Int}(h:left-W=x-n):(aH n x,())=(aH W left,()):=by unfold aH;rw[h]
theorem Pq{n:Nat}{left:Int}{K:Int×Unit->Prop}{R:Prop}(hK:left<n->K (-1,()))(hR:(n:Int)<=left->R):bif decide (aH n left<0)then K (-1,())else R:=by
 unfold aH;by_cases h:left-n<0
 .rw[if_pos h];exact hK (by omega)
 .rw[if_neg h,atp (by omega)];exact hR (by omega)
theorem ahm{n:Nat}{left:Int}{K:Int×Unit->Prop}{R:Prop}(hn:n<=maxLen)(h0:0<=left)(h1:left<=1048576)(hK:left<n->K (-1,()))(hR:(n:Int)<=left->R):bif decide (IntKind.i64.wrap (left-(n:Int))<0)then K (-1,())else R:=by
 rw[maxLen_eq]at hn;rw[eu _ (by omega)];by_cases h:left-n<0
 .rw[atj h];exact hK (by omega)
 .rw[atp h];exact hR (by omega)
theorem Lc:OK vM.e:=by
 refine aV [] ⟨⟩ H0 λa0 a1 a2 left=>show vM.goal (aaM a0 a1 a2 left) ((a0,a1,a2,()),left,())fromλhin hp=>?_
 dsimp only[vM]at hp ⊢;exact sz1 (K:=λr=>r=(_,())) hin.1.2.2.1 hp.1 hp.2 rfl
theorem adt:OK Di.e:=by
 refine aV [vM.e] ⟨Lc,⟨⟩⟩ H0 λa0 a1 a2 a3 left=>show Di.goal (adu a0 a1 a2 a3 left) ((a0,a1,a2,a3,()),left,())fromλhin hp=>?_
 dsimp only[Di]at hp ⊢;exact sz2 (K:=λr=>r=(_,())) hin.1.1 hp.1 hp.2 rfl
theorem adv:OK Dj.e:=by
 refine aV [vM.e] ⟨Lc,⟨⟩⟩ H0 λa0 a1 a2 a3 a4 a5 a6 left=>show Dj.goal (adw a0 a1 a2 a3 a4 a5 a6 left) ((a0,a1,a2,a3,a4,a5,a6,()),left,())fromλhin hp=>?_
 dsimp only[Dj]at hp ⊢;exact sz2 (K:=λr=>r=(_,())) hin.1.2.2.2.1 hp.1 hp.2 rfl
theorem aaN:OK AP.e:=by
 refine aV [Di.e] ⟨adt,⟨⟩⟩ adx λa left=>show AP.goal (aaO a left) (a,left,())fromλhin hp=>?_
 dsimp only[AP]at hp ⊢;exact Fg (K:=λr=>r=(_,())) Kz _ a left _ hin.1.1 hp.1 hp.2 rfl
theorem aaP:OK AQ.e:=by
 refine aV [Dj.e] ⟨adv,⟨⟩⟩ ady λa left=>show AQ.goal (aaQ a left) (a,left,())fromλhin hp=>?_
 dsimp only[AQ]at hp ⊢;exact Fg (K:=λr=>r=(_,())) KA _ a left _ hin.1.1 hp.1 hp.2 rfl
theorem adz:OK Dk.e:=by
 refine aV [AP.e] ⟨aaN,⟨⟩⟩ H0 λa0 a1 a2 a3 a4 left=>show Dk.goal (adA a0 a1 a2 a3 a4 left) ((a0,a1,a2,a3,a4,()),left,())fromλhin hp=>?_
 dsimp only[Dk]at hp ⊢;exact⟨hp,szr (K:=λr=>r=(_,())) rfl⟩
theorem afB:OK Ey.e:=by
 refine aV [AQ.e] ⟨aaP,⟨⟩⟩ H0 λa0 a1 left=>show Ey.goal (afC a0 a1 left) ((a0,a1,()),left,())fromλhin hp=>?_
 dsimp only[Ey]at hp ⊢;exact sz2 (K:=λr=>r=(_,())) hin.1.1 hp.1 hp.2 rfl
theorem aaR:OK AU.e:=by
 refine aV [] ⟨⟩ H0 λa0 a1 left=>show AU.goal (aaS a0 a1 left) ((a0,a1,()),left,())fromλhin hp=>?_
 dsimp only[AU]at hp ⊢;exact sz1 (K:=λr=>r=(_,())) hin.1.1 hp.1 hp.2 rfl
theorem Yn:OK zl.e:=by
 refine aV [AU.e] ⟨aaR,⟨⟩⟩ aaT λa left=>show zl.goal (Yo a left) (a,left,())fromλhin hp=>?_
 dsimp only[zl]at hp ⊢;exact Fg (K:=λr=>r=(_,())) RX _ a left _ hin.1.1 hp.1 hp.2 rfl
theorem aaU:OK AX.e:=by
 refine aV [Dk.e] ⟨adz,⟨⟩⟩ adB λa left=>show AX.goal (aaV a left) (a,left,())fromλhin hp=>?_
 dsimp only[AX]at hp ⊢;exact Fg (K:=λr=>r=(_,())) Iq _ a left _ hin.1.1 hp.1 hp.2 rfl
theorem NZ:OK xY.e:=by
 refine aV [Ey.e] ⟨afB,⟨⟩⟩ afD λa left=>show xY.goal (adC a left) (a,left,())fromλhin hp=>?_
 dsimp only[xY]at hp ⊢;exact Fg (K:=λr=>r=(_,())) Hz _ a left _ hin.1.1 hp.1 hp.2 rfl
theorem BD:OK pW.e:=by
 refine aV [] ⟨⟩ H0 λa left=>show pW.goal (adD a left) (a,left,())fromλhin hp=>?_
 dsimp only[pW]at hp ⊢;exact sz1 (K:=λr=>r=(_,())) hin.1.1 hp.1 hp.2 rfl
theorem Yp:OK zn.e:=by
 refine aV [pW.e] ⟨BD,⟨⟩⟩ H0 λa0 a1 left=>show zn.goal (Yq a0 a1 left) ((a0,a1,()),left,())fromλhin hp=>?_
 dsimp only[zn]at hp ⊢;exact sz2 (K:=λr=>r=(_,())) hin.1.1 hp.1 hp.2 rfl
theorem VQ:OK wW.e:=by
 refine aV [zn.e] ⟨Yp,⟨⟩⟩ Yr λa left=>show wW.goal (VR a left) (a,left,())fromλhin hp=>?_
 dsimp only[wW]at hp ⊢;exact Fg (K:=λr=>r=(_,())) acR _ a left _ hin.1.1 hp.1 hp.2 rfl
theorem Ld:OK vN.e:=by
 refine aV [AX.e,zl.e] ⟨aaU,Yn,⟨⟩⟩ H0 λa0 a1 a2 left=>show vN.goal (aaW a0 a1 a2 left) ((a0,a1,a2,()),left,())fromλhin hp=>?_
 dsimp only[vN]at hp ⊢;exact sz3 (K:=λr=>r=(_,())) hp.1 hp.2 rfl
theorem TV:OK uV.e:=by
 refine aV [xY.e,vN.e] ⟨NZ,Ld,⟨⟩⟩ H0 λa0 a1 a2 a3 left=>show uV.goal (TW a0 a1 a2 a3 left) ((a0,a1,a2,a3,()),left,())fromλhin hp=>?_
 dsimp only[uV]at hp ⊢;exact sz3 (K:=λr=>r=(_,())) hp.1 hp.2 rfl
theorem VS:OK wY.e:=by
 refine aV [uV.e] ⟨TV,⟨⟩⟩ H0 λa0 a1 a2 a3 a4 a5 left=>show wY.goal (VT a0 a1 a2 a3 a4 a5 left) ((a0,a1,a2,a3,a4,a5,()),left,())fromλhin hp=>?_
 dsimp only[wY]at hp ⊢;exact⟨hp,szr (K:=λr=>r=(_,())) rfl⟩
theorem TY:OK uX.e:=by
 refine aV [wY.e] ⟨VS,⟨⟩⟩ VU λa left=>show uX.goal (Ua a left) (a,left,())fromλhin hp=>?_
 dsimp only[uX]at hp ⊢;exact Fg (K:=λr=>r=(_,())) acS _ a left _ hin.1.1 hp.1 hp.2 rfl
theorem aaX:OK AY.e:=by
 refine aV [pW.e] ⟨BD,⟨⟩⟩ H0 λa0 a1 a2 left=>show AY.goal (aaY a0 a1 a2 left) ((a0,a1,a2,()),left,())fromλhin hp=>?_
 dsimp only[AY]at hp ⊢;exact sz3 (K:=λr=>r=(_,())) hp.1 hp.2 rfl
theorem Yt:OK zo.e:=by
 refine aV [AY.e] ⟨aaX,⟨⟩⟩ aaZ λa left=>show zo.goal (Yu a left) (a,left,())fromλhin hp=>?_
 dsimp only[zo]at hp ⊢;exact Fg (K:=λr=>r=(_,())) GZ _ a left _ hin.1.1 hp.1 hp.2 rfl
theorem aa0:OK AZ.e:=by
 refine aV [zo.e,pW.e] ⟨Yt,BD,⟨⟩⟩ H0 λa0 a1 a2 a3 left=>show AZ.goal (aa1 a0 a1 a2 a3 left) ((a0,a1,a2,a3,()),left,())fromλhin hp=>?_
 dsimp only[AZ]at hp ⊢;obtain⟨h0,h1⟩:0<=left/\left<=1048576:=hp;have l1:a1.length<=maxLen:=hin.1.2.1;have hw:uD (a0,a1,a2,a3,())=a1.length+(a2.length+DZ a3):=rfl;refine ahm (K:=λr=>r=(_,())) l1 h0 h1 (λh=>CW (by rw[hw];omega)) λh=>?_;dsimp only;rw[maxLen_eq]at l1;rw[eu (left-a1.length) (by omega)];refine⟨⟨by omega,by omega⟩,Pq (K:=λr=>r=(_,())) (λh=>CW (by rw[hw];omega)) λh2=>?_⟩;rw[Hr h2];exact⟨⟨by omega,by omega⟩,szr (K:=λr=>r=(_,())) (ahl (by rw[hw];omega))⟩
theorem Yv:OK zq.e:=by
 refine aV [AZ.e] ⟨aa0,⟨⟩⟩ aa2 λa left=>show zq.goal (Yw a left) (a,left,())fromλhin hp=>?_
 dsimp only[zq]at hp ⊢;exact Fg (K:=λr=>r=(_,())) uD _ a left _ hin.1.1 hp.1 hp.2 rfl
theorem adE:OK Dl.e:=by
 refine aV [] ⟨⟩ H0 λa0 a1 left=>show Dl.goal (adF a0 a1 left) ((a0,a1,()),left,())fromλhin hp=>?_
 dsimp only[Dl]at hp ⊢;obtain⟨h0,h1⟩:0<=left/\left<=1048576:=hp;have l0:a0.length<=maxLen:=hin.1.1;have l1:a1.length<=maxLen:=hin.1.2.1;refine ahm (K:=λr=>r=(_,())) l0 h0 h1 (λh=>CW (by omega)) λh=>?_;rw[maxLen_eq]at l0;rw[eu (left-a0.length) (by omega)];refine ahm (K:=λr=>r=(_,())) l1 (by omega) (by omega) (λh=>CW (by omega)) λh2=>?_;rw[maxLen_eq]at l1;rw[eu _ (by omega)];show _=(aH (a0.length+a1.length) left,());rw[Hr (by omega)];exact congrArg (·,()) (by omega)
theorem VX:OK wX.e:=by
 refine aV [wW.e,xY.e,vN.e] ⟨VQ,NZ,Ld,⟨⟩⟩ H0 λa0 a1 a2 a3 a4 left=>show wX.goal (VY a0 a1 a2 a3 a4 left) ((a0,a1,a2,a3,a4,()),left,())fromλhin hp=>?_
 dsimp only[wX]at hp ⊢;obtain⟨h0,h1⟩:0<=left/\left<=1048576:=hp;have hw:RY (a0,a1,a2,a3,a4,())=zW (a0,a1,a2,())+(qA a3+Ez a4):=rfl;refine⟨⟨h0,h1⟩,?_⟩;dsimp only;refine(Pq (K:=λr=>r=(_,())) (λh=>CW (by rw[hw];omega)) λh=>?_);rw[Hr h];refine⟨⟨by omega,by omega⟩,Pq (K:=λr=>r=(_,())) (λh=>CW (by rw[hw];omega)) λh2=>?_⟩;rw[Hr h2];exact⟨⟨by omega,by omega⟩,szr (K:=λr=>r=(_,())) (ahl (by rw[hw];omega))⟩
theorem Yx:OK pz.e:=by
 refine aV [pW.e,zq.e,uX.e,Dl.e,wX.e] ⟨BD,Yv,TY,adE,VX,⟨⟩⟩ H0 λa0 a1 a2 a3 a4 a5 a6 a7 a8 a9 a10 left=>show pz.goal (Yy a0 a1 a2 a3 a4 a5 a6 a7 a8 a9 a10 left) ((a0,a1,a2,a3,a4,a5,a6,a7,a8,a9,a10,()),left,())fromλhin hp=>?_
 dsimp only[pz]at hp ⊢;obtain⟨h0,h1⟩:0<=left/\left<=1048576:=hp;have hw:zU (a0,a1,a2,a3,a4,a5,a6,a7,a8,a9,a10,())=RY (a0,a1,a2,a3,a4,())+((a5.length+a6.length)+(uY a8+(pq a9+a10.length))):=rfl;refine⟨⟨h0,h1⟩,?_⟩;dsimp only;refine(Pq (K:=λr=>r=(_,())) (λh=>CW (by rw[hw];omega)) λh=>?_);rw[Hr h];refine⟨⟨by omega,by omega⟩,Pq (K:=λr=>r=(_,())) (λh=>CW (by rw[hw];omega)) λh2=>?_⟩;rw[Hr h2];refine⟨⟨by omega,by omega⟩,Pq (K:=λr=>r=(_,())) (λh=>CW (by rw[hw];omega)) λh3=>?_⟩;rw[Hr h3];refine⟨⟨by omega,by omega⟩,Pq (K:=λr=>r=(_,())) (λh=>CW (by rw[hw];omega)) λh4=>?_⟩;rw[Hr h4];exact⟨⟨by omega,by omega⟩,szr (K:=λr=>r=(_,())) (ahl (by rw[hw];omega))⟩
theorem Le:OK vO.e:=by
 refine aV [] ⟨⟩ H0 λa0 a1 a2=>show vO.goal (aa3 a0 a1 a2) ((a0,a1,a2,()),())fromλhin hp=>?_
 dsimp only[vO]at hp ⊢;exact rfl
theorem adG:OK Dn.e:=by
 refine aV [vO.e] ⟨Le,⟨⟩⟩ H0 λa0 a1 a2 a3=>show Dn.goal (adH a0 a1 a2 a3) ((a0,a1,a2,a3,()),())fromλhin hp=>?_
 dsimp only[Dn]at hp ⊢;exact⟨trivial,rfl⟩
theorem adI:OK Dp.e:=by
 refine aV [vO.e] ⟨Le,⟨⟩⟩ H0 λa0 a1 a2 a3 a4 a5 a6=>show Dp.goal (adJ a0 a1 a2 a3 a4 a5 a6) ((a0,a1,a2,a3,a4,a5,a6,()),())fromλhin hp=>?_
 dsimp only[Dp]at hp ⊢;exact⟨trivial,rfl⟩
theorem aa4:OK A7.e:=by
 refine aV [Dn.e] ⟨adG,⟨⟩⟩ adK λa=>show A7.goal (aa5 a) (a,())fromλhin hp=>?_
 dsimp only[A7]at hp ⊢;exact toS_vc (K:=λr=>r=(_,())) (λ_=>True) _ a _ (by have h:fB Kz a<=big:=hp;rw[jd,dm]at h;omega) (λ_ _=>trivial) rfl
theorem aa6:OK A8.e:=by
 refine aV [Dp.e] ⟨adI,⟨⟩⟩ adL λa=>show A8.goal (aa7 a) (a,())fromλhin hp=>?_
 dsimp only[A8]at hp ⊢;exact toS_vc (K:=λr=>r=(_,())) (λ_=>True) _ a _ (by have h:fB KA a<=big:=hp;rw[jd,dm]at h;omega) (λ_ _=>trivial) rfl
theorem adM:OK Dq.e:=by
 refine aV [A7.e] ⟨aa4,⟨⟩⟩ H0 λa0 a1 a2 a3 a4=>show Dq.goal (adN a0 a1 a2 a3 a4) ((a0,a1,a2,a3,a4,()),())fromλhin hp=>?_
 dsimp only[Dq]at hp ⊢;exact⟨hp,rfl⟩
theorem afE:OK EC.e:=by
 refine aV [A8.e] ⟨aa6,⟨⟩⟩ H0 λa0 a1=>show EC.goal (afF a0 a1) ((a0,a1,()),())fromλhin hp=>?_
 dsimp only[EC]at hp ⊢;exact⟨hp,rfl⟩
theorem aa8:OK Ba.e:=by
 refine aV [] ⟨⟩ H0 λa0 a1=>show Ba.goal (aa9 a0 a1) ((a0,a1,()),())fromλhin hp=>?_
 dsimp only[Ba]at hp ⊢;exact rfl
theorem Yz:OK zu.e:=by
 refine aV [Ba.e] ⟨aa8,⟨⟩⟩ abb λa=>show zu.goal (YA a) (a,())fromλhin hp=>?_
 dsimp only[zu]at hp ⊢;exact toS_vc (K:=λr=>r=(_,())) (λ_=>True) _ a _ (by have h:fB RX a<=big:=hp;rw[jd,dm]at h;omega) (λ_ _=>trivial) rfl
theorem abd:OK Bc.e:=by
 refine aV [Dq.e] ⟨adM,⟨⟩⟩ adO λa=>show Bc.goal (abe a) (a,())fromλhin hp=>?_
 dsimp only[Bc]at hp ⊢;have h:fB Iq a<=big:=hp;exact toS_vc (K:=λr=>r=(_,())) (λx=>zV x.2.2.2.2.1<=big) _ a _ (by rw[jd,dm]at h;omega) (λx hx=>as3 (as7 _) (as3 (jK Iq a x hx) h)) rfl
theorem N7:OK xZ.e:=by
 refine aV [EC.e] ⟨afE,⟨⟩⟩ afG λa=>show xZ.goal (adP a) (a,())fromλhin hp=>?_
 dsimp only[xZ]at hp ⊢;have h:fB Hz a<=big:=hp;exact toS_vc (K:=λr=>r=(_,())) (λx=>Cj x.2.1<=big) _ a _ (by rw[jd,dm]at h;omega) (λx hx=>as3 (aug _ _) (as3 (jK Hz a x hx) h)) rfl
theorem BF:OK pX.e:=by
 refine aV [] ⟨⟩ afH λa=>show pX.goal (adQ a) (a,())fromλhin hp=>?_
 dsimp only[pX]at hp ⊢;have hbig:a.length<=4294967296:=hp;refine⟨⟨by omega,by omega,by rw[dm];omega⟩,λy=>∃n:Nat,y.1.1=n/\n<=a.length/\y.2.1=a.take n++List.replicate (a.length-n) (0,()),λy=>((a.length:Int)-y.1.1).toNat,⟨0,rfl,by omega,by simp⟩,?_⟩;rintro⟨⟨_,⟨⟩⟩,l,⟨⟩⟩ ⟨n,rfl,hn,rfl⟩;refine af (λh=>?_) λh=>?_<;>simp only[ate,atc]at h ⊢
 .have hlt:n<a.length:=by omega
  rw[eu _ (by omega)];have e:(a.take n++List.replicate (a.length-n) ((0:Int),())).set n ((a.getD n (0,())).1,())=a.take (n+1)++List.replicate (a.length-(n+1)) (0,()):=by
   rw[show a.length-n=a.length-(n+1)+1 by omega,List.replicate_succ,auo _ _ (by rw[atv];omega),atv,auC hn,auT,au3,
    atO hlt,atz,atn,as5 hlt]
   rfl
  refine⟨⟨by omega,by omega⟩,⟨by omega,by simp only[as4,atv,aup];omega⟩,by simp only[as4,atv,aup];omega,rfl,⟨n+1,by simp,by omega,?_⟩,by show((a.length:Int)-((n:Int)+1)).toNat<((a.length:Int)-(n:Int)).toNat;omega⟩;rw[ata,e]
 .have hge:n=a.length:=by omega
  subst hge;simp
theorem YB:OK zx.e:=by
 refine aV [pX.e] ⟨BF,⟨⟩⟩ H0 λa0 a1=>show zx.goal (YC a0 a1) ((a0,a1,()),())fromλhin hp=>?_
 dsimp only[zx]at hp ⊢;exact⟨hp,rfl⟩
theorem VZ:OK xg.e:=by
 refine aV [zx.e] ⟨YB,⟨⟩⟩ YD λa=>show xg.goal (V3 a) (a,())fromλhin hp=>?_
 dsimp only[xg]at hp ⊢;have h:fB acR a<=big:=hp;exact toS_vc (K:=λr=>r=(_,())) (λx=>x.2.1.length<=big) _ a _ (by rw[jd,dm]at h;omega) (λx hx=>as3 (aug _ _) (as3 (jK acR a x hx) h)) rfl
theorem Lh:OK vP.e:=by
 refine aV [Bc.e,zu.e] ⟨abd,Yz,⟨⟩⟩ H0 λa0 a1 a2=>show vP.goal (abf a0 a1 a2) ((a0,a1,a2,()),())fromλhin hp=>?_
 dsimp only[vP]at hp ⊢;have h:o9 a0+Cm a1<=big:=hp;exact⟨as3 (auO _ _) h,as3 (aug _ _) h,rfl⟩
theorem Ub:OK uZ.e:=by
 refine aV [xZ.e,vP.e] ⟨N7,Lh,⟨⟩⟩ H0 λa0 a1 a2 a3=>show uZ.goal (Uc a0 a1 a2 a3) ((a0,a1,a2,a3,()),())fromλhin hp=>?_
 dsimp only[uZ]at hp ⊢;have h:zW (a0,a1,a2,())+qA a3<=big:=hp;exact⟨as3 (auO _ _) h,as3 (aug _ _) h,rfl⟩
theorem V4:OK xq.e:=by
 refine aV [uZ.e] ⟨Ub,⟨⟩⟩ H0 λa0 a1 a2 a3 a4 a5=>show xq.goal (V5 a0 a1 a2 a3 a4 a5) ((a0,a1,a2,a3,a4,a5,()),())fromλhin hp=>?_
 dsimp only[xq]at hp ⊢;exact⟨hp,rfl⟩
theorem Ud:OK ve.e:=by
 refine aV [xq.e] ⟨V4,⟨⟩⟩ V6 λa=>show ve.goal (Ue a) (a,())fromλhin hp=>?_
 dsimp only[ve]at hp ⊢;have h:fB acS a<=big:=hp;exact toS_vc (K:=λr=>r=(_,())) (λx=>KC (x.2.1,x.2.2.1,x.2.2.2.1,x.2.2.2.2.1,())<=big) _ a _ (by rw[jd,dm]at h;omega) (λx hx=>as3 (as7 _) (as3 (jK acS a x hx) h)) rfl
theorem abg:OK Bd.e:=by
 refine aV [pX.e] ⟨BF,⟨⟩⟩ H0 λa0 a1 a2=>show Bd.goal (abh a0 a1 a2) ((a0,a1,a2,()),())fromλhin hp=>?_
 dsimp only[Bd]at hp ⊢;have h:a1.length+a2.length<=big:=hp;exact⟨as3 (auO _ _) h,as3 (aug _ _) h,rfl⟩
theorem YE:OK zy.e:=by
 refine aV [Bd.e] ⟨abg,⟨⟩⟩ abj λa=>show zy.goal (YF a) (a,())fromλhin hp=>?_
 dsimp only[zy]at hp ⊢;have h:fB GZ a<=big:=hp;exact toS_vc (K:=λr=>r=(_,())) (λx=>x.2.1.length+x.2.2.1.length<=big) _ a _ (by rw[jd,dm]at h;omega) (λx hx=>as3 (as7 _) (as3 (jK GZ a x hx) h)) rfl
theorem abk:OK Bf.e:=by
 refine aV [zy.e,pX.e] ⟨YE,BF,⟨⟩⟩ H0 λa0 a1 a2 a3=>show Bf.goal (abl a0 a1 a2 a3) ((a0,a1,a2,a3,()),())fromλhin hp=>?_
 dsimp only[Bf]at hp ⊢;have h:a2.length+DZ a3<=big:=hp;exact⟨as3 (auO _ _) h,as3 (aug _ _) h,rfl⟩
theorem YG:OK zA.e:=by
 refine aV [Bf.e] ⟨abk,⟨⟩⟩ abm λa=>show zA.goal (YH a) (a,())fromλhin hp=>?_
 dsimp only[zA]at hp ⊢;have h:fB uD a<=big:=hp;exact toS_vc (K:=λr=>r=(_,())) (λx=>x.2.2.1.length+DZ x.2.2.2.1<=big) _ a _ (by rw[jd,dm]at h;omega) (λx hx=>as3 (aug _ _) (as3 (jK uD a x hx) h)) rfl
theorem adR:OK Dt.e:=by
 refine aV [] ⟨⟩ H0 λa0 a1=>show Dt.goal (adS a0 a1) ((a0,a1,()),())fromλhin hp=>?_
 dsimp only[Dt]at hp ⊢;exact rfl
theorem V7:OK xk.e:=by
 refine aV [xg.e,xZ.e,vP.e] ⟨VZ,N7,Lh,⟨⟩⟩ H0 λa0 a1 a2 a3 a4=>show xk.goal (V8 a0 a1 a2 a3 a4) ((a0,a1,a2,a3,a4,()),())fromλhin hp=>?_
 dsimp only[xk]at hp ⊢;have h:zW (a0,a1,a2,())+(qA a3+Ez a4)<=big:=hp;rw[dm]at h;exact⟨by rw[dm];omega,by rw[dm];omega,by rw[dm];omega,rfl⟩
theorem YI:OK pF.e:=by
 refine aV [pX.e,zA.e,ve.e,Dt.e,xk.e] ⟨BF,YG,Ud,adR,V7,⟨⟩⟩ H0 λa0 a1 a2 a3 a4 a5 a6 a7 a8 a9 a10=>show pF.goal (YJ a0 a1 a2 a3 a4 a5 a6 a7 a8 a9 a10) ((a0,a1,a2,a3,a4,a5,a6,a7,a8,a9,a10,()),())fromλhin hp=>?_
 dsimp only[pF]at hp ⊢;have h:RY (a0,a1,a2,a3,a4,())+((a5.length+a6.length)+(uY a8+(pq a9+a10.length)))<=big:=hp;rw[dm]at h;exact⟨by rw[dm];omega,trivial,by rw[dm];omega,by rw[dm];omega,by rw[dm];omega,rfl⟩
theorem Lj:OK vS.e:=by
 refine aV [] ⟨⟩ H0 λa0 a1 a2 b0 b1 b2=>show vS.goal (Ll a0 a1 a2 b0 b1 b2) ((a0,a1,a2,()),(b0,b1,b2,()),())fromλhin hp=>?_
 dsimp only[vS]at hp ⊢;have hp:(a0,a1,a2,())=(b0,b1,b2,()):=hp;cases hp;unfold Ll;simp
theorem adT:OK Du.e:=by
 refine aV [vS.e] ⟨Lj,⟨⟩⟩ H0 λa0 a1 a2 a3 b0 b1 b2 b3=>show Du.goal (N8 a0 a1 a2 a3 b0 b1 b2 b3) ((a0,a1,a2,a3,()),(b0,b1,b2,b3,()),())fromλhin hp=>?_
 dsimp only[Du]at hp ⊢;have hp:(a0,a1,a2,a3,())=(b0,b1,b2,b3,()):=hp;cases hp;unfold N8;simp
theorem adU:OK Dv.e:=by
 refine aV [vS.e] ⟨Lj,⟨⟩⟩ H0 λa0 a1 a2 a3 a4 a5 a6 b0 b1 b2 b3 b4 b5 b6=>show Dv.goal (N9 a0 a1 a2 a3 a4 a5 a6 b0 b1 b2 b3 b4 b5 b6) ((a0,a1,a2,a3,a4,a5,a6,()),(b0,b1,b2,b3,b4,b5,b6,()),())fromλhin hp=>?_
 dsimp only[Dv]at hp ⊢;have hp:(a0,a1,a2,a3,a4,a5,a6,())=(b0,b1,b2,b3,b4,b5,b6,()):=hp;cases hp;unfold N9;simp
theorem abn:OK Bg.e:=by
 refine aV [Du.e] ⟨adT,⟨⟩⟩ adV λa b=>show Bg.goal (abo a b) (a,b,())fromλhin hp=>?_
 dsimp only[Bg]at hp ⊢;obtain rfl:a=b:=hp;exact af (λh=>absurd h (by simp)) λ_=>eP a.length hin.1.1 (λ_=>True) trivial (λI μ n hn _ next=>by dsimp only;exact bY (by omega) ⟨⟨by omega,by omega⟩,⟨by omega,by omega⟩,rfl,rfl,next trivial⟩) λI μ _=>by dsimp only;exact bV (by omega) rfl
theorem abp:OK Bh.e:=by
 refine aV [Dv.e] ⟨adU,⟨⟩⟩ adW λa b=>show Bh.goal (abq a b) (a,b,())fromλhin hp=>?_
 dsimp only[Bh]at hp ⊢;obtain rfl:a=b:=hp;exact af (λh=>absurd h (by simp)) λ_=>eP a.length hin.1.1 (λ_=>True) trivial (λI μ n hn _ next=>by dsimp only;exact bY (by omega) ⟨⟨by omega,by omega⟩,⟨by omega,by omega⟩,rfl,rfl,next trivial⟩) λI μ _=>by dsimp only;exact bV (by omega) rfl
theorem adX:OK Dw.e:=by
 refine aV [Bg.e] ⟨abn,⟨⟩⟩ H0 λa0 a1 a2 a3 a4 b0 b1 b2 b3 b4=>show Dw.goal (Oa a0 a1 a2 a3 a4 b0 b1 b2 b3 b4) ((a0,a1,a2,a3,a4,()),(b0,b1,b2,b3,b4,()),())fromλhin hp=>?_
 dsimp only[Dw]at hp ⊢;have hp:(a0,a1,a2,a3,a4,())=(b0,b1,b2,b3,b4,()):=hp;cases hp;unfold Oa;simp
theorem afI:OK ED.e:=by
 refine aV [Bh.e] ⟨abp,⟨⟩⟩ H0 λa0 a1 b0 b1=>show ED.goal (Qx a0 a1 b0 b1) ((a0,a1,()),(b0,b1,()),())fromλhin hp=>?_
 dsimp only[ED]at hp ⊢;have hp:(a0,a1,())=(b0,b1,()):=hp;cases hp;unfold Qx;simp
theorem abr:OK Bj.e:=by
 refine aV [] ⟨⟩ H0 λa0 a1 b0 b1=>show Bj.goal (Lm a0 a1 b0 b1) ((a0,a1,()),(b0,b1,()),())fromλhin hp=>?_
 dsimp only[Bj]at hp ⊢;have hp:(a0,a1,())=(b0,b1,()):=hp;cases hp;unfold Lm;simp
theorem YK:OK zB.e:=by
 refine aV [Bj.e] ⟨abr,⟨⟩⟩ abt λa b=>show zB.goal (YL a b) (a,b,())fromλhin hp=>?_
 dsimp only[zB]at hp ⊢;obtain rfl:a=b:=hp;exact af (λh=>absurd h (by simp)) λ_=>eP a.length hin.1.1 (λ_=>True) trivial (λI μ n hn _ next=>by dsimp only;exact bY (by omega) ⟨⟨by omega,by omega⟩,⟨by omega,by omega⟩,rfl,rfl,next trivial⟩) λI μ _=>by dsimp only;exact bV (by omega) rfl
theorem abu:OK Bl.e:=by
 refine aV [Dw.e] ⟨adX,⟨⟩⟩ adY λa b=>show Bl.goal (abv a b) (a,b,())fromλhin hp=>?_
 dsimp only[Bl]at hp ⊢;obtain rfl:a=b:=hp;exact af (λh=>absurd h (by simp)) λ_=>eP a.length hin.1.1 (λ_=>True) trivial (λI μ n hn _ next=>by dsimp only;exact bY (by omega) ⟨⟨by omega,by omega⟩,⟨by omega,by omega⟩,rfl,rfl,next trivial⟩) λI μ _=>by dsimp only;exact bV (by omega) rfl
theorem Ob:OK yc.e:=by
 refine aV [ED.e] ⟨afI,⟨⟩⟩ afJ λa b=>show yc.goal (adZ a b) (a,b,())fromλhin hp=>?_
 dsimp only[yc]at hp ⊢;obtain rfl:a=b:=hp;exact af (λh=>absurd h (by simp)) λ_=>eP a.length hin.1.1 (λ_=>True) trivial (λI μ n hn _ next=>by dsimp only;exact bY (by omega) ⟨⟨by omega,by omega⟩,⟨by omega,by omega⟩,rfl,rfl,next trivial⟩) λI μ _=>by dsimp only;exact bV (by omega) rfl
theorem BG:OK pY.e:=by
 refine aV [] ⟨⟩ afK λa b=>show pY.goal (ad1 a b) (a,b,())fromλhin hp=>?_
 dsimp only[pY]at hp ⊢;obtain rfl:a=b:=hp;exact af (λh=>absurd h (by simp)) λ_=>eP a.length hin.1.1 (λ_=>True) trivial (λI μ n hn _ next=>by dsimp only;exact bY (by omega) ⟨⟨by omega,by omega⟩,⟨by omega,by omega⟩,af (λh=>absurd h (by simp)) λ_=>⟨rfl,next trivial⟩⟩) λI μ _=>by dsimp only;exact bV (by omega) rfl
theorem YM:OK zC.e:=by
 refine aV [pY.e] ⟨BG,⟨⟩⟩ H0 λa0 a1 b0 b1=>show zC.goal (JG a0 a1 b0 b1) ((a0,a1,()),(b0,b1,()),())fromλhin hp=>?_
 dsimp only[zC]at hp ⊢;have hp:(a0,a1,())=(b0,b1,()):=hp;cases hp;unfold JG;simp
theorem V9:OK xu.e:=by
 refine aV [zC.e] ⟨YM,⟨⟩⟩ YN λa b=>show xu.goal (Wh a b) (a,b,())fromλhin hp=>?_
 dsimp only[xu]at hp ⊢;obtain rfl:a=b:=hp;exact af (λh=>absurd h (by simp)) λ_=>eP a.length hin.1.1 (λ_=>True) trivial (λI μ n hn _ next=>by dsimp only;exact bY (by omega) ⟨⟨by omega,by omega⟩,⟨by omega,by omega⟩,rfl,rfl,next trivial⟩) λI μ _=>by dsimp only;exact bV (by omega) rfl
theorem Lp:OK vT.e:=by
 refine aV [Bl.e,zB.e] ⟨abu,YK,⟨⟩⟩ H0 λa0 a1 a2 b0 b1 b2=>show vT.goal (Lr a0 a1 a2 b0 b1 b2) ((a0,a1,a2,()),(b0,b1,b2,()),())fromλhin hp=>?_
 dsimp only[vT]at hp ⊢;have hp:(a0,a1,a2,())=(b0,b1,b2,()):=hp;cases hp;unfold Lr;simp
theorem Uf:OK vg.e:=by
 refine aV [yc.e,vT.e] ⟨Ob,Lp,⟨⟩⟩ H0 λa0 a1 a2 a3 b0 b1 b2 b3=>show vg.goal (Ht a0 a1 a2 a3 b0 b1 b2 b3) ((a0,a1,a2,a3,()),(b0,b1,b2,b3,()),())fromλhin hp=>?_
 dsimp only[vg]at hp ⊢;have hp:(a0,a1,a2,a3,())=(b0,b1,b2,b3,()):=hp;cases hp;unfold Ht;simp
theorem Wi:OK xA.e:=by
 refine aV [vg.e] ⟨Uf,⟨⟩⟩ H0 λa0 a1 a2 a3 a4 a5 b0 b1 b2 b3 b4 b5=>show xA.goal (Ii a0 a1 a2 a3 a4 a5 b0 b1 b2 b3 b4 b5) ((a0,a1,a2,a3,a4,a5,()),(b0,b1,b2,b3,b4,b5,()),())fromλhin hp=>?_
 dsimp only[xA]at hp ⊢;have hp:(a0,a1,a2,a3,a4,a5,())=(b0,b1,b2,b3,b4,b5,()):=hp;cases hp;unfold Ii;simp
theorem Ug:OK vw.e:=by
 refine aV [xA.e] ⟨Wi,⟨⟩⟩ Wj λa b=>show vw.goal (Uh a b) (a,b,())fromλhin hp=>?_
 dsimp only[vw]at hp ⊢;obtain rfl:a=b:=hp;exact af (λh=>absurd h (by simp)) λ_=>eP a.length hin.1.1 (λ_=>True) trivial (λI μ n hn _ next=>by dsimp only;exact bY (by omega) ⟨⟨by omega,by omega⟩,⟨by omega,by omega⟩,rfl,rfl,next trivial⟩) λI μ _=>by dsimp only;exact bV (by omega) rfl
theorem abw:OK Bo.e:=by
 refine aV [pY.e] ⟨BG,⟨⟩⟩ H0 λa0 a1 a2 b0 b1 b2=>show Bo.goal (Ls a0 a1 a2 b0 b1 b2) ((a0,a1,a2,()),(b0,b1,b2,()),())fromλhin hp=>?_
 dsimp only[Bo]at hp ⊢;have hp:(a0,a1,a2,())=(b0,b1,b2,()):=hp;cases hp;unfold Ls;simp
theorem YO:OK zD.e:=by
 refine aV [Bo.e] ⟨abw,⟨⟩⟩ abx λa b=>show zD.goal (YP a b) (a,b,())fromλhin hp=>?_
 dsimp only[zD]at hp ⊢;obtain rfl:a=b:=hp;exact af (λh=>absurd h (by simp)) λ_=>eP a.length hin.1.1 (λ_=>True) trivial (λI μ n hn _ next=>by dsimp only;exact bY (by omega) ⟨⟨by omega,by omega⟩,⟨by omega,by omega⟩,rfl,rfl,next trivial⟩) λI μ _=>by dsimp only;exact bV (by omega) rfl
theorem aby:OK Bq.e:=by
 refine aV [zD.e,pY.e] ⟨YO,BG,⟨⟩⟩ H0 λa0 a1 a2 a3 b0 b1 b2 b3=>show Bq.goal (Lu a0 a1 a2 a3 b0 b1 b2 b3) ((a0,a1,a2,a3,()),(b0,b1,b2,b3,()),())fromλhin hp=>?_
 dsimp only[Bq]at hp ⊢;have hp:(a0,a1,a2,a3,())=(b0,b1,b2,b3,()):=hp;cases hp;unfold Lu;simp
theorem YQ:OK zF.e:=by
 refine aV [Bq.e] ⟨aby,⟨⟩⟩ abz λa b=>show zF.goal (YR a b) (a,b,())fromλhin hp=>?_
 dsimp only[zF]at hp ⊢;obtain rfl:a=b:=hp;exact af (λh=>absurd h (by simp)) λ_=>eP a.length hin.1.1 (λ_=>True) trivial (λI μ n hn _ next=>by dsimp only;exact bY (by omega) ⟨⟨by omega,by omega⟩,⟨by omega,by omega⟩,rfl,rfl,next trivial⟩) λI μ _=>by dsimp only;exact bV (by omega) rfl
theorem ad2:OK Dx.e:=by
 refine aV [] ⟨⟩ H0 λa0 a1 b0 b1=>show Dx.goal (Oc a0 a1 b0 b1) ((a0,a1,()),(b0,b1,()),())fromλhin hp=>?_
 dsimp only[Dx]at hp ⊢;have hp:(a0,a1,())=(b0,b1,()):=hp;cases hp;unfold Oc;simp
theorem Wl:OK xw.e:=by
 refine aV [xu.e,yc.e,vT.e] ⟨V9,Ob,Lp,⟨⟩⟩ H0 λa0 a1 a2 a3 a4 b0 b1 b2 b3 b4=>show xw.goal (Ij a0 a1 a2 a3 a4 b0 b1 b2 b3 b4) ((a0,a1,a2,a3,a4,()),(b0,b1,b2,b3,b4,()),())fromλhin hp=>?_
 dsimp only[xw]at hp ⊢;have hp:(a0,a1,a2,a3,a4,())=(b0,b1,b2,b3,b4,()):=hp;cases hp;unfold Ij;simp
theorem YS:OK pG.e:=by
 refine aV [pY.e,zF.e,vw.e,Dx.e,xw.e] ⟨BG,YQ,Ug,ad2,Wl,⟨⟩⟩ H0 λa0 a1 a2 a3 a4 a5 a6 a7 a8 a9 a10 b0 b1 b2 b3 b4 b5 b6 b7 b8 b9 b10=>show pG.goal (JH a0 a1 a2 a3 a4 a5 a6 a7 a8 a9 a10 b0 b1 b2 b3 b4 b5 b6 b7 b8 b9 b10) ((a0,a1,a2,a3,a4,a5,a6,a7,a8,a9,a10,()),(b0,b1,b2,b3,b4,b5,b6,b7,b8,b9,b10,()),())fromλhin hp=>?_
 dsimp only[pG]at hp ⊢;have hp:(a0,a1,a2,a3,a4,a5,a6,a7,a8,a9,a10,())=(b0,b1,b2,b3,b4,b5,b6,b7,b8,b9,b10,()):=hp;cases hp;unfold JH;simp
end Go.Proofs.Tryz
namespace Go.Proofs.Tryz
open Go Go.Fw Go.RowKit Sp
set_option maxRecDepth 100000
def apW(n:Int):Prop:=-9223372036854775808<=n/\n<=9223372036854775807
theorem abA{k:Int}(h:0<=k/\k<=1000000000):apW k:=⟨by omega,by omega⟩
abbrev VW(w:World):V:=⟨w,w.heap.size,λ_=>True,λ_=>undef,λ_=>none⟩
theorem ad3{w:World}{c:CT}{v:Value}{x:c.den}(h:dW w.heap (λb=>b<w.heap.size) c v x):dW w.heap ((VW w).bP false) c v x:=
 dW.mono (λb hb=>⟨⟨⟨hb,λ_=>trivial,λo x hx=>by cases hx⟩,λe=>by cases e⟩,rfl⟩) _ _ _ h
theorem mZ{h:Array Obj}{S:Nat->Prop}{e:TypeId}{r:ak}{v:Value}{l:List r.den}(H:dW h S (.sl e r) v l):∃a c,v=.slice a l.length c:=by
 rcases H.2 with⟨rfl,a,c,e⟩|⟨b,off,cap,cs,t,fz,e,_⟩
 .exact⟨a,c,e⟩
 .exact⟨_,_,e⟩
theorem BH(k:Int)(hk:0<=k/\k<=1000000000){w:World}(hG:G.ok w):
 Calls prog 38 #[.int .i64 k] w λo w'=>o=.returned (.string ⟨(Sp.markT k).toArray⟩)/\Below w.heap.size w w':=by
 have hcon:iM prog G 38 (lZ mF.sh mF.dh mF.F):=JI.1;refine(hcon [.sv (.one (.int .i64 k))] (0<=k/\k<=1000000000) _ 0 (λ_=>True) #[.int .i64 k] w rfl hk hG ⟨⟨rfl,abA hk⟩,trivial⟩).mono ?_;rintro e w' ⟨v,vals,rfl,h1,h2,h3,h4,h5,h6,_,_⟩;have h6:v=.string ⟨(Sp.markT k).toArray⟩/\_:=h6;exact⟨by rw[h6.1],h1,h2,h3,h4,h5⟩
theorem ale(k:Int)(h:0<=k/\k<=1000000000):(Sp.markT k).length<=maxLen:=by have:=uf k (by omega);rw[maxLen_eq];show(Lib.itoa k).length+1<=_;omega
end Go.Proofs.Tryz
namespace Go.Proofs.Tryz
open Go Go.Fw Go.RowKit Sp
set_option maxRecDepth 100000
def mW:(Int×Unit)->Nat
 |(_,_)=>1
set_option maxHeartbeats 16000000 in
theorem yt(W:World)(hG:G.ok W)(P:Nat->Prop)(hP:∀b,P b->G.n<=b)(v:Value)(l:List (Int×Unit))(k:Int)(h:iI W.heap P (.sl bg dN) v l)(hk:0<=k/\k+cnt mW l<=100000000):
 Calls prog 37 #[v,.int .i64 k] W λe w'=>e=.returned (.int .i64 (k+cnt mW l))/\aF P W w':=by
 have mixed:=Tryz.mixed;have hlen:l.length<=100000000:=by have:=vY (f:=mW) (l:=l) λ⟨x0,⟨⟩⟩=>as3 (show 1<=1 by decide) (show 1<=1 by omega);omega
 have h0:=h;rcases h with⟨rfl,a,c,rfl⟩|⟨b,off,cap,cs,t,fz,rfl,h2,h3,h4,h5,h6⟩
 .clear h0
  go_enter Tryz.func37,Tryz.ntmps37
  go_wp2
  go_loopw [1,5] (λkk i wr=>kk=.int .i64 k/\i=.int .i64 0/\wr=W) (λ_ _ _=>0)
  case atStart=>exact⟨rfl,rfl,rfl⟩
  case round=>
   obtain⟨rfl,rfl,rfl⟩:=hrel
   go_wp2
   all_goals go_ret
   all_goals exact⟨by simp[cnt],aF.refl _ _⟩
 .clear h4 h5 h6
  go_enter Tryz.func37,Tryz.ntmps37
  go_wp2
  go_loopw [1,5] (λkk i wr=>∃(m c:Nat),m<=l.length/\c=cnt mW (l.take m)/\kk=.int .i64 (k+c)/\i=.int .i64 m/\aF P W wr)
   (λ_ i _=>l.length-(intOf i).toNat)
  case atStart=>exact⟨0,0,atl _,rfl,by simp,rfl,aF.refl _ _⟩
  case round=>
   obtain⟨m,c,hm,hc,rfl,rfl,hst⟩:=hrel;rcases atm m l.length with hlt|hge
   .have hlt':((m:Nat):Int)<l.length:=by omega
    obtain⟨⟨x0,⟨⟩⟩,hx⟩:∃x,l[m]? =some x:=⟨_,as5 hlt⟩;rcases h0.keep hst with⟨rfl,_⟩|⟨b',off',cap',cs',t',fz',e,_,_,k4,k5,k6⟩
    .cases hx
    cases e;obtain⟨s1,s2⟩:=uI mW hx;rw[← hc]at s1 s2;clear hc;obtain⟨c',hc'⟩:∃c',c'=cnt mW (l.take (m+1)):=⟨_,rfl⟩;rw[← hc']at s1;have s1:c'=c+(1):=s1;have s2:c+(1)<=cnt mW l:=s2;have wF:=hst.jf hG hP;obtain⟨u0,_,q,f0,rfl⟩:=k6 m _ hx;have c0:cs'[off+m]? =some u0:=(congrArg (cs'[·]?) (show off+m=off+m*1+0 by omega)).trans (dG q rfl);have d0:wr.cell? ⟨b,off+m,none⟩=some (u0):=(bJ k4 _).trans c0;have z0:=iQ k4 (k5 _ (as2.1 c0).1);have Ai:=aF.refl P wr;have ou:=Tok.mk 0;clear q k4 k5 k6 c0 hx h0;have nD:aF P wr (wr.setCell ⟨b,off+m,none⟩ (.int .i64 (k+c))):=Ai.trans (aF.set _ d0 f0 h3 trivial)
    go_wp2
    refine⟨⟨m+1,c',hlt,hc',congrArg _ (by omega),rfl,hst.trans nD⟩,?_⟩;simp only[intOf];omega
   .have hge':¬((m:Nat):Int)<l.length:=by omega
    obtain rfl:m=l.length:=by omega
    rw[atg]at hc;subst hc
    go_wp2
    all_goals go_ret
    all_goals exact⟨rfl,hst⟩
def fD:dI->Nat
 |(_,_,_)=>2
set_option maxHeartbeats 16000000 in
theorem LC(W:World)(hG:G.ok W)(P:Nat->Prop)(hP:∀b,P b->G.n<=b)(v:Value)(l:List dI)(k:Int)(h:iI W.heap P (.sl ax bM) v l)(hk:0<=k/\k+cnt fD l<=100000000):
 Calls prog 67 #[v,.int .i64 k] W λe w'=>e=.returned (.int .i64 (k+cnt fD l))/\aF P W w':=by
 have mixed:=Tryz.mixed;have hlen:l.length<=100000000:=by have:=vY (f:=fD) (l:=l) λ⟨x0,x1,⟨⟩⟩=>as3 (show 1<=2 by decide) (show 2<=2 by omega);omega
 have h0:=h;rcases h with⟨rfl,a,c,rfl⟩|⟨b,off,cap,cs,t,fz,rfl,h2,h3,h4,h5,h6⟩
 .clear h0
  go_enter Tryz.func67,Tryz.ntmps67
  go_wp2
  go_loopw [1,5] (λkk i wr=>kk=.int .i64 k/\i=.int .i64 0/\wr=W) (λ_ _ _=>0)
  case atStart=>exact⟨rfl,rfl,rfl⟩
  case round=>
   obtain⟨rfl,rfl,rfl⟩:=hrel
   go_wp2
   all_goals go_ret
   all_goals exact⟨by simp[cnt],aF.refl _ _⟩
 .clear h4 h5 h6
  go_enter Tryz.func67,Tryz.ntmps67
  go_wp2
  go_loopw [1,5] (λkk i wr=>∃(m c:Nat),m<=l.length/\c=cnt fD (l.take m)/\kk=.int .i64 (k+c)/\i=.int .i64 m/\aF P W wr)
   (λ_ i _=>l.length-(intOf i).toNat)
  case atStart=>exact⟨0,0,atl _,rfl,by simp,rfl,aF.refl _ _⟩
  case round=>
   obtain⟨m,c,hm,hc,rfl,rfl,hst⟩:=hrel;rcases atm m l.length with hlt|hge
   .have hlt':((m:Nat):Int)<l.length:=by omega
    obtain⟨⟨x0,x1,⟨⟩⟩,hx⟩:∃x,l[m]? =some x:=⟨_,as5 hlt⟩;rcases h0.keep hst with⟨rfl,_⟩|⟨b',off',cap',cs',t',fz',e,_,_,k4,k5,k6⟩
    .cases hx
    cases e;obtain⟨s1,s2⟩:=uI fD hx;rw[← hc]at s1 s2;clear hc;obtain⟨c',hc'⟩:∃c',c'=cnt fD (l.take (m+1)):=⟨_,rfl⟩;rw[← hc']at s1;have s1:c'=c+(2):=s1;have s2:c+(2)<=cnt fD l:=s2;have wF:=hst.jf hG hP;obtain⟨u0,_,q,f0,u1,_,rfl,f1,rfl⟩:=k6 m _ hx;have c0:cs'[off+m*2]? =some (u0):=dG q (k:=0) rfl;have d0:wr.cell? ⟨b,off+m*2,none⟩=some (u0):=(bJ k4 _).trans c0;have z0:=iQ k4 (k5 _ (as2.1 c0).1);have c1:cs'[off+m*2+1]? =some (u1):=dG q (k:=1) rfl;have d1:wr.cell? ⟨b,off+m*2+1,none⟩=some (u1):=(bJ k4 _).trans c1;have z1:=iQ k4 (k5 _ (as2.1 c1).1);have Ai:=aF.refl P wr;have ou:=Tok.mk 0;clear q k4 k5 k6 c0 c1 hx h0
    go_wp2_with (first
     |(go_at_call 38;have _:=ou;refine atr (BH (k+c) (by omega) (Ai.jf wF hP)) ?_;rintro e w1 ⟨rfl,hb1⟩;have nD:=Ai.trans (aF.of (P:=P) hb1);clear ou;have tk1:=Tok.mk 1;obtain⟨y0,D0,g0⟩:=nD.jr d0 f0;have Z0:=nD.fz d0 z0;have mX:aF P wr (w1.setCell ⟨b,off+m*2,none⟩ (.string ⟨(Sp.markT (k+c)).toArray⟩)):=nD.trans (aF.set _ D0 g0 h3 trivial);obtain⟨y1,D1,g1⟩:=mX.jr d1 f1;have Z1:=mX.fz d1 z1;have wG:aF P wr ((w1.setCell ⟨b,off+m*2,none⟩ (.string ⟨(Sp.markT (k+c)).toArray⟩)).setCell ⟨b,off+m*2+1,none⟩ (.int .i64 (k+c+1))):=mX.trans (aF.set _ D1 g1 h3 trivial)))
    refine⟨⟨m+1,c',hlt,hc',congrArg _ (by omega),rfl,hst.trans wG⟩,?_⟩;simp only[intOf];omega
   .have hge':¬((m:Nat):Int)<l.length:=by omega
    obtain rfl:m=l.length:=by omega
    rw[atg]at hc;subst hc
    go_wp2
    all_goals go_ret
    all_goals exact⟨rfl,hst⟩
def Fh:dK->Nat
 |(_,_,_,_,_)=>4
set_option maxHeartbeats 16000000 in
theorem ad4(W:World)(hG:G.ok W)(P:Nat->Prop)(hP:∀b,P b->G.n<=b)(v:Value)(l:List dK)(k:Int)(h:iI W.heap P (.sl bF gI) v l)(hk:0<=k/\k+cnt Fh l<=100000000):
 Calls prog 104 #[v,.int .i64 k] W λe w'=>e=.returned (.int .i64 (k+cnt Fh l))/\aF P W w':=by
 have mixed:=Tryz.mixed;have hlen:l.length<=100000000:=by have:=vY (f:=Fh) (l:=l) λ⟨x0,x1,x2,x3,⟨⟩⟩=>as3 (show 1<=4 by decide) (show 4<=4 by omega);omega
 have h0:=h;rcases h with⟨rfl,a,c,rfl⟩|⟨b,off,cap,cs,t,fz,rfl,h2,h3,h4,h5,h6⟩
 .clear h0
  go_enter Tryz.func104,Tryz.ntmps104
  go_wp2
  go_loopw [1,5] (λkk i wr=>kk=.int .i64 k/\i=.int .i64 0/\wr=W) (λ_ _ _=>0)
  case atStart=>exact⟨rfl,rfl,rfl⟩
  case round=>
   obtain⟨rfl,rfl,rfl⟩:=hrel
   go_wp2
   all_goals go_ret
   all_goals exact⟨by simp[cnt],aF.refl _ _⟩
 .clear h4 h5 h6
  go_enter Tryz.func104,Tryz.ntmps104
  go_wp2
  go_loopw [1,5] (λkk i wr=>∃(m c:Nat),m<=l.length/\c=cnt Fh (l.take m)/\kk=.int .i64 (k+c)/\i=.int .i64 m/\aF P W wr)
   (λ_ i _=>l.length-(intOf i).toNat)
  case atStart=>exact⟨0,0,atl _,rfl,by simp,rfl,aF.refl _ _⟩
  case round=>
   obtain⟨m,c,hm,hc,rfl,rfl,hst⟩:=hrel;rcases atm m l.length with hlt|hge
   .have hlt':((m:Nat):Int)<l.length:=by omega
    obtain⟨⟨x0,x1,x2,x3,⟨⟩⟩,hx⟩:∃x,l[m]? =some x:=⟨_,as5 hlt⟩;rcases h0.keep hst with⟨rfl,_⟩|⟨b',off',cap',cs',t',fz',e,_,_,k4,k5,k6⟩
    .cases hx
    cases e;obtain⟨s1,s2⟩:=uI Fh hx;rw[← hc]at s1 s2;clear hc;obtain⟨c',hc'⟩:∃c',c'=cnt Fh (l.take (m+1)):=⟨_,rfl⟩;rw[← hc']at s1;have s1:c'=c+(4):=s1;have s2:c+(4)<=cnt Fh l:=s2;have wF:=hst.jf hG hP;obtain⟨u0,_,q,f0,u1,_,rfl,f1,u2,_,rfl,f2,u3,_,rfl,f3,rfl⟩:=k6 m _ hx;have c0:cs'[off+m*4]? =some (u0):=dG q (k:=0) rfl;have d0:wr.cell? ⟨b,off+m*4,none⟩=some (u0):=(bJ k4 _).trans c0;have z0:=iQ k4 (k5 _ (as2.1 c0).1);have c1:cs'[off+m*4+1]? =some (u1):=dG q (k:=1) rfl;have d1:wr.cell? ⟨b,off+m*4+1,none⟩=some (u1):=(bJ k4 _).trans c1;have z1:=iQ k4 (k5 _ (as2.1 c1).1);have c2:cs'[off+m*4+2]? =some (u2):=dG q (k:=2) rfl;have d2:wr.cell? ⟨b,off+m*4+2,none⟩=some (u2):=(bJ k4 _).trans c2;have z2:=iQ k4 (k5 _ (as2.1 c2).1);have c3:cs'[off+m*4+3]? =some (u3):=dG q (k:=3) rfl;have d3:wr.cell? ⟨b,off+m*4+3,none⟩=some (u3):=(bJ k4 _).trans c3;have z3:=iQ k4 (k5 _ (as2.1 c3).1);have Ai:=aF.refl P wr;have ou:=Tok.mk 0;clear q k4 k5 k6 c0 c1 c2 c3 hx h0
    go_wp2_with (first
     |(go_at_call 38;have _:=ou;refine atr (BH (k+c) (by omega) (Ai.jf wF hP)) ?_;rintro e w1 ⟨rfl,hb1⟩;have nD:=Ai.trans (aF.of (P:=P) hb1);clear ou;have tk1:=Tok.mk 1;obtain⟨y0,D0,g0⟩:=nD.jr d0 f0;have Z0:=nD.fz d0 z0;have mX:aF P wr (w1.setCell ⟨b,off+m*4,none⟩ (.string ⟨(Sp.markT (k+c)).toArray⟩)):=nD.trans (aF.set _ D0 g0 h3 trivial);obtain⟨y1,D1,g1⟩:=mX.jr d1 f1;have Z1:=mX.fz d1 z1;have wG:aF P wr ((w1.setCell ⟨b,off+m*4,none⟩ (.string ⟨(Sp.markT (k+c)).toArray⟩)).setCell ⟨b,off+m*4+1,none⟩ (.int .i64 (k+c+1))):=mX.trans (aF.set _ D1 g1 h3 trivial);obtain⟨y2,D2,g2⟩:=wG.jr d2 f2;have Z2:=wG.fz d2 z2;have CX:aF P wr (((w1.setCell ⟨b,off+m*4,none⟩ (.string ⟨(Sp.markT (k+c)).toArray⟩)).setCell ⟨b,off+m*4+1,none⟩ (.int .i64 (k+c+1))).setCell ⟨b,off+m*4+2,none⟩ (.int .i64 (k+c+1+1))):=wG.trans (aF.set _ D2 g2 h3 trivial))
     |(go_at_call 38;have _:=tk1;refine atr (BH (k+c+1+1+1) (by omega) (CX.jf wF hP)) ?_;rintro e w2 ⟨rfl,hb2⟩;have JJ:=CX.trans (aF.of (P:=P) hb2);clear tk1;have tk2:=Tok.mk 2;obtain⟨y3,D3,g3⟩:=JJ.jr d3 f3;have Z3:=JJ.fz d3 z3;have sx6:aF P wr (w2.setCell ⟨b,off+m*4+3,none⟩ (.string ⟨(Sp.markT (k+c+1+1+1)).toArray⟩)):=JJ.trans (aF.set _ D3 g3 h3 trivial)))
    refine⟨⟨m+1,c',hlt,hc',congrArg _ (by omega),rfl,hst.trans sx6⟩,?_⟩;simp only[intOf];omega
   .have hge':¬((m:Nat):Int)<l.length:=by omega
    obtain rfl:m=l.length:=by omega
    rw[atg]at hc;subst hc
    go_wp2
    all_goals go_ret
    all_goals exact⟨rfl,hst⟩
def fJ:aA->Nat
 |(_,_,_,_,x4,_)=>4+cnt Fh x4
set_option maxHeartbeats 16000000 in
theorem Oe(W:World)(hG:G.ok W)(P:Nat->Prop)(hP:∀b,P b->G.n<=b)(v:Value)(l:List aA)(k:Int)(h:iI W.heap P (.sl aC aX) v l)(hk:0<=k/\k+cnt fJ l<=100000000):
 Calls prog 68 #[v,.int .i64 k] W λe w'=>e=.returned (.int .i64 (k+cnt fJ l))/\aF P W w':=by
 have mixed:=Tryz.mixed;have hlen:l.length<=100000000:=by have:=vY (f:=fJ) (l:=l) λ⟨x0,x1,x2,x3,x4,⟨⟩⟩=>as3 (show 1<=4 by decide) (show 4<=4+cnt Fh x4 by omega);omega
 have h0:=h;rcases h with⟨rfl,a,c,rfl⟩|⟨b,off,cap,cs,t,fz,rfl,h2,h3,h4,h5,h6⟩
 .clear h0
  go_enter Tryz.func68,Tryz.ntmps68
  go_wp2
  go_loopw [1,5] (λkk i wr=>kk=.int .i64 k/\i=.int .i64 0/\wr=W) (λ_ _ _=>0)
  case atStart=>exact⟨rfl,rfl,rfl⟩
  case round=>
   obtain⟨rfl,rfl,rfl⟩:=hrel
   go_wp2
   all_goals go_ret
   all_goals exact⟨by simp[cnt],aF.refl _ _⟩
 .clear h4 h5 h6
  go_enter Tryz.func68,Tryz.ntmps68
  go_wp2
  go_loopw [1,5] (λkk i wr=>∃(m c:Nat),m<=l.length/\c=cnt fJ (l.take m)/\kk=.int .i64 (k+c)/\i=.int .i64 m/\aF P W wr)
   (λ_ i _=>l.length-(intOf i).toNat)
  case atStart=>exact⟨0,0,atl _,rfl,by simp,rfl,aF.refl _ _⟩
  case round=>
   obtain⟨m,c,hm,hc,rfl,rfl,hst⟩:=hrel;rcases atm m l.length with hlt|hge
   .have hlt':((m:Nat):Int)<l.length:=by omega
    obtain⟨⟨x0,x1,x2,x3,x4,⟨⟩⟩,hx⟩:∃x,l[m]? =some x:=⟨_,as5 hlt⟩;rcases h0.keep hst with⟨rfl,_⟩|⟨b',off',cap',cs',t',fz',e,_,_,k4,k5,k6⟩
    .cases hx
    cases e;obtain⟨s1,s2⟩:=uI fJ hx;rw[← hc]at s1 s2;clear hc;obtain⟨c',hc'⟩:∃c',c'=cnt fJ (l.take (m+1)):=⟨_,rfl⟩;rw[← hc']at s1;have s1:c'=c+(4+cnt Fh x4):=s1;have s2:c+(4+cnt Fh x4)<=cnt fJ l:=s2;have wF:=hst.jf hG hP;obtain⟨n4,hn4⟩:∃n,n=cnt Fh x4:=⟨_,rfl⟩;rw[← hn4]at s1 s2;obtain⟨u0,_,q,f0,u1,_,rfl,f1,u2,_,rfl,f2,u3,_,rfl,f3,u4,_,rfl,f4,rfl⟩:=k6 m _ hx;obtain⟨a4,p4,rfl⟩:=f4.form;have c0:cs'[off+m*5]? =some (u0):=dG q (k:=0) rfl;have d0:wr.cell? ⟨b,off+m*5,none⟩=some (u0):=(bJ k4 _).trans c0;have z0:=iQ k4 (k5 _ (as2.1 c0).1);have c1:cs'[off+m*5+1]? =some (u1):=dG q (k:=1) rfl;have d1:wr.cell? ⟨b,off+m*5+1,none⟩=some (u1):=(bJ k4 _).trans c1;have z1:=iQ k4 (k5 _ (as2.1 c1).1);have c2:cs'[off+m*5+2]? =some (u2):=dG q (k:=2) rfl;have d2:wr.cell? ⟨b,off+m*5+2,none⟩=some (u2):=(bJ k4 _).trans c2;have z2:=iQ k4 (k5 _ (as2.1 c2).1);have c3:cs'[off+m*5+3]? =some (u3):=dG q (k:=3) rfl;have d3:wr.cell? ⟨b,off+m*5+3,none⟩=some (u3):=(bJ k4 _).trans c3;have z3:=iQ k4 (k5 _ (as2.1 c3).1);have c4:cs'[off+m*5+4]? =some (.slice a4 x4.length p4):=dG q (k:=4) rfl;have d4:wr.cell? ⟨b,off+m*5+4,none⟩=some (.slice a4 x4.length p4):=(bJ k4 _).trans c4;have C4:∀(w:World)(E:Int),G.ok w->iI w.heap P (.sl bF gI) (.slice a4 x4.length p4) x4->0<=E/\E+n4<=100000000->Calls prog 104 #[.slice a4 x4.length p4,.int .i64 E] w λe w'=>e=.returned (.int .i64 (E+n4))/\aF P w w':=by intro w E g s h;rw[hn4]at h ⊢;exact ad4 w g P hP _ _ E s h
    clear hn4;have Ai:=aF.refl P wr;have ou:=Tok.mk 0;clear q k4 k5 k6 c0 c1 c2 c3 c4 hx h0;have nD:aF P wr (wr.setCell ⟨b,off+m*5,none⟩ (.int .i64 (k+c))):=Ai.trans (aF.set _ d0 f0 h3 trivial);obtain⟨y1,D1,g1⟩:=nD.jr d1 f1;have Z1:=nD.fz d1 z1;have mX:aF P wr ((wr.setCell ⟨b,off+m*5,none⟩ (.int .i64 (k+c))).setCell ⟨b,off+m*5+1,none⟩ (.int .i64 (k+c+1))):=nD.trans (aF.set _ D1 g1 h3 trivial);obtain⟨y2,D2,g2⟩:=mX.jr d2 f2;have Z2:=mX.fz d2 z2;have wG:aF P wr (((wr.setCell ⟨b,off+m*5,none⟩ (.int .i64 (k+c))).setCell ⟨b,off+m*5+1,none⟩ (.int .i64 (k+c+1))).setCell ⟨b,off+m*5+2,none⟩ (.bool ((k+c+1+1)%3==0))):=mX.trans (aF.set _ D2 g2 h3 trivial);obtain⟨y3,D3,g3⟩:=wG.jr d3 f3;have Z3:=wG.fz d3 z3;have CX:aF P wr ((((wr.setCell ⟨b,off+m*5,none⟩ (.int .i64 (k+c))).setCell ⟨b,off+m*5+1,none⟩ (.int .i64 (k+c+1))).setCell ⟨b,off+m*5+2,none⟩ (.bool ((k+c+1+1)%3==0))).setCell ⟨b,off+m*5+3,none⟩ (.int .i64 (k+c+1+1+1))):=wG.trans (aF.set _ D3 g3 h3 trivial);have D4:=CX.slice d4
    go_wp2_with (first
     |(go_at_call 104;have _:=ou;refine atr (C4 ((((wr.setCell ⟨b,off+m*5,none⟩ (.int .i64 (k+c))).setCell ⟨b,off+m*5+1,none⟩ (.int .i64 (k+c+1))).setCell ⟨b,off+m*5+2,none⟩ (.bool ((k+c+1+1)%3==0))).setCell ⟨b,off+m*5+3,none⟩ (.int .i64 (k+c+1+1+1))) (k+c+1+1+1+1) (CX.jf wF hP) (f4.keep CX) (by omega)) ?_;rintro e w1 ⟨rfl,s1'⟩;have JJ:=CX.trans s1';clear ou;have tk1:=Tok.mk 1))
    refine⟨⟨m+1,c',hlt,hc',congrArg _ (by omega),rfl,hst.trans JJ⟩,?_⟩;simp only[intOf];omega
   .have hge':¬((m:Nat):Int)<l.length:=by omega
    obtain rfl:m=l.length:=by omega
    rw[atg]at hc;subst hc
    go_wp2
    all_goals go_ret
    all_goals exact⟨rfl,hst⟩
def zI:aS->Nat
 |(_,_,_,_,_,_,_,_)=>7
set_option maxHeartbeats 16000000 in
theorem ad5(W:World)(hG:G.ok W)(P:Nat->Prop)(hP:∀b,P b->G.n<=b)(v:Value)(l:List aS)(k:Int)(h:iI W.heap P (.sl bI iF) v l)(hk:0<=k/\k+cnt zI l<=100000000):
 Calls prog 103 #[v,.int .i64 k] W λe w'=>e=.returned (.int .i64 (k+cnt zI l))/\aF P W w':=by
 have mixed:=Tryz.mixed;have hlen:l.length<=100000000:=by have:=vY (f:=zI) (l:=l) λ⟨x0,x1,x2,x3,x4,x5,x6,⟨⟩⟩=>as3 (show 1<=7 by decide) (show 7<=7 by omega);omega
 have h0:=h;rcases h with⟨rfl,a,c,rfl⟩|⟨b,off,cap,cs,t,fz,rfl,h2,h3,h4,h5,h6⟩
 .clear h0
  go_enter Tryz.func103,Tryz.ntmps103
  go_wp2
  go_loopw [1,5] (λkk i wr=>kk=.int .i64 k/\i=.int .i64 0/\wr=W) (λ_ _ _=>0)
  case atStart=>exact⟨rfl,rfl,rfl⟩
  case round=>
   obtain⟨rfl,rfl,rfl⟩:=hrel
   go_wp2
   all_goals go_ret
   all_goals exact⟨by simp[cnt],aF.refl _ _⟩
 .clear h4 h5 h6
  go_enter Tryz.func103,Tryz.ntmps103
  go_wp2
  go_loopw [1,5] (λkk i wr=>∃(m c:Nat),m<=l.length/\c=cnt zI (l.take m)/\kk=.int .i64 (k+c)/\i=.int .i64 m/\aF P W wr)
   (λ_ i _=>l.length-(intOf i).toNat)
  case atStart=>exact⟨0,0,atl _,rfl,by simp,rfl,aF.refl _ _⟩
  case round=>
   obtain⟨m,c,hm,hc,rfl,rfl,hst⟩:=hrel;rcases atm m l.length with hlt|hge
   .have hlt':((m:Nat):Int)<l.length:=by omega
    obtain⟨⟨x0,x1,x2,x3,x4,x5,x6,⟨⟩⟩,hx⟩:∃x,l[m]? =some x:=⟨_,as5 hlt⟩;rcases h0.keep hst with⟨rfl,_⟩|⟨b',off',cap',cs',t',fz',e,_,_,k4,k5,k6⟩
    .cases hx
    cases e;obtain⟨s1,s2⟩:=uI zI hx;rw[← hc]at s1 s2;clear hc;obtain⟨c',hc'⟩:∃c',c'=cnt zI (l.take (m+1)):=⟨_,rfl⟩;rw[← hc']at s1;have s1:c'=c+(7):=s1;have s2:c+(7)<=cnt zI l:=s2;have wF:=hst.jf hG hP;obtain⟨u0,_,q,f0,u1,_,rfl,f1,u2,_,rfl,f2,u3,_,rfl,f3,u4,_,rfl,f4,u5,_,rfl,f5,u6,_,rfl,f6,rfl⟩:=k6 m _ hx;have c0:cs'[off+m*7]? =some (u0):=dG q (k:=0) rfl;have d0:wr.cell? ⟨b,off+m*7,none⟩=some (u0):=(bJ k4 _).trans c0;have z0:=iQ k4 (k5 _ (as2.1 c0).1);have c1:cs'[off+m*7+1]? =some (u1):=dG q (k:=1) rfl;have d1:wr.cell? ⟨b,off+m*7+1,none⟩=some (u1):=(bJ k4 _).trans c1;have z1:=iQ k4 (k5 _ (as2.1 c1).1);have c2:cs'[off+m*7+2]? =some (u2):=dG q (k:=2) rfl;have d2:wr.cell? ⟨b,off+m*7+2,none⟩=some (u2):=(bJ k4 _).trans c2;have z2:=iQ k4 (k5 _ (as2.1 c2).1);have c3:cs'[off+m*7+3]? =some (u3):=dG q (k:=3) rfl;have d3:wr.cell? ⟨b,off+m*7+3,none⟩=some (u3):=(bJ k4 _).trans c3;have z3:=iQ k4 (k5 _ (as2.1 c3).1);have c4:cs'[off+m*7+4]? =some (u4):=dG q (k:=4) rfl;have d4:wr.cell? ⟨b,off+m*7+4,none⟩=some (u4):=(bJ k4 _).trans c4;have z4:=iQ k4 (k5 _ (as2.1 c4).1);have c5:cs'[off+m*7+5]? =some (u5):=dG q (k:=5) rfl;have d5:wr.cell? ⟨b,off+m*7+5,none⟩=some (u5):=(bJ k4 _).trans c5;have z5:=iQ k4 (k5 _ (as2.1 c5).1);have c6:cs'[off+m*7+6]? =some (u6):=dG q (k:=6) rfl;have d6:wr.cell? ⟨b,off+m*7+6,none⟩=some (u6):=(bJ k4 _).trans c6;have z6:=iQ k4 (k5 _ (as2.1 c6).1);have Ai:=aF.refl P wr;have ou:=Tok.mk 0;clear q k4 k5 k6 c0 c1 c2 c3 c4 c5 c6 hx h0;have nD:aF P wr (wr.setCell ⟨b,off+m*7,none⟩ (.int .i64 (k+c))):=Ai.trans (aF.set _ d0 f0 h3 trivial);obtain⟨y1,D1,g1⟩:=nD.jr d1 f1;have Z1:=nD.fz d1 z1;have mX:aF P wr ((wr.setCell ⟨b,off+m*7,none⟩ (.int .i64 (k+c))).setCell ⟨b,off+m*7+1,none⟩ (.int .i64 (k+c+1))):=nD.trans (aF.set _ D1 g1 h3 trivial);obtain⟨y2,D2,g2⟩:=mX.jr d2 f2;have Z2:=mX.fz d2 z2;have wG:aF P wr (((wr.setCell ⟨b,off+m*7,none⟩ (.int .i64 (k+c))).setCell ⟨b,off+m*7+1,none⟩ (.int .i64 (k+c+1))).setCell ⟨b,off+m*7+2,none⟩ (.int .i64 (k+c+1+1))):=mX.trans (aF.set _ D2 g2 h3 trivial)
    go_wp2_with (first
     |(go_at_call 38;have _:=ou;refine atr (BH (k+c+1+1+1) (by omega) (wG.jf wF hP)) ?_;rintro e w1 ⟨rfl,hb1⟩;have CX:=wG.trans (aF.of (P:=P) hb1);clear ou;have tk1:=Tok.mk 1;obtain⟨y3,D3,g3⟩:=CX.jr d3 f3;have Z3:=CX.fz d3 z3;have JJ:aF P wr (w1.setCell ⟨b,off+m*7+3,none⟩ (.string ⟨(Sp.markT (k+c+1+1+1)).toArray⟩)):=CX.trans (aF.set _ D3 g3 h3 trivial);obtain⟨y4,D4,g4⟩:=JJ.jr d4 f4;have Z4:=JJ.fz d4 z4;have sx6:aF P wr ((w1.setCell ⟨b,off+m*7+3,none⟩ (.string ⟨(Sp.markT (k+c+1+1+1)).toArray⟩)).setCell ⟨b,off+m*7+4,none⟩ (.int .i64 (k+c+1+1+1+1))):=JJ.trans (aF.set _ D4 g4 h3 trivial);obtain⟨y5,D5,g5⟩:=sx6.jr d5 f5;have Z5:=sx6.fz d5 z5;have sx7:aF P wr (((w1.setCell ⟨b,off+m*7+3,none⟩ (.string ⟨(Sp.markT (k+c+1+1+1)).toArray⟩)).setCell ⟨b,off+m*7+4,none⟩ (.int .i64 (k+c+1+1+1+1))).setCell ⟨b,off+m*7+5,none⟩ (.int .i64 (k+c+1+1+1+1+1))):=sx6.trans (aF.set _ D5 g5 h3 trivial))
     |(go_at_call 38;have _:=tk1;refine atr (BH (k+c+1+1+1+1+1+1) (by omega) (sx7.jf wF hP)) ?_;rintro e w2 ⟨rfl,hb2⟩;have sx8:=sx7.trans (aF.of (P:=P) hb2);clear tk1;have tk2:=Tok.mk 2;obtain⟨y6,D6,g6⟩:=sx8.jr d6 f6;have Z6:=sx8.fz d6 z6;have sx9:aF P wr (w2.setCell ⟨b,off+m*7+6,none⟩ (.string ⟨(Sp.markT (k+c+1+1+1+1+1+1)).toArray⟩)):=sx8.trans (aF.set _ D6 g6 h3 trivial)))
    refine⟨⟨m+1,c',hlt,hc',congrArg _ (by omega),rfl,hst.trans sx9⟩,?_⟩;simp only[intOf];omega
   .have hge':¬((m:Nat):Int)<l.length:=by omega
    obtain rfl:m=l.length:=by omega
    rw[atg]at hc;subst hc
    go_wp2
    all_goals go_ret
    all_goals exact⟨rfl,hst⟩
def iC:ay->Nat
 |(_,x1,_)=>1+cnt zI x1
set_option maxHeartbeats 16000000 in
theorem Qy(W:World)(hG:G.ok W)(P:Nat->Prop)(hP:∀b,P b->G.n<=b)(v:Value)(l:List ay)(k:Int)(h:iI W.heap P (.sl aN bC) v l)(hk:0<=k/\k+cnt iC l<=100000000):
 Calls prog 65 #[v,.int .i64 k] W λe w'=>e=.returned (.int .i64 (k+cnt iC l))/\aF P W w':=by
 have mixed:=Tryz.mixed;have hlen:l.length<=100000000:=by have:=vY (f:=iC) (l:=l) λ⟨x0,x1,⟨⟩⟩=>as3 (show 1<=1 by decide) (show 1<=1+cnt zI x1 by omega);omega
 have h0:=h;rcases h with⟨rfl,a,c,rfl⟩|⟨b,off,cap,cs,t,fz,rfl,h2,h3,h4,h5,h6⟩
 .clear h0
  go_enter Tryz.func65,Tryz.ntmps65
  go_wp2
  go_loopw [1,5] (λkk i wr=>kk=.int .i64 k/\i=.int .i64 0/\wr=W) (λ_ _ _=>0)
  case atStart=>exact⟨rfl,rfl,rfl⟩
  case round=>
   obtain⟨rfl,rfl,rfl⟩:=hrel
   go_wp2
   all_goals go_ret
   all_goals exact⟨by simp[cnt],aF.refl _ _⟩
 .clear h4 h5 h6
  go_enter Tryz.func65,Tryz.ntmps65
  go_wp2
  go_loopw [1,5] (λkk i wr=>∃(m c:Nat),m<=l.length/\c=cnt iC (l.take m)/\kk=.int .i64 (k+c)/\i=.int .i64 m/\aF P W wr)
   (λ_ i _=>l.length-(intOf i).toNat)
  case atStart=>exact⟨0,0,atl _,rfl,by simp,rfl,aF.refl _ _⟩
  case round=>
   obtain⟨m,c,hm,hc,rfl,rfl,hst⟩:=hrel;rcases atm m l.length with hlt|hge
   .have hlt':((m:Nat):Int)<l.length:=by omega
    obtain⟨⟨x0,x1,⟨⟩⟩,hx⟩:∃x,l[m]? =some x:=⟨_,as5 hlt⟩;rcases h0.keep hst with⟨rfl,_⟩|⟨b',off',cap',cs',t',fz',e,_,_,k4,k5,k6⟩
    .cases hx
    cases e;obtain⟨s1,s2⟩:=uI iC hx;rw[← hc]at s1 s2;clear hc;obtain⟨c',hc'⟩:∃c',c'=cnt iC (l.take (m+1)):=⟨_,rfl⟩;rw[← hc']at s1;have s1:c'=c+(1+cnt zI x1):=s1;have s2:c+(1+cnt zI x1)<=cnt iC l:=s2;have wF:=hst.jf hG hP;obtain⟨n1,hn1⟩:∃n,n=cnt zI x1:=⟨_,rfl⟩;rw[← hn1]at s1 s2;obtain⟨u0,_,q,f0,u1,_,rfl,f1,rfl⟩:=k6 m _ hx;obtain⟨a1,p1,rfl⟩:=f1.form;have c0:cs'[off+m*2]? =some (u0):=dG q (k:=0) rfl;have d0:wr.cell? ⟨b,off+m*2,none⟩=some (u0):=(bJ k4 _).trans c0;have z0:=iQ k4 (k5 _ (as2.1 c0).1);have c1:cs'[off+m*2+1]? =some (.slice a1 x1.length p1):=dG q (k:=1) rfl;have d1:wr.cell? ⟨b,off+m*2+1,none⟩=some (.slice a1 x1.length p1):=(bJ k4 _).trans c1;have C1:∀(w:World)(E:Int),G.ok w->iI w.heap P (.sl bI iF) (.slice a1 x1.length p1) x1->0<=E/\E+n1<=100000000->Calls prog 103 #[.slice a1 x1.length p1,.int .i64 E] w λe w'=>e=.returned (.int .i64 (E+n1))/\aF P w w':=by intro w E g s h;rw[hn1]at h ⊢;exact ad5 w g P hP _ _ E s h
    clear hn1;have Ai:=aF.refl P wr;have ou:=Tok.mk 0;clear q k4 k5 k6 c0 c1 hx h0
    go_wp2_with (first
     |(go_at_call 38;have _:=ou;refine atr (BH (k+c) (by omega) (Ai.jf wF hP)) ?_;rintro e w1 ⟨rfl,hb1⟩;have nD:=Ai.trans (aF.of (P:=P) hb1);clear ou;have tk1:=Tok.mk 1;obtain⟨y0,D0,g0⟩:=nD.jr d0 f0;have Z0:=nD.fz d0 z0;have mX:aF P wr (w1.setCell ⟨b,off+m*2,none⟩ (.string ⟨(Sp.markT (k+c)).toArray⟩)):=nD.trans (aF.set _ D0 g0 h3 trivial);have D1:=mX.slice d1)
     |(go_at_call 103;have _:=tk1;refine atr (C1 (w1.setCell ⟨b,off+m*2,none⟩ (.string ⟨(Sp.markT (k+c)).toArray⟩)) (k+c+1) (mX.jf wF hP) (f1.keep mX) (by omega)) ?_;rintro e w2 ⟨rfl,s2'⟩;have wG:=mX.trans s2';clear tk1;have tk2:=Tok.mk 2))
    refine⟨⟨m+1,c',hlt,hc',congrArg _ (by omega),rfl,hst.trans wG⟩,?_⟩;simp only[intOf];omega
   .have hge':¬((m:Nat):Int)<l.length:=by omega
    obtain rfl:m=l.length:=by omega
    rw[atg]at hc;subst hc
    go_wp2
    all_goals go_ret
    all_goals exact⟨rfl,hst⟩
end Go.Proofs.Tryz
