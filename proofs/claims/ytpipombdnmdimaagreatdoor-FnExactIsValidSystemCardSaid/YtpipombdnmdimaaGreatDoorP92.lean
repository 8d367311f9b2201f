import Derived.Test.YtpipombdnmdimaaGreatDoorP62
import Derived.Deep.AppendLies
import Derived.Deep.RegionLaw
import Derived.BigRegion
import Derived.Laws.ResultCell
namespace Go.Proofs.Tryz
open Go Go.Fw Go.IntWalk Sp
set_option maxRecDepth 100000
variable {n:Nat}
theorem atM(s:List UInt8)(h:n<s.length):Sp.sumOf (s.take (n+1))=(33*Sp.sumOf (s.take n)+((s.getD n 0).toNat:Int)).tmod 65521:=by unfold Sp.sumOf;rw[aIi h,aJ1,aHI,aHK h];rfl
theorem aj1:OK GK.e:=by
 refine aO [] ⟨⟩ ane λs=>show GK.goal (aj2 s) (s,())fromλN C=>?_
 dsimp only[GK]at C ⊢;have X:s.length<=1048576:=C;refine dI (mk:=λi(v:Int)=>((v,i,()),())) (λy=>y.1.2.1) (λ_ _=>rfl) s.length lu (λn v=>v=Sp.sumOf (s.take n)) rfl (λI P n v H o next=>?_) λI P v o=>?_
 .subst o;have W:=ae7 (s.take n);have J:(s.getD n 0).toNat<256:=(s.getD n 0).toNat_lt;dsimp only;rw[aHB];have e:(IntKind.i64.wrap (IntKind.i64.wrap (Sp.sumOf (s.take n)*33)+IntKind.i64.wrap ((s.getD n 0).toNat:Int)))=33*Sp.sumOf (s.take n)+((s.getD n 0).toNat:Int):=by rw[wrap_in (z:=Sp.sumOf (s.take n)*33) lu,wrap_in (z:=((s.getD n 0).toNat:Int)) lu,wrap_in lu];omega
  rw[e];exact bT lu ⟨⟨lu,lu⟩,lZ,rfl,next _ (atM s H).symm⟩
 .subst o;dsimp only;rw[aIa (aHv _)];exact bP lu rfl
theorem aj3:OK GL.e:=by
 refine aO [] ⟨⟩ anf λs=>show GL.goal (aj6 s) (s,())fromλN C=>?_
 dsimp only[GL]at C ⊢;have X:s.length<=1048576:=C;refine dI (mk:=λi(v:Int)=>((v,i,()),())) (λy=>y.1.2.1) (λ_ _=>rfl) s.length lu (λn v=>v=Sp.sumOf (s.take n)) rfl (λI P n v H o next=>?_) λI P v o=>?_
 .subst o;have W:=ae7 (s.take n);have J:(s.getD n 0).toNat<256:=(s.getD n 0).toNat_lt;dsimp only;rw[aHB];have e:(IntKind.i64.wrap (IntKind.i64.wrap (33*Sp.sumOf (s.take n))+IntKind.i64.wrap ((s.getD n 0).toNat:Int)))=33*Sp.sumOf (s.take n)+((s.getD n 0).toNat:Int):=by rw[wrap_in (z:=33*Sp.sumOf (s.take n)) lu,wrap_in (z:=((s.getD n 0).toNat:Int)) lu,wrap_in lu]
  rw[e];exact bT lu ⟨⟨lu,lu⟩,lZ,rfl,next _ (atM s H).symm⟩
 .subst o;dsimp only;rw[aIa (aHv _)];exact bP lu rfl
theorem Qj{n:Int}{x:bM}(h:dS x=true)(E:1<=n)(O:n<=1000000000)(m:Nat):(Sp.linesT (Lib.itoa n::(qm x).take m)).length<=14424:=by
 obtain⟨b,T⟩:=ae8 h;have H:=(jV (lU.2 (show 0<=n/\n<=1000000000 from lu))).2.2.2.2;have:=axh (Lib.itoa n::(qm x).take m) λw a=>by
  rcases aHH.1 a with rfl|a
  .omega
  .exact(b w (aI7 a)).1
 rw[aHx,aHP]at this;have U:(min m (qm x).length+1)*601<=24*601:=aHQ _ lu;omega
theorem avS(l:List (List UInt8))(n:Nat):((Sp.ls l).getD n ([],())).1=l.getD n []:=by unfold Sp.ls;rw[aHI,aHI,aId];cases l[n]? <;>rfl
theorem getD_in{α:Type}{l:List α}{d:α}(h:n<l.length):l.getD n d∈l:=by rw[aHI,aHK h];exact aJs h
theorem aqv(l:List (List UInt8))(h:n<l.length):l.take (n+1)=l.take n++[l.getD n []]:=by rw[aIi h,aHI,aHK h];rfl
theorem ad4:OK BV.e:=by
 refine aO [GK.e,jU.e,nM.e,gX.e,jf.e] ⟨aj1,Bv,wB,jd,sZ,⟨⟩⟩ ag9 λv k t a b=>show BV.goal (ae9 v k t a b) (v,(k,t,a,b,()),())fromλN C=>?_
 dsimp only[BV]at C ⊢;have C:fJ (k,t,a,b,()):=C;refine⟨λ_=>dS (k,t,a,b,())=true/\1<=v/\v<=1000000000,⟨Ov C,?_⟩,λ_ B=>?_⟩
 .refine af (λh=>?_) λh=>⟨trivial,af (λg=>?_) λg=>?_⟩
  .unfold Sp.slot;rw[dD h];rfl
  .have g:(decide (1<=v)&&decide (v<=1000000000))=false:=dD g;unfold Sp.slot;rw[g,aH8];rfl
  .have g:(decide (1<=v)&&decide (v<=1000000000))=true:=bI g;rw[aHy,aHM,aHM]at g;exact⟨rfl,bI h,g.1,g.2⟩
 obtain⟨h,E,O⟩:=B;obtain⟨f,T⟩:=ae8 h;have H:=(jV (lU.2 (show 0<=v/\v<=1000000000 from lu))).2.2.2.2;have one:∀x:UInt8,[x].length=1:=λ_=>rfl;rw[avT h E O];refine⟨trivial,cO (by rw[one];omega),C,?_⟩;dsimp only;rw[Zb h,ayQ];refine dI (mk:=λi(s:List UInt8)=>((s,i,()),())) (λy=>y.1.2.1) (λ_ _=>rfl) (qm (k,t,a,b,())).length lu (λn s=>s=Sp.linesT (Lib.itoa v::(qm (k,t,a,b,())).take n)) (by show Lib.itoa v++[10]=Lib.itoa v++[10]++[];rw[aH1]) (λI P n s e o next=>?_) λI P s o=>?_
 .have hb:=Qj h E O n;rw[← o]at hb;have Q:=(f _ (getD_in (d:=[]) e)).1;dsimp only;rw[aHB,avS];refine bT lu ⟨⟨lu,lu⟩,cO lu,cO aqN,rfl,next _ ?_⟩;rw[aqv _ e,o,show Lib.itoa v::((qm (k,t,a,b,())).take n++[(qm (k,t,a,b,())).getD n []])=(Lib.itoa v::(qm (k,t,a,b,())).take n)++[(qm (k,t,a,b,())).getD n []]from rfl,ahI,aHO]
 .have hb:=Qj h E O (qm (k,t,a,b,())).length;rw[← o]at hb;rw[aIa (aHv _)]at o;have o:s=PX v (k,t,a,b,()):=o;have X:=(jV (atN s)).2.2.2.2;dsimp only;rw[← o];refine bP lu ⟨lu,trivial,cO lu,cO aqN,?_⟩;rw[aHO]
theorem adY:OK BZ.e:=by
 refine aO [GL.e,jT.e,pY.e,jc.e,je.e] ⟨aj3,BF,CV,jE,tu,⟨⟩⟩ aha λv k t a b=>show BZ.goal (afa v k t a b) (v,(k,t,a,b,()),())fromλN C=>?_
 dsimp only[BZ]at C ⊢;have C:fJ (k,t,a,b,()):=C;refine⟨λ_=>dS (k,t,a,b,())=true/\1<=v/\v<=1000000000,⟨Ov C,?_⟩,λ_ B=>?_⟩
 .refine af (λh=>?_) λh=>⟨trivial,af (λg=>?_) λg=>?_⟩
  .unfold Sp.slot;rw[dD h];rfl
  .have g:(decide (1<=v)&&decide (v<=1000000000))=false:=dD g;unfold Sp.slot;rw[g,aH8];rfl
  .have g:(decide (1<=v)&&decide (v<=1000000000))=true:=bI g;rw[aHy,aHM,aHM]at g;exact⟨rfl,bI h,g.1,g.2⟩
 obtain⟨h,E,O⟩:=B;obtain⟨f,T⟩:=ae8 h;have H:=(jV (lU.2 (show 0<=v/\v<=1000000000 from lu))).2.2.2.2;have one:∀x:UInt8,[x].length=1:=λ_=>rfl;rw[avT h E O];refine⟨trivial,cO (by rw[one];omega),C,?_⟩;dsimp only;rw[Zb h,ayQ];refine dI (mk:=λi(s:List UInt8)=>((s,i,()),())) (λy=>y.1.2.1) (λ_ _=>rfl) (qm (k,t,a,b,())).length lu (λn s=>s=Sp.linesT (Lib.itoa v::(qm (k,t,a,b,())).take n)) (by show Lib.itoa v++[10]=Lib.itoa v++[10]++[];rw[aH1]) (λI P n s e o next=>?_) λI P s o=>?_
 .have hb:=Qj h E O n;rw[← o]at hb;have Q:=(f _ (getD_in (d:=[]) e)).1;dsimp only;rw[aHB,avS];refine bT lu ⟨⟨lu,lu⟩,cO (by rw[one];omega),cO aqN,rfl,next _ ?_⟩;rw[aqv _ e,o,show Lib.itoa v::((qm (k,t,a,b,())).take n++[(qm (k,t,a,b,())).getD n []])=(Lib.itoa v::(qm (k,t,a,b,())).take n)++[(qm (k,t,a,b,())).getD n []]from rfl,ahI]
 .have hb:=Qj h E O (qm (k,t,a,b,())).length;rw[← o]at hb;rw[aIa (aHv _)]at o;have o:s=PX v (k,t,a,b,()):=o;have X:=(jV (atN s)).2.2.2.2;dsimp only;rw[← o];refine bP lu ⟨lu,trivial,cO lu,cO aqN,?_⟩;rw[aHO]
theorem ayR(s:List UInt8){b:Nat}(h:n<s.length)(J:b<=n):(s.take (n+1)).drop b=(s.take n).drop b++[s.getD n 0]:=by rw[aIi h,aJg aeY,aHI,aHK h];rfl
theorem aol:OK La.e:=by
 refine aO [] ⟨⟩ ars λs=>show La.goal (apq s) (s,())fromλN C=>?_
 dsimp only[La]at C ⊢;have X:s.length<=1048576:=C;refine dI (s0:=((0:Int),([]:Sp.LS))) (mk:=λi(v:Int×Sp.LS)=>(((),v.1,i,()),v.2,())) (λy=>y.1.2.2.1) (λ_ _=>rfl) s.length lu (λn v=>v.2.length<=n/\∃b:Nat,v.1=b/\b<=n/\v.2++gm 10 ((s.take n).drop b) (s.drop n)=Sp.pieces 10 s)
  ⟨aHv _,0,rfl,aHv _,rfl⟩ (λI P n v H o next=>?_) λI P v o=>?_
 .obtain⟨v1,v2⟩:=v;obtain⟨Q,b,rfl,a,g⟩:=o;dsimp only at Q g ⊢;rw[aHB,aHB];rw[drop_cons s n 0 H]at g;refine bT lu ⟨⟨lu,lu⟩,af (λO=>?_) λO=>?_⟩
  .have hx:(s.getD n 0==10)=true:=by have:=aHE.1 O;exact aHE.2 (aKe.1 (by show _=10;omega))
   rw[gm,hx]at g;have f:IntKind.i64.wrap ((n:Int)+1)=((n+1:Nat):Int):=fU _ lu;refine⟨⟨lu,lu,lu⟩,xM Zm,rfl,next (_,_) ⟨by rw[aHu];exact Nat.succ_le_succ Q,n+1,f,aHv _,?_⟩⟩;have d:(s.take (n+1)).drop (n+1)=[]:=List.drop_eq_nil_of_le aeY;rw[← g,aHO,d];rfl
  .have hx:(s.getD n 0==10)=false:=by refine aHt.2 λe=>aHt.1 O ?_;rw[e];rfl
   rw[gm,hx]at g;refine⟨rfl,next (_,_) ⟨aH2 Q,b,rfl,lu,?_⟩⟩;rw[ayR s H a];exact g
 .obtain⟨v1,v2⟩:=v;obtain⟨Q,b,rfl,a,g⟩:=o;dsimp only at Q g ⊢;refine bP lu ?_;rw[aJ6]at g;have g:v2++[((s.take s.length).drop b,())]=Sp.pieces 10 s:=g;show(v2,())=(uh s,());unfold uh;rw[← g,aHu,aHx,aHG,aJy,aKh]
end Go.Proofs.Tryz
namespace Go.Proofs.Tryz
open Go Go.Fw Go.RowKit Sp
set_option maxRecDepth 100000
variable {S:Nat->Prop}{e:TypeId}{r:au}{v:Value}
theorem oH{h:Array Obj}{l:List r.den}(H:dw h S (.sl e r) v l):∃a c,v=.slice a l.length c:=by
 rcases H.2 with⟨rfl,a,c,e⟩|⟨b,m,y,A,t,d,e,_⟩
 .exact⟨a,c,e⟩
 .exact⟨_,_,e⟩
theorem OH(c:UInt8)(a:c=32\/c=10)(s:List UInt8)(X:s.length<=1048576)(w:World)(z:G.ok w):Calls prog 168 #[.string ⟨s.toArray⟩,.string ⟨#[c]⟩] w λe d=>
 ∃v,e=.returned v/\FW d.heap.size d v (Sp.pieces c s)/\Below w.heap.size w d:=by
 have L:fF prog G 168 (iw Ep JR VG):=Um;refine(L [.sv (.one (.str s)),.sv (.one (.str [c]))] (s.length<=4294960000/\(([c]:List UInt8)=[32]\/([c]:List UInt8)=[10])) _ 0 (λ_=>True) #[.string ⟨s.toArray⟩,.string ⟨#[c]⟩] w rfl ⟨lu,a.imp (λe=>am1) λe=>am1⟩ z ⟨⟨rfl,y8⟩,⟨rfl,by rw[maxLen_eq];show 1<=_;decide⟩,trivial⟩).mono ?_;rintro e d ⟨v,g,rfl,E,O,U,j,M,u,_,_⟩;have f:dw d.heap _ (.sl bF dZ) v (Sp.pieces c s):=u;refine⟨v,rfl,⟨f.1,?_⟩,E,O,U,j,M⟩;rcases f.2 with h|⟨b,m,y,A,t,q,k,T,l,n,o⟩
 .exact .inl h
 .exact .inr ⟨b,m,y,A,t,q,k,T,l.1.1,n,λi x Z=>aY.flat (S:=_) _ _ _ rfl (o i x Z)⟩
theorem aBP(s:List UInt8)(X:s.length<=1048576)(w:World)(g:G.ok w):Calls prog 169 #[.string ⟨s.toArray⟩] w λe d=>
 e=.returned (.tuple #[.int .i64 (Sp.parseNum s),.bool (bW s)])/\Below w.heap.size w d:=by
 have L:fF prog G 169 (iw BQ H7 TG):=CP;refine(L [.sv (.one (.str s))] True _ 0 (λ_=>True) #[.string ⟨s.toArray⟩] w rfl trivial g ⟨⟨rfl,y8⟩,trivial⟩).mono ?_;rintro e d ⟨v,b,rfl,E,O,U,j,M,f,_,_⟩;obtain⟨I,rfl,a⟩:=f;obtain⟨l⟩:=I
 match l,a with
 |[x,y],a=>obtain⟨Z,B,_⟩:=a;have Z:x=.int .i64 (Sp.parseNum s):=Z.1;have B:y=.bool (bW s):=B;rw[Z,B];exact⟨rfl,E,O,U,j,M⟩
variable {w:World}
theorem AX{f:Sp.LS}(h:FW w.heap.size w v f):qH ⟨w,w.heap.size,λ_=>True,λ_=>undef,λ_=>none⟩ (.sv (.one (.sl bF dZ f false))) v:=
 dw.mono (S':=V.dA ⟨w,w.heap.size,λ_=>True,λ_=>undef,λ_=>none⟩ false) (h':=w.heap) (λb J=>⟨⟨⟨J,λ_=>trivial,λo x Z=>O6⟩,λe=>Q7⟩,rfl⟩) _ _ _ h
theorem aBQ(v:Value)(f:Sp.LS)(w:World)(K:FW w.heap.size w v f)(q:f.length<=1048577)(Z:∀x∈f,x.1.length<=1048576)(C:G.ok w):Calls prog 259 #[v] w λe g=>
 ∃a c,e=.returned (.tuple #[.agg #[.int .i64 (kL f).1.1,.int .i64 (kL f).1.2.1,.bool (kL f).1.2.2.1,.int .i64 (kL f).1.2.2.2.1,.slice a (kL f).1.2.2.2.2.1.length c],.bool (kL f).2])/\Below w.heap.size w g/\
  dw g.heap (λb=>w.heap.size<=b/\b<g.heap.size) (.sl cZ jk) (.slice a (kL f).1.2.2.2.2.1.length c) (kL f).1.2.2.2.2.1/\wZ (kL f).1.1/\wZ (kL f).1.2.1/\wZ (kL f).1.2.2.2.1:=by
 have n:fF prog G 259 (iw zL.sh zL.dF zL.F):=apj.1;refine(n [.sv (.one (.sl bF dZ f false))] (f.length<=1048577/\(∀x∈f,x.1.length<=1048576)) _ 0 (λ_=>True) #[v] w rfl ⟨q,Z⟩ C ⟨AX K,trivial⟩).mono ?_;rintro e g ⟨v,z,rfl,E,O,U,j,M,A,_,_⟩;obtain⟨I,rfl,i⟩:=A;obtain⟨l⟩:=I
 match l,i with
 |[x,y],i=>
  obtain⟨⟨s,rfl,k⟩,B,_⟩:=i;have B:y=.bool (kL f).2:=B;obtain⟨D⟩:=s
  match D,k with
  |[a1,a2,a3,a4,a5],k=>obtain⟨m,o,h,t,d,_⟩:=k;have h:a3=.bool (kL f).1.2.2.1:=h;have d:dw g.heap _ (.sl cZ jk) a5 (kL f).1.2.2.2.2.1:=d;obtain⟨a,c,u⟩:=oH d;rw[u]at d;rw[B,m.1,o.1,h,t.1,u];exact⟨a,c,rfl,⟨E,O,U,j,M⟩,dw.mono (λb J=>⟨⟨(J.2 rfl).1,J.1.1⟩,rfl⟩) _ _ _ d,m.2,o.2,t.2⟩
theorem aBR(v:Value)(f:Sp.LS)(w:World)(K:FW w.heap.size w v f)(q:f.length<=1048577)(h:(gI f).length<=1048576)(g:G.ok w):Calls prog 182 #[v,.string ⟨#[32]⟩] w λe d=>
 e=.returned (.string ⟨(gI f).toArray⟩)/\Below w.heap.size w d:=by
 have n:fF prog G 182 (iw Gz LW X5):=N9;refine(n [.sv (.one (.sl bF dZ f false)),.sv (.one (.str [32]))] (f.length<=140737488355328/\(Lib.join (f.map (·.1)) [32]).length<=140737488355328) _ 0 (λ_=>True) #[v,.string ⟨#[32]⟩] w rfl ⟨lu,by have:(Lib.join (f.map (·.1)) [32]).length<=1048576:=h;omega⟩ g ⟨AX K,⟨rfl,by rw[maxLen_eq];decide⟩,trivial⟩).mono ?_;rintro e d ⟨v,b,rfl,E,O,U,j,M,a,_,_⟩;have a:v=.string ⟨(gI f).toArray⟩/\_:=a;rw[a.1];exact⟨rfl,E,O,U,j,M⟩
theorem aBS(s:List UInt8)(X:s.length<=1048576)(w:World)(k:G.ok w):Calls prog 260 #[.string ⟨s.toArray⟩] w λe d=>
 ∃a c,e=.returned (.tuple #[.slice a (iJ s).length c,.bool (iE s)])/\Below w.heap.size w d/\dw d.heap (λb=>w.heap.size<=b/\b<d.heap.size) (.sl aS dR) (.slice a (iJ s).length c) (iJ s):=by
 have n:fF prog G 260 (iw Am Gj Rx):=ae3;refine(n [.sv (.one (.str s))] (s.length<=1048576) _ 0 (λ_=>True) #[.string ⟨s.toArray⟩] w rfl X k ⟨⟨rfl,y8⟩,trivial⟩).mono ?_;rintro e d ⟨v,h,rfl,E,O,U,j,M,i,_,_⟩;obtain⟨I,rfl,f⟩:=i;obtain⟨l⟩:=I
 match l,f with
 |[x,y],f=>obtain⟨Z,B,_⟩:=f;have Z:dw d.heap _ (.sl aS dR) x (iJ s):=Z;have B:y=.bool (iE s):=B;obtain⟨a,c,g⟩:=oH Z;rw[g]at Z;rw[B,g];exact⟨a,c,rfl,⟨E,O,U,j,M⟩,dw.mono (λb J=>⟨⟨(J.2 rfl).1,J.1.1⟩,rfl⟩) _ _ _ Z⟩
def OL(w:World)(B:Nat)(F:Nat->Prop)(e:TypeId)(r:au)(v:Value)(l:List r.den):Prop:=
 ∃z,w.ownsRow B e r.len v l.length z/\∀i x,l[i]? =some x->aY w.heap F r ((z.drop (i*r.len)).take r.len) x
structure Sn(B:Nat)(w:World)(va vl vd:Value)(x:bM)(F:Nat->Prop):Prop where
 fa:OL w B F 149 bC va x.1
 fl:OL w B F 154 aJ vl x.2.1
 fd:OL w B F 157 aK vd x.2.2.2.1
 nx:wZ x.2.2.1
 ne:∀g,(va.ownBlock=some g->vl.ownBlock≠some g/\vd.ownBlock≠some g)/\(vl.ownBlock=some g->vd.ownBlock≠some g)
 foot:∀b,F b->B<=b/\b<w.heap.size/\va.ownBlock≠some b/\vl.ownBlock≠some b/\vd.ownBlock≠some b
variable {w':World}{B:Nat}{F:Nat->Prop}
theorem OL.keep{l:List r.den}(h:OL w B F e r v l)(u:∀b,v.ownBlock=some b->w'.heap[b]? =w.heap[b]?)(a:∀b,F b->w'.heap[b]? =w.heap[b]?):OL w' B F e r v l:=by obtain⟨z,E,O⟩:=h;exact⟨z,yA E u,λi x Z=>aY.mono (λb J=>⟨J,a b J⟩) _ _ _ (O i x Z)⟩
theorem OL.mono{w:World}{B:Nat}{F a:Nat->Prop}{e:TypeId}{r:au}{v:Value}{l:List r.den}(h:OL w B F e r v l)(d:∀b,F b->a b):OL w B a e r v l:=by obtain⟨z,E,O⟩:=h;exact⟨z,E,λi x Z=>aY.mono (λb J=>⟨d b J,rfl⟩) _ _ _ (O i x Z)⟩
variable {g:Nat}
theorem OL.lt{l:List r.den}(h:OL w B F e r v l)(d:v.ownBlock=some g):B<=g/\g<w.heap.size:=by obtain⟨z,E,_⟩:=h;exact E.lt g d
theorem OL.form{l:List r.den}(h:OL w B F e r v l):∃a c,v=.slice a l.length c:=by
 obtain⟨z,E,_⟩:=h;rcases E.2 with⟨b,T⟩|⟨g,y,R,b,_⟩
 .exact⟨none,0,by rw[b,T]⟩
 .exact⟨_,_,b⟩
theorem OL.nil:OL w B F e r (.slice none 0 0) []:=⟨[],aJE _ _ _ _,λi x Z=>by simp at Z⟩
theorem OL.rep{l:List r.den}(h:OL w B F e r v l)(W:0<r.len)(j:∀b,F b\/v.ownBlock=some b->S b):dw w.heap S (.sl e r) v l:=by
 obtain⟨z,E,O⟩:=h;rcases E.2 with⟨d,T⟩|⟨g,y,R,d,T,k,f,m,o,n⟩
 .exact⟨by rw[T];exact aHV _,.inl ⟨aH0.1 T,none,0,d⟩⟩
 .refine⟨aHw f m,.inr ⟨g,0,y,R,e,(0,0),d,f,j g (.inr (by rw[d];rfl)),k,λi x Z=>?_⟩⟩;have D:=(aHN.1 Z).1;have:=O i x Z;have a:(i+1)*r.len<=l.length*r.len:=aHQ _ D;rw[aIP,Nat.one_mul]at a;rw[← n,aKf,aKj,aIQ lu]at this;rw[aIn];exact aY.mono (λb J=>⟨j b (.inl J),rfl⟩) _ _ _ this
variable {xs ys:List Value}
theorem az8{n z j:Nat}(h:xs.length=n*z)(a:j<n):((xs++ys).drop (j*z)).take z=(xs.drop (j*z)).take z:=by have:(j+1)*z<=n*z:=aHQ _ a;rw[aIP,Nat.one_mul]at this;rw[aJg lu,aJf an9]
theorem OL.push{d:Nat->Prop}{v':Value}{l:List r.den}{x:r.den}(O:∀i x,l[i]? =some x->aY w.heap F r ((xs.drop (i*r.len)).take r.len) x)(Q:xs.length=l.length*r.len)
 (h:w'.ownsRow B e r.len v' (l.length+1) (xs++ys)) (u:∀b,F b->d b/\w'.heap[b]? =w.heap[b]?) (Z:aY w'.heap d r ys x):OL w' B d e r v' (l++[x]):=by
 refine⟨xs++ys,by rw[aHu];exact h,λi y D=>?_⟩;rcases aHU i l.length with a|a
 .rw[aIz a]at D;rw[az8 Q a];exact aY.mono u _ _ _ (O i y D)
 .rw[aIJ a]at D;have f:i=l.length:=by have:=(aHN.1 D).1;simp at this;omega
  subst f;rw[aJl]at D;cases D;have j:=aY.length _ _ _ Z;rw[← Q,List.drop_left,← j,aH4];exact Z
variable {va vl vd:Value}{x:bM}
theorem Sn.below(h:Sn B w va vl vd x F)(k:Below w.heap.size w w'):Sn B w' va vl vd x F:=by have q:∀b,F b->w'.heap[b]? =w.heap[b]? :=λb J=>k.block b (h.foot b J).2.1;exact⟨h.fa.keep (λb J=>k.block b (h.fa.lt J).2) q,h.fl.keep (λb J=>k.block b (h.fl.lt J).2) q,h.fd.keep (λb J=>k.block b (h.fd.lt J).2) q,h.nx,h.ne,λb J=>⟨(h.foot b J).1,aHR (h.foot b J).2.1 k.size,(h.foot b J).2.2⟩⟩
theorem Sn.keep(h:Sn B w va vl vd x F)(X:w.heap.size<=w'.heap.size)(k:∀b,B<=b->b<w.heap.size->w'.heap[b]? =w.heap[b]?):Sn B w' va vl vd x F:=by have q:∀b,F b->w'.heap[b]? =w.heap[b]? :=λb J=>k b (h.foot b J).1 (h.foot b J).2.1;exact⟨h.fa.keep (λb J=>k b (h.fa.lt J).1 (h.fa.lt J).2) q,h.fl.keep (λb J=>k b (h.fl.lt J).1 (h.fl.lt J).2) q,h.fd.keep (λb J=>k b (h.fd.lt J).1 (h.fd.lt J).2) q,h.nx,h.ne,λb J=>⟨(h.foot b J).1,aHR (h.foot b J).2.1 X,(h.foot b J).2.2⟩⟩
variable {w0 w5:World}{N:Nat->Prop}{cap:Nat}
theorem Sn.arJ(h:Sn B w va vl vd x F)(E:B<=w.heap.size)(J:Below w.heap.size w w0){y:bY}(m:w.ownsRow B 149 2 va x.1.length xs)
 (n:∀i z,x.1[i]? =some z->aY w.heap F bC ((xs.drop (i*2)).take 2) z)  (M:w5.ownsRow B 149 2 (.slice (some ⟨g,0,none⟩) (x.1.length+1) cap) (x.1.length+1) (xs++ys)) (d:w0.grownBy w5 va.ownBlock) (k:va.ownBlock=some g\/g=w0.heap.size) (C:g<w5.heap.size)
 (t:∀b,N b->w.heap.size<=b/\b<w0.heap.size) (Z:aY w0.heap N bC ys y):Sn B w5 (.slice (some ⟨g,0,none⟩) (x.1.length+1) cap) vl vd (x.1++[y],x.2.1,x.2.2.1,x.2.2.2.1,()) (λb=>F b\/N b):=by
 have A:=J.size;have D:=d.size;have j:∀b,b<w.heap.size->va.ownBlock≠some b->w5.heap[b]? =w.heap[b]? :=λb l u=>(d.block b (aHR l A) (λe=>u e.symm)).trans (J.block b l);have s:∀b,F b->w5.heap[b]? =w.heap[b]? :=λb a=>j b (h.foot b a).2.1 (h.foot b a).2.2.1;have own:∀b,va.ownBlock=some b->b<w.heap.size:=λb e=>(h.fa.lt e).2;have o:∀b,vl.ownBlock=some b->b<w.heap.size/\va.ownBlock≠some b/\g≠b:=λb e=>by
  have Q:=(h.fl.lt e).2;have H:va.ownBlock≠some b:=λT=>((h.ne b).1 T).1 e;refine⟨Q,H,λT=>?_⟩;subst T;rcases k with f|f
  .exact H f
  .omega
 have q:∀b,vd.ownBlock=some b->b<w.heap.size/\va.ownBlock≠some b/\g≠b:=λb e=>by
  have Q:=(h.fd.lt e).2;have H:va.ownBlock≠some b:=λT=>((h.ne b).1 T).2 e;refine⟨Q,H,λT=>?_⟩;subst T;rcases k with f|f
  .exact H f
  .omega
 refine⟨OL.push (r:=bC) n m.1 M (λb a=>⟨.inl a,s b a⟩) (aY.mono (λb a=>⟨.inr a,d.block b (t b a).2 λe=>ahe⟩) _ _ _ Z),(h.fl.keep (λb e=>j b (o b e).1 (o b e).2.1) s).mono λb a=>.inl a,(h.fd.keep (λb e=>j b (q b e).1 (q b e).2.1) s).mono λb a=>.inl a,h.nx,λb=>⟨λe=>?_,λe=>?_⟩,λb a=>?_⟩
 .obtain rfl:g=b:=Option.some.inj e;exact⟨λT=>(o g T).2.2 rfl,λT=>(q g T).2.2 rfl⟩
 .exact(h.ne b).2 e
 rcases a with a|a
 .obtain⟨f1,f2,f3,f4,f5⟩:=h.foot b a;exact⟨f1,lu,λe=>by
   obtain rfl:g=b:=Option.some.inj e;rcases k with f|f
   .exact f3 f
   .omega,
   f4,
   f5⟩
 .obtain⟨f1,f2⟩:=t b a;exact⟨lu,lu,λe=>by
   obtain rfl:g=b:=Option.some.inj e;rcases k with f|f
   .have:=own g f;omega
   .omega,
   λe=>by have:=(o b e).1;omega,
   λe=>by have:=(q b e).1;omega⟩
theorem Sn.aAY(h:Sn B w va vl vd x F)(E:B<=w.heap.size)(J:Below w.heap.size w w0){y:aF}(m:w.ownsRow B 154 5 vl x.2.1.length xs)
 (n:∀i z,x.2.1[i]? =some z->aY w.heap F aJ ((xs.drop (i*5)).take 5) z)  (M:w5.ownsRow B 154 5 (.slice (some ⟨g,0,none⟩) (x.2.1.length+1) cap) (x.2.1.length+1) (xs++ys)) (d:w0.grownBy w5 vl.ownBlock) (k:vl.ownBlock=some g\/g=w0.heap.size) (C:g<w5.heap.size)
 (t:∀b,N b->w.heap.size<=b/\b<w0.heap.size) (Z:aY w0.heap N aJ ys y):Sn B w5 va (.slice (some ⟨g,0,none⟩) (x.2.1.length+1) cap) vd (x.1,x.2.1++[y],x.2.2.1,x.2.2.2.1,()) (λb=>F b\/N b):=by
 have A:=J.size;have D:=d.size;have j:∀b,b<w.heap.size->vl.ownBlock≠some b->w5.heap[b]? =w.heap[b]? :=λb l u=>(d.block b (aHR l A) (λe=>u e.symm)).trans (J.block b l);have s:∀b,F b->w5.heap[b]? =w.heap[b]? :=λb a=>j b (h.foot b a).2.1 (h.foot b a).2.2.2.1;have own:∀b,vl.ownBlock=some b->b<w.heap.size:=λb e=>(h.fl.lt e).2;have o:∀b,va.ownBlock=some b->b<w.heap.size/\vl.ownBlock≠some b/\g≠b:=λb e=>by
  have Q:=(h.fa.lt e).2;have H:vl.ownBlock≠some b:=λT=>((h.ne b).1 e).1 T;refine⟨Q,H,λT=>?_⟩;subst T;rcases k with f|f
  .exact H f
  .omega
 have q:∀b,vd.ownBlock=some b->b<w.heap.size/\vl.ownBlock≠some b/\g≠b:=λb e=>by
  have Q:=(h.fd.lt e).2;have H:vl.ownBlock≠some b:=λT=>(h.ne b).2 T e;refine⟨Q,H,λT=>?_⟩;subst T;rcases k with f|f
  .exact H f
  .omega
 refine⟨(h.fa.keep (λb e=>j b (o b e).1 (o b e).2.1) s).mono λb a=>.inl a,OL.push (r:=aJ) n m.1 M (λb a=>⟨.inl a,s b a⟩) (aY.mono (λb a=>⟨.inr a,d.block b (t b a).2 λe=>ahe⟩) _ _ _ Z),(h.fd.keep (λb e=>j b (q b e).1 (q b e).2.1) s).mono λb a=>.inl a,h.nx,λb=>⟨λe=>?_,λe=>?_⟩,λb a=>?_⟩
 .exact⟨λT=>(o b e).2.2 (Option.some.inj T),((h.ne b).1 e).2⟩
 .obtain rfl:g=b:=Option.some.inj e;exactλT=>(q g T).2.2 rfl
 rcases a with a|a
 .obtain⟨f1,f2,f3,f4,f5⟩:=h.foot b a;exact⟨f1,lu,f3,
   λe=>by
   obtain rfl:g=b:=Option.some.inj e;rcases k with f|f
   .exact f4 f
   .omega,
   f5⟩
 .obtain⟨f1,f2⟩:=t b a;exact⟨lu,lu,λe=>by have:=(o b e).1;omega,
   λe=>by
   obtain rfl:g=b:=Option.some.inj e;rcases k with f|f
   .have:=own g f;omega
   .omega,
   λe=>by have:=(q b e).1;omega⟩
theorem Sn.aw2(h:Sn B w va vl vd x F)(E:B<=w.heap.size)(J:Below w.heap.size w w0){y:aG}(m:w.ownsRow B 157 2 vd x.2.2.2.1.length xs)
 (n:∀i z,x.2.2.2.1[i]? =some z->aY w.heap F aK ((xs.drop (i*2)).take 2) z)  (M:w5.ownsRow B 157 2 (.slice (some ⟨g,0,none⟩) (x.2.2.2.1.length+1) cap) (x.2.2.2.1.length+1) (xs++ys)) (d:w0.grownBy w5 vd.ownBlock) (k:vd.ownBlock=some g\/g=w0.heap.size) (C:g<w5.heap.size)
 (t:∀b,N b->w.heap.size<=b/\b<w0.heap.size) (Z:aY w0.heap N aK ys y):Sn B w5 va vl (.slice (some ⟨g,0,none⟩) (x.2.2.2.1.length+1) cap) (x.1,x.2.1,x.2.2.1,x.2.2.2.1++[y],()) (λb=>F b\/N b):=by
 have A:=J.size;have D:=d.size;have j:∀b,b<w.heap.size->vd.ownBlock≠some b->w5.heap[b]? =w.heap[b]? :=λb l u=>(d.block b (aHR l A) (λe=>u e.symm)).trans (J.block b l);have s:∀b,F b->w5.heap[b]? =w.heap[b]? :=λb a=>j b (h.foot b a).2.1 (h.foot b a).2.2.2.2;have own:∀b,vd.ownBlock=some b->b<w.heap.size:=λb e=>(h.fd.lt e).2;have o:∀b,va.ownBlock=some b->b<w.heap.size/\vd.ownBlock≠some b/\g≠b:=λb e=>by
  have Q:=(h.fa.lt e).2;have H:vd.ownBlock≠some b:=λT=>((h.ne b).1 e).2 T;refine⟨Q,H,λT=>?_⟩;subst T;rcases k with f|f
  .exact H f
  .omega
 have q:∀b,vl.ownBlock=some b->b<w.heap.size/\vd.ownBlock≠some b/\g≠b:=λb e=>by
  have Q:=(h.fl.lt e).2;have H:vd.ownBlock≠some b:=λT=>(h.ne b).2 e T;refine⟨Q,H,λT=>?_⟩;subst T;rcases k with f|f
  .exact H f
  .omega
 refine⟨(h.fa.keep (λb e=>j b (o b e).1 (o b e).2.1) s).mono λb a=>.inl a,(h.fl.keep (λb e=>j b (q b e).1 (q b e).2.1) s).mono λb a=>.inl a,OL.push (r:=aK) n m.1 M (λb a=>⟨.inl a,s b a⟩) (aY.mono (λb a=>⟨.inr a,d.block b (t b a).2 λe=>ahe⟩) _ _ _ Z),h.nx,λb=>⟨λe=>?_,λe=>?_⟩,λb a=>?_⟩
 .exact⟨((h.ne b).1 e).1,λT=>(o b e).2.2 (Option.some.inj T)⟩
 .exactλT=>(q b e).2.2 (Option.some.inj T)
 rcases a with a|a
 .obtain⟨f1,f2,f3,f4,f5⟩:=h.foot b a;exact⟨f1,lu,f3,
   f4,
   λe=>by
   obtain rfl:g=b:=Option.some.inj e;rcases k with f|f
   .exact f5 f
   .omega⟩
 .obtain⟨f1,f2⟩:=t b a;exact⟨lu,lu,λe=>by have:=(o b e).1;omega,
   λe=>by have:=(q b e).1;omega,
   λe=>by
   obtain rfl:g=b:=Option.some.inj e;rcases k with f|f
   .have:=own g f;omega
   .omega⟩
theorem FW.cell{B:Nat}{w:World}{a:Option Addr}{c:Nat}{f:Sp.LS}(h:FW B w (.slice a f.length c) f){n:Nat}(H:n<f.length):∃b m,a=some ⟨b,m,none⟩/\b<B/\w.cell? ⟨b,m+n,none⟩=some (.string ⟨(f.getD n ([],())).1.toArray⟩):=by
 rcases h.2 with⟨rfl,_⟩|⟨b,m,cap,A,t,y,e,T,i,j,k⟩
 .exact absurd H (aIg _)
 .injection e with ea;refine⟨b,m,ea,i,?_⟩;have Z:f[n]? =some (f.getD n ([],())):=by rw[aHI,aHK H];rfl
  generalize f.getD n ([],())=x at Z ⊢;obtain⟨u,s,o,⟨q,_⟩,_⟩:=k n x Z;rw[aZ j,← q];have d:=congrArg (λl=>l[0]?) o;have d:((A.toList.drop (m+n*1)).take 1)[0]? =some u:=d;simpa[aIs,aIp]using d
def ad5:Value:=.agg #[.string ⟨#[]⟩,.int .i64 0]
def ata:Value:=.agg #[.int .i64 0,.int .i64 0,.bool false,.int .i64 0,.slice none 0 0]
def ale:Value:=.agg #[.string ⟨#[]⟩,.slice none 0 0]
theorem as7:(prog.info? 149).map (λi=>(i.zero,i.size,i.bytes))=some (some ad5,2,24):=mF
theorem ayn:(prog.info? 154).map (λi=>(i.zero,i.size,i.bytes))=some (some ata,5,56):=mF
theorem atc:(prog.info? 157).map (λi=>(i.zero,i.size,i.bytes))=some (some ale,2,40):=mF
structure Kp(B P:Nat)(W w:World):Prop where
 os:w.os=W.os
 tape:w.tape=W.tape
 output:w.output=W.output
 size:W.heap.size<=w.heap.size
 block:∀b,b<B->b≠P->w.heap[b]? =W.heap[b]?
variable {P:Nat}{W:World}
theorem Kp.below(a:B<=W.heap.size)(h:Kp B P W w)(k:Below w.heap.size w w'):Kp B P W w':=
 ⟨k.os.trans h.os,k.tape.trans h.tape,k.output.trans h.output,aHw h.size k.size,λb J H=>(k.block b (by have:=h.size;omega)).trans (h.block b J H)⟩
theorem Kp.set(h:Kp B P W w){k:Nat}:Kp B P W (w.setCell ⟨P,k,none⟩ v):=
 ⟨h.os,h.tape,h.output,by simpa[World.setCell]using h.size,λb J H=>(pz v H).trans (h.block b J H)⟩
theorem Kp.grown(d:B<=W.heap.size)(h:Kp B P W w){o:Option Nat}(k:w.grownBy w' o)(a:∀b,o=some b->B<=b):Kp B P W w':=
 ⟨k.os.trans h.os,k.tape.trans h.tape,k.output.trans h.output,aHw h.size k.size,λb J H=>(k.block b (by have:=h.size;omega) λe=>by have:=a b e.symm;omega).trans (h.block b J H)⟩
def Held(B P:Nat)(w:World)(x:bM):Prop:=∃va vl vd F,w.heap[P]? =some (.cells #[va,vl,.int .i64 x.2.2.1,vd] 61 (0,0))/\Sn B w va vl vd x F
theorem four{k a b d:Value}{t:TypeId}(h:w.heap[g]? =some (.cells #[k,a,b,d] t (0,0))):
 (w.cell? ⟨g,0,none⟩=some k/\w.cell? ⟨g,1,none⟩=some a/\w.cell? ⟨g,2,none⟩=some b/\w.cell? ⟨g,3,none⟩=some d)/\w.frozen? ⟨g,0,none⟩=false/\w.frozen? ⟨g,1,none⟩=false/\w.frozen? ⟨g,2,none⟩=false/\w.frozen? ⟨g,3,none⟩=false:=
 ⟨⟨aZ h 0,aZ h 1,aZ h 2,aZ h 3⟩,eY h 0,eY h 1,eY h 2,eY h 3⟩
theorem Held.below(h:Held B P w x)(k:Below w.heap.size w w'):Held B P w' x:=by obtain⟨va,vl,vd,F,E,O⟩:=h;exact⟨va,vl,vd,F,(k.block P (aHz.1 E).1).trans E,O.below k⟩
theorem Kp.of(a:B<=W.heap.size)(k:Below W.heap.size W w):Kp B P W w:=⟨k.os,k.tape,k.output,k.size,λb J _=>k.block b lu⟩
set_option maxHeartbeats 16000000 in
theorem aBT(B P:Nat)(W:World)(x:bM)(x0:List UInt8)(r:Sp.LS)(line:List UInt8)(hl:line.length<=1048576)(hf:Sp.pieces 32 line=(x0,())::r)(hG:G.ok W)(hS:Held B P W x)(hB:B<=W.heap.size)
 (h1:¬x0=[102,105,101,108,100]\/((r.length:Int)+1==3)=false) (h2:¬x0=[110,101,120,116]\/((r.length:Int)+1==2)=false) (h3:¬x0=[102,105,108,101]) (h4:¬x0=[100,105,114]\/¬(2:Int)<(r.length:Int)+1):
 Calls prog 213 #[.pointer (some ⟨P,0,none⟩),.string ⟨line.toArray⟩] W λe w'=>e=.returned (.bool false)/\Held B P w' x/\Kp B P W w':=by
 have mixed:=Tryz.mixed;have sp:=OH 32 (.inl rfl) line lu W hG;rw[hf]at sp;clear hf;by_cases k1:x0=[102,105,101,108,100]
 .subst k1;have hn:((r.length:Int)+1==3)=false:=h1.elim (λh=>absurd rfl h) id;clear h1 h2 h3 h4
  go_enter Tryz.func213,Tryz.ntmps213
  go_wp2_with (first
   |(go_at_call 168;refine aHY sp ?_;rintro e w1 ⟨v1,rfl,hf1,hb1⟩;obtain⟨a1,c1,e1⟩:=oH hf1;have e1:v1=.slice a1 (r.length+1) c1:=e1;subst e1;obtain⟨b2,o2,e2,-,cw⟩:=FW.cell (a:=a1) (c:=c1) (f:=([102,105,101,108,100],())::r) hf1 (n:=0) (aIx _);subst e2;have cw:w1.cell? ⟨b2,o2,none⟩=some (.string ⟨([102,105,101,108,100]:List UInt8).toArray⟩):=cw;clear sp))
  all_goals go_ret
  all_goals exact⟨rfl,hS.below hb1,Kp.of hB hb1⟩
 by_cases k2:x0=[110,101,120,116]
 .subst k2;have hn:((r.length:Int)+1==2)=false:=h2.elim (λh=>absurd rfl h) id;clear h1 h2 h3 h4
  go_enter Tryz.func213,Tryz.ntmps213
  go_wp2_with (first
   |(go_at_call 168;refine aHY sp ?_;rintro e w1 ⟨v1,rfl,hf1,hb1⟩;obtain⟨a1,c1,e1⟩:=oH hf1;have e1:v1=.slice a1 (r.length+1) c1:=e1;subst e1;obtain⟨b2,o2,e2,-,cw⟩:=FW.cell (a:=a1) (c:=c1) (f:=([110,101,120,116],())::r) hf1 (n:=0) (aIx _);subst e2;have cw:w1.cell? ⟨b2,o2,none⟩=some (.string ⟨([110,101,120,116]:List UInt8).toArray⟩):=cw;clear sp))
  all_goals go_ret
  all_goals exact⟨rfl,hS.below hb1,Kp.of hB hb1⟩
 by_cases k4:x0=[100,105,114]
 .subst k4;have hn:¬(2:Int)<(r.length:Int)+1:=h4.elim (λh=>absurd rfl h) id;clear h1 h2 h3 h4
  go_enter Tryz.func213,Tryz.ntmps213
  go_wp2_with (first
   |(go_at_call 168;refine aHY sp ?_;rintro e w1 ⟨v1,rfl,hf1,hb1⟩;obtain⟨a1,c1,e1⟩:=oH hf1;have e1:v1=.slice a1 (r.length+1) c1:=e1;subst e1;obtain⟨b2,o2,e2,-,cw⟩:=FW.cell (a:=a1) (c:=c1) (f:=([100,105,114],())::r) hf1 (n:=0) (aIx _);subst e2;have cw:w1.cell? ⟨b2,o2,none⟩=some (.string ⟨([100,105,114]:List UInt8).toArray⟩):=cw;clear sp))
  all_goals go_ret
  all_goals exact⟨rfl,hS.below hb1,Kp.of hB hb1⟩
 have g1:(x0==[102,105,101,108,100])=false:=aHt.2 k1;have g2:(x0==[110,101,120,116])=false:=aHt.2 k2;have g3:(x0==[102,105,108,101])=false:=aHt.2 h3;have g4:(x0==[100,105,114])=false:=aHt.2 k4;clear h1 h2 h4
 go_enter Tryz.func213,Tryz.ntmps213
 go_wp2_with (first
  |(go_at_call 168;refine aHY sp ?_;rintro e w1 ⟨v1,rfl,hf1,hb1⟩;obtain⟨a1,c1,e1⟩:=oH hf1;have e1:v1=.slice a1 (r.length+1) c1:=e1;subst e1;obtain⟨b2,o2,e2,-,cw⟩:=FW.cell (a:=a1) (c:=c1) (f:=(x0,())::r) hf1 (n:=0) (aIx _);subst e2;have cw:w1.cell? ⟨b2,o2,none⟩=some (.string ⟨(x0:List UInt8).toArray⟩):=cw;clear sp))
 all_goals go_ret
 all_goals exact⟨rfl,hS.below hb1,Kp.of hB hb1⟩
theorem Sn.next(h:Sn B w va vl vd x F){n:Int}(H:wZ n):Sn B w va vl vd (x.1,x.2.1,n,x.2.2.2.1,()) F:=⟨h.fa,h.fl,h.fd,H,h.ne,h.foot⟩
theorem Sn.set{k:Nat}(h:Sn B w va vl vd x F)(a:P<B):Sn B (w.setCell ⟨P,k,none⟩ v) va vl vd x F:=
 h.keep ah5 λb J _=>pz v (by show b≠P;omega)
theorem YI(s:List UInt8):wZ (Sp.parseNum s):=by have:=lU.1 (FI s);exact⟨lu,lu⟩
set_option maxHeartbeats 16000000 in
theorem ayS(B P:Nat)(W:World)(x:bM)(y:List UInt8)(line:List UInt8)(hl:line.length<=1048576)(hf:Sp.pieces 32 line=[(wz,()),(y,())])(hG:G.ok W)(hS:Held B P W x)(Zd:P<B)(hB:B<=W.heap.size):
 Calls prog 213 #[.pointer (some ⟨P,0,none⟩),.string ⟨line.toArray⟩] W λe w'=>e=.returned (.bool (bW y))/\Held B P w' (x.1,x.2.1,Sp.parseNum y,x.2.2.2.1,())/\Kp B P W w':=by
 have mixed:=Tryz.mixed;obtain⟨va,vl,vd,F,hP,AU⟩:=hS;have hPl:=(aHz.1 hP).1;have sp:=OH 32 (.inl rfl) line lu W hG;have hy:y.length<=1048576:=aHw (Il (c:=32) (s:=line) (y,()) (by rw[hf];simp)) hl;rw[hf]at sp;clear hf;unfold wz at sp;have pu:=λw hG=>aBP y lu w hG;have hno:=YI y;generalize Sp.parseNum y=n at pu hno ⊢;generalize bW y=ok at pu ⊢
 go_enter Tryz.func213,Tryz.ntmps213
 go_wp2_with (first
  |(go_at_call 168;refine aHY sp ?_;rintro e w1 ⟨v1,rfl,hf1,hb1⟩;obtain⟨a1,c1,e1⟩:=oH hf1;have e1:v1=.slice a1 2 c1:=e1;subst e1;obtain⟨b2,o2,e2,-,cw⟩:=FW.cell (a:=a1) (c:=c1) (f:=[([110,101,120,116],()),(y,())]) hf1 (n:=0) vk;subst e2;have cw:w1.cell? ⟨b2,o2,none⟩=some (.string ⟨([110,101,120,116]:List UInt8).toArray⟩):=cw;obtain⟨b3,o3,e3,-,cw3⟩:=FW.cell (a:=some ⟨b2,o2,none⟩) (c:=c1) (f:=[([110,101,120,116],()),(y,())]) hf1 (n:=1) vk;cases e3;have cw3:w1.cell? ⟨b2,o2+1,none⟩=some (.string ⟨(y:List UInt8).toArray⟩):=cw3;clear sp)
  |(go_at_call 169;refine aHY (pu w1 (fC hG hb1)) ?_;rintro e w2 ⟨rfl,hb2⟩;have zG:=hb1.trans (hb2.mono hb1.size);have hP2:=(zG.block P hPl).trans hP;obtain⟨⟨d0,d1,d2,d3⟩,z0,z1,z2,z3⟩:=four hP2))
 all_goals go_ret
 all_goals exact⟨rfl,⟨va,vl,vd,F,iO hP2 2 _,(((AU.below zG).next hno).set Zd)⟩,(Kp.of hB zG).set⟩
set_option maxHeartbeats 16000000 in
theorem axi(B P:Nat)(W:World)(x:bM)(y k3:List UInt8)(line:List UInt8)(hl:line.length<=1048576)(hf:Sp.pieces 32 line=[(jF,()),(y,()),(k3,())])(hG:G.ok W)(hS:Held B P W x)(Zd:P<B)(hB:B<=W.heap.size)(hz:x.1.length<=2000000):
 Calls prog 213 #[.pointer (some ⟨P,0,none⟩),.string ⟨line.toArray⟩] W λe w'=>e=.returned (.bool true)/\Held B P w' (x.1++[(y,(bif k3==vY then 2 else 1),())],x.2.1,x.2.2.1,x.2.2.2.1,())/\Kp B P W w':=by
 have mixed:=Tryz.mixed;obtain⟨va,vl,vd,F,hP,AU⟩:=hS;have hPl:=(aHz.1 hP).1;have sp:=OH 32 (.inl rfl) line lu W hG;have hy:y.length<=1048576:=aHw (Il (c:=32) (s:=line) (y,()) (by rw[hf];simp)) hl;rw[hf]at sp;clear hf;unfold jF at sp;obtain⟨i0,hi,hz0,hz1,hz2⟩:=aI8 as7;have hqm:x.1.length+1<=maxLen:=y8;have pJ:(x.1.length+1)*24<=140737488355328:=lu;by_cases hk:k3=[115,116,114,105,110,103]
 .subst hk;rw[show(([115,116,114,105,110,103]:List UInt8)==vY)=true from rfl]
  go_enter Tryz.func213,Tryz.ntmps213
  go_wp2_with (first
   |(go_at_call 168;refine aHY sp ?_;rintro e w1 ⟨v1,rfl,hf1,hb1⟩;obtain⟨a1,c1,e1⟩:=oH hf1;have e1:v1=.slice a1 3 c1:=e1;subst e1;obtain⟨b2,o2,e2,-,cw⟩:=FW.cell (a:=a1) (c:=c1) (f:=[([102,105,101,108,100],()),(y,()),([115,116,114,105,110,103],())]) hf1 (n:=0) vk;subst e2;have cw:w1.cell? ⟨b2,o2,none⟩=some (.string ⟨([102,105,101,108,100]:List UInt8).toArray⟩):=cw;obtain⟨b3,o3,e3,-,cw3⟩:=FW.cell (a:=some ⟨b2,o2,none⟩) (c:=c1) (f:=[([102,105,101,108,100],()),(y,()),([115,116,114,105,110,103],())]) hf1 (n:=1) vk;cases e3;have cw3:w1.cell? ⟨b2,o2+1,none⟩=some (.string ⟨(y:List UInt8).toArray⟩):=cw3;obtain⟨b3,o3,e3,-,cw4⟩:=FW.cell (a:=some ⟨b2,o2,none⟩) (c:=c1) (f:=[([102,105,101,108,100],()),(y,()),([115,116,114,105,110,103],())]) hf1 (n:=2) vk;cases e3;have cw4:w1.cell? ⟨b2,o2+2,none⟩=some (.string ⟨([115,116,114,105,110,103]:List UInt8).toArray⟩):=cw4;have hP1:=(hb1.block P hPl).trans hP;obtain⟨⟨d0,d1,d2,d3⟩,z0,z1,z2,z3⟩:=four hP1;have BK:=AU.below hb1;have yB:P<w1.heap.size:=(aHz.1 hP1).1;clear sp))
  obtain⟨xs,hown,hrep⟩:=BK.fa;have hown:w1.ownsRow B 149 2 va x.1.length xs:=hown;have hrep:∀i z,x.1[i]? =some z->aY w1.heap F bC ((xs.drop (i*2)).take 2) z:=hrep;have wC:va.ownBlock≠some P:=λe=>by have:=(BK.fa.lt e).1;omega
  have hBr:B<=w1.heap.size:=aHw hB hb1.size
  go_region_law (refine step_append_lies _ rfl (.tmp 34) (.tmp 40) 39 rfl B 149 i0 ad5 2 24 Tryz.underlying39 hi hz0 hz1 hz2 rfl lZ va x.1.length xs y9 ((aI1 hown).alloc _) ⟨w1.heap.size,0,none⟩ 1 1 [.string ⟨y.toArray⟩,.int .i64 2] y9 rfl (World.news_of_block (aH6 _ _)) P8 lZ hqm pJ KW _ rfl ?_;intro g cap w5 hown5 iM qj ql;have pW:=(iM.block P KW (λe=>wC e.symm)).trans ((heap_alloc_old w1.drew _ yB).trans hP1);have k5:w5.cell? ⟨P,0,none⟩=some va:=aZ pW 0;have z5:=eY pW 0)
  all_goals go_wp2
  all_goals go_ret
  all_goals exact⟨rfl,⟨_,vl,vd,_,iO pW 0 _,((BK.arJ (y:=(y,2,())) hBr (((Below.refl _ w1).drew).alloc (aHv _) _) hown hrep hown5 iM qj ql (N:=λ_=>False) (λb hb=>hb.elim) ⟨_,_,rfl,⟨rfl,y8⟩,_,_,rfl,⟨rfl,lZ,lZ⟩,rfl⟩).set Zd)⟩,(((Kp.of hB hb1).below hB (((Below.refl _ w1).drew).alloc (aHv _) _)).grown hB iM (λb e=>(BK.fa.lt e).1)).set⟩
 .have g3:(k3==[115,116,114,105,110,103])=false:=aHt.2 hk;rw[show(k3==vY)=false from g3]
  go_enter Tryz.func213,Tryz.ntmps213
  go_wp2_with (first
   |(go_at_call 168;refine aHY sp ?_;rintro e w1 ⟨v1,rfl,hf1,hb1⟩;obtain⟨a1,c1,e1⟩:=oH hf1;have e1:v1=.slice a1 3 c1:=e1;subst e1;obtain⟨b2,o2,e2,-,cw⟩:=FW.cell (a:=a1) (c:=c1) (f:=[([102,105,101,108,100],()),(y,()),(k3,())]) hf1 (n:=0) vk;subst e2;have cw:w1.cell? ⟨b2,o2,none⟩=some (.string ⟨([102,105,101,108,100]:List UInt8).toArray⟩):=cw;obtain⟨b3,o3,e3,-,cw3⟩:=FW.cell (a:=some ⟨b2,o2,none⟩) (c:=c1) (f:=[([102,105,101,108,100],()),(y,()),(k3,())]) hf1 (n:=1) vk;cases e3;have cw3:w1.cell? ⟨b2,o2+1,none⟩=some (.string ⟨(y:List UInt8).toArray⟩):=cw3;obtain⟨b3,o3,e3,-,cw4⟩:=FW.cell (a:=some ⟨b2,o2,none⟩) (c:=c1) (f:=[([102,105,101,108,100],()),(y,()),(k3,())]) hf1 (n:=2) vk;cases e3;have cw4:w1.cell? ⟨b2,o2+2,none⟩=some (.string ⟨(k3:List UInt8).toArray⟩):=cw4;have hP1:=(hb1.block P hPl).trans hP;obtain⟨⟨d0,d1,d2,d3⟩,z0,z1,z2,z3⟩:=four hP1;have BK:=AU.below hb1;have yB:P<w1.heap.size:=(aHz.1 hP1).1;clear sp))
  obtain⟨xs,hown,hrep⟩:=BK.fa;have hown:w1.ownsRow B 149 2 va x.1.length xs:=hown;have hrep:∀i z,x.1[i]? =some z->aY w1.heap F bC ((xs.drop (i*2)).take 2) z:=hrep;have wC:va.ownBlock≠some P:=λe=>by have:=(BK.fa.lt e).1;omega
  have hBr:B<=w1.heap.size:=aHw hB hb1.size
  go_region_law (refine step_append_lies _ rfl (.tmp 34) (.tmp 40) 39 rfl B 149 i0 ad5 2 24 Tryz.underlying39 hi hz0 hz1 hz2 rfl lZ va x.1.length xs y9 ((aI1 hown).alloc _) ⟨w1.heap.size,0,none⟩ 1 1 [.string ⟨y.toArray⟩,.int .i64 1] y9 rfl (World.news_of_block (aH6 _ _)) P8 lZ hqm pJ KW _ rfl ?_;intro g cap w5 hown5 iM qj ql;have pW:=(iM.block P KW (λe=>wC e.symm)).trans ((heap_alloc_old w1.drew _ yB).trans hP1);have k5:w5.cell? ⟨P,0,none⟩=some va:=aZ pW 0;have z5:=eY pW 0)
  all_goals go_wp2
  all_goals go_ret
  all_goals exact⟨rfl,⟨_,vl,vd,_,iO pW 0 _,((BK.arJ (y:=(y,1,())) hBr (((Below.refl _ w1).drew).alloc (aHv _) _) hown hrep hown5 iM qj ql (N:=λ_=>False) (λb hb=>hb.elim) ⟨_,_,rfl,⟨rfl,y8⟩,_,_,rfl,⟨rfl,lZ,lZ⟩,rfl⟩).set Zd)⟩,(((Kp.of hB hb1).below hB (((Below.refl _ w1).drew).alloc (aHv _) _)).grown hB iM (λb e=>(BK.fa.lt e).1)).set⟩
theorem FW.tail{b m:Nat}{x:List UInt8×Unit}{r:Sp.LS}(h:FW B w (.slice (some ⟨b,m,none⟩) (r.length+1) cap) (x::r)):(cap=1->FW B w (.slice (some ⟨b,m,none⟩) r.length 0) r)/\(¬cap=1->FW B w (.slice (some ⟨b,m+1,none⟩) r.length (cap-1)) r):=by
 have l:r.length+1<=maxLen:=h.1;rcases h.2 with⟨e,_⟩|⟨q,d,a,A,t,n,e,T,f,j,k⟩
 .cases e
 .cases e;have T:r.length+1<=cap:=T;refine⟨λE=>⟨lu,.inl ⟨aH0.1 lu,?_⟩⟩,λ_=>⟨lu,.inr ⟨b,m+1,cap-1,A,t,n,rfl,lu,f,j,λi y o=>?_⟩⟩⟩
  .exact⟨_,_,by rw[show r.length=0 from lu]⟩
  .have:=k (i+1) y (by simpa using o);rw[show m+1+i*dZ.len=m+(i+1)*dZ.len by show m+1+i*1=m+(i+1)*1;omega];exact this
set_option maxHeartbeats 16000000 in
theorem ayU(B P:Nat)(W:World)(x:bM)(r:Sp.LS)(line:List UInt8)(hl:line.length<=1048576)(hf:Sp.pieces 32 line=(mY,())::r)(hG:G.ok W)(hS:Held B P W x)(Zd:P<B)(hB:B<=W.heap.size)(hz:x.2.1.length<=2000000):
 Calls prog 213 #[.pointer (some ⟨P,0,none⟩),.string ⟨line.toArray⟩] W λe w'=>e=.returned (.bool (kL r).2)/\Held B P w' (x.1,x.2.1++[(kL r).1],x.2.2.1,x.2.2.2.1,())/\Kp B P W w':=by
 have mixed:=Tryz.mixed;obtain⟨va,vl,vd,F,hP,AU⟩:=hS;have hPl:=(aHz.1 hP).1;have sp:=OH 32 (.inl rfl) line lu W hG;have hwl:∀x∈r,x.1.length<=1048576:=λy hy=>aHw (Il (c:=32) (s:=line) y (by rw[hf];exact aHC _ hy)) lu;have hrl:r.length<=1048577:=by have:=Sp.pieces_len 32 line;rw[hf,aHx]at this;omega
 rw[hf]at sp;clear hf;unfold mY at sp;have fi:=λv w hv hG=>aBQ v r w hv hrl hwl hG;generalize kL r=fr at fi ⊢;obtain⟨⟨id,ow,sh,lk,at',⟨⟩⟩,ok⟩:=fr;dsimp only at fi;obtain⟨i0,hi,hz0,hz1,hz2⟩:=aI8 ayn;have hqm:x.2.1.length+1<=maxLen:=y8;have pJ:(x.2.1.length+1)*56<=140737488355328:=lu
 go_enter Tryz.func213,Tryz.ntmps213
 go_wp2_with (first
  |(go_at_call 168;refine aHY sp ?_;rintro e w1 ⟨v1,rfl,hf1,hb1⟩;obtain⟨a1,c1,e1⟩:=oH hf1;have e1:v1=.slice a1 (r.length+1) c1:=e1;subst e1;obtain⟨b2,o2,e2,-,cw⟩:=FW.cell (a:=a1) (c:=c1) (f:=([102,105,108,101],())::r) hf1 (n:=0) vk;subst e2;have cw:w1.cell? ⟨b2,o2,none⟩=some (.string ⟨([102,105,108,101]:List UInt8).toArray⟩):=cw;obtain⟨ht1,ht2⟩:=hf1.tail;have hG1:=fC hG hb1;clear sp hf1)
  |(go_at_call 259;(first|refine aHY (fi _ _ (ht1 (by assumption)) hG1) ?_|refine aHY (fi _ _ (ht2 (by assumption)) hG1) ?_);rintro e w2 ⟨a6,c6,rfl,hb2,hra,n1,n2,n4⟩;have zG:=hb1.trans (hb2.mono hb1.size)))
 all_goals
  have BK:=AU.below hb1;obtain⟨xs,hown1,abh⟩:=BK.fl;have hown1:w1.ownsRow B 154 5 vl x.2.1.length xs:=hown1;have abh:∀i z,x.2.1[i]? =some z->aY w1.heap F aJ ((xs.drop (i*5)).take 5) z:=abh;have hs1:=hb1.size;have hs2:=hb2.size;have wC:vl.ownBlock≠some P:=λe=>by have:=(BK.fl.lt e).1;omega
  have hBr:B<=w1.heap.size:=aHw hB hs1;have hrow:=aH6 w2 (Obj.cells #[.int .i64 id,.int .i64 ow,.bool sh,.int .i64 lk,.slice a6 at'.length c6] 154 (0,0));have abj:Below w2.heap.size w2 (w2.alloc (Obj.cells #[.int .i64 id,.int .i64 ow,.bool sh,.int .i64 lk,.slice a6 at'.length c6] 154 (0,0))):=(Below.refl _ w2).alloc (aHv _) _;generalize w2.alloc (Obj.cells #[.int .i64 id,.int .i64 ow,.bool sh,.int .i64 lk,.slice a6 at'.length c6] 154 (0,0))=w3 at hrow abj ⊢;have hs3:=abj.size;have uq:=hb2.trans (abj.mono hs2);have hb3:=hb1.trans (uq.mono hs1);have hP3:=(hb3.block P hPl).trans hP;obtain⟨⟨d0,d1,d2,d3⟩,z0,z1,z2,z3⟩:=four hP3;have e0:w3.cell? ⟨w2.heap.size,0,none⟩=some (.int .i64 id):=aZ hrow 0;have e1:w3.cell? ⟨w2.heap.size,1,none⟩=some (.int .i64 ow):=aZ hrow 1;have e2:w3.cell? ⟨w2.heap.size,2,none⟩=some (.bool sh):=aZ hrow 2;have e3:w3.cell? ⟨w2.heap.size,3,none⟩=some (.int .i64 lk):=aZ hrow 3;have e4:w3.cell? ⟨w2.heap.size,4,none⟩=some (.slice a6 at'.length c6):=aZ hrow 4;have yB:P<w3.heap.size:=(aHz.1 hP3).1;have hown3:w3.ownsRow B 154 5 vl x.2.1.length xs:=yA hown1 λb e=>uq.block b (BK.fl.lt e).2;have aFZ:B<=w3.heap.size:=lu
  go_region_law (refine step_append_lies _ rfl (.tmp 84) (.tmp 86) 40 rfl B 154 i0 ata 5 56 Tryz.underlying40 hi hz0 hz1 hz2 rfl lZ vl x.2.1.length xs y9 ((aI1 hown3).alloc _) ⟨w3.heap.size,0,none⟩ 1 1 [.int .i64 id,.int .i64 ow,.bool sh,.int .i64 lk,.slice a6 at'.length c6] y9 rfl (World.news_of_block (aH6 _ _)) (by intro u hu;simp at hu;rcases hu with rfl|rfl|rfl|rfl|rfl<;>rfl) lZ hqm pJ KW _ rfl ?_;intro g cap w5 hown5 iM qj ql;have pW:=(iM.block P KW (λe=>wC e.symm)).trans ((heap_alloc_old w3.drew _ yB).trans hP3);have k5:w5.cell? ⟨P,1,none⟩=some vl:=aZ pW 1;have z5:=eY pW 1)
  all_goals go_wp2
  all_goals go_ret
  all_goals
   have hbd:Below w3.heap.size w3 (w3.drew.alloc (Obj.cells #[.int .i64 id,.int .i64 ow,.bool sh,.int .i64 lk,.slice a6 at'.length c6] 154 (0,0))):=((Below.refl _ w3).drew).alloc (aHv _) _;have Bz:=uq.trans (hbd.mono (aHw hs2 hs3));exact⟨rfl,⟨va,_,vd,_,iO pW 1 _,((BK.aAY (y:=(id,ow,sh,lk,at',())) hBr Bz hown1 abh hown5 iM qj ql (N:=λb=>w1.heap.size<=b/\b<w2.heap.size) (λb hb=>⟨hb.1,by have:=hbd.size;omega⟩)
    ⟨_,_,rfl,⟨rfl,n1⟩,_,_,rfl,⟨rfl,n2⟩,_,_,rfl,rfl,_,_,rfl,⟨rfl,n4⟩,_,_,rfl,dw.mono (λb hb=>⟨hb,(hbd.block b lu).trans (abj.block b hb.2)⟩) _ _ _ hra,rfl⟩).set Zd)⟩,(((Kp.of hB hb1).below hB Bz).grown hB iM (λb e=>(BK.fl.lt e).1)).set⟩
theorem FW.aAZ{b m:Nat}{x y:List UInt8×Unit}{r:Sp.LS}(h:FW B w (.slice (some ⟨b,m,none⟩) (r.length+2) cap) (x::y::r))(s:0<r.length):¬cap=2/\FW B w (.slice (some ⟨b,m+2,none⟩) r.length (cap-2)) r:=by
 have l:r.length+2<=maxLen:=h.1;rcases h.2 with⟨e,_⟩|⟨q,d,a,A,t,n,e,T,f,j,k⟩
 .cases e
 .cases e;have T:r.length+2<=cap:=T;refine⟨lu,lu,.inr ⟨b,m+2,cap-2,A,t,n,rfl,lu,f,j,λi z o=>?_⟩⟩;have:=k (i+2) z (by simpa using o);rw[show m+2+i*dZ.len=m+(i+2)*dZ.len by show m+2+i*1=m+(i+2)*1;omega];exact this
set_option maxHeartbeats 16000000 in
theorem az9(B P:Nat)(W:World)(x:bM)(y:List UInt8)(r:Sp.LS)(line:List UInt8)(hl:line.length<=1048576)(hf:Sp.pieces 32 line=(nJ,())::(y,())::r)(hr:0<r.length)(hG:G.ok W)(hS:Held B P W x)(Zd:P<B)(hB:B<=W.heap.size)(hz:x.2.2.2.1.length<=2000000):
 Calls prog 213 #[.pointer (some ⟨P,0,none⟩),.string ⟨line.toArray⟩] W λe w'=>e=.returned (.bool (iE (gI r)))/\Held B P w' (x.1,x.2.1,x.2.2.1,x.2.2.2.1++[(y,iJ (gI r),())],())/\Kp B P W w':=by
 have mixed:=Tryz.mixed;obtain⟨va,vl,vd,F,hP,AU⟩:=hS;have hPl:=(aHz.1 hP).1;have sp:=OH 32 (.inl rfl) line lu W hG;have hwl:∀x∈r,x.1.length<=1048576:=λz hz=>aHw (Il (c:=32) (s:=line) z (by rw[hf];exact aHC _ (aHC _ hz))) hl;have hy:y.length<=1048576:=aHw (Il (c:=32) (s:=line) (y,()) (by rw[hf];simp)) hl;have hrl:r.length<=1048577:=by have:=Sp.pieces_len 32 line;rw[hf,aHx,aHx]at this;omega
 have hj:(gI r).length<=1048576:=aHw (ayV hf) hl;rw[hf]at sp;clear hf;unfold nJ at sp;have jn:=λv w hv hG=>aBR v r w hv hrl lu hG;generalize gI r=t at jn hj ⊢;have pq:=λw hG=>aBS t lu w hG;generalize iJ t=q at pq ⊢;generalize iE t=ok at pq ⊢;have hlt2:(2:Int)<(r.length:Int)+2:=lu;have hi1:(1:Int)<(r.length:Int)+2:=lu;have hi2:(1:Int)<(r.length:Int)+1+1:=lu;have hi3:1<r.length+2:=lu;have hi4:(1:Int)<=(r.length:Int)+1:=lu;have hlt3:(2:Int)<(r.length:Int)+1+1:=lu;obtain⟨i0,hi,hz0,hz1,hz2⟩:=aI8 atc;have hqm:x.2.2.2.1.length+1<=maxLen:=y8;have pJ:(x.2.2.2.1.length+1)*40<=140737488355328:=lu
 go_enter Tryz.func213,Tryz.ntmps213
 go_wp2_with (first
  |(go_at_call 168;refine aHY sp ?_;rintro e w1 ⟨v1,rfl,hf1,hb1⟩;obtain⟨a1,c1,e1⟩:=oH hf1;have e1:v1=.slice a1 (r.length+2) c1:=e1;subst e1;obtain⟨b2,o2,e2,-,cw⟩:=FW.cell (a:=a1) (c:=c1) (f:=([100,105,114],())::(y,())::r) hf1 (n:=0) vk;subst e2;have cw:w1.cell? ⟨b2,o2,none⟩=some (.string ⟨([100,105,114]:List UInt8).toArray⟩):=cw;obtain⟨b3,o3,e3,-,cw3⟩:=FW.cell (a:=some ⟨b2,o2,none⟩) (c:=c1) (f:=([100,105,114],())::(y,())::r) hf1 (n:=1) vk;cases e3;have cw3:w1.cell? ⟨b2,o2+1,none⟩=some (.string ⟨(y:List UInt8).toArray⟩):=cw3;obtain⟨hc2,ht⟩:=hf1.aAZ hr;have aF0:=(aHz.1 (show∃o,w1.heap[b2]? =some o from by cases h:w1.heap[b2]? with|some o=>exact⟨o,rfl⟩|none=>simp[World.cell?,h]at cw).choose_spec).1;have hG1:=fC hG hb1;clear sp hf1)
  |(go_at_call 182;refine aHY (jn _ w1 ht hG1) ?_;rintro e w2 ⟨rfl,hb2⟩;have zG:=hb1.trans (hb2.mono hb1.size))
  |(go_at_call 260;refine aHY (pq w2 (fC hG zG)) ?_;rintro e w3 ⟨a6,c6,rfl,hb3,hra⟩;have abj:=hb2.trans (hb3.mono hb2.size)))
 all_goals
  have BK:=AU.below hb1;obtain⟨xs,hown1,abh⟩:=BK.fd;have hown1:w1.ownsRow B 157 2 vd x.2.2.2.1.length xs:=hown1;have abh:∀i z,x.2.2.2.1[i]? =some z->aY w1.heap F aK ((xs.drop (i*2)).take 2) z:=abh;have hs1:=hb1.size;have hs2:=hb2.size;have hs3:=hb3.size;have wC:vd.ownBlock≠some P:=λe=>by have:=(BK.fd.lt e).1;omega
  have hBr:B<=w1.heap.size:=aHw hB hs1;have as8:=hb1.trans (abj.mono hs1);have hP3:=(as8.block P hPl).trans hP;obtain⟨⟨d0,d1,d2,d3⟩,z0,z1,z2,z3⟩:=four hP3;have cy:w3.cell? ⟨b2,o2+1,none⟩=some (.string ⟨(y:List UInt8).toArray⟩):=(aIE (a:=⟨b2,o2+1,none⟩) (abj.block b2 aF0)).trans cw3;have yB:P<w3.heap.size:=(aHz.1 hP3).1;have hown3:w3.ownsRow B 157 2 vd x.2.2.2.1.length xs:=yA hown1 λb e=>abj.block b (BK.fd.lt e).2;have aFZ:B<=w3.heap.size:=lu
  go_region_law (refine step_append_lies _ rfl (.tmp 113) (.tmp 119) 43 rfl B 157 i0 ale 2 40 Tryz.underlying43 hi hz0 hz1 hz2 rfl lZ vd x.2.2.2.1.length xs y9 ((aI1 hown3).alloc _) ⟨w3.heap.size,0,none⟩ 1 1 [.string ⟨y.toArray⟩,.slice a6 q.length c6] y9 rfl (World.news_of_block (aH6 _ _)) P8 lZ hqm pJ KW _ rfl ?_;intro g cap w5 hown5 iM qj ql;have pW:=(iM.block P KW (λe=>wC e.symm)).trans ((heap_alloc_old w3.drew _ yB).trans hP3);have k5:w5.cell? ⟨P,3,none⟩=some vd:=aZ pW 3;have z5:=eY pW 3)
  all_goals go_wp2
  all_goals go_ret
  all_goals
   have hbd:Below w3.heap.size w3 (w3.drew.alloc (Obj.cells #[.string ⟨y.toArray⟩,.slice a6 q.length c6] 157 (0,0))):=((Below.refl _ w3).drew).alloc (aHv _) _;have Bz:=abj.trans (hbd.mono (aHw hs2 hs3));exact⟨rfl,⟨va,vl,_,_,iO pW 3 _,((BK.aw2 (y:=(y,q,())) hBr Bz hown1 abh hown5 iM qj ql (N:=λb=>w2.heap.size<=b/\b<w3.heap.size) (λb hb=>⟨lu,by have:=hbd.size;omega⟩)
    ⟨_,_,rfl,⟨rfl,y8⟩,_,_,rfl,dw.mono (λb hb=>⟨hb,hbd.block b hb.2⟩) _ _ _ hra,rfl⟩).set Zd)⟩,(((Kp.of hB hb1).below hB Bz).grown hB iM (λb e=>(BK.fd.lt e).1)).set⟩
theorem ayi(B P:Nat)(W:World)(x:bM)(b:List UInt8)(Q:b.length<=1048576)(l:G.ok W)(m:Held B P W x)(n:P<B)(i:B<=W.heap.size)(o:szX 2000000 x):
 Calls prog 213 #[.pointer (some ⟨P,0,none⟩),.string ⟨b.toArray⟩] W λe w'=>e=.returned (.bool (oI x (Sp.pieces 32 b)).2)/\Held B P w' (oI x (Sp.pieces 32 b)).1/\Kp B P W w':=by
 have C:=U1 32 b [];have C:0<(Sp.pieces 32 b).length:=C;obtain⟨d,r,q⟩:∃d r,Sp.pieces 32 b=(d,())::r:=by
  cases h:Sp.pieces 32 b with
  |nil=>rw[h]at C;exact absurd C (aIg _)
  |cons a r=>exact⟨a.1,r,rfl⟩
 rw[q];by_cases E:d=jF/\r.length=2
 .obtain⟨rfl,f⟩:=E
  match r,f with
  |[(y,_),(k,_)],_=>rw[au0];exact axi B P W x y k b Q q l m n i o.1
 by_cases O:d=wz/\r.length=1
 .obtain⟨rfl,f⟩:=O
  match r,f with
  |[(y,_)],_=>rw[axj];exact ayS B P W x y b Q q l m n i
 by_cases U:d=mY
 .subst U;rw[axk];exact ayU B P W x r b Q q l m n i o.2.1
 by_cases j:d=nJ/\2<=r.length
 .obtain⟨rfl,f⟩:=j
  match r,f with
  |(y,_)::r,f=>
   have f:0<r.length:=by rw[aHx]at f;omega
   rw[ayW _ _ _ f];exact az9 B P W x y r b Q q f l m n i o.2.2.2.1
 rw[axl x d r E O U j];refine aBT B P W x d r b Q q l m i ?_ ?_ U ?_
 .by_cases e:d=jF
  .exact .inr (aHt.2 λg=>E ⟨e,lu⟩)
  .exact .inl e
 .by_cases e:d=wz
  .exact .inr (aHt.2 λg=>O ⟨e,lu⟩)
  .exact .inl e
 .by_cases e:d=nJ
  .exact .inr λg=>j ⟨e,lu⟩
  .exact .inl e
def Oj(va vl vd:Value)(nx:Int):Value:=.agg #[va,vl,.int .i64 nx,vd]
def as5(x:bM):Arg:=.sv (.agg [.sl aj bC x.1 false,.sl ay aJ x.2.1 false,.int .i64 x.2.2.1,.sl aC aK x.2.2.2.1 false])
theorem Sn.aCZ(h:Sn B w va vl vd x F)(a:∀b,B<=b->b<w.heap.size->S b):
 dw w.heap S (.sl aj bC) va x.1/\dw w.heap S (.sl ay aJ) vl x.2.1/\dw w.heap S (.sl aC aK) vd x.2.2.2.1:=by
 have d:∀b,F b->S b:=λb J=>a b (h.foot b J).1 (h.foot b J).2.1;exact⟨h.fa.rep lZ λb J=>J.elim (d b) λe=>a b (h.fa.lt e).1 (h.fa.lt e).2,h.fl.rep lZ λb J=>J.elim (d b) λe=>a b (h.fl.lt e).1 (h.fl.lt e).2,h.fd.rep lZ λb J=>J.elim (d b) λe=>a b (h.fd.lt e).1 (h.fd.lt e).2⟩
theorem alc(h:Sn B w va vl vd x F):qH ⟨w,w.heap.size,λ_=>True,λ_=>undef,λ_=>none⟩ (as5 x) (Oj va vl vd x.2.2.1):=by obtain⟨a,d,f⟩:=h.aCZ (S:=V.dA ⟨w,w.heap.size,λ_=>True,λ_=>undef,λ_=>none⟩ false) λb _ J=>⟨⟨J,λ_=>trivial,λo x Z=>O6⟩,λe=>Q7⟩;exact⟨_,rfl,a,d,⟨rfl,h.nx⟩,f,trivial⟩
theorem aBC(h:Sn B w va vl vd x F)(Z:C9 x)(d:G.ok w):Calls prog 71 #[Oj va vl vd x.2.2.1] w λe w'=>e=.returned (.bool (dS x))/\Below w.heap.size w w':=by have L:fF prog G 71 (iw je.sh je.dF je.F):=tu.1;refine(L [as5 x] (C9 x) ⟨[(false,[.plain (.bool (dS x))])],none⟩ 0 (λ_=>True) #[Oj va vl vd x.2.2.1] w rfl Z d ⟨alc h,trivial⟩).mono ?_;rintro e w' ⟨v,b,rfl,E,O,U,j,M,a,_,_⟩;have a:v=.bool (dS x):=a;exact⟨by rw[a],E,O,U,j,M⟩
theorem aBD(h:Sn B w va vl vd x F)(Z:fJ x)(f:G.ok w):Calls prog 75 #[Oj va vl vd x.2.2.1] w λe w'=>∃v,e=.returned v/\FW w'.heap.size w' v (Sp.enc x)/\Below w.heap.size w w':=by have L:fF prog G 75 (iw jT.sh jT.dF jT.F):=BF.1;refine(L [as5 x] (fJ x) _ 0 (λ_=>True) #[Oj va vl vd x.2.2.1] w rfl Z f ⟨alc h,trivial⟩).mono ?_;rintro e w' ⟨v,d,rfl,E,O,U,j,M,a,_,_⟩;have a:dw w'.heap _ (.sl bF dZ) v (Sp.enc x):=a;exact⟨v,rfl,dw.mono (λb J=>⟨J.1.1,rfl⟩) _ _ _ a,E,O,U,j,M⟩
theorem avv{u:Value}{a b:Sp.LS}(i:FW w.heap.size w u a)(J:FW w.heap.size w v b)(h:G.ok w):Calls prog 74 #[u,v] w λe w'=>e=.returned (.bool (decide (a=b)))/\Below w.heap.size w w':=by have L:fF prog G 74 (iw kW.sh kW.dF kW.F):=KL.1;refine(L [.sv (.one (.sl bF dZ a false)),.sv (.one (.sl bF dZ b false))] True ⟨[(false,[.plain (.bool (decide (a=b)))])],none⟩ 0 (λ_=>True) #[u,v] w rfl trivial h ⟨AX i,AX J,trivial⟩).mono ?_;rintro e w' ⟨v,f,rfl,E,O,U,j,M,d,_,_⟩;have d:v=.bool (decide (a=b)):=d;exact⟨by rw[d],E,O,U,j,M⟩
def Gives(W w':World)(e:Ending)(x:bM)(a:Bool):Prop:=
 ∃va vl vd,e=.returned (.tuple #[Oj va vl vd x.2.2.1,.bool a])/\Below W.heap.size W w'/\wZ x.2.2.1/\dw w'.heap (λb=>W.heap.size<=b/\b<w'.heap.size) (.sl aj bC) va x.1/\
  dw w'.heap (λb=>W.heap.size<=b/\b<w'.heap.size) (.sl ay aJ) vl x.2.1/\dw w'.heap (λb=>W.heap.size<=b/\b<w'.heap.size) (.sl aC aK) vd x.2.2.2.1
theorem Oi(h:Below W.heap.size W w'):Gives W w' (.returned (.tuple #[.agg #[.slice none 0 0,.slice none 0 0,.int .i64 0,.slice none 0 0],.bool false])) gu false:=
 ⟨_,_,_,rfl,h,⟨lZ,lZ⟩,⟨aHV _,.inl ⟨rfl,none,0,rfl⟩⟩,⟨aHV _,.inl ⟨rfl,none,0,rfl⟩⟩,⟨aHV _,.inl ⟨rfl,none,0,rfl⟩⟩⟩
theorem as4(i:W.heap.size<=B)(h:Below W.heap.size W w')(X:Sn B w' va vl vd x F):Gives W w' (.returned (.tuple #[.agg #[va,vl,.int .i64 x.2.2.1,vd],.bool true])) x true:=by obtain⟨a,d,f⟩:=X.aCZ (S:=λb=>W.heap.size<=b/\b<w'.heap.size) λb E O=>⟨lu,O⟩;exact⟨va,vl,vd,rfl,h,X.nx,a,d,f⟩
theorem Kp.low{a:World}(h:Kp (W.heap.size+2) P a w)(d:W.heap.size<=P)(k:Below W.heap.size W a):Below W.heap.size W w:=
 ⟨h.os.trans k.os,h.tape.trans k.tape,h.output.trans k.output,aHw k.size h.size,λb J=>(h.block b lu lu).trans (k.block b J)⟩
def CU:Array Value:=#[.slice none 0 0,.slice none 0 0,.int .i64 0,.slice none 0 0]
theorem Sn.zero(B:Nat)(w:World):Sn B w (.slice none 0 0) (.slice none 0 0) (.slice none 0 0) gu λ_=>False:=
 ⟨OL.nil,OL.nil,OL.nil,⟨lZ,lZ⟩,λg=>⟨λe=>Q7,λe=>Q7⟩,λb J=>J.elim⟩
theorem azF(w:World)(o p:Obj):((w.alloc o).alloc p).heap[w.heap.size+1]? =some p:=by have:=aH6 (w.alloc o) p;rw[show(w.alloc o).heap.size=w.heap.size+1 from vk]at this;exact this
theorem box1(w:World)(o p:Obj):((w.alloc o).alloc p).heap[w.heap.size]? =some o:=(heap_alloc_old _ p vk).trans (aH6 w o)
theorem below2(w:World)(o p:Obj):Below w.heap.size w ((w.alloc o).alloc p):=((Below.refl _ _).alloc (aHv _) o).alloc vk p
theorem aiN(w:World)(o p:Obj):((w.alloc o).alloc p).heap.size=w.heap.size+2:=vk
theorem Kp.trans{a b c:World}(h:Kp B P a b)(k:Kp B P b c):Kp B P a c:=
 ⟨k.os.trans h.os,k.tape.trans h.tape,k.output.trans h.output,aHw h.size k.size,λx Z H=>(k.block x Z H).trans (h.block x Z H)⟩
theorem aBA{ls:Sp.LS}(h:(jL gu ls).2=true)(k:(dS (jL gu ls).1&&decide (Sp.enc (jL gu ls).1=ls))=false):Sp.dec ls=(gu,false):=by rw[← aiO];unfold as2;rw[h,k];rfl
theorem azG{ls:Sp.LS}(h:(jL gu ls).2=true)(a:dS (jL gu ls).1=true)(b:decide (Sp.enc (jL gu ls).1=ls)=true):Sp.dec ls=((jL gu ls).1,true):=by rw[← aiO];unfold as2;rw[h,a,b];rfl
theorem FW.keep'{f:Sp.LS}(h:FW W.heap.size W v f)(k:Below W.heap.size W w):FW w.heap.size w v f:=dw.mono (λb J=>⟨aHR J k.size,k.block b J⟩) _ _ _ h
def uo(w:World)(g:Nat)(y0 y1 y2 y3:Value):World:=(((w.setCell ⟨g,0,none⟩ y0).setCell ⟨g,1,none⟩ y1).setCell ⟨g,2,none⟩ y2).setCell ⟨g,3,none⟩ y3
variable {y0 y1 y2 y3:Value}
theorem yw{k a b d:Value}{t:TypeId}(h:w.heap[g]? =some (.cells #[k,a,b,d] t (0,0))):(uo w g y0 y1 y2 y3).heap[g]? =some (.cells #[y0,y1,y2,y3] t (0,0)):=
 iO (iO (iO (iO h 0 y0) 1 y1) 2 y2) 3 y3
theorem uM(h:Below W.heap.size W w)(d:W.heap.size<=g):Below W.heap.size W (uo w g y0 y1 y2 y3):=(((h.setCell d _).setCell d _).setCell d _).setCell d _
theorem aoj(h:Sn B w va vl vd x F)(d:g<B):Sn B (uo w g y0 y1 y2 y3) va vl vd x F:=(((h.set d).set d).set d).set d
set_option maxHeartbeats 16000000 in
theorem aBB(ls:Sp.LS)(v:Value)(W:World)(hv:FW W.heap.size W v ls)(hfit:Et ls)(hG:G.ok W):Calls prog 170 #[v] W λe w'=>Gives W w' e (Sp.dec ls).1 (Sp.dec ls).2:=by
 have mixed:=Tryz.mixed;obtain⟨aEh,hlx⟩:=hfit;obtain⟨al,cl,rfl⟩:=oH hv;have hbase:=below2 W (Obj.cells CU 61 (0,0)) (Obj.cells CU 61 (0,0));have hsize:=aiN W (Obj.cells CU 61 (0,0)) (Obj.cells CU 61 (0,0));have hN0:=box1 W (Obj.cells CU 61 (0,0)) (Obj.cells CU 61 (0,0));have hdec:∀z,Sp.dec ls=z->Sp.dec ls=z:=λ_ h=>h
 go_enter Tryz.func170,Tryz.ntmps170
 go_wp2
 go_loopw [10] (λi wr=>∃n:Nat,n<=ls.length/\i=.int .i64 n/\(jL gu (ls.take n)).2=true/\szX n (jL gu (ls.take n)).1/\Held (W.heap.size+2) (W.heap.size+1) wr (jL gu (ls.take n)).1/\Kp (W.heap.size+2) (W.heap.size+1) ((W.alloc (Obj.cells CU 61 (0,0))).alloc (Obj.cells CU 61 (0,0))) wr)
  (λi _=>ls.length-(intOf i).toNat)
 case atStart=>exact⟨0,aHV _,rfl,rfl,as3,⟨_,_,_,_,azF W _ _,Sn.zero _ _⟩,rfl,rfl,rfl,aHv _,λ_ _ _=>rfl⟩
 case round=>
  obtain⟨n,hn,rfl,hok,hsz,hH,hK⟩:=hrel;have hlow:=hK.low lu hbase;have hGr:G.ok wr:=fC hG hlow;have hwr:=hK.size;rw[hsize]at hwr;rcases aHU n ls.length with hlt|hge
  .have hlt':((n:Nat):Int)<ls.length:=lu;obtain⟨bl,off,rfl,hbl,hcl⟩:=hv.cell hlt;have hcl:=(aIE (a:=⟨bl,off+n,none⟩) (hlow.block bl hbl)).trans hcl;have hLl:=hlx _ (getD_in (d:=([],())) hlt);have hnext:=ayg hlt hok;have hstop:=azH (l:=ls) (n:=n+1);rw[hnext]at hstop;have aac:szX (n+1) (oI (jL gu (ls.take n)).1 (Sp.pieces 32 (ls.getD n ([],())).1)).1:=ayh hsz (by have:=Sp.pieces_len 32 (ls.getD n ([],())).1;omega);generalize (ls.getD n ([],())).1=L at hcl hLl hnext hstop aac;have rr:=ayi (W.heap.size+2) (W.heap.size+1) wr _ L hLl hGr hH lu hwr ⟨aHw hsz.1 lu,aHw hsz.2.1 lu,hsz.2.2.1,aHw hsz.2.2.2.1 lu,hsz.2.2.2.2⟩;generalize oI (jL gu (ls.take n)).1 (Sp.pieces 32 L)=z at rr hnext hstop aac;obtain⟨x',b⟩:=z;dsimp only at rr hstop aac;cases b with
   |false=>
    have hd:=hstop rfl;clear hstop hnext
    go_wp2_with (first
     |(go_at_call 213;refine aHY rr ?_;rintro e w' ⟨rfl,-,hK'⟩;have hKK:=hK.trans hK';have hlow':=hKK.low lu hbase;have hq:=(hKK.block W.heap.size lu lu).trans hN0;obtain⟨⟨d0,d1,d2,d3⟩,z0,z1,z2,z3⟩:=four hq))
    all_goals (try simp only[Exit.inBlock,Exit.then])
    have r9:=yw (y0:=.slice none 0 0) (y1:=.slice none 0 0) (y2:=.int .i64 0) (y3:=.slice none 0 0) hq;have MR:=uM (y0:=.slice none 0 0) (y1:=.slice none 0 0) (y2:=.int .i64 0) (y3:=.slice none 0 0) hlow' (aHv _);unfold uo at r9 MR;clear d0 d1 d2 d3 z0 z1 z2 z3;refine aIv (v:=.tuple #[.agg #[.slice none 0 0,.slice none 0 0,.int .i64 0,.slice none 0 0],.bool false]) ?_ rfl aiq;obtain⟨⟨d0,d1,d2,d3⟩,z0,z1,z2,z3⟩:=four r9;rw[aIW rfl]
    go_simp
   |true=>
    go_wp2_with (first
     |(go_at_call 213;refine aHY rr ?_;rintro e w' ⟨rfl,hH',hK'⟩))
    exact⟨⟨n+1,hlt,rfl,by rw[hnext],by rw[hnext];exact aac,by rw[hnext];exact hH',hK.trans hK'⟩,by simp only[intOf];omega⟩
  .have hge':¬((n:Nat):Int)<ls.length:=lu;obtain rfl:n=ls.length:=lu;rw[aH4]at hok hsz hH;have hbg:=avu hsz lu;obtain⟨va,vl,vd,F,hP,AU⟩:=hH;have hdb:=aBA hok;have hdg:=azG hok;generalize (jL gu ls).1=x at hsz hbg hP AU hdb hdg;have hPl:=(aHz.1 hP).1;have hq:=(hK.block W.heap.size lu lu).trans hN0;have vs:=aBC AU hbg hGr;unfold Oj at vs;obtain⟨⟨d0,d1,d2,d3⟩,z0,z1,z2,z3⟩:=four hP;cases hval:dS x with
   |false=>
    rw[hval]at vs hdb;have hd:=hdb rfl
    go_wp2_with (first
     |(go_at_call 71;refine aHY vs ?_;rintro e w5 ⟨rfl,hb5⟩;have wX:=hlow.trans (hb5.mono hlow.size);have hq5:=(hb5.block W.heap.size lu).trans hq;clear d0 d1 d2 d3 z0 z1 z2 z3;obtain⟨⟨d0,d1,d2,d3⟩,z0,z1,z2,z3⟩:=four hq5))
    all_goals (try simp only[Exit.inBlock,Exit.then])
    have r9:=yw (y0:=.slice none 0 0) (y1:=.slice none 0 0) (y2:=.int .i64 0) (y3:=.slice none 0 0) hq5;have MR:=uM (y0:=.slice none 0 0) (y1:=.slice none 0 0) (y2:=.int .i64 0) (y3:=.slice none 0 0) wX (aHv _);unfold uo at r9 MR;clear d0 d1 d2 d3 z0 z1 z2 z3;refine aIv (v:=.tuple #[.agg #[.slice none 0 0,.slice none 0 0,.int .i64 0,.slice none 0 0],.bool false]) ?_ rfl aiq;obtain⟨⟨d0,d1,d2,d3⟩,z0,z1,z2,z3⟩:=four r9;rw[aIW rfl]
    go_simp
   |true=>
    rw[hval]at vs hdb;have es:=λw(hs:Sn (W.heap.size+2) w va vl vd x F) hG=>aBD hs (Mc hval) hG;unfold Oj at es;cases heq:decide (Sp.enc x=ls)with
    |false=>
     rw[heq]at hdb;have hd:=hdb rfl
     go_wp2_with (first
      |(go_at_call 71;refine aHY vs ?_;rintro e w5 ⟨rfl,hb5⟩;have wX:=hlow.trans (hb5.mono hlow.size);have pW:=(hb5.block _ hPl).trans hP;clear d0 d1 d2 d3 z0 z1 z2 z3;obtain⟨⟨d0,d1,d2,d3⟩,z0,z1,z2,z3⟩:=four pW)
      |(go_at_call 75;refine aHY (es w5 (AU.below hb5) (fC hG wX)) ?_;rintro e w6 ⟨v6,rfl,YG,hb6⟩;obtain⟨a6,c6,e6⟩:=oH YG;subst e6;have Uu:=hb5.trans (hb6.mono hb5.size);have wY:=wX.trans (hb6.mono wX.size))
      |(go_at_call 74;refine aHY (avv YG (hv.keep' wY) (fC hG wY)) ?_;rintro e w7 ⟨rfl,hb7⟩;rw[heq];have Uw:=Uu.trans (hb7.mono Uu.size);have aad:=wY.trans (hb7.mono wY.size);have hq7:=(Uw.block W.heap.size lu).trans hq;clear d0 d1 d2 d3 z0 z1 z2 z3;obtain⟨⟨d0,d1,d2,d3⟩,z0,z1,z2,z3⟩:=four hq7))
     all_goals (try simp only[Exit.inBlock,Exit.then])
     have r9:=yw (y0:=.slice none 0 0) (y1:=.slice none 0 0) (y2:=.int .i64 0) (y3:=.slice none 0 0) hq7;have MR:=uM (y0:=.slice none 0 0) (y1:=.slice none 0 0) (y2:=.int .i64 0) (y3:=.slice none 0 0) aad (aHv _);unfold uo at r9 MR;clear d0 d1 d2 d3 z0 z1 z2 z3;refine aIv (v:=.tuple #[.agg #[.slice none 0 0,.slice none 0 0,.int .i64 0,.slice none 0 0],.bool false]) ?_ rfl aiq;obtain⟨⟨d0,d1,d2,d3⟩,z0,z1,z2,z3⟩:=four r9;rw[aIW rfl]
     go_simp
    |true=>
     have hd:=hdg hval heq;obtain⟨aa,ca,rfl⟩:=AU.fa.form;obtain⟨ab,cb,rfl⟩:=AU.fl.form;obtain⟨ad,cd,rfl⟩:=AU.fd.form
     go_wp2_with (first
      |(go_at_call 71;refine aHY vs ?_;rintro e w5 ⟨rfl,hb5⟩;have wX:=hlow.trans (hb5.mono hlow.size);have pW:=(hb5.block _ hPl).trans hP;clear d0 d1 d2 d3 z0 z1 z2 z3;obtain⟨⟨d0,d1,d2,d3⟩,z0,z1,z2,z3⟩:=four pW)
      |(go_at_call 75;refine aHY (es w5 (AU.below hb5) (fC hG wX)) ?_;rintro e w6 ⟨v6,rfl,YG,hb6⟩;obtain⟨a6,c6,e6⟩:=oH YG;subst e6;have Uu:=hb5.trans (hb6.mono hb5.size);have wY:=wX.trans (hb6.mono wX.size))
      |(go_at_call 74;refine aHY (avv YG (hv.keep' wY) (fC hG wY)) ?_;rintro e w7 ⟨rfl,hb7⟩;rw[heq];have Uw:=Uu.trans (hb7.mono Uu.size);have aad:=wY.trans (hb7.mono wY.size);have hq7:=(Uw.block W.heap.size lu).trans hq;have hP7:=(Uw.block _ hPl).trans hP;have azI:=AU.below Uw;clear d0 d1 d2 d3 z0 z1 z2 z3;obtain⟨⟨d0,d1,d2,d3⟩,z0,z1,z2,z3⟩:=four hq7;obtain⟨⟨p0,p1,p2,p3⟩,y0,y1,y2,y3⟩:=four hP7))
     all_goals (try simp only[Exit.inBlock,Exit.then])
     have r9:=yw (y0:=.slice aa x.1.length ca) (y1:=.slice ab x.2.1.length cb) (y2:=.int .i64 x.2.2.1) (y3:=.slice ad x.2.2.2.1.length cd) hq7;have MR:=uM (y0:=.slice aa x.1.length ca) (y1:=.slice ab x.2.1.length cb) (y2:=.int .i64 x.2.2.1) (y3:=.slice ad x.2.2.2.1.length cd) aad (aHv _);have hs9:=aoj (y0:=.slice aa x.1.length ca) (y1:=.slice ab x.2.1.length cb) (y2:=.int .i64 x.2.2.1) (y3:=.slice ad x.2.2.2.1.length cd) azI (show W.heap.size<W.heap.size+2 from lu);unfold uo at r9 MR hs9;clear d0 d1 d2 d3 z0 z1 z2 z3;refine aIv (v:=.tuple #[.agg #[.slice aa x.1.length ca,.slice ab x.2.1.length cb,.int .i64 x.2.2.1,.slice ad x.2.2.2.1.length cd],.bool true]) ?_ rfl (by rw[hd];exact as4 lu MR hs9);obtain⟨⟨d0,d1,d2,d3⟩,z0,z1,z2,z3⟩:=four r9;rw[aIW rfl]
     go_simp
theorem Xo:fF prog G DV zA:=by
 intro args p i k S I w n C s d;unfold zA iw zf at n;split at n
 .next x Z=>
  obtain⟨ls,⟨⟩⟩:=x;have K:=Ig Bj args _ I.toList Z d
  match hvs:I.toList,K with
  |[v],K=>
   have m:dw w.heap _ (.sl bF dZ) v ls:=K.1;have T:I=#[v]:=by obtain⟨l⟩:=I;simp at hvs;rw[hvs]
   subst T;have j:=Option.some.inj n;have f:p=Et ls:=(congrArg Prod.fst j).symm;have a:i=⟨[(true,[.plain (.sl aj bC (Sp.dec ls).1.1 false),.plain (.sl ay aJ (Sp.dec ls).1.2.1 false),.plain (.int .i64 (Sp.dec ls).1.2.2.1),.plain (.sl aC aK (Sp.dec ls).1.2.2.2.1 false)]),(false,[.plain (.bool (Sp.dec ls).2)])],none⟩:=(congrArg Prod.snd j).symm;subst f a;refine(aBB ls v w (dw.mono (λb J=>⟨J.1.1,rfl⟩) _ _ _ m) C s).mono ?_;rintro e w' ⟨va,vl,vd,rfl,J,H,t,u,z⟩;refine⟨_,λ_=>undef,rfl,J.os,J.tape,J.output,J.size,J.block,?_,(λo x Z=>O6),(λo x q y b Z=>O6)⟩;exact⟨_,rfl,⟨_,rfl,dw.mono (λb J=>⟨⟨⟨J.2,λh=>absurd h (aJC.2 J.1),λo x Z=>O6⟩,λe=>Q7⟩,rfl⟩) _ _ _ t,dw.mono (λb J=>⟨⟨⟨J.2,λh=>absurd h (aJC.2 J.1),λo x Z=>O6⟩,λe=>Q7⟩,rfl⟩) _ _ _ u,⟨rfl,H⟩,dw.mono (λb J=>⟨⟨⟨J.2,λh=>absurd h (aJC.2 J.1),λo x Z=>O6⟩,λe=>Q7⟩,rfl⟩) _ _ _ z,trivial⟩,rfl,trivial⟩
 .cases n
end Go.Proofs.Tryz
namespace Go.Proofs.Tryz
open Go Go.Fw Go.IntWalk Sp
set_option maxRecDepth 100000
theorem aqf{s:List UInt8}(h:fV s):Et (Sp.inner (Sp.pieces 10 s)):=by unfold Sp.inner;refine⟨?_,λx Z=>aHw (Il x (aI7 (aJQ Z))) h⟩;have:=Sp.pieces_len 10 s;have h:s.length<=1048576:=h;rw[aH7,aHP];omega
theorem aEi(x:bM):Sp.slot 0 x=[]:=by unfold Sp.slot;rw[aHD lu,aIO,aH8];rfl
theorem adX:OK Cc.e:=by
 refine aO [BZ.e,(DV,.pure zA),(yu,.pure uS),(Oa,.pure JS)] ⟨adY,⟨Xo,Ve⟩,⟨CP,Io⟩,⟨Um,af0⟩,⟨⟩⟩ H0 λs=>show Cc.goal (QG s) (s,())fromλN C=>?_
 dsimp only[Cc]at C ⊢;have C:fV s:=C;have Q:=avw C;dsimp only[QG];rw[show([10]:List UInt8).getD 0 0=10 from rfl,show(1:Int).toNat=1 from rfl,show(0:Int).toNat=0 from rfl];refine⟨⟨lu,.inr rfl⟩,af (λh=>?_) λh=>?_⟩
 .have h:=fG h;unfold aW;rw[aHD lu];rfl
 have h:=fK h;have O:2<=(Sp.pieces 10 s).length:=lu;have L:=Sp.pieces_len 10 s;have i:IntKind.i64.wrap (((Sp.pieces 10 s).length:Int)-1)=(((Sp.pieces 10 s).length-1:Nat):Int):=by rw[wrap_in lu];omega
 have f:List.drop 1 (List.take ((Sp.pieces 10 s).length-1) (Sp.pieces 10 s))=Sp.inner (Sp.pieces 10 s):=rfl;have d:s≠[]:=λe=>by rw[e]at O;exact absurd O lZ
 have H:bW ((Sp.pieces 10 s).getD 0 ([],())).1=false->decide (Sp.slot (Sp.parseNum ((Sp.pieces 10 s).getD 0 ([],())).1) (Sp.dec (Sp.inner (Sp.pieces 10 s))).1=s)=false:=λe=>by rw[F7 e,aEi];exact aHD λT=>d T.symm
 have j:aW s=bif (Sp.dec (Sp.inner (Sp.pieces 10 s))).2&&decide (Sp.slot (Sp.parseNum ((Sp.pieces 10 s).getD 0 ([],())).1) (Sp.dec (Sp.inner (Sp.pieces 10 s))).1=s)then(Sp.parseNum ((Sp.pieces 10 s).getD 0 ([],())).1,(Sp.dec (Sp.inner (Sp.pieces 10 s))).1,true)else(0,gu,false):=by unfold aW;rw[aHF O];rfl
 rw[i,aHB,f,j];refine⟨⟨lZ,lu⟩,trivial,⟨lZ,lu,lu⟩,aqf C,af (λg=>?_) λg=>af (λb=>?_) λb=>⟨aqg _,af (λa=>?_) λa=>?_⟩⟩
 .rw[H (dD g),aH8];rfl
 .rw[dD b];rfl
 .have a:(Sp.slot (Sp.parseNum ((Sp.pieces 10 s).getD 0 ([],())).1) (Sp.dec (Sp.inner (Sp.pieces 10 s))).1==s)=false:=dD a;rw[aHD (aHt.1 a),aH8];rfl
 .have a:(Sp.slot (Sp.parseNum ((Sp.pieces 10 s).getD 0 ([],())).1) (Sp.dec (Sp.inner (Sp.pieces 10 s))).1==s)=true:=bI a;rw[aHF (aHE.1 a),bI b];rfl
theorem adZ:OK Ce.e:=by
 refine aO [Cc.e] ⟨adX,⟨⟩⟩ H0 λa b=>show Ce.goal (ad1 a b) ((a,b,()),())fromλN C=>?_
 dsimp only[Ce]at C ⊢;obtain⟨f,J⟩:fV a/\fV b:=C;refine⟨f,J,?_⟩;dsimp only;unfold Sp.latest;refine af (λg=>?_) λg=>?_
 .rw[g];refine af (λd=>?_) λd=>af (λe=>?_) λe=>?_
  .rw[d];rfl
  .rw[aHF (show(aW a).1<(aW b).1 from fG e),Bool.or_true];rfl
  .rw[d,aHD (show ¬(aW a).1<(aW b).1 from fK e)];rfl
 .rw[g];rfl
theorem KI:OK qB.e:=by
 refine aO [Ce.e] ⟨adZ,⟨⟩⟩ H0 λa b=>show qB.goal (Xp a b) ((a,b,()),())fromλN C=>?_
 dsimp only[qB]at C ⊢;exact⟨C,rfl⟩
end Go.Proofs.Tryz
namespace Go.Proofs.Tryz
open Go Go.Fw Go.RowKit Sp
set_option maxRecDepth 100000
theorem azJ(s:List UInt8)(X:s.length<=1048576)(w:World)(k:G.ok w):Calls prog 240 #[.string ⟨s.toArray⟩] w λe d=>
 ∃a c,e=.returned (.tuple #[.slice a (iI s).length c,.bool (lQ s)])/\FW d.heap.size d (.slice a (iI s).length c) (iI s)/\Below w.heap.size w d:=by
 have L:fF prog G 240 (iw nN.sh nN.dF nN.F):=OZ.1;refine(L [.sv (.one (.str s))] (s.length<=1048576) _ 0 (λ_=>True) #[.string ⟨s.toArray⟩] w rfl X k ⟨⟨rfl,y8⟩,trivial⟩).mono ?_;rintro e d ⟨v,h,rfl,E,O,U,j,M,i,_,_⟩;obtain⟨I,rfl,f⟩:=i;obtain⟨l⟩:=I
 match l,f with
 |[x,y],f=>obtain⟨Z,B,_⟩:=f;have Z:dw d.heap _ (.sl bF dZ) x (iI s):=Z;have B:y=.bool (lQ s):=B;obtain⟨a,c,g⟩:=oH Z;rw[g]at Z;rw[B,g];exact⟨a,c,rfl,dw.mono (λb J=>⟨J.1.1,rfl⟩) _ _ _ Z,E,O,U,j,M⟩
variable {w:World}
theorem Jw{v:Value}{f:Sp.LS}(K:FW w.heap.size w v f){i:Int}(S:0<=i)(E:i<=100000)(g:G.ok w):Calls prog 241 #[v,.int .i64 i] w λe d=>e=.returned (.string ⟨(Sp.wordAt f i).toArray⟩)/\Below w.heap.size w d:=by have L:fF prog G 241 (iw oq.sh oq.dF oq.F):=Ol.1;refine(L [.sv (.one (.sl bF dZ f false)),.sv (.one (.int .i64 i))] (0<=i) _ 0 (λ_=>True) #[v,.int .i64 i] w rfl S g ⟨AX K,⟨rfl,by show -9223372036854775808<=i;omega,by show i<=9223372036854775807;omega⟩,trivial⟩).mono ?_;rintro e d ⟨v,b,rfl,E,O,U,j,M,a,_,_⟩;have a:v=.string ⟨(Sp.wordAt f i).toArray⟩/\_:=a;exact⟨by rw[a.1],E,O,U,j,M⟩
theorem afI{v:Value}{f:Sp.LS}(K:FW w.heap.size w v f){i:Int}(S:0<=i)(E:i<=100000)(g:G.ok w):Calls prog 242 #[v,.int .i64 i] w λe d=>e=.returned (.int .i64 (Sp.numAt f i))/\Below w.heap.size w d:=by have L:fF prog G 242 (iw zK.sh zK.dF zK.F):=aok.1;refine(L [.sv (.one (.sl bF dZ f false)),.sv (.one (.int .i64 i))] (0<=i) _ 0 (λ_=>True) #[v,.int .i64 i] w rfl S g ⟨AX K,⟨rfl,by show -9223372036854775808<=i;omega,by show i<=9223372036854775807;omega⟩,trivial⟩).mono ?_;rintro e d ⟨v,b,rfl,E,O,U,j,M,a,_,_⟩;have a:v=.int .i64 (Sp.numAt f i)/\_:=a;exact⟨by rw[a.1],E,O,U,j,M⟩
theorem azK(s:List UInt8)(X:s.length<=1048576)(w:World)(q:G.ok w):Calls prog 243 #[.string ⟨s.toArray⟩] w λe i=>
 e=.returned (.tuple #[.agg #[.int .i64 (bU s).1.1,.int .i64 (bU s).1.2.1,.string ⟨(bU s).1.2.2.1.toArray⟩],.bool (bU s).2])/\Below w.heap.size w i/\wZ (bU s).1.1/\wZ (bU s).1.2.1/\(bU s).1.2.2.1.length<=maxLen:=by
 have L:fF prog G 243 (iw mD.sh mD.dF mD.F):=QI.1;refine(L [.sv (.one (.str s))] (s.length<=1048576) _ 0 (λ_=>True) #[.string ⟨s.toArray⟩] w rfl X q ⟨⟨rfl,y8⟩,trivial⟩).mono ?_;rintro e i ⟨v,h,rfl,E,O,U,j,M,o,_,_⟩;obtain⟨I,rfl,d⟩:=o;obtain⟨l⟩:=I
 match l,d with
 |[a,b],d=>
  obtain⟨⟨u,n,f⟩,g,_⟩:=d;obtain⟨r⟩:=u
  match r,f with
  |[x,y,z],f=>obtain⟨t,k,m,_⟩:=f;have g:b=.bool (bU s).2:=g;rw[n,g,t.1,k.1,m.1];exact⟨rfl,⟨E,O,U,j,M⟩,t.2,k.2,m.2⟩
theorem azL(s:List UInt8)(X:s.length<=1048576)(w:World)(k:G.ok w):Calls prog 244 #[.string ⟨s.toArray⟩] w λe d=>
 ∃a c,e=.returned (.tuple #[.slice a (iJ s).length c,.bool (iE s)])/\Below w.heap.size w d/\dw d.heap (λb=>w.heap.size<=b/\b<d.heap.size) (.sl aS dR) (.slice a (iJ s).length c) (iJ s):=by
 have n:fF prog G 244 (iw su.sh su.dF su.F):=ad2.1;refine(n [.sv (.one (.str s))] (s.length<=1048576) _ 0 (λ_=>False) #[.string ⟨s.toArray⟩] w rfl X k ⟨⟨rfl,y8⟩,trivial⟩).mono ?_;rintro e d ⟨v,h,rfl,E,O,U,j,M,i,_,_⟩;obtain⟨I,rfl,f⟩:=i;obtain⟨l⟩:=I
 match l,f with
 |[x,y],f=>obtain⟨Z,B,_⟩:=f;have Z:dw d.heap _ (.sl aS dR) x (iJ s):=Z;have B:y=.bool (iE s):=B;obtain⟨a,c,g⟩:=oH Z;rw[g]at Z;rw[B,g];exact⟨a,c,rfl,⟨E,O,U,j,M⟩,dw.mono (λb J=>⟨⟨Nat.le_of_not_lt J.1.2.1,J.1.1⟩,rfl⟩) _ _ _ Z⟩
theorem aBE(v:Value)(f:Sp.LS)(w:World)(K:FW w.heap.size w v f)(q:f.length<=1000)(h:(gI f).length<=2097152)(g:G.ok w):Calls prog 245 #[v] w λe d=>
 e=.returned (.string ⟨(gI f).toArray⟩)/\Below w.heap.size w d:=by
 have n:fF prog G 245 (iw ug.sh ug.dF ug.F):=V9.1;refine(n [.sv (.one (.sl bF dZ f false))] (f.length<=1000/\(gI f).length<=2097152) _ 0 (λ_=>True) #[v] w rfl ⟨q,h⟩ g ⟨AX K,trivial⟩).mono ?_;rintro e d ⟨v,b,rfl,E,O,U,j,M,a,_,_⟩;have a:v=.string ⟨(gI f).toArray⟩/\_:=a;rw[a.1];exact⟨rfl,E,O,U,j,M⟩
def Back(B:Nat)(W w':World)(e:Ending)(x:bM):Prop:=∃a d b F,e=.returned (Oj a d b x.2.2.1)/\Sn B w' a d b x F/\Kp B B W w'
theorem aae{B:Nat}{W:World}(a:B<=W.heap.size)(k:Below W.heap.size W w):Kp B B W w:=⟨k.os,k.tape,k.output,k.size,λb J _=>k.block b lu⟩
theorem ahz{a:List UInt8}:(iI a).length<=24/\∀y∈iI a,y.1.length<=600:=by
 unfold iI;cases h:lQ a with
 |false=>exact⟨aHV _,λy B=>by cases B⟩
 |true=>have X:=uN.1 h;refine⟨?_,λy B=>aHw (aaf y B) X.1⟩;show(Sp.wordsOf a).length<=24;rw[yx];exact X.2.2
end Go.Proofs.Tryz
