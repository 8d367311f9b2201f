import Derived.Test.YtpipombdnmdimaaGreatDoorP152
import Derived.Deep.AppendLies
import Derived.Deep.RegionLaw
import Derived.BigRegion
import Derived.Test.YtpipombdnmdimaaGreatDoorSp
import Derived.Test.YtpipombdnmdimaaGreatDoorV25
namespace Go.Proofs.Tryz
open Go Go.Fw Go.RowKit Sp
variable {w:World}{g:Nat}{cur:Array Value}{fz:Nat×Nat}
theorem aZ{t:TypeId}(h:w.heap[g]? =some (.cells cur t fz))(k:Nat):w.cell? ⟨g,k,none⟩=cur[k]? :=by simp[World.cell?,h]
theorem eY{t:TypeId}(h:w.heap[g]? =some (.cells cur t (0,0)))(k:Nat):w.frozen? ⟨g,k,none⟩=false:=by simp[World.frozen?,h]
theorem iO{t:TypeId}(h:w.heap[g]? =some (.cells cur t fz))(k:Nat)(v:Value):(w.setCell ⟨g,k,none⟩ v).heap[g]? =some (.cells (cur.setIfInBounds k v) t fz):=by simp only[World.setCell,Array.getElem?_modify,if_pos,h];rfl
theorem pz{p:Addr}{b:Nat}(v:Value)(h:b≠p.block):(w.setCell p v).heap[b]? =w.heap[b]? :=by simp only[World.setCell,Array.getElem?_modify,if_neg (aJB h)]
def FW(B:Nat)(W:World)(v:Value)(f:Sp.LS):Prop:=dw W.heap (λb=>b<B) (.sl bF dZ) v f
structure Step(W w':World)(P:Nat)(own:Option Nat):Prop where
 os:w'.os=W.os
 tape:w'.tape=W.tape
 output:w'.output=W.output
 size:W.heap.size<=w'.heap.size
 block:∀b,b<W.heap.size->b≠P->own≠some b->w'.heap[b]? =W.heap[b]?
variable {B:Nat}{W w':World}{v:Value}{f:Sp.LS}
theorem FW.keep(h:FW B W v f)(u:∀b,b<B->w'.heap[b]? =W.heap[b]?):FW B w' v f:=by
 refine⟨h.1,?_⟩;rcases h.2 with O|⟨b,m,y,A,t,fz,E,O,U,j,M⟩
 .exact .inl O
 .exact .inr ⟨b,m,y,A,t,fz,E,O,U,(u b U).trans j,λi x Z=>aY.flat (S:=λb=>b<B) _ _ _ rfl (M i x Z)⟩
set_option maxHeartbeats 4000000 in
set_option maxRecDepth 100000 in
theorem Eb(B P:Nat)(W:World)(vf vn:Value)(f:Sp.LS)(OD:B<=P)(hP:W.heap[P]? =some (.cells #[vf,vn] 332 (0,0)))(hf:FW B W vf f):
 Calls prog 336 #[.pointer (some ⟨P,0,none⟩)] W λe w'=>e=.returned (.string ⟨(Sp.wordAt f 0).toArray⟩)/\∃RN,FW B w' RN (f.drop 1)/\w'.heap[P]? =some (.cells #[RN,vn] 332 (0,0))/\Step W w' P none:=by
 have mixed:=Tryz.mixed;have c0:W.cell? ⟨P,0,none⟩=some vf:=aZ hP 0;have z0:W.frozen? ⟨P,0,none⟩=false:=eY hP 0;obtain⟨hml,hcase⟩:=id hf;rcases hcase with⟨e1,a,c,rfl⟩|⟨b,off,cap,cs,t,fz,rfl,hcap,hb,hbl,hx⟩
 .subst e1
  go_enter Tryz.func336,Tryz.ntmps336
  go_wp2
  go_ret
  exact⟨rfl,_,hf,hP,rfl,rfl,rfl,aHv _,λ_ _ _ _=>rfl⟩
 .cases f with
  |nil=>
   go_enter Tryz.func336,Tryz.ntmps336
   go_wp2
   go_ret
   exact⟨rfl,_,hf,hP,rfl,rfl,rfl,aHv _,λ_ _ _ _=>rfl⟩
  |cons x r=>
   have hx0:=hx 0 x rfl;obtain⟨u,us,e1,⟨e2,_⟩,_⟩:=hx0;have cx:W.cell? ⟨b,off,none⟩=some (.string ⟨x.1.toArray⟩):=by rw[aZ hbl,← e2];have h0:=congrArg (λl=>l[0]?) e1;have h0:((cs.toList.drop (off+0*1)).take 1)[0]? =some u:=h0;simpa[aIs,aIp]using h0
   have hl:(x::r).length=r.length+1:=rfl;rw[hl]at hcap c0 hml;have hrl:¬((r.length+1:Nat):Int)=0:=lu;have hw:Sp.wordAt (x::r) 0=x.1:=gy x r;rw[hw];have hr:FW B W (.slice (if cap=1 then some ⟨b,off,none⟩else some ⟨b,off+1,none⟩) r.length (cap-1)) r:=by
    refine⟨by have:=hml;omega,?_⟩;by_cases h1:cap=1
    .have hr0:r=[]:=aH0.1 lu;subst hr0;exact .inl ⟨rfl,_,_,rfl⟩
    .rw[if_neg h1];refine .inr ⟨b,off+1,cap-1,cs,t,fz,rfl,lu,hb,hbl,λi y hy=>?_⟩;have:=hx (i+1) y (by simpa using hy);rw[show off+1+i*dZ.len=off+(i+1)*dZ.len by show off+1+i*1=off+(i+1)*1;omega];exact this
   generalize r.length=n at*
   go_enter Tryz.func336,Tryz.ntmps336
   go_wp2
   all_goals go_ret
   all_goals refine⟨rfl,_,FW.keep (W:=W) ?_ λb' hb'=>pz _ (show b'≠P from lu),iO hP 0 _,rfl,rfl,rfl,ah5,λb' _ hb' _=>pz _ hb'⟩
   .rw[if_pos h,show cap-1=0 from lu]at hr;exact hr
   .rw[if_neg h]at hr;exact hr
theorem aBM(op:Int)(h:-9223372036854775808<=op/\op<=9223372036854775807)(w:World)(d:G.ok w):Calls prog 230 #[.int .i64 op] w λe w'=>e=.returned (.string ⟨(iU op).toArray⟩)/\Below w.heap.size w w':=by have L:fF prog G 230 (iw nP.sh nP.dF nP.F):=RI.1;refine(L [.sv (.one (.int .i64 op))] True ⟨[(false,[.plain (.str (iU op))])],none⟩ 0 (λ_=>True) #[.int .i64 op] w rfl trivial d ⟨⟨rfl,h⟩,trivial⟩).mono ?_;rintro e w' ⟨v,b,rfl,E,O,U,j,M,a,_,_⟩;have a:v=.string ⟨(iU op).toArray⟩/\(iU op).length<=maxLen:=a;exact⟨by rw[a.1],E,O,U,j,M⟩
theorem avN(s:List UInt8)(X:s.length<=1048576)(w:World)(r:G.ok w):Calls prog 298 #[.string ⟨s.toArray⟩] w λe w'=>
 e=.returned (.tuple #[.agg #[.int .i64 (bU s).1.1,.int .i64 (bU s).1.2.1,.string ⟨(bU s).1.2.2.1.toArray⟩],.bool (bU s).2])/\Below w.heap.size w w'/\
  (-9223372036854775808<=(bU s).1.1/\(bU s).1.1<=9223372036854775807)/\(-9223372036854775808<=(bU s).1.2.1/\(bU s).1.2.1<=9223372036854775807)/\(bU s).1.2.2.1.length<=maxLen:=by
 have L:fF prog G 298 (iw oU.sh oU.dF oU.F):=QO.1;refine(L [.sv (.one (.str s))] (s.length<=1048576) _ 0 (λ_=>True) #[.string ⟨s.toArray⟩] w rfl X r ⟨⟨rfl,y8⟩,trivial⟩).mono ?_;rintro e w' ⟨v,k,rfl,E,O,U,j,M,q,_,_⟩;obtain⟨I,rfl,d⟩:=q;obtain⟨l⟩:=I
 match l,d with
 |[a,b],d=>
  obtain⟨⟨A,o,h⟩,i,_⟩:=d;obtain⟨u⟩:=A
  match u,h with
  |[x,y,z],h=>obtain⟨t,m,n,_⟩:=h;have i:b=.bool (bU s).2:=i;rw[o,i,t.1,m.1,n.1];exact⟨rfl,⟨E,O,U,j,M⟩,t.2,m.2,n.2⟩
def NW(B P:Nat)(W:World)(v:Value)(q:List aA):Prop:=
 ∃z,W.ownsRow B 231 7 v q.length z/\v.ownBlock≠some P/\∀i x,q[i]? =some x->aY #[] (λ_=>False) dR ((z.drop (i*7)).take 7) x
def gJ(op l r:Int)(s:List UInt8)(k n:Int)(t:List UInt8):Array Value:=#[.int .i64 op,.int .i64 l,.int .i64 r,.string ⟨s.toArray⟩,.int .i64 k,.int .i64 n,.string ⟨t.toArray⟩]
variable {xs:List Value}
theorem yA{base size n:Nat}{e:TypeId}(h:W.ownsRow base e size v n xs)(u:∀g,v.ownBlock=some g->w'.heap[g]? =W.heap[g]?):w'.ownsRow base e size v n xs:=by
 refine⟨h.1,?_⟩;rcases h.2 with O|⟨g,y,cur,rfl,U,j,M⟩
 .exact .inl O
 .exact .inr ⟨g,y,cur,rfl,U,(u g rfl).trans j,M⟩
theorem aBN:(prog.info? 231).map (λi=>(i.zero,i.size,i.bytes))=some (some (.agg (gJ 0 0 0 [] 0 0 [])),7,72):=mF
theorem ayK(op l r:Int)(s:List UInt8)(k n:Int)(t:List UInt8):∀u∈(gJ op l r s k n t).toList,u.oneCell'=true:=by intro u a;simp[gJ]at a;rcases a with rfl|rfl|rfl|rfl|rfl|rfl|rfl<;>rfl
def wZ(n:Int):Prop:=-9223372036854775808<=n/\n<=9223372036854775807
variable {op:Int}{s t:List UInt8}
theorem vX{l r:Int}{k n:Int}(E:wZ op)(O:wZ l)(U:wZ r)(j:s.length<=maxLen)(M:wZ k)(a:wZ n)(b:t.length<=maxLen):
 aY #[] (λ_=>False) dR (gJ op l r s k n t).toList (op,l,r,s,k,n,t,()):=
 ⟨_,_,rfl,⟨rfl,E⟩,_,_,rfl,⟨rfl,O⟩,_,_,rfl,⟨rfl,U⟩,_,_,rfl,⟨rfl,j⟩,_,_,rfl,⟨rfl,M⟩,_,_,rfl,⟨rfl,a⟩,_,_,rfl,⟨rfl,b⟩,rfl⟩
structure MV(B P N:Nat)(W:World)(ajT:Option Nat)(w:World)(vf vn:Value)(f:Sp.LS)(q:List aA):Prop where
 gl:G.ok w
 cells:w.heap[P]? =some (.cells #[vf,vn] 332 (0,0))
 words:FW B w vf f
 nodes:NW B P w vn q
 step:Step W w P ajT
 fresh:∀g,vn.ownBlock=some g->ajT=some g\/W.heap.size<=g
 aph:vn.ownBlock≠some N
 old:W.heap.size<=N
 lt:N<w.heap.size
 low:7<=B/\B<=P/\P<W.heap.size
theorem KR{o l r:Int}{k n:Int}{ty:TypeId}(h:w.heap[g]? =some (.cells (gJ o l r s k n t) ty fz)):w.cell? ⟨g,0,none⟩=some (.int .i64 o)/\w.cell? ⟨g,1,none⟩=some (.int .i64 l)/\w.cell? ⟨g,2,none⟩=some (.int .i64 r)/\w.cell? ⟨g,3,none⟩=some (.string ⟨s.toArray⟩)/\w.cell? ⟨g,4,none⟩=some (.int .i64 k)/\w.cell? ⟨g,5,none⟩=some (.int .i64 n)/\w.cell? ⟨g,6,none⟩=some (.string ⟨t.toArray⟩):=
 ⟨aZ h 0,aZ h 1,aZ h 2,aZ h 3,aZ h 4,aZ h 5,aZ h 6⟩
variable {P N:Nat}{o:Option Nat}{vf vn:Value}{q:List aA}
theorem MV.four(h:MV B P N W o w vf vn f q):w.cell? ⟨P,1,none⟩=some vn/\w.frozen? ⟨P,1,none⟩=false/\P<w.heap.size/\B<=w.heap.size:=
 ⟨aZ h.cells 1,eY h.cells 1,(aHz.1 h.cells).1,by have:=(aHz.1 h.cells).1;have:=h.low;omega⟩
theorem sK{ops:Array Oper}{o:Oper}{a:Act}{K:Act->World->Prop}{Q:Exit->Act->World->Prop}{E:Prop}{i:Option Nat}(op l r:Int)(s:List UInt8)(k n:Int)(t:List UInt8)
 (H:MV B P N W i w vf vn f q) (M:(q.length+1)*72<=140737488355328) (m:o.guard=none) (F:o.op=.call {callee:=.builtin .append,args:=#[.tmp 84,.tmp 86],argTypes:=#[155,155]})
 (d:w.ownsRow B 231 7 vn q.length xs) (R:vn.ownBlock≠some P) (X:a.eval (.tmp 84)=vn) (Z:a.eval (.tmp 86)=.slice (some ⟨w.heap.size,0,none⟩) 1 1)
 (h:∀g y b,b.ownsRow B 231 7 (.slice (some ⟨g,0,none⟩) (q.length+1) y) (q.length+1) (xs++(gJ op l r s k n t).toList)->(w.drew.alloc (Obj.cells (gJ op l r s k n t) 231 (0,0))).grownBy b vn.ownBlock->(vn.ownBlock=some g\/g=(w.drew.alloc (Obj.cells (gJ op l r s k n t) 231 (0,0))).heap.size)->g<b.heap.size->
   b.heap[P]? =some (.cells #[vf,vn] 332 (0,0))->b.cell? ⟨P,1,none⟩=some vn->b.frozen? ⟨P,1,none⟩=false->K (a.put o.dst (.slice (some ⟨g,0,none⟩) (q.length+1) y)) b):
 if Region.wanted o (yielded ops a.tmps)=true then Oper.wp prog o a (w.drew.alloc (Obj.cells (gJ op l r s k n t) 231 (0,0))) K Q else E:=by
 obtain⟨L,D,x,z,A⟩:=aI8 aBN;obtain⟨-,-,S,J⟩:=H.four;have u:q.length+1<=maxLen:=y8;refine step_append_lies _ m (.tmp 84) (.tmp 86) 155 F B 231 L (.agg (gJ 0 0 0 [] 0 0 [])) 7 72 Tryz.underlying155 D x z A rfl lZ vn q.length xs X ((aI1 d).alloc _) ⟨w.heap.size,0,none⟩ 1 1 (gJ op l r s k n t).toList Z rfl (World.news_of_block (aH6 _ _)) (ayK op l r s k n t) lZ u M KW _ rfl ?_;intro g y b I O U j;have C:=(O.block P KW (λe=>R e.symm)).trans ((heap_alloc_old w.drew _ S).trans H.cells);exact h g y b I O U j C (aZ C 1) (eY C 1)
def Done(B P:Nat)(W:World)(a:Option Nat)(f:Sp.LS)(q:List aA)(w:World):Prop:=
 ∃vf vn,w.heap[P]? =some (.cells #[vf,vn] 332 (0,0))/\FW B w vf f/\NW B P w vn q/\Step W w P a/\∀g,vn.ownBlock=some g->a=some g\/W.heap.size<=g
theorem Step.refl(w:World)(P:Nat)(own:Option Nat):Step w w P own:=⟨rfl,rfl,rfl,aHv _,λ_ _ _ _=>rfl⟩
theorem Step.trans{a b c:World}{i:Option Nat}(h:Step a b P o)(k:Step b c P i)(j:∀g,i=some g->o=some g\/a.heap.size<=g):Step a c P o:=
 ⟨k.os.trans h.os,k.tape.trans h.tape,k.output.trans h.output,aHw h.size k.size,λx Z d F=>(k.block x (aHR Z h.size) d λe=>by
   rcases j x e with E|E
   .exact F E
   .omega).trans (h.block x Z d F)⟩
theorem Step.below{a b c:World}(h:Step a b P o)(k:Below b.heap.size b c):Step a c P o:=
 ⟨k.os.trans h.os,k.tape.trans h.tape,k.output.trans h.output,aHw h.size k.size,λx Z d F=>(k.block x (aHR Z h.size)).trans (h.block x Z d F)⟩
theorem NW.keep(h:NW B P w v q)(u:∀g,v.ownBlock=some g->w'.heap[g]? =w.heap[g]?):NW B P w' v q:=by obtain⟨xs,E,O,U⟩:=h;exact⟨xs,yA E u,O,U⟩
theorem NW.lt(h:NW B P w v q)(d:v.ownBlock=some g):B<=g/\g<w.heap.size/\g≠P:=by obtain⟨xs,E,O,_⟩:=h;exact⟨(E.lt g d).1,(E.lt g d).2,λe=>O (by rw[d,e])⟩
theorem MV.below(h:MV B P N W o w vf vn f q)(k:Below w.heap.size w w'):MV B P N W o w' vf vn f q:=by have a:P<w.heap.size:=aHR h.low.2.2 h.step.size;exact⟨fC h.gl k,(k.block P a).trans h.cells,h.words.keep λb J=>k.block b (by have:=h.low;omega),h.nodes.keep λg d=>k.block g (h.nodes.lt d).2.1,h.step.below k,h.fresh,h.aph,h.old,aHR h.lt k.size,h.low⟩
theorem MV.D5(h:MV B P N W o w vf vn f q)(k:Nat)(v:Value):MV B P N W o (w.setCell ⟨N,k,none⟩ v) vf vn f q:=by have Q:=h.low;have F:=h.old;have a:∀b,b≠N->(w.setCell ⟨N,k,none⟩ v).heap[b]? =w.heap[b]? :=λb J=>pz v J;have X:(w.setCell ⟨N,k,none⟩ v).heap.size=w.heap.size:=ah5;refine⟨G.stable _ _ h.gl (by rw[X];exact aHv _) λb J=>a b (by have:b<7:=J;omega),(a P lu).trans h.cells,h.words.keep λb J=>a b lu,h.nodes.keep λg d=>a g (λe=>h.aph (by rw[d,e])),?_,h.fresh,h.aph,F,by rw[X];exact h.lt,Q⟩;exact⟨h.step.os,h.step.tape,h.step.output,by rw[X];exact h.step.size,λx Z j i=>(a x lu).trans (h.step.block x Z j i)⟩
theorem G_step{own:Option Nat}(d:7<=B)(i:B<=P)(a:G.ok W)(h:Step W w' P own)(F:∀b,own=some b->B<=b):G.ok w':=
 G.stable W w' a h.size λb J=>h.block b (aHR J (G.low W a)) (by have:b<7:=J;omega) λe=>by have:=F b e;have:b<7:=J;omega
theorem MV.next{a:Value}{i:Sp.LS}(h:MV B P N W o w vf vn f q)(E:FW B w' a i)(O:w'.heap[P]? =some (.cells #[a,vn] 332 (0,0)))(U:Step w w' P none):MV B P N W o w' a vn i q/\w'.heap[N]? =w.heap[N]? :=by have Q:=h.low;have F:=h.old;exact⟨⟨G_step Q.1 Q.2.1 h.gl U (λb e=>Q7),O,E,h.nodes.keep λg d=>U.block g (h.nodes.lt d).2.1 (h.nodes.lt d).2.2 (λe=>Q7),h.step.trans U (λg e=>Q7),h.fresh,h.aph,F,aHR h.lt U.size,Q⟩,U.block N h.lt lu (λe=>Q7)⟩
theorem MV.read{l:Sp.LS}{m:List aA}(h:MV B P N W o w vf vn f q)(k:Done B P w vn.ownBlock l m w'):(∃i a,MV B P N W o w' i a l m)/\w'.heap[N]? =w.heap[N]? :=by
 have Q:=h.low;have F:=h.old;have n:=h.lt;obtain⟨i,a,E,O,U,j,M⟩:=k;refine⟨⟨i,a,G_step Q.1 Q.2.1 h.gl j (λb e=>(h.nodes.lt e).1),E,O,U,h.step.trans j h.fresh,λg d=>?_,λe=>?_,F,aHR h.lt j.size,Q⟩,j.block N h.lt lu (λe=>h.aph e)⟩
 .rcases M g d with e|e
  .exact h.fresh g e
  .exact .inr (aHw h.step.size e)
 .rcases M N e with e|e
  .exact h.aph e
  .omega
theorem MV.put{w0 u:World}(h:MV B P N W o w vf vn f q)(J:Below w.heap.size w w0)(K:w.ownsRow B 231 7 vn q.length xs)
 (L:∀i x,q[i]? =some x->aY #[] (λ_=>False) dR ((xs.drop (i*7)).take 7) x) {l r:Int}  {k n:Int}  (Z:aY #[] (λ_=>False) dR (gJ op l r s k n t).toList (op,l,r,s,k,n,t,()))
 {cap:Nat} (M:u.ownsRow B 231 7 (.slice (some ⟨g,0,none⟩) (q.length+1) cap) (q.length+1) (xs++(gJ op l r s k n t).toList)) (d:w0.grownBy u vn.ownBlock) (C:vn.ownBlock=some g\/g=w0.heap.size) (hlt:g<u.heap.size):
 Done B P W o f (q++[(op,l,r,s,k,n,t,())]) (u.setCell ⟨P,1,none⟩ (.slice (some ⟨g,0,none⟩) (q.length+1) cap)):=by
 have Q:=h.low;have F:=h.old;have R:P<w.heap.size:=aHR Q.2.2 h.step.size;have A:vn.ownBlock≠some P:=λe=>(h.nodes.lt e).2.2 rfl;have H:g≠P:=by
  rcases C with e|e
  .exactλT=>A (by rw[e,T])
  .have:=J.size;omega
 have m:∀b,b<w.heap.size->vn.ownBlock≠some b->u.heap[b]? =w.heap[b]? :=λb j S=>(d.block b (aHR j J.size) (λe=>S e.symm)).trans (J.block b j);have y:∀b,b≠P->(u.setCell ⟨P,1,none⟩ (.slice (some ⟨g,0,none⟩) (q.length+1) cap)).heap[b]? =u.heap[b]? :=λb J=>pz _ J;have pW:=(m P R A).trans h.cells;have U:(u.setCell ⟨P,1,none⟩ (.slice (some ⟨g,0,none⟩) (q.length+1) cap)).heap.size=u.heap.size:=ah5;have X:w.heap.size<=u.heap.size:=aHw J.size d.size;refine⟨vf,.slice (some ⟨g,0,none⟩) (q.length+1) cap,iO pW 1 _,h.words.keep λb J=>?_,⟨xs++(gJ op l r s k n t).toList,?_,λe=>H (by cases e;rfl),λi x D=>?_⟩,?_,λO a=>?_⟩
 .exact(y b lu).trans (m b lu λe=>by have:=(h.nodes.lt e).1;omega)
 .rw[aHu];exact yA M λO a=>y O (by cases a;exact H)
 .have hxl:xs.length=q.length*7:=K.1;rcases aHU i q.length with z|z
  .rw[aIz z]at D;have:=L i x D;rw[aJg (by rw[hxl];omega),aJf (by rw[aH7,hxl];omega)];exact this
  .rw[aIJ z]at D;have Y:i=q.length:=by have:=(aHN.1 D).1;simp at this;omega
   subst Y;rw[aJl]at D;cases D;rw[← hxl,List.drop_left];exact Z
 .refine⟨d.os.trans (J.os.trans h.step.os),d.tape.trans (J.tape.trans h.step.tape),d.output.trans (J.output.trans h.step.output),by rw[U];exact aHw h.step.size X,λb j E I=>?_⟩;refine(y b E).trans ((m b (aHR j h.step.size) λe=>?_).trans (h.step.block b j E I));rcases h.fresh b e with T|T
  .exact I T
  .omega
 .have a:some g=some O:=a;cases a;rcases C with e|e
  .exact h.fresh g e
  .right;have:=J.size;have:=h.step.size;omega
theorem zO{b c:Bool}{z:Bool×Sp.LS×List aA}(e:Hid (z=(c,f,q)))(J:Ending.returned (.bool b)=Ending.returned (.bool c))(h:Done B P W o f q w):Ending.returned (.bool b)=Ending.returned (.bool z.1)/\Done B P W o z.2.1 z.2.2 w:=by rw[e.out];exact⟨J,h⟩
variable {k:Nat}
theorem PV(h:op=dX (Sp.wordAt f 0))(c:op=0\/op=1):Sp.rd (k+1) f q=(!(op==0),f.drop 1,q++[(op,0,0,[],0,0,[],())]):=by rw[Sp.rd,← h];rcases c with rfl|rfl<;>rfl
theorem UW(h:op=dX (Sp.wordAt f 0))(c:op=2\/op=8\/op=9):Sp.rd (k+1) f q=(true,(f.drop 1).drop 1,q++[(op,0,0,Sp.wordAt (f.drop 1) 0,0,0,[],())]):=by rw[Sp.rd,← h];rcases c with rfl|rfl|rfl<;>rfl
theorem aa3(h:op=dX (Sp.wordAt f 0))(c:op=3\/op=4):Sp.rd (k+1) f q=((bU (Sp.wordAt ((f.drop 1).drop 1) 0)).2,((f.drop 1).drop 1).drop 1,q++[(op,0,0,Sp.wordAt (f.drop 1) 0,(bU (Sp.wordAt ((f.drop 1).drop 1) 0)).1)]):=by rw[Sp.rd,← h];rcases c with rfl|rfl<;>rfl
theorem atD(h:(5:Int)=dX (Sp.wordAt f 0)):Sp.rd (k+1) f q=((Sp.rd k (f.drop 1) q).1,(Sp.rd k (f.drop 1) q).2.1,(Sp.rd k (f.drop 1) q).2.2++[(5,((Sp.rd k (f.drop 1) q).2.2.length:Int)-1,0,[],0,0,[],())]):=by rw[Sp.rd,← h];rfl
theorem afK(h:op=dX (Sp.wordAt f 0))(c:op=6\/op=7)(E:(Sp.rd k (f.drop 1) q).1=true):Sp.rd (k+1) f q=((Sp.rd k (Sp.rd k (f.drop 1) q).2.1 (Sp.rd k (f.drop 1) q).2.2).1,(Sp.rd k (Sp.rd k (f.drop 1) q).2.1 (Sp.rd k (f.drop 1) q).2.2).2.1,
 (Sp.rd k (Sp.rd k (f.drop 1) q).2.1 (Sp.rd k (f.drop 1) q).2.2).2.2++[(op,((Sp.rd k (f.drop 1) q).2.2.length:Int)-1,((Sp.rd k (Sp.rd k (f.drop 1) q).2.1 (Sp.rd k (f.drop 1) q).2.2).2.2.length:Int)-1,[],0,0,[],())]):=by
 rw[Sp.rd,← h,E];rcases c with rfl|rfl<;>rfl
theorem amX(h:op=dX (Sp.wordAt f 0))(c:op=6\/op=7)(E:(Sp.rd k (f.drop 1) q).1=false):Sp.rd (k+1) f q=(false,(Sp.rd k (f.drop 1) q).2.1,
 (Sp.rd k (f.drop 1) q).2.2++[(op,((Sp.rd k (f.drop 1) q).2.2.length:Int)-1,((Sp.rd k (f.drop 1) q).2.2.length:Int)-1,[],0,0,[],())]):=by
 rw[Sp.rd,← h,E];rcases c with rfl|rfl<;>rfl
theorem BI:∀(k:Nat)(w:Sp.LS)(q:List aA),(Sp.rd k w q).2.2.length+2*(Sp.rd k w q).2.1.length<=q.length+2*w.length+1
 |0,w,q=>Nat.le_succ _
 |k+1,w,q=>by
  have a:(w.drop 1).length=w.length-1:=aH7;rcases Fe (Sp.wordAt w 0)with h0|⟨hc,_⟩
  .rw[PV h0.symm (.inl rfl)];simp only[aHu,aHx,aHG,a];omega
  have b:0<w.length:=by obtain⟨r,e,_⟩:=afL (w:=w) lu;rw[e,aHx];omega
  have d:((w.drop 1).drop 1).length<=w.length-1:=an9;have h:(((w.drop 1).drop 1).drop 1).length<=w.length-1:=an9;have i:=BI k (w.drop 1) q;generalize F:dX (Sp.wordAt w 0)=op at hc;rcases(show op=1\/(op=2\/op=8\/op=9)\/(op=3\/op=4)\/op=5\/(op=6\/op=7)from lu)with c|c|c|c|c
  .rw[PV F.symm (.inr c)];simp only[aHu,aHx,aHG,a];omega
  .rw[UW F.symm c];simp only[aHu,aHx,aHG];omega
  .rw[aa3 F.symm c];simp only[aHu,aHx,aHG];omega
  .subst c;rw[atD F.symm];simp only[aHu,aHx,aHG];omega
  .cases h1:(Sp.rd k (w.drop 1) q).1 with
   |true=>
    have j:=BI k (Sp.rd k (w.drop 1) q).2.1 (Sp.rd k (w.drop 1) q).2.2;rw[afK F.symm c h1];simp only[aHu,aHx,aHG];omega
   |false=>rw[amX F.symm c h1];simp only[aHu,aHx,aHG];omega
theorem NW.form(h:NW B P w v q):∃a y,v=.slice a q.length y:=by
 obtain⟨xs,E,_,_⟩:=h;rcases E.2 with⟨e,T⟩|⟨g,y,cur,e,_⟩
 .exact⟨none,0,by rw[e,T]⟩
 .exact⟨_,_,e⟩
theorem Me(h:∀x∈f,x.1.length<=1000)(i:Int):(Sp.wordAt f i).length<=1000:=by
 by_cases a:i<(f.length:Int)
 .rw[xB a,aHI];cases e:f[i.toNat]? with
  |none=>exact aHV _
  |some x=>exact h x (aH5 e)
 .rw[xC lu];exact aHV _
theorem uP(h:∀x∈f,x.1.length<=1000)(i:Nat):∀x∈f.drop i,x.1.length<=1000:=λx Z=>h x (aJQ Z)
theorem BJ:∀(k:Nat)(w:Sp.LS)(q:List aA),(∀x∈w,x.1.length<=1000)->∀x∈(Sp.rd k w q).2.1,x.1.length<=1000
 |0,_,_,h=>h
 |k+1,w,q,h=>by
  have a:=BJ k (w.drop 1) q (uP h 1);rcases Fe (Sp.wordAt w 0)with h0|⟨hc,_⟩
  .rw[PV h0.symm (.inl rfl)];exact uP h 1
  generalize F:dX (Sp.wordAt w 0)=op at hc;rcases(show op=1\/(op=2\/op=8\/op=9)\/(op=3\/op=4)\/op=5\/(op=6\/op=7)from lu)with c|c|c|c|c
  .rw[PV F.symm (.inr c)];exact uP h 1
  .rw[UW F.symm c];exact uP (uP h 1) 1
  .rw[aa3 F.symm c];exact uP (uP (uP h 1) 1) 1
  .subst c;rw[atD F.symm];exact a
  .cases h1:(Sp.rd k (w.drop 1) q).1 with
   |true=>rw[afK F.symm c h1];exact BJ k _ _ a
   |false=>rw[amX F.symm c h1];exact a
theorem aeX(h:op=dX (Sp.wordAt f 0))(S:op≠0):(f.drop 1).length<f.length:=by obtain⟨r,e,_⟩:=afL (w:=f) lu;rw[e];exact aIY _
def Reads(k:Nat):Prop:=∀(B P:Nat)(W:World)(vf vn:Value)(f:Sp.LS)(q:List aA),f.length<k->7<=B->B<=P->G.ok W->W.heap[P]? =some (.cells #[vf,vn] 332 (0,0))->FW B W vf f->NW B P W vn q->
    (∀x∈f,x.1.length<=1000)->q.length+2*f.length+1<=1000->
    Calls prog 300 #[.pointer (some ⟨P,0,none⟩)] W λe w'=>e=.returned (.bool (Sp.rd k f q).1)/\Done B P W vn.ownBlock (Sp.rd k f q).2.1 (Sp.rd k f q).2.2 w'
set_option maxHeartbeats 16000000 in
set_option maxRecDepth 100000 in
theorem ayL(k:Nat)(ih:Hid (Reads k)):Reads (k+1):=by
 intro B P W vf vn f q hk hB8 OD hG hP hf hn hfx hq;have mixed:=Tryz.mixed
 go_enter Tryz.func300,Tryz.ntmps300
 go_wp2_with (first
  |(go_at_call 336;refine(Eb B P _ vf vn f OD hP hf).mono ?_;rintro e W1 ⟨rfl,vf1,hf1,hP1,hs1⟩))
 have hG1:=G_step hB8 OD hG hs1 (λb h=>zH);have hword:∃word,Hid (word=Sp.wordAt f 0)/\word=Sp.wordAt f 0:=⟨_,rfl,rfl⟩;obtain⟨word,hword,hw2⟩:=hword;rw[← hw2];clear hw2;have aFU:P<W1.heap.size:=(aHz.1 hP1).1;have hPW:P<W.heap.size:=(aHz.1 hP).1
 go_loopw [5] (λi wr=>∃n:Nat,n<=9/\i=.int .i64 ((n+1:Nat):Int)/\wr.heap[W1.heap.size]? =some (.cells (gJ (OE word n) 0 0 [] 0 0 []) 231 (0,0))/\Below W1.heap.size W1 wr)
  (λi _=>10-(intOf i).toNat)
 case atStart=>refine⟨0,lZ,rfl,?_,(Below.alloc (Below.refl _ _) (aHv _) _)⟩;exact aH6 W1 _
 case round=>
  obtain⟨n,hn9,rfl,hrow,hbel⟩:=hrel;rcases aHU n 9 with hlt|hge
  .have hlt':((n+1:Nat):Int)<=9:=lu;have hGr:G.ok wr:=fC hG1 hbel;have hz:=eY hrow 0;have e1:OE word (n+1)=bif word==iU ((n:Int)+1)then(n:Int)+1 else OE word n:=rfl
   have kw:=aBM ((n+1:Nat):Int) lu wr hGr;obtain⟨t,ht,ht2⟩:∃t,Hid (t=iU ((n:Int)+1))/\t=iU ((n+1:Nat):Int):=⟨_,rfl,rfl⟩;rw[← ht2]at kw;clear ht2;by_cases hk:t=word
   .subst hk
    go_wp2_with (first
     |(go_at_call 230;refine kw.mono ?_;rintro e w2 ⟨rfl,hb2⟩;have hrow2:=(hb2.block _ (aHz.1 hrow).1).trans hrow;have hz2:=eY hrow2 0;have hc2:=aZ hrow2 0))
    all_goals go_roundw
    case measure=>simp only[intOf];omega
    case rel=>refine⟨n+1,hlt,by go_num,(iO hrow2 0 _).trans ?_,(hbel.trans (hb2.mono (aJz (aHz.1 hrow).1))).setCell (aHv _) _⟩;rw[e1,← ht.out,aJJ];rfl
   .have hk2:(t==word)=false:=aHt.2 hk
    go_wp2_with (first
     |(go_at_call 230;refine kw.mono ?_;rintro e w2 ⟨rfl,hb2⟩;have hrow2:=(hb2.block _ (aHz.1 hrow).1).trans hrow;have hz2:=eY hrow2 0;have hc2:=aZ hrow2 0))
    all_goals go_roundw
    case measure=>simp only[intOf];omega
    case rel=>refine⟨n+1,hlt,by go_num,hrow2.trans ?_,hbel.trans (hb2.mono (aJz (aHz.1 hrow).1))⟩;rw[e1,← ht.out,aHt.2 (aJB hk)];rfl
  .have hge':¬((n+1:Nat):Int)<=9:=lu;obtain rfl:n=9:=lu;rw[amY]at hrow;have hrg:=amZ word;obtain⟨op,hop,hop2⟩:∃op,Hid (op=dX (Sp.wordAt f 0))/\op=dX word:=⟨_,congrArg dX hword.out,rfl⟩;rw[← hop2]at hrow hrg;clear hop2;have hNr:=(aHz.1 hrow).1;have hR:MV B P W1.heap.size W vn.ownBlock wr vf1 vn (f.drop 1) q:=by
    have hPr:=(hbel.block _ aFU).trans hP1;refine⟨fC hG1 hbel,hPr,hf1.keep λb hb=>hbel.block b lu,hn.keep λg hg=>?_,?_,λg hg=>.inl hg,λe=>?_,hs1.size,hNr,hB8,OD,hPW⟩
    .have hgl:=hn.lt hg;exact(hbel.block g (aHR hgl.2.1 hs1.size)).trans (hs1.block g hgl.2.1 hgl.2.2 (λe=>Q7))
    .exact⟨hbel.os.trans hs1.os,hbel.tape.trans hs1.tape,hbel.output.trans hs1.output,aHw hs1.size hbel.size,λb hb hbP _=>(hbel.block b (aHR hb hs1.size)).trans (hs1.block b hb hbP (λe=>Q7))⟩
    .have:=(hn.lt e).2.1;have:=hs1.size;omega
   clear hbel hn hf hP hf1 hP1;have hz1:=eY hrow 1;have hz2:=eY hrow 2;have hz3:=eY hrow 3;have hz4:=eY hrow 4;have hz5:=eY hrow 5;have hz6:=eY hrow 6;have J5:=uP hfx 1;have aCS:=uP J5 1;have c0:wr.cell? ⟨W1.heap.size,0,none⟩=some (.int .i64 op):=aZ hrow 0;have n0:wZ 0:=⟨lZ,lZ⟩;have m0:([]:List UInt8).length<=maxLen:=aHV _;rcases(show op=0\/op=1\/op=2\/op=8\/op=9\/op=3\/op=4\/op=5\/op=6\/op=7 from lu)with rfl|rfl|rfl|rfl|rfl|rfl|rfl|rfl|rfl|rfl
   .have he:Hid _:=PV (k:=k) (q:=q) hop.out lZ;have hx:=vX (op:=0) ⟨lZ,lZ⟩ n0 n0 m0 n0 n0 m0
    go_wp2
    obtain⟨xs,hown,wC,hrep⟩:=hR.nodes;obtain⟨c0,c1,c2,c3,c4,c5,c6⟩:=KR hrow;obtain⟨p1,zP,yB,hBr⟩:=hR.four;have pJ:(q.length+1)*72<=140737488355328:=lu
    go_region_law (refine sK (0) (0) (0) ([]) (0) (0) ([]) hR pJ rfl rfl hown wC y9 y9 ?_;intro g cap w5 hown5 iM qj ql pW k5 z5)
    all_goals go_wp2
    all_goals go_ret
    all_goals exact zO he rfl (hR.put (((Below.refl _ wr).drew).alloc (aHv _) _) hown hrep hx hown5 iM qj ql)
   .have he:Hid _:=PV (k:=k) (q:=q) hop.out lZ;have hx:=vX (op:=1) ⟨lZ,lZ⟩ n0 n0 m0 n0 n0 m0
    go_wp2
    obtain⟨xs,hown,wC,hrep⟩:=hR.nodes;obtain⟨c0,c1,c2,c3,c4,c5,c6⟩:=KR hrow;obtain⟨p1,zP,yB,hBr⟩:=hR.four;have pJ:(q.length+1)*72<=140737488355328:=lu
    go_region_law (refine sK (1) (0) (0) ([]) (0) (0) ([]) hR pJ rfl rfl hown wC y9 y9 ?_;intro g cap w5 hown5 iM qj ql pW k5 z5)
    all_goals go_wp2
    all_goals go_ret
    all_goals exact zO he rfl (hR.put (((Below.refl _ wr).drew).alloc (aHv _) _) hown hrep hx hown5 iM qj ql)
   .obtain⟨s2,hs2,hs2'⟩:∃s2,Hid (s2=Sp.wordAt (f.drop 1) 0)/\s2=Sp.wordAt (f.drop 1) 0:=⟨_,rfl,rfl⟩;have nx:=Eb B P wr vf1 vn (f.drop 1) OD hR.cells hR.words;have hl2:=Me J5 0;rw[← hs2']at nx hl2;clear hs2';have he:Hid _:=UW (k:=k) (q:=q) hop.out lZ;rw[← hs2.out]at he;have hx:=vX (op:=2) (s:=s2) ⟨lZ,lZ⟩ n0 n0 y8 n0 n0 m0
    go_wp2_with (first
     |(go_at_call 336;refine nx.mono ?_;rintro e w2 ⟨rfl,WM,hf2,hP2,hst2⟩;obtain⟨hR2,OG⟩:=hR.next hf2 hP2 hst2;have hrow2:=OG.trans hrow;have z3:=eY hrow2 3;have d3:=aZ hrow2 3))
    have lX:=hR2.D5 3 (.string ⟨s2.toArray⟩);have hrow3:(w2.setCell ⟨W1.heap.size,3,none⟩ (.string ⟨s2.toArray⟩)).heap[W1.heap.size]? =some (.cells (gJ 2 0 0 s2 0 0 []) 231 (0,0)):=iO hrow2 3 _;generalize w2.setCell ⟨W1.heap.size,3,none⟩ (.string ⟨s2.toArray⟩)=w3 at lX hrow3 ⊢;obtain⟨xs,hown,wC,hrep⟩:=lX.nodes;obtain⟨c0,c1,c2,c3,c4,c5,c6⟩:=KR hrow3;obtain⟨p1,zP,yB,hBr⟩:=lX.four;have pJ:(q.length+1)*72<=140737488355328:=lu
    go_region_law (refine sK (2) (0) (0) (s2) (0) (0) ([]) lX pJ rfl rfl hown wC y9 y9 ?_;intro g cap w5 hown5 iM qj ql pW k5 z5)
    all_goals go_wp2
    all_goals go_ret
    all_goals exact zO he rfl (lX.put (((Below.refl _ w3).drew).alloc (aHv _) _) hown hrep hx hown5 iM qj ql)
   .obtain⟨s2,hs2,hs2'⟩:∃s2,Hid (s2=Sp.wordAt (f.drop 1) 0)/\s2=Sp.wordAt (f.drop 1) 0:=⟨_,rfl,rfl⟩;have nx:=Eb B P wr vf1 vn (f.drop 1) OD hR.cells hR.words;have hl2:=Me J5 0;rw[← hs2']at nx hl2;clear hs2';have he:Hid _:=UW (k:=k) (q:=q) hop.out lZ;rw[← hs2.out]at he;have hx:=vX (op:=8) (s:=s2) ⟨lZ,lZ⟩ n0 n0 y8 n0 n0 m0
    go_wp2_with (first
     |(go_at_call 336;refine nx.mono ?_;rintro e w2 ⟨rfl,WM,hf2,hP2,hst2⟩;obtain⟨hR2,OG⟩:=hR.next hf2 hP2 hst2;have hrow2:=OG.trans hrow;have z3:=eY hrow2 3;have d3:=aZ hrow2 3))
    have lX:=hR2.D5 3 (.string ⟨s2.toArray⟩);have hrow3:(w2.setCell ⟨W1.heap.size,3,none⟩ (.string ⟨s2.toArray⟩)).heap[W1.heap.size]? =some (.cells (gJ 8 0 0 s2 0 0 []) 231 (0,0)):=iO hrow2 3 _;generalize w2.setCell ⟨W1.heap.size,3,none⟩ (.string ⟨s2.toArray⟩)=w3 at lX hrow3 ⊢;obtain⟨xs,hown,wC,hrep⟩:=lX.nodes;obtain⟨c0,c1,c2,c3,c4,c5,c6⟩:=KR hrow3;obtain⟨p1,zP,yB,hBr⟩:=lX.four;have pJ:(q.length+1)*72<=140737488355328:=lu
    go_region_law (refine sK (8) (0) (0) (s2) (0) (0) ([]) lX pJ rfl rfl hown wC y9 y9 ?_;intro g cap w5 hown5 iM qj ql pW k5 z5)
    all_goals go_wp2
    all_goals go_ret
    all_goals exact zO he rfl (lX.put (((Below.refl _ w3).drew).alloc (aHv _) _) hown hrep hx hown5 iM qj ql)
   .obtain⟨s2,hs2,hs2'⟩:∃s2,Hid (s2=Sp.wordAt (f.drop 1) 0)/\s2=Sp.wordAt (f.drop 1) 0:=⟨_,rfl,rfl⟩;have nx:=Eb B P wr vf1 vn (f.drop 1) OD hR.cells hR.words;have hl2:=Me J5 0;rw[← hs2']at nx hl2;clear hs2';have he:Hid _:=UW (k:=k) (q:=q) hop.out lZ;rw[← hs2.out]at he;have hx:=vX (op:=9) (s:=s2) ⟨lZ,lZ⟩ n0 n0 y8 n0 n0 m0
    go_wp2_with (first
     |(go_at_call 336;refine nx.mono ?_;rintro e w2 ⟨rfl,WM,hf2,hP2,hst2⟩;obtain⟨hR2,OG⟩:=hR.next hf2 hP2 hst2;have hrow2:=OG.trans hrow;have z3:=eY hrow2 3;have d3:=aZ hrow2 3))
    have lX:=hR2.D5 3 (.string ⟨s2.toArray⟩);have hrow3:(w2.setCell ⟨W1.heap.size,3,none⟩ (.string ⟨s2.toArray⟩)).heap[W1.heap.size]? =some (.cells (gJ 9 0 0 s2 0 0 []) 231 (0,0)):=iO hrow2 3 _;generalize w2.setCell ⟨W1.heap.size,3,none⟩ (.string ⟨s2.toArray⟩)=w3 at lX hrow3 ⊢;obtain⟨xs,hown,wC,hrep⟩:=lX.nodes;obtain⟨c0,c1,c2,c3,c4,c5,c6⟩:=KR hrow3;obtain⟨p1,zP,yB,hBr⟩:=lX.four;have pJ:(q.length+1)*72<=140737488355328:=lu
    go_region_law (refine sK (9) (0) (0) (s2) (0) (0) ([]) lX pJ rfl rfl hown wC y9 y9 ?_;intro g cap w5 hown5 iM qj ql pW k5 z5)
    all_goals go_wp2
    all_goals go_ret
    all_goals exact zO he rfl (lX.put (((Below.refl _ w3).drew).alloc (aHv _) _) hown hrep hx hown5 iM qj ql)
   .obtain⟨s2,hs2,hs2'⟩:∃s2,Hid (s2=Sp.wordAt (f.drop 1) 0)/\s2=Sp.wordAt (f.drop 1) 0:=⟨_,rfl,rfl⟩;obtain⟨s3,hs3,atE⟩:∃s3,Hid (s3=Sp.wordAt ((f.drop 1).drop 1) 0)/\s3=Sp.wordAt ((f.drop 1).drop 1) 0:=⟨_,rfl,rfl⟩;have nx:=Eb B P wr vf1 vn (f.drop 1) OD hR.cells hR.words;have hl2:=Me J5 0;have hl3:=Me aCS 0;rw[← hs2']at nx hl2;rw[← atE]at hl3;clear hs2' atE;have he:Hid _:=aa3 (k:=k) (q:=q) hop.out lZ;rw[← hs2.out,← hs3.out]at he;have pv:=avN s3 lu;generalize bU s3=z at he pv;obtain⟨⟨v1,v2,v3,⟨⟩⟩,ok⟩:=z;dsimp only at pv
    go_wp2_with (first
     |(go_at_call 336;refine nx.mono ?_;rintro e w2 ⟨rfl,WM,hf2,hP2,hst2⟩;obtain⟨hR2,OG⟩:=hR.next hf2 hP2 hst2;have hrow2:=OG.trans hrow;have z3:=eY hrow2 3;have d3:=aZ hrow2 3;clear nx)
     |(have lX:=hR2.D5 3 (.string ⟨s2.toArray⟩);have hrow3:(w2.setCell ⟨W1.heap.size,3,none⟩ (.string ⟨s2.toArray⟩)).heap[W1.heap.size]? =some (.cells (gJ 3 0 0 s2 0 0 []) 231 (0,0)):=iO hrow2 3 _;have nx2:=Eb B P _ WM vn ((f.drop 1).drop 1) OD lX.cells lX.words;rw[← hs3.out]at nx2;go_at_call 336;refine nx2.mono ?_;rintro e w4 ⟨rfl,vf4,hf4,hP4,az4⟩;obtain⟨UX,hN4⟩:=lX.next hf4 hP4 az4;have hrow4:=hN4.trans hrow3;clear nx2)
     |(go_at_call 298;refine(pv _ UX.gl).mono ?_;rintro e w6 ⟨rfl,hb6,hv1,hv2,hv3⟩;have hR6:=UX.below hb6;have Fg:=(hb6.block _ UX.lt).trans hrow4;have y4:=eY Fg 4;have y5:=eY Fg 5;have y6:=eY Fg 6;have x4:w6.cell? ⟨W1.heap.size,4,none⟩=some (.int .i64 0):=aZ Fg 4;have x5:w6.cell? ⟨W1.heap.size,5,none⟩=some (.int .i64 0):=aZ Fg 5;have x6:w6.cell? ⟨W1.heap.size,6,none⟩=some (.string ⟨([]:List UInt8).toArray⟩):=aZ Fg 6))
    have hR7:=((hR6.D5 4 (.int .i64 v1)).D5 5 (.int .i64 v2)).D5 6 (.string ⟨v3.toArray⟩);have am0:(((w6.setCell ⟨W1.heap.size,4,none⟩ (.int .i64 v1)).setCell ⟨W1.heap.size,5,none⟩ (.int .i64 v2)).setCell ⟨W1.heap.size,6,none⟩ (.string ⟨v3.toArray⟩)).heap[W1.heap.size]? =some (.cells (gJ 3 0 0 s2 v1 v2 v3) 231 (0,0)):=iO (iO (iO Fg 4 _) 5 _) 6 _;have hx:=vX (op:=3) (s:=s2) ⟨lZ,lZ⟩ n0 n0 y8 hv1 hv2 hv3;generalize ((w6.setCell ⟨W1.heap.size,4,none⟩ (.int .i64 v1)).setCell ⟨W1.heap.size,5,none⟩ (.int .i64 v2)).setCell ⟨W1.heap.size,6,none⟩ (.string ⟨v3.toArray⟩)=w7 at hR7 am0 ⊢;clear x4 x5 x6 y4 y5 y6 d3 z3;obtain⟨xs,hown,wC,hrep⟩:=hR7.nodes;obtain⟨c0,c1,c2,c3,c4,c5,c6⟩:=KR am0;obtain⟨p1,zP,yB,hBr⟩:=hR7.four;have pJ:(q.length+1)*72<=140737488355328:=lu
    go_region_law (refine sK (3) (0) (0) (s2) (v1) (v2) (v3) hR7 pJ rfl rfl hown wC y9 y9 ?_;intro g cap w5 hown5 iM qj ql pW k5 z5)
    all_goals go_wp2
    all_goals go_ret
    all_goals exact zO he rfl (hR7.put (((Below.refl _ w7).drew).alloc (aHv _) _) hown hrep hx hown5 iM qj ql)
   .obtain⟨s2,hs2,hs2'⟩:∃s2,Hid (s2=Sp.wordAt (f.drop 1) 0)/\s2=Sp.wordAt (f.drop 1) 0:=⟨_,rfl,rfl⟩;obtain⟨s3,hs3,atE⟩:∃s3,Hid (s3=Sp.wordAt ((f.drop 1).drop 1) 0)/\s3=Sp.wordAt ((f.drop 1).drop 1) 0:=⟨_,rfl,rfl⟩;have nx:=Eb B P wr vf1 vn (f.drop 1) OD hR.cells hR.words;have hl2:=Me J5 0;have hl3:=Me aCS 0;rw[← hs2']at nx hl2;rw[← atE]at hl3;clear hs2' atE;have he:Hid _:=aa3 (k:=k) (q:=q) hop.out lZ;rw[← hs2.out,← hs3.out]at he;have pv:=avN s3 lu;generalize bU s3=z at he pv;obtain⟨⟨v1,v2,v3,⟨⟩⟩,ok⟩:=z;dsimp only at pv
    go_wp2_with (first
     |(go_at_call 336;refine nx.mono ?_;rintro e w2 ⟨rfl,WM,hf2,hP2,hst2⟩;obtain⟨hR2,OG⟩:=hR.next hf2 hP2 hst2;have hrow2:=OG.trans hrow;have z3:=eY hrow2 3;have d3:=aZ hrow2 3;clear nx)
     |(have lX:=hR2.D5 3 (.string ⟨s2.toArray⟩);have hrow3:(w2.setCell ⟨W1.heap.size,3,none⟩ (.string ⟨s2.toArray⟩)).heap[W1.heap.size]? =some (.cells (gJ 4 0 0 s2 0 0 []) 231 (0,0)):=iO hrow2 3 _;have nx2:=Eb B P _ WM vn ((f.drop 1).drop 1) OD lX.cells lX.words;rw[← hs3.out]at nx2;go_at_call 336;refine nx2.mono ?_;rintro e w4 ⟨rfl,vf4,hf4,hP4,az4⟩;obtain⟨UX,hN4⟩:=lX.next hf4 hP4 az4;have hrow4:=hN4.trans hrow3;clear nx2)
     |(go_at_call 298;refine(pv _ UX.gl).mono ?_;rintro e w6 ⟨rfl,hb6,hv1,hv2,hv3⟩;have hR6:=UX.below hb6;have Fg:=(hb6.block _ UX.lt).trans hrow4;have y4:=eY Fg 4;have y5:=eY Fg 5;have y6:=eY Fg 6;have x4:w6.cell? ⟨W1.heap.size,4,none⟩=some (.int .i64 0):=aZ Fg 4;have x5:w6.cell? ⟨W1.heap.size,5,none⟩=some (.int .i64 0):=aZ Fg 5;have x6:w6.cell? ⟨W1.heap.size,6,none⟩=some (.string ⟨([]:List UInt8).toArray⟩):=aZ Fg 6))
    have hR7:=((hR6.D5 4 (.int .i64 v1)).D5 5 (.int .i64 v2)).D5 6 (.string ⟨v3.toArray⟩);have am0:(((w6.setCell ⟨W1.heap.size,4,none⟩ (.int .i64 v1)).setCell ⟨W1.heap.size,5,none⟩ (.int .i64 v2)).setCell ⟨W1.heap.size,6,none⟩ (.string ⟨v3.toArray⟩)).heap[W1.heap.size]? =some (.cells (gJ 4 0 0 s2 v1 v2 v3) 231 (0,0)):=iO (iO (iO Fg 4 _) 5 _) 6 _;have hx:=vX (op:=4) (s:=s2) ⟨lZ,lZ⟩ n0 n0 y8 hv1 hv2 hv3;generalize ((w6.setCell ⟨W1.heap.size,4,none⟩ (.int .i64 v1)).setCell ⟨W1.heap.size,5,none⟩ (.int .i64 v2)).setCell ⟨W1.heap.size,6,none⟩ (.string ⟨v3.toArray⟩)=w7 at hR7 am0 ⊢;clear x4 x5 x6 y4 y5 y6 d3 z3;obtain⟨xs,hown,wC,hrep⟩:=hR7.nodes;obtain⟨c0,c1,c2,c3,c4,c5,c6⟩:=KR am0;obtain⟨p1,zP,yB,hBr⟩:=hR7.four;have pJ:(q.length+1)*72<=140737488355328:=lu
    go_region_law (refine sK (4) (0) (0) (s2) (v1) (v2) (v3) hR7 pJ rfl rfl hown wC y9 y9 ?_;intro g cap w5 hown5 iM qj ql pW k5 z5)
    all_goals go_wp2
    all_goals go_ret
    all_goals exact zO he rfl (hR7.put (((Below.refl _ w7).drew).alloc (aHv _) _) hown hrep hx hown5 iM qj ql)
   .have he:Hid _:=atD (k:=k) (q:=q) hop.out;have hcnt:=BI k (f.drop 1) q;have hrl:=UY k (f.drop 1) q;have hwl:=BJ k (f.drop 1) q J5;have hlp:=aeX hop.out lZ;have nd:=ih.out B P wr vf1 vn (f.drop 1) q lu hB8 OD hR.gl hR.cells hR.words hR.nodes J5 lu;generalize Sp.rd k (f.drop 1) q=z at he nd hcnt hwl hrl;obtain⟨b1,f2,q2⟩:=z;dsimp only at nd hcnt hwl
    go_wp2_with (first
     |(go_at_call 300;refine nd.mono ?_;rintro e w2 ⟨rfl,hd⟩;obtain⟨⟨WM,vn2,hR2⟩,OG⟩:=hR.read hd;obtain⟨a2,cap2,aa4⟩:=hR2.nodes.form;subst aa4;have hrow2:=OG.trans hrow;have p2:w2.cell? ⟨P,1,none⟩=some (.slice a2 q2.length cap2):=aZ hR2.cells 1;have y1:=eY hrow2 1;have x1:w2.cell? ⟨W1.heap.size,1,none⟩=some (.int .i64 0):=aZ hrow2 1;clear nd))
    have lX:=hR2.D5 1 (.int .i64 ((q2.length:Int)-1));have hrow3:(w2.setCell ⟨W1.heap.size,1,none⟩ (.int .i64 ((q2.length:Int)-1))).heap[W1.heap.size]? =some (.cells (gJ 5 ((q2.length:Int)-1) 0 [] 0 0 []) 231 (0,0)):=iO hrow2 1 _;have hx:=vX (op:=5) (l:=(q2.length:Int)-1) ⟨lZ,lZ⟩ ⟨lu,lu⟩ n0 m0 n0 n0 m0;generalize w2.setCell ⟨W1.heap.size,1,none⟩ (.int .i64 ((q2.length:Int)-1))=w3 at lX hrow3 ⊢;clear x1 y1 p2;obtain⟨xs,hown,wC,hrep⟩:=lX.nodes;obtain⟨c0,c1,c2,c3,c4,c5,c6⟩:=KR hrow3;obtain⟨p1,zP,yB,hBr⟩:=lX.four;have pJ:(q2.length+1)*72<=140737488355328:=lu
    go_region_law (refine sK (5) ((q2.length:Int)-1) (0) ([]) (0) (0) ([]) lX pJ rfl rfl hown wC y9 y9 ?_;intro g cap w5 hown5 iM qj ql pW k5 z5)
    all_goals go_wp2
    all_goals go_ret
    all_goals exact zO he rfl (lX.put (((Below.refl _ w3).drew).alloc (aHv _) _) hown hrep hx hown5 iM qj ql)
   .cases hb1:(Sp.rd k (f.drop 1) q).1 with
    |false=>
     have he:Hid _:=amX (k:=k) (q:=q) hop.out lZ hb1;have hcnt:=BI k (f.drop 1) q;have hrl:=UY k (f.drop 1) q;have hwl:=BJ k (f.drop 1) q J5;have hlp:=aeX hop.out lZ;have nd:=ih.out B P wr vf1 vn (f.drop 1) q lu hB8 OD hR.gl hR.cells hR.words hR.nodes J5 lu;generalize Sp.rd k (f.drop 1) q=z at he nd hcnt hwl hrl hb1;obtain⟨b1,f2,q2⟩:=z;dsimp only at nd hcnt hwl hrl hb1;subst hb1
     go_wp2_with (first
      |(go_at_call 300;refine nd.mono ?_;rintro e w2 ⟨rfl,hd⟩;obtain⟨⟨WM,vn2,hR2⟩,OG⟩:=hR.read hd;obtain⟨a2,cap2,aa4⟩:=hR2.nodes.form;subst aa4;have hrow2:=OG.trans hrow;have p2:w2.cell? ⟨P,1,none⟩=some (.slice a2 q2.length cap2):=aZ hR2.cells 1;have y1:=eY hrow2 1;have x1:w2.cell? ⟨W1.heap.size,1,none⟩=some (.int .i64 0):=aZ hrow2 1;have y2:=eY hrow2 2;have x2:w2.cell? ⟨W1.heap.size,2,none⟩=some (.int .i64 0):=aZ hrow2 2;clear nd))
     have lX:=(hR2.D5 1 (.int .i64 ((q2.length:Int)-1))).D5 2 (.int .i64 ((q2.length:Int)-1));have hrow3:((w2.setCell ⟨W1.heap.size,1,none⟩ (.int .i64 ((q2.length:Int)-1))).setCell ⟨W1.heap.size,2,none⟩ (.int .i64 ((q2.length:Int)-1))).heap[W1.heap.size]? =some (.cells (gJ 6 ((q2.length:Int)-1) ((q2.length:Int)-1) [] 0 0 []) 231 (0,0)):=iO (iO hrow2 1 _) 2 _;have hx:=vX (op:=6) (l:=((q2.length:Int)-1)) (r:=((q2.length:Int)-1)) ⟨lZ,lZ⟩ ⟨lu,lu⟩ ⟨lu,lu⟩ m0 n0 n0 m0;generalize (w2.setCell ⟨W1.heap.size,1,none⟩ (.int .i64 ((q2.length:Int)-1))).setCell ⟨W1.heap.size,2,none⟩ (.int .i64 ((q2.length:Int)-1))=w3 at lX hrow3 ⊢;clear x1 y1 x2 y2 p2;obtain⟨xs,hown,wC,hrep⟩:=lX.nodes;obtain⟨c0,c1,c2,c3,c4,c5,c6⟩:=KR hrow3;obtain⟨p1,zP,yB,hBr⟩:=lX.four;have pJ:(q2.length+1)*72<=140737488355328:=lu
     go_region_law (refine sK (6) ((q2.length:Int)-1) ((q2.length:Int)-1) ([]) (0) (0) ([]) lX pJ rfl rfl hown wC y9 y9 ?_;intro g cap w5 hown5 iM qj ql pW k5 z5)
     all_goals go_wp2
     all_goals go_ret
     all_goals exact zO he rfl (lX.put (((Below.refl _ w3).drew).alloc (aHv _) _) hown hrep hx hown5 iM qj ql)
    |true=>
     have he:Hid _:=afK (k:=k) (q:=q) hop.out lZ hb1;have hcnt:=BI k (f.drop 1) q;have hrl:=UY k (f.drop 1) q;have hwl:=BJ k (f.drop 1) q J5;have hlp:=aeX hop.out lZ;have nd:=ih.out B P wr vf1 vn (f.drop 1) q lu hB8 OD hR.gl hR.cells hR.words hR.nodes J5 lu;generalize Sp.rd k (f.drop 1) q=z at he nd hcnt hwl hrl hb1;obtain⟨b1,f2,q2⟩:=z;dsimp only at he nd hcnt hwl hrl hb1;subst hb1;have nd2:=λ(w:World)(RN vn':Value)(hr:MV B P W1.heap.size W vn.ownBlock w RN vn' f2 q2)=>ih.out B P w RN vn' f2 q2 lu hB8 OD hr.gl hr.cells hr.words hr.nodes hwl lu;have hcnt2:=BI k f2 q2;generalize Sp.rd k f2 q2=z2 at he nd2 hcnt2;obtain⟨b2,f3,q3⟩:=z2;dsimp only at he nd2 hcnt2
     go_wp2_with (first
      |(go_at_call 300;refine nd.mono ?_;rintro e w2 ⟨rfl,hd⟩;obtain⟨⟨WM,vn2,hR2⟩,OG⟩:=hR.read hd;obtain⟨a2,cap2,aa4⟩:=hR2.nodes.form;subst aa4;have hrow2:=OG.trans hrow;have p2:w2.cell? ⟨P,1,none⟩=some (.slice a2 q2.length cap2):=aZ hR2.cells 1;have y1:=eY hrow2 1;have x1:w2.cell? ⟨W1.heap.size,1,none⟩=some (.int .i64 0):=aZ hrow2 1;clear nd)
      |(have lX:=hR2.D5 1 (.int .i64 ((q2.length:Int)-1));have hrow3:(w2.setCell ⟨W1.heap.size,1,none⟩ (.int .i64 ((q2.length:Int)-1))).heap[W1.heap.size]? =some (.cells (gJ 6 ((q2.length:Int)-1) 0 [] 0 0 []) 231 (0,0)):=iO hrow2 1 _;go_at_call 300;refine(nd2 _ _ _ lX).mono ?_;rintro e w4 ⟨rfl,hd4⟩;obtain⟨⟨vf4,vn4,UX⟩,hN4⟩:=lX.read hd4;obtain⟨a4,cap4,az5⟩:=UX.nodes.form;subst az5;have hrow4:=hN4.trans hrow3;have p4:w4.cell? ⟨P,1,none⟩=some (.slice a4 q3.length cap4):=aZ UX.cells 1;have y2:=eY hrow4 2;have x2:w4.cell? ⟨W1.heap.size,2,none⟩=some (.int .i64 0):=aZ hrow4 2;clear nd2 p2 x1 y1))
     have UZ:=UX.D5 2 (.int .i64 ((q3.length:Int)-1));have tq:(w4.setCell ⟨W1.heap.size,2,none⟩ (.int .i64 ((q3.length:Int)-1))).heap[W1.heap.size]? =some (.cells (gJ 6 ((q2.length:Int)-1) ((q3.length:Int)-1) [] 0 0 []) 231 (0,0)):=iO hrow4 2 _;have hx:=vX (op:=6) (l:=((q2.length:Int)-1)) (r:=(q3.length:Int)-1) ⟨lZ,lZ⟩ ⟨lu,lu⟩ ⟨lu,lu⟩ m0 n0 n0 m0;generalize w4.setCell ⟨W1.heap.size,2,none⟩ (.int .i64 ((q3.length:Int)-1))=IB at UZ tq ⊢;clear x2 y2 p4;obtain⟨xs,hown,wC,hrep⟩:=UZ.nodes;have c0:IB.cell? ⟨W1.heap.size,0,none⟩=some (.int .i64 (6)):=aZ tq 0;have c1:IB.cell? ⟨W1.heap.size,1,none⟩=some (.int .i64 ((q2.length:Int)-1)):=aZ tq 1;have c2:IB.cell? ⟨W1.heap.size,2,none⟩=some (.int .i64 ((q3.length:Int)-1)):=aZ tq 2;have c3:IB.cell? ⟨W1.heap.size,3,none⟩=some (.string ⟨([]:List UInt8).toArray⟩):=aZ tq 3;have c4:IB.cell? ⟨W1.heap.size,4,none⟩=some (.int .i64 (0)):=aZ tq 4;have c5:IB.cell? ⟨W1.heap.size,5,none⟩=some (.int .i64 (0)):=aZ tq 5;have c6:IB.cell? ⟨W1.heap.size,6,none⟩=some (.string ⟨([]:List UInt8).toArray⟩):=aZ tq 6;have p1:IB.cell? ⟨P,1,none⟩=some (.slice a4 q3.length cap4):=aZ UZ.cells 1;have zP:=eY UZ.cells 1;have yB:P<IB.heap.size:=(aHz.1 UZ.cells).1;have hBr:B<=IB.heap.size:=lu;have pJ:(q3.length+1)*72<=140737488355328:=lu
     go_region_law (refine sK (6) ((q2.length:Int)-1) ((q3.length:Int)-1) ([]) (0) (0) ([]) UZ pJ rfl rfl hown wC y9 y9 ?_;intro g cap w5 hown5 iM qj ql pW k5 z5)
     all_goals go_wp2
     all_goals go_ret
     all_goals exact zO he rfl (UZ.put (((Below.refl _ IB).drew).alloc (aHv _) _) hown hrep hx hown5 iM qj ql)
   .cases hb1:(Sp.rd k (f.drop 1) q).1 with
    |false=>
     have he:Hid _:=amX (k:=k) (q:=q) hop.out lZ hb1;have hcnt:=BI k (f.drop 1) q;have hrl:=UY k (f.drop 1) q;have hwl:=BJ k (f.drop 1) q J5;have hlp:=aeX hop.out lZ;have nd:=ih.out B P wr vf1 vn (f.drop 1) q lu hB8 OD hR.gl hR.cells hR.words hR.nodes J5 lu;generalize Sp.rd k (f.drop 1) q=z at he nd hcnt hwl hrl hb1;obtain⟨b1,f2,q2⟩:=z;dsimp only at nd hcnt hwl hrl hb1;subst hb1
     go_wp2_with (first
      |(go_at_call 300;refine nd.mono ?_;rintro e w2 ⟨rfl,hd⟩;obtain⟨⟨WM,vn2,hR2⟩,OG⟩:=hR.read hd;obtain⟨a2,cap2,aa4⟩:=hR2.nodes.form;subst aa4;have hrow2:=OG.trans hrow;have p2:w2.cell? ⟨P,1,none⟩=some (.slice a2 q2.length cap2):=aZ hR2.cells 1;have y1:=eY hrow2 1;have x1:w2.cell? ⟨W1.heap.size,1,none⟩=some (.int .i64 0):=aZ hrow2 1;have y2:=eY hrow2 2;have x2:w2.cell? ⟨W1.heap.size,2,none⟩=some (.int .i64 0):=aZ hrow2 2;clear nd))
     have lX:=(hR2.D5 1 (.int .i64 ((q2.length:Int)-1))).D5 2 (.int .i64 ((q2.length:Int)-1));have hrow3:((w2.setCell ⟨W1.heap.size,1,none⟩ (.int .i64 ((q2.length:Int)-1))).setCell ⟨W1.heap.size,2,none⟩ (.int .i64 ((q2.length:Int)-1))).heap[W1.heap.size]? =some (.cells (gJ 7 ((q2.length:Int)-1) ((q2.length:Int)-1) [] 0 0 []) 231 (0,0)):=iO (iO hrow2 1 _) 2 _;have hx:=vX (op:=7) (l:=((q2.length:Int)-1)) (r:=((q2.length:Int)-1)) ⟨lZ,lZ⟩ ⟨lu,lu⟩ ⟨lu,lu⟩ m0 n0 n0 m0;generalize (w2.setCell ⟨W1.heap.size,1,none⟩ (.int .i64 ((q2.length:Int)-1))).setCell ⟨W1.heap.size,2,none⟩ (.int .i64 ((q2.length:Int)-1))=w3 at lX hrow3 ⊢;clear x1 y1 x2 y2 p2;obtain⟨xs,hown,wC,hrep⟩:=lX.nodes;obtain⟨c0,c1,c2,c3,c4,c5,c6⟩:=KR hrow3;obtain⟨p1,zP,yB,hBr⟩:=lX.four;have pJ:(q2.length+1)*72<=140737488355328:=lu
     go_region_law (refine sK (7) ((q2.length:Int)-1) ((q2.length:Int)-1) ([]) (0) (0) ([]) lX pJ rfl rfl hown wC y9 y9 ?_;intro g cap w5 hown5 iM qj ql pW k5 z5)
     all_goals go_wp2
     all_goals go_ret
     all_goals exact zO he rfl (lX.put (((Below.refl _ w3).drew).alloc (aHv _) _) hown hrep hx hown5 iM qj ql)
    |true=>
     have he:Hid _:=afK (k:=k) (q:=q) hop.out lZ hb1;have hcnt:=BI k (f.drop 1) q;have hrl:=UY k (f.drop 1) q;have hwl:=BJ k (f.drop 1) q J5;have hlp:=aeX hop.out lZ;have nd:=ih.out B P wr vf1 vn (f.drop 1) q lu hB8 OD hR.gl hR.cells hR.words hR.nodes J5 lu;generalize Sp.rd k (f.drop 1) q=z at he nd hcnt hwl hrl hb1;obtain⟨b1,f2,q2⟩:=z;dsimp only at he nd hcnt hwl hrl hb1;subst hb1;have nd2:=λ(w:World)(RN vn':Value)(hr:MV B P W1.heap.size W vn.ownBlock w RN vn' f2 q2)=>ih.out B P w RN vn' f2 q2 lu hB8 OD hr.gl hr.cells hr.words hr.nodes hwl lu;have hcnt2:=BI k f2 q2;generalize Sp.rd k f2 q2=z2 at he nd2 hcnt2;obtain⟨b2,f3,q3⟩:=z2;dsimp only at he nd2 hcnt2
     go_wp2_with (first
      |(go_at_call 300;refine nd.mono ?_;rintro e w2 ⟨rfl,hd⟩;obtain⟨⟨WM,vn2,hR2⟩,OG⟩:=hR.read hd;obtain⟨a2,cap2,aa4⟩:=hR2.nodes.form;subst aa4;have hrow2:=OG.trans hrow;have p2:w2.cell? ⟨P,1,none⟩=some (.slice a2 q2.length cap2):=aZ hR2.cells 1;have y1:=eY hrow2 1;have x1:w2.cell? ⟨W1.heap.size,1,none⟩=some (.int .i64 0):=aZ hrow2 1;clear nd)
      |(have lX:=hR2.D5 1 (.int .i64 ((q2.length:Int)-1));have hrow3:(w2.setCell ⟨W1.heap.size,1,none⟩ (.int .i64 ((q2.length:Int)-1))).heap[W1.heap.size]? =some (.cells (gJ 7 ((q2.length:Int)-1) 0 [] 0 0 []) 231 (0,0)):=iO hrow2 1 _;go_at_call 300;refine(nd2 _ _ _ lX).mono ?_;rintro e w4 ⟨rfl,hd4⟩;obtain⟨⟨vf4,vn4,UX⟩,hN4⟩:=lX.read hd4;obtain⟨a4,cap4,az5⟩:=UX.nodes.form;subst az5;have hrow4:=hN4.trans hrow3;have p4:w4.cell? ⟨P,1,none⟩=some (.slice a4 q3.length cap4):=aZ UX.cells 1;have y2:=eY hrow4 2;have x2:w4.cell? ⟨W1.heap.size,2,none⟩=some (.int .i64 0):=aZ hrow4 2;clear nd2 p2 x1 y1))
     have UZ:=UX.D5 2 (.int .i64 ((q3.length:Int)-1));have tq:(w4.setCell ⟨W1.heap.size,2,none⟩ (.int .i64 ((q3.length:Int)-1))).heap[W1.heap.size]? =some (.cells (gJ 7 ((q2.length:Int)-1) ((q3.length:Int)-1) [] 0 0 []) 231 (0,0)):=iO hrow4 2 _;have hx:=vX (op:=7) (l:=((q2.length:Int)-1)) (r:=(q3.length:Int)-1) ⟨lZ,lZ⟩ ⟨lu,lu⟩ ⟨lu,lu⟩ m0 n0 n0 m0;generalize w4.setCell ⟨W1.heap.size,2,none⟩ (.int .i64 ((q3.length:Int)-1))=IB at UZ tq ⊢;clear x2 y2 p4;obtain⟨xs,hown,wC,hrep⟩:=UZ.nodes;have c0:IB.cell? ⟨W1.heap.size,0,none⟩=some (.int .i64 (7)):=aZ tq 0;have c1:IB.cell? ⟨W1.heap.size,1,none⟩=some (.int .i64 ((q2.length:Int)-1)):=aZ tq 1;have c2:IB.cell? ⟨W1.heap.size,2,none⟩=some (.int .i64 ((q3.length:Int)-1)):=aZ tq 2;have c3:IB.cell? ⟨W1.heap.size,3,none⟩=some (.string ⟨([]:List UInt8).toArray⟩):=aZ tq 3;have c4:IB.cell? ⟨W1.heap.size,4,none⟩=some (.int .i64 (0)):=aZ tq 4;have c5:IB.cell? ⟨W1.heap.size,5,none⟩=some (.int .i64 (0)):=aZ tq 5;have c6:IB.cell? ⟨W1.heap.size,6,none⟩=some (.string ⟨([]:List UInt8).toArray⟩):=aZ tq 6;have p1:IB.cell? ⟨P,1,none⟩=some (.slice a4 q3.length cap4):=aZ UZ.cells 1;have zP:=eY UZ.cells 1;have yB:P<IB.heap.size:=(aHz.1 UZ.cells).1;have hBr:B<=IB.heap.size:=lu;have pJ:(q3.length+1)*72<=140737488355328:=lu
     go_region_law (refine sK (7) ((q2.length:Int)-1) ((q3.length:Int)-1) ([]) (0) (0) ([]) UZ pJ rfl rfl hown wC y9 y9 ?_;intro g cap w5 hown5 iM qj ql pW k5 z5)
     all_goals go_wp2
     all_goals go_ret
     all_goals exact zO he rfl (UZ.put (((Below.refl _ IB).drew).alloc (aHv _) _) hown hrep hx hown5 iM qj ql)
theorem aqr:∀k:Nat,Reads k
 |0=>λ_ _ _ _ _ _ _ h=>absurd h (aIg _)
 |k+1=>ayL k (aqr k)
theorem aBO(s:List UInt8)(X:s.length<=1048576)(w:World)(H:G.ok w):Calls prog 299 #[.string ⟨s.toArray⟩] w λe w'=>
 ∃v,e=.returned (.tuple #[v,.bool (lQ s)])/\FW w'.heap.size w' v (iI s)/\Below w.heap.size w w':=by
 have L:fF prog G 299 (iw qy.sh qy.dF qy.F):=acT.1;refine(L [.sv (.one (.str s))] (s.length<=1048576) _ 0 (λ_=>True) #[.string ⟨s.toArray⟩] w rfl X H ⟨⟨rfl,y8⟩,trivial⟩).mono ?_;rintro e w' ⟨v,r,rfl,E,O,U,j,M,F,_,_⟩;obtain⟨I,rfl,n⟩:=F;obtain⟨l⟩:=I
 match l,n with
 |[a,b],n=>
  obtain⟨d,J,_⟩:=n;have J:b=.bool (lQ s):=J;have d:dw w'.heap _ (.sl bF dZ) a (iI s):=d;refine⟨a,by rw[J],⟨d.1,?_⟩,E,O,U,j,M⟩;rcases d.2 with h|⟨b,m,y,A,t,fz,u,T,z,C,D⟩
  .exact .inl h
  .exact .inr ⟨b,m,y,A,t,fz,u,T,z.1.1,C,λi x Z=>aY.flat (S:=_) _ _ _ rfl (D i x Z)⟩
theorem aqs(h:NW B P w v q)(Q:q.length<=1000)(S:Nat->Prop)(l:∀b,B<=b->b<w.heap.size->unf w b->S b):dw w.heap S (.sl 231 dR) v q:=by
 obtain⟨xs,E,_,U⟩:=h;refine⟨y8,?_⟩;rcases E.2 with⟨e,T⟩|⟨g,y,cur,e,T,a,d,m,n,j⟩
 .exact .inl ⟨aH0.1 T,none,0,am1⟩
 .refine .inr ⟨g,0,y,cur,231,(0,0),e,d,l g T (aHz.1 a).1 (afu E (by rw[e];rfl)),a,λi x Z=>?_⟩;have D:=(aHN.1 Z).1;have:=U i x Z;rw[← j,aKf,aKj,aIQ lu]at this;rw[aIn];exact aY.flat (S:=λ_=>False) _ _ _ rfl this
theorem avO(v:Value)(q:List aA)(i:q.length<=1000)(w:World)(H:NW B P w v q)(l:G.ok w):Calls prog 183 #[v] w λe w'=>e=.returned (.bool (ax q))/\Below w.heap.size w w':=by have L:fF prog G 183 (iw jr.sh jr.dF jr.F):=rZ.1;refine(L [.sv (.one (.sl 231 dR q false))] (q.length<=2000000) _ 0 (λ_=>True) #[v] w rfl lu l ⟨aqs H i _ λb _ J _=>⟨⟨J,λ_=>trivial,λo x Z=>O6⟩,λh=>zH⟩,trivial⟩).mono ?_;rintro e w' ⟨v,d,rfl,E,O,U,j,M,a,_,_⟩;have a:v=.bool (ax q):=a;exact⟨by rw[a],E,O,U,j,M⟩
theorem FW.form(h:FW B w v f):∃a y,v=.slice a f.length y:=by
 rcases h.2 with⟨rfl,a,c,e⟩|⟨b,m,y,A,t,fz,e,_⟩
 .exact⟨a,c,e⟩
 .exact⟨_,_,e⟩
theorem SY{d:World}{o:Obj}{i:World}(a:Below w.heap.size w d)(j:Done d.heap.size d.heap.size (d.alloc o) none f q i):Below w.heap.size w i:=by obtain⟨_,_,_,_,_,h,_⟩:=j;have X:(d.alloc o).heap.size=d.heap.size+1:=vk;exact⟨h.os.trans a.os,h.tape.trans a.tape,h.output.trans a.output,by have:=h.size;have:=a.size;omega,λb J=>(h.block b (by have:=a.size;omega) (by have:=a.size;omega) (λe=>Q7)).trans ((heap_alloc_old d o (by have:=a.size;omega)).trans (a.block b J))⟩
theorem am5(B P:Nat)(w:World):NW B P w (.slice none 0 0) []/\([]:List aA).length<=1000:=⟨⟨[],aJE w B 231 7,(λe=>Q7),λi x Z=>by simp at Z⟩,aHV _⟩
theorem NW.base{b a:Nat}(h:NW B P w v q)(j:b<=B)(l:w.heap.size<=a):NW b a w v q:=by have Q:=λg d=>h.lt (g:=g) d;obtain⟨xs,⟨E,O⟩,_,U⟩:=h;refine⟨xs,⟨E,O.imp id λ⟨g,y,cur,e,T,i⟩=>⟨g,y,cur,e,aHw j T,i⟩⟩,λe=>?_,U⟩;have:=(Q a e).2.1;omega
set_option maxHeartbeats 16000000 in
set_option maxRecDepth 100000 in
theorem axf(s:List UInt8)(hs:s.length<=1048576)(w:World)(hG:G.ok w):Calls prog 260 #[.string ⟨s.toArray⟩] w λe w'=>
 ∃v,e=.returned (.tuple #[v,.bool (iE s)])/\Below w.heap.size w w'/\NW w.heap.size w'.heap.size w' v (iJ s)/\(iJ s).length<=1000:=by
 have mixed:=Tryz.mixed;have sf:=aBO s hs w hG;cases hok:lQ s with
 |false=>
  have e1:iE s=false:=by unfold iE;rw[hok];rfl
  have e2:iJ s=[]:=by unfold iJ;rw[e1];rfl
  rw[hok]at sf;rw[e1,e2];clear e1 e2 hok
  go_enter Tryz.func260,Tryz.ntmps260
  go_wp2_with (first
   |(go_at_call 299;refine sf.mono ?_;rintro e w1 ⟨v,rfl,-,hb1⟩))
  all_goals go_ret2
  all_goals exact⟨_,rfl,hb1,am5 _ _ _⟩
 |true=>
  have hpq:Hid (iE s=((Ht (Sp.wordsOf s)).1&&(!decide (((Ht (Sp.wordsOf s)).2.1.length:Int)>0)&&ax (Ht (Sp.wordsOf s)).2.2))):=by show _=_;unfold iE;rw[hok,aIK]
  have hpl:Hid (iJ s=bif iE s then(Ht (Sp.wordsOf s)).2.2 else[]):=rfl;obtain⟨hw,hl,_⟩:=ahH hok;have hws:∀x∈Sp.wordsOf s,x.1.length<=1000:=λx hx=>aHw (aaf x hx) (aHw (uN.1 hok).1 lZ);have aFY:(Sp.wordsOf s).length<=24:=by rw[yx];have:=(uN.1 hok).2.2;omega
  rw[hok,hw]at sf;clear hok hw;generalize iE s=pq at hpq hpl ⊢;generalize iJ s=pl at hpl ⊢;generalize Sp.wordsOf s=f at sf hpq hpl hl hws aFY;have hcnt:=BI (f.length+1) f [];unfold Ht at hpq hpl;generalize hz:Sp.rd (f.length+1) f []=z at hpq hpl hcnt;obtain⟨b1,f2,q2⟩:=z;dsimp only at hpq hpl hcnt;have hz:Hid (Sp.rd (f.length+1) f []=(b1,f2,q2)):=hz;have n8:=G.low w hG;have nd:∀(W:World)(vf:Value)(P:Nat),w.heap.size<=P->G.ok W->W.heap[P]? =some (.cells #[vf,.slice none 0 0] 332 (0,0))->FW P W vf f->Calls prog 300 #[.pointer (some ⟨P,0,none⟩)] W λe w'=>e=.returned (.bool b1)/\Done P P W none f2 q2 w':=λW vf P hP hG2 hc hf=>by have:=aqr (f.length+1) P P W vf (.slice none 0 0) f [] (aIY _) (aHw n8 hP) (aHv _) hG2 hc hf ⟨[],aJE W P 231 7,(λe=>Q7),λi x hx=>by simp at hx⟩ hws (by rw[aHG];omega);rw[hz.out]at this;exact this
  go_enter Tryz.func260,Tryz.ntmps260
  cases b1 with
  |false=>
   go_wp2_with (first
    |(go_at_call 299;refine sf.mono ?_;rintro e w1 ⟨v,rfl,hf1,hb1⟩;obtain⟨a1,c1,hv1⟩:=hf1.form;subst hv1;clear sf)
    |(go_at_call 300;refine(nd _ (.slice a1 f.length c1) w1.heap.size hb1.size (fC (fC hG hb1) ((Below.refl _ _).alloc (aHv _) _)) (aH6 w1 _) (hf1.keep λb hb=>heap_alloc_old w1 _ hb)).mono ?_;rintro e w2 ⟨rfl,hd⟩))
   all_goals go_ret2
   all_goals exact⟨_,by rw[show pq=false from hpq.out];rfl,SY hb1 hd,by rw[show pl=[] by rw[hpl.out,hpq.out];rfl];exact am5 _ _ _⟩
  |true=>
   rcases aIM f2.length with h0|h0
   .obtain rfl:f2=[]:=aH0.1 h0;clear h0;cases hq:ax q2 with
    |false=>
     go_wp2_with (first
      |(go_at_call 299;refine sf.mono ?_;rintro e w1 ⟨v,rfl,hf1,hb1⟩;obtain⟨a1,c1,hv1⟩:=hf1.form;subst hv1;clear sf)
      |(go_at_call 300;refine(nd _ (.slice a1 f.length c1) w1.heap.size hb1.size (fC (fC hG hb1) ((Below.refl _ _).alloc (aHv _) _)) (aH6 w1 _) (hf1.keep λb hb=>heap_alloc_old w1 _ hb)).mono ?_;rintro e w2 ⟨rfl,hd⟩;obtain⟨WM,vn2,hc2,hf2,hn2,hst2⟩:=id hd;obtain⟨a2,c2,hv2⟩:=hf2.form;obtain⟨a3,c3,hv3⟩:=hn2.form;subst hv2 hv3;have p0:w2.cell? ⟨w1.heap.size,0,none⟩=some (.slice a2 0 c2):=aZ hc2 0;have p1:w2.cell? ⟨w1.heap.size,1,none⟩=some (.slice a3 q2.length c3):=aZ hc2 1;have hdb:=SY hb1 hd)
      |(go_at_call 183;refine(avO (.slice a3 q2.length c3) q2 lu w2 hn2 (fC hG hdb)).mono ?_;rintro e w3 ⟨rfl,hb3⟩;rw[hq]))
     all_goals go_ret2
     all_goals exact⟨_,by rw[show pq=false by rw[hpq.out,hq];rfl];rfl,hdb.trans (hb3.mono hdb.size),by rw[show pl=[] by rw[hpl.out,hpq.out,hq];rfl];exact am5 _ _ _⟩
    |true=>
     go_wp2_with (first
      |(go_at_call 299;refine sf.mono ?_;rintro e w1 ⟨v,rfl,hf1,hb1⟩;obtain⟨a1,c1,hv1⟩:=hf1.form;subst hv1;clear sf)
      |(go_at_call 300;refine(nd _ (.slice a1 f.length c1) w1.heap.size hb1.size (fC (fC hG hb1) ((Below.refl _ _).alloc (aHv _) _)) (aH6 w1 _) (hf1.keep λb hb=>heap_alloc_old w1 _ hb)).mono ?_;rintro e w2 ⟨rfl,hd⟩;obtain⟨WM,vn2,hc2,hf2,hn2,hst2⟩:=id hd;obtain⟨a2,c2,hv2⟩:=hf2.form;obtain⟨a3,c3,hv3⟩:=hn2.form;subst hv2 hv3;have p0:w2.cell? ⟨w1.heap.size,0,none⟩=some (.slice a2 0 c2):=aZ hc2 0;have p1:w2.cell? ⟨w1.heap.size,1,none⟩=some (.slice a3 q2.length c3):=aZ hc2 1;have hdb:=SY hb1 hd)
      |(go_at_call 183;refine(avO (.slice a3 q2.length c3) q2 lu w2 hn2 (fC hG hdb)).mono ?_;rintro e w3 ⟨rfl,hb3⟩;rw[hq];have p3:w3.cell? ⟨w1.heap.size,1,none⟩=some (.slice a3 q2.length c3):=aZ ((hb3.block _ (aHz.1 hc2).1).trans hc2) 1))
     all_goals go_ret2
     all_goals refine⟨_,by rw[show pq=true by rw[hpq.out,hq];rfl];rfl,hdb.trans (hb3.mono hdb.size),?_⟩
     all_goals rw[show pl=q2 by rw[hpl.out,hpq.out,hq];rfl]
     all_goals exact⟨(hn2.keep λg hg=>hb3.block g (hn2.lt hg).2.1).base hb1.size (aHv _),lu⟩
   .have hpos:(0:Int)<(f2.length:Int):=lu
    go_wp2_with (first
     |(go_at_call 299;refine sf.mono ?_;rintro e w1 ⟨v,rfl,hf1,hb1⟩;obtain⟨a1,c1,hv1⟩:=hf1.form;subst hv1;clear sf)
     |(go_at_call 300;refine(nd _ (.slice a1 f.length c1) w1.heap.size hb1.size (fC (fC hG hb1) ((Below.refl _ _).alloc (aHv _) _)) (aH6 w1 _) (hf1.keep λb hb=>heap_alloc_old w1 _ hb)).mono ?_;rintro e w2 ⟨rfl,hd⟩;obtain⟨WM,vn2,hc2,hf2,hn2,hst2⟩:=id hd;obtain⟨a2,c2,hv2⟩:=hf2.form;subst hv2;have p0:w2.cell? ⟨w1.heap.size,0,none⟩=some (.slice a2 f2.length c2):=aZ hc2 0;have hdb:=SY hb1 hd))
    all_goals go_ret2
    all_goals have hpf:pq=false:=by rw[hpq.out,aHF (show(f2.length:Int)>0 from hpos)];rfl
    all_goals exact⟨_,by rw[hpf];rfl,hdb,by rw[show pl=[] by rw[hpl.out,hpf];rfl];exact am5 _ _ _⟩
theorem az6{h:Array Obj}{S S':Nat->Prop}(n:∀b,S b->S' b)(H:dw h S (.sl 231 dR) v q):dw h S' (.sl 231 dR) v q:=by
 refine⟨H.1,?_⟩;rcases H.2 with e|⟨b,m,y,A,t,fz,a,T,d,j,l⟩
 .exact .inl e
 .exact .inr ⟨b,m,y,A,t,fz,a,T,n b d,j,λi x Z=>aY.flat (S:=S) _ _ _ rfl (l i x Z)⟩
theorem ae3:fF prog G af2 OV:=by
 intro args p m k S I w n C A d;unfold OV iw zf at n;split at n
 .next x Z=>
  obtain⟨s,⟨⟩⟩:=x;have K:=Ig Am args _ I.toList Z d
  match hvs:I.toList,K with
  |[v],K=>
   have z:v=.string ⟨s.toArray⟩:=K.1.1;have T:I=#[.string ⟨s.toArray⟩]:=by obtain⟨l⟩:=I;simp at hvs;rw[hvs,z]
   subst T;have r:=Option.some.inj n;have j:p=(s.length<=1048576):=(congrArg Prod.fst r).symm;have a:m=⟨[(false,[.plain (.sl 231 dR (iJ s) true)]),(false,[.plain (.bool (iE s))])],none⟩:=(congrArg Prod.snd r).symm;subst j a;refine(axf s C w A).mono ?_;rintro e w' ⟨u,rfl,J,H,i⟩;have D:=aqs H i (λb=>w.heap.size<=b/\b<w'.heap.size/\unf w' b) λb E O U=>⟨E,O,U⟩;refine⟨_,λ_=>undef,rfl,J.os,J.tape,J.output,J.size,J.block,?_,(λo x Z=>O6),(λo x q y b Z=>O6)⟩;exact⟨_,rfl,az6 (λb J=>⟨⟨J.2.1,λh=>absurd h (aJC.2 J.1),λo x Z=>O6⟩,λ_=>⟨J.1,J.2.2⟩⟩) D,rfl,trivial⟩
 .cases n
end Go.Proofs.Tryz
namespace Go.Proofs.Tryz
open Go Go.Fw Go.IntWalk Sp
theorem avP(n:Nat):((n:Int).tmod 2 !=0)=!(n%2==0):=by
 have e:(n:Int).tmod 2=((n%2:Nat):Int):=rfl;rw[e];cases h:n%2 with
 |zero=>rfl
 |succ k=>rw[show((k+1:Nat)==0)=false from rfl];exact aI0.2 lu
theorem QK{w:Sp.LS}{n:Nat}(h:n<w.length):(w.getD n ([],())).1=Sp.wordAt w n:=by rw[xB lu,aHB]
theorem as6{w:Sp.LS}{n:Nat}(h:n+1<w.length):w.drop n=w.getD n ([],())::w.getD (n+1) ([],())::w.drop (n+2):=by rw[drop_cons w n ([],()) lu,drop_cons w (n+1) ([],()) h]
theorem apj:OK zL.e:=by
 refine aO [oU.e,(yu,.pure uS)] ⟨QO,⟨CP,Io⟩,⟨⟩⟩ arn λw=>show zL.goal (apk w) (w,())fromλN C=>?_
 dsimp only[zL]at C ⊢;obtain⟨Q,L⟩:w.length<=1048577/\∀x∈w,x.1.length<=1048576:=C;have z:(decide ((w.length:Int)<4)||!(w.length%2==0))=true->((((0,0,false,0,[],()):aF),false,()):aF×Bool×Unit)=((kL w).1,(kL w).2,()):=λh=>by unfold kL;rw[h];rfl
 refine⟨λ_=>4<=w.length/\w.length%2=0,af (λh=>z aqO) λh=>⟨lZ,af (λO=>z ?_) λO=>⟨rfl,?_⟩⟩,?_⟩
 .rw[avP]at O;rw[O,Bool.or_true]
 .rw[avP]at O;exact⟨afi,aHE.1 (bI O)⟩
 rintro⟨⟨⟩,⟨⟩⟩ ⟨h4,aEn⟩;have t:kL w=((Sp.numAt w 0,Sp.numAt (w.drop 1) 0,Sp.wordAt (w.drop 1) 1==[115],Sp.numAt (w.drop 1) 2,jM (w.drop 4),()),(bW (Sp.wordAt w 0)&&(bW (Sp.wordAt w 1)&&bW (Sp.wordAt w 3)))&&AZ (w.drop 4)):=by unfold kL;rw[aHD (show ¬((w.length:Int)<4)from lu),aEn];show(Om _ _,_)=_;unfold Om;rw[aJV]
 have s:∀i:Int,0<=i->Sp.wordAt (w.drop 1) i=Sp.wordAt w (1+i):=λi D=>Sp.xE w 1 i lZ D;have o:∀v i,Sp.numAt v i=Sp.parseNum (Sp.wordAt v i):=λ_ _=>rfl;rw[o,o,o,s 0 lZ,s 1 lZ,s 2 lZ]at t;have A:(w.getD 0 ([],())).1=Sp.wordAt w 0:=QK lu;have B:(w.getD 1 ([],())).1=Sp.wordAt w 1:=QK lu;have E:(w.getD 2 ([],())).1=Sp.wordAt w 2:=QK lu;have F:(w.getD 3 ([],())).1=Sp.wordAt w 3:=QK lu;have M:Int.toNat (0:Int)=0:=rfl;have P:Int.toNat (1:Int)=1:=rfl;have R:Int.toNat (2:Int)=2:=rfl;have S:Int.toNat (3:Int)=3:=rfl;rw[t];refine⟨⟨lZ,lu⟩,trivial,⟨lZ,lu⟩,trivial,⟨lZ,lu⟩,trivial,⟨lZ,lu⟩,?_⟩;dsimp only;rw[M,P,R,S,A,B,E,F];refine⟨λy=>y=((bW (Sp.wordAt w 0)&&(bW (Sp.wordAt w 1)&&bW (Sp.wordAt w 3)),()),()),?_,?_⟩
 .cases bW (Sp.wordAt w 0)with
  |false=>exact⟨rfl,rfl⟩
  |true=>cases bW (Sp.wordAt w 1)<;>exact⟨rfl,rfl⟩
 rintro _ rfl;generalize (bW (Sp.wordAt w 0)&&(bW (Sp.wordAt w 1)&&bW (Sp.wordAt w 3)))=e;refine⟨λy=>∃(n:Nat)(g:Bool)(k:List dL),y=((g,((4+2*n:Nat):Int),()),(Sp.parseNum (Sp.wordAt w 0),Sp.parseNum (Sp.wordAt w 1),Sp.wordAt w 2==[115],Sp.parseNum (Sp.wordAt w 3),(),()),k,())/\4+2*n<=w.length/\k.length=n/\
  k++jM (w.drop (4+2*n))=jM (w.drop 4)/\(g&&AZ (w.drop (4+2*n)))=(e&&AZ (w.drop 4)),λy=>((w.length:Int)-y.1.2.1).toNat,⟨0,e,[],rfl,h4,rfl,rfl,rfl⟩,?_⟩
 rintro _ ⟨n,g,k,rfl,H,q,d,a⟩;dsimp only;refine af (λh=>?_) λh=>?_
 .have hlt:=fG h;have f:4+2*n+1<w.length:=lu;have l:IntKind.i64.wrap (((4+2*n:Nat):Int)+1)=((4+2*n+1:Nat):Int):=(wrap_in lu).trans lu;have T:IntKind.i64.wrap (((4+2*n:Nat):Int)+2)=((4+2*(n+1):Nat):Int):=(wrap_in lu).trans lu;rw[l,T,aHB,aHB];have u:=as6 f;have r:w.drop (4+2*n+2)=w.drop (4+2*(n+1)):=by rw[show 4+2*n+2=4+2*(n+1)from lu]
  rw[r]at u;rw[u]at d a;have I:jM (w.getD (4+2*n) ([],())::w.getD (4+2*n+1) ([],())::w.drop (4+2*(n+1)))=((w.getD (4+2*n) ([],())).1,(bU (w.getD (4+2*n+1) ([],())).1).1)::jM (w.drop (4+2*(n+1))):=rfl;have K:AZ (w.getD (4+2*n) ([],())::w.getD (4+2*n+1) ([],())::w.drop (4+2*(n+1)))=((bU (w.getD (4+2*n+1) ([],())).1).2&&AZ (w.drop (4+2*(n+1)))):=rfl;rw[I]at d;rw[K]at a;refine⟨⟨lu,lu⟩,L _ (getD_mem f),⟨lu,lu⟩,xM Zm,?_⟩;have next:∀b:Bool,(b&&AZ (w.drop (4+2*(n+1))))=(e&&AZ (w.drop 4))->∃(m:Nat)(g:Bool)(j:List dL),((b,((4+2*(n+1):Nat):Int),()),(Sp.parseNum (Sp.wordAt w 0),Sp.parseNum (Sp.wordAt w 1),Sp.wordAt w 2==[115],Sp.parseNum (Sp.wordAt w 3),(),()),k++[((w.getD (4+2*n) ([],())).1,(bU (w.getD (4+2*n+1) ([],())).1).1)],())=((g,((4+2*m:Nat):Int),()),(Sp.parseNum (Sp.wordAt w 0),Sp.parseNum (Sp.wordAt w 1),Sp.wordAt w 2==[115],Sp.parseNum (Sp.wordAt w 3),(),()),j,())/\4+2*m<=w.length/\j.length=m/\
   j++jM (w.drop (4+2*m))=jM (w.drop 4)/\(g&&AZ (w.drop (4+2*m)))=(e&&AZ (w.drop 4)):=λb J=>
   ⟨n+1,b,_,rfl,lu,by rw[aHu,aHx,aHG,q],by rw[aHO];exact d,J⟩
  cases g with
  |true=>exact⟨rfl,next _ (by rw[← a,aIK]),lu⟩
  |false=>exact⟨rfl,next _ (by rw[← a,aIO,aIO]),lu⟩
 .have hge:4+2*n=w.length:=afi;rw[hge,aJ6]at d a;have l:k=jM (w.drop 4):=by rw[← d];exact(aH1 _).symm
  have T:g=(e&&AZ (w.drop 4)):=by rw[← a];exact(aIV _).symm
  rw[l,T];rfl
set_option maxRecDepth 100000
theorem six(a b c d e f:UInt8):([a,b,c,d,e,f]:List UInt8).length=6:=rfl
theorem Ux:OK rE.e:=by
 refine aO [] ⟨⟩ anb λa b=>show rE.goal (ajZ a b) (a,b,())fromλN C=>?_
 dsimp only[rE]at C ⊢;have Y:a.length<=maxLen:=N.1.1;rw[maxLen_eq]at Y;refine af (λh=>?_) λh=>?_
 .have h:(a.length:Int)≠b.length:=y7;exact congrArg (·,()) (aHD λe=>h am1).symm
 .have h:(a.length:Int)=b.length:=y7;exact afJ (K:=λr=>r=(decide (a=b),())) (λx y=>!(x.1==y.1)) (λx y=>by simp[aJR]) _ a b _ Y lu (λe=>by rw[aHD e]) λe=>by rw[aHF e]
theorem ac1:OK Ap.e:=by
 refine aO [l7.e] ⟨zD,⟨⟩⟩ H0 λa b=>show Ap.goal (ac2 a b) ((a,b,()),())fromλN C=>?_
 dsimp only[Ap]at C ⊢;have Q:a.length<=1048576:=C;have d:∀z:List UInt8,jF++32::(a++32::z)=[102,105,101,108,100,32]++a++32::z:=λz=>by rw[aHO];rfl
 have e:eF (a,b,())=bif !dP a then[]else bif b==1 then[102,105,101,108,100,32]++a++[32,105,110,116]else bif b==2 then[102,105,101,108,100,32]++a++[32,115,116,114,105,110,103]else[]:=by show(bif !dP a then[]else bif b==1 then jF++32::(a++32::Wh)else bif b==2 then jF++32::(a++32::vY)else[])=_;rw[d,d];rfl
 refine⟨trivial,?_⟩;rw[e];refine af (λh=>aqO) λh=>af (λE=>⟨cO (by rw[six];omega),cO (by rw[aHu,six,aHx,aHx,aHx,aHx,aHG];omega),by rw[h,E];rfl⟩) λE=>af (λO=>⟨cO (by rw[six];omega),cO (by simp only[aHu,aHx,aHG];omega),by rw[h,E,O];rfl⟩) λO=>by rw[h,E,O];rfl
theorem ac3:OK Aq.e:=by
 refine aO [l9.e] ⟨zF,⟨⟩⟩ H0 λa b=>show Aq.goal (ac4 a b) ((a,b,()),())fromλN C=>?_
 dsimp only[Aq]at C ⊢;have Q:a.length<=1048576:=C;have d:∀z:List UInt8,jF++32::(a++32::z)=[102,105,101,108,100,32]++a++32::z:=λz=>by rw[aHO];rfl
 have e:eF (a,b,())=bif !dP a then[]else bif b==1 then[102,105,101,108,100,32]++a++[32,105,110,116]else bif b==2 then[102,105,101,108,100,32]++a++[32,115,116,114,105,110,103]else[]:=by show(bif !dP a then[]else bif b==1 then jF++32::(a++32::Wh)else bif b==2 then jF++32::(a++32::vY)else[])=_;rw[d,d];rfl
 refine⟨trivial,?_⟩;rw[e];refine af (λh=>aqO) λh=>af (λE=>⟨cO (by rw[six];omega),cO (by rw[aHu,six,aHx,aHx,aHx,aHx,aHG];omega),by rw[h,E];rfl⟩) λE=>af (λO=>⟨cO (by rw[six];omega),cO (by simp only[aHu,aHx,aHG];omega),by rw[h,E,O];rfl⟩) λO=>by rw[h,E,O];rfl
theorem ae5:OK BU.e:=by
 refine aO [nO.e,nM.e] ⟨Gp,wB,⟨⟩⟩ ag8 λk m j q f=>show BU.goal (ae6 k m j q f) ((k,m,j,q,f,()),())fromλN C=>?_
 dsimp only[BU]at C ⊢;obtain⟨Q,r⟩:f.length<=1048576/\(iZ f).length<=1073741824:=C;have x:=JF (n:=k) N.1.1;have z:=JF (n:=m) N.1.2.1;have A:=JF (n:=q) N.1.2.2.2.1;have M:∀a b c d e:UInt8,([a,b,c,d,e]:List UInt8).length=5:=λ_ _ _ _ _=>rfl;have U:∀a b c:UInt8,([a,b,c]:List UInt8).length=3:=λ_ _ _=>rfl;have E:([32]:List UInt8).length=1:=rfl;refine⟨trivial,cO (by rw[M];omega),cO (by rw[aHu,M,E];omega),trivial,cO (by rw[aHu,aHu,M,E];omega),
  jq (([102,105,108,101,32]++Lib.itoa k++[32]++Lib.itoa m++[32,(bif j then 115 else 111),32],()),()) ?_ ?_⟩
 .cases j with
  |true=>exact⟨cO ah1,rfl,rfl⟩
  |false=>exact⟨cO ah1,rfl,rfl⟩
 refine⟨trivial,cO ah1,?_⟩;have t:([102,105,108,101,32]++Lib.itoa k++[32]++Lib.itoa m++[32,(bif j then 115 else 111),32]++Lib.itoa q:List UInt8).length<=80:=ah1;have g:iK (k,m,j,q,f,())=[102,105,108,101,32]++Lib.itoa k++[32]++Lib.itoa m++[32,(bif j then 115 else 111),32]++Lib.itoa q++iZ f:=by
  have h:iK (k,m,j,q,f,())=mY++32::(Lib.itoa k++32::Lib.join (ng (k,m,j,q,f,())) [32]):=by unfold iK;rw[show ng (k,m,j,q,f,())=Lib.itoa m::((bif j then[115]else[111])::Lib.itoa q::fP f)from rfl,sN,sN]
  rw[h,aqu];cases j<;>simp[mY]
 generalize ([102,105,108,101,32]++Lib.itoa k++[32]++Lib.itoa m++[32,(bif j then 115 else 111),32]++Lib.itoa q:List UInt8)=H at t g ⊢;rw[g];refine dI (mk:=λi(s:List UInt8)=>((s,i,()),())) (λy=>y.1.2.1) (λ_ _=>rfl) f.length lu (λn s=>s=H++iZ (f.take n)) (by rw[aKi];exact(aH1 _).symm) (λI P n s w o next=>?_) λI P s o=>?_
 .subst o;have l:=@apo f (n+1);have u:=ayO w;rw[u]at l;simp only[aHu,aHx]at l;dsimp only;rw[aHB];have D:(0:Int)<=n/\(n:Int)<f.length:=lu;refine bT lu ⟨cO aiv,D,cO aiv,cO aiv,D,trivial,cO aiv,rfl,next _ ?_⟩;rw[u];simp
 .subst o;dsimp only;rw[aIa (aHv _)];exact bP lu rfl
theorem MW(a:List (List UInt8))(x:List UInt8):Sp.ls (a++[x])=Sp.ls a++[(x,())]:=by rw[Sp.atI];rfl
theorem map_take{α a:Type}(f:α->a)(l:List α){n:Nat}(h:n<l.length)(d:α):(l.take (n+1)).map f=(l.take n).map f++[f (l.getD n d)]:=by rw[aIi h,aIk,aHI,aHK h];rfl
theorem avR{x:bM}(h:dS x=true){f:aF}(q:f∈x.2.1):f.2.2.2.2.1.length<=1048576/\(iZ f.2.2.2.2.1).length<=1073741824:=by
 obtain⟨a,d⟩:=(JG h).2.1 f q;have:=abf _ (Bc.1 a).1;have b:(iZ f.2.2.2.2.1).length<=yD (fP f.2.2.2.2.1):=by
  rw[← abg];have:∀w:List (List UInt8),(Lib.joinTail [32] w).length<=yD w:=by
   intro w
   induction w with
   |nil=>exact aHV _
   |cons y r ih=>show([32]++y++Lib.joinTail [32] r).length<=_;rw[lM,aHu,aHu,aHx,aHG];omega
  exact this _
 exact⟨lu,lu⟩
theorem BF:OK jT.e:=by
 refine aO [Ak.e,BR.e,pY.e,Aq.e,je.e] ⟨acX,ae1,CV,ac3,tu,⟨⟩⟩ Za λk t m g=>show jT.goal (XP k t m g) ((k,t,m,g,()),())fromλN C=>?_
 dsimp only[jT]at C ⊢;have C:fJ (k,t,m,g,()):=C;refine⟨Ov C,af (λh=>?_) λh=>?_⟩
 .have h:dS (k,t,m,g,())=false:=dD h;rw[ayP h]
 have h:dS (k,t,m,g,())=true:=bI h;obtain⟨w,D,z,A,E,F,J⟩:=JG h;have u:=λf q=>avR h (f:=f) q;rw[Zb h];dsimp only at w D z A E F J u;have H:=(jV z).2.2.2.2;have M:∀a b c d e:UInt8,([a,b,c,d,e]:List UInt8).length=5:=λ_ _ _ _ _=>rfl;have j:∀a b c d:UInt8,([a,b,c,d]:List UInt8).length=4:=λ_ _ _ _=>rfl;have one:∀x:List UInt8×Unit,[x].length=1:=λ_=>rfl;refine dI (mk:=λi(s:Sp.LS)=>(((),i,()),s,())) (λy=>y.1.2.1) (λ_ _=>rfl) k.length lu (λn s=>s=Sp.ls ((k.take n).map eF)) rfl (λI P n s H o next=>?_) λI P s o=>?_
 .subst o;dsimp only;rw[aHB];have l:=w _ (getD_mem (d:=([],0,())) H);refine bT lu ⟨⟨lu,lu⟩,aHw (aj0 l.1) lZ,xM (by rw[one];simp only[Sp.ls,aHL,aHP];omega),rfl,next _ ?_⟩;rw[map_take _ _ H ([],0,()),MW]
 subst o;dsimp only;rw[aIa (aHv _)];refine bP lu ⟨trivial,cO (by rw[M];omega),xM (by rw[one];simp only[Sp.ls,aHL];omega),?_⟩;have B:Sp.ls (k.map eF)++[([110,101,120,116,32]++Lib.itoa m,())]=Sp.ls (k.map eF++[kJ m]):=(MW _ _).symm;rw[B];refine dI (mk:=λi(s:Sp.LS)=>(((),i,()),s,())) (λy=>y.1.2.1) (λ_ _=>rfl) t.length lu (λn s=>s=Sp.ls (k.map eF++[kJ m]++(t.take n).map iK)) aeZ (λI P n s H o next=>?_) λI P s o=>?_
 .subst o;dsimp only;rw[aHB];refine bT lu ⟨⟨lu,lu⟩,u _ (getD_mem (d:=(0,0,false,0,[],())) H),xM Y4,rfl,next _ ?_⟩;rw[map_take _ _ H (0,0,false,0,[],()),← aHO,MW]
 subst o;dsimp only;rw[aIa (aHv _)];refine bP lu ?_;refine dI (mk:=λi(s:Sp.LS)=>(((),i,()),s,())) (λy=>y.1.2.1) (λ_ _=>rfl) g.length lu (λn s=>s=Sp.ls (k.map eF++[kJ m]++t.map iK++(g.take n).map lD)) aeZ (λI P n s H o next=>?_) λI P s o=>?_
 .subst o;dsimp only;rw[aHB];have l:=A _ (getD_mem (d:=([],[],())) H);have K:=uy l.1;have L:=(Sp.iH l.2).2;have r:=anc (g.getD n ([],[],())).2.1;refine bT lu ⟨⟨lu,lu⟩,cO (by rw[j];omega),cO (by rw[aHu,j];show _+1<=_;omega),lu,cO (by rw[aHu,aHu,j];show 4+_+1+_<=_;omega),xM Y4,rfl,next _ ?_⟩;rw[map_take _ _ H ([],[],()),← aHO,MW];have e:lD (g.getD n ([],[],()))=[100,105,114,32]++(g.getD n ([],[],())).1++[32]++Sp.textOf (g.getD n ([],[],())).2.1:=by unfold lD;simp[nJ]
  rw[e]
 .subst o;dsimp only;rw[aIa (aHv _)];refine bP lu ?_;have e:qm (k,t,m,g,())=k.map eF++[kJ m]++t.map iK++g.map lD:=by unfold qm;simp
  rw[e]
theorem Bv:OK jU.e:=by
 refine aO [uT.e,BU.e,nM.e,Ap.e,jf.e] ⟨O4,ae5,wB,ac1,sZ,⟨⟩⟩ Zc λk t m g=>show jU.goal (XQ k t m g) ((k,t,m,g,()),())fromλN C=>?_
 dsimp only[jU]at C ⊢;have C:fJ (k,t,m,g,()):=C;refine⟨Ov C,af (λh=>?_) λh=>?_⟩
 .have h:dS (k,t,m,g,())=false:=dD h;rw[ayP h]
 have h:dS (k,t,m,g,())=true:=bI h;obtain⟨w,D,z,A,E,F,J⟩:=JG h;have u:=λf q=>avR h (f:=f) q;rw[Zb h];dsimp only at w D z A E F J u;have H:=(jV z).2.2.2.2;have M:∀a b c d e:UInt8,([a,b,c,d,e]:List UInt8).length=5:=λ_ _ _ _ _=>rfl;have j:∀a b c d:UInt8,([a,b,c,d]:List UInt8).length=4:=λ_ _ _ _=>rfl;have one:∀x:List UInt8×Unit,[x].length=1:=λ_=>rfl;refine dI (mk:=λi(s:Sp.LS)=>(((),i,()),s,())) (λy=>y.1.2.1) (λ_ _=>rfl) k.length lu (λn s=>s=Sp.ls ((k.take n).map eF)) rfl (λI P n s H o next=>?_) λI P s o=>?_
 .subst o;dsimp only;rw[aHB];have l:=w _ (getD_mem (d:=([],0,())) H);refine bT lu ⟨⟨lu,lu⟩,aHw (aj0 l.1) lZ,xM (by rw[one];simp only[Sp.ls,aHL,aHP];omega),rfl,next _ ?_⟩;rw[map_take _ _ H ([],0,()),MW]
 subst o;dsimp only;rw[aIa (aHv _)];refine bP lu ⟨trivial,cO (by rw[M];omega),xM (by rw[one];simp only[Sp.ls,aHL];omega),?_⟩;have B:Sp.ls (k.map eF)++[([110,101,120,116,32]++Lib.itoa m,())]=Sp.ls (k.map eF++[kJ m]):=(MW _ _).symm;rw[B];refine dI (mk:=λi(s:Sp.LS)=>(((),i,()),s,())) (λy=>y.1.2.1) (λ_ _=>rfl) t.length lu (λn s=>s=Sp.ls (k.map eF++[kJ m]++(t.take n).map iK)) aeZ (λI P n s H o next=>?_) λI P s o=>?_
 .subst o;dsimp only;rw[aHB];refine bT lu ⟨⟨lu,lu⟩,u _ (getD_mem (d:=(0,0,false,0,[],())) H),xM Y4,rfl,next _ ?_⟩;rw[map_take _ _ H (0,0,false,0,[],()),← aHO,MW]
 subst o;dsimp only;rw[aIa (aHv _)];refine bP lu ?_;refine dI (mk:=λi(s:Sp.LS)=>(((),i,()),s,())) (λy=>y.1.2.1) (λ_ _=>rfl) g.length lu (λn s=>s=Sp.ls (k.map eF++[kJ m]++t.map iK++(g.take n).map lD)) aeZ (λI P n s H o next=>?_) λI P s o=>?_
 .subst o;dsimp only;rw[aHB];have l:=A _ (getD_mem (d:=([],[],())) H);have K:=uy l.1;have L:=(Sp.iH l.2).2;have r:=anc (g.getD n ([],[],())).2.1;refine bT lu ⟨⟨lu,lu⟩,cO (by rw[j];omega),cO (by rw[aHu,j];show _+1<=_;omega),⟨lu,lu⟩,lu,cO (by rw[aHu,aHu,j];show 4+_+1+_<=_;omega),xM Y4,rfl,next _ ?_⟩;rw[map_take _ _ H ([],[],()),← aHO,MW];have e:lD (g.getD n ([],[],()))=[100,105,114,32]++(g.getD n ([],[],())).1++[32]++Sp.textOf (g.getD n ([],[],())).2.1:=by unfold lD;simp[nJ]
  rw[e]
 .subst o;dsimp only;rw[aIa (aHv _)];refine bP lu ?_;have e:qm (k,t,m,g,())=k.map eF++[kJ m]++t.map iK++g.map lD:=by unfold qm;simp
  rw[e]
end Go.Proofs.Tryz
