import Derived.Deep.AppendLies
import Derived.Deep.RegionLaw
import Derived.BigRegion
import Derived.Test.YtflpicdbkomglaaGreatDoorP1
namespace Go.Proofs.Tryz
open Go Go.Fw Go.RowKit Sp
theorem au{w:World}{g:Nat}{cur:Array Value}{t:TypeId}{fz:Nat×Nat}(h:w.heap[g]? =some (.cells cur t fz))(k:Nat):w.cell? ⟨g,k,none⟩=cur[k]? :=by simp[World.cell?,h]
theorem bn{w:World}{g:Nat}{cur:Array Value}{t:TypeId}(h:w.heap[g]? =some (.cells cur t (0,0)))(k:Nat):w.frozen? ⟨g,k,none⟩=false:=by simp[World.frozen?,h]
theorem eX{w:World}{g:Nat}{cur:Array Value}{t:TypeId}{fz:Nat×Nat}(h:w.heap[g]? =some (.cells cur t fz))(k:Nat)(v:Value):(w.setCell ⟨g,k,none⟩ v).heap[g]? =some (.cells (cur.setIfInBounds k v) t fz):=by simp only[World.setCell,ajI,if_pos,h];rfl
theorem Nh{w:World}{p:Addr}{b:Nat}(v:Value)(h:b≠p.block):(w.setCell p v).heap[b]? =w.heap[b]? :=by simp only[World.setCell,ajI,if_neg (aiU h)]
def FW(B:Nat)(W:World)(v:Value)(f:Sp.LS):Prop:=dL W.heap (λb=>b<B) (.sl fF lV) v f
structure Step(W w':World)(P:Nat)(own:Option Nat):Prop where
 os:w'.os=W.os
 tape:w'.tape=W.tape
 output:w'.output=W.output
 size:W.heap.size<=w'.heap.size
 block:∀b,b<W.heap.size->b≠P->own≠some b->w'.heap[b]? =W.heap[b]?
theorem FW.keep{B:Nat}{W w':World}{v:Value}{f:Sp.LS}(h:FW B W v f)(hk:∀b,b<B->w'.heap[b]? =W.heap[b]?):FW B w' v f:=by
 refine⟨h.1,?_⟩;rcases h.2 with h2|⟨b,off,cap,cs,t,fz,h1,h2,h3,h4,h5⟩
 .exact .inl h2
 .exact .inr ⟨b,off,cap,cs,t,fz,h1,h2,h3,(hk b h3).trans h4,λi x hx=>aI.flat (S:=λb=>b<B) _ _ _ rfl (h5 i x hx)⟩
set_option maxHeartbeats 4000000 in
set_option maxRecDepth 100000 in
theorem rq(B P:Nat)(W:World)(vf vn:Value)(f:Sp.LS)(zk:B<=P)(hP:W.heap[P]? =some (.cells #[vf,vn] 150 (0,0)))(hf:FW B W vf f):
 Calls prog 175 #[.pointer (some ⟨P,0,none⟩)] W λe w'=>e=.returned (.string ⟨(Sp.wordAt f 0).toArray⟩)/\∃BB,FW B w' BB (f.drop 1)/\w'.heap[P]? =some (.cells #[BB,vn] 150 (0,0))/\Step W w' P none:=by
 have mixed:=Tryz.mixed;have c0:W.cell? ⟨P,0,none⟩=some vf:=au hP 0;have z0:W.frozen? ⟨P,0,none⟩=false:=bn hP 0;obtain⟨hml,hcase⟩:=id hf;rcases hcase with⟨e1,a,c,rfl⟩|⟨b,off,cap,cs,t,fz,rfl,hcap,hb,hbl,hx⟩
 .subst e1
  go_enter Tryz.func175,Tryz.ntmps175
  go_wp2
  go_ret
  exact⟨rfl,_,hf,hP,rfl,rfl,rfl,ahx _,λ_ _ _ _=>rfl⟩
 .cases f with
  |nil=>
   go_enter Tryz.func175,Tryz.ntmps175
   go_wp2
   go_ret
   exact⟨rfl,_,hf,hP,rfl,rfl,rfl,ahx _,λ_ _ _ _=>rfl⟩
  |cons x r=>
   have hx0:=hx 0 x rfl;obtain⟨u,us,e1,⟨e2,_⟩,_⟩:=hx0;have cx:W.cell? ⟨b,off,none⟩=some (.string ⟨x.1.toArray⟩):=by rw[au hbl,← e2];have h0:=congrArg (λl=>l[0]?) e1;have h0:((cs.toList.drop (off+0*1)).take 1)[0]? =some u:=h0;simpa[ahS,ahW]using h0
   have hl:(x::r).length=r.length+1:=rfl;rw[hl]at hcap c0 hml;have hrl:¬((r.length+1:Nat):Int)=0:=by omega
   have hw:Sp.wordAt (x::r) 0=x.1:=cZ x r;rw[hw];have hr:FW B W (.slice (if cap=1 then some ⟨b,off,none⟩else some ⟨b,off+1,none⟩) r.length (cap-1)) r:=by
    refine⟨by have:=hml;omega,?_⟩;by_cases h1:cap=1
    .have hr0:r=[]:=aic.1 (by omega);subst hr0;exact .inl ⟨rfl,_,_,rfl⟩
    .rw[if_neg h1];refine .inr ⟨b,off+1,cap-1,cs,t,fz,rfl,by omega,hb,hbl,λi y hy=>?_⟩;have:=hx (i+1) y (by simpa using hy);rw[show off+1+i*lV.len=off+(i+1)*lV.len by show off+1+i*1=off+(i+1)*1;omega];exact this
   generalize r.length=n at*
   go_enter Tryz.func175,Tryz.ntmps175
   go_wp2
   all_goals go_ret
   all_goals refine⟨rfl,_,FW.keep (W:=W) ?_ λb' hb'=>Nh _ (show b'≠P by omega),eX hP 0 _,rfl,rfl,rfl,by simp[World.setCell],λb' _ hb' _=>Nh _ hb'⟩
   .rw[if_pos h,show cap-1=0 by omega]at hr;exact hr
   .rw[if_neg h]at hr;exact hr
theorem adq(op:Int)(h:-9223372036854775808<=op/\op<=9223372036854775807)(w:World)(hG:G.ok w):Calls prog 163 #[.int .i64 op] w λe w'=>e=.returned (.string ⟨(dw op).toArray⟩)/\Below w.heap.size w w':=by have hc:gy prog G 163 (iY gQ.sh gQ.bf gQ.F):=Bz.1;refine(hc [.sv (.one (.int .i64 op))] True ⟨[(false,[.plain (.str (dw op))])],none⟩ 0 (λ_=>True) #[.int .i64 op] w rfl trivial hG ⟨⟨rfl,h⟩,trivial⟩).mono ?_;rintro e w' ⟨v,vals,rfl,h1,h2,h3,h4,h5,h6,_,_⟩;have h6:v=.string ⟨(dw op).toArray⟩/\(dw op).length<=maxLen:=h6;exact⟨by rw[h6.1],h1,h2,h3,h4,h5⟩
theorem Zd(s:List UInt8)(hs:s.length<=1048576)(w:World)(hG:G.ok w):Calls prog 132 #[.string ⟨s.toArray⟩] w λe w'=>
 e=.returned (.tuple #[.agg #[.int .i64 (aY s).1.1,.int .i64 (aY s).1.2.1,.string ⟨(aY s).1.2.2.1.toArray⟩],.bool (aY s).2])/\Below w.heap.size w w'/\
  (-9223372036854775808<=(aY s).1.1/\(aY s).1.1<=9223372036854775807)/\(-9223372036854775808<=(aY s).1.2.1/\(aY s).1.2.1<=9223372036854775807)/\(aY s).1.2.2.1.length<=maxLen:=by
 have hc:gy prog G 132 (iY jT.sh jT.bf jT.F):=LM.1;refine(hc [.sv (.one (.str s))] (s.length<=1048576) _ 0 (λ_=>True) #[.string ⟨s.toArray⟩] w rfl hs hG ⟨⟨rfl,by rw[maxLen_eq];omega⟩,trivial⟩).mono ?_;rintro e w' ⟨v,vals,rfl,h1,h2,h3,h4,h5,h6,_,_⟩;obtain⟨vs,rfl,h7⟩:=h6;obtain⟨l⟩:=vs
 match l,h7 with
 |[a,b],h7=>
  obtain⟨⟨us,ea,h8⟩,h9,_⟩:=h7;obtain⟨ul⟩:=us
  match ul,h8 with
  |[x,y,z],h8=>obtain⟨x1,y1,z1,_⟩:=h8;have h9:b=.bool (aY s).2:=h9;rw[ea,h9,x1.1,y1.1,z1.1];exact⟨rfl,⟨h1,h2,h3,h4,h5⟩,x1.2,y1.2,z1.2⟩
def NW(B P:Nat)(W:World)(v:Value)(q:List ax):Prop:=
 ∃xs,W.ownsRow B 125 7 v q.length xs/\v.ownBlock≠some P/\∀i x,q[i]? =some x->aI #[] (λ_=>False) bC ((xs.drop (i*7)).take 7) x
def aO(op l r:Int)(s:List UInt8)(k n:Int)(t:List UInt8):Array Value:=#[.int .i64 op,.int .i64 l,.int .i64 r,.string ⟨s.toArray⟩,.int .i64 k,.int .i64 n,.string ⟨t.toArray⟩]
theorem XK{W w':World}{base size n:Nat}{e:TypeId}{v:Value}{xs:List Value}(h:W.ownsRow base e size v n xs)(hk:∀g,v.ownBlock=some g->w'.heap[g]? =W.heap[g]?):w'.ownsRow base e size v n xs:=by
 refine⟨h.1,?_⟩;rcases h.2 with h2|⟨g,cap,cur,rfl,h3,h4,h5⟩
 .exact .inl h2
 .exact .inr ⟨g,cap,cur,rfl,h3,(hk g rfl).trans h4,h5⟩
theorem oz:(prog.info? 125).map (λi=>(i.zero,i.size,i.bytes))=some (some (.agg (aO 0 0 0 [] 0 0 [])),7,72):=by kernel_rfl
theorem ku(op l r:Int)(s:List UInt8)(k n:Int)(t:List UInt8):∀u∈(aO op l r s k n t).toList,u.oneCell'=true:=by intro u hu;simp[aO]at hu;rcases hu with rfl|rfl|rfl|rfl|rfl|rfl|rfl<;>rfl
def Nj(n:Int):Prop:=-9223372036854775808<=n/\n<=9223372036854775807
theorem lT{op l r:Int}{s:List UInt8}{k n:Int}{t:List UInt8}(h1:Nj op)(h2:Nj l)(h3:Nj r)(h4:s.length<=maxLen)(h5:Nj k)(h6:Nj n)(h7:t.length<=maxLen):
 aI #[] (λ_=>False) bC (aO op l r s k n t).toList (op,l,r,s,k,n,t,()):=
 ⟨_,_,rfl,⟨rfl,h1⟩,_,_,rfl,⟨rfl,h2⟩,_,_,rfl,⟨rfl,h3⟩,_,_,rfl,⟨rfl,h4⟩,_,_,rfl,⟨rfl,h5⟩,_,_,rfl,⟨rfl,h6⟩,_,_,rfl,⟨rfl,h7⟩,rfl⟩
structure AU(B P N:Nat)(W:World)(XL:Option Nat)(w:World)(vf vn:Value)(f:Sp.LS)(q:List ax):Prop where
 gl:G.ok w
 cells:w.heap[P]? =some (.cells #[vf,vn] 150 (0,0))
 words:FW B w vf f
 nodes:NW B P w vn q
 step:Step W w P XL
 fresh:∀g,vn.ownBlock=some g->XL=some g\/W.heap.size<=g
 Uw:vn.ownBlock≠some N
 old:W.heap.size<=N
 lt:N<w.heap.size
 low:8<=B/\B<=P/\P<W.heap.size
def Done(B P:Nat)(W:World)(XL:Option Nat)(f:Sp.LS)(q:List ax)(w:World):Prop:=
 ∃vf vn,w.heap[P]? =some (.cells #[vf,vn] 150 (0,0))/\FW B w vf f/\NW B P w vn q/\Step W w P XL/\∀g,vn.ownBlock=some g->XL=some g\/W.heap.size<=g
theorem Step.refl(w:World)(P:Nat)(own:Option Nat):Step w w P own:=⟨rfl,rfl,rfl,ahx _,λ_ _ _ _=>rfl⟩
theorem Step.trans{a b c:World}{P:Nat}{o o':Option Nat}(h:Step a b P o)(k:Step b c P o')(hf:∀g,o'=some g->o=some g\/a.heap.size<=g):Step a c P o:=
 ⟨k.os.trans h.os,k.tape.trans h.tape,k.output.trans h.output,ahB h.size k.size,λx hx hP ho=>(k.block x (ahP hx h.size) hP λe=>by
   rcases hf x e with h1|h1
   .exact ho h1
   .omega).trans (h.block x hx hP ho)⟩
theorem Step.below{a b c:World}{P:Nat}{o:Option Nat}(h:Step a b P o)(k:Below b.heap.size b c):Step a c P o:=
 ⟨k.os.trans h.os,k.tape.trans h.tape,k.output.trans h.output,ahB h.size k.size,λx hx hP ho=>(k.block x (ahP hx h.size)).trans (h.block x hx hP ho)⟩
theorem NW.keep{B P:Nat}{w w':World}{v:Value}{q:List ax}(h:NW B P w v q)(hk:∀g,v.ownBlock=some g->w'.heap[g]? =w.heap[g]?):NW B P w' v q:=by obtain⟨xs,h1,h2,h3⟩:=h;exact⟨xs,XK h1 hk,h2,h3⟩
theorem NW.lt{B P:Nat}{w:World}{v:Value}{q:List ax}(h:NW B P w v q){g:Nat}(hg:v.ownBlock=some g):B<=g/\g<w.heap.size/\g≠P:=by obtain⟨xs,h1,h2,_⟩:=h;exact⟨(h1.lt g hg).1,(h1.lt g hg).2,λe=>h2 (by rw[hg,e])⟩
theorem AU.below{B P N:Nat}{W:World}{o:Option Nat}{w w':World}{vf vn:Value}{f:Sp.LS}{q:List ax}(h:AU B P N W o w vf vn f q)(k:Below w.heap.size w w'):AU B P N W o w' vf vn f q:=by have hP:P<w.heap.size:=ahP h.low.2.2 h.step.size;exact⟨kK h.gl k,(k.block P hP).trans h.cells,h.words.keep λb hb=>k.block b (by have:=h.low;omega),h.nodes.keep λg hg=>k.block g (h.nodes.lt hg).2.1,h.step.below k,h.fresh,h.Uw,h.old,ahP h.lt k.size,h.low⟩
theorem AU.qQ{B P N:Nat}{W:World}{o:Option Nat}{w:World}{vf vn:Value}{f:Sp.LS}{q:List ax}(h:AU B P N W o w vf vn f q)(k:Nat)(v:Value):AU B P N W o (w.setCell ⟨N,k,none⟩ v) vf vn f q:=by
 have hl:=h.low;have ho:=h.old;have far:∀b,b≠N->(w.setCell ⟨N,k,none⟩ v).heap[b]? =w.heap[b]? :=λb hb=>Nh v hb;have hs:(w.setCell ⟨N,k,none⟩ v).heap.size=w.heap.size:=by simp[World.setCell]
 refine⟨G.stable _ _ h.gl (by rw[hs];exact ahx _) λb hb=>far b (by have:b<8:=hb;omega),(far P (by omega)).trans h.cells,h.words.keep λb hb=>far b (by omega),h.nodes.keep λg hg=>far g (λe=>h.Uw (by rw[hg,e])),?_,h.fresh,h.Uw,ho,by rw[hs];exact h.lt,hl⟩;exact⟨h.step.os,h.step.tape,h.step.output,by rw[hs];exact h.step.size,λx hx hP hoo=>(far x (by omega)).trans (h.step.block x hx hP hoo)⟩
theorem G_step{W w':World}{P B:Nat}{own:Option Nat}(OD:8<=B)(zk:B<=P)(hG:G.ok W)(h:Step W w' P own)(ho:∀b,own=some b->B<=b):G.ok w':=
 G.stable W w' hG h.size λb hb=>h.block b (ahP hb (G.low W hG)) (by have:b<8:=hb;omega) λe=>by have:=ho b e;have:b<8:=hb;omega
theorem AU.next{B P N:Nat}{W:World}{o:Option Nat}{w w':World}{vf vn BB:Value}{f f':Sp.LS}{q:List ax}(h:AU B P N W o w vf vn f q)(h1:FW B w' BB f')(h2:w'.heap[P]? =some (.cells #[BB,vn] 150 (0,0)))(h3:Step w w' P none):AU B P N W o w' BB vn f' q/\w'.heap[N]? =w.heap[N]? :=by have hl:=h.low;have ho:=h.old;exact⟨⟨G_step hl.1 hl.2.1 h.gl h3 (λb e=>by cases e),h2,h1,h.nodes.keep λg hg=>h3.block g (h.nodes.lt hg).2.1 (h.nodes.lt hg).2.2 (λe=>by cases e),h.step.trans h3 (λg e=>by cases e),h.fresh,h.Uw,ho,ahP h.lt h3.size,hl⟩,h3.block N h.lt (by omega) (λe=>by cases e)⟩
theorem AU.read{B P N:Nat}{W:World}{o:Option Nat}{w w':World}{vf vn:Value}{f f':Sp.LS}{q q':List ax}(h:AU B P N W o w vf vn f q)(k:Done B P w vn.ownBlock f' q' w'):(∃BB RN,AU B P N W o w' BB RN f' q')/\w'.heap[N]? =w.heap[N]? :=by
 have hl:=h.low;have ho:=h.old;have hN:=h.lt;obtain⟨BB,RN,h1,h2,h3,h4,h5⟩:=k;refine⟨⟨BB,RN,G_step hl.1 hl.2.1 h.gl h4 (λb e=>(h.nodes.lt e).1),h1,h2,h3,h.step.trans h4 h.fresh,λg hg=>?_,λe=>?_,ho,ahP h.lt h4.size,hl⟩,h4.block N h.lt (by omega) (λe=>h.Uw e)⟩
 .rcases h5 g hg with e|e
  .exact h.fresh g e
  .exact .inr (ahB h.step.size e)
 .rcases h5 N e with e|e
  .exact h.Uw e
  .omega
theorem AU.put{B P N:Nat}{W:World}{o:Option Nat}{w w0 w5:World}{vf vn:Value}{f:Sp.LS}{q:List ax}(h:AU B P N W o w vf vn f q)(hb:Below w.heap.size w w0){xs:List Value}(hown:w.ownsRow B 125 7 vn q.length xs)
 (hrep:∀i x,q[i]? =some x->aI #[] (λ_=>False) bC ((xs.drop (i*7)).take 7) x) {op l r:Int} {s:List UInt8} {k n:Int} {t:List UInt8} (hx:aI #[] (λ_=>False) bC (aO op l r s k n t).toList (op,l,r,s,k,n,t,()))
 {g cap:Nat} (h5:w5.ownsRow B 125 7 (.slice (some ⟨g,0,none⟩) (q.length+1) cap) (q.length+1) (xs++(aO op l r s k n t).toList)) (hg:w0.grownBy w5 vn.ownBlock) (hat:vn.ownBlock=some g\/g=w0.heap.size) (hlt:g<w5.heap.size):
 Done B P W o f (q++[(op,l,r,s,k,n,t,())]) (w5.setCell ⟨P,1,none⟩ (.slice (some ⟨g,0,none⟩) (q.length+1) cap)):=by
 have hl:=h.low;have ho:=h.old;have hPw:P<w.heap.size:=ahP hl.2.2 h.step.size;have hPn:vn.ownBlock≠some P:=λe=>(h.nodes.lt e).2.2 rfl;have hgP:g≠P:=by
  rcases hat with e|e
  .exactλe2=>hPn (by rw[e,e2])
  .have:=hb.size;omega
 have same:∀b,b<w.heap.size->vn.ownBlock≠some b->w5.heap[b]? =w.heap[b]? :=λb hlb hnb=>(hg.block b (ahP hlb hb.size) (λe=>hnb e.symm)).trans (hb.block b hlb);have far:∀b,b≠P->(w5.setCell ⟨P,1,none⟩ (.slice (some ⟨g,0,none⟩) (q.length+1) cap)).heap[b]? =w5.heap[b]? :=λb hb=>Nh _ hb;have kG:=(same P hPw hPn).trans h.cells;have hs5:(w5.setCell ⟨P,1,none⟩ (.slice (some ⟨g,0,none⟩) (q.length+1) cap)).heap.size=w5.heap.size:=by simp[World.setCell]
 have hsz:w.heap.size<=w5.heap.size:=ahB hb.size hg.size;refine⟨vf,.slice (some ⟨g,0,none⟩) (q.length+1) cap,eX kG 1 _,h.words.keep λb hb=>?_,⟨xs++(aO op l r s k n t).toList,?_,λe=>hgP (by cases e;rfl),λi x hi=>?_⟩,?_,λg' hg'=>?_⟩
 .exact(far b (by omega)).trans (same b (by omega) λe=>by have:=(h.nodes.lt e).1;omega)
 .rw[ahr];exact XK h5 λg' hg'=>far g' (by cases hg';exact hgP)
 .have hxl:xs.length=q.length*7:=hown.1;rcases ahQ i q.length with hi'|hi'
  .rw[aib hi']at hi;have:=hrep i x hi;rw[aiV (by rw[hxl];omega),ajg (by rw[ah1,hxl];omega)];exact this
  .rw[ahZ hi']at hi;have e0:i=q.length:=by have:=(ahy.1 hi).1;simp at this;omega
   subst e0;rw[ajj]at hi;cases hi;rw[← hxl,aki];exact hx
 .refine⟨hg.os.trans (hb.os.trans h.step.os),hg.tape.trans (hb.tape.trans h.step.tape),hg.output.trans (hb.output.trans h.step.output),by rw[hs5];exact ahB h.step.size hsz,λb hlb hbP hob=>?_⟩;refine(far b hbP).trans ((same b (ahP hlb h.step.size) λe=>?_).trans (h.step.block b hlb hbP hob));rcases h.fresh b e with e2|e2
  .exact hob e2
  .omega
 .have hg':some g=some g':=hg';cases hg';rcases hat with e|e
  .exact h.fresh g e
  .right;have:=hb.size;have:=h.step.size;omega
theorem oC{B P:Nat}{W:World}{o:Option Nat}{w:World}{b c:Bool}{f:Sp.LS}{q:List ax}{z:Bool×Sp.LS×List ax}(e:Hid (z=(c,f,q)))(hb:Ending.returned (.bool b)=Ending.returned (.bool c))(h:Done B P W o f q w):Ending.returned (.bool b)=Ending.returned (.bool z.1)/\Done B P W o z.2.1 z.2.2 w:=by rw[e.out];exact⟨hb,h⟩
theorem zX{k:Nat}{f:Sp.LS}{q:List ax}{op:Int}(h:op=bg (Sp.wordAt f 0))(c:op=0\/op=1):Sp.rd (k+1) f q=(!(op==0),f.drop 1,q++[(op,0,0,[],0,0,[],())]):=by rw[Sp.rd,← h];rcases c with rfl|rfl<;>rfl
theorem DW{k:Nat}{f:Sp.LS}{q:List ax}{op:Int}(h:op=bg (Sp.wordAt f 0))(c:op=2\/op=8\/op=9):Sp.rd (k+1) f q=(true,(f.drop 1).drop 1,q++[(op,0,0,Sp.wordAt (f.drop 1) 0,0,0,[],())]):=by rw[Sp.rd,← h];rcases c with rfl|rfl|rfl<;>rfl
theorem IW{k:Nat}{f:Sp.LS}{q:List ax}{op:Int}(h:op=bg (Sp.wordAt f 0))(c:op=3\/op=4):Sp.rd (k+1) f q=((aY (Sp.wordAt ((f.drop 1).drop 1) 0)).2,((f.drop 1).drop 1).drop 1,q++[(op,0,0,Sp.wordAt (f.drop 1) 0,(aY (Sp.wordAt ((f.drop 1).drop 1) 0)).1)]):=by rw[Sp.rd,← h];rcases c with rfl|rfl<;>rfl
theorem XM{k:Nat}{f:Sp.LS}{q:List ax}(h:(5:Int)=bg (Sp.wordAt f 0)):Sp.rd (k+1) f q=((Sp.rd k (f.drop 1) q).1,(Sp.rd k (f.drop 1) q).2.1,(Sp.rd k (f.drop 1) q).2.2++[(5,((Sp.rd k (f.drop 1) q).2.2.length:Int)-1,0,[],0,0,[],())]):=by rw[Sp.rd,← h];rfl
theorem Nk{k:Nat}{f:Sp.LS}{q:List ax}{op:Int}(h:op=bg (Sp.wordAt f 0))(c:op=6\/op=7)(h1:(Sp.rd k (f.drop 1) q).1=true):Sp.rd (k+1) f q=((Sp.rd k (Sp.rd k (f.drop 1) q).2.1 (Sp.rd k (f.drop 1) q).2.2).1,(Sp.rd k (Sp.rd k (f.drop 1) q).2.1 (Sp.rd k (f.drop 1) q).2.2).2.1,
 (Sp.rd k (Sp.rd k (f.drop 1) q).2.1 (Sp.rd k (f.drop 1) q).2.2).2.2++[(op,((Sp.rd k (f.drop 1) q).2.2.length:Int)-1,((Sp.rd k (Sp.rd k (f.drop 1) q).2.1 (Sp.rd k (f.drop 1) q).2.2).2.2.length:Int)-1,[],0,0,[],())]):=by
 rw[Sp.rd,← h,h1];rcases c with rfl|rfl<;>rfl
theorem RP{k:Nat}{f:Sp.LS}{q:List ax}{op:Int}(h:op=bg (Sp.wordAt f 0))(c:op=6\/op=7)(h1:(Sp.rd k (f.drop 1) q).1=false):Sp.rd (k+1) f q=(false,(Sp.rd k (f.drop 1) q).2.1,
 (Sp.rd k (f.drop 1) q).2.2++[(op,((Sp.rd k (f.drop 1) q).2.2.length:Int)-1,((Sp.rd k (f.drop 1) q).2.2.length:Int)-1,[],0,0,[],())]):=by
 rw[Sp.rd,← h,h1];rcases c with rfl|rfl<;>rfl
theorem pJ:∀(k:Nat)(w:Sp.LS)(q:List ax),(Sp.rd k w q).2.2.length+2*(Sp.rd k w q).2.1.length<=q.length+2*w.length+1
 |0,w,q=>Nat.le_succ _
 |k+1,w,q=>by
  have hd:(w.drop 1).length=w.length-1:=ah1;rcases rV (Sp.wordAt w 0)with h0|⟨hc,_⟩
  .rw[zX h0.symm (.inl rfl)];simp only[ahr,ahu,ahL,hd];omega
  have hne:0<w.length:=by obtain⟨r,e,_⟩:=Nl (w:=w) (by omega);rw[e,ahu];omega
  have d2:((w.drop 1).drop 1).length<=w.length-1:=by rw[ah1];omega
  have d3:(((w.drop 1).drop 1).drop 1).length<=w.length-1:=by rw[ah1];omega
  have i1:=pJ k (w.drop 1) q;generalize ho:bg (Sp.wordAt w 0)=op at hc;rcases(show op=1\/(op=2\/op=8\/op=9)\/(op=3\/op=4)\/op=5\/(op=6\/op=7) by omega)with c|c|c|c|c
  .rw[zX ho.symm (.inr c)];simp only[ahr,ahu,ahL,hd];omega
  .rw[DW ho.symm c];simp only[ahr,ahu,ahL];omega
  .rw[IW ho.symm c];simp only[ahr,ahu,ahL];omega
  .subst c;rw[XM ho.symm];simp only[ahr,ahu,ahL];omega
  .cases h1:(Sp.rd k (w.drop 1) q).1 with
   |true=>
    have i2:=pJ k (Sp.rd k (w.drop 1) q).2.1 (Sp.rd k (w.drop 1) q).2.2;rw[Nk ho.symm c h1];simp only[ahr,ahu,ahL];omega
   |false=>rw[RP ho.symm c h1];simp only[ahr,ahu,ahL];omega
theorem NW.form{B P:Nat}{w:World}{v:Value}{q:List ax}(h:NW B P w v q):∃a cap,v=.slice a q.length cap:=by
 obtain⟨xs,h1,_,_⟩:=h;rcases h1.2 with⟨e,e2⟩|⟨g,cap,cur,e,_⟩
 .exact⟨none,0,by rw[e,e2]⟩
 .exact⟨_,_,e⟩
theorem xP{f:Sp.LS}(h:∀x∈f,x.1.length<=1000)(i:Int):(Sp.wordAt f i).length<=1000:=by
 by_cases hh:i<(f.length:Int)
 .rw[qZ hh,ahv];cases e:f[i.toNat]? with
  |none=>exact ahR _
  |some x=>exact h x (ah4 e)
 .rw[qY (by omega)];exact ahR _
theorem kR{f:Sp.LS}(h:∀x∈f,x.1.length<=1000)(i:Nat):∀x∈f.drop i,x.1.length<=1000:=λx hx=>h x (ajO hx)
theorem pK:∀(k:Nat)(w:Sp.LS)(q:List ax),(∀x∈w,x.1.length<=1000)->∀x∈(Sp.rd k w q).2.1,x.1.length<=1000
 |0,_,_,h=>h
 |k+1,w,q,h=>by
  have i1:=pK k (w.drop 1) q (kR h 1);rcases rV (Sp.wordAt w 0)with h0|⟨hc,_⟩
  .rw[zX h0.symm (.inl rfl)];exact kR h 1
  generalize ho:bg (Sp.wordAt w 0)=op at hc;rcases(show op=1\/(op=2\/op=8\/op=9)\/(op=3\/op=4)\/op=5\/(op=6\/op=7) by omega)with c|c|c|c|c
  .rw[zX ho.symm (.inr c)];exact kR h 1
  .rw[DW ho.symm c];exact kR (kR h 1) 1
  .rw[IW ho.symm c];exact kR (kR (kR h 1) 1) 1
  .subst c;rw[XM ho.symm];exact i1
  .cases h1:(Sp.rd k (w.drop 1) q).1 with
   |true=>rw[Nk ho.symm c h1];exact pK k _ _ i1
   |false=>rw[RP ho.symm c h1];exact i1
theorem LW{f:Sp.LS}{op:Int}(h:op=bg (Sp.wordAt f 0))(h0:op≠0):(f.drop 1).length<f.length:=by obtain⟨r,e,_⟩:=Nl (w:=f) (by omega);rw[e];exact aiM _
def Reads(k:Nat):Prop:=∀(B P:Nat)(W:World)(vf vn:Value)(f:Sp.LS)(q:List ax),f.length<k->8<=B->B<=P->G.ok W->W.heap[P]? =some (.cells #[vf,vn] 150 (0,0))->FW B W vf f->NW B P W vn q->
    (∀x∈f,x.1.length<=1000)->q.length+2*f.length+1<=1000->
    Calls prog 133 #[.pointer (some ⟨P,0,none⟩)] W λe w'=>e=.returned (.bool (Sp.rd k f q).1)/\Done B P W vn.ownBlock (Sp.rd k f q).2.1 (Sp.rd k f q).2.2 w'
set_option maxHeartbeats 16000000 in
set_option maxRecDepth 100000 in
theorem abu(k:Nat)(ih:Hid (Reads k)):Reads (k+1):=by
 intro B P W vf vn f q hk OD zk hG hP hf hn hfx hq;have mixed:=Tryz.mixed
 go_enter Tryz.func133,Tryz.ntmps133
 go_wp2_with (first
  |(go_at_call 175;refine(rq B P _ vf vn f zk hP hf).mono ?_;rintro e W1 ⟨rfl,LX,hf1,hP1,hs1⟩))
 have hG1:=G_step OD zk hG hs1 (λb h=>by cases h);have hword:∃word,Hid (word=Sp.wordAt f 0)/\word=Sp.wordAt f 0:=⟨_,rfl,rfl⟩;obtain⟨word,hword,hw2⟩:=hword;rw[← hw2];clear hw2;have agj:P<W1.heap.size:=(ahz.1 hP1).1;have hPW:P<W.heap.size:=(ahz.1 hP).1
 go_loopw [5] (λi wr=>∃n:Nat,n<=9/\i=.int .i64 ((n+1:Nat):Int)/\wr.heap[W1.heap.size]? =some (.cells (aO (zl word n) 0 0 [] 0 0 []) 125 (0,0))/\Below W1.heap.size W1 wr)
  (λi _=>10-(intOf i).toNat)
 case atStart=>refine⟨0,by decide,rfl,?_,(Below.alloc (Below.refl _ _) (ahx _) _)⟩;exact aii W1 _
 case round=>
  obtain⟨n,hn9,rfl,hrow,hbel⟩:=hrel;rcases ahQ n 9 with hlt|hge
  .have hlt':((n+1:Nat):Int)<=9:=by omega
   have hGr:G.ok wr:=kK hG1 hbel;have hz:=bn hrow 0;have e1:zl word (n+1)=bif word==dw ((n:Int)+1)then(n:Int)+1 else zl word n:=rfl
   have kw:=adq ((n+1:Nat):Int) (by omega) wr hGr;obtain⟨t,ht,ht2⟩:∃t,Hid (t=dw ((n:Int)+1))/\t=dw ((n+1:Nat):Int):=⟨_,rfl,rfl⟩;rw[← ht2]at kw;clear ht2;by_cases hk:t=word
   .subst hk
    go_wp2_with (first
     |(go_at_call 163;refine kw.mono ?_;rintro e w2 ⟨rfl,hb2⟩;have hrow2:=(hb2.block _ (ahz.1 hrow).1).trans hrow;have hz2:=bn hrow2 0;have hc2:=au hrow2 0))
    all_goals go_roundw
    case measure=>simp only[intOf];omega
    case rel=>refine⟨n+1,hlt,by go_num,(eX hrow2 0 _).trans ?_,(hbel.trans (hb2.mono (Nat.le_of_lt (ahz.1 hrow).1))).setCell (ahx _) _⟩;rw[e1,← ht.out,ais];rfl
   .have hk2:(t==word)=false:=aht.2 hk
    go_wp2_with (first
     |(go_at_call 163;refine kw.mono ?_;rintro e w2 ⟨rfl,hb2⟩;have hrow2:=(hb2.block _ (ahz.1 hrow).1).trans hrow;have hz2:=bn hrow2 0;have hc2:=au hrow2 0))
    all_goals go_roundw
    case measure=>simp only[intOf];omega
    case rel=>refine⟨n+1,hlt,by go_num,hrow2.trans ?_,hbel.trans (hb2.mono (Nat.le_of_lt (ahz.1 hrow).1))⟩;rw[e1,← ht.out,aht.2 (aiU hk)];rfl
  .have hge':¬((n+1:Nat):Int)<=9:=by omega
   obtain rfl:n=9:=by omega
   rw[RQ]at hrow;have hrg:=RS word;obtain⟨op,hop,hop2⟩:∃op,Hid (op=bg (Sp.wordAt f 0))/\op=bg word:=⟨_,congrArg bg hword.out,rfl⟩;rw[← hop2]at hrow hrg;clear hop2;have hNr:=(ahz.1 hrow).1;have hR:AU B P W1.heap.size W vn.ownBlock wr LX vn (f.drop 1) q:=by
    have hPr:=(hbel.block _ agj).trans hP1;refine⟨kK hG1 hbel,hPr,hf1.keep λb hb=>hbel.block b (by omega),hn.keep λg hg=>?_,?_,λg hg=>.inl hg,λe=>?_,hs1.size,hNr,OD,zk,hPW⟩
    .have hgl:=hn.lt hg;exact(hbel.block g (ahP hgl.2.1 hs1.size)).trans (hs1.block g hgl.2.1 hgl.2.2 (λe=>by cases e))
    .exact⟨hbel.os.trans hs1.os,hbel.tape.trans hs1.tape,hbel.output.trans hs1.output,ahB hs1.size hbel.size,λb hb hbP _=>(hbel.block b (ahP hb hs1.size)).trans (hs1.block b hb hbP (λe=>by cases e))⟩
    .have:=(hn.lt e).2.1;have:=hs1.size;omega
   clear hbel hn hf hP hf1 hP1;have hz1:=bn hrow 1;have hz2:=bn hrow 2;have hz3:=bn hrow 3;have hz4:=bn hrow 4;have hz5:=bn hrow 5;have hz6:=bn hrow 6;have vU:=kR hfx 1;have aeb:=kR vU 1;have c0:wr.cell? ⟨W1.heap.size,0,none⟩=some (.int .i64 op):=au hrow 0;have n0:Nj 0:=⟨by decide,by decide⟩;have m0:([]:List UInt8).length<=maxLen:=ahR _;rcases(show op=0\/op=1\/op=2\/op=8\/op=9\/op=3\/op=4\/op=5\/op=6\/op=7 by omega)with rfl|rfl|rfl|rfl|rfl|rfl|rfl|rfl|rfl|rfl
   .have he:Hid _:=zX (k:=k) (q:=q) hop.out (by decide);have hx:=lT (op:=0) ⟨by decide,by decide⟩ n0 n0 m0 n0 n0 m0
    go_wp2
    obtain⟨xs,hown,uJ,hrep⟩:=hR.nodes;have c0:wr.cell? ⟨W1.heap.size,0,none⟩=some (.int .i64 (0)):=au hrow 0;have c1:wr.cell? ⟨W1.heap.size,1,none⟩=some (.int .i64 (0)):=au hrow 1;have c2:wr.cell? ⟨W1.heap.size,2,none⟩=some (.int .i64 (0)):=au hrow 2;have c3:wr.cell? ⟨W1.heap.size,3,none⟩=some (.string ⟨([]:List UInt8).toArray⟩):=au hrow 3;have c4:wr.cell? ⟨W1.heap.size,4,none⟩=some (.int .i64 (0)):=au hrow 4;have c5:wr.cell? ⟨W1.heap.size,5,none⟩=some (.int .i64 (0)):=au hrow 5;have c6:wr.cell? ⟨W1.heap.size,6,none⟩=some (.string ⟨([]:List UInt8).toArray⟩):=au hrow 6;have p1:wr.cell? ⟨P,1,none⟩=some (vn):=au hR.cells 1;have zP:=bn hR.cells 1;have nJ:P<wr.heap.size:=(ahz.1 hR.cells).1;have hBr:B<=wr.heap.size:=by omega
    have uh:(q.length+1)*72<=140737488355328:=by omega
    have hqm:q.length+1<=maxLen:=by rw[maxLen_eq];omega
    have eH:=ku (0) (0) (0) ([]) (0) (0) ([]);obtain⟨i0,hi,hz0,hz1,hz2⟩:=aiS oz
    go_region_law (refine step_append_lies _ rfl (.tmp 84) (.tmp 86) 35 rfl B 125 i0 (.agg (aO 0 0 0 [] 0 0 [])) 7 72 Tryz.underlying35 hi hz0 hz1 hz2 rfl (by decide) (vn) q.length xs (by simp[Act.eval]) ((aiq hown).alloc _) ⟨wr.heap.size,0,none⟩ 1 1 (aO (0) (0) (0) ([]) (0) (0) ([])).toList (by simp[Act.eval]) rfl (World.news_of_block (aii _ _)) eH (by decide) hqm uh (by simp;omega) _ rfl ?_;intro g cap w5 hown5 dH nK nM;have kG:=(dH.block P (by simp;omega) (λe=>uJ e.symm)).trans ((heap_alloc_old wr.drew _ nJ).trans hR.cells);have k5:w5.cell? ⟨P,1,none⟩=some (vn):=au kG 1;have z5:=bn kG 1)
    all_goals go_wp2
    all_goals go_ret
    all_goals exact oC he rfl (hR.put (((Below.refl _ wr).drew).alloc (ahx _) _) hown hrep hx hown5 dH nK nM)
   .have he:Hid _:=zX (k:=k) (q:=q) hop.out (by decide);have hx:=lT (op:=1) ⟨by decide,by decide⟩ n0 n0 m0 n0 n0 m0
    go_wp2
    obtain⟨xs,hown,uJ,hrep⟩:=hR.nodes;have c0:wr.cell? ⟨W1.heap.size,0,none⟩=some (.int .i64 (1)):=au hrow 0;have c1:wr.cell? ⟨W1.heap.size,1,none⟩=some (.int .i64 (0)):=au hrow 1;have c2:wr.cell? ⟨W1.heap.size,2,none⟩=some (.int .i64 (0)):=au hrow 2;have c3:wr.cell? ⟨W1.heap.size,3,none⟩=some (.string ⟨([]:List UInt8).toArray⟩):=au hrow 3;have c4:wr.cell? ⟨W1.heap.size,4,none⟩=some (.int .i64 (0)):=au hrow 4;have c5:wr.cell? ⟨W1.heap.size,5,none⟩=some (.int .i64 (0)):=au hrow 5;have c6:wr.cell? ⟨W1.heap.size,6,none⟩=some (.string ⟨([]:List UInt8).toArray⟩):=au hrow 6;have p1:wr.cell? ⟨P,1,none⟩=some (vn):=au hR.cells 1;have zP:=bn hR.cells 1;have nJ:P<wr.heap.size:=(ahz.1 hR.cells).1;have hBr:B<=wr.heap.size:=by omega
    have uh:(q.length+1)*72<=140737488355328:=by omega
    have hqm:q.length+1<=maxLen:=by rw[maxLen_eq];omega
    have eH:=ku (1) (0) (0) ([]) (0) (0) ([]);obtain⟨i0,hi,hz0,hz1,hz2⟩:=aiS oz
    go_region_law (refine step_append_lies _ rfl (.tmp 84) (.tmp 86) 35 rfl B 125 i0 (.agg (aO 0 0 0 [] 0 0 [])) 7 72 Tryz.underlying35 hi hz0 hz1 hz2 rfl (by decide) (vn) q.length xs (by simp[Act.eval]) ((aiq hown).alloc _) ⟨wr.heap.size,0,none⟩ 1 1 (aO (1) (0) (0) ([]) (0) (0) ([])).toList (by simp[Act.eval]) rfl (World.news_of_block (aii _ _)) eH (by decide) hqm uh (by simp;omega) _ rfl ?_;intro g cap w5 hown5 dH nK nM;have kG:=(dH.block P (by simp;omega) (λe=>uJ e.symm)).trans ((heap_alloc_old wr.drew _ nJ).trans hR.cells);have k5:w5.cell? ⟨P,1,none⟩=some (vn):=au kG 1;have z5:=bn kG 1)
    all_goals go_wp2
    all_goals go_ret
    all_goals exact oC he rfl (hR.put (((Below.refl _ wr).drew).alloc (ahx _) _) hown hrep hx hown5 dH nK nM)
   .obtain⟨s2,hs2,hs2'⟩:∃s2,Hid (s2=Sp.wordAt (f.drop 1) 0)/\s2=Sp.wordAt (f.drop 1) 0:=⟨_,rfl,rfl⟩;have nx:=rq B P wr LX vn (f.drop 1) zk hR.cells hR.words;have hl2:=xP vU 0;rw[← hs2']at nx hl2;clear hs2';have he:Hid _:=DW (k:=k) (q:=q) hop.out (by decide);rw[← hs2.out]at he;have hx:=lT (op:=2) (s:=s2) ⟨by decide,by decide⟩ n0 n0 (by rw[maxLen_eq];omega) n0 n0 m0
    go_wp2_with (first
     |(go_at_call 175;refine nx.mono ?_;rintro e w2 ⟨rfl,ER,hf2,hP2,hst2⟩;obtain⟨hR2,zn⟩:=hR.next hf2 hP2 hst2;have hrow2:=zn.trans hrow;have z3:=bn hrow2 3;have d3:=au hrow2 3))
    have dU:=hR2.qQ 3 (.string ⟨s2.toArray⟩);have hrow3:(w2.setCell ⟨W1.heap.size,3,none⟩ (.string ⟨s2.toArray⟩)).heap[W1.heap.size]? =some (.cells (aO 2 0 0 s2 0 0 []) 125 (0,0)):=eX hrow2 3 _;generalize w2.setCell ⟨W1.heap.size,3,none⟩ (.string ⟨s2.toArray⟩)=w3 at dU hrow3 ⊢;obtain⟨xs,hown,uJ,hrep⟩:=dU.nodes;have c0:w3.cell? ⟨W1.heap.size,0,none⟩=some (.int .i64 (2)):=au hrow3 0;have c1:w3.cell? ⟨W1.heap.size,1,none⟩=some (.int .i64 (0)):=au hrow3 1;have c2:w3.cell? ⟨W1.heap.size,2,none⟩=some (.int .i64 (0)):=au hrow3 2;have c3:w3.cell? ⟨W1.heap.size,3,none⟩=some (.string ⟨(s2:List UInt8).toArray⟩):=au hrow3 3;have c4:w3.cell? ⟨W1.heap.size,4,none⟩=some (.int .i64 (0)):=au hrow3 4;have c5:w3.cell? ⟨W1.heap.size,5,none⟩=some (.int .i64 (0)):=au hrow3 5;have c6:w3.cell? ⟨W1.heap.size,6,none⟩=some (.string ⟨([]:List UInt8).toArray⟩):=au hrow3 6;have p1:w3.cell? ⟨P,1,none⟩=some (vn):=au dU.cells 1;have zP:=bn dU.cells 1;have nJ:P<w3.heap.size:=(ahz.1 dU.cells).1;have hBr:B<=w3.heap.size:=by omega
    have uh:(q.length+1)*72<=140737488355328:=by omega
    have hqm:q.length+1<=maxLen:=by rw[maxLen_eq];omega
    have eH:=ku (2) (0) (0) (s2) (0) (0) ([]);obtain⟨i0,hi,hz0,hz1,hz2⟩:=aiS oz
    go_region_law (refine step_append_lies _ rfl (.tmp 84) (.tmp 86) 35 rfl B 125 i0 (.agg (aO 0 0 0 [] 0 0 [])) 7 72 Tryz.underlying35 hi hz0 hz1 hz2 rfl (by decide) (vn) q.length xs (by simp[Act.eval]) ((aiq hown).alloc _) ⟨w3.heap.size,0,none⟩ 1 1 (aO (2) (0) (0) (s2) (0) (0) ([])).toList (by simp[Act.eval]) rfl (World.news_of_block (aii _ _)) eH (by decide) hqm uh (by simp;omega) _ rfl ?_;intro g cap w5 hown5 dH nK nM;have kG:=(dH.block P (by simp;omega) (λe=>uJ e.symm)).trans ((heap_alloc_old w3.drew _ nJ).trans dU.cells);have k5:w5.cell? ⟨P,1,none⟩=some (vn):=au kG 1;have z5:=bn kG 1)
    all_goals go_wp2
    all_goals go_ret
    all_goals exact oC he rfl (dU.put (((Below.refl _ w3).drew).alloc (ahx _) _) hown hrep hx hown5 dH nK nM)
   .obtain⟨s2,hs2,hs2'⟩:∃s2,Hid (s2=Sp.wordAt (f.drop 1) 0)/\s2=Sp.wordAt (f.drop 1) 0:=⟨_,rfl,rfl⟩;have nx:=rq B P wr LX vn (f.drop 1) zk hR.cells hR.words;have hl2:=xP vU 0;rw[← hs2']at nx hl2;clear hs2';have he:Hid _:=DW (k:=k) (q:=q) hop.out (by decide);rw[← hs2.out]at he;have hx:=lT (op:=8) (s:=s2) ⟨by decide,by decide⟩ n0 n0 (by rw[maxLen_eq];omega) n0 n0 m0
    go_wp2_with (first
     |(go_at_call 175;refine nx.mono ?_;rintro e w2 ⟨rfl,ER,hf2,hP2,hst2⟩;obtain⟨hR2,zn⟩:=hR.next hf2 hP2 hst2;have hrow2:=zn.trans hrow;have z3:=bn hrow2 3;have d3:=au hrow2 3))
    have dU:=hR2.qQ 3 (.string ⟨s2.toArray⟩);have hrow3:(w2.setCell ⟨W1.heap.size,3,none⟩ (.string ⟨s2.toArray⟩)).heap[W1.heap.size]? =some (.cells (aO 8 0 0 s2 0 0 []) 125 (0,0)):=eX hrow2 3 _;generalize w2.setCell ⟨W1.heap.size,3,none⟩ (.string ⟨s2.toArray⟩)=w3 at dU hrow3 ⊢;obtain⟨xs,hown,uJ,hrep⟩:=dU.nodes;have c0:w3.cell? ⟨W1.heap.size,0,none⟩=some (.int .i64 (8)):=au hrow3 0;have c1:w3.cell? ⟨W1.heap.size,1,none⟩=some (.int .i64 (0)):=au hrow3 1;have c2:w3.cell? ⟨W1.heap.size,2,none⟩=some (.int .i64 (0)):=au hrow3 2;have c3:w3.cell? ⟨W1.heap.size,3,none⟩=some (.string ⟨(s2:List UInt8).toArray⟩):=au hrow3 3;have c4:w3.cell? ⟨W1.heap.size,4,none⟩=some (.int .i64 (0)):=au hrow3 4;have c5:w3.cell? ⟨W1.heap.size,5,none⟩=some (.int .i64 (0)):=au hrow3 5;have c6:w3.cell? ⟨W1.heap.size,6,none⟩=some (.string ⟨([]:List UInt8).toArray⟩):=au hrow3 6;have p1:w3.cell? ⟨P,1,none⟩=some (vn):=au dU.cells 1;have zP:=bn dU.cells 1;have nJ:P<w3.heap.size:=(ahz.1 dU.cells).1;have hBr:B<=w3.heap.size:=by omega
    have uh:(q.length+1)*72<=140737488355328:=by omega
    have hqm:q.length+1<=maxLen:=by rw[maxLen_eq];omega
    have eH:=ku (8) (0) (0) (s2) (0) (0) ([]);obtain⟨i0,hi,hz0,hz1,hz2⟩:=aiS oz
    go_region_law (refine step_append_lies _ rfl (.tmp 84) (.tmp 86) 35 rfl B 125 i0 (.agg (aO 0 0 0 [] 0 0 [])) 7 72 Tryz.underlying35 hi hz0 hz1 hz2 rfl (by decide) (vn) q.length xs (by simp[Act.eval]) ((aiq hown).alloc _) ⟨w3.heap.size,0,none⟩ 1 1 (aO (8) (0) (0) (s2) (0) (0) ([])).toList (by simp[Act.eval]) rfl (World.news_of_block (aii _ _)) eH (by decide) hqm uh (by simp;omega) _ rfl ?_;intro g cap w5 hown5 dH nK nM;have kG:=(dH.block P (by simp;omega) (λe=>uJ e.symm)).trans ((heap_alloc_old w3.drew _ nJ).trans dU.cells);have k5:w5.cell? ⟨P,1,none⟩=some (vn):=au kG 1;have z5:=bn kG 1)
    all_goals go_wp2
    all_goals go_ret
    all_goals exact oC he rfl (dU.put (((Below.refl _ w3).drew).alloc (ahx _) _) hown hrep hx hown5 dH nK nM)
   .obtain⟨s2,hs2,hs2'⟩:∃s2,Hid (s2=Sp.wordAt (f.drop 1) 0)/\s2=Sp.wordAt (f.drop 1) 0:=⟨_,rfl,rfl⟩;have nx:=rq B P wr LX vn (f.drop 1) zk hR.cells hR.words;have hl2:=xP vU 0;rw[← hs2']at nx hl2;clear hs2';have he:Hid _:=DW (k:=k) (q:=q) hop.out (by decide);rw[← hs2.out]at he;have hx:=lT (op:=9) (s:=s2) ⟨by decide,by decide⟩ n0 n0 (by rw[maxLen_eq];omega) n0 n0 m0
    go_wp2_with (first
     |(go_at_call 175;refine nx.mono ?_;rintro e w2 ⟨rfl,ER,hf2,hP2,hst2⟩;obtain⟨hR2,zn⟩:=hR.next hf2 hP2 hst2;have hrow2:=zn.trans hrow;have z3:=bn hrow2 3;have d3:=au hrow2 3))
    have dU:=hR2.qQ 3 (.string ⟨s2.toArray⟩);have hrow3:(w2.setCell ⟨W1.heap.size,3,none⟩ (.string ⟨s2.toArray⟩)).heap[W1.heap.size]? =some (.cells (aO 9 0 0 s2 0 0 []) 125 (0,0)):=eX hrow2 3 _;generalize w2.setCell ⟨W1.heap.size,3,none⟩ (.string ⟨s2.toArray⟩)=w3 at dU hrow3 ⊢;obtain⟨xs,hown,uJ,hrep⟩:=dU.nodes;have c0:w3.cell? ⟨W1.heap.size,0,none⟩=some (.int .i64 (9)):=au hrow3 0;have c1:w3.cell? ⟨W1.heap.size,1,none⟩=some (.int .i64 (0)):=au hrow3 1;have c2:w3.cell? ⟨W1.heap.size,2,none⟩=some (.int .i64 (0)):=au hrow3 2;have c3:w3.cell? ⟨W1.heap.size,3,none⟩=some (.string ⟨(s2:List UInt8).toArray⟩):=au hrow3 3;have c4:w3.cell? ⟨W1.heap.size,4,none⟩=some (.int .i64 (0)):=au hrow3 4;have c5:w3.cell? ⟨W1.heap.size,5,none⟩=some (.int .i64 (0)):=au hrow3 5;have c6:w3.cell? ⟨W1.heap.size,6,none⟩=some (.string ⟨([]:List UInt8).toArray⟩):=au hrow3 6;have p1:w3.cell? ⟨P,1,none⟩=some (vn):=au dU.cells 1;have zP:=bn dU.cells 1;have nJ:P<w3.heap.size:=(ahz.1 dU.cells).1;have hBr:B<=w3.heap.size:=by omega
    have uh:(q.length+1)*72<=140737488355328:=by omega
    have hqm:q.length+1<=maxLen:=by rw[maxLen_eq];omega
    have eH:=ku (9) (0) (0) (s2) (0) (0) ([]);obtain⟨i0,hi,hz0,hz1,hz2⟩:=aiS oz
    go_region_law (refine step_append_lies _ rfl (.tmp 84) (.tmp 86) 35 rfl B 125 i0 (.agg (aO 0 0 0 [] 0 0 [])) 7 72 Tryz.underlying35 hi hz0 hz1 hz2 rfl (by decide) (vn) q.length xs (by simp[Act.eval]) ((aiq hown).alloc _) ⟨w3.heap.size,0,none⟩ 1 1 (aO (9) (0) (0) (s2) (0) (0) ([])).toList (by simp[Act.eval]) rfl (World.news_of_block (aii _ _)) eH (by decide) hqm uh (by simp;omega) _ rfl ?_;intro g cap w5 hown5 dH nK nM;have kG:=(dH.block P (by simp;omega) (λe=>uJ e.symm)).trans ((heap_alloc_old w3.drew _ nJ).trans dU.cells);have k5:w5.cell? ⟨P,1,none⟩=some (vn):=au kG 1;have z5:=bn kG 1)
    all_goals go_wp2
    all_goals go_ret
    all_goals exact oC he rfl (dU.put (((Below.refl _ w3).drew).alloc (ahx _) _) hown hrep hx hown5 dH nK nM)
   .obtain⟨s2,hs2,hs2'⟩:∃s2,Hid (s2=Sp.wordAt (f.drop 1) 0)/\s2=Sp.wordAt (f.drop 1) 0:=⟨_,rfl,rfl⟩;obtain⟨s3,hs3,XO⟩:∃s3,Hid (s3=Sp.wordAt ((f.drop 1).drop 1) 0)/\s3=Sp.wordAt ((f.drop 1).drop 1) 0:=⟨_,rfl,rfl⟩;have nx:=rq B P wr LX vn (f.drop 1) zk hR.cells hR.words;have hl2:=xP vU 0;have hl3:=xP aeb 0;rw[← hs2']at nx hl2;rw[← XO]at hl3;clear hs2' XO;have he:Hid _:=IW (k:=k) (q:=q) hop.out (by decide);rw[← hs2.out,← hs3.out]at he;have pv:=Zd s3 (by omega);generalize aY s3=z at he pv;obtain⟨⟨v1,v2,v3,⟨⟩⟩,ok⟩:=z;dsimp only at pv
    go_wp2_with (first
     |(go_at_call 175;refine nx.mono ?_;rintro e w2 ⟨rfl,ER,hf2,hP2,hst2⟩;obtain⟨hR2,zn⟩:=hR.next hf2 hP2 hst2;have hrow2:=zn.trans hrow;have z3:=bn hrow2 3;have d3:=au hrow2 3;clear nx)
     |(have dU:=hR2.qQ 3 (.string ⟨s2.toArray⟩);have hrow3:(w2.setCell ⟨W1.heap.size,3,none⟩ (.string ⟨s2.toArray⟩)).heap[W1.heap.size]? =some (.cells (aO 3 0 0 s2 0 0 []) 125 (0,0)):=eX hrow2 3 _;have XP:=rq B P _ ER vn ((f.drop 1).drop 1) zk dU.cells dU.words;rw[← hs3.out]at XP;go_at_call 175;refine XP.mono ?_;rintro e w4 ⟨rfl,vf4,hf4,hP4,ab2⟩;obtain⟨DX,XQ⟩:=dU.next hf4 hP4 ab2;have hrow4:=XQ.trans hrow3;clear XP)
     |(go_at_call 132;refine(pv _ DX.gl).mono ?_;rintro e w6 ⟨rfl,hb6,hv1,hv2,hv3⟩;have hR6:=DX.below hb6;have rW:=(hb6.block _ DX.lt).trans hrow4;have y4:=bn rW 4;have y5:=bn rW 5;have y6:=bn rW 6;have x4:w6.cell? ⟨W1.heap.size,4,none⟩=some (.int .i64 0):=au rW 4;have x5:w6.cell? ⟨W1.heap.size,5,none⟩=some (.int .i64 0):=au rW 5;have x6:w6.cell? ⟨W1.heap.size,6,none⟩=some (.string ⟨([]:List UInt8).toArray⟩):=au rW 6))
    have DY:=((hR6.qQ 4 (.int .i64 v1)).qQ 5 (.int .i64 v2)).qQ 6 (.string ⟨v3.toArray⟩);have oW:(((w6.setCell ⟨W1.heap.size,4,none⟩ (.int .i64 v1)).setCell ⟨W1.heap.size,5,none⟩ (.int .i64 v2)).setCell ⟨W1.heap.size,6,none⟩ (.string ⟨v3.toArray⟩)).heap[W1.heap.size]? =some (.cells (aO 3 0 0 s2 v1 v2 v3) 125 (0,0)):=eX (eX (eX rW 4 _) 5 _) 6 _;have hx:=lT (op:=3) (s:=s2) ⟨by decide,by decide⟩ n0 n0 (by rw[maxLen_eq];omega) hv1 hv2 hv3;generalize ((w6.setCell ⟨W1.heap.size,4,none⟩ (.int .i64 v1)).setCell ⟨W1.heap.size,5,none⟩ (.int .i64 v2)).setCell ⟨W1.heap.size,6,none⟩ (.string ⟨v3.toArray⟩)=w7 at DY oW ⊢;clear x4 x5 x6 y4 y5 y6 d3 z3;obtain⟨xs,hown,uJ,hrep⟩:=DY.nodes;have c0:w7.cell? ⟨W1.heap.size,0,none⟩=some (.int .i64 (3)):=au oW 0;have c1:w7.cell? ⟨W1.heap.size,1,none⟩=some (.int .i64 (0)):=au oW 1;have c2:w7.cell? ⟨W1.heap.size,2,none⟩=some (.int .i64 (0)):=au oW 2;have c3:w7.cell? ⟨W1.heap.size,3,none⟩=some (.string ⟨(s2:List UInt8).toArray⟩):=au oW 3;have c4:w7.cell? ⟨W1.heap.size,4,none⟩=some (.int .i64 (v1)):=au oW 4;have c5:w7.cell? ⟨W1.heap.size,5,none⟩=some (.int .i64 (v2)):=au oW 5;have c6:w7.cell? ⟨W1.heap.size,6,none⟩=some (.string ⟨(v3:List UInt8).toArray⟩):=au oW 6;have p1:w7.cell? ⟨P,1,none⟩=some (vn):=au DY.cells 1;have zP:=bn DY.cells 1;have nJ:P<w7.heap.size:=(ahz.1 DY.cells).1;have hBr:B<=w7.heap.size:=by omega
    have uh:(q.length+1)*72<=140737488355328:=by omega
    have hqm:q.length+1<=maxLen:=by rw[maxLen_eq];omega
    have eH:=ku (3) (0) (0) (s2) (v1) (v2) (v3);obtain⟨i0,hi,hz0,hz1,hz2⟩:=aiS oz
    go_region_law (refine step_append_lies _ rfl (.tmp 84) (.tmp 86) 35 rfl B 125 i0 (.agg (aO 0 0 0 [] 0 0 [])) 7 72 Tryz.underlying35 hi hz0 hz1 hz2 rfl (by decide) (vn) q.length xs (by simp[Act.eval]) ((aiq hown).alloc _) ⟨w7.heap.size,0,none⟩ 1 1 (aO (3) (0) (0) (s2) (v1) (v2) (v3)).toList (by simp[Act.eval]) rfl (World.news_of_block (aii _ _)) eH (by decide) hqm uh (by simp;omega) _ rfl ?_;intro g cap w5 hown5 dH nK nM;have kG:=(dH.block P (by simp;omega) (λe=>uJ e.symm)).trans ((heap_alloc_old w7.drew _ nJ).trans DY.cells);have k5:w5.cell? ⟨P,1,none⟩=some (vn):=au kG 1;have z5:=bn kG 1)
    all_goals go_wp2
    all_goals go_ret
    all_goals exact oC he rfl (DY.put (((Below.refl _ w7).drew).alloc (ahx _) _) hown hrep hx hown5 dH nK nM)
   .obtain⟨s2,hs2,hs2'⟩:∃s2,Hid (s2=Sp.wordAt (f.drop 1) 0)/\s2=Sp.wordAt (f.drop 1) 0:=⟨_,rfl,rfl⟩;obtain⟨s3,hs3,XO⟩:∃s3,Hid (s3=Sp.wordAt ((f.drop 1).drop 1) 0)/\s3=Sp.wordAt ((f.drop 1).drop 1) 0:=⟨_,rfl,rfl⟩;have nx:=rq B P wr LX vn (f.drop 1) zk hR.cells hR.words;have hl2:=xP vU 0;have hl3:=xP aeb 0;rw[← hs2']at nx hl2;rw[← XO]at hl3;clear hs2' XO;have he:Hid _:=IW (k:=k) (q:=q) hop.out (by decide);rw[← hs2.out,← hs3.out]at he;have pv:=Zd s3 (by omega);generalize aY s3=z at he pv;obtain⟨⟨v1,v2,v3,⟨⟩⟩,ok⟩:=z;dsimp only at pv
    go_wp2_with (first
     |(go_at_call 175;refine nx.mono ?_;rintro e w2 ⟨rfl,ER,hf2,hP2,hst2⟩;obtain⟨hR2,zn⟩:=hR.next hf2 hP2 hst2;have hrow2:=zn.trans hrow;have z3:=bn hrow2 3;have d3:=au hrow2 3;clear nx)
     |(have dU:=hR2.qQ 3 (.string ⟨s2.toArray⟩);have hrow3:(w2.setCell ⟨W1.heap.size,3,none⟩ (.string ⟨s2.toArray⟩)).heap[W1.heap.size]? =some (.cells (aO 4 0 0 s2 0 0 []) 125 (0,0)):=eX hrow2 3 _;have XP:=rq B P _ ER vn ((f.drop 1).drop 1) zk dU.cells dU.words;rw[← hs3.out]at XP;go_at_call 175;refine XP.mono ?_;rintro e w4 ⟨rfl,vf4,hf4,hP4,ab2⟩;obtain⟨DX,XQ⟩:=dU.next hf4 hP4 ab2;have hrow4:=XQ.trans hrow3;clear XP)
     |(go_at_call 132;refine(pv _ DX.gl).mono ?_;rintro e w6 ⟨rfl,hb6,hv1,hv2,hv3⟩;have hR6:=DX.below hb6;have rW:=(hb6.block _ DX.lt).trans hrow4;have y4:=bn rW 4;have y5:=bn rW 5;have y6:=bn rW 6;have x4:w6.cell? ⟨W1.heap.size,4,none⟩=some (.int .i64 0):=au rW 4;have x5:w6.cell? ⟨W1.heap.size,5,none⟩=some (.int .i64 0):=au rW 5;have x6:w6.cell? ⟨W1.heap.size,6,none⟩=some (.string ⟨([]:List UInt8).toArray⟩):=au rW 6))
    have DY:=((hR6.qQ 4 (.int .i64 v1)).qQ 5 (.int .i64 v2)).qQ 6 (.string ⟨v3.toArray⟩);have oW:(((w6.setCell ⟨W1.heap.size,4,none⟩ (.int .i64 v1)).setCell ⟨W1.heap.size,5,none⟩ (.int .i64 v2)).setCell ⟨W1.heap.size,6,none⟩ (.string ⟨v3.toArray⟩)).heap[W1.heap.size]? =some (.cells (aO 4 0 0 s2 v1 v2 v3) 125 (0,0)):=eX (eX (eX rW 4 _) 5 _) 6 _;have hx:=lT (op:=4) (s:=s2) ⟨by decide,by decide⟩ n0 n0 (by rw[maxLen_eq];omega) hv1 hv2 hv3;generalize ((w6.setCell ⟨W1.heap.size,4,none⟩ (.int .i64 v1)).setCell ⟨W1.heap.size,5,none⟩ (.int .i64 v2)).setCell ⟨W1.heap.size,6,none⟩ (.string ⟨v3.toArray⟩)=w7 at DY oW ⊢;clear x4 x5 x6 y4 y5 y6 d3 z3;obtain⟨xs,hown,uJ,hrep⟩:=DY.nodes;have c0:w7.cell? ⟨W1.heap.size,0,none⟩=some (.int .i64 (4)):=au oW 0;have c1:w7.cell? ⟨W1.heap.size,1,none⟩=some (.int .i64 (0)):=au oW 1;have c2:w7.cell? ⟨W1.heap.size,2,none⟩=some (.int .i64 (0)):=au oW 2;have c3:w7.cell? ⟨W1.heap.size,3,none⟩=some (.string ⟨(s2:List UInt8).toArray⟩):=au oW 3;have c4:w7.cell? ⟨W1.heap.size,4,none⟩=some (.int .i64 (v1)):=au oW 4;have c5:w7.cell? ⟨W1.heap.size,5,none⟩=some (.int .i64 (v2)):=au oW 5;have c6:w7.cell? ⟨W1.heap.size,6,none⟩=some (.string ⟨(v3:List UInt8).toArray⟩):=au oW 6;have p1:w7.cell? ⟨P,1,none⟩=some (vn):=au DY.cells 1;have zP:=bn DY.cells 1;have nJ:P<w7.heap.size:=(ahz.1 DY.cells).1;have hBr:B<=w7.heap.size:=by omega
    have uh:(q.length+1)*72<=140737488355328:=by omega
    have hqm:q.length+1<=maxLen:=by rw[maxLen_eq];omega
    have eH:=ku (4) (0) (0) (s2) (v1) (v2) (v3);obtain⟨i0,hi,hz0,hz1,hz2⟩:=aiS oz
    go_region_law (refine step_append_lies _ rfl (.tmp 84) (.tmp 86) 35 rfl B 125 i0 (.agg (aO 0 0 0 [] 0 0 [])) 7 72 Tryz.underlying35 hi hz0 hz1 hz2 rfl (by decide) (vn) q.length xs (by simp[Act.eval]) ((aiq hown).alloc _) ⟨w7.heap.size,0,none⟩ 1 1 (aO (4) (0) (0) (s2) (v1) (v2) (v3)).toList (by simp[Act.eval]) rfl (World.news_of_block (aii _ _)) eH (by decide) hqm uh (by simp;omega) _ rfl ?_;intro g cap w5 hown5 dH nK nM;have kG:=(dH.block P (by simp;omega) (λe=>uJ e.symm)).trans ((heap_alloc_old w7.drew _ nJ).trans DY.cells);have k5:w5.cell? ⟨P,1,none⟩=some (vn):=au kG 1;have z5:=bn kG 1)
    all_goals go_wp2
    all_goals go_ret
    all_goals exact oC he rfl (DY.put (((Below.refl _ w7).drew).alloc (ahx _) _) hown hrep hx hown5 dH nK nM)
   .have he:Hid _:=XM (k:=k) (q:=q) hop.out;have hcnt:=pJ k (f.drop 1) q;have hrl:=DZ k (f.drop 1) q;have hwl:=pK k (f.drop 1) q vU;have hlp:=LW hop.out (by decide);have nd:=ih.out B P wr LX vn (f.drop 1) q (by omega) OD zk hR.gl hR.cells hR.words hR.nodes vU (by omega);generalize Sp.rd k (f.drop 1) q=z at he nd hcnt hwl hrl;obtain⟨b1,f2,q2⟩:=z;dsimp only at nd hcnt hwl
    go_wp2_with (first
     |(go_at_call 133;refine nd.mono ?_;rintro e w2 ⟨rfl,hd⟩;obtain⟨⟨ER,XR,hR2⟩,zn⟩:=hR.read hd;obtain⟨a2,cap2,IX⟩:=hR2.nodes.form;subst IX;have hrow2:=zn.trans hrow;have p2:w2.cell? ⟨P,1,none⟩=some (.slice a2 q2.length cap2):=au hR2.cells 1;have y1:=bn hrow2 1;have x1:w2.cell? ⟨W1.heap.size,1,none⟩=some (.int .i64 0):=au hrow2 1;clear nd))
    have dU:=hR2.qQ 1 (.int .i64 ((q2.length:Int)-1));have hrow3:(w2.setCell ⟨W1.heap.size,1,none⟩ (.int .i64 ((q2.length:Int)-1))).heap[W1.heap.size]? =some (.cells (aO 5 ((q2.length:Int)-1) 0 [] 0 0 []) 125 (0,0)):=eX hrow2 1 _;have hx:=lT (op:=5) (l:=(q2.length:Int)-1) ⟨by decide,by decide⟩ ⟨by omega,by omega⟩ n0 m0 n0 n0 m0;generalize w2.setCell ⟨W1.heap.size,1,none⟩ (.int .i64 ((q2.length:Int)-1))=w3 at dU hrow3 ⊢;clear x1 y1 p2;obtain⟨xs,hown,uJ,hrep⟩:=dU.nodes;have c0:w3.cell? ⟨W1.heap.size,0,none⟩=some (.int .i64 (5)):=au hrow3 0;have c1:w3.cell? ⟨W1.heap.size,1,none⟩=some (.int .i64 ((q2.length:Int)-1)):=au hrow3 1;have c2:w3.cell? ⟨W1.heap.size,2,none⟩=some (.int .i64 (0)):=au hrow3 2;have c3:w3.cell? ⟨W1.heap.size,3,none⟩=some (.string ⟨([]:List UInt8).toArray⟩):=au hrow3 3;have c4:w3.cell? ⟨W1.heap.size,4,none⟩=some (.int .i64 (0)):=au hrow3 4;have c5:w3.cell? ⟨W1.heap.size,5,none⟩=some (.int .i64 (0)):=au hrow3 5;have c6:w3.cell? ⟨W1.heap.size,6,none⟩=some (.string ⟨([]:List UInt8).toArray⟩):=au hrow3 6;have p1:w3.cell? ⟨P,1,none⟩=some (.slice a2 q2.length cap2):=au dU.cells 1;have zP:=bn dU.cells 1;have nJ:P<w3.heap.size:=(ahz.1 dU.cells).1;have hBr:B<=w3.heap.size:=by omega
    have uh:(q2.length+1)*72<=140737488355328:=by omega
    have hqm:q2.length+1<=maxLen:=by rw[maxLen_eq];omega
    have eH:=ku (5) ((q2.length:Int)-1) (0) ([]) (0) (0) ([]);obtain⟨i0,hi,hz0,hz1,hz2⟩:=aiS oz
    go_region_law (refine step_append_lies _ rfl (.tmp 84) (.tmp 86) 35 rfl B 125 i0 (.agg (aO 0 0 0 [] 0 0 [])) 7 72 Tryz.underlying35 hi hz0 hz1 hz2 rfl (by decide) (.slice a2 q2.length cap2) q2.length xs (by simp[Act.eval]) ((aiq hown).alloc _) ⟨w3.heap.size,0,none⟩ 1 1 (aO (5) ((q2.length:Int)-1) (0) ([]) (0) (0) ([])).toList (by simp[Act.eval]) rfl (World.news_of_block (aii _ _)) eH (by decide) hqm uh (by simp;omega) _ rfl ?_;intro g cap w5 hown5 dH nK nM;have kG:=(dH.block P (by simp;omega) (λe=>uJ e.symm)).trans ((heap_alloc_old w3.drew _ nJ).trans dU.cells);have k5:w5.cell? ⟨P,1,none⟩=some (.slice a2 q2.length cap2):=au kG 1;have z5:=bn kG 1)
    all_goals go_wp2
    all_goals go_ret
    all_goals exact oC he rfl (dU.put (((Below.refl _ w3).drew).alloc (ahx _) _) hown hrep hx hown5 dH nK nM)
   .cases hb1:(Sp.rd k (f.drop 1) q).1 with
    |false=>
     have he:Hid _:=RP (k:=k) (q:=q) hop.out (by decide) hb1;have hcnt:=pJ k (f.drop 1) q;have hrl:=DZ k (f.drop 1) q;have hwl:=pK k (f.drop 1) q vU;have hlp:=LW hop.out (by decide);have nd:=ih.out B P wr LX vn (f.drop 1) q (by omega) OD zk hR.gl hR.cells hR.words hR.nodes vU (by omega);generalize Sp.rd k (f.drop 1) q=z at he nd hcnt hwl hrl hb1;obtain⟨b1,f2,q2⟩:=z;dsimp only at nd hcnt hwl hrl hb1;subst hb1
     go_wp2_with (first
      |(go_at_call 133;refine nd.mono ?_;rintro e w2 ⟨rfl,hd⟩;obtain⟨⟨ER,XR,hR2⟩,zn⟩:=hR.read hd;obtain⟨a2,cap2,IX⟩:=hR2.nodes.form;subst IX;have hrow2:=zn.trans hrow;have p2:w2.cell? ⟨P,1,none⟩=some (.slice a2 q2.length cap2):=au hR2.cells 1;have y1:=bn hrow2 1;have x1:w2.cell? ⟨W1.heap.size,1,none⟩=some (.int .i64 0):=au hrow2 1;have y2:=bn hrow2 2;have x2:w2.cell? ⟨W1.heap.size,2,none⟩=some (.int .i64 0):=au hrow2 2;clear nd))
     have dU:=(hR2.qQ 1 (.int .i64 ((q2.length:Int)-1))).qQ 2 (.int .i64 ((q2.length:Int)-1));have hrow3:((w2.setCell ⟨W1.heap.size,1,none⟩ (.int .i64 ((q2.length:Int)-1))).setCell ⟨W1.heap.size,2,none⟩ (.int .i64 ((q2.length:Int)-1))).heap[W1.heap.size]? =some (.cells (aO 6 ((q2.length:Int)-1) ((q2.length:Int)-1) [] 0 0 []) 125 (0,0)):=eX (eX hrow2 1 _) 2 _;have hx:=lT (op:=6) (l:=((q2.length:Int)-1)) (r:=((q2.length:Int)-1)) ⟨by decide,by decide⟩ ⟨by omega,by omega⟩ ⟨by omega,by omega⟩ m0 n0 n0 m0;generalize (w2.setCell ⟨W1.heap.size,1,none⟩ (.int .i64 ((q2.length:Int)-1))).setCell ⟨W1.heap.size,2,none⟩ (.int .i64 ((q2.length:Int)-1))=w3 at dU hrow3 ⊢;clear x1 y1 x2 y2 p2;obtain⟨xs,hown,uJ,hrep⟩:=dU.nodes;have c0:w3.cell? ⟨W1.heap.size,0,none⟩=some (.int .i64 (6)):=au hrow3 0;have c1:w3.cell? ⟨W1.heap.size,1,none⟩=some (.int .i64 ((q2.length:Int)-1)):=au hrow3 1;have c2:w3.cell? ⟨W1.heap.size,2,none⟩=some (.int .i64 ((q2.length:Int)-1)):=au hrow3 2;have c3:w3.cell? ⟨W1.heap.size,3,none⟩=some (.string ⟨([]:List UInt8).toArray⟩):=au hrow3 3;have c4:w3.cell? ⟨W1.heap.size,4,none⟩=some (.int .i64 (0)):=au hrow3 4;have c5:w3.cell? ⟨W1.heap.size,5,none⟩=some (.int .i64 (0)):=au hrow3 5;have c6:w3.cell? ⟨W1.heap.size,6,none⟩=some (.string ⟨([]:List UInt8).toArray⟩):=au hrow3 6;have p1:w3.cell? ⟨P,1,none⟩=some (.slice a2 q2.length cap2):=au dU.cells 1;have zP:=bn dU.cells 1;have nJ:P<w3.heap.size:=(ahz.1 dU.cells).1;have hBr:B<=w3.heap.size:=by omega
     have uh:(q2.length+1)*72<=140737488355328:=by omega
     have hqm:q2.length+1<=maxLen:=by rw[maxLen_eq];omega
     have eH:=ku (6) ((q2.length:Int)-1) ((q2.length:Int)-1) ([]) (0) (0) ([]);obtain⟨i0,hi,hz0,hz1,hz2⟩:=aiS oz
     go_region_law (refine step_append_lies _ rfl (.tmp 84) (.tmp 86) 35 rfl B 125 i0 (.agg (aO 0 0 0 [] 0 0 [])) 7 72 Tryz.underlying35 hi hz0 hz1 hz2 rfl (by decide) (.slice a2 q2.length cap2) q2.length xs (by simp[Act.eval]) ((aiq hown).alloc _) ⟨w3.heap.size,0,none⟩ 1 1 (aO (6) ((q2.length:Int)-1) ((q2.length:Int)-1) ([]) (0) (0) ([])).toList (by simp[Act.eval]) rfl (World.news_of_block (aii _ _)) eH (by decide) hqm uh (by simp;omega) _ rfl ?_;intro g cap w5 hown5 dH nK nM;have kG:=(dH.block P (by simp;omega) (λe=>uJ e.symm)).trans ((heap_alloc_old w3.drew _ nJ).trans dU.cells);have k5:w5.cell? ⟨P,1,none⟩=some (.slice a2 q2.length cap2):=au kG 1;have z5:=bn kG 1)
     all_goals go_wp2
     all_goals go_ret
     all_goals exact oC he rfl (dU.put (((Below.refl _ w3).drew).alloc (ahx _) _) hown hrep hx hown5 dH nK nM)
    |true=>
     have he:Hid _:=Nk (k:=k) (q:=q) hop.out (by decide) hb1;have hcnt:=pJ k (f.drop 1) q;have hrl:=DZ k (f.drop 1) q;have hwl:=pK k (f.drop 1) q vU;have hlp:=LW hop.out (by decide);have nd:=ih.out B P wr LX vn (f.drop 1) q (by omega) OD zk hR.gl hR.cells hR.words hR.nodes vU (by omega);generalize Sp.rd k (f.drop 1) q=z at he nd hcnt hwl hrl hb1;obtain⟨b1,f2,q2⟩:=z;dsimp only at he nd hcnt hwl hrl hb1;subst hb1;have RU:=λ(w:World)(BB RN:Value)(hr:AU B P W1.heap.size W vn.ownBlock w BB RN f2 q2)=>ih.out B P w BB RN f2 q2 (by omega) OD zk hr.gl hr.cells hr.words hr.nodes hwl (by omega);have hcnt2:=pJ k f2 q2;generalize Sp.rd k f2 q2=z2 at he RU hcnt2;obtain⟨b2,f3,q3⟩:=z2;dsimp only at he RU hcnt2
     go_wp2_with (first
      |(go_at_call 133;refine nd.mono ?_;rintro e w2 ⟨rfl,hd⟩;obtain⟨⟨ER,XR,hR2⟩,zn⟩:=hR.read hd;obtain⟨a2,cap2,IX⟩:=hR2.nodes.form;subst IX;have hrow2:=zn.trans hrow;have p2:w2.cell? ⟨P,1,none⟩=some (.slice a2 q2.length cap2):=au hR2.cells 1;have y1:=bn hrow2 1;have x1:w2.cell? ⟨W1.heap.size,1,none⟩=some (.int .i64 0):=au hrow2 1;clear nd)
      |(have dU:=hR2.qQ 1 (.int .i64 ((q2.length:Int)-1));have hrow3:(w2.setCell ⟨W1.heap.size,1,none⟩ (.int .i64 ((q2.length:Int)-1))).heap[W1.heap.size]? =some (.cells (aO 6 ((q2.length:Int)-1) 0 [] 0 0 []) 125 (0,0)):=eX hrow2 1 _;go_at_call 133;refine(RU _ _ _ dU).mono ?_;rintro e w4 ⟨rfl,hd4⟩;obtain⟨⟨vf4,vn4,DX⟩,XQ⟩:=dU.read hd4;obtain⟨a4,cap4,ab3⟩:=DX.nodes.form;subst ab3;have hrow4:=XQ.trans hrow3;have p4:w4.cell? ⟨P,1,none⟩=some (.slice a4 q3.length cap4):=au DX.cells 1;have y2:=bn hrow4 2;have x2:w4.cell? ⟨W1.heap.size,2,none⟩=some (.int .i64 0):=au hrow4 2;clear RU p2 x1 y1))
     have D5:=DX.qQ 2 (.int .i64 ((q3.length:Int)-1));have oZ:(w4.setCell ⟨W1.heap.size,2,none⟩ (.int .i64 ((q3.length:Int)-1))).heap[W1.heap.size]? =some (.cells (aO 6 ((q2.length:Int)-1) ((q3.length:Int)-1) [] 0 0 []) 125 (0,0)):=eX hrow4 2 _;have hx:=lT (op:=6) (l:=((q2.length:Int)-1)) (r:=(q3.length:Int)-1) ⟨by decide,by decide⟩ ⟨by omega,by omega⟩ ⟨by omega,by omega⟩ m0 n0 n0 m0;generalize w4.setCell ⟨W1.heap.size,2,none⟩ (.int .i64 ((q3.length:Int)-1))=qR at D5 oZ ⊢;clear x2 y2 p4;obtain⟨xs,hown,uJ,hrep⟩:=D5.nodes;have c0:qR.cell? ⟨W1.heap.size,0,none⟩=some (.int .i64 (6)):=au oZ 0;have c1:qR.cell? ⟨W1.heap.size,1,none⟩=some (.int .i64 ((q2.length:Int)-1)):=au oZ 1;have c2:qR.cell? ⟨W1.heap.size,2,none⟩=some (.int .i64 ((q3.length:Int)-1)):=au oZ 2;have c3:qR.cell? ⟨W1.heap.size,3,none⟩=some (.string ⟨([]:List UInt8).toArray⟩):=au oZ 3;have c4:qR.cell? ⟨W1.heap.size,4,none⟩=some (.int .i64 (0)):=au oZ 4;have c5:qR.cell? ⟨W1.heap.size,5,none⟩=some (.int .i64 (0)):=au oZ 5;have c6:qR.cell? ⟨W1.heap.size,6,none⟩=some (.string ⟨([]:List UInt8).toArray⟩):=au oZ 6;have p1:qR.cell? ⟨P,1,none⟩=some (.slice a4 q3.length cap4):=au D5.cells 1;have zP:=bn D5.cells 1;have nJ:P<qR.heap.size:=(ahz.1 D5.cells).1;have hBr:B<=qR.heap.size:=by omega
     have uh:(q3.length+1)*72<=140737488355328:=by omega
     have hqm:q3.length+1<=maxLen:=by rw[maxLen_eq];omega
     have eH:=ku (6) ((q2.length:Int)-1) ((q3.length:Int)-1) ([]) (0) (0) ([]);obtain⟨i0,hi,hz0,hz1,hz2⟩:=aiS oz
     go_region_law (refine step_append_lies _ rfl (.tmp 84) (.tmp 86) 35 rfl B 125 i0 (.agg (aO 0 0 0 [] 0 0 [])) 7 72 Tryz.underlying35 hi hz0 hz1 hz2 rfl (by decide) (.slice a4 q3.length cap4) q3.length xs (by simp[Act.eval]) ((aiq hown).alloc _) ⟨qR.heap.size,0,none⟩ 1 1 (aO (6) ((q2.length:Int)-1) ((q3.length:Int)-1) ([]) (0) (0) ([])).toList (by simp[Act.eval]) rfl (World.news_of_block (aii _ _)) eH (by decide) hqm uh (by simp;omega) _ rfl ?_;intro g cap w5 hown5 dH nK nM;have kG:=(dH.block P (by simp;omega) (λe=>uJ e.symm)).trans ((heap_alloc_old qR.drew _ nJ).trans D5.cells);have k5:w5.cell? ⟨P,1,none⟩=some (.slice a4 q3.length cap4):=au kG 1;have z5:=bn kG 1)
     all_goals go_wp2
     all_goals go_ret
     all_goals exact oC he rfl (D5.put (((Below.refl _ qR).drew).alloc (ahx _) _) hown hrep hx hown5 dH nK nM)
   .cases hb1:(Sp.rd k (f.drop 1) q).1 with
    |false=>
     have he:Hid _:=RP (k:=k) (q:=q) hop.out (by decide) hb1;have hcnt:=pJ k (f.drop 1) q;have hrl:=DZ k (f.drop 1) q;have hwl:=pK k (f.drop 1) q vU;have hlp:=LW hop.out (by decide);have nd:=ih.out B P wr LX vn (f.drop 1) q (by omega) OD zk hR.gl hR.cells hR.words hR.nodes vU (by omega);generalize Sp.rd k (f.drop 1) q=z at he nd hcnt hwl hrl hb1;obtain⟨b1,f2,q2⟩:=z;dsimp only at nd hcnt hwl hrl hb1;subst hb1
     go_wp2_with (first
      |(go_at_call 133;refine nd.mono ?_;rintro e w2 ⟨rfl,hd⟩;obtain⟨⟨ER,XR,hR2⟩,zn⟩:=hR.read hd;obtain⟨a2,cap2,IX⟩:=hR2.nodes.form;subst IX;have hrow2:=zn.trans hrow;have p2:w2.cell? ⟨P,1,none⟩=some (.slice a2 q2.length cap2):=au hR2.cells 1;have y1:=bn hrow2 1;have x1:w2.cell? ⟨W1.heap.size,1,none⟩=some (.int .i64 0):=au hrow2 1;have y2:=bn hrow2 2;have x2:w2.cell? ⟨W1.heap.size,2,none⟩=some (.int .i64 0):=au hrow2 2;clear nd))
     have dU:=(hR2.qQ 1 (.int .i64 ((q2.length:Int)-1))).qQ 2 (.int .i64 ((q2.length:Int)-1));have hrow3:((w2.setCell ⟨W1.heap.size,1,none⟩ (.int .i64 ((q2.length:Int)-1))).setCell ⟨W1.heap.size,2,none⟩ (.int .i64 ((q2.length:Int)-1))).heap[W1.heap.size]? =some (.cells (aO 7 ((q2.length:Int)-1) ((q2.length:Int)-1) [] 0 0 []) 125 (0,0)):=eX (eX hrow2 1 _) 2 _;have hx:=lT (op:=7) (l:=((q2.length:Int)-1)) (r:=((q2.length:Int)-1)) ⟨by decide,by decide⟩ ⟨by omega,by omega⟩ ⟨by omega,by omega⟩ m0 n0 n0 m0;generalize (w2.setCell ⟨W1.heap.size,1,none⟩ (.int .i64 ((q2.length:Int)-1))).setCell ⟨W1.heap.size,2,none⟩ (.int .i64 ((q2.length:Int)-1))=w3 at dU hrow3 ⊢;clear x1 y1 x2 y2 p2;obtain⟨xs,hown,uJ,hrep⟩:=dU.nodes;have c0:w3.cell? ⟨W1.heap.size,0,none⟩=some (.int .i64 (7)):=au hrow3 0;have c1:w3.cell? ⟨W1.heap.size,1,none⟩=some (.int .i64 ((q2.length:Int)-1)):=au hrow3 1;have c2:w3.cell? ⟨W1.heap.size,2,none⟩=some (.int .i64 ((q2.length:Int)-1)):=au hrow3 2;have c3:w3.cell? ⟨W1.heap.size,3,none⟩=some (.string ⟨([]:List UInt8).toArray⟩):=au hrow3 3;have c4:w3.cell? ⟨W1.heap.size,4,none⟩=some (.int .i64 (0)):=au hrow3 4;have c5:w3.cell? ⟨W1.heap.size,5,none⟩=some (.int .i64 (0)):=au hrow3 5;have c6:w3.cell? ⟨W1.heap.size,6,none⟩=some (.string ⟨([]:List UInt8).toArray⟩):=au hrow3 6;have p1:w3.cell? ⟨P,1,none⟩=some (.slice a2 q2.length cap2):=au dU.cells 1;have zP:=bn dU.cells 1;have nJ:P<w3.heap.size:=(ahz.1 dU.cells).1;have hBr:B<=w3.heap.size:=by omega
     have uh:(q2.length+1)*72<=140737488355328:=by omega
     have hqm:q2.length+1<=maxLen:=by rw[maxLen_eq];omega
     have eH:=ku (7) ((q2.length:Int)-1) ((q2.length:Int)-1) ([]) (0) (0) ([]);obtain⟨i0,hi,hz0,hz1,hz2⟩:=aiS oz
     go_region_law (refine step_append_lies _ rfl (.tmp 84) (.tmp 86) 35 rfl B 125 i0 (.agg (aO 0 0 0 [] 0 0 [])) 7 72 Tryz.underlying35 hi hz0 hz1 hz2 rfl (by decide) (.slice a2 q2.length cap2) q2.length xs (by simp[Act.eval]) ((aiq hown).alloc _) ⟨w3.heap.size,0,none⟩ 1 1 (aO (7) ((q2.length:Int)-1) ((q2.length:Int)-1) ([]) (0) (0) ([])).toList (by simp[Act.eval]) rfl (World.news_of_block (aii _ _)) eH (by decide) hqm uh (by simp;omega) _ rfl ?_;intro g cap w5 hown5 dH nK nM;have kG:=(dH.block P (by simp;omega) (λe=>uJ e.symm)).trans ((heap_alloc_old w3.drew _ nJ).trans dU.cells);have k5:w5.cell? ⟨P,1,none⟩=some (.slice a2 q2.length cap2):=au kG 1;have z5:=bn kG 1)
     all_goals go_wp2
     all_goals go_ret
     all_goals exact oC he rfl (dU.put (((Below.refl _ w3).drew).alloc (ahx _) _) hown hrep hx hown5 dH nK nM)
    |true=>
     have he:Hid _:=Nk (k:=k) (q:=q) hop.out (by decide) hb1;have hcnt:=pJ k (f.drop 1) q;have hrl:=DZ k (f.drop 1) q;have hwl:=pK k (f.drop 1) q vU;have hlp:=LW hop.out (by decide);have nd:=ih.out B P wr LX vn (f.drop 1) q (by omega) OD zk hR.gl hR.cells hR.words hR.nodes vU (by omega);generalize Sp.rd k (f.drop 1) q=z at he nd hcnt hwl hrl hb1;obtain⟨b1,f2,q2⟩:=z;dsimp only at he nd hcnt hwl hrl hb1;subst hb1;have RU:=λ(w:World)(BB RN:Value)(hr:AU B P W1.heap.size W vn.ownBlock w BB RN f2 q2)=>ih.out B P w BB RN f2 q2 (by omega) OD zk hr.gl hr.cells hr.words hr.nodes hwl (by omega);have hcnt2:=pJ k f2 q2;generalize Sp.rd k f2 q2=z2 at he RU hcnt2;obtain⟨b2,f3,q3⟩:=z2;dsimp only at he RU hcnt2
     go_wp2_with (first
      |(go_at_call 133;refine nd.mono ?_;rintro e w2 ⟨rfl,hd⟩;obtain⟨⟨ER,XR,hR2⟩,zn⟩:=hR.read hd;obtain⟨a2,cap2,IX⟩:=hR2.nodes.form;subst IX;have hrow2:=zn.trans hrow;have p2:w2.cell? ⟨P,1,none⟩=some (.slice a2 q2.length cap2):=au hR2.cells 1;have y1:=bn hrow2 1;have x1:w2.cell? ⟨W1.heap.size,1,none⟩=some (.int .i64 0):=au hrow2 1;clear nd)
      |(have dU:=hR2.qQ 1 (.int .i64 ((q2.length:Int)-1));have hrow3:(w2.setCell ⟨W1.heap.size,1,none⟩ (.int .i64 ((q2.length:Int)-1))).heap[W1.heap.size]? =some (.cells (aO 7 ((q2.length:Int)-1) 0 [] 0 0 []) 125 (0,0)):=eX hrow2 1 _;go_at_call 133;refine(RU _ _ _ dU).mono ?_;rintro e w4 ⟨rfl,hd4⟩;obtain⟨⟨vf4,vn4,DX⟩,XQ⟩:=dU.read hd4;obtain⟨a4,cap4,ab3⟩:=DX.nodes.form;subst ab3;have hrow4:=XQ.trans hrow3;have p4:w4.cell? ⟨P,1,none⟩=some (.slice a4 q3.length cap4):=au DX.cells 1;have y2:=bn hrow4 2;have x2:w4.cell? ⟨W1.heap.size,2,none⟩=some (.int .i64 0):=au hrow4 2;clear RU p2 x1 y1))
     have D5:=DX.qQ 2 (.int .i64 ((q3.length:Int)-1));have oZ:(w4.setCell ⟨W1.heap.size,2,none⟩ (.int .i64 ((q3.length:Int)-1))).heap[W1.heap.size]? =some (.cells (aO 7 ((q2.length:Int)-1) ((q3.length:Int)-1) [] 0 0 []) 125 (0,0)):=eX hrow4 2 _;have hx:=lT (op:=7) (l:=((q2.length:Int)-1)) (r:=(q3.length:Int)-1) ⟨by decide,by decide⟩ ⟨by omega,by omega⟩ ⟨by omega,by omega⟩ m0 n0 n0 m0;generalize w4.setCell ⟨W1.heap.size,2,none⟩ (.int .i64 ((q3.length:Int)-1))=qR at D5 oZ ⊢;clear x2 y2 p4;obtain⟨xs,hown,uJ,hrep⟩:=D5.nodes;have c0:qR.cell? ⟨W1.heap.size,0,none⟩=some (.int .i64 (7)):=au oZ 0;have c1:qR.cell? ⟨W1.heap.size,1,none⟩=some (.int .i64 ((q2.length:Int)-1)):=au oZ 1;have c2:qR.cell? ⟨W1.heap.size,2,none⟩=some (.int .i64 ((q3.length:Int)-1)):=au oZ 2;have c3:qR.cell? ⟨W1.heap.size,3,none⟩=some (.string ⟨([]:List UInt8).toArray⟩):=au oZ 3;have c4:qR.cell? ⟨W1.heap.size,4,none⟩=some (.int .i64 (0)):=au oZ 4;have c5:qR.cell? ⟨W1.heap.size,5,none⟩=some (.int .i64 (0)):=au oZ 5;have c6:qR.cell? ⟨W1.heap.size,6,none⟩=some (.string ⟨([]:List UInt8).toArray⟩):=au oZ 6;have p1:qR.cell? ⟨P,1,none⟩=some (.slice a4 q3.length cap4):=au D5.cells 1;have zP:=bn D5.cells 1;have nJ:P<qR.heap.size:=(ahz.1 D5.cells).1;have hBr:B<=qR.heap.size:=by omega
     have uh:(q3.length+1)*72<=140737488355328:=by omega
     have hqm:q3.length+1<=maxLen:=by rw[maxLen_eq];omega
     have eH:=ku (7) ((q2.length:Int)-1) ((q3.length:Int)-1) ([]) (0) (0) ([]);obtain⟨i0,hi,hz0,hz1,hz2⟩:=aiS oz
     go_region_law (refine step_append_lies _ rfl (.tmp 84) (.tmp 86) 35 rfl B 125 i0 (.agg (aO 0 0 0 [] 0 0 [])) 7 72 Tryz.underlying35 hi hz0 hz1 hz2 rfl (by decide) (.slice a4 q3.length cap4) q3.length xs (by simp[Act.eval]) ((aiq hown).alloc _) ⟨qR.heap.size,0,none⟩ 1 1 (aO (7) ((q2.length:Int)-1) ((q3.length:Int)-1) ([]) (0) (0) ([])).toList (by simp[Act.eval]) rfl (World.news_of_block (aii _ _)) eH (by decide) hqm uh (by simp;omega) _ rfl ?_;intro g cap w5 hown5 dH nK nM;have kG:=(dH.block P (by simp;omega) (λe=>uJ e.symm)).trans ((heap_alloc_old qR.drew _ nJ).trans D5.cells);have k5:w5.cell? ⟨P,1,none⟩=some (.slice a4 q3.length cap4):=au kG 1;have z5:=bn kG 1)
     all_goals go_wp2
     all_goals go_ret
     all_goals exact oC he rfl (D5.put (((Below.refl _ qR).drew).alloc (ahx _) _) hown hrep hx hown5 dH nK nM)
theorem Vh:∀k:Nat,Reads k
 |0=>λ_ _ _ _ _ _ _ h=>absurd h (air _)
 |k+1=>abu k (Vh k)
end Go.Proofs.Tryz
namespace Go.Proofs.Tryz
open Go Go.Fw Go.IntWalk Sp
theorem wrap_in{z:Int}(h:-1000000000000<=z/\z<=1000000000000):IntKind.i64.wrap z=z:=dW z (by omega)
theorem GU[kT](IY:oO prog G nV qo):oO prog G y7 wo:=by
 refine GV (aP [(nV,.eff (J4 jK) qo),fK.e,lW.e,jl.e,qj.e] ⟨⟨IY,Gx⟩,jZ,LU,BA,RD,trivial⟩) (λ_ _=>⟨((_,_,()),()),⟨rfl,rfl⟩⟩) ?_;intro p at' q deep hin hp;obtain⟨⟨hpl,ha,hb,hd0,hd1,hws,hq⟩,hfuel⟩:=hp;have hp3:(1:Nat)<=2 ^ (10-deep).toNat:=ajw;refine⟨λy=>∃n:Nat,y=((zl (Sp.wordAt p at') n,(n:Int)+1,()),())/\n<=9,λy=>(10-y.1.2.1).toNat,⟨0,rfl,ahR _⟩,?_⟩;rintro _ ⟨n,rfl,hn⟩;dsimp only;refine ah (λh=>⟨ha,trivial,?_⟩) λh=>?_
 .have h:=kL h;have hw:IntKind.i64.wrap ((n:Int)+1+1)=((n+1:Nat):Int)+1:=(wrap_in (by omega)).trans (by omega);rw[hw];have e:zl (Sp.wordAt p at') (n+1)=bif Sp.wordAt p at'==dw ((n:Int)+1)then(n:Int)+1 else zl (Sp.wordAt p at') n:=rfl
  refine ah (λh2=>⟨rfl,⟨n+1,?_,by omega⟩,by dsimp only;omega⟩) λh2=>⟨rfl,⟨n+1,?_,by omega⟩,by dsimp only;omega⟩
  .rw[e,h2];rfl
  .rw[e,h2];rfl
 have hn9:n=9:=by have:=mO h;omega
 subst hn9;rw[RQ];have hop:=RS (Sp.wordAt p at');have hw0:Sp.wordAt p at'=Sp.wordAt (p.drop at'.toNat) 0:=by rw[Fz p at' 0 ha (ai3 _),ai9]
 have e1:IntKind.i64.wrap (at'+1)=at'+1:=wrap_in (by omega);have e2:IntKind.i64.wrap (at'+2)=at'+2:=wrap_in (by omega);have ed:IntKind.i64.wrap (deep+1)=deep+1:=wrap_in (by omega);have hw1:Sp.wordAt p (at'+1)=Sp.wordAt (p.drop at'.toNat) 1:=(Fz p at' 1 ha (by decide)).symm;have hw2:Sp.wordAt p (at'+2)=Sp.wordAt (p.drop at'.toNat) 2:=(Fz p at' 2 ha (by decide)).symm;have hlen2:(Sp.wordAt p (at'+2)).length<=1048576:=by
  by_cases hh:at'+2<(p.length:Int)
  .rw[qZ hh];exact ahB (hws _ (getD_mem (by omega))) (by decide)
  .rw[qY (by omega)];exact ahR _
 rw[e1,e2,ed];have hbig:∀k:Nat,k<=1000->k<=big:=λk hk=>GL (by omega);rw[hw1];rw[hw2]at hlen2 ⊢;rw[hw0]at hop ⊢;have agk:(p.drop at'.toNat).drop 1=p.drop (at'+1).toNat:=by rw[aiX,show at'.toNat+1=(at'+1).toNat by omega]
 refine⟨λy=>y=(((bg (Sp.wordAt (p.drop at'.toNat) 0)==0||(decide (deep>9)||decide ((q.length:Int)>9)),()),())),?_,?_⟩
 .cases bg (Sp.wordAt (p.drop at'.toNat) 0)==0 with
  |true=>exact⟨rfl,rfl⟩
  |false=>cases decide (deep>9)<;>exact⟨rfl,rfl⟩
 rintro _ rfl;dsimp only;by_cases afd:deep>9
 .have hd10:deep=10:=by omega
  subst hd10;rw[ahT (show(10:Int)>9 by decide),Bool.true_or,Bool.or_true];exact⟨rfl,rfl⟩
 rw[ah5 afd,ajF];have hs:(10-deep).toNat=(10-(deep+1)).toNat+1:=by omega
 have aef:2 ^ (10-deep).toNat=2*2 ^ (10-(deep+1)).toNat:=by rw[hs,Nat.pow_succ,aju]
 have hp4:(1:Nat)<=2 ^ (10-(deep+1)).toNat:=ajw;rw[aef]at hb;have hfu:(10-(deep+1)).toNat<fE:=by omega
 rw[hs,Sp.rs,agk];have hrb:=λw s=>ES (10-(deep+1)).toNat w s;have hdd:∀k:Int,0<=k->(p.drop at'.toNat).drop (1+k).toNat=p.drop (at'+(1+k)).toNat:=λk hk=>by rw[aiX,show at'.toNat+(1+k).toNat=(at'+(1+k)).toNat by omega]
 rw[hdd _ (hrb (p.drop (at'+1).toNat) q).2.1];have hfl:(10-(deep+1)).toNat<=10:=by omega
 have hpc:((3*2 ^ (10-(deep+1)).toNat:Nat):Int)=3*2 ^ (10-(deep+1)).toNat:=by push_cast;rfl
 generalize (10-(deep+1)).toNat=d at hrb hb hfu hp4 hfl hpc ⊢;generalize hv:Sp.wordAt (p.drop at'.toNat) 0=w0;rw[hv]at hop;generalize bg w0=op at hop ⊢;refine ah (λh0=>?_) λh0=>?_
 .rw[h0];exact⟨rfl,rfl⟩
 rw[h0];have uh:q.length<=9:=by have:=mO (aiu.1 h0).2;omega
 have ho0:op≠0:=aht.1 (aiu.1 h0).1;clear h0 aef;have hdp:0<=deep+1/\deep+1<=10:=by omega
 have aeg:p.length<=1000/\0<=at'+1/\(at'+1).toNat+3*2 ^ d<=1000000/\0<=deep+1/\deep+1<=10/\(∀x,x∈p->List.length x.1<=1000)/\q.length<=100:=⟨hpl,by omega,by omega,hdp.1,hdp.2,hws,by omega⟩;have ha1:0<=at'+1:=by omega
 have ha2:0<=at'+2:=by omega
 clear hin;rcases(show op=1\/op=2\/op=3\/op=4\/(op=5\/op=6\/op=7)\/op=8\/op=9 by omega)with rfl|rfl|rfl|rfl|h5|rfl|rfl
 .exact⟨λy=>y=((false,()),()),⟨rfl,rfl⟩,by rintro _ rfl;exact⟨λy=>y=((false,()),()),⟨rfl,rfl⟩,by rintro _ rfl;exact⟨trivial,hbig _ (by rw[ahu,ahL];omega),rfl,rfl⟩⟩⟩
 .exact⟨λy=>y=((true,()),()),⟨rfl,rfl⟩,by rintro _ rfl;exact⟨ha1,hbig _ (by rw[ahu,ahL];omega),rfl,rfl⟩⟩
 .exact⟨λy=>y=((false,()),()),⟨rfl,rfl⟩,by rintro _ rfl;exact⟨λy=>y=((true,()),()),⟨rfl,rfl⟩,by rintro _ rfl;exact⟨ha1,ha2,hlen2,hbig _ (by rw[ahu,ahL];omega),rfl,rfl⟩⟩⟩
 .exact⟨λy=>y=((false,()),()),⟨rfl,rfl⟩,by rintro _ rfl;exact⟨λy=>y=((true,()),()),⟨rfl,rfl⟩,by rintro _ rfl;exact⟨ha1,ha2,hlen2,hbig _ (by rw[ahu,ahL];omega),rfl,rfl⟩⟩⟩
 .have g2:(op==2)=false:=aht.2 (by omega);have g3:(op==3)=false:=aht.2 (by omega);have g4:(op==4)=false:=aht.2 (by omega);have g8:(op==8)=false:=aht.2 (by omega);have g9:(op==9)=false:=aht.2 (by omega);have g57:(decide (5<=op)&&decide (op<=7))=true:=by rw[ahT (by omega),ahT (by omega)];rfl
  have agl:(op==5||(op==6||op==7))=true:=by rcases h5 with rfl|rfl|rfl<;>rfl
  rw[g2,g3,g4,g8,g9,g57,agl];refine⟨λy=>y=((false,()),()),⟨rfl,rfl⟩,?_⟩;rintro _ rfl;refine⟨λy=>y=((false,()),()),⟨rfl,rfl⟩,?_⟩;rintro _ rfl;refine⟨trivial,⟨aeg,hfu⟩,?_⟩;rintro⟨⟨r,k,⟨⟩⟩,⟨⟩⟩ ⟨er,ek⟩;have er:r=(Sp.rs d (p.drop (at'+1).toNat) q).1:=er;have ek:k=(Sp.rs d (p.drop (at'+1).toNat) q).2:=ek;have hb1:=hrb (p.drop (at'+1).toNat) q;rw[← er,← ek]at hb1 ⊢;clear er ek;dsimp only;have hrl:r.length<=20:=by have:=hb1.1;omega
  have hk3:k<3*2 ^ d:=hb1.2.2;have hk1:IntKind.i64.wrap (1+k)=1+k:=wrap_in (by omega);have hk2:IntKind.i64.wrap (at'+(1+k))=at'+(1+k):=wrap_in (by omega);have agm:IntKind.i64.wrap ((r.length:Int)-1)=(r.length:Int)-1:=wrap_in (by omega);rw[hk1,hk2,agm];refine ah (λh=>?_) λh=>?_
  .rw[h];exact⟨rfl,rfl⟩
  rw[h];have hc2:p.length<=1000/\0<=at'+(1+k)/\(at'+(1+k)).toNat+3*2 ^ d<=1000000/\0<=deep+1/\deep+1<=10/\(∀x,x∈p->List.length x.1<=1000)/\r.length<=100:=⟨hpl,by omega,by omega,hdp.1,hdp.2,hws,by omega⟩;by_cases h55:op=5
  .subst h55;exact⟨hbig _ (by rw[ahu,ahL];omega),rfl,rfl⟩
  have gn:(op !=5)=true:=ajS.2 h55;have g5:(op==5)=false:=aht.2 h55;rw[gn,g5];refine⟨⟨hc2,hfu⟩,?_⟩;rintro⟨⟨s,m,⟨⟩⟩,⟨⟩⟩ ⟨es,em⟩;have es:s=(Sp.rs d (p.drop (at'+(1+k)).toNat) r).1:=es;have em:m=(Sp.rs d (p.drop (at'+(1+k)).toNat) r).2:=em;have hb2:=hrb (p.drop (at'+(1+k)).toNat) r;rw[← es,← em]at hb2 ⊢;clear es em;dsimp only;have hsl:s.length<=20:=by have:=hb2.1;omega
  have hm3:m<3*2 ^ d:=hb2.2.2;have hm1:IntKind.i64.wrap (1+k+m)=1+k+m:=wrap_in (by omega);have hsl1:IntKind.i64.wrap ((s.length:Int)-1)=(s.length:Int)-1:=wrap_in (by omega);rw[hm1,hsl1];refine ah (λh2=>?_) λh2=>?_
  .rw[h2];exact⟨rfl,rfl⟩
  rw[h2];exact⟨hbig _ (by rw[ahu,ahL];omega),rfl,rfl⟩
 .exact⟨λy=>y=((true,()),()),⟨rfl,rfl⟩,by rintro _ rfl;exact⟨ha1,hbig _ (by rw[ahu,ahL];omega),rfl,rfl⟩⟩
 .exact⟨λy=>y=((true,()),()),⟨rfl,rfl⟩,by rintro _ rfl;exact⟨ha1,hbig _ (by rw[ahu,ahL];omega),rfl,rfl⟩⟩
theorem RV:oO prog G zV Dc:=
 adg (λn=>@zA ⟨n⟩) (λn=>@mr ⟨n⟩) (by rintro⟨p,at',q,deep,⟨⟩⟩ h;exact air _ h.2) (by rintro _ ⟨p,at',q,deep,⟨⟩⟩;rfl) (by rintro⟨p,at',q,deep,⟨⟩⟩ h;exact⟨_,h,aiM _⟩) (by rintro _ ⟨p,at',q,deep,⟨⟩⟩;rfl) λn h=>@GU ⟨n⟩ h
end Go.Proofs.Tryz
namespace Go.Proofs.Tryz
open Go Go.Fw Go.IntWalk Sp
theorem YD(s:List UInt8)(h:iy s=true):gI s=((Sp.rs 10 (Sp.wordsOf s) []).2==((Sp.wordsOf s).length:Int)&&(!(Sp.textOf (Sp.rs 10 (Sp.wordsOf s) []).1==[])&&Sp.textOf (Sp.rs 10 (Sp.wordsOf s) []).1==jE (Sp.wordsOf s))):=by rw[← RX,Np,h,aij]
theorem ET{s:List UInt8}(h:gI s=false):(([]:List ax),false,())=(fM s,gI s,()):=by unfold fM;rw[h];rfl
theorem LY:OK pU.e:=by
 refine PA.ok mixed (aP [uO.e,jr.e,(zV,.eff (J4 tV) Dc),oL.e] ⟨Ry,tK,⟨RV,PK⟩,JL,trivial⟩) NV (by kernel_rfl) (show∀s,pU.goal (LZ s) (s,())from ?_);intro s hin hp;dsimp only[pU]at hp ⊢;have hp:s.length<=1048576:=hp;refine⟨hp,ah (λh=>?_) λh=>?_⟩
 .refine ET ?_;rw[← RX,Np,tH h];rfl
 have hok:=oh h;obtain⟨hw,hl,hj,_,_⟩:=OE hok;have hpp:=YD s hok;have hws:∀x∈Sp.wordsOf s,x.1.length<=1000:=λx hx=>ahB (P7 x hx) (ahB (pI.1 hok).1 (by decide));rw[hw];refine⟨⟨hl,by decide,by decide,by decide,by decide,hws,by decide⟩,?_⟩;rintro⟨⟨r,k,⟨⟩⟩,⟨⟩⟩ ⟨er,ek⟩;have er:r=(Sp.rs 10 (Sp.wordsOf s) []).1:=er;have ek:k=(Sp.rs 10 (Sp.wordsOf s) []).2:=ek;have hb:=(ES 10 (Sp.wordsOf s) []).1;have hsame:=λhq:gI s=true=>aaj hq;rw[← er]at hb hpp hsame;rw[← ek]at hpp;clear er ek;dsimp only;refine⟨ahB hb (by decide),ah (λh1=>ET ?_) λh1=>ah (λh2=>ET ?_) λh2=>⟨⟨hl,hj⟩,ah (λh3=>ET ?_) λh3=>?_⟩⟩
 .have h1:(k==((Sp.wordsOf s).length:Int))=false:=tH h1;rw[hpp,h1];rfl
 .rw[hpp,h2,Bool.not_true,aiG,ahY]
 .rw[hpp,tH h3,ahY,ahY]
 .have h1:(k==((Sp.wordsOf s).length:Int))=true:=oh h1;have hq:gI s=true:=by rw[hpp,h1,h2,oh h3];rfl
  obtain⟨q1,q2,_⟩:=hsame hq;rw[hq,q2,← q1]
theorem FB:OK lG.e:=by refine PA.ok mixed (aP [pU.e,jr.e] ⟨LY,tK,trivial⟩) H0 (by kernel_rfl) (show∀q,lG.goal (FC q) (q,())from ?_);intro q hin hp;dsimp only[lG]at hp ⊢;have hp:q.length<=2000000:=hp;exact⟨hp,ahB (Cm q) (by decide),rfl⟩
theorem L6:OK pR.e:=by
 refine PA.ok mixed (aP [] trivial) NY (by kernel_rfl) (show∀a0 a1 a2 a3 a4 b0 b1 b2 b3 b4,pR.goal (L8 a0 a1 a2 a3 a4 b0 b1 b2 b3 b4) ((a0,a1,a2,a3,a4,()),(b0,b1,b2,b3,b4,()),())from ?_);intro a0 a1 a2 a3 a4 b0 b1 b2 b3 b4 hin hp;dsimp only[pR]at hp ⊢;have hlen:a4.length<=maxLen:=hin.1.2.2.2.2.1.1;have no:∀{P:Prop},¬P->((false,()):Bool×Unit)=(false,()):=λ_=>rfl;refine⟨λ_=>a0=b0/\a1=b1/\a2=b2/\a3=b3/\a4.length=b4.length,?_,?_⟩
 .refine ah (λh=>?_) λh0=>ah (λh=>?_) λh1=>ah (λh=>?_) λh2=>ah (λh=>?_) λh3=>ah (λh=>?_) λh4=>⟨rfl,?_⟩
  .exact congrArg (·,()) (ah5 λe=>(ajS.1 h) (congrArg (·.1) e)).symm
  .exact congrArg (·,()) (ah5 λe=>(ajS.1 h) (congrArg (·.2.1) e)).symm
  .exact congrArg (·,()) (ah5 λe=>(aht.1 (tH h)) (congrArg (·.2.2.1) e)).symm
  .exact congrArg (·,()) (ah5 λe=>(ajS.1 h) (congrArg (·.2.2.2.1) e)).symm
  .exact congrArg (·,()) (ah5 λe=>(ajS.1 h) (by rw[show a4=b4 from congrArg (·.2.2.2.2.1) e])).symm
  .have g4:(a4.length:Int)=b4.length:=by simpa using h4
   exact⟨by simpa using h0,by simpa using h1,ahO.1 (oh h2),by simpa using h3,by omega⟩
 .rintro⟨⟨⟩,⟨⟩⟩ ⟨rfl,rfl,rfl,rfl,hl⟩;rw[maxLen_eq]at hlen;exact Ze (K:=λr=>r=(decide ((a0,a1,a2,a3,a4,())=(a0,a1,a2,a3,b4,())),()))
   (λx y=>!(x.1==y.1&&(x.2.1==y.2.1&&(x.2.2.1==y.2.2.1&&(x.2.2.2.1==y.2.2.2.1&&true))))) (λx y=>by simp[akb]) ([],0,0,[],()) a4 b4 _ hlen hl
   (λe=>by rw[ah5 λe2=>e (congrArg (·.2.2.2.2.1) e2)]) λe=>by rw[ahT (by rw[e])]
theorem IZ:OK nP.e:=by
 refine PA.ok mixed (aP [] trivial) JW (by kernel_rfl) (show∀a b,nP.goal (I4 a b) (a,b,())from ?_);intro a b hin hp;dsimp only[nP]at hp ⊢;exact eqL (K:=λr=>r=(decide (a=b),())) (λx y=>!(x.1==y.1&&(x.2.1==y.2.1&&(x.2.2.1==y.2.2.1&&(x.2.2.2.1==y.2.2.2.1&&(x.2.2.2.2.1==y.2.2.2.2.1&&(x.2.2.2.2.2.1==y.2.2.2.2.2.1&&(x.2.2.2.2.2.2.1==y.2.2.2.2.2.2.1&&true))))))))
  (λx y=>by simp[akb]) (0,0,0,[],0,0,[],()) a b _ hin.1.1 rfl
theorem RY:OK uQ.e:=by refine PA.ok mixed (aP [pR.e] ⟨L6,trivial⟩) H0 (by kernel_rfl) (show∀f0 f1 f2 f3 f4,uQ.goal (RZ f0 f1 f2 f3 f4) ((f0,f1,f2,f3,f4,()),())from ?_);intro f0 f1 f2 f3 f4 hin hp;dsimp only[uQ]at hp ⊢;exact⟨trivial,rfl⟩
theorem NZ:OK rD.e:=by
 refine PA.ok mixed (aP [fK.e,fZ.e,iV.e] ⟨jZ,mP,vK,trivial⟩) P8 (by kernel_rfl) (show∀f0 f1 f2 f3 f4,rD.goal (N7 f0 f1 f2 f3 f4) ((f0,f1,f2,f3,f4,()),())from ?_);intro f0 f1 f2 f3 f4 hin hp;dsimp only[rD]at hp ⊢;have hp:f4.length<=1048576:=hp;have hbad:∀n,n<f4.length->l7 (f4.getD n ([],0,0,[],()))=false->((false,()):Bool×Unit)=(kF (f0,f1,f2,f3,f4,()),()):=λn hn h=>by have:f4.all l7=false:=aj2.2 ⟨_,getD_mem hn,by rw[h];decide⟩;unfold kF;rw[show(f0,f1,f2,f3,f4,()).2.2.2.2.1=f4 from rfl,this];rfl
 refine CQ f4.length (by omega) (λn=>∀i,i<n->l7 (f4.getD i ([],0,0,[],()))=true) (λi hi=>absurd hi (air _)) (λI μ n hn hJ next=>?_) λI μ hJ=>?_
 .dsimp only;rw[aia];have e:l7 (f4.getD n ([],0,0,[],()))=(dN (f4.getD n ([],0,0,[],())).1&&(aS (f4.getD n ([],0,0,[],())).2.1 (f4.getD n ([],0,0,[],())).2.2.1 (f4.getD n ([],0,0,[],())).2.2.2.1&&!((f4.getD n ([],0,0,[],())).2.1==0))):=rfl;have hb:=hbad n hn;refine vC (by omega) ⟨⟨by omega,by omega⟩,trivial,ah (λh=>hb ?_) λh=>⟨⟨by omega,by omega⟩,trivial,ah (λh2=>hb ?_) λh2=>⟨⟨by omega,by omega⟩,ah (λh3=>hb ?_) λh3=>⟨rfl,next ?_⟩⟩⟩⟩
  .rw[e,tH h];rfl
  .rw[e,tH h2,aiG,ahY]
  .rw[e,h3,Bool.not_true,ahY,ahY]
  .intro i hi;rcases ahQ i n with h5|h5
   .exact hJ i h5
   .rw[show i=n by omega,e,oh h,oh h2,h3];rfl
 .dsimp only;have hall:f4.all l7=true:=ahH.2 λx hx=>by obtain⟨i,hi,rfl⟩:=aiF.1 hx;have:=hJ i hi;rw[ahv,ahw hi]at this;exact this
  have e:kF (f0,f1,f2,f3,f4,())=(aW f0&&(aW f1&&aW f3)):=by unfold kF;rw[show(f0,f1,f2,f3,f4,()).2.2.2.2.1=f4 from rfl,hall,aij]
  rw[e];refine vF (by omega) ⟨trivial,?_⟩;have u:∀n:Int,(decide (0<=n)&&decide (n<=1000000000))=aW n:=λ_=>rfl;rw[u f0,u f1,u f3];cases aW f0 with
  |false=>exact rfl
  |true=>
   refine⟨trivial,?_⟩;cases aW f1 with
   |false=>exact rfl
   |true=>exact⟨trivial,rfl⟩
theorem aei(a b:List (List UInt8)):Sp.ls (a++b)=Sp.ls a++Sp.ls b:=aiJ
theorem L9:OK pV.e:=by
 refine PA.ok mixed (aP [(mX,.pure kH),jq.e,kJ.e] ⟨⟨yX,xJ⟩,zI,vT,trivial⟩) N8 (by kernel_rfl) (show∀f0 f1 f2 f3 f4,pV.goal (Mc f0 f1 f2 f3 f4) ((f0,f1,f2,f3,f4,()),())from ?_);intro f0 f1 f2 f3 f4 hin hp;dsimp only[pV]at hp ⊢;obtain⟨hl,ht⟩:f4.length<=1048576/\(bK f4).length<=1073741824:=hp;have hlong:=(D6 (f:=(f0,f1,f2,f3,f4,())) hin.1.1 hin.1.2.1 hin.1.2.2.2.1).1;refine dK (((bif f2 then[115]else[111],()),())) ?_ ⟨trivial,trivial,trivial,?_⟩
 .cases f2<;>exact⟨rfl,rfl⟩
 refine xM (mk:=λi(s:Sp.LS)=>(((),i,()),s,())) (λy=>y.1.2.1) (λ_ _=>rfl) f4.length (by omega)
  (λn s=>s=Sp.ls (zo::Lib.itoa f0::Lib.itoa f1::(bif f2 then[115]else[111])::Lib.itoa f3::gB (f4.take n))) rfl (λI μ n s hn hJ next=>?_) λI μ s hJ=>?_
 .subst hJ;dsimp only;rw[aia];refine vC (by omega) ⟨⟨by omega,by omega⟩,trivial,GL ?_,rfl,next _ ?_⟩
  .have:=zY (f4.take n);rw[ahJ]at this;simp only[Sp.ls,ah3,ahu,ahL];omega
  .rw[Si hn];rw[show∀a b c d e,zo::a::b::c::d::(gB (f4.take n)++e)=(zo::a::b::c::d::gB (f4.take n))++e fromλ_ _ _ _ _=>rfl,aei];rfl
 .subst hJ;dsimp only;rw[aiv (ahx _)];have e:List.map (λ(x:List UInt8×Unit)=>x.1) (Sp.ls (zo::Lib.itoa f0::Lib.itoa f1::(bif f2 then[115]else[111])::Lib.itoa f3::gB f4))=zo::Lib.itoa f0::dX (f0,f1,f2,f3,f4,()):=abv _;rw[e];refine vF (by omega) ⟨⟨?_,ahB hlong (by have ht:(bK (f0,f1,f2,f3,f4,()).2.2.2.2.1).length<=1073741824:=ht;omega)⟩,rfl⟩;have:=zY f4;simp only[Sp.ls,ah3,ahu];omega
theorem Sj:OK uP.e:=by
 refine PA.ok mixed (aP [gK.e,jk.e] ⟨tJ,qh,trivial⟩) Ux (by kernel_rfl) (show∀f0 f1 f2 f3 f4,uP.goal (Sl f0 f1 f2 f3 f4) ((f0,f1,f2,f3,f4,()),())from ?_);intro f0 f1 f2 f3 f4 hin hp;dsimp only[uP]at hp ⊢;obtain⟨hl,ht⟩:f4.length<=1048576/\(bK f4).length<=1073741824:=hp;have q1:=kS (n:=f1) hin.1.2.1;have q3:=kS (n:=f3) hin.1.2.2.2.1;have h3:∀a b c:UInt8,([a,b,c]:List UInt8).length=3:=λ_ _ _=>rfl;have h1:([32]:List UInt8).length=1:=rfl;refine⟨trivial,bP (by rw[h3];omega),dK ((Lib.itoa f1++32::((bif f2 then[115]else[111])++[32]),()),()) ?_ ?_⟩
 .cases f2 with
  |true=>exact⟨trivial,bP (by rw[h3];omega),rfl,rfl⟩
  |false=>exact⟨rfl,rfl⟩
 have e0:(bif f2 then[115]else[111]:List UInt8).length=1:=by cases f2<;>rfl
 refine⟨trivial,bP (by simp only[ahr,ahu,e0,ahL];omega),?_⟩;refine xM (mk:=λi s=>((s,i,()),())) (λy=>y.1.2.1) (λ_ _=>rfl) f4.length (by omega)
  (λn s=>s=Lib.itoa f1++32::((bif f2 then[115]else[111])++[32])++Lib.itoa f3++bK (f4.take n)) (by rw[ai4];exact(ah0 _).symm) (λI μ n s hn hJ next=>?_) λI μ s hJ=>?_
 .have e:=abw hn;have hle:=@Uy f4 (n+1);have hs:s.length<=50+(bK (f4.take n)).length:=by rw[hJ];simp only[ahr,ahu,e0,ahL];omega
  have hll:=congrArg List.length e;simp only[ahr,ahu]at hll;dsimp only;rw[aia];refine vC (by omega) ⟨bP (by rw[h1];omega),⟨by omega,by omega⟩,bP (by rw[ahr,h1];omega),bP (by simp only[ahr,h1];omega),⟨by omega,by omega⟩,trivial,bP (by simp only[ahr,h1];omega),rfl,next _ ?_⟩;rw[e,hJ];simp only[ahC,aix,aif,ajG]
 .subst hJ;dsimp only;refine vF (by omega) ?_;rw[aiv (ahx _),Vj];simp only[ahC,aix,aif]
end Go.Proofs.Tryz
namespace Go.Proofs.Tryz
open Go Go.Fw Go.RowKit Sp
theorem adr(s:List UInt8)(hs:s.length<=1048576)(w:World)(hG:G.ok w):Calls prog 66 #[.string ⟨s.toArray⟩] w λe w'=>
 ∃v,e=.returned (.tuple #[v,.bool (iy s)])/\FW w'.heap.size w' v (kE s)/\Below w.heap.size w w':=by
 have hc:gy prog G 66 (iY jo.sh jo.bf jo.F):=JO.1;refine(hc [.sv (.one (.str s))] (s.length<=1048576) _ 0 (λ_=>True) #[.string ⟨s.toArray⟩] w rfl hs hG ⟨⟨rfl,by rw[maxLen_eq];omega⟩,trivial⟩).mono ?_;rintro e w' ⟨v,vals,rfl,h1,h2,h3,h4,h5,h6,_,_⟩;obtain⟨vs,rfl,h7⟩:=h6;obtain⟨l⟩:=vs
 match l,h7 with
 |[a,b],h7=>
  obtain⟨ha,hb,_⟩:=h7;have hb:b=.bool (iy s):=hb;have ha:dL w'.heap _ (.sl fF lV) a (kE s):=ha;refine⟨a,by rw[hb],⟨ha.1,?_⟩,h1,h2,h3,h4,h5⟩;rcases ha.2 with h|⟨b,off,cap,cs,t,fz,e1,e2,e3,e4,e5⟩
  .exact .inl h
  .exact .inr ⟨b,off,cap,cs,t,fz,e1,e2,e3.1.1,e4,λi x hx=>aI.flat (S:=_) _ _ _ rfl (e5 i x hx)⟩
theorem Vk{B P:Nat}{w:World}{v:Value}{q:List ax}(h:NW B P w v q)(hl:q.length<=1000)(S:Nat->Prop)(hS:∀b,B<=b->b<w.heap.size->S b):dL w.heap S (.sl 125 bC) v q:=by
 obtain⟨xs,h1,_,h3⟩:=h;refine⟨by rw[maxLen_eq];omega,?_⟩;rcases h1.2 with⟨e,e2⟩|⟨g,cap,cur,e,e2,e3,e4,e5,e6,e7⟩
 .exact .inl ⟨aic.1 e2,none,0,by rw[e]⟩
 .refine .inr ⟨g,0,cap,cur,125,(0,0),e,e4,hS g e2 (ahz.1 e3).1,e3,λi x hx=>?_⟩;have hi:=(ahy.1 hx).1;have:=h3 i x hx;rw[← e7,akg,ajT,ajr (by omega)]at this;rw[ahN];exact aI.flat (S:=λ_=>False) _ _ _ rfl this
theorem Zf{B P:Nat}(v:Value)(q:List ax)(hq:q.length<=1000)(w:World)(hn:NW B P w v q)(hG:G.ok w):Calls prog 51 #[v] w λe w'=>e=.returned (.bool (aA q))/\Below w.heap.size w w':=by have hc:gy prog G 51 (iY eG.sh eG.bf eG.F):=rQ.1;refine(hc [.sv (.one (.sl 125 bC q false))] (q.length<=2000000) _ 0 (λ_=>True) #[v] w rfl (by omega) hG ⟨Vk hn hq _ λb _ hb=>⟨⟨hb,λ_=>trivial,λo x hx=>by cases hx⟩,λh=>by cases h⟩,trivial⟩).mono ?_;rintro e w' ⟨v,vals,rfl,h1,h2,h3,h4,h5,h6,_,_⟩;have h6:v=.bool (aA q):=h6;exact⟨by rw[h6],h1,h2,h3,h4,h5⟩
theorem FW.form{B:Nat}{w:World}{v:Value}{f:Sp.LS}(h:FW B w v f):∃a cap,v=.slice a f.length cap:=by
 rcases h.2 with⟨rfl,a,c,e⟩|⟨b,off,cap,cs,t,fz,e,_⟩
 .exact⟨a,c,e⟩
 .exact⟨_,_,e⟩
theorem CB{w w1:World}{o:Obj}{f:Sp.LS}{q:List ax}{w2:World}(hb1:Below w.heap.size w w1)(hd:Done w1.heap.size w1.heap.size (w1.alloc o) none f q w2):Below w.heap.size w w2:=by
 obtain⟨_,_,_,_,_,h,_⟩:=hd;have hs:(w1.alloc o).heap.size=w1.heap.size+1:=by simp
 exact⟨h.os.trans hb1.os,h.tape.trans hb1.tape,h.output.trans hb1.output,by have:=h.size;have:=hb1.size;omega,λb hb=>(h.block b (by have:=hb1.size;omega) (by have:=hb1.size;omega) (λe=>by cases e)).trans ((heap_alloc_old w1 o (by have:=hb1.size;omega)).trans (hb1.block b hb))⟩
theorem Nq(h:Array Obj)(S:Nat->Prop):dL h S (.sl 125 bC) (.slice none 0 0) ([]:List ax):=⟨ahR _,.inl ⟨rfl,none,0,rfl⟩⟩
set_option maxHeartbeats 16000000 in
set_option maxRecDepth 100000 in
theorem aak(s:List UInt8)(hs:s.length<=1048576)(w:World)(hG:G.ok w):Calls prog 70 #[.string ⟨s.toArray⟩] w λe w'=>
 ∃v,e=.returned (.tuple #[v,.bool (gI s)])/\Below w.heap.size w w'/\dL w'.heap (λb=>w.heap.size<=b/\b<w'.heap.size) (.sl 125 bC) v (fM s):=by
 have mixed:=Tryz.mixed;have sf:=adr s hs w hG;cases hok:iy s with
 |false=>
  have e1:gI s=false:=by unfold gI;rw[hok];rfl
  have e2:fM s=[]:=by unfold fM;rw[e1];rfl
  rw[hok]at sf;rw[e1,e2];clear e1 e2 hok
  go_enter Tryz.func70,Tryz.ntmps70
  go_wp2_with (first
   |(go_at_call 66;refine sf.mono ?_;rintro e w1 ⟨v,rfl,-,hb1⟩))
  all_goals go_ret2
  all_goals exact⟨_,rfl,hb1,Nq _ _⟩
 |true=>
  have hpq:Hid (gI s=((o9 (Sp.wordsOf s)).1&&(!decide (((o9 (Sp.wordsOf s)).2.1.length:Int)>0)&&aA (o9 (Sp.wordsOf s)).2.2))):=by show _=_;unfold gI;rw[hok,aij]
  have hpl:Hid (fM s=bif gI s then(o9 (Sp.wordsOf s)).2.2 else[]):=rfl;obtain⟨hw,hl,_⟩:=OE hok;have hws:∀x∈Sp.wordsOf s,x.1.length<=1000:=λx hx=>ahB (P7 x hx) (ahB (pI.1 hok).1 (by decide));have agn:(Sp.wordsOf s).length<=24:=by rw[qP];have:=(pI.1 hok).2.2;omega
  rw[hok,hw]at sf;clear hok hw;generalize gI s=pq at hpq hpl ⊢;generalize fM s=pl at hpl ⊢;generalize Sp.wordsOf s=f at sf hpq hpl hl hws agn;have hcnt:=pJ (f.length+1) f [];unfold o9 at hpq hpl;generalize hz:Sp.rd (f.length+1) f []=z at hpq hpl hcnt;obtain⟨b1,f2,q2⟩:=z;dsimp only at hpq hpl hcnt;have hz:Hid (Sp.rd (f.length+1) f []=(b1,f2,q2)):=hz;have n8:=G.low w hG;have nd:∀(W:World)(vf:Value)(P:Nat),w.heap.size<=P->G.ok W->W.heap[P]? =some (.cells #[vf,.slice none 0 0] 150 (0,0))->FW P W vf f->Calls prog 133 #[.pointer (some ⟨P,0,none⟩)] W λe w'=>e=.returned (.bool b1)/\Done P P W none f2 q2 w':=λW vf P hP hG2 hc hf=>by have:=Vh (f.length+1) P P W vf (.slice none 0 0) f [] (aiM _) (ahB n8 hP) (ahx _) hG2 hc hf ⟨[],aj0 W P 125 7,(λe=>by cases e),λi x hx=>by simp at hx⟩ hws (by rw[ahL];omega);rw[hz.out]at this;exact this
  go_enter Tryz.func70,Tryz.ntmps70
  cases b1 with
  |false=>
   go_wp2_with (first
    |(go_at_call 66;refine sf.mono ?_;rintro e w1 ⟨v,rfl,hf1,hb1⟩;obtain⟨a1,c1,hv1⟩:=hf1.form;subst hv1;clear sf)
    |(go_at_call 133;refine(nd _ (.slice a1 f.length c1) w1.heap.size hb1.size (kK (kK hG hb1) ((Below.refl _ _).alloc (ahx _) _)) (aii w1 _) (hf1.keep λb hb=>heap_alloc_old w1 _ hb)).mono ?_;rintro e w2 ⟨rfl,hd⟩))
   all_goals go_ret2
   all_goals exact⟨_,by rw[show pq=false from hpq.out];rfl,CB hb1 hd,by rw[show pl=[] by rw[hpl.out,hpq.out];rfl];exact Nq _ _⟩
  |true=>
   rcases Nat.eq_zero_or_pos f2.length with h0|h0
   .obtain rfl:f2=[]:=aic.1 h0;clear h0;cases hq:aA q2 with
    |false=>
     go_wp2_with (first
      |(go_at_call 66;refine sf.mono ?_;rintro e w1 ⟨v,rfl,hf1,hb1⟩;obtain⟨a1,c1,hv1⟩:=hf1.form;subst hv1;clear sf)
      |(go_at_call 133;refine(nd _ (.slice a1 f.length c1) w1.heap.size hb1.size (kK (kK hG hb1) ((Below.refl _ _).alloc (ahx _) _)) (aii w1 _) (hf1.keep λb hb=>heap_alloc_old w1 _ hb)).mono ?_;rintro e w2 ⟨rfl,hd⟩;obtain⟨ER,XR,hc2,hf2,hn2,hst2⟩:=id hd;obtain⟨a2,c2,hv2⟩:=hf2.form;obtain⟨a3,c3,hv3⟩:=hn2.form;subst hv2 hv3;have p0:w2.cell? ⟨w1.heap.size,0,none⟩=some (.slice a2 0 c2):=au hc2 0;have p1:w2.cell? ⟨w1.heap.size,1,none⟩=some (.slice a3 q2.length c3):=au hc2 1;have hdb:=CB hb1 hd)
      |(go_at_call 51;refine(Zf (.slice a3 q2.length c3) q2 (by omega) w2 hn2 (kK hG hdb)).mono ?_;rintro e w3 ⟨rfl,hb3⟩;rw[hq]))
     all_goals go_ret2
     all_goals exact⟨_,by rw[show pq=false by rw[hpq.out,hq];rfl];rfl,hdb.trans (hb3.mono hdb.size),by rw[show pl=[] by rw[hpl.out,hpq.out,hq];rfl];exact Nq _ _⟩
    |true=>
     go_wp2_with (first
      |(go_at_call 66;refine sf.mono ?_;rintro e w1 ⟨v,rfl,hf1,hb1⟩;obtain⟨a1,c1,hv1⟩:=hf1.form;subst hv1;clear sf)
      |(go_at_call 133;refine(nd _ (.slice a1 f.length c1) w1.heap.size hb1.size (kK (kK hG hb1) ((Below.refl _ _).alloc (ahx _) _)) (aii w1 _) (hf1.keep λb hb=>heap_alloc_old w1 _ hb)).mono ?_;rintro e w2 ⟨rfl,hd⟩;obtain⟨ER,XR,hc2,hf2,hn2,hst2⟩:=id hd;obtain⟨a2,c2,hv2⟩:=hf2.form;obtain⟨a3,c3,hv3⟩:=hn2.form;subst hv2 hv3;have p0:w2.cell? ⟨w1.heap.size,0,none⟩=some (.slice a2 0 c2):=au hc2 0;have p1:w2.cell? ⟨w1.heap.size,1,none⟩=some (.slice a3 q2.length c3):=au hc2 1;have hdb:=CB hb1 hd)
      |(go_at_call 51;refine(Zf (.slice a3 q2.length c3) q2 (by omega) w2 hn2 (kK hG hdb)).mono ?_;rintro e w3 ⟨rfl,hb3⟩;rw[hq];have p3:w3.cell? ⟨w1.heap.size,1,none⟩=some (.slice a3 q2.length c3):=au ((hb3.block _ (ahz.1 hc2).1).trans hc2) 1))
     all_goals go_ret2
     all_goals refine⟨_,by rw[show pq=true by rw[hpq.out,hq];rfl];rfl,hdb.trans (hb3.mono hdb.size),?_⟩
     all_goals rw[show pl=q2 by rw[hpl.out,hpq.out,hq];rfl]
     all_goals exact Vk (hn2.keep λg hg=>hb3.block g (hn2.lt hg).2.1) (by omega) _ λb h1 h2=>⟨ahB hb1.size h1,h2⟩
   .have hpos:(0:Int)<(f2.length:Int):=by omega
    go_wp2_with (first
     |(go_at_call 66;refine sf.mono ?_;rintro e w1 ⟨v,rfl,hf1,hb1⟩;obtain⟨a1,c1,hv1⟩:=hf1.form;subst hv1;clear sf)
     |(go_at_call 133;refine(nd _ (.slice a1 f.length c1) w1.heap.size hb1.size (kK (kK hG hb1) ((Below.refl _ _).alloc (ahx _) _)) (aii w1 _) (hf1.keep λb hb=>heap_alloc_old w1 _ hb)).mono ?_;rintro e w2 ⟨rfl,hd⟩;obtain⟨ER,XR,hc2,hf2,hn2,hst2⟩:=id hd;obtain⟨a2,c2,hv2⟩:=hf2.form;subst hv2;have p0:w2.cell? ⟨w1.heap.size,0,none⟩=some (.slice a2 f2.length c2):=au hc2 0;have hdb:=CB hb1 hd))
    all_goals go_ret2
    all_goals have hpf:pq=false:=by rw[hpq.out,ahT (show(f2.length:Int)>0 from hpos)];rfl
    all_goals exact⟨_,by rw[hpf];rfl,hdb,by rw[show pl=[] by rw[hpl.out,hpf];rfl];exact Nq _ _⟩
theorem ab4{h:Array Obj}{S S':Nat->Prop}(hS:∀b,S b->S' b){v:Value}{q:List ax}(H:dL h S (.sl 125 bC) v q):dL h S' (.sl 125 bC) v q:=by
 refine⟨H.1,?_⟩;rcases H.2 with e|⟨b,off,cap,cs,t,fz,e1,e2,e3,e4,e5⟩
 .exact .inl e
 .exact .inr ⟨b,off,cap,cs,t,fz,e1,e2,hS b e3,e4,λi x hx=>aI.flat (S:=S) _ _ _ rfl (e5 i x hx)⟩
theorem Md:gy prog G vS tu:=by
 intro args p out k S vs w hcon hp hG hrep;unfold tu iY rJ at hcon;split at hcon
 .next x hx=>
  obtain⟨s,⟨⟩⟩:=x;have hv:=AA uw args _ vs.toList hx hrep
  match hvs:vs.toList,hv with
  |[v],hv=>
   have e1:v=.string ⟨s.toArray⟩:=hv.1.1;have e2:vs=#[.string ⟨s.toArray⟩]:=by obtain⟨l⟩:=vs;simp at hvs;rw[hvs,e1]
   subst e2;have hF:=Option.some.inj hcon;have hp1:p=(s.length<=1048576):=(congrArg Prod.fst hF).symm;have hout:out=⟨[(false,[.plain (.sl 125 bC (fM s) true)]),(false,[.plain (.bool (gI s))])],none⟩:=(congrArg Prod.snd hF).symm;subst hp1 hout;refine(aak s hp w hG).mono ?_;rintro e w' ⟨u,rfl,hb,hr⟩;refine⟨_,λ_=>undef,rfl,hb.os,hb.tape,hb.output,hb.size,hb.block,?_,(λo x hx=>by cases hx),(λo x q y b hx=>by cases hx)⟩;exact⟨_,rfl,ab4 (λb hb=>⟨⟨hb.2,λh=>absurd h (Nat.not_lt.2 hb.1),λo x hx=>by cases hx⟩,λ_=>hb.1⟩) hr,rfl,trivial⟩
 .cases hcon
end Go.Proofs.Tryz
namespace Go.Proofs.Tryz
open Go Go.Fw Go.IntWalk Sp
theorem FD:OK lF.e:=by refine PA.ok mixed (aP [(vS,.pure tu),kU.e] ⟨⟨Md,JC⟩,zJ,trivial⟩) H0 (by kernel_rfl) (show∀q,lF.goal (FH q) (q,())from ?_);intro q hin hp;dsimp only[lF]at hp ⊢;have hp:q.length<=2000000:=hp;exact⟨hp,ahB (Cm q) (by decide),rfl⟩
theorem iz{α:Type}(l:List α):((l.length:Int)==0)=l.isEmpty:=by
 cases l with
 |nil=>rfl
 |cons x r=>exact aht.2 (by rw[ahu];omega)
theorem vG{x:jC}(h:iJ x=[]):(([]:List UInt8),())=(dF x,()):=by unfold dF;rw[h];rfl
theorem GX{x:jC}{w:List (List UInt8)}(h:iJ x=w){t:List UInt8}(e:t=Lib.join w [32]):(t,())=(dF x,()):=by unfold dF;rw[h,e]
theorem Vl{q:List ax}(h:aA q=true):Sp.textOf q=Lib.join (aT 9 q ((q.length:Int)-1)) [32]:=by unfold Sp.textOf;rw[h];rfl
theorem Sm{f:bD}{id:Int}{n:List UInt8}{q:List ax}:iJ (nN 1 f id n q)=bif kF f&&(f.1==0&&(id==0&&(n==[]&&q.isEmpty)))then zZ::dX f else[]:=by unfold iJ;show(bif true&&_ then _ else bif false&&_ then _ else bif false&&_ then _ else bif false&&_ then _ else bif false&&_ then _ else _)=_;rw[aij];rfl
theorem XT{f:bD}{id:Int}{n:List UInt8}{q:List ax}:iJ (nN 2 f id n q)=bif kF f&&(id==0&&(n==[]&&q.isEmpty))then xQ::Lib.itoa f.1::dX f else[]:=by unfold iJ;show(bif false&&_ then _ else bif true&&_ then _ else bif false&&_ then _ else bif false&&_ then _ else bif false&&_ then _ else _)=_;rw[aij];rfl
theorem XU{f:bD}{id:Int}{n:List UInt8}{q:List ax}:iJ (nN 3 f id n q)=bif decide (f=wu)&&(aW id&&(n==[]&&q.isEmpty))then[D7,Lib.itoa id]else[]:=by unfold iJ;show(bif false&&_ then _ else bif false&&_ then _ else bif true&&_ then _ else bif false&&_ then _ else bif false&&_ then _ else _)=_;rw[aij];rfl
theorem GY{f:bD}{id:Int}{n:List UInt8}{q:List ax}:iJ (nN 4 f id n q)=bif decide (f=wu)&&(id==0&&(aK n&&uK q))then uM::n::aT 9 q ((q.length:Int)-1)else[]:=by unfold iJ;show(bif false&&_ then _ else bif false&&_ then _ else bif false&&_ then _ else bif true&&_ then _ else bif false&&_ then _ else _)=_;rw[aij];rfl
theorem Sr{f:bD}{id:Int}{n:List UInt8}{q:List ax}:iJ (nN 5 f id n q)=bif decide (f=wu)&&(id==0&&(aK n&&q.isEmpty))then[zq,n]else[]:=by unfold iJ;show(bif false&&_ then _ else bif false&&_ then _ else bif false&&_ then _ else bif false&&_ then _ else bif true&&_ then _ else _)=_;rw[aij];rfl
theorem abx{k:Int}{f:bD}{id:Int}{n:List UInt8}{q:List ax}(h1:k≠1)(h2:k≠2)(h3:k≠3)(h4:k≠4)(h5:k≠5):iJ (nN k f id n q)=[]:=by unfold iJ;rw[show(nN k f id n q).1=k from rfl,aht.2 h1,aht.2 h2,aht.2 h3,aht.2 h4,aht.2 h5];rfl
theorem I5:OK nT.e:=by
 refine PA.ok mixed (aP [jr.e,nP.e,lG.e,kD.e,iq.e,fK.e,jk.e,uP.e,rD.e,uQ.e] ⟨tK,IZ,FB,y8,qK,jZ,qh,Sj,NZ,RY,trivial⟩) JX (by kernel_rfl) (show∀o0 o1 o2 o3 o4 o5 o6 o7 o8,nT.goal (I7 o0 o1 o2 o3 o4 o5 o6 o7 o8) ((o0,o1,o2,o3,o4,o5,o6,o7,o8,()),())from ?_);intro k f0 f1 f2 f3 f4 id n q hin hp;dsimp only[nT]at hp ⊢;obtain⟨hl,ht,hn,hq⟩:f4.length<=1048576/\(bK f4).length<=1073741824/\n.length<=1048576/\q.length<=2000000:=hp;have hbl:=(D6 (f:=(f0,f1,f2,f3,f4,())) hin.1.2.1 hin.1.2.2.1 hin.1.2.2.2.2.1).2;have hbl:(Lib.join (dX (f0,f1,f2,f3,f4,())) [32]).length<=47+1073741824:=ahB hbl (ajb ht 47);have q1:=kS (n:=f0) hin.1.2.1;have q6:=kS (n:=id) hin.1.2.2.2.2.2.2.1;have hts:=Cm q;have hx:(k,f0,f1,f2,f3,f4,id,n,q,())=nN k (f0,f1,f2,f3,f4,()) id n q:=rfl;rw[hx];clear hx hin;have hwb:dX (f0,f1,f2,f3,f4,())≠[]:=by unfold dX;exact ajp _ _
 have j1:∀(a:List UInt8),Lib.join (a::dX (f0,f1,f2,f3,f4,())) [32]=a++32::Lib.join (dX (f0,f1,f2,f3,f4,())) [32]:=λa=>by unfold dX;rw[bZ]
 have u:∀z:Int,(decide (0<=z)&&decide (z<=1000000000))=aW z:=λ_=>rfl;refine⟨trivial,λy=>y=((n==[]&&q.isEmpty,()),()),?_,?_⟩
 .cases n==[]with
  |true=>exact⟨rfl,by rw[iz];rfl⟩
  |false=>exact⟨rfl,rfl⟩
 rintro _ rfl;refine⟨λy=>y=((k==1&&(kF (f0,f1,f2,f3,f4,())&&(f0==0&&(id==0&&(n==[]&&q.isEmpty)))),()),()),?_,?_⟩
 .cases k==1 with
  |false=>exact⟨rfl,rfl⟩
  |true=>
   refine⟨hl,?_⟩;cases kF (f0,f1,f2,f3,f4,())with
   |false=>exact⟨rfl,rfl⟩
   |true=>
    cases f0==0 with
    |false=>exact⟨rfl,rfl⟩
    |true=>cases id==0<;>exact⟨rfl,rfl⟩
 rintro _ rfl;refine ah (λh=>?_) λh1=>?_
 .rw[ahq,ahO]at h;obtain⟨rfl,h⟩:=h;refine⟨⟨hl,ht⟩,bP (by show 7+_<=_;omega),GX (w:=zZ::dX (f0,f1,f2,f3,f4,())) (by rw[Sm,h];rfl) ?_⟩;rw[j1];rfl
 refine⟨λy=>y=((k==2&&(kF (f0,f1,f2,f3,f4,())&&(id==0&&(n==[]&&q.isEmpty))),()),()),?_,?_⟩
 .cases k==2 with
  |false=>exact⟨rfl,rfl⟩
  |true=>
   refine⟨hl,?_⟩;cases kF (f0,f1,f2,f3,f4,())with
   |false=>exact⟨rfl,rfl⟩
   |true=>cases id==0<;>exact⟨rfl,rfl⟩
 rintro _ rfl;refine ah (λh=>?_) λh2=>?_
 .rw[ahq,ahO]at h;obtain⟨rfl,h⟩:=h;refine⟨trivial,bP (by show 7+_<=_;omega),bP (by rw[ahr];show 7+_+1<=_;omega),⟨hl,ht⟩,bP (by rw[ahr,ahr];show 7+_+1+_<=_;omega),GX (w:=xQ::Lib.itoa f0::dX (f0,f1,f2,f3,f4,())) (by rw[XT,h];rfl) ?_⟩;rw[bZ,show∀a,Lib.join (a::dX (f0,f1,f2,f3,f4,())) [32]=a++32::Lib.join (dX (f0,f1,f2,f3,f4,())) [32]from j1];simp[xQ]
 refine⟨λy=>y=((k==3&&(decide ((f0,f1,f2,f3,f4,())=wu)&&(aW id&&(n==[]&&q.isEmpty))),()),()),?_,?_⟩
 .cases k==3 with
  |false=>exact⟨rfl,rfl⟩
  |true=>
   cases decide ((f0,f1,f2,f3,f4,())=wu)with
   |false=>exact⟨rfl,rfl⟩
   |true=>
    cases n==[]&&q.isEmpty with
    |false=>exact⟨rfl,by rw[ahY];rfl⟩
    |true=>exact⟨trivial,rfl,by rw[u,ajc];rfl⟩
 rintro _ rfl;refine ah (λh=>?_) λh3=>?_
 .rw[ahq,ahO]at h;obtain⟨rfl,h⟩:=h;refine⟨trivial,bP (by show 7+_<=_;omega),GX (w:=[D7,Lib.itoa id]) (by rw[XU,h];rfl) ?_⟩;rw[Cj];rfl
 have hqk:uK q=(aA q&&decide (fM (Sp.textOf q)=q)):=rfl;refine⟨λy=>y=((k==4&&(decide ((f0,f1,f2,f3,f4,())=wu)&&(id==0&&(aK n&&uK q))),()),()),?_,?_⟩
 .rw[hqk];cases k==4 with
  |false=>exact⟨rfl,rfl⟩
  |true=>
   cases decide ((f0,f1,f2,f3,f4,())=wu)with
   |false=>exact⟨rfl,rfl⟩
   |true=>
    cases id==0 with
    |false=>exact⟨rfl,rfl⟩
    |true=>
     refine⟨trivial,?_⟩;cases aK n with
     |false=>exact⟨rfl,rfl⟩
     |true=>
      refine⟨hq,?_⟩;cases aA q with
      |false=>exact⟨rfl,rfl⟩
      |true=>exact⟨hq,trivial,rfl,rfl⟩
 rintro _ rfl;refine ah (λh=>?_) λh4=>?_
 .rw[ahq,ahO]at h;obtain⟨rfl,h⟩:=h;have hok:aA q=true:=by rw[ahq,ahq,ahq,hqk,ahq]at h;exact h.2.2.2.1
  refine⟨bP (by show 7+_<=_;omega),bP (by rw[ahr];show 7+_+1<=_;omega),hq,bP (by rw[ahr,ahr];show 7+_+1+_<=_;omega),GX (w:=uM::n::aT 9 q ((q.length:Int)-1)) (by rw[GY,h];rfl) ?_⟩;obtain⟨y,r,e⟩:∃y r,aT 9 q ((q.length:Int)-1)=y::r:=by
   cases e:aT 9 q ((q.length:Int)-1)with
   |nil=>exact absurd e (yu 8 q _)
   |cons y r=>exact⟨y,r,rfl⟩
  rw[Vl hok,e,bZ,bZ];simp[uM]
 have off:k≠5->(([]:List UInt8),())=(dF (nN k (f0,f1,f2,f3,f4,()) id n q),()):=λh5=>vG (by
  by_cases c1:k=1
  .subst c1;rw[Sm];rw[ais,aij]at h1;dsimp only at h1 ⊢;rw[h1];rfl
  by_cases c2:k=2
  .subst c2;rw[XT];rw[ais,aij]at h2;dsimp only at h2 ⊢;rw[h2];rfl
  by_cases c3:k=3
  .subst c3;rw[XU];rw[ais,aij]at h3;dsimp only at h3 ⊢;rw[h3];rfl
  by_cases c4:k=4
  .subst c4;rw[GY];rw[ais,aij]at h4;dsimp only at h4 ⊢;rw[h4];rfl
  exact abx c1 c2 c3 c4 h5)
 refine ah (λh=>?_) λh=>off (aht.1 h);obtain rfl:=ahO.1 h;have aal:(decide ((f0,f1,f2,f3,f4,())=wu)&&(id==0&&(aK n&&q.isEmpty)))=false->(([]:List UInt8),())=(dF (nN 5 (f0,f1,f2,f3,f4,()) id n q),()):=λh=>vG (by rw[Sr,h];rfl);refine ah (λg1=>ah (λg2=>⟨trivial,ah (λg3=>ah (λg4=>⟨bP (by show 9+_<=_;omega),GX (w:=[zq,n]) ?_ ?_⟩) λg4=>aal ?_) λg3=>aal ?_⟩) λg2=>aal ?_) λg1=>aal ?_
 .rw[iz]at g4;rw[Sr,show decide ((f0,f1,f2,f3,f4,())=wu)=true from g1,g2,g3,g4];rfl
 .rw[Cj];rfl
 .rw[iz]at g4;rw[g4,ahY,ahY,ahY]
 .rw[g3,aiG,ahY,ahY]
 .rw[g2,aiG,ahY]
 .rw[show decide ((f0,f1,f2,f3,f4,())=wu)=false from g1,aiG]
end Go.Proofs.Tryz
namespace Go.Proofs.Tryz
open Go Go.Fw Go.IntWalk Sp
theorem aam{β:Type}(x5:List eu)(t:β)(hx:x5.length<=1048576){K:List UInt8×Unit->Prop}{E:Prop}(hbad:x5.all l7=false->K ([],()))(hend:x5.all l7=true->E):
 LP (α:=(Int×Unit)×Unit) (((0:Int),()),()) λI μ y=>
  bif decide (y.1.1<(x5.length:Int))then((0:Int)<=y.1.1/\y.1.1<(x5.length:Int))/\True/\
   (bif !dN (x5.getD (Int.toNat y.1.1) ([],0,0,[],())).1 then K ([],())else True/\
     (bif !aS (x5.getD (Int.toNat y.1.1) ([],0,0,[],())).2.1 (x5.getD (Int.toNat y.1.1) ([],0,0,[],())).2.2.1 (x5.getD (Int.toNat y.1.1) ([],0,0,[],())).2.2.2.1 then K ([],())
     else bif (x5.getD (Int.toNat y.1.1) ([],0,0,[],())).2.1==0 then K ([],())else NX t I μ ((IntKind.i64.wrap (y.1.1+1),()),()) y))else E:=by
 have hb:∀n,n<x5.length->l7 (x5.getD n ([],0,0,[],()))=false->K ([],()):=λn hn h=>hbad (aj2.2 ⟨_,getD_mem hn,by rw[h];decide⟩);refine CQ x5.length (by omega) (λn=>∀i,i<n->l7 (x5.getD i ([],0,0,[],()))=true) (λi hi=>absurd hi (air _)) (λI μ n hn hJ next=>?_) λI μ hJ=>?_
 .dsimp only;rw[aia];have e:l7 (x5.getD n ([],0,0,[],()))=(dN (x5.getD n ([],0,0,[],())).1&&(aS (x5.getD n ([],0,0,[],())).2.1 (x5.getD n ([],0,0,[],())).2.2.1 (x5.getD n ([],0,0,[],())).2.2.2.1&&!((x5.getD n ([],0,0,[],())).2.1==0))):=rfl;refine vC (by omega) ⟨⟨by omega,by omega⟩,trivial,ah (λh=>hb n hn ?_) λh=>⟨trivial,ah (λh2=>hb n hn ?_) λh2=>ah (λh3=>hb n hn ?_) λh3=>⟨rfl,next ?_⟩⟩⟩
  .rw[e,tH h];rfl
  .rw[e,tH h2,aiG,ahY]
  .rw[e,h3,Bool.not_true,ahY,ahY]
  .intro i hi;rcases ahQ i n with h5|h5
   .exact hJ i h5
   .rw[show i=n by omega,e,oh h,oh h2,h3];rfl
 .dsimp only;refine vF (by omega) (hend (ahH.2 λx hx=>?_));obtain⟨i,hi,rfl⟩:=aiF.1 hx;have:=hJ i hi;rw[ahv,ahw hi]at this;exact this
theorem Sv{f:bD}:kF f=(f.2.2.2.2.1.all l7&&(aW f.1&&(aW f.2.1&&aW f.2.2.2.1))):=rfl
theorem aej(a b:Int):gU [(a,()),(b,())]=(aW a&&aW b):=by simp[gU]
theorem aek(a b c:Int):gU [(a,()),(b,()),(c,())]=(aW a&&(aW b&&aW c)):=by simp[gU]
theorem ael(a:Int):gU [(a,())]=aW a:=by simp[gU]
theorem I8:OK nS.e:=by
 refine PA.ok mixed (aP [(mX,.pure kH),gm.e,iW.e,pW.e,pO.e,nO.e,lF.e,eG.e,iw.e,kU.e,kJ.e,(yY,.pure vN),pV.e] ⟨⟨yX,xJ⟩,mQ,vM,LG,Lr,IL,FD,rQ,qM,zJ,vT,⟨PE,NI⟩,L9,trivial⟩) JY (by kernel_rfl) (show∀x0 x1 x2 x3 x4 x5 x6 x7 x8,nS.goal (I9 x0 x1 x2 x3 x4 x5 x6 x7 x8) ((x0,x1,x2,x3,x4,x5,x6,x7,x8,()),())from ?_);intro k f0 f1 f2 f3 f4 id n q hin hp;dsimp only[nS]at hp ⊢;obtain⟨hl,ht,hn,hq⟩:f4.length<=1048576/\(bK f4).length<=1073741824/\n.length<=1048576/\q.length<=2000000:=hp;have hfl:=(D6 (f:=(f0,f1,f2,f3,f4,())) hin.1.2.1 hin.1.2.2.1 hin.1.2.2.2.2.1);have aem:(dD (f0,f1,f2,f3,f4,())).length<=80+1073741824:=ahB hfl.1 (ajb ht 80);have ad4:(Lib.join (dX (f0,f1,f2,f3,f4,())) [32]).length<=47+1073741824:=ahB hfl.2 (ajb ht 47);have q0:=kS (n:=f0) hin.1.2.1;have q6:=kS (n:=id) hin.1.2.2.2.2.2.2.1;have hts:=Cm q;clear hfl hin;have hx:(k,f0,f1,f2,f3,f4,id,n,q,())=nN k (f0,f1,f2,f3,f4,()) id n q:=rfl;rw[hx];clear hx;have hpl:=Sp.pieces_len 32 (dD (f0,f1,f2,f3,f4,()));obtain⟨fp1,fp2,fp3⟩:=YE (f0,f1,f2,f3,f4,());have j1:∀(a:List UInt8),Lib.join (a::dX (f0,f1,f2,f3,f4,())) [32]=a++32::Lib.join (dX (f0,f1,f2,f3,f4,())) [32]:=λa=>by unfold dX;rw[bZ]
 have hgd:([32]:List UInt8).getD 0 0=32:=rfl;have hdl:∀(m:Nat),((List.take (Sp.pieces 32 (dD (f0,f1,f2,f3,f4,()))).length (Sp.pieces 32 (dD (f0,f1,f2,f3,f4,())))).drop m).length<=81+1073741824:=λm=>by rw[ah1,ahJ];omega
 let P1:Sp.LS:=[(zZ,())]++List.drop (Int.toNat 2) (List.take (Sp.pieces 32 (dD (f0,f1,f2,f3,f4,()))).length (Sp.pieces 32 (dD (f0,f1,f2,f3,f4,()))))
 let P2:Sp.LS:=[(xQ,())]++List.drop (Int.toNat 1) (List.take (Sp.pieces 32 (dD (f0,f1,f2,f3,f4,()))).length (Sp.pieces 32 (dD (f0,f1,f2,f3,f4,()))))
 have hqk:uK q=(aA q&&decide (fM (Sp.textOf q)=q)):=rfl;refine⟨λy=>(k=1/\f0=0/\y=((P1,()),(1,f0,f1,f2,f3,f4,0,[],[],()),[(f1,()),(f3,())],()))\/(k=2/\y=((P2,()),(2,f0,f1,f2,f3,f4,0,[],[],()),[(f0,()),(f1,()),(f3,())],()))\/
  (k=3/\y=(([(D7,()),(Lib.itoa id,())],()),(3,0,0,false,0,[],id,[],[],()),[(id,())],()))\/
  (k=4/\aK n=true/\uK q=true/\y=(([(uM,()),(n,()),(Sp.textOf q,())],()),(4,0,0,false,0,[],0,n,q,()),[],()))\/
  (k=5/\aK n=true/\y=(([(zq,()),(n,())],()),(5,0,0,false,0,[],0,n,[],()),[],())),?_,?_⟩
 .by_cases k1:k=1
  .subst k1;refine⟨zi rfl,⟨hl,ht⟩,⟨ahB aem (by decide),.inl rfl⟩,⟨by decide,?_⟩,GL ?_,ah (λh=>vG ?_) λh=>⟨rfl,.inl ⟨rfl,by simpa using h,rfl⟩⟩⟩
   .show(2:Int)<=((Sp.pieces 32 _).length:Int);omega
   .have:=hdl 2;show 1+_<=_;exact ahB (ajb this 1) (by decide)
   .have h:f0≠0:=ajS.1 h;rw[Sm];dsimp only;rw[aht.2 h,aiG,ahY];rfl
  by_cases k2:k=2
  .subst k2;refine⟨zi rfl,⟨hl,ht⟩,⟨ahB aem (by decide),.inl rfl⟩,⟨by decide,?_⟩,GL ?_,rfl,.inr (.inl ⟨rfl,rfl⟩)⟩
   .show(1:Int)<=((Sp.pieces 32 _).length:Int);omega
   .have:=hdl 1;show 1+_<=_;exact ahB (ajb this 1) (by decide)
  by_cases k3:k=3
  .subst k3;exact⟨zi rfl,trivial,rfl,.inr (.inr (.inl ⟨rfl,rfl⟩))⟩
  by_cases k4:k=4
  .subst k4;refine⟨hq,trivial,ah (λh=>vG ?_) λh=>⟨hq,ah (λh2=>vG ?_) λh2=>⟨hq,trivial,ah (λh3=>vG ?_) λh3=>⟨rfl,.inr (.inr (.inr (.inl ⟨rfl,oh h,?_,rfl⟩)))⟩⟩⟩⟩
   .rw[GY,tH h,aiG,ahY,ahY];rfl
   .rw[GY,hqk,tH h2,aiG,ahY,ahY,ahY];rfl
   .have h3:decide (fM (Sp.textOf q)=q)=false:=tH h3;rw[GY,hqk,h3,ahY,ahY,ahY,ahY];rfl
   .have h3:decide (fM (Sp.textOf q)=q)=true:=oh h3;rw[hqk,oh h2,h3];rfl
  by_cases k5:k=5
  .subst k5;refine⟨trivial,ah (λh=>vG ?_) λh=>⟨rfl,.inr (.inr (.inr (.inr ⟨rfl,oh h,rfl⟩)))⟩⟩;rw[Sr,tH h,aiG,ahY,ahY];rfl
  rw[aht.2 k1,aht.2 k2,aht.2 k3,aht.2 k4,aht.2 k5];exact vG (abx k1 k2 k3 k4 k5)
 have rest:∀(y:(Sp.LS×Unit)×(Int×Int×Int×Bool×Int×List eu×Int×List UInt8×List ax×Unit)×List (Int×Unit)×Unit)(c:Bool)(w:List (List UInt8)),
  (bif decide ((y.2.1.2.1,y.2.1.2.2.1,y.2.1.2.2.2.1,y.2.1.2.2.2.2.1,y.2.1.2.2.2.2.2.1,())=(f0,f1,f2,f3,f4,()))then(y.2.1.2.2.2.2.2.2.1==id)&&((y.2.1.2.2.2.2.2.2.2.1==n)&&(decide (y.2.1.2.2.2.2.2.2.2.2.1=q)&&(gU y.2.2.1&&f4.all l7)))else false)=c->
  iJ (nN k (f0,f1,f2,f3,f4,()) id n q)=(bif c then w else[])->(c=true->y.1.1.length<=140737488355328/\(Lib.join w [32]).length<=140737488355328/\Lib.join (y.1.1.map λx=>x.1) [32]=Lib.join w [32])->
  ∃(J:Unit×Unit->Prop),(True/\(bif !decide ((y.2.1.2.1,y.2.1.2.2.1,y.2.1.2.2.2.1,y.2.1.2.2.2.2.1,y.2.1.2.2.2.2.2.1,())=(f0,f1,f2,f3,f4,()))then(([]:List UInt8),())=(dF (nN k (f0,f1,f2,f3,f4,()) id n q),())
   else bif y.2.1.2.2.2.2.2.2.1 !=id then(([]:List UInt8),())=(dF (nN k (f0,f1,f2,f3,f4,()) id n q),())
   else bif !y.2.1.2.2.2.2.2.2.2.1==n then(([]:List UInt8),())=(dF (nN k (f0,f1,f2,f3,f4,()) id n q),())
   else True/\(bif !decide (y.2.1.2.2.2.2.2.2.2.2.1=q)then(([]:List UInt8),())=(dF (nN k (f0,f1,f2,f3,f4,()) id n q),())
   else True/\(bif !gU y.2.2.1 then(([]:List UInt8),())=(dF (nN k (f0,f1,f2,f3,f4,()) id n q),())
   else(((k,f0,f1,f2,f3,f4,id,n,q,()),y.1),())=(((k,f0,f1,f2,f3,f4,id,n,q,()),y.1),())/\J ((),())))))/\
  ∀(z:Unit×Unit),J z->LP (α:=(Int×Unit)×Unit) (((0:Int),()),()) λI μ y13=>
   bif decide (y13.1.1<(f4.length:Int))then((0:Int)<=y13.1.1/\y13.1.1<(f4.length:Int))/\True/\
   (bif !dN (f4.getD (Int.toNat y13.1.1) ([],0,0,[],())).1 then(([]:List UInt8),())=(dF (nN k (f0,f1,f2,f3,f4,()) id n q),())else True/\
     (bif !aS (f4.getD (Int.toNat y13.1.1) ([],0,0,[],())).2.1 (f4.getD (Int.toNat y13.1.1) ([],0,0,[],())).2.2.1 (f4.getD (Int.toNat y13.1.1) ([],0,0,[],())).2.2.2.1 then(([]:List UInt8),())=(dF (nN k (f0,f1,f2,f3,f4,()) id n q),())
     else bif (f4.getD (Int.toNat y13.1.1) ([],0,0,[],())).2.1==0 then(([]:List UInt8),())=(dF (nN k (f0,f1,f2,f3,f4,()) id n q),())else NX ((y.1.1,f4,(f4.length:Int),()),()) I μ ((IntKind.i64.wrap (y13.1.1+1),()),()) y13))
   else(y.1.1.length<=140737488355328/\(Lib.join (y.1.1.map λx=>x.1) [32]).length<=140737488355328)/\(Lib.join (y.1.1.map λx=>x.1) [32],())=(dF (nN k (f0,f1,f2,f3,f4,()) id n q),()):=by
  intro y c w hc hw hg;have off:c=false->(([]:List UInt8),())=(dF (nN k (f0,f1,f2,f3,f4,()) id n q),()):=λh=>vG (by rw[hw,h];rfl);generalize decide ((y.2.1.2.1,y.2.1.2.2.1,y.2.1.2.2.2.1,y.2.1.2.2.2.2.1,y.2.1.2.2.2.2.2.1,())=(f0,f1,f2,f3,f4,()))=a1 at hc ⊢;generalize decide (y.2.1.2.2.2.2.2.2.2.2.1=q)=a4 at hc ⊢;have hb:(y.2.1.2.2.2.2.2.2.1 !=id)=!(y.2.1.2.2.2.2.2.2.1==id):=rfl;rw[hb];generalize (y.2.1.2.2.2.2.2.2.1==id)=a2 at hc ⊢;generalize (y.2.1.2.2.2.2.2.2.2.1==n)=a3 at hc ⊢;generalize gU y.2.2.1=a5 at hc ⊢;cases a1 with
  |false=>exact⟨λ_=>False,⟨trivial,off hc.symm⟩,λ_ h=>h.elim⟩
  |true=>
  cases a2 with
  |false=>exact⟨λ_=>False,⟨trivial,off hc.symm⟩,λ_ h=>h.elim⟩
  |true=>
  cases a3 with
  |false=>exact⟨λ_=>False,⟨trivial,off hc.symm⟩,λ_ h=>h.elim⟩
  |true=>
  cases a4 with
  |false=>exact⟨λ_=>False,⟨trivial,trivial,off hc.symm⟩,λ_ h=>h.elim⟩
  |true=>
  cases a5 with
  |false=>exact⟨λ_=>False,⟨trivial,trivial,trivial,off hc.symm⟩,λ_ h=>h.elim⟩
  |true=>
  have hc:f4.all l7=c:=hc;refine⟨λ_=>True,⟨trivial,trivial,trivial,rfl,trivial⟩,λ_ _=>?_⟩;refine aam (K:=λr=>r=(dF (nN k (f0,f1,f2,f3,f4,()) id n q),())) f4 _ hl (λh=>off (hc.symm.trans h)) λh=>?_;obtain⟨g1,g2,g3⟩:=hg (hc.symm.trans h);rw[g3];exact⟨⟨g1,g2⟩,(GX (w:=w) (by rw[hw,← hc,h];rfl) rfl)⟩
 rintro y hy;have hTL:List.take (Sp.pieces 32 (dD (f0,f1,f2,f3,f4,()))).length (Sp.pieces 32 (dD (f0,f1,f2,f3,f4,())))=Sp.pieces 32 (dD (f0,f1,f2,f3,f4,())):=aiv (ahx _);have hdt:∀f:bD,decide (f=f)=true:=λf=>ahT rfl;have hdq:∀q:List ax,decide (([]:List ax)=q)=q.isEmpty:=λq=>by cases q with
  |nil=>rfl
  |cons x r=>exact ah5 (λe=>by cases e)
 have hbn:∀n:List UInt8,(([]:List UInt8)==n)=(n==[]):=λn=>by cases n<;>rfl
 have hbz:∀z:Int,((0:Int)==z)=(z==0):=λz=>by
  by_cases h:z=0
  .subst h;rfl
  .rw[aht.2 h,aht.2 (aiU h)]
 rcases hy with⟨rfl,rfl,rfl⟩|⟨rfl,rfl⟩|⟨rfl,rfl⟩|⟨rfl,hv,hk,rfl⟩|⟨rfl,hv,rfl⟩
 .refine rest _ (kF (0,f1,f2,f3,f4,())&&((0:Int)==0&&(id==0&&(n==[]&&q.isEmpty)))) (zZ::dX (0,f1,f2,f3,f4,())) ?_ Sm λ_=>⟨?_,?_,?_⟩
  .dsimp only;rw[hdt,hdq,hbn,hbz,aej,Sv,show aW (0,f1,f2,f3,f4,()).1=true from rfl,aij];dsimp only;cases f4.all l7<;>cases aW f1<;>cases aW f3<;>cases id==0<;>cases n==[]<;>cases q.isEmpty<;>rfl
  .have:=hdl 2;show _+1<=_;exact ahB (Nat.add_le_add_right this 1) (by decide)
  .rw[j1,ahr,ahu];show 6+_<=_;omega
  .show Lib.join (zZ::(List.drop 2 (List.take (Sp.pieces 32 (dD (0,f1,f2,f3,f4,()))).length (Sp.pieces 32 (dD (0,f1,f2,f3,f4,()))))).map (·.1)) [32]=_;rw[hTL,fp1,OG,j1]
 .refine rest _ (kF (f0,f1,f2,f3,f4,())&&(id==0&&(n==[]&&q.isEmpty))) (xQ::Lib.itoa f0::dX (f0,f1,f2,f3,f4,())) ?_ XT λ_=>⟨?_,?_,?_⟩
  .dsimp only;rw[hdt,hdq,hbn,hbz,aek,Sv];dsimp only;cases f4.all l7<;>cases aW f0<;>cases aW f1<;>cases aW f3<;>cases id==0<;>cases n==[]<;>cases q.isEmpty<;>rfl
  .have:=hdl 1;show _+1<=_;exact ahB (Nat.add_le_add_right this 1) (by decide)
  .rw[bZ,j1,ahr,ahu,ahr,ahu];show 6+_<=_;omega
  .show Lib.join (xQ::(List.drop 1 (List.take (Sp.pieces 32 (dD (f0,f1,f2,f3,f4,()))).length (Sp.pieces 32 (dD (f0,f1,f2,f3,f4,()))))).map (·.1)) [32]=_;rw[hTL,fp2,ahE,bZ,OG,bZ,j1]
 .refine rest _ (decide ((f0,f1,f2,f3,f4,())=wu)&&(aW id&&(n==[]&&q.isEmpty))) [D7,Lib.itoa id] ?_ XU λ_=>⟨sK rfl,?_,rfl⟩
  .dsimp only;rw[hdq,hbn,ael,ais,aij];cases hd:decide ((f0,f1,f2,f3,f4,())=wu)with
   |false=>rw[ah5 (λe=>ajx hd (by rw[← e];rfl))];rfl
   |true=>have e:=aio hd;have e4:f4=[]:=congrArg (·.2.2.2.2.1) e;rw[ahT (by rw[e];rfl),e4];cases aW id<;>cases n==[]<;>cases q.isEmpty<;>rfl
  .rw[Cj];simp only[ahr];show 6+1+_<=_;omega
 .have hok:aA q=true:=by rw[hqk,ahq]at hk;exact hk.1
  refine rest _ (decide ((f0,f1,f2,f3,f4,())=wu)&&(id==0&&(aK n&&uK q))) (uM::n::aT 9 q ((q.length:Int)-1)) ?_ GY λ_=>?_
  .dsimp only;rw[hbz,ais,aij,ahT rfl,aij,hv,hk];cases hd:decide ((f0,f1,f2,f3,f4,())=wu)with
   |false=>rw[ah5 (λe=>ajx hd (by rw[← e];rfl))];rfl
   |true=>have e:=aio hd;have e4:f4=[]:=congrArg (·.2.2.2.2.1) e;rw[ahT (by rw[e];rfl),e4];cases id==0<;>rfl
  .obtain⟨y,r,e⟩:∃y r,aT 9 q ((q.length:Int)-1)=y::r:=by
    cases e:aT 9 q ((q.length:Int)-1)with
    |nil=>exact absurd e (yu 8 q _)
    |cons y r=>exact⟨y,r,rfl⟩
   have e2:=Vl hok;rw[e]at e2 ⊢;have e3:Lib.join (uM::n::y::r) [32]=Lib.join [uM,n,Sp.textOf q] [32]:=by rw[bZ,bZ,Nc,e2];simp
   refine⟨sK rfl,?_,e3.symm⟩;rw[e3,Nc];simp only[ahr];show 6+1+_+1+_<=_;omega
 .refine rest _ (decide ((f0,f1,f2,f3,f4,())=wu)&&(id==0&&(aK n&&q.isEmpty))) [zq,n] ?_ Sr λ_=>⟨sK rfl,?_,rfl⟩
  .dsimp only;rw[hbz,ais,aij,hdq,hv];cases hd:decide ((f0,f1,f2,f3,f4,())=wu)with
   |false=>rw[ah5 (λe=>ajx hd (by rw[← e];rfl))];rfl
   |true=>have e:=aio hd;have e4:f4=[]:=congrArg (·.2.2.2.2.1) e;rw[ahT (by rw[e];rfl),e4];cases id==0<;>cases q.isEmpty<;>rfl
  .rw[Cj];simp only[ahr];show 8+1+_<=_;omega
theorem AX:OK lN.e:=by refine PA.ok mixed (aP [tZ.e,nS.e,nT.e,tY.e,tX.e] ⟨PS,I8,I5,PW,PU,trivial⟩) H0 (by kernel_rfl) (show∀GZ G5 G6 G7 G8 G9 He Hf Hg,lN.goal (AY GZ G5 G6 G7 G8 G9 He Hf Hg) ((GZ,G5,G6,G7,G8,G9,He,Hf,Hg,()),())from ?_);intro k f0 f1 f2 f3 f4 id n q hin hp;dsimp only[lN]at hp ⊢;refine⟨⟨by decide,by decide⟩,ah (λ_=>rfl) λh=>?_⟩;have hw:=abo (mO h);have hs:=aan hw;have hb:=aea hw;refine⟨hb,hs,hb,hs,?_⟩;dsimp only;rw[ais];refine⟨hb,trivial,?_⟩;unfold Dh;rw[ahT rfl];exact rfl
end Go.Proofs.Tryz
