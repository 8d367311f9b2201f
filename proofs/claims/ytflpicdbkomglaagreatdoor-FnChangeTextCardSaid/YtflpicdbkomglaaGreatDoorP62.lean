import Derived.Deep.AppendLies
import Derived.Deep.RegionLaw
import Derived.BigRegion
import Derived.Test.YtflpicdbkomglaaGreatDoorP60
namespace Go.Proofs.Tryz
open Go Go.Fw Go.RowKit Sp
theorem ay{w:World}{g:Nat}{cur:Array Value}{t:TypeId}{fz:Nat×Nat}(h:w.heap[g]? =some (.cells cur t fz))(k:Nat):w.cell? ⟨g,k,none⟩=cur[k]? :=by simp[World.cell?,h]
theorem bV{w:World}{g:Nat}{cur:Array Value}{t:TypeId}(h:w.heap[g]? =some (.cells cur t (0,0)))(k:Nat):w.frozen? ⟨g,k,none⟩=false:=by simp[World.frozen?,h]
theorem iZ{w:World}{g:Nat}{cur:Array Value}{t:TypeId}{fz:Nat×Nat}(h:w.heap[g]? =some (.cells cur t fz))(k:Nat)(v:Value):(w.setCell ⟨g,k,none⟩ v).heap[g]? =some (.cells (cur.setIfInBounds k v) t fz):=by simp only[World.setCell,apO,if_pos,h];rfl
theorem TM{w:World}{p:Addr}{b:Nat}(v:Value)(h:b≠p.block):(w.setCell p v).heap[b]? =w.heap[b]? :=by simp only[World.setCell,apO,if_neg (aoQ h)]
def FW(B:Nat)(W:World)(v:Value)(f:Sp.LS):Prop:=gy W.heap (λb=>b<B) (.sl eu iw) v f
structure Step(W w':World)(P:Nat)(own:Option Nat):Prop where
 os:w'.os=W.os
 tape:w'.tape=W.tape
 output:w'.output=W.output
 size:W.heap.size<=w'.heap.size
 block:∀b,b<W.heap.size->b≠P->own≠some b->w'.heap[b]? =W.heap[b]?
theorem FW.keep{B:Nat}{W w':World}{v:Value}{f:Sp.LS}(h:FW B W v f)(hk:∀b,b<B->w'.heap[b]? =W.heap[b]?):FW B w' v f:=by
 refine⟨h.1,?_⟩;rcases h.2 with h2|⟨b,off,cap,cs,t,fz,h1,h2,h3,h4,h5⟩
 .exact .inl h2
 .exact .inr ⟨b,off,cap,cs,t,fz,h1,h2,h3,(hk b h3).trans h4,λi x hx=>aU.flat (S:=λb=>b<B) _ _ _ rfl (h5 i x hx)⟩
set_option maxHeartbeats 4000000 in
set_option maxRecDepth 100000 in
theorem xk(B P:Nat)(W:World)(vf vn:Value)(f:Sp.LS)(D9:B<=P)(hP:W.heap[P]? =some (.cells #[vf,vn] 150 (0,0)))(hf:FW B W vf f):
 Calls prog 175 #[.pointer (some ⟨P,0,none⟩)] W λe w'=>e=.returned (.string ⟨(Sp.wordAt f 0).toArray⟩)/\∃GX,FW B w' GX (f.drop 1)/\w'.heap[P]? =some (.cells #[GX,vn] 150 (0,0))/\Step W w' P none:=by
 have mixed:=Tryz.mixed;have c0:W.cell? ⟨P,0,none⟩=some vf:=ay hP 0;have z0:W.frozen? ⟨P,0,none⟩=false:=bV hP 0;obtain⟨hml,hcase⟩:=id hf;rcases hcase with⟨e1,a,c,rfl⟩|⟨b,off,cap,cs,t,fz,rfl,hcap,hb,hbl,hx⟩
 .subst e1
  go_enter Tryz.func175,Tryz.ntmps175
  go_wp2
  go_ret
  exact⟨rfl,_,hf,hP,rfl,rfl,rfl,ann _,λ_ _ _ _=>rfl⟩
 .cases f with
  |nil=>
   go_enter Tryz.func175,Tryz.ntmps175
   go_wp2
   go_ret
   exact⟨rfl,_,hf,hP,rfl,rfl,rfl,ann _,λ_ _ _ _=>rfl⟩
  |cons x r=>
   have hx0:=hx 0 x rfl;obtain⟨u,us,e1,⟨e2,_⟩,_⟩:=hx0;have cx:W.cell? ⟨b,off,none⟩=some (.string ⟨x.1.toArray⟩):=by rw[ay hbl,← e2];have h0:=congrArg (λl=>l[0]?) e1;have h0:((cs.toList.drop (off+0*1)).take 1)[0]? =some u:=h0;simpa[anP,anU]using h0
   have hl:(x::r).length=r.length+1:=rfl;rw[hl]at hcap c0 hml;have hrl:¬((r.length+1:Nat):Int)=0:=by omega
   have hw:Sp.wordAt (x::r) 0=x.1:=dF x r;rw[hw];have hr:FW B W (.slice (if cap=1 then some ⟨b,off,none⟩else some ⟨b,off+1,none⟩) r.length (cap-1)) r:=by
    refine⟨by have:=hml;omega,?_⟩;by_cases h1:cap=1
    .have hr0:r=[]:=an0.1 (by omega);subst hr0;exact .inl ⟨rfl,_,_,rfl⟩
    .rw[if_neg h1];refine .inr ⟨b,off+1,cap-1,cs,t,fz,rfl,by omega,hb,hbl,λi y hy=>?_⟩;have:=hx (i+1) y (by simpa using hy);rw[show off+1+i*iw.len=off+(i+1)*iw.len by show off+1+i*1=off+(i+1)*1;omega];exact this
   generalize r.length=n at*
   go_enter Tryz.func175,Tryz.ntmps175
   go_wp2
   all_goals go_ret
   all_goals refine⟨rfl,_,FW.keep (W:=W) ?_ λb' hb'=>TM _ (show b'≠P by omega),iZ hP 0 _,rfl,rfl,rfl,by simp[World.setCell],λb' _ hb' _=>TM _ hb'⟩
   .rw[if_pos h,show cap-1=0 by omega]at hr;exact hr
   .rw[if_neg h]at hr;exact hr
theorem aim(op:Int)(h:-9223372036854775808<=op/\op<=9223372036854775807)(w:World)(hG:G.ok w):Calls prog 163 #[.int .i64 op] w λe w'=>e=.returned (.string ⟨(dW op).toArray⟩)/\Below w.heap.size w w':=by have hc:jM prog G 163 (lT jX.sh jX.bK jX.F):=GU.1;refine(hc [.sv (.one (.int .i64 op))] True ⟨[(false,[.plain (.str (dW op))])],none⟩ 0 (λ_=>True) #[.int .i64 op] w rfl trivial hG ⟨⟨rfl,h⟩,trivial⟩).mono ?_;rintro e w' ⟨v,vals,rfl,h1,h2,h3,h4,h5,h6,_,_⟩;have h6:v=.string ⟨(dW op).toArray⟩/\(dW op).length<=maxLen:=h6;exact⟨by rw[h6.1],h1,h2,h3,h4,h5⟩
theorem aek(s:List UInt8)(hs:s.length<=1048576)(w:World)(hG:G.ok w):Calls prog 132 #[.string ⟨s.toArray⟩] w λe w'=>
 e=.returned (.tuple #[.agg #[.int .i64 (aY s).1.1,.int .i64 (aY s).1.2.1,.string ⟨(aY s).1.2.2.1.toArray⟩],.bool (aY s).2])/\Below w.heap.size w w'/\
  (-9223372036854775808<=(aY s).1.1/\(aY s).1.1<=9223372036854775807)/\(-9223372036854775808<=(aY s).1.2.1/\(aY s).1.2.1<=9223372036854775807)/\(aY s).1.2.2.1.length<=maxLen:=by
 have hc:jM prog G 132 (lT kT.sh kT.bK kT.F):=F5.1;refine(hc [.sv (.one (.str s))] (s.length<=1048576) _ 0 (λ_=>True) #[.string ⟨s.toArray⟩] w rfl hs hG ⟨⟨rfl,by rw[maxLen_eq];omega⟩,trivial⟩).mono ?_;rintro e w' ⟨v,vals,rfl,h1,h2,h3,h4,h5,h6,_,_⟩;obtain⟨vs,rfl,h7⟩:=h6;obtain⟨l⟩:=vs
 match l,h7 with
 |[a,b],h7=>
  obtain⟨⟨us,ea,h8⟩,h9,_⟩:=h7;obtain⟨ul⟩:=us
  match ul,h8 with
  |[x,y,z],h8=>obtain⟨x1,y1,z1,_⟩:=h8;have h9:b=.bool (aY s).2:=h9;rw[ea,h9,x1.1,y1.1,z1.1];exact⟨rfl,⟨h1,h2,h3,h4,h5⟩,x1.2,y1.2,z1.2⟩
def NW(B P:Nat)(W:World)(v:Value)(q:List aA):Prop:=
 ∃xs,W.ownsRow B 125 7 v q.length xs/\v.ownBlock≠some P/\∀i x,q[i]? =some x->aU #[] (λ_=>False) bM ((xs.drop (i*7)).take 7) x
def bD(op l r:Int)(s:List UInt8)(k n:Int)(t:List UInt8):Array Value:=#[.int .i64 op,.int .i64 l,.int .i64 r,.string ⟨s.toArray⟩,.int .i64 k,.int .i64 n,.string ⟨t.toArray⟩]
theorem acw{W w':World}{base size n:Nat}{e:TypeId}{v:Value}{xs:List Value}(h:W.ownsRow base e size v n xs)(hk:∀g,v.ownBlock=some g->w'.heap[g]? =W.heap[g]?):w'.ownsRow base e size v n xs:=by
 refine⟨h.1,?_⟩;rcases h.2 with h2|⟨g,cap,cur,rfl,h3,h4,h5⟩
 .exact .inl h2
 .exact .inr ⟨g,cap,cur,rfl,h3,(hk g rfl).trans h4,h5⟩
theorem uo:(prog.info? 125).map (λi=>(i.zero,i.size,i.bytes))=some (some (.agg (bD 0 0 0 [] 0 0 [])),7,72):=by kernel_rfl
theorem oG(op l r:Int)(s:List UInt8)(k n:Int)(t:List UInt8):∀u∈(bD op l r s k n t).toList,u.oneCell'=true:=by intro u hu;simp[bD]at hu;rcases hu with rfl|rfl|rfl|rfl|rfl|rfl|rfl<;>rfl
def TN(n:Int):Prop:=-9223372036854775808<=n/\n<=9223372036854775807
theorem qL{op l r:Int}{s:List UInt8}{k n:Int}{t:List UInt8}(h1:TN op)(h2:TN l)(h3:TN r)(h4:s.length<=maxLen)(h5:TN k)(h6:TN n)(h7:t.length<=maxLen):
 aU #[] (λ_=>False) bM (bD op l r s k n t).toList (op,l,r,s,k,n,t,()):=
 ⟨_,_,rfl,⟨rfl,h1⟩,_,_,rfl,⟨rfl,h2⟩,_,_,rfl,⟨rfl,h3⟩,_,_,rfl,⟨rfl,h4⟩,_,_,rfl,⟨rfl,h5⟩,_,_,rfl,⟨rfl,h6⟩,_,_,rfl,⟨rfl,h7⟩,rfl⟩
structure F7(B P N:Nat)(W:World)(acy:Option Nat)(w:World)(vf vn:Value)(f:Sp.LS)(q:List aA):Prop where
 gl:G.ok w
 cells:w.heap[P]? =some (.cells #[vf,vn] 150 (0,0))
 words:FW B w vf f
 nodes:NW B P w vn q
 step:Step W w P acy
 fresh:∀g,vn.ownBlock=some g->acy=some g\/W.heap.size<=g
 Zj:vn.ownBlock≠some N
 old:W.heap.size<=N
 lt:N<w.heap.size
 low:8<=B/\B<=P/\P<W.heap.size
def Done(B P:Nat)(W:World)(acy:Option Nat)(f:Sp.LS)(q:List aA)(w:World):Prop:=
 ∃vf vn,w.heap[P]? =some (.cells #[vf,vn] 150 (0,0))/\FW B w vf f/\NW B P w vn q/\Step W w P acy/\∀g,vn.ownBlock=some g->acy=some g\/W.heap.size<=g
theorem Step.refl(w:World)(P:Nat)(own:Option Nat):Step w w P own:=⟨rfl,rfl,rfl,ann _,λ_ _ _ _=>rfl⟩
theorem Step.trans{a b c:World}{P:Nat}{o o':Option Nat}(h:Step a b P o)(k:Step b c P o')(hf:∀g,o'=some g->o=some g\/a.heap.size<=g):Step a c P o:=
 ⟨k.os.trans h.os,k.tape.trans h.tape,k.output.trans h.output,ank h.size k.size,λx hx hP ho=>(k.block x (anM hx h.size) hP λe=>by
   rcases hf x e with h1|h1
   .exact ho h1
   .omega).trans (h.block x hx hP ho)⟩
theorem Step.below{a b c:World}{P:Nat}{o:Option Nat}(h:Step a b P o)(k:Below b.heap.size b c):Step a c P o:=
 ⟨k.os.trans h.os,k.tape.trans h.tape,k.output.trans h.output,ank h.size k.size,λx hx hP ho=>(k.block x (anM hx h.size)).trans (h.block x hx hP ho)⟩
theorem NW.keep{B P:Nat}{w w':World}{v:Value}{q:List aA}(h:NW B P w v q)(hk:∀g,v.ownBlock=some g->w'.heap[g]? =w.heap[g]?):NW B P w' v q:=by obtain⟨xs,h1,h2,h3⟩:=h;exact⟨xs,acw h1 hk,h2,h3⟩
theorem NW.lt{B P:Nat}{w:World}{v:Value}{q:List aA}(h:NW B P w v q){g:Nat}(hg:v.ownBlock=some g):B<=g/\g<w.heap.size/\g≠P:=by obtain⟨xs,h1,h2,_⟩:=h;exact⟨(h1.lt g hg).1,(h1.lt g hg).2,λe=>h2 (by rw[hg,e])⟩
theorem F7.below{B P N:Nat}{W:World}{o:Option Nat}{w w':World}{vf vn:Value}{f:Sp.LS}{q:List aA}(h:F7 B P N W o w vf vn f q)(k:Below w.heap.size w w'):F7 B P N W o w' vf vn f q:=by have hP:P<w.heap.size:=anM h.low.2.2 h.step.size;exact⟨o9 h.gl k,(k.block P hP).trans h.cells,h.words.keep λb hb=>k.block b (by have:=h.low;omega),h.nodes.keep λg hg=>k.block g (h.nodes.lt hg).2.1,h.step.below k,h.fresh,h.Zj,h.old,anM h.lt k.size,h.low⟩
theorem F7.wV{B P N:Nat}{W:World}{o:Option Nat}{w:World}{vf vn:Value}{f:Sp.LS}{q:List aA}(h:F7 B P N W o w vf vn f q)(k:Nat)(v:Value):F7 B P N W o (w.setCell ⟨N,k,none⟩ v) vf vn f q:=by
 have hl:=h.low;have ho:=h.old;have far:∀b,b≠N->(w.setCell ⟨N,k,none⟩ v).heap[b]? =w.heap[b]? :=λb hb=>TM v hb;have hs:(w.setCell ⟨N,k,none⟩ v).heap.size=w.heap.size:=by simp[World.setCell]
 refine⟨G.stable _ _ h.gl (by rw[hs];exact ann _) λb hb=>far b (by have:b<8:=hb;omega),(far P (by omega)).trans h.cells,h.words.keep λb hb=>far b (by omega),h.nodes.keep λg hg=>far g (λe=>h.Zj (by rw[hg,e])),?_,h.fresh,h.Zj,ho,by rw[hs];exact h.lt,hl⟩;exact⟨h.step.os,h.step.tape,h.step.output,by rw[hs];exact h.step.size,λx hx hP hoo=>(far x (by omega)).trans (h.step.block x hx hP hoo)⟩
theorem G_step{W w':World}{P B:Nat}{own:Option Nat}(U1:8<=B)(D9:B<=P)(hG:G.ok W)(h:Step W w' P own)(ho:∀b,own=some b->B<=b):G.ok w':=
 G.stable W w' hG h.size λb hb=>h.block b (anM hb (G.low W hG)) (by have:b<8:=hb;omega) λe=>by have:=ho b e;have:b<8:=hb;omega
theorem F7.next{B P N:Nat}{W:World}{o:Option Nat}{w w':World}{vf vn GX:Value}{f f':Sp.LS}{q:List aA}(h:F7 B P N W o w vf vn f q)(h1:FW B w' GX f')(h2:w'.heap[P]? =some (.cells #[GX,vn] 150 (0,0)))(h3:Step w w' P none):F7 B P N W o w' GX vn f' q/\w'.heap[N]? =w.heap[N]? :=by have hl:=h.low;have ho:=h.old;exact⟨⟨G_step hl.1 hl.2.1 h.gl h3 (λb e=>by cases e),h2,h1,h.nodes.keep λg hg=>h3.block g (h.nodes.lt hg).2.1 (h.nodes.lt hg).2.2 (λe=>by cases e),h.step.trans h3 (λg e=>by cases e),h.fresh,h.Zj,ho,anM h.lt h3.size,hl⟩,h3.block N h.lt (by omega) (λe=>by cases e)⟩
theorem F7.read{B P N:Nat}{W:World}{o:Option Nat}{w w':World}{vf vn:Value}{f f':Sp.LS}{q q':List aA}(h:F7 B P N W o w vf vn f q)(k:Done B P w vn.ownBlock f' q' w'):(∃GX XR,F7 B P N W o w' GX XR f' q')/\w'.heap[N]? =w.heap[N]? :=by
 have hl:=h.low;have ho:=h.old;have hN:=h.lt;obtain⟨GX,XR,h1,h2,h3,h4,h5⟩:=k;refine⟨⟨GX,XR,G_step hl.1 hl.2.1 h.gl h4 (λb e=>(h.nodes.lt e).1),h1,h2,h3,h.step.trans h4 h.fresh,λg hg=>?_,λe=>?_,ho,anM h.lt h4.size,hl⟩,h4.block N h.lt (by omega) (λe=>h.Zj e)⟩
 .rcases h5 g hg with e|e
  .exact h.fresh g e
  .exact .inr (ank h.step.size e)
 .rcases h5 N e with e|e
  .exact h.Zj e
  .omega
theorem F7.put{B P N:Nat}{W:World}{o:Option Nat}{w w0 w5:World}{vf vn:Value}{f:Sp.LS}{q:List aA}(h:F7 B P N W o w vf vn f q)(hb:Below w.heap.size w w0){xs:List Value}(hown:w.ownsRow B 125 7 vn q.length xs)
 (hrep:∀i x,q[i]? =some x->aU #[] (λ_=>False) bM ((xs.drop (i*7)).take 7) x) {op l r:Int} {s:List UInt8} {k n:Int} {t:List UInt8} (hx:aU #[] (λ_=>False) bM (bD op l r s k n t).toList (op,l,r,s,k,n,t,()))
 {g cap:Nat} (h5:w5.ownsRow B 125 7 (.slice (some ⟨g,0,none⟩) (q.length+1) cap) (q.length+1) (xs++(bD op l r s k n t).toList)) (hg:w0.grownBy w5 vn.ownBlock) (hat:vn.ownBlock=some g\/g=w0.heap.size) (hlt:g<w5.heap.size):
 Done B P W o f (q++[(op,l,r,s,k,n,t,())]) (w5.setCell ⟨P,1,none⟩ (.slice (some ⟨g,0,none⟩) (q.length+1) cap)):=by
 have hl:=h.low;have ho:=h.old;have hPw:P<w.heap.size:=anM hl.2.2 h.step.size;have hPn:vn.ownBlock≠some P:=λe=>(h.nodes.lt e).2.2 rfl;have hgP:g≠P:=by
  rcases hat with e|e
  .exactλe2=>hPn (by rw[e,e2])
  .have:=hb.size;omega
 have same:∀b,b<w.heap.size->vn.ownBlock≠some b->w5.heap[b]? =w.heap[b]? :=λb hlb hnb=>(hg.block b (anM hlb hb.size) (λe=>hnb e.symm)).trans (hb.block b hlb);have far:∀b,b≠P->(w5.setCell ⟨P,1,none⟩ (.slice (some ⟨g,0,none⟩) (q.length+1) cap)).heap[b]? =w5.heap[b]? :=λb hb=>TM _ hb;have oV:=(same P hPw hPn).trans h.cells;have hs5:(w5.setCell ⟨P,1,none⟩ (.slice (some ⟨g,0,none⟩) (q.length+1) cap)).heap.size=w5.heap.size:=by simp[World.setCell]
 have hsz:w.heap.size<=w5.heap.size:=ank hb.size hg.size;refine⟨vf,.slice (some ⟨g,0,none⟩) (q.length+1) cap,iZ oV 1 _,h.words.keep λb hb=>?_,⟨xs++(bD op l r s k n t).toList,?_,λe=>hgP (by cases e;rfl),λi x hi=>?_⟩,?_,λg' hg'=>?_⟩
 .exact(far b (by omega)).trans (same b (by omega) λe=>by have:=(h.nodes.lt e).1;omega)
 .rw[anf];exact acw h5 λg' hg'=>far g' (by cases hg';exact hgP)
 .have hxl:xs.length=q.length*7:=hown.1;rcases anL i q.length with hi'|hi'
  .rw[aob hi']at hi;have:=hrep i x hi;rw[aoY (by rw[hxl];omega),apg (by rw[anI,hxl];omega)];exact this
  .rw[anW hi']at hi;have e0:i=q.length:=by have:=(anr.1 hi).1;simp at this;omega
   subst e0;rw[apy]at hi;cases hi;rw[← hxl,aqc];exact hx
 .refine⟨hg.os.trans (hb.os.trans h.step.os),hg.tape.trans (hb.tape.trans h.step.tape),hg.output.trans (hb.output.trans h.step.output),by rw[hs5];exact ank h.step.size hsz,λb hlb hbP hob=>?_⟩;refine(far b hbP).trans ((same b (anM hlb h.step.size) λe=>?_).trans (h.step.block b hlb hbP hob));rcases h.fresh b e with e2|e2
  .exact hob e2
  .omega
 .have hg':some g=some g':=hg';cases hg';rcases hat with e|e
  .exact h.fresh g e
  .right;have:=hb.size;have:=h.step.size;omega
theorem uq{B P:Nat}{W:World}{o:Option Nat}{w:World}{b c:Bool}{f:Sp.LS}{q:List aA}{z:Bool×Sp.LS×List aA}(e:Hid (z=(c,f,q)))(hb:Ending.returned (.bool b)=Ending.returned (.bool c))(h:Done B P W o f q w):Ending.returned (.bool b)=Ending.returned (.bool z.1)/\Done B P W o z.2.1 z.2.2 w:=by rw[e.out];exact⟨hb,h⟩
theorem EP{k:Nat}{f:Sp.LS}{q:List aA}{op:Int}(h:op=bU (Sp.wordAt f 0))(c:op=0\/op=1):Sp.rd (k+1) f q=(!(op==0),f.drop 1,q++[(op,0,0,[],0,0,[],())]):=by rw[Sp.rd,← h];rcases c with rfl|rfl<;>rfl
theorem Jb{k:Nat}{f:Sp.LS}{q:List aA}{op:Int}(h:op=bU (Sp.wordAt f 0))(c:op=2\/op=8\/op=9):Sp.rd (k+1) f q=(true,(f.drop 1).drop 1,q++[(op,0,0,Sp.wordAt (f.drop 1) 0,0,0,[],())]):=by rw[Sp.rd,← h];rcases c with rfl|rfl|rfl<;>rfl
theorem OC{k:Nat}{f:Sp.LS}{q:List aA}{op:Int}(h:op=bU (Sp.wordAt f 0))(c:op=3\/op=4):Sp.rd (k+1) f q=((aY (Sp.wordAt ((f.drop 1).drop 1) 0)).2,((f.drop 1).drop 1).drop 1,q++[(op,0,0,Sp.wordAt (f.drop 1) 0,(aY (Sp.wordAt ((f.drop 1).drop 1) 0)).1)]):=by rw[Sp.rd,← h];rcases c with rfl|rfl<;>rfl
theorem acz{k:Nat}{f:Sp.LS}{q:List aA}(h:(5:Int)=bU (Sp.wordAt f 0)):Sp.rd (k+1) f q=((Sp.rd k (f.drop 1) q).1,(Sp.rd k (f.drop 1) q).2.1,(Sp.rd k (f.drop 1) q).2.2++[(5,((Sp.rd k (f.drop 1) q).2.2.length:Int)-1,0,[],0,0,[],())]):=by rw[Sp.rd,← h];rfl
theorem TP{k:Nat}{f:Sp.LS}{q:List aA}{op:Int}(h:op=bU (Sp.wordAt f 0))(c:op=6\/op=7)(h1:(Sp.rd k (f.drop 1) q).1=true):Sp.rd (k+1) f q=((Sp.rd k (Sp.rd k (f.drop 1) q).2.1 (Sp.rd k (f.drop 1) q).2.2).1,(Sp.rd k (Sp.rd k (f.drop 1) q).2.1 (Sp.rd k (f.drop 1) q).2.2).2.1,
 (Sp.rd k (Sp.rd k (f.drop 1) q).2.1 (Sp.rd k (f.drop 1) q).2.2).2.2++[(op,((Sp.rd k (f.drop 1) q).2.2.length:Int)-1,((Sp.rd k (Sp.rd k (f.drop 1) q).2.1 (Sp.rd k (f.drop 1) q).2.2).2.2.length:Int)-1,[],0,0,[],())]):=by
 rw[Sp.rd,← h,h1];rcases c with rfl|rfl<;>rfl
theorem XT{k:Nat}{f:Sp.LS}{q:List aA}{op:Int}(h:op=bU (Sp.wordAt f 0))(c:op=6\/op=7)(h1:(Sp.rd k (f.drop 1) q).1=false):Sp.rd (k+1) f q=(false,(Sp.rd k (f.drop 1) q).2.1,
 (Sp.rd k (f.drop 1) q).2.2++[(op,((Sp.rd k (f.drop 1) q).2.2.length:Int)-1,((Sp.rd k (f.drop 1) q).2.2.length:Int)-1,[],0,0,[],())]):=by
 rw[Sp.rd,← h,h1];rcases c with rfl|rfl<;>rfl
theorem vI:∀(k:Nat)(w:Sp.LS)(q:List aA),(Sp.rd k w q).2.2.length+2*(Sp.rd k w q).2.1.length<=q.length+2*w.length+1
 |0,w,q=>Nat.le_succ _
 |k+1,w,q=>by
  have hd:(w.drop 1).length=w.length-1:=anI;rcases xW (Sp.wordAt w 0)with h0|⟨hc,_⟩
  .rw[EP h0.symm (.inl rfl)];simp only[anf,anh,anj,hd];omega
  have hne:0<w.length:=by obtain⟨r,e,_⟩:=TQ (w:=w) (by omega);rw[e,anh];omega
  have d2:((w.drop 1).drop 1).length<=w.length-1:=by rw[anI];omega
  have d3:(((w.drop 1).drop 1).drop 1).length<=w.length-1:=by rw[anI];omega
  have i1:=vI k (w.drop 1) q;generalize ho:bU (Sp.wordAt w 0)=op at hc;rcases(show op=1\/(op=2\/op=8\/op=9)\/(op=3\/op=4)\/op=5\/(op=6\/op=7) by omega)with c|c|c|c|c
  .rw[EP ho.symm (.inr c)];simp only[anf,anh,anj,hd];omega
  .rw[Jb ho.symm c];simp only[anf,anh,anj];omega
  .rw[OC ho.symm c];simp only[anf,anh,anj];omega
  .subst c;rw[acz ho.symm];simp only[anf,anh,anj];omega
  .cases h1:(Sp.rd k (w.drop 1) q).1 with
   |true=>
    have i2:=vI k (Sp.rd k (w.drop 1) q).2.1 (Sp.rd k (w.drop 1) q).2.2;rw[TP ho.symm c h1];simp only[anf,anh,anj];omega
   |false=>rw[XT ho.symm c h1];simp only[anf,anh,anj];omega
theorem NW.form{B P:Nat}{w:World}{v:Value}{q:List aA}(h:NW B P w v q):∃a cap,v=.slice a q.length cap:=by
 obtain⟨xs,h1,_,_⟩:=h;rcases h1.2 with⟨e,e2⟩|⟨g,cap,cur,e,_⟩
 .exact⟨none,0,by rw[e,e2]⟩
 .exact⟨_,_,e⟩
theorem Ce{f:Sp.LS}(h:∀x∈f,x.1.length<=1000)(i:Int):(Sp.wordAt f i).length<=1000:=by
 by_cases hh:i<(f.length:Int)
 .rw[jk hh,anm];cases e:f[i.toNat]? with
  |none=>exact ano _
  |some x=>exact h x (anX e)
 .rw[oD (by omega)];exact ano _
theorem pO{f:Sp.LS}(h:∀x∈f,x.1.length<=1000)(i:Nat):∀x∈f.drop i,x.1.length<=1000:=λx hx=>h x (aoq hx)
theorem vJ:∀(k:Nat)(w:Sp.LS)(q:List aA),(∀x∈w,x.1.length<=1000)->∀x∈(Sp.rd k w q).2.1,x.1.length<=1000
 |0,_,_,h=>h
 |k+1,w,q,h=>by
  have i1:=vJ k (w.drop 1) q (pO h 1);rcases xW (Sp.wordAt w 0)with h0|⟨hc,_⟩
  .rw[EP h0.symm (.inl rfl)];exact pO h 1
  generalize ho:bU (Sp.wordAt w 0)=op at hc;rcases(show op=1\/(op=2\/op=8\/op=9)\/(op=3\/op=4)\/op=5\/(op=6\/op=7) by omega)with c|c|c|c|c
  .rw[EP ho.symm (.inr c)];exact pO h 1
  .rw[Jb ho.symm c];exact pO (pO h 1) 1
  .rw[OC ho.symm c];exact pO (pO (pO h 1) 1) 1
  .subst c;rw[acz ho.symm];exact i1
  .cases h1:(Sp.rd k (w.drop 1) q).1 with
   |true=>rw[TP ho.symm c h1];exact vJ k _ _ i1
   |false=>rw[XT ho.symm c h1];exact i1
theorem Si{f:Sp.LS}{op:Int}(h:op=bU (Sp.wordAt f 0))(h0:op≠0):(f.drop 1).length<f.length:=by obtain⟨r,e,_⟩:=TQ (w:=f) (by omega);rw[e];exact aoF _
def Reads(k:Nat):Prop:=∀(B P:Nat)(W:World)(vf vn:Value)(f:Sp.LS)(q:List aA),f.length<k->8<=B->B<=P->G.ok W->W.heap[P]? =some (.cells #[vf,vn] 150 (0,0))->FW B W vf f->NW B P W vn q->
    (∀x∈f,x.1.length<=1000)->q.length+2*f.length+1<=1000->
    Calls prog 133 #[.pointer (some ⟨P,0,none⟩)] W λe w'=>e=.returned (.bool (Sp.rd k f q).1)/\Done B P W vn.ownBlock (Sp.rd k f q).2.1 (Sp.rd k f q).2.2 w'
set_option maxHeartbeats 16000000 in
set_option maxRecDepth 100000 in
theorem ags(k:Nat)(ih:Hid (Reads k)):Reads (k+1):=by
 intro B P W vf vn f q hk U1 D9 hG hP hf hn hfx hq;have mixed:=Tryz.mixed
 go_enter Tryz.func133,Tryz.ntmps133
 go_wp2_with (first
  |(go_at_call 175;refine(xk B P _ vf vn f D9 hP hf).mono ?_;rintro e W1 ⟨rfl,Sj,hf1,hP1,hs1⟩))
 have hG1:=G_step U1 D9 hG hs1 (λb h=>by cases h);have hword:∃word,Hid (word=Sp.wordAt f 0)/\word=Sp.wordAt f 0:=⟨_,rfl,rfl⟩;obtain⟨word,hword,hw2⟩:=hword;rw[← hw2];clear hw2;have alx:P<W1.heap.size:=(anw.1 hP1).1;have hPW:P<W.heap.size:=(anw.1 hP).1
 go_loopw [5] (λi wr=>∃n:Nat,n<=9/\i=.int .i64 ((n+1:Nat):Int)/\wr.heap[W1.heap.size]? =some (.cells (bD (Ea word n) 0 0 [] 0 0 []) 125 (0,0))/\Below W1.heap.size W1 wr)
  (λi _=>10-(intOf i).toNat)
 case atStart=>refine⟨0,by decide,rfl,?_,(Below.alloc (Below.refl _ _) (ann _) _)⟩;exact aog W1 _
 case round=>
  obtain⟨n,hn9,rfl,hrow,hbel⟩:=hrel;rcases anL n 9 with hlt|hge
  .have hlt':((n+1:Nat):Int)<=9:=by omega
   have hGr:G.ok wr:=o9 hG1 hbel;have hz:=bV hrow 0;have e1:Ea word (n+1)=bif word==dW ((n:Int)+1)then(n:Int)+1 else Ea word n:=rfl
   have kw:=aim ((n+1:Nat):Int) (by omega) wr hGr;obtain⟨t,ht,ht2⟩:∃t,Hid (t=dW ((n:Int)+1))/\t=dW ((n+1:Nat):Int):=⟨_,rfl,rfl⟩;rw[← ht2]at kw;clear ht2;by_cases hk:t=word
   .subst hk
    go_wp2_with (first
     |(go_at_call 163;refine kw.mono ?_;rintro e w2 ⟨rfl,hb2⟩;have hrow2:=(hb2.block _ (anw.1 hrow).1).trans hrow;have hz2:=bV hrow2 0;have hc2:=ay hrow2 0))
    all_goals go_roundw
    case measure=>simp only[intOf];omega
    case rel=>refine⟨n+1,hlt,by go_num,(iZ hrow2 0 _).trans ?_,(hbel.trans (hb2.mono (Nat.le_of_lt (anw.1 hrow).1))).setCell (ann _) _⟩;rw[e1,← ht.out,anT];rfl
   .have hk2:(t==word)=false:=ang.2 hk
    go_wp2_with (first
     |(go_at_call 163;refine kw.mono ?_;rintro e w2 ⟨rfl,hb2⟩;have hrow2:=(hb2.block _ (anw.1 hrow).1).trans hrow;have hz2:=bV hrow2 0;have hc2:=ay hrow2 0))
    all_goals go_roundw
    case measure=>simp only[intOf];omega
    case rel=>refine⟨n+1,hlt,by go_num,hrow2.trans ?_,hbel.trans (hb2.mono (Nat.le_of_lt (anw.1 hrow).1))⟩;rw[e1,← ht.out,ang.2 (aoQ hk)];rfl
  .have hge':¬((n+1:Nat):Int)<=9:=by omega
   obtain rfl:n=9:=by omega
   rw[XU]at hrow;have hrg:=XV word;obtain⟨op,hop,hop2⟩:∃op,Hid (op=bU (Sp.wordAt f 0))/\op=bU word:=⟨_,congrArg bU hword.out,rfl⟩;rw[← hop2]at hrow hrg;clear hop2;have hNr:=(anw.1 hrow).1;have hR:F7 B P W1.heap.size W vn.ownBlock wr Sj vn (f.drop 1) q:=by
    have hPr:=(hbel.block _ alx).trans hP1;refine⟨o9 hG1 hbel,hPr,hf1.keep λb hb=>hbel.block b (by omega),hn.keep λg hg=>?_,?_,λg hg=>.inl hg,λe=>?_,hs1.size,hNr,U1,D9,hPW⟩
    .have hgl:=hn.lt hg;exact(hbel.block g (anM hgl.2.1 hs1.size)).trans (hs1.block g hgl.2.1 hgl.2.2 (λe=>by cases e))
    .exact⟨hbel.os.trans hs1.os,hbel.tape.trans hs1.tape,hbel.output.trans hs1.output,ank hs1.size hbel.size,λb hb hbP _=>(hbel.block b (anM hb hs1.size)).trans (hs1.block b hb hbP (λe=>by cases e))⟩
    .have:=(hn.lt e).2.1;have:=hs1.size;omega
   clear hbel hn hf hP hf1 hP1;have hz1:=bV hrow 1;have hz2:=bV hrow 2;have hz3:=bV hrow 3;have hz4:=bV hrow 4;have hz5:=bV hrow 5;have hz6:=bV hrow 6;have AP:=pO hfx 1;have ai4:=pO AP 1;have c0:wr.cell? ⟨W1.heap.size,0,none⟩=some (.int .i64 op):=ay hrow 0;have n0:TN 0:=⟨by decide,by decide⟩;have m0:([]:List UInt8).length<=maxLen:=ano _;rcases(show op=0\/op=1\/op=2\/op=8\/op=9\/op=3\/op=4\/op=5\/op=6\/op=7 by omega)with rfl|rfl|rfl|rfl|rfl|rfl|rfl|rfl|rfl|rfl
   .have he:Hid _:=EP (k:=k) (q:=q) hop.out (by decide);have hx:=qL (op:=0) ⟨by decide,by decide⟩ n0 n0 m0 n0 n0 m0
    go_wp2
    obtain⟨xs,hown,zJ,hrep⟩:=hR.nodes;have c0:wr.cell? ⟨W1.heap.size,0,none⟩=some (.int .i64 (0)):=ay hrow 0;have c1:wr.cell? ⟨W1.heap.size,1,none⟩=some (.int .i64 (0)):=ay hrow 1;have c2:wr.cell? ⟨W1.heap.size,2,none⟩=some (.int .i64 (0)):=ay hrow 2;have c3:wr.cell? ⟨W1.heap.size,3,none⟩=some (.string ⟨([]:List UInt8).toArray⟩):=ay hrow 3;have c4:wr.cell? ⟨W1.heap.size,4,none⟩=some (.int .i64 (0)):=ay hrow 4;have c5:wr.cell? ⟨W1.heap.size,5,none⟩=some (.int .i64 (0)):=ay hrow 5;have c6:wr.cell? ⟨W1.heap.size,6,none⟩=some (.string ⟨([]:List UInt8).toArray⟩):=ay hrow 6;have p1:wr.cell? ⟨P,1,none⟩=some (vn):=ay hR.cells 1;have zP:=bV hR.cells 1;have sU:P<wr.heap.size:=(anw.1 hR.cells).1;have hBr:B<=wr.heap.size:=by omega
    have zk:(q.length+1)*72<=140737488355328:=by omega
    have hqm:q.length+1<=maxLen:=by rw[maxLen_eq];omega
    have iQ:=oG (0) (0) (0) ([]) (0) (0) ([]);obtain⟨i0,hi,hz0,hz1,hz2⟩:=aoW uo
    go_region_law (refine step_append_lies _ rfl (.tmp 84) (.tmp 86) 35 rfl B 125 i0 (.agg (bD 0 0 0 [] 0 0 [])) 7 72 Tryz.underlying35 hi hz0 hz1 hz2 rfl (by decide) (vn) q.length xs (by simp[Act.eval]) ((aos hown).alloc _) ⟨wr.heap.size,0,none⟩ 1 1 (bD (0) (0) (0) ([]) (0) (0) ([])).toList (by simp[Act.eval]) rfl (World.news_of_block (aog _ _)) iQ (by decide) hqm zk (by simp;omega) _ rfl ?_;intro g cap w5 hown5 fJ sV sW;have oV:=(fJ.block P (by simp;omega) (λe=>zJ e.symm)).trans ((heap_alloc_old wr.drew _ sU).trans hR.cells);have k5:w5.cell? ⟨P,1,none⟩=some (vn):=ay oV 1;have z5:=bV oV 1)
    all_goals go_wp2
    all_goals go_ret
    all_goals exact uq he rfl (hR.put (((Below.refl _ wr).drew).alloc (ann _) _) hown hrep hx hown5 fJ sV sW)
   .have he:Hid _:=EP (k:=k) (q:=q) hop.out (by decide);have hx:=qL (op:=1) ⟨by decide,by decide⟩ n0 n0 m0 n0 n0 m0
    go_wp2
    obtain⟨xs,hown,zJ,hrep⟩:=hR.nodes;have c0:wr.cell? ⟨W1.heap.size,0,none⟩=some (.int .i64 (1)):=ay hrow 0;have c1:wr.cell? ⟨W1.heap.size,1,none⟩=some (.int .i64 (0)):=ay hrow 1;have c2:wr.cell? ⟨W1.heap.size,2,none⟩=some (.int .i64 (0)):=ay hrow 2;have c3:wr.cell? ⟨W1.heap.size,3,none⟩=some (.string ⟨([]:List UInt8).toArray⟩):=ay hrow 3;have c4:wr.cell? ⟨W1.heap.size,4,none⟩=some (.int .i64 (0)):=ay hrow 4;have c5:wr.cell? ⟨W1.heap.size,5,none⟩=some (.int .i64 (0)):=ay hrow 5;have c6:wr.cell? ⟨W1.heap.size,6,none⟩=some (.string ⟨([]:List UInt8).toArray⟩):=ay hrow 6;have p1:wr.cell? ⟨P,1,none⟩=some (vn):=ay hR.cells 1;have zP:=bV hR.cells 1;have sU:P<wr.heap.size:=(anw.1 hR.cells).1;have hBr:B<=wr.heap.size:=by omega
    have zk:(q.length+1)*72<=140737488355328:=by omega
    have hqm:q.length+1<=maxLen:=by rw[maxLen_eq];omega
    have iQ:=oG (1) (0) (0) ([]) (0) (0) ([]);obtain⟨i0,hi,hz0,hz1,hz2⟩:=aoW uo
    go_region_law (refine step_append_lies _ rfl (.tmp 84) (.tmp 86) 35 rfl B 125 i0 (.agg (bD 0 0 0 [] 0 0 [])) 7 72 Tryz.underlying35 hi hz0 hz1 hz2 rfl (by decide) (vn) q.length xs (by simp[Act.eval]) ((aos hown).alloc _) ⟨wr.heap.size,0,none⟩ 1 1 (bD (1) (0) (0) ([]) (0) (0) ([])).toList (by simp[Act.eval]) rfl (World.news_of_block (aog _ _)) iQ (by decide) hqm zk (by simp;omega) _ rfl ?_;intro g cap w5 hown5 fJ sV sW;have oV:=(fJ.block P (by simp;omega) (λe=>zJ e.symm)).trans ((heap_alloc_old wr.drew _ sU).trans hR.cells);have k5:w5.cell? ⟨P,1,none⟩=some (vn):=ay oV 1;have z5:=bV oV 1)
    all_goals go_wp2
    all_goals go_ret
    all_goals exact uq he rfl (hR.put (((Below.refl _ wr).drew).alloc (ann _) _) hown hrep hx hown5 fJ sV sW)
   .obtain⟨s2,hs2,hs2'⟩:∃s2,Hid (s2=Sp.wordAt (f.drop 1) 0)/\s2=Sp.wordAt (f.drop 1) 0:=⟨_,rfl,rfl⟩;have nx:=xk B P wr Sj vn (f.drop 1) D9 hR.cells hR.words;have hl2:=Ce AP 0;rw[← hs2']at nx hl2;clear hs2';have he:Hid _:=Jb (k:=k) (q:=q) hop.out (by decide);rw[← hs2.out]at he;have hx:=qL (op:=2) (s:=s2) ⟨by decide,by decide⟩ n0 n0 (by rw[maxLen_eq];omega) n0 n0 m0
    go_wp2_with (first
     |(go_at_call 175;refine nx.mono ?_;rintro e w2 ⟨rfl,Kt,hf2,hP2,hst2⟩;obtain⟨hR2,Eb⟩:=hR.next hf2 hP2 hst2;have hrow2:=Eb.trans hrow;have z3:=bV hrow2 3;have d3:=ay hrow2 3))
    have gZ:=hR2.wV 3 (.string ⟨s2.toArray⟩);have hrow3:(w2.setCell ⟨W1.heap.size,3,none⟩ (.string ⟨s2.toArray⟩)).heap[W1.heap.size]? =some (.cells (bD 2 0 0 s2 0 0 []) 125 (0,0)):=iZ hrow2 3 _;generalize w2.setCell ⟨W1.heap.size,3,none⟩ (.string ⟨s2.toArray⟩)=w3 at gZ hrow3 ⊢;obtain⟨xs,hown,zJ,hrep⟩:=gZ.nodes;have c0:w3.cell? ⟨W1.heap.size,0,none⟩=some (.int .i64 (2)):=ay hrow3 0;have c1:w3.cell? ⟨W1.heap.size,1,none⟩=some (.int .i64 (0)):=ay hrow3 1;have c2:w3.cell? ⟨W1.heap.size,2,none⟩=some (.int .i64 (0)):=ay hrow3 2;have c3:w3.cell? ⟨W1.heap.size,3,none⟩=some (.string ⟨(s2:List UInt8).toArray⟩):=ay hrow3 3;have c4:w3.cell? ⟨W1.heap.size,4,none⟩=some (.int .i64 (0)):=ay hrow3 4;have c5:w3.cell? ⟨W1.heap.size,5,none⟩=some (.int .i64 (0)):=ay hrow3 5;have c6:w3.cell? ⟨W1.heap.size,6,none⟩=some (.string ⟨([]:List UInt8).toArray⟩):=ay hrow3 6;have p1:w3.cell? ⟨P,1,none⟩=some (vn):=ay gZ.cells 1;have zP:=bV gZ.cells 1;have sU:P<w3.heap.size:=(anw.1 gZ.cells).1;have hBr:B<=w3.heap.size:=by omega
    have zk:(q.length+1)*72<=140737488355328:=by omega
    have hqm:q.length+1<=maxLen:=by rw[maxLen_eq];omega
    have iQ:=oG (2) (0) (0) (s2) (0) (0) ([]);obtain⟨i0,hi,hz0,hz1,hz2⟩:=aoW uo
    go_region_law (refine step_append_lies _ rfl (.tmp 84) (.tmp 86) 35 rfl B 125 i0 (.agg (bD 0 0 0 [] 0 0 [])) 7 72 Tryz.underlying35 hi hz0 hz1 hz2 rfl (by decide) (vn) q.length xs (by simp[Act.eval]) ((aos hown).alloc _) ⟨w3.heap.size,0,none⟩ 1 1 (bD (2) (0) (0) (s2) (0) (0) ([])).toList (by simp[Act.eval]) rfl (World.news_of_block (aog _ _)) iQ (by decide) hqm zk (by simp;omega) _ rfl ?_;intro g cap w5 hown5 fJ sV sW;have oV:=(fJ.block P (by simp;omega) (λe=>zJ e.symm)).trans ((heap_alloc_old w3.drew _ sU).trans gZ.cells);have k5:w5.cell? ⟨P,1,none⟩=some (vn):=ay oV 1;have z5:=bV oV 1)
    all_goals go_wp2
    all_goals go_ret
    all_goals exact uq he rfl (gZ.put (((Below.refl _ w3).drew).alloc (ann _) _) hown hrep hx hown5 fJ sV sW)
   .obtain⟨s2,hs2,hs2'⟩:∃s2,Hid (s2=Sp.wordAt (f.drop 1) 0)/\s2=Sp.wordAt (f.drop 1) 0:=⟨_,rfl,rfl⟩;have nx:=xk B P wr Sj vn (f.drop 1) D9 hR.cells hR.words;have hl2:=Ce AP 0;rw[← hs2']at nx hl2;clear hs2';have he:Hid _:=Jb (k:=k) (q:=q) hop.out (by decide);rw[← hs2.out]at he;have hx:=qL (op:=8) (s:=s2) ⟨by decide,by decide⟩ n0 n0 (by rw[maxLen_eq];omega) n0 n0 m0
    go_wp2_with (first
     |(go_at_call 175;refine nx.mono ?_;rintro e w2 ⟨rfl,Kt,hf2,hP2,hst2⟩;obtain⟨hR2,Eb⟩:=hR.next hf2 hP2 hst2;have hrow2:=Eb.trans hrow;have z3:=bV hrow2 3;have d3:=ay hrow2 3))
    have gZ:=hR2.wV 3 (.string ⟨s2.toArray⟩);have hrow3:(w2.setCell ⟨W1.heap.size,3,none⟩ (.string ⟨s2.toArray⟩)).heap[W1.heap.size]? =some (.cells (bD 8 0 0 s2 0 0 []) 125 (0,0)):=iZ hrow2 3 _;generalize w2.setCell ⟨W1.heap.size,3,none⟩ (.string ⟨s2.toArray⟩)=w3 at gZ hrow3 ⊢;obtain⟨xs,hown,zJ,hrep⟩:=gZ.nodes;have c0:w3.cell? ⟨W1.heap.size,0,none⟩=some (.int .i64 (8)):=ay hrow3 0;have c1:w3.cell? ⟨W1.heap.size,1,none⟩=some (.int .i64 (0)):=ay hrow3 1;have c2:w3.cell? ⟨W1.heap.size,2,none⟩=some (.int .i64 (0)):=ay hrow3 2;have c3:w3.cell? ⟨W1.heap.size,3,none⟩=some (.string ⟨(s2:List UInt8).toArray⟩):=ay hrow3 3;have c4:w3.cell? ⟨W1.heap.size,4,none⟩=some (.int .i64 (0)):=ay hrow3 4;have c5:w3.cell? ⟨W1.heap.size,5,none⟩=some (.int .i64 (0)):=ay hrow3 5;have c6:w3.cell? ⟨W1.heap.size,6,none⟩=some (.string ⟨([]:List UInt8).toArray⟩):=ay hrow3 6;have p1:w3.cell? ⟨P,1,none⟩=some (vn):=ay gZ.cells 1;have zP:=bV gZ.cells 1;have sU:P<w3.heap.size:=(anw.1 gZ.cells).1;have hBr:B<=w3.heap.size:=by omega
    have zk:(q.length+1)*72<=140737488355328:=by omega
    have hqm:q.length+1<=maxLen:=by rw[maxLen_eq];omega
    have iQ:=oG (8) (0) (0) (s2) (0) (0) ([]);obtain⟨i0,hi,hz0,hz1,hz2⟩:=aoW uo
    go_region_law (refine step_append_lies _ rfl (.tmp 84) (.tmp 86) 35 rfl B 125 i0 (.agg (bD 0 0 0 [] 0 0 [])) 7 72 Tryz.underlying35 hi hz0 hz1 hz2 rfl (by decide) (vn) q.length xs (by simp[Act.eval]) ((aos hown).alloc _) ⟨w3.heap.size,0,none⟩ 1 1 (bD (8) (0) (0) (s2) (0) (0) ([])).toList (by simp[Act.eval]) rfl (World.news_of_block (aog _ _)) iQ (by decide) hqm zk (by simp;omega) _ rfl ?_;intro g cap w5 hown5 fJ sV sW;have oV:=(fJ.block P (by simp;omega) (λe=>zJ e.symm)).trans ((heap_alloc_old w3.drew _ sU).trans gZ.cells);have k5:w5.cell? ⟨P,1,none⟩=some (vn):=ay oV 1;have z5:=bV oV 1)
    all_goals go_wp2
    all_goals go_ret
    all_goals exact uq he rfl (gZ.put (((Below.refl _ w3).drew).alloc (ann _) _) hown hrep hx hown5 fJ sV sW)
   .obtain⟨s2,hs2,hs2'⟩:∃s2,Hid (s2=Sp.wordAt (f.drop 1) 0)/\s2=Sp.wordAt (f.drop 1) 0:=⟨_,rfl,rfl⟩;have nx:=xk B P wr Sj vn (f.drop 1) D9 hR.cells hR.words;have hl2:=Ce AP 0;rw[← hs2']at nx hl2;clear hs2';have he:Hid _:=Jb (k:=k) (q:=q) hop.out (by decide);rw[← hs2.out]at he;have hx:=qL (op:=9) (s:=s2) ⟨by decide,by decide⟩ n0 n0 (by rw[maxLen_eq];omega) n0 n0 m0
    go_wp2_with (first
     |(go_at_call 175;refine nx.mono ?_;rintro e w2 ⟨rfl,Kt,hf2,hP2,hst2⟩;obtain⟨hR2,Eb⟩:=hR.next hf2 hP2 hst2;have hrow2:=Eb.trans hrow;have z3:=bV hrow2 3;have d3:=ay hrow2 3))
    have gZ:=hR2.wV 3 (.string ⟨s2.toArray⟩);have hrow3:(w2.setCell ⟨W1.heap.size,3,none⟩ (.string ⟨s2.toArray⟩)).heap[W1.heap.size]? =some (.cells (bD 9 0 0 s2 0 0 []) 125 (0,0)):=iZ hrow2 3 _;generalize w2.setCell ⟨W1.heap.size,3,none⟩ (.string ⟨s2.toArray⟩)=w3 at gZ hrow3 ⊢;obtain⟨xs,hown,zJ,hrep⟩:=gZ.nodes;have c0:w3.cell? ⟨W1.heap.size,0,none⟩=some (.int .i64 (9)):=ay hrow3 0;have c1:w3.cell? ⟨W1.heap.size,1,none⟩=some (.int .i64 (0)):=ay hrow3 1;have c2:w3.cell? ⟨W1.heap.size,2,none⟩=some (.int .i64 (0)):=ay hrow3 2;have c3:w3.cell? ⟨W1.heap.size,3,none⟩=some (.string ⟨(s2:List UInt8).toArray⟩):=ay hrow3 3;have c4:w3.cell? ⟨W1.heap.size,4,none⟩=some (.int .i64 (0)):=ay hrow3 4;have c5:w3.cell? ⟨W1.heap.size,5,none⟩=some (.int .i64 (0)):=ay hrow3 5;have c6:w3.cell? ⟨W1.heap.size,6,none⟩=some (.string ⟨([]:List UInt8).toArray⟩):=ay hrow3 6;have p1:w3.cell? ⟨P,1,none⟩=some (vn):=ay gZ.cells 1;have zP:=bV gZ.cells 1;have sU:P<w3.heap.size:=(anw.1 gZ.cells).1;have hBr:B<=w3.heap.size:=by omega
    have zk:(q.length+1)*72<=140737488355328:=by omega
    have hqm:q.length+1<=maxLen:=by rw[maxLen_eq];omega
    have iQ:=oG (9) (0) (0) (s2) (0) (0) ([]);obtain⟨i0,hi,hz0,hz1,hz2⟩:=aoW uo
    go_region_law (refine step_append_lies _ rfl (.tmp 84) (.tmp 86) 35 rfl B 125 i0 (.agg (bD 0 0 0 [] 0 0 [])) 7 72 Tryz.underlying35 hi hz0 hz1 hz2 rfl (by decide) (vn) q.length xs (by simp[Act.eval]) ((aos hown).alloc _) ⟨w3.heap.size,0,none⟩ 1 1 (bD (9) (0) (0) (s2) (0) (0) ([])).toList (by simp[Act.eval]) rfl (World.news_of_block (aog _ _)) iQ (by decide) hqm zk (by simp;omega) _ rfl ?_;intro g cap w5 hown5 fJ sV sW;have oV:=(fJ.block P (by simp;omega) (λe=>zJ e.symm)).trans ((heap_alloc_old w3.drew _ sU).trans gZ.cells);have k5:w5.cell? ⟨P,1,none⟩=some (vn):=ay oV 1;have z5:=bV oV 1)
    all_goals go_wp2
    all_goals go_ret
    all_goals exact uq he rfl (gZ.put (((Below.refl _ w3).drew).alloc (ann _) _) hown hrep hx hown5 fJ sV sW)
   .obtain⟨s2,hs2,hs2'⟩:∃s2,Hid (s2=Sp.wordAt (f.drop 1) 0)/\s2=Sp.wordAt (f.drop 1) 0:=⟨_,rfl,rfl⟩;obtain⟨s3,hs3,acA⟩:∃s3,Hid (s3=Sp.wordAt ((f.drop 1).drop 1) 0)/\s3=Sp.wordAt ((f.drop 1).drop 1) 0:=⟨_,rfl,rfl⟩;have nx:=xk B P wr Sj vn (f.drop 1) D9 hR.cells hR.words;have hl2:=Ce AP 0;have hl3:=Ce ai4 0;rw[← hs2']at nx hl2;rw[← acA]at hl3;clear hs2' acA;have he:Hid _:=OC (k:=k) (q:=q) hop.out (by decide);rw[← hs2.out,← hs3.out]at he;have pv:=aek s3 (by omega);generalize aY s3=z at he pv;obtain⟨⟨v1,v2,v3,⟨⟩⟩,ok⟩:=z;dsimp only at pv
    go_wp2_with (first
     |(go_at_call 175;refine nx.mono ?_;rintro e w2 ⟨rfl,Kt,hf2,hP2,hst2⟩;obtain⟨hR2,Eb⟩:=hR.next hf2 hP2 hst2;have hrow2:=Eb.trans hrow;have z3:=bV hrow2 3;have d3:=ay hrow2 3;clear nx)
     |(have gZ:=hR2.wV 3 (.string ⟨s2.toArray⟩);have hrow3:(w2.setCell ⟨W1.heap.size,3,none⟩ (.string ⟨s2.toArray⟩)).heap[W1.heap.size]? =some (.cells (bD 3 0 0 s2 0 0 []) 125 (0,0)):=iZ hrow2 3 _;have nx2:=xk B P _ Kt vn ((f.drop 1).drop 1) D9 gZ.cells gZ.words;rw[← hs3.out]at nx2;go_at_call 175;refine nx2.mono ?_;rintro e w4 ⟨rfl,vf4,hf4,hP4,ahb⟩;obtain⟨Jc,hN4⟩:=gZ.next hf4 hP4 ahb;have hrow4:=hN4.trans hrow3;clear nx2)
     |(go_at_call 132;refine(pv _ Jc.gl).mono ?_;rintro e w6 ⟨rfl,hb6,hv1,hv2,hv3⟩;have hR6:=Jc.below hb6;have xX:=(hb6.block _ Jc.lt).trans hrow4;have y4:=bV xX 4;have y5:=bV xX 5;have y6:=bV xX 6;have x4:w6.cell? ⟨W1.heap.size,4,none⟩=some (.int .i64 0):=ay xX 4;have x5:w6.cell? ⟨W1.heap.size,5,none⟩=some (.int .i64 0):=ay xX 5;have x6:w6.cell? ⟨W1.heap.size,6,none⟩=some (.string ⟨([]:List UInt8).toArray⟩):=ay xX 6))
    have Jd:=((hR6.wV 4 (.int .i64 v1)).wV 5 (.int .i64 v2)).wV 6 (.string ⟨v3.toArray⟩);have uY:(((w6.setCell ⟨W1.heap.size,4,none⟩ (.int .i64 v1)).setCell ⟨W1.heap.size,5,none⟩ (.int .i64 v2)).setCell ⟨W1.heap.size,6,none⟩ (.string ⟨v3.toArray⟩)).heap[W1.heap.size]? =some (.cells (bD 3 0 0 s2 v1 v2 v3) 125 (0,0)):=iZ (iZ (iZ xX 4 _) 5 _) 6 _;have hx:=qL (op:=3) (s:=s2) ⟨by decide,by decide⟩ n0 n0 (by rw[maxLen_eq];omega) hv1 hv2 hv3;generalize ((w6.setCell ⟨W1.heap.size,4,none⟩ (.int .i64 v1)).setCell ⟨W1.heap.size,5,none⟩ (.int .i64 v2)).setCell ⟨W1.heap.size,6,none⟩ (.string ⟨v3.toArray⟩)=w7 at Jd uY ⊢;clear x4 x5 x6 y4 y5 y6 d3 z3;obtain⟨xs,hown,zJ,hrep⟩:=Jd.nodes;have c0:w7.cell? ⟨W1.heap.size,0,none⟩=some (.int .i64 (3)):=ay uY 0;have c1:w7.cell? ⟨W1.heap.size,1,none⟩=some (.int .i64 (0)):=ay uY 1;have c2:w7.cell? ⟨W1.heap.size,2,none⟩=some (.int .i64 (0)):=ay uY 2;have c3:w7.cell? ⟨W1.heap.size,3,none⟩=some (.string ⟨(s2:List UInt8).toArray⟩):=ay uY 3;have c4:w7.cell? ⟨W1.heap.size,4,none⟩=some (.int .i64 (v1)):=ay uY 4;have c5:w7.cell? ⟨W1.heap.size,5,none⟩=some (.int .i64 (v2)):=ay uY 5;have c6:w7.cell? ⟨W1.heap.size,6,none⟩=some (.string ⟨(v3:List UInt8).toArray⟩):=ay uY 6;have p1:w7.cell? ⟨P,1,none⟩=some (vn):=ay Jd.cells 1;have zP:=bV Jd.cells 1;have sU:P<w7.heap.size:=(anw.1 Jd.cells).1;have hBr:B<=w7.heap.size:=by omega
    have zk:(q.length+1)*72<=140737488355328:=by omega
    have hqm:q.length+1<=maxLen:=by rw[maxLen_eq];omega
    have iQ:=oG (3) (0) (0) (s2) (v1) (v2) (v3);obtain⟨i0,hi,hz0,hz1,hz2⟩:=aoW uo
    go_region_law (refine step_append_lies _ rfl (.tmp 84) (.tmp 86) 35 rfl B 125 i0 (.agg (bD 0 0 0 [] 0 0 [])) 7 72 Tryz.underlying35 hi hz0 hz1 hz2 rfl (by decide) (vn) q.length xs (by simp[Act.eval]) ((aos hown).alloc _) ⟨w7.heap.size,0,none⟩ 1 1 (bD (3) (0) (0) (s2) (v1) (v2) (v3)).toList (by simp[Act.eval]) rfl (World.news_of_block (aog _ _)) iQ (by decide) hqm zk (by simp;omega) _ rfl ?_;intro g cap w5 hown5 fJ sV sW;have oV:=(fJ.block P (by simp;omega) (λe=>zJ e.symm)).trans ((heap_alloc_old w7.drew _ sU).trans Jd.cells);have k5:w5.cell? ⟨P,1,none⟩=some (vn):=ay oV 1;have z5:=bV oV 1)
    all_goals go_wp2
    all_goals go_ret
    all_goals exact uq he rfl (Jd.put (((Below.refl _ w7).drew).alloc (ann _) _) hown hrep hx hown5 fJ sV sW)
   .obtain⟨s2,hs2,hs2'⟩:∃s2,Hid (s2=Sp.wordAt (f.drop 1) 0)/\s2=Sp.wordAt (f.drop 1) 0:=⟨_,rfl,rfl⟩;obtain⟨s3,hs3,acA⟩:∃s3,Hid (s3=Sp.wordAt ((f.drop 1).drop 1) 0)/\s3=Sp.wordAt ((f.drop 1).drop 1) 0:=⟨_,rfl,rfl⟩;have nx:=xk B P wr Sj vn (f.drop 1) D9 hR.cells hR.words;have hl2:=Ce AP 0;have hl3:=Ce ai4 0;rw[← hs2']at nx hl2;rw[← acA]at hl3;clear hs2' acA;have he:Hid _:=OC (k:=k) (q:=q) hop.out (by decide);rw[← hs2.out,← hs3.out]at he;have pv:=aek s3 (by omega);generalize aY s3=z at he pv;obtain⟨⟨v1,v2,v3,⟨⟩⟩,ok⟩:=z;dsimp only at pv
    go_wp2_with (first
     |(go_at_call 175;refine nx.mono ?_;rintro e w2 ⟨rfl,Kt,hf2,hP2,hst2⟩;obtain⟨hR2,Eb⟩:=hR.next hf2 hP2 hst2;have hrow2:=Eb.trans hrow;have z3:=bV hrow2 3;have d3:=ay hrow2 3;clear nx)
     |(have gZ:=hR2.wV 3 (.string ⟨s2.toArray⟩);have hrow3:(w2.setCell ⟨W1.heap.size,3,none⟩ (.string ⟨s2.toArray⟩)).heap[W1.heap.size]? =some (.cells (bD 4 0 0 s2 0 0 []) 125 (0,0)):=iZ hrow2 3 _;have nx2:=xk B P _ Kt vn ((f.drop 1).drop 1) D9 gZ.cells gZ.words;rw[← hs3.out]at nx2;go_at_call 175;refine nx2.mono ?_;rintro e w4 ⟨rfl,vf4,hf4,hP4,ahb⟩;obtain⟨Jc,hN4⟩:=gZ.next hf4 hP4 ahb;have hrow4:=hN4.trans hrow3;clear nx2)
     |(go_at_call 132;refine(pv _ Jc.gl).mono ?_;rintro e w6 ⟨rfl,hb6,hv1,hv2,hv3⟩;have hR6:=Jc.below hb6;have xX:=(hb6.block _ Jc.lt).trans hrow4;have y4:=bV xX 4;have y5:=bV xX 5;have y6:=bV xX 6;have x4:w6.cell? ⟨W1.heap.size,4,none⟩=some (.int .i64 0):=ay xX 4;have x5:w6.cell? ⟨W1.heap.size,5,none⟩=some (.int .i64 0):=ay xX 5;have x6:w6.cell? ⟨W1.heap.size,6,none⟩=some (.string ⟨([]:List UInt8).toArray⟩):=ay xX 6))
    have Jd:=((hR6.wV 4 (.int .i64 v1)).wV 5 (.int .i64 v2)).wV 6 (.string ⟨v3.toArray⟩);have uY:(((w6.setCell ⟨W1.heap.size,4,none⟩ (.int .i64 v1)).setCell ⟨W1.heap.size,5,none⟩ (.int .i64 v2)).setCell ⟨W1.heap.size,6,none⟩ (.string ⟨v3.toArray⟩)).heap[W1.heap.size]? =some (.cells (bD 4 0 0 s2 v1 v2 v3) 125 (0,0)):=iZ (iZ (iZ xX 4 _) 5 _) 6 _;have hx:=qL (op:=4) (s:=s2) ⟨by decide,by decide⟩ n0 n0 (by rw[maxLen_eq];omega) hv1 hv2 hv3;generalize ((w6.setCell ⟨W1.heap.size,4,none⟩ (.int .i64 v1)).setCell ⟨W1.heap.size,5,none⟩ (.int .i64 v2)).setCell ⟨W1.heap.size,6,none⟩ (.string ⟨v3.toArray⟩)=w7 at Jd uY ⊢;clear x4 x5 x6 y4 y5 y6 d3 z3;obtain⟨xs,hown,zJ,hrep⟩:=Jd.nodes;have c0:w7.cell? ⟨W1.heap.size,0,none⟩=some (.int .i64 (4)):=ay uY 0;have c1:w7.cell? ⟨W1.heap.size,1,none⟩=some (.int .i64 (0)):=ay uY 1;have c2:w7.cell? ⟨W1.heap.size,2,none⟩=some (.int .i64 (0)):=ay uY 2;have c3:w7.cell? ⟨W1.heap.size,3,none⟩=some (.string ⟨(s2:List UInt8).toArray⟩):=ay uY 3;have c4:w7.cell? ⟨W1.heap.size,4,none⟩=some (.int .i64 (v1)):=ay uY 4;have c5:w7.cell? ⟨W1.heap.size,5,none⟩=some (.int .i64 (v2)):=ay uY 5;have c6:w7.cell? ⟨W1.heap.size,6,none⟩=some (.string ⟨(v3:List UInt8).toArray⟩):=ay uY 6;have p1:w7.cell? ⟨P,1,none⟩=some (vn):=ay Jd.cells 1;have zP:=bV Jd.cells 1;have sU:P<w7.heap.size:=(anw.1 Jd.cells).1;have hBr:B<=w7.heap.size:=by omega
    have zk:(q.length+1)*72<=140737488355328:=by omega
    have hqm:q.length+1<=maxLen:=by rw[maxLen_eq];omega
    have iQ:=oG (4) (0) (0) (s2) (v1) (v2) (v3);obtain⟨i0,hi,hz0,hz1,hz2⟩:=aoW uo
    go_region_law (refine step_append_lies _ rfl (.tmp 84) (.tmp 86) 35 rfl B 125 i0 (.agg (bD 0 0 0 [] 0 0 [])) 7 72 Tryz.underlying35 hi hz0 hz1 hz2 rfl (by decide) (vn) q.length xs (by simp[Act.eval]) ((aos hown).alloc _) ⟨w7.heap.size,0,none⟩ 1 1 (bD (4) (0) (0) (s2) (v1) (v2) (v3)).toList (by simp[Act.eval]) rfl (World.news_of_block (aog _ _)) iQ (by decide) hqm zk (by simp;omega) _ rfl ?_;intro g cap w5 hown5 fJ sV sW;have oV:=(fJ.block P (by simp;omega) (λe=>zJ e.symm)).trans ((heap_alloc_old w7.drew _ sU).trans Jd.cells);have k5:w5.cell? ⟨P,1,none⟩=some (vn):=ay oV 1;have z5:=bV oV 1)
    all_goals go_wp2
    all_goals go_ret
    all_goals exact uq he rfl (Jd.put (((Below.refl _ w7).drew).alloc (ann _) _) hown hrep hx hown5 fJ sV sW)
   .have he:Hid _:=acz (k:=k) (q:=q) hop.out;have hcnt:=vI k (f.drop 1) q;have hrl:=Je k (f.drop 1) q;have hwl:=vJ k (f.drop 1) q AP;have hlp:=Si hop.out (by decide);have nd:=ih.out B P wr Sj vn (f.drop 1) q (by omega) U1 D9 hR.gl hR.cells hR.words hR.nodes AP (by omega);generalize Sp.rd k (f.drop 1) q=z at he nd hcnt hwl hrl;obtain⟨b1,f2,q2⟩:=z;dsimp only at nd hcnt hwl
    go_wp2_with (first
     |(go_at_call 133;refine nd.mono ?_;rintro e w2 ⟨rfl,hd⟩;obtain⟨⟨Kt,vn2,hR2⟩,Eb⟩:=hR.read hd;obtain⟨a2,cap2,OD⟩:=hR2.nodes.form;subst OD;have hrow2:=Eb.trans hrow;have p2:w2.cell? ⟨P,1,none⟩=some (.slice a2 q2.length cap2):=ay hR2.cells 1;have y1:=bV hrow2 1;have x1:w2.cell? ⟨W1.heap.size,1,none⟩=some (.int .i64 0):=ay hrow2 1;clear nd))
    have gZ:=hR2.wV 1 (.int .i64 ((q2.length:Int)-1));have hrow3:(w2.setCell ⟨W1.heap.size,1,none⟩ (.int .i64 ((q2.length:Int)-1))).heap[W1.heap.size]? =some (.cells (bD 5 ((q2.length:Int)-1) 0 [] 0 0 []) 125 (0,0)):=iZ hrow2 1 _;have hx:=qL (op:=5) (l:=(q2.length:Int)-1) ⟨by decide,by decide⟩ ⟨by omega,by omega⟩ n0 m0 n0 n0 m0;generalize w2.setCell ⟨W1.heap.size,1,none⟩ (.int .i64 ((q2.length:Int)-1))=w3 at gZ hrow3 ⊢;clear x1 y1 p2;obtain⟨xs,hown,zJ,hrep⟩:=gZ.nodes;have c0:w3.cell? ⟨W1.heap.size,0,none⟩=some (.int .i64 (5)):=ay hrow3 0;have c1:w3.cell? ⟨W1.heap.size,1,none⟩=some (.int .i64 ((q2.length:Int)-1)):=ay hrow3 1;have c2:w3.cell? ⟨W1.heap.size,2,none⟩=some (.int .i64 (0)):=ay hrow3 2;have c3:w3.cell? ⟨W1.heap.size,3,none⟩=some (.string ⟨([]:List UInt8).toArray⟩):=ay hrow3 3;have c4:w3.cell? ⟨W1.heap.size,4,none⟩=some (.int .i64 (0)):=ay hrow3 4;have c5:w3.cell? ⟨W1.heap.size,5,none⟩=some (.int .i64 (0)):=ay hrow3 5;have c6:w3.cell? ⟨W1.heap.size,6,none⟩=some (.string ⟨([]:List UInt8).toArray⟩):=ay hrow3 6;have p1:w3.cell? ⟨P,1,none⟩=some (.slice a2 q2.length cap2):=ay gZ.cells 1;have zP:=bV gZ.cells 1;have sU:P<w3.heap.size:=(anw.1 gZ.cells).1;have hBr:B<=w3.heap.size:=by omega
    have zk:(q2.length+1)*72<=140737488355328:=by omega
    have hqm:q2.length+1<=maxLen:=by rw[maxLen_eq];omega
    have iQ:=oG (5) ((q2.length:Int)-1) (0) ([]) (0) (0) ([]);obtain⟨i0,hi,hz0,hz1,hz2⟩:=aoW uo
    go_region_law (refine step_append_lies _ rfl (.tmp 84) (.tmp 86) 35 rfl B 125 i0 (.agg (bD 0 0 0 [] 0 0 [])) 7 72 Tryz.underlying35 hi hz0 hz1 hz2 rfl (by decide) (.slice a2 q2.length cap2) q2.length xs (by simp[Act.eval]) ((aos hown).alloc _) ⟨w3.heap.size,0,none⟩ 1 1 (bD (5) ((q2.length:Int)-1) (0) ([]) (0) (0) ([])).toList (by simp[Act.eval]) rfl (World.news_of_block (aog _ _)) iQ (by decide) hqm zk (by simp;omega) _ rfl ?_;intro g cap w5 hown5 fJ sV sW;have oV:=(fJ.block P (by simp;omega) (λe=>zJ e.symm)).trans ((heap_alloc_old w3.drew _ sU).trans gZ.cells);have k5:w5.cell? ⟨P,1,none⟩=some (.slice a2 q2.length cap2):=ay oV 1;have z5:=bV oV 1)
    all_goals go_wp2
    all_goals go_ret
    all_goals exact uq he rfl (gZ.put (((Below.refl _ w3).drew).alloc (ann _) _) hown hrep hx hown5 fJ sV sW)
   .cases hb1:(Sp.rd k (f.drop 1) q).1 with
    |false=>
     have he:Hid _:=XT (k:=k) (q:=q) hop.out (by decide) hb1;have hcnt:=vI k (f.drop 1) q;have hrl:=Je k (f.drop 1) q;have hwl:=vJ k (f.drop 1) q AP;have hlp:=Si hop.out (by decide);have nd:=ih.out B P wr Sj vn (f.drop 1) q (by omega) U1 D9 hR.gl hR.cells hR.words hR.nodes AP (by omega);generalize Sp.rd k (f.drop 1) q=z at he nd hcnt hwl hrl hb1;obtain⟨b1,f2,q2⟩:=z;dsimp only at nd hcnt hwl hrl hb1;subst hb1
     go_wp2_with (first
      |(go_at_call 133;refine nd.mono ?_;rintro e w2 ⟨rfl,hd⟩;obtain⟨⟨Kt,vn2,hR2⟩,Eb⟩:=hR.read hd;obtain⟨a2,cap2,OD⟩:=hR2.nodes.form;subst OD;have hrow2:=Eb.trans hrow;have p2:w2.cell? ⟨P,1,none⟩=some (.slice a2 q2.length cap2):=ay hR2.cells 1;have y1:=bV hrow2 1;have x1:w2.cell? ⟨W1.heap.size,1,none⟩=some (.int .i64 0):=ay hrow2 1;have y2:=bV hrow2 2;have x2:w2.cell? ⟨W1.heap.size,2,none⟩=some (.int .i64 0):=ay hrow2 2;clear nd))
     have gZ:=(hR2.wV 1 (.int .i64 ((q2.length:Int)-1))).wV 2 (.int .i64 ((q2.length:Int)-1));have hrow3:((w2.setCell ⟨W1.heap.size,1,none⟩ (.int .i64 ((q2.length:Int)-1))).setCell ⟨W1.heap.size,2,none⟩ (.int .i64 ((q2.length:Int)-1))).heap[W1.heap.size]? =some (.cells (bD 6 ((q2.length:Int)-1) ((q2.length:Int)-1) [] 0 0 []) 125 (0,0)):=iZ (iZ hrow2 1 _) 2 _;have hx:=qL (op:=6) (l:=((q2.length:Int)-1)) (r:=((q2.length:Int)-1)) ⟨by decide,by decide⟩ ⟨by omega,by omega⟩ ⟨by omega,by omega⟩ m0 n0 n0 m0;generalize (w2.setCell ⟨W1.heap.size,1,none⟩ (.int .i64 ((q2.length:Int)-1))).setCell ⟨W1.heap.size,2,none⟩ (.int .i64 ((q2.length:Int)-1))=w3 at gZ hrow3 ⊢;clear x1 y1 x2 y2 p2;obtain⟨xs,hown,zJ,hrep⟩:=gZ.nodes;have c0:w3.cell? ⟨W1.heap.size,0,none⟩=some (.int .i64 (6)):=ay hrow3 0;have c1:w3.cell? ⟨W1.heap.size,1,none⟩=some (.int .i64 ((q2.length:Int)-1)):=ay hrow3 1;have c2:w3.cell? ⟨W1.heap.size,2,none⟩=some (.int .i64 ((q2.length:Int)-1)):=ay hrow3 2;have c3:w3.cell? ⟨W1.heap.size,3,none⟩=some (.string ⟨([]:List UInt8).toArray⟩):=ay hrow3 3;have c4:w3.cell? ⟨W1.heap.size,4,none⟩=some (.int .i64 (0)):=ay hrow3 4;have c5:w3.cell? ⟨W1.heap.size,5,none⟩=some (.int .i64 (0)):=ay hrow3 5;have c6:w3.cell? ⟨W1.heap.size,6,none⟩=some (.string ⟨([]:List UInt8).toArray⟩):=ay hrow3 6;have p1:w3.cell? ⟨P,1,none⟩=some (.slice a2 q2.length cap2):=ay gZ.cells 1;have zP:=bV gZ.cells 1;have sU:P<w3.heap.size:=(anw.1 gZ.cells).1;have hBr:B<=w3.heap.size:=by omega
     have zk:(q2.length+1)*72<=140737488355328:=by omega
     have hqm:q2.length+1<=maxLen:=by rw[maxLen_eq];omega
     have iQ:=oG (6) ((q2.length:Int)-1) ((q2.length:Int)-1) ([]) (0) (0) ([]);obtain⟨i0,hi,hz0,hz1,hz2⟩:=aoW uo
     go_region_law (refine step_append_lies _ rfl (.tmp 84) (.tmp 86) 35 rfl B 125 i0 (.agg (bD 0 0 0 [] 0 0 [])) 7 72 Tryz.underlying35 hi hz0 hz1 hz2 rfl (by decide) (.slice a2 q2.length cap2) q2.length xs (by simp[Act.eval]) ((aos hown).alloc _) ⟨w3.heap.size,0,none⟩ 1 1 (bD (6) ((q2.length:Int)-1) ((q2.length:Int)-1) ([]) (0) (0) ([])).toList (by simp[Act.eval]) rfl (World.news_of_block (aog _ _)) iQ (by decide) hqm zk (by simp;omega) _ rfl ?_;intro g cap w5 hown5 fJ sV sW;have oV:=(fJ.block P (by simp;omega) (λe=>zJ e.symm)).trans ((heap_alloc_old w3.drew _ sU).trans gZ.cells);have k5:w5.cell? ⟨P,1,none⟩=some (.slice a2 q2.length cap2):=ay oV 1;have z5:=bV oV 1)
     all_goals go_wp2
     all_goals go_ret
     all_goals exact uq he rfl (gZ.put (((Below.refl _ w3).drew).alloc (ann _) _) hown hrep hx hown5 fJ sV sW)
    |true=>
     have he:Hid _:=TP (k:=k) (q:=q) hop.out (by decide) hb1;have hcnt:=vI k (f.drop 1) q;have hrl:=Je k (f.drop 1) q;have hwl:=vJ k (f.drop 1) q AP;have hlp:=Si hop.out (by decide);have nd:=ih.out B P wr Sj vn (f.drop 1) q (by omega) U1 D9 hR.gl hR.cells hR.words hR.nodes AP (by omega);generalize Sp.rd k (f.drop 1) q=z at he nd hcnt hwl hrl hb1;obtain⟨b1,f2,q2⟩:=z;dsimp only at he nd hcnt hwl hrl hb1;subst hb1;have XW:=λ(w:World)(GX XR:Value)(hr:F7 B P W1.heap.size W vn.ownBlock w GX XR f2 q2)=>ih.out B P w GX XR f2 q2 (by omega) U1 D9 hr.gl hr.cells hr.words hr.nodes hwl (by omega);have hcnt2:=vI k f2 q2;generalize Sp.rd k f2 q2=z2 at he XW hcnt2;obtain⟨b2,f3,q3⟩:=z2;dsimp only at he XW hcnt2
     go_wp2_with (first
      |(go_at_call 133;refine nd.mono ?_;rintro e w2 ⟨rfl,hd⟩;obtain⟨⟨Kt,vn2,hR2⟩,Eb⟩:=hR.read hd;obtain⟨a2,cap2,OD⟩:=hR2.nodes.form;subst OD;have hrow2:=Eb.trans hrow;have p2:w2.cell? ⟨P,1,none⟩=some (.slice a2 q2.length cap2):=ay hR2.cells 1;have y1:=bV hrow2 1;have x1:w2.cell? ⟨W1.heap.size,1,none⟩=some (.int .i64 0):=ay hrow2 1;clear nd)
      |(have gZ:=hR2.wV 1 (.int .i64 ((q2.length:Int)-1));have hrow3:(w2.setCell ⟨W1.heap.size,1,none⟩ (.int .i64 ((q2.length:Int)-1))).heap[W1.heap.size]? =some (.cells (bD 6 ((q2.length:Int)-1) 0 [] 0 0 []) 125 (0,0)):=iZ hrow2 1 _;go_at_call 133;refine(XW _ _ _ gZ).mono ?_;rintro e w4 ⟨rfl,hd4⟩;obtain⟨⟨vf4,vn4,Jc⟩,hN4⟩:=gZ.read hd4;obtain⟨a4,cap4,ahc⟩:=Jc.nodes.form;subst ahc;have hrow4:=hN4.trans hrow3;have p4:w4.cell? ⟨P,1,none⟩=some (.slice a4 q3.length cap4):=ay Jc.cells 1;have y2:=bV hrow4 2;have x2:w4.cell? ⟨W1.heap.size,2,none⟩=some (.int .i64 0):=ay hrow4 2;clear XW p2 x1 y1))
     have Jf:=Jc.wV 2 (.int .i64 ((q3.length:Int)-1));have uZ:(w4.setCell ⟨W1.heap.size,2,none⟩ (.int .i64 ((q3.length:Int)-1))).heap[W1.heap.size]? =some (.cells (bD 6 ((q2.length:Int)-1) ((q3.length:Int)-1) [] 0 0 []) 125 (0,0)):=iZ hrow4 2 _;have hx:=qL (op:=6) (l:=((q2.length:Int)-1)) (r:=(q3.length:Int)-1) ⟨by decide,by decide⟩ ⟨by omega,by omega⟩ ⟨by omega,by omega⟩ m0 n0 n0 m0;generalize w4.setCell ⟨W1.heap.size,2,none⟩ (.int .i64 ((q3.length:Int)-1))=wW at Jf uZ ⊢;clear x2 y2 p4;obtain⟨xs,hown,zJ,hrep⟩:=Jf.nodes;have c0:wW.cell? ⟨W1.heap.size,0,none⟩=some (.int .i64 (6)):=ay uZ 0;have c1:wW.cell? ⟨W1.heap.size,1,none⟩=some (.int .i64 ((q2.length:Int)-1)):=ay uZ 1;have c2:wW.cell? ⟨W1.heap.size,2,none⟩=some (.int .i64 ((q3.length:Int)-1)):=ay uZ 2;have c3:wW.cell? ⟨W1.heap.size,3,none⟩=some (.string ⟨([]:List UInt8).toArray⟩):=ay uZ 3;have c4:wW.cell? ⟨W1.heap.size,4,none⟩=some (.int .i64 (0)):=ay uZ 4;have c5:wW.cell? ⟨W1.heap.size,5,none⟩=some (.int .i64 (0)):=ay uZ 5;have c6:wW.cell? ⟨W1.heap.size,6,none⟩=some (.string ⟨([]:List UInt8).toArray⟩):=ay uZ 6;have p1:wW.cell? ⟨P,1,none⟩=some (.slice a4 q3.length cap4):=ay Jf.cells 1;have zP:=bV Jf.cells 1;have sU:P<wW.heap.size:=(anw.1 Jf.cells).1;have hBr:B<=wW.heap.size:=by omega
     have zk:(q3.length+1)*72<=140737488355328:=by omega
     have hqm:q3.length+1<=maxLen:=by rw[maxLen_eq];omega
     have iQ:=oG (6) ((q2.length:Int)-1) ((q3.length:Int)-1) ([]) (0) (0) ([]);obtain⟨i0,hi,hz0,hz1,hz2⟩:=aoW uo
     go_region_law (refine step_append_lies _ rfl (.tmp 84) (.tmp 86) 35 rfl B 125 i0 (.agg (bD 0 0 0 [] 0 0 [])) 7 72 Tryz.underlying35 hi hz0 hz1 hz2 rfl (by decide) (.slice a4 q3.length cap4) q3.length xs (by simp[Act.eval]) ((aos hown).alloc _) ⟨wW.heap.size,0,none⟩ 1 1 (bD (6) ((q2.length:Int)-1) ((q3.length:Int)-1) ([]) (0) (0) ([])).toList (by simp[Act.eval]) rfl (World.news_of_block (aog _ _)) iQ (by decide) hqm zk (by simp;omega) _ rfl ?_;intro g cap w5 hown5 fJ sV sW;have oV:=(fJ.block P (by simp;omega) (λe=>zJ e.symm)).trans ((heap_alloc_old wW.drew _ sU).trans Jf.cells);have k5:w5.cell? ⟨P,1,none⟩=some (.slice a4 q3.length cap4):=ay oV 1;have z5:=bV oV 1)
     all_goals go_wp2
     all_goals go_ret
     all_goals exact uq he rfl (Jf.put (((Below.refl _ wW).drew).alloc (ann _) _) hown hrep hx hown5 fJ sV sW)
   .cases hb1:(Sp.rd k (f.drop 1) q).1 with
    |false=>
     have he:Hid _:=XT (k:=k) (q:=q) hop.out (by decide) hb1;have hcnt:=vI k (f.drop 1) q;have hrl:=Je k (f.drop 1) q;have hwl:=vJ k (f.drop 1) q AP;have hlp:=Si hop.out (by decide);have nd:=ih.out B P wr Sj vn (f.drop 1) q (by omega) U1 D9 hR.gl hR.cells hR.words hR.nodes AP (by omega);generalize Sp.rd k (f.drop 1) q=z at he nd hcnt hwl hrl hb1;obtain⟨b1,f2,q2⟩:=z;dsimp only at nd hcnt hwl hrl hb1;subst hb1
     go_wp2_with (first
      |(go_at_call 133;refine nd.mono ?_;rintro e w2 ⟨rfl,hd⟩;obtain⟨⟨Kt,vn2,hR2⟩,Eb⟩:=hR.read hd;obtain⟨a2,cap2,OD⟩:=hR2.nodes.form;subst OD;have hrow2:=Eb.trans hrow;have p2:w2.cell? ⟨P,1,none⟩=some (.slice a2 q2.length cap2):=ay hR2.cells 1;have y1:=bV hrow2 1;have x1:w2.cell? ⟨W1.heap.size,1,none⟩=some (.int .i64 0):=ay hrow2 1;have y2:=bV hrow2 2;have x2:w2.cell? ⟨W1.heap.size,2,none⟩=some (.int .i64 0):=ay hrow2 2;clear nd))
     have gZ:=(hR2.wV 1 (.int .i64 ((q2.length:Int)-1))).wV 2 (.int .i64 ((q2.length:Int)-1));have hrow3:((w2.setCell ⟨W1.heap.size,1,none⟩ (.int .i64 ((q2.length:Int)-1))).setCell ⟨W1.heap.size,2,none⟩ (.int .i64 ((q2.length:Int)-1))).heap[W1.heap.size]? =some (.cells (bD 7 ((q2.length:Int)-1) ((q2.length:Int)-1) [] 0 0 []) 125 (0,0)):=iZ (iZ hrow2 1 _) 2 _;have hx:=qL (op:=7) (l:=((q2.length:Int)-1)) (r:=((q2.length:Int)-1)) ⟨by decide,by decide⟩ ⟨by omega,by omega⟩ ⟨by omega,by omega⟩ m0 n0 n0 m0;generalize (w2.setCell ⟨W1.heap.size,1,none⟩ (.int .i64 ((q2.length:Int)-1))).setCell ⟨W1.heap.size,2,none⟩ (.int .i64 ((q2.length:Int)-1))=w3 at gZ hrow3 ⊢;clear x1 y1 x2 y2 p2;obtain⟨xs,hown,zJ,hrep⟩:=gZ.nodes;have c0:w3.cell? ⟨W1.heap.size,0,none⟩=some (.int .i64 (7)):=ay hrow3 0;have c1:w3.cell? ⟨W1.heap.size,1,none⟩=some (.int .i64 ((q2.length:Int)-1)):=ay hrow3 1;have c2:w3.cell? ⟨W1.heap.size,2,none⟩=some (.int .i64 ((q2.length:Int)-1)):=ay hrow3 2;have c3:w3.cell? ⟨W1.heap.size,3,none⟩=some (.string ⟨([]:List UInt8).toArray⟩):=ay hrow3 3;have c4:w3.cell? ⟨W1.heap.size,4,none⟩=some (.int .i64 (0)):=ay hrow3 4;have c5:w3.cell? ⟨W1.heap.size,5,none⟩=some (.int .i64 (0)):=ay hrow3 5;have c6:w3.cell? ⟨W1.heap.size,6,none⟩=some (.string ⟨([]:List UInt8).toArray⟩):=ay hrow3 6;have p1:w3.cell? ⟨P,1,none⟩=some (.slice a2 q2.length cap2):=ay gZ.cells 1;have zP:=bV gZ.cells 1;have sU:P<w3.heap.size:=(anw.1 gZ.cells).1;have hBr:B<=w3.heap.size:=by omega
     have zk:(q2.length+1)*72<=140737488355328:=by omega
     have hqm:q2.length+1<=maxLen:=by rw[maxLen_eq];omega
     have iQ:=oG (7) ((q2.length:Int)-1) ((q2.length:Int)-1) ([]) (0) (0) ([]);obtain⟨i0,hi,hz0,hz1,hz2⟩:=aoW uo
     go_region_law (refine step_append_lies _ rfl (.tmp 84) (.tmp 86) 35 rfl B 125 i0 (.agg (bD 0 0 0 [] 0 0 [])) 7 72 Tryz.underlying35 hi hz0 hz1 hz2 rfl (by decide) (.slice a2 q2.length cap2) q2.length xs (by simp[Act.eval]) ((aos hown).alloc _) ⟨w3.heap.size,0,none⟩ 1 1 (bD (7) ((q2.length:Int)-1) ((q2.length:Int)-1) ([]) (0) (0) ([])).toList (by simp[Act.eval]) rfl (World.news_of_block (aog _ _)) iQ (by decide) hqm zk (by simp;omega) _ rfl ?_;intro g cap w5 hown5 fJ sV sW;have oV:=(fJ.block P (by simp;omega) (λe=>zJ e.symm)).trans ((heap_alloc_old w3.drew _ sU).trans gZ.cells);have k5:w5.cell? ⟨P,1,none⟩=some (.slice a2 q2.length cap2):=ay oV 1;have z5:=bV oV 1)
     all_goals go_wp2
     all_goals go_ret
     all_goals exact uq he rfl (gZ.put (((Below.refl _ w3).drew).alloc (ann _) _) hown hrep hx hown5 fJ sV sW)
    |true=>
     have he:Hid _:=TP (k:=k) (q:=q) hop.out (by decide) hb1;have hcnt:=vI k (f.drop 1) q;have hrl:=Je k (f.drop 1) q;have hwl:=vJ k (f.drop 1) q AP;have hlp:=Si hop.out (by decide);have nd:=ih.out B P wr Sj vn (f.drop 1) q (by omega) U1 D9 hR.gl hR.cells hR.words hR.nodes AP (by omega);generalize Sp.rd k (f.drop 1) q=z at he nd hcnt hwl hrl hb1;obtain⟨b1,f2,q2⟩:=z;dsimp only at he nd hcnt hwl hrl hb1;subst hb1;have XW:=λ(w:World)(GX XR:Value)(hr:F7 B P W1.heap.size W vn.ownBlock w GX XR f2 q2)=>ih.out B P w GX XR f2 q2 (by omega) U1 D9 hr.gl hr.cells hr.words hr.nodes hwl (by omega);have hcnt2:=vI k f2 q2;generalize Sp.rd k f2 q2=z2 at he XW hcnt2;obtain⟨b2,f3,q3⟩:=z2;dsimp only at he XW hcnt2
     go_wp2_with (first
      |(go_at_call 133;refine nd.mono ?_;rintro e w2 ⟨rfl,hd⟩;obtain⟨⟨Kt,vn2,hR2⟩,Eb⟩:=hR.read hd;obtain⟨a2,cap2,OD⟩:=hR2.nodes.form;subst OD;have hrow2:=Eb.trans hrow;have p2:w2.cell? ⟨P,1,none⟩=some (.slice a2 q2.length cap2):=ay hR2.cells 1;have y1:=bV hrow2 1;have x1:w2.cell? ⟨W1.heap.size,1,none⟩=some (.int .i64 0):=ay hrow2 1;clear nd)
      |(have gZ:=hR2.wV 1 (.int .i64 ((q2.length:Int)-1));have hrow3:(w2.setCell ⟨W1.heap.size,1,none⟩ (.int .i64 ((q2.length:Int)-1))).heap[W1.heap.size]? =some (.cells (bD 7 ((q2.length:Int)-1) 0 [] 0 0 []) 125 (0,0)):=iZ hrow2 1 _;go_at_call 133;refine(XW _ _ _ gZ).mono ?_;rintro e w4 ⟨rfl,hd4⟩;obtain⟨⟨vf4,vn4,Jc⟩,hN4⟩:=gZ.read hd4;obtain⟨a4,cap4,ahc⟩:=Jc.nodes.form;subst ahc;have hrow4:=hN4.trans hrow3;have p4:w4.cell? ⟨P,1,none⟩=some (.slice a4 q3.length cap4):=ay Jc.cells 1;have y2:=bV hrow4 2;have x2:w4.cell? ⟨W1.heap.size,2,none⟩=some (.int .i64 0):=ay hrow4 2;clear XW p2 x1 y1))
     have Jf:=Jc.wV 2 (.int .i64 ((q3.length:Int)-1));have uZ:(w4.setCell ⟨W1.heap.size,2,none⟩ (.int .i64 ((q3.length:Int)-1))).heap[W1.heap.size]? =some (.cells (bD 7 ((q2.length:Int)-1) ((q3.length:Int)-1) [] 0 0 []) 125 (0,0)):=iZ hrow4 2 _;have hx:=qL (op:=7) (l:=((q2.length:Int)-1)) (r:=(q3.length:Int)-1) ⟨by decide,by decide⟩ ⟨by omega,by omega⟩ ⟨by omega,by omega⟩ m0 n0 n0 m0;generalize w4.setCell ⟨W1.heap.size,2,none⟩ (.int .i64 ((q3.length:Int)-1))=wW at Jf uZ ⊢;clear x2 y2 p4;obtain⟨xs,hown,zJ,hrep⟩:=Jf.nodes;have c0:wW.cell? ⟨W1.heap.size,0,none⟩=some (.int .i64 (7)):=ay uZ 0;have c1:wW.cell? ⟨W1.heap.size,1,none⟩=some (.int .i64 ((q2.length:Int)-1)):=ay uZ 1;have c2:wW.cell? ⟨W1.heap.size,2,none⟩=some (.int .i64 ((q3.length:Int)-1)):=ay uZ 2;have c3:wW.cell? ⟨W1.heap.size,3,none⟩=some (.string ⟨([]:List UInt8).toArray⟩):=ay uZ 3;have c4:wW.cell? ⟨W1.heap.size,4,none⟩=some (.int .i64 (0)):=ay uZ 4;have c5:wW.cell? ⟨W1.heap.size,5,none⟩=some (.int .i64 (0)):=ay uZ 5;have c6:wW.cell? ⟨W1.heap.size,6,none⟩=some (.string ⟨([]:List UInt8).toArray⟩):=ay uZ 6;have p1:wW.cell? ⟨P,1,none⟩=some (.slice a4 q3.length cap4):=ay Jf.cells 1;have zP:=bV Jf.cells 1;have sU:P<wW.heap.size:=(anw.1 Jf.cells).1;have hBr:B<=wW.heap.size:=by omega
     have zk:(q3.length+1)*72<=140737488355328:=by omega
     have hqm:q3.length+1<=maxLen:=by rw[maxLen_eq];omega
     have iQ:=oG (7) ((q2.length:Int)-1) ((q3.length:Int)-1) ([]) (0) (0) ([]);obtain⟨i0,hi,hz0,hz1,hz2⟩:=aoW uo
     go_region_law (refine step_append_lies _ rfl (.tmp 84) (.tmp 86) 35 rfl B 125 i0 (.agg (bD 0 0 0 [] 0 0 [])) 7 72 Tryz.underlying35 hi hz0 hz1 hz2 rfl (by decide) (.slice a4 q3.length cap4) q3.length xs (by simp[Act.eval]) ((aos hown).alloc _) ⟨wW.heap.size,0,none⟩ 1 1 (bD (7) ((q2.length:Int)-1) ((q3.length:Int)-1) ([]) (0) (0) ([])).toList (by simp[Act.eval]) rfl (World.news_of_block (aog _ _)) iQ (by decide) hqm zk (by simp;omega) _ rfl ?_;intro g cap w5 hown5 fJ sV sW;have oV:=(fJ.block P (by simp;omega) (λe=>zJ e.symm)).trans ((heap_alloc_old wW.drew _ sU).trans Jf.cells);have k5:w5.cell? ⟨P,1,none⟩=some (.slice a4 q3.length cap4):=ay oV 1;have z5:=bV oV 1)
     all_goals go_wp2
     all_goals go_ret
     all_goals exact uq he rfl (Jf.put (((Below.refl _ wW).drew).alloc (ann _) _) hown hrep hx hown5 fJ sV sW)
theorem aaj:∀k:Nat,Reads k
 |0=>λ_ _ _ _ _ _ _ h=>absurd h (aoo _)
 |k+1=>ags k (aaj k)
end Go.Proofs.Tryz
namespace Go.Proofs.Tryz
open Go Go.Fw Go.IntWalk Sp
theorem wrap_in{z:Int}(h:-1000000000000<=z/\z<=1000000000000):IntKind.i64.wrap z=z:=gJ z (by omega)
theorem MX[kJ](OE:jA prog G tN wF):jA prog G DY Ba:=by
 refine MZ (aQ [(tN,.eff (FC nP) wF),iF.e,nZ.e,mF.e,mQ.e] ⟨⟨OE,MG⟩,kD,F6,GV,zi,trivial⟩) (λ_ _=>⟨((_,_,()),()),⟨rfl,rfl⟩⟩) ?_;intro p at' q deep hin hp;obtain⟨⟨hpl,ha,hb,hd0,hd1,hws,hq⟩,hfuel⟩:=hp;have hp3:(1:Nat)<=2 ^ (10-deep).toNat:=apA;refine⟨λy=>∃n:Nat,y=((Ea (Sp.wordAt p at') n,(n:Int)+1,()),())/\n<=9,λy=>(10-y.1.2.1).toNat,⟨0,rfl,ano _⟩,?_⟩;rintro _ ⟨n,rfl,hn⟩;dsimp only;refine af (λh=>⟨ha,trivial,?_⟩) λh=>?_
 .have h:=lV h;have hw:IntKind.i64.wrap ((n:Int)+1+1)=((n+1:Nat):Int)+1:=(wrap_in (by omega)).trans (by omega);rw[hw];have e:Ea (Sp.wordAt p at') (n+1)=bif Sp.wordAt p at'==dW ((n:Int)+1)then(n:Int)+1 else Ea (Sp.wordAt p at') n:=rfl
  refine af (λh2=>⟨rfl,⟨n+1,?_,by omega⟩,by dsimp only;omega⟩) λh2=>⟨rfl,⟨n+1,?_,by omega⟩,by dsimp only;omega⟩
  .rw[e,h2];rfl
  .rw[e,h2];rfl
 have hn9:n=9:=by have:=nH h;omega
 subst hn9;rw[XU];have hop:=XV (Sp.wordAt p at');have hw0:Sp.wordAt p at'=Sp.wordAt (p.drop at'.toNat) 0:=by rw[Fe p at' 0 ha (aol _),apa]
 have e1:IntKind.i64.wrap (at'+1)=at'+1:=wrap_in (by omega);have e2:IntKind.i64.wrap (at'+2)=at'+2:=wrap_in (by omega);have ed:IntKind.i64.wrap (deep+1)=deep+1:=wrap_in (by omega);have hw1:Sp.wordAt p (at'+1)=Sp.wordAt (p.drop at'.toNat) 1:=(Fe p at' 1 ha (by decide)).symm;have hw2:Sp.wordAt p (at'+2)=Sp.wordAt (p.drop at'.toNat) 2:=(Fe p at' 2 ha (by decide)).symm;have hlen2:(Sp.wordAt p (at'+2)).length<=1048576:=by
  by_cases hh:at'+2<(p.length:Int)
  .rw[jk hh];exact ank (hws _ (getD_mem (by omega))) (by decide)
  .rw[oD (by omega)];exact ano _
 rw[e1,e2,ed];have hbig:∀k:Nat,k<=1000->k<=big:=λk hk=>yM (by omega);rw[hw1];rw[hw2]at hlen2 ⊢;rw[hw0]at hop ⊢;have aly:(p.drop at'.toNat).drop 1=p.drop (at'+1).toNat:=by rw[aoG,show at'.toNat+1=(at'+1).toNat by omega]
 refine⟨λy=>y=(((bU (Sp.wordAt (p.drop at'.toNat) 0)==0||(decide (deep>9)||decide ((q.length:Int)>9)),()),())),?_,?_⟩
 .cases bU (Sp.wordAt (p.drop at'.toNat) 0)==0 with
  |true=>exact⟨rfl,rfl⟩
  |false=>cases decide (deep>9)<;>exact⟨rfl,rfl⟩
 rintro _ rfl;dsimp only;by_cases akf:deep>9
 .have hd10:deep=10:=by omega
  subst hd10;rw[anE (show(10:Int)>9 by decide),Bool.true_or,Bool.or_true];exact⟨rfl,rfl⟩
 rw[anC akf,apK];have hs:(10-deep).toNat=(10-(deep+1)).toNat+1:=by omega
 have ai8:2 ^ (10-deep).toNat=2*2 ^ (10-(deep+1)).toNat:=by rw[hs,Nat.pow_succ,apz]
 have hp4:(1:Nat)<=2 ^ (10-(deep+1)).toNat:=apA;rw[ai8]at hb;have hfu:(10-(deep+1)).toNat<gQ:=by omega
 rw[hs,Sp.rs,aly];have hrb:=λw s=>Ku (10-(deep+1)).toNat w s;have hdd:∀k:Int,0<=k->(p.drop at'.toNat).drop (1+k).toNat=p.drop (at'+(1+k)).toNat:=λk hk=>by rw[aoG,show at'.toNat+(1+k).toNat=(at'+(1+k)).toNat by omega]
 rw[hdd _ (hrb (p.drop (at'+1).toNat) q).2.1];have hfl:(10-(deep+1)).toNat<=10:=by omega
 have hpc:((3*2 ^ (10-(deep+1)).toNat:Nat):Int)=3*2 ^ (10-(deep+1)).toNat:=by push_cast;rfl
 generalize (10-(deep+1)).toNat=d at hrb hb hfu hp4 hfl hpc ⊢;generalize hv:Sp.wordAt (p.drop at'.toNat) 0=w0;rw[hv]at hop;generalize bU w0=op at hop ⊢;refine af (λh0=>?_) λh0=>?_
 .rw[h0];exact⟨rfl,rfl⟩
 rw[h0];have zk:q.length<=9:=by have:=nH (aoy.1 h0).2;omega
 have ho0:op≠0:=ang.1 (aoy.1 h0).1;clear h0 ai8;have hdp:0<=deep+1/\deep+1<=10:=by omega
 have ai9:p.length<=1000/\0<=at'+1/\(at'+1).toNat+3*2 ^ d<=1000000/\0<=deep+1/\deep+1<=10/\(∀x,x∈p->List.length x.1<=1000)/\q.length<=100:=⟨hpl,by omega,by omega,hdp.1,hdp.2,hws,by omega⟩;have ha1:0<=at'+1:=by omega
 have ha2:0<=at'+2:=by omega
 clear hin;rcases(show op=1\/op=2\/op=3\/op=4\/(op=5\/op=6\/op=7)\/op=8\/op=9 by omega)with rfl|rfl|rfl|rfl|h5|rfl|rfl
 .exact⟨λy=>y=((false,()),()),⟨rfl,rfl⟩,by rintro _ rfl;exact⟨λy=>y=((false,()),()),⟨rfl,rfl⟩,by rintro _ rfl;exact⟨trivial,hbig _ (by rw[anh,anj];omega),rfl,rfl⟩⟩⟩
 .exact⟨λy=>y=((true,()),()),⟨rfl,rfl⟩,by rintro _ rfl;exact⟨ha1,hbig _ (by rw[anh,anj];omega),rfl,rfl⟩⟩
 .exact⟨λy=>y=((false,()),()),⟨rfl,rfl⟩,by rintro _ rfl;exact⟨λy=>y=((true,()),()),⟨rfl,rfl⟩,by rintro _ rfl;exact⟨ha1,ha2,hlen2,hbig _ (by rw[anh,anj];omega),rfl,rfl⟩⟩⟩
 .exact⟨λy=>y=((false,()),()),⟨rfl,rfl⟩,by rintro _ rfl;exact⟨λy=>y=((true,()),()),⟨rfl,rfl⟩,by rintro _ rfl;exact⟨ha1,ha2,hlen2,hbig _ (by rw[anh,anj];omega),rfl,rfl⟩⟩⟩
 .have g2:(op==2)=false:=ang.2 (by omega);have g3:(op==3)=false:=ang.2 (by omega);have g4:(op==4)=false:=ang.2 (by omega);have g8:(op==8)=false:=ang.2 (by omega);have g9:(op==9)=false:=ang.2 (by omega);have g57:(decide (5<=op)&&decide (op<=7))=true:=by rw[anE (by omega),anE (by omega)];rfl
  have alz:(op==5||(op==6||op==7))=true:=by rcases h5 with rfl|rfl|rfl<;>rfl
  rw[g2,g3,g4,g8,g9,g57,alz];refine⟨λy=>y=((false,()),()),⟨rfl,rfl⟩,?_⟩;rintro _ rfl;refine⟨λy=>y=((false,()),()),⟨rfl,rfl⟩,?_⟩;rintro _ rfl;refine⟨trivial,⟨ai9,hfu⟩,?_⟩;rintro⟨⟨r,k,⟨⟩⟩,⟨⟩⟩ ⟨er,ek⟩;have er:r=(Sp.rs d (p.drop (at'+1).toNat) q).1:=er;have ek:k=(Sp.rs d (p.drop (at'+1).toNat) q).2:=ek;have hb1:=hrb (p.drop (at'+1).toNat) q;rw[← er,← ek]at hb1 ⊢;clear er ek;dsimp only;have hrl:r.length<=20:=by have:=hb1.1;omega
  have hk3:k<3*2 ^ d:=hb1.2.2;have hk1:IntKind.i64.wrap (1+k)=1+k:=wrap_in (by omega);have hk2:IntKind.i64.wrap (at'+(1+k))=at'+(1+k):=wrap_in (by omega);have alA:IntKind.i64.wrap ((r.length:Int)-1)=(r.length:Int)-1:=wrap_in (by omega);rw[hk1,hk2,alA];refine af (λh=>?_) λh=>?_
  .rw[h];exact⟨rfl,rfl⟩
  rw[h];have hc2:p.length<=1000/\0<=at'+(1+k)/\(at'+(1+k)).toNat+3*2 ^ d<=1000000/\0<=deep+1/\deep+1<=10/\(∀x,x∈p->List.length x.1<=1000)/\r.length<=100:=⟨hpl,by omega,by omega,hdp.1,hdp.2,hws,by omega⟩;by_cases h55:op=5
  .subst h55;exact⟨hbig _ (by rw[anh,anj];omega),rfl,rfl⟩
  have gn:(op !=5)=true:=apE.2 h55;have g5:(op==5)=false:=ang.2 h55;rw[gn,g5];refine⟨⟨hc2,hfu⟩,?_⟩;rintro⟨⟨s,m,⟨⟩⟩,⟨⟩⟩ ⟨es,em⟩;have es:s=(Sp.rs d (p.drop (at'+(1+k)).toNat) r).1:=es;have em:m=(Sp.rs d (p.drop (at'+(1+k)).toNat) r).2:=em;have hb2:=hrb (p.drop (at'+(1+k)).toNat) r;rw[← es,← em]at hb2 ⊢;clear es em;dsimp only;have hsl:s.length<=20:=by have:=hb2.1;omega
  have hm3:m<3*2 ^ d:=hb2.2.2;have hm1:IntKind.i64.wrap (1+k+m)=1+k+m:=wrap_in (by omega);have hsl1:IntKind.i64.wrap ((s.length:Int)-1)=(s.length:Int)-1:=wrap_in (by omega);rw[hm1,hsl1];refine af (λh2=>?_) λh2=>?_
  .rw[h2];exact⟨rfl,rfl⟩
  rw[h2];exact⟨hbig _ (by rw[anh,anj];omega),rfl,rfl⟩
 .exact⟨λy=>y=((true,()),()),⟨rfl,rfl⟩,by rintro _ rfl;exact⟨ha1,hbig _ (by rw[anh,anj];omega),rfl,rfl⟩⟩
 .exact⟨λy=>y=((true,()),()),⟨rfl,rfl⟩,by rintro _ rfl;exact⟨ha1,hbig _ (by rw[anh,anj];omega),rfl,rfl⟩⟩
theorem XY:jA prog G EM Ir:=
 ad4 (λn=>@Em ⟨n⟩) (λn=>@qZ ⟨n⟩) (by rintro⟨p,at',q,deep,⟨⟩⟩ h;exact aoo _ h.2) (by rintro _ ⟨p,at',q,deep,⟨⟩⟩;rfl) (by rintro⟨p,at',q,deep,⟨⟩⟩ h;exact⟨_,h,aoF _⟩) (by rintro _ ⟨p,at',q,deep,⟨⟩⟩;rfl) λn h=>@MX ⟨n⟩ h
end Go.Proofs.Tryz
namespace Go.Proofs.Tryz
open Go Go.Fw Go.IntWalk Sp
theorem adB(s:List UInt8)(h:bW s=true):gU s=((Sp.rs 10 (Sp.wordsOf s) []).2==((Sp.wordsOf s).length:Int)&&(!(Sp.textOf (Sp.rs 10 (Sp.wordsOf s) []).1==[])&&Sp.textOf (Sp.rs 10 (Sp.wordsOf s) []).1==dL (Sp.wordsOf s))):=by rw[← XZ,TR,h,anF]
theorem Kv{s:List UInt8}(h:gU s=false):(([]:List aA),false,())=(fA s,gU s,()):=by unfold fA;rw[h];rfl
theorem F8:OK qP.e:=by
 refine PA.ok mixed (aQ [rX.e,mW.e,(EM,.eff (FC y7) Ir),mP.e] ⟨D7,yX,⟨XY,VS⟩,yT,trivial⟩) Uw (by kernel_rfl) (show∀s,qP.goal (Sl s) (s,())from ?_);intro s hin hp;dsimp only[qP]at hp ⊢;have hp:s.length<=1048576:=hp;refine⟨hp,af (λh=>?_) λh=>?_⟩
 .refine Kv ?_;rw[← XZ,TR,nV h];rfl
 have hok:=jL h;obtain⟨hw,hl,hj,_,_⟩:=nJ hok;have hpp:=adB s hok;have hws:∀x∈Sp.wordsOf s,x.1.length<=1000:=λx hx=>ank (Jg x hx) (ank (kE.1 hok).1 (by decide));rw[hw];refine⟨⟨hl,by decide,by decide,by decide,by decide,hws,by decide⟩,?_⟩;rintro⟨⟨r,k,⟨⟩⟩,⟨⟩⟩ ⟨er,ek⟩;have er:r=(Sp.rs 10 (Sp.wordsOf s) []).1:=er;have ek:k=(Sp.rs 10 (Sp.wordsOf s) []).2:=ek;have hb:=(Ku 10 (Sp.wordsOf s) []).1;have hsame:=λhq:gU s=true=>OG hq;rw[← er]at hb hpp hsame;rw[← ek]at hpp;clear er ek;dsimp only;refine⟨ank hb (by decide),af (λh1=>Kv ?_) λh1=>af (λh2=>Kv ?_) λh2=>⟨⟨hl,hj⟩,af (λh3=>Kv ?_) λh3=>?_⟩⟩
 .have h1:(k==((Sp.wordsOf s).length:Int))=false:=nV h1;rw[hpp,h1];rfl
 .rw[hpp,h2,aoc,anY,anB]
 .rw[hpp,nV h3,anB,anB]
 .have h1:(k==((Sp.wordsOf s).length:Int))=true:=jL h1;have hq:gU s=true:=by rw[hpp,h1,h2,jL h3];rfl
  obtain⟨q1,q2,_⟩:=hsame hq;rw[hq,q2,← q1]
theorem KY:OK qw.e:=by refine PA.ok mixed (aQ [qP.e,mW.e] ⟨F8,yX,trivial⟩) H0 (by kernel_rfl) (show∀q,qw.goal (KZ q) (q,())from ?_);intro q hin hp;dsimp only[qw]at hp ⊢;have hp:q.length<=2000000:=hp;exact⟨hp,ank (H7 q) (by decide),rfl⟩
theorem Sm:OK vN.e:=by
 refine PA.ok mixed (aQ [] trivial) Ux (by kernel_rfl) (show∀a0 a1 a2 a3 a4 b0 b1 b2 b3 b4,vN.goal (Sr a0 a1 a2 a3 a4 b0 b1 b2 b3 b4) ((a0,a1,a2,a3,a4,()),(b0,b1,b2,b3,b4,()),())from ?_);intro a0 a1 a2 a3 a4 b0 b1 b2 b3 b4 hin hp;dsimp only[vN]at hp ⊢;have hlen:a4.length<=maxLen:=hin.1.2.2.2.2.1.1;have no:∀{P:Prop},¬P->((false,()):Bool×Unit)=(false,()):=λ_=>rfl;refine⟨λ_=>a0=b0/\a1=b1/\a2=b2/\a3=b3/\a4.length=b4.length,?_,?_⟩
 .refine af (λh=>?_) λh0=>af (λh=>?_) λh1=>af (λh=>?_) λh2=>af (λh=>?_) λh3=>af (λh=>?_) λh4=>⟨rfl,?_⟩
  .exact congrArg (·,()) (anC λe=>(apE.1 h) (congrArg (·.1) e)).symm
  .exact congrArg (·,()) (anC λe=>(apE.1 h) (congrArg (·.2.1) e)).symm
  .exact congrArg (·,()) (anC λe=>(ang.1 (nV h)) (congrArg (·.2.2.1) e)).symm
  .exact congrArg (·,()) (anC λe=>(apE.1 h) (congrArg (·.2.2.2.1) e)).symm
  .exact congrArg (·,()) (anC λe=>(apE.1 h) (by rw[show a4=b4 from congrArg (·.2.2.2.2.1) e])).symm
  .have g4:(a4.length:Int)=b4.length:=by simpa using h4
   exact⟨by simpa using h0,by simpa using h1,anq.1 (jL h2),by simpa using h3,by omega⟩
 .rintro⟨⟨⟩,⟨⟩⟩ ⟨rfl,rfl,rfl,rfl,hl⟩;rw[maxLen_eq]at hlen;exact MJ (K:=λr=>r=(decide ((a0,a1,a2,a3,a4,())=(a0,a1,a2,a3,b4,())),()))
   (λx y=>!(x.1==y.1&&(x.2.1==y.2.1&&(x.2.2.1==y.2.2.1&&(x.2.2.2.1==y.2.2.2.1&&true))))) (λx y=>by simp[apl]) ([],0,0,[],()) a4 b4 _ hlen hl
   (λe=>by rw[anC λe2=>e (congrArg (·.2.2.2.2.1) e2)]) λe=>by rw[anE (by rw[e])]
theorem OH:OK tC.e:=by
 refine PA.ok mixed (aQ [] trivial) Qd (by kernel_rfl) (show∀a b,tC.goal (OI a b) (a,b,())from ?_);intro a b hin hp;dsimp only[tC]at hp ⊢;exact eqL (K:=λr=>r=(decide (a=b),())) (λx y=>!(x.1==y.1&&(x.2.1==y.2.1&&(x.2.2.1==y.2.2.1&&(x.2.2.2.1==y.2.2.2.1&&(x.2.2.2.2.1==y.2.2.2.2.1&&(x.2.2.2.2.2.1==y.2.2.2.2.2.1&&(x.2.2.2.2.2.2.1==y.2.2.2.2.2.2.1&&true))))))))
  (λx y=>by simp[apl]) (0,0,0,[],0,0,[],()) a b _ hin.1.1 rfl
theorem X0:OK zW.e:=by refine PA.ok mixed (aQ [vN.e] ⟨Sm,trivial⟩) H0 (by kernel_rfl) (show∀f0 f1 f2 f3 f4,zW.goal (X3 f0 f1 f2 f3 f4) ((f0,f1,f2,f3,f4,()),())from ?_);intro f0 f1 f2 f3 f4 hin hp;dsimp only[zW]at hp ⊢;exact⟨trivial,rfl⟩
theorem Uy:OK xA.e:=by
 refine PA.ok mixed (aQ [iF.e,jG.e,lQ.e] ⟨kD,rH,Aq,trivial⟩) Wi (by kernel_rfl) (show∀f0 f1 f2 f3 f4,xA.goal (Uz f0 f1 f2 f3 f4) ((f0,f1,f2,f3,f4,()),())from ?_);intro f0 f1 f2 f3 f4 hin hp;dsimp only[xA]at hp ⊢;have hp:f4.length<=1048576:=hp;have hbad:∀n,n<f4.length->kQ (f4.getD n ([],0,0,[],()))=false->((false,()):Bool×Unit)=(dU (f0,f1,f2,f3,f4,()),()):=λn hn h=>by have:f4.all kQ=false:=ap1.2 ⟨_,getD_mem hn,by rw[h];decide⟩;unfold dU;rw[show(f0,f1,f2,f3,f4,()).2.2.2.2.1=f4 from rfl,this];rfl
 refine CX f4.length (by omega) (λn=>∀i,i<n->kQ (f4.getD i ([],0,0,[],()))=true) (λi hi=>absurd hi (aoo _)) (λI μ n hn hJ next=>?_) λI μ hJ=>?_
 .dsimp only;rw[an9];have e:kQ (f4.getD n ([],0,0,[],()))=(eF (f4.getD n ([],0,0,[],())).1&&(aZ (f4.getD n ([],0,0,[],())).2.1 (f4.getD n ([],0,0,[],())).2.2.1 (f4.getD n ([],0,0,[],())).2.2.2.1&&!((f4.getD n ([],0,0,[],())).2.1==0))):=rfl;have hb:=hbad n hn;refine vX (by omega) ⟨⟨by omega,by omega⟩,trivial,af (λh=>hb ?_) λh=>⟨⟨by omega,by omega⟩,trivial,af (λh2=>hb ?_) λh2=>⟨⟨by omega,by omega⟩,af (λh3=>hb ?_) λh3=>⟨rfl,next ?_⟩⟩⟩⟩
  .rw[e,nV h];rfl
  .rw[e,nV h2,anY,anB]
  .rw[e,h3,aoc,anB,anB]
  .intro i hi;rcases anL i n with h5|h5
   .exact hJ i h5
   .rw[show i=n by omega,e,jL h,jL h2,h3];rfl
 .dsimp only;have hall:f4.all kQ=true:=anx.2 λx hx=>by obtain⟨i,hi,rfl⟩:=aoB.1 hx;have:=hJ i hi;rw[anm,anu hi]at this;exact this
  have e:dU (f0,f1,f2,f3,f4,())=(aB f0&&(aB f1&&aB f3)):=by unfold dU;rw[show(f0,f1,f2,f3,f4,()).2.2.2.2.1=f4 from rfl,hall,anF]
  rw[e];refine vY (by omega) ⟨trivial,?_⟩;have u:∀n:Int,(decide (0<=n)&&decide (n<=1000000000))=aB n:=λ_=>rfl;rw[u f0,u f1,u f3];cases aB f0 with
  |false=>exact rfl
  |true=>
   refine⟨trivial,?_⟩;cases aB f1 with
   |false=>exact rfl
   |true=>exact⟨trivial,rfl⟩
theorem ajb(a b:List (List UInt8)):Sp.ls (a++b)=Sp.ls a++Sp.ls b:=aoL
theorem Sv:OK vO.e:=by
 refine PA.ok mixed (aQ [(mX,.pure jT),mV.e,mD.e] ⟨⟨uT,sS⟩,Ez,vZ,trivial⟩) UA (by kernel_rfl) (show∀f0 f1 f2 f3 f4,vO.goal (Sz f0 f1 f2 f3 f4) ((f0,f1,f2,f3,f4,()),())from ?_);intro f0 f1 f2 f3 f4 hin hp;dsimp only[vO]at hp ⊢;obtain⟨hl,ht⟩:f4.length<=1048576/\(cZ f4).length<=1073741824:=hp;have hlong:=(Jh (f:=(f0,f1,f2,f3,f4,())) hin.1.1 hin.1.2.1 hin.1.2.2.2.1).1;refine aP (((bif f2 then[115]else[111],()),())) ?_ ⟨trivial,trivial,trivial,?_⟩
 .cases f2<;>exact⟨rfl,rfl⟩
 refine zH (mk:=λi(s:Sp.LS)=>(((),i,()),s,())) (λy=>y.1.2.1) (λ_ _=>rfl) f4.length (by omega)
  (λn s=>s=Sp.ls (Ec::Lib.itoa f0::Lib.itoa f1::(bif f2 then[115]else[111])::Lib.itoa f3::dM (f4.take n))) rfl (λI μ n s hn hJ next=>?_) λI μ s hJ=>?_
 .subst hJ;dsimp only;rw[an9];refine vX (by omega) ⟨⟨by omega,by omega⟩,trivial,yM ?_,rfl,next _ ?_⟩
  .have:=ER (f4.take n);rw[anv]at this;simp only[Sp.ls,anV,anh,anj];omega
  .rw[X4 hn];rw[show∀a b c d e,Ec::a::b::c::d::(dM (f4.take n)++e)=(Ec::a::b::c::d::dM (f4.take n))++e fromλ_ _ _ _ _=>rfl,ajb];rfl
 .subst hJ;dsimp only;rw[aok (ann _)];have e:List.map (λ(x:List UInt8×Unit)=>x.1) (Sp.ls (Ec::Lib.itoa f0::Lib.itoa f1::(bif f2 then[115]else[111])::Lib.itoa f3::dM f4))=Ec::Lib.itoa f0::bI (f0,f1,f2,f3,f4,()):=SA _;rw[e];refine vY (by omega) ⟨⟨?_,ank hlong (by have ht:(cZ (f0,f1,f2,f3,f4,()).2.2.2.2.1).length<=1073741824:=ht;omega)⟩,rfl⟩;have:=ER f4;simp only[Sp.ls,anV,anh];omega
theorem X5:OK zV.e:=by
 refine PA.ok mixed (aQ [jW.e,jV.e] ⟨yV,qW,trivial⟩) Zk (by kernel_rfl) (show∀f0 f1 f2 f3 f4,zV.goal (X6 f0 f1 f2 f3 f4) ((f0,f1,f2,f3,f4,()),())from ?_);intro f0 f1 f2 f3 f4 hin hp;dsimp only[zV]at hp ⊢;obtain⟨hl,ht⟩:f4.length<=1048576/\(cZ f4).length<=1073741824:=hp;have q1:=pR (n:=f1) hin.1.2.1;have q3:=pR (n:=f3) hin.1.2.2.2.1;have h3:∀a b c:UInt8,([a,b,c]:List UInt8).length=3:=λ_ _ _=>rfl;have h1:([32]:List UInt8).length=1:=rfl;refine⟨trivial,bQ (by rw[h3];omega),aP ((Lib.itoa f1++32::((bif f2 then[115]else[111])++[32]),()),()) ?_ ?_⟩
 .cases f2 with
  |true=>exact⟨trivial,bQ (by rw[h3];omega),rfl,rfl⟩
  |false=>exact⟨rfl,rfl⟩
 have e0:(bif f2 then[115]else[111]:List UInt8).length=1:=by cases f2<;>rfl
 refine⟨trivial,bQ (by simp only[anf,anh,e0,anj];omega),?_⟩;refine zH (mk:=λi s=>((s,i,()),())) (λy=>y.1.2.1) (λ_ _=>rfl) f4.length (by omega)
  (λn s=>s=Lib.itoa f1++32::((bif f2 then[115]else[111])++[32])++Lib.itoa f3++cZ (f4.take n)) (by rw[apk];exact(anN _).symm) (λI μ n s hn hJ next=>?_) λI μ s hJ=>?_
 .have e:=agt hn;have hle:=@Zl f4 (n+1);have hs:s.length<=50+(cZ (f4.take n)).length:=by rw[hJ];simp only[anf,anh,e0,anj];omega
  have hll:=congrArg List.length e;simp only[anf,anh]at hll;dsimp only;rw[an9];refine vX (by omega) ⟨bQ (by rw[h1];omega),⟨by omega,by omega⟩,bQ (by rw[anf,h1];omega),bQ (by simp only[anf,h1];omega),⟨by omega,by omega⟩,trivial,bQ (by simp only[anf,h1];omega),rfl,next _ ?_⟩;rw[e,hJ];simp only[anz,aow,an7,apN]
 .subst hJ;dsimp only;refine vY (by omega) ?_;rw[aok (ann _),aak];simp only[anz,aow,an7]
end Go.Proofs.Tryz
