import Derived.Test.YtflpicdbkomglaaGreatDoorP75
namespace Go.Proofs.Tryz
open Go Go.Fw Go.RowKit Sp
set_option maxRecDepth 100000
theorem aeV(s:List UInt8)(hs:s.length<=1048576)(w:World)(hG:G.ok w):Calls prog 46 #[.string ⟨s.toArray⟩,.string ⟨#[10]⟩] w λe w'=>
 ∃v,e=.returned v/\FW w'.heap.size w' v (Sp.pieces 10 s)/\Below w.heap.size w w':=by
 have hc:gW prog G 46 (iM wK zT Jk):=Ig;refine(hc [.sv (.one (.str s)),.sv (.one (.str [10]))] (s.length<=4294960000/\(([10]:List UInt8)=[32]\/([10]:List UInt8)=[10])) _ 0 (λ_=>True) #[.string ⟨s.toArray⟩,.string ⟨#[10]⟩] w rfl ⟨by omega,.inr rfl⟩ hG ⟨⟨rfl,by rw[maxLen_eq];omega⟩,⟨rfl,by rw[maxLen_eq];decide⟩,trivial⟩).mono ?_;rintro e w' ⟨v,vals,rfl,h1,h2,h3,h4,h5,h6,_,_⟩;have ha:bW w'.heap _ (.sl eF gm) v (Sp.pieces 10 s):=h6;refine⟨v,rfl,⟨ha.1,?_⟩,h1,h2,h3,h4,h5⟩;rcases ha.2 with h|⟨b,off,cap,cs,t,fz,e1,e2,e3,e4,e5⟩
 .exact .inl h
 .exact .inr ⟨b,off,cap,cs,t,fz,e1,e2,e3.1.1,e4,λi x hx=>aU.flat (S:=_) _ _ _ rfl (e5 i x hx)⟩
theorem Bf(s:List UInt8):(bM s).2.2.1=[]:=by unfold bM;cases cu s<;>rfl
theorem adW(s:List UInt8)(hs:s.length<=1048576)(w:World)(hG:G.ok w):Calls prog 21 #[.string ⟨s.toArray⟩] w λe w'=>
 ∃a c,e=.returned (.tuple #[.agg #[.int .i64 (bM s).1,.int .i64 (bM s).2.1,.slice a 0 c,.string ⟨(bM s).2.2.2.1.toArray⟩,.int .i64 (bM s).2.2.2.2.1],.bool (cu s)])/\Below w.heap.size w w'/\aay (bM s):=by
 have hcon:gW prog G 21 (iM lY.sh lY.bU lY.F):=Pn.1;refine(hcon [.sv (.one (.str s))] (s.length<=1048576) _ 0 (λ_=>True) #[.string ⟨s.toArray⟩] w rfl hs hG ⟨⟨rfl,by rw[maxLen_eq];omega⟩,trivial⟩).mono ?_;rintro e w' ⟨v,vals,rfl,h1,h2,h3,h4,h5,h6,_,_⟩;obtain⟨vs,rfl,h7⟩:=h6;obtain⟨l⟩:=vs
 match l,h7 with
 |[x,y],h7=>
  obtain⟨⟨us,rfl,h8⟩,hy,_⟩:=h7;have hy:y=.bool (cu s):=hy;obtain⟨ul⟩:=us
  match ul,h8 with
  |[a1,a2,a3,a4,a5],h8=>obtain⟨b1,b2,b3,b4,b5,_⟩:=h8;have b3:bW w'.heap _ (.sl dU vK) a3 (bM s).2.2.1:=b3;rw[Bf]at b3;obtain⟨a,c,e3⟩:=SI b3;rw[hy,b1.1,b2.1,e3,b4.1,b5.1];exact⟨a,c,rfl,⟨h1,h2,h3,h4,h5⟩,b1.2,b2.2,b4.2,b5.2⟩
theorem agf(s:List UInt8)(hs:s.length<=1048576)(w:World)(hG:G.ok w):Calls prog 13 #[.string ⟨s.toArray⟩] w λe w'=>
 ∃a1 c1 a2 c2,e=.returned (.tuple #[.agg #[.int .i64 (bK s).1,.int .i64 (bK s).2.1,.int .i64 (bK s).2.2.1,.bool (bK s).2.2.2.1,.int .i64 (bK s).2.2.2.2.1,.slice a1 (bK s).2.2.2.2.2.1.length c1,.int .i64 (bK s).2.2.2.2.2.2.1,.string ⟨(bK s).2.2.2.2.2.2.2.1.toArray⟩,.slice a2 (bK s).2.2.2.2.2.2.2.2.1.length c2],.bool (dB s)])/\
  Below w.heap.size w w'/\YK (bK s)/\EA w' (.slice a1 (bK s).2.2.2.2.2.1.length c1) (bK s).2.2.2.2.2.1/\EQ w' (.slice a2 (bK s).2.2.2.2.2.2.2.2.1.length c2) (bK s).2.2.2.2.2.2.2.2.1/\
  (∀b,(Value.slice a1 (bK s).2.2.2.2.2.1.length c1).ownBlock=some b\/(Value.slice a2 (bK s).2.2.2.2.2.2.2.2.1.length c2).ownBlock=some b->w.heap.size<=b/\b<w'.heap.size)/\
  (∀b,(Value.slice a1 (bK s).2.2.2.2.2.1.length c1).ownBlock=some b->(Value.slice a2 (bK s).2.2.2.2.2.2.2.2.1.length c2).ownBlock≠some b):=by
 refine(ag0 s hs w hG).mono ?_;rintro e w' ⟨va,vq,rfl,hb,hr,p1,p2,hs,hok⟩;obtain⟨a1,c1,rfl⟩:=SI hr.1;obtain⟨a2,c2,rfl⟩:=SI hr.2;have q1:OA w' 0 84 4 _ _:=p1.imp id λ⟨g,cap,cur,e1,e2,e3⟩=>⟨g,cap,cur,e1,ant _,e3⟩;have q2:OA w' 0 125 7 _ _:=p2.imp id λ⟨g,cap,cur,e1,e2,e3⟩=>⟨g,cap,cur,e1,ant _,e3⟩;exact⟨a1,c1,a2,c2,rfl,hb,hok,⟨adT rfl hr.1,q1⟩,⟨adT rfl hr.2,q2⟩,λb h=>h.elim p1.lt p2.lt,hs⟩
theorem FW.cell{B:Nat}{w:World}{a:Option Addr}{c:Nat}{f:Sp.LS}(h:FW B w (.slice a f.length c) f){n:Nat}(hn:n<f.length):∃b off,a=some ⟨b,off,none⟩/\b<B/\w.cell? ⟨b,off+n,none⟩=some (.string ⟨(f.getD n ([],())).1.toArray⟩):=by
 rcases h.2 with⟨rfl,_⟩|⟨b,off,cap,cs,t,fz,e,e2,e3,e4,e5⟩
 .exact absurd hn (aod _)
 .injection e with ea;refine⟨b,off,ea,e3,?_⟩;have hx:f[n]? =some (f.getD n ([],())):=by rw[anz,anu hn];rfl
  generalize f.getD n ([],())=x at hx ⊢;obtain⟨u,us,e6,⟨e7,_⟩,_⟩:=e5 n x hx;rw[aA e4,← e7];have h0:=congrArg (λl=>l[0]?) e6;have h0:((cs.toList.drop (off+n*1)).take 1)[0]? =some u:=h0;simpa[an3,anZ]using h0
theorem ahP:prog.underlying 51=some (.slice 39):=by kernel_rfl
theorem SK:prog.underlying 59=some (.slice 53):=by kernel_rfl
def ab5:Value:=.agg #[.int .i64 0,.int .i64 0,.int .i64 0,.bool false,.int .i64 0,.slice none 0 0,.int .i64 0,.string ⟨#[]⟩,.slice none 0 0]
def IK:Value:=.agg #[.int .i64 0,.int .i64 0,.slice none 0 0,.string ⟨#[]⟩,.int .i64 0]
theorem agh:(prog.info? 39).map (λi=>(i.zero,i.size,i.bytes))=some (some ab5,9,112):=by kernel_rfl
theorem agi:(prog.info? 53).map (λi=>(i.zero,i.size,i.bytes))=some (some IK,5,64):=by kernel_rfl
theorem Rz(w:World)(o p:Obj):((w.alloc o).alloc p).heap[w.heap.size+1]? =some p:=by have:=aof (w.alloc o) p;rw[show(w.alloc o).heap.size=w.heap.size+1 by simp]at this;exact this
theorem below2{w w3:World}(h:Below w.heap.size w w3)(o p:Obj):Below w.heap.size w ((w3.alloc o).alloc p):=
 (h.alloc h.size o).alloc (by have:=h.size;simp;omega) p
structure PS(wl w:World)(z:List aZ×Int)(ls:Sp.LS)(n:Nat)(ao:Option Addr)(co:Nat)(ac:Option Addr)(cc:Nat)(acts:List aZ)(bJ:List aK):Prop where
 keep:Below wl.heap.size wl w
 tree:∃F1 F2:Nat->Prop,AT w (.slice ao acts.length co) acts F1/\CT w (.slice ac bJ.length cc) bJ F2/\(∀b,F1 b->wl.heap.size<=b/\b<w.heap.size/\¬F2 b)/\∀b,F2 b->wl.heap.size<=b/\b<w.heap.size
 go:z=dS n (ls.drop n) acts bJ
 la:acts.length<=40
 lc:bJ.length<=6
theorem PS.below{wl w w':World}{z:List aZ×Int}{ls:Sp.LS}{n:Nat}{ao:Option Addr}{co:Nat}{ac:Option Addr}{cc:Nat}{acts:List aZ}{bJ:List aK}(h:PS wl w z ls n ao co ac cc acts bJ)(k:Below w.heap.size w w'):PS wl w' z ls n ao co ac cc acts bJ:=by obtain⟨F1,F2,h1,h2,h3,h4⟩:=h.tree;have hs:=k.size;exact⟨h.keep.trans (k.mono h.keep.size),⟨F1,F2,h1.keep λb hb=>k.block b (h3 b hb).2.1,h2.keep λb hb=>k.block b (h4 b hb).2,λb hb=>⟨(h3 b hb).1,by have:=(h3 b hb).2.1;omega,(h3 b hb).2.2⟩,λb hb=>⟨(h4 b hb).1,by have:=(h4 b hb).2;omega⟩⟩,h.go,h.la,h.lc⟩
theorem VJ{w:World}{B B':Nat}{e:TypeId}{z:Nat}{v:Value}{n:Nat}{xs ys:List Value}(h:w.ownsRow B e z v n xs)(k:w.ownsRow B' e z v n ys):xs=ys:=by
 rcases h.2 with⟨e1,e2⟩|⟨g,cap,cur,e1,e2,e3,e4,e5,e6,e7⟩
 .have h1:=h.1;have k1:=k.1;rw[e2,apn]at h1 k1;rw[anV.1 h1,anV.1 k1]
 .rcases k.2 with⟨f1,_⟩|⟨g',cap',cur',f1,f2,f3,f4,f5,f6,f7⟩
  .rw[e1]at f1;cases f1
  .rw[e1]at f1;cases f1;rw[e3]at f3;cases f3;rw[← e7,← f7]
theorem PS.ahQ{wl wr w5 w6:World}{z:List aZ×Int}{ls:Sp.LS}{n:Nat}{ao:Option Addr}{co:Nat}{ac:Option Addr}{cc:Nat}{acts:List aZ}{bJ:List aK}(hP:PS wl wr z ls n ao co ac cc acts bJ)(hb:Below wr.heap.size wr w5)
 {c:aK} {va vq:Value} (hc:YK c) (ha:EA w5 va c.2.2.2.2.2.1) (hq:EQ w5 vq c.2.2.2.2.2.2.2.2.1) (hlt:∀b,va.ownBlock=some b\/vq.ownBlock=some b->wr.heap.size<=b/\b<w5.heap.size) (hsp:∀b,va.ownBlock=some b->vq.ownBlock≠some b)
 {xs:List Value} (hxs:w5.ownsRow 0 39 9 (.slice ac bJ.length cc) bJ.length xs) {g cap:Nat} (hown:w6.ownsRow 0 39 9 (.slice (some ⟨g,0,none⟩) (bJ.length+1) cap) (bJ.length+1) (xs++YN c va vq))
 (hgrow:w5.grownBy w6 (Value.slice ac bJ.length cc).ownBlock) (hat:(Value.slice ac bJ.length cc).ownBlock=some g\/g=w5.heap.size) (hg:g<w6.heap.size) (hgo:z=dS (n+1) (ls.drop (n+1)) acts (bJ++[c])) (h6:bJ.length<6):
 PS wl w6 z ls (n+1) ao co (some ⟨g,0,none⟩) cap acts (bJ++[c]):=by
 have lG:=hP.below hb;have hs5:=hb.size;obtain⟨F1,F2,h1,h2,h3,h4⟩:=hP.tree;have h15:=h1.keep (w':=w5) λb hb2=>hb.block b (h3 b hb2).2.1;have h25:=h2.keep (w':=w5) λb hb2=>hb.block b (h4 b hb2).2;have hv:∀b,(Value.slice ac bJ.length cc).ownBlock=some b->F2 b:=by obtain⟨_,_,_,h,_⟩:=h2;exact h
 have hs6:=hgrow.size;refine⟨lG.keep.grown hgrow lG.keep.size λb hb2=>(h4 b (hv b hb2)).1,⟨F1,λb=>(F2 b/\(Value.slice ac bJ.length cc).ownBlock≠some b)\/b=g\/va.ownBlock=some b\/vq.ownBlock=some b,h15.keep λb hb2=>hgrow.block b (by have:=(h3 b hb2).2.1;omega) λe=>(h3 b hb2).2.2 (hv b e.symm),?_,λb hb2=>⟨(h3 b hb2).1,by have:=(h3 b hb2).2.1;omega,?_⟩,λb hb2=>?_⟩,hgo,hP.la,by rw[anm];exact h6⟩
 .rw[anm];refine h25.push (va:=va) (vq:=vq) (λb hb2 hn=>hgrow.block b (by have:=(h4 b hb2).2;omega) λe=>hn e.symm) (λys hy=>by rw[← VJ hxs hy];exact hown) hc (ha.keep λb hb2=>?_) (hq.keep λb hb2=>?_) (λb hb2=>?_) (λb hb2 hn=>.inl ⟨hb2,hn⟩) (λb hb2=>⟨.inr (.inr hb2),λhf=>?_⟩) hsp
  .exact hgrow.block b (hlt b (.inl hb2)).2 λe=>by have:=(h4 b (hv b e.symm)).2;have:=(hlt b (.inl hb2)).1;omega
  .exact hgrow.block b (hlt b (.inr hb2)).2 λe=>by have:=(h4 b (hv b e.symm)).2;have:=(hlt b (.inr hb2)).1;omega
  .obtain rfl:g=b:=Option.some.inj hb2;refine⟨.inr (.inl rfl),λhf=>?_,λe=>?_,λe=>?_⟩
   .rcases hat with h|h
    .exact h
    .have:=(h4 g hf).2;omega
   .rcases hat with h|h
    .have:=(h4 g (hv g h)).2;have:=(hlt g (.inl e)).1;omega
    .have:=(hlt g (.inl e)).2;omega
   .rcases hat with h|h
    .have:=(h4 g (hv g h)).2;have:=(hlt g (.inr e)).1;omega
    .have:=(hlt g (.inr e)).2;omega
  .have:=(h4 b hf).2;have:=(hlt b hb2).1;omega
 .rintro(⟨hf,_⟩|rfl|hb3)
  .exact(h3 b hb2).2.2 hf
  .rcases hat with h|h
   .exact(h3 b hb2).2.2 (hv b h)
   .have:=(h3 b hb2).2.1;omega
  .have:=(h3 b hb2).2.1;have:=(hlt b hb3).1;omega
 .have hk:=hP.keep.size;rcases hb2 with⟨hf,_⟩|rfl|hb3
  .have:=h4 b hf;omega
  .rcases hat with h|h
   .have:=h4 b (hv b h);omega
   .omega
  .have:=hlt b hb3;omega
theorem PS.next{wl w:World}{z:List aZ×Int}{ls:Sp.LS}{n:Nat}{ao:Option Addr}{co:Nat}{ac:Option Addr}{cc:Nat}{acts:List aZ}{bJ:List aK}(h:PS wl w z ls n ao co ac cc acts bJ)(hgo:z=dS (n+1) (ls.drop (n+1)) acts bJ):PS wl w z ls (n+1) ao co ac cc acts bJ:=⟨h.keep,h.tree,hgo,h.la,h.lc⟩
theorem PS.SL{wl wr w5 w6:World}{z:List aZ×Int}{ls:Sp.LS}{n:Nat}{ao:Option Addr}{co:Nat}{ac:Option Addr}{cc:Nat}{acts:List aZ}{bJ:List aK}(hP:PS wl wr z ls n ao co ac cc acts bJ)(hb:Below wr.heap.size wr w5)
 {a:aZ} {vc:Value} (ha:aay a) {xs:List Value} (hxs:w5.ownsRow 0 53 5 (.slice ao acts.length co) acts.length xs) {g cap:Nat} (hown:w6.ownsRow 0 53 5 (.slice (some ⟨g,0,none⟩) (acts.length+1) cap) (acts.length+1) (xs++ab3 a vc))
 (hgrow:w5.grownBy w6 (Value.slice ao acts.length co).ownBlock) (hat:(Value.slice ao acts.length co).ownBlock=some g\/g=w5.heap.size) (hg:g<w6.heap.size) (h6:acts.length<40)
 {aeW:List aK} {ac2:Option Addr} {cc2:Nat} (hgo:z=dS (n+1) (ls.drop (n+1)) (acts++[a]) aeW)
 (hcase:(vc=.slice ac bJ.length cc/\a.2.2.1=bJ/\aeW=[]/\ac2=none/\cc2=0)\/((∃a5 c5,vc=.slice a5 0 c5)/\a.2.2.1=[]/\aeW=bJ/\ac2=ac/\cc2=cc)):
 PS wl w6 z ls (n+1) (some ⟨g,0,none⟩) cap ac2 cc2 (acts++[a]) aeW:=by
 have lG:=hP.below hb;have hs5:=hb.size;obtain⟨F1,F2,h1,h2,h3,h4⟩:=hP.tree;have h15:=h1.keep (w':=w5) λb hb2=>hb.block b (h3 b hb2).2.1;have h25:=h2.keep (w':=w5) λb hb2=>hb.block b (h4 b hb2).2;have hv:∀b,(Value.slice ao acts.length co).ownBlock=some b->F1 b:=by obtain⟨_,_,_,_,h,_⟩:=h1;exact h
 have hs6:=hgrow.size;have hk:=hP.keep.size;have h26:=h25.keep (w':=w6) λb hb2=>hgrow.block b (by have:=(h4 b hb2).2;omega) λe=>(h3 b (hv b e.symm)).2.2 hb2;have ajn:¬F2 g:=λhf=>by
  rcases hat with h|h
  .exact(h3 g (hv g h)).2.2 hf
  .have:=(h4 g hf).2;omega
 have hgl:wl.heap.size<=g:=by
  rcases hat with h|h
  .have:=h3 g (hv g h);omega
  .omega
 have hgF:F1 g->(Value.slice ao acts.length co).ownBlock=some g:=λhf=>by
  rcases hat with h|h
  .exact h
  .have:=(h3 g hf).2.1;omega
 have ahR:∀b,F1 b->(Value.slice ao acts.length co).ownBlock≠some b->w6.heap[b]? =w5.heap[b]? :=λb hb2 hn=>hgrow.block b (by have:=(h3 b hb2).2.1;omega) λe=>hn e.symm;have hlen:(acts++[a]).length=acts.length+1:=by rw[anm];rfl
 have base:=lG.keep.grown hgrow lG.keep.size λb hb2=>(h3 b (hv b hb2)).1;rcases hcase with⟨rfl,hcs,rfl,rfl,rfl⟩|⟨⟨a5,c5,rfl⟩,hcs,rfl,rfl,rfl⟩
 .refine⟨base,⟨λb=>(F1 b/\(Value.slice ao acts.length co).ownBlock≠some b)\/b=g\/F2 b,λ_=>False,?_,CT.nil (aoE _ 0 39 9) (λb hb2=>by cases hb2),λb hb2=>⟨?_,?_,λh=>h⟩,λb hb2=>hb2.elim⟩,hgo,by rw[hlen];exact h6,ant _⟩
  .rw[hlen];refine h15.push (vc:=.slice ac bJ.length cc) (Fc:=F2) ahR (λys hy=>by rw[← VJ hxs hy];exact hown) ha (.inr (by rw[hcs];exact h26)) (λb hb2=>?_) (λb hb2 hn=>.inl ⟨hb2,hn⟩) (λb hb2=>⟨.inr (.inr hb2),λhf=>(h3 b hf).2.2 hb2⟩);obtain rfl:g=b:=Option.some.inj hb2;exact⟨.inr (.inl rfl),hgF,ajn⟩
  .rcases hb2 with⟨hf,_⟩|rfl|hf
   .exact(h3 b hf).1
   .exact hgl
   .exact(h4 b hf).1
  .rcases hb2 with⟨hf,_⟩|rfl|hf
   .have:=(h3 b hf).2.1;omega
   .exact hg
   .have:=(h4 b hf).2;omega
 .refine⟨base,⟨λb=>(F1 b/\(Value.slice ao acts.length co).ownBlock≠some b)\/b=g,F2,?_,h26,λb hb2=>⟨?_,?_,?_⟩,λb hb2=>⟨(h4 b hb2).1,by have:=(h4 b hb2).2;omega⟩⟩,hgo,by rw[hlen];exact h6,hP.lc⟩
  .rw[hlen];refine h15.push (vc:=.slice a5 0 c5) (Fc:=λ_=>False) ahR (λys hy=>by rw[← VJ hxs hy];exact hown) ha (.inl ⟨hcs,_,_,rfl⟩) (λb hb2=>?_) (λb hb2 hn=>.inl ⟨hb2,hn⟩) (λb hb2=>hb2.elim);obtain rfl:g=b:=Option.some.inj hb2;exact⟨.inr rfl,hgF,λh=>h⟩
  .rcases hb2 with⟨hf,_⟩|rfl
   .exact(h3 b hf).1
   .exact hgl
  .rcases hb2 with⟨hf,_⟩|rfl
   .have:=(h3 b hf).2.1;omega
   .exact hg
  .rcases hb2 with⟨hf,_⟩|rfl
   .exact(h3 b hf).2.2
   .exact ajn
theorem SN{w:World}(o p:Obj){b:Nat}(h:b<w.heap.size):((w.alloc o).alloc p).heap[b]? =w.heap[b]? :=(heap_alloc_old _ p (by simp;omega)).trans (heap_alloc_old w o h)
theorem ab6(w:World)(o p:Obj):((w.alloc o).alloc p).heap.size=w.heap.size+2:=by simp
set_option maxHeartbeats 16000000 in
theorem ag4(s:List UInt8)(hs:s.length<=1048576)(W:World)(hG:G.ok W):Calls prog 28 #[.string ⟨s.toArray⟩] W λe w'=>
 ∃a c,e=.returned (.tuple #[.slice a (Sp.scr s).1.length c,.int .i64 (Sp.scr s).2])/\Below W.heap.size W w'/\∃F,AT w' (.slice a (Sp.scr s).1.length c) (Sp.scr s).1 F/\∀b,F b->W.heap.size<=b/\b<w'.heap.size:=by
 have mixed:=Tryz.mixed;rcases anL 8000 s.length with hlen|hlen
 .have hl:(8000:Int)<s.length:=by omega
  have e1:Sp.scr s=([],-1):=by unfold Sp.scr;rw[anF hl];rfl
  rw[e1]
  go_enter Tryz.func28,Tryz.ntmps28
  go_wp2
  all_goals go_ret2
  all_goals exact⟨none,0,rfl,Below.refl _ _,λ_=>False,AT.nil (aoE W 0 53 5) (λb hb=>by cases hb),λb hb=>hb.elim⟩
 .have hl:¬(8000:Int)<s.length:=by omega
  have sp:=aeV s hs W hG;have hlp:=QI (c:=10) (s:=s);have hpl:=Sp.pieces_len 10 s;have e1:Sp.scr s=dS 0 (Sp.pieces 10 s) [] []:=by unfold Sp.scr;rw[anM (by omega)];rfl
  generalize Sp.scr s=z at e1 ⊢;generalize Sp.pieces 10 s=ls at sp hlp hpl e1
  go_enter Tryz.func28,Tryz.ntmps28
  go_wp2_with (first
   |(go_at_call 46;refine anU sp ?_;rintro e w1 ⟨v,rfl,hf,hb1⟩;obtain⟨al,cl,ev⟩:=hf.form;subst ev;clear sp))
  go_loopw [5,6,24] (λvo vc i wr=>∃(n:Nat)(acts:List aZ)(bJ:List aK)(ao:Option Addr)(co:Nat)(ac:Option Addr)(cc:Nat),n<=ls.length/\vo=.slice ao acts.length co/\vc=.slice ac bJ.length cc/\i=.int .i64 n/\PS w1 wr z ls n ao co ac cc acts bJ)
   (λ_ _ i _=>ls.length-(intOf i).toNat)
  case atStart=>
   have k0:=(heap_alloc_old (w1.alloc (Obj.cells #[] 53 (0,0))) (Obj.cells #[] 39 (0,0)) (by simp)).trans (aof w1 (Obj.cells #[] 53 (0,0)));have k1:=aof (w1.alloc (Obj.cells #[] 53 (0,0))) (Obj.cells #[] 39 (0,0));rw[show(w1.alloc (Obj.cells #[] 53 (0,0))).heap.size=w1.heap.size+1 by simp]at k1;refine⟨0,[],[],some ⟨w1.heap.size,0,none⟩,0,some ⟨w1.heap.size+1,0,none⟩,0,ant _,rfl,rfl,rfl,((Below.refl _ _).alloc (anr _) _).alloc (by simp) _,⟨λb=>b=w1.heap.size,λb=>b=w1.heap.size+1,AT.nil ⟨rfl,.inr ⟨_,0,#[],rfl,ant _,k0,anr _,ant _,rfl,rfl⟩⟩ (λb hb=>(Option.some.inj hb).symm),CT.nil ⟨rfl,.inr ⟨_,0,#[],rfl,ant _,k1,anr _,ant _,rfl,rfl⟩⟩ (λb hb=>(Option.some.inj hb).symm),λb hb=>?_,λb hb=>?_⟩,e1,ant _,ant _⟩
   .subst hb;simp;omega
   .subst hb;simp
  case round=>
   obtain⟨n,acts,bJ,ao,co,ac,cc,hn,rfl,rfl,rfl,hP⟩:=hrel;rcases anL n ls.length with hlt|hge
   .have hlt':((n:Nat):Int)<ls.length:=by omega
    obtain⟨bl,off,rfl,hbl,hcl⟩:=hf.cell hlt;have hcl:=(hP.keep.cell (p:=⟨bl,off+n,none⟩) hbl).trans hcl;have hLl:=anx (hlp _ (getD_mem (d:=([],())) hlt)) hlen;have hz:=hP.go;rw[drop_cons ls n ([],()) hlt,dS]at hz;generalize hLe:(ls.getD n ([],())).1=L at hcl hLl hz;have wB:G.ok wr:=dh hG (hb1.trans (hP.keep.mono hb1.size));have sf:=adN L (by omega) wr wB;cases hok:bZ L with
    |false=>
     rw[hok]at sf;rw[show Sp.skipped L=false by unfold Sp.skipped;rw[hok];rfl]at hz;have hz:z=bif dB L then bif decide ((bJ.length:Int)>=6)then([],(n:Int)+1)else dS (n+1) (ls.drop (n+1)) acts (bJ++[bK L])else
      bif !cu L||decide ((acts.length:Int)>=40)then([],(n:Int)+1)else
      bif (bM L).1==1||(bM L).1==2 then dS (n+1) (ls.drop (n+1)) (acts++[AB (bM L) bJ]) []else dS (n+1) (ls.drop (n+1)) (acts++[bM L]) bJ:=hz
     have pc:=λw hG=>agf L (by omega) w hG;have pa:=λw hG=>adW L (by omega) w hG;generalize bK L=c at pc hz;obtain⟨k,f0,f1,f2,f3,at',id,nm,q,⟨⟩⟩:=c;dsimp only at pc;cases hpc:dB L with
     |true=>
      rw[hpc]at pc hz;rcases anL bJ.length 6 with h6|h6
      .have h6':¬(6:Int)<=bJ.length:=by omega
       have hgo:z=dS (n+1) (ls.drop (n+1)) acts (bJ++[(k,f0,f1,f2,f3,at',id,nm,q,())]):=by rw[hz,anM (show ¬((bJ.length:Int)>=6) by omega)];rfl
       clear hz;obtain⟨i0,hi,hz0,hz1,hz2⟩:=aoV agh
       go_wp2_with (first
        |(go_at_call 66;refine anU sf ?_;rintro e w2 ⟨v2,rfl,hf2,hb2⟩;obtain⟨a2,c2,e2⟩:=hf2.form;subst e2;clear sf)
        |(go_at_call 13;refine anU (pc w2 (dh wB hb2)) ?_;rintro e w3 ⟨a3,c3,a4,c4,rfl,hb3,hc3,IL,hq3,hlt3,BB⟩;have ji:=hb2.trans (hb3.mono hb2.size);have hb5:=below2 ji (Obj.cells #[.int .i64 k,.int .i64 f0,.int .i64 f1,.bool f2,.int .i64 f3,.slice a3 at'.length c3,.int .i64 id,.string ⟨nm.toArray⟩,.slice a4 q.length c4] 39 (0,0)) (Obj.cells #[.int .i64 k,.int .i64 f0,.int .i64 f1,.bool f2,.int .i64 f3,.slice a3 at'.length c3,.int .i64 id,.string ⟨nm.toArray⟩,.slice a4 q.length c4] 39 (0,0));obtain⟨F1,F2,_,⟨xs,_,hxs,_⟩,_⟩:=(hP.below hb5).tree;have IQ:=Rz w3 (Obj.cells #[.int .i64 k,.int .i64 f0,.int .i64 f1,.bool f2,.int .i64 f3,.slice a3 at'.length c3,.int .i64 id,.string ⟨nm.toArray⟩,.slice a4 q.length c4] 39 (0,0)) (Obj.cells #[.int .i64 k,.int .i64 f0,.int .i64 f1,.bool f2,.int .i64 f3,.slice a3 at'.length c3,.int .i64 id,.string ⟨nm.toArray⟩,.slice a4 q.length c4] 39 (0,0)))
        |(at_builtin;refine wpList_append_lies _ rfl _ _ 51 (by rfl) 0 39 i0 ab5 9 112 ahP hi hz0 hz1 hz2 rfl (by decide) (.slice ac bJ.length cc) bJ.length xs (by rfl) hxs ⟨w3.heap.size+1,0,none⟩ 1 1 [.int .i64 k,.int .i64 f0,.int .i64 f1,.bool f2,.int .i64 f3,.slice a3 at'.length c3,.int .i64 id,.string ⟨nm.toArray⟩,.slice a4 q.length c4] (by rfl) rfl (World.news_of_block IQ) (by intro u hu;simp at hu;rcases hu with rfl|rfl|rfl|rfl|rfl|rfl|rfl|rfl|rfl<;>rfl) (by decide) (by rw[maxLen_eq];omega) (by omega) (ant _) _ rfl ?_;intro g cap w6 hown6 hgrow6 BD BF))
       have hs3:=ab6 w3 (Obj.cells #[.int .i64 k,.int .i64 f0,.int .i64 f1,.bool f2,.int .i64 f3,.slice a3 at'.length c3,.int .i64 id,.string ⟨nm.toArray⟩,.slice a4 q.length c4] 39 (0,0)) (Obj.cells #[.int .i64 k,.int .i64 f0,.int .i64 f1,.bool f2,.int .i64 f3,.slice a3 at'.length c3,.int .i64 id,.string ⟨nm.toArray⟩,.slice a4 q.length c4] 39 (0,0));have hl3:=hb2.size;exact⟨⟨n+1,acts,bJ++[(k,f0,f1,f2,f3,at',id,nm,q,())],ao,co,some ⟨g,0,none⟩,cap,hlt,rfl,by rw[anm];rfl,rfl,hP.ahQ hb5 hc3 (IL.keep λb hb=>SN _ _ (hlt3 b (.inl hb)).2) (hq3.keep λb hb=>SN _ _ (hlt3 b (.inr hb)).2) (λb hb=>by have:=hlt3 b hb;omega) BB hxs hown6 hgrow6 BD BF hgo h6⟩,by simp only[intOf];omega⟩
      .have h6':(6:Int)<=bJ.length:=by omega
       obtain rfl:z=([],(n:Int)+1):=by rw[hz,anF (show(bJ.length:Int)>=6 by omega)];rfl
       clear hz
       go_wp2_with (first
        |(go_at_call 66;refine anU sf ?_;rintro e w2 ⟨v2,rfl,hf2,hb2⟩;obtain⟨a2,c2,e2⟩:=hf2.form;subst e2;clear sf)
        |(go_at_call 13;refine anU (pc w2 (dh wB hb2)) ?_;rintro e w3 ⟨a3,c3,a4,c4,rfl,hb3,hc3,IL,hq3,hlt3,BB⟩;have ji:=hb2.trans (hb3.mono hb2.size);have hb4:=ji.alloc ji.size (Obj.cells #[.int .i64 k,.int .i64 f0,.int .i64 f1,.bool f2,.int .i64 f3,.slice a3 at'.length c3,.int .i64 id,.string ⟨nm.toArray⟩,.slice a4 q.length c4] 39 (0,0))))
       all_goals go_ret2
       all_goals exact⟨none,0,rfl,hb1.trans ((hP.keep.mono hb1.size).trans (hb4.mono (anx hb1.size hP.keep.size))),λ_=>False,AT.nil (aoE _ 0 53 5) (λb hb=>by cases hb),λb hb=>hb.elim⟩
     |false=>
      rw[hpc]at pc hz;have hz:z=bif !cu L||decide ((acts.length:Int)>=40)then([],(n:Int)+1)else bif (bM L).1==1||(bM L).1==2 then dS (n+1) (ls.drop (n+1)) (acts++[AB (bM L) bJ]) []else dS (n+1) (ls.drop (n+1)) (acts++[bM L]) bJ:=hz
      have hcs:=Bf L;generalize bM L=a at pa hz hcs;obtain⟨ak,au,acs,an,aa,⟨⟩⟩:=a;dsimp only at pa hcs hz;subst hcs;cases hao:cu L with
      |false=>
       rw[hao]at pa hz;obtain rfl:z=([],(n:Int)+1):=hz
       go_wp2_with (first
        |(go_at_call 66;refine anU sf ?_;rintro e w2 ⟨v2,rfl,hf2,hb2⟩;obtain⟨a2,c2,e2⟩:=hf2.form;subst e2;clear sf)
        |(go_at_call 13;refine anU (pc w2 (dh wB hb2)) ?_;rintro e w3 ⟨a3,c3,a4,c4,rfl,hb3,hc3,IL,hq3,hlt3,BB⟩;have ji:=hb2.trans (hb3.mono hb2.size);have hb4:=ji.alloc ji.size (Obj.cells #[.int .i64 k,.int .i64 f0,.int .i64 f1,.bool f2,.int .i64 f3,.slice a3 at'.length c3,.int .i64 id,.string ⟨nm.toArray⟩,.slice a4 q.length c4] 39 (0,0)))
        |(go_at_call 21;refine anU (pa (w3.alloc (Obj.cells #[.int .i64 k,.int .i64 f0,.int .i64 f1,.bool f2,.int .i64 f3,.slice a3 at'.length c3,.int .i64 id,.string ⟨nm.toArray⟩,.slice a4 q.length c4] 39 (0,0))) (dh wB hb4)) ?_;rintro e w4 ⟨a5,c5,rfl,hb6,hk5⟩;have rV:=hb4.trans (hb6.mono hb4.size);have hb7:=rV.alloc rV.size (Obj.cells #[.int .i64 ak,.int .i64 au,.slice a5 0 c5,.string ⟨an.toArray⟩,.int .i64 aa] 53 (0,0))))
       all_goals go_ret2
       all_goals exact⟨none,0,rfl,hb1.trans ((hP.keep.mono hb1.size).trans (hb7.mono (anx hb1.size hP.keep.size))),λ_=>False,AT.nil (aoE _ 0 53 5) (λb hb=>by cases hb),λb hb=>hb.elim⟩
      |true=>
       rw[hao]at pa hz;rcases anL acts.length 40 with h6|h6
       .have h6':¬(40:Int)<=acts.length:=by omega
        have hz:z=bif ak==1||ak==2 then dS (n+1) (ls.drop (n+1)) (acts++[AB (ak,au,[],an,aa,()) bJ]) []else dS (n+1) (ls.drop (n+1)) (acts++[(ak,au,[],an,aa,())]) bJ:=by rw[hz,anM (show ¬((acts.length:Int)>=40) by omega)];rfl
        obtain⟨i0,hi,hz0,hz1,hz2⟩:=aoV agi;rcases(show ak=1\/ak=2\/(ak≠1/\ak≠2) by omega)with rfl|rfl|hk
        .have hgo:z=dS (n+1) (ls.drop (n+1)) (acts++[(1,au,bJ,an,aa,())]) []:=hz;clear hz
         go_wp2_with (first
          |(go_at_call 66;refine anU sf ?_;rintro e w2 ⟨v2,rfl,hf2,hb2⟩;obtain⟨a2,c2,e2⟩:=hf2.form;subst e2;clear sf)
          |(go_at_call 13;refine anU (pc w2 (dh wB hb2)) ?_;rintro e w3 ⟨a3,c3,a4,c4,rfl,hb3,hc3,IL,hq3,hlt3,BB⟩;have ji:=hb2.trans (hb3.mono hb2.size);have hb4:=ji.alloc ji.size (Obj.cells #[.int .i64 k,.int .i64 f0,.int .i64 f1,.bool f2,.int .i64 f3,.slice a3 at'.length c3,.int .i64 id,.string ⟨nm.toArray⟩,.slice a4 q.length c4] 39 (0,0)))
          |(go_at_call 21;refine anU (pa (w3.alloc (Obj.cells #[.int .i64 k,.int .i64 f0,.int .i64 f1,.bool f2,.int .i64 f3,.slice a3 at'.length c3,.int .i64 id,.string ⟨nm.toArray⟩,.slice a4 q.length c4] 39 (0,0))) (dh wB hb4)) ?_;rintro e w4 ⟨a5,c5,rfl,hb6,hk5⟩;have rV:=hb4.trans (hb6.mono hb4.size);have hb5:=below2 rV (Obj.cells #[.int .i64 1,.int .i64 au,.slice ac bJ.length cc,.string ⟨an.toArray⟩,.int .i64 aa] 53 (0,0)) (Obj.cells #[.int .i64 1,.int .i64 au,.slice ac bJ.length cc,.string ⟨an.toArray⟩,.int .i64 aa] 53 (0,0));obtain⟨F1,F2,⟨xs,_,_,hxs,_⟩,_⟩:=(hP.below hb5).tree;have IQ:=Rz w4 (Obj.cells #[.int .i64 1,.int .i64 au,.slice ac bJ.length cc,.string ⟨an.toArray⟩,.int .i64 aa] 53 (0,0)) (Obj.cells #[.int .i64 1,.int .i64 au,.slice ac bJ.length cc,.string ⟨an.toArray⟩,.int .i64 aa] 53 (0,0)))
          |(at_builtin;refine wpList_append_lies _ rfl _ _ 59 (by rfl) 0 53 i0 IK 5 64 SK hi hz0 hz1 hz2 rfl (by decide) (.slice ao acts.length co) acts.length xs (by rfl) hxs ⟨w4.heap.size+1,0,none⟩ 1 1 [.int .i64 1,.int .i64 au,.slice ac bJ.length cc,.string ⟨an.toArray⟩,.int .i64 aa] (by rfl) rfl (World.news_of_block IQ) (by intro u hu;simp at hu;rcases hu with rfl|rfl|rfl|rfl|rfl<;>rfl) (by decide) (by rw[maxLen_eq];omega) (by omega) (ant _) _ rfl ?_;intro g cap w6 hown6 hgrow6 BD BF))
         exact⟨⟨n+1,acts++[(1,au,bJ,an,aa,())],[],some ⟨g,0,none⟩,cap,none,0,hlt,by rw[anm];rfl,rfl,rfl,hP.SL (a:=(1,au,bJ,an,aa,())) hb5 hk5 hxs hown6 hgrow6 BD BF h6 hgo (.inl ⟨rfl,rfl,rfl,rfl,rfl⟩)⟩,by simp only[intOf];omega⟩
        .have hgo:z=dS (n+1) (ls.drop (n+1)) (acts++[(2,au,bJ,an,aa,())]) []:=hz;clear hz
         go_wp2_with (first
          |(go_at_call 66;refine anU sf ?_;rintro e w2 ⟨v2,rfl,hf2,hb2⟩;obtain⟨a2,c2,e2⟩:=hf2.form;subst e2;clear sf)
          |(go_at_call 13;refine anU (pc w2 (dh wB hb2)) ?_;rintro e w3 ⟨a3,c3,a4,c4,rfl,hb3,hc3,IL,hq3,hlt3,BB⟩;have ji:=hb2.trans (hb3.mono hb2.size);have hb4:=ji.alloc ji.size (Obj.cells #[.int .i64 k,.int .i64 f0,.int .i64 f1,.bool f2,.int .i64 f3,.slice a3 at'.length c3,.int .i64 id,.string ⟨nm.toArray⟩,.slice a4 q.length c4] 39 (0,0)))
          |(go_at_call 21;refine anU (pa (w3.alloc (Obj.cells #[.int .i64 k,.int .i64 f0,.int .i64 f1,.bool f2,.int .i64 f3,.slice a3 at'.length c3,.int .i64 id,.string ⟨nm.toArray⟩,.slice a4 q.length c4] 39 (0,0))) (dh wB hb4)) ?_;rintro e w4 ⟨a5,c5,rfl,hb6,hk5⟩;have rV:=hb4.trans (hb6.mono hb4.size);have hb5:=below2 rV (Obj.cells #[.int .i64 2,.int .i64 au,.slice ac bJ.length cc,.string ⟨an.toArray⟩,.int .i64 aa] 53 (0,0)) (Obj.cells #[.int .i64 2,.int .i64 au,.slice ac bJ.length cc,.string ⟨an.toArray⟩,.int .i64 aa] 53 (0,0));obtain⟨F1,F2,⟨xs,_,_,hxs,_⟩,_⟩:=(hP.below hb5).tree;have IQ:=Rz w4 (Obj.cells #[.int .i64 2,.int .i64 au,.slice ac bJ.length cc,.string ⟨an.toArray⟩,.int .i64 aa] 53 (0,0)) (Obj.cells #[.int .i64 2,.int .i64 au,.slice ac bJ.length cc,.string ⟨an.toArray⟩,.int .i64 aa] 53 (0,0)))
          |(at_builtin;refine wpList_append_lies _ rfl _ _ 59 (by rfl) 0 53 i0 IK 5 64 SK hi hz0 hz1 hz2 rfl (by decide) (.slice ao acts.length co) acts.length xs (by rfl) hxs ⟨w4.heap.size+1,0,none⟩ 1 1 [.int .i64 2,.int .i64 au,.slice ac bJ.length cc,.string ⟨an.toArray⟩,.int .i64 aa] (by rfl) rfl (World.news_of_block IQ) (by intro u hu;simp at hu;rcases hu with rfl|rfl|rfl|rfl|rfl<;>rfl) (by decide) (by rw[maxLen_eq];omega) (by omega) (ant _) _ rfl ?_;intro g cap w6 hown6 hgrow6 BD BF))
         exact⟨⟨n+1,acts++[(2,au,bJ,an,aa,())],[],some ⟨g,0,none⟩,cap,none,0,hlt,by rw[anm];rfl,rfl,rfl,hP.SL (a:=(2,au,bJ,an,aa,())) hb5 hk5 hxs hown6 hgrow6 BD BF h6 hgo (.inl ⟨rfl,rfl,rfl,rfl,rfl⟩)⟩,by simp only[intOf];omega⟩
        .obtain⟨hk1,hk2⟩:¬ak=1/\¬ak=2:=hk;have hgo:z=dS (n+1) (ls.drop (n+1)) (acts++[(ak,au,[],an,aa,())]) bJ:=by rw[hz,ann.2 hk1,ann.2 hk2];rfl
         have alS:(ak==1)=false:=ann.2 hk1;have hkb2:(ak==2)=false:=ann.2 hk2;clear hk1 hk2;clear hz
         go_wp2_with (first
          |(go_at_call 66;refine anU sf ?_;rintro e w2 ⟨v2,rfl,hf2,hb2⟩;obtain⟨a2,c2,e2⟩:=hf2.form;subst e2;clear sf)
          |(go_at_call 13;refine anU (pc w2 (dh wB hb2)) ?_;rintro e w3 ⟨a3,c3,a4,c4,rfl,hb3,hc3,IL,hq3,hlt3,BB⟩;have ji:=hb2.trans (hb3.mono hb2.size);have hb4:=ji.alloc ji.size (Obj.cells #[.int .i64 k,.int .i64 f0,.int .i64 f1,.bool f2,.int .i64 f3,.slice a3 at'.length c3,.int .i64 id,.string ⟨nm.toArray⟩,.slice a4 q.length c4] 39 (0,0)))
          |(go_at_call 21;refine anU (pa (w3.alloc (Obj.cells #[.int .i64 k,.int .i64 f0,.int .i64 f1,.bool f2,.int .i64 f3,.slice a3 at'.length c3,.int .i64 id,.string ⟨nm.toArray⟩,.slice a4 q.length c4] 39 (0,0))) (dh wB hb4)) ?_;rintro e w4 ⟨a5,c5,rfl,hb6,hk5⟩;have rV:=hb4.trans (hb6.mono hb4.size);have hb5:=below2 rV (Obj.cells #[.int .i64 ak,.int .i64 au,.slice a5 0 c5,.string ⟨an.toArray⟩,.int .i64 aa] 53 (0,0)) (Obj.cells #[.int .i64 ak,.int .i64 au,.slice a5 0 c5,.string ⟨an.toArray⟩,.int .i64 aa] 53 (0,0));obtain⟨F1,F2,⟨xs,_,_,hxs,_⟩,_⟩:=(hP.below hb5).tree;have IQ:=Rz w4 (Obj.cells #[.int .i64 ak,.int .i64 au,.slice a5 0 c5,.string ⟨an.toArray⟩,.int .i64 aa] 53 (0,0)) (Obj.cells #[.int .i64 ak,.int .i64 au,.slice a5 0 c5,.string ⟨an.toArray⟩,.int .i64 aa] 53 (0,0)))
          |(at_builtin;refine wpList_append_lies _ rfl _ _ 59 (by rfl) 0 53 i0 IK 5 64 SK hi hz0 hz1 hz2 rfl (by decide) (.slice ao acts.length co) acts.length xs (by rfl) hxs ⟨w4.heap.size+1,0,none⟩ 1 1 [.int .i64 ak,.int .i64 au,.slice a5 0 c5,.string ⟨an.toArray⟩,.int .i64 aa] (by rfl) rfl (World.news_of_block IQ) (by intro u hu;simp at hu;rcases hu with rfl|rfl|rfl|rfl|rfl<;>rfl) (by decide) (by rw[maxLen_eq];omega) (by omega) (ant _) _ rfl ?_;intro g cap w6 hown6 hgrow6 BD BF))
         exact⟨⟨n+1,acts++[(ak,au,[],an,aa,())],bJ,some ⟨g,0,none⟩,cap,ac,cc,hlt,by rw[anm];rfl,rfl,rfl,hP.SL hb5 hk5 hxs hown6 hgrow6 BD BF h6 hgo (.inr ⟨⟨_,_,rfl⟩,rfl,rfl,rfl,rfl⟩)⟩,by simp only[intOf];omega⟩
       .have h6':(40:Int)<=acts.length:=by omega
        obtain rfl:z=([],(n:Int)+1):=by rw[hz,anF (show(acts.length:Int)>=40 by omega)];rfl
        clear hz
        go_wp2_with (first
         |(go_at_call 66;refine anU sf ?_;rintro e w2 ⟨v2,rfl,hf2,hb2⟩;obtain⟨a2,c2,e2⟩:=hf2.form;subst e2;clear sf)
         |(go_at_call 13;refine anU (pc w2 (dh wB hb2)) ?_;rintro e w3 ⟨a3,c3,a4,c4,rfl,hb3,hc3,IL,hq3,hlt3,BB⟩;have ji:=hb2.trans (hb3.mono hb2.size);have hb4:=ji.alloc ji.size (Obj.cells #[.int .i64 k,.int .i64 f0,.int .i64 f1,.bool f2,.int .i64 f3,.slice a3 at'.length c3,.int .i64 id,.string ⟨nm.toArray⟩,.slice a4 q.length c4] 39 (0,0)))
         |(go_at_call 21;refine anU (pa (w3.alloc (Obj.cells #[.int .i64 k,.int .i64 f0,.int .i64 f1,.bool f2,.int .i64 f3,.slice a3 at'.length c3,.int .i64 id,.string ⟨nm.toArray⟩,.slice a4 q.length c4] 39 (0,0))) (dh wB hb4)) ?_;rintro e w4 ⟨a5,c5,rfl,hb6,hk5⟩;have rV:=hb4.trans (hb6.mono hb4.size);have hb7:=rV.alloc rV.size (Obj.cells #[.int .i64 ak,.int .i64 au,.slice a5 0 c5,.string ⟨an.toArray⟩,.int .i64 aa] 53 (0,0))))
        all_goals go_ret2
        all_goals exact⟨none,0,rfl,hb1.trans ((hP.keep.mono hb1.size).trans (hb7.mono (anx hb1.size hP.keep.size))),λ_=>False,AT.nil (aoE _ 0 53 5) (λb hb=>by cases hb),λb hb=>hb.elim⟩
    |true=>
     rw[hok]at sf;have hsk:Sp.skipped L=((ai L==[])||((ai L).getD 0 ([],())).1.getD 0 0==35):=by unfold Sp.skipped;rw[hok];rfl
     have hso:=Bd L;rw[← (ku hok).1]at hso;generalize ai L=f at sf hsk hso;rcases f with _|⟨⟨x,⟨⟩⟩,f⟩
     .rw[hsk]at hz;have hgo:z=dS (n+1) (ls.drop (n+1)) acts bJ:=hz;clear hz hsk hso
      go_wp2_with (first
       |(go_at_call 66;refine anU sf ?_;rintro e w2 ⟨v2,rfl,hf2,hb2⟩;obtain⟨a2,c2,e2⟩:=hf2.form;have e2:v2=.slice a2 0 c2:=e2;subst e2;clear sf))
      all_goals exact⟨⟨n+1,acts,bJ,ao,co,ac,cc,hlt,rfl,rfl,rfl,(hP.below hb2).next hgo⟩,by simp only[intOf];omega⟩
     .obtain⟨b0,x,rfl⟩:∃b0 y,x=b0::y:=by
       have:=(hso (x,()) anC).1;cases x with
       |nil=>exact absurd rfl this
       |cons b y=>exact⟨b,y,rfl⟩
      clear hso;have hsk:Sp.skipped L=(b0==35):=hsk;have hne0:(((f.length:Int)+1)==0)=false:=ann.2 (by omega);by_cases h35:b0=35
      .rw[hsk,anH.2 h35]at hz;have hgo:z=dS (n+1) (ls.drop (n+1)) acts bJ:=hz;clear hz hsk;obtain⟨S,hS⟩:∃S:ByteArray,Hid (S=⟨(b0::x).toArray⟩):=⟨_,rfl⟩;have hS1:0<S.size:=by rw[hS.out];exact aoA _
       have hS2:∀h:0<S.size,(((S[0]'h).toNat:Int)==35)=true:=by have hS3:S=⟨(b0::x).toArray⟩:=hS.out;clear hS hS1;subst hS3;intro h;show((b0.toNat:Int)==35)=_;rw[h35];rfl
       go_wp2_with (first
        |(go_at_call 66;refine anU sf ?_;rintro e w2 ⟨v2,rfl,hf2,hb2⟩;obtain⟨a2,c2,e2⟩:=hf2.form;have e2:v2=.slice a2 (f.length+1) c2:=e2;subst e2;obtain⟨b2,o2,e2,-,cw⟩:=FW.cell (a:=a2) (c:=c2) (f:=(b0::x,())::f) hf2 (n:=0) (aoA _);subst e2;have cw:w2.cell? ⟨b2,o2,none⟩=some (.string ⟨(b0::x).toArray⟩):=cw;rw[← hS.out]at cw;clear sf))
       all_goals exact⟨⟨n+1,acts,bJ,ao,co,ac,cc,hlt,rfl,rfl,rfl,(hP.below hb2).next hgo⟩,by simp only[intOf];omega⟩
      .rw[hsk,ann.2 h35]at hz;clear hsk;have alT:¬(b0.toNat:Int)=35:=λe=>h35 (aqd.1 (by show _=35;omega));obtain⟨S,hS⟩:∃S:ByteArray,Hid (S=⟨(b0::x).toArray⟩):=⟨_,rfl⟩;have hS1:0<S.size:=by rw[hS.out];exact aoA _
       have hS2:∀h:0<S.size,(((S[0]'h).toNat:Int)==35)=false:=by have hS3:S=⟨(b0::x).toArray⟩:=hS.out;clear hS hS1;subst hS3;intro h;show((b0.toNat:Int)==35)=_;exact ann.2 alT
       have hz:z=bif dB L then bif decide ((bJ.length:Int)>=6)then([],(n:Int)+1)else dS (n+1) (ls.drop (n+1)) acts (bJ++[bK L])else
        bif !cu L||decide ((acts.length:Int)>=40)then([],(n:Int)+1)else
        bif (bM L).1==1||(bM L).1==2 then dS (n+1) (ls.drop (n+1)) (acts++[AB (bM L) bJ]) []else dS (n+1) (ls.drop (n+1)) (acts++[bM L]) bJ:=hz
       have pc:=λw hG=>agf L (by omega) w hG;have pa:=λw hG=>adW L (by omega) w hG;generalize bK L=c at pc hz;obtain⟨k,f0,f1,f2,f3,at',id,nm,q,⟨⟩⟩:=c;dsimp only at pc;cases hpc:dB L with
       |true=>
        rw[hpc]at pc hz;rcases anL bJ.length 6 with h6|h6
        .have h6':¬(6:Int)<=bJ.length:=by omega
         have hgo:z=dS (n+1) (ls.drop (n+1)) acts (bJ++[(k,f0,f1,f2,f3,at',id,nm,q,())]):=by rw[hz,anM (show ¬((bJ.length:Int)>=6) by omega)];rfl
         clear hz;obtain⟨i0,hi,hz0,hz1,hz2⟩:=aoV agh
         go_wp2_with (first
          |(go_at_call 66;refine anU sf ?_;rintro e w2 ⟨v2,rfl,hf2,hb2⟩;obtain⟨a2,c2,e2⟩:=hf2.form;have e2:v2=.slice a2 (f.length+1) c2:=e2;subst e2;obtain⟨b2,o2,e2,-,cw⟩:=FW.cell (a:=a2) (c:=c2) (f:=(b0::x,())::f) hf2 (n:=0) (aoA _);subst e2;have cw:w2.cell? ⟨b2,o2,none⟩=some (.string ⟨(b0::x).toArray⟩):=cw;rw[← hS.out]at cw;clear sf)
          |(go_at_call 13;refine anU (pc w2 (dh wB hb2)) ?_;rintro e w3 ⟨a3,c3,a4,c4,rfl,hb3,hc3,IL,hq3,hlt3,BB⟩;have ji:=hb2.trans (hb3.mono hb2.size);have hb5:=below2 ji (Obj.cells #[.int .i64 k,.int .i64 f0,.int .i64 f1,.bool f2,.int .i64 f3,.slice a3 at'.length c3,.int .i64 id,.string ⟨nm.toArray⟩,.slice a4 q.length c4] 39 (0,0)) (Obj.cells #[.int .i64 k,.int .i64 f0,.int .i64 f1,.bool f2,.int .i64 f3,.slice a3 at'.length c3,.int .i64 id,.string ⟨nm.toArray⟩,.slice a4 q.length c4] 39 (0,0));obtain⟨F1,F2,_,⟨xs,_,hxs,_⟩,_⟩:=(hP.below hb5).tree;have IQ:=Rz w3 (Obj.cells #[.int .i64 k,.int .i64 f0,.int .i64 f1,.bool f2,.int .i64 f3,.slice a3 at'.length c3,.int .i64 id,.string ⟨nm.toArray⟩,.slice a4 q.length c4] 39 (0,0)) (Obj.cells #[.int .i64 k,.int .i64 f0,.int .i64 f1,.bool f2,.int .i64 f3,.slice a3 at'.length c3,.int .i64 id,.string ⟨nm.toArray⟩,.slice a4 q.length c4] 39 (0,0)))
          |(at_builtin;refine wpList_append_lies _ rfl _ _ 51 (by rfl) 0 39 i0 ab5 9 112 ahP hi hz0 hz1 hz2 rfl (by decide) (.slice ac bJ.length cc) bJ.length xs (by rfl) hxs ⟨w3.heap.size+1,0,none⟩ 1 1 [.int .i64 k,.int .i64 f0,.int .i64 f1,.bool f2,.int .i64 f3,.slice a3 at'.length c3,.int .i64 id,.string ⟨nm.toArray⟩,.slice a4 q.length c4] (by rfl) rfl (World.news_of_block IQ) (by intro u hu;simp at hu;rcases hu with rfl|rfl|rfl|rfl|rfl|rfl|rfl|rfl|rfl<;>rfl) (by decide) (by rw[maxLen_eq];omega) (by omega) (ant _) _ rfl ?_;intro g cap w6 hown6 hgrow6 BD BF))
         have hs3:=ab6 w3 (Obj.cells #[.int .i64 k,.int .i64 f0,.int .i64 f1,.bool f2,.int .i64 f3,.slice a3 at'.length c3,.int .i64 id,.string ⟨nm.toArray⟩,.slice a4 q.length c4] 39 (0,0)) (Obj.cells #[.int .i64 k,.int .i64 f0,.int .i64 f1,.bool f2,.int .i64 f3,.slice a3 at'.length c3,.int .i64 id,.string ⟨nm.toArray⟩,.slice a4 q.length c4] 39 (0,0));have hl3:=hb2.size;exact⟨⟨n+1,acts,bJ++[(k,f0,f1,f2,f3,at',id,nm,q,())],ao,co,some ⟨g,0,none⟩,cap,hlt,rfl,by rw[anm];rfl,rfl,hP.ahQ hb5 hc3 (IL.keep λb hb=>SN _ _ (hlt3 b (.inl hb)).2) (hq3.keep λb hb=>SN _ _ (hlt3 b (.inr hb)).2) (λb hb=>by have:=hlt3 b hb;omega) BB hxs hown6 hgrow6 BD BF hgo h6⟩,by simp only[intOf];omega⟩
        .have h6':(6:Int)<=bJ.length:=by omega
         obtain rfl:z=([],(n:Int)+1):=by rw[hz,anF (show(bJ.length:Int)>=6 by omega)];rfl
         clear hz
         go_wp2_with (first
          |(go_at_call 66;refine anU sf ?_;rintro e w2 ⟨v2,rfl,hf2,hb2⟩;obtain⟨a2,c2,e2⟩:=hf2.form;have e2:v2=.slice a2 (f.length+1) c2:=e2;subst e2;obtain⟨b2,o2,e2,-,cw⟩:=FW.cell (a:=a2) (c:=c2) (f:=(b0::x,())::f) hf2 (n:=0) (aoA _);subst e2;have cw:w2.cell? ⟨b2,o2,none⟩=some (.string ⟨(b0::x).toArray⟩):=cw;rw[← hS.out]at cw;clear sf)
          |(go_at_call 13;refine anU (pc w2 (dh wB hb2)) ?_;rintro e w3 ⟨a3,c3,a4,c4,rfl,hb3,hc3,IL,hq3,hlt3,BB⟩;have ji:=hb2.trans (hb3.mono hb2.size);have hb4:=ji.alloc ji.size (Obj.cells #[.int .i64 k,.int .i64 f0,.int .i64 f1,.bool f2,.int .i64 f3,.slice a3 at'.length c3,.int .i64 id,.string ⟨nm.toArray⟩,.slice a4 q.length c4] 39 (0,0))))
         all_goals go_ret2
         all_goals exact⟨none,0,rfl,hb1.trans ((hP.keep.mono hb1.size).trans (hb4.mono (anx hb1.size hP.keep.size))),λ_=>False,AT.nil (aoE _ 0 53 5) (λb hb=>by cases hb),λb hb=>hb.elim⟩
       |false=>
        rw[hpc]at pc hz;have hz:z=bif !cu L||decide ((acts.length:Int)>=40)then([],(n:Int)+1)else bif (bM L).1==1||(bM L).1==2 then dS (n+1) (ls.drop (n+1)) (acts++[AB (bM L) bJ]) []else dS (n+1) (ls.drop (n+1)) (acts++[bM L]) bJ:=hz
        have hcs:=Bf L;generalize bM L=a at pa hz hcs;obtain⟨ak,au,acs,an,aa,⟨⟩⟩:=a;dsimp only at pa hcs hz;subst hcs;cases hao:cu L with
        |false=>
         rw[hao]at pa hz;obtain rfl:z=([],(n:Int)+1):=hz
         go_wp2_with (first
          |(go_at_call 66;refine anU sf ?_;rintro e w2 ⟨v2,rfl,hf2,hb2⟩;obtain⟨a2,c2,e2⟩:=hf2.form;have e2:v2=.slice a2 (f.length+1) c2:=e2;subst e2;obtain⟨b2,o2,e2,-,cw⟩:=FW.cell (a:=a2) (c:=c2) (f:=(b0::x,())::f) hf2 (n:=0) (aoA _);subst e2;have cw:w2.cell? ⟨b2,o2,none⟩=some (.string ⟨(b0::x).toArray⟩):=cw;rw[← hS.out]at cw;clear sf)
          |(go_at_call 13;refine anU (pc w2 (dh wB hb2)) ?_;rintro e w3 ⟨a3,c3,a4,c4,rfl,hb3,hc3,IL,hq3,hlt3,BB⟩;have ji:=hb2.trans (hb3.mono hb2.size);have hb4:=ji.alloc ji.size (Obj.cells #[.int .i64 k,.int .i64 f0,.int .i64 f1,.bool f2,.int .i64 f3,.slice a3 at'.length c3,.int .i64 id,.string ⟨nm.toArray⟩,.slice a4 q.length c4] 39 (0,0)))
          |(go_at_call 21;refine anU (pa (w3.alloc (Obj.cells #[.int .i64 k,.int .i64 f0,.int .i64 f1,.bool f2,.int .i64 f3,.slice a3 at'.length c3,.int .i64 id,.string ⟨nm.toArray⟩,.slice a4 q.length c4] 39 (0,0))) (dh wB hb4)) ?_;rintro e w4 ⟨a5,c5,rfl,hb6,hk5⟩;have rV:=hb4.trans (hb6.mono hb4.size);have hb7:=rV.alloc rV.size (Obj.cells #[.int .i64 ak,.int .i64 au,.slice a5 0 c5,.string ⟨an.toArray⟩,.int .i64 aa] 53 (0,0))))
         all_goals go_ret2
         all_goals exact⟨none,0,rfl,hb1.trans ((hP.keep.mono hb1.size).trans (hb7.mono (anx hb1.size hP.keep.size))),λ_=>False,AT.nil (aoE _ 0 53 5) (λb hb=>by cases hb),λb hb=>hb.elim⟩
        |true=>
         rw[hao]at pa hz;rcases anL acts.length 40 with h6|h6
         .have h6':¬(40:Int)<=acts.length:=by omega
          have hz:z=bif ak==1||ak==2 then dS (n+1) (ls.drop (n+1)) (acts++[AB (ak,au,[],an,aa,()) bJ]) []else dS (n+1) (ls.drop (n+1)) (acts++[(ak,au,[],an,aa,())]) bJ:=by rw[hz,anM (show ¬((acts.length:Int)>=40) by omega)];rfl
          obtain⟨i0,hi,hz0,hz1,hz2⟩:=aoV agi;rcases(show ak=1\/ak=2\/(ak≠1/\ak≠2) by omega)with rfl|rfl|hk
          .have hgo:z=dS (n+1) (ls.drop (n+1)) (acts++[(1,au,bJ,an,aa,())]) []:=hz;clear hz
           go_wp2_with (first
            |(go_at_call 66;refine anU sf ?_;rintro e w2 ⟨v2,rfl,hf2,hb2⟩;obtain⟨a2,c2,e2⟩:=hf2.form;have e2:v2=.slice a2 (f.length+1) c2:=e2;subst e2;obtain⟨b2,o2,e2,-,cw⟩:=FW.cell (a:=a2) (c:=c2) (f:=(b0::x,())::f) hf2 (n:=0) (aoA _);subst e2;have cw:w2.cell? ⟨b2,o2,none⟩=some (.string ⟨(b0::x).toArray⟩):=cw;rw[← hS.out]at cw;clear sf)
            |(go_at_call 13;refine anU (pc w2 (dh wB hb2)) ?_;rintro e w3 ⟨a3,c3,a4,c4,rfl,hb3,hc3,IL,hq3,hlt3,BB⟩;have ji:=hb2.trans (hb3.mono hb2.size);have hb4:=ji.alloc ji.size (Obj.cells #[.int .i64 k,.int .i64 f0,.int .i64 f1,.bool f2,.int .i64 f3,.slice a3 at'.length c3,.int .i64 id,.string ⟨nm.toArray⟩,.slice a4 q.length c4] 39 (0,0)))
            |(go_at_call 21;refine anU (pa (w3.alloc (Obj.cells #[.int .i64 k,.int .i64 f0,.int .i64 f1,.bool f2,.int .i64 f3,.slice a3 at'.length c3,.int .i64 id,.string ⟨nm.toArray⟩,.slice a4 q.length c4] 39 (0,0))) (dh wB hb4)) ?_;rintro e w4 ⟨a5,c5,rfl,hb6,hk5⟩;have rV:=hb4.trans (hb6.mono hb4.size);have hb5:=below2 rV (Obj.cells #[.int .i64 1,.int .i64 au,.slice ac bJ.length cc,.string ⟨an.toArray⟩,.int .i64 aa] 53 (0,0)) (Obj.cells #[.int .i64 1,.int .i64 au,.slice ac bJ.length cc,.string ⟨an.toArray⟩,.int .i64 aa] 53 (0,0));obtain⟨F1,F2,⟨xs,_,_,hxs,_⟩,_⟩:=(hP.below hb5).tree;have IQ:=Rz w4 (Obj.cells #[.int .i64 1,.int .i64 au,.slice ac bJ.length cc,.string ⟨an.toArray⟩,.int .i64 aa] 53 (0,0)) (Obj.cells #[.int .i64 1,.int .i64 au,.slice ac bJ.length cc,.string ⟨an.toArray⟩,.int .i64 aa] 53 (0,0)))
            |(at_builtin;refine wpList_append_lies _ rfl _ _ 59 (by rfl) 0 53 i0 IK 5 64 SK hi hz0 hz1 hz2 rfl (by decide) (.slice ao acts.length co) acts.length xs (by rfl) hxs ⟨w4.heap.size+1,0,none⟩ 1 1 [.int .i64 1,.int .i64 au,.slice ac bJ.length cc,.string ⟨an.toArray⟩,.int .i64 aa] (by rfl) rfl (World.news_of_block IQ) (by intro u hu;simp at hu;rcases hu with rfl|rfl|rfl|rfl|rfl<;>rfl) (by decide) (by rw[maxLen_eq];omega) (by omega) (ant _) _ rfl ?_;intro g cap w6 hown6 hgrow6 BD BF))
           exact⟨⟨n+1,acts++[(1,au,bJ,an,aa,())],[],some ⟨g,0,none⟩,cap,none,0,hlt,by rw[anm];rfl,rfl,rfl,hP.SL (a:=(1,au,bJ,an,aa,())) hb5 hk5 hxs hown6 hgrow6 BD BF h6 hgo (.inl ⟨rfl,rfl,rfl,rfl,rfl⟩)⟩,by simp only[intOf];omega⟩
          .have hgo:z=dS (n+1) (ls.drop (n+1)) (acts++[(2,au,bJ,an,aa,())]) []:=hz;clear hz
           go_wp2_with (first
            |(go_at_call 66;refine anU sf ?_;rintro e w2 ⟨v2,rfl,hf2,hb2⟩;obtain⟨a2,c2,e2⟩:=hf2.form;have e2:v2=.slice a2 (f.length+1) c2:=e2;subst e2;obtain⟨b2,o2,e2,-,cw⟩:=FW.cell (a:=a2) (c:=c2) (f:=(b0::x,())::f) hf2 (n:=0) (aoA _);subst e2;have cw:w2.cell? ⟨b2,o2,none⟩=some (.string ⟨(b0::x).toArray⟩):=cw;rw[← hS.out]at cw;clear sf)
            |(go_at_call 13;refine anU (pc w2 (dh wB hb2)) ?_;rintro e w3 ⟨a3,c3,a4,c4,rfl,hb3,hc3,IL,hq3,hlt3,BB⟩;have ji:=hb2.trans (hb3.mono hb2.size);have hb4:=ji.alloc ji.size (Obj.cells #[.int .i64 k,.int .i64 f0,.int .i64 f1,.bool f2,.int .i64 f3,.slice a3 at'.length c3,.int .i64 id,.string ⟨nm.toArray⟩,.slice a4 q.length c4] 39 (0,0)))
            |(go_at_call 21;refine anU (pa (w3.alloc (Obj.cells #[.int .i64 k,.int .i64 f0,.int .i64 f1,.bool f2,.int .i64 f3,.slice a3 at'.length c3,.int .i64 id,.string ⟨nm.toArray⟩,.slice a4 q.length c4] 39 (0,0))) (dh wB hb4)) ?_;rintro e w4 ⟨a5,c5,rfl,hb6,hk5⟩;have rV:=hb4.trans (hb6.mono hb4.size);have hb5:=below2 rV (Obj.cells #[.int .i64 2,.int .i64 au,.slice ac bJ.length cc,.string ⟨an.toArray⟩,.int .i64 aa] 53 (0,0)) (Obj.cells #[.int .i64 2,.int .i64 au,.slice ac bJ.length cc,.string ⟨an.toArray⟩,.int .i64 aa] 53 (0,0));obtain⟨F1,F2,⟨xs,_,_,hxs,_⟩,_⟩:=(hP.below hb5).tree;have IQ:=Rz w4 (Obj.cells #[.int .i64 2,.int .i64 au,.slice ac bJ.length cc,.string ⟨an.toArray⟩,.int .i64 aa] 53 (0,0)) (Obj.cells #[.int .i64 2,.int .i64 au,.slice ac bJ.length cc,.string ⟨an.toArray⟩,.int .i64 aa] 53 (0,0)))
            |(at_builtin;refine wpList_append_lies _ rfl _ _ 59 (by rfl) 0 53 i0 IK 5 64 SK hi hz0 hz1 hz2 rfl (by decide) (.slice ao acts.length co) acts.length xs (by rfl) hxs ⟨w4.heap.size+1,0,none⟩ 1 1 [.int .i64 2,.int .i64 au,.slice ac bJ.length cc,.string ⟨an.toArray⟩,.int .i64 aa] (by rfl) rfl (World.news_of_block IQ) (by intro u hu;simp at hu;rcases hu with rfl|rfl|rfl|rfl|rfl<;>rfl) (by decide) (by rw[maxLen_eq];omega) (by omega) (ant _) _ rfl ?_;intro g cap w6 hown6 hgrow6 BD BF))
           exact⟨⟨n+1,acts++[(2,au,bJ,an,aa,())],[],some ⟨g,0,none⟩,cap,none,0,hlt,by rw[anm];rfl,rfl,rfl,hP.SL (a:=(2,au,bJ,an,aa,())) hb5 hk5 hxs hown6 hgrow6 BD BF h6 hgo (.inl ⟨rfl,rfl,rfl,rfl,rfl⟩)⟩,by simp only[intOf];omega⟩
          .obtain⟨hk1,hk2⟩:¬ak=1/\¬ak=2:=hk;have hgo:z=dS (n+1) (ls.drop (n+1)) (acts++[(ak,au,[],an,aa,())]) bJ:=by rw[hz,ann.2 hk1,ann.2 hk2];rfl
           have alS:(ak==1)=false:=ann.2 hk1;have hkb2:(ak==2)=false:=ann.2 hk2;clear hk1 hk2;clear hz
           go_wp2_with (first
            |(go_at_call 66;refine anU sf ?_;rintro e w2 ⟨v2,rfl,hf2,hb2⟩;obtain⟨a2,c2,e2⟩:=hf2.form;have e2:v2=.slice a2 (f.length+1) c2:=e2;subst e2;obtain⟨b2,o2,e2,-,cw⟩:=FW.cell (a:=a2) (c:=c2) (f:=(b0::x,())::f) hf2 (n:=0) (aoA _);subst e2;have cw:w2.cell? ⟨b2,o2,none⟩=some (.string ⟨(b0::x).toArray⟩):=cw;rw[← hS.out]at cw;clear sf)
            |(go_at_call 13;refine anU (pc w2 (dh wB hb2)) ?_;rintro e w3 ⟨a3,c3,a4,c4,rfl,hb3,hc3,IL,hq3,hlt3,BB⟩;have ji:=hb2.trans (hb3.mono hb2.size);have hb4:=ji.alloc ji.size (Obj.cells #[.int .i64 k,.int .i64 f0,.int .i64 f1,.bool f2,.int .i64 f3,.slice a3 at'.length c3,.int .i64 id,.string ⟨nm.toArray⟩,.slice a4 q.length c4] 39 (0,0)))
            |(go_at_call 21;refine anU (pa (w3.alloc (Obj.cells #[.int .i64 k,.int .i64 f0,.int .i64 f1,.bool f2,.int .i64 f3,.slice a3 at'.length c3,.int .i64 id,.string ⟨nm.toArray⟩,.slice a4 q.length c4] 39 (0,0))) (dh wB hb4)) ?_;rintro e w4 ⟨a5,c5,rfl,hb6,hk5⟩;have rV:=hb4.trans (hb6.mono hb4.size);have hb5:=below2 rV (Obj.cells #[.int .i64 ak,.int .i64 au,.slice a5 0 c5,.string ⟨an.toArray⟩,.int .i64 aa] 53 (0,0)) (Obj.cells #[.int .i64 ak,.int .i64 au,.slice a5 0 c5,.string ⟨an.toArray⟩,.int .i64 aa] 53 (0,0));obtain⟨F1,F2,⟨xs,_,_,hxs,_⟩,_⟩:=(hP.below hb5).tree;have IQ:=Rz w4 (Obj.cells #[.int .i64 ak,.int .i64 au,.slice a5 0 c5,.string ⟨an.toArray⟩,.int .i64 aa] 53 (0,0)) (Obj.cells #[.int .i64 ak,.int .i64 au,.slice a5 0 c5,.string ⟨an.toArray⟩,.int .i64 aa] 53 (0,0)))
            |(at_builtin;refine wpList_append_lies _ rfl _ _ 59 (by rfl) 0 53 i0 IK 5 64 SK hi hz0 hz1 hz2 rfl (by decide) (.slice ao acts.length co) acts.length xs (by rfl) hxs ⟨w4.heap.size+1,0,none⟩ 1 1 [.int .i64 ak,.int .i64 au,.slice a5 0 c5,.string ⟨an.toArray⟩,.int .i64 aa] (by rfl) rfl (World.news_of_block IQ) (by intro u hu;simp at hu;rcases hu with rfl|rfl|rfl|rfl|rfl<;>rfl) (by decide) (by rw[maxLen_eq];omega) (by omega) (ant _) _ rfl ?_;intro g cap w6 hown6 hgrow6 BD BF))
           exact⟨⟨n+1,acts++[(ak,au,[],an,aa,())],bJ,some ⟨g,0,none⟩,cap,ac,cc,hlt,by rw[anm];rfl,rfl,rfl,hP.SL hb5 hk5 hxs hown6 hgrow6 BD BF h6 hgo (.inr ⟨⟨_,_,rfl⟩,rfl,rfl,rfl,rfl⟩)⟩,by simp only[intOf];omega⟩
         .have h6':(40:Int)<=acts.length:=by omega
          obtain rfl:z=([],(n:Int)+1):=by rw[hz,anF (show(acts.length:Int)>=40 by omega)];rfl
          clear hz
          go_wp2_with (first
           |(go_at_call 66;refine anU sf ?_;rintro e w2 ⟨v2,rfl,hf2,hb2⟩;obtain⟨a2,c2,e2⟩:=hf2.form;have e2:v2=.slice a2 (f.length+1) c2:=e2;subst e2;obtain⟨b2,o2,e2,-,cw⟩:=FW.cell (a:=a2) (c:=c2) (f:=(b0::x,())::f) hf2 (n:=0) (aoA _);subst e2;have cw:w2.cell? ⟨b2,o2,none⟩=some (.string ⟨(b0::x).toArray⟩):=cw;rw[← hS.out]at cw;clear sf)
           |(go_at_call 13;refine anU (pc w2 (dh wB hb2)) ?_;rintro e w3 ⟨a3,c3,a4,c4,rfl,hb3,hc3,IL,hq3,hlt3,BB⟩;have ji:=hb2.trans (hb3.mono hb2.size);have hb4:=ji.alloc ji.size (Obj.cells #[.int .i64 k,.int .i64 f0,.int .i64 f1,.bool f2,.int .i64 f3,.slice a3 at'.length c3,.int .i64 id,.string ⟨nm.toArray⟩,.slice a4 q.length c4] 39 (0,0)))
           |(go_at_call 21;refine anU (pa (w3.alloc (Obj.cells #[.int .i64 k,.int .i64 f0,.int .i64 f1,.bool f2,.int .i64 f3,.slice a3 at'.length c3,.int .i64 id,.string ⟨nm.toArray⟩,.slice a4 q.length c4] 39 (0,0))) (dh wB hb4)) ?_;rintro e w4 ⟨a5,c5,rfl,hb6,hk5⟩;have rV:=hb4.trans (hb6.mono hb4.size);have hb7:=rV.alloc rV.size (Obj.cells #[.int .i64 ak,.int .i64 au,.slice a5 0 c5,.string ⟨an.toArray⟩,.int .i64 aa] 53 (0,0))))
          all_goals go_ret2
          all_goals exact⟨none,0,rfl,hb1.trans ((hP.keep.mono hb1.size).trans (hb7.mono (anx hb1.size hP.keep.size))),λ_=>False,AT.nil (aoE _ 0 53 5) (λb hb=>by cases hb),λb hb=>hb.elim⟩
   .have hge':¬((n:Nat):Int)<ls.length:=by omega
    obtain rfl:n=ls.length:=by omega
    have hz:=hP.go;rw[aoU,dS]at hz;rcases aqi bJ.length with h0|h0
    .have hc0:¬((bJ.length:Nat):Int)>0:=by omega
     rw[anM hc0]at hz;obtain rfl:z=(acts,0):=hz;obtain⟨F1,F2,h1,h2,h3,h4⟩:=hP.tree
     go_wp2
     all_goals go_ret2
     all_goals exact⟨ao,co,rfl,hb1.trans (hP.keep.mono hb1.size),F1,h1,λb hb=>⟨anx hb1.size (h3 b hb).1,(h3 b hb).2.1⟩⟩
    .have hc0:((bJ.length:Nat):Int)>0:=by omega
     rw[anF hc0]at hz;obtain rfl:z=([],(ls.length:Int)+1):=hz
     go_wp2
     all_goals go_ret2
     all_goals exact⟨none,0,rfl,hb1.trans (hP.keep.mono hb1.size),λ_=>False,AT.nil (aoE _ 0 53 5) (λb hb=>by cases hb),λb hb=>hb.elim⟩
end Go.Proofs.Tryz
namespace Go.Proofs.Tryz
open Go Go.Fw Go.RowKit Sp
set_option maxRecDepth 100000
def uP(l:List aK)(k:Int)(j:Nat):Int:=k+fZ (l.take j)
def ajo(w:World)(cur:Array Value)(hd:Nat->Value)(l:List aK)(k:Int)(j:Nat):Prop:=
 ∀c,l[j]? =some c->cur[j*9]? =some (.int .i64 (uP l k j))/\cur[j*9+1]? =some (.int .i64 (uP l k j+1))/\cur[j*9+2]? =some (.int .i64 (uP l k j+2))/\cur[j*9+3]? =some (.bool (decide ((uP l k j+3).tmod 3=0)))/\cur[j*9+4]? =some (.int .i64 (uP l k j+4))/\
  cur[j*9+6]? =some (.int .i64 (uP l k j+5+4*c.2.2.2.2.2.1.length))/\cur[j*9+7]? =some (.string ⟨(Sp.markT (uP l k j+6+4*c.2.2.2.2.2.1.length)).toArray⟩)/\
  MAt w (hd (2*j)) c.2.2.2.2.2.1.length (uP l k j+5)/\MNt w (hd (2*j+1)) c.2.2.2.2.2.2.2.2.1.length (uP l k j+7+4*c.2.2.2.2.2.1.length)
structure CM(W w:World)(g cap:Nat)(cur:Array Value)(hd:Nat->Value)(l:List aK)(k:Int)(n:Nat):Prop where
 row:w.heap[g]? =some (.cells cur 39 (0,0))
 size:cur.size=cap*9
 heads:∀j,j<l.length->cur[j*9+5]? =some (hd (2*j))/\cur[j*9+8]? =some (hd (2*j+1))
 done:∀j,j<n->ajo w cur hd l k j
 wr:Wr W w λb=>b=g\/∃p,p<2*n/\(hd p).ownBlock=some b
theorem ag5{l:List aK}{k:Int}{j:Nat}{c:aK}(h:l[j]? =some c):uP l k (j+1)=uP l k j+7+4*c.2.2.2.2.2.1.length+7*c.2.2.2.2.2.2.2.2.1.length:=by
 obtain⟨hl,e⟩:=anv.1 h;unfold uP;rw[aoB hl,e];have:∀a:List aK,fZ (a++[c])=fZ a+(7+4*c.2.2.2.2.2.1.length+7*c.2.2.2.2.2.2.2.2.1.length):=by
  intro a
  induction a with
  |nil=>show fZ [c]=0+_;rw[fZ,show fZ []=0 from rfl];omega
  |cons x r ih=>rw[aov,fZ,fZ,ih];omega
 rw[this];omega
theorem Wr.set{W w:World}{S:Nat->Prop}{g i:Nat}{v:Value}(h:Wr W w S)(hS:S g):Wr W (w.setCell ⟨g,i,none⟩ v) S:=
 ⟨h.os,h.tape,h.output,by simpa[World.setCell]using h.size,λx hx hn=>(mO v (λe=>hn (by rw[show x=g from e];exact hS))).trans (h.block x hx hn)⟩
theorem five{W w:World}{S:Nat->Prop}{g i0 i1 i2 i3 i4:Nat}{x0 x1 x2 x3 x4:Value}{cur:Array Value}{t:TypeId}(hr:w.heap[g]? =some (.cells cur t (0,0)))(st:Wr W w S)(hS:S g):
 (((((w.setCell ⟨g,i0,none⟩ x0).setCell ⟨g,i1,none⟩ x1).setCell ⟨g,i2,none⟩ x2).setCell ⟨g,i3,none⟩ x3).setCell ⟨g,i4,none⟩ x4).heap[g]? =some (.cells (((((cur.setIfInBounds i0 x0).setIfInBounds i1 x1).setIfInBounds i2 x2).setIfInBounds i3 x3).setIfInBounds i4 x4) t (0,0))/\
   (∀b,b≠g->(((((w.setCell ⟨g,i0,none⟩ x0).setCell ⟨g,i1,none⟩ x1).setCell ⟨g,i2,none⟩ x2).setCell ⟨g,i3,none⟩ x3).setCell ⟨g,i4,none⟩ x4).heap[b]? =w.heap[b]?)/\
   Wr W (((((w.setCell ⟨g,i0,none⟩ x0).setCell ⟨g,i1,none⟩ x1).setCell ⟨g,i2,none⟩ x2).setCell ⟨g,i3,none⟩ x3).setCell ⟨g,i4,none⟩ x4) S:=
 ⟨dM (dM (dM (dM (dM hr i0 x0) i1 x1) i2 x2) i3 x3) i4 x4,λb hb=>(mO _ hb).trans ((mO _ hb).trans ((mO _ hb).trans ((mO _ hb).trans (mO _ hb)))),((((st.set hS).set hS).set hS).set hS).set hS⟩
set_option maxHeartbeats 16000000 in
theorem ac7(W:World)(g cap:Nat)(cur:Array Value)(hd:Nat->Value)(l:List aK)(k:Int)(hG:G.ok W)(hg:G.n<=g)(hrow:W.heap[g]? =some (.cells cur 39 (0,0)))(hsz:cur.size=cap*9)(hle:l.length<=cap)(hk:0<=k/\k<=5000000)(hl:l.length<=6)
 (hx:∀c∈l,c.2.2.2.2.2.1.length<=1000/\c.2.2.2.2.2.2.2.2.1.length<=1000) (hhd:∀j,j<l.length->cur[j*9+5]? =some (hd (2*j))/\cur[j*9+8]? =some (hd (2*j+1)))
 (hoa:∀j c,l[j]? =some c->OA W G.n 84 4 (hd (2*j)) c.2.2.2.2.2.1.length/\OA W G.n 125 7 (hd (2*j+1)) c.2.2.2.2.2.2.2.2.1.length) (hng:∀p,p<2*l.length->(hd p).ownBlock≠some g)
 (hsp:∀p q b,p<2*l.length->q<2*l.length->(hd p).ownBlock=some b->(hd q).ownBlock=some b->p=q):
 Calls prog 95 #[.slice (some ⟨g,0,none⟩) l.length cap,.int .i64 k] W λe w'=>e=.returned (.int .i64 (k+fZ l))/\∃cur',CM W w' g cap cur' hd l k l.length:=by
 have mixed:=Tryz.mixed
 go_enter Tryz.func95,Tryz.ntmps95
 go_wp2
 go_loopw [1,5] (λkk i wr=>∃(n:Nat)(cur':Array Value),n<=l.length/\kk=.int .i64 (uP l k n)/\i=.int .i64 n/\CM W wr g cap cur' hd l k n)
  (λ_ i _=>l.length-(intOf i).toNat)
 case atStart=>exact⟨0,cur,ant _,by unfold uP;simp[fZ],rfl,hrow,hsz,hhd,λj hj=>absurd hj (aod _),rfl,rfl,rfl,anr _,λ_ _ _=>rfl⟩
 case round=>
  obtain⟨n,cur',hn,rfl,rfl,hM⟩:=hrel;rcases anL n l.length with hlt|hge
  .have hlt':((n:Nat):Int)<l.length:=by omega
   have hr:=hM.row;have hs:=hM.size;have hin:∀i,i<9->∃u,cur'[n*9+i]? =some u:=λi hi=>by have:(n+1)*9<=cap*9:=anD _ (by omega);exact⟨_,aoZ (by omega)⟩
   obtain⟨u0,hu0⟩:=hin 0 (by decide);obtain⟨u1,hu1⟩:=hin 1 (by decide);obtain⟨u2,hu2⟩:=hin 2 (by decide);obtain⟨u3,hu3⟩:=hin 3 (by decide);obtain⟨u4,hu4⟩:=hin 4 (by decide);obtain⟨u6,hu6⟩:=hin 6 (by decide);obtain⟨u7,hu7⟩:=hin 7 (by decide);clear hin;have hkk:∃kk:Int,Hid (kk=uP l k n)/\kk=uP l k n/\0<=kk/\kk<=5100000:=by have h1:=Es (l.take n) λx hx2=>hx x (aoT hx2);rw[anO]at h1;exact⟨_,rfl,rfl,by unfold uP;omega,by unfold uP;omega⟩
   obtain⟨kk,hk1,hk2,hk3,hk4⟩:=hkk;rw[← hk2];clear hk2;have z0:=aX hr (n*9);have z1:=aX hr (n*9+1);have z2:=aX hr (n*9+1+1);have z3:=aX hr (n*9+1+2);have z4:=aX hr (n*9+1+3);have c0:wr.cell? ⟨g,n*9,none⟩=some u0:=(aA hr _).trans hu0;have c1:wr.cell? ⟨g,n*9+1,none⟩=some u1:=(aA hr _).trans hu1;have c2:wr.cell? ⟨g,n*9+1+1,none⟩=some u2:=(aA hr _).trans hu2;have c3:wr.cell? ⟨g,n*9+1+2,none⟩=some u3:=(aA hr _).trans hu3;have c4:wr.cell? ⟨g,n*9+1+3,none⟩=some u4:=(aA hr _).trans hu4;have c5:wr.cell? ⟨g,n*9+1+4,none⟩=some (hd (2*n)):=(aA hr _).trans (hM.heads n hlt).1;obtain⟨c,hc⟩:∃c,l[n]? =some c:=⟨_,anu hlt⟩;have hxn:=hx c (an1 hc);have hwr:Wr W wr λb=>b=g\/∃p,p<2*(n+1)/\(hd p).ownBlock=some b:=hM.wr.mono λb hb=>hb.imp id λ⟨p,hp,h⟩=>⟨p,by omega,h⟩;have far:∀p,2*n<=p->p<2*l.length->∀b,b<W.heap.size->(hd p).ownBlock=some b->wr.heap[b]? =W.heap[b]? :=λp hp1 hp2 b hb ho=>hM.wr.block b hb λe=>by
    rcases e with e|⟨q,hq,e⟩
    .exact hng p hp2 (e▸ho)
    .have:=hsp p q b hp2 (by omega) ho e;omega
   obtain⟨oa1,oa2⟩:=hoa n c hc;have alU:=oa1.keep (w':=wr) λb hb=>far (2*n) (anr _) (by omega) b (oa1.lt hb).2 hb;have alV:=oa2.keep (w':=wr) λb hb=>far (2*n+1) (by omega) (by omega) b (oa2.lt hb).2 hb;have n1:=hng (2*n) (by omega);have n2:=hng (2*n+1) (by omega);have YO:∀w5,Wr W w5 (λb=>b=g\/∃p,p<2*(n+1)/\(hd p).ownBlock=some b)->G.ok w5:=λw5 h5=>G.stable W w5 hG h5.size λb hb=>h5.block b (anE hb (G.low W hG)) λe=>by
    rcases e with e|⟨p,hp,e⟩
    .omega
    .obtain⟨d,hd2⟩:∃d,l[p / 2]? =some d:=⟨_,anu (by omega)⟩;obtain⟨o1,o2⟩:=hoa (p / 2) d hd2;rcases(show p=2*(p / 2)\/p=2*(p / 2)+1 by omega)with h|h
     .rw[h]at e;have:=(o1.lt e).1;omega
     .rw[h]at e;have:=(o2.lt e).1;omega
   go_wp2_with (first
    |(go_at_call 135;have t5:=five (i0:=n*9) (i1:=n*9+1) (i2:=n*9+1+1) (i3:=n*9+1+2) (i4:=n*9+1+3) (x0:=.int .i64 kk) (x1:=.int .i64 (kk+1)) (x2:=.int .i64 (kk+1+1)) (x3:=.bool ((kk+1+1+1)%3==0)) (x4:=.int .i64 (kk+1+1+1+1)) hr hwr (Or.inl rfl);generalize (((((wr.setCell ⟨g,n*9,none⟩ (.int .i64 kk)).setCell ⟨g,n*9+1,none⟩ (.int .i64 (kk+1))).setCell ⟨g,n*9+1+1,none⟩ (.int .i64 (kk+1+1))).setCell ⟨g,n*9+1+2,none⟩ (.bool ((kk+1+1+1)%3==0))).setCell ⟨g,n*9+1+3,none⟩ (.int .i64 (kk+1+1+1+1)))=W5 at t5 ⊢;obtain⟨r5,YP,ZE⟩:=t5;refine anU (aga (YO W5 ZE) (anr _) (alU.keep λb hb=>YP b λe=>n1 (e▸hb)) (by omega) (by omega)) ?_;rintro e w2 ⟨rfl,hm1,hw2⟩;obtain⟨k5,hk5,ab7,alW⟩:∃k5:Int,Hid (k5=kk+1+1+1+1+1+4*(c.2.2.2.2.2.1.length:Int))/\kk+1+1+1+1+1+4*(c.2.2.2.2.2.1.length:Int)=k5/\0<=k5/\k5<=5200000:=⟨_,rfl,rfl,by omega,by omega⟩;rw[ab7];clear ab7;have l5:=(anq.1 r5).1;have r2:=(hw2.block g l5 n1).trans r5;have wr2:=ZE.trans (Wr.mono hw2 λb hb=>Or.inr ⟨2*n,by omega,hb⟩);have z6:=aX r2 (n*9+6);have c6:w2.cell? ⟨g,n*9+6,none⟩=some u6:=(aA r2 _).trans (ay (by omega) (ay (by omega) (ay (by omega) (ay (by omega) (ay (by omega) hu6)))));clear z0 z1 z2 z3 z4 c0 c1 c2 c3 c4 c5)
    |(go_at_call 96;have r6:=dM r2 (n*9+6) (.int .i64 k5);have wr6:=wr2.set (i:=n*9+6) (v:=.int .i64 k5) (Or.inl rfl);have aeX:=λb(hb:b≠g)=>mO (w:=w2) (p:=⟨g,n*9+6,none⟩) (b:=b) (.int .i64 k5) hb;generalize w2.setCell ⟨g,n*9+6,none⟩ (.int .i64 k5)=W6 at r6 wr6 aeX ⊢;refine anU (SH (k5+1) (by omega) W6 (YO W6 wr6)) ?_;rintro e w3 ⟨rfl,hb3⟩;have r3:=(hb3.block g (anq.1 r6).1).trans r6;have wr3:=wr6.trans (Wr.of _ hb3);have z7:=aX r3 (n*9+7);have c7:w3.cell? ⟨g,n*9+7,none⟩=some u7:=(aA r3 _).trans (ay (by omega) (ay (by omega) (ay (by omega) (ay (by omega) (ay (by omega) (ay (by omega) hu7))))));have c8:w3.cell? ⟨g,n*9+7+1,none⟩=some (hd (2*n+1)):=(aA r3 _).trans (ay (by omega) (ay (by omega) (ay (by omega) (ay (by omega) (ay (by omega) (ay (by omega) (hM.heads n hlt).2))))));clear z6 c6)
    |(go_at_call 136;have r7:=dM r3 (n*9+7) (.string ⟨(Sp.markT (k5+1)).toArray⟩);have wr7:=wr3.set (i:=n*9+7) (v:=.string ⟨(Sp.markT (k5+1)).toArray⟩) (Or.inl rfl);have aeY:=λb(hb:b≠g)=>mO (w:=w3) (p:=⟨g,n*9+7,none⟩) (b:=b) (.string ⟨(Sp.markT (k5+1)).toArray⟩) hb;generalize w3.setCell ⟨g,n*9+7,none⟩ (.string ⟨(Sp.markT (k5+1)).toArray⟩)=W7 at r7 wr7 aeY ⊢;refine anU (agb (YO W7 wr7) (anr _) (alV.keep λb hb=>by have hbW:=(oa2.lt hb).2;have hbg:b≠g:=λe=>n2 (e▸hb);exact(aeY b hbg).trans ((hb3.block b (anE hbW wr6.size)).trans ((aeX b hbg).trans ((hw2.block b (anE hbW ZE.size) λe=>absurd (hsp (2*n) (2*n+1) b (by omega) (by omega) e hb) (by omega)).trans (YP b hbg))))) (by omega) (by omega)) ?_;rintro e w4 ⟨rfl,hm2,hw4⟩))
   have l7:=(anq.1 r7).1;have r4:=(hw4.block g l7 n2).trans r7;have wr4:=wr7.trans (Wr.mono hw4 λb hb=>Or.inr ⟨2*n+1,by omega,hb⟩);have alX:n*9+8<cur'.size:=by have:(n+1)*9<=cap*9:=anD _ (by omega);omega
   have YQ:∀b,b<W.heap.size->b≠g->(hd (2*n)).ownBlock≠some b->(hd (2*n+1)).ownBlock≠some b->w4.heap[b]? =wr.heap[b]? :=λb hb hbg h1 h2=>
    (hw4.block b (anE hb wr7.size) h2).trans ((aeY b hbg).trans ((hb3.block b (anE hb wr6.size)).trans ((aeX b hbg).trans ((hw2.block b (anE hb ZE.size) h1).trans (YP b hbg)))))
   have aks:∀b,b<W.heap.size->b≠g->(hd (2*n+1)).ownBlock≠some b->w4.heap[b]? =w2.heap[b]? :=λb hb hbg h2=>
    (hw4.block b (anE hb wr7.size) h2).trans ((aeY b hbg).trans ((hb3.block b (anE hb wr6.size)).trans (aeX b hbg)))
   have alY:=hk5.out;have ag6:=hk1.out;have hn1:=ag5 (k:=k) hc;refine⟨⟨n+1,_,hlt,congrArg _ (by omega),rfl,r4,by simp only[anT];exact hs,λj hj=>?_,λj hj=>?_,wr4⟩,by simp only[intOf];omega⟩
   .obtain⟨e1,e2⟩:=hM.heads j hj;exact⟨ay (by omega) (ay (by omega) (ay (by omega) (ay (by omega) (ay (by omega) (ay (by omega) (ay (by omega) e1)))))),ay (by omega) (ay (by omega) (ay (by omega) (ay (by omega) (ay (by omega) (ay (by omega) (ay (by omega) e2))))))⟩
   .intro d hd2;rcases anL j n with hjn|hjn
    .obtain⟨f0,f1,f2,f3,f4,f6,f7,m1,m2⟩:=hM.done j hjn d hd2;obtain⟨o1,o2⟩:=hoa j d hd2;have ha:∀p,p<2*n->∀b,b<W.heap.size->(hd p).ownBlock=some b->w4.heap[b]? =wr.heap[b]? :=λp hp b hb ho=>YQ b hb (λe=>hng p (by omega) (e▸ho)) (λe=>by have:=hsp p (2*n) b (by omega) (by omega) ho e;omega) λe=>by have:=hsp p (2*n+1) b (by omega) (by omega) ho e;omega
     exact⟨ay (by omega) (ay (by omega) (ay (by omega) (ay (by omega) (ay (by omega) (ay (by omega) (ay (by omega) (f0))))))),ay (by omega) (ay (by omega) (ay (by omega) (ay (by omega) (ay (by omega) (ay (by omega) (ay (by omega) (f1))))))),ay (by omega) (ay (by omega) (ay (by omega) (ay (by omega) (ay (by omega) (ay (by omega) (ay (by omega) (f2))))))),ay (by omega) (ay (by omega) (ay (by omega) (ay (by omega) (ay (by omega) (ay (by omega) (ay (by omega) (f3))))))),ay (by omega) (ay (by omega) (ay (by omega) (ay (by omega) (ay (by omega) (ay (by omega) (ay (by omega) (f4))))))),ay (by omega) (ay (by omega) (ay (by omega) (ay (by omega) (ay (by omega) (ay (by omega) (ay (by omega) (f6))))))),ay (by omega) (ay (by omega) (ay (by omega) (ay (by omega) (ay (by omega) (ay (by omega) (ay (by omega) (f7))))))),m1.keep λb hb=>ha (2*j) (by omega) b (o1.lt hb).2 hb,m2.keep λb hb=>ha (2*j+1) (by omega) b (o2.lt hb).2 hb⟩
    .obtain rfl:j=n:=by omega
     obtain rfl:c=d:=Option.some.inj (hc.symm.trans hd2);rw[← ag6];have alZ:((kk+1+1+1)%3==0)=decide ((kk+3).tmod 3=0):=by rw[Int.tmod_eq_emod_of_nonneg (by omega),show kk+3=kk+1+1+1 by omega];rfl
     rw[← alZ,show kk+2=kk+1+1 by omega,show kk+4=kk+1+1+1+1 by omega,show kk+5+4*(c.2.2.2.2.2.1.length:Int)=k5 by omega,show kk+6+4*(c.2.2.2.2.2.1.length:Int)=k5+1 by omega,show kk+7+4*(c.2.2.2.2.2.1.length:Int)=k5+1+1 by omega,show kk+5=kk+1+1+1+1+1 by omega];exact⟨ay (by omega) (ay (by omega) (ay (by omega) (ay (by omega) (ay (by omega) (ay (by omega) (kK (by omega))))))),ay (by omega) (ay (by omega) (ay (by omega) (ay (by omega) (ay (by omega) (kK (by simp only[anT];omega)))))),ay (by omega) (ay (by omega) (ay (by omega) (ay (by omega) (kK (by simp only[anT];omega))))),ay (by omega) (ay (by omega) (ay (by omega) (kK (by simp only[anT];omega)))),ay (by omega) (ay (by omega) (kK (by simp only[anT];omega))),ay (by omega) (kK (by simp only[anT];omega)),kK (by simp only[anT];omega),hm1.keep λb hb=>aks b (oa1.lt hb).2 (λe=>n1 (e▸hb)) (λe=>absurd (hsp (2*j) (2*j+1) b (by omega) (by omega) hb e) (by omega)),hm2⟩
  .have hge':¬((n:Nat):Int)<l.length:=by omega
   obtain rfl:n=l.length:=by omega
   go_wp2
   all_goals go_ret
   all_goals refine⟨?_,cur',hM⟩
   all_goals rw[show k+(fZ l:Int)=uP l k l.length by unfold uP;rw[aoQ]]
   all_goals rfl
end Go.Proofs.Tryz
namespace Go.Proofs.Tryz
open Go Go.Fw Go.RowKit Sp
set_option maxRecDepth 100000
set_option maxHeartbeats 4000000 in
theorem Xw(W:World)(a:Option Addr)(c:Nat)(k:Int):Calls prog 95 #[.slice a 0 c,.int .i64 k] W λe w'=>e=.returned (.int .i64 k)/\w'=W:=by
 have mixed:=Tryz.mixed
 go_enter Tryz.func95,Tryz.ntmps95
 go_wp2
 go_loopw [1,5] (λkk i wr=>kk=.int .i64 k/\i=.int .i64 0/\wr=W) (λ_ _ _=>0)
 case atStart=>exact⟨rfl,rfl,rfl⟩
 case round=>
  obtain⟨rfl,rfl,rfl⟩:=hrel
  go_wp2
  all_goals go_ret
  all_goals exact⟨rfl,rfl⟩
def CK(w:World)(v:Value)(l:List aK)(k:Int)(F:Nat->Prop):Prop:=
 (l=[]/\∃a c,v=.slice a 0 c)\/∃(g cap:Nat)(cur:Array Value)(hd:Nat->Value),v=.slice (some ⟨g,0,none⟩) l.length cap/\l.length<=cap/\F g/\(∀p b,p<2*l.length->(hd p).ownBlock=some b->F b)/\
   w.heap[g]? =some (.cells cur 39 (0,0))/\(∀j,j<l.length->cur[j*9+5]? =some (hd (2*j))/\cur[j*9+8]? =some (hd (2*j+1)))/\∀j,j<l.length->ajo w cur hd l k j
theorem CK.keep{w w':World}{v:Value}{l:List aK}{k:Int}{F:Nat->Prop}(h:CK w v l k F)(hk:∀b,F b->w'.heap[b]? =w.heap[b]?):CK w' v l k F:=by
 rcases h with h|⟨g,cap,cur,hd,h1,h2,h3,h4,h5,h6,h7⟩
 .exact .inl h
 .refine .inr ⟨g,cap,cur,hd,h1,h2,h3,h4,(hk g h3).trans h5,h6,λj hj c hc=>?_⟩;obtain⟨f0,f1,f2,f3,f4,f6,f7,m1,m2⟩:=h7 j hj c hc;exact⟨f0,f1,f2,f3,f4,f6,f7,m1.keep λb hb=>hk b (h4 _ b (by omega) hb),m2.keep λb hb=>hk b (h4 _ b (by omega) hb)⟩
theorem aeZ{W:World}{v:Value}{l:List aK}{k:Int}{F:Nat->Prop}(hG:G.ok W)(h:Xv W v l F)(hF:∀b,F b->G.n<=b)(hk:0<=k/\k<=5000000)(hl:l.length<=6)(hx:∀c∈l,c.2.2.2.2.2.1.length<=1000/\c.2.2.2.2.2.2.2.2.1.length<=1000):
 Calls prog 95 #[v,.int .i64 k] W λe w'=>e=.returned (.int .i64 (k+fZ l))/\CK w' v l k F/\Wr W w' F:=by
 rcases h with⟨rfl,a,c,rfl⟩|⟨xs,hd,h1,h2,h3,h4,h5⟩
 .refine(Xw W a c k).mono ?_;rintro e w' ⟨rfl,rfl⟩;exact⟨by simp[fZ],.inl ⟨rfl,a,c,rfl⟩,rfl,rfl,rfl,anr _,λ_ _ _=>rfl⟩
 rcases h1.2 with⟨rfl,e2⟩|⟨g,cap,cur,rfl,e2,e3,e4,e5,e6,e7⟩
 .obtain rfl:l=[]:=anV.1 e2;refine(Xw W none 0 k).mono ?_;rintro e w' ⟨rfl,rfl⟩;exact⟨by simp[fZ],.inl ⟨rfl,none,0,rfl⟩,rfl,rfl,rfl,anr _,λ_ _ _=>rfl⟩
 have hFg:F g:=h2 g rfl;have hhd:∀j,j<l.length->cur[j*9+5]? =some (hd (2*j))/\cur[j*9+8]? =some (hd (2*j+1)):=λj hj=>by
  obtain⟨i1,_⟩:=h3 j _ (anu hj);have hmul:(j+1)*9<=l.length*9:=anD _ hj;have row:∀i,i<9->cur[j*9+i]? =(YN l[j] (hd (2*j)) (hd (2*j+1)))[i]? :=λi hi=>by rw[← i1,← e7,aow hi,anZ,aow (show j*9+i<l.length*9 by omega),ap4]
  exact⟨row 5 (by decide),row 8 (by decide)⟩
 have up:∀{t z:Nat}{u:Value}{m:Nat},OA W 0 t z u m->(∀b,u.ownBlock=some b->F b)->OA W G.n t z u m:=λh hb=>by
  rcases h with h|⟨g',cap',cur',rfl,q1,q2,q3⟩
  .exact .inl h
  .exact .inr ⟨g',cap',cur',rfl,hF g' (hb g' rfl),q2,q3⟩
 refine(ac7 W g cap cur hd l k hG (hF g hFg) e3 e6 e4 hk hl hx hhd (λj c hc=>?_) (λp hp e=>(h4 p g hp e).2 rfl) h5).mono ?_
 .obtain⟨_,_,i3,i4⟩:=h3 j c hc;have hj:=(anv.1 hc).1;exact⟨up i3.2 λb hb=>(h4 _ b (by omega) hb).1,up i4.2 λb hb=>(h4 _ b (by omega) hb).1⟩
 .rintro e w' ⟨rfl,cur',hM⟩;refine⟨rfl,.inr ⟨g,cap,cur',hd,rfl,e4,hFg,λp b hp hb=>(h4 p b hp hb).1,hM.row,hM.heads,hM.done⟩,hM.wr.mono λb hb=>?_⟩;rcases hb with rfl|⟨p,hp,hb⟩
  .exact hFg
  .exact(h4 p b hp hb).1
end Go.Proofs.Tryz
namespace Go.Proofs.Tryz
open Go Go.Fw Go.RowKit Sp
set_option maxRecDepth 100000
def sN(l:List aZ)(k:Int)(j:Nat):Int:=k+rW (l.take j)
def ajr(w:World)(cur:Array Value)(hd:Nat->Value)(Fj:Nat->Nat->Prop)(l:List aZ)(k:Int)(j:Nat):Prop:=
 ∀a,l[j]? =some a->cur[j*5]? =some (.int .i64 (sN l k j))/\cur[j*5+1]? =some (.int .i64 (sN l k j+1))/\CK w (hd j) a.2.2.1 (sN l k j+2) (Fj j)/\
  cur[j*5+3]? =some (.string ⟨(Sp.markT (sN l k j+2+fZ a.2.2.1)).toArray⟩)/\cur[j*5+4]? =some (.int .i64 (sN l k j+3+fZ a.2.2.1))
structure AM(W w:World)(g cap:Nat)(cur:Array Value)(hd:Nat->Value)(Fj:Nat->Nat->Prop)(l:List aZ)(k:Int)(n:Nat):Prop where
 row:w.heap[g]? =some (.cells cur 53 (0,0))
 size:cur.size=cap*5
 heads:∀j,j<l.length->cur[j*5+2]? =some (hd j)
 done:∀j,j<n->ajr w cur hd Fj l k j
 wr:Wr W w λb=>b=g\/∃p,p<n/\Fj p b
theorem ag7{l:List aZ}{k:Int}{j:Nat}{a:aZ}(h:l[j]? =some a):sN l k (j+1)=sN l k j+4+fZ a.2.2.1:=by
 obtain⟨hl,e⟩:=anv.1 h;unfold sN;rw[aoB hl,e];have:∀u:List aZ,rW (u++[a])=rW u+(4+fZ a.2.2.1):=by
  intro u
  induction u with
  |nil=>show rW [a]=0+_;rw[rW,show rW []=0 from rfl];omega
  |cons x r ih=>rw[aov,rW,rW,ih];omega
 rw[this];omega
def nJ(l:List aK):Prop:=l.length<=6/\∀c∈l,c.2.2.2.2.2.1.length<=1000/\c.2.2.2.2.2.2.2.2.1.length<=1000
theorem YR:∀(l:List aZ),(∀a∈l,nJ a.2.2.1)->rW l<=66046*l.length
 |[],_=>anr _
 |a::r,h=>by have h0:=h a anC;have h1:=Es _ h0.2;have h3:=h0.1;have h2:=YR r λx hx=>h x (anB _ hx);rw[rW,ano];omega
theorem two{W w:World}{S:Nat->Prop}{g i0 i1:Nat}{x0 x1:Value}{cur:Array Value}{t:TypeId}(hr:w.heap[g]? =some (.cells cur t (0,0)))(st:Wr W w S)(hS:S g):
 ((w.setCell ⟨g,i0,none⟩ x0).setCell ⟨g,i1,none⟩ x1).heap[g]? =some (.cells ((cur.setIfInBounds i0 x0).setIfInBounds i1 x1) t (0,0))/\
   (∀b,b≠g->((w.setCell ⟨g,i0,none⟩ x0).setCell ⟨g,i1,none⟩ x1).heap[b]? =w.heap[b]?)/\Wr W ((w.setCell ⟨g,i0,none⟩ x0).setCell ⟨g,i1,none⟩ x1) S:=
 ⟨dM (dM hr i0 x0) i1 x1,λb hb=>(mO _ hb).trans (mO _ hb),(st.set hS).set hS⟩
set_option maxHeartbeats 16000000 in
theorem ac8(W:World)(g cap:Nat)(cur:Array Value)(hd:Nat->Value)(Fj:Nat->Nat->Prop)(l:List aZ)(k:Int)(hG:G.ok W)(hg:G.n<=g)(hrow:W.heap[g]? =some (.cells cur 53 (0,0)))(hsz:cur.size=cap*5)(hle:l.length<=cap)(hk:0<=k/\k<=10)(hl:l.length<=40)
 (hx:∀a∈l,nJ a.2.2.1) (hhd:∀j,j<l.length->cur[j*5+2]? =some (hd j)) (hct:∀j a,l[j]? =some a->Xv W (hd j) a.2.2.1 (Fj j))
 (hF:∀j b,j<l.length->Fj j b->G.n<=b/\b≠g/\b<W.heap.size) (hsp:∀j j' b,j<l.length->j'<l.length->Fj j b->Fj j' b->j=j'):
 Calls prog 30 #[.slice (some ⟨g,0,none⟩) l.length cap,.int .i64 k] W λe w'=>e=.returned (.int .i64 (k+rW l))/\∃cur',AM W w' g cap cur' hd Fj l k l.length:=by
 have mixed:=Tryz.mixed
 go_enter Tryz.func30,Tryz.ntmps30
 go_wp2
 go_loopw [1,5] (λkk i wr=>∃(n:Nat)(cur':Array Value),n<=l.length/\kk=.int .i64 (sN l k n)/\i=.int .i64 n/\AM W wr g cap cur' hd Fj l k n)
  (λ_ i _=>l.length-(intOf i).toNat)
 case atStart=>exact⟨0,cur,ant _,by unfold sN;simp[rW],rfl,hrow,hsz,hhd,λj hj=>absurd hj (aod _),rfl,rfl,rfl,anr _,λ_ _ _=>rfl⟩
 case round=>
  obtain⟨n,cur',hn,rfl,rfl,hM⟩:=hrel;rcases anL n l.length with hlt|hge
  .have hlt':((n:Nat):Int)<l.length:=by omega
   have hr:=hM.row;have hs:=hM.size;have hin:∀i,i<5->∃u,cur'[n*5+i]? =some u:=λi hi=>by have:(n+1)*5<=cap*5:=anD _ (by omega);exact⟨_,aoZ (by omega)⟩
   obtain⟨u0,hu0⟩:=hin 0 (by decide);obtain⟨u1,hu1⟩:=hin 1 (by decide);obtain⟨u3,hu3⟩:=hin 3 (by decide);obtain⟨u4,hu4⟩:=hin 4 (by decide);clear hin;have hkk:∃kk:Int,Hid (kk=sN l k n)/\kk=sN l k n/\0<=kk/\kk<=3000000:=by have h1:=YR (l.take n) λx hx2=>hx x (aoT hx2);rw[anO]at h1;exact⟨_,rfl,rfl,by unfold sN;omega,by unfold sN;omega⟩
   obtain⟨kk,hk1,hk2,hk3,hk4⟩:=hkk;rw[← hk2];clear hk2;have z0:=aX hr (n*5);have z1:=aX hr (n*5+1);have c0:wr.cell? ⟨g,n*5,none⟩=some u0:=(aA hr _).trans hu0;have c1:wr.cell? ⟨g,n*5+1,none⟩=some u1:=(aA hr _).trans hu1;have c2:wr.cell? ⟨g,n*5+2,none⟩=some (hd n):=(aA hr _).trans (hM.heads n hlt);have c2b:wr.cell? ⟨g,n*5+1+1,none⟩=some (hd n):=c2;obtain⟨a,hc⟩:∃a,l[n]? =some a:=⟨_,anu hlt⟩;have hxn:=hx a (an1 hc);have hwr:Wr W wr λb=>b=g\/∃p,p<n+1/\Fj p b:=hM.wr.mono λb hb=>hb.imp id λ⟨p,hp,h⟩=>⟨p,by omega,h⟩;have far:∀p,n<=p->p<l.length->∀b,Fj p b->wr.heap[b]? =W.heap[b]? :=λp hp1 hp2 b ho=>hM.wr.block b (hF p b hp2 ho).2.2 λe=>by
    rcases e with e|⟨q,hq,e⟩
    .exact(hF p b hp2 ho).2.1 e
    .have:=hsp p q b hp2 (by omega) ho e;omega
   have ctw:Xv wr (hd n) a.2.2.1 (Fj n):=(hct n a hc).keep λb hb=>far n (anr _) hlt b hb;have YO:∀w5,Wr W w5 (λb=>b=g\/∃p,p<n+1/\Fj p b)->G.ok w5:=λw5 h5=>G.stable W w5 hG h5.size λb hb=>h5.block b (anE hb (G.low W hG)) λe=>by
    rcases e with e|⟨p,hp,e⟩
    .omega
    .have:=(hF p b (by omega) e).1;omega
   have am7:=Es a.2.2.1 hxn.2;have amW:=hxn.1
   go_wp2_with (first
    |(go_at_call 95;have t5:=two (i0:=n*5) (i1:=n*5+1) (x0:=.int .i64 kk) (x1:=.int .i64 (kk+1)) hr hwr (Or.inl rfl);generalize ((wr.setCell ⟨g,n*5,none⟩ (.int .i64 kk)).setCell ⟨g,n*5+1,none⟩ (.int .i64 (kk+1)))=W5 at t5 ⊢;obtain⟨r5,YP,ZE⟩:=t5;refine anU (aeZ (YO W5 ZE) (ctw.keep λb hb=>YP b (hF n b hlt hb).2.1) (λb hb=>(hF n b hlt hb).1) (by omega) hxn.1 hxn.2) ?_;rintro e w2 ⟨rfl,hm1,hw2⟩;obtain⟨k5,hk5,ab7,alW⟩:∃k5:Int,Hid (k5=kk+1+1+(fZ a.2.2.1:Int))/\kk+1+1+(fZ a.2.2.1:Int)=k5/\0<=k5/\k5<=5200000:=⟨_,rfl,rfl,by omega,by omega⟩;rw[ab7];clear ab7;have l5:=(anq.1 r5).1;have r2:=(hw2.block g l5 λe=>(hF n g hlt e).2.1 rfl).trans r5;have wr2:=ZE.trans (Wr.mono hw2 λb hb=>Or.inr ⟨n,by omega,hb⟩);clear z0 z1 c0 c1 c2 c2b)
    |(go_at_call 96;refine anU (SH k5 (by omega) w2 (YO w2 wr2)) ?_;rintro e w3 ⟨rfl,hb3⟩;have r3:=(hb3.block g (anq.1 r2).1).trans r2;have wr3:=wr2.trans (Wr.of _ hb3);have z3:=aX r3 (n*5+3);have z4:=aX r3 (n*5+3+1);have c3:w3.cell? ⟨g,n*5+3,none⟩=some u3:=(aA r3 _).trans (ay (by omega) (ay (by omega) hu3));have c4:w3.cell? ⟨g,n*5+3+1,none⟩=some u4:=(aA r3 _).trans (ay (by omega) (ay (by omega) hu4))))
   have r4:=dM (dM r3 (n*5+3) (.string ⟨(Sp.markT k5).toArray⟩)) (n*5+4) (.int .i64 (k5+1));have wr4:Wr W ((w3.setCell ⟨g,n*5+3,none⟩ (.string ⟨(Sp.markT k5).toArray⟩)).setCell ⟨g,n*5+4,none⟩ (.int .i64 (k5+1))) _:=(wr3.set (i:=n*5+3) (v:=.string ⟨(Sp.markT k5).toArray⟩) (Or.inl rfl)).set (i:=n*5+4) (v:=.int .i64 (k5+1)) (Or.inl rfl);have alX:n*5+4<cur'.size:=by have:(n+1)*5<=cap*5:=anD _ (by omega);omega
   have ahT:∀b,b<W.heap.size->b≠g->((w3.setCell ⟨g,n*5+3,none⟩ (.string ⟨(Sp.markT k5).toArray⟩)).setCell ⟨g,n*5+4,none⟩ (.int .i64 (k5+1))).heap[b]? =w2.heap[b]? :=λb hb hbg=>
    (mO _ hbg).trans ((mO _ hbg).trans (hb3.block b (anE hb wr2.size)))
   have YQ:∀b,b<W.heap.size->b≠g->¬Fj n b->((w3.setCell ⟨g,n*5+3,none⟩ (.string ⟨(Sp.markT k5).toArray⟩)).setCell ⟨g,n*5+4,none⟩ (.int .i64 (k5+1))).heap[b]? =wr.heap[b]? :=λb hb hbg hf=>
    (ahT b hb hbg).trans ((hw2.block b (anE hb ZE.size) hf).trans (YP b hbg))
   have alY:=hk5.out;have ag6:=hk1.out;have hn1:=ag7 (k:=k) hc;refine⟨⟨n+1,_,hlt,congrArg _ (by omega),rfl,r4,by simp only[anT];exact hs,λj hj=>?_,λj hj=>?_,wr4⟩,by simp only[intOf];omega⟩
   .exact ay (by omega) (ay (by omega) (ay (by omega) (ay (by omega) (hM.heads j hj))))
   .intro d hd2;rcases anL j n with hjn|hjn
    .obtain⟨f0,f1,m1,f3,f4⟩:=hM.done j hjn d hd2;exact⟨ay (by omega) (ay (by omega) (ay (by omega) (ay (by omega) f0))),ay (by omega) (ay (by omega) (ay (by omega) (ay (by omega) f1))),m1.keep λb hb=>YQ b (hF j b (by omega) hb).2.2 (hF j b (by omega) hb).2.1 λe=>by have:=hsp j n b (by omega) hlt hb e;omega,
      ay (by omega) (ay (by omega) (ay (by omega) (ay (by omega) f3))),ay (by omega) (ay (by omega) (ay (by omega) (ay (by omega) f4)))⟩
    .obtain rfl:j=n:=by omega
     obtain rfl:a=d:=Option.some.inj (hc.symm.trans hd2);rw[← ag6,show kk+2=kk+1+1 by omega,show kk+1+1+(fZ a.2.2.1:Int)=k5 by omega,show kk+3+(fZ a.2.2.1:Int)=k5+1 by omega];exact⟨ay (by omega) (ay (by omega) (ay (by omega) (kK (by omega)))),ay (by omega) (ay (by omega) (kK (by simp only[anT];omega))),hm1.keep λb hb=>ahT b (hF j b hlt hb).2.2 (hF j b hlt hb).2.1,
      ay (by omega) (kK (by simp only[anT];omega)),kK (by simp only[anT];omega)⟩
  .have hge':¬((n:Nat):Int)<l.length:=by omega
   obtain rfl:n=l.length:=by omega
   go_wp2
   all_goals go_ret
   all_goals refine⟨?_,cur',hM⟩
   all_goals rw[show k+(rW l:Int)=sN l k l.length by unfold sN;rw[aoQ]]
   all_goals rfl
end Go.Proofs.Tryz
