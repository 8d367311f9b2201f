import Derived.Test.YtflpicdbkomglaaGreatDoorP65
namespace Go.Proofs.Tryz
open Go Go.Fw Go.RowKit Sp
set_option maxRecDepth 100000
theorem nH{cur:Array Value}{j:Nat}{a:Value}(h:cur[j]? =some a):cur.toList.drop j=a::cur.toList.drop (j+1):=by obtain⟨hl,e⟩:=aj7.1 h;rw[aln (by simpa using hl),Array.getElem_toList,e]
theorem GY(k:Int)(h:0<=k/\k<=1000000000):(Sp.markT k).length<=maxLen:=by have:=Ur k (by omega);rw[maxLen_eq];show(Lib.itoa k).length+1<=_;omega
theorem yK{k:Int}(h:0<=k/\k<=1000000000):IntKind.i64.min<=k/\k<=IntKind.i64.max:=⟨by show -9223372036854775808<=k;omega,by show k<=9223372036854775807;omega⟩
theorem afA{w:World}{v:Value}{n:Nat}{k:Int}(h:LU w v n k)(hn:n<=1000000)(hk:0<=k/\k<=1000000):dG w.heap (λb=>b<w.heap.size) (.sl aT gY) v (yV n k):=by
 refine⟨by rw[zL,maxLen_eq];omega,?_⟩;rcases h with⟨rfl,rfl⟩|⟨g,cap,cur,rfl,h1,h2,h3⟩
 .exact .inl ⟨rfl,none,0,rfl⟩
 .refine .inr ⟨g,0,cap,cur,84,(0,0),by rw[zL],by rw[zL];exact h1,(aj7.1 h2).1,h2,λi x hx=>?_⟩;have hi:i<n:=by have:=(akc.1 hx).1;rw[zL]at this;exact this
  rw[Zz n k i hi]at hx;obtain rfl:=Option.some.inj hx;obtain⟨e1,e2,e3,e4⟩:=h3 i hi;rw[akr,show i*gY.len=i*4 from rfl,nH e1,nH e2,nH e3,nH e4];exact⟨_,_,rfl,⟨rfl,GY _ (by omega)⟩,_,_,rfl,⟨rfl,yK (by omega)⟩,_,_,rfl,⟨rfl,yK (by omega)⟩,_,_,rfl,⟨rfl,GY _ (by omega)⟩,rfl⟩
theorem afB{w:World}{v:Value}{n:Nat}{k:Int}(h:QE w v n k)(hn:n<=1000000)(hk:0<=k/\k<=10000000):dG w.heap (λb=>b<w.heap.size) (.sl aB bH) v (yX n k):=by
 refine⟨by rw[zM,maxLen_eq];omega,?_⟩;rcases h with⟨rfl,rfl⟩|⟨g,cap,cur,rfl,h1,h2,h3⟩
 .exact .inl ⟨rfl,none,0,rfl⟩
 .refine .inr ⟨g,0,cap,cur,125,(0,0),by rw[zM],by rw[zM];exact h1,(aj7.1 h2).1,h2,λi x hx=>?_⟩;have hi:i<n:=by have:=(akc.1 hx).1;rw[zM]at this;exact this
  rw[ZA n k i hi]at hx;obtain rfl:=Option.some.inj hx;obtain⟨e1,e2,e3,e4,e5,e6,e7⟩:=h3 i hi;rw[akr,show i*bH.len=i*7 from rfl,nH e1,nH e2,nH e3,nH e4,nH e5,nH e6,nH e7];exact⟨_,_,rfl,⟨rfl,yK (by omega)⟩,_,_,rfl,⟨rfl,yK (by omega)⟩,_,_,rfl,⟨rfl,yK (by omega)⟩,_,_,rfl,⟨rfl,GY _ (by omega)⟩,_,_,rfl,⟨rfl,yK (by omega)⟩,_,_,rfl,⟨rfl,yK (by omega)⟩,_,_,rfl,⟨rfl,GY _ (by omega)⟩,rfl⟩
def SL(c:bV):Prop:=AB c.1/\AB c.2.1/\AB c.2.2.1/\AB c.2.2.2.2.1/\AB c.2.2.2.2.2.2.1/\c.2.2.2.2.2.2.2.1.length<=maxLen
def QF(c:bV)(va vq:Value):Value:=.agg #[.int .i64 c.1,.int .i64 c.2.1,.int .i64 c.2.2.1,.bool c.2.2.2.1,.int .i64 c.2.2.2.2.1,va,.int .i64 c.2.2.2.2.2.2.1,.string ⟨c.2.2.2.2.2.2.2.1.toArray⟩,vq]
def Dc(w:World)(S:Nat->Prop)(c:bV)(va vq:Value):Prop:=
 dG w.heap S (.sl aT gY) va c.2.2.2.2.2.1/\dG w.heap S (.sl aB bH) vq c.2.2.2.2.2.2.2.2.1
theorem Dc.keep{w w':World}{S S':Nat->Prop}{c:bV}{va vq:Value}(h:Dc w S c va vq)(hk:∀b,S b->S' b/\w'.heap[b]? =w.heap[b]?):Dc w' S' c va vq:=
 ⟨dG.mono hk _ _ _ h.1,dG.mono hk _ _ _ h.2⟩
def ack(c:bV):Arg:=.sv (.agg [.int .i64 c.1,.int .i64 c.2.1,.int .i64 c.2.2.1,.bool c.2.2.2.1,.int .i64 c.2.2.2.2.1,.sl aT gY c.2.2.2.2.2.1 false,.int .i64 c.2.2.2.2.2.2.1,.str c.2.2.2.2.2.2.2.1,.sl aB bH c.2.2.2.2.2.2.2.2.1 false])
theorem ZB{w:World}{c:bV}{va vq:Value}(hc:SL c)(h:Dc w (λb=>b<w.heap.size) c va vq):lg ⟨w,w.heap.size,λ_=>True,λ_=>undef,λ_=>none⟩ (ack c) (QF c va vq):=by obtain⟨h1,h2,h3,h4,h5,h6⟩:=hc;have hh:=h.keep (S':=V.bF ⟨w,w.heap.size,λ_=>True,λ_=>undef,λ_=>none⟩ false) (w':=w) λb hb=>⟨⟨⟨hb,λ_=>trivial,λo x hx=>by cases hx⟩,λe=>by cases e⟩,rfl⟩;exact⟨_,rfl,⟨rfl,h1⟩,⟨rfl,h2⟩,⟨rfl,h3⟩,rfl,⟨rfl,h4⟩,hh.1,⟨rfl,h5⟩,⟨rfl,h6⟩,hh.2,trivial⟩
theorem afC{w:World}{c d:bV}{va vq ua uq:Value}(hG:G.ok w)(hc:SL c)(hd:SL d)(h:Dc w (λb=>b<w.heap.size) c va vq)(k:Dc w (λb=>b<w.heap.size) d ua uq):
 Calls prog 11 #[QF c va vq,QF d ua uq] w λe w'=>e=.returned (.bool (decide (c=d)))/\Below w.heap.size w w':=by
 have hcon:fZ prog G 11 (iE nO.sh nO.bG nO.F):=RV.1;refine(hcon [ack c,ack d] True ⟨[(false,[.plain (.bool (decide (c=d)))])],none⟩ 0 (λ_=>True) #[QF c va vq,QF d ua uq] w rfl trivial hG ⟨ZB hc h,ZB hd k,trivial⟩).mono ?_;rintro e w' ⟨v,vals,rfl,h1,h2,h3,h4,h5,h6,_,_⟩;have h6:v=.bool (decide (c=d)):=h6;exact⟨by rw[h6],h1,h2,h3,h4,h5⟩
theorem adH{w:World}{c:bV}{va vq:Value}(hG:G.ok w)(hc:SL c)(h:Dc w (λb=>b<w.heap.size) c va vq)(ha:c.2.2.2.2.2.1.length<=1000000)(hq:c.2.2.2.2.2.2.2.2.1.length<=1000000):
 Calls prog 15 #[QF c va vq,.int .i64 1] w λe w'=>e=.returned (.int .i64 (OV c.2.2.2.2.2.1 c.2.2.2.2.2.2.2.2.1 1))/\Below w.heap.size w w':=by
 have hcon:fZ prog G 15 (iE lJ.sh lJ.bG lJ.F):=OD.1;refine(hcon [ack c,.sv (.one (.int .i64 1))] (0<=(1:Int)/\(1:Int)<=1000/\c.2.2.2.2.2.1.length<=1000000/\c.2.2.2.2.2.2.2.2.1.length<=1000000) ⟨[(false,[.plain (.int .i64 (OV c.2.2.2.2.2.1 c.2.2.2.2.2.2.2.2.1 1))])],none⟩ 0 (λ_=>True) #[QF c va vq,.int .i64 1] w rfl ⟨by decide,by decide,ha,hq⟩ hG ⟨ZB hc h,⟨rfl,yK (by decide)⟩,trivial⟩).mono ?_;rintro e w' ⟨v,vals,rfl,h1,h2,h3,h4,h5,h6,_,_⟩;have h6:v=.int .i64 _/\_:=h6;exact⟨by rw[h6.1],h1,h2,h3,h4,h5⟩
end Go.Proofs.Tryz
namespace Go.Proofs.Tryz
open Go Go.Fw Go.RowKit Sp
set_option maxRecDepth 100000
theorem ael(w:Sp.LS):(fJ w).1.2.2.2.2.2.2.2.2.1.length<=9:=by
 unfold fJ;cases Sp.wordAt w 0==gV with
 |true=>exact ake _
 |false=>
 cases Sp.wordAt w 0==fV with
 |true=>exact ake _
 |false=>
 cases Sp.wordAt w 0==iO with
 |true=>exact ake _
 |false=>
 cases Sp.wordAt w 0==fG with
 |true=>exact KQ _
 |false=>
 cases Sp.wordAt w 0==fQ with
 |true=>exact ake _
 |false=>exact ake _
theorem ZC(s:List UInt8):(fM s).2.2.2.2.2.1.length<=1000/\(fM s).2.2.2.2.2.2.2.2.1.length<=1000:=by
 cases h:dO s with
 |false=>
  have e:fM s=bT 0 fD 0 [] []:=by unfold fM;rw[h];rfl
  rw[e];exact⟨ake _,ake _⟩
 |true=>
  rw[(Ie h).2];have hok:dN s=true:=by unfold dO at h;exact(aj0 _ _▸h).1
  have hs:=kU.1 hok;have h1:=OH (w:=Sp.wordsOf s) (by rw[lD];have:=hs.2.2;omega) λx hx=>akb (BI x hx) (akb hs.1 (by decide));exact⟨akb h1.2 (by decide),akb (ael _) (by decide)⟩
theorem ZE(v:SV)(q:Nat):bZ [.sv v] q=none:=by unfold bZ;rcases q / 64 with _|n<;>rfl
theorem agB(q:Nat):jo [Eff.lose] q=none:=by unfold jo;rcases q / 64 with _|n<;>rfl
theorem OA.blk{w:World}{B t z:Nat}{v:Value}{n:Nat}(h:OA w B t z v n):v.ownBlock=Fw.blk v:=by obtain⟨a,c,rfl⟩:=h.form;cases a<;>rfl
theorem afD(s:List UInt8)(hs:s.length<=1048576)(w:World)(hG:G.ok w):Calls prog 12 #[.string ⟨s.toArray⟩] w λe w'=>
 ∃va vq,e=.returned (.tuple #[QF (fM s) va vq,.bool (dO s)])/\Below w.heap.size w w'/\SL (fM s)/\Dc w' (λb=>w.heap.size<=b/\b<w'.heap.size) (fM s) va vq:=by
 have hcon:fZ prog G 12 (iE kK.sh kK.bG kK.F):=MO.1;refine(hcon [.sv (.one (.str s))] (s.length<=1048576) _ 0 (λ_=>False) #[.string ⟨s.toArray⟩] w rfl hs hG ⟨⟨rfl,by rw[maxLen_eq];omega⟩,trivial⟩).mono ?_;rintro e w' ⟨v,vals,rfl,h1,h2,h3,h4,h5,h6,_,_⟩;obtain⟨vs,rfl,h7⟩:=h6;obtain⟨l⟩:=vs
 match l,h7 with
 |[x,y],h7=>
  obtain⟨⟨us,rfl,h8⟩,hy,_⟩:=h7;have hy:y=.bool (dO s):=hy;obtain⟨ul⟩:=us
  match ul,h8 with
  |[a1,a2,a3,a4,a5,a6,a7,a8,a9],h8=>obtain⟨b1,b2,b3,b4,b5,b6,b7,b8,b9,_⟩:=h8;have b4:a4=.bool (fM s).2.2.2.1:=b4;rw[hy,b1.1,b2.1,b3.1,b4,b5.1,b7.1,b8.1];refine⟨a6,a9,rfl,⟨h1,h2,h3,h4,h5⟩,⟨b1.2,b2.2,b3.2,b5.2,b7.2,b8.2⟩,dG.mono (λb hb=>⟨⟨Nat.le_of_not_lt hb.1.2.1,hb.1.1⟩,rfl⟩) _ _ _ b6,dG.mono (λb hb=>⟨⟨Nat.le_of_not_lt hb.1.2.1,hb.1.1⟩,rfl⟩) _ _ _ b9⟩
theorem abf{X:V}{o:Nat}{e:TypeId}{r:au}{l:List r.den}(h:aS X o (.arr e r l true))(hf:r.flat=true):
 OA X.w X.n0 e r.len (X.γ o) l.length/\dG X.w.heap (λb=>X.n0<=b/\b<X.w.heap.size) (.sl e r) (X.γ o) l:=by
 obtain⟨xs,h1,h2,h3,h4⟩:=h;rcases h1.2 with⟨e1,e2⟩|⟨g,cap,cur,e1,e2,e3,e4,e5,e6,e7⟩
 .refine⟨.inl ⟨e1,e2⟩,by rw[e2];exact ake _,.inl ⟨akL.1 e2,none,0,e1⟩⟩
 .have hb:=h3 g (by rw[e1];rfl) rfl;refine⟨.inr ⟨g,cap,cur,e1,hb,e3,e4,e6⟩,akb e4 e5,.inr ⟨g,0,cap,cur,e,(0,0),e1,e4,⟨hb,(aj7.1 e3).1⟩,e3,λi x hx=>?_⟩⟩;have hi:=(akc.1 hx).1;have:=h4 i x hx;have hmul:(i+1)*r.len<=l.length*r.len:=akj _ hi;rw[akI,Nat.one_mul]at hmul;rw[← e7,amK,amn,al3 (by omega)]at this;rw[akr];exact aK.flat (S:=X.bF true) _ _ _ hf this
theorem afE(s:List UInt8)(hs:s.length<=1048576)(w:World)(hG:G.ok w):Calls prog 13 #[.string ⟨s.toArray⟩] w λe w'=>
 ∃va vq,e=.returned (.tuple #[QF (fM s) va vq,.bool (dO s)])/\Below w.heap.size w w'/\Dc w' (λb=>w.heap.size<=b/\b<w'.heap.size) (fM s) va vq/\
  OA w' w.heap.size 84 4 va (fM s).2.2.2.2.2.1.length/\OA w' w.heap.size 125 7 vq (fM s).2.2.2.2.2.2.2.2.1.length/\∀g,va.ownBlock=some g->vq.ownBlock≠some g:=by
 have hcon:oD prog G 13 (xX iw.sh iw.bG iw.F):=FH.1;refine((hcon [.sv (.one (.str s))] (s.length<=1048576) _ rfl hs).2 0 (λ_=>False) (λ_=>undef) #[.string ⟨s.toArray⟩] w hG ⟨⟨rfl,by rw[maxLen_eq];omega⟩,trivial⟩ ?_ ?_ ?_).mono ?_
 .exactλo x h=>by rw[ZE]at h;cases h
 .exactλo x q y b h=>by rw[ZE]at h;cases h
 .exactλt _ o x _=>agB o
 rintro e w' ⟨⟨⟨⟨k,f0,f1,f2,f3,at',id,nm,q,⟨⟩⟩,ok,⟨⟩⟩,⟨⟩⟩,⟨hc,hok⟩,v,γ',rfl,h1,h2,h3,h4,h5,h6,h7,h8,_⟩;have hc:((k,f0,f1,f2,f3,at',id,nm,q,()):bV)=fM s:=hc;have hok:ok=dO s:=hok;rw[← hc,← hok];clear hc hok;obtain⟨vs,rfl,h9⟩:=h6;obtain⟨l⟩:=vs
 match l,h9 with
 |[x,y],h9=>
  obtain⟨⟨us,rfl,ha⟩,hy,_⟩:=h9;have hy:y=.bool ok:=hy;obtain⟨ul⟩:=us
  match ul,ha with
  |[a1,a2,a3,a4,a5,a6,a7,a8,a9],ha=>obtain⟨b1,b2,b3,b4,b5,b6,b7,b8,b9,_⟩:=ha;have b4:a4=.bool f2:=b4;have b6:a6=γ' 5:=b6.2.1;have b9:a9=γ' 8:=b9.2.1;have o5:=h7 5 (.arr aT gY at' true) rfl;have o8:=h7 8 (.arr aB bH q true) rfl;obtain⟨p1,p2⟩:=abf o5.1 rfl;obtain⟨p3,p4⟩:=abf o8.1 rfl;rw[hy,b1.1,b2.1,b3.1,b4,b5.1,b7.1,b8.1,b6,b9];refine⟨γ' 5,γ' 8,rfl,⟨h1,h2,h3,h4,λb hb=>h5 b hb λ⟨o,x,ho,_⟩=>by rw[ZE]at ho;cases ho⟩,⟨p2,p4⟩,p1,p3,λg hg=>?_⟩;rw[p3.blk];rw[p1.blk]at hg;exact h8 5 _ 8 _ g rfl rfl (by decide) hg
theorem Es{h:Array Obj}{S:Nat->Prop}{e:TypeId}{r:au}{v:Value}{l:List r.den}(H:dG h S (.sl e r) v l):∃a c,v=.slice a l.length c:=by
 rcases H.2 with⟨rfl,a,c,e⟩|⟨b,off,cap,cs,t,fz,e,_⟩
 .exact⟨a,c,e⟩
 .exact⟨_,_,e⟩
theorem nine{w:World}{g:Nat}{x0 x1 x2 x3 x4 x5 x6 x7 x8:Value}{t:TypeId}{fz:Nat×Nat}(h:w.heap[g]? =some (.cells #[x0,x1,x2,x3,x4,x5,x6,x7,x8] t fz)):
 w.cell? ⟨g,0,none⟩=some x0/\w.cell? ⟨g,1,none⟩=some x1/\w.cell? ⟨g,2,none⟩=some x2/\w.cell? ⟨g,3,none⟩=some x3/\w.cell? ⟨g,4,none⟩=some x4/\w.cell? ⟨g,5,none⟩=some x5/\w.cell? ⟨g,6,none⟩=some x6/\w.cell? ⟨g,7,none⟩=some x7/\w.cell? ⟨g,8,none⟩=some x8:=
 ⟨ak h 0,ak h 1,ak h 2,ak h 3,ak h 4,ak h 5,ak h 6,ak h 7,ak h 8⟩
structure St(W:World)(N0 N1:Nat)(O O':Obj)(C:bV)(va vq:Value)(w:World):Prop where
 low:Below W.heap.size W w
 spec:Dc w (λb=>b<N0) C va vq
 z0:w.heap[N0]? =some O
 z1:w.heap[N1]? =some O'
 le:W.heap.size<=N0
 lt:N0<N1
theorem St.below{W w w':World}{N0 N1:Nat}{O O':Obj}{C:bV}{va vq:Value}(h:St W N0 N1 O O' C va vq w)(k:Below w.heap.size w w'):St W N0 N1 O O' C va vq w':=by have l1:=(aj7.1 h.z1).1;have l0:=h.lt;exact⟨h.low.trans (k.mono h.low.size),h.spec.keep λb hb=>⟨hb,k.block b (by omega)⟩,(k.block _ (by omega)).trans h.z0,(k.block _ l1).trans h.z1,h.le,h.lt⟩
theorem St.mark{W w w':World}{N0 N1:Nat}{O O':Obj}{C:bV}{va vq:Value}{S:Nat->Prop}(h:St W N0 N1 O O' C va vq w)(k:Wr w w' S)(hS:∀b,S b->N0<b/\b<N1):St W N0 N1 O O' C va vq w':=by
 have l1:=(aj7.1 h.z1).1;have l0:=h.lt;have le:=h.le;have hs:=h.low.size;refine⟨⟨k.os.trans h.low.os,k.tape.trans h.low.tape,k.output.trans h.low.output,akb hs k.size,λb hb=>(k.block b (by omega) λe=>?_).trans (h.low.block b hb)⟩,h.spec.keep λb hb=>⟨hb,k.block b (by omega) λe=>?_⟩,(k.block _ (by omega) λe=>?_).trans h.z0,(k.block _ l1 λe=>?_).trans h.z1,h.le,h.lt⟩
 .have:=hS b e;omega
 .have:=hS b e;omega
 .have:=hS _ e;omega
 .have:=hS _ e;omega
theorem St.arg{W w:World}{N0 N1:Nat}{O O':Obj}{C:bV}{va vq:Value}(h:St W N0 N1 O O' C va vq w):Dc w (λb=>b<w.heap.size) C va vq:=by have l1:=(aj7.1 h.z1).1;have l0:=h.lt;exact h.spec.keep λb hb=>⟨by omega,rfl⟩
theorem St.start{W w1 w2:World}{O O':Obj}{C:bV}{va vq:Value}{S:Nat->Prop}(h1:Below W.heap.size W w1)(h2:Below (w1.alloc O).heap.size (w1.alloc O) w2)(hr:Dc w1 S C va vq)(hS:∀b,S b->b<w1.heap.size):St W w1.heap.size w2.heap.size O O' C va vq (w2.alloc O'):=by
 have hs:(w1.alloc O).heap.size=w1.heap.size+1:=by simp
 have h3:=h2.size;have h4:Below w1.heap.size w1 (w2.alloc O'):=(((Below.refl _ _).alloc (aj8 _) O).trans (h2.mono (by omega))).alloc (by omega) O';exact⟨h1.trans (h4.mono h1.size),hr.keep λb hb=>⟨hS b hb,h4.block b (hS b hb)⟩,(heap_alloc_old w2 O' (by omega)).trans ((h2.block _ (by omega)).trans (akT w1 O)),akT w2 O',h1.size,by omega⟩
theorem Dc.alloc{w:World}{S:Nat->Prop}{C:bV}{va vq:Value}(h:Dc w S C va vq)(hS:∀b,S b->b<w.heap.size)(o:Obj):Dc (w.alloc o) (λb=>b<(w.alloc o).heap.size) C va vq:=
 h.keep λb hb=>⟨by have:=hS b hb;simp;omega,heap_alloc_old w o (hS b hb)⟩
theorem aem(s:List UInt8)(hs:s.length<=maxLen)(W:World)(hG:G.ok W):Calls prog 4 #[.string ⟨s.toArray⟩] W λe w'=>e=.returned (.bool true)/\Below W.heap.size W w':=by
 have mixed:=Tryz.mixed;rcases aks 1048576 s.length with hlen|hlen
 .have hl:(1048576:Int)<s.length:=by omega
  go_enter Tryz.func4,Tryz.ntmps4
  go_wp2
  all_goals go_ret
  all_goals exact⟨rfl,Below.refl _ _⟩
 .have hl:¬(1048576:Int)<s.length:=by omega
  have sp:=afD s hlen W hG;have pc:=λw hG=>afE s hlen w hG;have hsm:=ZC s;unfold QF at sp pc;generalize fM s=c at sp pc hsm;generalize dO s=ok at sp pc;obtain⟨k,f0,f1,f2,f3,at',id,nm,q,⟨⟩⟩:=c;dsimp only at sp pc hsm;have eqr:∀(w:World)(va vq ua uq:Value),G.ok w->SL (k,f0,f1,f2,f3,at',id,nm,q,())->Dc w (λb=>b<w.heap.size) (k,f0,f1,f2,f3,at',id,nm,q,()) va vq->Dc w (λb=>b<w.heap.size) (k,f0,f1,f2,f3,at',id,nm,q,()) ua uq->
   Calls prog 11 #[.agg #[.int .i64 k,.int .i64 f0,.int .i64 f1,.bool f2,.int .i64 f3,va,.int .i64 id,.string ⟨nm.toArray⟩,vq],.agg #[.int .i64 k,.int .i64 f0,.int .i64 f1,.bool f2,.int .i64 f3,ua,.int .i64 id,.string ⟨nm.toArray⟩,uq]] w λe w'=>e=.returned (.bool true)/\Below w.heap.size w w':=
   λw va vq ua uq hG hc h1 h2=>(afC hG hc hc h1 h2).mono λe w'⟨e1,e2⟩=>⟨by rw[e1,aku rfl],e2⟩
  have ae4:∀(w:World)(va vq:Value),G.ok w->SL (k,f0,f1,f2,f3,at',id,nm,q,())->LU w va at'.length 1->QE w vq q.length (1+4*at'.length)->
   Calls prog 15 #[.agg #[.int .i64 k,.int .i64 f0,.int .i64 f1,.bool f2,.int .i64 f3,va,.int .i64 id,.string ⟨nm.toArray⟩,vq],.int .i64 1] w λe w'=>e=.returned (.int .i64 (1+4*at'.length+7*q.length))/\Below w.heap.size w w':=
   λw va vq hG hc h1 h2=>(adH (c:=(k,f0,f1,f2,f3,yV at'.length 1,id,nm,yX q.length (1+4*at'.length),())) hG hc ⟨afA h1 (by omega) (by decide),afB h2 (by omega) (by omega)⟩ (by rw[zL];omega) (by rw[zM];omega)).mono λe w'⟨e1,e2⟩=>⟨by rw[e1,acn _ _ _ (by decide)],e2⟩
  have pc1:=pc;have adI:=ae4;have hq0:¬1+4*(at'.length:Int)+7*(q.length:Int)<0:=by omega
  have agC:=eqr
  go_enter Tryz.func4,Tryz.ntmps4
  go_wp2_with (first
   |(go_at_call 12;refine alo sp ?_;rintro e w1 ⟨va,vq,rfl,hb1,hc1,hr1⟩;obtain⟨a1,b1,ea⟩:=Es hr1.1;obtain⟨a2,b2,eq⟩:=Es hr1.2;dsimp only at ea eq;subst ea eq;clear sp)
   |(go_at_call 13;refine alo (pc1 _ (Po (gQ hG hb1) _)) ?_;rintro e w2 ⟨va,vq,rfl,hb2,hr2,p1,p2,hsep⟩;obtain⟨a3,b3,ea⟩:=Es hr2.1;obtain⟨a4,b4,eq⟩:=Es hr2.2;dsimp only at ea eq;subst ea eq;have st2:=St.start (O':=(Obj.cells #[.int .i64 k,.int .i64 f0,.int .i64 f1,.bool f2,.int .i64 f3,.slice a3 at'.length b3,.int .i64 id,.string ⟨nm.toArray⟩,.slice a4 q.length b4] 39 (0,0))) hb1 hb2 hr1 (λb hb=>hb.2);have aiM:=hr2.alloc (λb hb=>hb.2) (Obj.cells #[.int .i64 k,.int .i64 f0,.int .i64 f1,.bool f2,.int .i64 f3,.slice a3 at'.length b3,.int .i64 id,.string ⟨nm.toArray⟩,.slice a4 q.length b4] 39 (0,0));have ajO:=hb2.size;have p1a:=p1.keep λg hg=>heap_alloc_old w2 (Obj.cells #[.int .i64 k,.int .i64 f0,.int .i64 f1,.bool f2,.int .i64 f3,.slice a3 at'.length b3,.int .i64 id,.string ⟨nm.toArray⟩,.slice a4 q.length b4] 39 (0,0)) (p1.lt hg).2;have p2a:=p2.keep λg hg=>heap_alloc_old w2 (Obj.cells #[.int .i64 k,.int .i64 f0,.int .i64 f1,.bool f2,.int .i64 f3,.slice a3 at'.length b3,.int .i64 id,.string ⟨nm.toArray⟩,.slice a4 q.length b4] 39 (0,0)) (p2.lt hg).2;obtain⟨d0,d1,d2,d3,d4,d5,d6,d7,d8⟩:=nine st2.z0;clear pc1)
   |(go_at_call 11;refine alo (agC _ _ _ _ _ (gQ hG st2.low) hc1 aiM st2.arg) ?_;rintro e w3 ⟨rfl,hb3⟩;have OI:=st2.below hb3;have p1b:=p1a.keep λg hg=>hb3.block g (p1a.lt hg).2;have p2b:=p2a.keep λg hg=>hb3.block g (p2a.lt hg).2;clear agC d0 d1 d2 d3 d4 d5 d6 d7 d8;obtain⟨d0,d1,d2,d3,d4,d5,d6,d7,d8⟩:=nine OI.z1)
   |(go_at_call 14;refine alo (UY k f0 f1 f3 id f2 _ (gQ hG OI.low) (by have:=G.low W hG;have:=hb1.size;simp;omega) p1b p2b hsep (by decide) (by omega) (by omega)) ?_;rintro e w4 ⟨rfl,hm1,hm2,hw4⟩;have st4:=OI.mark hw4 (λb hb=>hb.elim (λhb=>by have:=p1.lt hb;simp at this;omega) λhb=>by have:=p2.lt hb;simp at this;omega);clear d0 d1 d2 d3 d4 d5 d6 d7 d8;obtain⟨d0,d1,d2,d3,d4,d5,d6,d7,d8⟩:=nine st4.z1)
   |(go_at_call 15;refine alo (adI _ _ _ (gQ hG st4.low) hc1 hm1 hm2) ?_;rintro e w5 ⟨rfl,hb5⟩;have st5:=st4.below hb5;have aiN:=hm1.keep λg hg=>hb5.block g (by have:=p1.lt hg;have:=(aj7.1 st4.z1).1;omega);have aiO:=hm2.keep λg hg=>hb5.block g (by have:=p2.lt hg;have:=(aj7.1 st4.z1).1;omega);clear adI d0 d1 d2 d3 d4 d5 d6 d7 d8)
   |(go_at_call 13;refine alo (pc _ (gQ hG st5.low)) ?_;rintro e w6 ⟨va,vq,rfl,hb6,hr6,_,_,_⟩;obtain⟨a5,b5,ea⟩:=Es hr6.1;obtain⟨a6,b6,eq⟩:=Es hr6.2;dsimp only at ea eq;subst ea eq;have st6:=st5.below hb6;have aen:=(Below.refl w6.heap.size w6).alloc (aj8 _) (Obj.cells #[.int .i64 k,.int .i64 f0,.int .i64 f1,.bool f2,.int .i64 f3,.slice a5 at'.length b5,.int .i64 id,.string ⟨nm.toArray⟩,.slice a6 q.length b6] 39 (0,0));have aco:=st6.below aen;have aiP:=hr6.alloc (λb hb=>hb.2) (Obj.cells #[.int .i64 k,.int .i64 f0,.int .i64 f1,.bool f2,.int .i64 f3,.slice a5 at'.length b5,.int .i64 id,.string ⟨nm.toArray⟩,.slice a6 q.length b6] 39 (0,0));obtain⟨d0,d1,d2,d3,d4,d5,d6,d7,d8⟩:=nine aco.z0)
   |(go_at_call 11;refine alo (eqr _ _ _ _ _ (gQ hG aco.low) hc1 aiP aco.arg) ?_;rintro e w7 ⟨rfl,hb7⟩;have st7:=aco.below hb7;have agF:=(hb6.trans (aen.mono hb6.size)).trans (hb7.mono (akb hb6.size aen.size));have aiQ:=aiN.keep λg hg=>agF.block g (by have:=p1.lt hg;have:=(aj7.1 st5.z1).1;omega);have aiR:=aiO.keep λg hg=>agF.block g (by have:=p2.lt hg;have:=(aj7.1 st5.z1).1;omega);clear d0 d1 d2 d3 d4 d5 d6 d7 d8;obtain⟨d0,d1,d2,d3,d4,d5,d6,d7,d8⟩:=nine st7.z1)
   |(go_at_call 15;refine alo (ae4 _ _ _ (gQ hG st7.low) hc1 aiQ aiR) ?_;rintro e w8 ⟨rfl,hb8⟩;have st8:=st7.below hb8))
  all_goals go_ret
  all_goals exact⟨rfl,st8.low⟩
theorem Dq:fZ prog G 4 (iE [.v (.one .str)] [.one .bool] λ_=>(True,true,()))/\True:=by
 refine⟨?_,trivial⟩;intro args p out k S vs w hcon hp hG hrep;unfold iE rP at hcon;split at hcon
 .next x hx=>
  revert x;show∀x:List UInt8×Unit,_;rintro⟨s,⟨⟩⟩ hx hcon;have hv:=Ah [.v (.one .str)] args _ vs.toList hx hrep
  match hvs:vs.toList,hv with
  |[v],hv=>
   have e1:v=.string ⟨s.toArray⟩:=hv.1.1;have hl:s.length<=maxLen:=hv.1.2;have e2:vs=#[.string ⟨s.toArray⟩]:=by obtain⟨l⟩:=vs;simp at hvs;rw[hvs,e1]
   subst e2;have hF:=Option.some.inj hcon;have hout:out=⟨[(false,[.plain (.bool true)])],none⟩:=(congrArg Prod.snd hF).symm;subst hout;refine(aem s hl w hG).mono ?_;rintro e w' ⟨rfl,hb⟩;exact⟨_,λ_=>undef,rfl,hb.os,hb.tape,hb.output,hb.size,hb.block,rfl,(λo x hx=>by cases hx),(λo x q y b hx=>by cases hx)⟩
 .cases hcon
end Go.Proofs.Tryz
