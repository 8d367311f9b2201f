import Derived.Test.YtflpicdbkomglaaGreatDoorP65
import Derived.Test.YtflpicdbkomglaaGreatDoorV24
namespace Go.Proofs.Tryz
open Go Go.Fw Go.RowKit Sp
set_option maxRecDepth 100000
theorem agZ(w:Sp.LS):(gJ w).1.2.2.2.2.2.2.2.2.1.length<=9:=by
 unfold gJ;cases Sp.wordAt w 0==iG with
 |true=>exact ant _
 |false=>
 cases Sp.wordAt w 0==ig with
 |true=>exact ant _
 |false=>
 cases Sp.wordAt w 0==jh with
 |true=>exact ant _
 |false=>
 cases Sp.wordAt w 0==gu with
 |true=>exact Oj _
 |false=>
 cases Sp.wordAt w 0==gY with
 |true=>exact ant _
 |false=>exact ant _
theorem ab1(s:List UInt8):(bK s).2.2.2.2.2.1.length<=1000/\(bK s).2.2.2.2.2.2.2.2.1.length<=1000:=by
 cases h:dB s with
 |false=>
  have e:bK s=dI 0 gQ 0 [] []:=by unfold bK;rw[h];rfl
  rw[e];exact⟨ant _,ant _⟩
 |true=>
  rw[(Ku h).2];have hok:bZ s=true:=by unfold dB at h;exact(anl _ _▸h).1
  have hs:=mV.1 hok;have h1:=Rt (w:=Sp.wordsOf s) (by rw[nH];have:=hs.2.2;omega) λx hx=>anx (Eo x hx) (anx hs.1 (by decide));exact⟨anx h1.2 (by decide),anx (agZ _) (by decide)⟩
theorem ab2(v:SV)(q:Nat):dN [.sv v] q=none:=by unfold dN;rcases q / 64 with _|n<;>rfl
theorem aji(q:Nat):kD [Eff.lose] q=none:=by unfold kD;rcases q / 64 with _|n<;>rfl
theorem OA.blk{w:World}{B t z:Nat}{v:Value}{n:Nat}(h:OA w B t z v n):v.ownBlock=Fw.blk v:=by obtain⟨a,c,rfl⟩:=h.form;cases a<;>rfl
theorem al3(s:List UInt8)(hs:s.length<=1048576)(w:World)(hG:G.ok w):Calls prog 12 #[.string ⟨s.toArray⟩] w λe w'=>
 ∃va vq,e=.returned (.tuple #[chV (bK s) va vq,.bool (dB s)])/\Below w.heap.size w w'/\YK (bK s)/\Ru w' (λb=>w.heap.size<=b/\b<w'.heap.size) (bK s) va vq:=by
 have hcon:gW prog G 12 (iM jT.sh jT.bU jT.F):=D7.1;refine(hcon [.sv (.one (.str s))] (s.length<=1048576) _ 0 (λ_=>False) #[.string ⟨s.toArray⟩] w rfl hs hG ⟨⟨rfl,by rw[maxLen_eq];omega⟩,trivial⟩).mono ?_;rintro e w' ⟨v,vals,rfl,h1,h2,h3,h4,h5,h6,_,_⟩;obtain⟨vs,rfl,h7⟩:=h6;obtain⟨l⟩:=vs
 match l,h7 with
 |[x,y],h7=>
  obtain⟨⟨us,rfl,h8⟩,hy,_⟩:=h7;have hy:y=.bool (dB s):=hy;obtain⟨ul⟩:=us
  match ul,h8 with
  |[a1,a2,a3,a4,a5,a6,a7,a8,a9],h8=>obtain⟨b1,b2,b3,b4,b5,b6,b7,b8,b9,_⟩:=h8;have b4:a4=.bool (bK s).2.2.2.1:=b4;rw[hy,b1.1,b2.1,b3.1,b4,b5.1,b7.1,b8.1];refine⟨a6,a9,rfl,⟨h1,h2,h3,h4,h5⟩,⟨b1.2,b2.2,b3.2,b5.2,b7.2,b8.2⟩,bW.mono (λb hb=>⟨⟨Nat.le_of_not_lt hb.1.2.1,hb.1.1⟩,rfl⟩) _ _ _ b6,bW.mono (λb hb=>⟨⟨Nat.le_of_not_lt hb.1.2.1,hb.1.1⟩,rfl⟩) _ _ _ b9⟩
theorem adS{X:V}{o:Nat}{e:TypeId}{r:aB}{l:List r.den}(h:bf X o (.arr e r l true))(hf:r.flat=true):
 OA X.w X.n0 e r.len (X.γ o) l.length/\bW X.w.heap (λb=>X.n0<=b/\b<X.w.heap.size) (.sl e r) (X.γ o) l:=by
 obtain⟨xs,h1,h2,h3,h4⟩:=h;rcases h1.2 with⟨e1,e2⟩|⟨g,cap,cur,e1,e2,e3,e4,e5,e6,e7⟩
 .refine⟨.inl ⟨e1,e2⟩,by rw[e2];exact ant _,.inl ⟨anV.1 e2,none,0,e1⟩⟩
 .have hb:=h3 g (by rw[e1];rfl) rfl;refine⟨.inr ⟨g,cap,cur,e1,hb,e3,e4,e6⟩,anx e4 e5,.inr ⟨g,0,cap,cur,e,(0,0),e1,e4,⟨hb,(anq.1 e3).1⟩,e3,λi x hx=>?_⟩⟩;have hi:=(anv.1 hx).1;have:=h4 i x hx;have hmul:(i+1)*r.len<=l.length*r.len:=anD _ hi;rw[an9,aqh]at hmul;rw[← e7,aqe,apU,apE (by omega)]at this;rw[anR];exact aU.flat (S:=X.bT true) _ _ _ hf this
theorem ag0(s:List UInt8)(hs:s.length<=1048576)(w:World)(hG:G.ok w):Calls prog 13 #[.string ⟨s.toArray⟩] w λe w'=>
 ∃va vq,e=.returned (.tuple #[chV (bK s) va vq,.bool (dB s)])/\Below w.heap.size w w'/\Ru w' (λb=>w.heap.size<=b/\b<w'.heap.size) (bK s) va vq/\
  OA w' w.heap.size 84 4 va (bK s).2.2.2.2.2.1.length/\OA w' w.heap.size 125 7 vq (bK s).2.2.2.2.2.2.2.2.1.length/\(∀g,va.ownBlock=some g->vq.ownBlock≠some g)/\YK (bK s):=by
 have hcon:qw prog G 13 (zX jc.sh jc.bU jc.F):=IG.1;refine((hcon [.sv (.one (.str s))] (s.length<=1048576) _ rfl hs).2 0 (λ_=>False) (λ_=>undef) #[.string ⟨s.toArray⟩] w hG ⟨⟨rfl,by rw[maxLen_eq];omega⟩,trivial⟩ ?_ ?_ ?_).mono ?_
 .exactλo x h=>by rw[ab2]at h;cases h
 .exactλo x q y b h=>by rw[ab2]at h;cases h
 .exactλt _ o x _=>aji o
 rintro e w' ⟨⟨⟨⟨k,f0,f1,f2,f3,at',id,nm,q,⟨⟩⟩,ok,⟨⟩⟩,⟨⟩⟩,⟨hc,hok⟩,v,γ',rfl,h1,h2,h3,h4,h5,h6,h7,h8,_⟩;have hc:((k,f0,f1,f2,f3,at',id,nm,q,()):aK)=bK s:=hc;have hok:ok=dB s:=hok;rw[← hc,← hok];clear hc hok;obtain⟨vs,rfl,h9⟩:=h6;obtain⟨l⟩:=vs
 match l,h9 with
 |[x,y],h9=>
  obtain⟨⟨us,rfl,ha⟩,hy,_⟩:=h9;have hy:y=.bool ok:=hy;obtain⟨ul⟩:=us
  match ul,ha with
  |[a1,a2,a3,a4,a5,a6,a7,a8,a9],ha=>obtain⟨b1,b2,b3,b4,b5,b6,b7,b8,b9,_⟩:=ha;have b4:a4=.bool f2:=b4;have b6:a6=γ' 5:=b6.2.1;have b9:a9=γ' 8:=b9.2.1;have o5:=h7 5 (.arr bG jm at' true) rfl;have o8:=h7 8 (.arr aI bY q true) rfl;obtain⟨p1,p2⟩:=adS o5.1 rfl;obtain⟨p3,p4⟩:=adS o8.1 rfl;rw[hy,b1.1,b2.1,b3.1,b4,b5.1,b7.1,b8.1,b6,b9];refine⟨γ' 5,γ' 8,rfl,⟨h1,h2,h3,h4,λb hb=>h5 b hb λ⟨o,x,ho,_⟩=>by rw[ab2]at ho;cases ho⟩,⟨p2,p4⟩,p1,p3,λg hg=>?_,b1.2,b2.2,b3.2,b5.2,b7.2,b8.2⟩;rw[p3.blk];rw[p1.blk]at hg;exact h8 5 _ 8 _ g rfl rfl (by decide) hg
theorem SI{h:Array Obj}{S:Nat->Prop}{e:TypeId}{r:aB}{v:Value}{l:List r.den}(H:bW h S (.sl e r) v l):∃a c,v=.slice a l.length c:=by
 rcases H.2 with⟨rfl,a,c,e⟩|⟨b,off,cap,cs,t,fz,e,_⟩
 .exact⟨a,c,e⟩
 .exact⟨_,_,e⟩
structure St(W:World)(N0 N1:Nat)(O O':Obj)(C:aK)(va vq:Value)(w:World):Prop where
 low:Below W.heap.size W w
 spec:Ru w (λb=>b<N0) C va vq
 z0:w.heap[N0]? =some O
 z1:w.heap[N1]? =some O'
 le:W.heap.size<=N0
 lt:N0<N1
theorem St.below{W w w':World}{N0 N1:Nat}{O O':Obj}{C:aK}{va vq:Value}(h:St W N0 N1 O O' C va vq w)(k:Below w.heap.size w w'):St W N0 N1 O O' C va vq w':=by have l1:=(anq.1 h.z1).1;have l0:=h.lt;exact⟨h.low.trans (k.mono h.low.size),h.spec.keep λb hb=>⟨hb,k.block b (by omega)⟩,(k.block _ (by omega)).trans h.z0,(k.block _ l1).trans h.z1,h.le,h.lt⟩
theorem St.mark{W w w':World}{N0 N1:Nat}{O O':Obj}{C:aK}{va vq:Value}{S:Nat->Prop}(h:St W N0 N1 O O' C va vq w)(k:Wr w w' S)(hS:∀b,S b->N0<b/\b<N1):St W N0 N1 O O' C va vq w':=by
 have l1:=(anq.1 h.z1).1;have l0:=h.lt;have le:=h.le;have hs:=h.low.size;refine⟨⟨k.os.trans h.low.os,k.tape.trans h.low.tape,k.output.trans h.low.output,anx hs k.size,λb hb=>(k.block b (by omega) λe=>?_).trans (h.low.block b hb)⟩,h.spec.keep λb hb=>⟨hb,k.block b (by omega) λe=>?_⟩,(k.block _ (by omega) λe=>?_).trans h.z0,(k.block _ l1 λe=>?_).trans h.z1,h.le,h.lt⟩
 .have:=hS b e;omega
 .have:=hS b e;omega
 .have:=hS _ e;omega
 .have:=hS _ e;omega
theorem St.arg{W w:World}{N0 N1:Nat}{O O':Obj}{C:aK}{va vq:Value}(h:St W N0 N1 O O' C va vq w):Ru w (λb=>b<w.heap.size) C va vq:=by have l1:=(anq.1 h.z1).1;have l0:=h.lt;exact h.spec.keep λb hb=>⟨by omega,rfl⟩
theorem St.start{W w1 w2:World}{O O':Obj}{C:aK}{va vq:Value}{S:Nat->Prop}(h1:Below W.heap.size W w1)(h2:Below (w1.alloc O).heap.size (w1.alloc O) w2)(hr:Ru w1 S C va vq)(hS:∀b,S b->b<w1.heap.size):St W w1.heap.size w2.heap.size O O' C va vq (w2.alloc O'):=by
 have hs:(w1.alloc O).heap.size=w1.heap.size+1:=by simp
 have h3:=h2.size;have h4:Below w1.heap.size w1 (w2.alloc O'):=(((Below.refl _ _).alloc (anr _) O).trans (h2.mono (by omega))).alloc (by omega) O';exact⟨h1.trans (h4.mono h1.size),hr.keep λb hb=>⟨hS b hb,h4.block b (hS b hb)⟩,(heap_alloc_old w2 O' (by omega)).trans ((h2.block _ (by omega)).trans (aof w1 O)),aof w2 O',h1.size,by omega⟩
theorem Ru.alloc{w:World}{S:Nat->Prop}{C:aK}{va vq:Value}(h:Ru w S C va vq)(hS:∀b,S b->b<w.heap.size)(o:Obj):Ru (w.alloc o) (λb=>b<(w.alloc o).heap.size) C va vq:=
 h.keep λb hb=>⟨by have:=hS b hb;simp;omega,heap_alloc_old w o (hS b hb)⟩
end Go.Proofs.Tryz
namespace Go.Proofs.Tryz
open Go Go.Fw Go.IntWalk Sp
set_option maxRecDepth 100000
theorem agc(s:List UInt8){n b:Nat}(h:n<s.length)(hb:b<=n):(s.take (n+1)).drop b=(s.take n).drop b++[s.getD n 0]:=by rw[aoB h,aoR (by rw[anO];omega),anz,anu h];rfl
theorem YL:OK AX.e:=by
 refine PA.ok mixed (aY [] trivial) aah (by kernel_rfl) (show∀s,AX.goal (YM s) (s,())from ?_);intro s hin hp;dsimp only[AX]at hp ⊢;have hs:s.length<=1048576:=hp;refine oC (s0:=((0:Int),([]:Sp.LS))) (mk:=λi(v:Int×Sp.LS)=>(((),v.1,i,()),v.2,())) (λy=>y.1.2.2.1) (λ_ _=>rfl) (s.length+1) (by omega) (λn v=>v.2.length<=n/\(n<=s.length->∃b:Nat,v.1=b/\b<=n/\v.2++dK 10 ((s.take n).drop b) (s.drop n)=Sp.pieces 10 s)/\(n=s.length+1->v.2=Sp.pieces 10 s))
  ⟨anr _,λ_=>⟨0,rfl,anr _,rfl⟩,λh=>by omega⟩ (λI μ n v hn hJ next=>?_) λI μ v hJ=>?_
 .obtain⟨v1,v2⟩:=v;obtain⟨hl,hb,_⟩:=hJ;obtain⟨b,rfl,hbn,he⟩:=hb (by omega);dsimp only at hl he ⊢;rw[anY,anY];refine qN (by omega) ?_;refine af (λh=>?_) λh=>?_
  .have hns:n=s.length:=by have:=anH.1 h;omega
   subst hns;rw[aoU,aoQ]at he;refine⟨⟨by omega,by omega,by omega⟩,pV (by rw[ano,anw];omega),rfl,next (_,_) ⟨by rw[anm];exact apz hl,λh=>by omega,λ_=>?_⟩⟩;rw[← he,aoQ];rfl
  .have hlt:n<s.length:=by have:=ann.1 h;omega
   rw[drop_cons s n 0 hlt]at he;refine⟨⟨by omega,by omega⟩,af (λh2=>?_) λh2=>?_⟩
   .have hx:(s.getD n 0==10)=true:=by have:=anH.1 h2;exact anH.2 (aqd.1 (by show _=10;omega))
    rw[dK,hx]at he;have ew:IntKind.i64.wrap ((n:Int)+1)=((n+1:Nat):Int):=iC _ (by omega);refine⟨⟨by omega,by omega,by omega⟩,pV (by rw[ano,anw];omega),rfl,next (_,_) ⟨by rw[anm];exact apz hl,λ_=>⟨n+1,ew,anr _,?_⟩,λh=>by omega⟩⟩;have hnil:(s.take (n+1)).drop (n+1)=[]:=List.drop_eq_nil_of_le (by rw[anO];omega);rw[← he,anG,hnil];rfl
   .have hx:(s.getD n 0==10)=false:=by refine ann.2 λe=>ann.1 h2 ?_;rw[e];rfl
    rw[dK,hx]at he;refine⟨rfl,next (_,_) ⟨ape hl,λ_=>⟨b,rfl,by omega,?_⟩,λh=>by omega⟩⟩;rw[agc s hlt hbn];exact he
 .obtain⟨v1,v2⟩:=v;have:=hJ.2.2 rfl;dsimp only at this ⊢;exact qO (by omega) (by rw[this])
theorem TR:OK wP.e:=by refine PA.ok mixed (aY [yD.e] ⟨Vp,trivial⟩) VE (by kernel_rfl) (show∀a b,wP.goal (TS a b) (a,b,())from ?_);intro a b hin hp;dsimp only[wP]at hp ⊢;exact WT (K:=λr=>r=(wH a b,())) Ea (λx y=>by simp[Ea]) _ a b _ (by have h:=hin.1.1;rw[maxLen_eq]at h;exact h) (λz hz=>by have:z=wH a b:=an0.2 (hz.trans (by simp[wH]));rw[this])
theorem VF:OK yF.e:=by refine PA.ok mixed (aY [wP.e] ⟨TR,trivial⟩) H0 (by kernel_rfl) (show∀a0 a1 a2 a3 a4 b0 b1 b2 b3 b4,yF.goal (IJ a0 a1 a2 a3 a4 b0 b1 b2 b3 b4) ((a0,a1,a2,a3,a4,()),(b0,b1,b2,b3,b4,()),())from ?_);intro a0 a1 a2 a3 a4 b0 b1 b2 b3 b4 hin hp;dsimp only[yF]at hp ⊢;have e:Eb (a0,a1,a2,a3,a4,()) (b0,b1,b2,b3,b4,())=((a0==b0)&&(a1==b1)&&(wH a2 b2)&&(a3==b3)&&(a4==b4)):=an0.2 (by simp[Eb,wH,apR]);simp only[IJ,e,bne];cases (a0==b0)<;>cases (a1==b1)<;>cases (wH a2 b2)<;>cases (a3==b3)<;>cases (a4==b4)<;>simp
theorem TT:OK ou.e:=by refine PA.ok mixed (aY [yF.e] ⟨VF,trivial⟩) VG (by kernel_rfl) (show∀a b,ou.goal (TU a b) (a,b,())from ?_);intro a b hin hp;dsimp only[ou]at hp ⊢;exact WT (K:=λr=>r=(decide (a=b),())) Eb (λx y=>by simp[Eb]) _ a b _ (by have h:=hin.1.1;rw[maxLen_eq]at h;exact h) (λz hz=>by have:z=decide (a=b):=an0.2 (hz.trans (by simp));rw[this])
theorem Kv:OK pI.e:=by
 refine PA.ok mixed (aY [iU.e] ⟨rQ,trivial⟩) Md (by kernel_rfl) (show∀a k,pI.goal (Kw a k) (a,k,())from ?_);intro a k hin hp;dsimp only[pI]at hp ⊢;obtain⟨h0,h1,hl⟩:0<=k/\k<=10000000/\a.length<=1000000:=hp;refine oC (mk:=λi(v:Int)=>((v,i,()),())) (λy=>y.1.2.1) (λ_ _=>rfl) a.length (by omega) (λn v=>v=k+4*n/\jq a k=jq (a.drop n) v) ⟨by omega,rfl⟩ (λI μ n v hn hJ next=>?_) λI μ v hJ=>?_
 .obtain⟨rfl,hh⟩:=hJ;have hv:0<=k+4*(n:Int)/\k+4*(n:Int)<=14000000:=by omega
  rw[drop_cons a n ([],0,0,[],()) hn,jq]at hh;dsimp only;have w1:IntKind.i64.wrap (k+4*(n:Int)+1)=k+4*n+1:=wrap_in (by omega);have w2:IntKind.i64.wrap (k+4*(n:Int)+1+1)=k+4*n+2:=(wrap_in (by omega)).trans (by omega);have w3:IntKind.i64.wrap (k+4*(n:Int)+2+1)=k+4*n+3:=(wrap_in (by omega)).trans (by omega);have w4:IntKind.i64.wrap (k+4*(n:Int)+3+1)=k+4*n+4:=(wrap_in (by omega)).trans (by omega);rw[w1,w2,w3,w4,anY];have no:a.getD n ([],0,0,[],())≠(Sp.markT (k+4*n),k+4*n+1,k+4*n+2,Sp.markT (k+4*n+3),())->((-1:Int),())=(jq a k,()):=λh=>by rw[hh,anM h];rfl
  refine qN (by omega) ⟨⟨by omega,by omega⟩,⟨by omega,by omega⟩,af (λg1=>no ?_) λg1=>⟨⟨by omega,by omega⟩,af (λg2=>no ?_) λg2=>⟨⟨by omega,by omega⟩,af (λg3=>no ?_) λg3=>⟨⟨by omega,by omega⟩,⟨by omega,by omega⟩,af (λg4=>no ?_) λg4=>⟨rfl,?_⟩⟩⟩⟩⟩
  .exactλe=>ann.1 (jX g1) (congrArg (·.1) e)
  .exactλe=>aoH.1 g2 (congrArg (·.2.1) e)
  .exactλe=>aoH.1 g3 (congrArg (·.2.2.1) e)
  .exactλe=>ann.1 (jX g4) (congrArg (·.2.2.2.1) e)
  .refine next _ ⟨by omega,?_⟩;have eq:a.getD n ([],0,0,[],())=(Sp.markT (k+4*n),k+4*n+1,k+4*n+2,Sp.markT (k+4*n+3),()):=apy (anH.1 (iD g1)) (apy (aoo.1 g2) (apy (aoo.1 g3) (apy (anH.1 (iD g4)) rfl)));rw[hh,anF eq];rfl
 .obtain⟨rfl,hh⟩:=hJ;rw[aoU]at hh;dsimp only;exact qO (by omega) (by rw[hh];rfl)
theorem ag1{a:List dY}{k:Int}(hk:0<=k)(h:¬jq a k<0):jq a k=k+4*a.length:=by rcases VH a k with e|e<;>omega
theorem ag2{a:List aC}{k:Int}(hk:0<=k)(h:¬mZ a k<0):mZ a k=k+7*a.length:=by rcases VI a k with e|e<;>omega
theorem PL:OK uf.e:=by
 refine PA.ok mixed (aY [wO.e,iU.e,pI.e] ⟨TP,rQ,Kv,trivial⟩) Rw (by kernel_rfl) (show∀a k,uf.goal (PN a k) (a,k,())from ?_);intro a k hin hp;dsimp only[uf]at hp ⊢;obtain⟨h0,h1,hl,hx⟩:0<=k/\k<=5000000/\a.length<=100/\(∀x∈a,x.2.2.2.2.2.1.length<=1000/\x.2.2.2.2.2.2.2.2.1.length<=1000):=hp;refine oC (mk:=λi(v:Int)=>((v,i,()),())) (λy=>y.1.2.1) (λ_ _=>rfl) a.length (by omega) (λn v=>0<=v/\v<=k+11007*n/\iw a k=iw (a.drop n) v) ⟨h0,by omega,rfl⟩ (λI μ n v hn hJ next=>?_) λI μ v hJ=>?_
 .obtain⟨hv0,hv1,hh⟩:=hJ;have hxn:=hx (a.getD n (0,0,0,false,0,[],0,[],[],())) (getD_mem hn);rw[drop_cons a n (0,0,0,false,0,[],0,[],[],()) hn,iw]at hh;dsimp only;have w1:IntKind.i64.wrap (v+1)=v+1:=wrap_in (by omega);have w2:IntKind.i64.wrap (v+1+1)=v+2:=(wrap_in (by omega)).trans (by omega);have w3:IntKind.i64.wrap (v+2+1)=v+3:=(wrap_in (by omega)).trans (by omega);have w4:IntKind.i64.wrap (v+3+1)=v+4:=(wrap_in (by omega)).trans (by omega);have w5:IntKind.i64.wrap (v+4+1)=v+5:=(wrap_in (by omega)).trans (by omega);rw[w1,w2,w3,w4,w5,anY];generalize a.getD n (0,0,0,false,0,[],0,[],[],())=c at hh hxn ⊢;obtain⟨c0,c1,c2,c3,c4,c5,c6,c7,c8,⟨⟩⟩:=c;dsimp only at hh hxn ⊢;have hi:(0:Int)<=n/\(n:Int)<a.length:=by omega
  have Rq:¬(c0=v/\c1=v+1/\c2=v+2/\c3=decide ((v+3).tmod 3=0)/\c4=v+4)->((-1:Int),())=(iw a k,()):=λh=>by rw[hh,anM h];rfl
  refine qN (by omega) ⟨hi,af (λg=>Rq λe=>aoH.1 g e.1) λg0=>⟨hi,af (λg=>Rq λe=>aoH.1 g e.2.1) λg1=>⟨hi,af (λg=>Rq λe=>aoH.1 g e.2.2.1) λg2=>⟨hi,by decide,af (λg=>Rq λe=>?_) λg3=>⟨hi,af (λg=>Rq λe=>aoH.1 g e.2.2.2.2) λg4=>⟨hi,⟨by omega,by omega,by omega⟩,?_⟩⟩⟩⟩⟩⟩
  .have:=ann.1 (jX g);rw[e.2.2.2.1]at this;exact this rfl
  have e3:c3=decide ((v+3).tmod 3=0):=anH.1 (iD g3);rw[anF ⟨aoo.1 g0,aoo.1 g1,aoo.1 g2,e3,aoo.1 g4⟩]at hh;have hh:iw a k=bif decide (jq c5 (v+5)<0)then -1 else
   bif !decide (c6=jq c5 (v+5)/\c7=Sp.markT (jq c5 (v+5)+1))then -1 else
   bif decide (mZ c8 (jq c5 (v+5)+2)<0)then -1 else iw (a.drop (n+1)) (mZ c8 (jq c5 (v+5)+2)):=hh
  refine af (λg=>by rw[hh,g];rfl) λg5=>?_;rw[g5]at hh;have hA:=ag1 (by omega) (jC g5);rw[hA]at hh ⊢;have u1:IntKind.i64.wrap (v+5+4*(c5.length:Int)+1)=v+5+4*c5.length+1:=wrap_in (by omega);have u2:IntKind.i64.wrap (v+5+4*(c5.length:Int)+1+1)=v+5+4*c5.length+2:=(wrap_in (by omega)).trans (by omega);rw[u1,u2];have no2:¬(c6=v+5+4*(c5.length:Int)/\c7=Sp.markT (v+5+4*(c5.length:Int)+1))->((-1:Int),())=(iw a k,()):=λh=>by rw[hh,anM h];rfl
  refine⟨hi,af (λg=>no2 λe=>aoH.1 g e.1) λg6=>⟨hi,⟨by omega,by omega⟩,af (λg=>no2 λe=>ann.1 (jX g) e.2) λg7=>⟨hi,⟨by omega,by omega,by omega⟩,?_⟩⟩⟩;rw[anF ⟨aoo.1 g6,anH.1 (iD g7)⟩]at hh;have hh:iw a k=bif decide (mZ c8 (v+5+4*(c5.length:Int)+2)<0)then -1 else iw (a.drop (n+1)) (mZ c8 (v+5+4*(c5.length:Int)+2)):=hh
  refine af (λg=>by rw[hh,g];rfl) λg8=>⟨rfl,?_⟩;rw[g8]at hh;have hN:=ag2 (by omega) (jC g8);exact next _ ⟨by rw[hN];omega,by rw[hN];omega,hh⟩
 .obtain⟨_,_,hh⟩:=hJ;rw[aoU]at hh;dsimp only;exact qO (by omega) (by rw[hh];rfl)
theorem PO:OK mg.e:=by
 refine PA.ok mixed (aY [iU.e,uf.e] ⟨rQ,PL,trivial⟩) Rx (by kernel_rfl) (show∀a k,mg.goal (PU a k) (a,k,())from ?_);intro a k hin hp;dsimp only[mg]at hp ⊢;obtain⟨h0,h1,hl,hx⟩:0<=k/\k<=10/\a.length<=40/\(∀x∈a,x.2.2.1.length<=6/\∀y∈x.2.2.1,y.2.2.2.2.2.1.length<=1000/\y.2.2.2.2.2.2.2.2.1.length<=1000):=hp;refine oC (mk:=λi(v:Int)=>((v,i,()),())) (λy=>y.1.2.1) (λ_ _=>rfl) a.length (by omega) (λn v=>0<=v/\v<=k+66046*n/\vN a k=vN (a.drop n) v) ⟨h0,by omega,rfl⟩ (λI μ n v hn hJ next=>?_) λI μ v hJ=>?_
 .obtain⟨hv0,hv1,hh⟩:=hJ;have hxn:=hx (a.getD n (0,0,[],[],0,())) (getD_mem hn);rw[drop_cons a n (0,0,[],[],0,()) hn,vN]at hh;dsimp only;have w1:IntKind.i64.wrap (v+1)=v+1:=wrap_in (by omega);have w2:IntKind.i64.wrap (v+1+1)=v+2:=(wrap_in (by omega)).trans (by omega);rw[w1,w2,anY];generalize a.getD n (0,0,[],[],0,())=c at hh hxn ⊢;obtain⟨c0,c1,c2,c3,c4,⟨⟩⟩:=c;dsimp only at hh hxn ⊢;have hi:(0:Int)<=n/\(n:Int)<a.length:=by omega
  have hsz:=Es c2 hxn.2;have Rq:¬(c0=v/\c1=v+1)->((-1:Int),())=(vN a k,()):=λh=>by rw[hh,anM h];rfl
  refine qN (by omega) ⟨hi,af (λg=>Rq λe=>aoH.1 g e.1) λg0=>⟨hi,af (λg=>Rq λe=>aoH.1 g e.2) λg1=>⟨hi,⟨by omega,by omega,by omega,hxn.2⟩,?_⟩⟩⟩;rw[anF ⟨aoo.1 g0,aoo.1 g1⟩]at hh;have hh:vN a k=bif decide (iw c2 (v+2)<0)then -1 else
   bif !decide (c3=Sp.markT (iw c2 (v+2))/\c4=iw c2 (v+2)+1)then -1 else vN (a.drop (n+1)) (iw c2 (v+2)+2):=hh
  refine af (λg=>by rw[hh,g];rfl) λg5=>?_;rw[g5]at hh;have hA:iw c2 (v+2)=v+2+fZ c2:=by have:=jC g5;rcases ZC c2 (v+2) (by omega)with e|e<;>omega
  rw[hA]at hh ⊢;have u1:IntKind.i64.wrap (v+2+(fZ c2:Int)+1)=v+2+fZ c2+1:=wrap_in (by omega);have u2:IntKind.i64.wrap (v+2+(fZ c2:Int)+1+1)=v+2+fZ c2+2:=(wrap_in (by omega)).trans (by omega);rw[u1,u2];have no2:¬(c3=Sp.markT (v+2+fZ c2)/\c4=v+2+fZ c2+1)->((-1:Int),())=(vN a k,()):=λh=>by rw[hh,anM h];rfl
  refine⟨hi,⟨by omega,by omega⟩,af (λg=>no2 λe=>ann.1 (jX g) e.1) λg6=>⟨hi,af (λg=>no2 λe=>aoH.1 g e.2) λg7=>⟨rfl,?_⟩⟩⟩;rw[anF ⟨anH.1 (iD g6),aoo.1 g7⟩]at hh;exact next _ ⟨by omega,by omega,hh⟩
 .obtain⟨_,_,hh⟩:=hJ;rw[aoU]at hh;dsimp only;exact qO (by omega) (by rw[hh];rfl)
theorem PV:OK l9.e:=by
 refine PA.ok mixed (aY [tY.e,jT.e,jP.e,AX.e] ⟨Pj,D7,sK,YL,trivial⟩) Ry (by kernel_rfl) (show∀text,l9.goal (PW text) (text,())from ?_);intro text hin hp;dsimp only[l9]at hp ⊢;refine af (λh=>?_) λh=>?_
 .unfold Sp.scr;rw[h];rfl
 have hl:text.length<=8000:=by have:=jC h;omega
 have e0:Sp.scr text=dS 0 (Sp.pieces 10 text) [] []:=by unfold Sp.scr;rw[h];rfl
 have hp8:=QI (c:=10) (s:=text);have hpl:=Sp.pieces_len 10 text;refine⟨by omega,?_⟩;generalize Sp.scr text=z at e0 ⊢;generalize Sp.pieces 10 text=ls at e0 hp8 hpl ⊢;refine oC (s0:=(([]:List aZ),([]:List aK))) (mk:=λi(v:List aZ×List aK)=>(((),(),i,()),v.1,v.2,())) (λy=>y.1.2.2.1) (λ_ _=>rfl) ls.length (by omega)
  (λn v=>v.1.length<=n/\v.2.length<=n/\z=dS n (ls.drop n) v.1 v.2) ⟨anr _,anr _,e0⟩ (λI μ n v hn hJ next=>?_) λI μ v hJ=>?_
 .obtain⟨acts,bJ⟩:=v;obtain⟨ha,hc,hz⟩:=hJ;have hLl:=hp8 (ls.getD n ([],())) (getD_mem hn);rw[drop_cons ls n ([],()) hn,dS]at hz;dsimp only at ha hc hz ⊢;rw[anY];generalize (ls.getD n ([],())).1=L at hz hLl ⊢;have ew:IntKind.i64.wrap ((n:Int)+1)=(n:Int)+1:=wrap_in (by omega);have hi:(0:Int)<=n/\(n:Int)<ls.length:=by omega
  refine qN (by omega) ⟨λy=>y.2.1.length<=n+1/\y.2.2.1.length<=n+1/\z=dS (n+1) (ls.drop (n+1)) y.2.1 y.2.2.1,⟨hi,by omega,λ_=>Sp.skipped L=false,?_,λ_ hs=>?_⟩,λy hy=>⟨rfl,next (y.2.1,y.2.2.1) hy⟩⟩
  .unfold Sp.skipped;cases hok:bZ L with
   |false=>exact⟨rfl,rfl⟩
   |true=>
    have hsk:Sp.skipped L=((ai L==[])||((ai L).getD 0 ([],())).1.getD 0 0==35):=by unfold Sp.skipped;rw[hok];rfl
    refine af (λ_=>?_) λh=>by cases h
    refine af (λg=>⟨rfl,ape ha,ape hc,?_⟩) λg=>?_
    .have hn:ai L=[]:=anV.1 (by have:=anH.1 g;omega);rw[hz,hsk,hn];rfl
    .have hne:ai L≠[]:=λe=>ann.1 g (by rw[e];rfl);have hpos:0<(ai L).length:=aph.2 hne;have hm:=getD_mem (d:=([],())) hpos;have hw:=(ku hok).1;have hso:((ai L).getD 0 ([],())).1≠[]:=by rw[hw]at hm ⊢;exact(Bd L _ hm).1
     have hlen:=aph.2 hso;rw[show Int.toNat (0:Int)=0 from rfl];refine⟨⟨by decide,by omega⟩,⟨by decide,by omega⟩,af (λg2=>⟨rfl,ape ha,ape hc,?_⟩) λg2=>⟨rfl,?_⟩⟩
     .have h35:(((ai L).getD 0 ([],())).1.getD 0 0==35)=true:=by have:=anH.1 g2;exact anH.2 (aqd.1 (by show _=35;omega))
      rw[hz,hsk,h35,aqu];rfl
     .have h35:(((ai L).getD 0 ([],())).1.getD 0 0==35)=false:=ann.2 λe=>ann.1 g2 (by rw[e];rfl);rw[h35,ann.2 hne];rfl
  .rw[hs]at hz;have hz:z=bif dB L then bif decide ((bJ.length:Int)>=6)then([],(n:Int)+1)else dS (n+1) (ls.drop (n+1)) acts (bJ++[bK L])else
    bif !cu L||decide ((acts.length:Int)>=40)then([],(n:Int)+1)else
    bif (bM L).1==1||(bM L).1==2 then dS (n+1) (ls.drop (n+1)) (acts++[AB (bM L) bJ]) []else dS (n+1) (ls.drop (n+1)) (acts++[bM L]) bJ:=hz
   have hnb:dB L=true->cu L=false:=ag3;have hce:(bK L).1=(bK L).1:=rfl;generalize bK L=pc at hz ⊢;generalize bM L=pa at hz ⊢;rw[ew];refine⟨hi,by omega,hi,by omega,?_⟩;cases hpc:dB L with
   |true=>
    rw[hpc]at hz;rw[hnb hpc];refine af (λ_=>?_) λh=>by cases h
    refine af (λg=>⟨pV (by rw[ano,anw];omega),rfl,ape ha,by rw[anm];exact apz hc,?_⟩) λg=>?_
    .rw[hz,anM (by have:=kH g;omega)];rfl
    .have:z=([],(n:Int)+1):=by rw[hz,anF (by have:=jC g;omega)];rfl
     rw[this];rfl
   |false=>
    rw[hpc]at hz;cases hao:cu L with
    |false=>
     rw[hao]at hz;rw[show z=([],(n:Int)+1)from hz];rfl
    |true=>
     rw[hao]at hz;refine af (λh=>by cases h) λ_=>af (λ_=>?_) λh=>by cases h
     refine af (λg=>?_) λg=>?_
     .have hz:z=bif pa.1==1||pa.1==2 then dS (n+1) (ls.drop (n+1)) (acts++[AB pa bJ]) []else dS (n+1) (ls.drop (n+1)) (acts++[pa]) bJ:=by rw[hz,anM (show ¬((acts.length:Int)>=40) by have:=kH g;omega)];rfl
      refine af (λg1=>⟨pV (by rw[ano,anw];omega),rfl,by rw[anm];exact apz ha,ant _,?_⟩) λg1=>af (λg2=>⟨pV (by rw[ano,anw];omega),rfl,by rw[anm];exact apz ha,ant _,?_⟩) λg2=>⟨pV (by rw[ano,anw];omega),rfl,by rw[anm];exact apz ha,ape hc,?_⟩
      .rw[hz,g1];rfl
      .rw[hz,g1,g2];rfl
      .rw[hz,g1,g2];rfl
     .have:z=([],(n:Int)+1):=by rw[hz,anF (show(acts.length:Int)>=40 by have:=jC g;omega)];rfl
      rw[this]<;>rfl
 .obtain⟨acts,bJ⟩:=v;obtain⟨_,hc,hz⟩:=hJ;rw[aoU,dS]at hz;dsimp only at hc hz ⊢;have ew:IntKind.i64.wrap ((ls.length:Int)+1)=(ls.length:Int)+1:=wrap_in (by omega);rw[ew];refine qO (by omega) (af (λg=>?_) λg=>?_)
  .rw[hz,g];rfl
  .rw[hz,g];rfl
end Go.Proofs.Tryz
namespace Go.Proofs.Tryz
open Go Go.Fw Go.RowKit Sp
set_option maxRecDepth 100000
def YN(c:aK)(va vq:Value):List Value:=[.int .i64 c.1,.int .i64 c.2.1,.int .i64 c.2.2.1,.bool c.2.2.2.1,.int .i64 c.2.2.2.2.1,va,.int .i64 c.2.2.2.2.2.2.1,.string ⟨c.2.2.2.2.2.2.2.1.toArray⟩,vq]
def ab3(a:aZ)(vc:Value):List Value:=[.int .i64 a.1,.int .i64 a.2.1,vc,.string ⟨a.2.2.2.1.toArray⟩,.int .i64 a.2.2.2.2.1]
def aay(a:aZ):Prop:=yI a.1/\yI a.2.1/\a.2.2.2.1.length<=maxLen/\yI a.2.2.2.2.1
def EA(w:World)(v:Value)(l:List dY):Prop:=bW w.heap (λb=>v.ownBlock=some b) (.sl bG jm) v l/\OA w 0 84 4 v l.length
def EQ(w:World)(v:Value)(l:List aC):Prop:=bW w.heap (λb=>v.ownBlock=some b) (.sl aI bY) v l/\OA w 0 125 7 v l.length
theorem EA.keep{w w':World}{v:Value}{l:List dY}(h:EA w v l)(hk:∀b,v.ownBlock=some b->w'.heap[b]? =w.heap[b]?):EA w' v l:=⟨bW.mono (λb hb=>⟨hb,hk b hb⟩) _ _ _ h.1,h.2.keep hk⟩
theorem EQ.keep{w w':World}{v:Value}{l:List aC}(h:EQ w v l)(hk:∀b,v.ownBlock=some b->w'.heap[b]? =w.heap[b]?):EQ w' v l:=⟨bW.mono (λb hb=>⟨hb,hk b hb⟩) _ _ _ h.1,h.2.keep hk⟩
theorem adT{h:Array Obj}{S:Nat->Prop}{e:TypeId}{r:aB}{v:Value}{l:List r.den}(hf:r.flat=true)(H:bW h S (.sl e r) v l):bW h (λb=>v.ownBlock=some b) (.sl e r) v l:=by
 refine⟨H.1,?_⟩;rcases H.2 with e|⟨b,off,cap,cs,t,fz,e1,e2,e3,e4,e5⟩
 .exact .inl e
 .exact .inr ⟨b,off,cap,cs,t,fz,e1,e2,by rw[e1];rfl,e4,λi x hx=>aU.flat (S:=S) _ _ _ hf (e5 i x hx)⟩
def CT(w:World)(v:Value)(l:List aK)(F:Nat->Prop):Prop:=
 ∃(xs:List Value)(hd:Nat->Value),w.ownsRow 0 39 9 v l.length xs/\(∀b,v.ownBlock=some b->F b)/\
  (∀j c,l[j]? =some c->(xs.drop (j*9)).take 9=YN c (hd (2*j)) (hd (2*j+1))/\YK c/\EA w (hd (2*j)) c.2.2.2.2.2.1/\EQ w (hd (2*j+1)) c.2.2.2.2.2.2.2.2.1)/\
  (∀p b,p<2*l.length->(hd p).ownBlock=some b->F b/\v.ownBlock≠some b)/\
  (∀p q b,p<2*l.length->q<2*l.length->(hd p).ownBlock=some b->(hd q).ownBlock=some b->p=q)
def Xv(w:World)(v:Value)(l:List aK)(F:Nat->Prop):Prop:=(l=[]/\∃a c,v=.slice a 0 c)\/CT w v l F
def AT(w:World)(v:Value)(l:List aZ)(F:Nat->Prop):Prop:=
 ∃(xs:List Value)(hd:Nat->Value)(Fj:Nat->Nat->Prop),w.ownsRow 0 53 5 v l.length xs/\(∀b,v.ownBlock=some b->F b)/\
  (∀j a,l[j]? =some a->(xs.drop (j*5)).take 5=ab3 a (hd j)/\aay a/\Xv w (hd j) a.2.2.1 (Fj j))/\
  (∀j b,j<l.length->Fj j b->F b/\v.ownBlock≠some b)/\(∀j j' b,j<l.length->j'<l.length->Fj j b->Fj j' b->j=j')
theorem CT.keep{w w':World}{v:Value}{l:List aK}{F:Nat->Prop}(h:CT w v l F)(hk:∀b,F b->w'.heap[b]? =w.heap[b]?):CT w' v l F:=by obtain⟨xs,hd,h1,h2,h3,h4,h5⟩:=h;refine⟨xs,hd,NY h1 λg hg=>hk g (h2 g hg),h2,λj c hj=>?_,h4,h5⟩;obtain⟨i1,i2,i4,i5⟩:=h3 j c hj;have hl:=(anv.1 hj).1;exact⟨i1,i2,i4.keep λg hg=>hk g (h4 _ g (by omega) hg).1,i5.keep λg hg=>hk g (h4 _ g (by omega) hg).1⟩
theorem CT.mono{w:World}{v:Value}{l:List aK}{F F':Nat->Prop}(h:CT w v l F)(hF:∀b,F b->F' b):CT w v l F':=by obtain⟨xs,hd,h1,h2,h3,h4,h5⟩:=h;exact⟨xs,hd,h1,λb hb=>hF b (h2 b hb),h3,λp b hp hb=>⟨hF b (h4 p b hp hb).1,(h4 p b hp hb).2⟩,h5⟩
theorem Xv.keep{w w':World}{v:Value}{l:List aK}{F:Nat->Prop}(h:Xv w v l F)(hk:∀b,F b->w'.heap[b]? =w.heap[b]?):Xv w' v l F:=h.imp id λh=>h.keep hk
theorem AT.keep{w w':World}{v:Value}{l:List aZ}{F:Nat->Prop}(h:AT w v l F)(hk:∀b,F b->w'.heap[b]? =w.heap[b]?):AT w' v l F:=by obtain⟨xs,hd,Fj,h1,h2,h3,h4,h5⟩:=h;refine⟨xs,hd,Fj,NY h1 λg hg=>hk g (h2 g hg),h2,λj a hj=>?_,h4,h5⟩;obtain⟨i1,i2,i3⟩:=h3 j a hj;have hl:=(anv.1 hj).1;exact⟨i1,i2,i3.keep λb hb=>hk b (h4 j b hl hb).1⟩
theorem AT.mono{w:World}{v:Value}{l:List aZ}{F F':Nat->Prop}(h:AT w v l F)(hF:∀b,F b->F' b):AT w v l F':=by obtain⟨xs,hd,Fj,h1,h2,h3,h4,h5⟩:=h;exact⟨xs,hd,Fj,h1,λb hb=>hF b (h2 b hb),h3,λj b hj hb=>⟨hF b (h4 j b hj hb).1,(h4 j b hj hb).2⟩,h5⟩
theorem adU{xs ys:List Value}{n z j:Nat}(h:xs.length=n*z)(hj:j<n):((xs++ys).drop (j*z)).take z=(xs.drop (j*z)).take z:=by have:(j+1)*z<=n*z:=anD _ hj;rw[an9,aqh]at this;rw[aoR (by omega),apf (by rw[anS];omega)]
theorem adV{xs ys:List Value}{n z:Nat}(h:xs.length=n*z)(hy:ys.length=z):((xs++ys).drop (n*z)).take z=ys:=by rw[← h,aqg,← hy,aoQ]
theorem ab4{α:Type}{l:List α}{x y:α}{j:Nat}(h:(l++[x])[j]? =some y):l[j]? =some y/\j<l.length\/j=l.length/\y=x:=by
 rcases anL j l.length with hl|hl
 .rw[aoi hl]at h;exact .inl ⟨h,hl⟩
 .rw[an8 hl]at h;obtain⟨h1,h2⟩:=anv.1 h;have h1:j-l.length<1:=h1;refine .inr ⟨by omega,?_⟩;rw[← h2];simp[show j-l.length=0 by omega]
theorem CT.push{w w':World}{v v':Value}{l:List aK}{c:aK}{va vq:Value}{F F':Nat->Prop}(h:CT w v l F)(hk:∀b,F b->v.ownBlock≠some b->w'.heap[b]? =w.heap[b]?)
 (ho:∀xs,w.ownsRow 0 39 9 v l.length xs->w'.ownsRow 0 39 9 v' (l.length+1) (xs++YN c va vq)) (hc:YK c) (ha:EA w' va c.2.2.2.2.2.1) (hq:EQ w' vq c.2.2.2.2.2.2.2.2.1)
 (hv:∀b,v'.ownBlock=some b->F' b/\(F b->v.ownBlock=some b)/\va.ownBlock≠some b/\vq.ownBlock≠some b) (hF:∀b,F b->v.ownBlock≠some b->F' b)
 (hn:∀b,va.ownBlock=some b\/vq.ownBlock=some b->F' b/\¬F b) (hs:∀b,va.ownBlock=some b->vq.ownBlock≠some b):CT w' v' (l++[c]) F':=by
 obtain⟨xs,hd,h1,h2,h3,h4,h5⟩:=h;have hlen:(l++[c]).length=l.length+1:=by rw[anm];rfl
 have e0:∀p,p<2*l.length->(if p<2*l.length then hd p else if p=2*l.length then va else vq)=hd p:=λp hp=>if_pos hp;have e1:(if 2*l.length<2*l.length then hd (2*l.length)else if 2*l.length=2*l.length then va else vq)=va:=by rw[if_neg (by omega),if_pos rfl]
 have e2:(if 2*l.length+1<2*l.length then hd (2*l.length+1)else if 2*l.length+1=2*l.length then va else vq)=vq:=by rw[if_neg (by omega),if_neg (by omega)]
 refine⟨xs++YN c va vq,λp=>if p<2*l.length then hd p else if p=2*l.length then va else vq,by rw[hlen];exact ho xs h1,λb hb=>(hv b hb).1,λj d hj=>?_,λp b hp hb=>?_,λp q b hp hq hb1 hb2=>?_⟩
 .dsimp only;rcases ab4 hj with⟨hj,hl⟩|⟨rfl,rfl⟩
  .obtain⟨i1,i2,i4,i5⟩:=h3 j d hj;rw[e0 _ (by omega),e0 _ (by omega),adU h1.1 hl];exact⟨i1,i2,i4.keep λg hg=>hk g (h4 _ g (by omega) hg).1 (h4 _ g (by omega) hg).2,i5.keep λg hg=>hk g (h4 _ g (by omega) hg).1 (h4 _ g (by omega) hg).2⟩
  .rw[e1,e2,adV h1.1 rfl];exact⟨rfl,hc,ha,hq⟩
 .rw[hlen]at hp;dsimp only at hb;rcases(show p<2*l.length\/p=2*l.length\/p=2*l.length+1 by omega)with hlt|rfl|rfl
  .rw[e0 p hlt]at hb;obtain⟨g1,g2⟩:=h4 p b hlt hb;exact⟨hF b g1 g2,λe=>g2 ((hv b e).2.1 g1)⟩
  .rw[e1]at hb;exact⟨(hn b (.inl hb)).1,λe=>(hv b e).2.2.1 hb⟩
  .rw[e2]at hb;exact⟨(hn b (.inr hb)).1,λe=>(hv b e).2.2.2 hb⟩
 .rw[hlen]at hp hq;dsimp only at hb1 hb2;rcases(show p<2*l.length\/p=2*l.length\/p=2*l.length+1 by omega)with hlt|rfl|rfl
  .rw[e0 p hlt]at hb1;rcases(show q<2*l.length\/q=2*l.length\/q=2*l.length+1 by omega)with hlt2|rfl|rfl
   .rw[e0 q hlt2]at hb2;exact h5 p q b hlt hlt2 hb1 hb2
   .rw[e1]at hb2;exact absurd (h4 p b hlt hb1).1 (hn b (.inl hb2)).2
   .rw[e2]at hb2;exact absurd (h4 p b hlt hb1).1 (hn b (.inr hb2)).2
  .rw[e1]at hb1;rcases(show q<2*l.length\/q=2*l.length\/q=2*l.length+1 by omega)with hlt2|rfl|rfl
   .rw[e0 q hlt2]at hb2;exact absurd (h4 q b hlt2 hb2).1 (hn b (.inl hb1)).2
   .rfl
   .rw[e2]at hb2;exact absurd hb2 (hs b hb1)
  .rw[e2]at hb1;rcases(show q<2*l.length\/q=2*l.length\/q=2*l.length+1 by omega)with hlt2|rfl|rfl
   .rw[e0 q hlt2]at hb2;exact absurd (h4 q b hlt2 hb2).1 (hn b (.inr hb1)).2
   .rw[e1]at hb2;exact absurd hb1 (hs b hb2)
   .rfl
theorem AT.push{w w':World}{v v':Value}{l:List aZ}{a:aZ}{vc:Value}{F F' Fc:Nat->Prop}(h:AT w v l F)(hk:∀b,F b->v.ownBlock≠some b->w'.heap[b]? =w.heap[b]?)
 (ho:∀xs,w.ownsRow 0 53 5 v l.length xs->w'.ownsRow 0 53 5 v' (l.length+1) (xs++ab3 a vc)) (ha:aay a) (hc:Xv w' vc a.2.2.1 Fc)
 (hv:∀b,v'.ownBlock=some b->F' b/\(F b->v.ownBlock=some b)/\¬Fc b) (hF:∀b,F b->v.ownBlock≠some b->F' b) (hn:∀b,Fc b->F' b/\¬F b):AT w' v' (l++[a]) F':=by
 obtain⟨xs,hd,Fj,h1,h2,h3,h4,h5⟩:=h;have hlen:(l++[a]).length=l.length+1:=by rw[anm];rfl
 have e0:∀p,p<l.length->(if p<l.length then hd p else vc)=hd p:=λp hp=>if_pos hp;have e1:(if l.length<l.length then hd l.length else vc)=vc:=if_neg (by omega);have f0:∀p,p<l.length->(if p<l.length then Fj p else Fc)=Fj p:=λp hp=>if_pos hp;have f1:(if l.length<l.length then Fj l.length else Fc)=Fc:=if_neg (by omega);refine⟨xs++ab3 a vc,λp=>if p<l.length then hd p else vc,λp=>if p<l.length then Fj p else Fc,by rw[hlen];exact ho xs h1,λb hb=>(hv b hb).1,λj d hj=>?_,λp b hp hb=>?_,λp q b hp hq hb1 hb2=>?_⟩
 .dsimp only;rcases ab4 hj with⟨hj,hl⟩|⟨rfl,rfl⟩
  .obtain⟨i1,i2,i3⟩:=h3 j d hj;rw[e0 _ hl,f0 _ hl,adU h1.1 hl];exact⟨i1,i2,i3.keep λg hg=>hk g (h4 j g hl hg).1 (h4 j g hl hg).2⟩
  .rw[e1,f1,adV h1.1 rfl];exact⟨rfl,ha,hc⟩
 .rw[hlen]at hp;rcases(show p<l.length\/p=l.length by omega)with hlt|rfl
  .rw[f0 p hlt]at hb;obtain⟨g1,g2⟩:=h4 p b hlt hb;exact⟨hF b g1 g2,λe=>g2 ((hv b e).2.1 g1)⟩
  .rw[f1]at hb;exact⟨(hn b hb).1,λe=>(hv b e).2.2 hb⟩
 .rw[hlen]at hp hq;rcases(show p<l.length\/p=l.length by omega)with hlt|rfl
  .rw[f0 p hlt]at hb1;rcases(show q<l.length\/q=l.length by omega)with hlt2|rfl
   .rw[f0 q hlt2]at hb2;exact h5 p q b hlt hlt2 hb1 hb2
   .rw[f1]at hb2;exact absurd (h4 p b hlt hb1).1 (hn b hb2).2
  .rw[f1]at hb1;rcases(show q<l.length\/q=l.length by omega)with hlt2|rfl
   .rw[f0 q hlt2]at hb2;exact absurd (h4 q b hlt2 hb2).1 (hn b hb1).2
   .rfl
theorem CT.nil{w:World}{v:Value}{F:Nat->Prop}(h:w.ownsRow 0 39 9 v 0 [])(hv:∀b,v.ownBlock=some b->F b):CT w v [] F:=
 ⟨[],λ_=>undef,h,hv,λj c hj=>by simp at hj,λp b hp=>absurd hp (aod _),λp q b hp=>absurd hp (aod _)⟩
theorem AT.nil{w:World}{v:Value}{F:Nat->Prop}(h:w.ownsRow 0 53 5 v 0 [])(hv:∀b,v.ownBlock=some b->F b):AT w v [] F:=
 ⟨[],λ_=>undef,λ_ _=>False,h,hv,λj c hj=>by simp at hj,λp b hp=>absurd hp (aod _),λp q b hp=>absurd hp (aod _)⟩
end Go.Proofs.Tryz
