import Derived.Test.YtkogcnaellmcdaaGreatP10
import Derived.Test.YtkogcnaellmcdaaGreatShelf
import Derived.Test.YtkogcnaellmcdaaGreatL4
import Derived.WalkKit
import Derived.Sort.OwnSortedInts
import Derived.Sort.Grow
import Derived.Lib.OwnBridge
import Derived.Laws.AppendOwn
import Derived.Laws.AppendOwnNone
import Derived.Test.YtkogcnaellmcdaaGreatSp
import Derived.Test.YtkogcnaellmcdaaGreatV3
namespace Go.Proofs.Tryz
open Go Go.Fw Go.RowKit Go.Sort Sp
abbrev EP:Int->Value:=Value.int .i64
def CB(l:List Int):List Int:=l.mergeSort λx y=>decide (x<=y)
def intsOf(l:List (Int×Unit)):List Int:=l.map (·.1)
theorem Rk(zs:List Int)(s:Int):s∈Lib.compact zs↔s∈zs:=by
 have hget:∀i(h:i<zs.length),zs.toArray[i]! =zs[i]:=λi h=>by rw[getElem!_pos _ i (by simpa using h)];simp
 unfold Lib.compact Lib.compactUpTo;simp only[aqh,aqv,aqC];constructor
 .rintro⟨i,⟨hi,_⟩,rfl⟩;rw[hget i hi];exact arA hi
 .intro hs;obtain⟨i,hi,e⟩:=ap3 hs;have all:∀i(hi:i<zs.length),∃j,(j<zs.length/\Lib.keeps zs.toArray j=true)/\zs.toArray[j]! =zs[i]:=by
   intro i
   induction i with
   |zero=>exactλhi=>⟨0,⟨hi,Lib.keeps_lt_one _ 0 (by omega)⟩,hget 0 hi⟩
   |succ i ih=>
    intro hi;by_cases h:zs.toArray[i+1]! =zs.toArray[i+1-1]!
    .obtain⟨j,h1,h2⟩:=ih (by omega);refine⟨j,h1,?_⟩;rw[h2,← hget (i+1) hi,h,arn,hget i (by omega)]
    .exact⟨i+1,⟨hi,Lib.keeps_pos h⟩,hget (i+1) hi⟩
  rw[← e];exact all i hi
theorem aff{zs:List Int}(h:zs.Pairwise λx y=>x<=y):(Lib.compact zs).Pairwise λx y=>x<y:=by
 have hget:∀i(h:i<zs.length),zs.toArray[i]! =zs[i]:=λi h=>by rw[getElem!_pos _ i (by simpa using h)];simp
 have le:∀i j(hi:i<=j)(hj:j<zs.length),zs[i]'(by omega)<=zs[j]:=λi j hi hj=>by
  rcases apQ i j with hl|hl
  .exact aq2.1 h i j (by omega) hj hl
  .have:i=j:=by omega
   subst this;exact ap5 _
 unfold Lib.compact Lib.compactUpTo;rw[aqN];refine List.Pairwise.imp_of_mem (R:=λi j=>i<j) ?_ (List.Pairwise.filter _ List.pairwise_lt_range);intro i j hi hj hij;rw[aqv,aqC]at hi hj;rw[hget i hi.1,hget j hj.1];have hk:zs.toArray[j]! ≠zs.toArray[j-1]! :=by
  have:=hj.2;intro e;have:¬(Lib.keeps zs.toArray j=true):=by rw[Lib.keeps_neg (by omega) e];decide
  exact this hj.2
 rw[hget j hj.1,hget (j-1) (by omega)]at hk;have h1:=le i (j-1) (by omega) (by omega);have h2:=le (j-1) j (by omega) hj.1;omega
theorem afg(l:List Int):(CB l).Pairwise λx y=>x<=y:=by have:=List.pairwise_mergeSort (le:=λx y:Int=>decide (x<=y)) (λa b c h1 h2=>by simp only[apF]at*;omega) (λa b=>by simp only[aqK,apF];omega) l;exact this.imp λh=>aqn h
theorem alN(a x y:List (Int×Unit)):(Lib.compact (CB (intsOf (Sp.without a y++x)))).map (λn=>(n,()))=lM a x y:=by
 obtain⟨h1,h2⟩:=O6 (a:=a) (x:=x) (y:=y);refine agK ?_ h1 λz=>?_
 .unfold Rl;rw[aqN];exact aff (afg _)
 .obtain⟨z,⟨⟩⟩:=z;rw[h2,aqh];have:(∃n,n∈Lib.compact (CB (intsOf (Sp.without a y++x)))/\(n,())=(z,()))↔(z,())∈Sp.without a y++x:=by
   constructor
   .rintro⟨n,hn,e⟩;obtain rfl:n=z:=congrArg Prod.fst e;rw[Rk]at hn;unfold CB at hn;rw[aro]at hn;obtain⟨⟨u,⟨⟩⟩,hu,rfl⟩:=aqh.1 hn;exact hu
   .intro hz;refine⟨z,?_,rfl⟩;rw[Rk];unfold CB;rw[aro];exact aqh.2 ⟨_,hz,rfl⟩
  rw[this,apX];unfold Sp.without;rw[aqv];simp only[ars];exact Or.comm
theorem wpList_append_run{P:Program}{w w':World}{ops:Array Oper}{rest:List Oper}{o:Oper}{a:Act}{Q:Exit->Act->World->Prop}(hgd:o.guard=none)(s x:Operand)(t:TypeId)
 (ho:o.op=.call {callee:=.builtin .append,args:=#[s,x],argTypes:=#[t,t]}) {v src u:Value} (hs:a.eval s=v) (hx:a.eval x=src)
 (hrun:(Builtin.append_ #[t,t] o.type #[v,src]).run P w=.ok u w') (h:wpList P ops Q rest (a.put o.dst u) w'):wpList P ops Q (o::rest) a w:=by
 refine wpList_plain hgd λK hK=>?_;unfold Oper.wp;simp[execOp,ho,resolve,invoke,builtin,hs,hx,hrun,Result.andThen];exact hK _ _ h
theorem aiV{w:World}{B e z n:Nat}{v:Value}{xs:List Value}(h:w.ownsRow 0 e z v n xs)(hb:∀g,v.ownBlock=some g->B<=g):w.ownsRow B e z v n xs:=by
 refine⟨h.1,?_⟩;rcases h.2 with h2|⟨g,cap,cur,e1,_,h3⟩
 .exact .inl h2
 .exact .inr ⟨g,cap,cur,e1,hb g (by rw[e1];rfl),h3⟩
theorem alO{w:World}{B e z n:Nat}{v:Value}{xs:List Value}(h:w.ownsRow B e z v n xs):w.ownsRow 0 e z v n xs/\∀g,v.ownBlock=some g->B<=g:=by
 rcases h.2 with h2|⟨g,cap,cur,e1,h2,h3⟩
 .exact⟨⟨h.1,.inl h2⟩,λg hg=>by rw[h2.1]at hg;cases hg⟩
 .exact⟨⟨h.1,.inr ⟨g,cap,cur,e1,apW _,h3⟩⟩,λk hk=>by rw[e1]at hk;cases hk;exact h2⟩
theorem ac5{h:Array Obj}{F:Nat->Prop}{l:List (Int×Unit)}{xs:List Value}(hl:xs.length=l.length)(hx:∀i x,l[i]? =some x->aZ h F bD ((xs.drop (i*1)).take 1) x):xs=(intsOf l).map EP:=by
 refine aqo λi=>?_;rcases apQ i l.length with hi|hi
 .obtain⟨u,us,e1,⟨e2,_⟩,_⟩:=hx i l[i] (apw hi);have h0:((xs.drop (i*1)).take 1)[0]? =some u:=by rw[e1];rfl
  rw[aqG (by omega),aql,aq0,aqR]at h0;rw[h0,e2];unfold intsOf;rw[ap7,ap7,apw hi];rfl
 .rw[aqu (by omega),aqu (by unfold intsOf;rw[apD,apD];exact hi)]
def IntsIn(w:World)(v:Value)(l:List (Int×Unit)):Prop:=fM w.heap (λb=>b<w.heap.size) (.sl aF bD) v l
theorem L8(u v:SV)(q:Nat):dR [.sv u,.sv v] q=none:=by unfold dR;rcases q / 64 with _|_|n<;>rfl
theorem ak6(q:Nat):lT [Eff.lose,Eff.lose] q=none:=by unfold lT;rcases q / 64 with _|_|n<;>rfl
theorem ak7{v0 v2:Value}{a b:List (Int×Unit)}{w:World}(h0:IntsIn w v0 a)(h2:IntsIn w v2 b)(hl:a.length<=10000000)(hG:G.ok w):
 Calls prog 153 #[v0,v2] w λe w'=>∃v,e=.returned v/\w'.ownsRow w.heap.size 3 1 v (Sp.without a b).length ((intsOf (Sp.without a b)).map EP)/\Below w.heap.size w w':=by
 have hcon:yV prog G 153 (aaS pV.sh pV.dB pV.F):=YZ.1;have arg:∀{v l},IntsIn w v l->aK ⟨w,w.heap.size,λ_=>True,λ_=>undef,dR [.sv (.one (.sl aF bD a false)),.sv (.one (.sl aF bD b false))]⟩ (.sl aF bD l false) v:=λh=>
  fM.mono (S':=V.bI ⟨w,w.heap.size,λ_=>True,λ_=>undef,dR [.sv (.one (.sl aF bD a false)),.sv (.one (.sl aF bD b false))]⟩ false) (h':=w.heap) (λb hb=>⟨⟨⟨hb,λ_=>trivial,λo x hx=>by have:=(L8 _ _ o).symm.trans hx;cases this⟩,λe=>by cases e⟩,rfl⟩) _ _ _ h
 refine((hcon [.sv (.one (.sl aF bD a false)),.sv (.one (.sl aF bD b false))] (a.length<=10000000) _ rfl hl).2 0 (λ_=>True) (λ_=>undef) #[v0,v2] w hG ⟨arg h0,arg h2,trivial⟩ ?_ ?_ ?_).mono ?_
 .exactλo x h=>by rw[L8]at h;cases h
 .exactλo x q y b h=>by rw[L8]at h;cases h
 .exactλt _ o x _=>ak6 o
 rintro e w' ⟨⟨⟨r,⟨⟩⟩,⟨⟩⟩,hr,v,γ',rfl,k1,k2,k3,k4,k5,k6,k7,_,_⟩;have hr:r=Sp.without a b:=hr;subst hr;have hv:v=γ' 0:=k6.2.1;obtain⟨⟨xs,o1,_,_,o2⟩,o3⟩:=k7 0 (.arr aF bD (Sp.without a b) false) rfl;subst hv;have hlen:xs.length=(Sp.without a b).length:=by rw[o1.1];exact aq0 _
 have o1:w'.ownsRow 0 3 1 (γ' 0) (Sp.without a b).length xs:=o1;rw[ac5 hlen o2]at o1;refine⟨_,rfl,aiV o1 λg hg=>?_,k1,k2,k3,k4,λb hb=>k5 b hb λ⟨o,x,ho,_⟩=>by rw[L8]at ho;cases ho⟩;have hb:blk (γ' 0)=some g:=by
  rw[← hg];rcases o1.2 with⟨e1,_⟩|⟨g',cap,cur,e1,_⟩
  .rw[e1];rfl
  .rw[e1];rfl
 rcases(o3 g hb).2.1 with h|⟨o,x,ho,_⟩
 .exact h
 .rw[L8]at ho;cases ho
theorem ajK{w:World}{B:Nat}{v src:Value}{l news:List (Int×Unit)}(hB:B<=w.heap.size)(hown:w.ownsRow B 3 1 v l.length ((intsOf l).map EP))(hs:IntsIn w src news)(hbig:l.length+news.length<=big)(ty:TypeId):
 ∃u w',(Builtin.append_ #[34,34] ty #[v,src]).run prog w=.ok u w'/\w'.ownsRow B 3 1 u (l++news).length ((intsOf (l++news)).map EP)/\Below B w w':=by
 obtain⟨d1,d2⟩:=alO hown;obtain⟨u,w',ns,r1,r2,r3,r4,r5⟩:=DN (P:=prog) (w:=w) (t:=34) (ty:=ty) (e:=3) (Ny F5 34 _ rfl) rfl (Ny F5 3 _ rfl) (by decide) d1 (F:=λb=>b<w.heap.size) hs hbig;have hns:ns.length=news.length:=by have:=r2.1;rw[apT,apD]at this;unfold intsOf at this;rw[apD]at this;have this:l.length+ns.length=(l.length+news.length)*1:=this;omega
 have hn:=ac5 hns r4;rw[hn]at r2;refine⟨u,w',r1,aiV ?_ ?_,(Below.refl B w).grown r3 hB d2⟩
 .rw[apT];unfold intsOf at r2 ⊢;rw[aqb,aqb];exact r2
 .intro g hg;rcases r5 g hg with h|h
  .exact d2 g h
  .omega
theorem aiW{w:World}{B:Nat}{v:Value}{zs:List Int}(hB:B<=w.heap.size)(hown:w.ownsRow B 3 1 v zs.length (zs.map EP))(hn:zs.length<=4000000000):
 Calls prog 154 #[v] w λe w'=>e=.returned (.tuple #[])/\w'.ownsRow B 3 1 v (CB zs).length ((CB zs).map EP)/\Below B w w':=by
 rcases hown.2 with⟨e1,e2⟩|⟨g,cap,cur,e1,h2,h3,h4,h5,h6,h7⟩
 .obtain rfl:zs=[]:=ap1.1 e2;subst e1;refine(Tryz.slices_Sort_int_none none 0 w).mono ?_;rintro e w' ⟨rfl,rfl⟩;exact⟨rfl,by unfold CB;rw[List.mergeSort_nil];exact hown,Below.refl _ _⟩
 .subst e1;rw[aq0]at h7;have hH:=holds_of_blockI h3 h7;refine(Tryz.slices_Sort_int g 0 cap zs w hH (ap0.1 h3).1 (by omega)).mono ?_;rintro e w' ⟨rfl,n,os,rfl⟩;have hl:(CB zs).length=zs.length:=aqx zs;refine⟨rfl,?_,(Below.refl B w).grown (grownBy_sortedI _) hB λk hk=>by cases hk;exact h2⟩;rw[hl];exact ownsRow_sortedI hl h2 h3 h4 h5 h6
theorem afh{w:World}{B:Nat}{v:Value}{zs:List Int}(hB:B<=w.heap.size)(hown:w.ownsRow B 3 1 v zs.length (zs.map EP))(hn:zs.length<=4000000000):
 Calls prog 155 #[v] w λe w'=>∃v',e=.returned v'/\w'.ownsRow B 3 1 v' (Lib.compact zs).length ((Lib.compact zs).map EP)/\Below B w w':=by
 rcases id hown.2 with⟨e1,e2⟩|⟨g,cap,cur,e1,h2,h3,h4,h5,h6,h7⟩
 .obtain rfl:zs=[]:=ap1.1 e2;subst e1;refine(Tryz.slices_Compact_int_empty none 0 w).mono ?_;rintro e w' ⟨rfl,rfl⟩;exact⟨_,rfl,hown,Below.refl _ _⟩
 .subst e1;rw[aq0]at h7;have hH:=holds_of_blockI h3 h7;refine(Tryz.slices_Compact_int g 0 cap zs w hH (by omega) h4).mono ?_;rintro e w' ⟨rfl,q,rfl⟩;have hle:=Lib.compact_length_le zs;have hc:=Lib.ownsRow_putRow (q:=q) (k:=(Lib.compact zs).length) (ys:=Lib.compact zs++List.replicate (zs.length-(Lib.compact zs).length) 0) hown (by simp;omega) (by omega);rw[List.take_left]at hc;exact⟨_,rfl,hc,Lib.below_putRow (Below.refl B w) h2⟩
set_option maxHeartbeats 2000000 in
set_option maxRecDepth 100000 in
theorem adG{v0 v1 v2:Value}{a x y:List (Int×Unit)}{w:World}(h0:IntsIn w v0 a)(h1:IntsIn w v1 x)(h2:IntsIn w v2 y)(hl:a.length+x.length<=8000000)(hG:G.ok w):
 Calls prog 126 #[v0,v1,v2] w λe w'=>∃v,e=.returned v/\w'.ownsRow w.heap.size 3 1 v (lM a x y).length ((intsOf (lM a x y)).map EP)/\Below w.heap.size w w':=by
 have mixed:=Tryz.mixed;have hw:=ak7 h0 h2 (by omega) hG;have hp:(Lib.compact (CB (intsOf (Sp.without a y++x))))=intsOf (lM a x y):=by rw[← alN a x y];unfold intsOf;rw[aqE];exact(aqZ _).symm
 have hpl:(Lib.compact (CB (intsOf (Sp.without a y++x)))).length=(lM a x y).length:=by rw[hp];unfold intsOf;rw[apD]
 have hwl:(Sp.without a y).length<=a.length:=aqd _ _;have hil:(intsOf (Sp.without a y++x)).length=(Sp.without a y++x).length:=by unfold intsOf;rw[apD]
 have hsl:(CB (intsOf (Sp.without a y++x))).length=(intsOf (Sp.without a y++x)).length:=aqx _;have hla:(Sp.without a y++x).length<=8000000:=by rw[apT];omega
 have hbig:(Sp.without a y).length+x.length<=big:=by unfold big;omega
 rw[← hp,← hpl];clear hp hpl h0 h2 hG;generalize Sp.without a y=l at*
 go_enter Tryz.func126,Tryz.ntmps126
 go_wp2_with (first
  |(go_at_call 153;refine hw.mono ?_;rintro e w1 ⟨u,rfl,hown,hbel⟩
    have h1:IntsIn w1 v1 x:=fM.mono (S':=λb=>b<w1.heap.size) (λb hb=>⟨ap4 hb hbel.size,hbel.block b hb⟩) _ _ _ h1;have happ:=ajK (ty:=34) hbel.size hown h1 hbig;obtain⟨u2,w2,hrun,hown2,hb2⟩:=happ;have aky:=hbel.trans hb2;clear hown hb2 hbel;rw[← hil]at hown2;have hsort:=aiW (B:=w.heap.size) aky.size hown2 (by omega))
  |(at_builtin;refine wpList_append_run rfl _ _ 34 rfl rfl rfl hrun ?_)
  |(go_at_call 154;refine hsort.mono ?_;rintro e w3 ⟨rfl,hown3,hb3⟩
    have akz:=aky.trans hb3;have hcomp:=afh (B:=w.heap.size) akz.size hown3 (by omega);clear hown3 hb3)
  |(go_at_call 155;refine hcomp.mono ?_;rintro e w4 ⟨u4,rfl,hown4,hb4⟩))
 go_ret
 exact⟨_,rfl,hown4,akz.trans hb4⟩
theorem Y0{w:World}{v:Value}{l:List (Int×Unit)}(h:IntsIn w v l):∀z∈l,IntKind.i64.min<=z.1/\z.1<=IntKind.i64.max:=by
 rcases h.2 with⟨rfl,_⟩|⟨b,off,cap,cs,t,fz,_,_,_,_,hx⟩
 .exactλz hz=>by cases hz
 .intro z hz;obtain⟨i,hi,rfl⟩:=ap3 hz;obtain⟨u,us,_,⟨_,e2,e3⟩,_⟩:=hx i l[i] (apw hi);exact⟨e2,e3⟩
theorem ajL{w w':World}{S:Nat->Prop}{γ:Nat->Value}{v:Value}{l:List (Int×Unit)}(hown:w'.ownsRow w.heap.size 3 1 v l.length ((intsOf l).map EP))(hr:∀z∈l,IntKind.i64.min<=z.1/\z.1<=IntKind.i64.max):
 aK ⟨w',w.heap.size,S,γ,λ_=>none⟩ (.sl 3 bD l true) v:=by
 rcases hown.2 with⟨e1,e2⟩|⟨g,cap,cur,e1,h2,h3,h4,h5,h6,h7⟩
 .exact⟨by rw[e2];exact apW _,.inl ⟨ap1.1 e2,none,0,e1⟩⟩
 .have hlt:=(ap0.1 h3).1;refine⟨by omega,.inr ⟨g,0,cap,cur,3,(0,0),e1,h4,⟨⟨hlt,λh=>absurd (show g<w.heap.size from h) (by omega),(λo x hx=>by cases hx)⟩,λ_=>h2⟩,h3,λi x hx=>?_⟩⟩;have hi:=(apC.1 hx).1;have hc:cur.toList[i]? =some (EP x.1):=by
   have:(cur.toList.take (l.length*1))[i]? =((intsOf l).map EP)[i]? :=by rw[h7]
   rw[aqG (by omega)]at this;unfold intsOf at this;rw[ap7,ap7,hx]at this;exact this
  obtain⟨hi2,e⟩:=apC.1 hc;show aZ _ _ (.cons (.int .i64) .nil) ((cur.toList.drop (0+i*1)).take 1) x;rw[aqg,aq0,arw hi2,e];exact⟨EP x.1,[],rfl,⟨rfl,hr x (apY hx)⟩,rfl⟩
theorem WM:lV prog G D7 AO:=by
 intro args p out k S vs w hcon hp hG hrep;unfold AO xO Fa at hcon;split at hcon
 .next t hx=>
  revert t;show∀t:List (Int×Unit)×List (Int×Unit)×List (Int×Unit)×Unit,_;rintro⟨a,x,y,⟨⟩⟩ hx hcon;have hF:=Option.some.inj hcon;have hv:=aeM CQ args _ vs.toList hx hrep;have hp1:(a.length+x.length<=8000000)=p:=congrArg Prod.fst hF;have ho:=congrArg Prod.snd hF;subst ho;have hl:a.length+x.length<=8000000:=by rw[hp1];exact hp
  match hvs:vs.toList,hv with
  |[v0,v1,v2],hv=>
   have evs:vs=#[v0,v1,v2]:=by obtain⟨vl⟩:=vs;simp at hvs;rw[hvs]
   subst evs;have flat:∀{v l},fM w.heap (V.bI ⟨w,w.heap.size,S,λ_=>undef,λ_=>none⟩ false) (.sl aF bD) v l->IntsIn w v l:=λh=>fM.mono (S':=λb=>b<w.heap.size) (λb hb=>⟨hb.1.1,rfl⟩) _ _ _ h;have i0:IntsIn w v0 a:=flat hv.1;have i1:IntsIn w v1 x:=flat hv.2.1;have i2:IntsIn w v2 y:=flat hv.2.2.1;have r0:=Y0 i0;have r1:=Y0 i1;refine(adG i0 i1 i2 hl hG).mono ?_;rintro e w' ⟨v,rfl,hown,hbel⟩;refine⟨v,λ_=>undef,rfl,hbel.os,hbel.tape,hbel.output,hbel.size,λb hb=>hbel.block b hb,ajL hown λz hz=>?_,(λo x hx=>by cases hx),(λo x q y b hx=>by cases hx)⟩;rcases(O6.2 z).1 hz with h|h
   .exact r1 z h
   .exact r0 z h.1
 .cases hcon
end Go.Proofs.Tryz
namespace Go.Proofs.Tryz
open Go Go.Fw Go.IntWalk Sp
theorem ahO(l:List (Int×Unit))(es:List kX)(e:kX):Sp.replay l (es++[e])=Y3 (Sp.replay l es) e:=by unfold Sp.replay;rw[List.foldl_append];rfl
theorem afi{es:List kX}{n:Nat}(h:n<es.length):iL (es.take (n+1))=iL (es.take n)+(Ee es n).2.1.length:=by unfold iL;rw[Sp.take_succ' es n (0,[],[],()) h,aqb,arH];simp[Ee]
theorem ahP(es:List kX)(n:Nat):iL (es.take n)<=iL es:=by
 unfold iL
 conv=>rhs;rw[← aq7 n es]
 rw[aqb,arH];omega
theorem ahQ(l:List (Int×Unit))(es:List kX):(Sp.replay l es).length<=l.length+iL es:=by
 induction es generalizing l with
 |nil=>exact aqW _ _
 |cons e r ih=>
  have h1:=ih (Y3 l e);have h2:=afj l e.2.1 e.2.2.1;have h3:(Y3 l e).length<=l.length+e.2.1.length:=h2;show(Sp.replay (Y3 l e) r).length<=l.length+iL (e::r);have h4:iL (e::r)=e.2.1.length+iL r:=by unfold iL;simp
  omega
theorem ac6{l:List (Int×Unit)}{es:List kX}(hf:MZ l es){n:Nat}(hn:n<es.length):
 (Sp.replay l (es.take n)).length+(Ee es n).2.1.length<=4000000/\Sp.replay l (es.take (n+1))=lM (Sp.replay l (es.take n)) (Ee es n).2.1 (Ee es n).2.2.1:=by
 have h1:=ahQ l (es.take n);have h2:=afi hn;have h3:=ahP es (n+1);have h4:l.length+iL es<=4000000:=hf;exact⟨by omega,by rw[Sp.take_succ' es n (0,[],[],()) hn,ahO];rfl⟩
theorem NW:OK qG.e:=by
 refine aV [(D7,.pure AO),jk.e] ⟨⟨WM,Uc⟩,qN,⟨⟩⟩ PG λids es=>show qG.goal (NY ids es) (ids,es,())fromλhin hp=>?_
 dsimp only[qG]at hp ⊢;have hl:es.length<=maxLen:=hin.2.1.1;rw[maxLen_eq]at hl;have hp:MZ ids es:=hp;have h0:ids.length+iL es<=4000000:=hp;refine⟨by omega,fB (λi(z:List (Int×Unit))=>((z,i,()),())) (λy=>y.1.2.1) (λ_ _=>rfl) es.length (by omega) (λn z=>z=Sp.replay ids (es.take n)) rfl (λI μ n z hn hJ next=>?_) λI μ z hJ=>?_⟩
 .subst hJ;obtain⟨h1,h2⟩:=ac6 hp hn;dsimp only;exact cO (by omega) ⟨⟨by omega,by omega⟩,apv h1 (by decide),rfl,next _ h2.symm⟩
 .subst hJ;dsimp only;exact bY (by omega) (by rw[apZ])
theorem NZ:OK qH.e:=by
 refine aV [ou.e] ⟨Kw,⟨⟩⟩ PI λids es=>show qH.goal (N7 ids es) (ids,es,())fromλhin hp=>?_
 dsimp only[qH]at hp ⊢;have hl:es.length<=maxLen:=hin.2.1.1;rw[maxLen_eq]at hl;have hp:MZ ids es:=hp;have h0:ids.length+iL es<=4000000:=hp;refine⟨by rw[cZ];omega,fB (λi(z:List (Int×Unit))=>((z,i,()),())) (λy=>y.1.2.1) (λ_ _=>rfl) es.length (by omega) (λn z=>z=Sp.replay ids (es.take n)) rfl (λI μ n z hn hJ next=>?_) λI μ z hJ=>?_⟩
 .subst hJ;obtain⟨h1,h2⟩:=ac6 hp hn;dsimp only;exact cO (by omega) ⟨⟨by omega,by omega⟩,⟨by omega,by omega⟩,apv h1 (by decide),rfl,next _ h2.symm⟩
 .subst hJ;dsimp only;exact bY (by omega) (by rw[apZ])
theorem N8:OK qI.e:=by
 refine aV [qG.e] ⟨NW,⟨⟩⟩ H0 λw0 w1 w2 w3=>show qI.goal (N9 w0 w1 w2 w3) ((w0,w1,w2,w3,()),())fromλhin hp=>?_
 dsimp only[qI]at hp ⊢;exact⟨hp.1,rfl⟩
theorem Oa:OK qJ.e:=by
 refine aV [qH.e] ⟨NZ,⟨⟩⟩ H0 λw0 w1 w2 w3=>show qJ.goal (Ob w0 w1 w2 w3) ((w0,w1,w2,w3,()),())fromλhin hp=>?_
 dsimp only[qJ]at hp ⊢;exact⟨hp.1,rfl⟩
theorem Uh:OK vF.e:=by
 refine uO [jk.e] ⟨qN,⟨⟩⟩ H0 (λ⟨e,_⟩ _=>⟨((e,()),()),rfl⟩) λe0 e1 e2=>show vF.goal (Ui e0 e1 e2) ((e0,e1,e2,()),())fromλhin hp=>?_
 dsimp only[vF]at hp ⊢;exact⟨apv hp.1 (by decide),apv hp.2 (by decide),rfl⟩
theorem Uj:OK vG.e:=by
 refine uO [jk.e,vF.e] ⟨qN,Uh,⟨⟩⟩ WN (λ⟨w,_⟩ _=>⟨((w,()),()),rfl⟩) λw0 w1 w2 w3=>show vG.goal (Uk w0 w1 w2 w3) ((w0,w1,w2,w3,()),())fromλhin hp=>?_
 dsimp only[vG]at hp ⊢;obtain⟨h1,h2,h3⟩:EF (w0,w1,w2,w3,()):=hp;have h1:w2.length+iL w3<=4000000:=h1;have h2:w3.length<=4000000:=h2;refine fB (λi(z:List kX)=>(((),i,()),z,())) (λy=>y.1.2.1) (λ_ _=>rfl) w3.length (by omega) (λn z=>z=w3.take n) rfl (λI μ n z hn hJ next=>?_) λI μ z hJ=>?_
 .subst hJ;dsimp only;refine cO (by omega) ⟨⟨by omega,by omega⟩,h3 _ (getD_mem hn),λr hr=>?_⟩;have hr:r.1.1=w3.getD n (0,[],[],()):=hr;rw[hr];exact⟨by rw[cZ,apM,apH,apV];omega,rfl,next _ (Sp.take_succ' w3 n (0,[],[],()) hn).symm⟩
 .subst hJ;dsimp only;exact bY (by omega) ⟨by omega,by rw[apZ]⟩
theorem Ul:OK vH.e:=by
 refine uO [] ⟨⟩ WO (λ⟨es,_⟩ _=>⟨((es,()),()),rfl⟩) λes=>show vH.goal (Um es) (es,())fromλhin hp=>?_
 dsimp only[vH]at hp ⊢;obtain⟨h2,h3⟩:es.length<=4000000/\∀e∈es,aaU e:=hp;refine fB (λi(z:List kX)=>(((),i,()),z,())) (λy=>y.1.2.1) (λ_ _=>rfl) es.length (by omega) (λn z=>z=es.take n) rfl (λI μ n z hn hJ next=>?_) λI μ z hJ=>?_
 .subst hJ;have hb:=cZ;have g:(es.getD n (0,[],[],())).2.1.length<=4000000/\(es.getD n (0,[],[],())).2.2.1.length<=4000000:=h3 _ (getD_mem hn);dsimp only;rw[apG];exact cO (by omega) ⟨⟨by omega,by omega⟩,⟨by omega,by omega⟩,by omega,⟨by omega,by omega⟩,by omega,by rw[apM,apH,apV];omega,rfl,next _ (Sp.take_succ' es n (0,[],[],()) hn).symm⟩
 .subst hJ;dsimp only;exact bY (by omega) (by rw[apZ])
theorem Ky:OK oz.e:=by
 refine uO [vH.e] ⟨Ul,⟨⟩⟩ L9 (λ⟨w,_⟩ _=>⟨((w,()),()),rfl⟩) λw0 w1 w2 w3=>show oz.goal (Kz w0 w1 w2 w3) ((w0,w1,w2,w3,()),())fromλhin hp=>?_
 dsimp only[oz]at hp ⊢;obtain⟨h1,h2,h3⟩:EF (w0,w1,w2,w3,()):=hp;have h1:w2.length+iL w3<=4000000:=h1;refine⟨by rw[cZ];omega,⟨h2,h3⟩,λr hr=>?_⟩;show(w0,w1,w2,r.1)=_;rw[show r.1=(w3,())from congrArg (·,()) hr]
theorem aiX{α:Type}{f:α->Bool}{d:α}{a:List α}(h:∀i,i<a.length->f (a.getD i d)=true):a.all f=true:=by
 rw[apL];intro x hx;obtain⟨i,hi,rfl⟩:=ap3 hx;have:=h i hi
 rwa [apI,apw hi]at this
theorem aiY{α:Type}{f:α->Bool}{d:α}{a:List α}{i:Nat}(hi:i<a.length)(h:f (a.getD i d)=false):a.all f=false:=by rw[List.all_eq_false];exact⟨_,getD_mem hi,by rw[h];decide⟩
end Go.Proofs.Tryz
namespace Go.Proofs.Tryz
open Go Go.Fw Go.IntWalk Sp
theorem JE{x:gZ}{i:Int}(h:(decide (0<=i)&&decide (i<=((sS x).length:Int)-1))=true):jC x i=(ahR (sS x) i.toNat,true):=by unfold jC;rw[h];rfl
theorem WQ{x:gZ}{i:Int}(h:(decide (0<=i)&&decide (i<=((sS x).length:Int)-1))=false):jC x i=(abu,false):=by unfold jC;rw[h];rfl
theorem agj:EF abu:=⟨by show([]:List (Int×Unit)).length+iL []<=4000000;decide,by decide,λe h=>by cases h⟩
theorem ac7{x:gZ}(h:Sp.hugeS x)(i:Int):EF (jC x i).1:=by
 cases hi:(decide (0<=i)&&decide (i<=((sS x).length:Int)-1))with
 |false=>rw[WQ hi];exact agj
 |true=>rw[JE hi];simp only[apt,apF]at hi;have hm:ahR (sS x) i.toNat∈sS x:=getD_mem (show i.toNat<(sS x).length by omega);exact h.2.2 _ hm
theorem Un:OK vI.e:=by
 refine uO [vG.e,iR.e] ⟨Uj,kW,⟨⟩⟩ H0 (λ⟨x,i,_⟩ _=>⟨(((jC x i).1,(jC x i).2,()),()),⟨rfl,rfl⟩⟩) λx0 x1 x2 x3 x4 x5 x6 x7 x8 x9 x10 i=>show vI.goal (Uo x0 x1 x2 x3 x4 x5 x6 x7 x8 x9 x10 i) ((x0,x1,x2,x3,x4,x5,x6,x7,x8,x9,x10,()),i,())fromλhin hp=>?_
 dsimp only[vI]at hp ⊢;obtain⟨_,hW,hWs⟩:Sp.hugeS (x0,x1,x2,x3,x4,x5,x6,x7,x8,x9,x10,()):=hp;have hW:x9.length<=2000000:=hW;refine⟨trivial,?_⟩;dsimp only;rw[fH _ (by omega)];refine af (λh=>?_) λh=>?_
 .rw[WQ (x:=(x0,x1,x2,x3,x4,x5,x6,x7,x8,x9,x10,())) (gY h)];exact⟨rfl,rfl⟩
 .have h:=dO h;have g:=h;simp only[apt,apF]at g;refine⟨⟨by omega,by omega⟩,hWs _ (getD_mem (show i.toNat<x9.length by omega)),λr hr=>?_⟩;rw[hr];rw[JE (x:=(x0,x1,x2,x3,x4,x5,x6,x7,x8,x9,x10,())) h];exact⟨rfl,rfl⟩
theorem F8:OK lg.e:=by
 refine aV [nT.e,zD.e,qI.e,vI.e] ⟨Ew,Y4,N8,Un,⟨⟩⟩ H0 λx0 x1 x2 x3 x4 x5 x6 x7 x8 x9 x10 i=>show lg.goal (F9 x0 x1 x2 x3 x4 x5 x6 x7 x8 x9 x10 i) ((x0,x1,x2,x3,x4,x5,x6,x7,x8,x9,x10,()),i,())fromλhin hp=>?_
 dsimp only[lg]at hp ⊢;have hp:Sp.hugeS (x0,x1,x2,x3,x4,x5,x6,x7,x8,x9,x10,()):=hp;refine⟨hp,?_⟩;rintro⟨⟨w,ok,⟨⟩⟩,⟨⟩⟩ ⟨e1,e2⟩;have e1:w=(jC (x0,x1,x2,x3,x4,x5,x6,x7,x8,x9,x10,()) i).1:=e1;have e2:ok=(jC (x0,x1,x2,x3,x4,x5,x6,x7,x8,x9,x10,()) i).2:=e2;subst e1 e2;refine af (λh=>⟨ac7 hp i,hp.1,trivial,?_⟩) λh=>?_
 .unfold sK;rw[show(jC (x0,x1,x2,x3,x4,x5,x6,x7,x8,x9,x10,()) i).2=true from h];rfl
 .unfold sK;rw[show(jC (x0,x1,x2,x3,x4,x5,x6,x7,x8,x9,x10,()) i).2=false from h];rfl
theorem ac8{x:gZ}{n:Nat}(hn:n<(sS x).length):sK x (n:Int)=IA (jK (xR x)) (mP (xR x)) ((sS x).getD n (0,[],[],[],())):=by unfold sK;rw[JE (by rw[apt,apF,apF];omega)];rfl
theorem ER:OK jS.e:=by
 refine aV [lg.e] ⟨F8,⟨⟩⟩ FP λx0 x1 x2 x3 x4 x5 x6 x7 x8 x9 x10=>show jS.goal (ES x0 x1 x2 x3 x4 x5 x6 x7 x8 x9 x10) ((x0,x1,x2,x3,x4,x5,x6,x7,x8,x9,x10,()),())fromλhin hp=>?_
 dsimp only[jS]at hp ⊢;have hp:Sp.hugeS (x0,x1,x2,x3,x4,x5,x6,x7,x8,x9,x10,()):=hp;have hW:x9.length<=2000000:=hp.2.1;refine dP x9.length (by omega) (λn=>∀i,i<n->IA (x0,x1,x2,()) x3 (x9.getD i (0,[],[],[],()))=true) (λi hi=>by omega) (λI μ n hn hJ next=>?_) λI μ hJ=>?_
 .dsimp only;have e:=ac8 (x:=(x0,x1,x2,x3,x4,x5,x6,x7,x8,x9,x10,())) hn;refine cO (by omega) ⟨hp,?_⟩;rw[e];refine af (λh=>?_) λh=>⟨rfl,next (bZ (f:=λi=>IA (x0,x1,x2,()) x3 (x9.getD i (0,[],[],[],()))) hJ (dO h))⟩;have:Sp.streams (x0,x1,x2,x3,x4,x5,x6,x7,x8,x9,x10,())=false:=aiY hn (gY h);rw[this]
 .dsimp only;refine bY (by omega) ?_;have:Sp.streams (x0,x1,x2,x3,x4,x5,x6,x7,x8,x9,x10,())=true:=aiX hJ;rw[this]
structure apd(x:gZ):Prop where
 h1:G7 (xR x)=true
 h2:(Sp.latest (oI x) (oJ x)).2.2.1=true
 h3:(Sp.latest (oI x) (oJ x)).1=Gf x
 h4:Mc (Sp.latest (oI x) (oJ x)).2.1 (Y5 x)=true
 h5:Y6 (rY x)=true
 h6:0<(rY x).length
 h7:(sS x).length<=4
 h8:agL (KA x)=true
end Go.Proofs.Tryz
namespace Go.Proofs.Tryz
open Go Go.Fw Go.IntWalk Sp
theorem Ur:OK vJ.e:=by
 refine uO [oz.e,gW.e] ⟨Ky,iU,⟨⟩⟩ H0 (λ⟨x,i,_⟩ _=>⟨(((jC x i).1,(jC x i).2,()),()),⟨rfl,rfl⟩⟩) λx0 x1 x2 x3 x4 x5 x6 x7 x8 x9 x10 i=>show vJ.goal (Us x0 x1 x2 x3 x4 x5 x6 x7 x8 x9 x10 i) ((x0,x1,x2,x3,x4,x5,x6,x7,x8,x9,x10,()),i,())fromλhin hp=>?_
 dsimp only[vJ]at hp ⊢;obtain⟨_,hW,hWs⟩:Sp.hugeS (x0,x1,x2,x3,x4,x5,x6,x7,x8,x9,x10,()):=hp;have hW:x9.length<=2000000:=hW;refine⟨trivial,?_⟩;dsimp only;rw[fH _ (by omega)];refine af (λh=>?_) λh=>?_
 .rw[WQ (x:=(x0,x1,x2,x3,x4,x5,x6,x7,x8,x9,x10,())) (gY h)];exact⟨rfl,rfl⟩
 .have h:=dO h;have g:=h;simp only[apt,apF]at g;refine⟨⟨by omega,by omega⟩,hWs _ (getD_mem (show i.toNat<x9.length by omega)),?_⟩;rintro⟨⟨w,⟨⟩⟩,⟨⟩⟩ hr;have hr:w=x9.getD i.toNat (0,[],[],[],()):=hr;subst hr;rw[JE (x:=(x0,x1,x2,x3,x4,x5,x6,x7,x8,x9,x10,())) h];exact⟨rfl,rfl⟩
theorem Gg:OK lq.e:=by
 refine aV [pR.e,zG.e,qJ.e,vJ.e] ⟨Ed,Y7,Oa,Ur,⟨⟩⟩ H0 λx0 x1 x2 x3 x4 x5 x6 x7 x8 x9 x10 i=>show lq.goal (Gh x0 x1 x2 x3 x4 x5 x6 x7 x8 x9 x10 i) ((x0,x1,x2,x3,x4,x5,x6,x7,x8,x9,x10,()),i,())fromλhin hp=>?_
 dsimp only[lq]at hp ⊢;have hp:Sp.hugeS (x0,x1,x2,x3,x4,x5,x6,x7,x8,x9,x10,()):=hp;refine⟨hp,?_⟩;rintro⟨⟨w,ok,⟨⟩⟩,⟨⟩⟩ ⟨e1,e2⟩;have e1:w=(jC (x0,x1,x2,x3,x4,x5,x6,x7,x8,x9,x10,()) i).1:=e1;have e2:ok=(jC (x0,x1,x2,x3,x4,x5,x6,x7,x8,x9,x10,()) i).2:=e2;subst e1 e2;refine af (λh=>⟨ac7 hp i,hp.1,trivial,?_⟩) λh=>?_
 .unfold sK;rw[show(jC (x0,x1,x2,x3,x4,x5,x6,x7,x8,x9,x10,()) i).2=true from h];rfl
 .unfold sK;rw[show(jC (x0,x1,x2,x3,x4,x5,x6,x7,x8,x9,x10,()) i).2=false from h];rfl
theorem ET:OK jT.e:=by
 refine aV [lq.e] ⟨Gg,⟨⟩⟩ FQ λx0 x1 x2 x3 x4 x5 x6 x7 x8 x9 x10=>show jT.goal (EU x0 x1 x2 x3 x4 x5 x6 x7 x8 x9 x10) ((x0,x1,x2,x3,x4,x5,x6,x7,x8,x9,x10,()),())fromλhin hp=>?_
 dsimp only[jT]at hp ⊢;have hp:Sp.hugeS (x0,x1,x2,x3,x4,x5,x6,x7,x8,x9,x10,()):=hp;have hW:x9.length<=2000000:=hp.2.1;refine dP x9.length (by omega) (λn=>∀i,i<n->IA (x0,x1,x2,()) x3 (x9.getD i (0,[],[],[],()))=true) (λi hi=>by omega) (λI μ n hn hJ next=>?_) λI μ hJ=>?_
 .dsimp only;have e:=ac8 (x:=(x0,x1,x2,x3,x4,x5,x6,x7,x8,x9,x10,())) hn;refine cO (by omega) ⟨hp,?_⟩;rw[e];refine af (λh=>?_) λh=>⟨rfl,next (bZ (f:=λi=>IA (x0,x1,x2,()) x3 (x9.getD i (0,[],[],[],()))) hJ (dO h))⟩;have:Sp.streams (x0,x1,x2,x3,x4,x5,x6,x7,x8,x9,x10,())=false:=aiY hn (gY h);rw[this]
 .dsimp only;refine bY (by omega) ?_;have:Sp.streams (x0,x1,x2,x3,x4,x5,x6,x7,x8,x9,x10,())=true:=aiX hJ;rw[this]
end Go.Proofs.Tryz
namespace Go.Proofs.Tryz
open Go Go.Fw Go.IntWalk Sp
theorem sz1{n:Nat}{left:Int}(hn:n<=maxLen)(h0:0<=left)(h1:left<=1048576){K:Int×Unit->Prop}(hK:K (aG n left,())):
 bif decide (IntKind.i64.wrap (left-(n:Int))<(0:Int))then K ((-1:Int),())else K (IntKind.i64.wrap (left-(n:Int)),()):=by
 rw[maxLen_eq]at hn;rw[fH _ (by omega)];unfold aG at hK;refine af (λh=>?_) λh=>?_<;>simp only[apF,apR]at h
 .rw[if_pos h]at hK;exact hK
 .rw[if_neg h]at hK;exact hK
theorem szr{n:Nat}{left:Int}{K:Int×Unit->Prop}(hK:K (aG n left,())):
 bif decide (aG n left<(0:Int))then K ((-1:Int),())else K (aG n left,()):=by
 refine af (λh=>?_) λh=>?_<;>simp only[apF,apR]at h
 .have:=Oc (m:=0) h;rw[aqR]at this;rw[this]at hK;exact hK
 .exact hK
theorem sz2{n m:Nat}{left:Int}(hn:n<=maxLen)(h0:0<=left)(h1:left<=1048576){K:Int×Unit->Prop}(hK:K (aG (n+m) left,())):
 bif decide (IntKind.i64.wrap (left-(n:Int))<(0:Int))then K ((-1:Int),())
 else((0:Int)<=IntKind.i64.wrap (left-(n:Int))/\IntKind.i64.wrap (left-(n:Int))<=(1048576:Int))/\
  (bif decide (aG m (IntKind.i64.wrap (left-(n:Int)))<(0:Int))then K ((-1:Int),())else K (aG m (IntKind.i64.wrap (left-(n:Int))),())):=by
 rw[maxLen_eq]at hn;rw[fH _ (by omega)];refine af (λh=>?_) λh=>?_<;>simp only[apF,apR]at h
 .rw[Oc (by unfold aG;rw[if_pos h];omega)]at hK;exact hK
 .refine⟨⟨by omega,by omega⟩,szr ?_⟩;rw[← Rn h,Ro (by rw[Rn h];omega)];exact hK
theorem sz3{n m:Nat}{left:Int}(h0:0<=left)(h1:left<=1048576){K:Int×Unit->Prop}(hK:K (aG (n+m) left,())):
 ((0:Int)<=left/\left<=(1048576:Int))/\
 (bif decide (aG n left<(0:Int))then K ((-1:Int),())
 else((0:Int)<=aG n left/\aG n left<=(1048576:Int))/\
  (bif decide (aG m (aG n left)<(0:Int))then K ((-1:Int),())else K (aG m (aG n left),()))):=by
 refine⟨⟨h0,h1⟩,af (λh=>?_) λh=>?_⟩<;>simp only[apF,apR]at h
 .rw[Oc h]at hK;exact hK
 .have:=ac9 (n:=n) h0;refine⟨⟨by omega,by omega⟩,szr ?_⟩;rw[Ro (by omega)];exact hK
theorem BA{W:Nat}{left:Int}(h:left<W):((-1:Int),())=(aG W left,()):=by unfold aG;rw[if_pos (by omega)]
theorem Ef{n:Nat}{left:Int}(h:(n:Int)<=left):aG n left=left-n:=by unfold aG;rw[if_neg (by omega)]
theorem afk{n W:Nat}{x left:Int}(h:left-W=x-n):(aG n x,())=(aG W left,()):=by unfold aG;rw[h]
theorem Oe{n:Nat}{left:Int}{K:Int×Unit->Prop}{R:Prop}(hK:left<n->K (-1,()))(hR:(n:Int)<=left->R):bif decide (aG n left<0)then K (-1,())else R:=by
 unfold aG;by_cases h:left-n<0
 .rw[if_pos h];exact hK (by omega)
 .rw[if_neg h,apK (by omega)];exact hR (by omega)
theorem afl{n:Nat}{left:Int}{K:Int×Unit->Prop}{R:Prop}(hn:n<=maxLen)(h0:0<=left)(h1:left<=1048576)(hK:left<n->K (-1,()))(hR:(n:Int)<=left->R):bif decide (IntKind.i64.wrap (left-(n:Int))<0)then K (-1,())else R:=by
 rw[maxLen_eq]at hn;rw[fH _ (by omega)];by_cases h:left-n<0
 .rw[apE h];exact hK (by omega)
 .rw[apK h];exact hR (by omega)
theorem JF:OK um.e:=by
 refine aV [] ⟨⟩ H0 λa0 a1 a2 left=>show um.goal (Y8 a0 a1 a2 left) ((a0,a1,a2,()),left,())fromλhin hp=>?_
 dsimp only[um]at hp ⊢;exact sz1 (K:=λr=>r=(_,())) hin.1.2.2.1 hp.1 hp.2 rfl
theorem abv:OK BK.e:=by
 refine aV [um.e] ⟨JF,⟨⟩⟩ H0 λa0 a1 a2 a3 left=>show BK.goal (abw a0 a1 a2 a3 left) ((a0,a1,a2,a3,()),left,())fromλhin hp=>?_
 dsimp only[BK]at hp ⊢;exact sz2 (K:=λr=>r=(_,())) hin.1.1 hp.1 hp.2 rfl
theorem abx:OK BL.e:=by
 refine aV [um.e] ⟨JF,⟨⟩⟩ H0 λa0 a1 a2 a3 a4 a5 a6 left=>show BL.goal (aby a0 a1 a2 a3 a4 a5 a6 left) ((a0,a1,a2,a3,a4,a5,a6,()),left,())fromλhin hp=>?_
 dsimp only[BL]at hp ⊢;exact sz2 (K:=λr=>r=(_,())) hin.1.2.2.2.1 hp.1 hp.2 rfl
theorem Y9:OK zH.e:=by
 refine aV [BK.e] ⟨abv,⟨⟩⟩ abz λa left=>show zH.goal (Za a left) (a,left,())fromλhin hp=>?_
 dsimp only[zH]at hp ⊢;exact Eg (K:=λr=>r=(_,())) Yc _ a left _ hin.1.1 hp.1 hp.2 rfl
theorem Zb:OK zI.e:=by
 refine aV [BL.e] ⟨abx,⟨⟩⟩ abA λa left=>show zI.goal (Zc a left) (a,left,())fromλhin hp=>?_
 dsimp only[zI]at hp ⊢;exact Eg (K:=λr=>r=(_,())) Tt _ a left _ hin.1.1 hp.1 hp.2 rfl
theorem abB:OK BM.e:=by
 refine aV [zH.e] ⟨Y9,⟨⟩⟩ H0 λa0 a1 a2 a3 a4 left=>show BM.goal (abC a0 a1 a2 a3 a4 left) ((a0,a1,a2,a3,a4,()),left,())fromλhin hp=>?_
 dsimp only[BM]at hp ⊢;exact⟨hp,szr (K:=λr=>r=(_,())) rfl⟩
theorem adH:OK Du.e:=by
 refine aV [zI.e] ⟨Zb,⟨⟩⟩ H0 λa0 a1 left=>show Du.goal (adI a0 a1 left) ((a0,a1,()),left,())fromλhin hp=>?_
 dsimp only[Du]at hp ⊢;exact sz2 (K:=λr=>r=(_,())) hin.1.1 hp.1 hp.2 rfl
theorem Zd:OK zJ.e:=by
 refine aV [] ⟨⟩ H0 λa0 a1 left=>show zJ.goal (Ze a0 a1 left) ((a0,a1,()),left,())fromλhin hp=>?_
 dsimp only[zJ]at hp ⊢;exact sz1 (K:=λr=>r=(_,())) hin.1.1 hp.1 hp.2 rfl
theorem WR:OK yu.e:=by
 refine aV [zJ.e] ⟨Zd,⟨⟩⟩ Zf λa left=>show yu.goal (WS a left) (a,left,())fromλhin hp=>?_
 dsimp only[yu]at hp ⊢;exact Eg (K:=λr=>r=(_,())) Qg _ a left _ hin.1.1 hp.1 hp.2 rfl
theorem Zg:OK zK.e:=by
 refine aV [BM.e] ⟨abB,⟨⟩⟩ abD λa left=>show zK.goal (Zh a left) (a,left,())fromλhin hp=>?_
 dsimp only[zK]at hp ⊢;exact Eg (K:=λr=>r=(_,())) Tv _ a left _ hin.1.1 hp.1 hp.2 rfl
theorem Md:OK wP.e:=by
 refine aV [Du.e] ⟨adH,⟨⟩⟩ adJ λa left=>show wP.goal (abE a left) (a,left,())fromλhin hp=>?_
 dsimp only[wP]at hp ⊢;exact Eg (K:=λr=>r=(_,())) J3 _ a left _ hin.1.1 hp.1 hp.2 rfl
theorem Ag:OK oK.e:=by
 refine aV [] ⟨⟩ H0 λa left=>show oK.goal (abG a left) (a,left,())fromλhin hp=>?_
 dsimp only[oK]at hp ⊢;exact sz1 (K:=λr=>r=(_,())) hin.1.1 hp.1 hp.2 rfl
theorem WT:OK yw.e:=by
 refine aV [oK.e] ⟨Ag,⟨⟩⟩ H0 λa0 a1 left=>show yw.goal (WU a0 a1 left) ((a0,a1,()),left,())fromλhin hp=>?_
 dsimp only[yw]at hp ⊢;exact sz2 (K:=λr=>r=(_,())) hin.1.1 hp.1 hp.2 rfl
theorem Ut:OK vK.e:=by
 refine aV [yw.e] ⟨WT,⟨⟩⟩ WV λa left=>show vK.goal (Uu a left) (a,left,())fromλhin hp=>?_
 dsimp only[vK]at hp ⊢;exact Eg (K:=λr=>r=(_,())) aaV _ a left _ hin.1.1 hp.1 hp.2 rfl
theorem JG:OK uo.e:=by
 refine aV [zK.e,yu.e] ⟨Zg,WR,⟨⟩⟩ H0 λa0 a1 a2 left=>show uo.goal (Zi a0 a1 a2 left) ((a0,a1,a2,()),left,())fromλhin hp=>?_
 dsimp only[uo]at hp ⊢;exact sz3 (K:=λr=>r=(_,())) hp.1 hp.2 rfl
theorem Rq:OK tC.e:=by
 refine aV [wP.e,uo.e] ⟨Md,JG,⟨⟩⟩ H0 λa0 a1 a2 a3 left=>show tC.goal (Rt a0 a1 a2 a3 left) ((a0,a1,a2,a3,()),left,())fromλhin hp=>?_
 dsimp only[tC]at hp ⊢;exact sz3 (K:=λr=>r=(_,())) hp.1 hp.2 rfl
theorem Uw:OK vN.e:=by
 refine aV [tC.e] ⟨Rq,⟨⟩⟩ H0 λa0 a1 a2 a3 a4 a5 left=>show vN.goal (Ux a0 a1 a2 a3 a4 a5 left) ((a0,a1,a2,a3,a4,a5,()),left,())fromλhin hp=>?_
 dsimp only[vN]at hp ⊢;exact⟨hp,szr (K:=λr=>r=(_,())) rfl⟩
theorem Ru:OK tH.e:=by
 refine aV [vN.e] ⟨Uw,⟨⟩⟩ Uy λa left=>show tH.goal (Rw a left) (a,left,())fromλhin hp=>?_
 dsimp only[tH]at hp ⊢;exact Eg (K:=λr=>r=(_,())) aaW _ a left _ hin.1.1 hp.1 hp.2 rfl
theorem Zj:OK zL.e:=by
 refine aV [oK.e] ⟨Ag,⟨⟩⟩ H0 λa0 a1 a2 left=>show zL.goal (Zk a0 a1 a2 left) ((a0,a1,a2,()),left,())fromλhin hp=>?_
 dsimp only[zL]at hp ⊢;exact sz3 (K:=λr=>r=(_,())) hp.1 hp.2 rfl
theorem WW:OK yA.e:=by
 refine aV [zL.e] ⟨Zj,⟨⟩⟩ Zl λa left=>show yA.goal (WX a left) (a,left,())fromλhin hp=>?_
 dsimp only[yA]at hp ⊢;exact Eg (K:=λr=>r=(_,())) U2 _ a left _ hin.1.1 hp.1 hp.2 rfl
theorem Zm:OK zM.e:=by
 refine aV [yA.e,oK.e] ⟨WW,Ag,⟨⟩⟩ H0 λa0 a1 a2 a3 left=>show zM.goal (Zn a0 a1 a2 a3 left) ((a0,a1,a2,a3,()),left,())fromλhin hp=>?_
 dsimp only[zM]at hp ⊢;obtain⟨h0,h1⟩:0<=left/\left<=1048576:=hp;have l1:a1.length<=maxLen:=hin.1.2.1;have hw:H6 (a0,a1,a2,a3,())=a1.length+(a2.length+yS a3):=rfl;refine afl (K:=λr=>r=(_,())) l1 h0 h1 (λh=>BA (by rw[hw];omega)) λh=>?_;dsimp only;rw[maxLen_eq]at l1;rw[fH (left-a1.length) (by omega)];refine⟨⟨by omega,by omega⟩,Oe (K:=λr=>r=(_,())) (λh=>BA (by rw[hw];omega)) λh2=>?_⟩;rw[Ef h2];exact⟨⟨by omega,by omega⟩,szr (K:=λr=>r=(_,())) (afk (by rw[hw];omega))⟩
theorem WY:OK yB.e:=by
 refine aV [zM.e] ⟨Zm,⟨⟩⟩ Zo λa left=>show yB.goal (WZ a left) (a,left,())fromλhin hp=>?_
 dsimp only[yB]at hp ⊢;exact Eg (K:=λr=>r=(_,())) H6 _ a left _ hin.1.1 hp.1 hp.2 rfl
theorem abH:OK BO.e:=by
 refine aV [] ⟨⟩ H0 λa0 a1 left=>show BO.goal (abI a0 a1 left) ((a0,a1,()),left,())fromλhin hp=>?_
 dsimp only[BO]at hp ⊢;obtain⟨h0,h1⟩:0<=left/\left<=1048576:=hp;have l0:a0.length<=maxLen:=hin.1.1;have l1:a1.length<=maxLen:=hin.1.2.1;refine afl (K:=λr=>r=(_,())) l0 h0 h1 (λh=>BA (by omega)) λh=>?_;rw[maxLen_eq]at l0;rw[fH (left-a0.length) (by omega)];refine afl (K:=λr=>r=(_,())) l1 (by omega) (by omega) (λh=>BA (by omega)) λh2=>?_;rw[maxLen_eq]at l1;rw[fH _ (by omega)];show _=(aG (a0.length+a1.length) left,());rw[Ef (by omega)];exact congrArg (·,()) (by omega)
theorem Uz:OK vM.e:=by
 refine aV [vK.e,wP.e,uo.e] ⟨Ut,Md,JG,⟨⟩⟩ H0 λa0 a1 a2 a3 a4 left=>show vM.goal (UA a0 a1 a2 a3 a4 left) ((a0,a1,a2,a3,a4,()),left,())fromλhin hp=>?_
 dsimp only[vM]at hp ⊢;obtain⟨h0,h1⟩:0<=left/\left<=1048576:=hp;have hw:Qh (a0,a1,a2,a3,a4,())=wO (a0,a1,a2,())+(qL a3+Gv a4):=rfl;refine⟨⟨h0,h1⟩,?_⟩;dsimp only;refine(Oe (K:=λr=>r=(_,())) (λh=>BA (by rw[hw];omega)) λh=>?_);rw[Ef h];refine⟨⟨by omega,by omega⟩,Oe (K:=λr=>r=(_,())) (λh=>BA (by rw[hw];omega)) λh2=>?_⟩;rw[Ef h2];exact⟨⟨by omega,by omega⟩,szr (K:=λr=>r=(_,())) (afk (by rw[hw];omega))⟩
theorem W9:OK yC.e:=by
 refine aV [oK.e,yB.e,tH.e,BO.e,vM.e] ⟨Ag,WY,Ru,abH,Uz,⟨⟩⟩ H0 λa0 a1 a2 a3 a4 a5 a6 a7 a8 a9 a10 left=>show yC.goal (Xa a0 a1 a2 a3 a4 a5 a6 a7 a8 a9 a10 left) ((a0,a1,a2,a3,a4,a5,a6,a7,a8,a9,a10,()),left,())fromλhin hp=>?_
 dsimp only[yC]at hp ⊢;obtain⟨h0,h1⟩:0<=left/\left<=1048576:=hp;have hw:Na (a0,a1,a2,a3,a4,a5,a6,a7,a8,a9,a10,())=Qh (a0,a1,a2,a3,a4,())+((a5.length+a6.length)+(yx a8+(BN a9+a10.length))):=rfl;refine⟨⟨h0,h1⟩,?_⟩;dsimp only;refine(Oe (K:=λr=>r=(_,())) (λh=>BA (by rw[hw];omega)) λh=>?_);rw[Ef h];refine⟨⟨by omega,by omega⟩,Oe (K:=λr=>r=(_,())) (λh=>BA (by rw[hw];omega)) λh2=>?_⟩;rw[Ef h2];refine⟨⟨by omega,by omega⟩,Oe (K:=λr=>r=(_,())) (λh=>BA (by rw[hw];omega)) λh3=>?_⟩;rw[Ef h3];refine⟨⟨by omega,by omega⟩,Oe (K:=λr=>r=(_,())) (λh=>BA (by rw[hw];omega)) λh4=>?_⟩;rw[Ef h4];exact⟨⟨by omega,by omega⟩,szr (K:=λr=>r=(_,())) (afk (by rw[hw];omega))⟩
theorem JH:OK uq.e:=by
 refine aV [] ⟨⟩ H0 λa0 a1 a2=>show uq.goal (Zp a0 a1 a2) ((a0,a1,a2,()),())fromλhin hp=>?_
 dsimp only[uq]at hp ⊢;exact rfl
theorem abJ:OK BP.e:=by
 refine aV [uq.e] ⟨JH,⟨⟩⟩ H0 λa0 a1 a2 a3=>show BP.goal (abK a0 a1 a2 a3) ((a0,a1,a2,a3,()),())fromλhin hp=>?_
 dsimp only[BP]at hp ⊢;exact⟨trivial,rfl⟩
theorem abL:OK BQ.e:=by
 refine aV [uq.e] ⟨JH,⟨⟩⟩ H0 λa0 a1 a2 a3 a4 a5 a6=>show BQ.goal (abM a0 a1 a2 a3 a4 a5 a6) ((a0,a1,a2,a3,a4,a5,a6,()),())fromλhin hp=>?_
 dsimp only[BQ]at hp ⊢;exact⟨trivial,rfl⟩
theorem Zq:OK zN.e:=by
 refine aV [BP.e] ⟨abJ,⟨⟩⟩ abN λa=>show zN.goal (Zr a) (a,())fromλhin hp=>?_
 dsimp only[zN]at hp ⊢;exact toS_vc (K:=λr=>r=(_,())) (λ_=>True) _ a _ (by have h:jg Yc a<=big:=hp;rw[jm,cZ]at h;omega) (λ_ _=>trivial) rfl
theorem Zt:OK zO.e:=by
 refine aV [BQ.e] ⟨abL,⟨⟩⟩ abO λa=>show zO.goal (Zu a) (a,())fromλhin hp=>?_
 dsimp only[zO]at hp ⊢;exact toS_vc (K:=λr=>r=(_,())) (λ_=>True) _ a _ (by have h:jg Tt a<=big:=hp;rw[jm,cZ]at h;omega) (λ_ _=>trivial) rfl
theorem abP:OK BR.e:=by
 refine aV [zN.e] ⟨Zq,⟨⟩⟩ H0 λa0 a1 a2 a3 a4=>show BR.goal (abQ a0 a1 a2 a3 a4) ((a0,a1,a2,a3,a4,()),())fromλhin hp=>?_
 dsimp only[BR]at hp ⊢;exact⟨hp,rfl⟩
theorem adK:OK Dv.e:=by
 refine aV [zO.e] ⟨Zt,⟨⟩⟩ H0 λa0 a1=>show Dv.goal (adL a0 a1) ((a0,a1,()),())fromλhin hp=>?_
 dsimp only[Dv]at hp ⊢;exact⟨hp,rfl⟩
theorem Zv:OK zQ.e:=by
 refine aV [] ⟨⟩ H0 λa0 a1=>show zQ.goal (Zw a0 a1) ((a0,a1,()),())fromλhin hp=>?_
 dsimp only[zQ]at hp ⊢;exact rfl
theorem Xb:OK yD.e:=by
 refine aV [zQ.e] ⟨Zv,⟨⟩⟩ Zx λa=>show yD.goal (Xc a) (a,())fromλhin hp=>?_
 dsimp only[yD]at hp ⊢;exact toS_vc (K:=λr=>r=(_,())) (λ_=>True) _ a _ (by have h:jg Qg a<=big:=hp;rw[jm,cZ]at h;omega) (λ_ _=>trivial) rfl
theorem Zy:OK zS.e:=by
 refine aV [BR.e] ⟨abP,⟨⟩⟩ abR λa=>show zS.goal (Zz a) (a,())fromλhin hp=>?_
 dsimp only[zS]at hp ⊢;have h:jg Tv a<=big:=hp;exact toS_vc (K:=λr=>r=(_,())) (λx=>Dt x.2.2.2.2.1<=big) _ a _ (by rw[jm,cZ]at h;omega) (λx hx=>apv (apz _) (apv (pJ Tv a x hx) h)) rfl
theorem Me:OK wQ.e:=by
 refine aV [Dv.e] ⟨adK,⟨⟩⟩ adM λa=>show wQ.goal (abS a) (a,())fromλhin hp=>?_
 dsimp only[wQ]at hp ⊢;have h:jg J3 a<=big:=hp;exact toS_vc (K:=λr=>r=(_,())) (λx=>Bf x.2.1<=big) _ a _ (by rw[jm,cZ]at h;omega) (λx hx=>apv (aqy _ _) (apv (pJ J3 a x hx) h)) rfl
theorem Ah:OK oL.e:=by
 refine aV [] ⟨⟩ adN λa=>show oL.goal (abT a) (a,())fromλhin hp=>?_
 dsimp only[oL]at hp ⊢;have hbig:a.length<=4294967296:=hp;refine⟨⟨by omega,by omega,by rw[cZ];omega⟩,λy=>∃n:Nat,y.1.1=n/\n<=a.length/\y.2.1=a.take n++List.replicate (a.length-n) (0,()),λy=>((a.length:Int)-y.1.1).toNat,⟨0,rfl,by omega,by simp⟩,?_⟩;rintro⟨⟨_,⟨⟩⟩,l,⟨⟩⟩ ⟨n,rfl,hn,rfl⟩;refine af (λh=>?_) λh=>?_<;>simp only[apF,apR]at h ⊢
 .have hlt:n<a.length:=by omega
  rw[fH _ (by omega)];have e:(a.take n++List.replicate (a.length-n) ((0:Int),())).set n ((a.getD n (0,())).1,())=a.take (n+1)++List.replicate (a.length-(n+1)) (0,()):=by
   rw[show a.length-n=a.length-(n+1)+1 by omega,List.replicate_succ,aqP _ _ (by rw[apM];omega),apM,aqJ hn,aq8,arp,
    aqt hlt,aqp,apI,apw hlt]
   rfl
  refine⟨⟨by omega,by omega⟩,⟨by omega,by simp only[apT,apM,aqQ];omega⟩,by simp only[apT,apM,aqQ];omega,rfl,⟨n+1,by simp,by omega,?_⟩,by show((a.length:Int)-((n:Int)+1)).toNat<((a.length:Int)-(n:Int)).toNat;omega⟩;rw[apG,e]
 .have hge:n=a.length:=by omega
  subst hge;simp
theorem Xd:OK yE.e:=by
 refine aV [oL.e] ⟨Ah,⟨⟩⟩ H0 λa0 a1=>show yE.goal (Xe a0 a1) ((a0,a1,()),())fromλhin hp=>?_
 dsimp only[yE]at hp ⊢;exact⟨hp,rfl⟩
theorem UB:OK vO.e:=by
 refine aV [yE.e] ⟨Xd,⟨⟩⟩ Xf λa=>show vO.goal (UC a) (a,())fromλhin hp=>?_
 dsimp only[vO]at hp ⊢;have h:jg aaV a<=big:=hp;exact toS_vc (K:=λr=>r=(_,())) (λx=>x.2.1.length<=big) _ a _ (by rw[jm,cZ]at h;omega) (λx hx=>apv (aqy _ _) (apv (pJ aaV a x hx) h)) rfl
theorem JI:OK uw.e:=by
 refine aV [zS.e,yD.e] ⟨Zy,Xb,⟨⟩⟩ H0 λa0 a1 a2=>show uw.goal (ZA a0 a1 a2) ((a0,a1,a2,()),())fromλhin hp=>?_
 dsimp only[uw]at hp ⊢;have h:xq a0+Hz a1<=big:=hp;exact⟨apv (aqW _ _) h,apv (aqy _ _) h,rfl⟩
theorem Rx:OK tJ.e:=by
 refine aV [wQ.e,uw.e] ⟨Me,JI,⟨⟩⟩ H0 λa0 a1 a2 a3=>show tJ.goal (Ry a0 a1 a2 a3) ((a0,a1,a2,a3,()),())fromλhin hp=>?_
 dsimp only[tJ]at hp ⊢;have h:wO (a0,a1,a2,())+qL a3<=big:=hp;exact⟨apv (aqW _ _) h,apv (aqy _ _) h,rfl⟩
theorem UD:OK vS.e:=by
 refine aV [tJ.e] ⟨Rx,⟨⟩⟩ H0 λa0 a1 a2 a3 a4 a5=>show vS.goal (UE a0 a1 a2 a3 a4 a5) ((a0,a1,a2,a3,a4,a5,()),())fromλhin hp=>?_
 dsimp only[vS]at hp ⊢;exact⟨hp,rfl⟩
theorem Rz:OK tK.e:=by
 refine aV [vS.e] ⟨UD,⟨⟩⟩ UF λa=>show tK.goal (RD a) (a,())fromλhin hp=>?_
 dsimp only[tK]at hp ⊢;have h:jg aaW a<=big:=hp;exact toS_vc (K:=λr=>r=(_,())) (λx=>Jj (x.2.1,x.2.2.1,x.2.2.2.1,x.2.2.2.2.1,())<=big) _ a _ (by rw[jm,cZ]at h;omega) (λx hx=>apv (apz _) (apv (pJ aaW a x hx) h)) rfl
theorem ZB:OK zT.e:=by
 refine aV [oL.e] ⟨Ah,⟨⟩⟩ H0 λa0 a1 a2=>show zT.goal (ZC a0 a1 a2) ((a0,a1,a2,()),())fromλhin hp=>?_
 dsimp only[zT]at hp ⊢;have h:a1.length+a2.length<=big:=hp;exact⟨apv (aqW _ _) h,apv (aqy _ _) h,rfl⟩
theorem Xg:OK yF.e:=by
 refine aV [zT.e] ⟨ZB,⟨⟩⟩ ZE λa=>show yF.goal (Xh a) (a,())fromλhin hp=>?_
 dsimp only[yF]at hp ⊢;have h:jg U2 a<=big:=hp;exact toS_vc (K:=λr=>r=(_,())) (λx=>x.2.1.length+x.2.2.1.length<=big) _ a _ (by rw[jm,cZ]at h;omega) (λx hx=>apv (apz _) (apv (pJ U2 a x hx) h)) rfl
theorem ZF:OK zU.e:=by
 refine aV [yF.e,oL.e] ⟨Xg,Ah,⟨⟩⟩ H0 λa0 a1 a2 a3=>show zU.goal (ZG a0 a1 a2 a3) ((a0,a1,a2,a3,()),())fromλhin hp=>?_
 dsimp only[zU]at hp ⊢;have h:a2.length+yS a3<=big:=hp;exact⟨apv (aqW _ _) h,apv (aqy _ _) h,rfl⟩
theorem Xi:OK yG.e:=by
 refine aV [zU.e] ⟨ZF,⟨⟩⟩ ZH λa=>show yG.goal (Xj a) (a,())fromλhin hp=>?_
 dsimp only[yG]at hp ⊢;have h:jg H6 a<=big:=hp;exact toS_vc (K:=λr=>r=(_,())) (λx=>x.2.2.1.length+yS x.2.2.2.1<=big) _ a _ (by rw[jm,cZ]at h;omega) (λx hx=>apv (aqy _ _) (apv (pJ H6 a x hx) h)) rfl
theorem abU:OK BU.e:=by
 refine aV [] ⟨⟩ H0 λa0 a1=>show BU.goal (abV a0 a1) ((a0,a1,()),())fromλhin hp=>?_
 dsimp only[BU]at hp ⊢;exact rfl
theorem UG:OK vP.e:=by
 refine aV [vO.e,wQ.e,uw.e] ⟨UB,Me,JI,⟨⟩⟩ H0 λa0 a1 a2 a3 a4=>show vP.goal (UH a0 a1 a2 a3 a4) ((a0,a1,a2,a3,a4,()),())fromλhin hp=>?_
 dsimp only[vP]at hp ⊢;have h:wO (a0,a1,a2,())+(qL a3+Gv a4)<=big:=hp;rw[cZ]at h;exact⟨by rw[cZ];omega,by rw[cZ];omega,by rw[cZ];omega,rfl⟩
theorem Xk:OK yH.e:=by
 refine aV [oL.e,yG.e,tK.e,BU.e,vP.e] ⟨Ah,Xi,Rz,abU,UG,⟨⟩⟩ H0 λa0 a1 a2 a3 a4 a5 a6 a7 a8 a9 a10=>show yH.goal (Xl a0 a1 a2 a3 a4 a5 a6 a7 a8 a9 a10) ((a0,a1,a2,a3,a4,a5,a6,a7,a8,a9,a10,()),())fromλhin hp=>?_
 dsimp only[yH]at hp ⊢;have h:Qh (a0,a1,a2,a3,a4,())+((a5.length+a6.length)+(yx a8+(BN a9+a10.length)))<=big:=hp;rw[cZ]at h;exact⟨by rw[cZ];omega,trivial,by rw[cZ];omega,by rw[cZ];omega,by rw[cZ];omega,rfl⟩
theorem JJ:OK uy.e:=by
 refine aV [] ⟨⟩ H0 λa0 a1 a2 b0 b1 b2=>show uy.goal (JK a0 a1 a2 b0 b1 b2) ((a0,a1,a2,()),(b0,b1,b2,()),())fromλhin hp=>?_
 dsimp only[uy]at hp ⊢;have hp:(a0,a1,a2,())=(b0,b1,b2,()):=hp;cases hp;unfold JK;simp
theorem abW:OK BV.e:=by
 refine aV [uy.e] ⟨JJ,⟨⟩⟩ H0 λa0 a1 a2 a3 b0 b1 b2 b3=>show BV.goal (MB a0 a1 a2 a3 b0 b1 b2 b3) ((a0,a1,a2,a3,()),(b0,b1,b2,b3,()),())fromλhin hp=>?_
 dsimp only[BV]at hp ⊢;have hp:(a0,a1,a2,a3,())=(b0,b1,b2,b3,()):=hp;cases hp;unfold MB;simp
theorem abX:OK BZ.e:=by
 refine aV [uy.e] ⟨JJ,⟨⟩⟩ H0 λa0 a1 a2 a3 a4 a5 a6 b0 b1 b2 b3 b4 b5 b6=>show BZ.goal (MC a0 a1 a2 a3 a4 a5 a6 b0 b1 b2 b3 b4 b5 b6) ((a0,a1,a2,a3,a4,a5,a6,()),(b0,b1,b2,b3,b4,b5,b6,()),())fromλhin hp=>?_
 dsimp only[BZ]at hp ⊢;have hp:(a0,a1,a2,a3,a4,a5,a6,())=(b0,b1,b2,b3,b4,b5,b6,()):=hp;cases hp;unfold MC;simp
theorem ZI:OK zV.e:=by
 refine aV [BV.e] ⟨abW,⟨⟩⟩ abY λa b=>show zV.goal (ZJ a b) (a,b,())fromλhin hp=>?_
 dsimp only[zV]at hp ⊢;obtain rfl:a=b:=hp;exact af (λh=>absurd h (by simp)) λ_=>dP a.length hin.1.1 (λ_=>True) trivial (λI μ n hn _ next=>by dsimp only;exact cO (by omega) ⟨⟨by omega,by omega⟩,⟨by omega,by omega⟩,rfl,rfl,next trivial⟩) λI μ _=>by dsimp only;exact bY (by omega) rfl
theorem ZK:OK zW.e:=by
 refine aV [BZ.e] ⟨abX,⟨⟩⟩ abZ λa b=>show zW.goal (ZL a b) (a,b,())fromλhin hp=>?_
 dsimp only[zW]at hp ⊢;obtain rfl:a=b:=hp;exact af (λh=>absurd h (by simp)) λ_=>dP a.length hin.1.1 (λ_=>True) trivial (λI μ n hn _ next=>by dsimp only;exact cO (by omega) ⟨⟨by omega,by omega⟩,⟨by omega,by omega⟩,rfl,rfl,next trivial⟩) λI μ _=>by dsimp only;exact bY (by omega) rfl
theorem ab1:OK Cb.e:=by
 refine aV [zV.e] ⟨ZI,⟨⟩⟩ H0 λa0 a1 a2 a3 a4 b0 b1 b2 b3 b4=>show Cb.goal (MF a0 a1 a2 a3 a4 b0 b1 b2 b3 b4) ((a0,a1,a2,a3,a4,()),(b0,b1,b2,b3,b4,()),())fromλhin hp=>?_
 dsimp only[Cb]at hp ⊢;have hp:(a0,a1,a2,a3,a4,())=(b0,b1,b2,b3,b4,()):=hp;cases hp;unfold MF;simp
theorem adO:OK Dw.e:=by
 refine aV [zW.e] ⟨ZK,⟨⟩⟩ H0 λa0 a1 b0 b1=>show Dw.goal (O7 a0 a1 b0 b1) ((a0,a1,()),(b0,b1,()),())fromλhin hp=>?_
 dsimp only[Dw]at hp ⊢;have hp:(a0,a1,())=(b0,b1,()):=hp;cases hp;unfold O7;simp
theorem ZM:OK zX.e:=by
 refine aV [] ⟨⟩ H0 λa0 a1 b0 b1=>show zX.goal (JL a0 a1 b0 b1) ((a0,a1,()),(b0,b1,()),())fromλhin hp=>?_
 dsimp only[zX]at hp ⊢;have hp:(a0,a1,())=(b0,b1,()):=hp;cases hp;unfold JL;simp
theorem Xm:OK yI.e:=by
 refine aV [zX.e] ⟨ZM,⟨⟩⟩ ZN λa b=>show yI.goal (Xn a b) (a,b,())fromλhin hp=>?_
 dsimp only[yI]at hp ⊢;obtain rfl:a=b:=hp;exact af (λh=>absurd h (by simp)) λ_=>dP a.length hin.1.1 (λ_=>True) trivial (λI μ n hn _ next=>by dsimp only;exact cO (by omega) ⟨⟨by omega,by omega⟩,⟨by omega,by omega⟩,rfl,rfl,next trivial⟩) λI μ _=>by dsimp only;exact bY (by omega) rfl
theorem ZO:OK zY.e:=by
 refine aV [Cb.e] ⟨ab1,⟨⟩⟩ ab2 λa b=>show zY.goal (ZP a b) (a,b,())fromλhin hp=>?_
 dsimp only[zY]at hp ⊢;obtain rfl:a=b:=hp;exact af (λh=>absurd h (by simp)) λ_=>dP a.length hin.1.1 (λ_=>True) trivial (λI μ n hn _ next=>by dsimp only;exact cO (by omega) ⟨⟨by omega,by omega⟩,⟨by omega,by omega⟩,rfl,rfl,next trivial⟩) λI μ _=>by dsimp only;exact bY (by omega) rfl
theorem MG:OK wR.e:=by
 refine aV [Dw.e] ⟨adO,⟨⟩⟩ adP λa b=>show wR.goal (ab3 a b) (a,b,())fromλhin hp=>?_
 dsimp only[wR]at hp ⊢;obtain rfl:a=b:=hp;exact af (λh=>absurd h (by simp)) λ_=>dP a.length hin.1.1 (λ_=>True) trivial (λI μ n hn _ next=>by dsimp only;exact cO (by omega) ⟨⟨by omega,by omega⟩,⟨by omega,by omega⟩,rfl,rfl,next trivial⟩) λI μ _=>by dsimp only;exact bY (by omega) rfl
theorem Ai:OK oM.e:=by
 refine aV [] ⟨⟩ adQ λa b=>show oM.goal (ab4 a b) (a,b,())fromλhin hp=>?_
 dsimp only[oM]at hp ⊢;obtain rfl:a=b:=hp;exact af (λh=>absurd h (by simp)) λ_=>dP a.length hin.1.1 (λ_=>True) trivial (λI μ n hn _ next=>by dsimp only;exact cO (by omega) ⟨⟨by omega,by omega⟩,⟨by omega,by omega⟩,af (λh=>absurd h (by simp)) λ_=>⟨rfl,next trivial⟩⟩) λI μ _=>by dsimp only;exact bY (by omega) rfl
theorem Xo:OK yJ.e:=by
 refine aV [oM.e] ⟨Ai,⟨⟩⟩ H0 λa0 a1 b0 b1=>show yJ.goal (IB a0 a1 b0 b1) ((a0,a1,()),(b0,b1,()),())fromλhin hp=>?_
 dsimp only[yJ]at hp ⊢;have hp:(a0,a1,())=(b0,b1,()):=hp;cases hp;unfold IB;simp
theorem UI:OK vT.e:=by
 refine aV [yJ.e] ⟨Xo,⟨⟩⟩ Xp λa b=>show vT.goal (UJ a b) (a,b,())fromλhin hp=>?_
 dsimp only[vT]at hp ⊢;obtain rfl:a=b:=hp;exact af (λh=>absurd h (by simp)) λ_=>dP a.length hin.1.1 (λ_=>True) trivial (λI μ n hn _ next=>by dsimp only;exact cO (by omega) ⟨⟨by omega,by omega⟩,⟨by omega,by omega⟩,rfl,rfl,next trivial⟩) λI μ _=>by dsimp only;exact bY (by omega) rfl
theorem JM:OK uz.e:=by
 refine aV [zY.e,yI.e] ⟨ZO,Xm,⟨⟩⟩ H0 λa0 a1 a2 b0 b1 b2=>show uz.goal (JO a0 a1 a2 b0 b1 b2) ((a0,a1,a2,()),(b0,b1,b2,()),())fromλhin hp=>?_
 dsimp only[uz]at hp ⊢;have hp:(a0,a1,a2,())=(b0,b1,b2,()):=hp;cases hp;unfold JO;simp
theorem RG:OK tN.e:=by
 refine aV [wR.e,uz.e] ⟨MG,JM,⟨⟩⟩ H0 λa0 a1 a2 a3 b0 b1 b2 b3=>show tN.goal (FT a0 a1 a2 a3 b0 b1 b2 b3) ((a0,a1,a2,a3,()),(b0,b1,b2,b3,()),())fromλhin hp=>?_
 dsimp only[tN]at hp ⊢;have hp:(a0,a1,a2,a3,())=(b0,b1,b2,b3,()):=hp;cases hp;unfold FT;simp
theorem UK:OK vV.e:=by
 refine aV [tN.e] ⟨RG,⟨⟩⟩ H0 λa0 a1 a2 a3 a4 a5 b0 b1 b2 b3 b4 b5=>show vV.goal (Gq a0 a1 a2 a3 a4 a5 b0 b1 b2 b3 b4 b5) ((a0,a1,a2,a3,a4,a5,()),(b0,b1,b2,b3,b4,b5,()),())fromλhin hp=>?_
 dsimp only[vV]at hp ⊢;have hp:(a0,a1,a2,a3,a4,a5,())=(b0,b1,b2,b3,b4,b5,()):=hp;cases hp;unfold Gq;simp
theorem RH:OK tV.e:=by
 refine aV [vV.e] ⟨UK,⟨⟩⟩ UL λa b=>show tV.goal (RI a b) (a,b,())fromλhin hp=>?_
 dsimp only[tV]at hp ⊢;obtain rfl:a=b:=hp;exact af (λh=>absurd h (by simp)) λ_=>dP a.length hin.1.1 (λ_=>True) trivial (λI μ n hn _ next=>by dsimp only;exact cO (by omega) ⟨⟨by omega,by omega⟩,⟨by omega,by omega⟩,rfl,rfl,next trivial⟩) λI μ _=>by dsimp only;exact bY (by omega) rfl
theorem ZQ:OK zZ.e:=by
 refine aV [oM.e] ⟨Ai,⟨⟩⟩ H0 λa0 a1 a2 b0 b1 b2=>show zZ.goal (JQ a0 a1 a2 b0 b1 b2) ((a0,a1,a2,()),(b0,b1,b2,()),())fromλhin hp=>?_
 dsimp only[zZ]at hp ⊢;have hp:(a0,a1,a2,())=(b0,b1,b2,()):=hp;cases hp;unfold JQ;simp
theorem Xq:OK yK.e:=by
 refine aV [zZ.e] ⟨ZQ,⟨⟩⟩ ZR λa b=>show yK.goal (Xr a b) (a,b,())fromλhin hp=>?_
 dsimp only[yK]at hp ⊢;obtain rfl:a=b:=hp;exact af (λh=>absurd h (by simp)) λ_=>dP a.length hin.1.1 (λ_=>True) trivial (λI μ n hn _ next=>by dsimp only;exact cO (by omega) ⟨⟨by omega,by omega⟩,⟨by omega,by omega⟩,rfl,rfl,next trivial⟩) λI μ _=>by dsimp only;exact bY (by omega) rfl
theorem ZT:OK Aa.e:=by
 refine aV [yK.e,oM.e] ⟨Xq,Ai,⟨⟩⟩ H0 λa0 a1 a2 a3 b0 b1 b2 b3=>show Aa.goal (JR a0 a1 a2 a3 b0 b1 b2 b3) ((a0,a1,a2,a3,()),(b0,b1,b2,b3,()),())fromλhin hp=>?_
 dsimp only[Aa]at hp ⊢;have hp:(a0,a1,a2,a3,())=(b0,b1,b2,b3,()):=hp;cases hp;unfold JR;simp
theorem Xt:OK yL.e:=by
 refine aV [Aa.e] ⟨ZT,⟨⟩⟩ ZU λa b=>show yL.goal (Xu a b) (a,b,())fromλhin hp=>?_
 dsimp only[yL]at hp ⊢;obtain rfl:a=b:=hp;exact af (λh=>absurd h (by simp)) λ_=>dP a.length hin.1.1 (λ_=>True) trivial (λI μ n hn _ next=>by dsimp only;exact cO (by omega) ⟨⟨by omega,by omega⟩,⟨by omega,by omega⟩,rfl,rfl,next trivial⟩) λI μ _=>by dsimp only;exact bY (by omega) rfl
theorem ab5:OK Cc.e:=by
 refine aV [] ⟨⟩ H0 λa0 a1 b0 b1=>show Cc.goal (MH a0 a1 b0 b1) ((a0,a1,()),(b0,b1,()),())fromλhin hp=>?_
 dsimp only[Cc]at hp ⊢;have hp:(a0,a1,())=(b0,b1,()):=hp;cases hp;unfold MH;simp
theorem UM:OK vU.e:=by
 refine aV [vT.e,wR.e,uz.e] ⟨UI,MG,JM,⟨⟩⟩ H0 λa0 a1 a2 a3 a4 b0 b1 b2 b3 b4=>show vU.goal (Gs a0 a1 a2 a3 a4 b0 b1 b2 b3 b4) ((a0,a1,a2,a3,a4,()),(b0,b1,b2,b3,b4,()),())fromλhin hp=>?_
 dsimp only[vU]at hp ⊢;have hp:(a0,a1,a2,a3,a4,())=(b0,b1,b2,b3,b4,()):=hp;cases hp;unfold Gs;simp
theorem Xv:OK yM.e:=by
 refine aV [oM.e,yL.e,tV.e,Cc.e,vU.e] ⟨Ai,Xt,RH,ab5,UM,⟨⟩⟩ H0 λa0 a1 a2 a3 a4 a5 a6 a7 a8 a9 a10 b0 b1 b2 b3 b4 b5 b6 b7 b8 b9 b10=>show yM.goal (IC a0 a1 a2 a3 a4 a5 a6 a7 a8 a9 a10 b0 b1 b2 b3 b4 b5 b6 b7 b8 b9 b10) ((a0,a1,a2,a3,a4,a5,a6,a7,a8,a9,a10,()),(b0,b1,b2,b3,b4,b5,b6,b7,b8,b9,b10,()),())fromλhin hp=>?_
 dsimp only[yM]at hp ⊢;have hp:(a0,a1,a2,a3,a4,a5,a6,a7,a8,a9,a10,())=(b0,b1,b2,b3,b4,b5,b6,b7,b8,b9,b10,()):=hp;cases hp;unfold IC;simp
theorem ada:∀es:List kX,iL es<=yS es
 |[]=>apW _
 |e::l=>by
  have h1:=ada l;have h3:iL (e::l)=e.2.1.length+iL l:=by unfold iL;rw[apP,List.sum_cons]
  have h4:yS (e::l)=1+(e.2.1.length+e.2.2.1.length)+yS l:=rfl;omega
theorem ak8{x:gZ}(h:Na x<=1048576):Sp.hugeS x:=by
 obtain⟨a,l,n,d,r,da,db,m,v,w,q,⟨⟩⟩:=x;have h:(wO (a,l,n,())+(qL d+Gv r))+((da.length+db.length)+(yx v+(BN w+q.length)))<=1048576:=h;have hd:jg J3 d<=1048576:=by have:qL d=jg J3 d:=rfl;omega
 have hw:jg H6 w<=1048576:=by have:BN w=jg H6 w:=rfl;omega
 refine⟨⟨?_,λx hx=>?_⟩,?_,λx hx=>?_⟩
 .show d.length<=2000000;rw[jm]at hd;omega
 .have h1:=pJ J3 d x hx;have h2:J3 x=x.1.length+Bf x.2.1:=rfl;have h3:Bf x.2.1=x.2.1.length+AU Tt x.2.1:=jm _ _;omega
 .show w.length<=2000000;rw[jm]at hw;omega
 .have h1:=pJ H6 w x hx;have h2:H6 x=x.2.1.length+(x.2.2.1.length+yS x.2.2.2.1):=rfl;have h3:yS x.2.2.2.1=x.2.2.2.1.length+AU U2 x.2.2.2.1:=jm _ _;have h4:=ada x.2.2.2.1;refine⟨by unfold MZ;omega,by omega,λe he=>?_⟩;have h5:U2 e<=yS x.2.2.2.1:=pJ U2 _ e he;have h6:U2 e=e.2.1.length+e.2.2.1.length:=rfl;exact⟨by omega,by omega⟩
theorem Aj:OK jO.e:=by
 refine aV [yM.e,jS.e,jT.e,yH.e,yC.e] ⟨Xv,ER,ET,Xk,W9,⟨⟩⟩ H0 λa0 a1 a2 a3 a4 a5 a6 a7 a8 a9 a10=>show jO.goal (Ak a0 a1 a2 a3 a4 a5 a6 a7 a8 a9 a10) ((a0,a1,a2,a3,a4,a5,a6,a7,a8,a9,a10,()),())fromλhin hp=>?_
 dsimp only[jO]at hp ⊢;refine⟨⟨by decide,by decide⟩,?_⟩;dsimp only;generalize hW:Na (a0,a1,a2,a3,a4,a5,a6,a7,a8,a9,a10,())=W;by_cases h:W<=1048576
 .have hb:W<=big:=by rw[cZ];omega
  have hh:=ak8 (by rw[hW];exact h);rw[Ef (by omega),apK (by omega)];refine⟨hb,hh,hb,hh,af (λg=>?_) λ_=>⟨hb,rfl,rfl⟩⟩;simp at g
 .unfold aG;rw[if_pos (by omega)];rfl
end Go.Proofs.Tryz
