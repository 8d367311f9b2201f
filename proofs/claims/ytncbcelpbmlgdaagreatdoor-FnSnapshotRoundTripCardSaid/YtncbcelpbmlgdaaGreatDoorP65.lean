import Derived.Test.YtncbcelpbmlgdaaGreatDoorP61
import Derived.Test.YtncbcelpbmlgdaaGreatDoorSp
import Derived.Test.YtncbcelpbmlgdaaGreatDoorV25
import Derived.Deep.AppendLies
import Derived.Deep.RegionLaw
import Derived.BigRegion
namespace Go.Proofs.Tryz
open Go Go.Fw Go.RowKit Sp
theorem apE(s:List UInt8)(hs:s.length<=1048576)(w:World)(hG:G.ok w):Calls prog 153 #[.string ⟨s.toArray⟩] w λe w'=>
 ∃v,e=.returned (.tuple #[v,.bool (gZ s)])/\FW w'.heap.size w' v (bf s)/\Below w.heap.size w w':=by
 have hc:fG prog G 153 (iw oh.sh oh.bI oh.F):=Vw.1;refine(hc [.sv (.one (.str s))] (s.length<=1048576) _ 0 (λ_=>True) #[.string ⟨s.toArray⟩] w rfl hs hG ⟨⟨rfl,by rw[maxLen_eq];omega⟩,trivial⟩).mono ?_;rintro e w' ⟨v,vals,rfl,h1,h2,h3,h4,h5,h6,_,_⟩;obtain⟨vs,rfl,h7⟩:=h6;obtain⟨l⟩:=vs
 match l,h7 with
 |[a,b],h7=>
  obtain⟨ha,hb,_⟩:=h7;have hb:b=.bool (gZ s):=hb;have ha:dh w'.heap _ (.sl aU dK) a (bf s):=ha;refine⟨a,by rw[hb],⟨ha.1,?_⟩,h1,h2,h3,h4,h5⟩;rcases ha.2 with h|⟨b,off,cap,cs,t,fz,e1,e2,e3,e4,e5⟩
  .exact .inl h
  .exact .inr ⟨b,off,cap,cs,t,fz,e1,e2,e3.1.1,e4,λi x hx=>aI.flat (S:=_) _ _ _ rfl (e5 i x hx)⟩
theorem afB{B P:Nat}{w:World}{v:Value}{q:List ak}(h:NW B P w v q)(hl:q.length<=1000)(S:Nat->Prop)(hS:∀b,B<=b->b<w.heap.size->S b):dh w.heap S (.sl 168 bg) v q:=by
 obtain⟨xs,h1,_,h3⟩:=h;refine⟨by rw[maxLen_eq];omega,?_⟩;rcases h1.2 with⟨e,e2⟩|⟨g,cap,cur,e,e2,e3,e4,e5,e6,e7⟩
 .exact .inl ⟨avH.1 e2,none,0,by rw[e]⟩
 .refine .inr ⟨g,0,cap,cur,168,(0,0),e,e4,hS g e2 (auV.1 e3).1,e3,λi x hx=>?_⟩;have hi:=(au5.1 hx).1;have:=h3 i x hx;rw[← e7,axM,axr,axk (by omega)]at this;rw[avm];exact aI.flat (S:=λ_=>False) _ _ _ rfl this
theorem aj9{B P:Nat}(v:Value)(q:List ak)(hq:q.length<=1000)(w:World)(hn:NW B P w v q)(hG:G.ok w):Calls prog 104 #[v] w λe w'=>e=.returned (.bool (ax q))/\Below w.heap.size w w':=by have hc:fG prog G 104 (iw ja.sh ja.bI ja.F):=uz.1;refine(hc [.sv (.one (.sl 168 bg q false))] (q.length<=2000000) _ 0 (λ_=>True) #[v] w rfl (by omega) hG ⟨afB hn hq _ λb _ hb=>⟨⟨hb,λ_=>trivial,λo x hx=>by cases hx⟩,λh=>by cases h⟩,trivial⟩).mono ?_;rintro e w' ⟨v,vals,rfl,h1,h2,h3,h4,h5,h6,_,_⟩;have h6:v=.bool (ax q):=h6;exact⟨by rw[h6],h1,h2,h3,h4,h5⟩
theorem FW.form{B:Nat}{w:World}{v:Value}{f:Sp.LS}(h:FW B w v f):∃a cap,v=.slice a f.length cap:=by
 rcases h.2 with⟨rfl,a,c,e⟩|⟨b,off,cap,cs,t,fz,e,_⟩
 .exact⟨a,c,e⟩
 .exact⟨_,_,e⟩
theorem KR{w w1:World}{o:Obj}{f:Sp.LS}{q:List ak}{w2:World}(hb1:Below w.heap.size w w1)(hd:Done w1.heap.size w1.heap.size (w1.alloc o) none f q w2):Below w.heap.size w w2:=by
 obtain⟨_,_,_,_,_,h,_⟩:=hd;have hs:(w1.alloc o).heap.size=w1.heap.size+1:=by simp
 exact⟨h.os.trans hb1.os,h.tape.trans hb1.tape,h.output.trans hb1.output,by have:=h.size;have:=hb1.size;omega,λb hb=>(h.block b (by have:=hb1.size;omega) (by have:=hb1.size;omega) (λe=>by cases e)).trans ((heap_alloc_old w1 o (by have:=hb1.size;omega)).trans (hb1.block b hb))⟩
theorem ac5(B P:Nat)(w:World):NW B P w (.slice none 0 0) []/\([]:List ak).length<=1000:=⟨⟨[],awV w B 168 7,(λe=>by cases e),λi x hx=>by simp at hx⟩,avc _⟩
theorem NW.base{B P B' P':Nat}{w:World}{v:Value}{q:List ak}(h:NW B P w v q)(hB:B'<=B)(hP:w.heap.size<=P'):NW B' P' w v q:=by have hl:=λg hg=>h.lt (g:=g) hg;obtain⟨xs,⟨h1,h2⟩,_,h3⟩:=h;refine⟨xs,⟨h1,h2.imp id λ⟨g,cap,cur,e,e2,e3⟩=>⟨g,cap,cur,e,auU hB e2,e3⟩⟩,λe=>?_,h3⟩;have:=(hl P' e).2.1;omega
set_option maxHeartbeats 16000000 in
set_option maxRecDepth 100000 in
theorem alq(s:List UInt8)(hs:s.length<=1048576)(w:World)(hG:G.ok w):Calls prog 107 #[.string ⟨s.toArray⟩] w λe w'=>
 ∃v,e=.returned (.tuple #[v,.bool (gq s)])/\Below w.heap.size w w'/\NW w.heap.size w'.heap.size w' v (fM s)/\(fM s).length<=1000:=by
 have mixed:=Tryz.mixed;have sf:=apE s hs w hG;cases hok:gZ s with
 |false=>
  have e1:gq s=false:=by unfold gq;rw[hok];rfl
  have e2:fM s=[]:=by unfold fM;rw[e1];rfl
  rw[hok]at sf;rw[e1,e2];clear e1 e2 hok
  go_enter Tryz.func107,Tryz.ntmps107
  go_wp2_with (first
   |(go_at_call 153;refine sf.mono ?_;rintro e w1 ⟨v,rfl,-,hb1⟩))
  all_goals go_ret2
  all_goals exact⟨_,rfl,hb1,ac5 _ _ _⟩
 |true=>
  have hpq:Hid (gq s=((xR (Sp.wordsOf s)).1&&(!decide (((xR (Sp.wordsOf s)).2.1.length:Int)>0)&&ax (xR (Sp.wordsOf s)).2.2))):=by show _=_;unfold gq;rw[hok,awJ]
  have hpl:Hid (fM s=bif gq s then(xR (Sp.wordsOf s)).2.2 else[]):=rfl;obtain⟨hw,hl,_⟩:=Zz hok;have hws:∀x∈Sp.wordsOf s,x.1.length<=1000:=λx hx=>auU (Td x hx) (auU (qZ.1 hok).1 (by decide));have as8:(Sp.wordsOf s).length<=24:=by rw[vH];have:=(qZ.1 hok).2.2;omega
  rw[hok,hw]at sf;clear hok hw;generalize gq s=pq at hpq hpl ⊢;generalize fM s=pl at hpl ⊢;generalize Sp.wordsOf s=f at sf hpq hpl hl hws as8;have hcnt:=yA (f.length+1) f [];unfold xR at hpq hpl;generalize hz:Sp.rd (f.length+1) f []=z at hpq hpl hcnt;obtain⟨b1,f2,q2⟩:=z;dsimp only at hpq hpl hcnt;have hz:Hid (Sp.rd (f.length+1) f []=(b1,f2,q2)):=hz;have n8:=G.low w hG;have nd:∀(W:World)(vf:Value)(P:Nat),w.heap.size<=P->G.ok W->W.heap[P]? =some (.cells #[vf,.slice none 0 0] 173 (0,0))->FW P W vf f->Calls prog 154 #[.pointer (some ⟨P,0,none⟩)] W λe w'=>e=.returned (.bool b1)/\Done P P W none f2 q2 w':=λW vf P hP hG2 hc hf=>by have:=afA (f.length+1) P P W vf (.slice none 0 0) f [] (awx _) (auU n8 hP) (auT _) hG2 hc hf ⟨[],awV W P 168 7,(λe=>by cases e),λi x hx=>by simp at hx⟩ hws (by rw[auW];omega);rw[hz.out]at this;exact this
  go_enter Tryz.func107,Tryz.ntmps107
  cases b1 with
  |false=>
   go_wp2_with (first
    |(go_at_call 153;refine sf.mono ?_;rintro e w1 ⟨v,rfl,hf1,hb1⟩;obtain⟨a1,c1,hv1⟩:=hf1.form;subst hv1;clear sf)
    |(go_at_call 154;refine(nd _ (.slice a1 f.length c1) w1.heap.size hb1.size (bG (bG hG hb1) ((Below.refl _ _).alloc (auT _) _)) (avz w1 _) (hf1.keep λb hb=>heap_alloc_old w1 _ hb)).mono ?_;rintro e w2 ⟨rfl,hd⟩))
   all_goals go_ret2
   all_goals exact⟨_,by rw[show pq=false from hpq.out];rfl,KR hb1 hd,by rw[show pl=[] by rw[hpl.out,hpq.out];rfl];exact ac5 _ _ _⟩
  |true=>
   rcases awC f2.length with h0|h0
   .obtain rfl:f2=[]:=avH.1 h0;clear h0;cases hq:ax q2 with
    |false=>
     go_wp2_with (first
      |(go_at_call 153;refine sf.mono ?_;rintro e w1 ⟨v,rfl,hf1,hb1⟩;obtain⟨a1,c1,hv1⟩:=hf1.form;subst hv1;clear sf)
      |(go_at_call 154;refine(nd _ (.slice a1 f.length c1) w1.heap.size hb1.size (bG (bG hG hb1) ((Below.refl _ _).alloc (auT _) _)) (avz w1 _) (hf1.keep λb hb=>heap_alloc_old w1 _ hb)).mono ?_;rintro e w2 ⟨rfl,hd⟩;obtain⟨OH,vn2,hc2,hf2,hn2,hst2⟩:=id hd;obtain⟨a2,c2,hv2⟩:=hf2.form;obtain⟨a3,c3,hv3⟩:=hn2.form;subst hv2 hv3;have p0:w2.cell? ⟨w1.heap.size,0,none⟩=some (.slice a2 0 c2):=aN hc2 0;have p1:w2.cell? ⟨w1.heap.size,1,none⟩=some (.slice a3 q2.length c3):=aN hc2 1;have hdb:=KR hb1 hd)
      |(go_at_call 104;refine(aj9 (.slice a3 q2.length c3) q2 (by omega) w2 hn2 (bG hG hdb)).mono ?_;rintro e w3 ⟨rfl,hb3⟩;rw[hq]))
     all_goals go_ret2
     all_goals exact⟨_,by rw[show pq=false by rw[hpq.out,hq];rfl];rfl,hdb.trans (hb3.mono hdb.size),by rw[show pl=[] by rw[hpl.out,hpq.out,hq];rfl];exact ac5 _ _ _⟩
    |true=>
     go_wp2_with (first
      |(go_at_call 153;refine sf.mono ?_;rintro e w1 ⟨v,rfl,hf1,hb1⟩;obtain⟨a1,c1,hv1⟩:=hf1.form;subst hv1;clear sf)
      |(go_at_call 154;refine(nd _ (.slice a1 f.length c1) w1.heap.size hb1.size (bG (bG hG hb1) ((Below.refl _ _).alloc (auT _) _)) (avz w1 _) (hf1.keep λb hb=>heap_alloc_old w1 _ hb)).mono ?_;rintro e w2 ⟨rfl,hd⟩;obtain⟨OH,vn2,hc2,hf2,hn2,hst2⟩:=id hd;obtain⟨a2,c2,hv2⟩:=hf2.form;obtain⟨a3,c3,hv3⟩:=hn2.form;subst hv2 hv3;have p0:w2.cell? ⟨w1.heap.size,0,none⟩=some (.slice a2 0 c2):=aN hc2 0;have p1:w2.cell? ⟨w1.heap.size,1,none⟩=some (.slice a3 q2.length c3):=aN hc2 1;have hdb:=KR hb1 hd)
      |(go_at_call 104;refine(aj9 (.slice a3 q2.length c3) q2 (by omega) w2 hn2 (bG hG hdb)).mono ?_;rintro e w3 ⟨rfl,hb3⟩;rw[hq];have p3:w3.cell? ⟨w1.heap.size,1,none⟩=some (.slice a3 q2.length c3):=aN ((hb3.block _ (auV.1 hc2).1).trans hc2) 1))
     all_goals go_ret2
     all_goals refine⟨_,by rw[show pq=true by rw[hpq.out,hq];rfl];rfl,hdb.trans (hb3.mono hdb.size),?_⟩
     all_goals rw[show pl=q2 by rw[hpl.out,hpq.out,hq];rfl]
     all_goals exact⟨(hn2.keep λg hg=>hb3.block g (hn2.lt hg).2.1).base hb1.size (auT _),by omega⟩
   .have hpos:(0:Int)<(f2.length:Int):=by omega
    go_wp2_with (first
     |(go_at_call 153;refine sf.mono ?_;rintro e w1 ⟨v,rfl,hf1,hb1⟩;obtain⟨a1,c1,hv1⟩:=hf1.form;subst hv1;clear sf)
     |(go_at_call 154;refine(nd _ (.slice a1 f.length c1) w1.heap.size hb1.size (bG (bG hG hb1) ((Below.refl _ _).alloc (auT _) _)) (avz w1 _) (hf1.keep λb hb=>heap_alloc_old w1 _ hb)).mono ?_;rintro e w2 ⟨rfl,hd⟩;obtain⟨OH,vn2,hc2,hf2,hn2,hst2⟩:=id hd;obtain⟨a2,c2,hv2⟩:=hf2.form;subst hv2;have p0:w2.cell? ⟨w1.heap.size,0,none⟩=some (.slice a2 f2.length c2):=aN hc2 0;have hdb:=KR hb1 hd))
    all_goals go_ret2
    all_goals have hpf:pq=false:=by rw[hpq.out,au2 (show(f2.length:Int)>0 from hpos)];rfl
    all_goals exact⟨_,by rw[hpf];rfl,hdb,by rw[show pl=[] by rw[hpl.out,hpf];rfl];exact ac5 _ _ _⟩
theorem aoc{h:Array Obj}{S S':Nat->Prop}(hS:∀b,S b->S' b){v:Value}{q:List ak}(H:dh h S (.sl 168 bg) v q):dh h S' (.sl 168 bg) v q:=by
 refine⟨H.1,?_⟩;rcases H.2 with e|⟨b,off,cap,cs,t,fz,e1,e2,e3,e4,e5⟩
 .exact .inl e
 .exact .inr ⟨b,off,cap,cs,t,fz,e1,e2,hS b e3,e4,λi x hx=>aI.flat (S:=S) _ _ _ rfl (e5 i x hx)⟩
theorem XF:fG prog G Yw G6:=by
 intro args p out k S vs w hcon hp hG hrep;unfold G6 iw xK at hcon;split at hcon
 .next x hx=>
  obtain⟨s,⟨⟩⟩:=x;have hv:=D8 xE args _ vs.toList hx hrep
  match hvs:vs.toList,hv with
  |[v],hv=>
   have e1:v=.string ⟨s.toArray⟩:=hv.1.1;have e2:vs=#[.string ⟨s.toArray⟩]:=by obtain⟨l⟩:=vs;simp at hvs;rw[hvs,e1]
   subst e2;have hF:=Option.some.inj hcon;have hp1:p=(s.length<=1048576):=(congrArg Prod.fst hF).symm;have hout:out=⟨[(false,[.plain (.sl 168 bg (fM s) true)]),(false,[.plain (.bool (gq s))])],none⟩:=(congrArg Prod.snd hF).symm;subst hp1 hout;refine(alq s hp w hG).mono ?_;rintro e w' ⟨u,rfl,hb,hn,hn2⟩;have hr:=afB hn hn2 (λb=>w.heap.size<=b/\b<w'.heap.size) λb h1 h2=>⟨h1,h2⟩;refine⟨_,λ_=>undef,rfl,hb.os,hb.tape,hb.output,hb.size,hb.block,?_,(λo x hx=>by cases hx),(λo x q y b hx=>by cases hx)⟩;exact⟨_,rfl,aoc (λb hb=>⟨⟨hb.2,λh=>absurd h (axt.2 hb.1),λo x hx=>by cases hx⟩,λ_=>hb.1⟩) hr,rfl,trivial⟩
 .cases hcon
end Go.Proofs.Tryz
namespace Go.Proofs.Tryz
open Go Go.Fw Go.IntWalk Sp
theorem akb(n:Nat):((n:Int).tmod 2 !=0)=!(n%2==0):=by
 have e:(n:Int).tmod 2=((n%2:Nat):Int):=rfl;rw[e];cases h:n%2 with
 |zero=>rfl
 |succ k=>rw[show((k+1:Nat)==0)=false from rfl];exact bne_iff_ne.2 (by omega)
theorem Ja{w:Sp.LS}{n:Nat}(h:n<w.length):(w.getD n ([],())).1=Sp.wordAt w n:=by rw[qi (by omega),ava]
theorem ah5{w:Sp.LS}{n:Nat}(h:n+1<w.length):w.drop n=w.getD n ([],())::w.getD (n+1) ([],())::w.drop (n+2):=by rw[drop_cons w n ([],()) (by omega),drop_cons w (n+1) ([],()) h]
theorem aeH:OK wM.e:=by
 refine PA.ok mixed (aA [mg.e,(Ap,.pure xB)] ⟨Jg,⟨DF,I7⟩,trivial⟩) ags (by kernel_rfl) (show∀w,wM.goal (aeI w) (w,())from ?_);intro w hin hp;dsimp only[wM]at hp ⊢;obtain⟨hl,hw⟩:w.length<=1000/\∀x∈w,x.1.length<=1048576:=hp;have no:(decide ((w.length:Int)<4)||!(w.length%2==0))=true->((((0,0,false,0,[],()):aS),false,()):aS×Bool×Unit)=((jv w).1,(jv w).2,()):=λh=>by unfold jv;rw[h];rfl
 refine⟨λ_=>4<=w.length/\w.length%2=0,af (λh=>no (by rw[h];rfl)) λh=>⟨by decide,af (λh2=>no ?_) λh2=>⟨rfl,?_⟩⟩,?_⟩
 .rw[akb]at h2;rw[h2,Bool.or_true]
 .rw[akb]at h2;exact⟨by have:=fV h;omega,avj.1 (gI h2)⟩
 rintro⟨⟨⟩,⟨⟩⟩ ⟨h4,arM⟩;have ef:jv w=((Sp.numAt w 0,Sp.numAt (w.drop 1) 0,Sp.wordAt (w.drop 1) 1==[115],Sp.numAt (w.drop 1) 2,iM (w.drop 4),()),(aY (Sp.wordAt w 0)&&(aY (Sp.wordAt w 1)&&aY (Sp.wordAt w 3)))&&vK (w.drop 4)):=by unfold jv;rw[au6 (show ¬((w.length:Int)<4) by omega),arM];show(Dp _ _,_)=_;unfold Dp;rw[awo]
 have w1:∀i:Int,0<=i->Sp.wordAt (w.drop 1) i=Sp.wordAt w (1+i):=λi hi=>Sp.uK w 1 i (by decide) hi;have en:∀v i,Sp.numAt v i=Sp.parseNum (Sp.wordAt v i):=λ_ _=>rfl;rw[en,en,en,w1 0 (by decide),w1 1 (by decide),w1 2 (by decide)]at ef;have g0:(w.getD 0 ([],())).1=Sp.wordAt w 0:=Ja (by omega);have g1:(w.getD 1 ([],())).1=Sp.wordAt w 1:=Ja (by omega);have g2:(w.getD 2 ([],())).1=Sp.wordAt w 2:=Ja (by omega);have g3:(w.getD 3 ([],())).1=Sp.wordAt w 3:=Ja (by omega);have t0:Int.toNat (0:Int)=0:=rfl;have t1:Int.toNat (1:Int)=1:=rfl;have t2:Int.toNat (2:Int)=2:=rfl;have t3:Int.toNat (3:Int)=3:=rfl;rw[ef];refine⟨⟨by decide,by omega⟩,trivial,⟨by decide,by omega⟩,trivial,⟨by decide,by omega⟩,trivial,⟨by decide,by omega⟩,?_⟩;dsimp only;rw[t0,t1,t2,t3,g0,g1,g2,g3];refine⟨λy=>y=((aY (Sp.wordAt w 0)&&(aY (Sp.wordAt w 1)&&aY (Sp.wordAt w 3)),()),()),?_,?_⟩
 .cases aY (Sp.wordAt w 0)with
  |false=>exact⟨rfl,rfl⟩
  |true=>cases aY (Sp.wordAt w 1)<;>exact⟨rfl,rfl⟩
 rintro _ rfl;generalize (aY (Sp.wordAt w 0)&&(aY (Sp.wordAt w 1)&&aY (Sp.wordAt w 3)))=ok0;refine⟨λy=>∃(n:Nat)(ok:Bool)(al:List aW),y=((ok,((4+2*n:Nat):Int),()),(Sp.parseNum (Sp.wordAt w 0),Sp.parseNum (Sp.wordAt w 1),Sp.wordAt w 2==[115],Sp.parseNum (Sp.wordAt w 3),(),()),al,())/\4+2*n<=w.length/\al.length=n/\
  al++iM (w.drop (4+2*n))=iM (w.drop 4)/\(ok&&vK (w.drop (4+2*n)))=(ok0&&vK (w.drop 4)),λy=>((w.length:Int)-y.1.2.1).toNat,⟨0,ok0,[],rfl,h4,rfl,rfl,rfl⟩,?_⟩
 rintro _ ⟨n,ok,al,rfl,hn,hal,has,hok⟩;dsimp only;refine af (λh=>?_) λh=>?_
 .have hlt:=fH h;have hlt2:4+2*n+1<w.length:=by omega
  have e1:IntKind.i64.wrap (((4+2*n:Nat):Int)+1)=((4+2*n+1:Nat):Int):=(wrap_in (by omega)).trans (by omega);have e2:IntKind.i64.wrap (((4+2*n:Nat):Int)+2)=((4+2*(n+1):Nat):Int):=(wrap_in (by omega)).trans (by omega);rw[e1,e2,ava,ava];have hd:=ah5 hlt2;have hd2:w.drop (4+2*n+2)=w.drop (4+2*(n+1)):=by rw[show 4+2*n+2=4+2*(n+1) by omega]
  rw[hd2]at hd;rw[hd]at has hok;have ha:iM (w.getD (4+2*n) ([],())::w.getD (4+2*n+1) ([],())::w.drop (4+2*(n+1)))=((w.getD (4+2*n) ([],())).1,(aV (w.getD (4+2*n+1) ([],())).1).1)::iM (w.drop (4+2*(n+1))):=rfl;have hv:vK (w.getD (4+2*n) ([],())::w.getD (4+2*n+1) ([],())::w.drop (4+2*(n+1)))=((aV (w.getD (4+2*n+1) ([],())).1).2&&vK (w.drop (4+2*(n+1)))):=rfl;rw[ha]at has;rw[hv]at hok;refine⟨⟨by omega,by omega⟩,hw _ (getD_mem hlt2),⟨by omega,by omega⟩,lX (by rw[auQ,auW];omega),?_⟩;have next:∀b:Bool,(b&&vK (w.drop (4+2*(n+1))))=(ok0&&vK (w.drop 4))->∃(m:Nat)(ok:Bool)(al':List aW),((b,((4+2*(n+1):Nat):Int),()),(Sp.parseNum (Sp.wordAt w 0),Sp.parseNum (Sp.wordAt w 1),Sp.wordAt w 2==[115],Sp.parseNum (Sp.wordAt w 3),(),()),al++[((w.getD (4+2*n) ([],())).1,(aV (w.getD (4+2*n+1) ([],())).1).1)],())=((ok,((4+2*m:Nat):Int),()),(Sp.parseNum (Sp.wordAt w 0),Sp.parseNum (Sp.wordAt w 1),Sp.wordAt w 2==[115],Sp.parseNum (Sp.wordAt w 3),(),()),al',())/\4+2*m<=w.length/\al'.length=m/\
   al'++iM (w.drop (4+2*m))=iM (w.drop 4)/\(ok&&vK (w.drop (4+2*m)))=(ok0&&vK (w.drop 4)):=λb hb=>
   ⟨n+1,b,_,rfl,by omega,by rw[auN,auQ,auW,hal],by rw[au4];exact has,hb⟩
  cases ok with
  |true=>exact⟨rfl,next _ (by rw[← hok,awJ]),by omega⟩
  |false=>exact⟨rfl,next _ (by rw[← hok,awY,awY]),by omega⟩
 .have hge:4+2*n=w.length:=by have:=fV h;omega
  rw[hge,List.drop_length]at has hok;have e1:al=iM (w.drop 4):=by rw[← has];exact(avi _).symm
  have e2:ok=(ok0&&vK (w.drop 4)):=by rw[← hok];exact(aw4 _).symm
  rw[e1,e2];rfl
end Go.Proofs.Tryz
namespace Go.Proofs.Tryz
open Go Go.Fw Go.IntWalk Sp
set_option maxRecDepth 100000
theorem afC:∀(fs:List dR)(name:List UInt8),Sp.kindOf fs name≠0->∃f∈fs,f.1=name
 |[],name,h=>absurd rfl h
 |f::r,name,h=>by
  rw[Sp.kindOf]at h;cases e:decide (f.1=name)with
  |true=>exact⟨f,au0,av2 e⟩
  |false=>rw[e]at h;obtain⟨g,h1,h2⟩:=afC r name h;exact⟨g,auZ _ h1,h2⟩
theorem amX{k n:Int}{s:List UInt8}(h:bF k n s=true):s.length<=6:=by
 by_cases h0:k=0
 .subst h0;unfold bF at h;simp at h;rw[h.2];decide
 by_cases h1:k=1
 .subst h1;rw[(alr h).2.2];decide
 by_cases h2:k=2
 .subst h2;have:=(aoY h).1;unfold aT at this;simp only[auO,au1]at this;omega
 unfold bF at h;rw[au6 h0,au6 h1,au6 h2]at h;cases h
theorem akc{a:List aW}(h:ji Sp.usual a=true):∀x∈a,x.1.length<=10/\x.2.2.2.1.length<=10:=by
 intro x hx;have hm:=(PD.1 h).1 x hx;unfold iK at hm;rw[auO,auO,au1]at hm;obtain⟨⟨h1,h2⟩,h3⟩:=hm;have hk:Sp.kindOf Sp.usual x.1≠0:=by rw[← h3];exact of_decide_eq_false (jP h2)
 obtain⟨f,hf,e⟩:=afC _ _ hk;have hn:∀f∈Sp.usual,f.1.length<=10:=by decide
 exact⟨by rw[← e];exact hn f hf,auU (amX h1) (by decide)⟩
theorem air{a:List aW}(hl:a.length<=9)(h:∀x∈a,x.1.length<=10/\x.2.2.2.1.length<=10):FP a=true:=by unfold FP;rw[au2 hl,awJ,au9];intro x hx;rw[au2 (h x hx).1,au2 (h x hx).2];rfl
theorem aqF{a:List aW}(h:ji Sp.usual a=true)(hl:a.length<=4):FP a=true:=air (by omega) (akc h)
theorem ajp{a:List aW}{name:List UInt8}{k n:Int}{s:List UInt8}{x:aW}(hx:x∈jb a name k n s):x∈a\/x=(name,k,n,s,()):=by
 unfold jb at hx;cases h:decide (k=0)with
 |true=>rw[h]at hx;exact .inl ((awG.1 hx).1)
 |false=>
  rw[h]at hx;have hx:x∈Lh (a.filter (nU name)) (name,k,n,s,()):=hx;unfold Lh at hx;rcases avf.1 hx with h|h
  .exact .inl (awG.1 (List.takeWhile_subset _ h)).1
  .rcases au3.1 h with h|h
   .exact .inr h
   .exact .inl (awG.1 (List.dropWhile_subset _ h)).1
theorem VE:OK xG.e:=by
 refine XA.ok mixed (aA [uM.e,jk.e,wK.e,qC.e,kD.e,qE.e,bQ.e] ⟨Gn,mZ,Ib,Cc,rU,Ce,dw,trivial⟩) XG (λ_ _=>⟨(((0,0,false,0,[],()),()),(([],0,0,()),())),⟨by decide,by decide⟩⟩) (by kernel_rfl) (show∀c0 c1 c2,xG.goal (VF c0 c1 c2) ((c0,c1,c2,()),())from ?_);intro b i h hin hp;dsimp only[xG]at hp ⊢;have hp:0<=i:=hp;refine⟨hp,?_⟩;rintro⟨⟨x0,⟨⟩⟩,⟨b0,i0,g0,⟨⟩⟩,⟨⟩⟩ ⟨p0,_⟩;refine⟨p0,?_⟩;rintro⟨⟨⟨d,o,s,l,a,⟨⟩⟩,⟨⟩⟩,⟨b1,i1,g1,⟨⟩⟩,⟨⟩⟩ ⟨p1,_,_,_,_,_,hok,ha⟩;have ha:a.length<=4:=ha;have hok:ji Sp.usual a=true:=hok;have hfew:=aqF hok ha;have hall:=akc hok;refine⟨p1,?_⟩;rintro⟨⟨x2,⟨⟩⟩,⟨b2,i2,g2,⟨⟩⟩,⟨⟩⟩ ⟨p2,_⟩;refine af (λ_=>⟨⟨p2,by simp⟩,?_⟩) λ_=>af (λ_=>⟨⟨p2,by simp⟩,?_⟩) λ_=>af (λ_=>⟨⟨p2,by simp⟩,?_⟩) λ_=>af (λ_=>⟨p2,?_⟩) λ_=>af (λ_=>⟨trivial,(show a.length<=1000 by omega),?_⟩) λ_=>⟨p2,hfew⟩
 .rintro⟨⟨x3,⟨⟩⟩,⟨b3,i3,g3,⟨⟩⟩,⟨⟩⟩ ⟨p3,_⟩;exact⟨p3,hfew⟩
 .rintro⟨⟨x3,⟨⟩⟩,⟨b3,i3,g3,⟨⟩⟩,⟨⟩⟩ ⟨p3,_⟩;exact⟨p3,hfew⟩
 .rintro⟨⟨x3,⟨⟩⟩,⟨b3,i3,g3,⟨⟩⟩,⟨⟩⟩ ⟨p3,_⟩;exact⟨p3,hfew⟩
 .rintro⟨⟨x3,⟨⟩⟩,⟨b3,i3,g3,⟨⟩⟩,⟨⟩⟩ ⟨p3,hx3⟩;have hx3:x3.length<=1:=hx3;refine⟨p3,?_⟩;rintro⟨⟨⟨k,n,w,⟨⟩⟩,⟨⟩⟩,⟨b4,i4,g4,⟨⟩⟩,⟨⟩⟩ ⟨p4,hw⟩;have hw:w.length<=10:=hw;refine⟨(show a.length+1<=big by rw[iF];omega),p4,?_⟩;show FP (a++[(x3,k,n,w,())])=true;refine air (by rw[auN,auQ,auW];omega) λx hx=>?_;rcases avf.1 hx with h|h
  .exact hall x h
  .rw[avg.1 h];exact⟨auU hx3 (by decide),hw⟩
 .rintro⟨⟨⟨d',o',s',l',a',⟨⟩⟩,⟨⟩⟩,⟨⟩⟩ ⟨_,_,_,_,e5⟩;refine⟨p2,?_⟩;have e5:a'=jb a [97] 2 0 [114,101,100]:=e5;show FP a'=true;rw[e5];refine air (auU (Zt _ _ _ _ _) (by omega)) λx hx=>?_;rcases ajp hx with h|h
  .exact hall x h
  .rw[h];decide
end Go.Proofs.Tryz
namespace Go.Proofs.Tryz
open Go Go.Fw Go.IntWalk Sp
set_option maxRecDepth 100000
theorem six(a b c d e f:UInt8):([a,b,c,d,e,f]:List UInt8).length=6:=rfl
theorem YJ:OK Ag.e:=by
 refine PA.ok mixed (aA [] trivial) aa7 (by kernel_rfl) (show∀a b,Ag.goal (Y0 a b) (a,b,())from ?_);intro a b hin hp;dsimp only[Ag]at hp ⊢;have hlen:a.length<=maxLen:=hin.1.1;rw[maxLen_eq]at hlen;refine af (λh=>?_) λh=>?_
 .have h:(a.length:Int)≠b.length:=by simpa using h
  exact congrArg (·,()) (au6 λe=>h (by rw[e])).symm
 .have h:(a.length:Int)=b.length:=by simpa using h
  exact Fj (K:=λr=>r=(decide (a=b),())) (λx y=>!(x.1==y.1)) (λx y=>by simp[awn]) _ a b _ hlen (by omega) (λe=>by rw[au6 e]) λe=>by rw[au2 e]
theorem aaO:OK sF.e:=by
 refine PA.ok mixed (aA [] trivial) adb (by kernel_rfl) (show∀a b,sF.goal (aa8 a b) (a,b,())from ?_);intro a b hin hp;dsimp only[sF]at hp ⊢;have hlen:a.length<=maxLen:=hin.1.1;rw[maxLen_eq]at hlen;refine af (λh=>?_) λh=>?_
 .have h:(a.length:Int)≠b.length:=by simpa using h
  exact congrArg (·,()) (au6 λe=>h (by rw[e])).symm
 .have h:(a.length:Int)=b.length:=by simpa using h
  exact Fj (K:=λr=>r=(decide (a=b),())) (λx y=>!(x.1==y.1)) (λx y=>by simp[awn]) _ a b _ hlen (by omega) (λe=>by rw[au6 e]) λe=>by rw[au2 e]
theorem BG:OK oz.e:=by
 refine PA.ok mixed (aA [jY.e] ⟨wH,trivial⟩) H0 (by kernel_rfl) (show∀f0 f1,oz.goal (VH f0 f1) ((f0,f1,()),())from ?_);intro f0 f1 hin hp;dsimp only[oz]at hp ⊢;have hl:f0.length<=1048576:=hp;have e1:∀z:List UInt8,gV++32::(f0++32::z)=[102,105,101,108,100,32]++f0++32::z:=λz=>by rw[au4];rfl
 have e:bJ (f0,f1,())=bif !dB f0 then[]else bif f1==1 then[102,105,101,108,100,32]++f0++[32,105,110,116]else bif f1==2 then[102,105,101,108,100,32]++f0++[32,115,116,114,105,110,103]else[]:=by show(bif !dB f0 then[]else bif f1==1 then gV++32::(f0++32::Gt)else bif f1==2 then gV++32::(f0++32::sV)else[])=_;rw[e1,e1];rfl
 refine⟨trivial,?_⟩;rw[e];refine af (λh=>by rw[h];rfl) λh=>af (λh1=>⟨bP (by rw[six];omega),bP (by rw[auN,six,auQ,auQ,auQ,auQ,auW];omega),by rw[h,h1];rfl⟩) λh1=>af (λh2=>⟨bP (by rw[six];omega),bP (by simp only[auN,auQ,auW];omega),by rw[h,h1,h2];rfl⟩) λh2=>by rw[h,h1,h2];rfl
theorem Hg:OK rJ.e:=by
 refine PA.ok mixed (aA [jZ.e] ⟨wI,trivial⟩) H0 (by kernel_rfl) (show∀f0 f1,rJ.goal (VI f0 f1) ((f0,f1,()),())from ?_);intro f0 f1 hin hp;dsimp only[rJ]at hp ⊢;have hl:f0.length<=1048576:=hp;have e1:∀z:List UInt8,gV++32::(f0++32::z)=[102,105,101,108,100,32]++f0++32::z:=λz=>by rw[au4];rfl
 have e:bJ (f0,f1,())=bif !dB f0 then[]else bif f1==1 then[102,105,101,108,100,32]++f0++[32,105,110,116]else bif f1==2 then[102,105,101,108,100,32]++f0++[32,115,116,114,105,110,103]else[]:=by show(bif !dB f0 then[]else bif f1==1 then gV++32::(f0++32::Gt)else bif f1==2 then gV++32::(f0++32::sV)else[])=_;rw[e1,e1];rfl
 refine⟨trivial,?_⟩;rw[e];refine af (λh=>by rw[h];rfl) λh=>af (λh1=>⟨bP (by rw[six];omega),bP (by rw[auN,six,auQ,auQ,auQ,auQ,auW];omega),by rw[h,h1];rfl⟩) λh1=>af (λh2=>⟨bP (by rw[six];omega),bP (by simp only[auN,auQ,auW];omega),by rw[h,h1,h2];rfl⟩) λh2=>by rw[h,h1,h2];rfl
theorem CV:OK pW.e:=by
 refine PA.ok mixed (aA [kX.e,kV.e] ⟨BH,tH,trivial⟩) Y3 (by kernel_rfl) (show∀f0 f1 f2 f3 f4,pW.goal (XI f0 f1 f2 f3 f4) ((f0,f1,f2,f3,f4,()),())from ?_);intro f0 f1 f2 f3 f4 hin hp;dsimp only[pW]at hp ⊢;obtain⟨hl,ht⟩:f4.length<=1048576/\(dP f4).length<=1073741824:=hp;have q0:=AP (n:=f0) hin.1.1;have q1:=AP (n:=f1) hin.1.2.1;have q3:=AP (n:=f3) hin.1.2.2.2.1;have h5:∀a b c d e:UInt8,([a,b,c,d,e]:List UInt8).length=5:=λ_ _ _ _ _=>rfl;have h3:∀a b c:UInt8,([a,b,c]:List UInt8).length=3:=λ_ _ _=>rfl;have h1:([32]:List UInt8).length=1:=rfl;refine⟨trivial,bP (by rw[h5];omega),bP (by rw[auN,h5,h1];omega),trivial,bP (by rw[auN,auN,h5,h1];omega),
  iE (([102,105,108,101,32]++Lib.itoa f0++[32]++Lib.itoa f1++[32,(bif f2 then 115 else 111),32],()),()) ?_ ?_⟩
 .cases f2 with
  |true=>exact⟨bP (by simp only[auN,h5,h1,h3];omega),rfl,rfl⟩
  |false=>exact⟨bP (by simp only[auN,h5,h1,h3];omega),rfl,rfl⟩
 refine⟨trivial,bP (by simp only[auN,h5,h1,h3];omega),?_⟩;have hh:([102,105,108,101,32]++Lib.itoa f0++[32]++Lib.itoa f1++[32,(bif f2 then 115 else 111),32]++Lib.itoa f3:List UInt8).length<=80:=by simp only[auN,h5,h1,h3];omega
 have he:dX (f0,f1,f2,f3,f4,())=[102,105,108,101,32]++Lib.itoa f0++[32]++Lib.itoa f1++[32,(bif f2 then 115 else 111),32]++Lib.itoa f3++dP f4:=by
  have e1:dX (f0,f1,f2,f3,f4,())=jX++32::(Lib.itoa f0++32::Lib.join (jy (f0,f1,f2,f3,f4,())) [32]):=by unfold dX;rw[show jy (f0,f1,f2,f3,f4,())=Lib.itoa f1::((bif f2 then[115]else[111])::Lib.itoa f3::dV f4)from rfl,jD,jD]
  rw[e1,afE];cases f2<;>simp[jX]
 generalize ([102,105,108,101,32]++Lib.itoa f0++[32]++Lib.itoa f1++[32,(bif f2 then 115 else 111),32]++Lib.itoa f3:List UInt8)=H at hh he ⊢;rw[he];refine iy (mk:=λi(s:List UInt8)=>((s,i,()),())) (λy=>y.1.2.1) (λ_ _=>rfl) f4.length (by omega) (λn s=>s=H++dP (f4.take n)) (by rw[axa];exact(avi _).symm) (λI μ n s hn hJ next=>?_) λI μ s hJ=>?_
 .subst hJ;have hm:=@aeM f4 (n+1);have hk:=am0 hn;rw[hk]at hm;simp only[auN,auQ]at hm;dsimp only;rw[ava];have hi:(0:Int)<=n/\(n:Int)<f4.length:=by omega
  refine fP (by omega) ⟨bP (by simp only[auN,h1];omega),hi,bP (by simp only[auN,h1];omega),bP (by simp only[auN,h1];omega),hi,trivial,bP (by simp only[auN,h1];omega),rfl,next _ ?_⟩;rw[hk];simp
 .subst hJ;dsimp only;rw[avy (auT _)];exact fQ (by omega) rfl
theorem wR(a:List (List UInt8))(x:List UInt8):Sp.ls (a++[x])=Sp.ls a++[(x,())]:=by rw[Sp.XC];rfl
theorem map_take{α β:Type}(f:α->β)(l:List α){n:Nat}(h:n<l.length)(d:α):(l.take (n+1)).map f=(l.take n).map f++[f (l.getD n d)]:=by rw[awf h,avN,auS,auX h];rfl
theorem aeN{x:aZ}(h:bT x=true){f:aS}(hf:f∈x.2.1):f.2.2.2.2.1.length<=1048576/\(dP f.2.2.2.2.1).length<=1073741824:=by
 obtain⟨k1,k2⟩:=(xY h).2.1 f hf;have:=Uc _ (xZ.1 k1).1;have hj:(dP f.2.2.2.2.1).length<=rW (dV f.2.2.2.2.1):=by
  rw[← Ud];have:∀w:List (List UInt8),(Lib.joinTail [32] w).length<=rW w:=by
   intro w
   induction w with
   |nil=>exact avc _
   |cons y r ih=>show([32]++y++Lib.joinTail [32] r).length<=_;rw[fO,auN,auN,auQ,auW];omega
  exact this _
 exact⟨by omega,by omega⟩
theorem Ef:OK jG.e:=by
 refine PA.ok mixed (aA [xC.e,tq.e,qF.e,rJ.e,iO.e] ⟨VA,Jc,DI,Hg,wJ,trivial⟩) Q5 (by kernel_rfl) (show∀x0 x1 x2 x3,jG.goal (PE x0 x1 x2 x3) ((x0,x1,x2,x3,()),())from ?_);intro x0 x1 x2 x3 hin hp;dsimp only[jG]at hp ⊢;have hp:fB (x0,x1,x2,x3,()):=hp;refine⟨hp,af (λh=>?_) λh=>?_⟩
 .have h:bT (x0,x1,x2,x3,())=false:=jP h;rw[Xd h]
 have h:bT (x0,x1,x2,x3,())=true:=gI h;obtain⟨p1,p2,p3,p4,p5,p6,p7⟩:=xY h;have few:=λf hf=>aeN h (f:=f) hf;rw[Bc h];dsimp only at p1 p2 p3 p4 p5 p6 p7 few;have hn:=(kF p3).2.2.2.2;have h5:∀a b c d e:UInt8,([a,b,c,d,e]:List UInt8).length=5:=λ_ _ _ _ _=>rfl;have h4:∀a b c d:UInt8,([a,b,c,d]:List UInt8).length=4:=λ_ _ _ _=>rfl;have one:∀x:List UInt8×Unit,[x].length=1:=λ_=>rfl;refine iy (mk:=λi(s:Sp.LS)=>(((),i,()),s,())) (λy=>y.1.2.1) (λ_ _=>rfl) x0.length (by omega) (λn s=>s=Sp.ls ((x0.take n).map bJ)) rfl (λI μ n s hn hJ next=>?_) λI μ s hJ=>?_
 .subst hJ;dsimp only;rw[ava];have hm:=p1 _ (getD_mem (d:=([],0,())) hn);refine fP (by omega) ⟨⟨by omega,by omega⟩,auU (Ue hm.1) (by decide),lX (by rw[one];simp only[Sp.ls,au7,auY];omega),rfl,next _ ?_⟩;rw[map_take _ _ hn ([],0,()),wR]
 subst hJ;dsimp only;rw[avy (auT _)];refine fQ (by omega) ⟨trivial,bP (by rw[h5];omega),lX (by rw[one];simp only[Sp.ls,au7];omega),?_⟩;have e1:Sp.ls (x0.map bJ)++[([110,101,120,116,32]++Lib.itoa x2,())]=Sp.ls (x0.map bJ++[iC x2]):=(wR _ _).symm;rw[e1];refine iy (mk:=λi(s:Sp.LS)=>(((),i,()),s,())) (λy=>y.1.2.1) (λ_ _=>rfl) x1.length (by omega) (λn s=>s=Sp.ls (x0.map bJ++[iC x2]++(x1.take n).map dX)) (by show Sp.ls _=Sp.ls (_++[]);rw[avi]) (λI μ n s hn hJ next=>?_) λI μ s hJ=>?_
 .subst hJ;dsimp only;rw[ava];refine fP (by omega) ⟨⟨by omega,by omega⟩,few _ (getD_mem (d:=(0,0,false,0,[],())) hn),lX (by rw[one];simp only[Sp.ls,au7,auN,auY,auQ,auW];omega),rfl,next _ ?_⟩;rw[map_take _ _ hn (0,0,false,0,[],()),← au4,wR]
 subst hJ;dsimp only;rw[avy (auT _)];refine fQ (by omega) ?_;refine iy (mk:=λi(s:Sp.LS)=>(((),i,()),s,())) (λy=>y.1.2.1) (λ_ _=>rfl) x3.length (by omega) (λn s=>s=Sp.ls (x0.map bJ++[iC x2]++x1.map dX++(x3.take n).map ig)) (by show Sp.ls _=Sp.ls (_++[]);rw[avi]) (λI μ n s hn hJ next=>?_) λI μ s hJ=>?_
 .subst hJ;dsimp only;rw[ava];have hm:=p4 _ (getD_mem (d:=([],[],())) hn);have hv:=pU hm.1;have hq:=(Sp.gy hm.2).2;have ht:=Uf (x3.getD n ([],[],())).2.1;refine fP (by omega) ⟨⟨by omega,by omega⟩,bP (by rw[h4];omega),bP (by rw[auN,h4];show _+1<=_;omega),(by omega),bP (by rw[auN,auN,h4];show 4+_+1+_<=_;omega),lX (by rw[one];simp only[Sp.ls,au7,auN,auY,auQ,auW];omega),rfl,next _ ?_⟩;rw[map_take _ _ hn ([],[],()),← au4,wR];have e:ig (x3.getD n ([],[],()))=[100,105,114,32]++(x3.getD n ([],[],())).1++[32]++Sp.textOf (x3.getD n ([],[],())).2.1:=by unfold ig;simp[jw]
  rw[e]
 .subst hJ;dsimp only;rw[avy (auT _)];refine fQ (by omega) ?_;have e:yC (x0,x1,x2,x3,())=x0.map bJ++[iC x2]++x1.map dX++x3.map ig:=by unfold yC;simp
  rw[e]
theorem Jh:OK nJ.e:=by
 refine XA.ok mixed (aA [ou.e,pW.e,kV.e,oz.e,gX.e] ⟨BI,CV,tH,BG,qw,trivial⟩) JG (λ⟨(a,b,c,d,_),_⟩ _=>⟨((Sp.enc (a,b,c,d,()),()),()),rfl⟩) (by kernel_rfl) (show∀x0 x1 x2 x3,nJ.goal (Ji x0 x1 x2 x3) ((x0,x1,x2,x3,()),())from ?_);intro x0 x1 x2 x3 hin hp;dsimp only[nJ]at hp ⊢;have hp:fB (x0,x1,x2,x3,()):=hp;refine⟨hp,af (λh=>?_) λh=>?_⟩
 .have h:bT (x0,x1,x2,x3,())=false:=jP h;rw[Xd h]
 have h:bT (x0,x1,x2,x3,())=true:=gI h;obtain⟨p1,p2,p3,p4,p5,p6,p7⟩:=xY h;have few:=λf hf=>aeN h (f:=f) hf;rw[Bc h];dsimp only at p1 p2 p3 p4 p5 p6 p7 few;have hn:=(kF p3).2.2.2.2;have h5:∀a b c d e:UInt8,([a,b,c,d,e]:List UInt8).length=5:=λ_ _ _ _ _=>rfl;have h4:∀a b c d:UInt8,([a,b,c,d]:List UInt8).length=4:=λ_ _ _ _=>rfl;have one:∀x:List UInt8×Unit,[x].length=1:=λ_=>rfl;refine iy (mk:=λi(s:Sp.LS)=>(((),i,()),s,())) (λy=>y.1.2.1) (λ_ _=>rfl) x0.length (by omega) (λn s=>s=Sp.ls ((x0.take n).map bJ)) rfl (λI μ n s hn hJ next=>?_) λI μ s hJ=>?_
 .subst hJ;dsimp only;rw[ava];have hm:=p1 _ (getD_mem (d:=([],0,())) hn);refine fP (by omega) ⟨⟨by omega,by omega⟩,auU (Ue hm.1) (by decide),lX (by rw[one];simp only[Sp.ls,au7,auY];omega),rfl,next _ ?_⟩;rw[map_take _ _ hn ([],0,()),wR]
 subst hJ;dsimp only;rw[avy (auT _)];refine fQ (by omega) ⟨trivial,bP (by rw[h5];omega),lX (by rw[one];simp only[Sp.ls,au7];omega),?_⟩;have e1:Sp.ls (x0.map bJ)++[([110,101,120,116,32]++Lib.itoa x2,())]=Sp.ls (x0.map bJ++[iC x2]):=(wR _ _).symm;rw[e1];refine iy (mk:=λi(s:Sp.LS)=>(((),i,()),s,())) (λy=>y.1.2.1) (λ_ _=>rfl) x1.length (by omega) (λn s=>s=Sp.ls (x0.map bJ++[iC x2]++(x1.take n).map dX)) (by show Sp.ls _=Sp.ls (_++[]);rw[avi]) (λI μ n s hn hJ next=>?_) λI μ s hJ=>?_
 .subst hJ;dsimp only;rw[ava];refine fP (by omega) ⟨⟨by omega,by omega⟩,few _ (getD_mem (d:=(0,0,false,0,[],())) hn),lX (by rw[one];simp only[Sp.ls,au7,auN,auY,auQ,auW];omega),rfl,next _ ?_⟩;rw[map_take _ _ hn (0,0,false,0,[],()),← au4,wR]
 subst hJ;dsimp only;rw[avy (auT _)];refine fQ (by omega) ?_;refine iy (mk:=λi(s:Sp.LS)=>(((),i,()),s,())) (λy=>y.1.2.1) (λ_ _=>rfl) x3.length (by omega) (λn s=>s=Sp.ls (x0.map bJ++[iC x2]++x1.map dX++(x3.take n).map ig)) (by show Sp.ls _=Sp.ls (_++[]);rw[avi]) (λI μ n s hn hJ next=>?_) λI μ s hJ=>?_
 .subst hJ;dsimp only;rw[ava];have hm:=p4 _ (getD_mem (d:=([],[],())) hn);have hv:=pU hm.1;have hq:=(Sp.gy hm.2).2;have ht:=Uf (x3.getD n ([],[],())).2.1;refine fP (by omega) ⟨⟨by omega,by omega⟩,bP (by rw[h4];omega),bP (by rw[auN,h4];show _+1<=_;omega),⟨by omega,by omega⟩,(by omega),bP (by rw[auN,auN,h4];show 4+_+1+_<=_;omega),lX (by rw[one];simp only[Sp.ls,au7,auN,auY,auQ,auW];omega),rfl,next _ ?_⟩;rw[map_take _ _ hn ([],[],()),← au4,wR];have e:ig (x3.getD n ([],[],()))=[100,105,114,32]++(x3.getD n ([],[],())).1++[32]++Sp.textOf (x3.getD n ([],[],())).2.1:=by unfold ig;simp[jw]
  rw[e]
 .subst hJ;dsimp only;rw[avy (auT _)];refine fQ (by omega) ?_;have e:yC (x0,x1,x2,x3,())=x0.map bJ++[iC x2]++x1.map dX++x3.map ig:=by unfold yC;simp
  rw[e]
theorem Ee:OK jH.e:=by
 refine PA.ok mixed (aA [ou.e,pW.e,kV.e,oz.e,gX.e] ⟨BI,CV,tH,BG,qw,trivial⟩) Q7 (by kernel_rfl) (show∀x0 x1 x2 x3,jH.goal (PG x0 x1 x2 x3) ((x0,x1,x2,x3,()),())from ?_);intro x0 x1 x2 x3 hin hp;dsimp only[jH]at hp ⊢;have hp:fB (x0,x1,x2,x3,()):=hp;refine⟨hp,af (λh=>?_) λh=>?_⟩
 .have h:bT (x0,x1,x2,x3,())=false:=jP h;rw[Xd h]
 have h:bT (x0,x1,x2,x3,())=true:=gI h;obtain⟨p1,p2,p3,p4,p5,p6,p7⟩:=xY h;have few:=λf hf=>aeN h (f:=f) hf;rw[Bc h];dsimp only at p1 p2 p3 p4 p5 p6 p7 few;have hn:=(kF p3).2.2.2.2;have h5:∀a b c d e:UInt8,([a,b,c,d,e]:List UInt8).length=5:=λ_ _ _ _ _=>rfl;have h4:∀a b c d:UInt8,([a,b,c,d]:List UInt8).length=4:=λ_ _ _ _=>rfl;have one:∀x:List UInt8×Unit,[x].length=1:=λ_=>rfl;refine iy (mk:=λi(s:Sp.LS)=>(((),i,()),s,())) (λy=>y.1.2.1) (λ_ _=>rfl) x0.length (by omega) (λn s=>s=Sp.ls ((x0.take n).map bJ)) rfl (λI μ n s hn hJ next=>?_) λI μ s hJ=>?_
 .subst hJ;dsimp only;rw[ava];have hm:=p1 _ (getD_mem (d:=([],0,())) hn);refine fP (by omega) ⟨⟨by omega,by omega⟩,auU (Ue hm.1) (by decide),lX (by rw[one];simp only[Sp.ls,au7,auY];omega),rfl,next _ ?_⟩;rw[map_take _ _ hn ([],0,()),wR]
 subst hJ;dsimp only;rw[avy (auT _)];refine fQ (by omega) ⟨trivial,bP (by rw[h5];omega),lX (by rw[one];simp only[Sp.ls,au7];omega),?_⟩;have e1:Sp.ls (x0.map bJ)++[([110,101,120,116,32]++Lib.itoa x2,())]=Sp.ls (x0.map bJ++[iC x2]):=(wR _ _).symm;rw[e1];refine iy (mk:=λi(s:Sp.LS)=>(((),i,()),s,())) (λy=>y.1.2.1) (λ_ _=>rfl) x1.length (by omega) (λn s=>s=Sp.ls (x0.map bJ++[iC x2]++(x1.take n).map dX)) (by show Sp.ls _=Sp.ls (_++[]);rw[avi]) (λI μ n s hn hJ next=>?_) λI μ s hJ=>?_
 .subst hJ;dsimp only;rw[ava];refine fP (by omega) ⟨⟨by omega,by omega⟩,few _ (getD_mem (d:=(0,0,false,0,[],())) hn),lX (by rw[one];simp only[Sp.ls,au7,auN,auY,auQ,auW];omega),rfl,next _ ?_⟩;rw[map_take _ _ hn (0,0,false,0,[],()),← au4,wR]
 subst hJ;dsimp only;rw[avy (auT _)];refine fQ (by omega) ?_;refine iy (mk:=λi(s:Sp.LS)=>(((),i,()),s,())) (λy=>y.1.2.1) (λ_ _=>rfl) x3.length (by omega) (λn s=>s=Sp.ls (x0.map bJ++[iC x2]++x1.map dX++(x3.take n).map ig)) (by show Sp.ls _=Sp.ls (_++[]);rw[avi]) (λI μ n s hn hJ next=>?_) λI μ s hJ=>?_
 .subst hJ;dsimp only;rw[ava];have hm:=p4 _ (getD_mem (d:=([],[],())) hn);have hv:=pU hm.1;have hq:=(Sp.gy hm.2).2;have ht:=Uf (x3.getD n ([],[],())).2.1;refine fP (by omega) ⟨⟨by omega,by omega⟩,bP (by rw[h4];omega),bP (by rw[auN,h4];show _+1<=_;omega),⟨by omega,by omega⟩,(by omega),bP (by rw[auN,auN,h4];show 4+_+1+_<=_;omega),lX (by rw[one];simp only[Sp.ls,au7,auN,auY,auQ,auW];omega),rfl,next _ ?_⟩;rw[map_take _ _ hn ([],[],()),← au4,wR];have e:ig (x3.getD n ([],[],()))=[100,105,114,32]++(x3.getD n ([],[],())).1++[32]++Sp.textOf (x3.getD n ([],[],())).2.1:=by unfold ig;simp[jw]
  rw[e]
 .subst hJ;dsimp only;rw[avy (auT _)];refine fQ (by omega) ?_;have e:yC (x0,x1,x2,x3,())=x0.map bJ++[iC x2]++x1.map dX++x3.map ig:=by unfold yC;simp
  rw[e]
end Go.Proofs.Tryz
namespace Go.Proofs.Tryz
open Go Go.Fw Go.IntWalk
set_option maxRecDepth 100000
theorem getD_in{α:Type}{l:List α}{n:Nat}{d:α}(h:n<l.length):l.getD n d∈l:=by rw[auS,auX h];exact awg h
end Go.Proofs.Tryz
namespace Go.Proofs.Tryz
open Go Go.Fw Go.IntWalk Sp
set_option maxRecDepth 100000
theorem aa9:bT (Sp.usual,[],1,[],())=true:=by unfold bT;rw[show bM (zS (Sp.usual,[],1,[],()))=true by decide];exact(lU (d:=[])).2 ⟨by decide,λ_=>0,λe he=>by cases he⟩
theorem Ug:OK vY.e:=by refine XA.ok mixed (aA [yZ.e,rX.e] ⟨OA,EM,trivial⟩) H0 (λ_ _=>⟨(((Sp.usual,[],1,[],()),()),(([],0,0,()),())),⟨by decide,abb aa9,aa9⟩⟩) (by kernel_rfl) (show∀c0 c1 c2,vY.goal (Uh c0 c1 c2) ((c0,c1,c2,()),())from ?_);intro b i h hin hp;dsimp only[vY]at hp ⊢;have hp:0<=i:=hp;refine⟨hp,λr hr=>⟨hr.1,λx hx=>⟨hx.1,⟨hr.2.2.2.2.1,hx.2.2.1⟩,?_⟩⟩⟩;unfold bT;have h1:bM (zS (r.1.1.1,r.1.1.2.1,r.1.1.2.2.1,x.1.1,()))=true:=hr.2.2.1;have h2:dH x.1.1=true:=hx.2.2.2.1;rw[h1];exact h2
theorem JB:OK oL.e:=by refine XA.ok mixed (aA [AQ.e,pY.e] ⟨QN,zD,trivial⟩) H0 (λ_ _=>⟨(((Sp.usual,[],1,[],()),()),()),abb aa9⟩) (by kernel_rfl) (show∀code,oL.goal (JH code) (code,())from ?_);intro code hin hp;dsimp only[oL]at hp ⊢;exact⟨hp,λr hr=>⟨by rw[hr];decide,λx hx=>hx.2⟩⟩
theorem Pj:OK sG.e:=by refine XA.ok mixed (aA [xG.e,pY.e] ⟨VE,zD,trivial⟩) H0 (λ_ _=>⟨(((0,0,false,0,[],()),()),()),rfl⟩) (by kernel_rfl) (show∀code,sG.goal (PI code) (code,())from ?_);intro code hin hp;dsimp only[sG]at hp ⊢;exact⟨hp,λr hr=>⟨by rw[hr];decide,λx hx=>hx.2⟩⟩
theorem ND:OK qU.e:=by refine XA.ok mixed (aA [bQ.e,qC.e,pY.e] ⟨dw,Cc,zD,trivial⟩) H0 (λ_ _=>⟨((([],0,()),()),()),avc _⟩) (by kernel_rfl) (show∀code,qU.goal (NR code) (code,())from ?_);intro code hin hp;dsimp only[qU]at hp ⊢;exact⟨hp,λr hr=>⟨by rw[hr];decide,λx hx=>⟨hx.1,λy hy=>hx.2⟩⟩⟩
theorem ake{α:Type}{l:List α}{n:Nat}{a x:α}(h:x∈l.set n a):x∈l\/x=a:=by
 rcases axY h with h|h
 .exact .inl h
 .exact .inr h
theorem JA:OK oM.e:=by
 refine XA.ok mixed (aA [iV.e,bQ.e,nJ.e,vY.e,pY.e] ⟨jM,dw,Jh,Ug,zD,trivial⟩) KT (λ_ _=>⟨(([],()),()),⟨by decide,λx hx=>by cases hx⟩⟩) (by kernel_rfl) (show∀code,oM.goal (JI code) (code,())from ?_);intro code hin hp;dsimp only[oM]at hp ⊢;refine⟨hp,λr hr=>⟨by rw[hr];decide,λx hx=>⟨hx.2.1,λl hl=>⟨hx.1,λk hk=>⟨hk.1,λc hc=>?_⟩⟩⟩⟩⟩;obtain⟨h1,h2,h3⟩:=hx;obtain⟨e1,e2⟩:=afF h3;obtain⟨⟨l,⟨⟩⟩,⟨⟩⟩:=l;obtain⟨⟨k,⟨⟩⟩,kc,⟨⟩⟩:=k;have hl:l=Sp.enc x.1.1:=hl;rw[Bc h3]at hl;have hlen:l.length<=23/\0<l.length:=by rw[hl,am1];refine⟨e2,?_⟩;unfold yC;rw[auN,auQ];omega
 have hle:∀y∈l,y.1.length<=600:=λy hy=>by rw[hl]at hy;obtain⟨w,hw,rfl⟩:=av1.1 hy;exact(e1 w hw).1
 dsimp only at hk ⊢;have hk0:0<=k/\k<(l.length:Int):=⟨hk.2.1,hk.2.2.1 (by omega)⟩;have hkn:k.toNat<l.length:=by omega
 have ew:IntKind.i64.wrap (k+1)=k+1:=wrap_in (by omega);have one:∀x:List UInt8×Unit,[x].length=1:=λ_=>rfl;rw[ew];have hc1:=hc.1;refine af (λ_=>⟨⟨by omega,by omega⟩,?_⟩) λ_=>af (λ_=>⟨hk0,hkn,⟨hc1,by simp⟩,λw hw=>⟨bP ?_,hk0,hkn,?_⟩⟩) λ_=>af (λ_=>⟨⟨hc1,by simp⟩,λw hw=>⟨hk0,hkn,?_⟩⟩) λ_=>af (λ_=>⟨hk0,hkn,lX (by rw[one];omega),?_⟩) λ_=>?_
 .refine⟨lX (by simp only[avl,auY];omega),⟨by omega,by omega⟩,lX (by simp only[avl,auY];omega),?_,λy hy=>?_⟩
  .show(List.drop 0 (List.take k.toNat l)++List.drop (k+1).toNat (List.take l.length l)).length<=100;simp only[auN,avl,auY];omega
  .have hy:y∈List.drop 0 (List.take k.toNat l)++List.drop (k+1).toNat (List.take l.length l):=hy;rcases avf.1 hy with hy|hy
   .exact auU (hle y (awq (av8 hy))) (by decide)
   .exact auU (hle y (awq (av8 hy))) (by decide)
 .have h4:=hle _ (getD_in (d:=([],())) hkn);have h5:w.1.1.length<=2:=(show∀y∈([([32],()),([32,49],()),([120],())]:List (List UInt8×Unit)),y.1.length<=2 from by decide) _ hw.2;omega
 .have h4:=hle _ (getD_in (d:=([],())) hkn);have h5:w.1.1.length<=2:=(show∀y∈([([32],()),([32,49],()),([120],())]:List (List UInt8×Unit)),y.1.length<=2 from by decide) _ hw.2;refine⟨by show(List.set _ _ _).length<=100;rw[avn];omega,λy hy=>?_⟩;rcases ake hy with hy|rfl
  .exact auU (hle y hy) (by decide)
  .show((l.getD k.toNat ([],())).1++w.1.1:List UInt8).length<=1000;rw[auN];omega
 .have h5:w.1.1.length<=12:=(show∀y∈([([],()),([110,101,120,116,32,49],()),([102,105,108,101,32,49,32,48,32,111,32,48],()),([100,105,114,32,122,122,32,97,108,108],()),([102,105,101,108,100,32,122,32,105,110,116],()),([119,97,108,107],())]:List (List UInt8×Unit)),y.1.length<=12 from by decide) _ hw.2;refine⟨by show(List.set _ _ _).length<=100;rw[avn];omega,λy hy=>?_⟩;rcases ake hy with hy|rfl
  .exact auU (hle y hy) (by decide)
  .show w.1.1.length<=1000;omega
 .refine⟨by show(l++[_]).length<=100;rw[auN,one];omega,λy hy=>?_⟩;have hy:y∈l++[l.getD k.toNat ([],())]:=hy;rcases avf.1 hy with hy|hy
  .exact auU (hle y hy) (by decide)
  .rw[avg.1 hy];exact auU (hle _ (getD_in (d:=([],())) hkn)) (by decide)
 .exact⟨by show l.length<=100;omega,λy hy=>auU (hle y hy) (by decide)⟩
theorem Jz:OK oN.e:=by refine XA.ok mixed (aA [nZ.e,AQ.e,pY.e] ⟨Cb,QN,zD,trivial⟩) KU (λ_ _=>⟨(((Sp.usual,[],1,[],()),(Sp.usual,[],1,[],()),()),()),trivial⟩) (by kernel_rfl) (show∀code,oN.goal (JJ code) (code,())from ?_);intro code hin hp;dsimp only[oN]at hp ⊢;exact⟨hp,λr hr=>⟨by rw[hr];decide,λx hx=>⟨hx.1,λy hy=>af (λ_=>trivial) λ_=>⟨by have hy:0<=y.2.1.2.1:=hy;exact hy,λz hz=>trivial⟩⟩⟩⟩
end Go.Proofs.Tryz
namespace Go.Proofs.Tryz
open Go Go.Fw Go.RowKit Sp
set_option maxRecDepth 100000
theorem lV{h:Array Obj}{S:Nat->Prop}{e:TypeId}{r:au}{v:Value}{l:List r.den}(H:dh h S (.sl e r) v l):∃a c,v=.slice a l.length c:=by
 rcases H.2 with⟨rfl,a,c,e⟩|⟨b,off,cap,cs,t,fz,e,_⟩
 .exact⟨a,c,e⟩
 .exact⟨_,_,e⟩
theorem GK(c:UInt8)(hc32:c=32\/c=10)(s:List UInt8)(hs:s.length<=1048576)(w:World)(hG:G.ok w):Calls prog 86 #[.string ⟨s.toArray⟩,.string ⟨#[c]⟩] w λe w'=>
 ∃v,e=.returned v/\FW w'.heap.size w' v (Sp.pieces c s)/\Below w.heap.size w w':=by
 have hc:fG prog G 86 (iw Ae Dy NU):=aal;refine(hc [.sv (.one (.str s)),.sv (.one (.str [c]))] (s.length<=4294960000/\(([c]:List UInt8)=[32]\/([c]:List UInt8)=[10])) _ 0 (λ_=>True) #[.string ⟨s.toArray⟩,.string ⟨#[c]⟩] w rfl ⟨by omega,hc32.imp (λe=>by rw[e]) λe=>by rw[e]⟩ hG ⟨⟨rfl,by rw[maxLen_eq];omega⟩,⟨rfl,by rw[maxLen_eq];show 1<=_;decide⟩,trivial⟩).mono ?_;rintro e w' ⟨v,vals,rfl,h1,h2,h3,h4,h5,h6,_,_⟩;have ha:dh w'.heap _ (.sl aU dK) v (Sp.pieces c s):=h6;refine⟨v,rfl,⟨ha.1,?_⟩,h1,h2,h3,h4,h5⟩;rcases ha.2 with h|⟨b,off,cap,cs,t,fz,e1,e2,e3,e4,e5⟩
 .exact .inl h
 .exact .inr ⟨b,off,cap,cs,t,fz,e1,e2,e3.1.1,e4,λi x hx=>aI.flat (S:=_) _ _ _ rfl (e5 i x hx)⟩
theorem apF(s:List UInt8)(hs:s.length<=1048576)(w:World)(hG:G.ok w):Calls prog 87 #[.string ⟨s.toArray⟩] w λe w'=>
 e=.returned (.tuple #[.int .i64 (Sp.parseNum s),.bool (aY s)])/\Below w.heap.size w w':=by
 have hc:fG prog G 87 (iw yI Cj LH):=DF;refine(hc [.sv (.one (.str s))] True _ 0 (λ_=>True) #[.string ⟨s.toArray⟩] w rfl trivial hG ⟨⟨rfl,by rw[maxLen_eq];omega⟩,trivial⟩).mono ?_;rintro e w' ⟨v,vals,rfl,h1,h2,h3,h4,h5,h6,_,_⟩;obtain⟨vs,rfl,h7⟩:=h6;obtain⟨l⟩:=vs
 match l,h7 with
 |[x,y],h7=>obtain⟨hx,hy,_⟩:=h7;have hx:x=.int .i64 (Sp.parseNum s):=hx.1;have hy:y=.bool (aY s):=hy;rw[hx,hy];exact⟨rfl,h1,h2,h3,h4,h5⟩
theorem xQ{w:World}{v:Value}{f:Sp.LS}(h:FW w.heap.size w v f):oG ⟨w,w.heap.size,λ_=>True,λ_=>undef,λ_=>none⟩ (.sv (.one (.sl aU dK f false))) v:=
 dh.mono (S':=V.cO ⟨w,w.heap.size,λ_=>True,λ_=>undef,λ_=>none⟩ false) (h':=w.heap) (λb hb=>⟨⟨⟨hb,λ_=>trivial,λo x hx=>by cases hx⟩,λe=>by cases e⟩,rfl⟩) _ _ _ h
theorem apG(v:Value)(f:Sp.LS)(w:World)(hv:FW w.heap.size w v f)(hf:f.length<=1000)(hx:∀x∈f,x.1.length<=1048576)(hG:G.ok w):Calls prog 106 #[v] w λe w'=>
 ∃a c,e=.returned (.tuple #[.agg #[.int .i64 (jv f).1.1,.int .i64 (jv f).1.2.1,.bool (jv f).1.2.2.1,.int .i64 (jv f).1.2.2.2.1,.slice a (jv f).1.2.2.2.2.1.length c],.bool (jv f).2])/\Below w.heap.size w w'/\
  dh w'.heap (λb=>w.heap.size<=b/\b<w'.heap.size) (.sl dJ dY) (.slice a (jv f).1.2.2.2.2.1.length c) (jv f).1.2.2.2.2.1/\uy (jv f).1.1/\uy (jv f).1.2.1/\uy (jv f).1.2.2.2.1:=by
 have hcon:fG prog G 106 (iw wM.sh wM.bI wM.F):=aeH.1;refine(hcon [.sv (.one (.sl aU dK f false))] (f.length<=1000/\(∀x∈f,x.1.length<=1048576)) _ 0 (λ_=>True) #[v] w rfl ⟨hf,hx⟩ hG ⟨xQ hv,trivial⟩).mono ?_;rintro e w' ⟨v,vals,rfl,h1,h2,h3,h4,h5,h6,_,_⟩;obtain⟨vs,rfl,h7⟩:=h6;obtain⟨l⟩:=vs
 match l,h7 with
 |[x,y],h7=>
  obtain⟨⟨us,rfl,h8⟩,hy,_⟩:=h7;have hy:y=.bool (jv f).2:=hy;obtain⟨ul⟩:=us
  match ul,h8 with
  |[a1,a2,a3,a4,a5],h8=>obtain⟨b1,b2,b3,b4,b5,_⟩:=h8;have b3:a3=.bool (jv f).1.2.2.1:=b3;have b5:dh w'.heap _ (.sl dJ dY) a5 (jv f).1.2.2.2.2.1:=b5;obtain⟨a,c,e5⟩:=lV b5;rw[e5]at b5;rw[hy,b1.1,b2.1,b3,b4.1,e5];exact⟨a,c,rfl,⟨h1,h2,h3,h4,h5⟩,dh.mono (λb hb=>⟨⟨hb.2 rfl,hb.1.1⟩,rfl⟩) _ _ _ b5,b1.2,b2.2,b4.2⟩
theorem apH(v:Value)(f:Sp.LS)(w:World)(hv:FW w.heap.size w v f)(hf:f.length<=1000)(hj:(gm f).length<=1048576)(hG:G.ok w):Calls prog 74 #[v,.string ⟨#[32]⟩] w λe w'=>
 e=.returned (.string ⟨(gm f).toArray⟩)/\Below w.heap.size w w':=by
 have hcon:fG prog G 74 (iw BR EH PX):=Gi;refine(hcon [.sv (.one (.sl aU dK f false)),.sv (.one (.str [32]))] (f.length<=140737488355328/\(Lib.join (f.map (·.1)) [32]).length<=140737488355328) _ 0 (λ_=>True) #[v,.string ⟨#[32]⟩] w rfl ⟨by omega,by have:(Lib.join (f.map (·.1)) [32]).length<=1048576:=hj;omega⟩ hG ⟨xQ hv,⟨rfl,by rw[maxLen_eq];decide⟩,trivial⟩).mono ?_;rintro e w' ⟨v,vals,rfl,h1,h2,h3,h4,h5,h6,_,_⟩;have h6:v=.string ⟨(gm f).toArray⟩/\_:=h6;rw[h6.1];exact⟨rfl,h1,h2,h3,h4,h5⟩
theorem apI(s:List UInt8)(hs:s.length<=1048576)(w:World)(hG:G.ok w):Calls prog 107 #[.string ⟨s.toArray⟩] w λe w'=>
 ∃a c,e=.returned (.tuple #[.slice a (fM s).length c,.bool (gq s)])/\Below w.heap.size w w'/\dh w'.heap (λb=>w.heap.size<=b/\b<w'.heap.size) (.sl aF bg) (.slice a (fM s).length c) (fM s):=by
 have hcon:fG prog G 107 (iw xE BD JV):=XF;refine(hcon [.sv (.one (.str s))] (s.length<=1048576) _ 0 (λ_=>True) #[.string ⟨s.toArray⟩] w rfl hs hG ⟨⟨rfl,by rw[maxLen_eq];omega⟩,trivial⟩).mono ?_;rintro e w' ⟨v,vals,rfl,h1,h2,h3,h4,h5,h6,_,_⟩;obtain⟨vs,rfl,h7⟩:=h6;obtain⟨l⟩:=vs
 match l,h7 with
 |[x,y],h7=>obtain⟨hx,hy,_⟩:=h7;have hx:dh w'.heap _ (.sl aF bg) x (fM s):=hx;have hy:y=.bool (gq s):=hy;obtain⟨a,c,ex⟩:=lV hx;rw[ex]at hx;rw[hy,ex];exact⟨a,c,rfl,⟨h1,h2,h3,h4,h5⟩,dh.mono (λb hb=>⟨⟨hb.2 rfl,hb.1.1⟩,rfl⟩) _ _ _ hx⟩
end Go.Proofs.Tryz
namespace Go.Proofs.Tryz
open Go Go.Fw Go.RowKit Sp
set_option maxRecDepth 100000
def OL(w:World)(B:Nat)(F:Nat->Prop)(e:TypeId)(r:au)(v:Value)(l:List r.den):Prop:=
 ∃xs,w.ownsRow B e r.len v l.length xs/\∀i x,l[i]? =some x->aI w.heap F r ((xs.drop (i*r.len)).take r.len) x
structure Sn(B:Nat)(w:World)(va vl vd:Value)(x:aZ)(F:Nat->Prop):Prop where
 fa:OL w B F 54 bK va x.1
 fl:OL w B F 51 dI vl x.2.1
 fd:OL w B F 93 dA vd x.2.2.2.1
 nx:uy x.2.2.1
 ne:∀g,(va.ownBlock=some g->vl.ownBlock≠some g/\vd.ownBlock≠some g)/\(vl.ownBlock=some g->vd.ownBlock≠some g)
 foot:∀b,F b->B<=b/\b<w.heap.size/\va.ownBlock≠some b/\vl.ownBlock≠some b/\vd.ownBlock≠some b
theorem OL.keep{w w':World}{B:Nat}{F:Nat->Prop}{e:TypeId}{r:au}{v:Value}{l:List r.den}(h:OL w B F e r v l)(hk:∀b,v.ownBlock=some b->w'.heap[b]? =w.heap[b]?)(hF:∀b,F b->w'.heap[b]? =w.heap[b]?):OL w' B F e r v l:=by obtain⟨xs,h1,h2⟩:=h;exact⟨xs,vI h1 hk,λi x hx=>aI.mono (λb hb=>⟨hb,hF b hb⟩) _ _ _ (h2 i x hx)⟩
theorem OL.mono{w:World}{B:Nat}{F F':Nat->Prop}{e:TypeId}{r:au}{v:Value}{l:List r.den}(h:OL w B F e r v l)(hF:∀b,F b->F' b):OL w B F' e r v l:=by obtain⟨xs,h1,h2⟩:=h;exact⟨xs,h1,λi x hx=>aI.mono (λb hb=>⟨hF b hb,rfl⟩) _ _ _ (h2 i x hx)⟩
theorem OL.lt{w:World}{B:Nat}{F:Nat->Prop}{e:TypeId}{r:au}{v:Value}{l:List r.den}(h:OL w B F e r v l){g:Nat}(hg:v.ownBlock=some g):B<=g/\g<w.heap.size:=by obtain⟨xs,h1,_⟩:=h;exact h1.lt g hg
theorem OL.form{w:World}{B:Nat}{F:Nat->Prop}{e:TypeId}{r:au}{v:Value}{l:List r.den}(h:OL w B F e r v l):∃a c,v=.slice a l.length c:=by
 obtain⟨xs,h1,_⟩:=h;rcases h1.2 with⟨e1,e2⟩|⟨g,cap,cur,e1,_⟩
 .exact⟨none,0,by rw[e1,e2]⟩
 .exact⟨_,_,e1⟩
theorem OL.nil{w:World}{B:Nat}{F:Nat->Prop}{e:TypeId}{r:au}:OL w B F e r (.slice none 0 0) []:=⟨[],awV _ _ _ _,λi x hx=>by simp at hx⟩
theorem OL.rep{w:World}{B:Nat}{F S:Nat->Prop}{e:TypeId}{r:au}{v:Value}{l:List r.den}(h:OL w B F e r v l)(hr:0<r.len)(hS:∀b,F b\/v.ownBlock=some b->S b):dh w.heap S (.sl e r) v l:=by
 obtain⟨xs,h1,h2⟩:=h;rcases h1.2 with⟨e1,e2⟩|⟨g,cap,cur,e1,e2,e3,e4,e5,e6,e7⟩
 .exact⟨by rw[e2];exact avc _,.inl ⟨avH.1 e2,none,0,e1⟩⟩
 .refine⟨auU e4 e5,.inr ⟨g,0,cap,cur,e,(0,0),e1,e4,hS g (.inr (by rw[e1];rfl)),e3,λi x hx=>?_⟩⟩;have hi:=(au5.1 hx).1;have:=h2 i x hx;have hmul:(i+1)*r.len<=l.length*r.len:=ave _ hi;rw[avw,axP]at hmul;rw[← e7,axM,axr,axk (by omega)]at this;rw[avm];exact aI.mono (λb hb=>⟨hS b (.inl hb),rfl⟩) _ _ _ this
theorem aof{xs ys:List Value}{n z j:Nat}(h:xs.length=n*z)(hj:j<n):((xs++ys).drop (j*z)).take z=(xs.drop (j*z)).take z:=by have:(j+1)*z<=n*z:=ave _ hj;rw[avw,axP]at this;rw[awl (by omega),awK (by rw[avl];omega)]
theorem OL.push{w w':World}{B:Nat}{F F':Nat->Prop}{e:TypeId}{r:au}{v':Value}{l:List r.den}{x:r.den}{xs ys:List Value}(h2:∀i x,l[i]? =some x->aI w.heap F r ((xs.drop (i*r.len)).take r.len) x)(hl:xs.length=l.length*r.len)
 (ho:w'.ownsRow B e r.len v' (l.length+1) (xs++ys)) (hk:∀b,F b->F' b/\w'.heap[b]? =w.heap[b]?) (hx:aI w'.heap F' r ys x):OL w' B F' e r v' (l++[x]):=by
 refine⟨xs++ys,by rw[auN];exact ho,λi y hi=>?_⟩;rcases avb i l.length with hi'|hi'
 .rw[avA hi']at hi;rw[aof hl hi'];exact aI.mono hk _ _ _ (h2 i y hi)
 .rw[avq hi']at hi;have e0:i=l.length:=by have:=(au5.1 hi).1;simp at this;omega
  subst e0;rw[aw9]at hi;cases hi;have hy:=aI.length _ _ _ hx;rw[← hl,axN,← hy,av7];exact hx
theorem Sn.below{B:Nat}{w w':World}{va vl vd:Value}{x:aZ}{F:Nat->Prop}(h:Sn B w va vl vd x F)(k:Below w.heap.size w w'):Sn B w' va vl vd x F:=by have hf:∀b,F b->w'.heap[b]? =w.heap[b]? :=λb hb=>k.block b (h.foot b hb).2.1;exact⟨h.fa.keep (λb hb=>k.block b (h.fa.lt hb).2) hf,h.fl.keep (λb hb=>k.block b (h.fl.lt hb).2) hf,h.fd.keep (λb hb=>k.block b (h.fd.lt hb).2) hf,h.nx,h.ne,λb hb=>⟨(h.foot b hb).1,avh (h.foot b hb).2.1 k.size,(h.foot b hb).2.2⟩⟩
theorem Sn.keep{B:Nat}{w w':World}{va vl vd:Value}{x:aZ}{F:Nat->Prop}(h:Sn B w va vl vd x F)(hs:w.heap.size<=w'.heap.size)(k:∀b,B<=b->b<w.heap.size->w'.heap[b]? =w.heap[b]?):Sn B w' va vl vd x F:=by have hf:∀b,F b->w'.heap[b]? =w.heap[b]? :=λb hb=>k b (h.foot b hb).1 (h.foot b hb).2.1;exact⟨h.fa.keep (λb hb=>k b (h.fa.lt hb).1 (h.fa.lt hb).2) hf,h.fl.keep (λb hb=>k b (h.fl.lt hb).1 (h.fl.lt hb).2) hf,h.fd.keep (λb hb=>k b (h.fd.lt hb).1 (h.fd.lt hb).2) hf,h.nx,h.ne,λb hb=>⟨(h.foot b hb).1,avh (h.foot b hb).2.1 hs,(h.foot b hb).2.2⟩⟩
theorem Sn.agM{B:Nat}{w w0 w5:World}{va vl vd:Value}{x:aZ}{F N:Nat->Prop}(h:Sn B w va vl vd x F)(hB:B<=w.heap.size)(hb:Below w.heap.size w w0){y:dR}{xs ys:List Value}(hown:w.ownsRow B 54 2 va x.1.length xs)
 (hrep:∀i z,x.1[i]? =some z->aI w.heap F bK ((xs.drop (i*2)).take 2) z) {g cap:Nat} (h5:w5.ownsRow B 54 2 (.slice (some ⟨g,0,none⟩) (x.1.length+1) cap) (x.1.length+1) (xs++ys)) (hg:w0.grownBy w5 va.ownBlock) (hat:va.ownBlock=some g\/g=w0.heap.size) (hlt:g<w5.heap.size)
 (hN:∀b,N b->w.heap.size<=b/\b<w0.heap.size) (hx:aI w0.heap N bK ys y):Sn B w5 (.slice (some ⟨g,0,none⟩) (x.1.length+1) cap) vl vd (x.1++[y],x.2.1,x.2.2.1,x.2.2.2.1,()) (λb=>F b\/N b):=by
 have hs0:=hb.size;have hs5:=hg.size;have same:∀b,b<w.heap.size->va.ownBlock≠some b->w5.heap[b]? =w.heap[b]? :=λb hlb hnb=>(hg.block b (avh hlb hs0) (λe=>hnb e.symm)).trans (hb.block b hlb);have hF:∀b,F b->w5.heap[b]? =w.heap[b]? :=λb hb2=>same b (h.foot b hb2).2.1 (h.foot b hb2).2.2.1;have own:∀b,va.ownBlock=some b->b<w.heap.size:=λb e=>(h.fa.lt e).2;have o1:∀b,vl.ownBlock=some b->b<w.heap.size/\va.ownBlock≠some b/\g≠b:=λb e=>by
  have hl:=(h.fl.lt e).2;have hn:va.ownBlock≠some b:=λe2=>((h.ne b).1 e2).1 e;refine⟨hl,hn,λe2=>?_⟩;subst e2;rcases hat with e3|e3
  .exact hn e3
  .omega
 have o2:∀b,vd.ownBlock=some b->b<w.heap.size/\va.ownBlock≠some b/\g≠b:=λb e=>by
  have hl:=(h.fd.lt e).2;have hn:va.ownBlock≠some b:=λe2=>((h.ne b).1 e2).2 e;refine⟨hl,hn,λe2=>?_⟩;subst e2;rcases hat with e3|e3
  .exact hn e3
  .omega
 refine⟨OL.push (r:=bK) hrep hown.1 h5 (λb hb2=>⟨.inl hb2,hF b hb2⟩) (aI.mono (λb hb2=>⟨.inr hb2,hg.block b (hN b hb2).2 λe=>by have:=own b e.symm;have:=(hN b hb2).1;omega⟩) _ _ _ hx),(h.fl.keep (λb e=>same b (o1 b e).1 (o1 b e).2.1) hF).mono λb hb2=>.inl hb2,(h.fd.keep (λb e=>same b (o2 b e).1 (o2 b e).2.1) hF).mono λb hb2=>.inl hb2,h.nx,λb=>⟨λe=>?_,λe=>?_⟩,λb hb2=>?_⟩
 .obtain rfl:g=b:=Option.some.inj e;exact⟨λe2=>(o1 g e2).2.2 rfl,λe2=>(o2 g e2).2.2 rfl⟩
 .exact(h.ne b).2 e
 rcases hb2 with hb2|hb2
 .obtain⟨f1,f2,f3,f4,f5⟩:=h.foot b hb2;exact⟨f1,by omega,λe=>by
   obtain rfl:g=b:=Option.some.inj e;rcases hat with e3|e3
   .exact f3 e3
   .omega,
   f4,
   f5⟩
 .obtain⟨f1,f2⟩:=hN b hb2;exact⟨by omega,by omega,λe=>by
   obtain rfl:g=b:=Option.some.inj e;rcases hat with e3|e3
   .have:=own g e3;omega
   .omega,
   λe=>by have:=(o1 b e).1;omega,
   λe=>by have:=(o2 b e).1;omega⟩
theorem Sn.aoV{B:Nat}{w w0 w5:World}{va vl vd:Value}{x:aZ}{F N:Nat->Prop}(h:Sn B w va vl vd x F)(hB:B<=w.heap.size)(hb:Below w.heap.size w w0){y:aS}{xs ys:List Value}(hown:w.ownsRow B 51 5 vl x.2.1.length xs)
 (hrep:∀i z,x.2.1[i]? =some z->aI w.heap F dI ((xs.drop (i*5)).take 5) z) {g cap:Nat} (h5:w5.ownsRow B 51 5 (.slice (some ⟨g,0,none⟩) (x.2.1.length+1) cap) (x.2.1.length+1) (xs++ys)) (hg:w0.grownBy w5 vl.ownBlock) (hat:vl.ownBlock=some g\/g=w0.heap.size) (hlt:g<w5.heap.size)
 (hN:∀b,N b->w.heap.size<=b/\b<w0.heap.size) (hx:aI w0.heap N dI ys y):Sn B w5 va (.slice (some ⟨g,0,none⟩) (x.2.1.length+1) cap) vd (x.1,x.2.1++[y],x.2.2.1,x.2.2.2.1,()) (λb=>F b\/N b):=by
 have hs0:=hb.size;have hs5:=hg.size;have same:∀b,b<w.heap.size->vl.ownBlock≠some b->w5.heap[b]? =w.heap[b]? :=λb hlb hnb=>(hg.block b (avh hlb hs0) (λe=>hnb e.symm)).trans (hb.block b hlb);have hF:∀b,F b->w5.heap[b]? =w.heap[b]? :=λb hb2=>same b (h.foot b hb2).2.1 (h.foot b hb2).2.2.2.1;have own:∀b,vl.ownBlock=some b->b<w.heap.size:=λb e=>(h.fl.lt e).2;have o1:∀b,va.ownBlock=some b->b<w.heap.size/\vl.ownBlock≠some b/\g≠b:=λb e=>by
  have hl:=(h.fa.lt e).2;have hn:vl.ownBlock≠some b:=λe2=>((h.ne b).1 e).1 e2;refine⟨hl,hn,λe2=>?_⟩;subst e2;rcases hat with e3|e3
  .exact hn e3
  .omega
 have o2:∀b,vd.ownBlock=some b->b<w.heap.size/\vl.ownBlock≠some b/\g≠b:=λb e=>by
  have hl:=(h.fd.lt e).2;have hn:vl.ownBlock≠some b:=λe2=>(h.ne b).2 e2 e;refine⟨hl,hn,λe2=>?_⟩;subst e2;rcases hat with e3|e3
  .exact hn e3
  .omega
 refine⟨(h.fa.keep (λb e=>same b (o1 b e).1 (o1 b e).2.1) hF).mono λb hb2=>.inl hb2,OL.push (r:=dI) hrep hown.1 h5 (λb hb2=>⟨.inl hb2,hF b hb2⟩) (aI.mono (λb hb2=>⟨.inr hb2,hg.block b (hN b hb2).2 λe=>by have:=own b e.symm;have:=(hN b hb2).1;omega⟩) _ _ _ hx),(h.fd.keep (λb e=>same b (o2 b e).1 (o2 b e).2.1) hF).mono λb hb2=>.inl hb2,h.nx,λb=>⟨λe=>?_,λe=>?_⟩,λb hb2=>?_⟩
 .exact⟨λe2=>(o1 b e).2.2 (Option.some.inj e2),((h.ne b).1 e).2⟩
 .obtain rfl:g=b:=Option.some.inj e;exactλe2=>(o2 g e2).2.2 rfl
 rcases hb2 with hb2|hb2
 .obtain⟨f1,f2,f3,f4,f5⟩:=h.foot b hb2;exact⟨f1,by omega,f3,
   λe=>by
   obtain rfl:g=b:=Option.some.inj e;rcases hat with e3|e3
   .exact f4 e3
   .omega,
   f5⟩
 .obtain⟨f1,f2⟩:=hN b hb2;exact⟨by omega,by omega,λe=>by have:=(o1 b e).1;omega,
   λe=>by
   obtain rfl:g=b:=Option.some.inj e;rcases hat with e3|e3
   .have:=own g e3;omega
   .omega,
   λe=>by have:=(o2 b e).1;omega⟩
theorem Sn.alh{B:Nat}{w w0 w5:World}{va vl vd:Value}{x:aZ}{F N:Nat->Prop}(h:Sn B w va vl vd x F)(hB:B<=w.heap.size)(hb:Below w.heap.size w w0){y:bD}{xs ys:List Value}(hown:w.ownsRow B 93 2 vd x.2.2.2.1.length xs)
 (hrep:∀i z,x.2.2.2.1[i]? =some z->aI w.heap F dA ((xs.drop (i*2)).take 2) z) {g cap:Nat} (h5:w5.ownsRow B 93 2 (.slice (some ⟨g,0,none⟩) (x.2.2.2.1.length+1) cap) (x.2.2.2.1.length+1) (xs++ys)) (hg:w0.grownBy w5 vd.ownBlock) (hat:vd.ownBlock=some g\/g=w0.heap.size) (hlt:g<w5.heap.size)
 (hN:∀b,N b->w.heap.size<=b/\b<w0.heap.size) (hx:aI w0.heap N dA ys y):Sn B w5 va vl (.slice (some ⟨g,0,none⟩) (x.2.2.2.1.length+1) cap) (x.1,x.2.1,x.2.2.1,x.2.2.2.1++[y],()) (λb=>F b\/N b):=by
 have hs0:=hb.size;have hs5:=hg.size;have same:∀b,b<w.heap.size->vd.ownBlock≠some b->w5.heap[b]? =w.heap[b]? :=λb hlb hnb=>(hg.block b (avh hlb hs0) (λe=>hnb e.symm)).trans (hb.block b hlb);have hF:∀b,F b->w5.heap[b]? =w.heap[b]? :=λb hb2=>same b (h.foot b hb2).2.1 (h.foot b hb2).2.2.2.2;have own:∀b,vd.ownBlock=some b->b<w.heap.size:=λb e=>(h.fd.lt e).2;have o1:∀b,va.ownBlock=some b->b<w.heap.size/\vd.ownBlock≠some b/\g≠b:=λb e=>by
  have hl:=(h.fa.lt e).2;have hn:vd.ownBlock≠some b:=λe2=>((h.ne b).1 e).2 e2;refine⟨hl,hn,λe2=>?_⟩;subst e2;rcases hat with e3|e3
  .exact hn e3
  .omega
 have o2:∀b,vl.ownBlock=some b->b<w.heap.size/\vd.ownBlock≠some b/\g≠b:=λb e=>by
  have hl:=(h.fl.lt e).2;have hn:vd.ownBlock≠some b:=λe2=>(h.ne b).2 e e2;refine⟨hl,hn,λe2=>?_⟩;subst e2;rcases hat with e3|e3
  .exact hn e3
  .omega
 refine⟨(h.fa.keep (λb e=>same b (o1 b e).1 (o1 b e).2.1) hF).mono λb hb2=>.inl hb2,(h.fl.keep (λb e=>same b (o2 b e).1 (o2 b e).2.1) hF).mono λb hb2=>.inl hb2,OL.push (r:=dA) hrep hown.1 h5 (λb hb2=>⟨.inl hb2,hF b hb2⟩) (aI.mono (λb hb2=>⟨.inr hb2,hg.block b (hN b hb2).2 λe=>by have:=own b e.symm;have:=(hN b hb2).1;omega⟩) _ _ _ hx),h.nx,λb=>⟨λe=>?_,λe=>?_⟩,λb hb2=>?_⟩
 .exact⟨((h.ne b).1 e).1,λe2=>(o1 b e).2.2 (Option.some.inj e2)⟩
 .exactλe2=>(o2 b e).2.2 (Option.some.inj e2)
 rcases hb2 with hb2|hb2
 .obtain⟨f1,f2,f3,f4,f5⟩:=h.foot b hb2;exact⟨f1,by omega,f3,
   f4,
   λe=>by
   obtain rfl:g=b:=Option.some.inj e;rcases hat with e3|e3
   .exact f5 e3
   .omega⟩
 .obtain⟨f1,f2⟩:=hN b hb2;exact⟨by omega,by omega,λe=>by have:=(o1 b e).1;omega,
   λe=>by have:=(o2 b e).1;omega,
   λe=>by
   obtain rfl:g=b:=Option.some.inj e;rcases hat with e3|e3
   .have:=own g e3;omega
   .omega⟩
end Go.Proofs.Tryz
namespace Go.Proofs.Tryz
open Go Go.Fw Go.RowKit Sp
set_option maxRecDepth 100000
theorem FW.cell{B:Nat}{w:World}{a:Option Addr}{c:Nat}{f:Sp.LS}(h:FW B w (.slice a f.length c) f){n:Nat}(hn:n<f.length):∃b off,a=some ⟨b,off,none⟩/\b<B/\w.cell? ⟨b,off+n,none⟩=some (.string ⟨(f.getD n ([],())).1.toArray⟩):=by
 rcases h.2 with⟨rfl,_⟩|⟨b,off,cap,cs,t,fz,e,e2,e3,e4,e5⟩
 .exact absurd hn (avR _)
 .injection e with ea;refine⟨b,off,ea,e3,?_⟩;have hx:f[n]? =some (f.getD n ([],())):=by rw[auS,auX hn];rfl
  generalize f.getD n ([],())=x at hx ⊢;obtain⟨u,us,e6,⟨e7,_⟩,_⟩:=e5 n x hx;rw[aN e4,← e7];have h0:=congrArg (λl=>l[0]?) e6;have h0:((cs.toList.drop (off+n*1)).take 1)[0]? =some u:=h0;simpa[avr,avs]using h0
def Xc:Value:=.agg #[.string ⟨#[]⟩,.int .i64 0]
def ah7:Value:=.agg #[.int .i64 0,.int .i64 0,.bool false,.int .i64 0,.slice none 0 0]
def acA:Value:=.agg #[.string ⟨#[]⟩,.slice none 0 0]
theorem ah2:(prog.info? 54).map (λi=>(i.zero,i.size,i.bytes))=some (some Xc,2,24):=by kernel_rfl
theorem amL:(prog.info? 51).map (λi=>(i.zero,i.size,i.bytes))=some (some ah7,5,56):=by kernel_rfl
theorem ah3:(prog.info? 93).map (λi=>(i.zero,i.size,i.bytes))=some (some acA,2,40):=by kernel_rfl
structure Kp(B P:Nat)(W w:World):Prop where
 os:w.os=W.os
 tape:w.tape=W.tape
 output:w.output=W.output
 size:W.heap.size<=w.heap.size
 block:∀b,b<B->b≠P->w.heap[b]? =W.heap[b]?
theorem Kp.below{B P:Nat}{W w w':World}(hB:B<=W.heap.size)(h:Kp B P W w)(k:Below w.heap.size w w'):Kp B P W w':=
 ⟨k.os.trans h.os,k.tape.trans h.tape,k.output.trans h.output,auU h.size k.size,λb hb hn=>(k.block b (by have:=h.size;omega)).trans (h.block b hb hn)⟩
theorem Kp.set{B P:Nat}{W w:World}(h:Kp B P W w){k:Nat}{v:Value}:Kp B P W (w.setCell ⟨P,k,none⟩ v):=
 ⟨h.os,h.tape,h.output,by simpa[World.setCell]using h.size,λb hb hn=>(ng v hn).trans (h.block b hb hn)⟩
theorem Kp.grown{B P:Nat}{W w w':World}(hB:B<=W.heap.size)(h:Kp B P W w){o:Option Nat}(k:w.grownBy w' o)(ho:∀b,o=some b->B<=b):Kp B P W w':=
 ⟨k.os.trans h.os,k.tape.trans h.tape,k.output.trans h.output,auU h.size k.size,λb hb hn=>(k.block b (by have:=h.size;omega) λe=>by have:=ho b e.symm;omega).trans (h.block b hb hn)⟩
def Held(B P:Nat)(w:World)(x:aZ):Prop:=∃va vl vd F,w.heap[P]? =some (.cells #[va,vl,.int .i64 x.2.2.1,vd] 33 (0,0))/\Sn B w va vl vd x F
theorem four{w:World}{g:Nat}{x0 x1 x2 x3:Value}{t:TypeId}(h:w.heap[g]? =some (.cells #[x0,x1,x2,x3] t (0,0))):
 (w.cell? ⟨g,0,none⟩=some x0/\w.cell? ⟨g,1,none⟩=some x1/\w.cell? ⟨g,2,none⟩=some x2/\w.cell? ⟨g,3,none⟩=some x3)/\w.frozen? ⟨g,0,none⟩=false/\w.frozen? ⟨g,1,none⟩=false/\w.frozen? ⟨g,2,none⟩=false/\w.frozen? ⟨g,3,none⟩=false:=
 ⟨⟨aN h 0,aN h 1,aN h 2,aN h 3⟩,dN h 0,dN h 1,dN h 2,dN h 3⟩
theorem Held.below{B P:Nat}{w w':World}{x:aZ}(h:Held B P w x)(k:Below w.heap.size w w'):Held B P w' x:=by obtain⟨va,vl,vd,F,h1,h2⟩:=h;exact⟨va,vl,vd,F,(k.block P (auV.1 h1).1).trans h1,h2.below k⟩
theorem Kp.of{B P:Nat}{W w:World}(hB:B<=W.heap.size)(k:Below W.heap.size W w):Kp B P W w:=⟨k.os,k.tape,k.output,k.size,λb hb _=>k.block b (by omega)⟩
set_option maxHeartbeats 16000000 in
theorem apJ(B P:Nat)(W:World)(x:aZ)(x0:List UInt8)(r:Sp.LS)(line:List UInt8)(hl:line.length<=1000)(hf:Sp.pieces 32 line=(x0,())::r)(hG:G.ok W)(hS:Held B P W x)(hB:B<=W.heap.size)
 (h1:¬x0=[102,105,101,108,100]\/((r.length:Int)+1==3)=false) (h2:¬x0=[110,101,120,116]\/((r.length:Int)+1==2)=false) (h3:¬x0=[102,105,108,101]) (h4:¬x0=[100,105,114]\/¬(2:Int)<(r.length:Int)+1):
 Calls prog 60 #[.pointer (some ⟨P,0,none⟩),.string ⟨line.toArray⟩] W λe w'=>e=.returned (.bool false)/\Held B P w' x/\Kp B P W w':=by
 have mixed:=Tryz.mixed;have sp:=GK 32 (.inl rfl) line (by omega) W hG;rw[hf]at sp;clear hf;by_cases k1:x0=[102,105,101,108,100]
 .subst k1;have hn:((r.length:Int)+1==3)=false:=h1.elim (λh=>absurd rfl h) id;clear h1 h2 h3 h4
  go_enter Tryz.func60,Tryz.ntmps60
  go_wp2_with (first
   |(go_at_call 86;refine avk sp ?_;rintro e w1 ⟨v1,rfl,hf1,hb1⟩;obtain⟨a1,c1,e1⟩:=lV hf1;have e1:v1=.slice a1 (r.length+1) c1:=e1;subst e1;obtain⟨b2,o2,e2,-,cw⟩:=FW.cell (a:=a1) (c:=c1) (f:=([102,105,101,108,100],())::r) hf1 (n:=0) (awi _);subst e2;have cw:w1.cell? ⟨b2,o2,none⟩=some (.string ⟨([102,105,101,108,100]:List UInt8).toArray⟩):=cw;clear sp))
  all_goals go_ret
  all_goals exact⟨rfl,hS.below hb1,Kp.of hB hb1⟩
 by_cases k2:x0=[110,101,120,116]
 .subst k2;have hn:((r.length:Int)+1==2)=false:=h2.elim (λh=>absurd rfl h) id;clear h1 h2 h3 h4
  go_enter Tryz.func60,Tryz.ntmps60
  go_wp2_with (first
   |(go_at_call 86;refine avk sp ?_;rintro e w1 ⟨v1,rfl,hf1,hb1⟩;obtain⟨a1,c1,e1⟩:=lV hf1;have e1:v1=.slice a1 (r.length+1) c1:=e1;subst e1;obtain⟨b2,o2,e2,-,cw⟩:=FW.cell (a:=a1) (c:=c1) (f:=([110,101,120,116],())::r) hf1 (n:=0) (awi _);subst e2;have cw:w1.cell? ⟨b2,o2,none⟩=some (.string ⟨([110,101,120,116]:List UInt8).toArray⟩):=cw;clear sp))
  all_goals go_ret
  all_goals exact⟨rfl,hS.below hb1,Kp.of hB hb1⟩
 by_cases k4:x0=[100,105,114]
 .subst k4;have hn:¬(2:Int)<(r.length:Int)+1:=h4.elim (λh=>absurd rfl h) id;clear h1 h2 h3 h4
  go_enter Tryz.func60,Tryz.ntmps60
  go_wp2_with (first
   |(go_at_call 86;refine avk sp ?_;rintro e w1 ⟨v1,rfl,hf1,hb1⟩;obtain⟨a1,c1,e1⟩:=lV hf1;have e1:v1=.slice a1 (r.length+1) c1:=e1;subst e1;obtain⟨b2,o2,e2,-,cw⟩:=FW.cell (a:=a1) (c:=c1) (f:=([100,105,114],())::r) hf1 (n:=0) (awi _);subst e2;have cw:w1.cell? ⟨b2,o2,none⟩=some (.string ⟨([100,105,114]:List UInt8).toArray⟩):=cw;clear sp))
  all_goals go_ret
  all_goals exact⟨rfl,hS.below hb1,Kp.of hB hb1⟩
 have g1:(x0==[102,105,101,108,100])=false:=auP.2 k1;have g2:(x0==[110,101,120,116])=false:=auP.2 k2;have g3:(x0==[102,105,108,101])=false:=auP.2 h3;have g4:(x0==[100,105,114])=false:=auP.2 k4;clear h1 h2 h4
 go_enter Tryz.func60,Tryz.ntmps60
 go_wp2_with (first
  |(go_at_call 86;refine avk sp ?_;rintro e w1 ⟨v1,rfl,hf1,hb1⟩;obtain⟨a1,c1,e1⟩:=lV hf1;have e1:v1=.slice a1 (r.length+1) c1:=e1;subst e1;obtain⟨b2,o2,e2,-,cw⟩:=FW.cell (a:=a1) (c:=c1) (f:=(x0,())::r) hf1 (n:=0) (awi _);subst e2;have cw:w1.cell? ⟨b2,o2,none⟩=some (.string ⟨(x0:List UInt8).toArray⟩):=cw;clear sp))
 all_goals go_ret
 all_goals exact⟨rfl,hS.below hb1,Kp.of hB hb1⟩
theorem Sn.next{B:Nat}{w:World}{va vl vd:Value}{x:aZ}{F:Nat->Prop}(h:Sn B w va vl vd x F){n:Int}(hn:uy n):Sn B w va vl vd (x.1,x.2.1,n,x.2.2.2.1,()) F:=⟨h.fa,h.fl,h.fd,hn,h.ne,h.foot⟩
theorem Sn.set{B P k:Nat}{w:World}{va vl vd v:Value}{x:aZ}{F:Nat->Prop}(h:Sn B w va vl vd x F)(hP:P<B):Sn B (w.setCell ⟨P,k,none⟩ v) va vl vd x F:=
 h.keep (by simp[World.setCell]) λb hb _=>ng v (by show b≠P;omega)
theorem QL(s:List UInt8):uy (Sp.parseNum s):=by have:=lS.1 (A7 s);exact⟨by omega,by omega⟩
set_option maxHeartbeats 16000000 in
theorem am2(B P:Nat)(W:World)(x:aZ)(y:List UInt8)(line:List UInt8)(hl:line.length<=1000)(hf:Sp.pieces 32 line=[(qA,()),(y,())])(hG:G.ok W)(hS:Held B P W x)(Q8:P<B)(hB:B<=W.heap.size):
 Calls prog 60 #[.pointer (some ⟨P,0,none⟩),.string ⟨line.toArray⟩] W λe w'=>e=.returned (.bool (aY y))/\Held B P w' (x.1,x.2.1,Sp.parseNum y,x.2.2.2.1,())/\Kp B P W w':=by
 have mixed:=Tryz.mixed;obtain⟨va,vl,vd,F,hP,xP⟩:=hS;have hPl:=(auV.1 hP).1;have sp:=GK 32 (.inl rfl) line (by omega) W hG;have hy:y.length<=1000:=auU (CU (c:=32) (s:=line) (y,()) (by rw[hf];simp)) hl;rw[hf]at sp;clear hf;unfold qA at sp;have pu:=λw hG=>apF y (by omega) w hG;have hno:=QL y;generalize Sp.parseNum y=n at pu hno ⊢;generalize aY y=ok at pu ⊢
 go_enter Tryz.func60,Tryz.ntmps60
 go_wp2_with (first
  |(go_at_call 86;refine avk sp ?_;rintro e w1 ⟨v1,rfl,hf1,hb1⟩;obtain⟨a1,c1,e1⟩:=lV hf1;have e1:v1=.slice a1 2 c1:=e1;subst e1;obtain⟨b2,o2,e2,-,cw⟩:=FW.cell (a:=a1) (c:=c1) (f:=[([110,101,120,116],()),(y,())]) hf1 (n:=0) (by simp);subst e2;have cw:w1.cell? ⟨b2,o2,none⟩=some (.string ⟨([110,101,120,116]:List UInt8).toArray⟩):=cw;obtain⟨b3,o3,e3,-,UZ⟩:=FW.cell (a:=some ⟨b2,o2,none⟩) (c:=c1) (f:=[([110,101,120,116],()),(y,())]) hf1 (n:=1) (by simp);cases e3;have UZ:w1.cell? ⟨b2,o2+1,none⟩=some (.string ⟨(y:List UInt8).toArray⟩):=UZ;clear sp)
  |(go_at_call 87;refine avk (pu w1 (bG hG hb1)) ?_;rintro e w2 ⟨rfl,hb2⟩;have lW:=hb1.trans (hb2.mono hb1.size);have hP2:=(lW.block P hPl).trans hP;obtain⟨⟨d0,d1,d2,d3⟩,z0,z1,z2,z3⟩:=four hP2))
 all_goals go_ret
 all_goals exact⟨rfl,⟨va,vl,vd,F,gG hP2 2 _,(((xP.below lW).next hno).set Q8)⟩,(Kp.of hB lW).set⟩
set_option maxHeartbeats 16000000 in
theorem alv(B P:Nat)(W:World)(x:aZ)(y k3:List UInt8)(line:List UInt8)(hl:line.length<=1000)(hf:Sp.pieces 32 line=[(gV,()),(y,()),(k3,())])(hG:G.ok W)(hS:Held B P W x)(Q8:P<B)(hB:B<=W.heap.size)(hz:x.1.length<=200):
 Calls prog 60 #[.pointer (some ⟨P,0,none⟩),.string ⟨line.toArray⟩] W λe w'=>e=.returned (.bool true)/\Held B P w' (x.1++[(y,(bif k3==sV then 2 else 1),())],x.2.1,x.2.2.1,x.2.2.2.1,())/\Kp B P W w':=by
 have mixed:=Tryz.mixed;obtain⟨va,vl,vd,F,hP,xP⟩:=hS;have hPl:=(auV.1 hP).1;have sp:=GK 32 (.inl rfl) line (by omega) W hG;have hy:y.length<=1000:=auU (CU (c:=32) (s:=line) (y,()) (by rw[hf];simp)) hl;rw[hf]at sp;clear hf;unfold gV at sp;obtain⟨i0,hi,hz0,hz1,hz2⟩:=awW ah2;have hqm:x.1.length+1<=maxLen:=by rw[maxLen_eq];omega
 have nG:(x.1.length+1)*24<=140737488355328:=by omega
 by_cases hk:k3=[115,116,114,105,110,103]
 .subst hk;rw[show(([115,116,114,105,110,103]:List UInt8)==sV)=true from rfl]
  go_enter Tryz.func60,Tryz.ntmps60
  go_wp2_with (first
   |(go_at_call 86;refine avk sp ?_;rintro e w1 ⟨v1,rfl,hf1,hb1⟩;obtain⟨a1,c1,e1⟩:=lV hf1;have e1:v1=.slice a1 3 c1:=e1;subst e1;obtain⟨b2,o2,e2,-,cw⟩:=FW.cell (a:=a1) (c:=c1) (f:=[([102,105,101,108,100],()),(y,()),([115,116,114,105,110,103],())]) hf1 (n:=0) (by simp);subst e2;have cw:w1.cell? ⟨b2,o2,none⟩=some (.string ⟨([102,105,101,108,100]:List UInt8).toArray⟩):=cw;obtain⟨b3,o3,e3,-,UZ⟩:=FW.cell (a:=some ⟨b2,o2,none⟩) (c:=c1) (f:=[([102,105,101,108,100],()),(y,()),([115,116,114,105,110,103],())]) hf1 (n:=1) (by simp);cases e3;have UZ:w1.cell? ⟨b2,o2+1,none⟩=some (.string ⟨(y:List UInt8).toArray⟩):=UZ;obtain⟨b3,o3,e3,-,cw4⟩:=FW.cell (a:=some ⟨b2,o2,none⟩) (c:=c1) (f:=[([102,105,101,108,100],()),(y,()),([115,116,114,105,110,103],())]) hf1 (n:=2) (by simp);cases e3;have cw4:w1.cell? ⟨b2,o2+2,none⟩=some (.string ⟨([115,116,114,105,110,103]:List UInt8).toArray⟩):=cw4;have hP1:=(hb1.block P hPl).trans hP;obtain⟨⟨d0,d1,d2,d3⟩,z0,z1,z2,z3⟩:=four hP1;have yD:=xP.below hb1;have vJ:P<w1.heap.size:=(auV.1 hP1).1;clear sp))
  obtain⟨xs,hown,hrep⟩:=yD.fa;have hown:w1.ownsRow B 54 2 va x.1.length xs:=hown;have hrep:∀i z,x.1[i]? =some z->aI w1.heap F bK ((xs.drop (i*2)).take 2) z:=hrep;have tJ:va.ownBlock≠some P:=λe=>by have:=(yD.fa.lt e).1;omega
  have hBr:B<=w1.heap.size:=auU hB hb1.size
  go_region_law (refine step_append_lies _ rfl (.tmp 34) (.tmp 40) 26 rfl B 54 i0 Xc 2 24 Tryz.underlying26 hi hz0 hz1 hz2 rfl (by decide) va x.1.length xs (by simp[Act.eval]) ((awS hown).alloc _) ⟨w1.heap.size,0,none⟩ 1 1 [.string ⟨y.toArray⟩,.int .i64 2] (by simp[Act.eval]) rfl (World.news_of_block (avz _ _)) (by intro u hu;simp at hu;rcases hu with rfl|rfl<;>rfl) (by decide) hqm nG (by simp;omega) _ rfl ?_;intro g cap w5 hown5 gB nX nY;have nR:=(gB.block P (by simp;omega) (λe=>tJ e.symm)).trans ((heap_alloc_old w1.drew _ vJ).trans hP1);have k5:w5.cell? ⟨P,0,none⟩=some va:=aN nR 0;have z5:=dN nR 0)
  all_goals go_wp2
  all_goals go_ret
  all_goals exact⟨rfl,⟨_,vl,vd,_,gG nR 0 _,((yD.agM (y:=(y,2,())) hBr (((Below.refl _ w1).drew).alloc (auT _) _) hown hrep hown5 gB nX nY (N:=λ_=>False) (λb hb=>hb.elim) ⟨_,_,rfl,⟨rfl,by rw[maxLen_eq];omega⟩,_,_,rfl,⟨rfl,by decide,by decide⟩,rfl⟩).set Q8)⟩,(((Kp.of hB hb1).below hB (((Below.refl _ w1).drew).alloc (auT _) _)).grown hB gB (λb e=>(yD.fa.lt e).1)).set⟩
 .have g3:(k3==[115,116,114,105,110,103])=false:=auP.2 hk;rw[show(k3==sV)=false from g3]
  go_enter Tryz.func60,Tryz.ntmps60
  go_wp2_with (first
   |(go_at_call 86;refine avk sp ?_;rintro e w1 ⟨v1,rfl,hf1,hb1⟩;obtain⟨a1,c1,e1⟩:=lV hf1;have e1:v1=.slice a1 3 c1:=e1;subst e1;obtain⟨b2,o2,e2,-,cw⟩:=FW.cell (a:=a1) (c:=c1) (f:=[([102,105,101,108,100],()),(y,()),(k3,())]) hf1 (n:=0) (by simp);subst e2;have cw:w1.cell? ⟨b2,o2,none⟩=some (.string ⟨([102,105,101,108,100]:List UInt8).toArray⟩):=cw;obtain⟨b3,o3,e3,-,UZ⟩:=FW.cell (a:=some ⟨b2,o2,none⟩) (c:=c1) (f:=[([102,105,101,108,100],()),(y,()),(k3,())]) hf1 (n:=1) (by simp);cases e3;have UZ:w1.cell? ⟨b2,o2+1,none⟩=some (.string ⟨(y:List UInt8).toArray⟩):=UZ;obtain⟨b3,o3,e3,-,cw4⟩:=FW.cell (a:=some ⟨b2,o2,none⟩) (c:=c1) (f:=[([102,105,101,108,100],()),(y,()),(k3,())]) hf1 (n:=2) (by simp);cases e3;have cw4:w1.cell? ⟨b2,o2+2,none⟩=some (.string ⟨(k3:List UInt8).toArray⟩):=cw4;have hP1:=(hb1.block P hPl).trans hP;obtain⟨⟨d0,d1,d2,d3⟩,z0,z1,z2,z3⟩:=four hP1;have yD:=xP.below hb1;have vJ:P<w1.heap.size:=(auV.1 hP1).1;clear sp))
  obtain⟨xs,hown,hrep⟩:=yD.fa;have hown:w1.ownsRow B 54 2 va x.1.length xs:=hown;have hrep:∀i z,x.1[i]? =some z->aI w1.heap F bK ((xs.drop (i*2)).take 2) z:=hrep;have tJ:va.ownBlock≠some P:=λe=>by have:=(yD.fa.lt e).1;omega
  have hBr:B<=w1.heap.size:=auU hB hb1.size
  go_region_law (refine step_append_lies _ rfl (.tmp 34) (.tmp 40) 26 rfl B 54 i0 Xc 2 24 Tryz.underlying26 hi hz0 hz1 hz2 rfl (by decide) va x.1.length xs (by simp[Act.eval]) ((awS hown).alloc _) ⟨w1.heap.size,0,none⟩ 1 1 [.string ⟨y.toArray⟩,.int .i64 1] (by simp[Act.eval]) rfl (World.news_of_block (avz _ _)) (by intro u hu;simp at hu;rcases hu with rfl|rfl<;>rfl) (by decide) hqm nG (by simp;omega) _ rfl ?_;intro g cap w5 hown5 gB nX nY;have nR:=(gB.block P (by simp;omega) (λe=>tJ e.symm)).trans ((heap_alloc_old w1.drew _ vJ).trans hP1);have k5:w5.cell? ⟨P,0,none⟩=some va:=aN nR 0;have z5:=dN nR 0)
  all_goals go_wp2
  all_goals go_ret
  all_goals exact⟨rfl,⟨_,vl,vd,_,gG nR 0 _,((yD.agM (y:=(y,1,())) hBr (((Below.refl _ w1).drew).alloc (auT _) _) hown hrep hown5 gB nX nY (N:=λ_=>False) (λb hb=>hb.elim) ⟨_,_,rfl,⟨rfl,by rw[maxLen_eq];omega⟩,_,_,rfl,⟨rfl,by decide,by decide⟩,rfl⟩).set Q8)⟩,(((Kp.of hB hb1).below hB (((Below.refl _ w1).drew).alloc (auT _) _)).grown hB gB (λb e=>(yD.fa.lt e).1)).set⟩
end Go.Proofs.Tryz
namespace Go.Proofs.Tryz
open Go Go.Fw Go.RowKit Sp
set_option maxRecDepth 100000
theorem FW.tail{B:Nat}{w:World}{b off cap:Nat}{x:List UInt8×Unit}{r:Sp.LS}(h:FW B w (.slice (some ⟨b,off,none⟩) (r.length+1) cap) (x::r)):(cap=1->FW B w (.slice (some ⟨b,off,none⟩) r.length 0) r)/\(¬cap=1->FW B w (.slice (some ⟨b,off+1,none⟩) r.length (cap-1)) r):=by
 have hm:r.length+1<=maxLen:=h.1;rcases h.2 with⟨e,_⟩|⟨b',off',cap',cs,t,fz,e,e2,e3,e4,e5⟩
 .cases e
 .cases e;have e2:r.length+1<=cap:=e2;refine⟨λh1=>⟨by omega,.inl ⟨avH.1 (by omega),?_⟩⟩,λ_=>⟨by omega,.inr ⟨b,off+1,cap-1,cs,t,fz,rfl,by omega,e3,e4,λi y hy=>?_⟩⟩⟩
  .exact⟨_,_,by rw[show r.length=0 by omega]⟩
  .have:=e5 (i+1) y (by simpa using hy);rw[show off+1+i*dK.len=off+(i+1)*dK.len by show off+1+i*1=off+(i+1)*1;omega];exact this
set_option maxHeartbeats 16000000 in
theorem am4(B P:Nat)(W:World)(x:aZ)(r:Sp.LS)(line:List UInt8)(hl:line.length<=1000)(hf:Sp.pieces 32 line=(jX,())::r)(hG:G.ok W)(hS:Held B P W x)(Q8:P<B)(hB:B<=W.heap.size)(hz:x.2.1.length<=200):
 Calls prog 60 #[.pointer (some ⟨P,0,none⟩),.string ⟨line.toArray⟩] W λe w'=>e=.returned (.bool (jv r).2)/\Held B P w' (x.1,x.2.1++[(jv r).1],x.2.2.1,x.2.2.2.1,())/\Kp B P W w':=by
 have mixed:=Tryz.mixed;obtain⟨va,vl,vd,F,hP,xP⟩:=hS;have hPl:=(auV.1 hP).1;have sp:=GK 32 (.inl rfl) line (by omega) W hG;have hwl:∀x∈r,x.1.length<=1048576:=λy hy=>auU (CU (c:=32) (s:=line) y (by rw[hf];exact auZ _ hy)) (by omega);have hrl:r.length<=1000:=by have:=Sp.pieces_len 32 line;rw[hf,auQ]at this;omega
 rw[hf]at sp;clear hf;unfold jX at sp;have fi:=λv w hv hG=>apG v r w hv hrl hwl hG;generalize jv r=fr at fi ⊢;obtain⟨⟨id,ow,sh,lk,at',⟨⟩⟩,ok⟩:=fr;dsimp only at fi;obtain⟨i0,hi,hz0,hz1,hz2⟩:=awW amL;have hqm:x.2.1.length+1<=maxLen:=by rw[maxLen_eq];omega
 have nG:(x.2.1.length+1)*56<=140737488355328:=by omega
 go_enter Tryz.func60,Tryz.ntmps60
 go_wp2_with (first
  |(go_at_call 86;refine avk sp ?_;rintro e w1 ⟨v1,rfl,hf1,hb1⟩;obtain⟨a1,c1,e1⟩:=lV hf1;have e1:v1=.slice a1 (r.length+1) c1:=e1;subst e1;obtain⟨b2,o2,e2,-,cw⟩:=FW.cell (a:=a1) (c:=c1) (f:=([102,105,108,101],())::r) hf1 (n:=0) (by simp);subst e2;have cw:w1.cell? ⟨b2,o2,none⟩=some (.string ⟨([102,105,108,101]:List UInt8).toArray⟩):=cw;obtain⟨ht1,ht2⟩:=hf1.tail;have hG1:=bG hG hb1;clear sp hf1)
  |(go_at_call 106;(first|refine avk (fi _ _ (ht1 (by assumption)) hG1) ?_|refine avk (fi _ _ (ht2 (by assumption)) hG1) ?_);rintro e w2 ⟨a6,c6,rfl,hb2,hra,n1,n2,n4⟩;have lW:=hb1.trans (hb2.mono hb1.size)))
 all_goals
  have yD:=xP.below hb1;obtain⟨xs,hown1,Ui⟩:=yD.fl;have hown1:w1.ownsRow B 51 5 vl x.2.1.length xs:=hown1;have Ui:∀i z,x.2.1[i]? =some z->aI w1.heap F dI ((xs.drop (i*5)).take 5) z:=Ui;have hs1:=hb1.size;have hs2:=hb2.size;have tJ:vl.ownBlock≠some P:=λe=>by have:=(yD.fl.lt e).1;omega
  have hBr:B<=w1.heap.size:=auU hB hs1;have hrow:=avz w2 (Obj.cells #[.int .i64 id,.int .i64 ow,.bool sh,.int .i64 lk,.slice a6 at'.length c6] 51 (0,0));have Uj:Below w2.heap.size w2 (w2.alloc (Obj.cells #[.int .i64 id,.int .i64 ow,.bool sh,.int .i64 lk,.slice a6 at'.length c6] 51 (0,0))):=(Below.refl _ w2).alloc (auT _) _;generalize w2.alloc (Obj.cells #[.int .i64 id,.int .i64 ow,.bool sh,.int .i64 lk,.slice a6 at'.length c6] 51 (0,0))=w3 at hrow Uj ⊢;have hs3:=Uj.size;have qL:=hb2.trans (Uj.mono hs2);have hb3:=hb1.trans (qL.mono hs1);have hP3:=(hb3.block P hPl).trans hP;obtain⟨⟨d0,d1,d2,d3⟩,z0,z1,z2,z3⟩:=four hP3;have e0:w3.cell? ⟨w2.heap.size,0,none⟩=some (.int .i64 id):=aN hrow 0;have e1:w3.cell? ⟨w2.heap.size,1,none⟩=some (.int .i64 ow):=aN hrow 1;have e2:w3.cell? ⟨w2.heap.size,2,none⟩=some (.bool sh):=aN hrow 2;have e3:w3.cell? ⟨w2.heap.size,3,none⟩=some (.int .i64 lk):=aN hrow 3;have e4:w3.cell? ⟨w2.heap.size,4,none⟩=some (.slice a6 at'.length c6):=aN hrow 4;have vJ:P<w3.heap.size:=(auV.1 hP3).1;have hown3:w3.ownsRow B 51 5 vl x.2.1.length xs:=vI hown1 λb e=>qL.block b (yD.fl.lt e).2;have as9:B<=w3.heap.size:=by omega
  go_region_law (refine step_append_lies _ rfl (.tmp 84) (.tmp 86) 27 rfl B 51 i0 ah7 5 56 Tryz.underlying27 hi hz0 hz1 hz2 rfl (by decide) vl x.2.1.length xs (by simp[Act.eval]) ((awS hown3).alloc _) ⟨w3.heap.size,0,none⟩ 1 1 [.int .i64 id,.int .i64 ow,.bool sh,.int .i64 lk,.slice a6 at'.length c6] (by simp[Act.eval]) rfl (World.news_of_block (avz _ _)) (by intro u hu;simp at hu;rcases hu with rfl|rfl|rfl|rfl|rfl<;>rfl) (by decide) hqm nG (by simp;omega) _ rfl ?_;intro g cap w5 hown5 gB nX nY;have nR:=(gB.block P (by simp;omega) (λe=>tJ e.symm)).trans ((heap_alloc_old w3.drew _ vJ).trans hP3);have k5:w5.cell? ⟨P,1,none⟩=some vl:=aN nR 1;have z5:=dN nR 1)
  all_goals go_wp2
  all_goals go_ret
  all_goals
   have hbd:Below w3.heap.size w3 (w3.drew.alloc (Obj.cells #[.int .i64 id,.int .i64 ow,.bool sh,.int .i64 lk,.slice a6 at'.length c6] 51 (0,0))):=((Below.refl _ w3).drew).alloc (auT _) _;have yx:=qL.trans (hbd.mono (auU hs2 hs3));exact⟨rfl,⟨va,_,vd,_,gG nR 1 _,((yD.aoV (y:=(id,ow,sh,lk,at',())) hBr yx hown1 Ui hown5 gB nX nY (N:=λb=>w1.heap.size<=b/\b<w2.heap.size) (λb hb=>⟨hb.1,by have:=hbd.size;omega⟩)
    ⟨_,_,rfl,⟨rfl,n1⟩,_,_,rfl,⟨rfl,n2⟩,_,_,rfl,rfl,_,_,rfl,⟨rfl,n4⟩,_,_,rfl,dh.mono (λb hb=>⟨hb,(hbd.block b (by omega)).trans (Uj.block b hb.2)⟩) _ _ _ hra,rfl⟩).set Q8)⟩,(((Kp.of hB hb1).below hB yx).grown hB gB (λb e=>(yD.fl.lt e).1)).set⟩
end Go.Proofs.Tryz
