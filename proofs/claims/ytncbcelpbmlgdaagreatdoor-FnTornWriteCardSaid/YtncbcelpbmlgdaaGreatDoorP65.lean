import Derived.Test.YtncbcelpbmlgdaaGreatDoorP61
import Derived.Test.YtncbcelpbmlgdaaGreatDoorSp
import Derived.Test.YtncbcelpbmlgdaaGreatDoorV25
import Derived.Deep.AppendLies
import Derived.Deep.RegionLaw
import Derived.BigRegion
namespace Go.Proofs.Tryz
open Go Go.Fw Go.RowKit Sp
theorem aqd(s:List UInt8)(hs:s.length<=1048576)(w:World)(hG:G.ok w):Calls prog 153 #[.string ⟨s.toArray⟩] w λe w'=>
 ∃v,e=.returned (.tuple #[v,.bool (jA s)])/\FW w'.heap.size w' v (gG s)/\Below w.heap.size w w':=by
 have hc:fJ prog G 153 (iy nZ.sh nZ.bI nZ.F):=U5.1;refine(hc [.sv (.one (.str s))] (s.length<=1048576) _ 0 (λ_=>True) #[.string ⟨s.toArray⟩] w rfl hs hG ⟨⟨rfl,ac2⟩,trivial⟩).mono ?_;rintro e w' ⟨v,vals,rfl,h1,h2,h3,h4,h5,h6,_,_⟩;obtain⟨vs,rfl,h7⟩:=h6;obtain⟨l⟩:=vs
 match l,h7 with
 |[a,b],h7=>
  obtain⟨ha,hb,_⟩:=h7;have hb:b=.bool (jA s):=hb;have ha:cZ w'.heap _ (.sl aY dQ) a (gG s):=ha;refine⟨a,by rw[hb],⟨ha.1,?_⟩,h1,h2,h3,h4,h5⟩;rcases ha.2 with h|⟨b,off,cap,cs,t,fz,e1,e2,e3,e4,e5⟩
  .exact .inl h
  .exact .inr ⟨b,off,cap,cs,t,fz,e1,e2,e3.1.1,e4,λi x hx=>aJ.flat (S:=_) _ _ _ rfl (e5 i x hx)⟩
theorem afX{B P:Nat}{w:World}{v:Value}{q:List ak}(h:NW B P w v q)(hl:q.length<=1000)(S:Nat->Prop)(hS:∀b,B<=b->b<w.heap.size->S b):cZ w.heap S (.sl 168 bG) v q:=by
 obtain⟨xs,h1,_,h3⟩:=h;refine⟨ac2,?_⟩;rcases h1.2 with⟨e,e2⟩|⟨g,cap,cur,e,e2,e3,e4,e5,e6,e7⟩
 .exact .inl ⟨awm.1 e2,none,0,asN⟩
 .refine .inr ⟨g,0,cap,cur,168,(0,0),e,e4,hS g e2 (avw.1 e3).1,e3,λi x hx=>?_⟩;have hi:=(avG.1 hx).1;have:=h3 i x hx;rw[← e7,ayr,ax3,axU abn]at this;rw[avV];exact aJ.flat (S:=λ_=>False) _ _ _ rfl this
theorem akE{B P:Nat}(v:Value)(q:List ak)(hq:q.length<=1000)(w:World)(hn:NW B P w v q)(hG:G.ok w):Calls prog 104 #[v] w λe w'=>e=.returned (.bool (ay q))/\Below w.heap.size w w':=by have hc:fJ prog G 104 (iy jf.sh jf.bI jf.F):=sW.1;refine(hc [.sv (.one (.sl 168 bG q false))] (q.length<=2000000) _ 0 (λ_=>True) #[v] w rfl abn hG ⟨afX hn hq _ λb _ hb=>⟨⟨hb,λ_=>trivial,λo x hx=>afg⟩,λh=>agk⟩,trivial⟩).mono ?_;rintro e w' ⟨v,vals,rfl,h1,h2,h3,h4,h5,h6,_,_⟩;have h6:v=.bool (ay q):=h6;exact⟨by rw[h6],h1,h2,h3,h4,h5⟩
theorem FW.form{B:Nat}{w:World}{v:Value}{f:Sp.LS}(h:FW B w v f):∃a cap,v=.slice a f.length cap:=by
 rcases h.2 with⟨rfl,a,c,e⟩|⟨b,off,cap,cs,t,fz,e,_⟩
 .exact⟨a,c,e⟩
 .exact⟨_,_,e⟩
theorem Kv{w w1:World}{o:Obj}{f:Sp.LS}{q:List ak}{w2:World}(hb1:Below w.heap.size w w1)(hd:Done w1.heap.size w1.heap.size (w1.alloc o) none f q w2):Below w.heap.size w w2:=by obtain⟨_,_,_,_,_,h,_⟩:=hd;have hs:(w1.alloc o).heap.size=w1.heap.size+1:=acA;exact⟨h.os.trans hb1.os,h.tape.trans hb1.tape,h.output.trans hb1.output,by have:=h.size;have:=hb1.size;omega,λb hb=>(h.block b (by have:=hb1.size;omega) (by have:=hb1.size;omega) (λe=>ahB)).trans ((heap_alloc_old w1 o (by have:=hb1.size;omega)).trans (hb1.block b hb))⟩
theorem adb(B P:Nat)(w:World):NW B P w (.slice none 0 0) []/\([]:List ak).length<=1000:=⟨⟨[],axv w B 168 7,(λe=>ahB),λi x hx=>by simp at hx⟩,avM _⟩
theorem NW.base{B P B' P':Nat}{w:World}{v:Value}{q:List ak}(h:NW B P w v q)(hB:B'<=B)(hP:w.heap.size<=P'):NW B' P' w v q:=by have hl:=λg hg=>h.lt (g:=g) hg;obtain⟨xs,⟨h1,h2⟩,_,h3⟩:=h;refine⟨xs,⟨h1,h2.imp id λ⟨g,cap,cur,e,e2,e3⟩=>⟨g,cap,cur,e,avx hB e2,e3⟩⟩,λe=>?_,h3⟩;have:=(hl P' e).2.1;omega
set_option maxHeartbeats 16000000 in
set_option maxRecDepth 100000 in
theorem alY(s:List UInt8)(hs:s.length<=1048576)(w:World)(hG:G.ok w):Calls prog 107 #[.string ⟨s.toArray⟩] w λe w'=>
 ∃v,e=.returned (.tuple #[v,.bool (gB s)])/\Below w.heap.size w w'/\NW w.heap.size w'.heap.size w' v (fU s)/\(fU s).length<=1000:=by
 have mixed:=Tryz.mixed;have sf:=aqd s hs w hG;cases hok:jA s with
 |false=>
  have e1:gB s=false:=by unfold gB;rw[hok];rfl
  have e2:fU s=[]:=by unfold fU;rw[e1];rfl
  rw[hok]at sf;rw[e1,e2];clear e1 e2 hok
  go_enter Tryz.func107,Tryz.ntmps107
  go_wp2_with (first
   |(go_at_call 153;refine sf.mono ?_;rintro e w1 ⟨v,rfl,-,hb1⟩))
  all_goals go_ret2
  all_goals exact⟨_,rfl,hb1,adb _ _ _⟩
 |true=>
  have hpq:Hid (gB s=((wZ (Sp.wordsOf s)).1&&(!decide (((wZ (Sp.wordsOf s)).2.1.length:Int)>0)&&ay (wZ (Sp.wordsOf s)).2.2))):=by show _=_;unfold gB;rw[hok,axj]
  have hpl:Hid (fU s=bif gB s then(wZ (Sp.wordsOf s)).2.2 else[]):=rfl;obtain⟨hw,hl,_⟩:=Zt hok;have hws:∀x∈Sp.wordsOf s,x.1.length<=1000:=λx hx=>avx (Sm x hx) (avx (qI.1 hok).1 abA);have atS:(Sp.wordsOf s).length<=24:=by rw[uJ];have:=(qI.1 hok).2.2;omega
  rw[hok,hw]at sf;clear hok hw;generalize gB s=pq at hpq hpl ⊢;generalize fU s=pl at hpl ⊢;generalize Sp.wordsOf s=f at sf hpq hpl hl hws atS;have hcnt:=xM (f.length+1) f [];unfold wZ at hpq hpl;generalize hz:Sp.rd (f.length+1) f []=z at hpq hpl hcnt;obtain⟨b1,f2,q2⟩:=z;dsimp only at hpq hpl hcnt;have hz:Hid (Sp.rd (f.length+1) f []=(b1,f2,q2)):=hz;have n8:=G.low w hG;have nd:∀(W:World)(vf:Value)(P:Nat),w.heap.size<=P->G.ok W->W.heap[P]? =some (.cells #[vf,.slice none 0 0] 173 (0,0))->FW P W vf f->Calls prog 154 #[.pointer (some ⟨P,0,none⟩)] W λe w'=>e=.returned (.bool b1)/\Done P P W none f2 q2 w':=λW vf P hP hG2 hc hf=>by have:=afW (f.length+1) P P W vf (.slice none 0 0) f [] (aw9 _) (avx n8 hP) (avt _) hG2 hc hf ⟨[],axv W P 168 7,(λe=>ahB),λi x hx=>by simp at hx⟩ hws (by rw[avu];omega);rw[hz.out]at this;exact this
  go_enter Tryz.func107,Tryz.ntmps107
  cases b1 with
  |false=>
   go_wp2_with (first
    |(go_at_call 153;refine sf.mono ?_;rintro e w1 ⟨v,rfl,hf1,hb1⟩;obtain⟨a1,c1,hv1⟩:=hf1.form;subst hv1;clear sf)
    |(go_at_call 154;refine(nd _ (.slice a1 f.length c1) w1.heap.size hb1.size (dR (dR hG hb1) ((Below.refl _ _).alloc (avt _) _)) (awf w1 _) (hf1.keep λb hb=>heap_alloc_old w1 _ hb)).mono ?_;rintro e w2 ⟨rfl,hd⟩))
   all_goals go_ret2
   all_goals exact⟨_,by rw[show pq=false from hpq.out];rfl,Kv hb1 hd,by rw[show pl=[] by rw[hpl.out,hpq.out];rfl];exact adb _ _ _⟩
  |true=>
   rcases axd f2.length with h0|h0
   .obtain rfl:f2=[]:=awm.1 h0;clear h0;cases hq:ay q2 with
    |false=>
     go_wp2_with (first
      |(go_at_call 153;refine sf.mono ?_;rintro e w1 ⟨v,rfl,hf1,hb1⟩;obtain⟨a1,c1,hv1⟩:=hf1.form;subst hv1;clear sf)
      |(go_at_call 154;refine(nd _ (.slice a1 f.length c1) w1.heap.size hb1.size (dR (dR hG hb1) ((Below.refl _ _).alloc (avt _) _)) (awf w1 _) (hf1.keep λb hb=>heap_alloc_old w1 _ hb)).mono ?_;rintro e w2 ⟨rfl,hd⟩;obtain⟨Oe,vn2,hc2,hf2,hn2,hst2⟩:=id hd;obtain⟨a2,c2,hv2⟩:=hf2.form;obtain⟨a3,c3,hv3⟩:=hn2.form;subst hv2 hv3;have p0:w2.cell? ⟨w1.heap.size,0,none⟩=some (.slice a2 0 c2):=aQ hc2 0;have p1:w2.cell? ⟨w1.heap.size,1,none⟩=some (.slice a3 q2.length c3):=aQ hc2 1;have hdb:=Kv hb1 hd)
      |(go_at_call 104;refine(akE (.slice a3 q2.length c3) q2 abn w2 hn2 (dR hG hdb)).mono ?_;rintro e w3 ⟨rfl,hb3⟩;rw[hq]))
     all_goals go_ret2
     all_goals exact⟨_,by rw[show pq=false by rw[hpq.out,hq];rfl];rfl,hdb.trans (hb3.mono hdb.size),by rw[show pl=[] by rw[hpl.out,hpq.out,hq];rfl];exact adb _ _ _⟩
    |true=>
     go_wp2_with (first
      |(go_at_call 153;refine sf.mono ?_;rintro e w1 ⟨v,rfl,hf1,hb1⟩;obtain⟨a1,c1,hv1⟩:=hf1.form;subst hv1;clear sf)
      |(go_at_call 154;refine(nd _ (.slice a1 f.length c1) w1.heap.size hb1.size (dR (dR hG hb1) ((Below.refl _ _).alloc (avt _) _)) (awf w1 _) (hf1.keep λb hb=>heap_alloc_old w1 _ hb)).mono ?_;rintro e w2 ⟨rfl,hd⟩;obtain⟨Oe,vn2,hc2,hf2,hn2,hst2⟩:=id hd;obtain⟨a2,c2,hv2⟩:=hf2.form;obtain⟨a3,c3,hv3⟩:=hn2.form;subst hv2 hv3;have p0:w2.cell? ⟨w1.heap.size,0,none⟩=some (.slice a2 0 c2):=aQ hc2 0;have p1:w2.cell? ⟨w1.heap.size,1,none⟩=some (.slice a3 q2.length c3):=aQ hc2 1;have hdb:=Kv hb1 hd)
      |(go_at_call 104;refine(akE (.slice a3 q2.length c3) q2 abn w2 hn2 (dR hG hdb)).mono ?_;rintro e w3 ⟨rfl,hb3⟩;rw[hq];have p3:w3.cell? ⟨w1.heap.size,1,none⟩=some (.slice a3 q2.length c3):=aQ ((hb3.block _ (avw.1 hc2).1).trans hc2) 1))
     all_goals go_ret2
     all_goals refine⟨_,by rw[show pq=true by rw[hpq.out,hq];rfl];rfl,hdb.trans (hb3.mono hdb.size),?_⟩
     all_goals rw[show pl=q2 by rw[hpl.out,hpq.out,hq];rfl]
     all_goals exact⟨(hn2.keep λg hg=>hb3.block g (hn2.lt hg).2.1).base hb1.size (avt _),abn⟩
   .have hpos:(0:Int)<(f2.length:Int):=abn
    go_wp2_with (first
     |(go_at_call 153;refine sf.mono ?_;rintro e w1 ⟨v,rfl,hf1,hb1⟩;obtain⟨a1,c1,hv1⟩:=hf1.form;subst hv1;clear sf)
     |(go_at_call 154;refine(nd _ (.slice a1 f.length c1) w1.heap.size hb1.size (dR (dR hG hb1) ((Below.refl _ _).alloc (avt _) _)) (awf w1 _) (hf1.keep λb hb=>heap_alloc_old w1 _ hb)).mono ?_;rintro e w2 ⟨rfl,hd⟩;obtain⟨Oe,vn2,hc2,hf2,hn2,hst2⟩:=id hd;obtain⟨a2,c2,hv2⟩:=hf2.form;subst hv2;have p0:w2.cell? ⟨w1.heap.size,0,none⟩=some (.slice a2 f2.length c2):=aQ hc2 0;have hdb:=Kv hb1 hd))
    all_goals go_ret2
    all_goals have hpf:pq=false:=by rw[hpq.out,avD (show(f2.length:Int)>0 from hpos)];rfl
    all_goals exact⟨_,by rw[hpf];rfl,hdb,by rw[show pl=[] by rw[hpl.out,hpf];rfl];exact adb _ _ _⟩
theorem aoJ{h:Array Obj}{S S':Nat->Prop}(hS:∀b,S b->S' b){v:Value}{q:List ak}(H:cZ h S (.sl 168 bG) v q):cZ h S' (.sl 168 bG) v q:=by
 refine⟨H.1,?_⟩;rcases H.2 with e|⟨b,off,cap,cs,t,fz,e1,e2,e3,e4,e5⟩
 .exact .inl e
 .exact .inr ⟨b,off,cap,cs,t,fz,e1,e2,hS b e3,e4,λi x hx=>aJ.flat (S:=S) _ _ _ rfl (e5 i x hx)⟩
theorem Xl:fJ prog G Ym G9:=by
 intro args p out k S vs w hcon hp hG hrep;unfold G9 iy wU at hcon;split at hcon
 .next x hx=>
  obtain⟨s,⟨⟩⟩:=x;have hv:=DZ wL args _ vs.toList hx hrep
  match hvs:vs.toList,hv with
  |[v],hv=>have e1:v=.string ⟨s.toArray⟩:=hv.1.1;have e2:vs=#[.string ⟨s.toArray⟩]:=akW;subst e2;have hF:=Option.some.inj hcon;have hp1:p=(s.length<=1048576):=(congrArg Prod.fst hF).symm;have hout:out=⟨[(false,[.plain (.sl 168 bG (fU s) true)]),(false,[.plain (.bool (gB s))])],none⟩:=(congrArg Prod.snd hF).symm;subst hp1 hout;refine(alY s hp w hG).mono ?_;rintro e w' ⟨u,rfl,hb,hn,hn2⟩;have hr:=afX hn hn2 (λb=>w.heap.size<=b/\b<w'.heap.size) λb h1 h2=>⟨h1,h2⟩;refine⟨_,λ_=>undef,rfl,hb.os,hb.tape,hb.output,hb.size,hb.block,?_,(λo x hx=>afg),(λo x q y b hx=>afg)⟩;exact⟨_,rfl,aoJ (λb hb=>⟨⟨hb.2,λh=>absurd h (ax5.2 hb.1),λo x hx=>afg⟩,λ_=>hb.1⟩) hr,rfl,trivial⟩
 .cases hcon
end Go.Proofs.Tryz
namespace Go.Proofs.Tryz
open Go Go.Fw Go.IntWalk Sp
theorem akF(n:Nat):((n:Int).tmod 2 !=0)=!(n%2==0):=by
 have e:(n:Int).tmod 2=((n%2:Nat):Int):=rfl;rw[e];cases h:n%2 with
 |zero=>rfl
 |succ k=>rw[show((k+1:Nat)==0)=false from rfl];exact bne_iff_ne.2 abn
theorem Jf{w:Sp.LS}{n:Nat}(h:n<w.length):(w.getD n ([],())).1=Sp.wordAt w n:=by rw[pX abn,avJ]
theorem aix{w:Sp.LS}{n:Nat}(h:n+1<w.length):w.drop n=w.getD n ([],())::w.getD (n+1) ([],())::w.drop (n+2):=by rw[drop_cons w n ([],()) abn,drop_cons w (n+1) ([],()) h]
theorem ae1:OK vT.e:=by
 refine PA.ok mixed (aC [mg.e,(uG,.pure qN)] ⟨Jg,⟨yj,Ce⟩,trivial⟩) agO abu (show∀w,vT.goal (ae2 w) (w,())from ?_);intro w hin hp;dsimp only[vT]at hp ⊢;obtain⟨hl,hw⟩:w.length<=1000/\∀x∈w,x.1.length<=1048576:=hp;have no:(decide ((w.length:Int)<4)||!(w.length%2==0))=true->((((0,0,false,0,[],()):aU),false,()):aU×Bool×Unit)=((jB w).1,(jB w).2,()):=λh=>by unfold jB;rw[h];rfl
 refine⟨λ_=>4<=w.length/\w.length%2=0,af (λh=>no asT) λh=>⟨abA,af (λh2=>no ?_) λh2=>⟨rfl,?_⟩⟩,?_⟩
 .rw[akF]at h2;rw[h2,ayo]
 .rw[akF]at h2;exact⟨apl,avS.1 (fG h2)⟩
 rintro⟨⟨⟩,⟨⟩⟩ ⟨h4,ast⟩;have ef:jB w=((Sp.numAt w 0,Sp.numAt (w.drop 1) 0,Sp.wordAt (w.drop 1) 1==[115],Sp.numAt (w.drop 1) 2,iL (w.drop 4),()),(bf (Sp.wordAt w 0)&&(bf (Sp.wordAt w 1)&&bf (Sp.wordAt w 3)))&&uN (w.drop 4)):=by unfold jB;rw[avH (show ¬((w.length:Int)<4)from abn),ast];show(Dc _ _,_)=_;unfold Dc;rw[aw1]
 have w1:∀i:Int,0<=i->Sp.wordAt (w.drop 1) i=Sp.wordAt w (1+i):=λi hi=>Sp.tJ w 1 i abA hi;have en:∀v i,Sp.numAt v i=Sp.parseNum (Sp.wordAt v i):=λ_ _=>rfl;rw[en,en,en,w1 0 abA,w1 1 abA,w1 2 abA]at ef;have g0:(w.getD 0 ([],())).1=Sp.wordAt w 0:=Jf abn;have g1:(w.getD 1 ([],())).1=Sp.wordAt w 1:=Jf abn;have g2:(w.getD 2 ([],())).1=Sp.wordAt w 2:=Jf abn;have g3:(w.getD 3 ([],())).1=Sp.wordAt w 3:=Jf abn;have t0:Int.toNat (0:Int)=0:=rfl;have t1:Int.toNat (1:Int)=1:=rfl;have t2:Int.toNat (2:Int)=2:=rfl;have t3:Int.toNat (3:Int)=3:=rfl;rw[ef];refine⟨⟨abA,abn⟩,trivial,⟨abA,abn⟩,trivial,⟨abA,abn⟩,trivial,⟨abA,abn⟩,?_⟩;dsimp only;rw[t0,t1,t2,t3,g0,g1,g2,g3];refine⟨λy=>y=((bf (Sp.wordAt w 0)&&(bf (Sp.wordAt w 1)&&bf (Sp.wordAt w 3)),()),()),?_,?_⟩
 .cases bf (Sp.wordAt w 0)with
  |false=>exact⟨rfl,rfl⟩
  |true=>cases bf (Sp.wordAt w 1)<;>exact⟨rfl,rfl⟩
 rintro _ rfl;generalize (bf (Sp.wordAt w 0)&&(bf (Sp.wordAt w 1)&&bf (Sp.wordAt w 3)))=ok0;refine⟨λy=>∃(n:Nat)(ok:Bool)(al:List bg),y=((ok,((4+2*n:Nat):Int),()),(Sp.parseNum (Sp.wordAt w 0),Sp.parseNum (Sp.wordAt w 1),Sp.wordAt w 2==[115],Sp.parseNum (Sp.wordAt w 3),(),()),al,())/\4+2*n<=w.length/\al.length=n/\
  al++iL (w.drop (4+2*n))=iL (w.drop 4)/\(ok&&uN (w.drop (4+2*n)))=(ok0&&uN (w.drop 4)),λy=>((w.length:Int)-y.1.2.1).toNat,⟨0,ok0,[],rfl,h4,rfl,rfl,rfl⟩,?_⟩
 rintro _ ⟨n,ok,al,rfl,hn,hal,has,hok⟩;dsimp only;refine af (λh=>?_) λh=>?_
 .have hlt:=fB h;have hlt2:4+2*n+1<w.length:=abn;have e1:IntKind.i64.wrap (((4+2*n:Nat):Int)+1)=((4+2*n+1:Nat):Int):=(wrap_in abn).trans abn;have e2:IntKind.i64.wrap (((4+2*n:Nat):Int)+2)=((4+2*(n+1):Nat):Int):=(wrap_in abn).trans abn;rw[e1,e2,avJ,avJ];have hd:=aix hlt2;have hd2:w.drop (4+2*n+2)=w.drop (4+2*(n+1)):=by rw[show 4+2*n+2=4+2*(n+1)from abn]
  rw[hd2]at hd;rw[hd]at has hok;have ha:iL (w.getD (4+2*n) ([],())::w.getD (4+2*n+1) ([],())::w.drop (4+2*(n+1)))=((w.getD (4+2*n) ([],())).1,(aZ (w.getD (4+2*n+1) ([],())).1).1)::iL (w.drop (4+2*(n+1))):=rfl;have hv:uN (w.getD (4+2*n) ([],())::w.getD (4+2*n+1) ([],())::w.drop (4+2*(n+1)))=((aZ (w.getD (4+2*n+1) ([],())).1).2&&uN (w.drop (4+2*(n+1)))):=rfl;rw[ha]at has;rw[hv]at hok;refine⟨⟨abn,abn⟩,hw _ (getD_mem hlt2),⟨abn,abn⟩,tZ akY,?_⟩;have next:∀b:Bool,(b&&uN (w.drop (4+2*(n+1))))=(ok0&&uN (w.drop 4))->∃(m:Nat)(ok:Bool)(al':List bg),((b,((4+2*(n+1):Nat):Int),()),(Sp.parseNum (Sp.wordAt w 0),Sp.parseNum (Sp.wordAt w 1),Sp.wordAt w 2==[115],Sp.parseNum (Sp.wordAt w 3),(),()),al++[((w.getD (4+2*n) ([],())).1,(aZ (w.getD (4+2*n+1) ([],())).1).1)],())=((ok,((4+2*m:Nat):Int),()),(Sp.parseNum (Sp.wordAt w 0),Sp.parseNum (Sp.wordAt w 1),Sp.wordAt w 2==[115],Sp.parseNum (Sp.wordAt w 3),(),()),al',())/\4+2*m<=w.length/\al'.length=m/\
   al'++iL (w.drop (4+2*m))=iL (w.drop 4)/\(ok&&uN (w.drop (4+2*m)))=(ok0&&uN (w.drop 4)):=λb hb=>
   ⟨n+1,b,_,rfl,abn,by rw[avn,avq,avu,hal],by rw[avE];exact has,hb⟩
  cases ok with
  |true=>exact⟨rfl,next _ (by rw[← hok,axj]),abn⟩
  |false=>exact⟨rfl,next _ (by rw[← hok,axm,axm]),abn⟩
 .have hge:4+2*n=w.length:=apl;rw[hge,List.drop_length]at has hok;have e1:al=iL (w.drop 4):=by rw[← has];exact(avU _).symm
  have e2:ok=(ok0&&uN (w.drop 4)):=by rw[← hok];exact(axE _).symm
  rw[e1,e2];rfl
end Go.Proofs.Tryz
namespace Go.Proofs.Tryz
open Go Go.Fw Go.IntWalk Sp
set_option maxRecDepth 100000
theorem six(a b c d e f:UInt8):([a,b,c,d,e,f]:List UInt8).length=6:=rfl
theorem YF:OK zO.e:=by
 refine PA.ok mixed (aC [] trivial) aa8 abu (show∀a b,zO.goal (YT a b) (a,b,())from ?_);intro a b hin hp;dsimp only[zO]at hp ⊢;have hlen:a.length<=maxLen:=hin.1.1;rw[maxLen_eq]at hlen;refine af (λh=>?_) λh=>?_
 .have h:(a.length:Int)≠b.length:=acG;exact congrArg (·,()) (avH λe=>h asN).symm
 .have h:(a.length:Int)=b.length:=acG;exact Ib (K:=λr=>r=(decide (a=b),())) (λx y=>!(x.1==y.1)) (λx y=>aq8) _ a b _ hlen abn (λe=>arb) λe=>arx
theorem aaL:OK rq.e:=by
 refine PA.ok mixed (aC [] trivial) adk abu (show∀a b,rq.goal (aa9 a b) (a,b,())from ?_);intro a b hin hp;dsimp only[rq]at hp ⊢;have hlen:a.length<=maxLen:=hin.1.1;rw[maxLen_eq]at hlen;refine af (λh=>?_) λh=>?_
 .have h:(a.length:Int)≠b.length:=acG;exact congrArg (·,()) (avH λe=>h asN).symm
 .have h:(a.length:Int)=b.length:=acG;exact Ib (K:=λr=>r=(decide (a=b),())) (λx y=>!(x.1==y.1)) (λx y=>aq8) _ a b _ hlen abn (λe=>arb) λe=>arx
theorem Ve:OK wM.e:=by
 refine PA.ok mixed (aC [kE.e] ⟨vK,trivial⟩) H0 abu (show∀f0 f1,wM.goal (Vf f0 f1) ((f0,f1,()),())from ?_);intro f0 f1 hin hp;dsimp only[wM]at hp ⊢;have hl:f0.length<=1048576:=hp;have e1:∀z:List UInt8,iw++32::(f0++32::z)=[102,105,101,108,100,32]++f0++32::z:=λz=>by rw[avE];rfl
 have e:dJ (f0,f1,())=bif !dD f0 then[]else bif f1==1 then[102,105,101,108,100,32]++f0++[32,105,110,116]else bif f1==2 then[102,105,101,108,100,32]++f0++[32,115,116,114,105,110,103]else[]:=by show(bif !dD f0 then[]else bif f1==1 then iw++32::(f0++32::J9)else bif f1==2 then iw++32::(f0++32::rM)else[])=_;rw[e1,e1];rfl
 refine⟨trivial,?_⟩;rw[e];refine af (λh=>asT) λh=>af (λh1=>⟨bF (by rw[six];omega),bF (by rw[avn,six,avq,avq,avq,avq,avu];omega),by rw[h,h1];rfl⟩) λh1=>af (λh2=>⟨bF (by rw[six];omega),bF (by simp only[avn,avq,avu];omega),as3⟩) λh2=>as3
theorem Vg:OK wO.e:=by
 refine PA.ok mixed (aC [kF.e] ⟨vM,trivial⟩) H0 abu (show∀f0 f1,wO.goal (Vh f0 f1) ((f0,f1,()),())from ?_);intro f0 f1 hin hp;dsimp only[wO]at hp ⊢;have hl:f0.length<=1048576:=hp;have e1:∀z:List UInt8,iw++32::(f0++32::z)=[102,105,101,108,100,32]++f0++32::z:=λz=>by rw[avE];rfl
 have e:dJ (f0,f1,())=bif !dD f0 then[]else bif f1==1 then[102,105,101,108,100,32]++f0++[32,105,110,116]else bif f1==2 then[102,105,101,108,100,32]++f0++[32,115,116,114,105,110,103]else[]:=by show(bif !dD f0 then[]else bif f1==1 then iw++32::(f0++32::J9)else bif f1==2 then iw++32::(f0++32::rM)else[])=_;rw[e1,e1];rfl
 refine⟨trivial,?_⟩;rw[e];refine af (λh=>asT) λh=>af (λh1=>⟨bF (by rw[six];omega),bF (by rw[avn,six,avq,avq,avq,avq,avu];omega),by rw[h,h1];rfl⟩) λh1=>af (λh2=>⟨bF (by rw[six];omega),bF (by simp only[avn,avq,avu];omega),as3⟩) λh2=>as3
theorem Xn:OK xZ.e:=by
 refine PA.ok mixed (aC [lF.e,lC.e] ⟨Bd,rX,trivial⟩) YU abu (show∀f0 f1 f2 f3 f4,xZ.goal (Xo f0 f1 f2 f3 f4) ((f0,f1,f2,f3,f4,()),())from ?_);intro f0 f1 f2 f3 f4 hin hp;dsimp only[xZ]at hp ⊢;obtain⟨hl,ht⟩:f4.length<=1048576/\(fV f4).length<=1073741824:=hp;have q0:=Df (n:=f0) hin.1.1;have q1:=Df (n:=f1) hin.1.2.1;have q3:=Df (n:=f3) hin.1.2.2.2.1;have h5:∀a b c d e:UInt8,([a,b,c,d,e]:List UInt8).length=5:=λ_ _ _ _ _=>rfl;have h3:∀a b c:UInt8,([a,b,c]:List UInt8).length=3:=λ_ _ _=>rfl;have h1:([32]:List UInt8).length=1:=rfl;refine⟨trivial,bF (by rw[h5];omega),bF (by rw[avn,h5,h1];omega),trivial,bF (by rw[avn,avn,h5,h1];omega),
  iE (([102,105,108,101,32]++Lib.itoa f0++[32]++Lib.itoa f1++[32,(bif f2 then 115 else 111),32],()),()) ?_ ?_⟩
 .cases f2 with
  |true=>exact⟨bF aqx,rfl,rfl⟩
  |false=>exact⟨bF aqx,rfl,rfl⟩
 refine⟨trivial,bF aqx,?_⟩;have hh:([102,105,108,101,32]++Lib.itoa f0++[32]++Lib.itoa f1++[32,(bif f2 then 115 else 111),32]++Lib.itoa f3:List UInt8).length<=80:=aqx;have he:gu (f0,f1,f2,f3,f4,())=[102,105,108,101,32]++Lib.itoa f0++[32]++Lib.itoa f1++[32,(bif f2 then 115 else 111),32]++Lib.itoa f3++fV f4:=by
  have e1:gu (f0,f1,f2,f3,f4,())=kC++32::(Lib.itoa f0++32::Lib.join (jC (f0,f1,f2,f3,f4,())) [32]):=by unfold gu;rw[show jC (f0,f1,f2,f3,f4,())=Lib.itoa f1::((bif f2 then[115]else[111])::Lib.itoa f3::dX f4)from rfl,jG,jG]
  rw[e1,afZ];cases f2<;>simp[kC]
 generalize ([102,105,108,101,32]++Lib.itoa f0++[32]++Lib.itoa f1++[32,(bif f2 then 115 else 111),32]++Lib.itoa f3:List UInt8)=H at hh he ⊢;rw[he];refine gU (mk:=λi(s:List UInt8)=>((s,i,()),())) (λy=>y.1.2.1) (λ_ _=>rfl) f4.length abn (λn s=>s=H++fV (f4.take n)) (by rw[axy];exact(avU _).symm) (λI μ n s hn hJ next=>?_) λI μ s hJ=>?_
 .subst hJ;have hm:=@ae6 f4 (n+1);have hk:=anx hn;rw[hk]at hm;simp only[avn,avq]at hm;dsimp only;rw[avJ];have hi:(0:Int)<=n/\(n:Int)<f4.length:=abn;refine fK abn ⟨bF aq2,hi,bF aq2,bF aq2,hi,trivial,bF aq2,rfl,next _ ?_⟩;rw[hk];simp
 .subst hJ;dsimp only;rw[av6 (avt _)];exact fM abn rfl
theorem FC(a:List (List UInt8))(x:List UInt8):Sp.ls (a++[x])=Sp.ls a++[(x,())]:=by rw[Sp.Xi];rfl
theorem map_take{α β:Type}(f:α->β)(l:List α){n:Nat}(h:n<l.length)(d:α):(l.take (n+1)).map f=(l.take n).map f++[f (l.getD n d)]:=by rw[awu h,aws,avr,avv h];rfl
theorem akH{x:aV}(h:bT x=true){f:aU}(hf:f∈x.2.1):f.2.2.2.2.1.length<=1048576/\(fV f.2.2.2.2.1).length<=1073741824:=by
 obtain⟨k1,k2⟩:=(Ag h).2.1 f hf;have:=Tz _ (xu.1 k1).1;have hj:(fV f.2.2.2.2.1).length<=qW (dX f.2.2.2.2.1):=by
  rw[← TA];have:∀w:List (List UInt8),(Lib.joinTail [32] w).length<=qW w:=by
   intro w
   induction w with
   |nil=>exact avM _
   |cons y r ih=>show([32]++y++Lib.joinTail [32] r).length<=_;rw[fZ,avn,avn,avq,avu];omega
  exact this _
 exact⟨abn,abn⟩
theorem Ec:OK jI.e:=by
 refine PA.ok mixed (aC [wK.e,xY.e,nR.e,wO.e,iM.e] ⟨U9,Xj,yx,Vg,vO,trivial⟩) Qy abu (show∀x0 x1 x2 x3,jI.goal (O1 x0 x1 x2 x3) ((x0,x1,x2,x3,()),())from ?_);intro x0 x1 x2 x3 hin hp;dsimp only[jI]at hp ⊢;have hp:bP (x0,x1,x2,x3,()):=hp;refine⟨hp,af (λh=>?_) λh=>?_⟩
 .have h:bT (x0,x1,x2,x3,())=false:=iY h;rw[anz h]
 have h:bT (x0,x1,x2,x3,())=true:=fG h;obtain⟨p1,p2,p3,p4,p5,p6,p7⟩:=Ag h;have few:=λf hf=>akH h (f:=f) hf;rw[Au h];dsimp only at p1 p2 p3 p4 p5 p6 p7 few;have hn:=(iC p3).2.2.2.2;have h5:∀a b c d e:UInt8,([a,b,c,d,e]:List UInt8).length=5:=λ_ _ _ _ _=>rfl;have h4:∀a b c d:UInt8,([a,b,c,d]:List UInt8).length=4:=λ_ _ _ _=>rfl;have one:∀x:List UInt8×Unit,[x].length=1:=λ_=>rfl;refine gU (mk:=λi(s:Sp.LS)=>(((),i,()),s,())) (λy=>y.1.2.1) (λ_ _=>rfl) x0.length abn (λn s=>s=Sp.ls ((x0.take n).map dJ)) rfl (λI μ n s hn hJ next=>?_) λI μ s hJ=>?_
 .subst hJ;dsimp only;rw[avJ];have hm:=p1 _ (getD_mem (d:=([],0,())) hn);refine fK abn ⟨⟨abn,abn⟩,avx (abb hm.1) abA,tZ (by rw[one];simp only[Sp.ls,avI,avz];omega),rfl,next _ ?_⟩;rw[map_take _ _ hn ([],0,()),FC]
 subst hJ;dsimp only;rw[av6 (avt _)];refine fM abn ⟨trivial,bF (by rw[h5];omega),tZ (by rw[one];simp only[Sp.ls,avI];omega),?_⟩;have e1:Sp.ls (x0.map dJ)++[([110,101,120,116,32]++Lib.itoa x2,())]=Sp.ls (x0.map dJ++[jm x2]):=(FC _ _).symm;rw[e1];refine gU (mk:=λi(s:Sp.LS)=>(((),i,()),s,())) (λy=>y.1.2.1) (λ_ _=>rfl) x1.length abn (λn s=>s=Sp.ls (x0.map dJ++[jm x2]++(x1.take n).map gu)) anC (λI μ n s hn hJ next=>?_) λI μ s hJ=>?_
 .subst hJ;dsimp only;rw[avJ];refine fK abn ⟨⟨abn,abn⟩,few _ (getD_mem (d:=(0,0,false,0,[],())) hn),tZ akl,rfl,next _ ?_⟩;rw[map_take _ _ hn (0,0,false,0,[],()),← avE,FC]
 subst hJ;dsimp only;rw[av6 (avt _)];refine fM abn ?_;refine gU (mk:=λi(s:Sp.LS)=>(((),i,()),s,())) (λy=>y.1.2.1) (λ_ _=>rfl) x3.length abn (λn s=>s=Sp.ls (x0.map dJ++[jm x2]++x1.map gu++(x3.take n).map jk)) anC (λI μ n s hn hJ next=>?_) λI μ s hJ=>?_
 .subst hJ;dsimp only;rw[avJ];have hm:=p4 _ (getD_mem (d:=([],[],())) hn);have hv:=qB hm.1;have hq:=(Sp.gW hm.2).2;have ht:=adl (x3.getD n ([],[],())).2.1;refine fK abn ⟨⟨abn,abn⟩,bF (by rw[h4];omega),bF (by rw[avn,h4];show _+1<=_;omega),abn,bF (by rw[avn,avn,h4];show 4+_+1+_<=_;omega),tZ akl,rfl,next _ ?_⟩;rw[map_take _ _ hn ([],[],()),← avE,FC];have e:jk (x3.getD n ([],[],()))=[100,105,114,32]++(x3.getD n ([],[],())).1++[32]++Sp.textOf (x3.getD n ([],[],())).2.1:=by unfold jk;simp[jY]
  rw[e]
 .subst hJ;dsimp only;rw[av6 (avt _)];refine fM abn ?_;have e:kD (x0,x1,x2,x3,())=x0.map dJ++[jm x2]++x1.map gu++x3.map jk:=by unfold kD;simp
  rw[e]
theorem xJ:OK jh.e:=by
 refine PA.ok mixed (aC [qO.e,xZ.e,lC.e,wM.e,iO.e] ⟨Hu,Xn,rX,Ve,vN,trivial⟩) Qz abu (show∀x0 x1 x2 x3,jh.goal (O3 x0 x1 x2 x3) ((x0,x1,x2,x3,()),())from ?_);intro x0 x1 x2 x3 hin hp;dsimp only[jh]at hp ⊢;have hp:bP (x0,x1,x2,x3,()):=hp;refine⟨hp,af (λh=>?_) λh=>?_⟩
 .have h:bT (x0,x1,x2,x3,())=false:=iY h;rw[anz h]
 have h:bT (x0,x1,x2,x3,())=true:=fG h;obtain⟨p1,p2,p3,p4,p5,p6,p7⟩:=Ag h;have few:=λf hf=>akH h (f:=f) hf;rw[Au h];dsimp only at p1 p2 p3 p4 p5 p6 p7 few;have hn:=(iC p3).2.2.2.2;have h5:∀a b c d e:UInt8,([a,b,c,d,e]:List UInt8).length=5:=λ_ _ _ _ _=>rfl;have h4:∀a b c d:UInt8,([a,b,c,d]:List UInt8).length=4:=λ_ _ _ _=>rfl;have one:∀x:List UInt8×Unit,[x].length=1:=λ_=>rfl;refine gU (mk:=λi(s:Sp.LS)=>(((),i,()),s,())) (λy=>y.1.2.1) (λ_ _=>rfl) x0.length abn (λn s=>s=Sp.ls ((x0.take n).map dJ)) rfl (λI μ n s hn hJ next=>?_) λI μ s hJ=>?_
 .subst hJ;dsimp only;rw[avJ];have hm:=p1 _ (getD_mem (d:=([],0,())) hn);refine fK abn ⟨⟨abn,abn⟩,avx (abb hm.1) abA,tZ (by rw[one];simp only[Sp.ls,avI,avz];omega),rfl,next _ ?_⟩;rw[map_take _ _ hn ([],0,()),FC]
 subst hJ;dsimp only;rw[av6 (avt _)];refine fM abn ⟨trivial,bF (by rw[h5];omega),tZ (by rw[one];simp only[Sp.ls,avI];omega),?_⟩;have e1:Sp.ls (x0.map dJ)++[([110,101,120,116,32]++Lib.itoa x2,())]=Sp.ls (x0.map dJ++[jm x2]):=(FC _ _).symm;rw[e1];refine gU (mk:=λi(s:Sp.LS)=>(((),i,()),s,())) (λy=>y.1.2.1) (λ_ _=>rfl) x1.length abn (λn s=>s=Sp.ls (x0.map dJ++[jm x2]++(x1.take n).map gu)) anC (λI μ n s hn hJ next=>?_) λI μ s hJ=>?_
 .subst hJ;dsimp only;rw[avJ];refine fK abn ⟨⟨abn,abn⟩,few _ (getD_mem (d:=(0,0,false,0,[],())) hn),tZ akl,rfl,next _ ?_⟩;rw[map_take _ _ hn (0,0,false,0,[],()),← avE,FC]
 subst hJ;dsimp only;rw[av6 (avt _)];refine fM abn ?_;refine gU (mk:=λi(s:Sp.LS)=>(((),i,()),s,())) (λy=>y.1.2.1) (λ_ _=>rfl) x3.length abn (λn s=>s=Sp.ls (x0.map dJ++[jm x2]++x1.map gu++(x3.take n).map jk)) anC (λI μ n s hn hJ next=>?_) λI μ s hJ=>?_
 .subst hJ;dsimp only;rw[avJ];have hm:=p4 _ (getD_mem (d:=([],[],())) hn);have hv:=qB hm.1;have hq:=(Sp.gW hm.2).2;have ht:=adl (x3.getD n ([],[],())).2.1;refine fK abn ⟨⟨abn,abn⟩,bF (by rw[h4];omega),bF (by rw[avn,h4];show _+1<=_;omega),⟨abn,abn⟩,abn,bF (by rw[avn,avn,h4];show 4+_+1+_<=_;omega),tZ akl,rfl,next _ ?_⟩;rw[map_take _ _ hn ([],[],()),← avE,FC];have e:jk (x3.getD n ([],[],()))=[100,105,114,32]++(x3.getD n ([],[],())).1++[32]++Sp.textOf (x3.getD n ([],[],())).2.1:=by unfold jk;simp[jY]
  rw[e]
 .subst hJ;dsimp only;rw[av6 (avt _)];refine fM abn ?_;have e:kD (x0,x1,x2,x3,())=x0.map dJ++[jm x2]++x1.map gu++x3.map jk:=by unfold kD;simp
  rw[e]
end Go.Proofs.Tryz
namespace Go.Proofs.Tryz
open Go Go.Fw Go.IntWalk Sp
set_option maxRecDepth 100000
theorem aiW(s:List UInt8){n:Nat}(h:n<s.length):Sp.sumOf (s.take (n+1))=(33*Sp.sumOf (s.take n)+((s.getD n 0).toNat:Int)).tmod 65521:=by unfold Sp.sumOf;rw[awu h,List.foldl_append,avr,avv h];rfl
theorem abd:OK BB.e:=by
 refine PA.ok mixed (aC [] trivial) adn abu (show∀s,BB.goal (abe s) (s,())from ?_);intro s hin hp;dsimp only[BB]at hp ⊢;have hs:s.length<=1048576:=hp;refine gU (mk:=λi(v:Int)=>((v,i,()),())) (λy=>y.1.2.1) (λ_ _=>rfl) s.length abn (λn v=>v=Sp.sumOf (s.take n)) rfl (λI μ n v hn hJ next=>?_) λI μ v hJ=>?_
 .subst hJ;have hr:=Xp (s.take n);have hb:(s.getD n 0).toNat<256:=(s.getD n 0).toNat_lt;dsimp only;rw[avJ];have e:(IntKind.i64.wrap (IntKind.i64.wrap (Sp.sumOf (s.take n)*33)+IntKind.i64.wrap ((s.getD n 0).toNat:Int)))=33*Sp.sumOf (s.take n)+((s.getD n 0).toNat:Int):=by rw[wrap_in (z:=Sp.sumOf (s.take n)*33) abn,wrap_in (z:=((s.getD n 0).toNat:Int)) abn,wrap_in abn];omega
  rw[e];exact fK abn ⟨⟨abn,abn⟩,abA,rfl,next _ (aiW s hn).symm⟩
 .subst hJ;dsimp only;rw[av6 (avt _)];exact fM abn rfl
theorem abf:OK BD.e:=by
 refine PA.ok mixed (aC [] trivial) ado abu (show∀s,BD.goal (abg s) (s,())from ?_);intro s hin hp;dsimp only[BD]at hp ⊢;have hs:s.length<=1048576:=hp;refine gU (mk:=λi(v:Int)=>((v,i,()),())) (λy=>y.1.2.1) (λ_ _=>rfl) s.length abn (λn v=>v=Sp.sumOf (s.take n)) rfl (λI μ n v hn hJ next=>?_) λI μ v hJ=>?_
 .subst hJ;have hr:=Xp (s.take n);have hb:(s.getD n 0).toNat<256:=(s.getD n 0).toNat_lt;dsimp only;rw[avJ];have e:(IntKind.i64.wrap (IntKind.i64.wrap (33*Sp.sumOf (s.take n))+IntKind.i64.wrap ((s.getD n 0).toNat:Int)))=33*Sp.sumOf (s.take n)+((s.getD n 0).toNat:Int):=by rw[wrap_in (z:=33*Sp.sumOf (s.take n)) abn,wrap_in (z:=((s.getD n 0).toNat:Int)) abn,wrap_in abn]
  rw[e];exact fK abn ⟨⟨abn,abn⟩,abA,rfl,next _ (aiW s hn).symm⟩
 .subst hJ;dsimp only;rw[av6 (avt _)];exact fM abn rfl
theorem IB{n:Int}{x:aV}(h:bT x=true)(h1:1<=n)(h2:n<=1000000000)(m:Nat):(Sp.linesT (Lib.itoa n::(kD x).take m)).length<=14424:=by
 obtain⟨e1,e2⟩:=FD h;have hn:=(iC (ig.2 (show 0<=n/\n<=1000000000 from abn))).2.2.2.2;have:=al1 (Lib.itoa n::(kD x).take m) λw hw=>by
  rcases avF.1 hw with rfl|hw
  .omega
  .exact(e1 w (aw2 hw)).1
 rw[avq,avz]at this;have h3:(min m (kD x).length+1)*601<=24*601:=avO _ abn;omega
theorem akI(l:List (List UInt8))(n:Nat):((Sp.ls l).getD n ([],())).1=l.getD n []:=by unfold Sp.ls;rw[avr,avr,awn];cases l[n]? <;>rfl
theorem getD_in{α:Type}{l:List α}{n:Nat}{d:α}(h:n<l.length):l.getD n d∈l:=by rw[avr,avv h];exact awV h
theorem af0(l:List (List UInt8)){n:Nat}(h:n<l.length):l.take (n+1)=l.take n++[l.getD n []]:=by rw[awu h,avr,avv h];rfl
theorem Cj:OK pJ.e:=by
 refine PA.ok mixed (aC [BB.e,jh.e,lC.e,ja.e,iO.e] ⟨abd,xJ,rX,kz,vN,trivial⟩) YV abu (show∀version x0 x1 x2 x3,pJ.goal (Xq version x0 x1 x2 x3) (version,(x0,x1,x2,x3,()),())from ?_);intro v x0 x1 x2 x3 hin hp;dsimp only[pJ]at hp ⊢;have hp:bP (x0,x1,x2,x3,()):=hp;refine⟨λ_=>bT (x0,x1,x2,x3,())=true/\1<=v/\v<=1000000000,⟨hp,?_⟩,λ_ hy=>?_⟩
 .refine af (λh=>?_) λh=>⟨trivial,af (λg=>?_) λg=>?_⟩
  .unfold Sp.slot;rw[iY h];rfl
  .have g:(decide (1<=v)&&decide (v<=1000000000))=false:=iY g;unfold Sp.slot;rw[g,awO];rfl
  .have g:(decide (1<=v)&&decide (v<=1000000000))=true:=fG g;rw[avo,avC,avC]at g;exact⟨rfl,fG h,g.1,g.2⟩
 obtain⟨h,h1,h2⟩:=hy;obtain⟨e1,e2⟩:=FD h;have hn:=(iC (ig.2 (show 0<=v/\v<=1000000000 from abn))).2.2.2.2;have one:∀x:UInt8,[x].length=1:=λ_=>rfl;rw[KG h h1 h2];refine⟨trivial,bF (by rw[one];omega),hp,?_⟩;dsimp only;rw[Au h,aiX];refine gU (mk:=λi(s:List UInt8)=>((s,i,()),())) (λy=>y.1.2.1) (λ_ _=>rfl) (kD (x0,x1,x2,x3,())).length abn (λn s=>s=Sp.linesT (Lib.itoa v::(kD (x0,x1,x2,x3,())).take n)) (by show Lib.itoa v++[10]=Lib.itoa v++[10]++[];rw[avU]) (λI μ n s hnl hJ next=>?_) λI μ s hJ=>?_
 .have hb:=IB h h1 h2 n;rw[← hJ]at hb;have hl:=(e1 _ (getD_in (d:=[]) hnl)).1;dsimp only;rw[avJ,akI];refine fK abn ⟨⟨abn,abn⟩,bF abn,bF asQ,rfl,next _ ?_⟩;rw[af0 _ hnl,hJ,show Lib.itoa v::((kD (x0,x1,x2,x3,())).take n++[(kD (x0,x1,x2,x3,())).getD n []])=(Lib.itoa v::(kD (x0,x1,x2,x3,())).take n)++[(kD (x0,x1,x2,x3,())).getD n []]from rfl,Zu,avE]
 .have hb:=IB h h1 h2 (kD (x0,x1,x2,x3,())).length;rw[← hJ]at hb;rw[av6 (avt _)]at hJ;have hJ:s=jv v (x0,x1,x2,x3,()):=hJ;have hs:=(iC (MC s)).2.2.2.2;dsimp only;rw[← hJ];refine fM abn ⟨abn,trivial,bF abn,bF asQ,?_⟩;rw[avE]
theorem Ja:OK rQ.e:=by
 refine PA.ok mixed (aC [BD.e,jI.e,nR.e,jo.e,iM.e] ⟨abf,Ec,yx,kJ,vO,trivial⟩) YW abu (show∀version x0 x1 x2 x3,rQ.goal (Xr version x0 x1 x2 x3) (version,(x0,x1,x2,x3,()),())from ?_);intro v x0 x1 x2 x3 hin hp;dsimp only[rQ]at hp ⊢;have hp:bP (x0,x1,x2,x3,()):=hp;refine⟨λ_=>bT (x0,x1,x2,x3,())=true/\1<=v/\v<=1000000000,⟨hp,?_⟩,λ_ hy=>?_⟩
 .refine af (λh=>?_) λh=>⟨trivial,af (λg=>?_) λg=>?_⟩
  .unfold Sp.slot;rw[iY h];rfl
  .have g:(decide (1<=v)&&decide (v<=1000000000))=false:=iY g;unfold Sp.slot;rw[g,awO];rfl
  .have g:(decide (1<=v)&&decide (v<=1000000000))=true:=fG g;rw[avo,avC,avC]at g;exact⟨rfl,fG h,g.1,g.2⟩
 obtain⟨h,h1,h2⟩:=hy;obtain⟨e1,e2⟩:=FD h;have hn:=(iC (ig.2 (show 0<=v/\v<=1000000000 from abn))).2.2.2.2;have one:∀x:UInt8,[x].length=1:=λ_=>rfl;rw[KG h h1 h2];refine⟨trivial,bF (by rw[one];omega),hp,?_⟩;dsimp only;rw[Au h,aiX];refine gU (mk:=λi(s:List UInt8)=>((s,i,()),())) (λy=>y.1.2.1) (λ_ _=>rfl) (kD (x0,x1,x2,x3,())).length abn (λn s=>s=Sp.linesT (Lib.itoa v::(kD (x0,x1,x2,x3,())).take n)) (by show Lib.itoa v++[10]=Lib.itoa v++[10]++[];rw[avU]) (λI μ n s hnl hJ next=>?_) λI μ s hJ=>?_
 .have hb:=IB h h1 h2 n;rw[← hJ]at hb;have hl:=(e1 _ (getD_in (d:=[]) hnl)).1;dsimp only;rw[avJ,akI];refine fK abn ⟨⟨abn,abn⟩,bF (by rw[one];omega),bF asQ,rfl,next _ ?_⟩;rw[af0 _ hnl,hJ,show Lib.itoa v::((kD (x0,x1,x2,x3,())).take n++[(kD (x0,x1,x2,x3,())).getD n []])=(Lib.itoa v::(kD (x0,x1,x2,x3,())).take n)++[(kD (x0,x1,x2,x3,())).getD n []]from rfl,Zu]
 .have hb:=IB h h1 h2 (kD (x0,x1,x2,x3,())).length;rw[← hJ]at hb;rw[av6 (avt _)]at hJ;have hJ:s=jv v (x0,x1,x2,x3,()):=hJ;have hs:=(iC (MC s)).2.2.2.2;dsimp only;rw[← hJ];refine fM abn ⟨abn,trivial,bF abn,bF asQ,?_⟩;rw[avE]
theorem anA(s:List UInt8){n b:Nat}(h:n<s.length)(hb:b<=n):(s.take (n+1)).drop b=(s.take n).drop b++[s.getD n 0]:=by rw[awu h,awR aiO,avr,avv h];rfl
theorem aeG:OK Ew.e:=by
 refine PA.ok mixed (aC [] trivial) agS abu (show∀s,Ew.goal (ae7 s) (s,())from ?_);intro s hin hp;dsimp only[Ew]at hp ⊢;have hs:s.length<=1048576:=hp;refine gU (s0:=((0:Int),([]:Sp.LS))) (mk:=λi(v:Int×Sp.LS)=>(((),v.1,i,()),v.2,())) (λy=>y.1.2.2.1) (λ_ _=>rfl) s.length abn (λn v=>v.2.length<=n/\∃b:Nat,v.1=b/\b<=n/\v.2++dB 10 ((s.take n).drop b) (s.drop n)=Sp.pieces 10 s)
  ⟨avt _,0,rfl,avt _,rfl⟩ (λI μ n v hn hJ next=>?_) λI μ v hJ=>?_
 .obtain⟨v1,v2⟩:=v;obtain⟨hl,b,rfl,hbn,he⟩:=hJ;dsimp only at hl he ⊢;rw[avJ,avJ];rw[drop_cons s n 0 hn]at he;refine fK abn ⟨⟨abn,abn⟩,af (λh2=>?_) λh2=>?_⟩
  .have hx:(s.getD n 0==10)=true:=by have:=avS.1 h2;exact avS.2 (UInt8.toNat_inj.1 (by show _=10;omega))
   rw[dB,hx]at he;have ew:IntKind.i64.wrap ((n:Int)+1)=((n+1:Nat):Int):=fD _ abn;refine⟨⟨abn,abn,abn⟩,tZ akY,rfl,next (_,_) ⟨by rw[avn];exact ayG hl,n+1,ew,avt _,?_⟩⟩;have hnil:(s.take (n+1)).drop (n+1)=[]:=List.drop_eq_nil_of_le aiO;rw[← he,avE,hnil];rfl
  .have hx:(s.getD n 0==10)=false:=by refine avp.2 λe=>avp.1 h2 ?_;rw[e];rfl
   rw[dB,hx]at he;refine⟨rfl,next (_,_) ⟨av9 hl,b,rfl,abn,?_⟩⟩;rw[anA s hn hbn];exact he
 .obtain⟨v1,v2⟩:=v;obtain⟨hl,b,rfl,hbn,he⟩:=hJ;dsimp only at hl he ⊢;refine fM abn ?_;rw[List.drop_length]at he;have he:v2++[((s.take s.length).drop b,())]=Sp.pieces 10 s:=he;show(v2,())=(qw s,());unfold qw;rw[← he,avn,avq,avu,ax1,ayL]
theorem agI:OK FT.e:=by refine PA.ok mixed (aC [] trivial) H0 abu (show∀n low high,FT.goal (agT n low high) (n,low,high,())from ?_);intro n lo hi hin hp;dsimp only[FT]at hp ⊢;have hp:lo<=hi:=hp;show(_,())=(max lo (min n hi),());refine congrArg (·,()) ?_;split<;>split<;>omega
theorem agJ:OK FQ.e:=by
 refine PA.ok mixed (aC [] trivial) H0 abu (show∀n least most,FQ.goal (agU n least most) (n,least,most,())from ?_);intro n lo hi hin hp;dsimp only[FQ]at hp ⊢;have hp:lo<=hi:=hp;refine af (λh=>asY) λ_=>af (λh=>?_) λh=>af (λh2=>?_) λh2=>?_
 .have:=fB h;show(lo,())=(max lo (min n hi),());exact congrArg (·,()) abn
 .have:=fO h;have:=fB h2;show(hi,())=(max lo (min n hi),());exact congrArg (·,()) abn
 .have:=fO h;have:=fO h2;show(n,())=(max lo (min n hi),());exact congrArg (·,()) abn
end Go.Proofs.Tryz
namespace Go.Proofs.Tryz
open Go Go.Fw Go.IntWalk Sp
set_option maxRecDepth 100000
theorem aiv:bT (Sp.usual,[],1,[],())=true:=by unfold bT;rw[show bW (Ci (Sp.usual,[],1,[],()))=true by decide];exact(lY (d:=[])).2 ⟨abA,λ_=>0,λe he=>by cases he⟩
theorem Fv:aG []:=⟨abA,λy hy=>by have hy:y∈[(([]:List UInt8),())]:=hy;rw[avP.1 hy];exact avM _⟩
end Go.Proofs.Tryz
namespace Go.Proofs.Tryz
open Go Go.Fw Go.RowKit Sp
set_option maxRecDepth 100000
theorem lZ{h:Array Obj}{S:Nat->Prop}{e:TypeId}{r:ax}{v:Value}{l:List r.den}(H:cZ h S (.sl e r) v l):∃a c,v=.slice a l.length c:=by
 rcases H.2 with⟨rfl,a,c,e⟩|⟨b,off,cap,cs,t,fz,e,_⟩
 .exact⟨a,c,e⟩
 .exact⟨_,_,e⟩
theorem GR(c:UInt8)(hc32:c=32\/c=10)(s:List UInt8)(hs:s.length<=1048576)(w:World)(hG:G.ok w):Calls prog 86 #[.string ⟨s.toArray⟩,.string ⟨#[c]⟩] w λe w'=>
 ∃v,e=.returned v/\FW w'.heap.size w' v (Sp.pieces c s)/\Below w.heap.size w w':=by
 have hc:fJ prog G 86 (iy zL Du Np):=LG;refine(hc [.sv (.one (.str s)),.sv (.one (.str [c]))] (s.length<=4294960000/\(([c]:List UInt8)=[32]\/([c]:List UInt8)=[10])) _ 0 (λ_=>True) #[.string ⟨s.toArray⟩,.string ⟨#[c]⟩] w rfl ⟨abn,hc32.imp (λe=>asN) λe=>asN⟩ hG ⟨⟨rfl,ac2⟩,⟨rfl,by rw[maxLen_eq];show 1<=_;decide⟩,trivial⟩).mono ?_;rintro e w' ⟨v,vals,rfl,h1,h2,h3,h4,h5,h6,_,_⟩;have ha:cZ w'.heap _ (.sl aY dQ) v (Sp.pieces c s):=h6;refine⟨v,rfl,⟨ha.1,?_⟩,h1,h2,h3,h4,h5⟩;rcases ha.2 with h|⟨b,off,cap,cs,t,fz,e1,e2,e3,e4,e5⟩
 .exact .inl h
 .exact .inr ⟨b,off,cap,cs,t,fz,e1,e2,e3.1.1,e4,λi x hx=>aJ.flat (S:=_) _ _ _ rfl (e5 i x hx)⟩
theorem aqe(s:List UInt8)(hs:s.length<=1048576)(w:World)(hG:G.ok w):Calls prog 87 #[.string ⟨s.toArray⟩] w λe w'=>
 e=.returned (.tuple #[.int .i64 (Sp.parseNum s),.bool (bf s)])/\Below w.heap.size w w':=by
 have hc:fJ prog G 87 (iy xX BM KP):=yj;refine(hc [.sv (.one (.str s))] True _ 0 (λ_=>True) #[.string ⟨s.toArray⟩] w rfl trivial hG ⟨⟨rfl,ac2⟩,trivial⟩).mono ?_;rintro e w' ⟨v,vals,rfl,h1,h2,h3,h4,h5,h6,_,_⟩;obtain⟨vs,rfl,h7⟩:=h6;obtain⟨l⟩:=vs
 match l,h7 with
 |[x,y],h7=>obtain⟨hx,hy,_⟩:=h7;have hx:x=.int .i64 (Sp.parseNum s):=hx.1;have hy:y=.bool (bf s):=hy;rw[hx,hy];exact⟨rfl,h1,h2,h3,h4,h5⟩
theorem wY{w:World}{v:Value}{f:Sp.LS}(h:FW w.heap.size w v f):oC ⟨w,w.heap.size,λ_=>True,λ_=>undef,λ_=>none⟩ (.sv (.one (.sl aY dQ f false))) v:=
 cZ.mono (S':=V.cu ⟨w,w.heap.size,λ_=>True,λ_=>undef,λ_=>none⟩ false) (h':=w.heap) (λb hb=>⟨⟨⟨hb,λ_=>trivial,λo x hx=>afg⟩,λe=>ahB⟩,rfl⟩) _ _ _ h
theorem aqf(v:Value)(f:Sp.LS)(w:World)(hv:FW w.heap.size w v f)(hf:f.length<=1000)(hx:∀x∈f,x.1.length<=1048576)(hG:G.ok w):Calls prog 106 #[v] w λe w'=>
 ∃a c,e=.returned (.tuple #[.agg #[.int .i64 (jB f).1.1,.int .i64 (jB f).1.2.1,.bool (jB f).1.2.2.1,.int .i64 (jB f).1.2.2.2.1,.slice a (jB f).1.2.2.2.2.1.length c],.bool (jB f).2])/\Below w.heap.size w w'/\
  cZ w'.heap (λb=>w.heap.size<=b/\b<w'.heap.size) (.sl fQ fP) (.slice a (jB f).1.2.2.2.2.1.length c) (jB f).1.2.2.2.2.1/\sV (jB f).1.1/\sV (jB f).1.2.1/\sV (jB f).1.2.2.2.1:=by
 have hcon:fJ prog G 106 (iy vT.sh vT.bI vT.F):=ae1.1;refine(hcon [.sv (.one (.sl aY dQ f false))] (f.length<=1000/\(∀x∈f,x.1.length<=1048576)) _ 0 (λ_=>True) #[v] w rfl ⟨hf,hx⟩ hG ⟨wY hv,trivial⟩).mono ?_;rintro e w' ⟨v,vals,rfl,h1,h2,h3,h4,h5,h6,_,_⟩;obtain⟨vs,rfl,h7⟩:=h6;obtain⟨l⟩:=vs
 match l,h7 with
 |[x,y],h7=>
  obtain⟨⟨us,rfl,h8⟩,hy,_⟩:=h7;have hy:y=.bool (jB f).2:=hy;obtain⟨ul⟩:=us
  match ul,h8 with
  |[a1,a2,a3,a4,a5],h8=>obtain⟨b1,b2,b3,b4,b5,_⟩:=h8;have b3:a3=.bool (jB f).1.2.2.1:=b3;have b5:cZ w'.heap _ (.sl fQ fP) a5 (jB f).1.2.2.2.2.1:=b5;obtain⟨a,c,e5⟩:=lZ b5;rw[e5]at b5;rw[hy,b1.1,b2.1,b3,b4.1,e5];exact⟨a,c,rfl,⟨h1,h2,h3,h4,h5⟩,cZ.mono (λb hb=>⟨⟨hb.2 rfl,hb.1.1⟩,rfl⟩) _ _ _ b5,b1.2,b2.2,b4.2⟩
theorem aqg(v:Value)(f:Sp.LS)(w:World)(hv:FW w.heap.size w v f)(hf:f.length<=1000)(hj:(gy f).length<=1048576)(hG:G.ok w):Calls prog 74 #[v,.string ⟨#[32]⟩] w λe w'=>
 e=.returned (.string ⟨(gy f).toArray⟩)/\Below w.heap.size w w':=by
 have hcon:fJ prog G 74 (iy Bv EI Pg):=Gl;refine(hcon [.sv (.one (.sl aY dQ f false)),.sv (.one (.str [32]))] (f.length<=140737488355328/\(Lib.join (f.map (·.1)) [32]).length<=140737488355328) _ 0 (λ_=>True) #[v,.string ⟨#[32]⟩] w rfl ⟨abn,by have:(Lib.join (f.map (·.1)) [32]).length<=1048576:=hj;omega⟩ hG ⟨wY hv,⟨rfl,by rw[maxLen_eq];decide⟩,trivial⟩).mono ?_;rintro e w' ⟨v,vals,rfl,h1,h2,h3,h4,h5,h6,_,_⟩;have h6:v=.string ⟨(gy f).toArray⟩/\_:=h6;rw[h6.1];exact⟨rfl,h1,h2,h3,h4,h5⟩
theorem aqh(s:List UInt8)(hs:s.length<=1048576)(w:World)(hG:G.ok w):Calls prog 107 #[.string ⟨s.toArray⟩] w λe w'=>
 ∃a c,e=.returned (.tuple #[.slice a (fU s).length c,.bool (gB s)])/\Below w.heap.size w w'/\cZ w'.heap (λb=>w.heap.size<=b/\b<w'.heap.size) (.sl aN bG) (.slice a (fU s).length c) (fU s):=by
 have hcon:fJ prog G 107 (iy wL Ba JD):=Xl;refine(hcon [.sv (.one (.str s))] (s.length<=1048576) _ 0 (λ_=>True) #[.string ⟨s.toArray⟩] w rfl hs hG ⟨⟨rfl,ac2⟩,trivial⟩).mono ?_;rintro e w' ⟨v,vals,rfl,h1,h2,h3,h4,h5,h6,_,_⟩;obtain⟨vs,rfl,h7⟩:=h6;obtain⟨l⟩:=vs
 match l,h7 with
 |[x,y],h7=>obtain⟨hx,hy,_⟩:=h7;have hx:cZ w'.heap _ (.sl aN bG) x (fU s):=hx;have hy:y=.bool (gB s):=hy;obtain⟨a,c,ex⟩:=lZ hx;rw[ex]at hx;rw[hy,ex];exact⟨a,c,rfl,⟨h1,h2,h3,h4,h5⟩,cZ.mono (λb hb=>⟨⟨hb.2 rfl,hb.1.1⟩,rfl⟩) _ _ _ hx⟩
end Go.Proofs.Tryz
namespace Go.Proofs.Tryz
open Go Go.Fw Go.RowKit Sp
set_option maxRecDepth 100000
def OL(w:World)(B:Nat)(F:Nat->Prop)(e:TypeId)(r:ax)(v:Value)(l:List r.den):Prop:=
 ∃xs,w.ownsRow B e r.len v l.length xs/\∀i x,l[i]? =some x->aJ w.heap F r ((xs.drop (i*r.len)).take r.len) x
structure Sn(B:Nat)(w:World)(va vl vd:Value)(x:aV)(F:Nat->Prop):Prop where
 fa:OL w B F 54 bK va x.1
 fl:OL w B F 51 dI vl x.2.1
 fd:OL w B F 93 dA vd x.2.2.2.1
 nx:sV x.2.2.1
 ne:∀g,(va.ownBlock=some g->vl.ownBlock≠some g/\vd.ownBlock≠some g)/\(vl.ownBlock=some g->vd.ownBlock≠some g)
 foot:∀b,F b->B<=b/\b<w.heap.size/\va.ownBlock≠some b/\vl.ownBlock≠some b/\vd.ownBlock≠some b
theorem OL.keep{w w':World}{B:Nat}{F:Nat->Prop}{e:TypeId}{r:ax}{v:Value}{l:List r.den}(h:OL w B F e r v l)(hk:∀b,v.ownBlock=some b->w'.heap[b]? =w.heap[b]?)(hF:∀b,F b->w'.heap[b]? =w.heap[b]?):OL w' B F e r v l:=by obtain⟨xs,h1,h2⟩:=h;exact⟨xs,uK h1 hk,λi x hx=>aJ.mono (λb hb=>⟨hb,hF b hb⟩) _ _ _ (h2 i x hx)⟩
theorem OL.mono{w:World}{B:Nat}{F F':Nat->Prop}{e:TypeId}{r:ax}{v:Value}{l:List r.den}(h:OL w B F e r v l)(hF:∀b,F b->F' b):OL w B F' e r v l:=by obtain⟨xs,h1,h2⟩:=h;exact⟨xs,h1,λi x hx=>aJ.mono (λb hb=>⟨hF b hb,rfl⟩) _ _ _ (h2 i x hx)⟩
theorem OL.lt{w:World}{B:Nat}{F:Nat->Prop}{e:TypeId}{r:ax}{v:Value}{l:List r.den}(h:OL w B F e r v l){g:Nat}(hg:v.ownBlock=some g):B<=g/\g<w.heap.size:=by obtain⟨xs,h1,_⟩:=h;exact h1.lt g hg
theorem OL.form{w:World}{B:Nat}{F:Nat->Prop}{e:TypeId}{r:ax}{v:Value}{l:List r.den}(h:OL w B F e r v l):∃a c,v=.slice a l.length c:=by
 obtain⟨xs,h1,_⟩:=h;rcases h1.2 with⟨e1,e2⟩|⟨g,cap,cur,e1,_⟩
 .exact⟨none,0,by rw[e1,e2]⟩
 .exact⟨_,_,e1⟩
theorem OL.nil{w:World}{B:Nat}{F:Nat->Prop}{e:TypeId}{r:ax}:OL w B F e r (.slice none 0 0) []:=⟨[],axv _ _ _ _,λi x hx=>by simp at hx⟩
theorem OL.rep{w:World}{B:Nat}{F S:Nat->Prop}{e:TypeId}{r:ax}{v:Value}{l:List r.den}(h:OL w B F e r v l)(hr:0<r.len)(hS:∀b,F b\/v.ownBlock=some b->S b):cZ w.heap S (.sl e r) v l:=by
 obtain⟨xs,h1,h2⟩:=h;rcases h1.2 with⟨e1,e2⟩|⟨g,cap,cur,e1,e2,e3,e4,e5,e6,e7⟩
 .exact⟨by rw[e2];exact avM _,.inl ⟨awm.1 e2,none,0,e1⟩⟩
 .refine⟨avx e4 e5,.inr ⟨g,0,cap,cur,e,(0,0),e1,e4,hS g (.inr (by rw[e1];rfl)),e3,λi x hx=>?_⟩⟩;have hi:=(avG.1 hx).1;have:=h2 i x hx;have hmul:(i+1)*r.len<=l.length*r.len:=avO _ hi;rw[av8,ax8]at hmul;rw[← e7,ayr,ax3,axU abn]at this;rw[avV];exact aJ.mono (λb hb=>⟨hS b (.inl hb),rfl⟩) _ _ _ this
theorem aoM{xs ys:List Value}{n z j:Nat}(h:xs.length=n*z)(hj:j<n):((xs++ys).drop (j*z)).take z=(xs.drop (j*z)).take z:=by have:(j+1)*z<=n*z:=avO _ hj;rw[av8,ax8]at this;rw[awR abn,axk amS]
theorem OL.push{w w':World}{B:Nat}{F F':Nat->Prop}{e:TypeId}{r:ax}{v':Value}{l:List r.den}{x:r.den}{xs ys:List Value}(h2:∀i x,l[i]? =some x->aJ w.heap F r ((xs.drop (i*r.len)).take r.len) x)(hl:xs.length=l.length*r.len)
 (ho:w'.ownsRow B e r.len v' (l.length+1) (xs++ys)) (hk:∀b,F b->F' b/\w'.heap[b]? =w.heap[b]?) (hx:aJ w'.heap F' r ys x):OL w' B F' e r v' (l++[x]):=by
 refine⟨xs++ys,by rw[avn];exact ho,λi y hi=>?_⟩;rcases avN i l.length with hi'|hi'
 .rw[awe hi']at hi;rw[aoM hl hi'];exact aJ.mono hk _ _ _ (h2 i y hi)
 .rw[av1 hi']at hi;have e0:i=l.length:=by have:=(avG.1 hi).1;simp at this;omega
  subst e0;rw[axJ]at hi;cases hi;have hy:=aJ.length _ _ _ hx;rw[← hl,ays,← hy,awE];exact hx
theorem Sn.below{B:Nat}{w w':World}{va vl vd:Value}{x:aV}{F:Nat->Prop}(h:Sn B w va vl vd x F)(k:Below w.heap.size w w'):Sn B w' va vl vd x F:=by have hf:∀b,F b->w'.heap[b]? =w.heap[b]? :=λb hb=>k.block b (h.foot b hb).2.1;exact⟨h.fa.keep (λb hb=>k.block b (h.fa.lt hb).2) hf,h.fl.keep (λb hb=>k.block b (h.fl.lt hb).2) hf,h.fd.keep (λb hb=>k.block b (h.fd.lt hb).2) hf,h.nx,h.ne,λb hb=>⟨(h.foot b hb).1,avT (h.foot b hb).2.1 k.size,(h.foot b hb).2.2⟩⟩
theorem Sn.keep{B:Nat}{w w':World}{va vl vd:Value}{x:aV}{F:Nat->Prop}(h:Sn B w va vl vd x F)(hs:w.heap.size<=w'.heap.size)(k:∀b,B<=b->b<w.heap.size->w'.heap[b]? =w.heap[b]?):Sn B w' va vl vd x F:=by have hf:∀b,F b->w'.heap[b]? =w.heap[b]? :=λb hb=>k b (h.foot b hb).1 (h.foot b hb).2.1;exact⟨h.fa.keep (λb hb=>k b (h.fa.lt hb).1 (h.fa.lt hb).2) hf,h.fl.keep (λb hb=>k b (h.fl.lt hb).1 (h.fl.lt hb).2) hf,h.fd.keep (λb hb=>k b (h.fd.lt hb).1 (h.fd.lt hb).2) hf,h.nx,h.ne,λb hb=>⟨(h.foot b hb).1,avT (h.foot b hb).2.1 hs,(h.foot b hb).2.2⟩⟩
theorem Sn.ahc{B:Nat}{w w0 w5:World}{va vl vd:Value}{x:aV}{F N:Nat->Prop}(h:Sn B w va vl vd x F)(hB:B<=w.heap.size)(hb:Below w.heap.size w w0){y:dW}{xs ys:List Value}(hown:w.ownsRow B 54 2 va x.1.length xs)
 (hrep:∀i z,x.1[i]? =some z->aJ w.heap F bK ((xs.drop (i*2)).take 2) z) {g cap:Nat} (h5:w5.ownsRow B 54 2 (.slice (some ⟨g,0,none⟩) (x.1.length+1) cap) (x.1.length+1) (xs++ys)) (hg:w0.grownBy w5 va.ownBlock) (hat:va.ownBlock=some g\/g=w0.heap.size) (hlt:g<w5.heap.size)
 (hN:∀b,N b->w.heap.size<=b/\b<w0.heap.size) (hx:aJ w0.heap N bK ys y):Sn B w5 (.slice (some ⟨g,0,none⟩) (x.1.length+1) cap) vl vd (x.1++[y],x.2.1,x.2.2.1,x.2.2.2.1,()) (λb=>F b\/N b):=by
 have hs0:=hb.size;have hs5:=hg.size;have same:∀b,b<w.heap.size->va.ownBlock≠some b->w5.heap[b]? =w.heap[b]? :=λb hlb hnb=>(hg.block b (avT hlb hs0) (λe=>hnb e.symm)).trans (hb.block b hlb);have hF:∀b,F b->w5.heap[b]? =w.heap[b]? :=λb hb2=>same b (h.foot b hb2).2.1 (h.foot b hb2).2.2.1;have own:∀b,va.ownBlock=some b->b<w.heap.size:=λb e=>(h.fa.lt e).2;have o1:∀b,vl.ownBlock=some b->b<w.heap.size/\va.ownBlock≠some b/\g≠b:=λb e=>by
  have hl:=(h.fl.lt e).2;have hn:va.ownBlock≠some b:=λe2=>((h.ne b).1 e2).1 e;refine⟨hl,hn,λe2=>?_⟩;subst e2;rcases hat with e3|e3
  .exact hn e3
  .omega
 have o2:∀b,vd.ownBlock=some b->b<w.heap.size/\va.ownBlock≠some b/\g≠b:=λb e=>by
  have hl:=(h.fd.lt e).2;have hn:va.ownBlock≠some b:=λe2=>((h.ne b).1 e2).2 e;refine⟨hl,hn,λe2=>?_⟩;subst e2;rcases hat with e3|e3
  .exact hn e3
  .omega
 refine⟨OL.push (r:=bK) hrep hown.1 h5 (λb hb2=>⟨.inl hb2,hF b hb2⟩) (aJ.mono (λb hb2=>⟨.inr hb2,hg.block b (hN b hb2).2 λe=>apA⟩) _ _ _ hx),(h.fl.keep (λb e=>same b (o1 b e).1 (o1 b e).2.1) hF).mono λb hb2=>.inl hb2,(h.fd.keep (λb e=>same b (o2 b e).1 (o2 b e).2.1) hF).mono λb hb2=>.inl hb2,h.nx,λb=>⟨λe=>?_,λe=>?_⟩,λb hb2=>?_⟩
 .obtain rfl:g=b:=Option.some.inj e;exact⟨λe2=>(o1 g e2).2.2 rfl,λe2=>(o2 g e2).2.2 rfl⟩
 .exact(h.ne b).2 e
 rcases hb2 with hb2|hb2
 .obtain⟨f1,f2,f3,f4,f5⟩:=h.foot b hb2;exact⟨f1,abn,λe=>by
   obtain rfl:g=b:=Option.some.inj e;rcases hat with e3|e3
   .exact f3 e3
   .omega,
   f4,
   f5⟩
 .obtain⟨f1,f2⟩:=hN b hb2;exact⟨abn,abn,λe=>by
   obtain rfl:g=b:=Option.some.inj e;rcases hat with e3|e3
   .have:=own g e3;omega
   .omega,
   λe=>by have:=(o1 b e).1;omega,
   λe=>by have:=(o2 b e).1;omega⟩
theorem Sn.apx{B:Nat}{w w0 w5:World}{va vl vd:Value}{x:aV}{F N:Nat->Prop}(h:Sn B w va vl vd x F)(hB:B<=w.heap.size)(hb:Below w.heap.size w w0){y:aU}{xs ys:List Value}(hown:w.ownsRow B 51 5 vl x.2.1.length xs)
 (hrep:∀i z,x.2.1[i]? =some z->aJ w.heap F dI ((xs.drop (i*5)).take 5) z) {g cap:Nat} (h5:w5.ownsRow B 51 5 (.slice (some ⟨g,0,none⟩) (x.2.1.length+1) cap) (x.2.1.length+1) (xs++ys)) (hg:w0.grownBy w5 vl.ownBlock) (hat:vl.ownBlock=some g\/g=w0.heap.size) (hlt:g<w5.heap.size)
 (hN:∀b,N b->w.heap.size<=b/\b<w0.heap.size) (hx:aJ w0.heap N dI ys y):Sn B w5 va (.slice (some ⟨g,0,none⟩) (x.2.1.length+1) cap) vd (x.1,x.2.1++[y],x.2.2.1,x.2.2.2.1,()) (λb=>F b\/N b):=by
 have hs0:=hb.size;have hs5:=hg.size;have same:∀b,b<w.heap.size->vl.ownBlock≠some b->w5.heap[b]? =w.heap[b]? :=λb hlb hnb=>(hg.block b (avT hlb hs0) (λe=>hnb e.symm)).trans (hb.block b hlb);have hF:∀b,F b->w5.heap[b]? =w.heap[b]? :=λb hb2=>same b (h.foot b hb2).2.1 (h.foot b hb2).2.2.2.1;have own:∀b,vl.ownBlock=some b->b<w.heap.size:=λb e=>(h.fl.lt e).2;have o1:∀b,va.ownBlock=some b->b<w.heap.size/\vl.ownBlock≠some b/\g≠b:=λb e=>by
  have hl:=(h.fa.lt e).2;have hn:vl.ownBlock≠some b:=λe2=>((h.ne b).1 e).1 e2;refine⟨hl,hn,λe2=>?_⟩;subst e2;rcases hat with e3|e3
  .exact hn e3
  .omega
 have o2:∀b,vd.ownBlock=some b->b<w.heap.size/\vl.ownBlock≠some b/\g≠b:=λb e=>by
  have hl:=(h.fd.lt e).2;have hn:vl.ownBlock≠some b:=λe2=>(h.ne b).2 e2 e;refine⟨hl,hn,λe2=>?_⟩;subst e2;rcases hat with e3|e3
  .exact hn e3
  .omega
 refine⟨(h.fa.keep (λb e=>same b (o1 b e).1 (o1 b e).2.1) hF).mono λb hb2=>.inl hb2,OL.push (r:=dI) hrep hown.1 h5 (λb hb2=>⟨.inl hb2,hF b hb2⟩) (aJ.mono (λb hb2=>⟨.inr hb2,hg.block b (hN b hb2).2 λe=>apA⟩) _ _ _ hx),(h.fd.keep (λb e=>same b (o2 b e).1 (o2 b e).2.1) hF).mono λb hb2=>.inl hb2,h.nx,λb=>⟨λe=>?_,λe=>?_⟩,λb hb2=>?_⟩
 .exact⟨λe2=>(o1 b e).2.2 (Option.some.inj e2),((h.ne b).1 e).2⟩
 .obtain rfl:g=b:=Option.some.inj e;exactλe2=>(o2 g e2).2.2 rfl
 rcases hb2 with hb2|hb2
 .obtain⟨f1,f2,f3,f4,f5⟩:=h.foot b hb2;exact⟨f1,abn,f3,
   λe=>by
   obtain rfl:g=b:=Option.some.inj e;rcases hat with e3|e3
   .exact f4 e3
   .omega,
   f5⟩
 .obtain⟨f1,f2⟩:=hN b hb2;exact⟨abn,abn,λe=>by have:=(o1 b e).1;omega,
   λe=>by
   obtain rfl:g=b:=Option.some.inj e;rcases hat with e3|e3
   .have:=own g e3;omega
   .omega,
   λe=>by have:=(o2 b e).1;omega⟩
theorem Sn.alT{B:Nat}{w w0 w5:World}{va vl vd:Value}{x:aV}{F N:Nat->Prop}(h:Sn B w va vl vd x F)(hB:B<=w.heap.size)(hb:Below w.heap.size w w0){y:bC}{xs ys:List Value}(hown:w.ownsRow B 93 2 vd x.2.2.2.1.length xs)
 (hrep:∀i z,x.2.2.2.1[i]? =some z->aJ w.heap F dA ((xs.drop (i*2)).take 2) z) {g cap:Nat} (h5:w5.ownsRow B 93 2 (.slice (some ⟨g,0,none⟩) (x.2.2.2.1.length+1) cap) (x.2.2.2.1.length+1) (xs++ys)) (hg:w0.grownBy w5 vd.ownBlock) (hat:vd.ownBlock=some g\/g=w0.heap.size) (hlt:g<w5.heap.size)
 (hN:∀b,N b->w.heap.size<=b/\b<w0.heap.size) (hx:aJ w0.heap N dA ys y):Sn B w5 va vl (.slice (some ⟨g,0,none⟩) (x.2.2.2.1.length+1) cap) (x.1,x.2.1,x.2.2.1,x.2.2.2.1++[y],()) (λb=>F b\/N b):=by
 have hs0:=hb.size;have hs5:=hg.size;have same:∀b,b<w.heap.size->vd.ownBlock≠some b->w5.heap[b]? =w.heap[b]? :=λb hlb hnb=>(hg.block b (avT hlb hs0) (λe=>hnb e.symm)).trans (hb.block b hlb);have hF:∀b,F b->w5.heap[b]? =w.heap[b]? :=λb hb2=>same b (h.foot b hb2).2.1 (h.foot b hb2).2.2.2.2;have own:∀b,vd.ownBlock=some b->b<w.heap.size:=λb e=>(h.fd.lt e).2;have o1:∀b,va.ownBlock=some b->b<w.heap.size/\vd.ownBlock≠some b/\g≠b:=λb e=>by
  have hl:=(h.fa.lt e).2;have hn:vd.ownBlock≠some b:=λe2=>((h.ne b).1 e).2 e2;refine⟨hl,hn,λe2=>?_⟩;subst e2;rcases hat with e3|e3
  .exact hn e3
  .omega
 have o2:∀b,vl.ownBlock=some b->b<w.heap.size/\vd.ownBlock≠some b/\g≠b:=λb e=>by
  have hl:=(h.fl.lt e).2;have hn:vd.ownBlock≠some b:=λe2=>(h.ne b).2 e e2;refine⟨hl,hn,λe2=>?_⟩;subst e2;rcases hat with e3|e3
  .exact hn e3
  .omega
 refine⟨(h.fa.keep (λb e=>same b (o1 b e).1 (o1 b e).2.1) hF).mono λb hb2=>.inl hb2,(h.fl.keep (λb e=>same b (o2 b e).1 (o2 b e).2.1) hF).mono λb hb2=>.inl hb2,OL.push (r:=dA) hrep hown.1 h5 (λb hb2=>⟨.inl hb2,hF b hb2⟩) (aJ.mono (λb hb2=>⟨.inr hb2,hg.block b (hN b hb2).2 λe=>apA⟩) _ _ _ hx),h.nx,λb=>⟨λe=>?_,λe=>?_⟩,λb hb2=>?_⟩
 .exact⟨((h.ne b).1 e).1,λe2=>(o1 b e).2.2 (Option.some.inj e2)⟩
 .exactλe2=>(o2 b e).2.2 (Option.some.inj e2)
 rcases hb2 with hb2|hb2
 .obtain⟨f1,f2,f3,f4,f5⟩:=h.foot b hb2;exact⟨f1,abn,f3,
   f4,
   λe=>by
   obtain rfl:g=b:=Option.some.inj e;rcases hat with e3|e3
   .exact f5 e3
   .omega⟩
 .obtain⟨f1,f2⟩:=hN b hb2;exact⟨abn,abn,λe=>by have:=(o1 b e).1;omega,
   λe=>by have:=(o2 b e).1;omega,
   λe=>by
   obtain rfl:g=b:=Option.some.inj e;rcases hat with e3|e3
   .have:=own g e3;omega
   .omega⟩
end Go.Proofs.Tryz
namespace Go.Proofs.Tryz
open Go Go.Fw Go.RowKit Sp
set_option maxRecDepth 100000
theorem FW.cell{B:Nat}{w:World}{a:Option Addr}{c:Nat}{f:Sp.LS}(h:FW B w (.slice a f.length c) f){n:Nat}(hn:n<f.length):∃b off,a=some ⟨b,off,none⟩/\b<B/\w.cell? ⟨b,off+n,none⟩=some (.string ⟨(f.getD n ([],())).1.toArray⟩):=by
 rcases h.2 with⟨rfl,_⟩|⟨b,off,cap,cs,t,fz,e,e2,e3,e4,e5⟩
 .exact absurd hn (awv _)
 .injection e with ea;refine⟨b,off,ea,e3,?_⟩;have hx:f[n]? =some (f.getD n ([],())):=by rw[avr,avv hn];rfl
  generalize f.getD n ([],())=x at hx ⊢;obtain⟨u,us,e6,⟨e7,_⟩,_⟩:=e5 n x hx;rw[aQ e4,← e7];have h0:=congrArg (λl=>l[0]?) e6;have h0:((cs.toList.drop (off+n*1)).take 1)[0]? =some u:=h0;simpa[av4,av5]using h0
def WM:Value:=.agg #[.string ⟨#[]⟩,.int .i64 0]
def aiB:Value:=.agg #[.int .i64 0,.int .i64 0,.bool false,.int .i64 0,.slice none 0 0]
def acH:Value:=.agg #[.string ⟨#[]⟩,.slice none 0 0]
theorem aiy:(prog.info? 54).map (λi=>(i.zero,i.size,i.bytes))=some (some WM,2,24):=abu
theorem anl:(prog.info? 51).map (λi=>(i.zero,i.size,i.bytes))=some (some aiB,5,56):=abu
theorem aiC:(prog.info? 93).map (λi=>(i.zero,i.size,i.bytes))=some (some acH,2,40):=abu
structure Kp(B P:Nat)(W w:World):Prop where
 os:w.os=W.os
 tape:w.tape=W.tape
 output:w.output=W.output
 size:W.heap.size<=w.heap.size
 block:∀b,b<B->b≠P->w.heap[b]? =W.heap[b]?
theorem Kp.below{B P:Nat}{W w w':World}(hB:B<=W.heap.size)(h:Kp B P W w)(k:Below w.heap.size w w'):Kp B P W w':=
 ⟨k.os.trans h.os,k.tape.trans h.tape,k.output.trans h.output,avx h.size k.size,λb hb hn=>(k.block b (by have:=h.size;omega)).trans (h.block b hb hn)⟩
theorem Kp.set{B P:Nat}{W w:World}(h:Kp B P W w){k:Nat}{v:Value}:Kp B P W (w.setCell ⟨P,k,none⟩ v):=
 ⟨h.os,h.tape,h.output,by simpa[World.setCell]using h.size,λb hb hn=>(mZ v hn).trans (h.block b hb hn)⟩
theorem Kp.grown{B P:Nat}{W w w':World}(hB:B<=W.heap.size)(h:Kp B P W w){o:Option Nat}(k:w.grownBy w' o)(ho:∀b,o=some b->B<=b):Kp B P W w':=
 ⟨k.os.trans h.os,k.tape.trans h.tape,k.output.trans h.output,avx h.size k.size,λb hb hn=>(k.block b (by have:=h.size;omega) λe=>by have:=ho b e.symm;omega).trans (h.block b hb hn)⟩
def Held(B P:Nat)(w:World)(x:aV):Prop:=∃va vl vd F,w.heap[P]? =some (.cells #[va,vl,.int .i64 x.2.2.1,vd] 33 (0,0))/\Sn B w va vl vd x F
theorem four{w:World}{g:Nat}{x0 x1 x2 x3:Value}{t:TypeId}(h:w.heap[g]? =some (.cells #[x0,x1,x2,x3] t (0,0))):
 (w.cell? ⟨g,0,none⟩=some x0/\w.cell? ⟨g,1,none⟩=some x1/\w.cell? ⟨g,2,none⟩=some x2/\w.cell? ⟨g,3,none⟩=some x3)/\w.frozen? ⟨g,0,none⟩=false/\w.frozen? ⟨g,1,none⟩=false/\w.frozen? ⟨g,2,none⟩=false/\w.frozen? ⟨g,3,none⟩=false:=
 ⟨⟨aQ h 0,aQ h 1,aQ h 2,aQ h 3⟩,dO h 0,dO h 1,dO h 2,dO h 3⟩
theorem Held.below{B P:Nat}{w w':World}{x:aV}(h:Held B P w x)(k:Below w.heap.size w w'):Held B P w' x:=by obtain⟨va,vl,vd,F,h1,h2⟩:=h;exact⟨va,vl,vd,F,(k.block P (avw.1 h1).1).trans h1,h2.below k⟩
theorem Kp.of{B P:Nat}{W w:World}(hB:B<=W.heap.size)(k:Below W.heap.size W w):Kp B P W w:=⟨k.os,k.tape,k.output,k.size,λb hb _=>k.block b abn⟩
set_option maxHeartbeats 16000000 in
theorem aqi(B P:Nat)(W:World)(x:aV)(x0:List UInt8)(r:Sp.LS)(line:List UInt8)(hl:line.length<=1000)(hf:Sp.pieces 32 line=(x0,())::r)(hG:G.ok W)(hS:Held B P W x)(hB:B<=W.heap.size)
 (h1:¬x0=[102,105,101,108,100]\/((r.length:Int)+1==3)=false) (h2:¬x0=[110,101,120,116]\/((r.length:Int)+1==2)=false) (h3:¬x0=[102,105,108,101]) (h4:¬x0=[100,105,114]\/¬(2:Int)<(r.length:Int)+1):
 Calls prog 60 #[.pointer (some ⟨P,0,none⟩),.string ⟨line.toArray⟩] W λe w'=>e=.returned (.bool false)/\Held B P w' x/\Kp B P W w':=by
 have mixed:=Tryz.mixed;have sp:=GR 32 (.inl rfl) line abn W hG;rw[hf]at sp;clear hf;by_cases k1:x0=[102,105,101,108,100]
 .subst k1;have hn:((r.length:Int)+1==3)=false:=h1.elim (λh=>absurd rfl h) id;clear h1 h2 h3 h4
  go_enter Tryz.func60,Tryz.ntmps60
  go_wp2_with (first
   |(go_at_call 86;refine av2 sp ?_;rintro e w1 ⟨v1,rfl,hf1,hb1⟩;obtain⟨a1,c1,e1⟩:=lZ hf1;have e1:v1=.slice a1 (r.length+1) c1:=e1;subst e1;obtain⟨b2,o2,e2,-,cw⟩:=FW.cell (a:=a1) (c:=c1) (f:=([102,105,101,108,100],())::r) hf1 (n:=0) (awX _);subst e2;have cw:w1.cell? ⟨b2,o2,none⟩=some (.string ⟨([102,105,101,108,100]:List UInt8).toArray⟩):=cw;clear sp))
  all_goals go_ret
  all_goals exact⟨rfl,hS.below hb1,Kp.of hB hb1⟩
 by_cases k2:x0=[110,101,120,116]
 .subst k2;have hn:((r.length:Int)+1==2)=false:=h2.elim (λh=>absurd rfl h) id;clear h1 h2 h3 h4
  go_enter Tryz.func60,Tryz.ntmps60
  go_wp2_with (first
   |(go_at_call 86;refine av2 sp ?_;rintro e w1 ⟨v1,rfl,hf1,hb1⟩;obtain⟨a1,c1,e1⟩:=lZ hf1;have e1:v1=.slice a1 (r.length+1) c1:=e1;subst e1;obtain⟨b2,o2,e2,-,cw⟩:=FW.cell (a:=a1) (c:=c1) (f:=([110,101,120,116],())::r) hf1 (n:=0) (awX _);subst e2;have cw:w1.cell? ⟨b2,o2,none⟩=some (.string ⟨([110,101,120,116]:List UInt8).toArray⟩):=cw;clear sp))
  all_goals go_ret
  all_goals exact⟨rfl,hS.below hb1,Kp.of hB hb1⟩
 by_cases k4:x0=[100,105,114]
 .subst k4;have hn:¬(2:Int)<(r.length:Int)+1:=h4.elim (λh=>absurd rfl h) id;clear h1 h2 h3 h4
  go_enter Tryz.func60,Tryz.ntmps60
  go_wp2_with (first
   |(go_at_call 86;refine av2 sp ?_;rintro e w1 ⟨v1,rfl,hf1,hb1⟩;obtain⟨a1,c1,e1⟩:=lZ hf1;have e1:v1=.slice a1 (r.length+1) c1:=e1;subst e1;obtain⟨b2,o2,e2,-,cw⟩:=FW.cell (a:=a1) (c:=c1) (f:=([100,105,114],())::r) hf1 (n:=0) (awX _);subst e2;have cw:w1.cell? ⟨b2,o2,none⟩=some (.string ⟨([100,105,114]:List UInt8).toArray⟩):=cw;clear sp))
  all_goals go_ret
  all_goals exact⟨rfl,hS.below hb1,Kp.of hB hb1⟩
 have g1:(x0==[102,105,101,108,100])=false:=avp.2 k1;have g2:(x0==[110,101,120,116])=false:=avp.2 k2;have g3:(x0==[102,105,108,101])=false:=avp.2 h3;have g4:(x0==[100,105,114])=false:=avp.2 k4;clear h1 h2 h4
 go_enter Tryz.func60,Tryz.ntmps60
 go_wp2_with (first
  |(go_at_call 86;refine av2 sp ?_;rintro e w1 ⟨v1,rfl,hf1,hb1⟩;obtain⟨a1,c1,e1⟩:=lZ hf1;have e1:v1=.slice a1 (r.length+1) c1:=e1;subst e1;obtain⟨b2,o2,e2,-,cw⟩:=FW.cell (a:=a1) (c:=c1) (f:=(x0,())::r) hf1 (n:=0) (awX _);subst e2;have cw:w1.cell? ⟨b2,o2,none⟩=some (.string ⟨(x0:List UInt8).toArray⟩):=cw;clear sp))
 all_goals go_ret
 all_goals exact⟨rfl,hS.below hb1,Kp.of hB hb1⟩
theorem Sn.next{B:Nat}{w:World}{va vl vd:Value}{x:aV}{F:Nat->Prop}(h:Sn B w va vl vd x F){n:Int}(hn:sV n):Sn B w va vl vd (x.1,x.2.1,n,x.2.2.2.1,()) F:=⟨h.fa,h.fl,h.fd,hn,h.ne,h.foot⟩
theorem Sn.set{B P k:Nat}{w:World}{va vl vd v:Value}{x:aV}{F:Nat->Prop}(h:Sn B w va vl vd x F)(hP:P<B):Sn B (w.setCell ⟨P,k,none⟩ v) va vl vd x F:=
 h.keep aq0 λb hb _=>mZ v (by show b≠P;omega)
theorem Qo(s:List UInt8):sV (Sp.parseNum s):=by have:=ig.1 (Ap s);exact⟨abn,abn⟩
set_option maxHeartbeats 16000000 in
theorem anB(B P:Nat)(W:World)(x:aV)(y:List UInt8)(line:List UInt8)(hl:line.length<=1000)(hf:Sp.pieces 32 line=[(qm,()),(y,())])(hG:G.ok W)(hS:Held B P W x)(QB:P<B)(hB:B<=W.heap.size):
 Calls prog 60 #[.pointer (some ⟨P,0,none⟩),.string ⟨line.toArray⟩] W λe w'=>e=.returned (.bool (bf y))/\Held B P w' (x.1,x.2.1,Sp.parseNum y,x.2.2.2.1,())/\Kp B P W w':=by
 have mixed:=Tryz.mixed;obtain⟨va,vl,vd,F,hP,wX⟩:=hS;have hPl:=(avw.1 hP).1;have sp:=GR 32 (.inl rfl) line abn W hG;have hy:y.length<=1000:=avx (Cc (c:=32) (s:=line) (y,()) (by rw[hf];simp)) hl;rw[hf]at sp;clear hf;unfold qm at sp;have pu:=λw hG=>aqe y abn w hG;have hno:=Qo y;generalize Sp.parseNum y=n at pu hno ⊢;generalize bf y=ok at pu ⊢
 go_enter Tryz.func60,Tryz.ntmps60
 go_wp2_with (first
  |(go_at_call 86;refine av2 sp ?_;rintro e w1 ⟨v1,rfl,hf1,hb1⟩;obtain⟨a1,c1,e1⟩:=lZ hf1;have e1:v1=.slice a1 2 c1:=e1;subst e1;obtain⟨b2,o2,e2,-,cw⟩:=FW.cell (a:=a1) (c:=c1) (f:=[([110,101,120,116],()),(y,())]) hf1 (n:=0) acA;subst e2;have cw:w1.cell? ⟨b2,o2,none⟩=some (.string ⟨([110,101,120,116]:List UInt8).toArray⟩):=cw;obtain⟨b3,o3,e3,-,Ux⟩:=FW.cell (a:=some ⟨b2,o2,none⟩) (c:=c1) (f:=[([110,101,120,116],()),(y,())]) hf1 (n:=1) acA;cases e3;have Ux:w1.cell? ⟨b2,o2+1,none⟩=some (.string ⟨(y:List UInt8).toArray⟩):=Ux;clear sp)
  |(go_at_call 87;refine av2 (pu w1 (dR hG hb1)) ?_;rintro e w2 ⟨rfl,hb2⟩;have vP:=hb1.trans (hb2.mono hb1.size);have hP2:=(vP.block P hPl).trans hP;obtain⟨⟨d0,d1,d2,d3⟩,z0,z1,z2,z3⟩:=four hP2))
 all_goals go_ret
 all_goals exact⟨rfl,⟨va,vl,vd,F,gJ hP2 2 _,(((wX.below vP).next hno).set QB)⟩,(Kp.of hB vP).set⟩
set_option maxHeartbeats 16000000 in
theorem al2(B P:Nat)(W:World)(x:aV)(y k3:List UInt8)(line:List UInt8)(hl:line.length<=1000)(hf:Sp.pieces 32 line=[(iw,()),(y,()),(k3,())])(hG:G.ok W)(hS:Held B P W x)(QB:P<B)(hB:B<=W.heap.size)(hz:x.1.length<=200):
 Calls prog 60 #[.pointer (some ⟨P,0,none⟩),.string ⟨line.toArray⟩] W λe w'=>e=.returned (.bool true)/\Held B P w' (x.1++[(y,(bif k3==rM then 2 else 1),())],x.2.1,x.2.2.1,x.2.2.2.1,())/\Kp B P W w':=by
 have mixed:=Tryz.mixed;obtain⟨va,vl,vd,F,hP,wX⟩:=hS;have hPl:=(avw.1 hP).1;have sp:=GR 32 (.inl rfl) line abn W hG;have hy:y.length<=1000:=avx (Cc (c:=32) (s:=line) (y,()) (by rw[hf];simp)) hl;rw[hf]at sp;clear hf;unfold iw at sp;obtain⟨i0,hi,hz0,hz1,hz2⟩:=axw aiy;have hqm:x.1.length+1<=maxLen:=ac2;have nD:(x.1.length+1)*24<=140737488355328:=abn;by_cases hk:k3=[115,116,114,105,110,103]
 .subst hk;rw[show(([115,116,114,105,110,103]:List UInt8)==rM)=true from rfl]
  go_enter Tryz.func60,Tryz.ntmps60
  go_wp2_with (first
   |(go_at_call 86;refine av2 sp ?_;rintro e w1 ⟨v1,rfl,hf1,hb1⟩;obtain⟨a1,c1,e1⟩:=lZ hf1;have e1:v1=.slice a1 3 c1:=e1;subst e1;obtain⟨b2,o2,e2,-,cw⟩:=FW.cell (a:=a1) (c:=c1) (f:=[([102,105,101,108,100],()),(y,()),([115,116,114,105,110,103],())]) hf1 (n:=0) acA;subst e2;have cw:w1.cell? ⟨b2,o2,none⟩=some (.string ⟨([102,105,101,108,100]:List UInt8).toArray⟩):=cw;obtain⟨b3,o3,e3,-,Ux⟩:=FW.cell (a:=some ⟨b2,o2,none⟩) (c:=c1) (f:=[([102,105,101,108,100],()),(y,()),([115,116,114,105,110,103],())]) hf1 (n:=1) acA;cases e3;have Ux:w1.cell? ⟨b2,o2+1,none⟩=some (.string ⟨(y:List UInt8).toArray⟩):=Ux;obtain⟨b3,o3,e3,-,cw4⟩:=FW.cell (a:=some ⟨b2,o2,none⟩) (c:=c1) (f:=[([102,105,101,108,100],()),(y,()),([115,116,114,105,110,103],())]) hf1 (n:=2) acA;cases e3;have cw4:w1.cell? ⟨b2,o2+2,none⟩=some (.string ⟨([115,116,114,105,110,103]:List UInt8).toArray⟩):=cw4;have hP1:=(hb1.block P hPl).trans hP;obtain⟨⟨d0,d1,d2,d3⟩,z0,z1,z2,z3⟩:=four hP1;have xP:=wX.below hb1;have uM:P<w1.heap.size:=(avw.1 hP1).1;clear sp))
  obtain⟨xs,hown,hrep⟩:=xP.fa;have hown:w1.ownsRow B 54 2 va x.1.length xs:=hown;have hrep:∀i z,x.1[i]? =some z->aJ w1.heap F bK ((xs.drop (i*2)).take 2) z:=hrep;have rY:va.ownBlock≠some P:=λe=>by have:=(xP.fa.lt e).1;omega
  have hBr:B<=w1.heap.size:=avx hB hb1.size
  go_region_law (refine step_append_lies _ rfl (.tmp 34) (.tmp 40) 26 rfl B 54 i0 WM 2 24 Tryz.underlying26 hi hz0 hz1 hz2 rfl abA va x.1.length xs ac7 ((axs hown).alloc _) ⟨w1.heap.size,0,none⟩ 1 1 [.string ⟨y.toArray⟩,.int .i64 2] ac7 rfl (World.news_of_block (awf _ _)) afA abA hqm nD adK _ rfl ?_;intro g cap w5 hown5 gI nV nX;have nP:=(gI.block P adK (λe=>rY e.symm)).trans ((heap_alloc_old w1.drew _ uM).trans hP1);have k5:w5.cell? ⟨P,0,none⟩=some va:=aQ nP 0;have z5:=dO nP 0)
  all_goals go_wp2
  all_goals go_ret
  all_goals exact⟨rfl,⟨_,vl,vd,_,gJ nP 0 _,((xP.ahc (y:=(y,2,())) hBr (((Below.refl _ w1).drew).alloc (avt _) _) hown hrep hown5 gI nV nX (N:=λ_=>False) (λb hb=>hb.elim) ⟨_,_,rfl,⟨rfl,ac2⟩,_,_,rfl,⟨rfl,abA,abA⟩,rfl⟩).set QB)⟩,(((Kp.of hB hb1).below hB (((Below.refl _ w1).drew).alloc (avt _) _)).grown hB gI (λb e=>(xP.fa.lt e).1)).set⟩
 .have g3:(k3==[115,116,114,105,110,103])=false:=avp.2 hk;rw[show(k3==rM)=false from g3]
  go_enter Tryz.func60,Tryz.ntmps60
  go_wp2_with (first
   |(go_at_call 86;refine av2 sp ?_;rintro e w1 ⟨v1,rfl,hf1,hb1⟩;obtain⟨a1,c1,e1⟩:=lZ hf1;have e1:v1=.slice a1 3 c1:=e1;subst e1;obtain⟨b2,o2,e2,-,cw⟩:=FW.cell (a:=a1) (c:=c1) (f:=[([102,105,101,108,100],()),(y,()),(k3,())]) hf1 (n:=0) acA;subst e2;have cw:w1.cell? ⟨b2,o2,none⟩=some (.string ⟨([102,105,101,108,100]:List UInt8).toArray⟩):=cw;obtain⟨b3,o3,e3,-,Ux⟩:=FW.cell (a:=some ⟨b2,o2,none⟩) (c:=c1) (f:=[([102,105,101,108,100],()),(y,()),(k3,())]) hf1 (n:=1) acA;cases e3;have Ux:w1.cell? ⟨b2,o2+1,none⟩=some (.string ⟨(y:List UInt8).toArray⟩):=Ux;obtain⟨b3,o3,e3,-,cw4⟩:=FW.cell (a:=some ⟨b2,o2,none⟩) (c:=c1) (f:=[([102,105,101,108,100],()),(y,()),(k3,())]) hf1 (n:=2) acA;cases e3;have cw4:w1.cell? ⟨b2,o2+2,none⟩=some (.string ⟨(k3:List UInt8).toArray⟩):=cw4;have hP1:=(hb1.block P hPl).trans hP;obtain⟨⟨d0,d1,d2,d3⟩,z0,z1,z2,z3⟩:=four hP1;have xP:=wX.below hb1;have uM:P<w1.heap.size:=(avw.1 hP1).1;clear sp))
  obtain⟨xs,hown,hrep⟩:=xP.fa;have hown:w1.ownsRow B 54 2 va x.1.length xs:=hown;have hrep:∀i z,x.1[i]? =some z->aJ w1.heap F bK ((xs.drop (i*2)).take 2) z:=hrep;have rY:va.ownBlock≠some P:=λe=>by have:=(xP.fa.lt e).1;omega
  have hBr:B<=w1.heap.size:=avx hB hb1.size
  go_region_law (refine step_append_lies _ rfl (.tmp 34) (.tmp 40) 26 rfl B 54 i0 WM 2 24 Tryz.underlying26 hi hz0 hz1 hz2 rfl abA va x.1.length xs ac7 ((axs hown).alloc _) ⟨w1.heap.size,0,none⟩ 1 1 [.string ⟨y.toArray⟩,.int .i64 1] ac7 rfl (World.news_of_block (awf _ _)) afA abA hqm nD adK _ rfl ?_;intro g cap w5 hown5 gI nV nX;have nP:=(gI.block P adK (λe=>rY e.symm)).trans ((heap_alloc_old w1.drew _ uM).trans hP1);have k5:w5.cell? ⟨P,0,none⟩=some va:=aQ nP 0;have z5:=dO nP 0)
  all_goals go_wp2
  all_goals go_ret
  all_goals exact⟨rfl,⟨_,vl,vd,_,gJ nP 0 _,((xP.ahc (y:=(y,1,())) hBr (((Below.refl _ w1).drew).alloc (avt _) _) hown hrep hown5 gI nV nX (N:=λ_=>False) (λb hb=>hb.elim) ⟨_,_,rfl,⟨rfl,ac2⟩,_,_,rfl,⟨rfl,abA,abA⟩,rfl⟩).set QB)⟩,(((Kp.of hB hb1).below hB (((Below.refl _ w1).drew).alloc (avt _) _)).grown hB gI (λb e=>(xP.fa.lt e).1)).set⟩
end Go.Proofs.Tryz
namespace Go.Proofs.Tryz
open Go Go.Fw Go.RowKit Sp
set_option maxRecDepth 100000
theorem FW.tail{B:Nat}{w:World}{b off cap:Nat}{x:List UInt8×Unit}{r:Sp.LS}(h:FW B w (.slice (some ⟨b,off,none⟩) (r.length+1) cap) (x::r)):(cap=1->FW B w (.slice (some ⟨b,off,none⟩) r.length 0) r)/\(¬cap=1->FW B w (.slice (some ⟨b,off+1,none⟩) r.length (cap-1)) r):=by
 have hm:r.length+1<=maxLen:=h.1;rcases h.2 with⟨e,_⟩|⟨b',off',cap',cs,t,fz,e,e2,e3,e4,e5⟩
 .cases e
 .cases e;have e2:r.length+1<=cap:=e2;refine⟨λh1=>⟨abn,.inl ⟨awm.1 abn,?_⟩⟩,λ_=>⟨abn,.inr ⟨b,off+1,cap-1,cs,t,fz,rfl,abn,e3,e4,λi y hy=>?_⟩⟩⟩
  .exact⟨_,_,by rw[show r.length=0 from abn]⟩
  .have:=e5 (i+1) y (by simpa using hy);rw[show off+1+i*dQ.len=off+(i+1)*dQ.len by show off+1+i*1=off+(i+1)*1;omega];exact this
set_option maxHeartbeats 16000000 in
theorem anD(B P:Nat)(W:World)(x:aV)(r:Sp.LS)(line:List UInt8)(hl:line.length<=1000)(hf:Sp.pieces 32 line=(kC,())::r)(hG:G.ok W)(hS:Held B P W x)(QB:P<B)(hB:B<=W.heap.size)(hz:x.2.1.length<=200):
 Calls prog 60 #[.pointer (some ⟨P,0,none⟩),.string ⟨line.toArray⟩] W λe w'=>e=.returned (.bool (jB r).2)/\Held B P w' (x.1,x.2.1++[(jB r).1],x.2.2.1,x.2.2.2.1,())/\Kp B P W w':=by
 have mixed:=Tryz.mixed;obtain⟨va,vl,vd,F,hP,wX⟩:=hS;have hPl:=(avw.1 hP).1;have sp:=GR 32 (.inl rfl) line abn W hG;have hwl:∀x∈r,x.1.length<=1048576:=λy hy=>avx (Cc (c:=32) (s:=line) y (by rw[hf];exact avy _ hy)) abn;have hrl:r.length<=1000:=by have:=Sp.pieces_len 32 line;rw[hf,avq]at this;omega
 rw[hf]at sp;clear hf;unfold kC at sp;have fi:=λv w hv hG=>aqf v r w hv hrl hwl hG;generalize jB r=fr at fi ⊢;obtain⟨⟨id,ow,sh,lk,at',⟨⟩⟩,ok⟩:=fr;dsimp only at fi;obtain⟨i0,hi,hz0,hz1,hz2⟩:=axw anl;have hqm:x.2.1.length+1<=maxLen:=ac2;have nD:(x.2.1.length+1)*56<=140737488355328:=abn
 go_enter Tryz.func60,Tryz.ntmps60
 go_wp2_with (first
  |(go_at_call 86;refine av2 sp ?_;rintro e w1 ⟨v1,rfl,hf1,hb1⟩;obtain⟨a1,c1,e1⟩:=lZ hf1;have e1:v1=.slice a1 (r.length+1) c1:=e1;subst e1;obtain⟨b2,o2,e2,-,cw⟩:=FW.cell (a:=a1) (c:=c1) (f:=([102,105,108,101],())::r) hf1 (n:=0) acA;subst e2;have cw:w1.cell? ⟨b2,o2,none⟩=some (.string ⟨([102,105,108,101]:List UInt8).toArray⟩):=cw;obtain⟨ht1,ht2⟩:=hf1.tail;have hG1:=dR hG hb1;clear sp hf1)
  |(go_at_call 106;(first|refine av2 (fi _ _ (ht1 (by assumption)) hG1) ?_|refine av2 (fi _ _ (ht2 (by assumption)) hG1) ?_);rintro e w2 ⟨a6,c6,rfl,hb2,hra,n1,n2,n4⟩;have vP:=hb1.trans (hb2.mono hb1.size)))
 all_goals
  have xP:=wX.below hb1;obtain⟨xs,hown1,TB⟩:=xP.fl;have hown1:w1.ownsRow B 51 5 vl x.2.1.length xs:=hown1;have TB:∀i z,x.2.1[i]? =some z->aJ w1.heap F dI ((xs.drop (i*5)).take 5) z:=TB;have hs1:=hb1.size;have hs2:=hb2.size;have rY:vl.ownBlock≠some P:=λe=>by have:=(xP.fl.lt e).1;omega
  have hBr:B<=w1.heap.size:=avx hB hs1;have hrow:=awf w2 (Obj.cells #[.int .i64 id,.int .i64 ow,.bool sh,.int .i64 lk,.slice a6 at'.length c6] 51 (0,0));have TD:Below w2.heap.size w2 (w2.alloc (Obj.cells #[.int .i64 id,.int .i64 ow,.bool sh,.int .i64 lk,.slice a6 at'.length c6] 51 (0,0))):=(Below.refl _ w2).alloc (avt _) _;generalize w2.alloc (Obj.cells #[.int .i64 id,.int .i64 ow,.bool sh,.int .i64 lk,.slice a6 at'.length c6] 51 (0,0))=w3 at hrow TD ⊢;have hs3:=TD.size;have qA:=hb2.trans (TD.mono hs2);have hb3:=hb1.trans (qA.mono hs1);have hP3:=(hb3.block P hPl).trans hP;obtain⟨⟨d0,d1,d2,d3⟩,z0,z1,z2,z3⟩:=four hP3;have e0:w3.cell? ⟨w2.heap.size,0,none⟩=some (.int .i64 id):=aQ hrow 0;have e1:w3.cell? ⟨w2.heap.size,1,none⟩=some (.int .i64 ow):=aQ hrow 1;have e2:w3.cell? ⟨w2.heap.size,2,none⟩=some (.bool sh):=aQ hrow 2;have e3:w3.cell? ⟨w2.heap.size,3,none⟩=some (.int .i64 lk):=aQ hrow 3;have e4:w3.cell? ⟨w2.heap.size,4,none⟩=some (.slice a6 at'.length c6):=aQ hrow 4;have uM:P<w3.heap.size:=(avw.1 hP3).1;have hown3:w3.ownsRow B 51 5 vl x.2.1.length xs:=uK hown1 λb e=>qA.block b (xP.fl.lt e).2;have atT:B<=w3.heap.size:=abn
  go_region_law (refine step_append_lies _ rfl (.tmp 84) (.tmp 86) 27 rfl B 51 i0 aiB 5 56 Tryz.underlying27 hi hz0 hz1 hz2 rfl abA vl x.2.1.length xs ac7 ((axs hown3).alloc _) ⟨w3.heap.size,0,none⟩ 1 1 [.int .i64 id,.int .i64 ow,.bool sh,.int .i64 lk,.slice a6 at'.length c6] ac7 rfl (World.news_of_block (awf _ _)) (by intro u hu;simp at hu;rcases hu with rfl|rfl|rfl|rfl|rfl<;>rfl) abA hqm nD adK _ rfl ?_;intro g cap w5 hown5 gI nV nX;have nP:=(gI.block P adK (λe=>rY e.symm)).trans ((heap_alloc_old w3.drew _ uM).trans hP3);have k5:w5.cell? ⟨P,1,none⟩=some vl:=aQ nP 1;have z5:=dO nP 1)
  all_goals go_wp2
  all_goals go_ret
  all_goals
   have hbd:Below w3.heap.size w3 (w3.drew.alloc (Obj.cells #[.int .i64 id,.int .i64 ow,.bool sh,.int .i64 lk,.slice a6 at'.length c6] 51 (0,0))):=((Below.refl _ w3).drew).alloc (avt _) _;have xK:=qA.trans (hbd.mono (avx hs2 hs3));exact⟨rfl,⟨va,_,vd,_,gJ nP 1 _,((xP.apx (y:=(id,ow,sh,lk,at',())) hBr xK hown1 TB hown5 gI nV nX (N:=λb=>w1.heap.size<=b/\b<w2.heap.size) (λb hb=>⟨hb.1,by have:=hbd.size;omega⟩)
    ⟨_,_,rfl,⟨rfl,n1⟩,_,_,rfl,⟨rfl,n2⟩,_,_,rfl,rfl,_,_,rfl,⟨rfl,n4⟩,_,_,rfl,cZ.mono (λb hb=>⟨hb,(hbd.block b abn).trans (TD.block b hb.2)⟩) _ _ _ hra,rfl⟩).set QB)⟩,(((Kp.of hB hb1).below hB xK).grown hB gI (λb e=>(xP.fl.lt e).1)).set⟩
end Go.Proofs.Tryz
