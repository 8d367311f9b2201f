import Derived.Test.YtncbcelpbmlgdaaGreatDoorP61
import Derived.Test.YtncbcelpbmlgdaaGreatDoorSp
import Derived.Test.YtncbcelpbmlgdaaGreatDoorV25
import Derived.Deep.AppendLies
import Derived.Deep.RegionLaw
import Derived.BigRegion
namespace Go.Proofs.Tryz
open Go Go.Fw Go.RowKit Sp
theorem apv(s:List UInt8)(hs:s.length<=1048576)(w:World)(hG:G.ok w):Calls prog 153 #[.string ⟨s.toArray⟩] w λe w'=>
 ∃v,e=.returned (.tuple #[v,.bool (jv s)])/\FW w'.heap.size w' v (gG s)/\Below w.heap.size w w':=by
 have hc:fD prog G 153 (ig nV.sh nV.bH nV.F):=UN.1;refine(hc [.sv (.one (.str s))] (s.length<=1048576) _ 0 (λ_=>True) #[.string ⟨s.toArray⟩] w rfl hs hG ⟨⟨rfl,acz⟩,trivial⟩).mono ?_;rintro e w' ⟨v,vals,rfl,h1,h2,h3,h4,h5,h6,_,_⟩;obtain⟨vs,rfl,h7⟩:=h6;obtain⟨l⟩:=vs
 match l,h7 with
 |[a,b],h7=>
  obtain⟨ha,hb,_⟩:=h7;have hb:b=.bool (jv s):=hb;have ha:bY w'.heap _ (.sl aT dJ) a (gG s):=ha;refine⟨a,by rw[hb],⟨ha.1,?_⟩,h1,h2,h3,h4,h5⟩;rcases ha.2 with h|⟨b,off,cap,cs,t,fz,e1,e2,e3,e4,e5⟩
  .exact .inl h
  .exact .inr ⟨b,off,cap,cs,t,fz,e1,e2,e3.1.1,e4,λi x hx=>aH.flat (S:=_) _ _ _ rfl (e5 i x hx)⟩
theorem afl{B P:Nat}{w:World}{v:Value}{q:List ak}(h:NW B P w v q)(hl:q.length<=1000)(S:Nat->Prop)(hS:∀b,B<=b->b<w.heap.size->S b):bY w.heap S (.sl 168 bD) v q:=by
 obtain⟨xs,h1,_,h3⟩:=h;refine⟨acz,?_⟩;rcases h1.2 with⟨e,e2⟩|⟨g,cap,cur,e,e2,e3,e4,e5,e6,e7⟩
 .exact .inl ⟨avv.1 e2,none,0,ar2⟩
 .refine .inr ⟨g,0,cap,cur,168,(0,0),e,e4,hS g e2 (auL.1 e3).1,e3,λi x hx=>?_⟩;have hi:=(auT.1 hx).1;have:=h3 i x hx;rw[← e7,axF,axi,aw9 aaV]at this;rw[au8];exact aH.flat (S:=λ_=>False) _ _ _ rfl this
theorem ajW{B P:Nat}(v:Value)(q:List ak)(hq:q.length<=1000)(w:World)(hn:NW B P w v q)(hG:G.ok w):Calls prog 104 #[v] w λe w'=>e=.returned (.bool (ax q))/\Below w.heap.size w w':=by have hc:fD prog G 104 (ig jb.sh jb.bH jb.F):=sW.1;refine(hc [.sv (.one (.sl 168 bD q false))] (q.length<=2000000) _ 0 (λ_=>True) #[v] w rfl aaV hG ⟨afl hn hq _ λb _ hb=>⟨⟨hb,λ_=>trivial,λo x hx=>aeZ⟩,λh=>afH⟩,trivial⟩).mono ?_;rintro e w' ⟨v,vals,rfl,h1,h2,h3,h4,h5,h6,_,_⟩;have h6:v=.bool (ax q):=h6;exact⟨by rw[h6],h1,h2,h3,h4,h5⟩
theorem FW.form{B:Nat}{w:World}{v:Value}{f:Sp.LS}(h:FW B w v f):∃a cap,v=.slice a f.length cap:=by
 rcases h.2 with⟨rfl,a,c,e⟩|⟨b,off,cap,cs,t,fz,e,_⟩
 .exact⟨a,c,e⟩
 .exact⟨_,_,e⟩
theorem JU{w w1:World}{o:Obj}{f:Sp.LS}{q:List ak}{w2:World}(hb1:Below w.heap.size w w1)(hd:Done w1.heap.size w1.heap.size (w1.alloc o) none f q w2):Below w.heap.size w w2:=by obtain⟨_,_,_,_,_,h,_⟩:=hd;have hs:(w1.alloc o).heap.size=w1.heap.size+1:=abZ;exact⟨h.os.trans hb1.os,h.tape.trans hb1.tape,h.output.trans hb1.output,by have:=h.size;have:=hb1.size;omega,λb hb=>(h.block b (by have:=hb1.size;omega) (by have:=hb1.size;omega) (λe=>ahb)).trans ((heap_alloc_old w1 o (by have:=hb1.size;omega)).trans (hb1.block b hb))⟩
theorem acD(B P:Nat)(w:World):NW B P w (.slice none 0 0) []/\([]:List ak).length<=1000:=⟨⟨[],awJ w B 168 7,(λe=>ahb),λi x hx=>by simp at hx⟩,auZ _⟩
theorem NW.base{B P B' P':Nat}{w:World}{v:Value}{q:List ak}(h:NW B P w v q)(hB:B'<=B)(hP:w.heap.size<=P'):NW B' P' w v q:=by have hl:=λg hg=>h.lt (g:=g) hg;obtain⟨xs,⟨h1,h2⟩,_,h3⟩:=h;refine⟨xs,⟨h1,h2.imp id λ⟨g,cap,cur,e,e2,e3⟩=>⟨g,cap,cur,e,auK hB e2,e3⟩⟩,λe=>?_,h3⟩;have:=(hl P' e).2.1;omega
set_option maxHeartbeats 16000000 in
set_option maxRecDepth 100000 in
theorem alf(s:List UInt8)(hs:s.length<=1048576)(w:World)(hG:G.ok w):Calls prog 107 #[.string ⟨s.toArray⟩] w λe w'=>
 ∃v,e=.returned (.tuple #[v,.bool (gq s)])/\Below w.heap.size w w'/\NW w.heap.size w'.heap.size w' v (fJ s)/\(fJ s).length<=1000:=by
 have mixed:=Tryz.mixed;have sf:=apv s hs w hG;cases hok:jv s with
 |false=>
  have e1:gq s=false:=by unfold gq;rw[hok];rfl
  have e2:fJ s=[]:=by unfold fJ;rw[e1];rfl
  rw[hok]at sf;rw[e1,e2];clear e1 e2 hok
  go_enter Tryz.func107,Tryz.ntmps107
  go_wp2_with (first
   |(go_at_call 153;refine sf.mono ?_;rintro e w1 ⟨v,rfl,-,hb1⟩))
  all_goals go_ret2
  all_goals exact⟨_,rfl,hb1,acD _ _ _⟩
 |true=>
  have hpq:Hid (gq s=((wY (Sp.wordsOf s)).1&&(!decide (((wY (Sp.wordsOf s)).2.1.length:Int)>0)&&ax (wY (Sp.wordsOf s)).2.2))):=by show _=_;unfold gq;rw[hok,awI]
  have hpl:Hid (fJ s=bif gq s then(wY (Sp.wordsOf s)).2.2 else[]):=rfl;obtain⟨hw,hl,_⟩:=Y6 hok;have hws:∀x∈Sp.wordsOf s,x.1.length<=1000:=λx hx=>auK (RS x hx) (auK (qG.1 hok).1 abV);have as4:(Sp.wordsOf s).length<=24:=by rw[uI];have:=(qG.1 hok).2.2;omega
  rw[hok,hw]at sf;clear hok hw;generalize gq s=pq at hpq hpl ⊢;generalize fJ s=pl at hpl ⊢;generalize Sp.wordsOf s=f at sf hpq hpl hl hws as4;have hcnt:=xK (f.length+1) f [];unfold wY at hpq hpl;generalize hz:Sp.rd (f.length+1) f []=z at hpq hpl hcnt;obtain⟨b1,f2,q2⟩:=z;dsimp only at hpq hpl hcnt;have hz:Hid (Sp.rd (f.length+1) f []=(b1,f2,q2)):=hz;have n8:=G.low w hG;have nd:∀(W:World)(vf:Value)(P:Nat),w.heap.size<=P->G.ok W->W.heap[P]? =some (.cells #[vf,.slice none 0 0] 173 (0,0))->FW P W vf f->Calls prog 154 #[.pointer (some ⟨P,0,none⟩)] W λe w'=>e=.returned (.bool b1)/\Done P P W none f2 q2 w':=λW vf P hP hG2 hc hf=>by have:=afk (f.length+1) P P W vf (.slice none 0 0) f [] (awl _) (auK n8 hP) (auH _) hG2 hc hf ⟨[],awJ W P 168 7,(λe=>ahb),λi x hx=>by simp at hx⟩ hws (by rw[auI];omega);rw[hz.out]at this;exact this
  go_enter Tryz.func107,Tryz.ntmps107
  cases b1 with
  |false=>
   go_wp2_with (first
    |(go_at_call 153;refine sf.mono ?_;rintro e w1 ⟨v,rfl,hf1,hb1⟩;obtain⟨a1,c1,hv1⟩:=hf1.form;subst hv1;clear sf)
    |(go_at_call 154;refine(nd _ (.slice a1 f.length c1) w1.heap.size hb1.size (dL (dL hG hb1) ((Below.refl _ _).alloc (auH _) _)) (avo w1 _) (hf1.keep λb hb=>heap_alloc_old w1 _ hb)).mono ?_;rintro e w2 ⟨rfl,hd⟩))
   all_goals go_ret2
   all_goals exact⟨_,by rw[show pq=false from hpq.out];rfl,JU hb1 hd,by rw[show pl=[] by rw[hpl.out,hpq.out];rfl];exact acD _ _ _⟩
  |true=>
   rcases av9 f2.length with h0|h0
   .obtain rfl:f2=[]:=avv.1 h0;clear h0;cases hq:ax q2 with
    |false=>
     go_wp2_with (first
      |(go_at_call 153;refine sf.mono ?_;rintro e w1 ⟨v,rfl,hf1,hb1⟩;obtain⟨a1,c1,hv1⟩:=hf1.form;subst hv1;clear sf)
      |(go_at_call 154;refine(nd _ (.slice a1 f.length c1) w1.heap.size hb1.size (dL (dL hG hb1) ((Below.refl _ _).alloc (auH _) _)) (avo w1 _) (hf1.keep λb hb=>heap_alloc_old w1 _ hb)).mono ?_;rintro e w2 ⟨rfl,hd⟩;obtain⟨NR,vn2,hc2,hf2,hn2,hst2⟩:=id hd;obtain⟨a2,c2,hv2⟩:=hf2.form;obtain⟨a3,c3,hv3⟩:=hn2.form;subst hv2 hv3;have p0:w2.cell? ⟨w1.heap.size,0,none⟩=some (.slice a2 0 c2):=aN hc2 0;have p1:w2.cell? ⟨w1.heap.size,1,none⟩=some (.slice a3 q2.length c3):=aN hc2 1;have hdb:=JU hb1 hd)
      |(go_at_call 104;refine(ajW (.slice a3 q2.length c3) q2 aaV w2 hn2 (dL hG hdb)).mono ?_;rintro e w3 ⟨rfl,hb3⟩;rw[hq]))
     all_goals go_ret2
     all_goals exact⟨_,by rw[show pq=false by rw[hpq.out,hq];rfl];rfl,hdb.trans (hb3.mono hdb.size),by rw[show pl=[] by rw[hpl.out,hpq.out,hq];rfl];exact acD _ _ _⟩
    |true=>
     go_wp2_with (first
      |(go_at_call 153;refine sf.mono ?_;rintro e w1 ⟨v,rfl,hf1,hb1⟩;obtain⟨a1,c1,hv1⟩:=hf1.form;subst hv1;clear sf)
      |(go_at_call 154;refine(nd _ (.slice a1 f.length c1) w1.heap.size hb1.size (dL (dL hG hb1) ((Below.refl _ _).alloc (auH _) _)) (avo w1 _) (hf1.keep λb hb=>heap_alloc_old w1 _ hb)).mono ?_;rintro e w2 ⟨rfl,hd⟩;obtain⟨NR,vn2,hc2,hf2,hn2,hst2⟩:=id hd;obtain⟨a2,c2,hv2⟩:=hf2.form;obtain⟨a3,c3,hv3⟩:=hn2.form;subst hv2 hv3;have p0:w2.cell? ⟨w1.heap.size,0,none⟩=some (.slice a2 0 c2):=aN hc2 0;have p1:w2.cell? ⟨w1.heap.size,1,none⟩=some (.slice a3 q2.length c3):=aN hc2 1;have hdb:=JU hb1 hd)
      |(go_at_call 104;refine(ajW (.slice a3 q2.length c3) q2 aaV w2 hn2 (dL hG hdb)).mono ?_;rintro e w3 ⟨rfl,hb3⟩;rw[hq];have p3:w3.cell? ⟨w1.heap.size,1,none⟩=some (.slice a3 q2.length c3):=aN ((hb3.block _ (auL.1 hc2).1).trans hc2) 1))
     all_goals go_ret2
     all_goals refine⟨_,by rw[show pq=true by rw[hpq.out,hq];rfl];rfl,hdb.trans (hb3.mono hdb.size),?_⟩
     all_goals rw[show pl=q2 by rw[hpl.out,hpq.out,hq];rfl]
     all_goals exact⟨(hn2.keep λg hg=>hb3.block g (hn2.lt hg).2.1).base hb1.size (auH _),aaV⟩
   .have hpos:(0:Int)<(f2.length:Int):=aaV
    go_wp2_with (first
     |(go_at_call 153;refine sf.mono ?_;rintro e w1 ⟨v,rfl,hf1,hb1⟩;obtain⟨a1,c1,hv1⟩:=hf1.form;subst hv1;clear sf)
     |(go_at_call 154;refine(nd _ (.slice a1 f.length c1) w1.heap.size hb1.size (dL (dL hG hb1) ((Below.refl _ _).alloc (auH _) _)) (avo w1 _) (hf1.keep λb hb=>heap_alloc_old w1 _ hb)).mono ?_;rintro e w2 ⟨rfl,hd⟩;obtain⟨NR,vn2,hc2,hf2,hn2,hst2⟩:=id hd;obtain⟨a2,c2,hv2⟩:=hf2.form;subst hv2;have p0:w2.cell? ⟨w1.heap.size,0,none⟩=some (.slice a2 f2.length c2):=aN hc2 0;have hdb:=JU hb1 hd))
    all_goals go_ret2
    all_goals have hpf:pq=false:=by rw[hpq.out,auS (show(f2.length:Int)>0 from hpos)];rfl
    all_goals exact⟨_,by rw[hpf];rfl,hdb,by rw[show pl=[] by rw[hpl.out,hpf];rfl];exact acD _ _ _⟩
theorem an4{h:Array Obj}{S S':Nat->Prop}(hS:∀b,S b->S' b){v:Value}{q:List ak}(H:bY h S (.sl 168 bD) v q):bY h S' (.sl 168 bD) v q:=by
 refine⟨H.1,?_⟩;rcases H.2 with e|⟨b,off,cap,cs,t,fz,e1,e2,e3,e4,e5⟩
 .exact .inl e
 .exact .inr ⟨b,off,cap,cs,t,fz,e1,e2,hS b e3,e4,λi x hx=>aH.flat (S:=S) _ _ _ rfl (e5 i x hx)⟩
theorem WZ:fD prog G X8 GK:=by
 intro args p out k S vs w hcon hp hG hrep;unfold GK ig wS at hcon;split at hcon
 .next x hx=>
  obtain⟨s,⟨⟩⟩:=x;have hv:=DI wJ args _ vs.toList hx hrep
  match hvs:vs.toList,hv with
  |[v],hv=>have e1:v=.string ⟨s.toArray⟩:=hv.1.1;have e2:vs=#[.string ⟨s.toArray⟩]:=aki;subst e2;have hF:=Option.some.inj hcon;have hp1:p=(s.length<=1048576):=(congrArg Prod.fst hF).symm;have hout:out=⟨[(false,[.plain (.sl 168 bD (fJ s) true)]),(false,[.plain (.bool (gq s))])],none⟩:=(congrArg Prod.snd hF).symm;subst hp1 hout;refine(alf s hp w hG).mono ?_;rintro e w' ⟨u,rfl,hb,hn,hn2⟩;have hr:=afl hn hn2 (λb=>w.heap.size<=b/\b<w'.heap.size) λb h1 h2=>⟨h1,h2⟩;refine⟨_,λ_=>undef,rfl,hb.os,hb.tape,hb.output,hb.size,hb.block,?_,(λo x hx=>aeZ),(λo x q y b hx=>aeZ)⟩;exact⟨_,rfl,an4 (λb hb=>⟨⟨hb.2,λh=>absurd h (axk.2 hb.1),λo x hx=>aeZ⟩,λ_=>hb.1⟩) hr,rfl,trivial⟩
 .cases hcon
end Go.Proofs.Tryz
namespace Go.Proofs.Tryz
open Go Go.Fw Go.IntWalk Sp
theorem ajX(n:Nat):((n:Int).tmod 2 !=0)=!(n%2==0):=by
 have e:(n:Int).tmod 2=((n%2:Nat):Int):=rfl;rw[e];cases h:n%2 with
 |zero=>rfl
 |succ k=>rw[show((k+1:Nat)==0)=false from rfl];exact bne_iff_ne.2 aaV
theorem IU{w:Sp.LS}{n:Nat}(h:n<w.length):(w.getD n ([],())).1=Sp.wordAt w n:=by rw[pK aaV,auW]
theorem ahQ{w:Sp.LS}{n:Nat}(h:n+1<w.length):w.drop n=w.getD n ([],())::w.getD (n+1) ([],())::w.drop (n+2):=by rw[drop_cons w n ([],()) aaV,drop_cons w (n+1) ([],()) h]
theorem aem:OK vP.e:=by
 refine PA.ok mixed (aB [lZ.e,(uF,.pure qK)] ⟨IV,⟨yt,BN⟩,trivial⟩) af9 aa1 (show∀w,vP.goal (aen w) (w,())from ?_);intro w hin hp;dsimp only[vP]at hp ⊢;obtain⟨hl,hw⟩:w.length<=1000/\∀x∈w,x.1.length<=1048576:=hp;have no:(decide ((w.length:Int)<4)||!(w.length%2==0))=true->((((0,0,false,0,[],()):aQ),false,()):aQ×Bool×Unit)=((jw w).1,(jw w).2,()):=λh=>by unfold jw;rw[h];rfl
 refine⟨λ_=>4<=w.length/\w.length%2=0,af (λh=>no ar7) λh=>⟨abV,af (λh2=>no ?_) λh2=>⟨rfl,?_⟩⟩,?_⟩
 .rw[ajX]at h2;rw[h2,Bool.or_true]
 .rw[ajX]at h2;exact⟨aoH,au5.1 (fB h2)⟩
 rintro⟨⟨⟩,⟨⟩⟩ ⟨h4,arF⟩;have ef:jw w=((Sp.numAt w 0,Sp.numAt (w.drop 1) 0,Sp.wordAt (w.drop 1) 1==[115],Sp.numAt (w.drop 1) 2,iI (w.drop 4),()),(aW (Sp.wordAt w 0)&&(aW (Sp.wordAt w 1)&&aW (Sp.wordAt w 3)))&&uM (w.drop 4)):=by unfold jw;rw[auU (show ¬((w.length:Int)<4)from aaV),arF];show(CP _ _,_)=_;unfold CP;rw[awc]
 have w1:∀i:Int,0<=i->Sp.wordAt (w.drop 1) i=Sp.wordAt w (1+i):=λi hi=>Sp.tJ w 1 i abV hi;have en:∀v i,Sp.numAt v i=Sp.parseNum (Sp.wordAt v i):=λ_ _=>rfl;rw[en,en,en,w1 0 abV,w1 1 abV,w1 2 abV]at ef;have g0:(w.getD 0 ([],())).1=Sp.wordAt w 0:=IU aaV;have g1:(w.getD 1 ([],())).1=Sp.wordAt w 1:=IU aaV;have g2:(w.getD 2 ([],())).1=Sp.wordAt w 2:=IU aaV;have g3:(w.getD 3 ([],())).1=Sp.wordAt w 3:=IU aaV;have t0:Int.toNat (0:Int)=0:=rfl;have t1:Int.toNat (1:Int)=1:=rfl;have t2:Int.toNat (2:Int)=2:=rfl;have t3:Int.toNat (3:Int)=3:=rfl;rw[ef];refine⟨⟨abV,aaV⟩,trivial,⟨abV,aaV⟩,trivial,⟨abV,aaV⟩,trivial,⟨abV,aaV⟩,?_⟩;dsimp only;rw[t0,t1,t2,t3,g0,g1,g2,g3];refine⟨λy=>y=((aW (Sp.wordAt w 0)&&(aW (Sp.wordAt w 1)&&aW (Sp.wordAt w 3)),()),()),?_,?_⟩
 .cases aW (Sp.wordAt w 0)with
  |false=>exact⟨rfl,rfl⟩
  |true=>cases aW (Sp.wordAt w 1)<;>exact⟨rfl,rfl⟩
 rintro _ rfl;generalize (aW (Sp.wordAt w 0)&&(aW (Sp.wordAt w 1)&&aW (Sp.wordAt w 3)))=ok0;refine⟨λy=>∃(n:Nat)(ok:Bool)(al:List aY),y=((ok,((4+2*n:Nat):Int),()),(Sp.parseNum (Sp.wordAt w 0),Sp.parseNum (Sp.wordAt w 1),Sp.wordAt w 2==[115],Sp.parseNum (Sp.wordAt w 3),(),()),al,())/\4+2*n<=w.length/\al.length=n/\
  al++iI (w.drop (4+2*n))=iI (w.drop 4)/\(ok&&uM (w.drop (4+2*n)))=(ok0&&uM (w.drop 4)),λy=>((w.length:Int)-y.1.2.1).toNat,⟨0,ok0,[],rfl,h4,rfl,rfl,rfl⟩,?_⟩
 rintro _ ⟨n,ok,al,rfl,hn,hal,has,hok⟩;dsimp only;refine af (λh=>?_) λh=>?_
 .have hlt:=fE h;have hlt2:4+2*n+1<w.length:=aaV;have e1:IntKind.i64.wrap (((4+2*n:Nat):Int)+1)=((4+2*n+1:Nat):Int):=(wrap_in aaV).trans aaV;have e2:IntKind.i64.wrap (((4+2*n:Nat):Int)+2)=((4+2*(n+1):Nat):Int):=(wrap_in aaV).trans aaV;rw[e1,e2,auW,auW];have hd:=ahQ hlt2;have hd2:w.drop (4+2*n+2)=w.drop (4+2*(n+1)):=by rw[show 4+2*n+2=4+2*(n+1)from aaV]
  rw[hd2]at hd;rw[hd]at has hok;have ha:iI (w.getD (4+2*n) ([],())::w.getD (4+2*n+1) ([],())::w.drop (4+2*(n+1)))=((w.getD (4+2*n) ([],())).1,(aU (w.getD (4+2*n+1) ([],())).1).1)::iI (w.drop (4+2*(n+1))):=rfl;have hv:uM (w.getD (4+2*n) ([],())::w.getD (4+2*n+1) ([],())::w.drop (4+2*(n+1)))=((aU (w.getD (4+2*n+1) ([],())).1).2&&uM (w.drop (4+2*(n+1)))):=rfl;rw[ha]at has;rw[hv]at hok;refine⟨⟨aaV,aaV⟩,hw _ (getD_mem hlt2),⟨aaV,aaV⟩,qx alT,?_⟩;have next:∀b:Bool,(b&&uM (w.drop (4+2*(n+1))))=(ok0&&uM (w.drop 4))->∃(m:Nat)(ok:Bool)(al':List aY),((b,((4+2*(n+1):Nat):Int),()),(Sp.parseNum (Sp.wordAt w 0),Sp.parseNum (Sp.wordAt w 1),Sp.wordAt w 2==[115],Sp.parseNum (Sp.wordAt w 3),(),()),al++[((w.getD (4+2*n) ([],())).1,(aU (w.getD (4+2*n+1) ([],())).1).1)],())=((ok,((4+2*m:Nat):Int),()),(Sp.parseNum (Sp.wordAt w 0),Sp.parseNum (Sp.wordAt w 1),Sp.wordAt w 2==[115],Sp.parseNum (Sp.wordAt w 3),(),()),al',())/\4+2*m<=w.length/\al'.length=m/\
   al'++iI (w.drop (4+2*m))=iI (w.drop 4)/\(ok&&uM (w.drop (4+2*m)))=(ok0&&uM (w.drop 4)):=λb hb=>
   ⟨n+1,b,_,rfl,aaV,by rw[auB,auE,auI,hal],by rw[auR];exact has,hb⟩
  cases ok with
  |true=>exact⟨rfl,next _ (by rw[← hok,awI]),aaV⟩
  |false=>exact⟨rfl,next _ (by rw[← hok,awx,awx]),aaV⟩
 .have hge:4+2*n=w.length:=aoH;rw[hge,List.drop_length]at has hok;have e1:al=iI (w.drop 4):=by rw[← has];exact(au7 _).symm
  have e2:ok=(ok0&&uM (w.drop 4)):=by rw[← hok];exact(awS _).symm
  rw[e1,e2];rfl
end Go.Proofs.Tryz
namespace Go.Proofs.Tryz
open Go Go.Fw Go.IntWalk Sp
set_option maxRecDepth 100000
theorem six(a b c d e f:UInt8):([a,b,c,d,e,f]:List UInt8).length=6:=rfl
theorem anf:OK Es.e:=by
 refine PA.ok mixed (aB [] trivial) aaF aa1 (show∀a b,Es.goal (YA a b) (a,b,())from ?_);intro a b hin hp;dsimp only[Es]at hp ⊢;have hlen:a.length<=maxLen:=hin.1.1;rw[maxLen_eq]at hlen;refine af (λh=>?_) λh=>?_
 .have h:(a.length:Int)≠b.length:=acs;exact congrArg (·,()) (auU λe=>h ar2).symm
 .have h:(a.length:Int)=b.length:=acs;exact Hq (K:=λr=>r=(decide (a=b),())) (λx y=>!(x.1==y.1)) (λx y=>aqM) _ a b _ hlen aaV (λe=>arM) λe=>arN
theorem aal:OK qX.e:=by
 refine PA.ok mixed (aB [] trivial) acJ aa1 (show∀a b,qX.goal (aaG a b) (a,b,())from ?_);intro a b hin hp;dsimp only[qX]at hp ⊢;have hlen:a.length<=maxLen:=hin.1.1;rw[maxLen_eq]at hlen;refine af (λh=>?_) λh=>?_
 .have h:(a.length:Int)≠b.length:=acs;exact congrArg (·,()) (auU λe=>h ar2).symm
 .have h:(a.length:Int)=b.length:=acs;exact Hq (K:=λr=>r=(decide (a=b),())) (λx y=>!(x.1==y.1)) (λx y=>aqM) _ a b _ hlen aaV (λe=>arM) λe=>arN
theorem UZ:OK wK.e:=by
 refine PA.ok mixed (aB [ku.e] ⟨vI,trivial⟩) H0 aa1 (show∀f0 f1,wK.goal (U0 f0 f1) ((f0,f1,()),())from ?_);intro f0 f1 hin hp;dsimp only[wK]at hp ⊢;have hl:f0.length<=1048576:=hp;have e1:∀z:List UInt8,gZ++32::(f0++32::z)=[102,105,101,108,100,32]++f0++32::z:=λz=>by rw[auR];rfl
 have e:dD (f0,f1,())=bif !dm f0 then[]else bif f1==1 then[102,105,101,108,100,32]++f0++[32,105,110,116]else bif f1==2 then[102,105,101,108,100,32]++f0++[32,115,116,114,105,110,103]else[]:=by show(bif !dm f0 then[]else bif f1==1 then gZ++32::(f0++32::JL)else bif f1==2 then gZ++32::(f0++32::rM)else[])=_;rw[e1,e1];rfl
 refine⟨trivial,?_⟩;rw[e];refine af (λh=>ar7) λh=>af (λh1=>⟨bn (by rw[six];omega),bn (by rw[auB,six,auE,auE,auE,auE,auI];omega),by rw[h,h1];rfl⟩) λh1=>af (λh2=>⟨bn (by rw[six];omega),bn (by simp only[auB,auE,auI];omega),atn⟩) λh2=>atn
theorem U1:OK wL.e:=by
 refine PA.ok mixed (aB [kz.e] ⟨vJ,trivial⟩) H0 aa1 (show∀f0 f1,wL.goal (U2 f0 f1) ((f0,f1,()),())from ?_);intro f0 f1 hin hp;dsimp only[wL]at hp ⊢;have hl:f0.length<=1048576:=hp;have e1:∀z:List UInt8,gZ++32::(f0++32::z)=[102,105,101,108,100,32]++f0++32::z:=λz=>by rw[auR];rfl
 have e:dD (f0,f1,())=bif !dm f0 then[]else bif f1==1 then[102,105,101,108,100,32]++f0++[32,105,110,116]else bif f1==2 then[102,105,101,108,100,32]++f0++[32,115,116,114,105,110,103]else[]:=by show(bif !dm f0 then[]else bif f1==1 then gZ++32::(f0++32::JL)else bif f1==2 then gZ++32::(f0++32::rM)else[])=_;rw[e1,e1];rfl
 refine⟨trivial,?_⟩;rw[e];refine af (λh=>ar7) λh=>af (λh1=>⟨bn (by rw[six];omega),bn (by rw[auB,six,auE,auE,auE,auE,auI];omega),by rw[h,h1];rfl⟩) λh1=>af (λh2=>⟨bn (by rw[six];omega),bn (by simp only[auB,auE,auI];omega),atn⟩) λh2=>atn
theorem Xa:OK x9.e:=by
 refine PA.ok mixed (aB [lq.e,kZ.e] ⟨A7,rV,trivial⟩) YB aa1 (show∀f0 f1 f2 f3 f4,x9.goal (Xb f0 f1 f2 f3 f4) ((f0,f1,f2,f3,f4,()),())from ?_);intro f0 f1 f2 f3 f4 hin hp;dsimp only[x9]at hp ⊢;obtain⟨hl,ht⟩:f4.length<=1048576/\(fK f4).length<=1073741824:=hp;have q0:=CQ (n:=f0) hin.1.1;have q1:=CQ (n:=f1) hin.1.2.1;have q3:=CQ (n:=f3) hin.1.2.2.2.1;have h5:∀a b c d e:UInt8,([a,b,c,d,e]:List UInt8).length=5:=λ_ _ _ _ _=>rfl;have h3:∀a b c:UInt8,([a,b,c]:List UInt8).length=3:=λ_ _ _=>rfl;have h1:([32]:List UInt8).length=1:=rfl;refine⟨trivial,bn (by rw[h5];omega),bn (by rw[auB,h5,h1];omega),trivial,bn (by rw[auB,auB,h5,h1];omega),
  iy (([102,105,108,101,32]++Lib.itoa f0++[32]++Lib.itoa f1++[32,(bif f2 then 115 else 111),32],()),()) ?_ ?_⟩
 .cases f2 with
  |true=>exact⟨bn apX,rfl,rfl⟩
  |false=>exact⟨bn apX,rfl,rfl⟩
 refine⟨trivial,bn apX,?_⟩;have hh:([102,105,108,101,32]++Lib.itoa f0++[32]++Lib.itoa f1++[32,(bif f2 then 115 else 111),32]++Lib.itoa f3:List UInt8).length<=80:=apX;have he:fU (f0,f1,f2,f3,f4,())=[102,105,108,101,32]++Lib.itoa f0++[32]++Lib.itoa f1++[32,(bif f2 then 115 else 111),32]++Lib.itoa f3++fK f4:=by
  have e1:fU (f0,f1,f2,f3,f4,())=jY++32::(Lib.itoa f0++32::Lib.join (jy (f0,f1,f2,f3,f4,())) [32]):=by unfold fU;rw[show jy (f0,f1,f2,f3,f4,())=Lib.itoa f1::((bif f2 then[115]else[111])::Lib.itoa f3::dQ f4)from rfl,jD,jD]
  rw[e1,afn];cases f2<;>simp[jY]
 generalize ([102,105,108,101,32]++Lib.itoa f0++[32]++Lib.itoa f1++[32,(bif f2 then 115 else 111),32]++Lib.itoa f3:List UInt8)=H at hh he ⊢;rw[he];refine fZ (mk:=λi(s:List UInt8)=>((s,i,()),())) (λy=>y.1.2.1) (λ_ _=>rfl) f4.length aaV (λn s=>s=H++fK (f4.take n)) (by rw[awM];exact(au7 _).symm) (λI μ n s hn hJ next=>?_) λI μ s hJ=>?_
 .subst hJ;have hm:=@aes f4 (n+1);have hk:=amR hn;rw[hk]at hm;simp only[auB,auE]at hm;dsimp only;rw[auW];have hi:(0:Int)<=n/\(n:Int)<f4.length:=aaV;refine eX aaV ⟨bn aqt,hi,bn aqt,bn aqt,hi,trivial,bn aqt,rfl,next _ ?_⟩;rw[hk];simp
 .subst hJ;dsimp only;rw[avl (auH _)];exact eG aaV rfl
theorem E5(a:List (List UInt8))(x:List UInt8):Sp.ls (a++[x])=Sp.ls a++[(x,())]:=by rw[Sp.WW];rfl
theorem map_take{α β:Type}(f:α->β)(l:List α){n:Nat}(h:n<l.length)(d:α):(l.take (n+1)).map f=(l.take n).map f++[f (l.getD n d)]:=by rw[avD h,avA,auF,auJ h];rfl
theorem ajZ{x:aV}(h:bM x=true){f:aQ}(hf:f∈x.2.1):f.2.2.2.2.1.length<=1048576/\(fK f.2.2.2.2.1).length<=1073741824:=by
 obtain⟨k1,k2⟩:=(Ad h).2.1 f hf;have:=S9 _ (xq.1 k1).1;have hj:(fK f.2.2.2.2.1).length<=qR (dQ f.2.2.2.2.1):=by
  rw[← Tc];have:∀w:List (List UInt8),(Lib.joinTail [32] w).length<=qR w:=by
   intro w
   induction w with
   |nil=>exact auZ _
   |cons y r ih=>show([32]++y++Lib.joinTail [32] r).length<=_;rw[fM,auB,auB,auE,auI];omega
  exact this _
 exact⟨aaV,aaV⟩
theorem DV:OK jF.e:=by
 refine PA.ok mixed (aB [wI.e,xZ.e,nO.e,wL.e,iJ.e] ⟨UU,WX,yA,U1,vM,trivial⟩) Qo aa1 (show∀x0 x1 x2 x3,jF.goal (OH x0 x1 x2 x3) ((x0,x1,x2,x3,()),())from ?_);intro x0 x1 x2 x3 hin hp;dsimp only[jF]at hp ⊢;have hp:fH (x0,x1,x2,x3,()):=hp;refine⟨hp,af (λh=>?_) λh=>?_⟩
 .have h:bM (x0,x1,x2,x3,())=false:=iZ h;rw[amS h]
 have h:bM (x0,x1,x2,x3,())=true:=fB h;obtain⟨p1,p2,p3,p4,p5,p6,p7⟩:=Ad h;have few:=λf hf=>ajZ h (f:=f) hf;rw[DW h];dsimp only at p1 p2 p3 p4 p5 p6 p7 few;have hn:=(iq p3).2.2.2.2;have h5:∀a b c d e:UInt8,([a,b,c,d,e]:List UInt8).length=5:=λ_ _ _ _ _=>rfl;have h4:∀a b c d:UInt8,([a,b,c,d]:List UInt8).length=4:=λ_ _ _ _=>rfl;have one:∀x:List UInt8×Unit,[x].length=1:=λ_=>rfl;refine fZ (mk:=λi(s:Sp.LS)=>(((),i,()),s,())) (λy=>y.1.2.1) (λ_ _=>rfl) x0.length aaV (λn s=>s=Sp.ls ((x0.take n).map dD)) rfl (λI μ n s hn hJ next=>?_) λI μ s hJ=>?_
 .subst hJ;dsimp only;rw[auW];have hm:=p1 _ (getD_mem (d:=([],0,())) hn);refine eX aaV ⟨⟨aaV,aaV⟩,auK (aaH hm.1) abV,qx (by rw[one];simp only[Sp.ls,auV,auN];omega),rfl,next _ ?_⟩;rw[map_take _ _ hn ([],0,()),E5]
 subst hJ;dsimp only;rw[avl (auH _)];refine eG aaV ⟨trivial,bn (by rw[h5];omega),qx (by rw[one];simp only[Sp.ls,auV];omega),?_⟩;have e1:Sp.ls (x0.map dD)++[([110,101,120,116,32]++Lib.itoa x2,())]=Sp.ls (x0.map dD++[jg x2]):=(E5 _ _).symm;rw[e1];refine fZ (mk:=λi(s:Sp.LS)=>(((),i,()),s,())) (λy=>y.1.2.1) (λ_ _=>rfl) x1.length aaV (λn s=>s=Sp.ls (x0.map dD++[jg x2]++(x1.take n).map fU)) aoE (λI μ n s hn hJ next=>?_) λI μ s hJ=>?_
 .subst hJ;dsimp only;rw[auW];refine eX aaV ⟨⟨aaV,aaV⟩,few _ (getD_mem (d:=(0,0,false,0,[],())) hn),qx ajP,rfl,next _ ?_⟩;rw[map_take _ _ hn (0,0,false,0,[],()),← auR,E5]
 subst hJ;dsimp only;rw[avl (auH _)];refine eG aaV ?_;refine fZ (mk:=λi(s:Sp.LS)=>(((),i,()),s,())) (λy=>y.1.2.1) (λ_ _=>rfl) x3.length aaV (λn s=>s=Sp.ls (x0.map dD++[jg x2]++x1.map fU++(x3.take n).map je)) aoE (λI μ n s hn hJ next=>?_) λI μ s hJ=>?_
 .subst hJ;dsimp only;rw[auW];have hm:=p4 _ (getD_mem (d:=([],[],())) hn);have hv:=qy hm.1;have hq:=(Sp.gQ hm.2).2;have ht:=acK (x3.getD n ([],[],())).2.1;refine eX aaV ⟨⟨aaV,aaV⟩,bn (by rw[h4];omega),bn (by rw[auB,h4];show _+1<=_;omega),aaV,bn (by rw[auB,auB,h4];show 4+_+1+_<=_;omega),qx ajP,rfl,next _ ?_⟩;rw[map_take _ _ hn ([],[],()),← auR,E5];have e:je (x3.getD n ([],[],()))=[100,105,114,32]++(x3.getD n ([],[],())).1++[32]++Sp.textOf (x3.getD n ([],[],())).2.1:=by unfold je;simp[jU]
  rw[e]
 .subst hJ;dsimp only;rw[avl (auH _)];refine eG aaV ?_;have e:jZ (x0,x1,x2,x3,())=x0.map dD++[jg x2]++x1.map fU++x3.map je:=by unfold jZ;simp
  rw[e]
theorem DR:OK jG.e:=by
 refine PA.ok mixed (aB [qL.e,x9.e,kZ.e,wK.e,iK.e] ⟨G5,Xa,rV,UZ,vK,trivial⟩) Qp aa1 (show∀x0 x1 x2 x3,jG.goal (OI x0 x1 x2 x3) ((x0,x1,x2,x3,()),())from ?_);intro x0 x1 x2 x3 hin hp;dsimp only[jG]at hp ⊢;have hp:fH (x0,x1,x2,x3,()):=hp;refine⟨hp,af (λh=>?_) λh=>?_⟩
 .have h:bM (x0,x1,x2,x3,())=false:=iZ h;rw[amS h]
 have h:bM (x0,x1,x2,x3,())=true:=fB h;obtain⟨p1,p2,p3,p4,p5,p6,p7⟩:=Ad h;have few:=λf hf=>ajZ h (f:=f) hf;rw[DW h];dsimp only at p1 p2 p3 p4 p5 p6 p7 few;have hn:=(iq p3).2.2.2.2;have h5:∀a b c d e:UInt8,([a,b,c,d,e]:List UInt8).length=5:=λ_ _ _ _ _=>rfl;have h4:∀a b c d:UInt8,([a,b,c,d]:List UInt8).length=4:=λ_ _ _ _=>rfl;have one:∀x:List UInt8×Unit,[x].length=1:=λ_=>rfl;refine fZ (mk:=λi(s:Sp.LS)=>(((),i,()),s,())) (λy=>y.1.2.1) (λ_ _=>rfl) x0.length aaV (λn s=>s=Sp.ls ((x0.take n).map dD)) rfl (λI μ n s hn hJ next=>?_) λI μ s hJ=>?_
 .subst hJ;dsimp only;rw[auW];have hm:=p1 _ (getD_mem (d:=([],0,())) hn);refine eX aaV ⟨⟨aaV,aaV⟩,auK (aaH hm.1) abV,qx (by rw[one];simp only[Sp.ls,auV,auN];omega),rfl,next _ ?_⟩;rw[map_take _ _ hn ([],0,()),E5]
 subst hJ;dsimp only;rw[avl (auH _)];refine eG aaV ⟨trivial,bn (by rw[h5];omega),qx (by rw[one];simp only[Sp.ls,auV];omega),?_⟩;have e1:Sp.ls (x0.map dD)++[([110,101,120,116,32]++Lib.itoa x2,())]=Sp.ls (x0.map dD++[jg x2]):=(E5 _ _).symm;rw[e1];refine fZ (mk:=λi(s:Sp.LS)=>(((),i,()),s,())) (λy=>y.1.2.1) (λ_ _=>rfl) x1.length aaV (λn s=>s=Sp.ls (x0.map dD++[jg x2]++(x1.take n).map fU)) aoE (λI μ n s hn hJ next=>?_) λI μ s hJ=>?_
 .subst hJ;dsimp only;rw[auW];refine eX aaV ⟨⟨aaV,aaV⟩,few _ (getD_mem (d:=(0,0,false,0,[],())) hn),qx ajP,rfl,next _ ?_⟩;rw[map_take _ _ hn (0,0,false,0,[],()),← auR,E5]
 subst hJ;dsimp only;rw[avl (auH _)];refine eG aaV ?_;refine fZ (mk:=λi(s:Sp.LS)=>(((),i,()),s,())) (λy=>y.1.2.1) (λ_ _=>rfl) x3.length aaV (λn s=>s=Sp.ls (x0.map dD++[jg x2]++x1.map fU++(x3.take n).map je)) aoE (λI μ n s hn hJ next=>?_) λI μ s hJ=>?_
 .subst hJ;dsimp only;rw[auW];have hm:=p4 _ (getD_mem (d:=([],[],())) hn);have hv:=qy hm.1;have hq:=(Sp.gQ hm.2).2;have ht:=acK (x3.getD n ([],[],())).2.1;refine eX aaV ⟨⟨aaV,aaV⟩,bn (by rw[h4];omega),bn (by rw[auB,h4];show _+1<=_;omega),⟨aaV,aaV⟩,aaV,bn (by rw[auB,auB,h4];show 4+_+1+_<=_;omega),qx ajP,rfl,next _ ?_⟩;rw[map_take _ _ hn ([],[],()),← auR,E5];have e:je (x3.getD n ([],[],()))=[100,105,114,32]++(x3.getD n ([],[],())).1++[32]++Sp.textOf (x3.getD n ([],[],())).2.1:=by unfold je;simp[jU]
  rw[e]
 .subst hJ;dsimp only;rw[avl (auH _)];refine eG aaV ?_;have e:jZ (x0,x1,x2,x3,())=x0.map dD++[jg x2]++x1.map fU++x3.map je:=by unfold jZ;simp
  rw[e]
end Go.Proofs.Tryz
namespace Go.Proofs.Tryz
open Go Go.Fw Go.IntWalk Sp
set_option maxRecDepth 100000
theorem aif(s:List UInt8){n:Nat}(h:n<s.length):Sp.sumOf (s.take (n+1))=(33*Sp.sumOf (s.take n)+((s.getD n 0).toNat:Int)).tmod 65521:=by unfold Sp.sumOf;rw[avD h,List.foldl_append,auF,auJ h];rfl
theorem Ll:OK wM.e:=by
 refine PA.ok mixed (aB [] trivial) acL aa1 (show∀s,wM.goal (aaI s) (s,())from ?_);intro s hin hp;dsimp only[wM]at hp ⊢;have hs:s.length<=1048576:=hp;refine fZ (mk:=λi(v:Int)=>((v,i,()),())) (λy=>y.1.2.1) (λ_ _=>rfl) s.length aaV (λn v=>v=Sp.sumOf (s.take n)) rfl (λI μ n v hn hJ next=>?_) λI μ v hJ=>?_
 .subst hJ;have hr:=Xc (s.take n);have hb:(s.getD n 0).toNat<256:=(s.getD n 0).toNat_lt;dsimp only;rw[auW];have e:(IntKind.i64.wrap (IntKind.i64.wrap (Sp.sumOf (s.take n)*33)+IntKind.i64.wrap ((s.getD n 0).toNat:Int)))=33*Sp.sumOf (s.take n)+((s.getD n 0).toNat:Int):=by rw[wrap_in (z:=Sp.sumOf (s.take n)*33) aaV,wrap_in (z:=((s.getD n 0).toNat:Int)) aaV,wrap_in aaV];omega
  rw[e];exact eX aaV ⟨⟨aaV,aaV⟩,abV,rfl,next _ (aif s hn).symm⟩
 .subst hJ;dsimp only;rw[avl (auH _)];exact eG aaV rfl
theorem Lm:OK wO.e:=by
 refine PA.ok mixed (aB [] trivial) acM aa1 (show∀s,wO.goal (aaJ s) (s,())from ?_);intro s hin hp;dsimp only[wO]at hp ⊢;have hs:s.length<=1048576:=hp;refine fZ (mk:=λi(v:Int)=>((v,i,()),())) (λy=>y.1.2.1) (λ_ _=>rfl) s.length aaV (λn v=>v=Sp.sumOf (s.take n)) rfl (λI μ n v hn hJ next=>?_) λI μ v hJ=>?_
 .subst hJ;have hr:=Xc (s.take n);have hb:(s.getD n 0).toNat<256:=(s.getD n 0).toNat_lt;dsimp only;rw[auW];have e:(IntKind.i64.wrap (IntKind.i64.wrap (33*Sp.sumOf (s.take n))+IntKind.i64.wrap ((s.getD n 0).toNat:Int)))=33*Sp.sumOf (s.take n)+((s.getD n 0).toNat:Int):=by rw[wrap_in (z:=33*Sp.sumOf (s.take n)) aaV,wrap_in (z:=((s.getD n 0).toNat:Int)) aaV,wrap_in aaV]
  rw[e];exact eX aaV ⟨⟨aaV,aaV⟩,abV,rfl,next _ (aif s hn).symm⟩
 .subst hJ;dsimp only;rw[avl (auH _)];exact eG aaV rfl
theorem Ih{n:Int}{x:aV}(h:bM x=true)(h1:1<=n)(h2:n<=1000000000)(m:Nat):(Sp.linesT (Lib.itoa n::(jZ x).take m)).length<=14424:=by
 obtain⟨e1,e2⟩:=E8 h;have hn:=(iq (gX.2 (show 0<=n/\n<=1000000000 from aaV))).2.2.2.2;have:=ali (Lib.itoa n::(jZ x).take m) λw hw=>by
  rcases auQ.1 hw with rfl|hw
  .omega
  .exact(e1 w (awd hw)).1
 rw[auE,auN]at this;have h3:(min m (jZ x).length+1)*601<=24*601:=au1 _ aaV;omega
theorem aj0(l:List (List UInt8))(n:Nat):((Sp.ls l).getD n ([],())).1=l.getD n []:=by unfold Sp.ls;rw[auF,auF,avw];cases l[n]? <;>rfl
theorem getD_in{α:Type}{l:List α}{n:Nat}{d:α}(h:n<l.length):l.getD n d∈l:=by rw[auF,auJ h];exact av3 h
theorem afo(l:List (List UInt8)){n:Nat}(h:n<l.length):l.take (n+1)=l.take n++[l.getD n []]:=by rw[avD h,auF,auJ h];rfl
theorem BP:OK o8.e:=by
 refine PA.ok mixed (aB [wM.e,jG.e,kZ.e,iU.e,iK.e] ⟨Ll,DR,rV,jX,vK,trivial⟩) YC aa1 (show∀version x0 x1 x2 x3,o8.goal (Xd version x0 x1 x2 x3) (version,(x0,x1,x2,x3,()),())from ?_);intro v x0 x1 x2 x3 hin hp;dsimp only[o8]at hp ⊢;have hp:fH (x0,x1,x2,x3,()):=hp;refine⟨λ_=>bM (x0,x1,x2,x3,())=true/\1<=v/\v<=1000000000,⟨hp,?_⟩,λ_ hy=>?_⟩
 .refine af (λh=>?_) λh=>⟨trivial,af (λg=>?_) λg=>?_⟩
  .unfold Sp.slot;rw[iZ h];rfl
  .have g:(decide (1<=v)&&decide (v<=1000000000))=false:=iZ g;unfold Sp.slot;rw[g,avP];rfl
  .have g:(decide (1<=v)&&decide (v<=1000000000))=true:=fB g;rw[auC,auP,auP]at g;exact⟨rfl,fB h,g.1,g.2⟩
 obtain⟨h,h1,h2⟩:=hy;obtain⟨e1,e2⟩:=E8 h;have hn:=(iq (gX.2 (show 0<=v/\v<=1000000000 from aaV))).2.2.2.2;have one:∀x:UInt8,[x].length=1:=λ_=>rfl;rw[J6 h h1 h2];refine⟨trivial,bn asa,hp,?_⟩;dsimp only;rw[DW h,aii];refine fZ (mk:=λi(s:List UInt8)=>((s,i,()),())) (λy=>y.1.2.1) (λ_ _=>rfl) (jZ (x0,x1,x2,x3,())).length aaV (λn s=>s=Sp.linesT (Lib.itoa v::(jZ (x0,x1,x2,x3,())).take n)) (by show Lib.itoa v++[10]=Lib.itoa v++[10]++[];rw[au7]) (λI μ n s hnl hJ next=>?_) λI μ s hJ=>?_
 .have hb:=Ih h h1 h2 n;rw[← hJ]at hb;have hl:=(e1 _ (getD_in (d:=[]) hnl)).1;dsimp only;rw[auW,aj0];refine eX aaV ⟨⟨aaV,aaV⟩,bn aaV,bn aqc,rfl,next _ ?_⟩;rw[afo _ hnl,hJ,show Lib.itoa v::((jZ (x0,x1,x2,x3,())).take n++[(jZ (x0,x1,x2,x3,())).getD n []])=(Lib.itoa v::(jZ (x0,x1,x2,x3,())).take n)++[(jZ (x0,x1,x2,x3,())).getD n []]from rfl,Y7,auR]
 .have hb:=Ih h h1 h2 (jZ (x0,x1,x2,x3,())).length;rw[← hJ]at hb;rw[avl (auH _)]at hJ;have hJ:s=jo v (x0,x1,x2,x3,()):=hJ;have hs:=(iq (LJ s)).2.2.2.2;dsimp only;rw[← hJ];refine eG aaV ⟨aaV,trivial,bn aaV,bn aqc,?_⟩;rw[auR]
theorem IJ:OK rP.e:=by
 refine PA.ok mixed (aB [wO.e,jF.e,nO.e,ji.e,iJ.e] ⟨Lm,DV,yA,kE,vM,trivial⟩) YD aa1 (show∀version x0 x1 x2 x3,rP.goal (Xe version x0 x1 x2 x3) (version,(x0,x1,x2,x3,()),())from ?_);intro v x0 x1 x2 x3 hin hp;dsimp only[rP]at hp ⊢;have hp:fH (x0,x1,x2,x3,()):=hp;refine⟨λ_=>bM (x0,x1,x2,x3,())=true/\1<=v/\v<=1000000000,⟨hp,?_⟩,λ_ hy=>?_⟩
 .refine af (λh=>?_) λh=>⟨trivial,af (λg=>?_) λg=>?_⟩
  .unfold Sp.slot;rw[iZ h];rfl
  .have g:(decide (1<=v)&&decide (v<=1000000000))=false:=iZ g;unfold Sp.slot;rw[g,avP];rfl
  .have g:(decide (1<=v)&&decide (v<=1000000000))=true:=fB g;rw[auC,auP,auP]at g;exact⟨rfl,fB h,g.1,g.2⟩
 obtain⟨h,h1,h2⟩:=hy;obtain⟨e1,e2⟩:=E8 h;have hn:=(iq (gX.2 (show 0<=v/\v<=1000000000 from aaV))).2.2.2.2;have one:∀x:UInt8,[x].length=1:=λ_=>rfl;rw[J6 h h1 h2];refine⟨trivial,bn asa,hp,?_⟩;dsimp only;rw[DW h,aii];refine fZ (mk:=λi(s:List UInt8)=>((s,i,()),())) (λy=>y.1.2.1) (λ_ _=>rfl) (jZ (x0,x1,x2,x3,())).length aaV (λn s=>s=Sp.linesT (Lib.itoa v::(jZ (x0,x1,x2,x3,())).take n)) (by show Lib.itoa v++[10]=Lib.itoa v++[10]++[];rw[au7]) (λI μ n s hnl hJ next=>?_) λI μ s hJ=>?_
 .have hb:=Ih h h1 h2 n;rw[← hJ]at hb;have hl:=(e1 _ (getD_in (d:=[]) hnl)).1;dsimp only;rw[auW,aj0];refine eX aaV ⟨⟨aaV,aaV⟩,bn asa,bn aqc,rfl,next _ ?_⟩;rw[afo _ hnl,hJ,show Lib.itoa v::((jZ (x0,x1,x2,x3,())).take n++[(jZ (x0,x1,x2,x3,())).getD n []])=(Lib.itoa v::(jZ (x0,x1,x2,x3,())).take n)++[(jZ (x0,x1,x2,x3,())).getD n []]from rfl,Y7]
 .have hb:=Ih h h1 h2 (jZ (x0,x1,x2,x3,())).length;rw[← hJ]at hb;rw[avl (auH _)]at hJ;have hJ:s=jo v (x0,x1,x2,x3,()):=hJ;have hs:=(iq (LJ s)).2.2.2.2;dsimp only;rw[← hJ];refine eG aaV ⟨aaV,trivial,bn aaV,bn aqc,?_⟩;rw[auR]
theorem amT(s:List UInt8){n b:Nat}(h:n<s.length)(hb:b<=n):(s.take (n+1)).drop b=(s.take n).drop b++[s.getD n 0]:=by rw[avD h,avW ah8,auF,auJ h];rfl
theorem ad2:OK Ef.e:=by
 refine PA.ok mixed (aB [] trivial) agd aa1 (show∀s,Ef.goal (aeu s) (s,())from ?_);intro s hin hp;dsimp only[Ef]at hp ⊢;have hs:s.length<=1048576:=hp;refine fZ (s0:=((0:Int),([]:Sp.LS))) (mk:=λi(v:Int×Sp.LS)=>(((),v.1,i,()),v.2,())) (λy=>y.1.2.2.1) (λ_ _=>rfl) s.length aaV (λn v=>v.2.length<=n/\∃b:Nat,v.1=b/\b<=n/\v.2++bC 10 ((s.take n).drop b) (s.drop n)=Sp.pieces 10 s)
  ⟨auH _,0,rfl,auH _,rfl⟩ (λI μ n v hn hJ next=>?_) λI μ v hJ=>?_
 .obtain⟨v1,v2⟩:=v;obtain⟨hl,b,rfl,hbn,he⟩:=hJ;dsimp only at hl he ⊢;rw[auW,auW];rw[drop_cons s n 0 hn]at he;refine eX aaV ⟨⟨aaV,aaV⟩,af (λh2=>?_) λh2=>?_⟩
  .have hx:(s.getD n 0==10)=true:=by have:=au5.1 h2;exact au5.2 (UInt8.toNat_inj.1 (by show _=10;omega))
   rw[bC,hx]at he;have ew:IntKind.i64.wrap ((n:Int)+1)=((n+1:Nat):Int):=eF _ aaV;refine⟨⟨aaV,aaV,aaV⟩,qx alT,rfl,next (_,_) ⟨by rw[auB];exact axr hl,n+1,ew,auH _,?_⟩⟩;have hnil:(s.take (n+1)).drop (n+1)=[]:=List.drop_eq_nil_of_le ah8;rw[← he,auR,hnil];rfl
  .have hx:(s.getD n 0==10)=false:=by refine auD.2 λe=>auD.1 h2 ?_;rw[e];rfl
   rw[bC,hx]at he;refine⟨rfl,next (_,_) ⟨avh hl,b,rfl,aaV,?_⟩⟩;rw[amT s hn hbn];exact he
 .obtain⟨v1,v2⟩:=v;obtain⟨hl,b,rfl,hbn,he⟩:=hJ;dsimp only at hl he ⊢;refine eG aaV ?_;rw[List.drop_length]at he;have he:v2++[((s.take s.length).drop b,())]=Sp.pieces 10 s:=he;show(v2,())=(qm s,());unfold qm;rw[← he,auB,auE,auI,axg,ax0]
end Go.Proofs.Tryz
namespace Go.Proofs.Tryz
open Go Go.Fw Go.IntWalk Sp
set_option maxRecDepth 100000
theorem OJ(l:List (Int×Unit)):(byteRow l).length=l.length:=by unfold byteRow;rw[auV]
theorem acN:OK Ci.e:=by
 refine XA.ok mixed (aB [yD.e] ⟨Nr,trivial⟩) aev (λ_ _=>⟨(([],()),(([],0,0,()),())),⟨abV,abV⟩⟩) aa1 (show∀c0 c1 c2 n,Ci.goal (acO c0 c1 c2 n) ((c0,c1,c2,()),n,())from ?_);intro b i h n hin hp;dsimp only[Ci]at hp ⊢;have hp:0<=i:=hp;have one:∀x:Int×Unit,[x].length=1:=λ_=>rfl;refine af (λhc=>?_) λhc=>?_
 .refine fZ (s0:=(((b,i,h,()):List (Int×Unit)×Int×Int×Unit),([]:List (Int×Unit)))) (mk:=λk(v:(List (Int×Unit)×Int×Int×Unit)×List (Int×Unit))=>(((),k,()),v.1,v.2,())) (λy=>y.1.2.1) (λ_ _=>rfl) 5000 abV (λm v=>0<=v.1.2.1/\v.2.length<=m) ⟨hp,auH _⟩ (λI μ m v hm hJ next=>?_) λI μ v hJ=>?_
  .obtain⟨h1,h2⟩:=hJ;dsimp only;refine eX aaV ⟨h1,λr hr=>⟨qx asa,rfl,next (r.2.1,v.2++[(IntKind.u8.wrap r.1.1,())]) ⟨hr.1,aqc⟩⟩⟩
  .obtain⟨h1,h2⟩:=hJ;dsimp only;exact eG aaV ⟨h1,by rw[OJ];exact h2⟩
 .have hc:=fV hc;rcases Int.lt_or_le n 0 with hn|hn
  .refine⟨λy=>y.1.2.1=0/\0<=y.2.1.2.1/\y.2.2.1=[],λ_=>0,⟨rfl,hp,rfl⟩,?_⟩;rintro⟨⟨⟨⟩,k,⟨⟩⟩,⟨b1,i1,h1,⟨⟩⟩,l,⟨⟩⟩ ⟨hk,h2,hl⟩;have hk:k=0:=hk;have hl:l=[]:=hl;subst hk hl;exact eG afb ⟨h2,by rw[OJ];exact auZ _⟩
  .obtain⟨N,rfl⟩:∃N:Nat,n=N:=⟨n.toNat,aaV⟩;refine fZ (s0:=(((b,i,h,()):List (Int×Unit)×Int×Int×Unit),([]:List (Int×Unit)))) (mk:=λk(v:(List (Int×Unit)×Int×Int×Unit)×List (Int×Unit))=>(((),k,()),v.1,v.2,())) (λy=>y.1.2.1) (λ_ _=>rfl) N aaV (λm v=>0<=v.1.2.1/\v.2.length<=m) ⟨hp,auH _⟩ (λI μ m v hm hJ next=>?_) λI μ v hJ=>?_
   .obtain⟨h1,h2⟩:=hJ;dsimp only;refine eX aaV ⟨h1,λr hr=>⟨qx asa,rfl,next (r.2.1,v.2++[(IntKind.u8.wrap r.1.1,())]) ⟨hr.1,aqc⟩⟩⟩
   .obtain⟨h1,h2⟩:=hJ;dsimp only;exact eG aaV ⟨h1,by rw[OJ];omega⟩
theorem an7:bM (Sp.usual,[],1,[],())=true:=by unfold bM;rw[show bT (BO (Sp.usual,[],1,[],()))=true by decide];exact(lV (d:=[])).2 ⟨abV,λ_=>0,λe he=>by cases he⟩
theorem RV:OK uY.e:=by refine XA.ok mixed (aB [Ci.e,rF.e] ⟨acN,CJ,trivial⟩) H0 (λ_ _=>⟨(([],()),()),auZ _⟩) aa1 (show∀code,uY.goal (Td code) (code,())from ?_);intro code hin hp;dsimp only[uY]at hp ⊢;exact⟨hp,λr hr=>⟨by rw[hr];decide,λx hx=>hx.2⟩⟩
theorem Ox:OK qY.e:=by refine XA.ok mixed (aB [Eb.e,kG.e,rF.e] ⟨ad7,qQ,CJ,trivial⟩) H0 (λ_ _=>⟨((0,(Sp.usual,[],1,[],()),()),()),aij an7⟩) aa1 (show∀code,qY.goal (OM code) (code,())from ?_);intro code hin hp;dsimp only[qY]at hp ⊢;exact⟨hp,λr hr=>⟨⟨by rw[hr];decide,abZ⟩,λx hx=>⟨hx.1,λy hy=>hy.2⟩⟩⟩
theorem apw:mW []:=⟨abV,λy hy=>by have hy:y∈[(([]:List UInt8),())]:=hy;rw[au0.1 hy];exact auZ _⟩
theorem Ov:OK qZ.e:=by
 refine XA.ok mixed (aB [o8.e,wo.e,bU.e,rF.e] ⟨BP,Lp,dA,CJ,trivial⟩) H0 (λ_ _=>⟨(([],()),()),apw⟩) aa1 (show∀code,qZ.goal (OO code) (code,())from ?_);intro code hin hp;dsimp only[qZ]at hp ⊢;refine⟨hp,λr hr=>⟨by rw[hr];decide,λx hx=>⟨hx.1,λy hy=>⟨hy.2,hy.1,λc hc=>?_⟩⟩⟩⟩;have hf:=afp (IntKind.i64.wrap (1+x.1.1)) y.1.1;generalize Sp.slot (IntKind.i64.wrap (1+x.1.1)) y.1.1=s at hf ⊢;have hl:=XL (Xf hf abV);refine af (λ_=>⟨hc.1,λk hk=>?_⟩) λ_=>af (λ_=>⟨bn (by show _+1<=_;omega),Xf (apx hf rfl) abV⟩) λ_=>Xf hf abV;have hk0:0<=k.1.1/\k.1.1<=(s.length:Int):=by
  obtain⟨_,k1,k2,k3⟩:=hk;rcases av9 s.length with h0|h0
  .have:=k3 aaV;omega
  .have:=k2 aaV;omega
 exact⟨hk0,Xf (aik hf _) abV⟩
end Go.Proofs.Tryz
namespace Go.Proofs.Tryz
open Go Go.Fw Go.RowKit Sp
set_option maxRecDepth 100000
theorem lW{h:Array Obj}{S:Nat->Prop}{e:TypeId}{r:au}{v:Value}{l:List r.den}(H:bY h S (.sl e r) v l):∃a c,v=.slice a l.length c:=by
 rcases H.2 with⟨rfl,a,c,e⟩|⟨b,off,cap,cs,t,fz,e,_⟩
 .exact⟨a,c,e⟩
 .exact⟨_,_,e⟩
theorem Gs(c:UInt8)(hc32:c=32\/c=10)(s:List UInt8)(hs:s.length<=1048576)(w:World)(hG:G.ok w):Calls prog 86 #[.string ⟨s.toArray⟩,.string ⟨#[c]⟩] w λe w'=>
 ∃v,e=.returned v/\FW w'.heap.size w' v (Sp.pieces c s)/\Below w.heap.size w w':=by
 have hc:fD prog G 86 (ig zK C9 MP):=KW;refine(hc [.sv (.one (.str s)),.sv (.one (.str [c]))] (s.length<=4294960000/\(([c]:List UInt8)=[32]\/([c]:List UInt8)=[10])) _ 0 (λ_=>True) #[.string ⟨s.toArray⟩,.string ⟨#[c]⟩] w rfl ⟨aaV,hc32.imp (λe=>ar2) λe=>ar2⟩ hG ⟨⟨rfl,acz⟩,⟨rfl,by rw[maxLen_eq];show 1<=_;decide⟩,trivial⟩).mono ?_;rintro e w' ⟨v,vals,rfl,h1,h2,h3,h4,h5,h6,_,_⟩;have ha:bY w'.heap _ (.sl aT dJ) v (Sp.pieces c s):=h6;refine⟨v,rfl,⟨ha.1,?_⟩,h1,h2,h3,h4,h5⟩;rcases ha.2 with h|⟨b,off,cap,cs,t,fz,e1,e2,e3,e4,e5⟩
 .exact .inl h
 .exact .inr ⟨b,off,cap,cs,t,fz,e1,e2,e3.1.1,e4,λi x hx=>aH.flat (S:=_) _ _ _ rfl (e5 i x hx)⟩
theorem apy(s:List UInt8)(hs:s.length<=1048576)(w:World)(hG:G.ok w):Calls prog 87 #[.string ⟨s.toArray⟩] w λe w'=>
 e=.returned (.tuple #[.int .i64 (Sp.parseNum s),.bool (aW s)])/\Below w.heap.size w w':=by
 have hc:fD prog G 87 (ig xY BB Kt):=yt;refine(hc [.sv (.one (.str s))] True _ 0 (λ_=>True) #[.string ⟨s.toArray⟩] w rfl trivial hG ⟨⟨rfl,acz⟩,trivial⟩).mono ?_;rintro e w' ⟨v,vals,rfl,h1,h2,h3,h4,h5,h6,_,_⟩;obtain⟨vs,rfl,h7⟩:=h6;obtain⟨l⟩:=vs
 match l,h7 with
 |[x,y],h7=>obtain⟨hx,hy,_⟩:=h7;have hx:x=.int .i64 (Sp.parseNum s):=hx.1;have hy:y=.bool (aW s):=hy;rw[hx,hy];exact⟨rfl,h1,h2,h3,h4,h5⟩
theorem wX{w:World}{v:Value}{f:Sp.LS}(h:FW w.heap.size w v f):oh ⟨w,w.heap.size,λ_=>True,λ_=>undef,λ_=>none⟩ (.sv (.one (.sl aT dJ f false))) v:=
 bY.mono (S':=V.bW ⟨w,w.heap.size,λ_=>True,λ_=>undef,λ_=>none⟩ false) (h':=w.heap) (λb hb=>⟨⟨⟨hb,λ_=>trivial,λo x hx=>aeZ⟩,λe=>ahb⟩,rfl⟩) _ _ _ h
theorem apz(v:Value)(f:Sp.LS)(w:World)(hv:FW w.heap.size w v f)(hf:f.length<=1000)(hx:∀x∈f,x.1.length<=1048576)(hG:G.ok w):Calls prog 106 #[v] w λe w'=>
 ∃a c,e=.returned (.tuple #[.agg #[.int .i64 (jw f).1.1,.int .i64 (jw f).1.2.1,.bool (jw f).1.2.2.1,.int .i64 (jw f).1.2.2.2.1,.slice a (jw f).1.2.2.2.2.1.length c],.bool (jw f).2])/\Below w.heap.size w w'/\
  bY w'.heap (λb=>w.heap.size<=b/\b<w'.heap.size) (.sl fG fF) (.slice a (jw f).1.2.2.2.2.1.length c) (jw f).1.2.2.2.2.1/\sV (jw f).1.1/\sV (jw f).1.2.1/\sV (jw f).1.2.2.2.1:=by
 have hcon:fD prog G 106 (ig vP.sh vP.bH vP.F):=aem.1;refine(hcon [.sv (.one (.sl aT dJ f false))] (f.length<=1000/\(∀x∈f,x.1.length<=1048576)) _ 0 (λ_=>True) #[v] w rfl ⟨hf,hx⟩ hG ⟨wX hv,trivial⟩).mono ?_;rintro e w' ⟨v,vals,rfl,h1,h2,h3,h4,h5,h6,_,_⟩;obtain⟨vs,rfl,h7⟩:=h6;obtain⟨l⟩:=vs
 match l,h7 with
 |[x,y],h7=>
  obtain⟨⟨us,rfl,h8⟩,hy,_⟩:=h7;have hy:y=.bool (jw f).2:=hy;obtain⟨ul⟩:=us
  match ul,h8 with
  |[a1,a2,a3,a4,a5],h8=>obtain⟨b1,b2,b3,b4,b5,_⟩:=h8;have b3:a3=.bool (jw f).1.2.2.1:=b3;have b5:bY w'.heap _ (.sl fG fF) a5 (jw f).1.2.2.2.2.1:=b5;obtain⟨a,c,e5⟩:=lW b5;rw[e5]at b5;rw[hy,b1.1,b2.1,b3,b4.1,e5];exact⟨a,c,rfl,⟨h1,h2,h3,h4,h5⟩,bY.mono (λb hb=>⟨⟨hb.2 rfl,hb.1.1⟩,rfl⟩) _ _ _ b5,b1.2,b2.2,b4.2⟩
theorem apA(v:Value)(f:Sp.LS)(w:World)(hv:FW w.heap.size w v f)(hf:f.length<=1000)(hj:(gm f).length<=1048576)(hG:G.ok w):Calls prog 74 #[v,.string ⟨#[32]⟩] w λe w'=>
 e=.returned (.string ⟨(gm f).toArray⟩)/\Below w.heap.size w w':=by
 have hcon:fD prog G 74 (ig Bj Ep O3):=FV;refine(hcon [.sv (.one (.sl aT dJ f false)),.sv (.one (.str [32]))] (f.length<=140737488355328/\(Lib.join (f.map (·.1)) [32]).length<=140737488355328) _ 0 (λ_=>True) #[v,.string ⟨#[32]⟩] w rfl ⟨aaV,by have:(Lib.join (f.map (·.1)) [32]).length<=1048576:=hj;omega⟩ hG ⟨wX hv,⟨rfl,by rw[maxLen_eq];decide⟩,trivial⟩).mono ?_;rintro e w' ⟨v,vals,rfl,h1,h2,h3,h4,h5,h6,_,_⟩;have h6:v=.string ⟨(gm f).toArray⟩/\_:=h6;rw[h6.1];exact⟨rfl,h1,h2,h3,h4,h5⟩
theorem apB(s:List UInt8)(hs:s.length<=1048576)(w:World)(hG:G.ok w):Calls prog 107 #[.string ⟨s.toArray⟩] w λe w'=>
 ∃a c,e=.returned (.tuple #[.slice a (fJ s).length c,.bool (gq s)])/\Below w.heap.size w w'/\bY w'.heap (λb=>w.heap.size<=b/\b<w'.heap.size) (.sl aJ bD) (.slice a (fJ s).length c) (fJ s):=by
 have hcon:fD prog G 107 (ig wJ AY Jl):=WZ;refine(hcon [.sv (.one (.str s))] (s.length<=1048576) _ 0 (λ_=>True) #[.string ⟨s.toArray⟩] w rfl hs hG ⟨⟨rfl,acz⟩,trivial⟩).mono ?_;rintro e w' ⟨v,vals,rfl,h1,h2,h3,h4,h5,h6,_,_⟩;obtain⟨vs,rfl,h7⟩:=h6;obtain⟨l⟩:=vs
 match l,h7 with
 |[x,y],h7=>obtain⟨hx,hy,_⟩:=h7;have hx:bY w'.heap _ (.sl aJ bD) x (fJ s):=hx;have hy:y=.bool (gq s):=hy;obtain⟨a,c,ex⟩:=lW hx;rw[ex]at hx;rw[hy,ex];exact⟨a,c,rfl,⟨h1,h2,h3,h4,h5⟩,bY.mono (λb hb=>⟨⟨hb.2 rfl,hb.1.1⟩,rfl⟩) _ _ _ hx⟩
end Go.Proofs.Tryz
namespace Go.Proofs.Tryz
open Go Go.Fw Go.RowKit Sp
set_option maxRecDepth 100000
def OL(w:World)(B:Nat)(F:Nat->Prop)(e:TypeId)(r:au)(v:Value)(l:List r.den):Prop:=
 ∃xs,w.ownsRow B e r.len v l.length xs/\∀i x,l[i]? =some x->aH w.heap F r ((xs.drop (i*r.len)).take r.len) x
structure Sn(B:Nat)(w:World)(va vl vd:Value)(x:aV)(F:Nat->Prop):Prop where
 fa:OL w B F 54 dh va x.1
 fl:OL w B F 51 dV vl x.2.1
 fd:OL w B F 93 dK vd x.2.2.2.1
 nx:sV x.2.2.1
 ne:∀g,(va.ownBlock=some g->vl.ownBlock≠some g/\vd.ownBlock≠some g)/\(vl.ownBlock=some g->vd.ownBlock≠some g)
 foot:∀b,F b->B<=b/\b<w.heap.size/\va.ownBlock≠some b/\vl.ownBlock≠some b/\vd.ownBlock≠some b
theorem OL.keep{w w':World}{B:Nat}{F:Nat->Prop}{e:TypeId}{r:au}{v:Value}{l:List r.den}(h:OL w B F e r v l)(hk:∀b,v.ownBlock=some b->w'.heap[b]? =w.heap[b]?)(hF:∀b,F b->w'.heap[b]? =w.heap[b]?):OL w' B F e r v l:=by obtain⟨xs,h1,h2⟩:=h;exact⟨xs,uJ h1 hk,λi x hx=>aH.mono (λb hb=>⟨hb,hF b hb⟩) _ _ _ (h2 i x hx)⟩
theorem OL.mono{w:World}{B:Nat}{F F':Nat->Prop}{e:TypeId}{r:au}{v:Value}{l:List r.den}(h:OL w B F e r v l)(hF:∀b,F b->F' b):OL w B F' e r v l:=by obtain⟨xs,h1,h2⟩:=h;exact⟨xs,h1,λi x hx=>aH.mono (λb hb=>⟨hF b hb,rfl⟩) _ _ _ (h2 i x hx)⟩
theorem OL.lt{w:World}{B:Nat}{F:Nat->Prop}{e:TypeId}{r:au}{v:Value}{l:List r.den}(h:OL w B F e r v l){g:Nat}(hg:v.ownBlock=some g):B<=g/\g<w.heap.size:=by obtain⟨xs,h1,_⟩:=h;exact h1.lt g hg
theorem OL.form{w:World}{B:Nat}{F:Nat->Prop}{e:TypeId}{r:au}{v:Value}{l:List r.den}(h:OL w B F e r v l):∃a c,v=.slice a l.length c:=by
 obtain⟨xs,h1,_⟩:=h;rcases h1.2 with⟨e1,e2⟩|⟨g,cap,cur,e1,_⟩
 .exact⟨none,0,by rw[e1,e2]⟩
 .exact⟨_,_,e1⟩
theorem OL.nil{w:World}{B:Nat}{F:Nat->Prop}{e:TypeId}{r:au}:OL w B F e r (.slice none 0 0) []:=⟨[],awJ _ _ _ _,λi x hx=>by simp at hx⟩
theorem OL.rep{w:World}{B:Nat}{F S:Nat->Prop}{e:TypeId}{r:au}{v:Value}{l:List r.den}(h:OL w B F e r v l)(hr:0<r.len)(hS:∀b,F b\/v.ownBlock=some b->S b):bY w.heap S (.sl e r) v l:=by
 obtain⟨xs,h1,h2⟩:=h;rcases h1.2 with⟨e1,e2⟩|⟨g,cap,cur,e1,e2,e3,e4,e5,e6,e7⟩
 .exact⟨by rw[e2];exact auZ _,.inl ⟨avv.1 e2,none,0,e1⟩⟩
 .refine⟨auK e4 e5,.inr ⟨g,0,cap,cur,e,(0,0),e1,e4,hS g (.inr (by rw[e1];rfl)),e3,λi x hx=>?_⟩⟩;have hi:=(auT.1 hx).1;have:=h2 i x hx;have hmul:(i+1)*r.len<=l.length*r.len:=au1 _ hi;rw[avj,axn]at hmul;rw[← e7,axF,axi,aw9 aaV]at this;rw[au8];exact aH.mono (λb hb=>⟨hS b (.inl hb),rfl⟩) _ _ _ this
theorem an8{xs ys:List Value}{n z j:Nat}(h:xs.length=n*z)(hj:j<n):((xs++ys).drop (j*z)).take z=(xs.drop (j*z)).take z:=by have:(j+1)*z<=n*z:=au1 _ hj;rw[avj,axn]at this;rw[avW aaV,awv amr]
theorem OL.push{w w':World}{B:Nat}{F F':Nat->Prop}{e:TypeId}{r:au}{v':Value}{l:List r.den}{x:r.den}{xs ys:List Value}(h2:∀i x,l[i]? =some x->aH w.heap F r ((xs.drop (i*r.len)).take r.len) x)(hl:xs.length=l.length*r.len)
 (ho:w'.ownsRow B e r.len v' (l.length+1) (xs++ys)) (hk:∀b,F b->F' b/\w'.heap[b]? =w.heap[b]?) (hx:aH w'.heap F' r ys x):OL w' B F' e r v' (l++[x]):=by
 refine⟨xs++ys,by rw[auB];exact ho,λi y hi=>?_⟩;rcases au2 i l.length with hi'|hi'
 .rw[avn hi']at hi;rw[an8 hl hi'];exact aH.mono hk _ _ _ (h2 i y hi)
 .rw[avc hi']at hi;have e0:i=l.length:=by have:=(auT.1 hi).1;simp at this;omega
  subst e0;rw[awX]at hi;cases hi;have hy:=aH.length _ _ _ hx;rw[← hl,axG,← hy,avQ];exact hx
theorem Sn.below{B:Nat}{w w':World}{va vl vd:Value}{x:aV}{F:Nat->Prop}(h:Sn B w va vl vd x F)(k:Below w.heap.size w w'):Sn B w' va vl vd x F:=by have hf:∀b,F b->w'.heap[b]? =w.heap[b]? :=λb hb=>k.block b (h.foot b hb).2.1;exact⟨h.fa.keep (λb hb=>k.block b (h.fa.lt hb).2) hf,h.fl.keep (λb hb=>k.block b (h.fl.lt hb).2) hf,h.fd.keep (λb hb=>k.block b (h.fd.lt hb).2) hf,h.nx,h.ne,λb hb=>⟨(h.foot b hb).1,au6 (h.foot b hb).2.1 k.size,(h.foot b hb).2.2⟩⟩
theorem Sn.keep{B:Nat}{w w':World}{va vl vd:Value}{x:aV}{F:Nat->Prop}(h:Sn B w va vl vd x F)(hs:w.heap.size<=w'.heap.size)(k:∀b,B<=b->b<w.heap.size->w'.heap[b]? =w.heap[b]?):Sn B w' va vl vd x F:=by have hf:∀b,F b->w'.heap[b]? =w.heap[b]? :=λb hb=>k b (h.foot b hb).1 (h.foot b hb).2.1;exact⟨h.fa.keep (λb hb=>k b (h.fa.lt hb).1 (h.fa.lt hb).2) hf,h.fl.keep (λb hb=>k b (h.fl.lt hb).1 (h.fl.lt hb).2) hf,h.fd.keep (λb hb=>k b (h.fd.lt hb).1 (h.fd.lt hb).2) hf,h.nx,h.ne,λb hb=>⟨(h.foot b hb).1,au6 (h.foot b hb).2.1 hs,(h.foot b hb).2.2⟩⟩
theorem Sn.agx{B:Nat}{w w0 w5:World}{va vl vd:Value}{x:aV}{F N:Nat->Prop}(h:Sn B w va vl vd x F)(hB:B<=w.heap.size)(hb:Below w.heap.size w w0){y:dP}{xs ys:List Value}(hown:w.ownsRow B 54 2 va x.1.length xs)
 (hrep:∀i z,x.1[i]? =some z->aH w.heap F dh ((xs.drop (i*2)).take 2) z) {g cap:Nat} (h5:w5.ownsRow B 54 2 (.slice (some ⟨g,0,none⟩) (x.1.length+1) cap) (x.1.length+1) (xs++ys)) (hg:w0.grownBy w5 va.ownBlock) (hat:va.ownBlock=some g\/g=w0.heap.size) (hlt:g<w5.heap.size)
 (hN:∀b,N b->w.heap.size<=b/\b<w0.heap.size) (hx:aH w0.heap N dh ys y):Sn B w5 (.slice (some ⟨g,0,none⟩) (x.1.length+1) cap) vl vd (x.1++[y],x.2.1,x.2.2.1,x.2.2.2.1,()) (λb=>F b\/N b):=by
 have hs0:=hb.size;have hs5:=hg.size;have same:∀b,b<w.heap.size->va.ownBlock≠some b->w5.heap[b]? =w.heap[b]? :=λb hlb hnb=>(hg.block b (au6 hlb hs0) (λe=>hnb e.symm)).trans (hb.block b hlb);have hF:∀b,F b->w5.heap[b]? =w.heap[b]? :=λb hb2=>same b (h.foot b hb2).2.1 (h.foot b hb2).2.2.1;have own:∀b,va.ownBlock=some b->b<w.heap.size:=λb e=>(h.fa.lt e).2;have o1:∀b,vl.ownBlock=some b->b<w.heap.size/\va.ownBlock≠some b/\g≠b:=λb e=>by
  have hl:=(h.fl.lt e).2;have hn:va.ownBlock≠some b:=λe2=>((h.ne b).1 e2).1 e;refine⟨hl,hn,λe2=>?_⟩;subst e2;rcases hat with e3|e3
  .exact hn e3
  .omega
 have o2:∀b,vd.ownBlock=some b->b<w.heap.size/\va.ownBlock≠some b/\g≠b:=λb e=>by
  have hl:=(h.fd.lt e).2;have hn:va.ownBlock≠some b:=λe2=>((h.ne b).1 e2).2 e;refine⟨hl,hn,λe2=>?_⟩;subst e2;rcases hat with e3|e3
  .exact hn e3
  .omega
 refine⟨OL.push (r:=dh) hrep hown.1 h5 (λb hb2=>⟨.inl hb2,hF b hb2⟩) (aH.mono (λb hb2=>⟨.inr hb2,hg.block b (hN b hb2).2 λe=>ao1⟩) _ _ _ hx),(h.fl.keep (λb e=>same b (o1 b e).1 (o1 b e).2.1) hF).mono λb hb2=>.inl hb2,(h.fd.keep (λb e=>same b (o2 b e).1 (o2 b e).2.1) hF).mono λb hb2=>.inl hb2,h.nx,λb=>⟨λe=>?_,λe=>?_⟩,λb hb2=>?_⟩
 .obtain rfl:g=b:=Option.some.inj e;exact⟨λe2=>(o1 g e2).2.2 rfl,λe2=>(o2 g e2).2.2 rfl⟩
 .exact(h.ne b).2 e
 rcases hb2 with hb2|hb2
 .obtain⟨f1,f2,f3,f4,f5⟩:=h.foot b hb2;exact⟨f1,aaV,λe=>by
   obtain rfl:g=b:=Option.some.inj e;rcases hat with e3|e3
   .exact f3 e3
   .omega,
   f4,
   f5⟩
 .obtain⟨f1,f2⟩:=hN b hb2;exact⟨aaV,aaV,λe=>by
   obtain rfl:g=b:=Option.some.inj e;rcases hat with e3|e3
   .have:=own g e3;omega
   .omega,
   λe=>by have:=(o1 b e).1;omega,
   λe=>by have:=(o2 b e).1;omega⟩
theorem Sn.aoP{B:Nat}{w w0 w5:World}{va vl vd:Value}{x:aV}{F N:Nat->Prop}(h:Sn B w va vl vd x F)(hB:B<=w.heap.size)(hb:Below w.heap.size w w0){y:aQ}{xs ys:List Value}(hown:w.ownsRow B 51 5 vl x.2.1.length xs)
 (hrep:∀i z,x.2.1[i]? =some z->aH w.heap F dV ((xs.drop (i*5)).take 5) z) {g cap:Nat} (h5:w5.ownsRow B 51 5 (.slice (some ⟨g,0,none⟩) (x.2.1.length+1) cap) (x.2.1.length+1) (xs++ys)) (hg:w0.grownBy w5 vl.ownBlock) (hat:vl.ownBlock=some g\/g=w0.heap.size) (hlt:g<w5.heap.size)
 (hN:∀b,N b->w.heap.size<=b/\b<w0.heap.size) (hx:aH w0.heap N dV ys y):Sn B w5 va (.slice (some ⟨g,0,none⟩) (x.2.1.length+1) cap) vd (x.1,x.2.1++[y],x.2.2.1,x.2.2.2.1,()) (λb=>F b\/N b):=by
 have hs0:=hb.size;have hs5:=hg.size;have same:∀b,b<w.heap.size->vl.ownBlock≠some b->w5.heap[b]? =w.heap[b]? :=λb hlb hnb=>(hg.block b (au6 hlb hs0) (λe=>hnb e.symm)).trans (hb.block b hlb);have hF:∀b,F b->w5.heap[b]? =w.heap[b]? :=λb hb2=>same b (h.foot b hb2).2.1 (h.foot b hb2).2.2.2.1;have own:∀b,vl.ownBlock=some b->b<w.heap.size:=λb e=>(h.fl.lt e).2;have o1:∀b,va.ownBlock=some b->b<w.heap.size/\vl.ownBlock≠some b/\g≠b:=λb e=>by
  have hl:=(h.fa.lt e).2;have hn:vl.ownBlock≠some b:=λe2=>((h.ne b).1 e).1 e2;refine⟨hl,hn,λe2=>?_⟩;subst e2;rcases hat with e3|e3
  .exact hn e3
  .omega
 have o2:∀b,vd.ownBlock=some b->b<w.heap.size/\vl.ownBlock≠some b/\g≠b:=λb e=>by
  have hl:=(h.fd.lt e).2;have hn:vl.ownBlock≠some b:=λe2=>(h.ne b).2 e2 e;refine⟨hl,hn,λe2=>?_⟩;subst e2;rcases hat with e3|e3
  .exact hn e3
  .omega
 refine⟨(h.fa.keep (λb e=>same b (o1 b e).1 (o1 b e).2.1) hF).mono λb hb2=>.inl hb2,OL.push (r:=dV) hrep hown.1 h5 (λb hb2=>⟨.inl hb2,hF b hb2⟩) (aH.mono (λb hb2=>⟨.inr hb2,hg.block b (hN b hb2).2 λe=>ao1⟩) _ _ _ hx),(h.fd.keep (λb e=>same b (o2 b e).1 (o2 b e).2.1) hF).mono λb hb2=>.inl hb2,h.nx,λb=>⟨λe=>?_,λe=>?_⟩,λb hb2=>?_⟩
 .exact⟨λe2=>(o1 b e).2.2 (Option.some.inj e2),((h.ne b).1 e).2⟩
 .obtain rfl:g=b:=Option.some.inj e;exactλe2=>(o2 g e2).2.2 rfl
 rcases hb2 with hb2|hb2
 .obtain⟨f1,f2,f3,f4,f5⟩:=h.foot b hb2;exact⟨f1,aaV,f3,
   λe=>by
   obtain rfl:g=b:=Option.some.inj e;rcases hat with e3|e3
   .exact f4 e3
   .omega,
   f5⟩
 .obtain⟨f1,f2⟩:=hN b hb2;exact⟨aaV,aaV,λe=>by have:=(o1 b e).1;omega,
   λe=>by
   obtain rfl:g=b:=Option.some.inj e;rcases hat with e3|e3
   .have:=own g e3;omega
   .omega,
   λe=>by have:=(o2 b e).1;omega⟩
theorem Sn.ala{B:Nat}{w w0 w5:World}{va vl vd:Value}{x:aV}{F N:Nat->Prop}(h:Sn B w va vl vd x F)(hB:B<=w.heap.size)(hb:Below w.heap.size w w0){y:bf}{xs ys:List Value}(hown:w.ownsRow B 93 2 vd x.2.2.2.1.length xs)
 (hrep:∀i z,x.2.2.2.1[i]? =some z->aH w.heap F dK ((xs.drop (i*2)).take 2) z) {g cap:Nat} (h5:w5.ownsRow B 93 2 (.slice (some ⟨g,0,none⟩) (x.2.2.2.1.length+1) cap) (x.2.2.2.1.length+1) (xs++ys)) (hg:w0.grownBy w5 vd.ownBlock) (hat:vd.ownBlock=some g\/g=w0.heap.size) (hlt:g<w5.heap.size)
 (hN:∀b,N b->w.heap.size<=b/\b<w0.heap.size) (hx:aH w0.heap N dK ys y):Sn B w5 va vl (.slice (some ⟨g,0,none⟩) (x.2.2.2.1.length+1) cap) (x.1,x.2.1,x.2.2.1,x.2.2.2.1++[y],()) (λb=>F b\/N b):=by
 have hs0:=hb.size;have hs5:=hg.size;have same:∀b,b<w.heap.size->vd.ownBlock≠some b->w5.heap[b]? =w.heap[b]? :=λb hlb hnb=>(hg.block b (au6 hlb hs0) (λe=>hnb e.symm)).trans (hb.block b hlb);have hF:∀b,F b->w5.heap[b]? =w.heap[b]? :=λb hb2=>same b (h.foot b hb2).2.1 (h.foot b hb2).2.2.2.2;have own:∀b,vd.ownBlock=some b->b<w.heap.size:=λb e=>(h.fd.lt e).2;have o1:∀b,va.ownBlock=some b->b<w.heap.size/\vd.ownBlock≠some b/\g≠b:=λb e=>by
  have hl:=(h.fa.lt e).2;have hn:vd.ownBlock≠some b:=λe2=>((h.ne b).1 e).2 e2;refine⟨hl,hn,λe2=>?_⟩;subst e2;rcases hat with e3|e3
  .exact hn e3
  .omega
 have o2:∀b,vl.ownBlock=some b->b<w.heap.size/\vd.ownBlock≠some b/\g≠b:=λb e=>by
  have hl:=(h.fl.lt e).2;have hn:vd.ownBlock≠some b:=λe2=>(h.ne b).2 e e2;refine⟨hl,hn,λe2=>?_⟩;subst e2;rcases hat with e3|e3
  .exact hn e3
  .omega
 refine⟨(h.fa.keep (λb e=>same b (o1 b e).1 (o1 b e).2.1) hF).mono λb hb2=>.inl hb2,(h.fl.keep (λb e=>same b (o2 b e).1 (o2 b e).2.1) hF).mono λb hb2=>.inl hb2,OL.push (r:=dK) hrep hown.1 h5 (λb hb2=>⟨.inl hb2,hF b hb2⟩) (aH.mono (λb hb2=>⟨.inr hb2,hg.block b (hN b hb2).2 λe=>ao1⟩) _ _ _ hx),h.nx,λb=>⟨λe=>?_,λe=>?_⟩,λb hb2=>?_⟩
 .exact⟨((h.ne b).1 e).1,λe2=>(o1 b e).2.2 (Option.some.inj e2)⟩
 .exactλe2=>(o2 b e).2.2 (Option.some.inj e2)
 rcases hb2 with hb2|hb2
 .obtain⟨f1,f2,f3,f4,f5⟩:=h.foot b hb2;exact⟨f1,aaV,f3,
   f4,
   λe=>by
   obtain rfl:g=b:=Option.some.inj e;rcases hat with e3|e3
   .exact f5 e3
   .omega⟩
 .obtain⟨f1,f2⟩:=hN b hb2;exact⟨aaV,aaV,λe=>by have:=(o1 b e).1;omega,
   λe=>by have:=(o2 b e).1;omega,
   λe=>by
   obtain rfl:g=b:=Option.some.inj e;rcases hat with e3|e3
   .have:=own g e3;omega
   .omega⟩
end Go.Proofs.Tryz
namespace Go.Proofs.Tryz
open Go Go.Fw Go.RowKit Sp
set_option maxRecDepth 100000
theorem FW.cell{B:Nat}{w:World}{a:Option Addr}{c:Nat}{f:Sp.LS}(h:FW B w (.slice a f.length c) f){n:Nat}(hn:n<f.length):∃b off,a=some ⟨b,off,none⟩/\b<B/\w.cell? ⟨b,off+n,none⟩=some (.string ⟨(f.getD n ([],())).1.toArray⟩):=by
 rcases h.2 with⟨rfl,_⟩|⟨b,off,cap,cs,t,fz,e,e2,e3,e4,e5⟩
 .exact absurd hn (avE _)
 .injection e with ea;refine⟨b,off,ea,e3,?_⟩;have hx:f[n]? =some (f.getD n ([],())):=by rw[auF,auJ hn];rfl
  generalize f.getD n ([],())=x at hx ⊢;obtain⟨u,us,e6,⟨e7,_⟩,_⟩:=e5 n x hx;rw[aN e4,← e7];have h0:=congrArg (λl=>l[0]?) e6;have h0:((cs.toList.drop (off+n*1)).take 1)[0]? =some u:=h0;simpa[avf,avg]using h0
def Ws:Value:=.agg #[.string ⟨#[]⟩,.int .i64 0]
def ahU:Value:=.agg #[.int .i64 0,.int .i64 0,.bool false,.int .i64 0,.slice none 0 0]
def ab1:Value:=.agg #[.string ⟨#[]⟩,.slice none 0 0]
theorem ahR:(prog.info? 54).map (λi=>(i.zero,i.size,i.bytes))=some (some Ws,2,24):=aa1
theorem amG:(prog.info? 51).map (λi=>(i.zero,i.size,i.bytes))=some (some ahU,5,56):=aa1
theorem ahV:(prog.info? 93).map (λi=>(i.zero,i.size,i.bytes))=some (some ab1,2,40):=aa1
structure Kp(B P:Nat)(W w:World):Prop where
 os:w.os=W.os
 tape:w.tape=W.tape
 output:w.output=W.output
 size:W.heap.size<=w.heap.size
 block:∀b,b<B->b≠P->w.heap[b]? =W.heap[b]?
theorem Kp.below{B P:Nat}{W w w':World}(hB:B<=W.heap.size)(h:Kp B P W w)(k:Below w.heap.size w w'):Kp B P W w':=
 ⟨k.os.trans h.os,k.tape.trans h.tape,k.output.trans h.output,auK h.size k.size,λb hb hn=>(k.block b (by have:=h.size;omega)).trans (h.block b hb hn)⟩
theorem Kp.set{B P:Nat}{W w:World}(h:Kp B P W w){k:Nat}{v:Value}:Kp B P W (w.setCell ⟨P,k,none⟩ v):=
 ⟨h.os,h.tape,h.output,by simpa[World.setCell]using h.size,λb hb hn=>(mX v hn).trans (h.block b hb hn)⟩
theorem Kp.grown{B P:Nat}{W w w':World}(hB:B<=W.heap.size)(h:Kp B P W w){o:Option Nat}(k:w.grownBy w' o)(ho:∀b,o=some b->B<=b):Kp B P W w':=
 ⟨k.os.trans h.os,k.tape.trans h.tape,k.output.trans h.output,auK h.size k.size,λb hb hn=>(k.block b (by have:=h.size;omega) λe=>by have:=ho b e.symm;omega).trans (h.block b hb hn)⟩
def Held(B P:Nat)(w:World)(x:aV):Prop:=∃va vl vd F,w.heap[P]? =some (.cells #[va,vl,.int .i64 x.2.2.1,vd] 33 (0,0))/\Sn B w va vl vd x F
theorem four{w:World}{g:Nat}{x0 x1 x2 x3:Value}{t:TypeId}(h:w.heap[g]? =some (.cells #[x0,x1,x2,x3] t (0,0))):
 (w.cell? ⟨g,0,none⟩=some x0/\w.cell? ⟨g,1,none⟩=some x1/\w.cell? ⟨g,2,none⟩=some x2/\w.cell? ⟨g,3,none⟩=some x3)/\w.frozen? ⟨g,0,none⟩=false/\w.frozen? ⟨g,1,none⟩=false/\w.frozen? ⟨g,2,none⟩=false/\w.frozen? ⟨g,3,none⟩=false:=
 ⟨⟨aN h 0,aN h 1,aN h 2,aN h 3⟩,dH h 0,dH h 1,dH h 2,dH h 3⟩
theorem Held.below{B P:Nat}{w w':World}{x:aV}(h:Held B P w x)(k:Below w.heap.size w w'):Held B P w' x:=by obtain⟨va,vl,vd,F,h1,h2⟩:=h;exact⟨va,vl,vd,F,(k.block P (auL.1 h1).1).trans h1,h2.below k⟩
theorem Kp.of{B P:Nat}{W w:World}(hB:B<=W.heap.size)(k:Below W.heap.size W w):Kp B P W w:=⟨k.os,k.tape,k.output,k.size,λb hb _=>k.block b aaV⟩
set_option maxHeartbeats 16000000 in
theorem apC(B P:Nat)(W:World)(x:aV)(x0:List UInt8)(r:Sp.LS)(line:List UInt8)(hl:line.length<=1000)(hf:Sp.pieces 32 line=(x0,())::r)(hG:G.ok W)(hS:Held B P W x)(hB:B<=W.heap.size)
 (h1:¬x0=[102,105,101,108,100]\/((r.length:Int)+1==3)=false) (h2:¬x0=[110,101,120,116]\/((r.length:Int)+1==2)=false) (h3:¬x0=[102,105,108,101]) (h4:¬x0=[100,105,114]\/¬(2:Int)<(r.length:Int)+1):
 Calls prog 60 #[.pointer (some ⟨P,0,none⟩),.string ⟨line.toArray⟩] W λe w'=>e=.returned (.bool false)/\Held B P w' x/\Kp B P W w':=by
 have mixed:=Tryz.mixed;have sp:=Gs 32 (.inl rfl) line aaV W hG;rw[hf]at sp;clear hf;by_cases k1:x0=[102,105,101,108,100]
 .subst k1;have hn:((r.length:Int)+1==3)=false:=h1.elim (λh=>absurd rfl h) id;clear h1 h2 h3 h4
  go_enter Tryz.func60,Tryz.ntmps60
  go_wp2_with (first
   |(go_at_call 86;refine avd sp ?_;rintro e w1 ⟨v1,rfl,hf1,hb1⟩;obtain⟨a1,c1,e1⟩:=lW hf1;have e1:v1=.slice a1 (r.length+1) c1:=e1;subst e1;obtain⟨b2,o2,e2,-,cw⟩:=FW.cell (a:=a1) (c:=c1) (f:=([102,105,101,108,100],())::r) hf1 (n:=0) (av5 _);subst e2;have cw:w1.cell? ⟨b2,o2,none⟩=some (.string ⟨([102,105,101,108,100]:List UInt8).toArray⟩):=cw;clear sp))
  all_goals go_ret
  all_goals exact⟨rfl,hS.below hb1,Kp.of hB hb1⟩
 by_cases k2:x0=[110,101,120,116]
 .subst k2;have hn:((r.length:Int)+1==2)=false:=h2.elim (λh=>absurd rfl h) id;clear h1 h2 h3 h4
  go_enter Tryz.func60,Tryz.ntmps60
  go_wp2_with (first
   |(go_at_call 86;refine avd sp ?_;rintro e w1 ⟨v1,rfl,hf1,hb1⟩;obtain⟨a1,c1,e1⟩:=lW hf1;have e1:v1=.slice a1 (r.length+1) c1:=e1;subst e1;obtain⟨b2,o2,e2,-,cw⟩:=FW.cell (a:=a1) (c:=c1) (f:=([110,101,120,116],())::r) hf1 (n:=0) (av5 _);subst e2;have cw:w1.cell? ⟨b2,o2,none⟩=some (.string ⟨([110,101,120,116]:List UInt8).toArray⟩):=cw;clear sp))
  all_goals go_ret
  all_goals exact⟨rfl,hS.below hb1,Kp.of hB hb1⟩
 by_cases k4:x0=[100,105,114]
 .subst k4;have hn:¬(2:Int)<(r.length:Int)+1:=h4.elim (λh=>absurd rfl h) id;clear h1 h2 h3 h4
  go_enter Tryz.func60,Tryz.ntmps60
  go_wp2_with (first
   |(go_at_call 86;refine avd sp ?_;rintro e w1 ⟨v1,rfl,hf1,hb1⟩;obtain⟨a1,c1,e1⟩:=lW hf1;have e1:v1=.slice a1 (r.length+1) c1:=e1;subst e1;obtain⟨b2,o2,e2,-,cw⟩:=FW.cell (a:=a1) (c:=c1) (f:=([100,105,114],())::r) hf1 (n:=0) (av5 _);subst e2;have cw:w1.cell? ⟨b2,o2,none⟩=some (.string ⟨([100,105,114]:List UInt8).toArray⟩):=cw;clear sp))
  all_goals go_ret
  all_goals exact⟨rfl,hS.below hb1,Kp.of hB hb1⟩
 have g1:(x0==[102,105,101,108,100])=false:=auD.2 k1;have g2:(x0==[110,101,120,116])=false:=auD.2 k2;have g3:(x0==[102,105,108,101])=false:=auD.2 h3;have g4:(x0==[100,105,114])=false:=auD.2 k4;clear h1 h2 h4
 go_enter Tryz.func60,Tryz.ntmps60
 go_wp2_with (first
  |(go_at_call 86;refine avd sp ?_;rintro e w1 ⟨v1,rfl,hf1,hb1⟩;obtain⟨a1,c1,e1⟩:=lW hf1;have e1:v1=.slice a1 (r.length+1) c1:=e1;subst e1;obtain⟨b2,o2,e2,-,cw⟩:=FW.cell (a:=a1) (c:=c1) (f:=(x0,())::r) hf1 (n:=0) (av5 _);subst e2;have cw:w1.cell? ⟨b2,o2,none⟩=some (.string ⟨(x0:List UInt8).toArray⟩):=cw;clear sp))
 all_goals go_ret
 all_goals exact⟨rfl,hS.below hb1,Kp.of hB hb1⟩
theorem Sn.next{B:Nat}{w:World}{va vl vd:Value}{x:aV}{F:Nat->Prop}(h:Sn B w va vl vd x F){n:Int}(hn:sV n):Sn B w va vl vd (x.1,x.2.1,n,x.2.2.2.1,()) F:=⟨h.fa,h.fl,h.fd,hn,h.ne,h.foot⟩
theorem Sn.set{B P k:Nat}{w:World}{va vl vd v:Value}{x:aV}{F:Nat->Prop}(h:Sn B w va vl vd x F)(hP:P<B):Sn B (w.setCell ⟨P,k,none⟩ v) va vl vd x F:=
 h.keep aqr λb hb _=>mX v (by show b≠P;omega)
theorem Qe(s:List UInt8):sV (Sp.parseNum s):=by have:=gX.1 (Aj s);exact⟨aaV,aaV⟩
set_option maxHeartbeats 16000000 in
theorem amU(B P:Nat)(W:World)(x:aV)(y:List UInt8)(line:List UInt8)(hl:line.length<=1000)(hf:Sp.pieces 32 line=[(qg,()),(y,())])(hG:G.ok W)(hS:Held B P W x)(Qq:P<B)(hB:B<=W.heap.size):
 Calls prog 60 #[.pointer (some ⟨P,0,none⟩),.string ⟨line.toArray⟩] W λe w'=>e=.returned (.bool (aW y))/\Held B P w' (x.1,x.2.1,Sp.parseNum y,x.2.2.2.1,())/\Kp B P W w':=by
 have mixed:=Tryz.mixed;obtain⟨va,vl,vd,F,hP,wW⟩:=hS;have hPl:=(auL.1 hP).1;have sp:=Gs 32 (.inl rfl) line aaV W hG;have hy:y.length<=1000:=auK (BM (c:=32) (s:=line) (y,()) (by rw[hf];simp)) hl;rw[hf]at sp;clear hf;unfold qg at sp;have pu:=λw hG=>apy y aaV w hG;have hno:=Qe y;generalize Sp.parseNum y=n at pu hno ⊢;generalize aW y=ok at pu ⊢
 go_enter Tryz.func60,Tryz.ntmps60
 go_wp2_with (first
  |(go_at_call 86;refine avd sp ?_;rintro e w1 ⟨v1,rfl,hf1,hb1⟩;obtain⟨a1,c1,e1⟩:=lW hf1;have e1:v1=.slice a1 2 c1:=e1;subst e1;obtain⟨b2,o2,e2,-,cw⟩:=FW.cell (a:=a1) (c:=c1) (f:=[([110,101,120,116],()),(y,())]) hf1 (n:=0) abZ;subst e2;have cw:w1.cell? ⟨b2,o2,none⟩=some (.string ⟨([110,101,120,116]:List UInt8).toArray⟩):=cw;obtain⟨b3,o3,e3,-,Uj⟩:=FW.cell (a:=some ⟨b2,o2,none⟩) (c:=c1) (f:=[([110,101,120,116],()),(y,())]) hf1 (n:=1) abZ;cases e3;have Uj:w1.cell? ⟨b2,o2+1,none⟩=some (.string ⟨(y:List UInt8).toArray⟩):=Uj;clear sp)
  |(go_at_call 87;refine avd (pu w1 (dL hG hb1)) ?_;rintro e w2 ⟨rfl,hb2⟩;have vN:=hb1.trans (hb2.mono hb1.size);have hP2:=(vN.block P hPl).trans hP;obtain⟨⟨d0,d1,d2,d3⟩,z0,z1,z2,z3⟩:=four hP2))
 all_goals go_ret
 all_goals exact⟨rfl,⟨va,vl,vd,F,gJ hP2 2 _,(((wW.below vN).next hno).set Qq)⟩,(Kp.of hB vN).set⟩
set_option maxHeartbeats 16000000 in
theorem alj(B P:Nat)(W:World)(x:aV)(y k3:List UInt8)(line:List UInt8)(hl:line.length<=1000)(hf:Sp.pieces 32 line=[(gZ,()),(y,()),(k3,())])(hG:G.ok W)(hS:Held B P W x)(Qq:P<B)(hB:B<=W.heap.size)(hz:x.1.length<=200):
 Calls prog 60 #[.pointer (some ⟨P,0,none⟩),.string ⟨line.toArray⟩] W λe w'=>e=.returned (.bool true)/\Held B P w' (x.1++[(y,(bif k3==rM then 2 else 1),())],x.2.1,x.2.2.1,x.2.2.2.1,())/\Kp B P W w':=by
 have mixed:=Tryz.mixed;obtain⟨va,vl,vd,F,hP,wW⟩:=hS;have hPl:=(auL.1 hP).1;have sp:=Gs 32 (.inl rfl) line aaV W hG;have hy:y.length<=1000:=auK (BM (c:=32) (s:=line) (y,()) (by rw[hf];simp)) hl;rw[hf]at sp;clear hf;unfold gZ at sp;obtain⟨i0,hi,hz0,hz1,hz2⟩:=awK ahR;have hqm:x.1.length+1<=maxLen:=acz;have ny:(x.1.length+1)*24<=140737488355328:=aaV;by_cases hk:k3=[115,116,114,105,110,103]
 .subst hk;rw[show(([115,116,114,105,110,103]:List UInt8)==rM)=true from rfl]
  go_enter Tryz.func60,Tryz.ntmps60
  go_wp2_with (first
   |(go_at_call 86;refine avd sp ?_;rintro e w1 ⟨v1,rfl,hf1,hb1⟩;obtain⟨a1,c1,e1⟩:=lW hf1;have e1:v1=.slice a1 3 c1:=e1;subst e1;obtain⟨b2,o2,e2,-,cw⟩:=FW.cell (a:=a1) (c:=c1) (f:=[([102,105,101,108,100],()),(y,()),([115,116,114,105,110,103],())]) hf1 (n:=0) abZ;subst e2;have cw:w1.cell? ⟨b2,o2,none⟩=some (.string ⟨([102,105,101,108,100]:List UInt8).toArray⟩):=cw;obtain⟨b3,o3,e3,-,Uj⟩:=FW.cell (a:=some ⟨b2,o2,none⟩) (c:=c1) (f:=[([102,105,101,108,100],()),(y,()),([115,116,114,105,110,103],())]) hf1 (n:=1) abZ;cases e3;have Uj:w1.cell? ⟨b2,o2+1,none⟩=some (.string ⟨(y:List UInt8).toArray⟩):=Uj;obtain⟨b3,o3,e3,-,cw4⟩:=FW.cell (a:=some ⟨b2,o2,none⟩) (c:=c1) (f:=[([102,105,101,108,100],()),(y,()),([115,116,114,105,110,103],())]) hf1 (n:=2) abZ;cases e3;have cw4:w1.cell? ⟨b2,o2+2,none⟩=some (.string ⟨([115,116,114,105,110,103]:List UInt8).toArray⟩):=cw4;have hP1:=(hb1.block P hPl).trans hP;obtain⟨⟨d0,d1,d2,d3⟩,z0,z1,z2,z3⟩:=four hP1;have xO:=wW.below hb1;have uK:P<w1.heap.size:=(auL.1 hP1).1;clear sp))
  obtain⟨xs,hown,hrep⟩:=xO.fa;have hown:w1.ownsRow B 54 2 va x.1.length xs:=hown;have hrep:∀i z,x.1[i]? =some z->aH w1.heap F dh ((xs.drop (i*2)).take 2) z:=hrep;have rW:va.ownBlock≠some P:=λe=>by have:=(xO.fa.lt e).1;omega
  have hBr:B<=w1.heap.size:=auK hB hb1.size
  go_region_law (refine step_append_lies _ rfl (.tmp 34) (.tmp 40) 26 rfl B 54 i0 Ws 2 24 Tryz.underlying26 hi hz0 hz1 hz2 rfl abV va x.1.length xs aeF ((awF hown).alloc _) ⟨w1.heap.size,0,none⟩ 1 1 [.string ⟨y.toArray⟩,.int .i64 2] aeF rfl (World.news_of_block (avo _ _)) afF abV hqm ny aeV _ rfl ?_;intro g cap w5 hown5 gI nT nU;have nN:=(gI.block P aeV (λe=>rW e.symm)).trans ((heap_alloc_old w1.drew _ uK).trans hP1);have k5:w5.cell? ⟨P,0,none⟩=some va:=aN nN 0;have z5:=dH nN 0)
  all_goals go_wp2
  all_goals go_ret
  all_goals exact⟨rfl,⟨_,vl,vd,_,gJ nN 0 _,((xO.agx (y:=(y,2,())) hBr (((Below.refl _ w1).drew).alloc (auH _) _) hown hrep hown5 gI nT nU (N:=λ_=>False) (λb hb=>hb.elim) ⟨_,_,rfl,⟨rfl,acz⟩,_,_,rfl,⟨rfl,abV,abV⟩,rfl⟩).set Qq)⟩,(((Kp.of hB hb1).below hB (((Below.refl _ w1).drew).alloc (auH _) _)).grown hB gI (λb e=>(xO.fa.lt e).1)).set⟩
 .have g3:(k3==[115,116,114,105,110,103])=false:=auD.2 hk;rw[show(k3==rM)=false from g3]
  go_enter Tryz.func60,Tryz.ntmps60
  go_wp2_with (first
   |(go_at_call 86;refine avd sp ?_;rintro e w1 ⟨v1,rfl,hf1,hb1⟩;obtain⟨a1,c1,e1⟩:=lW hf1;have e1:v1=.slice a1 3 c1:=e1;subst e1;obtain⟨b2,o2,e2,-,cw⟩:=FW.cell (a:=a1) (c:=c1) (f:=[([102,105,101,108,100],()),(y,()),(k3,())]) hf1 (n:=0) abZ;subst e2;have cw:w1.cell? ⟨b2,o2,none⟩=some (.string ⟨([102,105,101,108,100]:List UInt8).toArray⟩):=cw;obtain⟨b3,o3,e3,-,Uj⟩:=FW.cell (a:=some ⟨b2,o2,none⟩) (c:=c1) (f:=[([102,105,101,108,100],()),(y,()),(k3,())]) hf1 (n:=1) abZ;cases e3;have Uj:w1.cell? ⟨b2,o2+1,none⟩=some (.string ⟨(y:List UInt8).toArray⟩):=Uj;obtain⟨b3,o3,e3,-,cw4⟩:=FW.cell (a:=some ⟨b2,o2,none⟩) (c:=c1) (f:=[([102,105,101,108,100],()),(y,()),(k3,())]) hf1 (n:=2) abZ;cases e3;have cw4:w1.cell? ⟨b2,o2+2,none⟩=some (.string ⟨(k3:List UInt8).toArray⟩):=cw4;have hP1:=(hb1.block P hPl).trans hP;obtain⟨⟨d0,d1,d2,d3⟩,z0,z1,z2,z3⟩:=four hP1;have xO:=wW.below hb1;have uK:P<w1.heap.size:=(auL.1 hP1).1;clear sp))
  obtain⟨xs,hown,hrep⟩:=xO.fa;have hown:w1.ownsRow B 54 2 va x.1.length xs:=hown;have hrep:∀i z,x.1[i]? =some z->aH w1.heap F dh ((xs.drop (i*2)).take 2) z:=hrep;have rW:va.ownBlock≠some P:=λe=>by have:=(xO.fa.lt e).1;omega
  have hBr:B<=w1.heap.size:=auK hB hb1.size
  go_region_law (refine step_append_lies _ rfl (.tmp 34) (.tmp 40) 26 rfl B 54 i0 Ws 2 24 Tryz.underlying26 hi hz0 hz1 hz2 rfl abV va x.1.length xs aeF ((awF hown).alloc _) ⟨w1.heap.size,0,none⟩ 1 1 [.string ⟨y.toArray⟩,.int .i64 1] aeF rfl (World.news_of_block (avo _ _)) afF abV hqm ny aeV _ rfl ?_;intro g cap w5 hown5 gI nT nU;have nN:=(gI.block P aeV (λe=>rW e.symm)).trans ((heap_alloc_old w1.drew _ uK).trans hP1);have k5:w5.cell? ⟨P,0,none⟩=some va:=aN nN 0;have z5:=dH nN 0)
  all_goals go_wp2
  all_goals go_ret
  all_goals exact⟨rfl,⟨_,vl,vd,_,gJ nN 0 _,((xO.agx (y:=(y,1,())) hBr (((Below.refl _ w1).drew).alloc (auH _) _) hown hrep hown5 gI nT nU (N:=λ_=>False) (λb hb=>hb.elim) ⟨_,_,rfl,⟨rfl,acz⟩,_,_,rfl,⟨rfl,abV,abV⟩,rfl⟩).set Qq)⟩,(((Kp.of hB hb1).below hB (((Below.refl _ w1).drew).alloc (auH _) _)).grown hB gI (λb e=>(xO.fa.lt e).1)).set⟩
end Go.Proofs.Tryz
namespace Go.Proofs.Tryz
open Go Go.Fw Go.RowKit Sp
set_option maxRecDepth 100000
theorem FW.tail{B:Nat}{w:World}{b off cap:Nat}{x:List UInt8×Unit}{r:Sp.LS}(h:FW B w (.slice (some ⟨b,off,none⟩) (r.length+1) cap) (x::r)):(cap=1->FW B w (.slice (some ⟨b,off,none⟩) r.length 0) r)/\(¬cap=1->FW B w (.slice (some ⟨b,off+1,none⟩) r.length (cap-1)) r):=by
 have hm:r.length+1<=maxLen:=h.1;rcases h.2 with⟨e,_⟩|⟨b',off',cap',cs,t,fz,e,e2,e3,e4,e5⟩
 .cases e
 .cases e;have e2:r.length+1<=cap:=e2;refine⟨λh1=>⟨aaV,.inl ⟨avv.1 aaV,?_⟩⟩,λ_=>⟨aaV,.inr ⟨b,off+1,cap-1,cs,t,fz,rfl,aaV,e3,e4,λi y hy=>?_⟩⟩⟩
  .exact⟨_,_,by rw[show r.length=0 from aaV]⟩
  .have:=e5 (i+1) y (by simpa using hy);rw[show off+1+i*dJ.len=off+(i+1)*dJ.len by show off+1+i*1=off+(i+1)*1;omega];exact this
set_option maxHeartbeats 16000000 in
theorem amW(B P:Nat)(W:World)(x:aV)(r:Sp.LS)(line:List UInt8)(hl:line.length<=1000)(hf:Sp.pieces 32 line=(jY,())::r)(hG:G.ok W)(hS:Held B P W x)(Qq:P<B)(hB:B<=W.heap.size)(hz:x.2.1.length<=200):
 Calls prog 60 #[.pointer (some ⟨P,0,none⟩),.string ⟨line.toArray⟩] W λe w'=>e=.returned (.bool (jw r).2)/\Held B P w' (x.1,x.2.1++[(jw r).1],x.2.2.1,x.2.2.2.1,())/\Kp B P W w':=by
 have mixed:=Tryz.mixed;obtain⟨va,vl,vd,F,hP,wW⟩:=hS;have hPl:=(auL.1 hP).1;have sp:=Gs 32 (.inl rfl) line aaV W hG;have hwl:∀x∈r,x.1.length<=1048576:=λy hy=>auK (BM (c:=32) (s:=line) y (by rw[hf];exact auM _ hy)) aaV;have hrl:r.length<=1000:=by have:=Sp.pieces_len 32 line;rw[hf,auE]at this;omega
 rw[hf]at sp;clear hf;unfold jY at sp;have fi:=λv w hv hG=>apz v r w hv hrl hwl hG;generalize jw r=fr at fi ⊢;obtain⟨⟨id,ow,sh,lk,at',⟨⟩⟩,ok⟩:=fr;dsimp only at fi;obtain⟨i0,hi,hz0,hz1,hz2⟩:=awK amG;have hqm:x.2.1.length+1<=maxLen:=acz;have ny:(x.2.1.length+1)*56<=140737488355328:=aaV
 go_enter Tryz.func60,Tryz.ntmps60
 go_wp2_with (first
  |(go_at_call 86;refine avd sp ?_;rintro e w1 ⟨v1,rfl,hf1,hb1⟩;obtain⟨a1,c1,e1⟩:=lW hf1;have e1:v1=.slice a1 (r.length+1) c1:=e1;subst e1;obtain⟨b2,o2,e2,-,cw⟩:=FW.cell (a:=a1) (c:=c1) (f:=([102,105,108,101],())::r) hf1 (n:=0) abZ;subst e2;have cw:w1.cell? ⟨b2,o2,none⟩=some (.string ⟨([102,105,108,101]:List UInt8).toArray⟩):=cw;obtain⟨ht1,ht2⟩:=hf1.tail;have hG1:=dL hG hb1;clear sp hf1)
  |(go_at_call 106;(first|refine avd (fi _ _ (ht1 (by assumption)) hG1) ?_|refine avd (fi _ _ (ht2 (by assumption)) hG1) ?_);rintro e w2 ⟨a6,c6,rfl,hb2,hra,n1,n2,n4⟩;have vN:=hb1.trans (hb2.mono hb1.size)))
 all_goals
  have xO:=wW.below hb1;obtain⟨xs,hown1,Tf⟩:=xO.fl;have hown1:w1.ownsRow B 51 5 vl x.2.1.length xs:=hown1;have Tf:∀i z,x.2.1[i]? =some z->aH w1.heap F dV ((xs.drop (i*5)).take 5) z:=Tf;have hs1:=hb1.size;have hs2:=hb2.size;have rW:vl.ownBlock≠some P:=λe=>by have:=(xO.fl.lt e).1;omega
  have hBr:B<=w1.heap.size:=auK hB hs1;have hrow:=avo w2 (Obj.cells #[.int .i64 id,.int .i64 ow,.bool sh,.int .i64 lk,.slice a6 at'.length c6] 51 (0,0));have Ti:Below w2.heap.size w2 (w2.alloc (Obj.cells #[.int .i64 id,.int .i64 ow,.bool sh,.int .i64 lk,.slice a6 at'.length c6] 51 (0,0))):=(Below.refl _ w2).alloc (auH _) _;generalize w2.alloc (Obj.cells #[.int .i64 id,.int .i64 ow,.bool sh,.int .i64 lk,.slice a6 at'.length c6] 51 (0,0))=w3 at hrow Ti ⊢;have hs3:=Ti.size;have qw:=hb2.trans (Ti.mono hs2);have hb3:=hb1.trans (qw.mono hs1);have hP3:=(hb3.block P hPl).trans hP;obtain⟨⟨d0,d1,d2,d3⟩,z0,z1,z2,z3⟩:=four hP3;have e0:w3.cell? ⟨w2.heap.size,0,none⟩=some (.int .i64 id):=aN hrow 0;have e1:w3.cell? ⟨w2.heap.size,1,none⟩=some (.int .i64 ow):=aN hrow 1;have e2:w3.cell? ⟨w2.heap.size,2,none⟩=some (.bool sh):=aN hrow 2;have e3:w3.cell? ⟨w2.heap.size,3,none⟩=some (.int .i64 lk):=aN hrow 3;have e4:w3.cell? ⟨w2.heap.size,4,none⟩=some (.slice a6 at'.length c6):=aN hrow 4;have uK:P<w3.heap.size:=(auL.1 hP3).1;have hown3:w3.ownsRow B 51 5 vl x.2.1.length xs:=uJ hown1 λb e=>qw.block b (xO.fl.lt e).2;have as5:B<=w3.heap.size:=aaV
  go_region_law (refine step_append_lies _ rfl (.tmp 84) (.tmp 86) 27 rfl B 51 i0 ahU 5 56 Tryz.underlying27 hi hz0 hz1 hz2 rfl abV vl x.2.1.length xs aeF ((awF hown3).alloc _) ⟨w3.heap.size,0,none⟩ 1 1 [.int .i64 id,.int .i64 ow,.bool sh,.int .i64 lk,.slice a6 at'.length c6] aeF rfl (World.news_of_block (avo _ _)) (by intro u hu;simp at hu;rcases hu with rfl|rfl|rfl|rfl|rfl<;>rfl) abV hqm ny aeV _ rfl ?_;intro g cap w5 hown5 gI nT nU;have nN:=(gI.block P aeV (λe=>rW e.symm)).trans ((heap_alloc_old w3.drew _ uK).trans hP3);have k5:w5.cell? ⟨P,1,none⟩=some vl:=aN nN 1;have z5:=dH nN 1)
  all_goals go_wp2
  all_goals go_ret
  all_goals
   have hbd:Below w3.heap.size w3 (w3.drew.alloc (Obj.cells #[.int .i64 id,.int .i64 ow,.bool sh,.int .i64 lk,.slice a6 at'.length c6] 51 (0,0))):=((Below.refl _ w3).drew).alloc (auH _) _;have xJ:=qw.trans (hbd.mono (auK hs2 hs3));exact⟨rfl,⟨va,_,vd,_,gJ nN 1 _,((xO.aoP (y:=(id,ow,sh,lk,at',())) hBr xJ hown1 Tf hown5 gI nT nU (N:=λb=>w1.heap.size<=b/\b<w2.heap.size) (λb hb=>⟨hb.1,by have:=hbd.size;omega⟩)
    ⟨_,_,rfl,⟨rfl,n1⟩,_,_,rfl,⟨rfl,n2⟩,_,_,rfl,rfl,_,_,rfl,⟨rfl,n4⟩,_,_,rfl,bY.mono (λb hb=>⟨hb,(hbd.block b aaV).trans (Ti.block b hb.2)⟩) _ _ _ hra,rfl⟩).set Qq)⟩,(((Kp.of hB hb1).below hB xJ).grown hB gI (λb e=>(xO.fl.lt e).1)).set⟩
end Go.Proofs.Tryz
