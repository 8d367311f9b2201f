import Derived.Test.YtpipombdnmdimaaGreatDoorFwD
import Derived.Test.YtpipombdnmdimaaGreatDoorFwB
import Derived.Test.YtpipombdnmdimaaGreatDoorFwA
import Derived.ChangeArms
import Derived.WideKeyArgs
import Derived.ChangeSame
import Derived.ChangeOld
import Derived.Handed
import Derived.IntWalk
import Derived.ProofKit
import Derived.SevenTiedAt
namespace Go.Fw
open Go
variable {P:Program} {w0:World} {M:Nat->Prop} {T:Ext} {γ γ':Nat->Value} {st:St} {a:Act} {w w':World} {Θ:jY} {Γ:kY}
structure Pn where
 awz:List adx
 c:Shape
 v:Shape
structure Hints where
 own:Nat->Bool
 loops:Nat->Option Pn
 cuts:Nat->Option Pn
 upd:List Nat
 frz:Nat->List Pre
def Bq:Code->Option Nat
 |.region id _ _=>some id
 |.seq x y=>match Bq x with|some n=>some n|none=>Bq y
 |.cond _ x y=>match Bq x with|some n=>some n|none=>Bq y
 |.block _ x|.loop x=>Bq x
 |_=>none
def cutAt(H:Hints)(y:Code):Option Pn:=match Bq y with
 |some n=>H.cuts n
 |none=>none
def NS(Θ:jY)(Γ:kY)(H:Hints):Code->(Exit->St->Prop)->St->Prop
 |.skip,Q,st=>Q .normal st
 |.region id ops false,Q,st=>ZG (H.frz id) (runs Θ Γ H.own ops.toList (Q .normal) ops.toList) st
 |.region id ops true,Q,st=>ZG (H.frz id) (VT Θ Γ H.own H.upd ops.toList (Q .normal)) st
 |.seq x y,Q,st=>match cutAt H y with
  |none=>NS Θ Γ H x (λe s=>match e with|.normal=>NS Θ Γ H y Q s|e=>Q e s) st
  |some sp=>match sp.c.read (only sp.c sp.v st)with
   |some x0=>∃(J:sp.v.den->Prop),NS Θ Γ H x (λe s=>match e with
     |.normal=>match settles s sp.awz with
      |some s1=>match Nat.beq s1.n st.n,sp.c.read (only sp.c sp.v s1),sp.v.read (only sp.c sp.v s1)with
       |true,some x1,some d=>x1=x0/\J d
       |_,_,_=>False
      |none=>False
     |e=>Q e s) st/\∀d,J d->NS Θ Γ H y Q (joint st.n sp.c sp.v x0 d)
   |none=>False
 |.cond c x y,Q,st=>match st.ev c with
  |.sv (.one (.bool b))=>cond b (NS Θ Γ H x Q st) (NS Θ Γ H y Q st)
  |_=>False
 |.block id c,Q,st=>NS Θ Γ H c (λe s=>match e with
  |.exit i=>match Nat.beq i id with|true=>Q .normal s|false=>Q (.exit i) s
  |e=>Q e s) st
 |.exit id,Q,st=>Q (.exit id) st
 |.ret,Q,st=>Q .ret st
 |.loop c,Q,st=>match Bq c with
  |some n=>match H.loops n with
   |some sp=>match settles st sp.awz with
    |some s0=>match sp.c.read (only sp.c sp.v s0),sp.v.read (only sp.c sp.v s0)with
     |some x0,some y0=>∃(I:sp.v.den->Prop)(f:sp.v.den->Nat),I y0/\∀y,I y->
       NS Θ Γ H c (λe s=>match e with
        |.normal=>match settles s sp.awz with
         |some s1=>match Nat.beq s1.n s0.n,sp.c.read (only sp.c sp.v s1),sp.v.read (only sp.c sp.v s1)with
          |true,some x1,some d=>x1=x0/\I d/\f d<f y
          |_,_,_=>False
         |none=>False
        |e=>Q e s) (joint s0.n sp.c sp.v x0 y)
     |_,_=>False
    |none=>False
   |none=>False
  |none=>False
 |_,_,_=>False
theorem ady{G:lT}(hE:vM P G Θ Γ w0 M)(hm:P.follows .mixedOrders=true)(H:Hints):∀(c:Code)(QA:Exit->St->Prop)(Q:Exit->Act->World->Prop)(st:St)(γ:Nat->Value)(a:Act)(w:World),
 Rel w0 M T γ st a w->NS Θ Γ H c QA st->(∀e s γ' r w',QA e s->Rel w0 M T γ' s r w'->Q e r w')->c.wp P Q a w:=by
 intro c
 induction c with
 |skip=>intro QA Q st γ a w h g q;exact wp_skip (q _ _ _ _ _ g h)
 |region id ops d=>
  intro QA Q st γ a w h g q;cases d with
  |false=>
   obtain⟨s0,L,S,hk0⟩:=Jr (K:=runs Θ Γ H.own ops.toList (QA .normal) ops.toList) (H.frz id) st γ h g
   grind [ast]
  |true=>
   obtain⟨s0,L,S,hk0⟩:=Jr (K:=VT Θ Γ H.own H.upd ops.toList (QA .normal)) (H.frz id) st γ h g
   grind [axQ]
 |seq x y ihx ihy=>
  intro QA Q st γ a w h g q;rw[NS]at g;split at g
  .refine wp_seq (ihx _ _ st γ a w h g ?_);intro e s γ' r w' m u;cases e<;>first|exact ihy _ _ s γ' r w' u m q|exact q _ _ _ _ _ m u
  .next sp hsp=>
   split at g
   .next x0 hx=>
    obtain⟨J,E,O⟩:=g;refine wp_seq (ihx _ _ st γ a w h E ?_);intro e s γ' r w' m u;cases e with
    |normal=>
     simp only at m;split at m
     .next s1 hs1=>
      split at m
      .next x1 y1 hsn hx1 hy1=>obtain⟨rfl,o⟩:=m;obtain⟨γ1,hR1⟩:=Rel.settles _ u hs1;have t:=hR1.joint hx1 hy1;rw[aHA hsn]at t;exact ihy _ _ _ γ1 r w' t (O _ o) q
      grind
     grind
    |_=>exact q _ _ _ _ _ m u
   grind
 |cond c x y ihx ihy=>
  intro QA Q st γ a w h g q;rw[NS]at g;split at g
  .next b hb=>
   have hv:a.eval c=.bool b:=by have:=jK h c;rw[hb]at this;exact this
   grind [wp_cond_split]
  grind
 |block id c ih=>
  intro QA Q st γ a w h g q;refine wp_block (ih _ _ st γ a w h g ?_);intro e s γ' r w' m u;cases e with
  |exit i=>
   simp only[Exit.inBlock];cases hb:Nat.beq i id with
   |true=>
    grind [Nat.eq_of_beq_eq_true]
   |false=>
    rw[if_neg (by rintro rfl;simp at hb)]
    grind
  |_=>exact q _ _ _ _ _ m u
 |loop c ih=>
  intro QA Q st γ a w h g q;rw[NS]at g;split at g
  .split at g
   .next sp hsp=>
    split at g
    .next s0 hs0=>
     split at g
     .next x0 y0 hx hy=>
      obtain⟨I,U,S,hI⟩:=g;obtain⟨L,hR0⟩:=Rel.settles _ h hs0
      let J:sp.v.den->Act->World->Prop:=λy r w'=>∃γ',Rel w0 M T γ' (joint s0.n sp.c sp.v x0 y) r w'
      have key:∀(n:Nat)(y:sp.v.den),U y=n->I y->∀r w',J y r w'->∀(b:Frame)(k:List Item)(A:List Frame),
       ∃e D F,Q e D F/\Arrives P (lone (b.at r (.code c:: .inLoop c::k)) A w') b k A e D F:=by
       intro n
       induction n using Nat.strongRecOn with
       |_ n ihn=>
        intro y hμ hy' r w' ⟨γ',u⟩ b k A;have z:=ih _ (Exit.then (λN R=>∃C,I C/\U C<U y/\J C N R) Q) _ γ' r w' u (hI y hy') ?_
        .obtain⟨e,a1,w1,m,j⟩:=z b (.inLoop c::k) A;cases e with
         |normal=>
          obtain⟨C,Y,B,Z⟩:=m;obtain⟨e2,N,R,hq2,W⟩:=ihn (U C) (hμ▸B) C rfl Y a1 w1 Z b k A;exact⟨e2,N,R,hq2,.of_steps (Steps.trans j (.one step_inLoop)) W⟩
         |exit id=>exact⟨_,a1,w1,m,.pass (x:=.inLoop c) rfl (λ_ _=>.inl vk) j⟩
         |goto l=>exact⟨_,a1,w1,m,.pass (x:=.inLoop c) rfl (λ_ _=>.inl vk) j⟩
         |ret=>exact⟨_,a1,w1,m,.pass (x:=.inLoop c) rfl (λ_ _=>.inl vk) j⟩
         |panic ch=>exact⟨_,a1,w1,m,.pass (x:=.inLoop c) rfl (λ_ _=>.inl vk) j⟩
         |outgrown=>exact⟨_,a1,w1,m,.pass (x:=.inLoop c) rfl (λ_ _=>.inl vk) j⟩
        .intro e s γ2 N R m t;cases e with
         |normal=>
          simp only at m;split at m
          .next s1 hs1=>
           split at m
           .next x1 y1 hsn hx1 hy1=>obtain⟨rfl,X,B⟩:=m;obtain⟨γ3,lX⟩:=Rel.settles _ t hs1;have o:=lX.joint hx1 hy1;rw[aHA hsn]at o;exact⟨y1,X,B,_,o⟩
           grind
          grind
         |_=>exact q _ _ _ _ _ m t
      intro b k A;obtain⟨e,r,w',m,j⟩:=key _ y0 rfl S a w ⟨_,hR0.joint hx hy⟩ b k A;exact⟨e,r,w',m,.of_steps (.one step_loop) j⟩
     grind
    grind
   grind
  grind
 |rangeFunc f ps x y ihx ihy=>intro QA Q st γ a w h g q;exact g.elim
 |exit id=>intro QA Q st γ a w h g q;exact wp_exit (q _ _ _ _ _ g h)
 |scope c ih=>intro QA Q st γ a w h g q;exact g.elim
 |label l=>intro QA Q st γ a w h g q;exact g.elim
 |goto l=>intro QA Q st γ a w h g q;exact g.elim
 |ret=>intro QA Q st γ a w h g q;exact wp_ret (q _ _ _ _ _ g h)
 |refuse s=>intro QA Q st γ a w h g q;exact g.elim
def Arg.av:Arg->AV
 |.sv v=>.sv v
 |.kp cs=>.dH cs 0
 |.fn f caps=>.fn f caps
 |.own _ _ _|.ptr _=>.undef
def entry(n:Nat)(args:List Arg):St:=
 {n:=n,tmps:=λt=>match args[t]? with|some v=>v.av|none=>.undef,ah:=λ_=>none}
def VU(st:St)(o:Nat):Bool:=match st.ah o with|some (.arr _ _ _ _)=>true|_=>false
def akC(Θ:jY)(st:St):ResultVar->Option SV
 |.tmp t=>match st.tmps t with|.sv v=>some v|_=>none
 |.cell t ty=>match Θ ty,st.tmps t with
  |some ti,.eG o off=>match st.ah o with
   |some (.var cs)=>nX ti cs off
   |_=>none
  |_,_=>none
def Ud(Θ:jY)(st:St):List ResultVar->Option (List SV)
 |[]=>some []
 |r::rs=>match akC Θ st r,Ud Θ st rs with
  |some v,some vs=>some (v::vs)
  |_,_=>none
def outOf:SV->Bool×List gU
 |.one c=>(false,[.plain c])
 |.agg cs=>(true,cs.map .plain)
def outs:List SV->List (Bool×List gU)
 |[]=>[]
 |v::vs=>outOf (v.kill λ_=>true)::outs vs
def fin(Θ:jY)(b:List ResultVar)(st:St):Option Out:=
 match Ud Θ (st.freeze (VU st)) b with
 |some vs=>some ⟨outs vs,none⟩
 |none=>none
theorem VW:∀(k:Nat)(A:List Cell),nR k (A.map .plain)=(A,[])
 |_,[]=>rfl
 |k,c::A=>by simp only[aHT,nR,VW (k+1) A,gU.take,aH1]
theorem auH(k:Nat)(v:SV):zM k (outOf v)=(v,[]):=by
 cases v with
 |one c=>rfl
 |agg cs=>simp only[zM,outOf,VW]
theorem aBo(v:Value)(t:TypeId)(b m:Nat)(K:v=.pointer (some ⟨b,m,none⟩)):Instr.loadAt t v=(do loadVar t (← asAddr v)):=by subst K;rfl
def Qy(tmps:Array Value):ResultVar->Sem Value
 |.tmp t=>pure (tmps.getD t undef)
 |.cell x t=>do loadVar t (← asAddr (tmps.getD x undef))
theorem ZI(fn:Func)(tmps:Array Value):results fn tmps=(do let I ← fn.results.mapM (Qy tmps);pure (if h:I.size=1 then I[0]else .tuple I)):=by congr 1
theorem asv(f:∀t g,Θ t=some g->nY P t g)(h:Rel w0 M T γ st a w){r:ResultVar}{v:SV}(q:akC Θ st r=some v):
 ∃u,(Qy a.tmps r).run P w=.ok u w/\eP (ak w0 T γ st w) v u:=by
 cases r with
 |tmp t=>
  simp only[akC]at q;split at q
  .next e=>cases q;have:=h.tmps t;rw[e]at this;exact⟨_,rfl,this⟩
  .cases q
 |cell x t=>
  simp only[akC]at q;split at q
  .next g o off ht hx=>
   split at q
   .next cs ho=>have K:=h.tmps x;rw[hx]at K;obtain⟨b,i,_,_,d⟩:=K;obtain⟨u,j,W⟩:=VN f h ht (x:=.tmp x) (.inl ⟨o,off,cs,hx,ho,q⟩);refine⟨u,?_,W⟩;rw[Qy,← aBo _ t b off d];exact j
   .cases q
  .cases q
theorem Ue(b:∀t e,Θ t=some e->nY P t e)(h:Rel w0 M T γ st a w):∀(rs:List ResultVar)(I:List SV),Ud Θ st rs=some I->
 ∃s,(rs.mapM (Qy a.tmps)).run P w=.ok s w/\
  eX (ak w0 T γ st w) I s
 |[],I,hf=>by cases hf;exact⟨[],rfl,trivial⟩
 |r::rs,I,hf=>by
  rw[Ud]at hf;split at hf
  .next v vs' h1 h2=>
   cases hf;obtain⟨u,g,W⟩:=asv b h h1;obtain⟨s,f,d⟩:=Ue b h rs vs' h2;refine⟨u::s,?_,W,d⟩
   simp_all
  .cases hf
theorem eX.length{X:V}:∀(A:List SV)(I:List Value),eX X A I->I.length=A.length
 |[],[],_=>rfl
 |_::A,_::I,⟨_,h⟩=>by simp[eX.length A I h]
 |[],_::_,H|_::_,[],H=>RS
theorem eX.get{X:V}:∀(A:List SV)(I:List Value)(i:Nat)(c:SV),eX X A I->A[i]? =some c->∃v,I[i]? =some v/\eP X c v
 |[],_,_,_,_,h=>XD
 |c::A,v::I,0,d,⟨h1,_⟩,h=>ny
 |c::A,v::I,i+1,d,⟨_,h2⟩,h=>by
  obtain⟨u,b,W⟩:=eX.get A I i d h2 y7;exact⟨u,amW,W⟩
 |_::_,[],_,_,H,_=>RS
theorem qI.length{X:V}:∀(A:List Arg)(I:List Value),qI X A I->I.length=A.length
 |[],[],_=>rfl
 |_::A,_::I,⟨_,h⟩=>by simp[qI.length A I h]
 |[],_::_,H|_::_,[],H=>RS
theorem qI.get{X:V}:∀(A:List Arg)(I:List Value)(i:Nat)(c:Arg),qI X A I->A[i]? =some c->∃v,I[i]? =some v/\qH X c v
 |[],_,_,_,_,h=>XD
 |c::A,v::I,0,d,⟨h1,_⟩,h=>ny
 |c::A,v::I,i+1,d,⟨_,h2⟩,h=>by
  obtain⟨u,b,W⟩:=qI.get A I i d h2 y7;exact⟨u,amW,W⟩
 |_::_,[],_,_,H,_=>RS
theorem qH.av{X:V}:∀(c:Arg)(v:Value),qH X c v->bD X c.av v
 |.sv _,_,h|.kp _,_,h|.fn _ _,_,h=>h
 |.own _ _ _,_,h|.ptr _,_,h=>h.elim
theorem axR{args:List Arg}{I:Array Value}{S:Nat->Prop}(n:Nat)(H:args.length<=n)
 (h:qI ⟨w,w.heap.size,S,λ_=>undef,λ_=>none⟩ args I.toList):
 Rel w (λ_=>False) ⟨S,λ_=>none,λ_ _ h=>zH⟩ (λ_=>undef) (entry n args) {tmps:=I++Array.replicate (n-I.size) undef,defers:=[]} w:=by
 have Q:I.size=args.length:=by simpa using qI.length _ _ h
 refine⟨λ_ h=>h.elim,rfl,?_,rfl,rfl,rfl,aHv _,λ_ _ _=>rfl,λt=>?_,(λo x Z=>O6),(λo x b Z=>O6),(λo x p y b Z=>O6),(λo v A d=>by cases d)⟩
 · grind [entry]
 .simp only[entry];cases e:args[t]? with
  |none=>trivial
  |some v=>
   obtain⟨u,g,W⟩:=qI.get _ _ t v h e;have:(I++Array.replicate (n-I.size) undef).getD t undef=u:=by
    have f:t<args.length:=by
     grind
    simp_all [aI4]
   grind [qH.av]
end Go.Fw
namespace Go.Fw
def codeOf(fn:Func):Code:=match fn.body with|some c=>c|none=>.skip
def akD:List (Nat×TI)->jY
 |[],_=>none
 |(t,x)::r,i=>match Nat.beq i t with|true=>some x|false=>akD r i
def Jq:List (Nat×NC)->kY
 |[],_=>none
 |(t,x)::r,i=>match Nat.beq i t with|true=>some x|false=>Jq r i
def awC:List (Nat×Pn)->Nat->Option Pn
 |[],_=>none
 |(t,x)::r,i=>match Nat.beq i t with|true=>some x|false=>awC r i
def aAP:List (Nat×List Pre)->Nat->List Pre
 |[],_=>[]
 |(n,z)::r,i=>match Nat.beq i n with|true=>z|false=>aAP r i
def hints(own:List Nat)(l c:List (Nat×Pn))(u:List Nat)(z:List (Nat×List Pre)):Hints:=⟨bn own,awC l,awC c,u,aAP z⟩
end Go.Fw
namespace Go.Fw
open Go
variable {P:Program} {Θ:jY} {Γ:kY}
inductive kM where
 |one (c:iy)
 |agg (l:List iy)
@[reducible] def kM.den:kM->Type
  |.one c=>c.den
  |.agg l=>oD l
def kM.val:(s:kM)->s.den->SV
 |.one c,x=>.one (c.cell x)
 |.agg l,x=>.agg (jA l x)
def kM.read:(s:kM)->SV->Option s.den
 |.one c,.one x=>c.read x
 |.agg l,.agg xs=>lJ l xs
 |_,_=>none
theorem kM.weak{X:V}(s:kM)(x:SV)(d:s.den)(v:Value)(W:s.read x=some d)(K:eP X x v):eP X (s.val d) v:=by
 unfold kM.read at W;split at W
 .exact iy.weak _ _ _ _ W K
 .obtain⟨vs,e,h⟩:=K;exact⟨vs,e,KC _ _ _ _ W h⟩
 .cases W
@[reducible] def kS:List kM->Type
  |[]=>Unit
  |s::r=>s.den×kS r
def AO:(l:List kM)->kS l->List SV
 |[],_=>[]
 |s::r,x=>s.val x.1::AO r x.2
def Yf:(l:List kM)->List SV->Option (kS l)
 |[],[]=>some ()
 |s::r,x::xs=>match s.read x,Yf r xs with
  |some a,some b=>some (a,b)
  |_,_=>none
 |_,_=>none
theorem axS{X:V}:∀(l:List kM)(z:List SV)(d:kS l)(I:List Value),Yf l z=some d->eX X z I->eX X (AO l d) I
 |[],[],_,_,_,hv=>hv
 |s::r,x::z,d,I,hr,hv=>by
  rw[Yf]at hr;split at hr
  .next a b h1 h2=>
   cases hr;cases I with
   |nil=>cases hv
   |cons v I=>exact⟨kM.weak s x a v h1 hv.1,axS r z b I h2 hv.2⟩
  .cases hr
 |[],_::_,_,_,hr,_=>by grind [Yf]
 |_::_,[],_,_,hr,_=>by grind [Yf]
mutual
def CT.wu:(c:CT)->c.den->Prop
 |.int k,(n:Int)=>k.min<=n/\n<=k.max
 |.bool,_=>True
 |.str,(s:Bytes)=>s.length<=maxLen
 |.sl _ r,(l:List r.den)=>l.length<=maxLen/\∀x∈l,r.wu x
def au.wu:(r:au)->r.den->Prop
 |.nil,_=>True
 |.cons c r,x=>c.wu x.1/\r.wu x.2
end
mutual
theorem dw.wu{h:Array Obj}{S:Nat->Prop}:∀(c:CT)(v:Value)(x:c.den),dw h S c v x->c.wu x
 |.int k,v,(n:Int),H=>by rw[dw]at H;rw[CT.wu];exact H.2
 |.bool,v,(b:Bool),H=>by rw[CT.wu];trivial
 |.str,v,(s:Bytes),H=>by rw[dw]at H;rw[CT.wu];exact H.2
 |.sl e r,v,(l:List r.den),H=>by
  rw[dw]at H;rw[CT.wu];refine⟨H.1,λx Z=>?_⟩;obtain⟨i,D,rfl⟩:=aJr.1 Z;rcases H.2 with⟨a,_⟩|⟨b,m,y,A,t,d,_,_,_,_,W⟩
  .subst a;simp at D
  .exact aY.wu r _ _ (W i _ (aHK D))
theorem aY.wu{h:Array Obj}{S:Nat->Prop}:∀(r:au)(I:List Value)(x:r.den),aY h S r I x->r.wu x
 |.nil,I,_,H=>by rw[au.wu];trivial
 |.cons c r,I,(x,y),H=>by rw[aY]at H;obtain⟨v,a,_,E,O⟩:=H;rw[au.wu];exact⟨dw.wu c v x E,aY.wu r a y O⟩
end
def iy.wu:(c:iy)->c.den->Prop
 |.int k,(n:Int)=>k.min<=n/\n<=k.max
 |.str,(s:Bytes)=>s.length<=maxLen
 |.sl _ r _,(l:List r.den)=>l.length<=maxLen/\∀x∈l,r.wu x
 |_,_=>True
def afC:(l:List iy)->oD l->Prop
 |[],_=>True
 |c::r,x=>c.wu x.1/\afC r x.2
def kM.wu:(s:kM)->s.den->Prop
 |.one c,x=>c.wu x
 |.agg l,x=>afC l x
theorem iy.afD{X:V}(c:iy)(x:c.den)(v:Value)(h:aX X (c.cell x) v):c.wu x:=by
 cases c with
 |int k=>exact h.2
 |str=>exact h.2
 |sl e r fr=>
  have a:dw X.w.heap (X.dA fr) (.sl e r) v x:=h;have:=dw.wu (.sl e r) v x a;exact this
 |_=>trivial
theorem Qz{X:V}:∀(l:List iy)(x:oD l)(I:List Value),ai X (jA l x) I->afC l x
 |[],_,_,_=>trivial
 |c::r,x,v::I,h=>⟨iy.afD c x.1 v h.1,Qz r x.2 I h.2⟩
 |_::_,_,[],h=>zH
inductive iq where
 |v (s:kM)
 |kp (l:List iy)
 |fn (f:FuncId) (l:List (List iy))
@[reducible] def iq.den:iq->Type
  |.v s=>s.den
  |.kp l=>oD l
  |.fn _ l=>F5 l
def iq.val:(s:iq)->s.den->Arg
 |.v s,x=>.sv (s.val x)
 |.kp l,x=>.kp (jA l x)
 |.fn f l,x=>.fn f (Qw l x)
def iq.read:(s:iq)->Arg->Option s.den
 |.v s,.sv x=>s.read x
 |.kp l,.kp xs=>lJ l xs
 |.fn f l,.fn g xs=>match Nat.beq f g with|true=>LZ l xs|false=>none
 |_,_=>none
theorem iq.weak{X:V}(s:iq)(x:Arg)(d:s.den)(v:Value)(W:s.read x=some d)(K:qH X x v):qH X (s.val d) v:=by
 unfold iq.read at W;split at W
 .exact kM.weak _ _ _ _ W K
 .obtain⟨b,e,u⟩:=K;exact⟨b,e,apT W u⟩
 .split at W
  .next hb=>obtain⟨a,e,u⟩:=K;rw[iq.val,aHA hb];exact⟨a,e,adv _ _ _ _ W u⟩
  .cases W
 .cases W
@[reducible] def jo:List iq->Type
  |[]=>Unit
  |s::r=>s.den×jo r
def yc:(l:List iq)->jo l->List Arg
 |[],_=>[]
 |s::r,x=>s.val x.1::yc r x.2
def NT:(l:List iq)->List Arg->Option (jo l)
 |[],[]=>some ()
 |s::r,x::xs=>match s.read x,NT r xs with
  |some a,some b=>some (a,b)
  |_,_=>none
 |_,_=>none
theorem Ig{X:V}:∀(l:List iq)(z:List Arg)(d:jo l)(I:List Value),NT l z=some d->qI X z I->qI X (yc l d) I
 |[],[],_,_,_,hv=>hv
 |s::r,x::z,d,I,hr,hv=>by
  rw[NT]at hr;split at hr
  .next a b h1 h2=>
   cases hr;cases I with
   |nil=>cases hv
   |cons v I=>exact⟨iq.weak s x a v h1 hv.1,Ig r z b I h2 hv.2⟩
  .cases hr
 |[],_::_,_,_,hr,_=>by grind [NT]
 |_::_,[],_,_,hr,_=>by grind [NT]
theorem abK:∀(l:List iq)(d:jo l),(yc l d).length=l.length
 |[],_=>rfl
 |_::r,d=>by simp[yc,abK r d.2]
def anZ:(l:List (List iy))->F5 l->Prop
 |[],_=>True
 |c::r,x=>afC c x.1/\anZ r x.2
def iq.wu:(s:iq)->s.den->Prop
 |.v s,x=>s.wu x
 |.kp l,x=>afC l x
 |.fn _ l,x=>anZ l x
def NU:(l:List iq)->jo l->Prop
 |[],_=>True
 |s::r,x=>s.wu x.1/\NU r x.2
theorem ahj{X:V}:∀(l:List (List iy))(x:F5 l)(s:List Value),gB X (Qw l x) s->anZ l x
 |[],_,_,_=>trivial
 |c::r,x,u::s,h=>by
  obtain⟨⟨b,e,arr,t,a,q,d,L⟩,O⟩:=h;exact⟨Qz c x.1 _ L,ahj r x.2 s O⟩
 |_::_,_,[],h=>zH
theorem Ih{X:V}:∀(l:List iq)(x:jo l)(I:List Value),qI X (yc l x) I->NU l x
 |[],_,_,_=>trivial
 |.v (.one c)::r,x,v::I,h=>⟨iy.afD c x.1 v h.1,Ih r x.2 I h.2⟩
 |.v (.agg l)::r,x,v::I,h=>by
  obtain⟨g,K,L⟩:=h.1;exact⟨Qz l x.1 _ L,Ih r x.2 I h.2⟩
 |.kp l::r,x,v::I,h=>by
  obtain⟨b,e,arr,t,a,q,d,L⟩:=h.1;exact⟨Qz l x.1 _ L,Ih r x.2 I h.2⟩
 |.fn f l::r,x,v::I,h=>by
  obtain⟨s,K,u⟩:=h.1;exact⟨ahj l x.1 _ u,Ih r x.2 I h.2⟩
 |_::_,_,[],h=>zH
def zf(a:List iq)(F:jo a->Prop×Out):Dh:=λargs=>
 match NT a args with
 |some x=>some (F x)
 |none=>none
def Jt:List SV->List (Bool×List gU)
 |[]=>[]
 |v::vs=>outOf v::Jt vs
theorem Yg:∀(k:Nat)(I:List SV),jJ k (Jt I)=(I,[])
 |_,[]=>rfl
 |k,v::I=>by simp only[Jt,jJ,auH,Yg,aH1]
def akE(Θ:jY)(a:List ResultVar)(dF:List kM)(K:kS dF->Prop)(e:Exit)(st:St):Prop:=
 match e with
 |.normal|.ret=>match Ud Θ (st.freeze (VU st)) a with
  |some vs=>match Yf dF (vs.map (SV.kill λ_=>true))with
   |some d=>K d
   |none=>False
  |none=>False
 |_=>False
theorem aBp{G:lT}(W:EnvB P G Θ Γ)(X:P.follows .mixedOrders=true){f:FuncId}{fn:Func}{c:Code}(Z:P.funcs[f]? =some fn)(J:fn.body=some c)(H:Hints){F:Dh}{dF:List kM}
 (D:∀args p A,F args=some (p,A)->p->Nat.ble args.length fn.ntmps=true/\∃d:kS dF,A=⟨Jt (AO dF d),none⟩/\NS Θ Γ H c (akE Θ fn.results.toList dF λy=>y=d) (entry fn.ntmps args)):fF P G f F:=by
 intro args p A k S I w n C Y N;obtain⟨hn,d,M,hw⟩:=D args p A n C;subst M;have T:args.length<=fn.ntmps:=XH;refine calls_of_wp Z J (ady ⟨W,Y,λb J=>J.elim⟩ X H c _ _ _ _ _ _ (axR (S:=S) fn.ntmps T N) hw ?_);have O:∀s t E i,akE Θ fn.results.toList dF (λy=>y=d) .ret s->Rel w (λ_=>False) ⟨S,λ_=>none,λ_ _ h=>zH⟩ t s E i->bodyPost P fn (λe i=>∃v a,e=.returned v/\i.os=w.os/\i.tape=w.tape/\i.output=w.output/\w.heap.size<=i.heap.size/\
  (∀b,b<w.heap.size->i.heap[b]? =w.heap[b]?)/\
  bD ⟨i,w.heap.size,S,a,look (Out.take k ⟨Jt (AO dF d),none⟩).2⟩ (Out.take k ⟨Jt (AO dF d),none⟩).1 v/\
  (∀o x,look (Out.take k ⟨Jt (AO dF d),none⟩).2 o=some x->cu ⟨i,w.heap.size,S,a,look (Out.take k ⟨Jt (AO dF d),none⟩).2⟩ o x/\∀b,blk (a o)=some b->w.heap.size<=b/\b<i.heap.size)/\
  (∀o x q y b,look (Out.take k ⟨Jt (AO dF d),none⟩).2 o=some x->look (Out.take k ⟨Jt (AO dF d),none⟩).2 q=some y->o≠q->blk (a o)=some b->blk (a q)≠some b)) .ret E i:=by
  intro s t E i g z;refine⟨z.defers,?_⟩;simp only[akE]at g;split at g
  .next svs hvs=>
   split at g
   .next y hy=>
    subst g;have K:=z.freeze (VU s);obtain⟨B,hus,U⟩:=Ue W.types K _ _ hvs;have R:=eX.kill (λ_=>true) K svs B U;have m:=axS dF _ y B hy R;have j:Out.take k ⟨Jt (AO dF y),none⟩=(match AO dF y with|[v]=>.sv v|l=>.pG l,[]):=by
     grind [Out.take,Yg]
    have L:(fn.results.mapM (Qy E.tmps)).run P i=.ok B.toArray i:=by
     simp_all [aJ3]
    refine⟨if h:B.toArray.size=1 then B.toArray[0]else .tuple B.toArray,?_,_,t,rfl,z.os,z.tape,z.output,z.grow,λb J=>z.kept b J (λh=>h),?_,?_,?_⟩
    .rw[ZI,aIb,L]
     simp_all
    .rw[j];have Q:=eX.length _ _ m
     match X:AO dF y,B,m,Q with
     |[v],[u],m,_=>exact m.1
     |[],[],m,_=>exact⟨_,vk,m⟩
     |v::v2::r,u::u2::B,m,Q=>exact⟨_,vk,m⟩
     |[],_::_,m,h4|_::_,[],m,h4|[_],_::_::_,m,h4|_::_::_,[_],m,h4=>simp at h4
    .intro o x hx;rw[j]at hx;cases hx
    .intro o x q y b hx;rw[j]at hx;cases hx
   grind
  grind
 intro e s t E i g z;cases e with
 |normal=>exact O s t E i g z
 |ret=>grind
 |_=>exact g.elim
def iw(a:List iq)(dF:List kM)(F:jo a->Prop×kS dF):Dh:=zf a λx=>((F x).1,⟨Jt (AO dF (F x).2),none⟩)
theorem Yh{G:lT}(g:EnvB P G Θ Γ)(l:P.follows .mixedOrders=true){f:FuncId}{fn:Func}{c:Code}(q:P.funcs[f]? =some fn)(J:fn.body=some c)(H:Hints)
 {a:List iq} {dF:List kM} {F:jo a->Prop×kS dF} (i:Nat.ble a.length fn.ntmps=true)
 (d:∀x,NU a x->(F x).1->NS Θ Γ H c (akE Θ fn.results.toList dF λy=>y=(F x).2) (entry fn.ntmps (yc a x))):fF P G f (iw a dF F):=by
 have base:∀x,NU a x->fF P G f (λargs=>@ite _ (args=yc a x) (Classical.propDecidable _) (some ((F x).1,⟨Jt (AO dF (F x).2),none⟩)) none):=by
  intro x N;refine aBp (dF:=dF) g l q J H ?_
  grind [abK]
 intro args p e k S I w n C h b;unfold iw zf at n;split at n
 .next x hx=>have K:=Ig a args x I.toList hx b;exact base x (Ih a x _ K) (yc a x) p e k S I w ny C h K
 .cases n
inductive RC where
 |c (s:iy)
 |own (e:TypeId) (r:au) (fr:Bool)
@[reducible] def RC.den:RC->Type
  |.c s=>s.den
  |.own _ r _=>List r.den
@[reducible] def akF:List RC->Type
  |[]=>Unit
  |c::r=>c.den×akF r
def RC.awD:(c:RC)->c.den->gU
 |.c s,x=>.plain (s.cell x)
 |.own e r fr,l=>.own e r l fr
def an0:(l:List RC)->akF l->List gU
 |[],_=>[]
 |c::r,x=>c.awD x.1::an0 r x.2
inductive oK where
 |one (c:RC)
 |agg (l:List RC)
@[reducible] def oK.den:oK->Type
  |.one c=>c.den
  |.agg l=>akF l
@[reducible] def wJ:List oK->Type
  |[]=>Unit
  |s::r=>s.den×wJ r
def oK.out:(s:oK)->s.den->Bool×List gU
 |.one c,x=>(false,[c.awD x])
 |.agg l,x=>(true,an0 l x)
def ku:(l:List oK)->wJ l->List (Bool×List gU)
 |[],_=>[]
 |s::r,x=>s.out x.1::ku r x.2
def RC.name:RC->Cell->Option Nat
 |.own _ _ _,.ref o=>some o
 |_,_=>none
def an1:List RC->List Cell->List (Option Nat)
 |c::r,x::xs=>c.name x::an1 r xs
 |_,_=>[]
def oK.names:oK->SV->List (Option Nat)
 |.one c,.one x=>[c.name x]
 |.agg l,.agg xs=>an1 l xs
 |_,_=>[]
def F6:List oK->List SV->List (Option Nat)
 |s::r,x::xs=>s.names x++F6 r xs
 |_,_=>[]
def RC.read(st:St):(c:RC)->Cell->Option c.den
 |.c s,x=>match x.refs with|[]=>s.read x|_=>none
 |.own e r fr,.ref o=>match st.ah o with
  |some (.arr f s l g)=>match Nat.beq e f&&Uc fr g with
   |true=>if h:s.beq r=true then some (xJ h l)else none
   |false=>none
  |_=>none
 |.own _ r _,.nil=>match Nat.ble 1 r.len with|true=>some []|false=>none
 |_,_=>none
def Yi(st:St):(l:List RC)->List Cell->Option (akF l)
 |[],[]=>some ()
 |c::r,x::xs=>match c.read st x,Yi st r xs with
  |some a,some b=>some (a,b)
  |_,_=>none
 |_,_=>none
def oK.read(st:St):(s:oK)->SV->Option s.den
 |.one c,.one x=>c.read st x
 |.agg l,.agg xs=>Yi st l xs
 |_,_=>none
def Ii(st:St):(l:List oK)->List SV->Option (wJ l)
 |[],[]=>some ()
 |s::r,x::xs=>match s.read st x,Ii st r xs with
  |some a,some b=>some (a,b)
  |_,_=>none
 |_,_=>none
inductive jB where
 |p (s:iq)
 |own (e:TypeId) (r:au)
 |ptr (l:List iy)
@[reducible] def jB.den:jB->Type
  |.p s=>s.den
  |.own _ r=>List r.den
  |.ptr l=>oD l
def jB.mode:jB->Mode
 |.p _=>.val
 |.own _ _=>.own
 |.ptr _=>.ptr
def jB.val:(s:jB)->s.den->Arg
 |.p s,x=>s.val x
 |.own e r,l=>.own e r l
 |.ptr l,x=>.ptr (jA l x)
def jB.read:(s:jB)->Arg->Option s.den
 |.p s,x=>s.read x
 |.own e r,.own f s l=>match Nat.beq e f with
  |true=>if h:s.beq r=true then some (xJ h l)else none
  |false=>none
 |.ptr l,.ptr cs=>lJ l cs
 |_,_=>none
@[reducible] def nI:List jB->Type
  |[]=>Unit
  |s::r=>s.den×nI r
def AP:(l:List jB)->nI l->List Arg
 |[],_=>[]
 |s::r,x=>s.val x.1::AP r x.2
def oL:(l:List jB)->List Arg->Option (nI l)
 |[],[]=>some ()
 |s::r,x::xs=>match s.read x,oL r xs with
  |some a,some b=>some (a,b)
  |_,_=>none
 |_,_=>none
@[reducible] def vg:List jB->Type
  |[]=>Unit
  |.ptr l::r=>oD l×vg r
  |.p _::r|.own _ _::r=>vg r
def mX:(l:List jB)->vg l->List Eff
 |[],_=>[]
 |.ptr l::r,x=>.var (jA l x.1)::mX r x.2
 |.p _::r,x|.own _ _::r,x=>.lose::mX r x
def QB(st:St):(i:Nat)->(l:List jB)->Option (vg l)
 |_,[]=>some ()
 |i,.ptr l::r=>match st.ah (i*64+48),QB st (i+1) r with
  |some (.var cs),some b=>match cs.flatMap Cell.refs,lJ l cs with
   |[],some a=>some (a,b)
   |_,_=>none
  |_,_=>none
 |i,.p _::r|i,.own _ _::r=>QB st (i+1) r
def Arg.avX(i:Nat):Arg->AV
 |.own _ _ _=>.sv (.one (.ref (i*64+49)))
 |.ptr _=>.eG (i*64+48) 0
 |a=>a.av
def KE(n:Nat)(args:List Arg):St:=
 {n:=n,tmps:=λt=>match args[t]? with|some v=>v.avX t|none=>.undef,ah:=gQ args}
def akG(st:St)(W:List (Option Nat))(o:Nat):Bool:=VU st o&&!(ada o W)
def arC(Θ:jY)(a:List ResultVar)(f:List jB)(dF:List oK)(K:wJ dF×vg f->Prop)(e:Exit)(st:St):Prop:=
 match e with
 |.normal|.ret=>match Ud Θ st a with
  |some svs=>match Ud Θ (st.freeze (akG st (F6 dF svs))) a with
   |some vs=>match DF (F6 dF vs),Ii (st.freeze (akG st (F6 dF svs))) dF vs,QB (st.freeze (akG st (F6 dF svs))) 0 f with
    |true,some d,some b=>K (d,b)
    |_,_,_=>False
   |none=>False
  |none=>False
 |_=>False
def JQ(a:List jB)(dF:List oK)(F:nI a->Prop×(wJ dF×vg a->Prop)):TA:=λargs=>
 match oL a args with
 |some x=>some ((F x).1,⟨wJ dF×vg a,(F x).2,λt=>⟨ku dF t.1,none⟩,λt=>mX a t.2⟩)
 |none=>none
def X8(a:List jB):List Mode:=a.map jB.mode
end Go.Fw
namespace Go.Fw
open Go
variable {P:Program} {w0:World} {M:Nat->Prop} {T:Ext} {γ γ':Nat->Value} {st:St} {a:Act} {w w':World} {Θ:jY} {Γ:kY}
def an2(args:List Arg)(γ:Nat->Value)(o:Nat):Option Value:=match gQ args o with|some (.var _)=>some (γ o)|_=>none
variable {args:List Arg}
theorem azn{o:Nat}{A:List Cell}(h:gQ args o=some (.var A)):o%64=48:=by
 unfold gQ at h;split at h
 .split at h<;>cases h
 · grind [Nat.eq_of_beq_eq_true]
 .cases h
def adz(args:List Arg)(γ:Nat->Value)(S:Nat->Prop):Ext where
 S:=λb=>S b\/ER (gQ args) γ b
 N:=an2 args γ
 n48:=by
  intro p v h;unfold an2 at h;split at h
  .next cs hc=>exact azn hc
  .cases h
theorem EP.get{X:V}:∀(d:List Arg)(I:List Value)(i:Nat),EP X i d I->d.length=I.length/\∀(j:Nat)(b:Arg),d[j]? =some b->∃v,I[j]? =some v/\TV X (i+j) b v
 |[],[],_,_=>⟨rfl,λj b h=>XD⟩
 |x::d,v::I,i,⟨h1,h2⟩=>by
  obtain⟨e,f⟩:=EP.get d I (i+1) h2;refine⟨by simp[e],λj b J=>?_⟩;cases j with
  |zero=>grind
  |succ j=>
   grind
 |[],_::_,_,H|_::_,[],_,H=>RS
theorem TV.av{X:V}(i:Nat):∀(c:Arg)(v:Value),TV X i c v->bD X (c.avX i) v
 |.own _ _ _,_,h=>h
 |.ptr _,_,h=>h
 |.sv _,_,h|.kp _,_,h|.fn _ _,_,h=>h
theorem akH{I:Array Value}{S:Nat->Prop}(n:Nat)(H:args.length<=n)
 (h:EP ⟨w,w.heap.size,S,γ,gQ args⟩ 0 args I.toList)
 (F:∀o x,gQ args o=some x->cu ⟨w,w.heap.size,S,γ,gQ args⟩ o x/\∀b,blk (γ o)=some b->b<w.heap.size)
 (X:∀o x q y b,gQ args o=some x->gQ args q=some y->o≠q->blk (γ o)=some b->blk (γ q)≠some b):
 Rel w (ER (gQ args) γ) (adz args γ S) γ (KE n args) {tmps:=I++Array.replicate (n-I.size) undef,defers:=[]} w:=by
 obtain⟨s,d⟩:=EP.get _ _ 0 h;have Q:I.size=args.length:=ny;have le:V.le ⟨w,w.heap.size,S,γ,gQ args⟩ ⟨w,w.heap.size,(adz args γ S).S,γ,gQ args⟩:=
  ⟨aHv _,λb J=>⟨⟨J.1,λf=>.inl (J.2.1 f),J.2.2⟩,rfl⟩,λo A Z=>⟨⟨A,Z⟩,rfl⟩,λo e r l j Z=>⟨⟨l,j,Z⟩,rfl⟩⟩
 refine⟨λb J=>.inr J,rfl,?_,rfl,rfl,rfl,aHv _,λ_ _ _=>rfl,λt=>?_,λo x Z=>cu.mono le o x (λ_ _=>rfl) rfl (F o x Z).1,λo x b Z J=>⟨(F o x Z).2 b J,.inr ⟨o,x,Z,J⟩⟩,λo x p y b Z B i J=>X o x p y b Z B i J,λo v A k Z=>?_⟩
 · grind [KE]
 .simp only[KE];cases m:args[t]? with
  |none=>trivial
  |some v=>
   obtain⟨u,z,W⟩:=d t v m;have:(I++Array.replicate (n-I.size) undef).getD t undef=u:=by
    have f:t<args.length:=by
     grind
    have g:t<I.size:=lu;rw[aJW,aI4 g]
    grind
   grind [bD.mono,TV.av]
 .have hN':an2 args γ o=some v:=k
  grind [an2]
def AW(a b:Arg):Prop:=
 (∃e r l,a=.own e r l/\b=.own e r l)\/(∃A d,a=.ptr A/\b=.ptr d/\∀(X:V) vs,ai X A vs->ai X d vs)\/
 ((∀(X:V) v,bD X a.av v->bD X b.av v)/\(∀i,a.avX i=a.av)/\(∀i,b.avX i=b.av)/\(∀e r l,a≠ .own e r l)/\(∀A,a≠ .ptr A)/\(∀e r l,b≠ .own e r l)/\(∀A,b≠ .ptr A))
theorem iq.awE{s:iq}{x:Arg}{d:s.den}(h:s.read x=some d):AW x (s.val d):=by
 refine .inr (.inr ⟨λX v K=>?_,?_⟩)
 .have hx:qH X x v:=by
   cases x with
   |sv _|kp _|fn _ _=>exact K
   |own _ _ _|ptr _=>cases s<;>simp[iq.read]at h
  grind [qH.av,iq.weak]
 .cases x<;>cases s<;>first
   |(simp[iq.read]at h;done)
   |exact⟨λ_=>rfl,λ_=>rfl,(λ_ _ _ e=>Q7),(λ_ e=>Q7),(λ_ _ _ e=>Q7),(λ_ e=>Q7)⟩
theorem jB.awE{s:jB}{x:Arg}{d:s.den}(h:s.read x=some d):AW x (s.val d):=by
 unfold jB.read at h;split at h
 .exact iq.awE h
 .next e r f s l=>
  split at h
  .next hb=>
   split at h
   .next hs=>cases h;have g:=aHA hb;subst g;have b:=au.eq_of_beq s r hs;subst b;exact .inl ⟨e,s,l,rfl,rfl⟩
   .cases h
  .cases h
 .next l cs=>exact .inr (.inl ⟨cs,_,rfl,rfl,λX I L=>KC _ _ _ _ h L⟩)
 .cases h
theorem Si:∀{l:List jB}{z:List Arg}{d:nI l},oL l z=some d->(AP l d).length=z.length/\∀(i:Nat)(a:Arg),z[i]? =some a->∃e,(AP l d)[i]? =some e/\AW a e
 |[],[],_,_=>⟨rfl,λi a h=>XD⟩
 |s::r,x::z,d,h=>by
  rw[oL]at h;split at h
  .next a b h1 h2=>
   cases h;obtain⟨g,j⟩:=Si h2;refine⟨by simp[AP,g],λi c L=>?_⟩;cases i with
   |zero=>simp at L;subst L;exact⟨_,rfl,jB.awE h1⟩
   |succ i=>obtain⟨f,k,m⟩:=j i c (by simpa using L);exact⟨f,by simpa[AP]using k,m⟩
  .cases h
 |[],_::_,_,h=>akk
 |_::_,[],_,h=>akk
theorem apW{o:Nat}(h:∀b,args[o / 64]? =some b->(∀e r l,b≠ .own e r l)/\∀A,b≠ .ptr A):gQ args o=none:=by
 unfold gQ;split
 · grind
 · grind
 .rfl
theorem abL{j:List jB}{x:nI j}(h:oL j args=some x)(n:Nat):Covers (KE n (AP j x)) (KE n args):=by
 obtain⟨Q,f⟩:=Si h;refine⟨rfl,λt X v K=>?_,λo=>?_⟩
 .simp only[KE]at K ⊢;cases g:args[t]? with
  |none=>
   grind
  |some b=>
   obtain⟨q,d,k⟩:=f t b g;rw[g]at K;rw[d];rcases k with⟨e,r,l,rfl,rfl⟩|⟨A,i,rfl,rfl,_⟩|⟨k,u,z,_⟩
   .exact K
   .exact K
   grind
 .show(gQ (AP j x) o=none/\gQ args o=none)\/∃y m,gQ args o=some y/\gQ (AP j x) o=some m/\Pm y m;cases g:args[o / 64]? with
  |none=>
   grind [apW]
  |some b=>
   obtain⟨q,d,k⟩:=f _ b g;rcases k with⟨e,r,l,rfl,rfl⟩|⟨A,i,rfl,rfl,L⟩|⟨_,_,_,B,C,D,E⟩
   .unfold gQ;rw[g,d];cases s:Nat.beq (o%64) 49 with
    |true=>exact .inr ⟨_,_,rfl,rfl,.inr ⟨e,r,l,false,false,rfl,rfl,id⟩⟩
    |false=>grind
   .unfold gQ;rw[g,d];cases s:Nat.beq (o%64) 48 with
    |true=>exact .inr ⟨_,_,rfl,rfl,.inl ⟨A,i,rfl,rfl,L⟩⟩
    |false=>grind
   grind [apW]
theorem ahk(a b:List (Nat×aI))(p:Nat):look (a++b) p=match look b p with|some y=>some y|none=>look a p:=by
 induction a with
 |nil=>grind [look]
 |cons x a ih=>
  grind [look]
theorem DK:∀(A:List gU)(k p:Nat)(x:aI),look (nR k A).2 p=some x↔∃i e r l b,p=k+i/\A[i]? =some (.own e r l b)/\x=.arr e r l b
 |[],k,p,x=>by simp[nR,look]
 |c::A,k,p,x=>by
  rw[nR,ahk];have f:=DK A (k+1) p x;constructor
  .intro h;split at h
   .next y hy=>cases h;obtain⟨i,e,r,l,b,E,O,U⟩:=(DK A (k+1) p x).1 hy;exact⟨i+1,e,r,l,b,lu,abV,U⟩
   .next H=>
    cases c with
    |plain c=>simp[gU.take,look]at h
    |own e r l b=>
     simp only[gU.take,look]at h;split at h
     .next hb=>cases h;exact⟨0,e,r,l,b,XH,rfl,rfl⟩
     .cases h
  .rintro⟨i,e,r,l,b,E,O,rfl⟩;cases i with
   |succ i=>
    grind
   |zero=>
    have H:look (nR (k+1) A).2 p=none:=by
     cases Q:look (nR (k+1) A).2 p with
     |none=>rfl
     |some y=>obtain⟨i,_,_,_,_,d,_⟩:=(DK A (k+1) p y).1 Q;omega
    simp_all [gU.take,look]
def Sj(rs:List (Bool×List gU)):List gU:=rs.flatMap (·.2)
theorem auI(k:Nat)(x:Bool×List gU):(zM k x).2=(nR k x.2).2:=by
 unfold zM;split
 · grind
 · grind
 grind
theorem FD:∀(rs:List (Bool×List gU))(k p:Nat)(x:aI),look (jJ k rs).2 p=some x↔∃i e r l b,p=k+i/\(Sj rs)[i]? =some (.own e r l b)/\x=.arr e r l b
 |[],k,p,x=>by simp[jJ,look,Sj]
 |y::rs,k,p,x=>by
  rw[jJ,ahk,auI];have d:Sj (y::rs)=y.2++Sj rs:=rfl;constructor
  .intro h;split at h
   .next z hz=>
    cases h;obtain⟨i,e,r,l,b,E,O,U⟩:=(FD rs (k+y.2.length) p x).1 hz;refine⟨y.2.length+i,e,r,l,b,lu,?_,U⟩
    grind
   .obtain⟨i,e,r,l,b,E,O,U⟩:=(DK y.2 k p x).1 h;refine⟨i,e,r,l,b,E,?_,U⟩
    grind
  .rintro⟨i,e,r,l,b,E,O,rfl⟩;rw[d]at O;rcases aHU i y.2.length with g|f
   .rw[aIz g]at O;have H:look (jJ (k+y.2.length) rs).2 p=none:=by
     cases Q:look (jJ (k+y.2.length) rs).2 p with
     |none=>rfl
     |some z=>obtain⟨j,_,_,_,_,m,_⟩:=(FD rs (k+y.2.length) p z).1 Q;omega
    rw[H];exact(DK y.2 k p _).2 ⟨i,e,r,l,b,E,O,rfl⟩
   .rw[aIJ f]at O;have:=(FD rs (k+y.2.length) p (.arr e r l b)).2 ⟨i-y.2.length,e,r,l,b,lu,O,rfl⟩;rw[this]
end Go.Fw
namespace Go.Fw
open Go
set_option linter.unusedVariables false
variable {P:Program} {w0:World} {M:Nat->Prop} {T:Ext} {γ γ':Nat->Value} {st:St} {a:Act} {w w':World} {Θ:jY} {Γ:kY}
def RF(Y:V)(c:gU)(v:Value)(n:Option Nat):Prop:=
 match c with
 |.plain x=>aX Y x v/\x.refs=[]
 |.own e r l fr=>0<r.len/\((∃o g,n=some o/\Y.ah o=some (.arr e r l g)/\Uc fr g=true/\v=Y.γ o/\v.oneCell'=true)\/(l=[]/\v=.slice none 0 0))
def KF(Y:V):List gU->List Value->List (Option Nat)->Prop
 |[],[],[]=>True
 |c::cs,v::vs,n::ns=>RF Y c v n/\KF Y cs vs ns
 |_,_,_=>False
theorem KF.append{Y:V}:∀(A:List gU)(I:List Value)(e:List (Option Nat))(b:List gU)(s:List Value)(d:List (Option Nat)),KF Y A I e->KF Y b s d->KF Y (A++b) (I++s) (e++d)
 |[],[],[],_,_,_,_,h=>h
 |_::A,_::I,_::e,b,s,d,⟨h1,h2⟩,h=>⟨h1,KF.append A I e b s d h2 h⟩
theorem KF.length{Y:V}:∀(A:List gU)(I:List Value)(b:List (Option Nat)),KF Y A I b->A.length=I.length
 |[],[],[],_=>rfl
 |_::A,_::I,_::b,⟨_,h2⟩=>by simp[KF.length A I b h2]
theorem KF.get{Y:V}:∀(A:List gU)(I:List Value)(b:List (Option Nat))(i:Nat)(c:gU),KF Y A I b->A[i]? =some c->∃v n,I[i]? =some v/\b[i]? =some n/\RF Y c v n
 |[],[],[],i,c,_,h=>XD
 |x::A,v::I,n::b,0,c,⟨h1,_⟩,h=>ny
 |x::A,v::I,n::b,i+1,c,⟨_,h2⟩,h=>by obtain⟨u,m,d,e,f⟩:=KF.get A I b i c h2 y7;exact⟨u,m,ald,by simpa using e,f⟩
theorem iy.apX(c:iy)(x:Cell)(d:c.den)(h:c.read x=some d)(Z:x.refs=[]):(c.cell d).refs=[]:=by cases c<;>cases x<;>first|rfl|(simp[iy.read]at h;done)|(cases Z)
theorem RC.avk{Y:V}(i:Y.ah=st.ah)(b:∀o e r l g,st.ah o=some (.arr e r l g)->0<r.len):∀(c:RC)(x:Cell)(d:c.den)(v:Value),c.read st x=some d->aX Y x v->RF Y (c.awD d) v (c.name x):=by
 intro c x d v W K;cases c with
 |c s=>
  rw[RC.read]at W;split at W
  .next hx=>exact⟨iy.weak s x d v W K,iy.apX s x d W hx⟩
  .cases W
 |own e r fr=>
  cases x with
  |ref o=>
   simp only[RC.read]at W;split at W
   .next f s l g ho=>
    split at W
    .next hb=>
     split at W
     .next hs=>cases W;rw[aHy]at hb;have j:=aHA hb.1;subst j;have h:=au.eq_of_beq s r hs;subst h;exact⟨b _ _ _ _ _ ho,.inl ⟨o,g,rfl,by rw[i];exact ho,hb.2,K.2.1,K.2.2⟩⟩
     .cases W
    .cases W
   .cases W
  |nil=>
   simp only[RC.read]at W;split at W
   .next hb=>cases W;exact⟨aHR Nat.zero_lt_one XH,.inr ⟨rfl,K⟩⟩
   .cases W
  |_=>simp[RC.read]at W
theorem akI{Y:V}(i:Y.ah=st.ah)(f:∀o e r l g,st.ah o=some (.arr e r l g)->0<r.len):∀(l:List RC)(z:List Cell)(d:akF l)(I:List Value),Yi st l z=some d->ai Y z I->KF Y (an0 l d) I (an1 l z)
 |[],[],_,[],_,_=>trivial
 |c::r,x::z,d,v::I,h,⟨h1,h2⟩=>by
  rw[Yi]at h;split at h
  .next a b g1 g2=>cases h;exact⟨RC.avk i f c x a v g1 h1,akI i f r z b I g2 h2⟩
  .cases h
 |[],_::_,_,_,h,_=>by simp[Yi]at h
 |_::_,[],_,_,h,_=>by simp[Yi]at h
theorem oK.asx{Y:V}(f:Y.ah=st.ah)(b:∀o e r l g,st.ah o=some (.arr e r l g)->0<r.len):∀(s:oK)(x:SV)(d:s.den)(v:Value),s.read st x=some d->eP Y x v->KF Y (s.out d).2 v.cells.toList (s.names x)
 |.one c,.one x,d,v,h,hv=>by
  rw[NG v (aX.one x v hv)];exact⟨RC.avk f b c x d v h hv,trivial⟩
 |.agg l,.agg xs,d,v,h,⟨vs,hv,hc⟩=>by
  rw[hv];exact akI f b l xs d _ h hc
 |.one _,.agg _,_,_,h,_|.agg _,.one _,_,_,h,_=>by simp[oK.read]at h
theorem akJ{Y:V}(i:Y.ah=st.ah)(f:∀o e r l g,st.ah o=some (.arr e r l g)->0<r.len):∀(l:List oK)(z:List SV)(d:wJ l)(I:List Value),Ii st l z=some d->eX Y z I->
 KF Y (Sj (ku l d)) (I.flatMap λv=>v.cells.toList) (F6 l z)
 |[],[],_,[],_,_=>trivial
 |s::r,x::z,d,v::I,h,⟨h1,h2⟩=>by
  rw[Ii]at h;split at h
  .next a b g1 g2=>cases h;exact KF.append _ _ _ _ _ _ (oK.asx i f s x a v g1 h1) (akJ i f r z b I g2 h2)
  .cases h
 |[],_::_,_,_,h,_=>by simp[Ii]at h
 |_::_,[],_,_,h,_=>by simp[Ii]at h
def Go1(Z:V)(k:Nat)(c:gU)(v:Value):Prop:=aX Z (c.take k).1 v
def OX(Z:V):Nat->List gU->List Value->Prop
 |_,[],[]=>True
 |k,c::cs,v::vs=>Go1 Z k c v/\OX Z (k+1) cs vs
 |_,_,_=>False
theorem OX.of{Z:V}:∀(A:List gU)(I:List Value)(k:Nat),A.length=I.length->(∀i c v,A[i]? =some c->I[i]? =some v->Go1 Z (k+i) c v)->OX Z k A I
 |[],[],_,_,_=>trivial
 |c::A,v::I,k,hl,h=>⟨h 0 c v rfl rfl,OX.of A I (k+1) (by simpa using hl) λi b d E O=>by
   have:=h (i+1) b d (by simpa using E) abV
   grind⟩
theorem OX.split{Z:V}:∀(A:List gU)(I:List Value)(b:List gU)(s:List Value)(k:Nat),A.length=I.length->OX Z k (A++b) (I++s)->OX Z k A I/\OX Z (k+A.length) b s
 |[],[],_,_,_,_,h=>⟨trivial,h⟩
 |c::A,v::I,b,s,k,hl,⟨h1,h2⟩=>by obtain⟨d,e⟩:=OX.split A I b s (k+1) (by simpa using hl) h2;exact⟨⟨h1,d⟩,ny⟩
theorem OX.cells{Z:V}:∀(A:List gU)(I:List Value)(k:Nat),OX Z k A I->ai Z (nR k A).1 I
 |[],[],_,_=>trivial
 |c::A,v::I,k,⟨h1,h2⟩=>⟨h1,OX.cells A I (k+1) h2⟩
theorem oK.go{Y Z:V}:∀(s:oK)(x:SV)(d:s.den)(v:Value)(k:Nat),s.read st x=some d->eP Y x v->OX Z k (s.out d).2 v.cells.toList->eP Z (zM k (s.out d)).1 v
 |.one c,.one x,d,v,k,h,hv,hg=>by
  rw[NG v (aX.one x v hv)]at hg;exact hg.1
 |.agg l,.agg xs,d,v,k,h,⟨vs,hv,hc⟩,hg=>by
  rw[hv]at hg ⊢;exact⟨vs,rfl,OX.cells _ _ _ hg⟩
 |.one _,.agg _,_,_,_,h,_,_|.agg _,.one _,_,_,_,h,_,_=>by simp[oK.read]at h
theorem apY{Y Z:V}(i:Y.ah=st.ah)(f:∀o e r l g,st.ah o=some (.arr e r l g)->0<r.len):∀(l:List oK)(z:List SV)(d:wJ l)(I:List Value)(k:Nat),Ii st l z=some d->eX Y z I->
 OX Z k (Sj (ku l d)) (I.flatMap λv=>v.cells.toList)->eX Z (jJ k (ku l d)).1 I
 |[],[],_,[],_,_,_,_=>trivial
 |s::r,x::z,d,v::I,k,h,⟨h1,h2⟩,hg=>by
  rw[Ii]at h;split at h
  .next a b g1 g2=>cases h;have Q:=KF.length _ _ _ (oK.asx i f s x a v g1 h1);obtain⟨j,m⟩:=OX.split _ _ _ _ k Q hg;exact⟨oK.go s x a v k g1 h1 j,apY i f r z b I _ g2 h2 m⟩
  .cases h
 |[],_::_,_,_,_,h,_,_=>by simp[Ii]at h
 |_::_,[],_,_,_,h,_,_=>by simp[Ii]at h
theorem ahl:∀(l:List iy)(z:List Cell)(d:oD l),lJ l z=some d->z.flatMap Cell.refs=[]->(jA l d).flatMap Cell.refs=[]
 |[],[],_,_,_=>rfl
 |c::r,x::z,d,h,hx=>by
  rw[lJ]at h;split at h
  .next a b g1 g2=>cases h;rw[aIr,aIc]at hx;show(c.cell a::jA r b).flatMap Cell.refs=[];rw[aIr,iy.apX c x a g1 hx.1,ahl r z b g2 hx.2,aH1]
  .cases h
 |[],_::_,_,h,_=>by simp[lJ]at h
 |_::_,[],_,h,_=>by simp[lJ]at h
theorem Sl:∀(f:List jB)(i:Nat)(b:vg f),QB st i f=some b->∀(j:Nat)(e:Eff),(mX f b)[j]? =some e->
 e=.lose\/∃l A d,f[j]? =some (.ptr l)/\e=.var A/\st.ah ((i+j)*64+48)=some (.var d)/\d.flatMap Cell.refs=[]/\A.flatMap Cell.refs=[]/\∀(X:V) I,ai X d I->ai X A I
 |[],_,_,_,j,e,he=>by grind [mX]
 |.ptr l::r,i,b,h,j,e,he=>by
  rw[QB]at h;split at h
  .next A b' hx hb=>
   split at h
   .next a hr ha=>
    cases h;cases j with
    |zero=>
     simp[mX]at he;subst he;exact .inr ⟨l,_,A,rfl,rfl,by simpa using hx,hr,ahl _ _ _ ha hr,λX I L=>KC _ _ _ _ ha L⟩
    |succ j=>
     rcases Sl r (i+1) b' hb j e (by simpa[mX]using he)with h|⟨l,cs',d,h1,h2,h3,h4⟩
     .exact .inl h
     .exact .inr ⟨l,cs',d,by simpa using h1,h2,by rw[show i+(j+1)=i+1+j from lu];exact h3,h4⟩
   .cases h
  .cases h
 |.p _::r,i,b,h,j,e,he|.own _ _::r,i,b,h,j,e,he=>by
  rw[QB]at h;cases j with
  |zero=>simp[mX]at he;exact .inl he.symm
  |succ j=>
   rcases Sl r (i+1) b h j e (by simpa[mX]using he)with h|⟨l,cs',d,h1,h2,h3,h4⟩
   .exact .inl h
   .exact .inr ⟨l,cs',d,by simpa using h1,h2,by rw[show i+(j+1)=i+1+j from lu];exact h3,h4⟩
theorem akK:∀{e:List jB}{z:List Arg}{d:nI e},oL e z=some d->∀(j:Nat)(l:List iy),e[j]? =some (.ptr l)->∃A,z[j]? =some (.ptr A)
 |[],[],_,_,j,l,h=>XD
 |s::r,x::z,d,h,j,l,hj=>by
  rw[oL]at h;split at h
  .next a b h1 h2=>
   cases j with
   |zero=>
    simp at hj;subst hj;cases x with
    |ptr A=>grind
    |_=>simp[jB.read]at h1
   |succ j=>obtain⟨A,L⟩:=akK h2 j l (by simpa using hj);exact⟨A,by simpa using L⟩
  .cases h
 |[],_::_,_,h,_,_,_=>ny
 |_::_,[],_,h,_,_,_=>akk
variable {sh:List jB}
theorem axT{b:vg sh}(J:QB st 0 sh=some b){q:Nat}{y:aI}(h:rM (mX sh b) q=some y):
 q%64=48/\∃l A d,sh[q / 64]? =some (.ptr l)/\y=.var A/\st.ah q=some (.var d)/\d.flatMap Cell.refs=[]/\A.flatMap Cell.refs=[]/\∀(X:V) vs,ai X d vs->ai X A vs:=by
 unfold rM at h;split at h
 · grind [Sl]
 · grind [Nat.eq_of_beq_eq_true,Sl]
 .cases h
def jB.wu:(s:jB)->s.den->Prop
 |.p s,x=>s.wu x
 |.own _ r,(l:List r.den)=>∀x∈l,r.wu x
 |.ptr l,x=>afC l x
def Sm:(l:List jB)->nI l->Prop
 |[],_=>True
 |s::r,x=>s.wu x.1/\Sm r x.2
theorem iq.afD{X:V}(s:iq)(x:Arg)(d:s.den)(v:Value)(h:s.read x=some d)(W:qH X x v):s.wu d:=
 (Ih (X:=X) [s] (d,()) [v] ⟨iq.weak s x d v h W,trivial⟩).1
theorem adA{X:V}{args:List Arg}(F:∀o x,gQ args o=some x->cu X o x):∀(sh:List jB)(z:List Arg)(d:nI sh)(I:List Value)(i:Nat),(∀j a,z[j]? =some a->args[i+j]? =some a)->
 oL sh z=some d->EP X i z I->Sm sh d
 |[],[],_,_,_,_,_,_=>trivial
 |s::r,x::z,d,v::I,i,hj,h,⟨hv,hvs⟩=>by
  rw[oL]at h;split at h
  .next a b h1 h2=>
   cases h;refine⟨?_,adA F r z b I (i+1) (λj c L=>by have:=hj (j+1) c (by simpa using L);grind) h2 hvs⟩;have Z:args[i]? =some x:=hj 0 x rfl;cases s with
   |p s=>
    have g:s.read x=some a:=by grind [jB.read]
    refine iq.afD (X:=X) s x a v g ?_;cases x with
    |own _ _ _|ptr _=>cases s<;>simp[iq.read]at g
    |_=>exact hv
   |own e r'=>
    cases x with
    |own f s' l=>
     have g:(match Nat.beq e f with|true=>if h:s'.beq r'=true then some (xJ h l)else none|false=>none)=some a:=h1;split at g
     .split at g
      .next hb hs=>
       cases g;have n:=au.eq_of_beq s' r' hs;subst n;have m:gQ args (i*64+49)=some (.arr f s' l false):=by
        unfold gQ;rw[show(i*64+49) / 64=i from lu,Z]
        simp_all
       obtain⟨A,_,_,_,k⟩:=F _ _ m;intro y B;have q:y∈l:=B;obtain⟨j,t,u⟩:=aJr.1 q;exact aY.wu s' _ _ (k j y ny)
      .cases g
     .cases g
    |_=>simp[jB.read]at h1
   |ptr l=>
    cases x with
    |ptr cs=>
     have g:lJ l cs=some a:=h1;have m:gQ args (i*64+48)=some (.var cs):=by
      unfold gQ;rw[show(i*64+48) / 64=i from lu,Z]
      simp_all
     obtain⟨_,arr,_,_,_,L⟩:=F _ _ m;exact Qz l a _ (KC _ _ _ _ g L)
    |_=>simp[jB.read]at h1
  .cases h
 |[],_::_,_,_,_,_,h,_=>akk
 |_::_,[],_,_,_,_,h,_=>akk
theorem Q9:∀(l:List jB)(d:nI l),(AP l d).length=l.length
 |[],_=>rfl
 |_::r,d=>by simp[AP,Q9 r d.2]
theorem Out.azo(rs:List (Bool×List gU))(k:Nat):((⟨rs,none⟩:Out).take k).2=(jJ k rs).2:=by
 grind [Out.take]
theorem Out.azp(rs:List (Bool×List gU))(k:Nat):((⟨rs,none⟩:Out).take k).1=(match (jJ k rs).1 with|[v]=>AV.sv v|vs=>.pG vs):=by
 grind [Out.take]
theorem aEZ{args:List Arg}{S:Nat->Prop}{dF:List oK}{x:nI sh}(hx:oL sh args=some x){d:wJ dF}{b:vg sh}{k:Nat}{I:List SV}{s:List Value}
 (hR:Rel w (ER (gQ args) γ) (adz args γ S) γ' st a w') (hrs:eX (ak w (adz args γ S) γ' st w') I s) (hnd:DF (F6 dF I)=true) (hrd:Ii st dF I=some d) (hbk:QB st 0 sh=some b)
 (hap:∀o x,look ((⟨ku dF d,none⟩:Out).take k).2 o=some x->rM (mX sh b) o=none):
 ∃B,bD ⟨w',w.heap.size,wo S args (mX sh b) γ,B,look ((⟨ku dF d,none⟩:Out).take k).2⟩ ((⟨ku dF d,none⟩:Out).take k).1 (if h:s.toArray.size=1 then s.toArray[0]else .tuple s.toArray)/\
  (∀o x,look ((⟨ku dF d,none⟩:Out).take k).2 o=some x->cu ⟨w',w.heap.size,wo S args (mX sh b) γ,B,look ((⟨ku dF d,none⟩:Out).take k).2⟩ o x/\
    ∀m,blk (B o)=some m->m<w'.heap.size/\(w.heap.size<=m\/ER (gQ args) γ m)/\∀q y,rM (mX sh b) q=some y->blk (γ q)≠some m)/\
  (∀o x q y m,look ((⟨ku dF d,none⟩:Out).take k).2 o=some x->look ((⟨ku dF d,none⟩:Out).take k).2 q=some y->o≠q->blk (B o)=some m->blk (B q)≠some m)/\
  (∀o x,rM (mX sh b) o=some x->B o=γ o/\cu ⟨w',w.heap.size,wo S args (mX sh b) γ,B,look ((⟨ku dF d,none⟩:Out).take k).2⟩ o x):=by
 rw[Out.azo]at hap ⊢;rw[Out.azp]
 skip
 let Y:V:=ak w (adz args γ S) γ' st w'
 let fv:List Value:=s.flatMap λv=>v.cells.toList
 let aV:=mX sh b
 let B:Nat->Value:=λp=>match rM aV p with|some _=>γ p|none=>fv.getD (p-k) undef
 let Z:V:=⟨w',w.heap.size,wo S args aV γ,B,look (jJ k (ku dF d)).2⟩
 have hpos:∀o e r l g,st.ah o=some (.arr e r l g)->0<r.len:=λo e r l g F=>by obtain⟨_,_,h,_⟩:=hR.ah o _ F;exact h
 have hF:KF Y (Sj (ku dF d)) fv (F6 dF I):=akJ (st:=st) rfl hpos dF I d s hrd hrs;have hbq:∀q y,rM aV q=some y->γ' q=γ q/\∃A N,y=.var A/\st.ah q=some (.var N)/\N.flatMap Cell.refs=[]/\A.flatMap Cell.refs=[]/\∀(X:V) I,ai X N I->ai X A I:=by
  intro q y hq;obtain⟨hm,l,A,N,E,O,U,h4,h5,h6⟩:=axT hbk hq;refine⟨?_,A,N,O,U,h4,h5,h6⟩;obtain⟨ci,hci⟩:=akK hx _ l E;have F:gQ args q=some (.var ci):=by
   simp_all [gQ]
  have hN:(adz args γ S).N q=some (γ q):=by
   show an2 args γ q=_
   grind [an2]
  exact hR.pin q _ _ hN U
 have hG:∀p X,look (jJ k (ku dF d)).2 p=some X->∃i e r l Q,p=k+i/\(Sj (ku dF d))[i]? =some (.own e r l Q)/\X=.arr e r l Q/\0<r.len/\
  ((∃o g,(F6 dF I)[i]? =some (some o)/\st.ah o=some (.arr e r l g)/\Uc Q g=true/\B p=γ' o/\(B p).oneCell'=true)\/(l=[]/\B p=.slice none 0 0)):=by
  intro p X C;obtain⟨i,e,r,l,Q,E,O,U⟩:=(FD _ k p X).1 C;obtain⟨v,n,g1,g2,W,K⟩:=KF.get _ _ _ i _ hF O
  grind
 have afA:∀m,Y.foot m->Z.foot m:=by
  intro m z;refine⟨z.1,λhlt=>⟨z.2.1 hlt,λq y hq=>?_⟩,λp X C=>?_⟩
  .obtain⟨f,A,N,_,U,_⟩:=hbq q y hq;rw[← f];exact z.2.2 q _ U
  .obtain⟨i,e,r,l,Q,_,_,_,_,L⟩:=hG p X C;show blk (B p)≠some m;rcases L with⟨o,g,_,F,_,f,_⟩|⟨_,f⟩
   .rw[f];exact z.2.2 o _ F
   .rw[f];intro h;cases h
 have axU:∀Q m,Y.dA Q m->Z.dA Q m:=λQ m h=>⟨afA m h.1,h.2⟩;have hgo:OX Z k (Sj (ku dF d)) fv:=by
  refine OX.of _ _ _ (KF.length _ _ _ hF) λi c v L K=>?_;obtain⟨v',n,g1,g2,g3⟩:=KF.get _ _ _ i c hF L;rw[K]at g1;cases g1;cases c with
  |plain x=>
   exact(LY (Y:=Y) (Z:=Z) rfl axU [x] [v] (by simpa using g3.2) ⟨g3.1,trivial⟩).1
  |own e r l Q=>
   have C:look (jJ k (ku dF d)).2 (k+i)=some (.arr e r l Q):=(FD _ k _ _).2 ⟨i,e,r,l,Q,rfl,L,rfl⟩;have f:B (k+i)=v:=by
    grind
   refine⟨⟨e,r,l,Q,C⟩,f.symm,?_⟩;rcases g3.2 with⟨_,_,_,_,_,_,h⟩|⟨_,h⟩
   .exact h
   .rw[h];rfl
 have hsv:eX Z (jJ k (ku dF d)).1 s:=apY (st:=st) (Y:=Y) rfl hpos dF I d s k hrd hrs hgo;refine⟨B,?_,λp X C=>?_,λp X q X' m C hq hne R hb2=>?_,λq y hq=>?_⟩
 .have hl:=eX.length _ _ hsv
  match hm:(jJ k (ku dF d)).1,s,hsv,hl with
  |[v],[u],hk,_=>exact hk.1
  |[],[],hk,_=>exact⟨_,vk,hk⟩
  |v::v2::r,u::u2::s,hk,hl=>exact⟨_,vk,hk⟩
  |[],_::_,hk,h4|_::_,[],hk,h4|[_],_::_::_,hk,h4|_::_::_,[_],hk,h4=>simp at h4
 .obtain⟨i,e,r,l,Q,_,_,rfl,W,L⟩:=hG p X C;rcases L with⟨o,g,_,F,J,f,_⟩|⟨rfl,f⟩
  .have hO:cu Y o (.arr e r l g):=hR.ah o _ F;have hold:∀m,blk (γ' o)=some m->Q=true->w.heap.size<=m:=by
    intro m z hfr;subst hfr;have hg:g=true:=J;subst hg;obtain⟨_,_,_,H,_⟩:=hO
    grind
   refine⟨cu.anY (Y:=Y) (Z:=Z) hO f rfl (λm z=>⟨afA m z.1,λhfr=>z.2 ?_⟩) hold,λm z=>?_⟩
   .subst hfr;exact J
   .rw[f]at z;obtain⟨E,O⟩:=hR.lt o _ m F z;refine⟨E,O,λq y hq=>?_⟩;obtain⟨hγq,A,N,_,U,_⟩:=hbq q y hq;rw[← hγq];refine hR.sep o _ q _ m F U ?_ z
    grind
  .refine⟨⟨[],⟨vk,.inl ⟨f,rfl⟩⟩,W,(λm z=>by grind [blk]),λi x D=>by simp at D⟩,λm z=>by rw[f]at z;cases z⟩
 .obtain⟨i,e,r,l,Q,D,_,_,_,L⟩:=hG p X C;obtain⟨j,e',r',l',fr',hj,_,_,_,hc'⟩:=hG q X' hq;rcases L with⟨o,g,H,F,_,f,_⟩|⟨_,f⟩
  .rcases hc' with⟨o',g',hn',ho',_,hγ',_⟩|⟨_,hγ'⟩
   .rw[f]at R;rw[hγ']at hb2;have:o≠o':=by
     grind [Xf]
    exact hR.sep o _ o' _ m F ho' this R hb2
   .rw[hγ']at hb2;cases hb2
  .rw[f]at R;cases R
 .obtain⟨f,A,N,rfl,U,h4,h5,h6⟩:=hbq q y hq;have Ic:B q=γ q:=by
   grind
  refine⟨Ic,?_⟩;obtain⟨m,arr,t,k1,k2,k3⟩:=hR.ah q _ U;refine⟨m,arr,t,?_,k2,LY (Y:=Y) (Z:=Z) rfl axU _ _ h5 (h6 _ _ k3)⟩
  grind
theorem avl{G:lT}(hE:EnvB P G Θ Γ)(l:P.follows .mixedOrders=true){f:FuncId}{fn:Func}{c:Code}(hf:P.funcs[f]? =some fn)(J:fn.body=some c)(H:Hints)
  {dF:List oK} {F:nI sh->Prop×(wJ dF×vg sh->Prop)} (hn:Nat.ble sh.length fn.ntmps=true) (hne:∀x,(F x).1->∃t,(F x).2 t)
 (D:∀x,Sm sh x->(F x).1->NS Θ Γ H c (arC Θ fn.results.toList sh dF (F x).2) (KE fn.ntmps (AP sh x))):rP P G f (JQ sh dF F):=by
 intro args p ρ n C;unfold JQ at n;split at n
 case h_2=>cases n
 next x Z=>
 cases n;refine⟨hne x C,λk S γ I w hG A ES W hap=>?_⟩;have Y:=(Si Z).1;rw[Q9]at Y;have hn':args.length<=fn.ntmps:=XH;have N:Sm sh x:=adA (λo X Q=>(ES o X Q).1) sh args x I.toList 0 (λj a h=>ny) Z A;have hR0:=akH (S:=S) fn.ntmps hn' A (λo X Q=>⟨(ES o X Q).1,λb J=>((ES o X Q).2 b J).1⟩) W;have hR1:=hR0.covers (abL Z fn.ntmps);refine calls_of_wp hf J (ady ⟨hE,hG,λb J=>?_⟩ l H c _ _ _ _ _ _ hR1 (D x N C) ?_)
 .obtain⟨o,X,Q,J⟩:=J
  grind
 intro e s γ' a' w' g B;have R:∃(u:List Value)(t:wJ dF×vg sh),(fn.results.mapM (Qy a'.tmps)).run P w'=.ok u.toArray w'/\(F x).2 t/\∃i,
  bD ⟨w',w.heap.size,wo S args (mX sh t.2) γ,i,look ((⟨ku dF t.1,none⟩:Out).take k).2⟩ ((⟨ku dF t.1,none⟩:Out).take k).1 (if h:u.toArray.size=1 then u.toArray[0]else .tuple u.toArray)/\
  (∀o K,look ((⟨ku dF t.1,none⟩:Out).take k).2 o=some K->cu ⟨w',w.heap.size,wo S args (mX sh t.2) γ,i,look ((⟨ku dF t.1,none⟩:Out).take k).2⟩ o K/\
    ∀b,blk (i o)=some b->b<w'.heap.size/\(w.heap.size<=b\/ER (gQ args) γ b)/\∀q y,rM (mX sh t.2) q=some y->blk (γ q)≠some b)/\
  (∀o K q y b,look ((⟨ku dF t.1,none⟩:Out).take k).2 o=some K->look ((⟨ku dF t.1,none⟩:Out).take k).2 q=some y->o≠q->blk (i o)=some b->blk (i q)≠some b)/\
  (∀o K,rM (mX sh t.2) o=some K->i o=γ o/\cu ⟨w',w.heap.size,wo S args (mX sh t.2) γ,i,look ((⟨ku dF t.1,none⟩:Out).take k).2⟩ o K):=by
  have he':(e=.normal\/e=.ret)/\arC Θ fn.results.toList sh dF (F x).2 .ret s:=by
   cases e with
   |normal=>exact⟨.inl rfl,g⟩
   |ret=>grind
   |_=>exact g.elim
  have m:=he'.2;simp only[arC]at m;split at m
  .next svs aG1=>
   split at m
   .next vs' hvs'=>
    split at m
    .next d b hnd hd hb'=>
     have L:=B.freeze (akG s (F6 dF svs));obtain⟨u,hus,hrs⟩:=Ue hE.types L _ _ hvs';refine⟨u,(d,b),?_,m,aEZ Z L hrs hnd hd hb' (hap (d,b) m)⟩
     simp_all [aJ3]
    grind
   grind
  grind
 obtain⟨u,t,hus,r,i,E,O,U,h4⟩:=R;have z:bodyPost P fn (λe w'=>∃t,(F x).2 t/\VO S args γ w k ⟨ku dF t.1,none⟩ (mX sh t.2) e w') .ret a' w':=by
  refine⟨B.defers,if h:u.toArray.size=1 then u.toArray[0]else .tuple u.toArray,?_,t,r,_,i,rfl,B.os,B.tape,B.output,B.grow,B.kept,E,O,U,h4⟩;rw[ZI,aIb,hus]
  simp_all
 cases e with
 |normal=>exact z
 |ret=>exact z
 |_=>exact g.elim
def arD(b:List ResultVar)(l:List iy)(K:oD l->Prop)(e:Exit)(st:St):Prop:=
 match e with
 |.normal|.ret=>match b with
  |[.tmp t]=>match st.tmps t with
   |.eG o off=>match Nat.beq off 0,(st.freeze (VU st)).ah o with
    |true,some (.var cs)=>match cs.flatMap Cell.refs,lJ l cs with
     |[],some d=>K d
     |_,_=>False
    |_,_=>False
   |_=>False
  |_=>False
 |_=>False
def loses(sh:List jB):List Eff:=sh.map λ_=>.lose
def azq(sh:List jB)(l:List iy)(F:nI sh->Prop×(oD l->Prop)):TA:=λargs=>
 match oL sh args with
 |some x=>some ((F x).1,⟨oD l,(F x).2,λt=>⟨[],some (jA l t)⟩,λ_=>loses sh⟩)
 |none=>none
theorem ZJ(sh:List jB)(q:Nat):rM (loses sh) q=none:=by
 grind [rM,loses]
theorem Yj:∀(l:List iy)(A:List Cell)(d:oD l),lJ l A=some d->A.flatMap Cell.refs=[]->(jA l d).flatMap Cell.refs=[]
 |[],[],_,_,_=>rfl
 |c::l,x::xs,d,h,hn=>by
  rw[lJ]at h;rw[aIr,aIc]at hn;split at h
  .next p q hp hq=>
   cases h;show((c.cell p)::jA l q).flatMap Cell.refs=[];rw[aIr,aIc];refine⟨?_,Yj l xs q hq hn.2⟩;cases c with
   |ref o=>
    cases x<;>simp[iy.read,Cell.refs]at hp hn
   |_=>rfl
  .cases h
 |[],_::_,_,h,_=>by simp[lJ]at h
 |_::_,[],_,h,_=>by simp[lJ]at h
theorem aBq{G:lT}(hE:EnvB P G Θ Γ)(hm:P.follows .mixedOrders=true){f:FuncId}{fn:Func}{c:Code}(hf:P.funcs[f]? =some fn)(J:fn.body=some c)(H:Hints)
  {l:List iy} {F:nI sh->Prop×(oD l->Prop)} (hn:Nat.ble sh.length fn.ntmps=true) (hne:∀x,(F x).1->∃t,(F x).2 t)
 (hwalk:∀x,Sm sh x->(F x).1->NS Θ Γ H c (arD fn.results.toList l (F x).2) (KE fn.ntmps (AP sh x))):rP P G f (azq sh l F):=by
 intro args p ρ n C;unfold azq at n;split at n
 case h_2=>cases n
 next x hx=>
 cases n;refine⟨hne x C,λk S γ I w hG O ES hsep hap=>?_⟩;have hlen:=(Si hx).1;rw[Q9]at hlen;have hn':args.length<=fn.ntmps:=XH;have N:Sm sh x:=adA (λo X ho=>(ES o X ho).1) sh args x I.toList 0 (λj a h=>ny) hx O;have hR0:=akH (S:=S) fn.ntmps hn' O (λo X ho=>⟨(ES o X ho).1,λb J=>((ES o X ho).2 b J).1⟩) hsep;have hR1:=hR0.covers (abL hx fn.ntmps);refine calls_of_wp hf J (ady ⟨hE,hG,λb J=>?_⟩ hm H c _ _ _ _ _ _ hR1 (hwalk x N C) ?_)
 .obtain⟨o,X,ho,J⟩:=J
  grind
 intro e s γ' a' w' g E;have r:arD fn.results.toList l (F x).2 .ret s:=by
  cases e with
  |normal=>exact g
  |ret=>exact g
  |_=>exact g.elim
 have L:bodyPost P fn (λe w'=>∃t,(F x).2 t/\VO S args γ w k ⟨[],some (jA l t)⟩ (loses sh) e w') .ret a' w':=by
  simp only[arD]at r;split at r
  case h_2=>exact r.elim
  next t hrv=>
  split at r
  case h_2=>exact r.elim
  next o m htm=>
  split at r
  case h_2=>exact r.elim
  next A B R=>
  split at r
  case h_2=>exact r.elim
  next d hnr hd=>
  have B:=aHA B;subst B;have hRf:=E.freeze (VU s);have K:=E.tmps t;rw[htm]at K;obtain⟨b,cs0,_,u,hval⟩:=K;obtain⟨Q,arr,ty,g1,g2,g3⟩:=hRf.ah o _ R;have g1:γ' o=.pointer (some ⟨Q,0,none⟩):=g1;have u:γ' o=.pointer (some ⟨b,0,none⟩):=u;rw[u]at g1;cases g1;have hblk:blk (γ' o)=some b:=by rw[u];rfl
  have hlt:=hRf.lt o _ b R hblk
  let γ2:Nat->Value:=λ_=>γ' o
  let Z:V:=⟨w',w.heap.size,wo S args (loses sh) γ,γ2,look (Out.take k ⟨[],some (jA l d)⟩).2⟩
  have U:∀q y,look (Out.take k ⟨[],some (jA l d)⟩).2 q=some y->q=k-1/\y=.var (jA l d):=by
   intro q y i;have hmem:=Bo _ q y i
   grind [Out.take]
  have afA:∀fr Q,(ak w (adz args γ S) γ' (s.freeze (VU s)) w').dA fr Q->Z.dA fr Q:=by intro fr Q z;refine⟨⟨z.1.1,λhlt'=>⟨z.1.2.1 hlt',λq y i=>by grind [ZJ]⟩,λq y i=>?_⟩,z.2⟩;exact z.1.2.2 o _ R
  have D:ai Z (jA l d) arr.toList:=
   LY (Y:=ak w (adz args γ S) γ' (s.freeze (VU s)) w') (Z:=Z) rfl afA _ _ (Yj l A d hd hnr) (KC l A d _ hd g3)
  have W:look (Out.take k ⟨[],some (jA l d)⟩).2 (k-1)=some (.var (jA l d)):=by simp[Out.take,look]
  refine⟨E.defers,a'.tmps.getD t undef,?_,d,r,_,γ2,rfl,E.os,E.tape,E.output,E.grow,E.kept,?_,λq y i=>?_,λq y q' y' Q i hq' hne'=>?_,λq y i=>by grind [ZJ]⟩
  .have:fn.results=#[.tmp t]:=ny;have hmap:(Array.mapM (Qy a'.tmps) #[ResultVar.tmp t]).run P w'=.ok #[a'.tmps.getD t undef] w':=by
    simp_all [Qy]
   rw[ZI,this,aIb,hmap];rfl
  .exact⟨b,jA l d,W,u,hval⟩
  .obtain⟨rfl,rfl⟩:=U q y i;refine⟨⟨b,arr,ty,u,g2,D⟩,λQ z=>?_⟩
   grind [ZJ]
  grind
 cases e with
 |normal=>exact L
 |ret=>exact L
 |_=>exact g.elim
end Go.Fw
namespace Go.Fw
open Go
def CT.isZero:CT->Value->Bool
 |.int k,.int l n=>decide (k=l)&&decide (n=0)
 |.bool,.bool b=>!b
 |.str,.string s=>s.data.toList.isEmpty
 |.sl _ _,.slice none 0 0=>true
 |_,_=>false
def au.Yk:au->List Value->Bool
 |.nil,[]=>true
 |.cons c r,v::vs=>c.isZero v&&r.Yk vs
 |_,_=>false
theorem CT.axV:∀(c:CT)(v:Value),c.isZero v=true->v=c.anR:=by
 intro c v h;unfold CT.isZero at h;split at h
 .simp at h;rw[h.1,h.2];rfl
 .simp at h;subst h;rfl
 .next s=>obtain⟨⟨l⟩⟩:=s;simp at h;subst h;rfl
 .rfl
 .cases h
theorem au.akL:∀(r:au)(I:List Value),r.Yk I=true->I=r.rO
 |.nil,[],_=>rfl
 |.cons c r,v::I,h=>by
  rw[Yk,aHy]at h;rw[au.rO,CT.axV c v h.1,au.akL r I h.2]
 |.nil,_::_,h|.cons _ _,[],h=>by simp[Yk]at h
def asy:TypeDesc->TypeDesc->Bool
 |.int k,.int l=>decide (k=l)
 |.bool,.bool=>true
 |.string,.string=>true
 |.slice e,.slice f=>Nat.beq e f
 |_,_=>false
theorem axW:∀(c d:TypeDesc),asy c d=true->c=d:=by
 intro c d h;unfold asy at h;split at h
 · grind
 .rfl
 .rfl
 · simp_all
 .cases h
def Uf(P:Program):List (Nat×TypeId)->List Field->Bool
 |[],[]=>true
 |(o,t)::r,f::fs=>Nat.beq o f.offset&&Nat.beq t f.type&&(P.info? f.type).isSome&&Uf P r fs
 |_,_=>false
theorem ahm{P:Program}:∀(l:List (Nat×TypeId))(a:List Field),Uf P l a=true->l=a.map (λf=>(f.offset,f.type))/\∀f∈a,(P.info? f.type).isSome=true
 |[],[],_=>⟨rfl,vk⟩
 |(o,t)::r,f::a,h=>by
  rw[Uf,aHy,aHy,aHy]at h;obtain⟨⟨⟨E,O⟩,U⟩,j⟩:=h;obtain⟨e,b⟩:=ahm r a j;refine⟨by rw[aHT,← e,aHA E,aHA O],λg d=>?_⟩;rcases aHH.1 d with rfl|d
  .exact U
  .exact b g d
 |[],_::_,h|_::_,[],h=>by simp[Uf]at h
def axX(P:Program)(t:TypeId)(a:TI):Bool:=
 match a.kind,P.underlying t with
 |.scalar,some d=>match a.cells.desc with|some c=>asy c d|none=>false
 |.str,some .string=>a.cells.beq (.cons .str .nil)
 |.slice e,some (.slice f)=>Nat.beq e f&&(match a.cells with|.cons (.sl g _) .nil=>Nat.beq g e|_=>false)
 |.struct fs,some (.struct Gl)=>Uf P fs Gl.toList
 |_,_=>false
def avm(a:TI)(z:Value):Bool:=match a.kind with
 |.struct _=>true
 |_=>z.oneCell'
def an3(P:Program)(t:TypeId)(a:TI):Bool:=
 match P.info? t with
 |some i=>match i.zero with
  |some z=>Nat.beq i.size a.cells.len&&Nat.beq i.bytes a.bytes&&a.cells.Yk z.cells.toList&&avm a z&&axX P t a&&Nat.ble a.bytes 4096&&(!a.cmp||awl P t a.cells)
  |none=>false
 |none=>false
theorem nY.azr{P:Program}{t:TypeId}{d:TI}(h:an3 P t d=true):nY P t d:=by
 unfold an3 at h;split at h
 .next i hi=>
  split at h
  .next z hz=>
   simp only[aHy]at h;obtain⟨⟨⟨⟨⟨⟨E,O⟩,U⟩,j⟩,M⟩,m⟩,n⟩:=h;refine⟨⟨i,z,hi,aHA E,aHA O,hz,au.akL _ _ U,λa=>?_⟩,?_,XH,λe w s u X k l I f b q Z B g=>aBk ny w s u X k l I f b q Z B g⟩
   · grind [avm,TI.agg,NG]
   grind [axX,axW,au.eq_of_beq,Nat.eq_of_beq_eq_true,ahm]
  .cases h
 .cases h
def Yl(P:Program):List (Nat×TI)->Bool
 |[]=>true
 |(t,ti)::r=>an3 P t ti&&Yl P r
theorem ZK{P:Program}:∀{l:List (Nat×TI)},Yl P l=true->∀t a,akD l t=some a->nY P t a
 |[],_,t,a,h=>zH
 |(i,x)::r,hc,t,a,h=>by
  rw[Yl,aHy]at hc;rw[akD]at h;cases J:Nat.beq t i with
  |true=>rw[J]at h;cases h;rw[aHA J];exact .azr hc.1
  |false=>rw[J]at h;exact ZK hc.2 t a h
def afE(fn:Func):Bool:=fn.body.isSome&&!(fn.name== "runtime.NumGoroutine")
theorem iQ{P:Program}{f:FuncId}{fn:Func}(q:P.funcs[f]? =some fn)(L:afE fn=true):ji P f:=by
 intro args w;unfold afE at L;have O:fn.body.isNone=false:=XH
 grind [callFunc,Sem.run_bind,run_program,Result.andThen_ok,Sem.run_pure]
def axY(P:Program)(G:lT)(f:FuncId):NC->Prop
 |.pure c=>fF P G f c/\ji P f
 |.eff _ c=>rP P G f c/\ji P f
theorem axZ{P:Program}{G:lT}{Θ:jY}(b:∀t g,Θ t=some g->nY P t g):∀{l:List (Nat×NC)},(∀x∈l,axY P G x.1 x.2)->EnvB P G Θ (Jq l)
 |[],_=>⟨b,(λf a h=>zH),(λf d a h=>zH)⟩
 |(i,c)::r,h=>by
  have e:=axZ (G:=G) b λx Z=>h x (aHC _ Z);refine⟨b,λf a q=>?_,λf d a q=>?_⟩
  .rw[Jq]at q;cases J:Nat.beq f i with
   |true=>rw[J]at q;cases q;rw[aHA J];exact h (i,.pure a) aHJ
   |false=>rw[J]at q;exact e.cons f a q
  .rw[Jq]at q;cases J:Nat.beq f i with
   |true=>rw[J]at q;cases q;rw[aHA J];exact h (i,.eff d a) aHJ
   |false=>rw[J]at q;exact e.arB f d a q
structure PA where
 n:Nat
 sh:List iq
 dF:List kM
 F:jo sh->Prop×kS dF
structure XA where
 n:Nat
 sh:List jB
 dF:List oK
 F:nI sh->Prop×(wJ dF×vg sh->Prop)
structure QA where
 n:Nat
 sh:List jB
 dF:List iy
 F:nI sh->Prop×(oD dF->Prop)
def PA.e(q:PA):Nat×NC:=(q.n,.pure (iw q.sh q.dF q.F))
def XA.e(q:XA):Nat×NC:=(q.n,.eff (X8 q.sh) (JQ q.sh q.dF q.F))
def QA.e(q:QA):Nat×NC:=(q.n,.eff (X8 q.sh) (azq q.sh q.dF q.F))
def akM(P:Program)(G:lT)(x:Nat×NC):Prop:=axY P G x.1 x.2
def adB(P:Program)(G:lT):List (Nat×NC)->Prop
 |[]=>True
 |x::l=>akM P G x/\adB P G l
theorem azs{P:Program}{G:lT}{a:List (Nat×TI)}(b:Yl P a=true){l:List (Nat×NC)}(h:adB P G l):EnvB P G (akD a) (Jq l):=
 axZ (ZK b) (by
  induction l with
  |nil=>grind
  |cons y l ih=>exact List.forall_mem_cons.2 ⟨h.1,ih h.2⟩)
def an4:(l:List iy)->(oD l->Prop)->Prop
 |[],p=>p ()
 |c::r,p=>∀x:c.den,an4 r λy=>p (x,y)
theorem Ym:∀{l:List iy}{p:oD l->Prop},an4 l p->∀x,p x
 |[],_,h,()=>h
 |_::_,_,h,(x,y)=>Ym (h x) y
def awF:(l:List (List iy))->(F5 l->Prop)->Prop
 |[],p=>p ()
 |c::r,p=>an4 c λx=>awF r λy=>p (x,y)
theorem asz:∀{l:List (List iy)}{p:F5 l->Prop},awF l p->∀x,p x
 |[],_,h,()=>h
 |_::_,_,h,(x,y)=>asz (Ym h x) y
def azt:(s:iq)->(s.den->Prop)->Prop
 |.v (.one c),p=>∀x:c.den,p x
 |.v (.agg l),p=>an4 l p
 |.kp l,p=>an4 l p
 |.fn _ l,p=>awF l p
theorem avn:∀{s:iq}{p:s.den->Prop},azt s p->∀x,p x
 |.v (.one _),_,h,x=>h x
 |.v (.agg _),_,h,x=>Ym h x
 |.kp _,_,h,x=>Ym h x
 |.fn _ _,_,h,x=>asz h x
def awG:(l:List iq)->(jo l->Prop)->Prop
 |[],p=>p ()
 |s::r,p=>azt s λx=>awG r λy=>p (x,y)
theorem asA:∀{l:List iq}{p:jo l->Prop},awG l p->∀x,p x
 |[],_,h,()=>h
 |_::_,_,h,(x,y)=>asA (avn h x) y
def aCk:(s:jB)->(s.den->Prop)->Prop
 |.p s,p=>azt s p
 |.own _ r,p=>∀x:List r.den,p x
 |.ptr l,p=>an4 l p
theorem aBr:∀{s:jB}{p:s.den->Prop},aCk s p->∀x,p x
 |.p _,_,h,x=>avn h x
 |.own _ _,_,h,x=>h x
 |.ptr _,_,h,x=>Ym h x
def arE:(l:List jB)->(nI l->Prop)->Prop
 |[],p=>p ()
 |s::r,p=>aCk s λx=>arE r λy=>p (x,y)
theorem ait:∀{l:List jB}{p:nI l->Prop},arE l p->∀x,p x
 |[],_,h,()=>h
 |_::_,_,h,(x,y)=>ait (aBr h x) y
abbrev LP{α:Type}(x:α)(f:(α->Prop)->(α->Nat)->α->Prop):Prop:=∃(I:α->Prop),∃(P:α->Nat),I x/\∀(y:α),I y->f I P y
abbrev NX{a α:Type}(s:a)(I:α->Prop)(P:α->Nat)(x y:α):Prop:=s=s/\I x/\P x<P y
def H0:Hints:=hints [] [] [] [] []
def JW(P:Program)(n:Nat):Func:=match P.funcs[n]? with|some f=>f|none=>default
def QC(P:Program)(n k:Nat):Bool:=P.funcs[n]?.isSome&&afE (JW P n)&&Nat.ble k (JW P n).ntmps
theorem adC{P:Program}{n k:Nat}(h:QC P n k=true):P.funcs[n]? =some (JW P n)/\(JW P n).body=some (codeOf (JW P n))/\ji P n/\Nat.ble k (JW P n).ntmps=true:=by
 grind [QC,JW,iQ,afE,codeOf]
def PA.goal(q:PA)(g:(kS q.dF->Prop)->Prop)(x:jo q.sh):Prop:=NU q.sh x->(q.F x).1->g λr=>r=(q.F x).2
def XA.goal(q:XA)(g:(wJ q.dF×vg q.sh->Prop)->Prop)(x:nI q.sh):Prop:=Sm q.sh x->(q.F x).1->g (q.F x).2
def QA.goal(q:QA)(g:(oD q.dF->Prop)->Prop)(x:nI q.sh):Prop:=Sm q.sh x->(q.F x).1->g (q.F x).2
def PA.say(P:Program)(Θ:jY)(Γ:kY)(H:Hints)(q:PA):Prop:=bif QC P q.n q.sh.length then awG q.sh λx=>q.goal (λK=>NS Θ Γ H (codeOf (JW P q.n)) (akE Θ (JW P q.n).results.toList q.dF K) (entry (JW P q.n).ntmps (yc q.sh x))) x else False
def XA.say(P:Program)(Θ:jY)(Γ:kY)(H:Hints)(q:XA):Prop:=bif QC P q.n q.sh.length then arE q.sh λx=>q.goal (λK=>NS Θ Γ H (codeOf (JW P q.n)) (arC Θ (JW P q.n).results.toList q.sh q.dF K) (KE (JW P q.n).ntmps (AP q.sh x))) x else False
def QA.say(P:Program)(Θ:jY)(Γ:kY)(H:Hints)(q:QA):Prop:=bif QC P q.n q.sh.length then arE q.sh λx=>q.goal (λK=>NS Θ Γ H (codeOf (JW P q.n)) (arD (JW P q.n).results.toList q.dF K) (KE (JW P q.n).ntmps (AP q.sh x))) x else False
variable {P:Program} {Θ:jY} {Γ:kY} {G:lT}
theorem PA.ok{q:PA}(l:P.follows .mixedOrders=true)(a:EnvB P G Θ Γ)(H:Hints){p:Prop}
 (C:q.say P Θ Γ H=p) (h:p):akM P G q.e:=by
 subst C;unfold PA.say at h;cases L:QC P q.n q.sh.length with
 |false=>grind
 |true=>rw[L]at h;obtain⟨E,O,U,j⟩:=adC L;exact⟨Yh a l E O H j λx D Z=>asA h x D Z,U⟩
theorem XA.ok{q:XA}(l:P.follows .mixedOrders=true)(b:EnvB P G Θ Γ)(H:Hints)(a:∀x,(q.F x).1->∃t,(q.F x).2 t){p:Prop}
 (C:q.say P Θ Γ H=p) (h:p):akM P G q.e:=by
 subst C;unfold XA.say at h;cases L:QC P q.n q.sh.length with
 |false=>grind
 |true=>rw[L]at h;obtain⟨E,O,U,j⟩:=adC L;exact⟨avl b l E O H j a λx D Z=>ait h x D Z,U⟩
theorem QA.ok{q:QA}(l:P.follows .mixedOrders=true)(b:EnvB P G Θ Γ)(H:Hints)(a:∀x,(q.F x).1->∃t,(q.F x).2 t){p:Prop}
 (C:q.say P Θ Γ H=p) (h:p):akM P G q.e:=by
 subst C;unfold QA.say at h;cases L:QC P q.n q.sh.length with
 |false=>grind
 |true=>rw[L]at h;obtain⟨E,O,U,j⟩:=adC L;exact⟨aBq b l E O H j a λx D Z=>ait h x D Z,U⟩
abbrev iy.i:iy:=.int .i64
abbrev iy.b:iy:=.bool
abbrev iy.s:iy:=.str
abbrev iy.l(e:TypeId)(r:au):iy:=.sl e r false
abbrev iy.f(e:TypeId)(r:au):iy:=.sl e r true
abbrev kM.i:kM:=.one .i
abbrev kM.b:kM:=.one .b
abbrev kM.s:kM:=.one .s
abbrev kM.l(e:TypeId)(r:au):kM:=.one (.l e r)
abbrev kM.f(e:TypeId)(r:au):kM:=.one (.f e r)
abbrev iq.i:iq:=.v .i
abbrev iq.b:iq:=.v .b
abbrev iq.s:iq:=.v .s
abbrev iq.l(e:TypeId)(r:au):iq:=.v (.l e r)
abbrev jB.i:jB:=.p .i
abbrev jB.b:jB:=.p .b
abbrev jB.s:jB:=.p .s
abbrev jB.l(e:TypeId)(r:au):jB:=.p (.l e r)
abbrev RC.i:RC:=.c .i
abbrev RC.b:RC:=.c .b
abbrev RC.s:RC:=.c .s
abbrev RC.l(e:TypeId)(r:au):RC:=.c (.l e r)
abbrev RC.f(e:TypeId)(r:au):RC:=.c (.f e r)
abbrev oK.i:oK:=.one .i
abbrev oK.b:oK:=.one .b
abbrev oK.s:oK:=.one .s
abbrev oK.l(e:TypeId)(r:au):oK:=.one (.l e r)
abbrev oK.f(e:TypeId)(r:au):oK:=.one (.f e r)
abbrev oK.o(e:TypeId)(r:au):oK:=.one (.own e r true)
end Go.Fw
namespace Go.Fw
open Go
variable {P:Program} {G:lT} {f:FuncId}
abbrev kR:List UInt8:=[]
abbrev Po:List (Int×Unit):=[]
theorem fF.weaken{d b:Dh}(h:fF P G f d)(L:∀args p a,b args=some (p,a)->p->∃q,d args=some (q,a)/\q):fF P G f b:=by intro args p a k S I w n C g e;obtain⟨q,E,O⟩:=L args p a n C;exact h args q a k S I w E O g e
theorem rP.weaken{b a:TA}(h:rP P G f b)(L:∀args p d,a args=some (p,d)->p->∃q,b args=some (q,d)/\q):rP P G f a:=by intro args p d n C;obtain⟨q,E,O⟩:=L args p d n C;exact h args q d E O
theorem akN{d:List iq}{dF:List kM}{F:jo d->Prop×kS dF}(b m:Nat->jo d->Prop×kS dF)(s:∀x,¬(b 0 x).1)(X:∀n x,b (n+1) x=m n x)
 (q:∀x,(F x).1->∃n,(b n x).1) (g:∀n x,(b n x).2=(F x).2) (step:∀n,fF P G f (iw d dF (b n))->fF P G f (iw d dF (m n))):fF P G f (iw d dF F):=by
 have o:∀n,fF P G f (iw d dF (b n)):=by
  intro n
  induction n with
  |zero=>
   intro args p j k S I w a C;unfold iw zf at a
   grind
  |succ n ih=>
   have e:b (n+1)=m n:=funext (X n)
   grind
 intro args p j k S I w a C r i;have l:=a;unfold iw zf at l;split at l
 .next x hx=>
  have e:=Option.some.inj l;have h:(F x).1=p:=congrArg Prod.fst e;obtain⟨n,H⟩:=q x (h.symm▸C);refine o n args (b n x).1 j k S I w ?_ H r i
  simp_all [iw,zf]
 .cases l
theorem aBs{d:List jB}{dF:List oK}{F:nI d->Prop×(wJ dF×vg d->Prop)}(a j:Nat->nI d->Prop×(wJ dF×vg d->Prop))(S:∀x,¬(a 0 x).1)(X:∀n x,a (n+1) x=j n x)
 (q:∀x,(F x).1->∃n,(a n x).1) (g:∀n x,(a n x).2=(F x).2) (step:∀n,rP P G f (JQ d dF (a n))->rP P G f (JQ d dF (j n))):rP P G f (JQ d dF F):=by
 have k:∀n,rP P G f (JQ d dF (a n)):=by
  intro n
  induction n with
  |zero=>
   intro args p l b C
   grind [JQ]
  |succ n ih=>
   have e:a (n+1)=j n:=funext (X n)
   grind
 intro args p l b C;have i:=b;unfold JQ at i;split at i
 .next x hx=>
  have e:=Option.some.inj i;have h:(F x).1=p:=congrArg Prod.fst e;obtain⟨n,H⟩:=q x (h.symm▸C);refine k n args (a n x).1 l ?_ H
  grind [JQ]
 .cases i
end Go.Fw
namespace Go.Fw
open Go
variable {P:Program} {H:Type} {enc:TypeId×Value->H} {w:World}
def au.app:au->au->au
 |.nil,s=>s
 |.cons c r,s=>.cons c (r.app s)
def awH:(r s:au)->r.den->s.den->(r.app s).den
 |.nil,_,_,y=>y
 |.cons _ r,s,x,y=>(x.1,awH r s x.2 y)
theorem aY.app{h:Array Obj}{S:Nat->Prop}:∀(r s:au)(x:r.den)(y:s.den)(I a:List Value),aY h S r I x->aY h S s a y->aY h S (r.app s) (I++a) (awH r s x y)
 |.nil,s,x,y,I,a,h1,h2=>by subst h1;exact h2
 |.cons c r,s,(x,x'),y,I,a,h1,h2=>by obtain⟨v,b,rfl,d,e⟩:=h1;exact⟨v,b++a,rfl,d,aY.app r s x' y b a e h2⟩
theorem add_add(a:Addr)(h:a.spot=none)(m j:Nat):(a.add m).add j=⟨a.block,a.off+m+j,none⟩:=by
 obtain⟨b,o,d⟩:=a
 grind [Addr.add]
def VX(f:TypeId->Option au):List Field->Nat->Option au
 |[],_=>some .nil
 |x::r,off=>match f x.type with
  |some s=>match VX f r (off+s.len),Nat.beq x.offset off with
   |some u,true=>some (s.app u)
   |_,_=>none
  |none=>none
def rowOf(P:Program):Nat->TypeId->Option au
 |0,_=>none
 |n+1,t=>match P.underlying t with
  |some (.int k)=>some (.cons (.int k) .nil)
  |some .bool=>some (.cons .bool .nil)
  |some .string=>some (.cons .str .nil)
  |some (.slice e)=>match rowOf P n e with
   |some s=>match Nat.beq s.len (P.cellsOf e)&&Nat.ble 1 s.len with
    |true=>some (.cons (.sl e s) .nil)
    |false=>none
   |none=>none
  |some (.struct fs)=>match VX (rowOf P n) fs.toList 0 with
   |some r=>match Nat.beq r.len (P.cellsOf t)with
    |true=>match fs.toList.all λf=>match rowOf P n f.type with|some s=>Nat.beq s.len (P.cellsOf f.type)|none=>false with
     |true=>some r
     |false=>none
    |false=>none
   |none=>none
  |_=>none
theorem avo{α:Type}{Q:Nat->α->Prop}:∀(n:Nat),(∀i,i<n->∃x,Q i x)->∃l:List α,l.length=n/\∀i x,l[i]? =some x->Q i x
 |0,_=>⟨[],rfl,λi x h=>XD⟩
 |n+1,h=>by
  obtain⟨l,a,b⟩:=avo n λi D=>h i lu;obtain⟨x,Z⟩:=h n lu;refine⟨l++[x],by simp[a],λi y B=>?_⟩
  grind
theorem avp:∀(r s:au),(r.app s).len=r.len+s.len
 |.nil,s=>by simp[au.app,au.len]
 |.cons c r,s=>by simp only[au.app,au.len,avp r s];omega
theorem akO{f:TypeId->Option au}{S:Nat->Prop}{h:Array Obj}(A:List Value)
 (a:∀(t:TypeId)(r:au)(m:Nat),f t=some r->(∃g:Field,g.type=t/\g.offset=m)->True):∀(b:List Field)(m:Nat)(r:au),VX f b m=some r->
 (∀g∈b,∀s,f g.type=some s->∃x,aY h S s ((A.drop g.offset).take s.len) x)->
 ∃x,aY h S r ((A.drop m).take r.len) x
 |[],m,r,hr,_=>by
  cases hr
  simp_all [aY,au.len]
 |g::b,m,r,hr,hall=>by
  rw[VX]at hr;split at hr
  .next s hs=>
   split at hr
   .next u hu hb=>
    cases hr;obtain⟨x,Z⟩:=hall g aHJ s hs;rw[aHA hb]at Z;obtain⟨y,B⟩:=akO A a b (m+s.len) u hu λe d=>hall e (aHC _ d);refine⟨awH s u x y,?_⟩
    grind [aY.app,avp,List.drop_drop]
   .cases hr
  .cases hr
theorem aiu:∀(n:Nat)(t:TypeId)(r:au),rowOf P n t=some r->∀(m:Nat)(base:Nat)(d:Nat->Bool)(o:Bool)(A:List Value)(x:DataW H×List MemPlace),
 DataW.trod enc P w base d o m t A=some x->∃y,aY w.heap (λb=>b<w.heap.size) r A y
 |0,t,r,hr=>by cases hr
 |n+1,t,r,hr=>by
  intro m base d o A x Z;rw[rowOf]at hr;split at hr
  .next k hu=>
   cases hr;obtain⟨i,rfl,_,hwf⟩:=DataW.trod_int hu Z
   simp_all [Lit.wf,aY,dw]
  .next hu=>
   cases hr;obtain⟨b,rfl,_⟩:=DataW.trod_bool hu Z
   simp_all [aY,dw]
  .next hu=>cases hr;obtain⟨s,rfl,_,X⟩:=DataW.trod_string hu Z;refine⟨(s.data.toList,()),by simp_all [aY,dw]⟩
  .next e hu=>
   split at hr
   .next s X=>
    split at hr
    .next hb=>
     cases hr;rw[aHy]at hb;have Y:=aHA hb.1;have hpos:1<=s.len:=XH;rcases DataW.trod_slice hu Z with⟨rfl,_⟩|⟨a,B,I,O,rest,k,_,rfl,_,T,hle,hmax,hel,K,_,_⟩
     .exact⟨([],()),by rw[aY];exact⟨_,[],rfl,by rw[dw];exact⟨vk,.inl ⟨rfl,none,0,rfl⟩⟩,by rw[aY]⟩⟩
     .by_cases h0:B=0
      .subst h0;exact⟨([],()),by rw[aY];exact⟨_,[],rfl,by rw[dw];exact⟨vk,.inl ⟨rfl,some a,I,rfl⟩⟩,by rw[aY]⟩⟩
      .have each:∀i,i<B->∃(F:List Value)(z:s.den),w.cells? base (a.add (i*P.cellsOf e)) (P.cellsOf e)=some F/\aY w.heap (λb=>b<w.heap.size) s F z:=by
        intro i D;have E:=K i D;rw[aHK lu]at E;obtain⟨F,hys,hy2⟩:=Option.bind_eq_some_iff.1 E;obtain⟨z,hz⟩:=aiu n e s X k base d o F _ hy2
        grind
       obtain⟨M,z0,U,hz0⟩:=each 0 lu;obtain⟨_,hl0,q⟩:=World.cells?_some U;have f:=q 0 lu;simp only[Nat.zero_mul,Addr.add,if_true]at f;have N:∃v,M[0]? =some v:=⟨M[0]' lu,ny⟩;obtain⟨v0,hv0⟩:=N;rw[hv0]at f;unfold World.cell? at f;split at f
       .next c ty fz hblk=>
        split at f
        .cases f
        .next hsp=>
         have hspot:a.spot=none:=XH;have ha:a=⟨a.block,a.off,none⟩:=by cases a;grind
         have R:a.block<w.heap.size:=by
          grind
         have L:∀i,i<B->∃z:s.den,aY w.heap (λb=>b<w.heap.size) s ((c.toList.drop (a.off+i*s.len)).take s.len) z:=by
          intro i D;obtain⟨F,z,hcs,hz⟩:=each i D;obtain⟨_,Q,W⟩:=World.cells?_some hcs;refine⟨z,?_⟩;have:(c.toList.drop (a.off+i*s.len)).take s.len=F:=by
           refine aIF λj=>?_
           grind [add_add,World.cell?]
          grind
         obtain⟨l,hll,hlq⟩:=avo B L;refine⟨(l,()),by rw[aY];exact⟨_,[],rfl,by rw[dw];exact⟨lu,.inr ⟨a.block,a.off,I,c,ty,fz,ny,lu,R,hblk,hlq⟩⟩,by rw[aY]⟩⟩
       .cases f
    .cases hr
   .cases hr
  .next fs hu=>
   split at hr
   .next r' hf=>
    split at hr
    .next hb=>
     split at hr
     .next hall=>
      cases hr;obtain⟨xs,k,_,_,hcl,hxl,u⟩:=DataW.trod_struct hu Z;have Y:=aHA hb;have:=akO (h:=w.heap) (S:=λb=>b<w.heap.size) A (λ_ _ _ _ _=>trivial) fs.toList 0 _ hf ?_
      · grind
      .intro g hg s X;have J:=aHS.1 hall g hg;rw[X]at J;have hsl:=aHA J;obtain⟨i,D,hgi⟩:=aJr.1 hg;have C:=u i g ny;rw[aHK ny]at C;rw[hsl];exact aiu n g.type s X k base d o _ _ C
     .cases hr
    .cases hr
   .cases hr
  .cases hr
def CT.csh:CT->iy
 |.int k=>.int k
 |.bool=>.bool
 |.str=>.str
 |.sl e r=>.sl e r false
def toC:(c:CT)->c.den->c.csh.den
 |.int _,x=>x
 |.bool,x=>x
 |.str,x=>x
 |.sl _ _,x=>x
def au.shs:au->List iy
 |.nil=>[]
 |.cons c r=>c.csh::r.shs
def toCs:(r:au)->r.den->oD r.shs
 |.nil,_=>()
 |.cons c r,x=>(toC c x.1,toCs r x.2)
theorem an5(X:V):∀(r:au)(I:List Value)(x:r.den),aY X.w.heap (X.dA false) r I x->ai X (jA r.shs (toCs r x)) I
 |.nil,I,x,h=>by subst h;trivial
 |.cons c r,I,(x,y),h=>by
  obtain⟨v,a,rfl,E,O⟩:=h;refine⟨?_,an5 X r a y O⟩;cases c with
  |int k=>exact E
  |bool=>exact E
  |str=>exact E
  |sl e r=>exact E
def awI(P:Program)(t:TypeId):Option kM:=
 match rowOf P 64 t with
 |some r=>match P.underlying t with
  |some (.struct _)=>some (.agg r.shs)
  |some (.array _ _)=>none
  |_=>match r with
   |.cons c .nil=>some (.one c.csh)
   |_=>none
 |none=>none
def Ug(P:Program):List TypeId->Option (List iq)
 |[]=>some []
 |t::ts=>match awI P t,Ug P ts with
  |some s,some l=>some (.v s::l)
  |_,_=>none
def start(w:World):V:=⟨w,w.heap.size,λb=>b<w.heap.size,λ_=>undef,λ_=>none⟩
theorem aBt{t:TypeId}{s:kM}(X:awI P t=some s){base a:Nat}{j:Nat->Bool}{i:Bool}{v:Value}{d:DataW H}{p:List MemPlace}
 (k:DataW.Trod enc P w base j i t v d p) (K:Value.okWide P w .any a t v):∃x:s.den,eP (start w) (s.val x) v:=by
 unfold awI at X;split at X
 .next r hr=>
  obtain⟨m,l⟩:=k;obtain⟨y,B⟩:=aiu 64 t r hr m base j i _ _ l;have g:aY (start w).w.heap ((start w).dA false) r v.cells.toList y:=
   aY.mono (λb J=>⟨⟨⟨J,λ_=>J,λo x Z=>O6⟩,λe=>Q7⟩,rfl⟩) r _ y B
  unfold Value.okWide at K;split at X
  .next fs hu=>cases X;rw[hu]at K;obtain⟨A,rfl,_,_⟩:=K;exact⟨toCs r y,A,rfl,an5 (start w) r _ y g⟩
  .cases X
  .next hns hna=>
   split at X
   .next c=>
    cases X;have f:v.cells=#[v]:=by
     cases h:v<;>first
      |rfl
      |(exfalso
        rw[h]at K;split at K
        · grind
        · grind
        .unfold Go.Cell.okWide at K;split at K<;>first|(done)|(rename_i h2;cases h2;done)|skip;unfold Go.Cell.ok at K;split at K<;>first|(rename_i h1 h2;cases h2;done)|exact K)
    have:=an5 (start w) _ _ y g;rw[f]at this;exact⟨toC c y.1,this.1⟩
   .cases X
 .cases X
theorem asC:∀(i:List TypeId)(g:List iq),Ug P i=some g->∀{base e:Nat}{o:Nat->Bool}{n:Bool}(I:List Value)(f:List (DataW H))(p:List MemPlace),
 DataW.TrodAll enc P w base o n i I f p->(∀(j:Nat) t v,i[j]? =some t->I[j]? =some v->Value.okWide P w .any e t v)->∃x:jo g,qI (start w) (yc g x) I
 |[],g,hs,_,_,_,_,I,f,p,h,_=>by
  cases hs;cases I with
  |nil=>exact⟨(),trivial⟩
  |cons v I=>cases f<;>simp[DataW.TrodAll]at h
 |t::i,g,hs,base,e,o,n,I,f,p,h,hok=>by
  rw[Ug]at hs;split at hs
  .next s l h1 h2=>
   cases hs;cases I with
   |nil=>cases f<;>simp[DataW.TrodAll]at h
   |cons v I=>
    cases f with
    |nil=>simp[DataW.TrodAll]at h
    |cons d f=>obtain⟨a,b,q,r,_⟩:=h;obtain⟨x,Z⟩:=aBt h1 q (hok 0 t v rfl rfl);obtain⟨y,B⟩:=asC i l h2 I f b r λj u z k m=>hok (j+1) u z (by simpa using k) (by simpa using m);exact⟨(x,y),Z,B⟩
  .cases hs
mutual
theorem CT.Uh:∀(c:CT),c.beq c=true
 |.int k=>by simp[CT.beq]
 |.bool=>rfl
 |.str=>rfl
 |.sl e r=>by simp[CT.beq,au.Uh r]
theorem au.Uh:∀(r:au),r.beq r=true
 |.nil=>rfl
 |.cons c r=>by simp[au.beq,CT.Uh c,au.Uh r]
end
theorem apZ:∀(c:iy)(x:c.den),c.read (c.cell x)=some x
 |.int k,x=>by simp[iy.cell,iy.read]
 |.bool,x=>rfl
 |.str,x=>rfl
 |.sl e r fr,l=>by
  simp only[iy.cell,iy.read,aII];have E:Uc fr fr=true:=by cases fr<;>rfl
  have O:r.beq r=true:=au.Uh r;rw[E];rw[dif_pos O];rfl
 |.nil,x=>rfl
 |.ref o,x=>by simp[iy.cell,iy.read]
 |.junk,x=>rfl
theorem akP:∀(l:List iy)(x:oD l),lJ l (jA l x)=some x
 |[],_=>rfl
 |c::r,x=>by rw[jA,lJ,apZ c x.1,akP r x.2]
theorem asD:∀(a:List TypeId)(l:List iq),Ug P a=some l->∀(x:jo l),NT l (yc l x)=some x
 |[],l,h,x=>by cases h;rfl
 |t::a,l,h,x=>by
  rw[Ug]at h;split at h
  .next s r h1 h2=>
   cases h;have b:=asD a r h2 x.2;cases s with
   |one c=>
    have e:(iq.v (.one c)).read ((iq.v (.one c)).val x.1)=some x.1:=apZ c x.1;rw[yc,NT,b,e]
   |agg l=>have e:(iq.v (.agg l)).read ((iq.v (.agg l)).val x.1)=some x.1:=akP l x.1;rw[yc,NT,b,e]
  .cases h
def an6:Out:=⟨[(false,[.plain (.bool true)])],none⟩
theorem ax0{G:lT}{f:FuncId}{fn:Func}{a:List iq}{F:jo a->Prop×Out}(n:fF P G f (zf a F))(i:Ug P fn.params.toList=some a)
 (q:∀x,NU a x->(F x).1/\(F x).2=an6) (s:G.ok w) {base d:Nat} {y:Nat->Bool} {u:Bool} {args:Array Value} {l:List (DataW H)} {p:List MemPlace}
 (o:DataW.TrodAll enc P w base y u fn.params.toList args.toList l p) (h:∀(j:Nat) t v,fn.params[j]? =some t->args[j]? =some v->Value.okWide P w .any d t v):
 Calls P f args w λe g=>e=.returned (.bool true)/\g.os=w.os/\g.output=w.output/\w.heap.size<=g.heap.size/\∀b,b<w.heap.size->g.heap[b]? =w.heap[b]? :=by
 obtain⟨x,Z⟩:=asC _ _ i _ _ _ o λj t v r K=>h j t v (by simpa using r) (by simpa using K);have N:=Ih a x _ Z;obtain⟨C,A⟩:=q x N;have L:zf a F (yc a x)=some ((F x).1,an6):=by
  grind [zf,asD]
 refine(n (yc a x) _ _ 0 _ args w L C s Z).mono ?_;rintro e g ⟨v,k,rfl,E,O,U,z,M,m,_,_⟩;have K:v=.bool true:=m
 grind
theorem azu{w w':World}(E:w'.os=w.os)(U:w'.output=w.output)(M:∀b,b<w.heap.size->w'.heap[b]? =w.heap[b]?)(a:MemPlace->Prop):w.keptBut w' a:=by
 refine⟨E,U,λi D=>?_⟩
 grind
theorem azv{w w':World}(M:∀b,b<w.heap.size->w'.heap[b]? =w.heap[b]?){p:MemPlace}(C:p.block<w.heap.size):w.sameAt w' p:=by
 cases p with
 |cell b off=>
  show w'.cell? _=w.cell? _;unfold World.cell?;rw[M b C]
 |map b=>exact M b C
end Go.Fw
namespace Go.Fw
open Go
variable {P:Program} {G:lT} {f:FuncId}
theorem qH.mono{X Y:V}(h:X.le Y):∀(a:Arg)(v:Value),qH X a v->qH Y a v
 |.sv x,v,H=>eP.mono h x v H
 |.kp cs,v,H=>bD.mono h (.dH cs 0) v H
 |.fn f caps,v,H=>bD.mono h (.fn f caps) v H
 |.own _ _ _,_,H|.ptr _,_,H=>H.elim
theorem TV.mono{X Y:V}(h:X.le Y)(i:Nat):∀(a:Arg)(v:Value),TV X i a v->TV Y i a v
 |.own _ _ _,v,H=>aX.mono h (.ref (i*64+49)) v H
 |.ptr _,v,H=>bD.mono h (.eG (i*64+48) 0) v H
 |.sv x,v,H=>qH.mono h (.sv x) v H
 |.kp cs,v,H=>qH.mono h (.kp cs) v H
 |.fn f caps,v,H=>qH.mono h (.fn f caps) v H
theorem EP.nil{X Y:V}(h:X.le Y){e:TypeId}{r:au}:∀(args:List Arg)(I:List Value)(j i:Nat),args[i]? =some (.sv (.one .nil))->
 Y.ah ((j+i)*64+49)=some (.arr e r [] false)->Y.γ ((j+i)*64+49)=.slice none 0 0->EP X j args I->EP Y j (args.set i (.own e r [])) I
 |[],[],_,i,d,_,_,_=>by simp at d
 |[],_::_,_,_,_,_,_,H=>H.elim
 |_::_,[],_,_,_,_,_,H=>H.elim
 |a::args,v::I,j,0,d,ho,hγ,⟨h1,h2⟩=>by
  have d:a=.sv (.one .nil):=ald;subst d;have K:v=.slice none 0 0:=h1;refine⟨⟨⟨e,r,[],false,ho⟩,?_,atF⟩,?_⟩
  · grind
  .clear h1 d ho hγ K;generalize j+1=k at h2
   induction args generalizing k I with
   |nil=>cases I with
    |nil=>trivial
    |cons _ _=>exact h2.elim
   |cons b args ih=>cases I with
    |nil=>exact h2.elim
    |cons u I=>exact⟨TV.mono h k b u h2.1,ih I (k+1) h2.2⟩
 |a::args,v::I,j,i+1,d,ho,hγ,⟨h1,h2⟩=>by have g:j+(i+1)=j+1+i:=lu;rw[g]at ho hγ;exact⟨TV.mono h j a v h1,EP.nil h args I (j+1) i ald ho hγ h2⟩
end Go.Fw
namespace Go.Fw
open Go
theorem af{b:Bool}{A B:Prop}(E:b=true->A)(O:b=false->B):cond b A B:=by
 grind
theorem jq{D:Type}{A:(D->Prop)->Prop}{R:D->Prop}(f:D)(E:A λy=>y=f)(O:R f):∃J:D->Prop,A J/\∀y,J y->R y:=
 ⟨λy=>y=f,E,λ_ B=>B▸O⟩
theorem drop_cons{α:Type}(a:List α)(n:Nat)(d:α)(h:n<a.length):a.drop n=a.getD n d::a.drop (n+1):=by
 simp_all
theorem fU(z:Int)(h:-9223372036854775808<=z/\z<=9223372036854775807):IntKind.i64.wrap z=z:=IntWalk.i64_in z lu
theorem maxLen_eq:maxLen=9223372036854775807:=lZ
theorem dJ:big=4294967296:=rfl
theorem getD_mem{α:Type}{l:List α}{n:Nat}{d:α}(h:n<l.length):l.getD n d∈l:=by
 grind
def aCm(w:World)(S:Nat->Prop)(k:Nat)(out:Out)(e:Ending)(w':World):Prop:=
 ∃v a,e=.returned v/\w'.os=w.os/\w'.tape=w.tape/\w'.output=w.output/\w.heap.size<=w'.heap.size/\
    (∀b,b<w.heap.size->w'.heap[b]? =w.heap[b]?)/\
    bD ⟨w',w.heap.size,S,a,Fw.look (out.take k).2⟩ (out.take k).1 v/\
    (∀o x,Fw.look (out.take k).2 o=some x->cu ⟨w',w.heap.size,S,a,Fw.look (out.take k).2⟩ o x/\∀b,blk (a o)=some b->w.heap.size<=b/\b<w'.heap.size)/\
    (∀o x q y b,Fw.look (out.take k).2 o=some x->Fw.look (out.take k).2 q=some y->o≠q->blk (a o)=some b->blk (a q)≠some b)
theorem asE{w w':World}{S:Nat->Prop}{k:Nat}{s:Bytes}(g:w'.os=w.os)(d:w'.tape=w.tape)(e:w'.output=w.output)(a:w.heap.size<=w'.heap.size)
 (f:∀b,b<w.heap.size->w'.heap[b]? =w.heap[b]?) (X:s.length<=maxLen):aCm w S k ⟨[(false,[.plain (.str s)])],none⟩ (.returned (.string ⟨s.toArray⟩)) w':=
 ⟨_,λ_=>undef,rfl,g,d,e,a,f,⟨rfl,X⟩,(λo x Z=>O6),(λo x q y b Z=>O6)⟩
variable {P:Program} {H:Type} {enc:TypeId×Value->H} {w:World}
theorem abM(Q:laidOutB P=true){base:Nat}{g:Nat->Bool}{W j:World}:∀(i:List TypeId)(_:i.all (λt=>P.readableRec t&&decide (t<P.types.size))=true)
 (I:List Value) (e:List (DataW H)) (f:List MemPlace),DataW.TrodAll enc P W base (λ_=>true) true i I e f->(∀p∈f,W.sameAt j p)->(∀p∈f,g p.block=true)->DataW.TrodAll enc P j base g true i I e f
 |[],_,I,e,f,h,_,_=>by
  cases I<;>cases e<;>simp[DataW.TrodAll]at h ⊢;exact h
 |t::i,ht,I,e,f,h,h1,h2=>by
  rw[aIw,aHy,aHy]at ht;cases I with
  |nil=>cases e<;>simp[DataW.TrodAll]at h
  |cons v I=>
   cases e with
   |nil=>simp[DataW.TrodAll]at h
   |cons d e=>
    obtain⟨a,b,k,l,rfl⟩:=h;exact⟨a,b,WideElems.Trod_stays Q ht.1.1 (aIt ht.1.2) k (λp C=>h1 p (aIh _ C)) (λp C=>h2 p (aIh _ C)),
     abM Q i ht.2 I e b l (λp C=>h1 p (aIA _ C)) (λp C=>h2 p (aIA _ C)),rfl⟩
theorem trodAll_length{base:Nat}{k:Nat->Bool}{j:Bool}{W:World}:∀(f:List TypeId)(I:List Value)(e:List (DataW H))(g:List MemPlace),DataW.TrodAll enc P W base k j f I e g->e.length=f.length
 |[],I,e,g,h=>by cases I<;>cases e<;>simp[DataW.TrodAll]at h ⊢
 |t::f,I,e,g,h=>by
  cases I with
  |nil=>cases e<;>simp[DataW.TrodAll]at h
  |cons v I=>
   cases e with
   |nil=>simp[DataW.TrodAll]at h
   |cons d e=>obtain⟨a,b,l,i,rfl⟩:=h;simp[trodAll_length f I e b i]
theorem azw{fn:Func}{s:ChangeSpec}{g n handsOn m:Bool}{W i:World}{args:Array Value}{B N:List (DataW H)}{a:List MemPlace}{tb:TypeId}
 (h:s.vars=[]) (y:∀l:List (DataW H),l.length=fn.params.toList.length->(s.fn H l).results=[.lit (.bool true)]/\(s.fn H l).args=l/\(s.fn H l).vars=[])
 (k:fn.resultTypes=#[tb]) (J:P.underlying tb=some .bool) (Q:laidOutB P=true) (o:fn.params.toList.all (λt=>P.readableRec t&&decide (t<P.types.size))=true)
 (F:DataW.Whole enc P fn.params.toList s.vars g W args.toList B N a) (L:i.os=W.os) (D:i.output=W.output) (f:∀b,b<W.heap.size->i.heap[b]? =W.heap[b]?):
 s.post enc P fn g n handsOn m W args (.bool true) i:=by
 have C:=F.lt;have I:=F;obtain⟨p,q,O,hV,E,X,U⟩:=F;have d:N=[]/\q=[]:=by
  grind [DataW.TrodVars]
 obtain⟨rfl,rfl⟩:=d;rw[aH1]at E;subst E;have Y:=trodAll_length _ _ _ _ O;obtain⟨r1,r2,T⟩:=y (B++[]) ny;rw[aH1]at r1 r2 T;have u:∀x∈a,W.sameAt i x:=λx Z=>azv f (C x Z);have R:∀(b:Nat)(z:Nat->Bool)(S:Bool),DataW.TrodAll enc P i b z S fn.resultTypes.toList ((Value.bool true).resultList fn.resultTypes.size) [.lit (.bool true)] []:=by intro b z S;rw[k];exact⟨[],[],⟨1,by simp[DataW.trod,Value.cells,J]⟩,rfl,rfl⟩
 have A:∀z:Nat->Bool,(∀x∈a,z x.block=true)->DataW.TrodAll enc P i 0 z true fn.params.toList args.toList B a:=λz M=>abM Q _ o _ _ _ O u M;refine⟨B,[],a,[],a,[],I,?_,?_,?_,azu L D f _,λ_=>⟨?_,.lit (.bool true)::B,[],a,⟨a,[],?_,?_,vk,?_,U⟩,λx Z _=>Z⟩⟩
 · grind
 · grind
 .rw[aH1,T,h];rfl
 .intro j t r h1 h2;rw[k]at h1 h2
  match j with
  |0=>
   simp[Value.resultList]at h1 h2;subst h1 h2;simp[Value.okWide,J,Go.Cell.okWide,Go.Cell.ok]
  |j+1=>simp at h1
 .exact ChangeShapes.trodAll_append (A _ (λ_ _=>rfl)) (R _ _ _)
 .rw[h];rfl
 .intro b off hp;have K:=C _ hp;have e:i.frozen? ⟨b,off,none⟩=W.frozen? ⟨b,off,none⟩:=by unfold World.frozen?;rw[f b K]
  rw[e];exact X b off hp
end Go.Fw
namespace Go.Fw
open Go
theorem ax1{P:Program}(h:P.funcs.any Func.goes=false)(f:FuncId):P.goes f=false:=by
 have O:∀g:Nat,(P.funcs[g]?).any Func.goes=false:=λg=>by
  cases d:P.funcs[g]? with
  |none=>rfl
  |some fn=>have l:=Array.mem_of_getElem? d;have:=Array.any_eq_false'.1 h fn l;simpa using this
 unfold Program.goes;rw[h,aH8,Bool.or_false];simp[O]
theorem auJ{c:OpenClaim}{P:Program}(X:c.start=.entering)(h:P.funcs.any Func.goes=false):false=c.goesBy P:=by
 unfold OpenClaim.goesBy Program.goesAt Program.goesFrom;rw[X];cases P.funcNamed c.func with
 |none=>rfl
 |some f=>simp[ax1 h]
theorem afY{H:Type}{enc:TypeId×Value->H}{C:Checked}{G:lT}{os:Os}{f:FuncId}{fn:Func}{s:ChangeSpec}{d:List PathCond}{b m handsOn k:Bool}{tb:TypeId}{z:List iq}{F:jo z->Prop×Out}
 {X:World->Prop} (Y:∀w O:World,w.heap=O.heap->X w->X O)
 (own:ownKnob C.prog.godebug=none) (g:os.Started) (j:C.prog.inits.idxOf? f=none) (D:C.prog.funcs[f]? =some fn)
 (h:∃(w:World)(a:Tape)(i:Input),w.os=os/\(w.forCall a i).Shaped C.prog/\i.vars=[]/\Input.okWide C.prog (w.forCall a i) .any w.heap.size f i/\
   ((s.pre enc C.prog fn d b (w.forCall a i).memory i.args/\X (w.forCall a i).memory)/\sizedMet enc C.prog fn (OpenSpec.ofChange s) b (w.forCall a i).memory i.args)/\({}:Assume).holds C.prog (lone (Frame.enter C.prog f i.args .normal) [] (w.forCall a i)))
 (n:fF C.prog G f (zf z F)) (K:Ug C.prog fn.params.toList=some z) (T:∀x,NU z x->(F x).1/\(F x).2=an6) (U:∀w,X w->w.ShapedOpen C.prog->G.ok w)
 (N:s.vars=[]) (M:∀l:List (DataW H),l.length=fn.params.toList.length->(s.fn H l).results=[.lit (.bool true)]/\(s.fn H l).args=l/\(s.fn H l).vars=[])
 (R:fn.resultTypes=#[tb]) (J:C.prog.underlying tb=some .bool) (Q:laidOutB C.prog=true) (I:fn.params.toList.all (λt=>C.prog.readableRec t&&decide (t<C.prog.types.size))=true):
 ReturnsInHanded {} C os f .any (λw args=>(s.pre enc C.prog fn d b w args/\X w)/\sizedMet enc C.prog fn (OpenSpec.ofChange s) b w args) (s.post enc C.prog fn b m handsOn k):=by
 refine returnsInHanded_of_calls own g j h ?_;intro w a i _ A _ E r _;obtain⟨_,_,_,B,o,_,_,_,_,u⟩:=E;have e:B=fn:=Option.some.inj (o.symm.trans D);subst e;obtain⟨⟨⟨ds,gs,y,hw,L⟩,Z⟩,hz⟩:=r;have P:=DataW.Whole.of_heap (w':=w.forCall a i) ah3 hw;have W:=P;obtain⟨p,q,S,_⟩:=P;refine(ax0 n K T (U (w.forCall a i) (Y _ _ ah3 Z) A) S u).mono ?_
 grind [ChangeSpec.post_blind,azw]
end Go.Fw
