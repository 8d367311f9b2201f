import Derived.Test.YtdmilcleobbphaaGreatFwD
import Derived.Test.YtdmilcleobbphaaGreatFwB
import Derived.Test.YtdmilcleobbphaaGreatFwA
import Derived.ChangeArms
import Derived.WideKeyArgs
import Derived.ChangeSame
import Derived.ChangeOld
import Derived.Handed
import Derived.IntWalk
import Derived.ProofKit
namespace Go.Fw
open Go
variable {P:Program} {w0:World} {M:Nat->Prop} {T:Ext} {γ γ':Nat->Value} {st:St} {a:Act} {w w':World} {Θ:mD} {Γ:nI}
structure UN where
 aDJ:List aij
 c:Shape
 v:Shape
structure Hints where
 own:Nat->Bool
 loops:Nat->Option UN
 cuts:Nat->Option UN
 upd:List Nat
 frz:Nat->List Pre
def Fz:Code->Option Nat
 |.region id _ _=>some id
 |.seq x y=>match Fz x with|some n=>some n|none=>Fz y
 |.cond _ x y=>match Fz x with|some n=>some n|none=>Fz y
 |.block _ x|.loop x=>Fz x
 |_=>none
def cutAt(H:Hints)(y:Code):Option UN:=match Fz y with
 |some n=>H.cuts n
 |none=>none
def Sr(Θ:mD)(Γ:nI)(H:Hints):Code->(Exit->St->Prop)->St->Prop
 |.skip,Q,st=>Q .normal st
 |.region id ops false,Q,st=>aep (H.frz id) (runs Θ Γ H.own ops.toList (Q .normal) ops.toList) st
 |.region id ops true,Q,st=>aep (H.frz id) (aaz Θ Γ H.own H.upd ops.toList (Q .normal)) st
 |.seq x y,Q,st=>match cutAt H y with
  |none=>Sr Θ Γ H x (λe s=>match e with|.normal=>Sr Θ Γ H y Q s|e=>Q e s) st
  |some sp=>match sp.c.read (only sp.c sp.v st)with
   |some x0=>∃(J:sp.v.den->Prop),Sr Θ Γ H x (λe s=>match e with
     |.normal=>match settles s sp.aDJ with
      |some s1=>match Nat.beq s1.n st.n,sp.c.read (only sp.c sp.v s1),sp.v.read (only sp.c sp.v s1)with
       |true,some x1,some d=>x1=x0/\J d
       |_,_,_=>False
      |none=>False
     |e=>Q e s) st/\∀d,J d->Sr Θ Γ H y Q (joint st.n sp.c sp.v x0 d)
   |none=>False
 |.cond c x y,Q,st=>match st.ev c with
  |.sv (.one (.bool b))=>cond b (Sr Θ Γ H x Q st) (Sr Θ Γ H y Q st)
  |_=>False
 |.block id c,Q,st=>Sr Θ Γ H c (λe s=>match e with
  |.exit i=>match Nat.beq i id with|true=>Q .normal s|false=>Q (.exit i) s
  |e=>Q e s) st
 |.exit id,Q,st=>Q (.exit id) st
 |.ret,Q,st=>Q .ret st
 |.loop c,Q,st=>match Fz c with
  |some n=>match H.loops n with
   |some sp=>match settles st sp.aDJ with
    |some s0=>match sp.c.read (only sp.c sp.v s0),sp.v.read (only sp.c sp.v s0)with
     |some x0,some y0=>∃(I:sp.v.den->Prop)(f:sp.v.den->Nat),I y0/\∀y,I y->
       Sr Θ Γ H c (λe s=>match e with
        |.normal=>match settles s sp.aDJ with
         |some s1=>match Nat.beq s1.n s0.n,sp.c.read (only sp.c sp.v s1),sp.v.read (only sp.c sp.v s1)with
          |true,some x1,some d=>x1=x0/\I d/\f d<f y
          |_,_,_=>False
         |none=>False
        |e=>Q e s) (joint s0.n sp.c sp.v x0 y)
     |_,_=>False
    |none=>False
   |none=>False
  |none=>False
 |_,_,_=>False
theorem aik{G:oI}(hE:Ad P G Θ Γ w0 M)(hm:P.follows .mixedOrders=true)(H:Hints):∀(c:Code)(QA:Exit->St->Prop)(Q:Exit->Act->World->Prop)(st:St)(γ:Nat->Value)(a:Act)(w:World),
 Rel w0 M T γ st a w->Sr Θ Γ H c QA st->(∀e s γ' m w',QA e s->Rel w0 M T γ' s m w'->Q e m w')->c.wp P Q a w:=by
 intro c
 induction c with
 |skip=>intro QA Q st γ a w h r j;exact wp_skip (j _ _ _ _ _ r h)
 |region id ops d=>
  intro QA Q st γ a w h r j;cases d with
  |false=>
   obtain⟨s0,L,Y,hk0⟩:=Nu (K:=runs Θ Γ H.own ops.toList (QA .normal) ops.toList) (H.frz id) st γ h r
   grind [azr]
  |true=>
   obtain⟨s0,L,Y,hk0⟩:=Nu (K:=aaz Θ Γ H.own H.upd ops.toList (QA .normal)) (H.frz id) st γ h r
   grind [aFt]
 |seq x y ihx ihy=>
  intro QA Q st γ a w h r j;rw[Sr]at r;split at r
  .refine wp_seq (ihx _ _ st γ a w h r ?_);intro e s γ' m w' u q;cases e<;>first|exact ihy _ _ s γ' m w' q u j|exact j _ _ _ _ _ u q
  .next sp hsp=>
   split at r
   .next x0 hx=>
    obtain⟨J,C,O⟩:=r;refine wp_seq (ihx _ _ st γ a w h C ?_);intro e s γ' m w' u q;cases e with
    |normal=>
     simp only at u;split at u
     .next s1 hs1=>
      split at u
      .next x1 y1 hsn hx1 hy1=>obtain⟨rfl,E⟩:=u;obtain⟨γ1,hR1⟩:=Rel.settles _ q hs1;have o:=hR1.joint hx1 hy1;rw[aQq hsn]at o;exact ihy _ _ _ γ1 m w' o (O _ E) j
      grind
     grind
    |_=>exact j _ _ _ _ _ u q
   grind
 |cond c x y ihx ihy=>
  intro QA Q st γ a w h r j;rw[Sr]at r;split at r
  .next b U=>
   have R:a.eval c=.bool b:=by have:=lQ h c;rw[U]at this;exact this
   grind [wp_cond_split]
  grind
 |block id c ih=>
  intro QA Q st γ a w h r j;refine wp_block (ih _ _ st γ a w h r ?_);intro e s γ' m w' u q;cases e with
  |exit i=>
   simp only[Exit.inBlock];cases U:Nat.beq i id with
   |true=>
    grind [Nat.eq_of_beq_eq_true]
   |false=>
    rw[if_neg (by rintro rfl;simp at U)]
    grind
  |_=>exact j _ _ _ _ _ u q
 |loop c ih=>
  intro QA Q st γ a w h r j;rw[Sr]at r;split at r
  .split at r
   .next sp hsp=>
    split at r
    .next s0 hs0=>
     split at r
     .next x0 y0 hx hy=>
      obtain⟨I,W,Y,hI⟩:=r;obtain⟨L,hR0⟩:=Rel.settles _ h hs0
      let J:sp.v.den->Act->World->Prop:=λy m w'=>∃γ',Rel w0 M T γ' (joint s0.n sp.c sp.v x0 y) m w'
      have key:∀(n:Nat)(y:sp.v.den),W y=n->I y->∀m w',J y m w'->∀(b:Frame)(k:List Item)(A:List Frame),
       ∃e D F,Q e D F/\Arrives P (lone (b.at m (.code c:: .inLoop c::k)) A w') b k A e D F:=by
       intro n
       induction n using Nat.strongRecOn with
       |_ n ihn=>
        intro y hμ hy' m w' ⟨γ',q⟩ b k A;have t:=ih _ (Exit.then (λN S=>∃B,I B/\W B<W y/\J B N S) Q) _ γ' m w' q (hI y hy') ?_
        .obtain⟨e,a1,w1,u,g⟩:=t b (.inLoop c::k) A;cases e with
         |normal=>
          obtain⟨B,hI2,z,hJ2⟩:=u;obtain⟨e2,N,S,hq2,X⟩:=ihn (W B) (hμ▸z) B rfl hI2 a1 w1 hJ2 b k A;exact⟨e2,N,S,hq2,.of_steps (Steps.trans g (.one step_inLoop)) X⟩
         |exit id=>exact⟨_,a1,w1,u,.pass (x:=.inLoop c) rfl (λ_ _=>.inl ni) g⟩
         |goto l=>exact⟨_,a1,w1,u,.pass (x:=.inLoop c) rfl (λ_ _=>.inl ni) g⟩
         |ret=>exact⟨_,a1,w1,u,.pass (x:=.inLoop c) rfl (λ_ _=>.inl ni) g⟩
         |panic ch=>exact⟨_,a1,w1,u,.pass (x:=.inLoop c) rfl (λ_ _=>.inl ni) g⟩
         |outgrown=>exact⟨_,a1,w1,u,.pass (x:=.inLoop c) rfl (λ_ _=>.inl ni) g⟩
        .intro e s γ2 N S u o;cases e with
         |normal=>
          simp only at u;split at u
          .next s1 hs1=>
           split at u
           .next x1 y1 hsn hx1 hy1=>obtain⟨rfl,Z,z⟩:=u;obtain⟨γ3,hR3⟩:=Rel.settles _ o hs1;have E:=hR3.joint hx1 hy1;rw[aQq hsn]at E;exact⟨y1,Z,z,_,E⟩
           grind
          grind
         |_=>exact j _ _ _ _ _ u o
      intro b k A;obtain⟨e,m,w',u,g⟩:=key _ y0 rfl Y a w ⟨_,hR0.joint hx hy⟩ b k A;exact⟨e,m,w',u,.of_steps (.one step_loop) g⟩
     grind
    grind
   grind
  grind
 |rangeFunc f ps x y ihx ihy=>intro QA Q st γ a w h r j;exact r.elim
 |exit id=>intro QA Q st γ a w h r j;exact wp_exit (j _ _ _ _ _ r h)
 |scope c ih=>intro QA Q st γ a w h r j;exact r.elim
 |label l=>intro QA Q st γ a w h r j;exact r.elim
 |goto l=>intro QA Q st γ a w h r j;exact r.elim
 |ret=>intro QA Q st γ a w h r j;exact wp_ret (j _ _ _ _ _ r h)
 |refuse s=>intro QA Q st γ a w h r j;exact r.elim
def Arg.av:Arg->AV
 |.sv v=>.sv v
 |.kp cs=>.cO cs 0
 |.fn f caps=>.fn f caps
 |.own _ _ _|.ptr _=>.undef
def entry(n:Nat)(args:List Arg):St:=
 {n:=n,tmps:=λt=>match args[t]? with|some v=>v.av|none=>.undef,ak:=λ_=>none}
def aaA(st:St)(o:Nat):Bool:=match st.ak o with|some (.arr _ _ _ _)=>true|_=>false
def aqs(Θ:mD)(st:St):ResultVar->Option SV
 |.tmp t=>match st.tmps t with|.sv v=>some v|_=>none
 |.cell t ty=>match Θ ty,st.tmps t with
  |some ti,.aZ o off=>match st.ak o with
   |some (.var cs)=>qQ ti cs off
   |_=>none
  |_,_=>none
def YR(Θ:mD)(st:St):List ResultVar->Option (List SV)
 |[]=>some []
 |r::rs=>match aqs Θ st r,YR Θ st rs with
  |some v,some vs=>some (v::vs)
  |_,_=>none
def outOf:SV->Bool×List jg
 |.one c=>(false,[.plain c])
 |.agg cs=>(true,cs.map .plain)
def outs:List SV->List (Bool×List jg)
 |[]=>[]
 |v::vs=>outOf (v.kill λ_=>true)::outs vs
def fin(Θ:mD)(b:List ResultVar)(st:St):Option Out:=
 match YR Θ (st.freeze (aaA st)) b with
 |some vs=>some ⟨outs vs,none⟩
 |none=>none
theorem aaB:∀(k:Nat)(A:List Cell),qK k (A.map .plain)=(A,[])
 |_,[]=>rfl
 |k,c::A=>by simp only[aQB,qK,aaB (k+1) A,jg.take,aQY]
theorem aBM(k:Nat)(v:SV):Ea k (outOf v)=(v,[]):=by
 cases v with
 |one c=>rfl
 |agg cs=>simp only[Ea,outOf,aaB]
theorem aJ6(v:Value)(t:TypeId)(b m:Nat)(R:v=.pointer (some ⟨b,m,none⟩)):Instr.loadAt t v=(do loadVar t (← asAddr v)):=by subst R;rfl
def VY(tmps:Array Value):ResultVar->Sem Value
 |.tmp t=>pure (tmps.getD t undef)
 |.cell x t=>do loadVar t (← asAddr (tmps.getD x undef))
theorem aes(fn:Func)(tmps:Array Value):results fn tmps=(do let I ← fn.results.mapM (VY tmps);pure (if h:I.size=1 then I[0]else .tuple I)):=by congr 1
theorem azt(f:∀t g,Θ t=some g->qR P t g)(h:Rel w0 M T γ st a w){r:ResultVar}{v:SV}(X:aqs Θ st r=some v):
 ∃u,(VY a.tmps r).run P w=.ok u w/\ig (aI w0 T γ st w) v u:=by
 cases r with
 |tmp t=>
  simp only[aqs]at X;split at X
  .next e=>cases X;have:=h.tmps t;rw[e]at this;exact⟨_,rfl,this⟩
  .cases X
 |cell x t=>
  simp only[aqs]at X;split at X
  .next g o off ht hx=>
   split at X
   .next cs ho=>have R:=h.tmps x;rw[hx]at R;obtain⟨b,i,_,_,d⟩:=R;obtain⟨u,j,hr⟩:=aat f h ht (x:=.tmp x) (.inl ⟨o,off,cs,hx,ho,X⟩);refine⟨u,?_,hr⟩;rw[VY,← aJ6 _ t b off d];exact j
   .cases X
  .cases X
theorem YS(b:∀t e,Θ t=some e->qR P t e)(h:Rel w0 M T γ st a w):∀(rs:List ResultVar)(I:List SV),YR Θ st rs=some I->
 ∃n,(rs.mapM (VY a.tmps)).run P w=.ok n w/\
  iy (aI w0 T γ st w) I n
 |[],I,hf=>by cases hf;exact⟨[],rfl,trivial⟩
 |r::rs,I,hf=>by
  rw[YR]at hf;split at hf
  .next v vs' h1 h2=>
   cases hf;obtain⟨u,g,hr⟩:=azt b h h1;obtain⟨n,f,d⟩:=YS b h rs vs' h2;refine⟨u::n,?_,hr,d⟩
   simp_all
  .cases hf
theorem iy.length{X:V}:∀(A:List SV)(I:List Value),iy X A I->I.length=A.length
 |[],[],_=>rfl
 |_::A,_::I,⟨_,h⟩=>by simp[iy.length A I h]
 |[],_::_,H|_::_,[],H=>o7
theorem iy.get{X:V}:∀(A:List SV)(I:List Value)(i:Nat)(c:SV),iy X A I->A[i]? =some c->∃v,I[i]? =some v/\ig X c v
 |[],_,_,_,_,h=>yj
 |c::A,v::I,0,d,⟨h1,_⟩,h=>jv
 |c::A,v::I,i+1,d,⟨_,h2⟩,h=>by
  obtain⟨u,b,hr⟩:=iy.get A I i d h2 oQ;exact⟨u,by simpa using b,hr⟩
 |_::_,[],_,_,H,_=>o7
theorem vz.length{X:V}:∀(A:List Arg)(I:List Value),vz X A I->I.length=A.length
 |[],[],_=>rfl
 |_::A,_::I,⟨_,h⟩=>by simp[vz.length A I h]
 |[],_::_,H|_::_,[],H=>o7
theorem vz.get{X:V}:∀(A:List Arg)(I:List Value)(i:Nat)(c:Arg),vz X A I->A[i]? =some c->∃v,I[i]? =some v/\vw X c v
 |[],_,_,_,_,h=>yj
 |c::A,v::I,0,d,⟨h1,_⟩,h=>jv
 |c::A,v::I,i+1,d,⟨_,h2⟩,h=>by
  obtain⟨u,b,hr⟩:=vz.get A I i d h2 oQ;exact⟨u,by simpa using b,hr⟩
 |_::_,[],_,_,H,_=>o7
theorem vw.av{X:V}:∀(c:Arg)(v:Value),vw X c v->dB X c.av v
 |.sv _,_,h|.kp _,_,h|.fn _ _,_,h=>h
 |.own _ _ _,_,h|.ptr _,_,h=>h.elim
theorem aFu{args:List Arg}{I:Array Value}{S:Nat->Prop}(n:Nat)(H:args.length<=n)
 (h:vz ⟨w,w.heap.size,S,λ_=>undef,λ_=>none⟩ args I.toList):
 Rel w (λ_=>False) ⟨S,λ_=>none,λ_ _ h=>o5⟩ (λ_=>undef) (entry n args) {tmps:=I++Array.replicate (n-I.size) undef,defers:=[]} w:=by
 have W:I.size=args.length:=by simpa using vz.length _ _ h
 refine⟨λ_ h=>h.elim,rfl,?_,rfl,rfl,rfl,aQp _,λ_ _ _=>rfl,λt=>?_,(λo x Z=>vk),(λo x b Z=>vk),(λo x p y b Z=>vk),(λo v A d=>by cases d)⟩
 · grind [entry]
 .simp only[entry];cases r:args[t]? with
  |none=>trivial
  |some v=>
   obtain⟨u,f,hr⟩:=vz.get _ _ t v h r;have:(I++Array.replicate (n-I.size) undef).getD t undef=u:=by
    have e:t<args.length:=by
     grind
    simp_all [aSD]
   grind [vw.av]
end Go.Fw
namespace Go.Fw
def codeOf(fn:Func):Code:=match fn.body with|some c=>c|none=>.skip
def aqt:List (Nat×TI)->mD
 |[],_=>none
 |(t,x)::r,i=>match Nat.beq i t with|true=>some x|false=>aqt r i
def IV:List (Nat×Qg)->nI
 |[],_=>none
 |(t,x)::r,i=>match Nat.beq i t with|true=>some x|false=>IV r i
def aDK:List (Nat×UN)->Nat->Option UN
 |[],_=>none
 |(t,x)::r,i=>match Nat.beq i t with|true=>some x|false=>aDK r i
def aJu:List (Nat×List Pre)->Nat->List Pre
 |[],_=>[]
 |(n,z)::r,i=>match Nat.beq i n with|true=>z|false=>aJu r i
def hints(own:List Nat)(l c:List (Nat×UN))(u:List Nat)(z:List (Nat×List Pre)):Hints:=⟨cZ own,aDK l,aDK c,u,aJu z⟩
end Go.Fw
namespace Go.Fw
open Go
variable {P:Program} {Θ:mD} {Γ:nI}
inductive qH where
 |one (c:jr)
 |agg (l:List jr)
@[reducible] def qH.den:qH->Type
  |.one c=>c.den
  |.agg l=>ru l
def qH.val:(s:qH)->s.den->SV
 |.one c,x=>.one (c.cell x)
 |.agg l,x=>.agg (kW l x)
def qH.read:(s:qH)->SV->Option s.den
 |.one c,.one x=>c.read x
 |.agg l,.agg xs=>oh l xs
 |_,_=>none
theorem qH.weak{X:V}(s:qH)(x:SV)(d:s.den)(v:Value)(hr:s.read x=some d)(R:ig X x v):ig X (s.val d) v:=by
 unfold qH.read at hr;split at hr
 .exact jr.weak _ _ _ _ hr R
 .obtain⟨vs,e,h⟩:=R;exact⟨vs,e,OU _ _ _ _ hr h⟩
 .cases hr
@[reducible] def wz:List qH->Type
  |[]=>Unit
  |s::r=>s.den×wz r
def EK:(l:List qH)->wz l->List SV
 |[],_=>[]
 |s::r,x=>s.val x.1::EK r x.2
def acu:(l:List qH)->List SV->Option (wz l)
 |[],[]=>some ()
 |s::r,x::xs=>match s.read x,acu r xs with
  |some a,some b=>some (a,b)
  |_,_=>none
 |_,_=>none
theorem aFv{X:V}:∀(l:List qH)(q:List SV)(d:wz l)(I:List Value),acu l q=some d->iy X q I->iy X (EK l d) I
 |[],[],_,_,_,hv=>hv
 |s::r,x::q,d,I,hr,hv=>by
  rw[acu]at hr;split at hr
  .next a b h1 h2=>
   cases hr;cases I with
   |nil=>cases hv
   |cons v I=>exact⟨qH.weak s x a v h1 hv.1,aFv r q b I h2 hv.2⟩
  .cases hr
 |[],_::_,_,_,hr,_=>by grind [acu]
 |_::_,[],_,_,hr,_=>by grind [acu]
mutual
def CT.Ba:(c:CT)->c.den->Prop
 |.int k,(n:Int)=>k.min<=n/\n<=k.max
 |.bool,_=>True
 |.str,(s:Bytes)=>s.length<=maxLen
 |.sl _ r,(l:List r.den)=>l.length<=maxLen/\∀x∈l,r.Ba x
def aP.Ba:(r:aP)->r.den->Prop
 |.nil,_=>True
 |.cons c r,x=>c.Ba x.1/\r.Ba x.2
end
mutual
theorem iL.Ba{h:Array Obj}{S:Nat->Prop}:∀(c:CT)(v:Value)(x:c.den),iL h S c v x->c.Ba x
 |.int k,v,(n:Int),H=>by rw[iL]at H;rw[CT.Ba];exact H.2
 |.bool,v,(b:Bool),H=>by rw[CT.Ba];trivial
 |.str,v,(s:Bytes),H=>by rw[iL]at H;rw[CT.Ba];exact H.2
 |.sl e r,v,(l:List r.den),H=>by
  rw[iL]at H;rw[CT.Ba];refine⟨H.1,λx Z=>?_⟩;obtain⟨i,D,rfl⟩:=aSu.1 Z;rcases H.2 with⟨a,_⟩|⟨b,m,y,A,t,d,_,_,_,_,hr⟩
  .subst a;simp at D
  .exact dD.Ba r _ _ (hr i _ (aQD D))
theorem dD.Ba{h:Array Obj}{S:Nat->Prop}:∀(r:aP)(I:List Value)(x:r.den),dD h S r I x->r.Ba x
 |.nil,I,_,H=>by rw[aP.Ba];trivial
 |.cons c r,I,(x,y),H=>by rw[dD]at H;obtain⟨v,a,_,C,O⟩:=H;rw[aP.Ba];exact⟨iL.Ba c v x C,dD.Ba r a y O⟩
end
def jr.Ba:(c:jr)->c.den->Prop
 |.int k,(n:Int)=>k.min<=n/\n<=k.max
 |.str,(s:Bytes)=>s.length<=maxLen
 |.sl _ r _,(l:List r.den)=>l.length<=maxLen/\∀x∈l,r.Ba x
 |_,_=>True
def akS:(l:List jr)->ru l->Prop
 |[],_=>True
 |c::r,x=>c.Ba x.1/\akS r x.2
def qH.Ba:(s:qH)->s.den->Prop
 |.one c,x=>c.Ba x
 |.agg l,x=>akS l x
theorem jr.akT{X:V}(c:jr)(x:c.den)(v:Value)(h:bY X (c.cell x) v):c.Ba x:=by
 cases c with
 |int k=>exact h.2
 |str=>exact h.2
 |sl e r fr=>
  have a:iL X.w.heap (X.fG fr) (.sl e r) v x:=h;have:=iL.Ba (.sl e r) v x a;exact this
 |_=>trivial
theorem VZ{X:V}:∀(l:List jr)(x:ru l)(I:List Value),aC X (kW l x) I->akS l x
 |[],_,_,_=>trivial
 |c::r,x,v::I,h=>⟨jr.akT c x.1 v h.1,VZ r x.2 I h.2⟩
 |_::_,_,[],h=>o5
inductive jZ where
 |v (s:qH)
 |kp (l:List jr)
 |fn (f:FuncId) (l:List (List jr))
@[reducible] def jZ.den:jZ->Type
  |.v s=>s.den
  |.kp l=>ru l
  |.fn _ l=>JS l
def jZ.val:(s:jZ)->s.den->Arg
 |.v s,x=>.sv (s.val x)
 |.kp l,x=>.kp (kW l x)
 |.fn f l,x=>.fn f (VW l x)
def jZ.read:(s:jZ)->Arg->Option s.den
 |.v s,.sv x=>s.read x
 |.kp l,.kp xs=>oh l xs
 |.fn f l,.fn g xs=>match Nat.beq f g with|true=>Qi l xs|false=>none
 |_,_=>none
theorem jZ.weak{X:V}(s:jZ)(x:Arg)(d:s.den)(v:Value)(hr:s.read x=some d)(R:vw X x v):vw X (s.val d) v:=by
 unfold jZ.read at hr;split at hr
 .exact qH.weak _ _ _ _ hr R
 .obtain⟨b,e,j⟩:=R;exact⟨b,e,awy hr j⟩
 .split at hr
  .next hb=>obtain⟨n,e,j⟩:=R;rw[jZ.val,aQq hb];exact⟨n,e,aif _ _ _ _ hr j⟩
  .cases hr
 .cases hr
@[reducible] def oG:List jZ->Type
  |[]=>Unit
  |s::r=>s.den×oG r
def CX:(l:List jZ)->oG l->List Arg
 |[],_=>[]
 |s::r,x=>s.val x.1::CX r x.2
def Sv:(l:List jZ)->List Arg->Option (oG l)
 |[],[]=>some ()
 |s::r,x::xs=>match s.read x,Sv r xs with
  |some a,some b=>some (a,b)
  |_,_=>none
 |_,_=>none
theorem aqu{X:V}:∀(l:List jZ)(q:List Arg)(d:oG l)(I:List Value),Sv l q=some d->vz X q I->vz X (CX l d) I
 |[],[],_,_,_,hv=>hv
 |s::r,x::q,d,I,hr,hv=>by
  rw[Sv]at hr;split at hr
  .next a b h1 h2=>
   cases hr;cases I with
   |nil=>cases hv
   |cons v I=>exact⟨jZ.weak s x a v h1 hv.1,aqu r q b I h2 hv.2⟩
  .cases hr
 |[],_::_,_,_,hr,_=>by grind [Sv]
 |_::_,[],_,_,hr,_=>by grind [Sv]
theorem agq:∀(l:List jZ)(d:oG l),(CX l d).length=l.length
 |[],_=>rfl
 |_::r,d=>by simp[CX,agq r d.2]
def aun:(l:List (List jr))->JS l->Prop
 |[],_=>True
 |c::r,x=>akS c x.1/\aun r x.2
def jZ.Ba:(s:jZ)->s.den->Prop
 |.v s,x=>s.Ba x
 |.kp l,x=>akS l x
 |.fn _ l,x=>aun l x
def Vu:(l:List jZ)->oG l->Prop
 |[],_=>True
 |s::r,x=>s.Ba x.1/\Vu r x.2
theorem amQ{X:V}:∀(l:List (List jr))(x:JS l)(n:List Value),iV X (VW l x) n->aun l x
 |[],_,_,_=>trivial
 |c::r,x,u::n,h=>by
  obtain⟨⟨b,f,arr,t,a,d,e,N⟩,O⟩:=h;exact⟨VZ c x.1 _ N,amQ r x.2 n O⟩
 |_::_,_,[],h=>o5
theorem LX{X:V}:∀(l:List jZ)(x:oG l)(I:List Value),vz X (CX l x) I->Vu l x
 |[],_,_,_=>trivial
 |.v (.one c)::r,x,v::I,h=>⟨jr.akT c x.1 v h.1,LX r x.2 I h.2⟩
 |.v (.agg l)::r,x,v::I,h=>by
  obtain⟨i,R,N⟩:=h.1;exact⟨VZ l x.1 _ N,LX r x.2 I h.2⟩
 |.kp l::r,x,v::I,h=>by
  obtain⟨b,g,arr,t,a,d,e,N⟩:=h.1;exact⟨VZ l x.1 _ N,LX r x.2 I h.2⟩
 |.fn f l::r,x,v::I,h=>by
  obtain⟨n,R,j⟩:=h.1;exact⟨amQ l x.1 _ j,LX r x.2 I h.2⟩
 |_::_,_,[],h=>o5
def Sz(a:List jZ)(F:oG a->Prop×Out):VS:=λargs=>
 match Sv a args with
 |some x=>some (F x)
 |none=>none
def Nw:List SV->List (Bool×List jg)
 |[]=>[]
 |v::vs=>outOf v::Nw vs
theorem acv:∀(k:Nat)(I:List SV),lN k (Nw I)=(I,[])
 |_,[]=>rfl
 |k,v::I=>by simp only[Nw,lN,aBM,acv,aQY]
def aqv(Θ:mD)(a:List ResultVar)(fM:List qH)(K:wz fM->Prop)(e:Exit)(st:St):Prop:=
 match e with
 |.normal|.ret=>match YR Θ (st.freeze (aaA st)) a with
  |some vs=>match acu fM (vs.map (SV.kill λ_=>true))with
   |some d=>K d
   |none=>False
  |none=>False
 |_=>False
theorem aJ7{G:oI}(T:EnvB P G Θ Γ)(Y:P.follows .mixedOrders=true){f:FuncId}{fn:Func}{c:Code}(X:P.funcs[f]? =some fn)(U:fn.body=some c)(H:Hints){D:VS}{fM:List qH}
 (B:∀args p A,D args=some (p,A)->p->Nat.ble args.length fn.ntmps=true/\∃d:wz fM,A=⟨Nw (EK fM d),none⟩/\Sr Θ Γ H c (aqv Θ fn.results.toList fM λy=>y=d) (entry fn.ntmps args)):lY P G f D:=by
 intro args p A k S I w F J Z M;obtain⟨hn,d,L,hw⟩:=B args p A F J;subst L;have Q:args.length<=fn.ntmps:=x9;refine calls_of_wp X U (aik ⟨T,Z,λb U=>U.elim⟩ Y H c _ _ _ _ _ _ (aFu (S:=S) fn.ntmps Q M) hw ?_);have N:∀s t C i,aqv Θ fn.results.toList fM (λy=>y=d) .ret s->Rel w (λ_=>False) ⟨S,λ_=>none,λ_ _ h=>o5⟩ t s C i->bodyPost P fn (λe i=>∃v a,e=.returned v/\i.os=w.os/\i.tape=w.tape/\i.output=w.output/\w.heap.size<=i.heap.size/\
  (∀b,b<w.heap.size->i.heap[b]? =w.heap[b]?)/\
  dB ⟨i,w.heap.size,S,a,look (Out.take k ⟨Nw (EK fM d),none⟩).2⟩ (Out.take k ⟨Nw (EK fM d),none⟩).1 v/\
  (∀o x,look (Out.take k ⟨Nw (EK fM d),none⟩).2 o=some x->eF ⟨i,w.heap.size,S,a,look (Out.take k ⟨Nw (EK fM d),none⟩).2⟩ o x/\∀b,blk (a o)=some b->w.heap.size<=b/\b<i.heap.size)/\
  (∀o x q y b,look (Out.take k ⟨Nw (EK fM d),none⟩).2 o=some x->look (Out.take k ⟨Nw (EK fM d),none⟩).2 q=some y->o≠q->blk (a o)=some b->blk (a q)≠some b)) .ret C i:=by
  intro s t C i g z;refine⟨z.defers,?_⟩;simp only[aqv]at g;split at g
  .next svs hvs=>
   split at g
   .next y hy=>
    subst g;have E:=z.freeze (aaA s);obtain⟨n,hus,R⟩:=YS T.types E _ _ hvs;have O:=iy.kill (λ_=>true) E svs n R;have j:=aFv fM _ y n hy O;have m:Out.take k ⟨Nw (EK fM y),none⟩=(match EK fM y with|[v]=>.sv v|l=>.tJ l,[]):=by
     grind [Out.take,acv]
    have K:(fn.results.mapM (VY C.tmps)).run P i=.ok n.toArray i:=by
     simp_all [aSF]
    refine⟨if h:n.toArray.size=1 then n.toArray[0]else .tuple n.toArray,?_,_,t,rfl,z.os,z.tape,z.output,z.grow,λb U=>z.kept b U (λh=>h),?_,?_,?_⟩
    .rw[aes,aQS,K]
     simp_all
    .rw[m];have W:=iy.length _ _ j
     match Y:EK fM y,n,j,W with
     |[v],[u],j,_=>exact j.1
     |[],[],j,_=>exact⟨_,ni,j⟩
     |v::v2::r,u::u2::n,j,W=>exact⟨_,ni,j⟩
     |[],_::_,j,h4|_::_,[],j,h4|[_],_::_::_,j,h4|_::_::_,[_],j,h4=>simp at h4
    .intro o x hx;rw[m]at hx;cases hx
    .intro o x q y b hx;rw[m]at hx;cases hx
   grind
  grind
 intro e s t C i g z;cases e with
 |normal=>exact N s t C i g z
 |ret=>grind
 |_=>exact g.elim
def tq(a:List jZ)(fM:List qH)(F:oG a->Prop×wz fM):VS:=Sz a λx=>((F x).1,⟨Nw (EK fM (F x).2),none⟩)
theorem akU{G:oI}(h:EnvB P G Θ Γ)(j:P.follows .mixedOrders=true){f:FuncId}{fn:Func}{c:Code}(X:P.funcs[f]? =some fn)(U:fn.body=some c)(H:Hints)
 {b:List jZ} {fM:List qH} {F:oG b->Prop×wz fM} (l:Nat.ble b.length fn.ntmps=true)
 (e:∀x,Vu b x->(F x).1->Sr Θ Γ H c (aqv Θ fn.results.toList fM λy=>y=(F x).2) (entry fn.ntmps (CX b x))):lY P G f (tq b fM F):=by
 have base:∀x,Vu b x->lY P G f (λargs=>@ite _ (args=CX b x) (Classical.propDecidable _) (some ((F x).1,⟨Nw (EK fM (F x).2),none⟩)) none):=by
  intro x B;refine aJ7 (fM:=fM) h j X U H ?_
  grind [agq]
 intro args p g k S I w a J i d;unfold tq Sz at a;split at a
 .next x hx=>have R:=aqu b args x I.toList hx d;exact base x (LX b x _ R) (CX b x) p g k S I w jv J i R
 .cases a
inductive RC where
 |c (s:jr)
 |own (e:TypeId) (r:aP) (fr:Bool)
@[reducible] def RC.den:RC->Type
  |.c s=>s.den
  |.own _ r _=>List r.den
@[reducible] def aqw:List RC->Type
  |[]=>Unit
  |c::r=>c.den×aqw r
def RC.aDL:(c:RC)->c.den->jg
 |.c s,x=>.plain (s.cell x)
 |.own e r fr,l=>.own e r l fr
def auo:(l:List RC)->aqw l->List jg
 |[],_=>[]
 |c::r,x=>c.aDL x.1::auo r x.2
inductive nY where
 |one (c:RC)
 |agg (l:List RC)
@[reducible] def nY.den:nY->Type
  |.one c=>c.den
  |.agg l=>aqw l
@[reducible] def qg:List nY->Type
  |[]=>Unit
  |s::r=>s.den×qg r
def nY.out:(s:nY)->s.den->Bool×List jg
 |.one c,x=>(false,[c.aDL x])
 |.agg l,x=>(true,auo l x)
def lS:(l:List nY)->qg l->List (Bool×List jg)
 |[],_=>[]
 |s::r,x=>s.out x.1::lS r x.2
def RC.name:RC->Cell->Option Nat
 |.own _ _ _,.ref o=>some o
 |_,_=>none
def aup:List RC->List Cell->List (Option Nat)
 |c::r,x::xs=>c.name x::aup r xs
 |_,_=>[]
def nY.names:nY->SV->List (Option Nat)
 |.one c,.one x=>[c.name x]
 |.agg l,.agg xs=>aup l xs
 |_,_=>[]
def JU:List nY->List SV->List (Option Nat)
 |s::r,x::xs=>s.names x++JU r xs
 |_,_=>[]
def RC.read(st:St):(c:RC)->Cell->Option c.den
 |.c s,x=>match x.refs with|[]=>s.read x|_=>none
 |.own e r fr,.ref o=>match st.ak o with
  |some (.arr f s l g)=>match Nat.beq e f&&YQ fr g with
   |true=>if h:s.beq r=true then some (Cc h l)else none
   |false=>none
  |_=>none
 |.own _ r _,.nil=>match Nat.ble 1 r.len with|true=>some []|false=>none
 |_,_=>none
def acw(st:St):(l:List RC)->List Cell->Option (aqw l)
 |[],[]=>some ()
 |c::r,x::xs=>match c.read st x,acw st r xs with
  |some a,some b=>some (a,b)
  |_,_=>none
 |_,_=>none
def nY.read(st:St):(s:nY)->SV->Option s.den
 |.one c,.one x=>c.read st x
 |.agg l,.agg xs=>acw st l xs
 |_,_=>none
def LY(st:St):(l:List nY)->List SV->Option (qg l)
 |[],[]=>some ()
 |s::r,x::xs=>match s.read st x,LY st r xs with
  |some a,some b=>some (a,b)
  |_,_=>none
 |_,_=>none
inductive jL where
 |p (s:jZ)
 |own (e:TypeId) (r:aP)
 |ptr (l:List jr)
@[reducible] def jL.den:jL->Type
  |.p s=>s.den
  |.own _ r=>List r.den
  |.ptr l=>ru l
def jL.mode:jL->Mode
 |.p _=>.val
 |.own _ _=>.own
 |.ptr _=>.ptr
def jL.val:(s:jL)->s.den->Arg
 |.p s,x=>s.val x
 |.own e r,l=>.own e r l
 |.ptr l,x=>.ptr (kW l x)
def jL.read:(s:jL)->Arg->Option s.den
 |.p s,x=>s.read x
 |.own e r,.own f s l=>match Nat.beq e f with
  |true=>if h:s.beq r=true then some (Cc h l)else none
  |false=>none
 |.ptr l,.ptr cs=>oh l cs
 |_,_=>none
@[reducible] def lV:List jL->Type
  |[]=>Unit
  |s::r=>s.den×lV r
def EL:(l:List jL)->lV l->List Arg
 |[],_=>[]
 |s::r,x=>s.val x.1::EL r x.2
def mM:(l:List jL)->List Arg->Option (lV l)
 |[],[]=>some ()
 |s::r,x::xs=>match s.read x,mM r xs with
  |some a,some b=>some (a,b)
  |_,_=>none
 |_,_=>none
@[reducible] def o9:List jL->Type
  |[]=>Unit
  |.ptr l::r=>ru l×o9 r
  |.p _::r|.own _ _::r=>o9 r
def oW:(l:List jL)->o9 l->List Eff
 |[],_=>[]
 |.ptr l::r,x=>.var (kW l x.1)::oW r x.2
 |.p _::r,x|.own _ _::r,x=>.lose::oW r x
def V3(st:St):(i:Nat)->(l:List jL)->Option (o9 l)
 |_,[]=>some ()
 |i,.ptr l::r=>match st.ak (i*64+48),V3 st (i+1) r with
  |some (.var cs),some b=>match cs.flatMap Cell.refs,oh l cs with
   |[],some a=>some (a,b)
   |_,_=>none
  |_,_=>none
 |i,.p _::r|i,.own _ _::r=>V3 st (i+1) r
def Arg.avX(i:Nat):Arg->AV
 |.own _ _ _=>.sv (.one (.ref (i*64+49)))
 |.ptr _=>.aZ (i*64+48) 0
 |a=>a.av
def OW(n:Nat)(args:List Arg):St:=
 {n:=n,tmps:=λt=>match args[t]? with|some v=>v.avX t|none=>.undef,ak:=gK args}
def aqx(st:St)(W:List (Option Nat))(o:Nat):Bool:=aaA st o&&!(ahY o W)
def ayD(Θ:mD)(a:List ResultVar)(f:List jL)(fM:List nY)(K:qg fM×o9 f->Prop)(e:Exit)(st:St):Prop:=
 match e with
 |.normal|.ret=>match YR Θ st a with
  |some svs=>match YR Θ (st.freeze (aqx st (JU fM svs))) a with
   |some vs=>match GU (JU fM vs),LY (st.freeze (aqx st (JU fM svs))) fM vs,V3 (st.freeze (aqx st (JU fM svs))) 0 f with
    |true,some d,some b=>K (d,b)
    |_,_,_=>False
   |none=>False
  |none=>False
 |_=>False
def sW(a:List jL)(fM:List nY)(F:lV a->Prop×(qg fM×o9 a->Prop)):Ii:=λargs=>
 match mM a args with
 |some x=>some ((F x).1,⟨qg fM×o9 a,(F x).2,λt=>⟨lS fM t.1,none⟩,λt=>oW a t.2⟩)
 |none=>none
def EH(a:List jL):List Mode:=a.map jL.mode
end Go.Fw
namespace Go.Fw
open Go
variable {P:Program} {w0:World} {M:Nat->Prop} {T:Ext} {γ γ':Nat->Value} {st:St} {a:Act} {w w':World} {Θ:mD} {Γ:nI}
def auq(args:List Arg)(γ:Nat->Value)(o:Nat):Option Value:=match gK args o with|some (.var _)=>some (γ o)|_=>none
variable {args:List Arg}
theorem aHv{o:Nat}{A:List Cell}(h:gK args o=some (.var A)):o%64=48:=by
 unfold gK at h;split at h
 .split at h<;>cases h
 · grind [Nat.eq_of_beq_eq_true]
 .cases h
def ail(args:List Arg)(γ:Nat->Value)(S:Nat->Prop):Ext where
 S:=λb=>S b\/CW (gK args) γ b
 N:=auq args γ
 n48:=by
  intro p v h;unfold auq at h;split at h
  .next cs hc=>exact aHv hc
  .cases h
theorem F6.get{X:V}:∀(d:List Arg)(I:List Value)(i:Nat),F6 X i d I->d.length=I.length/\∀(j:Nat)(b:Arg),d[j]? =some b->∃v,I[j]? =some v/\YL X (i+j) b v
 |[],[],_,_=>⟨rfl,λj b h=>yj⟩
 |x::d,v::I,i,⟨h1,h2⟩=>by
  obtain⟨e,f⟩:=F6.get d I (i+1) h2;refine⟨by simp[e],λj b U=>?_⟩;cases j with
  |zero=>grind
  |succ j=>
   grind
 |[],_::_,_,H|_::_,[],_,H=>o7
theorem YL.av{X:V}(i:Nat):∀(c:Arg)(v:Value),YL X i c v->dB X (c.avX i) v
 |.own _ _ _,_,h=>h
 |.ptr _,_,h=>h
 |.sv _,_,h|.kp _,_,h|.fn _ _,_,h=>h
theorem aqy{I:Array Value}{S:Nat->Prop}(n:Nat)(H:args.length<=n)
 (h:F6 ⟨w,w.heap.size,S,γ,gK args⟩ 0 args I.toList)
 (z:∀o x,gK args o=some x->eF ⟨w,w.heap.size,S,γ,gK args⟩ o x/\∀b,blk (γ o)=some b->b<w.heap.size)
 (Y:∀o x q y b,gK args o=some x->gK args q=some y->o≠q->blk (γ o)=some b->blk (γ q)≠some b):
 Rel w (CW (gK args) γ) (ail args γ S) γ (OW n args) {tmps:=I++Array.replicate (n-I.size) undef,defers:=[]} w:=by
 obtain⟨s,d⟩:=F6.get _ _ 0 h;have W:I.size=args.length:=jv;have le:V.le ⟨w,w.heap.size,S,γ,gK args⟩ ⟨w,w.heap.size,(ail args γ S).S,γ,gK args⟩:=
  ⟨aQp _,λb U=>⟨⟨U.1,λf=>.inl (U.2.1 f),U.2.2⟩,rfl⟩,λo A Z=>⟨⟨A,Z⟩,rfl⟩,λo e r l j Z=>⟨⟨l,j,Z⟩,rfl⟩⟩
 refine⟨λb U=>.inr U,rfl,?_,rfl,rfl,rfl,aQp _,λ_ _ _=>rfl,λt=>?_,λo x Z=>eF.mono le o x (λ_ _=>rfl) rfl (z o x Z).1,λo x b Z U=>⟨(z o x Z).2 b U,.inr ⟨o,x,Z,U⟩⟩,λo x p y b Z F i U=>Y o x p y b Z F i U,λo v A k Z=>?_⟩
 · grind [OW]
 .simp only[OW];cases m:args[t]? with
  |none=>trivial
  |some v=>
   obtain⟨u,B,hr⟩:=d t v m;have:(I++Array.replicate (n-I.size) undef).getD t undef=u:=by
    have f:t<args.length:=by
     grind
    have g:t<I.size:=fC;rw[aSz,aSD g]
    grind
   grind [dB.mono,YL.av]
 .have hN':auq args γ o=some v:=k
  grind [auq]
def AW(a b:Arg):Prop:=
 (∃e r l,a=.own e r l/\b=.own e r l)\/(∃A d,a=.ptr A/\b=.ptr d/\∀(X:V) vs,aC X A vs->aC X d vs)\/
 ((∀(X:V) v,dB X a.av v->dB X b.av v)/\(∀i,a.avX i=a.av)/\(∀i,b.avX i=b.av)/\(∀e r l,a≠ .own e r l)/\(∀A,a≠ .ptr A)/\(∀e r l,b≠ .own e r l)/\(∀A,b≠ .ptr A))
theorem jZ.aDM{s:jZ}{x:Arg}{d:s.den}(h:s.read x=some d):AW x (s.val d):=by
 refine .inr (.inr ⟨λX v R=>?_,?_⟩)
 .have hx:vw X x v:=by
   cases x with
   |sv _|kp _|fn _ _=>exact R
   |own _ _ _|ptr _=>cases s<;>simp[jZ.read]at h
  grind [vw.av,jZ.weak]
 .cases x<;>cases s<;>first
   |(simp[jZ.read]at h;done)
   |exact⟨λ_=>rfl,λ_=>rfl,(λ_ _ _ e=>y5),(λ_ e=>y5),(λ_ _ _ e=>y5),(λ_ e=>y5)⟩
theorem jL.aDM{s:jL}{x:Arg}{d:s.den}(h:s.read x=some d):AW x (s.val d):=by
 unfold jL.read at h;split at h
 .exact jZ.aDM h
 .next e r f s l=>
  split at h
  .next hb=>
   split at h
   .next hs=>cases h;have g:=aQq hb;subst g;have b:=aP.eq_of_beq s r hs;subst b;exact .inl ⟨e,s,l,rfl,rfl⟩
   .cases h
  .cases h
 .next l cs=>exact .inr (.inl ⟨cs,_,rfl,rfl,λX I N=>OU _ _ _ _ h N⟩)
 .cases h
theorem XJ:∀{l:List jL}{q:List Arg}{d:lV l},mM l q=some d->(EL l d).length=q.length/\∀(i:Nat)(a:Arg),q[i]? =some a->∃e,(EL l d)[i]? =some e/\AW a e
 |[],[],_,_=>⟨rfl,λi a h=>yj⟩
 |s::r,x::q,d,h=>by
  rw[mM]at h;split at h
  .next a b h1 h2=>
   cases h;obtain⟨g,j⟩:=XJ h2;refine⟨by simp[EL,g],λi c N=>?_⟩;cases i with
   |zero=>simp at N;subst N;exact⟨_,rfl,jL.aDM h1⟩
   |succ i=>obtain⟨f,k,m⟩:=j i c (by simpa using N);exact⟨f,by simpa[EL]using k,m⟩
  .cases h
 |[],_::_,_,h=>XM
 |_::_,[],_,h=>XM
theorem awD{o:Nat}(h:∀b,args[o / 64]? =some b->(∀e r l,b≠ .own e r l)/\∀A,b≠ .ptr A):gK args o=none:=by
 unfold gK;split
 · grind
 · grind
 .rfl
theorem agr{m:List jL}{x:lV m}(h:mM m args=some x)(n:Nat):Covers (OW n (EL m x)) (OW n args):=by
 obtain⟨W,g⟩:=XJ h;refine⟨rfl,λt X v R=>?_,λo=>?_⟩
 .simp only[OW]at R ⊢;cases i:args[t]? with
  |none=>
   grind
  |some b=>
   obtain⟨u,f,q⟩:=g t b i;rw[i]at R;rw[f];rcases q with⟨e,r,l,rfl,rfl⟩|⟨A,j,rfl,rfl,_⟩|⟨q,z,d,_⟩
   .exact R
   .exact R
   grind
 .show(gK (EL m x) o=none/\gK args o=none)\/∃y s,gK args o=some y/\gK (EL m x) o=some s/\UM y s;cases i:args[o / 64]? with
  |none=>
   grind [awD]
  |some b=>
   obtain⟨u,f,q⟩:=g _ b i;rcases q with⟨e,r,l,rfl,rfl⟩|⟨A,j,rfl,rfl,N⟩|⟨_,_,_,B,C,D,E⟩
   .unfold gK;rw[i,f];cases k:Nat.beq (o%64) 49 with
    |true=>exact .inr ⟨_,_,rfl,rfl,.inr ⟨e,r,l,false,false,rfl,rfl,id⟩⟩
    |false=>grind
   .unfold gK;rw[i,f];cases k:Nat.beq (o%64) 48 with
    |true=>exact .inr ⟨_,_,rfl,rfl,.inl ⟨A,j,rfl,rfl,N⟩⟩
    |false=>grind
   grind [awD]
theorem amR(a b:List (Nat×bD))(p:Nat):look (a++b) p=match look b p with|some y=>some y|none=>look a p:=by
 induction a with
 |nil=>grind [look]
 |cons x a ih=>
  grind [look]
theorem GZ:∀(A:List jg)(k p:Nat)(x:bD),look (qK k A).2 p=some x↔∃i e r l b,p=k+i/\A[i]? =some (.own e r l b)/\x=.arr e r l b
 |[],k,p,x=>by simp[qK,look]
 |c::A,k,p,x=>by
  rw[qK,amR];have f:=GZ A (k+1) p x;constructor
  .intro h;split at h
   .next y hy=>cases h;obtain⟨i,e,r,l,b,C,O,K⟩:=(GZ A (k+1) p x).1 hy;exact⟨i+1,e,r,l,b,fC,by simpa using O,K⟩
   .next H=>
    cases c with
    |plain c=>simp[jg.take,look]at h
    |own e r l b=>
     simp only[jg.take,look]at h;split at h
     .next hb=>cases h;exact⟨0,e,r,l,b,x9,rfl,rfl⟩
     .cases h
  .rintro⟨i,e,r,l,b,C,O,rfl⟩;cases i with
   |succ i=>
    grind
   |zero=>
    have H:look (qK (k+1) A).2 p=none:=by
     cases W:look (qK (k+1) A).2 p with
     |none=>rfl
     |some y=>obtain⟨i,_,_,_,_,d,_⟩:=(GZ A (k+1) p y).1 W;omega
    simp_all [jg.take,look]
def XK(rs:List (Bool×List jg)):List jg:=rs.flatMap (·.2)
theorem aBN(k:Nat)(x:Bool×List jg):(Ea k x).2=(qK k x.2).2:=by
 unfold Ea;split
 · grind
 · grind
 grind
theorem Jz:∀(rs:List (Bool×List jg))(k p:Nat)(x:bD),look (lN k rs).2 p=some x↔∃i e r l b,p=k+i/\(XK rs)[i]? =some (.own e r l b)/\x=.arr e r l b
 |[],k,p,x=>by simp[lN,look,XK]
 |y::rs,k,p,x=>by
  rw[lN,amR,aBN];have d:XK (y::rs)=y.2++XK rs:=rfl;constructor
  .intro h;split at h
   .next z hz=>
    cases h;obtain⟨i,e,r,l,b,C,O,K⟩:=(Jz rs (k+y.2.length) p x).1 hz;refine⟨y.2.length+i,e,r,l,b,fC,?_,K⟩
    grind
   .obtain⟨i,e,r,l,b,C,O,K⟩:=(GZ y.2 k p x).1 h;refine⟨i,e,r,l,b,C,?_,K⟩
    grind
  .rintro⟨i,e,r,l,b,C,O,rfl⟩;rw[d]at O;rcases aQE i y.2.length with g|f
   .rw[aRj g]at O;have H:look (lN (k+y.2.length) rs).2 p=none:=by
     cases W:look (lN (k+y.2.length) rs).2 p with
     |none=>rfl
     |some z=>obtain⟨j,_,_,_,_,m,_⟩:=(Jz rs (k+y.2.length) p z).1 W;omega
    rw[H];exact(GZ y.2 k p _).2 ⟨i,e,r,l,b,C,O,rfl⟩
   .rw[aRR f]at O;have:=(Jz rs (k+y.2.length) p (.arr e r l b)).2 ⟨i-y.2.length,e,r,l,b,fC,O,rfl⟩;rw[this]
end Go.Fw
namespace Go.Fw
open Go
set_option linter.unusedVariables false
variable {P:Program} {w0:World} {M:Nat->Prop} {T:Ext} {γ γ':Nat->Value} {st:St} {a:Act} {w w':World} {Θ:mD} {Γ:nI}
def RF(Y:V)(c:jg)(v:Value)(n:Option Nat):Prop:=
 match c with
 |.plain x=>bY Y x v/\x.refs=[]
 |.own e r l fr=>0<r.len/\((∃o g,n=some o/\Y.ak o=some (.arr e r l g)/\YQ fr g=true/\v=Y.γ o/\v.oneCell'=true)\/(l=[]/\v=.slice none 0 0))
def OX(Y:V):List jg->List Value->List (Option Nat)->Prop
 |[],[],[]=>True
 |c::cs,v::vs,n::ns=>RF Y c v n/\OX Y cs vs ns
 |_,_,_=>False
theorem OX.append{Y:V}:∀(A:List jg)(I:List Value)(e:List (Option Nat))(b:List jg)(n:List Value)(d:List (Option Nat)),OX Y A I e->OX Y b n d->OX Y (A++b) (I++n) (e++d)
 |[],[],[],_,_,_,_,h=>h
 |_::A,_::I,_::e,b,n,d,⟨h1,h2⟩,h=>⟨h1,OX.append A I e b n d h2 h⟩
theorem OX.length{Y:V}:∀(A:List jg)(I:List Value)(b:List (Option Nat)),OX Y A I b->A.length=I.length
 |[],[],[],_=>rfl
 |_::A,_::I,_::b,⟨_,h2⟩=>by simp[OX.length A I b h2]
theorem OX.get{Y:V}:∀(A:List jg)(I:List Value)(b:List (Option Nat))(i:Nat)(c:jg),OX Y A I b->A[i]? =some c->∃v n,I[i]? =some v/\b[i]? =some n/\RF Y c v n
 |[],[],[],i,c,_,h=>yj
 |x::A,v::I,n::b,0,c,⟨h1,_⟩,h=>jv
 |x::A,v::I,n::b,i+1,c,⟨_,h2⟩,h=>by obtain⟨u,m,d,e,f⟩:=OX.get A I b i c h2 oQ;exact⟨u,m,adX,WR,f⟩
theorem jr.awE(c:jr)(x:Cell)(d:c.den)(h:c.read x=some d)(Z:x.refs=[]):(c.cell d).refs=[]:=by cases c<;>cases x<;>first|rfl|(simp[jr.read]at h;done)|(cases Z)
theorem RC.aCI{Y:V}(i:Y.ak=st.ak)(b:∀o e r l g,st.ak o=some (.arr e r l g)->0<r.len):∀(c:RC)(x:Cell)(d:c.den)(v:Value),c.read st x=some d->bY Y x v->RF Y (c.aDL d) v (c.name x):=by
 intro c x d v hr R;cases c with
 |c s=>
  rw[RC.read]at hr;split at hr
  .next hx=>exact⟨jr.weak s x d v hr R,jr.awE s x d hr hx⟩
  .cases hr
 |own e r fr=>
  cases x with
  |ref o=>
   simp only[RC.read]at hr;split at hr
   .next f s l g ho=>
    split at hr
    .next hb=>
     split at hr
     .next hs=>cases hr;rw[aQm]at hb;have j:=aQq hb.1;subst j;have h:=aP.eq_of_beq s r hs;subst h;exact⟨b _ _ _ _ _ ho,.inl ⟨o,g,rfl,by rw[i];exact ho,hb.2,R.2.1,R.2.2⟩⟩
     .cases hr
    .cases hr
   .cases hr
  |nil=>
   simp only[RC.read]at hr;split at hr
   .next hb=>cases hr;exact⟨aQO Nat.zero_lt_one x9,.inr ⟨rfl,R⟩⟩
   .cases hr
  |_=>simp[RC.read]at hr
theorem aqz{Y:V}(i:Y.ak=st.ak)(f:∀o e r l g,st.ak o=some (.arr e r l g)->0<r.len):∀(l:List RC)(q:List Cell)(d:aqw l)(I:List Value),acw st l q=some d->aC Y q I->OX Y (auo l d) I (aup l q)
 |[],[],_,[],_,_=>trivial
 |c::r,x::q,d,v::I,h,⟨h1,h2⟩=>by
  rw[acw]at h;split at h
  .next a b g1 g2=>cases h;exact⟨RC.aCI i f c x a v g1 h1,aqz i f r q b I g2 h2⟩
  .cases h
 |[],_::_,_,_,h,_=>by simp[acw]at h
 |_::_,[],_,_,h,_=>by simp[acw]at h
theorem nY.azv{Y:V}(f:Y.ak=st.ak)(b:∀o e r l g,st.ak o=some (.arr e r l g)->0<r.len):∀(s:nY)(x:SV)(d:s.den)(v:Value),s.read st x=some d->ig Y x v->OX Y (s.out d).2 v.cells.toList (s.names x)
 |.one c,.one x,d,v,h,hv=>by
  rw[RU v (bY.one x v hv)];exact⟨RC.aCI f b c x d v h hv,trivial⟩
 |.agg l,.agg xs,d,v,h,⟨vs,hv,hc⟩=>by
  rw[hv];exact aqz f b l xs d _ h hc
 |.one _,.agg _,_,_,h,_|.agg _,.one _,_,_,h,_=>by simp[nY.read]at h
theorem aqA{Y:V}(i:Y.ak=st.ak)(f:∀o e r l g,st.ak o=some (.arr e r l g)->0<r.len):∀(l:List nY)(q:List SV)(d:qg l)(I:List Value),LY st l q=some d->iy Y q I->
 OX Y (XK (lS l d)) (I.flatMap λv=>v.cells.toList) (JU l q)
 |[],[],_,[],_,_=>trivial
 |s::r,x::q,d,v::I,h,⟨h1,h2⟩=>by
  rw[LY]at h;split at h
  .next a b g1 g2=>cases h;exact OX.append _ _ _ _ _ _ (nY.azv i f s x a v g1 h1) (aqA i f r q b I g2 h2)
  .cases h
 |[],_::_,_,_,h,_=>by simp[LY]at h
 |_::_,[],_,_,h,_=>by simp[LY]at h
def Go1(Z:V)(k:Nat)(c:jg)(v:Value):Prop:=bY Z (c.take k).1 v
def Ui(Z:V):Nat->List jg->List Value->Prop
 |_,[],[]=>True
 |k,c::cs,v::vs=>Go1 Z k c v/\Ui Z (k+1) cs vs
 |_,_,_=>False
theorem Ui.of{Z:V}:∀(A:List jg)(I:List Value)(k:Nat),A.length=I.length->(∀i c v,A[i]? =some c->I[i]? =some v->Go1 Z (k+i) c v)->Ui Z k A I
 |[],[],_,_,_=>trivial
 |c::A,v::I,k,hl,h=>⟨h 0 c v rfl rfl,Ui.of A I (k+1) (by simpa using hl) λi b d C O=>by
   have:=h (i+1) b d (by simpa using C) (by simpa using O)
   grind⟩
theorem Ui.split{Z:V}:∀(A:List jg)(I:List Value)(b:List jg)(n:List Value)(k:Nat),A.length=I.length->Ui Z k (A++b) (I++n)->Ui Z k A I/\Ui Z (k+A.length) b n
 |[],[],_,_,_,_,h=>⟨trivial,h⟩
 |c::A,v::I,b,n,k,hl,⟨h1,h2⟩=>by obtain⟨d,e⟩:=Ui.split A I b n (k+1) (by simpa using hl) h2;exact⟨⟨h1,d⟩,jv⟩
theorem Ui.cells{Z:V}:∀(A:List jg)(I:List Value)(k:Nat),Ui Z k A I->aC Z (qK k A).1 I
 |[],[],_,_=>trivial
 |c::A,v::I,k,⟨h1,h2⟩=>⟨h1,Ui.cells A I (k+1) h2⟩
theorem nY.go{Y Z:V}:∀(s:nY)(x:SV)(d:s.den)(v:Value)(k:Nat),s.read st x=some d->ig Y x v->Ui Z k (s.out d).2 v.cells.toList->ig Z (Ea k (s.out d)).1 v
 |.one c,.one x,d,v,k,h,hv,hg=>by
  rw[RU v (bY.one x v hv)]at hg;exact hg.1
 |.agg l,.agg xs,d,v,k,h,⟨vs,hv,hc⟩,hg=>by
  rw[hv]at hg ⊢;exact⟨vs,rfl,Ui.cells _ _ _ hg⟩
 |.one _,.agg _,_,_,_,h,_,_|.agg _,.one _,_,_,_,h,_,_=>by simp[nY.read]at h
theorem awF{Y Z:V}(i:Y.ak=st.ak)(f:∀o e r l g,st.ak o=some (.arr e r l g)->0<r.len):∀(l:List nY)(q:List SV)(d:qg l)(I:List Value)(k:Nat),LY st l q=some d->iy Y q I->
 Ui Z k (XK (lS l d)) (I.flatMap λv=>v.cells.toList)->iy Z (lN k (lS l d)).1 I
 |[],[],_,[],_,_,_,_=>trivial
 |s::r,x::q,d,v::I,k,h,⟨h1,h2⟩,hg=>by
  rw[LY]at h;split at h
  .next a b g1 g2=>cases h;have W:=OX.length _ _ _ (nY.azv i f s x a v g1 h1);obtain⟨j,m⟩:=Ui.split _ _ _ _ k W hg;exact⟨nY.go s x a v k g1 h1 j,awF i f r q b I _ g2 h2 m⟩
  .cases h
 |[],_::_,_,_,_,h,_,_=>by simp[LY]at h
 |_::_,[],_,_,_,h,_,_=>by simp[LY]at h
theorem amS:∀(l:List jr)(q:List Cell)(d:ru l),oh l q=some d->q.flatMap Cell.refs=[]->(kW l d).flatMap Cell.refs=[]
 |[],[],_,_,_=>rfl
 |c::r,x::q,d,h,hx=>by
  rw[oh]at h;split at h
  .next a b g1 g2=>cases h;rw[aRf,aQV]at hx;show(c.cell a::kW r b).flatMap Cell.refs=[];rw[aRf,jr.awE c x a g1 hx.1,amS r q b g2 hx.2,aQY]
  .cases h
 |[],_::_,_,h,_=>by simp[oh]at h
 |_::_,[],_,h,_=>by simp[oh]at h
theorem XL:∀(f:List jL)(i:Nat)(b:o9 f),V3 st i f=some b->∀(j:Nat)(e:Eff),(oW f b)[j]? =some e->
 e=.lose\/∃l A d,f[j]? =some (.ptr l)/\e=.var A/\st.ak ((i+j)*64+48)=some (.var d)/\d.flatMap Cell.refs=[]/\A.flatMap Cell.refs=[]/\∀(X:V) I,aC X d I->aC X A I
 |[],_,_,_,j,e,he=>by grind [oW]
 |.ptr l::r,i,b,h,j,e,he=>by
  rw[V3]at h;split at h
  .next A b' hx hb=>
   split at h
   .next a hr ha=>
    cases h;cases j with
    |zero=>
     simp[oW]at he;subst he;exact .inr ⟨l,_,A,rfl,rfl,by simpa using hx,hr,amS _ _ _ ha hr,λX I N=>OU _ _ _ _ ha N⟩
    |succ j=>
     rcases XL r (i+1) b' hb j e (by simpa[oW]using he)with h|⟨l,cs',d,h1,h2,h3,h4⟩
     .exact .inl h
     .exact .inr ⟨l,cs',d,by simpa using h1,h2,by rw[show i+(j+1)=i+1+j from fC];exact h3,h4⟩
   .cases h
  .cases h
 |.p _::r,i,b,h,j,e,he|.own _ _::r,i,b,h,j,e,he=>by
  rw[V3]at h;cases j with
  |zero=>simp[oW]at he;exact .inl he.symm
  |succ j=>
   rcases XL r (i+1) b h j e (by simpa[oW]using he)with h|⟨l,cs',d,h1,h2,h3,h4⟩
   .exact .inl h
   .exact .inr ⟨l,cs',d,by simpa using h1,h2,by rw[show i+(j+1)=i+1+j from fC];exact h3,h4⟩
theorem aqB:∀{e:List jL}{q:List Arg}{d:lV e},mM e q=some d->∀(j:Nat)(l:List jr),e[j]? =some (.ptr l)->∃A,q[j]? =some (.ptr A)
 |[],[],_,_,j,l,h=>yj
 |s::r,x::q,d,h,j,l,hj=>by
  rw[mM]at h;split at h
  .next a b h1 h2=>
   cases j with
   |zero=>
    simp at hj;subst hj;cases x with
    |ptr A=>grind
    |_=>simp[jL.read]at h1
   |succ j=>obtain⟨A,N⟩:=aqB h2 j l (by simpa using hj);exact⟨A,by simpa using N⟩
  .cases h
 |[],_::_,_,h,_,_,_=>jv
 |_::_,[],_,h,_,_,_=>XM
variable {sh:List jL}
theorem aFw{b:o9 sh}(U:V3 st 0 sh=some b){q:Nat}{y:bD}(h:uH (oW sh b) q=some y):
 q%64=48/\∃l A d,sh[q / 64]? =some (.ptr l)/\y=.var A/\st.ak q=some (.var d)/\d.flatMap Cell.refs=[]/\A.flatMap Cell.refs=[]/\∀(X:V) vs,aC X d vs->aC X A vs:=by
 unfold uH at h;split at h
 · grind [XL]
 · grind [Nat.eq_of_beq_eq_true,XL]
 .cases h
def jL.Ba:(s:jL)->s.den->Prop
 |.p s,x=>s.Ba x
 |.own _ r,(l:List r.den)=>∀x∈l,r.Ba x
 |.ptr l,x=>akS l x
def SA:(l:List jL)->lV l->Prop
 |[],_=>True
 |s::r,x=>s.Ba x.1/\SA r x.2
theorem jZ.akT{X:V}(s:jZ)(x:Arg)(d:s.den)(v:Value)(h:s.read x=some d)(hr:vw X x v):s.Ba d:=
 (LX (X:=X) [s] (d,()) [v] ⟨jZ.weak s x d v h hr,trivial⟩).1
theorem aim{X:V}{args:List Arg}(z:∀o x,gK args o=some x->eF X o x):∀(sh:List jL)(q:List Arg)(d:lV sh)(I:List Value)(i:Nat),(∀j a,q[j]? =some a->args[i+j]? =some a)->
 mM sh q=some d->F6 X i q I->SA sh d
 |[],[],_,_,_,_,_,_=>trivial
 |s::r,x::q,d,v::I,i,hj,h,⟨hv,hvs⟩=>by
  rw[mM]at h;split at h
  .next a b h1 h2=>
   cases h;refine⟨?_,aim z r q b I (i+1) (λj c N=>by have:=hj (j+1) c (by simpa using N);grind) h2 hvs⟩;have Z:args[i]? =some x:=hj 0 x rfl;cases s with
   |p s=>
    have g:s.read x=some a:=by grind [jL.read]
    refine jZ.akT (X:=X) s x a v g ?_;cases x with
    |own _ _ _|ptr _=>cases s<;>simp[jZ.read]at g
    |_=>exact hv
   |own e r'=>
    cases x with
    |own f s' l=>
     have g:(match Nat.beq e f with|true=>if h:s'.beq r'=true then some (Cc h l)else none|false=>none)=some a:=h1;split at g
     .split at g
      .next hb hs=>
       cases g;have t:=aP.eq_of_beq s' r' hs;subst t;have m:gK args (i*64+49)=some (.arr f s' l false):=by
        unfold gK;rw[show(i*64+49) / 64=i from fC,Z]
        simp_all
       obtain⟨n,_,_,_,k⟩:=z _ _ m;intro y F;have u:y∈l:=F;obtain⟨j,A,B⟩:=aSu.1 u;exact dD.Ba s' _ _ (k j y jv)
      .cases g
     .cases g
    |_=>simp[jL.read]at h1
   |ptr l=>
    cases x with
    |ptr cs=>
     have g:oh l cs=some a:=h1;have m:gK args (i*64+48)=some (.var cs):=by
      unfold gK;rw[show(i*64+48) / 64=i from fC,Z]
      simp_all
     obtain⟨_,arr,_,_,_,N⟩:=z _ _ m;exact VZ l a _ (OU _ _ _ _ g N)
    |_=>simp[jL.read]at h1
  .cases h
 |[],_::_,_,_,_,_,h,_=>XM
 |_::_,[],_,_,_,_,h,_=>XM
theorem Xa:∀(l:List jL)(d:lV l),(EL l d).length=l.length
 |[],_=>rfl
 |_::r,d=>by simp[EL,Xa r d.2]
theorem Out.aHw(rs:List (Bool×List jg))(k:Nat):((⟨rs,none⟩:Out).take k).2=(lN k rs).2:=by
 grind [Out.take]
theorem Out.aHx(rs:List (Bool×List jg))(k:Nat):((⟨rs,none⟩:Out).take k).1=(match (lN k rs).1 with|[v]=>AV.sv v|vs=>.tJ vs):=by
 grind [Out.take]
theorem aNE{args:List Arg}{S:Nat->Prop}{fM:List nY}{x:lV sh}(hx:mM sh args=some x){d:qg fM}{b:o9 sh}{k:Nat}{I:List SV}{L:List Value}
 (hR:Rel w (CW (gK args) γ) (ail args γ S) γ' st a w') (hrs:iy (aI w (ail args γ S) γ' st w') I L) (hnd:GU (JU fM I)=true) (hrd:LY st fM I=some d) (hbk:V3 st 0 sh=some b)
 (hap:∀o x,look ((⟨lS fM d,none⟩:Out).take k).2 o=some x->uH (oW sh b) o=none):
 ∃B,dB ⟨w',w.heap.size,xW S args (oW sh b) γ,B,look ((⟨lS fM d,none⟩:Out).take k).2⟩ ((⟨lS fM d,none⟩:Out).take k).1 (if h:L.toArray.size=1 then L.toArray[0]else .tuple L.toArray)/\
  (∀o x,look ((⟨lS fM d,none⟩:Out).take k).2 o=some x->eF ⟨w',w.heap.size,xW S args (oW sh b) γ,B,look ((⟨lS fM d,none⟩:Out).take k).2⟩ o x/\
    ∀m,blk (B o)=some m->m<w'.heap.size/\(w.heap.size<=m\/CW (gK args) γ m)/\∀q y,uH (oW sh b) q=some y->blk (γ q)≠some m)/\
  (∀o x q y m,look ((⟨lS fM d,none⟩:Out).take k).2 o=some x->look ((⟨lS fM d,none⟩:Out).take k).2 q=some y->o≠q->blk (B o)=some m->blk (B q)≠some m)/\
  (∀o x,uH (oW sh b) o=some x->B o=γ o/\eF ⟨w',w.heap.size,xW S args (oW sh b) γ,B,look ((⟨lS fM d,none⟩:Out).take k).2⟩ o x):=by
 rw[Out.aHw]at hap ⊢;rw[Out.aHx]
 skip
 let Y:V:=aI w (ail args γ S) γ' st w'
 let fv:List Value:=L.flatMap λv=>v.cells.toList
 let bP:=oW sh b
 let B:Nat->Value:=λp=>match uH bP p with|some _=>γ p|none=>fv.getD (p-k) undef
 let Z:V:=⟨w',w.heap.size,xW S args bP γ,B,look (lN k (lS fM d)).2⟩
 have hpos:∀o e r l g,st.ak o=some (.arr e r l g)->0<r.len:=λo e r l g z=>by obtain⟨_,_,h,_⟩:=hR.ak o _ z;exact h
 have hF:OX Y (XK (lS fM d)) fv (JU fM I):=aqA (st:=st) rfl hpos fM I d L hrd hrs;have hbq:∀q y,uH bP q=some y->γ' q=γ q/\∃A E,y=.var A/\st.ak q=some (.var E)/\E.flatMap Cell.refs=[]/\A.flatMap Cell.refs=[]/\∀(X:V) I,aC X E I->aC X A I:=by
  intro q y hq;obtain⟨hm,l,A,E,C,O,K,h4,h5,h6⟩:=aFw hbk hq;refine⟨?_,A,E,O,K,h4,h5,h6⟩;obtain⟨ci,hci⟩:=aqB hx _ l C;have z:gK args q=some (.var ci):=by
   simp_all [gK]
  have hN:(ail args γ S).N q=some (γ q):=by
   show auq args γ q=_
   grind [auq]
  exact hR.pin q _ _ hN K
 have hG:∀p X,look (lN k (lS fM d)).2 p=some X->∃i e r l F,p=k+i/\(XK (lS fM d))[i]? =some (.own e r l F)/\X=.arr e r l F/\0<r.len/\
  ((∃o g,(JU fM I)[i]? =some (some o)/\st.ak o=some (.arr e r l g)/\YQ F g=true/\B p=γ' o/\(B p).oneCell'=true)\/(l=[]/\B p=.slice none 0 0)):=by
  intro p X J;obtain⟨i,e,r,l,F,C,O,K⟩:=(Jz _ k p X).1 J;obtain⟨v,n,g1,g2,hr,R⟩:=OX.get _ _ _ i _ hF O
  grind
 have akQ:∀m,Y.foot m->Z.foot m:=by
  intro m s;refine⟨s.1,λhlt=>⟨s.2.1 hlt,λq y hq=>?_⟩,λp X J=>?_⟩
  .obtain⟨f,A,E,_,K,_⟩:=hbq q y hq;rw[← f];exact s.2.2 q _ K
  .obtain⟨i,e,r,l,F,_,_,_,_,N⟩:=hG p X J;show blk (B p)≠some m;rcases N with⟨o,g,_,z,_,f,_⟩|⟨_,f⟩
   .rw[f];exact s.2.2 o _ z
   .rw[f];intro h;cases h
 have aFx:∀F m,Y.fG F m->Z.fG F m:=λF m h=>⟨akQ m h.1,h.2⟩;have hgo:Ui Z k (XK (lS fM d)) fv:=by
  refine Ui.of _ _ _ (OX.length _ _ _ hF) λi c v N R=>?_;obtain⟨v',n,g1,g2,g3⟩:=OX.get _ _ _ i c hF N;rw[R]at g1;cases g1;cases c with
  |plain x=>
   exact(Qh (Y:=Y) (Z:=Z) rfl aFx [x] [v] (by simpa using g3.2) ⟨g3.1,trivial⟩).1
  |own e r l F=>
   have J:look (lN k (lS fM d)).2 (k+i)=some (.arr e r l F):=(Jz _ k _ _).2 ⟨i,e,r,l,F,rfl,N,rfl⟩;have f:B (k+i)=v:=by
    grind
   refine⟨⟨e,r,l,F,J⟩,f.symm,?_⟩;rcases g3.2 with⟨_,_,_,_,_,_,h⟩|⟨_,h⟩
   .exact h
   .rw[h];rfl
 have hsv:iy Z (lN k (lS fM d)).1 L:=awF (st:=st) (Y:=Y) rfl hpos fM I d L k hrd hrs hgo;refine⟨B,?_,λp X J=>?_,λp X q X' m J hq hne Q W=>?_,λq y hq=>?_⟩
 .have hl:=iy.length _ _ hsv
  match hm:(lN k (lS fM d)).1,L,hsv,hl with
  |[v],[u],hk,_=>exact hk.1
  |[],[],hk,_=>exact⟨_,ni,hk⟩
  |v::v2::r,u::u2::L,hk,hl=>exact⟨_,ni,hk⟩
  |[],_::_,hk,h4|_::_,[],hk,h4|[_],_::_::_,hk,h4|_::_::_,[_],hk,h4=>simp at h4
 .obtain⟨i,e,r,l,F,_,_,rfl,hr,N⟩:=hG p X J;rcases N with⟨o,g,_,z,U,f,_⟩|⟨rfl,f⟩
  .have hO:eF Y o (.arr e r l g):=hR.ak o _ z;have hold:∀m,blk (γ' o)=some m->F=true->w.heap.size<=m:=by
    intro m s hfr;subst hfr;have hg:g=true:=U;subst hg;obtain⟨_,_,_,H,_⟩:=hO
    grind
   refine⟨eF.aum (Y:=Y) (Z:=Z) hO f rfl (λm s=>⟨akQ m s.1,λhfr=>s.2 ?_⟩) hold,λm s=>?_⟩
   .subst hfr;exact U
   .rw[f]at s;obtain⟨C,O⟩:=hR.lt o _ m z s;refine⟨C,O,λq y hq=>?_⟩;obtain⟨hγq,A,E,_,K,_⟩:=hbq q y hq;rw[← hγq];refine hR.sep o _ q _ m z K ?_ s
    grind
  .refine⟨⟨[],⟨ni,.inl ⟨f,rfl⟩⟩,hr,(λm s=>by grind [blk]),λi x D=>by simp at D⟩,λm s=>by rw[f]at s;cases s⟩
 .obtain⟨i,e,r,l,F,D,_,_,_,N⟩:=hG p X J;obtain⟨j,e',r',l',fr',hj,_,_,_,hc'⟩:=hG q X' hq;rcases N with⟨o,g,H,z,_,f,_⟩|⟨_,f⟩
  .rcases hc' with⟨o',g',hn',ho',_,hγ',_⟩|⟨_,hγ'⟩
   .rw[f]at Q;rw[hγ']at W;have:o≠o':=by
     grind [abv]
    exact hR.sep o _ o' _ m z ho' this Q W
   .rw[hγ']at W;cases W
  .rw[f]at Q;cases Q
 .obtain⟨f,A,E,rfl,K,h4,h5,h6⟩:=hbq q y hq;have LV:B q=γ q:=by
   grind
  refine⟨LV,?_⟩;obtain⟨m,arr,t,k1,k2,k3⟩:=hR.ak q _ K;refine⟨m,arr,t,?_,k2,Qh (Y:=Y) (Z:=Z) rfl aFx _ _ h5 (h6 _ _ k3)⟩
  grind
theorem akV{G:oI}(hE:EnvB P G Θ Γ)(hm:P.follows .mixedOrders=true){f:FuncId}{fn:Func}{c:Code}(hf:P.funcs[f]? =some fn)(U:fn.body=some c)(H:Hints)
  {fM:List nY} {F:lV sh->Prop×(qg fM×o9 sh->Prop)} (hn:Nat.ble sh.length fn.ntmps=true) (hne:∀x,(F x).1->∃t,(F x).2 t)
 (D:∀x,SA sh x->(F x).1->Sr Θ Γ H c (ayD Θ fn.results.toList sh fM (F x).2) (OW fn.ntmps (EL sh x))):kM P G f (sW sh fM F):=by
 intro args p ρ l J;unfold sW at l;split at l
 case h_2=>cases l
 next x Z=>
 cases l;refine⟨hne x J,λk S γ I w hG u Y R hap=>?_⟩;have L:=(XJ Z).1;rw[Xa]at L;have hn':args.length<=fn.ntmps:=x9;have B:SA sh x:=aim (λo X z=>(Y o X z).1) sh args x I.toList 0 (λj a h=>jv) Z u;have hR0:=aqy (S:=S) fn.ntmps hn' u (λo X z=>⟨(Y o X z).1,λb U=>((Y o X z).2 b U).1⟩) R;have hR1:=hR0.covers (agr Z fn.ntmps);refine calls_of_wp hf U (aik ⟨hE,hG,λb U=>?_⟩ hm H c _ _ _ _ _ _ hR1 (D x B J) ?_)
 .obtain⟨o,X,z,U⟩:=U
  grind
 intro e s γ' a' w' g A;have Q:∃(n:List Value)(t:qg fM×o9 sh),(fn.results.mapM (VY a'.tmps)).run P w'=.ok n.toArray w'/\(F x).2 t/\∃i,
  dB ⟨w',w.heap.size,xW S args (oW sh t.2) γ,i,look ((⟨lS fM t.1,none⟩:Out).take k).2⟩ ((⟨lS fM t.1,none⟩:Out).take k).1 (if h:n.toArray.size=1 then n.toArray[0]else .tuple n.toArray)/\
  (∀o E,look ((⟨lS fM t.1,none⟩:Out).take k).2 o=some E->eF ⟨w',w.heap.size,xW S args (oW sh t.2) γ,i,look ((⟨lS fM t.1,none⟩:Out).take k).2⟩ o E/\
    ∀b,blk (i o)=some b->b<w'.heap.size/\(w.heap.size<=b\/CW (gK args) γ b)/\∀q y,uH (oW sh t.2) q=some y->blk (γ q)≠some b)/\
  (∀o E q y b,look ((⟨lS fM t.1,none⟩:Out).take k).2 o=some E->look ((⟨lS fM t.1,none⟩:Out).take k).2 q=some y->o≠q->blk (i o)=some b->blk (i q)≠some b)/\
  (∀o E,uH (oW sh t.2) o=some E->i o=γ o/\eF ⟨w',w.heap.size,xW S args (oW sh t.2) γ,i,look ((⟨lS fM t.1,none⟩:Out).take k).2⟩ o E):=by
  have he':(e=.normal\/e=.ret)/\ayD Θ fn.results.toList sh fM (F x).2 .ret s:=by
   cases e with
   |normal=>exact⟨.inl rfl,g⟩
   |ret=>grind
   |_=>exact g.elim
  have m:=he'.2;simp only[ayD]at m;split at m
  .next svs aPM=>
   split at m
   .next vs' hvs'=>
    split at m
    .next d b hnd hd hb'=>
     have N:=A.freeze (aqx s (JU fM svs));obtain⟨n,W,hrs⟩:=YS hE.types N _ _ hvs';refine⟨n,(d,b),?_,m,aNE Z N hrs hnd hd hb' (hap (d,b) m)⟩
     simp_all [aSF]
    grind
   grind
  grind
 obtain⟨n,t,W,ht,i,C,O,K,h4⟩:=Q;have r:bodyPost P fn (λe w'=>∃t,(F x).2 t/\aau S args γ w k ⟨lS fM t.1,none⟩ (oW sh t.2) e w') .ret a' w':=by
  refine⟨A.defers,if h:n.toArray.size=1 then n.toArray[0]else .tuple n.toArray,?_,t,ht,_,i,rfl,A.os,A.tape,A.output,A.grow,A.kept,C,O,K,h4⟩;rw[aes,aQS,W]
  simp_all
 cases e with
 |normal=>exact r
 |ret=>exact r
 |_=>exact g.elim
def ayE(b:List ResultVar)(l:List jr)(K:ru l->Prop)(e:Exit)(st:St):Prop:=
 match e with
 |.normal|.ret=>match b with
  |[.tmp t]=>match st.tmps t with
   |.aZ o off=>match Nat.beq off 0,(st.freeze (aaA st)).ak o with
    |true,some (.var cs)=>match cs.flatMap Cell.refs,oh l cs with
     |[],some d=>K d
     |_,_=>False
    |_,_=>False
   |_=>False
  |_=>False
 |_=>False
def loses(sh:List jL):List Eff:=sh.map λ_=>.lose
def aHy(sh:List jL)(l:List jr)(F:lV sh->Prop×(ru l->Prop)):Ii:=λargs=>
 match mM sh args with
 |some x=>some ((F x).1,⟨ru l,(F x).2,λt=>⟨[],some (kW l t)⟩,λ_=>loses sh⟩)
 |none=>none
theorem aeu(sh:List jL)(q:Nat):uH (loses sh) q=none:=by
 grind [uH,loses]
theorem acy:∀(l:List jr)(A:List Cell)(d:ru l),oh l A=some d->A.flatMap Cell.refs=[]->(kW l d).flatMap Cell.refs=[]
 |[],[],_,_,_=>rfl
 |c::l,x::xs,d,h,hn=>by
  rw[oh]at h;rw[aRf,aQV]at hn;split at h
  .next p q hp hq=>
   cases h;show((c.cell p)::kW l q).flatMap Cell.refs=[];rw[aRf,aQV];refine⟨?_,acy l xs q hq hn.2⟩;cases c with
   |ref o=>
    cases x<;>simp[jr.read,Cell.refs]at hp hn
   |_=>rfl
  .cases h
 |[],_::_,_,h,_=>by simp[oh]at h
 |_::_,[],_,h,_=>by simp[oh]at h
theorem aJ8{G:oI}(hE:EnvB P G Θ Γ)(hm:P.follows .mixedOrders=true){f:FuncId}{fn:Func}{c:Code}(hf:P.funcs[f]? =some fn)(U:fn.body=some c)(H:Hints)
  {l:List jr} {F:lV sh->Prop×(ru l->Prop)} (hn:Nat.ble sh.length fn.ntmps=true) (hne:∀x,(F x).1->∃t,(F x).2 t)
 (hwalk:∀x,SA sh x->(F x).1->Sr Θ Γ H c (ayE fn.results.toList l (F x).2) (OW fn.ntmps (EL sh x))):kM P G f (aHy sh l F):=by
 intro args p ρ n J;unfold aHy at n;split at n
 case h_2=>cases n
 next x hx=>
 cases n;refine⟨hne x J,λk S γ I w hG O GV hsep hap=>?_⟩;have L:=(XJ hx).1;rw[Xa]at L;have hn':args.length<=fn.ntmps:=x9;have B:SA sh x:=aim (λo X z=>(GV o X z).1) sh args x I.toList 0 (λj a h=>jv) hx O;have hR0:=aqy (S:=S) fn.ntmps hn' O (λo X z=>⟨(GV o X z).1,λb U=>((GV o X z).2 b U).1⟩) hsep;have hR1:=hR0.covers (agr hx fn.ntmps);refine calls_of_wp hf U (aik ⟨hE,hG,λb U=>?_⟩ hm H c _ _ _ _ _ _ hR1 (hwalk x B J) ?_)
 .obtain⟨o,X,z,U⟩:=U
  grind
 intro e s γ' a' w' g K;have i:ayE fn.results.toList l (F x).2 .ret s:=by
  cases e with
  |normal=>exact g
  |ret=>exact g
  |_=>exact g.elim
 have N:bodyPost P fn (λe w'=>∃t,(F x).2 t/\aau S args γ w k ⟨[],some (kW l t)⟩ (loses sh) e w') .ret a' w':=by
  simp only[ayE]at i;split at i
  case h_2=>exact i.elim
  next t hrv=>
  split at i
  case h_2=>exact i.elim
  next o m htm=>
  split at i
  case h_2=>exact i.elim
  next A D W=>
  split at i
  case h_2=>exact i.elim
  next d hnr hd=>
  have D:=aQq D;subst D;have hRf:=K.freeze (aaA s);have R:=K.tmps t;rw[htm]at R;obtain⟨b,cs0,_,r,hval⟩:=R;obtain⟨Q,arr,ty,g1,g2,g3⟩:=hRf.ak o _ W;have g1:γ' o=.pointer (some ⟨Q,0,none⟩):=g1;have r:γ' o=.pointer (some ⟨b,0,none⟩):=r;rw[r]at g1;cases g1;have hblk:blk (γ' o)=some b:=by rw[r];rfl
  have hlt:=hRf.lt o _ b W hblk
  let γ2:Nat->Value:=λ_=>γ' o
  let Z:V:=⟨w',w.heap.size,xW S args (loses sh) γ,γ2,look (Out.take k ⟨[],some (kW l d)⟩).2⟩
  have hlook:∀q y,look (Out.take k ⟨[],some (kW l d)⟩).2 q=some y->q=k-1/\y=.var (kW l d):=by
   intro q y u;have hmem:=Fv _ q y u
   grind [Out.take]
  have akQ:∀fr Q,(aI w (ail args γ S) γ' (s.freeze (aaA s)) w').fG fr Q->Z.fG fr Q:=by intro fr Q C;refine⟨⟨C.1.1,λhlt'=>⟨C.1.2.1 hlt',λq y u=>by grind [aeu]⟩,λq y u=>?_⟩,C.2⟩;exact C.1.2.2 o _ W
  have E:aC Z (kW l d) arr.toList:=
   Qh (Y:=aI w (ail args γ S) γ' (s.freeze (aaA s)) w') (Z:=Z) rfl akQ _ _ (acy l A d hd hnr) (OU l A d _ hd g3)
  have hself:look (Out.take k ⟨[],some (kW l d)⟩).2 (k-1)=some (.var (kW l d)):=by simp[Out.take,look]
  refine⟨K.defers,a'.tmps.getD t undef,?_,d,i,_,γ2,rfl,K.os,K.tape,K.output,K.grow,K.kept,?_,λq y u=>?_,λq y q' y' Q u hq' hne'=>?_,λq y u=>by grind [aeu]⟩
  .have:fn.results=#[.tmp t]:=jv;have hmap:(Array.mapM (VY a'.tmps) #[ResultVar.tmp t]).run P w'=.ok #[a'.tmps.getD t undef] w':=by
    simp_all [VY]
   rw[aes,this,aQS,hmap];rfl
  .exact⟨b,kW l d,hself,r,hval⟩
  .obtain⟨rfl,rfl⟩:=hlook q y u;refine⟨⟨b,arr,ty,r,g2,E⟩,λQ C=>?_⟩
   grind [aeu]
  grind
 cases e with
 |normal=>exact N
 |ret=>exact N
 |_=>exact g.elim
end Go.Fw
namespace Go.Fw
open Go
def CT.isZero:CT->Value->Bool
 |.int k,.int l n=>decide (k=l)&&decide (n=0)
 |.bool,.bool b=>!b
 |.str,.string s=>s.data.toList.isEmpty
 |.sl _ _,.slice none 0 0=>true
 |_,_=>false
def aP.acz:aP->List Value->Bool
 |.nil,[]=>true
 |.cons c r,v::vs=>c.isZero v&&r.acz vs
 |_,_=>false
theorem CT.aFy:∀(c:CT)(v:Value),c.isZero v=true->v=c.auf:=by
 intro c v h;unfold CT.isZero at h;split at h
 .simp at h;rw[h.1,h.2];rfl
 .simp at h;subst h;rfl
 .next s=>obtain⟨⟨l⟩⟩:=s;simp at h;subst h;rfl
 .rfl
 .cases h
theorem aP.aqC:∀(r:aP)(I:List Value),r.acz I=true->I=r.wJ
 |.nil,[],_=>rfl
 |.cons c r,v::I,h=>by
  rw[acz,aQm]at h;rw[aP.wJ,CT.aFy c v h.1,aP.aqC r I h.2]
 |.nil,_::_,h|.cons _ _,[],h=>by simp[acz]at h
def azw:TypeDesc->TypeDesc->Bool
 |.int k,.int l=>decide (k=l)
 |.bool,.bool=>true
 |.string,.string=>true
 |.slice e,.slice f=>Nat.beq e f
 |_,_=>false
theorem aFz:∀(c d:TypeDesc),azw c d=true->c=d:=by
 intro c d h;unfold azw at h;split at h
 · grind
 .rfl
 .rfl
 · simp_all
 .cases h
def YT(P:Program):List (Nat×TypeId)->List Field->Bool
 |[],[]=>true
 |(o,t)::r,f::fs=>Nat.beq o f.offset&&Nat.beq t f.type&&(P.info? f.type).isSome&&YT P r fs
 |_,_=>false
theorem amT{P:Program}:∀(l:List (Nat×TypeId))(a:List Field),YT P l a=true->l=a.map (λf=>(f.offset,f.type))/\∀f∈a,(P.info? f.type).isSome=true
 |[],[],_=>⟨rfl,ni⟩
 |(o,t)::r,f::a,h=>by
  rw[YT,aQm,aQm,aQm]at h;obtain⟨⟨⟨C,O⟩,K⟩,x⟩:=h;obtain⟨e,b⟩:=amT r a x;refine⟨by rw[aQB,← e,aQq C,aQq O],λg d=>?_⟩;rcases aQt.1 d with rfl|d
  .exact K
  .exact b g d
 |[],_::_,h|_::_,[],h=>by simp[YT]at h
def aFA(P:Program)(t:TypeId)(a:TI):Bool:=
 match a.kind,P.underlying t with
 |.scalar,some d=>match a.cells.desc with|some c=>azw c d|none=>false
 |.str,some .string=>a.cells.beq (.cons .str .nil)
 |.slice e,some (.slice f)=>Nat.beq e f&&(match a.cells with|.cons (.sl g _) .nil=>Nat.beq g e|_=>false)
 |.struct fs,some (.struct Kw)=>YT P fs Kw.toList
 |_,_=>false
def aCJ(a:TI)(z:Value):Bool:=match a.kind with
 |.struct _=>true
 |_=>z.oneCell'
def aur(P:Program)(t:TypeId)(a:TI):Bool:=
 match P.info? t with
 |some i=>match i.zero with
  |some z=>Nat.beq i.size a.cells.len&&Nat.beq i.bytes a.bytes&&a.cells.acz z.cells.toList&&aCJ a z&&aFA P t a&&Nat.ble a.bytes 4096&&(!a.cmp||aDw P t a.cells)
  |none=>false
 |none=>false
theorem qR.aHz{P:Program}{t:TypeId}{d:TI}(h:aur P t d=true):qR P t d:=by
 unfold aur at h;split at h
 .next i hi=>
  split at h
  .next z hz=>
   simp only[aQm]at h;obtain⟨⟨⟨⟨⟨⟨C,O⟩,K⟩,x⟩,k⟩,l⟩,m⟩:=h;refine⟨⟨i,z,hi,aQq C,aQq O,hz,aP.aqC _ _ K,λa=>?_⟩,?_,x9,λe w s u X q j I n b f Z F g=>aJ2 jv w s u X q j I n b f Z F g⟩
   · grind [aCJ,TI.agg,RU]
   grind [aFA,aFz,aP.eq_of_beq,Nat.eq_of_beq_eq_true,amT]
  .cases h
 .cases h
def acA(P:Program):List (Nat×TI)->Bool
 |[]=>true
 |(t,ti)::r=>aur P t ti&&acA P r
theorem aev{P:Program}:∀{l:List (Nat×TI)},acA P l=true->∀t a,aqt l t=some a->qR P t a
 |[],_,t,a,h=>o5
 |(i,x)::r,hc,t,a,h=>by
  rw[acA,aQm]at hc;rw[aqt]at h;cases U:Nat.beq t i with
  |true=>rw[U]at h;cases h;rw[aQq U];exact .aHz hc.1
  |false=>rw[U]at h;exact aev hc.2 t a h
def akW(fn:Func):Bool:=fn.body.isSome&&!(fn.name== "runtime.NumGoroutine")
theorem mF{P:Program}{f:FuncId}{fn:Func}(X:P.funcs[f]? =some fn)(N:akW fn=true):mP P f:=by
 intro args w;unfold akW at N;have O:fn.body.isNone=false:=x9
 grind [callFunc,Sem.run_bind,run_program,Result.andThen_ok,Sem.run_pure]
def aFB(P:Program)(G:oI)(f:FuncId):Qg->Prop
 |.pure c=>lY P G f c/\mP P f
 |.eff _ c=>kM P G f c/\mP P f
theorem aFC{P:Program}{G:oI}{Θ:mD}(b:∀t g,Θ t=some g->qR P t g):∀{l:List (Nat×Qg)},(∀x∈l,aFB P G x.1 x.2)->EnvB P G Θ (IV l)
 |[],_=>⟨b,(λf a h=>o5),(λf d a h=>o5)⟩
 |(i,c)::r,h=>by
  have e:=aFC (G:=G) b λx Z=>h x (aQo _ Z);refine⟨b,λf a X=>?_,λf d a X=>?_⟩
  .rw[IV]at X;cases U:Nat.beq f i with
   |true=>rw[U]at X;cases X;rw[aQq U];exact h (i,.pure a) aQr
   |false=>rw[U]at X;exact e.cons f a X
  .rw[IV]at X;cases U:Nat.beq f i with
   |true=>rw[U]at X;cases X;rw[aQq U];exact h (i,.eff d a) aQr
   |false=>rw[U]at X;exact e.ayC f d a X
structure PA where
 n:Nat
 sh:List jZ
 fM:List qH
 F:oG sh->Prop×wz fM
structure XA where
 n:Nat
 sh:List jL
 fM:List nY
 F:lV sh->Prop×(qg fM×o9 sh->Prop)
structure QA where
 n:Nat
 sh:List jL
 fM:List jr
 F:lV sh->Prop×(ru fM->Prop)
def PA.e(q:PA):Nat×Qg:=(q.n,.pure (tq q.sh q.fM q.F))
def XA.e(q:XA):Nat×Qg:=(q.n,.eff (EH q.sh) (sW q.sh q.fM q.F))
def QA.e(q:QA):Nat×Qg:=(q.n,.eff (EH q.sh) (aHy q.sh q.fM q.F))
def aqD(P:Program)(G:oI)(x:Nat×Qg):Prop:=aFB P G x.1 x.2
def acB(P:Program)(G:oI):List (Nat×Qg)->Prop
 |[]=>True
 |x::l=>aqD P G x/\acB P G l
theorem aHA{P:Program}{G:oI}{a:List (Nat×TI)}(b:acA P a=true){l:List (Nat×Qg)}(h:acB P G l):EnvB P G (aqt a) (IV l):=
 aFC (aev b) (by
  induction l with
  |nil=>grind
  |cons y l ih=>exact List.forall_mem_cons.2 ⟨h.1,ih h.2⟩)
def aus:(l:List jr)->(ru l->Prop)->Prop
 |[],p=>p ()
 |c::r,p=>∀x:c.den,aus r λy=>p (x,y)
theorem acC:∀{l:List jr}{p:ru l->Prop},aus l p->∀x,p x
 |[],_,h,()=>h
 |_::_,_,h,(x,y)=>acC (h x) y
def aDN:(l:List (List jr))->(JS l->Prop)->Prop
 |[],p=>p ()
 |c::r,p=>aus c λx=>aDN r λy=>p (x,y)
theorem azx:∀{l:List (List jr)}{p:JS l->Prop},aDN l p->∀x,p x
 |[],_,h,()=>h
 |_::_,_,h,(x,y)=>azx (acC h x) y
def aHB:(s:jZ)->(s.den->Prop)->Prop
 |.v (.one c),p=>∀x:c.den,p x
 |.v (.agg l),p=>aus l p
 |.kp l,p=>aus l p
 |.fn _ l,p=>aDN l p
theorem aCK:∀{s:jZ}{p:s.den->Prop},aHB s p->∀x,p x
 |.v (.one _),_,h,x=>h x
 |.v (.agg _),_,h,x=>acC h x
 |.kp _,_,h,x=>acC h x
 |.fn _ _,_,h,x=>azx h x
def aDO:(l:List jZ)->(oG l->Prop)->Prop
 |[],p=>p ()
 |s::r,p=>aHB s λx=>aDO r λy=>p (x,y)
theorem azy:∀{l:List jZ}{p:oG l->Prop},aDO l p->∀x,p x
 |[],_,h,()=>h
 |_::_,_,h,(x,y)=>azy (aCK h x) y
def aLg:(s:jL)->(s.den->Prop)->Prop
 |.p s,p=>aHB s p
 |.own _ r,p=>∀x:List r.den,p x
 |.ptr l,p=>aus l p
theorem aJ9:∀{s:jL}{p:s.den->Prop},aLg s p->∀x,p x
 |.p _,_,h,x=>aCK h x
 |.own _ _,_,h,x=>h x
 |.ptr _,_,h,x=>acC h x
def ayF:(l:List jL)->(lV l->Prop)->Prop
 |[],p=>p ()
 |s::r,p=>aLg s λx=>ayF r λy=>p (x,y)
theorem aoe:∀{l:List jL}{p:lV l->Prop},ayF l p->∀x,p x
 |[],_,h,()=>h
 |_::_,_,h,(x,y)=>aoe (aJ9 h x) y
abbrev LP{α:Type}(x:α)(f:(α->Prop)->(α->Nat)->α->Prop):Prop:=∃(I:α->Prop),∃(P:α->Nat),I x/\∀(y:α),I y->f I P y
abbrev NX{a α:Type}(s:a)(I:α->Prop)(P:α->Nat)(x y:α):Prop:=s=s/\I x/\P x<P y
def H0:Hints:=hints [] [] [] [] []
def Oj(P:Program)(n:Nat):Func:=match P.funcs[n]? with|some f=>f|none=>default
def V4(P:Program)(n k:Nat):Bool:=P.funcs[n]?.isSome&&akW (Oj P n)&&Nat.ble k (Oj P n).ntmps
theorem ain{P:Program}{n k:Nat}(h:V4 P n k=true):P.funcs[n]? =some (Oj P n)/\(Oj P n).body=some (codeOf (Oj P n))/\mP P n/\Nat.ble k (Oj P n).ntmps=true:=by
 grind [V4,Oj,mF,akW,codeOf]
def PA.goal(q:PA)(g:(wz q.fM->Prop)->Prop)(x:oG q.sh):Prop:=Vu q.sh x->(q.F x).1->g λr=>r=(q.F x).2
def XA.goal(q:XA)(g:(qg q.fM×o9 q.sh->Prop)->Prop)(x:lV q.sh):Prop:=SA q.sh x->(q.F x).1->g (q.F x).2
def QA.goal(q:QA)(g:(ru q.fM->Prop)->Prop)(x:lV q.sh):Prop:=SA q.sh x->(q.F x).1->g (q.F x).2
def PA.say(P:Program)(Θ:mD)(Γ:nI)(H:Hints)(q:PA):Prop:=bif V4 P q.n q.sh.length then aDO q.sh λx=>q.goal (λK=>Sr Θ Γ H (codeOf (Oj P q.n)) (aqv Θ (Oj P q.n).results.toList q.fM K) (entry (Oj P q.n).ntmps (CX q.sh x))) x else False
def XA.say(P:Program)(Θ:mD)(Γ:nI)(H:Hints)(q:XA):Prop:=bif V4 P q.n q.sh.length then ayF q.sh λx=>q.goal (λK=>Sr Θ Γ H (codeOf (Oj P q.n)) (ayD Θ (Oj P q.n).results.toList q.sh q.fM K) (OW (Oj P q.n).ntmps (EL q.sh x))) x else False
def QA.say(P:Program)(Θ:mD)(Γ:nI)(H:Hints)(q:QA):Prop:=bif V4 P q.n q.sh.length then ayF q.sh λx=>q.goal (λK=>Sr Θ Γ H (codeOf (Oj P q.n)) (ayE (Oj P q.n).results.toList q.fM K) (OW (Oj P q.n).ntmps (EL q.sh x))) x else False
variable {P:Program} {Θ:mD} {Γ:nI} {G:oI}
theorem PA.ok{q:PA}(k:P.follows .mixedOrders=true)(b:EnvB P G Θ Γ)(H:Hints){p:Prop}
 (J:q.say P Θ Γ H=p) (h:p):aqD P G q.e:=by
 subst J;unfold PA.say at h;cases N:V4 P q.n q.sh.length with
 |false=>grind
 |true=>rw[N]at h;obtain⟨C,O,K,a⟩:=ain N;exact⟨akU b k C O H a λx D Z=>azy h x D Z,K⟩
theorem XA.ok{q:XA}(k:P.follows .mixedOrders=true)(d:EnvB P G Θ Γ)(H:Hints)(a:∀x,(q.F x).1->∃t,(q.F x).2 t){p:Prop}
 (J:q.say P Θ Γ H=p) (h:p):aqD P G q.e:=by
 subst J;unfold XA.say at h;cases N:V4 P q.n q.sh.length with
 |false=>grind
 |true=>rw[N]at h;obtain⟨C,O,K,b⟩:=ain N;exact⟨akV d k C O H b a λx D Z=>aoe h x D Z,K⟩
theorem QA.ok{q:QA}(k:P.follows .mixedOrders=true)(d:EnvB P G Θ Γ)(H:Hints)(a:∀x,(q.F x).1->∃t,(q.F x).2 t){p:Prop}
 (J:q.say P Θ Γ H=p) (h:p):aqD P G q.e:=by
 subst J;unfold QA.say at h;cases N:V4 P q.n q.sh.length with
 |false=>grind
 |true=>rw[N]at h;obtain⟨C,O,K,b⟩:=ain N;exact⟨aJ8 d k C O H b a λx D Z=>aoe h x D Z,K⟩
abbrev jr.i:jr:=.int .i64
abbrev jr.b:jr:=.bool
abbrev jr.s:jr:=.str
abbrev jr.l(e:TypeId)(r:aP):jr:=.sl e r false
abbrev jr.f(e:TypeId)(r:aP):jr:=.sl e r true
abbrev qH.i:qH:=.one .i
abbrev qH.b:qH:=.one .b
abbrev qH.s:qH:=.one .s
abbrev qH.l(e:TypeId)(r:aP):qH:=.one (.l e r)
abbrev qH.f(e:TypeId)(r:aP):qH:=.one (.f e r)
abbrev jZ.i:jZ:=.v .i
abbrev jZ.b:jZ:=.v .b
abbrev jZ.s:jZ:=.v .s
abbrev jZ.l(e:TypeId)(r:aP):jZ:=.v (.l e r)
abbrev jL.i:jL:=.p .i
abbrev jL.b:jL:=.p .b
abbrev jL.s:jL:=.p .s
abbrev jL.l(e:TypeId)(r:aP):jL:=.p (.l e r)
abbrev RC.i:RC:=.c .i
abbrev RC.b:RC:=.c .b
abbrev RC.s:RC:=.c .s
abbrev RC.l(e:TypeId)(r:aP):RC:=.c (.l e r)
abbrev RC.f(e:TypeId)(r:aP):RC:=.c (.f e r)
abbrev nY.i:nY:=.one .i
abbrev nY.b:nY:=.one .b
abbrev nY.s:nY:=.one .s
abbrev nY.l(e:TypeId)(r:aP):nY:=.one (.l e r)
abbrev nY.f(e:TypeId)(r:aP):nY:=.one (.f e r)
abbrev nY.o(e:TypeId)(r:aP):nY:=.one (.own e r true)
end Go.Fw
namespace Go.Fw
open Go
variable {P:Program} {G:oI} {f:FuncId}
abbrev jK:List UInt8:=[]
abbrev SB:List (Int×Unit):=[]
theorem lY.weaken{d b:VS}(h:lY P G f d)(N:∀args p a,b args=some (p,a)->p->∃q,d args=some (q,a)/\q):lY P G f b:=by intro args p a k S I w e J i g;obtain⟨q,C,O⟩:=N args p a e J;exact h args q a k S I w C O i g
theorem kM.weaken{b a:Ii}(h:kM P G f b)(N:∀args p e,a args=some (p,e)->p->∃q,b args=some (q,e)/\q):kM P G f a:=by intro args p e d J;obtain⟨q,C,O⟩:=N args p e d J;exact h args q e C O
theorem azz{d:List jZ}{fM:List qH}{F:oG d->Prop×wz fM}(b m:Nat->oG d->Prop×wz fM)(l:∀x,¬(b 0 x).1)(Y:∀n x,b (n+1) x=m n x)
 (X:∀x,(F x).1->∃n,(b n x).1) (g:∀n x,(b n x).2=(F x).2) (step:∀n,lY P G f (tq d fM (b n))->lY P G f (tq d fM (m n))):lY P G f (tq d fM F):=by
 have o:∀n,lY P G f (tq d fM (b n)):=by
  intro n
  induction n with
  |zero=>
   intro args p i k S I w a J;unfold tq Sz at a
   grind
  |succ n ih=>
   have e:b (n+1)=m n:=funext (Y n)
   grind
 intro args p i k S I w a J r h;have j:=a;unfold tq Sz at j;split at j
 .next x hx=>
  have e:=Option.some.inj j;have q:(F x).1=p:=congrArg Prod.fst e;obtain⟨n,H⟩:=X x (q.symm▸J);refine o n args (b n x).1 i k S I w ?_ H r h
  simp_all [tq,Sz]
 .cases j
theorem aut{d:List jL}{fM:List nY}{F:lV d->Prop×(qg fM×o9 d->Prop)}(a i:Nat->lV d->Prop×(qg fM×o9 d->Prop))(l:∀x,¬(a 0 x).1)(Y:∀n x,a (n+1) x=i n x)
 (X:∀x,(F x).1->∃n,(a n x).1) (g:∀n x,(a n x).2=(F x).2) (step:∀n,kM P G f (sW d fM (a n))->kM P G f (sW d fM (i n))):kM P G f (sW d fM F):=by
 have j:∀n,kM P G f (sW d fM (a n)):=by
  intro n
  induction n with
  |zero=>
   intro args p k b J
   grind [sW]
  |succ n ih=>
   have e:a (n+1)=i n:=funext (Y n)
   grind
 intro args p k b J;have h:=b;unfold sW at h;split at h
 .next x hx=>
  have e:=Option.some.inj h;have w:(F x).1=p:=congrArg Prod.fst e;obtain⟨n,H⟩:=X x (w.symm▸J);refine j n args (a n x).1 k ?_ H
  grind [sW]
 .cases h
end Go.Fw
namespace Go.Fw
open Go
variable {P:Program} {H:Type} {enc:TypeId×Value->H} {w:World}
def aP.app:aP->aP->aP
 |.nil,s=>s
 |.cons c r,s=>.cons c (r.app s)
def aDP:(r s:aP)->r.den->s.den->(r.app s).den
 |.nil,_,_,y=>y
 |.cons _ r,s,x,y=>(x.1,aDP r s x.2 y)
theorem dD.app{h:Array Obj}{S:Nat->Prop}:∀(r s:aP)(x:r.den)(y:s.den)(I n:List Value),dD h S r I x->dD h S s n y->dD h S (r.app s) (I++n) (aDP r s x y)
 |.nil,s,x,y,I,n,h1,h2=>by subst h1;exact h2
 |.cons c r,s,(x,x'),y,I,n,h1,h2=>by obtain⟨v,a,rfl,b,d⟩:=h1;exact⟨v,a++n,rfl,b,dD.app r s x' y a n d h2⟩
theorem add_add(a:Addr)(h:a.spot=none)(m j:Nat):(a.add m).add j=⟨a.block,a.off+m+j,none⟩:=by
 obtain⟨b,o,d⟩:=a
 grind [Addr.add]
def aaC(f:TypeId->Option aP):List Field->Nat->Option aP
 |[],_=>some .nil
 |x::r,off=>match f x.type with
  |some s=>match aaC f r (off+s.len),Nat.beq x.offset off with
   |some u,true=>some (s.app u)
   |_,_=>none
  |none=>none
def rowOf(P:Program):Nat->TypeId->Option aP
 |0,_=>none
 |n+1,t=>match P.underlying t with
  |some (.int k)=>some (.cons (.int k) .nil)
  |some .bool=>some (.cons .bool .nil)
  |some .string=>some (.cons .str .nil)
  |some (.slice e)=>match rowOf P n e with
   |some s=>match Nat.beq s.len (P.cellsOf e)&&Nat.ble 1 s.len with
    |true=>some (.cons (.sl e s) .nil)
    |false=>none
   |none=>none
  |some (.struct fs)=>match aaC (rowOf P n) fs.toList 0 with
   |some r=>match Nat.beq r.len (P.cellsOf t)with
    |true=>match fs.toList.all λf=>match rowOf P n f.type with|some s=>Nat.beq s.len (P.cellsOf f.type)|none=>false with
     |true=>some r
     |false=>none
    |false=>none
   |none=>none
  |_=>none
theorem aCL{α:Type}{Q:Nat->α->Prop}:∀(n:Nat),(∀i,i<n->∃x,Q i x)->∃l:List α,l.length=n/\∀i x,l[i]? =some x->Q i x
 |0,_=>⟨[],rfl,λi x h=>yj⟩
 |n+1,h=>by
  obtain⟨l,W,u⟩:=aCL n λi D=>h i fC;obtain⟨x,Z⟩:=h n fC;refine⟨l++[x],by simp[W],λi y F=>?_⟩
  grind
theorem aCM:∀(r s:aP),(r.app s).len=r.len+s.len
 |.nil,s=>by simp[aP.app,aP.len]
 |.cons c r,s=>by simp only[aP.app,aP.len,aCM r s];omega
theorem aqE{f:TypeId->Option aP}{S:Nat->Prop}{h:Array Obj}(A:List Value)
 (a:∀(t:TypeId)(r:aP)(m:Nat),f t=some r->(∃g:Field,g.type=t/\g.offset=m)->True):∀(b:List Field)(m:Nat)(r:aP),aaC f b m=some r->
 (∀g∈b,∀s,f g.type=some s->∃x,dD h S s ((A.drop g.offset).take s.len) x)->
 ∃x,dD h S r ((A.drop m).take r.len) x
 |[],m,r,hr,_=>by
  cases hr
  simp_all [dD,aP.len]
 |g::b,m,r,hr,hall=>by
  rw[aaC]at hr;split at hr
  .next s hs=>
   split at hr
   .next u hu hb=>
    cases hr;obtain⟨x,Z⟩:=hall g aQr s hs;rw[aQq hb]at Z;obtain⟨y,F⟩:=aqE A a b (m+s.len) u hu λe d=>hall e (aQo _ d);refine⟨aDP s u x y,?_⟩
    grind [dD.app,aCM,List.drop_drop]
   .cases hr
  .cases hr
theorem aof:∀(n:Nat)(t:TypeId)(r:aP),rowOf P n t=some r->∀(m:Nat)(base:Nat)(d:Nat->Bool)(o:Bool)(A:List Value)(x:DataW H×List MemPlace),
 DataW.trod enc P w base d o m t A=some x->∃y,dD w.heap (λb=>b<w.heap.size) r A y
 |0,t,r,hr=>by cases hr
 |n+1,t,r,hr=>by
  intro m base d o A x Z;rw[rowOf]at hr;split at hr
  .next k hu=>
   cases hr;obtain⟨i,rfl,_,hwf⟩:=DataW.trod_int hu Z
   simp_all [Lit.wf,dD,iL]
  .next hu=>
   cases hr;obtain⟨b,rfl,_⟩:=DataW.trod_bool hu Z
   simp_all [dD,iL]
  .next hu=>cases hr;obtain⟨s,rfl,_,Y⟩:=DataW.trod_string hu Z;refine⟨(s.data.toList,()),by simp_all [dD,iL]⟩
  .next e hu=>
   split at hr
   .next s Y=>
    split at hr
    .next hb=>
     cases hr;rw[aQm]at hb;have L:=aQq hb.1;have hpos:1<=s.len:=x9;rcases DataW.trod_slice hu Z with⟨rfl,_⟩|⟨a,E,I,R,rest,k,_,rfl,_,U,hle,hmax,hel,M,_,_⟩
     .exact⟨([],()),by rw[dD];exact⟨_,[],rfl,by rw[iL];exact⟨ni,.inl ⟨rfl,none,0,rfl⟩⟩,by rw[dD]⟩⟩
     .by_cases h0:E=0
      .subst h0;exact⟨([],()),by rw[dD];exact⟨_,[],rfl,by rw[iL];exact⟨ni,.inl ⟨rfl,some a,I,rfl⟩⟩,by rw[dD]⟩⟩
      .have each:∀i,i<E->∃(F:List Value)(z:s.den),w.cells? base (a.add (i*P.cellsOf e)) (P.cellsOf e)=some F/\dD w.heap (λb=>b<w.heap.size) s F z:=by
        intro i D;have C:=M i D;rw[aQD fC]at C;obtain⟨F,hys,hy2⟩:=Option.bind_eq_some_iff.1 C;obtain⟨z,hz⟩:=aof n e s Y k base d o F _ hy2
        grind
       obtain⟨O,z0,X,hz0⟩:=each 0 fC;obtain⟨_,hl0,u⟩:=World.cells?_some X;have f:=u 0 fC;simp only[Nat.zero_mul,Addr.add,if_true]at f;have Q:∃v,O[0]? =some v:=⟨O[0]' fC,jv⟩;obtain⟨v0,hv0⟩:=Q;rw[hv0]at f;unfold World.cell? at f;split at f
       .next c ty fz hblk=>
        split at f
        .cases f
        .next hsp=>
         have hspot:a.spot=none:=x9;have ha:a=⟨a.block,a.off,none⟩:=by cases a;grind
         have T:a.block<w.heap.size:=by
          grind
         have N:∀i,i<E->∃z:s.den,dD w.heap (λb=>b<w.heap.size) s ((c.toList.drop (a.off+i*s.len)).take s.len) z:=by
          intro i D;obtain⟨F,z,hcs,hz⟩:=each i D;obtain⟨_,W,hcell⟩:=World.cells?_some hcs;refine⟨z,?_⟩;have:(c.toList.drop (a.off+i*s.len)).take s.len=F:=by
           refine aRx λj=>?_
           grind [add_add,World.cell?]
          grind
         obtain⟨l,hll,hlq⟩:=aCL E N;refine⟨(l,()),by rw[dD];exact⟨_,[],rfl,by rw[iL];exact⟨fC,.inr ⟨a.block,a.off,I,c,ty,fz,jv,fC,T,hblk,hlq⟩⟩,by rw[dD]⟩⟩
       .cases f
    .cases hr
   .cases hr
  .next fs hu=>
   split at hr
   .next r' hf=>
    split at hr
    .next hb=>
     split at hr
     .next hall=>
      cases hr;obtain⟨q,k,_,_,hcl,hxl,B⟩:=DataW.trod_struct hu Z;have L:=aQq hb;have:=aqE (h:=w.heap) (S:=λb=>b<w.heap.size) A (λ_ _ _ _ _=>trivial) fs.toList 0 _ hf ?_
      · grind
      .intro g hg s Y;have K:=aQA.1 hall g hg;rw[Y]at K;have hsl:=aQq K;obtain⟨i,D,hgi⟩:=aSu.1 hg;have J:=B i g jv;rw[aQD jv]at J;rw[hsl];exact aof n g.type s Y k base d o _ _ J
     .cases hr
    .cases hr
   .cases hr
  .cases hr
def CT.csh:CT->jr
 |.int k=>.int k
 |.bool=>.bool
 |.str=>.str
 |.sl e r=>.sl e r false
def toC:(c:CT)->c.den->c.csh.den
 |.int _,x=>x
 |.bool,x=>x
 |.str,x=>x
 |.sl _ _,x=>x
def aP.shs:aP->List jr
 |.nil=>[]
 |.cons c r=>c.csh::r.shs
def toCs:(r:aP)->r.den->ru r.shs
 |.nil,_=>()
 |.cons c r,x=>(toC c x.1,toCs r x.2)
theorem auu(X:V):∀(r:aP)(I:List Value)(x:r.den),dD X.w.heap (X.fG false) r I x->aC X (kW r.shs (toCs r x)) I
 |.nil,I,x,h=>by subst h;trivial
 |.cons c r,I,(x,y),h=>by
  obtain⟨v,a,rfl,C,O⟩:=h;refine⟨?_,auu X r a y O⟩;cases c with
  |int k=>exact C
  |bool=>exact C
  |str=>exact C
  |sl e r=>exact C
def aDQ(P:Program)(t:TypeId):Option qH:=
 match rowOf P 64 t with
 |some r=>match P.underlying t with
  |some (.struct _)=>some (.agg r.shs)
  |some (.array _ _)=>none
  |_=>match r with
   |.cons c .nil=>some (.one c.csh)
   |_=>none
 |none=>none
def YU(P:Program):List TypeId->Option (List jZ)
 |[]=>some []
 |t::ts=>match aDQ P t,YU P ts with
  |some s,some l=>some (.v s::l)
  |_,_=>none
def start(w:World):V:=⟨w,w.heap.size,λb=>b<w.heap.size,λ_=>undef,λ_=>none⟩
theorem aKa{t:TypeId}{s:qH}(Y:aDQ P t=some s){base f:Nat}{l:Nat->Bool}{j:Bool}{v:Value}{d:DataW H}{p:List MemPlace}
 (a:DataW.Trod enc P w base l j t v d p) (R:Value.okWide P w .any f t v):∃x:s.den,ig (start w) (s.val x) v:=by
 unfold aDQ at Y;split at Y
 .next r hr=>
  obtain⟨m,k⟩:=a;obtain⟨y,F⟩:=aof 64 t r hr m base l j _ _ k;have h:dD (start w).w.heap ((start w).fG false) r v.cells.toList y:=
   dD.mono (λb U=>⟨⟨⟨U,λ_=>U,λo x Z=>vk⟩,λe=>y5⟩,rfl⟩) r _ y F
  unfold Value.okWide at R;split at Y
  .next fs hu=>cases Y;rw[hu]at R;obtain⟨A,rfl,_,_⟩:=R;exact⟨toCs r y,A,rfl,auu (start w) r _ y h⟩
  .cases Y
  .next hns hna=>
   split at Y
   .next c=>
    cases Y;have g:v.cells=#[v]:=by
     cases i:v<;>first
      |rfl
      |(exfalso
        rw[i]at R;split at R
        · grind
        · grind
        .unfold Go.Cell.okWide at R;split at R<;>first|(done)|(rename_i h2;cases h2;done)|skip;unfold Go.Cell.ok at R;split at R<;>first|(rename_i h1 h2;cases h2;done)|exact R)
    have:=auu (start w) _ _ y h;rw[g]at this;exact⟨toC c y.1,this.1⟩
   .cases Y
 .cases Y
theorem azA:∀(k:List TypeId)(i:List jZ),YU P k=some i->∀{base f:Nat}{o:Nat->Bool}{e:Bool}(I:List Value)(g:List (DataW H))(p:List MemPlace),
 DataW.TrodAll enc P w base o e k I g p->(∀(j:Nat) t v,k[j]? =some t->I[j]? =some v->Value.okWide P w .any f t v)->∃x:oG i,vz (start w) (CX i x) I
 |[],i,hs,_,_,_,_,I,g,p,h,_=>by
  cases hs;cases I with
  |nil=>exact⟨(),trivial⟩
  |cons v I=>cases g<;>simp[DataW.TrodAll]at h
 |t::k,i,hs,base,f,o,e,I,g,p,h,hok=>by
  rw[YU]at hs;split at hs
  .next s l h1 h2=>
   cases hs;cases I with
   |nil=>cases g<;>simp[DataW.TrodAll]at h
   |cons v I=>
    cases g with
    |nil=>simp[DataW.TrodAll]at h
    |cons d g=>obtain⟨a,b,q,r,_⟩:=h;obtain⟨x,Z⟩:=aKa h1 q (hok 0 t v rfl rfl);obtain⟨y,F⟩:=azA k l h2 I g b r λj u z m n=>hok (j+1) u z (by simpa using m) (by simpa using n);exact⟨(x,y),Z,F⟩
  .cases hs
mutual
theorem CT.UO:∀(c:CT),c.beq c=true
 |.int k=>by simp[CT.beq]
 |.bool=>rfl
 |.str=>rfl
 |.sl e r=>by simp[CT.beq,aP.UO r]
theorem aP.UO:∀(r:aP),r.beq r=true
 |.nil=>rfl
 |.cons c r=>by simp[aP.beq,CT.UO c,aP.UO r]
end
theorem awG:∀(c:jr)(x:c.den),c.read (c.cell x)=some x
 |.int k,x=>by simp[jr.cell,jr.read]
 |.bool,x=>rfl
 |.str,x=>rfl
 |.sl e r fr,l=>by
  simp only[jr.cell,jr.read,aRs];have C:YQ fr fr=true:=by cases fr<;>rfl
  have O:r.beq r=true:=aP.UO r;rw[C];rw[dif_pos O];rfl
 |.nil,x=>rfl
 |.ref o,x=>by simp[jr.cell,jr.read]
 |.junk,x=>rfl
theorem aqF:∀(l:List jr)(x:ru l),oh l (kW l x)=some x
 |[],_=>rfl
 |c::r,x=>by rw[kW,oh,awG c x.1,aqF r x.2]
theorem azB:∀(a:List TypeId)(l:List jZ),YU P a=some l->∀(x:oG l),Sv l (CX l x)=some x
 |[],l,h,x=>by cases h;rfl
 |t::a,l,h,x=>by
  rw[YU]at h;split at h
  .next s r h1 h2=>
   cases h;have b:=azB a r h2 x.2;cases s with
   |one c=>
    have e:(jZ.v (.one c)).read ((jZ.v (.one c)).val x.1)=some x.1:=awG c x.1;rw[CX,Sv,b,e]
   |agg l=>have e:(jZ.v (.agg l)).read ((jZ.v (.agg l)).val x.1)=some x.1:=aqF l x.1;rw[CX,Sv,b,e]
  .cases h
def auv:Out:=⟨[(false,[.plain (.bool true)])],none⟩
theorem aFD{G:oI}{f:FuncId}{fn:Func}{d:List jZ}{F:oG d->Prop×Out}(h:lY P G f (Sz d F))(l:YU P fn.params.toList=some d)
 (r:∀x,Vu d x->(F x).1/\(F x).2=auv) (s:G.ok w) {base g:Nat} {y:Nat->Bool} {u:Bool} {args:Array Value} {n:List (DataW H)} {p:List MemPlace}
 (q:DataW.TrodAll enc P w base y u fn.params.toList args.toList n p) (k:∀(j:Nat) t v,fn.params[j]? =some t->args[j]? =some v->Value.okWide P w .any g t v):
 Calls P f args w λe i=>e=.returned (.bool true)/\i.os=w.os/\i.output=w.output/\w.heap.size<=i.heap.size/\∀b,b<w.heap.size->i.heap[b]? =w.heap[b]? :=by
 obtain⟨x,Z⟩:=azA _ _ l _ _ _ q λj t v a R=>k j t v adW (by simpa using R);have B:=LX d x _ Z;obtain⟨J,z⟩:=r x B;have N:Sz d F (CX d x)=some ((F x).1,auv):=by
  grind [Sz,azB]
 refine(h (CX d x) _ _ 0 _ args w N J s Z).mono ?_;rintro e i ⟨v,m,rfl,C,O,K,A,D,o,_,_⟩;have R:v=.bool true:=o
 grind
theorem aHC{w w':World}(C:w'.os=w.os)(K:w'.output=w.output)(d:∀b,b<w.heap.size->w'.heap[b]? =w.heap[b]?)(a:MemPlace->Prop):w.keptBut w' a:=by
 refine⟨C,K,λi D=>?_⟩
 grind
theorem aHD{w w':World}(a:∀b,b<w.heap.size->w'.heap[b]? =w.heap[b]?){p:MemPlace}(J:p.block<w.heap.size):w.sameAt w' p:=by
 cases p with
 |cell b off=>
  show w'.cell? _=w.cell? _;unfold World.cell?;rw[a b J]
 |map b=>exact a b J
end Go.Fw
namespace Go.Fw
open Go
variable {P:Program} {G:oI} {f:FuncId}
variable {args:List Arg}
theorem aBO{i:Nat}{x:Arg}{p:Nat}(J:p / 64≠i):gK (args.set i x) p=gK args p:=by
 grind [gK]
theorem aip{i:Nat}{e:TypeId}{r:aP}{l:List r.den}(D:i<args.length)(p:Nat)(J:p / 64=i):gK (args.set i (.own e r l)) p=if p=i*64+49 then some (.arr e r l false)else none:=by
 unfold gK;by_cases h:p=i*64+49
 · simp_all
 grind [Nat.eq_of_beq_eq_true]
theorem aCN{i:Nat}{v:SV}(r:args[i]? =some (.sv v))(p:Nat)(J:p / 64=i):gK args p=none:=by
 grind [gK]
def aew(a:Nat->Value)(i:Nat)(o:Nat):Value:=if o=i*64+49 then .slice none 0 0 else a o
theorem vw.mono{X Y:V}(h:X.le Y):∀(a:Arg)(v:Value),vw X a v->vw Y a v
 |.sv x,v,H=>ig.mono h x v H
 |.kp cs,v,H=>dB.mono h (.cO cs 0) v H
 |.fn f caps,v,H=>dB.mono h (.fn f caps) v H
 |.own _ _ _,_,H|.ptr _,_,H=>H.elim
theorem YL.mono{X Y:V}(h:X.le Y)(i:Nat):∀(a:Arg)(v:Value),YL X i a v->YL Y i a v
 |.own _ _ _,v,H=>bY.mono h (.ref (i*64+49)) v H
 |.ptr _,v,H=>dB.mono h (.aZ (i*64+48) 0) v H
 |.sv x,v,H=>vw.mono h (.sv x) v H
 |.kp cs,v,H=>vw.mono h (.kp cs) v H
 |.fn f caps,v,H=>vw.mono h (.fn f caps) v H
theorem F6.nil{X Y:V}(h:X.le Y){e:TypeId}{r:aP}:∀(args:List Arg)(I:List Value)(j i:Nat),args[i]? =some (.sv (.one .nil))->
 Y.ak ((j+i)*64+49)=some (.arr e r [] false)->Y.γ ((j+i)*64+49)=.slice none 0 0->F6 X j args I->F6 Y j (args.set i (.own e r [])) I
 |[],[],_,i,d,_,_,_=>by simp at d
 |[],_::_,_,_,_,_,_,H=>H.elim
 |_::_,[],_,_,_,_,_,H=>H.elim
 |a::args,v::I,j,0,d,ho,hγ,⟨h1,h2⟩=>by
  have d:a=.sv (.one .nil):=adX;subst d;have R:v=.slice none 0 0:=h1;refine⟨⟨⟨e,r,[],false,ho⟩,?_,afJ⟩,?_⟩
  · grind
  .clear h1 d ho hγ R;generalize j+1=k at h2
   induction args generalizing k I with
   |nil=>cases I with
    |nil=>trivial
    |cons _ _=>exact h2.elim
   |cons b args ih=>cases I with
    |nil=>exact h2.elim
    |cons u I=>exact⟨YL.mono h k b u h2.1,ih I (k+1) h2.2⟩
 |a::args,v::I,j,i+1,d,ho,hγ,⟨h1,h2⟩=>by have w:j+(i+1)=j+1+i:=fC;rw[w]at ho hγ;exact⟨YL.mono h j a v h1,F6.nil h args I (j+1) i adX ho hγ h2⟩
theorem kM.aLi{E D:Ii}(i:Nat)(e:TypeId)(r:aP)(hr:0<r.len)(h:kM P G f E)
 (N:∀args p m,D args=some (p,m)->p->args[i]? =some (.sv (.one .nil))/\(∀t,uH (m.bP t) (i*64+49)=none)/\∃q,E (args.set i (.own e r []))=some (q,m)/\q):kM P G f D:=by
 intro args p m K J;obtain⟨W,hF,q,T,u⟩:=N args p m K J;obtain⟨O,s⟩:=h _ q m T u;refine⟨O,λk S d I w hG L GV X B=>?_⟩;have M:∀o,o≠i*64+49->gK (args.set i (.own e r [])) o=gK args o:=by
  grind [aip,aCN,aBO]
 have hN:gK (args.set i (.own e r [])) (i*64+49)=some (.arr e r [] false):=by
  grind [aip]
 have hN':gK args (i*64+49)=none:=aCN W _ fC;have a:aew d i (i*64+49)=.slice none 0 0:=if_pos rfl;have g:∀o,o≠i*64+49->aew d i o=d o:=λo z=>if_neg z;have C:∀o x,gK args o=some x->o≠i*64+49:=λo x z e=>jv;have le:V.le ⟨w,w.heap.size,S,d,gK args⟩ ⟨w,w.heap.size,S,aew d i,gK (args.set i (.own e r []))⟩:=by
  refine⟨aQp _,λb U=>⟨⟨U.1,U.2.1,λo x Z=>?_⟩,rfl⟩,λo A Z=>⟨⟨A,?_⟩,g o (C o _ Z)⟩,λo e r l fr Z=>⟨⟨l,fr,?_⟩,g o (C o _ Z)⟩⟩
  .by_cases z:o=i*64+49
   .show blk (aew d i o)≠some b;rw[z,a];intro Q;cases Q
   .show blk (aew d i o)≠some b;rw[g o z];exact U.2.2 o x ((M o z).symm.trans Z)
  · grind
  grind
 have n:∀b,CW (gK (args.set i (.own e r []))) (aew d i) b↔CW (gK args) d b:=by
  intro b;constructor
  .rintro⟨o,x,h1,h2⟩;by_cases z:o=i*64+49
   .rw[z,a]at h2;cases h2
   .exact⟨o,x,(M o z)▸h1,(g o z)▸h2⟩
  .rintro⟨o,x,h1,h2⟩;exact⟨o,x,(M o (C o x h1)).trans h1,jv⟩
 refine aQ3 (s k S (aew d i) I w hG (F6.nil (Y:=⟨w,w.heap.size,S,aew d i,gK (args.set i (.own e r []))⟩) le args I.toList 0 i W jv jv L) ?_ ?_ B) ?_
 .intro o x Z;by_cases z:o=i*64+49
  .subst z;rw[hN]at Z;cases Z;refine⟨⟨[],?_,hr,λb U=>?_,λj x hj=>by simp at hj⟩,λb U=>?_⟩
   · grind [World.ownsRow_nil]
   · grind
   .rw[a]at U;cases U
  grind [eF.mono]
 .intro o x q y b Z F hoq U;by_cases z:o=i*64+49
  .rw[z,a]at U;cases U
  by_cases R:q=i*64+49
  .rw[R,a];intro Q;cases Q
  grind
 .rintro en w' ⟨t,ht,v,γ',h1,h2,h3,h4,h5,h6,h7,h8,h9,h10⟩;have aPN:∀o x,uH (m.bP t) o=some x->o≠i*64+49:=λo x z e=>jv;have hL:xW S (args.set i (.own e r [])) (m.bP t) (aew d i)=xW S args (m.bP t) d:=by
   funext b
   apply propext;constructor
   .rintro⟨a1,a2⟩;refine⟨a1.imp_right (n b).1,λq y F=>?_⟩
    grind
   .rintro⟨a1,a2⟩;refine⟨a1.imp_right (n b).2,λq y F=>?_⟩
    grind
  rw[hL]at h7 h8 h10;refine⟨t,ht,v,γ',h1,h2,h3,h4,h5,λb U H=>h6 b U (λh=>H ((n b).1 h)),h7,λo x Z=>?_,h9,λo x Z=>?_⟩
  · grind
  grind
theorem aFF{l:List jr}{e:TypeId}{r:aP}{i:List jL}{fM:List nY}{F:lV (.ptr l:: .own e r::i)->Prop×(qg fM×o9 (.ptr l:: .own e r::i)->Prop)}
 {F':lV (.ptr l:: .p (.v (.one .nil))::i)->Prop×(qg fM×o9 (.ptr l:: .own e r::i)->Prop)} (hr:0<r.len) (h:kM P G f (sW (.ptr l:: .own e r::i) fM F))
 (m:∀a x,(F' (a,(),x)).1->(F (a,[],x)).1) (q:∀a x,(F' (a,(),x)).1->(F' (a,(),x)).2=(F (a,[],x)).2):kM P G f (sW (.ptr l:: .p (.v (.one .nil))::i) fM F'):=by
 refine kM.aLi 1 e r hr h λargs p w d J=>?_
 match args,d with
 |[],d=>grind [sW,mM]
 |[a],d=>
  grind [mM,sW]
 |a::b::args,d=>
  cases u:(jL.ptr l).read a with
  |none=>grind [sW,mM]
  |some a'=>
  cases U:(jL.p (.v (.one .nil))).read b with
  |none=>grind [sW,mM]
  |some b'=>
  cases Z:mM i args with
  |none=>grind [sW,mM]
  |some x=>
   have g:b=.sv (.one .nil):=by
    cases b with
    |sv s=>cases s with
     |one c=>cases c with
      |nil=>rfl
      |int k n=>cases U
      |bool k=>cases U
      |str k=>cases U
      |sl e r l fr=>cases U
      |ref o=>cases U
      |junk=>cases U
     |agg cs=>cases U
    |_=>cases U
   subst g;simp only[sW,mM,u,U,Z]at d;have d:=Option.some.inj d;have C:(F' (a',(),x)).1=p:=congrArg Prod.fst d;have O:(⟨qg fM×o9 (.ptr l:: .own e r::i),(F' (a',(),x)).2,λt=>⟨lS fM t.1,none⟩,λt=>oW (.ptr l:: .own e r::i) t.2⟩:YI)=w:=congrArg Prod.snd d;have j:(F' (a',(),x)).1:=C▸J;subst O;refine⟨rfl,λt=>rfl,(F (a',[],x)).1,?_,m a' x j⟩
   .have ho:(jL.own e r).read (.own e r [])=some []:=by unfold jL.read;simp only[aRs];rw[dif_pos (aP.UO r)];rfl
    grind [sW,mM]
end Go.Fw
namespace Go.Fw
open Go
theorem af{b:Bool}{A B:Prop}(C:b=true->A)(O:b=false->B):cond b A B:=by
 grind
theorem yQ{D:Type}{A:(D->Prop)->Prop}{R:D->Prop}(f:D)(C:A λy=>y=f)(O:R f):∃J:D->Prop,A J/\∀y,J y->R y:=
 ⟨λy=>y=f,C,λ_ F=>F▸O⟩
theorem drop_cons{α:Type}(a:List α)(n:Nat)(d:α)(h:n<a.length):a.drop n=a.getD n d::a.drop (n+1):=by
 simp_all
theorem eH(z:Int)(h:-9223372036854775808<=z/\z<=9223372036854775807):IntKind.i64.wrap z=z:=IntWalk.i64_in z fC
theorem maxLen_eq:maxLen=9223372036854775807:=jI
theorem bV:big=4294967296:=rfl
theorem getD_mem{α:Type}{l:List α}{n:Nat}{d:α}(h:n<l.length):l.getD n d∈l:=by
 grind
theorem IZ{p:Prop}(h:p:=by
 repeat' first
  |exact trivial
  |refine af (λ_=>?_) λ_=>?_
  |refine And.intro ?_ ?_
  |(intro r hr;simp only[]at hr)
  |intro r hr
 all_goals first
  |omega
  |(dsimp only at*;omega)
  |exact hr
  |(simp only[aQl,ne_eq]at*;omega)
  |(simp only[aRp,aRe,aQu,aQz,aQZ];omega)
  |(rw[bV];simp only[aRp,aRe,aQu,aQz,aQZ];omega)
  |(simp only[aRp,aRe,aQu,aQz,aQZ]at*;omega)
  |exact(show∀y∈_,List.length y.1<=10 from jI) _ hr.2
  |(simp;done)):p:=h
variable {P:Program} {H:Type} {enc:TypeId×Value->H} {w:World}
theorem ags(k:laidOutB P=true){base:Nat}{g:Nat->Bool}{W j:World}:∀(i:List TypeId)(_:i.all (λt=>P.readableRec t&&decide (t<P.types.size))=true)
 (I:List Value) (e:List (DataW H)) (f:List MemPlace),DataW.TrodAll enc P W base (λ_=>true) true i I e f->(∀p∈f,W.sameAt j p)->(∀p∈f,g p.block=true)->DataW.TrodAll enc P j base g true i I e f
 |[],_,I,e,f,h,_,_=>by
  cases I<;>cases e<;>simp[DataW.TrodAll]at h ⊢;exact h
 |t::i,ht,I,e,f,h,h1,h2=>by
  rw[aRK,aQm,aQm]at ht;cases I with
  |nil=>cases e<;>simp[DataW.TrodAll]at h
  |cons v I=>
   cases e with
   |nil=>simp[DataW.TrodAll]at h
   |cons d e=>
    obtain⟨a,b,l,m,rfl⟩:=h;exact⟨a,b,WideElems.Trod_stays k ht.1.1 (aQ6 ht.1.2) l (λp J=>h1 p (aQ0 _ J)) (λp J=>h2 p (aQ0 _ J)),
     ags k i ht.2 I e b m (λp J=>h1 p (aRm _ J)) (λp J=>h2 p (aRm _ J)),rfl⟩
theorem trodAll_length{base:Nat}{k:Nat->Bool}{e:Bool}{W:World}:∀(g:List TypeId)(I:List Value)(f:List (DataW H))(i:List MemPlace),DataW.TrodAll enc P W base k e g I f i->f.length=g.length
 |[],I,f,i,h=>by cases I<;>cases f<;>simp[DataW.TrodAll]at h ⊢
 |t::g,I,f,i,h=>by
  cases I with
  |nil=>cases f<;>simp[DataW.TrodAll]at h
  |cons v I=>
   cases f with
   |nil=>simp[DataW.TrodAll]at h
   |cons d f=>obtain⟨a,b,l,j,rfl⟩:=h;simp[trodAll_length g I f b j]
theorem aHE{fn:Func}{s:ChangeSpec}{f m handsOn k:Bool}{W h:World}{args:Array Value}{z M:List (DataW H)}{a:List MemPlace}{tb:TypeId}
 (g:s.vars=[]) (u:∀l:List (DataW H),l.length=fn.params.toList.length->(s.fn H l).results=[.lit (.bool true)]/\(s.fn H l).args=l/\(s.fn H l).vars=[])
 (i:fn.resultTypes=#[tb]) (U:P.underlying tb=some .bool) (T:laidOutB P=true) (n:fn.params.toList.all (λt=>P.readableRec t&&decide (t<P.types.size))=true)
 (E:DataW.Whole enc P fn.params.toList s.vars f W args.toList z M a) (J:h.os=W.os) (C:h.output=W.output) (d:∀b,b<W.heap.size->h.heap[b]? =W.heap[b]?):
 s.post enc P fn f m handsOn k W args (.bool true) h:=by
 have B:=E.lt;have F:=E;obtain⟨p,q,N,hV,D,Y,X⟩:=E;have S:M=[]/\q=[]:=by
  grind [DataW.TrodVars]
 obtain⟨rfl,rfl⟩:=S;rw[aQY]at D;subst D;have L:=trodAll_length _ _ _ _ N;obtain⟨r1,r2,Q⟩:=u (z++[]) jv;rw[aQY]at r1 r2 Q;have o:∀x∈a,W.sameAt h x:=λx Z=>aHD d (B x Z);have R:∀(b:Nat)(y:Nat->Bool)(O:Bool),DataW.TrodAll enc P h b y O fn.resultTypes.toList ((Value.bool true).resultList fn.resultTypes.size) [.lit (.bool true)] []:=by intro b y O;rw[i];exact⟨[],[],⟨1,by simp[DataW.trod,Value.cells,U]⟩,rfl,rfl⟩
 have A:∀y:Nat->Bool,(∀x∈a,y x.block=true)->DataW.TrodAll enc P h 0 y true fn.params.toList args.toList z a:=λy K=>ags T _ n _ _ _ N o K;refine⟨z,[],a,[],a,[],F,?_,?_,?_,aHC J C d _,λ_=>⟨?_,.lit (.bool true)::z,[],a,⟨a,[],?_,?_,ni,?_,X⟩,λx Z _=>Z⟩⟩
 · grind
 · grind
 .rw[aQY,Q,g];rfl
 .intro j t r h1 h2;rw[i]at h1 h2
  match j with
  |0=>
   simp[Value.resultList]at h1 h2;subst h1 h2;simp[Value.okWide,U,Go.Cell.okWide,Go.Cell.ok]
  |j+1=>simp at h1
 .exact ChangeShapes.trodAll_append (A _ (λ_ _=>rfl)) (R _ _ _)
 .rw[g];rfl
 .intro b off hp;have I:=B _ hp;have e:h.frozen? ⟨b,off,none⟩=W.frozen? ⟨b,off,none⟩:=by unfold World.frozen?;rw[d b I]
  rw[e];exact Y b off hp
end Go.Fw
namespace Go.Fw
open Go
theorem law_lifted{H:Type}{enc:TypeId×Value->H}{C:Checked}{G:oI}{os:Os}{f:FuncId}{fn:Func}{s:ChangeSpec}{d:List PathCond}{a k handsOn j:Bool}{tb:TypeId}{r:List jZ}{F:oG r->Prop×Out}
 (own:ownKnob C.prog.godebug=none) (e:os.Started) (h:C.prog.inits.idxOf? f=none) (u:C.prog.funcs[f]? =some fn)
 (g:∃(w:World)(b:Tape)(i:Input),w.os=os/\(w.forCall b i).Shaped C.prog/\i.vars=[]/\Input.okWide C.prog (w.forCall b i) .any w.heap.size f i/\
   s.pre6 enc C.prog fn d a (w.forCall b i).memory i.args/\({}:Assume).holds C.prog (lone (Frame.enter C.prog f i.args .normal) [] (w.forCall b i)))
 (m:lY C.prog G f (Sz r F)) (z:YU C.prog fn.params.toList=some r) (J:∀x,Vu r x->(F x).1/\(F x).2=auv) (K:∀w,G.ok w)
 (B:s.vars=[]) (A:∀l:List (DataW H),l.length=fn.params.toList.length->(s.fn H l).results=[.lit (.bool true)]/\(s.fn H l).args=l/\(s.fn H l).vars=[])
 (E:fn.resultTypes=#[tb]) (U:C.prog.underlying tb=some .bool) (O:laidOutB C.prog=true) (y:fn.params.toList.all (λt=>C.prog.readableRec t&&decide (t<C.prog.types.size))=true):
 ReturnsInHanded {} C os f .any (s.pre6 enc C.prog fn d a) (s.post enc C.prog fn a k handsOn j):=by
 refine returnsInHanded_of_change own e h u g ?_;intro W base args M N o n D _ _;have L:=D;obtain⟨p,q,I,_⟩:=D;refine(aFD m z J (K W) I n).mono ?_
 grind [aHE]
end Go.Fw
