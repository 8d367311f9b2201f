import Derived.Test.YtflpicdbkomglaaGreatDoorFwD
import Derived.Test.YtflpicdbkomglaaGreatDoorFwB
import Derived.Test.YtflpicdbkomglaaGreatDoorFwA
import Derived.ChangeArms
import Derived.WideKeyArgs
import Derived.ChangeSame
import Derived.ChangeOld
import Derived.Handed
import Derived.IntWalk
import Derived.Laws.IdiomCopy
import Derived.ProofKit
namespace Go.Fw
open Go
variable {P:Program} {w0:World} {M:Nat->Prop} {T:Ext} {γ γ':Nat->Value} {st:St} {a:Act} {w w':World} {Θ:iF} {Γ:jG}
structure Ee where
 aes:List Qq
 c:Shape
 v:Shape
structure Hints where
 own:Nat->Bool
 loops:Nat->Option Ee
 cuts:Nat->Option Ee
 upd:List Nat
 frz:Nat->List Pre
def uJ:Code->Option Nat
 |.region id _ _=>some id
 |.seq x y=>match uJ x with|some n=>some n|none=>uJ y
 |.cond _ x y=>match uJ x with|some n=>some n|none=>uJ y
 |.block _ x|.loop x=>uJ x
 |_=>none
def cutAt(H:Hints)(y:Code):Option Ee:=match uJ y with
 |some n=>H.cuts n
 |none=>none
def C9(Θ:iF)(Γ:jG)(H:Hints):Code->(Exit->St->Prop)->St->Prop
 |.skip,Q,st=>Q .normal st
 |.region id ops false,Q,st=>Nk (H.frz id) (runs Θ Γ H.own ops.toList (Q .normal) ops.toList) st
 |.region id ops true,Q,st=>Nk (H.frz id) (Jt Θ Γ H.own H.upd ops.toList (Q .normal)) st
 |.seq x y,Q,st=>match cutAt H y with
  |none=>C9 Θ Γ H x (λe s=>match e with|.normal=>C9 Θ Γ H y Q s|e=>Q e s) st
  |some sp=>match sp.c.read (only sp.c sp.v st)with
   |some x0=>∃(J:sp.v.den->Prop),C9 Θ Γ H x (λe s=>match e with
     |.normal=>match settles s sp.aes with
      |some s1=>match Nat.beq s1.n st.n,sp.c.read (only sp.c sp.v s1),sp.v.read (only sp.c sp.v s1)with
       |true,some x1,some y1=>x1=x0/\J y1
       |_,_,_=>False
      |none=>False
     |e=>Q e s) st/\∀y1,J y1->C9 Θ Γ H y Q (joint st.n sp.c sp.v x0 y1)
   |none=>False
 |.cond c x y,Q,st=>match st.ev c with
  |.sv (.one (.bool b))=>cond b (C9 Θ Γ H x Q st) (C9 Θ Γ H y Q st)
  |_=>False
 |.block id c,Q,st=>C9 Θ Γ H c (λe s=>match e with
  |.exit i=>match Nat.beq i id with|true=>Q .normal s|false=>Q (.exit i) s
  |e=>Q e s) st
 |.exit id,Q,st=>Q (.exit id) st
 |.ret,Q,st=>Q .ret st
 |.loop c,Q,st=>match uJ c with
  |some n=>match H.loops n with
   |some sp=>match settles st sp.aes with
    |some s0=>match sp.c.read (only sp.c sp.v s0),sp.v.read (only sp.c sp.v s0)with
     |some x0,some y0=>∃(I:sp.v.den->Prop)(μ:sp.v.den->Nat),I y0/\∀y,I y->
       C9 Θ Γ H c (λe s=>match e with
        |.normal=>match settles s sp.aes with
         |some s1=>match Nat.beq s1.n s0.n,sp.c.read (only sp.c sp.v s1),sp.v.read (only sp.c sp.v s1)with
          |true,some x1,some y1=>x1=x0/\I y1/\μ y1<μ y
          |_,_,_=>False
         |none=>False
        |e=>Q e s) (joint s0.n sp.c sp.v x0 y)
     |_,_=>False
    |none=>False
   |none=>False
  |none=>False
 |_,_,_=>False
theorem Qr{G:jg}(hE:pJ P G Θ Γ w0 M)(hm:P.follows .mixedOrders=true)(H:Hints):∀(c:Code)(QA:Exit->St->Prop)(Q:Exit->Act->World->Prop)(st:St)(γ:Nat->Value)(a:Act)(w:World),
 Rel w0 M T γ st a w->C9 Θ Γ H c QA st->(∀e s γ' a' w',QA e s->Rel w0 M T γ' s a' w'->Q e a' w')->c.wp P Q a w:=by
 intro c
 induction c with
 |skip=>intro QA Q st γ a w h ha hQ;exact wp_skip (hQ _ _ _ _ _ ha h)
 |region id ops d=>
  intro QA Q st γ a w h ha hQ;cases d with
  |false=>
   obtain⟨s0,γ0,h0,hk0⟩:=zq (K:=runs Θ Γ H.own ops.toList (QA .normal) ops.toList) (H.frz id) st γ h ha;exact aa6 hE h0 hk0 λs γ' a' w' hK hR=>hQ _ _ _ _ _ hK hR
  |true=>
   obtain⟨s0,γ0,h0,hk0⟩:=zq (K:=Jt Θ Γ H.own H.upd ops.toList (QA .normal)) (H.frz id) st γ h ha;exact afs hE hm h0 hk0 λs γ' a' w' hK hR=>hQ _ _ _ _ _ hK hR
 |seq x y ihx ihy=>
  intro QA Q st γ a w h ha hQ;rw[C9]at ha;split at ha
  .refine wp_seq (ihx _ _ st γ a w h ha ?_);intro e s γ' a' w' hq hR;cases e<;>first|exact ihy _ _ s γ' a' w' hR hq hQ|exact hQ _ _ _ _ _ hq hR
  .next sp hsp=>
   split at ha
   .next x0 hx=>
    obtain⟨J,h1,h2⟩:=ha;refine wp_seq (ihx _ _ st γ a w h h1 ?_);intro e s γ' a' w' hq hR;cases e with
    |normal=>
     simp only at hq;split at hq
     .next s1 hs1=>
      split at hq
      .next x1 y1 hsn hx1 hy1=>obtain⟨rfl,hJ⟩:=hq;obtain⟨γ1,hR1⟩:=Rel.settles _ hR hs1;have hR2:=hR1.joint hx1 hy1;rw[anp hsn]at hR2;exact ihy _ _ _ γ1 a' w' hR2 (h2 _ hJ) hQ
      .exact hq.elim
     .exact hq.elim
    |_=>exact hQ _ _ _ _ _ hq hR
   .exact ha.elim
 |cond c x y ihx ihy=>
  intro QA Q st γ a w h ha hQ;rw[C9]at ha;split at ha
  .next b hb=>
   have hv:a.eval c=.bool b:=by have:=gU h c;rw[hb]at this;exact this
   refine wp_cond_split hv (λe=>?_) (λe=>?_)
   .subst e;exact ihx _ _ st γ a w h ha hQ
   .subst e;exact ihy _ _ st γ a w h ha hQ
  .exact ha.elim
 |block id c ih=>
  intro QA Q st γ a w h ha hQ;refine wp_block (ih _ _ st γ a w h ha ?_);intro e s γ' a' w' hq hR;cases e with
  |exit i=>
   simp only[Exit.inBlock];cases hb:Nat.beq i id with
   |true=>
    simp only[hb]at hq;rw[if_pos (anp hb)];exact hQ _ _ _ _ _ hq hR
   |false=>
    simp only[hb]at hq;rw[if_neg (by rintro rfl;simp at hb)];exact hQ _ _ _ _ _ hq hR
  |_=>exact hQ _ _ _ _ _ hq hR
 |loop c ih=>
  intro QA Q st γ a w h ha hQ;rw[C9]at ha;split at ha
  .split at ha
   .next sp hsp=>
    split at ha
    .next s0 hs0=>
     split at ha
     .next x0 y0 hx hy=>
      obtain⟨I,μ,h0,hI⟩:=ha;obtain⟨γ0,hR0⟩:=Rel.settles _ h hs0
      let J:sp.v.den->Act->World->Prop:=λy a' w'=>∃γ',Rel w0 M T γ' (joint s0.n sp.c sp.v x0 y) a' w'
      have key:∀(n:Nat)(y:sp.v.den),μ y=n->I y->∀a' w',J y a' w'->∀(b:Frame)(k:List Item)(cs:List Frame),
       ∃e a'' w'',Q e a'' w''/\Arrives P (lone (b.at a' (.code c:: .inLoop c::k)) cs w') b k cs e a'' w'':=by
       intro n
       induction n using Nat.strongRecOn with
       |_ n ihn=>
        intro y hμ hy' a' w' ⟨γ',hR⟩ b k cs;have hbody:=ih _ (Exit.then (λa2 w2=>∃y2,I y2/\μ y2<μ y/\J y2 a2 w2) Q) _ γ' a' w' hR (hI y hy') ?_
        .obtain⟨e,a1,w1,hq,harr⟩:=hbody b (.inLoop c::k) cs;cases e with
         |normal=>
          obtain⟨y2,hI2,hlt,hJ2⟩:=hq;obtain⟨e2,a2,w2,hq2,ajM⟩:=ihn (μ y2) (hμ▸hlt) y2 rfl hI2 a1 w1 hJ2 b k cs;exact⟨e2,a2,w2,hq2,.of_steps (Steps.trans harr (.one step_inLoop)) ajM⟩
         |exit id=>exact⟨_,a1,w1,hq,.pass (x:=.inLoop c) rfl (λ_ _=>.inl (by simp)) harr⟩
         |goto l=>exact⟨_,a1,w1,hq,.pass (x:=.inLoop c) rfl (λ_ _=>.inl (by simp)) harr⟩
         |ret=>exact⟨_,a1,w1,hq,.pass (x:=.inLoop c) rfl (λ_ _=>.inl (by simp)) harr⟩
         |panic ch=>exact⟨_,a1,w1,hq,.pass (x:=.inLoop c) rfl (λ_ _=>.inl (by simp)) harr⟩
         |outgrown=>exact⟨_,a1,w1,hq,.pass (x:=.inLoop c) rfl (λ_ _=>.inl (by simp)) harr⟩
        .intro e s γ2 a2 w2 hq hR2;cases e with
         |normal=>
          simp only at hq;split at hq
          .next s1 hs1=>
           split at hq
           .next x1 y1 hsn hx1 hy1=>obtain⟨rfl,hI1,hlt⟩:=hq;obtain⟨γ3,gV⟩:=Rel.settles _ hR2 hs1;have hJ:=gV.joint hx1 hy1;rw[anp hsn]at hJ;exact⟨y1,hI1,hlt,_,hJ⟩
           .exact hq.elim
          .exact hq.elim
         |_=>exact hQ _ _ _ _ _ hq hR2
      intro b k cs;obtain⟨e,a',w',hq,harr⟩:=key _ y0 rfl h0 a w ⟨_,hR0.joint hx hy⟩ b k cs;exact⟨e,a',w',hq,.of_steps (.one step_loop) harr⟩
     .exact ha.elim
    .exact ha.elim
   .exact ha.elim
  .exact ha.elim
 |rangeFunc f ps x y ihx ihy=>intro QA Q st γ a w h ha hQ;exact ha.elim
 |exit id=>intro QA Q st γ a w h ha hQ;exact wp_exit (hQ _ _ _ _ _ ha h)
 |scope c ih=>intro QA Q st γ a w h ha hQ;exact ha.elim
 |label l=>intro QA Q st γ a w h ha hQ;exact ha.elim
 |goto l=>intro QA Q st γ a w h ha hQ;exact ha.elim
 |ret=>intro QA Q st γ a w h ha hQ;exact wp_ret (hQ _ _ _ _ _ ha h)
 |refuse s=>intro QA Q st γ a w h ha hQ;exact ha.elim
def Arg.av:Arg->AV
 |.sv v=>.sv v
 |.kp cs=>.dF cs 0
 |.fn f caps=>.fn f caps
 |.own _ _ _|.ptr _=>.undef
def entry(n:Nat)(args:List Arg):St:=
 {n:=n,tmps:=λt=>match args[t]? with|some v=>v.av|none=>.undef,ah:=λ_=>none}
def Ju(st:St)(o:Nat):Bool:=match st.ah o with|some (.arr _ _ _ _)=>true|_=>false
def V6(Θ:iF)(st:St):ResultVar->Option SV
 |.tmp t=>match st.tmps t with|.sv v=>some v|_=>none
 |.cell t ty=>match Θ ty,st.tmps t with
  |some ti,.cZ o off=>match st.ah o with
   |some (.var cs)=>jY ti cs off
   |_=>none
  |_,_=>none
def HY(Θ:iF)(st:St):List ResultVar->Option (List SV)
 |[]=>some []
 |r::rs=>match V6 Θ st r,HY Θ st rs with
  |some v,some vs=>some (v::vs)
  |_,_=>none
def outOf:SV->Bool×List dR
 |.one c=>(false,[.plain c])
 |.agg cs=>(true,cs.map .plain)
def outs:List SV->List (Bool×List dR)
 |[]=>[]
 |v::vs=>outOf (v.kill λ_=>true)::outs vs
def fin(Θ:iF)(rv:List ResultVar)(st:St):Option Out:=
 match HY Θ (st.freeze (Ju st)) rv with
 |some vs=>some ⟨outs vs,none⟩
 |none=>none
theorem Jv:∀(k:Nat)(cs:List Cell),iY k (cs.map .plain)=(cs,[])
 |_,[]=>rfl
 |k,c::cs=>by simp only[anP,iY,Jv (k+1) cs,dR.take,an4]
theorem acU(k:Nat)(v:SV):sV k (outOf v)=(v,[]):=by
 cases v with
 |one c=>rfl
 |agg cs=>simp only[sV,outOf,Jv]
theorem ah7(v:Value)(t:TypeId)(b off:Nat)(hv:v=.pointer (some ⟨b,off,none⟩)):Instr.loadAt t v=(do loadVar t (← asAddr v)):=by subst hv;rfl
def ES(tmps:Array Value):ResultVar->Sem Value
 |.tmp t=>pure (tmps.getD t undef)
 |.cell x t=>do loadVar t (← asAddr (tmps.getD x undef))
theorem Np(fn:Func)(tmps:Array Value):results fn tmps=(do let vs ← fn.results.mapM (ES tmps);pure (if h:vs.size=1 then vs[0]else .tuple vs)):=by unfold results;congr 1
theorem aa8(hΘ:∀t ti,Θ t=some ti->kC P t ti)(h:Rel w0 M T γ st a w){r:ResultVar}{v:SV}(hf:V6 Θ st r=some v):
 ∃u,(ES a.tmps r).run P w=.ok u w/\dn (ax w0 T γ st w) v u:=by
 cases r with
 |tmp t=>
  simp only[V6]at hf;split at hf
  .next e=>cases hf;have:=h.tmps t;rw[e]at this;exact⟨_,rfl,this⟩
  .cases hf
 |cell x t=>
  simp only[V6]at hf;split at hf
  .next ti o off ht hx=>
   split at hf
   .next cs ho=>have hv:=h.tmps x;rw[hx]at hv;obtain⟨b,cs',_,_,hv'⟩:=hv;obtain⟨u,hu,hr⟩:=Jo hΘ h ht (x:=.tmp x) (.inl ⟨o,off,cs,hx,ho,hf⟩);refine⟨u,?_,hr⟩;rw[ES,← ah7 _ t b off hv'];exact hu
   .cases hf
  .cases hf
theorem H6(hΘ:∀t ti,Θ t=some ti->kC P t ti)(h:Rel w0 M T γ st a w):∀(rs:List ResultVar)(vs:List SV),HY Θ st rs=some vs->
 ∃us,(rs.mapM (ES a.tmps)).run P w=.ok us w/\
  dw (ax w0 T γ st w) vs us
 |[],vs,hf=>by cases hf;exact⟨[],rfl,trivial⟩
 |r::rs,vs,hf=>by
  rw[HY]at hf;split at hf
  .next v vs' h1 h2=>cases hf;obtain⟨u,hu,hr⟩:=aa8 hΘ h h1;obtain⟨us,hus,hrs⟩:=H6 hΘ h rs vs' h2;refine⟨u::us,?_,hr,hrs⟩;rw[aqy,anK,hu];simp only[aoj,anK,hus,aot]
  .cases hf
theorem dw.length{X:V}:∀(cs:List SV)(vs:List Value),dw X cs vs->vs.length=cs.length
 |[],[],_=>rfl
 |_::cs,_::vs,⟨_,h⟩=>by simp[dw.length cs vs h]
 |[],_::_,H|_::_,[],H=>by cases H
theorem dw.get{X:V}:∀(cs:List SV)(vs:List Value)(i:Nat)(c:SV),dw X cs vs->cs[i]? =some c->∃v,vs[i]? =some v/\dn X c v
 |[],_,_,_,_,h=>by simp at h
 |c::cs,v::vs,0,d,⟨h1,_⟩,h=>by simp at h;subst h;exact⟨v,rfl,h1⟩
 |c::cs,v::vs,i+1,d,⟨_,h2⟩,h=>by
  obtain⟨u,hu,hr⟩:=dw.get cs vs i d h2 (by simpa using h);exact⟨u,by simpa using hu,hr⟩
 |_::_,[],_,_,H,_=>by cases H
theorem mF.length{X:V}:∀(cs:List Arg)(vs:List Value),mF X cs vs->vs.length=cs.length
 |[],[],_=>rfl
 |_::cs,_::vs,⟨_,h⟩=>by simp[mF.length cs vs h]
 |[],_::_,H|_::_,[],H=>by cases H
theorem mF.get{X:V}:∀(cs:List Arg)(vs:List Value)(i:Nat)(c:Arg),mF X cs vs->cs[i]? =some c->∃v,vs[i]? =some v/\ny X c v
 |[],_,_,_,_,h=>by simp at h
 |c::cs,v::vs,0,d,⟨h1,_⟩,h=>by simp at h;subst h;exact⟨v,rfl,h1⟩
 |c::cs,v::vs,i+1,d,⟨_,h2⟩,h=>by
  obtain⟨u,hu,hr⟩:=mF.get cs vs i d h2 (by simpa using h);exact⟨u,by simpa using hu,hr⟩
 |_::_,[],_,_,H,_=>by cases H
theorem ny.av{X:V}:∀(c:Arg)(v:Value),ny X c v->aV X c.av v
 |.sv _,_,h|.kp _,_,h|.fn _ _,_,h=>h
 |.own _ _ _,_,h|.ptr _,_,h=>h.elim
theorem afu{args:List Arg}{vs:Array Value}{S:Nat->Prop}(n:Nat)(hn:args.length<=n)
 (h:mF ⟨w,w.heap.size,S,λ_=>undef,λ_=>none⟩ args vs.toList):
 Rel w (λ_=>False) ⟨S,λ_=>none,λ_ _ h=>by cases h⟩ (λ_=>undef) (entry n args) {tmps:=vs++Array.replicate (n-vs.size) undef,defers:=[]} w:=by
 have hl:vs.size=args.length:=by simpa using mF.length _ _ h
 refine⟨λ_ h=>h.elim,rfl,?_,rfl,rfl,rfl,anr _,λ_ _ _=>rfl,λt=>?_,(λo x hx=>by cases hx),(λo x b hx=>by cases hx),(λo x p y b hx=>by cases hx),(λo v cs hN=>by cases hN)⟩
 .simp[entry];omega
 .simp only[entry];cases ha:args[t]? with
  |none=>trivial
  |some v=>
   obtain⟨u,hu,hr⟩:=mF.get _ _ t v h ha;have:(vs++Array.replicate (n-vs.size) undef).getD t undef=u:=by
    have hlt:t<args.length:=by
     rcases anL t args.length with h'|h'
     .exact h'
     .rw[aoS h']at ha;cases ha
    have hlt':t<vs.size:=by omega
    rw[apm,apr hlt'];have:vs[t]? =some u:=by simpa using hu
    rw[this];rfl
   rw[this];exact ny.av v u hr
end Go.Fw
namespace Go.Fw
def codeOf(fn:Func):Code:=match fn.body with|some c=>c|none=>.skip
def V7:List (Nat×TI)->iF
 |[],_=>none
 |(t,x)::r,i=>match Nat.beq i t with|true=>some x|false=>V7 r i
def F5:List (Nat×FH)->jG
 |[],_=>none
 |(t,x)::r,i=>match Nat.beq i t with|true=>some x|false=>F5 r i
def aeu:List (Nat×Ee)->Nat->Option Ee
 |[],_=>none
 |(t,x)::r,i=>match Nat.beq i t with|true=>some x|false=>aeu r i
def ahB:List (Nat×List Pre)->Nat->List Pre
 |[],_=>[]
 |(n,z)::r,i=>match Nat.beq i n with|true=>z|false=>ahB r i
def hints(own:List Nat)(l c:List (Nat×Ee))(u:List Nat)(z:List (Nat×List Pre)):Hints:=⟨aO own,aeu l,aeu c,u,ahB z⟩
end Go.Fw
namespace Go.Fw
open Go
variable {P:Program} {Θ:iF} {Γ:jG}
inductive nP where
 |one (c:fK)
 |agg (l:List fK)
@[reducible] def nP.den:nP->Type
  |.one c=>c.den
  |.agg l=>kF l
def nP.val:(s:nP)->s.den->SV
 |.one c,x=>.one (c.cell x)
 |.agg l,x=>.agg (fU l x)
def nP.read:(s:nP)->SV->Option s.den
 |.one c,.one x=>c.read x
 |.agg l,.agg xs=>iZ l xs
 |_,_=>none
theorem nP.weak{X:V}(s:nP)(x:SV)(d:s.den)(v:Value)(hr:s.read x=some d)(hv:dn X x v):dn X (s.val d) v:=by
 unfold nP.read at hr;split at hr
 .exact fK.weak _ _ _ _ hr hv
 .obtain⟨vs,e,h⟩:=hv;exact⟨vs,e,Am _ _ _ _ hr h⟩
 .cases hr
@[reducible] def mP:List nP->Type
  |[]=>Unit
  |s::r=>s.den×mP r
def oQ:(l:List nP)->mP l->List SV
 |[],_=>[]
 |s::r,x=>s.val x.1::oQ r x.2
def KX:(l:List nP)->List SV->Option (mP l)
 |[],[]=>some ()
 |s::r,x::xs=>match s.read x,KX r xs with
  |some a,some b=>some (a,b)
  |_,_=>none
 |_,_=>none
theorem afv{X:V}:∀(l:List nP)(xs:List SV)(d:mP l)(vs:List Value),KX l xs=some d->dw X xs vs->dw X (oQ l d) vs
 |[],[],_,_,_,hv=>hv
 |s::r,x::xs,d,vs,hr,hv=>by
  rw[KX]at hr;split at hr
  .next a b h1 h2=>
   cases hr;cases vs with
   |nil=>cases hv
   |cons v vs=>exact⟨nP.weak s x a v h1 hv.1,afv r xs b vs h2 hv.2⟩
  .cases hr
 |[],_::_,_,_,hr,_=>by simp[KX]at hr
 |_::_,[],_,_,hr,_=>by simp[KX]at hr
mutual
def CT.pK:(c:CT)->c.den->Prop
 |.int k,(n:Int)=>k.min<=n/\n<=k.max
 |.bool,_=>True
 |.str,(s:Bytes)=>s.length<=maxLen
 |.sl _ r,(l:List r.den)=>l.length<=maxLen/\∀x∈l,r.pK x
def aB.pK:(r:aB)->r.den->Prop
 |.nil,_=>True
 |.cons c r,x=>c.pK x.1/\r.pK x.2
end
mutual
theorem bW.pK{h:Array Obj}{S:Nat->Prop}:∀(c:CT)(v:Value)(x:c.den),bW h S c v x->c.pK x
 |.int k,v,(n:Int),H=>by rw[bW]at H;rw[CT.pK];exact H.2
 |.bool,v,(b:Bool),H=>by rw[CT.pK];trivial
 |.str,v,(s:Bytes),H=>by rw[bW]at H;rw[CT.pK];exact H.2
 |.sl e r,v,(l:List r.den),H=>by
  rw[bW]at H;rw[CT.pK];refine⟨H.1,λx hx=>?_⟩;obtain⟨i,hi,rfl⟩:=aoL.1 hx;rcases H.2 with⟨hnil,_⟩|⟨b,off,cap,cs,t,fz,_,_,_,_,hr⟩
  .subst hnil;simp at hi
  .exact aU.pK r _ _ (hr i _ (anu hi))
theorem aU.pK{h:Array Obj}{S:Nat->Prop}:∀(r:aB)(vs:List Value)(x:r.den),aU h S r vs x->r.pK x
 |.nil,vs,_,H=>by rw[aB.pK];trivial
 |.cons c r,vs,(x,y),H=>by rw[aU]at H;obtain⟨v,vs',_,h1,h2⟩:=H;rw[aB.pK];exact⟨bW.pK c v x h1,aU.pK r vs' y h2⟩
end
def fK.pK:(c:fK)->c.den->Prop
 |.int k,(n:Int)=>k.min<=n/\n<=k.max
 |.str,(s:Bytes)=>s.length<=maxLen
 |.sl _ r _,(l:List r.den)=>l.length<=maxLen/\∀x∈l,r.pK x
 |_,_=>True
def Sl:(l:List fK)->kF l->Prop
 |[],_=>True
 |c::r,x=>c.pK x.1/\Sl r x.2
def nP.pK:(s:nP)->s.den->Prop
 |.one c,x=>c.pK x
 |.agg l,x=>Sl l x
theorem fK.Sm{X:V}(c:fK)(x:c.den)(v:Value)(h:aS X (c.cell x) v):c.pK x:=by
 cases c with
 |int k=>exact h.2
 |str=>exact h.2
 |sl e r fr=>
  have h':bW X.w.heap (X.bT fr) (.sl e r) v x:=h;have:=bW.pK (.sl e r) v x h';rw[CT.pK]at this;exact this
 |_=>trivial
theorem ET{X:V}:∀(l:List fK)(x:kF l)(vs:List Value),aj X (fU l x) vs->Sl l x
 |[],_,_,_=>trivial
 |c::r,x,v::vs,h=>⟨fK.Sm c x.1 v h.1,ET r x.2 vs h.2⟩
 |_::_,_,[],h=>by cases h
inductive gG where
 |v (s:nP)
 |kp (l:List fK)
 |fn (f:FuncId) (l:List (List fK))
@[reducible] def gG.den:gG->Type
  |.v s=>s.den
  |.kp l=>kF l
  |.fn _ l=>xX l
def gG.val:(s:gG)->s.den->Arg
 |.v s,x=>.sv (s.val x)
 |.kp l,x=>.kp (fU l x)
 |.fn f l,x=>.fn f (EP l x)
def gG.read:(s:gG)->Arg->Option s.den
 |.v s,.sv x=>s.read x
 |.kp l,.kp xs=>iZ l xs
 |.fn f l,.fn g xs=>match Nat.beq f g with|true=>Bq l xs|false=>none
 |_,_=>none
theorem gG.weak{X:V}(s:gG)(x:Arg)(d:s.den)(v:Value)(hr:s.read x=some d)(hv:ny X x v):ny X (s.val d) v:=by
 unfold gG.read at hr;split at hr
 .exact nP.weak _ _ _ _ hr hv
 .obtain⟨b,e,hk⟩:=hv;exact⟨b,e,Zf hr hk⟩
 .split at hr
  .next hb=>obtain⟨us,e,hk⟩:=hv;rw[gG.val,anp hb];exact⟨us,e,Qo _ _ _ _ hr hk⟩
  .cases hr
 .cases hr
@[reducible] def iT:List gG->Type
  |[]=>Unit
  |s::r=>s.den×iT r
def rE:(l:List gG)->iT l->List Arg
 |[],_=>[]
 |s::r,x=>s.val x.1::rE r x.2
def Dc:(l:List gG)->List Arg->Option (iT l)
 |[],[]=>some ()
 |s::r,x::xs=>match s.read x,Dc r xs with
  |some a,some b=>some (a,b)
  |_,_=>none
 |_,_=>none
theorem Df{X:V}:∀(l:List gG)(xs:List Arg)(d:iT l)(vs:List Value),Dc l xs=some d->mF X xs vs->mF X (rE l d) vs
 |[],[],_,_,_,hv=>hv
 |s::r,x::xs,d,vs,hr,hv=>by
  rw[Dc]at hr;split at hr
  .next a b h1 h2=>
   cases hr;cases vs with
   |nil=>cases hv
   |cons v vs=>exact⟨gG.weak s x a v h1 hv.1,Df r xs b vs h2 hv.2⟩
  .cases hr
 |[],_::_,_,_,hr,_=>by simp[Dc]at hr
 |_::_,[],_,_,hr,_=>by simp[Dc]at hr
theorem OJ:∀(l:List gG)(d:iT l),(rE l d).length=l.length
 |[],_=>rfl
 |_::r,d=>by simp[rE,OJ r d.2]
def X9:(l:List (List fK))->xX l->Prop
 |[],_=>True
 |c::r,x=>Sl c x.1/\X9 r x.2
def gG.pK:(s:gG)->s.den->Prop
 |.v s,x=>s.pK x
 |.kp l,x=>Sl l x
 |.fn _ l,x=>X9 l x
def Gh:(l:List gG)->iT l->Prop
 |[],_=>True
 |s::r,x=>s.pK x.1/\Gh r x.2
theorem Ud{X:V}:∀(l:List (List fK))(x:xX l)(us:List Value),dP X (EP l x) us->X9 l x
 |[],_,_,_=>trivial
 |c::r,x,u::us,h=>by
  obtain⟨⟨b,hu,arr,t,fz,hf,hh,hc⟩,h2⟩:=h;exact⟨ET c x.1 _ hc,Ud r x.2 us h2⟩
 |_::_,_,[],h=>by cases h
theorem yR{X:V}:∀(l:List gG)(x:iT l)(vs:List Value),mF X (rE l x) vs->Gh l x
 |[],_,_,_=>trivial
 |.v (.one c)::r,x,v::vs,h=>⟨fK.Sm c x.1 v h.1,yR r x.2 vs h.2⟩
 |.v (.agg l)::r,x,v::vs,h=>by
  obtain⟨ws,hv,hc⟩:=h.1;exact⟨ET l x.1 _ hc,yR r x.2 vs h.2⟩
 |.kp l::r,x,v::vs,h=>by
  obtain⟨b,hu,arr,t,fz,hf,hh,hc⟩:=h.1;exact⟨ET l x.1 _ hc,yR r x.2 vs h.2⟩
 |.fn f l::r,x,v::vs,h=>by
  obtain⟨us,hv,hk⟩:=h.1;exact⟨Ud l x.1 _ hk,yR r x.2 vs h.2⟩
 |_::_,_,[],h=>by cases h
def uV(sh:List gG)(F:iT sh->Prop×Out):EJ:=λargs=>
 match Dc sh args with
 |some x=>some (F x)
 |none=>none
def wV:List SV->List (Bool×List dR)
 |[]=>[]
 |v::vs=>outOf v::wV vs
theorem KY:∀(k:Nat)(vs:List SV),gq k (wV vs)=(vs,[])
 |_,[]=>rfl
 |k,v::vs=>by simp only[wV,gq,acU,KY,an4]
def V8(Θ:iF)(rv:List ResultVar)(bU:List nP)(K:mP bU->Prop)(e:Exit)(st:St):Prop:=
 match e with
 |.normal|.ret=>match HY Θ (st.freeze (Ju st)) rv with
  |some vs=>match KX bU (vs.map (SV.kill λ_=>true))with
   |some d=>K d
   |none=>False
  |none=>False
 |_=>False
theorem ah8{G:jg}(hE:EnvB P G Θ Γ)(hm:P.follows .mixedOrders=true){f:FuncId}{fn:Func}{c:Code}(hf:P.funcs[f]? =some fn)(hb:fn.body=some c)(H:Hints){con:EJ}{bU:List nP}
 (hwalk:∀args p out,con args=some (p,out)->p->Nat.ble args.length fn.ntmps=true/\∃d:mP bU,out=⟨wV (oQ bU d),none⟩/\C9 Θ Γ H c (V8 Θ fn.results.toList bU λy=>y=d) (entry fn.ntmps args)):gW P G f con:=by
 intro args p out k S vs w hcon hp hG hrep;obtain⟨hn,d,hout,hw⟩:=hwalk args p out hcon hp;subst hout;have hn':args.length<=fn.ntmps:=by simpa[apJ]using hn
 refine calls_of_wp hf hb (Qr ⟨hE,hG,λb hb=>hb.elim⟩ hm H c _ _ _ _ _ _ (afu (S:=S) fn.ntmps hn' hrep) hw ?_);have hret:∀s γ' a' w',V8 Θ fn.results.toList bU (λy=>y=d) .ret s->Rel w (λ_=>False) ⟨S,λ_=>none,λ_ _ h=>by cases h⟩ γ' s a' w'->bodyPost P fn (λe w'=>∃v vals,e=.returned v/\w'.os=w.os/\w'.tape=w.tape/\w'.output=w.output/\w.heap.size<=w'.heap.size/\
  (∀b,b<w.heap.size->w'.heap[b]? =w.heap[b]?)/\
  aV ⟨w',w.heap.size,S,vals,look (Out.take k ⟨wV (oQ bU d),none⟩).2⟩ (Out.take k ⟨wV (oQ bU d),none⟩).1 v/\
  (∀o x,look (Out.take k ⟨wV (oQ bU d),none⟩).2 o=some x->bf ⟨w',w.heap.size,S,vals,look (Out.take k ⟨wV (oQ bU d),none⟩).2⟩ o x/\∀b,blk (vals o)=some b->w.heap.size<=b/\b<w'.heap.size)/\
  (∀o x q y b,look (Out.take k ⟨wV (oQ bU d),none⟩).2 o=some x->look (Out.take k ⟨wV (oQ bU d),none⟩).2 q=some y->o≠q->blk (vals o)=some b->blk (vals q)≠some b)) .ret a' w':=by
  intro s γ' a' w' he hR;refine⟨hR.defers,?_⟩;simp only[V8]at he;split at he
  .next svs hvs=>
   split at he
   .next y hy=>
    subst he;have Zh:=hR.freeze (Ju s);obtain⟨us,hus,hrs⟩:=H6 hE.types Zh _ _ hvs;have hk0:=dw.kill (λ_=>true) Zh svs us hrs;have hk:=afv bU _ y us hy hk0;have htake:Out.take k ⟨wV (oQ bU y),none⟩=(match oQ bU y with|[v]=>.sv v|l=>.kT l,[]):=by unfold Out.take;simp only[KY];rcases oQ bU y with _|⟨v,_|⟨v2,r⟩⟩<;>rfl
    have hmap:(fn.results.mapM (ES a'.tmps)).run P w'=.ok us.toArray w':=by rw[apO,Sem.run_map,hus];rfl
    refine⟨if h:us.toArray.size=1 then us.toArray[0]else .tuple us.toArray,?_,_,γ',rfl,hR.os,hR.tape,hR.output,hR.grow,λb hb=>hR.kept b hb (λh=>h),?_,?_,?_⟩
    .rw[Np,anK,hmap];simp only[aoj,aot]
    .rw[htake];have hl:=dw.length _ _ hk
     match hm:oQ bU y,us,hk,hl with
     |[v],[u],hk,_=>exact hk.1
     |[],[],hk,_=>exact⟨_,by simp,hk⟩
     |v::v2::r,u::u2::us,hk,hl=>exact⟨_,by simp,hk⟩
     |[],_::_,hk,h4|_::_,[],hk,h4|[_],_::_::_,hk,h4|_::_::_,[_],hk,h4=>simp at h4
    .intro o x hx;rw[htake]at hx;cases hx
    .intro o x q y b hx;rw[htake]at hx;cases hx
   .exact he.elim
  .exact he.elim
 intro e s γ' a' w' he hR;cases e with
 |normal=>exact hret s γ' a' w' he hR
 |ret=>exact hret s γ' a' w' he hR
 |_=>exact he.elim
def iM(sh:List gG)(bU:List nP)(F:iT sh->Prop×mP bU):EJ:=uV sh λx=>((F x).1,⟨wV (oQ bU (F x).2),none⟩)
theorem Ya{G:jg}(hE:EnvB P G Θ Γ)(hm:P.follows .mixedOrders=true){f:FuncId}{fn:Func}{c:Code}(hf:P.funcs[f]? =some fn)(hb:fn.body=some c)(H:Hints)
 {sh:List gG} {bU:List nP} {F:iT sh->Prop×mP bU} (hn:Nat.ble sh.length fn.ntmps=true)
 (hwalk:∀x,Gh sh x->(F x).1->C9 Θ Γ H c (V8 Θ fn.results.toList bU λy=>y=(F x).2) (entry fn.ntmps (rE sh x))):gW P G f (iM sh bU F):=by
 have base:∀x,Gh sh x->gW P G f (λargs=>@ite _ (args=rE sh x) (Classical.propDecidable _) (some ((F x).1,⟨wV (oQ bU (F x).2),none⟩)) none):=by
  intro x hin;refine ah8 (bU:=bU) hE hm hf hb H ?_;intro args p out hcon hp;split at hcon
  .next e=>
   have hF:((F x).1,(⟨wV (oQ bU (F x).2),none⟩:Out))=(p,out):=by simpa using hcon
   have h1:(F x).1=p:=congrArg Prod.fst hF;have h2:(⟨wV (oQ bU (F x).2),none⟩:Out)=out:=congrArg Prod.snd hF;have:=hwalk x hin (by rw[h1];exact hp);rw[e];exact⟨by rw[OJ];exact hn,(F x).2,h2.symm,this⟩
  .cases hcon
 intro args p out k S vs w hcon hp hG hrep;unfold iM uV at hcon;split at hcon
 .next x hx=>have hv:=Df sh args x vs.toList hx hrep;exact base x (yR sh x _ hv) (rE sh x) p out k S vs w (by simp only[if_true];exact hcon) hp hG hv
 .cases hcon
inductive RC where
 |c (s:fK)
 |own (e:TypeId) (r:aB) (fr:Bool)
@[reducible] def RC.den:RC->Type
  |.c s=>s.den
  |.own _ r _=>List r.den
@[reducible] def V9:List RC->Type
  |[]=>Unit
  |c::r=>c.den×V9 r
def RC.aev:(c:RC)->c.den->dR
 |.c s,x=>.plain (s.cell x)
 |.own e r fr,l=>.own e r l fr
def Yb:(l:List RC)->V9 l->List dR
 |[],_=>[]
 |c::r,x=>c.aev x.1::Yb r x.2
inductive ql where
 |one (c:RC)
 |agg (l:List RC)
@[reducible] def ql.den:ql->Type
  |.one c=>c.den
  |.agg l=>V9 l
@[reducible] def qB:List ql->Type
  |[]=>Unit
  |s::r=>s.den×qB r
def ql.out:(s:ql)->s.den->Bool×List dR
 |.one c,x=>(false,[c.aev x])
 |.agg l,x=>(true,Yb l x)
def iy:(l:List ql)->qB l->List (Bool×List dR)
 |[],_=>[]
 |s::r,x=>s.out x.1::iy r x.2
def RC.name:RC->Cell->Option Nat
 |.own _ _ _,.ref o=>some o
 |_,_=>none
def Yc:List RC->List Cell->List (Option Nat)
 |c::r,x::xs=>c.name x::Yc r xs
 |_,_=>[]
def ql.names:ql->SV->List (Option Nat)
 |.one c,.one x=>[c.name x]
 |.agg l,.agg xs=>Yc l xs
 |_,_=>[]
def xY:List ql->List SV->List (Option Nat)
 |s::r,x::xs=>s.names x++xY r xs
 |_,_=>[]
def RC.read(st:St):(c:RC)->Cell->Option c.den
 |.c s,x=>match x.refs with|[]=>s.read x|_=>none
 |.own e r fr,.ref o=>match st.ah o with
  |some (.arr f s l g)=>match Nat.beq e f&&Hz fr g with
   |true=>if h:s.beq r=true then some (qW h l)else none
   |false=>none
  |_=>none
 |.own _ r _,.nil=>match Nat.ble 1 r.len with|true=>some []|false=>none
 |_,_=>none
def KZ(st:St):(l:List RC)->List Cell->Option (V9 l)
 |[],[]=>some ()
 |c::r,x::xs=>match c.read st x,KZ st r xs with
  |some a,some b=>some (a,b)
  |_,_=>none
 |_,_=>none
def ql.read(st:St):(s:ql)->SV->Option s.den
 |.one c,.one x=>c.read st x
 |.agg l,.agg xs=>KZ st l xs
 |_,_=>none
def yS(st:St):(l:List ql)->List SV->Option (qB l)
 |[],[]=>some ()
 |s::r,x::xs=>match s.read st x,yS st r xs with
  |some a,some b=>some (a,b)
  |_,_=>none
 |_,_=>none
inductive iH where
 |p (s:gG)
 |own (e:TypeId) (r:aB)
 |ptr (l:List fK)
@[reducible] def iH.den:iH->Type
  |.p s=>s.den
  |.own _ r=>List r.den
  |.ptr l=>kF l
def iH.mode:iH->Mode
 |.p _=>.val
 |.own _ _=>.own
 |.ptr _=>.ptr
def iH.val:(s:iH)->s.den->Arg
 |.p s,x=>s.val x
 |.own e r,l=>.own e r l
 |.ptr l,x=>.ptr (fU l x)
def iH.read:(s:iH)->Arg->Option s.den
 |.p s,x=>s.read x
 |.own e r,.own f s l=>match Nat.beq e f with
  |true=>if h:s.beq r=true then some (qW h l)else none
  |false=>none
 |.ptr l,.ptr cs=>iZ l cs
 |_,_=>none
@[reducible] def jH:List iH->Type
  |[]=>Unit
  |s::r=>s.den×jH r
def qx:(l:List iH)->jH l->List Arg
 |[],_=>[]
 |s::r,x=>s.val x.1::qx r x.2
def jU:(l:List iH)->List Arg->Option (jH l)
 |[],[]=>some ()
 |s::r,x::xs=>match s.read x,jU r xs with
  |some a,some b=>some (a,b)
  |_,_=>none
 |_,_=>none
@[reducible] def oZ:List iH->Type
  |[]=>Unit
  |.ptr l::r=>kF l×oZ r
  |.p _::r|.own _ _::r=>oZ r
def jV:(l:List iH)->oZ l->List Eff
 |[],_=>[]
 |.ptr l::r,x=>.var (fU l x.1)::jV r x.2
 |.p _::r,x|.own _ _::r,x=>.lose::jV r x
def EU(st:St):(i:Nat)->(l:List iH)->Option (oZ l)
 |_,[]=>some ()
 |i,.ptr l::r=>match st.ah (i*64+48),EU st (i+1) r with
  |some (.var cs),some b=>match cs.flatMap Cell.refs,iZ l cs with
   |[],some a=>some (a,b)
   |_,_=>none
  |_,_=>none
 |i,.p _::r|i,.own _ _::r=>EU st (i+1) r
def Arg.avX(i:Nat):Arg->AV
 |.own _ _ _=>.sv (.one (.ref (i*64+49)))
 |.ptr _=>.cZ (i*64+48) 0
 |a=>a.av
def Aq(n:Nat)(args:List Arg):St:=
 {n:=n,tmps:=λt=>match args[t]? with|some v=>v.avX t|none=>.undef,ah:=dN args}
def Wh(st:St)(W:List (Option Nat))(o:Nat):Bool:=Ju st o&&!(P6 o W)
def aap(Θ:iF)(rv:List ResultVar)(sh:List iH)(bU:List ql)(K:qB bU×oZ sh->Prop)(e:Exit)(st:St):Prop:=
 match e with
 |.normal|.ret=>match HY Θ st rv with
  |some svs=>match HY Θ (st.freeze (Wh st (xY bU svs))) rv with
   |some vs=>match vO (xY bU vs),yS (st.freeze (Wh st (xY bU svs))) bU vs,EU (st.freeze (Wh st (xY bU svs))) 0 sh with
    |true,some d,some b=>K (d,b)
    |_,_,_=>False
   |none=>False
  |none=>False
 |_=>False
def zX(sh:List iH)(bU:List ql)(F:jH sh->Prop×(qB bU×oZ sh->Prop)):JL:=λargs=>
 match jU sh args with
 |some x=>some ((F x).1,⟨qB bU×oZ sh,(F x).2,λt=>⟨iy bU t.1,none⟩,λt=>jV sh t.2⟩)
 |none=>none
def KI(sh:List iH):List Mode:=sh.map iH.mode
end Go.Fw
namespace Go.Fw
open Go
variable {P:Program} {w0:World} {M:Nat->Prop} {T:Ext} {γ γ':Nat->Value} {st:St} {a:Act} {w w':World} {Θ:iF} {Γ:jG}
def Yd(args:List Arg)(γ:Nat->Value)(o:Nat):Option Value:=match dN args o with|some (.var _)=>some (γ o)|_=>none
theorem agD{args:List Arg}{o:Nat}{cs:List Cell}(h:dN args o=some (.var cs)):o%64=48:=by
 unfold dN at h;split at h
 .split at h<;>cases h
 .split at h
  .next hm=>exact anp hm
  .cases h
 .cases h
def Qs(args:List Arg)(γ:Nat->Value)(S:Nat->Prop):Ext where
 S:=λb=>S b\/wR (dN args) γ b
 N:=Yd args γ
 n48:=by
  intro p v h;unfold Yd at h;split at h
  .next cs hc=>exact agD hc
  .cases h
theorem uU.get{X:V}:∀(as:List Arg)(vs:List Value)(i:Nat),uU X i as vs->as.length=vs.length/\∀(j:Nat)(b:Arg),as[j]? =some b->∃v,vs[j]? =some v/\Hq X (i+j) b v
 |[],[],_,_=>⟨rfl,λj b h=>by simp at h⟩
 |x::as,v::vs,i,⟨h1,h2⟩=>by
  obtain⟨g1,g2⟩:=uU.get as vs (i+1) h2;refine⟨by simp[g1],λj b hb=>?_⟩;cases j with
  |zero=>simp at hb;subst hb;exact⟨v,rfl,h1⟩
  |succ j=>
   obtain⟨u,hu,hr⟩:=g2 j b (by simpa using hb);exact⟨u,by simpa using hu,by rw[show i+(j+1)=i+1+j by omega];exact hr⟩
 |[],_::_,_,H|_::_,[],_,H=>by cases H
theorem Hq.av{X:V}(i:Nat):∀(c:Arg)(v:Value),Hq X i c v->aV X (c.avX i) v
 |.own _ _ _,_,h=>h
 |.ptr _,_,h=>h
 |.sv _,_,h|.kp _,_,h|.fn _ _,_,h=>h
theorem Wi{args:List Arg}{vs:Array Value}{S:Nat->Prop}(n:Nat)(hn:args.length<=n)
 (h:uU ⟨w,w.heap.size,S,γ,dN args⟩ 0 args vs.toList)
 (ho:∀o x,dN args o=some x->bf ⟨w,w.heap.size,S,γ,dN args⟩ o x/\∀b,blk (γ o)=some b->b<w.heap.size)
 (hs:∀o x q y b,dN args o=some x->dN args q=some y->o≠q->blk (γ o)=some b->blk (γ q)≠some b):
 Rel w (wR (dN args) γ) (Qs args γ S) γ (Aq n args) {tmps:=vs++Array.replicate (n-vs.size) undef,defers:=[]} w:=by
 obtain⟨hl0,hget⟩:=uU.get _ _ 0 h;have hl:vs.size=args.length:=by simpa using hl0.symm
 have le:V.le ⟨w,w.heap.size,S,γ,dN args⟩ ⟨w,w.heap.size,(Qs args γ S).S,γ,dN args⟩:=
  ⟨anr _,λb hb=>⟨⟨hb.1,λhlt=>.inl (hb.2.1 hlt),hb.2.2⟩,rfl⟩,λo cs hx=>⟨⟨cs,hx⟩,rfl⟩,λo e r l fr hx=>⟨⟨l,fr,hx⟩,rfl⟩⟩
 refine⟨λb hb=>.inr hb,rfl,?_,rfl,rfl,rfl,anr _,λ_ _ _=>rfl,λt=>?_,λo x hx=>bf.mono le o x (λ_ _=>rfl) rfl (ho o x hx).1,λo x b hx hb=>⟨(ho o x hx).2 b hb,.inr ⟨o,x,hx,hb⟩⟩,λo x p y b hx hy hop hb=>hs o x p y b hx hy hop hb,λo v cs hN hx=>?_⟩
 .simp[Aq];omega
 .simp only[Aq];cases ha:args[t]? with
  |none=>trivial
  |some v=>
   obtain⟨u,hu,hr⟩:=hget t v ha;have:(vs++Array.replicate (n-vs.size) undef).getD t undef=u:=by
    have hlt:t<args.length:=by
     rcases anL t args.length with h'|h'
     .exact h'
     .rw[aoS h']at ha;cases ha
    have hlt':t<vs.size:=by omega
    rw[apm,apr hlt'];have:vs[t]? =some u:=by simpa using hu
    rw[this];rfl
   rw[this];rw[anR]at hr;exact aV.mono le _ _ (Hq.av t v u hr)
 .have hx':dN args o=some (.var cs):=hx;have hN':Yd args γ o=some v:=hN;unfold Yd at hN';rw[hx']at hN';exact Option.some.inj hN'
def AW(a a':Arg):Prop:=
 (∃e r l,a=.own e r l/\a'=.own e r l)\/(∃cs cs',a=.ptr cs/\a'=.ptr cs'/\∀(X:V) vs,aj X cs vs->aj X cs' vs)\/
 ((∀(X:V) v,aV X a.av v->aV X a'.av v)/\(∀i,a.avX i=a.av)/\(∀i,a'.avX i=a'.av)/\(∀e r l,a≠ .own e r l)/\(∀cs,a≠ .ptr cs)/\(∀e r l,a'≠ .own e r l)/\(∀cs,a'≠ .ptr cs))
theorem gG.aew{s:gG}{x:Arg}{d:s.den}(h:s.read x=some d):AW x (s.val d):=by
 refine .inr (.inr ⟨λX v hv=>?_,?_⟩)
 .have hx:ny X x v:=by
   cases x with
   |sv _|kp _|fn _ _=>exact hv
   |own _ _ _|ptr _=>cases s<;>simp[gG.read]at h
  exact ny.av _ _ (gG.weak s x d v h hx)
 .cases x<;>cases s<;>first
   |(simp[gG.read]at h;done)
   |exact⟨λ_=>rfl,λ_=>rfl,(λ_ _ _ e=>by cases e),(λ_ e=>by cases e),(λ_ _ _ e=>by cases e),(λ_ e=>by cases e)⟩
theorem iH.aew{s:iH}{x:Arg}{d:s.den}(h:s.read x=some d):AW x (s.val d):=by
 unfold iH.read at h;split at h
 .exact gG.aew h
 .next e r f s l=>
  split at h
  .next hb=>
   split at h
   .next hs=>cases h;have he:=anp hb;subst he;have hsr:=aB.eq_of_beq s r hs;subst hsr;exact .inl ⟨e,s,l,rfl,rfl⟩
   .cases h
  .cases h
 .next l cs=>exact .inr (.inl ⟨cs,_,rfl,rfl,λX vs hc=>Am _ _ _ _ h hc⟩)
 .cases h
theorem Gi:∀{l:List iH}{xs:List Arg}{d:jH l},jU l xs=some d->(qx l d).length=xs.length/\∀(i:Nat)(a:Arg),xs[i]? =some a->∃a',(qx l d)[i]? =some a'/\AW a a'
 |[],[],_,_=>⟨rfl,λi a h=>by simp at h⟩
 |s::r,x::xs,d,h=>by
  rw[jU]at h;split at h
  .next a b h1 h2=>
   cases h;obtain⟨g1,g2⟩:=Gi h2;refine⟨by simp[qx,g1],λi c hc=>?_⟩;cases i with
   |zero=>simp at hc;subst hc;exact⟨_,rfl,iH.aew h1⟩
   |succ i=>obtain⟨c',k1,k2⟩:=g2 i c (by simpa using hc);exact⟨c',by simpa[qx]using k1,k2⟩
  .cases h
 |[],_::_,_,h=>by simp[jU]at h
 |_::_,[],_,h=>by simp[jU]at h
theorem Jw{args:List Arg}{o:Nat}(h:∀b,args[o / 64]? =some b->(∀e r l,b≠ .own e r l)/\∀cs,b≠ .ptr cs):dN args o=none:=by
 unfold dN;split
 .next e r l ha=>exact((h _ ha).1 e r l rfl).elim
 .next cs ha=>exact((h _ ha).2 cs rfl).elim
 .rfl
theorem OL{sh:List iH}{args:List Arg}{x:jH sh}(h:jU sh args=some x)(n:Nat):Covers (Aq n (qx sh x)) (Aq n args):=by
 obtain⟨hl,hget⟩:=Gi h;refine⟨rfl,λt X v hv=>?_,λo=>?_⟩
 .simp only[Aq]at hv ⊢;cases ha:args[t]? with
  |none=>
   have:(qx sh x)[t]? =none:=by rw[aqp]at ha ⊢;omega
   rw[this];trivial
  |some b=>
   obtain⟨b',hb',hw⟩:=hget t b ha;rw[ha]at hv;rw[hb'];dsimp only at hv ⊢;rcases hw with⟨e,r,l,rfl,rfl⟩|⟨cs,cs',rfl,rfl,_⟩|⟨hw,e1,e2,_⟩
   .exact hv
   .exact hv
   .rw[e1]at hv;rw[e2];exact hw X v hv
 .show(dN (qx sh x) o=none/\dN args o=none)\/∃y y',dN args o=some y/\dN (qx sh x) o=some y'/\Ed y y';cases ha:args[o / 64]? with
  |none=>
   have h2:(qx sh x)[o / 64]? =none:=by rw[aqp]at ha ⊢;omega
   exact .inl ⟨Jw (by rw[h2];intro b hb;cases hb),Jw (by rw[ha];intro b hb;cases hb)⟩
  |some b=>
   obtain⟨b',hb',hw⟩:=hget _ b ha;rcases hw with⟨e,r,l,rfl,rfl⟩|⟨cs,cs',rfl,rfl,hc⟩|⟨_,_,_,n1,n2,n3,n4⟩
   .unfold dN;rw[ha,hb'];dsimp only;cases hm:Nat.beq (o%64) 49 with
    |true=>exact .inr ⟨_,_,rfl,rfl,.inr ⟨e,r,l,false,false,rfl,rfl,id⟩⟩
    |false=>exact .inl ⟨rfl,rfl⟩
   .unfold dN;rw[ha,hb'];dsimp only;cases hm:Nat.beq (o%64) 48 with
    |true=>exact .inr ⟨_,_,rfl,rfl,.inl ⟨cs,cs',rfl,rfl,hc⟩⟩
    |false=>exact .inl ⟨rfl,rfl⟩
   .exact .inl ⟨Jw (by rw[hb'];intro c hc;cases hc;exact⟨n3,n4⟩),Jw (by rw[ha];intro c hc;cases hc;exact⟨n1,n2⟩)⟩
theorem Ue(a b:List (Nat×aG))(p:Nat):look (a++b) p=match look b p with|some y=>some y|none=>look a p:=by
 induction a with
 |nil=>simp only[aoh,look];cases look b p<;>rfl
 |cons x a ih=>obtain⟨o,z⟩:=x;rw[aov,look,ih,look];cases look b p<;>rfl
theorem qX:∀(cs:List dR)(k p:Nat)(x:aG),look (iY k cs).2 p=some x↔∃i e r l fr,p=k+i/\cs[i]? =some (.own e r l fr)/\x=.arr e r l fr
 |[],k,p,x=>by simp[iY,look]
 |c::cs,k,p,x=>by
  rw[iY,Ue];have ih:=qX cs (k+1) p x;constructor
  .intro h;split at h
   .next y hy=>cases h;obtain⟨i,e,r,l,fr,h1,h2,h3⟩:=(qX cs (k+1) p x).1 hy;exact⟨i+1,e,r,l,fr,by omega,by simpa using h2,h3⟩
   .next hn=>
    cases c with
    |plain c=>simp[dR.take,look]at h
    |own e r l fr=>
     simp only[dR.take,look]at h;split at h
     .next hb=>cases h;exact⟨0,e,r,l,fr,by have:=anp hb;omega,rfl,rfl⟩
     .cases h
  .rintro⟨i,e,r,l,fr,h1,h2,rfl⟩;cases i with
   |succ i=>
    have:=(qX cs (k+1) p (.arr e r l fr)).2 ⟨i,e,r,l,fr,by omega,by simpa using h2,rfl⟩;rw[this]
   |zero=>
    simp at h2;subst h2;have hn:look (iY (k+1) cs).2 p=none:=by
     cases hl:look (iY (k+1) cs).2 p with
     |none=>rfl
     |some y=>obtain⟨i,_,_,_,_,g1,_⟩:=(qX cs (k+1) p y).1 hl;omega
    rw[hn];have hp:p=k:=by omega
    subst hp;simp[dR.take,look]
def Gj(rs:List (Bool×List dR)):List dR:=rs.flatMap (·.2)
theorem acV(k:Nat)(x:Bool×List dR):(sV k x).2=(iY k x.2).2:=by
 unfold sV;split
 .next e1 e2=>rw[e2]
 .next e1 e2=>rw[e2]
 .next e1 e2=>rw[e2]
theorem xK:∀(rs:List (Bool×List dR))(k p:Nat)(x:aG),look (gq k rs).2 p=some x↔∃i e r l fr,p=k+i/\(Gj rs)[i]? =some (.own e r l fr)/\x=.arr e r l fr
 |[],k,p,x=>by simp[gq,look,Gj]
 |y::rs,k,p,x=>by
  rw[gq,Ue,acV];have aex:Gj (y::rs)=y.2++Gj rs:=rfl;constructor
  .intro h;split at h
   .next z hz=>cases h;obtain⟨i,e,r,l,fr,h1,h2,h3⟩:=(xK rs (k+y.2.length) p x).1 hz;refine⟨y.2.length+i,e,r,l,fr,by omega,?_,h3⟩;rw[aex,an8 (by omega)];simpa using h2
   .obtain⟨i,e,r,l,fr,h1,h2,h3⟩:=(qX y.2 k p x).1 h;refine⟨i,e,r,l,fr,h1,?_,h3⟩;rw[aex,aoi (anv.1 h2).1];exact h2
  .rintro⟨i,e,r,l,fr,h1,h2,rfl⟩;rw[aex]at h2;rcases anL i y.2.length with hlt|hge
   .rw[aoi hlt]at h2;have hn:look (gq (k+y.2.length) rs).2 p=none:=by
     cases hl:look (gq (k+y.2.length) rs).2 p with
     |none=>rfl
     |some z=>obtain⟨j,_,_,_,_,g1,_⟩:=(xK rs (k+y.2.length) p z).1 hl;omega
    rw[hn];exact(qX y.2 k p _).2 ⟨i,e,r,l,fr,h1,h2,rfl⟩
   .rw[an8 hge]at h2;have:=(xK rs (k+y.2.length) p (.arr e r l fr)).2 ⟨i-y.2.length,e,r,l,fr,by omega,h2,rfl⟩;rw[this]
end Go.Fw
namespace Go.Fw
open Go
set_option linter.unusedVariables false
variable {P:Program} {w0:World} {M:Nat->Prop} {T:Ext} {γ γ':Nat->Value} {st:St} {a:Act} {w w':World} {Θ:iF} {Γ:jG}
def RF(Y:V)(c:dR)(v:Value)(n:Option Nat):Prop:=
 match c with
 |.plain x=>aS Y x v/\x.refs=[]
 |.own e r l fr=>0<r.len/\((∃o g,n=some o/\Y.ah o=some (.arr e r l g)/\Hz fr g=true/\v=Y.γ o/\v.oneCell'=true)\/(l=[]/\v=.slice none 0 0))
def Ar(Y:V):List dR->List Value->List (Option Nat)->Prop
 |[],[],[]=>True
 |c::cs,v::vs,n::ns=>RF Y c v n/\Ar Y cs vs ns
 |_,_,_=>False
theorem Ar.append{Y:V}:∀(cs:List dR)(vs:List Value)(ns:List (Option Nat))(ds:List dR)(us:List Value)(ms:List (Option Nat)),Ar Y cs vs ns->Ar Y ds us ms->Ar Y (cs++ds) (vs++us) (ns++ms)
 |[],[],[],_,_,_,_,h=>h
 |_::cs,_::vs,_::ns,ds,us,ms,⟨h1,h2⟩,h=>⟨h1,Ar.append cs vs ns ds us ms h2 h⟩
theorem Ar.length{Y:V}:∀(cs:List dR)(vs:List Value)(ns:List (Option Nat)),Ar Y cs vs ns->cs.length=vs.length
 |[],[],[],_=>rfl
 |_::cs,_::vs,_::ns,⟨_,h2⟩=>by simp[Ar.length cs vs ns h2]
theorem Ar.get{Y:V}:∀(cs:List dR)(vs:List Value)(ns:List (Option Nat))(i:Nat)(c:dR),Ar Y cs vs ns->cs[i]? =some c->∃v n,vs[i]? =some v/\ns[i]? =some n/\RF Y c v n
 |[],[],[],i,c,_,h=>by simp at h
 |x::cs,v::vs,n::ns,0,c,⟨h1,_⟩,h=>by simp at h;subst h;exact⟨v,n,rfl,rfl,h1⟩
 |x::cs,v::vs,n::ns,i+1,c,⟨_,h2⟩,h=>by obtain⟨u,m,g1,g2,g3⟩:=Ar.get cs vs ns i c h2 (by simpa using h);exact⟨u,m,by simpa using g1,by simpa using g2,g3⟩
theorem fK.Zi(c:fK)(x:Cell)(d:c.den)(h:c.read x=some d)(hx:x.refs=[]):(c.cell d).refs=[]:=by cases c<;>cases x<;>first|rfl|(simp[fK.read]at h;done)|(cases hx)
theorem RC.adx{Y:V}(hst:Y.ah=st.ah)(hpos:∀o e r l g,st.ah o=some (.arr e r l g)->0<r.len):∀(c:RC)(x:Cell)(d:c.den)(v:Value),c.read st x=some d->aS Y x v->RF Y (c.aev d) v (c.name x):=by
 intro c x d v hr hv;cases c with
 |c s=>
  rw[RC.read]at hr;split at hr
  .next hx=>exact⟨fK.weak s x d v hr hv,fK.Zi s x d hr hx⟩
  .cases hr
 |own e r fr=>
  cases x with
  |ref o=>
   simp only[RC.read]at hr;split at hr
   .next f s l g ho=>
    split at hr
    .next hb=>
     split at hr
     .next hs=>cases hr;rw[anl]at hb;have he:=anp hb.1;subst he;have hsr:=aB.eq_of_beq s r hs;subst hsr;exact⟨hpos _ _ _ _ _ ho,.inl ⟨o,g,rfl,by rw[hst];exact ho,hb.2,hv.2.1,hv.2.2⟩⟩
     .cases hr
    .cases hr
   .cases hr
  |nil=>
   simp only[RC.read]at hr;split at hr
   .next hb=>cases hr;exact⟨anE Nat.zero_lt_one (by simpa[apJ]using hb),.inr ⟨rfl,hv⟩⟩
   .cases hr
  |_=>simp[RC.read]at hr
theorem Wj{Y:V}(hst:Y.ah=st.ah)(hpos:∀o e r l g,st.ah o=some (.arr e r l g)->0<r.len):∀(l:List RC)(xs:List Cell)(d:V9 l)(vs:List Value),KZ st l xs=some d->aj Y xs vs->Ar Y (Yb l d) vs (Yc l xs)
 |[],[],_,[],_,_=>trivial
 |c::r,x::xs,d,v::vs,h,⟨h1,h2⟩=>by
  rw[KZ]at h;split at h
  .next a b g1 g2=>cases h;exact⟨RC.adx hst hpos c x a v g1 h1,Wj hst hpos r xs b vs g2 h2⟩
  .cases h
 |[],_::_,_,_,h,_=>by simp[KZ]at h
 |_::_,[],_,_,h,_=>by simp[KZ]at h
theorem ql.abb{Y:V}(hst:Y.ah=st.ah)(hpos:∀o e r l g,st.ah o=some (.arr e r l g)->0<r.len):∀(s:ql)(x:SV)(d:s.den)(v:Value),s.read st x=some d->dn Y x v->Ar Y (s.out d).2 v.cells.toList (s.names x)
 |.one c,.one x,d,v,h,hv=>by
  rw[CQ v (aS.one x v hv)];exact⟨RC.adx hst hpos c x d v h hv,trivial⟩
 |.agg l,.agg xs,d,v,h,⟨vs,hv,hc⟩=>by
  rw[hv];exact Wj hst hpos l xs d _ h hc
 |.one _,.agg _,_,_,h,_|.agg _,.one _,_,_,h,_=>by simp[ql.read]at h
theorem Wl{Y:V}(hst:Y.ah=st.ah)(hpos:∀o e r l g,st.ah o=some (.arr e r l g)->0<r.len):∀(l:List ql)(xs:List SV)(d:qB l)(vs:List Value),yS st l xs=some d->dw Y xs vs->
 Ar Y (Gj (iy l d)) (vs.flatMap λv=>v.cells.toList) (xY l xs)
 |[],[],_,[],_,_=>trivial
 |s::r,x::xs,d,v::vs,h,⟨h1,h2⟩=>by
  rw[yS]at h;split at h
  .next a b g1 g2=>cases h;exact Ar.append _ _ _ _ _ _ (ql.abb hst hpos s x a v g1 h1) (Wl hst hpos r xs b vs g2 h2)
  .cases h
 |[],_::_,_,_,h,_=>by simp[yS]at h
 |_::_,[],_,_,h,_=>by simp[yS]at h
def Go1(Z:V)(k:Nat)(c:dR)(v:Value):Prop:=aS Z (c.take k).1 v
def DW(Z:V):Nat->List dR->List Value->Prop
 |_,[],[]=>True
 |k,c::cs,v::vs=>Go1 Z k c v/\DW Z (k+1) cs vs
 |_,_,_=>False
theorem DW.of{Z:V}:∀(cs:List dR)(vs:List Value)(k:Nat),cs.length=vs.length->(∀i c v,cs[i]? =some c->vs[i]? =some v->Go1 Z (k+i) c v)->DW Z k cs vs
 |[],[],_,_,_=>trivial
 |c::cs,v::vs,k,hl,h=>⟨h 0 c v rfl rfl,DW.of cs vs (k+1) (by simpa using hl) λi c' v' h1 h2=>by
   have:=h (i+1) c' v' (by simpa using h1) (by simpa using h2)
   rwa [show k+(i+1)=k+1+i by omega]at this⟩
theorem DW.split{Z:V}:∀(cs:List dR)(vs:List Value)(ds:List dR)(us:List Value)(k:Nat),cs.length=vs.length->DW Z k (cs++ds) (vs++us)->DW Z k cs vs/\DW Z (k+cs.length) ds us
 |[],[],_,_,_,_,h=>⟨trivial,h⟩
 |c::cs,v::vs,ds,us,k,hl,⟨h1,h2⟩=>by obtain⟨g1,g2⟩:=DW.split cs vs ds us (k+1) (by simpa using hl) h2;exact⟨⟨h1,g1⟩,by rw[show k+(c::cs).length=k+1+cs.length by simp;omega];exact g2⟩
theorem DW.cells{Z:V}:∀(cs:List dR)(vs:List Value)(k:Nat),DW Z k cs vs->aj Z (iY k cs).1 vs
 |[],[],_,_=>trivial
 |c::cs,v::vs,k,⟨h1,h2⟩=>⟨h1,DW.cells cs vs (k+1) h2⟩
theorem ql.go{Y Z:V}:∀(s:ql)(x:SV)(d:s.den)(v:Value)(k:Nat),s.read st x=some d->dn Y x v->DW Z k (s.out d).2 v.cells.toList->dn Z (sV k (s.out d)).1 v
 |.one c,.one x,d,v,k,h,hv,hg=>by
  rw[CQ v (aS.one x v hv)]at hg;exact hg.1
 |.agg l,.agg xs,d,v,k,h,⟨vs,hv,hc⟩,hg=>by
  rw[hv]at hg ⊢;exact⟨vs,rfl,DW.cells _ _ _ hg⟩
 |.one _,.agg _,_,_,_,h,_,_|.agg _,.one _,_,_,_,h,_,_=>by simp[ql.read]at h
theorem Zj{Y Z:V}(hst:Y.ah=st.ah)(hpos:∀o e r l g,st.ah o=some (.arr e r l g)->0<r.len):∀(l:List ql)(xs:List SV)(d:qB l)(vs:List Value)(k:Nat),yS st l xs=some d->dw Y xs vs->
 DW Z k (Gj (iy l d)) (vs.flatMap λv=>v.cells.toList)->dw Z (gq k (iy l d)).1 vs
 |[],[],_,[],_,_,_,_=>trivial
 |s::r,x::xs,d,v::vs,k,h,⟨h1,h2⟩,hg=>by
  rw[yS]at h;split at h
  .next a b g1 g2=>cases h;have hl:=Ar.length _ _ _ (ql.abb hst hpos s x a v g1 h1);obtain⟨k1,k2⟩:=DW.split _ _ _ _ k hl hg;exact⟨ql.go s x a v k g1 h1 k1,Zj hst hpos r xs b vs _ g2 h2 k2⟩
  .cases h
 |[],_::_,_,_,_,h,_,_=>by simp[yS]at h
 |_::_,[],_,_,_,h,_,_=>by simp[yS]at h
theorem Uf:∀(l:List fK)(xs:List Cell)(d:kF l),iZ l xs=some d->xs.flatMap Cell.refs=[]->(fU l d).flatMap Cell.refs=[]
 |[],[],_,_,_=>rfl
 |c::r,x::xs,d,h,hx=>by
  rw[iZ]at h;split at h
  .next a b g1 g2=>cases h;rw[aoD,aog]at hx;show(c.cell a::fU r b).flatMap Cell.refs=[];rw[aoD,fK.Zi c x a g1 hx.1,Uf r xs b g2 hx.2,an4]
  .cases h
 |[],_::_,_,h,_=>by simp[iZ]at h
 |_::_,[],_,h,_=>by simp[iZ]at h
theorem Gl:∀(sh:List iH)(i:Nat)(b:oZ sh),EU st i sh=some b->∀(j:Nat)(e:Eff),(jV sh b)[j]? =some e->
 e=.lose\/∃l cs cs0,sh[j]? =some (.ptr l)/\e=.var cs/\st.ah ((i+j)*64+48)=some (.var cs0)/\cs0.flatMap Cell.refs=[]/\cs.flatMap Cell.refs=[]/\∀(X:V) vs,aj X cs0 vs->aj X cs vs
 |[],_,_,_,j,e,he=>by simp[jV]at he
 |.ptr l::r,i,b,h,j,e,he=>by
  rw[EU]at h;split at h
  .next cs b' hx hb=>
   split at h
   .next a hr ha=>
    cases h;cases j with
    |zero=>
     simp[jV]at he;subst he;exact .inr ⟨l,_,cs,rfl,rfl,by simpa using hx,hr,Uf _ _ _ ha hr,λX vs hc=>Am _ _ _ _ ha hc⟩
    |succ j=>
     rcases Gl r (i+1) b' hb j e (by simpa[jV]using he)with h|⟨l,cs',cs0,h1,h2,h3,h4⟩
     .exact .inl h
     .exact .inr ⟨l,cs',cs0,by simpa using h1,h2,by rw[show i+(j+1)=i+1+j by omega];exact h3,h4⟩
   .cases h
  .cases h
 |.p _::r,i,b,h,j,e,he|.own _ _::r,i,b,h,j,e,he=>by
  rw[EU]at h;cases j with
  |zero=>simp[jV]at he;exact .inl he.symm
  |succ j=>
   rcases Gl r (i+1) b h j e (by simpa[jV]using he)with h|⟨l,cs',cs0,h1,h2,h3,h4⟩
   .exact .inl h
   .exact .inr ⟨l,cs',cs0,by simpa using h1,h2,by rw[show i+(j+1)=i+1+j by omega];exact h3,h4⟩
theorem Wn:∀{sh:List iH}{xs:List Arg}{d:jH sh},jU sh xs=some d->∀(j:Nat)(l:List fK),sh[j]? =some (.ptr l)->∃cs,xs[j]? =some (.ptr cs)
 |[],[],_,_,j,l,h=>by simp at h
 |s::r,x::xs,d,h,j,l,hj=>by
  rw[jU]at h;split at h
  .next a b h1 h2=>
   cases j with
   |zero=>
    simp at hj;subst hj;cases x with
    |ptr cs=>exact⟨cs,rfl⟩
    |_=>simp[iH.read]at h1
   |succ j=>obtain⟨cs,hc⟩:=Wn h2 j l (by simpa using hj);exact⟨cs,by simpa using hc⟩
  .cases h
 |[],_::_,_,h,_,_,_=>by simp[jU]at h
 |_::_,[],_,h,_,_,_=>by simp[jU]at h
theorem afw{sh:List iH}{b:oZ sh}(hb:EU st 0 sh=some b){q:Nat}{y:aG}(h:kD (jV sh b) q=some y):
 q%64=48/\∃l cs cs0,sh[q / 64]? =some (.ptr l)/\y=.var cs/\st.ah q=some (.var cs0)/\cs0.flatMap Cell.refs=[]/\cs.flatMap Cell.refs=[]/\∀(X:V) vs,aj X cs0 vs->aj X cs vs:=by
 unfold kD at h;split at h
 .next e r l he=>rcases Gl sh 0 b hb _ _ he with h'|⟨_,_,_,_,h',_⟩<;>cases h'
 .next cs he=>
  split at h
  .next hm=>
   have hm':=anp hm;cases h;rcases Gl sh 0 b hb _ _ he with h'|⟨l,cs',cs0,h1,h2,h3,h4⟩
   .cases h'
   .cases h2;refine⟨hm',l,_,cs0,h1,rfl,?_,h4⟩;rw[show q=(0+q / 64)*64+48 by omega];exact h3
  .cases h
 .cases h
def iH.pK:(s:iH)->s.den->Prop
 |.p s,x=>s.pK x
 |.own _ r,(l:List r.den)=>∀x∈l,r.pK x
 |.ptr l,x=>Sl l x
def Gm:(l:List iH)->jH l->Prop
 |[],_=>True
 |s::r,x=>s.pK x.1/\Gm r x.2
theorem gG.Sm{X:V}(s:gG)(x:Arg)(d:s.den)(v:Value)(h:s.read x=some d)(hr:ny X x v):s.pK d:=
 (yR (X:=X) [s] (d,()) [v] ⟨gG.weak s x d v h hr,trivial⟩).1
theorem Qu{X:V}{args:List Arg}(ho:∀o x,dN args o=some x->bf X o x):∀(sh:List iH)(xs:List Arg)(d:jH sh)(vs:List Value)(i:Nat),(∀j a,xs[j]? =some a->args[i+j]? =some a)->
 jU sh xs=some d->uU X i xs vs->Gm sh d
 |[],[],_,_,_,_,_,_=>trivial
 |s::r,x::xs,d,v::vs,i,hj,h,⟨hv,hvs⟩=>by
  rw[jU]at h;split at h
  .next a b h1 h2=>
   cases h;refine⟨?_,Qu ho r xs b vs (i+1) (λj c hc=>by have:=hj (j+1) c (by simpa using hc);rwa [show i+(j+1)=i+1+j by omega]at this) h2 hvs⟩;have hx:args[i]? =some x:=hj 0 x rfl;cases s with
   |p s=>
    have h1':s.read x=some a:=by simpa[iH.read]using h1
    refine gG.Sm (X:=X) s x a v h1' ?_;cases x with
    |own _ _ _|ptr _=>cases s<;>simp[gG.read]at h1'
    |_=>exact hv
   |own e r'=>
    cases x with
    |own f s' l=>
     have h1':(match Nat.beq e f with|true=>if h:s'.beq r'=true then some (qW h l)else none|false=>none)=some a:=h1;split at h1'
     .split at h1'
      .next hb hs=>
       cases h1';have hsr:=aB.eq_of_beq s' r' hs;subst hsr;have oz:dN args (i*64+49)=some (.arr f s' l false):=by unfold dN;rw[show(i*64+49) / 64=i by omega,hx];dsimp only;rw[show(i*64+49)%64=49 by omega]
       obtain⟨us,_,_,_,hrow⟩:=ho _ _ oz;intro y hy;have hy':y∈l:=hy;obtain⟨j,hj1,hj2⟩:=aoL.1 hy';exact aU.pK s' _ _ (hrow j y (by rw[anu hj1,hj2]))
      .cases h1'
     .cases h1'
    |_=>simp[iH.read]at h1
   |ptr l=>
    cases x with
    |ptr cs=>
     have h1':iZ l cs=some a:=h1;have oz:dN args (i*64+48)=some (.var cs):=by unfold dN;rw[show(i*64+48) / 64=i by omega,hx];dsimp only;rw[show(i*64+48)%64=48 by omega]
     obtain⟨_,arr,_,_,_,hc⟩:=ho _ _ oz;exact ET l a _ (Am _ _ _ _ h1' hc)
    |_=>simp[iH.read]at h1
  .cases h
 |[],_::_,_,_,_,_,h,_=>by simp[jU]at h
 |_::_,[],_,_,_,_,h,_=>by simp[jU]at h
theorem FK:∀(l:List iH)(d:jH l),(qx l d).length=l.length
 |[],_=>rfl
 |_::r,d=>by simp[qx,FK r d.2]
theorem Out.agE(rs:List (Bool×List dR))(k:Nat):((⟨rs,none⟩:Out).take k).2=(gq k rs).2:=by
 unfold Out.take;dsimp only;split
 .next h=>rw[h]
 .next h=>rw[h]
theorem Out.agF(rs:List (Bool×List dR))(k:Nat):((⟨rs,none⟩:Out).take k).1=(match (gq k rs).1 with|[v]=>AV.sv v|vs=>.kT vs):=by
 unfold Out.take;dsimp only;split
 .next h=>rw[h]
 .next vs δ hne h=>
  rw[h];dsimp only;rcases vs with _|⟨v,_|⟨v2,r⟩⟩
  .rfl
  .exact(hne v rfl).elim
  .rfl
theorem alf{args:List Arg}{S:Nat->Prop}{sh:List iH}{bU:List ql}{x:jH sh}(hx:jU sh args=some x){d:qB bU}{b:oZ sh}{k:Nat}{vs:List SV}{us:List Value}
 (hR:Rel w (wR (dN args) γ) (Qs args γ S) γ' st a w') (hrs:dw (ax w (Qs args γ S) γ' st w') vs us) (hnd:vO (xY bU vs)=true) (hrd:yS st bU vs=some d) (hbk:EU st 0 sh=some b)
 (hap:∀o x,look ((⟨iy bU d,none⟩:Out).take k).2 o=some x->kD (jV sh b) o=none):
 ∃γ2,aV ⟨w',w.heap.size,qp S args (jV sh b) γ,γ2,look ((⟨iy bU d,none⟩:Out).take k).2⟩ ((⟨iy bU d,none⟩:Out).take k).1 (if h:us.toArray.size=1 then us.toArray[0]else .tuple us.toArray)/\
  (∀o x,look ((⟨iy bU d,none⟩:Out).take k).2 o=some x->bf ⟨w',w.heap.size,qp S args (jV sh b) γ,γ2,look ((⟨iy bU d,none⟩:Out).take k).2⟩ o x/\
    ∀b',blk (γ2 o)=some b'->b'<w'.heap.size/\(w.heap.size<=b'\/wR (dN args) γ b')/\∀q y,kD (jV sh b) q=some y->blk (γ q)≠some b')/\
  (∀o x q y b',look ((⟨iy bU d,none⟩:Out).take k).2 o=some x->look ((⟨iy bU d,none⟩:Out).take k).2 q=some y->o≠q->blk (γ2 o)=some b'->blk (γ2 q)≠some b')/\
  (∀o x,kD (jV sh b) o=some x->γ2 o=γ o/\bf ⟨w',w.heap.size,qp S args (jV sh b) γ,γ2,look ((⟨iy bU d,none⟩:Out).take k).2⟩ o x):=by
 rw[Out.agE]at hap ⊢;rw[Out.agF]
 skip
 let Y:V:=ax w (Qs args γ S) γ' st w'
 let fv:List Value:=us.flatMap λv=>v.cells.toList
 let aJ:=jV sh b
 let γ2:Nat->Value:=λp=>match kD aJ p with|some _=>γ p|none=>fv.getD (p-k) undef
 let Z:V:=⟨w',w.heap.size,qp S args aJ γ,γ2,look (gq k (iy bU d)).2⟩
 have hpos:∀o e r l g,st.ah o=some (.arr e r l g)->0<r.len:=λo e r l g ho=>by obtain⟨_,_,h,_⟩:=hR.ah o _ ho;exact h
 have hF:Ar Y (Gj (iy bU d)) fv (xY bU vs):=Wl (st:=st) rfl hpos bU vs d us hrd hrs;have hbq:∀q y,kD aJ q=some y->γ' q=γ q/\∃cs cs0,y=.var cs/\st.ah q=some (.var cs0)/\cs0.flatMap Cell.refs=[]/\cs.flatMap Cell.refs=[]/\∀(X:V) vs,aj X cs0 vs->aj X cs vs:=by
  intro q y hq;obtain⟨hm,l,cs,cs0,h1,h2,h3,h4,h5,h6⟩:=afw hbk hq;refine⟨?_,cs,cs0,h2,h3,h4,h5,h6⟩;obtain⟨ci,hci⟩:=Wn hx _ l h1;have ho:dN args q=some (.var ci):=by unfold dN;rw[hci];dsimp only;rw[hm]
  have hN:(Qs args γ S).N q=some (γ q):=by show Yd args γ q=_;unfold Yd;rw[ho]
  exact hR.pin q _ _ hN h3
 have hG:∀p X,look (gq k (iy bU d)).2 p=some X->∃i e r l fr,p=k+i/\(Gj (iy bU d))[i]? =some (.own e r l fr)/\X=.arr e r l fr/\0<r.len/\
  ((∃o g,(xY bU vs)[i]? =some (some o)/\st.ah o=some (.arr e r l g)/\Hz fr g=true/\γ2 p=γ' o/\(γ2 p).oneCell'=true)\/(l=[]/\γ2 p=.slice none 0 0)):=by
  intro p X hp;obtain⟨i,e,r,l,fr,h1,h2,h3⟩:=(xK _ k p X).1 hp;obtain⟨v,n,g1,g2,hr,hv⟩:=Ar.get _ _ _ i _ hF h2;have hγ:γ2 p=v:=by show(match kD aJ p with|some _=>γ p|none=>fv.getD (p-k) undef)=v;rw[hap p X hp];dsimp only;rw[h1,show k+i-k=i by omega,anz,g1];rfl
  refine⟨i,e,r,l,fr,h1,h2,h3,hr,?_⟩;rcases hv with⟨o,g,hn,ho,hb,hv,h1c⟩|⟨hl,hv⟩
  .exact .inl ⟨o,g,by rw[g2,hn],ho,hb,hγ.trans hv,by rw[hγ];exact h1c⟩
  .exact .inr ⟨hl,hγ.trans hv⟩
 have Nb:∀b',Y.foot b'->Z.foot b':=by
  intro b' hb';refine⟨hb'.1,λhlt=>⟨hb'.2.1 hlt,λq y hq=>?_⟩,λp X hp=>?_⟩
  .obtain⟨hγ,cs,cs0,_,h3,_⟩:=hbq q y hq;rw[← hγ];exact hb'.2.2 q _ h3
  .obtain⟨i,e,r,l,fr,_,_,_,_,hc⟩:=hG p X hp;show blk (γ2 p)≠some b';rcases hc with⟨o,g,_,ho,_,hγ,_⟩|⟨_,hγ⟩
   .rw[hγ];exact hb'.2.2 o _ ho
   .rw[hγ];intro h;cases h
 have afx:∀fr b',Y.bT fr b'->Z.bT fr b':=λfr b' h=>⟨Nb b' h.1,h.2⟩;have hgo:DW Z k (Gj (iy bU d)) fv:=by
  refine DW.of _ _ _ (Ar.length _ _ _ hF) λi c v hc hv=>?_;obtain⟨v',n,g1,g2,g3⟩:=Ar.get _ _ _ i c hF hc;rw[hv]at g1;cases g1;cases c with
  |plain x=>
   exact(Bo (Y:=Y) (Z:=Z) rfl afx [x] [v] (by simpa using g3.2) ⟨g3.1,trivial⟩).1
  |own e r l fr=>
   have hp:look (gq k (iy bU d)).2 (k+i)=some (.arr e r l fr):=(xK _ k _ _).2 ⟨i,e,r,l,fr,rfl,hc,rfl⟩;have hγ:γ2 (k+i)=v:=by show(match kD aJ (k+i)with|some _=>γ (k+i)|none=>fv.getD (k+i-k) undef)=v;rw[hap _ _ hp];dsimp only;rw[show k+i-k=i by omega,anz,hv];rfl
   refine⟨⟨e,r,l,fr,hp⟩,hγ.symm,?_⟩;rcases g3.2 with⟨_,_,_,_,_,_,h⟩|⟨_,h⟩
   .exact h
   .rw[h];rfl
 have hsv:dw Z (gq k (iy bU d)).1 us:=Zj (st:=st) (Y:=Y) rfl hpos bU vs d us k hrd hrs hgo;refine⟨γ2,?_,λp X hp=>?_,λp X q X' b' hp hq hne hb1 hb2=>?_,λq y hq=>?_⟩
 .have hl:=dw.length _ _ hsv
  match hm:(gq k (iy bU d)).1,us,hsv,hl with
  |[v],[u],hk,_=>exact hk.1
  |[],[],hk,_=>exact⟨_,by simp,hk⟩
  |v::v2::r,u::u2::us,hk,hl=>exact⟨_,by simp,hk⟩
  |[],_::_,hk,h4|_::_,[],hk,h4|[_],_::_::_,hk,h4|_::_::_,[_],hk,h4=>simp at h4
 .obtain⟨i,e,r,l,fr,_,_,rfl,hr,hc⟩:=hG p X hp;rcases hc with⟨o,g,_,ho,hb,hγ,_⟩|⟨rfl,hγ⟩
  .have hO:bf Y o (.arr e r l g):=hR.ah o _ ho;have hold:∀b',blk (γ' o)=some b'->fr=true->w.heap.size<=b':=by intro b' hb' hfr;subst hfr;have hg:g=true:=hb;subst hg;obtain⟨_,_,_,hn,_⟩:=hO;exact hn b' hb' rfl
   refine⟨bf.RZ (Y:=Y) (Z:=Z) hO hγ rfl (λb' hb'=>⟨Nb b' hb'.1,λhfr=>hb'.2 ?_⟩) hold,λb' hb'=>?_⟩
   .subst hfr;exact hb
   .rw[hγ]at hb';obtain⟨h1,h2⟩:=hR.lt o _ b' ho hb';refine⟨h1,h2,λq y hq=>?_⟩;obtain⟨hγq,cs,cs0,_,h3,_⟩:=hbq q y hq;rw[← hγq];refine hR.sep o _ q _ b' ho h3 ?_ hb';intro e;subst e;rw[ho]at h3;cases h3
  .refine⟨⟨[],⟨by simp,.inl ⟨hγ,rfl⟩⟩,hr,(λb' hb'=>by have h0:blk (γ2 p)=some b':=hb';rw[hγ]at h0;cases h0),λi x hi=>by simp at hi⟩,λb' hb'=>by rw[hγ]at hb';cases hb'⟩
 .obtain⟨i,e,r,l,fr,hi,_,_,_,hc⟩:=hG p X hp;obtain⟨j,e',r',l',fr',hj,_,_,_,hc'⟩:=hG q X' hq;rcases hc with⟨o,g,hn,ho,_,hγ,_⟩|⟨_,hγ⟩
  .rcases hc' with⟨o',g',hn',ho',_,KQ,_⟩|⟨_,KQ⟩
   .rw[hγ]at hb1;rw[KQ]at hb2;have:o≠o':=by intro e;subst e;have:=JU hnd _ _ _ hn hn';omega
    exact hR.sep o _ o' _ b' ho ho' this hb1 hb2
   .rw[KQ]at hb2;cases hb2
  .rw[hγ]at hb1;cases hb1
 .obtain⟨hγ,cs,cs0,rfl,h3,h4,h5,h6⟩:=hbq q y hq;have kW:γ2 q=γ q:=by show(match kD aJ q with|some _=>γ q|none=>fv.getD (q-k) undef)=γ q;rw[hq]
  refine⟨kW,?_⟩;obtain⟨b',arr,t,k1,k2,k3⟩:=hR.ah q _ h3;refine⟨b',arr,t,?_,k2,Bo (Y:=Y) (Z:=Z) rfl afx _ _ h5 (h6 _ _ k3)⟩;show γ2 q=_;rw[kW,← hγ];exact k1
theorem ady{G:jg}(hE:EnvB P G Θ Γ)(hm:P.follows .mixedOrders=true){f:FuncId}{fn:Func}{c:Code}(hf:P.funcs[f]? =some fn)(hb:fn.body=some c)(H:Hints)
 {sh:List iH} {bU:List ql} {F:jH sh->Prop×(qB bU×oZ sh->Prop)} (hn:Nat.ble sh.length fn.ntmps=true) (hne:∀x,(F x).1->∃t,(F x).2 t)
 (hwalk:∀x,Gm sh x->(F x).1->C9 Θ Γ H c (aap Θ fn.results.toList sh bU (F x).2) (Aq fn.ntmps (qx sh x))):qw P G f (zX sh bU F):=by
 intro args p ρ hcon hp;unfold zX at hcon;split at hcon
 case h_2=>cases hcon
 next x hx=>
 cases hcon;refine⟨hne x hp,λk S γ vs w hG hrep oz hsep hap=>?_⟩;have hlen:=(Gi hx).1;rw[FK]at hlen;have hn':args.length<=fn.ntmps:=by rw[← hlen];simpa[apJ]using hn
 have hin:Gm sh x:=Qu (λo X ho=>(oz o X ho).1) sh args x vs.toList 0 (λj a h=>by rwa [anR]) hx hrep;have hR0:=Wi (S:=S) fn.ntmps hn' hrep (λo X ho=>⟨(oz o X ho).1,λb hb=>((oz o X ho).2 b hb).1⟩) hsep;have hR1:=hR0.covers (OL hx fn.ntmps);refine calls_of_wp hf hb (Qr ⟨hE,hG,λb hb=>?_⟩ hm H c _ _ _ _ _ _ hR1 (hwalk x hin hp) ?_)
 .obtain⟨o,X,ho,hb⟩:=hb;exact((oz o X ho).2 b hb).2
 intro e s γ' a' w' he hR;have hret:∃(us:List Value)(t:qB bU×oZ sh),(fn.results.mapM (ES a'.tmps)).run P w'=.ok us.toArray w'/\(F x).2 t/\∃γ2,
  aV ⟨w',w.heap.size,qp S args (jV sh t.2) γ,γ2,look ((⟨iy bU t.1,none⟩:Out).take k).2⟩ ((⟨iy bU t.1,none⟩:Out).take k).1 (if h:us.toArray.size=1 then us.toArray[0]else .tuple us.toArray)/\
  (∀o x',look ((⟨iy bU t.1,none⟩:Out).take k).2 o=some x'->bf ⟨w',w.heap.size,qp S args (jV sh t.2) γ,γ2,look ((⟨iy bU t.1,none⟩:Out).take k).2⟩ o x'/\
    ∀b,blk (γ2 o)=some b->b<w'.heap.size/\(w.heap.size<=b\/wR (dN args) γ b)/\∀q y,kD (jV sh t.2) q=some y->blk (γ q)≠some b)/\
  (∀o x' q y b,look ((⟨iy bU t.1,none⟩:Out).take k).2 o=some x'->look ((⟨iy bU t.1,none⟩:Out).take k).2 q=some y->o≠q->blk (γ2 o)=some b->blk (γ2 q)≠some b)/\
  (∀o x',kD (jV sh t.2) o=some x'->γ2 o=γ o/\bf ⟨w',w.heap.size,qp S args (jV sh t.2) γ,γ2,look ((⟨iy bU t.1,none⟩:Out).take k).2⟩ o x'):=by
  have he':(e=.normal\/e=.ret)/\aap Θ fn.results.toList sh bU (F x).2 .ret s:=by
   cases e with
   |normal=>exact⟨.inl rfl,he⟩
   |ret=>exact⟨.inr rfl,he⟩
   |_=>exact he.elim
  have he2:=he'.2;simp only[aap]at he2;split at he2
  .next svs am5=>
   split at he2
   .next vs' hvs'=>
    split at he2
    .next d b hnd hd hb'=>have Zh:=hR.freeze (Wh s (xY bU svs));obtain⟨us,hus,hrs⟩:=H6 hE.types Zh _ _ hvs';refine⟨us,(d,b),?_,he2,alf hx Zh hrs hnd hd hb' (hap (d,b) he2)⟩;rw[apO,Sem.run_map,hus];rfl
    .exact he2.elim
   .exact he2.elim
  .exact he2.elim
 obtain⟨us,t,hus,ht,γ2,h1,h2,h3,h4⟩:=hret;have hfin:bodyPost P fn (λe w'=>∃t,(F x).2 t/\MX S args γ w k ⟨iy bU t.1,none⟩ (jV sh t.2) e w') .ret a' w':=by refine⟨hR.defers,if h:us.toArray.size=1 then us.toArray[0]else .tuple us.toArray,?_,t,ht,_,γ2,rfl,hR.os,hR.tape,hR.output,hR.grow,hR.kept,h1,h2,h3,h4⟩;rw[Np,anK,hus];simp only[aoj,aot]
 cases e with
 |normal=>exact hfin
 |ret=>exact hfin
 |_=>exact he.elim
def aaq(rv:List ResultVar)(l:List fK)(K:kF l->Prop)(e:Exit)(st:St):Prop:=
 match e with
 |.normal|.ret=>match rv with
  |[.tmp t]=>match st.tmps t with
   |.cZ o off=>match Nat.beq off 0,(st.freeze (Ju st)).ah o with
    |true,some (.var cs)=>match cs.flatMap Cell.refs,iZ l cs with
     |[],some d=>K d
     |_,_=>False
    |_,_=>False
   |_=>False
  |_=>False
 |_=>False
def loses(sh:List iH):List Eff:=sh.map λ_=>.lose
def agG(sh:List iH)(l:List fK)(F:jH sh->Prop×(kF l->Prop)):JL:=λargs=>
 match jU sh args with
 |some x=>some ((F x).1,⟨kF l,(F x).2,λt=>⟨[],some (fU l t)⟩,λ_=>loses sh⟩)
 |none=>none
theorem Nq(sh:List iH)(q:Nat):kD (loses sh) q=none:=by unfold kD loses;rw[aoK];cases sh[q / 64]? <;>rfl
theorem La:∀(l:List fK)(cs:List Cell)(d:kF l),iZ l cs=some d->cs.flatMap Cell.refs=[]->(fU l d).flatMap Cell.refs=[]
 |[],[],_,_,_=>rfl
 |c::l,x::xs,d,h,hn=>by
  rw[iZ]at h;rw[aoD,aog]at hn;split at h
  .next p q hp hq=>
   cases h;show((c.cell p)::fU l q).flatMap Cell.refs=[];rw[aoD,aog];refine⟨?_,La l xs q hq hn.2⟩;cases c with
   |ref o=>
    cases x<;>simp[fK.read,Cell.refs]at hp hn
   |_=>rfl
  .cases h
 |[],_::_,_,h,_=>by simp[iZ]at h
 |_::_,[],_,h,_=>by simp[iZ]at h
theorem ah9{G:jg}(hE:EnvB P G Θ Γ)(hm:P.follows .mixedOrders=true){f:FuncId}{fn:Func}{c:Code}(hf:P.funcs[f]? =some fn)(hb:fn.body=some c)(H:Hints)
 {sh:List iH} {l:List fK} {F:jH sh->Prop×(kF l->Prop)} (hn:Nat.ble sh.length fn.ntmps=true) (hne:∀x,(F x).1->∃t,(F x).2 t)
 (hwalk:∀x,Gm sh x->(F x).1->C9 Θ Γ H c (aaq fn.results.toList l (F x).2) (Aq fn.ntmps (qx sh x))):qw P G f (agG sh l F):=by
 intro args p ρ hcon hp;unfold agG at hcon;split at hcon
 case h_2=>cases hcon
 next x hx=>
 cases hcon;refine⟨hne x hp,λk S γ vs w hG hrep oz hsep hap=>?_⟩;have hlen:=(Gi hx).1;rw[FK]at hlen;have hn':args.length<=fn.ntmps:=by rw[← hlen];simpa[apJ]using hn
 have hin:Gm sh x:=Qu (λo X ho=>(oz o X ho).1) sh args x vs.toList 0 (λj a h=>by rwa [anR]) hx hrep;have hR0:=Wi (S:=S) fn.ntmps hn' hrep (λo X ho=>⟨(oz o X ho).1,λb hb=>((oz o X ho).2 b hb).1⟩) hsep;have hR1:=hR0.covers (OL hx fn.ntmps);refine calls_of_wp hf hb (Qr ⟨hE,hG,λb hb=>?_⟩ hm H c _ _ _ _ _ _ hR1 (hwalk x hin hp) ?_)
 .obtain⟨o,X,ho,hb⟩:=hb;exact((oz o X ho).2 b hb).2
 intro e s γ' a' w' he hR;have he':aaq fn.results.toList l (F x).2 .ret s:=by
  cases e with
  |normal=>exact he
  |ret=>exact he
  |_=>exact he.elim
 have hfin:bodyPost P fn (λe w'=>∃t,(F x).2 t/\MX S args γ w k ⟨[],some (fU l t)⟩ (loses sh) e w') .ret a' w':=by
  simp only[aaq]at he';split at he'
  case h_2=>exact he'.elim
  next t hrv=>
  split at he'
  case h_2=>exact he'.elim
  next o off VY=>
  split at he'
  case h_2=>exact he'.elim
  next cs hoff hcs=>
  split at he'
  case h_2=>exact he'.elim
  next d hnr hd=>
  have hoff:=anp hoff;subst hoff;have Zh:=hR.freeze (Ju s);have hv:=hR.tmps t;rw[VY]at hv;obtain⟨b,cs0,_,hγ,hval⟩:=hv;obtain⟨b',arr,ty,g1,g2,g3⟩:=Zh.ah o _ hcs;have g1:γ' o=.pointer (some ⟨b',0,none⟩):=g1;have hγ:γ' o=.pointer (some ⟨b,0,none⟩):=hγ;rw[hγ]at g1;cases g1;have hblk:blk (γ' o)=some b:=by rw[hγ];rfl
  have hlt:=Zh.lt o _ b hcs hblk
  let γ2:Nat->Value:=λ_=>γ' o
  let Z:V:=⟨w',w.heap.size,qp S args (loses sh) γ,γ2,look (Out.take k ⟨[],some (fU l d)⟩).2⟩
  have hlook:∀q y,look (Out.take k ⟨[],some (fU l d)⟩).2 q=some y->q=k-1/\y=.var (fU l d):=by
   intro q y hq;have hmem:=uI _ q y hq;have:(q,y)=(k-1,.var (fU l d)):=by simpa[Out.take]using hmem
   exact⟨congrArg Prod.fst this,congrArg Prod.snd this⟩
  have Nb:∀fr b',(ax w (Qs args γ S) γ' (s.freeze (Ju s)) w').bT fr b'->Z.bT fr b':=by intro fr b' hb';refine⟨⟨hb'.1.1,λhlt'=>⟨hb'.1.2.1 hlt',λq y hq=>by rw[Nq]at hq;cases hq⟩,λq y hq=>?_⟩,hb'.2⟩;exact hb'.1.2.2 o _ hcs
  have hcells:aj Z (fU l d) arr.toList:=
   Bo (Y:=ax w (Qs args γ S) γ' (s.freeze (Ju s)) w') (Z:=Z) rfl Nb _ _ (La l cs d hd hnr) (Am l cs d _ hd g3)
  have hself:look (Out.take k ⟨[],some (fU l d)⟩).2 (k-1)=some (.var (fU l d)):=by simp[Out.take,look]
  refine⟨hR.defers,a'.tmps.getD t undef,?_,d,he',_,γ2,rfl,hR.os,hR.tape,hR.output,hR.grow,hR.kept,?_,λq y hq=>?_,λq y q' y' b' hq hq' hne'=>?_,λq y hq=>by rw[Nq]at hq;cases hq⟩
  .have:fn.results=#[.tmp t]:=by apply ao7;simpa using hrv
   have hmap:(Array.mapM (ES a'.tmps) #[ResultVar.tmp t]).run P w'=.ok #[a'.tmps.getD t undef] w':=by rw[apO,Sem.run_map];simp only[aqy,List.mapM_nil,ES];rfl
   rw[Np,this,anK,hmap];rfl
  .exact⟨b,fU l d,hself,hγ,hval⟩
  .obtain⟨rfl,rfl⟩:=hlook q y hq;refine⟨⟨b,arr,ty,hγ,g2,hcells⟩,λb' hb'=>?_⟩;have hb':blk (γ' o)=some b':=hb';rw[hblk]at hb';cases hb';exact⟨hlt.1,hlt.2,λq y hq=>by rw[Nq]at hq;cases hq⟩
  .obtain⟨rfl,_⟩:=hlook q y hq;obtain⟨rfl,_⟩:=hlook q' y' hq';exact(hne' rfl).elim
 cases e with
 |normal=>exact hfin
 |ret=>exact hfin
 |_=>exact he.elim
end Go.Fw
namespace Go.Fw
open Go
def CT.isZero:CT->Value->Bool
 |.int k,.int l n=>decide (k=l)&&decide (n=0)
 |.bool,.bool b=>!b
 |.str,.string s=>s.data.toList.isEmpty
 |.sl _ _,.slice none 0 0=>true
 |_,_=>false
def aB.Lc:aB->List Value->Bool
 |.nil,[]=>true
 |.cons c r,v::vs=>c.isZero v&&r.Lc vs
 |_,_=>false
theorem CT.afy:∀(c:CT)(v:Value),c.isZero v=true->v=c.X4:=by
 intro c v h;unfold CT.isZero at h;split at h
 .simp at h;rw[h.1,h.2];rfl
 .simp at h;subst h;rfl
 .next s=>obtain⟨⟨l⟩⟩:=s;simp at h;subst h;rfl
 .rfl
 .cases h
theorem aB.Wp:∀(r:aB)(vs:List Value),r.Lc vs=true->vs=r.jA
 |.nil,[],_=>rfl
 |.cons c r,v::vs,h=>by
  rw[Lc,anl]at h;rw[aB.jA,CT.afy c v h.1,aB.Wp r vs h.2]
 |.nil,_::_,h|.cons _ _,[],h=>by simp[Lc]at h
def abd:TypeDesc->TypeDesc->Bool
 |.int k,.int l=>decide (k=l)
 |.bool,.bool=>true
 |.string,.string=>true
 |.slice e,.slice f=>Nat.beq e f
 |_,_=>false
theorem afz:∀(c d:TypeDesc),abd c d=true->c=d:=by
 intro c d h;unfold abd at h;split at h
 .rw[aoC h]
 .rfl
 .rfl
 .rw[anp h]
 .cases h
def H7(P:Program):List (Nat×TypeId)->List Field->Bool
 |[],[]=>true
 |(o,t)::r,f::fs=>Nat.beq o f.offset&&Nat.beq t f.type&&(P.info? f.type).isSome&&H7 P r fs
 |_,_=>false
theorem Ug{P:Program}:∀(l:List (Nat×TypeId))(fs:List Field),H7 P l fs=true->l=fs.map (λf=>(f.offset,f.type))/\∀f∈fs,(P.info? f.type).isSome=true
 |[],[],_=>⟨rfl,by simp⟩
 |(o,t)::r,f::fs,h=>by
  rw[H7,anl,anl,anl]at h;obtain⟨⟨⟨h1,h2⟩,h3⟩,h4⟩:=h;obtain⟨e,hall⟩:=Ug r fs h4;refine⟨by rw[anP,← e,anp h1,anp h2],λg hg=>?_⟩;rcases anN.1 hg with rfl|hg
  .exact h3
  .exact hall g hg
 |[],_::_,h|_::_,[],h=>by simp[H7]at h
def afA(P:Program)(t:TypeId)(ti:TI):Bool:=
 match ti.kind,P.underlying t with
 |.scalar,some d=>match ti.cells.desc with|some c=>abd c d|none=>false
 |.str,some .string=>ti.cells.beq (.cons .str .nil)
 |.slice e,some (.slice f)=>Nat.beq e f&&(match ti.cells with|.cons (.sl g _) .nil=>Nat.beq g e|_=>false)
 |.struct fs,some (.struct vP)=>H7 P fs vP.toList
 |_,_=>false
def adz(ti:TI)(z:Value):Bool:=match ti.kind with
 |.struct _=>true
 |_=>z.oneCell'
def Ye(P:Program)(t:TypeId)(ti:TI):Bool:=
 match P.info? t with
 |some i=>match i.zero with
  |some z=>Nat.beq i.size ti.cells.len&&Nat.beq i.bytes ti.bytes&&ti.cells.Lc z.cells.toList&&adz ti z&&afA P t ti&&Nat.ble ti.bytes 4096&&(!ti.cmp||aec P t ti.cells)
  |none=>false
 |none=>false
theorem kC.agH{P:Program}{t:TypeId}{ti:TI}(h:Ye P t ti=true):kC P t ti:=by
 unfold Ye at h;split at h
 .next i hi=>
  split at h
  .next z hz=>
   simp only[anl]at h;obtain⟨⟨⟨⟨⟨⟨h1,h2⟩,h3⟩,h4⟩,h5⟩,h6⟩,h7⟩:=h;refine⟨⟨i,z,hi,anp h1,anp h2,hz,aB.Wp _ _ h3,λhagg=>?_⟩,?_,by simpa[apJ]using h6,λe w s u X xs ys vs us b hf hx hy he=>ah3 (by rw[e]at h7;simpa using h7) w s u X xs ys vs us b hf hx hy he⟩
   .unfold adz at h4;unfold TI.agg at hagg;split at h4
    .next hk=>rw[hk]at hagg;cases hagg
    .exact CQ z h4
   .unfold afA at h5;split at h5
    .next d hk hu=>
     rw[hk];split at h5
     .next c hc=>exact⟨d,by rw[hc,afz c d h5],hu⟩
     .cases h5
    .next hk hu=>rw[hk];exact⟨hu,aB.eq_of_beq _ _ h5⟩
    .next e f hk hu=>
     rw[hk];rw[anl]at h5;have hef:=anp h5.1;subst hef;refine⟨hu,?_⟩;have h52:=h5.2;split at h52
     .next g r hg=>exact⟨r,by rw[hg,anp h52]⟩
     .cases h52
    .next fs vP hk hu=>rw[hk];obtain⟨e,hall⟩:=Ug _ _ h5;exact⟨vP,hu,e,hall⟩
    .cases h5
  .cases h
 .cases h
def Ld(P:Program):List (Nat×TI)->Bool
 |[]=>true
 |(t,ti)::r=>Ye P t ti&&Ld P r
theorem abe{P:Program}:∀{l:List (Nat×TI)},Ld P l=true->∀t ti,V7 l t=some ti->kC P t ti
 |[],_,t,ti,h=>by cases h
 |(i,x)::r,hc,t,ti,h=>by
  rw[Ld,anl]at hc;rw[V7]at h;cases hb:Nat.beq t i with
  |true=>rw[hb]at h;cases h;rw[anp hb];exact .agH hc.1
  |false=>rw[hb]at h;exact abe hc.2 t ti h
def Sr(fn:Func):Bool:=fn.body.isSome&&!(fn.name== "runtime.NumGoroutine")
theorem iV{P:Program}{f:FuncId}{fn:Func}(hf:P.funcs[f]? =some fn)(hc:Sr fn=true):iQ P f:=by
 intro args w;unfold Sr at hc;rw[anl]at hc;have h1:(fn.name== "runtime.NumGoroutine")=false:=by simpa using hc.2
 have h2:fn.body.isNone=false:=by cases hb:fn.body with|none=>rw[hb]at hc;simp at hc|some _=>rfl
 unfold callFunc;simp only[anK,run_program,aoj,hf,h1,h2,ao9,apI,aot]
def afB(P:Program)(G:jg)(f:FuncId):FH->Prop
 |.pure c=>gW P G f c/\iQ P f
 |.eff _ c=>qw P G f c/\iQ P f
theorem afC{P:Program}{G:jg}{Θ:iF}(hT:∀t ti,Θ t=some ti->kC P t ti):∀{l:List (Nat×FH)},(∀x∈l,afB P G x.1 x.2)->EnvB P G Θ (F5 l)
 |[],_=>⟨hT,(λf con h=>by cases h),(λf ms con h=>by cases h)⟩
 |(i,c)::r,h=>by
  have ih:=afC (G:=G) hT λx hx=>h x (anB _ hx);refine⟨hT,λf con hf=>?_,λf ms con hf=>?_⟩
  .rw[F5]at hf;cases hb:Nat.beq f i with
   |true=>rw[hb]at hf;cases hf;rw[anp hb];exact h (i,.pure con) anC
   |false=>rw[hb]at hf;exact ih.cons f con hf
  .rw[F5]at hf;cases hb:Nat.beq f i with
   |true=>rw[hb]at hf;cases hf;rw[anp hb];exact h (i,.eff ms con) anC
   |false=>rw[hb]at hf;exact ih.aan f ms con hf
end Go.Fw
namespace Go.Fw
open Go
structure PA where
 n:Nat
 sh:List gG
 bU:List nP
 F:iT sh->Prop×mP bU
structure XA where
 n:Nat
 sh:List iH
 bU:List ql
 F:jH sh->Prop×(qB bU×oZ sh->Prop)
structure QA where
 n:Nat
 sh:List iH
 bU:List fK
 F:jH sh->Prop×(kF bU->Prop)
def PA.e(q:PA):Nat×FH:=(q.n,.pure (iM q.sh q.bU q.F))
def XA.e(q:XA):Nat×FH:=(q.n,.eff (KI q.sh) (zX q.sh q.bU q.F))
def QA.e(q:QA):Nat×FH:=(q.n,.eff (KI q.sh) (agG q.sh q.bU q.F))
def Wq(P:Program)(G:jg)(x:Nat×FH):Prop:=afB P G x.1 x.2
def abf(P:Program)(G:jg):List (Nat×FH)->Prop
 |[]=>True
 |x::l=>Wq P G x/\abf P G l
theorem agI{P:Program}{G:jg}{l':List (Nat×TI)}(hT:Ld P l'=true){l:List (Nat×FH)}(h:abf P G l):EnvB P G (V7 l') (F5 l):=
 afC (abe hT) (by
  induction l with
  |nil=>exactλx hx=>by cases hx
  |cons y l ih=>exact List.forall_mem_cons.2 ⟨h.1,ih h.2⟩)
def Yf:(l:List fK)->(kF l->Prop)->Prop
 |[],p=>p ()
 |c::r,p=>∀x:c.den,Yf r λy=>p (x,y)
theorem Le:∀{l:List fK}{p:kF l->Prop},Yf l p->∀x,p x
 |[],_,h,()=>h
 |_::_,_,h,(x,y)=>Le (h x) y
def aey:(l:List (List fK))->(xX l->Prop)->Prop
 |[],p=>p ()
 |c::r,p=>Yf c λx=>aey r λy=>p (x,y)
theorem abg:∀{l:List (List fK)}{p:xX l->Prop},aey l p->∀x,p x
 |[],_,h,()=>h
 |_::_,_,h,(x,y)=>abg (Le h x) y
def agJ:(s:gG)->(s.den->Prop)->Prop
 |.v (.one c),p=>∀x:c.den,p x
 |.v (.agg l),p=>Yf l p
 |.kp l,p=>Yf l p
 |.fn _ l,p=>aey l p
theorem adA:∀{s:gG}{p:s.den->Prop},agJ s p->∀x,p x
 |.v (.one _),_,h,x=>h x
 |.v (.agg _),_,h,x=>Le h x
 |.kp _,_,h,x=>Le h x
 |.fn _ _,_,h,x=>abg h x
def aez:(l:List gG)->(iT l->Prop)->Prop
 |[],p=>p ()
 |s::r,p=>agJ s λx=>aez r λy=>p (x,y)
theorem abh:∀{l:List gG}{p:iT l->Prop},aez l p->∀x,p x
 |[],_,h,()=>h
 |_::_,_,h,(x,y)=>abh (adA h x) y
def aiM:(s:iH)->(s.den->Prop)->Prop
 |.p s,p=>agJ s p
 |.own _ r,p=>∀x:List r.den,p x
 |.ptr l,p=>Yf l p
theorem aia:∀{s:iH}{p:s.den->Prop},aiM s p->∀x,p x
 |.p _,_,h,x=>adA h x
 |.own _ _,_,h,x=>h x
 |.ptr _,_,h,x=>Le h x
def aar:(l:List iH)->(jH l->Prop)->Prop
 |[],p=>p ()
 |s::r,p=>aiM s λx=>aar r λy=>p (x,y)
theorem U8:∀{l:List iH}{p:jH l->Prop},aar l p->∀x,p x
 |[],_,h,()=>h
 |_::_,_,h,(x,y)=>U8 (aia h x) y
abbrev LP{α:Type}(x:α)(f:(α->Prop)->(α->Nat)->α->Prop):Prop:=∃(I:α->Prop),∃(μ:α->Nat),I x/\∀(y:α),I y->f I μ y
abbrev NX{σ α:Type}(s:σ)(I:α->Prop)(μ:α->Nat)(x y:α):Prop:=s=s/\I x/\μ x<μ y
def H0:Hints:=hints [] [] [] [] []
def yu(P:Program)(n:Nat):Func:=match P.funcs[n]? with|some f=>f|none=>default
def EW(P:Program)(n k:Nat):Bool:=P.funcs[n]?.isSome&&Sr (yu P n)&&Nat.ble k (yu P n).ntmps
theorem Qv{P:Program}{n k:Nat}(h:EW P n k=true):P.funcs[n]? =some (yu P n)/\(yu P n).body=some (codeOf (yu P n))/\iQ P n/\Nat.ble k (yu P n).ntmps=true:=by
 simp only[EW,anl]at h;obtain⟨⟨h1,h2⟩,h3⟩:=h;have e:P.funcs[n]? =some (yu P n):=by
  unfold yu;cases hf:P.funcs[n]? with
  |some f=>rfl
  |none=>rw[hf]at h1;cases h1
 refine⟨e,?_,iV e h2,h3⟩;have h4:=h2;unfold Sr at h4;rw[anl]at h4;unfold codeOf;cases hb:(yu P n).body with
 |some c=>rfl
 |none=>rw[hb]at h4;cases h4.1
def PA.goal(q:PA)(g:(mP q.bU->Prop)->Prop)(x:iT q.sh):Prop:=Gh q.sh x->(q.F x).1->g λr=>r=(q.F x).2
def XA.goal(q:XA)(g:(qB q.bU×oZ q.sh->Prop)->Prop)(x:jH q.sh):Prop:=Gm q.sh x->(q.F x).1->g (q.F x).2
def QA.goal(q:QA)(g:(kF q.bU->Prop)->Prop)(x:jH q.sh):Prop:=Gm q.sh x->(q.F x).1->g (q.F x).2
variable {P:Program} {Θ:iF} {Γ:jG} {G:jg}
theorem PA.ok{q:PA}(hm:P.follows .mixedOrders=true)(hE:EnvB P G Θ Γ)(H:Hints){p:Prop}
 (hp:(bif EW P q.n q.sh.length then aez q.sh λx=>q.goal (λK=>C9 Θ Γ H (codeOf (yu P q.n)) (V8 Θ (yu P q.n).results.toList q.bU K) (entry (yu P q.n).ntmps (rE q.sh x))) x else False)=p) (h:p):Wq P G q.e:=by
 subst hp;cases hc:EW P q.n q.sh.length with
 |false=>rw[hc]at h;exact h.elim
 |true=>rw[hc]at h;obtain⟨h1,h2,h3,h4⟩:=Qv hc;exact⟨Ya hE hm h1 h2 H h4 λx hi hx=>abh h x hi hx,h3⟩
theorem XA.ok{q:XA}(hm:P.follows .mixedOrders=true)(hE:EnvB P G Θ Γ)(H:Hints)(hne:∀x,(q.F x).1->∃t,(q.F x).2 t){p:Prop}
 (hp:(bif EW P q.n q.sh.length then aar q.sh λx=>q.goal (λK=>C9 Θ Γ H (codeOf (yu P q.n)) (aap Θ (yu P q.n).results.toList q.sh q.bU K) (Aq (yu P q.n).ntmps (qx q.sh x))) x else False)=p) (h:p):Wq P G q.e:=by
 subst hp;cases hc:EW P q.n q.sh.length with
 |false=>rw[hc]at h;exact h.elim
 |true=>rw[hc]at h;obtain⟨h1,h2,h3,h4⟩:=Qv hc;exact⟨ady hE hm h1 h2 H h4 hne λx hi hx=>U8 h x hi hx,h3⟩
theorem QA.ok{q:QA}(hm:P.follows .mixedOrders=true)(hE:EnvB P G Θ Γ)(H:Hints)(hne:∀x,(q.F x).1->∃t,(q.F x).2 t){p:Prop}
 (hp:(bif EW P q.n q.sh.length then aar q.sh λx=>q.goal (λK=>C9 Θ Γ H (codeOf (yu P q.n)) (aaq (yu P q.n).results.toList q.bU K) (Aq (yu P q.n).ntmps (qx q.sh x))) x else False)=p) (h:p):Wq P G q.e:=by
 subst hp;cases hc:EW P q.n q.sh.length with
 |false=>rw[hc]at h;exact h.elim
 |true=>rw[hc]at h;obtain⟨h1,h2,h3,h4⟩:=Qv hc;exact⟨ah9 hE hm h1 h2 H h4 hne λx hi hx=>U8 h x hi hx,h3⟩
end Go.Fw
namespace Go.Fw
open Go
variable {P:Program} {G:jg} {f:FuncId}
abbrev vU:List UInt8:=[]
theorem afD{sh:List gG}{bU:List nP}{F:iT sh->Prop×mP bU}(Fr Fs:Nat->iT sh->Prop×mP bU)(h0:∀x,¬(Fr 0 x).1)(hs:∀n x,Fr (n+1) x=Fs n x)
 (hf:∀x,(F x).1->∃n,(Fr n x).1) (he:∀n x,(Fr n x).2=(F x).2) (step:∀n,gW P G f (iM sh bU (Fr n))->gW P G f (iM sh bU (Fs n))):gW P G f (iM sh bU F):=by
 have all:∀n,gW P G f (iM sh bU (Fr n)):=by
  intro n
  induction n with
  |zero=>
   intro args p out k S vs w hcon hp;unfold iM uV at hcon;split at hcon
   .next x _=>have e:(Fr 0 x).1=p:=congrArg Prod.fst (Option.some.inj hcon);exact absurd (e.symm▸hp) (h0 x)
   .cases hcon
  |succ n ih=>have:=step n ih;have e:Fr (n+1)=Fs n:=funext (hs n);rw[e];exact this
 intro args p out k S vs w hcon hp hG hrep;have Gn:=hcon;unfold iM uV at Gn;split at Gn
 .next x hx=>have e:=Option.some.inj Gn;have e1:(F x).1=p:=congrArg Prod.fst e;obtain⟨n,hn⟩:=hf x (e1.symm▸hp);refine all n args (Fr n x).1 out k S vs w ?_ hn hG hrep;unfold iM uV;rw[hx];show some ((Fr n x).1,_)=_;rw[he n x];exact congrArg (λz=>some ((Fr n x).1,z)) (congrArg Prod.snd e)
 .cases Gn
theorem aib{sh:List iH}{bU:List ql}{F:jH sh->Prop×(qB bU×oZ sh->Prop)}(Fr Fs:Nat->jH sh->Prop×(qB bU×oZ sh->Prop))(h0:∀x,¬(Fr 0 x).1)(hs:∀n x,Fr (n+1) x=Fs n x)
 (hf:∀x,(F x).1->∃n,(Fr n x).1) (he:∀n x,(Fr n x).2=(F x).2) (step:∀n,qw P G f (zX sh bU (Fr n))->qw P G f (zX sh bU (Fs n))):qw P G f (zX sh bU F):=by
 have all:∀n,qw P G f (zX sh bU (Fr n)):=by
  intro n
  induction n with
  |zero=>
   intro args p ρ hcon hp;unfold zX at hcon;split at hcon
   .next x _=>have e:(Fr 0 x).1=p:=congrArg Prod.fst (Option.some.inj hcon);exact absurd (e.symm▸hp) (h0 x)
   .cases hcon
  |succ n ih=>have:=step n ih;have e:Fr (n+1)=Fs n:=funext (hs n);rw[e];exact this
 intro args p ρ hcon hp;have Gn:=hcon;unfold zX at Gn;split at Gn
 .next x hx=>have e:=Option.some.inj Gn;have e1:(F x).1=p:=congrArg Prod.fst e;obtain⟨n,hn⟩:=hf x (e1.symm▸hp);refine all n args (Fr n x).1 ρ ?_ hn;unfold zX;rw[hx];show some ((Fr n x).1,_)=_;rw[he n x];exact congrArg (λz=>some ((Fr n x).1,z)) (congrArg Prod.snd e)
 .cases Gn
end Go.Fw
namespace Go.Fw
open Go
variable {P:Program} {H:Type} {enc:TypeId×Value->H} {w:World}
def aB.app:aB->aB->aB
 |.nil,s=>s
 |.cons c r,s=>.cons c (r.app s)
def aas:(r s:aB)->r.den->s.den->(r.app s).den
 |.nil,_,_,y=>y
 |.cons _ r,s,x,y=>(x.1,aas r s x.2 y)
theorem aU.app{h:Array Obj}{S:Nat->Prop}:∀(r s:aB)(x:r.den)(y:s.den)(vs us:List Value),aU h S r vs x->aU h S s us y->aU h S (r.app s) (vs++us) (aas r s x y)
 |.nil,s,x,y,vs,us,h1,h2=>by rw[aU]at h1;subst h1;exact h2
 |.cons c r,s,(x,x'),y,vs,us,h1,h2=>by rw[aU]at h1;obtain⟨v,vs',rfl,g1,g2⟩:=h1;show aU h S (.cons c (r.app s)) (v::(vs'++us)) (x,aas r s x' y);rw[aU];exact⟨v,vs'++us,rfl,g1,aU.app r s x' y vs' us g2 h2⟩
theorem add_add(a:Addr)(h:a.spot=none)(m j:Nat):(a.add m).add j=⟨a.block,a.off+m+j,none⟩:=by
 obtain⟨b,o,sp⟩:=a;simp only at h;subst h;unfold Addr.add;by_cases hm:m=0
 .by_cases hj:j=0
  .simp[hm,hj]
  .simp[hm,hj]
 .by_cases hj:j=0
  .simp[hm,hj]
  .simp[hm,hj]
def Jy(f:TypeId->Option aB):List Field->Nat->Option aB
 |[],_=>some .nil
 |x::r,off=>match f x.type with
  |some s=>match Jy f r (off+s.len),Nat.beq x.offset off with
   |some u,true=>some (s.app u)
   |_,_=>none
  |none=>none
def rowOf(P:Program):Nat->TypeId->Option aB
 |0,_=>none
 |n+1,t=>match P.underlying t with
  |some (.int k)=>some (.cons (.int k) .nil)
  |some .bool=>some (.cons .bool .nil)
  |some .string=>some (.cons .str .nil)
  |some (.slice e)=>match rowOf P n e with
   |some s=>match Nat.beq s.len (P.cellsOf e)&&Nat.ble 1 s.len with
    |true=>some (.cons (.sl e s) .nil)
    |false=>none
   |none=>none
  |some (.struct fs)=>match Jy (rowOf P n) fs.toList 0 with
   |some r=>match Nat.beq r.len (P.cellsOf t)with
    |true=>match fs.toList.all λf=>match rowOf P n f.type with|some s=>Nat.beq s.len (P.cellsOf f.type)|none=>false with
     |true=>some r
     |false=>none
    |false=>none
   |none=>none
  |_=>none
theorem adB{α:Type}{Q:Nat->α->Prop}:∀(n:Nat),(∀i,i<n->∃x,Q i x)->∃l:List α,l.length=n/\∀i x,l[i]? =some x->Q i x
 |0,_=>⟨[],rfl,λi x h=>by simp at h⟩
 |n+1,h=>by
  obtain⟨l,hl,hq⟩:=adB n λi hi=>h i (by omega);obtain⟨x,hx⟩:=h n (by omega);refine⟨l++[x],by simp[hl],λi y hy=>?_⟩;rcases anL i n with hi|hi
  .rw[aoi (by omega)]at hy;exact hq i y hy
  .rw[an8 (by omega)]at hy;have:i=n:=by
    rcases anL n i with h'|h'
    .rw[aoS (by simp;omega)]at hy;cases hy
    .omega
   subst this;simp[hl]at hy;rw[← hy];exact hx
theorem adC:∀(r s:aB),(r.app s).len=r.len+s.len
 |.nil,s=>by simp[aB.app,aB.len]
 |.cons c r,s=>by simp only[aB.app,aB.len,adC r s];omega
theorem Ws{f:TypeId->Option aB}{S:Nat->Prop}{h:Array Obj}(cs:List Value)
 (part:∀(t:TypeId)(r:aB)(off:Nat),f t=some r->(∃g:Field,g.type=t/\g.offset=off)->True):∀(fs:List Field)(off:Nat)(r:aB),Jy f fs off=some r->
 (∀g∈fs,∀s,f g.type=some s->∃x,aU h S s ((cs.drop g.offset).take s.len) x)->
 ∃x,aU h S r ((cs.drop off).take r.len) x
 |[],off,r,hr,_=>by
  cases hr;exact⟨(),by rw[aU];simp[aB.len]⟩
 |g::fs,off,r,hr,hall=>by
  rw[Jy]at hr;split at hr
  .next s hs=>
   split at hr
   .next u hu hb=>
    cases hr;obtain⟨x,hx⟩:=hall g anC s hs;rw[anp hb]at hx;obtain⟨y,hy⟩:=Ws cs part fs (off+s.len) u hu λg' hg'=>hall g' (anB _ hg');refine⟨aas s u x y,?_⟩;have:=aU.app s u x y _ _ hx hy;rw[adC];have e:(cs.drop off).take (s.len+u.len)=(cs.drop off).take s.len++(cs.drop (off+s.len)).take u.len:=by rw[List.take_add,ao1]
    rw[e];exact this
   .cases hr
  .cases hr
theorem U9:∀(n:Nat)(t:TypeId)(r:aB),rowOf P n t=some r->∀(m:Nat)(base:Nat)(spare:Nat->Bool)(held:Bool)(cs:List Value)(x:DataW H×List MemPlace),
 DataW.trod enc P w base spare held m t cs=some x->∃y,aU w.heap (λb=>b<w.heap.size) r cs y
 |0,t,r,hr=>by cases hr
 |n+1,t,r,hr=>by
  intro m base spare held cs x hx;rw[rowOf]at hr;split at hr
  .next k hu=>cases hr;obtain⟨i,rfl,_,hwf⟩:=DataW.trod_int hu hx;simp only[Lit.wf,anl,anA]at hwf;exact⟨(i,()),by rw[aU];exact⟨_,[],rfl,by rw[bW];exact⟨rfl,hwf⟩,by rw[aU]⟩⟩
  .next hu=>cases hr;obtain⟨b,rfl,_⟩:=DataW.trod_bool hu hx;exact⟨(b,()),by rw[aU];exact⟨_,[],rfl,by rw[bW],by rw[aU]⟩⟩
  .next hu=>cases hr;obtain⟨s,rfl,_,hs⟩:=DataW.trod_string hu hx;refine⟨(s.data.toList,()),by rw[aU];exact⟨_,[],rfl,by rw[bW];exact⟨by simp,by simpa using hs⟩,by rw[aU]⟩⟩
  .next e hu=>
   split at hr
   .next s hs=>
    split at hr
    .next hb=>
     cases hr;rw[anl]at hb;have hlen:=anp hb.1;have hpos:1<=s.len:=by simpa[apJ]using hb.2
     rcases DataW.trod_slice hu hx with⟨rfl,_⟩|⟨a,len,cap,elems,rest,k,_,rfl,_,hbase,hle,hmax,hel,hrow,_,_⟩
     .exact⟨([],()),by rw[aU];exact⟨_,[],rfl,by rw[bW];exact⟨by simp,.inl ⟨rfl,none,0,rfl⟩⟩,by rw[aU]⟩⟩
     .by_cases h0:len=0
      .subst h0;exact⟨([],()),by rw[aU];exact⟨_,[],rfl,by rw[bW];exact⟨by simp,.inl ⟨rfl,some a,cap,rfl⟩⟩,by rw[aU]⟩⟩
      .have each:∀i,i<len->∃(ys:List Value)(z:s.den),w.cells? base (a.add (i*P.cellsOf e)) (P.cellsOf e)=some ys/\aU w.heap (λb=>b<w.heap.size) s ys z:=by intro i hi;have h1:=hrow i hi;rw[anu (by omega)]at h1;obtain⟨ys,hys,hy2⟩:=Option.bind_eq_some_iff.1 h1;obtain⟨z,hz⟩:=U9 n e s hs k base spare held ys _ hy2;exact⟨ys,z,hys,hz⟩
       obtain⟨ys0,z0,hc0,hz0⟩:=each 0 (by omega);obtain⟨_,hl0,hcell0⟩:=World.cells?_some hc0;have Va:=hcell0 0 (by omega);simp only[apn,Addr.add,if_true]at Va;have alg:∃v,ys0[0]? =some v:=⟨ys0[0]'(by omega),by simp[show 0<ys0.length by omega]⟩;obtain⟨v0,hv0⟩:=alg;rw[hv0]at Va;unfold World.cell? at Va;split at Va
       .next c ty fz hblk=>
        split at Va
        .cases Va
        .next hsp=>
         have hspot:a.spot=none:=by cases h:a.spot with|none=>rfl|some q=>rw[h]at hsp;simp at hsp
         have ha:a=⟨a.block,a.off,none⟩:=by cases a;simp at hspot;rw[hspot]
         have hb':a.block<w.heap.size:=by obtain⟨hlt,_⟩:=anq.1 hblk;exact hlt
         have rows:∀i,i<len->∃z:s.den,aU w.heap (λb=>b<w.heap.size) s ((c.toList.drop (a.off+i*s.len)).take s.len) z:=by
          intro i hi;obtain⟨ys,z,hcs,hz⟩:=each i hi;obtain⟨_,hl,hcell⟩:=World.cells?_some hcs;refine⟨z,?_⟩;have:(c.toList.drop (a.off+i*s.len)).take s.len=ys:=by
           refine apd λj=>?_;rcases anL j s.len with hj|hj
           .rw[aow hj,anZ];have h2:=hcell j (by omega);have hadd:=add_add a hspot (i*P.cellsOf e) j;rw[← hlen]at hadd h2;rw[hadd]at h2;unfold World.cell? at h2;simp only[hblk,Option.isSome_none,ao9,apI]at h2;rw[← h2];simp
           .rw[aoS (by simp;omega),aoS (by omega)]
          rw[this];exact hz
         obtain⟨l,hll,hlq⟩:=adB len rows;refine⟨(l,()),by rw[aU];exact⟨_,[],rfl,by rw[bW];exact⟨by omega,.inr ⟨a.block,a.off,cap,c,ty,fz,by rw[hll,← ha],by omega,hb',hblk,hlq⟩⟩,by rw[aU]⟩⟩
       .cases Va
    .cases hr
   .cases hr
  .next fs hu=>
   split at hr
   .next r' hf=>
    split at hr
    .next hb=>
     split at hr
     .next hall=>
      cases hr;obtain⟨xs,k,_,_,hcl,hxl,hparts⟩:=DataW.trod_struct hu hx;have hlen:=anp hb;have:=Ws (h:=w.heap) (S:=λb=>b<w.heap.size) cs (λ_ _ _ _ _=>trivial) fs.toList 0 _ hf ?_
      .obtain⟨y,hy⟩:=this;refine⟨y,?_⟩;rw[aqf,aos (by omega)]at hy;exact hy
      .intro g hg s hs;have hg2:=anI.1 hall g hg;rw[hs]at hg2;have hsl:=anp hg2;obtain⟨i,hi,hgi⟩:=aoL.1 hg;have hp:=hparts i g (by rw[← hgi];simp[show i<fs.size by simpa using hi]);rw[anu (by simp at hi;omega)]at hp;rw[hsl];exact U9 n g.type s hs k base spare held _ _ hp
     .cases hr
    .cases hr
   .cases hr
  .cases hr
def CT.csh:CT->fK
 |.int k=>.int k
 |.bool=>.bool
 |.str=>.str
 |.sl e r=>.sl e r false
def toC:(c:CT)->c.den->c.csh.den
 |.int _,x=>x
 |.bool,x=>x
 |.str,x=>x
 |.sl _ _,x=>x
def aB.shs:aB->List fK
 |.nil=>[]
 |.cons c r=>c.csh::r.shs
def toCs:(r:aB)->r.den->kF r.shs
 |.nil,_=>()
 |.cons c r,x=>(toC c x.1,toCs r x.2)
theorem Yg(X:V):∀(r:aB)(vs:List Value)(x:r.den),aU X.w.heap (X.bT false) r vs x->aj X (fU r.shs (toCs r x)) vs
 |.nil,vs,x,h=>by rw[aU]at h;subst h;trivial
 |.cons c r,vs,(x,y),h=>by
  rw[aU]at h;obtain⟨v,vs',rfl,h1,h2⟩:=h;refine⟨?_,Yg X r vs' y h2⟩;cases c with
  |int k=>exact h1
  |bool=>exact h1
  |str=>exact h1
  |sl e r=>exact h1
def aeA(P:Program)(t:TypeId):Option nP:=
 match rowOf P 64 t with
 |some r=>match P.underlying t with
  |some (.struct _)=>some (.agg r.shs)
  |some (.array _ _)=>none
  |_=>match r with
   |.cons c .nil=>some (.one c.csh)
   |_=>none
 |none=>none
def H8(P:Program):List TypeId->Option (List gG)
 |[]=>some []
 |t::ts=>match aeA P t,H8 P ts with
  |some s,some l=>some (.v s::l)
  |_,_=>none
def start(w:World):V:=⟨w,w.heap.size,λb=>b<w.heap.size,λ_=>undef,λ_=>none⟩
theorem aic{t:TypeId}{s:nP}(hs:aeA P t=some s){base base':Nat}{sp:Nat->Bool}{hd:Bool}{v:Value}{d:DataW H}{p:List MemPlace}
 (ht:DataW.Trod enc P w base sp hd t v d p) (hv:Value.okWide P w .any base' t v):∃x:s.den,dn (start w) (s.val x) v:=by
 unfold aeA at hs;split at hs
 .next r hr=>
  obtain⟨m,hm⟩:=ht;obtain⟨y,hy⟩:=U9 64 t r hr m base sp hd _ _ hm;have hy':aU (start w).w.heap ((start w).bT false) r v.cells.toList y:=
   aU.mono (λb hb=>⟨⟨⟨hb,λ_=>hb,λo x hx=>by cases hx⟩,λe=>by cases e⟩,rfl⟩) r _ y hy
  unfold Value.okWide at hv;split at hs
  .next fs hu=>cases hs;rw[hu]at hv;obtain⟨cs,rfl,_,_⟩:=hv;exact⟨toCs r y,cs,rfl,Yg (start w) r _ y hy'⟩
  .cases hs
  .next hns hna=>
   split at hs
   .next c=>
    cases hs;have hcell:v.cells=#[v]:=by
     cases hv2:v<;>first
      |rfl
      |(exfalso
        rw[hv2]at hv;split at hv
        .next hu=>exact hns _ hu
        .next hu=>exact hna _ _ hu
        .unfold Go.Cell.okWide at hv;split at hv<;>first|(rename_i h1 h2;cases h2;done)|(rename_i h2;cases h2;done)|skip;unfold Go.Cell.ok at hv;split at hv<;>first|(rename_i h1 h2;cases h2;done)|exact hv)
    have:=Yg (start w) _ _ y hy';rw[hcell]at this;exact⟨toC c y.1,this.1⟩
   .cases hs
 .cases hs
theorem abj:∀(ts:List TypeId)(sh:List gG),H8 P ts=some sh->∀{base base':Nat}{sp:Nat->Bool}{hd:Bool}(vs:List Value)(ds:List (DataW H))(p:List MemPlace),
 DataW.TrodAll enc P w base sp hd ts vs ds p->(∀(j:Nat) t v,ts[j]? =some t->vs[j]? =some v->Value.okWide P w .any base' t v)->∃x:iT sh,mF (start w) (rE sh x) vs
 |[],sh,hs,_,_,_,_,vs,ds,p,h,_=>by
  cases hs;cases vs with
  |nil=>exact⟨(),trivial⟩
  |cons v vs=>cases ds<;>simp[DataW.TrodAll]at h
 |t::ts,sh,hs,base,base',sp,hd,vs,ds,p,h,hok=>by
  rw[H8]at hs;split at hs
  .next s l h1 h2=>
   cases hs;cases vs with
   |nil=>cases ds<;>simp[DataW.TrodAll]at h
   |cons v vs=>
    cases ds with
    |nil=>simp[DataW.TrodAll]at h
    |cons d ds=>obtain⟨a,b,g1,g2,_⟩:=h;obtain⟨x,hx⟩:=aic h1 g1 (hok 0 t v rfl rfl);obtain⟨y,hy⟩:=abj ts l h2 vs ds b g2 λj t' v' ht' hv'=>hok (j+1) t' v' (by simpa using ht') (by simpa using hv');exact⟨(x,y),hx,hy⟩
  .cases hs
mutual
theorem CT.H9:∀(c:CT),c.beq c=true
 |.int k=>by simp[CT.beq]
 |.bool=>rfl
 |.str=>rfl
 |.sl e r=>by simp[CT.beq,aB.H9 r]
theorem aB.H9:∀(r:aB),r.beq r=true
 |.nil=>rfl
 |.cons c r=>by simp[aB.beq,CT.H9 c,aB.H9 r]
end
theorem Zk:∀(c:fK)(x:c.den),c.read (c.cell x)=some x
 |.int k,x=>by simp[fK.cell,fK.read]
 |.bool,x=>rfl
 |.str,x=>rfl
 |.sl e r fr,l=>by
  simp only[fK.cell,fK.read,aoe];have h1:Hz fr fr=true:=by cases fr<;>rfl
  have h2:r.beq r=true:=aB.H9 r;rw[h1];simp only[Bool.and_self];rw[dif_pos h2];rfl
 |.nil,x=>rfl
 |.ref o,x=>by simp[fK.cell,fK.read]
 |.junk,x=>rfl
theorem Wu:∀(l:List fK)(x:kF l),iZ l (fU l x)=some x
 |[],_=>rfl
 |c::r,x=>by rw[fU,iZ,Zk c x.1,Wu r x.2]
theorem abk:∀(ts:List TypeId)(l:List gG),H8 P ts=some l->∀(x:iT l),Dc l (rE l x)=some x
 |[],l,h,x=>by cases h;rfl
 |t::ts,l,h,x=>by
  rw[H8]at h;split at h
  .next s r h1 h2=>
   cases h;have ih:=abk ts r h2 x.2;cases s with
   |one c=>
    have e:(gG.v (.one c)).read ((gG.v (.one c)).val x.1)=some x.1:=Zk c x.1;rw[rE,Dc,ih,e]
   |agg l=>have e:(gG.v (.agg l)).read ((gG.v (.agg l)).val x.1)=some x.1:=Wu l x.1;rw[rE,Dc,ih,e]
  .cases h
def Yh:Out:=⟨[(false,[.plain (.bool true)])],none⟩
theorem afE{G:jg}{f:FuncId}{fn:Func}{sh:List gG}{F:iT sh->Prop×Out}(hcon:gW P G f (uV sh F))(hsh:H8 P fn.params.toList=some sh)
 (hF:∀x,Gh sh x->(F x).1/\(F x).2=Yh) (hG:G.ok w) {base base':Nat} {sp:Nat->Bool} {hd:Bool} {args:Array Value} {ds:List (DataW H)} {p:List MemPlace}
 (hA:DataW.TrodAll enc P w base sp hd fn.params.toList args.toList ds p) (hok:∀(j:Nat) t v,fn.params[j]? =some t->args[j]? =some v->Value.okWide P w .any base' t v):
 Calls P f args w λe w'=>e=.returned (.bool true)/\w'.os=w.os/\w'.output=w.output/\w.heap.size<=w'.heap.size/\∀b,b<w.heap.size->w'.heap[b]? =w.heap[b]? :=by
 obtain⟨x,hx⟩:=abj _ _ hsh _ _ _ hA λj t v ht hv=>hok j t v (by simpa using ht) (by simpa using hv);have hin:=yR sh x _ hx;obtain⟨hp,ho⟩:=hF x hin;have hc:uV sh F (rE sh x)=some ((F x).1,Yh):=by unfold uV;rw[abk _ _ hsh x];simp only[← ho]
 refine(hcon (rE sh x) _ _ 0 _ args w hc hp hG hx).mono ?_;rintro e w' ⟨v,vals,rfl,h1,h2,h3,h4,h5,h6,_,_⟩;have hv:v=.bool true:=h6;exact⟨by rw[hv],h1,h3,h4,h5⟩
theorem agK{w w':World}(h1:w'.os=w.os)(h3:w'.output=w.output)(h5:∀b,b<w.heap.size->w'.heap[b]? =w.heap[b]?)(may:MemPlace->Prop):w.keptBut w' may:=by
 refine⟨h1,h3,λi hi=>?_⟩;rw[h5 i hi];cases hw:w.heap[i]? with
 |none=>trivial
 |some o=>cases o<;>simp
theorem agL{w w':World}(h5:∀b,b<w.heap.size->w'.heap[b]? =w.heap[b]?){p:MemPlace}(hp:p.block<w.heap.size):w.sameAt w' p:=by
 cases p with
 |cell b off=>
  show w'.cell? _=w.cell? _;unfold World.cell?;simp only;rw[h5 b hp]
 |map b=>exact h5 b hp
end Go.Fw
namespace Go.Fw
open Go
variable {P:Program} {G:jg} {f:FuncId}
theorem ny.mono{X Y:V}(h:X.le Y):∀(a:Arg)(v:Value),ny X a v->ny Y a v
 |.sv x,v,H=>dn.mono h x v H
 |.kp cs,v,H=>aV.mono h (.dF cs 0) v H
 |.fn f caps,v,H=>aV.mono h (.fn f caps) v H
 |.own _ _ _,_,H|.ptr _,_,H=>H.elim
theorem Hq.mono{X Y:V}(h:X.le Y)(i:Nat):∀(a:Arg)(v:Value),Hq X i a v->Hq Y i a v
 |.own _ _ _,v,H=>aS.mono h (.ref (i*64+49)) v H
 |.ptr _,v,H=>aV.mono h (.cZ (i*64+48) 0) v H
 |.sv x,v,H=>ny.mono h (.sv x) v H
 |.kp cs,v,H=>ny.mono h (.kp cs) v H
 |.fn f caps,v,H=>ny.mono h (.fn f caps) v H
theorem uU.nil{X Y:V}(h:X.le Y){e:TypeId}{r:aB}:∀(args:List Arg)(vs:List Value)(j i:Nat),args[i]? =some (.sv (.one .nil))->
 Y.ah ((j+i)*64+49)=some (.arr e r [] false)->Y.γ ((j+i)*64+49)=.slice none 0 0->uU X j args vs->uU Y j (args.set i (.own e r [])) vs
 |[],[],_,i,ha,_,_,_=>by simp at ha
 |[],_::_,_,_,_,_,_,H=>H.elim
 |_::_,[],_,_,_,_,_,H=>H.elim
 |a::args,v::vs,j,0,ha,ho,hγ,⟨h1,h2⟩=>by
  have ha:a=.sv (.one .nil):=by simpa using ha
  subst ha;have hv:v=.slice none 0 0:=h1;refine⟨⟨⟨e,r,[],false,ho⟩,?_,by rw[hv];rfl⟩,?_⟩
  .rw[hv];exact hγ.symm
  .show uU Y (j+1) args vs;clear h1 ha ho hγ hv;generalize j+1=k at h2
   induction args generalizing k vs with
   |nil=>cases vs with
    |nil=>trivial
    |cons _ _=>exact h2.elim
   |cons b args ih=>cases vs with
    |nil=>exact h2.elim
    |cons u vs=>exact⟨Hq.mono h k b u h2.1,ih vs (k+1) h2.2⟩
 |a::args,v::vs,j,i+1,ha,ho,hγ,⟨h1,h2⟩=>by
  have e1:j+(i+1)=j+1+i:=by omega
  rw[e1]at ho hγ;exact⟨Hq.mono h j a v h1,uU.nil h args vs (j+1) i (by simpa using ha) ho hγ h2⟩
end Go.Fw
namespace Go.Fw
open Go
theorem af{b:Bool}{A B:Prop}(h1:b=true->A)(h2:b=false->B):cond b A B:=by
 cases b
 .exact h2 rfl
 .exact h1 rfl
theorem aT{D:Type}{A:(D->Prop)->Prop}{R:D->Prop}(f:D)(h1:A λy=>y=f)(h2:R f):∃J:D->Prop,A J/\∀y,J y->R y:=
 ⟨λy=>y=f,h1,λ_ hy=>hy▸h2⟩
theorem drop_cons{α:Type}(a:List α)(n:Nat)(d:α)(h:n<a.length):a.drop n=a.getD n d::a.drop (n+1):=by rw[aoY h,anz,anu h,apu]
theorem iC(z:Int)(h:-9223372036854775808<=z/\z<=9223372036854775807):IntKind.i64.wrap z=z:=IntWalk.i64_in z (by omega)
theorem maxLen_eq:maxLen=9223372036854775807:=by decide
theorem afF:big=4294967296:=rfl
theorem getD_mem{α:Type}{l:List α}{n:Nat}{d:α}(h:n<l.length):l.getD n d∈l:=by rw[anz,anu h,apu];exact apk h
end Go.Fw
namespace Go.Fw
open Go
def aiO(w:World)(S:Nat->Prop)(k:Nat)(out:Out)(e:Ending)(w':World):Prop:=
 ∃v vals,e=.returned v/\w'.os=w.os/\w'.tape=w.tape/\w'.output=w.output/\w.heap.size<=w'.heap.size/\
    (∀b,b<w.heap.size->w'.heap[b]? =w.heap[b]?)/\
    aV ⟨w',w.heap.size,S,vals,Fw.look (out.take k).2⟩ (out.take k).1 v/\
    (∀o x,Fw.look (out.take k).2 o=some x->bf ⟨w',w.heap.size,S,vals,Fw.look (out.take k).2⟩ o x/\∀b,blk (vals o)=some b->w.heap.size<=b/\b<w'.heap.size)/\
    (∀o x q y b,Fw.look (out.take k).2 o=some x->Fw.look (out.take k).2 q=some y->o≠q->blk (vals o)=some b->blk (vals q)≠some b)
theorem abl{w w':World}{S:Nat->Prop}{k:Nat}{s:Bytes}(hos:w'.os=w.os)(htape:w'.tape=w.tape)(hout:w'.output=w.output)(hsize:w.heap.size<=w'.heap.size)
 (aiP:∀b,b<w.heap.size->w'.heap[b]? =w.heap[b]?) (hs:s.length<=maxLen):aiO w S k ⟨[(false,[.plain (.str s)])],none⟩ (.returned (.string ⟨s.toArray⟩)) w':=
 ⟨_,λ_=>undef,rfl,hos,htape,hout,hsize,aiP,⟨rfl,hs⟩,(λo x hx=>by cases hx),(λo x q y b hx=>by cases hx)⟩
end Go.Fw
namespace Go.Fw
open Go
variable {P:Program}
theorem acW{s:iH}{sh:List iH}:∀{args:List Arg}{d:jH (s::sh)},jU (s::sh) args=some d->∃x xs,args=x::xs/\s.read x=some d.1/\jU sh xs=some d.2
 |[],_,h=>by simp[jU]at h
 |x::xs,d,h=>by
  rw[jU]at h;split at h
  .next a b h1 h2=>cases h;exact⟨x,xs,rfl,h1,h2⟩
  .cases h
theorem aeB:∀{args:List Arg}{d:jH []},jU [] args=some d->args=[]
 |[],_,_=>rfl
 |_::_,_,h=>by simp[jU]at h
end Go.Fw
namespace Go.Fw
open Go
variable {P:Program} {H:Type} {enc:TypeId×Value->H} {w:World}
theorem OM(hl:laidOutB P=true){base:Nat}{sp':Nat->Bool}{W W':World}:∀(ts:List TypeId)(_:ts.all (λt=>P.readableRec t&&decide (t<P.types.size))=true)
 (vs:List Value) (ds:List (DataW H)) (ps:List MemPlace),DataW.TrodAll enc P W base (λ_=>true) true ts vs ds ps->(∀p∈ps,W.sameAt W' p)->(∀p∈ps,sp' p.block=true)->DataW.TrodAll enc P W' base sp' true ts vs ds ps
 |[],_,vs,ds,ps,h,_,_=>by
  cases vs<;>cases ds<;>simp[DataW.TrodAll]at h ⊢;exact h
 |t::ts,ht,vs,ds,ps,h,h1,h2=>by
  rw[aox,anl,anl]at ht;cases vs with
  |nil=>cases ds<;>simp[DataW.TrodAll]at h
  |cons v vs=>
   cases ds with
   |nil=>simp[DataW.TrodAll]at h
   |cons d ds=>
    obtain⟨a,b,g1,g2,rfl⟩:=h;exact⟨a,b,WideElems.Trod_stays hl ht.1.1 (aoC ht.1.2) g1 (λp hp=>h1 p (aok _ hp)) (λp hp=>h2 p (aok _ hp)),
     OM hl ts ht.2 vs ds b g2 (λp hp=>h1 p (aoN _ hp)) (λp hp=>h2 p (aoN _ hp)),rfl⟩
theorem trodAll_length{base:Nat}{sp:Nat->Bool}{hd:Bool}{W:World}:∀(ts:List TypeId)(vs:List Value)(ds:List (DataW H))(ps:List MemPlace),DataW.TrodAll enc P W base sp hd ts vs ds ps->ds.length=ts.length
 |[],vs,ds,ps,h=>by cases vs<;>cases ds<;>simp[DataW.TrodAll]at h ⊢
 |t::ts,vs,ds,ps,h=>by
  cases vs with
  |nil=>cases ds<;>simp[DataW.TrodAll]at h
  |cons v vs=>
   cases ds with
   |nil=>simp[DataW.TrodAll]at h
   |cons d ds=>obtain⟨a,b,g1,g2,rfl⟩:=h;simp[trodAll_length ts vs ds b g2]
theorem agM{fn:Func}{s:ChangeSpec}{apart fresh handsOn again:Bool}{W W':World}{args:Array Value}{ds gs:List (DataW H)}{before:List MemPlace}{tb:TypeId}
 (hvars:s.vars=[]) (hspec:∀l:List (DataW H),l.length=fn.params.toList.length->(s.fn H l).results=[.lit (.bool true)]/\(s.fn H l).args=l/\(s.fn H l).vars=[])
 (hres:fn.resultTypes=#[tb]) (hb:P.underlying tb=some .bool) (hl:laidOutB P=true) (hread:fn.params.toList.all (λt=>P.readableRec t&&decide (t<P.types.size))=true)
 (hW:DataW.Whole enc P fn.params.toList s.vars apart W args.toList ds gs before) (hos:W'.os=W.os) (hout:W'.output=W.output) (hheap:∀b,b<W.heap.size->W'.heap[b]? =W.heap[b]?):
 s.post enc P fn apart fresh handsOn again W args (.bool true) W':=by
 have hlt:=hW.lt;have hW0:=hW;obtain⟨p,q,hA,hV,hpq,hz,hn⟩:=hW;rw[hvars]at hV;have hg:gs=[]/\q=[]:=by
  cases gs with
  |nil=>exact⟨rfl,hV⟩
  |cons g gs=>simp[DataW.TrodVars]at hV
 obtain⟨rfl,rfl⟩:=hg;rw[an4]at hpq;subst hpq;have hlen:=trodAll_length _ _ _ _ hA;obtain⟨r1,r2,r3⟩:=hspec (ds++[]) (by simpa using hlen);rw[an4]at r1 r2 r3;have hsame:∀x∈before,W.sameAt W' x:=λx hx=>agL hheap (hlt x hx);have R:∀(b:Nat)(sp:Nat->Bool)(hd:Bool),DataW.TrodAll enc P W' b sp hd fn.resultTypes.toList ((Value.bool true).resultList fn.resultTypes.size) [.lit (.bool true)] []:=by intro b sp hd;rw[hres];exact⟨[],[],⟨1,by simp[DataW.trod,Value.cells,hb]⟩,rfl,rfl⟩
 have A:∀sp:Nat->Bool,(∀x∈before,sp x.block=true)->DataW.TrodAll enc P W' 0 sp true fn.params.toList args.toList ds before:=λsp hsp=>OM hl _ hread _ _ _ hA hsame hsp;have hold:∀x∈before,(λb=>decide (b<W.heap.size)) x.block=true:=λx hx=>by simpa using hlt x hx
 refine⟨ds,[],before,[],before,[],hW0,?_,?_,?_,agK hos hout hheap _,λ_=>⟨?_,.lit (.bool true)::ds,[],before,⟨before,[],?_,?_,by simp,?_,hn⟩,λx hx _=>hx⟩⟩
 .rw[an4,r1];exact R _ _ _
 .rw[an4,r2];exact A _ hold
 .rw[an4,r3,hvars];rfl
 .intro j t r h1 h2;rw[hres]at h1 h2
  match j with
  |0=>
   simp[Value.resultList]at h1 h2;subst h1 h2;simp[Value.okWide,hb,Go.Cell.okWide,Go.Cell.ok]
  |j+1=>simp at h1
 .exact ChangeShapes.trodAll_append (A _ (λ_ _=>rfl)) (R _ _ _)
 .rw[hvars];rfl
 .intro b off hp;have hbl:=hlt _ hp;have e:W'.frozen? ⟨b,off,none⟩=W.frozen? ⟨b,off,none⟩:=by unfold World.frozen?;simp only;rw[hheap b hbl]
  rw[e];exact hz b off hp
end Go.Fw
namespace Go.Fw
open Go
end Go.Fw
namespace Go.Fw
open Go
theorem Tm{H:Type}{enc:TypeId×Value->H}{C:Checked}{G:jg}{os:Os}{f:FuncId}{fn:Func}{s:ChangeSpec}{conds:List PathCond}{apart fresh handsOn again:Bool}{tb:TypeId}{sh:List gG}{F:iT sh->Prop×Out}
 {X:World->Prop} (hX:∀w w':World,w.heap=w'.heap->X w->X w')
 (own:ownKnob C.prog.godebug=none) (started:os.Started) (noInit:C.prog.inits.idxOf? f=none) (hfn:C.prog.funcs[f]? =some fn)
 (witness:∃(w:World)(tape:Tape)(i:Input),w.os=os/\(w.forCall tape i).Shaped C.prog/\i.vars=[]/\Input.okWide C.prog (w.forCall tape i) .any w.heap.size f i/\
   ((s.pre enc C.prog fn conds apart (w.forCall tape i).memory i.args/\X (w.forCall tape i).memory)/\sizedMet enc C.prog fn (OpenSpec.ofChange s) apart (w.forCall tape i).memory i.args)/\({}:Assume).holds C.prog (lone (Frame.enter C.prog f i.args .normal) [] (w.forCall tape i)))
 (hcon:gW C.prog G f (uV sh F)) (hsh:H8 C.prog fn.params.toList=some sh) (hF:∀x,Gh sh x->(F x).1/\(F x).2=Yh) (hG:∀w,X w->w.ShapedOpen C.prog->G.ok w)
 (hvars:s.vars=[]) (hspec:∀l:List (DataW H),l.length=fn.params.toList.length->(s.fn H l).results=[.lit (.bool true)]/\(s.fn H l).args=l/\(s.fn H l).vars=[])
 (hres:fn.resultTypes=#[tb]) (hb:C.prog.underlying tb=some .bool) (hl:laidOutB C.prog=true) (hread:fn.params.toList.all (λt=>C.prog.readableRec t&&decide (t<C.prog.types.size))=true):
 ReturnsInHanded {} C os f .any (λw args=>(s.pre enc C.prog fn conds apart w args/\X w)/\sizedMet enc C.prog fn (OpenSpec.ofChange s) apart w args) (s.post enc C.prog fn apart fresh handsOn again):=by
 refine returnsInHanded_of_calls own started noInit witness ?_;intro w tape i _ aid _ hok hpre _;obtain⟨_,_,_,fn',hfn',_,_,_,_,hval⟩:=hok;have e:fn'=fn:=Option.some.inj (hfn'.symm.trans hfn);subst e;obtain⟨⟨⟨ds,gs,before,hw,hc⟩,hx⟩,hz⟩:=hpre;have hW:=DataW.Whole.of_heap (w':=w.forCall tape i) (by rfl) hw;have hW0:=hW;obtain⟨p,q,hA,_⟩:=hW;refine(afE hcon hsh hF (hG (w.forCall tape i) (hX _ _ (by rfl) hx) aid) hA hval).mono ?_;rintro e W' ⟨rfl,h1,h2,_,h3⟩;exact ChangeSpec.post_blind (agM hvars hspec hres hb hl hread hW0 h1 h2 h3)
end Go.Fw
