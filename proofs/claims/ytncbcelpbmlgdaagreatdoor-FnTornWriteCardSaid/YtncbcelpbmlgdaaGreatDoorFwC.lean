import Derived.Test.YtncbcelpbmlgdaaGreatDoorFwD
import Derived.Test.YtncbcelpbmlgdaaGreatDoorFwB
import Derived.Test.YtncbcelpbmlgdaaGreatDoorFwA
import Derived.ChangeArms
import Derived.WideKeyArgs
import Derived.ChangeSame
import Derived.ChangeOld
import Derived.Handed
import Derived.IntWalk
import Derived.Laws.IdiomCopy
import Derived.ProofKit
namespace Go.Fw
open Go
variable {P:Program} {w0:World} {M:Nat->Prop} {T:Ext} {γ γ':Nat->Value} {st:St} {a:Act} {w w':World} {Θ:jr} {Γ:kR}
structure HY where
 aln:List VO
 c:Shape
 v:Shape
structure Hints where
 own:Nat->Bool
 loops:Nat->Option HY
 cuts:Nat->Option HY
 upd:List Nat
 frz:Nat->List Pre
def xI:Code->Option Nat
 |.region id _ _=>some id
 |.seq x y=>match xI x with|some n=>some n|none=>xI y
 |.cond _ x y=>match xI x with|some n=>some n|none=>xI y
 |.block _ x|.loop x=>xI x
 |_=>none
def cutAt(H:Hints)(y:Code):Option HY:=match xI y with
 |some n=>H.cuts n
 |none=>none
def F9(Θ:jr)(Γ:kR)(H:Hints):Code->(Exit->St->Prop)->St->Prop
 |.skip,Q,st=>Q .normal st
 |.region id ops false,Q,st=>Rl (H.frz id) (runs Θ Γ H.own ops.toList (Q .normal) ops.toList) st
 |.region id ops true,Q,st=>Rl (H.frz id) (NC Θ Γ H.own H.upd ops.toList (Q .normal)) st
 |.seq x y,Q,st=>match cutAt H y with
  |none=>F9 Θ Γ H x (λe s=>match e with|.normal=>F9 Θ Γ H y Q s|e=>Q e s) st
  |some sp=>match sp.c.read (only sp.c sp.v st)with
   |some x0=>∃(J:sp.v.den->Prop),F9 Θ Γ H x (λe s=>match e with
     |.normal=>match settles s sp.aln with
      |some s1=>match Nat.beq s1.n st.n,sp.c.read (only sp.c sp.v s1),sp.v.read (only sp.c sp.v s1)with
       |true,some x1,some y1=>x1=x0/\J y1
       |_,_,_=>False
      |none=>False
     |e=>Q e s) st/\∀y1,J y1->F9 Θ Γ H y Q (joint st.n sp.c sp.v x0 y1)
   |none=>False
 |.cond c x y,Q,st=>match st.ev c with
  |.sv (.one (.bool b))=>cond b (F9 Θ Γ H x Q st) (F9 Θ Γ H y Q st)
  |_=>False
 |.block id c,Q,st=>F9 Θ Γ H c (λe s=>match e with
  |.exit i=>match Nat.beq i id with|true=>Q .normal s|false=>Q (.exit i) s
  |e=>Q e s) st
 |.exit id,Q,st=>Q (.exit id) st
 |.ret,Q,st=>Q .ret st
 |.loop c,Q,st=>match xI c with
  |some n=>match H.loops n with
   |some sp=>match settles st sp.aln with
    |some s0=>match sp.c.read (only sp.c sp.v s0),sp.v.read (only sp.c sp.v s0)with
     |some x0,some y0=>∃(I:sp.v.den->Prop)(μ:sp.v.den->Nat),I y0/\∀y,I y->
       F9 Θ Γ H c (λe s=>match e with
        |.normal=>match settles s sp.aln with
         |some s1=>match Nat.beq s1.n s0.n,sp.c.read (only sp.c sp.v s1),sp.v.read (only sp.c sp.v s1)with
          |true,some x1,some y1=>x1=x0/\I y1/\μ y1<μ y
          |_,_,_=>False
         |none=>False
        |e=>Q e s) (joint s0.n sp.c sp.v x0 y)
     |_,_=>False
    |none=>False
   |none=>False
  |none=>False
 |_,_,_=>False
theorem VP{G:jX}(hE:rD P G Θ Γ w0 M)(hm:P.follows .mixedOrders=true)(H:Hints):∀(c:Code)(QA:Exit->St->Prop)(Q:Exit->Act->World->Prop)(st:St)(γ:Nat->Value)(a:Act)(w:World),
 Rel w0 M T γ st a w->F9 Θ Γ H c QA st->(∀e s γ' a' w',QA e s->Rel w0 M T γ' s a' w'->Q e a' w')->c.wp P Q a w:=by
 intro c
 induction c with
 |skip=>intro QA Q st γ a w h ha hQ;exact wp_skip (hQ _ _ _ _ _ ha h)
 |region id ops d=>
  intro QA Q st γ a w h ha hQ;cases d with
  |false=>
   obtain⟨s0,γ0,h0,hk0⟩:=CW (K:=runs Θ Γ H.own ops.toList (QA .normal) ops.toList) (H.frz id) st γ h ha;exact ahN hE h0 hk0 λs γ' a' w' hK hR=>hQ _ _ _ _ _ hK hR
  |true=>
   obtain⟨s0,γ0,h0,hk0⟩:=CW (K:=NC Θ Γ H.own H.upd ops.toList (QA .normal)) (H.frz id) st γ h ha;exact amD hE hm h0 hk0 λs γ' a' w' hK hR=>hQ _ _ _ _ _ hK hR
 |seq x y ihx ihy=>
  intro QA Q st γ a w h ha hQ;rw[F9]at ha;split at ha
  .refine wp_seq (ihx _ _ st γ a w h ha ?_);intro e s γ' a' w' hq hR;cases e<;>first|exact ihy _ _ s γ' a' w' hR hq hQ|exact hQ _ _ _ _ _ hq hR
  .next sp hsp=>
   split at ha
   .next x0 hx=>
    obtain⟨J,h1,h2⟩:=ha;refine wp_seq (ihx _ _ st γ a w h h1 ?_);intro e s γ' a' w' hq hR;cases e with
    |normal=>
     simp only at hq;split at hq
     .next s1 hs1=>
      split at hq
      .next x1 y1 hsn hx1 hy1=>obtain⟨rfl,hJ⟩:=hq;obtain⟨γ1,hR1⟩:=Rel.settles _ hR hs1;have hR2:=hR1.joint hx1 hy1;rw[avs hsn]at hR2;exact ihy _ _ _ γ1 a' w' hR2 (h2 _ hJ) hQ
      .exact hq.elim
     .exact hq.elim
    |_=>exact hQ _ _ _ _ _ hq hR
   .exact ha.elim
 |cond c x y ihx ihy=>
  intro QA Q st γ a w h ha hQ;rw[F9]at ha;split at ha
  .next b hb=>
   have hv:a.eval c=.bool b:=by have:=jc h c;rw[hb]at this;exact this
   refine wp_cond_split hv (λe=>?_) (λe=>?_)
   .subst e;exact ihx _ _ st γ a w h ha hQ
   .subst e;exact ihy _ _ st γ a w h ha hQ
  .exact ha.elim
 |block id c ih=>
  intro QA Q st γ a w h ha hQ;refine wp_block (ih _ _ st γ a w h ha ?_);intro e s γ' a' w' hq hR;cases e with
  |exit i=>
   simp only[Exit.inBlock];cases hb:Nat.beq i id with
   |true=>
    simp only[hb]at hq;rw[if_pos (avs hb)];exact hQ _ _ _ _ _ hq hR
   |false=>
    simp only[hb]at hq;rw[if_neg (by rintro rfl;simp at hb)];exact hQ _ _ _ _ _ hq hR
  |_=>exact hQ _ _ _ _ _ hq hR
 |loop c ih=>
  intro QA Q st γ a w h ha hQ;rw[F9]at ha;split at ha
  .split at ha
   .next sp hsp=>
    split at ha
    .next s0 hs0=>
     split at ha
     .next x0 y0 hx hy=>
      obtain⟨I,μ,h0,hI⟩:=ha;obtain⟨γ0,hR0⟩:=Rel.settles _ h hs0
      let J:sp.v.den->Act->World->Prop:=λy a' w'=>∃γ',Rel w0 M T γ' (joint s0.n sp.c sp.v x0 y) a' w'
      have key:∀(n:Nat)(y:sp.v.den),μ y=n->I y->∀a' w',J y a' w'->∀(b:Frame)(k:List Item)(cs:List Frame),
       ∃e a'' w'',Q e a'' w''/\Arrives P (lone (b.at a' (.code c:: .inLoop c::k)) cs w') b k cs e a'' w'':=by
       intro n
       induction n using Nat.strongRecOn with
       |_ n ihn=>
        intro y hμ hy' a' w' ⟨γ',hR⟩ b k cs;have hbody:=ih _ (Exit.then (λa2 w2=>∃y2,I y2/\μ y2<μ y/\J y2 a2 w2) Q) _ γ' a' w' hR (hI y hy') ?_
        .obtain⟨e,a1,w1,hq,harr⟩:=hbody b (.inLoop c::k) cs;cases e with
         |normal=>
          obtain⟨y2,hI2,hlt,hJ2⟩:=hq;obtain⟨e2,a2,w2,hq2,arG⟩:=ihn (μ y2) (hμ▸hlt) y2 rfl hI2 a1 w1 hJ2 b k cs;exact⟨e2,a2,w2,hq2,.of_steps (Steps.trans harr (.one step_inLoop)) arG⟩
         |exit id=>exact⟨_,a1,w1,hq,.pass (x:=.inLoop c) rfl (λ_ _=>.inl acA) harr⟩
         |goto l=>exact⟨_,a1,w1,hq,.pass (x:=.inLoop c) rfl (λ_ _=>.inl acA) harr⟩
         |ret=>exact⟨_,a1,w1,hq,.pass (x:=.inLoop c) rfl (λ_ _=>.inl acA) harr⟩
         |panic ch=>exact⟨_,a1,w1,hq,.pass (x:=.inLoop c) rfl (λ_ _=>.inl acA) harr⟩
         |outgrown=>exact⟨_,a1,w1,hq,.pass (x:=.inLoop c) rfl (λ_ _=>.inl acA) harr⟩
        .intro e s γ2 a2 w2 hq hR2;cases e with
         |normal=>
          simp only at hq;split at hq
          .next s1 hs1=>
           split at hq
           .next x1 y1 hsn hx1 hy1=>obtain⟨rfl,hI1,hlt⟩:=hq;obtain⟨γ3,ku⟩:=Rel.settles _ hR2 hs1;have hJ:=ku.joint hx1 hy1;rw[avs hsn]at hJ;exact⟨y1,hI1,hlt,_,hJ⟩
           .exact hq.elim
          .exact hq.elim
         |_=>exact hQ _ _ _ _ _ hq hR2
      intro b k cs;obtain⟨e,a',w',hq,harr⟩:=key _ y0 rfl h0 a w ⟨_,hR0.joint hx hy⟩ b k cs;exact⟨e,a',w',hq,.of_steps (.one step_loop) harr⟩
     .exact ha.elim
    .exact ha.elim
   .exact ha.elim
  .exact ha.elim
 |rangeFunc f ps x y ihx ihy=>intro QA Q st γ a w h ha hQ;exact ha.elim
 |exit id=>intro QA Q st γ a w h ha hQ;exact wp_exit (hQ _ _ _ _ _ ha h)
 |scope c ih=>intro QA Q st γ a w h ha hQ;exact ha.elim
 |label l=>intro QA Q st γ a w h ha hQ;exact ha.elim
 |goto l=>intro QA Q st γ a w h ha hQ;exact ha.elim
 |ret=>intro QA Q st γ a w h ha hQ;exact wp_ret (hQ _ _ _ _ _ ha h)
 |refuse s=>intro QA Q st γ a w h ha hQ;exact ha.elim
def Arg.av:Arg->AV
 |.sv v=>.sv v
 |.kp cs=>.fF cs 0
 |.fn f caps=>.fn f caps
 |.own _ _ _|.ptr _=>.undef
def entry(n:Nat)(args:List Arg):St:=
 {n:=n,tmps:=λt=>match args[t]? with|some v=>v.av|none=>.undef,ah:=λ_=>none}
def ND(st:St)(o:Nat):Bool:=match st.ah o with|some (.arr _ _ _ _)=>true|_=>false
def abG(Θ:jr)(st:St):ResultVar->Option SV
 |.tmp t=>match st.tmps t with|.sv v=>some v|_=>none
 |.cell t ty=>match Θ ty,st.tmps t with
  |some ti,.bM o off=>match st.ah o with
   |some (.var cs)=>lK ti cs off
   |_=>none
  |_,_=>none
def Lj(Θ:jr)(st:St):List ResultVar->Option (List SV)
 |[]=>some []
 |r::rs=>match abG Θ st r,Lj Θ st rs with
  |some v,some vs=>some (v::vs)
  |_,_=>none
def outOf:SV->Bool×List fH
 |.one c=>(false,[.plain c])
 |.agg cs=>(true,cs.map .plain)
def outs:List SV->List (Bool×List fH)
 |[]=>[]
 |v::vs=>outOf (v.kill λ_=>true)::outs vs
def fin(Θ:jr)(rv:List ResultVar)(st:St):Option Out:=
 match Lj Θ (st.freeze (ND st)) rv with
 |some vs=>some ⟨outs vs,none⟩
 |none=>none
theorem NG:∀(k:Nat)(cs:List Cell),jR k (cs.map .plain)=(cs,[])
 |_,[]=>rfl
 |k,c::cs=>by simp only[avK,jR,NG (k+1) cs,fH.take,avU]
theorem ajC(k:Nat)(v:SV):vU k (outOf v)=(v,[]):=by
 cases v with
 |one c=>rfl
 |agg cs=>simp only[vU,outOf,NG]
theorem apP(v:Value)(t:TypeId)(b off:Nat)(hv:v=.pointer (some ⟨b,off,none⟩)):Instr.loadAt t v=(do loadVar t (← asAddr v)):=by subst hv;rfl
def IY(tmps:Array Value):ResultVar->Sem Value
 |.tmp t=>pure (tmps.getD t undef)
 |.cell x t=>do loadVar t (← asAddr (tmps.getD x undef))
theorem Ro(fn:Func)(tmps:Array Value):results fn tmps=(do let vs ← fn.results.mapM (IY tmps);pure (if h:vs.size=1 then vs[0]else .tuple vs)):=by unfold results;congr 1
theorem ahP(hΘ:∀t ti,Θ t=some ti->lM P t ti)(h:Rel w0 M T γ st a w){r:ResultVar}{v:SV}(hf:abG Θ st r=some v):
 ∃u,(IY a.tmps r).run P w=.ok u w/\dM (aj w0 T γ st w) v u:=by
 cases r with
 |tmp t=>
  simp only[abG]at hf;split at hf
  .next e=>cases hf;have:=h.tmps t;rw[e]at this;exact⟨_,rfl,this⟩
  .cases hf
 |cell x t=>
  simp only[abG]at hf;split at hf
  .next ti o off ht hx=>
   split at hf
   .next cs ho=>have hv:=h.tmps x;rw[hx]at hv;obtain⟨b,cs',_,_,hv'⟩:=hv;obtain⟨u,hu,hr⟩:=Ns hΘ h ht (x:=.tmp x) (.inl ⟨o,off,cs,hx,ho,hf⟩);refine⟨u,?_,hr⟩;rw[IY,← apP _ t b off hv'];exact hu
   .cases hf
  .cases hf
theorem Ll(hΘ:∀t ti,Θ t=some ti->lM P t ti)(h:Rel w0 M T γ st a w):∀(rs:List ResultVar)(vs:List SV),Lj Θ st rs=some vs->
 ∃us,(rs.mapM (IY a.tmps)).run P w=.ok us w/\
  dN (aj w0 T γ st w) vs us
 |[],vs,hf=>by cases hf;exact⟨[],rfl,trivial⟩
 |r::rs,vs,hf=>by
  rw[Lj]at hf;split at hf
  .next v vs' h1 h2=>cases hf;obtain⟨u,hu,hr⟩:=ahP hΘ h h1;obtain⟨us,hus,hrs⟩:=Ll hΘ h rs vs' h2;refine⟨u::us,?_,hr,hrs⟩;rw[ayJ,avQ,hu];simp only[awl,avQ,hus,awx]
  .cases hf
theorem dN.length{X:V}:∀(cs:List SV)(vs:List Value),dN X cs vs->vs.length=cs.length
 |[],[],_=>rfl
 |_::cs,_::vs,⟨_,h⟩=>by simp[dN.length cs vs h]
 |[],_::_,H|_::_,[],H=>afM
theorem dN.get{X:V}:∀(cs:List SV)(vs:List Value)(i:Nat)(c:SV),dN X cs vs->cs[i]? =some c->∃v,vs[i]? =some v/\dM X c v
 |[],_,_,_,_,h=>amA
 |c::cs,v::vs,0,d,⟨h1,_⟩,h=>aqQ
 |c::cs,v::vs,i+1,d,⟨_,h2⟩,h=>by
  obtain⟨u,hu,hr⟩:=dN.get cs vs i d h2 acG;exact⟨u,apn,hr⟩
 |_::_,[],_,_,H,_=>afM
theorem oD.length{X:V}:∀(cs:List Arg)(vs:List Value),oD X cs vs->vs.length=cs.length
 |[],[],_=>rfl
 |_::cs,_::vs,⟨_,h⟩=>by simp[oD.length cs vs h]
 |[],_::_,H|_::_,[],H=>afM
theorem oD.get{X:V}:∀(cs:List Arg)(vs:List Value)(i:Nat)(c:Arg),oD X cs vs->cs[i]? =some c->∃v,vs[i]? =some v/\oC X c v
 |[],_,_,_,_,h=>amA
 |c::cs,v::vs,0,d,⟨h1,_⟩,h=>aqQ
 |c::cs,v::vs,i+1,d,⟨_,h2⟩,h=>by
  obtain⟨u,hu,hr⟩:=oD.get cs vs i d h2 acG;exact⟨u,apn,hr⟩
 |_::_,[],_,_,H,_=>afM
theorem oC.av{X:V}:∀(c:Arg)(v:Value),oC X c v->aT X c.av v
 |.sv _,_,h|.kp _,_,h|.fn _ _,_,h=>h
 |.own _ _ _,_,h|.ptr _,_,h=>h.elim
theorem amF{args:List Arg}{vs:Array Value}{S:Nat->Prop}(n:Nat)(hn:args.length<=n)
 (h:oD ⟨w,w.heap.size,S,λ_=>undef,λ_=>none⟩ args vs.toList):
 Rel w (λ_=>False) ⟨S,λ_=>none,λ_ _ h=>agk⟩ (λ_=>undef) (entry n args) {tmps:=vs++Array.replicate (n-vs.size) undef,defers:=[]} w:=by
 have hl:vs.size=args.length:=by simpa using oD.length _ _ h
 refine⟨λ_ h=>h.elim,rfl,?_,rfl,rfl,rfl,avt _,λ_ _ _=>rfl,λt=>?_,(λo x hx=>afg),(λo x b hx=>afg),(λo x p y b hx=>afg),(λo v cs hN=>by cases hN)⟩
 .simp[entry];omega
 .simp only[entry];cases ha:args[t]? with
  |none=>trivial
  |some v=>
   obtain⟨u,hu,hr⟩:=oD.get _ _ t v h ha;have:(vs++Array.replicate (n-vs.size) undef).getD t undef=u:=by
    have hlt:t<args.length:=by
     rcases avN t args.length with h'|h'
     .exact h'
     .rw[aww h']at ha;cases ha
    have hlt':t<vs.size:=abn;rw[axp,axu hlt'];have:vs[t]? =some u:=apn;rw[this];rfl
   rw[this];exact oC.av v u hr
end Go.Fw
namespace Go.Fw
def codeOf(fn:Func):Code:=match fn.body with|some c=>c|none=>.skip
def abH:List (Nat×TI)->jr
 |[],_=>none
 |(t,x)::r,i=>match Nat.beq i t with|true=>some x|false=>abH r i
def Iq:List (Nat×Js)->kR
 |[],_=>none
 |(t,x)::r,i=>match Nat.beq i t with|true=>some x|false=>Iq r i
def alo:List (Nat×HY)->Nat->Option HY
 |[],_=>none
 |(t,x)::r,i=>match Nat.beq i t with|true=>some x|false=>alo r i
def apm:List (Nat×List Pre)->Nat->List Pre
 |[],_=>[]
 |(n,z)::r,i=>match Nat.beq i n with|true=>z|false=>apm r i
def hints(own:List Nat)(l c:List (Nat×HY))(u:List Nat)(z:List (Nat×List Pre)):Hints:=⟨aO own,alo l,alo c,u,apm z⟩
end Go.Fw
namespace Go.Fw
open Go
variable {P:Program} {Θ:jr} {Γ:kR}
inductive oI where
 |one (c:iq)
 |agg (l:List iq)
@[reducible] def oI.den:oI->Type
  |.one c=>c.den
  |.agg l=>lW l
def oI.val:(s:oI)->s.den->SV
 |.one c,x=>.one (c.cell x)
 |.agg l,x=>.agg (iD l x)
def oI.read:(s:oI)->SV->Option s.den
 |.one c,.one x=>c.read x
 |.agg l,.agg xs=>jS l xs
 |_,_=>none
theorem oI.weak{X:V}(s:oI)(x:SV)(d:s.den)(v:Value)(hr:s.read x=some d)(hv:dM X x v):dM X (s.val d) v:=by
 unfold oI.read at hr;split at hr
 .exact iq.weak _ _ _ _ hr hv
 .obtain⟨vs,e,h⟩:=hv;exact⟨vs,e,DX _ _ _ _ hr h⟩
 .cases hr
@[reducible] def mG:List oI->Type
  |[]=>Unit
  |s::r=>s.den×mG r
def qR:(l:List oI)->mG l->List SV
 |[],_=>[]
 |s::r,x=>s.val x.1::qR r x.2
def PG:(l:List oI)->List SV->Option (mG l)
 |[],[]=>some ()
 |s::r,x::xs=>match s.read x,PG r xs with
  |some a,some b=>some (a,b)
  |_,_=>none
 |_,_=>none
theorem amG{X:V}:∀(l:List oI)(xs:List SV)(d:mG l)(vs:List Value),PG l xs=some d->dN X xs vs->dN X (qR l d) vs
 |[],[],_,_,_,hv=>hv
 |s::r,x::xs,d,vs,hr,hv=>by
  rw[PG]at hr;split at hr
  .next a b h1 h2=>
   cases hr;cases vs with
   |nil=>cases hv
   |cons v vs=>exact⟨oI.weak s x a v h1 hv.1,amG r xs b vs h2 hv.2⟩
  .cases hr
 |[],_::_,_,_,hr,_=>by simp[PG]at hr
 |_::_,[],_,_,hr,_=>by simp[PG]at hr
mutual
def CT.rE:(c:CT)->c.den->Prop
 |.int k,(n:Int)=>k.min<=n/\n<=k.max
 |.bool,_=>True
 |.str,(s:Bytes)=>s.length<=maxLen
 |.sl _ r,(l:List r.den)=>l.length<=maxLen/\∀x∈l,r.rE x
def ax.rE:(r:ax)->r.den->Prop
 |.nil,_=>True
 |.cons c r,x=>c.rE x.1/\r.rE x.2
end
mutual
theorem cZ.rE{h:Array Obj}{S:Nat->Prop}:∀(c:CT)(v:Value)(x:c.den),cZ h S c v x->c.rE x
 |.int k,v,(n:Int),H=>by rw[cZ]at H;rw[CT.rE];exact H.2
 |.bool,v,(b:Bool),H=>by rw[CT.rE];trivial
 |.str,v,(s:Bytes),H=>by rw[cZ]at H;rw[CT.rE];exact H.2
 |.sl e r,v,(l:List r.den),H=>by
  rw[cZ]at H;rw[CT.rE];refine⟨H.1,λx hx=>?_⟩;obtain⟨i,hi,rfl⟩:=axg.1 hx;rcases H.2 with⟨hnil,_⟩|⟨b,off,cap,cs,t,fz,_,_,_,_,hr⟩
  .subst hnil;simp at hi
  .exact aJ.rE r _ _ (hr i _ (avv hi))
theorem aJ.rE{h:Array Obj}{S:Nat->Prop}:∀(r:ax)(vs:List Value)(x:r.den),aJ h S r vs x->r.rE x
 |.nil,vs,_,H=>by rw[ax.rE];trivial
 |.cons c r,vs,(x,y),H=>by rw[aJ]at H;obtain⟨v,vs',_,h1,h2⟩:=H;rw[ax.rE];exact⟨cZ.rE c v x h1,aJ.rE r vs' y h2⟩
end
def iq.rE:(c:iq)->c.den->Prop
 |.int k,(n:Int)=>k.min<=n/\n<=k.max
 |.str,(s:Bytes)=>s.length<=maxLen
 |.sl _ r _,(l:List r.den)=>l.length<=maxLen/\∀x∈l,r.rE x
 |_,_=>True
def XT:(l:List iq)->lW l->Prop
 |[],_=>True
 |c::r,x=>c.rE x.1/\XT r x.2
def oI.rE:(s:oI)->s.den->Prop
 |.one c,x=>c.rE x
 |.agg l,x=>XT l x
theorem iq.XU{X:V}(c:iq)(x:c.den)(v:Value)(h:aS X (c.cell x) v):c.rE x:=by
 cases c with
 |int k=>exact h.2
 |str=>exact h.2
 |sl e r fr=>
  have h':cZ X.w.heap (X.cu fr) (.sl e r) v x:=h;have:=cZ.rE (.sl e r) v x h';rw[CT.rE]at this;exact this
 |_=>trivial
theorem IZ{X:V}:∀(l:List iq)(x:lW l)(vs:List Value),ai X (iD l x) vs->XT l x
 |[],_,_,_=>trivial
 |c::r,x,v::vs,h=>⟨iq.XU c x.1 v h.1,IZ r x.2 vs h.2⟩
 |_::_,_,[],h=>agk
inductive iG where
 |v (s:oI)
 |kp (l:List iq)
 |fn (f:FuncId) (l:List (List iq))
@[reducible] def iG.den:iG->Type
  |.v s=>s.den
  |.kp l=>lW l
  |.fn _ l=>AL l
def iG.val:(s:iG)->s.den->Arg
 |.v s,x=>.sv (s.val x)
 |.kp l,x=>.kp (iD l x)
 |.fn f l,x=>.fn f (IW l x)
def iG.read:(s:iG)->Arg->Option s.den
 |.v s,.sv x=>s.read x
 |.kp l,.kp xs=>jS l xs
 |.fn f l,.fn g xs=>match Nat.beq f g with|true=>EK l xs|false=>none
 |_,_=>none
theorem iG.weak{X:V}(s:iG)(x:Arg)(d:s.den)(v:Value)(hr:s.read x=some d)(hv:oC X x v):oC X (s.val d) v:=by
 unfold iG.read at hr;split at hr
 .exact oI.weak _ _ _ _ hr hv
 .obtain⟨b,e,hk⟩:=hv;exact⟨b,e,afu hr hk⟩
 .split at hr
  .next hb=>obtain⟨us,e,hk⟩:=hv;rw[iG.val,avs hb];exact⟨us,e,VL _ _ _ _ hr hk⟩
  .cases hr
 .cases hr
@[reducible] def jy:List iG->Type
  |[]=>Unit
  |s::r=>s.den×jy r
def uz:(l:List iG)->jy l->List Arg
 |[],_=>[]
 |s::r,x=>s.val x.1::uz r x.2
def Gf:(l:List iG)->List Arg->Option (jy l)
 |[],[]=>some ()
 |s::r,x::xs=>match s.read x,Gf r xs with
  |some a,some b=>some (a,b)
  |_,_=>none
 |_,_=>none
theorem DZ{X:V}:∀(l:List iG)(xs:List Arg)(d:jy l)(vs:List Value),Gf l xs=some d->oD X xs vs->oD X (uz l d) vs
 |[],[],_,_,_,hv=>hv
 |s::r,x::xs,d,vs,hr,hv=>by
  rw[Gf]at hr;split at hr
  .next a b h1 h2=>
   cases hr;cases vs with
   |nil=>cases hv
   |cons v vs=>exact⟨iG.weak s x a v h1 hv.1,DZ r xs b vs h2 hv.2⟩
  .cases hr
 |[],_::_,_,_,hr,_=>by simp[Gf]at hr
 |_::_,[],_,_,hr,_=>by simp[Gf]at hr
theorem Ul:∀(l:List iG)(d:jy l),(uz l d).length=l.length
 |[],_=>rfl
 |_::r,d=>by simp[uz,Ul r d.2]
def adY:(l:List (List iq))->AL l->Prop
 |[],_=>True
 |c::r,x=>XT c x.1/\adY r x.2
def iG.rE:(s:iG)->s.den->Prop
 |.v s,x=>s.rE x
 |.kp l,x=>XT l x
 |.fn _ l,x=>adY l x
def JV:(l:List iG)->jy l->Prop
 |[],_=>True
 |s::r,x=>s.rE x.1/\JV r x.2
theorem Y8{X:V}:∀(l:List (List iq))(x:AL l)(us:List Value),fA X (IW l x) us->adY l x
 |[],_,_,_=>trivial
 |c::r,x,u::us,h=>by
  obtain⟨⟨b,hu,arr,t,fz,hf,hh,hc⟩,h2⟩:=h;exact⟨IZ c x.1 _ hc,Y8 r x.2 us h2⟩
 |_::_,_,[],h=>agk
theorem BU{X:V}:∀(l:List iG)(x:jy l)(vs:List Value),oD X (uz l x) vs->JV l x
 |[],_,_,_=>trivial
 |.v (.one c)::r,x,v::vs,h=>⟨iq.XU c x.1 v h.1,BU r x.2 vs h.2⟩
 |.v (.agg l)::r,x,v::vs,h=>by
  obtain⟨ws,hv,hc⟩:=h.1;exact⟨IZ l x.1 _ hc,BU r x.2 vs h.2⟩
 |.kp l::r,x,v::vs,h=>by
  obtain⟨b,hu,arr,t,fz,hf,hh,hc⟩:=h.1;exact⟨IZ l x.1 _ hc,BU r x.2 vs h.2⟩
 |.fn f l::r,x,v::vs,h=>by
  obtain⟨us,hv,hk⟩:=h.1;exact⟨Y8 l x.1 _ hk,BU r x.2 vs h.2⟩
 |_::_,_,[],h=>agk
def wU(sh:List iG)(F:jy sh->Prop×Out):EU:=λargs=>
 match Gf sh args with
 |some x=>some (F x)
 |none=>none
def zV:List SV->List (Bool×List fH)
 |[]=>[]
 |v::vs=>outOf v::zV vs
theorem PI:∀(k:Nat)(vs:List SV),iK k (zV vs)=(vs,[])
 |_,[]=>rfl
 |k,v::vs=>by simp only[zV,iK,ajC,PI,avU]
def abI(Θ:jr)(rv:List ResultVar)(bI:List oI)(K:mG bI->Prop)(e:Exit)(st:St):Prop:=
 match e with
 |.normal|.ret=>match Lj Θ (st.freeze (ND st)) rv with
  |some vs=>match PG bI (vs.map (SV.kill λ_=>true))with
   |some d=>K d
   |none=>False
  |none=>False
 |_=>False
theorem apQ{G:jX}(hE:EnvB P G Θ Γ)(hm:P.follows .mixedOrders=true){f:FuncId}{fn:Func}{c:Code}(hf:P.funcs[f]? =some fn)(hb:fn.body=some c)(H:Hints){con:EU}{bI:List oI}
 (hwalk:∀args p out,con args=some (p,out)->p->Nat.ble args.length fn.ntmps=true/\∃d:mG bI,out=⟨zV (qR bI d),none⟩/\F9 Θ Γ H c (abI Θ fn.results.toList bI λy=>y=d) (entry fn.ntmps args)):fJ P G f con:=by
 intro args p out k S vs w hcon hp hG hrep;obtain⟨hn,d,hout,hw⟩:=hwalk args p out hcon hp;subst hout;have hn':args.length<=fn.ntmps:=by simpa[axL]using hn
 refine calls_of_wp hf hb (VP ⟨hE,hG,λb hb=>hb.elim⟩ hm H c _ _ _ _ _ _ (amF (S:=S) fn.ntmps hn' hrep) hw ?_);have hret:∀s γ' a' w',abI Θ fn.results.toList bI (λy=>y=d) .ret s->Rel w (λ_=>False) ⟨S,λ_=>none,λ_ _ h=>agk⟩ γ' s a' w'->bodyPost P fn (λe w'=>∃v vals,e=.returned v/\w'.os=w.os/\w'.tape=w.tape/\w'.output=w.output/\w.heap.size<=w'.heap.size/\
  (∀b,b<w.heap.size->w'.heap[b]? =w.heap[b]?)/\
  aT ⟨w',w.heap.size,S,vals,look (Out.take k ⟨zV (qR bI d),none⟩).2⟩ (Out.take k ⟨zV (qR bI d),none⟩).1 v/\
  (∀o x,look (Out.take k ⟨zV (qR bI d),none⟩).2 o=some x->bn ⟨w',w.heap.size,S,vals,look (Out.take k ⟨zV (qR bI d),none⟩).2⟩ o x/\∀b,blk (vals o)=some b->w.heap.size<=b/\b<w'.heap.size)/\
  (∀o x q y b,look (Out.take k ⟨zV (qR bI d),none⟩).2 o=some x->look (Out.take k ⟨zV (qR bI d),none⟩).2 q=some y->o≠q->blk (vals o)=some b->blk (vals q)≠some b)) .ret a' w':=by
  intro s γ' a' w' he hR;refine⟨hR.defers,?_⟩;simp only[abI]at he;split at he
  .next svs hvs=>
   split at he
   .next y hy=>
    subst he;have hRf:=hR.freeze (ND s);obtain⟨us,hus,hrs⟩:=Ll hE.types hRf _ _ hvs;have hk0:=dN.kill (λ_=>true) hRf svs us hrs;have hk:=amG bI _ y us hy hk0;have htake:Out.take k ⟨zV (qR bI y),none⟩=(match qR bI y with|[v]=>.sv v|l=>.mJ l,[]):=by unfold Out.take;simp only[PI];rcases qR bI y with _|⟨v,_|⟨v2,r⟩⟩<;>rfl
    have hmap:(fn.results.mapM (IY a'.tmps)).run P w'=.ok us.toArray w':=by rw[axV,Sem.run_map,hus];rfl
    refine⟨if h:us.toArray.size=1 then us.toArray[0]else .tuple us.toArray,?_,_,γ',rfl,hR.os,hR.tape,hR.output,hR.grow,λb hb=>hR.kept b hb (λh=>h),?_,?_,?_⟩
    .rw[Ro,avQ,hmap];simp only[awl,awx]
    .rw[htake];have hl:=dN.length _ _ hk
     match hm:qR bI y,us,hk,hl with
     |[v],[u],hk,_=>exact hk.1
     |[],[],hk,_=>exact⟨_,acA,hk⟩
     |v::v2::r,u::u2::us,hk,hl=>exact⟨_,acA,hk⟩
     |[],_::_,hk,h4|_::_,[],hk,h4|[_],_::_::_,hk,h4|_::_::_,[_],hk,h4=>simp at h4
    .intro o x hx;rw[htake]at hx;cases hx
    .intro o x q y b hx;rw[htake]at hx;cases hx
   .exact he.elim
  .exact he.elim
 intro e s γ' a' w' he hR;cases e with
 |normal=>exact hret s γ' a' w' he hR
 |ret=>exact hret s γ' a' w' he hR
 |_=>exact he.elim
def iy(sh:List iG)(bI:List oI)(F:jy sh->Prop×mG bI):EU:=wU sh λx=>((F x).1,⟨zV (qR bI (F x).2),none⟩)
theorem adZ{G:jX}(hE:EnvB P G Θ Γ)(hm:P.follows .mixedOrders=true){f:FuncId}{fn:Func}{c:Code}(hf:P.funcs[f]? =some fn)(hb:fn.body=some c)(H:Hints)
 {sh:List iG} {bI:List oI} {F:jy sh->Prop×mG bI} (hn:Nat.ble sh.length fn.ntmps=true)
 (hwalk:∀x,JV sh x->(F x).1->F9 Θ Γ H c (abI Θ fn.results.toList bI λy=>y=(F x).2) (entry fn.ntmps (uz sh x))):fJ P G f (iy sh bI F):=by
 have base:∀x,JV sh x->fJ P G f (λargs=>@ite _ (args=uz sh x) (Classical.propDecidable _) (some ((F x).1,⟨zV (qR bI (F x).2),none⟩)) none):=by
  intro x hin;refine apQ (bI:=bI) hE hm hf hb H ?_;intro args p out hcon hp;split at hcon
  .next e=>
   have hF:((F x).1,(⟨zV (qR bI (F x).2),none⟩:Out))=(p,out):=by simpa using hcon
   have h1:(F x).1=p:=congrArg Prod.fst hF;have h2:(⟨zV (qR bI (F x).2),none⟩:Out)=out:=congrArg Prod.snd hF;have:=hwalk x hin (by rw[h1];exact hp);rw[e];exact⟨by rw[Ul];exact hn,(F x).2,h2.symm,this⟩
  .cases hcon
 intro args p out k S vs w hcon hp hG hrep;unfold iy wU at hcon;split at hcon
 .next x hx=>have hv:=DZ sh args x vs.toList hx hrep;exact base x (BU sh x _ hv) (uz sh x) p out k S vs w (by simp only[if_true];exact hcon) hp hG hv
 .cases hcon
inductive RC where
 |c (s:iq)
 |own (e:TypeId) (r:ax) (fr:Bool)
@[reducible] def RC.den:RC->Type
  |.c s=>s.den
  |.own _ r _=>List r.den
@[reducible] def abJ:List RC->Type
  |[]=>Unit
  |c::r=>c.den×abJ r
def RC.alp:(c:RC)->c.den->fH
 |.c s,x=>.plain (s.cell x)
 |.own e r fr,l=>.own e r l fr
def ad1:(l:List RC)->abJ l->List fH
 |[],_=>[]
 |c::r,x=>c.alp x.1::ad1 r x.2
inductive pR where
 |one (c:RC)
 |agg (l:List RC)
@[reducible] def pR.den:pR->Type
  |.one c=>c.den
  |.agg l=>abJ l
@[reducible] def lT:List pR->Type
  |[]=>Unit
  |s::r=>s.den×lT r
def pR.out:(s:pR)->s.den->Bool×List fH
 |.one c,x=>(false,[c.alp x])
 |.agg l,x=>(true,ad1 l x)
def iQ:(l:List pR)->lT l->List (Bool×List fH)
 |[],_=>[]
 |s::r,x=>s.out x.1::iQ r x.2
def RC.name:RC->Cell->Option Nat
 |.own _ _ _,.ref o=>some o
 |_,_=>none
def ad2:List RC->List Cell->List (Option Nat)
 |c::r,x::xs=>c.name x::ad2 r xs
 |_,_=>[]
def pR.names:pR->SV->List (Option Nat)
 |.one c,.one x=>[c.name x]
 |.agg l,.agg xs=>ad2 l xs
 |_,_=>[]
def AO:List pR->List SV->List (Option Nat)
 |s::r,x::xs=>s.names x++AO r xs
 |_,_=>[]
def RC.read(st:St):(c:RC)->Cell->Option c.den
 |.c s,x=>match x.refs with|[]=>s.read x|_=>none
 |.own e r fr,.ref o=>match st.ah o with
  |some (.arr f s l g)=>match Nat.beq e f&&Lh fr g with
   |true=>if h:s.beq r=true then some (tV h l)else none
   |false=>none
  |_=>none
 |.own _ r _,.nil=>match Nat.ble 1 r.len with|true=>some []|false=>none
 |_,_=>none
def PK(st:St):(l:List RC)->List Cell->Option (abJ l)
 |[],[]=>some ()
 |c::r,x::xs=>match c.read st x,PK st r xs with
  |some a,some b=>some (a,b)
  |_,_=>none
 |_,_=>none
def pR.read(st:St):(s:pR)->SV->Option s.den
 |.one c,.one x=>c.read st x
 |.agg l,.agg xs=>PK st l xs
 |_,_=>none
def BV(st:St):(l:List pR)->List SV->Option (lT l)
 |[],[]=>some ()
 |s::r,x::xs=>match s.read st x,BV st r xs with
  |some a,some b=>some (a,b)
  |_,_=>none
 |_,_=>none
inductive iJ where
 |p (s:iG)
 |own (e:TypeId) (r:ax)
 |ptr (l:List iq)
@[reducible] def iJ.den:iJ->Type
  |.p s=>s.den
  |.own _ r=>List r.den
  |.ptr l=>lW l
def iJ.mode:iJ->Mode
 |.p _=>.val
 |.own _ _=>.own
 |.ptr _=>.ptr
def iJ.val:(s:iJ)->s.den->Arg
 |.p s,x=>s.val x
 |.own e r,l=>.own e r l
 |.ptr l,x=>.ptr (iD l x)
def iJ.read:(s:iJ)->Arg->Option s.den
 |.p s,x=>s.read x
 |.own e r,.own f s l=>match Nat.beq e f with
  |true=>if h:s.beq r=true then some (tV h l)else none
  |false=>none
 |.ptr l,.ptr cs=>jS l cs
 |_,_=>none
@[reducible] def jw:List iJ->Type
  |[]=>Unit
  |s::r=>s.den×jw r
def rV:(l:List iJ)->jw l->List Arg
 |[],_=>[]
 |s::r,x=>s.val x.1::rV r x.2
def iR:(l:List iJ)->List Arg->Option (jw l)
 |[],[]=>some ()
 |s::r,x::xs=>match s.read x,iR r xs with
  |some a,some b=>some (a,b)
  |_,_=>none
 |_,_=>none
@[reducible] def lg:List iJ->Type
  |[]=>Unit
  |.ptr l::r=>lW l×lg r
  |.p _::r|.own _ _::r=>lg r
def jT:(l:List iJ)->lg l->List Eff
 |[],_=>[]
 |.ptr l::r,x=>.var (iD l x.1)::jT r x.2
 |.p _::r,x|.own _ _::r,x=>.lose::jT r x
def I4(st:St):(i:Nat)->(l:List iJ)->Option (lg l)
 |_,[]=>some ()
 |i,.ptr l::r=>match st.ah (i*64+48),I4 st (i+1) r with
  |some (.var cs),some b=>match cs.flatMap Cell.refs,jS l cs with
   |[],some a=>some (a,b)
   |_,_=>none
  |_,_=>none
 |i,.p _::r|i,.own _ _::r=>I4 st (i+1) r
def Arg.avX(i:Nat):Arg->AV
 |.own _ _ _=>.sv (.one (.ref (i*64+49)))
 |.ptr _=>.bM (i*64+48) 0
 |a=>a.av
def D5(n:Nat)(args:List Arg):St:=
 {n:=n,tmps:=λt=>match args[t]? with|some v=>v.avX t|none=>.undef,ah:=dF args}
def abK(st:St)(W:List (Option Nat))(o:Nat):Bool:=ND st o&&!(Vs o W)
def ag3(Θ:jr)(rv:List ResultVar)(sh:List iJ)(bI:List pR)(K:lT bI×lg sh->Prop)(e:Exit)(st:St):Prop:=
 match e with
 |.normal|.ret=>match Lj Θ st rv with
  |some svs=>match Lj Θ (st.freeze (abK st (AO bI svs))) rv with
   |some vs=>match yQ (AO bI vs),BV (st.freeze (abK st (AO bI svs))) bI vs,I4 (st.freeze (abK st (AO bI svs))) 0 sh with
    |true,some d,some b=>K (d,b)
    |_,_,_=>False
   |none=>False
  |none=>False
 |_=>False
def qf(sh:List iJ)(bI:List pR)(F:jw sh->Prop×(lT bI×lg sh->Prop)):Dt:=λargs=>
 match iR sh args with
 |some x=>some ((F x).1,⟨lT bI×lg sh,(F x).2,λt=>⟨iQ bI t.1,none⟩,λt=>jT sh t.2⟩)
 |none=>none
def DT(sh:List iJ):List Mode:=sh.map iJ.mode
end Go.Fw
namespace Go.Fw
open Go
variable {P:Program} {w0:World} {M:Nat->Prop} {T:Ext} {γ γ':Nat->Value} {st:St} {a:Act} {w w':World} {Θ:jr} {Γ:kR}
def ad3(args:List Arg)(γ:Nat->Value)(o:Nat):Option Value:=match dF args o with|some (.var _)=>some (γ o)|_=>none
theorem anZ{args:List Arg}{o:Nat}{cs:List Cell}(h:dF args o=some (.var cs)):o%64=48:=by
 unfold dF at h;split at h
 .split at h<;>cases h
 .split at h
  .next hm=>exact avs hm
  .cases h
 .cases h
def VQ(args:List Arg)(γ:Nat->Value)(S:Nat->Prop):Ext where
 S:=λb=>S b\/uy (dF args) γ b
 N:=ad3 args γ
 n48:=by
  intro p v h;unfold ad3 at h;split at h
  .next cs hc=>exact anZ hc
  .cases h
theorem wS.get{X:V}:∀(as:List Arg)(vs:List Value)(i:Nat),wS X i as vs->as.length=vs.length/\∀(j:Nat)(b:Arg),as[j]? =some b->∃v,vs[j]? =some v/\KY X (i+j) b v
 |[],[],_,_=>⟨rfl,λj b h=>amA⟩
 |x::as,v::vs,i,⟨h1,h2⟩=>by
  obtain⟨g1,g2⟩:=wS.get as vs (i+1) h2;refine⟨by simp[g1],λj b hb=>?_⟩;cases j with
  |zero=>simp at hb;subst hb;exact⟨v,rfl,h1⟩
  |succ j=>
   obtain⟨u,hu,hr⟩:=g2 j b (by simpa using hb);exact⟨u,apn,by rw[show i+(j+1)=i+1+j from abn];exact hr⟩
 |[],_::_,_,H|_::_,[],_,H=>afM
theorem KY.av{X:V}(i:Nat):∀(c:Arg)(v:Value),KY X i c v->aT X (c.avX i) v
 |.own _ _ _,_,h=>h
 |.ptr _,_,h=>h
 |.sv _,_,h|.kp _,_,h|.fn _ _,_,h=>h
theorem abL{args:List Arg}{vs:Array Value}{S:Nat->Prop}(n:Nat)(hn:args.length<=n)
 (h:wS ⟨w,w.heap.size,S,γ,dF args⟩ 0 args vs.toList)
 (ho:∀o x,dF args o=some x->bn ⟨w,w.heap.size,S,γ,dF args⟩ o x/\∀b,blk (γ o)=some b->b<w.heap.size)
 (hs:∀o x q y b,dF args o=some x->dF args q=some y->o≠q->blk (γ o)=some b->blk (γ q)≠some b):
 Rel w (uy (dF args) γ) (VQ args γ S) γ (D5 n args) {tmps:=vs++Array.replicate (n-vs.size) undef,defers:=[]} w:=by
 obtain⟨hl0,hget⟩:=wS.get _ _ 0 h;have hl:vs.size=args.length:=by simpa using hl0.symm
 have le:V.le ⟨w,w.heap.size,S,γ,dF args⟩ ⟨w,w.heap.size,(VQ args γ S).S,γ,dF args⟩:=
  ⟨avt _,λb hb=>⟨⟨hb.1,λhlt=>.inl (hb.2.1 hlt),hb.2.2⟩,rfl⟩,λo cs hx=>⟨⟨cs,hx⟩,rfl⟩,λo e r l fr hx=>⟨⟨l,fr,hx⟩,rfl⟩⟩
 refine⟨λb hb=>.inr hb,rfl,?_,rfl,rfl,rfl,avt _,λ_ _ _=>rfl,λt=>?_,λo x hx=>bn.mono le o x (λ_ _=>rfl) rfl (ho o x hx).1,λo x b hx hb=>⟨(ho o x hx).2 b hb,.inr ⟨o,x,hx,hb⟩⟩,λo x p y b hx hy hop hb=>hs o x p y b hx hy hop hb,λo v cs hN hx=>?_⟩
 .simp[D5];omega
 .simp only[D5];cases ha:args[t]? with
  |none=>trivial
  |some v=>
   obtain⟨u,hu,hr⟩:=hget t v ha;have:(vs++Array.replicate (n-vs.size) undef).getD t undef=u:=by
    have hlt:t<args.length:=by
     rcases avN t args.length with h'|h'
     .exact h'
     .rw[aww h']at ha;cases ha
    have hlt':t<vs.size:=abn;rw[axp,axu hlt'];have:vs[t]? =some u:=apn;rw[this];rfl
   rw[this];rw[avV]at hr;exact aT.mono le _ _ (KY.av t v u hr)
 .have hx':dF args o=some (.var cs):=hx;have hN':ad3 args γ o=some v:=hN;unfold ad3 at hN';rw[hx']at hN';exact Option.some.inj hN'
def AW(a a':Arg):Prop:=
 (∃e r l,a=.own e r l/\a'=.own e r l)\/(∃cs cs',a=.ptr cs/\a'=.ptr cs'/\∀(X:V) vs,ai X cs vs->ai X cs' vs)\/
 ((∀(X:V) v,aT X a.av v->aT X a'.av v)/\(∀i,a.avX i=a.av)/\(∀i,a'.avX i=a'.av)/\(∀e r l,a≠ .own e r l)/\(∀cs,a≠ .ptr cs)/\(∀e r l,a'≠ .own e r l)/\(∀cs,a'≠ .ptr cs))
theorem iG.alq{s:iG}{x:Arg}{d:s.den}(h:s.read x=some d):AW x (s.val d):=by
 refine .inr (.inr ⟨λX v hv=>?_,?_⟩)
 .have hx:oC X x v:=by
   cases x with
   |sv _|kp _|fn _ _=>exact hv
   |own _ _ _|ptr _=>cases s<;>simp[iG.read]at h
  exact oC.av _ _ (iG.weak s x d v h hx)
 .cases x<;>cases s<;>first
   |(simp[iG.read]at h;done)
   |exact⟨λ_=>rfl,λ_=>rfl,(λ_ _ _ e=>ahB),(λ_ e=>ahB),(λ_ _ _ e=>ahB),(λ_ e=>ahB)⟩
theorem iJ.alq{s:iJ}{x:Arg}{d:s.den}(h:s.read x=some d):AW x (s.val d):=by
 unfold iJ.read at h;split at h
 .exact iG.alq h
 .next e r f s l=>
  split at h
  .next hb=>
   split at h
   .next hs=>cases h;have he:=avs hb;subst he;have hsr:=ax.eq_of_beq s r hs;subst hsr;exact .inl ⟨e,s,l,rfl,rfl⟩
   .cases h
  .cases h
 .next l cs=>exact .inr (.inl ⟨cs,_,rfl,rfl,λX vs hc=>DX _ _ _ _ h hc⟩)
 .cases h
theorem JW:∀{l:List iJ}{xs:List Arg}{d:jw l},iR l xs=some d->(rV l d).length=xs.length/\∀(i:Nat)(a:Arg),xs[i]? =some a->∃a',(rV l d)[i]? =some a'/\AW a a'
 |[],[],_,_=>⟨rfl,λi a h=>amA⟩
 |s::r,x::xs,d,h=>by
  rw[iR]at h;split at h
  .next a b h1 h2=>
   cases h;obtain⟨g1,g2⟩:=JW h2;refine⟨by simp[rV,g1],λi c hc=>?_⟩;cases i with
   |zero=>simp at hc;subst hc;exact⟨_,rfl,iJ.alq h1⟩
   |succ i=>obtain⟨c',k1,k2⟩:=g2 i c asH;exact⟨c',by simpa[rV]using k1,k2⟩
  .cases h
 |[],_::_,_,h=>aqN
 |_::_,[],_,h=>aqN
theorem NH{args:List Arg}{o:Nat}(h:∀b,args[o / 64]? =some b->(∀e r l,b≠ .own e r l)/\∀cs,b≠ .ptr cs):dF args o=none:=by
 unfold dF;split
 .next e r l ha=>exact((h _ ha).1 e r l rfl).elim
 .next cs ha=>exact((h _ ha).2 cs rfl).elim
 .rfl
theorem Um{sh:List iJ}{args:List Arg}{x:jw sh}(h:iR sh args=some x)(n:Nat):Covers (D5 n (rV sh x)) (D5 n args):=by
 obtain⟨hl,hget⟩:=JW h;refine⟨rfl,λt X v hv=>?_,λo=>?_⟩
 .simp only[D5]at hv ⊢;cases ha:args[t]? with
  |none=>
   have:(rV sh x)[t]? =none:=by rw[ayz]at ha ⊢;omega
   rw[this];trivial
  |some b=>
   obtain⟨b',hb',hw⟩:=hget t b ha;rw[ha]at hv;rw[hb'];dsimp only at hv ⊢;rcases hw with⟨e,r,l,rfl,rfl⟩|⟨cs,cs',rfl,rfl,_⟩|⟨hw,e1,e2,_⟩
   .exact hv
   .exact hv
   .rw[e1]at hv;rw[e2];exact hw X v hv
 .show(dF (rV sh x) o=none/\dF args o=none)\/∃y y',dF args o=some y/\dF (rV sh x) o=some y'/\Hz y y';cases ha:args[o / 64]? with
  |none=>
   have h2:(rV sh x)[o / 64]? =none:=by rw[ayz]at ha ⊢;omega
   exact .inl ⟨NH (by rw[h2];intro b hb;cases hb),NH (by rw[ha];intro b hb;cases hb)⟩
  |some b=>
   obtain⟨b',hb',hw⟩:=hget _ b ha;rcases hw with⟨e,r,l,rfl,rfl⟩|⟨cs,cs',rfl,rfl,hc⟩|⟨_,_,_,n1,n2,n3,n4⟩
   .unfold dF;rw[ha,hb'];dsimp only;cases hm:Nat.beq (o%64) 49 with
    |true=>exact .inr ⟨_,_,rfl,rfl,.inr ⟨e,r,l,false,false,rfl,rfl,id⟩⟩
    |false=>exact .inl ⟨rfl,rfl⟩
   .unfold dF;rw[ha,hb'];dsimp only;cases hm:Nat.beq (o%64) 48 with
    |true=>exact .inr ⟨_,_,rfl,rfl,.inl ⟨cs,cs',rfl,rfl,hc⟩⟩
    |false=>exact .inl ⟨rfl,rfl⟩
   .exact .inl ⟨NH (by rw[hb'];intro c hc;cases hc;exact⟨n3,n4⟩),NH (by rw[ha];intro c hc;cases hc;exact⟨n1,n2⟩)⟩
theorem Y9(a b:List (Nat×aB))(p:Nat):look (a++b) p=match look b p with|some y=>some y|none=>look a p:=by
 induction a with
 |nil=>simp only[awo,look];cases look b p<;>rfl
 |cons x a ih=>obtain⟨o,z⟩:=x;rw[awD,look,ih,look];cases look b p<;>rfl
theorem tX:∀(cs:List fH)(k p:Nat)(x:aB),look (jR k cs).2 p=some x↔∃i e r l fr,p=k+i/\cs[i]? =some (.own e r l fr)/\x=.arr e r l fr
 |[],k,p,x=>by simp[jR,look]
 |c::cs,k,p,x=>by
  rw[jR,Y9];have ih:=tX cs (k+1) p x;constructor
  .intro h;split at h
   .next y hy=>cases h;obtain⟨i,e,r,l,fr,h1,h2,h3⟩:=(tX cs (k+1) p x).1 hy;exact⟨i+1,e,r,l,fr,abn,aiP,h3⟩
   .next hn=>
    cases c with
    |plain c=>simp[fH.take,look]at h
    |own e r l fr=>
     simp only[fH.take,look]at h;split at h
     .next hb=>cases h;exact⟨0,e,r,l,fr,by have:=avs hb;omega,rfl,rfl⟩
     .cases h
  .rintro⟨i,e,r,l,fr,h1,h2,rfl⟩;cases i with
   |succ i=>
    have:=(tX cs (k+1) p (.arr e r l fr)).2 ⟨i,e,r,l,fr,abn,aiP,rfl⟩;rw[this]
   |zero=>
    simp at h2;subst h2;have hn:look (jR (k+1) cs).2 p=none:=by
     cases hl:look (jR (k+1) cs).2 p with
     |none=>rfl
     |some y=>obtain⟨i,_,_,_,_,g1,_⟩:=(tX cs (k+1) p y).1 hl;omega
    rw[hn];have hp:p=k:=abn;subst hp;simp[fH.take,look]
def JX(rs:List (Bool×List fH)):List fH:=rs.flatMap (·.2)
theorem ajD(k:Nat)(x:Bool×List fH):(vU k x).2=(jR k x.2).2:=by
 unfold vU;split
 .next e1 e2=>rw[e2]
 .next e1 e2=>rw[e2]
 .next e1 e2=>rw[e2]
theorem Ak:∀(rs:List (Bool×List fH))(k p:Nat)(x:aB),look (iK k rs).2 p=some x↔∃i e r l fr,p=k+i/\(JX rs)[i]? =some (.own e r l fr)/\x=.arr e r l fr
 |[],k,p,x=>by simp[iK,look,JX]
 |y::rs,k,p,x=>by
  rw[iK,Y9,ajD];have alr:JX (y::rs)=y.2++JX rs:=rfl;constructor
  .intro h;split at h
   .next z hz=>cases h;obtain⟨i,e,r,l,fr,h1,h2,h3⟩:=(Ak rs (k+y.2.length) p x).1 hz;refine⟨y.2.length+i,e,r,l,fr,abn,?_,h3⟩;rw[alr,av1 abn];simpa using h2
   .obtain⟨i,e,r,l,fr,h1,h2,h3⟩:=(tX y.2 k p x).1 h;refine⟨i,e,r,l,fr,h1,?_,h3⟩;rw[alr,awe (avG.1 h2).1];exact h2
  .rintro⟨i,e,r,l,fr,h1,h2,rfl⟩;rw[alr]at h2;rcases avN i y.2.length with hlt|hge
   .rw[awe hlt]at h2;have hn:look (iK (k+y.2.length) rs).2 p=none:=by
     cases hl:look (iK (k+y.2.length) rs).2 p with
     |none=>rfl
     |some z=>obtain⟨j,_,_,_,_,g1,_⟩:=(Ak rs (k+y.2.length) p z).1 hl;omega
    rw[hn];exact(tX y.2 k p _).2 ⟨i,e,r,l,fr,h1,h2,rfl⟩
   .rw[av1 hge]at h2;have:=(Ak rs (k+y.2.length) p (.arr e r l fr)).2 ⟨i-y.2.length,e,r,l,fr,abn,h2,rfl⟩;rw[this]
end Go.Fw
namespace Go.Fw
open Go
set_option linter.unusedVariables false
variable {P:Program} {w0:World} {M:Nat->Prop} {T:Ext} {γ γ':Nat->Value} {st:St} {a:Act} {w w':World} {Θ:jr} {Γ:kR}
def RF(Y:V)(c:fH)(v:Value)(n:Option Nat):Prop:=
 match c with
 |.plain x=>aS Y x v/\x.refs=[]
 |.own e r l fr=>0<r.len/\((∃o g,n=some o/\Y.ah o=some (.arr e r l g)/\Lh fr g=true/\v=Y.γ o/\v.oneCell'=true)\/(l=[]/\v=.slice none 0 0))
def D6(Y:V):List fH->List Value->List (Option Nat)->Prop
 |[],[],[]=>True
 |c::cs,v::vs,n::ns=>RF Y c v n/\D6 Y cs vs ns
 |_,_,_=>False
theorem D6.append{Y:V}:∀(cs:List fH)(vs:List Value)(ns:List (Option Nat))(ds:List fH)(us:List Value)(ms:List (Option Nat)),D6 Y cs vs ns->D6 Y ds us ms->D6 Y (cs++ds) (vs++us) (ns++ms)
 |[],[],[],_,_,_,_,h=>h
 |_::cs,_::vs,_::ns,ds,us,ms,⟨h1,h2⟩,h=>⟨h1,D6.append cs vs ns ds us ms h2 h⟩
theorem D6.length{Y:V}:∀(cs:List fH)(vs:List Value)(ns:List (Option Nat)),D6 Y cs vs ns->cs.length=vs.length
 |[],[],[],_=>rfl
 |_::cs,_::vs,_::ns,⟨_,h2⟩=>by simp[D6.length cs vs ns h2]
theorem D6.get{Y:V}:∀(cs:List fH)(vs:List Value)(ns:List (Option Nat))(i:Nat)(c:fH),D6 Y cs vs ns->cs[i]? =some c->∃v n,vs[i]? =some v/\ns[i]? =some n/\RF Y c v n
 |[],[],[],i,c,_,h=>amA
 |x::cs,v::vs,n::ns,0,c,⟨h1,_⟩,h=>by simp at h;subst h;exact⟨v,n,rfl,rfl,h1⟩
 |x::cs,v::vs,n::ns,i+1,c,⟨_,h2⟩,h=>by obtain⟨u,m,g1,g2,g3⟩:=D6.get cs vs ns i c h2 acG;exact⟨u,m,by simpa using g1,by simpa using g2,g3⟩
theorem iq.afx(c:iq)(x:Cell)(d:c.den)(h:c.read x=some d)(hx:x.refs=[]):(c.cell d).refs=[]:=by cases c<;>cases x<;>first|rfl|(simp[iq.read]at h;done)|(cases hx)
theorem RC.akm{Y:V}(hst:Y.ah=st.ah)(hpos:∀o e r l g,st.ah o=some (.arr e r l g)->0<r.len):∀(c:RC)(x:Cell)(d:c.den)(v:Value),c.read st x=some d->aS Y x v->RF Y (c.alp d) v (c.name x):=by
 intro c x d v hr hv;cases c with
 |c s=>
  rw[RC.read]at hr;split at hr
  .next hx=>exact⟨iq.weak s x d v hr hv,iq.afx s x d hr hx⟩
  .cases hr
 |own e r fr=>
  cases x with
  |ref o=>
   simp only[RC.read]at hr;split at hr
   .next f s l g ho=>
    split at hr
    .next hb=>
     split at hr
     .next hs=>cases hr;rw[avo]at hb;have he:=avs hb.1;subst he;have hsr:=ax.eq_of_beq s r hs;subst hsr;exact⟨hpos _ _ _ _ _ ho,.inl ⟨o,g,rfl,by rw[hst];exact ho,hb.2,hv.2.1,hv.2.2⟩⟩
     .cases hr
    .cases hr
   .cases hr
  |nil=>
   simp only[RC.read]at hr;split at hr
   .next hb=>cases hr;exact⟨avT Nat.zero_lt_one (by simpa[axL]using hb),.inr ⟨rfl,hv⟩⟩
   .cases hr
  |_=>simp[RC.read]at hr
theorem abM{Y:V}(hst:Y.ah=st.ah)(hpos:∀o e r l g,st.ah o=some (.arr e r l g)->0<r.len):∀(l:List RC)(xs:List Cell)(d:abJ l)(vs:List Value),PK st l xs=some d->ai Y xs vs->D6 Y (ad1 l d) vs (ad2 l xs)
 |[],[],_,[],_,_=>trivial
 |c::r,x::xs,d,v::vs,h,⟨h1,h2⟩=>by
  rw[PK]at h;split at h
  .next a b g1 g2=>cases h;exact⟨RC.akm hst hpos c x a v g1 h1,abM hst hpos r xs b vs g2 h2⟩
  .cases h
 |[],_::_,_,_,h,_=>by simp[PK]at h
 |_::_,[],_,_,h,_=>by simp[PK]at h
theorem pR.ahR{Y:V}(hst:Y.ah=st.ah)(hpos:∀o e r l g,st.ah o=some (.arr e r l g)->0<r.len):∀(s:pR)(x:SV)(d:s.den)(v:Value),s.read st x=some d->dM Y x v->D6 Y (s.out d).2 v.cells.toList (s.names x)
 |.one c,.one x,d,v,h,hv=>by
  rw[FV v (aS.one x v hv)];exact⟨RC.akm hst hpos c x d v h hv,trivial⟩
 |.agg l,.agg xs,d,v,h,⟨vs,hv,hc⟩=>by
  rw[hv];exact abM hst hpos l xs d _ h hc
 |.one _,.agg _,_,_,h,_|.agg _,.one _,_,_,h,_=>by simp[pR.read]at h
theorem abN{Y:V}(hst:Y.ah=st.ah)(hpos:∀o e r l g,st.ah o=some (.arr e r l g)->0<r.len):∀(l:List pR)(xs:List SV)(d:lT l)(vs:List Value),BV st l xs=some d->dN Y xs vs->
 D6 Y (JX (iQ l d)) (vs.flatMap λv=>v.cells.toList) (AO l xs)
 |[],[],_,[],_,_=>trivial
 |s::r,x::xs,d,v::vs,h,⟨h1,h2⟩=>by
  rw[BV]at h;split at h
  .next a b g1 g2=>cases h;exact D6.append _ _ _ _ _ _ (pR.ahR hst hpos s x a v g1 h1) (abN hst hpos r xs b vs g2 h2)
  .cases h
 |[],_::_,_,_,h,_=>by simp[BV]at h
 |_::_,[],_,_,h,_=>by simp[BV]at h
def Go1(Z:V)(k:Nat)(c:fH)(v:Value):Prop:=aS Z (c.take k).1 v
def Hf(Z:V):Nat->List fH->List Value->Prop
 |_,[],[]=>True
 |k,c::cs,v::vs=>Go1 Z k c v/\Hf Z (k+1) cs vs
 |_,_,_=>False
theorem Hf.of{Z:V}:∀(cs:List fH)(vs:List Value)(k:Nat),cs.length=vs.length->(∀i c v,cs[i]? =some c->vs[i]? =some v->Go1 Z (k+i) c v)->Hf Z k cs vs
 |[],[],_,_,_=>trivial
 |c::cs,v::vs,k,hl,h=>⟨h 0 c v rfl rfl,Hf.of cs vs (k+1) (by simpa using hl) λi c' v' h1 h2=>by
   have:=h (i+1) c' v' aqv aiP
   rwa [show k+(i+1)=k+1+i from abn]at this⟩
theorem Hf.split{Z:V}:∀(cs:List fH)(vs:List Value)(ds:List fH)(us:List Value)(k:Nat),cs.length=vs.length->Hf Z k (cs++ds) (vs++us)->Hf Z k cs vs/\Hf Z (k+cs.length) ds us
 |[],[],_,_,_,_,h=>⟨trivial,h⟩
 |c::cs,v::vs,ds,us,k,hl,⟨h1,h2⟩=>by obtain⟨g1,g2⟩:=Hf.split cs vs ds us (k+1) (by simpa using hl) h2;exact⟨⟨h1,g1⟩,by rw[show k+(c::cs).length=k+1+cs.length from adK];exact g2⟩
theorem Hf.cells{Z:V}:∀(cs:List fH)(vs:List Value)(k:Nat),Hf Z k cs vs->ai Z (jR k cs).1 vs
 |[],[],_,_=>trivial
 |c::cs,v::vs,k,⟨h1,h2⟩=>⟨h1,Hf.cells cs vs (k+1) h2⟩
theorem pR.go{Y Z:V}:∀(s:pR)(x:SV)(d:s.den)(v:Value)(k:Nat),s.read st x=some d->dM Y x v->Hf Z k (s.out d).2 v.cells.toList->dM Z (vU k (s.out d)).1 v
 |.one c,.one x,d,v,k,h,hv,hg=>by
  rw[FV v (aS.one x v hv)]at hg;exact hg.1
 |.agg l,.agg xs,d,v,k,h,⟨vs,hv,hc⟩,hg=>by
  rw[hv]at hg ⊢;exact⟨vs,rfl,Hf.cells _ _ _ hg⟩
 |.one _,.agg _,_,_,_,h,_,_|.agg _,.one _,_,_,_,h,_,_=>by simp[pR.read]at h
theorem afy{Y Z:V}(hst:Y.ah=st.ah)(hpos:∀o e r l g,st.ah o=some (.arr e r l g)->0<r.len):∀(l:List pR)(xs:List SV)(d:lT l)(vs:List Value)(k:Nat),BV st l xs=some d->dN Y xs vs->
 Hf Z k (JX (iQ l d)) (vs.flatMap λv=>v.cells.toList)->dN Z (iK k (iQ l d)).1 vs
 |[],[],_,[],_,_,_,_=>trivial
 |s::r,x::xs,d,v::vs,k,h,⟨h1,h2⟩,hg=>by
  rw[BV]at h;split at h
  .next a b g1 g2=>cases h;have hl:=D6.length _ _ _ (pR.ahR hst hpos s x a v g1 h1);obtain⟨k1,k2⟩:=Hf.split _ _ _ _ k hl hg;exact⟨pR.go s x a v k g1 h1 k1,afy hst hpos r xs b vs _ g2 h2 k2⟩
  .cases h
 |[],_::_,_,_,_,h,_,_=>by simp[BV]at h
 |_::_,[],_,_,_,h,_,_=>by simp[BV]at h
theorem Za:∀(l:List iq)(xs:List Cell)(d:lW l),jS l xs=some d->xs.flatMap Cell.refs=[]->(iD l d).flatMap Cell.refs=[]
 |[],[],_,_,_=>rfl
 |c::r,x::xs,d,h,hx=>by
  rw[jS]at h;split at h
  .next a b g1 g2=>cases h;rw[awG,awj]at hx;show(c.cell a::iD r b).flatMap Cell.refs=[];rw[awG,iq.afx c x a g1 hx.1,Za r xs b g2 hx.2,avU]
  .cases h
 |[],_::_,_,h,_=>by simp[jS]at h
 |_::_,[],_,h,_=>by simp[jS]at h
theorem JY:∀(sh:List iJ)(i:Nat)(b:lg sh),I4 st i sh=some b->∀(j:Nat)(e:Eff),(jT sh b)[j]? =some e->
 e=.lose\/∃l cs cs0,sh[j]? =some (.ptr l)/\e=.var cs/\st.ah ((i+j)*64+48)=some (.var cs0)/\cs0.flatMap Cell.refs=[]/\cs.flatMap Cell.refs=[]/\∀(X:V) vs,ai X cs0 vs->ai X cs vs
 |[],_,_,_,j,e,he=>by simp[jT]at he
 |.ptr l::r,i,b,h,j,e,he=>by
  rw[I4]at h;split at h
  .next cs b' hx hb=>
   split at h
   .next a hr ha=>
    cases h;cases j with
    |zero=>
     simp[jT]at he;subst he;exact .inr ⟨l,_,cs,rfl,rfl,by simpa using hx,hr,Za _ _ _ ha hr,λX vs hc=>DX _ _ _ _ ha hc⟩
    |succ j=>
     rcases JY r (i+1) b' hb j e (by simpa[jT]using he)with h|⟨l,cs',cs0,h1,h2,h3,h4⟩
     .exact .inl h
     .exact .inr ⟨l,cs',cs0,aqv,h2,by rw[show i+(j+1)=i+1+j from abn];exact h3,h4⟩
   .cases h
  .cases h
 |.p _::r,i,b,h,j,e,he|.own _ _::r,i,b,h,j,e,he=>by
  rw[I4]at h;cases j with
  |zero=>simp[jT]at he;exact .inl he.symm
  |succ j=>
   rcases JY r (i+1) b h j e (by simpa[jT]using he)with h|⟨l,cs',cs0,h1,h2,h3,h4⟩
   .exact .inl h
   .exact .inr ⟨l,cs',cs0,aqv,h2,by rw[show i+(j+1)=i+1+j from abn];exact h3,h4⟩
theorem abO:∀{sh:List iJ}{xs:List Arg}{d:jw sh},iR sh xs=some d->∀(j:Nat)(l:List iq),sh[j]? =some (.ptr l)->∃cs,xs[j]? =some (.ptr cs)
 |[],[],_,_,j,l,h=>amA
 |s::r,x::xs,d,h,j,l,hj=>by
  rw[iR]at h;split at h
  .next a b h1 h2=>
   cases j with
   |zero=>
    simp at hj;subst hj;cases x with
    |ptr cs=>exact⟨cs,rfl⟩
    |_=>simp[iJ.read]at h1
   |succ j=>obtain⟨cs,hc⟩:=abO h2 j l ana;exact⟨cs,asH⟩
  .cases h
 |[],_::_,_,h,_,_,_=>aqN
 |_::_,[],_,h,_,_,_=>aqN
theorem amH{sh:List iJ}{b:lg sh}(hb:I4 st 0 sh=some b){q:Nat}{y:aB}(h:mr (jT sh b) q=some y):
 q%64=48/\∃l cs cs0,sh[q / 64]? =some (.ptr l)/\y=.var cs/\st.ah q=some (.var cs0)/\cs0.flatMap Cell.refs=[]/\cs.flatMap Cell.refs=[]/\∀(X:V) vs,ai X cs0 vs->ai X cs vs:=by
 unfold mr at h;split at h
 .next e r l he=>rcases JY sh 0 b hb _ _ he with h'|⟨_,_,_,_,h',_⟩<;>cases h'
 .next cs he=>
  split at h
  .next hm=>
   have hm':=avs hm;cases h;rcases JY sh 0 b hb _ _ he with h'|⟨l,cs',cs0,h1,h2,h3,h4⟩
   .cases h'
   .cases h2;refine⟨hm',l,_,cs0,h1,rfl,?_,h4⟩;rw[show q=(0+q / 64)*64+48 from abn];exact h3
  .cases h
 .cases h
def iJ.rE:(s:iJ)->s.den->Prop
 |.p s,x=>s.rE x
 |.own _ r,(l:List r.den)=>∀x∈l,r.rE x
 |.ptr l,x=>XT l x
def Iz:(l:List iJ)->jw l->Prop
 |[],_=>True
 |s::r,x=>s.rE x.1/\Iz r x.2
theorem iG.XU{X:V}(s:iG)(x:Arg)(d:s.den)(v:Value)(h:s.read x=some d)(hr:oC X x v):s.rE d:=
 (BU (X:=X) [s] (d,()) [v] ⟨iG.weak s x d v h hr,trivial⟩).1
theorem VR{X:V}{args:List Arg}(ho:∀o x,dF args o=some x->bn X o x):∀(sh:List iJ)(xs:List Arg)(d:jw sh)(vs:List Value)(i:Nat),(∀j a,xs[j]? =some a->args[i+j]? =some a)->
 iR sh xs=some d->wS X i xs vs->Iz sh d
 |[],[],_,_,_,_,_,_=>trivial
 |s::r,x::xs,d,v::vs,i,hj,h,⟨hv,hvs⟩=>by
  rw[iR]at h;split at h
  .next a b h1 h2=>
   cases h;refine⟨?_,VR ho r xs b vs (i+1) (λj c hc=>by have:=hj (j+1) c asH;rwa [show i+(j+1)=i+1+j from abn]at this) h2 hvs⟩;have hx:args[i]? =some x:=hj 0 x rfl;cases s with
   |p s=>
    have h1':s.read x=some a:=by simpa[iJ.read]using h1
    refine iG.XU (X:=X) s x a v h1' ?_;cases x with
    |own _ _ _|ptr _=>cases s<;>simp[iG.read]at h1'
    |_=>exact hv
   |own e r'=>
    cases x with
    |own f s' l=>
     have h1':(match Nat.beq e f with|true=>if h:s'.beq r'=true then some (tV h l)else none|false=>none)=some a:=h1;split at h1'
     .split at h1'
      .next hb hs=>
       cases h1';have hsr:=ax.eq_of_beq s' r' hs;subst hsr;have o6:dF args (i*64+49)=some (.arr f s' l false):=by unfold dF;rw[show(i*64+49) / 64=i from abn,hx];dsimp only;rw[show(i*64+49)%64=49 from abn]
       obtain⟨us,_,_,_,hrow⟩:=ho _ _ o6;intro y hy;have hy':y∈l:=hy;obtain⟨j,hj1,hj2⟩:=axg.1 hy';exact aJ.rE s' _ _ (hrow j y (by rw[avv hj1,hj2]))
      .cases h1'
     .cases h1'
    |_=>simp[iJ.read]at h1
   |ptr l=>
    cases x with
    |ptr cs=>
     have h1':jS l cs=some a:=h1;have o6:dF args (i*64+48)=some (.var cs):=by unfold dF;rw[show(i*64+48) / 64=i from abn,hx];dsimp only;rw[show(i*64+48)%64=48 from abn]
     obtain⟨_,arr,_,_,_,hc⟩:=ho _ _ o6;exact IZ l a _ (DX _ _ _ _ h1' hc)
    |_=>simp[iJ.read]at h1
  .cases h
 |[],_::_,_,_,_,_,h,_=>aqN
 |_::_,[],_,_,_,_,h,_=>aqN
theorem Ju:∀(l:List iJ)(d:jw l),(rV l d).length=l.length
 |[],_=>rfl
 |_::r,d=>by simp[rV,Ju r d.2]
theorem Out.an0(rs:List (Bool×List fH))(k:Nat):((⟨rs,none⟩:Out).take k).2=(iK k rs).2:=by
 unfold Out.take;dsimp only;split
 .next h=>rw[h]
 .next h=>rw[h]
theorem Out.an1(rs:List (Bool×List fH))(k:Nat):((⟨rs,none⟩:Out).take k).1=(match (iK k rs).1 with|[v]=>AV.sv v|vs=>.mJ vs):=by
 unfold Out.take;dsimp only;split
 .next h=>rw[h]
 .next vs δ hne h=>
  rw[h];dsimp only;rcases vs with _|⟨v,_|⟨v2,r⟩⟩
  .rfl
  .exact(hne v rfl).elim
  .rfl
theorem atb{args:List Arg}{S:Nat->Prop}{sh:List iJ}{bI:List pR}{x:jw sh}(hx:iR sh args=some x){d:lT bI}{b:lg sh}{k:Nat}{vs:List SV}{us:List Value}
 (hR:Rel w (uy (dF args) γ) (VQ args γ S) γ' st a w') (hrs:dN (aj w (VQ args γ S) γ' st w') vs us) (hnd:yQ (AO bI vs)=true) (hrd:BV st bI vs=some d) (hbk:I4 st 0 sh=some b)
 (hap:∀o x,look ((⟨iQ bI d,none⟩:Out).take k).2 o=some x->mr (jT sh b) o=none):
 ∃γ2,aT ⟨w',w.heap.size,qj S args (jT sh b) γ,γ2,look ((⟨iQ bI d,none⟩:Out).take k).2⟩ ((⟨iQ bI d,none⟩:Out).take k).1 (if h:us.toArray.size=1 then us.toArray[0]else .tuple us.toArray)/\
  (∀o x,look ((⟨iQ bI d,none⟩:Out).take k).2 o=some x->bn ⟨w',w.heap.size,qj S args (jT sh b) γ,γ2,look ((⟨iQ bI d,none⟩:Out).take k).2⟩ o x/\
    ∀b',blk (γ2 o)=some b'->b'<w'.heap.size/\(w.heap.size<=b'\/uy (dF args) γ b')/\∀q y,mr (jT sh b) q=some y->blk (γ q)≠some b')/\
  (∀o x q y b',look ((⟨iQ bI d,none⟩:Out).take k).2 o=some x->look ((⟨iQ bI d,none⟩:Out).take k).2 q=some y->o≠q->blk (γ2 o)=some b'->blk (γ2 q)≠some b')/\
  (∀o x,mr (jT sh b) o=some x->γ2 o=γ o/\bn ⟨w',w.heap.size,qj S args (jT sh b) γ,γ2,look ((⟨iQ bI d,none⟩:Out).take k).2⟩ o x):=by
 rw[Out.an0]at hap ⊢;rw[Out.an1]
 skip
 let Y:V:=aj w (VQ args γ S) γ' st w'
 let fv:List Value:=us.flatMap λv=>v.cells.toList
 let aH:=jT sh b
 let γ2:Nat->Value:=λp=>match mr aH p with|some _=>γ p|none=>fv.getD (p-k) undef
 let Z:V:=⟨w',w.heap.size,qj S args aH γ,γ2,look (iK k (iQ bI d)).2⟩
 have hpos:∀o e r l g,st.ah o=some (.arr e r l g)->0<r.len:=λo e r l g ho=>by obtain⟨_,_,h,_⟩:=hR.ah o _ ho;exact h
 have hF:D6 Y (JX (iQ bI d)) fv (AO bI vs):=abN (st:=st) rfl hpos bI vs d us hrd hrs;have hbq:∀q y,mr aH q=some y->γ' q=γ q/\∃cs cs0,y=.var cs/\st.ah q=some (.var cs0)/\cs0.flatMap Cell.refs=[]/\cs.flatMap Cell.refs=[]/\∀(X:V) vs,ai X cs0 vs->ai X cs vs:=by
  intro q y hq;obtain⟨hm,l,cs,cs0,h1,h2,h3,h4,h5,h6⟩:=amH hbk hq;refine⟨?_,cs,cs0,h2,h3,h4,h5,h6⟩;obtain⟨ci,hci⟩:=abO hx _ l h1;have ho:dF args q=some (.var ci):=by unfold dF;rw[hci];dsimp only;rw[hm]
  have hN:(VQ args γ S).N q=some (γ q):=by show ad3 args γ q=_;unfold ad3;rw[ho]
  exact hR.pin q _ _ hN h3
 have hG:∀p X,look (iK k (iQ bI d)).2 p=some X->∃i e r l fr,p=k+i/\(JX (iQ bI d))[i]? =some (.own e r l fr)/\X=.arr e r l fr/\0<r.len/\
  ((∃o g,(AO bI vs)[i]? =some (some o)/\st.ah o=some (.arr e r l g)/\Lh fr g=true/\γ2 p=γ' o/\(γ2 p).oneCell'=true)\/(l=[]/\γ2 p=.slice none 0 0)):=by
  intro p X hp;obtain⟨i,e,r,l,fr,h1,h2,h3⟩:=(Ak _ k p X).1 hp;obtain⟨v,n,g1,g2,hr,hv⟩:=D6.get _ _ _ i _ hF h2;have hγ:γ2 p=v:=by show(match mr aH p with|some _=>γ p|none=>fv.getD (p-k) undef)=v;rw[hap p X hp];dsimp only;rw[h1,show k+i-k=i from abn,avr,g1];rfl
  refine⟨i,e,r,l,fr,h1,h2,h3,hr,?_⟩;rcases hv with⟨o,g,hn,ho,hb,hv,h1c⟩|⟨hl,hv⟩
  .exact .inl ⟨o,g,by rw[g2,hn],ho,hb,hγ.trans hv,by rw[hγ];exact h1c⟩
  .exact .inr ⟨hl,hγ.trans hv⟩
 have Rh:∀b',Y.foot b'->Z.foot b':=by
  intro b' hb';refine⟨hb'.1,λhlt=>⟨hb'.2.1 hlt,λq y hq=>?_⟩,λp X hp=>?_⟩
  .obtain⟨hγ,cs,cs0,_,h3,_⟩:=hbq q y hq;rw[← hγ];exact hb'.2.2 q _ h3
  .obtain⟨i,e,r,l,fr,_,_,_,_,hc⟩:=hG p X hp;show blk (γ2 p)≠some b';rcases hc with⟨o,g,_,ho,_,hγ,_⟩|⟨_,hγ⟩
   .rw[hγ];exact hb'.2.2 o _ ho
   .rw[hγ];intro h;cases h
 have amI:∀fr b',Y.cu fr b'->Z.cu fr b':=λfr b' h=>⟨Rh b' h.1,h.2⟩;have hgo:Hf Z k (JX (iQ bI d)) fv:=by
  refine Hf.of _ _ _ (D6.length _ _ _ hF) λi c v hc hv=>?_;obtain⟨v',n,g1,g2,g3⟩:=D6.get _ _ _ i c hF hc;rw[hv]at g1;cases g1;cases c with
  |plain x=>
   exact(EJ (Y:=Y) (Z:=Z) rfl amI [x] [v] (by simpa using g3.2) ⟨g3.1,trivial⟩).1
  |own e r l fr=>
   have hp:look (iK k (iQ bI d)).2 (k+i)=some (.arr e r l fr):=(Ak _ k _ _).2 ⟨i,e,r,l,fr,rfl,hc,rfl⟩;have hγ:γ2 (k+i)=v:=by show(match mr aH (k+i)with|some _=>γ (k+i)|none=>fv.getD (k+i-k) undef)=v;rw[hap _ _ hp];dsimp only;rw[show k+i-k=i from abn,avr,hv];rfl
   refine⟨⟨e,r,l,fr,hp⟩,hγ.symm,?_⟩;rcases g3.2 with⟨_,_,_,_,_,_,h⟩|⟨_,h⟩
   .exact h
   .rw[h];rfl
 have hsv:dN Z (iK k (iQ bI d)).1 us:=afy (st:=st) (Y:=Y) rfl hpos bI vs d us k hrd hrs hgo;refine⟨γ2,?_,λp X hp=>?_,λp X q X' b' hp hq hne hb1 hb2=>?_,λq y hq=>?_⟩
 .have hl:=dN.length _ _ hsv
  match hm:(iK k (iQ bI d)).1,us,hsv,hl with
  |[v],[u],hk,_=>exact hk.1
  |[],[],hk,_=>exact⟨_,acA,hk⟩
  |v::v2::r,u::u2::us,hk,hl=>exact⟨_,acA,hk⟩
  |[],_::_,hk,h4|_::_,[],hk,h4|[_],_::_::_,hk,h4|_::_::_,[_],hk,h4=>simp at h4
 .obtain⟨i,e,r,l,fr,_,_,rfl,hr,hc⟩:=hG p X hp;rcases hc with⟨o,g,_,ho,hb,hγ,_⟩|⟨rfl,hγ⟩
  .have hO:bn Y o (.arr e r l g):=hR.ah o _ ho;have hold:∀b',blk (γ' o)=some b'->fr=true->w.heap.size<=b':=by intro b' hb' hfr;subst hfr;have hg:g=true:=hb;subst hg;obtain⟨_,_,_,hn,_⟩:=hO;exact hn b' hb' rfl
   refine⟨bn.XP (Y:=Y) (Z:=Z) hO hγ rfl (λb' hb'=>⟨Rh b' hb'.1,λhfr=>hb'.2 ?_⟩) hold,λb' hb'=>?_⟩
   .subst hfr;exact hb
   .rw[hγ]at hb';obtain⟨h1,h2⟩:=hR.lt o _ b' ho hb';refine⟨h1,h2,λq y hq=>?_⟩;obtain⟨hγq,cs,cs0,_,h3,_⟩:=hbq q y hq;rw[← hγq];refine hR.sep o _ q _ b' ho h3 ?_ hb';intro e;subst e;rw[ho]at h3;cases h3
  .refine⟨⟨[],⟨acA,.inl ⟨hγ,rfl⟩⟩,hr,(λb' hb'=>by have h0:blk (γ2 p)=some b':=hb';rw[hγ]at h0;cases h0),λi x hi=>arA⟩,λb' hb'=>by rw[hγ]at hb';cases hb'⟩
 .obtain⟨i,e,r,l,fr,hi,_,_,_,hc⟩:=hG p X hp;obtain⟨j,e',r',l',fr',hj,_,_,_,hc'⟩:=hG q X' hq;rcases hc with⟨o,g,hn,ho,_,hγ,_⟩|⟨_,hγ⟩
  .rcases hc' with⟨o',g',hn',ho',_,Px,_⟩|⟨_,Px⟩
   .rw[hγ]at hb1;rw[Px]at hb2;have:o≠o':=by intro e;subst e;have:=Oy hnd _ _ _ hn hn';omega
    exact hR.sep o _ o' _ b' ho ho' this hb1 hb2
   .rw[Px]at hb2;cases hb2
  .rw[hγ]at hb1;cases hb1
 .obtain⟨hγ,cs,cs0,rfl,h3,h4,h5,h6⟩:=hbq q y hq;have mP:γ2 q=γ q:=by show(match mr aH q with|some _=>γ q|none=>fv.getD (q-k) undef)=γ q;rw[hq]
  refine⟨mP,?_⟩;obtain⟨b',arr,t,k1,k2,k3⟩:=hR.ah q _ h3;refine⟨b',arr,t,?_,k2,EJ (Y:=Y) (Z:=Z) rfl amI _ _ h5 (h6 _ _ k3)⟩;show γ2 q=_;rw[mP,← hγ];exact k1
theorem ad4{G:jX}(hE:EnvB P G Θ Γ)(hm:P.follows .mixedOrders=true){f:FuncId}{fn:Func}{c:Code}(hf:P.funcs[f]? =some fn)(hb:fn.body=some c)(H:Hints)
 {sh:List iJ} {bI:List pR} {F:jw sh->Prop×(lT bI×lg sh->Prop)} (hn:Nat.ble sh.length fn.ntmps=true) (hne:∀x,(F x).1->∃t,(F x).2 t)
 (hwalk:∀x,Iz sh x->(F x).1->F9 Θ Γ H c (ag3 Θ fn.results.toList sh bI (F x).2) (D5 fn.ntmps (rV sh x))):jq P G f (qf sh bI F):=by
 intro args p ρ hcon hp;unfold qf at hcon;split at hcon
 case h_2=>cases hcon
 next x hx=>
 cases hcon;refine⟨hne x hp,λk S γ vs w hG hrep o6 hsep hap=>?_⟩;have hlen:=(JW hx).1;rw[Ju]at hlen;have hn':args.length<=fn.ntmps:=by rw[← hlen];simpa[axL]using hn
 have hin:Iz sh x:=VR (λo X ho=>(o6 o X ho).1) sh args x vs.toList 0 (λj a h=>by rwa [avV]) hx hrep;have hR0:=abL (S:=S) fn.ntmps hn' hrep (λo X ho=>⟨(o6 o X ho).1,λb hb=>((o6 o X ho).2 b hb).1⟩) hsep;have hR1:=hR0.covers (Um hx fn.ntmps);refine calls_of_wp hf hb (VP ⟨hE,hG,λb hb=>?_⟩ hm H c _ _ _ _ _ _ hR1 (hwalk x hin hp) ?_)
 .obtain⟨o,X,ho,hb⟩:=hb;exact((o6 o X ho).2 b hb).2
 intro e s γ' a' w' he hR;have hret:∃(us:List Value)(t:lT bI×lg sh),(fn.results.mapM (IY a'.tmps)).run P w'=.ok us.toArray w'/\(F x).2 t/\∃γ2,
  aT ⟨w',w.heap.size,qj S args (jT sh t.2) γ,γ2,look ((⟨iQ bI t.1,none⟩:Out).take k).2⟩ ((⟨iQ bI t.1,none⟩:Out).take k).1 (if h:us.toArray.size=1 then us.toArray[0]else .tuple us.toArray)/\
  (∀o x',look ((⟨iQ bI t.1,none⟩:Out).take k).2 o=some x'->bn ⟨w',w.heap.size,qj S args (jT sh t.2) γ,γ2,look ((⟨iQ bI t.1,none⟩:Out).take k).2⟩ o x'/\
    ∀b,blk (γ2 o)=some b->b<w'.heap.size/\(w.heap.size<=b\/uy (dF args) γ b)/\∀q y,mr (jT sh t.2) q=some y->blk (γ q)≠some b)/\
  (∀o x' q y b,look ((⟨iQ bI t.1,none⟩:Out).take k).2 o=some x'->look ((⟨iQ bI t.1,none⟩:Out).take k).2 q=some y->o≠q->blk (γ2 o)=some b->blk (γ2 q)≠some b)/\
  (∀o x',mr (jT sh t.2) o=some x'->γ2 o=γ o/\bn ⟨w',w.heap.size,qj S args (jT sh t.2) γ,γ2,look ((⟨iQ bI t.1,none⟩:Out).take k).2⟩ o x'):=by
  have he':(e=.normal\/e=.ret)/\ag3 Θ fn.results.toList sh bI (F x).2 .ret s:=by
   cases e with
   |normal=>exact⟨.inl rfl,he⟩
   |ret=>exact⟨.inr rfl,he⟩
   |_=>exact he.elim
  have he2:=he'.2;simp only[ag3]at he2;split at he2
  .next svs auX=>
   split at he2
   .next vs' hvs'=>
    split at he2
    .next d b hnd hd hb'=>have hRf:=hR.freeze (abK s (AO bI svs));obtain⟨us,hus,hrs⟩:=Ll hE.types hRf _ _ hvs';refine⟨us,(d,b),?_,he2,atb hx hRf hrs hnd hd hb' (hap (d,b) he2)⟩;rw[axV,Sem.run_map,hus];rfl
    .exact he2.elim
   .exact he2.elim
  .exact he2.elim
 obtain⟨us,t,hus,ht,γ2,h1,h2,h3,h4⟩:=hret;have hfin:bodyPost P fn (λe w'=>∃t,(F x).2 t/\Nu S args γ w k ⟨iQ bI t.1,none⟩ (jT sh t.2) e w') .ret a' w':=by refine⟨hR.defers,if h:us.toArray.size=1 then us.toArray[0]else .tuple us.toArray,?_,t,ht,_,γ2,rfl,hR.os,hR.tape,hR.output,hR.grow,hR.kept,h1,h2,h3,h4⟩;rw[Ro,avQ,hus];simp only[awl,awx]
 cases e with
 |normal=>exact hfin
 |ret=>exact hfin
 |_=>exact he.elim
def ag4(rv:List ResultVar)(l:List iq)(K:lW l->Prop)(e:Exit)(st:St):Prop:=
 match e with
 |.normal|.ret=>match rv with
  |[.tmp t]=>match st.tmps t with
   |.bM o off=>match Nat.beq off 0,(st.freeze (ND st)).ah o with
    |true,some (.var cs)=>match cs.flatMap Cell.refs,jS l cs with
     |[],some d=>K d
     |_,_=>False
    |_,_=>False
   |_=>False
  |_=>False
 |_=>False
def loses(sh:List iJ):List Eff:=sh.map λ_=>.lose
def an2(sh:List iJ)(l:List iq)(F:jw sh->Prop×(lW l->Prop)):Dt:=λargs=>
 match iR sh args with
 |some x=>some ((F x).1,⟨lW l,(F x).2,λt=>⟨[],some (iD l t)⟩,λ_=>loses sh⟩)
 |none=>none
theorem Rq(sh:List iJ)(q:Nat):mr (loses sh) q=none:=by unfold mr loses;rw[awn];cases sh[q / 64]? <;>rfl
theorem PL:∀(l:List iq)(cs:List Cell)(d:lW l),jS l cs=some d->cs.flatMap Cell.refs=[]->(iD l d).flatMap Cell.refs=[]
 |[],[],_,_,_=>rfl
 |c::l,x::xs,d,h,hn=>by
  rw[jS]at h;rw[awG,awj]at hn;split at h
  .next p q hp hq=>
   cases h;show((c.cell p)::iD l q).flatMap Cell.refs=[];rw[awG,awj];refine⟨?_,PL l xs q hq hn.2⟩;cases c with
   |ref o=>
    cases x<;>simp[iq.read,Cell.refs]at hp hn
   |_=>rfl
  .cases h
 |[],_::_,_,h,_=>by simp[jS]at h
 |_::_,[],_,h,_=>by simp[jS]at h
theorem apR{G:jX}(hE:EnvB P G Θ Γ)(hm:P.follows .mixedOrders=true){f:FuncId}{fn:Func}{c:Code}(hf:P.funcs[f]? =some fn)(hb:fn.body=some c)(H:Hints)
 {sh:List iJ} {l:List iq} {F:jw sh->Prop×(lW l->Prop)} (hn:Nat.ble sh.length fn.ntmps=true) (hne:∀x,(F x).1->∃t,(F x).2 t)
 (hwalk:∀x,Iz sh x->(F x).1->F9 Θ Γ H c (ag4 fn.results.toList l (F x).2) (D5 fn.ntmps (rV sh x))):jq P G f (an2 sh l F):=by
 intro args p ρ hcon hp;unfold an2 at hcon;split at hcon
 case h_2=>cases hcon
 next x hx=>
 cases hcon;refine⟨hne x hp,λk S γ vs w hG hrep o6 hsep hap=>?_⟩;have hlen:=(JW hx).1;rw[Ju]at hlen;have hn':args.length<=fn.ntmps:=by rw[← hlen];simpa[axL]using hn
 have hin:Iz sh x:=VR (λo X ho=>(o6 o X ho).1) sh args x vs.toList 0 (λj a h=>by rwa [avV]) hx hrep;have hR0:=abL (S:=S) fn.ntmps hn' hrep (λo X ho=>⟨(o6 o X ho).1,λb hb=>((o6 o X ho).2 b hb).1⟩) hsep;have hR1:=hR0.covers (Um hx fn.ntmps);refine calls_of_wp hf hb (VP ⟨hE,hG,λb hb=>?_⟩ hm H c _ _ _ _ _ _ hR1 (hwalk x hin hp) ?_)
 .obtain⟨o,X,ho,hb⟩:=hb;exact((o6 o X ho).2 b hb).2
 intro e s γ' a' w' he hR;have he':ag4 fn.results.toList l (F x).2 .ret s:=by
  cases e with
  |normal=>exact he
  |ret=>exact he
  |_=>exact he.elim
 have hfin:bodyPost P fn (λe w'=>∃t,(F x).2 t/\Nu S args γ w k ⟨[],some (iD l t)⟩ (loses sh) e w') .ret a' w':=by
  simp only[ag4]at he';split at he'
  case h_2=>exact he'.elim
  next t hrv=>
  split at he'
  case h_2=>exact he'.elim
  next o off htm=>
  split at he'
  case h_2=>exact he'.elim
  next cs hoff hcs=>
  split at he'
  case h_2=>exact he'.elim
  next d hnr hd=>
  have hoff:=avs hoff;subst hoff;have hRf:=hR.freeze (ND s);have hv:=hR.tmps t;rw[htm]at hv;obtain⟨b,cs0,_,hγ,hval⟩:=hv;obtain⟨b',arr,ty,g1,g2,g3⟩:=hRf.ah o _ hcs;have g1:γ' o=.pointer (some ⟨b',0,none⟩):=g1;have hγ:γ' o=.pointer (some ⟨b,0,none⟩):=hγ;rw[hγ]at g1;cases g1;have hblk:blk (γ' o)=some b:=by rw[hγ];rfl
  have hlt:=hRf.lt o _ b hcs hblk
  let γ2:Nat->Value:=λ_=>γ' o
  let Z:V:=⟨w',w.heap.size,qj S args (loses sh) γ,γ2,look (Out.take k ⟨[],some (iD l d)⟩).2⟩
  have hlook:∀q y,look (Out.take k ⟨[],some (iD l d)⟩).2 q=some y->q=k-1/\y=.var (iD l d):=by
   intro q y hq;have hmem:=xH _ q y hq;have:(q,y)=(k-1,.var (iD l d)):=by simpa[Out.take]using hmem
   exact⟨congrArg Prod.fst this,congrArg Prod.snd this⟩
  have Rh:∀fr b',(aj w (VQ args γ S) γ' (s.freeze (ND s)) w').cu fr b'->Z.cu fr b':=by intro fr b' hb';refine⟨⟨hb'.1.1,λhlt'=>⟨hb'.1.2.1 hlt',λq y hq=>by rw[Rq]at hq;cases hq⟩,λq y hq=>?_⟩,hb'.2⟩;exact hb'.1.2.2 o _ hcs
  have hcells:ai Z (iD l d) arr.toList:=
   EJ (Y:=aj w (VQ args γ S) γ' (s.freeze (ND s)) w') (Z:=Z) rfl Rh _ _ (PL l cs d hd hnr) (DX l cs d _ hd g3)
  have hself:look (Out.take k ⟨[],some (iD l d)⟩).2 (k-1)=some (.var (iD l d)):=by simp[Out.take,look]
  refine⟨hR.defers,a'.tmps.getD t undef,?_,d,he',_,γ2,rfl,hR.os,hR.tape,hR.output,hR.grow,hR.kept,?_,λq y hq=>?_,λq y q' y' b' hq hq' hne'=>?_,λq y hq=>by rw[Rq]at hq;cases hq⟩
  .have:fn.results=#[.tmp t]:=by apply aw8;simpa using hrv
   have hmap:(Array.mapM (IY a'.tmps) #[ResultVar.tmp t]).run P w'=.ok #[a'.tmps.getD t undef] w':=by rw[axV,Sem.run_map];simp only[ayJ,List.mapM_nil,IY];rfl
   rw[Ro,this,avQ,hmap];rfl
  .exact⟨b,iD l d,hself,hγ,hval⟩
  .obtain⟨rfl,rfl⟩:=hlook q y hq;refine⟨⟨b,arr,ty,hγ,g2,hcells⟩,λb' hb'=>?_⟩;have hb':blk (γ' o)=some b':=hb';rw[hblk]at hb';cases hb';exact⟨hlt.1,hlt.2,λq y hq=>by rw[Rq]at hq;cases hq⟩
  .obtain⟨rfl,_⟩:=hlook q y hq;obtain⟨rfl,_⟩:=hlook q' y' hq';exact(hne' rfl).elim
 cases e with
 |normal=>exact hfin
 |ret=>exact hfin
 |_=>exact he.elim
end Go.Fw
namespace Go.Fw
open Go
def CT.isZero:CT->Value->Bool
 |.int k,.int l n=>decide (k=l)&&decide (n=0)
 |.bool,.bool b=>!b
 |.str,.string s=>s.data.toList.isEmpty
 |.sl _ _,.slice none 0 0=>true
 |_,_=>false
def ax.PN:ax->List Value->Bool
 |.nil,[]=>true
 |.cons c r,v::vs=>c.isZero v&&r.PN vs
 |_,_=>false
theorem CT.amJ:∀(c:CT)(v:Value),c.isZero v=true->v=c.adT:=by
 intro c v h;unfold CT.isZero at h;split at h
 .simp at h;rw[h.1,h.2];rfl
 .simp at h;subst h;rfl
 .next s=>obtain⟨⟨l⟩⟩:=s;simp at h;subst h;rfl
 .rfl
 .cases h
theorem ax.abP:∀(r:ax)(vs:List Value),r.PN vs=true->vs=r.kS
 |.nil,[],_=>rfl
 |.cons c r,v::vs,h=>by
  rw[PN,avo]at h;rw[ax.kS,CT.amJ c v h.1,ax.abP r vs h.2]
 |.nil,_::_,h|.cons _ _,[],h=>by simp[PN]at h
def ahS:TypeDesc->TypeDesc->Bool
 |.int k,.int l=>decide (k=l)
 |.bool,.bool=>true
 |.string,.string=>true
 |.slice e,.slice f=>Nat.beq e f
 |_,_=>false
theorem amK:∀(c d:TypeDesc),ahS c d=true->c=d:=by
 intro c d h;unfold ahS at h;split at h
 .rw[awQ h]
 .rfl
 .rfl
 .rw[avs h]
 .cases h
def Lm(P:Program):List (Nat×TypeId)->List Field->Bool
 |[],[]=>true
 |(o,t)::r,f::fs=>Nat.beq o f.offset&&Nat.beq t f.type&&(P.info? f.type).isSome&&Lm P r fs
 |_,_=>false
theorem Zb{P:Program}:∀(l:List (Nat×TypeId))(fs:List Field),Lm P l fs=true->l=fs.map (λf=>(f.offset,f.type))/\∀f∈fs,(P.info? f.type).isSome=true
 |[],[],_=>⟨rfl,acA⟩
 |(o,t)::r,f::fs,h=>by
  rw[Lm,avo,avo,avo]at h;obtain⟨⟨⟨h1,h2⟩,h3⟩,h4⟩:=h;obtain⟨e,hall⟩:=Zb r fs h4;refine⟨by rw[avK,← e,avs h1,avs h2],λg hg=>?_⟩;rcases avF.1 hg with rfl|hg
  .exact h3
  .exact hall g hg
 |[],_::_,h|_::_,[],h=>by simp[Lm]at h
def amL(P:Program)(t:TypeId)(ti:TI):Bool:=
 match ti.kind,P.underlying t with
 |.scalar,some d=>match ti.cells.desc with|some c=>ahS c d|none=>false
 |.str,some .string=>ti.cells.beq (.cons .str .nil)
 |.slice e,some (.slice f)=>Nat.beq e f&&(match ti.cells with|.cons (.sl g _) .nil=>Nat.beq g e|_=>false)
 |.struct fs,some (.struct yR)=>Lm P fs yR.toList
 |_,_=>false
def akn(ti:TI)(z:Value):Bool:=match ti.kind with
 |.struct _=>true
 |_=>z.oneCell'
def ad5(P:Program)(t:TypeId)(ti:TI):Bool:=
 match P.info? t with
 |some i=>match i.zero with
  |some z=>Nat.beq i.size ti.cells.len&&Nat.beq i.bytes ti.bytes&&ti.cells.PN z.cells.toList&&akn ti z&&amL P t ti&&Nat.ble ti.bytes 4096&&(!ti.cmp||ak7 P t ti.cells)
  |none=>false
 |none=>false
theorem lM.an3{P:Program}{t:TypeId}{ti:TI}(h:ad5 P t ti=true):lM P t ti:=by
 unfold ad5 at h;split at h
 .next i hi=>
  split at h
  .next z hz=>
   simp only[avo]at h;obtain⟨⟨⟨⟨⟨⟨h1,h2⟩,h3⟩,h4⟩,h5⟩,h6⟩,h7⟩:=h;refine⟨⟨i,z,hi,avs h1,avs h2,hz,ax.abP _ _ h3,λhagg=>?_⟩,?_,by simpa[axL]using h6,λe w s u X xs ys vs us b hf hx hy he=>apL (by rw[e]at h7;simpa using h7) w s u X xs ys vs us b hf hx hy he⟩
   .unfold akn at h4;unfold TI.agg at hagg;split at h4
    .next hk=>rw[hk]at hagg;cases hagg
    .exact FV z h4
   .unfold amL at h5;split at h5
    .next d hk hu=>
     rw[hk];split at h5
     .next c hc=>exact⟨d,by rw[hc,amK c d h5],hu⟩
     .cases h5
    .next hk hu=>rw[hk];exact⟨hu,ax.eq_of_beq _ _ h5⟩
    .next e f hk hu=>
     rw[hk];rw[avo]at h5;have hef:=avs h5.1;subst hef;refine⟨hu,?_⟩;have h52:=h5.2;split at h52
     .next g r hg=>exact⟨r,by rw[hg,avs h52]⟩
     .cases h52
    .next fs yR hk hu=>rw[hk];obtain⟨e,hall⟩:=Zb _ _ h5;exact⟨yR,hu,e,hall⟩
    .cases h5
  .cases h
 .cases h
def PO(P:Program):List (Nat×TI)->Bool
 |[]=>true
 |(t,ti)::r=>ad5 P t ti&&PO P r
theorem ahT{P:Program}:∀{l:List (Nat×TI)},PO P l=true->∀t ti,abH l t=some ti->lM P t ti
 |[],_,t,ti,h=>agk
 |(i,x)::r,hc,t,ti,h=>by
  rw[PO,avo]at hc;rw[abH]at h;cases hb:Nat.beq t i with
  |true=>rw[hb]at h;cases h;rw[avs hb];exact .an3 hc.1
  |false=>rw[hb]at h;exact ahT hc.2 t ti h
def XV(fn:Func):Bool:=fn.body.isSome&&!(fn.name== "runtime.NumGoroutine")
theorem iT{P:Program}{f:FuncId}{fn:Func}(hf:P.funcs[f]? =some fn)(hc:XV fn=true):jd P f:=by
 intro args w;unfold XV at hc;rw[avo]at hc;have h1:(fn.name== "runtime.NumGoroutine")=false:=by simpa using hc.2
 have h2:fn.body.isNone=false:=by cases hb:fn.body with|none=>rw[hb]at hc;simp at hc|some _=>rfl
 unfold callFunc;simp only[avQ,run_program,awl,hf,h1,h2,awZ,axK,awx]
def amM(P:Program)(G:jX)(f:FuncId):Js->Prop
 |.pure c=>fJ P G f c/\jd P f
 |.eff _ c=>jq P G f c/\jd P f
theorem amN{P:Program}{G:jX}{Θ:jr}(hT:∀t ti,Θ t=some ti->lM P t ti):∀{l:List (Nat×Js)},(∀x∈l,amM P G x.1 x.2)->EnvB P G Θ (Iq l)
 |[],_=>⟨hT,(λf con h=>agk),(λf ms con h=>agk)⟩
 |(i,c)::r,h=>by
  have ih:=amN (G:=G) hT λx hx=>h x (avy _ hx);refine⟨hT,λf con hf=>?_,λf ms con hf=>?_⟩
  .rw[Iq]at hf;cases hb:Nat.beq f i with
   |true=>rw[hb]at hf;cases hf;rw[avs hb];exact h (i,.pure con) avA
   |false=>rw[hb]at hf;exact ih.cons f con hf
  .rw[Iq]at hf;cases hb:Nat.beq f i with
   |true=>rw[hb]at hf;cases hf;rw[avs hb];exact h (i,.eff ms con) avA
   |false=>rw[hb]at hf;exact ih.ag1 f ms con hf
end Go.Fw
namespace Go.Fw
open Go
structure PA where
 n:Nat
 sh:List iG
 bI:List oI
 F:jy sh->Prop×mG bI
structure XA where
 n:Nat
 sh:List iJ
 bI:List pR
 F:jw sh->Prop×(lT bI×lg sh->Prop)
structure QA where
 n:Nat
 sh:List iJ
 bI:List iq
 F:jw sh->Prop×(lW bI->Prop)
def PA.e(q:PA):Nat×Js:=(q.n,.pure (iy q.sh q.bI q.F))
def XA.e(q:XA):Nat×Js:=(q.n,.eff (DT q.sh) (qf q.sh q.bI q.F))
def QA.e(q:QA):Nat×Js:=(q.n,.eff (DT q.sh) (an2 q.sh q.bI q.F))
def abQ(P:Program)(G:jX)(x:Nat×Js):Prop:=amM P G x.1 x.2
def ahU(P:Program)(G:jX):List (Nat×Js)->Prop
 |[]=>True
 |x::l=>abQ P G x/\ahU P G l
theorem an4{P:Program}{G:jX}{l':List (Nat×TI)}(hT:PO P l'=true){l:List (Nat×Js)}(h:ahU P G l):EnvB P G (abH l') (Iq l):=
 amN (ahT hT) (by
  induction l with
  |nil=>exactλx hx=>afg
  |cons y l ih=>exact List.forall_mem_cons.2 ⟨h.1,ih h.2⟩)
def ad6:(l:List iq)->(lW l->Prop)->Prop
 |[],p=>p ()
 |c::r,p=>∀x:c.den,ad6 r λy=>p (x,y)
theorem PS:∀{l:List iq}{p:lW l->Prop},ad6 l p->∀x,p x
 |[],_,h,()=>h
 |_::_,_,h,(x,y)=>PS (h x) y
def als:(l:List (List iq))->(AL l->Prop)->Prop
 |[],p=>p ()
 |c::r,p=>ad6 c λx=>als r λy=>p (x,y)
theorem ahV:∀{l:List (List iq)}{p:AL l->Prop},als l p->∀x,p x
 |[],_,h,()=>h
 |_::_,_,h,(x,y)=>ahV (PS h x) y
def an5:(s:iG)->(s.den->Prop)->Prop
 |.v (.one c),p=>∀x:c.den,p x
 |.v (.agg l),p=>ad6 l p
 |.kp l,p=>ad6 l p
 |.fn _ l,p=>als l p
theorem ako:∀{s:iG}{p:s.den->Prop},an5 s p->∀x,p x
 |.v (.one _),_,h,x=>h x
 |.v (.agg _),_,h,x=>PS h x
 |.kp _,_,h,x=>PS h x
 |.fn _ _,_,h,x=>ahV h x
def alu:(l:List iG)->(jy l->Prop)->Prop
 |[],p=>p ()
 |s::r,p=>an5 s λx=>alu r λy=>p (x,y)
theorem ahW:∀{l:List iG}{p:jy l->Prop},alu l p->∀x,p x
 |[],_,h,()=>h
 |_::_,_,h,(x,y)=>ahW (ako h x) y
def aqH:(s:iJ)->(s.den->Prop)->Prop
 |.p s,p=>an5 s p
 |.own _ r,p=>∀x:List r.den,p x
 |.ptr l,p=>ad6 l p
theorem apS:∀{s:iJ}{p:s.den->Prop},aqH s p->∀x,p x
 |.p _,_,h,x=>ako h x
 |.own _ _,_,h,x=>h x
 |.ptr _,_,h,x=>PS h x
def ag5:(l:List iJ)->(jw l->Prop)->Prop
 |[],p=>p ()
 |s::r,p=>aqH s λx=>ag5 r λy=>p (x,y)
theorem Z8:∀{l:List iJ}{p:jw l->Prop},ag5 l p->∀x,p x
 |[],_,h,()=>h
 |_::_,_,h,(x,y)=>Z8 (apS h x) y
abbrev LP{α:Type}(x:α)(f:(α->Prop)->(α->Nat)->α->Prop):Prop:=∃(I:α->Prop),∃(μ:α->Nat),I x/\∀(y:α),I y->f I μ y
abbrev NX{σ α:Type}(s:σ)(I:α->Prop)(μ:α->Nat)(x y:α):Prop:=s=s/\I x/\μ x<μ y
def H0:Hints:=hints [] [] [] [] []
def Bc(P:Program)(n:Nat):Func:=match P.funcs[n]? with|some f=>f|none=>default
def I5(P:Program)(n k:Nat):Bool:=P.funcs[n]?.isSome&&XV (Bc P n)&&Nat.ble k (Bc P n).ntmps
theorem VS{P:Program}{n k:Nat}(h:I5 P n k=true):P.funcs[n]? =some (Bc P n)/\(Bc P n).body=some (codeOf (Bc P n))/\jd P n/\Nat.ble k (Bc P n).ntmps=true:=by
 simp only[I5,avo]at h;obtain⟨⟨h1,h2⟩,h3⟩:=h;have e:P.funcs[n]? =some (Bc P n):=by
  unfold Bc;cases hf:P.funcs[n]? with
  |some f=>rfl
  |none=>rw[hf]at h1;cases h1
 refine⟨e,?_,iT e h2,h3⟩;have h4:=h2;unfold XV at h4;rw[avo]at h4;unfold codeOf;cases hb:(Bc P n).body with
 |some c=>rfl
 |none=>rw[hb]at h4;cases h4.1
def PA.goal(q:PA)(g:(mG q.bI->Prop)->Prop)(x:jy q.sh):Prop:=JV q.sh x->(q.F x).1->g λr=>r=(q.F x).2
def XA.goal(q:XA)(g:(lT q.bI×lg q.sh->Prop)->Prop)(x:jw q.sh):Prop:=Iz q.sh x->(q.F x).1->g (q.F x).2
def QA.goal(q:QA)(g:(lW q.bI->Prop)->Prop)(x:jw q.sh):Prop:=Iz q.sh x->(q.F x).1->g (q.F x).2
variable {P:Program} {Θ:jr} {Γ:kR} {G:jX}
theorem PA.ok{q:PA}(hm:P.follows .mixedOrders=true)(hE:EnvB P G Θ Γ)(H:Hints){p:Prop}
 (hp:(bif I5 P q.n q.sh.length then alu q.sh λx=>q.goal (λK=>F9 Θ Γ H (codeOf (Bc P q.n)) (abI Θ (Bc P q.n).results.toList q.bI K) (entry (Bc P q.n).ntmps (uz q.sh x))) x else False)=p) (h:p):abQ P G q.e:=by
 subst hp;cases hc:I5 P q.n q.sh.length with
 |false=>rw[hc]at h;exact h.elim
 |true=>rw[hc]at h;obtain⟨h1,h2,h3,h4⟩:=VS hc;exact⟨adZ hE hm h1 h2 H h4 λx hi hx=>ahW h x hi hx,h3⟩
theorem XA.ok{q:XA}(hm:P.follows .mixedOrders=true)(hE:EnvB P G Θ Γ)(H:Hints)(hne:∀x,(q.F x).1->∃t,(q.F x).2 t){p:Prop}
 (hp:(bif I5 P q.n q.sh.length then ag5 q.sh λx=>q.goal (λK=>F9 Θ Γ H (codeOf (Bc P q.n)) (ag3 Θ (Bc P q.n).results.toList q.sh q.bI K) (D5 (Bc P q.n).ntmps (rV q.sh x))) x else False)=p) (h:p):abQ P G q.e:=by
 subst hp;cases hc:I5 P q.n q.sh.length with
 |false=>rw[hc]at h;exact h.elim
 |true=>rw[hc]at h;obtain⟨h1,h2,h3,h4⟩:=VS hc;exact⟨ad4 hE hm h1 h2 H h4 hne λx hi hx=>Z8 h x hi hx,h3⟩
theorem QA.ok{q:QA}(hm:P.follows .mixedOrders=true)(hE:EnvB P G Θ Γ)(H:Hints)(hne:∀x,(q.F x).1->∃t,(q.F x).2 t){p:Prop}
 (hp:(bif I5 P q.n q.sh.length then ag5 q.sh λx=>q.goal (λK=>F9 Θ Γ H (codeOf (Bc P q.n)) (ag4 (Bc P q.n).results.toList q.bI K) (D5 (Bc P q.n).ntmps (rV q.sh x))) x else False)=p) (h:p):abQ P G q.e:=by
 subst hp;cases hc:I5 P q.n q.sh.length with
 |false=>rw[hc]at h;exact h.elim
 |true=>rw[hc]at h;obtain⟨h1,h2,h3,h4⟩:=VS hc;exact⟨apR hE hm h1 h2 H h4 hne λx hi hx=>Z8 h x hi hx,h3⟩
end Go.Fw
namespace Go.Fw
open Go
variable {P:Program} {G:jX} {f:FuncId}
abbrev jO:List UInt8:=[]
theorem fJ.weaken{con VT:EU}(h:fJ P G f con)(hc:∀args p out,VT args=some (p,out)->p->∃q,con args=some (q,out)/\q):fJ P G f VT:=by intro args p out k S vs w hcon hp hG hrep;obtain⟨q,h1,h2⟩:=hc args p out hcon hp;exact h args q out k S vs w h1 h2 hG hrep
theorem jq.weaken{con VT:Dt}(h:jq P G f con)(hc:∀args p ρ,VT args=some (p,ρ)->p->∃q,con args=some (q,ρ)/\q):jq P G f VT:=by intro args p ρ hcon hp;obtain⟨q,h1,h2⟩:=hc args p ρ hcon hp;exact h args q ρ h1 h2
theorem amO{sh:List iG}{bI:List oI}{F:jy sh->Prop×mG bI}(Fr Fs:Nat->jy sh->Prop×mG bI)(h0:∀x,¬(Fr 0 x).1)(hs:∀n x,Fr (n+1) x=Fs n x)
 (hf:∀x,(F x).1->∃n,(Fr n x).1) (he:∀n x,(Fr n x).2=(F x).2) (step:∀n,fJ P G f (iy sh bI (Fr n))->fJ P G f (iy sh bI (Fs n))):fJ P G f (iy sh bI F):=by
 have all:∀n,fJ P G f (iy sh bI (Fr n)):=by
  intro n
  induction n with
  |zero=>
   intro args p out k S vs w hcon hp;unfold iy wU at hcon;split at hcon
   .next x _=>have e:(Fr 0 x).1=p:=congrArg Prod.fst (Option.some.inj hcon);exact absurd (e.symm▸hp) (h0 x)
   .cases hcon
  |succ n ih=>have:=step n ih;have e:Fr (n+1)=Fs n:=funext (hs n);rw[e];exact this
 intro args p out k S vs w hcon hp hG hrep;have JZ:=hcon;unfold iy wU at JZ;split at JZ
 .next x hx=>have e:=Option.some.inj JZ;have e1:(F x).1=p:=congrArg Prod.fst e;obtain⟨n,hn⟩:=hf x (e1.symm▸hp);refine all n args (Fr n x).1 out k S vs w ?_ hn hG hrep;unfold iy wU;rw[hx];show some ((Fr n x).1,_)=_;rw[he n x];exact congrArg (λz=>some ((Fr n x).1,z)) (congrArg Prod.snd e)
 .cases JZ
theorem akp{sh:List iJ}{bI:List pR}{F:jw sh->Prop×(lT bI×lg sh->Prop)}(Fr Fs:Nat->jw sh->Prop×(lT bI×lg sh->Prop))(h0:∀x,¬(Fr 0 x).1)(hs:∀n x,Fr (n+1) x=Fs n x)
 (hf:∀x,(F x).1->∃n,(Fr n x).1) (he:∀n x,(Fr n x).2=(F x).2) (step:∀n,jq P G f (qf sh bI (Fr n))->jq P G f (qf sh bI (Fs n))):jq P G f (qf sh bI F):=by
 have all:∀n,jq P G f (qf sh bI (Fr n)):=by
  intro n
  induction n with
  |zero=>
   intro args p ρ hcon hp;unfold qf at hcon;split at hcon
   .next x _=>have e:(Fr 0 x).1=p:=congrArg Prod.fst (Option.some.inj hcon);exact absurd (e.symm▸hp) (h0 x)
   .cases hcon
  |succ n ih=>have:=step n ih;have e:Fr (n+1)=Fs n:=funext (hs n);rw[e];exact this
 intro args p ρ hcon hp;have JZ:=hcon;unfold qf at JZ;split at JZ
 .next x hx=>have e:=Option.some.inj JZ;have e1:(F x).1=p:=congrArg Prod.fst e;obtain⟨n,hn⟩:=hf x (e1.symm▸hp);refine all n args (Fr n x).1 ρ ?_ hn;unfold qf;rw[hx];show some ((Fr n x).1,_)=_;rw[he n x];exact congrArg (λz=>some ((Fr n x).1,z)) (congrArg Prod.snd e)
 .cases JZ
end Go.Fw
namespace Go.Fw
open Go
variable {P:Program} {H:Type} {enc:TypeId×Value->H} {w:World}
def ax.app:ax->ax->ax
 |.nil,s=>s
 |.cons c r,s=>.cons c (r.app s)
def ag6:(r s:ax)->r.den->s.den->(r.app s).den
 |.nil,_,_,y=>y
 |.cons _ r,s,x,y=>(x.1,ag6 r s x.2 y)
theorem aJ.app{h:Array Obj}{S:Nat->Prop}:∀(r s:ax)(x:r.den)(y:s.den)(vs us:List Value),aJ h S r vs x->aJ h S s us y->aJ h S (r.app s) (vs++us) (ag6 r s x y)
 |.nil,s,x,y,vs,us,h1,h2=>by rw[aJ]at h1;subst h1;exact h2
 |.cons c r,s,(x,x'),y,vs,us,h1,h2=>by rw[aJ]at h1;obtain⟨v,vs',rfl,g1,g2⟩:=h1;show aJ h S (.cons c (r.app s)) (v::(vs'++us)) (x,ag6 r s x' y);rw[aJ];exact⟨v,vs'++us,rfl,g1,aJ.app r s x' y vs' us g2 h2⟩
theorem add_add(a:Addr)(h:a.spot=none)(m j:Nat):(a.add m).add j=⟨a.block,a.off+m+j,none⟩:=by
 obtain⟨b,o,sp⟩:=a;simp only at h;subst h;unfold Addr.add;by_cases hm:m=0
 .by_cases hj:j=0
  .simp[hm,hj]
  .simp[hm,hj]
 .by_cases hj:j=0
  .simp[hm,hj]
  .simp[hm,hj]
def NI(f:TypeId->Option ax):List Field->Nat->Option ax
 |[],_=>some .nil
 |x::r,off=>match f x.type with
  |some s=>match NI f r (off+s.len),Nat.beq x.offset off with
   |some u,true=>some (s.app u)
   |_,_=>none
  |none=>none
def rowOf(P:Program):Nat->TypeId->Option ax
 |0,_=>none
 |n+1,t=>match P.underlying t with
  |some (.int k)=>some (.cons (.int k) .nil)
  |some .bool=>some (.cons .bool .nil)
  |some .string=>some (.cons .str .nil)
  |some (.slice e)=>match rowOf P n e with
   |some s=>match Nat.beq s.len (P.cellsOf e)&&Nat.ble 1 s.len with
    |true=>some (.cons (.sl e s) .nil)
    |false=>none
   |none=>none
  |some (.struct fs)=>match NI (rowOf P n) fs.toList 0 with
   |some r=>match Nat.beq r.len (P.cellsOf t)with
    |true=>match fs.toList.all λf=>match rowOf P n f.type with|some s=>Nat.beq s.len (P.cellsOf f.type)|none=>false with
     |true=>some r
     |false=>none
    |false=>none
   |none=>none
  |_=>none
theorem akq{α:Type}{Q:Nat->α->Prop}:∀(n:Nat),(∀i,i<n->∃x,Q i x)->∃l:List α,l.length=n/\∀i x,l[i]? =some x->Q i x
 |0,_=>⟨[],rfl,λi x h=>amA⟩
 |n+1,h=>by
  obtain⟨l,hl,hq⟩:=akq n λi hi=>h i abn;obtain⟨x,hx⟩:=h n abn;refine⟨l++[x],asM,λi y hy=>?_⟩;rcases avN i n with hi|hi
  .rw[awe abn]at hy;exact hq i y hy
  .rw[av1 abn]at hy;have:i=n:=by
    rcases avN n i with h'|h'
    .rw[aww adK]at hy;cases hy
    .omega
   subst this;simp[hl]at hy;rw[← hy];exact hx
theorem akr:∀(r s:ax),(r.app s).len=r.len+s.len
 |.nil,s=>by simp[ax.app,ax.len]
 |.cons c r,s=>by simp only[ax.app,ax.len,akr r s];omega
theorem abR{f:TypeId->Option ax}{S:Nat->Prop}{h:Array Obj}(cs:List Value)
 (part:∀(t:TypeId)(r:ax)(off:Nat),f t=some r->(∃g:Field,g.type=t/\g.offset=off)->True):∀(fs:List Field)(off:Nat)(r:ax),NI f fs off=some r->
 (∀g∈fs,∀s,f g.type=some s->∃x,aJ h S s ((cs.drop g.offset).take s.len) x)->
 ∃x,aJ h S r ((cs.drop off).take r.len) x
 |[],off,r,hr,_=>by
  cases hr;exact⟨(),by rw[aJ];simp[ax.len]⟩
 |g::fs,off,r,hr,hall=>by
  rw[NI]at hr;split at hr
  .next s hs=>
   split at hr
   .next u hu hb=>
    cases hr;obtain⟨x,hx⟩:=hall g avA s hs;rw[avs hb]at hx;obtain⟨y,hy⟩:=abR cs part fs (off+s.len) u hu λg' hg'=>hall g' (avy _ hg');refine⟨ag6 s u x y,?_⟩;have:=aJ.app s u x y _ _ hx hy;rw[akr];have e:(cs.drop off).take (s.len+u.len)=(cs.drop off).take s.len++(cs.drop (off+s.len)).take u.len:=by rw[List.take_add,aw1]
    rw[e];exact this
   .cases hr
  .cases hr
theorem Z9:∀(n:Nat)(t:TypeId)(r:ax),rowOf P n t=some r->∀(m:Nat)(base:Nat)(spare:Nat->Bool)(held:Bool)(cs:List Value)(x:DataW H×List MemPlace),
 DataW.trod enc P w base spare held m t cs=some x->∃y,aJ w.heap (λb=>b<w.heap.size) r cs y
 |0,t,r,hr=>by cases hr
 |n+1,t,r,hr=>by
  intro m base spare held cs x hx;rw[rowOf]at hr;split at hr
  .next k hu=>cases hr;obtain⟨i,rfl,_,hwf⟩:=DataW.trod_int hu hx;simp only[Lit.wf,avo,avC]at hwf;exact⟨(i,()),by rw[aJ];exact⟨_,[],rfl,by rw[cZ];exact⟨rfl,hwf⟩,by rw[aJ]⟩⟩
  .next hu=>cases hr;obtain⟨b,rfl,_⟩:=DataW.trod_bool hu hx;exact⟨(b,()),by rw[aJ];exact⟨_,[],rfl,by rw[cZ],by rw[aJ]⟩⟩
  .next hu=>cases hr;obtain⟨s,rfl,_,hs⟩:=DataW.trod_string hu hx;refine⟨(s.data.toList,()),by rw[aJ];exact⟨_,[],rfl,by rw[cZ];exact⟨acA,by simpa using hs⟩,by rw[aJ]⟩⟩
  .next e hu=>
   split at hr
   .next s hs=>
    split at hr
    .next hb=>
     cases hr;rw[avo]at hb;have hlen:=avs hb.1;have hpos:1<=s.len:=by simpa[axL]using hb.2
     rcases DataW.trod_slice hu hx with⟨rfl,_⟩|⟨a,len,cap,elems,rest,k,_,rfl,_,hbase,hle,hmax,hel,hrow,_,_⟩
     .exact⟨([],()),by rw[aJ];exact⟨_,[],rfl,by rw[cZ];exact⟨acA,.inl ⟨rfl,none,0,rfl⟩⟩,by rw[aJ]⟩⟩
     .by_cases h0:len=0
      .subst h0;exact⟨([],()),by rw[aJ];exact⟨_,[],rfl,by rw[cZ];exact⟨acA,.inl ⟨rfl,some a,cap,rfl⟩⟩,by rw[aJ]⟩⟩
      .have each:∀i,i<len->∃(ys:List Value)(z:s.den),w.cells? base (a.add (i*P.cellsOf e)) (P.cellsOf e)=some ys/\aJ w.heap (λb=>b<w.heap.size) s ys z:=by intro i hi;have h1:=hrow i hi;rw[avv abn]at h1;obtain⟨ys,hys,hy2⟩:=Option.bind_eq_some_iff.1 h1;obtain⟨z,hz⟩:=Z9 n e s hs k base spare held ys _ hy2;exact⟨ys,z,hys,hz⟩
       obtain⟨ys0,z0,hc0,hz0⟩:=each 0 abn;obtain⟨_,hl0,hcell0⟩:=World.cells?_some hc0;have aac:=hcell0 0 abn;simp only[axz,Addr.add,if_true]at aac;have atc:∃v,ys0[0]? =some v:=⟨ys0[0]' abn,by simp[show 0<ys0.length from abn]⟩;obtain⟨v0,hv0⟩:=atc;rw[hv0]at aac;unfold World.cell? at aac;split at aac
       .next c ty fz hblk=>
        split at aac
        .cases aac
        .next hsp=>
         have hspot:a.spot=none:=by cases h:a.spot with|none=>rfl|some q=>rw[h]at hsp;simp at hsp
         have ha:a=⟨a.block,a.off,none⟩:=by cases a;simp at hspot;rw[hspot]
         have hb':a.block<w.heap.size:=by obtain⟨hlt,_⟩:=avw.1 hblk;exact hlt
         have rows:∀i,i<len->∃z:s.den,aJ w.heap (λb=>b<w.heap.size) s ((c.toList.drop (a.off+i*s.len)).take s.len) z:=by
          intro i hi;obtain⟨ys,z,hcs,hz⟩:=each i hi;obtain⟨_,hl,hcell⟩:=World.cells?_some hcs;refine⟨z,?_⟩;have:(c.toList.drop (a.off+i*s.len)).take s.len=ys:=by
           refine axi λj=>?_;rcases avN j s.len with hj|hj
           .rw[awI hj,av5];have h2:=hcell j abn;have hadd:=add_add a hspot (i*P.cellsOf e) j;rw[← hlen]at hadd h2;rw[hadd]at h2;unfold World.cell? at h2;simp only[hblk,Option.isSome_none,awZ,axK]at h2;rw[← h2];simp
           .rw[aww adK,aww abn]
          rw[this];exact hz
         obtain⟨l,hll,hlq⟩:=akq len rows;refine⟨(l,()),by rw[aJ];exact⟨_,[],rfl,by rw[cZ];exact⟨abn,.inr ⟨a.block,a.off,cap,c,ty,fz,by rw[hll,← ha],abn,hb',hblk,hlq⟩⟩,by rw[aJ]⟩⟩
       .cases aac
    .cases hr
   .cases hr
  .next fs hu=>
   split at hr
   .next r' hf=>
    split at hr
    .next hb=>
     split at hr
     .next hall=>
      cases hr;obtain⟨xs,k,_,_,hcl,hxl,hparts⟩:=DataW.trod_struct hu hx;have hlen:=avs hb;have:=abR (h:=w.heap) (S:=λb=>b<w.heap.size) cs (λ_ _ _ _ _=>trivial) fs.toList 0 _ hf ?_
      .obtain⟨y,hy⟩:=this;refine⟨y,?_⟩;rw[axb,av6 abn]at hy;exact hy
      .intro g hg s hs;have hg2:=avL.1 hall g hg;rw[hs]at hg2;have hsl:=avs hg2;obtain⟨i,hi,hgi⟩:=axg.1 hg;have hp:=hparts i g (by rw[← hgi];simp[show i<fs.size from ail]);rw[avv (by simp at hi;omega)]at hp;rw[hsl];exact Z9 n g.type s hs k base spare held _ _ hp
     .cases hr
    .cases hr
   .cases hr
  .cases hr
def CT.csh:CT->iq
 |.int k=>.int k
 |.bool=>.bool
 |.str=>.str
 |.sl e r=>.sl e r false
def toC:(c:CT)->c.den->c.csh.den
 |.int _,x=>x
 |.bool,x=>x
 |.str,x=>x
 |.sl _ _,x=>x
def ax.shs:ax->List iq
 |.nil=>[]
 |.cons c r=>c.csh::r.shs
def toCs:(r:ax)->r.den->lW r.shs
 |.nil,_=>()
 |.cons c r,x=>(toC c x.1,toCs r x.2)
theorem ad7(X:V):∀(r:ax)(vs:List Value)(x:r.den),aJ X.w.heap (X.cu false) r vs x->ai X (iD r.shs (toCs r x)) vs
 |.nil,vs,x,h=>by rw[aJ]at h;subst h;trivial
 |.cons c r,vs,(x,y),h=>by
  rw[aJ]at h;obtain⟨v,vs',rfl,h1,h2⟩:=h;refine⟨?_,ad7 X r vs' y h2⟩;cases c with
  |int k=>exact h1
  |bool=>exact h1
  |str=>exact h1
  |sl e r=>exact h1
def alv(P:Program)(t:TypeId):Option oI:=
 match rowOf P 64 t with
 |some r=>match P.underlying t with
  |some (.struct _)=>some (.agg r.shs)
  |some (.array _ _)=>none
  |_=>match r with
   |.cons c .nil=>some (.one c.csh)
   |_=>none
 |none=>none
def Lp(P:Program):List TypeId->Option (List iG)
 |[]=>some []
 |t::ts=>match alv P t,Lp P ts with
  |some s,some l=>some (.v s::l)
  |_,_=>none
def start(w:World):V:=⟨w,w.heap.size,λb=>b<w.heap.size,λ_=>undef,λ_=>none⟩
theorem apT{t:TypeId}{s:oI}(hs:alv P t=some s){base base':Nat}{sp:Nat->Bool}{hd:Bool}{v:Value}{d:DataW H}{p:List MemPlace}
 (ht:DataW.Trod enc P w base sp hd t v d p) (hv:Value.okWide P w .any base' t v):∃x:s.den,dM (start w) (s.val x) v:=by
 unfold alv at hs;split at hs
 .next r hr=>
  obtain⟨m,hm⟩:=ht;obtain⟨y,hy⟩:=Z9 64 t r hr m base sp hd _ _ hm;have hy':aJ (start w).w.heap ((start w).cu false) r v.cells.toList y:=
   aJ.mono (λb hb=>⟨⟨⟨hb,λ_=>hb,λo x hx=>afg⟩,λe=>ahB⟩,rfl⟩) r _ y hy
  unfold Value.okWide at hv;split at hs
  .next fs hu=>cases hs;rw[hu]at hv;obtain⟨cs,rfl,_,_⟩:=hv;exact⟨toCs r y,cs,rfl,ad7 (start w) r _ y hy'⟩
  .cases hs
  .next hns hna=>
   split at hs
   .next c=>
    cases hs;have hcell:v.cells=#[v]:=by
     cases hv2:v<;>first
      |rfl
      |(exfalso
        rw[hv2]at hv;split at hv
        .next hu=>exact hns _ hu
        .next hu=>exact hna _ _ hu
        .unfold Go.Cell.okWide at hv;split at hv<;>first|(rename_i h1 h2;cases h2;done)|(rename_i h2;cases h2;done)|skip;unfold Go.Cell.ok at hv;split at hv<;>first|(rename_i h1 h2;cases h2;done)|exact hv)
    have:=ad7 (start w) _ _ y hy';rw[hcell]at this;exact⟨toC c y.1,this.1⟩
   .cases hs
 .cases hs
theorem ahX:∀(ts:List TypeId)(sh:List iG),Lp P ts=some sh->∀{base base':Nat}{sp:Nat->Bool}{hd:Bool}(vs:List Value)(ds:List (DataW H))(p:List MemPlace),
 DataW.TrodAll enc P w base sp hd ts vs ds p->(∀(j:Nat) t v,ts[j]? =some t->vs[j]? =some v->Value.okWide P w .any base' t v)->∃x:jy sh,oD (start w) (uz sh x) vs
 |[],sh,hs,_,_,_,_,vs,ds,p,h,_=>by
  cases hs;cases vs with
  |nil=>exact⟨(),trivial⟩
  |cons v vs=>cases ds<;>simp[DataW.TrodAll]at h
 |t::ts,sh,hs,base,base',sp,hd,vs,ds,p,h,hok=>by
  rw[Lp]at hs;split at hs
  .next s l h1 h2=>
   cases hs;cases vs with
   |nil=>cases ds<;>simp[DataW.TrodAll]at h
   |cons v vs=>
    cases ds with
    |nil=>simp[DataW.TrodAll]at h
    |cons d ds=>obtain⟨a,b,g1,g2,_⟩:=h;obtain⟨x,hx⟩:=apT h1 g1 (hok 0 t v rfl rfl);obtain⟨y,hy⟩:=ahX ts l h2 vs ds b g2 λj t' v' ht' hv'=>hok (j+1) t' v' (by simpa using ht') (by simpa using hv');exact⟨(x,y),hx,hy⟩
  .cases hs
mutual
theorem CT.H6:∀(c:CT),c.beq c=true
 |.int k=>by simp[CT.beq]
 |.bool=>rfl
 |.str=>rfl
 |.sl e r=>by simp[CT.beq,ax.H6 r]
theorem ax.H6:∀(r:ax),r.beq r=true
 |.nil=>rfl
 |.cons c r=>by simp[ax.beq,CT.H6 c,ax.H6 r]
end
theorem afz:∀(c:iq)(x:c.den),c.read (c.cell x)=some x
 |.int k,x=>by simp[iq.cell,iq.read]
 |.bool,x=>rfl
 |.str,x=>rfl
 |.sl e r fr,l=>by
  simp only[iq.cell,iq.read,awi];have h1:Lh fr fr=true:=by cases fr<;>rfl
  have h2:r.beq r=true:=ax.H6 r;rw[h1];simp only[Bool.and_self];rw[dif_pos h2];rfl
 |.nil,x=>rfl
 |.ref o,x=>by simp[iq.cell,iq.read]
 |.junk,x=>rfl
theorem abS:∀(l:List iq)(x:lW l),jS l (iD l x)=some x
 |[],_=>rfl
 |c::r,x=>by rw[iD,jS,afz c x.1,abS r x.2]
theorem ahY:∀(ts:List TypeId)(l:List iG),Lp P ts=some l->∀(x:jy l),Gf l (uz l x)=some x
 |[],l,h,x=>by cases h;rfl
 |t::ts,l,h,x=>by
  rw[Lp]at h;split at h
  .next s r h1 h2=>
   cases h;have ih:=ahY ts r h2 x.2;cases s with
   |one c=>
    have e:(iG.v (.one c)).read ((iG.v (.one c)).val x.1)=some x.1:=afz c x.1;rw[uz,Gf,ih,e]
   |agg l=>have e:(iG.v (.agg l)).read ((iG.v (.agg l)).val x.1)=some x.1:=abS l x.1;rw[uz,Gf,ih,e]
  .cases h
def ad8:Out:=⟨[(false,[.plain (.bool true)])],none⟩
theorem amP{G:jX}{f:FuncId}{fn:Func}{sh:List iG}{F:jy sh->Prop×Out}(hcon:fJ P G f (wU sh F))(hsh:Lp P fn.params.toList=some sh)
 (hF:∀x,JV sh x->(F x).1/\(F x).2=ad8) (hG:G.ok w) {base base':Nat} {sp:Nat->Bool} {hd:Bool} {args:Array Value} {ds:List (DataW H)} {p:List MemPlace}
 (hA:DataW.TrodAll enc P w base sp hd fn.params.toList args.toList ds p) (hok:∀(j:Nat) t v,fn.params[j]? =some t->args[j]? =some v->Value.okWide P w .any base' t v):
 Calls P f args w λe w'=>e=.returned (.bool true)/\w'.os=w.os/\w'.output=w.output/\w.heap.size<=w'.heap.size/\∀b,b<w.heap.size->w'.heap[b]? =w.heap[b]? :=by
 obtain⟨x,hx⟩:=ahX _ _ hsh _ _ _ hA λj t v ht hv=>hok j t v (by simpa using ht) (by simpa using hv);have hin:=BU sh x _ hx;obtain⟨hp,ho⟩:=hF x hin;have hc:wU sh F (uz sh x)=some ((F x).1,ad8):=by unfold wU;rw[ahY _ _ hsh x];simp only[← ho]
 refine(hcon (uz sh x) _ _ 0 _ args w hc hp hG hx).mono ?_;rintro e w' ⟨v,vals,rfl,h1,h2,h3,h4,h5,h6,_,_⟩;have hv:v=.bool true:=h6;exact⟨by rw[hv],h1,h3,h4,h5⟩
theorem an6{w w':World}(h1:w'.os=w.os)(h3:w'.output=w.output)(h5:∀b,b<w.heap.size->w'.heap[b]? =w.heap[b]?)(may:MemPlace->Prop):w.keptBut w' may:=by
 refine⟨h1,h3,λi hi=>?_⟩;rw[h5 i hi];cases hw:w.heap[i]? with
 |none=>trivial
 |some o=>cases o<;>simp
theorem an7{w w':World}(h5:∀b,b<w.heap.size->w'.heap[b]? =w.heap[b]?){p:MemPlace}(hp:p.block<w.heap.size):w.sameAt w' p:=by
 cases p with
 |cell b off=>
  show w'.cell? _=w.cell? _;unfold World.cell?;simp only;rw[h5 b hp]
 |map b=>exact h5 b hp
end Go.Fw
namespace Go.Fw
open Go
variable {P:Program} {G:jX} {f:FuncId}
theorem ajE{args:List Arg}{i:Nat}{x:Arg}{p:Nat}(hp:p / 64≠i):dF (args.set i x) p=dF args p:=by unfold dF;rw[awq (λh=>hp h.symm)]
theorem VU{args:List Arg}{i:Nat}{e:TypeId}{r:ax}{l:List r.den}(hi:i<args.length)(p:Nat)(hp:p / 64=i):dF (args.set i (.own e r l)) p=if p=i*64+49 then some (.arr e r l false)else none:=by
 unfold dF;rw[hp,awM hi];by_cases h:p=i*64+49
 .subst h;have:Nat.beq ((i*64+49)%64) 49=true:=by have:(i*64+49)%64=49:=abn;rw[this];rfl
  simp[this]
 .have:Nat.beq (p%64) 49=false:=by
   cases hb:Nat.beq (p%64) 49 with
   |false=>rfl
   |true=>have:=avs hb;omega
  simp[this,h]
theorem aks{args:List Arg}{i:Nat}{v:SV}(ha:args[i]? =some (.sv v))(p:Nat)(hp:p / 64=i):dF args p=none:=by unfold dF;rw[hp,ha]
def Lr(γ:Nat->Value)(i:Nat)(o:Nat):Value:=if o=i*64+49 then .slice none 0 0 else γ o
theorem oC.mono{X Y:V}(h:X.le Y):∀(a:Arg)(v:Value),oC X a v->oC Y a v
 |.sv x,v,H=>dM.mono h x v H
 |.kp cs,v,H=>aT.mono h (.fF cs 0) v H
 |.fn f caps,v,H=>aT.mono h (.fn f caps) v H
 |.own _ _ _,_,H|.ptr _,_,H=>H.elim
theorem KY.mono{X Y:V}(h:X.le Y)(i:Nat):∀(a:Arg)(v:Value),KY X i a v->KY Y i a v
 |.own _ _ _,v,H=>aS.mono h (.ref (i*64+49)) v H
 |.ptr _,v,H=>aT.mono h (.bM (i*64+48) 0) v H
 |.sv x,v,H=>oC.mono h (.sv x) v H
 |.kp cs,v,H=>oC.mono h (.kp cs) v H
 |.fn f caps,v,H=>oC.mono h (.fn f caps) v H
theorem wS.nil{X Y:V}(h:X.le Y){e:TypeId}{r:ax}:∀(args:List Arg)(vs:List Value)(j i:Nat),args[i]? =some (.sv (.one .nil))->
 Y.ah ((j+i)*64+49)=some (.arr e r [] false)->Y.γ ((j+i)*64+49)=.slice none 0 0->wS X j args vs->wS Y j (args.set i (.own e r [])) vs
 |[],[],_,i,ha,_,_,_=>by simp at ha
 |[],_::_,_,_,_,_,_,H=>H.elim
 |_::_,[],_,_,_,_,_,H=>H.elim
 |a::args,v::vs,j,0,ha,ho,hγ,⟨h1,h2⟩=>by
  have ha:a=.sv (.one .nil):=by simpa using ha
  subst ha;have hv:v=.slice none 0 0:=h1;refine⟨⟨⟨e,r,[],false,ho⟩,?_,asZ⟩,?_⟩
  .rw[hv];exact hγ.symm
  .show wS Y (j+1) args vs;clear h1 ha ho hγ hv;generalize j+1=k at h2
   induction args generalizing k vs with
   |nil=>cases vs with
    |nil=>trivial
    |cons _ _=>exact h2.elim
   |cons b args ih=>cases vs with
    |nil=>exact h2.elim
    |cons u vs=>exact⟨KY.mono h k b u h2.1,ih vs (k+1) h2.2⟩
 |a::args,v::vs,j,i+1,ha,ho,hγ,⟨h1,h2⟩=>by have e1:j+(i+1)=j+1+i:=abn;rw[e1]at ho hγ;exact⟨KY.mono h j a v h1,wS.nil h args vs (j+1) i (by simpa using ha) ho hγ h2⟩
theorem jq.aqJ{con VT:Dt}(i:Nat)(e:TypeId)(r:ax)(hr:0<r.len)(h:jq P G f con)
 (hc:∀args p ρ,VT args=some (p,ρ)->p->args[i]? =some (.sv (.one .nil))/\(∀t,mr (ρ.aH t) (i*64+49)=none)/\∃q,con (args.set i (.own e r []))=some (q,ρ)/\q):jq P G f VT:=by
 intro args p ρ hcon hp;obtain⟨ha,hF,q,hq1,hq⟩:=hc args p ρ hcon hp;have hlen:i<args.length:=by have:=avG.1 ha;exact this.1
 obtain⟨hex,hcall⟩:=h _ q ρ hq1 hq;refine⟨hex,λk S γ vs w hG hrep o6 hsep hfree=>?_⟩;have hO:∀o,o≠i*64+49->dF (args.set i (.own e r [])) o=dF args o:=by
  intro o ho;by_cases hd:o / 64=i
  .rw[VU hlen o hd,aks ha o hd,if_neg ho]
  .exact ajE hd
 have hN:dF (args.set i (.own e r [])) (i*64+49)=some (.arr e r [] false):=by rw[VU hlen _ abn,if_pos rfl]
 have hN':dF args (i*64+49)=none:=aks ha _ abn;have hγN:Lr γ i (i*64+49)=.slice none 0 0:=if_pos rfl;have hγ:∀o,o≠i*64+49->Lr γ i o=γ o:=λo ho=>if_neg ho;have hne:∀o x,dF args o=some x->o≠i*64+49:=λo x ho e=>by rw[e,hN']at ho;cases ho
 have le:V.le ⟨w,w.heap.size,S,γ,dF args⟩ ⟨w,w.heap.size,S,Lr γ i,dF (args.set i (.own e r []))⟩:=by
  refine⟨avt _,λb hb=>⟨⟨hb.1,hb.2.1,λo x hx=>?_⟩,rfl⟩,λo cs hx=>⟨⟨cs,?_⟩,hγ o (hne o _ hx)⟩,λo e r l fr hx=>⟨⟨l,fr,?_⟩,hγ o (hne o _ hx)⟩⟩
  .by_cases ho:o=i*64+49
   .show blk (Lr γ i o)≠some b;rw[ho,hγN];intro hh;cases hh
   .show blk (Lr γ i o)≠some b;rw[hγ o ho];exact hb.2.2 o x ((hO o ho).symm.trans hx)
  .exact(hO o (hne o _ hx)).trans hx
  .exact(hO o (hne o _ hx)).trans hx
 have hbl:∀b,uy (dF (args.set i (.own e r []))) (Lr γ i) b↔uy (dF args) γ b:=by
  intro b;constructor
  .rintro⟨o,x,h1,h2⟩;by_cases ho:o=i*64+49
   .rw[ho,hγN]at h2;cases h2
   .exact⟨o,x,(hO o ho)▸h1,(hγ o ho)▸h2⟩
  .rintro⟨o,x,h1,h2⟩;exact⟨o,x,(hO o (hne o x h1)).trans h1,by rw[hγ o (hne o x h1)];exact h2⟩
 refine av2 (hcall k S (Lr γ i) vs w hG (wS.nil (Y:=⟨w,w.heap.size,S,Lr γ i,dF (args.set i (.own e r []))⟩) le args vs.toList 0 i ha (by rw[avV];exact hN) (by rw[avV];exact hγN) hrep) ?_ ?_ hfree) ?_
 .intro o x hx;by_cases ho:o=i*64+49
  .subst ho;rw[hN]at hx;cases hx;refine⟨⟨[],?_,hr,λb hb=>?_,λj x hj=>by simp at hj⟩,λb hb=>?_⟩
   .show w.ownsRow 0 e r.len (Lr γ i (i*64+49)) 0 [];rw[hγN];exact axv w 0 e r.len
   .have hb:blk (Lr γ i (i*64+49))=some b:=hb;rw[hγN]at hb;cases hb
   .rw[hγN]at hb;cases hb
  .have hx':dF args o=some x:=(hO o ho)▸hx;have:=o6 o x hx';refine⟨bn.mono le o x (λb _=>rfl) (hγ o ho) this.1,λb hb=>this.2 b ((hγ o ho)▸hb)⟩
 .intro o x q y b hx hy hoq hb;by_cases ho:o=i*64+49
  .rw[ho,hγN]at hb;cases hb
  by_cases hq':q=i*64+49
  .rw[hq',hγN];intro hh;cases hh
  rw[hγ o ho]at hb;rw[hγ q hq'];exact hsep o x q y b ((hO o ho)▸hx) ((hO q hq')▸hy) hoq hb
 .rintro en w' ⟨t,ht,v,γ',h1,h2,h3,h4,h5,h6,h7,h8,h9,h10⟩;have alx:∀o x,mr (ρ.aH t) o=some x->o≠i*64+49:=λo x ho e=>by rw[e,hF t]at ho;cases ho
  have hL:qj S (args.set i (.own e r [])) (ρ.aH t) (Lr γ i)=qj S args (ρ.aH t) γ:=by
   funext b
   apply propext;constructor
   .rintro⟨a1,a2⟩;refine⟨a1.imp_right (hbl b).1,λq y hy=>?_⟩;have:=a2 q y hy
    rwa [hγ q (alx q y hy)]at this
   .rintro⟨a1,a2⟩;refine⟨a1.imp_right (hbl b).2,λq y hy=>?_⟩;rw[hγ q (alx q y hy)];exact a2 q y hy
  rw[hL]at h7 h8 h10;refine⟨t,ht,v,γ',h1,h2,h3,h4,h5,λb hb hn=>h6 b hb (λh=>hn ((hbl b).1 h)),h7,λo x hx=>?_,h9,λo x hx=>?_⟩
  .obtain⟨a1,a2⟩:=h8 o x hx;refine⟨a1,λb hb=>?_⟩;obtain⟨b1,b2,b3⟩:=a2 b hb;refine⟨b1,b2.imp_right (hbl b).1,λq y hy=>?_⟩;have:=b3 q y hy
   rwa [hγ q (alx q y hy)]at this
  .obtain⟨a1,a2⟩:=h10 o x hx;exact⟨a1.trans (hγ o (alx o x hx)),a2⟩
theorem amQ{l:List iq}{e:TypeId}{r:ax}{rest:List iJ}{bI:List pR}{F:jw (.ptr l:: .own e r::rest)->Prop×(lT bI×lg (.ptr l:: .own e r::rest)->Prop)}
 {F':jw (.ptr l:: .p (.v (.one .nil))::rest)->Prop×(lT bI×lg (.ptr l:: .own e r::rest)->Prop)} (hr:0<r.len) (h:jq P G f (qf (.ptr l:: .own e r::rest) bI F))
 (hF:∀a x,(F' (a,(),x)).1->(F (a,[],x)).1) (hF2:∀a x,(F' (a,(),x)).1->(F' (a,(),x)).2=(F (a,[],x)).2):jq P G f (qf (.ptr l:: .p (.v (.one .nil))::rest) bI F'):=by
 refine jq.aqJ 1 e r hr h λargs p ρ hcon hp=>?_
 match args,hcon with
 |[],hcon=>simp[qf,iR]at hcon
 |[a],hcon=>
  have:iR (.ptr l:: .p (.v (.one .nil))::rest) [a]=none:=by simp only[iR];split<;>simp_all
  simp[qf,this]at hcon
 |a::b::args,hcon=>
  cases ha:(iJ.ptr l).read a with
  |none=>simp[qf,iR,ha]at hcon
  |some a'=>
  cases hb:(iJ.p (.v (.one .nil))).read b with
  |none=>simp[qf,iR,ha,hb]at hcon
  |some b'=>
  cases hx:iR rest args with
  |none=>simp[qf,iR,ha,hb,hx]at hcon
  |some x=>
   have hb2:b=.sv (.one .nil):=by
    cases b with
    |sv s=>cases s with
     |one c=>cases c with
      |nil=>rfl
      |int k n=>cases hb
      |bool k=>cases hb
      |str k=>cases hb
      |sl e r l fr=>cases hb
      |ref o=>cases hb
      |junk=>cases hb
     |agg cs=>cases hb
    |_=>cases hb
   subst hb2;simp only[qf,iR,ha,hb,hx]at hcon;have hcon:=Option.some.inj hcon;have h1:(F' (a',(),x)).1=p:=congrArg Prod.fst hcon;have h2:(⟨lT bI×lg (.ptr l:: .own e r::rest),(F' (a',(),x)).2,λt=>⟨iQ bI t.1,none⟩,λt=>jT (.ptr l:: .own e r::rest) t.2⟩:Jr)=ρ:=congrArg Prod.snd hcon;have hp':(F' (a',(),x)).1:=h1▸hp;subst h2;refine⟨rfl,λt=>rfl,(F (a',[],x)).1,?_,hF a' x hp'⟩
   .have ho:(iJ.own e r).read (.own e r [])=some []:=by unfold iJ.read;simp only[awi];rw[dif_pos (ax.H6 r)];rfl
    simp only[List.set_cons_succ,List.set_cons_zero,qf,iR,ha,ho,hx];have:=hF2 a' x hp';exact congrArg (λz=>some ((F (a',[],x)).1,(⟨lT bI×lg (.ptr l:: .own e r::rest),z,λt=>⟨iQ bI t.1,none⟩,λt=>jT (.ptr l:: .own e r::rest) t.2⟩:Jr))) this.symm
end Go.Fw
namespace Go.Fw
open Go
theorem af{b:Bool}{A B:Prop}(h1:b=true->A)(h2:b=false->B):cond b A B:=by
 cases b
 .exact h2 rfl
 .exact h1 rfl
theorem iE{D:Type}{A:(D->Prop)->Prop}{R:D->Prop}(f:D)(h1:A λy=>y=f)(h2:R f):∃J:D->Prop,A J/\∀y,J y->R y:=
 ⟨λy=>y=f,h1,λ_ hy=>hy▸h2⟩
theorem drop_cons{α:Type}(a:List α)(n:Nat)(d:α)(h:n<a.length):a.drop n=a.getD n d::a.drop (n+1):=by rw[awY h,avr,avv h,axP]
theorem fD(z:Int)(h:-9223372036854775808<=z/\z<=9223372036854775807):IntKind.i64.wrap z=z:=IntWalk.i64_in z abn
theorem maxLen_eq:maxLen=9223372036854775807:=abA
theorem iH:big=4294967296:=rfl
theorem getD_mem{α:Type}{l:List α}{n:Nat}{d:α}(h:n<l.length):l.getD n d∈l:=by rw[avr,avv h,axP];exact awV h
end Go.Fw
namespace Go.Fw
open Go
def aqK(w:World)(S:Nat->Prop)(k:Nat)(out:Out)(e:Ending)(w':World):Prop:=
 ∃v vals,e=.returned v/\w'.os=w.os/\w'.tape=w.tape/\w'.output=w.output/\w.heap.size<=w'.heap.size/\
    (∀b,b<w.heap.size->w'.heap[b]? =w.heap[b]?)/\
    aT ⟨w',w.heap.size,S,vals,Fw.look (out.take k).2⟩ (out.take k).1 v/\
    (∀o x,Fw.look (out.take k).2 o=some x->bn ⟨w',w.heap.size,S,vals,Fw.look (out.take k).2⟩ o x/\∀b,blk (vals o)=some b->w.heap.size<=b/\b<w'.heap.size)/\
    (∀o x q y b,Fw.look (out.take k).2 o=some x->Fw.look (out.take k).2 q=some y->o≠q->blk (vals o)=some b->blk (vals q)≠some b)
theorem ahZ{w w':World}{S:Nat->Prop}{k:Nat}{s:Bytes}(hos:w'.os=w.os)(htape:w'.tape=w.tape)(hout:w'.output=w.output)(hsize:w.heap.size<=w'.heap.size)
 (aqL:∀b,b<w.heap.size->w'.heap[b]? =w.heap[b]?) (hs:s.length<=maxLen):aqK w S k ⟨[(false,[.plain (.str s)])],none⟩ (.returned (.string ⟨s.toArray⟩)) w':=
 ⟨_,λ_=>undef,rfl,hos,htape,hout,hsize,aqL,⟨rfl,hs⟩,(λo x hx=>afg),(λo x q y b hx=>afg)⟩
end Go.Fw
namespace Go.Fw
open Go
variable {P:Program}
theorem ajF{s:iJ}{sh:List iJ}:∀{args:List Arg}{d:jw (s::sh)},iR (s::sh) args=some d->∃x xs,args=x::xs/\s.read x=some d.1/\iR sh xs=some d.2
 |[],_,h=>aqN
 |x::xs,d,h=>by
  rw[iR]at h;split at h
  .next a b h1 h2=>cases h;exact⟨x,xs,rfl,h1,h2⟩
  .cases h
theorem aly:∀{args:List Arg}{d:jw []},iR [] args=some d->args=[]
 |[],_,_=>rfl
 |_::_,_,h=>aqN
end Go.Fw
namespace Go.Fw
open Go
variable {P:Program} {H:Type} {enc:TypeId×Value->H} {w:World}
theorem Un(hl:laidOutB P=true){base:Nat}{sp':Nat->Bool}{W W':World}:∀(ts:List TypeId)(_:ts.all (λt=>P.readableRec t&&decide (t<P.types.size))=true)
 (vs:List Value) (ds:List (DataW H)) (ps:List MemPlace),DataW.TrodAll enc P W base (λ_=>true) true ts vs ds ps->(∀p∈ps,W.sameAt W' p)->(∀p∈ps,sp' p.block=true)->DataW.TrodAll enc P W' base sp' true ts vs ds ps
 |[],_,vs,ds,ps,h,_,_=>by
  cases vs<;>cases ds<;>simp[DataW.TrodAll]at h ⊢;exact h
 |t::ts,ht,vs,ds,ps,h,h1,h2=>by
  rw[awH,avo,avo]at ht;cases vs with
  |nil=>cases ds<;>simp[DataW.TrodAll]at h
  |cons v vs=>
   cases ds with
   |nil=>simp[DataW.TrodAll]at h
   |cons d ds=>
    obtain⟨a,b,g1,g2,rfl⟩:=h;exact⟨a,b,WideElems.Trod_stays hl ht.1.1 (awQ ht.1.2) g1 (λp hp=>h1 p (awg _ hp)) (λp hp=>h2 p (awg _ hp)),
     Un hl ts ht.2 vs ds b g2 (λp hp=>h1 p (awz _ hp)) (λp hp=>h2 p (awz _ hp)),rfl⟩
theorem trodAll_length{base:Nat}{sp:Nat->Bool}{hd:Bool}{W:World}:∀(ts:List TypeId)(vs:List Value)(ds:List (DataW H))(ps:List MemPlace),DataW.TrodAll enc P W base sp hd ts vs ds ps->ds.length=ts.length
 |[],vs,ds,ps,h=>by cases vs<;>cases ds<;>simp[DataW.TrodAll]at h ⊢
 |t::ts,vs,ds,ps,h=>by
  cases vs with
  |nil=>cases ds<;>simp[DataW.TrodAll]at h
  |cons v vs=>
   cases ds with
   |nil=>simp[DataW.TrodAll]at h
   |cons d ds=>obtain⟨a,b,g1,g2,rfl⟩:=h;simp[trodAll_length ts vs ds b g2]
theorem an8{fn:Func}{s:ChangeSpec}{apart fresh handsOn again:Bool}{W W':World}{args:Array Value}{ds gs:List (DataW H)}{before:List MemPlace}{tb:TypeId}
 (hvars:s.vars=[]) (hspec:∀l:List (DataW H),l.length=fn.params.toList.length->(s.fn H l).results=[.lit (.bool true)]/\(s.fn H l).args=l/\(s.fn H l).vars=[])
 (hres:fn.resultTypes=#[tb]) (hb:P.underlying tb=some .bool) (hl:laidOutB P=true) (hread:fn.params.toList.all (λt=>P.readableRec t&&decide (t<P.types.size))=true)
 (hW:DataW.Whole enc P fn.params.toList s.vars apart W args.toList ds gs before) (hos:W'.os=W.os) (hout:W'.output=W.output) (hheap:∀b,b<W.heap.size->W'.heap[b]? =W.heap[b]?):
 s.post enc P fn apart fresh handsOn again W args (.bool true) W':=by
 have hlt:=hW.lt;have hW0:=hW;obtain⟨p,q,hA,hV,hpq,hz,hn⟩:=hW;rw[hvars]at hV;have hg:gs=[]/\q=[]:=by
  cases gs with
  |nil=>exact⟨rfl,hV⟩
  |cons g gs=>simp[DataW.TrodVars]at hV
 obtain⟨rfl,rfl⟩:=hg;rw[avU]at hpq;subst hpq;have hlen:=trodAll_length _ _ _ _ hA;obtain⟨r1,r2,r3⟩:=hspec (ds++[]) (by simpa using hlen);rw[avU]at r1 r2 r3;have hsame:∀x∈before,W.sameAt W' x:=λx hx=>an7 hheap (hlt x hx);have R:∀(b:Nat)(sp:Nat->Bool)(hd:Bool),DataW.TrodAll enc P W' b sp hd fn.resultTypes.toList ((Value.bool true).resultList fn.resultTypes.size) [.lit (.bool true)] []:=by intro b sp hd;rw[hres];exact⟨[],[],⟨1,by simp[DataW.trod,Value.cells,hb]⟩,rfl,rfl⟩
 have A:∀sp:Nat->Bool,(∀x∈before,sp x.block=true)->DataW.TrodAll enc P W' 0 sp true fn.params.toList args.toList ds before:=λsp hsp=>Un hl _ hread _ _ _ hA hsame hsp;have hold:∀x∈before,(λb=>decide (b<W.heap.size)) x.block=true:=λx hx=>by simpa using hlt x hx
 refine⟨ds,[],before,[],before,[],hW0,?_,?_,?_,an6 hos hout hheap _,λ_=>⟨?_,.lit (.bool true)::ds,[],before,⟨before,[],?_,?_,acA,?_,hn⟩,λx hx _=>hx⟩⟩
 .rw[avU,r1];exact R _ _ _
 .rw[avU,r2];exact A _ hold
 .rw[avU,r3,hvars];rfl
 .intro j t r h1 h2;rw[hres]at h1 h2
  match j with
  |0=>
   simp[Value.resultList]at h1 h2;subst h1 h2;simp[Value.okWide,hb,Go.Cell.okWide,Go.Cell.ok]
  |j+1=>simp at h1
 .exact ChangeShapes.trodAll_append (A _ (λ_ _=>rfl)) (R _ _ _)
 .rw[hvars];rfl
 .intro b off hp;have hbl:=hlt _ hp;have e:W'.frozen? ⟨b,off,none⟩=W.frozen? ⟨b,off,none⟩:=by unfold World.frozen?;simp only;rw[hheap b hbl]
  rw[e];exact hz b off hp
end Go.Fw
namespace Go.Fw
open Go
end Go.Fw
namespace Go.Fw
open Go
theorem Yj{H:Type}{enc:TypeId×Value->H}{C:Checked}{G:jX}{os:Os}{f:FuncId}{fn:Func}{s:ChangeSpec}{conds:List PathCond}{apart fresh handsOn again:Bool}{tb:TypeId}{sh:List iG}{F:jy sh->Prop×Out}
 {X:World->Prop} (hX:∀w w':World,w.heap=w'.heap->X w->X w')
 (own:ownKnob C.prog.godebug=none) (started:os.Started) (noInit:C.prog.inits.idxOf? f=none) (hfn:C.prog.funcs[f]? =some fn)
 (witness:∃(w:World)(tape:Tape)(i:Input),w.os=os/\(w.forCall tape i).Shaped C.prog/\i.vars=[]/\Input.okWide C.prog (w.forCall tape i) .any w.heap.size f i/\
   ((s.pre enc C.prog fn conds apart (w.forCall tape i).memory i.args/\X (w.forCall tape i).memory)/\sizedMet enc C.prog fn (OpenSpec.ofChange s) apart (w.forCall tape i).memory i.args)/\({}:Assume).holds C.prog (lone (Frame.enter C.prog f i.args .normal) [] (w.forCall tape i)))
 (hcon:fJ C.prog G f (wU sh F)) (hsh:Lp C.prog fn.params.toList=some sh) (hF:∀x,JV sh x->(F x).1/\(F x).2=ad8) (hG:∀w,X w->w.ShapedOpen C.prog->G.ok w)
 (hvars:s.vars=[]) (hspec:∀l:List (DataW H),l.length=fn.params.toList.length->(s.fn H l).results=[.lit (.bool true)]/\(s.fn H l).args=l/\(s.fn H l).vars=[])
 (hres:fn.resultTypes=#[tb]) (hb:C.prog.underlying tb=some .bool) (hl:laidOutB C.prog=true) (hread:fn.params.toList.all (λt=>C.prog.readableRec t&&decide (t<C.prog.types.size))=true):
 ReturnsInHanded {} C os f .any (λw args=>(s.pre enc C.prog fn conds apart w args/\X w)/\sizedMet enc C.prog fn (OpenSpec.ofChange s) apart w args) (s.post enc C.prog fn apart fresh handsOn again):=by
 refine returnsInHanded_of_calls own started noInit witness ?_;intro w tape i _ apU _ hok hpre _;obtain⟨_,_,_,fn',hfn',_,_,_,_,hval⟩:=hok;have e:fn'=fn:=Option.some.inj (hfn'.symm.trans hfn);subst e;obtain⟨⟨⟨ds,gs,before,hw,hc⟩,hx⟩,hz⟩:=hpre;have hW:=DataW.Whole.of_heap (w':=w.forCall tape i) aqT hw;have hW0:=hW;obtain⟨p,q,hA,_⟩:=hW;refine(amP hcon hsh hF (hG (w.forCall tape i) (hX _ _ aqT hx) apU) hA hval).mono ?_;rintro e W' ⟨rfl,h1,h2,_,h3⟩;exact ChangeSpec.post_blind (an8 hvars hspec hres hb hl hread hW0 h1 h2 h3)
end Go.Fw
