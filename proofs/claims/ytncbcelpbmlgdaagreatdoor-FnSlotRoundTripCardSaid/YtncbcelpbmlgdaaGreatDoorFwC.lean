import Derived.Test.YtncbcelpbmlgdaaGreatDoorFwD
import Derived.Test.YtncbcelpbmlgdaaGreatDoorFwB
import Derived.Test.YtncbcelpbmlgdaaGreatDoorFwA
import Derived.ChangeArms
import Derived.WideKeyArgs
import Derived.ChangeSame
import Derived.ChangeOld
import Derived.Handed
import Derived.IntWalk
import Derived.Laws.IdiomCopy
import Derived.ProofKit
namespace Go.Fw
open Go
variable {P:Program} {w0:World} {M:Nat->Prop} {T:Ext} {γ γ':Nat->Value} {st:St} {a:Act} {w w':World} {Θ:jm} {Γ:kM}
structure G9 where
 akF:List Vz
 c:Shape
 v:Shape
structure Hints where
 own:Nat->Bool
 loops:Nat->Option G9
 cuts:Nat->Option G9
 upd:List Nat
 frz:Nat->List Pre
def xI:Code->Option Nat
 |.region id _ _=>some id
 |.seq x y=>match xI x with|some n=>some n|none=>xI y
 |.cond _ x y=>match xI x with|some n=>some n|none=>xI y
 |.block _ x|.loop x=>xI x
 |_=>none
def cutAt(H:Hints)(y:Code):Option G9:=match xI y with
 |some n=>H.cuts n
 |none=>none
def FN(Θ:jm)(Γ:kM)(H:Hints):Code->(Exit->St->Prop)->St->Prop
 |.skip,Q,st=>Q .normal st
 |.region id ops false,Q,st=>Q5 (H.frz id) (runs Θ Γ H.own ops.toList (Q .normal) ops.toList) st
 |.region id ops true,Q,st=>Q5 (H.frz id) (Nb Θ Γ H.own H.upd ops.toList (Q .normal)) st
 |.seq x y,Q,st=>match cutAt H y with
  |none=>FN Θ Γ H x (λe s=>match e with|.normal=>FN Θ Γ H y Q s|e=>Q e s) st
  |some sp=>match sp.c.read (only sp.c sp.v st)with
   |some x0=>∃(J:sp.v.den->Prop),FN Θ Γ H x (λe s=>match e with
     |.normal=>match settles s sp.akF with
      |some s1=>match Nat.beq s1.n st.n,sp.c.read (only sp.c sp.v s1),sp.v.read (only sp.c sp.v s1)with
       |true,some x1,some y1=>x1=x0/\J y1
       |_,_,_=>False
      |none=>False
     |e=>Q e s) st/\∀y1,J y1->FN Θ Γ H y Q (joint st.n sp.c sp.v x0 y1)
   |none=>False
 |.cond c x y,Q,st=>match st.ev c with
  |.sv (.one (.bool b))=>cond b (FN Θ Γ H x Q st) (FN Θ Γ H y Q st)
  |_=>False
 |.block id c,Q,st=>FN Θ Γ H c (λe s=>match e with
  |.exit i=>match Nat.beq i id with|true=>Q .normal s|false=>Q (.exit i) s
  |e=>Q e s) st
 |.exit id,Q,st=>Q (.exit id) st
 |.ret,Q,st=>Q .ret st
 |.loop c,Q,st=>match xI c with
  |some n=>match H.loops n with
   |some sp=>match settles st sp.akF with
    |some s0=>match sp.c.read (only sp.c sp.v s0),sp.v.read (only sp.c sp.v s0)with
     |some x0,some y0=>∃(I:sp.v.den->Prop)(μ:sp.v.den->Nat),I y0/\∀y,I y->
       FN Θ Γ H c (λe s=>match e with
        |.normal=>match settles s sp.akF with
         |some s1=>match Nat.beq s1.n s0.n,sp.c.read (only sp.c sp.v s1),sp.v.read (only sp.c sp.v s1)with
          |true,some x1,some y1=>x1=x0/\I y1/\μ y1<μ y
          |_,_,_=>False
         |none=>False
        |e=>Q e s) (joint s0.n sp.c sp.v x0 y)
     |_,_=>False
    |none=>False
   |none=>False
  |none=>False
 |_,_,_=>False
theorem VA{G:jT}(hE:ru P G Θ Γ w0 M)(hm:P.follows .mixedOrders=true)(H:Hints):∀(c:Code)(QA:Exit->St->Prop)(Q:Exit->Act->World->Prop)(st:St)(γ:Nat->Value)(a:Act)(w:World),
 Rel w0 M T γ st a w->FN Θ Γ H c QA st->(∀e s γ' a' w',QA e s->Rel w0 M T γ' s a' w'->Q e a' w')->c.wp P Q a w:=by
 intro c
 induction c with
 |skip=>intro QA Q st γ a w h ha hQ;exact wp_skip (hQ _ _ _ _ _ ha h)
 |region id ops d=>
  intro QA Q st γ a w h ha hQ;cases d with
  |false=>
   obtain⟨s0,γ0,h0,hk0⟩:=Cj (K:=runs Θ Γ H.own ops.toList (QA .normal) ops.toList) (H.frz id) st γ h ha;exact ag8 hE h0 hk0 λs γ' a' w' hK hR=>hQ _ _ _ _ _ hK hR
  |true=>
   obtain⟨s0,γ0,h0,hk0⟩:=Cj (K:=Nb Θ Γ H.own H.upd ops.toList (QA .normal)) (H.frz id) st γ h ha;exact alW hE hm h0 hk0 λs γ' a' w' hK hR=>hQ _ _ _ _ _ hK hR
 |seq x y ihx ihy=>
  intro QA Q st γ a w h ha hQ;rw[FN]at ha;split at ha
  .refine wp_seq (ihx _ _ st γ a w h ha ?_);intro e s γ' a' w' hq hR;cases e<;>first|exact ihy _ _ s γ' a' w' hR hq hQ|exact hQ _ _ _ _ _ hq hR
  .next sp hsp=>
   split at ha
   .next x0 hx=>
    obtain⟨J,h1,h2⟩:=ha;refine wp_seq (ihx _ _ st γ a w h h1 ?_);intro e s γ' a' w' hq hR;cases e with
    |normal=>
     simp only at hq;split at hq
     .next s1 hs1=>
      split at hq
      .next x1 y1 hsn hx1 hy1=>obtain⟨rfl,hJ⟩:=hq;obtain⟨γ1,hR1⟩:=Rel.settles _ hR hs1;have hR2:=hR1.joint hx1 hy1;rw[auG hsn]at hR2;exact ihy _ _ _ γ1 a' w' hR2 (h2 _ hJ) hQ
      .exact hq.elim
     .exact hq.elim
    |_=>exact hQ _ _ _ _ _ hq hR
   .exact ha.elim
 |cond c x y ihx ihy=>
  intro QA Q st γ a w h ha hQ;rw[FN]at ha;split at ha
  .next b hb=>
   have hv:a.eval c=.bool b:=by have:=iW h c;rw[hb]at this;exact this
   refine wp_cond_split hv (λe=>?_) (λe=>?_)
   .subst e;exact ihx _ _ st γ a w h ha hQ
   .subst e;exact ihy _ _ st γ a w h ha hQ
  .exact ha.elim
 |block id c ih=>
  intro QA Q st γ a w h ha hQ;refine wp_block (ih _ _ st γ a w h ha ?_);intro e s γ' a' w' hq hR;cases e with
  |exit i=>
   simp only[Exit.inBlock];cases hb:Nat.beq i id with
   |true=>
    simp only[hb]at hq;rw[if_pos (auG hb)];exact hQ _ _ _ _ _ hq hR
   |false=>
    simp only[hb]at hq;rw[if_neg (by rintro rfl;simp at hb)];exact hQ _ _ _ _ _ hq hR
  |_=>exact hQ _ _ _ _ _ hq hR
 |loop c ih=>
  intro QA Q st γ a w h ha hQ;rw[FN]at ha;split at ha
  .split at ha
   .next sp hsp=>
    split at ha
    .next s0 hs0=>
     split at ha
     .next x0 y0 hx hy=>
      obtain⟨I,μ,h0,hI⟩:=ha;obtain⟨γ0,hR0⟩:=Rel.settles _ h hs0
      let J:sp.v.den->Act->World->Prop:=λy a' w'=>∃γ',Rel w0 M T γ' (joint s0.n sp.c sp.v x0 y) a' w'
      have key:∀(n:Nat)(y:sp.v.den),μ y=n->I y->∀a' w',J y a' w'->∀(b:Frame)(k:List Item)(cs:List Frame),
       ∃e a'' w'',Q e a'' w''/\Arrives P (lone (b.at a' (.code c:: .inLoop c::k)) cs w') b k cs e a'' w'':=by
       intro n
       induction n using Nat.strongRecOn with
       |_ n ihn=>
        intro y hμ hy' a' w' ⟨γ',hR⟩ b k cs;have hbody:=ih _ (Exit.then (λa2 w2=>∃y2,I y2/\μ y2<μ y/\J y2 a2 w2) Q) _ γ' a' w' hR (hI y hy') ?_
        .obtain⟨e,a1,w1,hq,harr⟩:=hbody b (.inLoop c::k) cs;cases e with
         |normal=>
          obtain⟨y2,hI2,hlt,hJ2⟩:=hq;obtain⟨e2,a2,w2,hq2,aqR⟩:=ihn (μ y2) (hμ▸hlt) y2 rfl hI2 a1 w1 hJ2 b k cs;exact⟨e2,a2,w2,hq2,.of_steps (Steps.trans harr (.one step_inLoop)) aqR⟩
         |exit id=>exact⟨_,a1,w1,hq,.pass (x:=.inLoop c) rfl (λ_ _=>.inl abZ) harr⟩
         |goto l=>exact⟨_,a1,w1,hq,.pass (x:=.inLoop c) rfl (λ_ _=>.inl abZ) harr⟩
         |ret=>exact⟨_,a1,w1,hq,.pass (x:=.inLoop c) rfl (λ_ _=>.inl abZ) harr⟩
         |panic ch=>exact⟨_,a1,w1,hq,.pass (x:=.inLoop c) rfl (λ_ _=>.inl abZ) harr⟩
         |outgrown=>exact⟨_,a1,w1,hq,.pass (x:=.inLoop c) rfl (λ_ _=>.inl abZ) harr⟩
        .intro e s γ2 a2 w2 hq hR2;cases e with
         |normal=>
          simp only at hq;split at hq
          .next s1 hs1=>
           split at hq
           .next x1 y1 hsn hx1 hy1=>obtain⟨rfl,hI1,hlt⟩:=hq;obtain⟨γ3,jW⟩:=Rel.settles _ hR2 hs1;have hJ:=jW.joint hx1 hy1;rw[auG hsn]at hJ;exact⟨y1,hI1,hlt,_,hJ⟩
           .exact hq.elim
          .exact hq.elim
         |_=>exact hQ _ _ _ _ _ hq hR2
      intro b k cs;obtain⟨e,a',w',hq,harr⟩:=key _ y0 rfl h0 a w ⟨_,hR0.joint hx hy⟩ b k cs;exact⟨e,a',w',hq,.of_steps (.one step_loop) harr⟩
     .exact ha.elim
    .exact ha.elim
   .exact ha.elim
  .exact ha.elim
 |rangeFunc f ps x y ihx ihy=>intro QA Q st γ a w h ha hQ;exact ha.elim
 |exit id=>intro QA Q st γ a w h ha hQ;exact wp_exit (hQ _ _ _ _ _ ha h)
 |scope c ih=>intro QA Q st γ a w h ha hQ;exact ha.elim
 |label l=>intro QA Q st γ a w h ha hQ;exact ha.elim
 |goto l=>intro QA Q st γ a w h ha hQ;exact ha.elim
 |ret=>intro QA Q st γ a w h ha hQ;exact wp_ret (hQ _ _ _ _ _ ha h)
 |refuse s=>intro QA Q st γ a w h ha hQ;exact ha.elim
def Arg.av:Arg->AV
 |.sv v=>.sv v
 |.kp cs=>.fA cs 0
 |.fn f caps=>.fn f caps
 |.own _ _ _|.ptr _=>.undef
def entry(n:Nat)(args:List Arg):St:=
 {n:=n,tmps:=λt=>match args[t]? with|some v=>v.av|none=>.undef,ah:=λ_=>none}
def Nc(st:St)(o:Nat):Bool:=match st.ah o with|some (.arr _ _ _ _)=>true|_=>false
def aa6(Θ:jm)(st:St):ResultVar->Option SV
 |.tmp t=>match st.tmps t with|.sv v=>some v|_=>none
 |.cell t ty=>match Θ ty,st.tmps t with
  |some ti,.bK o off=>match st.ah o with
   |some (.var cs)=>lH ti cs off
   |_=>none
  |_,_=>none
def KJ(Θ:jm)(st:St):List ResultVar->Option (List SV)
 |[]=>some []
 |r::rs=>match aa6 Θ st r,KJ Θ st rs with
  |some v,some vs=>some (v::vs)
  |_,_=>none
def outOf:SV->Bool×List fC
 |.one c=>(false,[.plain c])
 |.agg cs=>(true,cs.map .plain)
def outs:List SV->List (Bool×List fC)
 |[]=>[]
 |v::vs=>outOf (v.kill λ_=>true)::outs vs
def fin(Θ:jm)(rv:List ResultVar)(st:St):Option Out:=
 match KJ Θ (st.freeze (Nc st)) rv with
 |some vs=>some ⟨outs vs,none⟩
 |none=>none
theorem Nh:∀(k:Nat)(cs:List Cell),jM k (cs.map .plain)=(cs,[])
 |_,[]=>rfl
 |k,c::cs=>by simp only[auX,jM,Nh (k+1) cs,fC.take,au7]
theorem aiY(k:Nat)(v:SV):vS k (outOf v)=(v,[]):=by
 cases v with
 |one c=>rfl
 |agg cs=>simp only[vS,outOf,Nh]
theorem ao7(v:Value)(t:TypeId)(b off:Nat)(hv:v=.pointer (some ⟨b,off,none⟩)):Instr.loadAt t v=(do loadVar t (← asAddr v)):=by subst hv;rfl
def Iz(tmps:Array Value):ResultVar->Sem Value
 |.tmp t=>pure (tmps.getD t undef)
 |.cell x t=>do loadVar t (← asAddr (tmps.getD x undef))
theorem Q8(fn:Func)(tmps:Array Value):results fn tmps=(do let vs ← fn.results.mapM (Iz tmps);pure (if h:vs.size=1 then vs[0]else .tuple vs)):=by unfold results;congr 1
theorem aha(hΘ:∀t ti,Θ t=some ti->lI P t ti)(h:Rel w0 M T γ st a w){r:ResultVar}{v:SV}(hf:aa6 Θ st r=some v):
 ∃u,(Iz a.tmps r).run P w=.ok u w/\dF (aj w0 T γ st w) v u:=by
 cases r with
 |tmp t=>
  simp only[aa6]at hf;split at hf
  .next e=>cases hf;have:=h.tmps t;rw[e]at this;exact⟨_,rfl,this⟩
  .cases hf
 |cell x t=>
  simp only[aa6]at hf;split at hf
  .next ti o off ht hx=>
   split at hf
   .next cs ho=>have hv:=h.tmps x;rw[hx]at hv;obtain⟨b,cs',_,_,hv'⟩:=hv;obtain⟨u,hu,hr⟩:=MS hΘ h ht (x:=.tmp x) (.inl ⟨o,off,cs,hx,ho,hf⟩);refine⟨u,?_,hr⟩;rw[Iz,← ao7 _ t b off hv'];exact hu
   .cases hf
  .cases hf
theorem KL(hΘ:∀t ti,Θ t=some ti->lI P t ti)(h:Rel w0 M T γ st a w):∀(rs:List ResultVar)(vs:List SV),KJ Θ st rs=some vs->
 ∃us,(rs.mapM (Iz a.tmps)).run P w=.ok us w/\
  dG (aj w0 T γ st w) vs us
 |[],vs,hf=>by cases hf;exact⟨[],rfl,trivial⟩
 |r::rs,vs,hf=>by
  rw[KJ]at hf;split at hf
  .next v vs' h1 h2=>cases hf;obtain⟨u,hu,hr⟩:=aha hΘ h h1;obtain⟨us,hus,hrs⟩:=KL hΘ h rs vs' h2;refine⟨u::us,?_,hr,hrs⟩;rw[axY,au3,hu];simp only[avu,au3,hus,avG]
  .cases hf
theorem dG.length{X:V}:∀(cs:List SV)(vs:List Value),dG X cs vs->vs.length=cs.length
 |[],[],_=>rfl
 |_::cs,_::vs,⟨_,h⟩=>by simp[dG.length cs vs h]
 |[],_::_,H|_::_,[],H=>afG
theorem dG.get{X:V}:∀(cs:List SV)(vs:List Value)(i:Nat)(c:SV),dG X cs vs->cs[i]? =some c->∃v,vs[i]? =some v/\dF X c v
 |[],_,_,_,_,h=>amd
 |c::cs,v::vs,0,d,⟨h1,_⟩,h=>aqj
 |c::cs,v::vs,i+1,d,⟨_,h2⟩,h=>by
  obtain⟨u,hu,hr⟩:=dG.get cs vs i d h2 acs;exact⟨u,aoO,hr⟩
 |_::_,[],_,_,H,_=>afG
theorem oq.length{X:V}:∀(cs:List Arg)(vs:List Value),oq X cs vs->vs.length=cs.length
 |[],[],_=>rfl
 |_::cs,_::vs,⟨_,h⟩=>by simp[oq.length cs vs h]
 |[],_::_,H|_::_,[],H=>afG
theorem oq.get{X:V}:∀(cs:List Arg)(vs:List Value)(i:Nat)(c:Arg),oq X cs vs->cs[i]? =some c->∃v,vs[i]? =some v/\oh X c v
 |[],_,_,_,_,h=>amd
 |c::cs,v::vs,0,d,⟨h1,_⟩,h=>aqj
 |c::cs,v::vs,i+1,d,⟨_,h2⟩,h=>by
  obtain⟨u,hu,hr⟩:=oq.get cs vs i d h2 acs;exact⟨u,aoO,hr⟩
 |_::_,[],_,_,H,_=>afG
theorem oh.av{X:V}:∀(c:Arg)(v:Value),oh X c v->aP X c.av v
 |.sv _,_,h|.kp _,_,h|.fn _ _,_,h=>h
 |.own _ _ _,_,h|.ptr _,_,h=>h.elim
theorem alY{args:List Arg}{vs:Array Value}{S:Nat->Prop}(n:Nat)(hn:args.length<=n)
 (h:oq ⟨w,w.heap.size,S,λ_=>undef,λ_=>none⟩ args vs.toList):
 Rel w (λ_=>False) ⟨S,λ_=>none,λ_ _ h=>afH⟩ (λ_=>undef) (entry n args) {tmps:=vs++Array.replicate (n-vs.size) undef,defers:=[]} w:=by
 have hl:vs.size=args.length:=by simpa using oq.length _ _ h
 refine⟨λ_ h=>h.elim,rfl,?_,rfl,rfl,rfl,auH _,λ_ _ _=>rfl,λt=>?_,(λo x hx=>aeZ),(λo x b hx=>aeZ),(λo x p y b hx=>aeZ),(λo v cs hN=>by cases hN)⟩
 .simp[entry];omega
 .simp only[entry];cases ha:args[t]? with
  |none=>trivial
  |some v=>
   obtain⟨u,hu,hr⟩:=oq.get _ _ t v h ha;have:(vs++Array.replicate (n-vs.size) undef).getD t undef=u:=by
    have hlt:t<args.length:=by
     rcases au2 t args.length with h'|h'
     .exact h'
     .rw[avF h']at ha;cases ha
    have hlt':t<vs.size:=aaV;rw[awC,awH hlt'];have:vs[t]? =some u:=aoO;rw[this];rfl
   rw[this];exact oh.av v u hr
end Go.Fw
namespace Go.Fw
def codeOf(fn:Func):Code:=match fn.body with|some c=>c|none=>.skip
def aa7:List (Nat×TI)->jm
 |[],_=>none
 |(t,x)::r,i=>match Nat.beq i t with|true=>some x|false=>aa7 r i
def H8:List (Nat×Jb)->kM
 |[],_=>none
 |(t,x)::r,i=>match Nat.beq i t with|true=>some x|false=>H8 r i
def akG:List (Nat×G9)->Nat->Option G9
 |[],_=>none
 |(t,x)::r,i=>match Nat.beq i t with|true=>some x|false=>akG r i
def aoF:List (Nat×List Pre)->Nat->List Pre
 |[],_=>[]
 |(n,z)::r,i=>match Nat.beq i n with|true=>z|false=>aoF r i
def hints(own:List Nat)(l c:List (Nat×G9))(u:List Nat)(z:List (Nat×List Pre)):Hints:=⟨aK own,akG l,akG c,u,aoF z⟩
end Go.Fw
namespace Go.Fw
open Go
variable {P:Program} {Θ:jm} {Γ:kM}
inductive oC where
 |one (c:gY)
 |agg (l:List gY)
@[reducible] def oC.den:oC->Type
  |.one c=>c.den
  |.agg l=>lT l
def oC.val:(s:oC)->s.den->SV
 |.one c,x=>.one (c.cell x)
 |.agg l,x=>.agg (iw l x)
def oC.read:(s:oC)->SV->Option s.den
 |.one c,.one x=>c.read x
 |.agg l,.agg xs=>jO l xs
 |_,_=>none
theorem oC.weak{X:V}(s:oC)(x:SV)(d:s.den)(v:Value)(hr:s.read x=some d)(hv:dF X x v):dF X (s.val d) v:=by
 unfold oC.read at hr;split at hr
 .exact gY.weak _ _ _ _ hr hv
 .obtain⟨vs,e,h⟩:=hv;exact⟨vs,e,DC _ _ _ _ hr h⟩
 .cases hr
@[reducible] def mr:List oC->Type
  |[]=>Unit
  |s::r=>s.den×mr r
def qO:(l:List oC)->mr l->List SV
 |[],_=>[]
 |s::r,x=>s.val x.1::qO r x.2
def Po:(l:List oC)->List SV->Option (mr l)
 |[],[]=>some ()
 |s::r,x::xs=>match s.read x,Po r xs with
  |some a,some b=>some (a,b)
  |_,_=>none
 |_,_=>none
theorem alZ{X:V}:∀(l:List oC)(xs:List SV)(d:mr l)(vs:List Value),Po l xs=some d->dG X xs vs->dG X (qO l d) vs
 |[],[],_,_,_,hv=>hv
 |s::r,x::xs,d,vs,hr,hv=>by
  rw[Po]at hr;split at hr
  .next a b h1 h2=>
   cases hr;cases vs with
   |nil=>cases hv
   |cons v vs=>exact⟨oC.weak s x a v h1 hv.1,alZ r xs b vs h2 hv.2⟩
  .cases hr
 |[],_::_,_,_,hr,_=>by simp[Po]at hr
 |_::_,[],_,_,hr,_=>by simp[Po]at hr
mutual
def CT.rC:(c:CT)->c.den->Prop
 |.int k,(n:Int)=>k.min<=n/\n<=k.max
 |.bool,_=>True
 |.str,(s:Bytes)=>s.length<=maxLen
 |.sl _ r,(l:List r.den)=>l.length<=maxLen/\∀x∈l,r.rC x
def au.rC:(r:au)->r.den->Prop
 |.nil,_=>True
 |.cons c r,x=>c.rC x.1/\r.rC x.2
end
mutual
theorem bY.rC{h:Array Obj}{S:Nat->Prop}:∀(c:CT)(v:Value)(x:c.den),bY h S c v x->c.rC x
 |.int k,v,(n:Int),H=>by rw[bY]at H;rw[CT.rC];exact H.2
 |.bool,v,(b:Bool),H=>by rw[CT.rC];trivial
 |.str,v,(s:Bytes),H=>by rw[bY]at H;rw[CT.rC];exact H.2
 |.sl e r,v,(l:List r.den),H=>by
  rw[bY]at H;rw[CT.rC];refine⟨H.1,λx hx=>?_⟩;obtain⟨i,hi,rfl⟩:=aws.1 hx;rcases H.2 with⟨hnil,_⟩|⟨b,off,cap,cs,t,fz,_,_,_,_,hr⟩
  .subst hnil;simp at hi
  .exact aH.rC r _ _ (hr i _ (auJ hi))
theorem aH.rC{h:Array Obj}{S:Nat->Prop}:∀(r:au)(vs:List Value)(x:r.den),aH h S r vs x->r.rC x
 |.nil,vs,_,H=>by rw[au.rC];trivial
 |.cons c r,vs,(x,y),H=>by rw[aH]at H;obtain⟨v,vs',_,h1,h2⟩:=H;rw[au.rC];exact⟨bY.rC c v x h1,aH.rC r vs' y h2⟩
end
def gY.rC:(c:gY)->c.den->Prop
 |.int k,(n:Int)=>k.min<=n/\n<=k.max
 |.str,(s:Bytes)=>s.length<=maxLen
 |.sl _ r _,(l:List r.den)=>l.length<=maxLen/\∀x∈l,r.rC x
 |_,_=>True
def XC:(l:List gY)->lT l->Prop
 |[],_=>True
 |c::r,x=>c.rC x.1/\XC r x.2
def oC.rC:(s:oC)->s.den->Prop
 |.one c,x=>c.rC x
 |.agg l,x=>XC l x
theorem gY.XD{X:V}(c:gY)(x:c.den)(v:Value)(h:aO X (c.cell x) v):c.rC x:=by
 cases c with
 |int k=>exact h.2
 |str=>exact h.2
 |sl e r fr=>
  have h':bY X.w.heap (X.bW fr) (.sl e r) v x:=h;have:=bY.rC (.sl e r) v x h';rw[CT.rC]at this;exact this
 |_=>trivial
theorem IA{X:V}:∀(l:List gY)(x:lT l)(vs:List Value),ai X (iw l x) vs->XC l x
 |[],_,_,_=>trivial
 |c::r,x,v::vs,h=>⟨gY.XD c x.1 v h.1,IA r x.2 vs h.2⟩
 |_::_,_,[],h=>afH
inductive iE where
 |v (s:oC)
 |kp (l:List gY)
 |fn (f:FuncId) (l:List (List gY))
@[reducible] def iE.den:iE->Type
  |.v s=>s.den
  |.kp l=>lT l
  |.fn _ l=>Aw l
def iE.val:(s:iE)->s.den->Arg
 |.v s,x=>.sv (s.val x)
 |.kp l,x=>.kp (iw l x)
 |.fn f l,x=>.fn f (Iw l x)
def iE.read:(s:iE)->Arg->Option s.den
 |.v s,.sv x=>s.read x
 |.kp l,.kp xs=>jO l xs
 |.fn f l,.fn g xs=>match Nat.beq f g with|true=>Eu l xs|false=>none
 |_,_=>none
theorem iE.weak{X:V}(s:iE)(x:Arg)(d:s.den)(v:Value)(hr:s.read x=some d)(hv:oh X x v):oh X (s.val d) v:=by
 unfold iE.read at hr;split at hr
 .exact oC.weak _ _ _ _ hr hv
 .obtain⟨b,e,hk⟩:=hv;exact⟨b,e,aeT hr hk⟩
 .split at hr
  .next hb=>obtain⟨us,e,hk⟩:=hv;rw[iE.val,auG hb];exact⟨us,e,Vx _ _ _ _ hr hk⟩
  .cases hr
 .cases hr
@[reducible] def jr:List iE->Type
  |[]=>Unit
  |s::r=>s.den×jr r
def uy:(l:List iE)->jr l->List Arg
 |[],_=>[]
 |s::r,x=>s.val x.1::uy r x.2
def FO:(l:List iE)->List Arg->Option (jr l)
 |[],[]=>some ()
 |s::r,x::xs=>match s.read x,FO r xs with
  |some a,some b=>some (a,b)
  |_,_=>none
 |_,_=>none
theorem DI{X:V}:∀(l:List iE)(xs:List Arg)(d:jr l)(vs:List Value),FO l xs=some d->oq X xs vs->oq X (uy l d) vs
 |[],[],_,_,_,hv=>hv
 |s::r,x::xs,d,vs,hr,hv=>by
  rw[FO]at hr;split at hr
  .next a b h1 h2=>
   cases hr;cases vs with
   |nil=>cases hv
   |cons v vs=>exact⟨iE.weak s x a v h1 hv.1,DI r xs b vs h2 hv.2⟩
  .cases hr
 |[],_::_,_,_,hr,_=>by simp[FO]at hr
 |_::_,[],_,_,hr,_=>by simp[FO]at hr
theorem Ub:∀(l:List iE)(d:jr l),(uy l d).length=l.length
 |[],_=>rfl
 |_::r,d=>by simp[uy,Ub r d.2]
def ado:(l:List (List gY))->Aw l->Prop
 |[],_=>True
 |c::r,x=>XC c x.1/\ado r x.2
def iE.rC:(s:iE)->s.den->Prop
 |.v s,x=>s.rC x
 |.kp l,x=>XC l x
 |.fn _ l,x=>ado l x
def JB:(l:List iE)->jr l->Prop
 |[],_=>True
 |s::r,x=>s.rC x.1/\JB r x.2
theorem YK{X:V}:∀(l:List (List gY))(x:Aw l)(us:List Value),eP X (Iw l x) us->ado l x
 |[],_,_,_=>trivial
 |c::r,x,u::us,h=>by
  obtain⟨⟨b,hu,arr,t,fz,hf,hh,hc⟩,h2⟩:=h;exact⟨IA c x.1 _ hc,YK r x.2 us h2⟩
 |_::_,_,[],h=>afH
theorem BI{X:V}:∀(l:List iE)(x:jr l)(vs:List Value),oq X (uy l x) vs->JB l x
 |[],_,_,_=>trivial
 |.v (.one c)::r,x,v::vs,h=>⟨gY.XD c x.1 v h.1,BI r x.2 vs h.2⟩
 |.v (.agg l)::r,x,v::vs,h=>by
  obtain⟨ws,hv,hc⟩:=h.1;exact⟨IA l x.1 _ hc,BI r x.2 vs h.2⟩
 |.kp l::r,x,v::vs,h=>by
  obtain⟨b,hu,arr,t,fz,hf,hh,hc⟩:=h.1;exact⟨IA l x.1 _ hc,BI r x.2 vs h.2⟩
 |.fn f l::r,x,v::vs,h=>by
  obtain⟨us,hv,hk⟩:=h.1;exact⟨YK l x.1 _ hk,BI r x.2 vs h.2⟩
 |_::_,_,[],h=>afH
def wS(sh:List iE)(F:jr sh->Prop×Out):EI:=λargs=>
 match FO sh args with
 |some x=>some (F x)
 |none=>none
def zS:List SV->List (Bool×List fC)
 |[]=>[]
 |v::vs=>outOf v::zS vs
theorem Pq:∀(k:Nat)(vs:List SV),iH k (zS vs)=(vs,[])
 |_,[]=>rfl
 |k,v::vs=>by simp only[zS,iH,aiY,Pq,au7]
def aa8(Θ:jm)(rv:List ResultVar)(bH:List oC)(K:mr bH->Prop)(e:Exit)(st:St):Prop:=
 match e with
 |.normal|.ret=>match KJ Θ (st.freeze (Nc st)) rv with
  |some vs=>match Po bH (vs.map (SV.kill λ_=>true))with
   |some d=>K d
   |none=>False
  |none=>False
 |_=>False
theorem ao8{G:jT}(hE:EnvB P G Θ Γ)(hm:P.follows .mixedOrders=true){f:FuncId}{fn:Func}{c:Code}(hf:P.funcs[f]? =some fn)(hb:fn.body=some c)(H:Hints){con:EI}{bH:List oC}
 (hwalk:∀args p out,con args=some (p,out)->p->Nat.ble args.length fn.ntmps=true/\∃d:mr bH,out=⟨zS (qO bH d),none⟩/\FN Θ Γ H c (aa8 Θ fn.results.toList bH λy=>y=d) (entry fn.ntmps args)):fD P G f con:=by
 intro args p out k S vs w hcon hp hG hrep;obtain⟨hn,d,hout,hw⟩:=hwalk args p out hcon hp;subst hout;have hn':args.length<=fn.ntmps:=by simpa[awZ]using hn
 refine calls_of_wp hf hb (VA ⟨hE,hG,λb hb=>hb.elim⟩ hm H c _ _ _ _ _ _ (alY (S:=S) fn.ntmps hn' hrep) hw ?_);have hret:∀s γ' a' w',aa8 Θ fn.results.toList bH (λy=>y=d) .ret s->Rel w (λ_=>False) ⟨S,λ_=>none,λ_ _ h=>afH⟩ γ' s a' w'->bodyPost P fn (λe w'=>∃v vals,e=.returned v/\w'.os=w.os/\w'.tape=w.tape/\w'.output=w.output/\w.heap.size<=w'.heap.size/\
  (∀b,b<w.heap.size->w'.heap[b]? =w.heap[b]?)/\
  aP ⟨w',w.heap.size,S,vals,look (Out.take k ⟨zS (qO bH d),none⟩).2⟩ (Out.take k ⟨zS (qO bH d),none⟩).1 v/\
  (∀o x,look (Out.take k ⟨zS (qO bH d),none⟩).2 o=some x->aZ ⟨w',w.heap.size,S,vals,look (Out.take k ⟨zS (qO bH d),none⟩).2⟩ o x/\∀b,blk (vals o)=some b->w.heap.size<=b/\b<w'.heap.size)/\
  (∀o x q y b,look (Out.take k ⟨zS (qO bH d),none⟩).2 o=some x->look (Out.take k ⟨zS (qO bH d),none⟩).2 q=some y->o≠q->blk (vals o)=some b->blk (vals q)≠some b)) .ret a' w':=by
  intro s γ' a' w' he hR;refine⟨hR.defers,?_⟩;simp only[aa8]at he;split at he
  .next svs hvs=>
   split at he
   .next y hy=>
    subst he;have hRf:=hR.freeze (Nc s);obtain⟨us,hus,hrs⟩:=KL hE.types hRf _ _ hvs;have hk0:=dG.kill (λ_=>true) hRf svs us hrs;have hk:=alZ bH _ y us hy hk0;have htake:Out.take k ⟨zS (qO bH y),none⟩=(match qO bH y with|[v]=>.sv v|l=>.mD l,[]):=by unfold Out.take;simp only[Pq];rcases qO bH y with _|⟨v,_|⟨v2,r⟩⟩<;>rfl
    have hmap:(fn.results.mapM (Iz a'.tmps)).run P w'=.ok us.toArray w':=by rw[axa,Sem.run_map,hus];rfl
    refine⟨if h:us.toArray.size=1 then us.toArray[0]else .tuple us.toArray,?_,_,γ',rfl,hR.os,hR.tape,hR.output,hR.grow,λb hb=>hR.kept b hb (λh=>h),?_,?_,?_⟩
    .rw[Q8,au3,hmap];simp only[avu,avG]
    .rw[htake];have hl:=dG.length _ _ hk
     match hm:qO bH y,us,hk,hl with
     |[v],[u],hk,_=>exact hk.1
     |[],[],hk,_=>exact⟨_,abZ,hk⟩
     |v::v2::r,u::u2::us,hk,hl=>exact⟨_,abZ,hk⟩
     |[],_::_,hk,h4|_::_,[],hk,h4|[_],_::_::_,hk,h4|_::_::_,[_],hk,h4=>simp at h4
    .intro o x hx;rw[htake]at hx;cases hx
    .intro o x q y b hx;rw[htake]at hx;cases hx
   .exact he.elim
  .exact he.elim
 intro e s γ' a' w' he hR;cases e with
 |normal=>exact hret s γ' a' w' he hR
 |ret=>exact hret s γ' a' w' he hR
 |_=>exact he.elim
def ig(sh:List iE)(bH:List oC)(F:jr sh->Prop×mr bH):EI:=wS sh λx=>((F x).1,⟨zS (qO bH (F x).2),none⟩)
theorem adp{G:jT}(hE:EnvB P G Θ Γ)(hm:P.follows .mixedOrders=true){f:FuncId}{fn:Func}{c:Code}(hf:P.funcs[f]? =some fn)(hb:fn.body=some c)(H:Hints)
 {sh:List iE} {bH:List oC} {F:jr sh->Prop×mr bH} (hn:Nat.ble sh.length fn.ntmps=true)
 (hwalk:∀x,JB sh x->(F x).1->FN Θ Γ H c (aa8 Θ fn.results.toList bH λy=>y=(F x).2) (entry fn.ntmps (uy sh x))):fD P G f (ig sh bH F):=by
 have base:∀x,JB sh x->fD P G f (λargs=>@ite _ (args=uy sh x) (Classical.propDecidable _) (some ((F x).1,⟨zS (qO bH (F x).2),none⟩)) none):=by
  intro x hin;refine ao8 (bH:=bH) hE hm hf hb H ?_;intro args p out hcon hp;split at hcon
  .next e=>
   have hF:((F x).1,(⟨zS (qO bH (F x).2),none⟩:Out))=(p,out):=by simpa using hcon
   have h1:(F x).1=p:=congrArg Prod.fst hF;have h2:(⟨zS (qO bH (F x).2),none⟩:Out)=out:=congrArg Prod.snd hF;have:=hwalk x hin (by rw[h1];exact hp);rw[e];exact⟨by rw[Ub];exact hn,(F x).2,h2.symm,this⟩
  .cases hcon
 intro args p out k S vs w hcon hp hG hrep;unfold ig wS at hcon;split at hcon
 .next x hx=>have hv:=DI sh args x vs.toList hx hrep;exact base x (BI sh x _ hv) (uy sh x) p out k S vs w (by simp only[if_true];exact hcon) hp hG hv
 .cases hcon
inductive RC where
 |c (s:gY)
 |own (e:TypeId) (r:au) (fr:Bool)
@[reducible] def RC.den:RC->Type
  |.c s=>s.den
  |.own _ r _=>List r.den
@[reducible] def aa9:List RC->Type
  |[]=>Unit
  |c::r=>c.den×aa9 r
def RC.akH:(c:RC)->c.den->fC
 |.c s,x=>.plain (s.cell x)
 |.own e r fr,l=>.own e r l fr
def adq:(l:List RC)->aa9 l->List fC
 |[],_=>[]
 |c::r,x=>c.akH x.1::adq r x.2
inductive pF where
 |one (c:RC)
 |agg (l:List RC)
@[reducible] def pF.den:pF->Type
  |.one c=>c.den
  |.agg l=>aa9 l
@[reducible] def lN:List pF->Type
  |[]=>Unit
  |s::r=>s.den×lN r
def pF.out:(s:pF)->s.den->Bool×List fC
 |.one c,x=>(false,[c.akH x])
 |.agg l,x=>(true,adq l x)
def iM:(l:List pF)->lN l->List (Bool×List fC)
 |[],_=>[]
 |s::r,x=>s.out x.1::iM r x.2
def RC.name:RC->Cell->Option Nat
 |.own _ _ _,.ref o=>some o
 |_,_=>none
def adr:List RC->List Cell->List (Option Nat)
 |c::r,x::xs=>c.name x::adr r xs
 |_,_=>[]
def pF.names:pF->SV->List (Option Nat)
 |.one c,.one x=>[c.name x]
 |.agg l,.agg xs=>adr l xs
 |_,_=>[]
def Az:List pF->List SV->List (Option Nat)
 |s::r,x::xs=>s.names x++Az r xs
 |_,_=>[]
def RC.read(st:St):(c:RC)->Cell->Option c.den
 |.c s,x=>match x.refs with|[]=>s.read x|_=>none
 |.own e r fr,.ref o=>match st.ah o with
  |some (.arr f s l g)=>match Nat.beq e f&&KI fr g with
   |true=>if h:s.beq r=true then some (tV h l)else none
   |false=>none
  |_=>none
 |.own _ r _,.nil=>match Nat.ble 1 r.len with|true=>some []|false=>none
 |_,_=>none
def Pv(st:St):(l:List RC)->List Cell->Option (aa9 l)
 |[],[]=>some ()
 |c::r,x::xs=>match c.read st x,Pv st r xs with
  |some a,some b=>some (a,b)
  |_,_=>none
 |_,_=>none
def pF.read(st:St):(s:pF)->SV->Option s.den
 |.one c,.one x=>c.read st x
 |.agg l,.agg xs=>Pv st l xs
 |_,_=>none
def BJ(st:St):(l:List pF)->List SV->Option (lN l)
 |[],[]=>some ()
 |s::r,x::xs=>match s.read st x,BJ st r xs with
  |some a,some b=>some (a,b)
  |_,_=>none
 |_,_=>none
inductive iG where
 |p (s:iE)
 |own (e:TypeId) (r:au)
 |ptr (l:List gY)
@[reducible] def iG.den:iG->Type
  |.p s=>s.den
  |.own _ r=>List r.den
  |.ptr l=>lT l
def iG.mode:iG->Mode
 |.p _=>.val
 |.own _ _=>.own
 |.ptr _=>.ptr
def iG.val:(s:iG)->s.den->Arg
 |.p s,x=>s.val x
 |.own e r,l=>.own e r l
 |.ptr l,x=>.ptr (iw l x)
def iG.read:(s:iG)->Arg->Option s.den
 |.p s,x=>s.read x
 |.own e r,.own f s l=>match Nat.beq e f with
  |true=>if h:s.beq r=true then some (tV h l)else none
  |false=>none
 |.ptr l,.ptr cs=>jO l cs
 |_,_=>none
@[reducible] def jq:List iG->Type
  |[]=>Unit
  |s::r=>s.den×jq r
def rQ:(l:List iG)->jq l->List Arg
 |[],_=>[]
 |s::r,x=>s.val x.1::rQ r x.2
def iO:(l:List iG)->List Arg->Option (jq l)
 |[],[]=>some ()
 |s::r,x::xs=>match s.read x,iO r xs with
  |some a,some b=>some (a,b)
  |_,_=>none
 |_,_=>none
@[reducible] def kX:List iG->Type
  |[]=>Unit
  |.ptr l::r=>lT l×kX r
  |.p _::r|.own _ _::r=>kX r
def jP:(l:List iG)->kX l->List Eff
 |[],_=>[]
 |.ptr l::r,x=>.var (iw l x.1)::jP r x.2
 |.p _::r,x|.own _ _::r,x=>.lose::jP r x
def IB(st:St):(i:Nat)->(l:List iG)->Option (kX l)
 |_,[]=>some ()
 |i,.ptr l::r=>match st.ah (i*64+48),IB st (i+1) r with
  |some (.var cs),some b=>match cs.flatMap Cell.refs,jO l cs with
   |[],some a=>some (a,b)
   |_,_=>none
  |_,_=>none
 |i,.p _::r|i,.own _ _::r=>IB st (i+1) r
def Arg.avX(i:Nat):Arg->AV
 |.own _ _ _=>.sv (.one (.ref (i*64+49)))
 |.ptr _=>.bK (i*64+48) 0
 |a=>a.av
def DJ(n:Nat)(args:List Arg):St:=
 {n:=n,tmps:=λt=>match args[t]? with|some v=>v.avX t|none=>.undef,ah:=dn args}
def abb(st:St)(W:List (Option Nat))(o:Nat):Bool:=Nc st o&&!(Vd o W)
def agp(Θ:jm)(rv:List ResultVar)(sh:List iG)(bH:List pF)(K:lN bH×kX sh->Prop)(e:Exit)(st:St):Prop:=
 match e with
 |.normal|.ret=>match KJ Θ st rv with
  |some svs=>match KJ Θ (st.freeze (abb st (Az bH svs))) rv with
   |some vs=>match yR (Az bH vs),BJ (st.freeze (abb st (Az bH svs))) bH vs,IB (st.freeze (abb st (Az bH svs))) 0 sh with
    |true,some d,some b=>K (d,b)
    |_,_,_=>False
   |none=>False
  |none=>False
 |_=>False
def pV(sh:List iG)(bH:List pF)(F:jq sh->Prop×(lN bH×kX sh->Prop)):CZ:=λargs=>
 match iO sh args with
 |some x=>some ((F x).1,⟨lN bH×kX sh,(F x).2,λt=>⟨iM bH t.1,none⟩,λt=>jP sh t.2⟩)
 |none=>none
def Dw(sh:List iG):List Mode:=sh.map iG.mode
end Go.Fw
namespace Go.Fw
open Go
variable {P:Program} {w0:World} {M:Nat->Prop} {T:Ext} {γ γ':Nat->Value} {st:St} {a:Act} {w w':World} {Θ:jm} {Γ:kM}
def ads(args:List Arg)(γ:Nat->Value)(o:Nat):Option Value:=match dn args o with|some (.var _)=>some (γ o)|_=>none
theorem anj{args:List Arg}{o:Nat}{cs:List Cell}(h:dn args o=some (.var cs)):o%64=48:=by
 unfold dn at h;split at h
 .split at h<;>cases h
 .split at h
  .next hm=>exact auG hm
  .cases h
 .cases h
def VB(args:List Arg)(γ:Nat->Value)(S:Nat->Prop):Ext where
 S:=λb=>S b\/uw (dn args) γ b
 N:=ads args γ
 n48:=by
  intro p v h;unfold ads at h;split at h
  .next cs hc=>exact anj hc
  .cases h
theorem wR.get{X:V}:∀(as:List Arg)(vs:List Value)(i:Nat),wR X i as vs->as.length=vs.length/\∀(j:Nat)(b:Arg),as[j]? =some b->∃v,vs[j]? =some v/\KC X (i+j) b v
 |[],[],_,_=>⟨rfl,λj b h=>amd⟩
 |x::as,v::vs,i,⟨h1,h2⟩=>by
  obtain⟨g1,g2⟩:=wR.get as vs (i+1) h2;refine⟨by simp[g1],λj b hb=>?_⟩;cases j with
  |zero=>simp at hb;subst hb;exact⟨v,rfl,h1⟩
  |succ j=>
   obtain⟨u,hu,hr⟩:=g2 j b (by simpa using hb);exact⟨u,aoO,by rw[show i+(j+1)=i+1+j from aaV];exact hr⟩
 |[],_::_,_,H|_::_,[],_,H=>afG
theorem KC.av{X:V}(i:Nat):∀(c:Arg)(v:Value),KC X i c v->aP X (c.avX i) v
 |.own _ _ _,_,h=>h
 |.ptr _,_,h=>h
 |.sv _,_,h|.kp _,_,h|.fn _ _,_,h=>h
theorem abd{args:List Arg}{vs:Array Value}{S:Nat->Prop}(n:Nat)(hn:args.length<=n)
 (h:wR ⟨w,w.heap.size,S,γ,dn args⟩ 0 args vs.toList)
 (ho:∀o x,dn args o=some x->aZ ⟨w,w.heap.size,S,γ,dn args⟩ o x/\∀b,blk (γ o)=some b->b<w.heap.size)
 (hs:∀o x q y b,dn args o=some x->dn args q=some y->o≠q->blk (γ o)=some b->blk (γ q)≠some b):
 Rel w (uw (dn args) γ) (VB args γ S) γ (DJ n args) {tmps:=vs++Array.replicate (n-vs.size) undef,defers:=[]} w:=by
 obtain⟨hl0,hget⟩:=wR.get _ _ 0 h;have hl:vs.size=args.length:=by simpa using hl0.symm
 have le:V.le ⟨w,w.heap.size,S,γ,dn args⟩ ⟨w,w.heap.size,(VB args γ S).S,γ,dn args⟩:=
  ⟨auH _,λb hb=>⟨⟨hb.1,λhlt=>.inl (hb.2.1 hlt),hb.2.2⟩,rfl⟩,λo cs hx=>⟨⟨cs,hx⟩,rfl⟩,λo e r l fr hx=>⟨⟨l,fr,hx⟩,rfl⟩⟩
 refine⟨λb hb=>.inr hb,rfl,?_,rfl,rfl,rfl,auH _,λ_ _ _=>rfl,λt=>?_,λo x hx=>aZ.mono le o x (λ_ _=>rfl) rfl (ho o x hx).1,λo x b hx hb=>⟨(ho o x hx).2 b hb,.inr ⟨o,x,hx,hb⟩⟩,λo x p y b hx hy hop hb=>hs o x p y b hx hy hop hb,λo v cs hN hx=>?_⟩
 .simp[DJ];omega
 .simp only[DJ];cases ha:args[t]? with
  |none=>trivial
  |some v=>
   obtain⟨u,hu,hr⟩:=hget t v ha;have:(vs++Array.replicate (n-vs.size) undef).getD t undef=u:=by
    have hlt:t<args.length:=by
     rcases au2 t args.length with h'|h'
     .exact h'
     .rw[avF h']at ha;cases ha
    have hlt':t<vs.size:=aaV;rw[awC,awH hlt'];have:vs[t]? =some u:=aoO;rw[this];rfl
   rw[this];rw[au8]at hr;exact aP.mono le _ _ (KC.av t v u hr)
 .have hx':dn args o=some (.var cs):=hx;have hN':ads args γ o=some v:=hN;unfold ads at hN';rw[hx']at hN';exact Option.some.inj hN'
def AW(a a':Arg):Prop:=
 (∃e r l,a=.own e r l/\a'=.own e r l)\/(∃cs cs',a=.ptr cs/\a'=.ptr cs'/\∀(X:V) vs,ai X cs vs->ai X cs' vs)\/
 ((∀(X:V) v,aP X a.av v->aP X a'.av v)/\(∀i,a.avX i=a.av)/\(∀i,a'.avX i=a'.av)/\(∀e r l,a≠ .own e r l)/\(∀cs,a≠ .ptr cs)/\(∀e r l,a'≠ .own e r l)/\(∀cs,a'≠ .ptr cs))
theorem iE.akI{s:iE}{x:Arg}{d:s.den}(h:s.read x=some d):AW x (s.val d):=by
 refine .inr (.inr ⟨λX v hv=>?_,?_⟩)
 .have hx:oh X x v:=by
   cases x with
   |sv _|kp _|fn _ _=>exact hv
   |own _ _ _|ptr _=>cases s<;>simp[iE.read]at h
  exact oh.av _ _ (iE.weak s x d v h hx)
 .cases x<;>cases s<;>first
   |(simp[iE.read]at h;done)
   |exact⟨λ_=>rfl,λ_=>rfl,(λ_ _ _ e=>ahb),(λ_ e=>ahb),(λ_ _ _ e=>ahb),(λ_ e=>ahb)⟩
theorem iG.akI{s:iG}{x:Arg}{d:s.den}(h:s.read x=some d):AW x (s.val d):=by
 unfold iG.read at h;split at h
 .exact iE.akI h
 .next e r f s l=>
  split at h
  .next hb=>
   split at h
   .next hs=>cases h;have he:=auG hb;subst he;have hsr:=au.eq_of_beq s r hs;subst hsr;exact .inl ⟨e,s,l,rfl,rfl⟩
   .cases h
  .cases h
 .next l cs=>exact .inr (.inl ⟨cs,_,rfl,rfl,λX vs hc=>DC _ _ _ _ h hc⟩)
 .cases h
theorem JC:∀{l:List iG}{xs:List Arg}{d:jq l},iO l xs=some d->(rQ l d).length=xs.length/\∀(i:Nat)(a:Arg),xs[i]? =some a->∃a',(rQ l d)[i]? =some a'/\AW a a'
 |[],[],_,_=>⟨rfl,λi a h=>amd⟩
 |s::r,x::xs,d,h=>by
  rw[iO]at h;split at h
  .next a b h1 h2=>
   cases h;obtain⟨g1,g2⟩:=JC h2;refine⟨by simp[rQ,g1],λi c hc=>?_⟩;cases i with
   |zero=>simp at hc;subst hc;exact⟨_,rfl,iG.akI h1⟩
   |succ i=>obtain⟨c',k1,k2⟩:=g2 i c arW;exact⟨c',by simpa[rQ]using k1,k2⟩
  .cases h
 |[],_::_,_,h=>aqg
 |_::_,[],_,h=>aqg
theorem Nj{args:List Arg}{o:Nat}(h:∀b,args[o / 64]? =some b->(∀e r l,b≠ .own e r l)/\∀cs,b≠ .ptr cs):dn args o=none:=by
 unfold dn;split
 .next e r l ha=>exact((h _ ha).1 e r l rfl).elim
 .next cs ha=>exact((h _ ha).2 cs rfl).elim
 .rfl
theorem Uc{sh:List iG}{args:List Arg}{x:jq sh}(h:iO sh args=some x)(n:Nat):Covers (DJ n (rQ sh x)) (DJ n args):=by
 obtain⟨hl,hget⟩:=JC h;refine⟨rfl,λt X v hv=>?_,λo=>?_⟩
 .simp only[DJ]at hv ⊢;cases ha:args[t]? with
  |none=>
   have:(rQ sh x)[t]? =none:=by rw[axO]at ha ⊢;omega
   rw[this];trivial
  |some b=>
   obtain⟨b',hb',hw⟩:=hget t b ha;rw[ha]at hv;rw[hb'];dsimp only at hv ⊢;rcases hw with⟨e,r,l,rfl,rfl⟩|⟨cs,cs',rfl,rfl,_⟩|⟨hw,e1,e2,_⟩
   .exact hv
   .exact hv
   .rw[e1]at hv;rw[e2];exact hw X v hv
 .show(dn (rQ sh x) o=none/\dn args o=none)\/∃y y',dn args o=some y/\dn (rQ sh x) o=some y'/\G8 y y';cases ha:args[o / 64]? with
  |none=>
   have h2:(rQ sh x)[o / 64]? =none:=by rw[axO]at ha ⊢;omega
   exact .inl ⟨Nj (by rw[h2];intro b hb;cases hb),Nj (by rw[ha];intro b hb;cases hb)⟩
  |some b=>
   obtain⟨b',hb',hw⟩:=hget _ b ha;rcases hw with⟨e,r,l,rfl,rfl⟩|⟨cs,cs',rfl,rfl,hc⟩|⟨_,_,_,n1,n2,n3,n4⟩
   .unfold dn;rw[ha,hb'];dsimp only;cases hm:Nat.beq (o%64) 49 with
    |true=>exact .inr ⟨_,_,rfl,rfl,.inr ⟨e,r,l,false,false,rfl,rfl,id⟩⟩
    |false=>exact .inl ⟨rfl,rfl⟩
   .unfold dn;rw[ha,hb'];dsimp only;cases hm:Nat.beq (o%64) 48 with
    |true=>exact .inr ⟨_,_,rfl,rfl,.inl ⟨cs,cs',rfl,rfl,hc⟩⟩
    |false=>exact .inl ⟨rfl,rfl⟩
   .exact .inl ⟨Nj (by rw[hb'];intro c hc;cases hc;exact⟨n3,n4⟩),Nj (by rw[ha];intro c hc;cases hc;exact⟨n1,n2⟩)⟩
theorem YL(a b:List (Nat×ay))(p:Nat):look (a++b) p=match look b p with|some y=>some y|none=>look a p:=by
 induction a with
 |nil=>simp only[avx,look];cases look b p<;>rfl
 |cons x a ih=>obtain⟨o,z⟩:=x;rw[avH,look,ih,look];cases look b p<;>rfl
theorem tX:∀(cs:List fC)(k p:Nat)(x:ay),look (jM k cs).2 p=some x↔∃i e r l fr,p=k+i/\cs[i]? =some (.own e r l fr)/\x=.arr e r l fr
 |[],k,p,x=>by simp[jM,look]
 |c::cs,k,p,x=>by
  rw[jM,YL];have ih:=tX cs (k+1) p x;constructor
  .intro h;split at h
   .next y hy=>cases h;obtain⟨i,e,r,l,fr,h1,h2,h3⟩:=(tX cs (k+1) p x).1 hy;exact⟨i+1,e,r,l,fr,aaV,ah9,h3⟩
   .next hn=>
    cases c with
    |plain c=>simp[fC.take,look]at h
    |own e r l fr=>
     simp only[fC.take,look]at h;split at h
     .next hb=>cases h;exact⟨0,e,r,l,fr,by have:=auG hb;omega,rfl,rfl⟩
     .cases h
  .rintro⟨i,e,r,l,fr,h1,h2,rfl⟩;cases i with
   |succ i=>
    have:=(tX cs (k+1) p (.arr e r l fr)).2 ⟨i,e,r,l,fr,aaV,ah9,rfl⟩;rw[this]
   |zero=>
    simp at h2;subst h2;have hn:look (jM (k+1) cs).2 p=none:=by
     cases hl:look (jM (k+1) cs).2 p with
     |none=>rfl
     |some y=>obtain⟨i,_,_,_,_,g1,_⟩:=(tX cs (k+1) p y).1 hl;omega
    rw[hn];have hp:p=k:=aaV;subst hp;simp[fC.take,look]
def JD(rs:List (Bool×List fC)):List fC:=rs.flatMap (·.2)
theorem aiZ(k:Nat)(x:Bool×List fC):(vS k x).2=(jM k x.2).2:=by
 unfold vS;split
 .next e1 e2=>rw[e2]
 .next e1 e2=>rw[e2]
 .next e1 e2=>rw[e2]
theorem Ah:∀(rs:List (Bool×List fC))(k p:Nat)(x:ay),look (iH k rs).2 p=some x↔∃i e r l fr,p=k+i/\(JD rs)[i]? =some (.own e r l fr)/\x=.arr e r l fr
 |[],k,p,x=>by simp[iH,look,JD]
 |y::rs,k,p,x=>by
  rw[iH,YL,aiZ];have akJ:JD (y::rs)=y.2++JD rs:=rfl;constructor
  .intro h;split at h
   .next z hz=>cases h;obtain⟨i,e,r,l,fr,h1,h2,h3⟩:=(Ah rs (k+y.2.length) p x).1 hz;refine⟨y.2.length+i,e,r,l,fr,aaV,?_,h3⟩;rw[akJ,avc aaV];simpa using h2
   .obtain⟨i,e,r,l,fr,h1,h2,h3⟩:=(tX y.2 k p x).1 h;refine⟨i,e,r,l,fr,h1,?_,h3⟩;rw[akJ,avn (auT.1 h2).1];exact h2
  .rintro⟨i,e,r,l,fr,h1,h2,rfl⟩;rw[akJ]at h2;rcases au2 i y.2.length with hlt|hge
   .rw[avn hlt]at h2;have hn:look (iH (k+y.2.length) rs).2 p=none:=by
     cases hl:look (iH (k+y.2.length) rs).2 p with
     |none=>rfl
     |some z=>obtain⟨j,_,_,_,_,g1,_⟩:=(Ah rs (k+y.2.length) p z).1 hl;omega
    rw[hn];exact(tX y.2 k p _).2 ⟨i,e,r,l,fr,h1,h2,rfl⟩
   .rw[avc hge]at h2;have:=(Ah rs (k+y.2.length) p (.arr e r l fr)).2 ⟨i-y.2.length,e,r,l,fr,aaV,h2,rfl⟩;rw[this]
end Go.Fw
namespace Go.Fw
open Go
set_option linter.unusedVariables false
variable {P:Program} {w0:World} {M:Nat->Prop} {T:Ext} {γ γ':Nat->Value} {st:St} {a:Act} {w w':World} {Θ:jm} {Γ:kM}
def RF(Y:V)(c:fC)(v:Value)(n:Option Nat):Prop:=
 match c with
 |.plain x=>aO Y x v/\x.refs=[]
 |.own e r l fr=>0<r.len/\((∃o g,n=some o/\Y.ah o=some (.arr e r l g)/\KI fr g=true/\v=Y.γ o/\v.oneCell'=true)\/(l=[]/\v=.slice none 0 0))
def DK(Y:V):List fC->List Value->List (Option Nat)->Prop
 |[],[],[]=>True
 |c::cs,v::vs,n::ns=>RF Y c v n/\DK Y cs vs ns
 |_,_,_=>False
theorem DK.append{Y:V}:∀(cs:List fC)(vs:List Value)(ns:List (Option Nat))(ds:List fC)(us:List Value)(ms:List (Option Nat)),DK Y cs vs ns->DK Y ds us ms->DK Y (cs++ds) (vs++us) (ns++ms)
 |[],[],[],_,_,_,_,h=>h
 |_::cs,_::vs,_::ns,ds,us,ms,⟨h1,h2⟩,h=>⟨h1,DK.append cs vs ns ds us ms h2 h⟩
theorem DK.length{Y:V}:∀(cs:List fC)(vs:List Value)(ns:List (Option Nat)),DK Y cs vs ns->cs.length=vs.length
 |[],[],[],_=>rfl
 |_::cs,_::vs,_::ns,⟨_,h2⟩=>by simp[DK.length cs vs ns h2]
theorem DK.get{Y:V}:∀(cs:List fC)(vs:List Value)(ns:List (Option Nat))(i:Nat)(c:fC),DK Y cs vs ns->cs[i]? =some c->∃v n,vs[i]? =some v/\ns[i]? =some n/\RF Y c v n
 |[],[],[],i,c,_,h=>amd
 |x::cs,v::vs,n::ns,0,c,⟨h1,_⟩,h=>by simp at h;subst h;exact⟨v,n,rfl,rfl,h1⟩
 |x::cs,v::vs,n::ns,i+1,c,⟨_,h2⟩,h=>by obtain⟨u,m,g1,g2,g3⟩:=DK.get cs vs ns i c h2 acs;exact⟨u,m,by simpa using g1,by simpa using g2,g3⟩
theorem gY.aeW(c:gY)(x:Cell)(d:c.den)(h:c.read x=some d)(hx:x.refs=[]):(c.cell d).refs=[]:=by cases c<;>cases x<;>first|rfl|(simp[gY.read]at h;done)|(cases hx)
theorem RC.ajE{Y:V}(hst:Y.ah=st.ah)(hpos:∀o e r l g,st.ah o=some (.arr e r l g)->0<r.len):∀(c:RC)(x:Cell)(d:c.den)(v:Value),c.read st x=some d->aO Y x v->RF Y (c.akH d) v (c.name x):=by
 intro c x d v hr hv;cases c with
 |c s=>
  rw[RC.read]at hr;split at hr
  .next hx=>exact⟨gY.weak s x d v hr hv,gY.aeW s x d hr hx⟩
  .cases hr
 |own e r fr=>
  cases x with
  |ref o=>
   simp only[RC.read]at hr;split at hr
   .next f s l g ho=>
    split at hr
    .next hb=>
     split at hr
     .next hs=>cases hr;rw[auC]at hb;have he:=auG hb.1;subst he;have hsr:=au.eq_of_beq s r hs;subst hsr;exact⟨hpos _ _ _ _ _ ho,.inl ⟨o,g,rfl,by rw[hst];exact ho,hb.2,hv.2.1,hv.2.2⟩⟩
     .cases hr
    .cases hr
   .cases hr
  |nil=>
   simp only[RC.read]at hr;split at hr
   .next hb=>cases hr;exact⟨au6 Nat.zero_lt_one (by simpa[awZ]using hb),.inr ⟨rfl,hv⟩⟩
   .cases hr
  |_=>simp[RC.read]at hr
theorem abe{Y:V}(hst:Y.ah=st.ah)(hpos:∀o e r l g,st.ah o=some (.arr e r l g)->0<r.len):∀(l:List RC)(xs:List Cell)(d:aa9 l)(vs:List Value),Pv st l xs=some d->ai Y xs vs->DK Y (adq l d) vs (adr l xs)
 |[],[],_,[],_,_=>trivial
 |c::r,x::xs,d,v::vs,h,⟨h1,h2⟩=>by
  rw[Pv]at h;split at h
  .next a b g1 g2=>cases h;exact⟨RC.ajE hst hpos c x a v g1 h1,abe hst hpos r xs b vs g2 h2⟩
  .cases h
 |[],_::_,_,_,h,_=>by simp[Pv]at h
 |_::_,[],_,_,h,_=>by simp[Pv]at h
theorem pF.ahc{Y:V}(hst:Y.ah=st.ah)(hpos:∀o e r l g,st.ah o=some (.arr e r l g)->0<r.len):∀(s:pF)(x:SV)(d:s.den)(v:Value),s.read st x=some d->dF Y x v->DK Y (s.out d).2 v.cells.toList (s.names x)
 |.one c,.one x,d,v,h,hv=>by
  rw[Fz v (aO.one x v hv)];exact⟨RC.ajE hst hpos c x d v h hv,trivial⟩
 |.agg l,.agg xs,d,v,h,⟨vs,hv,hc⟩=>by
  rw[hv];exact abe hst hpos l xs d _ h hc
 |.one _,.agg _,_,_,h,_|.agg _,.one _,_,_,h,_=>by simp[pF.read]at h
theorem abf{Y:V}(hst:Y.ah=st.ah)(hpos:∀o e r l g,st.ah o=some (.arr e r l g)->0<r.len):∀(l:List pF)(xs:List SV)(d:lN l)(vs:List Value),BJ st l xs=some d->dG Y xs vs->
 DK Y (JD (iM l d)) (vs.flatMap λv=>v.cells.toList) (Az l xs)
 |[],[],_,[],_,_=>trivial
 |s::r,x::xs,d,v::vs,h,⟨h1,h2⟩=>by
  rw[BJ]at h;split at h
  .next a b g1 g2=>cases h;exact DK.append _ _ _ _ _ _ (pF.ahc hst hpos s x a v g1 h1) (abf hst hpos r xs b vs g2 h2)
  .cases h
 |[],_::_,_,_,h,_=>by simp[BJ]at h
 |_::_,[],_,_,h,_=>by simp[BJ]at h
def Go1(Z:V)(k:Nat)(c:fC)(v:Value):Prop:=aO Z (c.take k).1 v
def GN(Z:V):Nat->List fC->List Value->Prop
 |_,[],[]=>True
 |k,c::cs,v::vs=>Go1 Z k c v/\GN Z (k+1) cs vs
 |_,_,_=>False
theorem GN.of{Z:V}:∀(cs:List fC)(vs:List Value)(k:Nat),cs.length=vs.length->(∀i c v,cs[i]? =some c->vs[i]? =some v->Go1 Z (k+i) c v)->GN Z k cs vs
 |[],[],_,_,_=>trivial
 |c::cs,v::vs,k,hl,h=>⟨h 0 c v rfl rfl,GN.of cs vs (k+1) (by simpa using hl) λi c' v' h1 h2=>by
   have:=h (i+1) c' v' apQ ah9
   rwa [show k+(i+1)=k+1+i from aaV]at this⟩
theorem GN.split{Z:V}:∀(cs:List fC)(vs:List Value)(ds:List fC)(us:List Value)(k:Nat),cs.length=vs.length->GN Z k (cs++ds) (vs++us)->GN Z k cs vs/\GN Z (k+cs.length) ds us
 |[],[],_,_,_,_,h=>⟨trivial,h⟩
 |c::cs,v::vs,ds,us,k,hl,⟨h1,h2⟩=>by obtain⟨g1,g2⟩:=GN.split cs vs ds us (k+1) (by simpa using hl) h2;exact⟨⟨h1,g1⟩,by rw[show k+(c::cs).length=k+1+cs.length from aeV];exact g2⟩
theorem GN.cells{Z:V}:∀(cs:List fC)(vs:List Value)(k:Nat),GN Z k cs vs->ai Z (jM k cs).1 vs
 |[],[],_,_=>trivial
 |c::cs,v::vs,k,⟨h1,h2⟩=>⟨h1,GN.cells cs vs (k+1) h2⟩
theorem pF.go{Y Z:V}:∀(s:pF)(x:SV)(d:s.den)(v:Value)(k:Nat),s.read st x=some d->dF Y x v->GN Z k (s.out d).2 v.cells.toList->dF Z (vS k (s.out d)).1 v
 |.one c,.one x,d,v,k,h,hv,hg=>by
  rw[Fz v (aO.one x v hv)]at hg;exact hg.1
 |.agg l,.agg xs,d,v,k,h,⟨vs,hv,hc⟩,hg=>by
  rw[hv]at hg ⊢;exact⟨vs,rfl,GN.cells _ _ _ hg⟩
 |.one _,.agg _,_,_,_,h,_,_|.agg _,.one _,_,_,_,h,_,_=>by simp[pF.read]at h
theorem aeX{Y Z:V}(hst:Y.ah=st.ah)(hpos:∀o e r l g,st.ah o=some (.arr e r l g)->0<r.len):∀(l:List pF)(xs:List SV)(d:lN l)(vs:List Value)(k:Nat),BJ st l xs=some d->dG Y xs vs->
 GN Z k (JD (iM l d)) (vs.flatMap λv=>v.cells.toList)->dG Z (iH k (iM l d)).1 vs
 |[],[],_,[],_,_,_,_=>trivial
 |s::r,x::xs,d,v::vs,k,h,⟨h1,h2⟩,hg=>by
  rw[BJ]at h;split at h
  .next a b g1 g2=>cases h;have hl:=DK.length _ _ _ (pF.ahc hst hpos s x a v g1 h1);obtain⟨k1,k2⟩:=GN.split _ _ _ _ k hl hg;exact⟨pF.go s x a v k g1 h1 k1,aeX hst hpos r xs b vs _ g2 h2 k2⟩
  .cases h
 |[],_::_,_,_,_,h,_,_=>by simp[BJ]at h
 |_::_,[],_,_,_,h,_,_=>by simp[BJ]at h
theorem YM:∀(l:List gY)(xs:List Cell)(d:lT l),jO l xs=some d->xs.flatMap Cell.refs=[]->(iw l d).flatMap Cell.refs=[]
 |[],[],_,_,_=>rfl
 |c::r,x::xs,d,h,hx=>by
  rw[jO]at h;split at h
  .next a b g1 g2=>cases h;rw[avL,avs]at hx;show(c.cell a::iw r b).flatMap Cell.refs=[];rw[avL,gY.aeW c x a g1 hx.1,YM r xs b g2 hx.2,au7]
  .cases h
 |[],_::_,_,h,_=>by simp[jO]at h
 |_::_,[],_,h,_=>by simp[jO]at h
theorem JE:∀(sh:List iG)(i:Nat)(b:kX sh),IB st i sh=some b->∀(j:Nat)(e:Eff),(jP sh b)[j]? =some e->
 e=.lose\/∃l cs cs0,sh[j]? =some (.ptr l)/\e=.var cs/\st.ah ((i+j)*64+48)=some (.var cs0)/\cs0.flatMap Cell.refs=[]/\cs.flatMap Cell.refs=[]/\∀(X:V) vs,ai X cs0 vs->ai X cs vs
 |[],_,_,_,j,e,he=>by simp[jP]at he
 |.ptr l::r,i,b,h,j,e,he=>by
  rw[IB]at h;split at h
  .next cs b' hx hb=>
   split at h
   .next a hr ha=>
    cases h;cases j with
    |zero=>
     simp[jP]at he;subst he;exact .inr ⟨l,_,cs,rfl,rfl,by simpa using hx,hr,YM _ _ _ ha hr,λX vs hc=>DC _ _ _ _ ha hc⟩
    |succ j=>
     rcases JE r (i+1) b' hb j e (by simpa[jP]using he)with h|⟨l,cs',cs0,h1,h2,h3,h4⟩
     .exact .inl h
     .exact .inr ⟨l,cs',cs0,apQ,h2,by rw[show i+(j+1)=i+1+j from aaV];exact h3,h4⟩
   .cases h
  .cases h
 |.p _::r,i,b,h,j,e,he|.own _ _::r,i,b,h,j,e,he=>by
  rw[IB]at h;cases j with
  |zero=>simp[jP]at he;exact .inl he.symm
  |succ j=>
   rcases JE r (i+1) b h j e (by simpa[jP]using he)with h|⟨l,cs',cs0,h1,h2,h3,h4⟩
   .exact .inl h
   .exact .inr ⟨l,cs',cs0,apQ,h2,by rw[show i+(j+1)=i+1+j from aaV];exact h3,h4⟩
theorem abg:∀{sh:List iG}{xs:List Arg}{d:jq sh},iO sh xs=some d->∀(j:Nat)(l:List gY),sh[j]? =some (.ptr l)->∃cs,xs[j]? =some (.ptr cs)
 |[],[],_,_,j,l,h=>amd
 |s::r,x::xs,d,h,j,l,hj=>by
  rw[iO]at h;split at h
  .next a b h1 h2=>
   cases j with
   |zero=>
    simp at hj;subst hj;cases x with
    |ptr cs=>exact⟨cs,rfl⟩
    |_=>simp[iG.read]at h1
   |succ j=>obtain⟨cs,hc⟩:=abg h2 j l amH;exact⟨cs,arW⟩
  .cases h
 |[],_::_,_,h,_,_,_=>aqg
 |_::_,[],_,h,_,_,_=>aqg
theorem al0{sh:List iG}{b:kX sh}(hb:IB st 0 sh=some b){q:Nat}{y:ay}(h:l7 (jP sh b) q=some y):
 q%64=48/\∃l cs cs0,sh[q / 64]? =some (.ptr l)/\y=.var cs/\st.ah q=some (.var cs0)/\cs0.flatMap Cell.refs=[]/\cs.flatMap Cell.refs=[]/\∀(X:V) vs,ai X cs0 vs->ai X cs vs:=by
 unfold l7 at h;split at h
 .next e r l he=>rcases JE sh 0 b hb _ _ he with h'|⟨_,_,_,_,h',_⟩<;>cases h'
 .next cs he=>
  split at h
  .next hm=>
   have hm':=auG hm;cases h;rcases JE sh 0 b hb _ _ he with h'|⟨l,cs',cs0,h1,h2,h3,h4⟩
   .cases h'
   .cases h2;refine⟨hm',l,_,cs0,h1,rfl,?_,h4⟩;rw[show q=(0+q / 64)*64+48 from aaV];exact h3
  .cases h
 .cases h
def iG.rC:(s:iG)->s.den->Prop
 |.p s,x=>s.rC x
 |.own _ r,(l:List r.den)=>∀x∈l,r.rC x
 |.ptr l,x=>XC l x
def Ie:(l:List iG)->jq l->Prop
 |[],_=>True
 |s::r,x=>s.rC x.1/\Ie r x.2
theorem iE.XD{X:V}(s:iE)(x:Arg)(d:s.den)(v:Value)(h:s.read x=some d)(hr:oh X x v):s.rC d:=
 (BI (X:=X) [s] (d,()) [v] ⟨iE.weak s x d v h hr,trivial⟩).1
theorem VD{X:V}{args:List Arg}(ho:∀o x,dn args o=some x->aZ X o x):∀(sh:List iG)(xs:List Arg)(d:jq sh)(vs:List Value)(i:Nat),(∀j a,xs[j]? =some a->args[i+j]? =some a)->
 iO sh xs=some d->wR X i xs vs->Ie sh d
 |[],[],_,_,_,_,_,_=>trivial
 |s::r,x::xs,d,v::vs,i,hj,h,⟨hv,hvs⟩=>by
  rw[iO]at h;split at h
  .next a b h1 h2=>
   cases h;refine⟨?_,VD ho r xs b vs (i+1) (λj c hc=>by have:=hj (j+1) c arW;rwa [show i+(j+1)=i+1+j from aaV]at this) h2 hvs⟩;have hx:args[i]? =some x:=hj 0 x rfl;cases s with
   |p s=>
    have h1':s.read x=some a:=by simpa[iG.read]using h1
    refine iE.XD (X:=X) s x a v h1' ?_;cases x with
    |own _ _ _|ptr _=>cases s<;>simp[iE.read]at h1'
    |_=>exact hv
   |own e r'=>
    cases x with
    |own f s' l=>
     have h1':(match Nat.beq e f with|true=>if h:s'.beq r'=true then some (tV h l)else none|false=>none)=some a:=h1;split at h1'
     .split at h1'
      .next hb hs=>
       cases h1';have hsr:=au.eq_of_beq s' r' hs;subst hsr;have oQ:dn args (i*64+49)=some (.arr f s' l false):=by unfold dn;rw[show(i*64+49) / 64=i from aaV,hx];dsimp only;rw[show(i*64+49)%64=49 from aaV]
       obtain⟨us,_,_,_,hrow⟩:=ho _ _ oQ;intro y hy;have hy':y∈l:=hy;obtain⟨j,hj1,hj2⟩:=aws.1 hy';exact aH.rC s' _ _ (hrow j y (by rw[auJ hj1,hj2]))
      .cases h1'
     .cases h1'
    |_=>simp[iG.read]at h1
   |ptr l=>
    cases x with
    |ptr cs=>
     have h1':jO l cs=some a:=h1;have oQ:dn args (i*64+48)=some (.var cs):=by unfold dn;rw[show(i*64+48) / 64=i from aaV,hx];dsimp only;rw[show(i*64+48)%64=48 from aaV]
     obtain⟨_,arr,_,_,_,hc⟩:=ho _ _ oQ;exact IA l a _ (DC _ _ _ _ h1' hc)
    |_=>simp[iG.read]at h1
  .cases h
 |[],_::_,_,_,_,_,h,_=>aqg
 |_::_,[],_,_,_,_,h,_=>aqg
theorem Jd:∀(l:List iG)(d:jq l),(rQ l d).length=l.length
 |[],_=>rfl
 |_::r,d=>by simp[rQ,Jd r d.2]
theorem Out.ank(rs:List (Bool×List fC))(k:Nat):((⟨rs,none⟩:Out).take k).2=(iH k rs).2:=by
 unfold Out.take;dsimp only;split
 .next h=>rw[h]
 .next h=>rw[h]
theorem Out.anl(rs:List (Bool×List fC))(k:Nat):((⟨rs,none⟩:Out).take k).1=(match (iH k rs).1 with|[v]=>AV.sv v|vs=>.mD vs):=by
 unfold Out.take;dsimp only;split
 .next h=>rw[h]
 .next vs δ hne h=>
  rw[h];dsimp only;rcases vs with _|⟨v,_|⟨v2,r⟩⟩
  .rfl
  .exact(hne v rfl).elim
  .rfl
theorem asl{args:List Arg}{S:Nat->Prop}{sh:List iG}{bH:List pF}{x:jq sh}(hx:iO sh args=some x){d:lN bH}{b:kX sh}{k:Nat}{vs:List SV}{us:List Value}
 (hR:Rel w (uw (dn args) γ) (VB args γ S) γ' st a w') (hrs:dG (aj w (VB args γ S) γ' st w') vs us) (hnd:yR (Az bH vs)=true) (hrd:BJ st bH vs=some d) (hbk:IB st 0 sh=some b)
 (hap:∀o x,look ((⟨iM bH d,none⟩:Out).take k).2 o=some x->l7 (jP sh b) o=none):
 ∃γ2,aP ⟨w',w.heap.size,qc S args (jP sh b) γ,γ2,look ((⟨iM bH d,none⟩:Out).take k).2⟩ ((⟨iM bH d,none⟩:Out).take k).1 (if h:us.toArray.size=1 then us.toArray[0]else .tuple us.toArray)/\
  (∀o x,look ((⟨iM bH d,none⟩:Out).take k).2 o=some x->aZ ⟨w',w.heap.size,qc S args (jP sh b) γ,γ2,look ((⟨iM bH d,none⟩:Out).take k).2⟩ o x/\
    ∀b',blk (γ2 o)=some b'->b'<w'.heap.size/\(w.heap.size<=b'\/uw (dn args) γ b')/\∀q y,l7 (jP sh b) q=some y->blk (γ q)≠some b')/\
  (∀o x q y b',look ((⟨iM bH d,none⟩:Out).take k).2 o=some x->look ((⟨iM bH d,none⟩:Out).take k).2 q=some y->o≠q->blk (γ2 o)=some b'->blk (γ2 q)≠some b')/\
  (∀o x,l7 (jP sh b) o=some x->γ2 o=γ o/\aZ ⟨w',w.heap.size,qc S args (jP sh b) γ,γ2,look ((⟨iM bH d,none⟩:Out).take k).2⟩ o x):=by
 rw[Out.ank]at hap ⊢;rw[Out.anl]
 skip
 let Y:V:=aj w (VB args γ S) γ' st w'
 let fv:List Value:=us.flatMap λv=>v.cells.toList
 let aC:=jP sh b
 let γ2:Nat->Value:=λp=>match l7 aC p with|some _=>γ p|none=>fv.getD (p-k) undef
 let Z:V:=⟨w',w.heap.size,qc S args aC γ,γ2,look (iH k (iM bH d)).2⟩
 have hpos:∀o e r l g,st.ah o=some (.arr e r l g)->0<r.len:=λo e r l g ho=>by obtain⟨_,_,h,_⟩:=hR.ah o _ ho;exact h
 have hF:DK Y (JD (iM bH d)) fv (Az bH vs):=abf (st:=st) rfl hpos bH vs d us hrd hrs;have hbq:∀q y,l7 aC q=some y->γ' q=γ q/\∃cs cs0,y=.var cs/\st.ah q=some (.var cs0)/\cs0.flatMap Cell.refs=[]/\cs.flatMap Cell.refs=[]/\∀(X:V) vs,ai X cs0 vs->ai X cs vs:=by
  intro q y hq;obtain⟨hm,l,cs,cs0,h1,h2,h3,h4,h5,h6⟩:=al0 hbk hq;refine⟨?_,cs,cs0,h2,h3,h4,h5,h6⟩;obtain⟨ci,hci⟩:=abg hx _ l h1;have ho:dn args q=some (.var ci):=by unfold dn;rw[hci];dsimp only;rw[hm]
  have hN:(VB args γ S).N q=some (γ q):=by show ads args γ q=_;unfold ads;rw[ho]
  exact hR.pin q _ _ hN h3
 have hG:∀p X,look (iH k (iM bH d)).2 p=some X->∃i e r l fr,p=k+i/\(JD (iM bH d))[i]? =some (.own e r l fr)/\X=.arr e r l fr/\0<r.len/\
  ((∃o g,(Az bH vs)[i]? =some (some o)/\st.ah o=some (.arr e r l g)/\KI fr g=true/\γ2 p=γ' o/\(γ2 p).oneCell'=true)\/(l=[]/\γ2 p=.slice none 0 0)):=by
  intro p X hp;obtain⟨i,e,r,l,fr,h1,h2,h3⟩:=(Ah _ k p X).1 hp;obtain⟨v,n,g1,g2,hr,hv⟩:=DK.get _ _ _ i _ hF h2;have hγ:γ2 p=v:=by show(match l7 aC p with|some _=>γ p|none=>fv.getD (p-k) undef)=v;rw[hap p X hp];dsimp only;rw[h1,show k+i-k=i from aaV,auF,g1];rfl
  refine⟨i,e,r,l,fr,h1,h2,h3,hr,?_⟩;rcases hv with⟨o,g,hn,ho,hb,hv,h1c⟩|⟨hl,hv⟩
  .exact .inl ⟨o,g,by rw[g2,hn],ho,hb,hγ.trans hv,by rw[hγ];exact h1c⟩
  .exact .inr ⟨hl,hγ.trans hv⟩
 have QW:∀b',Y.foot b'->Z.foot b':=by
  intro b' hb';refine⟨hb'.1,λhlt=>⟨hb'.2.1 hlt,λq y hq=>?_⟩,λp X hp=>?_⟩
  .obtain⟨hγ,cs,cs0,_,h3,_⟩:=hbq q y hq;rw[← hγ];exact hb'.2.2 q _ h3
  .obtain⟨i,e,r,l,fr,_,_,_,_,hc⟩:=hG p X hp;show blk (γ2 p)≠some b';rcases hc with⟨o,g,_,ho,_,hγ,_⟩|⟨_,hγ⟩
   .rw[hγ];exact hb'.2.2 o _ ho
   .rw[hγ];intro h;cases h
 have al1:∀fr b',Y.bW fr b'->Z.bW fr b':=λfr b' h=>⟨QW b' h.1,h.2⟩;have hgo:GN Z k (JD (iM bH d)) fv:=by
  refine GN.of _ _ _ (DK.length _ _ _ hF) λi c v hc hv=>?_;obtain⟨v',n,g1,g2,g3⟩:=DK.get _ _ _ i c hF hc;rw[hv]at g1;cases g1;cases c with
  |plain x=>
   exact(Et (Y:=Y) (Z:=Z) rfl al1 [x] [v] (by simpa using g3.2) ⟨g3.1,trivial⟩).1
  |own e r l fr=>
   have hp:look (iH k (iM bH d)).2 (k+i)=some (.arr e r l fr):=(Ah _ k _ _).2 ⟨i,e,r,l,fr,rfl,hc,rfl⟩;have hγ:γ2 (k+i)=v:=by show(match l7 aC (k+i)with|some _=>γ (k+i)|none=>fv.getD (k+i-k) undef)=v;rw[hap _ _ hp];dsimp only;rw[show k+i-k=i from aaV,auF,hv];rfl
   refine⟨⟨e,r,l,fr,hp⟩,hγ.symm,?_⟩;rcases g3.2 with⟨_,_,_,_,_,_,h⟩|⟨_,h⟩
   .exact h
   .rw[h];rfl
 have hsv:dG Z (iH k (iM bH d)).1 us:=aeX (st:=st) (Y:=Y) rfl hpos bH vs d us k hrd hrs hgo;refine⟨γ2,?_,λp X hp=>?_,λp X q X' b' hp hq hne hb1 hb2=>?_,λq y hq=>?_⟩
 .have hl:=dG.length _ _ hsv
  match hm:(iH k (iM bH d)).1,us,hsv,hl with
  |[v],[u],hk,_=>exact hk.1
  |[],[],hk,_=>exact⟨_,abZ,hk⟩
  |v::v2::r,u::u2::us,hk,hl=>exact⟨_,abZ,hk⟩
  |[],_::_,hk,h4|_::_,[],hk,h4|[_],_::_::_,hk,h4|_::_::_,[_],hk,h4=>simp at h4
 .obtain⟨i,e,r,l,fr,_,_,rfl,hr,hc⟩:=hG p X hp;rcases hc with⟨o,g,_,ho,hb,hγ,_⟩|⟨rfl,hγ⟩
  .have hO:aZ Y o (.arr e r l g):=hR.ah o _ ho;have hold:∀b',blk (γ' o)=some b'->fr=true->w.heap.size<=b':=by intro b' hb' hfr;subst hfr;have hg:g=true:=hb;subst hg;obtain⟨_,_,_,hn,_⟩:=hO;exact hn b' hb' rfl
   refine⟨aZ.Xy (Y:=Y) (Z:=Z) hO hγ rfl (λb' hb'=>⟨QW b' hb'.1,λhfr=>hb'.2 ?_⟩) hold,λb' hb'=>?_⟩
   .subst hfr;exact hb
   .rw[hγ]at hb';obtain⟨h1,h2⟩:=hR.lt o _ b' ho hb';refine⟨h1,h2,λq y hq=>?_⟩;obtain⟨hγq,cs,cs0,_,h3,_⟩:=hbq q y hq;rw[← hγq];refine hR.sep o _ q _ b' ho h3 ?_ hb';intro e;subst e;rw[ho]at h3;cases h3
  .refine⟨⟨[],⟨abZ,.inl ⟨hγ,rfl⟩⟩,hr,(λb' hb'=>by have h0:blk (γ2 p)=some b':=hb';rw[hγ]at h0;cases h0),λi x hi=>arP⟩,λb' hb'=>by rw[hγ]at hb';cases hb'⟩
 .obtain⟨i,e,r,l,fr,hi,_,_,_,hc⟩:=hG p X hp;obtain⟨j,e',r',l',fr',hj,_,_,_,hc'⟩:=hG q X' hq;rcases hc with⟨o,g,hn,ho,_,hγ,_⟩|⟨_,hγ⟩
  .rcases hc' with⟨o',g',hn',ho',_,Pg,_⟩|⟨_,Pg⟩
   .rw[hγ]at hb1;rw[Pg]at hb2;have:o≠o':=by intro e;subst e;have:=Oc hnd _ _ _ hn hn';omega
    exact hR.sep o _ o' _ b' ho ho' this hb1 hb2
   .rw[Pg]at hb2;cases hb2
  .rw[hγ]at hb1;cases hb1
 .obtain⟨hγ,cs,cs0,rfl,h3,h4,h5,h6⟩:=hbq q y hq;have mJ:γ2 q=γ q:=by show(match l7 aC q with|some _=>γ q|none=>fv.getD (q-k) undef)=γ q;rw[hq]
  refine⟨mJ,?_⟩;obtain⟨b',arr,t,k1,k2,k3⟩:=hR.ah q _ h3;refine⟨b',arr,t,?_,k2,Et (Y:=Y) (Z:=Z) rfl al1 _ _ h5 (h6 _ _ k3)⟩;show γ2 q=_;rw[mJ,← hγ];exact k1
theorem adt{G:jT}(hE:EnvB P G Θ Γ)(hm:P.follows .mixedOrders=true){f:FuncId}{fn:Func}{c:Code}(hf:P.funcs[f]? =some fn)(hb:fn.body=some c)(H:Hints)
 {sh:List iG} {bH:List pF} {F:jq sh->Prop×(lN bH×kX sh->Prop)} (hn:Nat.ble sh.length fn.ntmps=true) (hne:∀x,(F x).1->∃t,(F x).2 t)
 (hwalk:∀x,Ie sh x->(F x).1->FN Θ Γ H c (agp Θ fn.results.toList sh bH (F x).2) (DJ fn.ntmps (rQ sh x))):jl P G f (pV sh bH F):=by
 intro args p ρ hcon hp;unfold pV at hcon;split at hcon
 case h_2=>cases hcon
 next x hx=>
 cases hcon;refine⟨hne x hp,λk S γ vs w hG hrep oQ hsep hap=>?_⟩;have hlen:=(JC hx).1;rw[Jd]at hlen;have hn':args.length<=fn.ntmps:=by rw[← hlen];simpa[awZ]using hn
 have hin:Ie sh x:=VD (λo X ho=>(oQ o X ho).1) sh args x vs.toList 0 (λj a h=>by rwa [au8]) hx hrep;have hR0:=abd (S:=S) fn.ntmps hn' hrep (λo X ho=>⟨(oQ o X ho).1,λb hb=>((oQ o X ho).2 b hb).1⟩) hsep;have hR1:=hR0.covers (Uc hx fn.ntmps);refine calls_of_wp hf hb (VA ⟨hE,hG,λb hb=>?_⟩ hm H c _ _ _ _ _ _ hR1 (hwalk x hin hp) ?_)
 .obtain⟨o,X,ho,hb⟩:=hb;exact((oQ o X ho).2 b hb).2
 intro e s γ' a' w' he hR;have hret:∃(us:List Value)(t:lN bH×kX sh),(fn.results.mapM (Iz a'.tmps)).run P w'=.ok us.toArray w'/\(F x).2 t/\∃γ2,
  aP ⟨w',w.heap.size,qc S args (jP sh t.2) γ,γ2,look ((⟨iM bH t.1,none⟩:Out).take k).2⟩ ((⟨iM bH t.1,none⟩:Out).take k).1 (if h:us.toArray.size=1 then us.toArray[0]else .tuple us.toArray)/\
  (∀o x',look ((⟨iM bH t.1,none⟩:Out).take k).2 o=some x'->aZ ⟨w',w.heap.size,qc S args (jP sh t.2) γ,γ2,look ((⟨iM bH t.1,none⟩:Out).take k).2⟩ o x'/\
    ∀b,blk (γ2 o)=some b->b<w'.heap.size/\(w.heap.size<=b\/uw (dn args) γ b)/\∀q y,l7 (jP sh t.2) q=some y->blk (γ q)≠some b)/\
  (∀o x' q y b,look ((⟨iM bH t.1,none⟩:Out).take k).2 o=some x'->look ((⟨iM bH t.1,none⟩:Out).take k).2 q=some y->o≠q->blk (γ2 o)=some b->blk (γ2 q)≠some b)/\
  (∀o x',l7 (jP sh t.2) o=some x'->γ2 o=γ o/\aZ ⟨w',w.heap.size,qc S args (jP sh t.2) γ,γ2,look ((⟨iM bH t.1,none⟩:Out).take k).2⟩ o x'):=by
  have he':(e=.normal\/e=.ret)/\agp Θ fn.results.toList sh bH (F x).2 .ret s:=by
   cases e with
   |normal=>exact⟨.inl rfl,he⟩
   |ret=>exact⟨.inr rfl,he⟩
   |_=>exact he.elim
  have he2:=he'.2;simp only[agp]at he2;split at he2
  .next svs aua=>
   split at he2
   .next vs' hvs'=>
    split at he2
    .next d b hnd hd hb'=>have hRf:=hR.freeze (abb s (Az bH svs));obtain⟨us,hus,hrs⟩:=KL hE.types hRf _ _ hvs';refine⟨us,(d,b),?_,he2,asl hx hRf hrs hnd hd hb' (hap (d,b) he2)⟩;rw[axa,Sem.run_map,hus];rfl
    .exact he2.elim
   .exact he2.elim
  .exact he2.elim
 obtain⟨us,t,hus,ht,γ2,h1,h2,h3,h4⟩:=hret;have hfin:bodyPost P fn (λe w'=>∃t,(F x).2 t/\MV S args γ w k ⟨iM bH t.1,none⟩ (jP sh t.2) e w') .ret a' w':=by refine⟨hR.defers,if h:us.toArray.size=1 then us.toArray[0]else .tuple us.toArray,?_,t,ht,_,γ2,rfl,hR.os,hR.tape,hR.output,hR.grow,hR.kept,h1,h2,h3,h4⟩;rw[Q8,au3,hus];simp only[avu,avG]
 cases e with
 |normal=>exact hfin
 |ret=>exact hfin
 |_=>exact he.elim
def agq(rv:List ResultVar)(l:List gY)(K:lT l->Prop)(e:Exit)(st:St):Prop:=
 match e with
 |.normal|.ret=>match rv with
  |[.tmp t]=>match st.tmps t with
   |.bK o off=>match Nat.beq off 0,(st.freeze (Nc st)).ah o with
    |true,some (.var cs)=>match cs.flatMap Cell.refs,jO l cs with
     |[],some d=>K d
     |_,_=>False
    |_,_=>False
   |_=>False
  |_=>False
 |_=>False
def loses(sh:List iG):List Eff:=sh.map λ_=>.lose
def anm(sh:List iG)(l:List gY)(F:jq sh->Prop×(lT l->Prop)):CZ:=λargs=>
 match iO sh args with
 |some x=>some ((F x).1,⟨lT l,(F x).2,λt=>⟨[],some (iw l t)⟩,λ_=>loses sh⟩)
 |none=>none
theorem Q9(sh:List iG)(q:Nat):l7 (loses sh) q=none:=by unfold l7 loses;rw[avw];cases sh[q / 64]? <;>rfl
theorem Px:∀(l:List gY)(cs:List Cell)(d:lT l),jO l cs=some d->cs.flatMap Cell.refs=[]->(iw l d).flatMap Cell.refs=[]
 |[],[],_,_,_=>rfl
 |c::l,x::xs,d,h,hn=>by
  rw[jO]at h;rw[avL,avs]at hn;split at h
  .next p q hp hq=>
   cases h;show((c.cell p)::iw l q).flatMap Cell.refs=[];rw[avL,avs];refine⟨?_,Px l xs q hq hn.2⟩;cases c with
   |ref o=>
    cases x<;>simp[gY.read,Cell.refs]at hp hn
   |_=>rfl
  .cases h
 |[],_::_,_,h,_=>by simp[jO]at h
 |_::_,[],_,h,_=>by simp[jO]at h
theorem ao9{G:jT}(hE:EnvB P G Θ Γ)(hm:P.follows .mixedOrders=true){f:FuncId}{fn:Func}{c:Code}(hf:P.funcs[f]? =some fn)(hb:fn.body=some c)(H:Hints)
 {sh:List iG} {l:List gY} {F:jq sh->Prop×(lT l->Prop)} (hn:Nat.ble sh.length fn.ntmps=true) (hne:∀x,(F x).1->∃t,(F x).2 t)
 (hwalk:∀x,Ie sh x->(F x).1->FN Θ Γ H c (agq fn.results.toList l (F x).2) (DJ fn.ntmps (rQ sh x))):jl P G f (anm sh l F):=by
 intro args p ρ hcon hp;unfold anm at hcon;split at hcon
 case h_2=>cases hcon
 next x hx=>
 cases hcon;refine⟨hne x hp,λk S γ vs w hG hrep oQ hsep hap=>?_⟩;have hlen:=(JC hx).1;rw[Jd]at hlen;have hn':args.length<=fn.ntmps:=by rw[← hlen];simpa[awZ]using hn
 have hin:Ie sh x:=VD (λo X ho=>(oQ o X ho).1) sh args x vs.toList 0 (λj a h=>by rwa [au8]) hx hrep;have hR0:=abd (S:=S) fn.ntmps hn' hrep (λo X ho=>⟨(oQ o X ho).1,λb hb=>((oQ o X ho).2 b hb).1⟩) hsep;have hR1:=hR0.covers (Uc hx fn.ntmps);refine calls_of_wp hf hb (VA ⟨hE,hG,λb hb=>?_⟩ hm H c _ _ _ _ _ _ hR1 (hwalk x hin hp) ?_)
 .obtain⟨o,X,ho,hb⟩:=hb;exact((oQ o X ho).2 b hb).2
 intro e s γ' a' w' he hR;have he':agq fn.results.toList l (F x).2 .ret s:=by
  cases e with
  |normal=>exact he
  |ret=>exact he
  |_=>exact he.elim
 have hfin:bodyPost P fn (λe w'=>∃t,(F x).2 t/\MV S args γ w k ⟨[],some (iw l t)⟩ (loses sh) e w') .ret a' w':=by
  simp only[agq]at he';split at he'
  case h_2=>exact he'.elim
  next t hrv=>
  split at he'
  case h_2=>exact he'.elim
  next o off htm=>
  split at he'
  case h_2=>exact he'.elim
  next cs hoff hcs=>
  split at he'
  case h_2=>exact he'.elim
  next d hnr hd=>
  have hoff:=auG hoff;subst hoff;have hRf:=hR.freeze (Nc s);have hv:=hR.tmps t;rw[htm]at hv;obtain⟨b,cs0,_,hγ,hval⟩:=hv;obtain⟨b',arr,ty,g1,g2,g3⟩:=hRf.ah o _ hcs;have g1:γ' o=.pointer (some ⟨b',0,none⟩):=g1;have hγ:γ' o=.pointer (some ⟨b,0,none⟩):=hγ;rw[hγ]at g1;cases g1;have hblk:blk (γ' o)=some b:=by rw[hγ];rfl
  have hlt:=hRf.lt o _ b hcs hblk
  let γ2:Nat->Value:=λ_=>γ' o
  let Z:V:=⟨w',w.heap.size,qc S args (loses sh) γ,γ2,look (Out.take k ⟨[],some (iw l d)⟩).2⟩
  have hlook:∀q y,look (Out.take k ⟨[],some (iw l d)⟩).2 q=some y->q=k-1/\y=.var (iw l d):=by
   intro q y hq;have hmem:=xH _ q y hq;have:(q,y)=(k-1,.var (iw l d)):=by simpa[Out.take]using hmem
   exact⟨congrArg Prod.fst this,congrArg Prod.snd this⟩
  have QW:∀fr b',(aj w (VB args γ S) γ' (s.freeze (Nc s)) w').bW fr b'->Z.bW fr b':=by intro fr b' hb';refine⟨⟨hb'.1.1,λhlt'=>⟨hb'.1.2.1 hlt',λq y hq=>by rw[Q9]at hq;cases hq⟩,λq y hq=>?_⟩,hb'.2⟩;exact hb'.1.2.2 o _ hcs
  have hcells:ai Z (iw l d) arr.toList:=
   Et (Y:=aj w (VB args γ S) γ' (s.freeze (Nc s)) w') (Z:=Z) rfl QW _ _ (Px l cs d hd hnr) (DC l cs d _ hd g3)
  have hself:look (Out.take k ⟨[],some (iw l d)⟩).2 (k-1)=some (.var (iw l d)):=by simp[Out.take,look]
  refine⟨hR.defers,a'.tmps.getD t undef,?_,d,he',_,γ2,rfl,hR.os,hR.tape,hR.output,hR.grow,hR.kept,?_,λq y hq=>?_,λq y q' y' b' hq hq' hne'=>?_,λq y hq=>by rw[Q9]at hq;cases hq⟩
  .have:fn.results=#[.tmp t]:=by apply awj;simpa using hrv
   have hmap:(Array.mapM (Iz a'.tmps) #[ResultVar.tmp t]).run P w'=.ok #[a'.tmps.getD t undef] w':=by rw[axa,Sem.run_map];simp only[axY,List.mapM_nil,Iz];rfl
   rw[Q8,this,au3,hmap];rfl
  .exact⟨b,iw l d,hself,hγ,hval⟩
  .obtain⟨rfl,rfl⟩:=hlook q y hq;refine⟨⟨b,arr,ty,hγ,g2,hcells⟩,λb' hb'=>?_⟩;have hb':blk (γ' o)=some b':=hb';rw[hblk]at hb';cases hb';exact⟨hlt.1,hlt.2,λq y hq=>by rw[Q9]at hq;cases hq⟩
  .obtain⟨rfl,_⟩:=hlook q y hq;obtain⟨rfl,_⟩:=hlook q' y' hq';exact(hne' rfl).elim
 cases e with
 |normal=>exact hfin
 |ret=>exact hfin
 |_=>exact he.elim
end Go.Fw
namespace Go.Fw
open Go
def CT.isZero:CT->Value->Bool
 |.int k,.int l n=>decide (k=l)&&decide (n=0)
 |.bool,.bool b=>!b
 |.str,.string s=>s.data.toList.isEmpty
 |.sl _ _,.slice none 0 0=>true
 |_,_=>false
def au.Py:au->List Value->Bool
 |.nil,[]=>true
 |.cons c r,v::vs=>c.isZero v&&r.Py vs
 |_,_=>false
theorem CT.al2:∀(c:CT)(v:Value),c.isZero v=true->v=c.adh:=by
 intro c v h;unfold CT.isZero at h;split at h
 .simp at h;rw[h.1,h.2];rfl
 .simp at h;subst h;rfl
 .next s=>obtain⟨⟨l⟩⟩:=s;simp at h;subst h;rfl
 .rfl
 .cases h
theorem au.abh:∀(r:au)(vs:List Value),r.Py vs=true->vs=r.kN
 |.nil,[],_=>rfl
 |.cons c r,v::vs,h=>by
  rw[Py,auC]at h;rw[au.kN,CT.al2 c v h.1,au.abh r vs h.2]
 |.nil,_::_,h|.cons _ _,[],h=>by simp[Py]at h
def ahd:TypeDesc->TypeDesc->Bool
 |.int k,.int l=>decide (k=l)
 |.bool,.bool=>true
 |.string,.string=>true
 |.slice e,.slice f=>Nat.beq e f
 |_,_=>false
theorem al3:∀(c d:TypeDesc),ahd c d=true->c=d:=by
 intro c d h;unfold ahd at h;split at h
 .rw[avZ h]
 .rfl
 .rfl
 .rw[auG h]
 .cases h
def KN(P:Program):List (Nat×TypeId)->List Field->Bool
 |[],[]=>true
 |(o,t)::r,f::fs=>Nat.beq o f.offset&&Nat.beq t f.type&&(P.info? f.type).isSome&&KN P r fs
 |_,_=>false
theorem YN{P:Program}:∀(l:List (Nat×TypeId))(fs:List Field),KN P l fs=true->l=fs.map (λf=>(f.offset,f.type))/\∀f∈fs,(P.info? f.type).isSome=true
 |[],[],_=>⟨rfl,abZ⟩
 |(o,t)::r,f::fs,h=>by
  rw[KN,auC,auC,auC]at h;obtain⟨⟨⟨h1,h2⟩,h3⟩,h4⟩:=h;obtain⟨e,hall⟩:=YN r fs h4;refine⟨by rw[auX,← e,auG h1,auG h2],λg hg=>?_⟩;rcases auQ.1 hg with rfl|hg
  .exact h3
  .exact hall g hg
 |[],_::_,h|_::_,[],h=>by simp[KN]at h
def al4(P:Program)(t:TypeId)(ti:TI):Bool:=
 match ti.kind,P.underlying t with
 |.scalar,some d=>match ti.cells.desc with|some c=>ahd c d|none=>false
 |.str,some .string=>ti.cells.beq (.cons .str .nil)
 |.slice e,some (.slice f)=>Nat.beq e f&&(match ti.cells with|.cons (.sl g _) .nil=>Nat.beq g e|_=>false)
 |.struct fs,some (.struct yS)=>KN P fs yS.toList
 |_,_=>false
def ajF(ti:TI)(z:Value):Bool:=match ti.kind with
 |.struct _=>true
 |_=>z.oneCell'
def adu(P:Program)(t:TypeId)(ti:TI):Bool:=
 match P.info? t with
 |some i=>match i.zero with
  |some z=>Nat.beq i.size ti.cells.len&&Nat.beq i.bytes ti.bytes&&ti.cells.Py z.cells.toList&&ajF ti z&&al4 P t ti&&Nat.ble ti.bytes 4096&&(!ti.cmp||akq P t ti.cells)
  |none=>false
 |none=>false
theorem lI.ann{P:Program}{t:TypeId}{ti:TI}(h:adu P t ti=true):lI P t ti:=by
 unfold adu at h;split at h
 .next i hi=>
  split at h
  .next z hz=>
   simp only[auC]at h;obtain⟨⟨⟨⟨⟨⟨h1,h2⟩,h3⟩,h4⟩,h5⟩,h6⟩,h7⟩:=h;refine⟨⟨i,z,hi,auG h1,auG h2,hz,au.abh _ _ h3,λhagg=>?_⟩,?_,by simpa[awZ]using h6,λe w s u X xs ys vs us b hf hx hy he=>ao3 (by rw[e]at h7;simpa using h7) w s u X xs ys vs us b hf hx hy he⟩
   .unfold ajF at h4;unfold TI.agg at hagg;split at h4
    .next hk=>rw[hk]at hagg;cases hagg
    .exact Fz z h4
   .unfold al4 at h5;split at h5
    .next d hk hu=>
     rw[hk];split at h5
     .next c hc=>exact⟨d,by rw[hc,al3 c d h5],hu⟩
     .cases h5
    .next hk hu=>rw[hk];exact⟨hu,au.eq_of_beq _ _ h5⟩
    .next e f hk hu=>
     rw[hk];rw[auC]at h5;have hef:=auG h5.1;subst hef;refine⟨hu,?_⟩;have h52:=h5.2;split at h52
     .next g r hg=>exact⟨r,by rw[hg,auG h52]⟩
     .cases h52
    .next fs yS hk hu=>rw[hk];obtain⟨e,hall⟩:=YN _ _ h5;exact⟨yS,hu,e,hall⟩
    .cases h5
  .cases h
 .cases h
def Pz(P:Program):List (Nat×TI)->Bool
 |[]=>true
 |(t,ti)::r=>adu P t ti&&Pz P r
theorem ahe{P:Program}:∀{l:List (Nat×TI)},Pz P l=true->∀t ti,aa7 l t=some ti->lI P t ti
 |[],_,t,ti,h=>afH
 |(i,x)::r,hc,t,ti,h=>by
  rw[Pz,auC]at hc;rw[aa7]at h;cases hb:Nat.beq t i with
  |true=>rw[hb]at h;cases h;rw[auG hb];exact .ann hc.1
  |false=>rw[hb]at h;exact ahe hc.2 t ti h
def XF(fn:Func):Bool:=fn.body.isSome&&!(fn.name== "runtime.NumGoroutine")
theorem iP{P:Program}{f:FuncId}{fn:Func}(hf:P.funcs[f]? =some fn)(hc:XF fn=true):iY P f:=by
 intro args w;unfold XF at hc;rw[auC]at hc;have h1:(fn.name== "runtime.NumGoroutine")=false:=by simpa using hc.2
 have h2:fn.body.isNone=false:=by cases hb:fn.body with|none=>rw[hb]at hc;simp at hc|some _=>rfl
 unfold callFunc;simp only[au3,run_program,avu,hf,h1,h2,av7,awY,avG]
def al5(P:Program)(G:jT)(f:FuncId):Jb->Prop
 |.pure c=>fD P G f c/\iY P f
 |.eff _ c=>jl P G f c/\iY P f
theorem al6{P:Program}{G:jT}{Θ:jm}(hT:∀t ti,Θ t=some ti->lI P t ti):∀{l:List (Nat×Jb)},(∀x∈l,al5 P G x.1 x.2)->EnvB P G Θ (H8 l)
 |[],_=>⟨hT,(λf con h=>afH),(λf ms con h=>afH)⟩
 |(i,c)::r,h=>by
  have ih:=al6 (G:=G) hT λx hx=>h x (auM _ hx);refine⟨hT,λf con hf=>?_,λf ms con hf=>?_⟩
  .rw[H8]at hf;cases hb:Nat.beq f i with
   |true=>rw[hb]at hf;cases hf;rw[auG hb];exact h (i,.pure con) auO
   |false=>rw[hb]at hf;exact ih.cons f con hf
  .rw[H8]at hf;cases hb:Nat.beq f i with
   |true=>rw[hb]at hf;cases hf;rw[auG hb];exact h (i,.eff ms con) auO
   |false=>rw[hb]at hf;exact ih.agm f ms con hf
end Go.Fw
namespace Go.Fw
open Go
structure PA where
 n:Nat
 sh:List iE
 bH:List oC
 F:jr sh->Prop×mr bH
structure XA where
 n:Nat
 sh:List iG
 bH:List pF
 F:jq sh->Prop×(lN bH×kX sh->Prop)
structure QA where
 n:Nat
 sh:List iG
 bH:List gY
 F:jq sh->Prop×(lT bH->Prop)
def PA.e(q:PA):Nat×Jb:=(q.n,.pure (ig q.sh q.bH q.F))
def XA.e(q:XA):Nat×Jb:=(q.n,.eff (Dw q.sh) (pV q.sh q.bH q.F))
def QA.e(q:QA):Nat×Jb:=(q.n,.eff (Dw q.sh) (anm q.sh q.bH q.F))
def abj(P:Program)(G:jT)(x:Nat×Jb):Prop:=al5 P G x.1 x.2
def ahf(P:Program)(G:jT):List (Nat×Jb)->Prop
 |[]=>True
 |x::l=>abj P G x/\ahf P G l
theorem ano{P:Program}{G:jT}{l':List (Nat×TI)}(hT:Pz P l'=true){l:List (Nat×Jb)}(h:ahf P G l):EnvB P G (aa7 l') (H8 l):=
 al6 (ahe hT) (by
  induction l with
  |nil=>exactλx hx=>aeZ
  |cons y l ih=>exact List.forall_mem_cons.2 ⟨h.1,ih h.2⟩)
def adv:(l:List gY)->(lT l->Prop)->Prop
 |[],p=>p ()
 |c::r,p=>∀x:c.den,adv r λy=>p (x,y)
theorem PD:∀{l:List gY}{p:lT l->Prop},adv l p->∀x,p x
 |[],_,h,()=>h
 |_::_,_,h,(x,y)=>PD (h x) y
def akK:(l:List (List gY))->(Aw l->Prop)->Prop
 |[],p=>p ()
 |c::r,p=>adv c λx=>akK r λy=>p (x,y)
theorem ahg:∀{l:List (List gY)}{p:Aw l->Prop},akK l p->∀x,p x
 |[],_,h,()=>h
 |_::_,_,h,(x,y)=>ahg (PD h x) y
def anp:(s:iE)->(s.den->Prop)->Prop
 |.v (.one c),p=>∀x:c.den,p x
 |.v (.agg l),p=>adv l p
 |.kp l,p=>adv l p
 |.fn _ l,p=>akK l p
theorem ajG:∀{s:iE}{p:s.den->Prop},anp s p->∀x,p x
 |.v (.one _),_,h,x=>h x
 |.v (.agg _),_,h,x=>PD h x
 |.kp _,_,h,x=>PD h x
 |.fn _ _,_,h,x=>ahg h x
def akL:(l:List iE)->(jr l->Prop)->Prop
 |[],p=>p ()
 |s::r,p=>anp s λx=>akL r λy=>p (x,y)
theorem ahh:∀{l:List iE}{p:jr l->Prop},akL l p->∀x,p x
 |[],_,h,()=>h
 |_::_,_,h,(x,y)=>ahh (ajG h x) y
def ap0:(s:iG)->(s.den->Prop)->Prop
 |.p s,p=>anp s p
 |.own _ r,p=>∀x:List r.den,p x
 |.ptr l,p=>adv l p
theorem apa:∀{s:iG}{p:s.den->Prop},ap0 s p->∀x,p x
 |.p _,_,h,x=>ajG h x
 |.own _ _,_,h,x=>h x
 |.ptr _,_,h,x=>PD h x
def agr:(l:List iG)->(jq l->Prop)->Prop
 |[],p=>p ()
 |s::r,p=>ap0 s λx=>agr r λy=>p (x,y)
theorem ZF:∀{l:List iG}{p:jq l->Prop},agr l p->∀x,p x
 |[],_,h,()=>h
 |_::_,_,h,(x,y)=>ZF (apa h x) y
abbrev LP{α:Type}(x:α)(f:(α->Prop)->(α->Nat)->α->Prop):Prop:=∃(I:α->Prop),∃(μ:α->Nat),I x/\∀(y:α),I y->f I μ y
abbrev NX{σ α:Type}(s:σ)(I:α->Prop)(μ:α->Nat)(x y:α):Prop:=s=s/\I x/\μ x<μ y
def H0:Hints:=hints [] [] [] [] []
def AZ(P:Program)(n:Nat):Func:=match P.funcs[n]? with|some f=>f|none=>default
def IC(P:Program)(n k:Nat):Bool:=P.funcs[n]?.isSome&&XF (AZ P n)&&Nat.ble k (AZ P n).ntmps
theorem VE{P:Program}{n k:Nat}(h:IC P n k=true):P.funcs[n]? =some (AZ P n)/\(AZ P n).body=some (codeOf (AZ P n))/\iY P n/\Nat.ble k (AZ P n).ntmps=true:=by
 simp only[IC,auC]at h;obtain⟨⟨h1,h2⟩,h3⟩:=h;have e:P.funcs[n]? =some (AZ P n):=by
  unfold AZ;cases hf:P.funcs[n]? with
  |some f=>rfl
  |none=>rw[hf]at h1;cases h1
 refine⟨e,?_,iP e h2,h3⟩;have h4:=h2;unfold XF at h4;rw[auC]at h4;unfold codeOf;cases hb:(AZ P n).body with
 |some c=>rfl
 |none=>rw[hb]at h4;cases h4.1
def PA.goal(q:PA)(g:(mr q.bH->Prop)->Prop)(x:jr q.sh):Prop:=JB q.sh x->(q.F x).1->g λr=>r=(q.F x).2
def XA.goal(q:XA)(g:(lN q.bH×kX q.sh->Prop)->Prop)(x:jq q.sh):Prop:=Ie q.sh x->(q.F x).1->g (q.F x).2
def QA.goal(q:QA)(g:(lT q.bH->Prop)->Prop)(x:jq q.sh):Prop:=Ie q.sh x->(q.F x).1->g (q.F x).2
variable {P:Program} {Θ:jm} {Γ:kM} {G:jT}
theorem PA.ok{q:PA}(hm:P.follows .mixedOrders=true)(hE:EnvB P G Θ Γ)(H:Hints){p:Prop}
 (hp:(bif IC P q.n q.sh.length then akL q.sh λx=>q.goal (λK=>FN Θ Γ H (codeOf (AZ P q.n)) (aa8 Θ (AZ P q.n).results.toList q.bH K) (entry (AZ P q.n).ntmps (uy q.sh x))) x else False)=p) (h:p):abj P G q.e:=by
 subst hp;cases hc:IC P q.n q.sh.length with
 |false=>rw[hc]at h;exact h.elim
 |true=>rw[hc]at h;obtain⟨h1,h2,h3,h4⟩:=VE hc;exact⟨adp hE hm h1 h2 H h4 λx hi hx=>ahh h x hi hx,h3⟩
theorem XA.ok{q:XA}(hm:P.follows .mixedOrders=true)(hE:EnvB P G Θ Γ)(H:Hints)(hne:∀x,(q.F x).1->∃t,(q.F x).2 t){p:Prop}
 (hp:(bif IC P q.n q.sh.length then agr q.sh λx=>q.goal (λK=>FN Θ Γ H (codeOf (AZ P q.n)) (agp Θ (AZ P q.n).results.toList q.sh q.bH K) (DJ (AZ P q.n).ntmps (rQ q.sh x))) x else False)=p) (h:p):abj P G q.e:=by
 subst hp;cases hc:IC P q.n q.sh.length with
 |false=>rw[hc]at h;exact h.elim
 |true=>rw[hc]at h;obtain⟨h1,h2,h3,h4⟩:=VE hc;exact⟨adt hE hm h1 h2 H h4 hne λx hi hx=>ZF h x hi hx,h3⟩
theorem QA.ok{q:QA}(hm:P.follows .mixedOrders=true)(hE:EnvB P G Θ Γ)(H:Hints)(hne:∀x,(q.F x).1->∃t,(q.F x).2 t){p:Prop}
 (hp:(bif IC P q.n q.sh.length then agr q.sh λx=>q.goal (λK=>FN Θ Γ H (codeOf (AZ P q.n)) (agq (AZ P q.n).results.toList q.bH K) (DJ (AZ P q.n).ntmps (rQ q.sh x))) x else False)=p) (h:p):abj P G q.e:=by
 subst hp;cases hc:IC P q.n q.sh.length with
 |false=>rw[hc]at h;exact h.elim
 |true=>rw[hc]at h;obtain⟨h1,h2,h3,h4⟩:=VE hc;exact⟨ao9 hE hm h1 h2 H h4 hne λx hi hx=>ZF h x hi hx,h3⟩
end Go.Fw
namespace Go.Fw
open Go
variable {P:Program} {G:jT} {f:FuncId}
abbrev jK:List UInt8:=[]
theorem fD.weaken{con VF:EI}(h:fD P G f con)(hc:∀args p out,VF args=some (p,out)->p->∃q,con args=some (q,out)/\q):fD P G f VF:=by intro args p out k S vs w hcon hp hG hrep;obtain⟨q,h1,h2⟩:=hc args p out hcon hp;exact h args q out k S vs w h1 h2 hG hrep
theorem jl.weaken{con VF:CZ}(h:jl P G f con)(hc:∀args p ρ,VF args=some (p,ρ)->p->∃q,con args=some (q,ρ)/\q):jl P G f VF:=by intro args p ρ hcon hp;obtain⟨q,h1,h2⟩:=hc args p ρ hcon hp;exact h args q ρ h1 h2
theorem al7{sh:List iE}{bH:List oC}{F:jr sh->Prop×mr bH}(Fr Fs:Nat->jr sh->Prop×mr bH)(h0:∀x,¬(Fr 0 x).1)(hs:∀n x,Fr (n+1) x=Fs n x)
 (hf:∀x,(F x).1->∃n,(Fr n x).1) (he:∀n x,(Fr n x).2=(F x).2) (step:∀n,fD P G f (ig sh bH (Fr n))->fD P G f (ig sh bH (Fs n))):fD P G f (ig sh bH F):=by
 have all:∀n,fD P G f (ig sh bH (Fr n)):=by
  intro n
  induction n with
  |zero=>
   intro args p out k S vs w hcon hp;unfold ig wS at hcon;split at hcon
   .next x _=>have e:(Fr 0 x).1=p:=congrArg Prod.fst (Option.some.inj hcon);exact absurd (e.symm▸hp) (h0 x)
   .cases hcon
  |succ n ih=>have:=step n ih;have e:Fr (n+1)=Fs n:=funext (hs n);rw[e];exact this
 intro args p out k S vs w hcon hp hG hrep;have JF:=hcon;unfold ig wS at JF;split at JF
 .next x hx=>have e:=Option.some.inj JF;have e1:(F x).1=p:=congrArg Prod.fst e;obtain⟨n,hn⟩:=hf x (e1.symm▸hp);refine all n args (Fr n x).1 out k S vs w ?_ hn hG hrep;unfold ig wS;rw[hx];show some ((Fr n x).1,_)=_;rw[he n x];exact congrArg (λz=>some ((Fr n x).1,z)) (congrArg Prod.snd e)
 .cases JF
theorem ajH{sh:List iG}{bH:List pF}{F:jq sh->Prop×(lN bH×kX sh->Prop)}(Fr Fs:Nat->jq sh->Prop×(lN bH×kX sh->Prop))(h0:∀x,¬(Fr 0 x).1)(hs:∀n x,Fr (n+1) x=Fs n x)
 (hf:∀x,(F x).1->∃n,(Fr n x).1) (he:∀n x,(Fr n x).2=(F x).2) (step:∀n,jl P G f (pV sh bH (Fr n))->jl P G f (pV sh bH (Fs n))):jl P G f (pV sh bH F):=by
 have all:∀n,jl P G f (pV sh bH (Fr n)):=by
  intro n
  induction n with
  |zero=>
   intro args p ρ hcon hp;unfold pV at hcon;split at hcon
   .next x _=>have e:(Fr 0 x).1=p:=congrArg Prod.fst (Option.some.inj hcon);exact absurd (e.symm▸hp) (h0 x)
   .cases hcon
  |succ n ih=>have:=step n ih;have e:Fr (n+1)=Fs n:=funext (hs n);rw[e];exact this
 intro args p ρ hcon hp;have JF:=hcon;unfold pV at JF;split at JF
 .next x hx=>have e:=Option.some.inj JF;have e1:(F x).1=p:=congrArg Prod.fst e;obtain⟨n,hn⟩:=hf x (e1.symm▸hp);refine all n args (Fr n x).1 ρ ?_ hn;unfold pV;rw[hx];show some ((Fr n x).1,_)=_;rw[he n x];exact congrArg (λz=>some ((Fr n x).1,z)) (congrArg Prod.snd e)
 .cases JF
end Go.Fw
namespace Go.Fw
open Go
variable {P:Program} {H:Type} {enc:TypeId×Value->H} {w:World}
def au.app:au->au->au
 |.nil,s=>s
 |.cons c r,s=>.cons c (r.app s)
def ags:(r s:au)->r.den->s.den->(r.app s).den
 |.nil,_,_,y=>y
 |.cons _ r,s,x,y=>(x.1,ags r s x.2 y)
theorem aH.app{h:Array Obj}{S:Nat->Prop}:∀(r s:au)(x:r.den)(y:s.den)(vs us:List Value),aH h S r vs x->aH h S s us y->aH h S (r.app s) (vs++us) (ags r s x y)
 |.nil,s,x,y,vs,us,h1,h2=>by rw[aH]at h1;subst h1;exact h2
 |.cons c r,s,(x,x'),y,vs,us,h1,h2=>by rw[aH]at h1;obtain⟨v,vs',rfl,g1,g2⟩:=h1;show aH h S (.cons c (r.app s)) (v::(vs'++us)) (x,ags r s x' y);rw[aH];exact⟨v,vs'++us,rfl,g1,aH.app r s x' y vs' us g2 h2⟩
theorem add_add(a:Addr)(h:a.spot=none)(m j:Nat):(a.add m).add j=⟨a.block,a.off+m+j,none⟩:=by
 obtain⟨b,o,sp⟩:=a;simp only at h;subst h;unfold Addr.add;by_cases hm:m=0
 .by_cases hj:j=0
  .simp[hm,hj]
  .simp[hm,hj]
 .by_cases hj:j=0
  .simp[hm,hj]
  .simp[hm,hj]
def Nk(f:TypeId->Option au):List Field->Nat->Option au
 |[],_=>some .nil
 |x::r,off=>match f x.type with
  |some s=>match Nk f r (off+s.len),Nat.beq x.offset off with
   |some u,true=>some (s.app u)
   |_,_=>none
  |none=>none
def rowOf(P:Program):Nat->TypeId->Option au
 |0,_=>none
 |n+1,t=>match P.underlying t with
  |some (.int k)=>some (.cons (.int k) .nil)
  |some .bool=>some (.cons .bool .nil)
  |some .string=>some (.cons .str .nil)
  |some (.slice e)=>match rowOf P n e with
   |some s=>match Nat.beq s.len (P.cellsOf e)&&Nat.ble 1 s.len with
    |true=>some (.cons (.sl e s) .nil)
    |false=>none
   |none=>none
  |some (.struct fs)=>match Nk (rowOf P n) fs.toList 0 with
   |some r=>match Nat.beq r.len (P.cellsOf t)with
    |true=>match fs.toList.all λf=>match rowOf P n f.type with|some s=>Nat.beq s.len (P.cellsOf f.type)|none=>false with
     |true=>some r
     |false=>none
    |false=>none
   |none=>none
  |_=>none
theorem ajI{α:Type}{Q:Nat->α->Prop}:∀(n:Nat),(∀i,i<n->∃x,Q i x)->∃l:List α,l.length=n/\∀i x,l[i]? =some x->Q i x
 |0,_=>⟨[],rfl,λi x h=>amd⟩
 |n+1,h=>by
  obtain⟨l,hl,hq⟩:=ajI n λi hi=>h i aaV;obtain⟨x,hx⟩:=h n aaV;refine⟨l++[x],ar1,λi y hy=>?_⟩;rcases au2 i n with hi|hi
  .rw[avn aaV]at hy;exact hq i y hy
  .rw[avc aaV]at hy;have:i=n:=by
    rcases au2 n i with h'|h'
    .rw[avF aeV]at hy;cases hy
    .omega
   subst this;simp[hl]at hy;rw[← hy];exact hx
theorem ajJ:∀(r s:au),(r.app s).len=r.len+s.len
 |.nil,s=>by simp[au.app,au.len]
 |.cons c r,s=>by simp only[au.app,au.len,ajJ r s];omega
theorem abk{f:TypeId->Option au}{S:Nat->Prop}{h:Array Obj}(cs:List Value)
 (part:∀(t:TypeId)(r:au)(off:Nat),f t=some r->(∃g:Field,g.type=t/\g.offset=off)->True):∀(fs:List Field)(off:Nat)(r:au),Nk f fs off=some r->
 (∀g∈fs,∀s,f g.type=some s->∃x,aH h S s ((cs.drop g.offset).take s.len) x)->
 ∃x,aH h S r ((cs.drop off).take r.len) x
 |[],off,r,hr,_=>by
  cases hr;exact⟨(),by rw[aH];simp[au.len]⟩
 |g::fs,off,r,hr,hall=>by
  rw[Nk]at hr;split at hr
  .next s hs=>
   split at hr
   .next u hu hb=>
    cases hr;obtain⟨x,hx⟩:=hall g auO s hs;rw[auG hb]at hx;obtain⟨y,hy⟩:=abk cs part fs (off+s.len) u hu λg' hg'=>hall g' (auM _ hg');refine⟨ags s u x y,?_⟩;have:=aH.app s u x y _ _ hx hy;rw[ajJ];have e:(cs.drop off).take (s.len+u.len)=(cs.drop off).take s.len++(cs.drop (off+s.len)).take u.len:=by rw[List.take_add,awc]
    rw[e];exact this
   .cases hr
  .cases hr
theorem ZG:∀(n:Nat)(t:TypeId)(r:au),rowOf P n t=some r->∀(m:Nat)(base:Nat)(spare:Nat->Bool)(held:Bool)(cs:List Value)(x:DataW H×List MemPlace),
 DataW.trod enc P w base spare held m t cs=some x->∃y,aH w.heap (λb=>b<w.heap.size) r cs y
 |0,t,r,hr=>by cases hr
 |n+1,t,r,hr=>by
  intro m base spare held cs x hx;rw[rowOf]at hr;split at hr
  .next k hu=>cases hr;obtain⟨i,rfl,_,hwf⟩:=DataW.trod_int hu hx;simp only[Lit.wf,auC,auP]at hwf;exact⟨(i,()),by rw[aH];exact⟨_,[],rfl,by rw[bY];exact⟨rfl,hwf⟩,by rw[aH]⟩⟩
  .next hu=>cases hr;obtain⟨b,rfl,_⟩:=DataW.trod_bool hu hx;exact⟨(b,()),by rw[aH];exact⟨_,[],rfl,by rw[bY],by rw[aH]⟩⟩
  .next hu=>cases hr;obtain⟨s,rfl,_,hs⟩:=DataW.trod_string hu hx;refine⟨(s.data.toList,()),by rw[aH];exact⟨_,[],rfl,by rw[bY];exact⟨abZ,by simpa using hs⟩,by rw[aH]⟩⟩
  .next e hu=>
   split at hr
   .next s hs=>
    split at hr
    .next hb=>
     cases hr;rw[auC]at hb;have hlen:=auG hb.1;have hpos:1<=s.len:=by simpa[awZ]using hb.2
     rcases DataW.trod_slice hu hx with⟨rfl,_⟩|⟨a,len,cap,elems,rest,k,_,rfl,_,hbase,hle,hmax,hel,hrow,_,_⟩
     .exact⟨([],()),by rw[aH];exact⟨_,[],rfl,by rw[bY];exact⟨abZ,.inl ⟨rfl,none,0,rfl⟩⟩,by rw[aH]⟩⟩
     .by_cases h0:len=0
      .subst h0;exact⟨([],()),by rw[aH];exact⟨_,[],rfl,by rw[bY];exact⟨abZ,.inl ⟨rfl,some a,cap,rfl⟩⟩,by rw[aH]⟩⟩
      .have each:∀i,i<len->∃(ys:List Value)(z:s.den),w.cells? base (a.add (i*P.cellsOf e)) (P.cellsOf e)=some ys/\aH w.heap (λb=>b<w.heap.size) s ys z:=by intro i hi;have h1:=hrow i hi;rw[auJ aaV]at h1;obtain⟨ys,hys,hy2⟩:=Option.bind_eq_some_iff.1 h1;obtain⟨z,hz⟩:=ZG n e s hs k base spare held ys _ hy2;exact⟨ys,z,hys,hz⟩
       obtain⟨ys0,z0,hc0,hz0⟩:=each 0 aaV;obtain⟨_,hl0,hcell0⟩:=World.cells?_some hc0;have ZH:=hcell0 0 aaV;simp only[awN,Addr.add,if_true]at ZH;have asn:∃v,ys0[0]? =some v:=⟨ys0[0]' aaV,by simp[show 0<ys0.length from aaV]⟩;obtain⟨v0,hv0⟩:=asn;rw[hv0]at ZH;unfold World.cell? at ZH;split at ZH
       .next c ty fz hblk=>
        split at ZH
        .cases ZH
        .next hsp=>
         have hspot:a.spot=none:=by cases h:a.spot with|none=>rfl|some q=>rw[h]at hsp;simp at hsp
         have ha:a=⟨a.block,a.off,none⟩:=by cases a;simp at hspot;rw[hspot]
         have hb':a.block<w.heap.size:=by obtain⟨hlt,_⟩:=auL.1 hblk;exact hlt
         have rows:∀i,i<len->∃z:s.den,aH w.heap (λb=>b<w.heap.size) s ((c.toList.drop (a.off+i*s.len)).take s.len) z:=by
          intro i hi;obtain⟨ys,z,hcs,hz⟩:=each i hi;obtain⟨_,hl,hcell⟩:=World.cells?_some hcs;refine⟨z,?_⟩;have:(c.toList.drop (a.off+i*s.len)).take s.len=ys:=by
           refine awu λj=>?_;rcases au2 j s.len with hj|hj
           .rw[avN hj,avg];have h2:=hcell j aaV;have hadd:=add_add a hspot (i*P.cellsOf e) j;rw[← hlen]at hadd h2;rw[hadd]at h2;unfold World.cell? at h2;simp only[hblk,Option.isSome_none,av7,awY]at h2;rw[← h2];simp
           .rw[avF aeV,avF aaV]
          rw[this];exact hz
         obtain⟨l,hll,hlq⟩:=ajI len rows;refine⟨(l,()),by rw[aH];exact⟨_,[],rfl,by rw[bY];exact⟨aaV,.inr ⟨a.block,a.off,cap,c,ty,fz,by rw[hll,← ha],aaV,hb',hblk,hlq⟩⟩,by rw[aH]⟩⟩
       .cases ZH
    .cases hr
   .cases hr
  .next fs hu=>
   split at hr
   .next r' hf=>
    split at hr
    .next hb=>
     split at hr
     .next hall=>
      cases hr;obtain⟨xs,k,_,_,hcl,hxl,hparts⟩:=DataW.trod_struct hu hx;have hlen:=auG hb;have:=abk (h:=w.heap) (S:=λb=>b<w.heap.size) cs (λ_ _ _ _ _=>trivial) fs.toList 0 _ hf ?_
      .obtain⟨y,hy⟩:=this;refine⟨y,?_⟩;rw[awn,avl aaV]at hy;exact hy
      .intro g hg s hs;have hg2:=auY.1 hall g hg;rw[hs]at hg2;have hsl:=auG hg2;obtain⟨i,hi,hgi⟩:=aws.1 hg;have hp:=hparts i g (by rw[← hgi];simp[show i<fs.size from ah7]);rw[auJ (by simp at hi;omega)]at hp;rw[hsl];exact ZG n g.type s hs k base spare held _ _ hp
     .cases hr
    .cases hr
   .cases hr
  .cases hr
def CT.csh:CT->gY
 |.int k=>.int k
 |.bool=>.bool
 |.str=>.str
 |.sl e r=>.sl e r false
def toC:(c:CT)->c.den->c.csh.den
 |.int _,x=>x
 |.bool,x=>x
 |.str,x=>x
 |.sl _ _,x=>x
def au.shs:au->List gY
 |.nil=>[]
 |.cons c r=>c.csh::r.shs
def toCs:(r:au)->r.den->lT r.shs
 |.nil,_=>()
 |.cons c r,x=>(toC c x.1,toCs r x.2)
theorem adw(X:V):∀(r:au)(vs:List Value)(x:r.den),aH X.w.heap (X.bW false) r vs x->ai X (iw r.shs (toCs r x)) vs
 |.nil,vs,x,h=>by rw[aH]at h;subst h;trivial
 |.cons c r,vs,(x,y),h=>by
  rw[aH]at h;obtain⟨v,vs',rfl,h1,h2⟩:=h;refine⟨?_,adw X r vs' y h2⟩;cases c with
  |int k=>exact h1
  |bool=>exact h1
  |str=>exact h1
  |sl e r=>exact h1
def akM(P:Program)(t:TypeId):Option oC:=
 match rowOf P 64 t with
 |some r=>match P.underlying t with
  |some (.struct _)=>some (.agg r.shs)
  |some (.array _ _)=>none
  |_=>match r with
   |.cons c .nil=>some (.one c.csh)
   |_=>none
 |none=>none
def KO(P:Program):List TypeId->Option (List iE)
 |[]=>some []
 |t::ts=>match akM P t,KO P ts with
  |some s,some l=>some (.v s::l)
  |_,_=>none
def start(w:World):V:=⟨w,w.heap.size,λb=>b<w.heap.size,λ_=>undef,λ_=>none⟩
theorem apb{t:TypeId}{s:oC}(hs:akM P t=some s){base base':Nat}{sp:Nat->Bool}{hd:Bool}{v:Value}{d:DataW H}{p:List MemPlace}
 (ht:DataW.Trod enc P w base sp hd t v d p) (hv:Value.okWide P w .any base' t v):∃x:s.den,dF (start w) (s.val x) v:=by
 unfold akM at hs;split at hs
 .next r hr=>
  obtain⟨m,hm⟩:=ht;obtain⟨y,hy⟩:=ZG 64 t r hr m base sp hd _ _ hm;have hy':aH (start w).w.heap ((start w).bW false) r v.cells.toList y:=
   aH.mono (λb hb=>⟨⟨⟨hb,λ_=>hb,λo x hx=>aeZ⟩,λe=>ahb⟩,rfl⟩) r _ y hy
  unfold Value.okWide at hv;split at hs
  .next fs hu=>cases hs;rw[hu]at hv;obtain⟨cs,rfl,_,_⟩:=hv;exact⟨toCs r y,cs,rfl,adw (start w) r _ y hy'⟩
  .cases hs
  .next hns hna=>
   split at hs
   .next c=>
    cases hs;have hcell:v.cells=#[v]:=by
     cases hv2:v<;>first
      |rfl
      |(exfalso
        rw[hv2]at hv;split at hv
        .next hu=>exact hns _ hu
        .next hu=>exact hna _ _ hu
        .unfold Go.Cell.okWide at hv;split at hv<;>first|(rename_i h1 h2;cases h2;done)|(rename_i h2;cases h2;done)|skip;unfold Go.Cell.ok at hv;split at hv<;>first|(rename_i h1 h2;cases h2;done)|exact hv)
    have:=adw (start w) _ _ y hy';rw[hcell]at this;exact⟨toC c y.1,this.1⟩
   .cases hs
 .cases hs
theorem ahi:∀(ts:List TypeId)(sh:List iE),KO P ts=some sh->∀{base base':Nat}{sp:Nat->Bool}{hd:Bool}(vs:List Value)(ds:List (DataW H))(p:List MemPlace),
 DataW.TrodAll enc P w base sp hd ts vs ds p->(∀(j:Nat) t v,ts[j]? =some t->vs[j]? =some v->Value.okWide P w .any base' t v)->∃x:jr sh,oq (start w) (uy sh x) vs
 |[],sh,hs,_,_,_,_,vs,ds,p,h,_=>by
  cases hs;cases vs with
  |nil=>exact⟨(),trivial⟩
  |cons v vs=>cases ds<;>simp[DataW.TrodAll]at h
 |t::ts,sh,hs,base,base',sp,hd,vs,ds,p,h,hok=>by
  rw[KO]at hs;split at hs
  .next s l h1 h2=>
   cases hs;cases vs with
   |nil=>cases ds<;>simp[DataW.TrodAll]at h
   |cons v vs=>
    cases ds with
    |nil=>simp[DataW.TrodAll]at h
    |cons d ds=>obtain⟨a,b,g1,g2,_⟩:=h;obtain⟨x,hx⟩:=apb h1 g1 (hok 0 t v rfl rfl);obtain⟨y,hy⟩:=ahi ts l h2 vs ds b g2 λj t' v' ht' hv'=>hok (j+1) t' v' (by simpa using ht') (by simpa using hv');exact⟨(x,y),hx,hy⟩
  .cases hs
mutual
theorem CT.He:∀(c:CT),c.beq c=true
 |.int k=>by simp[CT.beq]
 |.bool=>rfl
 |.str=>rfl
 |.sl e r=>by simp[CT.beq,au.He r]
theorem au.He:∀(r:au),r.beq r=true
 |.nil=>rfl
 |.cons c r=>by simp[au.beq,CT.He c,au.He r]
end
theorem aeY:∀(c:gY)(x:c.den),c.read (c.cell x)=some x
 |.int k,x=>by simp[gY.cell,gY.read]
 |.bool,x=>rfl
 |.str,x=>rfl
 |.sl e r fr,l=>by
  simp only[gY.cell,gY.read,avr];have h1:KI fr fr=true:=by cases fr<;>rfl
  have h2:r.beq r=true:=au.He r;rw[h1];simp only[Bool.and_self];rw[dif_pos h2];rfl
 |.nil,x=>rfl
 |.ref o,x=>by simp[gY.cell,gY.read]
 |.junk,x=>rfl
theorem abl:∀(l:List gY)(x:lT l),jO l (iw l x)=some x
 |[],_=>rfl
 |c::r,x=>by rw[iw,jO,aeY c x.1,abl r x.2]
theorem ahj:∀(ts:List TypeId)(l:List iE),KO P ts=some l->∀(x:jr l),FO l (uy l x)=some x
 |[],l,h,x=>by cases h;rfl
 |t::ts,l,h,x=>by
  rw[KO]at h;split at h
  .next s r h1 h2=>
   cases h;have ih:=ahj ts r h2 x.2;cases s with
   |one c=>
    have e:(iE.v (.one c)).read ((iE.v (.one c)).val x.1)=some x.1:=aeY c x.1;rw[uy,FO,ih,e]
   |agg l=>have e:(iE.v (.agg l)).read ((iE.v (.agg l)).val x.1)=some x.1:=abl l x.1;rw[uy,FO,ih,e]
  .cases h
def adx:Out:=⟨[(false,[.plain (.bool true)])],none⟩
theorem al8{G:jT}{f:FuncId}{fn:Func}{sh:List iE}{F:jr sh->Prop×Out}(hcon:fD P G f (wS sh F))(hsh:KO P fn.params.toList=some sh)
 (hF:∀x,JB sh x->(F x).1/\(F x).2=adx) (hG:G.ok w) {base base':Nat} {sp:Nat->Bool} {hd:Bool} {args:Array Value} {ds:List (DataW H)} {p:List MemPlace}
 (hA:DataW.TrodAll enc P w base sp hd fn.params.toList args.toList ds p) (hok:∀(j:Nat) t v,fn.params[j]? =some t->args[j]? =some v->Value.okWide P w .any base' t v):
 Calls P f args w λe w'=>e=.returned (.bool true)/\w'.os=w.os/\w'.output=w.output/\w.heap.size<=w'.heap.size/\∀b,b<w.heap.size->w'.heap[b]? =w.heap[b]? :=by
 obtain⟨x,hx⟩:=ahi _ _ hsh _ _ _ hA λj t v ht hv=>hok j t v (by simpa using ht) (by simpa using hv);have hin:=BI sh x _ hx;obtain⟨hp,ho⟩:=hF x hin;have hc:wS sh F (uy sh x)=some ((F x).1,adx):=by unfold wS;rw[ahj _ _ hsh x];simp only[← ho]
 refine(hcon (uy sh x) _ _ 0 _ args w hc hp hG hx).mono ?_;rintro e w' ⟨v,vals,rfl,h1,h2,h3,h4,h5,h6,_,_⟩;have hv:v=.bool true:=h6;exact⟨by rw[hv],h1,h3,h4,h5⟩
theorem anq{w w':World}(h1:w'.os=w.os)(h3:w'.output=w.output)(h5:∀b,b<w.heap.size->w'.heap[b]? =w.heap[b]?)(may:MemPlace->Prop):w.keptBut w' may:=by
 refine⟨h1,h3,λi hi=>?_⟩;rw[h5 i hi];cases hw:w.heap[i]? with
 |none=>trivial
 |some o=>cases o<;>simp
theorem anr{w w':World}(h5:∀b,b<w.heap.size->w'.heap[b]? =w.heap[b]?){p:MemPlace}(hp:p.block<w.heap.size):w.sameAt w' p:=by
 cases p with
 |cell b off=>
  show w'.cell? _=w.cell? _;unfold World.cell?;simp only;rw[h5 b hp]
 |map b=>exact h5 b hp
end Go.Fw
namespace Go.Fw
open Go
variable {P:Program} {G:jT} {f:FuncId}
theorem ai0{args:List Arg}{i:Nat}{x:Arg}{p:Nat}(hp:p / 64≠i):dn (args.set i x) p=dn args p:=by unfold dn;rw[avy (λh=>hp h.symm)]
theorem VG{args:List Arg}{i:Nat}{e:TypeId}{r:au}{l:List r.den}(hi:i<args.length)(p:Nat)(hp:p / 64=i):dn (args.set i (.own e r l)) p=if p=i*64+49 then some (.arr e r l false)else none:=by
 unfold dn;rw[hp,avT hi];by_cases h:p=i*64+49
 .subst h;have:Nat.beq ((i*64+49)%64) 49=true:=by have:(i*64+49)%64=49:=aaV;rw[this];rfl
  simp[this]
 .have:Nat.beq (p%64) 49=false:=by
   cases hb:Nat.beq (p%64) 49 with
   |false=>rfl
   |true=>have:=auG hb;omega
  simp[this,h]
theorem ajK{args:List Arg}{i:Nat}{v:SV}(ha:args[i]? =some (.sv v))(p:Nat)(hp:p / 64=i):dn args p=none:=by unfold dn;rw[hp,ha]
def KP(γ:Nat->Value)(i:Nat)(o:Nat):Value:=if o=i*64+49 then .slice none 0 0 else γ o
theorem oh.mono{X Y:V}(h:X.le Y):∀(a:Arg)(v:Value),oh X a v->oh Y a v
 |.sv x,v,H=>dF.mono h x v H
 |.kp cs,v,H=>aP.mono h (.fA cs 0) v H
 |.fn f caps,v,H=>aP.mono h (.fn f caps) v H
 |.own _ _ _,_,H|.ptr _,_,H=>H.elim
theorem KC.mono{X Y:V}(h:X.le Y)(i:Nat):∀(a:Arg)(v:Value),KC X i a v->KC Y i a v
 |.own _ _ _,v,H=>aO.mono h (.ref (i*64+49)) v H
 |.ptr _,v,H=>aP.mono h (.bK (i*64+48) 0) v H
 |.sv x,v,H=>oh.mono h (.sv x) v H
 |.kp cs,v,H=>oh.mono h (.kp cs) v H
 |.fn f caps,v,H=>oh.mono h (.fn f caps) v H
theorem wR.nil{X Y:V}(h:X.le Y){e:TypeId}{r:au}:∀(args:List Arg)(vs:List Value)(j i:Nat),args[i]? =some (.sv (.one .nil))->
 Y.ah ((j+i)*64+49)=some (.arr e r [] false)->Y.γ ((j+i)*64+49)=.slice none 0 0->wR X j args vs->wR Y j (args.set i (.own e r [])) vs
 |[],[],_,i,ha,_,_,_=>by simp at ha
 |[],_::_,_,_,_,_,_,H=>H.elim
 |_::_,[],_,_,_,_,_,H=>H.elim
 |a::args,v::vs,j,0,ha,ho,hγ,⟨h1,h2⟩=>by
  have ha:a=.sv (.one .nil):=by simpa using ha
  subst ha;have hv:v=.slice none 0 0:=h1;refine⟨⟨⟨e,r,[],false,ho⟩,?_,atj⟩,?_⟩
  .rw[hv];exact hγ.symm
  .show wR Y (j+1) args vs;clear h1 ha ho hγ hv;generalize j+1=k at h2
   induction args generalizing k vs with
   |nil=>cases vs with
    |nil=>trivial
    |cons _ _=>exact h2.elim
   |cons b args ih=>cases vs with
    |nil=>exact h2.elim
    |cons u vs=>exact⟨KC.mono h k b u h2.1,ih vs (k+1) h2.2⟩
 |a::args,v::vs,j,i+1,ha,ho,hγ,⟨h1,h2⟩=>by have e1:j+(i+1)=j+1+i:=aaV;rw[e1]at ho hγ;exact⟨KC.mono h j a v h1,wR.nil h args vs (j+1) i (by simpa using ha) ho hγ h2⟩
theorem jl.ap2{con VF:CZ}(i:Nat)(e:TypeId)(r:au)(hr:0<r.len)(h:jl P G f con)
 (hc:∀args p ρ,VF args=some (p,ρ)->p->args[i]? =some (.sv (.one .nil))/\(∀t,l7 (ρ.aC t) (i*64+49)=none)/\∃q,con (args.set i (.own e r []))=some (q,ρ)/\q):jl P G f VF:=by
 intro args p ρ hcon hp;obtain⟨ha,hF,q,hq1,hq⟩:=hc args p ρ hcon hp;have hlen:i<args.length:=by have:=auT.1 ha;exact this.1
 obtain⟨hex,hcall⟩:=h _ q ρ hq1 hq;refine⟨hex,λk S γ vs w hG hrep oQ hsep hfree=>?_⟩;have hO:∀o,o≠i*64+49->dn (args.set i (.own e r [])) o=dn args o:=by
  intro o ho;by_cases hd:o / 64=i
  .rw[VG hlen o hd,ajK ha o hd,if_neg ho]
  .exact ai0 hd
 have hN:dn (args.set i (.own e r [])) (i*64+49)=some (.arr e r [] false):=by rw[VG hlen _ aaV,if_pos rfl]
 have hN':dn args (i*64+49)=none:=ajK ha _ aaV;have hγN:KP γ i (i*64+49)=.slice none 0 0:=if_pos rfl;have hγ:∀o,o≠i*64+49->KP γ i o=γ o:=λo ho=>if_neg ho;have hne:∀o x,dn args o=some x->o≠i*64+49:=λo x ho e=>by rw[e,hN']at ho;cases ho
 have le:V.le ⟨w,w.heap.size,S,γ,dn args⟩ ⟨w,w.heap.size,S,KP γ i,dn (args.set i (.own e r []))⟩:=by
  refine⟨auH _,λb hb=>⟨⟨hb.1,hb.2.1,λo x hx=>?_⟩,rfl⟩,λo cs hx=>⟨⟨cs,?_⟩,hγ o (hne o _ hx)⟩,λo e r l fr hx=>⟨⟨l,fr,?_⟩,hγ o (hne o _ hx)⟩⟩
  .by_cases ho:o=i*64+49
   .show blk (KP γ i o)≠some b;rw[ho,hγN];intro hh;cases hh
   .show blk (KP γ i o)≠some b;rw[hγ o ho];exact hb.2.2 o x ((hO o ho).symm.trans hx)
  .exact(hO o (hne o _ hx)).trans hx
  .exact(hO o (hne o _ hx)).trans hx
 have hbl:∀b,uw (dn (args.set i (.own e r []))) (KP γ i) b↔uw (dn args) γ b:=by
  intro b;constructor
  .rintro⟨o,x,h1,h2⟩;by_cases ho:o=i*64+49
   .rw[ho,hγN]at h2;cases h2
   .exact⟨o,x,(hO o ho)▸h1,(hγ o ho)▸h2⟩
  .rintro⟨o,x,h1,h2⟩;exact⟨o,x,(hO o (hne o x h1)).trans h1,by rw[hγ o (hne o x h1)];exact h2⟩
 refine avd (hcall k S (KP γ i) vs w hG (wR.nil (Y:=⟨w,w.heap.size,S,KP γ i,dn (args.set i (.own e r []))⟩) le args vs.toList 0 i ha (by rw[au8];exact hN) (by rw[au8];exact hγN) hrep) ?_ ?_ hfree) ?_
 .intro o x hx;by_cases ho:o=i*64+49
  .subst ho;rw[hN]at hx;cases hx;refine⟨⟨[],?_,hr,λb hb=>?_,λj x hj=>by simp at hj⟩,λb hb=>?_⟩
   .show w.ownsRow 0 e r.len (KP γ i (i*64+49)) 0 [];rw[hγN];exact awJ w 0 e r.len
   .have hb:blk (KP γ i (i*64+49))=some b:=hb;rw[hγN]at hb;cases hb
   .rw[hγN]at hb;cases hb
  .have hx':dn args o=some x:=(hO o ho)▸hx;have:=oQ o x hx';refine⟨aZ.mono le o x (λb _=>rfl) (hγ o ho) this.1,λb hb=>this.2 b ((hγ o ho)▸hb)⟩
 .intro o x q y b hx hy hoq hb;by_cases ho:o=i*64+49
  .rw[ho,hγN]at hb;cases hb
  by_cases hq':q=i*64+49
  .rw[hq',hγN];intro hh;cases hh
  rw[hγ o ho]at hb;rw[hγ q hq'];exact hsep o x q y b ((hO o ho)▸hx) ((hO q hq')▸hy) hoq hb
 .rintro en w' ⟨t,ht,v,γ',h1,h2,h3,h4,h5,h6,h7,h8,h9,h10⟩;have akN:∀o x,l7 (ρ.aC t) o=some x->o≠i*64+49:=λo x ho e=>by rw[e,hF t]at ho;cases ho
  have hL:qc S (args.set i (.own e r [])) (ρ.aC t) (KP γ i)=qc S args (ρ.aC t) γ:=by
   funext b
   apply propext;constructor
   .rintro⟨a1,a2⟩;refine⟨a1.imp_right (hbl b).1,λq y hy=>?_⟩;have:=a2 q y hy
    rwa [hγ q (akN q y hy)]at this
   .rintro⟨a1,a2⟩;refine⟨a1.imp_right (hbl b).2,λq y hy=>?_⟩;rw[hγ q (akN q y hy)];exact a2 q y hy
  rw[hL]at h7 h8 h10;refine⟨t,ht,v,γ',h1,h2,h3,h4,h5,λb hb hn=>h6 b hb (λh=>hn ((hbl b).1 h)),h7,λo x hx=>?_,h9,λo x hx=>?_⟩
  .obtain⟨a1,a2⟩:=h8 o x hx;refine⟨a1,λb hb=>?_⟩;obtain⟨b1,b2,b3⟩:=a2 b hb;refine⟨b1,b2.imp_right (hbl b).1,λq y hy=>?_⟩;have:=b3 q y hy
   rwa [hγ q (akN q y hy)]at this
  .obtain⟨a1,a2⟩:=h10 o x hx;exact⟨a1.trans (hγ o (akN o x hx)),a2⟩
theorem al9{l:List gY}{e:TypeId}{r:au}{rest:List iG}{bH:List pF}{F:jq (.ptr l:: .own e r::rest)->Prop×(lN bH×kX (.ptr l:: .own e r::rest)->Prop)}
 {F':jq (.ptr l:: .p (.v (.one .nil))::rest)->Prop×(lN bH×kX (.ptr l:: .own e r::rest)->Prop)} (hr:0<r.len) (h:jl P G f (pV (.ptr l:: .own e r::rest) bH F))
 (hF:∀a x,(F' (a,(),x)).1->(F (a,[],x)).1) (hF2:∀a x,(F' (a,(),x)).1->(F' (a,(),x)).2=(F (a,[],x)).2):jl P G f (pV (.ptr l:: .p (.v (.one .nil))::rest) bH F'):=by
 refine jl.ap2 1 e r hr h λargs p ρ hcon hp=>?_
 match args,hcon with
 |[],hcon=>simp[pV,iO]at hcon
 |[a],hcon=>
  have:iO (.ptr l:: .p (.v (.one .nil))::rest) [a]=none:=by simp only[iO];split<;>simp_all
  simp[pV,this]at hcon
 |a::b::args,hcon=>
  cases ha:(iG.ptr l).read a with
  |none=>simp[pV,iO,ha]at hcon
  |some a'=>
  cases hb:(iG.p (.v (.one .nil))).read b with
  |none=>simp[pV,iO,ha,hb]at hcon
  |some b'=>
  cases hx:iO rest args with
  |none=>simp[pV,iO,ha,hb,hx]at hcon
  |some x=>
   have hb2:b=.sv (.one .nil):=by
    cases b with
    |sv s=>cases s with
     |one c=>cases c with
      |nil=>rfl
      |int k n=>cases hb
      |bool k=>cases hb
      |str k=>cases hb
      |sl e r l fr=>cases hb
      |ref o=>cases hb
      |junk=>cases hb
     |agg cs=>cases hb
    |_=>cases hb
   subst hb2;simp only[pV,iO,ha,hb,hx]at hcon;have hcon:=Option.some.inj hcon;have h1:(F' (a',(),x)).1=p:=congrArg Prod.fst hcon;have h2:(⟨lN bH×kX (.ptr l:: .own e r::rest),(F' (a',(),x)).2,λt=>⟨iM bH t.1,none⟩,λt=>jP (.ptr l:: .own e r::rest) t.2⟩:Ja)=ρ:=congrArg Prod.snd hcon;have hp':(F' (a',(),x)).1:=h1▸hp;subst h2;refine⟨rfl,λt=>rfl,(F (a',[],x)).1,?_,hF a' x hp'⟩
   .have ho:(iG.own e r).read (.own e r [])=some []:=by unfold iG.read;simp only[avr];rw[dif_pos (au.He r)];rfl
    simp only[List.set_cons_succ,List.set_cons_zero,pV,iO,ha,ho,hx];have:=hF2 a' x hp';exact congrArg (λz=>some ((F (a',[],x)).1,(⟨lN bH×kX (.ptr l:: .own e r::rest),z,λt=>⟨iM bH t.1,none⟩,λt=>jP (.ptr l:: .own e r::rest) t.2⟩:Ja))) this.symm
end Go.Fw
namespace Go.Fw
open Go
theorem af{b:Bool}{A B:Prop}(h1:b=true->A)(h2:b=false->B):cond b A B:=by
 cases b
 .exact h2 rfl
 .exact h1 rfl
theorem iy{D:Type}{A:(D->Prop)->Prop}{R:D->Prop}(f:D)(h1:A λy=>y=f)(h2:R f):∃J:D->Prop,A J/\∀y,J y->R y:=
 ⟨λy=>y=f,h1,λ_ hy=>hy▸h2⟩
theorem drop_cons{α:Type}(a:List α)(n:Nat)(d:α)(h:n<a.length):a.drop n=a.getD n d::a.drop (n+1):=by rw[av6 h,auF,auJ h,aw3]
theorem eF(z:Int)(h:-9223372036854775808<=z/\z<=9223372036854775807):IntKind.i64.wrap z=z:=IntWalk.i64_in z aaV
theorem maxLen_eq:maxLen=9223372036854775807:=abV
theorem iC:big=4294967296:=rfl
theorem getD_mem{α:Type}{l:List α}{n:Nat}{d:α}(h:n<l.length):l.getD n d∈l:=by rw[auF,auJ h,aw3];exact av3 h
end Go.Fw
namespace Go.Fw
open Go
def ap3(w:World)(S:Nat->Prop)(k:Nat)(out:Out)(e:Ending)(w':World):Prop:=
 ∃v vals,e=.returned v/\w'.os=w.os/\w'.tape=w.tape/\w'.output=w.output/\w.heap.size<=w'.heap.size/\
    (∀b,b<w.heap.size->w'.heap[b]? =w.heap[b]?)/\
    aP ⟨w',w.heap.size,S,vals,Fw.look (out.take k).2⟩ (out.take k).1 v/\
    (∀o x,Fw.look (out.take k).2 o=some x->aZ ⟨w',w.heap.size,S,vals,Fw.look (out.take k).2⟩ o x/\∀b,blk (vals o)=some b->w.heap.size<=b/\b<w'.heap.size)/\
    (∀o x q y b,Fw.look (out.take k).2 o=some x->Fw.look (out.take k).2 q=some y->o≠q->blk (vals o)=some b->blk (vals q)≠some b)
theorem ahk{w w':World}{S:Nat->Prop}{k:Nat}{s:Bytes}(hos:w'.os=w.os)(htape:w'.tape=w.tape)(hout:w'.output=w.output)(hsize:w.heap.size<=w'.heap.size)
 (ap4:∀b,b<w.heap.size->w'.heap[b]? =w.heap[b]?) (hs:s.length<=maxLen):ap3 w S k ⟨[(false,[.plain (.str s)])],none⟩ (.returned (.string ⟨s.toArray⟩)) w':=
 ⟨_,λ_=>undef,rfl,hos,htape,hout,hsize,ap4,⟨rfl,hs⟩,(λo x hx=>aeZ),(λo x q y b hx=>aeZ)⟩
end Go.Fw
namespace Go.Fw
open Go
variable {P:Program}
theorem ai1{s:iG}{sh:List iG}:∀{args:List Arg}{d:jq (s::sh)},iO (s::sh) args=some d->∃x xs,args=x::xs/\s.read x=some d.1/\iO sh xs=some d.2
 |[],_,h=>aqg
 |x::xs,d,h=>by
  rw[iO]at h;split at h
  .next a b h1 h2=>cases h;exact⟨x,xs,rfl,h1,h2⟩
  .cases h
theorem akO:∀{args:List Arg}{d:jq []},iO [] args=some d->args=[]
 |[],_,_=>rfl
 |_::_,_,h=>aqg
end Go.Fw
namespace Go.Fw
open Go
variable {P:Program} {H:Type} {enc:TypeId×Value->H} {w:World}
theorem Ud(hl:laidOutB P=true){base:Nat}{sp':Nat->Bool}{W W':World}:∀(ts:List TypeId)(_:ts.all (λt=>P.readableRec t&&decide (t<P.types.size))=true)
 (vs:List Value) (ds:List (DataW H)) (ps:List MemPlace),DataW.TrodAll enc P W base (λ_=>true) true ts vs ds ps->(∀p∈ps,W.sameAt W' p)->(∀p∈ps,sp' p.block=true)->DataW.TrodAll enc P W' base sp' true ts vs ds ps
 |[],_,vs,ds,ps,h,_,_=>by
  cases vs<;>cases ds<;>simp[DataW.TrodAll]at h ⊢;exact h
 |t::ts,ht,vs,ds,ps,h,h1,h2=>by
  rw[avM,auC,auC]at ht;cases vs with
  |nil=>cases ds<;>simp[DataW.TrodAll]at h
  |cons v vs=>
   cases ds with
   |nil=>simp[DataW.TrodAll]at h
   |cons d ds=>
    obtain⟨a,b,g1,g2,rfl⟩:=h;exact⟨a,b,WideElems.Trod_stays hl ht.1.1 (avZ ht.1.2) g1 (λp hp=>h1 p (avp _ hp)) (λp hp=>h2 p (avp _ hp)),
     Ud hl ts ht.2 vs ds b g2 (λp hp=>h1 p (avJ _ hp)) (λp hp=>h2 p (avJ _ hp)),rfl⟩
theorem trodAll_length{base:Nat}{sp:Nat->Bool}{hd:Bool}{W:World}:∀(ts:List TypeId)(vs:List Value)(ds:List (DataW H))(ps:List MemPlace),DataW.TrodAll enc P W base sp hd ts vs ds ps->ds.length=ts.length
 |[],vs,ds,ps,h=>by cases vs<;>cases ds<;>simp[DataW.TrodAll]at h ⊢
 |t::ts,vs,ds,ps,h=>by
  cases vs with
  |nil=>cases ds<;>simp[DataW.TrodAll]at h
  |cons v vs=>
   cases ds with
   |nil=>simp[DataW.TrodAll]at h
   |cons d ds=>obtain⟨a,b,g1,g2,rfl⟩:=h;simp[trodAll_length ts vs ds b g2]
theorem ant{fn:Func}{s:ChangeSpec}{apart fresh handsOn again:Bool}{W W':World}{args:Array Value}{ds gs:List (DataW H)}{before:List MemPlace}{tb:TypeId}
 (hvars:s.vars=[]) (hspec:∀l:List (DataW H),l.length=fn.params.toList.length->(s.fn H l).results=[.lit (.bool true)]/\(s.fn H l).args=l/\(s.fn H l).vars=[])
 (hres:fn.resultTypes=#[tb]) (hb:P.underlying tb=some .bool) (hl:laidOutB P=true) (hread:fn.params.toList.all (λt=>P.readableRec t&&decide (t<P.types.size))=true)
 (hW:DataW.Whole enc P fn.params.toList s.vars apart W args.toList ds gs before) (hos:W'.os=W.os) (hout:W'.output=W.output) (hheap:∀b,b<W.heap.size->W'.heap[b]? =W.heap[b]?):
 s.post enc P fn apart fresh handsOn again W args (.bool true) W':=by
 have hlt:=hW.lt;have hW0:=hW;obtain⟨p,q,hA,hV,hpq,hz,hn⟩:=hW;rw[hvars]at hV;have hg:gs=[]/\q=[]:=by
  cases gs with
  |nil=>exact⟨rfl,hV⟩
  |cons g gs=>simp[DataW.TrodVars]at hV
 obtain⟨rfl,rfl⟩:=hg;rw[au7]at hpq;subst hpq;have hlen:=trodAll_length _ _ _ _ hA;obtain⟨r1,r2,r3⟩:=hspec (ds++[]) (by simpa using hlen);rw[au7]at r1 r2 r3;have hsame:∀x∈before,W.sameAt W' x:=λx hx=>anr hheap (hlt x hx);have R:∀(b:Nat)(sp:Nat->Bool)(hd:Bool),DataW.TrodAll enc P W' b sp hd fn.resultTypes.toList ((Value.bool true).resultList fn.resultTypes.size) [.lit (.bool true)] []:=by intro b sp hd;rw[hres];exact⟨[],[],⟨1,by simp[DataW.trod,Value.cells,hb]⟩,rfl,rfl⟩
 have A:∀sp:Nat->Bool,(∀x∈before,sp x.block=true)->DataW.TrodAll enc P W' 0 sp true fn.params.toList args.toList ds before:=λsp hsp=>Ud hl _ hread _ _ _ hA hsame hsp;have hold:∀x∈before,(λb=>decide (b<W.heap.size)) x.block=true:=λx hx=>by simpa using hlt x hx
 refine⟨ds,[],before,[],before,[],hW0,?_,?_,?_,anq hos hout hheap _,λ_=>⟨?_,.lit (.bool true)::ds,[],before,⟨before,[],?_,?_,abZ,?_,hn⟩,λx hx _=>hx⟩⟩
 .rw[au7,r1];exact R _ _ _
 .rw[au7,r2];exact A _ hold
 .rw[au7,r3,hvars];rfl
 .intro j t r h1 h2;rw[hres]at h1 h2
  match j with
  |0=>
   simp[Value.resultList]at h1 h2;subst h1 h2;simp[Value.okWide,hb,Go.Cell.okWide,Go.Cell.ok]
  |j+1=>simp at h1
 .exact ChangeShapes.trodAll_append (A _ (λ_ _=>rfl)) (R _ _ _)
 .rw[hvars];rfl
 .intro b off hp;have hbl:=hlt _ hp;have e:W'.frozen? ⟨b,off,none⟩=W.frozen? ⟨b,off,none⟩:=by unfold World.frozen?;simp only;rw[hheap b hbl]
  rw[e];exact hz b off hp
end Go.Fw
namespace Go.Fw
open Go
end Go.Fw
namespace Go.Fw
open Go
theorem X5{H:Type}{enc:TypeId×Value->H}{C:Checked}{G:jT}{os:Os}{f:FuncId}{fn:Func}{s:ChangeSpec}{conds:List PathCond}{apart fresh handsOn again:Bool}{tb:TypeId}{sh:List iE}{F:jr sh->Prop×Out}
 {X:World->Prop} (hX:∀w w':World,w.heap=w'.heap->X w->X w')
 (own:ownKnob C.prog.godebug=none) (started:os.Started) (noInit:C.prog.inits.idxOf? f=none) (hfn:C.prog.funcs[f]? =some fn)
 (witness:∃(w:World)(tape:Tape)(i:Input),w.os=os/\(w.forCall tape i).Shaped C.prog/\i.vars=[]/\Input.okWide C.prog (w.forCall tape i) .any w.heap.size f i/\
   ((s.pre enc C.prog fn conds apart (w.forCall tape i).memory i.args/\X (w.forCall tape i).memory)/\sizedMet enc C.prog fn (OpenSpec.ofChange s) apart (w.forCall tape i).memory i.args)/\({}:Assume).holds C.prog (lone (Frame.enter C.prog f i.args .normal) [] (w.forCall tape i)))
 (hcon:fD C.prog G f (wS sh F)) (hsh:KO C.prog fn.params.toList=some sh) (hF:∀x,JB sh x->(F x).1/\(F x).2=adx) (hG:∀w,X w->w.ShapedOpen C.prog->G.ok w)
 (hvars:s.vars=[]) (hspec:∀l:List (DataW H),l.length=fn.params.toList.length->(s.fn H l).results=[.lit (.bool true)]/\(s.fn H l).args=l/\(s.fn H l).vars=[])
 (hres:fn.resultTypes=#[tb]) (hb:C.prog.underlying tb=some .bool) (hl:laidOutB C.prog=true) (hread:fn.params.toList.all (λt=>C.prog.readableRec t&&decide (t<C.prog.types.size))=true):
 ReturnsInHanded {} C os f .any (λw args=>(s.pre enc C.prog fn conds apart w args/\X w)/\sizedMet enc C.prog fn (OpenSpec.ofChange s) apart w args) (s.post enc C.prog fn apart fresh handsOn again):=by
 refine returnsInHanded_of_calls own started noInit witness ?_;intro w tape i _ apc _ hok hpre _;obtain⟨_,_,_,fn',hfn',_,_,_,_,hval⟩:=hok;have e:fn'=fn:=Option.some.inj (hfn'.symm.trans hfn);subst e;obtain⟨⟨⟨ds,gs,before,hw,hc⟩,hx⟩,hz⟩:=hpre;have hW:=DataW.Whole.of_heap (w':=w.forCall tape i) aqk hw;have hW0:=hW;obtain⟨p,q,hA,_⟩:=hW;refine(al8 hcon hsh hF (hG (w.forCall tape i) (hX _ _ aqk hx) apc) hA hval).mono ?_;rintro e W' ⟨rfl,h1,h2,_,h3⟩;exact ChangeSpec.post_blind (ant hvars hspec hres hb hl hread hW0 h1 h2 h3)
end Go.Fw
