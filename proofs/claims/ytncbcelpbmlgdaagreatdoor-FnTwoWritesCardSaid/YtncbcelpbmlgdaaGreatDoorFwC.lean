import Derived.Test.YtncbcelpbmlgdaaGreatDoorFwD
import Derived.Test.YtncbcelpbmlgdaaGreatDoorFwB
import Derived.Test.YtncbcelpbmlgdaaGreatDoorFwA
import Derived.ChangeArms
import Derived.WideKeyArgs
import Derived.ChangeSame
import Derived.ChangeOld
import Derived.Handed
import Derived.IntWalk
import Derived.Laws.IdiomCopy
import Derived.ProofKit
namespace Go.Fw
open Go
variable {P:Program} {w0:World} {M:Nat->Prop} {T:Ext} {γ γ':Nat->Value} {st:St} {a:Act} {w w':World} {Θ:iO} {Γ:jU}
structure Dz where
 afR:List Qx
 c:Shape
 v:Shape
structure Hints where
 own:Nat->Bool
 loops:Nat->Option Dz
 cuts:Nat->Option Dz
 upd:List Nat
 frz:Nat->List Pre
def tZ:Code->Option Nat
 |.region id _ _=>some id
 |.seq x y=>match tZ x with|some n=>some n|none=>tZ y
 |.cond _ x y=>match tZ x with|some n=>some n|none=>tZ y
 |.block _ x|.loop x=>tZ x
 |_=>none
def cutAt(H:Hints)(y:Code):Option Dz:=match tZ y with
 |some n=>H.cuts n
 |none=>none
def Cc(Θ:iO)(Γ:jU)(H:Hints):Code->(Exit->St->Prop)->St->Prop
 |.skip,Q,st=>Q .normal st
 |.region id ops false,Q,st=>MI (H.frz id) (runs Θ Γ H.own ops.toList (Q .normal) ops.toList) st
 |.region id ops true,Q,st=>MI (H.frz id) (IK Θ Γ H.own H.upd ops.toList (Q .normal)) st
 |.seq x y,Q,st=>match cutAt H y with
  |none=>Cc Θ Γ H x (λe s=>match e with|.normal=>Cc Θ Γ H y Q s|e=>Q e s) st
  |some sp=>match sp.c.read (only sp.c sp.v st)with
   |some x0=>∃(J:sp.v.den->Prop),Cc Θ Γ H x (λe s=>match e with
     |.normal=>match settles s sp.afR with
      |some s1=>match Nat.beq s1.n st.n,sp.c.read (only sp.c sp.v s1),sp.v.read (only sp.c sp.v s1)with
       |true,some x1,some y1=>x1=x0/\J y1
       |_,_,_=>False
      |none=>False
     |e=>Q e s) st/\∀y1,J y1->Cc Θ Γ H y Q (joint st.n sp.c sp.v x0 y1)
   |none=>False
 |.cond c x y,Q,st=>match st.ev c with
  |.sv (.one (.bool b))=>cond b (Cc Θ Γ H x Q st) (Cc Θ Γ H y Q st)
  |_=>False
 |.block id c,Q,st=>Cc Θ Γ H c (λe s=>match e with
  |.exit i=>match Nat.beq i id with|true=>Q .normal s|false=>Q (.exit i) s
  |e=>Q e s) st
 |.exit id,Q,st=>Q (.exit id) st
 |.ret,Q,st=>Q .ret st
 |.loop c,Q,st=>match tZ c with
  |some n=>match H.loops n with
   |some sp=>match settles st sp.afR with
    |some s0=>match sp.c.read (only sp.c sp.v s0),sp.v.read (only sp.c sp.v s0)with
     |some x0,some y0=>∃(I:sp.v.den->Prop)(μ:sp.v.den->Nat),I y0/\∀y,I y->
       Cc Θ Γ H c (λe s=>match e with
        |.normal=>match settles s sp.afR with
         |some s1=>match Nat.beq s1.n s0.n,sp.c.read (only sp.c sp.v s1),sp.v.read (only sp.c sp.v s1)with
          |true,some x1,some y1=>x1=x0/\I y1/\μ y1<μ y
          |_,_,_=>False
         |none=>False
        |e=>Q e s) (joint s0.n sp.c sp.v x0 y)
     |_,_=>False
    |none=>False
   |none=>False
  |none=>False
 |_,_,_=>False
theorem Qy{G:jo}(hE:oW P G Θ Γ w0 M)(hm:P.follows .mixedOrders=true)(H:Hints):∀(c:Code)(QA:Exit->St->Prop)(Q:Exit->Act->World->Prop)(st:St)(γ:Nat->Value)(a:Act)(w:World),
 Rel w0 M T γ st a w->Cc Θ Γ H c QA st->(∀e s γ' a' w',QA e s->Rel w0 M T γ' s a' w'->Q e a' w')->c.wp P Q a w:=by
 intro c
 induction c with
 |skip=>intro QA Q st γ a w h ha hQ;exact wp_skip (hQ _ _ _ _ _ ha h)
 |region id ops d=>
  intro QA Q st γ a w h ha hQ;cases d with
  |false=>
   obtain⟨s0,γ0,h0,hk0⟩:=y7 (K:=runs Θ Γ H.own ops.toList (QA .normal) ops.toList) (H.frz id) st γ h ha;exact acs hE h0 hk0 λs γ' a' w' hK hR=>hQ _ _ _ _ _ hK hR
  |true=>
   obtain⟨s0,γ0,h0,hk0⟩:=y7 (K:=IK Θ Γ H.own H.upd ops.toList (QA .normal)) (H.frz id) st γ h ha;exact ahe hE hm h0 hk0 λs γ' a' w' hK hR=>hQ _ _ _ _ _ hK hR
 |seq x y ihx ihy=>
  intro QA Q st γ a w h ha hQ;rw[Cc]at ha;split at ha
  .refine wp_seq (ihx _ _ st γ a w h ha ?_);intro e s γ' a' w' hq hR;cases e<;>first|exact ihy _ _ s γ' a' w' hR hq hQ|exact hQ _ _ _ _ _ hq hR
  .next sp hsp=>
   split at ha
   .next x0 hx=>
    obtain⟨J,h1,h2⟩:=ha;refine wp_seq (ihx _ _ st γ a w h h1 ?_);intro e s γ' a' w' hq hR;cases e with
    |normal=>
     simp only at hq;split at hq
     .next s1 hs1=>
      split at hq
      .next x1 y1 hsn hx1 hy1=>obtain⟨rfl,hJ⟩:=hq;obtain⟨γ1,hR1⟩:=Rel.settles _ hR hs1;have hR2:=hR1.joint hx1 hy1;rw[aoM hsn]at hR2;exact ihy _ _ _ γ1 a' w' hR2 (h2 _ hJ) hQ
      .exact hq.elim
     .exact hq.elim
    |_=>exact hQ _ _ _ _ _ hq hR
   .exact ha.elim
 |cond c x y ihx ihy=>
  intro QA Q st γ a w h ha hQ;rw[Cc]at ha;split at ha
  .next b hb=>
   have hv:a.eval c=.bool b:=by have:=iC h c;rw[hb]at this;exact this
   refine wp_cond_split hv (λe=>?_) (λe=>?_)
   .subst e;exact ihx _ _ st γ a w h ha hQ
   .subst e;exact ihy _ _ st γ a w h ha hQ
  .exact ha.elim
 |block id c ih=>
  intro QA Q st γ a w h ha hQ;refine wp_block (ih _ _ st γ a w h ha ?_);intro e s γ' a' w' hq hR;cases e with
  |exit i=>
   simp only[Exit.inBlock];cases hb:Nat.beq i id with
   |true=>
    simp only[hb]at hq;rw[if_pos (aoM hb)];exact hQ _ _ _ _ _ hq hR
   |false=>
    simp only[hb]at hq;rw[if_neg (by rintro rfl;simp at hb)];exact hQ _ _ _ _ _ hq hR
  |_=>exact hQ _ _ _ _ _ hq hR
 |loop c ih=>
  intro QA Q st γ a w h ha hQ;rw[Cc]at ha;split at ha
  .split at ha
   .next sp hsp=>
    split at ha
    .next s0 hs0=>
     split at ha
     .next x0 y0 hx hy=>
      obtain⟨I,μ,h0,hI⟩:=ha;obtain⟨γ0,hR0⟩:=Rel.settles _ h hs0
      let J:sp.v.den->Act->World->Prop:=λy a' w'=>∃γ',Rel w0 M T γ' (joint s0.n sp.c sp.v x0 y) a' w'
      have key:∀(n:Nat)(y:sp.v.den),μ y=n->I y->∀a' w',J y a' w'->∀(b:Frame)(k:List Item)(cs:List Frame),
       ∃e a'' w'',Q e a'' w''/\Arrives P (lone (b.at a' (.code c:: .inLoop c::k)) cs w') b k cs e a'' w'':=by
       intro n
       induction n using Nat.strongRecOn with
       |_ n ihn=>
        intro y hμ hy' a' w' ⟨γ',hR⟩ b k cs;have hbody:=ih _ (Exit.then (λa2 w2=>∃y2,I y2/\μ y2<μ y/\J y2 a2 w2) Q) _ γ' a' w' hR (hI y hy') ?_
        .obtain⟨e,a1,w1,hq,harr⟩:=hbody b (.inLoop c::k) cs;cases e with
         |normal=>
          obtain⟨y2,hI2,hlt,hJ2⟩:=hq;obtain⟨e2,a2,w2,hq2,alS⟩:=ihn (μ y2) (hμ▸hlt) y2 rfl hI2 a1 w1 hJ2 b k cs;exact⟨e2,a2,w2,hq2,.of_steps (Steps.trans harr (.one step_inLoop)) alS⟩
         |exit id=>exact⟨_,a1,w1,hq,.pass (x:=.inLoop c) rfl (λ_ _=>.inl (by simp)) harr⟩
         |goto l=>exact⟨_,a1,w1,hq,.pass (x:=.inLoop c) rfl (λ_ _=>.inl (by simp)) harr⟩
         |ret=>exact⟨_,a1,w1,hq,.pass (x:=.inLoop c) rfl (λ_ _=>.inl (by simp)) harr⟩
         |panic ch=>exact⟨_,a1,w1,hq,.pass (x:=.inLoop c) rfl (λ_ _=>.inl (by simp)) harr⟩
         |outgrown=>exact⟨_,a1,w1,hq,.pass (x:=.inLoop c) rfl (λ_ _=>.inl (by simp)) harr⟩
        .intro e s γ2 a2 w2 hq hR2;cases e with
         |normal=>
          simp only at hq;split at hq
          .next s1 hs1=>
           split at hq
           .next x1 y1 hsn hx1 hy1=>obtain⟨rfl,hI1,hlt⟩:=hq;obtain⟨γ3,iD⟩:=Rel.settles _ hR2 hs1;have hJ:=iD.joint hx1 hy1;rw[aoM hsn]at hJ;exact⟨y1,hI1,hlt,_,hJ⟩
           .exact hq.elim
          .exact hq.elim
         |_=>exact hQ _ _ _ _ _ hq hR2
      intro b k cs;obtain⟨e,a',w',hq,harr⟩:=key _ y0 rfl h0 a w ⟨_,hR0.joint hx hy⟩ b k cs;exact⟨e,a',w',hq,.of_steps (.one step_loop) harr⟩
     .exact ha.elim
    .exact ha.elim
   .exact ha.elim
  .exact ha.elim
 |rangeFunc f ps x y ihx ihy=>intro QA Q st γ a w h ha hQ;exact ha.elim
 |exit id=>intro QA Q st γ a w h ha hQ;exact wp_exit (hQ _ _ _ _ _ ha h)
 |scope c ih=>intro QA Q st γ a w h ha hQ;exact ha.elim
 |label l=>intro QA Q st γ a w h ha hQ;exact ha.elim
 |goto l=>intro QA Q st γ a w h ha hQ;exact ha.elim
 |ret=>intro QA Q st γ a w h ha hQ;exact wp_ret (hQ _ _ _ _ _ ha h)
 |refuse s=>intro QA Q st γ a w h ha hQ;exact ha.elim
def Arg.av:Arg->AV
 |.sv v=>.sv v
 |.kp cs=>.dY cs 0
 |.fn f caps=>.fn f caps
 |.own _ _ _|.ptr _=>.undef
def entry(n:Nat)(args:List Arg):St:=
 {n:=n,tmps:=λt=>match args[t]? with|some v=>v.av|none=>.undef,ah:=λ_=>none}
def IL(st:St)(o:Nat):Bool:=match st.ah o with|some (.arr _ _ _ _)=>true|_=>false
def Xq(Θ:iO)(st:St):ResultVar->Option SV
 |.tmp t=>match st.tmps t with|.sv v=>some v|_=>none
 |.cell t ty=>match Θ ty,st.tmps t with
  |some ti,.dU o off=>match st.ah o with
   |some (.var cs)=>jZ ti cs off
   |_=>none
  |_,_=>none
def GI(Θ:iO)(st:St):List ResultVar->Option (List SV)
 |[]=>some []
 |r::rs=>match Xq Θ st r,GI Θ st rs with
  |some v,some vs=>some (v::vs)
  |_,_=>none
def outOf:SV->Bool×List dZ
 |.one c=>(false,[.plain c])
 |.agg cs=>(true,cs.map .plain)
def outs:List SV->List (Bool×List dZ)
 |[]=>[]
 |v::vs=>outOf (v.kill λ_=>true)::outs vs
def fin(Θ:iO)(rv:List ResultVar)(st:St):Option Out:=
 match GI Θ (st.freeze (IL st)) rv with
 |some vs=>some ⟨outs vs,none⟩
 |none=>none
theorem IQ:∀(k:Nat)(cs:List Cell),ji k (cs.map .plain)=(cs,[])
 |_,[]=>rfl
 |k,c::cs=>by simp only[ao3,ji,IQ (k+1) cs,dZ.take,ape]
theorem aeg(k:Nat)(v:SV):rM k (outOf v)=(v,[]):=by
 cases v with
 |one c=>rfl
 |agg cs=>simp only[rM,outOf,IQ]
theorem ake(v:Value)(t:TypeId)(b off:Nat)(hv:v=.pointer (some ⟨b,off,none⟩)):Instr.loadAt t v=(do loadVar t (← asAddr v)):=by subst hv;rfl
def En(tmps:Array Value):ResultVar->Sem Value
 |.tmp t=>pure (tmps.getD t undef)
 |.cell x t=>do loadVar t (← asAddr (tmps.getD x undef))
theorem MK(fn:Func)(tmps:Array Value):results fn tmps=(do let vs ← fn.results.mapM (En tmps);pure (if h:vs.size=1 then vs[0]else .tuple vs)):=by unfold results;congr 1
theorem acv(hΘ:∀t ti,Θ t=some ti->kC P t ti)(h:Rel w0 M T γ st a w){r:ResultVar}{v:SV}(hf:Xq Θ st r=some v):
 ∃u,(En a.tmps r).run P w=.ok u w/\dn (aj w0 T γ st w) v u:=by
 cases r with
 |tmp t=>
  simp only[Xq]at hf;split at hf
  .next e=>cases hf;have:=h.tmps t;rw[e]at this;exact⟨_,rfl,this⟩
  .cases hf
 |cell x t=>
  simp only[Xq]at hf;split at hf
  .next ti o off ht hx=>
   split at hf
   .next cs ho=>have hv:=h.tmps x;rw[hx]at hv;obtain⟨b,cs',_,_,hv'⟩:=hv;obtain⟨u,hu,hr⟩:=IB hΘ h ht (x:=.tmp x) (.inl ⟨o,off,cs,hx,ho,hf⟩);refine⟨u,?_,hr⟩;rw[En,← ake _ t b off hv'];exact hu
   .cases hf
  .cases hf
theorem GK(hΘ:∀t ti,Θ t=some ti->kC P t ti)(h:Rel w0 M T γ st a w):∀(rs:List ResultVar)(vs:List SV),GI Θ st rs=some vs->
 ∃us,(rs.mapM (En a.tmps)).run P w=.ok us w/\
  dA (aj w0 T γ st w) vs us
 |[],vs,hf=>by cases hf;exact⟨[],rfl,trivial⟩
 |r::rs,vs,hf=>by
  rw[GI]at hf;split at hf
  .next v vs' h1 h2=>cases hf;obtain⟨u,hu,hr⟩:=acv hΘ h h1;obtain⟨us,hus,hrs⟩:=GK hΘ h rs vs' h2;refine⟨u::us,?_,hr,hrs⟩;rw[arW,ao9,hu];simp only[apA,ao9,hus,apK]
  .cases hf
theorem dA.length{X:V}:∀(cs:List SV)(vs:List Value),dA X cs vs->vs.length=cs.length
 |[],[],_=>rfl
 |_::cs,_::vs,⟨_,h⟩=>by simp[dA.length cs vs h]
 |[],_::_,H|_::_,[],H=>by cases H
theorem dA.get{X:V}:∀(cs:List SV)(vs:List Value)(i:Nat)(c:SV),dA X cs vs->cs[i]? =some c->∃v,vs[i]? =some v/\dn X c v
 |[],_,_,_,_,h=>by simp at h
 |c::cs,v::vs,0,d,⟨h1,_⟩,h=>by simp at h;subst h;exact⟨v,rfl,h1⟩
 |c::cs,v::vs,i+1,d,⟨_,h2⟩,h=>by
  obtain⟨u,hu,hr⟩:=dA.get cs vs i d h2 (by simpa using h);exact⟨u,by simpa using hu,hr⟩
 |_::_,[],_,_,H,_=>by cases H
theorem mM.length{X:V}:∀(cs:List Arg)(vs:List Value),mM X cs vs->vs.length=cs.length
 |[],[],_=>rfl
 |_::cs,_::vs,⟨_,h⟩=>by simp[mM.length cs vs h]
 |[],_::_,H|_::_,[],H=>by cases H
theorem mM.get{X:V}:∀(cs:List Arg)(vs:List Value)(i:Nat)(c:Arg),mM X cs vs->cs[i]? =some c->∃v,vs[i]? =some v/\mJ X c v
 |[],_,_,_,_,h=>by simp at h
 |c::cs,v::vs,0,d,⟨h1,_⟩,h=>by simp at h;subst h;exact⟨v,rfl,h1⟩
 |c::cs,v::vs,i+1,d,⟨_,h2⟩,h=>by
  obtain⟨u,hu,hr⟩:=mM.get cs vs i d h2 (by simpa using h);exact⟨u,by simpa using hu,hr⟩
 |_::_,[],_,_,H,_=>by cases H
theorem mJ.av{X:V}:∀(c:Arg)(v:Value),mJ X c v->aP X c.av v
 |.sv _,_,h|.kp _,_,h|.fn _ _,_,h=>h
 |.own _ _ _,_,h|.ptr _,_,h=>h.elim
theorem ahg{args:List Arg}{vs:Array Value}{S:Nat->Prop}(n:Nat)(hn:args.length<=n)
 (h:mM ⟨w,w.heap.size,S,λ_=>undef,λ_=>none⟩ args vs.toList):
 Rel w (λ_=>False) ⟨S,λ_=>none,λ_ _ h=>by cases h⟩ (λ_=>undef) (entry n args) {tmps:=vs++Array.replicate (n-vs.size) undef,defers:=[]} w:=by
 have hl:vs.size=args.length:=by simpa using mM.length _ _ h
 refine⟨λ_ h=>h.elim,rfl,?_,rfl,rfl,rfl,aoP _,λ_ _ _=>rfl,λt=>?_,(λo x hx=>by cases hx),(λo x b hx=>by cases hx),(λo x p y b hx=>by cases hx),(λo v cs hN=>by cases hN)⟩
 .simp[entry];omega
 .simp only[entry];cases ha:args[t]? with
  |none=>trivial
  |some v=>
   obtain⟨u,hu,hr⟩:=mM.get _ _ t v h ha;have:(vs++Array.replicate (n-vs.size) undef).getD t undef=u:=by
    have hlt:t<args.length:=by
     rcases apa t args.length with h'|h'
     .exact h'
     .rw[apJ h']at ha;cases ha
    have hlt':t<vs.size:=by omega
    rw[aqy,aqB hlt'];have:vs[t]? =some u:=by simpa using hu
    rw[this];rfl
   rw[this];exact mJ.av v u hr
end Go.Fw
namespace Go.Fw
def codeOf(fn:Func):Code:=match fn.body with|some c=>c|none=>.skip
def Xr:List (Nat×TI)->iO
 |[],_=>none
 |(t,x)::r,i=>match Nat.beq i t with|true=>some x|false=>Xr r i
def Iz:List (Nat×EP)->jU
 |[],_=>none
 |(t,x)::r,i=>match Nat.beq i t with|true=>some x|false=>Iz r i
def afS:List (Nat×Dz)->Nat->Option Dz
 |[],_=>none
 |(t,x)::r,i=>match Nat.beq i t with|true=>some x|false=>afS r i
def ajL:List (Nat×List Pre)->Nat->List Pre
 |[],_=>[]
 |(n,z)::r,i=>match Nat.beq i n with|true=>z|false=>ajL r i
def hints(own:List Nat)(l c:List (Nat×Dz))(u:List Nat)(z:List (Nat×List Pre)):Hints:=⟨aJ own,afS l,afS c,u,ajL z⟩
end Go.Fw
namespace Go.Fw
open Go
variable {P:Program} {Θ:iO} {Γ:jU}
inductive ng where
 |one (c:fQ)
 |agg (l:List fQ)
@[reducible] def ng.den:ng->Type
  |.one c=>c.den
  |.agg l=>kH l
def ng.val:(s:ng)->s.den->SV
 |.one c,x=>.one (c.cell x)
 |.agg l,x=>.agg (gy l x)
def ng.read:(s:ng)->SV->Option s.den
 |.one c,.one x=>c.read x
 |.agg l,.agg xs=>jk l xs
 |_,_=>none
theorem ng.weak{X:V}(s:ng)(x:SV)(d:s.den)(v:Value)(hr:s.read x=some d)(hv:dn X x v):dn X (s.val d) v:=by
 unfold ng.read at hr;split at hr
 .exact fQ.weak _ _ _ _ hr hv
 .obtain⟨vs,e,h⟩:=hv;exact⟨vs,e,zS _ _ _ _ hr h⟩
 .cases hr
@[reducible] def lM:List ng->Type
  |[]=>Unit
  |s::r=>s.den×lM r
def oL:(l:List ng)->lM l->List SV
 |[],_=>[]
 |s::r,x=>s.val x.1::oL r x.2
def KD:(l:List ng)->List SV->Option (lM l)
 |[],[]=>some ()
 |s::r,x::xs=>match s.read x,KD r xs with
  |some a,some b=>some (a,b)
  |_,_=>none
 |_,_=>none
theorem ahh{X:V}:∀(l:List ng)(xs:List SV)(d:lM l)(vs:List Value),KD l xs=some d->dA X xs vs->dA X (oL l d) vs
 |[],[],_,_,_,hv=>hv
 |s::r,x::xs,d,vs,hr,hv=>by
  rw[KD]at hr;split at hr
  .next a b h1 h2=>
   cases hr;cases vs with
   |nil=>cases hv
   |cons v vs=>exact⟨ng.weak s x a v h1 hv.1,ahh r xs b vs h2 hv.2⟩
  .cases hr
 |[],_::_,_,_,hr,_=>by simp[KD]at hr
 |_::_,[],_,_,hr,_=>by simp[KD]at hr
mutual
def CT.oZ:(c:CT)->c.den->Prop
 |.int k,(n:Int)=>k.min<=n/\n<=k.max
 |.bool,_=>True
 |.str,(s:Bytes)=>s.length<=maxLen
 |.sl _ r,(l:List r.den)=>l.length<=maxLen/\∀x∈l,r.oZ x
def au.oZ:(r:au)->r.den->Prop
 |.nil,_=>True
 |.cons c r,x=>c.oZ x.1/\r.oZ x.2
end
mutual
theorem dF.oZ{h:Array Obj}{S:Nat->Prop}:∀(c:CT)(v:Value)(x:c.den),dF h S c v x->c.oZ x
 |.int k,v,(n:Int),H=>by rw[dF]at H;rw[CT.oZ];exact H.2
 |.bool,v,(b:Bool),H=>by rw[CT.oZ];trivial
 |.str,v,(s:Bytes),H=>by rw[dF]at H;rw[CT.oZ];exact H.2
 |.sl e r,v,(l:List r.den),H=>by
  rw[dF]at H;rw[CT.oZ];refine⟨H.1,λx hx=>?_⟩;obtain⟨i,hi,rfl⟩:=aqr.1 hx;rcases H.2 with⟨hnil,_⟩|⟨b,off,cap,cs,t,fz,_,_,_,_,hr⟩
  .subst hnil;simp at hi
  .exact aG.oZ r _ _ (hr i _ (aoQ hi))
theorem aG.oZ{h:Array Obj}{S:Nat->Prop}:∀(r:au)(vs:List Value)(x:r.den),aG h S r vs x->r.oZ x
 |.nil,vs,_,H=>by rw[au.oZ];trivial
 |.cons c r,vs,(x,y),H=>by rw[aG]at H;obtain⟨v,vs',_,h1,h2⟩:=H;rw[au.oZ];exact⟨dF.oZ c v x h1,aG.oZ r vs' y h2⟩
end
def fQ.oZ:(c:fQ)->c.den->Prop
 |.int k,(n:Int)=>k.min<=n/\n<=k.max
 |.str,(s:Bytes)=>s.length<=maxLen
 |.sl _ r _,(l:List r.den)=>l.length<=maxLen/\∀x∈l,r.oZ x
 |_,_=>True
def Td:(l:List fQ)->kH l->Prop
 |[],_=>True
 |c::r,x=>c.oZ x.1/\Td r x.2
def ng.oZ:(s:ng)->s.den->Prop
 |.one c,x=>c.oZ x
 |.agg l,x=>Td l x
theorem fQ.Tf{X:V}(c:fQ)(x:c.den)(v:Value)(h:aN X (c.cell x) v):c.oZ x:=by
 cases c with
 |int k=>exact h.2
 |str=>exact h.2
 |sl e r fr=>
  have h':dF X.w.heap (X.bM fr) (.sl e r) v x:=h;have:=dF.oZ (.sl e r) v x h';rw[CT.oZ]at this;exact this
 |_=>trivial
theorem Eo{X:V}:∀(l:List fQ)(x:kH l)(vs:List Value),ai X (gy l x) vs->Td l x
 |[],_,_,_=>trivial
 |c::r,x,v::vs,h=>⟨fQ.Tf c x.1 v h.1,Eo r x.2 vs h.2⟩
 |_::_,_,[],h=>by cases h
inductive gU where
 |v (s:ng)
 |kp (l:List fQ)
 |fn (f:FuncId) (l:List (List fQ))
@[reducible] def gU.den:gU->Type
  |.v s=>s.den
  |.kp l=>kH l
  |.fn _ l=>xA l
def gU.val:(s:gU)->s.den->Arg
 |.v s,x=>.sv (s.val x)
 |.kp l,x=>.kp (gy l x)
 |.fn f l,x=>.fn f (Ej l x)
def gU.read:(s:gU)->Arg->Option s.den
 |.v s,.sv x=>s.read x
 |.kp l,.kp xs=>jk l xs
 |.fn f l,.fn g xs=>match Nat.beq f g with|true=>AO l xs|false=>none
 |_,_=>none
theorem gU.weak{X:V}(s:gU)(x:Arg)(d:s.den)(v:Value)(hr:s.read x=some d)(hv:mJ X x v):mJ X (s.val d) v:=by
 unfold gU.read at hr;split at hr
 .exact ng.weak _ _ _ _ hr hv
 .obtain⟨b,e,hk⟩:=hv;exact⟨b,e,aal hr hk⟩
 .split at hr
  .next hb=>obtain⟨us,e,hk⟩:=hv;rw[gU.val,aoM hb];exact⟨us,e,Qv _ _ _ _ hr hk⟩
  .cases hr
 .cases hr
@[reducible] def ja:List gU->Type
  |[]=>Unit
  |s::r=>s.den×ja r
def qE:(l:List gU)->ja l->List Arg
 |[],_=>[]
 |s::r,x=>s.val x.1::qE r x.2
def Ce:(l:List gU)->List Arg->Option (ja l)
 |[],[]=>some ()
 |s::r,x::xs=>match s.read x,Ce r xs with
  |some a,some b=>some (a,b)
  |_,_=>none
 |_,_=>none
theorem Ci{X:V}:∀(l:List gU)(xs:List Arg)(d:ja l)(vs:List Value),Ce l xs=some d->mM X xs vs->mM X (qE l d) vs
 |[],[],_,_,_,hv=>hv
 |s::r,x::xs,d,vs,hr,hv=>by
  rw[Ce]at hr;split at hr
  .next a b h1 h2=>
   cases hr;cases vs with
   |nil=>cases hv
   |cons v vs=>exact⟨gU.weak s x a v h1 hv.1,Ci r xs b vs h2 hv.2⟩
  .cases hr
 |[],_::_,_,_,hr,_=>by simp[Ce]at hr
 |_::_,[],_,_,hr,_=>by simp[Ce]at hr
theorem OI:∀(l:List gU)(d:ja l),(qE l d).length=l.length
 |[],_=>rfl
 |_::r,d=>by simp[qE,OI r d.2]
def Y7:(l:List (List fQ))->xA l->Prop
 |[],_=>True
 |c::r,x=>Td c x.1/\Y7 r x.2
def gU.oZ:(s:gU)->s.den->Prop
 |.v s,x=>s.oZ x
 |.kp l,x=>Td l x
 |.fn _ l,x=>Y7 l x
def Fz:(l:List gU)->ja l->Prop
 |[],_=>True
 |s::r,x=>s.oZ x.1/\Fz r x.2
theorem UK{X:V}:∀(l:List (List fQ))(x:xA l)(us:List Value),dS X (Ej l x) us->Y7 l x
 |[],_,_,_=>trivial
 |c::r,x,u::us,h=>by
  obtain⟨⟨b,hu,arr,t,fz,hf,hh,hc⟩,h2⟩:=h;exact⟨Eo c x.1 _ hc,UK r x.2 us h2⟩
 |_::_,_,[],h=>by cases h
theorem yI{X:V}:∀(l:List gU)(x:ja l)(vs:List Value),mM X (qE l x) vs->Fz l x
 |[],_,_,_=>trivial
 |.v (.one c)::r,x,v::vs,h=>⟨fQ.Tf c x.1 v h.1,yI r x.2 vs h.2⟩
 |.v (.agg l)::r,x,v::vs,h=>by
  obtain⟨ws,hv,hc⟩:=h.1;exact⟨Eo l x.1 _ hc,yI r x.2 vs h.2⟩
 |.kp l::r,x,v::vs,h=>by
  obtain⟨b,hu,arr,t,fz,hf,hh,hc⟩:=h.1;exact⟨Eo l x.1 _ hc,yI r x.2 vs h.2⟩
 |.fn f l::r,x,v::vs,h=>by
  obtain⟨us,hv,hk⟩:=h.1;exact⟨UK l x.1 _ hk,yI r x.2 vs h.2⟩
 |_::_,_,[],h=>by cases h
def uI(sh:List gU)(F:ja sh->Prop×Out):BJ:=λargs=>
 match Ce sh args with
 |some x=>some (F x)
 |none=>none
def wM:List SV->List (Bool×List dZ)
 |[]=>[]
 |v::vs=>outOf v::wM vs
theorem KE:∀(k:Nat)(vs:List SV),gV k (wM vs)=(vs,[])
 |_,[]=>rfl
 |k,v::vs=>by simp only[wM,gV,aeg,KE,ape]
def Xt(Θ:iO)(rv:List ResultVar)(cO:List ng)(K:lM cO->Prop)(e:Exit)(st:St):Prop:=
 match e with
 |.normal|.ret=>match GI Θ (st.freeze (IL st)) rv with
  |some vs=>match KD cO (vs.map (SV.kill λ_=>true))with
   |some d=>K d
   |none=>False
  |none=>False
 |_=>False
theorem akf{G:jo}(hE:EnvB P G Θ Γ)(hm:P.follows .mixedOrders=true){f:FuncId}{fn:Func}{c:Code}(hf:P.funcs[f]? =some fn)(hb:fn.body=some c)(H:Hints){con:BJ}{cO:List ng}
 (hwalk:∀args p out,con args=some (p,out)->p->Nat.ble args.length fn.ntmps=true/\∃d:lM cO,out=⟨wM (oL cO d),none⟩/\Cc Θ Γ H c (Xt Θ fn.results.toList cO λy=>y=d) (entry fn.ntmps args)):gu P G f con:=by
 intro args p out k S vs w hcon hp hG hrep;obtain⟨hn,d,hout,hw⟩:=hwalk args p out hcon hp;subst hout;have hn':args.length<=fn.ntmps:=by simpa[aqZ]using hn
 refine calls_of_wp hf hb (Qy ⟨hE,hG,λb hb=>hb.elim⟩ hm H c _ _ _ _ _ _ (ahg (S:=S) fn.ntmps hn' hrep) hw ?_);have hret:∀s γ' a' w',Xt Θ fn.results.toList cO (λy=>y=d) .ret s->Rel w (λ_=>False) ⟨S,λ_=>none,λ_ _ h=>by cases h⟩ γ' s a' w'->bodyPost P fn (λe w'=>∃v vals,e=.returned v/\w'.os=w.os/\w'.tape=w.tape/\w'.output=w.output/\w.heap.size<=w'.heap.size/\
  (∀b,b<w.heap.size->w'.heap[b]? =w.heap[b]?)/\
  aP ⟨w',w.heap.size,S,vals,look (Out.take k ⟨wM (oL cO d),none⟩).2⟩ (Out.take k ⟨wM (oL cO d),none⟩).1 v/\
  (∀o x,look (Out.take k ⟨wM (oL cO d),none⟩).2 o=some x->aV ⟨w',w.heap.size,S,vals,look (Out.take k ⟨wM (oL cO d),none⟩).2⟩ o x/\∀b,blk (vals o)=some b->w.heap.size<=b/\b<w'.heap.size)/\
  (∀o x q y b,look (Out.take k ⟨wM (oL cO d),none⟩).2 o=some x->look (Out.take k ⟨wM (oL cO d),none⟩).2 q=some y->o≠q->blk (vals o)=some b->blk (vals q)≠some b)) .ret a' w':=by
  intro s γ' a' w' he hR;refine⟨hR.defers,?_⟩;simp only[Xt]at he;split at he
  .next svs hvs=>
   split at he
   .next y hy=>
    subst he;have hRf:=hR.freeze (IL s);obtain⟨us,hus,hrs⟩:=GK hE.types hRf _ _ hvs;have hk0:=dA.kill (λ_=>true) hRf svs us hrs;have hk:=ahh cO _ y us hy hk0;have htake:Out.take k ⟨wM (oL cO y),none⟩=(match oL cO y with|[v]=>.sv v|l=>.kU l,[]):=by unfold Out.take;simp only[KE];rcases oL cO y with _|⟨v,_|⟨v2,r⟩⟩<;>rfl
    have hmap:(fn.results.mapM (En a'.tmps)).run P w'=.ok us.toArray w':=by rw[aq7,Sem.run_map,hus];rfl
    refine⟨if h:us.toArray.size=1 then us.toArray[0]else .tuple us.toArray,?_,_,γ',rfl,hR.os,hR.tape,hR.output,hR.grow,λb hb=>hR.kept b hb (λh=>h),?_,?_,?_⟩
    .rw[MK,ao9,hmap];simp only[apA,apK]
    .rw[htake];have hl:=dA.length _ _ hk
     match hm:oL cO y,us,hk,hl with
     |[v],[u],hk,_=>exact hk.1
     |[],[],hk,_=>exact⟨_,by simp,hk⟩
     |v::v2::r,u::u2::us,hk,hl=>exact⟨_,by simp,hk⟩
     |[],_::_,hk,h4|_::_,[],hk,h4|[_],_::_::_,hk,h4|_::_::_,[_],hk,h4=>simp at h4
    .intro o x hx;rw[htake]at hx;cases hx
    .intro o x q y b hx;rw[htake]at hx;cases hx
   .exact he.elim
  .exact he.elim
 intro e s γ' a' w' he hR;cases e with
 |normal=>exact hret s γ' a' w' he hR
 |ret=>exact hret s γ' a' w' he hR
 |_=>exact he.elim
def iV(sh:List gU)(cO:List ng)(F:ja sh->Prop×lM cO):BJ:=uI sh λx=>((F x).1,⟨wM (oL cO (F x).2),none⟩)
theorem Y8{G:jo}(hE:EnvB P G Θ Γ)(hm:P.follows .mixedOrders=true){f:FuncId}{fn:Func}{c:Code}(hf:P.funcs[f]? =some fn)(hb:fn.body=some c)(H:Hints)
 {sh:List gU} {cO:List ng} {F:ja sh->Prop×lM cO} (hn:Nat.ble sh.length fn.ntmps=true)
 (hwalk:∀x,Fz sh x->(F x).1->Cc Θ Γ H c (Xt Θ fn.results.toList cO λy=>y=(F x).2) (entry fn.ntmps (qE sh x))):gu P G f (iV sh cO F):=by
 have base:∀x,Fz sh x->gu P G f (λargs=>@ite _ (args=qE sh x) (Classical.propDecidable _) (some ((F x).1,⟨wM (oL cO (F x).2),none⟩)) none):=by
  intro x hin;refine akf (cO:=cO) hE hm hf hb H ?_;intro args p out hcon hp;split at hcon
  .next e=>
   have hF:((F x).1,(⟨wM (oL cO (F x).2),none⟩:Out))=(p,out):=by simpa using hcon
   have h1:(F x).1=p:=congrArg Prod.fst hF;have h2:(⟨wM (oL cO (F x).2),none⟩:Out)=out:=congrArg Prod.snd hF;have:=hwalk x hin (by rw[h1];exact hp);rw[e];exact⟨by rw[OI];exact hn,(F x).2,h2.symm,this⟩
  .cases hcon
 intro args p out k S vs w hcon hp hG hrep;unfold iV uI at hcon;split at hcon
 .next x hx=>have hv:=Ci sh args x vs.toList hx hrep;exact base x (yI sh x _ hv) (qE sh x) p out k S vs w (by simp only[if_true];exact hcon) hp hG hv
 .cases hcon
inductive RC where
 |c (s:fQ)
 |own (e:TypeId) (r:au) (fr:Bool)
@[reducible] def RC.den:RC->Type
  |.c s=>s.den
  |.own _ r _=>List r.den
@[reducible] def Xu:List RC->Type
  |[]=>Unit
  |c::r=>c.den×Xu r
def RC.afT:(c:RC)->c.den->dZ
 |.c s,x=>.plain (s.cell x)
 |.own e r fr,l=>.own e r l fr
def Y9:(l:List RC)->Xu l->List dZ
 |[],_=>[]
 |c::r,x=>c.afT x.1::Y9 r x.2
inductive rZ where
 |one (c:RC)
 |agg (l:List RC)
@[reducible] def rZ.den:rZ->Type
  |.one c=>c.den
  |.agg l=>Xu l
@[reducible] def x9:List rZ->Type
  |[]=>Unit
  |s::r=>s.den×x9 r
def rZ.out:(s:rZ)->s.den->Bool×List dZ
 |.one c,x=>(false,[c.afT x])
 |.agg l,x=>(true,Y9 l x)
def iK:(l:List rZ)->x9 l->List (Bool×List dZ)
 |[],_=>[]
 |s::r,x=>s.out x.1::iK r x.2
def RC.name:RC->Cell->Option Nat
 |.own _ _ _,.ref o=>some o
 |_,_=>none
def Za:List RC->List Cell->List (Option Nat)
 |c::r,x::xs=>c.name x::Za r xs
 |_,_=>[]
def rZ.names:rZ->SV->List (Option Nat)
 |.one c,.one x=>[c.name x]
 |.agg l,.agg xs=>Za l xs
 |_,_=>[]
def xB:List rZ->List SV->List (Option Nat)
 |s::r,x::xs=>s.names x++xB r xs
 |_,_=>[]
def RC.read(st:St):(c:RC)->Cell->Option c.den
 |.c s,x=>match x.refs with|[]=>s.read x|_=>none
 |.own e r fr,.ref o=>match st.ah o with
  |some (.arr f s l g)=>match Nat.beq e f&&GH fr g with
   |true=>if h:s.beq r=true then some (qm h l)else none
   |false=>none
  |_=>none
 |.own _ r _,.nil=>match Nat.ble 1 r.len with|true=>some []|false=>none
 |_,_=>none
def KF(st:St):(l:List RC)->List Cell->Option (Xu l)
 |[],[]=>some ()
 |c::r,x::xs=>match c.read st x,KF st r xs with
  |some a,some b=>some (a,b)
  |_,_=>none
 |_,_=>none
def rZ.read(st:St):(s:rZ)->SV->Option s.den
 |.one c,.one x=>c.read st x
 |.agg l,.agg xs=>KF st l xs
 |_,_=>none
def yJ(st:St):(l:List rZ)->List SV->Option (x9 l)
 |[],[]=>some ()
 |s::r,x::xs=>match s.read st x,yJ st r xs with
  |some a,some b=>some (a,b)
  |_,_=>none
 |_,_=>none
inductive jh where
 |p (s:gU)
 |own (e:TypeId) (r:au)
 |ptr (l:List fQ)
@[reducible] def jh.den:jh->Type
  |.p s=>s.den
  |.own _ r=>List r.den
  |.ptr l=>kH l
def jh.mode:jh->Mode
 |.p _=>.val
 |.own _ _=>.own
 |.ptr _=>.ptr
def jh.val:(s:jh)->s.den->Arg
 |.p s,x=>s.val x
 |.own e r,l=>.own e r l
 |.ptr l,x=>.ptr (gy l x)
def jh.read:(s:jh)->Arg->Option s.den
 |.p s,x=>s.read x
 |.own e r,.own f s l=>match Nat.beq e f with
  |true=>if h:s.beq r=true then some (qm h l)else none
  |false=>none
 |.ptr l,.ptr cs=>jk l cs
 |_,_=>none
@[reducible] def mZ:List jh->Type
  |[]=>Unit
  |s::r=>s.den×mZ r
def pJ:(l:List jh)->mZ l->List Arg
 |[],_=>[]
 |s::r,x=>s.val x.1::pJ r x.2
def jV:(l:List jh)->List Arg->Option (mZ l)
 |[],[]=>some ()
 |s::r,x::xs=>match s.read x,jV r xs with
  |some a,some b=>some (a,b)
  |_,_=>none
 |_,_=>none
@[reducible] def wC:List jh->Type
  |[]=>Unit
  |.ptr l::r=>kH l×wC r
  |.p _::r|.own _ _::r=>wC r
def jJ:(l:List jh)->wC l->List Eff
 |[],_=>[]
 |.ptr l::r,x=>.var (gy l x.1)::jJ r x.2
 |.p _::r,x|.own _ _::r,x=>.lose::jJ r x
def Ep(st:St):(i:Nat)->(l:List jh)->Option (wC l)
 |_,[]=>some ()
 |i,.ptr l::r=>match st.ah (i*64+48),Ep st (i+1) r with
  |some (.var cs),some b=>match cs.flatMap Cell.refs,jk l cs with
   |[],some a=>some (a,b)
   |_,_=>none
  |_,_=>none
 |i,.p _::r|i,.own _ _::r=>Ep st (i+1) r
def Arg.avX(i:Nat):Arg->AV
 |.own _ _ _=>.sv (.one (.ref (i*64+49)))
 |.ptr _=>.dU (i*64+48) 0
 |a=>a.av
def zU(n:Nat)(args:List Arg):St:=
 {n:=n,tmps:=λt=>match args[t]? with|some v=>v.avX t|none=>.undef,ah:=dW args}
def Xv(st:St)(W:List (Option Nat))(o:Nat):Bool:=IL st o&&!(Qc o W)
def abA(Θ:iO)(rv:List ResultVar)(sh:List jh)(cO:List rZ)(K:x9 cO×wC sh->Prop)(e:Exit)(st:St):Prop:=
 match e with
 |.normal|.ret=>match GI Θ st rv with
  |some svs=>match GI Θ (st.freeze (Xv st (xB cO svs))) rv with
   |some vs=>match ve (xB cO vs),yJ (st.freeze (Xv st (xB cO svs))) cO vs,Ep (st.freeze (Xv st (xB cO svs))) 0 sh with
    |true,some d,some b=>K (d,b)
    |_,_,_=>False
   |none=>False
  |none=>False
 |_=>False
def abP(sh:List jh)(cO:List rZ)(F:mZ sh->Prop×(x9 cO×wC sh->Prop)):P7:=λargs=>
 match jV sh args with
 |some x=>some ((F x).1,⟨x9 cO×wC sh,(F x).2,λt=>⟨iK cO t.1,none⟩,λt=>jJ sh t.2⟩)
 |none=>none
def acy(sh:List jh):List Mode:=sh.map jh.mode
end Go.Fw
namespace Go.Fw
open Go
variable {P:Program} {w0:World} {M:Nat->Prop} {T:Ext} {γ γ':Nat->Value} {st:St} {a:Act} {w w':World} {Θ:iO} {Γ:jU}
def Zb(args:List Arg)(γ:Nat->Value)(o:Nat):Option Value:=match dW args o with|some (.var _)=>some (γ o)|_=>none
theorem aiD{args:List Arg}{o:Nat}{cs:List Cell}(h:dW args o=some (.var cs)):o%64=48:=by
 unfold dW at h;split at h
 .split at h<;>cases h
 .split at h
  .next hm=>exact aoM hm
  .cases h
 .cases h
def Qz(args:List Arg)(γ:Nat->Value)(S:Nat->Prop):Ext where
 S:=λb=>S b\/wJ (dW args) γ b
 N:=Zb args γ
 n48:=by
  intro p v h;unfold Zb at h;split at h
  .next cs hc=>exact aiD hc
  .cases h
theorem uH.get{X:V}:∀(as:List Arg)(vs:List Value)(i:Nat),uH X i as vs->as.length=vs.length/\∀(j:Nat)(b:Arg),as[j]? =some b->∃v,vs[j]? =some v/\Gu X (i+j) b v
 |[],[],_,_=>⟨rfl,λj b h=>by simp at h⟩
 |x::as,v::vs,i,⟨h1,h2⟩=>by
  obtain⟨g1,g2⟩:=uH.get as vs (i+1) h2;refine⟨by simp[g1],λj b hb=>?_⟩;cases j with
  |zero=>simp at hb;subst hb;exact⟨v,rfl,h1⟩
  |succ j=>
   obtain⟨u,hu,hr⟩:=g2 j b (by simpa using hb);exact⟨u,by simpa using hu,by rw[show i+(j+1)=i+1+j by omega];exact hr⟩
 |[],_::_,_,H|_::_,[],_,H=>by cases H
theorem Gu.av{X:V}(i:Nat):∀(c:Arg)(v:Value),Gu X i c v->aP X (c.avX i) v
 |.own _ _ _,_,h=>h
 |.ptr _,_,h=>h
 |.sv _,_,h|.kp _,_,h|.fn _ _,_,h=>h
theorem Xw{args:List Arg}{vs:Array Value}{S:Nat->Prop}(n:Nat)(hn:args.length<=n)
 (h:uH ⟨w,w.heap.size,S,γ,dW args⟩ 0 args vs.toList)
 (ho:∀o x,dW args o=some x->aV ⟨w,w.heap.size,S,γ,dW args⟩ o x/\∀b,blk (γ o)=some b->b<w.heap.size)
 (hs:∀o x q y b,dW args o=some x->dW args q=some y->o≠q->blk (γ o)=some b->blk (γ q)≠some b):
 Rel w (wJ (dW args) γ) (Qz args γ S) γ (zU n args) {tmps:=vs++Array.replicate (n-vs.size) undef,defers:=[]} w:=by
 obtain⟨hl0,hget⟩:=uH.get _ _ 0 h;have hl:vs.size=args.length:=by simpa using hl0.symm
 have le:V.le ⟨w,w.heap.size,S,γ,dW args⟩ ⟨w,w.heap.size,(Qz args γ S).S,γ,dW args⟩:=
  ⟨aoP _,λb hb=>⟨⟨hb.1,λhlt=>.inl (hb.2.1 hlt),hb.2.2⟩,rfl⟩,λo cs hx=>⟨⟨cs,hx⟩,rfl⟩,λo e r l fr hx=>⟨⟨l,fr,hx⟩,rfl⟩⟩
 refine⟨λb hb=>.inr hb,rfl,?_,rfl,rfl,rfl,aoP _,λ_ _ _=>rfl,λt=>?_,λo x hx=>aV.mono le o x (λ_ _=>rfl) rfl (ho o x hx).1,λo x b hx hb=>⟨(ho o x hx).2 b hb,.inr ⟨o,x,hx,hb⟩⟩,λo x p y b hx hy hop hb=>hs o x p y b hx hy hop hb,λo v cs hN hx=>?_⟩
 .simp[zU];omega
 .simp only[zU];cases ha:args[t]? with
  |none=>trivial
  |some v=>
   obtain⟨u,hu,hr⟩:=hget t v ha;have:(vs++Array.replicate (n-vs.size) undef).getD t undef=u:=by
    have hlt:t<args.length:=by
     rcases apa t args.length with h'|h'
     .exact h'
     .rw[apJ h']at ha;cases ha
    have hlt':t<vs.size:=by omega
    rw[aqy,aqB hlt'];have:vs[t]? =some u:=by simpa using hu
    rw[this];rfl
   rw[this];rw[apg]at hr;exact aP.mono le _ _ (Gu.av t v u hr)
 .have hx':dW args o=some (.var cs):=hx;have hN':Zb args γ o=some v:=hN;unfold Zb at hN';rw[hx']at hN';exact Option.some.inj hN'
def AW(a a':Arg):Prop:=
 (∃e r l,a=.own e r l/\a'=.own e r l)\/(∃cs cs',a=.ptr cs/\a'=.ptr cs'/\∀(X:V) vs,ai X cs vs->ai X cs' vs)\/
 ((∀(X:V) v,aP X a.av v->aP X a'.av v)/\(∀i,a.avX i=a.av)/\(∀i,a'.avX i=a'.av)/\(∀e r l,a≠ .own e r l)/\(∀cs,a≠ .ptr cs)/\(∀e r l,a'≠ .own e r l)/\(∀cs,a'≠ .ptr cs))
theorem gU.afU{s:gU}{x:Arg}{d:s.den}(h:s.read x=some d):AW x (s.val d):=by
 refine .inr (.inr ⟨λX v hv=>?_,?_⟩)
 .have hx:mJ X x v:=by
   cases x with
   |sv _|kp _|fn _ _=>exact hv
   |own _ _ _|ptr _=>cases s<;>simp[gU.read]at h
  exact mJ.av _ _ (gU.weak s x d v h hx)
 .cases x<;>cases s<;>first
   |(simp[gU.read]at h;done)
   |exact⟨λ_=>rfl,λ_=>rfl,(λ_ _ _ e=>by cases e),(λ_ e=>by cases e),(λ_ _ _ e=>by cases e),(λ_ e=>by cases e)⟩
theorem jh.afU{s:jh}{x:Arg}{d:s.den}(h:s.read x=some d):AW x (s.val d):=by
 unfold jh.read at h;split at h
 .exact gU.afU h
 .next e r f s l=>
  split at h
  .next hb=>
   split at h
   .next hs=>cases h;have he:=aoM hb;subst he;have hsr:=au.eq_of_beq s r hs;subst hsr;exact .inl ⟨e,s,l,rfl,rfl⟩
   .cases h
  .cases h
 .next l cs=>exact .inr (.inl ⟨cs,_,rfl,rfl,λX vs hc=>zS _ _ _ _ h hc⟩)
 .cases h
theorem FB:∀{l:List jh}{xs:List Arg}{d:mZ l},jV l xs=some d->(pJ l d).length=xs.length/\∀(i:Nat)(a:Arg),xs[i]? =some a->∃a',(pJ l d)[i]? =some a'/\AW a a'
 |[],[],_,_=>⟨rfl,λi a h=>by simp at h⟩
 |s::r,x::xs,d,h=>by
  rw[jV]at h;split at h
  .next a b h1 h2=>
   cases h;obtain⟨g1,g2⟩:=FB h2;refine⟨by simp[pJ,g1],λi c hc=>?_⟩;cases i with
   |zero=>simp at hc;subst hc;exact⟨_,rfl,jh.afU h1⟩
   |succ i=>obtain⟨c',k1,k2⟩:=g2 i c (by simpa using hc);exact⟨c',by simpa[pJ]using k1,k2⟩
  .cases h
 |[],_::_,_,h=>by simp[jV]at h
 |_::_,[],_,h=>by simp[jV]at h
theorem IU{args:List Arg}{o:Nat}(h:∀b,args[o / 64]? =some b->(∀e r l,b≠ .own e r l)/\∀cs,b≠ .ptr cs):dW args o=none:=by
 unfold dW;split
 .next e r l ha=>exact((h _ ha).1 e r l rfl).elim
 .next cs ha=>exact((h _ ha).2 cs rfl).elim
 .rfl
theorem OJ{sh:List jh}{args:List Arg}{x:mZ sh}(h:jV sh args=some x)(n:Nat):Covers (zU n (pJ sh x)) (zU n args):=by
 obtain⟨hl,hget⟩:=FB h;refine⟨rfl,λt X v hv=>?_,λo=>?_⟩
 .simp only[zU]at hv ⊢;cases ha:args[t]? with
  |none=>
   have:(pJ sh x)[t]? =none:=by rw[arO]at ha ⊢;omega
   rw[this];trivial
  |some b=>
   obtain⟨b',hb',hw⟩:=hget t b ha;rw[ha]at hv;rw[hb'];dsimp only at hv ⊢;rcases hw with⟨e,r,l,rfl,rfl⟩|⟨cs,cs',rfl,rfl,_⟩|⟨hw,e1,e2,_⟩
   .exact hv
   .exact hv
   .rw[e1]at hv;rw[e2];exact hw X v hv
 .show(dW (pJ sh x) o=none/\dW args o=none)\/∃y y',dW args o=some y/\dW (pJ sh x) o=some y'/\Dy y y';cases ha:args[o / 64]? with
  |none=>
   have h2:(pJ sh x)[o / 64]? =none:=by rw[arO]at ha ⊢;omega
   exact .inl ⟨IU (by rw[h2];intro b hb;cases hb),IU (by rw[ha];intro b hb;cases hb)⟩
  |some b=>
   obtain⟨b',hb',hw⟩:=hget _ b ha;rcases hw with⟨e,r,l,rfl,rfl⟩|⟨cs,cs',rfl,rfl,hc⟩|⟨_,_,_,n1,n2,n3,n4⟩
   .unfold dW;rw[ha,hb'];dsimp only;cases hm:Nat.beq (o%64) 49 with
    |true=>exact .inr ⟨_,_,rfl,rfl,.inr ⟨e,r,l,false,false,rfl,rfl,id⟩⟩
    |false=>exact .inl ⟨rfl,rfl⟩
   .unfold dW;rw[ha,hb'];dsimp only;cases hm:Nat.beq (o%64) 48 with
    |true=>exact .inr ⟨_,_,rfl,rfl,.inl ⟨cs,cs',rfl,rfl,hc⟩⟩
    |false=>exact .inl ⟨rfl,rfl⟩
   .exact .inl ⟨IU (by rw[hb'];intro c hc;cases hc;exact⟨n3,n4⟩),IU (by rw[ha];intro c hc;cases hc;exact⟨n1,n2⟩)⟩
theorem UL(a b:List (Nat×aA))(p:Nat):look (a++b) p=match look b p with|some y=>some y|none=>look a p:=by
 induction a with
 |nil=>simp only[apD,look];cases look b p<;>rfl
 |cons x a ih=>obtain⟨o,z⟩:=x;rw[apQ,look,ih,look];cases look b p<;>rfl
theorem qo:∀(cs:List dZ)(k p:Nat)(x:aA),look (ji k cs).2 p=some x↔∃i e r l fr,p=k+i/\cs[i]? =some (.own e r l fr)/\x=.arr e r l fr
 |[],k,p,x=>by simp[ji,look]
 |c::cs,k,p,x=>by
  rw[ji,UL];have ih:=qo cs (k+1) p x;constructor
  .intro h;split at h
   .next y hy=>cases h;obtain⟨i,e,r,l,fr,h1,h2,h3⟩:=(qo cs (k+1) p x).1 hy;exact⟨i+1,e,r,l,fr,by omega,by simpa using h2,h3⟩
   .next hn=>
    cases c with
    |plain c=>simp[dZ.take,look]at h
    |own e r l fr=>
     simp only[dZ.take,look]at h;split at h
     .next hb=>cases h;exact⟨0,e,r,l,fr,by have:=aoM hb;omega,rfl,rfl⟩
     .cases h
  .rintro⟨i,e,r,l,fr,h1,h2,rfl⟩;cases i with
   |succ i=>
    have:=(qo cs (k+1) p (.arr e r l fr)).2 ⟨i,e,r,l,fr,by omega,by simpa using h2,rfl⟩;rw[this]
   |zero=>
    simp at h2;subst h2;have hn:look (ji (k+1) cs).2 p=none:=by
     cases hl:look (ji (k+1) cs).2 p with
     |none=>rfl
     |some y=>obtain⟨i,_,_,_,_,g1,_⟩:=(qo cs (k+1) p y).1 hl;omega
    rw[hn];have hp:p=k:=by omega
    subst hp;simp[dZ.take,look]
def FC(rs:List (Bool×List dZ)):List dZ:=rs.flatMap (·.2)
theorem aeh(k:Nat)(x:Bool×List dZ):(rM k x).2=(ji k x.2).2:=by
 unfold rM;split
 .next e1 e2=>rw[e2]
 .next e1 e2=>rw[e2]
 .next e1 e2=>rw[e2]
theorem wX:∀(rs:List (Bool×List dZ))(k p:Nat)(x:aA),look (gV k rs).2 p=some x↔∃i e r l fr,p=k+i/\(FC rs)[i]? =some (.own e r l fr)/\x=.arr e r l fr
 |[],k,p,x=>by simp[gV,look,FC]
 |y::rs,k,p,x=>by
  rw[gV,UL,aeh];have afV:FC (y::rs)=y.2++FC rs:=rfl;constructor
  .intro h;split at h
   .next z hz=>cases h;obtain⟨i,e,r,l,fr,h1,h2,h3⟩:=(wX rs (k+y.2.length) p x).1 hz;refine⟨y.2.length+i,e,r,l,fr,by omega,?_,h3⟩;rw[afV,apk (by omega)];simpa using h2
   .obtain⟨i,e,r,l,fr,h1,h2,h3⟩:=(qo y.2 k p x).1 h;refine⟨i,e,r,l,fr,h1,?_,h3⟩;rw[afV,apt (aoY.1 h2).1];exact h2
  .rintro⟨i,e,r,l,fr,h1,h2,rfl⟩;rw[afV]at h2;rcases apa i y.2.length with hlt|hge
   .rw[apt hlt]at h2;have hn:look (gV (k+y.2.length) rs).2 p=none:=by
     cases hl:look (gV (k+y.2.length) rs).2 p with
     |none=>rfl
     |some z=>obtain⟨j,_,_,_,_,g1,_⟩:=(wX rs (k+y.2.length) p z).1 hl;omega
    rw[hn];exact(qo y.2 k p _).2 ⟨i,e,r,l,fr,h1,h2,rfl⟩
   .rw[apk hge]at h2;have:=(wX rs (k+y.2.length) p (.arr e r l fr)).2 ⟨i-y.2.length,e,r,l,fr,by omega,h2,rfl⟩;rw[this]
end Go.Fw
namespace Go.Fw
open Go
set_option linter.unusedVariables false
variable {P:Program} {w0:World} {M:Nat->Prop} {T:Ext} {γ γ':Nat->Value} {st:St} {a:Act} {w w':World} {Θ:iO} {Γ:jU}
def RF(Y:V)(c:dZ)(v:Value)(n:Option Nat):Prop:=
 match c with
 |.plain x=>aN Y x v/\x.refs=[]
 |.own e r l fr=>0<r.len/\((∃o g,n=some o/\Y.ah o=some (.arr e r l g)/\GH fr g=true/\v=Y.γ o/\v.oneCell'=true)\/(l=[]/\v=.slice none 0 0))
def zV(Y:V):List dZ->List Value->List (Option Nat)->Prop
 |[],[],[]=>True
 |c::cs,v::vs,n::ns=>RF Y c v n/\zV Y cs vs ns
 |_,_,_=>False
theorem zV.append{Y:V}:∀(cs:List dZ)(vs:List Value)(ns:List (Option Nat))(ds:List dZ)(us:List Value)(ms:List (Option Nat)),zV Y cs vs ns->zV Y ds us ms->zV Y (cs++ds) (vs++us) (ns++ms)
 |[],[],[],_,_,_,_,h=>h
 |_::cs,_::vs,_::ns,ds,us,ms,⟨h1,h2⟩,h=>⟨h1,zV.append cs vs ns ds us ms h2 h⟩
theorem zV.length{Y:V}:∀(cs:List dZ)(vs:List Value)(ns:List (Option Nat)),zV Y cs vs ns->cs.length=vs.length
 |[],[],[],_=>rfl
 |_::cs,_::vs,_::ns,⟨_,h2⟩=>by simp[zV.length cs vs ns h2]
theorem zV.get{Y:V}:∀(cs:List dZ)(vs:List Value)(ns:List (Option Nat))(i:Nat)(c:dZ),zV Y cs vs ns->cs[i]? =some c->∃v n,vs[i]? =some v/\ns[i]? =some n/\RF Y c v n
 |[],[],[],i,c,_,h=>by simp at h
 |x::cs,v::vs,n::ns,0,c,⟨h1,_⟩,h=>by simp at h;subst h;exact⟨v,n,rfl,rfl,h1⟩
 |x::cs,v::vs,n::ns,i+1,c,⟨_,h2⟩,h=>by obtain⟨u,m,g1,g2,g3⟩:=zV.get cs vs ns i c h2 (by simpa using h);exact⟨u,m,by simpa using g1,by simpa using g2,g3⟩
theorem fQ.aao(c:fQ)(x:Cell)(d:c.den)(h:c.read x=some d)(hx:x.refs=[]):(c.cell d).refs=[]:=by cases c<;>cases x<;>first|rfl|(simp[fQ.read]at h;done)|(cases hx)
theorem RC.aeU{Y:V}(hst:Y.ah=st.ah)(hpos:∀o e r l g,st.ah o=some (.arr e r l g)->0<r.len):∀(c:RC)(x:Cell)(d:c.den)(v:Value),c.read st x=some d->aN Y x v->RF Y (c.afT d) v (c.name x):=by
 intro c x d v hr hv;cases c with
 |c s=>
  rw[RC.read]at hr;split at hr
  .next hx=>exact⟨fQ.weak s x d v hr hv,fQ.aao s x d hr hx⟩
  .cases hr
 |own e r fr=>
  cases x with
  |ref o=>
   simp only[RC.read]at hr;split at hr
   .next f s l g ho=>
    split at hr
    .next hb=>
     split at hr
     .next hs=>cases hr;rw[aoJ]at hb;have he:=aoM hb.1;subst he;have hsr:=au.eq_of_beq s r hs;subst hsr;exact⟨hpos _ _ _ _ _ ho,.inl ⟨o,g,rfl,by rw[hst];exact ho,hb.2,hv.2.1,hv.2.2⟩⟩
     .cases hr
    .cases hr
   .cases hr
  |nil=>
   simp only[RC.read]at hr;split at hr
   .next hb=>cases hr;exact⟨apd Nat.zero_lt_one (by simpa[aqZ]using hb),.inr ⟨rfl,hv⟩⟩
   .cases hr
  |_=>simp[RC.read]at hr
theorem Xx{Y:V}(hst:Y.ah=st.ah)(hpos:∀o e r l g,st.ah o=some (.arr e r l g)->0<r.len):∀(l:List RC)(xs:List Cell)(d:Xu l)(vs:List Value),KF st l xs=some d->ai Y xs vs->zV Y (Y9 l d) vs (Za l xs)
 |[],[],_,[],_,_=>trivial
 |c::r,x::xs,d,v::vs,h,⟨h1,h2⟩=>by
  rw[KF]at h;split at h
  .next a b g1 g2=>cases h;exact⟨RC.aeU hst hpos c x a v g1 h1,Xx hst hpos r xs b vs g2 h2⟩
  .cases h
 |[],_::_,_,_,h,_=>by simp[KF]at h
 |_::_,[],_,_,h,_=>by simp[KF]at h
theorem rZ.acz{Y:V}(hst:Y.ah=st.ah)(hpos:∀o e r l g,st.ah o=some (.arr e r l g)->0<r.len):∀(s:rZ)(x:SV)(d:s.den)(v:Value),s.read st x=some d->dn Y x v->zV Y (s.out d).2 v.cells.toList (s.names x)
 |.one c,.one x,d,v,h,hv=>by
  rw[BO v (aN.one x v hv)];exact⟨RC.aeU hst hpos c x d v h hv,trivial⟩
 |.agg l,.agg xs,d,v,h,⟨vs,hv,hc⟩=>by
  rw[hv];exact Xx hst hpos l xs d _ h hc
 |.one _,.agg _,_,_,h,_|.agg _,.one _,_,_,h,_=>by simp[rZ.read]at h
theorem Xy{Y:V}(hst:Y.ah=st.ah)(hpos:∀o e r l g,st.ah o=some (.arr e r l g)->0<r.len):∀(l:List rZ)(xs:List SV)(d:x9 l)(vs:List Value),yJ st l xs=some d->dA Y xs vs->
 zV Y (FC (iK l d)) (vs.flatMap λv=>v.cells.toList) (xB l xs)
 |[],[],_,[],_,_=>trivial
 |s::r,x::xs,d,v::vs,h,⟨h1,h2⟩=>by
  rw[yJ]at h;split at h
  .next a b g1 g2=>cases h;exact zV.append _ _ _ _ _ _ (rZ.acz hst hpos s x a v g1 h1) (Xy hst hpos r xs b vs g2 h2)
  .cases h
 |[],_::_,_,_,h,_=>by simp[yJ]at h
 |_::_,[],_,_,h,_=>by simp[yJ]at h
def Go1(Z:V)(k:Nat)(c:dZ)(v:Value):Prop:=aN Z (c.take k).1 v
def Dl(Z:V):Nat->List dZ->List Value->Prop
 |_,[],[]=>True
 |k,c::cs,v::vs=>Go1 Z k c v/\Dl Z (k+1) cs vs
 |_,_,_=>False
theorem Dl.of{Z:V}:∀(cs:List dZ)(vs:List Value)(k:Nat),cs.length=vs.length->(∀i c v,cs[i]? =some c->vs[i]? =some v->Go1 Z (k+i) c v)->Dl Z k cs vs
 |[],[],_,_,_=>trivial
 |c::cs,v::vs,k,hl,h=>⟨h 0 c v rfl rfl,Dl.of cs vs (k+1) (by simpa using hl) λi c' v' h1 h2=>by
   have:=h (i+1) c' v' (by simpa using h1) (by simpa using h2)
   rwa [show k+(i+1)=k+1+i by omega]at this⟩
theorem Dl.split{Z:V}:∀(cs:List dZ)(vs:List Value)(ds:List dZ)(us:List Value)(k:Nat),cs.length=vs.length->Dl Z k (cs++ds) (vs++us)->Dl Z k cs vs/\Dl Z (k+cs.length) ds us
 |[],[],_,_,_,_,h=>⟨trivial,h⟩
 |c::cs,v::vs,ds,us,k,hl,⟨h1,h2⟩=>by obtain⟨g1,g2⟩:=Dl.split cs vs ds us (k+1) (by simpa using hl) h2;exact⟨⟨h1,g1⟩,by rw[show k+(c::cs).length=k+1+cs.length by simp;omega];exact g2⟩
theorem Dl.cells{Z:V}:∀(cs:List dZ)(vs:List Value)(k:Nat),Dl Z k cs vs->ai Z (ji k cs).1 vs
 |[],[],_,_=>trivial
 |c::cs,v::vs,k,⟨h1,h2⟩=>⟨h1,Dl.cells cs vs (k+1) h2⟩
theorem rZ.go{Y Z:V}:∀(s:rZ)(x:SV)(d:s.den)(v:Value)(k:Nat),s.read st x=some d->dn Y x v->Dl Z k (s.out d).2 v.cells.toList->dn Z (rM k (s.out d)).1 v
 |.one c,.one x,d,v,k,h,hv,hg=>by
  rw[BO v (aN.one x v hv)]at hg;exact hg.1
 |.agg l,.agg xs,d,v,k,h,⟨vs,hv,hc⟩,hg=>by
  rw[hv]at hg ⊢;exact⟨vs,rfl,Dl.cells _ _ _ hg⟩
 |.one _,.agg _,_,_,_,h,_,_|.agg _,.one _,_,_,_,h,_,_=>by simp[rZ.read]at h
theorem aap{Y Z:V}(hst:Y.ah=st.ah)(hpos:∀o e r l g,st.ah o=some (.arr e r l g)->0<r.len):∀(l:List rZ)(xs:List SV)(d:x9 l)(vs:List Value)(k:Nat),yJ st l xs=some d->dA Y xs vs->
 Dl Z k (FC (iK l d)) (vs.flatMap λv=>v.cells.toList)->dA Z (gV k (iK l d)).1 vs
 |[],[],_,[],_,_,_,_=>trivial
 |s::r,x::xs,d,v::vs,k,h,⟨h1,h2⟩,hg=>by
  rw[yJ]at h;split at h
  .next a b g1 g2=>cases h;have hl:=zV.length _ _ _ (rZ.acz hst hpos s x a v g1 h1);obtain⟨k1,k2⟩:=Dl.split _ _ _ _ k hl hg;exact⟨rZ.go s x a v k g1 h1 k1,aap hst hpos r xs b vs _ g2 h2 k2⟩
  .cases h
 |[],_::_,_,_,_,h,_,_=>by simp[yJ]at h
 |_::_,[],_,_,_,h,_,_=>by simp[yJ]at h
theorem UM:∀(l:List fQ)(xs:List Cell)(d:kH l),jk l xs=some d->xs.flatMap Cell.refs=[]->(gy l d).flatMap Cell.refs=[]
 |[],[],_,_,_=>rfl
 |c::r,x::xs,d,h,hx=>by
  rw[jk]at h;split at h
  .next a b g1 g2=>cases h;rw[apR,apz]at hx;show(c.cell a::gy r b).flatMap Cell.refs=[];rw[apR,fQ.aao c x a g1 hx.1,UM r xs b g2 hx.2,ape]
  .cases h
 |[],_::_,_,h,_=>by simp[jk]at h
 |_::_,[],_,h,_=>by simp[jk]at h
theorem FD:∀(sh:List jh)(i:Nat)(b:wC sh),Ep st i sh=some b->∀(j:Nat)(e:Eff),(jJ sh b)[j]? =some e->
 e=.lose\/∃l cs cs0,sh[j]? =some (.ptr l)/\e=.var cs/\st.ah ((i+j)*64+48)=some (.var cs0)/\cs0.flatMap Cell.refs=[]/\cs.flatMap Cell.refs=[]/\∀(X:V) vs,ai X cs0 vs->ai X cs vs
 |[],_,_,_,j,e,he=>by simp[jJ]at he
 |.ptr l::r,i,b,h,j,e,he=>by
  rw[Ep]at h;split at h
  .next cs b' hx hb=>
   split at h
   .next a hr ha=>
    cases h;cases j with
    |zero=>
     simp[jJ]at he;subst he;exact .inr ⟨l,_,cs,rfl,rfl,by simpa using hx,hr,UM _ _ _ ha hr,λX vs hc=>zS _ _ _ _ ha hc⟩
    |succ j=>
     rcases FD r (i+1) b' hb j e (by simpa[jJ]using he)with h|⟨l,cs',cs0,h1,h2,h3,h4⟩
     .exact .inl h
     .exact .inr ⟨l,cs',cs0,by simpa using h1,h2,by rw[show i+(j+1)=i+1+j by omega];exact h3,h4⟩
   .cases h
  .cases h
 |.p _::r,i,b,h,j,e,he|.own _ _::r,i,b,h,j,e,he=>by
  rw[Ep]at h;cases j with
  |zero=>simp[jJ]at he;exact .inl he.symm
  |succ j=>
   rcases FD r (i+1) b h j e (by simpa[jJ]using he)with h|⟨l,cs',cs0,h1,h2,h3,h4⟩
   .exact .inl h
   .exact .inr ⟨l,cs',cs0,by simpa using h1,h2,by rw[show i+(j+1)=i+1+j by omega];exact h3,h4⟩
theorem Xz:∀{sh:List jh}{xs:List Arg}{d:mZ sh},jV sh xs=some d->∀(j:Nat)(l:List fQ),sh[j]? =some (.ptr l)->∃cs,xs[j]? =some (.ptr cs)
 |[],[],_,_,j,l,h=>by simp at h
 |s::r,x::xs,d,h,j,l,hj=>by
  rw[jV]at h;split at h
  .next a b h1 h2=>
   cases j with
   |zero=>
    simp at hj;subst hj;cases x with
    |ptr cs=>exact⟨cs,rfl⟩
    |_=>simp[jh.read]at h1
   |succ j=>obtain⟨cs,hc⟩:=Xz h2 j l (by simpa using hj);exact⟨cs,by simpa using hc⟩
  .cases h
 |[],_::_,_,h,_,_,_=>by simp[jV]at h
 |_::_,[],_,h,_,_,_=>by simp[jV]at h
theorem ahi{sh:List jh}{b:wC sh}(hb:Ep st 0 sh=some b){q:Nat}{y:aA}(h:lX (jJ sh b) q=some y):
 q%64=48/\∃l cs cs0,sh[q / 64]? =some (.ptr l)/\y=.var cs/\st.ah q=some (.var cs0)/\cs0.flatMap Cell.refs=[]/\cs.flatMap Cell.refs=[]/\∀(X:V) vs,ai X cs0 vs->ai X cs vs:=by
 unfold lX at h;split at h
 .next e r l he=>rcases FD sh 0 b hb _ _ he with h'|⟨_,_,_,_,h',_⟩<;>cases h'
 .next cs he=>
  split at h
  .next hm=>
   have hm':=aoM hm;cases h;rcases FD sh 0 b hb _ _ he with h'|⟨l,cs',cs0,h1,h2,h3,h4⟩
   .cases h'
   .cases h2;refine⟨hm',l,_,cs0,h1,rfl,?_,h4⟩;rw[show q=(0+q / 64)*64+48 by omega];exact h3
  .cases h
 .cases h
def jh.oZ:(s:jh)->s.den->Prop
 |.p s,x=>s.oZ x
 |.own _ r,(l:List r.den)=>∀x∈l,r.oZ x
 |.ptr l,x=>Td l x
def IV:(l:List jh)->mZ l->Prop
 |[],_=>True
 |s::r,x=>s.oZ x.1/\IV r x.2
theorem gU.Tf{X:V}(s:gU)(x:Arg)(d:s.den)(v:Value)(h:s.read x=some d)(hr:mJ X x v):s.oZ d:=
 (yI (X:=X) [s] (d,()) [v] ⟨gU.weak s x d v h hr,trivial⟩).1
theorem QB{X:V}{args:List Arg}(ho:∀o x,dW args o=some x->aV X o x):∀(sh:List jh)(xs:List Arg)(d:mZ sh)(vs:List Value)(i:Nat),(∀j a,xs[j]? =some a->args[i+j]? =some a)->
 jV sh xs=some d->uH X i xs vs->IV sh d
 |[],[],_,_,_,_,_,_=>trivial
 |s::r,x::xs,d,v::vs,i,hj,h,⟨hv,hvs⟩=>by
  rw[jV]at h;split at h
  .next a b h1 h2=>
   cases h;refine⟨?_,QB ho r xs b vs (i+1) (λj c hc=>by have:=hj (j+1) c (by simpa using hc);rwa [show i+(j+1)=i+1+j by omega]at this) h2 hvs⟩;have hx:args[i]? =some x:=hj 0 x rfl;cases s with
   |p s=>
    have h1':s.read x=some a:=by simpa[jh.read]using h1
    refine gU.Tf (X:=X) s x a v h1' ?_;cases x with
    |own _ _ _|ptr _=>cases s<;>simp[gU.read]at h1'
    |_=>exact hv
   |own e r'=>
    cases x with
    |own f s' l=>
     have h1':(match Nat.beq e f with|true=>if h:s'.beq r'=true then some (qm h l)else none|false=>none)=some a:=h1;split at h1'
     .split at h1'
      .next hb hs=>
       cases h1';have hsr:=au.eq_of_beq s' r' hs;subst hsr;have nX:dW args (i*64+49)=some (.arr f s' l false):=by unfold dW;rw[show(i*64+49) / 64=i by omega,hx];dsimp only;rw[show(i*64+49)%64=49 by omega]
       obtain⟨us,_,_,_,hrow⟩:=ho _ _ nX;intro y hy;have hy':y∈l:=hy;obtain⟨j,hj1,hj2⟩:=aqr.1 hy';exact aG.oZ s' _ _ (hrow j y (by rw[aoQ hj1,hj2]))
      .cases h1'
     .cases h1'
    |_=>simp[jh.read]at h1
   |ptr l=>
    cases x with
    |ptr cs=>
     have h1':jk l cs=some a:=h1;have nX:dW args (i*64+48)=some (.var cs):=by unfold dW;rw[show(i*64+48) / 64=i by omega,hx];dsimp only;rw[show(i*64+48)%64=48 by omega]
     obtain⟨_,arr,_,_,_,hc⟩:=ho _ _ nX;exact Eo l a _ (zS _ _ _ _ h1' hc)
    |_=>simp[jh.read]at h1
  .cases h
 |[],_::_,_,_,_,_,h,_=>by simp[jV]at h
 |_::_,[],_,_,_,_,h,_=>by simp[jV]at h
theorem ES:∀(l:List jh)(d:mZ l),(pJ l d).length=l.length
 |[],_=>rfl
 |_::r,d=>by simp[pJ,ES r d.2]
theorem Out.aiE(rs:List (Bool×List dZ))(k:Nat):((⟨rs,none⟩:Out).take k).2=(gV k rs).2:=by
 unfold Out.take;dsimp only;split
 .next h=>rw[h]
 .next h=>rw[h]
theorem Out.aiF(rs:List (Bool×List dZ))(k:Nat):((⟨rs,none⟩:Out).take k).1=(match (gV k rs).1 with|[v]=>AV.sv v|vs=>.kU vs):=by
 unfold Out.take;dsimp only;split
 .next h=>rw[h]
 .next vs δ hne h=>
  rw[h];dsimp only;rcases vs with _|⟨v,_|⟨v2,r⟩⟩
  .rfl
  .exact(hne v rfl).elim
  .rfl
theorem am8{args:List Arg}{S:Nat->Prop}{sh:List jh}{cO:List rZ}{x:mZ sh}(hx:jV sh args=some x){d:x9 cO}{b:wC sh}{k:Nat}{vs:List SV}{us:List Value}
 (hR:Rel w (wJ (dW args) γ) (Qz args γ S) γ' st a w') (hrs:dA (aj w (Qz args γ S) γ' st w') vs us) (hnd:ve (xB cO vs)=true) (hrd:yJ st cO vs=some d) (hbk:Ep st 0 sh=some b)
 (hap:∀o x,look ((⟨iK cO d,none⟩:Out).take k).2 o=some x->lX (jJ sh b) o=none):
 ∃γ2,aP ⟨w',w.heap.size,pI S args (jJ sh b) γ,γ2,look ((⟨iK cO d,none⟩:Out).take k).2⟩ ((⟨iK cO d,none⟩:Out).take k).1 (if h:us.toArray.size=1 then us.toArray[0]else .tuple us.toArray)/\
  (∀o x,look ((⟨iK cO d,none⟩:Out).take k).2 o=some x->aV ⟨w',w.heap.size,pI S args (jJ sh b) γ,γ2,look ((⟨iK cO d,none⟩:Out).take k).2⟩ o x/\
    ∀b',blk (γ2 o)=some b'->b'<w'.heap.size/\(w.heap.size<=b'\/wJ (dW args) γ b')/\∀q y,lX (jJ sh b) q=some y->blk (γ q)≠some b')/\
  (∀o x q y b',look ((⟨iK cO d,none⟩:Out).take k).2 o=some x->look ((⟨iK cO d,none⟩:Out).take k).2 q=some y->o≠q->blk (γ2 o)=some b'->blk (γ2 q)≠some b')/\
  (∀o x,lX (jJ sh b) o=some x->γ2 o=γ o/\aV ⟨w',w.heap.size,pI S args (jJ sh b) γ,γ2,look ((⟨iK cO d,none⟩:Out).take k).2⟩ o x):=by
 rw[Out.aiE]at hap ⊢;rw[Out.aiF]
 skip
 let Y:V:=aj w (Qz args γ S) γ' st w'
 let fv:List Value:=us.flatMap λv=>v.cells.toList
 let aC:=jJ sh b
 let γ2:Nat->Value:=λp=>match lX aC p with|some _=>γ p|none=>fv.getD (p-k) undef
 let Z:V:=⟨w',w.heap.size,pI S args aC γ,γ2,look (gV k (iK cO d)).2⟩
 have hpos:∀o e r l g,st.ah o=some (.arr e r l g)->0<r.len:=λo e r l g ho=>by obtain⟨_,_,h,_⟩:=hR.ah o _ ho;exact h
 have hF:zV Y (FC (iK cO d)) fv (xB cO vs):=Xy (st:=st) rfl hpos cO vs d us hrd hrs;have hbq:∀q y,lX aC q=some y->γ' q=γ q/\∃cs cs0,y=.var cs/\st.ah q=some (.var cs0)/\cs0.flatMap Cell.refs=[]/\cs.flatMap Cell.refs=[]/\∀(X:V) vs,ai X cs0 vs->ai X cs vs:=by
  intro q y hq;obtain⟨hm,l,cs,cs0,h1,h2,h3,h4,h5,h6⟩:=ahi hbk hq;refine⟨?_,cs,cs0,h2,h3,h4,h5,h6⟩;obtain⟨ci,hci⟩:=Xz hx _ l h1;have ho:dW args q=some (.var ci):=by unfold dW;rw[hci];dsimp only;rw[hm]
  have hN:(Qz args γ S).N q=some (γ q):=by show Zb args γ q=_;unfold Zb;rw[ho]
  exact hR.pin q _ _ hN h3
 have hG:∀p X,look (gV k (iK cO d)).2 p=some X->∃i e r l fr,p=k+i/\(FC (iK cO d))[i]? =some (.own e r l fr)/\X=.arr e r l fr/\0<r.len/\
  ((∃o g,(xB cO vs)[i]? =some (some o)/\st.ah o=some (.arr e r l g)/\GH fr g=true/\γ2 p=γ' o/\(γ2 p).oneCell'=true)\/(l=[]/\γ2 p=.slice none 0 0)):=by
  intro p X hp;obtain⟨i,e,r,l,fr,h1,h2,h3⟩:=(wX _ k p X).1 hp;obtain⟨v,n,g1,g2,hr,hv⟩:=zV.get _ _ _ i _ hF h2;have hγ:γ2 p=v:=by show(match lX aC p with|some _=>γ p|none=>fv.getD (p-k) undef)=v;rw[hap p X hp];dsimp only;rw[h1,show k+i-k=i by omega,aoN,g1];rfl
  refine⟨i,e,r,l,fr,h1,h2,h3,hr,?_⟩;rcases hv with⟨o,g,hn,ho,hb,hv,h1c⟩|⟨hl,hv⟩
  .exact .inl ⟨o,g,by rw[g2,hn],ho,hb,hγ.trans hv,by rw[hγ];exact h1c⟩
  .exact .inr ⟨hl,hγ.trans hv⟩
 have MC:∀b',Y.foot b'->Z.foot b':=by
  intro b' hb';refine⟨hb'.1,λhlt=>⟨hb'.2.1 hlt,λq y hq=>?_⟩,λp X hp=>?_⟩
  .obtain⟨hγ,cs,cs0,_,h3,_⟩:=hbq q y hq;rw[← hγ];exact hb'.2.2 q _ h3
  .obtain⟨i,e,r,l,fr,_,_,_,_,hc⟩:=hG p X hp;show blk (γ2 p)≠some b';rcases hc with⟨o,g,_,ho,_,hγ,_⟩|⟨_,hγ⟩
   .rw[hγ];exact hb'.2.2 o _ ho
   .rw[hγ];intro h;cases h
 have ahj:∀fr b',Y.bM fr b'->Z.bM fr b':=λfr b' h=>⟨MC b' h.1,h.2⟩;have hgo:Dl Z k (FC (iK cO d)) fv:=by
  refine Dl.of _ _ _ (zV.length _ _ _ hF) λi c v hc hv=>?_;obtain⟨v',n,g1,g2,g3⟩:=zV.get _ _ _ i c hF hc;rw[hv]at g1;cases g1;cases c with
  |plain x=>
   exact(AL (Y:=Y) (Z:=Z) rfl ahj [x] [v] (by simpa using g3.2) ⟨g3.1,trivial⟩).1
  |own e r l fr=>
   have hp:look (gV k (iK cO d)).2 (k+i)=some (.arr e r l fr):=(wX _ k _ _).2 ⟨i,e,r,l,fr,rfl,hc,rfl⟩;have hγ:γ2 (k+i)=v:=by show(match lX aC (k+i)with|some _=>γ (k+i)|none=>fv.getD (k+i-k) undef)=v;rw[hap _ _ hp];dsimp only;rw[show k+i-k=i by omega,aoN,hv];rfl
   refine⟨⟨e,r,l,fr,hp⟩,hγ.symm,?_⟩;rcases g3.2 with⟨_,_,_,_,_,_,h⟩|⟨_,h⟩
   .exact h
   .rw[h];rfl
 have hsv:dA Z (gV k (iK cO d)).1 us:=aap (st:=st) (Y:=Y) rfl hpos cO vs d us k hrd hrs hgo;refine⟨γ2,?_,λp X hp=>?_,λp X q X' b' hp hq hne hb1 hb2=>?_,λq y hq=>?_⟩
 .have hl:=dA.length _ _ hsv
  match hm:(gV k (iK cO d)).1,us,hsv,hl with
  |[v],[u],hk,_=>exact hk.1
  |[],[],hk,_=>exact⟨_,by simp,hk⟩
  |v::v2::r,u::u2::us,hk,hl=>exact⟨_,by simp,hk⟩
  |[],_::_,hk,h4|_::_,[],hk,h4|[_],_::_::_,hk,h4|_::_::_,[_],hk,h4=>simp at h4
 .obtain⟨i,e,r,l,fr,_,_,rfl,hr,hc⟩:=hG p X hp;rcases hc with⟨o,g,_,ho,hb,hγ,_⟩|⟨rfl,hγ⟩
  .have hO:aV Y o (.arr e r l g):=hR.ah o _ ho;have hold:∀b',blk (γ' o)=some b'->fr=true->w.heap.size<=b':=by intro b' hb' hfr;subst hfr;have hg:g=true:=hb;subst hg;obtain⟨_,_,_,hn,_⟩:=hO;exact hn b' hb' rfl
   refine⟨aV.SY (Y:=Y) (Z:=Z) hO hγ rfl (λb' hb'=>⟨MC b' hb'.1,λhfr=>hb'.2 ?_⟩) hold,λb' hb'=>?_⟩
   .subst hfr;exact hb
   .rw[hγ]at hb';obtain⟨h1,h2⟩:=hR.lt o _ b' ho hb';refine⟨h1,h2,λq y hq=>?_⟩;obtain⟨hγq,cs,cs0,_,h3,_⟩:=hbq q y hq;rw[← hγq];refine hR.sep o _ q _ b' ho h3 ?_ hb';intro e;subst e;rw[ho]at h3;cases h3
  .refine⟨⟨[],⟨by simp,.inl ⟨hγ,rfl⟩⟩,hr,(λb' hb'=>by have h0:blk (γ2 p)=some b':=hb';rw[hγ]at h0;cases h0),λi x hi=>by simp at hi⟩,λb' hb'=>by rw[hγ]at hb';cases hb'⟩
 .obtain⟨i,e,r,l,fr,hi,_,_,_,hc⟩:=hG p X hp;obtain⟨j,e',r',l',fr',hj,_,_,_,hc'⟩:=hG q X' hq;rcases hc with⟨o,g,hn,ho,_,hγ,_⟩|⟨_,hγ⟩
  .rcases hc' with⟨o',g',hn',ho',_,Kw,_⟩|⟨_,Kw⟩
   .rw[hγ]at hb1;rw[Kw]at hb2;have:o≠o':=by intro e;subst e;have:=Jy hnd _ _ _ hn hn';omega
    exact hR.sep o _ o' _ b' ho ho' this hb1 hb2
   .rw[Kw]at hb2;cases hb2
  .rw[hγ]at hb1;cases hb1
 .obtain⟨hγ,cs,cs0,rfl,h3,h4,h5,h6⟩:=hbq q y hq;have kX:γ2 q=γ q:=by show(match lX aC q with|some _=>γ q|none=>fv.getD (q-k) undef)=γ q;rw[hq]
  refine⟨kX,?_⟩;obtain⟨b',arr,t,k1,k2,k3⟩:=hR.ah q _ h3;refine⟨b',arr,t,?_,k2,AL (Y:=Y) (Z:=Z) rfl ahj _ _ h5 (h6 _ _ k3)⟩;show γ2 q=_;rw[kX,← hγ];exact k1
theorem akg{G:jo}(hE:EnvB P G Θ Γ)(hm:P.follows .mixedOrders=true){f:FuncId}{fn:Func}{c:Code}(hf:P.funcs[f]? =some fn)(hb:fn.body=some c)(H:Hints)
 {sh:List jh} {cO:List rZ} {F:mZ sh->Prop×(x9 cO×wC sh->Prop)} (hn:Nat.ble sh.length fn.ntmps=true) (hne:∀x,(F x).1->∃t,(F x).2 t)
 (hwalk:∀x,IV sh x->(F x).1->Cc Θ Γ H c (abA Θ fn.results.toList sh cO (F x).2) (zU fn.ntmps (pJ sh x))):zQ P G f (abP sh cO F):=by
 intro args p ρ hcon hp;unfold abP at hcon;split at hcon
 case h_2=>cases hcon
 next x hx=>
 cases hcon;refine⟨hne x hp,λk S γ vs w hG hrep nX hsep hap=>?_⟩;have hlen:=(FB hx).1;rw[ES]at hlen;have hn':args.length<=fn.ntmps:=by rw[← hlen];simpa[aqZ]using hn
 have hin:IV sh x:=QB (λo X ho=>(nX o X ho).1) sh args x vs.toList 0 (λj a h=>by rwa [apg]) hx hrep;have hR0:=Xw (S:=S) fn.ntmps hn' hrep (λo X ho=>⟨(nX o X ho).1,λb hb=>((nX o X ho).2 b hb).1⟩) hsep;have hR1:=hR0.covers (OJ hx fn.ntmps);refine calls_of_wp hf hb (Qy ⟨hE,hG,λb hb=>?_⟩ hm H c _ _ _ _ _ _ hR1 (hwalk x hin hp) ?_)
 .obtain⟨o,X,ho,hb⟩:=hb;exact((nX o X ho).2 b hb).2
 intro e s γ' a' w' he hR;have hret:∃(us:List Value)(t:x9 cO×wC sh),(fn.results.mapM (En a'.tmps)).run P w'=.ok us.toArray w'/\(F x).2 t/\∃γ2,
  aP ⟨w',w.heap.size,pI S args (jJ sh t.2) γ,γ2,look ((⟨iK cO t.1,none⟩:Out).take k).2⟩ ((⟨iK cO t.1,none⟩:Out).take k).1 (if h:us.toArray.size=1 then us.toArray[0]else .tuple us.toArray)/\
  (∀o x',look ((⟨iK cO t.1,none⟩:Out).take k).2 o=some x'->aV ⟨w',w.heap.size,pI S args (jJ sh t.2) γ,γ2,look ((⟨iK cO t.1,none⟩:Out).take k).2⟩ o x'/\
    ∀b,blk (γ2 o)=some b->b<w'.heap.size/\(w.heap.size<=b\/wJ (dW args) γ b)/\∀q y,lX (jJ sh t.2) q=some y->blk (γ q)≠some b)/\
  (∀o x' q y b,look ((⟨iK cO t.1,none⟩:Out).take k).2 o=some x'->look ((⟨iK cO t.1,none⟩:Out).take k).2 q=some y->o≠q->blk (γ2 o)=some b->blk (γ2 q)≠some b)/\
  (∀o x',lX (jJ sh t.2) o=some x'->γ2 o=γ o/\aV ⟨w',w.heap.size,pI S args (jJ sh t.2) γ,γ2,look ((⟨iK cO t.1,none⟩:Out).take k).2⟩ o x'):=by
  have he':(e=.normal\/e=.ret)/\abA Θ fn.results.toList sh cO (F x).2 .ret s:=by
   cases e with
   |normal=>exact⟨.inl rfl,he⟩
   |ret=>exact⟨.inr rfl,he⟩
   |_=>exact he.elim
  have he2:=he'.2;simp only[abA]at he2;split at he2
  .next svs aov=>
   split at he2
   .next vs' hvs'=>
    split at he2
    .next d b hnd hd hb'=>have hRf:=hR.freeze (Xv s (xB cO svs));obtain⟨us,hus,hrs⟩:=GK hE.types hRf _ _ hvs';refine⟨us,(d,b),?_,he2,am8 hx hRf hrs hnd hd hb' (hap (d,b) he2)⟩;rw[aq7,Sem.run_map,hus];rfl
    .exact he2.elim
   .exact he2.elim
  .exact he2.elim
 obtain⟨us,t,hus,ht,γ2,h1,h2,h3,h4⟩:=hret;have hfin:bodyPost P fn (λe w'=>∃t,(F x).2 t/\IC S args γ w k ⟨iK cO t.1,none⟩ (jJ sh t.2) e w') .ret a' w':=by refine⟨hR.defers,if h:us.toArray.size=1 then us.toArray[0]else .tuple us.toArray,?_,t,ht,_,γ2,rfl,hR.os,hR.tape,hR.output,hR.grow,hR.kept,h1,h2,h3,h4⟩;rw[MK,ao9,hus];simp only[apA,apK]
 cases e with
 |normal=>exact hfin
 |ret=>exact hfin
 |_=>exact he.elim
def abB(rv:List ResultVar)(l:List fQ)(K:kH l->Prop)(e:Exit)(st:St):Prop:=
 match e with
 |.normal|.ret=>match rv with
  |[.tmp t]=>match st.tmps t with
   |.dU o off=>match Nat.beq off 0,(st.freeze (IL st)).ah o with
    |true,some (.var cs)=>match cs.flatMap Cell.refs,jk l cs with
     |[],some d=>K d
     |_,_=>False
    |_,_=>False
   |_=>False
  |_=>False
 |_=>False
def loses(sh:List jh):List Eff:=sh.map λ_=>.lose
def aiG(sh:List jh)(l:List fQ)(F:mZ sh->Prop×(kH l->Prop)):P7:=λargs=>
 match jV sh args with
 |some x=>some ((F x).1,⟨kH l,(F x).2,λt=>⟨[],some (gy l t)⟩,λ_=>loses sh⟩)
 |none=>none
theorem ML(sh:List jh)(q:Nat):lX (loses sh) q=none:=by unfold lX loses;rw[apB];cases sh[q / 64]? <;>rfl
theorem KG:∀(l:List fQ)(cs:List Cell)(d:kH l),jk l cs=some d->cs.flatMap Cell.refs=[]->(gy l d).flatMap Cell.refs=[]
 |[],[],_,_,_=>rfl
 |c::l,x::xs,d,h,hn=>by
  rw[jk]at h;rw[apR,apz]at hn;split at h
  .next p q hp hq=>
   cases h;show((c.cell p)::gy l q).flatMap Cell.refs=[];rw[apR,apz];refine⟨?_,KG l xs q hq hn.2⟩;cases c with
   |ref o=>
    cases x<;>simp[fQ.read,Cell.refs]at hp hn
   |_=>rfl
  .cases h
 |[],_::_,_,h,_=>by simp[jk]at h
 |_::_,[],_,h,_=>by simp[jk]at h
theorem akh{G:jo}(hE:EnvB P G Θ Γ)(hm:P.follows .mixedOrders=true){f:FuncId}{fn:Func}{c:Code}(hf:P.funcs[f]? =some fn)(hb:fn.body=some c)(H:Hints)
 {sh:List jh} {l:List fQ} {F:mZ sh->Prop×(kH l->Prop)} (hn:Nat.ble sh.length fn.ntmps=true) (hne:∀x,(F x).1->∃t,(F x).2 t)
 (hwalk:∀x,IV sh x->(F x).1->Cc Θ Γ H c (abB fn.results.toList l (F x).2) (zU fn.ntmps (pJ sh x))):zQ P G f (aiG sh l F):=by
 intro args p ρ hcon hp;unfold aiG at hcon;split at hcon
 case h_2=>cases hcon
 next x hx=>
 cases hcon;refine⟨hne x hp,λk S γ vs w hG hrep nX hsep hap=>?_⟩;have hlen:=(FB hx).1;rw[ES]at hlen;have hn':args.length<=fn.ntmps:=by rw[← hlen];simpa[aqZ]using hn
 have hin:IV sh x:=QB (λo X ho=>(nX o X ho).1) sh args x vs.toList 0 (λj a h=>by rwa [apg]) hx hrep;have hR0:=Xw (S:=S) fn.ntmps hn' hrep (λo X ho=>⟨(nX o X ho).1,λb hb=>((nX o X ho).2 b hb).1⟩) hsep;have hR1:=hR0.covers (OJ hx fn.ntmps);refine calls_of_wp hf hb (Qy ⟨hE,hG,λb hb=>?_⟩ hm H c _ _ _ _ _ _ hR1 (hwalk x hin hp) ?_)
 .obtain⟨o,X,ho,hb⟩:=hb;exact((nX o X ho).2 b hb).2
 intro e s γ' a' w' he hR;have he':abB fn.results.toList l (F x).2 .ret s:=by
  cases e with
  |normal=>exact he
  |ret=>exact he
  |_=>exact he.elim
 have hfin:bodyPost P fn (λe w'=>∃t,(F x).2 t/\IC S args γ w k ⟨[],some (gy l t)⟩ (loses sh) e w') .ret a' w':=by
  simp only[abB]at he';split at he'
  case h_2=>exact he'.elim
  next t hrv=>
  split at he'
  case h_2=>exact he'.elim
  next o off Xl=>
  split at he'
  case h_2=>exact he'.elim
  next cs hoff hcs=>
  split at he'
  case h_2=>exact he'.elim
  next d hnr hd=>
  have hoff:=aoM hoff;subst hoff;have hRf:=hR.freeze (IL s);have hv:=hR.tmps t;rw[Xl]at hv;obtain⟨b,cs0,_,hγ,hval⟩:=hv;obtain⟨b',arr,ty,g1,g2,g3⟩:=hRf.ah o _ hcs;have g1:γ' o=.pointer (some ⟨b',0,none⟩):=g1;have hγ:γ' o=.pointer (some ⟨b,0,none⟩):=hγ;rw[hγ]at g1;cases g1;have hblk:blk (γ' o)=some b:=by rw[hγ];rfl
  have hlt:=hRf.lt o _ b hcs hblk
  let γ2:Nat->Value:=λ_=>γ' o
  let Z:V:=⟨w',w.heap.size,pI S args (loses sh) γ,γ2,look (Out.take k ⟨[],some (gy l d)⟩).2⟩
  have hlook:∀q y,look (Out.take k ⟨[],some (gy l d)⟩).2 q=some y->q=k-1/\y=.var (gy l d):=by
   intro q y hq;have hmem:=tY _ q y hq;have:(q,y)=(k-1,.var (gy l d)):=by simpa[Out.take]using hmem
   exact⟨congrArg Prod.fst this,congrArg Prod.snd this⟩
  have MC:∀fr b',(aj w (Qz args γ S) γ' (s.freeze (IL s)) w').bM fr b'->Z.bM fr b':=by intro fr b' hb';refine⟨⟨hb'.1.1,λhlt'=>⟨hb'.1.2.1 hlt',λq y hq=>by rw[ML]at hq;cases hq⟩,λq y hq=>?_⟩,hb'.2⟩;exact hb'.1.2.2 o _ hcs
  have hcells:ai Z (gy l d) arr.toList:=
   AL (Y:=aj w (Qz args γ S) γ' (s.freeze (IL s)) w') (Z:=Z) rfl MC _ _ (KG l cs d hd hnr) (zS l cs d _ hd g3)
  have hself:look (Out.take k ⟨[],some (gy l d)⟩).2 (k-1)=some (.var (gy l d)):=by simp[Out.take,look]
  refine⟨hR.defers,a'.tmps.getD t undef,?_,d,he',_,γ2,rfl,hR.os,hR.tape,hR.output,hR.grow,hR.kept,?_,λq y hq=>?_,λq y q' y' b' hq hq' hne'=>?_,λq y hq=>by rw[ML]at hq;cases hq⟩
  .have:fn.results=#[.tmp t]:=by apply aqj;simpa using hrv
   have hmap:(Array.mapM (En a'.tmps) #[ResultVar.tmp t]).run P w'=.ok #[a'.tmps.getD t undef] w':=by rw[aq7,Sem.run_map];simp only[arW,List.mapM_nil,En];rfl
   rw[MK,this,ao9,hmap];rfl
  .exact⟨b,gy l d,hself,hγ,hval⟩
  .obtain⟨rfl,rfl⟩:=hlook q y hq;refine⟨⟨b,arr,ty,hγ,g2,hcells⟩,λb' hb'=>?_⟩;have hb':blk (γ' o)=some b':=hb';rw[hblk]at hb';cases hb';exact⟨hlt.1,hlt.2,λq y hq=>by rw[ML]at hq;cases hq⟩
  .obtain⟨rfl,_⟩:=hlook q y hq;obtain⟨rfl,_⟩:=hlook q' y' hq';exact(hne' rfl).elim
 cases e with
 |normal=>exact hfin
 |ret=>exact hfin
 |_=>exact he.elim
end Go.Fw
namespace Go.Fw
open Go
def CT.isZero:CT->Value->Bool
 |.int k,.int l n=>decide (k=l)&&decide (n=0)
 |.bool,.bool b=>!b
 |.str,.string s=>s.data.toList.isEmpty
 |.sl _ _,.slice none 0 0=>true
 |_,_=>false
def au.KH:au->List Value->Bool
 |.nil,[]=>true
 |.cons c r,v::vs=>c.isZero v&&r.KH vs
 |_,_=>false
theorem CT.ahk:∀(c:CT)(v:Value),c.isZero v=true->v=c.Y0:=by
 intro c v h;unfold CT.isZero at h;split at h
 .simp at h;rw[h.1,h.2];rfl
 .simp at h;subst h;rfl
 .next s=>obtain⟨⟨l⟩⟩:=s;simp at h;subst h;rfl
 .rfl
 .cases h
theorem au.XB:∀(r:au)(vs:List Value),r.KH vs=true->vs=r.jE
 |.nil,[],_=>rfl
 |.cons c r,v::vs,h=>by
  rw[KH,aoJ]at h;rw[au.jE,CT.ahk c v h.1,au.XB r vs h.2]
 |.nil,_::_,h|.cons _ _,[],h=>by simp[KH]at h
def acA:TypeDesc->TypeDesc->Bool
 |.int k,.int l=>decide (k=l)
 |.bool,.bool=>true
 |.string,.string=>true
 |.slice e,.slice f=>Nat.beq e f
 |_,_=>false
theorem ahl:∀(c d:TypeDesc),acA c d=true->c=d:=by
 intro c d h;unfold acA at h;split at h
 .rw[ap1 h]
 .rfl
 .rfl
 .rw[aoM h]
 .cases h
def GL(P:Program):List (Nat×TypeId)->List Field->Bool
 |[],[]=>true
 |(o,t)::r,f::fs=>Nat.beq o f.offset&&Nat.beq t f.type&&(P.info? f.type).isSome&&GL P r fs
 |_,_=>false
theorem UN{P:Program}:∀(l:List (Nat×TypeId))(fs:List Field),GL P l fs=true->l=fs.map (λf=>(f.offset,f.type))/\∀f∈fs,(P.info? f.type).isSome=true
 |[],[],_=>⟨rfl,by simp⟩
 |(o,t)::r,f::fs,h=>by
  rw[GL,aoJ,aoJ,aoJ]at h;obtain⟨⟨⟨h1,h2⟩,h3⟩,h4⟩:=h;obtain⟨e,hall⟩:=UN r fs h4;refine⟨by rw[ao3,← e,aoM h1,aoM h2],λg hg=>?_⟩;rcases aoU.1 hg with rfl|hg
  .exact h3
  .exact hall g hg
 |[],_::_,h|_::_,[],h=>by simp[GL]at h
def ahm(P:Program)(t:TypeId)(ti:TI):Bool:=
 match ti.kind,P.underlying t with
 |.scalar,some d=>match ti.cells.desc with|some c=>acA c d|none=>false
 |.str,some .string=>ti.cells.beq (.cons .str .nil)
 |.slice e,some (.slice f)=>Nat.beq e f&&(match ti.cells with|.cons (.sl g _) .nil=>Nat.beq g e|_=>false)
 |.struct fs,some (.struct vg)=>GL P fs vg.toList
 |_,_=>false
def aeV(ti:TI)(z:Value):Bool:=match ti.kind with
 |.struct _=>true
 |_=>z.oneCell'
def Zc(P:Program)(t:TypeId)(ti:TI):Bool:=
 match P.info? t with
 |some i=>match i.zero with
  |some z=>Nat.beq i.size ti.cells.len&&Nat.beq i.bytes ti.bytes&&ti.cells.KH z.cells.toList&&aeV ti z&&ahm P t ti&&Nat.ble ti.bytes 4096&&(!ti.cmp||afC P t ti.cells)
  |none=>false
 |none=>false
theorem kC.aiH{P:Program}{t:TypeId}{ti:TI}(h:Zc P t ti=true):kC P t ti:=by
 unfold Zc at h;split at h
 .next i hi=>
  split at h
  .next z hz=>
   simp only[aoJ]at h;obtain⟨⟨⟨⟨⟨⟨h1,h2⟩,h3⟩,h4⟩,h5⟩,h6⟩,h7⟩:=h;refine⟨⟨i,z,hi,aoM h1,aoM h2,hz,au.XB _ _ h3,λhagg=>?_⟩,?_,by simpa[aqZ]using h6,λe w s u X xs ys vs us b hf hx hy he=>aj9 (by rw[e]at h7;simpa using h7) w s u X xs ys vs us b hf hx hy he⟩
   .unfold aeV at h4;unfold TI.agg at hagg;split at h4
    .next hk=>rw[hk]at hagg;cases hagg
    .exact BO z h4
   .unfold ahm at h5;split at h5
    .next d hk hu=>
     rw[hk];split at h5
     .next c hc=>exact⟨d,by rw[hc,ahl c d h5],hu⟩
     .cases h5
    .next hk hu=>rw[hk];exact⟨hu,au.eq_of_beq _ _ h5⟩
    .next e f hk hu=>
     rw[hk];rw[aoJ]at h5;have hef:=aoM h5.1;subst hef;refine⟨hu,?_⟩;have h52:=h5.2;split at h52
     .next g r hg=>exact⟨r,by rw[hg,aoM h52]⟩
     .cases h52
    .next fs vg hk hu=>rw[hk];obtain⟨e,hall⟩:=UN _ _ h5;exact⟨vg,hu,e,hall⟩
    .cases h5
  .cases h
 .cases h
def KI(P:Program):List (Nat×TI)->Bool
 |[]=>true
 |(t,ti)::r=>Zc P t ti&&KI P r
theorem acB{P:Program}:∀{l:List (Nat×TI)},KI P l=true->∀t ti,Xr l t=some ti->kC P t ti
 |[],_,t,ti,h=>by cases h
 |(i,x)::r,hc,t,ti,h=>by
  rw[KI,aoJ]at hc;rw[Xr]at h;cases hb:Nat.beq t i with
  |true=>rw[hb]at h;cases h;rw[aoM hb];exact .aiH hc.1
  |false=>rw[hb]at h;exact acB hc.2 t ti h
def Ti(fn:Func):Bool:=fn.body.isSome&&!(fn.name== "runtime.NumGoroutine")
theorem ku{P:Program}{f:FuncId}{fn:Func}(hf:P.funcs[f]? =some fn)(hc:Ti fn=true):jF P f:=by
 intro args w;unfold Ti at hc;rw[aoJ]at hc;have h1:(fn.name== "runtime.NumGoroutine")=false:=by simpa using hc.2
 have h2:fn.body.isNone=false:=by cases hb:fn.body with|none=>rw[hb]at hc;simp at hc|some _=>rfl
 unfold callFunc;simp only[ao9,run_program,apA,hf,h1,h2,ap9,aqY,apK]
def ahn(P:Program)(G:jo)(f:FuncId):EP->Prop
 |.pure c=>gu P G f c/\jF P f
 |.eff _ c=>zQ P G f c/\jF P f
theorem aho{P:Program}{G:jo}{Θ:iO}(hT:∀t ti,Θ t=some ti->kC P t ti):∀{l:List (Nat×EP)},(∀x∈l,ahn P G x.1 x.2)->EnvB P G Θ (Iz l)
 |[],_=>⟨hT,(λf con h=>by cases h),(λf ms con h=>by cases h)⟩
 |(i,c)::r,h=>by
  have ih:=aho (G:=G) hT λx hx=>h x (aoR _ hx);refine⟨hT,λf con hf=>?_,λf ms con hf=>?_⟩
  .rw[Iz]at hf;cases hb:Nat.beq f i with
   |true=>rw[hb]at hf;cases hf;rw[aoM hb];exact h (i,.pure con) aoT
   |false=>rw[hb]at hf;exact ih.cons f con hf
  .rw[Iz]at hf;cases hb:Nat.beq f i with
   |true=>rw[hb]at hf;cases hf;rw[aoM hb];exact h (i,.eff ms con) aoT
   |false=>rw[hb]at hf;exact ih.aby f ms con hf
end Go.Fw
namespace Go.Fw
open Go
structure PA where
 n:Nat
 sh:List gU
 cO:List ng
 F:ja sh->Prop×lM cO
structure XA where
 n:Nat
 sh:List jh
 cO:List rZ
 F:mZ sh->Prop×(x9 cO×wC sh->Prop)
structure QA where
 n:Nat
 sh:List jh
 cO:List fQ
 F:mZ sh->Prop×(kH cO->Prop)
def PA.e(q:PA):Nat×EP:=(q.n,.pure (iV q.sh q.cO q.F))
def XA.e(q:XA):Nat×EP:=(q.n,.eff (acy q.sh) (abP q.sh q.cO q.F))
def QA.e(q:QA):Nat×EP:=(q.n,.eff (acy q.sh) (aiG q.sh q.cO q.F))
def XC(P:Program)(G:jo)(x:Nat×EP):Prop:=ahn P G x.1 x.2
def acC(P:Program)(G:jo):List (Nat×EP)->Prop
 |[]=>True
 |x::l=>XC P G x/\acC P G l
theorem aiI{P:Program}{G:jo}{l':List (Nat×TI)}(hT:KI P l'=true){l:List (Nat×EP)}(h:acC P G l):EnvB P G (Xr l') (Iz l):=
 aho (acB hT) (by
  induction l with
  |nil=>exactλx hx=>by cases hx
  |cons y l ih=>exact List.forall_mem_cons.2 ⟨h.1,ih h.2⟩)
def Zd:(l:List fQ)->(kH l->Prop)->Prop
 |[],p=>p ()
 |c::r,p=>∀x:c.den,Zd r λy=>p (x,y)
theorem KJ:∀{l:List fQ}{p:kH l->Prop},Zd l p->∀x,p x
 |[],_,h,()=>h
 |_::_,_,h,(x,y)=>KJ (h x) y
def afW:(l:List (List fQ))->(xA l->Prop)->Prop
 |[],p=>p ()
 |c::r,p=>Zd c λx=>afW r λy=>p (x,y)
theorem acD:∀{l:List (List fQ)}{p:xA l->Prop},afW l p->∀x,p x
 |[],_,h,()=>h
 |_::_,_,h,(x,y)=>acD (KJ h x) y
def aiJ:(s:gU)->(s.den->Prop)->Prop
 |.v (.one c),p=>∀x:c.den,p x
 |.v (.agg l),p=>Zd l p
 |.kp l,p=>Zd l p
 |.fn _ l,p=>afW l p
theorem aeW:∀{s:gU}{p:s.den->Prop},aiJ s p->∀x,p x
 |.v (.one _),_,h,x=>h x
 |.v (.agg _),_,h,x=>KJ h x
 |.kp _,_,h,x=>KJ h x
 |.fn _ _,_,h,x=>acD h x
def afX:(l:List gU)->(ja l->Prop)->Prop
 |[],p=>p ()
 |s::r,p=>aiJ s λx=>afX r λy=>p (x,y)
theorem acE:∀{l:List gU}{p:ja l->Prop},afX l p->∀x,p x
 |[],_,h,()=>h
 |_::_,_,h,(x,y)=>acE (aeW h x) y
def ak3:(s:jh)->(s.den->Prop)->Prop
 |.p s,p=>aiJ s p
 |.own _ r,p=>∀x:List r.den,p x
 |.ptr l,p=>Zd l p
theorem aki:∀{s:jh}{p:s.den->Prop},ak3 s p->∀x,p x
 |.p _,_,h,x=>aeW h x
 |.own _ _,_,h,x=>h x
 |.ptr _,_,h,x=>KJ h x
def abC:(l:List jh)->(mZ l->Prop)->Prop
 |[],p=>p ()
 |s::r,p=>ak3 s λx=>abC r λy=>p (x,y)
theorem VE:∀{l:List jh}{p:mZ l->Prop},abC l p->∀x,p x
 |[],_,h,()=>h
 |_::_,_,h,(x,y)=>VE (aki h x) y
abbrev LP{α:Type}(x:α)(f:(α->Prop)->(α->Nat)->α->Prop):Prop:=∃(I:α->Prop),∃(μ:α->Nat),I x/\∀(y:α),I y->f I μ y
abbrev NX{σ α:Type}(s:σ)(I:α->Prop)(μ:α->Nat)(x y:α):Prop:=s=s/\I x/\μ x<μ y
def H0:Hints:=hints [] [] [] [] []
def xQ(P:Program)(n:Nat):Func:=match P.funcs[n]? with|some f=>f|none=>default
def Es(P:Program)(n k:Nat):Bool:=P.funcs[n]?.isSome&&Ti (xQ P n)&&Nat.ble k (xQ P n).ntmps
theorem QC{P:Program}{n k:Nat}(h:Es P n k=true):P.funcs[n]? =some (xQ P n)/\(xQ P n).body=some (codeOf (xQ P n))/\jF P n/\Nat.ble k (xQ P n).ntmps=true:=by
 simp only[Es,aoJ]at h;obtain⟨⟨h1,h2⟩,h3⟩:=h;have e:P.funcs[n]? =some (xQ P n):=by
  unfold xQ;cases hf:P.funcs[n]? with
  |some f=>rfl
  |none=>rw[hf]at h1;cases h1
 refine⟨e,?_,ku e h2,h3⟩;have h4:=h2;unfold Ti at h4;rw[aoJ]at h4;unfold codeOf;cases hb:(xQ P n).body with
 |some c=>rfl
 |none=>rw[hb]at h4;cases h4.1
def PA.goal(q:PA)(g:(lM q.cO->Prop)->Prop)(x:ja q.sh):Prop:=Fz q.sh x->(q.F x).1->g λr=>r=(q.F x).2
def XA.goal(q:XA)(g:(x9 q.cO×wC q.sh->Prop)->Prop)(x:mZ q.sh):Prop:=IV q.sh x->(q.F x).1->g (q.F x).2
def QA.goal(q:QA)(g:(kH q.cO->Prop)->Prop)(x:mZ q.sh):Prop:=IV q.sh x->(q.F x).1->g (q.F x).2
variable {P:Program} {Θ:iO} {Γ:jU} {G:jo}
theorem PA.ok{q:PA}(hm:P.follows .mixedOrders=true)(hE:EnvB P G Θ Γ)(H:Hints){p:Prop}
 (hp:(bif Es P q.n q.sh.length then afX q.sh λx=>q.goal (λK=>Cc Θ Γ H (codeOf (xQ P q.n)) (Xt Θ (xQ P q.n).results.toList q.cO K) (entry (xQ P q.n).ntmps (qE q.sh x))) x else False)=p) (h:p):XC P G q.e:=by
 subst hp;cases hc:Es P q.n q.sh.length with
 |false=>rw[hc]at h;exact h.elim
 |true=>rw[hc]at h;obtain⟨h1,h2,h3,h4⟩:=QC hc;exact⟨Y8 hE hm h1 h2 H h4 λx hi hx=>acE h x hi hx,h3⟩
theorem XA.ok{q:XA}(hm:P.follows .mixedOrders=true)(hE:EnvB P G Θ Γ)(H:Hints)(hne:∀x,(q.F x).1->∃t,(q.F x).2 t){p:Prop}
 (hp:(bif Es P q.n q.sh.length then abC q.sh λx=>q.goal (λK=>Cc Θ Γ H (codeOf (xQ P q.n)) (abA Θ (xQ P q.n).results.toList q.sh q.cO K) (zU (xQ P q.n).ntmps (pJ q.sh x))) x else False)=p) (h:p):XC P G q.e:=by
 subst hp;cases hc:Es P q.n q.sh.length with
 |false=>rw[hc]at h;exact h.elim
 |true=>rw[hc]at h;obtain⟨h1,h2,h3,h4⟩:=QC hc;exact⟨akg hE hm h1 h2 H h4 hne λx hi hx=>VE h x hi hx,h3⟩
theorem QA.ok{q:QA}(hm:P.follows .mixedOrders=true)(hE:EnvB P G Θ Γ)(H:Hints)(hne:∀x,(q.F x).1->∃t,(q.F x).2 t){p:Prop}
 (hp:(bif Es P q.n q.sh.length then abC q.sh λx=>q.goal (λK=>Cc Θ Γ H (codeOf (xQ P q.n)) (abB (xQ P q.n).results.toList q.cO K) (zU (xQ P q.n).ntmps (pJ q.sh x))) x else False)=p) (h:p):XC P G q.e:=by
 subst hp;cases hc:Es P q.n q.sh.length with
 |false=>rw[hc]at h;exact h.elim
 |true=>rw[hc]at h;obtain⟨h1,h2,h3,h4⟩:=QC hc;exact⟨akh hE hm h1 h2 H h4 hne λx hi hx=>VE h x hi hx,h3⟩
end Go.Fw
namespace Go.Fw
open Go
variable {P:Program} {G:jo} {f:FuncId}
theorem gu.weaken{con acF:BJ}(h:gu P G f con)(hc:∀args p out,acF args=some (p,out)->p->∃q,con args=some (q,out)/\q):gu P G f acF:=by intro args p out k S vs w hcon hp hG hrep;obtain⟨q,h1,h2⟩:=hc args p out hcon hp;exact h args q out k S vs w h1 h2 hG hrep
theorem zQ.weaken{con acF:P7}(h:zQ P G f con)(hc:∀args p ρ,acF args=some (p,ρ)->p->∃q,con args=some (q,ρ)/\q):zQ P G f acF:=by intro args p ρ hcon hp;obtain⟨q,h1,h2⟩:=hc args p ρ hcon hp;exact h args q ρ h1 h2
theorem ahp{sh:List gU}{cO:List ng}{F:ja sh->Prop×lM cO}(Fr Fs:Nat->ja sh->Prop×lM cO)(h0:∀x,¬(Fr 0 x).1)(hs:∀n x,Fr (n+1) x=Fs n x)
 (hf:∀x,(F x).1->∃n,(Fr n x).1) (he:∀n x,(Fr n x).2=(F x).2) (step:∀n,gu P G f (iV sh cO (Fr n))->gu P G f (iV sh cO (Fs n))):gu P G f (iV sh cO F):=by
 have all:∀n,gu P G f (iV sh cO (Fr n)):=by
  intro n
  induction n with
  |zero=>
   intro args p out k S vs w hcon hp;unfold iV uI at hcon;split at hcon
   .next x _=>have e:(Fr 0 x).1=p:=congrArg Prod.fst (Option.some.inj hcon);exact absurd (e.symm▸hp) (h0 x)
   .cases hcon
  |succ n ih=>have:=step n ih;have e:Fr (n+1)=Fs n:=funext (hs n);rw[e];exact this
 intro args p out k S vs w hcon hp hG hrep;have abD:=hcon;unfold iV uI at abD;split at abD
 .next x hx=>have e:=Option.some.inj abD;have e1:(F x).1=p:=congrArg Prod.fst e;obtain⟨n,hn⟩:=hf x (e1.symm▸hp);refine all n args (Fr n x).1 out k S vs w ?_ hn hG hrep;unfold iV uI;rw[hx];show some ((Fr n x).1,_)=_;rw[he n x];exact congrArg (λz=>some ((Fr n x).1,z)) (congrArg Prod.snd e)
 .cases abD
end Go.Fw
namespace Go.Fw
open Go
variable {P:Program} {H:Type} {enc:TypeId×Value->H} {w:World}
def au.app:au->au->au
 |.nil,s=>s
 |.cons c r,s=>.cons c (r.app s)
def abE:(r s:au)->r.den->s.den->(r.app s).den
 |.nil,_,_,y=>y
 |.cons _ r,s,x,y=>(x.1,abE r s x.2 y)
theorem aG.app{h:Array Obj}{S:Nat->Prop}:∀(r s:au)(x:r.den)(y:s.den)(vs us:List Value),aG h S r vs x->aG h S s us y->aG h S (r.app s) (vs++us) (abE r s x y)
 |.nil,s,x,y,vs,us,h1,h2=>by rw[aG]at h1;subst h1;exact h2
 |.cons c r,s,(x,x'),y,vs,us,h1,h2=>by rw[aG]at h1;obtain⟨v,vs',rfl,g1,g2⟩:=h1;show aG h S (.cons c (r.app s)) (v::(vs'++us)) (x,abE r s x' y);rw[aG];exact⟨v,vs'++us,rfl,g1,aG.app r s x' y vs' us g2 h2⟩
theorem add_add(a:Addr)(h:a.spot=none)(m j:Nat):(a.add m).add j=⟨a.block,a.off+m+j,none⟩:=by
 obtain⟨b,o,sp⟩:=a;simp only at h;subst h;unfold Addr.add;by_cases hm:m=0
 .by_cases hj:j=0
  .simp[hm,hj]
  .simp[hm,hj]
 .by_cases hj:j=0
  .simp[hm,hj]
  .simp[hm,hj]
def IW(f:TypeId->Option au):List Field->Nat->Option au
 |[],_=>some .nil
 |x::r,off=>match f x.type with
  |some s=>match IW f r (off+s.len),Nat.beq x.offset off with
   |some u,true=>some (s.app u)
   |_,_=>none
  |none=>none
def rowOf(P:Program):Nat->TypeId->Option au
 |0,_=>none
 |n+1,t=>match P.underlying t with
  |some (.int k)=>some (.cons (.int k) .nil)
  |some .bool=>some (.cons .bool .nil)
  |some .string=>some (.cons .str .nil)
  |some (.slice e)=>match rowOf P n e with
   |some s=>match Nat.beq s.len (P.cellsOf e)&&Nat.ble 1 s.len with
    |true=>some (.cons (.sl e s) .nil)
    |false=>none
   |none=>none
  |some (.struct fs)=>match IW (rowOf P n) fs.toList 0 with
   |some r=>match Nat.beq r.len (P.cellsOf t)with
    |true=>match fs.toList.all λf=>match rowOf P n f.type with|some s=>Nat.beq s.len (P.cellsOf f.type)|none=>false with
     |true=>some r
     |false=>none
    |false=>none
   |none=>none
  |_=>none
theorem aeX{α:Type}{Q:Nat->α->Prop}:∀(n:Nat),(∀i,i<n->∃x,Q i x)->∃l:List α,l.length=n/\∀i x,l[i]? =some x->Q i x
 |0,_=>⟨[],rfl,λi x h=>by simp at h⟩
 |n+1,h=>by
  obtain⟨l,hl,hq⟩:=aeX n λi hi=>h i (by omega);obtain⟨x,hx⟩:=h n (by omega);refine⟨l++[x],by simp[hl],λi y hy=>?_⟩;rcases apa i n with hi|hi
  .rw[apt (by omega)]at hy;exact hq i y hy
  .rw[apk (by omega)]at hy;have:i=n:=by
    rcases apa n i with h'|h'
    .rw[apJ (by simp;omega)]at hy;cases hy
    .omega
   subst this;simp[hl]at hy;rw[← hy];exact hx
theorem aeY:∀(r s:au),(r.app s).len=r.len+s.len
 |.nil,s=>by simp[au.app,au.len]
 |.cons c r,s=>by simp only[au.app,au.len,aeY r s];omega
theorem XD{f:TypeId->Option au}{S:Nat->Prop}{h:Array Obj}(cs:List Value)
 (part:∀(t:TypeId)(r:au)(off:Nat),f t=some r->(∃g:Field,g.type=t/\g.offset=off)->True):∀(fs:List Field)(off:Nat)(r:au),IW f fs off=some r->
 (∀g∈fs,∀s,f g.type=some s->∃x,aG h S s ((cs.drop g.offset).take s.len) x)->
 ∃x,aG h S r ((cs.drop off).take r.len) x
 |[],off,r,hr,_=>by
  cases hr;exact⟨(),by rw[aG];simp[au.len]⟩
 |g::fs,off,r,hr,hall=>by
  rw[IW]at hr;split at hr
  .next s hs=>
   split at hr
   .next u hu hb=>
    cases hr;obtain⟨x,hx⟩:=hall g aoT s hs;rw[aoM hb]at hx;obtain⟨y,hy⟩:=XD cs part fs (off+s.len) u hu λg' hg'=>hall g' (aoR _ hg');refine⟨abE s u x y,?_⟩;have:=aG.app s u x y _ _ hx hy;rw[aeY];have e:(cs.drop off).take (s.len+u.len)=(cs.drop off).take s.len++(cs.drop (off+s.len)).take u.len:=by rw[List.take_add,aqF]
    rw[e];exact this
   .cases hr
  .cases hr
theorem VF:∀(n:Nat)(t:TypeId)(r:au),rowOf P n t=some r->∀(m:Nat)(base:Nat)(spare:Nat->Bool)(held:Bool)(cs:List Value)(x:DataW H×List MemPlace),
 DataW.trod enc P w base spare held m t cs=some x->∃y,aG w.heap (λb=>b<w.heap.size) r cs y
 |0,t,r,hr=>by cases hr
 |n+1,t,r,hr=>by
  intro m base spare held cs x hx;rw[rowOf]at hr;split at hr
  .next k hu=>cases hr;obtain⟨i,rfl,_,hwf⟩:=DataW.trod_int hu hx;simp only[Lit.wf,aoJ,aoS]at hwf;exact⟨(i,()),by rw[aG];exact⟨_,[],rfl,by rw[dF];exact⟨rfl,hwf⟩,by rw[aG]⟩⟩
  .next hu=>cases hr;obtain⟨b,rfl,_⟩:=DataW.trod_bool hu hx;exact⟨(b,()),by rw[aG];exact⟨_,[],rfl,by rw[dF],by rw[aG]⟩⟩
  .next hu=>cases hr;obtain⟨s,rfl,_,hs⟩:=DataW.trod_string hu hx;refine⟨(s.data.toList,()),by rw[aG];exact⟨_,[],rfl,by rw[dF];exact⟨by simp,by simpa using hs⟩,by rw[aG]⟩⟩
  .next e hu=>
   split at hr
   .next s hs=>
    split at hr
    .next hb=>
     cases hr;rw[aoJ]at hb;have hlen:=aoM hb.1;have hpos:1<=s.len:=by simpa[aqZ]using hb.2
     rcases DataW.trod_slice hu hx with⟨rfl,_⟩|⟨a,len,cap,elems,rest,k,_,rfl,_,hbase,hle,hmax,hel,hrow,_,_⟩
     .exact⟨([],()),by rw[aG];exact⟨_,[],rfl,by rw[dF];exact⟨by simp,.inl ⟨rfl,none,0,rfl⟩⟩,by rw[aG]⟩⟩
     .by_cases h0:len=0
      .subst h0;exact⟨([],()),by rw[aG];exact⟨_,[],rfl,by rw[dF];exact⟨by simp,.inl ⟨rfl,some a,cap,rfl⟩⟩,by rw[aG]⟩⟩
      .have each:∀i,i<len->∃(ys:List Value)(z:s.den),w.cells? base (a.add (i*P.cellsOf e)) (P.cellsOf e)=some ys/\aG w.heap (λb=>b<w.heap.size) s ys z:=by intro i hi;have h1:=hrow i hi;rw[aoQ (by omega)]at h1;obtain⟨ys,hys,hy2⟩:=Option.bind_eq_some_iff.1 h1;obtain⟨z,hz⟩:=VF n e s hs k base spare held ys _ hy2;exact⟨ys,z,hys,hz⟩
       obtain⟨ys0,z0,hc0,hz0⟩:=each 0 (by omega);obtain⟨_,hl0,hcell0⟩:=World.cells?_some hc0;have VG:=hcell0 0 (by omega);simp only[aqJ,Addr.add,if_true]at VG;have am9:∃v,ys0[0]? =some v:=⟨ys0[0]'(by omega),by simp[show 0<ys0.length by omega]⟩;obtain⟨v0,hv0⟩:=am9;rw[hv0]at VG;unfold World.cell? at VG;split at VG
       .next c ty fz hblk=>
        split at VG
        .cases VG
        .next hsp=>
         have hspot:a.spot=none:=by cases h:a.spot with|none=>rfl|some q=>rw[h]at hsp;simp at hsp
         have ha:a=⟨a.block,a.off,none⟩:=by cases a;simp at hspot;rw[hspot]
         have hb':a.block<w.heap.size:=by obtain⟨hlt,_⟩:=aoV.1 hblk;exact hlt
         have rows:∀i,i<len->∃z:s.den,aG w.heap (λb=>b<w.heap.size) s ((c.toList.drop (a.off+i*s.len)).take s.len) z:=by
          intro i hi;obtain⟨ys,z,hcs,hz⟩:=each i hi;obtain⟨_,hl,hcell⟩:=World.cells?_some hcs;refine⟨z,?_⟩;have:(c.toList.drop (a.off+i*s.len)).take s.len=ys:=by
           refine aqu λj=>?_;rcases apa j s.len with hj|hj
           .rw[apY hj,apo];have h2:=hcell j (by omega);have hadd:=add_add a hspot (i*P.cellsOf e) j;rw[← hlen]at hadd h2;rw[hadd]at h2;unfold World.cell? at h2;simp only[hblk,Option.isSome_none,ap9,aqY]at h2;rw[← h2];simp
           .rw[apJ (by simp;omega),apJ (by omega)]
          rw[this];exact hz
         obtain⟨l,hll,hlq⟩:=aeX len rows;refine⟨(l,()),by rw[aG];exact⟨_,[],rfl,by rw[dF];exact⟨by omega,.inr ⟨a.block,a.off,cap,c,ty,fz,by rw[hll,← ha],by omega,hb',hblk,hlq⟩⟩,by rw[aG]⟩⟩
       .cases VG
    .cases hr
   .cases hr
  .next fs hu=>
   split at hr
   .next r' hf=>
    split at hr
    .next hb=>
     split at hr
     .next hall=>
      cases hr;obtain⟨xs,k,_,_,hcl,hxl,hparts⟩:=DataW.trod_struct hu hx;have hlen:=aoM hb;have:=XD (h:=w.heap) (S:=λb=>b<w.heap.size) cs (λ_ _ _ _ _=>trivial) fs.toList 0 _ hf ?_
      .obtain⟨y,hy⟩:=this;refine⟨y,?_⟩;rw[aqG,apl (by omega)]at hy;exact hy
      .intro g hg s hs;have hg2:=ao4.1 hall g hg;rw[hs]at hg2;have hsl:=aoM hg2;obtain⟨i,hi,hgi⟩:=aqr.1 hg;have hp:=hparts i g (by rw[← hgi];simp[show i<fs.size by simpa using hi]);rw[aoQ (by simp at hi;omega)]at hp;rw[hsl];exact VF n g.type s hs k base spare held _ _ hp
     .cases hr
    .cases hr
   .cases hr
  .cases hr
def CT.csh:CT->fQ
 |.int k=>.int k
 |.bool=>.bool
 |.str=>.str
 |.sl e r=>.sl e r false
def toC:(c:CT)->c.den->c.csh.den
 |.int _,x=>x
 |.bool,x=>x
 |.str,x=>x
 |.sl _ _,x=>x
def au.shs:au->List fQ
 |.nil=>[]
 |.cons c r=>c.csh::r.shs
def toCs:(r:au)->r.den->kH r.shs
 |.nil,_=>()
 |.cons c r,x=>(toC c x.1,toCs r x.2)
theorem Ze(X:V):∀(r:au)(vs:List Value)(x:r.den),aG X.w.heap (X.bM false) r vs x->ai X (gy r.shs (toCs r x)) vs
 |.nil,vs,x,h=>by rw[aG]at h;subst h;trivial
 |.cons c r,vs,(x,y),h=>by
  rw[aG]at h;obtain⟨v,vs',rfl,h1,h2⟩:=h;refine⟨?_,Ze X r vs' y h2⟩;cases c with
  |int k=>exact h1
  |bool=>exact h1
  |str=>exact h1
  |sl e r=>exact h1
def afY(P:Program)(t:TypeId):Option ng:=
 match rowOf P 64 t with
 |some r=>match P.underlying t with
  |some (.struct _)=>some (.agg r.shs)
  |some (.array _ _)=>none
  |_=>match r with
   |.cons c .nil=>some (.one c.csh)
   |_=>none
 |none=>none
def GN(P:Program):List TypeId->Option (List gU)
 |[]=>some []
 |t::ts=>match afY P t,GN P ts with
  |some s,some l=>some (.v s::l)
  |_,_=>none
def start(w:World):V:=⟨w,w.heap.size,λb=>b<w.heap.size,λ_=>undef,λ_=>none⟩
theorem akj{t:TypeId}{s:ng}(hs:afY P t=some s){base base':Nat}{sp:Nat->Bool}{hd:Bool}{v:Value}{d:DataW H}{p:List MemPlace}
 (ht:DataW.Trod enc P w base sp hd t v d p) (hv:Value.okWide P w .any base' t v):∃x:s.den,dn (start w) (s.val x) v:=by
 unfold afY at hs;split at hs
 .next r hr=>
  obtain⟨m,hm⟩:=ht;obtain⟨y,hy⟩:=VF 64 t r hr m base sp hd _ _ hm;have hy':aG (start w).w.heap ((start w).bM false) r v.cells.toList y:=
   aG.mono (λb hb=>⟨⟨⟨hb,λ_=>hb,λo x hx=>by cases hx⟩,λe=>by cases e⟩,rfl⟩) r _ y hy
  unfold Value.okWide at hv;split at hs
  .next fs hu=>cases hs;rw[hu]at hv;obtain⟨cs,rfl,_,_⟩:=hv;exact⟨toCs r y,cs,rfl,Ze (start w) r _ y hy'⟩
  .cases hs
  .next hns hna=>
   split at hs
   .next c=>
    cases hs;have hcell:v.cells=#[v]:=by
     cases hv2:v<;>first
      |rfl
      |(exfalso
        rw[hv2]at hv;split at hv
        .next hu=>exact hns _ hu
        .next hu=>exact hna _ _ hu
        .unfold Go.Cell.okWide at hv;split at hv<;>first|(rename_i h1 h2;cases h2;done)|(rename_i h2;cases h2;done)|skip;unfold Go.Cell.ok at hv;split at hv<;>first|(rename_i h1 h2;cases h2;done)|exact hv)
    have:=Ze (start w) _ _ y hy';rw[hcell]at this;exact⟨toC c y.1,this.1⟩
   .cases hs
 .cases hs
theorem acG:∀(ts:List TypeId)(sh:List gU),GN P ts=some sh->∀{base base':Nat}{sp:Nat->Bool}{hd:Bool}(vs:List Value)(ds:List (DataW H))(p:List MemPlace),
 DataW.TrodAll enc P w base sp hd ts vs ds p->(∀(j:Nat) t v,ts[j]? =some t->vs[j]? =some v->Value.okWide P w .any base' t v)->∃x:ja sh,mM (start w) (qE sh x) vs
 |[],sh,hs,_,_,_,_,vs,ds,p,h,_=>by
  cases hs;cases vs with
  |nil=>exact⟨(),trivial⟩
  |cons v vs=>cases ds<;>simp[DataW.TrodAll]at h
 |t::ts,sh,hs,base,base',sp,hd,vs,ds,p,h,hok=>by
  rw[GN]at hs;split at hs
  .next s l h1 h2=>
   cases hs;cases vs with
   |nil=>cases ds<;>simp[DataW.TrodAll]at h
   |cons v vs=>
    cases ds with
    |nil=>simp[DataW.TrodAll]at h
    |cons d ds=>obtain⟨a,b,g1,g2,_⟩:=h;obtain⟨x,hx⟩:=akj h1 g1 (hok 0 t v rfl rfl);obtain⟨y,hy⟩:=acG ts l h2 vs ds b g2 λj t' v' ht' hv'=>hok (j+1) t' v' (by simpa using ht') (by simpa using hv');exact⟨(x,y),hx,hy⟩
  .cases hs
mutual
theorem CT.GR:∀(c:CT),c.beq c=true
 |.int k=>by simp[CT.beq]
 |.bool=>rfl
 |.str=>rfl
 |.sl e r=>by simp[CT.beq,au.GR r]
theorem au.GR:∀(r:au),r.beq r=true
 |.nil=>rfl
 |.cons c r=>by simp[au.beq,CT.GR c,au.GR r]
end
theorem aaq:∀(c:fQ)(x:c.den),c.read (c.cell x)=some x
 |.int k,x=>by simp[fQ.cell,fQ.read]
 |.bool,x=>rfl
 |.str,x=>rfl
 |.sl e r fr,l=>by
  simp only[fQ.cell,fQ.read,apy];have h1:GH fr fr=true:=by cases fr<;>rfl
  have h2:r.beq r=true:=au.GR r;rw[h1];simp only[Bool.and_self];rw[dif_pos h2];rfl
 |.nil,x=>rfl
 |.ref o,x=>by simp[fQ.cell,fQ.read]
 |.junk,x=>rfl
theorem XF:∀(l:List fQ)(x:kH l),jk l (gy l x)=some x
 |[],_=>rfl
 |c::r,x=>by rw[gy,jk,aaq c x.1,XF r x.2]
theorem acH:∀(ts:List TypeId)(l:List gU),GN P ts=some l->∀(x:ja l),Ce l (qE l x)=some x
 |[],l,h,x=>by cases h;rfl
 |t::ts,l,h,x=>by
  rw[GN]at h;split at h
  .next s r h1 h2=>
   cases h;have ih:=acH ts r h2 x.2;cases s with
   |one c=>
    have e:(gU.v (.one c)).read ((gU.v (.one c)).val x.1)=some x.1:=aaq c x.1;rw[qE,Ce,ih,e]
   |agg l=>have e:(gU.v (.agg l)).read ((gU.v (.agg l)).val x.1)=some x.1:=XF l x.1;rw[qE,Ce,ih,e]
  .cases h
def Zf:Out:=⟨[(false,[.plain (.bool true)])],none⟩
theorem ahq{G:jo}{f:FuncId}{fn:Func}{sh:List gU}{F:ja sh->Prop×Out}(hcon:gu P G f (uI sh F))(hsh:GN P fn.params.toList=some sh)
 (hF:∀x,Fz sh x->(F x).1/\(F x).2=Zf) (hG:G.ok w) {base base':Nat} {sp:Nat->Bool} {hd:Bool} {args:Array Value} {ds:List (DataW H)} {p:List MemPlace}
 (hA:DataW.TrodAll enc P w base sp hd fn.params.toList args.toList ds p) (hok:∀(j:Nat) t v,fn.params[j]? =some t->args[j]? =some v->Value.okWide P w .any base' t v):
 Calls P f args w λe w'=>e=.returned (.bool true)/\w'.os=w.os/\w'.output=w.output/\w.heap.size<=w'.heap.size/\∀b,b<w.heap.size->w'.heap[b]? =w.heap[b]? :=by
 obtain⟨x,hx⟩:=acG _ _ hsh _ _ _ hA λj t v ht hv=>hok j t v (by simpa using ht) (by simpa using hv);have hin:=yI sh x _ hx;obtain⟨hp,ho⟩:=hF x hin;have hc:uI sh F (qE sh x)=some ((F x).1,Zf):=by unfold uI;rw[acH _ _ hsh x];simp only[← ho]
 refine(hcon (qE sh x) _ _ 0 _ args w hc hp hG hx).mono ?_;rintro e w' ⟨v,vals,rfl,h1,h2,h3,h4,h5,h6,_,_⟩;have hv:v=.bool true:=h6;exact⟨by rw[hv],h1,h3,h4,h5⟩
theorem aiK{w w':World}(h1:w'.os=w.os)(h3:w'.output=w.output)(h5:∀b,b<w.heap.size->w'.heap[b]? =w.heap[b]?)(may:MemPlace->Prop):w.keptBut w' may:=by
 refine⟨h1,h3,λi hi=>?_⟩;rw[h5 i hi];cases hw:w.heap[i]? with
 |none=>trivial
 |some o=>cases o<;>simp
theorem aiL{w w':World}(h5:∀b,b<w.heap.size->w'.heap[b]? =w.heap[b]?){p:MemPlace}(hp:p.block<w.heap.size):w.sameAt w' p:=by
 cases p with
 |cell b off=>
  show w'.cell? _=w.cell? _;unfold World.cell?;simp only;rw[h5 b hp]
 |map b=>exact h5 b hp
end Go.Fw
namespace Go.Fw
open Go
variable {P:Program} {G:jo} {f:FuncId}
theorem mJ.mono{X Y:V}(h:X.le Y):∀(a:Arg)(v:Value),mJ X a v->mJ Y a v
 |.sv x,v,H=>dn.mono h x v H
 |.kp cs,v,H=>aP.mono h (.dY cs 0) v H
 |.fn f caps,v,H=>aP.mono h (.fn f caps) v H
 |.own _ _ _,_,H|.ptr _,_,H=>H.elim
theorem Gu.mono{X Y:V}(h:X.le Y)(i:Nat):∀(a:Arg)(v:Value),Gu X i a v->Gu Y i a v
 |.own _ _ _,v,H=>aN.mono h (.ref (i*64+49)) v H
 |.ptr _,v,H=>aP.mono h (.dU (i*64+48) 0) v H
 |.sv x,v,H=>mJ.mono h (.sv x) v H
 |.kp cs,v,H=>mJ.mono h (.kp cs) v H
 |.fn f caps,v,H=>mJ.mono h (.fn f caps) v H
theorem uH.nil{X Y:V}(h:X.le Y){e:TypeId}{r:au}:∀(args:List Arg)(vs:List Value)(j i:Nat),args[i]? =some (.sv (.one .nil))->
 Y.ah ((j+i)*64+49)=some (.arr e r [] false)->Y.γ ((j+i)*64+49)=.slice none 0 0->uH X j args vs->uH Y j (args.set i (.own e r [])) vs
 |[],[],_,i,ha,_,_,_=>by simp at ha
 |[],_::_,_,_,_,_,_,H=>H.elim
 |_::_,[],_,_,_,_,_,H=>H.elim
 |a::args,v::vs,j,0,ha,ho,hγ,⟨h1,h2⟩=>by
  have ha:a=.sv (.one .nil):=by simpa using ha
  subst ha;have hv:v=.slice none 0 0:=h1;refine⟨⟨⟨e,r,[],false,ho⟩,?_,by rw[hv];rfl⟩,?_⟩
  .rw[hv];exact hγ.symm
  .show uH Y (j+1) args vs;clear h1 ha ho hγ hv;generalize j+1=k at h2
   induction args generalizing k vs with
   |nil=>cases vs with
    |nil=>trivial
    |cons _ _=>exact h2.elim
   |cons b args ih=>cases vs with
    |nil=>exact h2.elim
    |cons u vs=>exact⟨Gu.mono h k b u h2.1,ih vs (k+1) h2.2⟩
 |a::args,v::vs,j,i+1,ha,ho,hγ,⟨h1,h2⟩=>by
  have e1:j+(i+1)=j+1+i:=by omega
  rw[e1]at ho hγ;exact⟨Gu.mono h j a v h1,uH.nil h args vs (j+1) i (by simpa using ha) ho hγ h2⟩
end Go.Fw
namespace Go.Fw
open Go
theorem af{b:Bool}{A B:Prop}(h1:b=true->A)(h2:b=false->B):cond b A B:=by
 cases b
 .exact h2 rfl
 .exact h1 rfl
theorem gB{D:Type}{A:(D->Prop)->Prop}{R:D->Prop}(f:D)(h1:A λy=>y=f)(h2:R f):∃J:D->Prop,A J/\∀y,J y->R y:=
 ⟨λy=>y=f,h1,λ_ hy=>hy▸h2⟩
theorem drop_cons{α:Type}(a:List α)(n:Nat)(d:α)(h:n<a.length):a.drop n=a.getD n d::a.drop (n+1):=by rw[ap6 h,aoN,aoQ h,aq3]
theorem fJ(z:Int)(h:-9223372036854775808<=z/\z<=9223372036854775807):IntKind.i64.wrap z=z:=IntWalk.i64_in z (by omega)
theorem maxLen_eq:maxLen=9223372036854775807:=by decide
theorem mP:big=4294967296:=rfl
theorem getD_mem{α:Type}{l:List α}{n:Nat}{d:α}(h:n<l.length):l.getD n d∈l:=by rw[aoN,aoQ h,aq3];exact ap2 h
end Go.Fw
namespace Go.Fw
open Go
def ak5(w:World)(S:Nat->Prop)(k:Nat)(out:Out)(e:Ending)(w':World):Prop:=
 ∃v vals,e=.returned v/\w'.os=w.os/\w'.tape=w.tape/\w'.output=w.output/\w.heap.size<=w'.heap.size/\
    (∀b,b<w.heap.size->w'.heap[b]? =w.heap[b]?)/\
    aP ⟨w',w.heap.size,S,vals,Fw.look (out.take k).2⟩ (out.take k).1 v/\
    (∀o x,Fw.look (out.take k).2 o=some x->aV ⟨w',w.heap.size,S,vals,Fw.look (out.take k).2⟩ o x/\∀b,blk (vals o)=some b->w.heap.size<=b/\b<w'.heap.size)/\
    (∀o x q y b,Fw.look (out.take k).2 o=some x->Fw.look (out.take k).2 q=some y->o≠q->blk (vals o)=some b->blk (vals q)≠some b)
theorem acI{w w':World}{S:Nat->Prop}{k:Nat}{s:Bytes}(hos:w'.os=w.os)(htape:w'.tape=w.tape)(hout:w'.output=w.output)(hsize:w.heap.size<=w'.heap.size)
 (ak6:∀b,b<w.heap.size->w'.heap[b]? =w.heap[b]?) (hs:s.length<=maxLen):ak5 w S k ⟨[(false,[.plain (.str s)])],none⟩ (.returned (.string ⟨s.toArray⟩)) w':=
 ⟨_,λ_=>undef,rfl,hos,htape,hout,hsize,ak6,⟨rfl,hs⟩,(λo x hx=>by cases hx),(λo x q y b hx=>by cases hx)⟩
end Go.Fw
namespace Go.Fw
open Go
variable {P:Program}
theorem aei{s:jh}{sh:List jh}:∀{args:List Arg}{d:mZ (s::sh)},jV (s::sh) args=some d->∃x xs,args=x::xs/\s.read x=some d.1/\jV sh xs=some d.2
 |[],_,h=>by simp[jV]at h
 |x::xs,d,h=>by
  rw[jV]at h;split at h
  .next a b h1 h2=>cases h;exact⟨x,xs,rfl,h1,h2⟩
  .cases h
theorem afZ:∀{args:List Arg}{d:mZ []},jV [] args=some d->args=[]
 |[],_,_=>rfl
 |_::_,_,h=>by simp[jV]at h
end Go.Fw
namespace Go.Fw
open Go
variable {P:Program} {H:Type} {enc:TypeId×Value->H} {w:World}
theorem OM(hl:laidOutB P=true){base:Nat}{sp':Nat->Bool}{W W':World}:∀(ts:List TypeId)(_:ts.all (λt=>P.readableRec t&&decide (t<P.types.size))=true)
 (vs:List Value) (ds:List (DataW H)) (ps:List MemPlace),DataW.TrodAll enc P W base (λ_=>true) true ts vs ds ps->(∀p∈ps,W.sameAt W' p)->(∀p∈ps,sp' p.block=true)->DataW.TrodAll enc P W' base sp' true ts vs ds ps
 |[],_,vs,ds,ps,h,_,_=>by
  cases vs<;>cases ds<;>simp[DataW.TrodAll]at h ⊢;exact h
 |t::ts,ht,vs,ds,ps,h,h1,h2=>by
  rw[apS,aoJ,aoJ]at ht;cases vs with
  |nil=>cases ds<;>simp[DataW.TrodAll]at h
  |cons v vs=>
   cases ds with
   |nil=>simp[DataW.TrodAll]at h
   |cons d ds=>
    obtain⟨a,b,g1,g2,rfl⟩:=h;exact⟨a,b,WideElems.Trod_stays hl ht.1.1 (ap1 ht.1.2) g1 (λp hp=>h1 p (apx _ hp)) (λp hp=>h2 p (apx _ hp)),
     OM hl ts ht.2 vs ds b g2 (λp hp=>h1 p (apT _ hp)) (λp hp=>h2 p (apT _ hp)),rfl⟩
theorem trodAll_length{base:Nat}{sp:Nat->Bool}{hd:Bool}{W:World}:∀(ts:List TypeId)(vs:List Value)(ds:List (DataW H))(ps:List MemPlace),DataW.TrodAll enc P W base sp hd ts vs ds ps->ds.length=ts.length
 |[],vs,ds,ps,h=>by cases vs<;>cases ds<;>simp[DataW.TrodAll]at h ⊢
 |t::ts,vs,ds,ps,h=>by
  cases vs with
  |nil=>cases ds<;>simp[DataW.TrodAll]at h
  |cons v vs=>
   cases ds with
   |nil=>simp[DataW.TrodAll]at h
   |cons d ds=>obtain⟨a,b,g1,g2,rfl⟩:=h;simp[trodAll_length ts vs ds b g2]
theorem aiM{fn:Func}{s:ChangeSpec}{apart fresh handsOn again:Bool}{W W':World}{args:Array Value}{ds gs:List (DataW H)}{before:List MemPlace}{tb:TypeId}
 (hvars:s.vars=[]) (hspec:∀l:List (DataW H),l.length=fn.params.toList.length->(s.fn H l).results=[.lit (.bool true)]/\(s.fn H l).args=l/\(s.fn H l).vars=[])
 (hres:fn.resultTypes=#[tb]) (hb:P.underlying tb=some .bool) (hl:laidOutB P=true) (hread:fn.params.toList.all (λt=>P.readableRec t&&decide (t<P.types.size))=true)
 (hW:DataW.Whole enc P fn.params.toList s.vars apart W args.toList ds gs before) (hos:W'.os=W.os) (hout:W'.output=W.output) (hheap:∀b,b<W.heap.size->W'.heap[b]? =W.heap[b]?):
 s.post enc P fn apart fresh handsOn again W args (.bool true) W':=by
 have hlt:=hW.lt;have hW0:=hW;obtain⟨p,q,hA,hV,hpq,hz,hn⟩:=hW;rw[hvars]at hV;have hg:gs=[]/\q=[]:=by
  cases gs with
  |nil=>exact⟨rfl,hV⟩
  |cons g gs=>simp[DataW.TrodVars]at hV
 obtain⟨rfl,rfl⟩:=hg;rw[ape]at hpq;subst hpq;have hlen:=trodAll_length _ _ _ _ hA;obtain⟨r1,r2,r3⟩:=hspec (ds++[]) (by simpa using hlen);rw[ape]at r1 r2 r3;have hsame:∀x∈before,W.sameAt W' x:=λx hx=>aiL hheap (hlt x hx);have R:∀(b:Nat)(sp:Nat->Bool)(hd:Bool),DataW.TrodAll enc P W' b sp hd fn.resultTypes.toList ((Value.bool true).resultList fn.resultTypes.size) [.lit (.bool true)] []:=by intro b sp hd;rw[hres];exact⟨[],[],⟨1,by simp[DataW.trod,Value.cells,hb]⟩,rfl,rfl⟩
 have A:∀sp:Nat->Bool,(∀x∈before,sp x.block=true)->DataW.TrodAll enc P W' 0 sp true fn.params.toList args.toList ds before:=λsp hsp=>OM hl _ hread _ _ _ hA hsame hsp;have hold:∀x∈before,(λb=>decide (b<W.heap.size)) x.block=true:=λx hx=>by simpa using hlt x hx
 refine⟨ds,[],before,[],before,[],hW0,?_,?_,?_,aiK hos hout hheap _,λ_=>⟨?_,.lit (.bool true)::ds,[],before,⟨before,[],?_,?_,by simp,?_,hn⟩,λx hx _=>hx⟩⟩
 .rw[ape,r1];exact R _ _ _
 .rw[ape,r2];exact A _ hold
 .rw[ape,r3,hvars];rfl
 .intro j t r h1 h2;rw[hres]at h1 h2
  match j with
  |0=>
   simp[Value.resultList]at h1 h2;subst h1 h2;simp[Value.okWide,hb,Go.Cell.okWide,Go.Cell.ok]
  |j+1=>simp at h1
 .exact ChangeShapes.trodAll_append (A _ (λ_ _=>rfl)) (R _ _ _)
 .rw[hvars];rfl
 .intro b off hp;have hbl:=hlt _ hp;have e:W'.frozen? ⟨b,off,none⟩=W.frozen? ⟨b,off,none⟩:=by unfold World.frozen?;simp only;rw[hheap b hbl]
  rw[e];exact hz b off hp
end Go.Fw
namespace Go.Fw
open Go
end Go.Fw
namespace Go.Fw
open Go
theorem TN{H:Type}{enc:TypeId×Value->H}{C:Checked}{G:jo}{os:Os}{f:FuncId}{fn:Func}{s:ChangeSpec}{conds:List PathCond}{apart fresh handsOn again:Bool}{tb:TypeId}{sh:List gU}{F:ja sh->Prop×Out}
 {X:World->Prop} (hX:∀w w':World,w.heap=w'.heap->X w->X w')
 (own:ownKnob C.prog.godebug=none) (started:os.Started) (noInit:C.prog.inits.idxOf? f=none) (hfn:C.prog.funcs[f]? =some fn)
 (witness:∃(w:World)(tape:Tape)(i:Input),w.os=os/\(w.forCall tape i).Shaped C.prog/\i.vars=[]/\Input.okWide C.prog (w.forCall tape i) .any w.heap.size f i/\
   ((s.pre enc C.prog fn conds apart (w.forCall tape i).memory i.args/\X (w.forCall tape i).memory)/\sizedMet enc C.prog fn (OpenSpec.ofChange s) apart (w.forCall tape i).memory i.args)/\({}:Assume).holds C.prog (lone (Frame.enter C.prog f i.args .normal) [] (w.forCall tape i)))
 (hcon:gu C.prog G f (uI sh F)) (hsh:GN C.prog fn.params.toList=some sh) (hF:∀x,Fz sh x->(F x).1/\(F x).2=Zf) (hG:∀w,X w->w.ShapedOpen C.prog->G.ok w)
 (hvars:s.vars=[]) (hspec:∀l:List (DataW H),l.length=fn.params.toList.length->(s.fn H l).results=[.lit (.bool true)]/\(s.fn H l).args=l/\(s.fn H l).vars=[])
 (hres:fn.resultTypes=#[tb]) (hb:C.prog.underlying tb=some .bool) (hl:laidOutB C.prog=true) (hread:fn.params.toList.all (λt=>C.prog.readableRec t&&decide (t<C.prog.types.size))=true):
 ReturnsInHanded {} C os f .any (λw args=>(s.pre enc C.prog fn conds apart w args/\X w)/\sizedMet enc C.prog fn (OpenSpec.ofChange s) apart w args) (s.post enc C.prog fn apart fresh handsOn again):=by
 refine returnsInHanded_of_calls own started noInit witness ?_;intro w tape i _ akk _ hok hpre _;obtain⟨_,_,_,fn',hfn',_,_,_,_,hval⟩:=hok;have e:fn'=fn:=Option.some.inj (hfn'.symm.trans hfn);subst e;obtain⟨⟨⟨ds,gs,before,hw,hc⟩,hx⟩,hz⟩:=hpre;have hW:=DataW.Whole.of_heap (w':=w.forCall tape i) (by rfl) hw;have hW0:=hW;obtain⟨p,q,hA,_⟩:=hW;refine(ahq hcon hsh hF (hG (w.forCall tape i) (hX _ _ (by rfl) hx) akk) hA hval).mono ?_;rintro e W' ⟨rfl,h1,h2,_,h3⟩;exact ChangeSpec.post_blind (aiM hvars hspec hres hb hl hread hW0 h1 h2 h3)
end Go.Fw
