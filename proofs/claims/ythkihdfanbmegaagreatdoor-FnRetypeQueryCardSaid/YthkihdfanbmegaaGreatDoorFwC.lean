import Derived.Test.YthkihdfanbmegaaGreatDoorFwD
import Derived.Test.YthkihdfanbmegaaGreatDoorFwB
import Derived.Test.YthkihdfanbmegaaGreatDoorFwA
import Derived.ChangeArms
import Derived.WideKeyArgs
import Derived.ChangeSame
import Derived.ChangeOld
import Derived.Handed
import Derived.IntWalk
import Derived.Laws.IdiomCopy
import Derived.ProofKit
namespace Go.Fw
open Go
variable {P:Program} {w0:World} {M:Nat->Prop} {T:Ext} {γ γ':Nat->Value} {st:St} {a:Act} {w w':World} {Θ:iE} {Γ:jy}
structure DX where
 aeJ:List Qi
 c:Shape
 v:Shape
structure Hints where
 own:Nat->Bool
 loops:Nat->Option DX
 cuts:Nat->Option DX
 upd:List Nat
 frz:Nat->List Pre
def uy:Code->Option Nat
 |.region id _ _=>some id
 |.seq x y=>match uy x with|some n=>some n|none=>uy y
 |.cond _ x y=>match uy x with|some n=>some n|none=>uy y
 |.block _ x|.loop x=>uy x
 |_=>none
def cutAt(H:Hints)(y:Code):Option DX:=match uy y with
 |some n=>H.cuts n
 |none=>none
def CP(Θ:iE)(Γ:jy)(H:Hints):Code->(Exit->St->Prop)->St->Prop
 |.skip,Q,st=>Q .normal st
 |.region id ops false,Q,st=>L6 (H.frz id) (runs Θ Γ H.own ops.toList (Q .normal) ops.toList) st
 |.region id ops true,Q,st=>L6 (H.frz id) (IB Θ Γ H.own H.upd ops.toList (Q .normal)) st
 |.seq x y,Q,st=>match cutAt H y with
  |none=>CP Θ Γ H x (λe s=>match e with|.normal=>CP Θ Γ H y Q s|e=>Q e s) st
  |some sp=>match sp.c.read (only sp.c sp.v st)with
   |some x0=>∃(J:sp.v.den->Prop),CP Θ Γ H x (λe s=>match e with
     |.normal=>match settles s sp.aeJ with
      |some s1=>match Nat.beq s1.n st.n,sp.c.read (only sp.c sp.v s1),sp.v.read (only sp.c sp.v s1)with
       |true,some x1,some y1=>x1=x0/\J y1
       |_,_,_=>False
      |none=>False
     |e=>Q e s) st/\∀y1,J y1->CP Θ Γ H y Q (joint st.n sp.c sp.v x0 y1)
   |none=>False
 |.cond c x y,Q,st=>match st.ev c with
  |.sv (.one (.bool b))=>cond b (CP Θ Γ H x Q st) (CP Θ Γ H y Q st)
  |_=>False
 |.block id c,Q,st=>CP Θ Γ H c (λe s=>match e with
  |.exit i=>match Nat.beq i id with|true=>Q .normal s|false=>Q (.exit i) s
  |e=>Q e s) st
 |.exit id,Q,st=>Q (.exit id) st
 |.ret,Q,st=>Q .ret st
 |.loop c,Q,st=>match uy c with
  |some n=>match H.loops n with
   |some sp=>match settles st sp.aeJ with
    |some s0=>match sp.c.read (only sp.c sp.v s0),sp.v.read (only sp.c sp.v s0)with
     |some x0,some y0=>∃(I:sp.v.den->Prop)(μ:sp.v.den->Nat),I y0/\∀y,I y->
       CP Θ Γ H c (λe s=>match e with
        |.normal=>match settles s sp.aeJ with
         |some s1=>match Nat.beq s1.n s0.n,sp.c.read (only sp.c sp.v s1),sp.v.read (only sp.c sp.v s1)with
          |true,some x1,some y1=>x1=x0/\I y1/\μ y1<μ y
          |_,_,_=>False
         |none=>False
        |e=>Q e s) (joint s0.n sp.c sp.v x0 y)
     |_,_=>False
    |none=>False
   |none=>False
  |none=>False
 |_,_,_=>False
theorem Qj{G:iR}(hE:oN P G Θ Γ w0 M)(hm:P.follows .mixedOrders=true)(H:Hints):∀(c:Code)(QA:Exit->St->Prop)(Q:Exit->Act->World->Prop)(st:St)(γ:Nat->Value)(a:Act)(w:World),
 Rel w0 M T γ st a w->CP Θ Γ H c QA st->(∀e s γ' a' w',QA e s->Rel w0 M T γ' s a' w'->Q e a' w')->c.wp P Q a w:=by
 intro c
 induction c with
 |skip=>intro QA Q st γ a w h ha hQ;exact wp_skip (hQ _ _ _ _ _ ha h)
 |region id ops d=>
  intro QA Q st γ a w h ha hQ;cases d with
  |false=>
   obtain⟨s0,γ0,h0,hk0⟩:=zL (K:=runs Θ Γ H.own ops.toList (QA .normal) ops.toList) (H.frz id) st γ h ha;exact abW hE h0 hk0 λs γ' a' w' hK hR=>hQ _ _ _ _ _ hK hR
  |true=>
   obtain⟨s0,γ0,h0,hk0⟩:=zL (K:=IB Θ Γ H.own H.upd ops.toList (QA .normal)) (H.frz id) st γ h ha;exact afY hE hm h0 hk0 λs γ' a' w' hK hR=>hQ _ _ _ _ _ hK hR
 |seq x y ihx ihy=>
  intro QA Q st γ a w h ha hQ;rw[CP]at ha;split at ha
  .refine wp_seq (ihx _ _ st γ a w h ha ?_);intro e s γ' a' w' hq hR;cases e<;>first|exact ihy _ _ s γ' a' w' hR hq hQ|exact hQ _ _ _ _ _ hq hR
  .next sp hsp=>
   split at ha
   .next x0 hx=>
    obtain⟨J,h1,h2⟩:=ha;refine wp_seq (ihx _ _ st γ a w h h1 ?_);intro e s γ' a' w' hq hR;cases e with
    |normal=>
     simp only at hq;split at hq
     .next s1 hs1=>
      split at hq
      .next x1 y1 hsn hx1 hy1=>obtain⟨rfl,hJ⟩:=hq;obtain⟨γ1,hR1⟩:=Rel.settles _ hR hs1;have hR2:=hR1.joint hx1 hy1;rw[alL hsn]at hR2;exact ihy _ _ _ γ1 a' w' hR2 (h2 _ hJ) hQ
      .exact hq.elim
     .exact hq.elim
    |_=>exact hQ _ _ _ _ _ hq hR
   .exact ha.elim
 |cond c x y ihx ihy=>
  intro QA Q st γ a w h ha hQ;rw[CP]at ha;split at ha
  .next b hb=>
   have hv:a.eval c=.bool b:=by have:=gI h c;rw[hb]at this;exact this
   refine wp_cond_split hv (λe=>?_) (λe=>?_)
   .subst e;exact ihx _ _ st γ a w h ha hQ
   .subst e;exact ihy _ _ st γ a w h ha hQ
  .exact ha.elim
 |block id c ih=>
  intro QA Q st γ a w h ha hQ;refine wp_block (ih _ _ st γ a w h ha ?_);intro e s γ' a' w' hq hR;cases e with
  |exit i=>
   simp only[Exit.inBlock];cases hb:Nat.beq i id with
   |true=>
    simp only[hb]at hq;rw[if_pos (alL hb)];exact hQ _ _ _ _ _ hq hR
   |false=>
    simp only[hb]at hq;rw[if_neg (by rintro rfl;simp at hb)];exact hQ _ _ _ _ _ hq hR
  |_=>exact hQ _ _ _ _ _ hq hR
 |loop c ih=>
  intro QA Q st γ a w h ha hQ;rw[CP]at ha;split at ha
  .split at ha
   .next sp hsp=>
    split at ha
    .next s0 hs0=>
     split at ha
     .next x0 y0 hx hy=>
      obtain⟨I,μ,h0,hI⟩:=ha;obtain⟨γ0,hR0⟩:=Rel.settles _ h hs0
      let J:sp.v.den->Act->World->Prop:=λy a' w'=>∃γ',Rel w0 M T γ' (joint s0.n sp.c sp.v x0 y) a' w'
      have key:∀(n:Nat)(y:sp.v.den),μ y=n->I y->∀a' w',J y a' w'->∀(b:Frame)(k:List Item)(cs:List Frame),
       ∃e a'' w'',Q e a'' w''/\Arrives P (lone (b.at a' (.code c:: .inLoop c::k)) cs w') b k cs e a'' w'':=by
       intro n
       induction n using Nat.strongRecOn with
       |_ n ihn=>
        intro y hμ hy' a' w' ⟨γ',hR⟩ b k cs;have hbody:=ih _ (Exit.then (λa2 w2=>∃y2,I y2/\μ y2<μ y/\J y2 a2 w2) Q) _ γ' a' w' hR (hI y hy') ?_
        .obtain⟨e,a1,w1,hq,harr⟩:=hbody b (.inLoop c::k) cs;cases e with
         |normal=>
          obtain⟨y2,hI2,hlt,hJ2⟩:=hq;obtain⟨e2,a2,w2,hq2,ajm⟩:=ihn (μ y2) (hμ▸hlt) y2 rfl hI2 a1 w1 hJ2 b k cs;exact⟨e2,a2,w2,hq2,.of_steps (Steps.trans harr (.one step_inLoop)) ajm⟩
         |exit id=>exact⟨_,a1,w1,hq,.pass (x:=.inLoop c) rfl (λ_ _=>.inl (by simp)) harr⟩
         |goto l=>exact⟨_,a1,w1,hq,.pass (x:=.inLoop c) rfl (λ_ _=>.inl (by simp)) harr⟩
         |ret=>exact⟨_,a1,w1,hq,.pass (x:=.inLoop c) rfl (λ_ _=>.inl (by simp)) harr⟩
         |panic ch=>exact⟨_,a1,w1,hq,.pass (x:=.inLoop c) rfl (λ_ _=>.inl (by simp)) harr⟩
         |outgrown=>exact⟨_,a1,w1,hq,.pass (x:=.inLoop c) rfl (λ_ _=>.inl (by simp)) harr⟩
        .intro e s γ2 a2 w2 hq hR2;cases e with
         |normal=>
          simp only at hq;split at hq
          .next s1 hs1=>
           split at hq
           .next x1 y1 hsn hx1 hy1=>obtain⟨rfl,hI1,hlt⟩:=hq;obtain⟨γ3,hR3⟩:=Rel.settles _ hR2 hs1;have hJ:=hR3.joint hx1 hy1;rw[alL hsn]at hJ;exact⟨y1,hI1,hlt,_,hJ⟩
           .exact hq.elim
          .exact hq.elim
         |_=>exact hQ _ _ _ _ _ hq hR2
      intro b k cs;obtain⟨e,a',w',hq,harr⟩:=key _ y0 rfl h0 a w ⟨_,hR0.joint hx hy⟩ b k cs;exact⟨e,a',w',hq,.of_steps (.one step_loop) harr⟩
     .exact ha.elim
    .exact ha.elim
   .exact ha.elim
  .exact ha.elim
 |rangeFunc f ps x y ihx ihy=>intro QA Q st γ a w h ha hQ;exact ha.elim
 |exit id=>intro QA Q st γ a w h ha hQ;exact wp_exit (hQ _ _ _ _ _ ha h)
 |scope c ih=>intro QA Q st γ a w h ha hQ;exact ha.elim
 |label l=>intro QA Q st γ a w h ha hQ;exact ha.elim
 |goto l=>intro QA Q st γ a w h ha hQ;exact ha.elim
 |ret=>intro QA Q st γ a w h ha hQ;exact wp_ret (hQ _ _ _ _ _ ha h)
 |refuse s=>intro QA Q st γ a w h ha hQ;exact ha.elim
def Arg.av:Arg->AV
 |.sv v=>.sv v
 |.kp cs=>.dN cs 0
 |.fn f caps=>.fn f caps
 |.own _ _ _|.ptr _=>.undef
def entry(n:Nat)(args:List Arg):St:=
 {n:=n,tmps:=λt=>match args[t]? with|some v=>v.av|none=>.undef,ah:=λ_=>none}
def IC(st:St)(o:Nat):Bool:=match st.ah o with|some (.arr _ _ _ _)=>true|_=>false
def Xa(Θ:iE)(st:St):ResultVar->Option SV
 |.tmp t=>match st.tmps t with|.sv v=>some v|_=>none
 |.cell t ty=>match Θ ty,st.tmps t with
  |some ti,.dK o off=>match st.ah o with
   |some (.var cs)=>jE ti cs off
   |_=>none
  |_,_=>none
def Gy(Θ:iE)(st:St):List ResultVar->Option (List SV)
 |[]=>some []
 |r::rs=>match Xa Θ st r,Gy Θ st rs with
  |some v,some vs=>some (v::vs)
  |_,_=>none
def outOf:SV->Bool×List dV
 |.one c=>(false,[.plain c])
 |.agg cs=>(true,cs.map .plain)
def outs:List SV->List (Bool×List dV)
 |[]=>[]
 |v::vs=>outOf (v.kill λ_=>true)::outs vs
def fin(Θ:iE)(rv:List ResultVar)(st:St):Option Out:=
 match Gy Θ (st.freeze (IC st)) rv with
 |some vs=>some ⟨outs vs,none⟩
 |none=>none
theorem IE:∀(k:Nat)(cs:List Cell),iV k (cs.map .plain)=(cs,[])
 |_,[]=>rfl
 |k,c::cs=>by simp only[al8,iV,IE (k+1) cs,dV.take,amG]
theorem ads(k:Nat)(v:SV):rH k (outOf v)=(v,[]):=by
 cases v with
 |one c=>rfl
 |agg cs=>simp only[rH,outOf,IE]
theorem aia(v:Value)(t:TypeId)(b off:Nat)(hv:v=.pointer (some ⟨b,off,none⟩)):Instr.loadAt t v=(do loadVar t (← asAddr v)):=by subst hv;rfl
def Ew(tmps:Array Value):ResultVar->Sem Value
 |.tmp t=>pure (tmps.getD t undef)
 |.cell x t=>do loadVar t (← asAddr (tmps.getD x undef))
theorem L9(fn:Func)(tmps:Array Value):results fn tmps=(do let vs ← fn.results.mapM (Ew tmps);pure (if h:vs.size=1 then vs[0]else .tuple vs)):=by unfold results;congr 1
theorem abY(hΘ:∀t ti,Θ t=some ti->jF P t ti)(h:Rel w0 M T γ st a w){r:ResultVar}{v:SV}(hf:Xa Θ st r=some v):
 ∃u,(Ew a.tmps r).run P w=.ok u w/\cO (aj w0 T γ st w) v u:=by
 cases r with
 |tmp t=>
  simp only[Xa]at hf;split at hf
  .next e=>cases hf;have:=h.tmps t;rw[e]at this;exact⟨_,rfl,this⟩
  .cases hf
 |cell x t=>
  simp only[Xa]at hf;split at hf
  .next ti o off ht hx=>
   split at hf
   .next cs ho=>have hv:=h.tmps x;rw[hx]at hv;obtain⟨b,cs',_,_,hv'⟩:=hv;obtain⟨u,hu,hr⟩:=Ir hΘ h ht (x:=.tmp x) (.inl ⟨o,off,cs,hx,ho,hf⟩);refine⟨u,?_,hr⟩;rw[Ew,← aia _ t b off hv'];exact hu
   .cases hf
  .cases hf
theorem Gz(hΘ:∀t ti,Θ t=some ti->jF P t ti)(h:Rel w0 M T γ st a w):∀(rs:List ResultVar)(vs:List SV),Gy Θ st rs=some vs->
 ∃us,(rs.mapM (Ew a.tmps)).run P w=.ok us w/\
  cZ (aj w0 T γ st w) vs us
 |[],vs,hf=>by cases hf;exact⟨[],rfl,trivial⟩
 |r::rs,vs,hf=>by
  rw[Gy]at hf;split at hf
  .next v vs' h1 h2=>cases hf;obtain⟨u,hu,hr⟩:=abY hΘ h h1;obtain⟨us,hus,hrs⟩:=Gz hΘ h rs vs' h2;refine⟨u::us,?_,hr,hrs⟩;rw[aoU,al1,hu];simp only[amr,al1,hus,amI]
  .cases hf
theorem cZ.length{X:V}:∀(cs:List SV)(vs:List Value),cZ X cs vs->vs.length=cs.length
 |[],[],_=>rfl
 |_::cs,_::vs,⟨_,h⟩=>by simp[cZ.length cs vs h]
 |[],_::_,H|_::_,[],H=>by cases H
theorem cZ.get{X:V}:∀(cs:List SV)(vs:List Value)(i:Nat)(c:SV),cZ X cs vs->cs[i]? =some c->∃v,vs[i]? =some v/\cO X c v
 |[],_,_,_,_,h=>by simp at h
 |c::cs,v::vs,0,d,⟨h1,_⟩,h=>by simp at h;subst h;exact⟨v,rfl,h1⟩
 |c::cs,v::vs,i+1,d,⟨_,h2⟩,h=>by
  obtain⟨u,hu,hr⟩:=cZ.get cs vs i d h2 (by simpa using h);exact⟨u,by simpa using hu,hr⟩
 |_::_,[],_,_,H,_=>by cases H
theorem lJ.length{X:V}:∀(cs:List Arg)(vs:List Value),lJ X cs vs->vs.length=cs.length
 |[],[],_=>rfl
 |_::cs,_::vs,⟨_,h⟩=>by simp[lJ.length cs vs h]
 |[],_::_,H|_::_,[],H=>by cases H
theorem lJ.get{X:V}:∀(cs:List Arg)(vs:List Value)(i:Nat)(c:Arg),lJ X cs vs->cs[i]? =some c->∃v,vs[i]? =some v/\nC X c v
 |[],_,_,_,_,h=>by simp at h
 |c::cs,v::vs,0,d,⟨h1,_⟩,h=>by simp at h;subst h;exact⟨v,rfl,h1⟩
 |c::cs,v::vs,i+1,d,⟨_,h2⟩,h=>by
  obtain⟨u,hu,hr⟩:=lJ.get cs vs i d h2 (by simpa using h);exact⟨u,by simpa using hu,hr⟩
 |_::_,[],_,_,H,_=>by cases H
theorem nC.av{X:V}:∀(c:Arg)(v:Value),nC X c v->aP X c.av v
 |.sv _,_,h|.kp _,_,h|.fn _ _,_,h=>h
 |.own _ _ _,_,h|.ptr _,_,h=>h.elim
theorem af0{args:List Arg}{vs:Array Value}{S:Nat->Prop}(n:Nat)(hn:args.length<=n)
 (h:lJ ⟨w,w.heap.size,S,λ_=>undef,λ_=>none⟩ args vs.toList):
 Rel w (λ_=>False) ⟨S,λ_=>none,λ_ _ h=>by cases h⟩ (λ_=>undef) (entry n args) {tmps:=vs++Array.replicate (n-vs.size) undef,defers:=[]} w:=by
 have hl:vs.size=args.length:=by simpa using lJ.length _ _ h
 refine⟨λ_ h=>h.elim,rfl,?_,rfl,rfl,rfl,alY _,λ_ _ _=>rfl,λt=>?_,(λo x hx=>by cases hx),(λo x b hx=>by cases hx),(λo x p y b hx=>by cases hx),(λo v cs hN=>by cases hN)⟩
 .simp[entry];omega
 .simp only[entry];cases ha:args[t]? with
  |none=>trivial
  |some v=>
   obtain⟨u,hu,hr⟩:=lJ.get _ _ t v h ha;have:(vs++Array.replicate (n-vs.size) undef).getD t undef=u:=by
    have hlt:t<args.length:=by
     rcases al4 t args.length with h'|h'
     .exact h'
     .rw[amz h']at ha;cases ha
    have hlt':t<vs.size:=by omega
    rw[anq,amW hlt'];have:vs[t]? =some u:=by simpa using hu
    rw[this];rfl
   rw[this];exact nC.av v u hr
end Go.Fw
namespace Go.Fw
def codeOf(fn:Func):Code:=match fn.body with|some c=>c|none=>.skip
def Xb:List (Nat×TI)->iE
 |[],_=>none
 |(t,x)::r,i=>match Nat.beq i t with|true=>some x|false=>Xb r i
def Ip:List (Nat×EM)->jy
 |[],_=>none
 |(t,x)::r,i=>match Nat.beq i t with|true=>some x|false=>Ip r i
def aeK:List (Nat×DX)->Nat->Option DX
 |[],_=>none
 |(t,x)::r,i=>match Nat.beq i t with|true=>some x|false=>aeK r i
def ahL:List (Nat×List Pre)->Nat->List Pre
 |[],_=>[]
 |(n,z)::r,i=>match Nat.beq i n with|true=>z|false=>ahL r i
def hints(own:List Nat)(l c:List (Nat×DX))(u:List Nat)(z:List (Nat×List Pre)):Hints:=⟨aJ own,aeK l,aeK c,u,ahL z⟩
end Go.Fw
namespace Go.Fw
open Go
variable {P:Program} {Θ:iE} {Γ:jy}
inductive ny where
 |one (c:fE)
 |agg (l:List fE)
@[reducible] def ny.den:ny->Type
  |.one c=>c.den
  |.agg l=>jK l
def ny.val:(s:ny)->s.den->SV
 |.one c,x=>.one (c.cell x)
 |.agg l,x=>.agg (fM l x)
def ny.read:(s:ny)->SV->Option s.den
 |.one c,.one x=>c.read x
 |.agg l,.agg xs=>iW l xs
 |_,_=>none
theorem ny.weak{X:V}(s:ny)(x:SV)(d:s.den)(v:Value)(hr:s.read x=some d)(hv:cO X x v):cO X (s.val d) v:=by
 unfold ny.read at hr;split at hr
 .exact fE.weak _ _ _ _ hr hv
 .obtain⟨vs,e,h⟩:=hv;exact⟨vs,e,Ar _ _ _ _ hr h⟩
 .cases hr
@[reducible] def oK:List ny->Type
  |[]=>Unit
  |s::r=>s.den×oK r
def oG:(l:List ny)->oK l->List SV
 |[],_=>[]
 |s::r,x=>s.val x.1::oG r x.2
def J8:(l:List ny)->List SV->Option (oK l)
 |[],[]=>some ()
 |s::r,x::xs=>match s.read x,J8 r xs with
  |some a,some b=>some (a,b)
  |_,_=>none
 |_,_=>none
theorem af2{X:V}:∀(l:List ny)(xs:List SV)(d:oK l)(vs:List Value),J8 l xs=some d->cZ X xs vs->cZ X (oG l d) vs
 |[],[],_,_,_,hv=>hv
 |s::r,x::xs,d,vs,hr,hv=>by
  rw[J8]at hr;split at hr
  .next a b h1 h2=>
   cases hr;cases vs with
   |nil=>cases hv
   |cons v vs=>exact⟨ny.weak s x a v h1 hv.1,af2 r xs b vs h2 hv.2⟩
  .cases hr
 |[],_::_,_,_,hr,_=>by simp[J8]at hr
 |_::_,[],_,_,hr,_=>by simp[J8]at hr
mutual
def CT.oO:(c:CT)->c.den->Prop
 |.int k,(n:Int)=>k.min<=n/\n<=k.max
 |.bool,_=>True
 |.str,(s:Bytes)=>s.length<=maxLen
 |.sl _ r,(l:List r.den)=>l.length<=maxLen/\∀x∈l,r.oO x
def au.oO:(r:au)->r.den->Prop
 |.nil,_=>True
 |.cons c r,x=>c.oO x.1/\r.oO x.2
end
mutual
theorem iw.oO{h:Array Obj}{S:Nat->Prop}:∀(c:CT)(v:Value)(x:c.den),iw h S c v x->c.oO x
 |.int k,v,(n:Int),H=>by rw[iw]at H;rw[CT.oO];exact H.2
 |.bool,v,(b:Bool),H=>by rw[CT.oO];trivial
 |.str,v,(s:Bytes),H=>by rw[iw]at H;rw[CT.oO];exact H.2
 |.sl e r,v,(l:List r.den),H=>by
  rw[iw]at H;rw[CT.oO];refine⟨H.1,λx hx=>?_⟩;obtain⟨i,hi,rfl⟩:=an1.1 hx;rcases H.2 with⟨hnil,_⟩|⟨b,off,cap,cs,t,fz,_,_,_,_,hr⟩
  .subst hnil;simp at hi
  .exact aS.oO r _ _ (hr i _ (alO hi))
theorem aS.oO{h:Array Obj}{S:Nat->Prop}:∀(r:au)(vs:List Value)(x:r.den),aS h S r vs x->r.oO x
 |.nil,vs,_,H=>by rw[au.oO];trivial
 |.cons c r,vs,(x,y),H=>by rw[aS]at H;obtain⟨v,vs',_,h1,h2⟩:=H;rw[au.oO];exact⟨iw.oO c v x h1,aS.oO r vs' y h2⟩
end
def fE.oO:(c:fE)->c.den->Prop
 |.int k,(n:Int)=>k.min<=n/\n<=k.max
 |.str,(s:Bytes)=>s.length<=maxLen
 |.sl _ r _,(l:List r.den)=>l.length<=maxLen/\∀x∈l,r.oO x
 |_,_=>True
def SH:(l:List fE)->jK l->Prop
 |[],_=>True
 |c::r,x=>c.oO x.1/\SH r x.2
def ny.oO:(s:ny)->s.den->Prop
 |.one c,x=>c.oO x
 |.agg l,x=>SH l x
theorem fE.SI{X:V}(c:fE)(x:c.den)(v:Value)(h:aO X (c.cell x) v):c.oO x:=by
 cases c with
 |int k=>exact h.2
 |str=>exact h.2
 |sl e r fr=>
  have h':iw X.w.heap (X.bG fr) (.sl e r) v x:=h;have:=iw.oO (.sl e r) v x h';rw[CT.oO]at this;exact this
 |_=>trivial
theorem Ey{X:V}:∀(l:List fE)(x:jK l)(vs:List Value),ai X (fM l x) vs->SH l x
 |[],_,_,_=>trivial
 |c::r,x,v::vs,h=>⟨fE.SI c x.1 v h.1,Ey r x.2 vs h.2⟩
 |_::_,_,[],h=>by cases h
inductive gm where
 |v (s:ny)
 |kp (l:List fE)
 |fn (f:FuncId) (l:List (List fE))
@[reducible] def gm.den:gm->Type
  |.v s=>s.den
  |.kp l=>jK l
  |.fn _ l=>yu l
def gm.val:(s:gm)->s.den->Arg
 |.v s,x=>.sv (s.val x)
 |.kp l,x=>.kp (fM l x)
 |.fn f l,x=>.fn f (Et l x)
def gm.read:(s:gm)->Arg->Option s.den
 |.v s,.sv x=>s.read x
 |.kp l,.kp xs=>iW l xs
 |.fn f l,.fn g xs=>match Nat.beq f g with|true=>Bj l xs|false=>none
 |_,_=>none
theorem gm.weak{X:V}(s:gm)(x:Arg)(d:s.den)(v:Value)(hr:s.read x=some d)(hv:nC X x v):nC X (s.val d) v:=by
 unfold gm.read at hr;split at hr
 .exact ny.weak _ _ _ _ hr hv
 .obtain⟨b,e,hk⟩:=hv;exact⟨b,e,aac hr hk⟩
 .split at hr
  .next hb=>obtain⟨us,e,hk⟩:=hv;rw[gm.val,alL hb];exact⟨us,e,Qg _ _ _ _ hr hk⟩
  .cases hr
 .cases hr
@[reducible] def jl:List gm->Type
  |[]=>Unit
  |s::r=>s.den×jl r
def qI:(l:List gm)->jl l->List Arg
 |[],_=>[]
 |s::r,x=>s.val x.1::qI r x.2
def CQ:(l:List gm)->List Arg->Option (jl l)
 |[],[]=>some ()
 |s::r,x::xs=>match s.read x,CQ r xs with
  |some a,some b=>some (a,b)
  |_,_=>none
 |_,_=>none
theorem Xc{X:V}:∀(l:List gm)(xs:List Arg)(d:jl l)(vs:List Value),CQ l xs=some d->lJ X xs vs->lJ X (qI l d) vs
 |[],[],_,_,_,hv=>hv
 |s::r,x::xs,d,vs,hr,hv=>by
  rw[CQ]at hr;split at hr
  .next a b h1 h2=>
   cases hr;cases vs with
   |nil=>cases hv
   |cons v vs=>exact⟨gm.weak s x a v h1 hv.1,Xc r xs b vs h2 hv.2⟩
  .cases hr
 |[],_::_,_,_,hr,_=>by simp[CQ]at hr
 |_::_,[],_,_,hr,_=>by simp[CQ]at hr
theorem Oc:∀(l:List gm)(d:jl l),(qI l d).length=l.length
 |[],_=>rfl
 |_::r,d=>by simp[qI,Oc r d.2]
def YX:(l:List (List fE))->yu l->Prop
 |[],_=>True
 |c::r,x=>SH c x.1/\YX r x.2
def gm.oO:(s:gm)->s.den->Prop
 |.v s,x=>s.oO x
 |.kp l,x=>SH l x
 |.fn _ l,x=>YX l x
def FD:(l:List gm)->jl l->Prop
 |[],_=>True
 |s::r,x=>s.oO x.1/\FD r x.2
theorem Un{X:V}:∀(l:List (List fE))(x:yu l)(us:List Value),dO X (Et l x) us->YX l x
 |[],_,_,_=>trivial
 |c::r,x,u::us,h=>by
  obtain⟨⟨b,hu,arr,t,fz,hf,hh,hc⟩,h2⟩:=h;exact⟨Ey c x.1 _ hc,Un r x.2 us h2⟩
 |_::_,_,[],h=>by cases h
theorem zh{X:V}:∀(l:List gm)(x:jl l)(vs:List Value),lJ X (qI l x) vs->FD l x
 |[],_,_,_=>trivial
 |.v (.one c)::r,x,v::vs,h=>⟨fE.SI c x.1 v h.1,zh r x.2 vs h.2⟩
 |.v (.agg l)::r,x,v::vs,h=>by
  obtain⟨ws,hv,hc⟩:=h.1;exact⟨Ey l x.1 _ hc,zh r x.2 vs h.2⟩
 |.kp l::r,x,v::vs,h=>by
  obtain⟨b,hu,arr,t,fz,hf,hh,hc⟩:=h.1;exact⟨Ey l x.1 _ hc,zh r x.2 vs h.2⟩
 |.fn f l::r,x,v::vs,h=>by
  obtain⟨us,hv,hk⟩:=h.1;exact⟨Un l x.1 _ hk,zh r x.2 vs h.2⟩
 |_::_,_,[],h=>by cases h
def CS(sh:List gm)(F:jl sh->Prop×Out):Il:=λargs=>
 match CQ sh args with
 |some x=>some (F x)
 |none=>none
def xq:List SV->List (Bool×List dV)
 |[]=>[]
 |v::vs=>outOf v::xq vs
theorem J9:∀(k:Nat)(vs:List SV),fV k (xq vs)=(vs,[])
 |_,[]=>rfl
 |k,v::vs=>by simp only[xq,fV,ads,J9,amG]
def Xd(Θ:iE)(rv:List ResultVar)(dh:List ny)(K:oK dh->Prop)(e:Exit)(st:St):Prop:=
 match e with
 |.normal|.ret=>match Gy Θ (st.freeze (IC st)) rv with
  |some vs=>match J8 dh (vs.map (SV.kill λ_=>true))with
   |some d=>K d
   |none=>False
  |none=>False
 |_=>False
theorem aib{G:iR}(hE:EnvB P G Θ Γ)(hm:P.follows .mixedOrders=true){f:FuncId}{fn:Func}{c:Code}(hf:P.funcs[f]? =some fn)(hb:fn.body=some c)(H:Hints){con:Il}{dh:List ny}
 (hwalk:∀args p out,con args=some (p,out)->p->Nat.ble args.length fn.ntmps=true/\∃d:oK dh,out=⟨xq (oG dh d),none⟩/\CP Θ Γ H c (Xd Θ fn.results.toList dh λy=>y=d) (entry fn.ntmps args)):lT P G f con:=by
 intro args p out k S vs w hcon hp hG hrep;obtain⟨hn,d,hout,hw⟩:=hwalk args p out hcon hp;subst hout;have hn':args.length<=fn.ntmps:=by simpa[anY]using hn
 refine calls_of_wp hf hb (Qj ⟨hE,hG,λb hb=>hb.elim⟩ hm H c _ _ _ _ _ _ (af0 (S:=S) fn.ntmps hn' hrep) hw ?_);have hret:∀s γ' a' w',Xd Θ fn.results.toList dh (λy=>y=d) .ret s->Rel w (λ_=>False) ⟨S,λ_=>none,λ_ _ h=>by cases h⟩ γ' s a' w'->bodyPost P fn (λe w'=>∃v vals,e=.returned v/\w'.os=w.os/\w'.tape=w.tape/\w'.output=w.output/\w.heap.size<=w'.heap.size/\
  (∀b,b<w.heap.size->w'.heap[b]? =w.heap[b]?)/\
  aP ⟨w',w.heap.size,S,vals,look (Out.take k ⟨xq (oG dh d),none⟩).2⟩ (Out.take k ⟨xq (oG dh d),none⟩).1 v/\
  (∀o x,look (Out.take k ⟨xq (oG dh d),none⟩).2 o=some x->aX ⟨w',w.heap.size,S,vals,look (Out.take k ⟨xq (oG dh d),none⟩).2⟩ o x/\∀b,blk (vals o)=some b->w.heap.size<=b/\b<w'.heap.size)/\
  (∀o x q y b,look (Out.take k ⟨xq (oG dh d),none⟩).2 o=some x->look (Out.take k ⟨xq (oG dh d),none⟩).2 q=some y->o≠q->blk (vals o)=some b->blk (vals q)≠some b)) .ret a' w':=by
  intro s γ' a' w' he hR;refine⟨hR.defers,?_⟩;simp only[Xd]at he;split at he
  .next svs hvs=>
   split at he
   .next y hy=>
    subst he;have hRf:=hR.freeze (IC s);obtain⟨us,hus,hrs⟩:=Gz hE.types hRf _ _ hvs;have hk0:=cZ.kill (λ_=>true) hRf svs us hrs;have hk:=af2 dh _ y us hy hk0;have htake:Out.take k ⟨xq (oG dh y),none⟩=(match oG dh y with|[v]=>.sv v|l=>.jX l,[]):=by unfold Out.take;simp only[J9];rcases oG dh y with _|⟨v,_|⟨v2,r⟩⟩<;>rfl
    have hmap:(fn.results.mapM (Ew a'.tmps)).run P w'=.ok us.toArray w':=by rw[an7,Sem.run_map,hus];rfl
    refine⟨if h:us.toArray.size=1 then us.toArray[0]else .tuple us.toArray,?_,_,γ',rfl,hR.os,hR.tape,hR.output,hR.grow,λb hb=>hR.kept b hb (λh=>h),?_,?_,?_⟩
    .rw[L9,al1,hmap];simp only[amr,amI]
    .rw[htake];have hl:=cZ.length _ _ hk
     match hm:oG dh y,us,hk,hl with
     |[v],[u],hk,_=>exact hk.1
     |[],[],hk,_=>exact⟨_,by simp,hk⟩
     |v::v2::r,u::u2::us,hk,hl=>exact⟨_,by simp,hk⟩
     |[],_::_,hk,h4|_::_,[],hk,h4|[_],_::_::_,hk,h4|_::_::_,[_],hk,h4=>simp at h4
    .intro o x hx;rw[htake]at hx;cases hx
    .intro o x q y b hx;rw[htake]at hx;cases hx
   .exact he.elim
  .exact he.elim
 intro e s γ' a' w' he hR;cases e with
 |normal=>exact hret s γ' a' w' he hR
 |ret=>exact hret s γ' a' w' he hR
 |_=>exact he.elim
def vG(sh:List gm)(dh:List ny)(F:jl sh->Prop×oK dh):Il:=CS sh λx=>((F x).1,⟨xq (oG dh (F x).2),none⟩)
theorem YZ{G:iR}(hE:EnvB P G Θ Γ)(hm:P.follows .mixedOrders=true){f:FuncId}{fn:Func}{c:Code}(hf:P.funcs[f]? =some fn)(hb:fn.body=some c)(H:Hints)
 {sh:List gm} {dh:List ny} {F:jl sh->Prop×oK dh} (hn:Nat.ble sh.length fn.ntmps=true)
 (hwalk:∀x,FD sh x->(F x).1->CP Θ Γ H c (Xd Θ fn.results.toList dh λy=>y=(F x).2) (entry fn.ntmps (qI sh x))):lT P G f (vG sh dh F):=by
 have base:∀x,FD sh x->lT P G f (λargs=>@ite _ (args=qI sh x) (Classical.propDecidable _) (some ((F x).1,⟨xq (oG dh (F x).2),none⟩)) none):=by
  intro x hin;refine aib (dh:=dh) hE hm hf hb H ?_;intro args p out hcon hp;split at hcon
  .next e=>
   have hF:((F x).1,(⟨xq (oG dh (F x).2),none⟩:Out))=(p,out):=by simpa using hcon
   have h1:(F x).1=p:=congrArg Prod.fst hF;have h2:(⟨xq (oG dh (F x).2),none⟩:Out)=out:=congrArg Prod.snd hF;have:=hwalk x hin (by rw[h1];exact hp);rw[e];exact⟨by rw[Oc];exact hn,(F x).2,h2.symm,this⟩
  .cases hcon
 intro args p out k S vs w hcon hp hG hrep;unfold vG CS at hcon;split at hcon
 .next x hx=>have hv:=Xc sh args x vs.toList hx hrep;exact base x (zh sh x _ hv) (qI sh x) p out k S vs w (by simp only[if_true];exact hcon) hp hG hv
 .cases hcon
inductive RC where
 |c (s:fE)
 |own (e:TypeId) (r:au) (fr:Bool)
@[reducible] def RC.den:RC->Type
  |.c s=>s.den
  |.own _ r _=>List r.den
@[reducible] def Xe:List RC->Type
  |[]=>Unit
  |c::r=>c.den×Xe r
def RC.aeL:(c:RC)->c.den->dV
 |.c s,x=>.plain (s.cell x)
 |.own e r fr,l=>.own e r l fr
def Y0:(l:List RC)->Xe l->List dV
 |[],_=>[]
 |c::r,x=>c.aeL x.1::Y0 r x.2
inductive qx where
 |one (c:RC)
 |agg (l:List RC)
@[reducible] def qx.den:qx->Type
  |.one c=>c.den
  |.agg l=>Xe l
@[reducible] def uJ:List qx->Type
  |[]=>Unit
  |s::r=>s.den×uJ r
def qx.out:(s:qx)->s.den->Bool×List dV
 |.one c,x=>(false,[c.aeL x])
 |.agg l,x=>(true,Y0 l x)
def gX:(l:List qx)->uJ l->List (Bool×List dV)
 |[],_=>[]
 |s::r,x=>s.out x.1::gX r x.2
def RC.name:RC->Cell->Option Nat
 |.own _ _ _,.ref o=>some o
 |_,_=>none
def Y3:List RC->List Cell->List (Option Nat)
 |c::r,x::xs=>c.name x::Y3 r xs
 |_,_=>[]
def qx.names:qx->SV->List (Option Nat)
 |.one c,.one x=>[c.name x]
 |.agg l,.agg xs=>Y3 l xs
 |_,_=>[]
def yw:List qx->List SV->List (Option Nat)
 |s::r,x::xs=>s.names x++yw r xs
 |_,_=>[]
def RC.read(st:St):(c:RC)->Cell->Option c.den
 |.c s,x=>match x.refs with|[]=>s.read x|_=>none
 |.own e r fr,.ref o=>match st.ah o with
  |some (.arr f s l g)=>match Nat.beq e f&&Gx fr g with
   |true=>if h:s.beq r=true then some (qi h l)else none
   |false=>none
  |_=>none
 |.own _ r _,.nil=>match Nat.ble 1 r.len with|true=>some []|false=>none
 |_,_=>none
def Ko(st:St):(l:List RC)->List Cell->Option (Xe l)
 |[],[]=>some ()
 |c::r,x::xs=>match c.read st x,Ko st r xs with
  |some a,some b=>some (a,b)
  |_,_=>none
 |_,_=>none
def qx.read(st:St):(s:qx)->SV->Option s.den
 |.one c,.one x=>c.read st x
 |.agg l,.agg xs=>Ko st l xs
 |_,_=>none
def zi(st:St):(l:List qx)->List SV->Option (uJ l)
 |[],[]=>some ()
 |s::r,x::xs=>match s.read st x,zi st r xs with
  |some a,some b=>some (a,b)
  |_,_=>none
 |_,_=>none
inductive fO where
 |p (s:gm)
 |own (e:TypeId) (r:au)
 |ptr (l:List fE)
@[reducible] def fO.den:fO->Type
  |.p s=>s.den
  |.own _ r=>List r.den
  |.ptr l=>jK l
def fO.mode:fO->Mode
 |.p _=>.val
 |.own _ _=>.own
 |.ptr _=>.ptr
def fO.val:(s:fO)->s.den->Arg
 |.p s,x=>s.val x
 |.own e r,l=>.own e r l
 |.ptr l,x=>.ptr (fM l x)
def fO.read:(s:fO)->Arg->Option s.den
 |.p s,x=>s.read x
 |.own e r,.own f s l=>match Nat.beq e f with
  |true=>if h:s.beq r=true then some (qi h l)else none
  |false=>none
 |.ptr l,.ptr cs=>iW l cs
 |_,_=>none
@[reducible] def kR:List fO->Type
  |[]=>Unit
  |s::r=>s.den×kR r
def o8:(l:List fO)->kR l->List Arg
 |[],_=>[]
 |s::r,x=>s.val x.1::o8 r x.2
def jA:(l:List fO)->List Arg->Option (kR l)
 |[],[]=>some ()
 |s::r,x::xs=>match s.read x,jA r xs with
  |some a,some b=>some (a,b)
  |_,_=>none
 |_,_=>none
@[reducible] def rY:List fO->Type
  |[]=>Unit
  |.ptr l::r=>jK l×rY r
  |.p _::r|.own _ _::r=>rY r
def gY:(l:List fO)->rY l->List Eff
 |[],_=>[]
 |.ptr l::r,x=>.var (fM l x.1)::gY r x.2
 |.p _::r,x|.own _ _::r,x=>.lose::gY r x
def Ez(st:St):(i:Nat)->(l:List fO)->Option (rY l)
 |_,[]=>some ()
 |i,.ptr l::r=>match st.ah (i*64+48),Ez st (i+1) r with
  |some (.var cs),some b=>match cs.flatMap Cell.refs,iW l cs with
   |[],some a=>some (a,b)
   |_,_=>none
  |_,_=>none
 |i,.p _::r|i,.own _ _::r=>Ez st (i+1) r
def Arg.avX(i:Nat):Arg->AV
 |.own _ _ _=>.sv (.one (.ref (i*64+49)))
 |.ptr _=>.dK (i*64+48) 0
 |a=>a.av
def Aw(n:Nat)(args:List Arg):St:=
 {n:=n,tmps:=λt=>match args[t]? with|some v=>v.avX t|none=>.undef,ah:=dL args}
def Xf(st:St)(W:List (Option Nat))(o:Nat):Bool:=IC st o&&!(PN o W)
def abe(Θ:iE)(rv:List ResultVar)(sh:List fO)(dh:List qx)(K:uJ dh×rY sh->Prop)(e:Exit)(st:St):Prop:=
 match e with
 |.normal|.ret=>match Gy Θ st rv with
  |some svs=>match Gy Θ (st.freeze (Xf st (yw dh svs))) rv with
   |some vs=>match vK (yw dh vs),zi (st.freeze (Xf st (yw dh svs))) dh vs,Ez (st.freeze (Xf st (yw dh svs))) 0 sh with
    |true,some d,some b=>K (d,b)
    |_,_,_=>False
   |none=>False
  |none=>False
 |_=>False
def PG(sh:List fO)(dh:List qx)(F:kR sh->Prop×(uJ dh×rY sh->Prop)):LD:=λargs=>
 match jA sh args with
 |some x=>some ((F x).1,⟨uJ dh×rY sh,(F x).2,λt=>⟨gX dh t.1,none⟩,λt=>gY sh t.2⟩)
 |none=>none
def Xg(sh:List fO):List Mode:=sh.map fO.mode
end Go.Fw
namespace Go.Fw
open Go
variable {P:Program} {w0:World} {M:Nat->Prop} {T:Ext} {γ γ':Nat->Value} {st:St} {a:Act} {w w':World} {Θ:iE} {Γ:jy}
def Y4(args:List Arg)(γ:Nat->Value)(o:Nat):Option Value:=match dL args o with|some (.var _)=>some (γ o)|_=>none
theorem agW{args:List Arg}{o:Nat}{cs:List Cell}(h:dL args o=some (.var cs)):o%64=48:=by
 unfold dL at h;split at h
 .split at h<;>cases h
 .split at h
  .next hm=>exact alL hm
  .cases h
 .cases h
def Qk(args:List Arg)(γ:Nat->Value)(S:Nat->Prop):Ext where
 S:=λb=>S b\/wZ (dL args) γ b
 N:=Y4 args γ
 n48:=by
  intro p v h;unfold Y4 at h;split at h
  .next cs hc=>exact agW hc
  .cases h
theorem uS.get{X:V}:∀(as:List Arg)(vs:List Value)(i:Nat),uS X i as vs->as.length=vs.length/\∀(j:Nat)(b:Arg),as[j]? =some b->∃v,vs[j]? =some v/\Gq X (i+j) b v
 |[],[],_,_=>⟨rfl,λj b h=>by simp at h⟩
 |x::as,v::vs,i,⟨h1,h2⟩=>by
  obtain⟨g1,g2⟩:=uS.get as vs (i+1) h2;refine⟨by simp[g1],λj b hb=>?_⟩;cases j with
  |zero=>simp at hb;subst hb;exact⟨v,rfl,h1⟩
  |succ j=>
   obtain⟨u,hu,hr⟩:=g2 j b (by simpa using hb);exact⟨u,by simpa using hu,by rw[show i+(j+1)=i+1+j by omega];exact hr⟩
 |[],_::_,_,H|_::_,[],_,H=>by cases H
theorem Gq.av{X:V}(i:Nat):∀(c:Arg)(v:Value),Gq X i c v->aP X (c.avX i) v
 |.own _ _ _,_,h=>h
 |.ptr _,_,h=>h
 |.sv _,_,h|.kp _,_,h|.fn _ _,_,h=>h
theorem Xh{args:List Arg}{vs:Array Value}{S:Nat->Prop}(n:Nat)(hn:args.length<=n)
 (h:uS ⟨w,w.heap.size,S,γ,dL args⟩ 0 args vs.toList)
 (ho:∀o x,dL args o=some x->aX ⟨w,w.heap.size,S,γ,dL args⟩ o x/\∀b,blk (γ o)=some b->b<w.heap.size)
 (hs:∀o x q y b,dL args o=some x->dL args q=some y->o≠q->blk (γ o)=some b->blk (γ q)≠some b):
 Rel w (wZ (dL args) γ) (Qk args γ S) γ (Aw n args) {tmps:=vs++Array.replicate (n-vs.size) undef,defers:=[]} w:=by
 obtain⟨hl0,hget⟩:=uS.get _ _ 0 h;have hl:vs.size=args.length:=by simpa using hl0.symm
 have le:V.le ⟨w,w.heap.size,S,γ,dL args⟩ ⟨w,w.heap.size,(Qk args γ S).S,γ,dL args⟩:=
  ⟨alY _,λb hb=>⟨⟨hb.1,λhlt=>.inl (hb.2.1 hlt),hb.2.2⟩,rfl⟩,λo cs hx=>⟨⟨cs,hx⟩,rfl⟩,λo e r l fr hx=>⟨⟨l,fr,hx⟩,rfl⟩⟩
 refine⟨λb hb=>.inr hb,rfl,?_,rfl,rfl,rfl,alY _,λ_ _ _=>rfl,λt=>?_,λo x hx=>aX.mono le o x (λ_ _=>rfl) rfl (ho o x hx).1,λo x b hx hb=>⟨(ho o x hx).2 b hb,.inr ⟨o,x,hx,hb⟩⟩,λo x p y b hx hy hop hb=>hs o x p y b hx hy hop hb,λo v cs hN hx=>?_⟩
 .simp[Aw];omega
 .simp only[Aw];cases ha:args[t]? with
  |none=>trivial
  |some v=>
   obtain⟨u,hu,hr⟩:=hget t v ha;have:(vs++Array.replicate (n-vs.size) undef).getD t undef=u:=by
    have hlt:t<args.length:=by
     rcases al4 t args.length with h'|h'
     .exact h'
     .rw[amz h']at ha;cases ha
    have hlt':t<vs.size:=by omega
    rw[anq,amW hlt'];have:vs[t]? =some u:=by simpa using hu
    rw[this];rfl
   rw[this];rw[al9]at hr;exact aP.mono le _ _ (Gq.av t v u hr)
 .have hx':dL args o=some (.var cs):=hx;have hN':Y4 args γ o=some v:=hN;unfold Y4 at hN';rw[hx']at hN';exact Option.some.inj hN'
def AW(a a':Arg):Prop:=
 (∃e r l,a=.own e r l/\a'=.own e r l)\/(∃cs cs',a=.ptr cs/\a'=.ptr cs'/\∀(X:V) vs,ai X cs vs->ai X cs' vs)\/
 ((∀(X:V) v,aP X a.av v->aP X a'.av v)/\(∀i,a.avX i=a.av)/\(∀i,a'.avX i=a'.av)/\(∀e r l,a≠ .own e r l)/\(∀cs,a≠ .ptr cs)/\(∀e r l,a'≠ .own e r l)/\(∀cs,a'≠ .ptr cs))
theorem gm.aeM{s:gm}{x:Arg}{d:s.den}(h:s.read x=some d):AW x (s.val d):=by
 refine .inr (.inr ⟨λX v hv=>?_,?_⟩)
 .have hx:nC X x v:=by
   cases x with
   |sv _|kp _|fn _ _=>exact hv
   |own _ _ _|ptr _=>cases s<;>simp[gm.read]at h
  exact nC.av _ _ (gm.weak s x d v h hx)
 .cases x<;>cases s<;>first
   |(simp[gm.read]at h;done)
   |exact⟨λ_=>rfl,λ_=>rfl,(λ_ _ _ e=>by cases e),(λ_ e=>by cases e),(λ_ _ _ e=>by cases e),(λ_ e=>by cases e)⟩
theorem fO.aeM{s:fO}{x:Arg}{d:s.den}(h:s.read x=some d):AW x (s.val d):=by
 unfold fO.read at h;split at h
 .exact gm.aeM h
 .next e r f s l=>
  split at h
  .next hb=>
   split at h
   .next hs=>cases h;have he:=alL hb;subst he;have hsr:=au.eq_of_beq s r hs;subst hsr;exact .inl ⟨e,s,l,rfl,rfl⟩
   .cases h
  .cases h
 .next l cs=>exact .inr (.inl ⟨cs,_,rfl,rfl,λX vs hc=>Ar _ _ _ _ h hc⟩)
 .cases h
theorem FH:∀{l:List fO}{xs:List Arg}{d:kR l},jA l xs=some d->(o8 l d).length=xs.length/\∀(i:Nat)(a:Arg),xs[i]? =some a->∃a',(o8 l d)[i]? =some a'/\AW a a'
 |[],[],_,_=>⟨rfl,λi a h=>by simp at h⟩
 |s::r,x::xs,d,h=>by
  rw[jA]at h;split at h
  .next a b h1 h2=>
   cases h;obtain⟨g1,g2⟩:=FH h2;refine⟨by simp[o8,g1],λi c hc=>?_⟩;cases i with
   |zero=>simp at hc;subst hc;exact⟨_,rfl,fO.aeM h1⟩
   |succ i=>obtain⟨c',k1,k2⟩:=g2 i c (by simpa using hc);exact⟨c',by simpa[o8]using k1,k2⟩
  .cases h
 |[],_::_,_,h=>by simp[jA]at h
 |_::_,[],_,h=>by simp[jA]at h
theorem IG{args:List Arg}{o:Nat}(h:∀b,args[o / 64]? =some b->(∀e r l,b≠ .own e r l)/\∀cs,b≠ .ptr cs):dL args o=none:=by
 unfold dL;split
 .next e r l ha=>exact((h _ ha).1 e r l rfl).elim
 .next cs ha=>exact((h _ ha).2 cs rfl).elim
 .rfl
theorem Oe{sh:List fO}{args:List Arg}{x:kR sh}(h:jA sh args=some x)(n:Nat):Covers (Aw n (o8 sh x)) (Aw n args):=by
 obtain⟨hl,hget⟩:=FH h;refine⟨rfl,λt X v hv=>?_,λo=>?_⟩
 .simp only[Aw]at hv ⊢;cases ha:args[t]? with
  |none=>
   have:(o8 sh x)[t]? =none:=by rw[aoK]at ha ⊢;omega
   rw[this];trivial
  |some b=>
   obtain⟨b',hb',hw⟩:=hget t b ha;rw[ha]at hv;rw[hb'];dsimp only at hv ⊢;rcases hw with⟨e,r,l,rfl,rfl⟩|⟨cs,cs',rfl,rfl,_⟩|⟨hw,e1,e2,_⟩
   .exact hv
   .exact hv
   .rw[e1]at hv;rw[e2];exact hw X v hv
 .show(dL (o8 sh x) o=none/\dL args o=none)\/∃y y',dL args o=some y/\dL (o8 sh x) o=some y'/\DW y y';cases ha:args[o / 64]? with
  |none=>
   have h2:(o8 sh x)[o / 64]? =none:=by rw[aoK]at ha ⊢;omega
   exact .inl ⟨IG (by rw[h2];intro b hb;cases hb),IG (by rw[ha];intro b hb;cases hb)⟩
  |some b=>
   obtain⟨b',hb',hw⟩:=hget _ b ha;rcases hw with⟨e,r,l,rfl,rfl⟩|⟨cs,cs',rfl,rfl,hc⟩|⟨_,_,_,n1,n2,n3,n4⟩
   .unfold dL;rw[ha,hb'];dsimp only;cases hm:Nat.beq (o%64) 49 with
    |true=>exact .inr ⟨_,_,rfl,rfl,.inr ⟨e,r,l,false,false,rfl,rfl,id⟩⟩
    |false=>exact .inl ⟨rfl,rfl⟩
   .unfold dL;rw[ha,hb'];dsimp only;cases hm:Nat.beq (o%64) 48 with
    |true=>exact .inr ⟨_,_,rfl,rfl,.inl ⟨cs,cs',rfl,rfl,hc⟩⟩
    |false=>exact .inl ⟨rfl,rfl⟩
   .exact .inl ⟨IG (by rw[hb'];intro c hc;cases hc;exact⟨n3,n4⟩),IG (by rw[ha];intro c hc;cases hc;exact⟨n1,n2⟩)⟩
theorem Uo(a b:List (Nat×ay))(p:Nat):look (a++b) p=match look b p with|some y=>some y|none=>look a p:=by
 induction a with
 |nil=>simp only[amU,look];cases look b p<;>rfl
 |cons x a ih=>obtain⟨o,z⟩:=x;rw[anh,look,ih,look];cases look b p<;>rfl
theorem qj:∀(cs:List dV)(k p:Nat)(x:ay),look (iV k cs).2 p=some x↔∃i e r l fr,p=k+i/\cs[i]? =some (.own e r l fr)/\x=.arr e r l fr
 |[],k,p,x=>by simp[iV,look]
 |c::cs,k,p,x=>by
  rw[iV,Uo];have ih:=qj cs (k+1) p x;constructor
  .intro h;split at h
   .next y hy=>cases h;obtain⟨i,e,r,l,fr,h1,h2,h3⟩:=(qj cs (k+1) p x).1 hy;exact⟨i+1,e,r,l,fr,by omega,by simpa using h2,h3⟩
   .next hn=>
    cases c with
    |plain c=>simp[dV.take,look]at h
    |own e r l fr=>
     simp only[dV.take,look]at h;split at h
     .next hb=>cases h;exact⟨0,e,r,l,fr,by have:=alL hb;omega,rfl,rfl⟩
     .cases h
  .rintro⟨i,e,r,l,fr,h1,h2,rfl⟩;cases i with
   |succ i=>
    have:=(qj cs (k+1) p (.arr e r l fr)).2 ⟨i,e,r,l,fr,by omega,by simpa using h2,rfl⟩;rw[this]
   |zero=>
    simp at h2;subst h2;have hn:look (iV (k+1) cs).2 p=none:=by
     cases hl:look (iV (k+1) cs).2 p with
     |none=>rfl
     |some y=>obtain⟨i,_,_,_,_,g1,_⟩:=(qj cs (k+1) p y).1 hl;omega
    rw[hn];have hp:p=k:=by omega
    subst hp;simp[dV.take,look]
def FI(rs:List (Bool×List dV)):List dV:=rs.flatMap (·.2)
theorem adt(k:Nat)(x:Bool×List dV):(rH k x).2=(iV k x.2).2:=by
 unfold rH;split
 .next e1 e2=>rw[e2]
 .next e1 e2=>rw[e2]
 .next e1 e2=>rw[e2]
theorem xR:∀(rs:List (Bool×List dV))(k p:Nat)(x:ay),look (fV k rs).2 p=some x↔∃i e r l fr,p=k+i/\(FI rs)[i]? =some (.own e r l fr)/\x=.arr e r l fr
 |[],k,p,x=>by simp[fV,look,FI]
 |y::rs,k,p,x=>by
  rw[fV,Uo,adt];have aeN:FI (y::rs)=y.2++FI rs:=rfl;constructor
  .intro h;split at h
   .next z hz=>cases h;obtain⟨i,e,r,l,fr,h1,h2,h3⟩:=(xR rs (k+y.2.length) p x).1 hz;refine⟨y.2.length+i,e,r,l,fr,by omega,?_,h3⟩;rw[aeN,al6 (by omega)];simpa using h2
   .obtain⟨i,e,r,l,fr,h1,h2,h3⟩:=(qj y.2 k p x).1 h;refine⟨i,e,r,l,fr,h1,?_,h3⟩;rw[aeN,amf (alS.1 h2).1];exact h2
  .rintro⟨i,e,r,l,fr,h1,h2,rfl⟩;rw[aeN]at h2;rcases al4 i y.2.length with hlt|hge
   .rw[amf hlt]at h2;have hn:look (fV (k+y.2.length) rs).2 p=none:=by
     cases hl:look (fV (k+y.2.length) rs).2 p with
     |none=>rfl
     |some z=>obtain⟨j,_,_,_,_,g1,_⟩:=(xR rs (k+y.2.length) p z).1 hl;omega
    rw[hn];exact(qj y.2 k p _).2 ⟨i,e,r,l,fr,h1,h2,rfl⟩
   .rw[al6 hge]at h2;have:=(xR rs (k+y.2.length) p (.arr e r l fr)).2 ⟨i-y.2.length,e,r,l,fr,by omega,h2,rfl⟩;rw[this]
end Go.Fw
namespace Go.Fw
open Go
set_option linter.unusedVariables false
variable {P:Program} {w0:World} {M:Nat->Prop} {T:Ext} {γ γ':Nat->Value} {st:St} {a:Act} {w w':World} {Θ:iE} {Γ:jy}
def RF(Y:V)(c:dV)(v:Value)(n:Option Nat):Prop:=
 match c with
 |.plain x=>aO Y x v/\x.refs=[]
 |.own e r l fr=>0<r.len/\((∃o g,n=some o/\Y.ah o=some (.arr e r l g)/\Gx fr g=true/\v=Y.γ o/\v.oneCell'=true)\/(l=[]/\v=.slice none 0 0))
def Az(Y:V):List dV->List Value->List (Option Nat)->Prop
 |[],[],[]=>True
 |c::cs,v::vs,n::ns=>RF Y c v n/\Az Y cs vs ns
 |_,_,_=>False
theorem Az.append{Y:V}:∀(cs:List dV)(vs:List Value)(ns:List (Option Nat))(ds:List dV)(us:List Value)(ms:List (Option Nat)),Az Y cs vs ns->Az Y ds us ms->Az Y (cs++ds) (vs++us) (ns++ms)
 |[],[],[],_,_,_,_,h=>h
 |_::cs,_::vs,_::ns,ds,us,ms,⟨h1,h2⟩,h=>⟨h1,Az.append cs vs ns ds us ms h2 h⟩
theorem Az.length{Y:V}:∀(cs:List dV)(vs:List Value)(ns:List (Option Nat)),Az Y cs vs ns->cs.length=vs.length
 |[],[],[],_=>rfl
 |_::cs,_::vs,_::ns,⟨_,h2⟩=>by simp[Az.length cs vs ns h2]
theorem Az.get{Y:V}:∀(cs:List dV)(vs:List Value)(ns:List (Option Nat))(i:Nat)(c:dV),Az Y cs vs ns->cs[i]? =some c->∃v n,vs[i]? =some v/\ns[i]? =some n/\RF Y c v n
 |[],[],[],i,c,_,h=>by simp at h
 |x::cs,v::vs,n::ns,0,c,⟨h1,_⟩,h=>by simp at h;subst h;exact⟨v,n,rfl,rfl,h1⟩
 |x::cs,v::vs,n::ns,i+1,c,⟨_,h2⟩,h=>by obtain⟨u,m,g1,g2,g3⟩:=Az.get cs vs ns i c h2 (by simpa using h);exact⟨u,m,by simpa using g1,by simpa using g2,g3⟩
theorem fE.aaf(c:fE)(x:Cell)(d:c.den)(h:c.read x=some d)(hx:x.refs=[]):(c.cell d).refs=[]:=by cases c<;>cases x<;>first|rfl|(simp[fE.read]at h;done)|(cases hx)
theorem RC.adY{Y:V}(hst:Y.ah=st.ah)(hpos:∀o e r l g,st.ah o=some (.arr e r l g)->0<r.len):∀(c:RC)(x:Cell)(d:c.den)(v:Value),c.read st x=some d->aO Y x v->RF Y (c.aeL d) v (c.name x):=by
 intro c x d v hr hv;cases c with
 |c s=>
  rw[RC.read]at hr;split at hr
  .next hx=>exact⟨fE.weak s x d v hr hv,fE.aaf s x d hr hx⟩
  .cases hr
 |own e r fr=>
  cases x with
  |ref o=>
   simp only[RC.read]at hr;split at hr
   .next f s l g ho=>
    split at hr
    .next hb=>
     split at hr
     .next hs=>cases hr;rw[alK]at hb;have he:=alL hb.1;subst he;have hsr:=au.eq_of_beq s r hs;subst hsr;exact⟨hpos _ _ _ _ _ ho,.inl ⟨o,g,rfl,by rw[hst];exact ho,hb.2,hv.2.1,hv.2.2⟩⟩
     .cases hr
    .cases hr
   .cases hr
  |nil=>
   simp only[RC.read]at hr;split at hr
   .next hb=>cases hr;exact⟨amw aor (by simpa[anY]using hb),.inr ⟨rfl,hv⟩⟩
   .cases hr
  |_=>simp[RC.read]at hr
theorem Xi{Y:V}(hst:Y.ah=st.ah)(hpos:∀o e r l g,st.ah o=some (.arr e r l g)->0<r.len):∀(l:List RC)(xs:List Cell)(d:Xe l)(vs:List Value),Ko st l xs=some d->ai Y xs vs->Az Y (Y0 l d) vs (Y3 l xs)
 |[],[],_,[],_,_=>trivial
 |c::r,x::xs,d,v::vs,h,⟨h1,h2⟩=>by
  rw[Ko]at h;split at h
  .next a b g1 g2=>cases h;exact⟨RC.adY hst hpos c x a v g1 h1,Xi hst hpos r xs b vs g2 h2⟩
  .cases h
 |[],_::_,_,_,h,_=>by simp[Ko]at h
 |_::_,[],_,_,h,_=>by simp[Ko]at h
theorem qx.ab1{Y:V}(hst:Y.ah=st.ah)(hpos:∀o e r l g,st.ah o=some (.arr e r l g)->0<r.len):∀(s:qx)(x:SV)(d:s.den)(v:Value),s.read st x=some d->cO Y x v->Az Y (s.out d).2 v.cells.toList (s.names x)
 |.one c,.one x,d,v,h,hv=>by
  rw[Cc v (aO.one x v hv)];exact⟨RC.adY hst hpos c x d v h hv,trivial⟩
 |.agg l,.agg xs,d,v,h,⟨vs,hv,hc⟩=>by
  rw[hv];exact Xi hst hpos l xs d _ h hc
 |.one _,.agg _,_,_,h,_|.agg _,.one _,_,_,h,_=>by simp[qx.read]at h
theorem Xj{Y:V}(hst:Y.ah=st.ah)(hpos:∀o e r l g,st.ah o=some (.arr e r l g)->0<r.len):∀(l:List qx)(xs:List SV)(d:uJ l)(vs:List Value),zi st l xs=some d->cZ Y xs vs->
 Az Y (FI (gX l d)) (vs.flatMap λv=>v.cells.toList) (yw l xs)
 |[],[],_,[],_,_=>trivial
 |s::r,x::xs,d,v::vs,h,⟨h1,h2⟩=>by
  rw[zi]at h;split at h
  .next a b g1 g2=>cases h;exact Az.append _ _ _ _ _ _ (qx.ab1 hst hpos s x a v g1 h1) (Xj hst hpos r xs b vs g2 h2)
  .cases h
 |[],_::_,_,_,h,_=>by simp[zi]at h
 |_::_,[],_,_,h,_=>by simp[zi]at h
def Go1(Z:V)(k:Nat)(c:dV)(v:Value):Prop:=aO Z (c.take k).1 v
def DF(Z:V):Nat->List dV->List Value->Prop
 |_,[],[]=>True
 |k,c::cs,v::vs=>Go1 Z k c v/\DF Z (k+1) cs vs
 |_,_,_=>False
theorem DF.of{Z:V}:∀(cs:List dV)(vs:List Value)(k:Nat),cs.length=vs.length->(∀i c v,cs[i]? =some c->vs[i]? =some v->Go1 Z (k+i) c v)->DF Z k cs vs
 |[],[],_,_,_=>trivial
 |c::cs,v::vs,k,hl,h=>⟨h 0 c v rfl rfl,DF.of cs vs (k+1) (by simpa using hl) λi c' v' h1 h2=>by
   have:=h (i+1) c' v' (by simpa using h1) (by simpa using h2)
   rwa [show k+(i+1)=k+1+i by omega]at this⟩
theorem DF.split{Z:V}:∀(cs:List dV)(vs:List Value)(ds:List dV)(us:List Value)(k:Nat),cs.length=vs.length->DF Z k (cs++ds) (vs++us)->DF Z k cs vs/\DF Z (k+cs.length) ds us
 |[],[],_,_,_,_,h=>⟨trivial,h⟩
 |c::cs,v::vs,ds,us,k,hl,⟨h1,h2⟩=>by obtain⟨g1,g2⟩:=DF.split cs vs ds us (k+1) (by simpa using hl) h2;exact⟨⟨h1,g1⟩,by rw[show k+(c::cs).length=k+1+cs.length by simp;omega];exact g2⟩
theorem DF.cells{Z:V}:∀(cs:List dV)(vs:List Value)(k:Nat),DF Z k cs vs->ai Z (iV k cs).1 vs
 |[],[],_,_=>trivial
 |c::cs,v::vs,k,⟨h1,h2⟩=>⟨h1,DF.cells cs vs (k+1) h2⟩
theorem qx.go{Y Z:V}:∀(s:qx)(x:SV)(d:s.den)(v:Value)(k:Nat),s.read st x=some d->cO Y x v->DF Z k (s.out d).2 v.cells.toList->cO Z (rH k (s.out d)).1 v
 |.one c,.one x,d,v,k,h,hv,hg=>by
  rw[Cc v (aO.one x v hv)]at hg;exact hg.1
 |.agg l,.agg xs,d,v,k,h,⟨vs,hv,hc⟩,hg=>by
  rw[hv]at hg ⊢;exact⟨vs,rfl,DF.cells _ _ _ hg⟩
 |.one _,.agg _,_,_,_,h,_,_|.agg _,.one _,_,_,_,h,_,_=>by simp[qx.read]at h
theorem aag{Y Z:V}(hst:Y.ah=st.ah)(hpos:∀o e r l g,st.ah o=some (.arr e r l g)->0<r.len):∀(l:List qx)(xs:List SV)(d:uJ l)(vs:List Value)(k:Nat),zi st l xs=some d->cZ Y xs vs->
 DF Z k (FI (gX l d)) (vs.flatMap λv=>v.cells.toList)->cZ Z (fV k (gX l d)).1 vs
 |[],[],_,[],_,_,_,_=>trivial
 |s::r,x::xs,d,v::vs,k,h,⟨h1,h2⟩,hg=>by
  rw[zi]at h;split at h
  .next a b g1 g2=>cases h;have hl:=Az.length _ _ _ (qx.ab1 hst hpos s x a v g1 h1);obtain⟨k1,k2⟩:=DF.split _ _ _ _ k hl hg;exact⟨qx.go s x a v k g1 h1 k1,aag hst hpos r xs b vs _ g2 h2 k2⟩
  .cases h
 |[],_::_,_,_,_,h,_,_=>by simp[zi]at h
 |_::_,[],_,_,_,h,_,_=>by simp[zi]at h
theorem Ur:∀(l:List fE)(xs:List Cell)(d:jK l),iW l xs=some d->xs.flatMap Cell.refs=[]->(fM l d).flatMap Cell.refs=[]
 |[],[],_,_,_=>rfl
 |c::r,x::xs,d,h,hx=>by
  rw[iW]at h;split at h
  .next a b g1 g2=>cases h;rw[amL,amv]at hx;show(c.cell a::fM r b).flatMap Cell.refs=[];rw[amL,fE.aaf c x a g1 hx.1,Ur r xs b g2 hx.2,amG]
  .cases h
 |[],_::_,_,h,_=>by simp[iW]at h
 |_::_,[],_,h,_=>by simp[iW]at h
theorem FK:∀(sh:List fO)(i:Nat)(b:rY sh),Ez st i sh=some b->∀(j:Nat)(e:Eff),(gY sh b)[j]? =some e->
 e=.lose\/∃l cs cs0,sh[j]? =some (.ptr l)/\e=.var cs/\st.ah ((i+j)*64+48)=some (.var cs0)/\cs0.flatMap Cell.refs=[]/\cs.flatMap Cell.refs=[]/\∀(X:V) vs,ai X cs0 vs->ai X cs vs
 |[],_,_,_,j,e,he=>by simp[gY]at he
 |.ptr l::r,i,b,h,j,e,he=>by
  rw[Ez]at h;split at h
  .next cs b' hx hb=>
   split at h
   .next a hr ha=>
    cases h;cases j with
    |zero=>
     simp[gY]at he;subst he;exact .inr ⟨l,_,cs,rfl,rfl,by simpa using hx,hr,Ur _ _ _ ha hr,λX vs hc=>Ar _ _ _ _ ha hc⟩
    |succ j=>
     rcases FK r (i+1) b' hb j e (by simpa[gY]using he)with h|⟨l,cs',cs0,h1,h2,h3,h4⟩
     .exact .inl h
     .exact .inr ⟨l,cs',cs0,by simpa using h1,h2,by rw[show i+(j+1)=i+1+j by omega];exact h3,h4⟩
   .cases h
  .cases h
 |.p _::r,i,b,h,j,e,he|.own _ _::r,i,b,h,j,e,he=>by
  rw[Ez]at h;cases j with
  |zero=>simp[gY]at he;exact .inl he.symm
  |succ j=>
   rcases FK r (i+1) b h j e (by simpa[gY]using he)with h|⟨l,cs',cs0,h1,h2,h3,h4⟩
   .exact .inl h
   .exact .inr ⟨l,cs',cs0,by simpa using h1,h2,by rw[show i+(j+1)=i+1+j by omega];exact h3,h4⟩
theorem Xk:∀{sh:List fO}{xs:List Arg}{d:kR sh},jA sh xs=some d->∀(j:Nat)(l:List fE),sh[j]? =some (.ptr l)->∃cs,xs[j]? =some (.ptr cs)
 |[],[],_,_,j,l,h=>by simp at h
 |s::r,x::xs,d,h,j,l,hj=>by
  rw[jA]at h;split at h
  .next a b h1 h2=>
   cases j with
   |zero=>
    simp at hj;subst hj;cases x with
    |ptr cs=>exact⟨cs,rfl⟩
    |_=>simp[fO.read]at h1
   |succ j=>obtain⟨cs,hc⟩:=Xk h2 j l (by simpa using hj);exact⟨cs,by simpa using hc⟩
  .cases h
 |[],_::_,_,h,_,_,_=>by simp[jA]at h
 |_::_,[],_,h,_,_,_=>by simp[jA]at h
theorem af4{sh:List fO}{b:rY sh}(hb:Ez st 0 sh=some b){q:Nat}{y:ay}(h:jS (gY sh b) q=some y):
 q%64=48/\∃l cs cs0,sh[q / 64]? =some (.ptr l)/\y=.var cs/\st.ah q=some (.var cs0)/\cs0.flatMap Cell.refs=[]/\cs.flatMap Cell.refs=[]/\∀(X:V) vs,ai X cs0 vs->ai X cs vs:=by
 unfold jS at h;split at h
 .next e r l he=>rcases FK sh 0 b hb _ _ he with h'|⟨_,_,_,_,h',_⟩<;>cases h'
 .next cs he=>
  split at h
  .next hm=>
   have hm':=alL hm;cases h;rcases FK sh 0 b hb _ _ he with h'|⟨l,cs',cs0,h1,h2,h3,h4⟩
   .cases h'
   .cases h2;refine⟨hm',l,_,cs0,h1,rfl,?_,h4⟩;rw[show q=(0+q / 64)*64+48 by omega];exact h3
  .cases h
 .cases h
def fO.oO:(s:fO)->s.den->Prop
 |.p s,x=>s.oO x
 |.own _ r,(l:List r.den)=>∀x∈l,r.oO x
 |.ptr l,x=>SH l x
def II:(l:List fO)->kR l->Prop
 |[],_=>True
 |s::r,x=>s.oO x.1/\II r x.2
theorem gm.SI{X:V}(s:gm)(x:Arg)(d:s.den)(v:Value)(h:s.read x=some d)(hr:nC X x v):s.oO d:=
 (zh (X:=X) [s] (d,()) [v] ⟨gm.weak s x d v h hr,trivial⟩).1
theorem Ql{X:V}{args:List Arg}(ho:∀o x,dL args o=some x->aX X o x):∀(sh:List fO)(xs:List Arg)(d:kR sh)(vs:List Value)(i:Nat),(∀j a,xs[j]? =some a->args[i+j]? =some a)->
 jA sh xs=some d->uS X i xs vs->II sh d
 |[],[],_,_,_,_,_,_=>trivial
 |s::r,x::xs,d,v::vs,i,hj,h,⟨hv,hvs⟩=>by
  rw[jA]at h;split at h
  .next a b h1 h2=>
   cases h;refine⟨?_,Ql ho r xs b vs (i+1) (λj c hc=>by have:=hj (j+1) c (by simpa using hc);rwa [show i+(j+1)=i+1+j by omega]at this) h2 hvs⟩;have hx:args[i]? =some x:=hj 0 x rfl;cases s with
   |p s=>
    have h1':s.read x=some a:=by simpa[fO.read]using h1
    refine gm.SI (X:=X) s x a v h1' ?_;cases x with
    |own _ _ _|ptr _=>cases s<;>simp[gm.read]at h1'
    |_=>exact hv
   |own e r'=>
    cases x with
    |own f s' l=>
     have h1':(match Nat.beq e f with|true=>if h:s'.beq r'=true then some (qi h l)else none|false=>none)=some a:=h1;split at h1'
     .split at h1'
      .next hb hs=>
       cases h1';have hsr:=au.eq_of_beq s' r' hs;subst hsr;have lU:dL args (i*64+49)=some (.arr f s' l false):=by unfold dL;rw[show(i*64+49) / 64=i by omega,hx];dsimp only;rw[show(i*64+49)%64=49 by omega]
       obtain⟨us,_,_,_,hrow⟩:=ho _ _ lU;intro y hy;have hy':y∈l:=hy;obtain⟨j,hj1,hj2⟩:=an1.1 hy';exact aS.oO s' _ _ (hrow j y (by rw[alO hj1,hj2]))
      .cases h1'
     .cases h1'
    |_=>simp[fO.read]at h1
   |ptr l=>
    cases x with
    |ptr cs=>
     have h1':iW l cs=some a:=h1;have lU:dL args (i*64+48)=some (.var cs):=by unfold dL;rw[show(i*64+48) / 64=i by omega,hx];dsimp only;rw[show(i*64+48)%64=48 by omega]
     obtain⟨_,arr,_,_,_,hc⟩:=ho _ _ lU;exact Ey l a _ (Ar _ _ _ _ h1' hc)
    |_=>simp[fO.read]at h1
  .cases h
 |[],_::_,_,_,_,_,h,_=>by simp[jA]at h
 |_::_,[],_,_,_,_,h,_=>by simp[jA]at h
theorem EO:∀(l:List fO)(d:kR l),(o8 l d).length=l.length
 |[],_=>rfl
 |_::r,d=>by simp[o8,EO r d.2]
theorem Out.agX(rs:List (Bool×List dV))(k:Nat):((⟨rs,none⟩:Out).take k).2=(fV k rs).2:=by
 unfold Out.take;dsimp only;split
 .next h=>rw[h]
 .next h=>rw[h]
theorem Out.agY(rs:List (Bool×List dV))(k:Nat):((⟨rs,none⟩:Out).take k).1=(match (fV k rs).1 with|[v]=>AV.sv v|vs=>.jX vs):=by
 unfold Out.take;dsimp only;split
 .next h=>rw[h]
 .next vs δ hne h=>
  rw[h];dsimp only;rcases vs with _|⟨v,_|⟨v2,r⟩⟩
  .rfl
  .exact(hne v rfl).elim
  .rfl
theorem akl{args:List Arg}{S:Nat->Prop}{sh:List fO}{dh:List qx}{x:kR sh}(hx:jA sh args=some x){d:uJ dh}{b:rY sh}{k:Nat}{vs:List SV}{us:List Value}
 (hR:Rel w (wZ (dL args) γ) (Qk args γ S) γ' st a w') (hrs:cZ (aj w (Qk args γ S) γ' st w') vs us) (hnd:vK (yw dh vs)=true) (hrd:zi st dh vs=some d) (hbk:Ez st 0 sh=some b)
 (hap:∀o x,look ((⟨gX dh d,none⟩:Out).take k).2 o=some x->jS (gY sh b) o=none):
 ∃γ2,aP ⟨w',w.heap.size,oz S args (gY sh b) γ,γ2,look ((⟨gX dh d,none⟩:Out).take k).2⟩ ((⟨gX dh d,none⟩:Out).take k).1 (if h:us.toArray.size=1 then us.toArray[0]else .tuple us.toArray)/\
  (∀o x,look ((⟨gX dh d,none⟩:Out).take k).2 o=some x->aX ⟨w',w.heap.size,oz S args (gY sh b) γ,γ2,look ((⟨gX dh d,none⟩:Out).take k).2⟩ o x/\
    ∀b',blk (γ2 o)=some b'->b'<w'.heap.size/\(w.heap.size<=b'\/wZ (dL args) γ b')/\∀q y,jS (gY sh b) q=some y->blk (γ q)≠some b')/\
  (∀o x q y b',look ((⟨gX dh d,none⟩:Out).take k).2 o=some x->look ((⟨gX dh d,none⟩:Out).take k).2 q=some y->o≠q->blk (γ2 o)=some b'->blk (γ2 q)≠some b')/\
  (∀o x,jS (gY sh b) o=some x->γ2 o=γ o/\aX ⟨w',w.heap.size,oz S args (gY sh b) γ,γ2,look ((⟨gX dh d,none⟩:Out).take k).2⟩ o x):=by
 rw[Out.agX]at hap ⊢;rw[Out.agY]
 skip
 let Y:V:=aj w (Qk args γ S) γ' st w'
 let fv:List Value:=us.flatMap λv=>v.cells.toList
 let aI:=gY sh b
 let γ2:Nat->Value:=λp=>match jS aI p with|some _=>γ p|none=>fv.getD (p-k) undef
 let Z:V:=⟨w',w.heap.size,oz S args aI γ,γ2,look (fV k (gX dh d)).2⟩
 have hpos:∀o e r l g,st.ah o=some (.arr e r l g)->0<r.len:=λo e r l g ho=>by obtain⟨_,_,h,_⟩:=hR.ah o _ ho;exact h
 have hF:Az Y (FI (gX dh d)) fv (yw dh vs):=Xj (st:=st) rfl hpos dh vs d us hrd hrs;have hbq:∀q y,jS aI q=some y->γ' q=γ q/\∃cs cs0,y=.var cs/\st.ah q=some (.var cs0)/\cs0.flatMap Cell.refs=[]/\cs.flatMap Cell.refs=[]/\∀(X:V) vs,ai X cs0 vs->ai X cs vs:=by
  intro q y hq;obtain⟨hm,l,cs,cs0,h1,h2,h3,h4,h5,h6⟩:=af4 hbk hq;refine⟨?_,cs,cs0,h2,h3,h4,h5,h6⟩;obtain⟨ci,hci⟩:=Xk hx _ l h1;have ho:dL args q=some (.var ci):=by unfold dL;rw[hci];dsimp only;rw[hm]
  have hN:(Qk args γ S).N q=some (γ q):=by show Y4 args γ q=_;unfold Y4;rw[ho]
  exact hR.pin q _ _ hN h3
 have hG:∀p X,look (fV k (gX dh d)).2 p=some X->∃i e r l fr,p=k+i/\(FI (gX dh d))[i]? =some (.own e r l fr)/\X=.arr e r l fr/\0<r.len/\
  ((∃o g,(yw dh vs)[i]? =some (some o)/\st.ah o=some (.arr e r l g)/\Gx fr g=true/\γ2 p=γ' o/\(γ2 p).oneCell'=true)\/(l=[]/\γ2 p=.slice none 0 0)):=by
  intro p X hp;obtain⟨i,e,r,l,fr,h1,h2,h3⟩:=(xR _ k p X).1 hp;obtain⟨v,n,g1,g2,hr,hv⟩:=Az.get _ _ _ i _ hF h2;have hγ:γ2 p=v:=by show(match jS aI p with|some _=>γ p|none=>fv.getD (p-k) undef)=v;rw[hap p X hp];dsimp only;rw[h1,show k+i-k=i by omega,alM,g1];rfl
  refine⟨i,e,r,l,fr,h1,h2,h3,hr,?_⟩;rcases hv with⟨o,g,hn,ho,hb,hv,h1c⟩|⟨hl,hv⟩
  .exact .inl ⟨o,g,by rw[g2,hn],ho,hb,hγ.trans hv,by rw[hγ];exact h1c⟩
  .exact .inr ⟨hl,hγ.trans hv⟩
 have CG:∀b',Y.foot b'->Z.foot b':=by
  intro b' hb';refine⟨hb'.1,λhlt=>⟨hb'.2.1 hlt,λq y hq=>?_⟩,λp X hp=>?_⟩
  .obtain⟨hγ,cs,cs0,_,h3,_⟩:=hbq q y hq;rw[← hγ];exact hb'.2.2 q _ h3
  .obtain⟨i,e,r,l,fr,_,_,_,_,hc⟩:=hG p X hp;show blk (γ2 p)≠some b';rcases hc with⟨o,g,_,ho,_,hγ,_⟩|⟨_,hγ⟩
   .rw[hγ];exact hb'.2.2 o _ ho
   .rw[hγ];intro h;cases h
 have af5:∀fr b',Y.bG fr b'->Z.bG fr b':=λfr b' h=>⟨CG b' h.1,h.2⟩;have hgo:DF Z k (FI (gX dh d)) fv:=by
  refine DF.of _ _ _ (Az.length _ _ _ hF) λi c v hc hv=>?_;obtain⟨v',n,g1,g2,g3⟩:=Az.get _ _ _ i c hF hc;rw[hv]at g1;cases g1;cases c with
  |plain x=>
   exact(Bh (Y:=Y) (Z:=Z) rfl af5 [x] [v] (by simpa using g3.2) ⟨g3.1,trivial⟩).1
  |own e r l fr=>
   have hp:look (fV k (gX dh d)).2 (k+i)=some (.arr e r l fr):=(xR _ k _ _).2 ⟨i,e,r,l,fr,rfl,hc,rfl⟩;have hγ:γ2 (k+i)=v:=by show(match jS aI (k+i)with|some _=>γ (k+i)|none=>fv.getD (k+i-k) undef)=v;rw[hap _ _ hp];dsimp only;rw[show k+i-k=i by omega,alM,hv];rfl
   refine⟨⟨e,r,l,fr,hp⟩,hγ.symm,?_⟩;rcases g3.2 with⟨_,_,_,_,_,_,h⟩|⟨_,h⟩
   .exact h
   .rw[h];rfl
 have hsv:cZ Z (fV k (gX dh d)).1 us:=aag (st:=st) (Y:=Y) rfl hpos dh vs d us k hrd hrs hgo;refine⟨γ2,?_,λp X hp=>?_,λp X q X' b' hp hq hne hb1 hb2=>?_,λq y hq=>?_⟩
 .have hl:=cZ.length _ _ hsv
  match hm:(fV k (gX dh d)).1,us,hsv,hl with
  |[v],[u],hk,_=>exact hk.1
  |[],[],hk,_=>exact⟨_,by simp,hk⟩
  |v::v2::r,u::u2::us,hk,hl=>exact⟨_,by simp,hk⟩
  |[],_::_,hk,h4|_::_,[],hk,h4|[_],_::_::_,hk,h4|_::_::_,[_],hk,h4=>simp at h4
 .obtain⟨i,e,r,l,fr,_,_,rfl,hr,hc⟩:=hG p X hp;rcases hc with⟨o,g,_,ho,hb,hγ,_⟩|⟨rfl,hγ⟩
  .have hO:aX Y o (.arr e r l g):=hR.ah o _ ho;have hold:∀b',blk (γ' o)=some b'->fr=true->w.heap.size<=b':=by intro b' hb' hfr;subst hfr;have hg:g=true:=hb;subst hg;obtain⟨_,_,_,hn,_⟩:=hO;exact hn b' hb' rfl
   refine⟨aX.SC (Y:=Y) (Z:=Z) hO hγ rfl (λb' hb'=>⟨CG b' hb'.1,λhfr=>hb'.2 ?_⟩) hold,λb' hb'=>?_⟩
   .subst hfr;exact hb
   .rw[hγ]at hb';obtain⟨h1,h2⟩:=hR.lt o _ b' ho hb';refine⟨h1,h2,λq y hq=>?_⟩;obtain⟨hγq,cs,cs0,_,h3,_⟩:=hbq q y hq;rw[← hγq];refine hR.sep o _ q _ b' ho h3 ?_ hb';intro e;subst e;rw[ho]at h3;cases h3
  .refine⟨⟨[],⟨by simp,.inl ⟨hγ,rfl⟩⟩,hr,(λb' hb'=>by have h0:blk (γ2 p)=some b':=hb';rw[hγ]at h0;cases h0),λi x hi=>by simp at hi⟩,λb' hb'=>by rw[hγ]at hb';cases hb'⟩
 .obtain⟨i,e,r,l,fr,hi,_,_,_,hc⟩:=hG p X hp;obtain⟨j,e',r',l',fr',hj,_,_,_,hc'⟩:=hG q X' hq;rcases hc with⟨o,g,hn,ho,_,hγ,_⟩|⟨_,hγ⟩
  .rcases hc' with⟨o',g',hn',ho',_,J3,_⟩|⟨_,J3⟩
   .rw[hγ]at hb1;rw[J3]at hb2;have:o≠o':=by intro e;subst e;have:=Jp hnd _ _ _ hn hn';omega
    exact hR.sep o _ o' _ b' ho ho' this hb1 hb2
   .rw[J3]at hb2;cases hb2
  .rw[hγ]at hb1;cases hb1
 .obtain⟨hγ,cs,cs0,rfl,h3,h4,h5,h6⟩:=hbq q y hq;have ku:γ2 q=γ q:=by show(match jS aI q with|some _=>γ q|none=>fv.getD (q-k) undef)=γ q;rw[hq]
  refine⟨ku,?_⟩;obtain⟨b',arr,t,k1,k2,k3⟩:=hR.ah q _ h3;refine⟨b',arr,t,?_,k2,Bh (Y:=Y) (Z:=Z) rfl af5 _ _ h5 (h6 _ _ k3)⟩;show γ2 q=_;rw[ku,← hγ];exact k1
theorem aic{G:iR}(hE:EnvB P G Θ Γ)(hm:P.follows .mixedOrders=true){f:FuncId}{fn:Func}{c:Code}(hf:P.funcs[f]? =some fn)(hb:fn.body=some c)(H:Hints)
 {sh:List fO} {dh:List qx} {F:kR sh->Prop×(uJ dh×rY sh->Prop)} (hn:Nat.ble sh.length fn.ntmps=true) (hne:∀x,(F x).1->∃t,(F x).2 t)
 (hwalk:∀x,II sh x->(F x).1->CP Θ Γ H c (abe Θ fn.results.toList sh dh (F x).2) (Aw fn.ntmps (o8 sh x))):xQ P G f (PG sh dh F):=by
 intro args p ρ hcon hp;unfold PG at hcon;split at hcon
 case h_2=>cases hcon
 next x hx=>
 cases hcon;refine⟨hne x hp,λk S γ vs w hG hrep lU hsep hap=>?_⟩;have hlen:=(FH hx).1;rw[EO]at hlen;have hn':args.length<=fn.ntmps:=by rw[← hlen];simpa[anY]using hn
 have hin:II sh x:=Ql (λo X ho=>(lU o X ho).1) sh args x vs.toList 0 (λj a h=>by rwa [al9]) hx hrep;have hR0:=Xh (S:=S) fn.ntmps hn' hrep (λo X ho=>⟨(lU o X ho).1,λb hb=>((lU o X ho).2 b hb).1⟩) hsep;have hR1:=hR0.covers (Oe hx fn.ntmps);refine calls_of_wp hf hb (Qj ⟨hE,hG,λb hb=>?_⟩ hm H c _ _ _ _ _ _ hR1 (hwalk x hin hp) ?_)
 .obtain⟨o,X,ho,hb⟩:=hb;exact((lU o X ho).2 b hb).2
 intro e s γ' a' w' he hR;have hret:∃(us:List Value)(t:uJ dh×rY sh),(fn.results.mapM (Ew a'.tmps)).run P w'=.ok us.toArray w'/\(F x).2 t/\∃γ2,
  aP ⟨w',w.heap.size,oz S args (gY sh t.2) γ,γ2,look ((⟨gX dh t.1,none⟩:Out).take k).2⟩ ((⟨gX dh t.1,none⟩:Out).take k).1 (if h:us.toArray.size=1 then us.toArray[0]else .tuple us.toArray)/\
  (∀o x',look ((⟨gX dh t.1,none⟩:Out).take k).2 o=some x'->aX ⟨w',w.heap.size,oz S args (gY sh t.2) γ,γ2,look ((⟨gX dh t.1,none⟩:Out).take k).2⟩ o x'/\
    ∀b,blk (γ2 o)=some b->b<w'.heap.size/\(w.heap.size<=b\/wZ (dL args) γ b)/\∀q y,jS (gY sh t.2) q=some y->blk (γ q)≠some b)/\
  (∀o x' q y b,look ((⟨gX dh t.1,none⟩:Out).take k).2 o=some x'->look ((⟨gX dh t.1,none⟩:Out).take k).2 q=some y->o≠q->blk (γ2 o)=some b->blk (γ2 q)≠some b)/\
  (∀o x',jS (gY sh t.2) o=some x'->γ2 o=γ o/\aX ⟨w',w.heap.size,oz S args (gY sh t.2) γ,γ2,look ((⟨gX dh t.1,none⟩:Out).take k).2⟩ o x'):=by
  have he':(e=.normal\/e=.ret)/\abe Θ fn.results.toList sh dh (F x).2 .ret s:=by
   cases e with
   |normal=>exact⟨.inl rfl,he⟩
   |ret=>exact⟨.inr rfl,he⟩
   |_=>exact he.elim
  have he2:=he'.2;simp only[abe]at he2;split at he2
  .next svs alC=>
   split at he2
   .next vs' hvs'=>
    split at he2
    .next d b hnd hd hb'=>have hRf:=hR.freeze (Xf s (yw dh svs));obtain⟨us,hus,hrs⟩:=Gz hE.types hRf _ _ hvs';refine⟨us,(d,b),?_,he2,akl hx hRf hrs hnd hd hb' (hap (d,b) he2)⟩;rw[an7,Sem.run_map,hus];rfl
    .exact he2.elim
   .exact he2.elim
  .exact he2.elim
 obtain⟨us,t,hus,ht,γ2,h1,h2,h3,h4⟩:=hret;have hfin:bodyPost P fn (λe w'=>∃t,(F x).2 t/\Iu S args γ w k ⟨gX dh t.1,none⟩ (gY sh t.2) e w') .ret a' w':=by refine⟨hR.defers,if h:us.toArray.size=1 then us.toArray[0]else .tuple us.toArray,?_,t,ht,_,γ2,rfl,hR.os,hR.tape,hR.output,hR.grow,hR.kept,h1,h2,h3,h4⟩;rw[L9,al1,hus];simp only[amr,amI]
 cases e with
 |normal=>exact hfin
 |ret=>exact hfin
 |_=>exact he.elim
def abf(rv:List ResultVar)(l:List fE)(K:jK l->Prop)(e:Exit)(st:St):Prop:=
 match e with
 |.normal|.ret=>match rv with
  |[.tmp t]=>match st.tmps t with
   |.dK o off=>match Nat.beq off 0,(st.freeze (IC st)).ah o with
    |true,some (.var cs)=>match cs.flatMap Cell.refs,iW l cs with
     |[],some d=>K d
     |_,_=>False
    |_,_=>False
   |_=>False
  |_=>False
 |_=>False
def loses(sh:List fO):List Eff:=sh.map λ_=>.lose
def agZ(sh:List fO)(l:List fE)(F:kR sh->Prop×(jK l->Prop)):LD:=λargs=>
 match jA sh args with
 |some x=>some ((F x).1,⟨jK l,(F x).2,λt=>⟨[],some (fM l t)⟩,λ_=>loses sh⟩)
 |none=>none
theorem Mc(sh:List fO)(q:Nat):jS (loses sh) q=none:=by unfold jS loses;rw[amR];cases sh[q / 64]? <;>rfl
theorem Kq:∀(l:List fE)(cs:List Cell)(d:jK l),iW l cs=some d->cs.flatMap Cell.refs=[]->(fM l d).flatMap Cell.refs=[]
 |[],[],_,_,_=>rfl
 |c::l,x::xs,d,h,hn=>by
  rw[iW]at h;rw[amL,amv]at hn;split at h
  .next p q hp hq=>
   cases h;show((c.cell p)::fM l q).flatMap Cell.refs=[];rw[amL,amv];refine⟨?_,Kq l xs q hq hn.2⟩;cases c with
   |ref o=>
    cases x<;>simp[fE.read,Cell.refs]at hp hn
   |_=>rfl
  .cases h
 |[],_::_,_,h,_=>by simp[iW]at h
 |_::_,[],_,h,_=>by simp[iW]at h
theorem aid{G:iR}(hE:EnvB P G Θ Γ)(hm:P.follows .mixedOrders=true){f:FuncId}{fn:Func}{c:Code}(hf:P.funcs[f]? =some fn)(hb:fn.body=some c)(H:Hints)
 {sh:List fO} {l:List fE} {F:kR sh->Prop×(jK l->Prop)} (hn:Nat.ble sh.length fn.ntmps=true) (hne:∀x,(F x).1->∃t,(F x).2 t)
 (hwalk:∀x,II sh x->(F x).1->CP Θ Γ H c (abf fn.results.toList l (F x).2) (Aw fn.ntmps (o8 sh x))):xQ P G f (agZ sh l F):=by
 intro args p ρ hcon hp;unfold agZ at hcon;split at hcon
 case h_2=>cases hcon
 next x hx=>
 cases hcon;refine⟨hne x hp,λk S γ vs w hG hrep lU hsep hap=>?_⟩;have hlen:=(FH hx).1;rw[EO]at hlen;have hn':args.length<=fn.ntmps:=by rw[← hlen];simpa[anY]using hn
 have hin:II sh x:=Ql (λo X ho=>(lU o X ho).1) sh args x vs.toList 0 (λj a h=>by rwa [al9]) hx hrep;have hR0:=Xh (S:=S) fn.ntmps hn' hrep (λo X ho=>⟨(lU o X ho).1,λb hb=>((lU o X ho).2 b hb).1⟩) hsep;have hR1:=hR0.covers (Oe hx fn.ntmps);refine calls_of_wp hf hb (Qj ⟨hE,hG,λb hb=>?_⟩ hm H c _ _ _ _ _ _ hR1 (hwalk x hin hp) ?_)
 .obtain⟨o,X,ho,hb⟩:=hb;exact((lU o X ho).2 b hb).2
 intro e s γ' a' w' he hR;have he':abf fn.results.toList l (F x).2 .ret s:=by
  cases e with
  |normal=>exact he
  |ret=>exact he
  |_=>exact he.elim
 have hfin:bodyPost P fn (λe w'=>∃t,(F x).2 t/\Iu S args γ w k ⟨[],some (fM l t)⟩ (loses sh) e w') .ret a' w':=by
  simp only[abf]at he';split at he'
  case h_2=>exact he'.elim
  next t hrv=>
  split at he'
  case h_2=>exact he'.elim
  next o off Qe=>
  split at he'
  case h_2=>exact he'.elim
  next cs hoff hcs=>
  split at he'
  case h_2=>exact he'.elim
  next d hnr hd=>
  have hoff:=alL hoff;subst hoff;have hRf:=hR.freeze (IC s);have hv:=hR.tmps t;rw[Qe]at hv;obtain⟨b,cs0,_,hγ,hval⟩:=hv;obtain⟨b',arr,ty,g1,g2,g3⟩:=hRf.ah o _ hcs;have g1:γ' o=.pointer (some ⟨b',0,none⟩):=g1;have hγ:γ' o=.pointer (some ⟨b,0,none⟩):=hγ;rw[hγ]at g1;cases g1;have hblk:blk (γ' o)=some b:=by rw[hγ];rfl
  have hlt:=hRf.lt o _ b hcs hblk
  let γ2:Nat->Value:=λ_=>γ' o
  let Z:V:=⟨w',w.heap.size,oz S args (loses sh) γ,γ2,look (Out.take k ⟨[],some (fM l d)⟩).2⟩
  have hlook:∀q y,look (Out.take k ⟨[],some (fM l d)⟩).2 q=some y->q=k-1/\y=.var (fM l d):=by
   intro q y hq;have hmem:=qH _ q y hq;have:(q,y)=(k-1,.var (fM l d)):=by simpa[Out.take]using hmem
   exact⟨congrArg Prod.fst this,congrArg Prod.snd this⟩
  have CG:∀fr b',(aj w (Qk args γ S) γ' (s.freeze (IC s)) w').bG fr b'->Z.bG fr b':=by intro fr b' hb';refine⟨⟨hb'.1.1,λhlt'=>⟨hb'.1.2.1 hlt',λq y hq=>by rw[Mc]at hq;cases hq⟩,λq y hq=>?_⟩,hb'.2⟩;exact hb'.1.2.2 o _ hcs
  have hcells:ai Z (fM l d) arr.toList:=
   Bh (Y:=aj w (Qk args γ S) γ' (s.freeze (IC s)) w') (Z:=Z) rfl CG _ _ (Kq l cs d hd hnr) (Ar l cs d _ hd g3)
  have hself:look (Out.take k ⟨[],some (fM l d)⟩).2 (k-1)=some (.var (fM l d)):=by simp[Out.take,look]
  refine⟨hR.defers,a'.tmps.getD t undef,?_,d,he',_,γ2,rfl,hR.os,hR.tape,hR.output,hR.grow,hR.kept,?_,λq y hq=>?_,λq y q' y' b' hq hq' hne'=>?_,λq y hq=>by rw[Mc]at hq;cases hq⟩
  .have:fn.results=#[.tmp t]:=by apply ang;simpa using hrv
   have hmap:(Array.mapM (Ew a'.tmps) #[ResultVar.tmp t]).run P w'=.ok #[a'.tmps.getD t undef] w':=by rw[an7,Sem.run_map];simp only[aoU,List.mapM_nil,Ew];rfl
   rw[L9,this,al1,hmap];rfl
  .exact⟨b,fM l d,hself,hγ,hval⟩
  .obtain⟨rfl,rfl⟩:=hlook q y hq;refine⟨⟨b,arr,ty,hγ,g2,hcells⟩,λb' hb'=>?_⟩;have hb':blk (γ' o)=some b':=hb';rw[hblk]at hb';cases hb';exact⟨hlt.1,hlt.2,λq y hq=>by rw[Mc]at hq;cases hq⟩
  .obtain⟨rfl,_⟩:=hlook q y hq;obtain⟨rfl,_⟩:=hlook q' y' hq';exact(hne' rfl).elim
 cases e with
 |normal=>exact hfin
 |ret=>exact hfin
 |_=>exact he.elim
end Go.Fw
namespace Go.Fw
open Go
def CT.isZero:CT->Value->Bool
 |.int k,.int l n=>decide (k=l)&&decide (n=0)
 |.bool,.bool b=>!b
 |.str,.string s=>s.data.toList.isEmpty
 |.sl _ _,.slice none 0 0=>true
 |_,_=>false
def au.Kr:au->List Value->Bool
 |.nil,[]=>true
 |.cons c r,v::vs=>c.isZero v&&r.Kr vs
 |_,_=>false
theorem CT.af6:∀(c:CT)(v:Value),c.isZero v=true->v=c.YS:=by
 intro c v h;unfold CT.isZero at h;split at h
 .simp at h;rw[h.1,h.2];rfl
 .simp at h;subst h;rfl
 .next s=>obtain⟨⟨l⟩⟩:=s;simp at h;subst h;rfl
 .rfl
 .cases h
theorem au.Xl:∀(r:au)(vs:List Value),r.Kr vs=true->vs=r.jd
 |.nil,[],_=>rfl
 |.cons c r,v::vs,h=>by
  rw[Kr,alK]at h;rw[au.jd,CT.af6 c v h.1,au.Xl r vs h.2]
 |.nil,_::_,h|.cons _ _,[],h=>by simp[Kr]at h
def ab2:TypeDesc->TypeDesc->Bool
 |.int k,.int l=>decide (k=l)
 |.bool,.bool=>true
 |.string,.string=>true
 |.slice e,.slice f=>Nat.beq e f
 |_,_=>false
theorem af7:∀(c d:TypeDesc),ab2 c d=true->c=d:=by
 intro c d h;unfold ab2 at h;split at h
 .rw[am2 h]
 .rfl
 .rfl
 .rw[alL h]
 .cases h
def GH(P:Program):List (Nat×TypeId)->List Field->Bool
 |[],[]=>true
 |(o,t)::r,f::fs=>Nat.beq o f.offset&&Nat.beq t f.type&&(P.info? f.type).isSome&&GH P r fs
 |_,_=>false
theorem Us{P:Program}:∀(l:List (Nat×TypeId))(fs:List Field),GH P l fs=true->l=fs.map (λf=>(f.offset,f.type))/\∀f∈fs,(P.info? f.type).isSome=true
 |[],[],_=>⟨rfl,by simp⟩
 |(o,t)::r,f::fs,h=>by
  rw[GH,alK,alK,alK]at h;obtain⟨⟨⟨h1,h2⟩,h3⟩,h4⟩:=h;obtain⟨e,hall⟩:=Us r fs h4;refine⟨by rw[al8,← e,alL h1,alL h2],λg hg=>?_⟩;rcases ame.1 hg with rfl|hg
  .exact h3
  .exact hall g hg
 |[],_::_,h|_::_,[],h=>by simp[GH]at h
def af8(P:Program)(t:TypeId)(ti:TI):Bool:=
 match ti.kind,P.underlying t with
 |.scalar,some d=>match ti.cells.desc with|some c=>ab2 c d|none=>false
 |.str,some .string=>ti.cells.beq (.cons .str .nil)
 |.slice e,some (.slice f)=>Nat.beq e f&&(match ti.cells with|.cons (.sl g _) .nil=>Nat.beq g e|_=>false)
 |.struct fs,some (.struct vM)=>GH P fs vM.toList
 |_,_=>false
def adZ(ti:TI)(z:Value):Bool:=match ti.kind with
 |.struct _=>true
 |_=>z.oneCell'
def Y5(P:Program)(t:TypeId)(ti:TI):Bool:=
 match P.info? t with
 |some i=>match i.zero with
  |some z=>Nat.beq i.size ti.cells.len&&Nat.beq i.bytes ti.bytes&&ti.cells.Kr z.cells.toList&&adZ ti z&&af8 P t ti&&Nat.ble ti.bytes 4096&&(!ti.cmp||aeu P t ti.cells)
  |none=>false
 |none=>false
theorem jF.ag0{P:Program}{t:TypeId}{ti:TI}(h:Y5 P t ti=true):jF P t ti:=by
 unfold Y5 at h;split at h
 .next i hi=>
  split at h
  .next z hz=>
   simp only[alK]at h;obtain⟨⟨⟨⟨⟨⟨h1,h2⟩,h3⟩,h4⟩,h5⟩,h6⟩,h7⟩:=h;refine⟨⟨i,z,hi,alL h1,alL h2,hz,au.Xl _ _ h3,λhagg=>?_⟩,?_,by simpa[anY]using h6,λe w s u X xs ys vs us b hf hx hy he=>ah6 (by rw[e]at h7;simpa using h7) w s u X xs ys vs us b hf hx hy he⟩
   .unfold adZ at h4;unfold TI.agg at hagg;split at h4
    .next hk=>rw[hk]at hagg;cases hagg
    .exact Cc z h4
   .unfold af8 at h5;split at h5
    .next d hk hu=>
     rw[hk];split at h5
     .next c hc=>exact⟨d,by rw[hc,af7 c d h5],hu⟩
     .cases h5
    .next hk hu=>rw[hk];exact⟨hu,au.eq_of_beq _ _ h5⟩
    .next e f hk hu=>
     rw[hk];rw[alK]at h5;have hef:=alL h5.1;subst hef;refine⟨hu,?_⟩;have h52:=h5.2;split at h52
     .next g r hg=>exact⟨r,by rw[hg,alL h52]⟩
     .cases h52
    .next fs vM hk hu=>rw[hk];obtain⟨e,hall⟩:=Us _ _ h5;exact⟨vM,hu,e,hall⟩
    .cases h5
  .cases h
 .cases h
def Kt(P:Program):List (Nat×TI)->Bool
 |[]=>true
 |(t,ti)::r=>Y5 P t ti&&Kt P r
theorem ab3{P:Program}:∀{l:List (Nat×TI)},Kt P l=true->∀t ti,Xb l t=some ti->jF P t ti
 |[],_,t,ti,h=>by cases h
 |(i,x)::r,hc,t,ti,h=>by
  rw[Kt,alK]at hc;rw[Xb]at h;cases hb:Nat.beq t i with
  |true=>rw[hb]at h;cases h;rw[alL hb];exact .ag0 hc.1
  |false=>rw[hb]at h;exact ab3 hc.2 t ti h
def SK(fn:Func):Bool:=fn.body.isSome&&!(fn.name== "runtime.NumGoroutine")
theorem nR{P:Program}{f:FuncId}{fn:Func}(hf:P.funcs[f]? =some fn)(hc:SK fn=true):lg P f:=by
 intro args w;unfold SK at hc;rw[alK]at hc;have h1:(fn.name== "runtime.NumGoroutine")=false:=by simpa using hc.2
 have h2:fn.body.isNone=false:=by cases hb:fn.body with|none=>rw[hb]at hc;simp at hc|some _=>rfl
 unfold callFunc;simp only[al1,run_program,amr,hf,h1,h2,ana,anX,amI]
def af9(P:Program)(G:iR)(f:FuncId):EM->Prop
 |.pure c=>lT P G f c/\lg P f
 |.eff _ c=>xQ P G f c/\lg P f
theorem aga{P:Program}{G:iR}{Θ:iE}(hT:∀t ti,Θ t=some ti->jF P t ti):∀{l:List (Nat×EM)},(∀x∈l,af9 P G x.1 x.2)->EnvB P G Θ (Ip l)
 |[],_=>⟨hT,(λf con h=>by cases h),(λf ms con h=>by cases h)⟩
 |(i,c)::r,h=>by
  have ih:=aga (G:=G) hT λx hx=>h x (alU _ hx);refine⟨hT,λf con hf=>?_,λf ms con hf=>?_⟩
  .rw[Ip]at hf;cases hb:Nat.beq f i with
   |true=>rw[hb]at hf;cases hf;rw[alL hb];exact h (i,.pure con) alW
   |false=>rw[hb]at hf;exact ih.cons f con hf
  .rw[Ip]at hf;cases hb:Nat.beq f i with
   |true=>rw[hb]at hf;cases hf;rw[alL hb];exact h (i,.eff ms con) alW
   |false=>rw[hb]at hf;exact ih.abb f ms con hf
end Go.Fw
namespace Go.Fw
open Go
structure PA where
 n:Nat
 sh:List gm
 dh:List ny
 F:jl sh->Prop×oK dh
structure XA where
 n:Nat
 sh:List fO
 dh:List qx
 F:kR sh->Prop×(uJ dh×rY sh->Prop)
structure QA where
 n:Nat
 sh:List fO
 dh:List fE
 F:kR sh->Prop×(jK dh->Prop)
def PA.e(q:PA):Nat×EM:=(q.n,.pure (vG q.sh q.dh q.F))
def XA.e(q:XA):Nat×EM:=(q.n,.eff (Xg q.sh) (PG q.sh q.dh q.F))
def QA.e(q:QA):Nat×EM:=(q.n,.eff (Xg q.sh) (agZ q.sh q.dh q.F))
def Xm(P:Program)(G:iR)(x:Nat×EM):Prop:=af9 P G x.1 x.2
def ab4(P:Program)(G:iR):List (Nat×EM)->Prop
 |[]=>True
 |x::l=>Xm P G x/\ab4 P G l
theorem ag1{P:Program}{G:iR}{l':List (Nat×TI)}(hT:Kt P l'=true){l:List (Nat×EM)}(h:ab4 P G l):EnvB P G (Xb l') (Ip l):=
 aga (ab3 hT) (by
  induction l with
  |nil=>exactλx hx=>by cases hx
  |cons y l ih=>exact List.forall_mem_cons.2 ⟨h.1,ih h.2⟩)
def Y6:(l:List fE)->(jK l->Prop)->Prop
 |[],p=>p ()
 |c::r,p=>∀x:c.den,Y6 r λy=>p (x,y)
theorem Ku:∀{l:List fE}{p:jK l->Prop},Y6 l p->∀x,p x
 |[],_,h,()=>h
 |_::_,_,h,(x,y)=>Ku (h x) y
def aeO:(l:List (List fE))->(yu l->Prop)->Prop
 |[],p=>p ()
 |c::r,p=>Y6 c λx=>aeO r λy=>p (x,y)
theorem ab5:∀{l:List (List fE)}{p:yu l->Prop},aeO l p->∀x,p x
 |[],_,h,()=>h
 |_::_,_,h,(x,y)=>ab5 (Ku h x) y
def ag2:(s:gm)->(s.den->Prop)->Prop
 |.v (.one c),p=>∀x:c.den,p x
 |.v (.agg l),p=>Y6 l p
 |.kp l,p=>Y6 l p
 |.fn _ l,p=>aeO l p
theorem ad1:∀{s:gm}{p:s.den->Prop},ag2 s p->∀x,p x
 |.v (.one _),_,h,x=>h x
 |.v (.agg _),_,h,x=>Ku h x
 |.kp _,_,h,x=>Ku h x
 |.fn _ _,_,h,x=>ab5 h x
def aeP:(l:List gm)->(jl l->Prop)->Prop
 |[],p=>p ()
 |s::r,p=>ag2 s λx=>aeP r λy=>p (x,y)
theorem ab6:∀{l:List gm}{p:jl l->Prop},aeP l p->∀x,p x
 |[],_,h,()=>h
 |_::_,_,h,(x,y)=>ab6 (ad1 h x) y
def aiM:(s:fO)->(s.den->Prop)->Prop
 |.p s,p=>ag2 s p
 |.own _ r,p=>∀x:List r.den,p x
 |.ptr l,p=>Y6 l p
theorem aie:∀{s:fO}{p:s.den->Prop},aiM s p->∀x,p x
 |.p _,_,h,x=>ad1 h x
 |.own _ _,_,h,x=>h x
 |.ptr _,_,h,x=>Ku h x
def abg:(l:List fO)->(kR l->Prop)->Prop
 |[],p=>p ()
 |s::r,p=>aiM s λx=>abg r λy=>p (x,y)
theorem Vj:∀{l:List fO}{p:kR l->Prop},abg l p->∀x,p x
 |[],_,h,()=>h
 |_::_,_,h,(x,y)=>Vj (aie h x) y
abbrev LP{α:Type}(x:α)(f:(α->Prop)->(α->Nat)->α->Prop):Prop:=∃(I:α->Prop),∃(μ:α->Nat),I x/\∀(y:α),I y->f I μ y
abbrev NX{σ α:Type}(s:σ)(I:α->Prop)(μ:α->Nat)(x y:α):Prop:=s=s/\I x/\μ x<μ y
def H0:Hints:=hints [] [] [] [] []
def yE(P:Program)(n:Nat):Func:=match P.funcs[n]? with|some f=>f|none=>default
def EC(P:Program)(n k:Nat):Bool:=P.funcs[n]?.isSome&&SK (yE P n)&&Nat.ble k (yE P n).ntmps
theorem Qm{P:Program}{n k:Nat}(h:EC P n k=true):P.funcs[n]? =some (yE P n)/\(yE P n).body=some (codeOf (yE P n))/\lg P n/\Nat.ble k (yE P n).ntmps=true:=by
 simp only[EC,alK]at h;obtain⟨⟨h1,h2⟩,h3⟩:=h;have e:P.funcs[n]? =some (yE P n):=by
  unfold yE;cases hf:P.funcs[n]? with
  |some f=>rfl
  |none=>rw[hf]at h1;cases h1
 refine⟨e,?_,nR e h2,h3⟩;have h4:=h2;unfold SK at h4;rw[alK]at h4;unfold codeOf;cases hb:(yE P n).body with
 |some c=>rfl
 |none=>rw[hb]at h4;cases h4.1
def PA.goal(q:PA)(g:(oK q.dh->Prop)->Prop)(x:jl q.sh):Prop:=FD q.sh x->(q.F x).1->g λr=>r=(q.F x).2
def XA.goal(q:XA)(g:(uJ q.dh×rY q.sh->Prop)->Prop)(x:kR q.sh):Prop:=II q.sh x->(q.F x).1->g (q.F x).2
def QA.goal(q:QA)(g:(jK q.dh->Prop)->Prop)(x:kR q.sh):Prop:=II q.sh x->(q.F x).1->g (q.F x).2
variable {P:Program} {Θ:iE} {Γ:jy} {G:iR}
theorem PA.ok{q:PA}(hm:P.follows .mixedOrders=true)(hE:EnvB P G Θ Γ)(H:Hints){p:Prop}
 (hp:(bif EC P q.n q.sh.length then aeP q.sh λx=>q.goal (λK=>CP Θ Γ H (codeOf (yE P q.n)) (Xd Θ (yE P q.n).results.toList q.dh K) (entry (yE P q.n).ntmps (qI q.sh x))) x else False)=p) (h:p):Xm P G q.e:=by
 subst hp;cases hc:EC P q.n q.sh.length with
 |false=>rw[hc]at h;exact h.elim
 |true=>rw[hc]at h;obtain⟨h1,h2,h3,h4⟩:=Qm hc;exact⟨YZ hE hm h1 h2 H h4 λx hi hx=>ab6 h x hi hx,h3⟩
theorem XA.ok{q:XA}(hm:P.follows .mixedOrders=true)(hE:EnvB P G Θ Γ)(H:Hints)(hne:∀x,(q.F x).1->∃t,(q.F x).2 t){p:Prop}
 (hp:(bif EC P q.n q.sh.length then abg q.sh λx=>q.goal (λK=>CP Θ Γ H (codeOf (yE P q.n)) (abe Θ (yE P q.n).results.toList q.sh q.dh K) (Aw (yE P q.n).ntmps (o8 q.sh x))) x else False)=p) (h:p):Xm P G q.e:=by
 subst hp;cases hc:EC P q.n q.sh.length with
 |false=>rw[hc]at h;exact h.elim
 |true=>rw[hc]at h;obtain⟨h1,h2,h3,h4⟩:=Qm hc;exact⟨aic hE hm h1 h2 H h4 hne λx hi hx=>Vj h x hi hx,h3⟩
theorem QA.ok{q:QA}(hm:P.follows .mixedOrders=true)(hE:EnvB P G Θ Γ)(H:Hints)(hne:∀x,(q.F x).1->∃t,(q.F x).2 t){p:Prop}
 (hp:(bif EC P q.n q.sh.length then abg q.sh λx=>q.goal (λK=>CP Θ Γ H (codeOf (yE P q.n)) (abf (yE P q.n).results.toList q.dh K) (Aw (yE P q.n).ntmps (o8 q.sh x))) x else False)=p) (h:p):Xm P G q.e:=by
 subst hp;cases hc:EC P q.n q.sh.length with
 |false=>rw[hc]at h;exact h.elim
 |true=>rw[hc]at h;obtain⟨h1,h2,h3,h4⟩:=Qm hc;exact⟨aid hE hm h1 h2 H h4 hne λx hi hx=>Vj h x hi hx,h3⟩
end Go.Fw
namespace Go.Fw
open Go
variable {P:Program} {G:iR} {f:FuncId}
abbrev rD:List UInt8:=[]
abbrev DY:List (Int×Unit):=[]
theorem lT.weaken{con ab7:Il}(h:lT P G f con)(hc:∀args p out,ab7 args=some (p,out)->p->∃q,con args=some (q,out)/\q):lT P G f ab7:=by intro args p out k S vs w hcon hp hG hrep;obtain⟨q,h1,h2⟩:=hc args p out hcon hp;exact h args q out k S vs w h1 h2 hG hrep
theorem xQ.weaken{con ab7:LD}(h:xQ P G f con)(hc:∀args p ρ,ab7 args=some (p,ρ)->p->∃q,con args=some (q,ρ)/\q):xQ P G f ab7:=by intro args p ρ hcon hp;obtain⟨q,h1,h2⟩:=hc args p ρ hcon hp;exact h args q ρ h1 h2
theorem agb{sh:List gm}{dh:List ny}{F:jl sh->Prop×oK dh}(Fr Fs:Nat->jl sh->Prop×oK dh)(h0:∀x,¬(Fr 0 x).1)(hs:∀n x,Fr (n+1) x=Fs n x)
 (hf:∀x,(F x).1->∃n,(Fr n x).1) (he:∀n x,(Fr n x).2=(F x).2) (step:∀n,lT P G f (vG sh dh (Fr n))->lT P G f (vG sh dh (Fs n))):lT P G f (vG sh dh F):=by
 have all:∀n,lT P G f (vG sh dh (Fr n)):=by
  intro n
  induction n with
  |zero=>
   intro args p out k S vs w hcon hp;unfold vG CS at hcon;split at hcon
   .next x _=>have e:(Fr 0 x).1=p:=congrArg Prod.fst (Option.some.inj hcon);exact absurd (e.symm▸hp) (h0 x)
   .cases hcon
  |succ n ih=>have:=step n ih;have e:Fr (n+1)=Fs n:=funext (hs n);rw[e];exact this
 intro args p out k S vs w hcon hp hG hrep;have abh:=hcon;unfold vG CS at abh;split at abh
 .next x hx=>have e:=Option.some.inj abh;have e1:(F x).1=p:=congrArg Prod.fst e;obtain⟨n,hn⟩:=hf x (e1.symm▸hp);refine all n args (Fr n x).1 out k S vs w ?_ hn hG hrep;unfold vG CS;rw[hx];show some ((Fr n x).1,_)=_;rw[he n x];exact congrArg (λz=>some ((Fr n x).1,z)) (congrArg Prod.snd e)
 .cases abh
end Go.Fw
namespace Go.Fw
open Go
variable {P:Program} {H:Type} {enc:TypeId×Value->H} {w:World}
def au.app:au->au->au
 |.nil,s=>s
 |.cons c r,s=>.cons c (r.app s)
def abj:(r s:au)->r.den->s.den->(r.app s).den
 |.nil,_,_,y=>y
 |.cons _ r,s,x,y=>(x.1,abj r s x.2 y)
theorem aS.app{h:Array Obj}{S:Nat->Prop}:∀(r s:au)(x:r.den)(y:s.den)(vs us:List Value),aS h S r vs x->aS h S s us y->aS h S (r.app s) (vs++us) (abj r s x y)
 |.nil,s,x,y,vs,us,h1,h2=>by rw[aS]at h1;subst h1;exact h2
 |.cons c r,s,(x,x'),y,vs,us,h1,h2=>by rw[aS]at h1;obtain⟨v,vs',rfl,g1,g2⟩:=h1;show aS h S (.cons c (r.app s)) (v::(vs'++us)) (x,abj r s x' y);rw[aS];exact⟨v,vs'++us,rfl,g1,aS.app r s x' y vs' us g2 h2⟩
theorem add_add(a:Addr)(h:a.spot=none)(m j:Nat):(a.add m).add j=⟨a.block,a.off+m+j,none⟩:=by
 obtain⟨b,o,sp⟩:=a;simp only at h;subst h;unfold Addr.add;by_cases hm:m=0
 .by_cases hj:j=0
  .simp[hm,hj]
  .simp[hm,hj]
 .by_cases hj:j=0
  .simp[hm,hj]
  .simp[hm,hj]
def IJ(f:TypeId->Option au):List Field->Nat->Option au
 |[],_=>some .nil
 |x::r,off=>match f x.type with
  |some s=>match IJ f r (off+s.len),Nat.beq x.offset off with
   |some u,true=>some (s.app u)
   |_,_=>none
  |none=>none
def rowOf(P:Program):Nat->TypeId->Option au
 |0,_=>none
 |n+1,t=>match P.underlying t with
  |some (.int k)=>some (.cons (.int k) .nil)
  |some .bool=>some (.cons .bool .nil)
  |some .string=>some (.cons .str .nil)
  |some (.slice e)=>match rowOf P n e with
   |some s=>match Nat.beq s.len (P.cellsOf e)&&Nat.ble 1 s.len with
    |true=>some (.cons (.sl e s) .nil)
    |false=>none
   |none=>none
  |some (.struct fs)=>match IJ (rowOf P n) fs.toList 0 with
   |some r=>match Nat.beq r.len (P.cellsOf t)with
    |true=>match fs.toList.all λf=>match rowOf P n f.type with|some s=>Nat.beq s.len (P.cellsOf f.type)|none=>false with
     |true=>some r
     |false=>none
    |false=>none
   |none=>none
  |_=>none
theorem ad2{α:Type}{Q:Nat->α->Prop}:∀(n:Nat),(∀i,i<n->∃x,Q i x)->∃l:List α,l.length=n/\∀i x,l[i]? =some x->Q i x
 |0,_=>⟨[],rfl,λi x h=>by simp at h⟩
 |n+1,h=>by
  obtain⟨l,hl,hq⟩:=ad2 n λi hi=>h i (by omega);obtain⟨x,hx⟩:=h n (by omega);refine⟨l++[x],by simp[hl],λi y hy=>?_⟩;rcases al4 i n with hi|hi
  .rw[amf (by omega)]at hy;exact hq i y hy
  .rw[al6 (by omega)]at hy;have:i=n:=by
    rcases al4 n i with h'|h'
    .rw[amz (by simp;omega)]at hy;cases hy
    .omega
   subst this;simp[hl]at hy;rw[← hy];exact hx
theorem ad3:∀(r s:au),(r.app s).len=r.len+s.len
 |.nil,s=>by simp[au.app,au.len]
 |.cons c r,s=>by simp only[au.app,au.len,ad3 r s];omega
theorem Xn{f:TypeId->Option au}{S:Nat->Prop}{h:Array Obj}(cs:List Value)
 (part:∀(t:TypeId)(r:au)(off:Nat),f t=some r->(∃g:Field,g.type=t/\g.offset=off)->True):∀(fs:List Field)(off:Nat)(r:au),IJ f fs off=some r->
 (∀g∈fs,∀s,f g.type=some s->∃x,aS h S s ((cs.drop g.offset).take s.len) x)->
 ∃x,aS h S r ((cs.drop off).take r.len) x
 |[],off,r,hr,_=>by
  cases hr;exact⟨(),by rw[aS];simp[au.len]⟩
 |g::fs,off,r,hr,hall=>by
  rw[IJ]at hr;split at hr
  .next s hs=>
   split at hr
   .next u hu hb=>
    cases hr;obtain⟨x,hx⟩:=hall g alW s hs;rw[alL hb]at hx;obtain⟨y,hy⟩:=Xn cs part fs (off+s.len) u hu λg' hg'=>hall g' (alU _ hg');refine⟨abj s u x y,?_⟩;have:=aS.app s u x y _ _ hx hy;rw[ad3];have e:(cs.drop off).take (s.len+u.len)=(cs.drop off).take s.len++(cs.drop (off+s.len)).take u.len:=by rw[List.take_add,ani]
    rw[e];exact this
   .cases hr
  .cases hr
theorem Vk:∀(n:Nat)(t:TypeId)(r:au),rowOf P n t=some r->∀(m:Nat)(base:Nat)(spare:Nat->Bool)(held:Bool)(cs:List Value)(x:DataW H×List MemPlace),
 DataW.trod enc P w base spare held m t cs=some x->∃y,aS w.heap (λb=>b<w.heap.size) r cs y
 |0,t,r,hr=>by cases hr
 |n+1,t,r,hr=>by
  intro m base spare held cs x hx;rw[rowOf]at hr;split at hr
  .next k hu=>cases hr;obtain⟨i,rfl,_,hwf⟩:=DataW.trod_int hu hx;simp only[Lit.wf,alK,alX]at hwf;exact⟨(i,()),by rw[aS];exact⟨_,[],rfl,by rw[iw];exact⟨rfl,hwf⟩,by rw[aS]⟩⟩
  .next hu=>cases hr;obtain⟨b,rfl,_⟩:=DataW.trod_bool hu hx;exact⟨(b,()),by rw[aS];exact⟨_,[],rfl,by rw[iw],by rw[aS]⟩⟩
  .next hu=>cases hr;obtain⟨s,rfl,_,hs⟩:=DataW.trod_string hu hx;refine⟨(s.data.toList,()),by rw[aS];exact⟨_,[],rfl,by rw[iw];exact⟨by simp,by simpa using hs⟩,by rw[aS]⟩⟩
  .next e hu=>
   split at hr
   .next s hs=>
    split at hr
    .next hb=>
     cases hr;rw[alK]at hb;have hlen:=alL hb.1;have hpos:1<=s.len:=by simpa[anY]using hb.2
     rcases DataW.trod_slice hu hx with⟨rfl,_⟩|⟨a,len,cap,elems,rest,k,_,rfl,_,hbase,hle,hmax,hel,hrow,_,_⟩
     .exact⟨([],()),by rw[aS];exact⟨_,[],rfl,by rw[iw];exact⟨by simp,.inl ⟨rfl,none,0,rfl⟩⟩,by rw[aS]⟩⟩
     .by_cases h0:len=0
      .subst h0;exact⟨([],()),by rw[aS];exact⟨_,[],rfl,by rw[iw];exact⟨by simp,.inl ⟨rfl,some a,cap,rfl⟩⟩,by rw[aS]⟩⟩
      .have each:∀i,i<len->∃(ys:List Value)(z:s.den),w.cells? base (a.add (i*P.cellsOf e)) (P.cellsOf e)=some ys/\aS w.heap (λb=>b<w.heap.size) s ys z:=by intro i hi;have h1:=hrow i hi;rw[alO (by omega)]at h1;obtain⟨ys,hys,hy2⟩:=Option.bind_eq_some_iff.1 h1;obtain⟨z,hz⟩:=Vk n e s hs k base spare held ys _ hy2;exact⟨ys,z,hys,hz⟩
       obtain⟨ys0,z0,hc0,hz0⟩:=each 0 (by omega);obtain⟨_,hl0,hcell0⟩:=World.cells?_some hc0;have Vl:=hcell0 0 (by omega);simp only[ant,Addr.add,if_true]at Vl;have akm:∃v,ys0[0]? =some v:=⟨ys0[0]'(by omega),by simp[show 0<ys0.length by omega]⟩;obtain⟨v0,hv0⟩:=akm;rw[hv0]at Vl;unfold World.cell? at Vl;split at Vl
       .next c ty fz hblk=>
        split at Vl
        .cases Vl
        .next hsp=>
         have hspot:a.spot=none:=by cases h:a.spot with|none=>rfl|some q=>rw[h]at hsp;simp at hsp
         have ha:a=⟨a.block,a.off,none⟩:=by cases a;simp at hspot;rw[hspot]
         have hb':a.block<w.heap.size:=by obtain⟨hlt,_⟩:=amj.1 hblk;exact hlt
         have rows:∀i,i<len->∃z:s.den,aS w.heap (λb=>b<w.heap.size) s ((c.toList.drop (a.off+i*s.len)).take s.len) z:=by
          intro i hi;obtain⟨ys,z,hcs,hz⟩:=each i hi;obtain⟨_,hl,hcell⟩:=World.cells?_some hcs;refine⟨z,?_⟩;have:(c.toList.drop (a.off+i*s.len)).take s.len=ys:=by
           refine am7 λj=>?_;rcases al4 j s.len with hj|hj
           .rw[am4 hj,amb];have h2:=hcell j (by omega);have hadd:=add_add a hspot (i*P.cellsOf e) j;rw[← hlen]at hadd h2;rw[hadd]at h2;unfold World.cell? at h2;simp only[hblk,Option.isSome_none,ana,anX]at h2;rw[← h2];simp
           .rw[amz (by simp;omega),amz (by omega)]
          rw[this];exact hz
         obtain⟨l,hll,hlq⟩:=ad2 len rows;refine⟨(l,()),by rw[aS];exact⟨_,[],rfl,by rw[iw];exact⟨by omega,.inr ⟨a.block,a.off,cap,c,ty,fz,by rw[hll,← ha],by omega,hb',hblk,hlq⟩⟩,by rw[aS]⟩⟩
       .cases Vl
    .cases hr
   .cases hr
  .next fs hu=>
   split at hr
   .next r' hf=>
    split at hr
    .next hb=>
     split at hr
     .next hall=>
      cases hr;obtain⟨xs,k,_,_,hcl,hxl,hparts⟩:=DataW.trod_struct hu hx;have hlen:=alL hb;have:=Xn (h:=w.heap) (S:=λb=>b<w.heap.size) cs (λ_ _ _ _ _=>trivial) fs.toList 0 _ hf ?_
      .obtain⟨y,hy⟩:=this;refine⟨y,?_⟩;rw[anD,amT (by omega)]at hy;exact hy
      .intro g hg s hs;have hg2:=al0.1 hall g hg;rw[hs]at hg2;have hsl:=alL hg2;obtain⟨i,hi,hgi⟩:=an1.1 hg;have hp:=hparts i g (by rw[← hgi];simp[show i<fs.size by simpa using hi]);rw[alO (by simp at hi;omega)]at hp;rw[hsl];exact Vk n g.type s hs k base spare held _ _ hp
     .cases hr
    .cases hr
   .cases hr
  .cases hr
def CT.csh:CT->fE
 |.int k=>.int k
 |.bool=>.bool
 |.str=>.str
 |.sl e r=>.sl e r false
def toC:(c:CT)->c.den->c.csh.den
 |.int _,x=>x
 |.bool,x=>x
 |.str,x=>x
 |.sl _ _,x=>x
def au.shs:au->List fE
 |.nil=>[]
 |.cons c r=>c.csh::r.shs
def toCs:(r:au)->r.den->jK r.shs
 |.nil,_=>()
 |.cons c r,x=>(toC c x.1,toCs r x.2)
theorem Y7(X:V):∀(r:au)(vs:List Value)(x:r.den),aS X.w.heap (X.bG false) r vs x->ai X (fM r.shs (toCs r x)) vs
 |.nil,vs,x,h=>by rw[aS]at h;subst h;trivial
 |.cons c r,vs,(x,y),h=>by
  rw[aS]at h;obtain⟨v,vs',rfl,h1,h2⟩:=h;refine⟨?_,Y7 X r vs' y h2⟩;cases c with
  |int k=>exact h1
  |bool=>exact h1
  |str=>exact h1
  |sl e r=>exact h1
def aeQ(P:Program)(t:TypeId):Option ny:=
 match rowOf P 64 t with
 |some r=>match P.underlying t with
  |some (.struct _)=>some (.agg r.shs)
  |some (.array _ _)=>none
  |_=>match r with
   |.cons c .nil=>some (.one c.csh)
   |_=>none
 |none=>none
def GI(P:Program):List TypeId->Option (List gm)
 |[]=>some []
 |t::ts=>match aeQ P t,GI P ts with
  |some s,some l=>some (.v s::l)
  |_,_=>none
def start(w:World):V:=⟨w,w.heap.size,λb=>b<w.heap.size,λ_=>undef,λ_=>none⟩
theorem aif{t:TypeId}{s:ny}(hs:aeQ P t=some s){base base':Nat}{sp:Nat->Bool}{hd:Bool}{v:Value}{d:DataW H}{p:List MemPlace}
 (ht:DataW.Trod enc P w base sp hd t v d p) (hv:Value.okWide P w .any base' t v):∃x:s.den,cO (start w) (s.val x) v:=by
 unfold aeQ at hs;split at hs
 .next r hr=>
  obtain⟨m,hm⟩:=ht;obtain⟨y,hy⟩:=Vk 64 t r hr m base sp hd _ _ hm;have hy':aS (start w).w.heap ((start w).bG false) r v.cells.toList y:=
   aS.mono (λb hb=>⟨⟨⟨hb,λ_=>hb,λo x hx=>by cases hx⟩,λe=>by cases e⟩,rfl⟩) r _ y hy
  unfold Value.okWide at hv;split at hs
  .next fs hu=>cases hs;rw[hu]at hv;obtain⟨cs,rfl,_,_⟩:=hv;exact⟨toCs r y,cs,rfl,Y7 (start w) r _ y hy'⟩
  .cases hs
  .next hns hna=>
   split at hs
   .next c=>
    cases hs;have hcell:v.cells=#[v]:=by
     cases hv2:v<;>first
      |rfl
      |(exfalso
        rw[hv2]at hv;split at hv
        .next hu=>exact hns _ hu
        .next hu=>exact hna _ _ hu
        .unfold Go.Cell.okWide at hv;split at hv<;>first|(rename_i h1 h2;cases h2;done)|(rename_i h2;cases h2;done)|skip;unfold Go.Cell.ok at hv;split at hv<;>first|(rename_i h1 h2;cases h2;done)|exact hv)
    have:=Y7 (start w) _ _ y hy';rw[hcell]at this;exact⟨toC c y.1,this.1⟩
   .cases hs
 .cases hs
theorem ab8:∀(ts:List TypeId)(sh:List gm),GI P ts=some sh->∀{base base':Nat}{sp:Nat->Bool}{hd:Bool}(vs:List Value)(ds:List (DataW H))(p:List MemPlace),
 DataW.TrodAll enc P w base sp hd ts vs ds p->(∀(j:Nat) t v,ts[j]? =some t->vs[j]? =some v->Value.okWide P w .any base' t v)->∃x:jl sh,lJ (start w) (qI sh x) vs
 |[],sh,hs,_,_,_,_,vs,ds,p,h,_=>by
  cases hs;cases vs with
  |nil=>exact⟨(),trivial⟩
  |cons v vs=>cases ds<;>simp[DataW.TrodAll]at h
 |t::ts,sh,hs,base,base',sp,hd,vs,ds,p,h,hok=>by
  rw[GI]at hs;split at hs
  .next s l h1 h2=>
   cases hs;cases vs with
   |nil=>cases ds<;>simp[DataW.TrodAll]at h
   |cons v vs=>
    cases ds with
    |nil=>simp[DataW.TrodAll]at h
    |cons d ds=>obtain⟨a,b,g1,g2,_⟩:=h;obtain⟨x,hx⟩:=aif h1 g1 (hok 0 t v rfl rfl);obtain⟨y,hy⟩:=ab8 ts l h2 vs ds b g2 λj t' v' ht' hv'=>hok (j+1) t' v' (by simpa using ht') (by simpa using hv');exact⟨(x,y),hx,hy⟩
  .cases hs
mutual
theorem CT.GK:∀(c:CT),c.beq c=true
 |.int k=>by simp[CT.beq]
 |.bool=>rfl
 |.str=>rfl
 |.sl e r=>by simp[CT.beq,au.GK r]
theorem au.GK:∀(r:au),r.beq r=true
 |.nil=>rfl
 |.cons c r=>by simp[au.beq,CT.GK c,au.GK r]
end
theorem aah:∀(c:fE)(x:c.den),c.read (c.cell x)=some x
 |.int k,x=>by simp[fE.cell,fE.read]
 |.bool,x=>rfl
 |.str,x=>rfl
 |.sl e r fr,l=>by
  simp only[fE.cell,fE.read,amq];have h1:Gx fr fr=true:=by cases fr<;>rfl
  have h2:r.beq r=true:=au.GK r;rw[h1];simp only[Bool.and_self];rw[dif_pos h2];rfl
 |.nil,x=>rfl
 |.ref o,x=>by simp[fE.cell,fE.read]
 |.junk,x=>rfl
theorem Xo:∀(l:List fE)(x:jK l),iW l (fM l x)=some x
 |[],_=>rfl
 |c::r,x=>by rw[fM,iW,aah c x.1,Xo r x.2]
theorem ab9:∀(ts:List TypeId)(l:List gm),GI P ts=some l->∀(x:jl l),CQ l (qI l x)=some x
 |[],l,h,x=>by cases h;rfl
 |t::ts,l,h,x=>by
  rw[GI]at h;split at h
  .next s r h1 h2=>
   cases h;have ih:=ab9 ts r h2 x.2;cases s with
   |one c=>
    have e:(gm.v (.one c)).read ((gm.v (.one c)).val x.1)=some x.1:=aah c x.1;rw[qI,CQ,ih,e]
   |agg l=>have e:(gm.v (.agg l)).read ((gm.v (.agg l)).val x.1)=some x.1:=Xo l x.1;rw[qI,CQ,ih,e]
  .cases h
def Y8:Out:=⟨[(false,[.plain (.bool true)])],none⟩
theorem agc{G:iR}{f:FuncId}{fn:Func}{sh:List gm}{F:jl sh->Prop×Out}(hcon:lT P G f (CS sh F))(hsh:GI P fn.params.toList=some sh)
 (hF:∀x,FD sh x->(F x).1/\(F x).2=Y8) (hG:G.ok w) {base base':Nat} {sp:Nat->Bool} {hd:Bool} {args:Array Value} {ds:List (DataW H)} {p:List MemPlace}
 (hA:DataW.TrodAll enc P w base sp hd fn.params.toList args.toList ds p) (hok:∀(j:Nat) t v,fn.params[j]? =some t->args[j]? =some v->Value.okWide P w .any base' t v):
 Calls P f args w λe w'=>e=.returned (.bool true)/\w'.os=w.os/\w'.output=w.output/\w.heap.size<=w'.heap.size/\∀b,b<w.heap.size->w'.heap[b]? =w.heap[b]? :=by
 obtain⟨x,hx⟩:=ab8 _ _ hsh _ _ _ hA λj t v ht hv=>hok j t v (by simpa using ht) (by simpa using hv);have hin:=zh sh x _ hx;obtain⟨hp,ho⟩:=hF x hin;have hc:CS sh F (qI sh x)=some ((F x).1,Y8):=by unfold CS;rw[ab9 _ _ hsh x];simp only[← ho]
 refine(hcon (qI sh x) _ _ 0 _ args w hc hp hG hx).mono ?_;rintro e w' ⟨v,vals,rfl,h1,h2,h3,h4,h5,h6,_,_⟩;have hv:v=.bool true:=h6;exact⟨by rw[hv],h1,h3,h4,h5⟩
theorem ag3{w w':World}(h1:w'.os=w.os)(h3:w'.output=w.output)(h5:∀b,b<w.heap.size->w'.heap[b]? =w.heap[b]?)(may:MemPlace->Prop):w.keptBut w' may:=by
 refine⟨h1,h3,λi hi=>?_⟩;rw[h5 i hi];cases hw:w.heap[i]? with
 |none=>trivial
 |some o=>cases o<;>simp
theorem ag4{w w':World}(h5:∀b,b<w.heap.size->w'.heap[b]? =w.heap[b]?){p:MemPlace}(hp:p.block<w.heap.size):w.sameAt w' p:=by
 cases p with
 |cell b off=>
  show w'.cell? _=w.cell? _;unfold World.cell?;simp only;rw[h5 b hp]
 |map b=>exact h5 b hp
end Go.Fw
namespace Go.Fw
open Go
variable {P:Program} {G:iR} {f:FuncId}
theorem nC.mono{X Y:V}(h:X.le Y):∀(a:Arg)(v:Value),nC X a v->nC Y a v
 |.sv x,v,H=>cO.mono h x v H
 |.kp cs,v,H=>aP.mono h (.dN cs 0) v H
 |.fn f caps,v,H=>aP.mono h (.fn f caps) v H
 |.own _ _ _,_,H|.ptr _,_,H=>H.elim
theorem Gq.mono{X Y:V}(h:X.le Y)(i:Nat):∀(a:Arg)(v:Value),Gq X i a v->Gq Y i a v
 |.own _ _ _,v,H=>aO.mono h (.ref (i*64+49)) v H
 |.ptr _,v,H=>aP.mono h (.dK (i*64+48) 0) v H
 |.sv x,v,H=>nC.mono h (.sv x) v H
 |.kp cs,v,H=>nC.mono h (.kp cs) v H
 |.fn f caps,v,H=>nC.mono h (.fn f caps) v H
theorem uS.nil{X Y:V}(h:X.le Y){e:TypeId}{r:au}:∀(args:List Arg)(vs:List Value)(j i:Nat),args[i]? =some (.sv (.one .nil))->
 Y.ah ((j+i)*64+49)=some (.arr e r [] false)->Y.γ ((j+i)*64+49)=.slice none 0 0->uS X j args vs->uS Y j (args.set i (.own e r [])) vs
 |[],[],_,i,ha,_,_,_=>by simp at ha
 |[],_::_,_,_,_,_,_,H=>H.elim
 |_::_,[],_,_,_,_,_,H=>H.elim
 |a::args,v::vs,j,0,ha,ho,hγ,⟨h1,h2⟩=>by
  have ha:a=.sv (.one .nil):=by simpa using ha
  subst ha;have hv:v=.slice none 0 0:=h1;refine⟨⟨⟨e,r,[],false,ho⟩,?_,by rw[hv];rfl⟩,?_⟩
  .rw[hv];exact hγ.symm
  .show uS Y (j+1) args vs;clear h1 ha ho hγ hv;generalize j+1=k at h2
   induction args generalizing k vs with
   |nil=>cases vs with
    |nil=>trivial
    |cons _ _=>exact h2.elim
   |cons b args ih=>cases vs with
    |nil=>exact h2.elim
    |cons u vs=>exact⟨Gq.mono h k b u h2.1,ih vs (k+1) h2.2⟩
 |a::args,v::vs,j,i+1,ha,ho,hγ,⟨h1,h2⟩=>by
  have e1:j+(i+1)=j+1+i:=by omega
  rw[e1]at ho hγ;exact⟨Gq.mono h j a v h1,uS.nil h args vs (j+1) i (by simpa using ha) ho hγ h2⟩
end Go.Fw
namespace Go.Fw
open Go
theorem af{b:Bool}{A B:Prop}(h1:b=true->A)(h2:b=false->B):cond b A B:=by
 cases b
 .exact h2 rfl
 .exact h1 rfl
theorem drop_cons{α:Type}(a:List α)(n:Nat)(d:α)(h:n<a.length):a.drop n=a.getD n d::a.drop (n+1):=by rw[anC h,alM,alO h,aog]
theorem fU(z:Int)(h:-9223372036854775808<=z/\z<=9223372036854775807):IntKind.i64.wrap z=z:=IntWalk.i64_in z (by omega)
theorem maxLen_eq:maxLen=9223372036854775807:=by decide
theorem eY:big=4294967296:=rfl
theorem getD_mem{α:Type}{l:List α}{n:Nat}{d:α}(h:n<l.length):l.getD n d∈l:=by rw[alM,alO h,aog];exact am0 h
end Go.Fw
namespace Go.Fw
open Go
end Go.Fw
namespace Go.Fw
open Go
variable {P:Program}
def mF(cur:Array Value)(o:Nat)(cs:List Value):Array Value:=(cur.toList.take o++cs++cur.toList.drop (o+cs.length)).toArray
theorem pO(cur:Array Value)(o:Nat)(cs:List Value)(h:o+cs.length<=cur.size):(mF cur o cs).size=cur.size:=by simp only[mF,anz,al7,alQ,amh,al3];omega
theorem qg(cur:Array Value)(o:Nat)(cs:List Value)(k:Nat)(h:o+cs.length<=cur.size):
 (mF cur o cs).toList[k]? =if k<o then cur.toList[k]? else if k<o+cs.length then cs[k-o]? else cur.toList[k]? :=by
 have ht:(cur.toList.take o).length=o:=by rw[alQ,al3];omega
 simp only[mF];by_cases h1:k<o
 .rw[if_pos h1,amn,amf (by omega),alZ,if_pos h1]
 .rw[if_neg h1];by_cases h2:k<o+cs.length
  .rw[if_pos h2,amn,al6 (by omega),ht,amf (by omega)]
  .rw[if_neg h2,al6 (by rw[al7];omega),al7,ht,amb];congr 1;omega
theorem aeR(R:Array Value)(a:Nat)(vs ds:List Value)(h:a+vs.length+ds.length<=R.size):
 (mF (mF R a vs) (a+vs.length) ds).toList.take (a+vs.length+ds.length)=R.toList.take a++(vs++ds):=by
 have s1:=pO R a vs (by omega);have hl:(R.toList.take a).length=a:=by rw[alQ,al3];omega
 apply am7;intro j;rw[alZ];by_cases h1:j<a
 .rw[if_pos (by omega),qg _ _ _ _ (by omega),if_pos (by omega),qg _ _ _ _ (by omega),if_pos h1,amf (by omega),alZ,if_pos h1]
 .rw[al6 (by omega),hl];by_cases h2:j<a+vs.length
  .rw[if_pos (by omega),qg _ _ _ _ (by omega),if_pos h2,qg _ _ _ _ (by omega),if_neg h1,if_pos h2,amf (by omega)]
  .rw[al6 (by omega)];by_cases h3:j<a+vs.length+ds.length
   .rw[if_pos h3,qg _ _ _ _ (by omega),if_neg h2,if_pos h3];congr 1;omega
   .rw[if_neg h3,amz (by omega)]
theorem aeS(R:Array Value)(a:Nat)(vs ds:List Value)(h:a+vs.length+ds.length<=R.size):
 (mF (mF R (a+vs.length) ds) a vs).toList.take (a+vs.length+ds.length)=R.toList.take a++(vs++ds):=by
 have s1:=pO R (a+vs.length) ds (by omega);have hl:(R.toList.take a).length=a:=by rw[alQ,al3];omega
 apply am7;intro j;rw[alZ];by_cases h1:j<a
 .rw[if_pos (by omega),qg _ _ _ _ (by omega),if_pos (by omega),qg _ _ _ _ (by omega),if_pos (by omega),amf (by omega),alZ,if_pos h1]
 .rw[al6 (by omega),hl];by_cases h2:j<a+vs.length
  .rw[if_pos (by omega),qg _ _ _ _ (by omega),if_neg h1,if_pos h2,amf (by omega)]
  .rw[al6 (by omega)];by_cases h3:j<a+vs.length+ds.length
   .rw[if_pos h3,qg _ _ _ _ (by omega),if_neg h1,if_neg h2,qg _ _ _ _ (by omega),if_neg h2,if_pos h3];congr 1;omega
   .rw[if_neg h3,amz (by omega)]
theorem acd(w:World)(g:Nat)(a b:Array Value):(w.setRow g a).setRow g b=w.setRow g b:=setRow_setRow w g a b
theorem size_setRow(w:World)(g:Nat)(a:Array Value):(w.setRow g a).heap.size=w.heap.size:=by simp[World.setRow]
theorem zN(w:World)(dT sT ty e:TypeId)(k g o dl dc:Nat)(sa:Addr)(sl sc n:Nat)(cur:Array Value)(t:TypeId)(cs:List Value)
 (hu:P.underlying dT=some (.slice e)) (hs:(P.info? e).map (·.size)=some k) (hg:w.heap[g]? =some (.cells cur t (0,0))) (hn:Nat.min sl dl=n) (hcl:cs.length=n*k)
 (hsrc:∀j v,cs[j]? =some v->w.cell? (sa.add j)=some v) (hfit:o+cs.length<=cur.size) (h1:∀v∈cs,v.oneCell'=true):
 (Builtin.copy_ #[dT,sT] ty #[.slice (some ⟨g,o,none⟩) dl dc,.slice (some sa) sl sc]).run P w=.ok (goInt n) (w.setRow g (mF cur o cs)):=by
 have hl:=run_loadCells_list (P:=P) w sa cs hsrc;have hst:=aoG P g o t cs 0 cur w hg (by simpa using hfit) h1;cases hq:P.info? e with
 |none=>simp[hq]at hs
 |some i=>
  have hi:i.size=k:=by simpa[hq]using hs
  simp[Builtin.copy_,ama hu,Builtin.lenOf,Builtin.firstCells,sizeOf,typeInfo,hq,hi,hn,← hcl,hl,hst,mF]
theorem Qn(v:Value)(h:v.ownBlock=none\/True):∀{n:Nat}{e:TypeId}{k b0:Nat}{xs:List Value}{w:World},w.ownsRow b0 e k v n xs->blk v=v.ownBlock:=by intro n e k b0 xs w hw;rcases hw.2 with⟨rfl,_⟩|⟨g,cap,cur,rfl,_⟩<;>rfl
def Xp(P:Program)(f:FuncId)(e:TypeId)(k:Nat):Prop:=
 ∀(w:World)(v u:Value)(n i:Nat)(xs ys:List Value),w.ownsRow 0 e k v n xs->w.ownsRow 0 e k u 1 ys->(∀b,v.ownBlock=some b->u.ownBlock≠some b)->i<=n->n<=1000->
  (∀x∈xs,x.oneCell'=true)->(∀x∈ys,x.oneCell'=true)->
  Calls P f #[v,.int .i64 i,u] w λen w'=>∃v',en=.returned v'/\w'.ownsRow 0 e k v' (n+1) (xs.take (i*k)++(ys++xs.drop (i*k)))/\w.grownBy w' v.ownBlock/\
   (∀g,v'.ownBlock=some g->v.ownBlock=some g\/w.heap.size<=g)
theorem ace{h:Array Obj}{S:Nat->Prop}{r:au}{xs:List Value}{l:List r.den}(hlen:xs.length=l.length*r.len)(hx:∀i x,l[i]? =some x->aS h S r ((xs.drop (i*r.len)).take r.len) x)(hpos:0<r.len):
 ∀x∈xs,x.oneCell'=true:=by
 intro x hm;obtain⟨j,hj,rfl⟩:=an1.1 hm;have hq:j / r.len<l.length:=by rw[Nat.div_lt_iff_lt_mul hpos];omega
 refine aS.ones r _ _ (hx (j / r.len) _ (alO hq)) _ ?_;refine List.mem_iff_getElem?.2 ⟨j%r.len,?_⟩;have hd:=aoO j r.len;rw[alZ,if_pos (aon _ hpos),amb,aoq,hd,alO hj]
theorem adu(xs ys:List Value)(k n i q:Nat)(hxs:xs.length=n*k)(hys:ys.length=k)(hi:i<=n):
 ((xs.take (i*k)++(ys++xs.drop (i*k))).drop (q*k)).take k=if q<i then(xs.drop (q*k)).take k else if q=i then ys else(xs.drop ((q-1)*k)).take k:=by
 have hik:i*k<=xs.length:=by rw[hxs];exact al5 _ hi
 have hlt:(xs.take (i*k)).length=i*k:=by rw[alQ];omega
 by_cases h1:q<i
 .have hqk:q*k+k<=i*k:=by
   have:(q+1)*k<=i*k:=al5 _ h1
   rwa [ami,aoS]at this
  rw[if_pos h1,am1 (by omega),amS (by rw[amh];omega),aov,anp];congr 1;omega
 .rw[if_neg h1];by_cases h2:q=i
  .subst h2;rw[if_pos rfl];have h0:(xs.take (q*k)++(ys++xs.drop (q*k))).drop (q*k)=ys++xs.drop (q*k):=by rw[am1 (by omega),anP (by omega),amU]
   rw[h0,amS (by omega),amT (by omega)]
  .rw[if_neg h2];have hqi:i+1<=q:=by omega
   have e1:q*k=i*k+(k+(q-1-i)*k):=by
    have:q=i+(1+(q-1-i)):=by omega
    conv=>lhs;rw[this,ami,ami,aoS]
   have e2:(q-1)*k=i*k+(q-1-i)*k:=by rw[← ami];congr 1;omega
   have h0:(xs.take (i*k)++(ys++xs.drop (i*k))).drop (i*k+k)=xs.drop (i*k):=by rw[← ani,am1 (by omega),anP (by omega:(xs.take (i*k)).length<=i*k),amU,am1 (by omega),anP (by omega:ys.length<=k),amU]
   rw[e1,e2,← aoC,← ani,h0,ani]
theorem Ed{s:fO}{sh:List fO}:∀{args:List Arg}{d:kR (s::sh)},jA (s::sh) args=some d->∃x xs,args=x::xs/\s.read x=some d.1/\jA sh xs=some d.2
 |[],_,h=>by simp[jA]at h
 |x::xs,d,h=>by
  rw[jA]at h;split at h
  .next a b h1 h2=>cases h;exact⟨x,xs,rfl,h1,h2⟩
  .cases h
theorem Xq:∀{args:List Arg}{d:kR []},jA [] args=some d->args=[]
 |[],_,_=>rfl
 |_::_,_,h=>by simp[jA]at h
abbrev GL(e:TypeId)(r:au):List fO:=[.own e r,.p (.v (.one (.int .i64))),.own e r]
abbrev acf(e:TypeId)(r:au):List qx:=[.one (.own e r false)]
theorem fO.acg{e:TypeId}{r:au}{x:Arg}{d:List r.den}(h:(fO.own e r).read x=some d):x=.own e r d:=by
 cases x with
 |own f s l=>
  simp only[fO.read]at h;split at h
  .next hb=>
   have he:=alL hb;subst he;split at h
   .next hs=>have hr:=au.eq_of_beq s r hs;subst hr;cases h;rfl
   .cases h
  .cases h
 |_=>simp[fO.read]at h
theorem fO.ag5{x:Arg}{d:Int}(h:(fO.p (.v (.one (.int .i64)))).read x=some d):x=.sv (.one (.int .i64 d)):=by
 cases x with
 |sv x=>
  cases x with
  |one c=>
   cases c with
   |int k n=>
    simp only[fO.read,gm.read,ny.read,fE.read]at h;cases k<;>simp_all
   |_=>simp[fO.read,gm.read,ny.read,fE.read]at h
  |agg l=>simp[fO.read,gm.read,ny.read]at h
 |_=>simp[fO.read,gm.read]at h
theorem adv{G:iR}{f:FuncId}{e:TypeId}{r:au}(hpos:0<r.len)(hM:Xp P f e r.len)
 {F:kR (GL e r)->Prop×(uJ (acf e r)×rY (GL e r)->Prop)}
 (hF:∀(l:List r.den)(i:Int)(lv:List r.den),(F (l,i,lv,())).1->0<=i/\i<=l.length/\l.length<=1000/\lv.length=1/\(F (l,i,lv,())).2 ((l.take i.toNat++(lv++l.drop i.toNat),()),())):
 xQ P G f (PG (GL e r) (acf e r) F):=by
 intro args p ρ hcon hp;simp only[PG]at hcon;split at hcon
 .next x hx=>
  revert x;show∀x:List r.den×Int×List r.den×Unit,_;rintro⟨l,i,lv,⟨⟩⟩ hx hcon;have hF1:=Option.some.inj hcon;have hp1:(F (l,i,lv,())).1=p:=congrArg Prod.fst hF1;have hρ:=congrArg Prod.snd hF1;simp only at hρ;subst hρ;rw[← hp1]at hp;obtain⟨h0,hi,hn,hv1,hR⟩:=hF l i lv hp;obtain⟨a0,r0,rfl,hx0,h1⟩:=Ed hx;obtain⟨a1,r1,rfl,hx1,h2⟩:=Ed h1;obtain⟨a2,r2,rfl,hx2,h3⟩:=Ed h2;have:=Xq h3;subst this;have e0:=fO.acg hx0;have e2:=fO.acg hx2;have e1:=fO.ag5 hx1;subst e0 e1 e2;refine⟨⟨_,hR⟩,?_⟩;intro k S γ vs w hG hrep lU hap hk;have o49:dL [.own e r l,.sv (.one (.int .i64 i)),.own e r lv] 49=some (.arr e r l false):=rfl;have aiO:dL [.own e r l,.sv (.one (.int .i64 i)),.own e r lv] 177=some (.arr e r lv false):=rfl
  match hvs:vs.toList,hrep with
  |[v,vi,u],hrep=>
   have ev:v=γ 49:=hrep.1.2.1;have eu:u=γ 177:=hrep.2.2.1.2.1;have evi:vi=.int .i64 i:=hrep.2.1.1;have evs:vs=#[γ 49,.int .i64 i,γ 177]:=by obtain⟨vl⟩:=vs;simp at hvs;rw[hvs,ev,eu,evi]
   subst evs;obtain⟨⟨xs,hxs,_,_,hxr⟩,alD⟩:=lU 49 _ o49;obtain⟨⟨ys,hys,_,_,hyr⟩,alr⟩:=lU 177 _ aiO;have B1:=Qn (γ 49) (.inr trivial) hxs;have B2:=Qn (γ 177) (.inr trivial) hys;have h1:=ace hxs.1 hxr hpos;have h2:=ace hys.1 hyr hpos;have hin:i.toNat<=l.length:=by omega
   have hik:((i.toNat:Nat):Int)=i:=by omega
   have ag6:w.ownsRow 0 e r.len (γ 177) 1 ys:=by rw[← hv1];exact hys
   have hrun:=hM w (γ 49) (γ 177) l.length i.toNat xs ys hxs ag6 (λb hb=>by rw[← B2];exact hap 49 _ 177 _ b o49 aiO (by decide) (by rw[B1];exact hb)) hin hn h1 h2;rw[hik]at hrun;refine hrun.mono ?_;rintro en w' ⟨v',rfl,hown,hgr,hnew⟩;have Bv:=Qn v' (.inr trivial) hown;have hone:v'.oneCell'=true:=by rcases hown.2 with⟨rfl,_⟩|⟨g,cap,cur,rfl,_⟩<;>rfl
   have ajn:look [(k,ay.arr e r (l.take i.toNat++(lv++l.drop i.toNat)) false)] k=some (.arr e r (l.take i.toNat++(lv++l.drop i.toNat)) false):=by simp[look]
   have lookO:∀o x,look [(k,ay.arr e r (l.take i.toNat++(lv++l.drop i.toNat)) false)] o=some x->k=o/\.arr e r (l.take i.toNat++(lv++l.drop i.toNat)) false=x:=by intro o x h;have:=qH _ _ _ h;simp at this;exact⟨this.1.symm,this.2.symm⟩
   have aeT:∀q y,¬jS (gY (GL e r) ()) q=some y:=by
    intro q y h;unfold jS at h
    match hq:q / 64,h with
    |0,h=>simp[gY]at h
    |1,h=>simp[gY]at h
    |2,h=>simp[gY]at h
    |n+3,h=>simp[gY]at h
   refine⟨_,hR,v',λ_=>v',rfl,hgr.os,hgr.tape,hgr.output,hgr.size,λb hb hnb=>?_,?_,?_,?_,?_⟩
   .exact hgr.block b hb λhe=>hnb ⟨49,_,o49,by rw[B1];exact he.symm⟩
   .exact⟨⟨e,r,_,false,ajn⟩,rfl,hone⟩
   .intro o x hx;obtain⟨rfl,rfl⟩:=lookO o x hx;refine⟨⟨xs.take (i.toNat*r.len)++(ys++xs.drop (i.toNat*r.len)),?_,hpos,λ_ _ h=>(by cases h),λq x hx=>?_⟩,λb hb=>?_⟩
    .have hlen:(l.take i.toNat++(lv++l.drop i.toNat)).length=l.length+1:=by simp;omega
     rw[hlen];exact hown
    .have hq:q<=l.length:=by have:=(alS.1 hx).1;simp at this;omega
     rw[adu xs ys r.len l.length i.toNat q hxs.1 (by rw[ag6.1,aoS]) hin];have CG:∀b,(⟨w,w.heap.size,S,γ,dL [.own e r l,.sv (.one (.int .i64 i)),.own e r lv]⟩:V).bG false b->
      (⟨w',w.heap.size,oz S [.own e r l,.sv (.one (.int .i64 i)),.own e r lv] (gY (GL e r) ()) γ,λ_=>v',look [(k,.arr e r (l.take i.toNat++(lv++l.drop i.toNat)) false)]⟩:V).bG false b/\w'.heap[b]? =w.heap[b]? :=by
      intro b hb;obtain⟨⟨hb1,hb2,hb3⟩,_⟩:=hb;have hb1:b<w.heap.size:=hb1;have hne:some b≠(γ 49).ownBlock:=λhe=>hb3 49 _ o49 (by rw[B1];exact he.symm);refine⟨⟨⟨amw hb1 hgr.size,λ_=>⟨.inl (hb2 hb1),λq y hq=>?_⟩,λo x hx he=>?_⟩,λh=>(by cases h)⟩,hgr.block b hb1 hne⟩
      .exact absurd hq (aeT q y)
      .have he:blk v'=some b:=he;rw[Bv]at he;rcases hnew b he with h|h
       .exact hne h.symm
       .omega
     by_cases c1:q<i.toNat
     .rw[if_pos c1];refine aS.mono CG r _ x (hxr q x ?_);rw[amf (by rw[alQ];omega),alZ,if_pos c1]at hx;exact hx
     .rw[if_neg c1];have hlt:(l.take i.toNat).length=i.toNat:=by rw[alQ];omega
      rw[al6 (by omega),hlt]at hx;by_cases c2:q=i.toNat
      .rw[if_pos c2];rw[c2,anr,amf (by omega)]at hx;have:=hyr 0 x hx;rw[ant,anD,amT (by rw[ag6.1];omega)]at this;exact aS.mono CG r _ x this
      .rw[if_neg c2];rw[al6 (by omega),hv1,amb,show i.toNat+(q-i.toNat-1)=q-1 by omega]at hx;exact aS.mono CG r _ x (hxr (q-1) x hx)
    .have he:blk v'=some b:=hb;have he2:=he;rw[Bv]at he2;refine⟨?_,?_,λq y hq=>absurd hq (aeT q y)⟩
     .rcases hown.2 with⟨hv,_⟩|⟨g,cap,cur,hv,_,hg,_⟩
      .rw[hv]at he;cases he
      .rw[hv]at he;cases he;exact(amj.1 hg).1
     .rcases hnew b he2 with h|h
      .exact .inr ⟨49,_,o49,by rw[B1];exact h⟩
      .exact .inl h
   .intro o x q y b h1 h2 hne;exact absurd ((lookO o x h1).1.symm.trans (lookO q y h2).1) hne
   .intro o x h;exact absurd h (aeT o x)
 .cases hcon
end Go.Fw
namespace Go.Fw
open Go
variable {P:Program} {H:Type} {enc:TypeId×Value->H} {w:World}
theorem Og(hl:laidOutB P=true){base:Nat}{sp':Nat->Bool}{W W':World}:∀(ts:List TypeId)(_:ts.all (λt=>P.readableRec t&&decide (t<P.types.size))=true)
 (vs:List Value) (ds:List (DataW H)) (ps:List MemPlace),DataW.TrodAll enc P W base (λ_=>true) true ts vs ds ps->(∀p∈ps,W.sameAt W' p)->(∀p∈ps,sp' p.block=true)->DataW.TrodAll enc P W' base sp' true ts vs ds ps
 |[],_,vs,ds,ps,h,_,_=>by
  cases vs<;>cases ds<;>simp[DataW.TrodAll]at h ⊢;exact h
 |t::ts,ht,vs,ds,ps,h,h1,h2=>by
  rw[amQ,alK,alK]at ht;cases vs with
  |nil=>cases ds<;>simp[DataW.TrodAll]at h
  |cons v vs=>
   cases ds with
   |nil=>simp[DataW.TrodAll]at h
   |cons d ds=>
    obtain⟨a,b,g1,g2,rfl⟩:=h;exact⟨a,b,WideElems.Trod_stays hl ht.1.1 (am2 ht.1.2) g1 (λp hp=>h1 p (amF _ hp)) (λp hp=>h2 p (amF _ hp)),
     Og hl ts ht.2 vs ds b g2 (λp hp=>h1 p (am5 _ hp)) (λp hp=>h2 p (am5 _ hp)),rfl⟩
theorem trodAll_length{base:Nat}{sp:Nat->Bool}{hd:Bool}{W:World}:∀(ts:List TypeId)(vs:List Value)(ds:List (DataW H))(ps:List MemPlace),DataW.TrodAll enc P W base sp hd ts vs ds ps->ds.length=ts.length
 |[],vs,ds,ps,h=>by cases vs<;>cases ds<;>simp[DataW.TrodAll]at h ⊢
 |t::ts,vs,ds,ps,h=>by
  cases vs with
  |nil=>cases ds<;>simp[DataW.TrodAll]at h
  |cons v vs=>
   cases ds with
   |nil=>simp[DataW.TrodAll]at h
   |cons d ds=>obtain⟨a,b,g1,g2,rfl⟩:=h;simp[trodAll_length ts vs ds b g2]
theorem ag7{fn:Func}{s:ChangeSpec}{apart fresh handsOn again:Bool}{W W':World}{args:Array Value}{ds gs:List (DataW H)}{before:List MemPlace}{tb:TypeId}
 (hvars:s.vars=[]) (hspec:∀l:List (DataW H),l.length=fn.params.toList.length->(s.fn H l).results=[.lit (.bool true)]/\(s.fn H l).args=l/\(s.fn H l).vars=[])
 (hres:fn.resultTypes=#[tb]) (hb:P.underlying tb=some .bool) (hl:laidOutB P=true) (hread:fn.params.toList.all (λt=>P.readableRec t&&decide (t<P.types.size))=true)
 (hW:DataW.Whole enc P fn.params.toList s.vars apart W args.toList ds gs before) (hos:W'.os=W.os) (hout:W'.output=W.output) (hheap:∀b,b<W.heap.size->W'.heap[b]? =W.heap[b]?):
 s.post enc P fn apart fresh handsOn again W args (.bool true) W':=by
 have hlt:=hW.lt;have hW0:=hW;obtain⟨p,q,hA,hV,hpq,hz,hn⟩:=hW;rw[hvars]at hV;have hg:gs=[]/\q=[]:=by
  cases gs with
  |nil=>exact⟨rfl,hV⟩
  |cons g gs=>simp[DataW.TrodVars]at hV
 obtain⟨rfl,rfl⟩:=hg;rw[amG]at hpq;subst hpq;have hlen:=trodAll_length _ _ _ _ hA;obtain⟨r1,r2,r3⟩:=hspec (ds++[]) (by simpa using hlen);rw[amG]at r1 r2 r3;have hsame:∀x∈before,W.sameAt W' x:=λx hx=>ag4 hheap (hlt x hx);have R:∀(b:Nat)(sp:Nat->Bool)(hd:Bool),DataW.TrodAll enc P W' b sp hd fn.resultTypes.toList ((Value.bool true).resultList fn.resultTypes.size) [.lit (.bool true)] []:=by intro b sp hd;rw[hres];exact⟨[],[],⟨1,by simp[DataW.trod,Value.cells,hb]⟩,rfl,rfl⟩
 have A:∀sp:Nat->Bool,(∀x∈before,sp x.block=true)->DataW.TrodAll enc P W' 0 sp true fn.params.toList args.toList ds before:=λsp hsp=>Og hl _ hread _ _ _ hA hsame hsp;have hold:∀x∈before,(λb=>decide (b<W.heap.size)) x.block=true:=λx hx=>by simpa using hlt x hx
 refine⟨ds,[],before,[],before,[],hW0,?_,?_,?_,ag3 hos hout hheap _,λ_=>⟨?_,.lit (.bool true)::ds,[],before,⟨before,[],?_,?_,by simp,?_,hn⟩,λx hx _=>hx⟩⟩
 .rw[amG,r1];exact R _ _ _
 .rw[amG,r2];exact A _ hold
 .rw[amG,r3,hvars];rfl
 .intro j t r h1 h2;rw[hres]at h1 h2
  match j with
  |0=>
   simp[Value.resultList]at h1 h2;subst h1 h2;simp[Value.okWide,hb,Go.Cell.okWide,Go.Cell.ok]
  |j+1=>simp at h1
 .exact ChangeShapes.trodAll_append (A _ (λ_ _=>rfl)) (R _ _ _)
 .rw[hvars];rfl
 .intro b off hp;have hbl:=hlt _ hp;have e:W'.frozen? ⟨b,off,none⟩=W.frozen? ⟨b,off,none⟩:=by unfold World.frozen?;simp only;rw[hheap b hbl]
  rw[e];exact hz b off hp
end Go.Fw
namespace Go.Fw
open Go
theorem Xr{H:Type}{enc:TypeId×Value->H}{C:Checked}{G:iR}{os:Os}{f:FuncId}{fn:Func}{s:ChangeSpec}{conds:List PathCond}{apart fresh handsOn again:Bool}{tb:TypeId}{sh:List gm}{F:jl sh->Prop×Out}
 {X:World->Prop} (hX:∀w w':World,w.heap=w'.heap->X w->X w')
 (own:ownKnob C.prog.godebug=none) (started:os.Started) (noInit:C.prog.inits.idxOf? f=none) (hfn:C.prog.funcs[f]? =some fn)
 (witness:∃(w:World)(tape:Tape)(i:Input),w.os=os/\(w.forCall tape i).Shaped C.prog/\i.vars=[]/\Input.okWide C.prog (w.forCall tape i) .any w.heap.size f i/\
   ((s.pre enc C.prog fn conds apart (w.forCall tape i).memory i.args/\X (w.forCall tape i).memory)/\sizedMet enc C.prog fn (OpenSpec.ofChange s) apart (w.forCall tape i).memory i.args)/\({}:Assume).holds C.prog (lone (Frame.enter C.prog f i.args .normal) [] (w.forCall tape i)))
 (hcon:lT C.prog G f (CS sh F)) (hsh:GI C.prog fn.params.toList=some sh) (hF:∀x,FD sh x->(F x).1/\(F x).2=Y8) (hG:∀w,X w->G.ok w)
 (hvars:s.vars=[]) (hspec:∀l:List (DataW H),l.length=fn.params.toList.length->(s.fn H l).results=[.lit (.bool true)]/\(s.fn H l).args=l/\(s.fn H l).vars=[])
 (hres:fn.resultTypes=#[tb]) (hb:C.prog.underlying tb=some .bool) (hl:laidOutB C.prog=true) (hread:fn.params.toList.all (λt=>C.prog.readableRec t&&decide (t<C.prog.types.size))=true):
 ReturnsInHanded {} C os f .any (λw args=>(s.pre enc C.prog fn conds apart w args/\X w)/\sizedMet enc C.prog fn (OpenSpec.ofChange s) apart w args) (s.post enc C.prog fn apart fresh handsOn again):=by
 refine returnsInHanded_of_change_and (X:=λw _=>X w) (λw w' _ h hx=>hX w w' h hx) own started noInit hfn witness ?_;intro W base args ds gs before hval hW _ _ hx _;have hW0:=hW;obtain⟨p,q,hA,_⟩:=hW;refine(agc hcon hsh hF (hG W hx) hA hval).mono ?_;rintro e W' ⟨rfl,h1,h2,_,h3⟩;exact⟨_,rfl,ag7 hvars hspec hres hb hl hread hW0 h1 h2 h3⟩
end Go.Fw
