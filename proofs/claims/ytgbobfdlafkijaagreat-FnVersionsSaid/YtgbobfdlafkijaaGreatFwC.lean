import Derived.Test.YtgbobfdlafkijaaGreatFwD
import Derived.Test.YtgbobfdlafkijaaGreatFwB
import Derived.Test.YtgbobfdlafkijaaGreatFwA
import Derived.ChangeArms
import Derived.WideKeyArgs
import Derived.ChangeSame
import Derived.ChangeOld
import Derived.Handed
import Derived.IntWalk
import Derived.Laws.IdiomCopy
import Derived.ProofKit
namespace Go.Fw
open Go
variable {P:Program} {w0:World} {M:Nat→Prop} {T:Ext} {γ γ':Nat→Value} {st:St} {a:Act} {w w':World} {Θ:iy} {Γ:aK}
structure QC where
 aua:List afV
 c:Shape
 v:Shape
structure Hints where
 own:Nat→Bool
 loops:Nat→Option QC
 cuts:Nat→Option QC
 upd:List Nat
 frz:Nat→List Pre
def EI:Code→Option Nat
 | .region id _ _=>some id
 | .seq x y=>match EI x with|some n=>some n|none=>EI y
 | .cond _ x y=>match EI x with|some n=>some n|none=>EI y
 | .block _ x| .loop x=>EI x
 |_=>none
def cutAt (H:Hints) (y:Code):Option QC:=match EI y with
 |some n=>H.cuts n
 |none=>none
def Uc (Θ:iy) (Γ:aK) (H:Hints):Code→(Exit→St→Prop)→St→Prop
 | .skip,Q,st=>Q .normal st
 | .region id ops false,Q,st=>afQ (H.frz id) (runs Θ Γ H.own ops.toList (Q .normal) ops.toList) st
 | .region id ops true,Q,st=>afQ (H.frz id) (Yg Θ Γ H.own H.upd ops.toList (Q .normal)) st
 | .seq x y,Q,st=>match cutAt H y with
   |none=>Uc Θ Γ H x (fun e s=>match e with| .normal=>Uc Θ Γ H y Q s|e=>Q e s) st
   |some sp=>match sp.c.read (only sp.c sp.v st) with
    |some x0=>∃ (J:sp.v.den→Prop),Uc Θ Γ H x (fun e s=>match e with
      | .normal=>match settles s sp.aua with
        |some s1=>match Nat.beq s1.n st.n,sp.c.read (only sp.c sp.v s1),sp.v.read (only sp.c sp.v s1) with
         |true,some x1,some y1=>x1=x0∧J y1
         |_,_,_=>False
        |none=>False
      |e=>Q e s) st∧∀ y1,J y1→Uc Θ Γ H y Q (joint st.n sp.c sp.v x0 y1)
    |none=>False
 | .cond c x y,Q,st=>match st.ev c with
   | .sv (.one (.bool b))=>cond b (Uc Θ Γ H x Q st) (Uc Θ Γ H y Q st)
   |_=>False
 | .block id c,Q,st=>Uc Θ Γ H c (fun e s=>match e with
   | .exit i=>match Nat.beq i id with|true=>Q .normal s|false=>Q (.exit i) s
   |e=>Q e s) st
 | .exit id,Q,st=>Q (.exit id) st
 | .ret,Q,st=>Q .ret st
 | .loop c,Q,st=>match EI c with
   |some n=>match H.loops n with
    |some sp=>match settles st sp.aua with
     |some s0=>match sp.c.read (only sp.c sp.v s0),sp.v.read (only sp.c sp.v s0) with
      |some x0,some y0=>∃ (I:sp.v.den→Prop) (μ:sp.v.den→Nat),I y0∧∀ y,I y→
        Uc Θ Γ H c (fun e s=>match e with
         | .normal=>match settles s sp.aua with
           |some s1=>match Nat.beq s1.n s0.n,sp.c.read (only sp.c sp.v s1),sp.v.read (only sp.c sp.v s1) with
            |true,some x1,some y1=>x1=x0∧I y1∧μ y1<μ y
            |_,_,_=>False
           |none=>False
         |e=>Q e s) (joint s0.n sp.c sp.v x0 y)
      |_,_=>False
     |none=>False
    |none=>False
   |none=>False
 |_,_,_=>False
theorem afW {G:pF} (hE:zU P G Θ Γ w0 M) (hm:P.follows .mixedOrders=true) (H:Hints):∀ (c:Code) (QA:Exit→St→Prop) (Q:Exit→Act→World→Prop) (st:St) (γ:Nat→Value) (a:Act) (w:World),
 Rel w0 M T γ st a w→Uc Θ Γ H c QA st→(∀ e s γ' a' w',QA e s→Rel w0 M T γ' s a' w'→Q e a' w')→c.wp P Q a w:=by
 intro c
 induction c with
 |skip=>intro QA Q st γ a w h ha hQ;exact wp_skip (hQ _ _ _ _ _ ha h)
 |region id ops d=>
  intro QA Q st γ a w h ha hQ
  cases d with
  |false=>
   obtain ⟨s0,γ0,h0,hk0⟩:=O0 (K:=runs Θ Γ H.own ops.toList (QA .normal) ops.toList) (H.frz id) st γ h ha
   exact arP hE h0 hk0 fun s γ' a' w' hK hR=>hQ _ _ _ _ _ hK hR
  |true=>
   obtain ⟨s0,γ0,h0,hk0⟩:=O0 (K:=Yg Θ Γ H.own H.upd ops.toList (QA .normal)) (H.frz id) st γ h ha
   exact auW hE hm h0 hk0 fun s γ' a' w' hK hR=>hQ _ _ _ _ _ hK hR
 |seq x y ihx ihy=>
  intro QA Q st γ a w h ha hQ
  rw [Uc] at ha
  split at ha
  · refine wp_seq (ihx _ _ st γ a w h ha ?_)
    intro e s γ' a' w' hq hR
    cases e<;>first|exact ihy _ _ s γ' a' w' hR hq hQ|exact hQ _ _ _ _ _ hq hR
  · next sp hsp=>
    split at ha
    · next x0 hx=>
      obtain ⟨J,h1,h2⟩:=ha
      refine wp_seq (ihx _ _ st γ a w h h1 ?_)
      intro e s γ' a' w' hq hR
      cases e with
      |normal=>
       simp only at hq
       split at hq
       · next s1 hs1=>
         split at hq
         · next x1 y1 hsn hx1 hy1=>
           obtain ⟨rfl,hJ⟩:=hq
           obtain ⟨γ1,hR1⟩:=Rel.settles _ hR hs1
           have hR2:=hR1.joint hx1 hy1
           rw [Nat.eq_of_beq_eq_true hsn] at hR2
           exact ihy _ _ _ γ1 a' w' hR2 (h2 _ hJ) hQ
         · exact hq.elim
       · exact hq.elim
      |_=>exact hQ _ _ _ _ _ hq hR
    · exact ha.elim
 |cond c x y ihx ihy=>
  intro QA Q st γ a w h ha hQ
  rw [Uc] at ha
  split at ha
  · next b hb=>
    have hv:a.eval c= .bool b:=by
     have:=jW h c
     rw [hb] at this
     exact this
    refine wp_cond_split hv (fun e=>?_) (fun e=>?_)
    · subst e;exact ihx _ _ st γ a w h ha hQ
    · subst e;exact ihy _ _ st γ a w h ha hQ
  · exact ha.elim
 |block id c ih=>
  intro QA Q st γ a w h ha hQ
  refine wp_block (ih _ _ st γ a w h ha ?_)
  intro e s γ' a' w' hq hR
  cases e with
  |exit i=>
   simp only [Exit.inBlock]
   cases hb:Nat.beq i id with
   |true=>
    simp only [hb] at hq
    rw [if_pos (Nat.eq_of_beq_eq_true hb)]
    exact hQ _ _ _ _ _ hq hR
   |false=>
    simp only [hb] at hq
    rw [if_neg (by rintro rfl;simp at hb)]
    exact hQ _ _ _ _ _ hq hR
  |_=>exact hQ _ _ _ _ _ hq hR
 |loop c ih=>
  intro QA Q st γ a w h ha hQ
  rw [Uc] at ha
  split at ha
  · split at ha
    · next sp hsp=>
      split at ha
      · next s0 hs0=>
        split at ha
        · next x0 y0 hx hy=>
          obtain ⟨I,μ,h0,hI⟩:=ha
          obtain ⟨γ0,hR0⟩:=Rel.settles _ h hs0
          let J:sp.v.den→Act→World→Prop:=fun y a' w'=>∃ γ',Rel w0 M T γ' (joint s0.n sp.c sp.v x0 y) a' w'
          have key:∀ (n:Nat) (y:sp.v.den),μ y=n→I y→∀ a' w',J y a' w'→∀ (b:Frame) (k:List Item) (cs:List Frame),
           ∃ e a'' w'',Q e a'' w''∧Arrives P (lone (b.at a' (.code c:: .inLoop c::k)) cs w') b k cs e a'' w'':=by
           intro n
           induction n using Nat.strongRecOn with
           |_ n ihn=>
            intro y hμ hy' a' w' ⟨γ',hR⟩ b k cs
            have hbody:=ih _ (Exit.then (fun a2 w2=>∃ y2,I y2∧μ y2<μ y∧J y2 a2 w2) Q) _ γ' a' w' hR (hI y hy') ?_
            · obtain ⟨e,a1,w1,hq,harr⟩:=hbody b (.inLoop c::k) cs
              cases e with
              |normal=>
               obtain ⟨y2,hI2,hlt,hJ2⟩:=hq
               obtain ⟨e2,a2,w2,hq2,axr⟩:=ihn (μ y2) (hμ▸hlt) y2 rfl hI2 a1 w1 hJ2 b k cs
               exact ⟨e2,a2,w2,hq2, .of_steps (Steps.trans harr (.one step_inLoop)) axr⟩
              |exit id=>exact ⟨_,a1,w1,hq, .pass (x:= .inLoop c) rfl (fun _ _=> .inl (by simp)) harr⟩
              |goto l=>exact ⟨_,a1,w1,hq, .pass (x:= .inLoop c) rfl (fun _ _=> .inl (by simp)) harr⟩
              |ret=>exact ⟨_,a1,w1,hq, .pass (x:= .inLoop c) rfl (fun _ _=> .inl (by simp)) harr⟩
              |panic ch=>exact ⟨_,a1,w1,hq, .pass (x:= .inLoop c) rfl (fun _ _=> .inl (by simp)) harr⟩
              |outgrown=>exact ⟨_,a1,w1,hq, .pass (x:= .inLoop c) rfl (fun _ _=> .inl (by simp)) harr⟩
            · intro e s γ2 a2 w2 hq hR2
              cases e with
              |normal=>
               simp only at hq
               split at hq
               · next s1 hs1=>
                 split at hq
                 · next x1 y1 hsn hx1 hy1=>
                   obtain ⟨rfl,hI1,hlt⟩:=hq
                   obtain ⟨γ3,hR3⟩:=Rel.settles _ hR2 hs1
                   have hJ:=hR3.joint hx1 hy1
                   rw [Nat.eq_of_beq_eq_true hsn] at hJ
                   exact ⟨y1,hI1,hlt,_,hJ⟩
                 · exact hq.elim
               · exact hq.elim
              |_=>exact hQ _ _ _ _ _ hq hR2
          intro b k cs
          obtain ⟨e,a',w',hq,harr⟩:=key _ y0 rfl h0 a w ⟨_,hR0.joint hx hy⟩ b k cs
          exact ⟨e,a',w',hq, .of_steps (.one step_loop) harr⟩
        · exact ha.elim
      · exact ha.elim
    · exact ha.elim
  · exact ha.elim
 |rangeFunc f ps x y ihx ihy=>intro QA Q st γ a w h ha hQ;exact ha.elim
 |exit id=>intro QA Q st γ a w h ha hQ;exact wp_exit (hQ _ _ _ _ _ ha h)
 |scope c ih=>intro QA Q st γ a w h ha hQ;exact ha.elim
 |label l=>intro QA Q st γ a w h ha hQ;exact ha.elim
 |goto l=>intro QA Q st γ a w h ha hQ;exact ha.elim
 |ret=>intro QA Q st γ a w h ha hQ;exact wp_ret (hQ _ _ _ _ _ ha h)
 |refuse s=>intro QA Q st γ a w h ha hQ;exact ha.elim
end Go.Fw
namespace Go.Fw
open Go
variable {P:Program} {w0:World} {M:Nat→Prop} {T:Ext} {γ γ':Nat→Value} {st:St} {a:Act} {w w':World} {Θ:iy} {Γ:aK}
def Arg.av:Arg→AV
 | .sv v=> .sv v
 | .kp cs=> .iM cs 0
 | .fn f caps=> .fn f caps
 | .own _ _ _| .ptr _=> .undef
def entry (n:Nat) (args:List Arg):St:=
 {n:=n,tmps:=fun t=>match args[t]? with|some v=>v.av|none=> .undef,ak:=fun _=>none}
def Yh (st:St) (o:Nat):Bool:=match st.ak o with|some (.arr _ _ _ _)=>true|_=>false
def alO (Θ:iy) (st:St):ResultVar→Option SV
 | .tmp t=>match st.tmps t with| .sv v=>some v|_=>none
 | .cell t ty=>match Θ ty,st.tmps t with
   |some ti, .dP o off=>match st.ak o with
    |some (.var cs)=>pR ti cs off
    |_=>none
   |_,_=>none
def V4 (Θ:iy) (st:St):List ResultVar→Option (List SV)
 |[]=>some []
 |r::rs=>match alO Θ st r,V4 Θ st rs with
  |some v,some vs=>some (v::vs)
  |_,_=>none
def outOf:SV→Bool×List gW
 | .one c=>(false,[.plain c])
 | .agg cs=>(true,cs.map .plain)
def outs:List SV→List (Bool×List gW)
 |[]=>[]
 |v::vs=>outOf (v.kill fun _=>true)::outs vs
def fin (Θ:iy) (rv:List ResultVar) (st:St):Option Out:=
 match V4 Θ (st.freeze (Yh st)) rv with
 |some vs=>some ⟨outs vs,none⟩
 |none=>none
theorem Yi:∀ (k:Nat) (cs:List Cell),lW k (cs.map .plain)=(cs,[])
 |_,[]=>rfl
 |k,c::cs=>by simp only [List.map_cons,lW,Yi (k+1) cs,gW.take,List.append_nil]
theorem asR (k:Nat) (v:SV):DJ k (outOf v)=(v,[]):=by
 cases v with
 |one c=>rfl
 |agg cs=>simp only [DJ,outOf,Yi]
theorem awx (v:Value) (t:TypeId) (b off:Nat) (hv:v= .pointer (some ⟨b,off,none⟩)):Instr.loadAt t v=(do loadVar t (← asAddr v)):=by
 subst hv;rfl
def Ro (tmps:Array Value):ResultVar→Sem Value
 | .tmp t=>pure (tmps.getD t undef)
 | .cell x t=>do loadVar t (← asAddr (tmps.getD x undef))
theorem abv (fn:Func) (tmps:Array Value):results fn tmps=(do let vs ← fn.results.mapM (Ro tmps);pure (if h:vs.size=1 then vs[0] else .tuple vs)):=by
 unfold results
 congr 1
theorem arR (hΘ:∀ t ti,Θ t=some ti→pU P t ti) (h:Rel w0 M T γ st a w) {r:ResultVar} {v:SV} (hf:alO Θ st r=some v):
 ∃ u,(Ro a.tmps r).run P w= .ok u w∧eG (aA w0 T γ st w) v u:=by
 cases r with
 |tmp t=>
  simp only [alO] at hf
  split at hf
  · next e=>
    cases hf
    have:=h.tmps t
    rw [e] at this
    exact ⟨_,rfl,this⟩
  · cases hf
 |cell x t=>
  simp only [alO] at hf
  split at hf
  · next ti o off ht hx=>
    split at hf
    · next cs ho=>
      have hv:=h.tmps x
      rw [hx] at hv
      obtain ⟨b,cs',_,_,hv'⟩:=hv
      obtain ⟨u,hu,hr⟩:=Ya hΘ h ht (x:= .tmp x) (.inl ⟨o,off,cs,hx,ho,hf⟩)
      refine ⟨u,?_,hr⟩
      rw [Ro,← awx _ t b off hv']
      exact hu
    · cases hf
  · cases hf
theorem V5 (hΘ:∀ t ti,Θ t=some ti→pU P t ti) (h:Rel w0 M T γ st a w):∀ (rs:List ResultVar) (vs:List SV),V4 Θ st rs=some vs→
 ∃ us,(rs.mapM (Ro a.tmps)).run P w= .ok us w∧
   eH (aA w0 T γ st w) vs us
 |[],vs,hf=>by cases hf;exact ⟨[],rfl,trivial⟩
 |r::rs,vs,hf=>by
  rw [V4] at hf
  split at hf
  · next v vs' h1 h2=>
    cases hf
    obtain ⟨u,hu,hr⟩:=arR hΘ h h1
    obtain ⟨us,hus,hrs⟩:=V5 hΘ h rs vs' h2
    refine ⟨u::us,?_,hr,hrs⟩
    rw [List.mapM_cons,Sem.run_bind,hu]
    simp only [Result.andThen_ok,Sem.run_bind,hus,Sem.run_pure]
  · cases hf
theorem eH.length {X:V}:∀ (cs:List SV) (vs:List Value),eH X cs vs→vs.length=cs.length
 |[],[],_=>rfl
 |_::cs,_::vs,⟨_,h⟩=>by simp [eH.length cs vs h]
 |[],_::_,H|_::_,[],H=>by cases H
theorem eH.get {X:V}:∀ (cs:List SV) (vs:List Value) (i:Nat) (c:SV),eH X cs vs→cs[i]? =some c→∃ v,vs[i]? =some v∧eG X c v
 |[],_,_,_,_,h=>by simp at h
 |c::cs,v::vs,0,d,⟨h1,_⟩,h=>by simp at h;subst h;exact ⟨v,rfl,h1⟩
 |c::cs,v::vs,i+1,d,⟨_,h2⟩,h=>by
  obtain ⟨u,hu,hr⟩:=eH.get cs vs i d h2 (by simpa using h)
  exact ⟨u,by simpa using hu,hr⟩
 |_::_,[],_,_,H,_=>by cases H
theorem uJ.length {X:V}:∀ (cs:List Arg) (vs:List Value),uJ X cs vs→vs.length=cs.length
 |[],[],_=>rfl
 |_::cs,_::vs,⟨_,h⟩=>by simp [uJ.length cs vs h]
 |[],_::_,H|_::_,[],H=>by cases H
theorem uJ.get {X:V}:∀ (cs:List Arg) (vs:List Value) (i:Nat) (c:Arg),uJ X cs vs→cs[i]? =some c→∃ v,vs[i]? =some v∧wZ X c v
 |[],_,_,_,_,h=>by simp at h
 |c::cs,v::vs,0,d,⟨h1,_⟩,h=>by simp at h;subst h;exact ⟨v,rfl,h1⟩
 |c::cs,v::vs,i+1,d,⟨_,h2⟩,h=>by
  obtain ⟨u,hu,hr⟩:=uJ.get cs vs i d h2 (by simpa using h)
  exact ⟨u,by simpa using hu,hr⟩
 |_::_,[],_,_,H,_=>by cases H
theorem wZ.av {X:V}:∀ (c:Arg) (v:Value),wZ X c v→bg X c.av v
 | .sv _,_,h| .kp _,_,h| .fn _ _,_,h=>h
 | .own _ _ _,_,h| .ptr _,_,h=>h.elim
theorem auY {args:List Arg} {vs:Array Value} {S:Nat→Prop} (n:Nat) (hn:args.length≤n)
 (h:uJ ⟨w,w.heap.size,S,fun _=>undef,fun _=>none⟩ args vs.toList):
 Rel w (fun _=>False) ⟨S,fun _=>none,fun _ _ h=>by cases h⟩ (fun _=>undef) (entry n args) {tmps:=vs++Array.replicate (n-vs.size) undef,defers:=[]} w:=by
 have hl:vs.size=args.length:=by simpa using uJ.length _ _ h
 refine ⟨fun _ h=>h.elim,rfl,?_,rfl,rfl,rfl,Nat.le_refl _,fun _ _ _=>rfl,fun t=>?_,(fun o x hx=>by cases hx),(fun o x b hx=>by cases hx),(fun o x p y b hx=>by cases hx),(fun o v cs hN=>by cases hN)⟩
 · simp [entry];omega
 · simp only [entry]
   cases ha:args[t]? with
   |none=>trivial
   |some v=>
    obtain ⟨u,hu,hr⟩:=uJ.get _ _ t v h ha
    have:(vs++Array.replicate (n-vs.size) undef).getD t undef=u:=by
     have hlt:t<args.length:=by
      rcases Nat.lt_or_ge t args.length with h'|h'
      · exact h'
      · rw [List.getElem?_eq_none h'] at ha;cases ha
     have hlt':t<vs.size:=by omega
     rw [Array.getD_eq_getD_getElem?,Array.getElem?_append_left hlt']
     have:vs[t]? =some u:=by simpa using hu
     rw [this];rfl
    rw [this]
    exact wZ.av v u hr
end Go.Fw
namespace Go.Fw
def codeOf (fn:Func):Code:=match fn.body with|some c=>c|none=> .skip
def aq2:List (Nat×TI)→iy
 |[],_=>none
 |(t,x)::r,i=>match Nat.beq i t with|true=>some x|false=>aq2 r i
def aN:List (Nat×atG)→aK
 |[],_=>none
 |(t,x)::r,i=>match Nat.beq i t with|true=>some x|false=>aN r i
def aub:List (Nat×QC)→Nat→Option QC
 |[],_=>none
 |(t,x)::r,i=>match Nat.beq i t with|true=>some x|false=>aub r i
def awi:List (Nat×List Pre)→Nat→List Pre
 |[],_=>[]
 |(n,z)::r,i=>match Nat.beq i n with|true=>z|false=>awi r i
def hints (own:List Nat) (l c:List (Nat×QC)) (u:List Nat) (z:List (Nat×List Pre)):Hints:=⟨aY own,aub l,aub c,u,awi z⟩
end Go.Fw
namespace Go.Fw
open Go
variable {P:Program} {Θ:iy} {Γ:aK}
inductive dM where
 |one (c:jA)
 |agg (l:List jA)
@[reducible] def dM.den:dM→Type
  | .one c=>c.den
  | .agg l=>uS l
def dM.val:(s:dM)→s.den→SV
 | .one c,x=> .one (c.cell x)
 | .agg l,x=> .agg (jq l x)
def dM.read:(s:dM)→SV→Option s.den
 | .one c, .one x=>c.read x
 | .agg l, .agg xs=>lX l xs
 |_,_=>none
theorem dM.weak {X:V} (s:dM) (x:SV) (d:s.den) (v:Value) (hr:s.read x=some d) (hv:eG X x v):eG X (s.val d) v:=by
 unfold dM.read at hr
 split at hr
 · exact jA.weak _ _ _ _ hr hv
 · obtain ⟨vs,e,h⟩:=hv
   exact ⟨vs,e,LC _ _ _ _ hr h⟩
 · cases hr
@[reducible] def bF:List dM→Type
  |[]=>Unit
  |s::r=>s.den×bF r
def zn:(l:List dM)→bF l→List SV
 |[],_=>[]
 |s::r,x=>s.val x.1::zn r x.2
def ZP:(l:List dM)→List SV→Option (bF l)
 |[],[]=>some ()
 |s::r,x::xs=>match s.read x,ZP r xs with
  |some a,some b=>some (a,b)
  |_,_=>none
 |_,_=>none
theorem auZ {X:V}:∀ (l:List dM) (xs:List SV) (d:bF l) (vs:List Value),ZP l xs=some d→eH X xs vs→eH X (zn l d) vs
 |[],[],_,_,_,hv=>hv
 |s::r,x::xs,d,vs,hr,hv=>by
  rw [ZP] at hr
  split at hr
  · next a b h1 h2=>
    cases hr
    cases vs with
    |nil=>cases hv
    |cons v vs=>exact ⟨dM.weak s x a v h1 hv.1,auZ r xs b vs h2 hv.2⟩
  · cases hr
 |[],_::_,_,_,hr,_=>by simp [ZP] at hr
 |_::_,[],_,_,hr,_=>by simp [ZP] at hr
mutual
def CT.zV:(c:CT)→c.den→Prop
 | .int k,(n:Int)=>k.min≤n∧n≤k.max
 | .bool,_=>True
 | .str,(s:Bytes)=>s.length≤maxLen
 | .sl _ r,(l:List r.den)=>l.length≤maxLen∧∀ x∈l,r.zV x
def aI.zV:(r:aI)→r.den→Prop
 | .nil,_=>True
 | .cons c r,x=>c.zV x.1∧r.zV x.2
end
mutual
theorem kM.zV {h:Array Obj} {S:Nat→Prop}:∀ (c:CT) (v:Value) (x:c.den),kM h S c v x→c.zV x
 | .int k,v,(n:Int),H=>by rw [kM] at H;rw [CT.zV];exact H.2
 | .bool,v,(b:Bool),H=>by rw [CT.zV];trivial
 | .str,v,(s:Bytes),H=>by rw [kM] at H;rw [CT.zV];exact H.2
 | .sl e r,v,(l:List r.den),H=>by
   rw [kM] at H
   rw [CT.zV]
   refine ⟨H.1,fun x hx=>?_⟩
   obtain ⟨i,hi,rfl⟩:=List.mem_iff_getElem.1 hx
   rcases H.2 with ⟨hnil,_⟩|⟨b,off,cap,cs,t,fz,_,_,_,_,hr⟩
   · subst hnil;simp at hi
   · exact bD.zV r _ _ (hr i _ (List.getElem?_eq_getElem hi))
theorem bD.zV {h:Array Obj} {S:Nat→Prop}:∀ (r:aI) (vs:List Value) (x:r.den),bD h S r vs x→r.zV x
 | .nil,vs,_,H=>by rw [aI.zV];trivial
 | .cons c r,vs,(x,y),H=>by
   rw [bD] at H
   obtain ⟨v,vs',_,h1,h2⟩:=H
   rw [aI.zV]
   exact ⟨kM.zV c v x h1,bD.zV r vs' y h2⟩
end
def jA.zV:(c:jA)→c.den→Prop
 | .int k,(n:Int)=>k.min≤n∧n≤k.max
 | .str,(s:Bytes)=>s.length≤maxLen
 | .sl _ r _,(l:List r.den)=>l.length≤maxLen∧∀ x∈l,r.zV x
 |_,_=>True
def ahs:(l:List jA)→uS l→Prop
 |[],_=>True
 |c::r,x=>c.zV x.1∧ahs r x.2
def dM.zV:(s:dM)→s.den→Prop
 | .one c,x=>c.zV x
 | .agg l,x=>ahs l x
theorem jA.aht {X:V} (c:jA) (x:c.den) (v:Value) (h:aZ X (c.cell x) v):c.zV x:=by
 cases c with
 |int k=>exact h.2
 |str=>exact h.2
 |sl e r fr=>
  have h':kM X.w.heap (X.dw fr) (.sl e r) v x:=h
  have:=kM.zV (.sl e r) v x h'
  rw [CT.zV] at this
  exact this
 |_=>trivial
theorem Rq {X:V}:∀ (l:List jA) (x:uS l) (vs:List Value),ax X (jq l x) vs→ahs l x
 |[],_,_,_=>trivial
 |c::r,x,v::vs,h=>⟨jA.aht c x.1 v h.1,Rq r x.2 vs h.2⟩
 |_::_,_,[],h=>by cases h
inductive bV where
 |v (s:dM)
 |kp (l:List jA)
 |fn (f:FuncId) (l:List (List jA))
@[reducible] def bV.den:bV→Type
  | .v s=>s.den
  | .kp l=>uS l
  | .fn _ l=>ND l
def bV.val:(s:bV)→s.den→Arg
 | .v s,x=> .sv (s.val x)
 | .kp l,x=> .kp (jq l x)
 | .fn f l,x=> .fn f (Rl l x)
def bV.read:(s:bV)→Arg→Option s.den
 | .v s, .sv x=>s.read x
 | .kp l, .kp xs=>lX l xs
 | .fn f l, .fn g xs=>match Nat.beq f g with|true=>MH l xs|false=>none
 |_,_=>none
theorem bV.weak {X:V} (s:bV) (x:Arg) (d:s.den) (v:Value) (hr:s.read x=some d) (hv:wZ X x v):wZ X (s.val d) v:=by
 unfold bV.read at hr
 split at hr
 · exact dM.weak _ _ _ _ hr hv
 · obtain ⟨b,e,hk⟩:=hv
   exact ⟨b,e,apG hr hk⟩
 · split at hr
   · next hb=>
     obtain ⟨us,e,hk⟩:=hv
     rw [bV.val,Nat.eq_of_beq_eq_true hb]
     exact ⟨us,e,afT _ _ _ _ hr hk⟩
   · cases hr
 · cases hr
@[reducible] def bn:List bV→Type
  |[]=>Unit
  |s::r=>s.den×bn r
def Ej:(l:List bV)→bn l→List Arg
 |[],_=>[]
 |s::r,x=>s.val x.1::Ej r x.2
def O3:(l:List bV)→List Arg→Option (bn l)
 |[],[]=>some ()
 |s::r,x::xs=>match s.read x,O3 r xs with
  |some a,some b=>some (a,b)
  |_,_=>none
 |_,_=>none
theorem au0 {X:V}:∀ (l:List bV) (xs:List Arg) (d:bn l) (vs:List Value),O3 l xs=some d→uJ X xs vs→uJ X (Ej l d) vs
 |[],[],_,_,_,hv=>hv
 |s::r,x::xs,d,vs,hr,hv=>by
  rw [O3] at hr
  split at hr
  · next a b h1 h2=>
    cases hr
    cases vs with
    |nil=>cases hv
    |cons v vs=>exact ⟨bV.weak s x a v h1 hv.1,au0 r xs b vs h2 hv.2⟩
  · cases hr
 |[],_::_,_,_,hr,_=>by simp [O3] at hr
 |_::_,[],_,_,hr,_=>by simp [O3] at hr
theorem adg:∀ (l:List bV) (d:bn l),(Ej l d).length=l.length
 |[],_=>rfl
 |_::r,d=>by simp [Ej,adg r d.2]
def aob:(l:List (List jA))→ND l→Prop
 |[],_=>True
 |c::r,x=>ahs c x.1∧aob r x.2
def bV.zV:(s:bV)→s.den→Prop
 | .v s,x=>s.zV x
 | .kp l,x=>ahs l x
 | .fn _ l,x=>aob l x
def bH:(l:List bV)→bn l→Prop
 |[],_=>True
 |s::r,x=>s.zV x.1∧bH r x.2
theorem aiR {X:V}:∀ (l:List (List jA)) (x:ND l) (us:List Value),gI X (Rl l x) us→aob l x
 |[],_,_,_=>trivial
 |c::r,x,u::us,h=>by
  obtain ⟨⟨b,hu,arr,t,fz,hf,hh,hc⟩,h2⟩:=h
  exact ⟨Rq c x.1 _ hc,aiR r x.2 us h2⟩
 |_::_,_,[],h=>by cases h
theorem JQ {X:V}:∀ (l:List bV) (x:bn l) (vs:List Value),uJ X (Ej l x) vs→bH l x
 |[],_,_,_=>trivial
 | .v (.one c)::r,x,v::vs,h=>⟨jA.aht c x.1 v h.1,JQ r x.2 vs h.2⟩
 | .v (.agg l)::r,x,v::vs,h=>by
   obtain ⟨ws,hv,hc⟩:=h.1
   exact ⟨Rq l x.1 _ hc,JQ r x.2 vs h.2⟩
 | .kp l::r,x,v::vs,h=>by
   obtain ⟨b,hu,arr,t,fz,hf,hh,hc⟩:=h.1
   exact ⟨Rq l x.1 _ hc,JQ r x.2 vs h.2⟩
 | .fn f l::r,x,v::vs,h=>by
   obtain ⟨us,hv,hk⟩:=h.1
   exact ⟨aiR l x.1 _ hk,JQ r x.2 vs h.2⟩
 |_::_,_,[],h=>by cases h
def ahu (sh:List bV) (F:bn sh→Prop×Out):fP:=fun args=>
 match O3 sh args with
 |some x=>some (F x)
 |none=>none
end Go.Fw
namespace Go.Fw
open Go
variable {P:Program} {Θ:iy} {Γ:aK}
def Hr:List SV→List (Bool×List gW)
 |[]=>[]
 |v::vs=>outOf v::Hr vs
theorem ZQ:∀ (k:Nat) (vs:List SV),jL k (Hr vs)=(vs,[])
 |_,[]=>rfl
 |k,v::vs=>by simp only [Hr,jL,asR,ZQ,List.append_nil]
def aq3 (Θ:iy) (rv:List ResultVar) (fF:List dM) (K:bF fF→Prop) (e:Exit) (st:St):Prop:=
 match e with
 | .normal| .ret=>match V4 Θ (st.freeze (Yh st)) rv with
   |some vs=>match ZP fF (vs.map (SV.kill fun _=>true)) with
    |some d=>K d
    |none=>False
   |none=>False
 |_=>False
theorem awy {G:pF} (hE:EnvB P G Θ Γ) (hm:P.follows .mixedOrders=true) {f:FuncId} {fn:Func} {c:Code} (hf:P.funcs[f]? =some fn) (hb:fn.body=some c) (H:Hints) {con:fP} {fF:List dM}
 (hwalk:∀ args p out,con args=some (p,out)→p→Nat.ble args.length fn.ntmps=true∧∃ d:bF fF,out=⟨Hr (zn fF d),none⟩∧Uc Θ Γ H c (aq3 Θ fn.results.toList fF fun y=>y=d) (entry fn.ntmps args)):aG P G f con:=by
 intro args p out k S vs w hcon hp hG hrep
 obtain ⟨hn,d,hout,hw⟩:=hwalk args p out hcon hp
 subst hout
 have hn':args.length≤fn.ntmps:=by simpa [Nat.ble_eq] using hn
 refine calls_of_wp hf hb (afW ⟨hE,hG,fun b hb=>hb.elim⟩ hm H c _ _ _ _ _ _ (auY (S:=S) fn.ntmps hn' hrep) hw ?_)
 have hret:∀ s γ' a' w',aq3 Θ fn.results.toList fF (fun y=>y=d) .ret s→Rel w (fun _=>False) ⟨S,fun _=>none,fun _ _ h=>by cases h⟩ γ' s a' w'→bodyPost P fn (fun e w'=>∃ v vals,e= .returned v∧w'.os=w.os∧w'.tape=w.tape∧w'.output=w.output∧w.heap.size≤w'.heap.size∧
  (∀ b,b<w.heap.size→w'.heap[b]? =w.heap[b]?)∧
  bg ⟨w',w.heap.size,S,vals,look (Out.take k ⟨Hr (zn fF d),none⟩).2⟩ (Out.take k ⟨Hr (zn fF d),none⟩).1 v∧
  (∀ o x,look (Out.take k ⟨Hr (zn fF d),none⟩).2 o=some x→bT ⟨w',w.heap.size,S,vals,look (Out.take k ⟨Hr (zn fF d),none⟩).2⟩ o x∧∀ b,blk (vals o)=some b→w.heap.size≤b∧b<w'.heap.size)∧
  (∀ o x q y b,look (Out.take k ⟨Hr (zn fF d),none⟩).2 o=some x→look (Out.take k ⟨Hr (zn fF d),none⟩).2 q=some y→o≠q→blk (vals o)=some b→blk (vals q)≠some b)) .ret a' w':=by
  intro s γ' a' w' he hR
  refine ⟨hR.defers,?_⟩
  simp only [aq3] at he
  split at he
  · next svs hvs=>
    split at he
    · next y hy=>
      subst he
      have hRf:=hR.freeze (Yh s)
      obtain ⟨us,hus,hrs⟩:=V5 hE.types hRf _ _ hvs
      have hk0:=eH.kill (fun _=>true) hRf svs us hrs
      have hk:=auZ fF _ y us hy hk0
      have htake:Out.take k ⟨Hr (zn fF y),none⟩=(match zn fF y with|[v]=> .sv v|l=> .qV l,[]):=by
       unfold Out.take
       simp only [ZQ]
       rcases zn fF y with _|⟨v,_|⟨v2,r⟩⟩<;>rfl
      have hmap:(fn.results.mapM (Ro a'.tmps)).run P w'= .ok us.toArray w':=by
       rw [Array.mapM_eq_mapM_toList,Sem.run_map,hus]
       rfl
      refine ⟨if h:us.toArray.size=1 then us.toArray[0] else .tuple us.toArray,?_,_,γ',rfl,hR.os,hR.tape,hR.output,hR.grow,fun b hb=>hR.kept b hb (fun h=>h),?_,?_,?_⟩
      · rw [abv,Sem.run_bind,hmap]
        simp only [Result.andThen_ok,Sem.run_pure]
      · rw [htake]
        have hl:=eH.length _ _ hk
        match hm:zn fF y,us,hk,hl with
        |[v],[u],hk,_=>exact hk.1
        |[],[],hk,_=>exact ⟨_,by simp,hk⟩
        |v::v2::r,u::u2::us,hk,hl=>exact ⟨_,by simp,hk⟩
        |[],_::_,hk,h4|_::_,[],hk,h4|[_],_::_::_,hk,h4|_::_::_,[_],hk,h4=>simp at h4
      · intro o x hx;rw [htake] at hx;cases hx
      · intro o x q y b hx;rw [htake] at hx;cases hx
    · exact he.elim
  · exact he.elim
 intro e s γ' a' w' he hR
 cases e with
 |normal=>exact hret s γ' a' w' he hR
 |ret=>exact hret s γ' a' w' he hR
 |_=>exact he.elim
def dm (sh:List bV) (fF:List dM) (F:bn sh→Prop×bF fF):fP:=ahu sh fun x=>((F x).1,⟨Hr (zn fF (F x).2),none⟩)
theorem aX {G:pF} (hE:EnvB P G Θ Γ) (hm:P.follows .mixedOrders=true) {f:FuncId} {fn:Func} {c:Code} (hf:P.funcs[f]? =some fn) (hb:fn.body=some c) (H:Hints)
 {sh:List bV} {fF:List dM} {F:bn sh→Prop×bF fF} (hn:Nat.ble sh.length fn.ntmps=true)
 (hwalk:∀ x,bH sh x→(F x).1→Uc Θ Γ H c (aq3 Θ fn.results.toList fF fun y=>y=(F x).2) (entry fn.ntmps (Ej sh x))):aG P G f (dm sh fF F):=by
 have base:∀ x,bH sh x→aG P G f (fun args=>@ite _ (args=Ej sh x) (Classical.propDecidable _) (some ((F x).1,⟨Hr (zn fF (F x).2),none⟩)) none):=by
  intro x hin
  refine awy (fF:=fF) hE hm hf hb H ?_
  intro args p out hcon hp
  split at hcon
  · next e=>
    have hF:((F x).1,(⟨Hr (zn fF (F x).2),none⟩:Out))=(p,out):=by simpa using hcon
    have h1:(F x).1=p:=congrArg Prod.fst hF
    have h2:(⟨Hr (zn fF (F x).2),none⟩:Out)=out:=congrArg Prod.snd hF
    have:=hwalk x hin (by rw [h1];exact hp)
    rw [e]
    exact ⟨by rw [adg];exact hn,(F x).2,h2.symm,this⟩
  · cases hcon
 intro args p out k S vs w hcon hp hG hrep
 unfold dm ahu at hcon
 split at hcon
 · next x hx=>
   have hv:=au0 sh args x vs.toList hx hrep
   exact base x (JQ sh x _ hv) (Ej sh x) p out k S vs w (by simp only [if_true];exact hcon) hp hG hv
 · cases hcon
end Go.Fw
namespace Go.Fw
open Go
variable {P:Program} {Θ:iy} {Γ:aK}
inductive RC where
 |c (s:jA)
 |own (e:TypeId) (r:aI) (fr:Bool)
@[reducible] def RC.den:RC→Type
  | .c s=>s.den
  | .own _ r _=>List r.den
@[reducible] def alP:List RC→Type
  |[]=>Unit
  |c::r=>c.den×alP r
def RC.auc:(c:RC)→c.den→gW
 | .c s,x=> .plain (s.cell x)
 | .own e r fr,l=> .own e r l fr
def aoc:(l:List RC)→alP l→List gW
 |[],_=>[]
 |c::r,x=>c.auc x.1::aoc r x.2
inductive fA where
 |one (c:RC)
 |agg (l:List RC)
@[reducible] def fA.den:fA→Type
  | .one c=>c.den
  | .agg l=>alP l
@[reducible] def bQ:List fA→Type
  |[]=>Unit
  |s::r=>s.den×bQ r
def fA.out:(s:fA)→s.den→Bool×List gW
 | .one c,x=>(false,[c.auc x])
 | .agg l,x=>(true,aoc l x)
def jQ:(l:List fA)→bQ l→List (Bool×List gW)
 |[],_=>[]
 |s::r,x=>s.out x.1::jQ r x.2
def RC.name:RC→Cell→Option Nat
 | .own _ _ _, .ref o=>some o
 |_,_=>none
def aod:List RC→List Cell→List (Option Nat)
 |c::r,x::xs=>c.name x::aod r xs
 |_,_=>[]
def fA.names:fA→SV→List (Option Nat)
 | .one c, .one x=>[c.name x]
 | .agg l, .agg xs=>aod l xs
 |_,_=>[]
def IB:List fA→List SV→List (Option Nat)
 |s::r,x::xs=>s.names x++IB r xs
 |_,_=>[]
def RC.read (st:St):(c:RC)→Cell→Option c.den
 | .c s,x=>match x.refs with|[]=>s.read x|_=>none
 | .own e r fr, .ref o=>match st.ak o with
   |some (.arr f s l g)=>match Nat.beq e f&&V3 fr g with
    |true=>if h:s.beq r=true then some (BU h l) else none
    |false=>none
   |_=>none
 | .own _ r _, .nil=>match Nat.ble 1 r.len with|true=>some []|false=>none
 |_,_=>none
def ZR (st:St):(l:List RC)→List Cell→Option (alP l)
 |[],[]=>some ()
 |c::r,x::xs=>match c.read st x,ZR st r xs with
  |some a,some b=>some (a,b)
  |_,_=>none
 |_,_=>none
def fA.read (st:St):(s:fA)→SV→Option s.den
 | .one c, .one x=>c.read st x
 | .agg l, .agg xs=>ZR st l xs
 |_,_=>none
def JR (st:St):(l:List fA)→List SV→Option (bQ l)
 |[],[]=>some ()
 |s::r,x::xs=>match s.read st x,JR st r xs with
  |some a,some b=>some (a,b)
  |_,_=>none
 |_,_=>none
inductive cZ where
 |p (s:bV)
 |own (e:TypeId) (r:aI)
 |ptr (l:List jA)
@[reducible] def cZ.den:cZ→Type
  | .p s=>s.den
  | .own _ r=>List r.den
  | .ptr l=>uS l
def cZ.mode:cZ→Mode
 | .p _=> .val
 | .own _ _=> .own
 | .ptr _=> .ptr
def cZ.val:(s:cZ)→s.den→Arg
 | .p s,x=>s.val x
 | .own e r,l=> .own e r l
 | .ptr l,x=> .ptr (jq l x)
def cZ.read:(s:cZ)→Arg→Option s.den
 | .p s,x=>s.read x
 | .own e r, .own f s l=>match Nat.beq e f with
   |true=>if h:s.beq r=true then some (BU h l) else none
   |false=>none
 | .ptr l, .ptr cs=>lX l cs
 |_,_=>none
@[reducible] def bK:List cZ→Type
  |[]=>Unit
  |s::r=>s.den×bK r
def Em:(l:List cZ)→bK l→List Arg
 |[],_=>[]
 |s::r,x=>s.val x.1::Em r x.2
def jR:(l:List cZ)→List Arg→Option (bK l)
 |[],[]=>some ()
 |s::r,x::xs=>match s.read x,jR r xs with
  |some a,some b=>some (a,b)
  |_,_=>none
 |_,_=>none
@[reducible] def bP:List cZ→Type
  |[]=>Unit
  | .ptr l::r=>uS l×bP r
  | .p _::r| .own _ _::r=>bP r
def lY:(l:List cZ)→bP l→List Eff
 |[],_=>[]
 | .ptr l::r,x=> .var (jq l x.1)::lY r x.2
 | .p _::r,x| .own _ _::r,x=> .lose::lY r x
def Rt (st:St):(i:Nat)→(l:List cZ)→Option (bP l)
 |_,[]=>some ()
 |i, .ptr l::r=>match st.ak (i*64+48),Rt st (i+1) r with
  |some (.var cs),some b=>match cs.flatMap Cell.refs,lX l cs with
   |[],some a=>some (a,b)
   |_,_=>none
  |_,_=>none
 |i, .p _::r|i, .own _ _::r=>Rt st (i+1) r
def Arg.avX (i:Nat):Arg→AV
 | .own _ _ _=> .sv (.one (.ref (i*64+49)))
 | .ptr _=> .dP (i*64+48) 0
 |a=>a.av
def Ru (n:Nat) (args:List Arg):St:=
 {n:=n,tmps:=fun t=>match args[t]? with|some v=>v.avX t|none=> .undef,ak:=dL args}
def alQ (st:St) (W:List (Option Nat)) (o:Nat):Bool:=Yh st o&&!(afB o W)
def aud (Θ:iy) (rv:List ResultVar) (sh:List cZ) (fF:List fA) (K:bQ fF×bP sh→Prop) (e:Exit) (st:St):Prop:=
 match e with
 | .normal| .ret=>match V4 Θ st rv with
   |some svs=>match V4 Θ (st.freeze (alQ st (IB fF svs))) rv with
    |some vs=>match FP (IB fF vs),JR (st.freeze (alQ st (IB fF svs))) fF vs,Rt (st.freeze (alQ st (IB fF svs))) 0 sh with
     |true,some d,some b=>K (d,b)
     |_,_,_=>False
    |none=>False
   |none=>False
 |_=>False
def dn (sh:List cZ) (fF:List fA) (F:bK sh→Prop×(bQ fF×bP sh→Prop)):dZ:=fun args=>
 match jR sh args with
 |some x=>some ((F x).1,⟨bQ fF×bP sh,(F x).2,fun t=>⟨jQ fF t.1,none⟩,fun t=>lY sh t.2⟩)
 |none=>none
def ai (sh:List cZ):List Mode:=sh.map cZ.mode
end Go.Fw
namespace Go.Fw
open Go
variable {P:Program} {w0:World} {M:Nat→Prop} {T:Ext} {γ γ':Nat→Value} {st:St} {a:Act} {w w':World} {Θ:iy} {Γ:aK}
def aoe (args:List Arg) (γ:Nat→Value) (o:Nat):Option Value:=match dL args o with|some (.var _)=>some (γ o)|_=>none
theorem avD {args:List Arg} {o:Nat} {cs:List Cell} (h:dL args o=some (.var cs)):o%64=48:=by
 unfold dL at h
 split at h
 · split at h<;>cases h
 · split at h
   · next hm=>exact Nat.eq_of_beq_eq_true hm
   · cases h
 · cases h
def afX (args:List Arg) (γ:Nat→Value) (S:Nat→Prop):Ext where
 S:=fun b=>S b∨CX (dL args) γ b
 N:=aoe args γ
 n48:=by
  intro p v h
  unfold aoe at h
  split at h
  · next cs hc=>exact avD hc
  · cases h
theorem Ei.get {X:V}:∀ (as:List Arg) (vs:List Value) (i:Nat),Ei X i as vs→as.length=vs.length∧∀ (j:Nat) (b:Arg),as[j]? =some b→∃ v,vs[j]? =some v∧VT X (i+j) b v
 |[],[],_,_=>⟨rfl,fun j b h=>by simp at h⟩
 |x::as,v::vs,i,⟨h1,h2⟩=>by
  obtain ⟨g1,g2⟩:=Ei.get as vs (i+1) h2
  refine ⟨by simp [g1],fun j b hb=>?_⟩
  cases j with
  |zero=>simp at hb;subst hb;exact ⟨v,rfl,h1⟩
  |succ j=>
   obtain ⟨u,hu,hr⟩:=g2 j b (by simpa using hb)
   exact ⟨u,by simpa using hu,by rw [show i+(j+1)=i+1+j by omega];exact hr⟩
 |[],_::_,_,H|_::_,[],_,H=>by cases H
theorem VT.av {X:V} (i:Nat):∀ (c:Arg) (v:Value),VT X i c v→bg X (c.avX i) v
 | .own _ _ _,_,h=>h
 | .ptr _,_,h=>h
 | .sv _,_,h| .kp _,_,h| .fn _ _,_,h=>h
theorem alR {args:List Arg} {vs:Array Value} {S:Nat→Prop} (n:Nat) (hn:args.length≤n)
 (h:Ei ⟨w,w.heap.size,S,γ,dL args⟩ 0 args vs.toList)
 (ho:∀ o x,dL args o=some x→bT ⟨w,w.heap.size,S,γ,dL args⟩ o x∧∀ b,blk (γ o)=some b→b<w.heap.size)
 (hs:∀ o x q y b,dL args o=some x→dL args q=some y→o≠q→blk (γ o)=some b→blk (γ q)≠some b):
 Rel w (CX (dL args) γ) (afX args γ S) γ (Ru n args) {tmps:=vs++Array.replicate (n-vs.size) undef,defers:=[]} w:=by
 obtain ⟨hl0,hget⟩:=Ei.get _ _ 0 h
 have hl:vs.size=args.length:=by simpa using hl0.symm
 have le:V.le ⟨w,w.heap.size,S,γ,dL args⟩ ⟨w,w.heap.size,(afX args γ S).S,γ,dL args⟩:=
  ⟨Nat.le_refl _,fun b hb=>⟨⟨hb.1,fun hlt=> .inl (hb.2.1 hlt),hb.2.2⟩,rfl⟩,fun o cs hx=>⟨⟨cs,hx⟩,rfl⟩,fun o e r l fr hx=>⟨⟨l,fr,hx⟩,rfl⟩⟩
 refine ⟨fun b hb=> .inr hb,rfl,?_,rfl,rfl,rfl,Nat.le_refl _,fun _ _ _=>rfl,fun t=>?_,fun o x hx=>bT.mono le o x (fun _ _=>rfl) rfl (ho o x hx).1,fun o x b hx hb=>⟨(ho o x hx).2 b hb, .inr ⟨o,x,hx,hb⟩⟩,fun o x p y b hx hy hop hb=>hs o x p y b hx hy hop hb,fun o v cs hN hx=>?_⟩
 · simp [Ru];omega
 · simp only [Ru]
   cases ha:args[t]? with
   |none=>trivial
   |some v=>
    obtain ⟨u,hu,hr⟩:=hget t v ha
    have:(vs++Array.replicate (n-vs.size) undef).getD t undef=u:=by
     have hlt:t<args.length:=by
      rcases Nat.lt_or_ge t args.length with h'|h'
      · exact h'
      · rw [List.getElem?_eq_none h'] at ha;cases ha
     have hlt':t<vs.size:=by omega
     rw [Array.getD_eq_getD_getElem?,Array.getElem?_append_left hlt']
     have:vs[t]? =some u:=by simpa using hu
     rw [this];rfl
    rw [this]
    rw [Nat.zero_add] at hr
    exact bg.mono le _ _ (VT.av t v u hr)
 · have hx':dL args o=some (.var cs):=hx
   have hN':aoe args γ o=some v:=hN
   unfold aoe at hN'
   rw [hx'] at hN'
   exact Option.some.inj hN'
def AW (a a':Arg):Prop:=
 (∃ e r l,a= .own e r l∧a'= .own e r l)∨(∃ cs cs',a= .ptr cs∧a'= .ptr cs'∧∀ (X:V) vs,ax X cs vs→ax X cs' vs)∨
 ((∀ (X:V) v,bg X a.av v→bg X a'.av v)∧(∀ i,a.avX i=a.av)∧(∀ i,a'.avX i=a'.av)∧(∀ e r l,a≠ .own e r l)∧(∀ cs,a≠ .ptr cs)∧(∀ e r l,a'≠ .own e r l)∧(∀ cs,a'≠ .ptr cs))
theorem bV.aue {s:bV} {x:Arg} {d:s.den} (h:s.read x=some d):AW x (s.val d):=by
 refine .inr (.inr ⟨fun X v hv=>?_,?_⟩)
 · have hx:wZ X x v:=by
    cases x with
    |sv _|kp _|fn _ _=>exact hv
    |own _ _ _|ptr _=>cases s<;>simp [bV.read] at h
   exact wZ.av _ _ (bV.weak s x d v h hx)
 · cases x<;>cases s<;>first
    |(simp [bV.read] at h;done)
    |exact ⟨fun _=>rfl,fun _=>rfl,(fun _ _ _ e=>by cases e),(fun _ e=>by cases e),(fun _ _ _ e=>by cases e),(fun _ e=>by cases e)⟩
theorem cZ.aue {s:cZ} {x:Arg} {d:s.den} (h:s.read x=some d):AW x (s.val d):=by
 unfold cZ.read at h
 split at h
 · exact bV.aue h
 · next e r f s l=>
   split at h
   · next hb=>
     split at h
     · next hs=>
       cases h
       have he:=Nat.eq_of_beq_eq_true hb
       subst he
       have hsr:=aI.eq_of_beq s r hs
       subst hsr
       exact .inl ⟨e,s,l,rfl,rfl⟩
     · cases h
   · cases h
 · next l cs=>exact .inr (.inl ⟨cs,_,rfl,rfl,fun X vs hc=>LC _ _ _ _ h hc⟩)
 · cases h
theorem Uz:∀ {l:List cZ} {xs:List Arg} {d:bK l},jR l xs=some d→(Em l d).length=xs.length∧∀ (i:Nat) (a:Arg),xs[i]? =some a→∃ a',(Em l d)[i]? =some a'∧AW a a'
 |[],[],_,_=>⟨rfl,fun i a h=>by simp at h⟩
 |s::r,x::xs,d,h=>by
  rw [jR] at h
  split at h
  · next a b h1 h2=>
    cases h
    obtain ⟨g1,g2⟩:=Uz h2
    refine ⟨by simp [Em,g1],fun i c hc=>?_⟩
    cases i with
    |zero=>simp at hc;subst hc;exact ⟨_,rfl,cZ.aue h1⟩
    |succ i=>
     obtain ⟨c',k1,k2⟩:=g2 i c (by simpa using hc)
     exact ⟨c',by simpa [Em] using k1,k2⟩
  · cases h
 |[],_::_,_,h=>by simp [jR] at h
 |_::_,[],_,h=>by simp [jR] at h
theorem Yj {args:List Arg} {o:Nat} (h:∀ b,args[o / 64]? =some b→(∀ e r l,b≠ .own e r l)∧∀ cs,b≠ .ptr cs):dL args o=none:=by
 unfold dL
 split
 · next e r l ha=>exact ((h _ ha).1 e r l rfl).elim
 · next cs ha=>exact ((h _ ha).2 cs rfl).elim
 · rfl
theorem adh {sh:List cZ} {args:List Arg} {x:bK sh} (h:jR sh args=some x) (n:Nat):Covers (Ru n (Em sh x)) (Ru n args):=by
 obtain ⟨hl,hget⟩:=Uz h
 refine ⟨rfl,fun t X v hv=>?_,fun o=>?_⟩
 · simp only [Ru] at hv ⊢
   cases ha:args[t]? with
   |none=>
    have:(Em sh x)[t]? =none:=by
     rw [List.getElem?_eq_none_iff] at ha ⊢;omega
    rw [this];trivial
   |some b=>
    obtain ⟨b',hb',hw⟩:=hget t b ha
    rw [ha] at hv
    rw [hb']
    dsimp only at hv ⊢
    rcases hw with ⟨e,r,l,rfl,rfl⟩|⟨cs,cs',rfl,rfl,_⟩|⟨hw,e1,e2,_⟩
    · exact hv
    · exact hv
    · rw [e1] at hv;rw [e2];exact hw X v hv
 · show (dL (Em sh x) o=none∧dL args o=none)∨∃ y y',dL args o=some y∧dL (Em sh x) o=some y'∧QB y y'
   cases ha:args[o / 64]? with
   |none=>
    have h2:(Em sh x)[o / 64]? =none:=by
     rw [List.getElem?_eq_none_iff] at ha ⊢;omega
    exact .inl ⟨Yj (by rw [h2];intro b hb;cases hb),Yj (by rw [ha];intro b hb;cases hb)⟩
   |some b=>
    obtain ⟨b',hb',hw⟩:=hget _ b ha
    rcases hw with ⟨e,r,l,rfl,rfl⟩|⟨cs,cs',rfl,rfl,hc⟩|⟨_,_,_,n1,n2,n3,n4⟩
    · unfold dL
      rw [ha,hb']
      dsimp only
      cases hm:Nat.beq (o%64) 49 with
      |true=>exact .inr ⟨_,_,rfl,rfl, .inr ⟨e,r,l,false,false,rfl,rfl,id⟩⟩
      |false=>exact .inl ⟨rfl,rfl⟩
    · unfold dL
      rw [ha,hb']
      dsimp only
      cases hm:Nat.beq (o%64) 48 with
      |true=>exact .inr ⟨_,_,rfl,rfl, .inl ⟨cs,cs',rfl,rfl,hc⟩⟩
      |false=>exact .inl ⟨rfl,rfl⟩
    · exact .inl ⟨Yj (by rw [hb'];intro c hc;cases hc;exact ⟨n3,n4⟩),Yj (by rw [ha];intro c hc;cases hc;exact ⟨n1,n2⟩)⟩
theorem aiS (a b:List (Nat×aO)) (p:Nat):look (a++b) p=match look b p with|some y=>some y|none=>look a p:=by
 induction a with
 |nil=>simp only [List.nil_append,look];cases look b p<;>rfl
 |cons x a ih=>
  obtain ⟨o,z⟩:=x
  rw [List.cons_append,look,ih,look]
  cases look b p<;>rfl
theorem BV:∀ (cs:List gW) (k p:Nat) (x:aO),look (lW k cs).2 p=some x↔∃ i e r l fr,p=k+i∧cs[i]? =some (.own e r l fr)∧x= .arr e r l fr
 |[],k,p,x=>by simp [lW,look]
 |c::cs,k,p,x=>by
  rw [lW,aiS]
  have ih:=BV cs (k+1) p x
  constructor
  · intro h
    split at h
    · next y hy=>
      cases h
      obtain ⟨i,e,r,l,fr,h1,h2,h3⟩:=(BV cs (k+1) p x).1 hy
      exact ⟨i+1,e,r,l,fr,by omega,by simpa using h2,h3⟩
    · next hn=>
      cases c with
      |plain c=>simp [gW.take,look] at h
      |own e r l fr=>
       simp only [gW.take,look] at h
       split at h
       · next hb=>
         cases h
         exact ⟨0,e,r,l,fr,by have:=Nat.eq_of_beq_eq_true hb;omega,rfl,rfl⟩
       · cases h
  · rintro ⟨i,e,r,l,fr,h1,h2,rfl⟩
    cases i with
    |succ i=>
     have:=(BV cs (k+1) p (.arr e r l fr)).2 ⟨i,e,r,l,fr,by omega,by simpa using h2,rfl⟩
     rw [this]
    |zero=>
     simp at h2
     subst h2
     have hn:look (lW (k+1) cs).2 p=none:=by
      cases hl:look (lW (k+1) cs).2 p with
      |none=>rfl
      |some y=>
       obtain ⟨i,_,_,_,_,g1,_⟩:=(BV cs (k+1) p y).1 hl
       omega
     rw [hn]
     have hp:p=k:=by omega
     subst hp
     simp [gW.take,look]
def UA (rs:List (Bool×List gW)):List gW:=rs.flatMap (·.2)
theorem asT (k:Nat) (x:Bool×List gW):(DJ k x).2=(lW k x.2).2:=by
 unfold DJ
 split
 · next e1 e2=>rw [e2]
 · next e1 e2=>rw [e2]
 · next e1 e2=>rw [e2]
theorem Iq:∀ (rs:List (Bool×List gW)) (k p:Nat) (x:aO),look (jL k rs).2 p=some x↔∃ i e r l fr,p=k+i∧(UA rs)[i]? =some (.own e r l fr)∧x= .arr e r l fr
 |[],k,p,x=>by simp [jL,look,UA]
 |y::rs,k,p,x=>by
  rw [jL,aiS,asT]
  have auf:UA (y::rs)=y.2++UA rs:=rfl
  constructor
  · intro h
    split at h
    · next z hz=>
      cases h
      obtain ⟨i,e,r,l,fr,h1,h2,h3⟩:=(Iq rs (k+y.2.length) p x).1 hz
      refine ⟨y.2.length+i,e,r,l,fr,by omega,?_,h3⟩
      rw [auf,List.getElem?_append_right (by omega)]
      simpa using h2
    · obtain ⟨i,e,r,l,fr,h1,h2,h3⟩:=(BV y.2 k p x).1 h
      refine ⟨i,e,r,l,fr,h1,?_,h3⟩
      rw [auf,List.getElem?_append_left (List.getElem?_eq_some_iff.1 h2).1]
      exact h2
  · rintro ⟨i,e,r,l,fr,h1,h2,rfl⟩
    rw [auf] at h2
    rcases Nat.lt_or_ge i y.2.length with hlt|hge
    · rw [List.getElem?_append_left hlt] at h2
      have hn:look (jL (k+y.2.length) rs).2 p=none:=by
       cases hl:look (jL (k+y.2.length) rs).2 p with
       |none=>rfl
       |some z=>
        obtain ⟨j,_,_,_,_,g1,_⟩:=(Iq rs (k+y.2.length) p z).1 hl
        omega
      rw [hn]
      exact (BV y.2 k p _).2 ⟨i,e,r,l,fr,h1,h2,rfl⟩
    · rw [List.getElem?_append_right hge] at h2
      have:=(Iq rs (k+y.2.length) p (.arr e r l fr)).2 ⟨i-y.2.length,e,r,l,fr,by omega,h2,rfl⟩
      rw [this]
end Go.Fw
namespace Go.Fw
open Go
set_option linter.unusedVariables false
variable {P:Program} {w0:World} {M:Nat→Prop} {T:Ext} {γ γ':Nat→Value} {st:St} {a:Act} {w w':World} {Θ:iy} {Γ:aK}
def RF (Y:V) (c:gW) (v:Value) (n:Option Nat):Prop:=
 match c with
 | .plain x=>aZ Y x v∧x.refs=[]
 | .own e r l fr=>0<r.len∧((∃ o g,n=some o∧Y.ak o=some (.arr e r l g)∧V3 fr g=true∧v=Y.γ o∧v.oneCell'=true)∨(l=[]∧v= .slice none 0 0))
def LG (Y:V):List gW→List Value→List (Option Nat)→Prop
 |[],[],[]=>True
 |c::cs,v::vs,n::ns=>RF Y c v n∧LG Y cs vs ns
 |_,_,_=>False
theorem LG.append {Y:V}:∀ (cs:List gW) (vs:List Value) (ns:List (Option Nat)) (ds:List gW) (us:List Value) (ms:List (Option Nat)),LG Y cs vs ns→LG Y ds us ms→LG Y (cs++ds) (vs++us) (ns++ms)
 |[],[],[],_,_,_,_,h=>h
 |_::cs,_::vs,_::ns,ds,us,ms,⟨h1,h2⟩,h=>⟨h1,LG.append cs vs ns ds us ms h2 h⟩
theorem LG.length {Y:V}:∀ (cs:List gW) (vs:List Value) (ns:List (Option Nat)),LG Y cs vs ns→cs.length=vs.length
 |[],[],[],_=>rfl
 |_::cs,_::vs,_::ns,⟨_,h2⟩=>by simp [LG.length cs vs ns h2]
theorem LG.get {Y:V}:∀ (cs:List gW) (vs:List Value) (ns:List (Option Nat)) (i:Nat) (c:gW),LG Y cs vs ns→cs[i]? =some c→∃ v n,vs[i]? =some v∧ns[i]? =some n∧RF Y c v n
 |[],[],[],i,c,_,h=>by simp at h
 |x::cs,v::vs,n::ns,0,c,⟨h1,_⟩,h=>by simp at h;subst h;exact ⟨v,n,rfl,rfl,h1⟩
 |x::cs,v::vs,n::ns,i+1,c,⟨_,h2⟩,h=>by
  obtain ⟨u,m,g1,g2,g3⟩:=LG.get cs vs ns i c h2 (by simpa using h)
  exact ⟨u,m,by simpa using g1,by simpa using g2,g3⟩
theorem jA.apJ (c:jA) (x:Cell) (d:c.den) (h:c.read x=some d) (hx:x.refs=[]):(c.cell d).refs=[]:=by
 cases c<;>cases x<;>first|rfl|(simp [jA.read] at h;done)|(cases hx)
theorem RC.atp {Y:V} (hst:Y.ak=st.ak) (hpos:∀ o e r l g,st.ak o=some (.arr e r l g)→0<r.len):∀ (c:RC) (x:Cell) (d:c.den) (v:Value),c.read st x=some d→aZ Y x v→RF Y (c.auc d) v (c.name x):=by
 intro c x d v hr hv
 cases c with
 |c s=>
  rw [RC.read] at hr
  split at hr
  · next hx=>exact ⟨jA.weak s x d v hr hv,jA.apJ s x d hr hx⟩
  · cases hr
 |own e r fr=>
  cases x with
  |ref o=>
   simp only [RC.read] at hr
   split at hr
   · next f s l g ho=>
     split at hr
     · next hb=>
       split at hr
       · next hs=>
         cases hr
         rw [Bool.and_eq_true] at hb
         have he:=Nat.eq_of_beq_eq_true hb.1
         subst he
         have hsr:=aI.eq_of_beq s r hs
         subst hsr
         exact ⟨hpos _ _ _ _ _ ho, .inl ⟨o,g,rfl,by rw [hst];exact ho,hb.2,hv.2.1,hv.2.2⟩⟩
       · cases hr
     · cases hr
   · cases hr
  |nil=>
   simp only [RC.read] at hr
   split at hr
   · next hb=>
     cases hr
     exact ⟨Nat.lt_of_lt_of_le Nat.zero_lt_one (by simpa [Nat.ble_eq] using hb), .inr ⟨rfl,hv⟩⟩
   · cases hr
  |_=>simp [RC.read] at hr
theorem alS {Y:V} (hst:Y.ak=st.ak) (hpos:∀ o e r l g,st.ak o=some (.arr e r l g)→0<r.len):∀ (l:List RC) (xs:List Cell) (d:alP l) (vs:List Value),ZR st l xs=some d→ax Y xs vs→LG Y (aoc l d) vs (aod l xs)
 |[],[],_,[],_,_=>trivial
 |c::r,x::xs,d,v::vs,h,⟨h1,h2⟩=>by
  rw [ZR] at h
  split at h
  · next a b g1 g2=>
    cases h
    exact ⟨RC.atp hst hpos c x a v g1 h1,alS hst hpos r xs b vs g2 h2⟩
  · cases h
 |[],_::_,_,_,h,_=>by simp [ZR] at h
 |_::_,[],_,_,h,_=>by simp [ZR] at h
theorem fA.arT {Y:V} (hst:Y.ak=st.ak) (hpos:∀ o e r l g,st.ak o=some (.arr e r l g)→0<r.len):∀ (s:fA) (x:SV) (d:s.den) (v:Value),s.read st x=some d→eG Y x v→LG Y (s.out d).2 v.cells.toList (s.names x)
 | .one c, .one x,d,v,h,hv=>by
   rw [OT v (aZ.one x v hv)]
   exact ⟨RC.atp hst hpos c x d v h hv,trivial⟩
 | .agg l, .agg xs,d,v,h,⟨vs,hv,hc⟩=>by
   rw [hv]
   exact alS hst hpos l xs d _ h hc
 | .one _, .agg _,_,_,h,_| .agg _, .one _,_,_,h,_=>by simp [fA.read] at h
theorem alT {Y:V} (hst:Y.ak=st.ak) (hpos:∀ o e r l g,st.ak o=some (.arr e r l g)→0<r.len):∀ (l:List fA) (xs:List SV) (d:bQ l) (vs:List Value),JR st l xs=some d→eH Y xs vs→
 LG Y (UA (jQ l d)) (vs.flatMap fun v=>v.cells.toList) (IB l xs)
 |[],[],_,[],_,_=>trivial
 |s::r,x::xs,d,v::vs,h,⟨h1,h2⟩=>by
  rw [JR] at h
  split at h
  · next a b g1 g2=>
    cases h
    exact LG.append _ _ _ _ _ _ (fA.arT hst hpos s x a v g1 h1) (alT hst hpos r xs b vs g2 h2)
  · cases h
 |[],_::_,_,_,h,_=>by simp [JR] at h
 |_::_,[],_,_,h,_=>by simp [JR] at h
def Go1 (Z:V) (k:Nat) (c:gW) (v:Value):Prop:=aZ Z (c.take k).1 v
def P7 (Z:V):Nat→List gW→List Value→Prop
 |_,[],[]=>True
 |k,c::cs,v::vs=>Go1 Z k c v∧P7 Z (k+1) cs vs
 |_,_,_=>False
theorem P7.of {Z:V}:∀ (cs:List gW) (vs:List Value) (k:Nat),cs.length=vs.length→(∀ i c v,cs[i]? =some c→vs[i]? =some v→Go1 Z (k+i) c v)→P7 Z k cs vs
 |[],[],_,_,_=>trivial
 |c::cs,v::vs,k,hl,h=>⟨h 0 c v rfl rfl,P7.of cs vs (k+1) (by simpa using hl) fun i c' v' h1 h2=>by
   have:=h (i+1) c' v' (by simpa using h1) (by simpa using h2)
   rwa [show k+(i+1)=k+1+i by omega] at this⟩
theorem P7.split {Z:V}:∀ (cs:List gW) (vs:List Value) (ds:List gW) (us:List Value) (k:Nat),cs.length=vs.length→P7 Z k (cs++ds) (vs++us)→P7 Z k cs vs∧P7 Z (k+cs.length) ds us
 |[],[],_,_,_,_,h=>⟨trivial,h⟩
 |c::cs,v::vs,ds,us,k,hl,⟨h1,h2⟩=>by
  obtain ⟨g1,g2⟩:=P7.split cs vs ds us (k+1) (by simpa using hl) h2
  exact ⟨⟨h1,g1⟩,by rw [show k+(c::cs).length=k+1+cs.length by simp;omega];exact g2⟩
theorem P7.cells {Z:V}:∀ (cs:List gW) (vs:List Value) (k:Nat),P7 Z k cs vs→ax Z (lW k cs).1 vs
 |[],[],_,_=>trivial
 |c::cs,v::vs,k,⟨h1,h2⟩=>⟨h1,P7.cells cs vs (k+1) h2⟩
theorem fA.go {Y Z:V}:∀ (s:fA) (x:SV) (d:s.den) (v:Value) (k:Nat),s.read st x=some d→eG Y x v→P7 Z k (s.out d).2 v.cells.toList→eG Z (DJ k (s.out d)).1 v
 | .one c, .one x,d,v,k,h,hv,hg=>by
   rw [OT v (aZ.one x v hv)] at hg
   exact hg.1
 | .agg l, .agg xs,d,v,k,h,⟨vs,hv,hc⟩,hg=>by
   rw [hv] at hg ⊢
   exact ⟨vs,rfl,P7.cells _ _ _ hg⟩
 | .one _, .agg _,_,_,_,h,_,_| .agg _, .one _,_,_,_,h,_,_=>by simp [fA.read] at h
theorem apK {Y Z:V} (hst:Y.ak=st.ak) (hpos:∀ o e r l g,st.ak o=some (.arr e r l g)→0<r.len):∀ (l:List fA) (xs:List SV) (d:bQ l) (vs:List Value) (k:Nat),JR st l xs=some d→eH Y xs vs→
 P7 Z k (UA (jQ l d)) (vs.flatMap fun v=>v.cells.toList)→eH Z (jL k (jQ l d)).1 vs
 |[],[],_,[],_,_,_,_=>trivial
 |s::r,x::xs,d,v::vs,k,h,⟨h1,h2⟩,hg=>by
  rw [JR] at h
  split at h
  · next a b g1 g2=>
    cases h
    have hl:=LG.length _ _ _ (fA.arT hst hpos s x a v g1 h1)
    obtain ⟨k1,k2⟩:=P7.split _ _ _ _ k hl hg
    exact ⟨fA.go s x a v k g1 h1 k1,apK hst hpos r xs b vs _ g2 h2 k2⟩
  · cases h
 |[],_::_,_,_,_,h,_,_=>by simp [JR] at h
 |_::_,[],_,_,_,h,_,_=>by simp [JR] at h
theorem aiT:∀ (l:List jA) (xs:List Cell) (d:uS l),lX l xs=some d→xs.flatMap Cell.refs=[]→(jq l d).flatMap Cell.refs=[]
 |[],[],_,_,_=>rfl
 |c::r,x::xs,d,h,hx=>by
  rw [lX] at h
  split at h
  · next a b g1 g2=>
    cases h
    rw [List.flatMap_cons,List.append_eq_nil_iff] at hx
    show (c.cell a::jq r b).flatMap Cell.refs=[]
    rw [List.flatMap_cons,jA.apJ c x a g1 hx.1,aiT r xs b g2 hx.2,List.append_nil]
  · cases h
 |[],_::_,_,h,_=>by simp [lX] at h
 |_::_,[],_,h,_=>by simp [lX] at h
theorem UB:∀ (sh:List cZ) (i:Nat) (b:bP sh),Rt st i sh=some b→∀ (j:Nat) (e:Eff),(lY sh b)[j]? =some e→
 e= .lose∨∃ l cs cs0,sh[j]? =some (.ptr l)∧e= .var cs∧st.ak ((i+j)*64+48)=some (.var cs0)∧cs0.flatMap Cell.refs=[]∧cs.flatMap Cell.refs=[]∧∀ (X:V) vs,ax X cs0 vs→ax X cs vs
 |[],_,_,_,j,e,he=>by simp [lY] at he
 | .ptr l::r,i,b,h,j,e,he=>by
   rw [Rt] at h
   split at h
   · next cs b' hx hb=>
     split at h
     · next a hr ha=>
       cases h
       cases j with
       |zero=>
        simp [lY] at he
        subst he
        exact .inr ⟨l,_,cs,rfl,rfl,by simpa using hx,hr,aiT _ _ _ ha hr,fun X vs hc=>LC _ _ _ _ ha hc⟩
       |succ j=>
        rcases UB r (i+1) b' hb j e (by simpa [lY] using he) with h|⟨l,cs',cs0,h1,h2,h3,h4⟩
        · exact .inl h
        · exact .inr ⟨l,cs',cs0,by simpa using h1,h2,by rw [show i+(j+1)=i+1+j by omega];exact h3,h4⟩
     · cases h
   · cases h
 | .p _::r,i,b,h,j,e,he| .own _ _::r,i,b,h,j,e,he=>by
   rw [Rt] at h
   cases j with
   |zero=>simp [lY] at he;exact .inl he.symm
   |succ j=>
    rcases UB r (i+1) b h j e (by simpa [lY] using he) with h|⟨l,cs',cs0,h1,h2,h3,h4⟩
    · exact .inl h
    · exact .inr ⟨l,cs',cs0,by simpa using h1,h2,by rw [show i+(j+1)=i+1+j by omega];exact h3,h4⟩
theorem alU:∀ {sh:List cZ} {xs:List Arg} {d:bK sh},jR sh xs=some d→∀ (j:Nat) (l:List jA),sh[j]? =some (.ptr l)→∃ cs,xs[j]? =some (.ptr cs)
 |[],[],_,_,j,l,h=>by simp at h
 |s::r,x::xs,d,h,j,l,hj=>by
  rw [jR] at h
  split at h
  · next a b h1 h2=>
    cases j with
    |zero=>
     simp at hj
     subst hj
     cases x with
     |ptr cs=>exact ⟨cs,rfl⟩
     |_=>simp [cZ.read] at h1
    |succ j=>
     obtain ⟨cs,hc⟩:=alU h2 j l (by simpa using hj)
     exact ⟨cs,by simpa using hc⟩
  · cases h
 |[],_::_,_,h,_,_,_=>by simp [jR] at h
 |_::_,[],_,h,_,_,_=>by simp [jR] at h
theorem au1 {sh:List cZ} {b:bP sh} (hb:Rt st 0 sh=some b) {q:Nat} {y:aO} (h:qG (lY sh b) q=some y):
 q%64=48∧∃ l cs cs0,sh[q / 64]? =some (.ptr l)∧y= .var cs∧st.ak q=some (.var cs0)∧cs0.flatMap Cell.refs=[]∧cs.flatMap Cell.refs=[]∧∀ (X:V) vs,ax X cs0 vs→ax X cs vs:=by
 unfold qG at h
 split at h
 · next e r l he=>
   rcases UB sh 0 b hb _ _ he with h'|⟨_,_,_,_,h',_⟩<;>cases h'
 · next cs he=>
   split at h
   · next hm=>
     have hm':=Nat.eq_of_beq_eq_true hm
     cases h
     rcases UB sh 0 b hb _ _ he with h'|⟨l,cs',cs0,h1,h2,h3,h4⟩
     · cases h'
     · cases h2
       refine ⟨hm',l,_,cs0,h1,rfl,?_,h4⟩
       rw [show q=(0+q / 64)*64+48 by omega]
       exact h3
   · cases h
 · cases h
def cZ.zV:(s:cZ)→s.den→Prop
 | .p s,x=>s.zV x
 | .own _ r,(l:List r.den)=>∀ x∈l,r.zV x
 | .ptr l,x=>ahs l x
def dh:(l:List cZ)→bK l→Prop
 |[],_=>True
 |s::r,x=>s.zV x.1∧dh r x.2
theorem bV.aht {X:V} (s:bV) (x:Arg) (d:s.den) (v:Value) (h:s.read x=some d) (hr:wZ X x v):s.zV d:=
 (JQ (X:=X) [s] (d,()) [v] ⟨bV.weak s x d v h hr,trivial⟩).1
theorem afY {X:V} {args:List Arg} (ho:∀ o x,dL args o=some x→bT X o x):∀ (sh:List cZ) (xs:List Arg) (d:bK sh) (vs:List Value) (i:Nat),(∀ j a,xs[j]? =some a→args[i+j]? =some a)→
 jR sh xs=some d→Ei X i xs vs→dh sh d
 |[],[],_,_,_,_,_,_=>trivial
 |s::r,x::xs,d,v::vs,i,hj,h,⟨hv,hvs⟩=>by
  rw [jR] at h
  split at h
  · next a b h1 h2=>
    cases h
    refine ⟨?_,afY ho r xs b vs (i+1) (fun j c hc=>by have:=hj (j+1) c (by simpa using hc);rwa [show i+(j+1)=i+1+j by omega] at this) h2 hvs⟩
    have hx:args[i]? =some x:=hj 0 x rfl
    cases s with
    |p s=>
     have h1':s.read x=some a:=by simpa [cZ.read] using h1
     refine bV.aht (X:=X) s x a v h1' ?_
     cases x with
     |own _ _ _|ptr _=>cases s<;>simp [bV.read] at h1'
     |_=>exact hv
    |own e r'=>
     cases x with
     |own f s' l=>
      have h1':(match Nat.beq e f with|true=>if h:s'.beq r'=true then some (BU h l) else none|false=>none)=some a:=h1
      split at h1'
      · split at h1'
        · next hb hs=>
          cases h1'
          have hsr:=aI.eq_of_beq s' r' hs
          subst hsr
          have vO:dL args (i*64+49)=some (.arr f s' l false):=by
           unfold dL
           rw [show (i*64+49) / 64=i by omega,hx]
           dsimp only
           rw [show (i*64+49)%64=49 by omega]
          obtain ⟨us,_,_,_,hrow⟩:=ho _ _ vO
          intro y hy
          have hy':y∈l:=hy
          obtain ⟨j,hj1,hj2⟩:=List.mem_iff_getElem.1 hy'
          exact bD.zV s' _ _ (hrow j y (by rw [List.getElem?_eq_getElem hj1,hj2]))
        · cases h1'
      · cases h1'
     |_=>simp [cZ.read] at h1
    |ptr l=>
     cases x with
     |ptr cs=>
      have h1':lX l cs=some a:=h1
      have vO:dL args (i*64+48)=some (.var cs):=by
       unfold dL
       rw [show (i*64+48) / 64=i by omega,hx]
       dsimp only
       rw [show (i*64+48)%64=48 by omega]
      obtain ⟨_,arr,_,_,_,hc⟩:=ho _ _ vO
      exact Rq l a _ (LC _ _ _ _ h1' hc)
     |_=>simp [cZ.read] at h1
  · cases h
 |[],_::_,_,_,_,_,h,_=>by simp [jR] at h
 |_::_,[],_,_,_,_,h,_=>by simp [jR] at h
theorem SH:∀ (l:List cZ) (d:bK l),(Em l d).length=l.length
 |[],_=>rfl
 |_::r,d=>by simp [Em,SH r d.2]
theorem Out.avE (rs:List (Bool×List gW)) (k:Nat):((⟨rs,none⟩:Out).take k).2=(jL k rs).2:=by
 unfold Out.take
 dsimp only
 split
 · next h=>rw [h]
 · next h=>rw [h]
theorem Out.avF (rs:List (Bool×List gW)) (k:Nat):((⟨rs,none⟩:Out).take k).1=(match (jL k rs).1 with|[v]=>AV.sv v|vs=> .qV vs):=by
 unfold Out.take
 dsimp only
 split
 · next h=>rw [h]
 · next vs δ hne h=>
   rw [h]
   dsimp only
   rcases vs with _|⟨v,_|⟨v2,r⟩⟩
   · rfl
   · exact (hne v rfl).elim
   · rfl
theorem ayf {args:List Arg} {S:Nat→Prop} {sh:List cZ} {fF:List fA} {x:bK sh} (hx:jR sh args=some x) {d:bQ fF} {b:bP sh} {k:Nat} {vs:List SV} {us:List Value}
 (hR:Rel w (CX (dL args) γ) (afX args γ S) γ' st a w') (hrs:eH (aA w (afX args γ S) γ' st w') vs us) (hnd:FP (IB fF vs)=true) (hrd:JR st fF vs=some d) (hbk:Rt st 0 sh=some b)
 (hap:∀ o x,look ((⟨jQ fF d,none⟩:Out).take k).2 o=some x→qG (lY sh b) o=none):
 ∃ γ2,bg ⟨w',w.heap.size,xg S args (lY sh b) γ,γ2,look ((⟨jQ fF d,none⟩:Out).take k).2⟩ ((⟨jQ fF d,none⟩:Out).take k).1 (if h:us.toArray.size=1 then us.toArray[0] else .tuple us.toArray)∧
   (∀ o x,look ((⟨jQ fF d,none⟩:Out).take k).2 o=some x→bT ⟨w',w.heap.size,xg S args (lY sh b) γ,γ2,look ((⟨jQ fF d,none⟩:Out).take k).2⟩ o x∧
     ∀ b',blk (γ2 o)=some b'→b'<w'.heap.size∧(w.heap.size≤b'∨CX (dL args) γ b')∧∀ q y,qG (lY sh b) q=some y→blk (γ q)≠some b')∧
   (∀ o x q y b',look ((⟨jQ fF d,none⟩:Out).take k).2 o=some x→look ((⟨jQ fF d,none⟩:Out).take k).2 q=some y→o≠q→blk (γ2 o)=some b'→blk (γ2 q)≠some b')∧
   (∀ o x,qG (lY sh b) o=some x→γ2 o=γ o∧bT ⟨w',w.heap.size,xg S args (lY sh b) γ,γ2,look ((⟨jQ fF d,none⟩:Out).take k).2⟩ o x):=by
 rw [Out.avE] at hap ⊢
 rw [Out.avF]
 skip
 let Y:V:=aA w (afX args γ S) γ' st w'
 let fv:List Value:=us.flatMap fun v=>v.cells.toList
 let aV:=lY sh b
 let γ2:Nat→Value:=fun p=>match qG aV p with|some _=>γ p|none=>fv.getD (p-k) undef
 let Z:V:=⟨w',w.heap.size,xg S args aV γ,γ2,look (jL k (jQ fF d)).2⟩
 have hpos:∀ o e r l g,st.ak o=some (.arr e r l g)→0<r.len:=fun o e r l g ho=>by
  obtain ⟨_,_,h,_⟩:=hR.ak o _ ho
  exact h
 have hF:LG Y (UA (jQ fF d)) fv (IB fF vs):=alT (st:=st) rfl hpos fF vs d us hrd hrs
 have hbq:∀ q y,qG aV q=some y→γ' q=γ q∧∃ cs cs0,y= .var cs∧st.ak q=some (.var cs0)∧cs0.flatMap Cell.refs=[]∧cs.flatMap Cell.refs=[]∧∀ (X:V) vs,ax X cs0 vs→ax X cs vs:=by
  intro q y hq
  obtain ⟨hm,l,cs,cs0,h1,h2,h3,h4,h5,h6⟩:=au1 hbk hq
  refine ⟨?_,cs,cs0,h2,h3,h4,h5,h6⟩
  obtain ⟨ci,hci⟩:=alU hx _ l h1
  have ho:dL args q=some (.var ci):=by
   unfold dL
   rw [hci]
   dsimp only
   rw [hm]
  have hN:(afX args γ S).N q=some (γ q):=by
   show aoe args γ q=_
   unfold aoe
   rw [ho]
  exact hR.pin q _ _ hN h3
 have hG:∀ p X,look (jL k (jQ fF d)).2 p=some X→∃ i e r l fr,p=k+i∧(UA (jQ fF d))[i]? =some (.own e r l fr)∧X= .arr e r l fr∧0<r.len∧
  ((∃ o g,(IB fF vs)[i]? =some (some o)∧st.ak o=some (.arr e r l g)∧V3 fr g=true∧γ2 p=γ' o∧(γ2 p).oneCell'=true)∨(l=[]∧γ2 p= .slice none 0 0)):=by
  intro p X hp
  obtain ⟨i,e,r,l,fr,h1,h2,h3⟩:=(Iq _ k p X).1 hp
  obtain ⟨v,n,g1,g2,hr,hv⟩:=LG.get _ _ _ i _ hF h2
  have hγ:γ2 p=v:=by
   show (match qG aV p with|some _=>γ p|none=>fv.getD (p-k) undef)=v
   rw [hap p X hp]
   dsimp only
   rw [h1,show k+i-k=i by omega,List.getD_eq_getElem?_getD,g1]
   rfl
  refine ⟨i,e,r,l,fr,h1,h2,h3,hr,?_⟩
  rcases hv with ⟨o,g,hn,ho,hb,hv,h1c⟩|⟨hl,hv⟩
  · exact .inl ⟨o,g,by rw [g2,hn],ho,hb,hγ.trans hv,by rw [hγ];exact h1c⟩
  · exact .inr ⟨hl,hγ.trans hv⟩
 have abp:∀ b',Y.foot b'→Z.foot b':=by
  intro b' hb'
  refine ⟨hb'.1,fun hlt=>⟨hb'.2.1 hlt,fun q y hq=>?_⟩,fun p X hp=>?_⟩
  · obtain ⟨hγ,cs,cs0,_,h3,_⟩:=hbq q y hq
    rw [← hγ]
    exact hb'.2.2 q _ h3
  · obtain ⟨i,e,r,l,fr,_,_,_,_,hc⟩:=hG p X hp
    show blk (γ2 p)≠some b'
    rcases hc with ⟨o,g,_,ho,_,hγ,_⟩|⟨_,hγ⟩
    · rw [hγ];exact hb'.2.2 o _ ho
    · rw [hγ];intro h;cases h
 have au2:∀ fr b',Y.dw fr b'→Z.dw fr b':=fun fr b' h=>⟨abp b' h.1,h.2⟩
 have hgo:P7 Z k (UA (jQ fF d)) fv:=by
  refine P7.of _ _ _ (LG.length _ _ _ hF) fun i c v hc hv=>?_
  obtain ⟨v',n,g1,g2,g3⟩:=LG.get _ _ _ i c hF hc
  rw [hv] at g1
  cases g1
  cases c with
  |plain x=>
   exact (MG (Y:=Y) (Z:=Z) rfl au2 [x] [v] (by simpa using g3.2) ⟨g3.1,trivial⟩).1
  |own e r l fr=>
   have hp:look (jL k (jQ fF d)).2 (k+i)=some (.arr e r l fr):=(Iq _ k _ _).2 ⟨i,e,r,l,fr,rfl,hc,rfl⟩
   have hγ:γ2 (k+i)=v:=by
    show (match qG aV (k+i) with|some _=>γ (k+i)|none=>fv.getD (k+i-k) undef)=v
    rw [hap _ _ hp]
    dsimp only
    rw [show k+i-k=i by omega,List.getD_eq_getElem?_getD,hv]
    rfl
   refine ⟨⟨e,r,l,fr,hp⟩,hγ.symm,?_⟩
   rcases g3.2 with ⟨_,_,_,_,_,_,h⟩|⟨_,h⟩
   · exact h
   · rw [h];rfl
 have hsv:eH Z (jL k (jQ fF d)).1 us:=apK (st:=st) (Y:=Y) rfl hpos fF vs d us k hrd hrs hgo
 refine ⟨γ2,?_,fun p X hp=>?_,fun p X q X' b' hp hq hne hb1 hb2=>?_,fun q y hq=>?_⟩
 · have hl:=eH.length _ _ hsv
   match hm:(jL k (jQ fF d)).1,us,hsv,hl with
   |[v],[u],hk,_=>exact hk.1
   |[],[],hk,_=>exact ⟨_,by simp,hk⟩
   |v::v2::r,u::u2::us,hk,hl=>exact ⟨_,by simp,hk⟩
   |[],_::_,hk,h4|_::_,[],hk,h4|[_],_::_::_,hk,h4|_::_::_,[_],hk,h4=>simp at h4
 · obtain ⟨i,e,r,l,fr,_,_,rfl,hr,hc⟩:=hG p X hp
   rcases hc with ⟨o,g,_,ho,hb,hγ,_⟩|⟨rfl,hγ⟩
   · have hO:bT Y o (.arr e r l g):=hR.ak o _ ho
     have hold:∀ b',blk (γ' o)=some b'→fr=true→w.heap.size≤b':=by
      intro b' hb' hfr
      subst hfr
      have hg:g=true:=hb
      subst hg
      obtain ⟨_,_,_,hn,_⟩:=hO
      exact hn b' hb' rfl
     refine ⟨bT.ahp (Y:=Y) (Z:=Z) hO hγ rfl (fun b' hb'=>⟨abp b' hb'.1,fun hfr=>hb'.2 ?_⟩) hold,fun b' hb'=>?_⟩
     · subst hfr;exact hb
     · rw [hγ] at hb'
       obtain ⟨h1,h2⟩:=hR.lt o _ b' ho hb'
       refine ⟨h1,h2,fun q y hq=>?_⟩
       obtain ⟨hγq,cs,cs0,_,h3,_⟩:=hbq q y hq
       rw [← hγq]
       refine hR.sep o _ q _ b' ho h3 ?_ hb'
       intro e;subst e;rw [ho] at h3;cases h3
   · refine ⟨⟨[],⟨by simp, .inl ⟨hγ,rfl⟩⟩,hr,(fun b' hb'=>by have h0:blk (γ2 p)=some b':=hb';rw [hγ] at h0;cases h0),fun i x hi=>by simp at hi⟩,fun b' hb'=>by rw [hγ] at hb';cases hb'⟩
 · obtain ⟨i,e,r,l,fr,hi,_,_,_,hc⟩:=hG p X hp
   obtain ⟨j,e',r',l',fr',hj,_,_,_,hc'⟩:=hG q X' hq
   rcases hc with ⟨o,g,hn,ho,_,hγ,_⟩|⟨_,hγ⟩
   · rcases hc' with ⟨o',g',hn',ho',_,ZK,_⟩|⟨_,ZK⟩
     · rw [hγ] at hb1
       rw [ZK] at hb2
       have:o≠o':=by
        intro e
        subst e
        have:=YZ hnd _ _ _ hn hn'
        omega
       exact hR.sep o _ o' _ b' ho ho' this hb1 hb2
     · rw [ZK] at hb2;cases hb2
   · rw [hγ] at hb1;cases hb1
 · obtain ⟨hγ,cs,cs0,rfl,h3,h4,h5,h6⟩:=hbq q y hq
   have qY:γ2 q=γ q:=by
    show (match qG aV q with|some _=>γ q|none=>fv.getD (q-k) undef)=γ q
    rw [hq]
   refine ⟨qY,?_⟩
   obtain ⟨b',arr,t,k1,k2,k3⟩:=hR.ak q _ h3
   refine ⟨b',arr,t,?_,k2,MG (Y:=Y) (Z:=Z) rfl au2 _ _ h5 (h6 _ _ k3)⟩
   show γ2 q=_
   rw [qY,← hγ]
   exact k1
theorem bI {G:pF} (hE:EnvB P G Θ Γ) (hm:P.follows .mixedOrders=true) {f:FuncId} {fn:Func} {c:Code} (hf:P.funcs[f]? =some fn) (hb:fn.body=some c) (H:Hints)
 {sh:List cZ} {fF:List fA} {F:bK sh→Prop×(bQ fF×bP sh→Prop)} (hn:Nat.ble sh.length fn.ntmps=true) (hne:∀ x,(F x).1→∃ t,(F x).2 t)
 (hwalk:∀ x,dh sh x→(F x).1→Uc Θ Γ H c (aud Θ fn.results.toList sh fF (F x).2) (Ru fn.ntmps (Em sh x))):aC P G f (dn sh fF F):=by
 intro args p ρ hcon hp
 unfold dn at hcon
 split at hcon
 case h_2=>cases hcon
 next x hx=>
 cases hcon
 refine ⟨hne x hp,fun k S γ vs w hG hrep vO hsep hap=>?_⟩
 have hlen:=(Uz hx).1
 rw [SH] at hlen
 have hn':args.length≤fn.ntmps:=by rw [← hlen];simpa [Nat.ble_eq] using hn
 have hin:dh sh x:=afY (fun o X ho=>(vO o X ho).1) sh args x vs.toList 0 (fun j a h=>by rwa [Nat.zero_add]) hx hrep
 have hR0:=alR (S:=S) fn.ntmps hn' hrep (fun o X ho=>⟨(vO o X ho).1,fun b hb=>((vO o X ho).2 b hb).1⟩) hsep
 have hR1:=hR0.covers (adh hx fn.ntmps)
 refine calls_of_wp hf hb (afW ⟨hE,hG,fun b hb=>?_⟩ hm H c _ _ _ _ _ _ hR1 (hwalk x hin hp) ?_)
 · obtain ⟨o,X,ho,hb⟩:=hb
   exact ((vO o X ho).2 b hb).2
 intro e s γ' a' w' he hR
 have hret:∃ (us:List Value) (t:bQ fF×bP sh),(fn.results.mapM (Ro a'.tmps)).run P w'= .ok us.toArray w'∧(F x).2 t∧∃ γ2,
  bg ⟨w',w.heap.size,xg S args (lY sh t.2) γ,γ2,look ((⟨jQ fF t.1,none⟩:Out).take k).2⟩ ((⟨jQ fF t.1,none⟩:Out).take k).1 (if h:us.toArray.size=1 then us.toArray[0] else .tuple us.toArray)∧
  (∀ o x',look ((⟨jQ fF t.1,none⟩:Out).take k).2 o=some x'→bT ⟨w',w.heap.size,xg S args (lY sh t.2) γ,γ2,look ((⟨jQ fF t.1,none⟩:Out).take k).2⟩ o x'∧
    ∀ b,blk (γ2 o)=some b→b<w'.heap.size∧(w.heap.size≤b∨CX (dL args) γ b)∧∀ q y,qG (lY sh t.2) q=some y→blk (γ q)≠some b)∧
  (∀ o x' q y b,look ((⟨jQ fF t.1,none⟩:Out).take k).2 o=some x'→look ((⟨jQ fF t.1,none⟩:Out).take k).2 q=some y→o≠q→blk (γ2 o)=some b→blk (γ2 q)≠some b)∧
  (∀ o x',qG (lY sh t.2) o=some x'→γ2 o=γ o∧bT ⟨w',w.heap.size,xg S args (lY sh t.2) γ,γ2,look ((⟨jQ fF t.1,none⟩:Out).take k).2⟩ o x'):=by
  have he':(e= .normal∨e= .ret)∧aud Θ fn.results.toList sh fF (F x).2 .ret s:=by
   cases e with
   |normal=>exact ⟨.inl rfl,he⟩
   |ret=>exact ⟨.inr rfl,he⟩
   |_=>exact he.elim
  have he2:=he'.2
  simp only [aud] at he2
  split at he2
  · next svs azp=>
    split at he2
    · next vs' hvs'=>
      split at he2
      · next d b hnd hd hb'=>
        have hRf:=hR.freeze (alQ s (IB fF svs))
        obtain ⟨us,hus,hrs⟩:=V5 hE.types hRf _ _ hvs'
        refine ⟨us,(d,b),?_,he2,ayf hx hRf hrs hnd hd hb' (hap (d,b) he2)⟩
        rw [Array.mapM_eq_mapM_toList,Sem.run_map,hus]
        rfl
      · exact he2.elim
    · exact he2.elim
  · exact he2.elim
 obtain ⟨us,t,hus,ht,γ2,h1,h2,h3,h4⟩:=hret
 have hfin:bodyPost P fn (fun e w'=>∃ t,(F x).2 t∧Yb S args γ w k ⟨jQ fF t.1,none⟩ (lY sh t.2) e w') .ret a' w':=by
  refine ⟨hR.defers,if h:us.toArray.size=1 then us.toArray[0] else .tuple us.toArray,?_,t,ht,_,γ2,rfl,hR.os,hR.tape,hR.output,hR.grow,hR.kept,h1,h2,h3,h4⟩
  rw [abv,Sem.run_bind,hus]
  simp only [Result.andThen_ok,Sem.run_pure]
 cases e with
 |normal=>exact hfin
 |ret=>exact hfin
 |_=>exact he.elim
end Go.Fw
namespace Go.Fw
open Go
variable {P:Program} {w0:World} {M:Nat→Prop} {T:Ext} {γ γ':Nat→Value} {st:St} {a:Act} {w w':World} {Θ:iy} {Γ:aK}
def aug (rv:List ResultVar) (l:List jA) (K:uS l→Prop) (e:Exit) (st:St):Prop:=
 match e with
 | .normal| .ret=>match rv with
   |[.tmp t]=>match st.tmps t with
    | .dP o off=>match Nat.beq off 0,(st.freeze (Yh st)).ak o with
      |true,some (.var cs)=>match cs.flatMap Cell.refs,lX l cs with
       |[],some d=>K d
       |_,_=>False
      |_,_=>False
    |_=>False
   |_=>False
 |_=>False
def loses (sh:List cZ):List Eff:=sh.map fun _=> .lose
def avy (sh:List cZ) (l:List jA) (F:bK sh→Prop×(uS l→Prop)):dZ:=fun args=>
 match jR sh args with
 |some x=>some ((F x).1,⟨uS l,(F x).2,fun t=>⟨[],some (jq l t)⟩,fun _=>loses sh⟩)
 |none=>none
theorem abw (sh:List cZ) (q:Nat):qG (loses sh) q=none:=by
 unfold qG loses
 rw [List.getElem?_map]
 cases sh[q / 64]? <;>rfl
theorem ZT:∀ (l:List jA) (cs:List Cell) (d:uS l),lX l cs=some d→cs.flatMap Cell.refs=[]→(jq l d).flatMap Cell.refs=[]
 |[],[],_,_,_=>rfl
 |c::l,x::xs,d,h,hn=>by
  rw [lX] at h
  rw [List.flatMap_cons,List.append_eq_nil_iff] at hn
  split at h
  · next p q hp hq=>
    cases h
    show ((c.cell p)::jq l q).flatMap Cell.refs=[]
    rw [List.flatMap_cons,List.append_eq_nil_iff]
    refine ⟨?_,ZT l xs q hq hn.2⟩
    cases c with
    |ref o=>
     cases x<;>simp [jA.read,Cell.refs] at hp hn
    |_=>rfl
  · cases h
 |[],_::_,_,h,_=>by simp [lX] at h
 |_::_,[],_,h,_=>by simp [lX] at h
theorem awz {G:pF} (hE:EnvB P G Θ Γ) (hm:P.follows .mixedOrders=true) {f:FuncId} {fn:Func} {c:Code} (hf:P.funcs[f]? =some fn) (hb:fn.body=some c) (H:Hints)
 {sh:List cZ} {l:List jA} {F:bK sh→Prop×(uS l→Prop)} (hn:Nat.ble sh.length fn.ntmps=true) (hne:∀ x,(F x).1→∃ t,(F x).2 t)
 (hwalk:∀ x,dh sh x→(F x).1→Uc Θ Γ H c (aug fn.results.toList l (F x).2) (Ru fn.ntmps (Em sh x))):aC P G f (avy sh l F):=by
 intro args p ρ hcon hp
 unfold avy at hcon
 split at hcon
 case h_2=>cases hcon
 next x hx=>
 cases hcon
 refine ⟨hne x hp,fun k S γ vs w hG hrep vO hsep hap=>?_⟩
 have hlen:=(Uz hx).1
 rw [SH] at hlen
 have hn':args.length≤fn.ntmps:=by rw [← hlen];simpa [Nat.ble_eq] using hn
 have hin:dh sh x:=afY (fun o X ho=>(vO o X ho).1) sh args x vs.toList 0 (fun j a h=>by rwa [Nat.zero_add]) hx hrep
 have hR0:=alR (S:=S) fn.ntmps hn' hrep (fun o X ho=>⟨(vO o X ho).1,fun b hb=>((vO o X ho).2 b hb).1⟩) hsep
 have hR1:=hR0.covers (adh hx fn.ntmps)
 refine calls_of_wp hf hb (afW ⟨hE,hG,fun b hb=>?_⟩ hm H c _ _ _ _ _ _ hR1 (hwalk x hin hp) ?_)
 · obtain ⟨o,X,ho,hb⟩:=hb
   exact ((vO o X ho).2 b hb).2
 intro e s γ' a' w' he hR
 have he':aug fn.results.toList l (F x).2 .ret s:=by
  cases e with
  |normal=>exact he
  |ret=>exact he
  |_=>exact he.elim
 have hfin:bodyPost P fn (fun e w'=>∃ t,(F x).2 t∧Yb S args γ w k ⟨[],some (jq l t)⟩ (loses sh) e w') .ret a' w':=by
  simp only [aug] at he'
  split at he'
  case h_2=>exact he'.elim
  next t hrv=>
  split at he'
  case h_2=>exact he'.elim
  next o off htm=>
  split at he'
  case h_2=>exact he'.elim
  next cs hoff hcs=>
  split at he'
  case h_2=>exact he'.elim
  next d hnr hd=>
  have hoff:=Nat.eq_of_beq_eq_true hoff
  subst hoff
  have hRf:=hR.freeze (Yh s)
  have hv:=hR.tmps t
  rw [htm] at hv
  obtain ⟨b,cs0,_,hγ,hval⟩:=hv
  obtain ⟨b',arr,ty,g1,g2,g3⟩:=hRf.ak o _ hcs
  have g1:γ' o= .pointer (some ⟨b',0,none⟩):=g1
  have hγ:γ' o= .pointer (some ⟨b,0,none⟩):=hγ
  rw [hγ] at g1
  cases g1
  have hblk:blk (γ' o)=some b:=by rw [hγ];rfl
  have hlt:=hRf.lt o _ b hcs hblk
  let γ2:Nat→Value:=fun _=>γ' o
  let Z:V:=⟨w',w.heap.size,xg S args (loses sh) γ,γ2,look (Out.take k ⟨[],some (jq l d)⟩).2⟩
  have hlook:∀ q y,look (Out.take k ⟨[],some (jq l d)⟩).2 q=some y→q=k-1∧y= .var (jq l d):=by
   intro q y hq
   have hmem:=EH _ q y hq
   have:(q,y)=(k-1, .var (jq l d)):=by simpa [Out.take] using hmem
   exact ⟨congrArg Prod.fst this,congrArg Prod.snd this⟩
  have abp:∀ fr b',(aA w (afX args γ S) γ' (s.freeze (Yh s)) w').dw fr b'→Z.dw fr b':=by
   intro fr b' hb'
   refine ⟨⟨hb'.1.1,fun hlt'=>⟨hb'.1.2.1 hlt',fun q y hq=>by rw [abw] at hq;cases hq⟩,fun q y hq=>?_⟩,hb'.2⟩
   exact hb'.1.2.2 o _ hcs
  have hcells:ax Z (jq l d) arr.toList:=
   MG (Y:=aA w (afX args γ S) γ' (s.freeze (Yh s)) w') (Z:=Z) rfl abp _ _ (ZT l cs d hd hnr) (LC l cs d _ hd g3)
  have hself:look (Out.take k ⟨[],some (jq l d)⟩).2 (k-1)=some (.var (jq l d)):=by simp [Out.take,look]
  refine ⟨hR.defers,a'.tmps.getD t undef,?_,d,he',_,γ2,rfl,hR.os,hR.tape,hR.output,hR.grow,hR.kept,?_,fun q y hq=>?_,fun q y q' y' b' hq hq' hne'=>?_,fun q y hq=>by rw [abw] at hq;cases hq⟩
  · have:fn.results=#[.tmp t]:=by apply Array.ext';simpa using hrv
    have hmap:(Array.mapM (Ro a'.tmps) #[ResultVar.tmp t]).run P w'= .ok #[a'.tmps.getD t undef] w':=by
     rw [Array.mapM_eq_mapM_toList,Sem.run_map]
     simp only [List.mapM_cons,List.mapM_nil,Ro]
     rfl
    rw [abv,this,Sem.run_bind,hmap]
    rfl
  · exact ⟨b,jq l d,hself,hγ,hval⟩
  · obtain ⟨rfl,rfl⟩:=hlook q y hq
    refine ⟨⟨b,arr,ty,hγ,g2,hcells⟩,fun b' hb'=>?_⟩
    have hb':blk (γ' o)=some b':=hb'
    rw [hblk] at hb'
    cases hb'
    exact ⟨hlt.1,hlt.2,fun q y hq=>by rw [abw] at hq;cases hq⟩
  · obtain ⟨rfl,_⟩:=hlook q y hq
    obtain ⟨rfl,_⟩:=hlook q' y' hq'
    exact (hne' rfl).elim
 cases e with
 |normal=>exact hfin
 |ret=>exact hfin
 |_=>exact he.elim
end Go.Fw
namespace Go.Fw
open Go
def CT.isZero:CT→Value→Bool
 | .int k, .int l n=>decide (k=l)&&decide (n=0)
 | .bool, .bool b=>!b
 | .str, .string s=>s.data.toList.isEmpty
 | .sl _ _, .slice none 0 0=>true
 |_,_=>false
def aI.ZU:aI→List Value→Bool
 | .nil,[]=>true
 | .cons c r,v::vs=>c.isZero v&&r.ZU vs
 |_,_=>false
theorem CT.au3:∀ (c:CT) (v:Value),c.isZero v=true→v=c.an6:=by
 intro c v h
 unfold CT.isZero at h
 split at h
 · simp at h;rw [h.1,h.2];rfl
 · simp at h;subst h;rfl
 · next s=>
   obtain ⟨⟨l⟩⟩:=s
   simp at h
   subst h;rfl
 · rfl
 · cases h
theorem aI.alV:∀ (r:aI) (vs:List Value),r.ZU vs=true→vs=r.nN
 | .nil,[],_=>rfl
 | .cons c r,v::vs,h=>by
   rw [ZU,Bool.and_eq_true] at h
   rw [aI.nN,CT.au3 c v h.1,aI.alV r vs h.2]
 | .nil,_::_,h| .cons _ _,[],h=>by simp [ZU] at h
def arU:TypeDesc→TypeDesc→Bool
 | .int k, .int l=>decide (k=l)
 | .bool, .bool=>true
 | .string, .string=>true
 | .slice e, .slice f=>Nat.beq e f
 |_,_=>false
theorem au4:∀ (c d:TypeDesc),arU c d=true→c=d:=by
 intro c d h
 unfold arU at h
 split at h
 · rw [of_decide_eq_true h]
 · rfl
 · rfl
 · rw [Nat.eq_of_beq_eq_true h]
 · cases h
def V6 (P:Program):List (Nat×TypeId)→List Field→Bool
 |[],[]=>true
 |(o,t)::r,f::fs=>Nat.beq o f.offset&&Nat.beq t f.type&&(P.info? f.type).isSome&&V6 P r fs
 |_,_=>false
theorem aiU {P:Program}:∀ (l:List (Nat×TypeId)) (fs:List Field),V6 P l fs=true→l=fs.map (fun f=>(f.offset,f.type))∧∀ f∈fs,(P.info? f.type).isSome=true
 |[],[],_=>⟨rfl,by simp⟩
 |(o,t)::r,f::fs,h=>by
  rw [V6,Bool.and_eq_true,Bool.and_eq_true,Bool.and_eq_true] at h
  obtain ⟨⟨⟨h1,h2⟩,h3⟩,h4⟩:=h
  obtain ⟨e,hall⟩:=aiU r fs h4
  refine ⟨by rw [List.map_cons,← e,Nat.eq_of_beq_eq_true h1,Nat.eq_of_beq_eq_true h2],fun g hg=>?_⟩
  rcases List.mem_cons.1 hg with rfl|hg
  · exact h3
  · exact hall g hg
 |[],_::_,h|_::_,[],h=>by simp [V6] at h
def au5 (P:Program) (t:TypeId) (ti:TI):Bool:=
 match ti.kind,P.underlying t with
 | .scalar,some d=>match ti.cells.desc with|some c=>arU c d|none=>false
 | .str,some .string=>ti.cells.beq (.cons .str .nil)
 | .slice e,some (.slice f)=>Nat.beq e f&&(match ti.cells with| .cons (.sl g _) .nil=>Nat.beq g e|_=>false)
 | .struct fs,some (.struct FQ)=>V6 P fs FQ.toList
 |_,_=>false
def atq (ti:TI) (z:Value):Bool:=match ti.kind with
 | .struct _=>true
 |_=>z.oneCell'
def aof (P:Program) (t:TypeId) (ti:TI):Bool:=
 match P.info? t with
 |some i=>match i.zero with
  |some z=>Nat.beq i.size ti.cells.len&&Nat.beq i.bytes ti.bytes&&ti.cells.ZU z.cells.toList&&atq ti z&&au5 P t ti&&Nat.ble ti.bytes 4096&&(!ti.cmp||atN P t ti.cells)
  |none=>false
 |none=>false
theorem pU.avG {P:Program} {t:TypeId} {ti:TI} (h:aof P t ti=true):pU P t ti:=by
 unfold aof at h
 split at h
 · next i hi=>
   split at h
   · next z hz=>
     simp only [Bool.and_eq_true] at h
     obtain ⟨⟨⟨⟨⟨⟨h1,h2⟩,h3⟩,h4⟩,h5⟩,h6⟩,h7⟩:=h
     refine ⟨⟨i,z,hi,Nat.eq_of_beq_eq_true h1,Nat.eq_of_beq_eq_true h2,hz,aI.alV _ _ h3,fun hagg=>?_⟩,?_,by simpa [Nat.ble_eq] using h6,fun e w s u X xs ys vs us b hf hx hy he=>awt (by rw [e] at h7;simpa using h7) w s u X xs ys vs us b hf hx hy he⟩
     · unfold atq at h4
       unfold TI.agg at hagg
       split at h4
       · next hk=>rw [hk] at hagg;cases hagg
       · exact OT z h4
     · unfold au5 at h5
       split at h5
       · next d hk hu=>
         rw [hk]
         split at h5
         · next c hc=>exact ⟨d,by rw [hc,au4 c d h5],hu⟩
         · cases h5
       · next hk hu=>rw [hk];exact ⟨hu,aI.eq_of_beq _ _ h5⟩
       · next e f hk hu=>
         rw [hk]
         rw [Bool.and_eq_true] at h5
         have hef:=Nat.eq_of_beq_eq_true h5.1
         subst hef
         refine ⟨hu,?_⟩
         have h52:=h5.2
         split at h52
         · next g r hg=>exact ⟨r,by rw [hg,Nat.eq_of_beq_eq_true h52]⟩
         · cases h52
       · next fs FQ hk hu=>
         rw [hk]
         obtain ⟨e,hall⟩:=aiU _ _ h5
         exact ⟨FQ,hu,e,hall⟩
       · cases h5
   · cases h
 · cases h
def ahv (P:Program):List (Nat×TI)→Bool
 |[]=>true
 |(t,ti)::r=>aof P t ti&&ahv P r
theorem ay {P:Program}:∀ {l:List (Nat×TI)},ahv P l=true→∀ t ti,aq2 l t=some ti→pU P t ti
 |[],_,t,ti,h=>by cases h
 |(i,x)::r,hc,t,ti,h=>by
  rw [ahv,Bool.and_eq_true] at hc
  rw [aq2] at h
  cases hb:Nat.beq t i with
  |true=>rw [hb] at h;cases h;rw [Nat.eq_of_beq_eq_true hb];exact .avG hc.1
  |false=>rw [hb] at h;exact ay hc.2 t ti h
def atr (fn:Func):Bool:=fn.body.isSome&&!(fn.name== "runtime.NumGoroutine")
theorem aj {P:Program} {f:FuncId} {fn:Func} (hf:P.funcs[f]? =some fn) (hc:atr fn=true):au P f:=by
 intro args w
 unfold atr at hc
 rw [Bool.and_eq_true] at hc
 have h1:(fn.name== "runtime.NumGoroutine")=false:=by simpa using hc.2
 have h2:fn.body.isNone=false:=by cases hb:fn.body with|none=>rw [hb] at hc;simp at hc|some _=>rfl
 unfold callFunc
 simp only [Sem.run_bind,run_program,Result.andThen_ok,hf,h1,h2,Bool.false_eq_true,if_false,Sem.run_pure]
def awZ (P:Program) (G:pF) (f:FuncId):atG→Prop
 | .pure c=>aG P G f c∧au P f
 | .eff _ c=>aC P G f c∧au P f
theorem aF {P:Program} {G:pF} {Θ:iy} (hT:∀ t ti,Θ t=some ti→pU P t ti):∀ {l:List (Nat×atG)},(∀ x∈l,awZ P G x.1 x.2)→EnvB P G Θ (aN l)
 |[],_=>⟨hT,(fun f con h=>by cases h),(fun f ms con h=>by cases h)⟩
 |(i,c)::r,h=>by
  have ih:=aF (G:=G) hT fun x hx=>h x (List.mem_cons_of_mem _ hx)
  refine ⟨hT,fun f con hf=>?_,fun f ms con hf=>?_⟩
  · rw [aN] at hf
    cases hb:Nat.beq f i with
    |true=>rw [hb] at hf;cases hf;rw [Nat.eq_of_beq_eq_true hb];exact h (i, .pure con) List.mem_cons_self
    |false=>rw [hb] at hf;exact ih.cons f con hf
  · rw [aN] at hf
    cases hb:Nat.beq f i with
    |true=>rw [hb] at hf;cases hf;rw [Nat.eq_of_beq_eq_true hb];exact h (i, .eff ms con) List.mem_cons_self
    |false=>rw [hb] at hf;exact ih.aq0 f ms con hf
end Go.Fw
namespace Go.Fw
open Go
variable {P:Program} {G:pF} {f:FuncId}
abbrev FV:List UInt8:=[]
theorem aG.weaken {con afZ:fP} (h:aG P G f con) (hc:∀ args p out,afZ args=some (p,out)→p→∃ q,con args=some (q,out)∧q):aG P G f afZ:=by
 intro args p out k S vs w hcon hp hG hrep
 obtain ⟨q,h1,h2⟩:=hc args p out hcon hp
 exact h args q out k S vs w h1 h2 hG hrep
theorem aC.weaken {con afZ:dZ} (h:aC P G f con) (hc:∀ args p ρ,afZ args=some (p,ρ)→p→∃ q,con args=some (q,ρ)∧q):aC P G f afZ:=by
 intro args p ρ hcon hp
 obtain ⟨q,h1,h2⟩:=hc args p ρ hcon hp
 exact h args q ρ h1 h2
theorem awC {sh:List cZ} {fF:List fA} {F:bK sh→Prop×(bQ fF×bP sh→Prop)} (Fr Fs:Nat→bK sh→Prop×(bQ fF×bP sh→Prop)) (h0:∀ x,¬ (Fr 0 x).1) (hs:∀ n x,Fr (n+1) x=Fs n x)
 (hf:∀ x,(F x).1→∃ n,(Fr n x).1) (he:∀ n x,(Fr n x).2=(F x).2) (step:∀ n,aC P G f (dn sh fF (Fr n))→aC P G f (dn sh fF (Fs n))):aC P G f (dn sh fF F):=by
 have all:∀ n,aC P G f (dn sh fF (Fr n)):=by
  intro n
  induction n with
  |zero=>
   intro args p ρ hcon hp
   unfold dn at hcon
   split at hcon
   · next x _=>
     have e:(Fr 0 x).1=p:=congrArg Prod.fst (Option.some.inj hcon)
     exact absurd (e.symm▸hp) (h0 x)
   · cases hcon
  |succ n ih=>
   have:=step n ih
   have e:Fr (n+1)=Fs n:=funext (hs n)
   rw [e];exact this
 intro args p ρ hcon hp
 have aq4:=hcon
 unfold dn at aq4
 split at aq4
 · next x hx=>
   have e:=Option.some.inj aq4
   have e1:(F x).1=p:=congrArg Prod.fst e
   obtain ⟨n,hn⟩:=hf x (e1.symm▸hp)
   refine all n args (Fr n x).1 ρ ?_ hn
   unfold dn
   rw [hx]
   show some ((Fr n x).1,_)=_
   rw [he n x]
   exact congrArg (fun z=>some ((Fr n x).1,z)) (congrArg Prod.snd e)
 · cases aq4
end Go.Fw
namespace Go.Fw
open Go
variable {P:Program} {H:Type} {enc:TypeId×Value→H} {w:World}
def aI.app:aI→aI→aI
 | .nil,s=>s
 | .cons c r,s=> .cons c (r.app s)
def aq5:(r s:aI)→r.den→s.den→(r.app s).den
 | .nil,_,_,y=>y
 | .cons _ r,s,x,y=>(x.1,aq5 r s x.2 y)
theorem bD.app {h:Array Obj} {S:Nat→Prop}:∀ (r s:aI) (x:r.den) (y:s.den) (vs us:List Value),bD h S r vs x→bD h S s us y→bD h S (r.app s) (vs++us) (aq5 r s x y)
 | .nil,s,x,y,vs,us,h1,h2=>by rw [bD] at h1;subst h1;exact h2
 | .cons c r,s,(x,x'),y,vs,us,h1,h2=>by
   rw [bD] at h1
   obtain ⟨v,vs',rfl,g1,g2⟩:=h1
   show bD h S (.cons c (r.app s)) (v::(vs'++us)) (x,aq5 r s x' y)
   rw [bD]
   exact ⟨v,vs'++us,rfl,g1,bD.app r s x' y vs' us g2 h2⟩
theorem add_add (a:Addr) (h:a.spot=none) (m j:Nat):(a.add m).add j=⟨a.block,a.off+m+j,none⟩:=by
 obtain ⟨b,o,sp⟩:=a
 simp only at h
 subst h
 unfold Addr.add
 by_cases hm:m=0
 · by_cases hj:j=0
   · simp [hm,hj]
   · simp [hm,hj]
 · by_cases hj:j=0
   · simp [hm,hj]
   · simp [hm,hj]
def Yk (f:TypeId→Option aI):List Field→Nat→Option aI
 |[],_=>some .nil
 |x::r,off=>match f x.type with
  |some s=>match Yk f r (off+s.len),Nat.beq x.offset off with
   |some u,true=>some (s.app u)
   |_,_=>none
  |none=>none
def rowOf (P:Program):Nat→TypeId→Option aI
 |0,_=>none
 |n+1,t=>match P.underlying t with
  |some (.int k)=>some (.cons (.int k) .nil)
  |some .bool=>some (.cons .bool .nil)
  |some .string=>some (.cons .str .nil)
  |some (.slice e)=>match rowOf P n e with
   |some s=>match Nat.beq s.len (P.cellsOf e)&&Nat.ble 1 s.len with
    |true=>some (.cons (.sl e s) .nil)
    |false=>none
   |none=>none
  |some (.struct fs)=>match Yk (rowOf P n) fs.toList 0 with
   |some r=>match Nat.beq r.len (P.cellsOf t) with
    |true=>match fs.toList.all fun f=>match rowOf P n f.type with|some s=>Nat.beq s.len (P.cellsOf f.type)|none=>false with
     |true=>some r
     |false=>none
    |false=>none
   |none=>none
  |_=>none
theorem att {α:Type} {Q:Nat→α→Prop}:∀ (n:Nat),(∀ i,i<n→∃ x,Q i x)→∃ l:List α,l.length=n∧∀ i x,l[i]? =some x→Q i x
 |0,_=>⟨[],rfl,fun i x h=>by simp at h⟩
 |n+1,h=>by
  obtain ⟨l,hl,hq⟩:=att n fun i hi=>h i (by omega)
  obtain ⟨x,hx⟩:=h n (by omega)
  refine ⟨l++[x],by simp [hl],fun i y hy=>?_⟩
  rcases Nat.lt_or_ge i n with hi|hi
  · rw [List.getElem?_append_left (by omega)] at hy;exact hq i y hy
  · rw [List.getElem?_append_right (by omega)] at hy
    have:i=n:=by
     rcases Nat.lt_or_ge n i with h'|h'
     · rw [List.getElem?_eq_none (by simp;omega)] at hy;cases hy
     · omega
    subst this
    simp [hl] at hy
    rw [← hy];exact hx
theorem atu:∀ (r s:aI),(r.app s).len=r.len+s.len
 | .nil,s=>by simp [aI.app,aI.len]
 | .cons c r,s=>by simp only [aI.app,aI.len,atu r s];omega
theorem alW {f:TypeId→Option aI} {S:Nat→Prop} {h:Array Obj} (cs:List Value)
 (part:∀ (t:TypeId) (r:aI) (off:Nat),f t=some r→(∃ g:Field,g.type=t∧g.offset=off)→True):∀ (fs:List Field) (off:Nat) (r:aI),Yk f fs off=some r→
 (∀ g∈fs,∀ s,f g.type=some s→∃ x,bD h S s ((cs.drop g.offset).take s.len) x)→
 ∃ x,bD h S r ((cs.drop off).take r.len) x
 |[],off,r,hr,_=>by
  cases hr
  exact ⟨(),by rw [bD];simp [aI.len]⟩
 |g::fs,off,r,hr,hall=>by
  rw [Yk] at hr
  split at hr
  · next s hs=>
    split at hr
    · next u hu hb=>
      cases hr
      obtain ⟨x,hx⟩:=hall g List.mem_cons_self s hs
      rw [Nat.eq_of_beq_eq_true hb] at hx
      obtain ⟨y,hy⟩:=alW cs part fs (off+s.len) u hu fun g' hg'=>hall g' (List.mem_cons_of_mem _ hg')
      refine ⟨aq5 s u x y,?_⟩
      have:=bD.app s u x y _ _ hx hy
      rw [atu]
      have e:(cs.drop off).take (s.len+u.len)=(cs.drop off).take s.len++(cs.drop (off+s.len)).take u.len:=by
       rw [List.take_add,List.drop_drop]
      rw [e];exact this
    · cases hr
  · cases hr
theorem ajP:∀ (n:Nat) (t:TypeId) (r:aI),rowOf P n t=some r→∀ (m:Nat) (base:Nat) (spare:Nat→Bool) (held:Bool) (cs:List Value) (x:DataW H×List MemPlace),
 DataW.trod enc P w base spare held m t cs=some x→∃ y,bD w.heap (fun b=>b<w.heap.size) r cs y
 |0,t,r,hr=>by cases hr
 |n+1,t,r,hr=>by
  intro m base spare held cs x hx
  rw [rowOf] at hr
  split at hr
  · next k hu=>
    cases hr
    obtain ⟨i,rfl,_,hwf⟩:=DataW.trod_int hu hx
    simp only [Lit.wf,Bool.and_eq_true,decide_eq_true_eq] at hwf
    exact ⟨(i,()),by rw [bD];exact ⟨_,[],rfl,by rw [kM];exact ⟨rfl,hwf⟩,by rw [bD]⟩⟩
  · next hu=>
    cases hr
    obtain ⟨b,rfl,_⟩:=DataW.trod_bool hu hx
    exact ⟨(b,()),by rw [bD];exact ⟨_,[],rfl,by rw [kM],by rw [bD]⟩⟩
  · next hu=>
    cases hr
    obtain ⟨s,rfl,_,hs⟩:=DataW.trod_string hu hx
    refine ⟨(s.data.toList,()),by rw [bD];exact ⟨_,[],rfl,by rw [kM];exact ⟨by simp,by simpa using hs⟩,by rw [bD]⟩⟩
  · next e hu=>
    split at hr
    · next s hs=>
      split at hr
      · next hb=>
        cases hr
        rw [Bool.and_eq_true] at hb
        have hlen:=Nat.eq_of_beq_eq_true hb.1
        have hpos:1≤s.len:=by simpa [Nat.ble_eq] using hb.2
        rcases DataW.trod_slice hu hx with ⟨rfl,_⟩|⟨a,len,cap,elems,rest,k,_,rfl,_,hbase,hle,hmax,hel,hrow,_,_⟩
        · exact ⟨([],()),by rw [bD];exact ⟨_,[],rfl,by rw [kM];exact ⟨by simp, .inl ⟨rfl,none,0,rfl⟩⟩,by rw [bD]⟩⟩
        · by_cases h0:len=0
          · subst h0
            exact ⟨([],()),by rw [bD];exact ⟨_,[],rfl,by rw [kM];exact ⟨by simp, .inl ⟨rfl,some a,cap,rfl⟩⟩,by rw [bD]⟩⟩
          · have each:∀ i,i<len→∃ (ys:List Value) (z:s.den),w.cells? base (a.add (i*P.cellsOf e)) (P.cellsOf e)=some ys∧bD w.heap (fun b=>b<w.heap.size) s ys z:=by
             intro i hi
             have h1:=hrow i hi
             rw [List.getElem?_eq_getElem (by omega)] at h1
             obtain ⟨ys,hys,hy2⟩:=Option.bind_eq_some_iff.1 h1
             obtain ⟨z,hz⟩:=ajP n e s hs k base spare held ys _ hy2
             exact ⟨ys,z,hys,hz⟩
            obtain ⟨ys0,z0,hc0,hz0⟩:=each 0 (by omega)
            obtain ⟨_,hl0,hcell0⟩:=World.cells?_some hc0
            have ajQ:=hcell0 0 (by omega)
            simp only [Nat.zero_mul,Addr.add,if_true] at ajQ
            have ayg:∃ v,ys0[0]? =some v:=⟨ys0[0]'(by omega),by simp [show 0<ys0.length by omega]⟩
            obtain ⟨v0,hv0⟩:=ayg
            rw [hv0] at ajQ
            unfold World.cell? at ajQ
            split at ajQ
            · next c ty fz hblk=>
              split at ajQ
              · cases ajQ
              · next hsp=>
                have hspot:a.spot=none:=by cases h:a.spot with|none=>rfl|some q=>rw [h] at hsp;simp at hsp
                have ha:a=⟨a.block,a.off,none⟩:=by cases a;simp at hspot;rw [hspot]
                have hb':a.block<w.heap.size:=by
                 obtain ⟨hlt,_⟩:=Array.getElem?_eq_some_iff.1 hblk
                 exact hlt
                have rows:∀ i,i<len→∃ z:s.den,bD w.heap (fun b=>b<w.heap.size) s ((c.toList.drop (a.off+i*s.len)).take s.len) z:=by
                 intro i hi
                 obtain ⟨ys,z,hcs,hz⟩:=each i hi
                 obtain ⟨_,hl,hcell⟩:=World.cells?_some hcs
                 refine ⟨z,?_⟩
                 have:(c.toList.drop (a.off+i*s.len)).take s.len=ys:=by
                  refine List.ext_getElem? fun j=>?_
                  rcases Nat.lt_or_ge j s.len with hj|hj
                  · rw [List.getElem?_take_of_lt hj,List.getElem?_drop]
                    have h2:=hcell j (by omega)
                    have hadd:=add_add a hspot (i*P.cellsOf e) j
                    rw [← hlen] at hadd h2
                    rw [hadd] at h2
                    unfold World.cell? at h2
                    simp only [hblk,Option.isSome_none,Bool.false_eq_true,if_false] at h2
                    rw [← h2]
                    simp
                  · rw [List.getElem?_eq_none (by simp;omega),List.getElem?_eq_none (by omega)]
                 rw [this];exact hz
                obtain ⟨l,hll,hlq⟩:=att len rows
                refine ⟨(l,()),by rw [bD];exact ⟨_,[],rfl,by rw [kM];exact ⟨by omega, .inr ⟨a.block,a.off,cap,c,ty,fz,by rw [hll,← ha],by omega,hb',hblk,hlq⟩⟩,by rw [bD]⟩⟩
            · cases ajQ
      · cases hr
    · cases hr
  · next fs hu=>
    split at hr
    · next r' hf=>
      split at hr
      · next hb=>
        split at hr
        · next hall=>
          cases hr
          obtain ⟨xs,k,_,_,hcl,hxl,hparts⟩:=DataW.trod_struct hu hx
          have hlen:=Nat.eq_of_beq_eq_true hb
          have:=alW (h:=w.heap) (S:=fun b=>b<w.heap.size) cs (fun _ _ _ _ _=>trivial) fs.toList 0 _ hf ?_
          · obtain ⟨y,hy⟩:=this
            refine ⟨y,?_⟩
            rw [List.drop_zero,List.take_of_length_le (by omega)] at hy
            exact hy
          · intro g hg s hs
            have hg2:=List.all_eq_true.1 hall g hg
            rw [hs] at hg2
            have hsl:=Nat.eq_of_beq_eq_true hg2
            obtain ⟨i,hi,hgi⟩:=List.mem_iff_getElem.1 hg
            have hp:=hparts i g (by rw [← hgi];simp [show i<fs.size by simpa using hi])
            rw [List.getElem?_eq_getElem (by simp at hi;omega)] at hp
            rw [hsl]
            exact ajP n g.type s hs k base spare held _ _ hp
        · cases hr
      · cases hr
    · cases hr
  · cases hr
end Go.Fw
namespace Go.Fw
open Go
variable {P:Program} {H:Type} {enc:TypeId×Value→H} {w:World}
def CT.csh:CT→jA
 | .int k=> .int k
 | .bool=> .bool
 | .str=> .str
 | .sl e r=> .sl e r false
def toC:(c:CT)→c.den→c.csh.den
 | .int _,x=>x
 | .bool,x=>x
 | .str,x=>x
 | .sl _ _,x=>x
def aI.shs:aI→List jA
 | .nil=>[]
 | .cons c r=>c.csh::r.shs
def toCs:(r:aI)→r.den→uS r.shs
 | .nil,_=>()
 | .cons c r,x=>(toC c x.1,toCs r x.2)
theorem aog (X:V):∀ (r:aI) (vs:List Value) (x:r.den),bD X.w.heap (X.dw false) r vs x→ax X (jq r.shs (toCs r x)) vs
 | .nil,vs,x,h=>by rw [bD] at h;subst h;trivial
 | .cons c r,vs,(x,y),h=>by
   rw [bD] at h
   obtain ⟨v,vs',rfl,h1,h2⟩:=h
   refine ⟨?_,aog X r vs' y h2⟩
   cases c with
   |int k=>exact h1
   |bool=>exact h1
   |str=>exact h1
   |sl e r=>exact h1
def auh (P:Program) (t:TypeId):Option dM:=
 match rowOf P 64 t with
 |some r=>match P.underlying t with
  |some (.struct _)=>some (.agg r.shs)
  |some (.array _ _)=>none
  |_=>match r with
   | .cons c .nil=>some (.one c.csh)
   |_=>none
 |none=>none
def V7 (P:Program):List TypeId→Option (List bV)
 |[]=>some []
 |t::ts=>match auh P t,V7 P ts with
  |some s,some l=>some (.v s::l)
  |_,_=>none
def start (w:World):V:=⟨w,w.heap.size,fun b=>b<w.heap.size,fun _=>undef,fun _=>none⟩
theorem awD {t:TypeId} {s:dM} (hs:auh P t=some s) {base base':Nat} {sp:Nat→Bool} {hd:Bool} {v:Value} {d:DataW H} {p:List MemPlace}
 (ht:DataW.Trod enc P w base sp hd t v d p) (hv:Value.okWide P w .any base' t v):∃ x:s.den,eG (start w) (s.val x) v:=by
 unfold auh at hs
 split at hs
 · next r hr=>
   obtain ⟨m,hm⟩:=ht
   obtain ⟨y,hy⟩:=ajP 64 t r hr m base sp hd _ _ hm
   have hy':bD (start w).w.heap ((start w).dw false) r v.cells.toList y:=
    bD.mono (fun b hb=>⟨⟨⟨hb,fun _=>hb,fun o x hx=>by cases hx⟩,fun e=>by cases e⟩,rfl⟩) r _ y hy
   unfold Value.okWide at hv
   split at hs
   · next fs hu=>
     cases hs
     rw [hu] at hv
     obtain ⟨cs,rfl,_,_⟩:=hv
     exact ⟨toCs r y,cs,rfl,aog (start w) r _ y hy'⟩
   · cases hs
   · next hns hna=>
     split at hs
     · next c=>
       cases hs
       have hcell:v.cells=#[v]:=by
        cases hv2:v<;>first
         |rfl
         |(exfalso
           rw [hv2] at hv
           split at hv
           · next hu=>exact hns _ hu
           · next hu=>exact hna _ _ hu
           · unfold Go.Cell.okWide at hv
             split at hv<;>first|(rename_i h1 h2;cases h2;done)|(rename_i h2;cases h2;done)|skip
             unfold Go.Cell.ok at hv
             split at hv<;>first|(rename_i h1 h2;cases h2;done)|exact hv)
       have:=aog (start w) _ _ y hy'
       rw [hcell] at this
       exact ⟨toC c y.1,this.1⟩
     · cases hs
 · cases hs
theorem arV:∀ (ts:List TypeId) (sh:List bV),V7 P ts=some sh→∀ {base base':Nat} {sp:Nat→Bool} {hd:Bool} (vs:List Value) (ds:List (DataW H)) (p:List MemPlace),
 DataW.TrodAll enc P w base sp hd ts vs ds p→(∀ (j:Nat) t v,ts[j]? =some t→vs[j]? =some v→Value.okWide P w .any base' t v)→∃ x:bn sh,uJ (start w) (Ej sh x) vs
 |[],sh,hs,_,_,_,_,vs,ds,p,h,_=>by
  cases hs
  cases vs with
  |nil=>exact ⟨(),trivial⟩
  |cons v vs=>cases ds<;>simp [DataW.TrodAll] at h
 |t::ts,sh,hs,base,base',sp,hd,vs,ds,p,h,hok=>by
  rw [V7] at hs
  split at hs
  · next s l h1 h2=>
    cases hs
    cases vs with
    |nil=>cases ds<;>simp [DataW.TrodAll] at h
    |cons v vs=>
     cases ds with
     |nil=>simp [DataW.TrodAll] at h
     |cons d ds=>
      obtain ⟨a,b,g1,g2,_⟩:=h
      obtain ⟨x,hx⟩:=awD h1 g1 (hok 0 t v rfl rfl)
      obtain ⟨y,hy⟩:=arV ts l h2 vs ds b g2 fun j t' v' ht' hv'=>hok (j+1) t' v' (by simpa using ht') (by simpa using hv')
      exact ⟨(x,y),hx,hy⟩
  · cases hs
mutual
theorem CT.QD:∀ (c:CT),c.beq c=true
 | .int k=>by simp [CT.beq]
 | .bool=>rfl
 | .str=>rfl
 | .sl e r=>by simp [CT.beq,aI.QD r]
theorem aI.QD:∀ (r:aI),r.beq r=true
 | .nil=>rfl
 | .cons c r=>by simp [aI.beq,CT.QD c,aI.QD r]
end
theorem apL:∀ (c:jA) (x:c.den),c.read (c.cell x)=some x
 | .int k,x=>by simp [jA.cell,jA.read]
 | .bool,x=>rfl
 | .str,x=>rfl
 | .sl e r fr,l=>by
   simp only [jA.cell,jA.read,Nat.beq_refl]
   have h1:V3 fr fr=true:=by cases fr<;>rfl
   have h2:r.beq r=true:=aI.QD r
   rw [h1]
   simp only [Bool.and_self]
   rw [dif_pos h2]
   rfl
 | .nil,x=>rfl
 | .ref o,x=>by simp [jA.cell,jA.read]
 | .junk,x=>rfl
theorem alX:∀ (l:List jA) (x:uS l),lX l (jq l x)=some x
 |[],_=>rfl
 |c::r,x=>by rw [jq,lX,apL c x.1,alX r x.2]
theorem arW:∀ (ts:List TypeId) (l:List bV),V7 P ts=some l→∀ (x:bn l),O3 l (Ej l x)=some x
 |[],l,h,x=>by cases h;rfl
 |t::ts,l,h,x=>by
  rw [V7] at h
  split at h
  · next s r h1 h2=>
    cases h
    have ih:=arW ts r h2 x.2
    cases s with
    |one c=>
     have e:(bV.v (.one c)).read ((bV.v (.one c)).val x.1)=some x.1:=apL c x.1
     rw [Ej,O3,ih,e]
    |agg l=>
     have e:(bV.v (.agg l)).read ((bV.v (.agg l)).val x.1)=some x.1:=alX l x.1
     rw [Ej,O3,ih,e]
  · cases h
def aoh:Out:=⟨[(false,[.plain (.bool true)])],none⟩
theorem au6 {G:pF} {f:FuncId} {fn:Func} {sh:List bV} {F:bn sh→Prop×Out} (hcon:aG P G f (ahu sh F)) (hsh:V7 P fn.params.toList=some sh)
 (hF:∀ x,bH sh x→(F x).1∧(F x).2=aoh) (hG:G.ok w) {base base':Nat} {sp:Nat→Bool} {hd:Bool} {args:Array Value} {ds:List (DataW H)} {p:List MemPlace}
 (hA:DataW.TrodAll enc P w base sp hd fn.params.toList args.toList ds p) (hok:∀ (j:Nat) t v,fn.params[j]? =some t→args[j]? =some v→Value.okWide P w .any base' t v):
 Calls P f args w fun e w'=>e= .returned (.bool true)∧w'.os=w.os∧w'.output=w.output∧w.heap.size≤w'.heap.size∧∀ b,b<w.heap.size→w'.heap[b]? =w.heap[b]? :=by
 obtain ⟨x,hx⟩:=arV _ _ hsh _ _ _ hA fun j t v ht hv=>hok j t v (by simpa using ht) (by simpa using hv)
 have hin:=JQ sh x _ hx
 obtain ⟨hp,ho⟩:=hF x hin
 have hc:ahu sh F (Ej sh x)=some ((F x).1,aoh):=by
  unfold ahu
  rw [arW _ _ hsh x]
  simp only [← ho]
 refine (hcon (Ej sh x) _ _ 0 _ args w hc hp hG hx).mono ?_
 rintro e w' ⟨v,vals,rfl,h1,h2,h3,h4,h5,h6,_,_⟩
 have hv:v= .bool true:=h6
 exact ⟨by rw [hv],h1,h3,h4,h5⟩
theorem avH {w w':World} (h1:w'.os=w.os) (h3:w'.output=w.output) (h5:∀ b,b<w.heap.size→w'.heap[b]? =w.heap[b]?) (may:MemPlace→Prop):w.keptBut w' may:=by
 refine ⟨h1,h3,fun i hi=>?_⟩
 rw [h5 i hi]
 cases hw:w.heap[i]? with
 |none=>trivial
 |some o=>cases o<;>simp
theorem avI {w w':World} (h5:∀ b,b<w.heap.size→w'.heap[b]? =w.heap[b]?) {p:MemPlace} (hp:p.block<w.heap.size):w.sameAt w' p:=by
 cases p with
 |cell b off=>
  show w'.cell? _=w.cell? _
  unfold World.cell?
  simp only
  rw [h5 b hp]
 |map b=>exact h5 b hp
end Go.Fw
namespace Go.Fw
open Go
variable {P:Program} {G:pF} {f:FuncId}
theorem asU {args:List Arg} {i:Nat} {x:Arg} {p:Nat} (hp:p / 64≠i):dL (args.set i x) p=dL args p:=by
 unfold dL
 rw [List.getElem?_set_ne (fun h=>hp h.symm)]
theorem af0 {args:List Arg} {i:Nat} {e:TypeId} {r:aI} {l:List r.den} (hi:i<args.length) (p:Nat) (hp:p / 64=i):dL (args.set i (.own e r l)) p=if p=i*64+49 then some (.arr e r l false) else none:=by
 unfold dL
 rw [hp,List.getElem?_set_self hi]
 by_cases h:p=i*64+49
 · subst h
   have:Nat.beq ((i*64+49)%64) 49=true:=by
    have:(i*64+49)%64=49:=by omega
    rw [this];rfl
   simp [this]
 · have:Nat.beq (p%64) 49=false:=by
    cases hb:Nat.beq (p%64) 49 with
    |false=>rfl
    |true=>have:=Nat.eq_of_beq_eq_true hb;omega
   simp [this,h]
theorem atv {args:List Arg} {i:Nat} {v:SV} (ha:args[i]? =some (.sv v)) (p:Nat) (hp:p / 64=i):dL args p=none:=by
 unfold dL
 rw [hp,ha]
def V8 (γ:Nat→Value) (i:Nat) (o:Nat):Value:=if o=i*64+49 then .slice none 0 0 else γ o
theorem wZ.mono {X Y:V} (h:X.le Y):∀ (a:Arg) (v:Value),wZ X a v→wZ Y a v
 | .sv x,v,H=>eG.mono h x v H
 | .kp cs,v,H=>bg.mono h (.iM cs 0) v H
 | .fn f caps,v,H=>bg.mono h (.fn f caps) v H
 | .own _ _ _,_,H| .ptr _,_,H=>H.elim
theorem VT.mono {X Y:V} (h:X.le Y) (i:Nat):∀ (a:Arg) (v:Value),VT X i a v→VT Y i a v
 | .own _ _ _,v,H=>aZ.mono h (.ref (i*64+49)) v H
 | .ptr _,v,H=>bg.mono h (.dP (i*64+48) 0) v H
 | .sv x,v,H=>wZ.mono h (.sv x) v H
 | .kp cs,v,H=>wZ.mono h (.kp cs) v H
 | .fn f caps,v,H=>wZ.mono h (.fn f caps) v H
theorem Ei.nil {X Y:V} (h:X.le Y) {e:TypeId} {r:aI}:∀ (args:List Arg) (vs:List Value) (j i:Nat),args[i]? =some (.sv (.one .nil))→
 Y.ak ((j+i)*64+49)=some (.arr e r [] false)→Y.γ ((j+i)*64+49)= .slice none 0 0→Ei X j args vs→Ei Y j (args.set i (.own e r [])) vs
 |[],[],_,i,ha,_,_,_=>by simp at ha
 |[],_::_,_,_,_,_,_,H=>H.elim
 |_::_,[],_,_,_,_,_,H=>H.elim
 |a::args,v::vs,j,0,ha,ho,hγ,⟨h1,h2⟩=>by
  have ha:a= .sv (.one .nil):=by simpa using ha
  subst ha
  have hv:v= .slice none 0 0:=h1
  refine ⟨⟨⟨e,r,[],false,ho⟩,?_,by rw [hv];rfl⟩,?_⟩
  · rw [hv];exact hγ.symm
  · show Ei Y (j+1) args vs
    clear h1 ha ho hγ hv
    generalize j+1=k at h2
    induction args generalizing k vs with
    |nil=>cases vs with
     |nil=>trivial
     |cons _ _=>exact h2.elim
    |cons b args ih=>cases vs with
     |nil=>exact h2.elim
     |cons u vs=>exact ⟨VT.mono h k b u h2.1,ih vs (k+1) h2.2⟩
 |a::args,v::vs,j,i+1,ha,ho,hγ,⟨h1,h2⟩=>by
  have e1:j+(i+1)=j+1+i:=by omega
  rw [e1] at ho hγ
  exact ⟨VT.mono h j a v h1,Ei.nil h args vs (j+1) i (by simpa using ha) ho hγ h2⟩
theorem aC.aw1 {con afZ:dZ} (i:Nat) (e:TypeId) (r:aI) (hr:0<r.len) (h:aC P G f con)
 (hc:∀ args p ρ,afZ args=some (p,ρ)→p→args[i]? =some (.sv (.one .nil))∧(∀ t,qG (ρ.aV t) (i*64+49)=none)∧∃ q,con (args.set i (.own e r []))=some (q,ρ)∧q):aC P G f afZ:=by
 intro args p ρ hcon hp
 obtain ⟨ha,hF,q,hq1,hq⟩:=hc args p ρ hcon hp
 have hlen:i<args.length:=by
  have:=List.getElem?_eq_some_iff.1 ha
  exact this.1
 obtain ⟨hex,hcall⟩:=h _ q ρ hq1 hq
 refine ⟨hex,fun k S γ vs w hG hrep vO hsep hfree=>?_⟩
 have hO:∀ o,o≠i*64+49→dL (args.set i (.own e r [])) o=dL args o:=by
  intro o ho
  by_cases hd:o / 64=i
  · rw [af0 hlen o hd,atv ha o hd,if_neg ho]
  · exact asU hd
 have hN:dL (args.set i (.own e r [])) (i*64+49)=some (.arr e r [] false):=by
  rw [af0 hlen _ (by omega),if_pos rfl]
 have hN':dL args (i*64+49)=none:=atv ha _ (by omega)
 have hγN:V8 γ i (i*64+49)= .slice none 0 0:=if_pos rfl
 have hγ:∀ o,o≠i*64+49→V8 γ i o=γ o:=fun o ho=>if_neg ho
 have hne:∀ o x,dL args o=some x→o≠i*64+49:=fun o x ho e=>by rw [e,hN'] at ho;cases ho
 have le:V.le ⟨w,w.heap.size,S,γ,dL args⟩ ⟨w,w.heap.size,S,V8 γ i,dL (args.set i (.own e r []))⟩:=by
  refine ⟨Nat.le_refl _,fun b hb=>⟨⟨hb.1,hb.2.1,fun o x hx=>?_⟩,rfl⟩,fun o cs hx=>⟨⟨cs,?_⟩,hγ o (hne o _ hx)⟩,fun o e r l fr hx=>⟨⟨l,fr,?_⟩,hγ o (hne o _ hx)⟩⟩
  · by_cases ho:o=i*64+49
    · show blk (V8 γ i o)≠some b
      rw [ho,hγN];intro hh;cases hh
    · show blk (V8 γ i o)≠some b
      rw [hγ o ho]
      exact hb.2.2 o x ((hO o ho).symm.trans hx)
  · exact (hO o (hne o _ hx)).trans hx
  · exact (hO o (hne o _ hx)).trans hx
 have hbl:∀ b,CX (dL (args.set i (.own e r []))) (V8 γ i) b↔CX (dL args) γ b:=by
  intro b
  constructor
  · rintro ⟨o,x,h1,h2⟩
    by_cases ho:o=i*64+49
    · rw [ho,hγN] at h2;cases h2
    · exact ⟨o,x,(hO o ho)▸h1,(hγ o ho)▸h2⟩
  · rintro ⟨o,x,h1,h2⟩
    exact ⟨o,x,(hO o (hne o x h1)).trans h1,by rw [hγ o (hne o x h1)];exact h2⟩
 refine Calls.mono (hcall k S (V8 γ i) vs w hG (Ei.nil (Y:=⟨w,w.heap.size,S,V8 γ i,dL (args.set i (.own e r []))⟩) le args vs.toList 0 i ha (by rw [Nat.zero_add];exact hN) (by rw [Nat.zero_add];exact hγN) hrep) ?_ ?_ hfree) ?_
 · intro o x hx
   by_cases ho:o=i*64+49
   · subst ho
     rw [hN] at hx
     cases hx
     refine ⟨⟨[],?_,hr,fun b hb=>?_,fun j x hj=>by simp at hj⟩,fun b hb=>?_⟩
     · show w.ownsRow 0 e r.len (V8 γ i (i*64+49)) 0 []
       rw [hγN];exact World.ownsRow_nil w 0 e r.len
     · have hb:blk (V8 γ i (i*64+49))=some b:=hb
       rw [hγN] at hb;cases hb
     · rw [hγN] at hb;cases hb
   · have hx':dL args o=some x:=(hO o ho)▸hx
     have:=vO o x hx'
     refine ⟨bT.mono le o x (fun b _=>rfl) (hγ o ho) this.1,fun b hb=>this.2 b ((hγ o ho)▸hb)⟩
 · intro o x q y b hx hy hoq hb
   by_cases ho:o=i*64+49
   · rw [ho,hγN] at hb;cases hb
   by_cases hq':q=i*64+49
   · rw [hq',hγN];intro hh;cases hh
   rw [hγ o ho] at hb
   rw [hγ q hq']
   exact hsep o x q y b ((hO o ho)▸hx) ((hO q hq')▸hy) hoq hb
 · rintro en w' ⟨t,ht,v,γ',h1,h2,h3,h4,h5,h6,h7,h8,h9,h10⟩
   have aui:∀ o x,qG (ρ.aV t) o=some x→o≠i*64+49:=fun o x ho e=>by rw [e,hF t] at ho;cases ho
   have hL:xg S (args.set i (.own e r [])) (ρ.aV t) (V8 γ i)=xg S args (ρ.aV t) γ:=by
    funext b
    apply propext
    constructor
    · rintro ⟨a1,a2⟩
      refine ⟨a1.imp_right (hbl b).1,fun q y hy=>?_⟩
      have:=a2 q y hy
      rwa [hγ q (aui q y hy)] at this
    · rintro ⟨a1,a2⟩
      refine ⟨a1.imp_right (hbl b).2,fun q y hy=>?_⟩
      rw [hγ q (aui q y hy)]
      exact a2 q y hy
   rw [hL] at h7 h8 h10
   refine ⟨t,ht,v,γ',h1,h2,h3,h4,h5,fun b hb hn=>h6 b hb (fun h=>hn ((hbl b).1 h)),h7,fun o x hx=>?_,h9,fun o x hx=>?_⟩
   · obtain ⟨a1,a2⟩:=h8 o x hx
     refine ⟨a1,fun b hb=>?_⟩
     obtain ⟨b1,b2,b3⟩:=a2 b hb
     refine ⟨b1,b2.imp_right (hbl b).1,fun q y hy=>?_⟩
     have:=b3 q y hy
     rwa [hγ q (aui q y hy)] at this
   · obtain ⟨a1,a2⟩:=h10 o x hx
     exact ⟨a1.trans (hγ o (aui o x hx)),a2⟩
theorem au7 {l:List jA} {e:TypeId} {r:aI} {rest:List cZ} {fF:List fA} {F:bK (.ptr l:: .own e r::rest)→Prop×(bQ fF×bP (.ptr l:: .own e r::rest)→Prop)}
 {F':bK (.ptr l:: .p (.v (.one .nil))::rest)→Prop×(bQ fF×bP (.ptr l:: .own e r::rest)→Prop)} (hr:0<r.len) (h:aC P G f (dn (.ptr l:: .own e r::rest) fF F))
 (hF:∀ a x,(F' (a,(),x)).1→(F (a,[],x)).1) (hF2:∀ a x,(F' (a,(),x)).1→(F' (a,(),x)).2=(F (a,[],x)).2):aC P G f (dn (.ptr l:: .p (.v (.one .nil))::rest) fF F'):=by
 refine aC.aw1 1 e r hr h fun args p ρ hcon hp=>?_
 match args,hcon with
 |[],hcon=>simp [dn,jR] at hcon
 |[a],hcon=>
  have:jR (.ptr l:: .p (.v (.one .nil))::rest) [a]=none:=by
   simp only [jR]
   split<;>simp_all
  simp [dn,this] at hcon
 |a::b::args,hcon=>
  cases ha:(cZ.ptr l).read a with
  |none=>simp [dn,jR,ha] at hcon
  |some a'=>
  cases hb:(cZ.p (.v (.one .nil))).read b with
  |none=>simp [dn,jR,ha,hb] at hcon
  |some b'=>
  cases hx:jR rest args with
  |none=>simp [dn,jR,ha,hb,hx] at hcon
  |some x=>
   have hb2:b= .sv (.one .nil):=by
    cases b with
    |sv s=>cases s with
     |one c=>cases c with
      |nil=>rfl
      |int k n=>cases hb
      |bool k=>cases hb
      |str k=>cases hb
      |sl e r l fr=>cases hb
      |ref o=>cases hb
      |junk=>cases hb
     |agg cs=>cases hb
    |_=>cases hb
   subst hb2
   simp only [dn,jR,ha,hb,hx] at hcon
   have hcon:=Option.some.inj hcon
   have h1:(F' (a',(),x)).1=p:=congrArg Prod.fst hcon
   have h2:(⟨bQ fF×bP (.ptr l:: .own e r::rest),(F' (a',(),x)).2,fun t=>⟨jQ fF t.1,none⟩,fun t=>lY (.ptr l:: .own e r::rest) t.2⟩:SE)=ρ:=congrArg Prod.snd hcon
   have hp':(F' (a',(),x)).1:=h1▸hp
   subst h2
   refine ⟨rfl,fun t=>rfl,(F (a',[],x)).1,?_,hF a' x hp'⟩
   · have ho:(cZ.own e r).read (.own e r [])=some []:=by
      unfold cZ.read
      simp only [Nat.beq_refl]
      rw [dif_pos (aI.QD r)]
      rfl
     simp only [List.set_cons_succ,List.set_cons_zero,dn,jR,ha,ho,hx]
     have:=hF2 a' x hp'
     exact congrArg (fun z=>some ((F (a',[],x)).1,(⟨bQ fF×bP (.ptr l:: .own e r::rest),z,fun t=>⟨jQ fF t.1,none⟩,fun t=>lY (.ptr l:: .own e r::rest) t.2⟩:SE))) this.symm
end Go.Fw
namespace Go.Fw
open Go
theorem af {b:Bool} {A B:Prop} (h1:b=true→A) (h2:b=false→B):cond b A B:=by
 cases b
 · exact h2 rfl
 · exact h1 rfl
theorem iI (z:Int) (h:-9223372036854775808≤z∧z≤9223372036854775807):IntKind.i64.wrap z=z:=IntWalk.i64_in z (by omega)
theorem maxLen_eq:maxLen=9223372036854775807:=by decide
theorem gy:big=4294967296:=rfl
theorem getD_mem {α:Type} {l:List α} {n:Nat} {d:α} (h:n<l.length):l.getD n d∈l:=by
 rw [List.getD_eq_getElem?_getD,List.getElem?_eq_getElem h,Option.getD_some];exact List.getElem_mem h
end Go.Fw
namespace Go.Fw
open Go
end Go.Fw
namespace Go.Fw
open Go
variable {P:Program}
end Go.Fw
namespace Go.Fw
open Go
variable {P:Program}
theorem asV {s:cZ} {sh:List cZ}:∀ {args:List Arg} {d:bK (s::sh)},jR (s::sh) args=some d→∃ x xs,args=x::xs∧s.read x=some d.1∧jR sh xs=some d.2
 |[],_,h=>by simp [jR] at h
 |x::xs,d,h=>by
  rw [jR] at h
  split at h
  · next a b h1 h2=>cases h;exact ⟨x,xs,rfl,h1,h2⟩
  · cases h
theorem auj:∀ {args:List Arg} {d:bK []},jR [] args=some d→args=[]
 |[],_,_=>rfl
 |_::_,_,h=>by simp [jR] at h
end Go.Fw
namespace Go.Fw
open Go
variable {P:Program} {H:Type} {enc:TypeId×Value→H} {w:World}
theorem adi (hl:laidOutB P=true) {base:Nat} {sp':Nat→Bool} {W W':World}:∀ (ts:List TypeId) (_:ts.all (fun t=>P.readableRec t&&decide (t<P.types.size))=true)
 (vs:List Value) (ds:List (DataW H)) (ps:List MemPlace),DataW.TrodAll enc P W base (fun _=>true) true ts vs ds ps→(∀ p∈ps,W.sameAt W' p)→(∀ p∈ps,sp' p.block=true)→DataW.TrodAll enc P W' base sp' true ts vs ds ps
 |[],_,vs,ds,ps,h,_,_=>by
  cases vs<;>cases ds<;>simp [DataW.TrodAll] at h ⊢
  exact h
 |t::ts,ht,vs,ds,ps,h,h1,h2=>by
  rw [List.all_cons,Bool.and_eq_true,Bool.and_eq_true] at ht
  cases vs with
  |nil=>cases ds<;>simp [DataW.TrodAll] at h
  |cons v vs=>
   cases ds with
   |nil=>simp [DataW.TrodAll] at h
   |cons d ds=>
    obtain ⟨a,b,g1,g2,rfl⟩:=h
    exact ⟨a,b,WideElems.Trod_stays hl ht.1.1 (of_decide_eq_true ht.1.2) g1 (fun p hp=>h1 p (List.mem_append_left _ hp)) (fun p hp=>h2 p (List.mem_append_left _ hp)),
     adi hl ts ht.2 vs ds b g2 (fun p hp=>h1 p (List.mem_append_right _ hp)) (fun p hp=>h2 p (List.mem_append_right _ hp)),rfl⟩
theorem trodAll_length {base:Nat} {sp:Nat→Bool} {hd:Bool} {W:World}:∀ (ts:List TypeId) (vs:List Value) (ds:List (DataW H)) (ps:List MemPlace),DataW.TrodAll enc P W base sp hd ts vs ds ps→ds.length=ts.length
 |[],vs,ds,ps,h=>by cases vs<;>cases ds<;>simp [DataW.TrodAll] at h ⊢
 |t::ts,vs,ds,ps,h=>by
  cases vs with
  |nil=>cases ds<;>simp [DataW.TrodAll] at h
  |cons v vs=>
   cases ds with
   |nil=>simp [DataW.TrodAll] at h
   |cons d ds=>
    obtain ⟨a,b,g1,g2,rfl⟩:=h
    simp [trodAll_length ts vs ds b g2]
theorem avJ {fn:Func} {s:ChangeSpec} {apart fresh handsOn again:Bool} {W W':World} {args:Array Value} {ds gs:List (DataW H)} {before:List MemPlace} {tb:TypeId}
 (hvars:s.vars=[]) (hspec:∀ l:List (DataW H),l.length=fn.params.toList.length→(s.fn H l).results=[.lit (.bool true)]∧(s.fn H l).args=l∧(s.fn H l).vars=[])
 (hres:fn.resultTypes=#[tb]) (hb:P.underlying tb=some .bool) (hl:laidOutB P=true) (hread:fn.params.toList.all (fun t=>P.readableRec t&&decide (t<P.types.size))=true)
 (hW:DataW.Whole enc P fn.params.toList s.vars apart W args.toList ds gs before) (hos:W'.os=W.os) (hout:W'.output=W.output) (hheap:∀ b,b<W.heap.size→W'.heap[b]? =W.heap[b]?):
 s.post enc P fn apart fresh handsOn again W args (.bool true) W':=by
 have hlt:=hW.lt
 have hW0:=hW
 obtain ⟨p,q,hA,hV,hpq,hz,hn⟩:=hW
 rw [hvars] at hV
 have hg:gs=[]∧q=[]:=by
  cases gs with
  |nil=>exact ⟨rfl,hV⟩
  |cons g gs=>simp [DataW.TrodVars] at hV
 obtain ⟨rfl,rfl⟩:=hg
 rw [List.append_nil] at hpq
 subst hpq
 have hlen:=trodAll_length _ _ _ _ hA
 obtain ⟨r1,r2,r3⟩:=hspec (ds++[]) (by simpa using hlen)
 rw [List.append_nil] at r1 r2 r3
 have hsame:∀ x∈before,W.sameAt W' x:=fun x hx=>avI hheap (hlt x hx)
 have R:∀ (b:Nat) (sp:Nat→Bool) (hd:Bool),DataW.TrodAll enc P W' b sp hd fn.resultTypes.toList ((Value.bool true).resultList fn.resultTypes.size) [.lit (.bool true)] []:=by
  intro b sp hd
  rw [hres]
  exact ⟨[],[],⟨1,by simp [DataW.trod,Value.cells,hb]⟩,rfl,rfl⟩
 have A:∀ sp:Nat→Bool,(∀ x∈before,sp x.block=true)→DataW.TrodAll enc P W' 0 sp true fn.params.toList args.toList ds before:=fun sp hsp=>adi hl _ hread _ _ _ hA hsame hsp
 have hold:∀ x∈before,(fun b=>decide (b<W.heap.size)) x.block=true:=fun x hx=>by simpa using hlt x hx
 refine ⟨ds,[],before,[],before,[],hW0,?_,?_,?_,avH hos hout hheap _,fun _=>⟨?_, .lit (.bool true)::ds,[],before,⟨before,[],?_,?_,by simp,?_,hn⟩,fun x hx _=>hx⟩⟩
 · rw [List.append_nil,r1];exact R _ _ _
 · rw [List.append_nil,r2];exact A _ hold
 · rw [List.append_nil,r3,hvars];rfl
 · intro j t r h1 h2
   rw [hres] at h1 h2
   match j with
   |0=>
    simp [Value.resultList] at h1 h2
    subst h1 h2
    simp [Value.okWide,hb,Go.Cell.okWide,Go.Cell.ok]
   |j+1=>simp at h1
 · exact ChangeShapes.trodAll_append (A _ (fun _ _=>rfl)) (R _ _ _)
 · rw [hvars];rfl
 · intro b off hp
   have hbl:=hlt _ hp
   have e:W'.frozen? ⟨b,off,none⟩=W.frozen? ⟨b,off,none⟩:=by
    unfold World.frozen?
    simp only
    rw [hheap b hbl]
   rw [e]
   exact hz b off hp
end Go.Fw
namespace Go.Fw
open Go
theorem law_lifted {H:Type} {enc:TypeId×Value→H} {C:Checked} {G:pF} {os:Os} {f:FuncId} {fn:Func} {s:ChangeSpec} {conds:List PathCond} {apart fresh handsOn again:Bool} {tb:TypeId} {sh:List bV} {F:bn sh→Prop×Out}
 (own:ownKnob C.prog.godebug=none) (started:os.Started) (noInit:C.prog.inits.idxOf? f=none) (hfn:C.prog.funcs[f]? =some fn)
 (witness:∃ (w:World) (tape:Tape) (i:Input),w.os=os∧(w.forCall tape i).Shaped C.prog∧i.vars=[]∧Input.okWide C.prog (w.forCall tape i) .any w.heap.size f i∧
   s.pre6 enc C.prog fn conds apart (w.forCall tape i).memory i.args∧({}:Assume).holds C.prog (lone (Frame.enter C.prog f i.args .normal) [] (w.forCall tape i)))
 (hcon:aG C.prog G f (ahu sh F)) (hsh:V7 C.prog fn.params.toList=some sh) (hF:∀ x,bH sh x→(F x).1∧(F x).2=aoh) (hG:∀ w,G.ok w)
 (hvars:s.vars=[]) (hspec:∀ l:List (DataW H),l.length=fn.params.toList.length→(s.fn H l).results=[.lit (.bool true)]∧(s.fn H l).args=l∧(s.fn H l).vars=[])
 (hres:fn.resultTypes=#[tb]) (hb:C.prog.underlying tb=some .bool) (hl:laidOutB C.prog=true) (hread:fn.params.toList.all (fun t=>C.prog.readableRec t&&decide (t<C.prog.types.size))=true):
 ReturnsInHanded {} C os f .any (s.pre6 enc C.prog fn conds apart) (s.post enc C.prog fn apart fresh handsOn again):=by
 refine returnsInHanded_of_change own started noInit hfn witness ?_
 intro W base args ds gs before hval hW _ _
 have hW0:=hW
 obtain ⟨p,q,hA,_⟩:=hW
 refine (au6 hcon hsh hF (hG W) hA hval).mono ?_
 rintro e W' ⟨rfl,h1,h2,_,h3⟩
 exact ⟨_,rfl,avJ hvars hspec hres hb hl hread hW0 h1 h2 h3⟩
end Go.Fw
