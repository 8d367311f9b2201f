import Derived.Test.YtlbkigkbmeckbaaGreatFwD
import Derived.Test.YtlbkigkbmeckbaaGreatFwB
import Derived.Test.YtlbkigkbmeckbaaGreatFwA
import Derived.ChangeArms
import Derived.WideKeyArgs
import Derived.ChangeSame
import Derived.ChangeOld
import Derived.Handed
import Derived.IntWalk
import Derived.Laws.IdiomCopy
import Derived.ProofKit
namespace Go.Fw
open Go
variable {P:Program} {w0:World} {M:Nat→Prop} {T:Ext} {γ γ':Nat→Value} {st:St} {a:Act} {w w':World} {Θ:gG} {Γ:aC}
structure Iz where
 apU:List Yw
 c:Shape
 v:Shape
structure Hints where
 own:Nat→Bool
 loops:Nat→Option Iz
 cuts:Nat→Option Iz
 upd:List Nat
 frz:Nat→List Pre
def Ak:Code→Option Nat
 | .region id _ _=>some id
 | .seq x y=>match Ak x with|some n=>some n|none=>Ak y
 | .cond _ x y=>match Ak x with|some n=>some n|none=>Ak y
 | .block _ x| .loop x=>Ak x
 |_=>none
def cutAt (H:Hints) (y:Code):Option Iz:=match Ak y with
 |some n=>H.cuts n
 |none=>none
def G5 (Θ:gG) (Γ:aC) (H:Hints):Code→(Exit→St→Prop)→St→Prop
 | .skip,Q,st=>Q .normal st
 | .region id ops false,Q,st=>Tz (H.frz id) (runs Θ Γ H.own ops.toList (Q .normal) ops.toList) st
 | .region id ops true,Q,st=>Tz (H.frz id) (OC Θ Γ H.own H.upd ops.toList (Q .normal)) st
 | .seq x y,Q,st=>match cutAt H y with
   |none=>G5 Θ Γ H x (fun e s=>match e with| .normal=>G5 Θ Γ H y Q s|e=>Q e s) st
   |some sp=>match sp.c.read (only sp.c sp.v st) with
    |some x0=>∃ (J:sp.v.den→Prop),G5 Θ Γ H x (fun e s=>match e with
      | .normal=>match settles s sp.apU with
        |some s1=>match Nat.beq s1.n st.n,sp.c.read (only sp.c sp.v s1),sp.v.read (only sp.c sp.v s1) with
         |true,some x1,some y1=>x1=x0∧J y1
         |_,_,_=>False
        |none=>False
      |e=>Q e s) st∧∀ y1,J y1→G5 Θ Γ H y Q (joint st.n sp.c sp.v x0 y1)
    |none=>False
 | .cond c x y,Q,st=>match st.ev c with
   | .sv (.one (.bool b))=>cond b (G5 Θ Γ H x Q st) (G5 Θ Γ H y Q st)
   |_=>False
 | .block id c,Q,st=>G5 Θ Γ H c (fun e s=>match e with
   | .exit i=>match Nat.beq i id with|true=>Q .normal s|false=>Q (.exit i) s
   |e=>Q e s) st
 | .exit id,Q,st=>Q (.exit id) st
 | .ret,Q,st=>Q .ret st
 | .loop c,Q,st=>match Ak c with
   |some n=>match H.loops n with
    |some sp=>match settles st sp.apU with
     |some s0=>match sp.c.read (only sp.c sp.v s0),sp.v.read (only sp.c sp.v s0) with
      |some x0,some y0=>∃ (I:sp.v.den→Prop) (μ:sp.v.den→Nat),I y0∧∀ y,I y→
        G5 Θ Γ H c (fun e s=>match e with
         | .normal=>match settles s sp.apU with
           |some s1=>match Nat.beq s1.n s0.n,sp.c.read (only sp.c sp.v s1),sp.v.read (only sp.c sp.v s1) with
            |true,some x1,some y1=>x1=x0∧I y1∧μ y1<μ y
            |_,_,_=>False
           |none=>False
         |e=>Q e s) (joint s0.n sp.c sp.v x0 y)
      |_,_=>False
     |none=>False
    |none=>False
   |none=>False
 |_,_,_=>False
theorem Yx {G:kW} (hE:wV P G Θ Γ w0 M) (hm:P.follows .mixedOrders=true) (H:Hints):∀ (c:Code) (QA:Exit→St→Prop) (Q:Exit→Act→World→Prop) (st:St) (γ:Nat→Value) (a:Act) (w:World),
 Rel w0 M T γ st a w→G5 Θ Γ H c QA st→(∀ e s γ' a' w',QA e s→Rel w0 M T γ' s a' w'→Q e a' w')→c.wp P Q a w:=by
 intro c
 induction c with
 |skip=>intro QA Q st γ a w h ha hQ;exact wp_skip (hQ _ _ _ _ _ ha h)
 |region id ops d=>
  intro QA Q st γ a w h ha hQ
  cases d with
  |false=>
   obtain ⟨s0,γ0,h0,hk0⟩:=Ep (K:=runs Θ Γ H.own ops.toList (QA .normal) ops.toList) (H.frz id) st γ h ha
   exact ano hE h0 hk0 fun s γ' a' w' hK hR=>hQ _ _ _ _ _ hK hR
  |true=>
   obtain ⟨s0,γ0,h0,hk0⟩:=Ep (K:=OC Θ Γ H.own H.upd ops.toList (QA .normal)) (H.frz id) st γ h ha
   exact aqQ hE hm h0 hk0 fun s γ' a' w' hK hR=>hQ _ _ _ _ _ hK hR
 |seq x y ihx ihy=>
  intro QA Q st γ a w h ha hQ
  rw [G5] at ha
  split at ha
  · refine wp_seq (ihx _ _ st γ a w h ha ?_)
    intro e s γ' a' w' hq hR
    cases e<;>first|exact ihy _ _ s γ' a' w' hR hq hQ|exact hQ _ _ _ _ _ hq hR
  · next sp hsp=>
    split at ha
    · next x0 hx=>
      obtain ⟨J,h1,h2⟩:=ha
      refine wp_seq (ihx _ _ st γ a w h h1 ?_)
      intro e s γ' a' w' hq hR
      cases e with
      |normal=>
       simp only at hq
       split at hq
       · next s1 hs1=>
         split at hq
         · next x1 y1 hsn hx1 hy1=>
           obtain ⟨rfl,hJ⟩:=hq
           obtain ⟨γ1,hR1⟩:=Rel.settles _ hR hs1
           have hR2:=hR1.joint hx1 hy1
           rw [Nat.eq_of_beq_eq_true hsn] at hR2
           exact ihy _ _ _ γ1 a' w' hR2 (h2 _ hJ) hQ
         · exact hq.elim
       · exact hq.elim
      |_=>exact hQ _ _ _ _ _ hq hR
    · exact ha.elim
 |cond c x y ihx ihy=>
  intro QA Q st γ a w h ha hQ
  rw [G5] at ha
  split at ha
  · next b hb=>
    have hv:a.eval c= .bool b:=by
     have:=jo h c
     rw [hb] at this
     exact this
    refine wp_cond_split hv (fun e=>?_) (fun e=>?_)
    · subst e;exact ihx _ _ st γ a w h ha hQ
    · subst e;exact ihy _ _ st γ a w h ha hQ
  · exact ha.elim
 |block id c ih=>
  intro QA Q st γ a w h ha hQ
  refine wp_block (ih _ _ st γ a w h ha ?_)
  intro e s γ' a' w' hq hR
  cases e with
  |exit i=>
   simp only [Exit.inBlock]
   cases hb:Nat.beq i id with
   |true=>
    simp only [hb] at hq
    rw [if_pos (Nat.eq_of_beq_eq_true hb)]
    exact hQ _ _ _ _ _ hq hR
   |false=>
    simp only [hb] at hq
    rw [if_neg (by rintro rfl;simp at hb)]
    exact hQ _ _ _ _ _ hq hR
  |_=>exact hQ _ _ _ _ _ hq hR
 |loop c ih=>
  intro QA Q st γ a w h ha hQ
  rw [G5] at ha
  split at ha
  · split at ha
    · next sp hsp=>
      split at ha
      · next s0 hs0=>
        split at ha
        · next x0 y0 hx hy=>
          obtain ⟨I,μ,h0,hI⟩:=ha
          obtain ⟨γ0,hR0⟩:=Rel.settles _ h hs0
          let J:sp.v.den→Act→World→Prop:=fun y a' w'=>∃ γ',Rel w0 M T γ' (joint s0.n sp.c sp.v x0 y) a' w'
          have key:∀ (n:Nat) (y:sp.v.den),μ y=n→I y→∀ a' w',J y a' w'→∀ (b:Frame) (k:List Item) (cs:List Frame),
           ∃ e a'' w'',Q e a'' w''∧Arrives P (lone (b.at a' (.code c:: .inLoop c::k)) cs w') b k cs e a'' w'':=by
           intro n
           induction n using Nat.strongRecOn with
           |_ n ihn=>
            intro y hμ hy' a' w' ⟨γ',hR⟩ b k cs
            have hbody:=ih _ (Exit.then (fun a2 w2=>∃ y2,I y2∧μ y2<μ y∧J y2 a2 w2) Q) _ γ' a' w' hR (hI y hy') ?_
            · obtain ⟨e,a1,w1,hq,harr⟩:=hbody b (.inLoop c::k) cs
              cases e with
              |normal=>
               obtain ⟨y2,hI2,hlt,hJ2⟩:=hq
               obtain ⟨e2,a2,w2,hq2,auv⟩:=ihn (μ y2) (hμ▸hlt) y2 rfl hI2 a1 w1 hJ2 b k cs
               exact ⟨e2,a2,w2,hq2, .of_steps (Steps.trans harr (.one step_inLoop)) auv⟩
              |exit id=>exact ⟨_,a1,w1,hq, .pass (x:= .inLoop c) rfl (fun _ _=> .inl (by simp)) harr⟩
              |goto l=>exact ⟨_,a1,w1,hq, .pass (x:= .inLoop c) rfl (fun _ _=> .inl (by simp)) harr⟩
              |ret=>exact ⟨_,a1,w1,hq, .pass (x:= .inLoop c) rfl (fun _ _=> .inl (by simp)) harr⟩
              |panic ch=>exact ⟨_,a1,w1,hq, .pass (x:= .inLoop c) rfl (fun _ _=> .inl (by simp)) harr⟩
              |outgrown=>exact ⟨_,a1,w1,hq, .pass (x:= .inLoop c) rfl (fun _ _=> .inl (by simp)) harr⟩
            · intro e s γ2 a2 w2 hq hR2
              cases e with
              |normal=>
               simp only at hq
               split at hq
               · next s1 hs1=>
                 split at hq
                 · next x1 y1 hsn hx1 hy1=>
                   obtain ⟨rfl,hI1,hlt⟩:=hq
                   obtain ⟨γ3,hR3⟩:=Rel.settles _ hR2 hs1
                   have hJ:=hR3.joint hx1 hy1
                   rw [Nat.eq_of_beq_eq_true hsn] at hJ
                   exact ⟨y1,hI1,hlt,_,hJ⟩
                 · exact hq.elim
               · exact hq.elim
              |_=>exact hQ _ _ _ _ _ hq hR2
          intro b k cs
          obtain ⟨e,a',w',hq,harr⟩:=key _ y0 rfl h0 a w ⟨_,hR0.joint hx hy⟩ b k cs
          exact ⟨e,a',w',hq, .of_steps (.one step_loop) harr⟩
        · exact ha.elim
      · exact ha.elim
    · exact ha.elim
  · exact ha.elim
 |rangeFunc f ps x y ihx ihy=>intro QA Q st γ a w h ha hQ;exact ha.elim
 |exit id=>intro QA Q st γ a w h ha hQ;exact wp_exit (hQ _ _ _ _ _ ha h)
 |scope c ih=>intro QA Q st γ a w h ha hQ;exact ha.elim
 |label l=>intro QA Q st γ a w h ha hQ;exact ha.elim
 |goto l=>intro QA Q st γ a w h ha hQ;exact ha.elim
 |ret=>intro QA Q st γ a w h ha hQ;exact wp_ret (hQ _ _ _ _ _ ha h)
 |refuse s=>intro QA Q st γ a w h ha hQ;exact ha.elim
end Go.Fw
namespace Go.Fw
open Go
variable {P:Program} {w0:World} {M:Nat→Prop} {T:Ext} {γ γ':Nat→Value} {st:St} {a:Act} {w w':World} {Θ:gG} {Γ:aC}
def Arg.av:Arg→AV
 | .sv v=> .sv v
 | .kp cs=> .dR cs 0
 | .fn f caps=> .fn f caps
 | .own _ _ _| .ptr _=> .undef
def entry (n:Nat) (args:List Arg):St:=
 {n:=n,tmps:=fun t=>match args[t]? with|some v=>v.av|none=> .undef,ak:=fun _=>none}
def OD (st:St) (o:Nat):Bool:=match st.ak o with|some (.arr _ _ _ _)=>true|_=>false
def agB (Θ:gG) (st:St):ResultVar→Option SV
 | .tmp t=>match st.tmps t with| .sv v=>some v|_=>none
 | .cell t ty=>match Θ ty,st.tmps t with
   |some ti, .dL o off=>match st.ak o with
    |some (.var cs)=>nO ti cs off
    |_=>none
   |_,_=>none
def MF (Θ:gG) (st:St):List ResultVar→Option (List SV)
 |[]=>some []
 |r::rs=>match agB Θ st r,MF Θ st rs with
  |some v,some vs=>some (v::vs)
  |_,_=>none
def outOf:SV→Bool×List gu
 | .one c=>(false,[.plain c])
 | .agg cs=>(true,cs.map .plain)
def outs:List SV→List (Bool×List gu)
 |[]=>[]
 |v::vs=>outOf (v.kill fun _=>true)::outs vs
def fin (Θ:gG) (rv:List ResultVar) (st:St):Option Out:=
 match MF Θ (st.freeze (OD st)) rv with
 |some vs=>some ⟨outs vs,none⟩
 |none=>none
theorem OE:∀ (k:Nat) (cs:List Cell),kK k (cs.map .plain)=(cs,[])
 |_,[]=>rfl
 |k,c::cs=>by simp only [List.map_cons,kK,OE (k+1) cs,gu.take,List.append_nil]
theorem aou (k:Nat) (v:SV):zG k (outOf v)=(v,[]):=by
 cases v with
 |one c=>rfl
 |agg cs=>simp only [zG,outOf,OE]
theorem ati (v:Value) (t:TypeId) (b off:Nat) (hv:v= .pointer (some ⟨b,off,none⟩)):Instr.loadAt t v=(do loadVar t (← asAddr v)):=by
 subst hv;rfl
def Jq (tmps:Array Value):ResultVar→Sem Value
 | .tmp t=>pure (tmps.getD t undef)
 | .cell x t=>do loadVar t (← asAddr (tmps.getD x undef))
theorem TB (fn:Func) (tmps:Array Value):results fn tmps=(do let vs ← fn.results.mapM (Jq tmps);pure (if h:vs.size=1 then vs[0] else .tuple vs)):=by
 unfold results
 congr 1
theorem anq (hΘ:∀ t ti,Θ t=some ti→nR P t ti) (h:Rel w0 M T γ st a w) {r:ResultVar} {v:SV} (hf:agB Θ st r=some v):
 ∃ u,(Jq a.tmps r).run P w= .ok u w∧eU (ax w0 T γ st w) v u:=by
 cases r with
 |tmp t=>
  simp only [agB] at hf
  split at hf
  · next e=>
    cases hf
    have:=h.tmps t
    rw [e] at this
    exact ⟨_,rfl,this⟩
  · cases hf
 |cell x t=>
  simp only [agB] at hf
  split at hf
  · next ti o off ht hx=>
    split at hf
    · next cs ho=>
      have hv:=h.tmps x
      rw [hx] at hv
      obtain ⟨b,cs',_,_,hv'⟩:=hv
      obtain ⟨u,hu,hr⟩:=Ov hΘ h ht (x:= .tmp x) (.inl ⟨o,off,cs,hx,ho,hf⟩)
      refine ⟨u,?_,hr⟩
      rw [Jq,← ati _ t b off hv']
      exact hu
    · cases hf
  · cases hf
theorem MG (hΘ:∀ t ti,Θ t=some ti→nR P t ti) (h:Rel w0 M T γ st a w):∀ (rs:List ResultVar) (vs:List SV),MF Θ st rs=some vs→
 ∃ us,(rs.mapM (Jq a.tmps)).run P w= .ok us w∧
   fA (ax w0 T γ st w) vs us
 |[],vs,hf=>by cases hf;exact ⟨[],rfl,trivial⟩
 |r::rs,vs,hf=>by
  rw [MF] at hf
  split at hf
  · next v vs' h1 h2=>
    cases hf
    obtain ⟨u,hu,hr⟩:=anq hΘ h h1
    obtain ⟨us,hus,hrs⟩:=MG hΘ h rs vs' h2
    refine ⟨u::us,?_,hr,hrs⟩
    rw [List.mapM_cons,Sem.run_bind,hu]
    simp only [Result.andThen_ok,Sem.run_bind,hus,Sem.run_pure]
  · cases hf
theorem fA.length {X:V}:∀ (cs:List SV) (vs:List Value),fA X cs vs→vs.length=cs.length
 |[],[],_=>rfl
 |_::cs,_::vs,⟨_,h⟩=>by simp [fA.length cs vs h]
 |[],_::_,H|_::_,[],H=>by cases H
theorem fA.get {X:V}:∀ (cs:List SV) (vs:List Value) (i:Nat) (c:SV),fA X cs vs→cs[i]? =some c→∃ v,vs[i]? =some v∧eU X c v
 |[],_,_,_,_,h=>by simp at h
 |c::cs,v::vs,0,d,⟨h1,_⟩,h=>by simp at h;subst h;exact ⟨v,rfl,h1⟩
 |c::cs,v::vs,i+1,d,⟨_,h2⟩,h=>by
  obtain ⟨u,hu,hr⟩:=fA.get cs vs i d h2 (by simpa using h)
  exact ⟨u,by simpa using hu,hr⟩
 |_::_,[],_,_,H,_=>by cases H
theorem rU.length {X:V}:∀ (cs:List Arg) (vs:List Value),rU X cs vs→vs.length=cs.length
 |[],[],_=>rfl
 |_::cs,_::vs,⟨_,h⟩=>by simp [rU.length cs vs h]
 |[],_::_,H|_::_,[],H=>by cases H
theorem rU.get {X:V}:∀ (cs:List Arg) (vs:List Value) (i:Nat) (c:Arg),rU X cs vs→cs[i]? =some c→∃ v,vs[i]? =some v∧uH X c v
 |[],_,_,_,_,h=>by simp at h
 |c::cs,v::vs,0,d,⟨h1,_⟩,h=>by simp at h;subst h;exact ⟨v,rfl,h1⟩
 |c::cs,v::vs,i+1,d,⟨_,h2⟩,h=>by
  obtain ⟨u,hu,hr⟩:=rU.get cs vs i d h2 (by simpa using h)
  exact ⟨u,by simpa using hu,hr⟩
 |_::_,[],_,_,H,_=>by cases H
theorem uH.av {X:V}:∀ (c:Arg) (v:Value),uH X c v→bG X c.av v
 | .sv _,_,h| .kp _,_,h| .fn _ _,_,h=>h
 | .own _ _ _,_,h| .ptr _,_,h=>h.elim
theorem aqS {args:List Arg} {vs:Array Value} {S:Nat→Prop} (n:Nat) (hn:args.length≤n)
 (h:rU ⟨w,w.heap.size,S,fun _=>undef,fun _=>none⟩ args vs.toList):
 Rel w (fun _=>False) ⟨S,fun _=>none,fun _ _ h=>by cases h⟩ (fun _=>undef) (entry n args) {tmps:=vs++Array.replicate (n-vs.size) undef,defers:=[]} w:=by
 have hl:vs.size=args.length:=by simpa using rU.length _ _ h
 refine ⟨fun _ h=>h.elim,rfl,?_,rfl,rfl,rfl,Nat.le_refl _,fun _ _ _=>rfl,fun t=>?_,(fun o x hx=>by cases hx),(fun o x b hx=>by cases hx),(fun o x p y b hx=>by cases hx),(fun o v cs hN=>by cases hN)⟩
 · simp [entry];omega
 · simp only [entry]
   cases ha:args[t]? with
   |none=>trivial
   |some v=>
    obtain ⟨u,hu,hr⟩:=rU.get _ _ t v h ha
    have:(vs++Array.replicate (n-vs.size) undef).getD t undef=u:=by
     have hlt:t<args.length:=by
      rcases Nat.lt_or_ge t args.length with h'|h'
      · exact h'
      · rw [List.getElem?_eq_none h'] at ha;cases ha
     have hlt':t<vs.size:=by omega
     rw [Array.getD_eq_getD_getElem?,Array.getElem?_append_left hlt']
     have:vs[t]? =some u:=by simpa using hu
     rw [this];rfl
    rw [this]
    exact uH.av v u hr
end Go.Fw
namespace Go.Fw
def codeOf (fn:Func):Code:=match fn.body with|some c=>c|none=> .skip
def agC:List (Nat×TI)→gG
 |[],_=>none
 |(t,x)::r,i=>match Nat.beq i t with|true=>some x|false=>agC r i
def aA:List (Nat×Pj)→aC
 |[],_=>none
 |(t,x)::r,i=>match Nat.beq i t with|true=>some x|false=>aA r i
def apV:List (Nat×Iz)→Nat→Option Iz
 |[],_=>none
 |(t,x)::r,i=>match Nat.beq i t with|true=>some x|false=>apV r i
def asY:List (Nat×List Pre)→Nat→List Pre
 |[],_=>[]
 |(n,z)::r,i=>match Nat.beq i n with|true=>z|false=>asY r i
def hints (own:List Nat) (l c:List (Nat×Iz)) (u:List Nat) (z:List (Nat×List Pre)):Hints:=⟨bf own,apV l,apV c,u,asY z⟩
end Go.Fw
namespace Go.Fw
open Go
variable {P:Program} {Θ:gG} {Γ:aC}
inductive yD where
 |one (c:iF)
 |agg (l:List iF)
@[reducible] def yD.den:yD→Type
  | .one c=>c.den
  | .agg l=>nY l
def yD.val:(s:yD)→s.den→SV
 | .one c,x=> .one (c.cell x)
 | .agg l,x=> .agg (iJ l x)
def yD.read:(s:yD)→SV→Option s.den
 | .one c, .one x=>c.read x
 | .agg l, .agg xs=>kL l xs
 |_,_=>none
theorem yD.weak {X:V} (s:yD) (x:SV) (d:s.den) (v:Value) (hr:s.read x=some d) (hv:eU X x v):eU X (s.val d) v:=by
 unfold yD.read at hr
 split at hr
 · exact iF.weak _ _ _ _ hr hv
 · obtain ⟨vs,e,h⟩:=hv
   exact ⟨vs,e,Fb _ _ _ _ hr h⟩
 · cases hr
@[reducible] def zy:List yD→Type
  |[]=>Unit
  |s::r=>s.den×zy r
def vY:(l:List yD)→zy l→List SV
 |[],_=>[]
 |s::r,x=>s.val x.1::vY r x.2
def QU:(l:List yD)→List SV→Option (zy l)
 |[],[]=>some ()
 |s::r,x::xs=>match s.read x,QU r xs with
  |some a,some b=>some (a,b)
  |_,_=>none
 |_,_=>none
theorem aqT {X:V}:∀ (l:List yD) (xs:List SV) (d:zy l) (vs:List Value),QU l xs=some d→fA X xs vs→fA X (vY l d) vs
 |[],[],_,_,_,hv=>hv
 |s::r,x::xs,d,vs,hr,hv=>by
  rw [QU] at hr
  split at hr
  · next a b h1 h2=>
    cases hr
    cases vs with
    |nil=>cases hv
    |cons v vs=>exact ⟨yD.weak s x a v h1 hv.1,aqT r xs b vs h2 hv.2⟩
  · cases hr
 |[],_::_,_,_,hr,_=>by simp [QU] at hr
 |_::_,[],_,_,hr,_=>by simp [QU] at hr
mutual
def CT.wW:(c:CT)→c.den→Prop
 | .int k,(n:Int)=>k.min≤n∧n≤k.max
 | .bool,_=>True
 | .str,(s:Bytes)=>s.length≤maxLen
 | .sl _ r,(l:List r.den)=>l.length≤maxLen∧∀ x∈l,r.wW x
def aK.wW:(r:aK)→r.den→Prop
 | .nil,_=>True
 | .cons c r,x=>c.wW x.1∧r.wW x.2
end
mutual
theorem jF.wW {h:Array Obj} {S:Nat→Prop}:∀ (c:CT) (v:Value) (x:c.den),jF h S c v x→c.wW x
 | .int k,v,(n:Int),H=>by rw [jF] at H;rw [CT.wW];exact H.2
 | .bool,v,(b:Bool),H=>by rw [CT.wW];trivial
 | .str,v,(s:Bytes),H=>by rw [jF] at H;rw [CT.wW];exact H.2
 | .sl e r,v,(l:List r.den),H=>by
   rw [jF] at H
   rw [CT.wW]
   refine ⟨H.1,fun x hx=>?_⟩
   obtain ⟨i,hi,rfl⟩:=List.mem_iff_getElem.1 hx
   rcases H.2 with ⟨hnil,_⟩|⟨b,off,cap,cs,t,fz,_,_,_,_,hr⟩
   · subst hnil;simp at hi
   · exact bK.wW r _ _ (hr i _ (List.getElem?_eq_getElem hi))
theorem bK.wW {h:Array Obj} {S:Nat→Prop}:∀ (r:aK) (vs:List Value) (x:r.den),bK h S r vs x→r.wW x
 | .nil,vs,_,H=>by rw [aK.wW];trivial
 | .cons c r,vs,(x,y),H=>by
   rw [bK] at H
   obtain ⟨v,vs',_,h1,h2⟩:=H
   rw [aK.wW]
   exact ⟨jF.wW c v x h1,bK.wW r vs' y h2⟩
end
def iF.wW:(c:iF)→c.den→Prop
 | .int k,(n:Int)=>k.min≤n∧n≤k.max
 | .str,(s:Bytes)=>s.length≤maxLen
 | .sl _ r _,(l:List r.den)=>l.length≤maxLen∧∀ x∈l,r.wW x
 |_,_=>True
def aaW:(l:List iF)→nY l→Prop
 |[],_=>True
 |c::r,x=>c.wW x.1∧aaW r x.2
def yD.wW:(s:yD)→s.den→Prop
 | .one c,x=>c.wW x
 | .agg l,x=>aaW l x
theorem iF.aaX {X:V} (c:iF) (x:c.den) (v:Value) (h:bn X (c.cell x) v):c.wW x:=by
 cases c with
 |int k=>exact h.2
 |str=>exact h.2
 |sl e r fr=>
  have h':jF X.w.heap (X.dP fr) (.sl e r) v x:=h
  have:=jF.wW (.sl e r) v x h'
  rw [CT.wW] at this
  exact this
 |_=>trivial
theorem Jr {X:V}:∀ (l:List iF) (x:nY l) (vs:List Value),au X (iJ l x) vs→aaW l x
 |[],_,_,_=>trivial
 |c::r,x,v::vs,h=>⟨iF.aaX c x.1 v h.1,Jr r x.2 vs h.2⟩
 |_::_,_,[],h=>by cases h
inductive jE where
 |v (s:yD)
 |kp (l:List iF)
 |fn (f:FuncId) (l:List (List iF))
@[reducible] def jE.den:jE→Type
  | .v s=>s.den
  | .kp l=>nY l
  | .fn _ l=>Dv l
def jE.val:(s:jE)→s.den→Arg
 | .v s,x=> .sv (s.val x)
 | .kp l,x=> .kp (iJ l x)
 | .fn f l,x=> .fn f (Jo l x)
def jE.read:(s:jE)→Arg→Option s.den
 | .v s, .sv x=>s.read x
 | .kp l, .kp xs=>kL l xs
 | .fn f l, .fn g xs=>match Nat.beq f g with|true=>FV l xs|false=>none
 |_,_=>none
theorem jE.weak {X:V} (s:jE) (x:Arg) (d:s.den) (v:Value) (hr:s.read x=some d) (hv:uH X x v):uH X (s.val d) v:=by
 unfold jE.read at hr
 split at hr
 · exact yD.weak _ _ _ _ hr hv
 · obtain ⟨b,e,hk⟩:=hv
   exact ⟨b,e,ale hr hk⟩
 · split at hr
   · next hb=>
     obtain ⟨us,e,hk⟩:=hv
     rw [jE.val,Nat.eq_of_beq_eq_true hb]
     exact ⟨us,e,Yu _ _ _ _ hr hk⟩
   · cases hr
 · cases hr
@[reducible] def pJ:List jE→Type
  |[]=>Unit
  |s::r=>s.den×pJ r
def zq:(l:List jE)→pJ l→List Arg
 |[],_=>[]
 |s::r,x=>s.val x.1::zq r x.2
def G6:(l:List jE)→List Arg→Option (pJ l)
 |[],[]=>some ()
 |s::r,x::xs=>match s.read x,G6 r xs with
  |some a,some b=>some (a,b)
  |_,_=>none
 |_,_=>none
theorem aqU {X:V}:∀ (l:List jE) (xs:List Arg) (d:pJ l) (vs:List Value),G6 l xs=some d→rU X xs vs→rU X (zq l d) vs
 |[],[],_,_,_,hv=>hv
 |s::r,x::xs,d,vs,hr,hv=>by
  rw [G6] at hr
  split at hr
  · next a b h1 h2=>
    cases hr
    cases vs with
    |nil=>cases hv
    |cons v vs=>exact ⟨jE.weak s x a v h1 hv.1,aqU r xs b vs h2 hv.2⟩
  · cases hr
 |[],_::_,_,_,hr,_=>by simp [G6] at hr
 |_::_,[],_,_,hr,_=>by simp [G6] at hr
theorem Vs:∀ (l:List jE) (d:pJ l),(zq l d).length=l.length
 |[],_=>rfl
 |_::r,d=>by simp [zq,Vs r d.2]
def ajE:(l:List (List iF))→Dv l→Prop
 |[],_=>True
 |c::r,x=>aaW c x.1∧ajE r x.2
def jE.wW:(s:jE)→s.den→Prop
 | .v s,x=>s.wW x
 | .kp l,x=>aaW l x
 | .fn _ l,x=>ajE l x
def KI:(l:List jE)→pJ l→Prop
 |[],_=>True
 |s::r,x=>s.wW x.1∧KI r x.2
theorem ac4 {X:V}:∀ (l:List (List iF)) (x:Dv l) (us:List Value),fP X (Jo l x) us→ajE l x
 |[],_,_,_=>trivial
 |c::r,x,u::us,h=>by
  obtain ⟨⟨b,hu,arr,t,fz,hf,hh,hc⟩,h2⟩:=h
  exact ⟨Jr c x.1 _ hc,ac4 r x.2 us h2⟩
 |_::_,_,[],h=>by cases h
theorem Ea {X:V}:∀ (l:List jE) (x:pJ l) (vs:List Value),rU X (zq l x) vs→KI l x
 |[],_,_,_=>trivial
 | .v (.one c)::r,x,v::vs,h=>⟨iF.aaX c x.1 v h.1,Ea r x.2 vs h.2⟩
 | .v (.agg l)::r,x,v::vs,h=>by
   obtain ⟨ws,hv,hc⟩:=h.1
   exact ⟨Jr l x.1 _ hc,Ea r x.2 vs h.2⟩
 | .kp l::r,x,v::vs,h=>by
   obtain ⟨b,hu,arr,t,fz,hf,hh,hc⟩:=h.1
   exact ⟨Jr l x.1 _ hc,Ea r x.2 vs h.2⟩
 | .fn f l::r,x,v::vs,h=>by
   obtain ⟨us,hv,hk⟩:=h.1
   exact ⟨ac4 l x.1 _ hk,Ea r x.2 vs h.2⟩
 |_::_,_,[],h=>by cases h
def KJ (sh:List jE) (F:pJ sh→Prop×Out):Vl:=fun args=>
 match G6 sh args with
 |some x=>some (F x)
 |none=>none
end Go.Fw
namespace Go.Fw
open Go
variable {P:Program} {Θ:gG} {Γ:aC}
def Cc:List SV→List (Bool×List gu)
 |[]=>[]
 |v::vs=>outOf v::Cc vs
theorem QV:∀ (k:Nat) (vs:List SV),iZ k (Cc vs)=(vs,[])
 |_,[]=>rfl
 |k,v::vs=>by simp only [Cc,iZ,aou,QV,List.append_nil]
def agD (Θ:gG) (rv:List ResultVar) (dQ:List yD) (K:zy dQ→Prop) (e:Exit) (st:St):Prop:=
 match e with
 | .normal| .ret=>match MF Θ (st.freeze (OD st)) rv with
   |some vs=>match QU dQ (vs.map (SV.kill fun _=>true)) with
    |some d=>K d
    |none=>False
   |none=>False
 |_=>False
theorem atj {G:kW} (hE:EnvB P G Θ Γ) (hm:P.follows .mixedOrders=true) {f:FuncId} {fn:Func} {c:Code} (hf:P.funcs[f]? =some fn) (hb:fn.body=some c) (H:Hints) {con:Vl} {dQ:List yD}
 (hwalk:∀ args p out,con args=some (p,out)→p→Nat.ble args.length fn.ntmps=true∧∃ d:zy dQ,out=⟨Cc (vY dQ d),none⟩∧G5 Θ Γ H c (agD Θ fn.results.toList dQ fun y=>y=d) (entry fn.ntmps args)):uw P G f con:=by
 intro args p out k S vs w hcon hp hG hrep
 obtain ⟨hn,d,hout,hw⟩:=hwalk args p out hcon hp
 subst hout
 have hn':args.length≤fn.ntmps:=by simpa [Nat.ble_eq] using hn
 refine calls_of_wp hf hb (Yx ⟨hE,hG,fun b hb=>hb.elim⟩ hm H c _ _ _ _ _ _ (aqS (S:=S) fn.ntmps hn' hrep) hw ?_)
 have hret:∀ s γ' a' w',agD Θ fn.results.toList dQ (fun y=>y=d) .ret s→Rel w (fun _=>False) ⟨S,fun _=>none,fun _ _ h=>by cases h⟩ γ' s a' w'→bodyPost P fn (fun e w'=>∃ v vals,e= .returned v∧w'.os=w.os∧w'.tape=w.tape∧w'.output=w.output∧w.heap.size≤w'.heap.size∧
  (∀ b,b<w.heap.size→w'.heap[b]? =w.heap[b]?)∧
  bG ⟨w',w.heap.size,S,vals,look (Out.take k ⟨Cc (vY dQ d),none⟩).2⟩ (Out.take k ⟨Cc (vY dQ d),none⟩).1 v∧
  (∀ o x,look (Out.take k ⟨Cc (vY dQ d),none⟩).2 o=some x→bW ⟨w',w.heap.size,S,vals,look (Out.take k ⟨Cc (vY dQ d),none⟩).2⟩ o x∧∀ b,blk (vals o)=some b→w.heap.size≤b∧b<w'.heap.size)∧
  (∀ o x q y b,look (Out.take k ⟨Cc (vY dQ d),none⟩).2 o=some x→look (Out.take k ⟨Cc (vY dQ d),none⟩).2 q=some y→o≠q→blk (vals o)=some b→blk (vals q)≠some b)) .ret a' w':=by
  intro s γ' a' w' he hR
  refine ⟨hR.defers,?_⟩
  simp only [agD] at he
  split at he
  · next svs hvs=>
    split at he
    · next y hy=>
      subst he
      have hRf:=hR.freeze (OD s)
      obtain ⟨us,hus,hrs⟩:=MG hE.types hRf _ _ hvs
      have hk0:=fA.kill (fun _=>true) hRf svs us hrs
      have hk:=aqT dQ _ y us hy hk0
      have htake:Out.take k ⟨Cc (vY dQ y),none⟩=(match vY dQ y with|[v]=> .sv v|l=> .pR l,[]):=by
       unfold Out.take
       simp only [QV]
       rcases vY dQ y with _|⟨v,_|⟨v2,r⟩⟩<;>rfl
      have hmap:(fn.results.mapM (Jq a'.tmps)).run P w'= .ok us.toArray w':=by
       rw [Array.mapM_eq_mapM_toList,Sem.run_map,hus]
       rfl
      refine ⟨if h:us.toArray.size=1 then us.toArray[0] else .tuple us.toArray,?_,_,γ',rfl,hR.os,hR.tape,hR.output,hR.grow,fun b hb=>hR.kept b hb (fun h=>h),?_,?_,?_⟩
      · rw [TB,Sem.run_bind,hmap]
        simp only [Result.andThen_ok,Sem.run_pure]
      · rw [htake]
        have hl:=fA.length _ _ hk
        match hm:vY dQ y,us,hk,hl with
        |[v],[u],hk,_=>exact hk.1
        |[],[],hk,_=>exact ⟨_,by simp,hk⟩
        |v::v2::r,u::u2::us,hk,hl=>exact ⟨_,by simp,hk⟩
        |[],_::_,hk,h4|_::_,[],hk,h4|[_],_::_::_,hk,h4|_::_::_,[_],hk,h4=>simp at h4
      · intro o x hx;rw [htake] at hx;cases hx
      · intro o x q y b hx;rw [htake] at hx;cases hx
    · exact he.elim
  · exact he.elim
 intro e s γ' a' w' he hR
 cases e with
 |normal=>exact hret s γ' a' w' he hR
 |ret=>exact hret s γ' a' w' he hR
 |_=>exact he.elim
def EJ (sh:List jE) (dQ:List yD) (F:pJ sh→Prop×zy dQ):Vl:=KJ sh fun x=>((F x).1,⟨Cc (vY dQ (F x).2),none⟩)
theorem ajF {G:kW} (hE:EnvB P G Θ Γ) (hm:P.follows .mixedOrders=true) {f:FuncId} {fn:Func} {c:Code} (hf:P.funcs[f]? =some fn) (hb:fn.body=some c) (H:Hints)
 {sh:List jE} {dQ:List yD} {F:pJ sh→Prop×zy dQ} (hn:Nat.ble sh.length fn.ntmps=true)
 (hwalk:∀ x,KI sh x→(F x).1→G5 Θ Γ H c (agD Θ fn.results.toList dQ fun y=>y=(F x).2) (entry fn.ntmps (zq sh x))):uw P G f (EJ sh dQ F):=by
 have base:∀ x,KI sh x→uw P G f (fun args=>@ite _ (args=zq sh x) (Classical.propDecidable _) (some ((F x).1,⟨Cc (vY dQ (F x).2),none⟩)) none):=by
  intro x hin
  refine atj (dQ:=dQ) hE hm hf hb H ?_
  intro args p out hcon hp
  split at hcon
  · next e=>
    have hF:((F x).1,(⟨Cc (vY dQ (F x).2),none⟩:Out))=(p,out):=by simpa using hcon
    have h1:(F x).1=p:=congrArg Prod.fst hF
    have h2:(⟨Cc (vY dQ (F x).2),none⟩:Out)=out:=congrArg Prod.snd hF
    have:=hwalk x hin (by rw [h1];exact hp)
    rw [e]
    exact ⟨by rw [Vs];exact hn,(F x).2,h2.symm,this⟩
  · cases hcon
 intro args p out k S vs w hcon hp hG hrep
 unfold EJ KJ at hcon
 split at hcon
 · next x hx=>
   have hv:=aqU sh args x vs.toList hx hrep
   exact base x (Ea sh x _ hv) (zq sh x) p out k S vs w (by simp only [if_true];exact hcon) hp hG hv
 · cases hcon
end Go.Fw
namespace Go.Fw
open Go
variable {P:Program} {Θ:gG} {Γ:aC}
inductive RC where
 |c (s:iF)
 |own (e:TypeId) (r:aK) (fr:Bool)
@[reducible] def RC.den:RC→Type
  | .c s=>s.den
  | .own _ r _=>List r.den
@[reducible] def agE:List RC→Type
  |[]=>Unit
  |c::r=>c.den×agE r
def RC.apW:(c:RC)→c.den→gu
 | .c s,x=> .plain (s.cell x)
 | .own e r fr,l=> .own e r l fr
def ajG:(l:List RC)→agE l→List gu
 |[],_=>[]
 |c::r,x=>c.apW x.1::ajG r x.2
inductive vJ where
 |one (c:RC)
 |agg (l:List RC)
@[reducible] def vJ.den:vJ→Type
  | .one c=>c.den
  | .agg l=>agE l
@[reducible] def su:List vJ→Type
  |[]=>Unit
  |s::r=>s.den×su r
def vJ.out:(s:vJ)→s.den→Bool×List gu
 | .one c,x=>(false,[c.apW x])
 | .agg l,x=>(true,ajG l x)
def jd:(l:List vJ)→su l→List (Bool×List gu)
 |[],_=>[]
 |s::r,x=>s.out x.1::jd r x.2
def RC.name:RC→Cell→Option Nat
 | .own _ _ _, .ref o=>some o
 |_,_=>none
def ajH:List RC→List Cell→List (Option Nat)
 |c::r,x::xs=>c.name x::ajH r xs
 |_,_=>[]
def vJ.names:vJ→SV→List (Option Nat)
 | .one c, .one x=>[c.name x]
 | .agg l, .agg xs=>ajH l xs
 |_,_=>[]
def Dw:List vJ→List SV→List (Option Nat)
 |s::r,x::xs=>s.names x++Dw r xs
 |_,_=>[]
def RC.read (st:St):(c:RC)→Cell→Option c.den
 | .c s,x=>match x.refs with|[]=>s.read x|_=>none
 | .own e r fr, .ref o=>match st.ak o with
   |some (.arr f s l g)=>match Nat.beq e f&&MC fr g with
    |true=>if h:s.beq r=true then some (yL h l) else none
    |false=>none
   |_=>none
 | .own _ r _, .nil=>match Nat.ble 1 r.len with|true=>some []|false=>none
 |_,_=>none
def QW (st:St):(l:List RC)→List Cell→Option (agE l)
 |[],[]=>some ()
 |c::r,x::xs=>match c.read st x,QW st r xs with
  |some a,some b=>some (a,b)
  |_,_=>none
 |_,_=>none
def vJ.read (st:St):(s:vJ)→SV→Option s.den
 | .one c, .one x=>c.read st x
 | .agg l, .agg xs=>QW st l xs
 |_,_=>none
def Eb (st:St):(l:List vJ)→List SV→Option (su l)
 |[],[]=>some ()
 |s::r,x::xs=>match s.read st x,Eb st r xs with
  |some a,some b=>some (a,b)
  |_,_=>none
 |_,_=>none
inductive jl where
 |p (s:jE)
 |own (e:TypeId) (r:aK)
 |ptr (l:List iF)
@[reducible] def jl.den:jl→Type
  | .p s=>s.den
  | .own _ r=>List r.den
  | .ptr l=>nY l
def jl.mode:jl→Mode
 | .p _=> .val
 | .own _ _=> .own
 | .ptr _=> .ptr
def jl.val:(s:jl)→s.den→Arg
 | .p s,x=>s.val x
 | .own e r,l=> .own e r l
 | .ptr l,x=> .ptr (iJ l x)
def jl.read:(s:jl)→Arg→Option s.den
 | .p s,x=>s.read x
 | .own e r, .own f s l=>match Nat.beq e f with
   |true=>if h:s.beq r=true then some (yL h l) else none
   |false=>none
 | .ptr l, .ptr cs=>kL l cs
 |_,_=>none
@[reducible] def kT:List jl→Type
  |[]=>Unit
  |s::r=>s.den×kT r
def xU:(l:List jl)→kT l→List Arg
 |[],_=>[]
 |s::r,x=>s.val x.1::xU r x.2
def je:(l:List jl)→List Arg→Option (kT l)
 |[],[]=>some ()
 |s::r,x::xs=>match s.read x,je r xs with
  |some a,some b=>some (a,b)
  |_,_=>none
 |_,_=>none
@[reducible] def qx:List jl→Type
  |[]=>Unit
  | .ptr l::r=>nY l×qx r
  | .p _::r| .own _ _::r=>qx r
def kM:(l:List jl)→qx l→List Eff
 |[],_=>[]
 | .ptr l::r,x=> .var (iJ l x.1)::kM r x.2
 | .p _::r,x| .own _ _::r,x=> .lose::kM r x
def Js (st:St):(i:Nat)→(l:List jl)→Option (qx l)
 |_,[]=>some ()
 |i, .ptr l::r=>match st.ak (i*64+48),Js st (i+1) r with
  |some (.var cs),some b=>match cs.flatMap Cell.refs,kL l cs with
   |[],some a=>some (a,b)
   |_,_=>none
  |_,_=>none
 |i, .p _::r|i, .own _ _::r=>Js st (i+1) r
def Arg.avX (i:Nat):Arg→AV
 | .own _ _ _=> .sv (.one (.ref (i*64+49)))
 | .ptr _=> .dL (i*64+48) 0
 |a=>a.av
def Fg (n:Nat) (args:List Arg):St:=
 {n:=n,tmps:=fun t=>match args[t]? with|some v=>v.avX t|none=> .undef,ak:=dU args}
def agF (st:St) (W:List (Option Nat)) (o:Nat):Bool:=OD st o&&!(Yb o W)
def amH (Θ:gG) (rv:List ResultVar) (sh:List jl) (dQ:List vJ) (K:su dQ×qx sh→Prop) (e:Exit) (st:St):Prop:=
 match e with
 | .normal| .ret=>match MF Θ st rv with
   |some svs=>match MF Θ (st.freeze (agF st (Dw dQ svs))) rv with
    |some vs=>match Bd (Dw dQ vs),Eb (st.freeze (agF st (Dw dQ svs))) dQ vs,Js (st.freeze (agF st (Dw dQ svs))) 0 sh with
     |true,some d,some b=>K (d,b)
     |_,_,_=>False
    |none=>False
   |none=>False
 |_=>False
def xu (sh:List jl) (dQ:List vJ) (F:kT sh→Prop×(su dQ×qx sh→Prop)):Ir:=fun args=>
 match je sh args with
 |some x=>some ((F x).1,⟨su dQ×qx sh,(F x).2,fun t=>⟨jd dQ t.1,none⟩,fun t=>kM sh t.2⟩)
 |none=>none
def EZ (sh:List jl):List Mode:=sh.map jl.mode
end Go.Fw
namespace Go.Fw
open Go
variable {P:Program} {w0:World} {M:Nat→Prop} {T:Ext} {γ γ':Nat→Value} {st:St} {a:Act} {w w':World} {Θ:gG} {Γ:aC}
def ajI (args:List Arg) (γ:Nat→Value) (o:Nat):Option Value:=match dU args o with|some (.var _)=>some (γ o)|_=>none
theorem arY {args:List Arg} {o:Nat} {cs:List Cell} (h:dU args o=some (.var cs)):o%64=48:=by
 unfold dU at h
 split at h
 · split at h<;>cases h
 · split at h
   · next hm=>exact Nat.eq_of_beq_eq_true hm
   · cases h
 · cases h
def Yy (args:List Arg) (γ:Nat→Value) (S:Nat→Prop):Ext where
 S:=fun b=>S b∨zo (dU args) γ b
 N:=ajI args γ
 n48:=by
  intro p v h
  unfold ajI at h
  split at h
  · next cs hc=>exact arY hc
  · cases h
theorem zX.get {X:V}:∀ (as:List Arg) (vs:List Value) (i:Nat),zX X i as vs→as.length=vs.length∧∀ (j:Nat) (b:Arg),as[j]? =some b→∃ v,vs[j]? =some v∧L8 X (i+j) b v
 |[],[],_,_=>⟨rfl,fun j b h=>by simp at h⟩
 |x::as,v::vs,i,⟨h1,h2⟩=>by
  obtain ⟨g1,g2⟩:=zX.get as vs (i+1) h2
  refine ⟨by simp [g1],fun j b hb=>?_⟩
  cases j with
  |zero=>simp at hb;subst hb;exact ⟨v,rfl,h1⟩
  |succ j=>
   obtain ⟨u,hu,hr⟩:=g2 j b (by simpa using hb)
   exact ⟨u,by simpa using hu,by rw [show i+(j+1)=i+1+j by omega];exact hr⟩
 |[],_::_,_,H|_::_,[],_,H=>by cases H
theorem L8.av {X:V} (i:Nat):∀ (c:Arg) (v:Value),L8 X i c v→bG X (c.avX i) v
 | .own _ _ _,_,h=>h
 | .ptr _,_,h=>h
 | .sv _,_,h| .kp _,_,h| .fn _ _,_,h=>h
theorem agG {args:List Arg} {vs:Array Value} {S:Nat→Prop} (n:Nat) (hn:args.length≤n)
 (h:zX ⟨w,w.heap.size,S,γ,dU args⟩ 0 args vs.toList)
 (ho:∀ o x,dU args o=some x→bW ⟨w,w.heap.size,S,γ,dU args⟩ o x∧∀ b,blk (γ o)=some b→b<w.heap.size)
 (hs:∀ o x q y b,dU args o=some x→dU args q=some y→o≠q→blk (γ o)=some b→blk (γ q)≠some b):
 Rel w (zo (dU args) γ) (Yy args γ S) γ (Fg n args) {tmps:=vs++Array.replicate (n-vs.size) undef,defers:=[]} w:=by
 obtain ⟨hl0,hget⟩:=zX.get _ _ 0 h
 have hl:vs.size=args.length:=by simpa using hl0.symm
 have le:V.le ⟨w,w.heap.size,S,γ,dU args⟩ ⟨w,w.heap.size,(Yy args γ S).S,γ,dU args⟩:=
  ⟨Nat.le_refl _,fun b hb=>⟨⟨hb.1,fun hlt=> .inl (hb.2.1 hlt),hb.2.2⟩,rfl⟩,fun o cs hx=>⟨⟨cs,hx⟩,rfl⟩,fun o e r l fr hx=>⟨⟨l,fr,hx⟩,rfl⟩⟩
 refine ⟨fun b hb=> .inr hb,rfl,?_,rfl,rfl,rfl,Nat.le_refl _,fun _ _ _=>rfl,fun t=>?_,fun o x hx=>bW.mono le o x (fun _ _=>rfl) rfl (ho o x hx).1,fun o x b hx hb=>⟨(ho o x hx).2 b hb, .inr ⟨o,x,hx,hb⟩⟩,fun o x p y b hx hy hop hb=>hs o x p y b hx hy hop hb,fun o v cs hN hx=>?_⟩
 · simp [Fg];omega
 · simp only [Fg]
   cases ha:args[t]? with
   |none=>trivial
   |some v=>
    obtain ⟨u,hu,hr⟩:=hget t v ha
    have:(vs++Array.replicate (n-vs.size) undef).getD t undef=u:=by
     have hlt:t<args.length:=by
      rcases Nat.lt_or_ge t args.length with h'|h'
      · exact h'
      · rw [List.getElem?_eq_none h'] at ha;cases ha
     have hlt':t<vs.size:=by omega
     rw [Array.getD_eq_getD_getElem?,Array.getElem?_append_left hlt']
     have:vs[t]? =some u:=by simpa using hu
     rw [this];rfl
    rw [this]
    rw [Nat.zero_add] at hr
    exact bG.mono le _ _ (L8.av t v u hr)
 · have hx':dU args o=some (.var cs):=hx
   have hN':ajI args γ o=some v:=hN
   unfold ajI at hN'
   rw [hx'] at hN'
   exact Option.some.inj hN'
def AW (a a':Arg):Prop:=
 (∃ e r l,a= .own e r l∧a'= .own e r l)∨(∃ cs cs',a= .ptr cs∧a'= .ptr cs'∧∀ (X:V) vs,au X cs vs→au X cs' vs)∨
 ((∀ (X:V) v,bG X a.av v→bG X a'.av v)∧(∀ i,a.avX i=a.av)∧(∀ i,a'.avX i=a'.av)∧(∀ e r l,a≠ .own e r l)∧(∀ cs,a≠ .ptr cs)∧(∀ e r l,a'≠ .own e r l)∧(∀ cs,a'≠ .ptr cs))
theorem jE.apX {s:jE} {x:Arg} {d:s.den} (h:s.read x=some d):AW x (s.val d):=by
 refine .inr (.inr ⟨fun X v hv=>?_,?_⟩)
 · have hx:uH X x v:=by
    cases x with
    |sv _|kp _|fn _ _=>exact hv
    |own _ _ _|ptr _=>cases s<;>simp [jE.read] at h
   exact uH.av _ _ (jE.weak s x d v h hx)
 · cases x<;>cases s<;>first
    |(simp [jE.read] at h;done)
    |exact ⟨fun _=>rfl,fun _=>rfl,(fun _ _ _ e=>by cases e),(fun _ e=>by cases e),(fun _ _ _ e=>by cases e),(fun _ e=>by cases e)⟩
theorem jl.apX {s:jl} {x:Arg} {d:s.den} (h:s.read x=some d):AW x (s.val d):=by
 unfold jl.read at h
 split at h
 · exact jE.apX h
 · next e r f s l=>
   split at h
   · next hb=>
     split at h
     · next hs=>
       cases h
       have he:=Nat.eq_of_beq_eq_true hb
       subst he
       have hsr:=aK.eq_of_beq s r hs
       subst hsr
       exact .inl ⟨e,s,l,rfl,rfl⟩
     · cases h
   · cases h
 · next l cs=>exact .inr (.inl ⟨cs,_,rfl,rfl,fun X vs hc=>Fb _ _ _ _ h hc⟩)
 · cases h
theorem KL:∀ {l:List jl} {xs:List Arg} {d:kT l},je l xs=some d→(xU l d).length=xs.length∧∀ (i:Nat) (a:Arg),xs[i]? =some a→∃ a',(xU l d)[i]? =some a'∧AW a a'
 |[],[],_,_=>⟨rfl,fun i a h=>by simp at h⟩
 |s::r,x::xs,d,h=>by
  rw [je] at h
  split at h
  · next a b h1 h2=>
    cases h
    obtain ⟨g1,g2⟩:=KL h2
    refine ⟨by simp [xU,g1],fun i c hc=>?_⟩
    cases i with
    |zero=>simp at hc;subst hc;exact ⟨_,rfl,jl.apX h1⟩
    |succ i=>
     obtain ⟨c',k1,k2⟩:=g2 i c (by simpa using hc)
     exact ⟨c',by simpa [xU] using k1,k2⟩
  · cases h
 |[],_::_,_,h=>by simp [je] at h
 |_::_,[],_,h=>by simp [je] at h
theorem OG {args:List Arg} {o:Nat} (h:∀ b,args[o / 64]? =some b→(∀ e r l,b≠ .own e r l)∧∀ cs,b≠ .ptr cs):dU args o=none:=by
 unfold dU
 split
 · next e r l ha=>exact ((h _ ha).1 e r l rfl).elim
 · next cs ha=>exact ((h _ ha).2 cs rfl).elim
 · rfl
theorem Vt {sh:List jl} {args:List Arg} {x:kT sh} (h:je sh args=some x) (n:Nat):Covers (Fg n (xU sh x)) (Fg n args):=by
 obtain ⟨hl,hget⟩:=KL h
 refine ⟨rfl,fun t X v hv=>?_,fun o=>?_⟩
 · simp only [Fg] at hv ⊢
   cases ha:args[t]? with
   |none=>
    have:(xU sh x)[t]? =none:=by
     rw [List.getElem?_eq_none_iff] at ha ⊢;omega
    rw [this];trivial
   |some b=>
    obtain ⟨b',hb',hw⟩:=hget t b ha
    rw [ha] at hv
    rw [hb']
    dsimp only at hv ⊢
    rcases hw with ⟨e,r,l,rfl,rfl⟩|⟨cs,cs',rfl,rfl,_⟩|⟨hw,e1,e2,_⟩
    · exact hv
    · exact hv
    · rw [e1] at hv;rw [e2];exact hw X v hv
 · show (dU (xU sh x) o=none∧dU args o=none)∨∃ y y',dU args o=some y∧dU (xU sh x) o=some y'∧Iy y y'
   cases ha:args[o / 64]? with
   |none=>
    have h2:(xU sh x)[o / 64]? =none:=by
     rw [List.getElem?_eq_none_iff] at ha ⊢;omega
    exact .inl ⟨OG (by rw [h2];intro b hb;cases hb),OG (by rw [ha];intro b hb;cases hb)⟩
   |some b=>
    obtain ⟨b',hb',hw⟩:=hget _ b ha
    rcases hw with ⟨e,r,l,rfl,rfl⟩|⟨cs,cs',rfl,rfl,hc⟩|⟨_,_,_,n1,n2,n3,n4⟩
    · unfold dU
      rw [ha,hb']
      dsimp only
      cases hm:Nat.beq (o%64) 49 with
      |true=>exact .inr ⟨_,_,rfl,rfl, .inr ⟨e,r,l,false,false,rfl,rfl,id⟩⟩
      |false=>exact .inl ⟨rfl,rfl⟩
    · unfold dU
      rw [ha,hb']
      dsimp only
      cases hm:Nat.beq (o%64) 48 with
      |true=>exact .inr ⟨_,_,rfl,rfl, .inl ⟨cs,cs',rfl,rfl,hc⟩⟩
      |false=>exact .inl ⟨rfl,rfl⟩
    · exact .inl ⟨OG (by rw [hb'];intro c hc;cases hc;exact ⟨n3,n4⟩),OG (by rw [ha];intro c hc;cases hc;exact ⟨n1,n2⟩)⟩
theorem ac5 (a b:List (Nat×aO)) (p:Nat):look (a++b) p=match look b p with|some y=>some y|none=>look a p:=by
 induction a with
 |nil=>simp only [List.nil_append,look];cases look b p<;>rfl
 |cons x a ih=>
  obtain ⟨o,z⟩:=x
  rw [List.cons_append,look,ih,look]
  cases look b p<;>rfl
theorem yM:∀ (cs:List gu) (k p:Nat) (x:aO),look (kK k cs).2 p=some x↔∃ i e r l fr,p=k+i∧cs[i]? =some (.own e r l fr)∧x= .arr e r l fr
 |[],k,p,x=>by simp [kK,look]
 |c::cs,k,p,x=>by
  rw [kK,ac5]
  have ih:=yM cs (k+1) p x
  constructor
  · intro h
    split at h
    · next y hy=>
      cases h
      obtain ⟨i,e,r,l,fr,h1,h2,h3⟩:=(yM cs (k+1) p x).1 hy
      exact ⟨i+1,e,r,l,fr,by omega,by simpa using h2,h3⟩
    · next hn=>
      cases c with
      |plain c=>simp [gu.take,look] at h
      |own e r l fr=>
       simp only [gu.take,look] at h
       split at h
       · next hb=>
         cases h
         exact ⟨0,e,r,l,fr,by have:=Nat.eq_of_beq_eq_true hb;omega,rfl,rfl⟩
       · cases h
  · rintro ⟨i,e,r,l,fr,h1,h2,rfl⟩
    cases i with
    |succ i=>
     have:=(yM cs (k+1) p (.arr e r l fr)).2 ⟨i,e,r,l,fr,by omega,by simpa using h2,rfl⟩
     rw [this]
    |zero=>
     simp at h2
     subst h2
     have hn:look (kK (k+1) cs).2 p=none:=by
      cases hl:look (kK (k+1) cs).2 p with
      |none=>rfl
      |some y=>
       obtain ⟨i,_,_,_,_,g1,_⟩:=(yM cs (k+1) p y).1 hl
       omega
     rw [hn]
     have hp:p=k:=by omega
     subst hp
     simp [gu.take,look]
def KN (rs:List (Bool×List gu)):List gu:=rs.flatMap (·.2)
theorem aov (k:Nat) (x:Bool×List gu):(zG k x).2=(kK k x.2).2:=by
 unfold zG
 split
 · next e1 e2=>rw [e2]
 · next e1 e2=>rw [e2]
 · next e1 e2=>rw [e2]
theorem CY:∀ (rs:List (Bool×List gu)) (k p:Nat) (x:aO),look (iZ k rs).2 p=some x↔∃ i e r l fr,p=k+i∧(KN rs)[i]? =some (.own e r l fr)∧x= .arr e r l fr
 |[],k,p,x=>by simp [iZ,look,KN]
 |y::rs,k,p,x=>by
  rw [iZ,ac5,aov]
  have apY:KN (y::rs)=y.2++KN rs:=rfl
  constructor
  · intro h
    split at h
    · next z hz=>
      cases h
      obtain ⟨i,e,r,l,fr,h1,h2,h3⟩:=(CY rs (k+y.2.length) p x).1 hz
      refine ⟨y.2.length+i,e,r,l,fr,by omega,?_,h3⟩
      rw [apY,List.getElem?_append_right (by omega)]
      simpa using h2
    · obtain ⟨i,e,r,l,fr,h1,h2,h3⟩:=(yM y.2 k p x).1 h
      refine ⟨i,e,r,l,fr,h1,?_,h3⟩
      rw [apY,List.getElem?_append_left (List.getElem?_eq_some_iff.1 h2).1]
      exact h2
  · rintro ⟨i,e,r,l,fr,h1,h2,rfl⟩
    rw [apY] at h2
    rcases Nat.lt_or_ge i y.2.length with hlt|hge
    · rw [List.getElem?_append_left hlt] at h2
      have hn:look (iZ (k+y.2.length) rs).2 p=none:=by
       cases hl:look (iZ (k+y.2.length) rs).2 p with
       |none=>rfl
       |some z=>
        obtain ⟨j,_,_,_,_,g1,_⟩:=(CY rs (k+y.2.length) p z).1 hl
        omega
      rw [hn]
      exact (yM y.2 k p _).2 ⟨i,e,r,l,fr,h1,h2,rfl⟩
    · rw [List.getElem?_append_right hge] at h2
      have:=(CY rs (k+y.2.length) p (.arr e r l fr)).2 ⟨i-y.2.length,e,r,l,fr,by omega,h2,rfl⟩
      rw [this]
end Go.Fw
namespace Go.Fw
open Go
set_option linter.unusedVariables false
variable {P:Program} {w0:World} {M:Nat→Prop} {T:Ext} {γ γ':Nat→Value} {st:St} {a:Act} {w w':World} {Θ:gG} {Γ:aC}
def RF (Y:V) (c:gu) (v:Value) (n:Option Nat):Prop:=
 match c with
 | .plain x=>bn Y x v∧x.refs=[]
 | .own e r l fr=>0<r.len∧((∃ o g,n=some o∧Y.ak o=some (.arr e r l g)∧MC fr g=true∧v=Y.γ o∧v.oneCell'=true)∨(l=[]∧v= .slice none 0 0))
def Fh (Y:V):List gu→List Value→List (Option Nat)→Prop
 |[],[],[]=>True
 |c::cs,v::vs,n::ns=>RF Y c v n∧Fh Y cs vs ns
 |_,_,_=>False
theorem Fh.append {Y:V}:∀ (cs:List gu) (vs:List Value) (ns:List (Option Nat)) (ds:List gu) (us:List Value) (ms:List (Option Nat)),Fh Y cs vs ns→Fh Y ds us ms→Fh Y (cs++ds) (vs++us) (ns++ms)
 |[],[],[],_,_,_,_,h=>h
 |_::cs,_::vs,_::ns,ds,us,ms,⟨h1,h2⟩,h=>⟨h1,Fh.append cs vs ns ds us ms h2 h⟩
theorem Fh.length {Y:V}:∀ (cs:List gu) (vs:List Value) (ns:List (Option Nat)),Fh Y cs vs ns→cs.length=vs.length
 |[],[],[],_=>rfl
 |_::cs,_::vs,_::ns,⟨_,h2⟩=>by simp [Fh.length cs vs ns h2]
theorem Fh.get {Y:V}:∀ (cs:List gu) (vs:List Value) (ns:List (Option Nat)) (i:Nat) (c:gu),Fh Y cs vs ns→cs[i]? =some c→∃ v n,vs[i]? =some v∧ns[i]? =some n∧RF Y c v n
 |[],[],[],i,c,_,h=>by simp at h
 |x::cs,v::vs,n::ns,0,c,⟨h1,_⟩,h=>by simp at h;subst h;exact ⟨v,n,rfl,rfl,h1⟩
 |x::cs,v::vs,n::ns,i+1,c,⟨_,h2⟩,h=>by
  obtain ⟨u,m,g1,g2,g3⟩:=Fh.get cs vs ns i c h2 (by simpa using h)
  exact ⟨u,m,by simpa using g1,by simpa using g2,g3⟩
theorem iF.alh (c:iF) (x:Cell) (d:c.den) (h:c.read x=some d) (hx:x.refs=[]):(c.cell d).refs=[]:=by
 cases c<;>cases x<;>first|rfl|(simp [iF.read] at h;done)|(cases hx)
theorem RC.ao4 {Y:V} (hst:Y.ak=st.ak) (hpos:∀ o e r l g,st.ak o=some (.arr e r l g)→0<r.len):∀ (c:RC) (x:Cell) (d:c.den) (v:Value),c.read st x=some d→bn Y x v→RF Y (c.apW d) v (c.name x):=by
 intro c x d v hr hv
 cases c with
 |c s=>
  rw [RC.read] at hr
  split at hr
  · next hx=>exact ⟨iF.weak s x d v hr hv,iF.alh s x d hr hx⟩
  · cases hr
 |own e r fr=>
  cases x with
  |ref o=>
   simp only [RC.read] at hr
   split at hr
   · next f s l g ho=>
     split at hr
     · next hb=>
       split at hr
       · next hs=>
         cases hr
         rw [Bool.and_eq_true] at hb
         have he:=Nat.eq_of_beq_eq_true hb.1
         subst he
         have hsr:=aK.eq_of_beq s r hs
         subst hsr
         exact ⟨hpos _ _ _ _ _ ho, .inl ⟨o,g,rfl,by rw [hst];exact ho,hb.2,hv.2.1,hv.2.2⟩⟩
       · cases hr
     · cases hr
   · cases hr
  |nil=>
   simp only [RC.read] at hr
   split at hr
   · next hb=>
     cases hr
     exact ⟨Nat.lt_of_lt_of_le Nat.zero_lt_one (by simpa [Nat.ble_eq] using hb), .inr ⟨rfl,hv⟩⟩
   · cases hr
  |_=>simp [RC.read] at hr
theorem agH {Y:V} (hst:Y.ak=st.ak) (hpos:∀ o e r l g,st.ak o=some (.arr e r l g)→0<r.len):∀ (l:List RC) (xs:List Cell) (d:agE l) (vs:List Value),QW st l xs=some d→au Y xs vs→Fh Y (ajG l d) vs (ajH l xs)
 |[],[],_,[],_,_=>trivial
 |c::r,x::xs,d,v::vs,h,⟨h1,h2⟩=>by
  rw [QW] at h
  split at h
  · next a b g1 g2=>
    cases h
    exact ⟨RC.ao4 hst hpos c x a v g1 h1,agH hst hpos r xs b vs g2 h2⟩
  · cases h
 |[],_::_,_,_,h,_=>by simp [QW] at h
 |_::_,[],_,_,h,_=>by simp [QW] at h
theorem vJ.ant {Y:V} (hst:Y.ak=st.ak) (hpos:∀ o e r l g,st.ak o=some (.arr e r l g)→0<r.len):∀ (s:vJ) (x:SV) (d:s.den) (v:Value),s.read st x=some d→eU Y x v→Fh Y (s.out d).2 v.cells.toList (s.names x)
 | .one c, .one x,d,v,h,hv=>by
   rw [GL v (bn.one x v hv)]
   exact ⟨RC.ao4 hst hpos c x d v h hv,trivial⟩
 | .agg l, .agg xs,d,v,h,⟨vs,hv,hc⟩=>by
   rw [hv]
   exact agH hst hpos l xs d _ h hc
 | .one _, .agg _,_,_,h,_| .agg _, .one _,_,_,h,_=>by simp [vJ.read] at h
theorem agI {Y:V} (hst:Y.ak=st.ak) (hpos:∀ o e r l g,st.ak o=some (.arr e r l g)→0<r.len):∀ (l:List vJ) (xs:List SV) (d:su l) (vs:List Value),Eb st l xs=some d→fA Y xs vs→
 Fh Y (KN (jd l d)) (vs.flatMap fun v=>v.cells.toList) (Dw l xs)
 |[],[],_,[],_,_=>trivial
 |s::r,x::xs,d,v::vs,h,⟨h1,h2⟩=>by
  rw [Eb] at h
  split at h
  · next a b g1 g2=>
    cases h
    exact Fh.append _ _ _ _ _ _ (vJ.ant hst hpos s x a v g1 h1) (agI hst hpos r xs b vs g2 h2)
  · cases h
 |[],_::_,_,_,h,_=>by simp [Eb] at h
 |_::_,[],_,_,h,_=>by simp [Eb] at h
def Go1 (Z:V) (k:Nat) (c:gu) (v:Value):Prop:=bn Z (c.take k).1 v
def Ib (Z:V):Nat→List gu→List Value→Prop
 |_,[],[]=>True
 |k,c::cs,v::vs=>Go1 Z k c v∧Ib Z (k+1) cs vs
 |_,_,_=>False
theorem Ib.of {Z:V}:∀ (cs:List gu) (vs:List Value) (k:Nat),cs.length=vs.length→(∀ i c v,cs[i]? =some c→vs[i]? =some v→Go1 Z (k+i) c v)→Ib Z k cs vs
 |[],[],_,_,_=>trivial
 |c::cs,v::vs,k,hl,h=>⟨h 0 c v rfl rfl,Ib.of cs vs (k+1) (by simpa using hl) fun i c' v' h1 h2=>by
   have:=h (i+1) c' v' (by simpa using h1) (by simpa using h2)
   rwa [show k+(i+1)=k+1+i by omega] at this⟩
theorem Ib.split {Z:V}:∀ (cs:List gu) (vs:List Value) (ds:List gu) (us:List Value) (k:Nat),cs.length=vs.length→Ib Z k (cs++ds) (vs++us)→Ib Z k cs vs∧Ib Z (k+cs.length) ds us
 |[],[],_,_,_,_,h=>⟨trivial,h⟩
 |c::cs,v::vs,ds,us,k,hl,⟨h1,h2⟩=>by
  obtain ⟨g1,g2⟩:=Ib.split cs vs ds us (k+1) (by simpa using hl) h2
  exact ⟨⟨h1,g1⟩,by rw [show k+(c::cs).length=k+1+cs.length by simp;omega];exact g2⟩
theorem Ib.cells {Z:V}:∀ (cs:List gu) (vs:List Value) (k:Nat),Ib Z k cs vs→au Z (kK k cs).1 vs
 |[],[],_,_=>trivial
 |c::cs,v::vs,k,⟨h1,h2⟩=>⟨h1,Ib.cells cs vs (k+1) h2⟩
theorem vJ.go {Y Z:V}:∀ (s:vJ) (x:SV) (d:s.den) (v:Value) (k:Nat),s.read st x=some d→eU Y x v→Ib Z k (s.out d).2 v.cells.toList→eU Z (zG k (s.out d)).1 v
 | .one c, .one x,d,v,k,h,hv,hg=>by
   rw [GL v (bn.one x v hv)] at hg
   exact hg.1
 | .agg l, .agg xs,d,v,k,h,⟨vs,hv,hc⟩,hg=>by
   rw [hv] at hg ⊢
   exact ⟨vs,rfl,Ib.cells _ _ _ hg⟩
 | .one _, .agg _,_,_,_,h,_,_| .agg _, .one _,_,_,_,h,_,_=>by simp [vJ.read] at h
theorem ali {Y Z:V} (hst:Y.ak=st.ak) (hpos:∀ o e r l g,st.ak o=some (.arr e r l g)→0<r.len):∀ (l:List vJ) (xs:List SV) (d:su l) (vs:List Value) (k:Nat),Eb st l xs=some d→fA Y xs vs→
 Ib Z k (KN (jd l d)) (vs.flatMap fun v=>v.cells.toList)→fA Z (iZ k (jd l d)).1 vs
 |[],[],_,[],_,_,_,_=>trivial
 |s::r,x::xs,d,v::vs,k,h,⟨h1,h2⟩,hg=>by
  rw [Eb] at h
  split at h
  · next a b g1 g2=>
    cases h
    have hl:=Fh.length _ _ _ (vJ.ant hst hpos s x a v g1 h1)
    obtain ⟨k1,k2⟩:=Ib.split _ _ _ _ k hl hg
    exact ⟨vJ.go s x a v k g1 h1 k1,ali hst hpos r xs b vs _ g2 h2 k2⟩
  · cases h
 |[],_::_,_,_,_,h,_,_=>by simp [Eb] at h
 |_::_,[],_,_,_,h,_,_=>by simp [Eb] at h
theorem ac6:∀ (l:List iF) (xs:List Cell) (d:nY l),kL l xs=some d→xs.flatMap Cell.refs=[]→(iJ l d).flatMap Cell.refs=[]
 |[],[],_,_,_=>rfl
 |c::r,x::xs,d,h,hx=>by
  rw [kL] at h
  split at h
  · next a b g1 g2=>
    cases h
    rw [List.flatMap_cons,List.append_eq_nil_iff] at hx
    show (c.cell a::iJ r b).flatMap Cell.refs=[]
    rw [List.flatMap_cons,iF.alh c x a g1 hx.1,ac6 r xs b g2 hx.2,List.append_nil]
  · cases h
 |[],_::_,_,h,_=>by simp [kL] at h
 |_::_,[],_,h,_=>by simp [kL] at h
theorem KO:∀ (sh:List jl) (i:Nat) (b:qx sh),Js st i sh=some b→∀ (j:Nat) (e:Eff),(kM sh b)[j]? =some e→
 e= .lose∨∃ l cs cs0,sh[j]? =some (.ptr l)∧e= .var cs∧st.ak ((i+j)*64+48)=some (.var cs0)∧cs0.flatMap Cell.refs=[]∧cs.flatMap Cell.refs=[]∧∀ (X:V) vs,au X cs0 vs→au X cs vs
 |[],_,_,_,j,e,he=>by simp [kM] at he
 | .ptr l::r,i,b,h,j,e,he=>by
   rw [Js] at h
   split at h
   · next cs b' hx hb=>
     split at h
     · next a hr ha=>
       cases h
       cases j with
       |zero=>
        simp [kM] at he
        subst he
        exact .inr ⟨l,_,cs,rfl,rfl,by simpa using hx,hr,ac6 _ _ _ ha hr,fun X vs hc=>Fb _ _ _ _ ha hc⟩
       |succ j=>
        rcases KO r (i+1) b' hb j e (by simpa [kM] using he) with h|⟨l,cs',cs0,h1,h2,h3,h4⟩
        · exact .inl h
        · exact .inr ⟨l,cs',cs0,by simpa using h1,h2,by rw [show i+(j+1)=i+1+j by omega];exact h3,h4⟩
     · cases h
   · cases h
 | .p _::r,i,b,h,j,e,he| .own _ _::r,i,b,h,j,e,he=>by
   rw [Js] at h
   cases j with
   |zero=>simp [kM] at he;exact .inl he.symm
   |succ j=>
    rcases KO r (i+1) b h j e (by simpa [kM] using he) with h|⟨l,cs',cs0,h1,h2,h3,h4⟩
    · exact .inl h
    · exact .inr ⟨l,cs',cs0,by simpa using h1,h2,by rw [show i+(j+1)=i+1+j by omega];exact h3,h4⟩
theorem agJ:∀ {sh:List jl} {xs:List Arg} {d:kT sh},je sh xs=some d→∀ (j:Nat) (l:List iF),sh[j]? =some (.ptr l)→∃ cs,xs[j]? =some (.ptr cs)
 |[],[],_,_,j,l,h=>by simp at h
 |s::r,x::xs,d,h,j,l,hj=>by
  rw [je] at h
  split at h
  · next a b h1 h2=>
    cases j with
    |zero=>
     simp at hj
     subst hj
     cases x with
     |ptr cs=>exact ⟨cs,rfl⟩
     |_=>simp [jl.read] at h1
    |succ j=>
     obtain ⟨cs,hc⟩:=agJ h2 j l (by simpa using hj)
     exact ⟨cs,by simpa using hc⟩
  · cases h
 |[],_::_,_,h,_,_,_=>by simp [je] at h
 |_::_,[],_,h,_,_,_=>by simp [je] at h
theorem aqV {sh:List jl} {b:qx sh} (hb:Js st 0 sh=some b) {q:Nat} {y:aO} (h:o7 (kM sh b) q=some y):
 q%64=48∧∃ l cs cs0,sh[q / 64]? =some (.ptr l)∧y= .var cs∧st.ak q=some (.var cs0)∧cs0.flatMap Cell.refs=[]∧cs.flatMap Cell.refs=[]∧∀ (X:V) vs,au X cs0 vs→au X cs vs:=by
 unfold o7 at h
 split at h
 · next e r l he=>
   rcases KO sh 0 b hb _ _ he with h'|⟨_,_,_,_,h',_⟩<;>cases h'
 · next cs he=>
   split at h
   · next hm=>
     have hm':=Nat.eq_of_beq_eq_true hm
     cases h
     rcases KO sh 0 b hb _ _ he with h'|⟨l,cs',cs0,h1,h2,h3,h4⟩
     · cases h'
     · cases h2
       refine ⟨hm',l,_,cs0,h1,rfl,?_,h4⟩
       rw [show q=(0+q / 64)*64+48 by omega]
       exact h3
   · cases h
 · cases h
def jl.wW:(s:jl)→s.den→Prop
 | .p s,x=>s.wW x
 | .own _ r,(l:List r.den)=>∀ x∈l,r.wW x
 | .ptr l,x=>aaW l x
def KP:(l:List jl)→kT l→Prop
 |[],_=>True
 |s::r,x=>s.wW x.1∧KP r x.2
theorem jE.aaX {X:V} (s:jE) (x:Arg) (d:s.den) (v:Value) (h:s.read x=some d) (hr:uH X x v):s.wW d:=
 (Ea (X:=X) [s] (d,()) [v] ⟨jE.weak s x d v h hr,trivial⟩).1
theorem Yz {X:V} {args:List Arg} (ho:∀ o x,dU args o=some x→bW X o x):∀ (sh:List jl) (xs:List Arg) (d:kT sh) (vs:List Value) (i:Nat),(∀ j a,xs[j]? =some a→args[i+j]? =some a)→
 je sh xs=some d→zX X i xs vs→KP sh d
 |[],[],_,_,_,_,_,_=>trivial
 |s::r,x::xs,d,v::vs,i,hj,h,⟨hv,hvs⟩=>by
  rw [je] at h
  split at h
  · next a b h1 h2=>
    cases h
    refine ⟨?_,Yz ho r xs b vs (i+1) (fun j c hc=>by have:=hj (j+1) c (by simpa using hc);rwa [show i+(j+1)=i+1+j by omega] at this) h2 hvs⟩
    have hx:args[i]? =some x:=hj 0 x rfl
    cases s with
    |p s=>
     have h1':s.read x=some a:=by simpa [jl.read] using h1
     refine jE.aaX (X:=X) s x a v h1' ?_
     cases x with
     |own _ _ _|ptr _=>cases s<;>simp [jE.read] at h1'
     |_=>exact hv
    |own e r'=>
     cases x with
     |own f s' l=>
      have h1':(match Nat.beq e f with|true=>if h:s'.beq r'=true then some (yL h l) else none|false=>none)=some a:=h1
      split at h1'
      · split at h1'
        · next hb hs=>
          cases h1'
          have hsr:=aK.eq_of_beq s' r' hs
          subst hsr
          have sZ:dU args (i*64+49)=some (.arr f s' l false):=by
           unfold dU
           rw [show (i*64+49) / 64=i by omega,hx]
           dsimp only
           rw [show (i*64+49)%64=49 by omega]
          obtain ⟨us,_,_,_,hrow⟩:=ho _ _ sZ
          intro y hy
          have hy':y∈l:=hy
          obtain ⟨j,hj1,hj2⟩:=List.mem_iff_getElem.1 hy'
          exact bK.wW s' _ _ (hrow j y (by rw [List.getElem?_eq_getElem hj1,hj2]))
        · cases h1'
      · cases h1'
     |_=>simp [jl.read] at h1
    |ptr l=>
     cases x with
     |ptr cs=>
      have h1':kL l cs=some a:=h1
      have sZ:dU args (i*64+48)=some (.var cs):=by
       unfold dU
       rw [show (i*64+48) / 64=i by omega,hx]
       dsimp only
       rw [show (i*64+48)%64=48 by omega]
      obtain ⟨_,arr,_,_,_,hc⟩:=ho _ _ sZ
      exact Jr l a _ (Fb _ _ _ _ h1' hc)
     |_=>simp [jl.read] at h1
  · cases h
 |[],_::_,_,_,_,_,h,_=>by simp [je] at h
 |_::_,[],_,_,_,_,h,_=>by simp [je] at h
theorem JL:∀ (l:List jl) (d:kT l),(xU l d).length=l.length
 |[],_=>rfl
 |_::r,d=>by simp [xU,JL r d.2]
theorem Out.arZ (rs:List (Bool×List gu)) (k:Nat):((⟨rs,none⟩:Out).take k).2=(iZ k rs).2:=by
 unfold Out.take
 dsimp only
 split
 · next h=>rw [h]
 · next h=>rw [h]
theorem Out.ar0 (rs:List (Bool×List gu)) (k:Nat):((⟨rs,none⟩:Out).take k).1=(match (iZ k rs).1 with|[v]=>AV.sv v|vs=> .pR vs):=by
 unfold Out.take
 dsimp only
 split
 · next h=>rw [h]
 · next vs δ hne h=>
   rw [h]
   dsimp only
   rcases vs with _|⟨v,_|⟨v2,r⟩⟩
   · rfl
   · exact (hne v rfl).elim
   · rfl
theorem avs {args:List Arg} {S:Nat→Prop} {sh:List jl} {dQ:List vJ} {x:kT sh} (hx:je sh args=some x) {d:su dQ} {b:qx sh} {k:Nat} {vs:List SV} {us:List Value}
 (hR:Rel w (zo (dU args) γ) (Yy args γ S) γ' st a w') (hrs:fA (ax w (Yy args γ S) γ' st w') vs us) (hnd:Bd (Dw dQ vs)=true) (hrd:Eb st dQ vs=some d) (hbk:Js st 0 sh=some b)
 (hap:∀ o x,look ((⟨jd dQ d,none⟩:Out).take k).2 o=some x→o7 (kM sh b) o=none):
 ∃ γ2,bG ⟨w',w.heap.size,uI S args (kM sh b) γ,γ2,look ((⟨jd dQ d,none⟩:Out).take k).2⟩ ((⟨jd dQ d,none⟩:Out).take k).1 (if h:us.toArray.size=1 then us.toArray[0] else .tuple us.toArray)∧
   (∀ o x,look ((⟨jd dQ d,none⟩:Out).take k).2 o=some x→bW ⟨w',w.heap.size,uI S args (kM sh b) γ,γ2,look ((⟨jd dQ d,none⟩:Out).take k).2⟩ o x∧
     ∀ b',blk (γ2 o)=some b'→b'<w'.heap.size∧(w.heap.size≤b'∨zo (dU args) γ b')∧∀ q y,o7 (kM sh b) q=some y→blk (γ q)≠some b')∧
   (∀ o x q y b',look ((⟨jd dQ d,none⟩:Out).take k).2 o=some x→look ((⟨jd dQ d,none⟩:Out).take k).2 q=some y→o≠q→blk (γ2 o)=some b'→blk (γ2 q)≠some b')∧
   (∀ o x,o7 (kM sh b) o=some x→γ2 o=γ o∧bW ⟨w',w.heap.size,uI S args (kM sh b) γ,γ2,look ((⟨jd dQ d,none⟩:Out).take k).2⟩ o x):=by
 rw [Out.arZ] at hap ⊢
 rw [Out.ar0]
 skip
 let Y:V:=ax w (Yy args γ S) γ' st w'
 let fv:List Value:=us.flatMap fun v=>v.cells.toList
 let aX:=kM sh b
 let γ2:Nat→Value:=fun p=>match o7 aX p with|some _=>γ p|none=>fv.getD (p-k) undef
 let Z:V:=⟨w',w.heap.size,uI S args aX γ,γ2,look (iZ k (jd dQ d)).2⟩
 have hpos:∀ o e r l g,st.ak o=some (.arr e r l g)→0<r.len:=fun o e r l g ho=>by
  obtain ⟨_,_,h,_⟩:=hR.ak o _ ho
  exact h
 have hF:Fh Y (KN (jd dQ d)) fv (Dw dQ vs):=agI (st:=st) rfl hpos dQ vs d us hrd hrs
 have hbq:∀ q y,o7 aX q=some y→γ' q=γ q∧∃ cs cs0,y= .var cs∧st.ak q=some (.var cs0)∧cs0.flatMap Cell.refs=[]∧cs.flatMap Cell.refs=[]∧∀ (X:V) vs,au X cs0 vs→au X cs vs:=by
  intro q y hq
  obtain ⟨hm,l,cs,cs0,h1,h2,h3,h4,h5,h6⟩:=aqV hbk hq
  refine ⟨?_,cs,cs0,h2,h3,h4,h5,h6⟩
  obtain ⟨ci,hci⟩:=agJ hx _ l h1
  have ho:dU args q=some (.var ci):=by
   unfold dU
   rw [hci]
   dsimp only
   rw [hm]
  have hN:(Yy args γ S).N q=some (γ q):=by
   show ajI args γ q=_
   unfold ajI
   rw [ho]
  exact hR.pin q _ _ hN h3
 have hG:∀ p X,look (iZ k (jd dQ d)).2 p=some X→∃ i e r l fr,p=k+i∧(KN (jd dQ d))[i]? =some (.own e r l fr)∧X= .arr e r l fr∧0<r.len∧
  ((∃ o g,(Dw dQ vs)[i]? =some (some o)∧st.ak o=some (.arr e r l g)∧MC fr g=true∧γ2 p=γ' o∧(γ2 p).oneCell'=true)∨(l=[]∧γ2 p= .slice none 0 0)):=by
  intro p X hp
  obtain ⟨i,e,r,l,fr,h1,h2,h3⟩:=(CY _ k p X).1 hp
  obtain ⟨v,n,g1,g2,hr,hv⟩:=Fh.get _ _ _ i _ hF h2
  have hγ:γ2 p=v:=by
   show (match o7 aX p with|some _=>γ p|none=>fv.getD (p-k) undef)=v
   rw [hap p X hp]
   dsimp only
   rw [h1,show k+i-k=i by omega,List.getD_eq_getElem?_getD,g1]
   rfl
  refine ⟨i,e,r,l,fr,h1,h2,h3,hr,?_⟩
  rcases hv with ⟨o,g,hn,ho,hb,hv,h1c⟩|⟨hl,hv⟩
  · exact .inl ⟨o,g,by rw [g2,hn],ho,hb,hγ.trans hv,by rw [hγ];exact h1c⟩
  · exact .inr ⟨hl,hγ.trans hv⟩
 have Tn:∀ b',Y.foot b'→Z.foot b':=by
  intro b' hb'
  refine ⟨hb'.1,fun hlt=>⟨hb'.2.1 hlt,fun q y hq=>?_⟩,fun p X hp=>?_⟩
  · obtain ⟨hγ,cs,cs0,_,h3,_⟩:=hbq q y hq
    rw [← hγ]
    exact hb'.2.2 q _ h3
  · obtain ⟨i,e,r,l,fr,_,_,_,_,hc⟩:=hG p X hp
    show blk (γ2 p)≠some b'
    rcases hc with ⟨o,g,_,ho,_,hγ,_⟩|⟨_,hγ⟩
    · rw [hγ];exact hb'.2.2 o _ ho
    · rw [hγ];intro h;cases h
 have aqW:∀ fr b',Y.dP fr b'→Z.dP fr b':=fun fr b' h=>⟨Tn b' h.1,h.2⟩
 have hgo:Ib Z k (KN (jd dQ d)) fv:=by
  refine Ib.of _ _ _ (Fh.length _ _ _ hF) fun i c v hc hv=>?_
  obtain ⟨v',n,g1,g2,g3⟩:=Fh.get _ _ _ i c hF hc
  rw [hv] at g1
  cases g1
  cases c with
  |plain x=>
   exact (FU (Y:=Y) (Z:=Z) rfl aqW [x] [v] (by simpa using g3.2) ⟨g3.1,trivial⟩).1
  |own e r l fr=>
   have hp:look (iZ k (jd dQ d)).2 (k+i)=some (.arr e r l fr):=(CY _ k _ _).2 ⟨i,e,r,l,fr,rfl,hc,rfl⟩
   have hγ:γ2 (k+i)=v:=by
    show (match o7 aX (k+i) with|some _=>γ (k+i)|none=>fv.getD (k+i-k) undef)=v
    rw [hap _ _ hp]
    dsimp only
    rw [show k+i-k=i by omega,List.getD_eq_getElem?_getD,hv]
    rfl
   refine ⟨⟨e,r,l,fr,hp⟩,hγ.symm,?_⟩
   rcases g3.2 with ⟨_,_,_,_,_,_,h⟩|⟨_,h⟩
   · exact h
   · rw [h];rfl
 have hsv:fA Z (iZ k (jd dQ d)).1 us:=ali (st:=st) (Y:=Y) rfl hpos dQ vs d us k hrd hrs hgo
 refine ⟨γ2,?_,fun p X hp=>?_,fun p X q X' b' hp hq hne hb1 hb2=>?_,fun q y hq=>?_⟩
 · have hl:=fA.length _ _ hsv
   match hm:(iZ k (jd dQ d)).1,us,hsv,hl with
   |[v],[u],hk,_=>exact hk.1
   |[],[],hk,_=>exact ⟨_,by simp,hk⟩
   |v::v2::r,u::u2::us,hk,hl=>exact ⟨_,by simp,hk⟩
   |[],_::_,hk,h4|_::_,[],hk,h4|[_],_::_::_,hk,h4|_::_::_,[_],hk,h4=>simp at h4
 · obtain ⟨i,e,r,l,fr,_,_,rfl,hr,hc⟩:=hG p X hp
   rcases hc with ⟨o,g,_,ho,hb,hγ,_⟩|⟨rfl,hγ⟩
   · have hO:bW Y o (.arr e r l g):=hR.ak o _ ho
     have hold:∀ b',blk (γ' o)=some b'→fr=true→w.heap.size≤b':=by
      intro b' hb' hfr
      subst hfr
      have hg:g=true:=hb
      subst hg
      obtain ⟨_,_,_,hn,_⟩:=hO
      exact hn b' hb' rfl
     refine ⟨bW.aaT (Y:=Y) (Z:=Z) hO hγ rfl (fun b' hb'=>⟨Tn b' hb'.1,fun hfr=>hb'.2 ?_⟩) hold,fun b' hb'=>?_⟩
     · subst hfr;exact hb
     · rw [hγ] at hb'
       obtain ⟨h1,h2⟩:=hR.lt o _ b' ho hb'
       refine ⟨h1,h2,fun q y hq=>?_⟩
       obtain ⟨hγq,cs,cs0,_,h3,_⟩:=hbq q y hq
       rw [← hγq]
       refine hR.sep o _ q _ b' ho h3 ?_ hb'
       intro e;subst e;rw [ho] at h3;cases h3
   · refine ⟨⟨[],⟨by simp, .inl ⟨hγ,rfl⟩⟩,hr,(fun b' hb'=>by have h0:blk (γ2 p)=some b':=hb';rw [hγ] at h0;cases h0),fun i x hi=>by simp at hi⟩,fun b' hb'=>by rw [hγ] at hb';cases hb'⟩
 · obtain ⟨i,e,r,l,fr,hi,_,_,_,hc⟩:=hG p X hp
   obtain ⟨j,e',r',l',fr',hj,_,_,_,hc'⟩:=hG q X' hq
   rcases hc with ⟨o,g,hn,ho,_,hγ,_⟩|⟨_,hγ⟩
   · rcases hc' with ⟨o',g',hn',ho',_,QM,_⟩|⟨_,QM⟩
     · rw [hγ] at hb1
       rw [QM] at hb2
       have:o≠o':=by
        intro e
        subst e
        have:=Po hnd _ _ _ hn hn'
        omega
       exact hR.sep o _ o' _ b' ho ho' this hb1 hb2
     · rw [QM] at hb2;cases hb2
   · rw [hγ] at hb1;cases hb1
 · obtain ⟨hγ,cs,cs0,rfl,h3,h4,h5,h6⟩:=hbq q y hq
   have pW:γ2 q=γ q:=by
    show (match o7 aX q with|some _=>γ q|none=>fv.getD (q-k) undef)=γ q
    rw [hq]
   refine ⟨pW,?_⟩
   obtain ⟨b',arr,t,k1,k2,k3⟩:=hR.ak q _ h3
   refine ⟨b',arr,t,?_,k2,FU (Y:=Y) (Z:=Z) rfl aqW _ _ h5 (h6 _ _ k3)⟩
   show γ2 q=_
   rw [pW,← hγ]
   exact k1
theorem ao5 {G:kW} (hE:EnvB P G Θ Γ) (hm:P.follows .mixedOrders=true) {f:FuncId} {fn:Func} {c:Code} (hf:P.funcs[f]? =some fn) (hb:fn.body=some c) (H:Hints)
 {sh:List jl} {dQ:List vJ} {F:kT sh→Prop×(su dQ×qx sh→Prop)} (hn:Nat.ble sh.length fn.ntmps=true) (hne:∀ x,(F x).1→∃ t,(F x).2 t)
 (hwalk:∀ x,KP sh x→(F x).1→G5 Θ Γ H c (amH Θ fn.results.toList sh dQ (F x).2) (Fg fn.ntmps (xU sh x))):lq P G f (xu sh dQ F):=by
 intro args p ρ hcon hp
 unfold xu at hcon
 split at hcon
 case h_2=>cases hcon
 next x hx=>
 cases hcon
 refine ⟨hne x hp,fun k S γ vs w hG hrep sZ hsep hap=>?_⟩
 have hlen:=(KL hx).1
 rw [JL] at hlen
 have hn':args.length≤fn.ntmps:=by rw [← hlen];simpa [Nat.ble_eq] using hn
 have hin:KP sh x:=Yz (fun o X ho=>(sZ o X ho).1) sh args x vs.toList 0 (fun j a h=>by rwa [Nat.zero_add]) hx hrep
 have hR0:=agG (S:=S) fn.ntmps hn' hrep (fun o X ho=>⟨(sZ o X ho).1,fun b hb=>((sZ o X ho).2 b hb).1⟩) hsep
 have hR1:=hR0.covers (Vt hx fn.ntmps)
 refine calls_of_wp hf hb (Yx ⟨hE,hG,fun b hb=>?_⟩ hm H c _ _ _ _ _ _ hR1 (hwalk x hin hp) ?_)
 · obtain ⟨o,X,ho,hb⟩:=hb
   exact ((sZ o X ho).2 b hb).2
 intro e s γ' a' w' he hR
 have hret:∃ (us:List Value) (t:su dQ×qx sh),(fn.results.mapM (Jq a'.tmps)).run P w'= .ok us.toArray w'∧(F x).2 t∧∃ γ2,
  bG ⟨w',w.heap.size,uI S args (kM sh t.2) γ,γ2,look ((⟨jd dQ t.1,none⟩:Out).take k).2⟩ ((⟨jd dQ t.1,none⟩:Out).take k).1 (if h:us.toArray.size=1 then us.toArray[0] else .tuple us.toArray)∧
  (∀ o x',look ((⟨jd dQ t.1,none⟩:Out).take k).2 o=some x'→bW ⟨w',w.heap.size,uI S args (kM sh t.2) γ,γ2,look ((⟨jd dQ t.1,none⟩:Out).take k).2⟩ o x'∧
    ∀ b,blk (γ2 o)=some b→b<w'.heap.size∧(w.heap.size≤b∨zo (dU args) γ b)∧∀ q y,o7 (kM sh t.2) q=some y→blk (γ q)≠some b)∧
  (∀ o x' q y b,look ((⟨jd dQ t.1,none⟩:Out).take k).2 o=some x'→look ((⟨jd dQ t.1,none⟩:Out).take k).2 q=some y→o≠q→blk (γ2 o)=some b→blk (γ2 q)≠some b)∧
  (∀ o x',o7 (kM sh t.2) o=some x'→γ2 o=γ o∧bW ⟨w',w.heap.size,uI S args (kM sh t.2) γ,γ2,look ((⟨jd dQ t.1,none⟩:Out).take k).2⟩ o x'):=by
  have he':(e= .normal∨e= .ret)∧amH Θ fn.results.toList sh dQ (F x).2 .ret s:=by
   cases e with
   |normal=>exact ⟨.inl rfl,he⟩
   |ret=>exact ⟨.inr rfl,he⟩
   |_=>exact he.elim
  have he2:=he'.2
  simp only [amH] at he2
  split at he2
  · next svs awX=>
    split at he2
    · next vs' hvs'=>
      split at he2
      · next d b hnd hd hb'=>
        have hRf:=hR.freeze (agF s (Dw dQ svs))
        obtain ⟨us,hus,hrs⟩:=MG hE.types hRf _ _ hvs'
        refine ⟨us,(d,b),?_,he2,avs hx hRf hrs hnd hd hb' (hap (d,b) he2)⟩
        rw [Array.mapM_eq_mapM_toList,Sem.run_map,hus]
        rfl
      · exact he2.elim
    · exact he2.elim
  · exact he2.elim
 obtain ⟨us,t,hus,ht,γ2,h1,h2,h3,h4⟩:=hret
 have hfin:bodyPost P fn (fun e w'=>∃ t,(F x).2 t∧Ox S args γ w k ⟨jd dQ t.1,none⟩ (kM sh t.2) e w') .ret a' w':=by
  refine ⟨hR.defers,if h:us.toArray.size=1 then us.toArray[0] else .tuple us.toArray,?_,t,ht,_,γ2,rfl,hR.os,hR.tape,hR.output,hR.grow,hR.kept,h1,h2,h3,h4⟩
  rw [TB,Sem.run_bind,hus]
  simp only [Result.andThen_ok,Sem.run_pure]
 cases e with
 |normal=>exact hfin
 |ret=>exact hfin
 |_=>exact he.elim
end Go.Fw
namespace Go.Fw
open Go
variable {P:Program} {w0:World} {M:Nat→Prop} {T:Ext} {γ γ':Nat→Value} {st:St} {a:Act} {w w':World} {Θ:gG} {Γ:aC}
def amI (rv:List ResultVar) (l:List iF) (K:nY l→Prop) (e:Exit) (st:St):Prop:=
 match e with
 | .normal| .ret=>match rv with
   |[.tmp t]=>match st.tmps t with
    | .dL o off=>match Nat.beq off 0,(st.freeze (OD st)).ak o with
      |true,some (.var cs)=>match cs.flatMap Cell.refs,kL l cs with
       |[],some d=>K d
       |_,_=>False
      |_,_=>False
    |_=>False
   |_=>False
 |_=>False
def loses (sh:List jl):List Eff:=sh.map fun _=> .lose
def ar1 (sh:List jl) (l:List iF) (F:kT sh→Prop×(nY l→Prop)):Ir:=fun args=>
 match je sh args with
 |some x=>some ((F x).1,⟨nY l,(F x).2,fun t=>⟨[],some (iJ l t)⟩,fun _=>loses sh⟩)
 |none=>none
theorem TD (sh:List jl) (q:Nat):o7 (loses sh) q=none:=by
 unfold o7 loses
 rw [List.getElem?_map]
 cases sh[q / 64]? <;>rfl
theorem QX:∀ (l:List iF) (cs:List Cell) (d:nY l),kL l cs=some d→cs.flatMap Cell.refs=[]→(iJ l d).flatMap Cell.refs=[]
 |[],[],_,_,_=>rfl
 |c::l,x::xs,d,h,hn=>by
  rw [kL] at h
  rw [List.flatMap_cons,List.append_eq_nil_iff] at hn
  split at h
  · next p q hp hq=>
    cases h
    show ((c.cell p)::iJ l q).flatMap Cell.refs=[]
    rw [List.flatMap_cons,List.append_eq_nil_iff]
    refine ⟨?_,QX l xs q hq hn.2⟩
    cases c with
    |ref o=>
     cases x<;>simp [iF.read,Cell.refs] at hp hn
    |_=>rfl
  · cases h
 |[],_::_,_,h,_=>by simp [kL] at h
 |_::_,[],_,h,_=>by simp [kL] at h
theorem atl {G:kW} (hE:EnvB P G Θ Γ) (hm:P.follows .mixedOrders=true) {f:FuncId} {fn:Func} {c:Code} (hf:P.funcs[f]? =some fn) (hb:fn.body=some c) (H:Hints)
 {sh:List jl} {l:List iF} {F:kT sh→Prop×(nY l→Prop)} (hn:Nat.ble sh.length fn.ntmps=true) (hne:∀ x,(F x).1→∃ t,(F x).2 t)
 (hwalk:∀ x,KP sh x→(F x).1→G5 Θ Γ H c (amI fn.results.toList l (F x).2) (Fg fn.ntmps (xU sh x))):lq P G f (ar1 sh l F):=by
 intro args p ρ hcon hp
 unfold ar1 at hcon
 split at hcon
 case h_2=>cases hcon
 next x hx=>
 cases hcon
 refine ⟨hne x hp,fun k S γ vs w hG hrep sZ hsep hap=>?_⟩
 have hlen:=(KL hx).1
 rw [JL] at hlen
 have hn':args.length≤fn.ntmps:=by rw [← hlen];simpa [Nat.ble_eq] using hn
 have hin:KP sh x:=Yz (fun o X ho=>(sZ o X ho).1) sh args x vs.toList 0 (fun j a h=>by rwa [Nat.zero_add]) hx hrep
 have hR0:=agG (S:=S) fn.ntmps hn' hrep (fun o X ho=>⟨(sZ o X ho).1,fun b hb=>((sZ o X ho).2 b hb).1⟩) hsep
 have hR1:=hR0.covers (Vt hx fn.ntmps)
 refine calls_of_wp hf hb (Yx ⟨hE,hG,fun b hb=>?_⟩ hm H c _ _ _ _ _ _ hR1 (hwalk x hin hp) ?_)
 · obtain ⟨o,X,ho,hb⟩:=hb
   exact ((sZ o X ho).2 b hb).2
 intro e s γ' a' w' he hR
 have he':amI fn.results.toList l (F x).2 .ret s:=by
  cases e with
  |normal=>exact he
  |ret=>exact he
  |_=>exact he.elim
 have hfin:bodyPost P fn (fun e w'=>∃ t,(F x).2 t∧Ox S args γ w k ⟨[],some (iJ l t)⟩ (loses sh) e w') .ret a' w':=by
  simp only [amI] at he'
  split at he'
  case h_2=>exact he'.elim
  next t hrv=>
  split at he'
  case h_2=>exact he'.elim
  next o off htm=>
  split at he'
  case h_2=>exact he'.elim
  next cs hoff hcs=>
  split at he'
  case h_2=>exact he'.elim
  next d hnr hd=>
  have hoff:=Nat.eq_of_beq_eq_true hoff
  subst hoff
  have hRf:=hR.freeze (OD s)
  have hv:=hR.tmps t
  rw [htm] at hv
  obtain ⟨b,cs0,_,hγ,hval⟩:=hv
  obtain ⟨b',arr,ty,g1,g2,g3⟩:=hRf.ak o _ hcs
  have g1:γ' o= .pointer (some ⟨b',0,none⟩):=g1
  have hγ:γ' o= .pointer (some ⟨b,0,none⟩):=hγ
  rw [hγ] at g1
  cases g1
  have hblk:blk (γ' o)=some b:=by rw [hγ];rfl
  have hlt:=hRf.lt o _ b hcs hblk
  let γ2:Nat→Value:=fun _=>γ' o
  let Z:V:=⟨w',w.heap.size,uI S args (loses sh) γ,γ2,look (Out.take k ⟨[],some (iJ l d)⟩).2⟩
  have hlook:∀ q y,look (Out.take k ⟨[],some (iJ l d)⟩).2 q=some y→q=k-1∧y= .var (iJ l d):=by
   intro q y hq
   have hmem:=Aj _ q y hq
   have:(q,y)=(k-1, .var (iJ l d)):=by simpa [Out.take] using hmem
   exact ⟨congrArg Prod.fst this,congrArg Prod.snd this⟩
  have Tn:∀ fr b',(ax w (Yy args γ S) γ' (s.freeze (OD s)) w').dP fr b'→Z.dP fr b':=by
   intro fr b' hb'
   refine ⟨⟨hb'.1.1,fun hlt'=>⟨hb'.1.2.1 hlt',fun q y hq=>by rw [TD] at hq;cases hq⟩,fun q y hq=>?_⟩,hb'.2⟩
   exact hb'.1.2.2 o _ hcs
  have hcells:au Z (iJ l d) arr.toList:=
   FU (Y:=ax w (Yy args γ S) γ' (s.freeze (OD s)) w') (Z:=Z) rfl Tn _ _ (QX l cs d hd hnr) (Fb l cs d _ hd g3)
  have hself:look (Out.take k ⟨[],some (iJ l d)⟩).2 (k-1)=some (.var (iJ l d)):=by simp [Out.take,look]
  refine ⟨hR.defers,a'.tmps.getD t undef,?_,d,he',_,γ2,rfl,hR.os,hR.tape,hR.output,hR.grow,hR.kept,?_,fun q y hq=>?_,fun q y q' y' b' hq hq' hne'=>?_,fun q y hq=>by rw [TD] at hq;cases hq⟩
  · have:fn.results=#[.tmp t]:=by apply Array.ext';simpa using hrv
    have hmap:(Array.mapM (Jq a'.tmps) #[ResultVar.tmp t]).run P w'= .ok #[a'.tmps.getD t undef] w':=by
     rw [Array.mapM_eq_mapM_toList,Sem.run_map]
     simp only [List.mapM_cons,List.mapM_nil,Jq]
     rfl
    rw [TB,this,Sem.run_bind,hmap]
    rfl
  · exact ⟨b,iJ l d,hself,hγ,hval⟩
  · obtain ⟨rfl,rfl⟩:=hlook q y hq
    refine ⟨⟨b,arr,ty,hγ,g2,hcells⟩,fun b' hb'=>?_⟩
    have hb':blk (γ' o)=some b':=hb'
    rw [hblk] at hb'
    cases hb'
    exact ⟨hlt.1,hlt.2,fun q y hq=>by rw [TD] at hq;cases hq⟩
  · obtain ⟨rfl,_⟩:=hlook q y hq
    obtain ⟨rfl,_⟩:=hlook q' y' hq'
    exact (hne' rfl).elim
 cases e with
 |normal=>exact hfin
 |ret=>exact hfin
 |_=>exact he.elim
end Go.Fw
namespace Go.Fw
open Go
def CT.isZero:CT→Value→Bool
 | .int k, .int l n=>decide (k=l)&&decide (n=0)
 | .bool, .bool b=>!b
 | .str, .string s=>s.data.toList.isEmpty
 | .sl _ _, .slice none 0 0=>true
 |_,_=>false
def aK.QY:aK→List Value→Bool
 | .nil,[]=>true
 | .cons c r,v::vs=>c.isZero v&&r.QY vs
 |_,_=>false
theorem CT.aqX:∀ (c:CT) (v:Value),c.isZero v=true→v=c.ajz:=by
 intro c v h
 unfold CT.isZero at h
 split at h
 · simp at h;rw [h.1,h.2];rfl
 · simp at h;subst h;rfl
 · next s=>
   obtain ⟨⟨l⟩⟩:=s
   simp at h
   subst h;rfl
 · rfl
 · cases h
theorem aK.agK:∀ (r:aK) (vs:List Value),r.QY vs=true→vs=r.l9
 | .nil,[],_=>rfl
 | .cons c r,v::vs,h=>by
   rw [QY,Bool.and_eq_true] at h
   rw [aK.l9,CT.aqX c v h.1,aK.agK r vs h.2]
 | .nil,_::_,h| .cons _ _,[],h=>by simp [QY] at h
def anu:TypeDesc→TypeDesc→Bool
 | .int k, .int l=>decide (k=l)
 | .bool, .bool=>true
 | .string, .string=>true
 | .slice e, .slice f=>Nat.beq e f
 |_,_=>false
theorem aqY:∀ (c d:TypeDesc),anu c d=true→c=d:=by
 intro c d h
 unfold anu at h
 split at h
 · rw [of_decide_eq_true h]
 · rfl
 · rfl
 · rw [Nat.eq_of_beq_eq_true h]
 · cases h
def MH (P:Program):List (Nat×TypeId)→List Field→Bool
 |[],[]=>true
 |(o,t)::r,f::fs=>Nat.beq o f.offset&&Nat.beq t f.type&&(P.info? f.type).isSome&&MH P r fs
 |_,_=>false
theorem ac7 {P:Program}:∀ (l:List (Nat×TypeId)) (fs:List Field),MH P l fs=true→l=fs.map (fun f=>(f.offset,f.type))∧∀ f∈fs,(P.info? f.type).isSome=true
 |[],[],_=>⟨rfl,by simp⟩
 |(o,t)::r,f::fs,h=>by
  rw [MH,Bool.and_eq_true,Bool.and_eq_true,Bool.and_eq_true] at h
  obtain ⟨⟨⟨h1,h2⟩,h3⟩,h4⟩:=h
  obtain ⟨e,hall⟩:=ac7 r fs h4
  refine ⟨by rw [List.map_cons,← e,Nat.eq_of_beq_eq_true h1,Nat.eq_of_beq_eq_true h2],fun g hg=>?_⟩
  rcases List.mem_cons.1 hg with rfl|hg
  · exact h3
  · exact hall g hg
 |[],_::_,h|_::_,[],h=>by simp [MH] at h
def aqZ (P:Program) (t:TypeId) (ti:TI):Bool:=
 match ti.kind,P.underlying t with
 | .scalar,some d=>match ti.cells.desc with|some c=>anu c d|none=>false
 | .str,some .string=>ti.cells.beq (.cons .str .nil)
 | .slice e,some (.slice f)=>Nat.beq e f&&(match ti.cells with| .cons (.sl g _) .nil=>Nat.beq g e|_=>false)
 | .struct fs,some (.struct Bf)=>MH P fs Bf.toList
 |_,_=>false
def ao6 (ti:TI) (z:Value):Bool:=match ti.kind with
 | .struct _=>true
 |_=>z.oneCell'
def ajJ (P:Program) (t:TypeId) (ti:TI):Bool:=
 match P.info? t with
 |some i=>match i.zero with
  |some z=>Nat.beq i.size ti.cells.len&&Nat.beq i.bytes ti.bytes&&ti.cells.QY z.cells.toList&&ao6 ti z&&aqZ P t ti&&Nat.ble ti.bytes 4096&&(!ti.cmp||apF P t ti.cells)
  |none=>false
 |none=>false
theorem nR.ar2 {P:Program} {t:TypeId} {ti:TI} (h:ajJ P t ti=true):nR P t ti:=by
 unfold ajJ at h
 split at h
 · next i hi=>
   split at h
   · next z hz=>
     simp only [Bool.and_eq_true] at h
     obtain ⟨⟨⟨⟨⟨⟨h1,h2⟩,h3⟩,h4⟩,h5⟩,h6⟩,h7⟩:=h
     refine ⟨⟨i,z,hi,Nat.eq_of_beq_eq_true h1,Nat.eq_of_beq_eq_true h2,hz,aK.agK _ _ h3,fun hagg=>?_⟩,?_,by simpa [Nat.ble_eq] using h6,fun e w s u X xs ys vs us b hf hx hy he=>ate (by rw [e] at h7;simpa using h7) w s u X xs ys vs us b hf hx hy he⟩
     · unfold ao6 at h4
       unfold TI.agg at hagg
       split at h4
       · next hk=>rw [hk] at hagg;cases hagg
       · exact GL z h4
     · unfold aqZ at h5
       split at h5
       · next d hk hu=>
         rw [hk]
         split at h5
         · next c hc=>exact ⟨d,by rw [hc,aqY c d h5],hu⟩
         · cases h5
       · next hk hu=>rw [hk];exact ⟨hu,aK.eq_of_beq _ _ h5⟩
       · next e f hk hu=>
         rw [hk]
         rw [Bool.and_eq_true] at h5
         have hef:=Nat.eq_of_beq_eq_true h5.1
         subst hef
         refine ⟨hu,?_⟩
         have h52:=h5.2
         split at h52
         · next g r hg=>exact ⟨r,by rw [hg,Nat.eq_of_beq_eq_true h52]⟩
         · cases h52
       · next fs Bf hk hu=>
         rw [hk]
         obtain ⟨e,hall⟩:=ac7 _ _ h5
         exact ⟨Bf,hu,e,hall⟩
       · cases h5
   · cases h
 · cases h
def QZ (P:Program):List (Nat×TI)→Bool
 |[]=>true
 |(t,ti)::r=>ajJ P t ti&&QZ P r
theorem anv {P:Program}:∀ {l:List (Nat×TI)},QZ P l=true→∀ t ti,agC l t=some ti→nR P t ti
 |[],_,t,ti,h=>by cases h
 |(i,x)::r,hc,t,ti,h=>by
  rw [QZ,Bool.and_eq_true] at hc
  rw [agC] at h
  cases hb:Nat.beq t i with
  |true=>rw [hb] at h;cases h;rw [Nat.eq_of_beq_eq_true hb];exact .ar2 hc.1
  |false=>rw [hb] at h;exact anv hc.2 t ti h
def aaY (fn:Func):Bool:=fn.body.isSome&&!(fn.name== "runtime.NumGoroutine")
theorem yF {P:Program} {f:FuncId} {fn:Func} (hf:P.funcs[f]? =some fn) (hc:aaY fn=true):tq P f:=by
 intro args w
 unfold aaY at hc
 rw [Bool.and_eq_true] at hc
 have h1:(fn.name== "runtime.NumGoroutine")=false:=by simpa using hc.2
 have h2:fn.body.isNone=false:=by cases hb:fn.body with|none=>rw [hb] at hc;simp at hc|some _=>rfl
 unfold callFunc
 simp only [Sem.run_bind,run_program,Result.andThen_ok,hf,h1,h2,Bool.false_eq_true,if_false,Sem.run_pure]
def aq0 (P:Program) (G:kW) (f:FuncId):Pj→Prop
 | .pure c=>uw P G f c∧tq P f
 | .eff _ c=>lq P G f c∧tq P f
theorem aq1 {P:Program} {G:kW} {Θ:gG} (hT:∀ t ti,Θ t=some ti→nR P t ti):∀ {l:List (Nat×Pj)},(∀ x∈l,aq0 P G x.1 x.2)→EnvB P G Θ (aA l)
 |[],_=>⟨hT,(fun f con h=>by cases h),(fun f ms con h=>by cases h)⟩
 |(i,c)::r,h=>by
  have ih:=aq1 (G:=G) hT fun x hx=>h x (List.mem_cons_of_mem _ hx)
  refine ⟨hT,fun f con hf=>?_,fun f ms con hf=>?_⟩
  · rw [aA] at hf
    cases hb:Nat.beq f i with
    |true=>rw [hb] at hf;cases hf;rw [Nat.eq_of_beq_eq_true hb];exact h (i, .pure con) List.mem_cons_self
    |false=>rw [hb] at hf;exact ih.cons f con hf
  · rw [aA] at hf
    cases hb:Nat.beq f i with
    |true=>rw [hb] at hf;cases hf;rw [Nat.eq_of_beq_eq_true hb];exact h (i, .eff ms con) List.mem_cons_self
    |false=>rw [hb] at hf;exact ih.amF f ms con hf
end Go.Fw
namespace Go.Fw
open Go
structure PA where
 n:Nat
 sh:List jE
 dQ:List yD
 F:pJ sh→Prop×zy dQ
structure XA where
 n:Nat
 sh:List jl
 dQ:List vJ
 F:kT sh→Prop×(su dQ×qx sh→Prop)
structure QA where
 n:Nat
 sh:List jl
 dQ:List iF
 F:kT sh→Prop×(nY dQ→Prop)
def PA.e (q:PA):Nat×Pj:=(q.n, .pure (EJ q.sh q.dQ q.F))
def XA.e (q:XA):Nat×Pj:=(q.n, .eff (EZ q.sh) (xu q.sh q.dQ q.F))
def QA.e (q:QA):Nat×Pj:=(q.n, .eff (EZ q.sh) (ar1 q.sh q.dQ q.F))
def ai (P:Program) (G:kW) (x:Nat×Pj):Prop:=aq0 P G x.1 x.2
def aq2 (P:Program) (G:kW):List (Nat×Pj)→Prop
 |[]=>True
 |x::l=>ai P G x∧aq2 P G l
theorem aj {P:Program} {G:kW} {l':List (Nat×TI)} (hT:QZ P l'=true) {l:List (Nat×Pj)} (h:aq2 P G l):EnvB P G (agC l') (aA l):=
 aq1 (anv hT) (by
  induction l with
  |nil=>exact fun x hx=>by cases hx
  |cons y l ih=>exact List.forall_mem_cons.2 ⟨h.1,ih h.2⟩)
def ajK:(l:List iF)→(nY l→Prop)→Prop
 |[],p=>p ()
 |c::r,p=>∀ x:c.den,ajK r fun y=>p (x,y)
theorem Q5:∀ {l:List iF} {p:nY l→Prop},ajK l p→∀ x,p x
 |[],_,h,()=>h
 |_::_,_,h,(x,y)=>Q5 (h x) y
def apZ:(l:List (List iF))→(Dv l→Prop)→Prop
 |[],p=>p ()
 |c::r,p=>ajK c fun x=>apZ r fun y=>p (x,y)
theorem anw:∀ {l:List (List iF)} {p:Dv l→Prop},apZ l p→∀ x,p x
 |[],_,h,()=>h
 |_::_,_,h,(x,y)=>anw (Q5 h x) y
def ar4:(s:jE)→(s.den→Prop)→Prop
 | .v (.one c),p=>∀ x:c.den,p x
 | .v (.agg l),p=>ajK l p
 | .kp l,p=>ajK l p
 | .fn _ l,p=>apZ l p
theorem ao7:∀ {s:jE} {p:s.den→Prop},ar4 s p→∀ x,p x
 | .v (.one _),_,h,x=>h x
 | .v (.agg _),_,h,x=>Q5 h x
 | .kp _,_,h,x=>Q5 h x
 | .fn _ _,_,h,x=>anw h x
def ap0:(l:List jE)→(pJ l→Prop)→Prop
 |[],p=>p ()
 |s::r,p=>ar4 s fun x=>ap0 r fun y=>p (x,y)
theorem anx:∀ {l:List jE} {p:pJ l→Prop},ap0 l p→∀ x,p x
 |[],_,h,()=>h
 |_::_,_,h,(x,y)=>anx (ao7 h x) y
def atU:(s:jl)→(s.den→Prop)→Prop
 | .p s,p=>ar4 s p
 | .own _ r,p=>∀ x:List r.den,p x
 | .ptr l,p=>ajK l p
theorem atm:∀ {s:jl} {p:s.den→Prop},atU s p→∀ x,p x
 | .p _,_,h,x=>ao7 h x
 | .own _ _,_,h,x=>h x
 | .ptr _,_,h,x=>Q5 h x
def amJ:(l:List jl)→(kT l→Prop)→Prop
 |[],p=>p ()
 |s::r,p=>atU s fun x=>amJ r fun y=>p (x,y)
theorem aef:∀ {l:List jl} {p:kT l→Prop},amJ l p→∀ x,p x
 |[],_,h,()=>h
 |_::_,_,h,(x,y)=>aef (atm h x) y
abbrev LP {α:Type} (x:α) (f:(α→Prop)→(α→Nat)→α→Prop):Prop:=∃ (I:α→Prop),∃ (μ:α→Nat),I x∧∀ (y:α),I y→f I μ y
def H0:Hints:=hints [] [] [] [] []
def DJ (P:Program) (n:Nat):Func:=match P.funcs[n]? with|some f=>f|none=>default
def Jt (P:Program) (n k:Nat):Bool:=P.funcs[n]?.isSome&&aaY (DJ P n)&&Nat.ble k (DJ P n).ntmps
theorem YA {P:Program} {n k:Nat} (h:Jt P n k=true):P.funcs[n]? =some (DJ P n)∧(DJ P n).body=some (codeOf (DJ P n))∧tq P n∧Nat.ble k (DJ P n).ntmps=true:=by
 simp only [Jt,Bool.and_eq_true] at h
 obtain ⟨⟨h1,h2⟩,h3⟩:=h
 have e:P.funcs[n]? =some (DJ P n):=by
  unfold DJ
  cases hf:P.funcs[n]? with
  |some f=>rfl
  |none=>rw [hf] at h1;cases h1
 refine ⟨e,?_,yF e h2,h3⟩
 have h4:=h2
 unfold aaY at h4
 rw [Bool.and_eq_true] at h4
 unfold codeOf
 cases hb:(DJ P n).body with
 |some c=>rfl
 |none=>rw [hb] at h4;cases h4.1
def PA.goal (q:PA) (g:(zy q.dQ→Prop)→Prop) (x:pJ q.sh):Prop:=KI q.sh x→(q.F x).1→g fun r=>r=(q.F x).2
def XA.goal (q:XA) (g:(su q.dQ×qx q.sh→Prop)→Prop) (x:kT q.sh):Prop:=KP q.sh x→(q.F x).1→g (q.F x).2
def QA.goal (q:QA) (g:(nY q.dQ→Prop)→Prop) (x:kT q.sh):Prop:=KP q.sh x→(q.F x).1→g (q.F x).2
variable {P:Program} {Θ:gG} {Γ:aC} {G:kW}
theorem PA.ok {q:PA} (hm:P.follows .mixedOrders=true) (hE:EnvB P G Θ Γ) (H:Hints) {p:Prop}
 (hp:(bif Jt P q.n q.sh.length then ap0 q.sh fun x=>q.goal (fun K=>G5 Θ Γ H (codeOf (DJ P q.n)) (agD Θ (DJ P q.n).results.toList q.dQ K) (entry (DJ P q.n).ntmps (zq q.sh x))) x else False)=p) (h:p):ai P G q.e:=by
 subst hp
 cases hc:Jt P q.n q.sh.length with
 |false=>rw [hc] at h;exact h.elim
 |true=>
  rw [hc] at h
  obtain ⟨h1,h2,h3,h4⟩:=YA hc
  exact ⟨ajF hE hm h1 h2 H h4 fun x hi hx=>anx h x hi hx,h3⟩
theorem XA.ok {q:XA} (hm:P.follows .mixedOrders=true) (hE:EnvB P G Θ Γ) (H:Hints) (hne:∀ x,(q.F x).1→∃ t,(q.F x).2 t) {p:Prop}
 (hp:(bif Jt P q.n q.sh.length then amJ q.sh fun x=>q.goal (fun K=>G5 Θ Γ H (codeOf (DJ P q.n)) (amH Θ (DJ P q.n).results.toList q.sh q.dQ K) (Fg (DJ P q.n).ntmps (xU q.sh x))) x else False)=p) (h:p):ai P G q.e:=by
 subst hp
 cases hc:Jt P q.n q.sh.length with
 |false=>rw [hc] at h;exact h.elim
 |true=>
  rw [hc] at h
  obtain ⟨h1,h2,h3,h4⟩:=YA hc
  exact ⟨ao5 hE hm h1 h2 H h4 hne fun x hi hx=>aef h x hi hx,h3⟩
theorem QA.ok {q:QA} (hm:P.follows .mixedOrders=true) (hE:EnvB P G Θ Γ) (H:Hints) (hne:∀ x,(q.F x).1→∃ t,(q.F x).2 t) {p:Prop}
 (hp:(bif Jt P q.n q.sh.length then amJ q.sh fun x=>q.goal (fun K=>G5 Θ Γ H (codeOf (DJ P q.n)) (amI (DJ P q.n).results.toList q.dQ K) (Fg (DJ P q.n).ntmps (xU q.sh x))) x else False)=p) (h:p):ai P G q.e:=by
 subst hp
 cases hc:Jt P q.n q.sh.length with
 |false=>rw [hc] at h;exact h.elim
 |true=>
  rw [hc] at h
  obtain ⟨h1,h2,h3,h4⟩:=YA hc
  exact ⟨atl hE hm h1 h2 H h4 hne fun x hi hx=>aef h x hi hx,h3⟩
end Go.Fw
namespace Go.Fw
open Go
variable {P:Program} {G:kW} {f:FuncId}
abbrev iq:List UInt8:=[]
abbrev Bj:List (Int×Unit):=[]
theorem uw.weaken {con YB:Vl} (h:uw P G f con) (hc:∀ args p out,YB args=some (p,out)→p→∃ q,con args=some (q,out)∧q):uw P G f YB:=by
 intro args p out k S vs w hcon hp hG hrep
 obtain ⟨q,h1,h2⟩:=hc args p out hcon hp
 exact h args q out k S vs w h1 h2 hG hrep
theorem lq.weaken {con YB:Ir} (h:lq P G f con) (hc:∀ args p ρ,YB args=some (p,ρ)→p→∃ q,con args=some (q,ρ)∧q):lq P G f YB:=by
 intro args p ρ hcon hp
 obtain ⟨q,h1,h2⟩:=hc args p ρ hcon hp
 exact h args q ρ h1 h2
theorem aq3 {sh:List jE} {dQ:List yD} {F:pJ sh→Prop×zy dQ} (Fr Fs:Nat→pJ sh→Prop×zy dQ) (h0:∀ x,¬ (Fr 0 x).1) (hs:∀ n x,Fr (n+1) x=Fs n x)
 (hf:∀ x,(F x).1→∃ n,(Fr n x).1) (he:∀ n x,(Fr n x).2=(F x).2) (step:∀ n,uw P G f (EJ sh dQ (Fr n))→uw P G f (EJ sh dQ (Fs n))):uw P G f (EJ sh dQ F):=by
 have all:∀ n,uw P G f (EJ sh dQ (Fr n)):=by
  intro n
  induction n with
  |zero=>
   intro args p out k S vs w hcon hp
   unfold EJ KJ at hcon
   split at hcon
   · next x _=>
     have e:(Fr 0 x).1=p:=congrArg Prod.fst (Option.some.inj hcon)
     exact absurd (e.symm▸hp) (h0 x)
   · cases hcon
  |succ n ih=>
   have:=step n ih
   have e:Fr (n+1)=Fs n:=funext (hs n)
   rw [e];exact this
 intro args p out k S vs w hcon hp hG hrep
 have KQ:=hcon
 unfold EJ KJ at KQ
 split at KQ
 · next x hx=>
   have e:=Option.some.inj KQ
   have e1:(F x).1=p:=congrArg Prod.fst e
   obtain ⟨n,hn⟩:=hf x (e1.symm▸hp)
   refine all n args (Fr n x).1 out k S vs w ?_ hn hG hrep
   unfold EJ KJ
   rw [hx]
   show some ((Fr n x).1,_)=_
   rw [he n x]
   exact congrArg (fun z=>some ((Fr n x).1,z)) (congrArg Prod.snd e)
 · cases KQ
theorem atn {sh:List jl} {dQ:List vJ} {F:kT sh→Prop×(su dQ×qx sh→Prop)} (Fr Fs:Nat→kT sh→Prop×(su dQ×qx sh→Prop)) (h0:∀ x,¬ (Fr 0 x).1) (hs:∀ n x,Fr (n+1) x=Fs n x)
 (hf:∀ x,(F x).1→∃ n,(Fr n x).1) (he:∀ n x,(Fr n x).2=(F x).2) (step:∀ n,lq P G f (xu sh dQ (Fr n))→lq P G f (xu sh dQ (Fs n))):lq P G f (xu sh dQ F):=by
 have all:∀ n,lq P G f (xu sh dQ (Fr n)):=by
  intro n
  induction n with
  |zero=>
   intro args p ρ hcon hp
   unfold xu at hcon
   split at hcon
   · next x _=>
     have e:(Fr 0 x).1=p:=congrArg Prod.fst (Option.some.inj hcon)
     exact absurd (e.symm▸hp) (h0 x)
   · cases hcon
  |succ n ih=>
   have:=step n ih
   have e:Fr (n+1)=Fs n:=funext (hs n)
   rw [e];exact this
 intro args p ρ hcon hp
 have KQ:=hcon
 unfold xu at KQ
 split at KQ
 · next x hx=>
   have e:=Option.some.inj KQ
   have e1:(F x).1=p:=congrArg Prod.fst e
   obtain ⟨n,hn⟩:=hf x (e1.symm▸hp)
   refine all n args (Fr n x).1 ρ ?_ hn
   unfold xu
   rw [hx]
   show some ((Fr n x).1,_)=_
   rw [he n x]
   exact congrArg (fun z=>some ((Fr n x).1,z)) (congrArg Prod.snd e)
 · cases KQ
end Go.Fw
namespace Go.Fw
open Go
variable {P:Program} {H:Type} {enc:TypeId×Value→H} {w:World}
def aK.app:aK→aK→aK
 | .nil,s=>s
 | .cons c r,s=> .cons c (r.app s)
def amK:(r s:aK)→r.den→s.den→(r.app s).den
 | .nil,_,_,y=>y
 | .cons _ r,s,x,y=>(x.1,amK r s x.2 y)
theorem bK.app {h:Array Obj} {S:Nat→Prop}:∀ (r s:aK) (x:r.den) (y:s.den) (vs us:List Value),bK h S r vs x→bK h S s us y→bK h S (r.app s) (vs++us) (amK r s x y)
 | .nil,s,x,y,vs,us,h1,h2=>by rw [bK] at h1;subst h1;exact h2
 | .cons c r,s,(x,x'),y,vs,us,h1,h2=>by
   rw [bK] at h1
   obtain ⟨v,vs',rfl,g1,g2⟩:=h1
   show bK h S (.cons c (r.app s)) (v::(vs'++us)) (x,amK r s x' y)
   rw [bK]
   exact ⟨v,vs'++us,rfl,g1,bK.app r s x' y vs' us g2 h2⟩
theorem add_add (a:Addr) (h:a.spot=none) (m j:Nat):(a.add m).add j=⟨a.block,a.off+m+j,none⟩:=by
 obtain ⟨b,o,sp⟩:=a
 simp only at h
 subst h
 unfold Addr.add
 by_cases hm:m=0
 · by_cases hj:j=0
   · simp [hm,hj]
   · simp [hm,hj]
 · by_cases hj:j=0
   · simp [hm,hj]
   · simp [hm,hj]
def OH (f:TypeId→Option aK):List Field→Nat→Option aK
 |[],_=>some .nil
 |x::r,off=>match f x.type with
  |some s=>match OH f r (off+s.len),Nat.beq x.offset off with
   |some u,true=>some (s.app u)
   |_,_=>none
  |none=>none
def rowOf (P:Program):Nat→TypeId→Option aK
 |0,_=>none
 |n+1,t=>match P.underlying t with
  |some (.int k)=>some (.cons (.int k) .nil)
  |some .bool=>some (.cons .bool .nil)
  |some .string=>some (.cons .str .nil)
  |some (.slice e)=>match rowOf P n e with
   |some s=>match Nat.beq s.len (P.cellsOf e)&&Nat.ble 1 s.len with
    |true=>some (.cons (.sl e s) .nil)
    |false=>none
   |none=>none
  |some (.struct fs)=>match OH (rowOf P n) fs.toList 0 with
   |some r=>match Nat.beq r.len (P.cellsOf t) with
    |true=>match fs.toList.all fun f=>match rowOf P n f.type with|some s=>Nat.beq s.len (P.cellsOf f.type)|none=>false with
     |true=>some r
     |false=>none
    |false=>none
   |none=>none
  |_=>none
theorem ao8 {α:Type} {Q:Nat→α→Prop}:∀ (n:Nat),(∀ i,i<n→∃ x,Q i x)→∃ l:List α,l.length=n∧∀ i x,l[i]? =some x→Q i x
 |0,_=>⟨[],rfl,fun i x h=>by simp at h⟩
 |n+1,h=>by
  obtain ⟨l,hl,hq⟩:=ao8 n fun i hi=>h i (by omega)
  obtain ⟨x,hx⟩:=h n (by omega)
  refine ⟨l++[x],by simp [hl],fun i y hy=>?_⟩
  rcases Nat.lt_or_ge i n with hi|hi
  · rw [List.getElem?_append_left (by omega)] at hy;exact hq i y hy
  · rw [List.getElem?_append_right (by omega)] at hy
    have:i=n:=by
     rcases Nat.lt_or_ge n i with h'|h'
     · rw [List.getElem?_eq_none (by simp;omega)] at hy;cases hy
     · omega
    subst this
    simp [hl] at hy
    rw [← hy];exact hx
theorem ao9:∀ (r s:aK),(r.app s).len=r.len+s.len
 | .nil,s=>by simp [aK.app,aK.len]
 | .cons c r,s=>by simp only [aK.app,aK.len,ao9 r s];omega
theorem agL {f:TypeId→Option aK} {S:Nat→Prop} {h:Array Obj} (cs:List Value)
 (part:∀ (t:TypeId) (r:aK) (off:Nat),f t=some r→(∃ g:Field,g.type=t∧g.offset=off)→True):∀ (fs:List Field) (off:Nat) (r:aK),OH f fs off=some r→
 (∀ g∈fs,∀ s,f g.type=some s→∃ x,bK h S s ((cs.drop g.offset).take s.len) x)→
 ∃ x,bK h S r ((cs.drop off).take r.len) x
 |[],off,r,hr,_=>by
  cases hr
  exact ⟨(),by rw [bK];simp [aK.len]⟩
 |g::fs,off,r,hr,hall=>by
  rw [OH] at hr
  split at hr
  · next s hs=>
    split at hr
    · next u hu hb=>
      cases hr
      obtain ⟨x,hx⟩:=hall g List.mem_cons_self s hs
      rw [Nat.eq_of_beq_eq_true hb] at hx
      obtain ⟨y,hy⟩:=agL cs part fs (off+s.len) u hu fun g' hg'=>hall g' (List.mem_cons_of_mem _ hg')
      refine ⟨amK s u x y,?_⟩
      have:=bK.app s u x y _ _ hx hy
      rw [ao9]
      have e:(cs.drop off).take (s.len+u.len)=(cs.drop off).take s.len++(cs.drop (off+s.len)).take u.len:=by
       rw [List.take_add,List.drop_drop]
      rw [e];exact this
    · cases hr
  · cases hr
theorem aeg:∀ (n:Nat) (t:TypeId) (r:aK),rowOf P n t=some r→∀ (m:Nat) (base:Nat) (spare:Nat→Bool) (held:Bool) (cs:List Value) (x:DataW H×List MemPlace),
 DataW.trod enc P w base spare held m t cs=some x→∃ y,bK w.heap (fun b=>b<w.heap.size) r cs y
 |0,t,r,hr=>by cases hr
 |n+1,t,r,hr=>by
  intro m base spare held cs x hx
  rw [rowOf] at hr
  split at hr
  · next k hu=>
    cases hr
    obtain ⟨i,rfl,_,hwf⟩:=DataW.trod_int hu hx
    simp only [Lit.wf,Bool.and_eq_true,decide_eq_true_eq] at hwf
    exact ⟨(i,()),by rw [bK];exact ⟨_,[],rfl,by rw [jF];exact ⟨rfl,hwf⟩,by rw [bK]⟩⟩
  · next hu=>
    cases hr
    obtain ⟨b,rfl,_⟩:=DataW.trod_bool hu hx
    exact ⟨(b,()),by rw [bK];exact ⟨_,[],rfl,by rw [jF],by rw [bK]⟩⟩
  · next hu=>
    cases hr
    obtain ⟨s,rfl,_,hs⟩:=DataW.trod_string hu hx
    refine ⟨(s.data.toList,()),by rw [bK];exact ⟨_,[],rfl,by rw [jF];exact ⟨by simp,by simpa using hs⟩,by rw [bK]⟩⟩
  · next e hu=>
    split at hr
    · next s hs=>
      split at hr
      · next hb=>
        cases hr
        rw [Bool.and_eq_true] at hb
        have hlen:=Nat.eq_of_beq_eq_true hb.1
        have hpos:1≤s.len:=by simpa [Nat.ble_eq] using hb.2
        rcases DataW.trod_slice hu hx with ⟨rfl,_⟩|⟨a,len,cap,elems,rest,k,_,rfl,_,hbase,hle,hmax,hel,hrow,_,_⟩
        · exact ⟨([],()),by rw [bK];exact ⟨_,[],rfl,by rw [jF];exact ⟨by simp, .inl ⟨rfl,none,0,rfl⟩⟩,by rw [bK]⟩⟩
        · by_cases h0:len=0
          · subst h0
            exact ⟨([],()),by rw [bK];exact ⟨_,[],rfl,by rw [jF];exact ⟨by simp, .inl ⟨rfl,some a,cap,rfl⟩⟩,by rw [bK]⟩⟩
          · have each:∀ i,i<len→∃ (ys:List Value) (z:s.den),w.cells? base (a.add (i*P.cellsOf e)) (P.cellsOf e)=some ys∧bK w.heap (fun b=>b<w.heap.size) s ys z:=by
             intro i hi
             have h1:=hrow i hi
             rw [List.getElem?_eq_getElem (by omega)] at h1
             obtain ⟨ys,hys,hy2⟩:=Option.bind_eq_some_iff.1 h1
             obtain ⟨z,hz⟩:=aeg n e s hs k base spare held ys _ hy2
             exact ⟨ys,z,hys,hz⟩
            obtain ⟨ys0,z0,hc0,hz0⟩:=each 0 (by omega)
            obtain ⟨_,hl0,hcell0⟩:=World.cells?_some hc0
            have aeh:=hcell0 0 (by omega)
            simp only [Nat.zero_mul,Addr.add,if_true] at aeh
            have avt:∃ v,ys0[0]? =some v:=⟨ys0[0]'(by omega),by simp [show 0<ys0.length by omega]⟩
            obtain ⟨v0,hv0⟩:=avt
            rw [hv0] at aeh
            unfold World.cell? at aeh
            split at aeh
            · next c ty fz hblk=>
              split at aeh
              · cases aeh
              · next hsp=>
                have hspot:a.spot=none:=by cases h:a.spot with|none=>rfl|some q=>rw [h] at hsp;simp at hsp
                have ha:a=⟨a.block,a.off,none⟩:=by cases a;simp at hspot;rw [hspot]
                have hb':a.block<w.heap.size:=by
                 obtain ⟨hlt,_⟩:=Array.getElem?_eq_some_iff.1 hblk
                 exact hlt
                have rows:∀ i,i<len→∃ z:s.den,bK w.heap (fun b=>b<w.heap.size) s ((c.toList.drop (a.off+i*s.len)).take s.len) z:=by
                 intro i hi
                 obtain ⟨ys,z,hcs,hz⟩:=each i hi
                 obtain ⟨_,hl,hcell⟩:=World.cells?_some hcs
                 refine ⟨z,?_⟩
                 have:(c.toList.drop (a.off+i*s.len)).take s.len=ys:=by
                  refine List.ext_getElem? fun j=>?_
                  rcases Nat.lt_or_ge j s.len with hj|hj
                  · rw [List.getElem?_take_of_lt hj,List.getElem?_drop]
                    have h2:=hcell j (by omega)
                    have hadd:=add_add a hspot (i*P.cellsOf e) j
                    rw [← hlen] at hadd h2
                    rw [hadd] at h2
                    unfold World.cell? at h2
                    simp only [hblk,Option.isSome_none,Bool.false_eq_true,if_false] at h2
                    rw [← h2]
                    simp
                  · rw [List.getElem?_eq_none (by simp;omega),List.getElem?_eq_none (by omega)]
                 rw [this];exact hz
                obtain ⟨l,hll,hlq⟩:=ao8 len rows
                refine ⟨(l,()),by rw [bK];exact ⟨_,[],rfl,by rw [jF];exact ⟨by omega, .inr ⟨a.block,a.off,cap,c,ty,fz,by rw [hll,← ha],by omega,hb',hblk,hlq⟩⟩,by rw [bK]⟩⟩
            · cases aeh
      · cases hr
    · cases hr
  · next fs hu=>
    split at hr
    · next r' hf=>
      split at hr
      · next hb=>
        split at hr
        · next hall=>
          cases hr
          obtain ⟨xs,k,_,_,hcl,hxl,hparts⟩:=DataW.trod_struct hu hx
          have hlen:=Nat.eq_of_beq_eq_true hb
          have:=agL (h:=w.heap) (S:=fun b=>b<w.heap.size) cs (fun _ _ _ _ _=>trivial) fs.toList 0 _ hf ?_
          · obtain ⟨y,hy⟩:=this
            refine ⟨y,?_⟩
            rw [List.drop_zero,List.take_of_length_le (by omega)] at hy
            exact hy
          · intro g hg s hs
            have hg2:=List.all_eq_true.1 hall g hg
            rw [hs] at hg2
            have hsl:=Nat.eq_of_beq_eq_true hg2
            obtain ⟨i,hi,hgi⟩:=List.mem_iff_getElem.1 hg
            have hp:=hparts i g (by rw [← hgi];simp [show i<fs.size by simpa using hi])
            rw [List.getElem?_eq_getElem (by simp at hi;omega)] at hp
            rw [hsl]
            exact aeg n g.type s hs k base spare held _ _ hp
        · cases hr
      · cases hr
    · cases hr
  · cases hr
end Go.Fw
namespace Go.Fw
open Go
variable {P:Program} {H:Type} {enc:TypeId×Value→H} {w:World}
def CT.csh:CT→iF
 | .int k=> .int k
 | .bool=> .bool
 | .str=> .str
 | .sl e r=> .sl e r false
def toC:(c:CT)→c.den→c.csh.den
 | .int _,x=>x
 | .bool,x=>x
 | .str,x=>x
 | .sl _ _,x=>x
def aK.shs:aK→List iF
 | .nil=>[]
 | .cons c r=>c.csh::r.shs
def toCs:(r:aK)→r.den→nY r.shs
 | .nil,_=>()
 | .cons c r,x=>(toC c x.1,toCs r x.2)
theorem ajL (X:V):∀ (r:aK) (vs:List Value) (x:r.den),bK X.w.heap (X.dP false) r vs x→au X (iJ r.shs (toCs r x)) vs
 | .nil,vs,x,h=>by rw [bK] at h;subst h;trivial
 | .cons c r,vs,(x,y),h=>by
   rw [bK] at h
   obtain ⟨v,vs',rfl,h1,h2⟩:=h
   refine ⟨?_,ajL X r vs' y h2⟩
   cases c with
   |int k=>exact h1
   |bool=>exact h1
   |str=>exact h1
   |sl e r=>exact h1
def ap1 (P:Program) (t:TypeId):Option yD:=
 match rowOf P 64 t with
 |some r=>match P.underlying t with
  |some (.struct _)=>some (.agg r.shs)
  |some (.array _ _)=>none
  |_=>match r with
   | .cons c .nil=>some (.one c.csh)
   |_=>none
 |none=>none
def MI (P:Program):List TypeId→Option (List jE)
 |[]=>some []
 |t::ts=>match ap1 P t,MI P ts with
  |some s,some l=>some (.v s::l)
  |_,_=>none
def start (w:World):V:=⟨w,w.heap.size,fun b=>b<w.heap.size,fun _=>undef,fun _=>none⟩
theorem ato {t:TypeId} {s:yD} (hs:ap1 P t=some s) {base base':Nat} {sp:Nat→Bool} {hd:Bool} {v:Value} {d:DataW H} {p:List MemPlace}
 (ht:DataW.Trod enc P w base sp hd t v d p) (hv:Value.okWide P w .any base' t v):∃ x:s.den,eU (start w) (s.val x) v:=by
 unfold ap1 at hs
 split at hs
 · next r hr=>
   obtain ⟨m,hm⟩:=ht
   obtain ⟨y,hy⟩:=aeg 64 t r hr m base sp hd _ _ hm
   have hy':bK (start w).w.heap ((start w).dP false) r v.cells.toList y:=
    bK.mono (fun b hb=>⟨⟨⟨hb,fun _=>hb,fun o x hx=>by cases hx⟩,fun e=>by cases e⟩,rfl⟩) r _ y hy
   unfold Value.okWide at hv
   split at hs
   · next fs hu=>
     cases hs
     rw [hu] at hv
     obtain ⟨cs,rfl,_,_⟩:=hv
     exact ⟨toCs r y,cs,rfl,ajL (start w) r _ y hy'⟩
   · cases hs
   · next hns hna=>
     split at hs
     · next c=>
       cases hs
       have hcell:v.cells=#[v]:=by
        cases hv2:v<;>first
         |rfl
         |(exfalso
           rw [hv2] at hv
           split at hv
           · next hu=>exact hns _ hu
           · next hu=>exact hna _ _ hu
           · unfold Go.Cell.okWide at hv
             split at hv<;>first|(rename_i h1 h2;cases h2;done)|(rename_i h2;cases h2;done)|skip
             unfold Go.Cell.ok at hv
             split at hv<;>first|(rename_i h1 h2;cases h2;done)|exact hv)
       have:=ajL (start w) _ _ y hy'
       rw [hcell] at this
       exact ⟨toC c y.1,this.1⟩
     · cases hs
 · cases hs
theorem anz:∀ (ts:List TypeId) (sh:List jE),MI P ts=some sh→∀ {base base':Nat} {sp:Nat→Bool} {hd:Bool} (vs:List Value) (ds:List (DataW H)) (p:List MemPlace),
 DataW.TrodAll enc P w base sp hd ts vs ds p→(∀ (j:Nat) t v,ts[j]? =some t→vs[j]? =some v→Value.okWide P w .any base' t v)→∃ x:pJ sh,rU (start w) (zq sh x) vs
 |[],sh,hs,_,_,_,_,vs,ds,p,h,_=>by
  cases hs
  cases vs with
  |nil=>exact ⟨(),trivial⟩
  |cons v vs=>cases ds<;>simp [DataW.TrodAll] at h
 |t::ts,sh,hs,base,base',sp,hd,vs,ds,p,h,hok=>by
  rw [MI] at hs
  split at hs
  · next s l h1 h2=>
    cases hs
    cases vs with
    |nil=>cases ds<;>simp [DataW.TrodAll] at h
    |cons v vs=>
     cases ds with
     |nil=>simp [DataW.TrodAll] at h
     |cons d ds=>
      obtain ⟨a,b,g1,g2,_⟩:=h
      obtain ⟨x,hx⟩:=ato h1 g1 (hok 0 t v rfl rfl)
      obtain ⟨y,hy⟩:=anz ts l h2 vs ds b g2 fun j t' v' ht' hv'=>hok (j+1) t' v' (by simpa using ht') (by simpa using hv')
      exact ⟨(x,y),hx,hy⟩
  · cases hs
mutual
theorem CT.IA:∀ (c:CT),c.beq c=true
 | .int k=>by simp [CT.beq]
 | .bool=>rfl
 | .str=>rfl
 | .sl e r=>by simp [CT.beq,aK.IA r]
theorem aK.IA:∀ (r:aK),r.beq r=true
 | .nil=>rfl
 | .cons c r=>by simp [aK.beq,CT.IA c,aK.IA r]
end
theorem alj:∀ (c:iF) (x:c.den),c.read (c.cell x)=some x
 | .int k,x=>by simp [iF.cell,iF.read]
 | .bool,x=>rfl
 | .str,x=>rfl
 | .sl e r fr,l=>by
   simp only [iF.cell,iF.read,Nat.beq_refl]
   have h1:MC fr fr=true:=by cases fr<;>rfl
   have h2:r.beq r=true:=aK.IA r
   rw [h1]
   simp only [Bool.and_self]
   rw [dif_pos h2]
   rfl
 | .nil,x=>rfl
 | .ref o,x=>by simp [iF.cell,iF.read]
 | .junk,x=>rfl
theorem agM:∀ (l:List iF) (x:nY l),kL l (iJ l x)=some x
 |[],_=>rfl
 |c::r,x=>by rw [iJ,kL,alj c x.1,agM r x.2]
theorem anA:∀ (ts:List TypeId) (l:List jE),MI P ts=some l→∀ (x:pJ l),G6 l (zq l x)=some x
 |[],l,h,x=>by cases h;rfl
 |t::ts,l,h,x=>by
  rw [MI] at h
  split at h
  · next s r h1 h2=>
    cases h
    have ih:=anA ts r h2 x.2
    cases s with
    |one c=>
     have e:(jE.v (.one c)).read ((jE.v (.one c)).val x.1)=some x.1:=alj c x.1
     rw [zq,G6,ih,e]
    |agg l=>
     have e:(jE.v (.agg l)).read ((jE.v (.agg l)).val x.1)=some x.1:=agM l x.1
     rw [zq,G6,ih,e]
  · cases h
def ajM:Out:=⟨[(false,[.plain (.bool true)])],none⟩
theorem aq4 {G:kW} {f:FuncId} {fn:Func} {sh:List jE} {F:pJ sh→Prop×Out} (hcon:uw P G f (KJ sh F)) (hsh:MI P fn.params.toList=some sh)
 (hF:∀ x,KI sh x→(F x).1∧(F x).2=ajM) (hG:G.ok w) {base base':Nat} {sp:Nat→Bool} {hd:Bool} {args:Array Value} {ds:List (DataW H)} {p:List MemPlace}
 (hA:DataW.TrodAll enc P w base sp hd fn.params.toList args.toList ds p) (hok:∀ (j:Nat) t v,fn.params[j]? =some t→args[j]? =some v→Value.okWide P w .any base' t v):
 Calls P f args w fun e w'=>e= .returned (.bool true)∧w'.os=w.os∧w'.output=w.output∧w.heap.size≤w'.heap.size∧∀ b,b<w.heap.size→w'.heap[b]? =w.heap[b]? :=by
 obtain ⟨x,hx⟩:=anz _ _ hsh _ _ _ hA fun j t v ht hv=>hok j t v (by simpa using ht) (by simpa using hv)
 have hin:=Ea sh x _ hx
 obtain ⟨hp,ho⟩:=hF x hin
 have hc:KJ sh F (zq sh x)=some ((F x).1,ajM):=by
  unfold KJ
  rw [anA _ _ hsh x]
  simp only [← ho]
 refine (hcon (zq sh x) _ _ 0 _ args w hc hp hG hx).mono ?_
 rintro e w' ⟨v,vals,rfl,h1,h2,h3,h4,h5,h6,_,_⟩
 have hv:v= .bool true:=h6
 exact ⟨by rw [hv],h1,h3,h4,h5⟩
theorem ar5 {w w':World} (h1:w'.os=w.os) (h3:w'.output=w.output) (h5:∀ b,b<w.heap.size→w'.heap[b]? =w.heap[b]?) (may:MemPlace→Prop):w.keptBut w' may:=by
 refine ⟨h1,h3,fun i hi=>?_⟩
 rw [h5 i hi]
 cases hw:w.heap[i]? with
 |none=>trivial
 |some o=>cases o<;>simp
theorem ar6 {w w':World} (h5:∀ b,b<w.heap.size→w'.heap[b]? =w.heap[b]?) {p:MemPlace} (hp:p.block<w.heap.size):w.sameAt w' p:=by
 cases p with
 |cell b off=>
  show w'.cell? _=w.cell? _
  unfold World.cell?
  simp only
  rw [h5 b hp]
 |map b=>exact h5 b hp
end Go.Fw
namespace Go.Fw
open Go
variable {P:Program} {G:kW} {f:FuncId}
theorem aow {args:List Arg} {i:Nat} {x:Arg} {p:Nat} (hp:p / 64≠i):dU (args.set i x) p=dU args p:=by
 unfold dU
 rw [List.getElem?_set_ne (fun h=>hp h.symm)]
theorem YC {args:List Arg} {i:Nat} {e:TypeId} {r:aK} {l:List r.den} (hi:i<args.length) (p:Nat) (hp:p / 64=i):dU (args.set i (.own e r l)) p=if p=i*64+49 then some (.arr e r l false) else none:=by
 unfold dU
 rw [hp,List.getElem?_set_self hi]
 by_cases h:p=i*64+49
 · subst h
   have:Nat.beq ((i*64+49)%64) 49=true:=by
    have:(i*64+49)%64=49:=by omega
    rw [this];rfl
   simp [this]
 · have:Nat.beq (p%64) 49=false:=by
    cases hb:Nat.beq (p%64) 49 with
    |false=>rfl
    |true=>have:=Nat.eq_of_beq_eq_true hb;omega
   simp [this,h]
theorem apa {args:List Arg} {i:Nat} {v:SV} (ha:args[i]? =some (.sv v)) (p:Nat) (hp:p / 64=i):dU args p=none:=by
 unfold dU
 rw [hp,ha]
def MJ (γ:Nat→Value) (i:Nat) (o:Nat):Value:=if o=i*64+49 then .slice none 0 0 else γ o
theorem uH.mono {X Y:V} (h:X.le Y):∀ (a:Arg) (v:Value),uH X a v→uH Y a v
 | .sv x,v,H=>eU.mono h x v H
 | .kp cs,v,H=>bG.mono h (.dR cs 0) v H
 | .fn f caps,v,H=>bG.mono h (.fn f caps) v H
 | .own _ _ _,_,H| .ptr _,_,H=>H.elim
theorem L8.mono {X Y:V} (h:X.le Y) (i:Nat):∀ (a:Arg) (v:Value),L8 X i a v→L8 Y i a v
 | .own _ _ _,v,H=>bn.mono h (.ref (i*64+49)) v H
 | .ptr _,v,H=>bG.mono h (.dL (i*64+48) 0) v H
 | .sv x,v,H=>uH.mono h (.sv x) v H
 | .kp cs,v,H=>uH.mono h (.kp cs) v H
 | .fn f caps,v,H=>uH.mono h (.fn f caps) v H
theorem zX.nil {X Y:V} (h:X.le Y) {e:TypeId} {r:aK}:∀ (args:List Arg) (vs:List Value) (j i:Nat),args[i]? =some (.sv (.one .nil))→
 Y.ak ((j+i)*64+49)=some (.arr e r [] false)→Y.γ ((j+i)*64+49)= .slice none 0 0→zX X j args vs→zX Y j (args.set i (.own e r [])) vs
 |[],[],_,i,ha,_,_,_=>by simp at ha
 |[],_::_,_,_,_,_,_,H=>H.elim
 |_::_,[],_,_,_,_,_,H=>H.elim
 |a::args,v::vs,j,0,ha,ho,hγ,⟨h1,h2⟩=>by
  have ha:a= .sv (.one .nil):=by simpa using ha
  subst ha
  have hv:v= .slice none 0 0:=h1
  refine ⟨⟨⟨e,r,[],false,ho⟩,?_,by rw [hv];rfl⟩,?_⟩
  · rw [hv];exact hγ.symm
  · show zX Y (j+1) args vs
    clear h1 ha ho hγ hv
    generalize j+1=k at h2
    induction args generalizing k vs with
    |nil=>cases vs with
     |nil=>trivial
     |cons _ _=>exact h2.elim
    |cons b args ih=>cases vs with
     |nil=>exact h2.elim
     |cons u vs=>exact ⟨L8.mono h k b u h2.1,ih vs (k+1) h2.2⟩
 |a::args,v::vs,j,i+1,ha,ho,hγ,⟨h1,h2⟩=>by
  have e1:j+(i+1)=j+1+i:=by omega
  rw [e1] at ho hγ
  exact ⟨L8.mono h j a v h1,zX.nil h args vs (j+1) i (by simpa using ha) ho hγ h2⟩
theorem lq.atW {con YB:Ir} (i:Nat) (e:TypeId) (r:aK) (hr:0<r.len) (h:lq P G f con)
 (hc:∀ args p ρ,YB args=some (p,ρ)→p→args[i]? =some (.sv (.one .nil))∧(∀ t,o7 (ρ.aX t) (i*64+49)=none)∧∃ q,con (args.set i (.own e r []))=some (q,ρ)∧q):lq P G f YB:=by
 intro args p ρ hcon hp
 obtain ⟨ha,hF,q,hq1,hq⟩:=hc args p ρ hcon hp
 have hlen:i<args.length:=by
  have:=List.getElem?_eq_some_iff.1 ha
  exact this.1
 obtain ⟨hex,hcall⟩:=h _ q ρ hq1 hq
 refine ⟨hex,fun k S γ vs w hG hrep sZ hsep hfree=>?_⟩
 have hO:∀ o,o≠i*64+49→dU (args.set i (.own e r [])) o=dU args o:=by
  intro o ho
  by_cases hd:o / 64=i
  · rw [YC hlen o hd,apa ha o hd,if_neg ho]
  · exact aow hd
 have hN:dU (args.set i (.own e r [])) (i*64+49)=some (.arr e r [] false):=by
  rw [YC hlen _ (by omega),if_pos rfl]
 have hN':dU args (i*64+49)=none:=apa ha _ (by omega)
 have hγN:MJ γ i (i*64+49)= .slice none 0 0:=if_pos rfl
 have hγ:∀ o,o≠i*64+49→MJ γ i o=γ o:=fun o ho=>if_neg ho
 have hne:∀ o x,dU args o=some x→o≠i*64+49:=fun o x ho e=>by rw [e,hN'] at ho;cases ho
 have le:V.le ⟨w,w.heap.size,S,γ,dU args⟩ ⟨w,w.heap.size,S,MJ γ i,dU (args.set i (.own e r []))⟩:=by
  refine ⟨Nat.le_refl _,fun b hb=>⟨⟨hb.1,hb.2.1,fun o x hx=>?_⟩,rfl⟩,fun o cs hx=>⟨⟨cs,?_⟩,hγ o (hne o _ hx)⟩,fun o e r l fr hx=>⟨⟨l,fr,?_⟩,hγ o (hne o _ hx)⟩⟩
  · by_cases ho:o=i*64+49
    · show blk (MJ γ i o)≠some b
      rw [ho,hγN];intro hh;cases hh
    · show blk (MJ γ i o)≠some b
      rw [hγ o ho]
      exact hb.2.2 o x ((hO o ho).symm.trans hx)
  · exact (hO o (hne o _ hx)).trans hx
  · exact (hO o (hne o _ hx)).trans hx
 have hbl:∀ b,zo (dU (args.set i (.own e r []))) (MJ γ i) b↔zo (dU args) γ b:=by
  intro b
  constructor
  · rintro ⟨o,x,h1,h2⟩
    by_cases ho:o=i*64+49
    · rw [ho,hγN] at h2;cases h2
    · exact ⟨o,x,(hO o ho)▸h1,(hγ o ho)▸h2⟩
  · rintro ⟨o,x,h1,h2⟩
    exact ⟨o,x,(hO o (hne o x h1)).trans h1,by rw [hγ o (hne o x h1)];exact h2⟩
 refine Calls.mono (hcall k S (MJ γ i) vs w hG (zX.nil (Y:=⟨w,w.heap.size,S,MJ γ i,dU (args.set i (.own e r []))⟩) le args vs.toList 0 i ha (by rw [Nat.zero_add];exact hN) (by rw [Nat.zero_add];exact hγN) hrep) ?_ ?_ hfree) ?_
 · intro o x hx
   by_cases ho:o=i*64+49
   · subst ho
     rw [hN] at hx
     cases hx
     refine ⟨⟨[],?_,hr,fun b hb=>?_,fun j x hj=>by simp at hj⟩,fun b hb=>?_⟩
     · show w.ownsRow 0 e r.len (MJ γ i (i*64+49)) 0 []
       rw [hγN];exact World.ownsRow_nil w 0 e r.len
     · have hb:blk (MJ γ i (i*64+49))=some b:=hb
       rw [hγN] at hb;cases hb
     · rw [hγN] at hb;cases hb
   · have hx':dU args o=some x:=(hO o ho)▸hx
     have:=sZ o x hx'
     refine ⟨bW.mono le o x (fun b _=>rfl) (hγ o ho) this.1,fun b hb=>this.2 b ((hγ o ho)▸hb)⟩
 · intro o x q y b hx hy hoq hb
   by_cases ho:o=i*64+49
   · rw [ho,hγN] at hb;cases hb
   by_cases hq':q=i*64+49
   · rw [hq',hγN];intro hh;cases hh
   rw [hγ o ho] at hb
   rw [hγ q hq']
   exact hsep o x q y b ((hO o ho)▸hx) ((hO q hq')▸hy) hoq hb
 · rintro en w' ⟨t,ht,v,γ',h1,h2,h3,h4,h5,h6,h7,h8,h9,h10⟩
   have ap2:∀ o x,o7 (ρ.aX t) o=some x→o≠i*64+49:=fun o x ho e=>by rw [e,hF t] at ho;cases ho
   have hL:uI S (args.set i (.own e r [])) (ρ.aX t) (MJ γ i)=uI S args (ρ.aX t) γ:=by
    funext b
    apply propext
    constructor
    · rintro ⟨a1,a2⟩
      refine ⟨a1.imp_right (hbl b).1,fun q y hy=>?_⟩
      have:=a2 q y hy
      rwa [hγ q (ap2 q y hy)] at this
    · rintro ⟨a1,a2⟩
      refine ⟨a1.imp_right (hbl b).2,fun q y hy=>?_⟩
      rw [hγ q (ap2 q y hy)]
      exact a2 q y hy
   rw [hL] at h7 h8 h10
   refine ⟨t,ht,v,γ',h1,h2,h3,h4,h5,fun b hb hn=>h6 b hb (fun h=>hn ((hbl b).1 h)),h7,fun o x hx=>?_,h9,fun o x hx=>?_⟩
   · obtain ⟨a1,a2⟩:=h8 o x hx
     refine ⟨a1,fun b hb=>?_⟩
     obtain ⟨b1,b2,b3⟩:=a2 b hb
     refine ⟨b1,b2.imp_right (hbl b).1,fun q y hy=>?_⟩
     have:=b3 q y hy
     rwa [hγ q (ap2 q y hy)] at this
   · obtain ⟨a1,a2⟩:=h10 o x hx
     exact ⟨a1.trans (hγ o (ap2 o x hx)),a2⟩
theorem aq5 {l:List iF} {e:TypeId} {r:aK} {rest:List jl} {dQ:List vJ} {F:kT (.ptr l:: .own e r::rest)→Prop×(su dQ×qx (.ptr l:: .own e r::rest)→Prop)}
 {F':kT (.ptr l:: .p (.v (.one .nil))::rest)→Prop×(su dQ×qx (.ptr l:: .own e r::rest)→Prop)} (hr:0<r.len) (h:lq P G f (xu (.ptr l:: .own e r::rest) dQ F))
 (hF:∀ a x,(F' (a,(),x)).1→(F (a,[],x)).1) (hF2:∀ a x,(F' (a,(),x)).1→(F' (a,(),x)).2=(F (a,[],x)).2):lq P G f (xu (.ptr l:: .p (.v (.one .nil))::rest) dQ F'):=by
 refine lq.atW 1 e r hr h fun args p ρ hcon hp=>?_
 match args,hcon with
 |[],hcon=>simp [xu,je] at hcon
 |[a],hcon=>
  have:je (.ptr l:: .p (.v (.one .nil))::rest) [a]=none:=by
   simp only [je]
   split<;>simp_all
  simp [xu,this] at hcon
 |a::b::args,hcon=>
  cases ha:(jl.ptr l).read a with
  |none=>simp [xu,je,ha] at hcon
  |some a'=>
  cases hb:(jl.p (.v (.one .nil))).read b with
  |none=>simp [xu,je,ha,hb] at hcon
  |some b'=>
  cases hx:je rest args with
  |none=>simp [xu,je,ha,hb,hx] at hcon
  |some x=>
   have hb2:b= .sv (.one .nil):=by
    cases b with
    |sv s=>cases s with
     |one c=>cases c with
      |nil=>rfl
      |int k n=>cases hb
      |bool k=>cases hb
      |str k=>cases hb
      |sl e r l fr=>cases hb
      |ref o=>cases hb
      |junk=>cases hb
     |agg cs=>cases hb
    |_=>cases hb
   subst hb2
   simp only [xu,je,ha,hb,hx] at hcon
   have hcon:=Option.some.inj hcon
   have h1:(F' (a',(),x)).1=p:=congrArg Prod.fst hcon
   have h2:(⟨su dQ×qx (.ptr l:: .own e r::rest),(F' (a',(),x)).2,fun t=>⟨jd dQ t.1,none⟩,fun t=>kM (.ptr l:: .own e r::rest) t.2⟩:JJ)=ρ:=congrArg Prod.snd hcon
   have hp':(F' (a',(),x)).1:=h1▸hp
   subst h2
   refine ⟨rfl,fun t=>rfl,(F (a',[],x)).1,?_,hF a' x hp'⟩
   · have ho:(jl.own e r).read (.own e r [])=some []:=by
      unfold jl.read
      simp only [Nat.beq_refl]
      rw [dif_pos (aK.IA r)]
      rfl
     simp only [List.set_cons_succ,List.set_cons_zero,xu,je,ha,ho,hx]
     have:=hF2 a' x hp'
     exact congrArg (fun z=>some ((F (a',[],x)).1,(⟨su dQ×qx (.ptr l:: .own e r::rest),z,fun t=>⟨jd dQ t.1,none⟩,fun t=>kM (.ptr l:: .own e r::rest) t.2⟩:JJ))) this.symm
end Go.Fw
namespace Go.Fw
open Go
theorem af {b:Bool} {A B:Prop} (h1:b=true→A) (h2:b=false→B):cond b A B:=by
 cases b
 · exact h2 rfl
 · exact h1 rfl
theorem fO (z:Int) (h:-9223372036854775808≤z∧z≤9223372036854775807):IntKind.i64.wrap z=z:=IntWalk.i64_in z (by omega)
theorem maxLen_eq:maxLen=9223372036854775807:=by decide
theorem bT:big=4294967296:=rfl
theorem getD_mem {α:Type} {l:List α} {n:Nat} {d:α} (h:n<l.length):l.getD n d∈l:=by
 rw [List.getD_eq_getElem?_getD,List.getElem?_eq_getElem h,Option.getD_some];exact List.getElem_mem h
end Go.Fw
namespace Go.Fw
open Go
end Go.Fw
namespace Go.Fw
open Go
variable {P:Program}
end Go.Fw
namespace Go.Fw
open Go
variable {P:Program}
theorem aox {s:jl} {sh:List jl}:∀ {args:List Arg} {d:kT (s::sh)},je (s::sh) args=some d→∃ x xs,args=x::xs∧s.read x=some d.1∧je sh xs=some d.2
 |[],_,h=>by simp [je] at h
 |x::xs,d,h=>by
  rw [je] at h
  split at h
  · next a b h1 h2=>cases h;exact ⟨x,xs,rfl,h1,h2⟩
  · cases h
theorem ap3:∀ {args:List Arg} {d:kT []},je [] args=some d→args=[]
 |[],_,_=>rfl
 |_::_,_,h=>by simp [je] at h
end Go.Fw
namespace Go.Fw
open Go
variable {P:Program} {H:Type} {enc:TypeId×Value→H} {w:World}
theorem Vu (hl:laidOutB P=true) {base:Nat} {sp':Nat→Bool} {W W':World}:∀ (ts:List TypeId) (_:ts.all (fun t=>P.readableRec t&&decide (t<P.types.size))=true)
 (vs:List Value) (ds:List (DataW H)) (ps:List MemPlace),DataW.TrodAll enc P W base (fun _=>true) true ts vs ds ps→(∀ p∈ps,W.sameAt W' p)→(∀ p∈ps,sp' p.block=true)→DataW.TrodAll enc P W' base sp' true ts vs ds ps
 |[],_,vs,ds,ps,h,_,_=>by
  cases vs<;>cases ds<;>simp [DataW.TrodAll] at h ⊢
  exact h
 |t::ts,ht,vs,ds,ps,h,h1,h2=>by
  rw [List.all_cons,Bool.and_eq_true,Bool.and_eq_true] at ht
  cases vs with
  |nil=>cases ds<;>simp [DataW.TrodAll] at h
  |cons v vs=>
   cases ds with
   |nil=>simp [DataW.TrodAll] at h
   |cons d ds=>
    obtain ⟨a,b,g1,g2,rfl⟩:=h
    exact ⟨a,b,WideElems.Trod_stays hl ht.1.1 (of_decide_eq_true ht.1.2) g1 (fun p hp=>h1 p (List.mem_append_left _ hp)) (fun p hp=>h2 p (List.mem_append_left _ hp)),
     Vu hl ts ht.2 vs ds b g2 (fun p hp=>h1 p (List.mem_append_right _ hp)) (fun p hp=>h2 p (List.mem_append_right _ hp)),rfl⟩
theorem trodAll_length {base:Nat} {sp:Nat→Bool} {hd:Bool} {W:World}:∀ (ts:List TypeId) (vs:List Value) (ds:List (DataW H)) (ps:List MemPlace),DataW.TrodAll enc P W base sp hd ts vs ds ps→ds.length=ts.length
 |[],vs,ds,ps,h=>by cases vs<;>cases ds<;>simp [DataW.TrodAll] at h ⊢
 |t::ts,vs,ds,ps,h=>by
  cases vs with
  |nil=>cases ds<;>simp [DataW.TrodAll] at h
  |cons v vs=>
   cases ds with
   |nil=>simp [DataW.TrodAll] at h
   |cons d ds=>
    obtain ⟨a,b,g1,g2,rfl⟩:=h
    simp [trodAll_length ts vs ds b g2]
theorem ar7 {fn:Func} {s:ChangeSpec} {apart fresh handsOn again:Bool} {W W':World} {args:Array Value} {ds gs:List (DataW H)} {before:List MemPlace} {tb:TypeId}
 (hvars:s.vars=[]) (hspec:∀ l:List (DataW H),l.length=fn.params.toList.length→(s.fn H l).results=[.lit (.bool true)]∧(s.fn H l).args=l∧(s.fn H l).vars=[])
 (hres:fn.resultTypes=#[tb]) (hb:P.underlying tb=some .bool) (hl:laidOutB P=true) (hread:fn.params.toList.all (fun t=>P.readableRec t&&decide (t<P.types.size))=true)
 (hW:DataW.Whole enc P fn.params.toList s.vars apart W args.toList ds gs before) (hos:W'.os=W.os) (hout:W'.output=W.output) (hheap:∀ b,b<W.heap.size→W'.heap[b]? =W.heap[b]?):
 s.post enc P fn apart fresh handsOn again W args (.bool true) W':=by
 have hlt:=hW.lt
 have hW0:=hW
 obtain ⟨p,q,hA,hV,hpq,hz,hn⟩:=hW
 rw [hvars] at hV
 have hg:gs=[]∧q=[]:=by
  cases gs with
  |nil=>exact ⟨rfl,hV⟩
  |cons g gs=>simp [DataW.TrodVars] at hV
 obtain ⟨rfl,rfl⟩:=hg
 rw [List.append_nil] at hpq
 subst hpq
 have hlen:=trodAll_length _ _ _ _ hA
 obtain ⟨r1,r2,r3⟩:=hspec (ds++[]) (by simpa using hlen)
 rw [List.append_nil] at r1 r2 r3
 have hsame:∀ x∈before,W.sameAt W' x:=fun x hx=>ar6 hheap (hlt x hx)
 have R:∀ (b:Nat) (sp:Nat→Bool) (hd:Bool),DataW.TrodAll enc P W' b sp hd fn.resultTypes.toList ((Value.bool true).resultList fn.resultTypes.size) [.lit (.bool true)] []:=by
  intro b sp hd
  rw [hres]
  exact ⟨[],[],⟨1,by simp [DataW.trod,Value.cells,hb]⟩,rfl,rfl⟩
 have A:∀ sp:Nat→Bool,(∀ x∈before,sp x.block=true)→DataW.TrodAll enc P W' 0 sp true fn.params.toList args.toList ds before:=fun sp hsp=>Vu hl _ hread _ _ _ hA hsame hsp
 have hold:∀ x∈before,(fun b=>decide (b<W.heap.size)) x.block=true:=fun x hx=>by simpa using hlt x hx
 refine ⟨ds,[],before,[],before,[],hW0,?_,?_,?_,ar5 hos hout hheap _,fun _=>⟨?_, .lit (.bool true)::ds,[],before,⟨before,[],?_,?_,by simp,?_,hn⟩,fun x hx _=>hx⟩⟩
 · rw [List.append_nil,r1];exact R _ _ _
 · rw [List.append_nil,r2];exact A _ hold
 · rw [List.append_nil,r3,hvars];rfl
 · intro j t r h1 h2
   rw [hres] at h1 h2
   match j with
   |0=>
    simp [Value.resultList] at h1 h2
    subst h1 h2
    simp [Value.okWide,hb,Go.Cell.okWide,Go.Cell.ok]
   |j+1=>simp at h1
 · exact ChangeShapes.trodAll_append (A _ (fun _ _=>rfl)) (R _ _ _)
 · rw [hvars];rfl
 · intro b off hp
   have hbl:=hlt _ hp
   have e:W'.frozen? ⟨b,off,none⟩=W.frozen? ⟨b,off,none⟩:=by
    unfold World.frozen?
    simp only
    rw [hheap b hbl]
   rw [e]
   exact hz b off hp
end Go.Fw
namespace Go.Fw
open Go
theorem law_lifted {H:Type} {enc:TypeId×Value→H} {C:Checked} {G:kW} {os:Os} {f:FuncId} {fn:Func} {s:ChangeSpec} {conds:List PathCond} {apart fresh handsOn again:Bool} {tb:TypeId} {sh:List jE} {F:pJ sh→Prop×Out}
 (own:ownKnob C.prog.godebug=none) (started:os.Started) (noInit:C.prog.inits.idxOf? f=none) (hfn:C.prog.funcs[f]? =some fn)
 (witness:∃ (w:World) (tape:Tape) (i:Input),w.os=os∧(w.forCall tape i).Shaped C.prog∧i.vars=[]∧Input.okWide C.prog (w.forCall tape i) .any w.heap.size f i∧
   s.pre6 enc C.prog fn conds apart (w.forCall tape i).memory i.args∧({}:Assume).holds C.prog (lone (Frame.enter C.prog f i.args .normal) [] (w.forCall tape i)))
 (hcon:uw C.prog G f (KJ sh F)) (hsh:MI C.prog fn.params.toList=some sh) (hF:∀ x,KI sh x→(F x).1∧(F x).2=ajM) (hG:∀ w,G.ok w)
 (hvars:s.vars=[]) (hspec:∀ l:List (DataW H),l.length=fn.params.toList.length→(s.fn H l).results=[.lit (.bool true)]∧(s.fn H l).args=l∧(s.fn H l).vars=[])
 (hres:fn.resultTypes=#[tb]) (hb:C.prog.underlying tb=some .bool) (hl:laidOutB C.prog=true) (hread:fn.params.toList.all (fun t=>C.prog.readableRec t&&decide (t<C.prog.types.size))=true):
 ReturnsInHanded {} C os f .any (s.pre6 enc C.prog fn conds apart) (s.post enc C.prog fn apart fresh handsOn again):=by
 refine returnsInHanded_of_change own started noInit hfn witness ?_
 intro W base args ds gs before hval hW _ _
 have hW0:=hW
 obtain ⟨p,q,hA,_⟩:=hW
 refine (aq4 hcon hsh hF (hG W) hA hval).mono ?_
 rintro e W' ⟨rfl,h1,h2,_,h3⟩
 exact ⟨_,rfl,ar7 hvars hspec hres hb hl hread hW0 h1 h2 h3⟩
end Go.Fw
