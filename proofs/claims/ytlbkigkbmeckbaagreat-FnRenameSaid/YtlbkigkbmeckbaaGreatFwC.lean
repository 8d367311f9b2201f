import Derived.Test.YtlbkigkbmeckbaaGreatFwD
import Derived.Test.YtlbkigkbmeckbaaGreatFwB
import Derived.Test.YtlbkigkbmeckbaaGreatFwA
import Derived.ChangeArms
import Derived.WideKeyArgs
import Derived.ChangeSame
import Derived.ChangeOld
import Derived.Handed
import Derived.IntWalk
import Derived.Laws.IdiomCopy
import Derived.ProofKit
namespace Go.Fw
open Go
variable {P:Program} {w0:World} {M:Nat→Prop} {T:Ext} {γ γ':Nat→Value} {st:St} {a:Act} {w w':World} {Θ:gK} {Γ:aB}
structure JA where
 arO:List ZI
 c:Shape
 v:Shape
structure Hints where
 own:Nat→Bool
 loops:Nat→Option JA
 cuts:Nat→Option JA
 upd:List Nat
 frz:Nat→List Pre
def BA:Code→Option Nat
 | .region id _ _=>some id
 | .seq x y=>match BA x with|some n=>some n|none=>BA y
 | .cond _ x y=>match BA x with|some n=>some n|none=>BA y
 | .block _ x| .loop x=>BA x
 |_=>none
def cutAt (H:Hints) (y:Code):Option JA:=match BA y with
 |some n=>H.cuts n
 |none=>none
def Iw (Θ:gK) (Γ:aB) (H:Hints):Code→(Exit→St→Prop)→St→Prop
 | .skip,Q,st=>Q .normal st
 | .region id ops false,Q,st=>UO (H.frz id) (runs Θ Γ H.own ops.toList (Q .normal) ops.toList) st
 | .region id ops true,Q,st=>UO (H.frz id) (PN Θ Γ H.own H.upd ops.toList (Q .normal)) st
 | .seq x y,Q,st=>match cutAt H y with
   |none=>Iw Θ Γ H x (fun e s=>match e with| .normal=>Iw Θ Γ H y Q s|e=>Q e s) st
   |some sp=>match sp.c.read (only sp.c sp.v st) with
    |some x0=>∃ (J:sp.v.den→Prop),Iw Θ Γ H x (fun e s=>match e with
      | .normal=>match settles s sp.arO with
        |some s1=>match Nat.beq s1.n st.n,sp.c.read (only sp.c sp.v s1),sp.v.read (only sp.c sp.v s1) with
         |true,some x1,some y1=>x1=x0∧J y1
         |_,_,_=>False
        |none=>False
      |e=>Q e s) st∧∀ y1,J y1→Iw Θ Γ H y Q (joint st.n sp.c sp.v x0 y1)
    |none=>False
 | .cond c x y,Q,st=>match st.ev c with
   | .sv (.one (.bool b))=>cond b (Iw Θ Γ H x Q st) (Iw Θ Γ H y Q st)
   |_=>False
 | .block id c,Q,st=>Iw Θ Γ H c (fun e s=>match e with
   | .exit i=>match Nat.beq i id with|true=>Q .normal s|false=>Q (.exit i) s
   |e=>Q e s) st
 | .exit id,Q,st=>Q (.exit id) st
 | .ret,Q,st=>Q .ret st
 | .loop c,Q,st=>match BA c with
   |some n=>match H.loops n with
    |some sp=>match settles st sp.arO with
     |some s0=>match sp.c.read (only sp.c sp.v s0),sp.v.read (only sp.c sp.v s0) with
      |some x0,some y0=>∃ (I:sp.v.den→Prop) (μ:sp.v.den→Nat),I y0∧∀ y,I y→
        Iw Θ Γ H c (fun e s=>match e with
         | .normal=>match settles s sp.arO with
           |some s1=>match Nat.beq s1.n s0.n,sp.c.read (only sp.c sp.v s1),sp.v.read (only sp.c sp.v s1) with
            |true,some x1,some y1=>x1=x0∧I y1∧μ y1<μ y
            |_,_,_=>False
           |none=>False
         |e=>Q e s) (joint s0.n sp.c sp.v x0 y)
      |_,_=>False
     |none=>False
    |none=>False
   |none=>False
 |_,_,_=>False
theorem ZJ {G:kQ} (hE:xG P G Θ Γ w0 M) (hm:P.follows .mixedOrders=true) (H:Hints):∀ (c:Code) (QA:Exit→St→Prop) (Q:Exit→Act→World→Prop) (st:St) (γ:Nat→Value) (a:Act) (w:World),
 Rel w0 M T γ st a w→Iw Θ Γ H c QA st→(∀ e s γ' a' w',QA e s→Rel w0 M T γ' s a' w'→Q e a' w')→c.wp P Q a w:=by
 intro c
 induction c with
 |skip=>intro QA Q st γ a w h ha hQ;exact wp_skip (hQ _ _ _ _ _ ha h)
 |region id ops d=>
  intro QA Q st γ a w h ha hQ
  cases d with
  |false=>
   obtain ⟨s0,γ0,h0,hk0⟩:=Fb (K:=runs Θ Γ H.own ops.toList (QA .normal) ops.toList) (H.frz id) st γ h ha
   exact ao2 hE h0 hk0 fun s γ' a' w' hK hR=>hQ _ _ _ _ _ hK hR
  |true=>
   obtain ⟨s0,γ0,h0,hk0⟩:=Fb (K:=PN Θ Γ H.own H.upd ops.toList (QA .normal)) (H.frz id) st γ h ha
   exact asV hE hm h0 hk0 fun s γ' a' w' hK hR=>hQ _ _ _ _ _ hK hR
 |seq x y ihx ihy=>
  intro QA Q st γ a w h ha hQ
  rw [Iw] at ha
  split at ha
  · refine wp_seq (ihx _ _ st γ a w h ha ?_)
    intro e s γ' a' w' hq hR
    cases e<;>first|exact ihy _ _ s γ' a' w' hR hq hQ|exact hQ _ _ _ _ _ hq hR
  · next sp hsp=>
    split at ha
    · next x0 hx=>
      obtain ⟨J,h1,h2⟩:=ha
      refine wp_seq (ihx _ _ st γ a w h h1 ?_)
      intro e s γ' a' w' hq hR
      cases e with
      |normal=>
       simp only at hq
       split at hq
       · next s1 hs1=>
         split at hq
         · next x1 y1 hsn hx1 hy1=>
           obtain ⟨rfl,hJ⟩:=hq
           obtain ⟨γ1,hR1⟩:=Rel.settles _ hR hs1
           have hR2:=hR1.joint hx1 hy1
           rw [Nat.eq_of_beq_eq_true hsn] at hR2
           exact ihy _ _ _ γ1 a' w' hR2 (h2 _ hJ) hQ
         · exact hq.elim
       · exact hq.elim
      |_=>exact hQ _ _ _ _ _ hq hR
    · exact ha.elim
 |cond c x y ihx ihy=>
  intro QA Q st γ a w h ha hQ
  rw [Iw] at ha
  split at ha
  · next b hb=>
    have hv:a.eval c= .bool b:=by
     have:=jw h c
     rw [hb] at this
     exact this
    refine wp_cond_split hv (fun e=>?_) (fun e=>?_)
    · subst e;exact ihx _ _ st γ a w h ha hQ
    · subst e;exact ihy _ _ st γ a w h ha hQ
  · exact ha.elim
 |block id c ih=>
  intro QA Q st γ a w h ha hQ
  refine wp_block (ih _ _ st γ a w h ha ?_)
  intro e s γ' a' w' hq hR
  cases e with
  |exit i=>
   simp only [Exit.inBlock]
   cases hb:Nat.beq i id with
   |true=>
    simp only [hb] at hq
    rw [if_pos (Nat.eq_of_beq_eq_true hb)]
    exact hQ _ _ _ _ _ hq hR
   |false=>
    simp only [hb] at hq
    rw [if_neg (by rintro rfl;simp at hb)]
    exact hQ _ _ _ _ _ hq hR
  |_=>exact hQ _ _ _ _ _ hq hR
 |loop c ih=>
  intro QA Q st γ a w h ha hQ
  rw [Iw] at ha
  split at ha
  · split at ha
    · next sp hsp=>
      split at ha
      · next s0 hs0=>
        split at ha
        · next x0 y0 hx hy=>
          obtain ⟨I,μ,h0,hI⟩:=ha
          obtain ⟨γ0,hR0⟩:=Rel.settles _ h hs0
          let J:sp.v.den→Act→World→Prop:=fun y a' w'=>∃ γ',Rel w0 M T γ' (joint s0.n sp.c sp.v x0 y) a' w'
          have key:∀ (n:Nat) (y:sp.v.den),μ y=n→I y→∀ a' w',J y a' w'→∀ (b:Frame) (k:List Item) (cs:List Frame),
           ∃ e a'' w'',Q e a'' w''∧Arrives P (lone (b.at a' (.code c:: .inLoop c::k)) cs w') b k cs e a'' w'':=by
           intro n
           induction n using Nat.strongRecOn with
           |_ n ihn=>
            intro y hμ hy' a' w' ⟨γ',hR⟩ b k cs
            have hbody:=ih _ (Exit.then (fun a2 w2=>∃ y2,I y2∧μ y2<μ y∧J y2 a2 w2) Q) _ γ' a' w' hR (hI y hy') ?_
            · obtain ⟨e,a1,w1,hq,harr⟩:=hbody b (.inLoop c::k) cs
              cases e with
              |normal=>
               obtain ⟨y2,hI2,hlt,hJ2⟩:=hq
               obtain ⟨e2,a2,w2,hq2,awn⟩:=ihn (μ y2) (hμ▸hlt) y2 rfl hI2 a1 w1 hJ2 b k cs
               exact ⟨e2,a2,w2,hq2, .of_steps (Steps.trans harr (.one step_inLoop)) awn⟩
              |exit id=>exact ⟨_,a1,w1,hq, .pass (x:= .inLoop c) rfl (fun _ _=> .inl (by simp)) harr⟩
              |goto l=>exact ⟨_,a1,w1,hq, .pass (x:= .inLoop c) rfl (fun _ _=> .inl (by simp)) harr⟩
              |ret=>exact ⟨_,a1,w1,hq, .pass (x:= .inLoop c) rfl (fun _ _=> .inl (by simp)) harr⟩
              |panic ch=>exact ⟨_,a1,w1,hq, .pass (x:= .inLoop c) rfl (fun _ _=> .inl (by simp)) harr⟩
              |outgrown=>exact ⟨_,a1,w1,hq, .pass (x:= .inLoop c) rfl (fun _ _=> .inl (by simp)) harr⟩
            · intro e s γ2 a2 w2 hq hR2
              cases e with
              |normal=>
               simp only at hq
               split at hq
               · next s1 hs1=>
                 split at hq
                 · next x1 y1 hsn hx1 hy1=>
                   obtain ⟨rfl,hI1,hlt⟩:=hq
                   obtain ⟨γ3,hR3⟩:=Rel.settles _ hR2 hs1
                   have hJ:=hR3.joint hx1 hy1
                   rw [Nat.eq_of_beq_eq_true hsn] at hJ
                   exact ⟨y1,hI1,hlt,_,hJ⟩
                 · exact hq.elim
               · exact hq.elim
              |_=>exact hQ _ _ _ _ _ hq hR2
          intro b k cs
          obtain ⟨e,a',w',hq,harr⟩:=key _ y0 rfl h0 a w ⟨_,hR0.joint hx hy⟩ b k cs
          exact ⟨e,a',w',hq, .of_steps (.one step_loop) harr⟩
        · exact ha.elim
      · exact ha.elim
    · exact ha.elim
  · exact ha.elim
 |rangeFunc f ps x y ihx ihy=>intro QA Q st γ a w h ha hQ;exact ha.elim
 |exit id=>intro QA Q st γ a w h ha hQ;exact wp_exit (hQ _ _ _ _ _ ha h)
 |scope c ih=>intro QA Q st γ a w h ha hQ;exact ha.elim
 |label l=>intro QA Q st γ a w h ha hQ;exact ha.elim
 |goto l=>intro QA Q st γ a w h ha hQ;exact ha.elim
 |ret=>intro QA Q st γ a w h ha hQ;exact wp_ret (hQ _ _ _ _ _ ha h)
 |refuse s=>intro QA Q st γ a w h ha hQ;exact ha.elim
end Go.Fw
namespace Go.Fw
open Go
variable {P:Program} {w0:World} {M:Nat→Prop} {T:Ext} {γ γ':Nat→Value} {st:St} {a:Act} {w w':World} {Θ:gK} {Γ:aB}
def Arg.av:Arg→AV
 | .sv v=> .sv v
 | .kp cs=> .dK cs 0
 | .fn f caps=> .fn f caps
 | .own _ _ _| .ptr _=> .undef
def entry (n:Nat) (args:List Arg):St:=
 {n:=n,tmps:=fun t=>match args[t]? with|some v=>v.av|none=> .undef,ak:=fun _=>none}
def PO (st:St) (o:Nat):Bool:=match st.ak o with|some (.arr _ _ _ _)=>true|_=>false
def ahM (Θ:gK) (st:St):ResultVar→Option SV
 | .tmp t=>match st.tmps t with| .sv v=>some v|_=>none
 | .cell t ty=>match Θ ty,st.tmps t with
   |some ti, .cZ o off=>match st.ak o with
    |some (.var cs)=>nV ti cs off
    |_=>none
   |_,_=>none
def NV (Θ:gK) (st:St):List ResultVar→Option (List SV)
 |[]=>some []
 |r::rs=>match ahM Θ st r,NV Θ st rs with
  |some v,some vs=>some (v::vs)
  |_,_=>none
def outOf:SV→Bool×List gy
 | .one c=>(false,[.plain c])
 | .agg cs=>(true,cs.map .plain)
def outs:List SV→List (Bool×List gy)
 |[]=>[]
 |v::vs=>outOf (v.kill fun _=>true)::outs vs
def fin (Θ:gK) (rv:List ResultVar) (st:St):Option Out:=
 match NV Θ (st.freeze (PO st)) rv with
 |some vs=>some ⟨outs vs,none⟩
 |none=>none
theorem PS:∀ (k:Nat) (cs:List Cell),kT k (cs.map .plain)=(cs,[])
 |_,[]=>rfl
 |k,c::cs=>by simp only [List.map_cons,kT,PS (k+1) cs,gy.take,List.append_nil]
theorem aqh (k:Nat) (v:SV):Ac k (outOf v)=(v,[]):=by
 cases v with
 |one c=>rfl
 |agg cs=>simp only [Ac,outOf,PS]
theorem avg (v:Value) (t:TypeId) (b off:Nat) (hv:v= .pointer (some ⟨b,off,none⟩)):Instr.loadAt t v=(do loadVar t (← asAddr v)):=by
 subst hv;rfl
def Kv (tmps:Array Value):ResultVar→Sem Value
 | .tmp t=>pure (tmps.getD t undef)
 | .cell x t=>do loadVar t (← asAddr (tmps.getD x undef))
theorem UR (fn:Func) (tmps:Array Value):results fn tmps=(do let vs ← fn.results.mapM (Kv tmps);pure (if h:vs.size=1 then vs[0] else .tuple vs)):=by
 unfold results
 congr 1
theorem ao4 (hΘ:∀ t ti,Θ t=some ti→nX P t ti) (h:Rel w0 M T γ st a w) {r:ResultVar} {v:SV} (hf:ahM Θ st r=some v):
 ∃ u,(Kv a.tmps r).run P w= .ok u w∧eP (aA w0 T γ st w) v u:=by
 cases r with
 |tmp t=>
  simp only [ahM] at hf
  split at hf
  · next e=>
    cases hf
    have:=h.tmps t
    rw [e] at this
    exact ⟨_,rfl,this⟩
  · cases hf
 |cell x t=>
  simp only [ahM] at hf
  split at hf
  · next ti o off ht hx=>
    split at hf
    · next cs ho=>
      have hv:=h.tmps x
      rw [hx] at hv
      obtain ⟨b,cs',_,_,hv'⟩:=hv
      obtain ⟨u,hu,hr⟩:=PD hΘ h ht (x:= .tmp x) (.inl ⟨o,off,cs,hx,ho,hf⟩)
      refine ⟨u,?_,hr⟩
      rw [Kv,← avg _ t b off hv']
      exact hu
    · cases hf
  · cases hf
theorem NW (hΘ:∀ t ti,Θ t=some ti→nX P t ti) (h:Rel w0 M T γ st a w):∀ (rs:List ResultVar) (vs:List SV),NV Θ st rs=some vs→
 ∃ us,(rs.mapM (Kv a.tmps)).run P w= .ok us w∧
   eX (aA w0 T γ st w) vs us
 |[],vs,hf=>by cases hf;exact ⟨[],rfl,trivial⟩
 |r::rs,vs,hf=>by
  rw [NV] at hf
  split at hf
  · next v vs' h1 h2=>
    cases hf
    obtain ⟨u,hu,hr⟩:=ao4 hΘ h h1
    obtain ⟨us,hus,hrs⟩:=NW hΘ h rs vs' h2
    refine ⟨u::us,?_,hr,hrs⟩
    rw [List.mapM_cons,Sem.run_bind,hu]
    simp only [Result.andThen_ok,Sem.run_bind,hus,Sem.run_pure]
  · cases hf
theorem eX.length {X:V}:∀ (cs:List SV) (vs:List Value),eX X cs vs→vs.length=cs.length
 |[],[],_=>rfl
 |_::cs,_::vs,⟨_,h⟩=>by simp [eX.length cs vs h]
 |[],_::_,H|_::_,[],H=>by cases H
theorem eX.get {X:V}:∀ (cs:List SV) (vs:List Value) (i:Nat) (c:SV),eX X cs vs→cs[i]? =some c→∃ v,vs[i]? =some v∧eP X c v
 |[],_,_,_,_,h=>by simp at h
 |c::cs,v::vs,0,d,⟨h1,_⟩,h=>by simp at h;subst h;exact ⟨v,rfl,h1⟩
 |c::cs,v::vs,i+1,d,⟨_,h2⟩,h=>by
  obtain ⟨u,hu,hr⟩:=eX.get cs vs i d h2 (by simpa using h)
  exact ⟨u,by simpa using hu,hr⟩
 |_::_,[],_,_,H,_=>by cases H
theorem rY.length {X:V}:∀ (cs:List Arg) (vs:List Value),rY X cs vs→vs.length=cs.length
 |[],[],_=>rfl
 |_::cs,_::vs,⟨_,h⟩=>by simp [rY.length cs vs h]
 |[],_::_,H|_::_,[],H=>by cases H
theorem rY.get {X:V}:∀ (cs:List Arg) (vs:List Value) (i:Nat) (c:Arg),rY X cs vs→cs[i]? =some c→∃ v,vs[i]? =some v∧uQ X c v
 |[],_,_,_,_,h=>by simp at h
 |c::cs,v::vs,0,d,⟨h1,_⟩,h=>by simp at h;subst h;exact ⟨v,rfl,h1⟩
 |c::cs,v::vs,i+1,d,⟨_,h2⟩,h=>by
  obtain ⟨u,hu,hr⟩:=rY.get cs vs i d h2 (by simpa using h)
  exact ⟨u,by simpa using hu,hr⟩
 |_::_,[],_,_,H,_=>by cases H
theorem uQ.av {X:V}:∀ (c:Arg) (v:Value),uQ X c v→bI X c.av v
 | .sv _,_,h| .kp _,_,h| .fn _ _,_,h=>h
 | .own _ _ _,_,h| .ptr _,_,h=>h.elim
theorem asX {args:List Arg} {vs:Array Value} {S:Nat→Prop} (n:Nat) (hn:args.length≤n)
 (h:rY ⟨w,w.heap.size,S,fun _=>undef,fun _=>none⟩ args vs.toList):
 Rel w (fun _=>False) ⟨S,fun _=>none,fun _ _ h=>by cases h⟩ (fun _=>undef) (entry n args) {tmps:=vs++Array.replicate (n-vs.size) undef,defers:=[]} w:=by
 have hl:vs.size=args.length:=by simpa using rY.length _ _ h
 refine ⟨fun _ h=>h.elim,rfl,?_,rfl,rfl,rfl,Nat.le_refl _,fun _ _ _=>rfl,fun t=>?_,(fun o x hx=>by cases hx),(fun o x b hx=>by cases hx),(fun o x p y b hx=>by cases hx),(fun o v cs hN=>by cases hN)⟩
 · simp [entry];omega
 · simp only [entry]
   cases ha:args[t]? with
   |none=>trivial
   |some v=>
    obtain ⟨u,hu,hr⟩:=rY.get _ _ t v h ha
    have:(vs++Array.replicate (n-vs.size) undef).getD t undef=u:=by
     have hlt:t<args.length:=by
      rcases Nat.lt_or_ge t args.length with h'|h'
      · exact h'
      · rw [List.getElem?_eq_none h'] at ha;cases ha
     have hlt':t<vs.size:=by omega
     rw [Array.getD_eq_getD_getElem?,Array.getElem?_append_left hlt']
     have:vs[t]? =some u:=by simpa using hu
     rw [this];rfl
    rw [this]
    exact uQ.av v u hr
end Go.Fw
namespace Go.Fw
def codeOf (fn:Func):Code:=match fn.body with|some c=>c|none=> .skip
def ahN:List (Nat×TI)→gK
 |[],_=>none
 |(t,x)::r,i=>match Nat.beq i t with|true=>some x|false=>ahN r i
def ay:List (Nat×Qv)→aB
 |[],_=>none
 |(t,x)::r,i=>match Nat.beq i t with|true=>some x|false=>ay r i
def arP:List (Nat×JA)→Nat→Option JA
 |[],_=>none
 |(t,x)::r,i=>match Nat.beq i t with|true=>some x|false=>arP r i
def auS:List (Nat×List Pre)→Nat→List Pre
 |[],_=>[]
 |(n,z)::r,i=>match Nat.beq i n with|true=>z|false=>auS r i
def hints (own:List Nat) (l c:List (Nat×JA)) (u:List Nat) (z:List (Nat×List Pre)):Hints:=⟨bf own,arP l,arP c,u,auS z⟩
end Go.Fw
namespace Go.Fw
open Go
variable {P:Program} {Θ:gK} {Γ:aB}
inductive wC where
 |one (c:iI)
 |agg (l:List iI)
@[reducible] def wC.den:wC→Type
  | .one c=>c.den
  | .agg l=>oD l
def wC.val:(s:wC)→s.den→SV
 | .one c,x=> .one (c.cell x)
 | .agg l,x=> .agg (iT l x)
def wC.read:(s:wC)→SV→Option s.den
 | .one c, .one x=>c.read x
 | .agg l, .agg xs=>kU l xs
 |_,_=>none
theorem wC.weak {X:V} (s:wC) (x:SV) (d:s.den) (v:Value) (hr:s.read x=some d) (hv:eP X x v):eP X (s.val d) v:=by
 unfold wC.read at hr
 split at hr
 · exact iI.weak _ _ _ _ hr hv
 · obtain ⟨vs,e,h⟩:=hv
   exact ⟨vs,e,Gf _ _ _ _ hr h⟩
 · cases hr
@[reducible] def zS:List wC→Type
  |[]=>Unit
  |s::r=>s.den×zS r
def wL:(l:List wC)→zS l→List SV
 |[],_=>[]
 |s::r,x=>s.val x.1::wL r x.2
def SG:(l:List wC)→List SV→Option (zS l)
 |[],[]=>some ()
 |s::r,x::xs=>match s.read x,SG r xs with
  |some a,some b=>some (a,b)
  |_,_=>none
 |_,_=>none
theorem asY {X:V}:∀ (l:List wC) (xs:List SV) (d:zS l) (vs:List Value),SG l xs=some d→eX X xs vs→eX X (wL l d) vs
 |[],[],_,_,_,hv=>hv
 |s::r,x::xs,d,vs,hr,hv=>by
  rw [SG] at hr
  split at hr
  · next a b h1 h2=>
    cases hr
    cases vs with
    |nil=>cases hv
    |cons v vs=>exact ⟨wC.weak s x a v h1 hv.1,asY r xs b vs h2 hv.2⟩
  · cases hr
 |[],_::_,_,_,hr,_=>by simp [SG] at hr
 |_::_,[],_,_,hr,_=>by simp [SG] at hr
mutual
def CT.xH:(c:CT)→c.den→Prop
 | .int k,(n:Int)=>k.min≤n∧n≤k.max
 | .bool,_=>True
 | .str,(s:Bytes)=>s.length≤maxLen
 | .sl _ r,(l:List r.den)=>l.length≤maxLen∧∀ x∈l,r.xH x
def aN.xH:(r:aN)→r.den→Prop
 | .nil,_=>True
 | .cons c r,x=>c.xH x.1∧r.xH x.2
end
mutual
theorem jJ.xH {h:Array Obj} {S:Nat→Prop}:∀ (c:CT) (v:Value) (x:c.den),jJ h S c v x→c.xH x
 | .int k,v,(n:Int),H=>by rw [jJ] at H;rw [CT.xH];exact H.2
 | .bool,v,(b:Bool),H=>by rw [CT.xH];trivial
 | .str,v,(s:Bytes),H=>by rw [jJ] at H;rw [CT.xH];exact H.2
 | .sl e r,v,(l:List r.den),H=>by
   rw [jJ] at H
   rw [CT.xH]
   refine ⟨H.1,fun x hx=>?_⟩
   obtain ⟨i,hi,rfl⟩:=List.mem_iff_getElem.1 hx
   rcases H.2 with ⟨hnil,_⟩|⟨b,off,cap,cs,t,fz,_,_,_,_,hr⟩
   · subst hnil;simp at hi
   · exact bK.xH r _ _ (hr i _ (List.getElem?_eq_getElem hi))
theorem bK.xH {h:Array Obj} {S:Nat→Prop}:∀ (r:aN) (vs:List Value) (x:r.den),bK h S r vs x→r.xH x
 | .nil,vs,_,H=>by rw [aN.xH];trivial
 | .cons c r,vs,(x,y),H=>by
   rw [bK] at H
   obtain ⟨v,vs',_,h1,h2⟩:=H
   rw [aN.xH]
   exact ⟨jJ.xH c v x h1,bK.xH r vs' y h2⟩
end
def iI.xH:(c:iI)→c.den→Prop
 | .int k,(n:Int)=>k.min≤n∧n≤k.max
 | .str,(s:Bytes)=>s.length≤maxLen
 | .sl _ r _,(l:List r.den)=>l.length≤maxLen∧∀ x∈l,r.xH x
 |_,_=>True
def ab6:(l:List iI)→oD l→Prop
 |[],_=>True
 |c::r,x=>c.xH x.1∧ab6 r x.2
def wC.xH:(s:wC)→s.den→Prop
 | .one c,x=>c.xH x
 | .agg l,x=>ab6 l x
theorem iI.ab7 {X:V} (c:iI) (x:c.den) (v:Value) (h:bC X (c.cell x) v):c.xH x:=by
 cases c with
 |int k=>exact h.2
 |str=>exact h.2
 |sl e r fr=>
  have h':jJ X.w.heap (X.dH fr) (.sl e r) v x:=h
  have:=jJ.xH (.sl e r) v x h'
  rw [CT.xH] at this
  exact this
 |_=>trivial
theorem Kw {X:V}:∀ (l:List iI) (x:oD l) (vs:List Value),ax X (iT l x) vs→ab6 l x
 |[],_,_,_=>trivial
 |c::r,x,v::vs,h=>⟨iI.ab7 c x.1 v h.1,Kw r x.2 vs h.2⟩
 |_::_,_,[],h=>by cases h
inductive jr where
 |v (s:wC)
 |kp (l:List iI)
 |fn (f:FuncId) (l:List (List iI))
@[reducible] def jr.den:jr→Type
  | .v s=>s.den
  | .kp l=>oD l
  | .fn _ l=>Eo l
def jr.val:(s:jr)→s.den→Arg
 | .v s,x=> .sv (s.val x)
 | .kp l,x=> .kp (iT l x)
 | .fn f l,x=> .fn f (Kt l x)
def jr.read:(s:jr)→Arg→Option s.den
 | .v s, .sv x=>s.read x
 | .kp l, .kp xs=>kU l xs
 | .fn f l, .fn g xs=>match Nat.beq f g with|true=>GL l xs|false=>none
 |_,_=>none
theorem jr.weak {X:V} (s:jr) (x:Arg) (d:s.den) (v:Value) (hr:s.read x=some d) (hv:uQ X x v):uQ X (s.val d) v:=by
 unfold jr.read at hr
 split at hr
 · exact wC.weak _ _ _ _ hr hv
 · obtain ⟨b,e,hk⟩:=hv
   exact ⟨b,e,amQ hr hk⟩
 · split at hr
   · next hb=>
     obtain ⟨us,e,hk⟩:=hv
     rw [jr.val,Nat.eq_of_beq_eq_true hb]
     exact ⟨us,e,ZG _ _ _ _ hr hk⟩
   · cases hr
 · cases hr
@[reducible] def pI:List jr→Type
  |[]=>Unit
  |s::r=>s.den×pI r
def zL:(l:List jr)→pI l→List Arg
 |[],_=>[]
 |s::r,x=>s.val x.1::zL r x.2
def Iy:(l:List jr)→List Arg→Option (pI l)
 |[],[]=>some ()
 |s::r,x::xs=>match s.read x,Iy r xs with
  |some a,some b=>some (a,b)
  |_,_=>none
 |_,_=>none
theorem asZ {X:V}:∀ (l:List jr) (xs:List Arg) (d:pI l) (vs:List Value),Iy l xs=some d→rY X xs vs→rY X (zL l d) vs
 |[],[],_,_,_,hv=>hv
 |s::r,x::xs,d,vs,hr,hv=>by
  rw [Iy] at hr
  split at hr
  · next a b h1 h2=>
    cases hr
    cases vs with
    |nil=>cases hv
    |cons v vs=>exact ⟨jr.weak s x a v h1 hv.1,asZ r xs b vs h2 hv.2⟩
  · cases hr
 |[],_::_,_,_,hr,_=>by simp [Iy] at hr
 |_::_,[],_,_,hr,_=>by simp [Iy] at hr
theorem WS:∀ (l:List jr) (d:pI l),(zL l d).length=l.length
 |[],_=>rfl
 |_::r,d=>by simp [zL,WS r d.2]
def ak3:(l:List (List iI))→Eo l→Prop
 |[],_=>True
 |c::r,x=>ab6 c x.1∧ak3 r x.2
def jr.xH:(s:jr)→s.den→Prop
 | .v s,x=>s.xH x
 | .kp l,x=>ab6 l x
 | .fn _ l,x=>ak3 l x
def MG:(l:List jr)→pI l→Prop
 |[],_=>True
 |s::r,x=>s.xH x.1∧MG r x.2
theorem aeb {X:V}:∀ (l:List (List iI)) (x:Eo l) (us:List Value),fJ X (Kt l x) us→ak3 l x
 |[],_,_,_=>trivial
 |c::r,x,u::us,h=>by
  obtain ⟨⟨b,hu,arr,t,fz,hf,hh,hc⟩,h2⟩:=h
  exact ⟨Kw c x.1 _ hc,aeb r x.2 us h2⟩
 |_::_,_,[],h=>by cases h
theorem ET {X:V}:∀ (l:List jr) (x:pI l) (vs:List Value),rY X (zL l x) vs→MG l x
 |[],_,_,_=>trivial
 | .v (.one c)::r,x,v::vs,h=>⟨iI.ab7 c x.1 v h.1,ET r x.2 vs h.2⟩
 | .v (.agg l)::r,x,v::vs,h=>by
   obtain ⟨ws,hv,hc⟩:=h.1
   exact ⟨Kw l x.1 _ hc,ET r x.2 vs h.2⟩
 | .kp l::r,x,v::vs,h=>by
   obtain ⟨b,hu,arr,t,fz,hf,hh,hc⟩:=h.1
   exact ⟨Kw l x.1 _ hc,ET r x.2 vs h.2⟩
 | .fn f l::r,x,v::vs,h=>by
   obtain ⟨us,hv,hk⟩:=h.1
   exact ⟨aeb l x.1 _ hk,ET r x.2 vs h.2⟩
 |_::_,_,[],h=>by cases h
def MH (sh:List jr) (F:pI sh→Prop×Out):WL:=fun args=>
 match Iy sh args with
 |some x=>some (F x)
 |none=>none
end Go.Fw
namespace Go.Fw
open Go
variable {P:Program} {Θ:gK} {Γ:aB}
def DF:List SV→List (Bool×List gy)
 |[]=>[]
 |v::vs=>outOf v::DF vs
theorem SH:∀ (k:Nat) (vs:List SV),jg k (DF vs)=(vs,[])
 |_,[]=>rfl
 |k,v::vs=>by simp only [DF,jg,aqh,SH,List.append_nil]
def ahO (Θ:gK) (rv:List ResultVar) (dO:List wC) (K:zS dO→Prop) (e:Exit) (st:St):Prop:=
 match e with
 | .normal| .ret=>match NV Θ (st.freeze (PO st)) rv with
   |some vs=>match SG dO (vs.map (SV.kill fun _=>true)) with
    |some d=>K d
    |none=>False
   |none=>False
 |_=>False
theorem avh {G:kQ} (hE:EnvB P G Θ Γ) (hm:P.follows .mixedOrders=true) {f:FuncId} {fn:Func} {c:Code} (hf:P.funcs[f]? =some fn) (hb:fn.body=some c) (H:Hints) {con:WL} {dO:List wC}
 (hwalk:∀ args p out,con args=some (p,out)→p→Nat.ble args.length fn.ntmps=true∧∃ d:zS dO,out=⟨DF (wL dO d),none⟩∧Iw Θ Γ H c (ahO Θ fn.results.toList dO fun y=>y=d) (entry fn.ntmps args)):uH P G f con:=by
 intro args p out k S vs w hcon hp hG hrep
 obtain ⟨hn,d,hout,hw⟩:=hwalk args p out hcon hp
 subst hout
 have hn':args.length≤fn.ntmps:=by simpa [Nat.ble_eq] using hn
 refine calls_of_wp hf hb (ZJ ⟨hE,hG,fun b hb=>hb.elim⟩ hm H c _ _ _ _ _ _ (asX (S:=S) fn.ntmps hn' hrep) hw ?_)
 have hret:∀ s γ' a' w',ahO Θ fn.results.toList dO (fun y=>y=d) .ret s→Rel w (fun _=>False) ⟨S,fun _=>none,fun _ _ h=>by cases h⟩ γ' s a' w'→bodyPost P fn (fun e w'=>∃ v vals,e= .returned v∧w'.os=w.os∧w'.tape=w.tape∧w'.output=w.output∧w.heap.size≤w'.heap.size∧
  (∀ b,b<w.heap.size→w'.heap[b]? =w.heap[b]?)∧
  bI ⟨w',w.heap.size,S,vals,look (Out.take k ⟨DF (wL dO d),none⟩).2⟩ (Out.take k ⟨DF (wL dO d),none⟩).1 v∧
  (∀ o x,look (Out.take k ⟨DF (wL dO d),none⟩).2 o=some x→bV ⟨w',w.heap.size,S,vals,look (Out.take k ⟨DF (wL dO d),none⟩).2⟩ o x∧∀ b,blk (vals o)=some b→w.heap.size≤b∧b<w'.heap.size)∧
  (∀ o x q y b,look (Out.take k ⟨DF (wL dO d),none⟩).2 o=some x→look (Out.take k ⟨DF (wL dO d),none⟩).2 q=some y→o≠q→blk (vals o)=some b→blk (vals q)≠some b)) .ret a' w':=by
  intro s γ' a' w' he hR
  refine ⟨hR.defers,?_⟩
  simp only [ahO] at he
  split at he
  · next svs hvs=>
    split at he
    · next y hy=>
      subst he
      have hRf:=hR.freeze (PO s)
      obtain ⟨us,hus,hrs⟩:=NW hE.types hRf _ _ hvs
      have hk0:=eX.kill (fun _=>true) hRf svs us hrs
      have hk:=asY dO _ y us hy hk0
      have htake:Out.take k ⟨DF (wL dO y),none⟩=(match wL dO y with|[v]=> .sv v|l=> .pO l,[]):=by
       unfold Out.take
       simp only [SH]
       rcases wL dO y with _|⟨v,_|⟨v2,r⟩⟩<;>rfl
      have hmap:(fn.results.mapM (Kv a'.tmps)).run P w'= .ok us.toArray w':=by
       rw [Array.mapM_eq_mapM_toList,Sem.run_map,hus]
       rfl
      refine ⟨if h:us.toArray.size=1 then us.toArray[0] else .tuple us.toArray,?_,_,γ',rfl,hR.os,hR.tape,hR.output,hR.grow,fun b hb=>hR.kept b hb (fun h=>h),?_,?_,?_⟩
      · rw [UR,Sem.run_bind,hmap]
        simp only [Result.andThen_ok,Sem.run_pure]
      · rw [htake]
        have hl:=eX.length _ _ hk
        match hm:wL dO y,us,hk,hl with
        |[v],[u],hk,_=>exact hk.1
        |[],[],hk,_=>exact ⟨_,by simp,hk⟩
        |v::v2::r,u::u2::us,hk,hl=>exact ⟨_,by simp,hk⟩
        |[],_::_,hk,h4|_::_,[],hk,h4|[_],_::_::_,hk,h4|_::_::_,[_],hk,h4=>simp at h4
      · intro o x hx;rw [htake] at hx;cases hx
      · intro o x q y b hx;rw [htake] at hx;cases hx
    · exact he.elim
  · exact he.elim
 intro e s γ' a' w' he hR
 cases e with
 |normal=>exact hret s γ' a' w' he hR
 |ret=>exact hret s γ' a' w' he hR
 |_=>exact he.elim
def FN (sh:List jr) (dO:List wC) (F:pI sh→Prop×zS dO):WL:=MH sh fun x=>((F x).1,⟨DF (wL dO (F x).2),none⟩)
theorem ak4 {G:kQ} (hE:EnvB P G Θ Γ) (hm:P.follows .mixedOrders=true) {f:FuncId} {fn:Func} {c:Code} (hf:P.funcs[f]? =some fn) (hb:fn.body=some c) (H:Hints)
 {sh:List jr} {dO:List wC} {F:pI sh→Prop×zS dO} (hn:Nat.ble sh.length fn.ntmps=true)
 (hwalk:∀ x,MG sh x→(F x).1→Iw Θ Γ H c (ahO Θ fn.results.toList dO fun y=>y=(F x).2) (entry fn.ntmps (zL sh x))):uH P G f (FN sh dO F):=by
 have base:∀ x,MG sh x→uH P G f (fun args=>@ite _ (args=zL sh x) (Classical.propDecidable _) (some ((F x).1,⟨DF (wL dO (F x).2),none⟩)) none):=by
  intro x hin
  refine avh (dO:=dO) hE hm hf hb H ?_
  intro args p out hcon hp
  split at hcon
  · next e=>
    have hF:((F x).1,(⟨DF (wL dO (F x).2),none⟩:Out))=(p,out):=by simpa using hcon
    have h1:(F x).1=p:=congrArg Prod.fst hF
    have h2:(⟨DF (wL dO (F x).2),none⟩:Out)=out:=congrArg Prod.snd hF
    have:=hwalk x hin (by rw [h1];exact hp)
    rw [e]
    exact ⟨by rw [WS];exact hn,(F x).2,h2.symm,this⟩
  · cases hcon
 intro args p out k S vs w hcon hp hG hrep
 unfold FN MH at hcon
 split at hcon
 · next x hx=>
   have hv:=asZ sh args x vs.toList hx hrep
   exact base x (ET sh x _ hv) (zL sh x) p out k S vs w (by simp only [if_true];exact hcon) hp hG hv
 · cases hcon
end Go.Fw
namespace Go.Fw
open Go
variable {P:Program} {Θ:gK} {Γ:aB}
inductive RC where
 |c (s:iI)
 |own (e:TypeId) (r:aN) (fr:Bool)
@[reducible] def RC.den:RC→Type
  | .c s=>s.den
  | .own _ r _=>List r.den
@[reducible] def ahP:List RC→Type
  |[]=>Unit
  |c::r=>c.den×ahP r
def RC.arQ:(c:RC)→c.den→gy
 | .c s,x=> .plain (s.cell x)
 | .own e r fr,l=> .own e r l fr
def ak5:(l:List RC)→ahP l→List gy
 |[],_=>[]
 |c::r,x=>c.arQ x.1::ak5 r x.2
inductive uI where
 |one (c:RC)
 |agg (l:List RC)
@[reducible] def uI.den:uI→Type
  | .one c=>c.den
  | .agg l=>ahP l
@[reducible] def pz:List uI→Type
  |[]=>Unit
  |s::r=>s.den×pz r
def uI.out:(s:uI)→s.den→Bool×List gy
 | .one c,x=>(false,[c.arQ x])
 | .agg l,x=>(true,ak5 l x)
def jk:(l:List uI)→pz l→List (Bool×List gy)
 |[],_=>[]
 |s::r,x=>s.out x.1::jk r x.2
def RC.name:RC→Cell→Option Nat
 | .own _ _ _, .ref o=>some o
 |_,_=>none
def ak6:List RC→List Cell→List (Option Nat)
 |c::r,x::xs=>c.name x::ak6 r xs
 |_,_=>[]
def uI.names:uI→SV→List (Option Nat)
 | .one c, .one x=>[c.name x]
 | .agg l, .agg xs=>ak6 l xs
 |_,_=>[]
def Ep:List uI→List SV→List (Option Nat)
 |s::r,x::xs=>s.names x++Ep r xs
 |_,_=>[]
def RC.read (st:St):(c:RC)→Cell→Option c.den
 | .c s,x=>match x.refs with|[]=>s.read x|_=>none
 | .own e r fr, .ref o=>match st.ak o with
   |some (.arr f s l g)=>match Nat.beq e f&&NU fr g with
    |true=>if h:s.beq r=true then some (zk h l) else none
    |false=>none
   |_=>none
 | .own _ r _, .nil=>match Nat.ble 1 r.len with|true=>some []|false=>none
 |_,_=>none
def SI (st:St):(l:List RC)→List Cell→Option (ahP l)
 |[],[]=>some ()
 |c::r,x::xs=>match c.read st x,SI st r xs with
  |some a,some b=>some (a,b)
  |_,_=>none
 |_,_=>none
def uI.read (st:St):(s:uI)→SV→Option s.den
 | .one c, .one x=>c.read st x
 | .agg l, .agg xs=>SI st l xs
 |_,_=>none
def EU (st:St):(l:List uI)→List SV→Option (pz l)
 |[],[]=>some ()
 |s::r,x::xs=>match s.read st x,EU st r xs with
  |some a,some b=>some (a,b)
  |_,_=>none
 |_,_=>none
inductive gZ where
 |p (s:jr)
 |own (e:TypeId) (r:aN)
 |ptr (l:List iI)
@[reducible] def gZ.den:gZ→Type
  | .p s=>s.den
  | .own _ r=>List r.den
  | .ptr l=>oD l
def gZ.mode:gZ→Mode
 | .p _=> .val
 | .own _ _=> .own
 | .ptr _=> .ptr
def gZ.val:(s:gZ)→s.den→Arg
 | .p s,x=>s.val x
 | .own e r,l=> .own e r l
 | .ptr l,x=> .ptr (iT l x)
def gZ.read:(s:gZ)→Arg→Option s.den
 | .p s,x=>s.read x
 | .own e r, .own f s l=>match Nat.beq e f with
   |true=>if h:s.beq r=true then some (zk h l) else none
   |false=>none
 | .ptr l, .ptr cs=>kU l cs
 |_,_=>none
@[reducible] def jV:List gZ→Type
  |[]=>Unit
  |s::r=>s.den×jV r
def yB:(l:List gZ)→jV l→List Arg
 |[],_=>[]
 |s::r,x=>s.val x.1::yB r x.2
def jl:(l:List gZ)→List Arg→Option (jV l)
 |[],[]=>some ()
 |s::r,x::xs=>match s.read x,jl r xs with
  |some a,some b=>some (a,b)
  |_,_=>none
 |_,_=>none
@[reducible] def ou:List gZ→Type
  |[]=>Unit
  | .ptr l::r=>oD l×ou r
  | .p _::r| .own _ _::r=>ou r
def jm:(l:List gZ)→ou l→List Eff
 |[],_=>[]
 | .ptr l::r,x=> .var (iT l x.1)::jm r x.2
 | .p _::r,x| .own _ _::r,x=> .lose::jm r x
def Ky (st:St):(i:Nat)→(l:List gZ)→Option (ou l)
 |_,[]=>some ()
 |i, .ptr l::r=>match st.ak (i*64+48),Ky st (i+1) r with
  |some (.var cs),some b=>match cs.flatMap Cell.refs,kU l cs with
   |[],some a=>some (a,b)
   |_,_=>none
  |_,_=>none
 |i, .p _::r|i, .own _ _::r=>Ky st (i+1) r
def Arg.avX (i:Nat):Arg→AV
 | .own _ _ _=> .sv (.one (.ref (i*64+49)))
 | .ptr _=> .cZ (i*64+48) 0
 |a=>a.av
def Gh (n:Nat) (args:List Arg):St:=
 {n:=n,tmps:=fun t=>match args[t]? with|some v=>v.avX t|none=> .undef,ak:=dP args}
def ahQ (st:St) (W:List (Option Nat)) (o:Nat):Bool:=PO st o&&!(Zl o W)
def aom (Θ:gK) (rv:List ResultVar) (sh:List gZ) (dO:List uI) (K:pz dO×ou sh→Prop) (e:Exit) (st:St):Prop:=
 match e with
 | .normal| .ret=>match NV Θ st rv with
   |some svs=>match NV Θ (st.freeze (ahQ st (Ep dO svs))) rv with
    |some vs=>match Cm (Ep dO vs),EU (st.freeze (ahQ st (Ep dO svs))) dO vs,Ky (st.freeze (ahQ st (Ep dO svs))) 0 sh with
     |true,some d,some b=>K (d,b)
     |_,_,_=>False
    |none=>False
   |none=>False
 |_=>False
def uD (sh:List gZ) (dO:List uI) (F:jV sh→Prop×(pz dO×ou sh→Prop)):Ib:=fun args=>
 match jl sh args with
 |some x=>some ((F x).1,⟨pz dO×ou sh,(F x).2,fun t=>⟨jk dO t.1,none⟩,fun t=>jm sh t.2⟩)
 |none=>none
def EP (sh:List gZ):List Mode:=sh.map gZ.mode
end Go.Fw
namespace Go.Fw
open Go
variable {P:Program} {w0:World} {M:Nat→Prop} {T:Ext} {γ γ':Nat→Value} {st:St} {a:Act} {w w':World} {Θ:gK} {Γ:aB}
def ak7 (args:List Arg) (γ:Nat→Value) (o:Nat):Option Value:=match dP args o with|some (.var _)=>some (γ o)|_=>none
theorem at1 {args:List Arg} {o:Nat} {cs:List Cell} (h:dP args o=some (.var cs)):o%64=48:=by
 unfold dP at h
 split at h
 · split at h<;>cases h
 · split at h
   · next hm=>exact Nat.eq_of_beq_eq_true hm
   · cases h
 · cases h
def ZK (args:List Arg) (γ:Nat→Value) (S:Nat→Prop):Ext where
 S:=fun b=>S b∨zK (dP args) γ b
 N:=ak7 args γ
 n48:=by
  intro p v h
  unfold ak7 at h
  split at h
  · next cs hc=>exact at1 hc
  · cases h
theorem Az.get {X:V}:∀ (as:List Arg) (vs:List Value) (i:Nat),Az X i as vs→as.length=vs.length∧∀ (j:Nat) (b:Arg),as[j]? =some b→∃ v,vs[j]? =some v∧NM X (i+j) b v
 |[],[],_,_=>⟨rfl,fun j b h=>by simp at h⟩
 |x::as,v::vs,i,⟨h1,h2⟩=>by
  obtain ⟨g1,g2⟩:=Az.get as vs (i+1) h2
  refine ⟨by simp [g1],fun j b hb=>?_⟩
  cases j with
  |zero=>simp at hb;subst hb;exact ⟨v,rfl,h1⟩
  |succ j=>
   obtain ⟨u,hu,hr⟩:=g2 j b (by simpa using hb)
   exact ⟨u,by simpa using hu,by rw [show i+(j+1)=i+1+j by omega];exact hr⟩
 |[],_::_,_,H|_::_,[],_,H=>by cases H
theorem NM.av {X:V} (i:Nat):∀ (c:Arg) (v:Value),NM X i c v→bI X (c.avX i) v
 | .own _ _ _,_,h=>h
 | .ptr _,_,h=>h
 | .sv _,_,h| .kp _,_,h| .fn _ _,_,h=>h
theorem ahR {args:List Arg} {vs:Array Value} {S:Nat→Prop} (n:Nat) (hn:args.length≤n)
 (h:Az ⟨w,w.heap.size,S,γ,dP args⟩ 0 args vs.toList)
 (ho:∀ o x,dP args o=some x→bV ⟨w,w.heap.size,S,γ,dP args⟩ o x∧∀ b,blk (γ o)=some b→b<w.heap.size)
 (hs:∀ o x q y b,dP args o=some x→dP args q=some y→o≠q→blk (γ o)=some b→blk (γ q)≠some b):
 Rel w (zK (dP args) γ) (ZK args γ S) γ (Gh n args) {tmps:=vs++Array.replicate (n-vs.size) undef,defers:=[]} w:=by
 obtain ⟨hl0,hget⟩:=Az.get _ _ 0 h
 have hl:vs.size=args.length:=by simpa using hl0.symm
 have le:V.le ⟨w,w.heap.size,S,γ,dP args⟩ ⟨w,w.heap.size,(ZK args γ S).S,γ,dP args⟩:=
  ⟨Nat.le_refl _,fun b hb=>⟨⟨hb.1,fun hlt=> .inl (hb.2.1 hlt),hb.2.2⟩,rfl⟩,fun o cs hx=>⟨⟨cs,hx⟩,rfl⟩,fun o e r l fr hx=>⟨⟨l,fr,hx⟩,rfl⟩⟩
 refine ⟨fun b hb=> .inr hb,rfl,?_,rfl,rfl,rfl,Nat.le_refl _,fun _ _ _=>rfl,fun t=>?_,fun o x hx=>bV.mono le o x (fun _ _=>rfl) rfl (ho o x hx).1,fun o x b hx hb=>⟨(ho o x hx).2 b hb, .inr ⟨o,x,hx,hb⟩⟩,fun o x p y b hx hy hop hb=>hs o x p y b hx hy hop hb,fun o v cs hN hx=>?_⟩
 · simp [Gh];omega
 · simp only [Gh]
   cases ha:args[t]? with
   |none=>trivial
   |some v=>
    obtain ⟨u,hu,hr⟩:=hget t v ha
    have:(vs++Array.replicate (n-vs.size) undef).getD t undef=u:=by
     have hlt:t<args.length:=by
      rcases Nat.lt_or_ge t args.length with h'|h'
      · exact h'
      · rw [List.getElem?_eq_none h'] at ha;cases ha
     have hlt':t<vs.size:=by omega
     rw [Array.getD_eq_getD_getElem?,Array.getElem?_append_left hlt']
     have:vs[t]? =some u:=by simpa using hu
     rw [this];rfl
    rw [this]
    rw [Nat.zero_add] at hr
    exact bI.mono le _ _ (NM.av t v u hr)
 · have hx':dP args o=some (.var cs):=hx
   have hN':ak7 args γ o=some v:=hN
   unfold ak7 at hN'
   rw [hx'] at hN'
   exact Option.some.inj hN'
def AW (a a':Arg):Prop:=
 (∃ e r l,a= .own e r l∧a'= .own e r l)∨(∃ cs cs',a= .ptr cs∧a'= .ptr cs'∧∀ (X:V) vs,ax X cs vs→ax X cs' vs)∨
 ((∀ (X:V) v,bI X a.av v→bI X a'.av v)∧(∀ i,a.avX i=a.av)∧(∀ i,a'.avX i=a'.av)∧(∀ e r l,a≠ .own e r l)∧(∀ cs,a≠ .ptr cs)∧(∀ e r l,a'≠ .own e r l)∧(∀ cs,a'≠ .ptr cs))
theorem jr.arR {s:jr} {x:Arg} {d:s.den} (h:s.read x=some d):AW x (s.val d):=by
 refine .inr (.inr ⟨fun X v hv=>?_,?_⟩)
 · have hx:uQ X x v:=by
    cases x with
    |sv _|kp _|fn _ _=>exact hv
    |own _ _ _|ptr _=>cases s<;>simp [jr.read] at h
   exact uQ.av _ _ (jr.weak s x d v h hx)
 · cases x<;>cases s<;>first
    |(simp [jr.read] at h;done)
    |exact ⟨fun _=>rfl,fun _=>rfl,(fun _ _ _ e=>by cases e),(fun _ e=>by cases e),(fun _ _ _ e=>by cases e),(fun _ e=>by cases e)⟩
theorem gZ.arR {s:gZ} {x:Arg} {d:s.den} (h:s.read x=some d):AW x (s.val d):=by
 unfold gZ.read at h
 split at h
 · exact jr.arR h
 · next e r f s l=>
   split at h
   · next hb=>
     split at h
     · next hs=>
       cases h
       have he:=Nat.eq_of_beq_eq_true hb
       subst he
       have hsr:=aN.eq_of_beq s r hs
       subst hsr
       exact .inl ⟨e,s,l,rfl,rfl⟩
     · cases h
   · cases h
 · next l cs=>exact .inr (.inl ⟨cs,_,rfl,rfl,fun X vs hc=>Gf _ _ _ _ h hc⟩)
 · cases h
theorem MI:∀ {l:List gZ} {xs:List Arg} {d:jV l},jl l xs=some d→(yB l d).length=xs.length∧∀ (i:Nat) (a:Arg),xs[i]? =some a→∃ a',(yB l d)[i]? =some a'∧AW a a'
 |[],[],_,_=>⟨rfl,fun i a h=>by simp at h⟩
 |s::r,x::xs,d,h=>by
  rw [jl] at h
  split at h
  · next a b h1 h2=>
    cases h
    obtain ⟨g1,g2⟩:=MI h2
    refine ⟨by simp [yB,g1],fun i c hc=>?_⟩
    cases i with
    |zero=>simp at hc;subst hc;exact ⟨_,rfl,gZ.arR h1⟩
    |succ i=>
     obtain ⟨c',k1,k2⟩:=g2 i c (by simpa using hc)
     exact ⟨c',by simpa [yB] using k1,k2⟩
  · cases h
 |[],_::_,_,h=>by simp [jl] at h
 |_::_,[],_,h=>by simp [jl] at h
theorem PU {args:List Arg} {o:Nat} (h:∀ b,args[o / 64]? =some b→(∀ e r l,b≠ .own e r l)∧∀ cs,b≠ .ptr cs):dP args o=none:=by
 unfold dP
 split
 · next e r l ha=>exact ((h _ ha).1 e r l rfl).elim
 · next cs ha=>exact ((h _ ha).2 cs rfl).elim
 · rfl
theorem WT {sh:List gZ} {args:List Arg} {x:jV sh} (h:jl sh args=some x) (n:Nat):Covers (Gh n (yB sh x)) (Gh n args):=by
 obtain ⟨hl,hget⟩:=MI h
 refine ⟨rfl,fun t X v hv=>?_,fun o=>?_⟩
 · simp only [Gh] at hv ⊢
   cases ha:args[t]? with
   |none=>
    have:(yB sh x)[t]? =none:=by
     rw [List.getElem?_eq_none_iff] at ha ⊢;omega
    rw [this];trivial
   |some b=>
    obtain ⟨b',hb',hw⟩:=hget t b ha
    rw [ha] at hv
    rw [hb']
    dsimp only at hv ⊢
    rcases hw with ⟨e,r,l,rfl,rfl⟩|⟨cs,cs',rfl,rfl,_⟩|⟨hw,e1,e2,_⟩
    · exact hv
    · exact hv
    · rw [e1] at hv;rw [e2];exact hw X v hv
 · show (dP (yB sh x) o=none∧dP args o=none)∨∃ y y',dP args o=some y∧dP (yB sh x) o=some y'∧Jz y y'
   cases ha:args[o / 64]? with
   |none=>
    have h2:(yB sh x)[o / 64]? =none:=by
     rw [List.getElem?_eq_none_iff] at ha ⊢;omega
    exact .inl ⟨PU (by rw [h2];intro b hb;cases hb),PU (by rw [ha];intro b hb;cases hb)⟩
   |some b=>
    obtain ⟨b',hb',hw⟩:=hget _ b ha
    rcases hw with ⟨e,r,l,rfl,rfl⟩|⟨cs,cs',rfl,rfl,hc⟩|⟨_,_,_,n1,n2,n3,n4⟩
    · unfold dP
      rw [ha,hb']
      dsimp only
      cases hm:Nat.beq (o%64) 49 with
      |true=>exact .inr ⟨_,_,rfl,rfl, .inr ⟨e,r,l,false,false,rfl,rfl,id⟩⟩
      |false=>exact .inl ⟨rfl,rfl⟩
    · unfold dP
      rw [ha,hb']
      dsimp only
      cases hm:Nat.beq (o%64) 48 with
      |true=>exact .inr ⟨_,_,rfl,rfl, .inl ⟨cs,cs',rfl,rfl,hc⟩⟩
      |false=>exact .inl ⟨rfl,rfl⟩
    · exact .inl ⟨PU (by rw [hb'];intro c hc;cases hc;exact ⟨n3,n4⟩),PU (by rw [ha];intro c hc;cases hc;exact ⟨n1,n2⟩)⟩
theorem aec (a b:List (Nat×aQ)) (p:Nat):look (a++b) p=match look b p with|some y=>some y|none=>look a p:=by
 induction a with
 |nil=>simp only [List.nil_append,look];cases look b p<;>rfl
 |cons x a ih=>
  obtain ⟨o,z⟩:=x
  rw [List.cons_append,look,ih,look]
  cases look b p<;>rfl
theorem zl:∀ (cs:List gy) (k p:Nat) (x:aQ),look (kT k cs).2 p=some x↔∃ i e r l fr,p=k+i∧cs[i]? =some (.own e r l fr)∧x= .arr e r l fr
 |[],k,p,x=>by simp [kT,look]
 |c::cs,k,p,x=>by
  rw [kT,aec]
  have ih:=zl cs (k+1) p x
  constructor
  · intro h
    split at h
    · next y hy=>
      cases h
      obtain ⟨i,e,r,l,fr,h1,h2,h3⟩:=(zl cs (k+1) p x).1 hy
      exact ⟨i+1,e,r,l,fr,by omega,by simpa using h2,h3⟩
    · next hn=>
      cases c with
      |plain c=>simp [gy.take,look] at h
      |own e r l fr=>
       simp only [gy.take,look] at h
       split at h
       · next hb=>
         cases h
         exact ⟨0,e,r,l,fr,by have:=Nat.eq_of_beq_eq_true hb;omega,rfl,rfl⟩
       · cases h
  · rintro ⟨i,e,r,l,fr,h1,h2,rfl⟩
    cases i with
    |succ i=>
     have:=(zl cs (k+1) p (.arr e r l fr)).2 ⟨i,e,r,l,fr,by omega,by simpa using h2,rfl⟩
     rw [this]
    |zero=>
     simp at h2
     subst h2
     have hn:look (kT (k+1) cs).2 p=none:=by
      cases hl:look (kT (k+1) cs).2 p with
      |none=>rfl
      |some y=>
       obtain ⟨i,_,_,_,_,g1,_⟩:=(zl cs (k+1) p y).1 hl
       omega
     rw [hn]
     have hp:p=k:=by omega
     subst hp
     simp [gy.take,look]
def MJ (rs:List (Bool×List gy)):List gy:=rs.flatMap (·.2)
theorem aqi (k:Nat) (x:Bool×List gy):(Ac k x).2=(kT k x.2).2:=by
 unfold Ac
 split
 · next e1 e2=>rw [e2]
 · next e1 e2=>rw [e2]
 · next e1 e2=>rw [e2]
theorem D7:∀ (rs:List (Bool×List gy)) (k p:Nat) (x:aQ),look (jg k rs).2 p=some x↔∃ i e r l fr,p=k+i∧(MJ rs)[i]? =some (.own e r l fr)∧x= .arr e r l fr
 |[],k,p,x=>by simp [jg,look,MJ]
 |y::rs,k,p,x=>by
  rw [jg,aec,aqi]
  have arS:MJ (y::rs)=y.2++MJ rs:=rfl
  constructor
  · intro h
    split at h
    · next z hz=>
      cases h
      obtain ⟨i,e,r,l,fr,h1,h2,h3⟩:=(D7 rs (k+y.2.length) p x).1 hz
      refine ⟨y.2.length+i,e,r,l,fr,by omega,?_,h3⟩
      rw [arS,List.getElem?_append_right (by omega)]
      simpa using h2
    · obtain ⟨i,e,r,l,fr,h1,h2,h3⟩:=(zl y.2 k p x).1 h
      refine ⟨i,e,r,l,fr,h1,?_,h3⟩
      rw [arS,List.getElem?_append_left (List.getElem?_eq_some_iff.1 h2).1]
      exact h2
  · rintro ⟨i,e,r,l,fr,h1,h2,rfl⟩
    rw [arS] at h2
    rcases Nat.lt_or_ge i y.2.length with hlt|hge
    · rw [List.getElem?_append_left hlt] at h2
      have hn:look (jg (k+y.2.length) rs).2 p=none:=by
       cases hl:look (jg (k+y.2.length) rs).2 p with
       |none=>rfl
       |some z=>
        obtain ⟨j,_,_,_,_,g1,_⟩:=(D7 rs (k+y.2.length) p z).1 hl
        omega
      rw [hn]
      exact (zl y.2 k p _).2 ⟨i,e,r,l,fr,h1,h2,rfl⟩
    · rw [List.getElem?_append_right hge] at h2
      have:=(D7 rs (k+y.2.length) p (.arr e r l fr)).2 ⟨i-y.2.length,e,r,l,fr,by omega,h2,rfl⟩
      rw [this]
end Go.Fw
namespace Go.Fw
open Go
set_option linter.unusedVariables false
variable {P:Program} {w0:World} {M:Nat→Prop} {T:Ext} {γ γ':Nat→Value} {st:St} {a:Act} {w w':World} {Θ:gK} {Γ:aB}
def RF (Y:V) (c:gy) (v:Value) (n:Option Nat):Prop:=
 match c with
 | .plain x=>bC Y x v∧x.refs=[]
 | .own e r l fr=>0<r.len∧((∃ o g,n=some o∧Y.ak o=some (.arr e r l g)∧NU fr g=true∧v=Y.γ o∧v.oneCell'=true)∨(l=[]∧v= .slice none 0 0))
def Gi (Y:V):List gy→List Value→List (Option Nat)→Prop
 |[],[],[]=>True
 |c::cs,v::vs,n::ns=>RF Y c v n∧Gi Y cs vs ns
 |_,_,_=>False
theorem Gi.append {Y:V}:∀ (cs:List gy) (vs:List Value) (ns:List (Option Nat)) (ds:List gy) (us:List Value) (ms:List (Option Nat)),Gi Y cs vs ns→Gi Y ds us ms→Gi Y (cs++ds) (vs++us) (ns++ms)
 |[],[],[],_,_,_,_,h=>h
 |_::cs,_::vs,_::ns,ds,us,ms,⟨h1,h2⟩,h=>⟨h1,Gi.append cs vs ns ds us ms h2 h⟩
theorem Gi.length {Y:V}:∀ (cs:List gy) (vs:List Value) (ns:List (Option Nat)),Gi Y cs vs ns→cs.length=vs.length
 |[],[],[],_=>rfl
 |_::cs,_::vs,_::ns,⟨_,h2⟩=>by simp [Gi.length cs vs ns h2]
theorem Gi.get {Y:V}:∀ (cs:List gy) (vs:List Value) (ns:List (Option Nat)) (i:Nat) (c:gy),Gi Y cs vs ns→cs[i]? =some c→∃ v n,vs[i]? =some v∧ns[i]? =some n∧RF Y c v n
 |[],[],[],i,c,_,h=>by simp at h
 |x::cs,v::vs,n::ns,0,c,⟨h1,_⟩,h=>by simp at h;subst h;exact ⟨v,n,rfl,rfl,h1⟩
 |x::cs,v::vs,n::ns,i+1,c,⟨_,h2⟩,h=>by
  obtain ⟨u,m,g1,g2,g3⟩:=Gi.get cs vs ns i c h2 (by simpa using h)
  exact ⟨u,m,by simpa using g1,by simpa using g2,g3⟩
theorem iI.amT (c:iI) (x:Cell) (d:c.den) (h:c.read x=some d) (hx:x.refs=[]):(c.cell d).refs=[]:=by
 cases c<;>cases x<;>first|rfl|(simp [iI.read] at h;done)|(cases hx)
theorem RC.aqR {Y:V} (hst:Y.ak=st.ak) (hpos:∀ o e r l g,st.ak o=some (.arr e r l g)→0<r.len):∀ (c:RC) (x:Cell) (d:c.den) (v:Value),c.read st x=some d→bC Y x v→RF Y (c.arQ d) v (c.name x):=by
 intro c x d v hr hv
 cases c with
 |c s=>
  rw [RC.read] at hr
  split at hr
  · next hx=>exact ⟨iI.weak s x d v hr hv,iI.amT s x d hr hx⟩
  · cases hr
 |own e r fr=>
  cases x with
  |ref o=>
   simp only [RC.read] at hr
   split at hr
   · next f s l g ho=>
     split at hr
     · next hb=>
       split at hr
       · next hs=>
         cases hr
         rw [Bool.and_eq_true] at hb
         have he:=Nat.eq_of_beq_eq_true hb.1
         subst he
         have hsr:=aN.eq_of_beq s r hs
         subst hsr
         exact ⟨hpos _ _ _ _ _ ho, .inl ⟨o,g,rfl,by rw [hst];exact ho,hb.2,hv.2.1,hv.2.2⟩⟩
       · cases hr
     · cases hr
   · cases hr
  |nil=>
   simp only [RC.read] at hr
   split at hr
   · next hb=>
     cases hr
     exact ⟨Nat.lt_of_lt_of_le Nat.zero_lt_one (by simpa [Nat.ble_eq] using hb), .inr ⟨rfl,hv⟩⟩
   · cases hr
  |_=>simp [RC.read] at hr
theorem ahS {Y:V} (hst:Y.ak=st.ak) (hpos:∀ o e r l g,st.ak o=some (.arr e r l g)→0<r.len):∀ (l:List RC) (xs:List Cell) (d:ahP l) (vs:List Value),SI st l xs=some d→ax Y xs vs→Gi Y (ak5 l d) vs (ak6 l xs)
 |[],[],_,[],_,_=>trivial
 |c::r,x::xs,d,v::vs,h,⟨h1,h2⟩=>by
  rw [SI] at h
  split at h
  · next a b g1 g2=>
    cases h
    exact ⟨RC.aqR hst hpos c x a v g1 h1,ahS hst hpos r xs b vs g2 h2⟩
  · cases h
 |[],_::_,_,_,h,_=>by simp [SI] at h
 |_::_,[],_,_,h,_=>by simp [SI] at h
theorem uI.ao6 {Y:V} (hst:Y.ak=st.ak) (hpos:∀ o e r l g,st.ak o=some (.arr e r l g)→0<r.len):∀ (s:uI) (x:SV) (d:s.den) (v:Value),s.read st x=some d→eP Y x v→Gi Y (s.out d).2 v.cells.toList (s.names x)
 | .one c, .one x,d,v,h,hv=>by
   rw [Ii v (bC.one x v hv)]
   exact ⟨RC.aqR hst hpos c x d v h hv,trivial⟩
 | .agg l, .agg xs,d,v,h,⟨vs,hv,hc⟩=>by
   rw [hv]
   exact ahS hst hpos l xs d _ h hc
 | .one _, .agg _,_,_,h,_| .agg _, .one _,_,_,h,_=>by simp [uI.read] at h
theorem ahT {Y:V} (hst:Y.ak=st.ak) (hpos:∀ o e r l g,st.ak o=some (.arr e r l g)→0<r.len):∀ (l:List uI) (xs:List SV) (d:pz l) (vs:List Value),EU st l xs=some d→eX Y xs vs→
 Gi Y (MJ (jk l d)) (vs.flatMap fun v=>v.cells.toList) (Ep l xs)
 |[],[],_,[],_,_=>trivial
 |s::r,x::xs,d,v::vs,h,⟨h1,h2⟩=>by
  rw [EU] at h
  split at h
  · next a b g1 g2=>
    cases h
    exact Gi.append _ _ _ _ _ _ (uI.ao6 hst hpos s x a v g1 h1) (ahT hst hpos r xs b vs g2 h2)
  · cases h
 |[],_::_,_,_,h,_=>by simp [EU] at h
 |_::_,[],_,_,h,_=>by simp [EU] at h
def Go1 (Z:V) (k:Nat) (c:gy) (v:Value):Prop:=bC Z (c.take k).1 v
def Jj (Z:V):Nat→List gy→List Value→Prop
 |_,[],[]=>True
 |k,c::cs,v::vs=>Go1 Z k c v∧Jj Z (k+1) cs vs
 |_,_,_=>False
theorem Jj.of {Z:V}:∀ (cs:List gy) (vs:List Value) (k:Nat),cs.length=vs.length→(∀ i c v,cs[i]? =some c→vs[i]? =some v→Go1 Z (k+i) c v)→Jj Z k cs vs
 |[],[],_,_,_=>trivial
 |c::cs,v::vs,k,hl,h=>⟨h 0 c v rfl rfl,Jj.of cs vs (k+1) (by simpa using hl) fun i c' v' h1 h2=>by
   have:=h (i+1) c' v' (by simpa using h1) (by simpa using h2)
   rwa [show k+(i+1)=k+1+i by omega] at this⟩
theorem Jj.split {Z:V}:∀ (cs:List gy) (vs:List Value) (ds:List gy) (us:List Value) (k:Nat),cs.length=vs.length→Jj Z k (cs++ds) (vs++us)→Jj Z k cs vs∧Jj Z (k+cs.length) ds us
 |[],[],_,_,_,_,h=>⟨trivial,h⟩
 |c::cs,v::vs,ds,us,k,hl,⟨h1,h2⟩=>by
  obtain ⟨g1,g2⟩:=Jj.split cs vs ds us (k+1) (by simpa using hl) h2
  exact ⟨⟨h1,g1⟩,by rw [show k+(c::cs).length=k+1+cs.length by simp;omega];exact g2⟩
theorem Jj.cells {Z:V}:∀ (cs:List gy) (vs:List Value) (k:Nat),Jj Z k cs vs→ax Z (kT k cs).1 vs
 |[],[],_,_=>trivial
 |c::cs,v::vs,k,⟨h1,h2⟩=>⟨h1,Jj.cells cs vs (k+1) h2⟩
theorem uI.go {Y Z:V}:∀ (s:uI) (x:SV) (d:s.den) (v:Value) (k:Nat),s.read st x=some d→eP Y x v→Jj Z k (s.out d).2 v.cells.toList→eP Z (Ac k (s.out d)).1 v
 | .one c, .one x,d,v,k,h,hv,hg=>by
   rw [Ii v (bC.one x v hv)] at hg
   exact hg.1
 | .agg l, .agg xs,d,v,k,h,⟨vs,hv,hc⟩,hg=>by
   rw [hv] at hg ⊢
   exact ⟨vs,rfl,Jj.cells _ _ _ hg⟩
 | .one _, .agg _,_,_,_,h,_,_| .agg _, .one _,_,_,_,h,_,_=>by simp [uI.read] at h
theorem amU {Y Z:V} (hst:Y.ak=st.ak) (hpos:∀ o e r l g,st.ak o=some (.arr e r l g)→0<r.len):∀ (l:List uI) (xs:List SV) (d:pz l) (vs:List Value) (k:Nat),EU st l xs=some d→eX Y xs vs→
 Jj Z k (MJ (jk l d)) (vs.flatMap fun v=>v.cells.toList)→eX Z (jg k (jk l d)).1 vs
 |[],[],_,[],_,_,_,_=>trivial
 |s::r,x::xs,d,v::vs,k,h,⟨h1,h2⟩,hg=>by
  rw [EU] at h
  split at h
  · next a b g1 g2=>
    cases h
    have hl:=Gi.length _ _ _ (uI.ao6 hst hpos s x a v g1 h1)
    obtain ⟨k1,k2⟩:=Jj.split _ _ _ _ k hl hg
    exact ⟨uI.go s x a v k g1 h1 k1,amU hst hpos r xs b vs _ g2 h2 k2⟩
  · cases h
 |[],_::_,_,_,_,h,_,_=>by simp [EU] at h
 |_::_,[],_,_,_,h,_,_=>by simp [EU] at h
theorem aed:∀ (l:List iI) (xs:List Cell) (d:oD l),kU l xs=some d→xs.flatMap Cell.refs=[]→(iT l d).flatMap Cell.refs=[]
 |[],[],_,_,_=>rfl
 |c::r,x::xs,d,h,hx=>by
  rw [kU] at h
  split at h
  · next a b g1 g2=>
    cases h
    rw [List.flatMap_cons,List.append_eq_nil_iff] at hx
    show (c.cell a::iT r b).flatMap Cell.refs=[]
    rw [List.flatMap_cons,iI.amT c x a g1 hx.1,aed r xs b g2 hx.2,List.append_nil]
  · cases h
 |[],_::_,_,h,_=>by simp [kU] at h
 |_::_,[],_,h,_=>by simp [kU] at h
theorem MK:∀ (sh:List gZ) (i:Nat) (b:ou sh),Ky st i sh=some b→∀ (j:Nat) (e:Eff),(jm sh b)[j]? =some e→
 e= .lose∨∃ l cs cs0,sh[j]? =some (.ptr l)∧e= .var cs∧st.ak ((i+j)*64+48)=some (.var cs0)∧cs0.flatMap Cell.refs=[]∧cs.flatMap Cell.refs=[]∧∀ (X:V) vs,ax X cs0 vs→ax X cs vs
 |[],_,_,_,j,e,he=>by simp [jm] at he
 | .ptr l::r,i,b,h,j,e,he=>by
   rw [Ky] at h
   split at h
   · next cs b' hx hb=>
     split at h
     · next a hr ha=>
       cases h
       cases j with
       |zero=>
        simp [jm] at he
        subst he
        exact .inr ⟨l,_,cs,rfl,rfl,by simpa using hx,hr,aed _ _ _ ha hr,fun X vs hc=>Gf _ _ _ _ ha hc⟩
       |succ j=>
        rcases MK r (i+1) b' hb j e (by simpa [jm] using he) with h|⟨l,cs',cs0,h1,h2,h3,h4⟩
        · exact .inl h
        · exact .inr ⟨l,cs',cs0,by simpa using h1,h2,by rw [show i+(j+1)=i+1+j by omega];exact h3,h4⟩
     · cases h
   · cases h
 | .p _::r,i,b,h,j,e,he| .own _ _::r,i,b,h,j,e,he=>by
   rw [Ky] at h
   cases j with
   |zero=>simp [jm] at he;exact .inl he.symm
   |succ j=>
    rcases MK r (i+1) b h j e (by simpa [jm] using he) with h|⟨l,cs',cs0,h1,h2,h3,h4⟩
    · exact .inl h
    · exact .inr ⟨l,cs',cs0,by simpa using h1,h2,by rw [show i+(j+1)=i+1+j by omega];exact h3,h4⟩
theorem ahU:∀ {sh:List gZ} {xs:List Arg} {d:jV sh},jl sh xs=some d→∀ (j:Nat) (l:List iI),sh[j]? =some (.ptr l)→∃ cs,xs[j]? =some (.ptr cs)
 |[],[],_,_,j,l,h=>by simp at h
 |s::r,x::xs,d,h,j,l,hj=>by
  rw [jl] at h
  split at h
  · next a b h1 h2=>
    cases j with
    |zero=>
     simp at hj
     subst hj
     cases x with
     |ptr cs=>exact ⟨cs,rfl⟩
     |_=>simp [gZ.read] at h1
    |succ j=>
     obtain ⟨cs,hc⟩:=ahU h2 j l (by simpa using hj)
     exact ⟨cs,by simpa using hc⟩
  · cases h
 |[],_::_,_,h,_,_,_=>by simp [jl] at h
 |_::_,[],_,h,_,_,_=>by simp [jl] at h
theorem as1 {sh:List gZ} {b:ou sh} (hb:Ky st 0 sh=some b) {q:Nat} {y:aQ} (h:nO (jm sh b) q=some y):
 q%64=48∧∃ l cs cs0,sh[q / 64]? =some (.ptr l)∧y= .var cs∧st.ak q=some (.var cs0)∧cs0.flatMap Cell.refs=[]∧cs.flatMap Cell.refs=[]∧∀ (X:V) vs,ax X cs0 vs→ax X cs vs:=by
 unfold nO at h
 split at h
 · next e r l he=>
   rcases MK sh 0 b hb _ _ he with h'|⟨_,_,_,_,h',_⟩<;>cases h'
 · next cs he=>
   split at h
   · next hm=>
     have hm':=Nat.eq_of_beq_eq_true hm
     cases h
     rcases MK sh 0 b hb _ _ he with h'|⟨l,cs',cs0,h1,h2,h3,h4⟩
     · cases h'
     · cases h2
       refine ⟨hm',l,_,cs0,h1,rfl,?_,h4⟩
       rw [show q=(0+q / 64)*64+48 by omega]
       exact h3
   · cases h
 · cases h
def gZ.xH:(s:gZ)→s.den→Prop
 | .p s,x=>s.xH x
 | .own _ r,(l:List r.den)=>∀ x∈l,r.xH x
 | .ptr l,x=>ab6 l x
def ML:(l:List gZ)→jV l→Prop
 |[],_=>True
 |s::r,x=>s.xH x.1∧ML r x.2
theorem jr.ab7 {X:V} (s:jr) (x:Arg) (d:s.den) (v:Value) (h:s.read x=some d) (hr:uQ X x v):s.xH d:=
 (ET (X:=X) [s] (d,()) [v] ⟨jr.weak s x d v h hr,trivial⟩).1
theorem ZL {X:V} {args:List Arg} (ho:∀ o x,dP args o=some x→bV X o x):∀ (sh:List gZ) (xs:List Arg) (d:jV sh) (vs:List Value) (i:Nat),(∀ j a,xs[j]? =some a→args[i+j]? =some a)→
 jl sh xs=some d→Az X i xs vs→ML sh d
 |[],[],_,_,_,_,_,_=>trivial
 |s::r,x::xs,d,v::vs,i,hj,h,⟨hv,hvs⟩=>by
  rw [jl] at h
  split at h
  · next a b h1 h2=>
    cases h
    refine ⟨?_,ZL ho r xs b vs (i+1) (fun j c hc=>by have:=hj (j+1) c (by simpa using hc);rwa [show i+(j+1)=i+1+j by omega] at this) h2 hvs⟩
    have hx:args[i]? =some x:=hj 0 x rfl
    cases s with
    |p s=>
     have h1':s.read x=some a:=by simpa [gZ.read] using h1
     refine jr.ab7 (X:=X) s x a v h1' ?_
     cases x with
     |own _ _ _|ptr _=>cases s<;>simp [jr.read] at h1'
     |_=>exact hv
    |own e r'=>
     cases x with
     |own f s' l=>
      have h1':(match Nat.beq e f with|true=>if h:s'.beq r'=true then some (zk h l) else none|false=>none)=some a:=h1
      split at h1'
      · split at h1'
        · next hb hs=>
          cases h1'
          have hsr:=aN.eq_of_beq s' r' hs
          subst hsr
          have qo:dP args (i*64+49)=some (.arr f s' l false):=by
           unfold dP
           rw [show (i*64+49) / 64=i by omega,hx]
           dsimp only
           rw [show (i*64+49)%64=49 by omega]
          obtain ⟨us,_,_,_,hrow⟩:=ho _ _ qo
          intro y hy
          have hy':y∈l:=hy
          obtain ⟨j,hj1,hj2⟩:=List.mem_iff_getElem.1 hy'
          exact bK.xH s' _ _ (hrow j y (by rw [List.getElem?_eq_getElem hj1,hj2]))
        · cases h1'
      · cases h1'
     |_=>simp [gZ.read] at h1
    |ptr l=>
     cases x with
     |ptr cs=>
      have h1':kU l cs=some a:=h1
      have qo:dP args (i*64+48)=some (.var cs):=by
       unfold dP
       rw [show (i*64+48) / 64=i by omega,hx]
       dsimp only
       rw [show (i*64+48)%64=48 by omega]
      obtain ⟨_,arr,_,_,_,hc⟩:=ho _ _ qo
      exact Kw l a _ (Gf _ _ _ _ h1' hc)
     |_=>simp [gZ.read] at h1
  · cases h
 |[],_::_,_,_,_,_,h,_=>by simp [jl] at h
 |_::_,[],_,_,_,_,h,_=>by simp [jl] at h
theorem La:∀ (l:List gZ) (d:jV l),(yB l d).length=l.length
 |[],_=>rfl
 |_::r,d=>by simp [yB,La r d.2]
theorem Out.at6 (rs:List (Bool×List gy)) (k:Nat):((⟨rs,none⟩:Out).take k).2=(jg k rs).2:=by
 unfold Out.take
 dsimp only
 split
 · next h=>rw [h]
 · next h=>rw [h]
theorem Out.at7 (rs:List (Bool×List gy)) (k:Nat):((⟨rs,none⟩:Out).take k).1=(match (jg k rs).1 with|[v]=>AV.sv v|vs=> .pO vs):=by
 unfold Out.take
 dsimp only
 split
 · next h=>rw [h]
 · next vs δ hne h=>
   rw [h]
   dsimp only
   rcases vs with _|⟨v,_|⟨v2,r⟩⟩
   · rfl
   · exact (hne v rfl).elim
   · rfl
theorem axj {args:List Arg} {S:Nat→Prop} {sh:List gZ} {dO:List uI} {x:jV sh} (hx:jl sh args=some x) {d:pz dO} {b:ou sh} {k:Nat} {vs:List SV} {us:List Value}
 (hR:Rel w (zK (dP args) γ) (ZK args γ S) γ' st a w') (hrs:eX (aA w (ZK args γ S) γ' st w') vs us) (hnd:Cm (Ep dO vs)=true) (hrd:EU st dO vs=some d) (hbk:Ky st 0 sh=some b)
 (hap:∀ o x,look ((⟨jk dO d,none⟩:Out).take k).2 o=some x→nO (jm sh b) o=none):
 ∃ γ2,bI ⟨w',w.heap.size,tJ S args (jm sh b) γ,γ2,look ((⟨jk dO d,none⟩:Out).take k).2⟩ ((⟨jk dO d,none⟩:Out).take k).1 (if h:us.toArray.size=1 then us.toArray[0] else .tuple us.toArray)∧
   (∀ o x,look ((⟨jk dO d,none⟩:Out).take k).2 o=some x→bV ⟨w',w.heap.size,tJ S args (jm sh b) γ,γ2,look ((⟨jk dO d,none⟩:Out).take k).2⟩ o x∧
     ∀ b',blk (γ2 o)=some b'→b'<w'.heap.size∧(w.heap.size≤b'∨zK (dP args) γ b')∧∀ q y,nO (jm sh b) q=some y→blk (γ q)≠some b')∧
   (∀ o x q y b',look ((⟨jk dO d,none⟩:Out).take k).2 o=some x→look ((⟨jk dO d,none⟩:Out).take k).2 q=some y→o≠q→blk (γ2 o)=some b'→blk (γ2 q)≠some b')∧
   (∀ o x,nO (jm sh b) o=some x→γ2 o=γ o∧bV ⟨w',w.heap.size,tJ S args (jm sh b) γ,γ2,look ((⟨jk dO d,none⟩:Out).take k).2⟩ o x):=by
 rw [Out.at6] at hap ⊢
 rw [Out.at7]
 skip
 let Y:V:=aA w (ZK args γ S) γ' st w'
 let fv:List Value:=us.flatMap fun v=>v.cells.toList
 let aW:=jm sh b
 let γ2:Nat→Value:=fun p=>match nO aW p with|some _=>γ p|none=>fv.getD (p-k) undef
 let Z:V:=⟨w',w.heap.size,tJ S args aW γ,γ2,look (jg k (jk dO d)).2⟩
 have hpos:∀ o e r l g,st.ak o=some (.arr e r l g)→0<r.len:=fun o e r l g ho=>by
  obtain ⟨_,_,h,_⟩:=hR.ak o _ ho
  exact h
 have hF:Gi Y (MJ (jk dO d)) fv (Ep dO vs):=ahT (st:=st) rfl hpos dO vs d us hrd hrs
 have hbq:∀ q y,nO aW q=some y→γ' q=γ q∧∃ cs cs0,y= .var cs∧st.ak q=some (.var cs0)∧cs0.flatMap Cell.refs=[]∧cs.flatMap Cell.refs=[]∧∀ (X:V) vs,ax X cs0 vs→ax X cs vs:=by
  intro q y hq
  obtain ⟨hm,l,cs,cs0,h1,h2,h3,h4,h5,h6⟩:=as1 hbk hq
  refine ⟨?_,cs,cs0,h2,h3,h4,h5,h6⟩
  obtain ⟨ci,hci⟩:=ahU hx _ l h1
  have ho:dP args q=some (.var ci):=by
   unfold dP
   rw [hci]
   dsimp only
   rw [hm]
  have hN:(ZK args γ S).N q=some (γ q):=by
   show ak7 args γ q=_
   unfold ak7
   rw [ho]
  exact hR.pin q _ _ hN h3
 have hG:∀ p X,look (jg k (jk dO d)).2 p=some X→∃ i e r l fr,p=k+i∧(MJ (jk dO d))[i]? =some (.own e r l fr)∧X= .arr e r l fr∧0<r.len∧
  ((∃ o g,(Ep dO vs)[i]? =some (some o)∧st.ak o=some (.arr e r l g)∧NU fr g=true∧γ2 p=γ' o∧(γ2 p).oneCell'=true)∨(l=[]∧γ2 p= .slice none 0 0)):=by
  intro p X hp
  obtain ⟨i,e,r,l,fr,h1,h2,h3⟩:=(D7 _ k p X).1 hp
  obtain ⟨v,n,g1,g2,hr,hv⟩:=Gi.get _ _ _ i _ hF h2
  have hγ:γ2 p=v:=by
   show (match nO aW p with|some _=>γ p|none=>fv.getD (p-k) undef)=v
   rw [hap p X hp]
   dsimp only
   rw [h1,show k+i-k=i by omega,List.getD_eq_getElem?_getD,g1]
   rfl
  refine ⟨i,e,r,l,fr,h1,h2,h3,hr,?_⟩
  rcases hv with ⟨o,g,hn,ho,hb,hv,h1c⟩|⟨hl,hv⟩
  · exact .inl ⟨o,g,by rw [g2,hn],ho,hb,hγ.trans hv,by rw [hγ];exact h1c⟩
  · exact .inr ⟨hl,hγ.trans hv⟩
 have Iq:∀ b',Y.foot b'→Z.foot b':=by
  intro b' hb'
  refine ⟨hb'.1,fun hlt=>⟨hb'.2.1 hlt,fun q y hq=>?_⟩,fun p X hp=>?_⟩
  · obtain ⟨hγ,cs,cs0,_,h3,_⟩:=hbq q y hq
    rw [← hγ]
    exact hb'.2.2 q _ h3
  · obtain ⟨i,e,r,l,fr,_,_,_,_,hc⟩:=hG p X hp
    show blk (γ2 p)≠some b'
    rcases hc with ⟨o,g,_,ho,_,hγ,_⟩|⟨_,hγ⟩
    · rw [hγ];exact hb'.2.2 o _ ho
    · rw [hγ];intro h;cases h
 have as2:∀ fr b',Y.dH fr b'→Z.dH fr b':=fun fr b' h=>⟨Iq b' h.1,h.2⟩
 have hgo:Jj Z k (MJ (jk dO d)) fv:=by
  refine Jj.of _ _ _ (Gi.length _ _ _ hF) fun i c v hc hv=>?_
  obtain ⟨v',n,g1,g2,g3⟩:=Gi.get _ _ _ i c hF hc
  rw [hv] at g1
  cases g1
  cases c with
  |plain x=>
   exact (GK (Y:=Y) (Z:=Z) rfl as2 [x] [v] (by simpa using g3.2) ⟨g3.1,trivial⟩).1
  |own e r l fr=>
   have hp:look (jg k (jk dO d)).2 (k+i)=some (.arr e r l fr):=(D7 _ k _ _).2 ⟨i,e,r,l,fr,rfl,hc,rfl⟩
   have hγ:γ2 (k+i)=v:=by
    show (match nO aW (k+i) with|some _=>γ (k+i)|none=>fv.getD (k+i-k) undef)=v
    rw [hap _ _ hp]
    dsimp only
    rw [show k+i-k=i by omega,List.getD_eq_getElem?_getD,hv]
    rfl
   refine ⟨⟨e,r,l,fr,hp⟩,hγ.symm,?_⟩
   rcases g3.2 with ⟨_,_,_,_,_,_,h⟩|⟨_,h⟩
   · exact h
   · rw [h];rfl
 have hsv:eX Z (jg k (jk dO d)).1 us:=amU (st:=st) (Y:=Y) rfl hpos dO vs d us k hrd hrs hgo
 refine ⟨γ2,?_,fun p X hp=>?_,fun p X q X' b' hp hq hne hb1 hb2=>?_,fun q y hq=>?_⟩
 · have hl:=eX.length _ _ hsv
   match hm:(jg k (jk dO d)).1,us,hsv,hl with
   |[v],[u],hk,_=>exact hk.1
   |[],[],hk,_=>exact ⟨_,by simp,hk⟩
   |v::v2::r,u::u2::us,hk,hl=>exact ⟨_,by simp,hk⟩
   |[],_::_,hk,h4|_::_,[],hk,h4|[_],_::_::_,hk,h4|_::_::_,[_],hk,h4=>simp at h4
 · obtain ⟨i,e,r,l,fr,_,_,rfl,hr,hc⟩:=hG p X hp
   rcases hc with ⟨o,g,_,ho,hb,hγ,_⟩|⟨rfl,hγ⟩
   · have hO:bV Y o (.arr e r l g):=hR.ak o _ ho
     have hold:∀ b',blk (γ' o)=some b'→fr=true→w.heap.size≤b':=by
      intro b' hb' hfr
      subst hfr
      have hg:g=true:=hb
      subst hg
      obtain ⟨_,_,_,hn,_⟩:=hO
      exact hn b' hb' rfl
     refine ⟨bV.ab3 (Y:=Y) (Z:=Z) hO hγ rfl (fun b' hb'=>⟨Iq b' hb'.1,fun hfr=>hb'.2 ?_⟩) hold,fun b' hb'=>?_⟩
     · subst hfr;exact hb
     · rw [hγ] at hb'
       obtain ⟨h1,h2⟩:=hR.lt o _ b' ho hb'
       refine ⟨h1,h2,fun q y hq=>?_⟩
       obtain ⟨hγq,cs,cs0,_,h3,_⟩:=hbq q y hq
       rw [← hγq]
       refine hR.sep o _ q _ b' ho h3 ?_ hb'
       intro e;subst e;rw [ho] at h3;cases h3
   · refine ⟨⟨[],⟨by simp, .inl ⟨hγ,rfl⟩⟩,hr,(fun b' hb'=>by have h0:blk (γ2 p)=some b':=hb';rw [hγ] at h0;cases h0),fun i x hi=>by simp at hi⟩,fun b' hb'=>by rw [hγ] at hb';cases hb'⟩
 · obtain ⟨i,e,r,l,fr,hi,_,_,_,hc⟩:=hG p X hp
   obtain ⟨j,e',r',l',fr',hj,_,_,_,hc'⟩:=hG q X' hq
   rcases hc with ⟨o,g,hn,ho,_,hγ,_⟩|⟨_,hγ⟩
   · rcases hc' with ⟨o',g',hn',ho',_,Sz,_⟩|⟨_,Sz⟩
     · rw [hγ] at hb1
       rw [Sz] at hb2
       have:o≠o':=by
        intro e
        subst e
        have:=Qy hnd _ _ _ hn hn'
        omega
       exact hR.sep o _ o' _ b' ho ho' this hb1 hb2
     · rw [Sz] at hb2;cases hb2
   · rw [hγ] at hb1;cases hb1
 · obtain ⟨hγ,cs,cs0,rfl,h3,h4,h5,h6⟩:=hbq q y hq
   have pV:γ2 q=γ q:=by
    show (match nO aW q with|some _=>γ q|none=>fv.getD (q-k) undef)=γ q
    rw [hq]
   refine ⟨pV,?_⟩
   obtain ⟨b',arr,t,k1,k2,k3⟩:=hR.ak q _ h3
   refine ⟨b',arr,t,?_,k2,GK (Y:=Y) (Z:=Z) rfl as2 _ _ h5 (h6 _ _ k3)⟩
   show γ2 q=_
   rw [pV,← hγ]
   exact k1
theorem aqS {G:kQ} (hE:EnvB P G Θ Γ) (hm:P.follows .mixedOrders=true) {f:FuncId} {fn:Func} {c:Code} (hf:P.funcs[f]? =some fn) (hb:fn.body=some c) (H:Hints)
 {sh:List gZ} {dO:List uI} {F:jV sh→Prop×(pz dO×ou sh→Prop)} (hn:Nat.ble sh.length fn.ntmps=true) (hne:∀ x,(F x).1→∃ t,(F x).2 t)
 (hwalk:∀ x,ML sh x→(F x).1→Iw Θ Γ H c (aom Θ fn.results.toList sh dO (F x).2) (Gh fn.ntmps (yB sh x))):kK P G f (uD sh dO F):=by
 intro args p ρ hcon hp
 unfold uD at hcon
 split at hcon
 case h_2=>cases hcon
 next x hx=>
 cases hcon
 refine ⟨hne x hp,fun k S γ vs w hG hrep qo hsep hap=>?_⟩
 have hlen:=(MI hx).1
 rw [La] at hlen
 have hn':args.length≤fn.ntmps:=by rw [← hlen];simpa [Nat.ble_eq] using hn
 have hin:ML sh x:=ZL (fun o X ho=>(qo o X ho).1) sh args x vs.toList 0 (fun j a h=>by rwa [Nat.zero_add]) hx hrep
 have hR0:=ahR (S:=S) fn.ntmps hn' hrep (fun o X ho=>⟨(qo o X ho).1,fun b hb=>((qo o X ho).2 b hb).1⟩) hsep
 have hR1:=hR0.covers (WT hx fn.ntmps)
 refine calls_of_wp hf hb (ZJ ⟨hE,hG,fun b hb=>?_⟩ hm H c _ _ _ _ _ _ hR1 (hwalk x hin hp) ?_)
 · obtain ⟨o,X,ho,hb⟩:=hb
   exact ((qo o X ho).2 b hb).2
 intro e s γ' a' w' he hR
 have hret:∃ (us:List Value) (t:pz dO×ou sh),(fn.results.mapM (Kv a'.tmps)).run P w'= .ok us.toArray w'∧(F x).2 t∧∃ γ2,
  bI ⟨w',w.heap.size,tJ S args (jm sh t.2) γ,γ2,look ((⟨jk dO t.1,none⟩:Out).take k).2⟩ ((⟨jk dO t.1,none⟩:Out).take k).1 (if h:us.toArray.size=1 then us.toArray[0] else .tuple us.toArray)∧
  (∀ o x',look ((⟨jk dO t.1,none⟩:Out).take k).2 o=some x'→bV ⟨w',w.heap.size,tJ S args (jm sh t.2) γ,γ2,look ((⟨jk dO t.1,none⟩:Out).take k).2⟩ o x'∧
    ∀ b,blk (γ2 o)=some b→b<w'.heap.size∧(w.heap.size≤b∨zK (dP args) γ b)∧∀ q y,nO (jm sh t.2) q=some y→blk (γ q)≠some b)∧
  (∀ o x' q y b,look ((⟨jk dO t.1,none⟩:Out).take k).2 o=some x'→look ((⟨jk dO t.1,none⟩:Out).take k).2 q=some y→o≠q→blk (γ2 o)=some b→blk (γ2 q)≠some b)∧
  (∀ o x',nO (jm sh t.2) o=some x'→γ2 o=γ o∧bV ⟨w',w.heap.size,tJ S args (jm sh t.2) γ,γ2,look ((⟨jk dO t.1,none⟩:Out).take k).2⟩ o x'):=by
  have he':(e= .normal∨e= .ret)∧aom Θ fn.results.toList sh dO (F x).2 .ret s:=by
   cases e with
   |normal=>exact ⟨.inl rfl,he⟩
   |ret=>exact ⟨.inr rfl,he⟩
   |_=>exact he.elim
  have he2:=he'.2
  simp only [aom] at he2
  split at he2
  · next svs ayP=>
    split at he2
    · next vs' hvs'=>
      split at he2
      · next d b hnd hd hb'=>
        have hRf:=hR.freeze (ahQ s (Ep dO svs))
        obtain ⟨us,hus,hrs⟩:=NW hE.types hRf _ _ hvs'
        refine ⟨us,(d,b),?_,he2,axj hx hRf hrs hnd hd hb' (hap (d,b) he2)⟩
        rw [Array.mapM_eq_mapM_toList,Sem.run_map,hus]
        rfl
      · exact he2.elim
    · exact he2.elim
  · exact he2.elim
 obtain ⟨us,t,hus,ht,γ2,h1,h2,h3,h4⟩:=hret
 have hfin:bodyPost P fn (fun e w'=>∃ t,(F x).2 t∧PE S args γ w k ⟨jk dO t.1,none⟩ (jm sh t.2) e w') .ret a' w':=by
  refine ⟨hR.defers,if h:us.toArray.size=1 then us.toArray[0] else .tuple us.toArray,?_,t,ht,_,γ2,rfl,hR.os,hR.tape,hR.output,hR.grow,hR.kept,h1,h2,h3,h4⟩
  rw [UR,Sem.run_bind,hus]
  simp only [Result.andThen_ok,Sem.run_pure]
 cases e with
 |normal=>exact hfin
 |ret=>exact hfin
 |_=>exact he.elim
end Go.Fw
namespace Go.Fw
open Go
variable {P:Program} {w0:World} {M:Nat→Prop} {T:Ext} {γ γ':Nat→Value} {st:St} {a:Act} {w w':World} {Θ:gK} {Γ:aB}
def aon (rv:List ResultVar) (l:List iI) (K:oD l→Prop) (e:Exit) (st:St):Prop:=
 match e with
 | .normal| .ret=>match rv with
   |[.tmp t]=>match st.tmps t with
    | .cZ o off=>match Nat.beq off 0,(st.freeze (PO st)).ak o with
      |true,some (.var cs)=>match cs.flatMap Cell.refs,kU l cs with
       |[],some d=>K d
       |_,_=>False
      |_,_=>False
    |_=>False
   |_=>False
 |_=>False
def loses (sh:List gZ):List Eff:=sh.map fun _=> .lose
def aua (sh:List gZ) (l:List iI) (F:jV sh→Prop×(oD l→Prop)):Ib:=fun args=>
 match jl sh args with
 |some x=>some ((F x).1,⟨oD l,(F x).2,fun t=>⟨[],some (iT l t)⟩,fun _=>loses sh⟩)
 |none=>none
theorem UU (sh:List gZ) (q:Nat):nO (loses sh) q=none:=by
 unfold nO loses
 rw [List.getElem?_map]
 cases sh[q / 64]? <;>rfl
theorem SK:∀ (l:List iI) (cs:List Cell) (d:oD l),kU l cs=some d→cs.flatMap Cell.refs=[]→(iT l d).flatMap Cell.refs=[]
 |[],[],_,_,_=>rfl
 |c::l,x::xs,d,h,hn=>by
  rw [kU] at h
  rw [List.flatMap_cons,List.append_eq_nil_iff] at hn
  split at h
  · next p q hp hq=>
    cases h
    show ((c.cell p)::iT l q).flatMap Cell.refs=[]
    rw [List.flatMap_cons,List.append_eq_nil_iff]
    refine ⟨?_,SK l xs q hq hn.2⟩
    cases c with
    |ref o=>
     cases x<;>simp [iI.read,Cell.refs] at hp hn
    |_=>rfl
  · cases h
 |[],_::_,_,h,_=>by simp [kU] at h
 |_::_,[],_,h,_=>by simp [kU] at h
theorem avi {G:kQ} (hE:EnvB P G Θ Γ) (hm:P.follows .mixedOrders=true) {f:FuncId} {fn:Func} {c:Code} (hf:P.funcs[f]? =some fn) (hb:fn.body=some c) (H:Hints)
 {sh:List gZ} {l:List iI} {F:jV sh→Prop×(oD l→Prop)} (hn:Nat.ble sh.length fn.ntmps=true) (hne:∀ x,(F x).1→∃ t,(F x).2 t)
 (hwalk:∀ x,ML sh x→(F x).1→Iw Θ Γ H c (aon fn.results.toList l (F x).2) (Gh fn.ntmps (yB sh x))):kK P G f (aua sh l F):=by
 intro args p ρ hcon hp
 unfold aua at hcon
 split at hcon
 case h_2=>cases hcon
 next x hx=>
 cases hcon
 refine ⟨hne x hp,fun k S γ vs w hG hrep qo hsep hap=>?_⟩
 have hlen:=(MI hx).1
 rw [La] at hlen
 have hn':args.length≤fn.ntmps:=by rw [← hlen];simpa [Nat.ble_eq] using hn
 have hin:ML sh x:=ZL (fun o X ho=>(qo o X ho).1) sh args x vs.toList 0 (fun j a h=>by rwa [Nat.zero_add]) hx hrep
 have hR0:=ahR (S:=S) fn.ntmps hn' hrep (fun o X ho=>⟨(qo o X ho).1,fun b hb=>((qo o X ho).2 b hb).1⟩) hsep
 have hR1:=hR0.covers (WT hx fn.ntmps)
 refine calls_of_wp hf hb (ZJ ⟨hE,hG,fun b hb=>?_⟩ hm H c _ _ _ _ _ _ hR1 (hwalk x hin hp) ?_)
 · obtain ⟨o,X,ho,hb⟩:=hb
   exact ((qo o X ho).2 b hb).2
 intro e s γ' a' w' he hR
 have he':aon fn.results.toList l (F x).2 .ret s:=by
  cases e with
  |normal=>exact he
  |ret=>exact he
  |_=>exact he.elim
 have hfin:bodyPost P fn (fun e w'=>∃ t,(F x).2 t∧PE S args γ w k ⟨[],some (iT l t)⟩ (loses sh) e w') .ret a' w':=by
  simp only [aon] at he'
  split at he'
  case h_2=>exact he'.elim
  next t hrv=>
  split at he'
  case h_2=>exact he'.elim
  next o off ZF=>
  split at he'
  case h_2=>exact he'.elim
  next cs hoff hcs=>
  split at he'
  case h_2=>exact he'.elim
  next d hnr hd=>
  have hoff:=Nat.eq_of_beq_eq_true hoff
  subst hoff
  have hRf:=hR.freeze (PO s)
  have hv:=hR.tmps t
  rw [ZF] at hv
  obtain ⟨b,cs0,_,hγ,hval⟩:=hv
  obtain ⟨b',arr,ty,g1,g2,g3⟩:=hRf.ak o _ hcs
  have g1:γ' o= .pointer (some ⟨b',0,none⟩):=g1
  have hγ:γ' o= .pointer (some ⟨b,0,none⟩):=hγ
  rw [hγ] at g1
  cases g1
  have hblk:blk (γ' o)=some b:=by rw [hγ];rfl
  have hlt:=hRf.lt o _ b hcs hblk
  let γ2:Nat→Value:=fun _=>γ' o
  let Z:V:=⟨w',w.heap.size,tJ S args (loses sh) γ,γ2,look (Out.take k ⟨[],some (iT l d)⟩).2⟩
  have hlook:∀ q y,look (Out.take k ⟨[],some (iT l d)⟩).2 q=some y→q=k-1∧y= .var (iT l d):=by
   intro q y hq
   have hmem:=zJ _ q y hq
   have:(q,y)=(k-1, .var (iT l d)):=by simpa [Out.take] using hmem
   exact ⟨congrArg Prod.fst this,congrArg Prod.snd this⟩
  have Iq:∀ fr b',(aA w (ZK args γ S) γ' (s.freeze (PO s)) w').dH fr b'→Z.dH fr b':=by
   intro fr b' hb'
   refine ⟨⟨hb'.1.1,fun hlt'=>⟨hb'.1.2.1 hlt',fun q y hq=>by rw [UU] at hq;cases hq⟩,fun q y hq=>?_⟩,hb'.2⟩
   exact hb'.1.2.2 o _ hcs
  have hcells:ax Z (iT l d) arr.toList:=
   GK (Y:=aA w (ZK args γ S) γ' (s.freeze (PO s)) w') (Z:=Z) rfl Iq _ _ (SK l cs d hd hnr) (Gf l cs d _ hd g3)
  have hself:look (Out.take k ⟨[],some (iT l d)⟩).2 (k-1)=some (.var (iT l d)):=by simp [Out.take,look]
  refine ⟨hR.defers,a'.tmps.getD t undef,?_,d,he',_,γ2,rfl,hR.os,hR.tape,hR.output,hR.grow,hR.kept,?_,fun q y hq=>?_,fun q y q' y' b' hq hq' hne'=>?_,fun q y hq=>by rw [UU] at hq;cases hq⟩
  · have:fn.results=#[.tmp t]:=by apply Array.ext';simpa using hrv
    have hmap:(Array.mapM (Kv a'.tmps) #[ResultVar.tmp t]).run P w'= .ok #[a'.tmps.getD t undef] w':=by
     rw [Array.mapM_eq_mapM_toList,Sem.run_map]
     simp only [List.mapM_cons,List.mapM_nil,Kv]
     rfl
    rw [UR,this,Sem.run_bind,hmap]
    rfl
  · exact ⟨b,iT l d,hself,hγ,hval⟩
  · obtain ⟨rfl,rfl⟩:=hlook q y hq
    refine ⟨⟨b,arr,ty,hγ,g2,hcells⟩,fun b' hb'=>?_⟩
    have hb':blk (γ' o)=some b':=hb'
    rw [hblk] at hb'
    cases hb'
    exact ⟨hlt.1,hlt.2,fun q y hq=>by rw [UU] at hq;cases hq⟩
  · obtain ⟨rfl,_⟩:=hlook q y hq
    obtain ⟨rfl,_⟩:=hlook q' y' hq'
    exact (hne' rfl).elim
 cases e with
 |normal=>exact hfin
 |ret=>exact hfin
 |_=>exact he.elim
end Go.Fw
namespace Go.Fw
open Go
def CT.isZero:CT→Value→Bool
 | .int k, .int l n=>decide (k=l)&&decide (n=0)
 | .bool, .bool b=>!b
 | .str, .string s=>s.data.toList.isEmpty
 | .sl _ _, .slice none 0 0=>true
 |_,_=>false
def aN.SL:aN→List Value→Bool
 | .nil,[]=>true
 | .cons c r,v::vs=>c.isZero v&&r.SL vs
 |_,_=>false
theorem CT.as3:∀ (c:CT) (v:Value),c.isZero v=true→v=c.akY:=by
 intro c v h
 unfold CT.isZero at h
 split at h
 · simp at h;rw [h.1,h.2];rfl
 · simp at h;subst h;rfl
 · next s=>
   obtain ⟨⟨l⟩⟩:=s
   simp at h
   subst h;rfl
 · rfl
 · cases h
theorem aN.ahV:∀ (r:aN) (vs:List Value),r.SL vs=true→vs=r.mO
 | .nil,[],_=>rfl
 | .cons c r,v::vs,h=>by
   rw [SL,Bool.and_eq_true] at h
   rw [aN.mO,CT.as3 c v h.1,aN.ahV r vs h.2]
 | .nil,_::_,h| .cons _ _,[],h=>by simp [SL] at h
def ao7:TypeDesc→TypeDesc→Bool
 | .int k, .int l=>decide (k=l)
 | .bool, .bool=>true
 | .string, .string=>true
 | .slice e, .slice f=>Nat.beq e f
 |_,_=>false
theorem as4:∀ (c d:TypeDesc),ao7 c d=true→c=d:=by
 intro c d h
 unfold ao7 at h
 split at h
 · rw [of_decide_eq_true h]
 · rfl
 · rfl
 · rw [Nat.eq_of_beq_eq_true h]
 · cases h
def NY (P:Program):List (Nat×TypeId)→List Field→Bool
 |[],[]=>true
 |(o,t)::r,f::fs=>Nat.beq o f.offset&&Nat.beq t f.type&&(P.info? f.type).isSome&&NY P r fs
 |_,_=>false
theorem aee {P:Program}:∀ (l:List (Nat×TypeId)) (fs:List Field),NY P l fs=true→l=fs.map (fun f=>(f.offset,f.type))∧∀ f∈fs,(P.info? f.type).isSome=true
 |[],[],_=>⟨rfl,by simp⟩
 |(o,t)::r,f::fs,h=>by
  rw [NY,Bool.and_eq_true,Bool.and_eq_true,Bool.and_eq_true] at h
  obtain ⟨⟨⟨h1,h2⟩,h3⟩,h4⟩:=h
  obtain ⟨e,hall⟩:=aee r fs h4
  refine ⟨by rw [List.map_cons,← e,Nat.eq_of_beq_eq_true h1,Nat.eq_of_beq_eq_true h2],fun g hg=>?_⟩
  rcases List.mem_cons.1 hg with rfl|hg
  · exact h3
  · exact hall g hg
 |[],_::_,h|_::_,[],h=>by simp [NY] at h
def as5 (P:Program) (t:TypeId) (ti:TI):Bool:=
 match ti.kind,P.underlying t with
 | .scalar,some d=>match ti.cells.desc with|some c=>ao7 c d|none=>false
 | .str,some .string=>ti.cells.beq (.cons .str .nil)
 | .slice e,some (.slice f)=>Nat.beq e f&&(match ti.cells with| .cons (.sl g _) .nil=>Nat.beq g e|_=>false)
 | .struct fs,some (.struct CB)=>NY P fs CB.toList
 |_,_=>false
def aqT (ti:TI) (z:Value):Bool:=match ti.kind with
 | .struct _=>true
 |_=>z.oneCell'
def ak8 (P:Program) (t:TypeId) (ti:TI):Bool:=
 match P.info? t with
 |some i=>match i.zero with
  |some z=>Nat.beq i.size ti.cells.len&&Nat.beq i.bytes ti.bytes&&ti.cells.SL z.cells.toList&&aqT ti z&&as5 P t ti&&Nat.ble ti.bytes 4096&&(!ti.cmp||arz P t ti.cells)
  |none=>false
 |none=>false
theorem nX.aub {P:Program} {t:TypeId} {ti:TI} (h:ak8 P t ti=true):nX P t ti:=by
 unfold ak8 at h
 split at h
 · next i hi=>
   split at h
   · next z hz=>
     simp only [Bool.and_eq_true] at h
     obtain ⟨⟨⟨⟨⟨⟨h1,h2⟩,h3⟩,h4⟩,h5⟩,h6⟩,h7⟩:=h
     refine ⟨⟨i,z,hi,Nat.eq_of_beq_eq_true h1,Nat.eq_of_beq_eq_true h2,hz,aN.ahV _ _ h3,fun hagg=>?_⟩,?_,by simpa [Nat.ble_eq] using h6,fun e w s u X xs ys vs us b hf hx hy he=>avc (by rw [e] at h7;simpa using h7) w s u X xs ys vs us b hf hx hy he⟩
     · unfold aqT at h4
       unfold TI.agg at hagg
       split at h4
       · next hk=>rw [hk] at hagg;cases hagg
       · exact Ii z h4
     · unfold as5 at h5
       split at h5
       · next d hk hu=>
         rw [hk]
         split at h5
         · next c hc=>exact ⟨d,by rw [hc,as4 c d h5],hu⟩
         · cases h5
       · next hk hu=>rw [hk];exact ⟨hu,aN.eq_of_beq _ _ h5⟩
       · next e f hk hu=>
         rw [hk]
         rw [Bool.and_eq_true] at h5
         have hef:=Nat.eq_of_beq_eq_true h5.1
         subst hef
         refine ⟨hu,?_⟩
         have h52:=h5.2
         split at h52
         · next g r hg=>exact ⟨r,by rw [hg,Nat.eq_of_beq_eq_true h52]⟩
         · cases h52
       · next fs CB hk hu=>
         rw [hk]
         obtain ⟨e,hall⟩:=aee _ _ h5
         exact ⟨CB,hu,e,hall⟩
       · cases h5
   · cases h
 · cases h
def SN (P:Program):List (Nat×TI)→Bool
 |[]=>true
 |(t,ti)::r=>ak8 P t ti&&SN P r
theorem ao8 {P:Program}:∀ {l:List (Nat×TI)},SN P l=true→∀ t ti,ahN l t=some ti→nX P t ti
 |[],_,t,ti,h=>by cases h
 |(i,x)::r,hc,t,ti,h=>by
  rw [SN,Bool.and_eq_true] at hc
  rw [ahN] at h
  cases hb:Nat.beq t i with
  |true=>rw [hb] at h;cases h;rw [Nat.eq_of_beq_eq_true hb];exact .aub hc.1
  |false=>rw [hb] at h;exact ao8 hc.2 t ti h
def ab8 (fn:Func):Bool:=fn.body.isSome&&!(fn.name== "runtime.NumGoroutine")
theorem vT {P:Program} {f:FuncId} {fn:Func} (hf:P.funcs[f]? =some fn) (hc:ab8 fn=true):qU P f:=by
 intro args w
 unfold ab8 at hc
 rw [Bool.and_eq_true] at hc
 have h1:(fn.name== "runtime.NumGoroutine")=false:=by simpa using hc.2
 have h2:fn.body.isNone=false:=by cases hb:fn.body with|none=>rw [hb] at hc;simp at hc|some _=>rfl
 unfold callFunc
 simp only [Sem.run_bind,run_program,Result.andThen_ok,hf,h1,h2,Bool.false_eq_true,if_false,Sem.run_pure]
def as6 (P:Program) (G:kQ) (f:FuncId):Qv→Prop
 | .pure c=>uH P G f c∧qU P f
 | .eff _ c=>kK P G f c∧qU P f
theorem as7 {P:Program} {G:kQ} {Θ:gK} (hT:∀ t ti,Θ t=some ti→nX P t ti):∀ {l:List (Nat×Qv)},(∀ x∈l,as6 P G x.1 x.2)→EnvB P G Θ (ay l)
 |[],_=>⟨hT,(fun f con h=>by cases h),(fun f ms con h=>by cases h)⟩
 |(i,c)::r,h=>by
  have ih:=as7 (G:=G) hT fun x hx=>h x (List.mem_cons_of_mem _ hx)
  refine ⟨hT,fun f con hf=>?_,fun f ms con hf=>?_⟩
  · rw [ay] at hf
    cases hb:Nat.beq f i with
    |true=>rw [hb] at hf;cases hf;rw [Nat.eq_of_beq_eq_true hb];exact h (i, .pure con) List.mem_cons_self
    |false=>rw [hb] at hf;exact ih.cons f con hf
  · rw [ay] at hf
    cases hb:Nat.beq f i with
    |true=>rw [hb] at hf;cases hf;rw [Nat.eq_of_beq_eq_true hb];exact h (i, .eff ms con) List.mem_cons_self
    |false=>rw [hb] at hf;exact ih.aok f ms con hf
end Go.Fw
namespace Go.Fw
open Go
structure PA where
 n:Nat
 sh:List jr
 dO:List wC
 F:pI sh→Prop×zS dO
structure XA where
 n:Nat
 sh:List gZ
 dO:List uI
 F:jV sh→Prop×(pz dO×ou sh→Prop)
structure QA where
 n:Nat
 sh:List gZ
 dO:List iI
 F:jV sh→Prop×(oD dO→Prop)
def PA.e (q:PA):Nat×Qv:=(q.n, .pure (FN q.sh q.dO q.F))
def XA.e (q:XA):Nat×Qv:=(q.n, .eff (EP q.sh) (uD q.sh q.dO q.F))
def QA.e (q:QA):Nat×Qv:=(q.n, .eff (EP q.sh) (aua q.sh q.dO q.F))
def ai (P:Program) (G:kQ) (x:Nat×Qv):Prop:=as6 P G x.1 x.2
def as8 (P:Program) (G:kQ):List (Nat×Qv)→Prop
 |[]=>True
 |x::l=>ai P G x∧as8 P G l
theorem aj {P:Program} {G:kQ} {l':List (Nat×TI)} (hT:SN P l'=true) {l:List (Nat×Qv)} (h:as8 P G l):EnvB P G (ahN l') (ay l):=
 as7 (ao8 hT) (by
  induction l with
  |nil=>exact fun x hx=>by cases hx
  |cons y l ih=>exact List.forall_mem_cons.2 ⟨h.1,ih h.2⟩)
def ak9:(l:List iI)→(oD l→Prop)→Prop
 |[],p=>p ()
 |c::r,p=>∀ x:c.den,ak9 r fun y=>p (x,y)
theorem SQ:∀ {l:List iI} {p:oD l→Prop},ak9 l p→∀ x,p x
 |[],_,h,()=>h
 |_::_,_,h,(x,y)=>SQ (h x) y
def arT:(l:List (List iI))→(Eo l→Prop)→Prop
 |[],p=>p ()
 |c::r,p=>ak9 c fun x=>arT r fun y=>p (x,y)
theorem ao9:∀ {l:List (List iI)} {p:Eo l→Prop},arT l p→∀ x,p x
 |[],_,h,()=>h
 |_::_,_,h,(x,y)=>ao9 (SQ h x) y
def auc:(s:jr)→(s.den→Prop)→Prop
 | .v (.one c),p=>∀ x:c.den,p x
 | .v (.agg l),p=>ak9 l p
 | .kp l,p=>ak9 l p
 | .fn _ l,p=>arT l p
theorem aqU:∀ {s:jr} {p:s.den→Prop},auc s p→∀ x,p x
 | .v (.one _),_,h,x=>h x
 | .v (.agg _),_,h,x=>SQ h x
 | .kp _,_,h,x=>SQ h x
 | .fn _ _,_,h,x=>ao9 h x
def arU:(l:List jr)→(pI l→Prop)→Prop
 |[],p=>p ()
 |s::r,p=>auc s fun x=>arU r fun y=>p (x,y)
theorem apa:∀ {l:List jr} {p:pI l→Prop},arU l p→∀ x,p x
 |[],_,h,()=>h
 |_::_,_,h,(x,y)=>apa (aqU h x) y
def avN:(s:gZ)→(s.den→Prop)→Prop
 | .p s,p=>auc s p
 | .own _ r,p=>∀ x:List r.den,p x
 | .ptr l,p=>ak9 l p
theorem avj:∀ {s:gZ} {p:s.den→Prop},avN s p→∀ x,p x
 | .p _,_,h,x=>aqU h x
 | .own _ _,_,h,x=>h x
 | .ptr _,_,h,x=>SQ h x
def aoo:(l:List gZ)→(jV l→Prop)→Prop
 |[],p=>p ()
 |s::r,p=>avN s fun x=>aoo r fun y=>p (x,y)
theorem afm:∀ {l:List gZ} {p:jV l→Prop},aoo l p→∀ x,p x
 |[],_,h,()=>h
 |_::_,_,h,(x,y)=>afm (avj h x) y
abbrev LP {α:Type} (x:α) (f:(α→Prop)→(α→Nat)→α→Prop):Prop:=∃ (I:α→Prop),∃ (μ:α→Nat),I x∧∀ (y:α),I y→f I μ y
def H0:Hints:=hints [] [] [] [] []
def Ez (P:Program) (n:Nat):Func:=match P.funcs[n]? with|some f=>f|none=>default
def Kz (P:Program) (n k:Nat):Bool:=P.funcs[n]?.isSome&&ab8 (Ez P n)&&Nat.ble k (Ez P n).ntmps
theorem ZM {P:Program} {n k:Nat} (h:Kz P n k=true):P.funcs[n]? =some (Ez P n)∧(Ez P n).body=some (codeOf (Ez P n))∧qU P n∧Nat.ble k (Ez P n).ntmps=true:=by
 simp only [Kz,Bool.and_eq_true] at h
 obtain ⟨⟨h1,h2⟩,h3⟩:=h
 have e:P.funcs[n]? =some (Ez P n):=by
  unfold Ez
  cases hf:P.funcs[n]? with
  |some f=>rfl
  |none=>rw [hf] at h1;cases h1
 refine ⟨e,?_,vT e h2,h3⟩
 have h4:=h2
 unfold ab8 at h4
 rw [Bool.and_eq_true] at h4
 unfold codeOf
 cases hb:(Ez P n).body with
 |some c=>rfl
 |none=>rw [hb] at h4;cases h4.1
def PA.goal (q:PA) (g:(zS q.dO→Prop)→Prop) (x:pI q.sh):Prop:=MG q.sh x→(q.F x).1→g fun r=>r=(q.F x).2
def XA.goal (q:XA) (g:(pz q.dO×ou q.sh→Prop)→Prop) (x:jV q.sh):Prop:=ML q.sh x→(q.F x).1→g (q.F x).2
def QA.goal (q:QA) (g:(oD q.dO→Prop)→Prop) (x:jV q.sh):Prop:=ML q.sh x→(q.F x).1→g (q.F x).2
variable {P:Program} {Θ:gK} {Γ:aB} {G:kQ}
theorem PA.ok {q:PA} (hm:P.follows .mixedOrders=true) (hE:EnvB P G Θ Γ) (H:Hints) {p:Prop}
 (hp:(bif Kz P q.n q.sh.length then arU q.sh fun x=>q.goal (fun K=>Iw Θ Γ H (codeOf (Ez P q.n)) (ahO Θ (Ez P q.n).results.toList q.dO K) (entry (Ez P q.n).ntmps (zL q.sh x))) x else False)=p) (h:p):ai P G q.e:=by
 subst hp
 cases hc:Kz P q.n q.sh.length with
 |false=>rw [hc] at h;exact h.elim
 |true=>
  rw [hc] at h
  obtain ⟨h1,h2,h3,h4⟩:=ZM hc
  exact ⟨ak4 hE hm h1 h2 H h4 fun x hi hx=>apa h x hi hx,h3⟩
theorem XA.ok {q:XA} (hm:P.follows .mixedOrders=true) (hE:EnvB P G Θ Γ) (H:Hints) (hne:∀ x,(q.F x).1→∃ t,(q.F x).2 t) {p:Prop}
 (hp:(bif Kz P q.n q.sh.length then aoo q.sh fun x=>q.goal (fun K=>Iw Θ Γ H (codeOf (Ez P q.n)) (aom Θ (Ez P q.n).results.toList q.sh q.dO K) (Gh (Ez P q.n).ntmps (yB q.sh x))) x else False)=p) (h:p):ai P G q.e:=by
 subst hp
 cases hc:Kz P q.n q.sh.length with
 |false=>rw [hc] at h;exact h.elim
 |true=>
  rw [hc] at h
  obtain ⟨h1,h2,h3,h4⟩:=ZM hc
  exact ⟨aqS hE hm h1 h2 H h4 hne fun x hi hx=>afm h x hi hx,h3⟩
theorem QA.ok {q:QA} (hm:P.follows .mixedOrders=true) (hE:EnvB P G Θ Γ) (H:Hints) (hne:∀ x,(q.F x).1→∃ t,(q.F x).2 t) {p:Prop}
 (hp:(bif Kz P q.n q.sh.length then aoo q.sh fun x=>q.goal (fun K=>Iw Θ Γ H (codeOf (Ez P q.n)) (aon (Ez P q.n).results.toList q.dO K) (Gh (Ez P q.n).ntmps (yB q.sh x))) x else False)=p) (h:p):ai P G q.e:=by
 subst hp
 cases hc:Kz P q.n q.sh.length with
 |false=>rw [hc] at h;exact h.elim
 |true=>
  rw [hc] at h
  obtain ⟨h1,h2,h3,h4⟩:=ZM hc
  exact ⟨avi hE hm h1 h2 H h4 hne fun x hi hx=>afm h x hi hx,h3⟩
end Go.Fw
namespace Go.Fw
open Go
variable {P:Program} {G:kQ} {f:FuncId}
abbrev iF:List UInt8:=[]
abbrev CO:List (Int×Unit):=[]
theorem uH.weaken {con ZN:WL} (h:uH P G f con) (hc:∀ args p out,ZN args=some (p,out)→p→∃ q,con args=some (q,out)∧q):uH P G f ZN:=by
 intro args p out k S vs w hcon hp hG hrep
 obtain ⟨q,h1,h2⟩:=hc args p out hcon hp
 exact h args q out k S vs w h1 h2 hG hrep
theorem kK.weaken {con ZN:Ib} (h:kK P G f con) (hc:∀ args p ρ,ZN args=some (p,ρ)→p→∃ q,con args=some (q,ρ)∧q):kK P G f ZN:=by
 intro args p ρ hcon hp
 obtain ⟨q,h1,h2⟩:=hc args p ρ hcon hp
 exact h args q ρ h1 h2
theorem as9 {sh:List jr} {dO:List wC} {F:pI sh→Prop×zS dO} (Fr Fs:Nat→pI sh→Prop×zS dO) (h0:∀ x,¬ (Fr 0 x).1) (hs:∀ n x,Fr (n+1) x=Fs n x)
 (hf:∀ x,(F x).1→∃ n,(Fr n x).1) (he:∀ n x,(Fr n x).2=(F x).2) (step:∀ n,uH P G f (FN sh dO (Fr n))→uH P G f (FN sh dO (Fs n))):uH P G f (FN sh dO F):=by
 have all:∀ n,uH P G f (FN sh dO (Fr n)):=by
  intro n
  induction n with
  |zero=>
   intro args p out k S vs w hcon hp
   unfold FN MH at hcon
   split at hcon
   · next x _=>
     have e:(Fr 0 x).1=p:=congrArg Prod.fst (Option.some.inj hcon)
     exact absurd (e.symm▸hp) (h0 x)
   · cases hcon
  |succ n ih=>
   have:=step n ih
   have e:Fr (n+1)=Fs n:=funext (hs n)
   rw [e];exact this
 intro args p out k S vs w hcon hp hG hrep
 have MN:=hcon
 unfold FN MH at MN
 split at MN
 · next x hx=>
   have e:=Option.some.inj MN
   have e1:(F x).1=p:=congrArg Prod.fst e
   obtain ⟨n,hn⟩:=hf x (e1.symm▸hp)
   refine all n args (Fr n x).1 out k S vs w ?_ hn hG hrep
   unfold FN MH
   rw [hx]
   show some ((Fr n x).1,_)=_
   rw [he n x]
   exact congrArg (fun z=>some ((Fr n x).1,z)) (congrArg Prod.snd e)
 · cases MN
theorem avk {sh:List gZ} {dO:List uI} {F:jV sh→Prop×(pz dO×ou sh→Prop)} (Fr Fs:Nat→jV sh→Prop×(pz dO×ou sh→Prop)) (h0:∀ x,¬ (Fr 0 x).1) (hs:∀ n x,Fr (n+1) x=Fs n x)
 (hf:∀ x,(F x).1→∃ n,(Fr n x).1) (he:∀ n x,(Fr n x).2=(F x).2) (step:∀ n,kK P G f (uD sh dO (Fr n))→kK P G f (uD sh dO (Fs n))):kK P G f (uD sh dO F):=by
 have all:∀ n,kK P G f (uD sh dO (Fr n)):=by
  intro n
  induction n with
  |zero=>
   intro args p ρ hcon hp
   unfold uD at hcon
   split at hcon
   · next x _=>
     have e:(Fr 0 x).1=p:=congrArg Prod.fst (Option.some.inj hcon)
     exact absurd (e.symm▸hp) (h0 x)
   · cases hcon
  |succ n ih=>
   have:=step n ih
   have e:Fr (n+1)=Fs n:=funext (hs n)
   rw [e];exact this
 intro args p ρ hcon hp
 have MN:=hcon
 unfold uD at MN
 split at MN
 · next x hx=>
   have e:=Option.some.inj MN
   have e1:(F x).1=p:=congrArg Prod.fst e
   obtain ⟨n,hn⟩:=hf x (e1.symm▸hp)
   refine all n args (Fr n x).1 ρ ?_ hn
   unfold uD
   rw [hx]
   show some ((Fr n x).1,_)=_
   rw [he n x]
   exact congrArg (fun z=>some ((Fr n x).1,z)) (congrArg Prod.snd e)
 · cases MN
end Go.Fw
namespace Go.Fw
open Go
variable {P:Program} {H:Type} {enc:TypeId×Value→H} {w:World}
def aN.app:aN→aN→aN
 | .nil,s=>s
 | .cons c r,s=> .cons c (r.app s)
def aop:(r s:aN)→r.den→s.den→(r.app s).den
 | .nil,_,_,y=>y
 | .cons _ r,s,x,y=>(x.1,aop r s x.2 y)
theorem bK.app {h:Array Obj} {S:Nat→Prop}:∀ (r s:aN) (x:r.den) (y:s.den) (vs us:List Value),bK h S r vs x→bK h S s us y→bK h S (r.app s) (vs++us) (aop r s x y)
 | .nil,s,x,y,vs,us,h1,h2=>by rw [bK] at h1;subst h1;exact h2
 | .cons c r,s,(x,x'),y,vs,us,h1,h2=>by
   rw [bK] at h1
   obtain ⟨v,vs',rfl,g1,g2⟩:=h1
   show bK h S (.cons c (r.app s)) (v::(vs'++us)) (x,aop r s x' y)
   rw [bK]
   exact ⟨v,vs'++us,rfl,g1,bK.app r s x' y vs' us g2 h2⟩
theorem add_add (a:Addr) (h:a.spot=none) (m j:Nat):(a.add m).add j=⟨a.block,a.off+m+j,none⟩:=by
 obtain ⟨b,o,sp⟩:=a
 simp only at h
 subst h
 unfold Addr.add
 by_cases hm:m=0
 · by_cases hj:j=0
   · simp [hm,hj]
   · simp [hm,hj]
 · by_cases hj:j=0
   · simp [hm,hj]
   · simp [hm,hj]
def PV (f:TypeId→Option aN):List Field→Nat→Option aN
 |[],_=>some .nil
 |x::r,off=>match f x.type with
  |some s=>match PV f r (off+s.len),Nat.beq x.offset off with
   |some u,true=>some (s.app u)
   |_,_=>none
  |none=>none
def rowOf (P:Program):Nat→TypeId→Option aN
 |0,_=>none
 |n+1,t=>match P.underlying t with
  |some (.int k)=>some (.cons (.int k) .nil)
  |some .bool=>some (.cons .bool .nil)
  |some .string=>some (.cons .str .nil)
  |some (.slice e)=>match rowOf P n e with
   |some s=>match Nat.beq s.len (P.cellsOf e)&&Nat.ble 1 s.len with
    |true=>some (.cons (.sl e s) .nil)
    |false=>none
   |none=>none
  |some (.struct fs)=>match PV (rowOf P n) fs.toList 0 with
   |some r=>match Nat.beq r.len (P.cellsOf t) with
    |true=>match fs.toList.all fun f=>match rowOf P n f.type with|some s=>Nat.beq s.len (P.cellsOf f.type)|none=>false with
     |true=>some r
     |false=>none
    |false=>none
   |none=>none
  |_=>none
theorem aqV {α:Type} {Q:Nat→α→Prop}:∀ (n:Nat),(∀ i,i<n→∃ x,Q i x)→∃ l:List α,l.length=n∧∀ i x,l[i]? =some x→Q i x
 |0,_=>⟨[],rfl,fun i x h=>by simp at h⟩
 |n+1,h=>by
  obtain ⟨l,hl,hq⟩:=aqV n fun i hi=>h i (by omega)
  obtain ⟨x,hx⟩:=h n (by omega)
  refine ⟨l++[x],by simp [hl],fun i y hy=>?_⟩
  rcases Nat.lt_or_ge i n with hi|hi
  · rw [List.getElem?_append_left (by omega)] at hy;exact hq i y hy
  · rw [List.getElem?_append_right (by omega)] at hy
    have:i=n:=by
     rcases Nat.lt_or_ge n i with h'|h'
     · rw [List.getElem?_eq_none (by simp;omega)] at hy;cases hy
     · omega
    subst this
    simp [hl] at hy
    rw [← hy];exact hx
theorem aqW:∀ (r s:aN),(r.app s).len=r.len+s.len
 | .nil,s=>by simp [aN.app,aN.len]
 | .cons c r,s=>by simp only [aN.app,aN.len,aqW r s];omega
theorem ahW {f:TypeId→Option aN} {S:Nat→Prop} {h:Array Obj} (cs:List Value)
 (part:∀ (t:TypeId) (r:aN) (off:Nat),f t=some r→(∃ g:Field,g.type=t∧g.offset=off)→True):∀ (fs:List Field) (off:Nat) (r:aN),PV f fs off=some r→
 (∀ g∈fs,∀ s,f g.type=some s→∃ x,bK h S s ((cs.drop g.offset).take s.len) x)→
 ∃ x,bK h S r ((cs.drop off).take r.len) x
 |[],off,r,hr,_=>by
  cases hr
  exact ⟨(),by rw [bK];simp [aN.len]⟩
 |g::fs,off,r,hr,hall=>by
  rw [PV] at hr
  split at hr
  · next s hs=>
    split at hr
    · next u hu hb=>
      cases hr
      obtain ⟨x,hx⟩:=hall g List.mem_cons_self s hs
      rw [Nat.eq_of_beq_eq_true hb] at hx
      obtain ⟨y,hy⟩:=ahW cs part fs (off+s.len) u hu fun g' hg'=>hall g' (List.mem_cons_of_mem _ hg')
      refine ⟨aop s u x y,?_⟩
      have:=bK.app s u x y _ _ hx hy
      rw [aqW]
      have e:(cs.drop off).take (s.len+u.len)=(cs.drop off).take s.len++(cs.drop (off+s.len)).take u.len:=by
       rw [List.take_add,List.drop_drop]
      rw [e];exact this
    · cases hr
  · cases hr
theorem afn:∀ (n:Nat) (t:TypeId) (r:aN),rowOf P n t=some r→∀ (m:Nat) (base:Nat) (spare:Nat→Bool) (held:Bool) (cs:List Value) (x:DataW H×List MemPlace),
 DataW.trod enc P w base spare held m t cs=some x→∃ y,bK w.heap (fun b=>b<w.heap.size) r cs y
 |0,t,r,hr=>by cases hr
 |n+1,t,r,hr=>by
  intro m base spare held cs x hx
  rw [rowOf] at hr
  split at hr
  · next k hu=>
    cases hr
    obtain ⟨i,rfl,_,hwf⟩:=DataW.trod_int hu hx
    simp only [Lit.wf,Bool.and_eq_true,decide_eq_true_eq] at hwf
    exact ⟨(i,()),by rw [bK];exact ⟨_,[],rfl,by rw [jJ];exact ⟨rfl,hwf⟩,by rw [bK]⟩⟩
  · next hu=>
    cases hr
    obtain ⟨b,rfl,_⟩:=DataW.trod_bool hu hx
    exact ⟨(b,()),by rw [bK];exact ⟨_,[],rfl,by rw [jJ],by rw [bK]⟩⟩
  · next hu=>
    cases hr
    obtain ⟨s,rfl,_,hs⟩:=DataW.trod_string hu hx
    refine ⟨(s.data.toList,()),by rw [bK];exact ⟨_,[],rfl,by rw [jJ];exact ⟨by simp,by simpa using hs⟩,by rw [bK]⟩⟩
  · next e hu=>
    split at hr
    · next s hs=>
      split at hr
      · next hb=>
        cases hr
        rw [Bool.and_eq_true] at hb
        have hlen:=Nat.eq_of_beq_eq_true hb.1
        have hpos:1≤s.len:=by simpa [Nat.ble_eq] using hb.2
        rcases DataW.trod_slice hu hx with ⟨rfl,_⟩|⟨a,len,cap,elems,rest,k,_,rfl,_,hbase,hle,hmax,hel,hrow,_,_⟩
        · exact ⟨([],()),by rw [bK];exact ⟨_,[],rfl,by rw [jJ];exact ⟨by simp, .inl ⟨rfl,none,0,rfl⟩⟩,by rw [bK]⟩⟩
        · by_cases h0:len=0
          · subst h0
            exact ⟨([],()),by rw [bK];exact ⟨_,[],rfl,by rw [jJ];exact ⟨by simp, .inl ⟨rfl,some a,cap,rfl⟩⟩,by rw [bK]⟩⟩
          · have each:∀ i,i<len→∃ (ys:List Value) (z:s.den),w.cells? base (a.add (i*P.cellsOf e)) (P.cellsOf e)=some ys∧bK w.heap (fun b=>b<w.heap.size) s ys z:=by
             intro i hi
             have h1:=hrow i hi
             rw [List.getElem?_eq_getElem (by omega)] at h1
             obtain ⟨ys,hys,hy2⟩:=Option.bind_eq_some_iff.1 h1
             obtain ⟨z,hz⟩:=afn n e s hs k base spare held ys _ hy2
             exact ⟨ys,z,hys,hz⟩
            obtain ⟨ys0,z0,hc0,hz0⟩:=each 0 (by omega)
            obtain ⟨_,hl0,hcell0⟩:=World.cells?_some hc0
            have afo:=hcell0 0 (by omega)
            simp only [Nat.zero_mul,Addr.add,if_true] at afo
            have axk:∃ v,ys0[0]? =some v:=⟨ys0[0]'(by omega),by simp [show 0<ys0.length by omega]⟩
            obtain ⟨v0,hv0⟩:=axk
            rw [hv0] at afo
            unfold World.cell? at afo
            split at afo
            · next c ty fz hblk=>
              split at afo
              · cases afo
              · next hsp=>
                have hspot:a.spot=none:=by cases h:a.spot with|none=>rfl|some q=>rw [h] at hsp;simp at hsp
                have ha:a=⟨a.block,a.off,none⟩:=by cases a;simp at hspot;rw [hspot]
                have hb':a.block<w.heap.size:=by
                 obtain ⟨hlt,_⟩:=Array.getElem?_eq_some_iff.1 hblk
                 exact hlt
                have rows:∀ i,i<len→∃ z:s.den,bK w.heap (fun b=>b<w.heap.size) s ((c.toList.drop (a.off+i*s.len)).take s.len) z:=by
                 intro i hi
                 obtain ⟨ys,z,hcs,hz⟩:=each i hi
                 obtain ⟨_,hl,hcell⟩:=World.cells?_some hcs
                 refine ⟨z,?_⟩
                 have:(c.toList.drop (a.off+i*s.len)).take s.len=ys:=by
                  refine List.ext_getElem? fun j=>?_
                  rcases Nat.lt_or_ge j s.len with hj|hj
                  · rw [List.getElem?_take_of_lt hj,List.getElem?_drop]
                    have h2:=hcell j (by omega)
                    have hadd:=add_add a hspot (i*P.cellsOf e) j
                    rw [← hlen] at hadd h2
                    rw [hadd] at h2
                    unfold World.cell? at h2
                    simp only [hblk,Option.isSome_none,Bool.false_eq_true,if_false] at h2
                    rw [← h2]
                    simp
                  · rw [List.getElem?_eq_none (by simp;omega),List.getElem?_eq_none (by omega)]
                 rw [this];exact hz
                obtain ⟨l,hll,hlq⟩:=aqV len rows
                refine ⟨(l,()),by rw [bK];exact ⟨_,[],rfl,by rw [jJ];exact ⟨by omega, .inr ⟨a.block,a.off,cap,c,ty,fz,by rw [hll,← ha],by omega,hb',hblk,hlq⟩⟩,by rw [bK]⟩⟩
            · cases afo
      · cases hr
    · cases hr
  · next fs hu=>
    split at hr
    · next r' hf=>
      split at hr
      · next hb=>
        split at hr
        · next hall=>
          cases hr
          obtain ⟨xs,k,_,_,hcl,hxl,hparts⟩:=DataW.trod_struct hu hx
          have hlen:=Nat.eq_of_beq_eq_true hb
          have:=ahW (h:=w.heap) (S:=fun b=>b<w.heap.size) cs (fun _ _ _ _ _=>trivial) fs.toList 0 _ hf ?_
          · obtain ⟨y,hy⟩:=this
            refine ⟨y,?_⟩
            rw [List.drop_zero,List.take_of_length_le (by omega)] at hy
            exact hy
          · intro g hg s hs
            have hg2:=List.all_eq_true.1 hall g hg
            rw [hs] at hg2
            have hsl:=Nat.eq_of_beq_eq_true hg2
            obtain ⟨i,hi,hgi⟩:=List.mem_iff_getElem.1 hg
            have hp:=hparts i g (by rw [← hgi];simp [show i<fs.size by simpa using hi])
            rw [List.getElem?_eq_getElem (by simp at hi;omega)] at hp
            rw [hsl]
            exact afn n g.type s hs k base spare held _ _ hp
        · cases hr
      · cases hr
    · cases hr
  · cases hr
end Go.Fw
namespace Go.Fw
open Go
variable {P:Program} {H:Type} {enc:TypeId×Value→H} {w:World}
def CT.csh:CT→iI
 | .int k=> .int k
 | .bool=> .bool
 | .str=> .str
 | .sl e r=> .sl e r false
def toC:(c:CT)→c.den→c.csh.den
 | .int _,x=>x
 | .bool,x=>x
 | .str,x=>x
 | .sl _ _,x=>x
def aN.shs:aN→List iI
 | .nil=>[]
 | .cons c r=>c.csh::r.shs
def toCs:(r:aN)→r.den→oD r.shs
 | .nil,_=>()
 | .cons c r,x=>(toC c x.1,toCs r x.2)
theorem ala (X:V):∀ (r:aN) (vs:List Value) (x:r.den),bK X.w.heap (X.dH false) r vs x→ax X (iT r.shs (toCs r x)) vs
 | .nil,vs,x,h=>by rw [bK] at h;subst h;trivial
 | .cons c r,vs,(x,y),h=>by
   rw [bK] at h
   obtain ⟨v,vs',rfl,h1,h2⟩:=h
   refine ⟨?_,ala X r vs' y h2⟩
   cases c with
   |int k=>exact h1
   |bool=>exact h1
   |str=>exact h1
   |sl e r=>exact h1
def arV (P:Program) (t:TypeId):Option wC:=
 match rowOf P 64 t with
 |some r=>match P.underlying t with
  |some (.struct _)=>some (.agg r.shs)
  |some (.array _ _)=>none
  |_=>match r with
   | .cons c .nil=>some (.one c.csh)
   |_=>none
 |none=>none
def NZ (P:Program):List TypeId→Option (List jr)
 |[]=>some []
 |t::ts=>match arV P t,NZ P ts with
  |some s,some l=>some (.v s::l)
  |_,_=>none
def start (w:World):V:=⟨w,w.heap.size,fun b=>b<w.heap.size,fun _=>undef,fun _=>none⟩
theorem avl {t:TypeId} {s:wC} (hs:arV P t=some s) {base base':Nat} {sp:Nat→Bool} {hd:Bool} {v:Value} {d:DataW H} {p:List MemPlace}
 (ht:DataW.Trod enc P w base sp hd t v d p) (hv:Value.okWide P w .any base' t v):∃ x:s.den,eP (start w) (s.val x) v:=by
 unfold arV at hs
 split at hs
 · next r hr=>
   obtain ⟨m,hm⟩:=ht
   obtain ⟨y,hy⟩:=afn 64 t r hr m base sp hd _ _ hm
   have hy':bK (start w).w.heap ((start w).dH false) r v.cells.toList y:=
    bK.mono (fun b hb=>⟨⟨⟨hb,fun _=>hb,fun o x hx=>by cases hx⟩,fun e=>by cases e⟩,rfl⟩) r _ y hy
   unfold Value.okWide at hv
   split at hs
   · next fs hu=>
     cases hs
     rw [hu] at hv
     obtain ⟨cs,rfl,_,_⟩:=hv
     exact ⟨toCs r y,cs,rfl,ala (start w) r _ y hy'⟩
   · cases hs
   · next hns hna=>
     split at hs
     · next c=>
       cases hs
       have hcell:v.cells=#[v]:=by
        cases hv2:v<;>first
         |rfl
         |(exfalso
           rw [hv2] at hv
           split at hv
           · next hu=>exact hns _ hu
           · next hu=>exact hna _ _ hu
           · unfold Go.Cell.okWide at hv
             split at hv<;>first|(rename_i h1 h2;cases h2;done)|(rename_i h2;cases h2;done)|skip
             unfold Go.Cell.ok at hv
             split at hv<;>first|(rename_i h1 h2;cases h2;done)|exact hv)
       have:=ala (start w) _ _ y hy'
       rw [hcell] at this
       exact ⟨toC c y.1,this.1⟩
     · cases hs
 · cases hs
theorem apb:∀ (ts:List TypeId) (sh:List jr),NZ P ts=some sh→∀ {base base':Nat} {sp:Nat→Bool} {hd:Bool} (vs:List Value) (ds:List (DataW H)) (p:List MemPlace),
 DataW.TrodAll enc P w base sp hd ts vs ds p→(∀ (j:Nat) t v,ts[j]? =some t→vs[j]? =some v→Value.okWide P w .any base' t v)→∃ x:pI sh,rY (start w) (zL sh x) vs
 |[],sh,hs,_,_,_,_,vs,ds,p,h,_=>by
  cases hs
  cases vs with
  |nil=>exact ⟨(),trivial⟩
  |cons v vs=>cases ds<;>simp [DataW.TrodAll] at h
 |t::ts,sh,hs,base,base',sp,hd,vs,ds,p,h,hok=>by
  rw [NZ] at hs
  split at hs
  · next s l h1 h2=>
    cases hs
    cases vs with
    |nil=>cases ds<;>simp [DataW.TrodAll] at h
    |cons v vs=>
     cases ds with
     |nil=>simp [DataW.TrodAll] at h
     |cons d ds=>
      obtain ⟨a,b,g1,g2,_⟩:=h
      obtain ⟨x,hx⟩:=avl h1 g1 (hok 0 t v rfl rfl)
      obtain ⟨y,hy⟩:=apb ts l h2 vs ds b g2 fun j t' v' ht' hv'=>hok (j+1) t' v' (by simpa using ht') (by simpa using hv')
      exact ⟨(x,y),hx,hy⟩
  · cases hs
mutual
theorem CT.JB:∀ (c:CT),c.beq c=true
 | .int k=>by simp [CT.beq]
 | .bool=>rfl
 | .str=>rfl
 | .sl e r=>by simp [CT.beq,aN.JB r]
theorem aN.JB:∀ (r:aN),r.beq r=true
 | .nil=>rfl
 | .cons c r=>by simp [aN.beq,CT.JB c,aN.JB r]
end
theorem amV:∀ (c:iI) (x:c.den),c.read (c.cell x)=some x
 | .int k,x=>by simp [iI.cell,iI.read]
 | .bool,x=>rfl
 | .str,x=>rfl
 | .sl e r fr,l=>by
   simp only [iI.cell,iI.read,Nat.beq_refl]
   have h1:NU fr fr=true:=by cases fr<;>rfl
   have h2:r.beq r=true:=aN.JB r
   rw [h1]
   simp only [Bool.and_self]
   rw [dif_pos h2]
   rfl
 | .nil,x=>rfl
 | .ref o,x=>by simp [iI.cell,iI.read]
 | .junk,x=>rfl
theorem ahX:∀ (l:List iI) (x:oD l),kU l (iT l x)=some x
 |[],_=>rfl
 |c::r,x=>by rw [iT,kU,amV c x.1,ahX r x.2]
theorem apc:∀ (ts:List TypeId) (l:List jr),NZ P ts=some l→∀ (x:pI l),Iy l (zL l x)=some x
 |[],l,h,x=>by cases h;rfl
 |t::ts,l,h,x=>by
  rw [NZ] at h
  split at h
  · next s r h1 h2=>
    cases h
    have ih:=apc ts r h2 x.2
    cases s with
    |one c=>
     have e:(jr.v (.one c)).read ((jr.v (.one c)).val x.1)=some x.1:=amV c x.1
     rw [zL,Iy,ih,e]
    |agg l=>
     have e:(jr.v (.agg l)).read ((jr.v (.agg l)).val x.1)=some x.1:=ahX l x.1
     rw [zL,Iy,ih,e]
  · cases h
def alb:Out:=⟨[(false,[.plain (.bool true)])],none⟩
theorem ata {G:kQ} {f:FuncId} {fn:Func} {sh:List jr} {F:pI sh→Prop×Out} (hcon:uH P G f (MH sh F)) (hsh:NZ P fn.params.toList=some sh)
 (hF:∀ x,MG sh x→(F x).1∧(F x).2=alb) (hG:G.ok w) {base base':Nat} {sp:Nat→Bool} {hd:Bool} {args:Array Value} {ds:List (DataW H)} {p:List MemPlace}
 (hA:DataW.TrodAll enc P w base sp hd fn.params.toList args.toList ds p) (hok:∀ (j:Nat) t v,fn.params[j]? =some t→args[j]? =some v→Value.okWide P w .any base' t v):
 Calls P f args w fun e w'=>e= .returned (.bool true)∧w'.os=w.os∧w'.output=w.output∧w.heap.size≤w'.heap.size∧∀ b,b<w.heap.size→w'.heap[b]? =w.heap[b]? :=by
 obtain ⟨x,hx⟩:=apb _ _ hsh _ _ _ hA fun j t v ht hv=>hok j t v (by simpa using ht) (by simpa using hv)
 have hin:=ET sh x _ hx
 obtain ⟨hp,ho⟩:=hF x hin
 have hc:MH sh F (zL sh x)=some ((F x).1,alb):=by
  unfold MH
  rw [apc _ _ hsh x]
  simp only [← ho]
 refine (hcon (zL sh x) _ _ 0 _ args w hc hp hG hx).mono ?_
 rintro e w' ⟨v,vals,rfl,h1,h2,h3,h4,h5,h6,_,_⟩
 have hv:v= .bool true:=h6
 exact ⟨by rw [hv],h1,h3,h4,h5⟩
theorem aud {w w':World} (h1:w'.os=w.os) (h3:w'.output=w.output) (h5:∀ b,b<w.heap.size→w'.heap[b]? =w.heap[b]?) (may:MemPlace→Prop):w.keptBut w' may:=by
 refine ⟨h1,h3,fun i hi=>?_⟩
 rw [h5 i hi]
 cases hw:w.heap[i]? with
 |none=>trivial
 |some o=>cases o<;>simp
theorem aue {w w':World} (h5:∀ b,b<w.heap.size→w'.heap[b]? =w.heap[b]?) {p:MemPlace} (hp:p.block<w.heap.size):w.sameAt w' p:=by
 cases p with
 |cell b off=>
  show w'.cell? _=w.cell? _
  unfold World.cell?
  simp only
  rw [h5 b hp]
 |map b=>exact h5 b hp
end Go.Fw
namespace Go.Fw
open Go
variable {P:Program} {G:kQ} {f:FuncId}
theorem aqj {args:List Arg} {i:Nat} {x:Arg} {p:Nat} (hp:p / 64≠i):dP (args.set i x) p=dP args p:=by
 unfold dP
 rw [List.getElem?_set_ne (fun h=>hp h.symm)]
theorem ZO {args:List Arg} {i:Nat} {e:TypeId} {r:aN} {l:List r.den} (hi:i<args.length) (p:Nat) (hp:p / 64=i):dP (args.set i (.own e r l)) p=if p=i*64+49 then some (.arr e r l false) else none:=by
 unfold dP
 rw [hp,List.getElem?_set_self hi]
 by_cases h:p=i*64+49
 · subst h
   have:Nat.beq ((i*64+49)%64) 49=true:=by
    have:(i*64+49)%64=49:=by omega
    rw [this];rfl
   simp [this]
 · have:Nat.beq (p%64) 49=false:=by
    cases hb:Nat.beq (p%64) 49 with
    |false=>rfl
    |true=>have:=Nat.eq_of_beq_eq_true hb;omega
   simp [this,h]
theorem aqX {args:List Arg} {i:Nat} {v:SV} (ha:args[i]? =some (.sv v)) (p:Nat) (hp:p / 64=i):dP args p=none:=by
 unfold dP
 rw [hp,ha]
def N7 (γ:Nat→Value) (i:Nat) (o:Nat):Value:=if o=i*64+49 then .slice none 0 0 else γ o
theorem uQ.mono {X Y:V} (h:X.le Y):∀ (a:Arg) (v:Value),uQ X a v→uQ Y a v
 | .sv x,v,H=>eP.mono h x v H
 | .kp cs,v,H=>bI.mono h (.dK cs 0) v H
 | .fn f caps,v,H=>bI.mono h (.fn f caps) v H
 | .own _ _ _,_,H| .ptr _,_,H=>H.elim
theorem NM.mono {X Y:V} (h:X.le Y) (i:Nat):∀ (a:Arg) (v:Value),NM X i a v→NM Y i a v
 | .own _ _ _,v,H=>bC.mono h (.ref (i*64+49)) v H
 | .ptr _,v,H=>bI.mono h (.cZ (i*64+48) 0) v H
 | .sv x,v,H=>uQ.mono h (.sv x) v H
 | .kp cs,v,H=>uQ.mono h (.kp cs) v H
 | .fn f caps,v,H=>uQ.mono h (.fn f caps) v H
theorem Az.nil {X Y:V} (h:X.le Y) {e:TypeId} {r:aN}:∀ (args:List Arg) (vs:List Value) (j i:Nat),args[i]? =some (.sv (.one .nil))→
 Y.ak ((j+i)*64+49)=some (.arr e r [] false)→Y.γ ((j+i)*64+49)= .slice none 0 0→Az X j args vs→Az Y j (args.set i (.own e r [])) vs
 |[],[],_,i,ha,_,_,_=>by simp at ha
 |[],_::_,_,_,_,_,_,H=>H.elim
 |_::_,[],_,_,_,_,_,H=>H.elim
 |a::args,v::vs,j,0,ha,ho,hγ,⟨h1,h2⟩=>by
  have ha:a= .sv (.one .nil):=by simpa using ha
  subst ha
  have hv:v= .slice none 0 0:=h1
  refine ⟨⟨⟨e,r,[],false,ho⟩,?_,by rw [hv];rfl⟩,?_⟩
  · rw [hv];exact hγ.symm
  · show Az Y (j+1) args vs
    clear h1 ha ho hγ hv
    generalize j+1=k at h2
    induction args generalizing k vs with
    |nil=>cases vs with
     |nil=>trivial
     |cons _ _=>exact h2.elim
    |cons b args ih=>cases vs with
     |nil=>exact h2.elim
     |cons u vs=>exact ⟨NM.mono h k b u h2.1,ih vs (k+1) h2.2⟩
 |a::args,v::vs,j,i+1,ha,ho,hγ,⟨h1,h2⟩=>by
  have e1:j+(i+1)=j+1+i:=by omega
  rw [e1] at ho hγ
  exact ⟨NM.mono h j a v h1,Az.nil h args vs (j+1) i (by simpa using ha) ho hγ h2⟩
theorem kK.avP {con ZN:Ib} (i:Nat) (e:TypeId) (r:aN) (hr:0<r.len) (h:kK P G f con)
 (hc:∀ args p ρ,ZN args=some (p,ρ)→p→args[i]? =some (.sv (.one .nil))∧(∀ t,nO (ρ.aW t) (i*64+49)=none)∧∃ q,con (args.set i (.own e r []))=some (q,ρ)∧q):kK P G f ZN:=by
 intro args p ρ hcon hp
 obtain ⟨ha,hF,q,hq1,hq⟩:=hc args p ρ hcon hp
 have hlen:i<args.length:=by
  have:=List.getElem?_eq_some_iff.1 ha
  exact this.1
 obtain ⟨hex,hcall⟩:=h _ q ρ hq1 hq
 refine ⟨hex,fun k S γ vs w hG hrep qo hsep hfree=>?_⟩
 have hO:∀ o,o≠i*64+49→dP (args.set i (.own e r [])) o=dP args o:=by
  intro o ho
  by_cases hd:o / 64=i
  · rw [ZO hlen o hd,aqX ha o hd,if_neg ho]
  · exact aqj hd
 have hN:dP (args.set i (.own e r [])) (i*64+49)=some (.arr e r [] false):=by
  rw [ZO hlen _ (by omega),if_pos rfl]
 have hN':dP args (i*64+49)=none:=aqX ha _ (by omega)
 have hγN:N7 γ i (i*64+49)= .slice none 0 0:=if_pos rfl
 have hγ:∀ o,o≠i*64+49→N7 γ i o=γ o:=fun o ho=>if_neg ho
 have hne:∀ o x,dP args o=some x→o≠i*64+49:=fun o x ho e=>by rw [e,hN'] at ho;cases ho
 have le:V.le ⟨w,w.heap.size,S,γ,dP args⟩ ⟨w,w.heap.size,S,N7 γ i,dP (args.set i (.own e r []))⟩:=by
  refine ⟨Nat.le_refl _,fun b hb=>⟨⟨hb.1,hb.2.1,fun o x hx=>?_⟩,rfl⟩,fun o cs hx=>⟨⟨cs,?_⟩,hγ o (hne o _ hx)⟩,fun o e r l fr hx=>⟨⟨l,fr,?_⟩,hγ o (hne o _ hx)⟩⟩
  · by_cases ho:o=i*64+49
    · show blk (N7 γ i o)≠some b
      rw [ho,hγN];intro hh;cases hh
    · show blk (N7 γ i o)≠some b
      rw [hγ o ho]
      exact hb.2.2 o x ((hO o ho).symm.trans hx)
  · exact (hO o (hne o _ hx)).trans hx
  · exact (hO o (hne o _ hx)).trans hx
 have hbl:∀ b,zK (dP (args.set i (.own e r []))) (N7 γ i) b↔zK (dP args) γ b:=by
  intro b
  constructor
  · rintro ⟨o,x,h1,h2⟩
    by_cases ho:o=i*64+49
    · rw [ho,hγN] at h2;cases h2
    · exact ⟨o,x,(hO o ho)▸h1,(hγ o ho)▸h2⟩
  · rintro ⟨o,x,h1,h2⟩
    exact ⟨o,x,(hO o (hne o x h1)).trans h1,by rw [hγ o (hne o x h1)];exact h2⟩
 refine Calls.mono (hcall k S (N7 γ i) vs w hG (Az.nil (Y:=⟨w,w.heap.size,S,N7 γ i,dP (args.set i (.own e r []))⟩) le args vs.toList 0 i ha (by rw [Nat.zero_add];exact hN) (by rw [Nat.zero_add];exact hγN) hrep) ?_ ?_ hfree) ?_
 · intro o x hx
   by_cases ho:o=i*64+49
   · subst ho
     rw [hN] at hx
     cases hx
     refine ⟨⟨[],?_,hr,fun b hb=>?_,fun j x hj=>by simp at hj⟩,fun b hb=>?_⟩
     · show w.ownsRow 0 e r.len (N7 γ i (i*64+49)) 0 []
       rw [hγN];exact World.ownsRow_nil w 0 e r.len
     · have hb:blk (N7 γ i (i*64+49))=some b:=hb
       rw [hγN] at hb;cases hb
     · rw [hγN] at hb;cases hb
   · have hx':dP args o=some x:=(hO o ho)▸hx
     have:=qo o x hx'
     refine ⟨bV.mono le o x (fun b _=>rfl) (hγ o ho) this.1,fun b hb=>this.2 b ((hγ o ho)▸hb)⟩
 · intro o x q y b hx hy hoq hb
   by_cases ho:o=i*64+49
   · rw [ho,hγN] at hb;cases hb
   by_cases hq':q=i*64+49
   · rw [hq',hγN];intro hh;cases hh
   rw [hγ o ho] at hb
   rw [hγ q hq']
   exact hsep o x q y b ((hO o ho)▸hx) ((hO q hq')▸hy) hoq hb
 · rintro en w' ⟨t,ht,v,γ',h1,h2,h3,h4,h5,h6,h7,h8,h9,h10⟩
   have arW:∀ o x,nO (ρ.aW t) o=some x→o≠i*64+49:=fun o x ho e=>by rw [e,hF t] at ho;cases ho
   have hL:tJ S (args.set i (.own e r [])) (ρ.aW t) (N7 γ i)=tJ S args (ρ.aW t) γ:=by
    funext b
    apply propext
    constructor
    · rintro ⟨a1,a2⟩
      refine ⟨a1.imp_right (hbl b).1,fun q y hy=>?_⟩
      have:=a2 q y hy
      rwa [hγ q (arW q y hy)] at this
    · rintro ⟨a1,a2⟩
      refine ⟨a1.imp_right (hbl b).2,fun q y hy=>?_⟩
      rw [hγ q (arW q y hy)]
      exact a2 q y hy
   rw [hL] at h7 h8 h10
   refine ⟨t,ht,v,γ',h1,h2,h3,h4,h5,fun b hb hn=>h6 b hb (fun h=>hn ((hbl b).1 h)),h7,fun o x hx=>?_,h9,fun o x hx=>?_⟩
   · obtain ⟨a1,a2⟩:=h8 o x hx
     refine ⟨a1,fun b hb=>?_⟩
     obtain ⟨b1,b2,b3⟩:=a2 b hb
     refine ⟨b1,b2.imp_right (hbl b).1,fun q y hy=>?_⟩
     have:=b3 q y hy
     rwa [hγ q (arW q y hy)] at this
   · obtain ⟨a1,a2⟩:=h10 o x hx
     exact ⟨a1.trans (hγ o (arW o x hx)),a2⟩
theorem atb {l:List iI} {e:TypeId} {r:aN} {rest:List gZ} {dO:List uI} {F:jV (.ptr l:: .own e r::rest)→Prop×(pz dO×ou (.ptr l:: .own e r::rest)→Prop)}
 {F':jV (.ptr l:: .p (.v (.one .nil))::rest)→Prop×(pz dO×ou (.ptr l:: .own e r::rest)→Prop)} (hr:0<r.len) (h:kK P G f (uD (.ptr l:: .own e r::rest) dO F))
 (hF:∀ a x,(F' (a,(),x)).1→(F (a,[],x)).1) (hF2:∀ a x,(F' (a,(),x)).1→(F' (a,(),x)).2=(F (a,[],x)).2):kK P G f (uD (.ptr l:: .p (.v (.one .nil))::rest) dO F'):=by
 refine kK.avP 1 e r hr h fun args p ρ hcon hp=>?_
 match args,hcon with
 |[],hcon=>simp [uD,jl] at hcon
 |[a],hcon=>
  have:jl (.ptr l:: .p (.v (.one .nil))::rest) [a]=none:=by
   simp only [jl]
   split<;>simp_all
  simp [uD,this] at hcon
 |a::b::args,hcon=>
  cases ha:(gZ.ptr l).read a with
  |none=>simp [uD,jl,ha] at hcon
  |some a'=>
  cases hb:(gZ.p (.v (.one .nil))).read b with
  |none=>simp [uD,jl,ha,hb] at hcon
  |some b'=>
  cases hx:jl rest args with
  |none=>simp [uD,jl,ha,hb,hx] at hcon
  |some x=>
   have hb2:b= .sv (.one .nil):=by
    cases b with
    |sv s=>cases s with
     |one c=>cases c with
      |nil=>rfl
      |int k n=>cases hb
      |bool k=>cases hb
      |str k=>cases hb
      |sl e r l fr=>cases hb
      |ref o=>cases hb
      |junk=>cases hb
     |agg cs=>cases hb
    |_=>cases hb
   subst hb2
   simp only [uD,jl,ha,hb,hx] at hcon
   have hcon:=Option.some.inj hcon
   have h1:(F' (a',(),x)).1=p:=congrArg Prod.fst hcon
   have h2:(⟨pz dO×ou (.ptr l:: .own e r::rest),(F' (a',(),x)).2,fun t=>⟨jk dO t.1,none⟩,fun t=>jm (.ptr l:: .own e r::rest) t.2⟩:KY)=ρ:=congrArg Prod.snd hcon
   have hp':(F' (a',(),x)).1:=h1▸hp
   subst h2
   refine ⟨rfl,fun t=>rfl,(F (a',[],x)).1,?_,hF a' x hp'⟩
   · have ho:(gZ.own e r).read (.own e r [])=some []:=by
      unfold gZ.read
      simp only [Nat.beq_refl]
      rw [dif_pos (aN.JB r)]
      rfl
     simp only [List.set_cons_succ,List.set_cons_zero,uD,jl,ha,ho,hx]
     have:=hF2 a' x hp'
     exact congrArg (fun z=>some ((F (a',[],x)).1,(⟨pz dO×ou (.ptr l:: .own e r::rest),z,fun t=>⟨jk dO t.1,none⟩,fun t=>jm (.ptr l:: .own e r::rest) t.2⟩:KY))) this.symm
end Go.Fw
namespace Go.Fw
open Go
theorem af {b:Bool} {A B:Prop} (h1:b=true→A) (h2:b=false→B):cond b A B:=by
 cases b
 · exact h2 rfl
 · exact h1 rfl
theorem gu (z:Int) (h:-9223372036854775808≤z∧z≤9223372036854775807):IntKind.i64.wrap z=z:=IntWalk.i64_in z (by omega)
theorem maxLen_eq:maxLen=9223372036854775807:=by decide
theorem bU:big=4294967296:=rfl
theorem getD_mem {α:Type} {l:List α} {n:Nat} {d:α} (h:n<l.length):l.getD n d∈l:=by
 rw [List.getD_eq_getElem?_getD,List.getElem?_eq_getElem h,Option.getD_some];exact List.getElem_mem h
end Go.Fw
namespace Go.Fw
open Go
end Go.Fw
namespace Go.Fw
open Go
variable {P:Program}
def tN (cur:Array Value) (o:Nat) (cs:List Value):Array Value:=(cur.toList.take o++cs++cur.toList.drop (o+cs.length)).toArray
theorem yN (cur:Array Value) (o:Nat) (cs:List Value) (h:o+cs.length≤cur.size):(tN cur o cs).size=cur.size:=by
 simp only [tN,List.size_toArray,List.length_append,List.length_take,List.length_drop,Array.length_toList]
 omega
theorem yV (cur:Array Value) (o:Nat) (cs:List Value) (k:Nat) (h:o+cs.length≤cur.size):
 (tN cur o cs).toList[k]? =if k<o then cur.toList[k]? else if k<o+cs.length then cs[k-o]? else cur.toList[k]? :=by
 have ht:(cur.toList.take o).length=o:=by rw [List.length_take,Array.length_toList];omega
 simp only [tN]
 by_cases h1:k<o
 · rw [if_pos h1,List.append_assoc,List.getElem?_append_left (by omega),List.getElem?_take,if_pos h1]
 · rw [if_neg h1]
   by_cases h2:k<o+cs.length
   · rw [if_pos h2,List.append_assoc,List.getElem?_append_right (by omega),ht,List.getElem?_append_left (by omega)]
   · rw [if_neg h2,List.getElem?_append_right (by rw [List.length_append];omega),List.length_append,ht,List.getElem?_drop]
     congr 1
     omega
theorem arX (R:Array Value) (a:Nat) (vs ds:List Value) (h:a+vs.length+ds.length≤R.size):
 (tN (tN R a vs) (a+vs.length) ds).toList.take (a+vs.length+ds.length)=R.toList.take a++(vs++ds):=by
 have s1:=yN R a vs (by omega)
 have hl:(R.toList.take a).length=a:=by rw [List.length_take,Array.length_toList];omega
 apply List.ext_getElem?
 intro j
 rw [List.getElem?_take]
 by_cases h1:j<a
 · rw [if_pos (by omega),yV _ _ _ _ (by omega),if_pos (by omega),yV _ _ _ _ (by omega),if_pos h1,List.getElem?_append_left (by omega),List.getElem?_take,if_pos h1]
 · rw [List.getElem?_append_right (by omega),hl]
   by_cases h2:j<a+vs.length
   · rw [if_pos (by omega),yV _ _ _ _ (by omega),if_pos h2,yV _ _ _ _ (by omega),if_neg h1,if_pos h2,List.getElem?_append_left (by omega)]
   · rw [List.getElem?_append_right (by omega)]
     by_cases h3:j<a+vs.length+ds.length
     · rw [if_pos h3,yV _ _ _ _ (by omega),if_neg h2,if_pos h3]
       congr 1;omega
     · rw [if_neg h3,List.getElem?_eq_none (by omega)]
theorem arY (R:Array Value) (a:Nat) (vs ds:List Value) (h:a+vs.length+ds.length≤R.size):
 (tN (tN R (a+vs.length) ds) a vs).toList.take (a+vs.length+ds.length)=R.toList.take a++(vs++ds):=by
 have s1:=yN R (a+vs.length) ds (by omega)
 have hl:(R.toList.take a).length=a:=by rw [List.length_take,Array.length_toList];omega
 apply List.ext_getElem?
 intro j
 rw [List.getElem?_take]
 by_cases h1:j<a
 · rw [if_pos (by omega),yV _ _ _ _ (by omega),if_pos (by omega),yV _ _ _ _ (by omega),if_pos (by omega),List.getElem?_append_left (by omega),List.getElem?_take,if_pos h1]
 · rw [List.getElem?_append_right (by omega),hl]
   by_cases h2:j<a+vs.length
   · rw [if_pos (by omega),yV _ _ _ _ (by omega),if_neg h1,if_pos h2,List.getElem?_append_left (by omega)]
   · rw [List.getElem?_append_right (by omega)]
     by_cases h3:j<a+vs.length+ds.length
     · rw [if_pos h3,yV _ _ _ _ (by omega),if_neg h1,if_neg h2,yV _ _ _ _ (by omega),if_neg h2,if_pos h3]
       congr 1;omega
     · rw [if_neg h3,List.getElem?_eq_none (by omega)]
theorem apd (w:World) (g:Nat) (a b:Array Value):(w.setRow g a).setRow g b=w.setRow g b:=setRow_setRow w g a b
theorem size_setRow (w:World) (g:Nat) (a:Array Value):(w.setRow g a).heap.size=w.heap.size:=by simp [World.setRow]
theorem Fg (w:World) (dT sT ty e:TypeId) (k g o dl dc:Nat) (sa:Addr) (sl sc n:Nat) (cur:Array Value) (t:TypeId) (cs:List Value)
 (hu:P.underlying dT=some (.slice e)) (hs:(P.info? e).map (·.size)=some k) (hg:w.heap[g]? =some (.cells cur t (0,0))) (hn:Nat.min sl dl=n) (hcl:cs.length=n*k)
 (hsrc:∀ j v,cs[j]? =some v→w.cell? (sa.add j)=some v) (hfit:o+cs.length≤cur.size) (h1:∀ v∈cs,v.oneCell'=true):
 (Builtin.copy_ #[dT,sT] ty #[.slice (some ⟨g,o,none⟩) dl dc, .slice (some sa) sl sc]).run P w= .ok (goInt n) (w.setRow g (tN cur o cs)):=by
 have hl:=run_loadCells_list (P:=P) w sa cs hsrc
 have hst:=run_storeCells_at P g o t cs 0 cur w hg (by simpa using hfit) h1
 cases hq:P.info? e with
 |none=>simp [hq] at hs
 |some i=>
  have hi:i.size=k:=by simpa [hq] using hs
  simp [Builtin.copy_,run_underlying hu,Builtin.lenOf,Builtin.firstCells,sizeOf,typeInfo,hq,hi,hn,← hcl,hl,hst,tN]
end Go.Fw
namespace Go.Fw
open Go
variable {P:Program}
theorem ZP (v:Value) (h:v.ownBlock=none∨True):∀ {n:Nat} {e:TypeId} {k b0:Nat} {xs:List Value} {w:World},w.ownsRow b0 e k v n xs→blk v=v.ownBlock:=by
 intro n e k b0 xs w hw
 rcases hw.2 with ⟨rfl,_⟩|⟨g,cap,cur,rfl,_⟩<;>rfl
def ahY (P:Program) (f:FuncId) (e:TypeId) (k:Nat):Prop:=
 ∀ (w:World) (v u:Value) (n i:Nat) (xs ys:List Value),w.ownsRow 0 e k v n xs→w.ownsRow 0 e k u 1 ys→(∀ b,v.ownBlock=some b→u.ownBlock≠some b)→i≤n→n≤1000→
   (∀ x∈xs,x.oneCell'=true)→(∀ x∈ys,x.oneCell'=true)→
   Calls P f #[v, .int .i64 i,u] w fun en w'=>∃ v',en= .returned v'∧w'.ownsRow 0 e k v' (n+1) (xs.take (i*k)++(ys++xs.drop (i*k)))∧w.grownBy w' v.ownBlock∧
    (∀ g,v'.ownBlock=some g→v.ownBlock=some g∨w.heap.size≤g)
theorem ape {h:Array Obj} {S:Nat→Prop} {r:aN} {xs:List Value} {l:List r.den} (hlen:xs.length=l.length*r.len) (hx:∀ i x,l[i]? =some x→bK h S r ((xs.drop (i*r.len)).take r.len) x) (hpos:0<r.len):
 ∀ x∈xs,x.oneCell'=true:=by
 intro x hm
 obtain ⟨j,hj,rfl⟩:=List.mem_iff_getElem.1 hm
 have hq:j / r.len<l.length:=by rw [Nat.div_lt_iff_lt_mul hpos];omega
 refine bK.ones r _ _ (hx (j / r.len) _ (List.getElem?_eq_getElem hq)) _ ?_
 refine List.mem_iff_getElem?.2 ⟨j%r.len,?_⟩
 have hd:=Nat.div_add_mod j r.len
 rw [List.getElem?_take,if_pos (Nat.mod_lt _ hpos),List.getElem?_drop,Nat.mul_comm,hd,List.getElem?_eq_getElem hj]
theorem aqk (xs ys:List Value) (k n i q:Nat) (hxs:xs.length=n*k) (hys:ys.length=k) (hi:i≤n):
 ((xs.take (i*k)++(ys++xs.drop (i*k))).drop (q*k)).take k=if q<i then (xs.drop (q*k)).take k else if q=i then ys else (xs.drop ((q-1)*k)).take k:=by
 have hik:i*k≤xs.length:=by rw [hxs];exact Nat.mul_le_mul_right _ hi
 have hlt:(xs.take (i*k)).length=i*k:=by rw [List.length_take];omega
 by_cases h1:q<i
 · have hqk:q*k+k≤i*k:=by
    have:(q+1)*k≤i*k:=Nat.mul_le_mul_right _ h1
    rwa [Nat.add_mul,Nat.one_mul] at this
   rw [if_pos h1,List.drop_append_of_le_length (by omega),List.take_append_of_le_length (by rw [List.length_drop];omega),List.drop_take,List.take_take]
   congr 1
   omega
 · rw [if_neg h1]
   by_cases h2:q=i
   · subst h2
     rw [if_pos rfl]
     have h0:(xs.take (q*k)++(ys++xs.drop (q*k))).drop (q*k)=ys++xs.drop (q*k):=by rw [List.drop_append_of_le_length (by omega),List.drop_of_length_le (by omega),List.nil_append]
     rw [h0,List.take_append_of_le_length (by omega),List.take_of_length_le (by omega)]
   · rw [if_neg h2]
     have hqi:i+1≤q:=by omega
     have e1:q*k=i*k+(k+(q-1-i)*k):=by
      have:q=i+(1+(q-1-i)):=by omega
      conv=>lhs;rw [this,Nat.add_mul,Nat.add_mul,Nat.one_mul]
     have e2:(q-1)*k=i*k+(q-1-i)*k:=by rw [← Nat.add_mul];congr 1;omega
     have h0:(xs.take (i*k)++(ys++xs.drop (i*k))).drop (i*k+k)=xs.drop (i*k):=by
      rw [← List.drop_drop,List.drop_append_of_le_length (by omega),List.drop_of_length_le (by omega:(xs.take (i*k)).length≤i*k),List.nil_append,List.drop_append_of_le_length (by omega),List.drop_of_length_le (by omega:ys.length≤k),List.nil_append]
     rw [e1,e2,← Nat.add_assoc,← List.drop_drop,h0,List.drop_drop]
theorem JY {s:gZ} {sh:List gZ}:∀ {args:List Arg} {d:jV (s::sh)},jl (s::sh) args=some d→∃ x xs,args=x::xs∧s.read x=some d.1∧jl sh xs=some d.2
 |[],_,h=>by simp [jl] at h
 |x::xs,d,h=>by
  rw [jl] at h
  split at h
  · next a b h1 h2=>cases h;exact ⟨x,xs,rfl,h1,h2⟩
  · cases h
theorem ahZ:∀ {args:List Arg} {d:jV []},jl [] args=some d→args=[]
 |[],_,_=>rfl
 |_::_,_,h=>by simp [jl] at h
abbrev N8 (e:TypeId) (r:aN):List gZ:=[.own e r, .p (.v (.one (.int .i64))), .own e r]
abbrev apf (e:TypeId) (r:aN):List uI:=[.one (.own e r false)]
theorem gZ.apg {e:TypeId} {r:aN} {x:Arg} {d:List r.den} (h:(gZ.own e r).read x=some d):x= .own e r d:=by
 cases x with
 |own f s l=>
  simp only [gZ.read] at h
  split at h
  · next hb=>
    have he:=Nat.eq_of_beq_eq_true hb
    subst he
    split at h
    · next hs=>
      have hr:=aN.eq_of_beq s r hs
      subst hr
      cases h
      rfl
    · cases h
  · cases h
 |_=>simp [gZ.read] at h
theorem gZ.auf {x:Arg} {d:Int} (h:(gZ.p (.v (.one (.int .i64)))).read x=some d):x= .sv (.one (.int .i64 d)):=by
 cases x with
 |sv x=>
  cases x with
  |one c=>
   cases c with
   |int k n=>
    simp only [gZ.read,jr.read,wC.read,iI.read] at h
    cases k<;>simp_all
   |_=>simp [gZ.read,jr.read,wC.read,iI.read] at h
  |agg l=>simp [gZ.read,jr.read,wC.read] at h
 |_=>simp [gZ.read,jr.read] at h
theorem aql {G:kQ} {f:FuncId} {e:TypeId} {r:aN} (hpos:0<r.len) (hM:ahY P f e r.len)
 {F:jV (N8 e r)→Prop×(pz (apf e r)×ou (N8 e r)→Prop)}
 (hF:∀ (l:List r.den) (i:Int) (lv:List r.den),(F (l,i,lv,())).1→0≤i∧i≤l.length∧l.length≤1000∧lv.length=1∧(F (l,i,lv,())).2 ((l.take i.toNat++(lv++l.drop i.toNat),()),())):
 kK P G f (uD (N8 e r) (apf e r) F):=by
 intro args p ρ hcon hp
 simp only [uD] at hcon
 split at hcon
 · next x hx=>
   revert x
   show ∀ x:List r.den×Int×List r.den×Unit,_
   rintro ⟨l,i,lv,⟨⟩⟩ hx hcon
   have hF1:=Option.some.inj hcon
   have hp1:(F (l,i,lv,())).1=p:=congrArg Prod.fst hF1
   have hρ:=congrArg Prod.snd hF1
   simp only at hρ
   subst hρ
   rw [← hp1] at hp
   obtain ⟨h0,hi,hn,hv1,hR⟩:=hF l i lv hp
   obtain ⟨a0,r0,rfl,hx0,h1⟩:=JY hx
   obtain ⟨a1,r1,rfl,hx1,h2⟩:=JY h1
   obtain ⟨a2,r2,rfl,hx2,h3⟩:=JY h2
   have:=ahZ h3
   subst this
   have e0:=gZ.apg hx0
   have e2:=gZ.apg hx2
   have e1:=gZ.auf hx1
   subst e0 e1 e2
   refine ⟨⟨_,hR⟩,?_⟩
   intro k S γ vs w hG hrep qo hap hk
   have o49:dP [.own e r l, .sv (.one (.int .i64 i)), .own e r lv] 49=some (.arr e r l false):=rfl
   have avQ:dP [.own e r l, .sv (.one (.int .i64 i)), .own e r lv] 177=some (.arr e r lv false):=rfl
   match hvs:vs.toList,hrep with
   |[v,vi,u],hrep=>
    have ev:v=γ 49:=hrep.1.2.1
    have eu:u=γ 177:=hrep.2.2.1.2.1
    have evi:vi= .int .i64 i:=hrep.2.1.1
    have evs:vs=#[γ 49, .int .i64 i,γ 177]:=by
     obtain ⟨vl⟩:=vs
     simp at hvs
     rw [hvs,ev,eu,evi]
    subst evs
    obtain ⟨⟨xs,hxs,_,_,hxr⟩,ayQ⟩:=qo 49 _ o49
    obtain ⟨⟨ys,hys,_,_,hyr⟩,ayH⟩:=qo 177 _ avQ
    have B1:=ZP (γ 49) (.inr trivial) hxs
    have B2:=ZP (γ 177) (.inr trivial) hys
    have h1:=ape hxs.1 hxr hpos
    have h2:=ape hys.1 hyr hpos
    have hin:i.toNat≤l.length:=by omega
    have hik:((i.toNat:Nat):Int)=i:=by omega
    have aug:w.ownsRow 0 e r.len (γ 177) 1 ys:=by rw [← hv1];exact hys
    have hrun:=hM w (γ 49) (γ 177) l.length i.toNat xs ys hxs aug (fun b hb=>by rw [← B2];exact hap 49 _ 177 _ b o49 avQ (by decide) (by rw [B1];exact hb)) hin hn h1 h2
    rw [hik] at hrun
    refine hrun.mono ?_
    rintro en w' ⟨v',rfl,hown,hgr,hnew⟩
    have Bv:=ZP v' (.inr trivial) hown
    have hone:v'.oneCell'=true:=by rcases hown.2 with ⟨rfl,_⟩|⟨g,cap,cur,rfl,_⟩<;>rfl
    have awo:look [(k,aQ.arr e r (l.take i.toNat++(lv++l.drop i.toNat)) false)] k=some (.arr e r (l.take i.toNat++(lv++l.drop i.toNat)) false):=by simp [look]
    have lookO:∀ o x,look [(k,aQ.arr e r (l.take i.toNat++(lv++l.drop i.toNat)) false)] o=some x→k=o∧ .arr e r (l.take i.toNat++(lv++l.drop i.toNat)) false=x:=by
     intro o x h
     have:=zJ _ _ _ h
     simp at this
     exact ⟨this.1.symm,this.2.symm⟩
    have arZ:∀ q y,¬ nO (jm (N8 e r) ()) q=some y:=by
     intro q y h
     unfold nO at h
     match hq:q / 64,h with
     |0,h=>simp [jm] at h
     |1,h=>simp [jm] at h
     |2,h=>simp [jm] at h
     |n+3,h=>simp [jm] at h
    refine ⟨_,hR,v',fun _=>v',rfl,hgr.os,hgr.tape,hgr.output,hgr.size,fun b hb hnb=>?_,?_,?_,?_,?_⟩
    · exact hgr.block b hb fun he=>hnb ⟨49,_,o49,by rw [B1];exact he.symm⟩
    · exact ⟨⟨e,r,_,false,awo⟩,rfl,hone⟩
    · intro o x hx
      obtain ⟨rfl,rfl⟩:=lookO o x hx
      refine ⟨⟨xs.take (i.toNat*r.len)++(ys++xs.drop (i.toNat*r.len)),?_,hpos,fun _ _ h=>(by cases h),fun q x hx=>?_⟩,fun b hb=>?_⟩
      · have hlen:(l.take i.toNat++(lv++l.drop i.toNat)).length=l.length+1:=by simp;omega
        rw [hlen]
        exact hown
      · have hq:q≤l.length:=by
         have:=(List.getElem?_eq_some_iff.1 hx).1
         simp at this
         omega
        rw [aqk xs ys r.len l.length i.toNat q hxs.1 (by rw [aug.1,Nat.one_mul]) hin]
        have Iq:∀ b,(⟨w,w.heap.size,S,γ,dP [.own e r l, .sv (.one (.int .i64 i)), .own e r lv]⟩:V).dH false b→
         (⟨w',w.heap.size,tJ S [.own e r l, .sv (.one (.int .i64 i)), .own e r lv] (jm (N8 e r) ()) γ,fun _=>v',look [(k, .arr e r (l.take i.toNat++(lv++l.drop i.toNat)) false)]⟩:V).dH false b∧w'.heap[b]? =w.heap[b]? :=by
         intro b hb
         obtain ⟨⟨hb1,hb2,hb3⟩,_⟩:=hb
         have hb1:b<w.heap.size:=hb1
         have hne:some b≠(γ 49).ownBlock:=fun he=>hb3 49 _ o49 (by rw [B1];exact he.symm)
         refine ⟨⟨⟨Nat.lt_of_lt_of_le hb1 hgr.size,fun _=>⟨.inl (hb2 hb1),fun q y hq=>?_⟩,fun o x hx he=>?_⟩,fun h=>(by cases h)⟩,hgr.block b hb1 hne⟩
         · exact absurd hq (arZ q y)
         · have he:blk v'=some b:=he
           rw [Bv] at he
           rcases hnew b he with h|h
           · exact hne h.symm
           · omega
        by_cases c1:q<i.toNat
        · rw [if_pos c1]
          refine bK.mono Iq r _ x (hxr q x ?_)
          rw [List.getElem?_append_left (by rw [List.length_take];omega),List.getElem?_take,if_pos c1] at hx
          exact hx
        · rw [if_neg c1]
          have hlt:(l.take i.toNat).length=i.toNat:=by rw [List.length_take];omega
          rw [List.getElem?_append_right (by omega),hlt] at hx
          by_cases c2:q=i.toNat
          · rw [if_pos c2]
            rw [c2,Nat.sub_self,List.getElem?_append_left (by omega)] at hx
            have:=hyr 0 x hx
            rw [Nat.zero_mul,List.drop_zero,List.take_of_length_le (by rw [aug.1];omega)] at this
            exact bK.mono Iq r _ x this
          · rw [if_neg c2]
            rw [List.getElem?_append_right (by omega),hv1,List.getElem?_drop,show i.toNat+(q-i.toNat-1)=q-1 by omega] at hx
            exact bK.mono Iq r _ x (hxr (q-1) x hx)
      · have he:blk v'=some b:=hb
        have he2:=he
        rw [Bv] at he2
        refine ⟨?_,?_,fun q y hq=>absurd hq (arZ q y)⟩
        · rcases hown.2 with ⟨hv,_⟩|⟨g,cap,cur,hv,_,hg,_⟩
          · rw [hv] at he;cases he
          · rw [hv] at he
            cases he
            exact (Array.getElem?_eq_some_iff.1 hg).1
        · rcases hnew b he2 with h|h
          · exact .inr ⟨49,_,o49,by rw [B1];exact h⟩
          · exact .inl h
    · intro o x q y b h1 h2 hne
      exact absurd ((lookO o x h1).1.symm.trans (lookO q y h2).1) hne
    · intro o x h
      exact absurd h (arZ o x)
 · cases hcon
end Go.Fw
namespace Go.Fw
open Go
variable {P:Program} {H:Type} {enc:TypeId×Value→H} {w:World}
theorem WU (hl:laidOutB P=true) {base:Nat} {sp':Nat→Bool} {W W':World}:∀ (ts:List TypeId) (_:ts.all (fun t=>P.readableRec t&&decide (t<P.types.size))=true)
 (vs:List Value) (ds:List (DataW H)) (ps:List MemPlace),DataW.TrodAll enc P W base (fun _=>true) true ts vs ds ps→(∀ p∈ps,W.sameAt W' p)→(∀ p∈ps,sp' p.block=true)→DataW.TrodAll enc P W' base sp' true ts vs ds ps
 |[],_,vs,ds,ps,h,_,_=>by
  cases vs<;>cases ds<;>simp [DataW.TrodAll] at h ⊢
  exact h
 |t::ts,ht,vs,ds,ps,h,h1,h2=>by
  rw [List.all_cons,Bool.and_eq_true,Bool.and_eq_true] at ht
  cases vs with
  |nil=>cases ds<;>simp [DataW.TrodAll] at h
  |cons v vs=>
   cases ds with
   |nil=>simp [DataW.TrodAll] at h
   |cons d ds=>
    obtain ⟨a,b,g1,g2,rfl⟩:=h
    exact ⟨a,b,WideElems.Trod_stays hl ht.1.1 (of_decide_eq_true ht.1.2) g1 (fun p hp=>h1 p (List.mem_append_left _ hp)) (fun p hp=>h2 p (List.mem_append_left _ hp)),
     WU hl ts ht.2 vs ds b g2 (fun p hp=>h1 p (List.mem_append_right _ hp)) (fun p hp=>h2 p (List.mem_append_right _ hp)),rfl⟩
theorem trodAll_length {base:Nat} {sp:Nat→Bool} {hd:Bool} {W:World}:∀ (ts:List TypeId) (vs:List Value) (ds:List (DataW H)) (ps:List MemPlace),DataW.TrodAll enc P W base sp hd ts vs ds ps→ds.length=ts.length
 |[],vs,ds,ps,h=>by cases vs<;>cases ds<;>simp [DataW.TrodAll] at h ⊢
 |t::ts,vs,ds,ps,h=>by
  cases vs with
  |nil=>cases ds<;>simp [DataW.TrodAll] at h
  |cons v vs=>
   cases ds with
   |nil=>simp [DataW.TrodAll] at h
   |cons d ds=>
    obtain ⟨a,b,g1,g2,rfl⟩:=h
    simp [trodAll_length ts vs ds b g2]
theorem auh {fn:Func} {s:ChangeSpec} {apart fresh handsOn again:Bool} {W W':World} {args:Array Value} {ds gs:List (DataW H)} {before:List MemPlace} {tb:TypeId}
 (hvars:s.vars=[]) (hspec:∀ l:List (DataW H),l.length=fn.params.toList.length→(s.fn H l).results=[.lit (.bool true)]∧(s.fn H l).args=l∧(s.fn H l).vars=[])
 (hres:fn.resultTypes=#[tb]) (hb:P.underlying tb=some .bool) (hl:laidOutB P=true) (hread:fn.params.toList.all (fun t=>P.readableRec t&&decide (t<P.types.size))=true)
 (hW:DataW.Whole enc P fn.params.toList s.vars apart W args.toList ds gs before) (hos:W'.os=W.os) (hout:W'.output=W.output) (hheap:∀ b,b<W.heap.size→W'.heap[b]? =W.heap[b]?):
 s.post enc P fn apart fresh handsOn again W args (.bool true) W':=by
 have hlt:=hW.lt
 have hW0:=hW
 obtain ⟨p,q,hA,hV,hpq,hz,hn⟩:=hW
 rw [hvars] at hV
 have hg:gs=[]∧q=[]:=by
  cases gs with
  |nil=>exact ⟨rfl,hV⟩
  |cons g gs=>simp [DataW.TrodVars] at hV
 obtain ⟨rfl,rfl⟩:=hg
 rw [List.append_nil] at hpq
 subst hpq
 have hlen:=trodAll_length _ _ _ _ hA
 obtain ⟨r1,r2,r3⟩:=hspec (ds++[]) (by simpa using hlen)
 rw [List.append_nil] at r1 r2 r3
 have hsame:∀ x∈before,W.sameAt W' x:=fun x hx=>aue hheap (hlt x hx)
 have R:∀ (b:Nat) (sp:Nat→Bool) (hd:Bool),DataW.TrodAll enc P W' b sp hd fn.resultTypes.toList ((Value.bool true).resultList fn.resultTypes.size) [.lit (.bool true)] []:=by
  intro b sp hd
  rw [hres]
  exact ⟨[],[],⟨1,by simp [DataW.trod,Value.cells,hb]⟩,rfl,rfl⟩
 have A:∀ sp:Nat→Bool,(∀ x∈before,sp x.block=true)→DataW.TrodAll enc P W' 0 sp true fn.params.toList args.toList ds before:=fun sp hsp=>WU hl _ hread _ _ _ hA hsame hsp
 have hold:∀ x∈before,(fun b=>decide (b<W.heap.size)) x.block=true:=fun x hx=>by simpa using hlt x hx
 refine ⟨ds,[],before,[],before,[],hW0,?_,?_,?_,aud hos hout hheap _,fun _=>⟨?_, .lit (.bool true)::ds,[],before,⟨before,[],?_,?_,by simp,?_,hn⟩,fun x hx _=>hx⟩⟩
 · rw [List.append_nil,r1];exact R _ _ _
 · rw [List.append_nil,r2];exact A _ hold
 · rw [List.append_nil,r3,hvars];rfl
 · intro j t r h1 h2
   rw [hres] at h1 h2
   match j with
   |0=>
    simp [Value.resultList] at h1 h2
    subst h1 h2
    simp [Value.okWide,hb,Go.Cell.okWide,Go.Cell.ok]
   |j+1=>simp at h1
 · exact ChangeShapes.trodAll_append (A _ (fun _ _=>rfl)) (R _ _ _)
 · rw [hvars];rfl
 · intro b off hp
   have hbl:=hlt _ hp
   have e:W'.frozen? ⟨b,off,none⟩=W.frozen? ⟨b,off,none⟩:=by
    unfold World.frozen?
    simp only
    rw [hheap b hbl]
   rw [e]
   exact hz b off hp
end Go.Fw
namespace Go.Fw
open Go
theorem law_lifted {H:Type} {enc:TypeId×Value→H} {C:Checked} {G:kQ} {os:Os} {f:FuncId} {fn:Func} {s:ChangeSpec} {conds:List PathCond} {apart fresh handsOn again:Bool} {tb:TypeId} {sh:List jr} {F:pI sh→Prop×Out}
 (own:ownKnob C.prog.godebug=none) (started:os.Started) (noInit:C.prog.inits.idxOf? f=none) (hfn:C.prog.funcs[f]? =some fn)
 (witness:∃ (w:World) (tape:Tape) (i:Input),w.os=os∧(w.forCall tape i).Shaped C.prog∧i.vars=[]∧Input.okWide C.prog (w.forCall tape i) .any w.heap.size f i∧
   s.pre6 enc C.prog fn conds apart (w.forCall tape i).memory i.args∧({}:Assume).holds C.prog (lone (Frame.enter C.prog f i.args .normal) [] (w.forCall tape i)))
 (hcon:uH C.prog G f (MH sh F)) (hsh:NZ C.prog fn.params.toList=some sh) (hF:∀ x,MG sh x→(F x).1∧(F x).2=alb) (hG:∀ w,G.ok w)
 (hvars:s.vars=[]) (hspec:∀ l:List (DataW H),l.length=fn.params.toList.length→(s.fn H l).results=[.lit (.bool true)]∧(s.fn H l).args=l∧(s.fn H l).vars=[])
 (hres:fn.resultTypes=#[tb]) (hb:C.prog.underlying tb=some .bool) (hl:laidOutB C.prog=true) (hread:fn.params.toList.all (fun t=>C.prog.readableRec t&&decide (t<C.prog.types.size))=true):
 ReturnsInHanded {} C os f .any (s.pre6 enc C.prog fn conds apart) (s.post enc C.prog fn apart fresh handsOn again):=by
 refine returnsInHanded_of_change own started noInit hfn witness ?_
 intro W base args ds gs before hval hW _ _
 have hW0:=hW
 obtain ⟨p,q,hA,_⟩:=hW
 refine (ata hcon hsh hF (hG W) hA hval).mono ?_
 rintro e W' ⟨rfl,h1,h2,_,h3⟩
 exact ⟨_,rfl,auh hvars hspec hres hb hl hread hW0 h1 h2 h3⟩
end Go.Fw
