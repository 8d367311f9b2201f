import Derived.Test.YtkgkfdphbkfjnaaGreatFwD
import Derived.Test.YtkgkfdphbkfjnaaGreatFwB
import Derived.Test.YtkgkfdphbkfjnaaGreatFwA
import Derived.ChangeArms
import Derived.WideKeyArgs
import Derived.ChangeSame
import Derived.ChangeOld
import Derived.Handed
import Derived.IntWalk
import Derived.Laws.IdiomCopy
import Derived.ProofKit
namespace Go.Fw
open Go
variable {P:Program} {w0:World} {M:Nat→Prop} {T:Ext} {γ γ':Nat→Value} {st:St} {a:Act} {w w':World} {Θ:jC} {Γ:lF}
structure JL where
 alJ:List Xd
 c:Shape
 v:Shape
structure Hints where
 own:Nat→Bool
 loops:Nat→Option JL
 cuts:Nat→Option JL
 upd:List Nat
 frz:Nat→List Pre
def zJ:Code→Option Nat
 | .region id _ _=>some id
 | .seq x y=>match zJ x with|some n=>some n|none=>zJ y
 | .cond _ x y=>match zJ x with|some n=>some n|none=>zJ y
 | .block _ x| .loop x=>zJ x
 |_=>none
def cutAt (H:Hints) (y:Code):Option JL:=match zJ y with
 |some n=>H.cuts n
 |none=>none
def IZ (Θ:jC) (Γ:lF) (H:Hints):Code→(Exit→St→Prop)→St→Prop
 | .skip,Q,st=>Q .normal st
 | .region id ops false,Q,st=>TF (H.frz id) (runs Θ Γ H.own ops.toList (Q .normal) ops.toList) st
 | .region id ops true,Q,st=>TF (H.frz id) (PE Θ Γ H.own H.upd ops.toList (Q .normal)) st
 | .seq x y,Q,st=>match cutAt H y with
   |none=>IZ Θ Γ H x (fun e s=>match e with| .normal=>IZ Θ Γ H y Q s|e=>Q e s) st
   |some sp=>match sp.c.read (only sp.c sp.v st) with
    |some x0=>∃ (J:sp.v.den→Prop),IZ Θ Γ H x (fun e s=>match e with
      | .normal=>match settles s sp.alJ with
        |some s1=>match Nat.beq s1.n st.n,sp.c.read (only sp.c sp.v s1),sp.v.read (only sp.c sp.v s1) with
         |true,some x1,some y1=>x1=x0∧J y1
         |_,_,_=>False
        |none=>False
      |e=>Q e s) st∧∀ y1,J y1→IZ Θ Γ H y Q (joint st.n sp.c sp.v x0 y1)
    |none=>False
 | .cond c x y,Q,st=>match st.ev c with
   | .sv (.one (.bool b))=>cond b (IZ Θ Γ H x Q st) (IZ Θ Γ H y Q st)
   |_=>False
 | .block id c,Q,st=>IZ Θ Γ H c (fun e s=>match e with
   | .exit i=>match Nat.beq i id with|true=>Q .normal s|false=>Q (.exit i) s
   |e=>Q e s) st
 | .exit id,Q,st=>Q (.exit id) st
 | .ret,Q,st=>Q .ret st
 | .loop c,Q,st=>match zJ c with
   |some n=>match H.loops n with
    |some sp=>match settles st sp.alJ with
     |some s0=>match sp.c.read (only sp.c sp.v s0),sp.v.read (only sp.c sp.v s0) with
      |some x0,some y0=>∃ (I:sp.v.den→Prop) (μ:sp.v.den→Nat),I y0∧∀ y,I y→
        IZ Θ Γ H c (fun e s=>match e with
         | .normal=>match settles s sp.alJ with
           |some s1=>match Nat.beq s1.n s0.n,sp.c.read (only sp.c sp.v s1),sp.v.read (only sp.c sp.v s1) with
            |true,some x1,some y1=>x1=x0∧I y1∧μ y1<μ y
            |_,_,_=>False
           |none=>False
         |e=>Q e s) (joint s0.n sp.c sp.v x0 y)
      |_,_=>False
     |none=>False
    |none=>False
   |none=>False
 |_,_,_=>False
theorem Xe {G:kC} (hE:uG P G Θ Γ w0 M) (hm:P.follows .mixedOrders=true) (H:Hints):∀ (c:Code) (QA:Exit→St→Prop) (Q:Exit→Act→World→Prop) (st:St) (γ:Nat→Value) (a:Act) (w:World),
 Rel w0 M T γ st a w→IZ Θ Γ H c QA st→(∀ e s γ' a' w',QA e s→Rel w0 M T γ' s a' w'→Q e a' w')→c.wp P Q a w:=by
 intro c
 induction c with
 |skip=>intro QA Q st γ a w h ha hQ;exact wp_skip (hQ _ _ _ _ _ ha h)
 |region id ops d=>
  intro QA Q st γ a w h ha hQ
  cases d with
  |false=>
   obtain ⟨s0,γ0,h0,hk0⟩:=Fv (K:=runs Θ Γ H.own ops.toList (QA .normal) ops.toList) (H.frz id) st γ h ha
   exact aiV hE h0 hk0 fun s γ' a' w' hK hR=>hQ _ _ _ _ _ hK hR
  |true=>
   obtain ⟨s0,γ0,h0,hk0⟩:=Fv (K:=PE Θ Γ H.own H.upd ops.toList (QA .normal)) (H.frz id) st γ h ha
   exact amP hE hm h0 hk0 fun s γ' a' w' hK hR=>hQ _ _ _ _ _ hK hR
 |seq x y ihx ihy=>
  intro QA Q st γ a w h ha hQ
  rw [IZ] at ha
  split at ha
  · refine wp_seq (ihx _ _ st γ a w h ha ?_)
    intro e s γ' a' w' hq hR
    cases e<;>first|exact ihy _ _ s γ' a' w' hR hq hQ|exact hQ _ _ _ _ _ hq hR
  · next sp hsp=>
    split at ha
    · next x0 hx=>
      obtain ⟨J,h1,h2⟩:=ha
      refine wp_seq (ihx _ _ st γ a w h h1 ?_)
      intro e s γ' a' w' hq hR
      cases e with
      |normal=>
       simp only at hq
       split at hq
       · next s1 hs1=>
         split at hq
         · next x1 y1 hsn hx1 hy1=>
           obtain ⟨rfl,hJ⟩:=hq
           obtain ⟨γ1,hR1⟩:=Rel.settles _ hR hs1
           have hR2:=hR1.joint hx1 hy1
           rw [Nat.eq_of_beq_eq_true hsn] at hR2
           exact ihy _ _ _ γ1 a' w' hR2 (h2 _ hJ) hQ
         · exact hq.elim
       · exact hq.elim
      |_=>exact hQ _ _ _ _ _ hq hR
    · exact ha.elim
 |cond c x y ihx ihy=>
  intro QA Q st γ a w h ha hQ
  rw [IZ] at ha
  split at ha
  · next b hb=>
    have hv:a.eval c= .bool b:=by
     have:=jd h c
     rw [hb] at this
     exact this
    refine wp_cond_split hv (fun e=>?_) (fun e=>?_)
    · subst e;exact ihx _ _ st γ a w h ha hQ
    · subst e;exact ihy _ _ st γ a w h ha hQ
  · exact ha.elim
 |block id c ih=>
  intro QA Q st γ a w h ha hQ
  refine wp_block (ih _ _ st γ a w h ha ?_)
  intro e s γ' a' w' hq hR
  cases e with
  |exit i=>
   simp only [Exit.inBlock]
   cases hb:Nat.beq i id with
   |true=>
    simp only [hb] at hq
    rw [if_pos (Nat.eq_of_beq_eq_true hb)]
    exact hQ _ _ _ _ _ hq hR
   |false=>
    simp only [hb] at hq
    rw [if_neg (by rintro rfl;simp at hb)]
    exact hQ _ _ _ _ _ hq hR
  |_=>exact hQ _ _ _ _ _ hq hR
 |loop c ih=>
  intro QA Q st γ a w h ha hQ
  rw [IZ] at ha
  split at ha
  · split at ha
    · next sp hsp=>
      split at ha
      · next s0 hs0=>
        split at ha
        · next x0 y0 hx hy=>
          obtain ⟨I,μ,h0,hI⟩:=ha
          obtain ⟨γ0,hR0⟩:=Rel.settles _ h hs0
          let J:sp.v.den→Act→World→Prop:=fun y a' w'=>∃ γ',Rel w0 M T γ' (joint s0.n sp.c sp.v x0 y) a' w'
          have key:∀ (n:Nat) (y:sp.v.den),μ y=n→I y→∀ a' w',J y a' w'→∀ (b:Frame) (k:List Item) (cs:List Frame),
           ∃ e a'' w'',Q e a'' w''∧Arrives P (lone (b.at a' (.code c:: .inLoop c::k)) cs w') b k cs e a'' w'':=by
           intro n
           induction n using Nat.strongRecOn with
           |_ n ihn=>
            intro y hμ hy' a' w' ⟨γ',hR⟩ b k cs
            have hbody:=ih _ (Exit.then (fun a2 w2=>∃ y2,I y2∧μ y2<μ y∧J y2 a2 w2) Q) _ γ' a' w' hR (hI y hy') ?_
            · obtain ⟨e,a1,w1,hq,harr⟩:=hbody b (.inLoop c::k) cs
              cases e with
              |normal=>
               obtain ⟨y2,hI2,hlt,hJ2⟩:=hq
               obtain ⟨e2,a2,w2,hq2,aqx⟩:=ihn (μ y2) (hμ▸hlt) y2 rfl hI2 a1 w1 hJ2 b k cs
               exact ⟨e2,a2,w2,hq2, .of_steps (Steps.trans harr (.one step_inLoop)) aqx⟩
              |exit id=>exact ⟨_,a1,w1,hq, .pass (x:= .inLoop c) rfl (fun _ _=> .inl (by simp)) harr⟩
              |goto l=>exact ⟨_,a1,w1,hq, .pass (x:= .inLoop c) rfl (fun _ _=> .inl (by simp)) harr⟩
              |ret=>exact ⟨_,a1,w1,hq, .pass (x:= .inLoop c) rfl (fun _ _=> .inl (by simp)) harr⟩
              |panic ch=>exact ⟨_,a1,w1,hq, .pass (x:= .inLoop c) rfl (fun _ _=> .inl (by simp)) harr⟩
              |outgrown=>exact ⟨_,a1,w1,hq, .pass (x:= .inLoop c) rfl (fun _ _=> .inl (by simp)) harr⟩
            · intro e s γ2 a2 w2 hq hR2
              cases e with
              |normal=>
               simp only at hq
               split at hq
               · next s1 hs1=>
                 split at hq
                 · next x1 y1 hsn hx1 hy1=>
                   obtain ⟨rfl,hI1,hlt⟩:=hq
                   obtain ⟨γ3,hR3⟩:=Rel.settles _ hR2 hs1
                   have hJ:=hR3.joint hx1 hy1
                   rw [Nat.eq_of_beq_eq_true hsn] at hJ
                   exact ⟨y1,hI1,hlt,_,hJ⟩
                 · exact hq.elim
               · exact hq.elim
              |_=>exact hQ _ _ _ _ _ hq hR2
          intro b k cs
          obtain ⟨e,a',w',hq,harr⟩:=key _ y0 rfl h0 a w ⟨_,hR0.joint hx hy⟩ b k cs
          exact ⟨e,a',w',hq, .of_steps (.one step_loop) harr⟩
        · exact ha.elim
      · exact ha.elim
    · exact ha.elim
  · exact ha.elim
 |rangeFunc f ps x y ihx ihy=>intro QA Q st γ a w h ha hQ;exact ha.elim
 |exit id=>intro QA Q st γ a w h ha hQ;exact wp_exit (hQ _ _ _ _ _ ha h)
 |scope c ih=>intro QA Q st γ a w h ha hQ;exact ha.elim
 |label l=>intro QA Q st γ a w h ha hQ;exact ha.elim
 |goto l=>intro QA Q st γ a w h ha hQ;exact ha.elim
 |ret=>intro QA Q st γ a w h ha hQ;exact wp_ret (hQ _ _ _ _ _ ha h)
 |refuse s=>intro QA Q st γ a w h ha hQ;exact ha.elim
def Arg.av:Arg→AV
 | .sv v=> .sv v
 | .kp cs=> .dG cs 0
 | .fn f caps=> .fn f caps
 | .own _ _ _| .ptr _=> .undef
def entry (n:Nat) (args:List Arg):St:=
 {n:=n,tmps:=fun t=>match args[t]? with|some v=>v.av|none=> .undef,ah:=fun _=>none}
def PG (st:St) (o:Nat):Bool:=match st.ah o with|some (.arr _ _ _ _)=>true|_=>false
def ady (Θ:jC) (st:St):ResultVar→Option SV
 | .tmp t=>match st.tmps t with| .sv v=>some v|_=>none
 | .cell t ty=>match Θ ty,st.tmps t with
   |some ti, .cO o off=>match st.ah o with
    |some (.var cs)=>lY ti cs off
    |_=>none
   |_,_=>none
def NU (Θ:jC) (st:St):List ResultVar→Option (List SV)
 |[]=>some []
 |r::rs=>match ady Θ st r,NU Θ st rs with
  |some v,some vs=>some (v::vs)
  |_,_=>none
def outOf:SV→Bool×List gG
 | .one c=>(false,[.plain c])
 | .agg cs=>(true,cs.map .plain)
def outs:List SV→List (Bool×List gG)
 |[]=>[]
 |v::vs=>outOf (v.kill fun _=>true)::outs vs
def fin (Θ:jC) (rv:List ResultVar) (st:St):Option Out:=
 match NU Θ (st.freeze (PG st)) rv with
 |some vs=>some ⟨outs vs,none⟩
 |none=>none
theorem PI:∀ (k:Nat) (cs:List Cell),kE k (cs.map .plain)=(cs,[])
 |_,[]=>rfl
 |k,c::cs=>by simp only [List.map_cons,kE,PI (k+1) cs,gG.take,List.append_nil]
theorem akg (k:Nat) (v:SV):yc k (outOf v)=(v,[]):=by
 cases v with
 |one c=>rfl
 |agg cs=>simp only [yc,outOf,PI]
theorem apg (v:Value) (t:TypeId) (b off:Nat) (hv:v= .pointer (some ⟨b,off,none⟩)):Instr.loadAt t v=(do loadVar t (← asAddr v)):=by
 subst hv;rfl
def KE (tmps:Array Value):ResultVar→Sem Value
 | .tmp t=>pure (tmps.getD t undef)
 | .cell x t=>do loadVar t (← asAddr (tmps.getD x undef))
theorem TJ (fn:Func) (tmps:Array Value):results fn tmps=(do let vs ← fn.results.mapM (KE tmps);pure (if h:vs.size=1 then vs[0] else .tuple vs)):=by
 unfold results
 congr 1
theorem aiX (hΘ:∀ t ti,Θ t=some ti→l7 P t ti) (h:Rel w0 M T γ st a w) {r:ResultVar} {v:SV} (hf:ady Θ st r=some v):
 ∃ u,(KE a.tmps r).run P w= .ok u w∧eG (ay w0 T γ st w) v u:=by
 cases r with
 |tmp t=>
  simp only [ady] at hf
  split at hf
  · next e=>
    cases hf
    have:=h.tmps t
    rw [e] at this
    exact ⟨_,rfl,this⟩
  · cases hf
 |cell x t=>
  simp only [ady] at hf
  split at hf
  · next ti o off ht hx=>
    split at hf
    · next cs ho=>
      have hv:=h.tmps x
      rw [hx] at hv
      obtain ⟨b,cs',_,_,hv'⟩:=hv
      obtain ⟨u,hu,hr⟩:=Pq hΘ h ht (x:= .tmp x) (.inl ⟨o,off,cs,hx,ho,hf⟩)
      refine ⟨u,?_,hr⟩
      rw [KE,← apg _ t b off hv']
      exact hu
    · cases hf
  · cases hf
theorem NV (hΘ:∀ t ti,Θ t=some ti→l7 P t ti) (h:Rel w0 M T γ st a w):∀ (rs:List ResultVar) (vs:List SV),NU Θ st rs=some vs→
 ∃ us,(rs.mapM (KE a.tmps)).run P w= .ok us w∧
   eH (ay w0 T γ st w) vs us
 |[],vs,hf=>by cases hf;exact ⟨[],rfl,trivial⟩
 |r::rs,vs,hf=>by
  rw [NU] at hf
  split at hf
  · next v vs' h1 h2=>
    cases hf
    obtain ⟨u,hu,hr⟩:=aiX hΘ h h1
    obtain ⟨us,hus,hrs⟩:=NV hΘ h rs vs' h2
    refine ⟨u::us,?_,hr,hrs⟩
    rw [List.mapM_cons,Sem.run_bind,hu]
    simp only [Result.andThen_ok,Sem.run_bind,hus,Sem.run_pure]
  · cases hf
theorem eH.length {X:V}:∀ (cs:List SV) (vs:List Value),eH X cs vs→vs.length=cs.length
 |[],[],_=>rfl
 |_::cs,_::vs,⟨_,h⟩=>by simp [eH.length cs vs h]
 |[],_::_,H|_::_,[],H=>by cases H
theorem eH.get {X:V}:∀ (cs:List SV) (vs:List Value) (i:Nat) (c:SV),eH X cs vs→cs[i]? =some c→∃ v,vs[i]? =some v∧eG X c v
 |[],_,_,_,_,h=>by simp at h
 |c::cs,v::vs,0,d,⟨h1,_⟩,h=>by simp at h;subst h;exact ⟨v,rfl,h1⟩
 |c::cs,v::vs,i+1,d,⟨_,h2⟩,h=>by
  obtain ⟨u,hu,hr⟩:=eH.get cs vs i d h2 (by simpa using h)
  exact ⟨u,by simpa using hu,hr⟩
 |_::_,[],_,_,H,_=>by cases H
theorem pq.length {X:V}:∀ (cs:List Arg) (vs:List Value),pq X cs vs→vs.length=cs.length
 |[],[],_=>rfl
 |_::cs,_::vs,⟨_,h⟩=>by simp [pq.length cs vs h]
 |[],_::_,H|_::_,[],H=>by cases H
theorem pq.get {X:V}:∀ (cs:List Arg) (vs:List Value) (i:Nat) (c:Arg),pq X cs vs→cs[i]? =some c→∃ v,vs[i]? =some v∧rD X c v
 |[],_,_,_,_,h=>by simp at h
 |c::cs,v::vs,0,d,⟨h1,_⟩,h=>by simp at h;subst h;exact ⟨v,rfl,h1⟩
 |c::cs,v::vs,i+1,d,⟨_,h2⟩,h=>by
  obtain ⟨u,hu,hr⟩:=pq.get cs vs i d h2 (by simpa using h)
  exact ⟨u,by simpa using hu,hr⟩
 |_::_,[],_,_,H,_=>by cases H
theorem rD.av {X:V}:∀ (c:Arg) (v:Value),rD X c v→bI X c.av v
 | .sv _,_,h| .kp _,_,h| .fn _ _,_,h=>h
 | .own _ _ _,_,h| .ptr _,_,h=>h.elim
theorem amR {args:List Arg} {vs:Array Value} {S:Nat→Prop} (n:Nat) (hn:args.length≤n)
 (h:pq ⟨w,w.heap.size,S,fun _=>undef,fun _=>none⟩ args vs.toList):
 Rel w (fun _=>False) ⟨S,fun _=>none,fun _ _ h=>by cases h⟩ (fun _=>undef) (entry n args) {tmps:=vs++Array.replicate (n-vs.size) undef,defers:=[]} w:=by
 have hl:vs.size=args.length:=by simpa using pq.length _ _ h
 refine ⟨fun _ h=>h.elim,rfl,?_,rfl,rfl,rfl,Nat.le_refl _,fun _ _ _=>rfl,fun t=>?_,(fun o x hx=>by cases hx),(fun o x b hx=>by cases hx),(fun o x p y b hx=>by cases hx),(fun o v cs hN=>by cases hN)⟩
 · simp [entry];omega
 · simp only [entry]
   cases ha:args[t]? with
   |none=>trivial
   |some v=>
    obtain ⟨u,hu,hr⟩:=pq.get _ _ t v h ha
    have:(vs++Array.replicate (n-vs.size) undef).getD t undef=u:=by
     have hlt:t<args.length:=by
      rcases Nat.lt_or_ge t args.length with h'|h'
      · exact h'
      · rw [List.getElem?_eq_none h'] at ha;cases ha
     have hlt':t<vs.size:=by omega
     rw [Array.getD_eq_getD_getElem?,Array.getElem?_append_left hlt']
     have:vs[t]? =some u:=by simpa using hu
     rw [this];rfl
    rw [this]
    exact rD.av v u hr
end Go.Fw
namespace Go.Fw
def codeOf (fn:Func):Code:=match fn.body with|some c=>c|none=> .skip
def adz:List (Nat×TI)→jC
 |[],_=>none
 |(t,x)::r,i=>match Nat.beq i t with|true=>some x|false=>adz r i
def LZ:List (Nat×La)→lF
 |[],_=>none
 |(t,x)::r,i=>match Nat.beq i t with|true=>some x|false=>LZ r i
def alK:List (Nat×JL)→Nat→Option JL
 |[],_=>none
 |(t,x)::r,i=>match Nat.beq i t with|true=>some x|false=>alK r i
def aoQ:List (Nat×List Pre)→Nat→List Pre
 |[],_=>[]
 |(n,z)::r,i=>match Nat.beq i n with|true=>z|false=>aoQ r i
def hints (own:List Nat) (l c:List (Nat×JL)) (u:List Nat) (z:List (Nat×List Pre)):Hints:=⟨bf own,alK l,alK c,u,aoQ z⟩
end Go.Fw
namespace Go.Fw
open Go
variable {P:Program} {Θ:jC} {Γ:lF}
inductive sQ where
 |one (c:ig)
 |agg (l:List ig)
@[reducible] def sQ.den:sQ→Type
  | .one c=>c.den
  | .agg l=>mF l
def sQ.val:(s:sQ)→s.den→SV
 | .one c,x=> .one (c.cell x)
 | .agg l,x=> .agg (iG l x)
def sQ.read:(s:sQ)→SV→Option s.den
 | .one c, .one x=>c.read x
 | .agg l, .agg xs=>kF l xs
 |_,_=>none
theorem sQ.weak {X:V} (s:sQ) (x:SV) (d:s.den) (v:Value) (hr:s.read x=some d) (hv:eG X x v):eG X (s.val d) v:=by
 unfold sQ.read at hr
 split at hr
 · exact ig.weak _ _ _ _ hr hv
 · obtain ⟨vs,e,h⟩:=hv
   exact ⟨vs,e,Gl _ _ _ _ hr h⟩
 · cases hr
@[reducible] def xA:List sQ→Type
  |[]=>Unit
  |s::r=>s.den×xA r
def tq:(l:List sQ)→xA l→List SV
 |[],_=>[]
 |s::r,x=>s.val x.1::tq r x.2
def Rh:(l:List sQ)→List SV→Option (xA l)
 |[],[]=>some ()
 |s::r,x::xs=>match s.read x,Rh r xs with
  |some a,some b=>some (a,b)
  |_,_=>none
 |_,_=>none
theorem amS {X:V}:∀ (l:List sQ) (xs:List SV) (d:xA l) (vs:List Value),Rh l xs=some d→eH X xs vs→eH X (tq l d) vs
 |[],[],_,_,_,hv=>hv
 |s::r,x::xs,d,vs,hr,hv=>by
  rw [Rh] at hr
  split at hr
  · next a b h1 h2=>
    cases hr
    cases vs with
    |nil=>cases hv
    |cons v vs=>exact ⟨sQ.weak s x a v h1 hv.1,amS r xs b vs h2 hv.2⟩
  · cases hr
 |[],_::_,_,_,hr,_=>by simp [Rh] at hr
 |_::_,[],_,_,hr,_=>by simp [Rh] at hr
mutual
def CT.uH:(c:CT)→c.den→Prop
 | .int k,(n:Int)=>k.min≤n∧n≤k.max
 | .bool,_=>True
 | .str,(s:Bytes)=>s.length≤maxLen
 | .sl _ r,(l:List r.den)=>l.length≤maxLen∧∀ x∈l,r.uH x
def aK.uH:(r:aK)→r.den→Prop
 | .nil,_=>True
 | .cons c r,x=>c.uH x.1∧r.uH x.2
end
mutual
theorem jw.uH {h:Array Obj} {S:Nat→Prop}:∀ (c:CT) (v:Value) (x:c.den),jw h S c v x→c.uH x
 | .int k,v,(n:Int),H=>by rw [jw] at H;rw [CT.uH];exact H.2
 | .bool,v,(b:Bool),H=>by rw [CT.uH];trivial
 | .str,v,(s:Bytes),H=>by rw [jw] at H;rw [CT.uH];exact H.2
 | .sl e r,v,(l:List r.den),H=>by
   rw [jw] at H
   rw [CT.uH]
   refine ⟨H.1,fun x hx=>?_⟩
   obtain ⟨i,hi,rfl⟩:=List.mem_iff_getElem.1 hx
   rcases H.2 with ⟨hnil,_⟩|⟨b,off,cap,cs,t,fz,_,_,_,_,hr⟩
   · subst hnil;simp at hi
   · exact bM.uH r _ _ (hr i _ (List.getElem?_eq_getElem hi))
theorem bM.uH {h:Array Obj} {S:Nat→Prop}:∀ (r:aK) (vs:List Value) (x:r.den),bM h S r vs x→r.uH x
 | .nil,vs,_,H=>by rw [aK.uH];trivial
 | .cons c r,vs,(x,y),H=>by
   rw [bM] at H
   obtain ⟨v,vs',_,h1,h2⟩:=H
   rw [aK.uH]
   exact ⟨jw.uH c v x h1,bM.uH r vs' y h2⟩
end
def ig.uH:(c:ig)→c.den→Prop
 | .int k,(n:Int)=>k.min≤n∧n≤k.max
 | .str,(s:Bytes)=>s.length≤maxLen
 | .sl _ r _,(l:List r.den)=>l.length≤maxLen∧∀ x∈l,r.uH x
 |_,_=>True
def Zk:(l:List ig)→mF l→Prop
 |[],_=>True
 |c::r,x=>c.uH x.1∧Zk r x.2
def sQ.uH:(s:sQ)→s.den→Prop
 | .one c,x=>c.uH x
 | .agg l,x=>Zk l x
theorem ig.Zl {X:V} (c:ig) (x:c.den) (v:Value) (h:bC X (c.cell x) v):c.uH x:=by
 cases c with
 |int k=>exact h.2
 |str=>exact h.2
 |sl e r fr=>
  have h':jw X.w.heap (X.dM fr) (.sl e r) v x:=h
  have:=jw.uH (.sl e r) v x h'
  rw [CT.uH] at this
  exact this
 |_=>trivial
theorem KF {X:V}:∀ (l:List ig) (x:mF l) (vs:List Value),aj X (iG l x) vs→Zk l x
 |[],_,_,_=>trivial
 |c::r,x,v::vs,h=>⟨ig.Zl c x.1 v h.1,KF r x.2 vs h.2⟩
 |_::_,_,[],h=>by cases h
inductive jb where
 |v (s:sQ)
 |kp (l:List ig)
 |fn (f:FuncId) (l:List (List ig))
@[reducible] def jb.den:jb→Type
  | .v s=>s.den
  | .kp l=>mF l
  | .fn _ l=>DV l
def jb.val:(s:jb)→s.den→Arg
 | .v s,x=> .sv (s.val x)
 | .kp l,x=> .kp (iG l x)
 | .fn f l,x=> .fn f (KC l x)
def jb.read:(s:jb)→Arg→Option s.den
 | .v s, .sv x=>s.read x
 | .kp l, .kp xs=>kF l xs
 | .fn f l, .fn g xs=>match Nat.beq f g with|true=>Hq l xs|false=>none
 |_,_=>none
theorem jb.weak {X:V} (s:jb) (x:Arg) (d:s.den) (v:Value) (hr:s.read x=some d) (hv:rD X x v):rD X (s.val d) v:=by
 unfold jb.read at hr
 split at hr
 · exact sQ.weak _ _ _ _ hr hv
 · obtain ⟨b,e,hk⟩:=hv
   exact ⟨b,e,ahc hr hk⟩
 · split at hr
   · next hb=>
     obtain ⟨us,e,hk⟩:=hv
     rw [jb.val,Nat.eq_of_beq_eq_true hb]
     exact ⟨us,e,Xb _ _ _ _ hr hk⟩
   · cases hr
 · cases hr
@[reducible] def mZ:List jb→Type
  |[]=>Unit
  |s::r=>s.den×mZ r
def wU:(l:List jb)→mZ l→List Arg
 |[],_=>[]
 |s::r,x=>s.val x.1::wU r x.2
def I4:(l:List jb)→List Arg→Option (mZ l)
 |[],[]=>some ()
 |s::r,x::xs=>match s.read x,I4 r xs with
  |some a,some b=>some (a,b)
  |_,_=>none
 |_,_=>none
theorem amT {X:V}:∀ (l:List jb) (xs:List Arg) (d:mZ l) (vs:List Value),I4 l xs=some d→pq X xs vs→pq X (wU l d) vs
 |[],[],_,_,_,hv=>hv
 |s::r,x::xs,d,vs,hr,hv=>by
  rw [I4] at hr
  split at hr
  · next a b h1 h2=>
    cases hr
    cases vs with
    |nil=>cases hv
    |cons v vs=>exact ⟨jb.weak s x a v h1 hv.1,amT r xs b vs h2 hv.2⟩
  · cases hr
 |[],_::_,_,_,hr,_=>by simp [I4] at hr
 |_::_,[],_,_,hr,_=>by simp [I4] at hr
theorem Vh:∀ (l:List jb) (d:mZ l),(wU l d).length=l.length
 |[],_=>rfl
 |_::r,d=>by simp [wU,Vh r d.2]
def afJ:(l:List (List ig))→DV l→Prop
 |[],_=>True
 |c::r,x=>Zk c x.1∧afJ r x.2
def jb.uH:(s:jb)→s.den→Prop
 | .v s,x=>s.uH x
 | .kp l,x=>Zk l x
 | .fn _ l,x=>afJ l x
def MB:(l:List jb)→mZ l→Prop
 |[],_=>True
 |s::r,x=>s.uH x.1∧MB r x.2
theorem aaS {X:V}:∀ (l:List (List ig)) (x:DV l) (us:List Value),fP X (KC l x) us→afJ l x
 |[],_,_,_=>trivial
 |c::r,x,u::us,h=>by
  obtain ⟨⟨b,hu,arr,t,fz,hf,hh,hc⟩,h2⟩:=h
  exact ⟨KF c x.1 _ hc,aaS r x.2 us h2⟩
 |_::_,_,[],h=>by cases h
theorem EH {X:V}:∀ (l:List jb) (x:mZ l) (vs:List Value),pq X (wU l x) vs→MB l x
 |[],_,_,_=>trivial
 | .v (.one c)::r,x,v::vs,h=>⟨ig.Zl c x.1 v h.1,EH r x.2 vs h.2⟩
 | .v (.agg l)::r,x,v::vs,h=>by
   obtain ⟨ws,hv,hc⟩:=h.1
   exact ⟨KF l x.1 _ hc,EH r x.2 vs h.2⟩
 | .kp l::r,x,v::vs,h=>by
   obtain ⟨b,hu,arr,t,fz,hf,hh,hc⟩:=h.1
   exact ⟨KF l x.1 _ hc,EH r x.2 vs h.2⟩
 | .fn f l::r,x,v::vs,h=>by
   obtain ⟨us,hv,hk⟩:=h.1
   exact ⟨aaS l x.1 _ hk,EH r x.2 vs h.2⟩
 |_::_,_,[],h=>by cases h
def MC (sh:List jb) (F:mZ sh→Prop×Out):Va:=fun args=>
 match I4 sh args with
 |some x=>some (F x)
 |none=>none
def CX:List SV→List (Bool×List gG)
 |[]=>[]
 |v::vs=>outOf v::CX vs
theorem Ri:∀ (k:Nat) (vs:List SV),iP k (CX vs)=(vs,[])
 |_,[]=>rfl
 |k,v::vs=>by simp only [CX,iP,akg,Ri,List.append_nil]
def adA (Θ:jC) (rv:List ResultVar) (dU:List sQ) (K:xA dU→Prop) (e:Exit) (st:St):Prop:=
 match e with
 | .normal| .ret=>match NU Θ (st.freeze (PG st)) rv with
   |some vs=>match Rh dU (vs.map (SV.kill fun _=>true)) with
    |some d=>K d
    |none=>False
   |none=>False
 |_=>False
theorem aph {G:kC} (hE:EnvB P G Θ Γ) (hm:P.follows .mixedOrders=true) {f:FuncId} {fn:Func} {c:Code} (hf:P.funcs[f]? =some fn) (hb:fn.body=some c) (H:Hints) {con:Va} {dU:List sQ}
 (hwalk:∀ args p out,con args=some (p,out)→p→Nat.ble args.length fn.ntmps=true∧∃ d:xA dU,out=⟨CX (tq dU d),none⟩∧IZ Θ Γ H c (adA Θ fn.results.toList dU fun y=>y=d) (entry fn.ntmps args)):qX P G f con:=by
 intro args p out k S vs w hcon hp hG hrep
 obtain ⟨hn,d,hout,hw⟩:=hwalk args p out hcon hp
 subst hout
 have hn':args.length≤fn.ntmps:=by simpa [Nat.ble_eq] using hn
 refine calls_of_wp hf hb (Xe ⟨hE,hG,fun b hb=>hb.elim⟩ hm H c _ _ _ _ _ _ (amR (S:=S) fn.ntmps hn' hrep) hw ?_)
 have hret:∀ s γ' a' w',adA Θ fn.results.toList dU (fun y=>y=d) .ret s→Rel w (fun _=>False) ⟨S,fun _=>none,fun _ _ h=>by cases h⟩ γ' s a' w'→bodyPost P fn (fun e w'=>∃ v vals,e= .returned v∧w'.os=w.os∧w'.tape=w.tape∧w'.output=w.output∧w.heap.size≤w'.heap.size∧
  (∀ b,b<w.heap.size→w'.heap[b]? =w.heap[b]?)∧
  bI ⟨w',w.heap.size,S,vals,look (Out.take k ⟨CX (tq dU d),none⟩).2⟩ (Out.take k ⟨CX (tq dU d),none⟩).1 v∧
  (∀ o x,look (Out.take k ⟨CX (tq dU d),none⟩).2 o=some x→cZ ⟨w',w.heap.size,S,vals,look (Out.take k ⟨CX (tq dU d),none⟩).2⟩ o x∧∀ b,blk (vals o)=some b→w.heap.size≤b∧b<w'.heap.size)∧
  (∀ o x q y b,look (Out.take k ⟨CX (tq dU d),none⟩).2 o=some x→look (Out.take k ⟨CX (tq dU d),none⟩).2 q=some y→o≠q→blk (vals o)=some b→blk (vals q)≠some b)) .ret a' w':=by
  intro s γ' a' w' he hR
  refine ⟨hR.defers,?_⟩
  simp only [adA] at he
  split at he
  · next svs hvs=>
    split at he
    · next y hy=>
      subst he
      have hRf:=hR.freeze (PG s)
      obtain ⟨us,hus,hrs⟩:=NV hE.types hRf _ _ hvs
      have hk0:=eH.kill (fun _=>true) hRf svs us hrs
      have hk:=amS dU _ y us hy hk0
      have htake:Out.take k ⟨CX (tq dU y),none⟩=(match tq dU y with|[v]=> .sv v|l=> .ng l,[]):=by
       unfold Out.take
       simp only [Ri]
       rcases tq dU y with _|⟨v,_|⟨v2,r⟩⟩<;>rfl
      have hmap:(fn.results.mapM (KE a'.tmps)).run P w'= .ok us.toArray w':=by
       rw [Array.mapM_eq_mapM_toList,Sem.run_map,hus]
       rfl
      refine ⟨if h:us.toArray.size=1 then us.toArray[0] else .tuple us.toArray,?_,_,γ',rfl,hR.os,hR.tape,hR.output,hR.grow,fun b hb=>hR.kept b hb (fun h=>h),?_,?_,?_⟩
      · rw [TJ,Sem.run_bind,hmap]
        simp only [Result.andThen_ok,Sem.run_pure]
      · rw [htake]
        have hl:=eH.length _ _ hk
        match hm:tq dU y,us,hk,hl with
        |[v],[u],hk,_=>exact hk.1
        |[],[],hk,_=>exact ⟨_,by simp,hk⟩
        |v::v2::r,u::u2::us,hk,hl=>exact ⟨_,by simp,hk⟩
        |[],_::_,hk,h4|_::_,[],hk,h4|[_],_::_::_,hk,h4|_::_::_,[_],hk,h4=>simp at h4
      · intro o x hx;rw [htake] at hx;cases hx
      · intro o x q y b hx;rw [htake] at hx;cases hx
    · exact he.elim
  · exact he.elim
 intro e s γ' a' w' he hR
 cases e with
 |normal=>exact hret s γ' a' w' he hR
 |ret=>exact hret s γ' a' w' he hR
 |_=>exact he.elim
def FW (sh:List jb) (dU:List sQ) (F:mZ sh→Prop×xA dU):Va:=MC sh fun x=>((F x).1,⟨CX (tq dU (F x).2),none⟩)
theorem afK {G:kC} (hE:EnvB P G Θ Γ) (hm:P.follows .mixedOrders=true) {f:FuncId} {fn:Func} {c:Code} (hf:P.funcs[f]? =some fn) (hb:fn.body=some c) (H:Hints)
 {sh:List jb} {dU:List sQ} {F:mZ sh→Prop×xA dU} (hn:Nat.ble sh.length fn.ntmps=true)
 (hwalk:∀ x,MB sh x→(F x).1→IZ Θ Γ H c (adA Θ fn.results.toList dU fun y=>y=(F x).2) (entry fn.ntmps (wU sh x))):qX P G f (FW sh dU F):=by
 have base:∀ x,MB sh x→qX P G f (fun args=>@ite _ (args=wU sh x) (Classical.propDecidable _) (some ((F x).1,⟨CX (tq dU (F x).2),none⟩)) none):=by
  intro x hin
  refine aph (dU:=dU) hE hm hf hb H ?_
  intro args p out hcon hp
  split at hcon
  · next e=>
    have hF:((F x).1,(⟨CX (tq dU (F x).2),none⟩:Out))=(p,out):=by simpa using hcon
    have h1:(F x).1=p:=congrArg Prod.fst hF
    have h2:(⟨CX (tq dU (F x).2),none⟩:Out)=out:=congrArg Prod.snd hF
    have:=hwalk x hin (by rw [h1];exact hp)
    rw [e]
    exact ⟨by rw [Vh];exact hn,(F x).2,h2.symm,this⟩
  · cases hcon
 intro args p out k S vs w hcon hp hG hrep
 unfold FW MC at hcon
 split at hcon
 · next x hx=>
   have hv:=amT sh args x vs.toList hx hrep
   exact base x (EH sh x _ hv) (wU sh x) p out k S vs w (by simp only [if_true];exact hcon) hp hG hv
 · cases hcon
inductive RC where
 |c (s:ig)
 |own (e:TypeId) (r:aK) (fr:Bool)
@[reducible] def RC.den:RC→Type
  | .c s=>s.den
  | .own _ r _=>List r.den
@[reducible] def adB:List RC→Type
  |[]=>Unit
  |c::r=>c.den×adB r
def RC.alL:(c:RC)→c.den→gG
 | .c s,x=> .plain (s.cell x)
 | .own e r fr,l=> .own e r l fr
def afL:(l:List RC)→adB l→List gG
 |[],_=>[]
 |c::r,x=>c.alL x.1::afL r x.2
inductive ru where
 |one (c:RC)
 |agg (l:List RC)
@[reducible] def ru.den:ru→Type
  | .one c=>c.den
  | .agg l=>adB l
@[reducible] def mX:List ru→Type
  |[]=>Unit
  |s::r=>s.den×mX r
def ru.out:(s:ru)→s.den→Bool×List gG
 | .one c,x=>(false,[c.alL x])
 | .agg l,x=>(true,afL l x)
def iR:(l:List ru)→mX l→List (Bool×List gG)
 |[],_=>[]
 |s::r,x=>s.out x.1::iR r x.2
def RC.name:RC→Cell→Option Nat
 | .own _ _ _, .ref o=>some o
 |_,_=>none
def afM:List RC→List Cell→List (Option Nat)
 |c::r,x::xs=>c.name x::afM r xs
 |_,_=>[]
def ru.names:ru→SV→List (Option Nat)
 | .one c, .one x=>[c.name x]
 | .agg l, .agg xs=>afM l xs
 |_,_=>[]
def DW:List ru→List SV→List (Option Nat)
 |s::r,x::xs=>s.names x++DW r xs
 |_,_=>[]
def RC.read (st:St):(c:RC)→Cell→Option c.den
 | .c s,x=>match x.refs with|[]=>s.read x|_=>none
 | .own e r fr, .ref o=>match st.ah o with
   |some (.arr f s l g)=>match Nat.beq e f&&NT fr g with
    |true=>if h:s.beq r=true then some (wG h l) else none
    |false=>none
   |_=>none
 | .own _ r _, .nil=>match Nat.ble 1 r.len with|true=>some []|false=>none
 |_,_=>none
def Rj (st:St):(l:List RC)→List Cell→Option (adB l)
 |[],[]=>some ()
 |c::r,x::xs=>match c.read st x,Rj st r xs with
  |some a,some b=>some (a,b)
  |_,_=>none
 |_,_=>none
def ru.read (st:St):(s:ru)→SV→Option s.den
 | .one c, .one x=>c.read st x
 | .agg l, .agg xs=>Rj st l xs
 |_,_=>none
def EI (st:St):(l:List ru)→List SV→Option (mX l)
 |[],[]=>some ()
 |s::r,x::xs=>match s.read st x,EI st r xs with
  |some a,some b=>some (a,b)
  |_,_=>none
 |_,_=>none
inductive gX where
 |p (s:jb)
 |own (e:TypeId) (r:aK)
 |ptr (l:List ig)
@[reducible] def gX.den:gX→Type
  | .p s=>s.den
  | .own _ r=>List r.den
  | .ptr l=>mF l
def gX.mode:gX→Mode
 | .p _=> .val
 | .own _ _=> .own
 | .ptr _=> .ptr
def gX.val:(s:gX)→s.den→Arg
 | .p s,x=>s.val x
 | .own e r,l=> .own e r l
 | .ptr l,x=> .ptr (iG l x)
def gX.read:(s:gX)→Arg→Option s.den
 | .p s,x=>s.read x
 | .own e r, .own f s l=>match Nat.beq e f with
   |true=>if h:s.beq r=true then some (wG h l) else none
   |false=>none
 | .ptr l, .ptr cs=>kF l cs
 |_,_=>none
@[reducible] def jP:List gX→Type
  |[]=>Unit
  |s::r=>s.den×jP r
def vz:(l:List gX)→jP l→List Arg
 |[],_=>[]
 |s::r,x=>s.val x.1::vz r x.2
def iT:(l:List gX)→List Arg→Option (jP l)
 |[],[]=>some ()
 |s::r,x::xs=>match s.read x,iT r xs with
  |some a,some b=>some (a,b)
  |_,_=>none
 |_,_=>none
@[reducible] def mr:List gX→Type
  |[]=>Unit
  | .ptr l::r=>mF l×mr r
  | .p _::r| .own _ _::r=>mr r
def iU:(l:List gX)→mr l→List Eff
 |[],_=>[]
 | .ptr l::r,x=> .var (iG l x.1)::iU r x.2
 | .p _::r,x| .own _ _::r,x=> .lose::iU r x
def KG (st:St):(i:Nat)→(l:List gX)→Option (mr l)
 |_,[]=>some ()
 |i, .ptr l::r=>match st.ah (i*64+48),KG st (i+1) r with
  |some (.var cs),some b=>match cs.flatMap Cell.refs,kF l cs with
   |[],some a=>some (a,b)
   |_,_=>none
  |_,_=>none
 |i, .p _::r|i, .own _ _::r=>KG st (i+1) r
def Arg.avX (i:Nat):Arg→AV
 | .own _ _ _=> .sv (.one (.ref (i*64+49)))
 | .ptr _=> .cO (i*64+48) 0
 |a=>a.av
def Gn (n:Nat) (args:List Arg):St:=
 {n:=n,tmps:=fun t=>match args[t]? with|some v=>v.avX t|none=> .undef,ah:=dW args}
def adC (st:St) (W:List (Option Nat)) (o:Nat):Bool:=PG st o&&!(WH o W)
def aij (Θ:jC) (rv:List ResultVar) (sh:List gX) (dU:List ru) (K:mX dU×mr sh→Prop) (e:Exit) (st:St):Prop:=
 match e with
 | .normal| .ret=>match NU Θ st rv with
   |some svs=>match NU Θ (st.freeze (adC st (DW dU svs))) rv with
    |some vs=>match AX (DW dU vs),EI (st.freeze (adC st (DW dU svs))) dU vs,KG (st.freeze (adC st (DW dU svs))) 0 sh with
     |true,some d,some b=>K (d,b)
     |_,_,_=>False
    |none=>False
   |none=>False
 |_=>False
def qQ (sh:List gX) (dU:List ru) (F:jP sh→Prop×(mX dU×mr sh→Prop)):IA:=fun args=>
 match iT sh args with
 |some x=>some ((F x).1,⟨mX dU×mr sh,(F x).2,fun t=>⟨iR dU t.1,none⟩,fun t=>iU sh t.2⟩)
 |none=>none
def Dt (sh:List gX):List Mode:=sh.map gX.mode
end Go.Fw
namespace Go.Fw
open Go
variable {P:Program} {w0:World} {M:Nat→Prop} {T:Ext} {γ γ':Nat→Value} {st:St} {a:Act} {w w':World} {Θ:jC} {Γ:lF}
def afN (args:List Arg) (γ:Nat→Value) (o:Nat):Option Value:=match dW args o with|some (.var _)=>some (γ o)|_=>none
theorem anX {args:List Arg} {o:Nat} {cs:List Cell} (h:dW args o=some (.var cs)):o%64=48:=by
 unfold dW at h
 split at h
 · split at h<;>cases h
 · split at h
   · next hm=>exact Nat.eq_of_beq_eq_true hm
   · cases h
 · cases h
def Xf (args:List Arg) (γ:Nat→Value) (S:Nat→Prop):Ext where
 S:=fun b=>S b∨wS (dW args) γ b
 N:=afN args γ
 n48:=by
  intro p v h
  unfold afN at h
  split at h
  · next cs hc=>exact anX hc
  · cases h
theorem zi.get {X:V}:∀ (as:List Arg) (vs:List Value) (i:Nat),zi X i as vs→as.length=vs.length∧∀ (j:Nat) (b:Arg),as[j]? =some b→∃ v,vs[j]? =some v∧NK X (i+j) b v
 |[],[],_,_=>⟨rfl,fun j b h=>by simp at h⟩
 |x::as,v::vs,i,⟨h1,h2⟩=>by
  obtain ⟨g1,g2⟩:=zi.get as vs (i+1) h2
  refine ⟨by simp [g1],fun j b hb=>?_⟩
  cases j with
  |zero=>simp at hb;subst hb;exact ⟨v,rfl,h1⟩
  |succ j=>
   obtain ⟨u,hu,hr⟩:=g2 j b (by simpa using hb)
   exact ⟨u,by simpa using hu,by rw [show i+(j+1)=i+1+j by omega];exact hr⟩
 |[],_::_,_,H|_::_,[],_,H=>by cases H
theorem NK.av {X:V} (i:Nat):∀ (c:Arg) (v:Value),NK X i c v→bI X (c.avX i) v
 | .own _ _ _,_,h=>h
 | .ptr _,_,h=>h
 | .sv _,_,h| .kp _,_,h| .fn _ _,_,h=>h
theorem adD {args:List Arg} {vs:Array Value} {S:Nat→Prop} (n:Nat) (hn:args.length≤n)
 (h:zi ⟨w,w.heap.size,S,γ,dW args⟩ 0 args vs.toList)
 (ho:∀ o x,dW args o=some x→cZ ⟨w,w.heap.size,S,γ,dW args⟩ o x∧∀ b,blk (γ o)=some b→b<w.heap.size)
 (hs:∀ o x q y b,dW args o=some x→dW args q=some y→o≠q→blk (γ o)=some b→blk (γ q)≠some b):
 Rel w (wS (dW args) γ) (Xf args γ S) γ (Gn n args) {tmps:=vs++Array.replicate (n-vs.size) undef,defers:=[]} w:=by
 obtain ⟨hl0,hget⟩:=zi.get _ _ 0 h
 have hl:vs.size=args.length:=by simpa using hl0.symm
 have le:V.le ⟨w,w.heap.size,S,γ,dW args⟩ ⟨w,w.heap.size,(Xf args γ S).S,γ,dW args⟩:=
  ⟨Nat.le_refl _,fun b hb=>⟨⟨hb.1,fun hlt=> .inl (hb.2.1 hlt),hb.2.2⟩,rfl⟩,fun o cs hx=>⟨⟨cs,hx⟩,rfl⟩,fun o e r l fr hx=>⟨⟨l,fr,hx⟩,rfl⟩⟩
 refine ⟨fun b hb=> .inr hb,rfl,?_,rfl,rfl,rfl,Nat.le_refl _,fun _ _ _=>rfl,fun t=>?_,fun o x hx=>cZ.mono le o x (fun _ _=>rfl) rfl (ho o x hx).1,fun o x b hx hb=>⟨(ho o x hx).2 b hb, .inr ⟨o,x,hx,hb⟩⟩,fun o x p y b hx hy hop hb=>hs o x p y b hx hy hop hb,fun o v cs hN hx=>?_⟩
 · simp [Gn];omega
 · simp only [Gn]
   cases ha:args[t]? with
   |none=>trivial
   |some v=>
    obtain ⟨u,hu,hr⟩:=hget t v ha
    have:(vs++Array.replicate (n-vs.size) undef).getD t undef=u:=by
     have hlt:t<args.length:=by
      rcases Nat.lt_or_ge t args.length with h'|h'
      · exact h'
      · rw [List.getElem?_eq_none h'] at ha;cases ha
     have hlt':t<vs.size:=by omega
     rw [Array.getD_eq_getD_getElem?,Array.getElem?_append_left hlt']
     have:vs[t]? =some u:=by simpa using hu
     rw [this];rfl
    rw [this]
    rw [Nat.zero_add] at hr
    exact bI.mono le _ _ (NK.av t v u hr)
 · have hx':dW args o=some (.var cs):=hx
   have hN':afN args γ o=some v:=hN
   unfold afN at hN'
   rw [hx'] at hN'
   exact Option.some.inj hN'
def AW (a a':Arg):Prop:=
 (∃ e r l,a= .own e r l∧a'= .own e r l)∨(∃ cs cs',a= .ptr cs∧a'= .ptr cs'∧∀ (X:V) vs,aj X cs vs→aj X cs' vs)∨
 ((∀ (X:V) v,bI X a.av v→bI X a'.av v)∧(∀ i,a.avX i=a.av)∧(∀ i,a'.avX i=a'.av)∧(∀ e r l,a≠ .own e r l)∧(∀ cs,a≠ .ptr cs)∧(∀ e r l,a'≠ .own e r l)∧(∀ cs,a'≠ .ptr cs))
theorem jb.alM {s:jb} {x:Arg} {d:s.den} (h:s.read x=some d):AW x (s.val d):=by
 refine .inr (.inr ⟨fun X v hv=>?_,?_⟩)
 · have hx:rD X x v:=by
    cases x with
    |sv _|kp _|fn _ _=>exact hv
    |own _ _ _|ptr _=>cases s<;>simp [jb.read] at h
   exact rD.av _ _ (jb.weak s x d v h hx)
 · cases x<;>cases s<;>first
    |(simp [jb.read] at h;done)
    |exact ⟨fun _=>rfl,fun _=>rfl,(fun _ _ _ e=>by cases e),(fun _ e=>by cases e),(fun _ _ _ e=>by cases e),(fun _ e=>by cases e)⟩
theorem gX.alM {s:gX} {x:Arg} {d:s.den} (h:s.read x=some d):AW x (s.val d):=by
 unfold gX.read at h
 split at h
 · exact jb.alM h
 · next e r f s l=>
   split at h
   · next hb=>
     split at h
     · next hs=>
       cases h
       have he:=Nat.eq_of_beq_eq_true hb
       subst he
       have hsr:=aK.eq_of_beq s r hs
       subst hsr
       exact .inl ⟨e,s,l,rfl,rfl⟩
     · cases h
   · cases h
 · next l cs=>exact .inr (.inl ⟨cs,_,rfl,rfl,fun X vs hc=>Gl _ _ _ _ h hc⟩)
 · cases h
theorem MF:∀ {l:List gX} {xs:List Arg} {d:jP l},iT l xs=some d→(vz l d).length=xs.length∧∀ (i:Nat) (a:Arg),xs[i]? =some a→∃ a',(vz l d)[i]? =some a'∧AW a a'
 |[],[],_,_=>⟨rfl,fun i a h=>by simp at h⟩
 |s::r,x::xs,d,h=>by
  rw [iT] at h
  split at h
  · next a b h1 h2=>
    cases h
    obtain ⟨g1,g2⟩:=MF h2
    refine ⟨by simp [vz,g1],fun i c hc=>?_⟩
    cases i with
    |zero=>simp at hc;subst hc;exact ⟨_,rfl,gX.alM h1⟩
    |succ i=>
     obtain ⟨c',k1,k2⟩:=g2 i c (by simpa using hc)
     exact ⟨c',by simpa [vz] using k1,k2⟩
  · cases h
 |[],_::_,_,h=>by simp [iT] at h
 |_::_,[],_,h=>by simp [iT] at h
theorem PK {args:List Arg} {o:Nat} (h:∀ b,args[o / 64]? =some b→(∀ e r l,b≠ .own e r l)∧∀ cs,b≠ .ptr cs):dW args o=none:=by
 unfold dW
 split
 · next e r l ha=>exact ((h _ ha).1 e r l rfl).elim
 · next cs ha=>exact ((h _ ha).2 cs rfl).elim
 · rfl
theorem Vj {sh:List gX} {args:List Arg} {x:jP sh} (h:iT sh args=some x) (n:Nat):Covers (Gn n (vz sh x)) (Gn n args):=by
 obtain ⟨hl,hget⟩:=MF h
 refine ⟨rfl,fun t X v hv=>?_,fun o=>?_⟩
 · simp only [Gn] at hv ⊢
   cases ha:args[t]? with
   |none=>
    have:(vz sh x)[t]? =none:=by
     rw [List.getElem?_eq_none_iff] at ha ⊢;omega
    rw [this];trivial
   |some b=>
    obtain ⟨b',hb',hw⟩:=hget t b ha
    rw [ha] at hv
    rw [hb']
    dsimp only at hv ⊢
    rcases hw with ⟨e,r,l,rfl,rfl⟩|⟨cs,cs',rfl,rfl,_⟩|⟨hw,e1,e2,_⟩
    · exact hv
    · exact hv
    · rw [e1] at hv;rw [e2];exact hw X v hv
 · show (dW (vz sh x) o=none∧dW args o=none)∨∃ y y',dW args o=some y∧dW (vz sh x) o=some y'∧JK y y'
   cases ha:args[o / 64]? with
   |none=>
    have h2:(vz sh x)[o / 64]? =none:=by
     rw [List.getElem?_eq_none_iff] at ha ⊢;omega
    exact .inl ⟨PK (by rw [h2];intro b hb;cases hb),PK (by rw [ha];intro b hb;cases hb)⟩
   |some b=>
    obtain ⟨b',hb',hw⟩:=hget _ b ha
    rcases hw with ⟨e,r,l,rfl,rfl⟩|⟨cs,cs',rfl,rfl,hc⟩|⟨_,_,_,n1,n2,n3,n4⟩
    · unfold dW
      rw [ha,hb']
      dsimp only
      cases hm:Nat.beq (o%64) 49 with
      |true=>exact .inr ⟨_,_,rfl,rfl, .inr ⟨e,r,l,false,false,rfl,rfl,id⟩⟩
      |false=>exact .inl ⟨rfl,rfl⟩
    · unfold dW
      rw [ha,hb']
      dsimp only
      cases hm:Nat.beq (o%64) 48 with
      |true=>exact .inr ⟨_,_,rfl,rfl, .inl ⟨cs,cs',rfl,rfl,hc⟩⟩
      |false=>exact .inl ⟨rfl,rfl⟩
    · exact .inl ⟨PK (by rw [hb'];intro c hc;cases hc;exact ⟨n3,n4⟩),PK (by rw [ha];intro c hc;cases hc;exact ⟨n1,n2⟩)⟩
theorem aaT (a b:List (Nat×aQ)) (p:Nat):look (a++b) p=match look b p with|some y=>some y|none=>look a p:=by
 induction a with
 |nil=>simp only [List.nil_append,look];cases look b p<;>rfl
 |cons x a ih=>
  obtain ⟨o,z⟩:=x
  rw [List.cons_append,look,ih,look]
  cases look b p<;>rfl
theorem wH:∀ (cs:List gG) (k p:Nat) (x:aQ),look (kE k cs).2 p=some x↔∃ i e r l fr,p=k+i∧cs[i]? =some (.own e r l fr)∧x= .arr e r l fr
 |[],k,p,x=>by simp [kE,look]
 |c::cs,k,p,x=>by
  rw [kE,aaT]
  have ih:=wH cs (k+1) p x
  constructor
  · intro h
    split at h
    · next y hy=>
      cases h
      obtain ⟨i,e,r,l,fr,h1,h2,h3⟩:=(wH cs (k+1) p x).1 hy
      exact ⟨i+1,e,r,l,fr,by omega,by simpa using h2,h3⟩
    · next hn=>
      cases c with
      |plain c=>simp [gG.take,look] at h
      |own e r l fr=>
       simp only [gG.take,look] at h
       split at h
       · next hb=>
         cases h
         exact ⟨0,e,r,l,fr,by have:=Nat.eq_of_beq_eq_true hb;omega,rfl,rfl⟩
       · cases h
  · rintro ⟨i,e,r,l,fr,h1,h2,rfl⟩
    cases i with
    |succ i=>
     have:=(wH cs (k+1) p (.arr e r l fr)).2 ⟨i,e,r,l,fr,by omega,by simpa using h2,rfl⟩
     rw [this]
    |zero=>
     simp at h2
     subst h2
     have hn:look (kE (k+1) cs).2 p=none:=by
      cases hl:look (kE (k+1) cs).2 p with
      |none=>rfl
      |some y=>
       obtain ⟨i,_,_,_,_,g1,_⟩:=(wH cs (k+1) p y).1 hl
       omega
     rw [hn]
     have hp:p=k:=by omega
     subst hp
     simp [gG.take,look]
def MG (rs:List (Bool×List gG)):List gG:=rs.flatMap (·.2)
theorem akh (k:Nat) (x:Bool×List gG):(yc k x).2=(kE k x.2).2:=by
 unfold yc
 split
 · next e1 e2=>rw [e2]
 · next e1 e2=>rw [e2]
 · next e1 e2=>rw [e2]
theorem Dw:∀ (rs:List (Bool×List gG)) (k p:Nat) (x:aQ),look (iP k rs).2 p=some x↔∃ i e r l fr,p=k+i∧(MG rs)[i]? =some (.own e r l fr)∧x= .arr e r l fr
 |[],k,p,x=>by simp [iP,look,MG]
 |y::rs,k,p,x=>by
  rw [iP,aaT,akh]
  have alN:MG (y::rs)=y.2++MG rs:=rfl
  constructor
  · intro h
    split at h
    · next z hz=>
      cases h
      obtain ⟨i,e,r,l,fr,h1,h2,h3⟩:=(Dw rs (k+y.2.length) p x).1 hz
      refine ⟨y.2.length+i,e,r,l,fr,by omega,?_,h3⟩
      rw [alN,List.getElem?_append_right (by omega)]
      simpa using h2
    · obtain ⟨i,e,r,l,fr,h1,h2,h3⟩:=(wH y.2 k p x).1 h
      refine ⟨i,e,r,l,fr,h1,?_,h3⟩
      rw [alN,List.getElem?_append_left (List.getElem?_eq_some_iff.1 h2).1]
      exact h2
  · rintro ⟨i,e,r,l,fr,h1,h2,rfl⟩
    rw [alN] at h2
    rcases Nat.lt_or_ge i y.2.length with hlt|hge
    · rw [List.getElem?_append_left hlt] at h2
      have hn:look (iP (k+y.2.length) rs).2 p=none:=by
       cases hl:look (iP (k+y.2.length) rs).2 p with
       |none=>rfl
       |some z=>
        obtain ⟨j,_,_,_,_,g1,_⟩:=(Dw rs (k+y.2.length) p z).1 hl
        omega
      rw [hn]
      exact (wH y.2 k p _).2 ⟨i,e,r,l,fr,h1,h2,rfl⟩
    · rw [List.getElem?_append_right hge] at h2
      have:=(Dw rs (k+y.2.length) p (.arr e r l fr)).2 ⟨i-y.2.length,e,r,l,fr,by omega,h2,rfl⟩
      rw [this]
end Go.Fw
namespace Go.Fw
open Go
set_option linter.unusedVariables false
variable {P:Program} {w0:World} {M:Nat→Prop} {T:Ext} {γ γ':Nat→Value} {st:St} {a:Act} {w w':World} {Θ:jC} {Γ:lF}
def RF (Y:V) (c:gG) (v:Value) (n:Option Nat):Prop:=
 match c with
 | .plain x=>bC Y x v∧x.refs=[]
 | .own e r l fr=>0<r.len∧((∃ o g,n=some o∧Y.ah o=some (.arr e r l g)∧NT fr g=true∧v=Y.γ o∧v.oneCell'=true)∨(l=[]∧v= .slice none 0 0))
def Gp (Y:V):List gG→List Value→List (Option Nat)→Prop
 |[],[],[]=>True
 |c::cs,v::vs,n::ns=>RF Y c v n∧Gp Y cs vs ns
 |_,_,_=>False
theorem Gp.append {Y:V}:∀ (cs:List gG) (vs:List Value) (ns:List (Option Nat)) (ds:List gG) (us:List Value) (ms:List (Option Nat)),Gp Y cs vs ns→Gp Y ds us ms→Gp Y (cs++ds) (vs++us) (ns++ms)
 |[],[],[],_,_,_,_,h=>h
 |_::cs,_::vs,_::ns,ds,us,ms,⟨h1,h2⟩,h=>⟨h1,Gp.append cs vs ns ds us ms h2 h⟩
theorem Gp.length {Y:V}:∀ (cs:List gG) (vs:List Value) (ns:List (Option Nat)),Gp Y cs vs ns→cs.length=vs.length
 |[],[],[],_=>rfl
 |_::cs,_::vs,_::ns,⟨_,h2⟩=>by simp [Gp.length cs vs ns h2]
theorem Gp.get {Y:V}:∀ (cs:List gG) (vs:List Value) (ns:List (Option Nat)) (i:Nat) (c:gG),Gp Y cs vs ns→cs[i]? =some c→∃ v n,vs[i]? =some v∧ns[i]? =some n∧RF Y c v n
 |[],[],[],i,c,_,h=>by simp at h
 |x::cs,v::vs,n::ns,0,c,⟨h1,_⟩,h=>by simp at h;subst h;exact ⟨v,n,rfl,rfl,h1⟩
 |x::cs,v::vs,n::ns,i+1,c,⟨_,h2⟩,h=>by
  obtain ⟨u,m,g1,g2,g3⟩:=Gp.get cs vs ns i c h2 (by simpa using h)
  exact ⟨u,m,by simpa using g1,by simpa using g2,g3⟩
theorem ig.ahf (c:ig) (x:Cell) (d:c.den) (h:c.read x=some d) (hx:x.refs=[]):(c.cell d).refs=[]:=by
 cases c<;>cases x<;>first|rfl|(simp [ig.read] at h;done)|(cases hx)
theorem RC.akT {Y:V} (hst:Y.ah=st.ah) (hpos:∀ o e r l g,st.ah o=some (.arr e r l g)→0<r.len):∀ (c:RC) (x:Cell) (d:c.den) (v:Value),c.read st x=some d→bC Y x v→RF Y (c.alL d) v (c.name x):=by
 intro c x d v hr hv
 cases c with
 |c s=>
  rw [RC.read] at hr
  split at hr
  · next hx=>exact ⟨ig.weak s x d v hr hv,ig.ahf s x d hr hx⟩
  · cases hr
 |own e r fr=>
  cases x with
  |ref o=>
   simp only [RC.read] at hr
   split at hr
   · next f s l g ho=>
     split at hr
     · next hb=>
       split at hr
       · next hs=>
         cases hr
         rw [Bool.and_eq_true] at hb
         have he:=Nat.eq_of_beq_eq_true hb.1
         subst he
         have hsr:=aK.eq_of_beq s r hs
         subst hsr
         exact ⟨hpos _ _ _ _ _ ho, .inl ⟨o,g,rfl,by rw [hst];exact ho,hb.2,hv.2.1,hv.2.2⟩⟩
       · cases hr
     · cases hr
   · cases hr
  |nil=>
   simp only [RC.read] at hr
   split at hr
   · next hb=>
     cases hr
     exact ⟨Nat.lt_of_lt_of_le Nat.zero_lt_one (by simpa [Nat.ble_eq] using hb), .inr ⟨rfl,hv⟩⟩
   · cases hr
  |_=>simp [RC.read] at hr
theorem adE {Y:V} (hst:Y.ah=st.ah) (hpos:∀ o e r l g,st.ah o=some (.arr e r l g)→0<r.len):∀ (l:List RC) (xs:List Cell) (d:adB l) (vs:List Value),Rj st l xs=some d→aj Y xs vs→Gp Y (afL l d) vs (afM l xs)
 |[],[],_,[],_,_=>trivial
 |c::r,x::xs,d,v::vs,h,⟨h1,h2⟩=>by
  rw [Rj] at h
  split at h
  · next a b g1 g2=>
    cases h
    exact ⟨RC.akT hst hpos c x a v g1 h1,adE hst hpos r xs b vs g2 h2⟩
  · cases h
 |[],_::_,_,_,h,_=>by simp [Rj] at h
 |_::_,[],_,_,h,_=>by simp [Rj] at h
theorem ru.aiZ {Y:V} (hst:Y.ah=st.ah) (hpos:∀ o e r l g,st.ah o=some (.arr e r l g)→0<r.len):∀ (s:ru) (x:SV) (d:s.den) (v:Value),s.read st x=some d→eG Y x v→Gp Y (s.out d).2 v.cells.toList (s.names x)
 | .one c, .one x,d,v,h,hv=>by
   rw [IJ v (bC.one x v hv)]
   exact ⟨RC.akT hst hpos c x d v h hv,trivial⟩
 | .agg l, .agg xs,d,v,h,⟨vs,hv,hc⟩=>by
   rw [hv]
   exact adE hst hpos l xs d _ h hc
 | .one _, .agg _,_,_,h,_| .agg _, .one _,_,_,h,_=>by simp [ru.read] at h
theorem adF {Y:V} (hst:Y.ah=st.ah) (hpos:∀ o e r l g,st.ah o=some (.arr e r l g)→0<r.len):∀ (l:List ru) (xs:List SV) (d:mX l) (vs:List Value),EI st l xs=some d→eH Y xs vs→
 Gp Y (MG (iR l d)) (vs.flatMap fun v=>v.cells.toList) (DW l xs)
 |[],[],_,[],_,_=>trivial
 |s::r,x::xs,d,v::vs,h,⟨h1,h2⟩=>by
  rw [EI] at h
  split at h
  · next a b g1 g2=>
    cases h
    exact Gp.append _ _ _ _ _ _ (ru.aiZ hst hpos s x a v g1 h1) (adF hst hpos r xs b vs g2 h2)
  · cases h
 |[],_::_,_,_,h,_=>by simp [EI] at h
 |_::_,[],_,_,h,_=>by simp [EI] at h
def Go1 (Z:V) (k:Nat) (c:gG) (v:Value):Prop:=bC Z (c.take k).1 v
def Jv (Z:V):Nat→List gG→List Value→Prop
 |_,[],[]=>True
 |k,c::cs,v::vs=>Go1 Z k c v∧Jv Z (k+1) cs vs
 |_,_,_=>False
theorem Jv.of {Z:V}:∀ (cs:List gG) (vs:List Value) (k:Nat),cs.length=vs.length→(∀ i c v,cs[i]? =some c→vs[i]? =some v→Go1 Z (k+i) c v)→Jv Z k cs vs
 |[],[],_,_,_=>trivial
 |c::cs,v::vs,k,hl,h=>⟨h 0 c v rfl rfl,Jv.of cs vs (k+1) (by simpa using hl) fun i c' v' h1 h2=>by
   have:=h (i+1) c' v' (by simpa using h1) (by simpa using h2)
   rwa [show k+(i+1)=k+1+i by omega] at this⟩
theorem Jv.split {Z:V}:∀ (cs:List gG) (vs:List Value) (ds:List gG) (us:List Value) (k:Nat),cs.length=vs.length→Jv Z k (cs++ds) (vs++us)→Jv Z k cs vs∧Jv Z (k+cs.length) ds us
 |[],[],_,_,_,_,h=>⟨trivial,h⟩
 |c::cs,v::vs,ds,us,k,hl,⟨h1,h2⟩=>by
  obtain ⟨g1,g2⟩:=Jv.split cs vs ds us (k+1) (by simpa using hl) h2
  exact ⟨⟨h1,g1⟩,by rw [show k+(c::cs).length=k+1+cs.length by simp;omega];exact g2⟩
theorem Jv.cells {Z:V}:∀ (cs:List gG) (vs:List Value) (k:Nat),Jv Z k cs vs→aj Z (kE k cs).1 vs
 |[],[],_,_=>trivial
 |c::cs,v::vs,k,⟨h1,h2⟩=>⟨h1,Jv.cells cs vs (k+1) h2⟩
theorem ru.go {Y Z:V}:∀ (s:ru) (x:SV) (d:s.den) (v:Value) (k:Nat),s.read st x=some d→eG Y x v→Jv Z k (s.out d).2 v.cells.toList→eG Z (yc k (s.out d)).1 v
 | .one c, .one x,d,v,k,h,hv,hg=>by
   rw [IJ v (bC.one x v hv)] at hg
   exact hg.1
 | .agg l, .agg xs,d,v,k,h,⟨vs,hv,hc⟩,hg=>by
   rw [hv] at hg ⊢
   exact ⟨vs,rfl,Jv.cells _ _ _ hg⟩
 | .one _, .agg _,_,_,_,h,_,_| .agg _, .one _,_,_,_,h,_,_=>by simp [ru.read] at h
theorem ahg {Y Z:V} (hst:Y.ah=st.ah) (hpos:∀ o e r l g,st.ah o=some (.arr e r l g)→0<r.len):∀ (l:List ru) (xs:List SV) (d:mX l) (vs:List Value) (k:Nat),EI st l xs=some d→eH Y xs vs→
 Jv Z k (MG (iR l d)) (vs.flatMap fun v=>v.cells.toList)→eH Z (iP k (iR l d)).1 vs
 |[],[],_,[],_,_,_,_=>trivial
 |s::r,x::xs,d,v::vs,k,h,⟨h1,h2⟩,hg=>by
  rw [EI] at h
  split at h
  · next a b g1 g2=>
    cases h
    have hl:=Gp.length _ _ _ (ru.aiZ hst hpos s x a v g1 h1)
    obtain ⟨k1,k2⟩:=Jv.split _ _ _ _ k hl hg
    exact ⟨ru.go s x a v k g1 h1 k1,ahg hst hpos r xs b vs _ g2 h2 k2⟩
  · cases h
 |[],_::_,_,_,_,h,_,_=>by simp [EI] at h
 |_::_,[],_,_,_,h,_,_=>by simp [EI] at h
theorem aaU:∀ (l:List ig) (xs:List Cell) (d:mF l),kF l xs=some d→xs.flatMap Cell.refs=[]→(iG l d).flatMap Cell.refs=[]
 |[],[],_,_,_=>rfl
 |c::r,x::xs,d,h,hx=>by
  rw [kF] at h
  split at h
  · next a b g1 g2=>
    cases h
    rw [List.flatMap_cons,List.append_eq_nil_iff] at hx
    show (c.cell a::iG r b).flatMap Cell.refs=[]
    rw [List.flatMap_cons,ig.ahf c x a g1 hx.1,aaU r xs b g2 hx.2,List.append_nil]
  · cases h
 |[],_::_,_,h,_=>by simp [kF] at h
 |_::_,[],_,h,_=>by simp [kF] at h
theorem MH:∀ (sh:List gX) (i:Nat) (b:mr sh),KG st i sh=some b→∀ (j:Nat) (e:Eff),(iU sh b)[j]? =some e→
 e= .lose∨∃ l cs cs0,sh[j]? =some (.ptr l)∧e= .var cs∧st.ah ((i+j)*64+48)=some (.var cs0)∧cs0.flatMap Cell.refs=[]∧cs.flatMap Cell.refs=[]∧∀ (X:V) vs,aj X cs0 vs→aj X cs vs
 |[],_,_,_,j,e,he=>by simp [iU] at he
 | .ptr l::r,i,b,h,j,e,he=>by
   rw [KG] at h
   split at h
   · next cs b' hx hb=>
     split at h
     · next a hr ha=>
       cases h
       cases j with
       |zero=>
        simp [iU] at he
        subst he
        exact .inr ⟨l,_,cs,rfl,rfl,by simpa using hx,hr,aaU _ _ _ ha hr,fun X vs hc=>Gl _ _ _ _ ha hc⟩
       |succ j=>
        rcases MH r (i+1) b' hb j e (by simpa [iU] using he) with h|⟨l,cs',cs0,h1,h2,h3,h4⟩
        · exact .inl h
        · exact .inr ⟨l,cs',cs0,by simpa using h1,h2,by rw [show i+(j+1)=i+1+j by omega];exact h3,h4⟩
     · cases h
   · cases h
 | .p _::r,i,b,h,j,e,he| .own _ _::r,i,b,h,j,e,he=>by
   rw [KG] at h
   cases j with
   |zero=>simp [iU] at he;exact .inl he.symm
   |succ j=>
    rcases MH r (i+1) b h j e (by simpa [iU] using he) with h|⟨l,cs',cs0,h1,h2,h3,h4⟩
    · exact .inl h
    · exact .inr ⟨l,cs',cs0,by simpa using h1,h2,by rw [show i+(j+1)=i+1+j by omega];exact h3,h4⟩
theorem adG:∀ {sh:List gX} {xs:List Arg} {d:jP sh},iT sh xs=some d→∀ (j:Nat) (l:List ig),sh[j]? =some (.ptr l)→∃ cs,xs[j]? =some (.ptr cs)
 |[],[],_,_,j,l,h=>by simp at h
 |s::r,x::xs,d,h,j,l,hj=>by
  rw [iT] at h
  split at h
  · next a b h1 h2=>
    cases j with
    |zero=>
     simp at hj
     subst hj
     cases x with
     |ptr cs=>exact ⟨cs,rfl⟩
     |_=>simp [gX.read] at h1
    |succ j=>
     obtain ⟨cs,hc⟩:=adG h2 j l (by simpa using hj)
     exact ⟨cs,by simpa using hc⟩
  · cases h
 |[],_::_,_,h,_,_,_=>by simp [iT] at h
 |_::_,[],_,h,_,_,_=>by simp [iT] at h
theorem amU {sh:List gX} {b:mr sh} (hb:KG st 0 sh=some b) {q:Nat} {y:aQ} (h:lQ (iU sh b) q=some y):
 q%64=48∧∃ l cs cs0,sh[q / 64]? =some (.ptr l)∧y= .var cs∧st.ah q=some (.var cs0)∧cs0.flatMap Cell.refs=[]∧cs.flatMap Cell.refs=[]∧∀ (X:V) vs,aj X cs0 vs→aj X cs vs:=by
 unfold lQ at h
 split at h
 · next e r l he=>
   rcases MH sh 0 b hb _ _ he with h'|⟨_,_,_,_,h',_⟩<;>cases h'
 · next cs he=>
   split at h
   · next hm=>
     have hm':=Nat.eq_of_beq_eq_true hm
     cases h
     rcases MH sh 0 b hb _ _ he with h'|⟨l,cs',cs0,h1,h2,h3,h4⟩
     · cases h'
     · cases h2
       refine ⟨hm',l,_,cs0,h1,rfl,?_,h4⟩
       rw [show q=(0+q / 64)*64+48 by omega]
       exact h3
   · cases h
 · cases h
def gX.uH:(s:gX)→s.den→Prop
 | .p s,x=>s.uH x
 | .own _ r,(l:List r.den)=>∀ x∈l,r.uH x
 | .ptr l,x=>Zk l x
def MI:(l:List gX)→jP l→Prop
 |[],_=>True
 |s::r,x=>s.uH x.1∧MI r x.2
theorem jb.Zl {X:V} (s:jb) (x:Arg) (d:s.den) (v:Value) (h:s.read x=some d) (hr:rD X x v):s.uH d:=
 (EH (X:=X) [s] (d,()) [v] ⟨jb.weak s x d v h hr,trivial⟩).1
theorem Xg {X:V} {args:List Arg} (ho:∀ o x,dW args o=some x→cZ X o x):∀ (sh:List gX) (xs:List Arg) (d:jP sh) (vs:List Value) (i:Nat),(∀ j a,xs[j]? =some a→args[i+j]? =some a)→
 iT sh xs=some d→zi X i xs vs→MI sh d
 |[],[],_,_,_,_,_,_=>trivial
 |s::r,x::xs,d,v::vs,i,hj,h,⟨hv,hvs⟩=>by
  rw [iT] at h
  split at h
  · next a b h1 h2=>
    cases h
    refine ⟨?_,Xg ho r xs b vs (i+1) (fun j c hc=>by have:=hj (j+1) c (by simpa using hc);rwa [show i+(j+1)=i+1+j by omega] at this) h2 hvs⟩
    have hx:args[i]? =some x:=hj 0 x rfl
    cases s with
    |p s=>
     have h1':s.read x=some a:=by simpa [gX.read] using h1
     refine jb.Zl (X:=X) s x a v h1' ?_
     cases x with
     |own _ _ _|ptr _=>cases s<;>simp [jb.read] at h1'
     |_=>exact hv
    |own e r'=>
     cases x with
     |own f s' l=>
      have h1':(match Nat.beq e f with|true=>if h:s'.beq r'=true then some (wG h l) else none|false=>none)=some a:=h1
      split at h1'
      · split at h1'
        · next hb hs=>
          cases h1'
          have hsr:=aK.eq_of_beq s' r' hs
          subst hsr
          have nT:dW args (i*64+49)=some (.arr f s' l false):=by
           unfold dW
           rw [show (i*64+49) / 64=i by omega,hx]
           dsimp only
           rw [show (i*64+49)%64=49 by omega]
          obtain ⟨us,_,_,_,hrow⟩:=ho _ _ nT
          intro y hy
          have hy':y∈l:=hy
          obtain ⟨j,hj1,hj2⟩:=List.mem_iff_getElem.1 hy'
          exact bM.uH s' _ _ (hrow j y (by rw [List.getElem?_eq_getElem hj1,hj2]))
        · cases h1'
      · cases h1'
     |_=>simp [gX.read] at h1
    |ptr l=>
     cases x with
     |ptr cs=>
      have h1':kF l cs=some a:=h1
      have nT:dW args (i*64+48)=some (.var cs):=by
       unfold dW
       rw [show (i*64+48) / 64=i by omega,hx]
       dsimp only
       rw [show (i*64+48)%64=48 by omega]
      obtain ⟨_,arr,_,_,_,hc⟩:=ho _ _ nT
      exact KF l a _ (Gl _ _ _ _ h1' hc)
     |_=>simp [gX.read] at h1
  · cases h
 |[],_::_,_,_,_,_,h,_=>by simp [iT] at h
 |_::_,[],_,_,_,_,h,_=>by simp [iT] at h
theorem Ld:∀ (l:List gX) (d:jP l),(vz l d).length=l.length
 |[],_=>rfl
 |_::r,d=>by simp [vz,Ld r d.2]
theorem Out.anY (rs:List (Bool×List gG)) (k:Nat):((⟨rs,none⟩:Out).take k).2=(iP k rs).2:=by
 unfold Out.take
 dsimp only
 split
 · next h=>rw [h]
 · next h=>rw [h]
theorem Out.anZ (rs:List (Bool×List gG)) (k:Nat):((⟨rs,none⟩:Out).take k).1=(match (iP k rs).1 with|[v]=>AV.sv v|vs=> .ng vs):=by
 unfold Out.take
 dsimp only
 split
 · next h=>rw [h]
 · next vs δ hne h=>
   rw [h]
   dsimp only
   rcases vs with _|⟨v,_|⟨v2,r⟩⟩
   · rfl
   · exact (hne v rfl).elim
   · rfl
theorem arA {args:List Arg} {S:Nat→Prop} {sh:List gX} {dU:List ru} {x:jP sh} (hx:iT sh args=some x) {d:mX dU} {b:mr sh} {k:Nat} {vs:List SV} {us:List Value}
 (hR:Rel w (wS (dW args) γ) (Xf args γ S) γ' st a w') (hrs:eH (ay w (Xf args γ S) γ' st w') vs us) (hnd:AX (DW dU vs)=true) (hrd:EI st dU vs=some d) (hbk:KG st 0 sh=some b)
 (hap:∀ o x,look ((⟨iR dU d,none⟩:Out).take k).2 o=some x→lQ (iU sh b) o=none):
 ∃ γ2,bI ⟨w',w.heap.size,qx S args (iU sh b) γ,γ2,look ((⟨iR dU d,none⟩:Out).take k).2⟩ ((⟨iR dU d,none⟩:Out).take k).1 (if h:us.toArray.size=1 then us.toArray[0] else .tuple us.toArray)∧
   (∀ o x,look ((⟨iR dU d,none⟩:Out).take k).2 o=some x→cZ ⟨w',w.heap.size,qx S args (iU sh b) γ,γ2,look ((⟨iR dU d,none⟩:Out).take k).2⟩ o x∧
     ∀ b',blk (γ2 o)=some b'→b'<w'.heap.size∧(w.heap.size≤b'∨wS (dW args) γ b')∧∀ q y,lQ (iU sh b) q=some y→blk (γ q)≠some b')∧
   (∀ o x q y b',look ((⟨iR dU d,none⟩:Out).take k).2 o=some x→look ((⟨iR dU d,none⟩:Out).take k).2 q=some y→o≠q→blk (γ2 o)=some b'→blk (γ2 q)≠some b')∧
   (∀ o x,lQ (iU sh b) o=some x→γ2 o=γ o∧cZ ⟨w',w.heap.size,qx S args (iU sh b) γ,γ2,look ((⟨iR dU d,none⟩:Out).take k).2⟩ o x):=by
 rw [Out.anY] at hap ⊢
 rw [Out.anZ]
 skip
 let Y:V:=ay w (Xf args γ S) γ' st w'
 let fv:List Value:=us.flatMap fun v=>v.cells.toList
 let aZ:=iU sh b
 let γ2:Nat→Value:=fun p=>match lQ aZ p with|some _=>γ p|none=>fv.getD (p-k) undef
 let Z:V:=⟨w',w.heap.size,qx S args aZ γ,γ2,look (iP k (iR dU d)).2⟩
 have hpos:∀ o e r l g,st.ah o=some (.arr e r l g)→0<r.len:=fun o e r l g ho=>by
  obtain ⟨_,_,h,_⟩:=hR.ah o _ ho
  exact h
 have hF:Gp Y (MG (iR dU d)) fv (DW dU vs):=adF (st:=st) rfl hpos dU vs d us hrd hrs
 have hbq:∀ q y,lQ aZ q=some y→γ' q=γ q∧∃ cs cs0,y= .var cs∧st.ah q=some (.var cs0)∧cs0.flatMap Cell.refs=[]∧cs.flatMap Cell.refs=[]∧∀ (X:V) vs,aj X cs0 vs→aj X cs vs:=by
  intro q y hq
  obtain ⟨hm,l,cs,cs0,h1,h2,h3,h4,h5,h6⟩:=amU hbk hq
  refine ⟨?_,cs,cs0,h2,h3,h4,h5,h6⟩
  obtain ⟨ci,hci⟩:=adG hx _ l h1
  have ho:dW args q=some (.var ci):=by
   unfold dW
   rw [hci]
   dsimp only
   rw [hm]
  have hN:(Xf args γ S).N q=some (γ q):=by
   show afN args γ q=_
   unfold afN
   rw [ho]
  exact hR.pin q _ _ hN h3
 have hG:∀ p X,look (iP k (iR dU d)).2 p=some X→∃ i e r l fr,p=k+i∧(MG (iR dU d))[i]? =some (.own e r l fr)∧X= .arr e r l fr∧0<r.len∧
  ((∃ o g,(DW dU vs)[i]? =some (some o)∧st.ah o=some (.arr e r l g)∧NT fr g=true∧γ2 p=γ' o∧(γ2 p).oneCell'=true)∨(l=[]∧γ2 p= .slice none 0 0)):=by
  intro p X hp
  obtain ⟨i,e,r,l,fr,h1,h2,h3⟩:=(Dw _ k p X).1 hp
  obtain ⟨v,n,g1,g2,hr,hv⟩:=Gp.get _ _ _ i _ hF h2
  have hγ:γ2 p=v:=by
   show (match lQ aZ p with|some _=>γ p|none=>fv.getD (p-k) undef)=v
   rw [hap p X hp]
   dsimp only
   rw [h1,show k+i-k=i by omega,List.getD_eq_getElem?_getD,g1]
   rfl
  refine ⟨i,e,r,l,fr,h1,h2,h3,hr,?_⟩
  rcases hv with ⟨o,g,hn,ho,hb,hv,h1c⟩|⟨hl,hv⟩
  · exact .inl ⟨o,g,by rw [g2,hn],ho,hb,hγ.trans hv,by rw [hγ];exact h1c⟩
  · exact .inr ⟨hl,hγ.trans hv⟩
 have IW:∀ b',Y.foot b'→Z.foot b':=by
  intro b' hb'
  refine ⟨hb'.1,fun hlt=>⟨hb'.2.1 hlt,fun q y hq=>?_⟩,fun p X hp=>?_⟩
  · obtain ⟨hγ,cs,cs0,_,h3,_⟩:=hbq q y hq
    rw [← hγ]
    exact hb'.2.2 q _ h3
  · obtain ⟨i,e,r,l,fr,_,_,_,_,hc⟩:=hG p X hp
    show blk (γ2 p)≠some b'
    rcases hc with ⟨o,g,_,ho,_,hγ,_⟩|⟨_,hγ⟩
    · rw [hγ];exact hb'.2.2 o _ ho
    · rw [hγ];intro h;cases h
 have amV:∀ fr b',Y.dM fr b'→Z.dM fr b':=fun fr b' h=>⟨IW b' h.1,h.2⟩
 have hgo:Jv Z k (MG (iR dU d)) fv:=by
  refine Jv.of _ _ _ (Gp.length _ _ _ hF) fun i c v hc hv=>?_
  obtain ⟨v',n,g1,g2,g3⟩:=Gp.get _ _ _ i c hF hc
  rw [hv] at g1
  cases g1
  cases c with
  |plain x=>
   exact (Ho (Y:=Y) (Z:=Z) rfl amV [x] [v] (by simpa using g3.2) ⟨g3.1,trivial⟩).1
  |own e r l fr=>
   have hp:look (iP k (iR dU d)).2 (k+i)=some (.arr e r l fr):=(Dw _ k _ _).2 ⟨i,e,r,l,fr,rfl,hc,rfl⟩
   have hγ:γ2 (k+i)=v:=by
    show (match lQ aZ (k+i) with|some _=>γ (k+i)|none=>fv.getD (k+i-k) undef)=v
    rw [hap _ _ hp]
    dsimp only
    rw [show k+i-k=i by omega,List.getD_eq_getElem?_getD,hv]
    rfl
   refine ⟨⟨e,r,l,fr,hp⟩,hγ.symm,?_⟩
   rcases g3.2 with ⟨_,_,_,_,_,_,h⟩|⟨_,h⟩
   · exact h
   · rw [h];rfl
 have hsv:eH Z (iP k (iR dU d)).1 us:=ahg (st:=st) (Y:=Y) rfl hpos dU vs d us k hrd hrs hgo
 refine ⟨γ2,?_,fun p X hp=>?_,fun p X q X' b' hp hq hne hb1 hb2=>?_,fun q y hq=>?_⟩
 · have hl:=eH.length _ _ hsv
   match hm:(iP k (iR dU d)).1,us,hsv,hl with
   |[v],[u],hk,_=>exact hk.1
   |[],[],hk,_=>exact ⟨_,by simp,hk⟩
   |v::v2::r,u::u2::us,hk,hl=>exact ⟨_,by simp,hk⟩
   |[],_::_,hk,h4|_::_,[],hk,h4|[_],_::_::_,hk,h4|_::_::_,[_],hk,h4=>simp at h4
 · obtain ⟨i,e,r,l,fr,_,_,rfl,hr,hc⟩:=hG p X hp
   rcases hc with ⟨o,g,_,ho,hb,hγ,_⟩|⟨rfl,hγ⟩
   · have hO:cZ Y o (.arr e r l g):=hR.ah o _ ho
     have hold:∀ b',blk (γ' o)=some b'→fr=true→w.heap.size≤b':=by
      intro b' hb' hfr
      subst hfr
      have hg:g=true:=hb
      subst hg
      obtain ⟨_,_,_,hn,_⟩:=hO
      exact hn b' hb' rfl
     refine ⟨cZ.Zh (Y:=Y) (Z:=Z) hO hγ rfl (fun b' hb'=>⟨IW b' hb'.1,fun hfr=>hb'.2 ?_⟩) hold,fun b' hb'=>?_⟩
     · subst hfr;exact hb
     · rw [hγ] at hb'
       obtain ⟨h1,h2⟩:=hR.lt o _ b' ho hb'
       refine ⟨h1,h2,fun q y hq=>?_⟩
       obtain ⟨hγq,cs,cs0,_,h3,_⟩:=hbq q y hq
       rw [← hγq]
       refine hR.sep o _ q _ b' ho h3 ?_ hb'
       intro e;subst e;rw [ho] at h3;cases h3
   · refine ⟨⟨[],⟨by simp, .inl ⟨hγ,rfl⟩⟩,hr,(fun b' hb'=>by have h0:blk (γ2 p)=some b':=hb';rw [hγ] at h0;cases h0),fun i x hi=>by simp at hi⟩,fun b' hb'=>by rw [hγ] at hb';cases hb'⟩
 · obtain ⟨i,e,r,l,fr,hi,_,_,_,hc⟩:=hG p X hp
   obtain ⟨j,e',r',l',fr',hj,_,_,_,hc'⟩:=hG q X' hq
   rcases hc with ⟨o,g,hn,ho,_,hγ,_⟩|⟨_,hγ⟩
   · rcases hc' with ⟨o',g',hn',ho',_,Q5,_⟩|⟨_,Q5⟩
     · rw [hγ] at hb1
       rw [Q5] at hb2
       have:o≠o':=by
        intro e
        subst e
        have:=Qi hnd _ _ _ hn hn'
        omega
       exact hR.sep o _ o' _ b' ho ho' this hb1 hb2
     · rw [Q5] at hb2;cases hb2
   · rw [hγ] at hb1;cases hb1
 · obtain ⟨hγ,cs,cs0,rfl,h3,h4,h5,h6⟩:=hbq q y hq
   have nC:γ2 q=γ q:=by
    show (match lQ aZ q with|some _=>γ q|none=>fv.getD (q-k) undef)=γ q
    rw [hq]
   refine ⟨nC,?_⟩
   obtain ⟨b',arr,t,k1,k2,k3⟩:=hR.ah q _ h3
   refine ⟨b',arr,t,?_,k2,Ho (Y:=Y) (Z:=Z) rfl amV _ _ h5 (h6 _ _ k3)⟩
   show γ2 q=_
   rw [nC,← hγ]
   exact k1
theorem akU {G:kC} (hE:EnvB P G Θ Γ) (hm:P.follows .mixedOrders=true) {f:FuncId} {fn:Func} {c:Code} (hf:P.funcs[f]? =some fn) (hb:fn.body=some c) (H:Hints)
 {sh:List gX} {dU:List ru} {F:jP sh→Prop×(mX dU×mr sh→Prop)} (hn:Nat.ble sh.length fn.ntmps=true) (hne:∀ x,(F x).1→∃ t,(F x).2 t)
 (hwalk:∀ x,MI sh x→(F x).1→IZ Θ Γ H c (aij Θ fn.results.toList sh dU (F x).2) (Gn fn.ntmps (vz sh x))):jV P G f (qQ sh dU F):=by
 intro args p ρ hcon hp
 unfold qQ at hcon
 split at hcon
 case h_2=>cases hcon
 next x hx=>
 cases hcon
 refine ⟨hne x hp,fun k S γ vs w hG hrep nT hsep hap=>?_⟩
 have hlen:=(MF hx).1
 rw [Ld] at hlen
 have hn':args.length≤fn.ntmps:=by rw [← hlen];simpa [Nat.ble_eq] using hn
 have hin:MI sh x:=Xg (fun o X ho=>(nT o X ho).1) sh args x vs.toList 0 (fun j a h=>by rwa [Nat.zero_add]) hx hrep
 have hR0:=adD (S:=S) fn.ntmps hn' hrep (fun o X ho=>⟨(nT o X ho).1,fun b hb=>((nT o X ho).2 b hb).1⟩) hsep
 have hR1:=hR0.covers (Vj hx fn.ntmps)
 refine calls_of_wp hf hb (Xe ⟨hE,hG,fun b hb=>?_⟩ hm H c _ _ _ _ _ _ hR1 (hwalk x hin hp) ?_)
 · obtain ⟨o,X,ho,hb⟩:=hb
   exact ((nT o X ho).2 b hb).2
 intro e s γ' a' w' he hR
 have hret:∃ (us:List Value) (t:mX dU×mr sh),(fn.results.mapM (KE a'.tmps)).run P w'= .ok us.toArray w'∧(F x).2 t∧∃ γ2,
  bI ⟨w',w.heap.size,qx S args (iU sh t.2) γ,γ2,look ((⟨iR dU t.1,none⟩:Out).take k).2⟩ ((⟨iR dU t.1,none⟩:Out).take k).1 (if h:us.toArray.size=1 then us.toArray[0] else .tuple us.toArray)∧
  (∀ o x',look ((⟨iR dU t.1,none⟩:Out).take k).2 o=some x'→cZ ⟨w',w.heap.size,qx S args (iU sh t.2) γ,γ2,look ((⟨iR dU t.1,none⟩:Out).take k).2⟩ o x'∧
    ∀ b,blk (γ2 o)=some b→b<w'.heap.size∧(w.heap.size≤b∨wS (dW args) γ b)∧∀ q y,lQ (iU sh t.2) q=some y→blk (γ q)≠some b)∧
  (∀ o x' q y b,look ((⟨iR dU t.1,none⟩:Out).take k).2 o=some x'→look ((⟨iR dU t.1,none⟩:Out).take k).2 q=some y→o≠q→blk (γ2 o)=some b→blk (γ2 q)≠some b)∧
  (∀ o x',lQ (iU sh t.2) o=some x'→γ2 o=γ o∧cZ ⟨w',w.heap.size,qx S args (iU sh t.2) γ,γ2,look ((⟨iR dU t.1,none⟩:Out).take k).2⟩ o x'):=by
  have he':(e= .normal∨e= .ret)∧aij Θ fn.results.toList sh dU (F x).2 .ret s:=by
   cases e with
   |normal=>exact ⟨.inl rfl,he⟩
   |ret=>exact ⟨.inr rfl,he⟩
   |_=>exact he.elim
  have he2:=he'.2
  simp only [aij] at he2
  split at he2
  · next svs asV=>
    split at he2
    · next vs' hvs'=>
      split at he2
      · next d b hnd hd hb'=>
        have hRf:=hR.freeze (adC s (DW dU svs))
        obtain ⟨us,hus,hrs⟩:=NV hE.types hRf _ _ hvs'
        refine ⟨us,(d,b),?_,he2,arA hx hRf hrs hnd hd hb' (hap (d,b) he2)⟩
        rw [Array.mapM_eq_mapM_toList,Sem.run_map,hus]
        rfl
      · exact he2.elim
    · exact he2.elim
  · exact he2.elim
 obtain ⟨us,t,hus,ht,γ2,h1,h2,h3,h4⟩:=hret
 have hfin:bodyPost P fn (fun e w'=>∃ t,(F x).2 t∧Pv S args γ w k ⟨iR dU t.1,none⟩ (iU sh t.2) e w') .ret a' w':=by
  refine ⟨hR.defers,if h:us.toArray.size=1 then us.toArray[0] else .tuple us.toArray,?_,t,ht,_,γ2,rfl,hR.os,hR.tape,hR.output,hR.grow,hR.kept,h1,h2,h3,h4⟩
  rw [TJ,Sem.run_bind,hus]
  simp only [Result.andThen_ok,Sem.run_pure]
 cases e with
 |normal=>exact hfin
 |ret=>exact hfin
 |_=>exact he.elim
def aik (rv:List ResultVar) (l:List ig) (K:mF l→Prop) (e:Exit) (st:St):Prop:=
 match e with
 | .normal| .ret=>match rv with
   |[.tmp t]=>match st.tmps t with
    | .cO o off=>match Nat.beq off 0,(st.freeze (PG st)).ah o with
      |true,some (.var cs)=>match cs.flatMap Cell.refs,kF l cs with
       |[],some d=>K d
       |_,_=>False
      |_,_=>False
    |_=>False
   |_=>False
 |_=>False
def loses (sh:List gX):List Eff:=sh.map fun _=> .lose
def an0 (sh:List gX) (l:List ig) (F:jP sh→Prop×(mF l→Prop)):IA:=fun args=>
 match iT sh args with
 |some x=>some ((F x).1,⟨mF l,(F x).2,fun t=>⟨[],some (iG l t)⟩,fun _=>loses sh⟩)
 |none=>none
theorem TL (sh:List gX) (q:Nat):lQ (loses sh) q=none:=by
 unfold lQ loses
 rw [List.getElem?_map]
 cases sh[q / 64]? <;>rfl
theorem Rk:∀ (l:List ig) (cs:List Cell) (d:mF l),kF l cs=some d→cs.flatMap Cell.refs=[]→(iG l d).flatMap Cell.refs=[]
 |[],[],_,_,_=>rfl
 |c::l,x::xs,d,h,hn=>by
  rw [kF] at h
  rw [List.flatMap_cons,List.append_eq_nil_iff] at hn
  split at h
  · next p q hp hq=>
    cases h
    show ((c.cell p)::iG l q).flatMap Cell.refs=[]
    rw [List.flatMap_cons,List.append_eq_nil_iff]
    refine ⟨?_,Rk l xs q hq hn.2⟩
    cases c with
    |ref o=>
     cases x<;>simp [ig.read,Cell.refs] at hp hn
    |_=>rfl
  · cases h
 |[],_::_,_,h,_=>by simp [kF] at h
 |_::_,[],_,h,_=>by simp [kF] at h
theorem apj {G:kC} (hE:EnvB P G Θ Γ) (hm:P.follows .mixedOrders=true) {f:FuncId} {fn:Func} {c:Code} (hf:P.funcs[f]? =some fn) (hb:fn.body=some c) (H:Hints)
 {sh:List gX} {l:List ig} {F:jP sh→Prop×(mF l→Prop)} (hn:Nat.ble sh.length fn.ntmps=true) (hne:∀ x,(F x).1→∃ t,(F x).2 t)
 (hwalk:∀ x,MI sh x→(F x).1→IZ Θ Γ H c (aik fn.results.toList l (F x).2) (Gn fn.ntmps (vz sh x))):jV P G f (an0 sh l F):=by
 intro args p ρ hcon hp
 unfold an0 at hcon
 split at hcon
 case h_2=>cases hcon
 next x hx=>
 cases hcon
 refine ⟨hne x hp,fun k S γ vs w hG hrep nT hsep hap=>?_⟩
 have hlen:=(MF hx).1
 rw [Ld] at hlen
 have hn':args.length≤fn.ntmps:=by rw [← hlen];simpa [Nat.ble_eq] using hn
 have hin:MI sh x:=Xg (fun o X ho=>(nT o X ho).1) sh args x vs.toList 0 (fun j a h=>by rwa [Nat.zero_add]) hx hrep
 have hR0:=adD (S:=S) fn.ntmps hn' hrep (fun o X ho=>⟨(nT o X ho).1,fun b hb=>((nT o X ho).2 b hb).1⟩) hsep
 have hR1:=hR0.covers (Vj hx fn.ntmps)
 refine calls_of_wp hf hb (Xe ⟨hE,hG,fun b hb=>?_⟩ hm H c _ _ _ _ _ _ hR1 (hwalk x hin hp) ?_)
 · obtain ⟨o,X,ho,hb⟩:=hb
   exact ((nT o X ho).2 b hb).2
 intro e s γ' a' w' he hR
 have he':aik fn.results.toList l (F x).2 .ret s:=by
  cases e with
  |normal=>exact he
  |ret=>exact he
  |_=>exact he.elim
 have hfin:bodyPost P fn (fun e w'=>∃ t,(F x).2 t∧Pv S args γ w k ⟨[],some (iG l t)⟩ (loses sh) e w') .ret a' w':=by
  simp only [aik] at he'
  split at he'
  case h_2=>exact he'.elim
  next t hrv=>
  split at he'
  case h_2=>exact he'.elim
  next o off Xa=>
  split at he'
  case h_2=>exact he'.elim
  next cs hoff hcs=>
  split at he'
  case h_2=>exact he'.elim
  next d hnr hd=>
  have hoff:=Nat.eq_of_beq_eq_true hoff
  subst hoff
  have hRf:=hR.freeze (PG s)
  have hv:=hR.tmps t
  rw [Xa] at hv
  obtain ⟨b,cs0,_,hγ,hval⟩:=hv
  obtain ⟨b',arr,ty,g1,g2,g3⟩:=hRf.ah o _ hcs
  have g1:γ' o= .pointer (some ⟨b',0,none⟩):=g1
  have hγ:γ' o= .pointer (some ⟨b,0,none⟩):=hγ
  rw [hγ] at g1
  cases g1
  have hblk:blk (γ' o)=some b:=by rw [hγ];rfl
  have hlt:=hRf.lt o _ b hcs hblk
  let γ2:Nat→Value:=fun _=>γ' o
  let Z:V:=⟨w',w.heap.size,qx S args (loses sh) γ,γ2,look (Out.take k ⟨[],some (iG l d)⟩).2⟩
  have hlook:∀ q y,look (Out.take k ⟨[],some (iG l d)⟩).2 q=some y→q=k-1∧y= .var (iG l d):=by
   intro q y hq
   have hmem:=wR _ q y hq
   have:(q,y)=(k-1, .var (iG l d)):=by simpa [Out.take] using hmem
   exact ⟨congrArg Prod.fst this,congrArg Prod.snd this⟩
  have IW:∀ fr b',(ay w (Xf args γ S) γ' (s.freeze (PG s)) w').dM fr b'→Z.dM fr b':=by
   intro fr b' hb'
   refine ⟨⟨hb'.1.1,fun hlt'=>⟨hb'.1.2.1 hlt',fun q y hq=>by rw [TL] at hq;cases hq⟩,fun q y hq=>?_⟩,hb'.2⟩
   exact hb'.1.2.2 o _ hcs
  have hcells:aj Z (iG l d) arr.toList:=
   Ho (Y:=ay w (Xf args γ S) γ' (s.freeze (PG s)) w') (Z:=Z) rfl IW _ _ (Rk l cs d hd hnr) (Gl l cs d _ hd g3)
  have hself:look (Out.take k ⟨[],some (iG l d)⟩).2 (k-1)=some (.var (iG l d)):=by simp [Out.take,look]
  refine ⟨hR.defers,a'.tmps.getD t undef,?_,d,he',_,γ2,rfl,hR.os,hR.tape,hR.output,hR.grow,hR.kept,?_,fun q y hq=>?_,fun q y q' y' b' hq hq' hne'=>?_,fun q y hq=>by rw [TL] at hq;cases hq⟩
  · have:fn.results=#[.tmp t]:=by apply Array.ext';simpa using hrv
    have hmap:(Array.mapM (KE a'.tmps) #[ResultVar.tmp t]).run P w'= .ok #[a'.tmps.getD t undef] w':=by
     rw [Array.mapM_eq_mapM_toList,Sem.run_map]
     simp only [List.mapM_cons,List.mapM_nil,KE]
     rfl
    rw [TJ,this,Sem.run_bind,hmap]
    rfl
  · exact ⟨b,iG l d,hself,hγ,hval⟩
  · obtain ⟨rfl,rfl⟩:=hlook q y hq
    refine ⟨⟨b,arr,ty,hγ,g2,hcells⟩,fun b' hb'=>?_⟩
    have hb':blk (γ' o)=some b':=hb'
    rw [hblk] at hb'
    cases hb'
    exact ⟨hlt.1,hlt.2,fun q y hq=>by rw [TL] at hq;cases hq⟩
  · obtain ⟨rfl,_⟩:=hlook q y hq
    obtain ⟨rfl,_⟩:=hlook q' y' hq'
    exact (hne' rfl).elim
 cases e with
 |normal=>exact hfin
 |ret=>exact hfin
 |_=>exact he.elim
end Go.Fw
namespace Go.Fw
open Go
def CT.isZero:CT→Value→Bool
 | .int k, .int l n=>decide (k=l)&&decide (n=0)
 | .bool, .bool b=>!b
 | .str, .string s=>s.data.toList.isEmpty
 | .sl _ _, .slice none 0 0=>true
 |_,_=>false
def aK.Rl:aK→List Value→Bool
 | .nil,[]=>true
 | .cons c r,v::vs=>c.isZero v&&r.Rl vs
 |_,_=>false
theorem CT.amW:∀ (c:CT) (v:Value),c.isZero v=true→v=c.afE:=by
 intro c v h
 unfold CT.isZero at h
 split at h
 · simp at h;rw [h.1,h.2];rfl
 · simp at h;subst h;rfl
 · next s=>
   obtain ⟨⟨l⟩⟩:=s
   simp at h
   subst h;rfl
 · rfl
 · cases h
theorem aK.adH:∀ (r:aK) (vs:List Value),r.Rl vs=true→vs=r.kZ
 | .nil,[],_=>rfl
 | .cons c r,v::vs,h=>by
   rw [Rl,Bool.and_eq_true] at h
   rw [aK.kZ,CT.amW c v h.1,aK.adH r vs h.2]
 | .nil,_::_,h| .cons _ _,[],h=>by simp [Rl] at h
def ai0:TypeDesc→TypeDesc→Bool
 | .int k, .int l=>decide (k=l)
 | .bool, .bool=>true
 | .string, .string=>true
 | .slice e, .slice f=>Nat.beq e f
 |_,_=>false
theorem amX:∀ (c d:TypeDesc),ai0 c d=true→c=d:=by
 intro c d h
 unfold ai0 at h
 split at h
 · rw [of_decide_eq_true h]
 · rfl
 · rfl
 · rw [Nat.eq_of_beq_eq_true h]
 · cases h
def NW (P:Program):List (Nat×TypeId)→List Field→Bool
 |[],[]=>true
 |(o,t)::r,f::fs=>Nat.beq o f.offset&&Nat.beq t f.type&&(P.info? f.type).isSome&&NW P r fs
 |_,_=>false
theorem aaV {P:Program}:∀ (l:List (Nat×TypeId)) (fs:List Field),NW P l fs=true→l=fs.map (fun f=>(f.offset,f.type))∧∀ f∈fs,(P.info? f.type).isSome=true
 |[],[],_=>⟨rfl,by simp⟩
 |(o,t)::r,f::fs,h=>by
  rw [NW,Bool.and_eq_true,Bool.and_eq_true,Bool.and_eq_true] at h
  obtain ⟨⟨⟨h1,h2⟩,h3⟩,h4⟩:=h
  obtain ⟨e,hall⟩:=aaV r fs h4
  refine ⟨by rw [List.map_cons,← e,Nat.eq_of_beq_eq_true h1,Nat.eq_of_beq_eq_true h2],fun g hg=>?_⟩
  rcases List.mem_cons.1 hg with rfl|hg
  · exact h3
  · exact hall g hg
 |[],_::_,h|_::_,[],h=>by simp [NW] at h
def amY (P:Program) (t:TypeId) (ti:TI):Bool:=
 match ti.kind,P.underlying t with
 | .scalar,some d=>match ti.cells.desc with|some c=>ai0 c d|none=>false
 | .str,some .string=>ti.cells.beq (.cons .str .nil)
 | .slice e,some (.slice f)=>Nat.beq e f&&(match ti.cells with| .cons (.sl g _) .nil=>Nat.beq g e|_=>false)
 | .struct fs,some (.struct AY)=>NW P fs AY.toList
 |_,_=>false
def akV (ti:TI) (z:Value):Bool:=match ti.kind with
 | .struct _=>true
 |_=>z.oneCell'
def afO (P:Program) (t:TypeId) (ti:TI):Bool:=
 match P.info? t with
 |some i=>match i.zero with
  |some z=>Nat.beq i.size ti.cells.len&&Nat.beq i.bytes ti.bytes&&ti.cells.Rl z.cells.toList&&akV ti z&&amY P t ti&&Nat.ble ti.bytes 4096&&(!ti.cmp||als P t ti.cells)
  |none=>false
 |none=>false
theorem l7.an1 {P:Program} {t:TypeId} {ti:TI} (h:afO P t ti=true):l7 P t ti:=by
 unfold afO at h
 split at h
 · next i hi=>
   split at h
   · next z hz=>
     simp only [Bool.and_eq_true] at h
     obtain ⟨⟨⟨⟨⟨⟨h1,h2⟩,h3⟩,h4⟩,h5⟩,h6⟩,h7⟩:=h
     refine ⟨⟨i,z,hi,Nat.eq_of_beq_eq_true h1,Nat.eq_of_beq_eq_true h2,hz,aK.adH _ _ h3,fun hagg=>?_⟩,?_,by simpa [Nat.ble_eq] using h6,fun e w s u X xs ys vs us b hf hx hy he=>apc (by rw [e] at h7;simpa using h7) w s u X xs ys vs us b hf hx hy he⟩
     · unfold akV at h4
       unfold TI.agg at hagg
       split at h4
       · next hk=>rw [hk] at hagg;cases hagg
       · exact IJ z h4
     · unfold amY at h5
       split at h5
       · next d hk hu=>
         rw [hk]
         split at h5
         · next c hc=>exact ⟨d,by rw [hc,amX c d h5],hu⟩
         · cases h5
       · next hk hu=>rw [hk];exact ⟨hu,aK.eq_of_beq _ _ h5⟩
       · next e f hk hu=>
         rw [hk]
         rw [Bool.and_eq_true] at h5
         have hef:=Nat.eq_of_beq_eq_true h5.1
         subst hef
         refine ⟨hu,?_⟩
         have h52:=h5.2
         split at h52
         · next g r hg=>exact ⟨r,by rw [hg,Nat.eq_of_beq_eq_true h52]⟩
         · cases h52
       · next fs AY hk hu=>
         rw [hk]
         obtain ⟨e,hall⟩:=aaV _ _ h5
         exact ⟨AY,hu,e,hall⟩
       · cases h5
   · cases h
 · cases h
def Rn (P:Program):List (Nat×TI)→Bool
 |[]=>true
 |(t,ti)::r=>afO P t ti&&Rn P r
theorem ai1 {P:Program}:∀ {l:List (Nat×TI)},Rn P l=true→∀ t ti,adz l t=some ti→l7 P t ti
 |[],_,t,ti,h=>by cases h
 |(i,x)::r,hc,t,ti,h=>by
  rw [Rn,Bool.and_eq_true] at hc
  rw [adz] at h
  cases hb:Nat.beq t i with
  |true=>rw [hb] at h;cases h;rw [Nat.eq_of_beq_eq_true hb];exact .an1 hc.1
  |false=>rw [hb] at h;exact ai1 hc.2 t ti h
def Zm (fn:Func):Bool:=fn.body.isSome&&!(fn.name== "runtime.NumGoroutine")
theorem sF {P:Program} {f:FuncId} {fn:Func} (hf:P.funcs[f]? =some fn) (hc:Zm fn=true):oI P f:=by
 intro args w
 unfold Zm at hc
 rw [Bool.and_eq_true] at hc
 have h1:(fn.name== "runtime.NumGoroutine")=false:=by simpa using hc.2
 have h2:fn.body.isNone=false:=by cases hb:fn.body with|none=>rw [hb] at hc;simp at hc|some _=>rfl
 unfold callFunc
 simp only [Sem.run_bind,run_program,Result.andThen_ok,hf,h1,h2,Bool.false_eq_true,if_false,Sem.run_pure]
def amZ (P:Program) (G:kC) (f:FuncId):La→Prop
 | .pure c=>qX P G f c∧oI P f
 | .eff _ c=>jV P G f c∧oI P f
theorem am0 {P:Program} {G:kC} {Θ:jC} (hT:∀ t ti,Θ t=some ti→l7 P t ti):∀ {l:List (Nat×La)},(∀ x∈l,amZ P G x.1 x.2)→EnvB P G Θ (LZ l)
 |[],_=>⟨hT,(fun f con h=>by cases h),(fun f ms con h=>by cases h)⟩
 |(i,c)::r,h=>by
  have ih:=am0 (G:=G) hT fun x hx=>h x (List.mem_cons_of_mem _ hx)
  refine ⟨hT,fun f con hf=>?_,fun f ms con hf=>?_⟩
  · rw [LZ] at hf
    cases hb:Nat.beq f i with
    |true=>rw [hb] at hf;cases hf;rw [Nat.eq_of_beq_eq_true hb];exact h (i, .pure con) List.mem_cons_self
    |false=>rw [hb] at hf;exact ih.cons f con hf
  · rw [LZ] at hf
    cases hb:Nat.beq f i with
    |true=>rw [hb] at hf;cases hf;rw [Nat.eq_of_beq_eq_true hb];exact h (i, .eff ms con) List.mem_cons_self
    |false=>rw [hb] at hf;exact ih.aif f ms con hf
end Go.Fw
namespace Go.Fw
open Go
structure PA where
 n:Nat
 sh:List jb
 dU:List sQ
 F:mZ sh→Prop×xA dU
structure XA where
 n:Nat
 sh:List gX
 dU:List ru
 F:jP sh→Prop×(mX dU×mr sh→Prop)
structure QA where
 n:Nat
 sh:List gX
 dU:List ig
 F:jP sh→Prop×(mF dU→Prop)
def PA.e (q:PA):Nat×La:=(q.n, .pure (FW q.sh q.dU q.F))
def XA.e (q:XA):Nat×La:=(q.n, .eff (Dt q.sh) (qQ q.sh q.dU q.F))
def QA.e (q:QA):Nat×La:=(q.n, .eff (Dt q.sh) (an0 q.sh q.dU q.F))
def adI (P:Program) (G:kC) (x:Nat×La):Prop:=amZ P G x.1 x.2
def ai2 (P:Program) (G:kC):List (Nat×La)→Prop
 |[]=>True
 |x::l=>adI P G x∧ai2 P G l
theorem an2 {P:Program} {G:kC} {l':List (Nat×TI)} (hT:Rn P l'=true) {l:List (Nat×La)} (h:ai2 P G l):EnvB P G (adz l') (LZ l):=
 am0 (ai1 hT) (by
  induction l with
  |nil=>exact fun x hx=>by cases hx
  |cons y l ih=>exact List.forall_mem_cons.2 ⟨h.1,ih h.2⟩)
def afP:(l:List ig)→(mF l→Prop)→Prop
 |[],p=>p ()
 |c::r,p=>∀ x:c.den,afP r fun y=>p (x,y)
theorem Ro:∀ {l:List ig} {p:mF l→Prop},afP l p→∀ x,p x
 |[],_,h,()=>h
 |_::_,_,h,(x,y)=>Ro (h x) y
def alO:(l:List (List ig))→(DV l→Prop)→Prop
 |[],p=>p ()
 |c::r,p=>afP c fun x=>alO r fun y=>p (x,y)
theorem ai3:∀ {l:List (List ig)} {p:DV l→Prop},alO l p→∀ x,p x
 |[],_,h,()=>h
 |_::_,_,h,(x,y)=>ai3 (Ro h x) y
def an3:(s:jb)→(s.den→Prop)→Prop
 | .v (.one c),p=>∀ x:c.den,p x
 | .v (.agg l),p=>afP l p
 | .kp l,p=>afP l p
 | .fn _ l,p=>alO l p
theorem akW:∀ {s:jb} {p:s.den→Prop},an3 s p→∀ x,p x
 | .v (.one _),_,h,x=>h x
 | .v (.agg _),_,h,x=>Ro h x
 | .kp _,_,h,x=>Ro h x
 | .fn _ _,_,h,x=>ai3 h x
def alP:(l:List jb)→(mZ l→Prop)→Prop
 |[],p=>p ()
 |s::r,p=>an3 s fun x=>alP r fun y=>p (x,y)
theorem ai4:∀ {l:List jb} {p:mZ l→Prop},alP l p→∀ x,p x
 |[],_,h,()=>h
 |_::_,_,h,(x,y)=>ai4 (akW h x) y
def apT:(s:gX)→(s.den→Prop)→Prop
 | .p s,p=>an3 s p
 | .own _ r,p=>∀ x:List r.den,p x
 | .ptr l,p=>afP l p
theorem apk:∀ {s:gX} {p:s.den→Prop},apT s p→∀ x,p x
 | .p _,_,h,x=>akW h x
 | .own _ _,_,h,x=>h x
 | .ptr _,_,h,x=>Ro h x
def ail:(l:List gX)→(jP l→Prop)→Prop
 |[],p=>p ()
 |s::r,p=>apT s fun x=>ail r fun y=>p (x,y)
theorem abO:∀ {l:List gX} {p:jP l→Prop},ail l p→∀ x,p x
 |[],_,h,()=>h
 |_::_,_,h,(x,y)=>abO (apk h x) y
abbrev LP {α:Type} (x:α) (f:(α→Prop)→(α→Nat)→α→Prop):Prop:=∃ (I:α→Prop),∃ (μ:α→Nat),I x∧∀ (y:α),I y→f I μ y
abbrev NX {σ α:Type} (s:σ) (I:α→Prop) (μ:α→Nat) (x y:α):Prop:=s=s∧I x∧μ x<μ y
def H0:Hints:=hints [] [] [] [] []
def D5 (P:Program) (n:Nat):Func:=match P.funcs[n]? with|some f=>f|none=>default
def KH (P:Program) (n k:Nat):Bool:=P.funcs[n]?.isSome&&Zm (D5 P n)&&Nat.ble k (D5 P n).ntmps
theorem Xh {P:Program} {n k:Nat} (h:KH P n k=true):P.funcs[n]? =some (D5 P n)∧(D5 P n).body=some (codeOf (D5 P n))∧oI P n∧Nat.ble k (D5 P n).ntmps=true:=by
 simp only [KH,Bool.and_eq_true] at h
 obtain ⟨⟨h1,h2⟩,h3⟩:=h
 have e:P.funcs[n]? =some (D5 P n):=by
  unfold D5
  cases hf:P.funcs[n]? with
  |some f=>rfl
  |none=>rw [hf] at h1;cases h1
 refine ⟨e,?_,sF e h2,h3⟩
 have h4:=h2
 unfold Zm at h4
 rw [Bool.and_eq_true] at h4
 unfold codeOf
 cases hb:(D5 P n).body with
 |some c=>rfl
 |none=>rw [hb] at h4;cases h4.1
def PA.goal (q:PA) (g:(xA q.dU→Prop)→Prop) (x:mZ q.sh):Prop:=MB q.sh x→(q.F x).1→g fun r=>r=(q.F x).2
def XA.goal (q:XA) (g:(mX q.dU×mr q.sh→Prop)→Prop) (x:jP q.sh):Prop:=MI q.sh x→(q.F x).1→g (q.F x).2
def QA.goal (q:QA) (g:(mF q.dU→Prop)→Prop) (x:jP q.sh):Prop:=MI q.sh x→(q.F x).1→g (q.F x).2
variable {P:Program} {Θ:jC} {Γ:lF} {G:kC}
theorem PA.ok {q:PA} (hm:P.follows .mixedOrders=true) (hE:EnvB P G Θ Γ) (H:Hints) {p:Prop}
 (hp:(bif KH P q.n q.sh.length then alP q.sh fun x=>q.goal (fun K=>IZ Θ Γ H (codeOf (D5 P q.n)) (adA Θ (D5 P q.n).results.toList q.dU K) (entry (D5 P q.n).ntmps (wU q.sh x))) x else False)=p) (h:p):adI P G q.e:=by
 subst hp
 cases hc:KH P q.n q.sh.length with
 |false=>rw [hc] at h;exact h.elim
 |true=>
  rw [hc] at h
  obtain ⟨h1,h2,h3,h4⟩:=Xh hc
  exact ⟨afK hE hm h1 h2 H h4 fun x hi hx=>ai4 h x hi hx,h3⟩
theorem XA.ok {q:XA} (hm:P.follows .mixedOrders=true) (hE:EnvB P G Θ Γ) (H:Hints) (hne:∀ x,(q.F x).1→∃ t,(q.F x).2 t) {p:Prop}
 (hp:(bif KH P q.n q.sh.length then ail q.sh fun x=>q.goal (fun K=>IZ Θ Γ H (codeOf (D5 P q.n)) (aij Θ (D5 P q.n).results.toList q.sh q.dU K) (Gn (D5 P q.n).ntmps (vz q.sh x))) x else False)=p) (h:p):adI P G q.e:=by
 subst hp
 cases hc:KH P q.n q.sh.length with
 |false=>rw [hc] at h;exact h.elim
 |true=>
  rw [hc] at h
  obtain ⟨h1,h2,h3,h4⟩:=Xh hc
  exact ⟨akU hE hm h1 h2 H h4 hne fun x hi hx=>abO h x hi hx,h3⟩
theorem QA.ok {q:QA} (hm:P.follows .mixedOrders=true) (hE:EnvB P G Θ Γ) (H:Hints) (hne:∀ x,(q.F x).1→∃ t,(q.F x).2 t) {p:Prop}
 (hp:(bif KH P q.n q.sh.length then ail q.sh fun x=>q.goal (fun K=>IZ Θ Γ H (codeOf (D5 P q.n)) (aik (D5 P q.n).results.toList q.dU K) (Gn (D5 P q.n).ntmps (vz q.sh x))) x else False)=p) (h:p):adI P G q.e:=by
 subst hp
 cases hc:KH P q.n q.sh.length with
 |false=>rw [hc] at h;exact h.elim
 |true=>
  rw [hc] at h
  obtain ⟨h1,h2,h3,h4⟩:=Xh hc
  exact ⟨apj hE hm h1 h2 H h4 hne fun x hi hx=>abO h x hi hx,h3⟩
end Go.Fw
namespace Go.Fw
open Go
variable {P:Program} {G:kC} {f:FuncId}
abbrev gZ:List UInt8:=[]
abbrev A8:List (Int×Unit):=[]
theorem qX.weaken {con Xi:Va} (h:qX P G f con) (hc:∀ args p out,Xi args=some (p,out)→p→∃ q,con args=some (q,out)∧q):qX P G f Xi:=by
 intro args p out k S vs w hcon hp hG hrep
 obtain ⟨q,h1,h2⟩:=hc args p out hcon hp
 exact h args q out k S vs w h1 h2 hG hrep
theorem jV.weaken {con Xi:IA} (h:jV P G f con) (hc:∀ args p ρ,Xi args=some (p,ρ)→p→∃ q,con args=some (q,ρ)∧q):jV P G f Xi:=by
 intro args p ρ hcon hp
 obtain ⟨q,h1,h2⟩:=hc args p ρ hcon hp
 exact h args q ρ h1 h2
theorem am1 {sh:List jb} {dU:List sQ} {F:mZ sh→Prop×xA dU} (Fr Fs:Nat→mZ sh→Prop×xA dU) (h0:∀ x,¬ (Fr 0 x).1) (hs:∀ n x,Fr (n+1) x=Fs n x)
 (hf:∀ x,(F x).1→∃ n,(Fr n x).1) (he:∀ n x,(Fr n x).2=(F x).2) (step:∀ n,qX P G f (FW sh dU (Fr n))→qX P G f (FW sh dU (Fs n))):qX P G f (FW sh dU F):=by
 have all:∀ n,qX P G f (FW sh dU (Fr n)):=by
  intro n
  induction n with
  |zero=>
   intro args p out k S vs w hcon hp
   unfold FW MC at hcon
   split at hcon
   · next x _=>
     have e:(Fr 0 x).1=p:=congrArg Prod.fst (Option.some.inj hcon)
     exact absurd (e.symm▸hp) (h0 x)
   · cases hcon
  |succ n ih=>
   have:=step n ih
   have e:Fr (n+1)=Fs n:=funext (hs n)
   rw [e];exact this
 intro args p out k S vs w hcon hp hG hrep
 have MJ:=hcon
 unfold FW MC at MJ
 split at MJ
 · next x hx=>
   have e:=Option.some.inj MJ
   have e1:(F x).1=p:=congrArg Prod.fst e
   obtain ⟨n,hn⟩:=hf x (e1.symm▸hp)
   refine all n args (Fr n x).1 out k S vs w ?_ hn hG hrep
   unfold FW MC
   rw [hx]
   show some ((Fr n x).1,_)=_
   rw [he n x]
   exact congrArg (fun z=>some ((Fr n x).1,z)) (congrArg Prod.snd e)
 · cases MJ
theorem apl {sh:List gX} {dU:List ru} {F:jP sh→Prop×(mX dU×mr sh→Prop)} (Fr Fs:Nat→jP sh→Prop×(mX dU×mr sh→Prop)) (h0:∀ x,¬ (Fr 0 x).1) (hs:∀ n x,Fr (n+1) x=Fs n x)
 (hf:∀ x,(F x).1→∃ n,(Fr n x).1) (he:∀ n x,(Fr n x).2=(F x).2) (step:∀ n,jV P G f (qQ sh dU (Fr n))→jV P G f (qQ sh dU (Fs n))):jV P G f (qQ sh dU F):=by
 have all:∀ n,jV P G f (qQ sh dU (Fr n)):=by
  intro n
  induction n with
  |zero=>
   intro args p ρ hcon hp
   unfold qQ at hcon
   split at hcon
   · next x _=>
     have e:(Fr 0 x).1=p:=congrArg Prod.fst (Option.some.inj hcon)
     exact absurd (e.symm▸hp) (h0 x)
   · cases hcon
  |succ n ih=>
   have:=step n ih
   have e:Fr (n+1)=Fs n:=funext (hs n)
   rw [e];exact this
 intro args p ρ hcon hp
 have MJ:=hcon
 unfold qQ at MJ
 split at MJ
 · next x hx=>
   have e:=Option.some.inj MJ
   have e1:(F x).1=p:=congrArg Prod.fst e
   obtain ⟨n,hn⟩:=hf x (e1.symm▸hp)
   refine all n args (Fr n x).1 ρ ?_ hn
   unfold qQ
   rw [hx]
   show some ((Fr n x).1,_)=_
   rw [he n x]
   exact congrArg (fun z=>some ((Fr n x).1,z)) (congrArg Prod.snd e)
 · cases MJ
end Go.Fw
namespace Go.Fw
open Go
variable {P:Program} {H:Type} {enc:TypeId×Value→H} {w:World}
def aK.app:aK→aK→aK
 | .nil,s=>s
 | .cons c r,s=> .cons c (r.app s)
def aim:(r s:aK)→r.den→s.den→(r.app s).den
 | .nil,_,_,y=>y
 | .cons _ r,s,x,y=>(x.1,aim r s x.2 y)
theorem bM.app {h:Array Obj} {S:Nat→Prop}:∀ (r s:aK) (x:r.den) (y:s.den) (vs us:List Value),bM h S r vs x→bM h S s us y→bM h S (r.app s) (vs++us) (aim r s x y)
 | .nil,s,x,y,vs,us,h1,h2=>by rw [bM] at h1;subst h1;exact h2
 | .cons c r,s,(x,x'),y,vs,us,h1,h2=>by
   rw [bM] at h1
   obtain ⟨v,vs',rfl,g1,g2⟩:=h1
   show bM h S (.cons c (r.app s)) (v::(vs'++us)) (x,aim r s x' y)
   rw [bM]
   exact ⟨v,vs'++us,rfl,g1,bM.app r s x' y vs' us g2 h2⟩
theorem add_add (a:Addr) (h:a.spot=none) (m j:Nat):(a.add m).add j=⟨a.block,a.off+m+j,none⟩:=by
 obtain ⟨b,o,sp⟩:=a
 simp only at h
 subst h
 unfold Addr.add
 by_cases hm:m=0
 · by_cases hj:j=0
   · simp [hm,hj]
   · simp [hm,hj]
 · by_cases hj:j=0
   · simp [hm,hj]
   · simp [hm,hj]
def PL (f:TypeId→Option aK):List Field→Nat→Option aK
 |[],_=>some .nil
 |x::r,off=>match f x.type with
  |some s=>match PL f r (off+s.len),Nat.beq x.offset off with
   |some u,true=>some (s.app u)
   |_,_=>none
  |none=>none
def rowOf (P:Program):Nat→TypeId→Option aK
 |0,_=>none
 |n+1,t=>match P.underlying t with
  |some (.int k)=>some (.cons (.int k) .nil)
  |some .bool=>some (.cons .bool .nil)
  |some .string=>some (.cons .str .nil)
  |some (.slice e)=>match rowOf P n e with
   |some s=>match Nat.beq s.len (P.cellsOf e)&&Nat.ble 1 s.len with
    |true=>some (.cons (.sl e s) .nil)
    |false=>none
   |none=>none
  |some (.struct fs)=>match PL (rowOf P n) fs.toList 0 with
   |some r=>match Nat.beq r.len (P.cellsOf t) with
    |true=>match fs.toList.all fun f=>match rowOf P n f.type with|some s=>Nat.beq s.len (P.cellsOf f.type)|none=>false with
     |true=>some r
     |false=>none
    |false=>none
   |none=>none
  |_=>none
theorem akX {α:Type} {Q:Nat→α→Prop}:∀ (n:Nat),(∀ i,i<n→∃ x,Q i x)→∃ l:List α,l.length=n∧∀ i x,l[i]? =some x→Q i x
 |0,_=>⟨[],rfl,fun i x h=>by simp at h⟩
 |n+1,h=>by
  obtain ⟨l,hl,hq⟩:=akX n fun i hi=>h i (by omega)
  obtain ⟨x,hx⟩:=h n (by omega)
  refine ⟨l++[x],by simp [hl],fun i y hy=>?_⟩
  rcases Nat.lt_or_ge i n with hi|hi
  · rw [List.getElem?_append_left (by omega)] at hy;exact hq i y hy
  · rw [List.getElem?_append_right (by omega)] at hy
    have:i=n:=by
     rcases Nat.lt_or_ge n i with h'|h'
     · rw [List.getElem?_eq_none (by simp;omega)] at hy;cases hy
     · omega
    subst this
    simp [hl] at hy
    rw [← hy];exact hx
theorem akY:∀ (r s:aK),(r.app s).len=r.len+s.len
 | .nil,s=>by simp [aK.app,aK.len]
 | .cons c r,s=>by simp only [aK.app,aK.len,akY r s];omega
theorem adJ {f:TypeId→Option aK} {S:Nat→Prop} {h:Array Obj} (cs:List Value)
 (part:∀ (t:TypeId) (r:aK) (off:Nat),f t=some r→(∃ g:Field,g.type=t∧g.offset=off)→True):∀ (fs:List Field) (off:Nat) (r:aK),PL f fs off=some r→
 (∀ g∈fs,∀ s,f g.type=some s→∃ x,bM h S s ((cs.drop g.offset).take s.len) x)→
 ∃ x,bM h S r ((cs.drop off).take r.len) x
 |[],off,r,hr,_=>by
  cases hr
  exact ⟨(),by rw [bM];simp [aK.len]⟩
 |g::fs,off,r,hr,hall=>by
  rw [PL] at hr
  split at hr
  · next s hs=>
    split at hr
    · next u hu hb=>
      cases hr
      obtain ⟨x,hx⟩:=hall g List.mem_cons_self s hs
      rw [Nat.eq_of_beq_eq_true hb] at hx
      obtain ⟨y,hy⟩:=adJ cs part fs (off+s.len) u hu fun g' hg'=>hall g' (List.mem_cons_of_mem _ hg')
      refine ⟨aim s u x y,?_⟩
      have:=bM.app s u x y _ _ hx hy
      rw [akY]
      have e:(cs.drop off).take (s.len+u.len)=(cs.drop off).take s.len++(cs.drop (off+s.len)).take u.len:=by
       rw [List.take_add,List.drop_drop]
      rw [e];exact this
    · cases hr
  · cases hr
theorem abP:∀ (n:Nat) (t:TypeId) (r:aK),rowOf P n t=some r→∀ (m:Nat) (base:Nat) (spare:Nat→Bool) (held:Bool) (cs:List Value) (x:DataW H×List MemPlace),
 DataW.trod enc P w base spare held m t cs=some x→∃ y,bM w.heap (fun b=>b<w.heap.size) r cs y
 |0,t,r,hr=>by cases hr
 |n+1,t,r,hr=>by
  intro m base spare held cs x hx
  rw [rowOf] at hr
  split at hr
  · next k hu=>
    cases hr
    obtain ⟨i,rfl,_,hwf⟩:=DataW.trod_int hu hx
    simp only [Lit.wf,Bool.and_eq_true,decide_eq_true_eq] at hwf
    exact ⟨(i,()),by rw [bM];exact ⟨_,[],rfl,by rw [jw];exact ⟨rfl,hwf⟩,by rw [bM]⟩⟩
  · next hu=>
    cases hr
    obtain ⟨b,rfl,_⟩:=DataW.trod_bool hu hx
    exact ⟨(b,()),by rw [bM];exact ⟨_,[],rfl,by rw [jw],by rw [bM]⟩⟩
  · next hu=>
    cases hr
    obtain ⟨s,rfl,_,hs⟩:=DataW.trod_string hu hx
    refine ⟨(s.data.toList,()),by rw [bM];exact ⟨_,[],rfl,by rw [jw];exact ⟨by simp,by simpa using hs⟩,by rw [bM]⟩⟩
  · next e hu=>
    split at hr
    · next s hs=>
      split at hr
      · next hb=>
        cases hr
        rw [Bool.and_eq_true] at hb
        have hlen:=Nat.eq_of_beq_eq_true hb.1
        have hpos:1≤s.len:=by simpa [Nat.ble_eq] using hb.2
        rcases DataW.trod_slice hu hx with ⟨rfl,_⟩|⟨a,len,cap,elems,rest,k,_,rfl,_,hbase,hle,hmax,hel,hrow,_,_⟩
        · exact ⟨([],()),by rw [bM];exact ⟨_,[],rfl,by rw [jw];exact ⟨by simp, .inl ⟨rfl,none,0,rfl⟩⟩,by rw [bM]⟩⟩
        · by_cases h0:len=0
          · subst h0
            exact ⟨([],()),by rw [bM];exact ⟨_,[],rfl,by rw [jw];exact ⟨by simp, .inl ⟨rfl,some a,cap,rfl⟩⟩,by rw [bM]⟩⟩
          · have each:∀ i,i<len→∃ (ys:List Value) (z:s.den),w.cells? base (a.add (i*P.cellsOf e)) (P.cellsOf e)=some ys∧bM w.heap (fun b=>b<w.heap.size) s ys z:=by
             intro i hi
             have h1:=hrow i hi
             rw [List.getElem?_eq_getElem (by omega)] at h1
             obtain ⟨ys,hys,hy2⟩:=Option.bind_eq_some_iff.1 h1
             obtain ⟨z,hz⟩:=abP n e s hs k base spare held ys _ hy2
             exact ⟨ys,z,hys,hz⟩
            obtain ⟨ys0,z0,hc0,hz0⟩:=each 0 (by omega)
            obtain ⟨_,hl0,hcell0⟩:=World.cells?_some hc0
            have abQ:=hcell0 0 (by omega)
            simp only [Nat.zero_mul,Addr.add,if_true] at abQ
            have arB:∃ v,ys0[0]? =some v:=⟨ys0[0]'(by omega),by simp [show 0<ys0.length by omega]⟩
            obtain ⟨v0,hv0⟩:=arB
            rw [hv0] at abQ
            unfold World.cell? at abQ
            split at abQ
            · next c ty fz hblk=>
              split at abQ
              · cases abQ
              · next hsp=>
                have hspot:a.spot=none:=by cases h:a.spot with|none=>rfl|some q=>rw [h] at hsp;simp at hsp
                have ha:a=⟨a.block,a.off,none⟩:=by cases a;simp at hspot;rw [hspot]
                have hb':a.block<w.heap.size:=by
                 obtain ⟨hlt,_⟩:=Array.getElem?_eq_some_iff.1 hblk
                 exact hlt
                have rows:∀ i,i<len→∃ z:s.den,bM w.heap (fun b=>b<w.heap.size) s ((c.toList.drop (a.off+i*s.len)).take s.len) z:=by
                 intro i hi
                 obtain ⟨ys,z,hcs,hz⟩:=each i hi
                 obtain ⟨_,hl,hcell⟩:=World.cells?_some hcs
                 refine ⟨z,?_⟩
                 have:(c.toList.drop (a.off+i*s.len)).take s.len=ys:=by
                  refine List.ext_getElem? fun j=>?_
                  rcases Nat.lt_or_ge j s.len with hj|hj
                  · rw [List.getElem?_take_of_lt hj,List.getElem?_drop]
                    have h2:=hcell j (by omega)
                    have hadd:=add_add a hspot (i*P.cellsOf e) j
                    rw [← hlen] at hadd h2
                    rw [hadd] at h2
                    unfold World.cell? at h2
                    simp only [hblk,Option.isSome_none,Bool.false_eq_true,if_false] at h2
                    rw [← h2]
                    simp
                  · rw [List.getElem?_eq_none (by simp;omega),List.getElem?_eq_none (by omega)]
                 rw [this];exact hz
                obtain ⟨l,hll,hlq⟩:=akX len rows
                refine ⟨(l,()),by rw [bM];exact ⟨_,[],rfl,by rw [jw];exact ⟨by omega, .inr ⟨a.block,a.off,cap,c,ty,fz,by rw [hll,← ha],by omega,hb',hblk,hlq⟩⟩,by rw [bM]⟩⟩
            · cases abQ
      · cases hr
    · cases hr
  · next fs hu=>
    split at hr
    · next r' hf=>
      split at hr
      · next hb=>
        split at hr
        · next hall=>
          cases hr
          obtain ⟨xs,k,_,_,hcl,hxl,hparts⟩:=DataW.trod_struct hu hx
          have hlen:=Nat.eq_of_beq_eq_true hb
          have:=adJ (h:=w.heap) (S:=fun b=>b<w.heap.size) cs (fun _ _ _ _ _=>trivial) fs.toList 0 _ hf ?_
          · obtain ⟨y,hy⟩:=this
            refine ⟨y,?_⟩
            rw [List.drop_zero,List.take_of_length_le (by omega)] at hy
            exact hy
          · intro g hg s hs
            have hg2:=List.all_eq_true.1 hall g hg
            rw [hs] at hg2
            have hsl:=Nat.eq_of_beq_eq_true hg2
            obtain ⟨i,hi,hgi⟩:=List.mem_iff_getElem.1 hg
            have hp:=hparts i g (by rw [← hgi];simp [show i<fs.size by simpa using hi])
            rw [List.getElem?_eq_getElem (by simp at hi;omega)] at hp
            rw [hsl]
            exact abP n g.type s hs k base spare held _ _ hp
        · cases hr
      · cases hr
    · cases hr
  · cases hr
def CT.csh:CT→ig
 | .int k=> .int k
 | .bool=> .bool
 | .str=> .str
 | .sl e r=> .sl e r false
def toC:(c:CT)→c.den→c.csh.den
 | .int _,x=>x
 | .bool,x=>x
 | .str,x=>x
 | .sl _ _,x=>x
def aK.shs:aK→List ig
 | .nil=>[]
 | .cons c r=>c.csh::r.shs
def toCs:(r:aK)→r.den→mF r.shs
 | .nil,_=>()
 | .cons c r,x=>(toC c x.1,toCs r x.2)
theorem afQ (X:V):∀ (r:aK) (vs:List Value) (x:r.den),bM X.w.heap (X.dM false) r vs x→aj X (iG r.shs (toCs r x)) vs
 | .nil,vs,x,h=>by rw [bM] at h;subst h;trivial
 | .cons c r,vs,(x,y),h=>by
   rw [bM] at h
   obtain ⟨v,vs',rfl,h1,h2⟩:=h
   refine ⟨?_,afQ X r vs' y h2⟩
   cases c with
   |int k=>exact h1
   |bool=>exact h1
   |str=>exact h1
   |sl e r=>exact h1
def alQ (P:Program) (t:TypeId):Option sQ:=
 match rowOf P 64 t with
 |some r=>match P.underlying t with
  |some (.struct _)=>some (.agg r.shs)
  |some (.array _ _)=>none
  |_=>match r with
   | .cons c .nil=>some (.one c.csh)
   |_=>none
 |none=>none
def NY (P:Program):List TypeId→Option (List jb)
 |[]=>some []
 |t::ts=>match alQ P t,NY P ts with
  |some s,some l=>some (.v s::l)
  |_,_=>none
def start (w:World):V:=⟨w,w.heap.size,fun b=>b<w.heap.size,fun _=>undef,fun _=>none⟩
theorem apm {t:TypeId} {s:sQ} (hs:alQ P t=some s) {base base':Nat} {sp:Nat→Bool} {hd:Bool} {v:Value} {d:DataW H} {p:List MemPlace}
 (ht:DataW.Trod enc P w base sp hd t v d p) (hv:Value.okWide P w .any base' t v):∃ x:s.den,eG (start w) (s.val x) v:=by
 unfold alQ at hs
 split at hs
 · next r hr=>
   obtain ⟨m,hm⟩:=ht
   obtain ⟨y,hy⟩:=abP 64 t r hr m base sp hd _ _ hm
   have hy':bM (start w).w.heap ((start w).dM false) r v.cells.toList y:=
    bM.mono (fun b hb=>⟨⟨⟨hb,fun _=>hb,fun o x hx=>by cases hx⟩,fun e=>by cases e⟩,rfl⟩) r _ y hy
   unfold Value.okWide at hv
   split at hs
   · next fs hu=>
     cases hs
     rw [hu] at hv
     obtain ⟨cs,rfl,_,_⟩:=hv
     exact ⟨toCs r y,cs,rfl,afQ (start w) r _ y hy'⟩
   · cases hs
   · next hns hna=>
     split at hs
     · next c=>
       cases hs
       have hcell:v.cells=#[v]:=by
        cases hv2:v<;>first
         |rfl
         |(exfalso
           rw [hv2] at hv
           split at hv
           · next hu=>exact hns _ hu
           · next hu=>exact hna _ _ hu
           · unfold Go.Cell.okWide at hv
             split at hv<;>first|(rename_i h1 h2;cases h2;done)|(rename_i h2;cases h2;done)|skip
             unfold Go.Cell.ok at hv
             split at hv<;>first|(rename_i h1 h2;cases h2;done)|exact hv)
       have:=afQ (start w) _ _ y hy'
       rw [hcell] at this
       exact ⟨toC c y.1,this.1⟩
     · cases hs
 · cases hs
theorem ai5:∀ (ts:List TypeId) (sh:List jb),NY P ts=some sh→∀ {base base':Nat} {sp:Nat→Bool} {hd:Bool} (vs:List Value) (ds:List (DataW H)) (p:List MemPlace),
 DataW.TrodAll enc P w base sp hd ts vs ds p→(∀ (j:Nat) t v,ts[j]? =some t→vs[j]? =some v→Value.okWide P w .any base' t v)→∃ x:mZ sh,pq (start w) (wU sh x) vs
 |[],sh,hs,_,_,_,_,vs,ds,p,h,_=>by
  cases hs
  cases vs with
  |nil=>exact ⟨(),trivial⟩
  |cons v vs=>cases ds<;>simp [DataW.TrodAll] at h
 |t::ts,sh,hs,base,base',sp,hd,vs,ds,p,h,hok=>by
  rw [NY] at hs
  split at hs
  · next s l h1 h2=>
    cases hs
    cases vs with
    |nil=>cases ds<;>simp [DataW.TrodAll] at h
    |cons v vs=>
     cases ds with
     |nil=>simp [DataW.TrodAll] at h
     |cons d ds=>
      obtain ⟨a,b,g1,g2,_⟩:=h
      obtain ⟨x,hx⟩:=apm h1 g1 (hok 0 t v rfl rfl)
      obtain ⟨y,hy⟩:=ai5 ts l h2 vs ds b g2 fun j t' v' ht' hv'=>hok (j+1) t' v' (by simpa using ht') (by simpa using hv')
      exact ⟨(x,y),hx,hy⟩
  · cases hs
mutual
theorem CT.JM:∀ (c:CT),c.beq c=true
 | .int k=>by simp [CT.beq]
 | .bool=>rfl
 | .str=>rfl
 | .sl e r=>by simp [CT.beq,aK.JM r]
theorem aK.JM:∀ (r:aK),r.beq r=true
 | .nil=>rfl
 | .cons c r=>by simp [aK.beq,CT.JM c,aK.JM r]
end
theorem ahh:∀ (c:ig) (x:c.den),c.read (c.cell x)=some x
 | .int k,x=>by simp [ig.cell,ig.read]
 | .bool,x=>rfl
 | .str,x=>rfl
 | .sl e r fr,l=>by
   simp only [ig.cell,ig.read,Nat.beq_refl]
   have h1:NT fr fr=true:=by cases fr<;>rfl
   have h2:r.beq r=true:=aK.JM r
   rw [h1]
   simp only [Bool.and_self]
   rw [dif_pos h2]
   rfl
 | .nil,x=>rfl
 | .ref o,x=>by simp [ig.cell,ig.read]
 | .junk,x=>rfl
theorem adK:∀ (l:List ig) (x:mF l),kF l (iG l x)=some x
 |[],_=>rfl
 |c::r,x=>by rw [iG,kF,ahh c x.1,adK r x.2]
theorem ai6:∀ (ts:List TypeId) (l:List jb),NY P ts=some l→∀ (x:mZ l),I4 l (wU l x)=some x
 |[],l,h,x=>by cases h;rfl
 |t::ts,l,h,x=>by
  rw [NY] at h
  split at h
  · next s r h1 h2=>
    cases h
    have ih:=ai6 ts r h2 x.2
    cases s with
    |one c=>
     have e:(jb.v (.one c)).read ((jb.v (.one c)).val x.1)=some x.1:=ahh c x.1
     rw [wU,I4,ih,e]
    |agg l=>
     have e:(jb.v (.agg l)).read ((jb.v (.agg l)).val x.1)=some x.1:=adK l x.1
     rw [wU,I4,ih,e]
  · cases h
def afR:Out:=⟨[(false,[.plain (.bool true)])],none⟩
theorem am2 {G:kC} {f:FuncId} {fn:Func} {sh:List jb} {F:mZ sh→Prop×Out} (hcon:qX P G f (MC sh F)) (hsh:NY P fn.params.toList=some sh)
 (hF:∀ x,MB sh x→(F x).1∧(F x).2=afR) (hG:G.ok w) {base base':Nat} {sp:Nat→Bool} {hd:Bool} {args:Array Value} {ds:List (DataW H)} {p:List MemPlace}
 (hA:DataW.TrodAll enc P w base sp hd fn.params.toList args.toList ds p) (hok:∀ (j:Nat) t v,fn.params[j]? =some t→args[j]? =some v→Value.okWide P w .any base' t v):
 Calls P f args w fun e w'=>e= .returned (.bool true)∧w'.os=w.os∧w'.output=w.output∧w.heap.size≤w'.heap.size∧∀ b,b<w.heap.size→w'.heap[b]? =w.heap[b]? :=by
 obtain ⟨x,hx⟩:=ai5 _ _ hsh _ _ _ hA fun j t v ht hv=>hok j t v (by simpa using ht) (by simpa using hv)
 have hin:=EH sh x _ hx
 obtain ⟨hp,ho⟩:=hF x hin
 have hc:MC sh F (wU sh x)=some ((F x).1,afR):=by
  unfold MC
  rw [ai6 _ _ hsh x]
  simp only [← ho]
 refine (hcon (wU sh x) _ _ 0 _ args w hc hp hG hx).mono ?_
 rintro e w' ⟨v,vals,rfl,h1,h2,h3,h4,h5,h6,_,_⟩
 have hv:v= .bool true:=h6
 exact ⟨by rw [hv],h1,h3,h4,h5⟩
theorem an4 {w w':World} (h1:w'.os=w.os) (h3:w'.output=w.output) (h5:∀ b,b<w.heap.size→w'.heap[b]? =w.heap[b]?) (may:MemPlace→Prop):w.keptBut w' may:=by
 refine ⟨h1,h3,fun i hi=>?_⟩
 rw [h5 i hi]
 cases hw:w.heap[i]? with
 |none=>trivial
 |some o=>cases o<;>simp
theorem an5 {w w':World} (h5:∀ b,b<w.heap.size→w'.heap[b]? =w.heap[b]?) {p:MemPlace} (hp:p.block<w.heap.size):w.sameAt w' p:=by
 cases p with
 |cell b off=>
  show w'.cell? _=w.cell? _
  unfold World.cell?
  simp only
  rw [h5 b hp]
 |map b=>exact h5 b hp
end Go.Fw
namespace Go.Fw
open Go
variable {P:Program} {G:kC} {f:FuncId}
theorem aki {args:List Arg} {i:Nat} {x:Arg} {p:Nat} (hp:p / 64≠i):dW (args.set i x) p=dW args p:=by
 unfold dW
 rw [List.getElem?_set_ne (fun h=>hp h.symm)]
theorem Xj {args:List Arg} {i:Nat} {e:TypeId} {r:aK} {l:List r.den} (hi:i<args.length) (p:Nat) (hp:p / 64=i):dW (args.set i (.own e r l)) p=if p=i*64+49 then some (.arr e r l false) else none:=by
 unfold dW
 rw [hp,List.getElem?_set_self hi]
 by_cases h:p=i*64+49
 · subst h
   have:Nat.beq ((i*64+49)%64) 49=true:=by
    have:(i*64+49)%64=49:=by omega
    rw [this];rfl
   simp [this]
 · have:Nat.beq (p%64) 49=false:=by
    cases hb:Nat.beq (p%64) 49 with
    |false=>rfl
    |true=>have:=Nat.eq_of_beq_eq_true hb;omega
   simp [this,h]
theorem akZ {args:List Arg} {i:Nat} {v:SV} (ha:args[i]? =some (.sv v)) (p:Nat) (hp:p / 64=i):dW args p=none:=by
 unfold dW
 rw [hp,ha]
def NZ (γ:Nat→Value) (i:Nat) (o:Nat):Value:=if o=i*64+49 then .slice none 0 0 else γ o
theorem rD.mono {X Y:V} (h:X.le Y):∀ (a:Arg) (v:Value),rD X a v→rD Y a v
 | .sv x,v,H=>eG.mono h x v H
 | .kp cs,v,H=>bI.mono h (.dG cs 0) v H
 | .fn f caps,v,H=>bI.mono h (.fn f caps) v H
 | .own _ _ _,_,H| .ptr _,_,H=>H.elim
theorem NK.mono {X Y:V} (h:X.le Y) (i:Nat):∀ (a:Arg) (v:Value),NK X i a v→NK Y i a v
 | .own _ _ _,v,H=>bC.mono h (.ref (i*64+49)) v H
 | .ptr _,v,H=>bI.mono h (.cO (i*64+48) 0) v H
 | .sv x,v,H=>rD.mono h (.sv x) v H
 | .kp cs,v,H=>rD.mono h (.kp cs) v H
 | .fn f caps,v,H=>rD.mono h (.fn f caps) v H
theorem zi.nil {X Y:V} (h:X.le Y) {e:TypeId} {r:aK}:∀ (args:List Arg) (vs:List Value) (j i:Nat),args[i]? =some (.sv (.one .nil))→
 Y.ah ((j+i)*64+49)=some (.arr e r [] false)→Y.γ ((j+i)*64+49)= .slice none 0 0→zi X j args vs→zi Y j (args.set i (.own e r [])) vs
 |[],[],_,i,ha,_,_,_=>by simp at ha
 |[],_::_,_,_,_,_,_,H=>H.elim
 |_::_,[],_,_,_,_,_,H=>H.elim
 |a::args,v::vs,j,0,ha,ho,hγ,⟨h1,h2⟩=>by
  have ha:a= .sv (.one .nil):=by simpa using ha
  subst ha
  have hv:v= .slice none 0 0:=h1
  refine ⟨⟨⟨e,r,[],false,ho⟩,?_,by rw [hv];rfl⟩,?_⟩
  · rw [hv];exact hγ.symm
  · show zi Y (j+1) args vs
    clear h1 ha ho hγ hv
    generalize j+1=k at h2
    induction args generalizing k vs with
    |nil=>cases vs with
     |nil=>trivial
     |cons _ _=>exact h2.elim
    |cons b args ih=>cases vs with
     |nil=>exact h2.elim
     |cons u vs=>exact ⟨NK.mono h k b u h2.1,ih vs (k+1) h2.2⟩
 |a::args,v::vs,j,i+1,ha,ho,hγ,⟨h1,h2⟩=>by
  have e1:j+(i+1)=j+1+i:=by omega
  rw [e1] at ho hγ
  exact ⟨NK.mono h j a v h1,zi.nil h args vs (j+1) i (by simpa using ha) ho hγ h2⟩
theorem jV.apV {con Xi:IA} (i:Nat) (e:TypeId) (r:aK) (hr:0<r.len) (h:jV P G f con)
 (hc:∀ args p ρ,Xi args=some (p,ρ)→p→args[i]? =some (.sv (.one .nil))∧(∀ t,lQ (ρ.aZ t) (i*64+49)=none)∧∃ q,con (args.set i (.own e r []))=some (q,ρ)∧q):jV P G f Xi:=by
 intro args p ρ hcon hp
 obtain ⟨ha,hF,q,hq1,hq⟩:=hc args p ρ hcon hp
 have hlen:i<args.length:=by
  have:=List.getElem?_eq_some_iff.1 ha
  exact this.1
 obtain ⟨hex,hcall⟩:=h _ q ρ hq1 hq
 refine ⟨hex,fun k S γ vs w hG hrep nT hsep hfree=>?_⟩
 have hO:∀ o,o≠i*64+49→dW (args.set i (.own e r [])) o=dW args o:=by
  intro o ho
  by_cases hd:o / 64=i
  · rw [Xj hlen o hd,akZ ha o hd,if_neg ho]
  · exact aki hd
 have hN:dW (args.set i (.own e r [])) (i*64+49)=some (.arr e r [] false):=by
  rw [Xj hlen _ (by omega),if_pos rfl]
 have hN':dW args (i*64+49)=none:=akZ ha _ (by omega)
 have hγN:NZ γ i (i*64+49)= .slice none 0 0:=if_pos rfl
 have hγ:∀ o,o≠i*64+49→NZ γ i o=γ o:=fun o ho=>if_neg ho
 have hne:∀ o x,dW args o=some x→o≠i*64+49:=fun o x ho e=>by rw [e,hN'] at ho;cases ho
 have le:V.le ⟨w,w.heap.size,S,γ,dW args⟩ ⟨w,w.heap.size,S,NZ γ i,dW (args.set i (.own e r []))⟩:=by
  refine ⟨Nat.le_refl _,fun b hb=>⟨⟨hb.1,hb.2.1,fun o x hx=>?_⟩,rfl⟩,fun o cs hx=>⟨⟨cs,?_⟩,hγ o (hne o _ hx)⟩,fun o e r l fr hx=>⟨⟨l,fr,?_⟩,hγ o (hne o _ hx)⟩⟩
  · by_cases ho:o=i*64+49
    · show blk (NZ γ i o)≠some b
      rw [ho,hγN];intro hh;cases hh
    · show blk (NZ γ i o)≠some b
      rw [hγ o ho]
      exact hb.2.2 o x ((hO o ho).symm.trans hx)
  · exact (hO o (hne o _ hx)).trans hx
  · exact (hO o (hne o _ hx)).trans hx
 have hbl:∀ b,wS (dW (args.set i (.own e r []))) (NZ γ i) b↔wS (dW args) γ b:=by
  intro b
  constructor
  · rintro ⟨o,x,h1,h2⟩
    by_cases ho:o=i*64+49
    · rw [ho,hγN] at h2;cases h2
    · exact ⟨o,x,(hO o ho)▸h1,(hγ o ho)▸h2⟩
  · rintro ⟨o,x,h1,h2⟩
    exact ⟨o,x,(hO o (hne o x h1)).trans h1,by rw [hγ o (hne o x h1)];exact h2⟩
 refine Calls.mono (hcall k S (NZ γ i) vs w hG (zi.nil (Y:=⟨w,w.heap.size,S,NZ γ i,dW (args.set i (.own e r []))⟩) le args vs.toList 0 i ha (by rw [Nat.zero_add];exact hN) (by rw [Nat.zero_add];exact hγN) hrep) ?_ ?_ hfree) ?_
 · intro o x hx
   by_cases ho:o=i*64+49
   · subst ho
     rw [hN] at hx
     cases hx
     refine ⟨⟨[],?_,hr,fun b hb=>?_,fun j x hj=>by simp at hj⟩,fun b hb=>?_⟩
     · show w.ownsRow 0 e r.len (NZ γ i (i*64+49)) 0 []
       rw [hγN];exact World.ownsRow_nil w 0 e r.len
     · have hb:blk (NZ γ i (i*64+49))=some b:=hb
       rw [hγN] at hb;cases hb
     · rw [hγN] at hb;cases hb
   · have hx':dW args o=some x:=(hO o ho)▸hx
     have:=nT o x hx'
     refine ⟨cZ.mono le o x (fun b _=>rfl) (hγ o ho) this.1,fun b hb=>this.2 b ((hγ o ho)▸hb)⟩
 · intro o x q y b hx hy hoq hb
   by_cases ho:o=i*64+49
   · rw [ho,hγN] at hb;cases hb
   by_cases hq':q=i*64+49
   · rw [hq',hγN];intro hh;cases hh
   rw [hγ o ho] at hb
   rw [hγ q hq']
   exact hsep o x q y b ((hO o ho)▸hx) ((hO q hq')▸hy) hoq hb
 · rintro en w' ⟨t,ht,v,γ',h1,h2,h3,h4,h5,h6,h7,h8,h9,h10⟩
   have alR:∀ o x,lQ (ρ.aZ t) o=some x→o≠i*64+49:=fun o x ho e=>by rw [e,hF t] at ho;cases ho
   have hL:qx S (args.set i (.own e r [])) (ρ.aZ t) (NZ γ i)=qx S args (ρ.aZ t) γ:=by
    funext b
    apply propext
    constructor
    · rintro ⟨a1,a2⟩
      refine ⟨a1.imp_right (hbl b).1,fun q y hy=>?_⟩
      have:=a2 q y hy
      rwa [hγ q (alR q y hy)] at this
    · rintro ⟨a1,a2⟩
      refine ⟨a1.imp_right (hbl b).2,fun q y hy=>?_⟩
      rw [hγ q (alR q y hy)]
      exact a2 q y hy
   rw [hL] at h7 h8 h10
   refine ⟨t,ht,v,γ',h1,h2,h3,h4,h5,fun b hb hn=>h6 b hb (fun h=>hn ((hbl b).1 h)),h7,fun o x hx=>?_,h9,fun o x hx=>?_⟩
   · obtain ⟨a1,a2⟩:=h8 o x hx
     refine ⟨a1,fun b hb=>?_⟩
     obtain ⟨b1,b2,b3⟩:=a2 b hb
     refine ⟨b1,b2.imp_right (hbl b).1,fun q y hy=>?_⟩
     have:=b3 q y hy
     rwa [hγ q (alR q y hy)] at this
   · obtain ⟨a1,a2⟩:=h10 o x hx
     exact ⟨a1.trans (hγ o (alR o x hx)),a2⟩
theorem am3 {l:List ig} {e:TypeId} {r:aK} {rest:List gX} {dU:List ru} {F:jP (.ptr l:: .own e r::rest)→Prop×(mX dU×mr (.ptr l:: .own e r::rest)→Prop)}
 {F':jP (.ptr l:: .p (.v (.one .nil))::rest)→Prop×(mX dU×mr (.ptr l:: .own e r::rest)→Prop)} (hr:0<r.len) (h:jV P G f (qQ (.ptr l:: .own e r::rest) dU F))
 (hF:∀ a x,(F' (a,(),x)).1→(F (a,[],x)).1) (hF2:∀ a x,(F' (a,(),x)).1→(F' (a,(),x)).2=(F (a,[],x)).2):jV P G f (qQ (.ptr l:: .p (.v (.one .nil))::rest) dU F'):=by
 refine jV.apV 1 e r hr h fun args p ρ hcon hp=>?_
 match args,hcon with
 |[],hcon=>simp [qQ,iT] at hcon
 |[a],hcon=>
  have:iT (.ptr l:: .p (.v (.one .nil))::rest) [a]=none:=by
   simp only [iT]
   split<;>simp_all
  simp [qQ,this] at hcon
 |a::b::args,hcon=>
  cases ha:(gX.ptr l).read a with
  |none=>simp [qQ,iT,ha] at hcon
  |some a'=>
  cases hb:(gX.p (.v (.one .nil))).read b with
  |none=>simp [qQ,iT,ha,hb] at hcon
  |some b'=>
  cases hx:iT rest args with
  |none=>simp [qQ,iT,ha,hb,hx] at hcon
  |some x=>
   have hb2:b= .sv (.one .nil):=by
    cases b with
    |sv s=>cases s with
     |one c=>cases c with
      |nil=>rfl
      |int k n=>cases hb
      |bool k=>cases hb
      |str k=>cases hb
      |sl e r l fr=>cases hb
      |ref o=>cases hb
      |junk=>cases hb
     |agg cs=>cases hb
    |_=>cases hb
   subst hb2
   simp only [qQ,iT,ha,hb,hx] at hcon
   have hcon:=Option.some.inj hcon
   have h1:(F' (a',(),x)).1=p:=congrArg Prod.fst hcon
   have h2:(⟨mX dU×mr (.ptr l:: .own e r::rest),(F' (a',(),x)).2,fun t=>⟨iR dU t.1,none⟩,fun t=>iU (.ptr l:: .own e r::rest) t.2⟩:KZ)=ρ:=congrArg Prod.snd hcon
   have hp':(F' (a',(),x)).1:=h1▸hp
   subst h2
   refine ⟨rfl,fun t=>rfl,(F (a',[],x)).1,?_,hF a' x hp'⟩
   · have ho:(gX.own e r).read (.own e r [])=some []:=by
      unfold gX.read
      simp only [Nat.beq_refl]
      rw [dif_pos (aK.JM r)]
      rfl
     simp only [List.set_cons_succ,List.set_cons_zero,qQ,iT,ha,ho,hx]
     have:=hF2 a' x hp'
     exact congrArg (fun z=>some ((F (a',[],x)).1,(⟨mX dU×mr (.ptr l:: .own e r::rest),z,fun t=>⟨iR dU t.1,none⟩,fun t=>iU (.ptr l:: .own e r::rest) t.2⟩:KZ))) this.symm
end Go.Fw
namespace Go.Fw
open Go
theorem af {b:Bool} {A B:Prop} (h1:b=true→A) (h2:b=false→B):cond b A B:=by
 cases b
 · exact h2 rfl
 · exact h1 rfl
theorem fF (z:Int) (h:-9223372036854775808≤z∧z≤9223372036854775807):IntKind.i64.wrap z=z:=IntWalk.i64_in z (by omega)
theorem maxLen_eq:maxLen=9223372036854775807:=by decide
theorem bW:big=4294967296:=rfl
theorem getD_mem {α:Type} {l:List α} {n:Nat} {d:α} (h:n<l.length):l.getD n d∈l:=by
 rw [List.getD_eq_getElem?_getD,List.getElem?_eq_getElem h,Option.getD_some];exact List.getElem_mem h
end Go.Fw
namespace Go.Fw
open Go
end Go.Fw
namespace Go.Fw
open Go
variable {P:Program}
def qA (cur:Array Value) (o:Nat) (cs:List Value):Array Value:=(cur.toList.take o++cs++cur.toList.drop (o+cs.length)).toArray
theorem vT (cur:Array Value) (o:Nat) (cs:List Value) (h:o+cs.length≤cur.size):(qA cur o cs).size=cur.size:=by
 simp only [qA,List.size_toArray,List.length_append,List.length_take,List.length_drop,Array.length_toList]
 omega
theorem wu (cur:Array Value) (o:Nat) (cs:List Value) (k:Nat) (h:o+cs.length≤cur.size):
 (qA cur o cs).toList[k]? =if k<o then cur.toList[k]? else if k<o+cs.length then cs[k-o]? else cur.toList[k]? :=by
 have ht:(cur.toList.take o).length=o:=by rw [List.length_take,Array.length_toList];omega
 simp only [qA]
 by_cases h1:k<o
 · rw [if_pos h1,List.append_assoc,List.getElem?_append_left (by omega),List.getElem?_take,if_pos h1]
 · rw [if_neg h1]
   by_cases h2:k<o+cs.length
   · rw [if_pos h2,List.append_assoc,List.getElem?_append_right (by omega),ht,List.getElem?_append_left (by omega)]
   · rw [if_neg h2,List.getElem?_append_right (by rw [List.length_append];omega),List.length_append,ht,List.getElem?_drop]
     congr 1
     omega
theorem alS (R:Array Value) (a:Nat) (vs ds:List Value) (h:a+vs.length+ds.length≤R.size):
 (qA (qA R a vs) (a+vs.length) ds).toList.take (a+vs.length+ds.length)=R.toList.take a++(vs++ds):=by
 have s1:=vT R a vs (by omega)
 have hl:(R.toList.take a).length=a:=by rw [List.length_take,Array.length_toList];omega
 apply List.ext_getElem?
 intro j
 rw [List.getElem?_take]
 by_cases h1:j<a
 · rw [if_pos (by omega),wu _ _ _ _ (by omega),if_pos (by omega),wu _ _ _ _ (by omega),if_pos h1,List.getElem?_append_left (by omega),List.getElem?_take,if_pos h1]
 · rw [List.getElem?_append_right (by omega),hl]
   by_cases h2:j<a+vs.length
   · rw [if_pos (by omega),wu _ _ _ _ (by omega),if_pos h2,wu _ _ _ _ (by omega),if_neg h1,if_pos h2,List.getElem?_append_left (by omega)]
   · rw [List.getElem?_append_right (by omega)]
     by_cases h3:j<a+vs.length+ds.length
     · rw [if_pos h3,wu _ _ _ _ (by omega),if_neg h2,if_pos h3]
       congr 1;omega
     · rw [if_neg h3,List.getElem?_eq_none (by omega)]
theorem alT (R:Array Value) (a:Nat) (vs ds:List Value) (h:a+vs.length+ds.length≤R.size):
 (qA (qA R (a+vs.length) ds) a vs).toList.take (a+vs.length+ds.length)=R.toList.take a++(vs++ds):=by
 have s1:=vT R (a+vs.length) ds (by omega)
 have hl:(R.toList.take a).length=a:=by rw [List.length_take,Array.length_toList];omega
 apply List.ext_getElem?
 intro j
 rw [List.getElem?_take]
 by_cases h1:j<a
 · rw [if_pos (by omega),wu _ _ _ _ (by omega),if_pos (by omega),wu _ _ _ _ (by omega),if_pos (by omega),List.getElem?_append_left (by omega),List.getElem?_take,if_pos h1]
 · rw [List.getElem?_append_right (by omega),hl]
   by_cases h2:j<a+vs.length
   · rw [if_pos (by omega),wu _ _ _ _ (by omega),if_neg h1,if_pos h2,List.getElem?_append_left (by omega)]
   · rw [List.getElem?_append_right (by omega)]
     by_cases h3:j<a+vs.length+ds.length
     · rw [if_pos h3,wu _ _ _ _ (by omega),if_neg h1,if_neg h2,wu _ _ _ _ (by omega),if_neg h2,if_pos h3]
       congr 1;omega
     · rw [if_neg h3,List.getElem?_eq_none (by omega)]
theorem ai7 (w:World) (g:Nat) (a b:Array Value):(w.setRow g a).setRow g b=w.setRow g b:=setRow_setRow w g a b
theorem size_setRow (w:World) (g:Nat) (a:Array Value):(w.setRow g a).heap.size=w.heap.size:=by simp [World.setRow]
theorem FB (w:World) (dT sT ty e:TypeId) (k g o dl dc:Nat) (sa:Addr) (sl sc n:Nat) (cur:Array Value) (t:TypeId) (cs:List Value)
 (hu:P.underlying dT=some (.slice e)) (hs:(P.info? e).map (·.size)=some k) (hg:w.heap[g]? =some (.cells cur t (0,0))) (hn:Nat.min sl dl=n) (hcl:cs.length=n*k)
 (hsrc:∀ j v,cs[j]? =some v→w.cell? (sa.add j)=some v) (hfit:o+cs.length≤cur.size) (h1:∀ v∈cs,v.oneCell'=true):
 (Builtin.copy_ #[dT,sT] ty #[.slice (some ⟨g,o,none⟩) dl dc, .slice (some sa) sl sc]).run P w= .ok (goInt n) (w.setRow g (qA cur o cs)):=by
 have hl:=run_loadCells_list (P:=P) w sa cs hsrc
 have hst:=run_storeCells_at P g o t cs 0 cur w hg (by simpa using hfit) h1
 cases hq:P.info? e with
 |none=>simp [hq] at hs
 |some i=>
  have hi:i.size=k:=by simpa [hq] using hs
  simp [Builtin.copy_,run_underlying hu,Builtin.lenOf,Builtin.firstCells,sizeOf,typeInfo,hq,hi,hn,← hcl,hl,hst,qA]
theorem Xk (v:Value) (h:v.ownBlock=none∨True):∀ {n:Nat} {e:TypeId} {k b0:Nat} {xs:List Value} {w:World},w.ownsRow b0 e k v n xs→blk v=v.ownBlock:=by
 intro n e k b0 xs w hw
 rcases hw.2 with ⟨rfl,_⟩|⟨g,cap,cur,rfl,_⟩<;>rfl
def adL (P:Program) (f:FuncId) (e:TypeId) (k:Nat):Prop:=
 ∀ (w:World) (v u:Value) (n i:Nat) (xs ys:List Value),w.ownsRow 0 e k v n xs→w.ownsRow 0 e k u 1 ys→(∀ b,v.ownBlock=some b→u.ownBlock≠some b)→i≤n→n≤1000→
   (∀ x∈xs,x.oneCell'=true)→(∀ x∈ys,x.oneCell'=true)→
   Calls P f #[v, .int .i64 i,u] w fun en w'=>∃ v',en= .returned v'∧w'.ownsRow 0 e k v' (n+1) (xs.take (i*k)++(ys++xs.drop (i*k)))∧w.grownBy w' v.ownBlock∧
    (∀ g,v'.ownBlock=some g→v.ownBlock=some g∨w.heap.size≤g)
theorem ai8 {h:Array Obj} {S:Nat→Prop} {r:aK} {xs:List Value} {l:List r.den} (hlen:xs.length=l.length*r.len) (hx:∀ i x,l[i]? =some x→bM h S r ((xs.drop (i*r.len)).take r.len) x) (hpos:0<r.len):
 ∀ x∈xs,x.oneCell'=true:=by
 intro x hm
 obtain ⟨j,hj,rfl⟩:=List.mem_iff_getElem.1 hm
 have hq:j / r.len<l.length:=by rw [Nat.div_lt_iff_lt_mul hpos];omega
 refine bM.ones r _ _ (hx (j / r.len) _ (List.getElem?_eq_getElem hq)) _ ?_
 refine List.mem_iff_getElem?.2 ⟨j%r.len,?_⟩
 have hd:=Nat.div_add_mod j r.len
 rw [List.getElem?_take,if_pos (Nat.mod_lt _ hpos),List.getElem?_drop,Nat.mul_comm,hd,List.getElem?_eq_getElem hj]
theorem akj (xs ys:List Value) (k n i q:Nat) (hxs:xs.length=n*k) (hys:ys.length=k) (hi:i≤n):
 ((xs.take (i*k)++(ys++xs.drop (i*k))).drop (q*k)).take k=if q<i then (xs.drop (q*k)).take k else if q=i then ys else (xs.drop ((q-1)*k)).take k:=by
 have hik:i*k≤xs.length:=by rw [hxs];exact Nat.mul_le_mul_right _ hi
 have hlt:(xs.take (i*k)).length=i*k:=by rw [List.length_take];omega
 by_cases h1:q<i
 · have hqk:q*k+k≤i*k:=by
    have:(q+1)*k≤i*k:=Nat.mul_le_mul_right _ h1
    rwa [Nat.add_mul,Nat.one_mul] at this
   rw [if_pos h1,List.drop_append_of_le_length (by omega),List.take_append_of_le_length (by rw [List.length_drop];omega),List.drop_take,List.take_take]
   congr 1
   omega
 · rw [if_neg h1]
   by_cases h2:q=i
   · subst h2
     rw [if_pos rfl]
     have h0:(xs.take (q*k)++(ys++xs.drop (q*k))).drop (q*k)=ys++xs.drop (q*k):=by rw [List.drop_append_of_le_length (by omega),List.drop_of_length_le (by omega),List.nil_append]
     rw [h0,List.take_append_of_le_length (by omega),List.take_of_length_le (by omega)]
   · rw [if_neg h2]
     have hqi:i+1≤q:=by omega
     have e1:q*k=i*k+(k+(q-1-i)*k):=by
      have:q=i+(1+(q-1-i)):=by omega
      conv=>lhs;rw [this,Nat.add_mul,Nat.add_mul,Nat.one_mul]
     have e2:(q-1)*k=i*k+(q-1-i)*k:=by rw [← Nat.add_mul];congr 1;omega
     have h0:(xs.take (i*k)++(ys++xs.drop (i*k))).drop (i*k+k)=xs.drop (i*k):=by
      rw [← List.drop_drop,List.drop_append_of_le_length (by omega),List.drop_of_length_le (by omega:(xs.take (i*k)).length≤i*k),List.nil_append,List.drop_append_of_le_length (by omega),List.drop_of_length_le (by omega:ys.length≤k),List.nil_append]
     rw [e1,e2,← Nat.add_assoc,← List.drop_drop,h0,List.drop_drop]
theorem Kr {s:gX} {sh:List gX}:∀ {args:List Arg} {d:jP (s::sh)},iT (s::sh) args=some d→∃ x xs,args=x::xs∧s.read x=some d.1∧iT sh xs=some d.2
 |[],_,h=>by simp [iT] at h
 |x::xs,d,h=>by
  rw [iT] at h
  split at h
  · next a b h1 h2=>cases h;exact ⟨x,xs,rfl,h1,h2⟩
  · cases h
theorem adM:∀ {args:List Arg} {d:jP []},iT [] args=some d→args=[]
 |[],_,_=>rfl
 |_::_,_,h=>by simp [iT] at h
abbrev N7 (e:TypeId) (r:aK):List gX:=[.own e r, .p (.v (.one (.int .i64))), .own e r]
abbrev ai9 (e:TypeId) (r:aK):List ru:=[.one (.own e r false)]
theorem gX.aja {e:TypeId} {r:aK} {x:Arg} {d:List r.den} (h:(gX.own e r).read x=some d):x= .own e r d:=by
 cases x with
 |own f s l=>
  simp only [gX.read] at h
  split at h
  · next hb=>
    have he:=Nat.eq_of_beq_eq_true hb
    subst he
    split at h
    · next hs=>
      have hr:=aK.eq_of_beq s r hs
      subst hr
      cases h
      rfl
    · cases h
  · cases h
 |_=>simp [gX.read] at h
theorem gX.an6 {x:Arg} {d:Int} (h:(gX.p (.v (.one (.int .i64)))).read x=some d):x= .sv (.one (.int .i64 d)):=by
 cases x with
 |sv x=>
  cases x with
  |one c=>
   cases c with
   |int k n=>
    simp only [gX.read,jb.read,sQ.read,ig.read] at h
    cases k<;>simp_all
   |_=>simp [gX.read,jb.read,sQ.read,ig.read] at h
  |agg l=>simp [gX.read,jb.read,sQ.read] at h
 |_=>simp [gX.read,jb.read] at h
theorem akk {G:kC} {f:FuncId} {e:TypeId} {r:aK} (hpos:0<r.len) (hM:adL P f e r.len)
 {F:jP (N7 e r)→Prop×(mX (ai9 e r)×mr (N7 e r)→Prop)}
 (hF:∀ (l:List r.den) (i:Int) (lv:List r.den),(F (l,i,lv,())).1→0≤i∧i≤l.length∧l.length≤1000∧lv.length=1∧(F (l,i,lv,())).2 ((l.take i.toNat++(lv++l.drop i.toNat),()),())):
 jV P G f (qQ (N7 e r) (ai9 e r) F):=by
 intro args p ρ hcon hp
 simp only [qQ] at hcon
 split at hcon
 · next x hx=>
   revert x
   show ∀ x:List r.den×Int×List r.den×Unit,_
   rintro ⟨l,i,lv,⟨⟩⟩ hx hcon
   have hF1:=Option.some.inj hcon
   have hp1:(F (l,i,lv,())).1=p:=congrArg Prod.fst hF1
   have hρ:=congrArg Prod.snd hF1
   simp only at hρ
   subst hρ
   rw [← hp1] at hp
   obtain ⟨h0,hi,hn,hv1,hR⟩:=hF l i lv hp
   obtain ⟨a0,r0,rfl,hx0,h1⟩:=Kr hx
   obtain ⟨a1,r1,rfl,hx1,h2⟩:=Kr h1
   obtain ⟨a2,r2,rfl,hx2,h3⟩:=Kr h2
   have:=adM h3
   subst this
   have e0:=gX.aja hx0
   have e2:=gX.aja hx2
   have e1:=gX.an6 hx1
   subst e0 e1 e2
   refine ⟨⟨_,hR⟩,?_⟩
   intro k S γ vs w hG hrep nT hap hk
   have o49:dW [.own e r l, .sv (.one (.int .i64 i)), .own e r lv] 49=some (.arr e r l false):=rfl
   have apW:dW [.own e r l, .sv (.one (.int .i64 i)), .own e r lv] 177=some (.arr e r lv false):=rfl
   match hvs:vs.toList,hrep with
   |[v,vi,u],hrep=>
    have ev:v=γ 49:=hrep.1.2.1
    have eu:u=γ 177:=hrep.2.2.1.2.1
    have evi:vi= .int .i64 i:=hrep.2.1.1
    have evs:vs=#[γ 49, .int .i64 i,γ 177]:=by
     obtain ⟨vl⟩:=vs
     simp at hvs
     rw [hvs,ev,eu,evi]
    subst evs
    obtain ⟨⟨xs,hxs,_,_,hxr⟩,asW⟩:=nT 49 _ o49
    obtain ⟨⟨ys,hys,_,_,hyr⟩,asM⟩:=nT 177 _ apW
    have B1:=Xk (γ 49) (.inr trivial) hxs
    have B2:=Xk (γ 177) (.inr trivial) hys
    have h1:=ai8 hxs.1 hxr hpos
    have h2:=ai8 hys.1 hyr hpos
    have hin:i.toNat≤l.length:=by omega
    have hik:((i.toNat:Nat):Int)=i:=by omega
    have an7:w.ownsRow 0 e r.len (γ 177) 1 ys:=by rw [← hv1];exact hys
    have hrun:=hM w (γ 49) (γ 177) l.length i.toNat xs ys hxs an7 (fun b hb=>by rw [← B2];exact hap 49 _ 177 _ b o49 apW (by decide) (by rw [B1];exact hb)) hin hn h1 h2
    rw [hik] at hrun
    refine hrun.mono ?_
    rintro en w' ⟨v',rfl,hown,hgr,hnew⟩
    have Bv:=Xk v' (.inr trivial) hown
    have hone:v'.oneCell'=true:=by rcases hown.2 with ⟨rfl,_⟩|⟨g,cap,cur,rfl,_⟩<;>rfl
    have aqy:look [(k,aQ.arr e r (l.take i.toNat++(lv++l.drop i.toNat)) false)] k=some (.arr e r (l.take i.toNat++(lv++l.drop i.toNat)) false):=by simp [look]
    have lookO:∀ o x,look [(k,aQ.arr e r (l.take i.toNat++(lv++l.drop i.toNat)) false)] o=some x→k=o∧ .arr e r (l.take i.toNat++(lv++l.drop i.toNat)) false=x:=by
     intro o x h
     have:=wR _ _ _ h
     simp at this
     exact ⟨this.1.symm,this.2.symm⟩
    have alU:∀ q y,¬ lQ (iU (N7 e r) ()) q=some y:=by
     intro q y h
     unfold lQ at h
     match hq:q / 64,h with
     |0,h=>simp [iU] at h
     |1,h=>simp [iU] at h
     |2,h=>simp [iU] at h
     |n+3,h=>simp [iU] at h
    refine ⟨_,hR,v',fun _=>v',rfl,hgr.os,hgr.tape,hgr.output,hgr.size,fun b hb hnb=>?_,?_,?_,?_,?_⟩
    · exact hgr.block b hb fun he=>hnb ⟨49,_,o49,by rw [B1];exact he.symm⟩
    · exact ⟨⟨e,r,_,false,aqy⟩,rfl,hone⟩
    · intro o x hx
      obtain ⟨rfl,rfl⟩:=lookO o x hx
      refine ⟨⟨xs.take (i.toNat*r.len)++(ys++xs.drop (i.toNat*r.len)),?_,hpos,fun _ _ h=>(by cases h),fun q x hx=>?_⟩,fun b hb=>?_⟩
      · have hlen:(l.take i.toNat++(lv++l.drop i.toNat)).length=l.length+1:=by simp;omega
        rw [hlen]
        exact hown
      · have hq:q≤l.length:=by
         have:=(List.getElem?_eq_some_iff.1 hx).1
         simp at this
         omega
        rw [akj xs ys r.len l.length i.toNat q hxs.1 (by rw [an7.1,Nat.one_mul]) hin]
        have IW:∀ b,(⟨w,w.heap.size,S,γ,dW [.own e r l, .sv (.one (.int .i64 i)), .own e r lv]⟩:V).dM false b→
         (⟨w',w.heap.size,qx S [.own e r l, .sv (.one (.int .i64 i)), .own e r lv] (iU (N7 e r) ()) γ,fun _=>v',look [(k, .arr e r (l.take i.toNat++(lv++l.drop i.toNat)) false)]⟩:V).dM false b∧w'.heap[b]? =w.heap[b]? :=by
         intro b hb
         obtain ⟨⟨hb1,hb2,hb3⟩,_⟩:=hb
         have hb1:b<w.heap.size:=hb1
         have hne:some b≠(γ 49).ownBlock:=fun he=>hb3 49 _ o49 (by rw [B1];exact he.symm)
         refine ⟨⟨⟨Nat.lt_of_lt_of_le hb1 hgr.size,fun _=>⟨.inl (hb2 hb1),fun q y hq=>?_⟩,fun o x hx he=>?_⟩,fun h=>(by cases h)⟩,hgr.block b hb1 hne⟩
         · exact absurd hq (alU q y)
         · have he:blk v'=some b:=he
           rw [Bv] at he
           rcases hnew b he with h|h
           · exact hne h.symm
           · omega
        by_cases c1:q<i.toNat
        · rw [if_pos c1]
          refine bM.mono IW r _ x (hxr q x ?_)
          rw [List.getElem?_append_left (by rw [List.length_take];omega),List.getElem?_take,if_pos c1] at hx
          exact hx
        · rw [if_neg c1]
          have hlt:(l.take i.toNat).length=i.toNat:=by rw [List.length_take];omega
          rw [List.getElem?_append_right (by omega),hlt] at hx
          by_cases c2:q=i.toNat
          · rw [if_pos c2]
            rw [c2,Nat.sub_self,List.getElem?_append_left (by omega)] at hx
            have:=hyr 0 x hx
            rw [Nat.zero_mul,List.drop_zero,List.take_of_length_le (by rw [an7.1];omega)] at this
            exact bM.mono IW r _ x this
          · rw [if_neg c2]
            rw [List.getElem?_append_right (by omega),hv1,List.getElem?_drop,show i.toNat+(q-i.toNat-1)=q-1 by omega] at hx
            exact bM.mono IW r _ x (hxr (q-1) x hx)
      · have he:blk v'=some b:=hb
        have he2:=he
        rw [Bv] at he2
        refine ⟨?_,?_,fun q y hq=>absurd hq (alU q y)⟩
        · rcases hown.2 with ⟨hv,_⟩|⟨g,cap,cur,hv,_,hg,_⟩
          · rw [hv] at he;cases he
          · rw [hv] at he
            cases he
            exact (Array.getElem?_eq_some_iff.1 hg).1
        · rcases hnew b he2 with h|h
          · exact .inr ⟨49,_,o49,by rw [B1];exact h⟩
          · exact .inl h
    · intro o x q y b h1 h2 hne
      exact absurd ((lookO o x h1).1.symm.trans (lookO q y h2).1) hne
    · intro o x h
      exact absurd h (alU o x)
 · cases hcon
end Go.Fw
namespace Go.Fw
open Go
variable {P:Program} {H:Type} {enc:TypeId×Value→H} {w:World}
theorem Vk (hl:laidOutB P=true) {base:Nat} {sp':Nat→Bool} {W W':World}:∀ (ts:List TypeId) (_:ts.all (fun t=>P.readableRec t&&decide (t<P.types.size))=true)
 (vs:List Value) (ds:List (DataW H)) (ps:List MemPlace),DataW.TrodAll enc P W base (fun _=>true) true ts vs ds ps→(∀ p∈ps,W.sameAt W' p)→(∀ p∈ps,sp' p.block=true)→DataW.TrodAll enc P W' base sp' true ts vs ds ps
 |[],_,vs,ds,ps,h,_,_=>by
  cases vs<;>cases ds<;>simp [DataW.TrodAll] at h ⊢
  exact h
 |t::ts,ht,vs,ds,ps,h,h1,h2=>by
  rw [List.all_cons,Bool.and_eq_true,Bool.and_eq_true] at ht
  cases vs with
  |nil=>cases ds<;>simp [DataW.TrodAll] at h
  |cons v vs=>
   cases ds with
   |nil=>simp [DataW.TrodAll] at h
   |cons d ds=>
    obtain ⟨a,b,g1,g2,rfl⟩:=h
    exact ⟨a,b,WideElems.Trod_stays hl ht.1.1 (of_decide_eq_true ht.1.2) g1 (fun p hp=>h1 p (List.mem_append_left _ hp)) (fun p hp=>h2 p (List.mem_append_left _ hp)),
     Vk hl ts ht.2 vs ds b g2 (fun p hp=>h1 p (List.mem_append_right _ hp)) (fun p hp=>h2 p (List.mem_append_right _ hp)),rfl⟩
theorem trodAll_length {base:Nat} {sp:Nat→Bool} {hd:Bool} {W:World}:∀ (ts:List TypeId) (vs:List Value) (ds:List (DataW H)) (ps:List MemPlace),DataW.TrodAll enc P W base sp hd ts vs ds ps→ds.length=ts.length
 |[],vs,ds,ps,h=>by cases vs<;>cases ds<;>simp [DataW.TrodAll] at h ⊢
 |t::ts,vs,ds,ps,h=>by
  cases vs with
  |nil=>cases ds<;>simp [DataW.TrodAll] at h
  |cons v vs=>
   cases ds with
   |nil=>simp [DataW.TrodAll] at h
   |cons d ds=>
    obtain ⟨a,b,g1,g2,rfl⟩:=h
    simp [trodAll_length ts vs ds b g2]
theorem an8 {fn:Func} {s:ChangeSpec} {apart fresh handsOn again:Bool} {W W':World} {args:Array Value} {ds gs:List (DataW H)} {before:List MemPlace} {tb:TypeId}
 (hvars:s.vars=[]) (hspec:∀ l:List (DataW H),l.length=fn.params.toList.length→(s.fn H l).results=[.lit (.bool true)]∧(s.fn H l).args=l∧(s.fn H l).vars=[])
 (hres:fn.resultTypes=#[tb]) (hb:P.underlying tb=some .bool) (hl:laidOutB P=true) (hread:fn.params.toList.all (fun t=>P.readableRec t&&decide (t<P.types.size))=true)
 (hW:DataW.Whole enc P fn.params.toList s.vars apart W args.toList ds gs before) (hos:W'.os=W.os) (hout:W'.output=W.output) (hheap:∀ b,b<W.heap.size→W'.heap[b]? =W.heap[b]?):
 s.post enc P fn apart fresh handsOn again W args (.bool true) W':=by
 have hlt:=hW.lt
 have hW0:=hW
 obtain ⟨p,q,hA,hV,hpq,hz,hn⟩:=hW
 rw [hvars] at hV
 have hg:gs=[]∧q=[]:=by
  cases gs with
  |nil=>exact ⟨rfl,hV⟩
  |cons g gs=>simp [DataW.TrodVars] at hV
 obtain ⟨rfl,rfl⟩:=hg
 rw [List.append_nil] at hpq
 subst hpq
 have hlen:=trodAll_length _ _ _ _ hA
 obtain ⟨r1,r2,r3⟩:=hspec (ds++[]) (by simpa using hlen)
 rw [List.append_nil] at r1 r2 r3
 have hsame:∀ x∈before,W.sameAt W' x:=fun x hx=>an5 hheap (hlt x hx)
 have R:∀ (b:Nat) (sp:Nat→Bool) (hd:Bool),DataW.TrodAll enc P W' b sp hd fn.resultTypes.toList ((Value.bool true).resultList fn.resultTypes.size) [.lit (.bool true)] []:=by
  intro b sp hd
  rw [hres]
  exact ⟨[],[],⟨1,by simp [DataW.trod,Value.cells,hb]⟩,rfl,rfl⟩
 have A:∀ sp:Nat→Bool,(∀ x∈before,sp x.block=true)→DataW.TrodAll enc P W' 0 sp true fn.params.toList args.toList ds before:=fun sp hsp=>Vk hl _ hread _ _ _ hA hsame hsp
 have hold:∀ x∈before,(fun b=>decide (b<W.heap.size)) x.block=true:=fun x hx=>by simpa using hlt x hx
 refine ⟨ds,[],before,[],before,[],hW0,?_,?_,?_,an4 hos hout hheap _,fun _=>⟨?_, .lit (.bool true)::ds,[],before,⟨before,[],?_,?_,by simp,?_,hn⟩,fun x hx _=>hx⟩⟩
 · rw [List.append_nil,r1];exact R _ _ _
 · rw [List.append_nil,r2];exact A _ hold
 · rw [List.append_nil,r3,hvars];rfl
 · intro j t r h1 h2
   rw [hres] at h1 h2
   match j with
   |0=>
    simp [Value.resultList] at h1 h2
    subst h1 h2
    simp [Value.okWide,hb,Go.Cell.okWide,Go.Cell.ok]
   |j+1=>simp at h1
 · exact ChangeShapes.trodAll_append (A _ (fun _ _=>rfl)) (R _ _ _)
 · rw [hvars];rfl
 · intro b off hp
   have hbl:=hlt _ hp
   have e:W'.frozen? ⟨b,off,none⟩=W.frozen? ⟨b,off,none⟩:=by
    unfold World.frozen?
    simp only
    rw [hheap b hbl]
   rw [e]
   exact hz b off hp
end Go.Fw
namespace Go.Fw
open Go
theorem law_lifted {H:Type} {enc:TypeId×Value→H} {C:Checked} {G:kC} {os:Os} {f:FuncId} {fn:Func} {s:ChangeSpec} {conds:List PathCond} {apart fresh handsOn again:Bool} {tb:TypeId} {sh:List jb} {F:mZ sh→Prop×Out}
 (own:ownKnob C.prog.godebug=none) (started:os.Started) (noInit:C.prog.inits.idxOf? f=none) (hfn:C.prog.funcs[f]? =some fn)
 (witness:∃ (w:World) (tape:Tape) (i:Input),w.os=os∧(w.forCall tape i).Shaped C.prog∧i.vars=[]∧Input.okWide C.prog (w.forCall tape i) .any w.heap.size f i∧
   s.pre6 enc C.prog fn conds apart (w.forCall tape i).memory i.args∧({}:Assume).holds C.prog (lone (Frame.enter C.prog f i.args .normal) [] (w.forCall tape i)))
 (hcon:qX C.prog G f (MC sh F)) (hsh:NY C.prog fn.params.toList=some sh) (hF:∀ x,MB sh x→(F x).1∧(F x).2=afR) (hG:∀ w,G.ok w)
 (hvars:s.vars=[]) (hspec:∀ l:List (DataW H),l.length=fn.params.toList.length→(s.fn H l).results=[.lit (.bool true)]∧(s.fn H l).args=l∧(s.fn H l).vars=[])
 (hres:fn.resultTypes=#[tb]) (hb:C.prog.underlying tb=some .bool) (hl:laidOutB C.prog=true) (hread:fn.params.toList.all (fun t=>C.prog.readableRec t&&decide (t<C.prog.types.size))=true):
 ReturnsInHanded {} C os f .any (s.pre6 enc C.prog fn conds apart) (s.post enc C.prog fn apart fresh handsOn again):=by
 refine returnsInHanded_of_change own started noInit hfn witness ?_
 intro W base args ds gs before hval hW _ _
 have hW0:=hW
 obtain ⟨p,q,hA,_⟩:=hW
 refine (am2 hcon hsh hF (hG W) hA hval).mono ?_
 rintro e W' ⟨rfl,h1,h2,_,h3⟩
 exact ⟨_,rfl,an8 hvars hspec hres hb hl hread hW0 h1 h2 h3⟩
end Go.Fw
