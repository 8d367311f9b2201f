import Derived.Test.YtgbobfdlafkijaaGreatV1
import Derived.Test.YtgbobfdlafkijaaGreatSp
namespace Go.Proofs.Tryz
open Go Go.Fw Go.IntWalk
theorem avl (x y:Int) (m:Nat) (hm:m<9223372036854775807) (hy:(BitVec.ofInt 64 y).toNat=m):0≤bitsOf .and .i64 x y∧bitsOf .and .i64 x y≤m:=by
 have h:(BitVec.ofInt 64 x&&&BitVec.ofInt 64 y).toNat≤m:=by
  rw [BitVec.toNat_and,hy]
  exact Nat.and_le_right
 show 0≤IntKind.i64.wrap ((BitVec.ofInt 64 x&&&BitVec.ofInt 64 y).toNat:Int)∧IntKind.i64.wrap ((BitVec.ofInt 64 x&&&BitVec.ofInt 64 y).toNat:Int)≤m
 generalize (BitVec.ofInt 64 x&&&BitVec.ofInt 64 y).toNat=z at h ⊢
 rw [iI _ (by omega)]
 omega
theorem avm (x:Int):0≤bitsOf .and .i64 x 255∧bitsOf .and .i64 x 255≤255:=avl x 255 255 (by omega) (by decide)
theorem Ko:aC prog G mJ lM:=by
 refine aop (aF (l:=[]) (ay ah) (fun x hx=>by cases hx)) (fun ⟨_,⟨⟩⟩ _=>⟨([],0,0,()),rfl⟩) ?_
 intro code hin hp
 have hp:code.length≤1048576:=hp
 refine ⟨fun y=>∃ n:Nat,y.1.2.1=n∧n≤code.length,fun y=>((code.length:Int)-y.1.2.1).toNat,⟨0,rfl,by omega⟩,?_⟩
 rintro ⟨⟨h,_,⟨⟩⟩,⟨⟩⟩ ⟨n,rfl,hn⟩
 dsimp only
 refine af (fun hc=>?_) fun hc=>?_
 · simp only [decide_eq_true_eq] at hc
   cases decide ((n:Int)<4000) with
   |false=>exact rfl
   |true=>
    have e:IntKind.i64.wrap ((n:Int)+1)=((n+1:Nat):Int):=iI _ (by omega)
    refine ⟨?_,?_,?_,?_⟩
    · exact ⟨by omega,hc⟩
    · exact rfl
    · exact ⟨n+1,e,by omega⟩
    show ((code.length:Int)-IntKind.i64.wrap ((n:Int)+1)).toNat<((code.length:Int)-n).toNat
    rw [e]
    omega
 · exact rfl
theorem amg:aC prog G FD Gx:=by
 refine amh (aF (l:=[]) (ay ah) (fun x hx=>by cases hx)) (fun _ _=>⟨(((0:Int),()),(([],0,0,()),())),⟨by decide,by decide,by decide⟩⟩) ?_
 intro b i h hin hp
 have hp:0≤i:=hp
 refine ⟨by decide,by decide,af (fun hc=>?_) fun hc=>?_⟩<;>simp only [decide_eq_true_eq,decide_eq_false_iff_not] at hc
 · have hl:b.length≤maxLen:=hin.1.1.1
   rw [maxLen_eq] at hl
   refine ⟨⟨hp,hc⟩,?_,avm _⟩
   show 0≤IntKind.i64.wrap (i+1)
   rw [iI _ (by omega)]
   omega
 · exact ⟨hp,avm _⟩
theorem tmod_lt {a n:Int} (ha:0≤a) (hn:0<n):0≤a.tmod n∧a.tmod n<n:=⟨Int.tmod_nonneg n ha,Int.tmod_lt_of_pos a hn⟩
theorem dQ:aC prog G aU aP:=by
 refine aj3 (aF (l:=[(FD, .eff (ai zx) Gx)]) (ay ah) (by simp only [List.forall_mem_cons];exact ⟨⟨amg,ajW⟩,fun x hx=>by cases hx⟩)) (fun ⟨_,n,⟨⟩⟩ _=>⟨(((0:Int),()),(([],0,0,()),())),⟨Int.le_refl _,Int.le_refl _,fun h=>h,fun _=>rfl⟩⟩) ?_
 intro b i h n hin hp
 have hp:0≤i:=hp
 refine af (fun hc=>?_) fun hc=>?_<;>simp only [decide_eq_true_eq,decide_eq_false_iff_not] at hc
 · exact ⟨hp,Int.le_refl _,fun h=>(by omega),fun _=>rfl⟩
 · refine af (fun hc2=>?_) fun hc2=>?_
   · refine ⟨hp,?_⟩
     rintro ⟨⟨x,⟨⟩⟩,⟨b',i',h',⟨⟩⟩,⟨⟩⟩ ⟨h1,h2,h3⟩
     dsimp only at h1 h2 h3 ⊢
     have:=tmod_lt h2 (show 0<n by omega)
     exact ⟨by omega,h1,this.1,fun _=>this.2,fun h=>(by omega)⟩
   · refine ⟨hp,?_⟩
     rintro ⟨⟨x1,⟨⟩⟩,⟨b1,i1,g1,⟨⟩⟩,⟨⟩⟩ ⟨h1,h2,h3⟩
     refine ⟨h1,?_⟩
     rintro ⟨⟨x2,⟨⟩⟩,⟨b2,i2,g2,⟨⟩⟩,⟨⟩⟩ ⟨k1,k2,k3⟩
     refine ⟨k1,?_⟩
     rintro ⟨⟨x3,⟨⟩⟩,⟨b3,i3,g3,⟨⟩⟩,⟨⟩⟩ ⟨l1,l2,l3⟩
     refine ⟨l1,?_⟩
     rintro ⟨⟨x4,⟨⟩⟩,⟨b4,i4,g4,⟨⟩⟩,⟨⟩⟩ ⟨m1,m2,m3⟩
     dsimp only at*
     rw [iI (x1*16777216) (by omega),iI (x2*65536) (by omega),iI (x3*256) (by omega),iI (x1*16777216+x2*65536) (by omega),iI (x1*16777216+x2*65536+x3*256) (by omega),iI (x1*16777216+x2*65536+x3*256+x4) (by omega)]
     have:=tmod_lt (a:=x1*16777216+x2*65536+x3*256+x4) (n:=n) (by omega) (by omega)
     exact ⟨by omega,m1,this.1,fun _=>this.2,fun h=>(by omega)⟩
theorem Eo:aC prog G jU jw:=by
 refine ami (aF (l:=[(aU, .eff (ai aQ) aP)]) (ay ah) (by simp only [List.forall_mem_cons];exact ⟨⟨dQ,dA⟩,fun x hx=>by cases hx⟩)) (fun _ _=>⟨((false,()),(([],0,0,()),())),Int.le_refl _⟩) ?_
 intro b i h n hin hp
 refine ⟨hp,?_⟩
 rintro ⟨⟨x,⟨⟩⟩,⟨b',i',h',⟨⟩⟩,⟨⟩⟩ ⟨h1,_⟩
 exact h1
theorem oh:aC prog G eP dN:=by
 refine amj (aF (l:=[(aU, .eff (ai aQ) aP)]) (ay ah) (by simp only [List.forall_mem_cons];exact ⟨⟨dQ,dA⟩,fun x hx=>by cases hx⟩)) (fun ⟨_,l,⟨⟩⟩ ⟨_,hl⟩=>(match l,hl with|x::_,_=>⟨((x.1,()),(([],0,0,()),())),⟨Int.le_refl _,List.mem_cons_self⟩⟩)) ?_
 intro b i h l hin hp
 obtain ⟨hp,hl⟩:=hp
 have hpos:0<l.length:=List.length_pos_iff.2 hl
 refine ⟨hp,?_⟩
 rintro ⟨⟨x,⟨⟩⟩,⟨b',i',h',⟨⟩⟩,⟨⟩⟩ ⟨h1,h2,h3,_⟩
 have h3:x<(l.length:Int):=h3 (by omega)
 refine ⟨⟨h2,h3⟩,h1,?_⟩
 exact getD_mem (by dsimp only at h2;omega)
theorem pI:aC prog G eX dX:=by
 refine agn (aF (l:=[(aU, .eff (ai aQ) aP)]) (ay ah) (by simp only [List.forall_mem_cons];exact ⟨⟨dQ,dA⟩,fun x hx=>by cases hx⟩)) (fun ⟨_,l,⟨⟩⟩ ⟨_,hl⟩=>(match l,hl with|x::_,_=>⟨((x.1,()),(([],0,0,()),())),⟨Int.le_refl _,List.mem_cons_self⟩⟩)) ?_
 intro b i h l hin hp
 obtain ⟨hp,hl⟩:=hp
 have hpos:0<l.length:=List.length_pos_iff.2 hl
 refine ⟨hp,?_⟩
 rintro ⟨⟨x,⟨⟩⟩,⟨b',i',h',⟨⟩⟩,⟨⟩⟩ ⟨h1,h2,h3,_⟩
 have h3:x<(l.length:Int):=h3 (by omega)
 refine ⟨⟨h2,h3⟩,h1,?_⟩
 exact getD_mem (by dsimp only at h2;omega)
theorem WG:aC prog G vC vV:=by
 refine aj6 (aF (l:=[]) (ay ah) (fun x hx=>by cases hx)) (fun _ _=>⟨((Sp.usual,()),()),rfl⟩) ?_
 intro hin hp
 exact rfl
theorem Yq:aC prog G xP xB:=by
 refine amk (aF (l:=[(eP, .eff (ai dG) dN)]) (ay ah) (by simp only [List.forall_mem_cons];exact ⟨⟨oh,mF⟩,fun x hx=>by cases hx⟩)) (fun _ _=>⟨(([],()),(([],0,0,()),())),⟨by decide,by decide⟩⟩) ?_
 intro b i h hin hp
 refine ⟨⟨hp,by simp⟩,?_⟩
 rintro ⟨⟨x,⟨⟩⟩,⟨b',i',h',⟨⟩⟩,⟨⟩⟩ ⟨h1,h2⟩
 refine ⟨h1,?_⟩
 exact (show ∀ y∈_,List.length y.1≤1 from by decide) _ h2
theorem agp:Sp.usual.length=4:=rfl
theorem aoq:aC prog G Ic Je:=by
 refine aor (aF (l:=[(eP, .eff (ai dG) dN),(xP, .eff (ai qN) xB),(aU, .eff (ai aQ) aP),(vC, .eff (ai oM) vV)]) (ay ah) (by simp only [List.forall_mem_cons];exact ⟨⟨oh,mF⟩,⟨Yq,Wl⟩,⟨dQ,dA⟩,⟨WG,Ud⟩,fun x hx=>by cases hx⟩)) (fun _ _=>⟨(([],()),(([],0,0,()),())),⟨by decide,by decide⟩⟩) ?_
 intro b i h hin hp
 have hp:0≤i:=hp
 refine ⟨trivial,?_⟩
 rintro ⟨⟨_,⟨⟩⟩,⟨⟩⟩ rfl
 dsimp only
 repeat' first
  |exact trivial
  |refine af (fun _=>?_) fun _=>?_
  |refine And.intro ?_ ?_
  |(intro r hr;simp only [] at hr)
  |intro r hr
 all_goals first
  |omega
  |(dsimp only at*;omega)
  |exact hr
  |(simp only [beq_eq_false_iff_ne,ne_eq] at*;omega)
  |(simp only [List.length_set,List.length_take,List.length_append,List.length_cons,List.length_nil,agp];omega)
  |(rw [gy];simp only [List.length_set,List.length_take,List.length_append,List.length_cons,List.length_nil,agp];omega)
  |(simp only [List.length_set,List.length_take,List.length_append,List.length_cons,List.length_nil,agp] at*;omega)
  |exact (show ∀ y∈_,List.length y.1≤10 from by decide) _ hr.2
  |(simp;done)
  |skip
theorem MK:aG prog G nS mZ:=by
 refine aj7 (aF (l:=[]) (ay ah) (fun x hx=>by cases hx)) ?_
 intro n hin hp
 exact rfl
theorem Du:aG prog G jh iZ:=by
 refine ad6 (aF (l:=[]) (ay ah) (fun x hx=>by cases hx)) ?_
 intro n hin hp
 exact rfl
theorem aj8:aC prog G D6 EP:=by
 refine aj9 (aF (l:=[(jh, .pure iZ),(eP, .eff (ai dG) dN),(nS, .pure mZ),(aU, .eff (ai aQ) aP)]) (ay ah) (by simp only [List.forall_mem_cons];exact ⟨⟨Du,Bq⟩,⟨oh,mF⟩,⟨MK,KU⟩,⟨dQ,dA⟩,fun x hx=>by cases hx⟩)) (fun _ _=>⟨((((0:Int),(0:Int),([]:List UInt8),()),()),(([],0,0,()),())),⟨by decide,by decide⟩⟩) ?_
 intro b i h hin hp
 have hp:0≤i:=hp
 repeat' first
  |exact trivial
  |refine af (fun _=>?_) fun _=>?_
  |refine And.intro ?_ ?_
  |(intro r hr;simp only [] at hr)
  |intro r hr
 all_goals first
  |omega
  |(dsimp only at*;omega)
  |exact hr
  |(simp only [beq_eq_false_iff_ne,ne_eq] at*;omega)
  |(simp only [List.length_set,List.length_take,List.length_append,List.length_cons,List.length_nil];omega)
  |(rw [gy];simp only [List.length_set,List.length_take,List.length_append,List.length_cons,List.length_nil];omega)
  |(simp only [List.length_set,List.length_take,List.length_append,List.length_cons,List.length_nil] at*;omega)
  |exact (show ∀ y∈_,List.length y.1≤10 from by decide) _ hr.2
  |(simp;done)
  |skip
theorem aal:aC prog G Ac zy:=by
 refine aos (aF (l:=[(eP, .eff (ai dG) dN),(eX, .eff (ai dI) dX),(aU, .eff (ai aQ) aP),(D6, .eff (ai xC) EP)]) (ay ah) (by simp only [List.forall_mem_cons];exact ⟨⟨oh,mF⟩,⟨pI,nP⟩,⟨dQ,dA⟩,⟨aj8,ahT⟩,fun x hx=>by cases hx⟩)) (fun _ _=>⟨((((0:Int),(0:Int),([]:List UInt8),()),()),(([],0,0,()),())),⟨by decide,by decide⟩⟩) ?_
 intro b i h hin hp
 have hp:0≤i:=hp
 repeat' first
  |exact trivial
  |refine af (fun _=>?_) fun _=>?_
  |refine And.intro ?_ ?_
  |(intro r hr;simp only [] at hr)
  |intro r hr
 all_goals first
  |omega
  |(dsimp only at*;omega)
  |exact hr
  |(simp only [beq_eq_false_iff_ne,ne_eq] at*;omega)
  |(simp only [List.length_set,List.length_take,List.length_append,List.length_cons,List.length_nil];omega)
  |(rw [gy];simp only [List.length_set,List.length_take,List.length_append,List.length_cons,List.length_nil];omega)
  |(simp only [List.length_set,List.length_take,List.length_append,List.length_cons,List.length_nil] at*;omega)
  |exact (show ∀ y∈_,List.length y.1≤10 from by decide) _ hr.2
  |(simp;done)
  |skip
theorem tq:aG prog G gU fD:=by
 refine aqD (aF (l:=[]) (ay ah) (fun x hx=>by cases hx)) ?_
 intro x a b hin hp
 refine af (fun h=>?_) fun h=>?_
 · have h:=iO h
   show (decide (x≤b),())=(decide (a≤x)&&decide (x≤b),())
   rw [decide_eq_true (show a≤x from h)];rfl
 · have h:=ji h
   show (false,())=(decide (a≤x)&&decide (x≤b),())
   rw [decide_eq_false (show ¬ a≤x from h)];rfl
theorem qx:aG prog G fO eF:=by
 refine aot (aF (l:=[]) (ay ah) (fun x hx=>by cases hx)) ?_
 intro x a b hin hp
 refine af (fun h=>?_) fun h=>?_
 · show (decide (x≤b),())=(decide (a≤x)&&decide (x≤b),())
   rw [h];rfl
 · show (false,())=(decide (a≤x)&&decide (x≤b),())
   rw [h];rfl
theorem UH {s:List UInt8} {n:Nat} (hlt:n<s.length) (hl:Sp.lower s=true):97≤(s.getD n 0).toNat∧(s.getD n 0).toNat≤122:=by
 have:=List.all_eq_true.1 hl _ (getD_mem (d:=0) hlt)
 simpa using this
theorem Yr:aG prog G xQ xE:=by
 refine aml (aF (l:=[(gU, .pure fD)]) (ay ah) (by simp only [List.forall_mem_cons];exact ⟨⟨tq,qw⟩,fun x hx=>by cases hx⟩)) ?_
 intro s most hin hp
 have hlen:s.length≤maxLen:=hin.1
 rw [maxLen_eq] at hlen
 refine ⟨fun y=>∃ n:Nat,y.1.1=n∧n≤s.length∧Sp.lower (s.take n)=true,fun y=>((s.length:Int)-y.1.1).toNat,⟨0,rfl,by omega,rfl⟩,?_⟩
 rintro ⟨⟨_,⟨⟩⟩,⟨⟩⟩ ⟨n,rfl,hn,hJ⟩
 dsimp only
 refine af (fun h=>?_) fun h=>?_<;>simp only [decide_eq_true_eq,decide_eq_false_iff_not] at h
 · have hlt:n<s.length:=by omega
   rw [iI _ (by omega),Int.toNat_natCast]
   refine ⟨⟨by omega,by omega⟩,af (fun h2=>?_) fun h2=>⟨⟨by omega,by omega⟩,af (fun h3=>?_) fun h3=>?_⟩⟩<;>simp only [decide_eq_true_eq,decide_eq_false_iff_not] at*
   · cases hl:Sp.lower s with
     |false=>rfl
     |true=>have:=UH hlt hl;omega
   · cases hl:Sp.lower s with
     |false=>rfl
     |true=>have:=UH hlt hl;omega
   · refine ⟨trivial,⟨n+1,by simp,by omega,?_⟩,by omega⟩
     rw [Sp.take_succ' s n 0 hlt]
     unfold Sp.lower at hJ ⊢
     rw [List.all_append,hJ]
     simp only [List.all_cons,List.all_nil,Bool.and_true,Bool.true_and,Bool.and_eq_true,decide_eq_true_eq]
     omega
 · have hge:n=s.length:=by omega
   rw [hge,List.take_length] at hJ
   rw [hJ]
   exact ⟨trivial,rfl⟩
theorem F7:aG prog G jI jM:=by
 refine aam (aF (l:=[(xQ, .pure xE)]) (ay ah) (by simp only [List.forall_mem_cons];exact ⟨⟨Yr,Wn⟩,fun x hx=>by cases hx⟩)) ?_
 intro s hin hp
 exact ⟨trivial,rfl⟩
theorem Ph:aG prog G nG oz:=by
 refine abP (aF (l:=[(jI, .pure jM),(gU, .pure fD)]) (ay ah) (by simp only [List.forall_mem_cons];exact ⟨⟨F7,EJ⟩,⟨tq,qw⟩,fun x hx=>by cases hx⟩)) ?_
 intro k n s hin hp
 refine af (fun h=>?_) fun h=>af (fun h2=>⟨trivial,af (fun h3=>?_) fun h3=>?_⟩) fun h2=>af (fun h3=>⟨trivial,af (fun h4=>?_) fun h4=>?_⟩) fun h3=>?_
 · have e:k=0:=by simpa using h
   subst e
   exact congrArg (·,()) (Bool.eq_iff_iff.2 (by simp [Sp.kK]))
 · have e:k=1:=by simpa using h2
   subst e
   exact congrArg (·,()) (Bool.eq_iff_iff.2 (by simp only [Bool.and_eq_true,decide_eq_true_eq] at h3;simp [Sp.kK,h3]))
 · have e:k=1:=by simpa using h2
   subst e
   exact congrArg (·,()) (Bool.eq_iff_iff.2 (by simp only [Sp.kK,h3];simp))
 · have e:k=2:=by simpa using h3
   subst e
   exact congrArg (·,()) (Bool.eq_iff_iff.2 (by simp [Sp.kK,h4]))
 · have e:k=2:=by simpa using h3
   subst e
   exact congrArg (·,()) (Bool.eq_iff_iff.2 (by simp [Sp.kK,h4]))
 · have e1:k≠0:=by simpa using h
   have e2:k≠1:=by simpa using h2
   have e3:k≠2:=by simpa using h3
   exact congrArg (·,()) (Bool.eq_iff_iff.2 (by simp [Sp.kK,e1,e2,e3]))
theorem Kw:aG prog G kQ lq:=by
 refine Xk (aF (l:=[(xQ, .pure xE)]) (ay ah) (by simp only [List.forall_mem_cons];exact ⟨⟨Yr,Wn⟩,fun x hx=>by cases hx⟩)) ?_
 intro s hin hp
 exact ⟨trivial,rfl⟩
theorem ah3:aG prog G Cm DN:=by
 refine ah4 (aF (l:=[]) (ay ah) (fun x hx=>by cases hx)) ?_
 intro s name hin hp
 have hlen:s.length≤maxLen:=hin.1.1
 rw [maxLen_eq] at hlen
 refine kW s.length hlen (fun n=>∀ i,i<n→(s.getD i ([],0,())).1≠name) (fun i hi=>by omega) (fun I μ n hn hJ next=>?_) fun I μ hJ=>?_
 · dsimp only
   refine iK (by omega) ⟨⟨by omega,by omega⟩,af (fun h=>⟨⟨by omega,by omega⟩,?_⟩) fun h=>⟨rfl,next fun i hi=>?_⟩⟩
   · exact congrArg (·,()) (Sp.agq s n hn hJ (by simpa only [Int.toNat_natCast,beq_iff_eq] using h)).symm
   · rcases Nat.lt_or_ge i n with h'|h'
     · exact hJ i h'
     · have:i=n:=by omega
       subst this
       have h2:((s.getD i ([],0,())).1==name)=false:=h
       exact fun e=>by rw [e] at h2;simp at h2
 · dsimp only
   exact iL (by omega) (congrArg (·,()) (Sp.Zb s hJ).symm)
theorem NS:aG prog G mg mP:=by
 refine aan (aF (l:=[(gU, .pure fD),(kQ, .pure lq)]) (ay ah) (by simp only [List.forall_mem_cons];exact ⟨⟨tq,qw⟩,⟨Kw,JV⟩,fun x hx=>by cases hx⟩)) ?_
 intro s hin hp
 have hlen:s.length≤maxLen:=hin.1.1
 rw [maxLen_eq] at hlen
 refine kW s.length hlen (fun n=>∀ i,i<n→Sp.nD s i=true) (fun i hi=>by omega) (fun I μ n hn hJ next=>?_) fun I μ hJ=>?_
 · dsimp only
   have no:Sp.nD s n=false→(false,())=(Sp.gQ s,()):=fun h=>by rw [Sp.ai7 hn h]
   refine iK (by omega) ⟨⟨by omega,by omega⟩,trivial,af (fun h2=>no ?_) fun h2=>⟨⟨by omega,by omega⟩,trivial,af (fun h3=>no ?_) fun h3=>af (fun h4=>?_) fun h4=>⟨rfl,next (dD hJ ?_)⟩⟩⟩
   · have h2:Sp.kH (Sp.fieldAt s n).1=false:=jE h2
     unfold Sp.nD;rw [h2];rfl
   · have h2:Sp.kH (Sp.fieldAt s n).1=true:=fJ h2
     have h3:(decide (1≤(Sp.fieldAt s n).2.1)&&decide ((Sp.fieldAt s n).2.1≤2))=false:=jE h3
     unfold Sp.nD;rw [h2,h3];rfl
   · have h2:Sp.kH (Sp.fieldAt s n).1=true:=fJ h2
     have h3:(decide (1≤(Sp.fieldAt s n).2.1)&&decide ((Sp.fieldAt s n).2.1≤2))=true:=fJ h3
     have h4:0<n:=by have:=iO h4;omega
     rw [wz h4 (by omega)]
     refine ⟨⟨by omega,by omega⟩,⟨by omega,by omega⟩,af (fun h5=>no ?_) fun h5=>⟨rfl,next (dD hJ ?_)⟩⟩
     · have h5:Op.bytesLess (Sp.fieldAt s (n-1)).1 (Sp.fieldAt s n).1=false:=jE h5
       unfold Sp.nD;rw [h2,h3,h5,decide_eq_true h4];rfl
     · have h5:Op.bytesLess (Sp.fieldAt s (n-1)).1 (Sp.fieldAt s n).1=true:=fJ h5
       unfold Sp.nD;rw [h2,h3,h5,decide_eq_true h4];rfl
   · have h2:Sp.kH (Sp.fieldAt s n).1=true:=fJ h2
     have h3:(decide (1≤(Sp.fieldAt s n).2.1)&&decide ((Sp.fieldAt s n).2.1≤2))=true:=fJ h3
     have h4:¬ 0<n:=by have:=ji h4;omega
     unfold Sp.nD;rw [h2,h3,decide_eq_false h4];rfl
 · dsimp only
   refine iL (by omega) (congrArg (·,()) ?_)
   unfold Sp.gQ
   rw [mO hJ];rfl
theorem aao:aG prog G vF yC:=by
 refine aap (aF (l:=[(Cm, .pure DN),(nG, .pure oz)]) (ay ah) (by simp only [List.forall_mem_cons];exact ⟨⟨ah3,agc⟩,⟨Ph,NI⟩,fun x hx=>by cases hx⟩)) ?_
 intro fs s k n w hin hp
 refine ⟨trivial,af (fun h=>af (fun h2=>⟨trivial,?_⟩) fun h2=>?_) fun h=>?_⟩
 · exact congrArg (·,()) (Bool.eq_iff_iff.2 (by simp only [bne_iff_ne,ne_eq] at h2;simp [Sp.kN,h,h2]))
 · exact congrArg (·,()) (Bool.eq_iff_iff.2 (by simp at h2;simp [Sp.kN,h2]))
 · exact congrArg (·,()) (Bool.eq_iff_iff.2 (by simp [Sp.kN,h]))
theorem Qc:aG prog G oW pV:=by
 refine ad7 (aF (l:=[(gU, .pure fD),(mg, .pure mP),(vF, .pure yC)]) (ay ah) (by simp only [List.forall_mem_cons];exact ⟨⟨tq,qw⟩,⟨NS,LJ⟩,⟨aao,Y7⟩,fun x hx=>by cases hx⟩)) ?_
 intro fs f0 f1 f2 f3 f4 hin hp
 have hlen:f4.length≤maxLen:=hin.2.1.2.2.2.2.1.1
 rw [maxLen_eq] at hlen
 refine kW f4.length hlen (fun n=>∀ i,i<n→Sp.qK fs f4 i=true) (fun i hi=>by omega) (fun I μ n hn hJ next=>?_) fun I μ hJ=>?_
 · dsimp only
   have no:Sp.qK fs f4 n=false→(false,())=(Sp.eU fs (f0,f1,f2,f3,f4,()),()):=fun h=>by rw [Sp.apW (f:=(f0,f1,f2,f3,f4,())) hn h]
   refine iK (by omega) ⟨⟨by omega,by omega⟩,⟨by omega,by omega⟩,trivial,af (fun h2=>no ?_) fun h2=>af (fun h4=>?_) fun h4=>⟨rfl,next (dD hJ ?_)⟩⟩
   · have h2:Sp.kN fs (Sp.dR f4 n).1 (Sp.dR f4 n).2.1 (Sp.dR f4 n).2.2.1 (Sp.dR f4 n).2.2.2.1=false:=jE h2
     unfold Sp.qK;rw [h2];rfl
   · have h2:Sp.kN fs (Sp.dR f4 n).1 (Sp.dR f4 n).2.1 (Sp.dR f4 n).2.2.1 (Sp.dR f4 n).2.2.2.1=true:=fJ h2
     have h4:0<n:=by have:=iO h4;omega
     rw [wz h4 (by omega)]
     refine ⟨⟨by omega,by omega⟩,⟨by omega,by omega⟩,af (fun h5=>no ?_) fun h5=>⟨rfl,next (dD hJ ?_)⟩⟩
     · have h5:Op.bytesLess (Sp.dR f4 (n-1)).1 (Sp.dR f4 n).1=false:=jE h5
       unfold Sp.qK;rw [h2,h5,decide_eq_true h4];rfl
     · have h5:Op.bytesLess (Sp.dR f4 (n-1)).1 (Sp.dR f4 n).1=true:=fJ h5
       unfold Sp.qK;rw [h2,h5,decide_eq_true h4];rfl
   · have h2:Sp.kN fs (Sp.dR f4 n).1 (Sp.dR f4 n).2.1 (Sp.dR f4 n).2.2.1 (Sp.dR f4 n).2.2.2.1=true:=fJ h2
     have h4:¬ 0<n:=by have:=ji h4;omega
     unfold Sp.qK;rw [h2,decide_eq_false h4];rfl
 · dsimp only
   have ha:Sp.uf fs f4=true:=mO hJ
   refine iL (by omega) ⟨trivial,af (fun h1=>⟨trivial,af (fun h2=>⟨trivial,af (fun h3=>⟨trivial,?_⟩) fun h3=>?_⟩) fun h2=>?_⟩) fun h1=>?_⟩
   · refine congrArg (·,()) ?_
     unfold Sp.eU
     rw [ha,h1,h2,h3];rfl
   · refine congrArg (·,()) ?_
     unfold Sp.eU
     rw [ha,h1,h2,h3];rfl
   · refine congrArg (·,()) ?_
     unfold Sp.eU
     rw [ha,h1,h2];rfl
   · refine congrArg (·,()) ?_
     unfold Sp.eU
     rw [ha,h1];rfl
theorem Hu:aG prog G jX ku:=by
 refine abQ (aF (l:=[(gU, .pure fD),(mg, .pure mP),(oW, .pure pV)]) (ay ah) (by simp only [List.forall_mem_cons];exact ⟨⟨tq,qw⟩,⟨NS,LJ⟩,⟨Qc,O8⟩,fun x hx=>by cases hx⟩)) ?_
 intro s0 s1 s2 hin hp
 have hlen:s1.length≤maxLen:=hin.1.2.1.1
 rw [maxLen_eq] at hlen
 refine kW s1.length hlen (fun n=>∀ i,i<n→Sp.pJ (s0,s1,s2,()) i=true) (fun i hi=>by omega) (fun I μ n hn hJ next=>?_) fun I μ hJ=>?_
 · dsimp only
   have no:Sp.pJ (s0,s1,s2,()) n=false→(false,())=(Sp.dF (s0,s1,s2,()),()):=fun h=>by rw [Sp.amm (s:=(s0,s1,s2,())) hn h]
   refine iK (by omega) ⟨⟨by omega,by omega⟩,trivial,af (fun h2=>no ?_) fun h2=>⟨⟨by omega,by omega⟩,af (fun h3=>no ?_) fun h3=>af (fun h4=>?_) fun h4=>⟨rfl,next (dD hJ ?_)⟩⟩⟩
   · have h2:Sp.eU s0 (Sp.fileAt s1 n)=false:=jE h2
     show (Sp.eU s0 (Sp.fileAt s1 n)&&_&&_)=false
     rw [h2];rfl
   · have h2:Sp.eU s0 (Sp.fileAt s1 n)=true:=fJ h2
     have h3:¬ (Sp.fileAt s1 n).1<s2:=by have h3:(Sp.fileAt s1 n).1≥s2:=iO h3;omega
     show (Sp.eU s0 (Sp.fileAt s1 n)&&decide ((Sp.fileAt s1 n).1<s2)&&_)=false
     rw [h2,decide_eq_false h3];rfl
   · have h2:Sp.eU s0 (Sp.fileAt s1 n)=true:=fJ h2
     have h3:(Sp.fileAt s1 n).1<s2:=by have h3:¬ (Sp.fileAt s1 n).1≥s2:=ji h3;omega
     have h4:0<n:=by have:=iO h4;omega
     rw [wz h4 (by omega)]
     refine ⟨⟨by omega,by omega⟩,⟨by omega,by omega⟩,af (fun h5=>no ?_) fun h5=>⟨rfl,next (dD hJ ?_)⟩⟩
     · have h5:¬ (Sp.fileAt s1 (n-1)).1<(Sp.fileAt s1 n).1:=by have h5:(Sp.fileAt s1 (n-1)).1≥(Sp.fileAt s1 n).1:=iO h5;omega
       show (Sp.eU s0 (Sp.fileAt s1 n)&&decide ((Sp.fileAt s1 n).1<s2)&&!(decide (0<n)&&!decide ((Sp.fileAt s1 (n-1)).1<(Sp.fileAt s1 n).1)))=false
       rw [h2,decide_eq_true h3,decide_eq_true h4,decide_eq_false h5];rfl
     · have h5:(Sp.fileAt s1 (n-1)).1<(Sp.fileAt s1 n).1:=by have h5:¬ (Sp.fileAt s1 (n-1)).1≥(Sp.fileAt s1 n).1:=ji h5;omega
       show (Sp.eU s0 (Sp.fileAt s1 n)&&decide ((Sp.fileAt s1 n).1<s2)&&!(decide (0<n)&&!decide ((Sp.fileAt s1 (n-1)).1<(Sp.fileAt s1 n).1)))=true
       rw [h2,decide_eq_true h3,decide_eq_true h4,decide_eq_true h5];rfl
   · have h2:Sp.eU s0 (Sp.fileAt s1 n)=true:=fJ h2
     have h3:(Sp.fileAt s1 n).1<s2:=by have h3:¬ (Sp.fileAt s1 n).1≥s2:=ji h3;omega
     have h4:¬ 0<n:=by have:=ji h4;omega
     show (Sp.eU s0 (Sp.fileAt s1 n)&&decide ((Sp.fileAt s1 n).1<s2)&&!(decide (0<n)&&!decide ((Sp.fileAt s1 (n-1)).1<(Sp.fileAt s1 n).1)))=true
     rw [h2,decide_eq_true h3,decide_eq_false h4];rfl
 · dsimp only
   have ha:Sp.oK s1.length (Sp.pJ (s0,s1,s2,()))=true:=mO hJ
   refine iL (by omega) ⟨trivial,af (fun h1=>af (fun h2=>⟨trivial,?_⟩) fun h2=>?_) fun h1=>?_⟩
   · refine congrArg (·,()) ?_
     show _=(Sp.oK s1.length (Sp.pJ (s0,s1,s2,()))&&Sp.gQ s0&&decide ((s1.length:Int)≤12)&&(decide (1≤s2)&&decide (s2≤61)))
     rw [ha,h1,h2];rfl
   · refine congrArg (·,()) ?_
     show _=(Sp.oK s1.length (Sp.pJ (s0,s1,s2,()))&&Sp.gQ s0&&decide ((s1.length:Int)≤12)&&(decide (1≤s2)&&decide (s2≤61)))
     rw [ha,h1,h2];rfl
   · refine congrArg (·,()) ?_
     show _=(Sp.oK s1.length (Sp.pJ (s0,s1,s2,()))&&Sp.gQ s0&&decide ((s1.length:Int)≤12)&&(decide (1≤s2)&&decide (s2≤61)))
     rw [ha,h1];rfl
theorem agr:aG prog G Aj Dj:=by
 refine ags (aF (l:=[]) (ay ah) (fun x hx=>by cases hx)) ?_
 intro a b hin hp
 have hlen:a.length≤maxLen:=hin.1.1
 rw [maxLen_eq] at hlen
 refine af (fun h=>?_) fun h=>?_
 · have h:(a.length:Int)≠b.length:=by simpa using h
   exact congrArg (·,()) (decide_eq_false fun e=>h (by rw [e])).symm
 · have h:(a.length:Int)=b.length:=by simpa using h
   exact aaq (K:=fun r=>r=(decide (a=b),())) (fun x y=>!(x.1==y.1&&(x.2.1==y.2.1&&true))) (fun x y=>by simp [Prod.ext_iff]) _ a b _ hlen (by omega) (fun e=>by rw [decide_eq_false e]) fun e=>by rw [decide_eq_true e]
theorem ah5:aG prog G CG DT:=by
 refine ah6 (aF (l:=[]) (ay ah) (fun x hx=>by cases hx)) ?_
 intro a b hin hp
 have hlen:a.length≤maxLen:=hin.1.1
 rw [maxLen_eq] at hlen
 refine af (fun h=>?_) fun h=>?_
 · have h:(a.length:Int)≠b.length:=by simpa using h
   exact congrArg (·,()) (decide_eq_false fun e=>h (by rw [e])).symm
 · have h:(a.length:Int)=b.length:=by simpa using h
   exact aaq (K:=fun r=>r=(decide (a=b),())) (fun x y=>!(x.1==y.1&&(x.2.1==y.2.1&&(x.2.2.1==y.2.2.1&&(x.2.2.2.1==y.2.2.2.1&&true))))) (fun x y=>by simp [Prod.ext_iff]) _ a b _ hlen (by omega) (fun e=>by rw [decide_eq_false e]) fun e=>by rw [decide_eq_true e]
theorem akb:aG prog G D7 ER:=by
 refine akc (aF (l:=[(CG, .pure DT)]) (ay ah) (by simp only [List.forall_mem_cons];exact ⟨⟨ah5,agf⟩,fun x hx=>by cases hx⟩)) ?_
 intro a0 a1 a2 a3 a4 b0 b1 b2 b3 b4 hin hp
 refine af (fun h0=>af (fun h1=>af (fun h2=>af (fun h3=>⟨trivial,?_⟩) fun h3=>?_) fun h2=>?_) fun h1=>?_) fun h0=>?_
 all_goals refine congrArg (·,()) (Bool.eq_iff_iff.2 ?_)
 · simp only [beq_iff_eq] at h0 h1 h2 h3
   subst h0 h1 h2 h3
   simp
 · have h3:a3≠b3:=by simpa using h3
   simp [h3]
 · have h2:a2≠b2:=by simpa using h2
   simp [h2]
 · have h1:a1≠b1:=by simpa using h1
   simp [h1]
 · have h0:a0≠b0:=by simpa using h0
   simp [h0]
theorem ah7:aG prog G CJ DU:=by
 refine ah8 (aF (l:=[(D7, .pure ER)]) (ay ah) (by simp only [List.forall_mem_cons];exact ⟨⟨akb,ahU⟩,fun x hx=>by cases hx⟩)) ?_
 intro a b hin hp
 have hlen:a.length≤maxLen:=hin.1.1
 rw [maxLen_eq] at hlen
 refine af (fun h=>?_) fun h=>?_
 · have h:(a.length:Int)≠b.length:=by simpa using h
   exact congrArg (·,()) (decide_eq_false fun e=>h (by rw [e])).symm
 · have h:(a.length:Int)=b.length:=by simpa using h
   exact abR (K:=fun r=>r=(decide (a=b),())) (fun x y=>!decide ((x.1,x.2.1,x.2.2.1,x.2.2.2.1,x.2.2.2.2.1,())=(y.1,y.2.1,y.2.2.1,y.2.2.2.1,y.2.2.2.2.1,()))) (fun x y=>by simp [Prod.ext_iff]) _ a b _ hlen (by omega) (fun e=>by rw [decide_eq_false e]) fun e=>by rw [decide_eq_true e]
theorem ah9:aG prog G CS DV:=by
 refine aia (aF (l:=[(CJ, .pure DU),(Aj, .pure Dj)]) (ay ah) (by simp only [List.forall_mem_cons];exact ⟨⟨ah7,agh⟩,⟨agr,adZ⟩,fun x hx=>by cases hx⟩)) ?_
 intro a0 a1 a2 b0 b1 b2 hin hp
 refine ⟨trivial,af (fun h0=>⟨trivial,af (fun h1=>?_) fun h1=>?_⟩) fun h0=>?_⟩
 all_goals refine congrArg (·,()) (Bool.eq_iff_iff.2 ?_)
 · have h0:=iO h0
   have h1:=iO h1
   subst h0 h1
   simp
 · have h1:=ji h1
   simp [h1]
 · have h0:=ji h0
   simp [h0]
theorem Yt:aG prog G xU xG:=by
 refine amn (aF (l:=[]) (ay ah) (fun x hx=>by cases hx)) ?_
 intro f0 f1 f2 f3 f4 hin hp
 have hp:f4.length≤1000:=hp
 exact ⟨by rw [gy];omega,rfl⟩
theorem SX:aG prog G nT qO:=by
 refine SY (aF (l:=[]) (ay ah) (fun x hx=>by cases hx)) ?_
 intro l hin hp
 intro g hg
 have hp:l.length≤1000:=hp
 refine af (fun h=>?_) fun h=>⟨by rw [gy];omega,rfl⟩
 have:=List.length_eq_zero_iff.1 (hg h)
 rw [this]
theorem UI:aG prog G oZ sJ:=by
 refine UJ (aF (l:=[]) (ay ah) (fun x hx=>by cases hx)) ?_
 intro l hin hp
 intro g hg
 have hp:l.length≤1000:=hp
 refine af (fun h=>?_) fun h=>⟨by rw [gy];omega,rfl⟩
 have:=List.length_eq_zero_iff.1 (hg h)
 rw [this]
theorem akd:aG prog G Ea ES:=by
 refine ake (aF (l:=[(oZ, .pure sJ)]) (ay ah) (by simp only [List.forall_mem_cons];exact ⟨⟨UI,SI⟩,fun x hx=>by cases hx⟩)) ?_
 intro f0 f1 f2 f3 f4 hin hp
 exact ⟨hp,rfl⟩
theorem aou:aG prog G Ib Jf:=by
 refine aov (aF (l:=[(fO, .pure eF)]) (ay ah) (by simp only [List.forall_mem_cons];exact ⟨⟨qx,nY⟩,fun x hx=>by cases hx⟩)) ?_
 intro n hin hp
 exact ⟨trivial,rfl⟩
theorem akf:aG prog G D8 ET:=by
 refine akg (aF (l:=[]) (ay ah) (fun x hx=>by cases hx)) ?_
 intro s0 s1 s2 id hin hp
 have hlen:s1.length≤maxLen:=hin.1.2.1.1
 rw [maxLen_eq] at hlen
 refine kW s1.length hlen (fun n=>∀ i,i<n→(Sp.fileAt s1 i).1≠id) (fun i hi=>by omega) (fun I μ n hn hJ next=>?_) fun I μ hJ=>?_
 · dsimp only
   refine iK (by omega) ⟨⟨by omega,by omega⟩,af (fun h=>?_) fun h=>⟨rfl,next fun i hi=>?_⟩⟩
   · have h:(Sp.fileAt s1 n).1=id:=iO h
     exact congrArg (·,()) (Sp.WH hn hJ h).symm
   · rcases Nat.lt_or_ge i n with h'|h'
     · exact hJ i h'
     · have:i=n:=by omega
       subst this
       have h:¬ (Sp.fileAt s1 i).1=id:=ji h
       exact h
 · dsimp only
   exact iL (by omega) (congrArg (·,()) (Sp.amo hJ).symm)
theorem set_self {fs:List Sp.je} {n:Nat} (hn:n<fs.length):fs.set n (fs.getD n (0,0,false,0,[],()))=fs:=by
 refine List.ext_getElem (by simp) fun i h1 h2=>?_
 rw [List.getElem_set]
 split
 · next e=>subst e;rw [List.getD_eq_getElem?_getD,List.getElem?_eq_getElem hn];rfl
 · rfl
theorem WI {s:List Sp.jr} (p:Sp.jr→Bool) {n:Nat} (hn:n<s.length):(s.take (n+1)).filter p=(s.take n).filter p++(if p (Sp.dR s n)=true then [Sp.dR s n] else []):=by
 rw [Sp.take_succ' s n ([],0,0,[],()) hn,List.filter_append]
 congr 1
 show List.filter _ [Sp.dR s n]=_
 by_cases h:p (Sp.dR s n)=true
 · rw [List.filter_cons_of_pos h,if_pos h];rfl
 · rw [List.filter_cons_of_neg h,if_neg h];rfl
theorem amq (s:List Sp.jr) (p:Sp.jr→Bool) (n:Nat):((s.take n).filter p).length≤n:=by
 have:=List.length_filter_le p (s.take n)
 rw [List.length_take] at this
 omega
theorem asb (al:List Sp.jr) (name:Sp.Bytes) (n:Int) (s:Sp.Bytes):Sp.mV al name 0 n s=al.filter (Sp.vT name):=rfl
theorem auz {al:List Sp.jr} {name:Sp.Bytes} {k n:Int} {s:Sp.Bytes} (hk:k≠0) {l:List Sp.jr} (hl:l=al.filter (Sp.vT name)) {m:Nat} (hm:m≤l.length)
 (h1:∀ i,i<m→Sp.yc name (Sp.dR l i)=true) (h2:m<l.length→Sp.yc name (Sp.dR l m)=false):
 List.drop 0 (List.take m l)++[(name,k,n,s,())]++List.drop m (List.take l.length l)=Sp.mV al name k n s:=by
 obtain ⟨e1,e2⟩:=Sp.WJ (d:=(([]:List UInt8),(0:Int),(0:Int),([]:List UInt8),())) l m hm h1 h2
 unfold Sp.mV Sp.ahA
 rw [decide_eq_false hk,← hl]
 show _=l.takeWhile (Sp.yc name)++_::l.dropWhile (Sp.yc name)
 rw [e1,e2,List.take_length,List.drop_zero,List.append_assoc]
 rfl
theorem Yu:aC prog G xR xH:=by
 refine amr (aF (l:=[]) (ay ah) (fun x hx=>by cases hx)) (fun ⟨(i,o,s,l,a,_),name,(k,n,w,_),_⟩ _=>⟨(((i,o,s,l,Sp.mV a name k n w,()),()),()),⟨rfl,rfl,rfl,rfl,rfl⟩⟩) ?_
 intro f0 f1 f2 f3 f4 name k n s hin hp
 have hp:f4.length≤1000:=hp
 refine nR (fun i (x:List Sp.jr)=>(((),i,()),x,())) (fun y=>y.1.2.1) (fun _ _=>rfl) f4.length (by omega) (fun m l=>l=(f4.take m).filter (Sp.vT name)) (by simp) (fun I μ m l hm hJ next=>?_) fun I μ l hJ=>?_
 · subst hJ
   have hl:=amq f4 (Sp.vT name) m
   dsimp only
   refine iK (by omega) ⟨⟨by omega,by omega⟩,af (fun h=>⟨⟨by omega,by omega⟩,by rw [gy];simp only [List.length_cons,List.length_nil];omega,rfl,next _ ?_⟩) fun h=>⟨rfl,next _ ?_⟩⟩
   · rw [WI _ hm,if_pos (show Sp.vT name (Sp.dR f4 m)=true from h)];rfl
   · rw [WI _ hm,if_neg (show ¬ Sp.vT name (Sp.dR f4 m)=true from fun h'=>by have h:Sp.vT name (Sp.dR f4 m)=false:=h;rw [h] at h';cases h'),List.append_nil]
 · rw [List.take_length] at hJ
   have hl:l.length≤1000:=by rw [hJ];have:=List.length_filter_le (Sp.vT name) f4;omega
   dsimp only
   refine iL (by omega) (af (fun h=>?_) fun h=>?_)
   · have hk:k≠0:=by simpa using h
     have fin:∀ m:Nat,m≤l.length→(∀ i,i<m→Sp.yc name (Sp.dR l i)=true)→(m<l.length→Sp.yc name (Sp.dR l m)=false)→
      ((0:Int)≤m∧(m:Int)≤l.length)∧0+(List.drop 0 (List.take m l)).length≤big∧(List.drop 0 (List.take m l)).length+[(name,k,n,s,())].length≤big∧((0:Int)≤m∧(m:Int)≤l.length)∧
      (List.drop 0 (List.take m l)++[(name,k,n,s,())]).length+(List.drop m (List.take l.length l)).length≤big∧
      (f0=f0∧f1=f1∧f2=f2∧f3=f3∧List.drop 0 (List.take m l)++[(name,k,n,s,())]++List.drop m (List.take l.length l)=Sp.mV f4 name k n s):=by
      intro m hm h1 h2
      refine ⟨⟨by omega,by omega⟩,?_,?_,⟨by omega,by omega⟩,?_,rfl,rfl,rfl,rfl,auz hk hJ hm h1 h2⟩
      all_goals
       rw [gy]
       simp only [List.length_append,List.length_drop,List.length_take,List.length_cons,List.length_nil]
       omega
     refine kW l.length (by omega) (fun m=>∀ i,i<m→Sp.yc name (Sp.dR l i)=true) (fun i hi=>by omega) (fun I μ m hm hJ2 next=>?_) fun I μ hJ2=>?_
     · dsimp only
       refine iK (by omega) ⟨⟨by omega,by omega⟩,hm,af (fun h2=>⟨rfl,next (dD (f:=fun i=>Sp.yc name (Sp.dR l i)) hJ2 h2)⟩) fun h2=>?_⟩
       exact fin m (by omega) hJ2 fun _=>h2
     · dsimp only
       exact iL (by omega) (fin l.length (Nat.le_refl _) hJ2 fun h'=>by omega)
   · have hk:k=0:=by simpa using h
     subst hk
     exact ⟨rfl,rfl,rfl,rfl,by rw [asb];exact hJ⟩
theorem akh:aC prog G D9 EU:=by
 refine aki (aF (l:=[]) (ay ah) (fun x hx=>by cases hx)) (fun ⟨s,_⟩ _=>⟨(((s,[],1,()),()),()),⟨rfl,rfl,rfl⟩⟩) ?_
 intro s hin hp
 have hp:s.length≤1000:=hp
 exact ⟨by rw [gy];omega,rfl,rfl,rfl⟩
theorem Pj:aC prog G qm oO:=by
 refine ams (aF (l:=[(xU, .pure xG)]) (ay ah) (by simp only [List.forall_mem_cons];exact ⟨⟨Yt,Wp⟩,fun x hx=>by cases hx⟩)) (fun ⟨(a,l,nx,_),_⟩ _=>⟨(((a,l,nx,()),()),()),rfl⟩) ?_
 intro s0 s1 s2 hin hp
 obtain ⟨h0,h1,h2⟩:s0.length≤1000∧s1.length≤1000∧∀ f∈s1,Sp.lT f:=hp
 refine ⟨by rw [gy];omega,?_⟩
 refine nR (fun i (x:List Sp.je)=>((i,()),((),(),s2,()),x,())) (fun y=>y.1.1) (fun _ _=>rfl) s1.length (by omega) (fun n l=>l=s1.take n) (by simp) (fun I μ n l hn hJ next=>?_) fun I μ l hJ=>?_
 · subst hJ
   have hl:(s1.take n).length≤n:=by rw [List.length_take];omega
   dsimp only
   refine iK (by omega) ⟨⟨by omega,by omega⟩,h2 _ (getD_mem (d:=((0:Int),(0:Int),false,(0:Int),[],())) hn),by rw [gy];simp only [List.length_cons,List.length_nil];omega,rfl,next _ ?_⟩
   exact (Sp.take_succ' s1 n (0,0,false,0,[],()) hn).symm
 · subst hJ
   dsimp only
   refine iL (by omega) ?_
   rw [List.take_length]
theorem RH:aC prog G qC rF:=by
 refine agt (aF (l:=[(oW, .pure pV),(jX, .pure ku),(xU, .pure xG),(qm, .eff (ai lQ) oO)]) (ay ah) (by simp only [List.forall_mem_cons];exact ⟨⟨Qc,O8⟩,⟨Hu,FZ⟩,⟨Yt,Wp⟩,⟨Pj,MJ⟩,fun x hx=>by cases hx⟩)) (fun ⟨s,f,_⟩ _=>⟨((((Sp.bU s f).1.1,(Sp.bU s f).1.2.1,(Sp.bU s f).1.2.2.1,()),(Sp.bU s f).2.1,(Sp.bU s f).2.2,()),()),⟨rfl,rfl,rfl,rfl,rfl⟩⟩) ?_
 intro s0 s1 s2 f0 f1 f2 f3 f4 hin hp
 refine ⟨hp.1,?_⟩
 rintro ⟨⟨⟨a,l,nx,⟨⟩⟩,⟨⟩⟩,⟨⟩⟩ e
 obtain ⟨rfl,rfl,rfl⟩:a=s0∧l=s1∧nx=s2:=by simpa using e
 have hs:l.length≤1000:=hp.1.2.1
 have no:¬ (Sp.dF (a,l,nx,())=true∧l.length<12∧Sp.eU a (nx,f1,f2,f3,f4,())=true)→Sp.bU (a,l,nx,()) (f0,f1,f2,f3,f4,())=((a,l,nx,()),0,false):=fun h=>by
  rcases Sp.yg (a,l,nx,()) (f0,f1,f2,f3,f4,()) with ⟨e,_⟩|⟨h1,h2,h3,_⟩
  · exact e
  · exact (h ⟨h1,h2,h3⟩).elim
 refine ⟨hp.2,trivial,af (fun h1=>?_) fun h1=>af (fun h2=>?_) fun h2=>⟨trivial,af (fun h3=>?_) fun h3=>?_⟩⟩
 · have:=no fun h=>by have h1:=jE h1;have:=h.1;rw [show Sp.dF (a,l,nx,())=false from h1] at this;cases this
   dsimp only
   rw [this];exact ⟨rfl,rfl,rfl,rfl,rfl⟩
 · have:=no fun h=>by have h2:(l.length:Int)≥12:=iO h2;omega
   dsimp only
   rw [this];exact ⟨rfl,rfl,rfl,rfl,rfl⟩
 · have:=no fun h=>by have h3:=jE h3;have:=h.2.2;rw [show Sp.eU a (nx,f1,f2,f3,f4,())=false from h3] at this;cases this
   dsimp only
   rw [this];exact ⟨rfl,rfl,rfl,rfl,rfl⟩
 · have g1:Sp.dF (a,l,nx,())=true:=fJ h1
   have g2:l.length<12:=by have h2:¬ (l.length:Int)≥12:=ji h2;omega
   have g3:Sp.eU a (nx,f1,f2,f3,f4,())=true:=fJ h3
   rcases Sp.yg (a,l,nx,()) (f0,f1,f2,f3,f4,()) with ⟨_,e⟩|⟨_,_,_,e⟩
   · exact (e ⟨g1,g2,g3⟩).elim
   · have hnx:=(Sp.EL.1 g1).2.2.2
     have w:IntKind.i64.wrap (nx+1)=nx+1:=iI _ (by have h5:nx≤61:=hnx.2;have h6:1≤nx:=hnx.1;omega)
     refine ⟨by rw [gy];simp only [List.length_cons,List.length_nil];omega,?_⟩
     dsimp only
     rw [e,w];exact ⟨rfl,rfl,rfl,rfl,rfl⟩
theorem agu:aC prog G Ak Dk:=by
 refine agv (aF (l:=[(jX, .pure ku),(D8, .pure ET),(qm, .eff (ai lQ) oO)]) (ay ah) (by simp only [List.forall_mem_cons];exact ⟨⟨Hu,FZ⟩,⟨akf,ahW⟩,⟨Pj,MJ⟩,fun x hx=>by cases hx⟩)) (fun ⟨s,id,_⟩ _=>⟨((((Sp.fB s id).1.1,(Sp.fB s id).1.2.1,(Sp.fB s id).1.2.2.1,()),(Sp.fB s id).2,()),()),⟨rfl,rfl,rfl,rfl⟩⟩) ?_
 intro s0 s1 s2 id hin hp
 refine ⟨hp,?_⟩
 rintro ⟨⟨⟨a,l,nx,⟨⟩⟩,⟨⟩⟩,⟨⟩⟩ e
 obtain ⟨rfl,rfl,rfl⟩:a=s0∧l=s1∧nx=s2:=by simpa using e
 have hs:l.length≤1000:=hp.2.1
 have no:¬ (Sp.dF (a,l,nx,())=true∧0≤Sp.place l id)→Sp.fB (a,l,nx,()) id=((a,l,nx,()),false):=fun h=>by
  rcases Sp.Df (a,l,nx,()) id with ⟨e,_⟩|⟨n,hn,h1,h2,_⟩
  · exact e
  · exact (h ⟨h2,by have h1:Sp.place l id=n:=h1;omega⟩).elim
 refine ⟨trivial,trivial,af (fun h1=>?_) fun h1=>af (fun h2=>?_) fun h2=>?_⟩
 · have:=no fun h=>by have h1:=jE h1;have:=h.1;rw [show Sp.dF (a,l,nx,())=false from h1] at this;cases this
   dsimp only
   rw [this];exact ⟨rfl,rfl,rfl,rfl⟩
 · have:=no fun h=>by have h2:Sp.place l id<0:=iO h2;omega
   dsimp only
   rw [this];exact ⟨rfl,rfl,rfl,rfl⟩
 · have g1:Sp.dF (a,l,nx,())=true:=fJ h1
   have g2:0≤Sp.place l id:=by have h2:¬ Sp.place l id<0:=ji h2;omega
   rcases Sp.Df (a,l,nx,()) id with ⟨_,e⟩|⟨n,hn,hpl,_,e⟩
   · exact (e ⟨g1,g2⟩).elim
   · have hn:n<l.length:=hn
     have hpl:Sp.place l id=n:=hpl
     have w:IntKind.i64.wrap ((n:Int)+1)=((n+1:Nat):Int):=iI _ (by omega)
     dsimp only
     rw [hpl,e,w,Int.toNat_natCast,Int.toNat_natCast,List.drop_zero,List.take_length,gy]
     refine ⟨⟨by omega,by omega⟩,by rw [List.length_take];omega,⟨by omega,by omega⟩,by rw [List.length_take,List.length_drop];omega,rfl,?_,rfl,rfl⟩
     exact (List.eraseIdx_eq_take_drop_succ ..).symm
def ahB (L:List (List Sp.jr)) (name:Sp.Bytes) (vals:List (Int×Int×Sp.Bytes)):List (List Sp.jr):=L++L.flatMap fun a=>vals.map fun v=>Sp.mV a name v.1 v.2.1 v.2.2
theorem BH {L:List (List Sp.jr)} {name:Sp.Bytes} {vals:List (Int×Int×Sp.Bytes)} {a:List Sp.jr} (h:a∈L):a∈ahB L name vals:=List.mem_append_left _ h
theorem Yv {L:List (List Sp.jr)} {name:Sp.Bytes} {vals:List (Int×Int×Sp.Bytes)} {a:List Sp.jr} (h:a∈L) {k n:Int} {s:Sp.Bytes} (hv:(k,n,s)∈vals):Sp.mV a name k n s∈ahB L name vals:=
 List.mem_append_right _ (List.mem_flatMap.2 ⟨a,h,List.mem_map.2 ⟨(k,n,s),hv,rfl⟩⟩)
def ints:List (Int×Int×Sp.Bytes):=[(1,0,[]),(1,1,[]),(1,2,[]),(1,3,[])]
def names:List (Int×Int×Sp.Bytes):=[(2,0,[105,110,107]),(2,0,[115,101,97])]
def tags:List (Int×Int×Sp.Bytes):=[(2,0,[114,101,100]),(2,0,[98,108,117,101])]
def amu:List (List Sp.jr):=ahB [[]] [97] ints
def amv:List (List Sp.jr):=ahB amu [98] ints
def amw:List (List Sp.jr):=ahB amv [110] names
def amx:List (List Sp.jr):=ahB amw [116] tags
theorem avS:(amx.all fun a=>Sp.uf Sp.usual a&&decide (a.length≤4))=true:=by kernel_rfl
theorem Yw {a:List Sp.jr} (h:a∈amx):Sp.uf Sp.usual a=true∧a.length≤4:=by
 have:=List.all_eq_true.1 avS a h
 simpa using this
theorem awI {a:List Sp.jr} (h:a∈amu):a.length≤4:=(Yw (BH (BH (BH h)))).2
theorem awJ {a:List Sp.jr} (h:a∈amv):a.length≤4:=(Yw (BH (BH h))).2
theorem awK {a:List Sp.jr} (h:a∈amw):a.length≤4:=(Yw (BH h)).2
theorem asc {x:Int} (h0:0≤x) (h1:x<4):((1:Int),x,([]:Sp.Bytes))∈ints:=by
 rcases (show x=0∨x=1∨x=2∨x=3 by omega) with h|h|h|h<;>subst h<;>simp [ints]
theorem avn {w:Sp.Bytes} (h:(w,())∈[(([105,110,107]:Sp.Bytes),()),([115,101,97],())]):((2:Int),(0:Int),w)∈names:=by
 simp only [List.mem_cons,Prod.mk.injEq,and_true,List.not_mem_nil,or_false] at h
 rcases h with h|h<;>subst h<;>simp [names]
theorem avT {w:Sp.Bytes} (h:(w,())∈[(([114,101,100]:Sp.Bytes),()),([98,108,117,101],())]):((2:Int),(0:Int),w)∈tags:=by
 simp only [List.mem_cons,Prod.mk.injEq,and_true,List.not_mem_nil,or_false] at h
 rcases h with h|h<;>subst h<;>simp [tags]
def Head (id:Int) (f:Int×Int×Bool×Int×Unit×Unit):Prop:=f.1=id∧0≤f.2.1∧f.2.1≤2∧0≤f.2.2.2.1∧f.2.2.2.1≤6
theorem Pm:aC prog G ql oN:=by
 refine amy (aF (l:=[(jh, .pure iZ),(eP, .eff (ai dG) dN),(xR, .eff (ai qP) xH),(nS, .pure mZ),(jU, .eff (ai iP) jw),(aU, .eff (ai aQ) aP)]) (ay ah) (by simp only [List.forall_mem_cons];exact ⟨⟨Du,Bq⟩,⟨oh,mF⟩,⟨Yu,Wq⟩,⟨MK,KU⟩,⟨Eo,C9⟩,⟨dQ,dA⟩,fun x hx=>by cases hx⟩)) (fun ⟨_,id,_⟩ _=>⟨(((id,0,false,0,[],()),()),(([],0,0,()),())),⟨by decide,rfl,by decide,by decide,by decide,by decide,rfl,by decide⟩⟩) ?_
 intro b i h id hin hp
 have hp:0≤i:=hp
 refine ⟨hp,?_⟩
 rintro ⟨⟨x0,⟨⟩⟩,⟨b0,i0,g0,⟨⟩⟩,⟨⟩⟩ ⟨p0,q0,q1,_⟩
 refine ⟨p0,?_⟩
 rintro ⟨⟨x1,⟨⟩⟩,⟨b1,i1,g1,⟨⟩⟩,⟨⟩⟩ p1
 have q1:x0<3:=q1 (by decide)
 have q0:0≤x0:=q0
 refine ⟨fun y=>0≤y.2.1.2.1∧Head id y.2.2.1,⟨p1,?_⟩,?_⟩
 · rintro ⟨⟨x3,⟨⟩⟩,⟨b3,i3,g3,⟨⟩⟩,⟨⟩⟩ p3
   refine af (fun _=>⟨p3,?_⟩) fun _=>⟨rfl,p3,rfl,q0,(show x0≤2 by omega),Int.le_refl _,(show (0:Int)≤6 by decide)⟩
   rintro ⟨⟨x4,⟨⟩⟩,⟨b4,i4,g4,⟨⟩⟩,⟨⟩⟩ ⟨p4,q4,q5,_⟩
   have q5:x4<7:=q5 (by decide)
   exact ⟨rfl,p4,rfl,q0,(show x0≤2 by omega),q4,(show x4≤6 by omega)⟩
 rintro ⟨⟨⟩,⟨b5,i5,g5,⟨⟩⟩,f5,⟨⟩⟩ ⟨p5,H5⟩
 refine ⟨fun y=>0≤y.2.1.2.1∧Head id y.2.2.1∧y.2.2.2.1∈amu,⟨p5,?_⟩,?_⟩
 · rintro ⟨⟨x7,⟨⟩⟩,⟨b7,i7,g7,⟨⟩⟩,⟨⟩⟩ p7
   refine af (fun _=>⟨p7,?_⟩) fun _=>⟨rfl,p7,H5,BH List.mem_cons_self⟩
   rintro ⟨⟨x8,⟨⟩⟩,⟨b8,i8,g8,⟨⟩⟩,⟨⟩⟩ ⟨p8,q8,q9,_⟩
   refine ⟨trivial,(show (0:Nat)≤1000 by decide),?_⟩
   rintro ⟨⟨⟨d,o,s,l,a,⟨⟩⟩,⟨⟩⟩,⟨⟩⟩ ⟨e1,e2,e3,e4,e5⟩
   refine ⟨rfl,p8,?_,?_⟩
   · exact ⟨(show d=id from (show d=f5.1 from e1).trans H5.1),by rw [show o=f5.2.1 from e2];exact H5.2.1,by rw [show o=f5.2.1 from e2];exact H5.2.2.1,by rw [show l=f5.2.2.2.1 from e4];exact H5.2.2.2.1,by rw [show l=f5.2.2.2.1 from e4];exact H5.2.2.2.2⟩
   · have e5:a=Sp.mV [] [97] 1 x8 []:=e5
     show a∈amu
     rw [e5];exact Yv List.mem_cons_self (asc q8 (q9 (by decide)))
 rintro ⟨⟨⟩,⟨b11,i11,g11,⟨⟩⟩,f11,a11,⟨⟩⟩ ⟨p11,H11,m11⟩
 refine ⟨fun y=>0≤y.2.1.2.1∧Head id y.2.2.1∧y.2.2.2.1∈amv,⟨p11,?_⟩,?_⟩
 · rintro ⟨⟨x7,⟨⟩⟩,⟨b7,i7,g7,⟨⟩⟩,⟨⟩⟩ p7
   refine af (fun _=>⟨p7,?_⟩) fun _=>⟨rfl,p7,H11,BH m11⟩
   rintro ⟨⟨x8,⟨⟩⟩,⟨b8,i8,g8,⟨⟩⟩,⟨⟩⟩ ⟨p8,q8,q9,_⟩
   refine ⟨trivial,Nat.le_trans (awI m11) (by decide),?_⟩
   rintro ⟨⟨⟨d,o,s,l,a,⟨⟩⟩,⟨⟩⟩,⟨⟩⟩ ⟨e1,e2,e3,e4,e5⟩
   refine ⟨rfl,p8,?_,?_⟩
   · exact ⟨(show d=id from (show d=f11.1 from e1).trans H11.1),by rw [show o=f11.2.1 from e2];exact H11.2.1,by rw [show o=f11.2.1 from e2];exact H11.2.2.1,by rw [show l=f11.2.2.2.1 from e4];exact H11.2.2.2.1,by rw [show l=f11.2.2.2.1 from e4];exact H11.2.2.2.2⟩
   · have e5:a=Sp.mV a11 [98] 1 x8 []:=e5
     show a∈amv
     rw [e5];exact Yv m11 (asc q8 (q9 (by decide)))
 rintro ⟨⟨⟩,⟨b17,i17,g17,⟨⟩⟩,f17,a17,⟨⟩⟩ ⟨p17,H17,m17⟩
 refine ⟨fun y=>0≤y.2.1.2.1∧Head id y.2.2.1∧y.2.2.2.1∈amw,⟨p17,?_⟩,?_⟩
 · rintro ⟨⟨x7,⟨⟩⟩,⟨b7,i7,g7,⟨⟩⟩,⟨⟩⟩ p7
   refine af (fun _=>⟨⟨p7,by simp⟩,?_⟩) fun _=>⟨rfl,p7,H17,BH m17⟩
   rintro ⟨⟨x8,⟨⟩⟩,⟨b8,i8,g8,⟨⟩⟩,⟨⟩⟩ ⟨p8,q8⟩
   refine ⟨trivial,Nat.le_trans (awJ m17) (by decide),?_⟩
   rintro ⟨⟨⟨d,o,s,l,a,⟨⟩⟩,⟨⟩⟩,⟨⟩⟩ ⟨e1,e2,e3,e4,e5⟩
   refine ⟨rfl,p8,?_,?_⟩
   · exact ⟨(show d=id from (show d=f17.1 from e1).trans H17.1),by rw [show o=f17.2.1 from e2];exact H17.2.1,by rw [show o=f17.2.1 from e2];exact H17.2.2.1,by rw [show l=f17.2.2.2.1 from e4];exact H17.2.2.2.1,by rw [show l=f17.2.2.2.1 from e4];exact H17.2.2.2.2⟩
   · have e5:a=Sp.mV a17 [110] 2 0 x8:=e5
     show a∈amw
     rw [e5];exact Yv m17 (avn q8)
 rintro ⟨⟨⟩,⟨b23,i23,g23,⟨⟩⟩,f23,a23,⟨⟩⟩ ⟨p23,H23,m23⟩
 refine ⟨fun y=>0≤y.2.1.2.1∧Head id y.2.2.1∧y.2.2.2.1∈amx,⟨p23,?_⟩,?_⟩
 · rintro ⟨⟨x7,⟨⟩⟩,⟨b7,i7,g7,⟨⟩⟩,⟨⟩⟩ p7
   refine af (fun _=>⟨⟨p7,by simp⟩,?_⟩) fun _=>⟨rfl,p7,H23,BH m23⟩
   rintro ⟨⟨x8,⟨⟩⟩,⟨b8,i8,g8,⟨⟩⟩,⟨⟩⟩ ⟨p8,q8⟩
   refine ⟨trivial,Nat.le_trans (awK m23) (by decide),?_⟩
   rintro ⟨⟨⟨d,o,s,l,a,⟨⟩⟩,⟨⟩⟩,⟨⟩⟩ ⟨e1,e2,e3,e4,e5⟩
   refine ⟨rfl,p8,?_,?_⟩
   · exact ⟨(show d=id from (show d=f23.1 from e1).trans H23.1),by rw [show o=f23.2.1 from e2];exact H23.2.1,by rw [show o=f23.2.1 from e2];exact H23.2.2.1,by rw [show l=f23.2.2.2.1 from e4];exact H23.2.2.2.1,by rw [show l=f23.2.2.2.1 from e4];exact H23.2.2.2.2⟩
   · have e5:a=Sp.mV a23 [116] 2 0 x8:=e5
     show a∈amx
     rw [e5];exact Yv m23 (avT q8)
 rintro ⟨⟨⟩,⟨b29,i29,g29,⟨⟩⟩,f29,a29,⟨⟩⟩ ⟨p29,H29,m29⟩
 have hm:=Yw m29
 exact ⟨p29,H29.1,H29.2.1,H29.2.2.1,H29.2.2.2.1,H29.2.2.2.2,hm.1,hm.2⟩
theorem as2 (al:List Sp.jr) (name:Sp.Bytes) (k n:Int) (s:Sp.Bytes):(Sp.mV al name k n s).length≤al.length+1:=by
 have hf:=List.length_filter_le (Sp.vT name) al
 unfold Sp.mV
 cases decide (k=0) with
 |true=>show (al.filter _).length≤_;omega
 |false=>
  show (Sp.ahA _ _).length≤_
  unfold Sp.ahA
  have:=congrArg List.length (List.takeWhile_append_dropWhile (p:=Sp.yc name) (l:=al.filter (Sp.vT name)))
  rw [List.length_append] at this
  rw [List.length_append,List.length_cons]
  show ((al.filter (Sp.vT name)).takeWhile (Sp.yc name)).length+(((al.filter (Sp.vT name)).dropWhile (Sp.yc name)).length+1)≤_
  omega
theorem aow:aC prog G Ie Jg:=by
 refine aox (aF (l:=[(xR, .eff (ai qP) xH),(jh, .pure iZ),(Ac, .eff (ai tZ) zy),(xP, .eff (ai qN) xB),(eX, .eff (ai dI) dX),(ql, .eff (ai lN) oN),(aU, .eff (ai aQ) aP)]) (ay ah) (by simp only [List.forall_mem_cons];exact ⟨⟨Yu,Wq⟩,⟨Du,Bq⟩,⟨aal,Yn⟩,⟨Yq,Wl⟩,⟨pI,nP⟩,⟨Pm,MI⟩,⟨dQ,dA⟩,fun x hx=>by cases hx⟩)) (fun _ _=>⟨(((0,0,false,0,[],()),()),(([],0,0,()),())),⟨by decide,by decide⟩⟩) ?_
 intro b i h hin hp
 have hp:0≤i:=hp
 refine ⟨hp,?_⟩
 rintro ⟨⟨x0,⟨⟩⟩,⟨b0,i0,g0,⟨⟩⟩,⟨⟩⟩ ⟨p0,_⟩
 refine ⟨p0,?_⟩
 rintro ⟨⟨⟨d,o,s,l,a,⟨⟩⟩,⟨⟩⟩,⟨b1,i1,g1,⟨⟩⟩,⟨⟩⟩ ⟨p1,_,_,_,_,_,_,ha⟩
 have ha:a.length≤4:=ha
 refine ⟨p1,?_⟩
 rintro ⟨⟨x2,⟨⟩⟩,⟨b2,i2,g2,⟨⟩⟩,⟨⟩⟩ ⟨p2,_⟩
 refine af (fun _=>⟨⟨p2,by simp⟩,?_⟩) fun _=>af (fun _=>⟨⟨p2,by simp⟩,?_⟩) fun _=>af (fun _=>⟨⟨p2,by simp⟩,?_⟩) fun _=>af (fun _=>⟨p2,?_⟩) fun _=>af (fun _=>⟨trivial,(show a.length≤1000 by omega),?_⟩) fun _=>⟨p2,(show a.length≤10 by omega)⟩
 · rintro ⟨⟨x3,⟨⟩⟩,⟨b3,i3,g3,⟨⟩⟩,⟨⟩⟩ ⟨p3,_⟩
   exact ⟨p3,(show a.length≤10 by omega)⟩
 · rintro ⟨⟨x3,⟨⟩⟩,⟨b3,i3,g3,⟨⟩⟩,⟨⟩⟩ ⟨p3,_⟩
   exact ⟨p3,(show a.length≤10 by omega)⟩
 · rintro ⟨⟨x3,⟨⟩⟩,⟨b3,i3,g3,⟨⟩⟩,⟨⟩⟩ ⟨p3,_⟩
   exact ⟨p3,(show a.length≤10 by omega)⟩
 · rintro ⟨⟨x3,⟨⟩⟩,⟨b3,i3,g3,⟨⟩⟩,⟨⟩⟩ ⟨p3,_⟩
   refine ⟨p3,?_⟩
   rintro ⟨⟨⟨k,n,w,⟨⟩⟩,⟨⟩⟩,⟨b4,i4,g4,⟨⟩⟩,⟨⟩⟩ ⟨p4,_⟩
   refine ⟨(show a.length+1≤big by rw [gy];omega),p4,?_⟩
   show (a++[_]).length≤10
   rw [List.length_append,List.length_cons,List.length_nil];omega
 · rintro ⟨⟨⟨d',o',s',l',a',⟨⟩⟩,⟨⟩⟩,⟨⟩⟩ ⟨_,_,_,_,e5⟩
   refine ⟨p2,?_⟩
   have e5:a'=Sp.mV a [97] 2 0 [114,101,100]:=e5
   show a'.length≤10
   rw [e5]
   have:=as2 a [97] 2 0 [114,101,100]
   omega
theorem avU:Sp.gQ Sp.usual=true:=by kernel_rfl
theorem ase:Sp.dF (Sp.usual,[],1,())=true:=by kernel_rfl
theorem ai8:Sp.jC (Sp.usual,[],1,()):=⟨by decide,by decide,fun f hf=>by cases hf⟩
theorem akj {a:List Sp.lK} {l:List Sp.je} {nx:Int} {X:Sp.jS} (h1:a=X.1) (h2:l=X.2.1) (h3:nx=X.2.2.1):((a,l,nx,()):Sp.jS)=X:=by subst h1 h2 h3;rfl
theorem asf (s:Sp.jS) (f:Sp.je):(Sp.bU s f).1.1=s.1∧((Sp.bU s f).1.2.1.length:Int)-(Sp.bU s f).1.2.2.1=s.2.1.length-s.2.2.1:=by
 rcases Sp.yg s f with ⟨e,_⟩|⟨_,_,_,e⟩
 · rw [e];exact ⟨rfl,rfl⟩
 · rw [e]
   refine ⟨rfl,?_⟩
   show ((s.2.1++[(s.2.2.1,f.2)]).length:Int)-(s.2.2.1+1)=_
   rw [List.length_append,List.length_cons,List.length_nil];omega
theorem asg (s:Sp.jS) (id:Int):(Sp.fB s id).1.1=s.1∧(Sp.fB s id).1.2.2.1=s.2.2.1∧s.2.1.length≤(Sp.fB s id).1.2.1.length+1:=by
 rcases Sp.Df s id with ⟨e,_⟩|⟨n,hn,_,_,e⟩
 · rw [e];exact ⟨rfl,rfl,Nat.le_succ _⟩
 · rw [e]
   refine ⟨rfl,rfl,?_⟩
   show s.2.1.length≤(s.2.1.eraseIdx n).length+1
   rw [List.length_eraseIdx_of_lt hn];omega
structure Bv (k:Int) (s:Sp.jS):Prop where
 sch:s.1=Sp.usual
 ok:Sp.dF s=true
 nx:s.2.2.1≤s.2.1.length+k
 small:Sp.jC s
theorem Bv.create {k:Int} {s:Sp.jS} (h:Bv k s) {f:Sp.je} (hf:Sp.lT f):Bv k (Sp.bU s f).1:=by
 obtain ⟨h1,h2⟩:=asf s f
 exact ⟨h1.trans h.sch,Sp.aoy f h.ok,by have:=h.nx;omega,Sp.aqE h.small hf⟩
theorem Bv.delete {k:Int} {s:Sp.jS} (h:Bv k s) (id:Int):Bv (k+1) (Sp.fB s id).1:=by
 obtain ⟨h1,h2,h3⟩:=asg s id
 exact ⟨h1.trans h.sch,Sp.aoz id h.ok,by have:=h.nx;omega,Sp.aqF id h.small⟩
theorem Bv.more {k k':Int} {s:Sp.jS} (h:Bv k s) (hk:k≤k'):Bv k' s:=⟨h.sch,h.ok,by have:=h.nx;omega,h.small⟩
theorem Bv.grows {s:Sp.jS} (h:Bv 2 s) (hl:s.2.1.length<12) {f:Sp.je} (ho:0≤f.2.1∧f.2.1≤2) (hk:0≤f.2.2.2.1∧f.2.2.2.1≤6) (ha:Sp.uf Sp.usual f.2.2.2.2.1=true):(Sp.bU s f).1.2.1.length=s.2.1.length+1:=by
 have hnx:=(Sp.EL.1 h.ok).2.2.2
 have h2:=h.nx
 have hf:Sp.eU s.1 (s.2.2.1,f.2)=true:=by
  rw [h.sch]
  show (Sp.uf Sp.usual f.2.2.2.2.1&&Sp.gQ Sp.usual&&(decide (1≤s.2.2.1)&&decide (s.2.2.1≤60))&&(decide (0≤f.2.1)&&decide (f.2.1≤2))&&(decide (0≤f.2.2.2.1)&&decide (f.2.2.2.1≤60)))=true
  rw [ha,avU,decide_eq_true hnx.1,decide_eq_true (by omega),decide_eq_true ho.1,decide_eq_true ho.2,decide_eq_true hk.1,decide_eq_true (by omega)]
  rfl
 rcases Sp.yg s f with ⟨_,e⟩|⟨_,_,_,e⟩
 · exact (e ⟨h.ok,hl,hf⟩).elim
 · rw [e]
   show (s.2.1++[_]).length=_
   rw [List.length_append];rfl
theorem WL:aC prog G vH vW:=by
 refine akk (aF (l:=[(Ak, .eff (ai ug) Dk),(jU, .eff (ai iP) jw),(qC, .eff (ai lU) rF),(ql, .eff (ai lN) oN),(aU, .eff (ai aQ) aP),(D9, .eff (ai xI) EU),(vC, .eff (ai oM) vV)]) (ay ah) (by simp only [List.forall_mem_cons];exact ⟨⟨agu,ad1⟩,⟨Eo,C9⟩,⟨RH,P9⟩,⟨Pm,MI⟩,⟨dQ,dA⟩,⟨akh,ahX⟩,⟨WG,Ud⟩,fun x hx=>by cases hx⟩)) (fun _ _=>⟨(((Sp.usual,[],1,()),()),(([],0,0,()),())),⟨by decide,rfl,ase,by decide,ai8⟩⟩) ?_
 intro b i h hin hp
 have hp:0≤i:=hp
 refine ⟨trivial,?_⟩
 rintro ⟨⟨u,⟨⟩⟩,⟨⟩⟩ hu
 have hu:u=Sp.usual:=hu
 subst hu
 refine ⟨(show Sp.usual.length≤1000 by decide),?_⟩
 rintro ⟨⟨⟨a,l,nx,⟨⟩⟩,⟨⟩⟩,⟨⟩⟩ ⟨e1,e2,e3⟩
 have e1:a=Sp.usual:=e1
 have e2:l=[]:=e2
 have e3:nx=1:=e3
 subst e1 e2 e3
 refine ⟨fun y=>0≤y.2.1.2.1∧(0≤y.1.1∧y.1.1≤7)∧Bv 1 (y.2.2.2.1,y.2.2.2.2.1,y.2.2.1.2.2.1,()),fun y=>(8-y.1.1).toNat,⟨hp,⟨(show (0:Int)≤0 by decide),(show (0:Int)≤7 by decide)⟩,⟨rfl,ase,(show (1:Int)≤((0:Nat):Int)+1 by decide),ai8⟩⟩,?_⟩
 rintro ⟨⟨n,⟨⟩⟩,⟨b0,i0,g0,⟨⟩⟩,⟨⟨⟩,⟨⟩,nx,⟨⟩⟩,a,l,⟨⟩⟩ ⟨p0,⟨k0,k1⟩,D⟩
 have p0:0≤i0:=p0
 have k0:0≤n:=k0
 have k1:n≤7:=k1
 have D:Bv 1 (a,l,nx,()):=D
 refine ⟨p0,?_⟩
 rintro ⟨⟨x1,⟨⟩⟩,⟨b1,i1,g1,⟨⟩⟩,⟨⟩⟩ ⟨p1,q0,q1,_⟩
 have q1:x1<7:=q1 (by decide)
 have q0:0≤x1:=q0
 have w:IntKind.i64.wrap (1+x1)=1+x1:=iI _ (by omega)
 dsimp only
 rw [w]
 refine af (fun hc=>⟨p1,?_⟩) fun hc=>af (fun h2=>⟨p1,?_⟩) fun h2=>?_
 · have hc:=iO hc
   have wn:IntKind.i64.wrap (n+1)=n+1:=iI _ (by omega)
   rw [wn]
   rintro ⟨⟨⟨d,o,s,lk,al,⟨⟩⟩,⟨⟩⟩,⟨b2,i2,g2,⟨⟩⟩,⟨⟩⟩ ⟨p2,_,_,_,_,_,_,ha⟩
   have hf:Sp.lT (d,o,s,lk,al,()):=(show al.length≤1000 from Nat.le_trans ha (by decide))
   refine ⟨⟨D.small,hf⟩,?_⟩
   rintro ⟨⟨⟨a3,l3,nx3,⟨⟩⟩,id3,ok3,⟨⟩⟩,⟨⟩⟩ ⟨e1,e2,e3,_⟩
   have e:((a3,l3,nx3,()):Sp.jS)=(Sp.bU (a,l,nx,()) (d,o,s,lk,al,())).1:=akj e1 e2 e3
   refine ⟨rfl,⟨p2,⟨(show 0≤n+1 by omega),(show n+1≤7 by omega)⟩,?_⟩,?_⟩
   · show Bv 1 (a3,l3,nx3,())
     rw [e];exact D.create hf
   · show (8-(n+1)).toNat<(8-n).toNat
     omega
 · rintro ⟨⟨x3,⟨⟩⟩,⟨b3,i3,g3,⟨⟩⟩,⟨⟩⟩ p3
   have h2:(l.length:Int)>2:=iO h2
   refine af (fun _=>⟨⟨by decide,(show (1:Int)<l.length by omega)⟩,(show 1<l.length by omega),D.small,?_⟩) fun _=>?_
   · rintro ⟨⟨⟨a3,l3,nx3,⟨⟩⟩,ok3,⟨⟩⟩,⟨⟩⟩ ⟨e1,e2,e3,_⟩
     have e:=akj e1 e2 e3
     have D':=D.delete (List.getD l (Int.toNat 1) (0,0,false,0,[],())).1
     have D':Bv 2 (a3,l3,nx3,()):=by
      have e:((a3,l3,nx3,()):Sp.jS)=(Sp.fB (a,l,nx,()) (List.getD l (Int.toNat 1) (0,0,false,0,[],())).1).1:=e
      rw [e];exact D'
     exact ⟨p3,D'.sch,D'.ok,D'.nx,D'.small⟩
   · have D':=D.more (show (1:Int)≤2 by decide)
     exact ⟨p3,D'.sch,D'.ok,D'.nx,D'.small⟩
 · have D':=D.more (show (1:Int)≤2 by decide)
   exact ⟨p1,D'.sch,D'.ok,D'.nx,D'.small⟩
theorem aoA:aC prog G Ii Jh:=by
 refine aoB (aF (l:=[(qC, .eff (ai lU) rF),(ql, .eff (ai lN) oN),(Ic, .eff (ai BJ) Je),(Ie, .eff (ai BK) Jg),(eX, .eff (ai dI) dX),(aU, .eff (ai aQ) aP),(vH, .eff (ai oP) vW)]) (ay ah) (by simp only [List.forall_mem_cons];exact ⟨⟨RH,P9⟩,⟨Pm,MI⟩,⟨aoq,al7⟩,⟨aow,al9⟩,⟨pI,nP⟩,⟨dQ,dA⟩,⟨WL,Ue⟩,fun x hx=>by cases hx⟩)) (fun _ _=>⟨((([],[],0,()),()),(([],0,0,()),())),⟨by decide,by decide,by decide,fun f hf=>by cases hf⟩⟩) ?_
 intro b i h hin hp
 have hp:0≤i:=hp
 refine ⟨hp,?_⟩
 rintro ⟨⟨⟨a,l,nx,⟨⟩⟩,⟨⟩⟩,⟨b0,i0,g0,⟨⟩⟩,⟨⟩⟩ ⟨p0,d1,d2,d3,d4⟩
 have D:Bv 2 (a,l,nx,()):=⟨d1,d2,d3,d4⟩
 obtain ⟨z0,z1,z2⟩:a.length≤1000∧l.length≤1000∧∀ f∈l,Sp.lT f:=d4
 have z3:l.length≤12:=(Sp.EL.1 D.ok).2.2.1
 refine ⟨p0,?_⟩
 rintro ⟨⟨x1,⟨⟩⟩,⟨b1,i1,g1,⟨⟩⟩,⟨⟩⟩ ⟨p1,_⟩
 refine af (fun _=>⟨⟨p1,by simp⟩,?_⟩) fun _=>af (fun _=>⟨p1,?_⟩) fun _=>af (fun _=>⟨p1,?_⟩) fun _=>af (fun _=>?_) fun _=>⟨p1,D.small⟩
 · rintro ⟨⟨x3,⟨⟩⟩,⟨b3,i3,g3,⟨⟩⟩,⟨⟩⟩ ⟨p3,_⟩
   exact ⟨p3,z0,z1,z2⟩
 · rintro ⟨⟨⟨d,o,s,lk,al,⟨⟩⟩,⟨⟩⟩,⟨b2,i2,g2,⟨⟩⟩,⟨⟩⟩ ⟨p2,ha⟩
   have hf:Sp.lT (d,o,s,lk,al,()):=(show al.length≤1000 from Nat.le_trans ha (by decide))
   refine ⟨(show l.length+1≤big by rw [gy];omega),p2,z0,?_,fun f hf'=>?_⟩
   · show (l++[_]).length≤1000
     rw [List.length_append,List.length_cons,List.length_nil];omega
   · rcases List.mem_append.1 hf' with h'|h'
     · exact z2 f h'
     · have:f=(d,o,s,lk,al,()):=by simpa using h'
       rw [this];exact hf
 · rintro ⟨⟨x3,⟨⟩⟩,⟨b3,i3,g3,⟨⟩⟩,⟨⟩⟩ ⟨p3,hx⟩
   exact ⟨p3,Nat.le_trans (show x3.length≤6 from hx) (by decide),z1,z2⟩
 · refine ⟨fun y=>0≤y.2.1.2.1∧Bv 2 y.2.2.1,fun y=>12-y.2.2.1.2.1.length,⟨p1,D⟩,?_⟩
   rintro ⟨⟨⟩,⟨b2,i2,g2,⟨⟩⟩,⟨a,l,nx,⟨⟩⟩,⟨⟩⟩ ⟨p2,D⟩
   have D:Bv 2 (a,l,nx,()):=D
   refine af (fun hc=>⟨p2,?_⟩) fun _=>⟨p2,D.small⟩
   have hc:(l.length:Int)<12:=iO hc
   rintro ⟨⟨⟨d,o,s,lk,al,⟨⟩⟩,⟨⟩⟩,⟨b3,i3,g3,⟨⟩⟩,⟨⟩⟩ ⟨p3,_,ho1,ho2,hl1,hl2,hok,ha⟩
   have hf:Sp.lT (d,o,s,lk,al,()):=(show al.length≤1000 from Nat.le_trans ha (by decide))
   refine ⟨⟨D.small,hf⟩,?_⟩
   rintro ⟨⟨⟨a3,l3,nx3,⟨⟩⟩,id3,ok3,⟨⟩⟩,⟨⟩⟩ ⟨e1,e2,e3,_⟩
   have e:((a3,l3,nx3,()):Sp.jS)=(Sp.bU (a,l,nx,()) (d,o,s,lk,al,())).1:=akj e1 e2 e3
   have hg:=D.grows (f:=(d,o,s,lk,al,())) (show l.length<12 by omega) ⟨ho1,ho2⟩ ⟨hl1,hl2⟩ hok
   have e2:l3=(Sp.bU (a,l,nx,()) (d,o,s,lk,al,())).1.2.1:=e2
   refine ⟨rfl,⟨p3,?_⟩,?_⟩
   · show Bv 2 (a3,l3,nx3,())
     rw [e];exact D.create hf
   · show 12-l3.length<12-l.length
     have hg:(Sp.bU (a,l,nx,()) (d,o,s,lk,al,())).1.2.1.length=l.length+1:=hg
     rw [e2,hg];omega
theorem as3:aG prog G OO Oj:=by
 refine as4 (aF (l:=[]) (ay ah) (fun x hx=>by cases hx)) ?_
 intro b hin hp
 exact rfl
theorem F8:aG prog G jJ jO:=by
 refine aar (aF (l:=[(fO, .pure eF)]) (ay ah) (by simp only [List.forall_mem_cons];exact ⟨⟨qx,nY⟩,fun x hx=>by cases hx⟩)) ?_
 intro s hin hp
 have hlen:s.length≤maxLen:=hin.1
 rw [maxLen_eq] at hlen
 refine ⟨fun y=>∃ n:Nat,y.1.1=n∧n≤s.length∧Sp.lower (s.take n)=true,fun y=>((s.length:Int)-y.1.1).toNat,⟨0,rfl,by omega,rfl⟩,?_⟩
 rintro ⟨⟨_,⟨⟩⟩,⟨⟩⟩ ⟨n,rfl,hn,hJ⟩
 dsimp only
 refine af (fun h=>?_) fun h=>?_<;>simp only [decide_eq_true_eq,decide_eq_false_iff_not] at h
 · have hlt:n<s.length:=by omega
   rw [iI _ (by omega),Int.toNat_natCast]
   refine ⟨⟨by omega,by omega⟩,af (fun h2=>?_) fun h2=>⟨⟨by omega,by omega⟩,af (fun h3=>?_) fun h3=>?_⟩⟩<;>simp only [decide_eq_true_eq,decide_eq_false_iff_not] at*
   · unfold Sp.iR
     cases hl:Sp.lower s with
     |false=>rfl
     |true=>have:=UH hlt hl;omega
   · unfold Sp.iR
     cases hl:Sp.lower s with
     |false=>rfl
     |true=>have:=UH hlt hl;omega
   · refine ⟨trivial,⟨n+1,by simp,by omega,?_⟩,by omega⟩
     rw [Sp.take_succ' s n 0 hlt]
     unfold Sp.lower at hJ ⊢
     rw [List.all_append,hJ]
     simp only [List.all_cons,List.all_nil,Bool.and_true,Bool.true_and,Bool.and_eq_true,decide_eq_true_eq]
     omega
 · have hge:n=s.length:=by omega
   rw [hge,List.take_length] at hJ
   unfold Sp.iR
   rw [hJ]
   exact ⟨trivial,rfl⟩
theorem Pn:aG prog G nH oC:=by
 refine abS (aF (l:=[(jJ, .pure jO),(fO, .pure eF)]) (ay ah) (by simp only [List.forall_mem_cons];exact ⟨⟨F8,EK⟩,⟨qx,nY⟩,fun x hx=>by cases hx⟩)) ?_
 intro k n s hin hp
 refine af (fun h=>?_) fun h=>af (fun h2=>⟨trivial,af (fun h3=>?_) fun h3=>?_⟩) fun h2=>af (fun h3=>⟨trivial,af (fun h4=>?_) fun h4=>?_⟩) fun h3=>?_
 · have e:k=0:=by simpa using h
   subst e
   exact congrArg (·,()) (Bool.eq_iff_iff.2 (by simp [Sp.kK]))
 · have e:k=1:=by simpa using h2
   subst e
   exact congrArg (·,()) (Bool.eq_iff_iff.2 (by simp only [Bool.and_eq_true,decide_eq_true_eq] at h3;simp [Sp.kK,h3]))
 · have e:k=1:=by simpa using h2
   subst e
   exact congrArg (·,()) (Bool.eq_iff_iff.2 (by simp only [Sp.kK,h3];simp))
 · have e:k=2:=by simpa using h3
   subst e
   exact congrArg (·,()) (Bool.eq_iff_iff.2 (by simp [Sp.kK,h4]))
 · have e:k=2:=by simpa using h3
   subst e
   exact congrArg (·,()) (Bool.eq_iff_iff.2 (by simp [Sp.kK,h4]))
 · have e1:k≠0:=by simpa using h
   have e2:k≠1:=by simpa using h2
   have e3:k≠2:=by simpa using h3
   exact congrArg (·,()) (Bool.eq_iff_iff.2 (by simp [Sp.kK,e1,e2,e3]))
theorem Ky:aG prog G kR lC:=by
 refine Xl (aF (l:=[]) (ay ah) (fun x hx=>by cases hx)) ?_
 intro s hin hp
 refine af (fun h=>?_) fun h=>?_
 · have h:(s.length:Int)=1:=iO h
   match s,h with
   |[c],_=>
    refine ⟨⟨by decide,(by show (0:Int)<1;decide)⟩,af (fun h2=>⟨⟨by decide,(by show (0:Int)<1;decide)⟩,?_⟩) fun h2=>?_⟩
    · have h2:(c.toNat:Int)≥97:=iO h2
      refine congrArg (·,()) (Bool.eq_iff_iff.2 ?_)
      simp only [Sp.kH,Sp.lower,List.all_cons,List.all_nil,Bool.and_true,Bool.and_eq_true,decide_eq_true_eq,List.length_cons,List.length_nil]
      constructor
      · intro h3
        have h3:(c.toNat:Int)≤122:=h3
        exact ⟨⟨⟨by omega,by omega⟩,by decide⟩,by decide⟩
      · rintro ⟨⟨⟨_,h4⟩,_⟩,_⟩
        show (c.toNat:Int)≤122
        omega
    · have h2:¬ (c.toNat:Int)≥97:=ji h2
      refine congrArg (·,()) (Bool.eq_iff_iff.2 ?_)
      simp only [Sp.kH,Sp.lower,List.all_cons,List.all_nil,Bool.and_true,Bool.and_eq_true,decide_eq_true_eq]
      constructor
      · intro h3;cases h3
      · rintro ⟨⟨⟨h4,_⟩,_⟩,_⟩;omega
 · have h:¬ (s.length:Int)=1:=ji h
   refine congrArg (·,()) (Bool.eq_iff_iff.2 ?_)
   simp only [Sp.kH,Bool.and_eq_true,decide_eq_true_eq]
   constructor
   · intro h3;cases h3
   · rintro ⟨⟨_,h4⟩,h5⟩;omega
theorem aib:aG prog G CB DR:=by
 refine aic (aF (l:=[]) (ay ah) (fun x hx=>by cases hx)) ?_
 intro s name hin hp
 have hlen:s.length≤maxLen:=hin.1.1
 rw [maxLen_eq] at hlen
 refine kW s.length hlen (fun n=>∀ i,i<n→(s.getD i ([],0,())).1≠name) (fun i hi=>by omega) (fun I μ n hn hJ next=>?_) fun I μ hJ=>?_
 · dsimp only
   refine iK (by omega) ⟨⟨by omega,by omega⟩,af (fun h=>?_) fun h=>⟨rfl,next fun i hi=>?_⟩⟩
   · exact congrArg (·,()) (Sp.agq s n hn hJ (by simpa only [Int.toNat_natCast,beq_iff_eq] using h)).symm
   · rcases Nat.lt_or_ge i n with h'|h'
     · exact hJ i h'
     · have:i=n:=by omega
       subst this
       have h2:((s.getD i ([],0,())).1==name)=false:=h
       exact fun e=>by rw [e] at h2;simp at h2
 · dsimp only
   exact iL (by omega) (congrArg (·,()) (Sp.Zb s hJ).symm)
theorem avp {k:Int} (h:(k !=1)=false∨(k !=2)=false):(decide (1≤k)&&decide (k≤2))=true:=by
 have:k=1∨k=2:=h.imp (by simp) (by simp)
 rcases this with h|h<;>subst h<;>rfl
theorem awL {k:Int} (h1:(k !=1)=true) (h2:(k !=2)=true):(decide (1≤k)&&decide (k≤2))=false:=by
 have h1:k≠1:=by simpa using h1
 have h2:k≠2:=by simpa using h2
 rw [Bool.and_eq_false_iff]
 by_cases h:k<1
 · left;exact decide_eq_false (by omega)
 · right;exact decide_eq_false (by omega)
theorem NT:aG prog G mr mQ:=by
 refine aas (aF (l:=[(kR, .pure lC)]) (ay ah) (by simp only [List.forall_mem_cons];exact ⟨⟨Ky,JW⟩,fun x hx=>by cases hx⟩)) ?_
 intro s hin hp
 have hlen:s.length≤maxLen:=hin.1.1
 rw [maxLen_eq] at hlen
 refine kW s.length hlen (fun n=>∀ i,i<n→Sp.nD s i=true) (fun i hi=>by omega) (fun I μ n hn hJ next=>?_) fun I μ hJ=>?_
 · dsimp only
   have no:Sp.nD s n=false→(false,())=(Sp.gQ s,()):=fun h=>by rw [Sp.ai7 hn h]
   have rest:Sp.kH (Sp.fieldAt s n).1=true→(decide (1≤(Sp.fieldAt s n).2.1)&&decide ((Sp.fieldAt s n).2.1≤2))=true→
    bif decide ((n:Int)>0) then
     ((0:Int)≤IntKind.i64.wrap ((n:Int)-1)∧IntKind.i64.wrap ((n:Int)-1)<(s.length:Int))∧
       bif !Op.bytesLess (s.getD (IntKind.i64.wrap ((n:Int)-1)).toNat ([],0,())).fst (s.getD (Int.toNat (n:Int)) ([],0,())).fst then (false,())=(Sp.gQ s,())
       else True∧I ((IntKind.i64.wrap ((n:Int)+1),()),())∧μ ((IntKind.i64.wrap ((n:Int)+1),()),())<μ (((n:Int),()),())
    else True∧I ((IntKind.i64.wrap ((n:Int)+1),()),())∧μ ((IntKind.i64.wrap ((n:Int)+1),()),())<μ (((n:Int),()),()):=by
    intro h2 h3
    refine af (fun h4=>?_) fun h4=>⟨trivial,next (dD hJ ?_)⟩
    · have h4:0<n:=by have:=iO h4;omega
      rw [wz h4 (by omega)]
      refine ⟨⟨by omega,by omega⟩,af (fun h5=>no ?_) fun h5=>⟨trivial,next (dD hJ ?_)⟩⟩
      · have h5:Op.bytesLess (Sp.fieldAt s (n-1)).1 (Sp.fieldAt s n).1=false:=jE h5
        unfold Sp.nD;rw [h2,h3,h5,decide_eq_true h4];rfl
      · have h5:Op.bytesLess (Sp.fieldAt s (n-1)).1 (Sp.fieldAt s n).1=true:=fJ h5
        unfold Sp.nD;rw [h2,h3,h5,decide_eq_true h4];rfl
    · have h4:¬ 0<n:=by have:=ji h4;omega
      unfold Sp.nD;rw [h2,h3,decide_eq_false h4];rfl
   simp only [true_and] at rest
   refine iK (by omega) ⟨⟨by omega,by omega⟩,trivial,af (fun h2=>no ?_) fun h2=>af (fun h3=>af (fun h4=>no ?_) fun h4=>?_) fun h3=>?_⟩
   · have h2:Sp.kH (Sp.fieldAt s n).1=false:=jE h2
     unfold Sp.nD;rw [h2];rfl
   · have h2:Sp.kH (Sp.fieldAt s n).1=true:=fJ h2
     have h3:(decide (1≤(Sp.fieldAt s n).2.1)&&decide ((Sp.fieldAt s n).2.1≤2))=false:=awL h3 h4
     unfold Sp.nD;rw [h2,h3];rfl
   · have h2:Sp.kH (Sp.fieldAt s n).1=true:=fJ h2
     have h3:(decide (1≤(Sp.fieldAt s n).2.1)&&decide ((Sp.fieldAt s n).2.1≤2))=true:=avp (.inr h4)
     simp only [true_and]
     exact rest h2 h3
   · have h2:Sp.kH (Sp.fieldAt s n).1=true:=fJ h2
     have h3:(decide (1≤(Sp.fieldAt s n).2.1)&&decide ((Sp.fieldAt s n).2.1≤2))=true:=avp (.inl h3)
     simp only [true_and]
     exact rest h2 h3
 · dsimp only
   refine iL (by omega) (congrArg (·,()) ?_)
   unfold Sp.gQ
   rw [mO hJ];rfl
theorem aat:aG prog G vG yD:=by
 refine aau (aF (l:=[(CB, .pure DR),(nH, .pure oC)]) (ay ah) (by simp only [List.forall_mem_cons];exact ⟨⟨aib,agd⟩,⟨Pn,NJ⟩,fun x hx=>by cases hx⟩)) ?_
 intro fs s k n w hin hp
 refine ⟨trivial,af (fun h=>af (fun h2=>⟨trivial,?_⟩) fun h2=>?_) fun h=>?_⟩
 · exact congrArg (·,()) (Bool.eq_iff_iff.2 (by simp only [bne_iff_ne,ne_eq] at h2;simp [Sp.kN,h,h2]))
 · exact congrArg (·,()) (Bool.eq_iff_iff.2 (by simp at h2;simp [Sp.kN,h2]))
 · exact congrArg (·,()) (Bool.eq_iff_iff.2 (by simp [Sp.kN,h]))
theorem ad8:aG prog G yS Aw:=by
 refine ad9 (aF (l:=[(mr, .pure mQ),(Ib, .pure Jf),(fO, .pure eF),(vG, .pure yD)]) (ay ah) (by simp only [List.forall_mem_cons];exact ⟨⟨NT,LK⟩,⟨aou,al8⟩,⟨qx,nY⟩,⟨aat,Y8⟩,fun x hx=>by cases hx⟩)) ?_
 intro fs f0 f1 f2 f3 f4 hin hp
 have hlen:f4.length≤maxLen:=hin.2.1.2.2.2.2.1.1
 rw [maxLen_eq] at hlen
 refine kW f4.length hlen (fun n=>∀ i,i<n→Sp.qK fs f4 i=true) (fun i hi=>by omega) (fun I μ n hn hJ next=>?_) fun I μ hJ=>?_
 · dsimp only
   have no:Sp.qK fs f4 n=false→(false,())=(Sp.eU fs (f0,f1,f2,f3,f4,()),()):=fun h=>by rw [Sp.apW (f:=(f0,f1,f2,f3,f4,())) hn h]
   refine iK (by omega) ⟨⟨by omega,by omega⟩,af (fun h4=>?_) fun h4=>⟨trivial,af (fun h2=>no ?_) fun h2=>⟨rfl,next (dD hJ ?_)⟩⟩⟩
   · have h4:0<n:=by have:=iO h4;omega
     rw [wz h4 (by omega)]
     refine ⟨⟨by omega,by omega⟩,af (fun h5=>no ?_) fun h5=>⟨trivial,af (fun h2=>no ?_) fun h2=>⟨rfl,next (dD hJ ?_)⟩⟩⟩
     · have h5:Op.bytesLess (Sp.dR f4 (n-1)).1 (Sp.dR f4 n).1=false:=jE h5
       unfold Sp.qK;rw [h5,decide_eq_true h4];exact Bool.and_false _
     · have h2:Sp.kN fs (Sp.dR f4 n).1 (Sp.dR f4 n).2.1 (Sp.dR f4 n).2.2.1 (Sp.dR f4 n).2.2.2.1=false:=jE h2
       unfold Sp.qK;rw [h2];rfl
     · have h2:Sp.kN fs (Sp.dR f4 n).1 (Sp.dR f4 n).2.1 (Sp.dR f4 n).2.2.1 (Sp.dR f4 n).2.2.2.1=true:=fJ h2
       have h5:Op.bytesLess (Sp.dR f4 (n-1)).1 (Sp.dR f4 n).1=true:=fJ h5
       unfold Sp.qK;rw [h2,h5,decide_eq_true h4];rfl
   · have h2:Sp.kN fs (Sp.dR f4 n).1 (Sp.dR f4 n).2.1 (Sp.dR f4 n).2.2.1 (Sp.dR f4 n).2.2.2.1=false:=jE h2
     unfold Sp.qK;rw [h2];rfl
   · have h2:Sp.kN fs (Sp.dR f4 n).1 (Sp.dR f4 n).2.1 (Sp.dR f4 n).2.2.1 (Sp.dR f4 n).2.2.2.1=true:=fJ h2
     have h4:¬ 0<n:=by have:=ji h4;omega
     unfold Sp.qK;rw [h2,decide_eq_false h4];rfl
 · dsimp only
   have ha:Sp.uf fs f4=true:=mO hJ
   refine iL (by omega) ⟨trivial,af (fun h1=>⟨trivial,af (fun h2=>⟨trivial,af (fun h3=>⟨trivial,?_⟩) fun h3=>?_⟩) fun h2=>?_⟩) fun h1=>?_⟩
   all_goals refine congrArg (·,()) ?_
   · show Sp.gQ fs=(Sp.uf fs f4&&Sp.gQ fs&&(decide (1≤f0)&&decide (f0≤60))&&(decide (0≤f1)&&decide (f1≤2))&&(decide (0≤f3)&&decide (f3≤60)))
     rw [ha,h1,h2,h3];cases Sp.gQ fs<;>rfl
   · show false=(Sp.uf fs f4&&Sp.gQ fs&&(decide (1≤f0)&&decide (f0≤60))&&(decide (0≤f1)&&decide (f1≤2))&&(decide (0≤f3)&&decide (f3≤60)))
     rw [h3,Bool.and_false]
   · show false=(Sp.uf fs f4&&Sp.gQ fs&&(decide (1≤f0)&&decide (f0≤60))&&(decide (0≤f1)&&decide (f1≤2))&&(decide (0≤f3)&&decide (f3≤60)))
     rw [h2,Bool.and_false,Bool.false_and]
   · show false=(Sp.uf fs f4&&Sp.gQ fs&&(decide (1≤f0)&&decide (f0≤60))&&(decide (0≤f1)&&decide (f1≤2))&&(decide (0≤f3)&&decide (f3≤60)))
     rw [h1,Bool.and_false,Bool.false_and,Bool.false_and]
theorem abT:aG prog G wU zA:=by
 refine abU (aF (l:=[(fO, .pure eF),(mr, .pure mQ),(yS, .pure Aw)]) (ay ah) (by simp only [List.forall_mem_cons];exact ⟨⟨qx,nY⟩,⟨NT,LK⟩,⟨ad8,abD⟩,fun x hx=>by cases hx⟩)) ?_
 intro s0 s1 s2 hin hp
 have hlen:s1.length≤maxLen:=hin.1.2.1.1
 rw [maxLen_eq] at hlen
 refine kW s1.length hlen (fun n=>∀ i,i<n→Sp.pJ (s0,s1,s2,()) i=true) (fun i hi=>by omega) (fun I μ n hn hJ next=>?_) fun I μ hJ=>?_
 · dsimp only
   have no:Sp.pJ (s0,s1,s2,()) n=false→(false,())=(Sp.dF (s0,s1,s2,()),()):=fun h=>by rw [Sp.amm (s:=(s0,s1,s2,())) hn h]
   refine iK (by omega) ⟨⟨by omega,by omega⟩,trivial,af (fun h2=>no ?_) fun h2=>af (fun h3=>no ?_) fun h3=>af (fun h4=>?_) fun h4=>⟨rfl,next (dD hJ ?_)⟩⟩
   · have h2:Sp.eU s0 (Sp.fileAt s1 n)=false:=jE h2
     show (Sp.eU s0 (Sp.fileAt s1 n)&&_&&_)=false
     rw [h2];rfl
   · have h2:Sp.eU s0 (Sp.fileAt s1 n)=true:=fJ h2
     have h3:¬ (Sp.fileAt s1 n).1<s2:=by have h3:(Sp.fileAt s1 n).1≥s2:=iO h3;omega
     show (Sp.eU s0 (Sp.fileAt s1 n)&&decide ((Sp.fileAt s1 n).1<s2)&&_)=false
     rw [h2,decide_eq_false h3];rfl
   · have h2:Sp.eU s0 (Sp.fileAt s1 n)=true:=fJ h2
     have h3:(Sp.fileAt s1 n).1<s2:=by have h3:¬ (Sp.fileAt s1 n).1≥s2:=ji h3;omega
     have h4:0<n:=by have:=iO h4;omega
     rw [wz h4 (by omega)]
     refine ⟨⟨by omega,by omega⟩,af (fun h5=>no ?_) fun h5=>⟨rfl,next (dD hJ ?_)⟩⟩
     · have h5:¬ (Sp.fileAt s1 (n-1)).1<(Sp.fileAt s1 n).1:=by have h5:(Sp.fileAt s1 (n-1)).1≥(Sp.fileAt s1 n).1:=iO h5;omega
       show (Sp.eU s0 (Sp.fileAt s1 n)&&decide ((Sp.fileAt s1 n).1<s2)&&!(decide (0<n)&&!decide ((Sp.fileAt s1 (n-1)).1<(Sp.fileAt s1 n).1)))=false
       rw [h2,decide_eq_true h3,decide_eq_true h4,decide_eq_false h5];rfl
     · have h5:(Sp.fileAt s1 (n-1)).1<(Sp.fileAt s1 n).1:=by have h5:¬ (Sp.fileAt s1 (n-1)).1≥(Sp.fileAt s1 n).1:=ji h5;omega
       show (Sp.eU s0 (Sp.fileAt s1 n)&&decide ((Sp.fileAt s1 n).1<s2)&&!(decide (0<n)&&!decide ((Sp.fileAt s1 (n-1)).1<(Sp.fileAt s1 n).1)))=true
       rw [h2,decide_eq_true h3,decide_eq_true h4,decide_eq_true h5];rfl
   · have h2:Sp.eU s0 (Sp.fileAt s1 n)=true:=fJ h2
     have h3:(Sp.fileAt s1 n).1<s2:=by have h3:¬ (Sp.fileAt s1 n).1≥s2:=ji h3;omega
     have h4:¬ 0<n:=by have:=ji h4;omega
     show (Sp.eU s0 (Sp.fileAt s1 n)&&decide ((Sp.fileAt s1 n).1<s2)&&!(decide (0<n)&&!decide ((Sp.fileAt s1 (n-1)).1<(Sp.fileAt s1 n).1)))=true
     rw [h2,decide_eq_true h3,decide_eq_false h4];rfl
 · dsimp only
   have ha:Sp.oK s1.length (Sp.pJ (s0,s1,s2,()))=true:=mO hJ
   refine iL (by omega) ⟨trivial,af (fun h1=>af (fun h2=>⟨trivial,?_⟩) fun h2=>?_) fun h1=>?_⟩
   · refine congrArg (·,()) ?_
     show _=(Sp.oK s1.length (Sp.pJ (s0,s1,s2,()))&&Sp.gQ s0&&decide ((s1.length:Int)≤12)&&(decide (1≤s2)&&decide (s2≤61)))
     rw [ha,h1,h2];rfl
   · refine congrArg (·,()) ?_
     show _=(Sp.oK s1.length (Sp.pJ (s0,s1,s2,()))&&Sp.gQ s0&&decide ((s1.length:Int)≤12)&&(decide (1≤s2)&&decide (s2≤61)))
     rw [ha,h1,h2];rfl
   · refine congrArg (·,()) ?_
     show _=(Sp.oK s1.length (Sp.pJ (s0,s1,s2,()))&&Sp.gQ s0&&decide ((s1.length:Int)≤12)&&(decide (1≤s2)&&decide (s2≤61)))
     rw [ha,h1];rfl
theorem asi {α:Type} {l:List α} {lo:Nat} {news:List α} (h:lo+news.length≤l.length):(gZ l lo news).length=l.length:=by
 unfold gZ
 simp only [List.length_append,List.length_take,List.length_drop]
 omega
theorem apY {α:Type} {l:List α} {lo k:Nat} {news:List α} (hk:k≤lo) (h:lo≤l.length):(gZ l lo news).take k=l.take k:=by
 unfold gZ
 rw [List.append_assoc,List.take_append_of_le_length (by rw [List.length_take];omega),List.take_take,Nat.min_eq_left hk]
theorem aid:aC prog G CO DW:=by
 refine aie (aF (l:=[(Ea, .pure ES)]) (ay ah) (by simp only [List.forall_mem_cons];exact ⟨⟨akd,ahV⟩,fun x hx=>by cases hx⟩)) (fun ⟨l,_⟩ _=>⟨((l,()),()),rfl⟩) ?_
 intro l hin hp
 obtain ⟨h1,h2⟩:l.length≤1000∧∀ f∈l,Sp.lT f:=hp
 refine nR (fun i (x:List Sp.je)=>(((),i,()),x,())) (fun y=>y.1.2.1) (fun _ _=>rfl) l.length (by omega) (fun n x=>x=l.take n) (by simp) (fun I μ n x hn hJ next=>?_) fun I μ x hJ=>?_
 · subst hJ
   have hl:(l.take n).length≤n:=by rw [List.length_take];omega
   dsimp only
   refine iK (by omega) ⟨⟨by omega,by omega⟩,h2 _ (getD_mem (d:=((0:Int),(0:Int),false,(0:Int),[],())) hn),by rw [gy];simp only [List.length_cons,List.length_nil];omega,rfl,next _ ?_⟩
   exact (Sp.take_succ' l n (0,0,false,0,[],()) hn).symm
 · subst hJ
   dsimp only
   refine iL (by omega) ?_
   show List.take l.length l=l
   rw [List.take_length]
theorem aif:aC prog G CP DX:=by
 refine aii (aF (l:=[(CO, .eff (ai vX) DW),(nT, .pure qO)]) (ay ah) (by simp only [List.forall_mem_cons];exact ⟨⟨aid,agj⟩,⟨SX,Ry⟩,fun x hx=>by cases hx⟩)) (fun ⟨(a,l,nx,_),_⟩ _=>⟨(((a,l,nx,()),()),()),rfl⟩) ?_
 intro s0 s1 s2 hin hp
 obtain ⟨h0,h1,h2⟩:s0.length≤1000∧s1.length≤1000∧∀ f∈s1,Sp.lT f:=hp
 refine ⟨h0,⟨h1,h2⟩,?_⟩
 rintro ⟨⟨x,⟨⟩⟩,⟨⟩⟩ e
 have e:x=s1:=e
 subst e
 exact rfl
end Go.Proofs.Tryz
