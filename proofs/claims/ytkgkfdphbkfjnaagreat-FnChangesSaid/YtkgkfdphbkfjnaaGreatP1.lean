import Derived.Test.YtkgkfdphbkfjnaaGreatV1
import Derived.Test.YtkgkfdphbkfjnaaGreatSp
namespace Go.Proofs.Tryz
open Go Go.Fw Go.IntWalk Sp
theorem ani (x y:Int) (m:Nat) (hm:m<9223372036854775807) (hy:(BitVec.ofInt 64 y).toNat=m):0≤bitsOf .and .i64 x y∧bitsOf .and .i64 x y≤m:=by
 have h:(BitVec.ofInt 64 x&&&BitVec.ofInt 64 y).toNat≤m:=by
  rw [BitVec.toNat_and,hy]
  exact Nat.and_le_right
 show 0≤IntKind.i64.wrap ((BitVec.ofInt 64 x&&&BitVec.ofInt 64 y).toNat:Int)∧IntKind.i64.wrap ((BitVec.ofInt 64 x&&&BitVec.ofInt 64 y).toNat:Int)≤m
 generalize (BitVec.ofInt 64 x&&&BitVec.ofInt 64 y).toNat=z at h ⊢
 rw [fF _ (by omega)]
 omega
theorem anj (x:Int):0≤bitsOf .and .i64 x 255∧bitsOf .and .i64 x 255≤255:=ani x 255 255 (by omega) (by decide)
theorem afZ:OK GI.e:=by
 refine QA.ok mixed (au [] trivial) ahT (fun ⟨_,⟨⟩⟩ _=>⟨([],0,0,()),rfl⟩) (by kernel_rfl) (show ∀ code,GI.goal (af0 code) (code,()) from ?_)
 intro code hin hp
 dsimp only [GI] at hp ⊢
 have hp:code.length≤1048576:=hp
 refine ⟨fun y=>∃ n:Nat,y.1.2.1=n∧n≤code.length,fun y=>((code.length:Int)-y.1.2.1).toNat,⟨0,rfl,by omega⟩,?_⟩
 rintro ⟨⟨h,_,⟨⟩⟩,⟨⟩⟩ ⟨n,rfl,hn⟩
 dsimp only
 refine af (fun hc=>?_) fun hc=>?_
 · simp only [decide_eq_true_eq] at hc
   cases decide ((n:Int)<4000) with
   |false=>exact rfl
   |true=>
    have e:IntKind.i64.wrap ((n:Int)+1)=((n+1:Nat):Int):=fF _ (by omega)
    refine ⟨?_,?_,?_,?_⟩
    · exact ⟨by omega,hc⟩
    · exact rfl
    · exact ⟨n+1,e,by omega⟩
    show ((code.length:Int)-IntKind.i64.wrap ((n:Int)+1)).toNat<((code.length:Int)-n).toNat
    rw [e]
    omega
 · exact rfl
theorem adW:OK EW.e:=by
 refine XA.ok mixed (au [] trivial) H0 (fun _ _=>⟨(((0:Int),()),(([],0,0,()),())),⟨by decide,by decide,by decide⟩⟩) (by kernel_rfl) (show ∀ c0 c1 c2,EW.goal (adX c0 c1 c2) ((c0,c1,c2,()),()) from ?_)
 intro b i h hin hp
 dsimp only [EW] at hp ⊢
 have hp:0≤i:=hp
 refine ⟨by decide,by decide,af (fun hc=>?_) fun hc=>?_⟩<;>simp only [decide_eq_true_eq,decide_eq_false_iff_not] at hc
 · have hl:b.length≤maxLen:=hin.1.1.1
   rw [maxLen_eq] at hl
   refine ⟨⟨hp,hc⟩,?_,anj _⟩
   show 0≤IntKind.i64.wrap (i+1)
   rw [fF _ (by omega)]
   omega
 · exact ⟨hp,anj _⟩
theorem tmod_lt {a n:Int} (ha:0≤a) (hn:0<n):0≤a.tmod n∧a.tmod n<n:=⟨Int.tmod_nonneg n ha,Int.tmod_lt_of_pos a hn⟩
theorem dY:OK dR.e:=by
 refine XA.ok mixed (au [EW.e] ⟨adW,trivial⟩) H0 (fun ⟨_,n,⟨⟩⟩ _=>⟨(((0:Int),()),(([],0,0,()),())),⟨Int.le_refl _,Int.le_refl _,fun h=>h,fun _=>rfl⟩⟩) (by kernel_rfl) (show ∀ c0 c1 c2 n,dR.goal (abX c0 c1 c2 n) ((c0,c1,c2,()),n,()) from ?_)
 intro b i h n hin hp
 dsimp only [dR] at hp ⊢
 have hp:0≤i:=hp
 refine af (fun hc=>?_) fun hc=>?_<;>simp only [decide_eq_true_eq,decide_eq_false_iff_not] at hc
 · exact ⟨hp,Int.le_refl _,fun h=>(by omega),fun _=>rfl⟩
 · refine af (fun hc2=>?_) fun hc2=>?_
   · refine ⟨hp,?_⟩
     rintro ⟨⟨x,⟨⟩⟩,⟨b',i',h',⟨⟩⟩,⟨⟩⟩ ⟨h1,h2,h3⟩
     dsimp only at h1 h2 h3 ⊢
     have:=tmod_lt h2 (show 0<n by omega)
     exact ⟨by omega,h1,this.1,fun _=>this.2,fun h=>(by omega)⟩
   · refine ⟨hp,?_⟩
     rintro ⟨⟨x1,⟨⟩⟩,⟨b1,i1,g1,⟨⟩⟩,⟨⟩⟩ ⟨h1,h2,h3⟩
     refine ⟨h1,?_⟩
     rintro ⟨⟨x2,⟨⟩⟩,⟨b2,i2,g2,⟨⟩⟩,⟨⟩⟩ ⟨k1,k2,k3⟩
     refine ⟨k1,?_⟩
     rintro ⟨⟨x3,⟨⟩⟩,⟨b3,i3,g3,⟨⟩⟩,⟨⟩⟩ ⟨l1,l2,l3⟩
     refine ⟨l1,?_⟩
     rintro ⟨⟨x4,⟨⟩⟩,⟨b4,i4,g4,⟨⟩⟩,⟨⟩⟩ ⟨m1,m2,m3⟩
     dsimp only at*
     rw [fF (x1*16777216) (by omega),fF (x2*65536) (by omega),fF (x3*256) (by omega),fF (x1*16777216+x2*65536) (by omega),fF (x1*16777216+x2*65536+x3*256) (by omega),fF (x1*16777216+x2*65536+x3*256+x4) (by omega)]
     have:=tmod_lt (a:=x1*16777216+x2*65536+x3*256+x4) (n:=n) (by omega) (by omega)
     exact ⟨by omega,m1,this.1,fun _=>this.2,fun h=>(by omega)⟩
theorem uJ:OK kQ.e:=by
 refine XA.ok mixed (au [dR.e] ⟨dY,trivial⟩) H0 (fun _ _=>⟨((false,()),(([],0,0,()),())),Int.le_refl _⟩) (by kernel_rfl) (show ∀ c0 c1 c2 n,kQ.goal (adY c0 c1 c2 n) ((c0,c1,c2,()),n,()) from ?_)
 intro b i h n hin hp
 dsimp only [kQ] at hp ⊢
 refine ⟨hp,?_⟩
 rintro ⟨⟨x,⟨⟩⟩,⟨b',i',h',⟨⟩⟩,⟨⟩⟩ ⟨h1,_⟩
 exact h1
theorem jy:OK iE.e:=by
 refine XA.ok mixed (au [dR.e] ⟨dY,trivial⟩) H0 (fun ⟨_,l,⟨⟩⟩ ⟨_,hl⟩=>(match l,hl with|x::_,_=>⟨((x.1,()),(([],0,0,()),())),⟨Int.le_refl _,List.mem_cons_self⟩⟩)) (by kernel_rfl) (show ∀ c0 c1 c2 list,iE.goal (adZ c0 c1 c2 list) ((c0,c1,c2,()),list,()) from ?_)
 intro b i h l hin hp
 dsimp only [iE] at hp ⊢
 obtain ⟨hp,hl⟩:=hp
 have hpos:0<l.length:=List.length_pos_iff.2 hl
 refine ⟨hp,?_⟩
 rintro ⟨⟨x,⟨⟩⟩,⟨b',i',h',⟨⟩⟩,⟨⟩⟩ ⟨h1,h2,h3,_⟩
 have h3:x<(l.length:Int):=h3 (by omega)
 refine ⟨⟨h2,h3⟩,h1,?_⟩
 exact getD_mem (by dsimp only at h2;omega)
theorem lT:OK jk.e:=by
 refine XA.ok mixed (au [dR.e] ⟨dY,trivial⟩) H0 (fun ⟨_,l,⟨⟩⟩ ⟨_,hl⟩=>(match l,hl with|x::_,_=>⟨((x.1,()),(([],0,0,()),())),⟨Int.le_refl _,List.mem_cons_self⟩⟩)) (by kernel_rfl) (show ∀ c0 c1 c2 list,jk.goal (Xw c0 c1 c2 list) ((c0,c1,c2,()),list,()) from ?_)
 intro b i h l hin hp
 dsimp only [jk] at hp ⊢
 obtain ⟨hp,hl⟩:=hp
 have hpos:0<l.length:=List.length_pos_iff.2 hl
 refine ⟨hp,?_⟩
 rintro ⟨⟨x,⟨⟩⟩,⟨b',i',h',⟨⟩⟩,⟨⟩⟩ ⟨h1,h2,h3,_⟩
 have h3:x<(l.length:Int):=h3 (by omega)
 refine ⟨⟨h2,h3⟩,h1,?_⟩
 exact getD_mem (by dsimp only at h2;omega)
theorem Oc:OK yx.e:=by
 refine XA.ok mixed (au [] trivial) ad1 (fun _ _=>⟨((Sp.usual,()),()),rfl⟩) (by kernel_rfl) (show yx.goal (abY) (()) from ?_)
 intro hin hp
 dsimp only [yx] at hp ⊢
 exact rfl
theorem PS:OK Ap.e:=by
 refine XA.ok mixed (au [iE.e] ⟨jy,trivial⟩) H0 (fun _ _=>⟨(([],()),(([],0,0,()),())),⟨by decide,by decide⟩⟩) (by kernel_rfl) (show ∀ c0 c1 c2,Ap.goal (ad2 c0 c1 c2) ((c0,c1,c2,()),()) from ?_)
 intro b i h hin hp
 dsimp only [Ap] at hp ⊢
 refine ⟨⟨hp,by simp⟩,?_⟩
 rintro ⟨⟨x,⟨⟩⟩,⟨b',i',h',⟨⟩⟩,⟨⟩⟩ ⟨h1,h2⟩
 refine ⟨h1,?_⟩
 exact (show ∀ y∈_,List.length y.1≤1 from by decide) _ h2
theorem Xx:Sp.usual.length=4:=rfl
theorem af2:OK GK.e:=by
 refine XA.ok mixed (au [iE.e,Ap.e,dR.e,yx.e] ⟨jy,PS,dY,Oc,trivial⟩) ahU (fun _ _=>⟨(([],()),(([],0,0,()),())),⟨by decide,by decide⟩⟩) (by kernel_rfl) (show ∀ c0 c1 c2,GK.goal (af4 c0 c1 c2) ((c0,c1,c2,()),()) from ?_)
 intro b i h hin hp
 dsimp only [GK] at hp ⊢
 have hp:0≤i:=hp
 refine ⟨trivial,?_⟩
 rintro ⟨⟨_,⟨⟩⟩,⟨⟩⟩ rfl
 dsimp only
 repeat' first
  |exact trivial
  |refine af (fun _=>?_) fun _=>?_
  |refine And.intro ?_ ?_
  |(intro r hr;simp only [] at hr)
  |intro r hr
 all_goals first
  |omega
  |(dsimp only at*;omega)
  |exact hr
  |(simp only [beq_eq_false_iff_ne,ne_eq] at*;omega)
  |(simp only [List.length_set,List.length_take,List.length_append,List.length_cons,List.length_nil,Xx];omega)
  |(rw [bW];simp only [List.length_set,List.length_take,List.length_append,List.length_cons,List.length_nil,Xx];omega)
  |(simp only [List.length_set,List.length_take,List.length_append,List.length_cons,List.length_nil,Xx] at*;omega)
  |exact (show ∀ y∈_,List.length y.1≤10 from by decide) _ hr.2
  |(simp;done)
  |skip
theorem Ht:OK uf.e:=by
 refine PA.ok mixed (au [] trivial) H0 (by kernel_rfl) (show ∀ n,uf.goal (abZ n) (n,()) from ?_)
 intro n hin hp
 dsimp only [uf] at hp ⊢
 exact rfl
theorem xP:OK lJ.e:=by
 refine PA.ok mixed (au [] trivial) H0 (by kernel_rfl) (show ∀ w,lJ.goal (Vt w) (w,()) from ?_)
 intro n hin hp
 dsimp only [lJ] at hp ⊢
 exact rfl
theorem ab1:OK Ec.e:=by
 refine XA.ok mixed (au [lJ.e,iE.e,uf.e,dR.e] ⟨xP,jy,Ht,dY,trivial⟩) H0 (fun _ _=>⟨((((0:Int),(0:Int),([]:List UInt8),()),()),(([],0,0,()),())),⟨by decide,by decide⟩⟩) (by kernel_rfl) (show ∀ c0 c1 c2,Ec.goal (ab2 c0 c1 c2) ((c0,c1,c2,()),()) from ?_)
 intro b i h hin hp
 dsimp only [Ec] at hp ⊢
 have hp:0≤i:=hp
 repeat' first
  |exact trivial
  |refine af (fun _=>?_) fun _=>?_
  |refine And.intro ?_ ?_
  |(intro r hr;simp only [] at hr)
  |intro r hr
 all_goals first
  |omega
  |(dsimp only at*;omega)
  |exact hr
  |(simp only [beq_eq_false_iff_ne,ne_eq] at*;omega)
  |(simp only [List.length_set,List.length_take,List.length_append,List.length_cons,List.length_nil];omega)
  |(rw [bW];simp only [List.length_set,List.length_take,List.length_append,List.length_cons,List.length_nil];omega)
  |(simp only [List.length_set,List.length_take,List.length_append,List.length_cons,List.length_nil] at*;omega)
  |exact (show ∀ y∈_,List.length y.1≤10 from by decide) _ hr.2
  |(simp;done)
  |skip
theorem RG:OK Dn.e:=by
 refine XA.ok mixed (au [iE.e,jk.e,dR.e,Ec.e] ⟨jy,lT,dY,ab1,trivial⟩) H0 (fun _ _=>⟨((((0:Int),(0:Int),([]:List UInt8),()),()),(([],0,0,()),())),⟨by decide,by decide⟩⟩) (by kernel_rfl) (show ∀ c0 c1 c2,Dn.goal (af5 c0 c1 c2) ((c0,c1,c2,()),()) from ?_)
 intro b i h hin hp
 dsimp only [Dn] at hp ⊢
 have hp:0≤i:=hp
 repeat' first
  |exact trivial
  |refine af (fun _=>?_) fun _=>?_
  |refine And.intro ?_ ?_
  |(intro r hr;simp only [] at hr)
  |intro r hr
 all_goals first
  |omega
  |(dsimp only at*;omega)
  |exact hr
  |(simp only [beq_eq_false_iff_ne,ne_eq] at*;omega)
  |(simp only [List.length_set,List.length_take,List.length_append,List.length_cons,List.length_nil];omega)
  |(rw [bW];simp only [List.length_set,List.length_take,List.length_append,List.length_cons,List.length_nil];omega)
  |(simp only [List.length_set,List.length_take,List.length_append,List.length_cons,List.length_nil] at*;omega)
  |exact (show ∀ y∈_,List.length y.1≤10 from by decide) _ hr.2
  |(simp;done)
  |skip
theorem jq:OK iL.e:=by
 refine PA.ok mixed (au [] trivial) H0 (by kernel_rfl) (show ∀ Ij least most,iL.goal (ahV Ij least most) (Ij,least,most,()) from ?_)
 intro x a b hin hp
 dsimp only [iL] at hp ⊢
 refine af (fun h=>?_) fun h=>?_
 · have h:=fJ h
   show (decide (x≤b),())=(decide (a≤x)&&decide (x≤b),())
   rw [decide_eq_true (show a≤x from h)];rfl
 · have h:=fZ h
   show (false,())=(decide (a≤x)&&decide (x≤b),())
   rw [decide_eq_false (show ¬ a≤x from h)];rfl
theorem pI:OK kM.e:=by
 refine PA.ok mixed (au [] trivial) H0 (by kernel_rfl) (show ∀ n low high,kM.goal (af6 n low high) (n,low,high,()) from ?_)
 intro x a b hin hp
 dsimp only [kM] at hp ⊢
 refine af (fun h=>?_) fun h=>?_
 · show (decide (x≤b),())=(decide (a≤x)&&decide (x≤b),())
   rw [h];rfl
 · show (false,())=(decide (a≤x)&&decide (x≤b),())
   rw [h];rfl
theorem MQ {s:List UInt8} {n:Nat} (hlt:n<s.length) (hl:Sp.lower s=true):97≤(s.getD n 0).toNat∧(s.getD n 0).toNat≤122:=by
 have:=List.all_eq_true.1 hl _ (getD_mem (d:=0) hlt)
 simpa using this
theorem PU:OK Aq.e:=by
 refine PA.ok mixed (au [iL.e] ⟨jq,trivial⟩) af7 (by kernel_rfl) (show ∀ s most,Aq.goal (ad3 s most) (s,most,()) from ?_)
 intro s most hin hp
 dsimp only [Aq] at hp ⊢
 have hlen:s.length≤maxLen:=hin.1
 rw [maxLen_eq] at hlen
 refine ⟨fun y=>∃ n:Nat,y.1.1=n∧n≤s.length∧Sp.lower (s.take n)=true,fun y=>((s.length:Int)-y.1.1).toNat,⟨0,rfl,by omega,rfl⟩,?_⟩
 rintro ⟨⟨_,⟨⟩⟩,⟨⟩⟩ ⟨n,rfl,hn,hJ⟩
 dsimp only
 refine af (fun h=>?_) fun h=>?_<;>simp only [decide_eq_true_eq,decide_eq_false_iff_not] at h
 · have hlt:n<s.length:=by omega
   rw [fF _ (by omega),Int.toNat_natCast]
   refine ⟨⟨by omega,by omega⟩,af (fun h2=>?_) fun h2=>⟨⟨by omega,by omega⟩,af (fun h3=>?_) fun h3=>?_⟩⟩<;>simp only [decide_eq_true_eq,decide_eq_false_iff_not] at*
   · cases hl:Sp.lower s with
     |false=>rfl
     |true=>have:=MQ hlt hl;omega
   · cases hl:Sp.lower s with
     |false=>rfl
     |true=>have:=MQ hlt hl;omega
   · refine ⟨rfl,⟨n+1,by simp,by omega,?_⟩,by dsimp only;omega⟩
     rw [Sp.take_succ' s n 0 hlt]
     unfold Sp.lower at hJ ⊢
     rw [List.all_append,hJ]
     simp only [List.all_cons,List.all_nil,Bool.and_true,Bool.true_and,Bool.and_eq_true,decide_eq_true_eq]
     omega
 · have hge:n=s.length:=by omega
   rw [hge,List.take_length] at hJ
   rw [hJ]
   exact ⟨trivial,rfl⟩
theorem Bg:OK l9.e:=by
 refine PA.ok mixed (au [Aq.e] ⟨PU,trivial⟩) H0 (by kernel_rfl) (show ∀ s,l9.goal (RH s) (s,()) from ?_)
 intro s hin hp
 dsimp only [l9] at hp ⊢
 exact ⟨trivial,rfl⟩
theorem Jc:OK qZ.e:=by
 refine PA.ok mixed (au [l9.e,iL.e] ⟨Bg,jq,trivial⟩) H0 (by kernel_rfl) (show ∀ v0 v1 v2,qZ.goal (TU v0 v1 v2) ((v0,v1,v2,()),()) from ?_)
 intro k n s hin hp
 dsimp only [qZ] at hp ⊢
 refine af (fun h=>?_) fun h=>af (fun h2=>⟨trivial,af (fun h3=>?_) fun h3=>?_⟩) fun h2=>af (fun h3=>⟨trivial,af (fun h4=>?_) fun h4=>?_⟩) fun h3=>?_
 · have e:k=0:=by simpa using h
   subst e
   exact congrArg (·,()) (Bool.eq_iff_iff.2 (by simp [jS]))
 · have e:k=1:=by simpa using h2
   subst e
   exact congrArg (·,()) (Bool.eq_iff_iff.2 (by simp only [Bool.and_eq_true,decide_eq_true_eq] at h3;simp [jS,h3]))
 · have e:k=1:=by simpa using h2
   subst e
   exact congrArg (·,()) (Bool.eq_iff_iff.2 (by simp only [jS,h3];simp))
 · have e:k=2:=by simpa using h3
   subst e
   exact congrArg (·,()) (Bool.eq_iff_iff.2 (by simp [jS,h4]))
 · have e:k=2:=by simpa using h3
   subst e
   exact congrArg (·,()) (Bool.eq_iff_iff.2 (by simp [jS,h4]))
 · have e1:k≠0:=by simpa using h
   have e2:k≠1:=by simpa using h2
   have e3:k≠2:=by simpa using h3
   exact congrArg (·,()) (Bool.eq_iff_iff.2 (by simp [jS,e1,e2,e3]))
theorem FO:OK nP.e:=by
 refine PA.ok mixed (au [Aq.e] ⟨PU,trivial⟩) H0 (by kernel_rfl) (show ∀ s,nP.goal (OZ s) (s,()) from ?_)
 intro s hin hp
 dsimp only [nP] at hp ⊢
 exact ⟨trivial,rfl⟩
theorem ZA:OK BQ.e:=by
 refine PA.ok mixed (au [] trivial) ab3 (by kernel_rfl) (show ∀ s name,BQ.goal (ZB s name) (s,name,()) from ?_)
 intro s name hin hp
 dsimp only [BQ] at hp ⊢
 have hlen:s.length≤maxLen:=hin.1.1
 rw [maxLen_eq] at hlen
 refine iM s.length hlen (fun n=>∀ i,i<n→(s.getD i ([],0,())).1≠name) (fun i hi=>by omega) (fun I μ n hn hJ next=>?_) fun I μ hJ=>?_
 · dsimp only
   refine dH (by omega) ⟨⟨by omega,by omega⟩,af (fun h=>⟨⟨by omega,by omega⟩,?_⟩) fun h=>⟨rfl,next fun i hi=>?_⟩⟩
   · exact congrArg (·,()) (Xy s n hn hJ (by simpa only [Int.toNat_natCast,beq_iff_eq] using h)).symm
   · rcases Nat.lt_or_ge i n with h'|h'
     · exact hJ i h'
     · have:i=n:=by omega
       subst this
       have h2:((s.getD i ([],0,())).1==name)=false:=h
       exact fun e=>by rw [e] at h2;simp at h2
 · dsimp only
   exact dI (by omega) (congrArg (·,()) (Qo s hJ).symm)
theorem Ik:OK qc.e:=by
 refine PA.ok mixed (au [iL.e,nP.e] ⟨jq,FO,trivial⟩) TV (by kernel_rfl) (show ∀ s,qc.goal (RI s) (s,()) from ?_)
 intro s hin hp
 dsimp only [qc] at hp ⊢
 have hlen:s.length≤maxLen:=hin.1.1
 rw [maxLen_eq] at hlen
 refine iM s.length hlen (fun n=>∀ i,i<n→kV s i=true) (fun i hi=>by omega) (fun I μ n hn hJ next=>?_) fun I μ hJ=>?_
 · dsimp only
   have no:kV s n=false→(false,())=(fQ s,()):=fun h=>by rw [aa8 hn h]
   refine dH (by omega) ⟨⟨by omega,by omega⟩,trivial,af (fun h2=>no ?_) fun h2=>⟨⟨by omega,by omega⟩,trivial,af (fun h3=>no ?_) fun h3=>af (fun h4=>?_) fun h4=>⟨rfl,next (fA hJ ?_)⟩⟩⟩
   · have h2:jK (Sp.fieldAt s n).1=false:=dS h2
     unfold kV;rw [h2];rfl
   · have h2:jK (Sp.fieldAt s n).1=true:=bU h2
     have h3:(decide (1≤(Sp.fieldAt s n).2.1)&&decide ((Sp.fieldAt s n).2.1≤2))=false:=dS h3
     unfold kV;rw [h2,h3];rfl
   · have h2:jK (Sp.fieldAt s n).1=true:=bU h2
     have h3:(decide (1≤(Sp.fieldAt s n).2.1)&&decide ((Sp.fieldAt s n).2.1≤2))=true:=bU h3
     have h4:0<n:=by have:=fJ h4;omega
     rw [wJ h4 (by omega)]
     refine ⟨⟨by omega,by omega⟩,⟨by omega,by omega⟩,af (fun h5=>no ?_) fun h5=>⟨rfl,next (fA hJ ?_)⟩⟩
     · have h5:Op.bytesLess (Sp.fieldAt s (n-1)).1 (Sp.fieldAt s n).1=false:=dS h5
       unfold kV;rw [h2,h3,h5,decide_eq_true h4];rfl
     · have h5:Op.bytesLess (Sp.fieldAt s (n-1)).1 (Sp.fieldAt s n).1=true:=bU h5
       unfold kV;rw [h2,h3,h5,decide_eq_true h4];rfl
   · have h2:jK (Sp.fieldAt s n).1=true:=bU h2
     have h3:(decide (1≤(Sp.fieldAt s n).2.1)&&decide ((Sp.fieldAt s n).2.1≤2))=true:=bU h3
     have h4:¬ 0<n:=by have:=fZ h4;omega
     unfold kV;rw [h2,h3,decide_eq_false h4];rfl
 · dsimp only
   refine dI (by omega) (congrArg (·,()) ?_)
   unfold fQ
   rw [nV hJ];rfl
theorem RJ:OK vK.e:=by
 refine PA.ok mixed (au [BQ.e,qZ.e] ⟨ZA,Jc,trivial⟩) H0 (by kernel_rfl) (show ∀ s name v0 v1 v2,vK.goal (RN s name v0 v1 v2) (s,name,(v0,v1,v2,()),()) from ?_)
 intro fs s k n w hin hp
 dsimp only [vK] at hp ⊢
 refine ⟨trivial,af (fun h=>af (fun h2=>⟨trivial,?_⟩) fun h2=>?_) fun h=>?_⟩
 · exact congrArg (·,()) (Bool.eq_iff_iff.2 (by simp only [bne_iff_ne,ne_eq] at h2;simp [jm,h,h2]))
 · exact congrArg (·,()) (Bool.eq_iff_iff.2 (by simp at h2;simp [jm,h2]))
 · exact congrArg (·,()) (Bool.eq_iff_iff.2 (by simp [jm,h]))
theorem D6:OK oL.e:=by
 refine PA.ok mixed (au [iL.e,qc.e,vK.e] ⟨jq,Ik,RJ,trivial⟩) Xz (by kernel_rfl) (show ∀ s f0 f1 f2 f3 f4,oL.goal (Vu s f0 f1 f2 f3 f4) (s,(f0,f1,f2,f3,f4,()),()) from ?_)
 intro fs f0 f1 f2 f3 f4 hin hp
 dsimp only [oL] at hp ⊢
 have hlen:f4.length≤maxLen:=hin.2.1.2.2.2.2.1.1
 rw [maxLen_eq] at hlen
 refine iM f4.length hlen (fun n=>∀ i,i<n→jW fs f4 i=true) (fun i hi=>by omega) (fun I μ n hn hJ next=>?_) fun I μ hJ=>?_
 · dsimp only
   have no:jW fs f4 n=false→(false,())=(dm fs (f0,f1,f2,f3,f4,()),()):=fun h=>by rw [aht (f:=(f0,f1,f2,f3,f4,())) hn h]
   refine dH (by omega) ⟨⟨by omega,by omega⟩,⟨by omega,by omega⟩,trivial,af (fun h2=>no ?_) fun h2=>af (fun h4=>?_) fun h4=>⟨rfl,next (fA hJ ?_)⟩⟩
   · have h2:jm fs (dn f4 n).1 (dn f4 n).2.1 (dn f4 n).2.2.1 (dn f4 n).2.2.2.1=false:=dS h2
     unfold jW;rw [h2];rfl
   · have h2:jm fs (dn f4 n).1 (dn f4 n).2.1 (dn f4 n).2.2.1 (dn f4 n).2.2.2.1=true:=bU h2
     have h4:0<n:=by have:=fJ h4;omega
     rw [wJ h4 (by omega)]
     refine ⟨⟨by omega,by omega⟩,⟨by omega,by omega⟩,af (fun h5=>no ?_) fun h5=>⟨rfl,next (fA hJ ?_)⟩⟩
     · have h5:Op.bytesLess (dn f4 (n-1)).1 (dn f4 n).1=false:=dS h5
       unfold jW;rw [h2,h5,decide_eq_true h4];rfl
     · have h5:Op.bytesLess (dn f4 (n-1)).1 (dn f4 n).1=true:=bU h5
       unfold jW;rw [h2,h5,decide_eq_true h4];rfl
   · have h2:jm fs (dn f4 n).1 (dn f4 n).2.1 (dn f4 n).2.2.1 (dn f4 n).2.2.2.1=true:=bU h2
     have h4:¬ 0<n:=by have:=fZ h4;omega
     unfold jW;rw [h2,decide_eq_false h4];rfl
 · dsimp only
   have ha:jT fs f4=true:=nV hJ
   refine dI (by omega) ⟨trivial,af (fun h1=>⟨trivial,af (fun h2=>⟨trivial,af (fun h3=>⟨trivial,?_⟩) fun h3=>?_⟩) fun h2=>?_⟩) fun h1=>?_⟩
   · refine congrArg (·,()) ?_
     unfold dm
     rw [ha,h1,h2,h3];rfl
   · refine congrArg (·,()) ?_
     unfold dm
     rw [ha,h1,h2,h3];rfl
   · refine congrArg (·,()) ?_
     unfold dm
     rw [ha,h1,h2];rfl
   · refine congrArg (·,()) ?_
     unfold dm
     rw [ha,h1];rfl
theorem qC:OK jO.e:=by
 refine PA.ok mixed (au [iL.e,qc.e,oL.e] ⟨jq,Ik,D6,trivial⟩) Vw (by kernel_rfl) (show ∀ s0 s1 s2,jO.goal (TW s0 s1 s2) ((s0,s1,s2,()),()) from ?_)
 intro s0 s1 s2 hin hp
 dsimp only [jO] at hp ⊢
 have hlen:s1.length≤maxLen:=hin.1.2.1.1
 rw [maxLen_eq] at hlen
 refine iM s1.length hlen (fun n=>∀ i,i<n→kK (s0,s1,s2,()) i=true) (fun i hi=>by omega) (fun I μ n hn hJ next=>?_) fun I μ hJ=>?_
 · dsimp only
   have no:kK (s0,s1,s2,()) n=false→(false,())=(ax (s0,s1,s2,()),()):=fun h=>by rw [ad4 (s:=(s0,s1,s2,())) hn h]
   refine dH (by omega) ⟨⟨by omega,by omega⟩,trivial,af (fun h2=>no ?_) fun h2=>⟨⟨by omega,by omega⟩,af (fun h3=>no ?_) fun h3=>af (fun h4=>?_) fun h4=>⟨rfl,next (fA hJ ?_)⟩⟩⟩
   · have h2:dm s0 (Sp.fileAt s1 n)=false:=dS h2
     show (dm s0 (Sp.fileAt s1 n)&&_&&_)=false
     rw [h2];rfl
   · have h2:dm s0 (Sp.fileAt s1 n)=true:=bU h2
     have h3:¬ (Sp.fileAt s1 n).1<s2:=by have h3:(Sp.fileAt s1 n).1≥s2:=fJ h3;omega
     show (dm s0 (Sp.fileAt s1 n)&&decide ((Sp.fileAt s1 n).1<s2)&&_)=false
     rw [h2,decide_eq_false h3];rfl
   · have h2:dm s0 (Sp.fileAt s1 n)=true:=bU h2
     have h3:(Sp.fileAt s1 n).1<s2:=by have h3:¬ (Sp.fileAt s1 n).1≥s2:=fZ h3;omega
     have h4:0<n:=by have:=fJ h4;omega
     rw [wJ h4 (by omega)]
     refine ⟨⟨by omega,by omega⟩,⟨by omega,by omega⟩,af (fun h5=>no ?_) fun h5=>⟨rfl,next (fA hJ ?_)⟩⟩
     · have h5:¬ (Sp.fileAt s1 (n-1)).1<(Sp.fileAt s1 n).1:=by have h5:(Sp.fileAt s1 (n-1)).1≥(Sp.fileAt s1 n).1:=fJ h5;omega
       show (dm s0 (Sp.fileAt s1 n)&&decide ((Sp.fileAt s1 n).1<s2)&&!(decide (0<n)&&!decide ((Sp.fileAt s1 (n-1)).1<(Sp.fileAt s1 n).1)))=false
       rw [h2,decide_eq_true h3,decide_eq_true h4,decide_eq_false h5];rfl
     · have h5:(Sp.fileAt s1 (n-1)).1<(Sp.fileAt s1 n).1:=by have h5:¬ (Sp.fileAt s1 (n-1)).1≥(Sp.fileAt s1 n).1:=fZ h5;omega
       show (dm s0 (Sp.fileAt s1 n)&&decide ((Sp.fileAt s1 n).1<s2)&&!(decide (0<n)&&!decide ((Sp.fileAt s1 (n-1)).1<(Sp.fileAt s1 n).1)))=true
       rw [h2,decide_eq_true h3,decide_eq_true h4,decide_eq_true h5];rfl
   · have h2:dm s0 (Sp.fileAt s1 n)=true:=bU h2
     have h3:(Sp.fileAt s1 n).1<s2:=by have h3:¬ (Sp.fileAt s1 n).1≥s2:=fZ h3;omega
     have h4:¬ 0<n:=by have:=fZ h4;omega
     show (dm s0 (Sp.fileAt s1 n)&&decide ((Sp.fileAt s1 n).1<s2)&&!(decide (0<n)&&!decide ((Sp.fileAt s1 (n-1)).1<(Sp.fileAt s1 n).1)))=true
     rw [h2,decide_eq_true h3,decide_eq_false h4];rfl
 · dsimp only
   have ha:jh s1.length (kK (s0,s1,s2,()))=true:=nV hJ
   refine dI (by omega) ⟨trivial,af (fun h1=>af (fun h2=>⟨trivial,?_⟩) fun h2=>?_) fun h1=>?_⟩
   · refine congrArg (·,()) ?_
     show _=(jh s1.length (kK (s0,s1,s2,()))&&fQ s0&&decide ((s1.length:Int)≤12)&&(decide (1≤s2)&&decide (s2≤61)))
     rw [ha,h1,h2];rfl
   · refine congrArg (·,()) ?_
     show _=(jh s1.length (kK (s0,s1,s2,()))&&fQ s0&&decide ((s1.length:Int)≤12)&&(decide (1≤s2)&&decide (s2≤61)))
     rw [ha,h1,h2];rfl
   · refine congrArg (·,()) ?_
     show _=(jh s1.length (kK (s0,s1,s2,()))&&fQ s0&&decide ((s1.length:Int)≤12)&&(decide (1≤s2)&&decide (s2≤61)))
     rw [ha,h1];rfl
theorem XB:OK zT.e:=by
 refine PA.ok mixed (au [] trivial) ZC (by kernel_rfl) (show ∀ a b,zT.goal (XC a b) (a,b,()) from ?_)
 intro a b hin hp
 dsimp only [zT] at hp ⊢
 have hlen:a.length≤maxLen:=hin.1.1
 rw [maxLen_eq] at hlen
 refine af (fun h=>?_) fun h=>?_
 · have h:(a.length:Int)≠b.length:=by simpa using h
   exact congrArg (·,()) (decide_eq_false fun e=>h (by rw [e])).symm
 · have h:(a.length:Int)=b.length:=by simpa using h
   exact RP (K:=fun r=>r=(decide (a=b),())) (fun x y=>!(x.1==y.1&&(x.2.1==y.2.1&&true))) (fun x y=>by simp [Prod.ext_iff]) _ a b _ hlen (by omega) (fun e=>by rw [decide_eq_false e]) fun e=>by rw [decide_eq_true e]
theorem ZE:OK BU.e:=by
 refine PA.ok mixed (au [] trivial) ab4 (by kernel_rfl) (show ∀ a b,BU.goal (ZF a b) (a,b,()) from ?_)
 intro a b hin hp
 dsimp only [BU] at hp ⊢
 have hlen:a.length≤maxLen:=hin.1.1
 rw [maxLen_eq] at hlen
 refine af (fun h=>?_) fun h=>?_
 · have h:(a.length:Int)≠b.length:=by simpa using h
   exact congrArg (·,()) (decide_eq_false fun e=>h (by rw [e])).symm
 · have h:(a.length:Int)=b.length:=by simpa using h
   exact RP (K:=fun r=>r=(decide (a=b),())) (fun x y=>!(x.1==y.1&&(x.2.1==y.2.1&&(x.2.2.1==y.2.2.1&&(x.2.2.2.1==y.2.2.2.1&&true))))) (fun x y=>by simp [Prod.ext_iff]) _ a b _ hlen (by omega) (fun e=>by rw [decide_eq_false e]) fun e=>by rw [decide_eq_true e]
theorem Oe:OK yA.e:=by
 refine PA.ok mixed (au [BU.e] ⟨ZE,trivial⟩) H0 (by kernel_rfl) (show ∀ a0 a1 a2 a3 a4 b0 b1 b2 b3 b4,yA.goal (ab5 a0 a1 a2 a3 a4 b0 b1 b2 b3 b4) ((a0,a1,a2,a3,a4,()),(b0,b1,b2,b3,b4,()),()) from ?_)
 intro a0 a1 a2 a3 a4 b0 b1 b2 b3 b4 hin hp
 dsimp only [yA] at hp ⊢
 refine af (fun h0=>af (fun h1=>af (fun h2=>af (fun h3=>⟨trivial,?_⟩) fun h3=>?_) fun h2=>?_) fun h1=>?_) fun h0=>?_
 all_goals refine congrArg (·,()) (Bool.eq_iff_iff.2 ?_)
 · simp only [beq_iff_eq] at h0 h1 h2 h3
   subst h0 h1 h2 h3
   simp
 · have h3:a3≠b3:=by simpa using h3
   simp [h3]
 · have h2:a2≠b2:=by simpa using h2
   simp [h2]
 · have h1:a1≠b1:=by simpa using h1
   simp [h1]
 · have h0:a0≠b0:=by simpa using h0
   simp [h0]
theorem ZG:OK BV.e:=by
 refine PA.ok mixed (au [yA.e] ⟨Oe,trivial⟩) ab6 (by kernel_rfl) (show ∀ a b,BV.goal (ZH a b) (a,b,()) from ?_)
 intro a b hin hp
 dsimp only [BV] at hp ⊢
 have hlen:a.length≤maxLen:=hin.1.1
 rw [maxLen_eq] at hlen
 refine af (fun h=>?_) fun h=>?_
 · have h:(a.length:Int)≠b.length:=by simpa using h
   exact congrArg (·,()) (decide_eq_false fun e=>h (by rw [e])).symm
 · have h:(a.length:Int)=b.length:=by simpa using h
   exact ab7 (K:=fun r=>r=(decide (a=b),())) (fun x y=>!decide ((x.1,x.2.1,x.2.2.1,x.2.2.2.1,x.2.2.2.2.1,())=(y.1,y.2.1,y.2.2.1,y.2.2.2.1,y.2.2.2.2.1,()))) (fun x y=>by simp [Prod.ext_iff]) _ a b _ hlen (by omega) (fun e=>by rw [decide_eq_false e]) fun e=>by rw [decide_eq_true e]
theorem ZI:OK BZ.e:=by
 refine PA.ok mixed (au [BV.e,zT.e] ⟨ZG,XB,trivial⟩) H0 (by kernel_rfl) (show ∀ a0 a1 a2 b0 b1 b2,BZ.goal (ZJ a0 a1 a2 b0 b1 b2) ((a0,a1,a2,()),(b0,b1,b2,()),()) from ?_)
 intro a0 a1 a2 b0 b1 b2 hin hp
 dsimp only [BZ] at hp ⊢
 refine ⟨trivial,af (fun h0=>⟨trivial,af (fun h1=>?_) fun h1=>?_⟩) fun h0=>?_⟩
 all_goals refine congrArg (·,()) (Bool.eq_iff_iff.2 ?_)
 · have h0:=fJ h0
   have h1:=fJ h1
   subst h0 h1
   simp
 · have h1:=fZ h1
   simp [h1]
 · have h0:=fZ h0
   simp [h0]
theorem Em:OK rJ.e:=by
 refine PA.ok mixed (au [] trivial) af8 (by kernel_rfl) (show ∀ f0 f1 f2 f3 f4,rJ.goal (ad5 f0 f1 f2 f3 f4) ((f0,f1,f2,f3,f4,()),()) from ?_)
 intro f0 f1 f2 f3 f4 hin hp
 dsimp only [rJ] at hp ⊢
 have hp:f4.length≤1000:=hp
 exact ⟨by rw [bW];omega,rfl⟩
theorem Lh:OK pO.e:=by
 refine PA.ok mixed (au [] trivial) MR (by kernel_rfl) (show ∀ s,pO.goal (Lj s) (s,()) from ?_)
 intro l hin hp
 dsimp only [pO] at hp ⊢
 intro g hg
 have hp:l.length≤1000:=hp
 refine af (fun h=>?_) fun h=>⟨by rw [bW];omega,rfl⟩
 have:=List.length_eq_zero_iff.1 (hg h)
 rw [this]
theorem MS:OK qh.e:=by
 refine PA.ok mixed (au [] trivial) Og (by kernel_rfl) (show ∀ s,qh.goal (MV s) (s,()) from ?_)
 intro l hin hp
 dsimp only [qh] at hp ⊢
 intro g hg
 have hp:l.length≤1000:=hp
 refine af (fun h=>?_) fun h=>⟨by rw [bW];omega,rfl⟩
 have:=List.length_eq_zero_iff.1 (hg h)
 rw [this]
theorem CZ:OK qg.e:=by
 refine PA.ok mixed (au [qh.e] ⟨MS,trivial⟩) ad6 (by kernel_rfl) (show ∀ f0 f1 f2 f3 f4,qg.goal (ab8 f0 f1 f2 f3 f4) ((f0,f1,f2,f3,f4,()),()) from ?_)
 intro f0 f1 f2 f3 f4 hin hp
 dsimp only [qg] at hp ⊢
 exact ⟨hp,rfl⟩
theorem JR:OK xX.e:=by
 refine PA.ok mixed (au [kM.e] ⟨pI,trivial⟩) H0 (by kernel_rfl) (show ∀ n,xX.goal (af9 n) (n,()) from ?_)
 intro n hin hp
 dsimp only [xX] at hp ⊢
 exact ⟨trivial,rfl⟩
theorem Hu:OK ug.e:=by
 refine PA.ok mixed (au [] trivial) ad7 (by kernel_rfl) (show ∀ s0 s1 s2 id,ug.goal (ab9 s0 s1 s2 id) ((s0,s1,s2,()),id,()) from ?_)
 intro s0 s1 s2 id hin hp
 dsimp only [ug] at hp ⊢
 have hlen:s1.length≤maxLen:=hin.1.2.1.1
 rw [maxLen_eq] at hlen
 refine iM s1.length hlen (fun n=>∀ i,i<n→(Sp.fileAt s1 i).1≠id) (fun i hi=>by omega) (fun I μ n hn hJ next=>?_) fun I μ hJ=>?_
 · dsimp only
   refine dH (by omega) ⟨⟨by omega,by omega⟩,af (fun h=>?_) fun h=>⟨rfl,next fun i hi=>?_⟩⟩
   · have h:(Sp.fileAt s1 n).1=id:=fJ h
     exact congrArg (·,()) (Sp.JS hn hJ h).symm
   · rcases Nat.lt_or_ge i n with h'|h'
     · exact hJ i h'
     · have:i=n:=by omega
       subst this
       have h:¬ (Sp.fileAt s1 i).1=id:=fZ h
       exact h
 · dsimp only
   exact dI (by omega) (congrArg (·,()) (TY hJ).symm)
theorem ad8 {s:List aN} {u:Int} {n:Nat} (hn:n<s.length):wF (s.take (n+1)) u=wF (s.take n) u++(if (Sp.fileAt s n).2.1=u then [((Sp.fileAt s n).1,())] else []):=by
 unfold wF
 rw [Sp.take_succ' s n (0,0,false,0,[],()) hn,List.filter_append,List.map_append]
 congr 1
 show List.map _ (List.filter _ [Sp.fileAt s n])=_
 by_cases h:(Sp.fileAt s n).2.1=u
 · rw [List.filter_cons_of_pos (by simpa using h),if_pos h];rfl
 · rw [List.filter_cons_of_neg (by simpa using h),if_neg h];rfl
theorem ank (s:List aN) (u:Int):(wF s u).length≤s.length:=by
 unfold wF
 rw [List.length_map];exact List.length_filter_le ..
theorem set_self {fs:List aN} {n:Nat} (hn:n<fs.length):fs.set n (fs.getD n (0,0,false,0,[],()))=fs:=by
 refine List.ext_getElem (by simp) fun i h1 h2=>?_
 rw [List.getElem_set]
 split
 · next e=>subst e;rw [List.getD_eq_getElem?_getD,List.getElem?_eq_getElem hn];rfl
 · rfl
theorem Oh {s:List fD} (p:fD→Bool) {n:Nat} (hn:n<s.length):(s.take (n+1)).filter p=(s.take n).filter p++(if p (dn s n)=true then [dn s n] else []):=by
 rw [Sp.take_succ' s n ([],0,0,[],()) hn,List.filter_append]
 congr 1
 show List.filter _ [dn s n]=_
 by_cases h:p (dn s n)=true
 · rw [List.filter_cons_of_pos h,if_pos h];rfl
 · rw [List.filter_cons_of_neg h,if_neg h];rfl
theorem ad9 (s:List fD) (p:fD→Bool) (n:Nat):((s.take n).filter p).length≤n:=by
 have:=List.length_filter_le p (s.take n)
 rw [List.length_take] at this
 omega
theorem ajp (al:List fD) (name:Sp.Bytes) (n:Int) (s:Sp.Bytes):kR al name 0 n s=al.filter (qE name):=rfl
theorem amc {al:List fD} {name:Sp.Bytes} {k n:Int} {s:Sp.Bytes} (hk:k≠0) {l:List fD} (hl:l=al.filter (qE name)) {m:Nat} (hm:m≤l.length)
 (h1:∀ i,i<m→rV name (dn l i)=true) (h2:m<l.length→rV name (dn l m)=false):
 List.drop 0 (List.take m l)++[(name,k,n,s,())]++List.drop m (List.take l.length l)=kR al name k n s:=by
 obtain ⟨e1,e2⟩:=Oi (d:=(([]:List UInt8),(0:Int),(0:Int),([]:List UInt8),())) l m hm h1 h2
 unfold kR Zq
 rw [decide_eq_false hk,← hl]
 show _=l.takeWhile (rV name)++_::l.dropWhile (rV name)
 rw [e1,e2,List.take_length,List.drop_zero,List.append_assoc]
 rfl
theorem PV:OK Ar.e:=by
 refine XA.ok mixed (au [] trivial) aga (fun ⟨(i,o,s,l,a,_),name,(k,n,w,_),_⟩ _=>⟨(((i,o,s,l,kR a name k n w,()),()),()),⟨rfl,rfl,rfl,rfl,rfl⟩⟩) (by kernel_rfl) (show ∀ f0 f1 f2 f3 f4 name v0 v1 v2,Ar.goal (aea f0 f1 f2 f3 f4 name v0 v1 v2) ((f0,f1,f2,f3,f4,()),name,(v0,v1,v2,()),()) from ?_)
 intro f0 f1 f2 f3 f4 name k n s hin hp
 dsimp only [Ar] at hp ⊢
 have hp:f4.length≤1000:=hp
 refine dN (fun i (x:List fD)=>(((),i,()),x,())) (fun y=>y.1.2.1) (fun _ _=>rfl) f4.length (by omega) (fun m l=>l=(f4.take m).filter (qE name)) (by simp) (fun I μ m l hm hJ next=>?_) fun I μ l hJ=>?_
 · subst hJ
   have hl:=ad9 f4 (qE name) m
   dsimp only
   refine dH (by omega) ⟨⟨by omega,by omega⟩,af (fun h=>⟨⟨by omega,by omega⟩,by rw [bW];simp only [List.length_cons,List.length_nil];omega,rfl,next _ ?_⟩) fun h=>⟨rfl,next _ ?_⟩⟩
   · rw [Oh _ hm,if_pos (show qE name (dn f4 m)=true from h)];rfl
   · rw [Oh _ hm,if_neg (show ¬ qE name (dn f4 m)=true from fun h'=>by have h:qE name (dn f4 m)=false:=h;rw [h] at h';cases h'),List.append_nil]
 · rw [List.take_length] at hJ
   have hl:l.length≤1000:=by rw [hJ];have:=List.length_filter_le (qE name) f4;omega
   dsimp only
   refine dI (by omega) (af (fun h=>?_) fun h=>?_)
   · have hk:k≠0:=by simpa using h
     have fin:∀ m:Nat,m≤l.length→(∀ i,i<m→rV name (dn l i)=true)→(m<l.length→rV name (dn l m)=false)→
      ((0:Int)≤m∧(m:Int)≤l.length)∧0+(List.drop 0 (List.take m l)).length≤big∧(List.drop 0 (List.take m l)).length+[(name,k,n,s,())].length≤big∧((0:Int)≤m∧(m:Int)≤l.length)∧
      (List.drop 0 (List.take m l)++[(name,k,n,s,())]).length+(List.drop m (List.take l.length l)).length≤big∧
      (f0=f0∧f1=f1∧f2=f2∧f3=f3∧List.drop 0 (List.take m l)++[(name,k,n,s,())]++List.drop m (List.take l.length l)=kR f4 name k n s):=by
      intro m hm h1 h2
      refine ⟨⟨by omega,by omega⟩,?_,?_,⟨by omega,by omega⟩,?_,rfl,rfl,rfl,rfl,amc hk hJ hm h1 h2⟩
      all_goals
       rw [bW]
       simp only [List.length_append,List.length_drop,List.length_take,List.length_cons,List.length_nil]
       omega
     refine iM l.length (by omega) (fun m=>∀ i,i<m→rV name (dn l i)=true) (fun i hi=>by omega) (fun I μ m hm hJ2 next=>?_) fun I μ hJ2=>?_
     · dsimp only
       refine dH (by omega) ⟨⟨by omega,by omega⟩,hm,af (fun h2=>⟨rfl,next (fA (f:=fun i=>rV name (dn l i)) hJ2 h2)⟩) fun h2=>?_⟩
       exact fin m (by omega) hJ2 fun _=>h2
     · dsimp only
       exact dI (by omega) (fin l.length (Nat.le_refl _) hJ2 fun h'=>by omega)
   · have hk:k=0:=by simpa using h
     subst hk
     exact ⟨rfl,rfl,rfl,rfl,by rw [ajp];exact hJ⟩
theorem acd:OK Ed.e:=by
 refine XA.ok mixed (au [] trivial) aeb (fun ⟨s,_⟩ _=>⟨(((s,[],1,()),()),()),⟨rfl,rfl,rfl⟩⟩) (by kernel_rfl) (show ∀ s,Ed.goal (ace s) (s,()) from ?_)
 intro s hin hp
 dsimp only [Ed] at hp ⊢
 have hp:s.length≤1000:=hp
 exact ⟨by rw [bW];omega,rfl,rfl,rfl⟩
theorem zl:OK oN.e:=by
 refine XA.ok mixed (au [rJ.e] ⟨Em,trivial⟩) agb (fun ⟨(a,l,nx,_),_⟩ _=>⟨(((a,l,nx,()),()),()),rfl⟩) (by kernel_rfl) (show ∀ s0 s1 s2,oN.goal (aec s0 s1 s2) ((s0,s1,s2,()),()) from ?_)
 intro s0 s1 s2 hin hp
 dsimp only [oN] at hp ⊢
 obtain ⟨h0,h1,h2⟩:s0.length≤1000∧s1.length≤1000∧∀ f∈s1,cu f:=hp
 refine ⟨by rw [bW];omega,?_⟩
 refine dN (fun i (x:List aN)=>((i,()),((),(),s2,()),x,())) (fun y=>y.1.1) (fun _ _=>rfl) s1.length (by omega) (fun n l=>l=s1.take n) (by simp) (fun I μ n l hn hJ next=>?_) fun I μ l hJ=>?_
 · subst hJ
   have hl:(s1.take n).length≤n:=by rw [List.length_take];omega
   dsimp only
   refine dH (by omega) ⟨⟨by omega,by omega⟩,h2 _ (getD_mem (d:=((0:Int),(0:Int),false,(0:Int),[],())) hn),by rw [bW];simp only [List.length_cons,List.length_nil];omega,rfl,next _ ?_⟩
   exact (Sp.take_succ' s1 n (0,0,false,0,[],()) hn).symm
 · subst hJ
   dsimp only
   refine dI (by omega) ?_
   rw [List.take_length]
theorem EL:OK qG.e:=by
 refine XA.ok mixed (au [oL.e,jO.e,rJ.e,oN.e] ⟨D6,qC,Em,zl,trivial⟩) ZK (fun ⟨s,f,_⟩ _=>⟨((((aH s f).1.1,(aH s f).1.2.1,(aH s f).1.2.2.1,()),(aH s f).2.1,(aH s f).2.2,()),()),⟨rfl,rfl,rfl,rfl,rfl⟩⟩) (by kernel_rfl) (show ∀ s0 s1 s2 f0 f1 f2 f3 f4,qG.goal (XD s0 s1 s2 f0 f1 f2 f3 f4) ((s0,s1,s2,()),(f0,f1,f2,f3,f4,()),()) from ?_)
 intro s0 s1 s2 f0 f1 f2 f3 f4 hin hp
 dsimp only [qG] at hp ⊢
 refine ⟨hp.1,?_⟩
 rintro ⟨⟨⟨a,l,nx,⟨⟩⟩,⟨⟩⟩,⟨⟩⟩ e
 obtain ⟨rfl,rfl,rfl⟩:a=s0∧l=s1∧nx=s2:=by simpa using e
 have hs:l.length≤1000:=hp.1.2.1
 have no:¬ (ax (a,l,nx,())=true∧l.length<12∧dm a (nx,f1,f2,f3,f4,())=true)→aH (a,l,nx,()) (f0,f1,f2,f3,f4,())=((a,l,nx,()),0,false):=fun h=>by
  rcases jD (a,l,nx,()) (f0,f1,f2,f3,f4,()) with ⟨e,_⟩|⟨h1,h2,h3,_⟩
  · exact e
  · exact (h ⟨h1,h2,h3⟩).elim
 refine ⟨hp.2,trivial,af (fun h1=>?_) fun h1=>af (fun h2=>?_) fun h2=>⟨trivial,af (fun h3=>?_) fun h3=>?_⟩⟩
 · have:=no fun h=>by have h1:=dS h1;have:=h.1;rw [show ax (a,l,nx,())=false from h1] at this;cases this
   dsimp only
   rw [this];exact ⟨rfl,rfl,rfl,rfl,rfl⟩
 · have:=no fun h=>by have h2:(l.length:Int)≥12:=fJ h2;omega
   dsimp only
   rw [this];exact ⟨rfl,rfl,rfl,rfl,rfl⟩
 · have:=no fun h=>by have h3:=dS h3;have:=h.2.2;rw [show dm a (nx,f1,f2,f3,f4,())=false from h3] at this;cases this
   dsimp only
   rw [this];exact ⟨rfl,rfl,rfl,rfl,rfl⟩
 · have g1:ax (a,l,nx,())=true:=bU h1
   have g2:l.length<12:=by have h2:¬ (l.length:Int)≥12:=fZ h2;omega
   have g3:dm a (nx,f1,f2,f3,f4,())=true:=bU h3
   rcases jD (a,l,nx,()) (f0,f1,f2,f3,f4,()) with ⟨_,e⟩|⟨_,_,_,e⟩
   · exact (e ⟨g1,g2,g3⟩).elim
   · have hnx:=(kz.1 g1).2.2.2
     have w:IntKind.i64.wrap (nx+1)=nx+1:=fF _ (by have h5:nx≤61:=hnx.2;have h6:1≤nx:=hnx.1;omega)
     refine ⟨by rw [bW];simp only [List.length_cons,List.length_nil];omega,?_⟩
     dsimp only
     rw [e,w];exact ⟨rfl,rfl,rfl,rfl,rfl⟩
theorem KL:OK uY.e:=by
 refine XA.ok mixed (au [jO.e,ug.e,oN.e] ⟨qC,Hu,zl,trivial⟩) ZL (fun ⟨s,id,_⟩ _=>⟨((((aX s id).1.1,(aX s id).1.2.1,(aX s id).1.2.2.1,()),(aX s id).2,()),()),⟨rfl,rfl,rfl,rfl⟩⟩) (by kernel_rfl) (show ∀ s0 s1 s2 id,uY.goal (XF s0 s1 s2 id) ((s0,s1,s2,()),id,()) from ?_)
 intro s0 s1 s2 id hin hp
 dsimp only [uY] at hp ⊢
 refine ⟨hp,?_⟩
 rintro ⟨⟨⟨a,l,nx,⟨⟩⟩,⟨⟩⟩,⟨⟩⟩ e
 obtain ⟨rfl,rfl,rfl⟩:a=s0∧l=s1∧nx=s2:=by simpa using e
 have hs:l.length≤1000:=hp.2.1
 have no:¬ (ax (a,l,nx,())=true∧0≤Sp.place l id)→aX (a,l,nx,()) id=((a,l,nx,()),false):=fun h=>by
  rcases lU (a,l,nx,()) id with ⟨e,_⟩|⟨n,hn,h1,h2,_⟩
  · exact e
  · exact (h ⟨h2,by have h1:Sp.place l id=n:=h1;omega⟩).elim
 refine ⟨trivial,trivial,af (fun h1=>?_) fun h1=>af (fun h2=>?_) fun h2=>?_⟩
 · have:=no fun h=>by have h1:=dS h1;have:=h.1;rw [show ax (a,l,nx,())=false from h1] at this;cases this
   dsimp only
   rw [this];exact ⟨rfl,rfl,rfl,rfl⟩
 · have:=no fun h=>by have h2:Sp.place l id<0:=fJ h2;omega
   dsimp only
   rw [this];exact ⟨rfl,rfl,rfl,rfl⟩
 · have g1:ax (a,l,nx,())=true:=bU h1
   have g2:0≤Sp.place l id:=by have h2:¬ Sp.place l id<0:=fZ h2;omega
   rcases lU (a,l,nx,()) id with ⟨_,e⟩|⟨n,hn,hpl,_,e⟩
   · exact (e ⟨g1,g2⟩).elim
   · have hn:n<l.length:=hn
     have hpl:Sp.place l id=n:=hpl
     have w:IntKind.i64.wrap ((n:Int)+1)=((n+1:Nat):Int):=fF _ (by omega)
     dsimp only
     rw [hpl,e,w,Int.toNat_natCast,Int.toNat_natCast,List.drop_zero,List.take_length,bW]
     refine ⟨⟨by omega,by omega⟩,by rw [List.length_take];omega,⟨by omega,by omega⟩,by rw [List.length_take,List.length_drop];omega,rfl,?_,rfl,rfl⟩
     exact (List.eraseIdx_eq_take_drop_succ ..).symm
def Zr (L:List (List fD)) (name:Sp.Bytes) (vals:List (Int×Int×Sp.Bytes)):List (List fD):=L++L.flatMap fun a=>vals.map fun v=>kR a name v.1 v.2.1 v.2.2
theorem wz {L:List (List fD)} {name:Sp.Bytes} {vals:List (Int×Int×Sp.Bytes)} {a:List fD} (h:a∈L):a∈Zr L name vals:=List.mem_append_left _ h
theorem PW {L:List (List fD)} {name:Sp.Bytes} {vals:List (Int×Int×Sp.Bytes)} {a:List fD} (h:a∈L) {k n:Int} {s:Sp.Bytes} (hv:(k,n,s)∈vals):kR a name k n s∈Zr L name vals:=
 List.mem_append_right _ (List.mem_flatMap.2 ⟨a,h,List.mem_map.2 ⟨(k,n,s),hv,rfl⟩⟩)
def ints:List (Int×Int×Sp.Bytes):=[(1,0,[]),(1,1,[]),(1,2,[]),(1,3,[])]
def names:List (Int×Int×Sp.Bytes):=[(2,0,[105,110,107]),(2,0,[115,101,97])]
def tags:List (Int×Int×Sp.Bytes):=[(2,0,[114,101,100]),(2,0,[98,108,117,101])]
def aed:List (List fD):=Zr [[]] [97] ints
def aee:List (List fD):=Zr aed [98] ints
def aef:List (List fD):=Zr aee [110] names
def aeg:List (List fD):=Zr aef [116] tags
theorem aoh:(aeg.all fun a=>jT Sp.usual a&&decide (a.length≤4))=true:=by kernel_rfl
theorem PX {a:List fD} (h:a∈aeg):jT Sp.usual a=true∧a.length≤4:=by
 have:=List.all_eq_true.1 aoh a h
 simpa using this
theorem aps {a:List fD} (h:a∈aed):a.length≤4:=(PX (wz (wz (wz h)))).2
theorem apt {a:List fD} (h:a∈aee):a.length≤4:=(PX (wz (wz h))).2
theorem apu {a:List fD} (h:a∈aef):a.length≤4:=(PX (wz h)).2
theorem ajq {x:Int} (h0:0≤x) (h1:x<4):((1:Int),x,([]:Sp.Bytes))∈ints:=by
 rcases (show x=0∨x=1∨x=2∨x=3 by omega) with h|h|h|h<;>subst h<;>simp [ints]
theorem anl {w:Sp.Bytes} (h:(w,())∈[(([105,110,107]:Sp.Bytes),()),([115,101,97],())]):((2:Int),(0:Int),w)∈names:=by
 simp only [List.mem_cons,Prod.mk.injEq,and_true,List.not_mem_nil,or_false] at h
 rcases h with h|h<;>subst h<;>simp [names]
theorem aoi {w:Sp.Bytes} (h:(w,())∈[(([114,101,100]:Sp.Bytes),()),([98,108,117,101],())]):((2:Int),(0:Int),w)∈tags:=by
 simp only [List.mem_cons,Prod.mk.injEq,and_true,List.not_mem_nil,or_false] at h
 rcases h with h|h<;>subst h<;>simp [tags]
def Head (id:Int) (f:Int×Int×Bool×Int×Unit×Unit):Prop:=f.1=id∧0≤f.2.1∧f.2.1≤2∧0≤f.2.2.2.1∧f.2.2.2.1≤6
theorem En:OK rM.e:=by
 refine XA.ok mixed (au [lJ.e,iE.e,Ar.e,uf.e,kQ.e,dR.e] ⟨xP,jy,PV,Ht,uJ,dY,trivial⟩) agc (fun ⟨_,id,_⟩ _=>⟨(((id,0,false,0,[],()),()),(([],0,0,()),())),⟨by dsimp only;decide,rfl,by dsimp only;decide,by dsimp only;decide,by dsimp only;decide,by dsimp only;decide,rfl,by dsimp only;decide⟩⟩) (by kernel_rfl) (show ∀ c0 c1 c2 id,rM.goal (aeh c0 c1 c2 id) ((c0,c1,c2,()),id,()) from ?_)
 intro b i h id hin hp
 dsimp only [rM] at hp ⊢
 have hp:0≤i:=hp
 refine ⟨hp,?_⟩
 rintro ⟨⟨x0,⟨⟩⟩,⟨b0,i0,g0,⟨⟩⟩,⟨⟩⟩ ⟨p0,q0,q1,_⟩
 refine ⟨p0,?_⟩
 rintro ⟨⟨x1,⟨⟩⟩,⟨b1,i1,g1,⟨⟩⟩,⟨⟩⟩ p1
 have q1:x0<3:=q1 (by decide)
 have q0:0≤x0:=q0
 refine ⟨fun y=>0≤y.2.1.2.1∧Head id y.2.2.1,⟨p1,?_⟩,?_⟩
 · rintro ⟨⟨x3,⟨⟩⟩,⟨b3,i3,g3,⟨⟩⟩,⟨⟩⟩ p3
   refine af (fun _=>⟨p3,?_⟩) fun _=>⟨rfl,p3,rfl,q0,(show x0≤2 by omega),Int.le_refl _,(show (0:Int)≤6 by decide)⟩
   rintro ⟨⟨x4,⟨⟩⟩,⟨b4,i4,g4,⟨⟩⟩,⟨⟩⟩ ⟨p4,q4,q5,_⟩
   have q5:x4<7:=q5 (by decide)
   exact ⟨rfl,p4,rfl,q0,(show x0≤2 by omega),q4,(show x4≤6 by omega)⟩
 rintro ⟨⟨⟩,⟨b5,i5,g5,⟨⟩⟩,f5,⟨⟩⟩ ⟨p5,H5⟩
 refine ⟨fun y=>0≤y.2.1.2.1∧Head id y.2.2.1∧y.2.2.2.1∈aed,⟨p5,?_⟩,?_⟩
 · rintro ⟨⟨x7,⟨⟩⟩,⟨b7,i7,g7,⟨⟩⟩,⟨⟩⟩ p7
   refine af (fun _=>⟨p7,?_⟩) fun _=>⟨rfl,p7,H5,wz List.mem_cons_self⟩
   rintro ⟨⟨x8,⟨⟩⟩,⟨b8,i8,g8,⟨⟩⟩,⟨⟩⟩ ⟨p8,q8,q9,_⟩
   refine ⟨trivial,(show (0:Nat)≤1000 by decide),?_⟩
   rintro ⟨⟨⟨d,o,s,l,a,⟨⟩⟩,⟨⟩⟩,⟨⟩⟩ ⟨e1,e2,e3,e4,e5⟩
   refine ⟨rfl,p8,?_,?_⟩
   · exact ⟨(show d=id from (show d=f5.1 from e1).trans H5.1),by rw [show o=f5.2.1 from e2];exact H5.2.1,by rw [show o=f5.2.1 from e2];exact H5.2.2.1,by rw [show l=f5.2.2.2.1 from e4];exact H5.2.2.2.1,by rw [show l=f5.2.2.2.1 from e4];exact H5.2.2.2.2⟩
   · have e5:a=kR [] [97] 1 x8 []:=e5
     show a∈aed
     rw [e5];exact PW List.mem_cons_self (ajq q8 (q9 (by decide)))
 rintro ⟨⟨⟩,⟨b11,i11,g11,⟨⟩⟩,f11,a11,⟨⟩⟩ ⟨p11,H11,m11⟩
 refine ⟨fun y=>0≤y.2.1.2.1∧Head id y.2.2.1∧y.2.2.2.1∈aee,⟨p11,?_⟩,?_⟩
 · rintro ⟨⟨x7,⟨⟩⟩,⟨b7,i7,g7,⟨⟩⟩,⟨⟩⟩ p7
   refine af (fun _=>⟨p7,?_⟩) fun _=>⟨rfl,p7,H11,wz m11⟩
   rintro ⟨⟨x8,⟨⟩⟩,⟨b8,i8,g8,⟨⟩⟩,⟨⟩⟩ ⟨p8,q8,q9,_⟩
   refine ⟨trivial,Nat.le_trans (aps m11) (by decide),?_⟩
   rintro ⟨⟨⟨d,o,s,l,a,⟨⟩⟩,⟨⟩⟩,⟨⟩⟩ ⟨e1,e2,e3,e4,e5⟩
   refine ⟨rfl,p8,?_,?_⟩
   · exact ⟨(show d=id from (show d=f11.1 from e1).trans H11.1),by rw [show o=f11.2.1 from e2];exact H11.2.1,by rw [show o=f11.2.1 from e2];exact H11.2.2.1,by rw [show l=f11.2.2.2.1 from e4];exact H11.2.2.2.1,by rw [show l=f11.2.2.2.1 from e4];exact H11.2.2.2.2⟩
   · have e5:a=kR a11 [98] 1 x8 []:=e5
     show a∈aee
     rw [e5];exact PW m11 (ajq q8 (q9 (by decide)))
 rintro ⟨⟨⟩,⟨b17,i17,g17,⟨⟩⟩,f17,a17,⟨⟩⟩ ⟨p17,H17,m17⟩
 refine ⟨fun y=>0≤y.2.1.2.1∧Head id y.2.2.1∧y.2.2.2.1∈aef,⟨p17,?_⟩,?_⟩
 · rintro ⟨⟨x7,⟨⟩⟩,⟨b7,i7,g7,⟨⟩⟩,⟨⟩⟩ p7
   refine af (fun _=>⟨⟨p7,by simp⟩,?_⟩) fun _=>⟨rfl,p7,H17,wz m17⟩
   rintro ⟨⟨x8,⟨⟩⟩,⟨b8,i8,g8,⟨⟩⟩,⟨⟩⟩ ⟨p8,q8⟩
   refine ⟨trivial,Nat.le_trans (apt m17) (by decide),?_⟩
   rintro ⟨⟨⟨d,o,s,l,a,⟨⟩⟩,⟨⟩⟩,⟨⟩⟩ ⟨e1,e2,e3,e4,e5⟩
   refine ⟨rfl,p8,?_,?_⟩
   · exact ⟨(show d=id from (show d=f17.1 from e1).trans H17.1),by rw [show o=f17.2.1 from e2];exact H17.2.1,by rw [show o=f17.2.1 from e2];exact H17.2.2.1,by rw [show l=f17.2.2.2.1 from e4];exact H17.2.2.2.1,by rw [show l=f17.2.2.2.1 from e4];exact H17.2.2.2.2⟩
   · have e5:a=kR a17 [110] 2 0 x8:=e5
     show a∈aef
     rw [e5];exact PW m17 (anl q8)
 rintro ⟨⟨⟩,⟨b23,i23,g23,⟨⟩⟩,f23,a23,⟨⟩⟩ ⟨p23,H23,m23⟩
 refine ⟨fun y=>0≤y.2.1.2.1∧Head id y.2.2.1∧y.2.2.2.1∈aeg,⟨p23,?_⟩,?_⟩
 · rintro ⟨⟨x7,⟨⟩⟩,⟨b7,i7,g7,⟨⟩⟩,⟨⟩⟩ p7
   refine af (fun _=>⟨⟨p7,by simp⟩,?_⟩) fun _=>⟨rfl,p7,H23,wz m23⟩
   rintro ⟨⟨x8,⟨⟩⟩,⟨b8,i8,g8,⟨⟩⟩,⟨⟩⟩ ⟨p8,q8⟩
   refine ⟨trivial,Nat.le_trans (apu m23) (by decide),?_⟩
   rintro ⟨⟨⟨d,o,s,l,a,⟨⟩⟩,⟨⟩⟩,⟨⟩⟩ ⟨e1,e2,e3,e4,e5⟩
   refine ⟨rfl,p8,?_,?_⟩
   · exact ⟨(show d=id from (show d=f23.1 from e1).trans H23.1),by rw [show o=f23.2.1 from e2];exact H23.2.1,by rw [show o=f23.2.1 from e2];exact H23.2.2.1,by rw [show l=f23.2.2.2.1 from e4];exact H23.2.2.2.1,by rw [show l=f23.2.2.2.1 from e4];exact H23.2.2.2.2⟩
   · have e5:a=kR a23 [116] 2 0 x8:=e5
     show a∈aeg
     rw [e5];exact PW m23 (aoi q8)
 rintro ⟨⟨⟩,⟨b29,i29,g29,⟨⟩⟩,f29,a29,⟨⟩⟩ ⟨p29,H29,m29⟩
 have hm:=PX m29
 exact ⟨p29,H29.1,H29.2.1,H29.2.2.1,H29.2.2.2.1,H29.2.2.2.2,hm.1,hm.2⟩
theorem aks (al:List fD) (name:Sp.Bytes) (k n:Int) (s:Sp.Bytes):(kR al name k n s).length≤al.length+1:=by
 have hf:=List.length_filter_le (qE name) al
 unfold kR
 cases decide (k=0) with
 |true=>show (al.filter _).length≤_;omega
 |false=>
  show (Zq _ _).length≤_
  unfold Zq
  have:=congrArg List.length (List.takeWhile_append_dropWhile (p:=rV name) (l:=al.filter (qE name)))
  rw [List.length_append] at this
  rw [List.length_append,List.length_cons]
  show ((al.filter (qE name)).takeWhile (rV name)).length+(((al.filter (qE name)).dropWhile (rV name)).length+1)≤_
  omega
theorem agd:OK GL.e:=by
 refine XA.ok mixed (au [Ar.e,lJ.e,Dn.e,Ap.e,jk.e,rM.e,dR.e] ⟨PV,xP,RG,PS,lT,En,dY,trivial⟩) ahW (fun _ _=>⟨(((0,0,false,0,[],()),()),(([],0,0,()),())),⟨by decide,by decide⟩⟩) (by kernel_rfl) (show ∀ c0 c1 c2,GL.goal (agf c0 c1 c2) ((c0,c1,c2,()),()) from ?_)
 intro b i h hin hp
 dsimp only [GL] at hp ⊢
 have hp:0≤i:=hp
 refine ⟨hp,?_⟩
 rintro ⟨⟨x0,⟨⟩⟩,⟨b0,i0,g0,⟨⟩⟩,⟨⟩⟩ ⟨p0,_⟩
 refine ⟨p0,?_⟩
 rintro ⟨⟨⟨d,o,s,l,a,⟨⟩⟩,⟨⟩⟩,⟨b1,i1,g1,⟨⟩⟩,⟨⟩⟩ ⟨p1,_,_,_,_,_,_,ha⟩
 have ha:a.length≤4:=ha
 refine ⟨p1,?_⟩
 rintro ⟨⟨x2,⟨⟩⟩,⟨b2,i2,g2,⟨⟩⟩,⟨⟩⟩ ⟨p2,_⟩
 refine af (fun _=>⟨⟨p2,by simp⟩,?_⟩) fun _=>af (fun _=>⟨⟨p2,by simp⟩,?_⟩) fun _=>af (fun _=>⟨⟨p2,by simp⟩,?_⟩) fun _=>af (fun _=>⟨p2,?_⟩) fun _=>af (fun _=>⟨trivial,(show a.length≤1000 by omega),?_⟩) fun _=>⟨p2,(show a.length≤10 by omega)⟩
 · rintro ⟨⟨x3,⟨⟩⟩,⟨b3,i3,g3,⟨⟩⟩,⟨⟩⟩ ⟨p3,_⟩
   exact ⟨p3,(show a.length≤10 by omega)⟩
 · rintro ⟨⟨x3,⟨⟩⟩,⟨b3,i3,g3,⟨⟩⟩,⟨⟩⟩ ⟨p3,_⟩
   exact ⟨p3,(show a.length≤10 by omega)⟩
 · rintro ⟨⟨x3,⟨⟩⟩,⟨b3,i3,g3,⟨⟩⟩,⟨⟩⟩ ⟨p3,_⟩
   exact ⟨p3,(show a.length≤10 by omega)⟩
 · rintro ⟨⟨x3,⟨⟩⟩,⟨b3,i3,g3,⟨⟩⟩,⟨⟩⟩ ⟨p3,_⟩
   refine ⟨p3,?_⟩
   rintro ⟨⟨⟨k,n,w,⟨⟩⟩,⟨⟩⟩,⟨b4,i4,g4,⟨⟩⟩,⟨⟩⟩ ⟨p4,_⟩
   refine ⟨(show a.length+1≤big by rw [bW];omega),p4,?_⟩
   show (a++[_]).length≤10
   rw [List.length_append,List.length_cons,List.length_nil];omega
 · rintro ⟨⟨⟨d',o',s',l',a',⟨⟩⟩,⟨⟩⟩,⟨⟩⟩ ⟨_,_,_,_,e5⟩
   refine ⟨p2,?_⟩
   have e5:a'=kR a [97] 2 0 [114,101,100]:=e5
   show a'.length≤10
   rw [e5]
   have:=aks a [97] 2 0 [114,101,100]
   omega
theorem aoj:fQ Sp.usual=true:=by kernel_rfl
theorem aok:ax (Sp.usual,[],1,())=true:=by kernel_rfl
theorem akt:bn (Sp.usual,[],1,()):=⟨by decide,by decide,fun f hf=>by cases hf⟩
theorem C9 {a:List gW} {l:List aN} {nx:Int} {X:bT} (h1:a=X.1) (h2:l=X.2.1) (h3:nx=X.2.2.1):((a,l,nx,()):bT)=X:=by subst h1 h2 h3;rfl
theorem ajr (s:bT) (f:aN):(aH s f).1.1=s.1∧((aH s f).1.2.1.length:Int)-(aH s f).1.2.2.1=s.2.1.length-s.2.2.1:=by
 rcases jD s f with ⟨e,_⟩|⟨_,_,_,e⟩
 · rw [e];exact ⟨rfl,rfl⟩
 · rw [e]
   refine ⟨rfl,?_⟩
   show ((s.2.1++[(s.2.2.1,f.2)]).length:Int)-(s.2.2.1+1)=_
   rw [List.length_append,List.length_cons,List.length_nil];omega
theorem XG (s:bT) (id:Int):(aX s id).1.1=s.1∧(aX s id).1.2.2.1=s.2.2.1∧s.2.1.length≤(aX s id).1.2.1.length+1:=by
 rcases lU s id with ⟨e,_⟩|⟨n,hn,_,_,e⟩
 · rw [e];exact ⟨rfl,rfl,Nat.le_succ _⟩
 · rw [e]
   refine ⟨rfl,rfl,?_⟩
   show s.2.1.length≤(s.2.1.eraseIdx n).length+1
   rw [List.length_eraseIdx_of_lt hn];omega
structure sH (k:Int) (s:bT):Prop where
 sch:s.1=Sp.usual
 ok:ax s=true
 nx:s.2.2.1≤s.2.1.length+k
 small:bn s
theorem sH.create {k:Int} {s:bT} (h:sH k s) {f:aN} (hf:cu f):sH k (aH s f).1:=by
 obtain ⟨h1,h2⟩:=ajr s f
 exact ⟨h1.trans h.sch,Bh f h.ok,by have:=h.nx;omega,Ll h.small hf⟩
theorem sH.delete {k:Int} {s:bT} (h:sH k s) (id:Int):sH (k+1) (aX s id).1:=by
 obtain ⟨h1,h2,h3⟩:=XG s id
 exact ⟨h1.trans h.sch,Bj id h.ok,by have:=h.nx;omega,Lm id h.small⟩
theorem sH.more {k k':Int} {s:bT} (h:sH k s) (hk:k≤k'):sH k' s:=⟨h.sch,h.ok,by have:=h.nx;omega,h.small⟩
theorem sH.grows {s:bT} (h:sH 2 s) (hl:s.2.1.length<12) {f:aN} (ho:0≤f.2.1∧f.2.1≤2) (hk:0≤f.2.2.2.1∧f.2.2.2.1≤6) (ha:jT Sp.usual f.2.2.2.2.1=true):(aH s f).1.2.1.length=s.2.1.length+1:=by
 have hnx:=(kz.1 h.ok).2.2.2
 have h2:=h.nx
 have hf:dm s.1 (s.2.2.1,f.2)=true:=by
  rw [h.sch]
  show (jT Sp.usual f.2.2.2.2.1&&fQ Sp.usual&&(decide (1≤s.2.2.1)&&decide (s.2.2.1≤60))&&(decide (0≤f.2.1)&&decide (f.2.1≤2))&&(decide (0≤f.2.2.2.1)&&decide (f.2.2.2.1≤60)))=true
  rw [ha,aoj,decide_eq_true hnx.1,decide_eq_true (by omega),decide_eq_true ho.1,decide_eq_true ho.2,decide_eq_true hk.1,decide_eq_true (by omega)]
  rfl
 rcases jD s f with ⟨_,e⟩|⟨_,_,_,e⟩
 · exact (e ⟨h.ok,hl,hf⟩).elim
 · rw [e]
   show (s.2.1++[_]).length=_
   rw [List.length_append];rfl
theorem Oj:ax (Sp.usual,[(1,0,false,0,[],())],2,())=true∧bn (Sp.usual,[(1,0,false,0,[],())],2,()):=⟨by kernel_rfl,by decide,by decide,fun f hf=>by rw [List.mem_singleton.1 hf];exact Nat.zero_le _⟩
theorem sH.one {s:bT} (h:sH 1 s) {f:aN} (ho:0≤f.2.1∧f.2.1≤2) (hk:0≤f.2.2.2.1∧f.2.2.2.1≤6) (ha:jT Sp.usual f.2.2.2.2.1=true):0<(aH s f).1.2.1.length:=by
 by_cases hl:s.2.1.length<12
 · rw [(h.more (show (1:Int)≤2 by decide)).grows hl ho hk ha];omega
 · rcases jD s f with ⟨e,_⟩|⟨_,_,_,e⟩
   · rw [e];show 0<s.2.1.length;omega
   · rw [e];show 0<(s.2.1++[_]).length;rw [List.length_append,List.length_singleton];omega
theorem Hw:OK uh.e:=by
 refine XA.ok mixed (au [uY.e,kQ.e,qG.e,rM.e,dR.e,Ed.e,yx.e] ⟨KL,uJ,EL,En,dY,acd,Oc,trivial⟩) aei (fun _ _=>⟨(((Sp.usual,[(1,0,false,0,[],())],2,()),()),(([],0,0,()),())),⟨by decide,rfl,Oj.1,by decide,Oj.2,by decide⟩⟩) (by kernel_rfl) (show ∀ c0 c1 c2,uh.goal (acf c0 c1 c2) ((c0,c1,c2,()),()) from ?_)
 intro b i h hin hp
 dsimp only [uh] at hp ⊢
 have hp:0≤i:=hp
 refine ⟨trivial,?_⟩
 rintro ⟨⟨u,⟨⟩⟩,⟨⟩⟩ hu
 have hu:u=Sp.usual:=hu
 subst hu
 refine ⟨(show Sp.usual.length≤1000 by decide),?_⟩
 rintro ⟨⟨⟨a,l,nx,⟨⟩⟩,⟨⟩⟩,⟨⟩⟩ ⟨e1,e2,e3⟩
 have e1:a=Sp.usual:=e1
 have e2:l=[]:=e2
 have e3:nx=1:=e3
 subst e1 e2 e3
 refine ⟨fun y=>0≤y.2.1.2.1∧(0≤y.1.1∧y.1.1≤7)∧sH 1 (y.2.2.2.1,y.2.2.2.2.1,y.2.2.1.2.2.1,())∧(0<y.1.1→0<y.2.2.2.2.1.length),fun y=>(8-y.1.1).toNat,⟨hp,⟨(show (0:Int)≤0 by decide),(show (0:Int)≤7 by decide)⟩,⟨rfl,aok,(show (1:Int)≤((0:Nat):Int)+1 by decide),akt⟩,fun h=>absurd h (Int.lt_irrefl 0)⟩,?_⟩
 rintro ⟨⟨n,⟨⟩⟩,⟨b0,i0,g0,⟨⟩⟩,⟨⟨⟩,⟨⟩,nx,⟨⟩⟩,a,l,⟨⟩⟩ ⟨p0,⟨k0,k1⟩,D,hne⟩
 have p0:0≤i0:=p0
 have k0:0≤n:=k0
 have k1:n≤7:=k1
 have D:sH 1 (a,l,nx,()):=D
 have hne:0<n→0<l.length:=hne
 refine ⟨p0,?_⟩
 rintro ⟨⟨x1,⟨⟩⟩,⟨b1,i1,g1,⟨⟩⟩,⟨⟩⟩ ⟨p1,q0,q1,_⟩
 have q1:x1<7:=q1 (by decide)
 have q0:0≤x1:=q0
 have w:IntKind.i64.wrap (1+x1)=1+x1:=fF _ (by omega)
 dsimp only
 rw [w]
 refine af (fun hc=>⟨p1,?_⟩) fun hc=>af (fun h2=>⟨p1,?_⟩) fun h2=>?_
 · have hc:=fJ hc
   have wn:IntKind.i64.wrap (n+1)=n+1:=fF _ (by omega)
   rw [wn]
   rintro ⟨⟨⟨d,o,s,lk,al,⟨⟩⟩,⟨⟩⟩,⟨b2,i2,g2,⟨⟩⟩,⟨⟩⟩ ⟨p2,_,o1,o2,k3,k4,hat,ha⟩
   have hf:cu (d,o,s,lk,al,()):=(show al.length≤1000 from Nat.le_trans ha (by decide))
   refine ⟨⟨D.small,hf⟩,?_⟩
   rintro ⟨⟨⟨a3,l3,nx3,⟨⟩⟩,id3,ok3,⟨⟩⟩,⟨⟩⟩ ⟨e1,e2,e3,_⟩
   have e:((a3,l3,nx3,()):bT)=(aH (a,l,nx,()) (d,o,s,lk,al,())).1:=C9 e1 e2 e3
   refine ⟨rfl,⟨p2,⟨(show 0≤n+1 by omega),(show n+1≤7 by omega)⟩,?_,fun _=>?_⟩,?_⟩
   · show sH 1 (a3,l3,nx3,())
     rw [e];exact D.create hf
   · have:=D.one (f:=(d,o,s,lk,al,())) ⟨o1,o2⟩ ⟨k3,k4⟩ hat
     rw [← e] at this;exact this
   · show (8-(n+1)).toNat<(8-n).toNat
     omega
 · rintro ⟨⟨x3,⟨⟩⟩,⟨b3,i3,g3,⟨⟩⟩,⟨⟩⟩ p3
   have h2:(l.length:Int)>2:=fJ h2
   refine af (fun _=>⟨⟨by decide,(show (1:Int)<l.length by omega)⟩,(show 1<l.length by omega),D.small,?_⟩) fun _=>?_
   · rintro ⟨⟨⟨a3,l3,nx3,⟨⟩⟩,ok3,⟨⟩⟩,⟨⟩⟩ ⟨e1,e2,e3,_⟩
     have e:=C9 e1 e2 e3
     have D':=D.delete (List.getD l (Int.toNat 1) (0,0,false,0,[],())).1
     have D':sH 2 (a3,l3,nx3,()):=by
      have e:((a3,l3,nx3,()):bT)=(aX (a,l,nx,()) (List.getD l (Int.toNat 1) (0,0,false,0,[],())).1).1:=e
      rw [e];exact D'
     refine ⟨p3,D'.sch,D'.ok,D'.nx,D'.small,?_⟩
     have:=(XG (a,l,nx,()) (List.getD l (Int.toNat 1) (0,0,false,0,[],())).1).2.2
     have e2:l3=(aX (a,l,nx,()) (List.getD l (Int.toNat 1) (0,0,false,0,[],())).1).1.2.1:=e2
     rw [← e2] at this
     have this:l.length≤l3.length+1:=this
     show 0<l3.length
     omega
   · have D':=D.more (show (1:Int)≤2 by decide)
     exact ⟨p3,D'.sch,D'.ok,D'.nx,D'.small,hne (by have:=fZ hc;omega)⟩
 · have D':=D.more (show (1:Int)≤2 by decide)
   exact ⟨p1,D'.sch,D'.ok,D'.nx,D'.small,hne (by have:=fZ hc;omega)⟩
theorem aku:OK LY.e:=by
 refine PA.ok mixed (au [] trivial) H0 (by kernel_rfl) (show ∀ code,LY.goal (akv code) (code,()) from ?_)
 intro b hin hp
 dsimp only [LY] at hp ⊢
 exact rfl
theorem Bl:OK mg.e:=by
 refine PA.ok mixed (au [kM.e] ⟨pI,trivial⟩) Ua (by kernel_rfl) (show ∀ s,mg.goal (RQ s) (s,()) from ?_)
 intro s hin hp
 dsimp only [mg] at hp ⊢
 have hlen:s.length≤maxLen:=hin.1
 rw [maxLen_eq] at hlen
 refine ⟨fun y=>∃ n:Nat,y.1.1=n∧n≤s.length∧Sp.lower (s.take n)=true,fun y=>((s.length:Int)-y.1.1).toNat,⟨0,rfl,by omega,rfl⟩,?_⟩
 rintro ⟨⟨_,⟨⟩⟩,⟨⟩⟩ ⟨n,rfl,hn,hJ⟩
 dsimp only
 refine af (fun h=>?_) fun h=>?_<;>simp only [decide_eq_true_eq,decide_eq_false_iff_not] at h
 · have hlt:n<s.length:=by omega
   rw [fF _ (by omega),Int.toNat_natCast]
   refine ⟨⟨by omega,by omega⟩,af (fun h2=>?_) fun h2=>⟨⟨by omega,by omega⟩,af (fun h3=>?_) fun h3=>?_⟩⟩<;>simp only [decide_eq_true_eq,decide_eq_false_iff_not] at*
   · unfold iq
     cases hl:Sp.lower s with
     |false=>rfl
     |true=>have:=MQ hlt hl;omega
   · unfold iq
     cases hl:Sp.lower s with
     |false=>rfl
     |true=>have:=MQ hlt hl;omega
   · refine ⟨rfl,⟨n+1,by simp,by omega,?_⟩,by dsimp only;omega⟩
     rw [Sp.take_succ' s n 0 hlt]
     unfold Sp.lower at hJ ⊢
     rw [List.all_append,hJ]
     simp only [List.all_cons,List.all_nil,Bool.and_true,Bool.true_and,Bool.and_eq_true,decide_eq_true_eq]
     omega
 · have hge:n=s.length:=by omega
   rw [hge,List.take_length] at hJ
   unfold iq
   rw [hJ]
   exact ⟨trivial,rfl⟩
theorem Jd:OK rq.e:=by
 refine PA.ok mixed (au [mg.e,kM.e] ⟨Bl,pI,trivial⟩) H0 (by kernel_rfl) (show ∀ v0 v1 v2,rq.goal (Ub v0 v1 v2) ((v0,v1,v2,()),()) from ?_)
 intro k n s hin hp
 dsimp only [rq] at hp ⊢
 refine af (fun h=>?_) fun h=>af (fun h2=>⟨trivial,af (fun h3=>?_) fun h3=>?_⟩) fun h2=>af (fun h3=>⟨trivial,af (fun h4=>?_) fun h4=>?_⟩) fun h3=>?_
 · have e:k=0:=by simpa using h
   subst e
   exact congrArg (·,()) (Bool.eq_iff_iff.2 (by simp [jS]))
 · have e:k=1:=by simpa using h2
   subst e
   exact congrArg (·,()) (Bool.eq_iff_iff.2 (by simp only [Bool.and_eq_true,decide_eq_true_eq] at h3;simp [jS,h3]))
 · have e:k=1:=by simpa using h2
   subst e
   exact congrArg (·,()) (Bool.eq_iff_iff.2 (by simp only [jS,h3];simp))
 · have e:k=2:=by simpa using h3
   subst e
   exact congrArg (·,()) (Bool.eq_iff_iff.2 (by simp [jS,h4]))
 · have e:k=2:=by simpa using h3
   subst e
   exact congrArg (·,()) (Bool.eq_iff_iff.2 (by simp [jS,h4]))
 · have e1:k≠0:=by simpa using h
   have e2:k≠1:=by simpa using h2
   have e3:k≠2:=by simpa using h3
   exact congrArg (·,()) (Bool.eq_iff_iff.2 (by simp [jS,e1,e2,e3]))
theorem FP:OK nR.e:=by
 refine PA.ok mixed (au [] trivial) H0 (by kernel_rfl) (show ∀ s,nR.goal (O0 s) (s,()) from ?_)
 intro s hin hp
 dsimp only [nR] at hp ⊢
 refine af (fun h=>?_) fun h=>?_
 · have h:(s.length:Int)=1:=fJ h
   match s,h with
   |[c],_=>
    refine ⟨⟨by decide,(by show (0:Int)<1;decide)⟩,af (fun h2=>⟨⟨by decide,(by show (0:Int)<1;decide)⟩,?_⟩) fun h2=>?_⟩
    · have h2:(c.toNat:Int)≥97:=fJ h2
      refine congrArg (·,()) (Bool.eq_iff_iff.2 ?_)
      simp only [jK,Sp.lower,List.all_cons,List.all_nil,Bool.and_true,Bool.and_eq_true,decide_eq_true_eq,List.length_cons,List.length_nil]
      constructor
      · intro h3
        have h3:(c.toNat:Int)≤122:=h3
        exact ⟨⟨⟨by omega,by omega⟩,by decide⟩,by decide⟩
      · rintro ⟨⟨⟨_,h4⟩,_⟩,_⟩
        show (c.toNat:Int)≤122
        omega
    · have h2:¬ (c.toNat:Int)≥97:=fZ h2
      refine congrArg (·,()) (Bool.eq_iff_iff.2 ?_)
      simp only [jK,Sp.lower,List.all_cons,List.all_nil,Bool.and_true,Bool.and_eq_true,decide_eq_true_eq]
      constructor
      · intro h3;cases h3
      · rintro ⟨⟨⟨h4,_⟩,_⟩,_⟩;omega
 · have h:¬ (s.length:Int)=1:=fZ h
   refine congrArg (·,()) (Bool.eq_iff_iff.2 ?_)
   simp only [jK,Bool.and_eq_true,decide_eq_true_eq]
   constructor
   · intro h3;cases h3
   · rintro ⟨⟨_,h4⟩,h5⟩;omega
theorem ZM:OK BR.e:=by
 refine PA.ok mixed (au [] trivial) acg (by kernel_rfl) (show ∀ s name,BR.goal (ZN s name) (s,name,()) from ?_)
 intro s name hin hp
 dsimp only [BR] at hp ⊢
 have hlen:s.length≤maxLen:=hin.1.1
 rw [maxLen_eq] at hlen
 refine iM s.length hlen (fun n=>∀ i,i<n→(s.getD i ([],0,())).1≠name) (fun i hi=>by omega) (fun I μ n hn hJ next=>?_) fun I μ hJ=>?_
 · dsimp only
   refine dH (by omega) ⟨⟨by omega,by omega⟩,af (fun h=>?_) fun h=>⟨rfl,next fun i hi=>?_⟩⟩
   · exact congrArg (·,()) (Xy s n hn hJ (by simpa only [Int.toNat_natCast,beq_iff_eq] using h)).symm
   · rcases Nat.lt_or_ge i n with h'|h'
     · exact hJ i h'
     · have:i=n:=by omega
       subst this
       have h2:((s.getD i ([],0,())).1==name)=false:=h
       exact fun e=>by rw [e] at h2;simp at h2
 · dsimp only
   exact dI (by omega) (congrArg (·,()) (Qo s hJ).symm)
theorem ann {k:Int} (h:(k !=1)=false∨(k !=2)=false):(decide (1≤k)&&decide (k≤2))=true:=by
 have:k=1∨k=2:=h.imp (by simp) (by simp)
 rcases this with h|h<;>subst h<;>rfl
theorem apv {k:Int} (h1:(k !=1)=true) (h2:(k !=2)=true):(decide (1≤k)&&decide (k≤2))=false:=by
 have h1:k≠1:=by simpa using h1
 have h2:k≠2:=by simpa using h2
 rw [Bool.and_eq_false_iff]
 by_cases h:k<1
 · left;exact decide_eq_false (by omega)
 · right;exact decide_eq_false (by omega)
theorem Il:OK qf.e:=by
 refine PA.ok mixed (au [nR.e] ⟨FP,trivial⟩) Uc (by kernel_rfl) (show ∀ s,qf.goal (RS s) (s,()) from ?_)
 intro s hin hp
 dsimp only [qf] at hp ⊢
 have hlen:s.length≤maxLen:=hin.1.1
 rw [maxLen_eq] at hlen
 refine iM s.length hlen (fun n=>∀ i,i<n→kV s i=true) (fun i hi=>by omega) (fun I μ n hn hJ next=>?_) fun I μ hJ=>?_
 · dsimp only
   have no:kV s n=false→(false,())=(fQ s,()):=fun h=>by rw [aa8 hn h]
   have rest:jK (Sp.fieldAt s n).1=true→(decide (1≤(Sp.fieldAt s n).2.1)&&decide ((Sp.fieldAt s n).2.1≤2))=true→
    bif decide ((n:Int)>0) then
     ((0:Int)≤IntKind.i64.wrap ((n:Int)-1)∧IntKind.i64.wrap ((n:Int)-1)<(s.length:Int))∧
       bif !Op.bytesLess (s.getD (IntKind.i64.wrap ((n:Int)-1)).toNat ([],0,())).fst (s.getD (Int.toNat (n:Int)) ([],0,())).fst then (false,())=(fQ s,())
       else NX ((s,s,(s.length:Int),()),()) I μ ((IntKind.i64.wrap ((n:Int)+1),()),()) (((n:Int),()),())
    else NX ((s,s,(s.length:Int),()),()) I μ ((IntKind.i64.wrap ((n:Int)+1),()),()) (((n:Int),()),()):=by
    intro h2 h3
    refine af (fun h4=>?_) fun h4=>⟨rfl,next (fA hJ ?_)⟩
    · have h4:0<n:=by have:=fJ h4;omega
      rw [wJ h4 (by omega)]
      refine ⟨⟨by omega,by omega⟩,af (fun h5=>no ?_) fun h5=>⟨rfl,next (fA hJ ?_)⟩⟩
      · have h5:Op.bytesLess (Sp.fieldAt s (n-1)).1 (Sp.fieldAt s n).1=false:=dS h5
        unfold kV;rw [h2,h3,h5,decide_eq_true h4];rfl
      · have h5:Op.bytesLess (Sp.fieldAt s (n-1)).1 (Sp.fieldAt s n).1=true:=bU h5
        unfold kV;rw [h2,h3,h5,decide_eq_true h4];rfl
    · have h4:¬ 0<n:=by have:=fZ h4;omega
      unfold kV;rw [h2,h3,decide_eq_false h4];rfl
   refine dH (by omega) ⟨⟨by omega,by omega⟩,trivial,af (fun h2=>no ?_) fun h2=>af (fun h3=>af (fun h4=>no ?_) fun h4=>?_) fun h3=>?_⟩
   · have h2:jK (Sp.fieldAt s n).1=false:=dS h2
     unfold kV;rw [h2];rfl
   · have h2:jK (Sp.fieldAt s n).1=true:=bU h2
     have h3:(decide (1≤(Sp.fieldAt s n).2.1)&&decide ((Sp.fieldAt s n).2.1≤2))=false:=apv h3 h4
     unfold kV;rw [h2,h3];rfl
   · have h2:jK (Sp.fieldAt s n).1=true:=bU h2
     have h3:(decide (1≤(Sp.fieldAt s n).2.1)&&decide ((Sp.fieldAt s n).2.1≤2))=true:=ann (.inr h4)
     exact rest h2 h3
   · have h2:jK (Sp.fieldAt s n).1=true:=bU h2
     have h3:(decide (1≤(Sp.fieldAt s n).2.1)&&decide ((Sp.fieldAt s n).2.1≤2))=true:=ann (.inl h3)
     exact rest h2 h3
 · dsimp only
   refine dI (by omega) (congrArg (·,()) ?_)
   unfold fQ
   rw [nV hJ];rfl
theorem RU:OK vM.e:=by
 refine PA.ok mixed (au [BR.e,rq.e] ⟨ZM,Jd,trivial⟩) H0 (by kernel_rfl) (show ∀ s name v0 v1 v2,vM.goal (RV s name v0 v1 v2) (s,name,(v0,v1,v2,()),()) from ?_)
 intro fs s k n w hin hp
 dsimp only [vM] at hp ⊢
 refine ⟨trivial,af (fun h=>af (fun h2=>⟨trivial,?_⟩) fun h2=>?_) fun h=>?_⟩
 · exact congrArg (·,()) (Bool.eq_iff_iff.2 (by simp only [bne_iff_ne,ne_eq] at h2;simp [jm,h,h2]))
 · exact congrArg (·,()) (Bool.eq_iff_iff.2 (by simp at h2;simp [jm,h2]))
 · exact congrArg (·,()) (Bool.eq_iff_iff.2 (by simp [jm,h]))
theorem D7:OK oM.e:=by
 refine PA.ok mixed (au [qf.e,xX.e,kM.e,vM.e] ⟨Il,JR,pI,RU,trivial⟩) XH (by kernel_rfl) (show ∀ s f0 f1 f2 f3 f4,oM.goal (Vx s f0 f1 f2 f3 f4) (s,(f0,f1,f2,f3,f4,()),()) from ?_)
 intro fs f0 f1 f2 f3 f4 hin hp
 dsimp only [oM] at hp ⊢
 have hlen:f4.length≤maxLen:=hin.2.1.2.2.2.2.1.1
 rw [maxLen_eq] at hlen
 refine iM f4.length hlen (fun n=>∀ i,i<n→jW fs f4 i=true) (fun i hi=>by omega) (fun I μ n hn hJ next=>?_) fun I μ hJ=>?_
 · dsimp only
   have no:jW fs f4 n=false→(false,())=(dm fs (f0,f1,f2,f3,f4,()),()):=fun h=>by rw [aht (f:=(f0,f1,f2,f3,f4,())) hn h]
   refine dH (by omega) ⟨⟨by omega,by omega⟩,af (fun h4=>?_) fun h4=>⟨trivial,af (fun h2=>no ?_) fun h2=>⟨rfl,next (fA hJ ?_)⟩⟩⟩
   · have h4:0<n:=by have:=fJ h4;omega
     rw [wJ h4 (by omega)]
     refine ⟨⟨by omega,by omega⟩,af (fun h5=>no ?_) fun h5=>⟨trivial,af (fun h2=>no ?_) fun h2=>⟨rfl,next (fA hJ ?_)⟩⟩⟩
     · have h5:Op.bytesLess (dn f4 (n-1)).1 (dn f4 n).1=false:=dS h5
       unfold jW;rw [h5,decide_eq_true h4];exact Bool.and_false _
     · have h2:jm fs (dn f4 n).1 (dn f4 n).2.1 (dn f4 n).2.2.1 (dn f4 n).2.2.2.1=false:=dS h2
       unfold jW;rw [h2];rfl
     · have h2:jm fs (dn f4 n).1 (dn f4 n).2.1 (dn f4 n).2.2.1 (dn f4 n).2.2.2.1=true:=bU h2
       have h5:Op.bytesLess (dn f4 (n-1)).1 (dn f4 n).1=true:=bU h5
       unfold jW;rw [h2,h5,decide_eq_true h4];rfl
   · have h2:jm fs (dn f4 n).1 (dn f4 n).2.1 (dn f4 n).2.2.1 (dn f4 n).2.2.2.1=false:=dS h2
     unfold jW;rw [h2];rfl
   · have h2:jm fs (dn f4 n).1 (dn f4 n).2.1 (dn f4 n).2.2.1 (dn f4 n).2.2.2.1=true:=bU h2
     have h4:¬ 0<n:=by have:=fZ h4;omega
     unfold jW;rw [h2,decide_eq_false h4];rfl
 · dsimp only
   have ha:jT fs f4=true:=nV hJ
   refine dI (by omega) ⟨trivial,af (fun h1=>⟨trivial,af (fun h2=>⟨trivial,af (fun h3=>⟨trivial,?_⟩) fun h3=>?_⟩) fun h2=>?_⟩) fun h1=>?_⟩
   all_goals refine congrArg (·,()) ?_
   · show fQ fs=(jT fs f4&&fQ fs&&(decide (1≤f0)&&decide (f0≤60))&&(decide (0≤f1)&&decide (f1≤2))&&(decide (0≤f3)&&decide (f3≤60)))
     rw [ha,h1,h2,h3];cases fQ fs<;>rfl
   · show false=(jT fs f4&&fQ fs&&(decide (1≤f0)&&decide (f0≤60))&&(decide (0≤f1)&&decide (f1≤2))&&(decide (0≤f3)&&decide (f3≤60)))
     rw [h3,Bool.and_false]
   · show false=(jT fs f4&&fQ fs&&(decide (1≤f0)&&decide (f0≤60))&&(decide (0≤f1)&&decide (f1≤2))&&(decide (0≤f3)&&decide (f3≤60)))
     rw [h2,Bool.and_false,Bool.false_and]
   · show false=(jT fs f4&&fQ fs&&(decide (1≤f0)&&decide (f0≤60))&&(decide (0≤f1)&&decide (f1≤2))&&(decide (0≤f3)&&decide (f3≤60)))
     rw [h1,Bool.and_false,Bool.false_and,Bool.false_and]
theorem vY:OK kW.e:=by
 refine PA.ok mixed (au [kM.e,qf.e,oM.e] ⟨pI,Il,D7,trivial⟩) Vy (by kernel_rfl) (show ∀ s0 s1 s2,kW.goal (Ud s0 s1 s2) ((s0,s1,s2,()),()) from ?_)
 intro s0 s1 s2 hin hp
 dsimp only [kW] at hp ⊢
 have hlen:s1.length≤maxLen:=hin.1.2.1.1
 rw [maxLen_eq] at hlen
 refine iM s1.length hlen (fun n=>∀ i,i<n→kK (s0,s1,s2,()) i=true) (fun i hi=>by omega) (fun I μ n hn hJ next=>?_) fun I μ hJ=>?_
 · dsimp only
   have no:kK (s0,s1,s2,()) n=false→(false,())=(ax (s0,s1,s2,()),()):=fun h=>by rw [ad4 (s:=(s0,s1,s2,())) hn h]
   refine dH (by omega) ⟨⟨by omega,by omega⟩,trivial,af (fun h2=>no ?_) fun h2=>af (fun h3=>no ?_) fun h3=>af (fun h4=>?_) fun h4=>⟨rfl,next (fA hJ ?_)⟩⟩
   · have h2:dm s0 (Sp.fileAt s1 n)=false:=dS h2
     show (dm s0 (Sp.fileAt s1 n)&&_&&_)=false
     rw [h2];rfl
   · have h2:dm s0 (Sp.fileAt s1 n)=true:=bU h2
     have h3:¬ (Sp.fileAt s1 n).1<s2:=by have h3:(Sp.fileAt s1 n).1≥s2:=fJ h3;omega
     show (dm s0 (Sp.fileAt s1 n)&&decide ((Sp.fileAt s1 n).1<s2)&&_)=false
     rw [h2,decide_eq_false h3];rfl
   · have h2:dm s0 (Sp.fileAt s1 n)=true:=bU h2
     have h3:(Sp.fileAt s1 n).1<s2:=by have h3:¬ (Sp.fileAt s1 n).1≥s2:=fZ h3;omega
     have h4:0<n:=by have:=fJ h4;omega
     rw [wJ h4 (by omega)]
     refine ⟨⟨by omega,by omega⟩,af (fun h5=>no ?_) fun h5=>⟨rfl,next (fA hJ ?_)⟩⟩
     · have h5:¬ (Sp.fileAt s1 (n-1)).1<(Sp.fileAt s1 n).1:=by have h5:(Sp.fileAt s1 (n-1)).1≥(Sp.fileAt s1 n).1:=fJ h5;omega
       show (dm s0 (Sp.fileAt s1 n)&&decide ((Sp.fileAt s1 n).1<s2)&&!(decide (0<n)&&!decide ((Sp.fileAt s1 (n-1)).1<(Sp.fileAt s1 n).1)))=false
       rw [h2,decide_eq_true h3,decide_eq_true h4,decide_eq_false h5];rfl
     · have h5:(Sp.fileAt s1 (n-1)).1<(Sp.fileAt s1 n).1:=by have h5:¬ (Sp.fileAt s1 (n-1)).1≥(Sp.fileAt s1 n).1:=fZ h5;omega
       show (dm s0 (Sp.fileAt s1 n)&&decide ((Sp.fileAt s1 n).1<s2)&&!(decide (0<n)&&!decide ((Sp.fileAt s1 (n-1)).1<(Sp.fileAt s1 n).1)))=true
       rw [h2,decide_eq_true h3,decide_eq_true h4,decide_eq_true h5];rfl
   · have h2:dm s0 (Sp.fileAt s1 n)=true:=bU h2
     have h3:(Sp.fileAt s1 n).1<s2:=by have h3:¬ (Sp.fileAt s1 n).1≥s2:=fZ h3;omega
     have h4:¬ 0<n:=by have:=fZ h4;omega
     show (dm s0 (Sp.fileAt s1 n)&&decide ((Sp.fileAt s1 n).1<s2)&&!(decide (0<n)&&!decide ((Sp.fileAt s1 (n-1)).1<(Sp.fileAt s1 n).1)))=true
     rw [h2,decide_eq_true h3,decide_eq_false h4];rfl
 · dsimp only
   have ha:jh s1.length (kK (s0,s1,s2,()))=true:=nV hJ
   refine dI (by omega) ⟨trivial,af (fun h1=>af (fun h2=>⟨trivial,?_⟩) fun h2=>?_) fun h1=>?_⟩
   · refine congrArg (·,()) ?_
     show _=(jh s1.length (kK (s0,s1,s2,()))&&fQ s0&&decide ((s1.length:Int)≤12)&&(decide (1≤s2)&&decide (s2≤61)))
     rw [ha,h1,h2];rfl
   · refine congrArg (·,()) ?_
     show _=(jh s1.length (kK (s0,s1,s2,()))&&fQ s0&&decide ((s1.length:Int)≤12)&&(decide (1≤s2)&&decide (s2≤61)))
     rw [ha,h1,h2];rfl
   · refine congrArg (·,()) ?_
     show _=(jh s1.length (kK (s0,s1,s2,()))&&fQ s0&&decide ((s1.length:Int)≤12)&&(decide (1≤s2)&&decide (s2≤61)))
     rw [ha,h1];rfl
theorem JU {α:Type} {l:List α} {lo:Nat} {news:List α} (h:lo+news.length≤l.length):(bV l lo news).length=l.length:=by
 unfold bV
 simp only [List.length_append,List.length_take,List.length_drop]
 omega
theorem PY {α:Type} {l:List α} {lo k:Nat} {news:List α} (hk:k≤lo) (h:lo≤l.length):(bV l lo news).take k=l.take k:=by
 unfold bV
 rw [List.append_assoc,List.take_append_of_le_length (by rw [List.length_take];omega),List.take_take,Nat.min_eq_left hk]
theorem ajt {α:Type} {l:List α} {lo k:Nat} {news:List α} (hk:k=lo+news.length) (h:lo≤l.length):(bV l lo news).take k=l.take lo++news:=by
 unfold bV
 have:(l.take lo++news).length=k:=by rw [List.length_append,List.length_take];omega
 rw [List.take_append_of_le_length (by omega),← this,List.take_length]
theorem ZO:OK Cb.e:=by
 refine XA.ok mixed (au [qg.e] ⟨CZ,trivial⟩) ach (fun ⟨l,_⟩ _=>⟨((l,()),()),rfl⟩) (by kernel_rfl) (show ∀ l,Cb.goal (ZP l) (l,()) from ?_)
 intro l hin hp
 dsimp only [Cb] at hp ⊢
 obtain ⟨h1,h2⟩:l.length≤1000∧∀ f∈l,cu f:=hp
 refine dN (fun i (x:List aN)=>(((),i,()),x,())) (fun y=>y.1.2.1) (fun _ _=>rfl) l.length (by omega) (fun n x=>x=l.take n) (by simp) (fun I μ n x hn hJ next=>?_) fun I μ x hJ=>?_
 · subst hJ
   have hl:(l.take n).length≤n:=by rw [List.length_take];omega
   dsimp only
   refine dH (by omega) ⟨⟨by omega,by omega⟩,h2 _ (getD_mem (d:=((0:Int),(0:Int),false,(0:Int),[],())) hn),by rw [bW];simp only [List.length_cons,List.length_nil];omega,rfl,next _ ?_⟩
   exact (Sp.take_succ' l n (0,0,false,0,[],()) hn).symm
 · subst hJ
   dsimp only
   refine dI (by omega) ?_
   show List.take l.length l=l
   rw [List.take_length]
theorem vF:OK lK.e:=by
 refine XA.ok mixed (au [Cb.e,pO.e] ⟨ZO,Lh,trivial⟩) aci (fun ⟨(a,l,nx,_),_⟩ _=>⟨(((a,l,nx,()),()),()),rfl⟩) (by kernel_rfl) (show ∀ s0 s1 s2,lK.goal (ZQ s0 s1 s2) ((s0,s1,s2,()),()) from ?_)
 intro s0 s1 s2 hin hp
 dsimp only [lK] at hp ⊢
 obtain ⟨h0,h1,h2⟩:s0.length≤1000∧s1.length≤1000∧∀ f∈s1,cu f:=hp
 refine ⟨h0,⟨h1,h2⟩,?_⟩
 rintro ⟨⟨x,⟨⟩⟩,⟨⟩⟩ e
 have e:x=s1:=e
 subst e
 exact rfl
end Go.Proofs.Tryz
