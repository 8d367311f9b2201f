import Derived.Test.YtlbkigkbmeckbaaGreatV1
import Derived.Test.YtlbkigkbmeckbaaGreatSp
namespace Go.Proofs.Tryz
open Go Go.Fw Go.IntWalk
theorem apM (x y:Int) (m:Nat) (hm:m<9223372036854775807) (hy:(BitVec.ofInt 64 y).toNat=m):0≤bitsOf .and .i64 x y∧bitsOf .and .i64 x y≤m:=by
 have h:(BitVec.ofInt 64 x&&&BitVec.ofInt 64 y).toNat≤m:=by
  rw [BitVec.toNat_and,hy]
  exact Nat.and_le_right
 show 0≤IntKind.i64.wrap ((BitVec.ofInt 64 x&&&BitVec.ofInt 64 y).toNat:Int)∧IntKind.i64.wrap ((BitVec.ofInt 64 x&&&BitVec.ofInt 64 y).toNat:Int)≤m
 generalize (BitVec.ofInt 64 x&&&BitVec.ofInt 64 y).toNat=z at h ⊢
 rw [fC _ (by omega)]
 omega
theorem apN (x:Int):0≤bitsOf .and .i64 x 255∧bitsOf .and .i64 x 255≤255:=apM x 255 255 (by omega) (by decide)
theorem GR:ai prog G oJ.e:=by
 refine ah4 (ak ah trivial) (fun ⟨_,⟨⟩⟩ _=>⟨([],0,0,()),rfl⟩) ?_
 intro code hin hp
 dsimp only [oJ] at hp ⊢
 have hp:code.length≤1048576:=hp
 refine ⟨fun y=>∃ n:Nat,y.1.2.1=n∧n≤code.length,fun y=>((code.length:Int)-y.1.2.1).toNat,⟨0,rfl,by omega⟩,?_⟩
 rintro ⟨⟨h,_,⟨⟩⟩,⟨⟩⟩ ⟨n,rfl,hn⟩
 dsimp only
 refine af (fun hc=>?_) fun hc=>?_
 · simp only [decide_eq_true_eq] at hc
   cases decide ((n:Int)<4000) with
   |false=>exact rfl
   |true=>
    have e:IntKind.i64.wrap ((n:Int)+1)=((n+1:Nat):Int):=fC _ (by omega)
    refine ⟨?_,?_,?_,?_⟩
    · exact ⟨by omega,hc⟩
    · exact rfl
    · exact ⟨n+1,e,by omega⟩
    show ((code.length:Int)-IntKind.i64.wrap ((n:Int)+1)).toNat<((code.length:Int)-n).toNat
    rw [e]
    omega
 · exact rfl
theorem ae9:ai prog G tq.e:=by
 refine afa (ak ah trivial) (fun _ _=>⟨(((0:Int),()),(([],0,0,()),())),⟨by decide,by decide,by decide⟩⟩) ?_
 intro b i h hin hp
 dsimp only [tq] at hp ⊢
 have hp:0≤i:=hp
 refine ⟨by decide,by decide,af (fun hc=>?_) fun hc=>?_⟩<;>simp only [decide_eq_true_eq,decide_eq_false_iff_not] at hc
 · have hl:b.length≤maxLen:=hin.1.1.1
   rw [maxLen_eq] at hl
   refine ⟨⟨hp,hc⟩,?_,apN _⟩
   show 0≤IntKind.i64.wrap (i+1)
   rw [fC _ (by omega)]
   omega
 · exact ⟨hp,apN _⟩
theorem tmod_lt {a n:Int} (ha:0≤a) (hn:0<n):0≤a.tmod n∧a.tmod n<n:=⟨Int.tmod_nonneg n ha,Int.tmod_lt_of_pos a hn⟩
theorem dV:ai prog G cO.e:=by
 refine acM (ak ah ⟨ae9,trivial⟩) (fun ⟨_,n,⟨⟩⟩ _=>⟨(((0:Int),()),(([],0,0,()),())),⟨Int.le_refl _,Int.le_refl _,fun h=>h,fun _=>rfl⟩⟩) ?_
 intro b i h n hin hp
 dsimp only [cO] at hp ⊢
 have hp:0≤i:=hp
 refine af (fun hc=>?_) fun hc=>?_<;>simp only [decide_eq_true_eq,decide_eq_false_iff_not] at hc
 · exact ⟨hp,Int.le_refl _,fun h=>(by omega),fun _=>rfl⟩
 · refine af (fun hc2=>?_) fun hc2=>?_
   · refine ⟨hp,?_⟩
     rintro ⟨⟨x,⟨⟩⟩,⟨b',i',h',⟨⟩⟩,⟨⟩⟩ ⟨h1,h2,h3⟩
     dsimp only at h1 h2 h3 ⊢
     have:=tmod_lt h2 (show 0<n by omega)
     exact ⟨by omega,h1,this.1,fun _=>this.2,fun h=>(by omega)⟩
   · refine ⟨hp,?_⟩
     rintro ⟨⟨x1,⟨⟩⟩,⟨b1,i1,g1,⟨⟩⟩,⟨⟩⟩ ⟨h1,h2,h3⟩
     refine ⟨h1,?_⟩
     rintro ⟨⟨x2,⟨⟩⟩,⟨b2,i2,g2,⟨⟩⟩,⟨⟩⟩ ⟨k1,k2,k3⟩
     refine ⟨k1,?_⟩
     rintro ⟨⟨x3,⟨⟩⟩,⟨b3,i3,g3,⟨⟩⟩,⟨⟩⟩ ⟨l1,l2,l3⟩
     refine ⟨l1,?_⟩
     rintro ⟨⟨x4,⟨⟩⟩,⟨b4,i4,g4,⟨⟩⟩,⟨⟩⟩ ⟨m1,m2,m3⟩
     dsimp only at*
     rw [fC (x1*16777216) (by omega),fC (x2*65536) (by omega),fC (x3*256) (by omega),fC (x1*16777216+x2*65536) (by omega),fC (x1*16777216+x2*65536+x3*256) (by omega),fC (x1*16777216+x2*65536+x3*256+x4) (by omega)]
     have:=tmod_lt (a:=x1*16777216+x2*65536+x3*256+x4) (n:=n) (by omega) (by omega)
     exact ⟨by omega,m1,this.1,fun _=>this.2,fun h=>(by omega)⟩
theorem ru:ai prog G iM.e:=by
 refine afb (ak ah ⟨dV,trivial⟩) (fun _ _=>⟨((false,()),(([],0,0,()),())),Int.le_refl _⟩) ?_
 intro b i h n hin hp
 dsimp only [iM] at hp ⊢
 refine ⟨hp,?_⟩
 rintro ⟨⟨x,⟨⟩⟩,⟨b',i',h',⟨⟩⟩,⟨⟩⟩ ⟨h1,_⟩
 exact h1
theorem jg:ai prog G fJ.e:=by
 refine afc (ak ah ⟨dV,trivial⟩) (fun ⟨_,l,⟨⟩⟩ ⟨_,hl⟩=>(match l,hl with|x::_,_=>⟨((x.1,()),(([],0,0,()),())),⟨Int.le_refl _,List.mem_cons_self⟩⟩)) ?_
 intro b i h l hin hp
 dsimp only [fJ] at hp ⊢
 obtain ⟨hp,hl⟩:=hp
 have hpos:0<l.length:=List.length_pos_iff.2 hl
 refine ⟨hp,?_⟩
 rintro ⟨⟨x,⟨⟩⟩,⟨b',i',h',⟨⟩⟩,⟨⟩⟩ ⟨h1,h2,h3,_⟩
 have h3:x<(l.length:Int):=h3 (by omega)
 refine ⟨⟨h2,h3⟩,h1,?_⟩
 exact getD_mem (by dsimp only at h2;omega)
theorem yU:ai prog G iY.e:=by
 refine Xw (ak ah ⟨dV,trivial⟩) (fun ⟨_,l,⟨⟩⟩ ⟨_,hl⟩=>(match l,hl with|x::_,_=>⟨((x.1,()),(([],0,0,()),())),⟨Int.le_refl _,List.mem_cons_self⟩⟩)) ?_
 intro b i h l hin hp
 dsimp only [iY] at hp ⊢
 obtain ⟨hp,hl⟩:=hp
 have hpos:0<l.length:=List.length_pos_iff.2 hl
 refine ⟨hp,?_⟩
 rintro ⟨⟨x,⟨⟩⟩,⟨b',i',h',⟨⟩⟩,⟨⟩⟩ ⟨h1,h2,h3,_⟩
 have h3:x<(l.length:Int):=h3 (by omega)
 refine ⟨⟨h2,h3⟩,h1,?_⟩
 exact getD_mem (by dsimp only at h2;omega)
theorem Le:ai prog G nD.e:=by
 refine acN (ak ah trivial) (fun _ _=>⟨((Sp.usual,()),()),rfl⟩) ?_
 intro hin hp
 dsimp only [nD] at hp ⊢
 exact rfl
theorem NC:ai prog G pO.e:=by
 refine afd (ak ah ⟨jg,trivial⟩) (fun _ _=>⟨(([],()),(([],0,0,()),())),⟨by decide,by decide⟩⟩) ?_
 intro b i h hin hp
 dsimp only [pO] at hp ⊢
 refine ⟨⟨hp,by simp⟩,?_⟩
 rintro ⟨⟨x,⟨⟩⟩,⟨b',i',h',⟨⟩⟩,⟨⟩⟩ ⟨h1,h2⟩
 refine ⟨h1,?_⟩
 exact (show ∀ y∈_,List.length y.1≤1 from by decide) _ h2
theorem Xx:Sp.usual.length=4:=rfl
theorem ah5:ai prog G vX.e:=by
 refine ah6 (ak ah ⟨jg,NC,dV,Le,trivial⟩) (fun _ _=>⟨(([],()),(([],0,0,()),())),⟨by decide,by decide⟩⟩) ?_
 intro b i h hin hp
 dsimp only [vX] at hp ⊢
 have hp:0≤i:=hp
 refine ⟨trivial,?_⟩
 rintro ⟨⟨_,⟨⟩⟩,⟨⟩⟩ rfl
 dsimp only
 repeat' first
  |exact trivial
  |refine af (fun _=>?_) fun _=>?_
  |refine And.intro ?_ ?_
  |(intro r hr;simp only [] at hr)
  |intro r hr
 all_goals first
  |omega
  |(dsimp only at*;omega)
  |exact hr
  |(simp only [beq_eq_false_iff_ne,ne_eq] at*;omega)
  |(simp only [List.length_set,List.length_take,List.length_append,List.length_cons,List.length_nil,Xx];omega)
  |(rw [bV];simp only [List.length_set,List.length_take,List.length_append,List.length_cons,List.length_nil,Xx];omega)
  |(simp only [List.length_set,List.length_take,List.length_append,List.length_cons,List.length_nil,Xx] at*;omega)
  |exact (show ∀ y∈_,List.length y.1≤10 from by decide) _ hr.2
  |(simp;done)
  |skip
theorem En:ai prog G qN.e:=by
 refine acO (ak ah trivial) ?_
 intro n hin hp
 dsimp only [qN] at hp ⊢
 exact rfl
theorem yw:ai prog G jG.e:=by
 refine UN (ak ah trivial) ?_
 intro n hin hp
 dsimp only [jG] at hp ⊢
 exact rfl
theorem acP:ai prog G qM.e:=by
 refine acQ (ak ah ⟨yw,jg,En,dV,trivial⟩) (fun _ _=>⟨((((0:Int),(0:Int),([]:List UInt8),()),()),(([],0,0,()),())),⟨by decide,by decide⟩⟩) ?_
 intro b i h hin hp
 dsimp only [qM] at hp ⊢
 have hp:0≤i:=hp
 repeat' first
  |exact trivial
  |refine af (fun _=>?_) fun _=>?_
  |refine And.intro ?_ ?_
  |(intro r hr;simp only [] at hr)
  |intro r hr
 all_goals first
  |omega
  |(dsimp only at*;omega)
  |exact hr
  |(simp only [beq_eq_false_iff_ne,ne_eq] at*;omega)
  |(simp only [List.length_set,List.length_take,List.length_append,List.length_cons,List.length_nil];omega)
  |(rw [bV];simp only [List.length_set,List.length_take,List.length_append,List.length_cons,List.length_nil];omega)
  |(simp only [List.length_set,List.length_take,List.length_append,List.length_cons,List.length_nil] at*;omega)
  |exact (show ∀ y∈_,List.length y.1≤10 from by decide) _ hr.2
  |(simp;done)
  |skip
theorem PL:ai prog G rP.e:=by
 refine ah7 (ak ah ⟨jg,yU,dV,acP,trivial⟩) (fun _ _=>⟨((((0:Int),(0:Int),([]:List UInt8),()),()),(([],0,0,()),())),⟨by decide,by decide⟩⟩) ?_
 intro b i h hin hp
 dsimp only [rP] at hp ⊢
 have hp:0≤i:=hp
 repeat' first
  |exact trivial
  |refine af (fun _=>?_) fun _=>?_
  |refine And.intro ?_ ?_
  |(intro r hr;simp only [] at hr)
  |intro r hr
 all_goals first
  |omega
  |(dsimp only at*;omega)
  |exact hr
  |(simp only [beq_eq_false_iff_ne,ne_eq] at*;omega)
  |(simp only [List.length_set,List.length_take,List.length_append,List.length_cons,List.length_nil];omega)
  |(rw [bV];simp only [List.length_set,List.length_take,List.length_append,List.length_cons,List.length_nil];omega)
  |(simp only [List.length_set,List.length_take,List.length_append,List.length_cons,List.length_nil] at*;omega)
  |exact (show ∀ y∈_,List.length y.1≤10 from by decide) _ hr.2
  |(simp;done)
  |skip
theorem lV:ai prog G je.e:=by
 refine aku (ak ah trivial) ?_
 intro x a b hin hp
 dsimp only [je] at hp ⊢
 refine af (fun h=>?_) fun h=>?_
 · have h:=fD h
   show (decide (x≤b),())=(decide (a≤x)&&decide (x≤b),())
   rw [decide_eq_true (show a≤x from h)];rfl
 · have h:=fP h
   show (false,())=(decide (a≤x)&&decide (x≤b),())
   rw [decide_eq_false (show ¬ a≤x from h)];rfl
theorem ug:ai prog G jW.e:=by
 refine ah8 (ak ah trivial) ?_
 intro x a b hin hp
 dsimp only [jW] at hp ⊢
 refine af (fun h=>?_) fun h=>?_
 · show (decide (x≤b),())=(decide (a≤x)&&decide (x≤b),())
   rw [h];rfl
 · show (false,())=(decide (a≤x)&&decide (x≤b),())
   rw [h];rfl
theorem JB {s:List UInt8} {n:Nat} (hlt:n<s.length) (hl:Sp.lower s=true):97≤(s.getD n 0).toNat∧(s.getD n 0).toNat≤122:=by
 have:=List.all_eq_true.1 hl _ (getD_mem (d:=0) hlt)
 simpa using this
theorem ND:ai prog G xg.e:=by
 refine afe (ak ah ⟨lV,trivial⟩) ?_
 intro s most hin hp
 dsimp only [xg] at hp ⊢
 have hlen:s.length≤maxLen:=hin.1
 rw [maxLen_eq] at hlen
 refine ⟨fun y=>∃ n:Nat,y.1.1=n∧n≤s.length∧Sp.lower (s.take n)=true,fun y=>((s.length:Int)-y.1.1).toNat,⟨0,rfl,by omega,rfl⟩,?_⟩
 rintro ⟨⟨_,⟨⟩⟩,⟨⟩⟩ ⟨n,rfl,hn,hJ⟩
 dsimp only
 refine af (fun h=>?_) fun h=>?_<;>simp only [decide_eq_true_eq,decide_eq_false_iff_not] at h
 · have hlt:n<s.length:=by omega
   rw [fC _ (by omega),Int.toNat_natCast]
   refine ⟨⟨by omega,by omega⟩,af (fun h2=>?_) fun h2=>⟨⟨by omega,by omega⟩,af (fun h3=>?_) fun h3=>?_⟩⟩<;>simp only [decide_eq_true_eq,decide_eq_false_iff_not] at*
   · cases hl:Sp.lower s with
     |false=>rfl
     |true=>have:=JB hlt hl;omega
   · cases hl:Sp.lower s with
     |false=>rfl
     |true=>have:=JB hlt hl;omega
   · refine ⟨trivial,⟨n+1,by simp,by omega,?_⟩,by omega⟩
     rw [Sp.take_succ' s n 0 hlt]
     unfold Sp.lower at hJ ⊢
     rw [List.all_append,hJ]
     simp only [List.all_cons,List.all_nil,Bool.and_true,Bool.true_and,Bool.and_eq_true,decide_eq_true_eq]
     omega
 · have hge:n=s.length:=by omega
   rw [hge,List.take_length] at hJ
   rw [hJ]
   exact ⟨trivial,rfl⟩
theorem zX:ai prog G jP.e:=by
 refine PN (ak ah ⟨ND,trivial⟩) ?_
 intro s hin hp
 dsimp only [jP] at hp ⊢
 exact ⟨trivial,rfl⟩
theorem FO:ai prog G nX.e:=by
 refine RN (ak ah ⟨zX,lV,trivial⟩) ?_
 intro k n s hin hp
 dsimp only [nX] at hp ⊢
 refine af (fun h=>?_) fun h=>af (fun h2=>⟨trivial,af (fun h3=>?_) fun h3=>?_⟩) fun h2=>af (fun h3=>⟨trivial,af (fun h4=>?_) fun h4=>?_⟩) fun h3=>?_
 · have e:k=0:=by simpa using h
   subst e
   exact congrArg (·,()) (Bool.eq_iff_iff.2 (by simp [Sp.jv]))
 · have e:k=1:=by simpa using h2
   subst e
   exact congrArg (·,()) (Bool.eq_iff_iff.2 (by simp only [Bool.and_eq_true,decide_eq_true_eq] at h3;simp [Sp.jv,h3]))
 · have e:k=1:=by simpa using h2
   subst e
   exact congrArg (·,()) (Bool.eq_iff_iff.2 (by simp only [Sp.jv,h3];simp))
 · have e:k=2:=by simpa using h3
   subst e
   exact congrArg (·,()) (Bool.eq_iff_iff.2 (by simp [Sp.jv,h4]))
 · have e:k=2:=by simpa using h3
   subst e
   exact congrArg (·,()) (Bool.eq_iff_iff.2 (by simp [Sp.jv,h4]))
 · have e1:k≠0:=by simpa using h
   have e2:k≠1:=by simpa using h2
   have e3:k≠2:=by simpa using h3
   exact congrArg (·,()) (Bool.eq_iff_iff.2 (by simp [Sp.jv,e1,e2,e3]))
theorem Dn:ai prog G jX.e:=by
 refine MF (ak ah ⟨ND,trivial⟩) ?_
 intro s hin hp
 dsimp only [jX] at hp ⊢
 exact ⟨trivial,rfl⟩
theorem ZR:ai prog G xH.e:=by
 refine ZT (ak ah trivial) ?_
 intro s name hin hp
 dsimp only [xH] at hp ⊢
 have hlen:s.length≤maxLen:=hin.1.1
 rw [maxLen_eq] at hlen
 refine iV s.length hlen (fun n=>∀ i,i<n→(s.getD i ([],0,())).1≠name) (fun i hi=>by omega) (fun I μ n hn hJ next=>?_) fun I μ hJ=>?_
 · dsimp only
   refine dB (by omega) ⟨⟨by omega,by omega⟩,af (fun h=>⟨⟨by omega,by omega⟩,?_⟩) fun h=>⟨rfl,next fun i hi=>?_⟩⟩
   · exact congrArg (·,()) (Sp.Xy s n hn hJ (by simpa only [Int.toNat_natCast,beq_iff_eq] using h)).symm
   · rcases Nat.lt_or_ge i n with h'|h'
     · exact hJ i h'
     · have:i=n:=by omega
       subst this
       have h2:((s.getD i ([],0,())).1==name)=false:=h
       exact fun e=>by rw [e] at h2;simp at h2
 · dsimp only
   exact dD (by omega) (congrArg (·,()) (Sp.Ot s hJ).symm)
theorem EL:ai prog G lY.e:=by
 refine PO (ak ah ⟨lV,Dn,trivial⟩) ?_
 intro s hin hp
 dsimp only [lY] at hp ⊢
 have hlen:s.length≤maxLen:=hin.1.1
 rw [maxLen_eq] at hlen
 refine iV s.length hlen (fun n=>∀ i,i<n→Sp.kF s i=true) (fun i hi=>by omega) (fun I μ n hn hJ next=>?_) fun I μ hJ=>?_
 · dsimp only
   have no:Sp.kF s n=false→(false,())=(Sp.eY s,()):=fun h=>by rw [Sp.abB hn h]
   refine dB (by omega) ⟨⟨by omega,by omega⟩,trivial,af (fun h2=>no ?_) fun h2=>⟨⟨by omega,by omega⟩,trivial,af (fun h3=>no ?_) fun h3=>af (fun h4=>?_) fun h4=>⟨rfl,next (dX hJ ?_)⟩⟩⟩
   · have h2:Sp.jm (Sp.fieldAt s n).1=false:=fQ h2
     unfold Sp.kF;rw [h2];rfl
   · have h2:Sp.jm (Sp.fieldAt s n).1=true:=dH h2
     have h3:(decide (1≤(Sp.fieldAt s n).2.1)&&decide ((Sp.fieldAt s n).2.1≤2))=false:=fQ h3
     unfold Sp.kF;rw [h2,h3];rfl
   · have h2:Sp.jm (Sp.fieldAt s n).1=true:=dH h2
     have h3:(decide (1≤(Sp.fieldAt s n).2.1)&&decide ((Sp.fieldAt s n).2.1≤2))=true:=dH h3
     have h4:0<n:=by have:=fD h4;omega
     rw [xC h4 (by omega)]
     refine ⟨⟨by omega,by omega⟩,⟨by omega,by omega⟩,af (fun h5=>no ?_) fun h5=>⟨rfl,next (dX hJ ?_)⟩⟩
     · have h5:Op.bytesLess (Sp.fieldAt s (n-1)).1 (Sp.fieldAt s n).1=false:=fQ h5
       unfold Sp.kF;rw [h2,h3,h5,decide_eq_true h4];rfl
     · have h5:Op.bytesLess (Sp.fieldAt s (n-1)).1 (Sp.fieldAt s n).1=true:=dH h5
       unfold Sp.kF;rw [h2,h3,h5,decide_eq_true h4];rfl
   · have h2:Sp.jm (Sp.fieldAt s n).1=true:=dH h2
     have h3:(decide (1≤(Sp.fieldAt s n).2.1)&&decide ((Sp.fieldAt s n).2.1≤2))=true:=dH h3
     have h4:¬ 0<n:=by have:=fP h4;omega
     unfold Sp.kF;rw [h2,h3,decide_eq_false h4];rfl
 · dsimp only
   refine dD (by omega) (congrArg (·,()) ?_)
   unfold Sp.eY
   rw [oH hJ];rfl
theorem PS:ai prog G qO.e:=by
 refine PU (ak ah ⟨ZR,FO,trivial⟩) ?_
 intro fs s k n w hin hp
 dsimp only [qO] at hp ⊢
 refine ⟨trivial,af (fun h=>af (fun h2=>⟨trivial,?_⟩) fun h2=>?_) fun h=>?_⟩
 · exact congrArg (·,()) (Bool.eq_iff_iff.2 (by simp only [bne_iff_ne,ne_eq] at h2;simp [Sp.ja,h,h2]))
 · exact congrArg (·,()) (Bool.eq_iff_iff.2 (by simp at h2;simp [Sp.ja,h2]))
 · exact congrArg (·,()) (Bool.eq_iff_iff.2 (by simp [Sp.ja,h]))
theorem Gl:ai prog G pR.e:=by
 refine UO (ak ah ⟨lV,EL,PS,trivial⟩) ?_
 intro fs f0 f1 f2 f3 f4 hin hp
 dsimp only [pR] at hp ⊢
 have hlen:f4.length≤maxLen:=hin.2.1.2.2.2.2.1.1
 rw [maxLen_eq] at hlen
 refine iV f4.length hlen (fun n=>∀ i,i<n→Sp.jB fs f4 i=true) (fun i hi=>by omega) (fun I μ n hn hJ next=>?_) fun I μ hJ=>?_
 · dsimp only
   have no:Sp.jB fs f4 n=false→(false,())=(Sp.dO fs (f0,f1,f2,f3,f4,()),()):=fun h=>by rw [Sp.ajG (f:=(f0,f1,f2,f3,f4,())) hn h]
   refine dB (by omega) ⟨⟨by omega,by omega⟩,⟨by omega,by omega⟩,trivial,af (fun h2=>no ?_) fun h2=>af (fun h4=>?_) fun h4=>⟨rfl,next (dX hJ ?_)⟩⟩
   · have h2:Sp.ja fs (Sp.bT f4 n).1 (Sp.bT f4 n).2.1 (Sp.bT f4 n).2.2.1 (Sp.bT f4 n).2.2.2.1=false:=fQ h2
     unfold Sp.jB;rw [h2];rfl
   · have h2:Sp.ja fs (Sp.bT f4 n).1 (Sp.bT f4 n).2.1 (Sp.bT f4 n).2.2.1 (Sp.bT f4 n).2.2.2.1=true:=dH h2
     have h4:0<n:=by have:=fD h4;omega
     rw [xC h4 (by omega)]
     refine ⟨⟨by omega,by omega⟩,⟨by omega,by omega⟩,af (fun h5=>no ?_) fun h5=>⟨rfl,next (dX hJ ?_)⟩⟩
     · have h5:Op.bytesLess (Sp.bT f4 (n-1)).1 (Sp.bT f4 n).1=false:=fQ h5
       unfold Sp.jB;rw [h2,h5,decide_eq_true h4];rfl
     · have h5:Op.bytesLess (Sp.bT f4 (n-1)).1 (Sp.bT f4 n).1=true:=dH h5
       unfold Sp.jB;rw [h2,h5,decide_eq_true h4];rfl
   · have h2:Sp.ja fs (Sp.bT f4 n).1 (Sp.bT f4 n).2.1 (Sp.bT f4 n).2.2.1 (Sp.bT f4 n).2.2.2.1=true:=dH h2
     have h4:¬ 0<n:=by have:=fP h4;omega
     unfold Sp.jB;rw [h2,decide_eq_false h4];rfl
 · dsimp only
   have ha:Sp.jZ fs f4=true:=oH hJ
   refine dD (by omega) ⟨trivial,af (fun h1=>⟨trivial,af (fun h2=>⟨trivial,af (fun h3=>⟨trivial,?_⟩) fun h3=>?_⟩) fun h2=>?_⟩) fun h1=>?_⟩
   · refine congrArg (·,()) ?_
     unfold Sp.dO
     rw [ha,h1,h2,h3];rfl
   · refine congrArg (·,()) ?_
     unfold Sp.dO
     rw [ha,h1,h2,h3];rfl
   · refine congrArg (·,()) ?_
     unfold Sp.dO
     rw [ha,h1,h2];rfl
   · refine congrArg (·,()) ?_
     unfold Sp.dO
     rw [ha,h1];rfl
theorem wU:ai prog G jq.e:=by
 refine RP (ak ah ⟨lV,EL,Gl,trivial⟩) ?_
 intro s0 s1 s2 hin hp
 dsimp only [jq] at hp ⊢
 have hlen:s1.length≤maxLen:=hin.1.2.1.1
 rw [maxLen_eq] at hlen
 refine iV s1.length hlen (fun n=>∀ i,i<n→Sp.jU (s0,s1,s2,()) i=true) (fun i hi=>by omega) (fun I μ n hn hJ next=>?_) fun I μ hJ=>?_
 · dsimp only
   have no:Sp.jU (s0,s1,s2,()) n=false→(false,())=(Sp.aJ (s0,s1,s2,()),()):=fun h=>by rw [Sp.aff (s:=(s0,s1,s2,())) hn h]
   refine dB (by omega) ⟨⟨by omega,by omega⟩,trivial,af (fun h2=>no ?_) fun h2=>⟨⟨by omega,by omega⟩,af (fun h3=>no ?_) fun h3=>af (fun h4=>?_) fun h4=>⟨rfl,next (dX hJ ?_)⟩⟩⟩
   · have h2:Sp.dO s0 (Sp.fileAt s1 n)=false:=fQ h2
     show (Sp.dO s0 (Sp.fileAt s1 n)&&_&&_)=false
     rw [h2];rfl
   · have h2:Sp.dO s0 (Sp.fileAt s1 n)=true:=dH h2
     have h3:¬ (Sp.fileAt s1 n).1<s2:=by have h3:(Sp.fileAt s1 n).1≥s2:=fD h3;omega
     show (Sp.dO s0 (Sp.fileAt s1 n)&&decide ((Sp.fileAt s1 n).1<s2)&&_)=false
     rw [h2,decide_eq_false h3];rfl
   · have h2:Sp.dO s0 (Sp.fileAt s1 n)=true:=dH h2
     have h3:(Sp.fileAt s1 n).1<s2:=by have h3:¬ (Sp.fileAt s1 n).1≥s2:=fP h3;omega
     have h4:0<n:=by have:=fD h4;omega
     rw [xC h4 (by omega)]
     refine ⟨⟨by omega,by omega⟩,⟨by omega,by omega⟩,af (fun h5=>no ?_) fun h5=>⟨rfl,next (dX hJ ?_)⟩⟩
     · have h5:¬ (Sp.fileAt s1 (n-1)).1<(Sp.fileAt s1 n).1:=by have h5:(Sp.fileAt s1 (n-1)).1≥(Sp.fileAt s1 n).1:=fD h5;omega
       show (Sp.dO s0 (Sp.fileAt s1 n)&&decide ((Sp.fileAt s1 n).1<s2)&&!(decide (0<n)&&!decide ((Sp.fileAt s1 (n-1)).1<(Sp.fileAt s1 n).1)))=false
       rw [h2,decide_eq_true h3,decide_eq_true h4,decide_eq_false h5];rfl
     · have h5:(Sp.fileAt s1 (n-1)).1<(Sp.fileAt s1 n).1:=by have h5:¬ (Sp.fileAt s1 (n-1)).1≥(Sp.fileAt s1 n).1:=fP h5;omega
       show (Sp.dO s0 (Sp.fileAt s1 n)&&decide ((Sp.fileAt s1 n).1<s2)&&!(decide (0<n)&&!decide ((Sp.fileAt s1 (n-1)).1<(Sp.fileAt s1 n).1)))=true
       rw [h2,decide_eq_true h3,decide_eq_true h4,decide_eq_true h5];rfl
   · have h2:Sp.dO s0 (Sp.fileAt s1 n)=true:=dH h2
     have h3:(Sp.fileAt s1 n).1<s2:=by have h3:¬ (Sp.fileAt s1 n).1≥s2:=fP h3;omega
     have h4:¬ 0<n:=by have:=fP h4;omega
     show (Sp.dO s0 (Sp.fileAt s1 n)&&decide ((Sp.fileAt s1 n).1<s2)&&!(decide (0<n)&&!decide ((Sp.fileAt s1 (n-1)).1<(Sp.fileAt s1 n).1)))=true
     rw [h2,decide_eq_true h3,decide_eq_false h4];rfl
 · dsimp only
   have ha:Sp.jk s1.length (Sp.jU (s0,s1,s2,()))=true:=oH hJ
   refine dD (by omega) ⟨trivial,af (fun h1=>af (fun h2=>⟨trivial,?_⟩) fun h2=>?_) fun h1=>?_⟩
   · refine congrArg (·,()) ?_
     show _=(Sp.jk s1.length (Sp.jU (s0,s1,s2,()))&&Sp.eY s0&&decide ((s1.length:Int)≤12)&&(decide (1≤s2)&&decide (s2≤61)))
     rw [ha,h1,h2];rfl
   · refine congrArg (·,()) ?_
     show _=(Sp.jk s1.length (Sp.jU (s0,s1,s2,()))&&Sp.eY s0&&decide ((s1.length:Int)≤12)&&(decide (1≤s2)&&decide (s2≤61)))
     rw [ha,h1,h2];rfl
   · refine congrArg (·,()) ?_
     show _=(Sp.jk s1.length (Sp.jU (s0,s1,s2,()))&&Sp.eY s0&&decide ((s1.length:Int)≤12)&&(decide (1≤s2)&&decide (s2≤61)))
     rw [ha,h1];rfl
theorem Xz:ai prog G wE.e:=by
 refine XB (ak ah trivial) ?_
 intro a b hin hp
 dsimp only [wE] at hp ⊢
 have hlen:a.length≤maxLen:=hin.1.1
 rw [maxLen_eq] at hlen
 refine af (fun h=>?_) fun h=>?_
 · have h:(a.length:Int)≠b.length:=by simpa using h
   exact congrArg (·,()) (decide_eq_false fun e=>h (by rw [e])).symm
 · have h:(a.length:Int)=b.length:=by simpa using h
   exact PV (K:=fun r=>r=(decide (a=b),())) (fun x y=>!(x.1==y.1&&(x.2.1==y.2.1&&true))) (fun x y=>by simp [Prod.ext_iff]) _ a b _ hlen (by omega) (fun e=>by rw [decide_eq_false e]) fun e=>by rw [decide_eq_true e]
theorem ZU:ai prog G xJ.e:=by
 refine ZV (ak ah trivial) ?_
 intro a b hin hp
 dsimp only [xJ] at hp ⊢
 have hlen:a.length≤maxLen:=hin.1.1
 rw [maxLen_eq] at hlen
 refine af (fun h=>?_) fun h=>?_
 · have h:(a.length:Int)≠b.length:=by simpa using h
   exact congrArg (·,()) (decide_eq_false fun e=>h (by rw [e])).symm
 · have h:(a.length:Int)=b.length:=by simpa using h
   exact PV (K:=fun r=>r=(decide (a=b),())) (fun x y=>!(x.1==y.1&&(x.2.1==y.2.1&&(x.2.2.1==y.2.2.1&&(x.2.2.2.1==y.2.2.2.1&&true))))) (fun x y=>by simp [Prod.ext_iff]) _ a b _ hlen (by omega) (fun e=>by rw [decide_eq_false e]) fun e=>by rw [decide_eq_true e]
theorem acR:ai prog G yH.e:=by
 refine acS (ak ah ⟨ZU,trivial⟩) ?_
 intro a0 a1 a2 a3 a4 b0 b1 b2 b3 b4 hin hp
 dsimp only [yH] at hp ⊢
 refine af (fun h0=>af (fun h1=>af (fun h2=>af (fun h3=>⟨trivial,?_⟩) fun h3=>?_) fun h2=>?_) fun h1=>?_) fun h0=>?_
 all_goals refine congrArg (·,()) (Bool.eq_iff_iff.2 ?_)
 · simp only [beq_iff_eq] at h0 h1 h2 h3
   subst h0 h1 h2 h3
   simp
 · have h3:a3≠b3:=by simpa using h3
   simp [h3]
 · have h2:a2≠b2:=by simpa using h2
   simp [h2]
 · have h1:a1≠b1:=by simpa using h1
   simp [h1]
 · have h0:a0≠b0:=by simpa using h0
   simp [h0]
theorem ZW:ai prog G xK.e:=by
 refine ZX (ak ah ⟨acR,trivial⟩) ?_
 intro a b hin hp
 dsimp only [xK] at hp ⊢
 have hlen:a.length≤maxLen:=hin.1.1
 rw [maxLen_eq] at hlen
 refine af (fun h=>?_) fun h=>?_
 · have h:(a.length:Int)≠b.length:=by simpa using h
   exact congrArg (·,()) (decide_eq_false fun e=>h (by rw [e])).symm
 · have h:(a.length:Int)=b.length:=by simpa using h
   exact acT (K:=fun r=>r=(decide (a=b),())) (fun x y=>!decide ((x.1,x.2.1,x.2.2.1,x.2.2.2.1,x.2.2.2.2.1,())=(y.1,y.2.1,y.2.2.1,y.2.2.2.1,y.2.2.2.2.1,()))) (fun x y=>by simp [Prod.ext_iff]) _ a b _ hlen (by omega) (fun e=>by rw [decide_eq_false e]) fun e=>by rw [decide_eq_true e]
theorem ZY:ai prog G xM.e:=by
 refine Z4 (ak ah ⟨ZW,Xz,trivial⟩) ?_
 intro a0 a1 a2 b0 b1 b2 hin hp
 dsimp only [xM] at hp ⊢
 refine ⟨trivial,af (fun h0=>⟨trivial,af (fun h1=>?_) fun h1=>?_⟩) fun h0=>?_⟩
 all_goals refine congrArg (·,()) (Bool.eq_iff_iff.2 ?_)
 · have h0:=fD h0
   have h1:=fD h1
   subst h0 h1
   simp
 · have h1:=fP h1
   simp [h1]
 · have h0:=fP h0
   simp [h0]
theorem NG:ai prog G xk.e:=by
 refine afg (ak ah trivial) ?_
 intro f0 f1 f2 f3 f4 hin hp
 dsimp only [xk] at hp ⊢
 have hp:f4.length≤1000:=hp
 exact ⟨by rw [bV];omega,rfl⟩
theorem IJ:ai prog G kT.e:=by
 refine IK (ak ah trivial) ?_
 intro l hin hp
 dsimp only [kT] at hp ⊢
 intro g hg
 have hp:l.length≤1000:=hp
 refine af (fun h=>?_) fun h=>⟨by rw [bV];omega,rfl⟩
 have:=List.length_eq_zero_iff.1 (hg h)
 rw [this]
theorem JC:ai prog G lC.e:=by
 refine JD (ak ah trivial) ?_
 intro l hin hp
 dsimp only [lC] at hp ⊢
 intro g hg
 have hp:l.length≤1000:=hp
 refine af (fun h=>?_) fun h=>⟨by rw [bV];omega,rfl⟩
 have:=List.length_eq_zero_iff.1 (hg h)
 rw [this]
theorem acU:ai prog G yI.e:=by
 refine acV (ak ah ⟨JC,trivial⟩) ?_
 intro f0 f1 f2 f3 f4 hin hp
 dsimp only [yI] at hp ⊢
 exact ⟨hp,rfl⟩
theorem ah9:ai prog G AZ.e:=by
 refine aia (ak ah ⟨ug,trivial⟩) ?_
 intro n hin hp
 dsimp only [AZ] at hp ⊢
 exact ⟨trivial,rfl⟩
theorem acW:ai prog G yJ.e:=by
 refine acX (ak ah trivial) ?_
 intro s0 s1 s2 id hin hp
 dsimp only [yJ] at hp ⊢
 have hlen:s1.length≤maxLen:=hin.1.2.1.1
 rw [maxLen_eq] at hlen
 refine iV s1.length hlen (fun n=>∀ i,i<n→(Sp.fileAt s1 i).1≠id) (fun i hi=>by omega) (fun I μ n hn hJ next=>?_) fun I μ hJ=>?_
 · dsimp only
   refine dB (by omega) ⟨⟨by omega,by omega⟩,af (fun h=>?_) fun h=>⟨rfl,next fun i hi=>?_⟩⟩
   · have h:(Sp.fileAt s1 n).1=id:=fD h
     exact congrArg (·,()) (Sp.Lh hn hJ h).symm
   · rcases Nat.lt_or_ge i n with h'|h'
     · exact hJ i h'
     · have:i=n:=by omega
       subst this
       have h:¬ (Sp.fileAt s1 i).1=id:=fP h
       exact h
 · dsimp only
   exact dD (by omega) (congrArg (·,()) (Sp.afh hJ).symm)
theorem set_self {fs:List Sp.aZ} {n:Nat} (hn:n<fs.length):fs.set n (fs.getD n (0,0,false,0,[],()))=fs:=by
 refine List.ext_getElem (by simp) fun i h1 h2=>?_
 rw [List.getElem_set]
 split
 · next e=>subst e;rw [List.getD_eq_getElem?_getD,List.getElem?_eq_getElem hn];rfl
 · rfl
theorem Lj {s:List Sp.fZ} (p:Sp.fZ→Bool) {n:Nat} (hn:n<s.length):(s.take (n+1)).filter p=(s.take n).filter p++(if p (Sp.bT s n)=true then [Sp.bT s n] else []):=by
 rw [Sp.take_succ' s n ([],0,0,[],()) hn,List.filter_append]
 congr 1
 show List.filter _ [Sp.bT s n]=_
 by_cases h:p (Sp.bT s n)=true
 · rw [List.filter_cons_of_pos h,if_pos h];rfl
 · rw [List.filter_cons_of_neg h,if_neg h];rfl
theorem afi (s:List Sp.fZ) (p:Sp.fZ→Bool) (n:Nat):((s.take n).filter p).length≤n:=by
 have:=List.length_filter_le p (s.take n)
 rw [List.length_take] at this
 omega
theorem al2 (al:List Sp.fZ) (name:Sp.Bytes) (n:Int) (s:Sp.Bytes):Sp.kZ al name 0 n s=al.filter (Sp.rC name):=rfl
theorem aoH {al:List Sp.fZ} {name:Sp.Bytes} {k n:Int} {s:Sp.Bytes} (hk:k≠0) {l:List Sp.fZ} (hl:l=al.filter (Sp.rC name)) {m:Nat} (hm:m≤l.length)
 (h1:∀ i,i<m→Sp.uh name (Sp.bT l i)=true) (h2:m<l.length→Sp.uh name (Sp.bT l m)=false):
 List.drop 0 (List.take m l)++[(name,k,n,s,())]++List.drop m (List.take l.length l)=Sp.kZ al name k n s:=by
 obtain ⟨e1,e2⟩:=Sp.Ll (d:=(([]:List UInt8),(0:Int),(0:Int),([]:List UInt8),())) l m hm h1 h2
 unfold Sp.kZ Sp.Zn
 rw [decide_eq_false hk,← hl]
 show _=l.takeWhile (Sp.uh name)++_::l.dropWhile (Sp.uh name)
 rw [e1,e2,List.take_length,List.drop_zero,List.append_assoc]
 rfl
theorem NH:ai prog G pV.e:=by
 refine afj (ak ah trivial) (fun ⟨(i,o,s,l,a,_),name,(k,n,w,_),_⟩ _=>⟨(((i,o,s,l,Sp.kZ a name k n w,()),()),()),⟨rfl,rfl,rfl,rfl,rfl⟩⟩) ?_
 intro f0 f1 f2 f3 f4 name k n s hin hp
 dsimp only [pV] at hp ⊢
 have hp:f4.length≤1000:=hp
 refine dR (fun i (x:List Sp.fZ)=>(((),i,()),x,())) (fun y=>y.1.2.1) (fun _ _=>rfl) f4.length (by omega) (fun m l=>l=(f4.take m).filter (Sp.rC name)) (by simp) (fun I μ m l hm hJ next=>?_) fun I μ l hJ=>?_
 · subst hJ
   have hl:=afi f4 (Sp.rC name) m
   dsimp only
   refine dB (by omega) ⟨⟨by omega,by omega⟩,af (fun h=>⟨⟨by omega,by omega⟩,by rw [bV];simp only [List.length_cons,List.length_nil];omega,rfl,next _ ?_⟩) fun h=>⟨rfl,next _ ?_⟩⟩
   · rw [Lj _ hm,if_pos (show Sp.rC name (Sp.bT f4 m)=true from h)];rfl
   · rw [Lj _ hm,if_neg (show ¬ Sp.rC name (Sp.bT f4 m)=true from fun h'=>by have h:Sp.rC name (Sp.bT f4 m)=false:=h;rw [h] at h';cases h'),List.append_nil]
 · rw [List.take_length] at hJ
   have hl:l.length≤1000:=by rw [hJ];have:=List.length_filter_le (Sp.rC name) f4;omega
   dsimp only
   refine dD (by omega) (af (fun h=>?_) fun h=>?_)
   · have hk:k≠0:=by simpa using h
     have fin:∀ m:Nat,m≤l.length→(∀ i,i<m→Sp.uh name (Sp.bT l i)=true)→(m<l.length→Sp.uh name (Sp.bT l m)=false)→
      ((0:Int)≤m∧(m:Int)≤l.length)∧0+(List.drop 0 (List.take m l)).length≤big∧(List.drop 0 (List.take m l)).length+[(name,k,n,s,())].length≤big∧((0:Int)≤m∧(m:Int)≤l.length)∧
      (List.drop 0 (List.take m l)++[(name,k,n,s,())]).length+(List.drop m (List.take l.length l)).length≤big∧
      (f0=f0∧f1=f1∧f2=f2∧f3=f3∧List.drop 0 (List.take m l)++[(name,k,n,s,())]++List.drop m (List.take l.length l)=Sp.kZ f4 name k n s):=by
      intro m hm h1 h2
      refine ⟨⟨by omega,by omega⟩,?_,?_,⟨by omega,by omega⟩,?_,rfl,rfl,rfl,rfl,aoH hk hJ hm h1 h2⟩
      all_goals
       rw [bV]
       simp only [List.length_append,List.length_drop,List.length_take,List.length_cons,List.length_nil]
       omega
     refine iV l.length (by omega) (fun m=>∀ i,i<m→Sp.uh name (Sp.bT l i)=true) (fun i hi=>by omega) (fun I μ m hm hJ2 next=>?_) fun I μ hJ2=>?_
     · dsimp only
       refine dB (by omega) ⟨⟨by omega,by omega⟩,hm,af (fun h2=>⟨rfl,next (dX (f:=fun i=>Sp.uh name (Sp.bT l i)) hJ2 h2)⟩) fun h2=>?_⟩
       exact fin m (by omega) hJ2 fun _=>h2
     · dsimp only
       exact dD (by omega) (fin l.length (Nat.le_refl _) hJ2 fun h'=>by omega)
   · have hk:k=0:=by simpa using h
     subst hk
     exact ⟨rfl,rfl,rfl,rfl,by rw [al2];exact hJ⟩
theorem acY:ai prog G qQ.e:=by
 refine acZ (ak ah trivial) (fun ⟨s,_⟩ _=>⟨(((s,[],1,()),()),()),⟨rfl,rfl,rfl⟩⟩) ?_
 intro s hin hp
 dsimp only [qQ] at hp ⊢
 have hp:s.length≤1000:=hp
 exact ⟨by rw [bV];omega,rfl,rfl,rfl⟩
theorem BR:ai prog G ku.e:=by
 refine afk (ak ah ⟨NG,trivial⟩) (fun ⟨(a,l,nx,_),_⟩ _=>⟨(((a,l,nx,()),()),()),rfl⟩) ?_
 intro s0 s1 s2 hin hp
 dsimp only [ku] at hp ⊢
 obtain ⟨h0,h1,h2⟩:s0.length≤1000∧s1.length≤1000∧∀ f∈s1,Sp.pU f:=hp
 refine ⟨by rw [bV];omega,?_⟩
 refine dR (fun i (x:List Sp.aZ)=>((i,()),((),(),s2,()),x,())) (fun y=>y.1.1) (fun _ _=>rfl) s1.length (by omega) (fun n l=>l=s1.take n) (by simp) (fun I μ n l hn hJ next=>?_) fun I μ l hJ=>?_
 · subst hJ
   have hl:(s1.take n).length≤n:=by rw [List.length_take];omega
   dsimp only
   refine dB (by omega) ⟨⟨by omega,by omega⟩,h2 _ (getD_mem (d:=((0:Int),(0:Int),false,(0:Int),[],())) hn),by rw [bV];simp only [List.length_cons,List.length_nil];omega,rfl,next _ ?_⟩
   exact (Sp.take_succ' s1 n (0,0,false,0,[],()) hn).symm
 · subst hJ
   dsimp only
   refine dD (by omega) ?_
   rw [List.take_length]
theorem Ii:ai prog G kC.e:=by
 refine XC (ak ah ⟨Gl,wU,NG,BR,trivial⟩) (fun ⟨s,f,_⟩ _=>⟨((((Sp.bZ s f).1.1,(Sp.bZ s f).1.2.1,(Sp.bZ s f).1.2.2.1,()),(Sp.bZ s f).2.1,(Sp.bZ s f).2.2,()),()),⟨rfl,rfl,rfl,rfl,rfl⟩⟩) ?_
 intro s0 s1 s2 f0 f1 f2 f3 f4 hin hp
 dsimp only [kC] at hp ⊢
 refine ⟨hp.1,?_⟩
 rintro ⟨⟨⟨a,l,nx,⟨⟩⟩,⟨⟩⟩,⟨⟩⟩ e
 obtain ⟨rfl,rfl,rfl⟩:a=s0∧l=s1∧nx=s2:=by simpa using e
 have hs:l.length≤1000:=hp.1.2.1
 have no:¬ (Sp.aJ (a,l,nx,())=true∧l.length<12∧Sp.dO a (nx,f1,f2,f3,f4,())=true)→Sp.bZ (a,l,nx,()) (f0,f1,f2,f3,f4,())=((a,l,nx,()),0,false):=fun h=>by
  rcases Sp.pG (a,l,nx,()) (f0,f1,f2,f3,f4,()) with ⟨e,_⟩|⟨h1,h2,h3,_⟩
  · exact e
  · exact (h ⟨h1,h2,h3⟩).elim
 refine ⟨hp.2,trivial,af (fun h1=>?_) fun h1=>af (fun h2=>?_) fun h2=>⟨trivial,af (fun h3=>?_) fun h3=>?_⟩⟩
 · have:=no fun h=>by have h1:=fQ h1;have:=h.1;rw [show Sp.aJ (a,l,nx,())=false from h1] at this;cases this
   dsimp only
   rw [this];exact ⟨rfl,rfl,rfl,rfl,rfl⟩
 · have:=no fun h=>by have h2:(l.length:Int)≥12:=fD h2;omega
   dsimp only
   rw [this];exact ⟨rfl,rfl,rfl,rfl,rfl⟩
 · have:=no fun h=>by have h3:=fQ h3;have:=h.2.2;rw [show Sp.dO a (nx,f1,f2,f3,f4,())=false from h3] at this;cases this
   dsimp only
   rw [this];exact ⟨rfl,rfl,rfl,rfl,rfl⟩
 · have g1:Sp.aJ (a,l,nx,())=true:=dH h1
   have g2:l.length<12:=by have h2:¬ (l.length:Int)≥12:=fP h2;omega
   have g3:Sp.dO a (nx,f1,f2,f3,f4,())=true:=dH h3
   rcases Sp.pG (a,l,nx,()) (f0,f1,f2,f3,f4,()) with ⟨_,e⟩|⟨_,_,_,e⟩
   · exact (e ⟨g1,g2,g3⟩).elim
   · have hnx:=(Sp.qK.1 g1).2.2.2
     have w:IntKind.i64.wrap (nx+1)=nx+1:=fC _ (by have h5:nx≤61:=hnx.2;have h6:1≤nx:=hnx.1;omega)
     refine ⟨by rw [bV];simp only [List.length_cons,List.length_nil];omega,?_⟩
     dsimp only
     rw [e,w];exact ⟨rfl,rfl,rfl,rfl,rfl⟩
theorem XD:ai prog G mM.e:=by
 refine XF (ak ah ⟨wU,acW,BR,trivial⟩) (fun ⟨s,id,_⟩ _=>⟨((((Sp.fA s id).1.1,(Sp.fA s id).1.2.1,(Sp.fA s id).1.2.2.1,()),(Sp.fA s id).2,()),()),⟨rfl,rfl,rfl,rfl⟩⟩) ?_
 intro s0 s1 s2 id hin hp
 dsimp only [mM] at hp ⊢
 refine ⟨hp,?_⟩
 rintro ⟨⟨⟨a,l,nx,⟨⟩⟩,⟨⟩⟩,⟨⟩⟩ e
 obtain ⟨rfl,rfl,rfl⟩:a=s0∧l=s1∧nx=s2:=by simpa using e
 have hs:l.length≤1000:=hp.2.1
 have no:¬ (Sp.aJ (a,l,nx,())=true∧0≤Sp.place l id)→Sp.fA (a,l,nx,()) id=((a,l,nx,()),false):=fun h=>by
  rcases Sp.yg (a,l,nx,()) id with ⟨e,_⟩|⟨n,hn,h1,h2,_⟩
  · exact e
  · exact (h ⟨h2,by have h1:Sp.place l id=n:=h1;omega⟩).elim
 refine ⟨trivial,trivial,af (fun h1=>?_) fun h1=>af (fun h2=>?_) fun h2=>?_⟩
 · have:=no fun h=>by have h1:=fQ h1;have:=h.1;rw [show Sp.aJ (a,l,nx,())=false from h1] at this;cases this
   dsimp only
   rw [this];exact ⟨rfl,rfl,rfl,rfl⟩
 · have:=no fun h=>by have h2:Sp.place l id<0:=fD h2;omega
   dsimp only
   rw [this];exact ⟨rfl,rfl,rfl,rfl⟩
 · have g1:Sp.aJ (a,l,nx,())=true:=dH h1
   have g2:0≤Sp.place l id:=by have h2:¬ Sp.place l id<0:=fP h2;omega
   rcases Sp.yg (a,l,nx,()) id with ⟨_,e⟩|⟨n,hn,hpl,_,e⟩
   · exact (e ⟨g1,g2⟩).elim
   · have hn:n<l.length:=hn
     have hpl:Sp.place l id=n:=hpl
     have w:IntKind.i64.wrap ((n:Int)+1)=((n+1:Nat):Int):=fC _ (by omega)
     dsimp only
     rw [hpl,e,w,Int.toNat_natCast,Int.toNat_natCast,List.drop_zero,List.take_length,bV]
     refine ⟨⟨by omega,by omega⟩,by rw [List.length_take];omega,⟨by omega,by omega⟩,by rw [List.length_take,List.length_drop];omega,rfl,?_,rfl,rfl⟩
     exact (List.eraseIdx_eq_take_drop_succ ..).symm
def Zo (L:List (List Sp.fZ)) (name:Sp.Bytes) (vals:List (Int×Int×Sp.Bytes)):List (List Sp.fZ):=L++L.flatMap fun a=>vals.map fun v=>Sp.kZ a name v.1 v.2.1 v.2.2
theorem wZ {L:List (List Sp.fZ)} {name:Sp.Bytes} {vals:List (Int×Int×Sp.Bytes)} {a:List Sp.fZ} (h:a∈L):a∈Zo L name vals:=List.mem_append_left _ h
theorem NI {L:List (List Sp.fZ)} {name:Sp.Bytes} {vals:List (Int×Int×Sp.Bytes)} {a:List Sp.fZ} (h:a∈L) {k n:Int} {s:Sp.Bytes} (hv:(k,n,s)∈vals):Sp.kZ a name k n s∈Zo L name vals:=
 List.mem_append_right _ (List.mem_flatMap.2 ⟨a,h,List.mem_map.2 ⟨(k,n,s),hv,rfl⟩⟩)
def ints:List (Int×Int×Sp.Bytes):=[(1,0,[]),(1,1,[]),(1,2,[]),(1,3,[])]
def names:List (Int×Int×Sp.Bytes):=[(2,0,[105,110,107]),(2,0,[115,101,97])]
def tags:List (Int×Int×Sp.Bytes):=[(2,0,[114,101,100]),(2,0,[98,108,117,101])]
def afl:List (List Sp.fZ):=Zo [[]] [97] ints
def afm:List (List Sp.fZ):=Zo afl [98] ints
def afn:List (List Sp.fZ):=Zo afm [110] names
def afo:List (List Sp.fZ):=Zo afn [116] tags
theorem aqz:(afo.all fun a=>Sp.jZ Sp.usual a&&decide (a.length≤4))=true:=by kernel_rfl
theorem NJ {a:List Sp.fZ} (h:a∈afo):Sp.jZ Sp.usual a=true∧a.length≤4:=by
 have:=List.all_eq_true.1 aqz a h
 simpa using this
theorem arC {a:List Sp.fZ} (h:a∈afl):a.length≤4:=(NJ (wZ (wZ (wZ h)))).2
theorem arD {a:List Sp.fZ} (h:a∈afm):a.length≤4:=(NJ (wZ (wZ h))).2
theorem arE {a:List Sp.fZ} (h:a∈afn):a.length≤4:=(NJ (wZ h)).2
theorem al3 {x:Int} (h0:0≤x) (h1:x<4):((1:Int),x,([]:Sp.Bytes))∈ints:=by
 rcases (show x=0∨x=1∨x=2∨x=3 by omega) with h|h|h|h<;>subst h<;>simp [ints]
theorem apO {w:Sp.Bytes} (h:(w,())∈[(([105,110,107]:Sp.Bytes),()),([115,101,97],())]):((2:Int),(0:Int),w)∈names:=by
 simp only [List.mem_cons,Prod.mk.injEq,and_true,List.not_mem_nil,or_false] at h
 rcases h with h|h<;>subst h<;>simp [names]
theorem aqA {w:Sp.Bytes} (h:(w,())∈[(([114,101,100]:Sp.Bytes),()),([98,108,117,101],())]):((2:Int),(0:Int),w)∈tags:=by
 simp only [List.mem_cons,Prod.mk.injEq,and_true,List.not_mem_nil,or_false] at h
 rcases h with h|h<;>subst h<;>simp [tags]
def Head (id:Int) (f:Int×Int×Bool×Int×Unit×Unit):Prop:=f.1=id∧0≤f.2.1∧f.2.1≤2∧0≤f.2.2.2.1∧f.2.2.2.1≤6
theorem FP:ai prog G l7.e:=by
 refine afp (ak ah ⟨yw,jg,NH,En,ru,dV,trivial⟩) (fun ⟨_,id,_⟩ _=>⟨(((id,0,false,0,[],()),()),(([],0,0,()),())),⟨by dsimp only;decide,rfl,by dsimp only;decide,by dsimp only;decide,by dsimp only;decide,by dsimp only;decide,rfl,by dsimp only;decide⟩⟩) ?_
 intro b i h id hin hp
 dsimp only [l7] at hp ⊢
 have hp:0≤i:=hp
 refine ⟨hp,?_⟩
 rintro ⟨⟨x0,⟨⟩⟩,⟨b0,i0,g0,⟨⟩⟩,⟨⟩⟩ ⟨p0,q0,q1,_⟩
 refine ⟨p0,?_⟩
 rintro ⟨⟨x1,⟨⟩⟩,⟨b1,i1,g1,⟨⟩⟩,⟨⟩⟩ p1
 have q1:x0<3:=q1 (by decide)
 have q0:0≤x0:=q0
 refine ⟨fun y=>0≤y.2.1.2.1∧Head id y.2.2.1,⟨p1,?_⟩,?_⟩
 · rintro ⟨⟨x3,⟨⟩⟩,⟨b3,i3,g3,⟨⟩⟩,⟨⟩⟩ p3
   refine af (fun _=>⟨p3,?_⟩) fun _=>⟨rfl,p3,rfl,q0,(show x0≤2 by omega),Int.le_refl _,(show (0:Int)≤6 by decide)⟩
   rintro ⟨⟨x4,⟨⟩⟩,⟨b4,i4,g4,⟨⟩⟩,⟨⟩⟩ ⟨p4,q4,q5,_⟩
   have q5:x4<7:=q5 (by decide)
   exact ⟨rfl,p4,rfl,q0,(show x0≤2 by omega),q4,(show x4≤6 by omega)⟩
 rintro ⟨⟨⟩,⟨b5,i5,g5,⟨⟩⟩,f5,⟨⟩⟩ ⟨p5,H5⟩
 refine ⟨fun y=>0≤y.2.1.2.1∧Head id y.2.2.1∧y.2.2.2.1∈afl,⟨p5,?_⟩,?_⟩
 · rintro ⟨⟨x7,⟨⟩⟩,⟨b7,i7,g7,⟨⟩⟩,⟨⟩⟩ p7
   refine af (fun _=>⟨p7,?_⟩) fun _=>⟨rfl,p7,H5,wZ List.mem_cons_self⟩
   rintro ⟨⟨x8,⟨⟩⟩,⟨b8,i8,g8,⟨⟩⟩,⟨⟩⟩ ⟨p8,q8,q9,_⟩
   refine ⟨trivial,(show (0:Nat)≤1000 by decide),?_⟩
   rintro ⟨⟨⟨d,o,s,l,a,⟨⟩⟩,⟨⟩⟩,⟨⟩⟩ ⟨e1,e2,e3,e4,e5⟩
   refine ⟨rfl,p8,?_,?_⟩
   · exact ⟨(show d=id from (show d=f5.1 from e1).trans H5.1),by rw [show o=f5.2.1 from e2];exact H5.2.1,by rw [show o=f5.2.1 from e2];exact H5.2.2.1,by rw [show l=f5.2.2.2.1 from e4];exact H5.2.2.2.1,by rw [show l=f5.2.2.2.1 from e4];exact H5.2.2.2.2⟩
   · have e5:a=Sp.kZ [] [97] 1 x8 []:=e5
     show a∈afl
     rw [e5];exact NI List.mem_cons_self (al3 q8 (q9 (by decide)))
 rintro ⟨⟨⟩,⟨b11,i11,g11,⟨⟩⟩,f11,a11,⟨⟩⟩ ⟨p11,H11,m11⟩
 refine ⟨fun y=>0≤y.2.1.2.1∧Head id y.2.2.1∧y.2.2.2.1∈afm,⟨p11,?_⟩,?_⟩
 · rintro ⟨⟨x7,⟨⟩⟩,⟨b7,i7,g7,⟨⟩⟩,⟨⟩⟩ p7
   refine af (fun _=>⟨p7,?_⟩) fun _=>⟨rfl,p7,H11,wZ m11⟩
   rintro ⟨⟨x8,⟨⟩⟩,⟨b8,i8,g8,⟨⟩⟩,⟨⟩⟩ ⟨p8,q8,q9,_⟩
   refine ⟨trivial,Nat.le_trans (arC m11) (by decide),?_⟩
   rintro ⟨⟨⟨d,o,s,l,a,⟨⟩⟩,⟨⟩⟩,⟨⟩⟩ ⟨e1,e2,e3,e4,e5⟩
   refine ⟨rfl,p8,?_,?_⟩
   · exact ⟨(show d=id from (show d=f11.1 from e1).trans H11.1),by rw [show o=f11.2.1 from e2];exact H11.2.1,by rw [show o=f11.2.1 from e2];exact H11.2.2.1,by rw [show l=f11.2.2.2.1 from e4];exact H11.2.2.2.1,by rw [show l=f11.2.2.2.1 from e4];exact H11.2.2.2.2⟩
   · have e5:a=Sp.kZ a11 [98] 1 x8 []:=e5
     show a∈afm
     rw [e5];exact NI m11 (al3 q8 (q9 (by decide)))
 rintro ⟨⟨⟩,⟨b17,i17,g17,⟨⟩⟩,f17,a17,⟨⟩⟩ ⟨p17,H17,m17⟩
 refine ⟨fun y=>0≤y.2.1.2.1∧Head id y.2.2.1∧y.2.2.2.1∈afn,⟨p17,?_⟩,?_⟩
 · rintro ⟨⟨x7,⟨⟩⟩,⟨b7,i7,g7,⟨⟩⟩,⟨⟩⟩ p7
   refine af (fun _=>⟨⟨p7,by simp⟩,?_⟩) fun _=>⟨rfl,p7,H17,wZ m17⟩
   rintro ⟨⟨x8,⟨⟩⟩,⟨b8,i8,g8,⟨⟩⟩,⟨⟩⟩ ⟨p8,q8⟩
   refine ⟨trivial,Nat.le_trans (arD m17) (by decide),?_⟩
   rintro ⟨⟨⟨d,o,s,l,a,⟨⟩⟩,⟨⟩⟩,⟨⟩⟩ ⟨e1,e2,e3,e4,e5⟩
   refine ⟨rfl,p8,?_,?_⟩
   · exact ⟨(show d=id from (show d=f17.1 from e1).trans H17.1),by rw [show o=f17.2.1 from e2];exact H17.2.1,by rw [show o=f17.2.1 from e2];exact H17.2.2.1,by rw [show l=f17.2.2.2.1 from e4];exact H17.2.2.2.1,by rw [show l=f17.2.2.2.1 from e4];exact H17.2.2.2.2⟩
   · have e5:a=Sp.kZ a17 [110] 2 0 x8:=e5
     show a∈afn
     rw [e5];exact NI m17 (apO q8)
 rintro ⟨⟨⟩,⟨b23,i23,g23,⟨⟩⟩,f23,a23,⟨⟩⟩ ⟨p23,H23,m23⟩
 refine ⟨fun y=>0≤y.2.1.2.1∧Head id y.2.2.1∧y.2.2.2.1∈afo,⟨p23,?_⟩,?_⟩
 · rintro ⟨⟨x7,⟨⟩⟩,⟨b7,i7,g7,⟨⟩⟩,⟨⟩⟩ p7
   refine af (fun _=>⟨⟨p7,by simp⟩,?_⟩) fun _=>⟨rfl,p7,H23,wZ m23⟩
   rintro ⟨⟨x8,⟨⟩⟩,⟨b8,i8,g8,⟨⟩⟩,⟨⟩⟩ ⟨p8,q8⟩
   refine ⟨trivial,Nat.le_trans (arE m23) (by decide),?_⟩
   rintro ⟨⟨⟨d,o,s,l,a,⟨⟩⟩,⟨⟩⟩,⟨⟩⟩ ⟨e1,e2,e3,e4,e5⟩
   refine ⟨rfl,p8,?_,?_⟩
   · exact ⟨(show d=id from (show d=f23.1 from e1).trans H23.1),by rw [show o=f23.2.1 from e2];exact H23.2.1,by rw [show o=f23.2.1 from e2];exact H23.2.2.1,by rw [show l=f23.2.2.2.1 from e4];exact H23.2.2.2.1,by rw [show l=f23.2.2.2.1 from e4];exact H23.2.2.2.2⟩
   · have e5:a=Sp.kZ a23 [116] 2 0 x8:=e5
     show a∈afo
     rw [e5];exact NI m23 (aqA q8)
 rintro ⟨⟨⟩,⟨b29,i29,g29,⟨⟩⟩,f29,a29,⟨⟩⟩ ⟨p29,H29,m29⟩
 have hm:=NJ m29
 exact ⟨p29,H29.1,H29.2.1,H29.2.2.1,H29.2.2.2.1,H29.2.2.2.2,hm.1,hm.2⟩
theorem amV (al:List Sp.fZ) (name:Sp.Bytes) (k n:Int) (s:Sp.Bytes):(Sp.kZ al name k n s).length≤al.length+1:=by
 have hf:=List.length_filter_le (Sp.rC name) al
 unfold Sp.kZ
 cases decide (k=0) with
 |true=>show (al.filter _).length≤_;omega
 |false=>
  show (Sp.Zn _ _).length≤_
  unfold Sp.Zn
  have:=congrArg List.length (List.takeWhile_append_dropWhile (p:=Sp.uh name) (l:=al.filter (Sp.rC name)))
  rw [List.length_append] at this
  rw [List.length_append,List.length_cons]
  show ((al.filter (Sp.rC name)).takeWhile (Sp.uh name)).length+(((al.filter (Sp.rC name)).dropWhile (Sp.uh name)).length+1)≤_
  omega
theorem aib:ai prog G vY.e:=by
 refine aic (ak ah ⟨NH,yw,PL,NC,yU,FP,dV,trivial⟩) (fun _ _=>⟨(((0,0,false,0,[],()),()),(([],0,0,()),())),⟨by decide,by decide⟩⟩) ?_
 intro b i h hin hp
 dsimp only [vY] at hp ⊢
 have hp:0≤i:=hp
 refine ⟨hp,?_⟩
 rintro ⟨⟨x0,⟨⟩⟩,⟨b0,i0,g0,⟨⟩⟩,⟨⟩⟩ ⟨p0,_⟩
 refine ⟨p0,?_⟩
 rintro ⟨⟨⟨d,o,s,l,a,⟨⟩⟩,⟨⟩⟩,⟨b1,i1,g1,⟨⟩⟩,⟨⟩⟩ ⟨p1,_,_,_,_,_,_,ha⟩
 have ha:a.length≤4:=ha
 refine ⟨p1,?_⟩
 rintro ⟨⟨x2,⟨⟩⟩,⟨b2,i2,g2,⟨⟩⟩,⟨⟩⟩ ⟨p2,_⟩
 refine af (fun _=>⟨⟨p2,by simp⟩,?_⟩) fun _=>af (fun _=>⟨⟨p2,by simp⟩,?_⟩) fun _=>af (fun _=>⟨⟨p2,by simp⟩,?_⟩) fun _=>af (fun _=>⟨p2,?_⟩) fun _=>af (fun _=>⟨trivial,(show a.length≤1000 by omega),?_⟩) fun _=>⟨p2,(show a.length≤10 by omega)⟩
 · rintro ⟨⟨x3,⟨⟩⟩,⟨b3,i3,g3,⟨⟩⟩,⟨⟩⟩ ⟨p3,_⟩
   exact ⟨p3,(show a.length≤10 by omega)⟩
 · rintro ⟨⟨x3,⟨⟩⟩,⟨b3,i3,g3,⟨⟩⟩,⟨⟩⟩ ⟨p3,_⟩
   exact ⟨p3,(show a.length≤10 by omega)⟩
 · rintro ⟨⟨x3,⟨⟩⟩,⟨b3,i3,g3,⟨⟩⟩,⟨⟩⟩ ⟨p3,_⟩
   exact ⟨p3,(show a.length≤10 by omega)⟩
 · rintro ⟨⟨x3,⟨⟩⟩,⟨b3,i3,g3,⟨⟩⟩,⟨⟩⟩ ⟨p3,_⟩
   refine ⟨p3,?_⟩
   rintro ⟨⟨⟨k,n,w,⟨⟩⟩,⟨⟩⟩,⟨b4,i4,g4,⟨⟩⟩,⟨⟩⟩ ⟨p4,_⟩
   refine ⟨(show a.length+1≤big by rw [bV];omega),p4,?_⟩
   show (a++[_]).length≤10
   rw [List.length_append,List.length_cons,List.length_nil];omega
 · rintro ⟨⟨⟨d',o',s',l',a',⟨⟩⟩,⟨⟩⟩,⟨⟩⟩ ⟨_,_,_,_,e5⟩
   refine ⟨p2,?_⟩
   have e5:a'=Sp.kZ a [97] 2 0 [114,101,100]:=e5
   show a'.length≤10
   rw [e5]
   have:=amV a [97] 2 0 [114,101,100]
   omega
theorem aqB:Sp.eY Sp.usual=true:=by kernel_rfl
theorem aqC:Sp.aJ (Sp.usual,[],1,())=true:=by kernel_rfl
theorem amW:Sp.bQ (Sp.usual,[],1,()):=⟨by decide,by decide,fun f hf=>by cases hf⟩
theorem ac0 {a:List Sp.fV} {l:List Sp.aZ} {nx:Int} {X:Sp.dG} (h1:a=X.1) (h2:l=X.2.1) (h3:nx=X.2.2.1):((a,l,nx,()):Sp.dG)=X:=by subst h1 h2 h3;rfl
theorem al4 (s:Sp.dG) (f:Sp.aZ):(Sp.bZ s f).1.1=s.1∧((Sp.bZ s f).1.2.1.length:Int)-(Sp.bZ s f).1.2.2.1=s.2.1.length-s.2.2.1:=by
 rcases Sp.pG s f with ⟨e,_⟩|⟨_,_,_,e⟩
 · rw [e];exact ⟨rfl,rfl⟩
 · rw [e]
   refine ⟨rfl,?_⟩
   show ((s.2.1++[(s.2.2.1,f.2)]).length:Int)-(s.2.2.1+1)=_
   rw [List.length_append,List.length_cons,List.length_nil];omega
theorem XG (s:Sp.dG) (id:Int):(Sp.fA s id).1.1=s.1∧(Sp.fA s id).1.2.2.1=s.2.2.1∧s.2.1.length≤(Sp.fA s id).1.2.1.length+1:=by
 rcases Sp.yg s id with ⟨e,_⟩|⟨n,hn,_,_,e⟩
 · rw [e];exact ⟨rfl,rfl,Nat.le_succ _⟩
 · rw [e]
   refine ⟨rfl,rfl,?_⟩
   show s.2.1.length≤(s.2.1.eraseIdx n).length+1
   rw [List.length_eraseIdx_of_lt hn];omega
structure uD (k:Int) (s:Sp.dG):Prop where
 sch:s.1=Sp.usual
 ok:Sp.aJ s=true
 nx:s.2.2.1≤s.2.1.length+k
 small:Sp.bQ s
theorem uD.create {k:Int} {s:Sp.dG} (h:uD k s) {f:Sp.aZ} (hf:Sp.pU f):uD k (Sp.bZ s f).1:=by
 obtain ⟨h1,h2⟩:=al4 s f
 exact ⟨h1.trans h.sch,Sp.aid f h.ok,by have:=h.nx;omega,Sp.akv h.small hf⟩
theorem uD.delete {k:Int} {s:Sp.dG} (h:uD k s) (id:Int):uD (k+1) (Sp.fA s id).1:=by
 obtain ⟨h1,h2,h3⟩:=XG s id
 exact ⟨h1.trans h.sch,Sp.aie id h.ok,by have:=h.nx;omega,Sp.akw id h.small⟩
theorem uD.more {k k':Int} {s:Sp.dG} (h:uD k s) (hk:k≤k'):uD k' s:=⟨h.sch,h.ok,by have:=h.nx;omega,h.small⟩
theorem uD.grows {s:Sp.dG} (h:uD 2 s) (hl:s.2.1.length<12) {f:Sp.aZ} (ho:0≤f.2.1∧f.2.1≤2) (hk:0≤f.2.2.2.1∧f.2.2.2.1≤6) (ha:Sp.jZ Sp.usual f.2.2.2.2.1=true):(Sp.bZ s f).1.2.1.length=s.2.1.length+1:=by
 have hnx:=(Sp.qK.1 h.ok).2.2.2
 have h2:=h.nx
 have hf:Sp.dO s.1 (s.2.2.1,f.2)=true:=by
  rw [h.sch]
  show (Sp.jZ Sp.usual f.2.2.2.2.1&&Sp.eY Sp.usual&&(decide (1≤s.2.2.1)&&decide (s.2.2.1≤60))&&(decide (0≤f.2.1)&&decide (f.2.1≤2))&&(decide (0≤f.2.2.2.1)&&decide (f.2.2.2.1≤60)))=true
  rw [ha,aqB,decide_eq_true hnx.1,decide_eq_true (by omega),decide_eq_true ho.1,decide_eq_true ho.2,decide_eq_true hk.1,decide_eq_true (by omega)]
  rfl
 rcases Sp.pG s f with ⟨_,e⟩|⟨_,_,_,e⟩
 · exact (e ⟨h.ok,hl,hf⟩).elim
 · rw [e]
   show (s.2.1++[_]).length=_
   rw [List.length_append];rfl
theorem Lm:Sp.aJ (Sp.usual,[(1,0,false,0,[],())],2,())=true∧Sp.bQ (Sp.usual,[(1,0,false,0,[],())],2,()):=⟨by kernel_rfl,by decide,by decide,fun f hf=>by rw [List.mem_singleton.1 hf];exact Nat.zero_le _⟩
theorem uD.one {s:Sp.dG} (h:uD 1 s) {f:Sp.aZ} (ho:0≤f.2.1∧f.2.1≤2) (hk:0≤f.2.2.2.1∧f.2.2.2.1≤6) (ha:Sp.jZ Sp.usual f.2.2.2.2.1=true):0<(Sp.bZ s f).1.2.1.length:=by
 by_cases hl:s.2.1.length<12
 · rw [(h.more (show (1:Int)≤2 by decide)).grows hl ho hk ha];omega
 · rcases Sp.pG s f with ⟨e,_⟩|⟨_,_,_,e⟩
   · rw [e];show 0<s.2.1.length;omega
   · rw [e];show 0<(s.2.1++[_]).length;rw [List.length_append,List.length_singleton];omega
theorem Eo:ai prog G kU.e:=by
 refine ac1 (ak ah ⟨XD,ru,Ii,FP,dV,acY,Le,trivial⟩) (fun _ _=>⟨(((Sp.usual,[(1,0,false,0,[],())],2,()),()),(([],0,0,()),())),⟨by decide,rfl,Lm.1,by decide,Lm.2,by decide⟩⟩) ?_
 intro b i h hin hp
 dsimp only [kU] at hp ⊢
 have hp:0≤i:=hp
 refine ⟨trivial,?_⟩
 rintro ⟨⟨u,⟨⟩⟩,⟨⟩⟩ hu
 have hu:u=Sp.usual:=hu
 subst hu
 refine ⟨(show Sp.usual.length≤1000 by decide),?_⟩
 rintro ⟨⟨⟨a,l,nx,⟨⟩⟩,⟨⟩⟩,⟨⟩⟩ ⟨e1,e2,e3⟩
 have e1:a=Sp.usual:=e1
 have e2:l=[]:=e2
 have e3:nx=1:=e3
 subst e1 e2 e3
 refine ⟨fun y=>0≤y.2.1.2.1∧(0≤y.1.1∧y.1.1≤7)∧uD 1 (y.2.2.2.1,y.2.2.2.2.1,y.2.2.1.2.2.1,())∧(0<y.1.1→0<y.2.2.2.2.1.length),fun y=>(8-y.1.1).toNat,⟨hp,⟨(show (0:Int)≤0 by decide),(show (0:Int)≤7 by decide)⟩,⟨rfl,aqC,(show (1:Int)≤((0:Nat):Int)+1 by decide),amW⟩,fun h=>absurd h (Int.lt_irrefl 0)⟩,?_⟩
 rintro ⟨⟨n,⟨⟩⟩,⟨b0,i0,g0,⟨⟩⟩,⟨⟨⟩,⟨⟩,nx,⟨⟩⟩,a,l,⟨⟩⟩ ⟨p0,⟨k0,k1⟩,D,hne⟩
 have p0:0≤i0:=p0
 have k0:0≤n:=k0
 have k1:n≤7:=k1
 have D:uD 1 (a,l,nx,()):=D
 have hne:0<n→0<l.length:=hne
 refine ⟨p0,?_⟩
 rintro ⟨⟨x1,⟨⟩⟩,⟨b1,i1,g1,⟨⟩⟩,⟨⟩⟩ ⟨p1,q0,q1,_⟩
 have q1:x1<7:=q1 (by decide)
 have q0:0≤x1:=q0
 have w:IntKind.i64.wrap (1+x1)=1+x1:=fC _ (by omega)
 dsimp only
 rw [w]
 refine af (fun hc=>⟨p1,?_⟩) fun hc=>af (fun h2=>⟨p1,?_⟩) fun h2=>?_
 · have hc:=fD hc
   have wn:IntKind.i64.wrap (n+1)=n+1:=fC _ (by omega)
   rw [wn]
   rintro ⟨⟨⟨d,o,s,lk,al,⟨⟩⟩,⟨⟩⟩,⟨b2,i2,g2,⟨⟩⟩,⟨⟩⟩ ⟨p2,_,o1,o2,k3,k4,hat,ha⟩
   have hf:Sp.pU (d,o,s,lk,al,()):=(show al.length≤1000 from Nat.le_trans ha (by decide))
   refine ⟨⟨D.small,hf⟩,?_⟩
   rintro ⟨⟨⟨a3,l3,nx3,⟨⟩⟩,id3,ok3,⟨⟩⟩,⟨⟩⟩ ⟨e1,e2,e3,_⟩
   have e:((a3,l3,nx3,()):Sp.dG)=(Sp.bZ (a,l,nx,()) (d,o,s,lk,al,())).1:=ac0 e1 e2 e3
   refine ⟨rfl,⟨p2,⟨(show 0≤n+1 by omega),(show n+1≤7 by omega)⟩,?_,fun _=>?_⟩,?_⟩
   · show uD 1 (a3,l3,nx3,())
     rw [e];exact D.create hf
   · have:=D.one (f:=(d,o,s,lk,al,())) ⟨o1,o2⟩ ⟨k3,k4⟩ hat
     rw [← e] at this;exact this
   · show (8-(n+1)).toNat<(8-n).toNat
     omega
 · rintro ⟨⟨x3,⟨⟩⟩,⟨b3,i3,g3,⟨⟩⟩,⟨⟩⟩ p3
   have h2:(l.length:Int)>2:=fD h2
   refine af (fun _=>⟨⟨by decide,(show (1:Int)<l.length by omega)⟩,(show 1<l.length by omega),D.small,?_⟩) fun _=>?_
   · rintro ⟨⟨⟨a3,l3,nx3,⟨⟩⟩,ok3,⟨⟩⟩,⟨⟩⟩ ⟨e1,e2,e3,_⟩
     have e:=ac0 e1 e2 e3
     have D':=D.delete (List.getD l (Int.toNat 1) (0,0,false,0,[],())).1
     have D':uD 2 (a3,l3,nx3,()):=by
      have e:((a3,l3,nx3,()):Sp.dG)=(Sp.fA (a,l,nx,()) (List.getD l (Int.toNat 1) (0,0,false,0,[],())).1).1:=e
      rw [e];exact D'
     refine ⟨p3,D'.sch,D'.ok,D'.nx,D'.small,?_⟩
     have:=(XG (a,l,nx,()) (List.getD l (Int.toNat 1) (0,0,false,0,[],())).1).2.2
     have e2:l3=(Sp.fA (a,l,nx,()) (List.getD l (Int.toNat 1) (0,0,false,0,[],())).1).1.2.1:=e2
     rw [← e2] at this
     have this:l.length≤l3.length+1:=this
     show 0<l3.length
     omega
   · have D':=D.more (show (1:Int)≤2 by decide)
     exact ⟨p3,D'.sch,D'.ok,D'.nx,D'.small,hne (by have:=fP hc;omega)⟩
 · have D':=D.more (show (1:Int)≤2 by decide)
   exact ⟨p1,D'.sch,D'.ok,D'.nx,D'.small,hne (by have:=fP hc;omega)⟩
theorem amX:ai prog G EX.e:=by
 refine amY (ak ah trivial) ?_
 intro b hin hp
 dsimp only [EX] at hp ⊢
 exact rfl
theorem zY:ai prog G jQ.e:=by
 refine PW (ak ah ⟨ug,trivial⟩) ?_
 intro s hin hp
 dsimp only [jQ] at hp ⊢
 have hlen:s.length≤maxLen:=hin.1
 rw [maxLen_eq] at hlen
 refine ⟨fun y=>∃ n:Nat,y.1.1=n∧n≤s.length∧Sp.lower (s.take n)=true,fun y=>((s.length:Int)-y.1.1).toNat,⟨0,rfl,by omega,rfl⟩,?_⟩
 rintro ⟨⟨_,⟨⟩⟩,⟨⟩⟩ ⟨n,rfl,hn,hJ⟩
 dsimp only
 refine af (fun h=>?_) fun h=>?_<;>simp only [decide_eq_true_eq,decide_eq_false_iff_not] at h
 · have hlt:n<s.length:=by omega
   rw [fC _ (by omega),Int.toNat_natCast]
   refine ⟨⟨by omega,by omega⟩,af (fun h2=>?_) fun h2=>⟨⟨by omega,by omega⟩,af (fun h3=>?_) fun h3=>?_⟩⟩<;>simp only [decide_eq_true_eq,decide_eq_false_iff_not] at*
   · unfold Sp.iy
     cases hl:Sp.lower s with
     |false=>rfl
     |true=>have:=JB hlt hl;omega
   · unfold Sp.iy
     cases hl:Sp.lower s with
     |false=>rfl
     |true=>have:=JB hlt hl;omega
   · refine ⟨trivial,⟨n+1,by simp,by omega,?_⟩,by omega⟩
     rw [Sp.take_succ' s n 0 hlt]
     unfold Sp.lower at hJ ⊢
     rw [List.all_append,hJ]
     simp only [List.all_cons,List.all_nil,Bool.and_true,Bool.true_and,Bool.and_eq_true,decide_eq_true_eq]
     omega
 · have hge:n=s.length:=by omega
   rw [hge,List.take_length] at hJ
   unfold Sp.iy
   rw [hJ]
   exact ⟨trivial,rfl⟩
theorem FQ:ai prog G nY.e:=by
 refine RQ (ak ah ⟨zY,ug,trivial⟩) ?_
 intro k n s hin hp
 dsimp only [nY] at hp ⊢
 refine af (fun h=>?_) fun h=>af (fun h2=>⟨trivial,af (fun h3=>?_) fun h3=>?_⟩) fun h2=>af (fun h3=>⟨trivial,af (fun h4=>?_) fun h4=>?_⟩) fun h3=>?_
 · have e:k=0:=by simpa using h
   subst e
   exact congrArg (·,()) (Bool.eq_iff_iff.2 (by simp [Sp.jv]))
 · have e:k=1:=by simpa using h2
   subst e
   exact congrArg (·,()) (Bool.eq_iff_iff.2 (by simp only [Bool.and_eq_true,decide_eq_true_eq] at h3;simp [Sp.jv,h3]))
 · have e:k=1:=by simpa using h2
   subst e
   exact congrArg (·,()) (Bool.eq_iff_iff.2 (by simp only [Sp.jv,h3];simp))
 · have e:k=2:=by simpa using h3
   subst e
   exact congrArg (·,()) (Bool.eq_iff_iff.2 (by simp [Sp.jv,h4]))
 · have e:k=2:=by simpa using h3
   subst e
   exact congrArg (·,()) (Bool.eq_iff_iff.2 (by simp [Sp.jv,h4]))
 · have e1:k≠0:=by simpa using h
   have e2:k≠1:=by simpa using h2
   have e3:k≠2:=by simpa using h3
   exact congrArg (·,()) (Bool.eq_iff_iff.2 (by simp [Sp.jv,e1,e2,e3]))
theorem Dp:ai prog G jY.e:=by
 refine MG (ak ah trivial) ?_
 intro s hin hp
 dsimp only [jY] at hp ⊢
 refine af (fun h=>?_) fun h=>?_
 · have h:(s.length:Int)=1:=fD h
   match s,h with
   |[c],_=>
    refine ⟨⟨by decide,(by show (0:Int)<1;decide)⟩,af (fun h2=>⟨⟨by decide,(by show (0:Int)<1;decide)⟩,?_⟩) fun h2=>?_⟩
    · have h2:(c.toNat:Int)≥97:=fD h2
      refine congrArg (·,()) (Bool.eq_iff_iff.2 ?_)
      simp only [Sp.jm,Sp.lower,List.all_cons,List.all_nil,Bool.and_true,Bool.and_eq_true,decide_eq_true_eq,List.length_cons,List.length_nil]
      constructor
      · intro h3
        have h3:(c.toNat:Int)≤122:=h3
        exact ⟨⟨⟨by omega,by omega⟩,by decide⟩,by decide⟩
      · rintro ⟨⟨⟨_,h4⟩,_⟩,_⟩
        show (c.toNat:Int)≤122
        omega
    · have h2:¬ (c.toNat:Int)≥97:=fP h2
      refine congrArg (·,()) (Bool.eq_iff_iff.2 ?_)
      simp only [Sp.jm,Sp.lower,List.all_cons,List.all_nil,Bool.and_true,Bool.and_eq_true,decide_eq_true_eq]
      constructor
      · intro h3;cases h3
      · rintro ⟨⟨⟨h4,_⟩,_⟩,_⟩;omega
 · have h:¬ (s.length:Int)=1:=fP h
   refine congrArg (·,()) (Bool.eq_iff_iff.2 ?_)
   simp only [Sp.jm,Bool.and_eq_true,decide_eq_true_eq]
   constructor
   · intro h3;cases h3
   · rintro ⟨⟨_,h4⟩,h5⟩;omega
theorem Z5:ai prog G xI.e:=by
 refine Z7 (ak ah trivial) ?_
 intro s name hin hp
 dsimp only [xI] at hp ⊢
 have hlen:s.length≤maxLen:=hin.1.1
 rw [maxLen_eq] at hlen
 refine iV s.length hlen (fun n=>∀ i,i<n→(s.getD i ([],0,())).1≠name) (fun i hi=>by omega) (fun I μ n hn hJ next=>?_) fun I μ hJ=>?_
 · dsimp only
   refine dB (by omega) ⟨⟨by omega,by omega⟩,af (fun h=>?_) fun h=>⟨rfl,next fun i hi=>?_⟩⟩
   · exact congrArg (·,()) (Sp.Xy s n hn hJ (by simpa only [Int.toNat_natCast,beq_iff_eq] using h)).symm
   · rcases Nat.lt_or_ge i n with h'|h'
     · exact hJ i h'
     · have:i=n:=by omega
       subst this
       have h2:((s.getD i ([],0,())).1==name)=false:=h
       exact fun e=>by rw [e] at h2;simp at h2
 · dsimp only
   exact dD (by omega) (congrArg (·,()) (Sp.Ot s hJ).symm)
theorem apQ {k:Int} (h:(k !=1)=false∨(k !=2)=false):(decide (1≤k)&&decide (k≤2))=true:=by
 have:k=1∨k=2:=h.imp (by simp) (by simp)
 rcases this with h|h<;>subst h<;>rfl
theorem arF {k:Int} (h1:(k !=1)=true) (h2:(k !=2)=true):(decide (1≤k)&&decide (k≤2))=false:=by
 have h1:k≠1:=by simpa using h1
 have h2:k≠2:=by simpa using h2
 rw [Bool.and_eq_false_iff]
 by_cases h:k<1
 · left;exact decide_eq_false (by omega)
 · right;exact decide_eq_false (by omega)
theorem EM:ai prog G lZ.e:=by
 refine PX (ak ah ⟨Dp,trivial⟩) ?_
 intro s hin hp
 dsimp only [lZ] at hp ⊢
 have hlen:s.length≤maxLen:=hin.1.1
 rw [maxLen_eq] at hlen
 refine iV s.length hlen (fun n=>∀ i,i<n→Sp.kF s i=true) (fun i hi=>by omega) (fun I μ n hn hJ next=>?_) fun I μ hJ=>?_
 · dsimp only
   have no:Sp.kF s n=false→(false,())=(Sp.eY s,()):=fun h=>by rw [Sp.abB hn h]
   have rest:Sp.jm (Sp.fieldAt s n).1=true→(decide (1≤(Sp.fieldAt s n).2.1)&&decide ((Sp.fieldAt s n).2.1≤2))=true→
    bif decide ((n:Int)>0) then
     ((0:Int)≤IntKind.i64.wrap ((n:Int)-1)∧IntKind.i64.wrap ((n:Int)-1)<(s.length:Int))∧
       bif !Op.bytesLess (s.getD (IntKind.i64.wrap ((n:Int)-1)).toNat ([],0,())).fst (s.getD (Int.toNat (n:Int)) ([],0,())).fst then (false,())=(Sp.eY s,())
       else True∧I ((IntKind.i64.wrap ((n:Int)+1),()),())∧μ ((IntKind.i64.wrap ((n:Int)+1),()),())<μ (((n:Int),()),())
    else True∧I ((IntKind.i64.wrap ((n:Int)+1),()),())∧μ ((IntKind.i64.wrap ((n:Int)+1),()),())<μ (((n:Int),()),()):=by
    intro h2 h3
    refine af (fun h4=>?_) fun h4=>⟨trivial,next (dX hJ ?_)⟩
    · have h4:0<n:=by have:=fD h4;omega
      rw [xC h4 (by omega)]
      refine ⟨⟨by omega,by omega⟩,af (fun h5=>no ?_) fun h5=>⟨trivial,next (dX hJ ?_)⟩⟩
      · have h5:Op.bytesLess (Sp.fieldAt s (n-1)).1 (Sp.fieldAt s n).1=false:=fQ h5
        unfold Sp.kF;rw [h2,h3,h5,decide_eq_true h4];rfl
      · have h5:Op.bytesLess (Sp.fieldAt s (n-1)).1 (Sp.fieldAt s n).1=true:=dH h5
        unfold Sp.kF;rw [h2,h3,h5,decide_eq_true h4];rfl
    · have h4:¬ 0<n:=by have:=fP h4;omega
      unfold Sp.kF;rw [h2,h3,decide_eq_false h4];rfl
   simp only [true_and] at rest
   refine dB (by omega) ⟨⟨by omega,by omega⟩,trivial,af (fun h2=>no ?_) fun h2=>af (fun h3=>af (fun h4=>no ?_) fun h4=>?_) fun h3=>?_⟩
   · have h2:Sp.jm (Sp.fieldAt s n).1=false:=fQ h2
     unfold Sp.kF;rw [h2];rfl
   · have h2:Sp.jm (Sp.fieldAt s n).1=true:=dH h2
     have h3:(decide (1≤(Sp.fieldAt s n).2.1)&&decide ((Sp.fieldAt s n).2.1≤2))=false:=arF h3 h4
     unfold Sp.kF;rw [h2,h3];rfl
   · have h2:Sp.jm (Sp.fieldAt s n).1=true:=dH h2
     have h3:(decide (1≤(Sp.fieldAt s n).2.1)&&decide ((Sp.fieldAt s n).2.1≤2))=true:=apQ (.inr h4)
     simp only [true_and]
     exact rest h2 h3
   · have h2:Sp.jm (Sp.fieldAt s n).1=true:=dH h2
     have h3:(decide (1≤(Sp.fieldAt s n).2.1)&&decide ((Sp.fieldAt s n).2.1≤2))=true:=apQ (.inl h3)
     simp only [true_and]
     exact rest h2 h3
 · dsimp only
   refine dD (by omega) (congrArg (·,()) ?_)
   unfold Sp.eY
   rw [oH hJ];rfl
theorem PY:ai prog G qP.e:=by
 refine PZ (ak ah ⟨Z5,FQ,trivial⟩) ?_
 intro fs s k n w hin hp
 dsimp only [qP] at hp ⊢
 refine ⟨trivial,af (fun h=>af (fun h2=>⟨trivial,?_⟩) fun h2=>?_) fun h=>?_⟩
 · exact congrArg (·,()) (Bool.eq_iff_iff.2 (by simp only [bne_iff_ne,ne_eq] at h2;simp [Sp.ja,h,h2]))
 · exact congrArg (·,()) (Bool.eq_iff_iff.2 (by simp at h2;simp [Sp.ja,h2]))
 · exact congrArg (·,()) (Bool.eq_iff_iff.2 (by simp [Sp.ja,h]))
theorem UQ:ai prog G uO.e:=by
 refine UR (ak ah ⟨EM,ah9,ug,PY,trivial⟩) ?_
 intro fs f0 f1 f2 f3 f4 hin hp
 dsimp only [uO] at hp ⊢
 have hlen:f4.length≤maxLen:=hin.2.1.2.2.2.2.1.1
 rw [maxLen_eq] at hlen
 refine iV f4.length hlen (fun n=>∀ i,i<n→Sp.jB fs f4 i=true) (fun i hi=>by omega) (fun I μ n hn hJ next=>?_) fun I μ hJ=>?_
 · dsimp only
   have no:Sp.jB fs f4 n=false→(false,())=(Sp.dO fs (f0,f1,f2,f3,f4,()),()):=fun h=>by rw [Sp.ajG (f:=(f0,f1,f2,f3,f4,())) hn h]
   refine dB (by omega) ⟨⟨by omega,by omega⟩,af (fun h4=>?_) fun h4=>⟨trivial,af (fun h2=>no ?_) fun h2=>⟨rfl,next (dX hJ ?_)⟩⟩⟩
   · have h4:0<n:=by have:=fD h4;omega
     rw [xC h4 (by omega)]
     refine ⟨⟨by omega,by omega⟩,af (fun h5=>no ?_) fun h5=>⟨trivial,af (fun h2=>no ?_) fun h2=>⟨rfl,next (dX hJ ?_)⟩⟩⟩
     · have h5:Op.bytesLess (Sp.bT f4 (n-1)).1 (Sp.bT f4 n).1=false:=fQ h5
       unfold Sp.jB;rw [h5,decide_eq_true h4];exact Bool.and_false _
     · have h2:Sp.ja fs (Sp.bT f4 n).1 (Sp.bT f4 n).2.1 (Sp.bT f4 n).2.2.1 (Sp.bT f4 n).2.2.2.1=false:=fQ h2
       unfold Sp.jB;rw [h2];rfl
     · have h2:Sp.ja fs (Sp.bT f4 n).1 (Sp.bT f4 n).2.1 (Sp.bT f4 n).2.2.1 (Sp.bT f4 n).2.2.2.1=true:=dH h2
       have h5:Op.bytesLess (Sp.bT f4 (n-1)).1 (Sp.bT f4 n).1=true:=dH h5
       unfold Sp.jB;rw [h2,h5,decide_eq_true h4];rfl
   · have h2:Sp.ja fs (Sp.bT f4 n).1 (Sp.bT f4 n).2.1 (Sp.bT f4 n).2.2.1 (Sp.bT f4 n).2.2.2.1=false:=fQ h2
     unfold Sp.jB;rw [h2];rfl
   · have h2:Sp.ja fs (Sp.bT f4 n).1 (Sp.bT f4 n).2.1 (Sp.bT f4 n).2.2.1 (Sp.bT f4 n).2.2.2.1=true:=dH h2
     have h4:¬ 0<n:=by have:=fP h4;omega
     unfold Sp.jB;rw [h2,decide_eq_false h4];rfl
 · dsimp only
   have ha:Sp.jZ fs f4=true:=oH hJ
   refine dD (by omega) ⟨trivial,af (fun h1=>⟨trivial,af (fun h2=>⟨trivial,af (fun h3=>⟨trivial,?_⟩) fun h3=>?_⟩) fun h2=>?_⟩) fun h1=>?_⟩
   all_goals refine congrArg (·,()) ?_
   · show Sp.eY fs=(Sp.jZ fs f4&&Sp.eY fs&&(decide (1≤f0)&&decide (f0≤60))&&(decide (0≤f1)&&decide (f1≤2))&&(decide (0≤f3)&&decide (f3≤60)))
     rw [ha,h1,h2,h3];cases Sp.eY fs<;>rfl
   · show false=(Sp.jZ fs f4&&Sp.eY fs&&(decide (1≤f0)&&decide (f0≤60))&&(decide (0≤f1)&&decide (f1≤2))&&(decide (0≤f3)&&decide (f3≤60)))
     rw [h3,Bool.and_false]
   · show false=(Sp.jZ fs f4&&Sp.eY fs&&(decide (1≤f0)&&decide (f0≤60))&&(decide (0≤f1)&&decide (f1≤2))&&(decide (0≤f3)&&decide (f3≤60)))
     rw [h2,Bool.and_false,Bool.false_and]
   · show false=(Sp.jZ fs f4&&Sp.eY fs&&(decide (1≤f0)&&decide (f0≤60))&&(decide (0≤f1)&&decide (f1≤2))&&(decide (0≤f3)&&decide (f3≤60)))
     rw [h1,Bool.and_false,Bool.false_and,Bool.false_and]
theorem RS:ai prog G sJ.e:=by
 refine RU (ak ah ⟨ug,EM,UQ,trivial⟩) ?_
 intro s0 s1 s2 hin hp
 dsimp only [sJ] at hp ⊢
 have hlen:s1.length≤maxLen:=hin.1.2.1.1
 rw [maxLen_eq] at hlen
 refine iV s1.length hlen (fun n=>∀ i,i<n→Sp.jU (s0,s1,s2,()) i=true) (fun i hi=>by omega) (fun I μ n hn hJ next=>?_) fun I μ hJ=>?_
 · dsimp only
   have no:Sp.jU (s0,s1,s2,()) n=false→(false,())=(Sp.aJ (s0,s1,s2,()),()):=fun h=>by rw [Sp.aff (s:=(s0,s1,s2,())) hn h]
   refine dB (by omega) ⟨⟨by omega,by omega⟩,trivial,af (fun h2=>no ?_) fun h2=>af (fun h3=>no ?_) fun h3=>af (fun h4=>?_) fun h4=>⟨rfl,next (dX hJ ?_)⟩⟩
   · have h2:Sp.dO s0 (Sp.fileAt s1 n)=false:=fQ h2
     show (Sp.dO s0 (Sp.fileAt s1 n)&&_&&_)=false
     rw [h2];rfl
   · have h2:Sp.dO s0 (Sp.fileAt s1 n)=true:=dH h2
     have h3:¬ (Sp.fileAt s1 n).1<s2:=by have h3:(Sp.fileAt s1 n).1≥s2:=fD h3;omega
     show (Sp.dO s0 (Sp.fileAt s1 n)&&decide ((Sp.fileAt s1 n).1<s2)&&_)=false
     rw [h2,decide_eq_false h3];rfl
   · have h2:Sp.dO s0 (Sp.fileAt s1 n)=true:=dH h2
     have h3:(Sp.fileAt s1 n).1<s2:=by have h3:¬ (Sp.fileAt s1 n).1≥s2:=fP h3;omega
     have h4:0<n:=by have:=fD h4;omega
     rw [xC h4 (by omega)]
     refine ⟨⟨by omega,by omega⟩,af (fun h5=>no ?_) fun h5=>⟨rfl,next (dX hJ ?_)⟩⟩
     · have h5:¬ (Sp.fileAt s1 (n-1)).1<(Sp.fileAt s1 n).1:=by have h5:(Sp.fileAt s1 (n-1)).1≥(Sp.fileAt s1 n).1:=fD h5;omega
       show (Sp.dO s0 (Sp.fileAt s1 n)&&decide ((Sp.fileAt s1 n).1<s2)&&!(decide (0<n)&&!decide ((Sp.fileAt s1 (n-1)).1<(Sp.fileAt s1 n).1)))=false
       rw [h2,decide_eq_true h3,decide_eq_true h4,decide_eq_false h5];rfl
     · have h5:(Sp.fileAt s1 (n-1)).1<(Sp.fileAt s1 n).1:=by have h5:¬ (Sp.fileAt s1 (n-1)).1≥(Sp.fileAt s1 n).1:=fP h5;omega
       show (Sp.dO s0 (Sp.fileAt s1 n)&&decide ((Sp.fileAt s1 n).1<s2)&&!(decide (0<n)&&!decide ((Sp.fileAt s1 (n-1)).1<(Sp.fileAt s1 n).1)))=true
       rw [h2,decide_eq_true h3,decide_eq_true h4,decide_eq_true h5];rfl
   · have h2:Sp.dO s0 (Sp.fileAt s1 n)=true:=dH h2
     have h3:(Sp.fileAt s1 n).1<s2:=by have h3:¬ (Sp.fileAt s1 n).1≥s2:=fP h3;omega
     have h4:¬ 0<n:=by have:=fP h4;omega
     show (Sp.dO s0 (Sp.fileAt s1 n)&&decide ((Sp.fileAt s1 n).1<s2)&&!(decide (0<n)&&!decide ((Sp.fileAt s1 (n-1)).1<(Sp.fileAt s1 n).1)))=true
     rw [h2,decide_eq_true h3,decide_eq_false h4];rfl
 · dsimp only
   have ha:Sp.jk s1.length (Sp.jU (s0,s1,s2,()))=true:=oH hJ
   refine dD (by omega) ⟨trivial,af (fun h1=>af (fun h2=>⟨trivial,?_⟩) fun h2=>?_) fun h1=>?_⟩
   · refine congrArg (·,()) ?_
     show _=(Sp.jk s1.length (Sp.jU (s0,s1,s2,()))&&Sp.eY s0&&decide ((s1.length:Int)≤12)&&(decide (1≤s2)&&decide (s2≤61)))
     rw [ha,h1,h2];rfl
   · refine congrArg (·,()) ?_
     show _=(Sp.jk s1.length (Sp.jU (s0,s1,s2,()))&&Sp.eY s0&&decide ((s1.length:Int)≤12)&&(decide (1≤s2)&&decide (s2≤61)))
     rw [ha,h1,h2];rfl
   · refine congrArg (·,()) ?_
     show _=(Sp.jk s1.length (Sp.jU (s0,s1,s2,()))&&Sp.eY s0&&decide ((s1.length:Int)≤12)&&(decide (1≤s2)&&decide (s2≤61)))
     rw [ha,h1];rfl
theorem al6 {α:Type} {l:List α} {lo:Nat} {news:List α} (h:lo+news.length≤l.length):(fG l lo news).length=l.length:=by
 unfold fG
 simp only [List.length_append,List.length_take,List.length_drop]
 omega
theorem ajI {α:Type} {l:List α} {lo k:Nat} {news:List α} (hk:k≤lo) (h:lo≤l.length):(fG l lo news).take k=l.take k:=by
 unfold fG
 rw [List.append_assoc,List.take_append_of_le_length (by rw [List.length_take];omega),List.take_take,Nat.min_eq_left hk]
theorem Z8:ai prog G oU.e:=by
 refine Z9 (ak ah ⟨acU,trivial⟩) (fun ⟨l,_⟩ _=>⟨((l,()),()),rfl⟩) ?_
 intro l hin hp
 dsimp only [oU] at hp ⊢
 obtain ⟨h1,h2⟩:l.length≤1000∧∀ f∈l,Sp.pU f:=hp
 refine dR (fun i (x:List Sp.aZ)=>(((),i,()),x,())) (fun y=>y.1.2.1) (fun _ _=>rfl) l.length (by omega) (fun n x=>x=l.take n) (by simp) (fun I μ n x hn hJ next=>?_) fun I μ x hJ=>?_
 · subst hJ
   have hl:(l.take n).length≤n:=by rw [List.length_take];omega
   dsimp only
   refine dB (by omega) ⟨⟨by omega,by omega⟩,h2 _ (getD_mem (d:=((0:Int),(0:Int),false,(0:Int),[],())) hn),by rw [bV];simp only [List.length_cons,List.length_nil];omega,rfl,next _ ?_⟩
   exact (Sp.take_succ' l n (0,0,false,0,[],()) hn).symm
 · subst hJ
   dsimp only
   refine dD (by omega) ?_
   show List.take l.length l=l
   rw [List.take_length]
theorem Dv:ai prog G jR.e:=by
 refine aac (ak ah ⟨Z8,IJ,trivial⟩) (fun ⟨(a,l,nx,_),_⟩ _=>⟨(((a,l,nx,()),()),()),rfl⟩) ?_
 intro s0 s1 s2 hin hp
 dsimp only [jR] at hp ⊢
 obtain ⟨h0,h1,h2⟩:s0.length≤1000∧s1.length≤1000∧∀ f∈s1,Sp.pU f:=hp
 refine ⟨h0,⟨h1,h2⟩,?_⟩
 rintro ⟨⟨x,⟨⟩⟩,⟨⟩⟩ e
 have e:x=s1:=e
 subst e
 exact rfl
end Go.Proofs.Tryz
