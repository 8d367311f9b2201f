import Derived.Test.YtlbkigkbmeckbaaGreatV1
import Derived.Test.YtlbkigkbmeckbaaGreatSp
namespace Go.Proofs.Tryz
open Go Go.Fw Go.IntWalk
theorem atq (x y:Int) (m:Nat) (hm:m<9223372036854775807) (hy:(BitVec.ofInt 64 y).toNat=m):0≤bitsOf .and .i64 x y∧bitsOf .and .i64 x y≤m:=by
 have h:(BitVec.ofInt 64 x&&&BitVec.ofInt 64 y).toNat≤m:=by
  rw [BitVec.toNat_and,hy]
  exact Nat.and_le_right
 show 0≤IntKind.i64.wrap ((BitVec.ofInt 64 x&&&BitVec.ofInt 64 y).toNat:Int)∧IntKind.i64.wrap ((BitVec.ofInt 64 x&&&BitVec.ofInt 64 y).toNat:Int)≤m
 generalize (BitVec.ofInt 64 x&&&BitVec.ofInt 64 y).toNat=z at h ⊢
 rw [gu _ (by omega)]
 omega
theorem atr (x:Int):0≤bitsOf .and .i64 x 255∧bitsOf .and .i64 x 255≤255:=atq x 255 255 (by omega) (by decide)
theorem Tj:ai prog G uh.e:=by
 refine alk (aj ah trivial) (fun ⟨_,⟨⟩⟩ _=>⟨([],0,0,()),rfl⟩) ?_
 intro code hin hp
 dsimp only [uh] at hp ⊢
 have hp:code.length≤1048576:=hp
 refine ⟨fun y=>∃ n:Nat,y.1.2.1=n∧n≤code.length,fun y=>((code.length:Int)-y.1.2.1).toNat,⟨0,rfl,by omega⟩,?_⟩
 rintro ⟨⟨h,_,⟨⟩⟩,⟨⟩⟩ ⟨n,rfl,hn⟩
 dsimp only
 refine af (fun hc=>?_) fun hc=>?_
 · simp only [decide_eq_true_eq] at hc
   cases decide ((n:Int)<4000) with
   |false=>exact rfl
   |true=>
    have e:IntKind.i64.wrap ((n:Int)+1)=((n+1:Nat):Int):=gu _ (by omega)
    refine ⟨?_,?_,?_,?_⟩
    · exact ⟨by omega,hc⟩
    · exact rfl
    · exact ⟨n+1,e,by omega⟩
    show ((code.length:Int)-IntKind.i64.wrap ((n:Int)+1)).toNat<((code.length:Int)-n).toNat
    rw [e]
    omega
 · exact rfl
theorem ah9:ai prog G uZ.e:=by
 refine aia (aj ah trivial) (fun _ _=>⟨(((0:Int),()),(([],0,0,()),())),⟨by decide,by decide,by decide⟩⟩) ?_
 intro b i h hin hp
 dsimp only [uZ] at hp ⊢
 have hp:0≤i:=hp
 refine ⟨by decide,by decide,af (fun hc=>?_) fun hc=>?_⟩<;>simp only [decide_eq_true_eq,decide_eq_false_iff_not] at hc
 · have hl:b.length≤maxLen:=hin.1.1.1
   rw [maxLen_eq] at hl
   refine ⟨⟨hp,hc⟩,?_,atr _⟩
   show 0≤IntKind.i64.wrap (i+1)
   rw [gu _ (by omega)]
   omega
 · exact ⟨hp,atr _⟩
theorem tmod_lt {a n:Int} (ha:0≤a) (hn:0<n):0≤a.tmod n∧a.tmod n<n:=⟨Int.tmod_nonneg n ha,Int.tmod_lt_of_pos a hn⟩
theorem dY:ai prog G dn.e:=by
 refine afv (aj ah ⟨ah9,trivial⟩) (fun ⟨_,n,⟨⟩⟩ _=>⟨(((0:Int),()),(([],0,0,()),())),⟨Int.le_refl _,Int.le_refl _,fun h=>h,fun _=>rfl⟩⟩) ?_
 intro b i h n hin hp
 dsimp only [dn] at hp ⊢
 have hp:0≤i:=hp
 refine af (fun hc=>?_) fun hc=>?_<;>simp only [decide_eq_true_eq,decide_eq_false_iff_not] at hc
 · exact ⟨hp,Int.le_refl _,fun h=>(by omega),fun _=>rfl⟩
 · refine af (fun hc2=>?_) fun hc2=>?_
   · refine ⟨hp,?_⟩
     rintro ⟨⟨x,⟨⟩⟩,⟨b',i',h',⟨⟩⟩,⟨⟩⟩ ⟨h1,h2,h3⟩
     dsimp only at h1 h2 h3 ⊢
     have:=tmod_lt h2 (show 0<n by omega)
     exact ⟨by omega,h1,this.1,fun _=>this.2,fun h=>(by omega)⟩
   · refine ⟨hp,?_⟩
     rintro ⟨⟨x1,⟨⟩⟩,⟨b1,i1,g1,⟨⟩⟩,⟨⟩⟩ ⟨h1,h2,h3⟩
     refine ⟨h1,?_⟩
     rintro ⟨⟨x2,⟨⟩⟩,⟨b2,i2,g2,⟨⟩⟩,⟨⟩⟩ ⟨k1,k2,k3⟩
     refine ⟨k1,?_⟩
     rintro ⟨⟨x3,⟨⟩⟩,⟨b3,i3,g3,⟨⟩⟩,⟨⟩⟩ ⟨l1,l2,l3⟩
     refine ⟨l1,?_⟩
     rintro ⟨⟨x4,⟨⟩⟩,⟨b4,i4,g4,⟨⟩⟩,⟨⟩⟩ ⟨m1,m2,m3⟩
     dsimp only at*
     rw [gu (x1*16777216) (by omega),gu (x2*65536) (by omega),gu (x3*256) (by omega),gu (x1*16777216+x2*65536) (by omega),gu (x1*16777216+x2*65536+x3*256) (by omega),gu (x1*16777216+x2*65536+x3*256+x4) (by omega)]
     have:=tmod_lt (a:=x1*16777216+x2*65536+x3*256+x4) (n:=n) (by omega) (by omega)
     exact ⟨by omega,m1,this.1,fun _=>this.2,fun h=>(by omega)⟩
theorem AB:ai prog G jZ.e:=by
 refine aib (aj ah ⟨dY,trivial⟩) (fun _ _=>⟨((false,()),(([],0,0,()),())),Int.le_refl _⟩) ?_
 intro b i h n hin hp
 dsimp only [jZ] at hp ⊢
 refine ⟨hp,?_⟩
 rintro ⟨⟨x,⟨⟩⟩,⟨b',i',h',⟨⟩⟩,⟨⟩⟩ ⟨h1,_⟩
 exact h1
theorem jK:ai prog G gI.e:=by
 refine aic (aj ah ⟨dY,trivial⟩) (fun ⟨_,l,⟨⟩⟩ ⟨_,hl⟩=>(match l,hl with|x::_,_=>⟨((x.1,()),(([],0,0,()),())),⟨Int.le_refl _,List.mem_cons_self⟩⟩)) ?_
 intro b i h l hin hp
 dsimp only [gI] at hp ⊢
 obtain ⟨hp,hl⟩:=hp
 have hpos:0<l.length:=List.length_pos_iff.2 hl
 refine ⟨hp,?_⟩
 rintro ⟨⟨x,⟨⟩⟩,⟨b',i',h',⟨⟩⟩,⟨⟩⟩ ⟨h1,h2,h3,_⟩
 have h3:x<(l.length:Int):=h3 (by omega)
 refine ⟨⟨h2,h3⟩,h1,?_⟩
 exact getD_mem (by dsimp only at h2;omega)
theorem sF:ai prog G iL.e:=by
 refine Z7 (aj ah ⟨dY,trivial⟩) (fun ⟨_,l,⟨⟩⟩ ⟨_,hl⟩=>(match l,hl with|x::_,_=>⟨((x.1,()),(([],0,0,()),())),⟨Int.le_refl _,List.mem_cons_self⟩⟩)) ?_
 intro b i h l hin hp
 dsimp only [iL] at hp ⊢
 obtain ⟨hp,hl⟩:=hp
 have hpos:0<l.length:=List.length_pos_iff.2 hl
 refine ⟨hp,?_⟩
 rintro ⟨⟨x,⟨⟩⟩,⟨b',i',h',⟨⟩⟩,⟨⟩⟩ ⟨h1,h2,h3,_⟩
 have h3:x<(l.length:Int):=h3 (by omega)
 refine ⟨⟨h2,h3⟩,h1,?_⟩
 exact getD_mem (by dsimp only at h2;omega)
theorem Oe:ai prog G pq.e:=by
 refine afw (aj ah trivial) (fun _ _=>⟨((Sp.usual,()),()),rfl⟩) ?_
 intro hin hp
 dsimp only [pq] at hp ⊢
 exact rfl
theorem PY:ai prog G rq.e:=by
 refine aid (aj ah ⟨jK,trivial⟩) (fun _ _=>⟨(([],()),(([],0,0,()),())),⟨by decide,by decide⟩⟩) ?_
 intro b i h hin hp
 dsimp only [rq] at hp ⊢
 refine ⟨⟨hp,by simp⟩,?_⟩
 rintro ⟨⟨x,⟨⟩⟩,⟨b',i',h',⟨⟩⟩,⟨⟩⟩ ⟨h1,h2⟩
 refine ⟨h1,?_⟩
 exact (show ∀ y∈_,List.length y.1≤1 from by decide) _ h2
theorem Z8:Sp.usual.length=4:=rfl
theorem alm:ai prog G xM.e:=by
 refine aln (aj ah ⟨jK,PY,dY,Oe,trivial⟩) (fun _ _=>⟨(([],()),(([],0,0,()),())),⟨by decide,by decide⟩⟩) ?_
 intro b i h hin hp
 dsimp only [xM] at hp ⊢
 have hp:0≤i:=hp
 refine ⟨trivial,?_⟩
 rintro ⟨⟨_,⟨⟩⟩,⟨⟩⟩ rfl
 dsimp only
 repeat' first
  |exact trivial
  |refine af (fun _=>?_) fun _=>?_
  |refine And.intro ?_ ?_
  |(intro r hr;simp only [] at hr)
  |intro r hr
 all_goals first
  |omega
  |(dsimp only at*;omega)
  |exact hr
  |(simp only [beq_eq_false_iff_ne,ne_eq] at*;omega)
  |(simp only [List.length_set,List.length_take,List.length_append,List.length_cons,List.length_nil,Z8];omega)
  |(rw [bU];simp only [List.length_set,List.length_take,List.length_append,List.length_cons,List.length_nil,Z8];omega)
  |(simp only [List.length_set,List.length_take,List.length_append,List.length_cons,List.length_nil,Z8] at*;omega)
  |exact (show ∀ y∈_,List.length y.1≤10 from by decide) _ hr.2
  |(simp;done)
  |skip
theorem GN:ai prog G sO.e:=by
 refine afx (aj ah trivial) ?_
 intro n hin hp
 dsimp only [sO] at hp ⊢
 exact rfl
theorem uT:ai prog G jH.e:=by
 refine Xy (aj ah trivial) ?_
 intro n hin hp
 dsimp only [jH] at hp ⊢
 exact rfl
theorem afy:ai prog G sN.e:=by
 refine afz (aj ah ⟨uT,jK,GN,dY,trivial⟩) (fun _ _=>⟨((((0:Int),(0:Int),([]:List UInt8),()),()),(([],0,0,()),())),⟨by decide,by decide⟩⟩) ?_
 intro b i h hin hp
 dsimp only [sN] at hp ⊢
 have hp:0≤i:=hp
 repeat' first
  |exact trivial
  |refine af (fun _=>?_) fun _=>?_
  |refine And.intro ?_ ?_
  |(intro r hr;simp only [] at hr)
  |intro r hr
 all_goals first
  |omega
  |(dsimp only at*;omega)
  |exact hr
  |(simp only [beq_eq_false_iff_ne,ne_eq] at*;omega)
  |(simp only [List.length_set,List.length_take,List.length_append,List.length_cons,List.length_nil];omega)
  |(rw [bU];simp only [List.length_set,List.length_take,List.length_append,List.length_cons,List.length_nil];omega)
  |(simp only [List.length_set,List.length_take,List.length_append,List.length_cons,List.length_nil] at*;omega)
  |exact (show ∀ y∈_,List.length y.1≤10 from by decide) _ hr.2
  |(simp;done)
  |skip
theorem Tm:ai prog G uj.e:=by
 refine alo (aj ah ⟨jK,sF,dY,afy,trivial⟩) (fun _ _=>⟨((((0:Int),(0:Int),([]:List UInt8),()),()),(([],0,0,()),())),⟨by decide,by decide⟩⟩) ?_
 intro b i h hin hp
 dsimp only [uj] at hp ⊢
 have hp:0≤i:=hp
 repeat' first
  |exact trivial
  |refine af (fun _=>?_) fun _=>?_
  |refine And.intro ?_ ?_
  |(intro r hr;simp only [] at hr)
  |intro r hr
 all_goals first
  |omega
  |(dsimp only at*;omega)
  |exact hr
  |(simp only [beq_eq_false_iff_ne,ne_eq] at*;omega)
  |(simp only [List.length_set,List.length_take,List.length_append,List.length_cons,List.length_nil];omega)
  |(rw [bU];simp only [List.length_set,List.length_take,List.length_append,List.length_cons,List.length_nil];omega)
  |(simp only [List.length_set,List.length_take,List.length_append,List.length_cons,List.length_nil] at*;omega)
  |exact (show ∀ y∈_,List.length y.1≤10 from by decide) _ hr.2
  |(simp;done)
  |skip
theorem jX:ai prog G jc.e:=by
 refine anW (aj ah trivial) ?_
 intro x a b hin hp
 dsimp only [jc] at hp ⊢
 refine af (fun h=>?_) fun h=>?_
 · have h:=gG h
   show (decide (x≤b),())=(decide (a≤x)&&decide (x≤b),())
   rw [decide_eq_true (show a≤x from h)];rfl
 · have h:=iw h
   show (false,())=(decide (a≤x)&&decide (x≤b),())
   rw [decide_eq_false (show ¬ a≤x from h)];rfl
theorem vS:ai prog G lD.e:=by
 refine alp (aj ah trivial) ?_
 intro x a b hin hp
 dsimp only [lD] at hp ⊢
 refine af (fun h=>?_) fun h=>?_
 · show (decide (x≤b),())=(decide (a≤x)&&decide (x≤b),())
   rw [h];rfl
 · show (false,())=(decide (a≤x)&&decide (x≤b),())
   rw [h];rfl
theorem MS {s:List UInt8} {n:Nat} (hlt:n<s.length) (hl:Sp.lower s=true):97≤(s.getD n 0).toNat∧(s.getD n 0).toNat≤122:=by
 have:=List.all_eq_true.1 hl _ (getD_mem (d:=0) hlt)
 simpa using this
theorem PZ:ai prog G yY.e:=by
 refine aie (aj ah ⟨jX,trivial⟩) ?_
 intro s most hin hp
 dsimp only [yY] at hp ⊢
 have hlen:s.length≤maxLen:=hin.1
 rw [maxLen_eq] at hlen
 refine ⟨fun y=>∃ n:Nat,y.1.1=n∧n≤s.length∧Sp.lower (s.take n)=true,fun y=>((s.length:Int)-y.1.1).toNat,⟨0,rfl,by omega,rfl⟩,?_⟩
 rintro ⟨⟨_,⟨⟩⟩,⟨⟩⟩ ⟨n,rfl,hn,hJ⟩
 dsimp only
 refine af (fun h=>?_) fun h=>?_<;>simp only [decide_eq_true_eq,decide_eq_false_iff_not] at h
 · have hlt:n<s.length:=by omega
   rw [gu _ (by omega),Int.toNat_natCast]
   refine ⟨⟨by omega,by omega⟩,af (fun h2=>?_) fun h2=>⟨⟨by omega,by omega⟩,af (fun h3=>?_) fun h3=>?_⟩⟩<;>simp only [decide_eq_true_eq,decide_eq_false_iff_not] at*
   · cases hl:Sp.lower s with
     |false=>rfl
     |true=>have:=MS hlt hl;omega
   · cases hl:Sp.lower s with
     |false=>rfl
     |true=>have:=MS hlt hl;omega
   · refine ⟨trivial,⟨n+1,by simp,by omega,?_⟩,by omega⟩
     rw [Sp.take_succ' s n 0 hlt]
     unfold Sp.lower at hJ ⊢
     rw [List.all_append,hJ]
     simp only [List.all_cons,List.all_nil,Bool.and_true,Bool.true_and,Bool.and_eq_true,decide_eq_true_eq]
     omega
 · have hge:n=s.length:=by omega
   rw [hge,List.take_length] at hJ
   rw [hJ]
   exact ⟨trivial,rfl⟩
theorem CV:ai prog G kX.e:=by
 refine Tn (aj ah ⟨PZ,trivial⟩) ?_
 intro s hin hp
 dsimp only [kX] at hp ⊢
 exact ⟨trivial,rfl⟩
theorem II:ai prog G qc.e:=by
 refine U3 (aj ah ⟨CV,jX,trivial⟩) ?_
 intro k n s hin hp
 dsimp only [qc] at hp ⊢
 refine af (fun h=>?_) fun h=>af (fun h2=>⟨trivial,af (fun h3=>?_) fun h3=>?_⟩) fun h2=>af (fun h3=>⟨trivial,af (fun h4=>?_) fun h4=>?_⟩) fun h3=>?_
 · have e:k=0:=by simpa using h
   subst e
   exact congrArg (·,()) (Bool.eq_iff_iff.2 (by simp [Sp.ku]))
 · have e:k=1:=by simpa using h2
   subst e
   exact congrArg (·,()) (Bool.eq_iff_iff.2 (by simp only [Bool.and_eq_true,decide_eq_true_eq] at h3;simp [Sp.ku,h3]))
 · have e:k=1:=by simpa using h2
   subst e
   exact congrArg (·,()) (Bool.eq_iff_iff.2 (by simp only [Sp.ku,h3];simp))
 · have e:k=2:=by simpa using h3
   subst e
   exact congrArg (·,()) (Bool.eq_iff_iff.2 (by simp [Sp.ku,h4]))
 · have e:k=2:=by simpa using h3
   subst e
   exact congrArg (·,()) (Bool.eq_iff_iff.2 (by simp [Sp.ku,h4]))
 · have e1:k≠0:=by simpa using h
   have e2:k≠1:=by simpa using h2
   have e3:k≠2:=by simpa using h3
   exact congrArg (·,()) (Bool.eq_iff_iff.2 (by simp [Sp.ku,e1,e2,e3]))
theorem FD:ai prog G lF.e:=by
 refine O4 (aj ah ⟨PZ,trivial⟩) ?_
 intro s hin hp
 dsimp only [lF] at hp ⊢
 exact ⟨trivial,rfl⟩
theorem acQ:ai prog G zy.e:=by
 refine acR (aj ah trivial) ?_
 intro s name hin hp
 dsimp only [zy] at hp ⊢
 have hlen:s.length≤maxLen:=hin.1.1
 rw [maxLen_eq] at hlen
 refine jd s.length hlen (fun n=>∀ i,i<n→(s.getD i ([],0,())).1≠name) (fun i hi=>by omega) (fun I μ n hn hJ next=>?_) fun I μ hJ=>?_
 · dsimp only
   refine dh (by omega) ⟨⟨by omega,by omega⟩,af (fun h=>⟨⟨by omega,by omega⟩,?_⟩) fun h=>⟨rfl,next fun i hi=>?_⟩⟩
   · exact congrArg (·,()) (Sp.Z9 s n hn hJ (by simpa only [Int.toNat_natCast,beq_iff_eq] using h)).symm
   · rcases Nat.lt_or_ge i n with h'|h'
     · exact hJ i h'
     · have:i=n:=by omega
       subst this
       have h2:((s.getD i ([],0,())).1==name)=false:=h
       exact fun e=>by rw [e] at h2;simp at h2
 · dsimp only
   exact dm (by omega) (congrArg (·,()) (Sp.QF s hJ).symm)
theorem Hu:ai prog G nZ.e:=by
 refine Tq (aj ah ⟨jX,FD,trivial⟩) ?_
 intro s hin hp
 dsimp only [nZ] at hp ⊢
 have hlen:s.length≤maxLen:=hin.1.1
 rw [maxLen_eq] at hlen
 refine jd s.length hlen (fun n=>∀ i,i<n→Sp.lW s i=true) (fun i hi=>by omega) (fun I μ n hn hJ next=>?_) fun I μ hJ=>?_
 · dsimp only
   have no:Sp.lW s n=false→(false,())=(Sp.fM s,()):=fun h=>by rw [Sp.aer hn h]
   refine dh (by omega) ⟨⟨by omega,by omega⟩,trivial,af (fun h2=>no ?_) fun h2=>⟨⟨by omega,by omega⟩,trivial,af (fun h3=>no ?_) fun h3=>af (fun h4=>?_) fun h4=>⟨rfl,next (eY hJ ?_)⟩⟩⟩
   · have h2:Sp.jT (Sp.fieldAt s n).1=false:=fO h2
     unfold Sp.lW;rw [h2];rfl
   · have h2:Sp.jT (Sp.fieldAt s n).1=true:=dI h2
     have h3:(decide (1≤(Sp.fieldAt s n).2.1)&&decide ((Sp.fieldAt s n).2.1≤2))=false:=fO h3
     unfold Sp.lW;rw [h2,h3];rfl
   · have h2:Sp.jT (Sp.fieldAt s n).1=true:=dI h2
     have h3:(decide (1≤(Sp.fieldAt s n).2.1)&&decide ((Sp.fieldAt s n).2.1≤2))=true:=dI h3
     have h4:0<n:=by have:=gG h4;omega
     rw [zo h4 (by omega)]
     refine ⟨⟨by omega,by omega⟩,⟨by omega,by omega⟩,af (fun h5=>no ?_) fun h5=>⟨rfl,next (eY hJ ?_)⟩⟩
     · have h5:Op.bytesLess (Sp.fieldAt s (n-1)).1 (Sp.fieldAt s n).1=false:=fO h5
       unfold Sp.lW;rw [h2,h3,h5,decide_eq_true h4];rfl
     · have h5:Op.bytesLess (Sp.fieldAt s (n-1)).1 (Sp.fieldAt s n).1=true:=dI h5
       unfold Sp.lW;rw [h2,h3,h5,decide_eq_true h4];rfl
   · have h2:Sp.jT (Sp.fieldAt s n).1=true:=dI h2
     have h3:(decide (1≤(Sp.fieldAt s n).2.1)&&decide ((Sp.fieldAt s n).2.1≤2))=true:=dI h3
     have h4:¬ 0<n:=by have:=iw h4;omega
     unfold Sp.lW;rw [h2,h3,decide_eq_false h4];rfl
 · dsimp only
   refine dm (by omega) (congrArg (·,()) ?_)
   unfold Sp.fM
   rw [qw hJ];rfl
theorem Tt:ai prog G sQ.e:=by
 refine Tv (aj ah ⟨acQ,II,trivial⟩) ?_
 intro fs s k n w hin hp
 dsimp only [sQ] at hp ⊢
 refine ⟨trivial,af (fun h=>af (fun h2=>⟨trivial,?_⟩) fun h2=>?_) fun h=>?_⟩
 · exact congrArg (·,()) (Bool.eq_iff_iff.2 (by simp only [bne_iff_ne,ne_eq] at h2;simp [Sp.jD,h,h2]))
 · exact congrArg (·,()) (Bool.eq_iff_iff.2 (by simp at h2;simp [Sp.jD,h2]))
 · exact congrArg (·,()) (Bool.eq_iff_iff.2 (by simp [Sp.jD,h]))
theorem EC:ai prog G ni.e:=by
 refine Xz (aj ah ⟨jX,Hu,Tt,trivial⟩) ?_
 intro fs f0 f1 f2 f3 f4 hin hp
 dsimp only [ni] at hp ⊢
 have hlen:f4.length≤maxLen:=hin.2.1.2.2.2.2.1.1
 rw [maxLen_eq] at hlen
 refine jd f4.length hlen (fun n=>∀ i,i<n→Sp.kL fs f4 i=true) (fun i hi=>by omega) (fun I μ n hn hJ next=>?_) fun I μ hJ=>?_
 · dsimp only
   have no:Sp.kL fs f4 n=false→(false,())=(Sp.cO fs (f0,f1,f2,f3,f4,()),()):=fun h=>by rw [Sp.am7 (f:=(f0,f1,f2,f3,f4,())) hn h]
   refine dh (by omega) ⟨⟨by omega,by omega⟩,⟨by omega,by omega⟩,trivial,af (fun h2=>no ?_) fun h2=>af (fun h4=>?_) fun h4=>⟨rfl,next (eY hJ ?_)⟩⟩
   · have h2:Sp.jD fs (Sp.bT f4 n).1 (Sp.bT f4 n).2.1 (Sp.bT f4 n).2.2.1 (Sp.bT f4 n).2.2.2.1=false:=fO h2
     unfold Sp.kL;rw [h2];rfl
   · have h2:Sp.jD fs (Sp.bT f4 n).1 (Sp.bT f4 n).2.1 (Sp.bT f4 n).2.2.1 (Sp.bT f4 n).2.2.2.1=true:=dI h2
     have h4:0<n:=by have:=gG h4;omega
     rw [zo h4 (by omega)]
     refine ⟨⟨by omega,by omega⟩,⟨by omega,by omega⟩,af (fun h5=>no ?_) fun h5=>⟨rfl,next (eY hJ ?_)⟩⟩
     · have h5:Op.bytesLess (Sp.bT f4 (n-1)).1 (Sp.bT f4 n).1=false:=fO h5
       unfold Sp.kL;rw [h2,h5,decide_eq_true h4];rfl
     · have h5:Op.bytesLess (Sp.bT f4 (n-1)).1 (Sp.bT f4 n).1=true:=dI h5
       unfold Sp.kL;rw [h2,h5,decide_eq_true h4];rfl
   · have h2:Sp.jD fs (Sp.bT f4 n).1 (Sp.bT f4 n).2.1 (Sp.bT f4 n).2.2.1 (Sp.bT f4 n).2.2.2.1=true:=dI h2
     have h4:¬ 0<n:=by have:=iw h4;omega
     unfold Sp.kL;rw [h2,decide_eq_false h4];rfl
 · dsimp only
   have ha:Sp.lH fs f4=true:=qw hJ
   refine dm (by omega) ⟨trivial,af (fun h1=>⟨trivial,af (fun h2=>⟨trivial,af (fun h3=>⟨trivial,?_⟩) fun h3=>?_⟩) fun h2=>?_⟩) fun h1=>?_⟩
   · refine congrArg (·,()) ?_
     unfold Sp.cO
     rw [ha,h1,h2,h3];rfl
   · refine congrArg (·,()) ?_
     unfold Sp.cO
     rw [ha,h1,h2,h3];rfl
   · refine congrArg (·,()) ?_
     unfold Sp.cO
     rw [ha,h1,h2];rfl
   · refine congrArg (·,()) ?_
     unfold Sp.cO
     rw [ha,h1];rfl
theorem tX:ai prog G jA.e:=by
 refine U4 (aj ah ⟨jX,Hu,EC,trivial⟩) ?_
 intro s0 s1 s2 hin hp
 dsimp only [jA] at hp ⊢
 have hlen:s1.length≤maxLen:=hin.1.2.1.1
 rw [maxLen_eq] at hlen
 refine jd s1.length hlen (fun n=>∀ i,i<n→Sp.lC (s0,s1,s2,()) i=true) (fun i hi=>by omega) (fun I μ n hn hJ next=>?_) fun I μ hJ=>?_
 · dsimp only
   have no:Sp.lC (s0,s1,s2,()) n=false→(false,())=(Sp.aH (s0,s1,s2,()),()):=fun h=>by rw [Sp.aif (s:=(s0,s1,s2,())) hn h]
   refine dh (by omega) ⟨⟨by omega,by omega⟩,trivial,af (fun h2=>no ?_) fun h2=>⟨⟨by omega,by omega⟩,af (fun h3=>no ?_) fun h3=>af (fun h4=>?_) fun h4=>⟨rfl,next (eY hJ ?_)⟩⟩⟩
   · have h2:Sp.cO s0 (Sp.fileAt s1 n)=false:=fO h2
     show (Sp.cO s0 (Sp.fileAt s1 n)&&_&&_)=false
     rw [h2];rfl
   · have h2:Sp.cO s0 (Sp.fileAt s1 n)=true:=dI h2
     have h3:¬ (Sp.fileAt s1 n).1<s2:=by have h3:(Sp.fileAt s1 n).1≥s2:=gG h3;omega
     show (Sp.cO s0 (Sp.fileAt s1 n)&&decide ((Sp.fileAt s1 n).1<s2)&&_)=false
     rw [h2,decide_eq_false h3];rfl
   · have h2:Sp.cO s0 (Sp.fileAt s1 n)=true:=dI h2
     have h3:(Sp.fileAt s1 n).1<s2:=by have h3:¬ (Sp.fileAt s1 n).1≥s2:=iw h3;omega
     have h4:0<n:=by have:=gG h4;omega
     rw [zo h4 (by omega)]
     refine ⟨⟨by omega,by omega⟩,⟨by omega,by omega⟩,af (fun h5=>no ?_) fun h5=>⟨rfl,next (eY hJ ?_)⟩⟩
     · have h5:¬ (Sp.fileAt s1 (n-1)).1<(Sp.fileAt s1 n).1:=by have h5:(Sp.fileAt s1 (n-1)).1≥(Sp.fileAt s1 n).1:=gG h5;omega
       show (Sp.cO s0 (Sp.fileAt s1 n)&&decide ((Sp.fileAt s1 n).1<s2)&&!(decide (0<n)&&!decide ((Sp.fileAt s1 (n-1)).1<(Sp.fileAt s1 n).1)))=false
       rw [h2,decide_eq_true h3,decide_eq_true h4,decide_eq_false h5];rfl
     · have h5:(Sp.fileAt s1 (n-1)).1<(Sp.fileAt s1 n).1:=by have h5:¬ (Sp.fileAt s1 (n-1)).1≥(Sp.fileAt s1 n).1:=iw h5;omega
       show (Sp.cO s0 (Sp.fileAt s1 n)&&decide ((Sp.fileAt s1 n).1<s2)&&!(decide (0<n)&&!decide ((Sp.fileAt s1 (n-1)).1<(Sp.fileAt s1 n).1)))=true
       rw [h2,decide_eq_true h3,decide_eq_true h4,decide_eq_true h5];rfl
   · have h2:Sp.cO s0 (Sp.fileAt s1 n)=true:=dI h2
     have h3:(Sp.fileAt s1 n).1<s2:=by have h3:¬ (Sp.fileAt s1 n).1≥s2:=iw h3;omega
     have h4:¬ 0<n:=by have:=iw h4;omega
     show (Sp.cO s0 (Sp.fileAt s1 n)&&decide ((Sp.fileAt s1 n).1<s2)&&!(decide (0<n)&&!decide ((Sp.fileAt s1 (n-1)).1<(Sp.fileAt s1 n).1)))=true
     rw [h2,decide_eq_true h3,decide_eq_false h4];rfl
 · dsimp only
   have ha:Sp.jQ s1.length (Sp.lC (s0,s1,s2,()))=true:=qw hJ
   refine dm (by omega) ⟨trivial,af (fun h1=>af (fun h2=>⟨trivial,?_⟩) fun h2=>?_) fun h1=>?_⟩
   · refine congrArg (·,()) ?_
     show _=(Sp.jQ s1.length (Sp.lC (s0,s1,s2,()))&&Sp.fM s0&&decide ((s1.length:Int)≤12)&&(decide (1≤s2)&&decide (s2≤61)))
     rw [ha,h1,h2];rfl
   · refine congrArg (·,()) ?_
     show _=(Sp.jQ s1.length (Sp.lC (s0,s1,s2,()))&&Sp.fM s0&&decide ((s1.length:Int)≤12)&&(decide (1≤s2)&&decide (s2≤61)))
     rw [ha,h1,h2];rfl
   · refine congrArg (·,()) ?_
     show _=(Sp.jQ s1.length (Sp.lC (s0,s1,s2,()))&&Sp.fM s0&&decide ((s1.length:Int)≤12)&&(decide (1≤s2)&&decide (s2≤61)))
     rw [ha,h1];rfl
theorem aac:ai prog G yw.e:=by
 refine aad (aj ah trivial) ?_
 intro a b hin hp
 dsimp only [yw] at hp ⊢
 have hlen:a.length≤maxLen:=hin.1.1
 rw [maxLen_eq] at hlen
 refine af (fun h=>?_) fun h=>?_
 · have h:(a.length:Int)≠b.length:=by simpa using h
   exact congrArg (·,()) (decide_eq_false fun e=>h (by rw [e])).symm
 · have h:(a.length:Int)=b.length:=by simpa using h
   exact Tz (K:=fun r=>r=(decide (a=b),())) (fun x y=>!(x.1==y.1&&(x.2.1==y.2.1&&true))) (fun x y=>by simp [Prod.ext_iff]) _ a b _ hlen (by omega) (fun e=>by rw [decide_eq_false e]) fun e=>by rw [decide_eq_true e]
theorem acS:ai prog G zB.e:=by
 refine acT (aj ah trivial) ?_
 intro a b hin hp
 dsimp only [zB] at hp ⊢
 have hlen:a.length≤maxLen:=hin.1.1
 rw [maxLen_eq] at hlen
 refine af (fun h=>?_) fun h=>?_
 · have h:(a.length:Int)≠b.length:=by simpa using h
   exact congrArg (·,()) (decide_eq_false fun e=>h (by rw [e])).symm
 · have h:(a.length:Int)=b.length:=by simpa using h
   exact Tz (K:=fun r=>r=(decide (a=b),())) (fun x y=>!(x.1==y.1&&(x.2.1==y.2.1&&(x.2.2.1==y.2.2.1&&(x.2.2.2.1==y.2.2.2.1&&true))))) (fun x y=>by simp [Prod.ext_iff]) _ a b _ hlen (by omega) (fun e=>by rw [decide_eq_false e]) fun e=>by rw [decide_eq_true e]
theorem afA:ai prog G Ah.e:=by
 refine afB (aj ah ⟨acS,trivial⟩) ?_
 intro a0 a1 a2 a3 a4 b0 b1 b2 b3 b4 hin hp
 dsimp only [Ah] at hp ⊢
 refine af (fun h0=>af (fun h1=>af (fun h2=>af (fun h3=>⟨trivial,?_⟩) fun h3=>?_) fun h2=>?_) fun h1=>?_) fun h0=>?_
 all_goals refine congrArg (·,()) (Bool.eq_iff_iff.2 ?_)
 · simp only [beq_iff_eq] at h0 h1 h2 h3
   subst h0 h1 h2 h3
   simp
 · have h3:a3≠b3:=by simpa using h3
   simp [h3]
 · have h2:a2≠b2:=by simpa using h2
   simp [h2]
 · have h1:a1≠b1:=by simpa using h1
   simp [h1]
 · have h0:a0≠b0:=by simpa using h0
   simp [h0]
theorem acU:ai prog G zC.e:=by
 refine acV (aj ah ⟨afA,trivial⟩) ?_
 intro a b hin hp
 dsimp only [zC] at hp ⊢
 have hlen:a.length≤maxLen:=hin.1.1
 rw [maxLen_eq] at hlen
 refine af (fun h=>?_) fun h=>?_
 · have h:(a.length:Int)≠b.length:=by simpa using h
   exact congrArg (·,()) (decide_eq_false fun e=>h (by rw [e])).symm
 · have h:(a.length:Int)=b.length:=by simpa using h
   exact afC (K:=fun r=>r=(decide (a=b),())) (fun x y=>!decide ((x.1,x.2.1,x.2.2.1,x.2.2.2.1,x.2.2.2.2.1,())=(y.1,y.2.1,y.2.2.1,y.2.2.2.1,y.2.2.2.2.1,()))) (fun x y=>by simp [Prod.ext_iff]) _ a b _ hlen (by omega) (fun e=>by rw [decide_eq_false e]) fun e=>by rw [decide_eq_true e]
theorem acW:ai prog G zD.e:=by
 refine acX (aj ah ⟨acU,aac,trivial⟩) ?_
 intro a0 a1 a2 b0 b1 b2 hin hp
 dsimp only [zD] at hp ⊢
 refine ⟨trivial,af (fun h0=>⟨trivial,af (fun h1=>?_) fun h1=>?_⟩) fun h0=>?_⟩
 all_goals refine congrArg (·,()) (Bool.eq_iff_iff.2 ?_)
 · have h0:=gG h0
   have h1:=gG h1
   subst h0 h1
   simp
 · have h1:=iw h1
   simp [h1]
 · have h0:=iw h0
   simp [h0]
theorem EH:ai prog G rC.e:=by
 refine aii (aj ah trivial) ?_
 intro f0 f1 f2 f3 f4 hin hp
 dsimp only [rC] at hp ⊢
 have hp:f4.length≤1000:=hp
 exact ⟨by rw [bU];omega,rfl⟩
theorem Ld:ai prog G mV.e:=by
 refine Le (aj ah trivial) ?_
 intro l hin hp
 dsimp only [mV] at hp ⊢
 intro g hg
 have hp:l.length≤1000:=hp
 refine af (fun h=>?_) fun h=>⟨by rw [bU];omega,rfl⟩
 have:=List.length_eq_zero_iff.1 (hg h)
 rw [this]
theorem MV:ai prog G ny.e:=by
 refine MW (aj ah trivial) ?_
 intro l hin hp
 dsimp only [ny] at hp ⊢
 intro g hg
 have hp:l.length≤1000:=hp
 refine af (fun h=>?_) fun h=>⟨by rw [bU];omega,rfl⟩
 have:=List.length_eq_zero_iff.1 (hg h)
 rw [this]
theorem GR:ai prog G sU.e:=by
 refine afD (aj ah ⟨MV,trivial⟩) ?_
 intro f0 f1 f2 f3 f4 hin hp
 dsimp only [sU] at hp ⊢
 exact ⟨hp,rfl⟩
theorem JD:ai prog G xO.e:=by
 refine alq (aj ah ⟨vS,trivial⟩) ?_
 intro n hin hp
 dsimp only [xO] at hp ⊢
 exact ⟨trivial,rfl⟩
theorem GU:ai prog G sV.e:=by
 refine afE (aj ah trivial) ?_
 intro s0 s1 s2 id hin hp
 dsimp only [sV] at hp ⊢
 have hlen:s1.length≤maxLen:=hin.1.2.1.1
 rw [maxLen_eq] at hlen
 refine jd s1.length hlen (fun n=>∀ i,i<n→(Sp.fileAt s1 i).1≠id) (fun i hi=>by omega) (fun I μ n hn hJ next=>?_) fun I μ hJ=>?_
 · dsimp only
   refine dh (by omega) ⟨⟨by omega,by omega⟩,af (fun h=>?_) fun h=>⟨rfl,next fun i hi=>?_⟩⟩
   · have h:(Sp.fileAt s1 n).1=id:=gG h
     exact congrArg (·,()) (Sp.JE hn hJ h).symm
   · rcases Nat.lt_or_ge i n with h'|h'
     · exact hJ i h'
     · have:i=n:=by omega
       subst this
       have h:¬ (Sp.fileAt s1 i).1=id:=iw h
       exact h
 · dsimp only
   exact dm (by omega) (congrArg (·,()) (Sp.U5 hJ).symm)
theorem aij {s:List Sp.aK} {u:Int} {n:Nat} (hn:n<s.length):Sp.Hf (s.take (n+1)) u=Sp.Hf (s.take n) u++(if (Sp.fileAt s n).2.1=u then [((Sp.fileAt s n).1,())] else []):=by
 unfold Sp.Hf
 rw [Sp.take_succ' s n (0,0,false,0,[],()) hn,List.filter_append,List.map_append]
 congr 1
 show List.map _ (List.filter _ [Sp.fileAt s n])=_
 by_cases h:(Sp.fileAt s n).2.1=u
 · rw [List.filter_cons_of_pos (by simpa using h),if_pos h];rfl
 · rw [List.filter_cons_of_neg (by simpa using h),if_neg h];rfl
theorem att (s:List Sp.aK) (u:Int):(Sp.Hf s u).length≤s.length:=by
 unfold Sp.Hf
 rw [List.length_map];exact List.length_filter_le ..
theorem set_self {fs:List Sp.aK} {n:Nat} (hn:n<fs.length):fs.set n (fs.getD n (0,0,false,0,[],()))=fs:=by
 refine List.ext_getElem (by simp) fun i h1 h2=>?_
 rw [List.getElem_set]
 split
 · next e=>subst e;rw [List.getD_eq_getElem?_getD,List.getElem?_eq_getElem hn];rfl
 · rfl
theorem DJ {s:List Sp.dR} (p:Sp.dR→Bool) {n:Nat} (hn:n<s.length):(s.take (n+1)).filter p=(s.take n).filter p++(if p (Sp.bT s n)=true then [Sp.bT s n] else []):=by
 rw [Sp.take_succ' s n ([],0,0,[],()) hn,List.filter_append]
 congr 1
 show List.filter _ [Sp.bT s n]=_
 by_cases h:p (Sp.bT s n)=true
 · rw [List.filter_cons_of_pos h,if_pos h];rfl
 · rw [List.filter_cons_of_neg h,if_neg h];rfl
theorem P5 (s:List Sp.dR) (p:Sp.dR→Bool) (n:Nat):((s.take n).filter p).length≤n:=by
 have:=List.length_filter_le p (s.take n)
 rw [List.length_take] at this
 omega
theorem aae (al:List Sp.dR) (name:Sp.Bytes) (n:Int) (s:Sp.Bytes):Sp.fH al name 0 n s=al.filter (Sp.jy name):=rfl
theorem aik {al:List Sp.dR} {name:Sp.Bytes} {k n:Int} {s:Sp.Bytes} (hk:k≠0) {l:List Sp.dR} (hl:l=al.filter (Sp.jy name)) {m:Nat} (hm:m≤l.length)
 (h1:∀ i,i<m→Sp.kM name (Sp.bT l i)=true) (h2:m<l.length→Sp.kM name (Sp.bT l m)=false):
 List.drop 0 (List.take m l)++[(name,k,n,s,())]++List.drop m (List.take l.length l)=Sp.fH al name k n s:=by
 obtain ⟨e1,e2⟩:=Sp.Og (d:=(([]:List UInt8),(0:Int),(0:Int),([]:List UInt8),())) l m hm h1 h2
 unfold Sp.fH Sp.Fp
 rw [decide_eq_false hk,← hl]
 show _=l.takeWhile (Sp.kM name)++_::l.dropWhile (Sp.kM name)
 rw [e1,e2,List.take_length,List.drop_zero,List.append_assoc]
 rfl
theorem P6:ai prog G rD.e:=by
 refine ail (aj ah trivial) (fun ⟨(i,o,s,l,a,_),name,(k,n,w,_),_⟩ _=>⟨(((i,o,s,l,Sp.fH a name k n w,()),()),()),⟨rfl,rfl,rfl,rfl,rfl⟩⟩) ?_
 intro f0 f1 f2 f3 f4 name k n s hin hp
 dsimp only [rD] at hp ⊢
 have hp:f4.length≤1000:=hp
 refine dM (fun i (x:List Sp.dR)=>(((),i,()),x,())) (fun y=>y.1.2.1) (fun _ _=>rfl) f4.length (by omega) (fun m l=>l=(f4.take m).filter (Sp.jy name)) (by simp) (fun I μ m l hm hJ next=>?_) fun I μ l hJ=>?_
 · subst hJ
   have hl:=P5 f4 (Sp.jy name) m
   dsimp only
   refine dh (by omega) ⟨⟨by omega,by omega⟩,af (fun h=>⟨⟨by omega,by omega⟩,by rw [bU];simp only [List.length_cons,List.length_nil];omega,rfl,next _ ?_⟩) fun h=>⟨rfl,next _ ?_⟩⟩
   · rw [DJ _ hm,if_pos (show Sp.jy name (Sp.bT f4 m)=true from h)];rfl
   · rw [DJ _ hm,if_neg (show ¬ Sp.jy name (Sp.bT f4 m)=true from fun h'=>by have h:Sp.jy name (Sp.bT f4 m)=false:=h;rw [h] at h';cases h'),List.append_nil]
 · rw [List.take_length] at hJ
   have hl:l.length≤1000:=by rw [hJ];have:=List.length_filter_le (Sp.jy name) f4;omega
   dsimp only
   refine dm (by omega) (af (fun h=>?_) fun h=>?_)
   · have hk:k≠0:=by simpa using h
     have fin:∀ m:Nat,m≤l.length→(∀ i,i<m→Sp.kM name (Sp.bT l i)=true)→(m<l.length→Sp.kM name (Sp.bT l m)=false)→
      ((0:Int)≤m∧(m:Int)≤l.length)∧0+(List.drop 0 (List.take m l)).length≤big∧(List.drop 0 (List.take m l)).length+[(name,k,n,s,())].length≤big∧((0:Int)≤m∧(m:Int)≤l.length)∧
      (List.drop 0 (List.take m l)++[(name,k,n,s,())]).length+(List.drop m (List.take l.length l)).length≤big∧
      (f0=f0∧f1=f1∧f2=f2∧f3=f3∧List.drop 0 (List.take m l)++[(name,k,n,s,())]++List.drop m (List.take l.length l)=Sp.fH f4 name k n s):=by
      intro m hm h1 h2
      refine ⟨⟨by omega,by omega⟩,?_,?_,⟨by omega,by omega⟩,?_,rfl,rfl,rfl,rfl,aik hk hJ hm h1 h2⟩
      all_goals
       rw [bU]
       simp only [List.length_append,List.length_drop,List.length_take,List.length_cons,List.length_nil]
       omega
     refine jd l.length (by omega) (fun m=>∀ i,i<m→Sp.kM name (Sp.bT l i)=true) (fun i hi=>by omega) (fun I μ m hm hJ2 next=>?_) fun I μ hJ2=>?_
     · dsimp only
       refine dh (by omega) ⟨⟨by omega,by omega⟩,hm,af (fun h2=>⟨rfl,next (eY (f:=fun i=>Sp.kM name (Sp.bT l i)) hJ2 h2)⟩) fun h2=>?_⟩
       exact fin m (by omega) hJ2 fun _=>h2
     · dsimp only
       exact dm (by omega) (fin l.length (Nat.le_refl _) hJ2 fun h'=>by omega)
   · have hk:k=0:=by simpa using h
     subst hk
     exact ⟨rfl,rfl,rfl,rfl,by rw [aae];exact hJ⟩
theorem afF:ai prog G sW.e:=by
 refine afG (aj ah trivial) (fun ⟨s,_⟩ _=>⟨(((s,[],1,()),()),()),⟨rfl,rfl,rfl⟩⟩) ?_
 intro s hin hp
 dsimp only [sW] at hp ⊢
 have hp:s.length≤1000:=hp
 exact ⟨by rw [bU];omega,rfl,rfl,rfl⟩
theorem AL:ai prog G kz.e:=by
 refine aim (aj ah ⟨EH,trivial⟩) (fun ⟨(a,l,nx,_),_⟩ _=>⟨(((a,l,nx,()),()),()),rfl⟩) ?_
 intro s0 s1 s2 hin hp
 dsimp only [kz] at hp ⊢
 obtain ⟨h0,h1,h2⟩:s0.length≤1000∧s1.length≤1000∧∀ f∈s1,Sp.bW f:=hp
 refine ⟨by rw [bU];omega,?_⟩
 refine dM (fun i (x:List Sp.aK)=>((i,()),((),(),s2,()),x,())) (fun y=>y.1.1) (fun _ _=>rfl) s1.length (by omega) (fun n l=>l=s1.take n) (by simp) (fun I μ n l hn hJ next=>?_) fun I μ l hJ=>?_
 · subst hJ
   have hl:(s1.take n).length≤n:=by rw [List.length_take];omega
   dsimp only
   refine dh (by omega) ⟨⟨by omega,by omega⟩,h2 _ (getD_mem (d:=((0:Int),(0:Int),false,(0:Int),[],())) hn),by rw [bU];simp only [List.length_cons,List.length_nil];omega,rfl,next _ ?_⟩
   exact (Sp.take_succ' s1 n (0,0,false,0,[],()) hn).symm
 · subst hJ
   dsimp only
   refine dm (by omega) ?_
   rw [List.take_length]
theorem KE:ai prog G lN.e:=by
 refine aaf (aj ah ⟨EC,tX,EH,AL,trivial⟩) (fun ⟨s,f,_⟩ _=>⟨((((Sp.dD s f).1.1,(Sp.dD s f).1.2.1,(Sp.dD s f).1.2.2.1,()),(Sp.dD s f).2.1,(Sp.dD s f).2.2,()),()),⟨rfl,rfl,rfl,rfl,rfl⟩⟩) ?_
 intro s0 s1 s2 f0 f1 f2 f3 f4 hin hp
 dsimp only [lN] at hp ⊢
 refine ⟨hp.1,?_⟩
 rintro ⟨⟨⟨a,l,nx,⟨⟩⟩,⟨⟩⟩,⟨⟩⟩ e
 obtain ⟨rfl,rfl,rfl⟩:a=s0∧l=s1∧nx=s2:=by simpa using e
 have hs:l.length≤1000:=hp.1.2.1
 have no:¬ (Sp.aH (a,l,nx,())=true∧l.length<12∧Sp.cO a (nx,f1,f2,f3,f4,())=true)→Sp.dD (a,l,nx,()) (f0,f1,f2,f3,f4,())=((a,l,nx,()),0,false):=fun h=>by
  rcases Sp.qV (a,l,nx,()) (f0,f1,f2,f3,f4,()) with ⟨e,_⟩|⟨h1,h2,h3,_⟩
  · exact e
  · exact (h ⟨h1,h2,h3⟩).elim
 refine ⟨hp.2,trivial,af (fun h1=>?_) fun h1=>af (fun h2=>?_) fun h2=>⟨trivial,af (fun h3=>?_) fun h3=>?_⟩⟩
 · have:=no fun h=>by have h1:=fO h1;have:=h.1;rw [show Sp.aH (a,l,nx,())=false from h1] at this;cases this
   dsimp only
   rw [this];exact ⟨rfl,rfl,rfl,rfl,rfl⟩
 · have:=no fun h=>by have h2:(l.length:Int)≥12:=gG h2;omega
   dsimp only
   rw [this];exact ⟨rfl,rfl,rfl,rfl,rfl⟩
 · have:=no fun h=>by have h3:=fO h3;have:=h.2.2;rw [show Sp.cO a (nx,f1,f2,f3,f4,())=false from h3] at this;cases this
   dsimp only
   rw [this];exact ⟨rfl,rfl,rfl,rfl,rfl⟩
 · have g1:Sp.aH (a,l,nx,())=true:=dI h1
   have g2:l.length<12:=by have h2:¬ (l.length:Int)≥12:=iw h2;omega
   have g3:Sp.cO a (nx,f1,f2,f3,f4,())=true:=dI h3
   rcases Sp.qV (a,l,nx,()) (f0,f1,f2,f3,f4,()) with ⟨_,e⟩|⟨_,_,_,e⟩
   · exact (e ⟨g1,g2,g3⟩).elim
   · have hnx:=(Sp.lK.1 g1).2.2.2
     have w:IntKind.i64.wrap (nx+1)=nx+1:=gu _ (by have h5:nx≤61:=hnx.2;have h6:1≤nx:=hnx.1;omega)
     refine ⟨by rw [bU];simp only [List.length_cons,List.length_nil];omega,?_⟩
     dsimp only
     rw [e,w];exact ⟨rfl,rfl,rfl,rfl,rfl⟩
theorem aag:ai prog G oK.e:=by
 refine aah (aj ah ⟨tX,GU,AL,trivial⟩) (fun ⟨s,id,_⟩ _=>⟨((((Sp.fP s id).1.1,(Sp.fP s id).1.2.1,(Sp.fP s id).1.2.2.1,()),(Sp.fP s id).2,()),()),⟨rfl,rfl,rfl,rfl⟩⟩) ?_
 intro s0 s1 s2 id hin hp
 dsimp only [oK] at hp ⊢
 refine ⟨hp,?_⟩
 rintro ⟨⟨⟨a,l,nx,⟨⟩⟩,⟨⟩⟩,⟨⟩⟩ e
 obtain ⟨rfl,rfl,rfl⟩:a=s0∧l=s1∧nx=s2:=by simpa using e
 have hs:l.length≤1000:=hp.2.1
 have no:¬ (Sp.aH (a,l,nx,())=true∧0≤Sp.place l id)→Sp.fP (a,l,nx,()) id=((a,l,nx,()),false):=fun h=>by
  rcases Sp.zO (a,l,nx,()) id with ⟨e,_⟩|⟨n,hn,h1,h2,_⟩
  · exact e
  · exact (h ⟨h2,by have h1:Sp.place l id=n:=h1;omega⟩).elim
 refine ⟨trivial,trivial,af (fun h1=>?_) fun h1=>af (fun h2=>?_) fun h2=>?_⟩
 · have:=no fun h=>by have h1:=fO h1;have:=h.1;rw [show Sp.aH (a,l,nx,())=false from h1] at this;cases this
   dsimp only
   rw [this];exact ⟨rfl,rfl,rfl,rfl⟩
 · have:=no fun h=>by have h2:Sp.place l id<0:=gG h2;omega
   dsimp only
   rw [this];exact ⟨rfl,rfl,rfl,rfl⟩
 · have g1:Sp.aH (a,l,nx,())=true:=dI h1
   have g2:0≤Sp.place l id:=by have h2:¬ Sp.place l id<0:=iw h2;omega
   rcases Sp.zO (a,l,nx,()) id with ⟨_,e⟩|⟨n,hn,hpl,_,e⟩
   · exact (e ⟨g1,g2⟩).elim
   · have hn:n<l.length:=hn
     have hpl:Sp.place l id=n:=hpl
     have w:IntKind.i64.wrap ((n:Int)+1)=((n+1:Nat):Int):=gu _ (by omega)
     dsimp only
     rw [hpl,e,w,Int.toNat_natCast,Int.toNat_natCast,List.drop_zero,List.take_length,bU]
     refine ⟨⟨by omega,by omega⟩,by rw [List.length_take];omega,⟨by omega,by omega⟩,by rw [List.length_take,List.length_drop];omega,rfl,?_,rfl,rfl⟩
     exact (List.eraseIdx_eq_take_drop_succ ..).symm
def acf (L:List (List Sp.dR)) (name:Sp.Bytes) (vals:List (Int×Int×Sp.Bytes)):List (List Sp.dR):=L++L.flatMap fun a=>vals.map fun v=>Sp.fH a name v.1 v.2.1 v.2.2
theorem yX {L:List (List Sp.dR)} {name:Sp.Bytes} {vals:List (Int×Int×Sp.Bytes)} {a:List Sp.dR} (h:a∈L):a∈acf L name vals:=List.mem_append_left _ h
theorem P7 {L:List (List Sp.dR)} {name:Sp.Bytes} {vals:List (Int×Int×Sp.Bytes)} {a:List Sp.dR} (h:a∈L) {k n:Int} {s:Sp.Bytes} (hv:(k,n,s)∈vals):Sp.fH a name k n s∈acf L name vals:=
 List.mem_append_right _ (List.mem_flatMap.2 ⟨a,h,List.mem_map.2 ⟨(k,n,s),hv,rfl⟩⟩)
def ints:List (Int×Int×Sp.Bytes):=[(1,0,[]),(1,1,[]),(1,2,[]),(1,3,[])]
def names:List (Int×Int×Sp.Bytes):=[(2,0,[105,110,107]),(2,0,[115,101,97])]
def tags:List (Int×Int×Sp.Bytes):=[(2,0,[114,101,100]),(2,0,[98,108,117,101])]
def ain:List (List Sp.dR):=acf [[]] [97] ints
def aio:List (List Sp.dR):=acf ain [98] ints
def aip:List (List Sp.dR):=acf aio [110] names
def aiq:List (List Sp.dR):=acf aip [116] tags
theorem auq:(aiq.all fun a=>Sp.lH Sp.usual a&&decide (a.length≤4))=true:=by kernel_rfl
theorem P8 {a:List Sp.dR} (h:a∈aiq):Sp.lH Sp.usual a=true∧a.length≤4:=by
 have:=List.all_eq_true.1 auq a h
 simpa using this
theorem avq {a:List Sp.dR} (h:a∈ain):a.length≤4:=(P8 (yX (yX (yX h)))).2
theorem avr {a:List Sp.dR} (h:a∈aio):a.length≤4:=(P8 (yX (yX h))).2
theorem avs {a:List Sp.dR} (h:a∈aip):a.length≤4:=(P8 (yX h)).2
theorem apx {x:Int} (h0:0≤x) (h1:x<4):((1:Int),x,([]:Sp.Bytes))∈ints:=by
 rcases (show x=0∨x=1∨x=2∨x=3 by omega) with h|h|h|h<;>subst h<;>simp [ints]
theorem atu {w:Sp.Bytes} (h:(w,())∈[(([105,110,107]:Sp.Bytes),()),([115,101,97],())]):((2:Int),(0:Int),w)∈names:=by
 simp only [List.mem_cons,Prod.mk.injEq,and_true,List.not_mem_nil,or_false] at h
 rcases h with h|h<;>subst h<;>simp [names]
theorem aur {w:Sp.Bytes} (h:(w,())∈[(([114,101,100]:Sp.Bytes),()),([98,108,117,101],())]):((2:Int),(0:Int),w)∈tags:=by
 simp only [List.mem_cons,Prod.mk.injEq,and_true,List.not_mem_nil,or_false] at h
 rcases h with h|h<;>subst h<;>simp [tags]
def Head (id:Int) (f:Int×Int×Bool×Int×Unit×Unit):Prop:=f.1=id∧0≤f.2.1∧f.2.1≤2∧0≤f.2.2.2.1∧f.2.2.2.1≤6
theorem IJ:ai prog G oq.e:=by
 refine air (aj ah ⟨uT,jK,P6,GN,AB,dY,trivial⟩) (fun ⟨_,id,_⟩ _=>⟨(((id,0,false,0,[],()),()),(([],0,0,()),())),⟨by dsimp only;decide,rfl,by dsimp only;decide,by dsimp only;decide,by dsimp only;decide,by dsimp only;decide,rfl,by dsimp only;decide⟩⟩) ?_
 intro b i h id hin hp
 dsimp only [oq] at hp ⊢
 have hp:0≤i:=hp
 refine ⟨hp,?_⟩
 rintro ⟨⟨x0,⟨⟩⟩,⟨b0,i0,g0,⟨⟩⟩,⟨⟩⟩ ⟨p0,q0,q1,_⟩
 refine ⟨p0,?_⟩
 rintro ⟨⟨x1,⟨⟩⟩,⟨b1,i1,g1,⟨⟩⟩,⟨⟩⟩ p1
 have q1:x0<3:=q1 (by decide)
 have q0:0≤x0:=q0
 refine ⟨fun y=>0≤y.2.1.2.1∧Head id y.2.2.1,⟨p1,?_⟩,?_⟩
 · rintro ⟨⟨x3,⟨⟩⟩,⟨b3,i3,g3,⟨⟩⟩,⟨⟩⟩ p3
   refine af (fun _=>⟨p3,?_⟩) fun _=>⟨rfl,p3,rfl,q0,(show x0≤2 by omega),Int.le_refl _,(show (0:Int)≤6 by decide)⟩
   rintro ⟨⟨x4,⟨⟩⟩,⟨b4,i4,g4,⟨⟩⟩,⟨⟩⟩ ⟨p4,q4,q5,_⟩
   have q5:x4<7:=q5 (by decide)
   exact ⟨rfl,p4,rfl,q0,(show x0≤2 by omega),q4,(show x4≤6 by omega)⟩
 rintro ⟨⟨⟩,⟨b5,i5,g5,⟨⟩⟩,f5,⟨⟩⟩ ⟨p5,H5⟩
 refine ⟨fun y=>0≤y.2.1.2.1∧Head id y.2.2.1∧y.2.2.2.1∈ain,⟨p5,?_⟩,?_⟩
 · rintro ⟨⟨x7,⟨⟩⟩,⟨b7,i7,g7,⟨⟩⟩,⟨⟩⟩ p7
   refine af (fun _=>⟨p7,?_⟩) fun _=>⟨rfl,p7,H5,yX List.mem_cons_self⟩
   rintro ⟨⟨x8,⟨⟩⟩,⟨b8,i8,g8,⟨⟩⟩,⟨⟩⟩ ⟨p8,q8,q9,_⟩
   refine ⟨trivial,(show (0:Nat)≤1000 by decide),?_⟩
   rintro ⟨⟨⟨d,o,s,l,a,⟨⟩⟩,⟨⟩⟩,⟨⟩⟩ ⟨e1,e2,e3,e4,e5⟩
   refine ⟨rfl,p8,?_,?_⟩
   · exact ⟨(show d=id from (show d=f5.1 from e1).trans H5.1),by rw [show o=f5.2.1 from e2];exact H5.2.1,by rw [show o=f5.2.1 from e2];exact H5.2.2.1,by rw [show l=f5.2.2.2.1 from e4];exact H5.2.2.2.1,by rw [show l=f5.2.2.2.1 from e4];exact H5.2.2.2.2⟩
   · have e5:a=Sp.fH [] [97] 1 x8 []:=e5
     show a∈ain
     rw [e5];exact P7 List.mem_cons_self (apx q8 (q9 (by decide)))
 rintro ⟨⟨⟩,⟨b11,i11,g11,⟨⟩⟩,f11,a11,⟨⟩⟩ ⟨p11,H11,m11⟩
 refine ⟨fun y=>0≤y.2.1.2.1∧Head id y.2.2.1∧y.2.2.2.1∈aio,⟨p11,?_⟩,?_⟩
 · rintro ⟨⟨x7,⟨⟩⟩,⟨b7,i7,g7,⟨⟩⟩,⟨⟩⟩ p7
   refine af (fun _=>⟨p7,?_⟩) fun _=>⟨rfl,p7,H11,yX m11⟩
   rintro ⟨⟨x8,⟨⟩⟩,⟨b8,i8,g8,⟨⟩⟩,⟨⟩⟩ ⟨p8,q8,q9,_⟩
   refine ⟨trivial,Nat.le_trans (avq m11) (by decide),?_⟩
   rintro ⟨⟨⟨d,o,s,l,a,⟨⟩⟩,⟨⟩⟩,⟨⟩⟩ ⟨e1,e2,e3,e4,e5⟩
   refine ⟨rfl,p8,?_,?_⟩
   · exact ⟨(show d=id from (show d=f11.1 from e1).trans H11.1),by rw [show o=f11.2.1 from e2];exact H11.2.1,by rw [show o=f11.2.1 from e2];exact H11.2.2.1,by rw [show l=f11.2.2.2.1 from e4];exact H11.2.2.2.1,by rw [show l=f11.2.2.2.1 from e4];exact H11.2.2.2.2⟩
   · have e5:a=Sp.fH a11 [98] 1 x8 []:=e5
     show a∈aio
     rw [e5];exact P7 m11 (apx q8 (q9 (by decide)))
 rintro ⟨⟨⟩,⟨b17,i17,g17,⟨⟩⟩,f17,a17,⟨⟩⟩ ⟨p17,H17,m17⟩
 refine ⟨fun y=>0≤y.2.1.2.1∧Head id y.2.2.1∧y.2.2.2.1∈aip,⟨p17,?_⟩,?_⟩
 · rintro ⟨⟨x7,⟨⟩⟩,⟨b7,i7,g7,⟨⟩⟩,⟨⟩⟩ p7
   refine af (fun _=>⟨⟨p7,by simp⟩,?_⟩) fun _=>⟨rfl,p7,H17,yX m17⟩
   rintro ⟨⟨x8,⟨⟩⟩,⟨b8,i8,g8,⟨⟩⟩,⟨⟩⟩ ⟨p8,q8⟩
   refine ⟨trivial,Nat.le_trans (avr m17) (by decide),?_⟩
   rintro ⟨⟨⟨d,o,s,l,a,⟨⟩⟩,⟨⟩⟩,⟨⟩⟩ ⟨e1,e2,e3,e4,e5⟩
   refine ⟨rfl,p8,?_,?_⟩
   · exact ⟨(show d=id from (show d=f17.1 from e1).trans H17.1),by rw [show o=f17.2.1 from e2];exact H17.2.1,by rw [show o=f17.2.1 from e2];exact H17.2.2.1,by rw [show l=f17.2.2.2.1 from e4];exact H17.2.2.2.1,by rw [show l=f17.2.2.2.1 from e4];exact H17.2.2.2.2⟩
   · have e5:a=Sp.fH a17 [110] 2 0 x8:=e5
     show a∈aip
     rw [e5];exact P7 m17 (atu q8)
 rintro ⟨⟨⟩,⟨b23,i23,g23,⟨⟩⟩,f23,a23,⟨⟩⟩ ⟨p23,H23,m23⟩
 refine ⟨fun y=>0≤y.2.1.2.1∧Head id y.2.2.1∧y.2.2.2.1∈aiq,⟨p23,?_⟩,?_⟩
 · rintro ⟨⟨x7,⟨⟩⟩,⟨b7,i7,g7,⟨⟩⟩,⟨⟩⟩ p7
   refine af (fun _=>⟨⟨p7,by simp⟩,?_⟩) fun _=>⟨rfl,p7,H23,yX m23⟩
   rintro ⟨⟨x8,⟨⟩⟩,⟨b8,i8,g8,⟨⟩⟩,⟨⟩⟩ ⟨p8,q8⟩
   refine ⟨trivial,Nat.le_trans (avs m23) (by decide),?_⟩
   rintro ⟨⟨⟨d,o,s,l,a,⟨⟩⟩,⟨⟩⟩,⟨⟩⟩ ⟨e1,e2,e3,e4,e5⟩
   refine ⟨rfl,p8,?_,?_⟩
   · exact ⟨(show d=id from (show d=f23.1 from e1).trans H23.1),by rw [show o=f23.2.1 from e2];exact H23.2.1,by rw [show o=f23.2.1 from e2];exact H23.2.2.1,by rw [show l=f23.2.2.2.1 from e4];exact H23.2.2.2.1,by rw [show l=f23.2.2.2.1 from e4];exact H23.2.2.2.2⟩
   · have e5:a=Sp.fH a23 [116] 2 0 x8:=e5
     show a∈aiq
     rw [e5];exact P7 m23 (aur q8)
 rintro ⟨⟨⟩,⟨b29,i29,g29,⟨⟩⟩,f29,a29,⟨⟩⟩ ⟨p29,H29,m29⟩
 have hm:=P8 m29
 exact ⟨p29,H29.1,H29.2.1,H29.2.2.1,H29.2.2.2.1,H29.2.2.2.2,hm.1,hm.2⟩
theorem aes (al:List Sp.dR) (name:Sp.Bytes) (k n:Int) (s:Sp.Bytes):(Sp.fH al name k n s).length≤al.length+1:=by
 have hf:=List.length_filter_le (Sp.jy name) al
 unfold Sp.fH
 cases decide (k=0) with
 |true=>show (al.filter _).length≤_;omega
 |false=>
  show (Sp.Fp _ _).length≤_
  unfold Sp.Fp
  have:=congrArg List.length (List.takeWhile_append_dropWhile (p:=Sp.kM name) (l:=al.filter (Sp.jy name)))
  rw [List.length_append] at this
  rw [List.length_append,List.length_cons]
  show ((al.filter (Sp.jy name)).takeWhile (Sp.kM name)).length+(((al.filter (Sp.jy name)).dropWhile (Sp.kM name)).length+1)≤_
  omega
theorem alr:ai prog G xP.e:=by
 refine als (aj ah ⟨P6,uT,Tm,PY,sF,IJ,dY,trivial⟩) (fun _ _=>⟨(((0,0,false,0,[],()),()),(([],0,0,()),())),⟨by decide,by decide⟩⟩) ?_
 intro b i h hin hp
 dsimp only [xP] at hp ⊢
 have hp:0≤i:=hp
 refine ⟨hp,?_⟩
 rintro ⟨⟨x0,⟨⟩⟩,⟨b0,i0,g0,⟨⟩⟩,⟨⟩⟩ ⟨p0,_⟩
 refine ⟨p0,?_⟩
 rintro ⟨⟨⟨d,o,s,l,a,⟨⟩⟩,⟨⟩⟩,⟨b1,i1,g1,⟨⟩⟩,⟨⟩⟩ ⟨p1,_,_,_,_,_,_,ha⟩
 have ha:a.length≤4:=ha
 refine ⟨p1,?_⟩
 rintro ⟨⟨x2,⟨⟩⟩,⟨b2,i2,g2,⟨⟩⟩,⟨⟩⟩ ⟨p2,_⟩
 refine af (fun _=>⟨⟨p2,by simp⟩,?_⟩) fun _=>af (fun _=>⟨⟨p2,by simp⟩,?_⟩) fun _=>af (fun _=>⟨⟨p2,by simp⟩,?_⟩) fun _=>af (fun _=>⟨p2,?_⟩) fun _=>af (fun _=>⟨trivial,(show a.length≤1000 by omega),?_⟩) fun _=>⟨p2,(show a.length≤10 by omega)⟩
 · rintro ⟨⟨x3,⟨⟩⟩,⟨b3,i3,g3,⟨⟩⟩,⟨⟩⟩ ⟨p3,_⟩
   exact ⟨p3,(show a.length≤10 by omega)⟩
 · rintro ⟨⟨x3,⟨⟩⟩,⟨b3,i3,g3,⟨⟩⟩,⟨⟩⟩ ⟨p3,_⟩
   exact ⟨p3,(show a.length≤10 by omega)⟩
 · rintro ⟨⟨x3,⟨⟩⟩,⟨b3,i3,g3,⟨⟩⟩,⟨⟩⟩ ⟨p3,_⟩
   exact ⟨p3,(show a.length≤10 by omega)⟩
 · rintro ⟨⟨x3,⟨⟩⟩,⟨b3,i3,g3,⟨⟩⟩,⟨⟩⟩ ⟨p3,_⟩
   refine ⟨p3,?_⟩
   rintro ⟨⟨⟨k,n,w,⟨⟩⟩,⟨⟩⟩,⟨b4,i4,g4,⟨⟩⟩,⟨⟩⟩ ⟨p4,_⟩
   refine ⟨(show a.length+1≤big by rw [bU];omega),p4,?_⟩
   show (a++[_]).length≤10
   rw [List.length_append,List.length_cons,List.length_nil];omega
 · rintro ⟨⟨⟨d',o',s',l',a',⟨⟩⟩,⟨⟩⟩,⟨⟩⟩ ⟨_,_,_,_,e5⟩
   refine ⟨p2,?_⟩
   have e5:a'=Sp.fH a [97] 2 0 [114,101,100]:=e5
   show a'.length≤10
   rw [e5]
   have:=aes a [97] 2 0 [114,101,100]
   omega
theorem aus:Sp.fM Sp.usual=true:=by kernel_rfl
theorem aut:Sp.aH (Sp.usual,[],1,())=true:=by kernel_rfl
theorem aqs:Sp.bG (Sp.usual,[],1,()):=⟨by decide,by decide,fun f hf=>by cases hf⟩
theorem Oh {a:List Sp.gU} {l:List Sp.aK} {nx:Int} {X:Sp.bZ} (h1:a=X.1) (h2:l=X.2.1) (h3:nx=X.2.2.1):((a,l,nx,()):Sp.bZ)=X:=by subst h1 h2 h3;rfl
theorem apy (s:Sp.bZ) (f:Sp.aK):(Sp.dD s f).1.1=s.1∧((Sp.dD s f).1.2.1.length:Int)-(Sp.dD s f).1.2.2.1=s.2.1.length-s.2.2.1:=by
 rcases Sp.qV s f with ⟨e,_⟩|⟨_,_,_,e⟩
 · rw [e];exact ⟨rfl,rfl⟩
 · rw [e]
   refine ⟨rfl,?_⟩
   show ((s.2.1++[(s.2.2.1,f.2)]).length:Int)-(s.2.2.1+1)=_
   rw [List.length_append,List.length_cons,List.length_nil];omega
theorem aai (s:Sp.bZ) (id:Int):(Sp.fP s id).1.1=s.1∧(Sp.fP s id).1.2.2.1=s.2.2.1∧s.2.1.length≤(Sp.fP s id).1.2.1.length+1:=by
 rcases Sp.zO s id with ⟨e,_⟩|⟨n,hn,_,_,e⟩
 · rw [e];exact ⟨rfl,rfl,Nat.le_succ _⟩
 · rw [e]
   refine ⟨rfl,rfl,?_⟩
   show s.2.1.length≤(s.2.1.eraseIdx n).length+1
   rw [List.length_eraseIdx_of_lt hn];omega
structure vV (k:Int) (s:Sp.bZ):Prop where
 sch:s.1=Sp.usual
 ok:Sp.aH s=true
 nx:s.2.2.1≤s.2.1.length+k
 small:Sp.bG s
theorem vV.create {k:Int} {s:Sp.bZ} (h:vV k s) {f:Sp.aK} (hf:Sp.bW f):vV k (Sp.dD s f).1:=by
 obtain ⟨h1,h2⟩:=apy s f
 exact ⟨h1.trans h.sch,Sp.alu f h.ok,by have:=h.nx;omega,Sp.anX h.small hf⟩
theorem vV.delete {k:Int} {s:Sp.bZ} (h:vV k s) (id:Int):vV (k+1) (Sp.fP s id).1:=by
 obtain ⟨h1,h2,h3⟩:=aai s id
 exact ⟨h1.trans h.sch,Sp.alv id h.ok,by have:=h.nx;omega,Sp.anY id h.small⟩
theorem vV.more {k k':Int} {s:Sp.bZ} (h:vV k s) (hk:k≤k'):vV k' s:=⟨h.sch,h.ok,by have:=h.nx;omega,h.small⟩
theorem vV.grows {s:Sp.bZ} (h:vV 2 s) (hl:s.2.1.length<12) {f:Sp.aK} (ho:0≤f.2.1∧f.2.1≤2) (hk:0≤f.2.2.2.1∧f.2.2.2.1≤6) (ha:Sp.lH Sp.usual f.2.2.2.2.1=true):(Sp.dD s f).1.2.1.length=s.2.1.length+1:=by
 have hnx:=(Sp.lK.1 h.ok).2.2.2
 have h2:=h.nx
 have hf:Sp.cO s.1 (s.2.2.1,f.2)=true:=by
  rw [h.sch]
  show (Sp.lH Sp.usual f.2.2.2.2.1&&Sp.fM Sp.usual&&(decide (1≤s.2.2.1)&&decide (s.2.2.1≤60))&&(decide (0≤f.2.1)&&decide (f.2.1≤2))&&(decide (0≤f.2.2.2.1)&&decide (f.2.2.2.1≤60)))=true
  rw [ha,aus,decide_eq_true hnx.1,decide_eq_true (by omega),decide_eq_true ho.1,decide_eq_true ho.2,decide_eq_true hk.1,decide_eq_true (by omega)]
  rfl
 rcases Sp.qV s f with ⟨_,e⟩|⟨_,_,_,e⟩
 · exact (e ⟨h.ok,hl,hf⟩).elim
 · rw [e]
   show (s.2.1++[_]).length=_
   rw [List.length_append];rfl
theorem Oi:Sp.aH (Sp.usual,[(1,0,false,0,[],())],2,())=true∧Sp.bG (Sp.usual,[(1,0,false,0,[],())],2,()):=⟨by kernel_rfl,by decide,by decide,fun f hf=>by rw [List.mem_singleton.1 hf];exact Nat.zero_le _⟩
theorem vV.one {s:Sp.bZ} (h:vV 1 s) {f:Sp.aK} (ho:0≤f.2.1∧f.2.1≤2) (hk:0≤f.2.2.2.1∧f.2.2.2.1≤6) (ha:Sp.lH Sp.usual f.2.2.2.2.1=true):0<(Sp.dD s f).1.2.1.length:=by
 by_cases hl:s.2.1.length<12
 · rw [(h.more (show (1:Int)≤2 by decide)).grows hl ho hk ha];omega
 · rcases Sp.qV s f with ⟨e,_⟩|⟨_,_,_,e⟩
   · rw [e];show 0<s.2.1.length;omega
   · rw [e];show 0<(s.2.1++[_]).length;rw [List.length_append,List.length_singleton];omega
theorem GV:ai prog G mW.e:=by
 refine afH (aj ah ⟨aag,AB,KE,IJ,dY,afF,Oe,trivial⟩) (fun _ _=>⟨(((Sp.usual,[(1,0,false,0,[],())],2,()),()),(([],0,0,()),())),⟨by decide,rfl,Oi.1,by decide,Oi.2,by decide⟩⟩) ?_
 intro b i h hin hp
 dsimp only [mW] at hp ⊢
 have hp:0≤i:=hp
 refine ⟨trivial,?_⟩
 rintro ⟨⟨u,⟨⟩⟩,⟨⟩⟩ hu
 have hu:u=Sp.usual:=hu
 subst hu
 refine ⟨(show Sp.usual.length≤1000 by decide),?_⟩
 rintro ⟨⟨⟨a,l,nx,⟨⟩⟩,⟨⟩⟩,⟨⟩⟩ ⟨e1,e2,e3⟩
 have e1:a=Sp.usual:=e1
 have e2:l=[]:=e2
 have e3:nx=1:=e3
 subst e1 e2 e3
 refine ⟨fun y=>0≤y.2.1.2.1∧(0≤y.1.1∧y.1.1≤7)∧vV 1 (y.2.2.2.1,y.2.2.2.2.1,y.2.2.1.2.2.1,())∧(0<y.1.1→0<y.2.2.2.2.1.length),fun y=>(8-y.1.1).toNat,⟨hp,⟨(show (0:Int)≤0 by decide),(show (0:Int)≤7 by decide)⟩,⟨rfl,aut,(show (1:Int)≤((0:Nat):Int)+1 by decide),aqs⟩,fun h=>absurd h (Int.lt_irrefl 0)⟩,?_⟩
 rintro ⟨⟨n,⟨⟩⟩,⟨b0,i0,g0,⟨⟩⟩,⟨⟨⟩,⟨⟩,nx,⟨⟩⟩,a,l,⟨⟩⟩ ⟨p0,⟨k0,k1⟩,D,hne⟩
 have p0:0≤i0:=p0
 have k0:0≤n:=k0
 have k1:n≤7:=k1
 have D:vV 1 (a,l,nx,()):=D
 have hne:0<n→0<l.length:=hne
 refine ⟨p0,?_⟩
 rintro ⟨⟨x1,⟨⟩⟩,⟨b1,i1,g1,⟨⟩⟩,⟨⟩⟩ ⟨p1,q0,q1,_⟩
 have q1:x1<7:=q1 (by decide)
 have q0:0≤x1:=q0
 have w:IntKind.i64.wrap (1+x1)=1+x1:=gu _ (by omega)
 dsimp only
 rw [w]
 refine af (fun hc=>⟨p1,?_⟩) fun hc=>af (fun h2=>⟨p1,?_⟩) fun h2=>?_
 · have hc:=gG hc
   have wn:IntKind.i64.wrap (n+1)=n+1:=gu _ (by omega)
   rw [wn]
   rintro ⟨⟨⟨d,o,s,lk,al,⟨⟩⟩,⟨⟩⟩,⟨b2,i2,g2,⟨⟩⟩,⟨⟩⟩ ⟨p2,_,o1,o2,k3,k4,hat,ha⟩
   have hf:Sp.bW (d,o,s,lk,al,()):=(show al.length≤1000 from Nat.le_trans ha (by decide))
   refine ⟨⟨D.small,hf⟩,?_⟩
   rintro ⟨⟨⟨a3,l3,nx3,⟨⟩⟩,id3,ok3,⟨⟩⟩,⟨⟩⟩ ⟨e1,e2,e3,_⟩
   have e:((a3,l3,nx3,()):Sp.bZ)=(Sp.dD (a,l,nx,()) (d,o,s,lk,al,())).1:=Oh e1 e2 e3
   refine ⟨rfl,⟨p2,⟨(show 0≤n+1 by omega),(show n+1≤7 by omega)⟩,?_,fun _=>?_⟩,?_⟩
   · show vV 1 (a3,l3,nx3,())
     rw [e];exact D.create hf
   · have:=D.one (f:=(d,o,s,lk,al,())) ⟨o1,o2⟩ ⟨k3,k4⟩ hat
     rw [← e] at this;exact this
   · show (8-(n+1)).toNat<(8-n).toNat
     omega
 · rintro ⟨⟨x3,⟨⟩⟩,⟨b3,i3,g3,⟨⟩⟩,⟨⟩⟩ p3
   have h2:(l.length:Int)>2:=gG h2
   refine af (fun _=>⟨⟨by decide,(show (1:Int)<l.length by omega)⟩,(show 1<l.length by omega),D.small,?_⟩) fun _=>?_
   · rintro ⟨⟨⟨a3,l3,nx3,⟨⟩⟩,ok3,⟨⟩⟩,⟨⟩⟩ ⟨e1,e2,e3,_⟩
     have e:=Oh e1 e2 e3
     have D':=D.delete (List.getD l (Int.toNat 1) (0,0,false,0,[],())).1
     have D':vV 2 (a3,l3,nx3,()):=by
      have e:((a3,l3,nx3,()):Sp.bZ)=(Sp.fP (a,l,nx,()) (List.getD l (Int.toNat 1) (0,0,false,0,[],())).1).1:=e
      rw [e];exact D'
     refine ⟨p3,D'.sch,D'.ok,D'.nx,D'.small,?_⟩
     have:=(aai (a,l,nx,()) (List.getD l (Int.toNat 1) (0,0,false,0,[],())).1).2.2
     have e2:l3=(Sp.fP (a,l,nx,()) (List.getD l (Int.toNat 1) (0,0,false,0,[],())).1).1.2.1:=e2
     rw [← e2] at this
     have this:l.length≤l3.length+1:=this
     show 0<l3.length
     omega
   · have D':=D.more (show (1:Int)≤2 by decide)
     exact ⟨p3,D'.sch,D'.ok,D'.nx,D'.small,hne (by have:=iw hc;omega)⟩
 · have D':=D.more (show (1:Int)≤2 by decide)
   exact ⟨p1,D'.sch,D'.ok,D'.nx,D'.small,hne (by have:=iw hc;omega)⟩
theorem aqt:ai prog G H9.e:=by
 refine aqu (aj ah trivial) ?_
 intro b hin hp
 dsimp only [H9] at hp ⊢
 exact rfl
theorem CW:ai prog G kY.e:=by
 refine TA (aj ah ⟨vS,trivial⟩) ?_
 intro s hin hp
 dsimp only [kY] at hp ⊢
 have hlen:s.length≤maxLen:=hin.1
 rw [maxLen_eq] at hlen
 refine ⟨fun y=>∃ n:Nat,y.1.1=n∧n≤s.length∧Sp.lower (s.take n)=true,fun y=>((s.length:Int)-y.1.1).toNat,⟨0,rfl,by omega,rfl⟩,?_⟩
 rintro ⟨⟨_,⟨⟩⟩,⟨⟩⟩ ⟨n,rfl,hn,hJ⟩
 dsimp only
 refine af (fun h=>?_) fun h=>?_<;>simp only [decide_eq_true_eq,decide_eq_false_iff_not] at h
 · have hlt:n<s.length:=by omega
   rw [gu _ (by omega),Int.toNat_natCast]
   refine ⟨⟨by omega,by omega⟩,af (fun h2=>?_) fun h2=>⟨⟨by omega,by omega⟩,af (fun h3=>?_) fun h3=>?_⟩⟩<;>simp only [decide_eq_true_eq,decide_eq_false_iff_not] at*
   · unfold Sp.iV
     cases hl:Sp.lower s with
     |false=>rfl
     |true=>have:=MS hlt hl;omega
   · unfold Sp.iV
     cases hl:Sp.lower s with
     |false=>rfl
     |true=>have:=MS hlt hl;omega
   · refine ⟨trivial,⟨n+1,by simp,by omega,?_⟩,by omega⟩
     rw [Sp.take_succ' s n 0 hlt]
     unfold Sp.lower at hJ ⊢
     rw [List.all_append,hJ]
     simp only [List.all_cons,List.all_nil,Bool.and_true,Bool.true_and,Bool.and_eq_true,decide_eq_true_eq]
     omega
 · have hge:n=s.length:=by omega
   rw [hge,List.take_length] at hJ
   unfold Sp.iV
   rw [hJ]
   exact ⟨trivial,rfl⟩
theorem IK:ai prog G qf.e:=by
 refine U6 (aj ah ⟨CW,vS,trivial⟩) ?_
 intro k n s hin hp
 dsimp only [qf] at hp ⊢
 refine af (fun h=>?_) fun h=>af (fun h2=>⟨trivial,af (fun h3=>?_) fun h3=>?_⟩) fun h2=>af (fun h3=>⟨trivial,af (fun h4=>?_) fun h4=>?_⟩) fun h3=>?_
 · have e:k=0:=by simpa using h
   subst e
   exact congrArg (·,()) (Bool.eq_iff_iff.2 (by simp [Sp.ku]))
 · have e:k=1:=by simpa using h2
   subst e
   exact congrArg (·,()) (Bool.eq_iff_iff.2 (by simp only [Bool.and_eq_true,decide_eq_true_eq] at h3;simp [Sp.ku,h3]))
 · have e:k=1:=by simpa using h2
   subst e
   exact congrArg (·,()) (Bool.eq_iff_iff.2 (by simp only [Sp.ku,h3];simp))
 · have e:k=2:=by simpa using h3
   subst e
   exact congrArg (·,()) (Bool.eq_iff_iff.2 (by simp [Sp.ku,h4]))
 · have e:k=2:=by simpa using h3
   subst e
   exact congrArg (·,()) (Bool.eq_iff_iff.2 (by simp [Sp.ku,h4]))
 · have e1:k≠0:=by simpa using h
   have e2:k≠1:=by simpa using h2
   have e3:k≠2:=by simpa using h3
   exact congrArg (·,()) (Bool.eq_iff_iff.2 (by simp [Sp.ku,e1,e2,e3]))
theorem FH:ai prog G lG.e:=by
 refine O5 (aj ah trivial) ?_
 intro s hin hp
 dsimp only [lG] at hp ⊢
 refine af (fun h=>?_) fun h=>?_
 · have h:(s.length:Int)=1:=gG h
   match s,h with
   |[c],_=>
    refine ⟨⟨by decide,(by show (0:Int)<1;decide)⟩,af (fun h2=>⟨⟨by decide,(by show (0:Int)<1;decide)⟩,?_⟩) fun h2=>?_⟩
    · have h2:(c.toNat:Int)≥97:=gG h2
      refine congrArg (·,()) (Bool.eq_iff_iff.2 ?_)
      simp only [Sp.jT,Sp.lower,List.all_cons,List.all_nil,Bool.and_true,Bool.and_eq_true,decide_eq_true_eq,List.length_cons,List.length_nil]
      constructor
      · intro h3
        have h3:(c.toNat:Int)≤122:=h3
        exact ⟨⟨⟨by omega,by omega⟩,by decide⟩,by decide⟩
      · rintro ⟨⟨⟨_,h4⟩,_⟩,_⟩
        show (c.toNat:Int)≤122
        omega
    · have h2:¬ (c.toNat:Int)≥97:=iw h2
      refine congrArg (·,()) (Bool.eq_iff_iff.2 ?_)
      simp only [Sp.jT,Sp.lower,List.all_cons,List.all_nil,Bool.and_true,Bool.and_eq_true,decide_eq_true_eq]
      constructor
      · intro h3;cases h3
      · rintro ⟨⟨⟨h4,_⟩,_⟩,_⟩;omega
 · have h:¬ (s.length:Int)=1:=iw h
   refine congrArg (·,()) (Bool.eq_iff_iff.2 ?_)
   simp only [Sp.jT,Bool.and_eq_true,decide_eq_true_eq]
   constructor
   · intro h3;cases h3
   · rintro ⟨⟨_,h4⟩,h5⟩;omega
theorem acY:ai prog G zA.e:=by
 refine acZ (aj ah trivial) ?_
 intro s name hin hp
 dsimp only [zA] at hp ⊢
 have hlen:s.length≤maxLen:=hin.1.1
 rw [maxLen_eq] at hlen
 refine jd s.length hlen (fun n=>∀ i,i<n→(s.getD i ([],0,())).1≠name) (fun i hi=>by omega) (fun I μ n hn hJ next=>?_) fun I μ hJ=>?_
 · dsimp only
   refine dh (by omega) ⟨⟨by omega,by omega⟩,af (fun h=>?_) fun h=>⟨rfl,next fun i hi=>?_⟩⟩
   · exact congrArg (·,()) (Sp.Z9 s n hn hJ (by simpa only [Int.toNat_natCast,beq_iff_eq] using h)).symm
   · rcases Nat.lt_or_ge i n with h'|h'
     · exact hJ i h'
     · have:i=n:=by omega
       subst this
       have h2:((s.getD i ([],0,())).1==name)=false:=h
       exact fun e=>by rw [e] at h2;simp at h2
 · dsimp only
   exact dm (by omega) (congrArg (·,()) (Sp.QF s hJ).symm)
theorem atw {k:Int} (h:(k !=1)=false∨(k !=2)=false):(decide (1≤k)&&decide (k≤2))=true:=by
 have:k=1∨k=2:=h.imp (by simp) (by simp)
 rcases this with h|h<;>subst h<;>rfl
theorem avt {k:Int} (h1:(k !=1)=true) (h2:(k !=2)=true):(decide (1≤k)&&decide (k≤2))=false:=by
 have h1:k≠1:=by simpa using h1
 have h2:k≠2:=by simpa using h2
 rw [Bool.and_eq_false_iff]
 by_cases h:k<1
 · left;exact decide_eq_false (by omega)
 · right;exact decide_eq_false (by omega)
theorem Hw:ai prog G oh.e:=by
 refine TB (aj ah ⟨FH,trivial⟩) ?_
 intro s hin hp
 dsimp only [oh] at hp ⊢
 have hlen:s.length≤maxLen:=hin.1.1
 rw [maxLen_eq] at hlen
 refine jd s.length hlen (fun n=>∀ i,i<n→Sp.lW s i=true) (fun i hi=>by omega) (fun I μ n hn hJ next=>?_) fun I μ hJ=>?_
 · dsimp only
   have no:Sp.lW s n=false→(false,())=(Sp.fM s,()):=fun h=>by rw [Sp.aer hn h]
   have rest:Sp.jT (Sp.fieldAt s n).1=true→(decide (1≤(Sp.fieldAt s n).2.1)&&decide ((Sp.fieldAt s n).2.1≤2))=true→
    bif decide ((n:Int)>0) then
     ((0:Int)≤IntKind.i64.wrap ((n:Int)-1)∧IntKind.i64.wrap ((n:Int)-1)<(s.length:Int))∧
       bif !Op.bytesLess (s.getD (IntKind.i64.wrap ((n:Int)-1)).toNat ([],0,())).fst (s.getD (Int.toNat (n:Int)) ([],0,())).fst then (false,())=(Sp.fM s,())
       else True∧I ((IntKind.i64.wrap ((n:Int)+1),()),())∧μ ((IntKind.i64.wrap ((n:Int)+1),()),())<μ (((n:Int),()),())
    else True∧I ((IntKind.i64.wrap ((n:Int)+1),()),())∧μ ((IntKind.i64.wrap ((n:Int)+1),()),())<μ (((n:Int),()),()):=by
    intro h2 h3
    refine af (fun h4=>?_) fun h4=>⟨trivial,next (eY hJ ?_)⟩
    · have h4:0<n:=by have:=gG h4;omega
      rw [zo h4 (by omega)]
      refine ⟨⟨by omega,by omega⟩,af (fun h5=>no ?_) fun h5=>⟨trivial,next (eY hJ ?_)⟩⟩
      · have h5:Op.bytesLess (Sp.fieldAt s (n-1)).1 (Sp.fieldAt s n).1=false:=fO h5
        unfold Sp.lW;rw [h2,h3,h5,decide_eq_true h4];rfl
      · have h5:Op.bytesLess (Sp.fieldAt s (n-1)).1 (Sp.fieldAt s n).1=true:=dI h5
        unfold Sp.lW;rw [h2,h3,h5,decide_eq_true h4];rfl
    · have h4:¬ 0<n:=by have:=iw h4;omega
      unfold Sp.lW;rw [h2,h3,decide_eq_false h4];rfl
   simp only [true_and] at rest
   refine dh (by omega) ⟨⟨by omega,by omega⟩,trivial,af (fun h2=>no ?_) fun h2=>af (fun h3=>af (fun h4=>no ?_) fun h4=>?_) fun h3=>?_⟩
   · have h2:Sp.jT (Sp.fieldAt s n).1=false:=fO h2
     unfold Sp.lW;rw [h2];rfl
   · have h2:Sp.jT (Sp.fieldAt s n).1=true:=dI h2
     have h3:(decide (1≤(Sp.fieldAt s n).2.1)&&decide ((Sp.fieldAt s n).2.1≤2))=false:=avt h3 h4
     unfold Sp.lW;rw [h2,h3];rfl
   · have h2:Sp.jT (Sp.fieldAt s n).1=true:=dI h2
     have h3:(decide (1≤(Sp.fieldAt s n).2.1)&&decide ((Sp.fieldAt s n).2.1≤2))=true:=atw (.inr h4)
     simp only [true_and]
     exact rest h2 h3
   · have h2:Sp.jT (Sp.fieldAt s n).1=true:=dI h2
     have h3:(decide (1≤(Sp.fieldAt s n).2.1)&&decide ((Sp.fieldAt s n).2.1≤2))=true:=atw (.inl h3)
     simp only [true_and]
     exact rest h2 h3
 · dsimp only
   refine dm (by omega) (congrArg (·,()) ?_)
   unfold Sp.fM
   rw [qw hJ];rfl
theorem TD:ai prog G sS.e:=by
 refine TF (aj ah ⟨acY,IK,trivial⟩) ?_
 intro fs s k n w hin hp
 dsimp only [sS] at hp ⊢
 refine ⟨trivial,af (fun h=>af (fun h2=>⟨trivial,?_⟩) fun h2=>?_) fun h=>?_⟩
 · exact congrArg (·,()) (Bool.eq_iff_iff.2 (by simp only [bne_iff_ne,ne_eq] at h2;simp [Sp.jD,h,h2]))
 · exact congrArg (·,()) (Bool.eq_iff_iff.2 (by simp at h2;simp [Sp.jD,h2]))
 · exact congrArg (·,()) (Bool.eq_iff_iff.2 (by simp [Sp.jD,h]))
theorem Jl:ai prog G ru.e:=by
 refine XB (aj ah ⟨Hw,JD,vS,TD,trivial⟩) ?_
 intro fs f0 f1 f2 f3 f4 hin hp
 dsimp only [ru] at hp ⊢
 have hlen:f4.length≤maxLen:=hin.2.1.2.2.2.2.1.1
 rw [maxLen_eq] at hlen
 refine jd f4.length hlen (fun n=>∀ i,i<n→Sp.kL fs f4 i=true) (fun i hi=>by omega) (fun I μ n hn hJ next=>?_) fun I μ hJ=>?_
 · dsimp only
   have no:Sp.kL fs f4 n=false→(false,())=(Sp.cO fs (f0,f1,f2,f3,f4,()),()):=fun h=>by rw [Sp.am7 (f:=(f0,f1,f2,f3,f4,())) hn h]
   refine dh (by omega) ⟨⟨by omega,by omega⟩,af (fun h4=>?_) fun h4=>⟨trivial,af (fun h2=>no ?_) fun h2=>⟨rfl,next (eY hJ ?_)⟩⟩⟩
   · have h4:0<n:=by have:=gG h4;omega
     rw [zo h4 (by omega)]
     refine ⟨⟨by omega,by omega⟩,af (fun h5=>no ?_) fun h5=>⟨trivial,af (fun h2=>no ?_) fun h2=>⟨rfl,next (eY hJ ?_)⟩⟩⟩
     · have h5:Op.bytesLess (Sp.bT f4 (n-1)).1 (Sp.bT f4 n).1=false:=fO h5
       unfold Sp.kL;rw [h5,decide_eq_true h4];exact Bool.and_false _
     · have h2:Sp.jD fs (Sp.bT f4 n).1 (Sp.bT f4 n).2.1 (Sp.bT f4 n).2.2.1 (Sp.bT f4 n).2.2.2.1=false:=fO h2
       unfold Sp.kL;rw [h2];rfl
     · have h2:Sp.jD fs (Sp.bT f4 n).1 (Sp.bT f4 n).2.1 (Sp.bT f4 n).2.2.1 (Sp.bT f4 n).2.2.2.1=true:=dI h2
       have h5:Op.bytesLess (Sp.bT f4 (n-1)).1 (Sp.bT f4 n).1=true:=dI h5
       unfold Sp.kL;rw [h2,h5,decide_eq_true h4];rfl
   · have h2:Sp.jD fs (Sp.bT f4 n).1 (Sp.bT f4 n).2.1 (Sp.bT f4 n).2.2.1 (Sp.bT f4 n).2.2.2.1=false:=fO h2
     unfold Sp.kL;rw [h2];rfl
   · have h2:Sp.jD fs (Sp.bT f4 n).1 (Sp.bT f4 n).2.1 (Sp.bT f4 n).2.2.1 (Sp.bT f4 n).2.2.2.1=true:=dI h2
     have h4:¬ 0<n:=by have:=iw h4;omega
     unfold Sp.kL;rw [h2,decide_eq_false h4];rfl
 · dsimp only
   have ha:Sp.lH fs f4=true:=qw hJ
   refine dm (by omega) ⟨trivial,af (fun h1=>⟨trivial,af (fun h2=>⟨trivial,af (fun h3=>⟨trivial,?_⟩) fun h3=>?_⟩) fun h2=>?_⟩) fun h1=>?_⟩
   all_goals refine congrArg (·,()) ?_
   · show Sp.fM fs=(Sp.lH fs f4&&Sp.fM fs&&(decide (1≤f0)&&decide (f0≤60))&&(decide (0≤f1)&&decide (f1≤2))&&(decide (0≤f3)&&decide (f3≤60)))
     rw [ha,h1,h2,h3];cases Sp.fM fs<;>rfl
   · show false=(Sp.lH fs f4&&Sp.fM fs&&(decide (1≤f0)&&decide (f0≤60))&&(decide (0≤f1)&&decide (f1≤2))&&(decide (0≤f3)&&decide (f3≤60)))
     rw [h3,Bool.and_false]
   · show false=(Sp.lH fs f4&&Sp.fM fs&&(decide (1≤f0)&&decide (f0≤60))&&(decide (0≤f1)&&decide (f1≤2))&&(decide (0≤f3)&&decide (f3≤60)))
     rw [h2,Bool.and_false,Bool.false_and]
   · show false=(Sp.lH fs f4&&Sp.fM fs&&(decide (1≤f0)&&decide (f0≤60))&&(decide (0≤f1)&&decide (f1≤2))&&(decide (0≤f3)&&decide (f3≤60)))
     rw [h1,Bool.and_false,Bool.false_and,Bool.false_and]
theorem IL:ai prog G qg.e:=by
 refine U7 (aj ah ⟨vS,Hw,Jl,trivial⟩) ?_
 intro s0 s1 s2 hin hp
 dsimp only [qg] at hp ⊢
 have hlen:s1.length≤maxLen:=hin.1.2.1.1
 rw [maxLen_eq] at hlen
 refine jd s1.length hlen (fun n=>∀ i,i<n→Sp.lC (s0,s1,s2,()) i=true) (fun i hi=>by omega) (fun I μ n hn hJ next=>?_) fun I μ hJ=>?_
 · dsimp only
   have no:Sp.lC (s0,s1,s2,()) n=false→(false,())=(Sp.aH (s0,s1,s2,()),()):=fun h=>by rw [Sp.aif (s:=(s0,s1,s2,())) hn h]
   refine dh (by omega) ⟨⟨by omega,by omega⟩,trivial,af (fun h2=>no ?_) fun h2=>af (fun h3=>no ?_) fun h3=>af (fun h4=>?_) fun h4=>⟨rfl,next (eY hJ ?_)⟩⟩
   · have h2:Sp.cO s0 (Sp.fileAt s1 n)=false:=fO h2
     show (Sp.cO s0 (Sp.fileAt s1 n)&&_&&_)=false
     rw [h2];rfl
   · have h2:Sp.cO s0 (Sp.fileAt s1 n)=true:=dI h2
     have h3:¬ (Sp.fileAt s1 n).1<s2:=by have h3:(Sp.fileAt s1 n).1≥s2:=gG h3;omega
     show (Sp.cO s0 (Sp.fileAt s1 n)&&decide ((Sp.fileAt s1 n).1<s2)&&_)=false
     rw [h2,decide_eq_false h3];rfl
   · have h2:Sp.cO s0 (Sp.fileAt s1 n)=true:=dI h2
     have h3:(Sp.fileAt s1 n).1<s2:=by have h3:¬ (Sp.fileAt s1 n).1≥s2:=iw h3;omega
     have h4:0<n:=by have:=gG h4;omega
     rw [zo h4 (by omega)]
     refine ⟨⟨by omega,by omega⟩,af (fun h5=>no ?_) fun h5=>⟨rfl,next (eY hJ ?_)⟩⟩
     · have h5:¬ (Sp.fileAt s1 (n-1)).1<(Sp.fileAt s1 n).1:=by have h5:(Sp.fileAt s1 (n-1)).1≥(Sp.fileAt s1 n).1:=gG h5;omega
       show (Sp.cO s0 (Sp.fileAt s1 n)&&decide ((Sp.fileAt s1 n).1<s2)&&!(decide (0<n)&&!decide ((Sp.fileAt s1 (n-1)).1<(Sp.fileAt s1 n).1)))=false
       rw [h2,decide_eq_true h3,decide_eq_true h4,decide_eq_false h5];rfl
     · have h5:(Sp.fileAt s1 (n-1)).1<(Sp.fileAt s1 n).1:=by have h5:¬ (Sp.fileAt s1 (n-1)).1≥(Sp.fileAt s1 n).1:=iw h5;omega
       show (Sp.cO s0 (Sp.fileAt s1 n)&&decide ((Sp.fileAt s1 n).1<s2)&&!(decide (0<n)&&!decide ((Sp.fileAt s1 (n-1)).1<(Sp.fileAt s1 n).1)))=true
       rw [h2,decide_eq_true h3,decide_eq_true h4,decide_eq_true h5];rfl
   · have h2:Sp.cO s0 (Sp.fileAt s1 n)=true:=dI h2
     have h3:(Sp.fileAt s1 n).1<s2:=by have h3:¬ (Sp.fileAt s1 n).1≥s2:=iw h3;omega
     have h4:¬ 0<n:=by have:=iw h4;omega
     show (Sp.cO s0 (Sp.fileAt s1 n)&&decide ((Sp.fileAt s1 n).1<s2)&&!(decide (0<n)&&!decide ((Sp.fileAt s1 (n-1)).1<(Sp.fileAt s1 n).1)))=true
     rw [h2,decide_eq_true h3,decide_eq_false h4];rfl
 · dsimp only
   have ha:Sp.jQ s1.length (Sp.lC (s0,s1,s2,()))=true:=qw hJ
   refine dm (by omega) ⟨trivial,af (fun h1=>af (fun h2=>⟨trivial,?_⟩) fun h2=>?_) fun h1=>?_⟩
   · refine congrArg (·,()) ?_
     show _=(Sp.jQ s1.length (Sp.lC (s0,s1,s2,()))&&Sp.fM s0&&decide ((s1.length:Int)≤12)&&(decide (1≤s2)&&decide (s2≤61)))
     rw [ha,h1,h2];rfl
   · refine congrArg (·,()) ?_
     show _=(Sp.jQ s1.length (Sp.lC (s0,s1,s2,()))&&Sp.fM s0&&decide ((s1.length:Int)≤12)&&(decide (1≤s2)&&decide (s2≤61)))
     rw [ha,h1,h2];rfl
   · refine congrArg (·,()) ?_
     show _=(Sp.jQ s1.length (Sp.lC (s0,s1,s2,()))&&Sp.fM s0&&decide ((s1.length:Int)≤12)&&(decide (1≤s2)&&decide (s2≤61)))
     rw [ha,h1];rfl
theorem apA {α:Type} {l:List α} {lo:Nat} {news:List α} (h:lo+news.length≤l.length):(fD l lo news).length=l.length:=by
 unfold fD
 simp only [List.length_append,List.length_take,List.length_drop]
 omega
theorem am9 {α:Type} {l:List α} {lo k:Nat} {news:List α} (hk:k≤lo) (h:lo≤l.length):(fD l lo news).take k=l.take k:=by
 unfold fD
 rw [List.append_assoc,List.take_append_of_le_length (by rw [List.length_take];omega),List.take_take,Nat.min_eq_left hk]
theorem ac0:ai prog G qI.e:=by
 refine ac1 (aj ah ⟨GR,trivial⟩) (fun ⟨l,_⟩ _=>⟨((l,()),()),rfl⟩) ?_
 intro l hin hp
 dsimp only [qI] at hp ⊢
 obtain ⟨h1,h2⟩:l.length≤1000∧∀ f∈l,Sp.bW f:=hp
 refine dM (fun i (x:List Sp.aK)=>(((),i,()),x,())) (fun y=>y.1.2.1) (fun _ _=>rfl) l.length (by omega) (fun n x=>x=l.take n) (by simp) (fun I μ n x hn hJ next=>?_) fun I μ x hJ=>?_
 · subst hJ
   have hl:(l.take n).length≤n:=by rw [List.length_take];omega
   dsimp only
   refine dh (by omega) ⟨⟨by omega,by omega⟩,h2 _ (getD_mem (d:=((0:Int),(0:Int),false,(0:Int),[],())) hn),by rw [bU];simp only [List.length_cons,List.length_nil];omega,rfl,next _ ?_⟩
   exact (Sp.take_succ' l n (0,0,false,0,[],()) hn).symm
 · subst hJ
   dsimp only
   refine dm (by omega) ?_
   show List.take l.length l=l
   rw [List.take_length]
theorem FO:ai prog G kZ.e:=by
 refine ac2 (aj ah ⟨ac0,Ld,trivial⟩) (fun ⟨(a,l,nx,_),_⟩ _=>⟨(((a,l,nx,()),()),()),rfl⟩) ?_
 intro s0 s1 s2 hin hp
 dsimp only [kZ] at hp ⊢
 obtain ⟨h0,h1,h2⟩:s0.length≤1000∧s1.length≤1000∧∀ f∈s1,Sp.bW f:=hp
 refine ⟨h0,⟨h1,h2⟩,?_⟩
 rintro ⟨⟨x,⟨⟩⟩,⟨⟩⟩ e
 have e:x=s1:=e
 subst e
 exact rfl
end Go.Proofs.Tryz
