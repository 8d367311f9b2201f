import Derived.Test.YtgbobfdlafkijaaGreatV1
import Derived.Test.YtgbobfdlafkijaaGreatSp
namespace Go.Proofs.Tryz
open Go Go.Fw Go.IntWalk
theorem aBz (x y:Int) (m:Nat) (hm:m<9223372036854775807) (hy:(BitVec.ofInt 64 y).toNat=m):0≤bitsOf .and .i64 x y∧bitsOf .and .i64 x y≤m:=by
 have h:(BitVec.ofInt 64 x&&&BitVec.ofInt 64 y).toNat≤m:=by
  rw [BitVec.toNat_and,hy]
  exact Nat.and_le_right
 show 0≤IntKind.i64.wrap ((BitVec.ofInt 64 x&&&BitVec.ofInt 64 y).toNat:Int)∧IntKind.i64.wrap ((BitVec.ofInt 64 x&&&BitVec.ofInt 64 y).toNat:Int)≤m
 generalize (BitVec.ofInt 64 x&&&BitVec.ofInt 64 y).toNat=z at h ⊢
 rw [iM _ (by omega)]
 omega
theorem aBA (x:Int):0≤bitsOf .and .i64 x 255∧bitsOf .and .i64 x 255≤255:=aBz x 255 255 (by omega) (by decide)
theorem ac1:aG prog G Bc zW:=by
 refine aus (aC (l:=[]) (au ah) (fun x hx=>by cases hx)) (fun ⟨_,⟨⟩⟩ _=>⟨([],0,0,()),rfl⟩) ?_
 intro code hin hp
 have hp:code.length≤1048576:=hp
 refine ⟨fun y=>∃ n:Nat,y.1.2.1=n∧n≤code.length,fun y=>((code.length:Int)-y.1.2.1).toNat,⟨0,rfl,by omega⟩,?_⟩
 rintro ⟨⟨h,_,⟨⟩⟩,⟨⟩⟩ ⟨n,rfl,hn⟩
 dsimp only
 refine af (fun hc=>?_) fun hc=>?_
 · simp only [decide_eq_true_eq] at hc
   cases decide ((n:Int)<4000) with
   |false=>exact rfl
   |true=>
    have e:IntKind.i64.wrap ((n:Int)+1)=((n+1:Nat):Int):=iM _ (by omega)
    refine ⟨?_,?_,?_,?_⟩
    · exact ⟨by omega,hc⟩
    · exact rfl
    · exact ⟨n+1,e,by omega⟩
    show ((code.length:Int)-IntKind.i64.wrap ((n:Int)+1)).toNat<((code.length:Int)-n).toNat
    rw [e]
    omega
 · exact rfl
theorem ark:aG prog G Hr I4:=by
 refine arl (aC (l:=[]) (au ah) (fun x hx=>by cases hx)) (fun _ _=>⟨(((0:Int),()),(([],0,0,()),())),⟨by decide,by decide,by decide⟩⟩) ?_
 intro b i h hin hp
 have hp:0≤i:=hp
 refine ⟨by decide,by decide,af (fun hc=>?_) fun hc=>?_⟩<;>simp only [decide_eq_true_eq,decide_eq_false_iff_not] at hc
 · have hl:b.length≤maxLen:=hin.1.1.1
   rw [maxLen_eq] at hl
   refine ⟨⟨hp,hc⟩,?_,aBA _⟩
   show 0≤IntKind.i64.wrap (i+1)
   rw [iM _ (by omega)]
   omega
 · exact ⟨hp,aBA _⟩
theorem tmod_lt {a n:Int} (ha:0≤a) (hn:0<n):0≤a.tmod n∧a.tmod n<n:=⟨Int.tmod_nonneg n ha,Int.tmod_lt_of_pos a hn⟩
theorem ku:aG prog G dH dw:=by
 refine aoH (aC (l:=[(Hr, .eff (ay zX) I4)]) (au ah) (by simp only [List.forall_mem_cons];exact ⟨⟨ark,aoq⟩,fun x hx=>by cases hx⟩)) (fun ⟨_,n,⟨⟩⟩ _=>⟨(((0:Int),()),(([],0,0,()),())),⟨Int.le_refl _,Int.le_refl _,fun h=>h,fun _=>rfl⟩⟩) ?_
 intro b i h n hin hp
 have hp:0≤i:=hp
 refine af (fun hc=>?_) fun hc=>?_<;>simp only [decide_eq_true_eq,decide_eq_false_iff_not] at hc
 · exact ⟨hp,Int.le_refl _,fun h=>(by omega),fun _=>rfl⟩
 · refine af (fun hc2=>?_) fun hc2=>?_
   · refine ⟨hp,?_⟩
     rintro ⟨⟨x,⟨⟩⟩,⟨b',i',h',⟨⟩⟩,⟨⟩⟩ ⟨h1,h2,h3⟩
     dsimp only at h1 h2 h3 ⊢
     have:=tmod_lt h2 (show 0<n by omega)
     exact ⟨by omega,h1,this.1,fun _=>this.2,fun h=>(by omega)⟩
   · refine ⟨hp,?_⟩
     rintro ⟨⟨x1,⟨⟩⟩,⟨b1,i1,g1,⟨⟩⟩,⟨⟩⟩ ⟨h1,h2,h3⟩
     refine ⟨h1,?_⟩
     rintro ⟨⟨x2,⟨⟩⟩,⟨b2,i2,g2,⟨⟩⟩,⟨⟩⟩ ⟨k1,k2,k3⟩
     refine ⟨k1,?_⟩
     rintro ⟨⟨x3,⟨⟩⟩,⟨b3,i3,g3,⟨⟩⟩,⟨⟩⟩ ⟨l1,l2,l3⟩
     refine ⟨l1,?_⟩
     rintro ⟨⟨x4,⟨⟩⟩,⟨b4,i4,g4,⟨⟩⟩,⟨⟩⟩ ⟨m1,m2,m3⟩
     dsimp only at*
     rw [iM (x1*16777216) (by omega),iM (x2*65536) (by omega),iM (x3*256) (by omega),iM (x1*16777216+x2*65536) (by omega),iM (x1*16777216+x2*65536+x3*256) (by omega),iM (x1*16777216+x2*65536+x3*256+x4) (by omega)]
     have:=tmod_lt (a:=x1*16777216+x2*65536+x3*256+x4) (n:=n) (by omega) (by omega)
     exact ⟨by omega,m1,this.1,fun _=>this.2,fun h=>(by omega)⟩
theorem S9:aG prog G qL o9:=by
 refine arn (aC (l:=[(dH, .eff (ay dn) dw)]) (au ah) (by simp only [List.forall_mem_cons];exact ⟨⟨ku,jG⟩,fun x hx=>by cases hx⟩)) (fun _ _=>⟨((false,()),(([],0,0,()),())),Int.le_refl _⟩) ?_
 intro b i h n hin hp
 refine ⟨hp,?_⟩
 rintro ⟨⟨x,⟨⟩⟩,⟨b',i',h',⟨⟩⟩,⟨⟩⟩ ⟨h1,_⟩
 exact h1
theorem Tc:aG prog G qK pq:=by
 refine aro (aC (l:=[(dH, .eff (ay dn) dw)]) (au ah) (by simp only [List.forall_mem_cons];exact ⟨⟨ku,jG⟩,fun x hx=>by cases hx⟩)) (fun ⟨_,l,⟨⟩⟩ ⟨_,hl⟩=>(match l,hl with|x::_,_=>⟨((x.1,()),(([],0,0,()),())),⟨Int.le_refl _,List.mem_cons_self⟩⟩)) ?_
 intro b i h l hin hp
 obtain ⟨hp,hl⟩:=hp
 have hpos:0<l.length:=List.length_pos_iff.2 hl
 refine ⟨hp,?_⟩
 rintro ⟨⟨x,⟨⟩⟩,⟨b',i',h',⟨⟩⟩,⟨⟩⟩ ⟨h1,h2,h3,_⟩
 have h3:x<(l.length:Int):=h3 (by omega)
 refine ⟨⟨h2,h3⟩,h1,?_⟩
 exact getD_mem (by dsimp only at h2;omega)
theorem ajd:aG prog G BA DZ:=by
 refine aje (aC (l:=[(dH, .eff (ay dn) dw)]) (au ah) (by simp only [List.forall_mem_cons];exact ⟨⟨ku,jG⟩,fun x hx=>by cases hx⟩)) (fun ⟨_,l,⟨⟩⟩ ⟨_,hl⟩=>(match l,hl with|x::_,_=>⟨((x.1,()),(([],0,0,()),())),⟨Int.le_refl _,List.mem_cons_self⟩⟩)) ?_
 intro b i h l hin hp
 obtain ⟨hp,hl⟩:=hp
 have hpos:0<l.length:=List.length_pos_iff.2 hl
 refine ⟨hp,?_⟩
 rintro ⟨⟨x,⟨⟩⟩,⟨b',i',h',⟨⟩⟩,⟨⟩⟩ ⟨h1,h2,h3,_⟩
 have h3:x<(l.length:Int):=h3 (by omega)
 refine ⟨⟨h2,h3⟩,h1,?_⟩
 exact getD_mem (by dsimp only at h2;omega)
theorem aoI:aG prog G Fb Gu:=by
 refine aoJ (aC (l:=[]) (au ah) (fun x hx=>by cases hx)) (fun _ _=>⟨((Sp.usual,()),()),rfl⟩) ?_
 intro hin hp
 exact rfl
theorem PU:aA prog G oP oh:=by
 refine aoK (aC (l:=[]) (au ah) (fun x hx=>by cases hx)) ?_
 intro n hin hp
 exact rfl
theorem Ut:aA prog G pO qo:=by
 refine agB (aC (l:=[]) (au ah) (fun x hx=>by cases hx)) ?_
 intro n hin hp
 exact rfl
theorem xk:aA prog G iU gX:=by
 refine awI (aC (l:=[]) (au ah) (fun x hx=>by cases hx)) ?_
 intro x a b hin hp
 refine af (fun h=>?_) fun h=>?_
 · have h:=jw h
   show (decide (x≤b),())=(decide (a≤x)&&decide (x≤b),())
   rw [decide_eq_true (show a≤x from h)];rfl
 · have h:=jB h
   show (false,())=(decide (a≤x)&&decide (x≤b),())
   rw [decide_eq_false (show ¬ a≤x from h)];rfl
theorem yL:aA prog G iZ iF:=by
 refine aut (aC (l:=[]) (au ah) (fun x hx=>by cases hx)) ?_
 intro x a b hin hp
 refine af (fun h=>?_) fun h=>?_
 · show (decide (x≤b),())=(decide (a≤x)&&decide (x≤b),())
   rw [h];rfl
 · show (false,())=(decide (a≤x)&&decide (x≤b),())
   rw [h];rfl
theorem Yc {s:List UInt8} {n:Nat} (hlt:n<s.length) (hl:Sp.lower s=true):97≤(s.getD n 0).toNat∧(s.getD n 0).toNat≤122:=by
 have:=List.all_eq_true.1 hl _ (getD_mem (d:=0) hlt)
 simpa using this
theorem aaS:aA prog G yG yt:=by
 refine arp (aC (l:=[(iU, .pure gX)]) (au ah) (by simp only [List.forall_mem_cons];exact ⟨⟨xk,vF⟩,fun x hx=>by cases hx⟩)) ?_
 intro s most hin hp
 have hlen:s.length≤maxLen:=hin.1
 rw [maxLen_eq] at hlen
 refine ⟨fun y=>∃ n:Nat,y.1.1=n∧n≤s.length∧Sp.lower (s.take n)=true,fun y=>((s.length:Int)-y.1.1).toNat,⟨0,rfl,by omega,rfl⟩,?_⟩
 rintro ⟨⟨_,⟨⟩⟩,⟨⟩⟩ ⟨n,rfl,hn,hJ⟩
 dsimp only
 refine af (fun h=>?_) fun h=>?_<;>simp only [decide_eq_true_eq,decide_eq_false_iff_not] at h
 · have hlt:n<s.length:=by omega
   rw [iM _ (by omega),Int.toNat_natCast]
   refine ⟨⟨by omega,by omega⟩,af (fun h2=>?_) fun h2=>⟨⟨by omega,by omega⟩,af (fun h3=>?_) fun h3=>?_⟩⟩<;>simp only [decide_eq_true_eq,decide_eq_false_iff_not] at*
   · cases hl:Sp.lower s with
     |false=>rfl
     |true=>have:=Yc hlt hl;omega
   · cases hl:Sp.lower s with
     |false=>rfl
     |true=>have:=Yc hlt hl;omega
   · refine ⟨trivial,⟨n+1,by simp,by omega,?_⟩,by omega⟩
     rw [Sp.take_succ' s n 0 hlt]
     unfold Sp.lower at hJ ⊢
     rw [List.all_append,hJ]
     simp only [List.all_cons,List.all_nil,Bool.and_true,Bool.true_and,Bool.and_eq_true,decide_eq_true_eq]
     omega
 · have hge:n=s.length:=by omega
   rw [hge,List.take_length] at hJ
   rw [hJ]
   exact ⟨trivial,rfl⟩
theorem Iy:aA prog G jK jO:=by
 refine ac2 (aC (l:=[(yG, .pure yt)]) (au ah) (by simp only [List.forall_mem_cons];exact ⟨⟨aaS,Zq⟩,fun x hx=>by cases hx⟩)) ?_
 intro s hin hp
 exact ⟨trivial,rfl⟩
theorem Td:aA prog G oI o5:=by
 refine aev (aC (l:=[(jK, .pure jO),(iU, .pure gX)]) (au ah) (by simp only [List.forall_mem_cons];exact ⟨⟨Iy,F9⟩,⟨xk,vF⟩,fun x hx=>by cases hx⟩)) ?_
 intro k n s hin hp
 refine af (fun h=>?_) fun h=>af (fun h2=>⟨trivial,af (fun h3=>?_) fun h3=>?_⟩) fun h2=>af (fun h3=>⟨trivial,af (fun h4=>?_) fun h4=>?_⟩) fun h3=>?_
 · have e:k=0:=by simpa using h
   subst e
   exact congrArg (·,()) (Bool.eq_iff_iff.2 (by simp [Sp.kF]))
 · have e:k=1:=by simpa using h2
   subst e
   exact congrArg (·,()) (Bool.eq_iff_iff.2 (by simp only [Bool.and_eq_true,decide_eq_true_eq] at h3;simp [Sp.kF,h3]))
 · have e:k=1:=by simpa using h2
   subst e
   exact congrArg (·,()) (Bool.eq_iff_iff.2 (by simp only [Sp.kF,h3];simp))
 · have e:k=2:=by simpa using h3
   subst e
   exact congrArg (·,()) (Bool.eq_iff_iff.2 (by simp [Sp.kF,h4]))
 · have e:k=2:=by simpa using h3
   subst e
   exact congrArg (·,()) (Bool.eq_iff_iff.2 (by simp [Sp.kF,h4]))
 · have e1:k≠0:=by simpa using h
   have e2:k≠1:=by simpa using h2
   have e3:k≠2:=by simpa using h3
   exact congrArg (·,()) (Bool.eq_iff_iff.2 (by simp [Sp.kF,e1,e2,e3]))
theorem Nw:aA prog G kY lM:=by
 refine aad (aC (l:=[(yG, .pure yt)]) (au ah) (by simp only [List.forall_mem_cons];exact ⟨⟨aaS,Zq⟩,fun x hx=>by cases hx⟩)) ?_
 intro s hin hp
 exact ⟨trivial,rfl⟩
theorem alR:aA prog G Dv EK:=by
 refine alS (aC (l:=[]) (au ah) (fun x hx=>by cases hx)) ?_
 intro s name hin hp
 have hlen:s.length≤maxLen:=hin.1.1
 rw [maxLen_eq] at hlen
 refine jH s.length hlen (fun n=>∀ i,i<n→(s.getD i ([],0,())).1≠name) (fun i hi=>by omega) (fun I μ n hn hJ next=>?_) fun I μ hJ=>?_
 · dsimp only
   refine eF (by omega) ⟨⟨by omega,by omega⟩,af (fun h=>⟨⟨by omega,by omega⟩,?_⟩) fun h=>⟨rfl,next fun i hi=>?_⟩⟩
   · exact congrArg (·,()) (Sp.ajf s n hn hJ (by simpa only [Int.toNat_natCast,beq_iff_eq] using h)).symm
   · rcases Nat.lt_or_ge i n with h'|h'
     · exact hJ i h'
     · have:i=n:=by omega
       subst this
       have h2:((s.getD i ([],0,())).1==name)=false:=h
       exact fun e=>by rw [e] at h2;simp at h2
 · dsimp only
   exact eG (by omega) (congrArg (·,()) (Sp.abu s hJ).symm)
theorem QD:aA prog G nD nS:=by
 refine ac3 (aC (l:=[(iU, .pure gX),(kY, .pure lM)]) (au ah) (by simp only [List.forall_mem_cons];exact ⟨⟨xk,vF⟩,⟨Nw,MC⟩,fun x hx=>by cases hx⟩)) ?_
 intro s hin hp
 have hlen:s.length≤maxLen:=hin.1.1
 rw [maxLen_eq] at hlen
 refine jH s.length hlen (fun n=>∀ i,i<n→Sp.oD s i=true) (fun i hi=>by omega) (fun I μ n hn hJ next=>?_) fun I μ hJ=>?_
 · dsimp only
   have no:Sp.oD s n=false→(false,())=(Sp.fZ s,()):=fun h=>by rw [Sp.ank hn h]
   refine eF (by omega) ⟨⟨by omega,by omega⟩,trivial,af (fun h2=>no ?_) fun h2=>⟨⟨by omega,by omega⟩,trivial,af (fun h3=>no ?_) fun h3=>af (fun h4=>?_) fun h4=>⟨rfl,next (fA hJ ?_)⟩⟩⟩
   · have h2:Sp.kN (Sp.fieldAt s n).1=false:=kQ h2
     unfold Sp.oD;rw [h2];rfl
   · have h2:Sp.kN (Sp.fieldAt s n).1=true:=ig h2
     have h3:(decide (1≤(Sp.fieldAt s n).2.1)&&decide ((Sp.fieldAt s n).2.1≤2))=false:=kQ h3
     unfold Sp.oD;rw [h2,h3];rfl
   · have h2:Sp.kN (Sp.fieldAt s n).1=true:=ig h2
     have h3:(decide (1≤(Sp.fieldAt s n).2.1)&&decide ((Sp.fieldAt s n).2.1≤2))=true:=ig h3
     have h4:0<n:=by have:=jw h4;omega
     rw [Dt h4 (by omega)]
     refine ⟨⟨by omega,by omega⟩,⟨by omega,by omega⟩,af (fun h5=>no ?_) fun h5=>⟨rfl,next (fA hJ ?_)⟩⟩
     · have h5:Op.bytesLess (Sp.fieldAt s (n-1)).1 (Sp.fieldAt s n).1=false:=kQ h5
       unfold Sp.oD;rw [h2,h3,h5,decide_eq_true h4];rfl
     · have h5:Op.bytesLess (Sp.fieldAt s (n-1)).1 (Sp.fieldAt s n).1=true:=ig h5
       unfold Sp.oD;rw [h2,h3,h5,decide_eq_true h4];rfl
   · have h2:Sp.kN (Sp.fieldAt s n).1=true:=ig h2
     have h3:(decide (1≤(Sp.fieldAt s n).2.1)&&decide ((Sp.fieldAt s n).2.1≤2))=true:=ig h3
     have h4:¬ 0<n:=by have:=jB h4;omega
     unfold Sp.oD;rw [h2,h3,decide_eq_false h4];rfl
 · dsimp only
   refine eG (by omega) (congrArg (·,()) ?_)
   unfold Sp.fZ
   rw [sQ hJ];rfl
theorem ac4:aA prog G vW yO:=by
 refine ac5 (aC (l:=[(Dv, .pure EK),(oI, .pure o5)]) (au ah) (by simp only [List.forall_mem_cons];exact ⟨⟨alR,ai0⟩,⟨Td,Qy⟩,fun x hx=>by cases hx⟩)) ?_
 intro fs s k n w hin hp
 refine ⟨trivial,af (fun h=>af (fun h2=>⟨trivial,?_⟩) fun h2=>?_) fun h=>?_⟩
 · exact congrArg (·,()) (Bool.eq_iff_iff.2 (by simp only [bne_iff_ne,ne_eq] at h2;simp [Sp.jb,h,h2]))
 · exact congrArg (·,()) (Bool.eq_iff_iff.2 (by simp at h2;simp [Sp.jb,h2]))
 · exact congrArg (·,()) (Bool.eq_iff_iff.2 (by simp [Sp.jb,h]))
theorem Uu:aA prog G pI qp:=by
 refine agC (aC (l:=[(iU, .pure gX),(nD, .pure nS),(vW, .pure yO)]) (au ah) (by simp only [List.forall_mem_cons];exact ⟨⟨xk,vF⟩,⟨QD,OQ⟩,⟨ac4,abr⟩,fun x hx=>by cases hx⟩)) ?_
 intro fs f0 f1 f2 f3 f4 hin hp
 have hlen:f4.length≤maxLen:=hin.2.1.2.2.2.2.1.1
 rw [maxLen_eq] at hlen
 refine jH f4.length hlen (fun n=>∀ i,i<n→Sp.lZ fs f4 i=true) (fun i hi=>by omega) (fun I μ n hn hJ next=>?_) fun I μ hJ=>?_
 · dsimp only
   have no:Sp.lZ fs f4 n=false→(false,())=(Sp.dA fs (f0,f1,f2,f3,f4,()),()):=fun h=>by rw [Sp.av2 (f:=(f0,f1,f2,f3,f4,())) hn h]
   refine eF (by omega) ⟨⟨by omega,by omega⟩,⟨by omega,by omega⟩,trivial,af (fun h2=>no ?_) fun h2=>af (fun h4=>?_) fun h4=>⟨rfl,next (fA hJ ?_)⟩⟩
   · have h2:Sp.jb fs (Sp.cu f4 n).1 (Sp.cu f4 n).2.1 (Sp.cu f4 n).2.2.1 (Sp.cu f4 n).2.2.2.1=false:=kQ h2
     unfold Sp.lZ;rw [h2];rfl
   · have h2:Sp.jb fs (Sp.cu f4 n).1 (Sp.cu f4 n).2.1 (Sp.cu f4 n).2.2.1 (Sp.cu f4 n).2.2.2.1=true:=ig h2
     have h4:0<n:=by have:=jw h4;omega
     rw [Dt h4 (by omega)]
     refine ⟨⟨by omega,by omega⟩,⟨by omega,by omega⟩,af (fun h5=>no ?_) fun h5=>⟨rfl,next (fA hJ ?_)⟩⟩
     · have h5:Op.bytesLess (Sp.cu f4 (n-1)).1 (Sp.cu f4 n).1=false:=kQ h5
       unfold Sp.lZ;rw [h2,h5,decide_eq_true h4];rfl
     · have h5:Op.bytesLess (Sp.cu f4 (n-1)).1 (Sp.cu f4 n).1=true:=ig h5
       unfold Sp.lZ;rw [h2,h5,decide_eq_true h4];rfl
   · have h2:Sp.jb fs (Sp.cu f4 n).1 (Sp.cu f4 n).2.1 (Sp.cu f4 n).2.2.1 (Sp.cu f4 n).2.2.2.1=true:=ig h2
     have h4:¬ 0<n:=by have:=jB h4;omega
     unfold Sp.lZ;rw [h2,decide_eq_false h4];rfl
 · dsimp only
   have ha:Sp.lQ fs f4=true:=sQ hJ
   refine eG (by omega) ⟨trivial,af (fun h1=>⟨trivial,af (fun h2=>⟨trivial,af (fun h3=>⟨trivial,?_⟩) fun h3=>?_⟩) fun h2=>?_⟩) fun h1=>?_⟩
   · refine congrArg (·,()) ?_
     unfold Sp.dA
     rw [ha,h1,h2,h3];rfl
   · refine congrArg (·,()) ?_
     unfold Sp.dA
     rw [ha,h1,h2,h3];rfl
   · refine congrArg (·,()) ?_
     unfold Sp.dA
     rw [ha,h1,h2];rfl
   · refine congrArg (·,()) ?_
     unfold Sp.dA
     rw [ha,h1];rfl
theorem JG:aA prog G kz kG:=by
 refine aew (aC (l:=[(iU, .pure gX),(nD, .pure nS),(pI, .pure qp)]) (au ah) (by simp only [List.forall_mem_cons];exact ⟨⟨xk,vF⟩,⟨QD,OQ⟩,⟨Uu,SH⟩,fun x hx=>by cases hx⟩)) ?_
 intro s0 s1 s2 hin hp
 have hlen:s1.length≤maxLen:=hin.1.2.1.1
 rw [maxLen_eq] at hlen
 refine jH s1.length hlen (fun n=>∀ i,i<n→Sp.nK (s0,s1,s2,()) i=true) (fun i hi=>by omega) (fun I μ n hn hJ next=>?_) fun I μ hJ=>?_
 · dsimp only
   have no:Sp.nK (s0,s1,s2,()) n=false→(false,())=(Sp.aN (s0,s1,s2,()),()):=fun h=>by rw [Sp.arq (s:=(s0,s1,s2,())) hn h]
   refine eF (by omega) ⟨⟨by omega,by omega⟩,trivial,af (fun h2=>no ?_) fun h2=>⟨⟨by omega,by omega⟩,af (fun h3=>no ?_) fun h3=>af (fun h4=>?_) fun h4=>⟨rfl,next (fA hJ ?_)⟩⟩⟩
   · have h2:Sp.dA s0 (Sp.fileAt s1 n)=false:=kQ h2
     show (Sp.dA s0 (Sp.fileAt s1 n)&&_&&_)=false
     rw [h2];rfl
   · have h2:Sp.dA s0 (Sp.fileAt s1 n)=true:=ig h2
     have h3:¬ (Sp.fileAt s1 n).1<s2:=by have h3:(Sp.fileAt s1 n).1≥s2:=jw h3;omega
     show (Sp.dA s0 (Sp.fileAt s1 n)&&decide ((Sp.fileAt s1 n).1<s2)&&_)=false
     rw [h2,decide_eq_false h3];rfl
   · have h2:Sp.dA s0 (Sp.fileAt s1 n)=true:=ig h2
     have h3:(Sp.fileAt s1 n).1<s2:=by have h3:¬ (Sp.fileAt s1 n).1≥s2:=jB h3;omega
     have h4:0<n:=by have:=jw h4;omega
     rw [Dt h4 (by omega)]
     refine ⟨⟨by omega,by omega⟩,⟨by omega,by omega⟩,af (fun h5=>no ?_) fun h5=>⟨rfl,next (fA hJ ?_)⟩⟩
     · have h5:¬ (Sp.fileAt s1 (n-1)).1<(Sp.fileAt s1 n).1:=by have h5:(Sp.fileAt s1 (n-1)).1≥(Sp.fileAt s1 n).1:=jw h5;omega
       show (Sp.dA s0 (Sp.fileAt s1 n)&&decide ((Sp.fileAt s1 n).1<s2)&&!(decide (0<n)&&!decide ((Sp.fileAt s1 (n-1)).1<(Sp.fileAt s1 n).1)))=false
       rw [h2,decide_eq_true h3,decide_eq_true h4,decide_eq_false h5];rfl
     · have h5:(Sp.fileAt s1 (n-1)).1<(Sp.fileAt s1 n).1:=by have h5:¬ (Sp.fileAt s1 (n-1)).1≥(Sp.fileAt s1 n).1:=jB h5;omega
       show (Sp.dA s0 (Sp.fileAt s1 n)&&decide ((Sp.fileAt s1 n).1<s2)&&!(decide (0<n)&&!decide ((Sp.fileAt s1 (n-1)).1<(Sp.fileAt s1 n).1)))=true
       rw [h2,decide_eq_true h3,decide_eq_true h4,decide_eq_true h5];rfl
   · have h2:Sp.dA s0 (Sp.fileAt s1 n)=true:=ig h2
     have h3:(Sp.fileAt s1 n).1<s2:=by have h3:¬ (Sp.fileAt s1 n).1≥s2:=jB h3;omega
     have h4:¬ 0<n:=by have:=jB h4;omega
     show (Sp.dA s0 (Sp.fileAt s1 n)&&decide ((Sp.fileAt s1 n).1<s2)&&!(decide (0<n)&&!decide ((Sp.fileAt s1 (n-1)).1<(Sp.fileAt s1 n).1)))=true
     rw [h2,decide_eq_true h3,decide_eq_false h4];rfl
 · dsimp only
   have ha:Sp.lC s1.length (Sp.nK (s0,s1,s2,()))=true:=sQ hJ
   refine eG (by omega) ⟨trivial,af (fun h1=>af (fun h2=>⟨trivial,?_⟩) fun h2=>?_) fun h1=>?_⟩
   · refine congrArg (·,()) ?_
     show _=(Sp.lC s1.length (Sp.nK (s0,s1,s2,()))&&Sp.fZ s0&&decide ((s1.length:Int)≤12)&&(decide (1≤s2)&&decide (s2≤61)))
     rw [ha,h1,h2];rfl
   · refine congrArg (·,()) ?_
     show _=(Sp.lC s1.length (Sp.nK (s0,s1,s2,()))&&Sp.fZ s0&&decide ((s1.length:Int)≤12)&&(decide (1≤s2)&&decide (s2≤61)))
     rw [ha,h1,h2];rfl
   · refine congrArg (·,()) ?_
     show _=(Sp.lC s1.length (Sp.nK (s0,s1,s2,()))&&Sp.fZ s0&&decide ((s1.length:Int)≤12)&&(decide (1≤s2)&&decide (s2≤61)))
     rw [ha,h1];rfl
theorem ajg:aA prog G Bo D5:=by
 refine ajh (aC (l:=[]) (au ah) (fun x hx=>by cases hx)) ?_
 intro a b hin hp
 have hlen:a.length≤maxLen:=hin.1.1
 rw [maxLen_eq] at hlen
 refine af (fun h=>?_) fun h=>?_
 · have h:(a.length:Int)≠b.length:=by simpa using h
   exact congrArg (·,()) (decide_eq_false fun e=>h (by rw [e])).symm
 · have h:(a.length:Int)=b.length:=by simpa using h
   exact ac6 (K:=fun r=>r=(decide (a=b),())) (fun x y=>!(x.1==y.1&&(x.2.1==y.2.1&&true))) (fun x y=>by simp [Prod.ext_iff]) _ a b _ hlen (by omega) (fun e=>by rw [decide_eq_false e]) fun e=>by rw [decide_eq_true e]
theorem alT:aA prog G Dx EM:=by
 refine alU (aC (l:=[]) (au ah) (fun x hx=>by cases hx)) ?_
 intro a b hin hp
 have hlen:a.length≤maxLen:=hin.1.1
 rw [maxLen_eq] at hlen
 refine af (fun h=>?_) fun h=>?_
 · have h:(a.length:Int)≠b.length:=by simpa using h
   exact congrArg (·,()) (decide_eq_false fun e=>h (by rw [e])).symm
 · have h:(a.length:Int)=b.length:=by simpa using h
   exact ac6 (K:=fun r=>r=(decide (a=b),())) (fun x y=>!(x.1==y.1&&(x.2.1==y.2.1&&(x.2.2.1==y.2.2.1&&(x.2.2.2.1==y.2.2.2.1&&true))))) (fun x y=>by simp [Prod.ext_iff]) _ a b _ hlen (by omega) (fun e=>by rw [decide_eq_false e]) fun e=>by rw [decide_eq_true e]
theorem aoL:aA prog G E5 Gv:=by
 refine aoM (aC (l:=[(Dx, .pure EM)]) (au ah) (by simp only [List.forall_mem_cons];exact ⟨⟨alT,ai2⟩,fun x hx=>by cases hx⟩)) ?_
 intro a0 a1 a2 a3 a4 b0 b1 b2 b3 b4 hin hp
 refine af (fun h0=>af (fun h1=>af (fun h2=>af (fun h3=>⟨trivial,?_⟩) fun h3=>?_) fun h2=>?_) fun h1=>?_) fun h0=>?_
 all_goals refine congrArg (·,()) (Bool.eq_iff_iff.2 ?_)
 · simp only [beq_iff_eq] at h0 h1 h2 h3
   subst h0 h1 h2 h3
   simp
 · have h3:a3≠b3:=by simpa using h3
   simp [h3]
 · have h2:a2≠b2:=by simpa using h2
   simp [h2]
 · have h1:a1≠b1:=by simpa using h1
   simp [h1]
 · have h0:a0≠b0:=by simpa using h0
   simp [h0]
theorem alV:aA prog G Dy EN:=by
 refine alW (aC (l:=[(E5, .pure Gv)]) (au ah) (by simp only [List.forall_mem_cons];exact ⟨⟨aoL,alF⟩,fun x hx=>by cases hx⟩)) ?_
 intro a b hin hp
 have hlen:a.length≤maxLen:=hin.1.1
 rw [maxLen_eq] at hlen
 refine af (fun h=>?_) fun h=>?_
 · have h:(a.length:Int)≠b.length:=by simpa using h
   exact congrArg (·,()) (decide_eq_false fun e=>h (by rw [e])).symm
 · have h:(a.length:Int)=b.length:=by simpa using h
   exact aoN (K:=fun r=>r=(decide (a=b),())) (fun x y=>!decide ((x.1,x.2.1,x.2.2.1,x.2.2.2.1,x.2.2.2.2.1,())=(y.1,y.2.1,y.2.2.1,y.2.2.2.1,y.2.2.2.2.1,()))) (fun x y=>by simp [Prod.ext_iff]) _ a b _ hlen (by omega) (fun e=>by rw [decide_eq_false e]) fun e=>by rw [decide_eq_true e]
theorem alX:aA prog G DN EO:=by
 refine alY (aC (l:=[(Dy, .pure EN),(Bo, .pure D5)]) (au ah) (by simp only [List.forall_mem_cons];exact ⟨⟨alV,ai3⟩,⟨ajg,agl⟩,fun x hx=>by cases hx⟩)) ?_
 intro a0 a1 a2 b0 b1 b2 hin hp
 refine ⟨trivial,af (fun h0=>⟨trivial,af (fun h1=>?_) fun h1=>?_⟩) fun h0=>?_⟩
 all_goals refine congrArg (·,()) (Bool.eq_iff_iff.2 ?_)
 · have h0:=jw h0
   have h1:=jw h1
   subst h0 h1
   simp
 · have h1:=jB h1
   simp [h1]
 · have h0:=jB h0
   simp [h0]
theorem aaT:aA prog G yH yu:=by
 refine ars (aC (l:=[]) (au ah) (fun x hx=>by cases hx)) ?_
 intro f0 f1 f2 f3 f4 hin hp
 have hp:f4.length≤1000:=hp
 exact ⟨by rw [dU];omega,rfl⟩
theorem WH:aA prog G oU rH:=by
 refine WI (aC (l:=[]) (au ah) (fun x hx=>by cases hx)) ?_
 intro l hin hp
 intro g hg
 have hp:l.length≤1000:=hp
 refine af (fun h=>?_) fun h=>⟨by rw [dU];omega,rfl⟩
 have:=List.length_eq_zero_iff.1 (hg h)
 rw [this]
theorem Yd:aA prog G pK sU:=by
 refine Ye (aC (l:=[]) (au ah) (fun x hx=>by cases hx)) ?_
 intro l hin hp
 intro g hg
 have hp:l.length≤1000:=hp
 refine af (fun h=>?_) fun h=>⟨by rw [dU];omega,rfl⟩
 have:=List.length_eq_zero_iff.1 (hg h)
 rw [this]
theorem PV:aA prog G oQ oq:=by
 refine aoO (aC (l:=[(pK, .pure sU)]) (au ah) (by simp only [List.forall_mem_cons];exact ⟨⟨Yd,WE⟩,fun x hx=>by cases hx⟩)) ?_
 intro f0 f1 f2 f3 f4 hin hp
 exact ⟨hp,rfl⟩
theorem auu:aA prog G JW Lh:=by
 refine auv (aC (l:=[(iZ, .pure iF)]) (au ah) (by simp only [List.forall_mem_cons];exact ⟨⟨yL,wG⟩,fun x hx=>by cases hx⟩)) ?_
 intro n hin hp
 exact ⟨trivial,rfl⟩
theorem aoP:aA prog G E8 Gw:=by
 refine aoQ (aC (l:=[]) (au ah) (fun x hx=>by cases hx)) ?_
 intro s0 s1 s2 id hin hp
 have hlen:s1.length≤maxLen:=hin.1.2.1.1
 rw [maxLen_eq] at hlen
 refine jH s1.length hlen (fun n=>∀ i,i<n→(Sp.fileAt s1 i).1≠id) (fun i hi=>by omega) (fun I μ n hn hJ next=>?_) fun I μ hJ=>?_
 · dsimp only
   refine eF (by omega) ⟨⟨by omega,by omega⟩,af (fun h=>?_) fun h=>⟨rfl,next fun i hi=>?_⟩⟩
   · have h:(Sp.fileAt s1 n).1=id:=jw h
     exact congrArg (·,()) (Sp.U7 hn hJ h).symm
   · rcases Nat.lt_or_ge i n with h'|h'
     · exact hJ i h'
     · have:i=n:=by omega
       subst this
       have h:¬ (Sp.fileAt s1 i).1=id:=jB h
       exact h
 · dsimp only
   exact eG (by omega) (congrArg (·,()) (Sp.aex hJ).symm)
theorem set_self {fs:List Sp.aQ} {n:Nat} (hn:n<fs.length):fs.set n (fs.getD n (0,0,false,0,[],()))=fs:=by
 refine List.ext_getElem (by simp) fun i h1 h2=>?_
 rw [List.getElem_set]
 split
 · next e=>subst e;rw [List.getD_eq_getElem?_getD,List.getElem?_eq_getElem hn];rfl
 · rfl
theorem JH {s:List Sp.gy} (p:Sp.gy→Bool) {n:Nat} (hn:n<s.length):(s.take (n+1)).filter p=(s.take n).filter p++(if p (Sp.cu s n)=true then [Sp.cu s n] else []):=by
 rw [Sp.take_succ' s n ([],0,0,[],()) hn,List.filter_append]
 congr 1
 show List.filter _ [Sp.cu s n]=_
 by_cases h:p (Sp.cu s n)=true
 · rw [List.filter_cons_of_pos h,if_pos h];rfl
 · rw [List.filter_cons_of_neg h,if_neg h];rfl
theorem aaU (s:List Sp.gy) (p:Sp.gy→Bool) (n:Nat):((s.take n).filter p).length≤n:=by
 have:=List.length_filter_le p (s.take n)
 rw [List.length_take] at this
 omega
theorem aji (al:List Sp.gy) (name:Sp.Bytes) (n:Int) (s:Sp.Bytes):Sp.kH al name 0 n s=al.filter (Sp.lg name):=rfl
theorem aru {al:List Sp.gy} {name:Sp.Bytes} {k n:Int} {s:Sp.Bytes} (hk:k≠0) {l:List Sp.gy} (hl:l=al.filter (Sp.lg name)) {m:Nat} (hm:m≤l.length)
 (h1:∀ i,i<m→Sp.kR name (Sp.cu l i)=true) (h2:m<l.length→Sp.kR name (Sp.cu l m)=false):
 List.drop 0 (List.take m l)++[(name,k,n,s,())]++List.drop m (List.take l.length l)=Sp.kH al name k n s:=by
 obtain ⟨e1,e2⟩:=Sp.Tf (d:=(([]:List UInt8),(0:Int),(0:Int),([]:List UInt8),())) l m hm h1 h2
 unfold Sp.kH Sp.ak6
 rw [decide_eq_false hk,← hl]
 show _=l.takeWhile (Sp.kR name)++_::l.dropWhile (Sp.kR name)
 rw [e1,e2,List.take_length,List.drop_zero,List.append_assoc]
 rfl
theorem arv:aG prog G Ht Ja:=by
 refine arw (aC (l:=[]) (au ah) (fun x hx=>by cases hx)) (fun ⟨(i,o,s,l,a,_),name,(k,n,w,_),_⟩ _=>⟨(((i,o,s,l,Sp.kH a name k n w,()),()),()),⟨rfl,rfl,rfl,rfl,rfl⟩⟩) ?_
 intro f0 f1 f2 f3 f4 name k n s hin hp
 have hp:f4.length≤1000:=hp
 refine gQ (fun i (x:List Sp.gy)=>(((),i,()),x,())) (fun y=>y.1.2.1) (fun _ _=>rfl) f4.length (by omega) (fun m l=>l=(f4.take m).filter (Sp.lg name)) (by simp) (fun I μ m l hm hJ next=>?_) fun I μ l hJ=>?_
 · subst hJ
   have hl:=aaU f4 (Sp.lg name) m
   dsimp only
   refine eF (by omega) ⟨⟨by omega,by omega⟩,af (fun h=>⟨⟨by omega,by omega⟩,by rw [dU];simp only [List.length_cons,List.length_nil];omega,rfl,next _ ?_⟩) fun h=>⟨rfl,next _ ?_⟩⟩
   · rw [JH _ hm,if_pos (show Sp.lg name (Sp.cu f4 m)=true from h)];rfl
   · rw [JH _ hm,if_neg (show ¬ Sp.lg name (Sp.cu f4 m)=true from fun h'=>by have h:Sp.lg name (Sp.cu f4 m)=false:=h;rw [h] at h';cases h'),List.append_nil]
 · rw [List.take_length] at hJ
   have hl:l.length≤1000:=by rw [hJ];have:=List.length_filter_le (Sp.lg name) f4;omega
   dsimp only
   refine eG (by omega) (af (fun h=>?_) fun h=>?_)
   · have hk:k≠0:=by simpa using h
     have fin:∀ m:Nat,m≤l.length→(∀ i,i<m→Sp.kR name (Sp.cu l i)=true)→(m<l.length→Sp.kR name (Sp.cu l m)=false)→
      ((0:Int)≤m∧(m:Int)≤l.length)∧0+(List.drop 0 (List.take m l)).length≤big∧(List.drop 0 (List.take m l)).length+[(name,k,n,s,())].length≤big∧((0:Int)≤m∧(m:Int)≤l.length)∧
      (List.drop 0 (List.take m l)++[(name,k,n,s,())]).length+(List.drop m (List.take l.length l)).length≤big∧
      (f0=f0∧f1=f1∧f2=f2∧f3=f3∧List.drop 0 (List.take m l)++[(name,k,n,s,())]++List.drop m (List.take l.length l)=Sp.kH f4 name k n s):=by
      intro m hm h1 h2
      refine ⟨⟨by omega,by omega⟩,?_,?_,⟨by omega,by omega⟩,?_,rfl,rfl,rfl,rfl,aru hk hJ hm h1 h2⟩
      all_goals
       rw [dU]
       simp only [List.length_append,List.length_drop,List.length_take,List.length_cons,List.length_nil]
       omega
     refine jH l.length (by omega) (fun m=>∀ i,i<m→Sp.kR name (Sp.cu l i)=true) (fun i hi=>by omega) (fun I μ m hm hJ2 next=>?_) fun I μ hJ2=>?_
     · dsimp only
       refine eF (by omega) ⟨⟨by omega,by omega⟩,hm,af (fun h2=>⟨rfl,next (fA (f:=fun i=>Sp.kR name (Sp.cu l i)) hJ2 h2)⟩) fun h2=>?_⟩
       exact fin m (by omega) hJ2 fun _=>h2
     · dsimp only
       exact eG (by omega) (fin l.length (Nat.le_refl _) hJ2 fun h'=>by omega)
   · have hk:k=0:=by simpa using h
     subst hk
     exact ⟨rfl,rfl,rfl,rfl,by rw [aji];exact hJ⟩
theorem aoR:aG prog G Fa Gx:=by
 refine aoS (aC (l:=[]) (au ah) (fun x hx=>by cases hx)) (fun ⟨s,_⟩ _=>⟨(((s,[],1,()),()),()),⟨rfl,rfl,rfl⟩⟩) ?_
 intro s hin hp
 have hp:s.length≤1000:=hp
 exact ⟨by rw [dU];omega,rfl,rfl,rfl⟩
theorem Ti:aG prog G qM pz:=by
 refine arx (aC (l:=[(yH, .pure yu)]) (au ah) (by simp only [List.forall_mem_cons];exact ⟨⟨aaT,Zr⟩,fun x hx=>by cases hx⟩)) (fun ⟨(a,l,nx,_),_⟩ _=>⟨(((a,l,nx,()),()),()),rfl⟩) ?_
 intro s0 s1 s2 hin hp
 obtain ⟨h0,h1,h2⟩:s0.length≤1000∧s1.length≤1000∧∀ f∈s1,Sp.dK f:=hp
 refine ⟨by rw [dU];omega,?_⟩
 refine gQ (fun i (x:List Sp.aQ)=>((i,()),((),(),s2,()),x,())) (fun y=>y.1.1) (fun _ _=>rfl) s1.length (by omega) (fun n l=>l=s1.take n) (by simp) (fun I μ n l hn hJ next=>?_) fun I μ l hJ=>?_
 · subst hJ
   have hl:(s1.take n).length≤n:=by rw [List.length_take];omega
   dsimp only
   refine eF (by omega) ⟨⟨by omega,by omega⟩,h2 _ (getD_mem (d:=((0:Int),(0:Int),false,(0:Int),[],())) hn),by rw [dU];simp only [List.length_cons,List.length_nil];omega,rfl,next _ ?_⟩
   exact (Sp.take_succ' s1 n (0,0,false,0,[],()) hn).symm
 · subst hJ
   dsimp only
   refine eG (by omega) ?_
   rw [List.take_length]
theorem ajj:aG prog G Bv D6:=by
 refine ajk (aC (l:=[(pI, .pure qp),(kz, .pure kG),(yH, .pure yu),(qM, .eff (ay mF) pz)]) (au ah) (by simp only [List.forall_mem_cons];exact ⟨⟨Uu,SH⟩,⟨JG,Ir⟩,⟨aaT,Zr⟩,⟨Ti,PO⟩,fun x hx=>by cases hx⟩)) (fun ⟨s,f,_⟩ _=>⟨((((Sp.dV s f).1.1,(Sp.dV s f).1.2.1,(Sp.dV s f).1.2.2.1,()),(Sp.dV s f).2.1,(Sp.dV s f).2.2,()),()),⟨rfl,rfl,rfl,rfl,rfl⟩⟩) ?_
 intro s0 s1 s2 f0 f1 f2 f3 f4 hin hp
 refine ⟨hp.1,?_⟩
 rintro ⟨⟨⟨a,l,nx,⟨⟩⟩,⟨⟩⟩,⟨⟩⟩ e
 obtain ⟨rfl,rfl,rfl⟩:a=s0∧l=s1∧nx=s2:=by simpa using e
 have hs:l.length≤1000:=hp.1.2.1
 have no:¬ (Sp.aN (a,l,nx,())=true∧l.length<12∧Sp.dA a (nx,f1,f2,f3,f4,())=true)→Sp.dV (a,l,nx,()) (f0,f1,f2,f3,f4,())=((a,l,nx,()),0,false):=fun h=>by
  rcases Sp.uf (a,l,nx,()) (f0,f1,f2,f3,f4,()) with ⟨e,_⟩|⟨h1,h2,h3,_⟩
  · exact e
  · exact (h ⟨h1,h2,h3⟩).elim
 refine ⟨hp.2,trivial,af (fun h1=>?_) fun h1=>af (fun h2=>?_) fun h2=>⟨trivial,af (fun h3=>?_) fun h3=>?_⟩⟩
 · have:=no fun h=>by have h1:=kQ h1;have:=h.1;rw [show Sp.aN (a,l,nx,())=false from h1] at this;cases this
   dsimp only
   rw [this];exact ⟨rfl,rfl,rfl,rfl,rfl⟩
 · have:=no fun h=>by have h2:(l.length:Int)≥12:=jw h2;omega
   dsimp only
   rw [this];exact ⟨rfl,rfl,rfl,rfl,rfl⟩
 · have:=no fun h=>by have h3:=kQ h3;have:=h.2.2;rw [show Sp.dA a (nx,f1,f2,f3,f4,())=false from h3] at this;cases this
   dsimp only
   rw [this];exact ⟨rfl,rfl,rfl,rfl,rfl⟩
 · have g1:Sp.aN (a,l,nx,())=true:=ig h1
   have g2:l.length<12:=by have h2:¬ (l.length:Int)≥12:=jB h2;omega
   have g3:Sp.dA a (nx,f1,f2,f3,f4,())=true:=ig h3
   rcases Sp.uf (a,l,nx,()) (f0,f1,f2,f3,f4,()) with ⟨_,e⟩|⟨_,_,_,e⟩
   · exact (e ⟨g1,g2,g3⟩).elim
   · have hnx:=(Sp.nZ.1 g1).2.2.2
     have w:IntKind.i64.wrap (nx+1)=nx+1:=iM _ (by have h5:nx≤61:=hnx.2;have h6:1≤nx:=hnx.1;omega)
     refine ⟨by rw [dU];simp only [List.length_cons,List.length_nil];omega,?_⟩
     dsimp only
     rw [e,w];exact ⟨rfl,rfl,rfl,rfl,rfl⟩
theorem ajl:aG prog G Bq D7:=by
 refine ajm (aC (l:=[(kz, .pure kG),(E8, .pure Gw),(qM, .eff (ay mF) pz)]) (au ah) (by simp only [List.forall_mem_cons];exact ⟨⟨JG,Ir⟩,⟨aoP,alG⟩,⟨Ti,PO⟩,fun x hx=>by cases hx⟩)) (fun ⟨s,id,_⟩ _=>⟨((((Sp.fJ s id).1.1,(Sp.fJ s id).1.2.1,(Sp.fJ s id).1.2.2.1,()),(Sp.fJ s id).2,()),()),⟨rfl,rfl,rfl,rfl⟩⟩) ?_
 intro s0 s1 s2 id hin hp
 refine ⟨hp,?_⟩
 rintro ⟨⟨⟨a,l,nx,⟨⟩⟩,⟨⟩⟩,⟨⟩⟩ e
 obtain ⟨rfl,rfl,rfl⟩:a=s0∧l=s1∧nx=s2:=by simpa using e
 have hs:l.length≤1000:=hp.2.1
 have no:¬ (Sp.aN (a,l,nx,())=true∧0≤Sp.place l id)→Sp.fJ (a,l,nx,()) id=((a,l,nx,()),false):=fun h=>by
  rcases Sp.DX (a,l,nx,()) id with ⟨e,_⟩|⟨n,hn,h1,h2,_⟩
  · exact e
  · exact (h ⟨h2,by have h1:Sp.place l id=n:=h1;omega⟩).elim
 refine ⟨trivial,trivial,af (fun h1=>?_) fun h1=>af (fun h2=>?_) fun h2=>?_⟩
 · have:=no fun h=>by have h1:=kQ h1;have:=h.1;rw [show Sp.aN (a,l,nx,())=false from h1] at this;cases this
   dsimp only
   rw [this];exact ⟨rfl,rfl,rfl,rfl⟩
 · have:=no fun h=>by have h2:Sp.place l id<0:=jw h2;omega
   dsimp only
   rw [this];exact ⟨rfl,rfl,rfl,rfl⟩
 · have g1:Sp.aN (a,l,nx,())=true:=ig h1
   have g2:0≤Sp.place l id:=by have h2:¬ Sp.place l id<0:=jB h2;omega
   rcases Sp.DX (a,l,nx,()) id with ⟨_,e⟩|⟨n,hn,hpl,_,e⟩
   · exact (e ⟨g1,g2⟩).elim
   · have hn:n<l.length:=hn
     have hpl:Sp.place l id=n:=hpl
     have w:IntKind.i64.wrap ((n:Int)+1)=((n+1:Nat):Int):=iM _ (by omega)
     dsimp only
     rw [hpl,e,w,Int.toNat_natCast,Int.toNat_natCast,List.drop_zero,List.take_length,dU]
     refine ⟨⟨by omega,by omega⟩,by rw [List.length_take];omega,⟨by omega,by omega⟩,by rw [List.length_take,List.length_drop];omega,rfl,?_,rfl,rfl⟩
     exact (List.eraseIdx_eq_take_drop_succ ..).symm
def ak7 (L:List (List Sp.gy)) (name:Sp.Bytes) (vals:List (Int×Int×Sp.Bytes)):List (List Sp.gy):=L++L.flatMap fun a=>vals.map fun v=>Sp.kH a name v.1 v.2.1 v.2.2
theorem Dj {L:List (List Sp.gy)} {name:Sp.Bytes} {vals:List (Int×Int×Sp.Bytes)} {a:List Sp.gy} (h:a∈L):a∈ak7 L name vals:=List.mem_append_left _ h
theorem aaV {L:List (List Sp.gy)} {name:Sp.Bytes} {vals:List (Int×Int×Sp.Bytes)} {a:List Sp.gy} (h:a∈L) {k n:Int} {s:Sp.Bytes} (hv:(k,n,s)∈vals):Sp.kH a name k n s∈ak7 L name vals:=
 List.mem_append_right _ (List.mem_flatMap.2 ⟨a,h,List.mem_map.2 ⟨(k,n,s),hv,rfl⟩⟩)
def ints:List (Int×Int×Sp.Bytes):=[(1,0,[]),(1,1,[]),(1,2,[]),(1,3,[])]
def names:List (Int×Int×Sp.Bytes):=[(2,0,[105,110,107]),(2,0,[115,101,97])]
def tags:List (Int×Int×Sp.Bytes):=[(2,0,[114,101,100]),(2,0,[98,108,117,101])]
def arz:List (List Sp.gy):=ak7 [[]] [97] ints
def arA:List (List Sp.gy):=ak7 arz [98] ints
def arB:List (List Sp.gy):=ak7 arA [110] names
def arC:List (List Sp.gy):=ak7 arB [116] tags
theorem aCm:(arC.all fun a=>Sp.lQ Sp.usual a&&decide (a.length≤4))=true:=by kernel_rfl
theorem aaW {a:List Sp.gy} (h:a∈arC):Sp.lQ Sp.usual a=true∧a.length≤4:=by
 have:=List.all_eq_true.1 aCm a h
 simpa using this
theorem aDm {a:List Sp.gy} (h:a∈arz):a.length≤4:=(aaW (Dj (Dj (Dj h)))).2
theorem aDn {a:List Sp.gy} (h:a∈arA):a.length≤4:=(aaW (Dj (Dj h))).2
theorem aDo {a:List Sp.gy} (h:a∈arB):a.length≤4:=(aaW (Dj h)).2
theorem ax3 {x:Int} (h0:0≤x) (h1:x<4):((1:Int),x,([]:Sp.Bytes))∈ints:=by
 rcases (show x=0∨x=1∨x=2∨x=3 by omega) with h|h|h|h<;>subst h<;>simp [ints]
theorem aBB {w:Sp.Bytes} (h:(w,())∈[(([105,110,107]:Sp.Bytes),()),([115,101,97],())]):((2:Int),(0:Int),w)∈names:=by
 simp only [List.mem_cons,Prod.mk.injEq,and_true,List.not_mem_nil,or_false] at h
 rcases h with h|h<;>subst h<;>simp [names]
theorem aCn {w:Sp.Bytes} (h:(w,())∈[(([114,101,100]:Sp.Bytes),()),([98,108,117,101],())]):((2:Int),(0:Int),w)∈tags:=by
 simp only [List.mem_cons,Prod.mk.injEq,and_true,List.not_mem_nil,or_false] at h
 rcases h with h|h<;>subst h<;>simp [tags]
def Head (id:Int) (f:Int×Int×Bool×Int×Unit×Unit):Prop:=f.1=id∧0≤f.2.1∧f.2.1≤2∧0≤f.2.2.2.1∧f.2.2.2.1≤6
theorem arD:aG prog G Hu Jb:=by
 refine arE (aC (l:=[(pO, .pure qo),(qK, .eff (ay mD) pq),(Ht, .eff (ay zY) Ja),(oP, .pure oh),(qL, .eff (ay mr) o9),(dH, .eff (ay dn) dw)]) (au ah) (by simp only [List.forall_mem_cons];exact ⟨⟨Ut,SG⟩,⟨Tc,PN⟩,⟨arv,aor⟩,⟨PU,Oe⟩,⟨S9,PL⟩,⟨ku,jG⟩,fun x hx=>by cases hx⟩)) (fun ⟨_,id,_⟩ _=>⟨(((id,0,false,0,[],()),()),(([],0,0,()),())),⟨by decide,rfl,by decide,by decide,by decide,by decide,rfl,by decide⟩⟩) ?_
 intro b i h id hin hp
 have hp:0≤i:=hp
 refine ⟨hp,?_⟩
 rintro ⟨⟨x0,⟨⟩⟩,⟨b0,i0,g0,⟨⟩⟩,⟨⟩⟩ ⟨p0,q0,q1,_⟩
 refine ⟨p0,?_⟩
 rintro ⟨⟨x1,⟨⟩⟩,⟨b1,i1,g1,⟨⟩⟩,⟨⟩⟩ p1
 have q1:x0<3:=q1 (by decide)
 have q0:0≤x0:=q0
 refine ⟨fun y=>0≤y.2.1.2.1∧Head id y.2.2.1,⟨p1,?_⟩,?_⟩
 · rintro ⟨⟨x3,⟨⟩⟩,⟨b3,i3,g3,⟨⟩⟩,⟨⟩⟩ p3
   refine af (fun _=>⟨p3,?_⟩) fun _=>⟨rfl,p3,rfl,q0,(show x0≤2 by omega),Int.le_refl _,(show (0:Int)≤6 by decide)⟩
   rintro ⟨⟨x4,⟨⟩⟩,⟨b4,i4,g4,⟨⟩⟩,⟨⟩⟩ ⟨p4,q4,q5,_⟩
   have q5:x4<7:=q5 (by decide)
   exact ⟨rfl,p4,rfl,q0,(show x0≤2 by omega),q4,(show x4≤6 by omega)⟩
 rintro ⟨⟨⟩,⟨b5,i5,g5,⟨⟩⟩,f5,⟨⟩⟩ ⟨p5,H5⟩
 refine ⟨fun y=>0≤y.2.1.2.1∧Head id y.2.2.1∧y.2.2.2.1∈arz,⟨p5,?_⟩,?_⟩
 · rintro ⟨⟨x7,⟨⟩⟩,⟨b7,i7,g7,⟨⟩⟩,⟨⟩⟩ p7
   refine af (fun _=>⟨p7,?_⟩) fun _=>⟨rfl,p7,H5,Dj List.mem_cons_self⟩
   rintro ⟨⟨x8,⟨⟩⟩,⟨b8,i8,g8,⟨⟩⟩,⟨⟩⟩ ⟨p8,q8,q9,_⟩
   refine ⟨trivial,(show (0:Nat)≤1000 by decide),?_⟩
   rintro ⟨⟨⟨d,o,s,l,a,⟨⟩⟩,⟨⟩⟩,⟨⟩⟩ ⟨e1,e2,e3,e4,e5⟩
   refine ⟨rfl,p8,?_,?_⟩
   · exact ⟨(show d=id from (show d=f5.1 from e1).trans H5.1),by rw [show o=f5.2.1 from e2];exact H5.2.1,by rw [show o=f5.2.1 from e2];exact H5.2.2.1,by rw [show l=f5.2.2.2.1 from e4];exact H5.2.2.2.1,by rw [show l=f5.2.2.2.1 from e4];exact H5.2.2.2.2⟩
   · have e5:a=Sp.kH [] [97] 1 x8 []:=e5
     show a∈arz
     rw [e5];exact aaV List.mem_cons_self (ax3 q8 (q9 (by decide)))
 rintro ⟨⟨⟩,⟨b11,i11,g11,⟨⟩⟩,f11,a11,⟨⟩⟩ ⟨p11,H11,m11⟩
 refine ⟨fun y=>0≤y.2.1.2.1∧Head id y.2.2.1∧y.2.2.2.1∈arA,⟨p11,?_⟩,?_⟩
 · rintro ⟨⟨x7,⟨⟩⟩,⟨b7,i7,g7,⟨⟩⟩,⟨⟩⟩ p7
   refine af (fun _=>⟨p7,?_⟩) fun _=>⟨rfl,p7,H11,Dj m11⟩
   rintro ⟨⟨x8,⟨⟩⟩,⟨b8,i8,g8,⟨⟩⟩,⟨⟩⟩ ⟨p8,q8,q9,_⟩
   refine ⟨trivial,Nat.le_trans (aDm m11) (by decide),?_⟩
   rintro ⟨⟨⟨d,o,s,l,a,⟨⟩⟩,⟨⟩⟩,⟨⟩⟩ ⟨e1,e2,e3,e4,e5⟩
   refine ⟨rfl,p8,?_,?_⟩
   · exact ⟨(show d=id from (show d=f11.1 from e1).trans H11.1),by rw [show o=f11.2.1 from e2];exact H11.2.1,by rw [show o=f11.2.1 from e2];exact H11.2.2.1,by rw [show l=f11.2.2.2.1 from e4];exact H11.2.2.2.1,by rw [show l=f11.2.2.2.1 from e4];exact H11.2.2.2.2⟩
   · have e5:a=Sp.kH a11 [98] 1 x8 []:=e5
     show a∈arA
     rw [e5];exact aaV m11 (ax3 q8 (q9 (by decide)))
 rintro ⟨⟨⟩,⟨b17,i17,g17,⟨⟩⟩,f17,a17,⟨⟩⟩ ⟨p17,H17,m17⟩
 refine ⟨fun y=>0≤y.2.1.2.1∧Head id y.2.2.1∧y.2.2.2.1∈arB,⟨p17,?_⟩,?_⟩
 · rintro ⟨⟨x7,⟨⟩⟩,⟨b7,i7,g7,⟨⟩⟩,⟨⟩⟩ p7
   refine af (fun _=>⟨⟨p7,by simp⟩,?_⟩) fun _=>⟨rfl,p7,H17,Dj m17⟩
   rintro ⟨⟨x8,⟨⟩⟩,⟨b8,i8,g8,⟨⟩⟩,⟨⟩⟩ ⟨p8,q8⟩
   refine ⟨trivial,Nat.le_trans (aDn m17) (by decide),?_⟩
   rintro ⟨⟨⟨d,o,s,l,a,⟨⟩⟩,⟨⟩⟩,⟨⟩⟩ ⟨e1,e2,e3,e4,e5⟩
   refine ⟨rfl,p8,?_,?_⟩
   · exact ⟨(show d=id from (show d=f17.1 from e1).trans H17.1),by rw [show o=f17.2.1 from e2];exact H17.2.1,by rw [show o=f17.2.1 from e2];exact H17.2.2.1,by rw [show l=f17.2.2.2.1 from e4];exact H17.2.2.2.1,by rw [show l=f17.2.2.2.1 from e4];exact H17.2.2.2.2⟩
   · have e5:a=Sp.kH a17 [110] 2 0 x8:=e5
     show a∈arB
     rw [e5];exact aaV m17 (aBB q8)
 rintro ⟨⟨⟩,⟨b23,i23,g23,⟨⟩⟩,f23,a23,⟨⟩⟩ ⟨p23,H23,m23⟩
 refine ⟨fun y=>0≤y.2.1.2.1∧Head id y.2.2.1∧y.2.2.2.1∈arC,⟨p23,?_⟩,?_⟩
 · rintro ⟨⟨x7,⟨⟩⟩,⟨b7,i7,g7,⟨⟩⟩,⟨⟩⟩ p7
   refine af (fun _=>⟨⟨p7,by simp⟩,?_⟩) fun _=>⟨rfl,p7,H23,Dj m23⟩
   rintro ⟨⟨x8,⟨⟩⟩,⟨b8,i8,g8,⟨⟩⟩,⟨⟩⟩ ⟨p8,q8⟩
   refine ⟨trivial,Nat.le_trans (aDo m23) (by decide),?_⟩
   rintro ⟨⟨⟨d,o,s,l,a,⟨⟩⟩,⟨⟩⟩,⟨⟩⟩ ⟨e1,e2,e3,e4,e5⟩
   refine ⟨rfl,p8,?_,?_⟩
   · exact ⟨(show d=id from (show d=f23.1 from e1).trans H23.1),by rw [show o=f23.2.1 from e2];exact H23.2.1,by rw [show o=f23.2.1 from e2];exact H23.2.2.1,by rw [show l=f23.2.2.2.1 from e4];exact H23.2.2.2.1,by rw [show l=f23.2.2.2.1 from e4];exact H23.2.2.2.2⟩
   · have e5:a=Sp.kH a23 [116] 2 0 x8:=e5
     show a∈arC
     rw [e5];exact aaV m23 (aCn q8)
 rintro ⟨⟨⟩,⟨b29,i29,g29,⟨⟩⟩,f29,a29,⟨⟩⟩ ⟨p29,H29,m29⟩
 have hm:=aaW m29
 exact ⟨p29,H29.1,H29.2.1,H29.2.2.1,H29.2.2.2.1,H29.2.2.2.2,hm.1,hm.2⟩
theorem aCo:Sp.fZ Sp.usual=true:=by kernel_rfl
theorem aCp:Sp.aN (Sp.usual,[],1,())=true:=by kernel_rfl
theorem ayV:Sp.bQ (Sp.usual,[],1,()):=⟨by decide,by decide,fun f hf=>by cases hf⟩
theorem aoT {a:List Sp.iH} {l:List Sp.aQ} {nx:Int} {X:Sp.dQ} (h1:a=X.1) (h2:l=X.2.1) (h3:nx=X.2.2.1):((a,l,nx,()):Sp.dQ)=X:=by subst h1 h2 h3;rfl
theorem ax4 (s:Sp.dQ) (f:Sp.aQ):(Sp.dV s f).1.1=s.1∧((Sp.dV s f).1.2.1.length:Int)-(Sp.dV s f).1.2.2.1=s.2.1.length-s.2.2.1:=by
 rcases Sp.uf s f with ⟨e,_⟩|⟨_,_,_,e⟩
 · rw [e];exact ⟨rfl,rfl⟩
 · rw [e]
   refine ⟨rfl,?_⟩
   show ((s.2.1++[(s.2.2.1,f.2)]).length:Int)-(s.2.2.1+1)=_
   rw [List.length_append,List.length_cons,List.length_nil];omega
theorem ajn (s:Sp.dQ) (id:Int):(Sp.fJ s id).1.1=s.1∧(Sp.fJ s id).1.2.2.1=s.2.2.1∧s.2.1.length≤(Sp.fJ s id).1.2.1.length+1:=by
 rcases Sp.DX s id with ⟨e,_⟩|⟨n,hn,_,_,e⟩
 · rw [e];exact ⟨rfl,rfl,Nat.le_succ _⟩
 · rw [e]
   refine ⟨rfl,rfl,?_⟩
   show s.2.1.length≤(s.2.1.eraseIdx n).length+1
   rw [List.length_eraseIdx_of_lt hn];omega
structure FO (k:Int) (s:Sp.dQ):Prop where
 sch:s.1=Sp.usual
 ok:Sp.aN s=true
 nx:s.2.2.1≤s.2.1.length+k
 small:Sp.bQ s
theorem FO.create {k:Int} {s:Sp.dQ} (h:FO k s) {f:Sp.aQ} (hf:Sp.dK f):FO k (Sp.dV s f).1:=by
 obtain ⟨h1,h2⟩:=ax4 s f
 exact ⟨h1.trans h.sch,Sp.auw f h.ok,by have:=h.nx;omega,Sp.awJ h.small hf⟩
theorem FO.delete {k:Int} {s:Sp.dQ} (h:FO k s) (id:Int):FO (k+1) (Sp.fJ s id).1:=by
 obtain ⟨h1,h2,h3⟩:=ajn s id
 exact ⟨h1.trans h.sch,Sp.auy id h.ok,by have:=h.nx;omega,Sp.awK id h.small⟩
theorem FO.more {k k':Int} {s:Sp.dQ} (h:FO k s) (hk:k≤k'):FO k' s:=⟨h.sch,h.ok,by have:=h.nx;omega,h.small⟩
theorem FO.grows {s:Sp.dQ} (h:FO 2 s) (hl:s.2.1.length<12) {f:Sp.aQ} (ho:0≤f.2.1∧f.2.1≤2) (hk:0≤f.2.2.2.1∧f.2.2.2.1≤6) (ha:Sp.lQ Sp.usual f.2.2.2.2.1=true):(Sp.dV s f).1.2.1.length=s.2.1.length+1:=by
 have hnx:=(Sp.nZ.1 h.ok).2.2.2
 have h2:=h.nx
 have hf:Sp.dA s.1 (s.2.2.1,f.2)=true:=by
  rw [h.sch]
  show (Sp.lQ Sp.usual f.2.2.2.2.1&&Sp.fZ Sp.usual&&(decide (1≤s.2.2.1)&&decide (s.2.2.1≤60))&&(decide (0≤f.2.1)&&decide (f.2.1≤2))&&(decide (0≤f.2.2.2.1)&&decide (f.2.2.2.1≤60)))=true
  rw [ha,aCo,decide_eq_true hnx.1,decide_eq_true (by omega),decide_eq_true ho.1,decide_eq_true ho.2,decide_eq_true hk.1,decide_eq_true (by omega)]
  rfl
 rcases Sp.uf s f with ⟨_,e⟩|⟨_,_,_,e⟩
 · exact (e ⟨h.ok,hl,hf⟩).elim
 · rw [e]
   show (s.2.1++[_]).length=_
   rw [List.length_append];rfl
theorem Zy:Sp.aN (Sp.usual,[(1,0,false,0,[],())],2,())=true∧Sp.bQ (Sp.usual,[(1,0,false,0,[],())],2,()):=⟨by kernel_rfl,by decide,by decide,fun f hf=>by rw [List.mem_singleton.1 hf];exact Nat.zero_le _⟩
theorem FO.one {s:Sp.dQ} (h:FO 1 s) {f:Sp.aQ} (ho:0≤f.2.1∧f.2.1≤2) (hk:0≤f.2.2.2.1∧f.2.2.2.1≤6) (ha:Sp.lQ Sp.usual f.2.2.2.2.1=true):0<(Sp.dV s f).1.2.1.length:=by
 by_cases hl:s.2.1.length<12
 · rw [(h.more (show (1:Int)≤2 by decide)).grows hl ho hk ha];omega
 · rcases Sp.uf s f with ⟨e,_⟩|⟨_,_,_,e⟩
   · rw [e];show 0<s.2.1.length;omega
   · rw [e];show 0<(s.2.1++[_]).length;rw [List.length_append,List.length_singleton];omega
theorem aoU:aG prog G Fz Gy:=by
 refine aoV (aC (l:=[(Bq, .eff (ay uw) D7),(qL, .eff (ay mr) o9),(Bv, .eff (ay uq) D6),(Hu, .eff (ay zZ) Jb),(dH, .eff (ay dn) dw),(Fa, .eff (ay yw) Gx),(Fb, .eff (ay yj) Gu)]) (au ah) (by simp only [List.forall_mem_cons];exact ⟨⟨ajl,agn⟩,⟨S9,PL⟩,⟨ajj,agm⟩,⟨arD,aos⟩,⟨ku,jG⟩,⟨aoR,alH⟩,⟨aoI,alE⟩,fun x hx=>by cases hx⟩)) (fun _ _=>⟨(((Sp.usual,[(1,0,false,0,[],())],2,()),()),(([],0,0,()),())),⟨by decide,rfl,Zy.1,by decide,Zy.2,by decide⟩⟩) ?_
 intro b i h hin hp
 have hp:0≤i:=hp
 refine ⟨trivial,?_⟩
 rintro ⟨⟨u,⟨⟩⟩,⟨⟩⟩ hu
 have hu:u=Sp.usual:=hu
 subst hu
 refine ⟨(show Sp.usual.length≤1000 by decide),?_⟩
 rintro ⟨⟨⟨a,l,nx,⟨⟩⟩,⟨⟩⟩,⟨⟩⟩ ⟨e1,e2,e3⟩
 have e1:a=Sp.usual:=e1
 have e2:l=[]:=e2
 have e3:nx=1:=e3
 subst e1 e2 e3
 refine ⟨fun y=>0≤y.2.1.2.1∧(0≤y.1.1∧y.1.1≤7)∧FO 1 (y.2.2.2.1,y.2.2.2.2.1,y.2.2.1.2.2.1,())∧(0<y.1.1→0<y.2.2.2.2.1.length),fun y=>(8-y.1.1).toNat,⟨hp,⟨(show (0:Int)≤0 by decide),(show (0:Int)≤7 by decide)⟩,⟨rfl,aCp,(show (1:Int)≤((0:Nat):Int)+1 by decide),ayV⟩,fun h=>absurd h (Int.lt_irrefl 0)⟩,?_⟩
 rintro ⟨⟨n,⟨⟩⟩,⟨b0,i0,g0,⟨⟩⟩,⟨⟨⟩,⟨⟩,nx,⟨⟩⟩,a,l,⟨⟩⟩ ⟨p0,⟨k0,k1⟩,D,hne⟩
 have p0:0≤i0:=p0
 have k0:0≤n:=k0
 have k1:n≤7:=k1
 have D:FO 1 (a,l,nx,()):=D
 have hne:0<n→0<l.length:=hne
 refine ⟨p0,?_⟩
 rintro ⟨⟨x1,⟨⟩⟩,⟨b1,i1,g1,⟨⟩⟩,⟨⟩⟩ ⟨p1,q0,q1,_⟩
 have q1:x1<7:=q1 (by decide)
 have q0:0≤x1:=q0
 have w:IntKind.i64.wrap (1+x1)=1+x1:=iM _ (by omega)
 dsimp only
 rw [w]
 refine af (fun hc=>⟨p1,?_⟩) fun hc=>af (fun h2=>⟨p1,?_⟩) fun h2=>?_
 · have hc:=jw hc
   have wn:IntKind.i64.wrap (n+1)=n+1:=iM _ (by omega)
   rw [wn]
   rintro ⟨⟨⟨d,o,s,lk,al,⟨⟩⟩,⟨⟩⟩,⟨b2,i2,g2,⟨⟩⟩,⟨⟩⟩ ⟨p2,_,o1,o2,k3,k4,hat,ha⟩
   have hf:Sp.dK (d,o,s,lk,al,()):=(show al.length≤1000 from Nat.le_trans ha (by decide))
   refine ⟨⟨D.small,hf⟩,?_⟩
   rintro ⟨⟨⟨a3,l3,nx3,⟨⟩⟩,id3,ok3,⟨⟩⟩,⟨⟩⟩ ⟨e1,e2,e3,_⟩
   have e:((a3,l3,nx3,()):Sp.dQ)=(Sp.dV (a,l,nx,()) (d,o,s,lk,al,())).1:=aoT e1 e2 e3
   refine ⟨rfl,⟨p2,⟨(show 0≤n+1 by omega),(show n+1≤7 by omega)⟩,?_,fun _=>?_⟩,?_⟩
   · show FO 1 (a3,l3,nx3,())
     rw [e];exact D.create hf
   · have:=D.one (f:=(d,o,s,lk,al,())) ⟨o1,o2⟩ ⟨k3,k4⟩ hat
     rw [← e] at this;exact this
   · show (8-(n+1)).toNat<(8-n).toNat
     omega
 · rintro ⟨⟨x3,⟨⟩⟩,⟨b3,i3,g3,⟨⟩⟩,⟨⟩⟩ p3
   have h2:(l.length:Int)>2:=jw h2
   refine af (fun _=>⟨⟨by decide,(show (1:Int)<l.length by omega)⟩,(show 1<l.length by omega),D.small,?_⟩) fun _=>?_
   · rintro ⟨⟨⟨a3,l3,nx3,⟨⟩⟩,ok3,⟨⟩⟩,⟨⟩⟩ ⟨e1,e2,e3,_⟩
     have e:=aoT e1 e2 e3
     have D':=D.delete (List.getD l (Int.toNat 1) (0,0,false,0,[],())).1
     have D':FO 2 (a3,l3,nx3,()):=by
      have e:((a3,l3,nx3,()):Sp.dQ)=(Sp.fJ (a,l,nx,()) (List.getD l (Int.toNat 1) (0,0,false,0,[],())).1).1:=e
      rw [e];exact D'
     refine ⟨p3,D'.sch,D'.ok,D'.nx,D'.small,?_⟩
     have:=(ajn (a,l,nx,()) (List.getD l (Int.toNat 1) (0,0,false,0,[],())).1).2.2
     have e2:l3=(Sp.fJ (a,l,nx,()) (List.getD l (Int.toNat 1) (0,0,false,0,[],())).1).1.2.1:=e2
     rw [← e2] at this
     have this:l.length≤l3.length+1:=this
     show 0<l3.length
     omega
   · have D':=D.more (show (1:Int)≤2 by decide)
     exact ⟨p3,D'.sch,D'.ok,D'.nx,D'.small,hne (by have:=jB hc;omega)⟩
 · have D':=D.more (show (1:Int)≤2 by decide)
   exact ⟨p1,D'.sch,D'.ok,D'.nx,D'.small,hne (by have:=jB hc;omega)⟩
theorem ayW:aA prog G RV QT:=by
 refine ayX (aC (l:=[]) (au ah) (fun x hx=>by cases hx)) ?_
 intro b hin hp
 exact rfl
theorem Iz:aA prog G jL jP:=by
 refine ac7 (aC (l:=[(iZ, .pure iF)]) (au ah) (by simp only [List.forall_mem_cons];exact ⟨⟨yL,wG⟩,fun x hx=>by cases hx⟩)) ?_
 intro s hin hp
 have hlen:s.length≤maxLen:=hin.1
 rw [maxLen_eq] at hlen
 refine ⟨fun y=>∃ n:Nat,y.1.1=n∧n≤s.length∧Sp.lower (s.take n)=true,fun y=>((s.length:Int)-y.1.1).toNat,⟨0,rfl,by omega,rfl⟩,?_⟩
 rintro ⟨⟨_,⟨⟩⟩,⟨⟩⟩ ⟨n,rfl,hn,hJ⟩
 dsimp only
 refine af (fun h=>?_) fun h=>?_<;>simp only [decide_eq_true_eq,decide_eq_false_iff_not] at h
 · have hlt:n<s.length:=by omega
   rw [iM _ (by omega),Int.toNat_natCast]
   refine ⟨⟨by omega,by omega⟩,af (fun h2=>?_) fun h2=>⟨⟨by omega,by omega⟩,af (fun h3=>?_) fun h3=>?_⟩⟩<;>simp only [decide_eq_true_eq,decide_eq_false_iff_not] at*
   · unfold Sp.jf
     cases hl:Sp.lower s with
     |false=>rfl
     |true=>have:=Yc hlt hl;omega
   · unfold Sp.jf
     cases hl:Sp.lower s with
     |false=>rfl
     |true=>have:=Yc hlt hl;omega
   · refine ⟨trivial,⟨n+1,by simp,by omega,?_⟩,by omega⟩
     rw [Sp.take_succ' s n 0 hlt]
     unfold Sp.lower at hJ ⊢
     rw [List.all_append,hJ]
     simp only [List.all_cons,List.all_nil,Bool.and_true,Bool.true_and,Bool.and_eq_true,decide_eq_true_eq]
     omega
 · have hge:n=s.length:=by omega
   rw [hge,List.take_length] at hJ
   unfold Sp.jf
   rw [hJ]
   exact ⟨trivial,rfl⟩
theorem Tj:aA prog G oJ o6:=by
 refine aey (aC (l:=[(jL, .pure jP),(iZ, .pure iF)]) (au ah) (by simp only [List.forall_mem_cons];exact ⟨⟨Iz,Gf⟩,⟨yL,wG⟩,fun x hx=>by cases hx⟩)) ?_
 intro k n s hin hp
 refine af (fun h=>?_) fun h=>af (fun h2=>⟨trivial,af (fun h3=>?_) fun h3=>?_⟩) fun h2=>af (fun h3=>⟨trivial,af (fun h4=>?_) fun h4=>?_⟩) fun h3=>?_
 · have e:k=0:=by simpa using h
   subst e
   exact congrArg (·,()) (Bool.eq_iff_iff.2 (by simp [Sp.kF]))
 · have e:k=1:=by simpa using h2
   subst e
   exact congrArg (·,()) (Bool.eq_iff_iff.2 (by simp only [Bool.and_eq_true,decide_eq_true_eq] at h3;simp [Sp.kF,h3]))
 · have e:k=1:=by simpa using h2
   subst e
   exact congrArg (·,()) (Bool.eq_iff_iff.2 (by simp only [Sp.kF,h3];simp))
 · have e:k=2:=by simpa using h3
   subst e
   exact congrArg (·,()) (Bool.eq_iff_iff.2 (by simp [Sp.kF,h4]))
 · have e:k=2:=by simpa using h3
   subst e
   exact congrArg (·,()) (Bool.eq_iff_iff.2 (by simp [Sp.kF,h4]))
 · have e1:k≠0:=by simpa using h
   have e2:k≠1:=by simpa using h2
   have e3:k≠2:=by simpa using h3
   exact congrArg (·,()) (Bool.eq_iff_iff.2 (by simp [Sp.kF,e1,e2,e3]))
theorem Ny:aA prog G kZ lN:=by
 refine aae (aC (l:=[]) (au ah) (fun x hx=>by cases hx)) ?_
 intro s hin hp
 refine af (fun h=>?_) fun h=>?_
 · have h:(s.length:Int)=1:=jw h
   match s,h with
   |[c],_=>
    refine ⟨⟨by decide,(by show (0:Int)<1;decide)⟩,af (fun h2=>⟨⟨by decide,(by show (0:Int)<1;decide)⟩,?_⟩) fun h2=>?_⟩
    · have h2:(c.toNat:Int)≥97:=jw h2
      refine congrArg (·,()) (Bool.eq_iff_iff.2 ?_)
      simp only [Sp.kN,Sp.lower,List.all_cons,List.all_nil,Bool.and_true,Bool.and_eq_true,decide_eq_true_eq,List.length_cons,List.length_nil]
      constructor
      · intro h3
        have h3:(c.toNat:Int)≤122:=h3
        exact ⟨⟨⟨by omega,by omega⟩,by decide⟩,by decide⟩
      · rintro ⟨⟨⟨_,h4⟩,_⟩,_⟩
        show (c.toNat:Int)≤122
        omega
    · have h2:¬ (c.toNat:Int)≥97:=jB h2
      refine congrArg (·,()) (Bool.eq_iff_iff.2 ?_)
      simp only [Sp.kN,Sp.lower,List.all_cons,List.all_nil,Bool.and_true,Bool.and_eq_true,decide_eq_true_eq]
      constructor
      · intro h3;cases h3
      · rintro ⟨⟨⟨h4,_⟩,_⟩,_⟩;omega
 · have h:¬ (s.length:Int)=1:=jB h
   refine congrArg (·,()) (Bool.eq_iff_iff.2 ?_)
   simp only [Sp.kN,Bool.and_eq_true,decide_eq_true_eq]
   constructor
   · intro h3;cases h3
   · rintro ⟨⟨_,h4⟩,h5⟩;omega
theorem alZ:aA prog G Dw EL:=by
 refine al0 (aC (l:=[]) (au ah) (fun x hx=>by cases hx)) ?_
 intro s name hin hp
 have hlen:s.length≤maxLen:=hin.1.1
 rw [maxLen_eq] at hlen
 refine jH s.length hlen (fun n=>∀ i,i<n→(s.getD i ([],0,())).1≠name) (fun i hi=>by omega) (fun I μ n hn hJ next=>?_) fun I μ hJ=>?_
 · dsimp only
   refine eF (by omega) ⟨⟨by omega,by omega⟩,af (fun h=>?_) fun h=>⟨rfl,next fun i hi=>?_⟩⟩
   · exact congrArg (·,()) (Sp.ajf s n hn hJ (by simpa only [Int.toNat_natCast,beq_iff_eq] using h)).symm
   · rcases Nat.lt_or_ge i n with h'|h'
     · exact hJ i h'
     · have:i=n:=by omega
       subst this
       have h2:((s.getD i ([],0,())).1==name)=false:=h
       exact fun e=>by rw [e] at h2;simp at h2
 · dsimp only
   exact eG (by omega) (congrArg (·,()) (Sp.abu s hJ).symm)
theorem aBE {k:Int} (h:(k !=1)=false∨(k !=2)=false):(decide (1≤k)&&decide (k≤2))=true:=by
 have:k=1∨k=2:=h.imp (by simp) (by simp)
 rcases this with h|h<;>subst h<;>rfl
theorem aDp {k:Int} (h1:(k !=1)=true) (h2:(k !=2)=true):(decide (1≤k)&&decide (k≤2))=false:=by
 have h1:k≠1:=by simpa using h1
 have h2:k≠2:=by simpa using h2
 rw [Bool.and_eq_false_iff]
 by_cases h:k<1
 · left;exact decide_eq_false (by omega)
 · right;exact decide_eq_false (by omega)
theorem QE:aA prog G nG nT:=by
 refine ac8 (aC (l:=[(kZ, .pure lN)]) (au ah) (by simp only [List.forall_mem_cons];exact ⟨⟨Ny,MF⟩,fun x hx=>by cases hx⟩)) ?_
 intro s hin hp
 have hlen:s.length≤maxLen:=hin.1.1
 rw [maxLen_eq] at hlen
 refine jH s.length hlen (fun n=>∀ i,i<n→Sp.oD s i=true) (fun i hi=>by omega) (fun I μ n hn hJ next=>?_) fun I μ hJ=>?_
 · dsimp only
   have no:Sp.oD s n=false→(false,())=(Sp.fZ s,()):=fun h=>by rw [Sp.ank hn h]
   have rest:Sp.kN (Sp.fieldAt s n).1=true→(decide (1≤(Sp.fieldAt s n).2.1)&&decide ((Sp.fieldAt s n).2.1≤2))=true→
    bif decide ((n:Int)>0) then
     ((0:Int)≤IntKind.i64.wrap ((n:Int)-1)∧IntKind.i64.wrap ((n:Int)-1)<(s.length:Int))∧
       bif !Op.bytesLess (s.getD (IntKind.i64.wrap ((n:Int)-1)).toNat ([],0,())).fst (s.getD (Int.toNat (n:Int)) ([],0,())).fst then (false,())=(Sp.fZ s,())
       else True∧I ((IntKind.i64.wrap ((n:Int)+1),()),())∧μ ((IntKind.i64.wrap ((n:Int)+1),()),())<μ (((n:Int),()),())
    else True∧I ((IntKind.i64.wrap ((n:Int)+1),()),())∧μ ((IntKind.i64.wrap ((n:Int)+1),()),())<μ (((n:Int),()),()):=by
    intro h2 h3
    refine af (fun h4=>?_) fun h4=>⟨trivial,next (fA hJ ?_)⟩
    · have h4:0<n:=by have:=jw h4;omega
      rw [Dt h4 (by omega)]
      refine ⟨⟨by omega,by omega⟩,af (fun h5=>no ?_) fun h5=>⟨trivial,next (fA hJ ?_)⟩⟩
      · have h5:Op.bytesLess (Sp.fieldAt s (n-1)).1 (Sp.fieldAt s n).1=false:=kQ h5
        unfold Sp.oD;rw [h2,h3,h5,decide_eq_true h4];rfl
      · have h5:Op.bytesLess (Sp.fieldAt s (n-1)).1 (Sp.fieldAt s n).1=true:=ig h5
        unfold Sp.oD;rw [h2,h3,h5,decide_eq_true h4];rfl
    · have h4:¬ 0<n:=by have:=jB h4;omega
      unfold Sp.oD;rw [h2,h3,decide_eq_false h4];rfl
   simp only [true_and] at rest
   refine eF (by omega) ⟨⟨by omega,by omega⟩,trivial,af (fun h2=>no ?_) fun h2=>af (fun h3=>af (fun h4=>no ?_) fun h4=>?_) fun h3=>?_⟩
   · have h2:Sp.kN (Sp.fieldAt s n).1=false:=kQ h2
     unfold Sp.oD;rw [h2];rfl
   · have h2:Sp.kN (Sp.fieldAt s n).1=true:=ig h2
     have h3:(decide (1≤(Sp.fieldAt s n).2.1)&&decide ((Sp.fieldAt s n).2.1≤2))=false:=aDp h3 h4
     unfold Sp.oD;rw [h2,h3];rfl
   · have h2:Sp.kN (Sp.fieldAt s n).1=true:=ig h2
     have h3:(decide (1≤(Sp.fieldAt s n).2.1)&&decide ((Sp.fieldAt s n).2.1≤2))=true:=aBE (.inr h4)
     simp only [true_and]
     exact rest h2 h3
   · have h2:Sp.kN (Sp.fieldAt s n).1=true:=ig h2
     have h3:(decide (1≤(Sp.fieldAt s n).2.1)&&decide ((Sp.fieldAt s n).2.1≤2))=true:=aBE (.inl h3)
     simp only [true_and]
     exact rest h2 h3
 · dsimp only
   refine eG (by omega) (congrArg (·,()) ?_)
   unfold Sp.fZ
   rw [sQ hJ];rfl
theorem ac9:aA prog G vX yP:=by
 refine ada (aC (l:=[(Dw, .pure EL),(oJ, .pure o6)]) (au ah) (by simp only [List.forall_mem_cons];exact ⟨⟨alZ,ai1⟩,⟨Tj,Qz⟩,fun x hx=>by cases hx⟩)) ?_
 intro fs s k n w hin hp
 refine ⟨trivial,af (fun h=>af (fun h2=>⟨trivial,?_⟩) fun h2=>?_) fun h=>?_⟩
 · exact congrArg (·,()) (Bool.eq_iff_iff.2 (by simp only [bne_iff_ne,ne_eq] at h2;simp [Sp.jb,h,h2]))
 · exact congrArg (·,()) (Bool.eq_iff_iff.2 (by simp at h2;simp [Sp.jb,h2]))
 · exact congrArg (·,()) (Bool.eq_iff_iff.2 (by simp [Sp.jb,h]))
theorem Uw:aA prog G pJ qw:=by
 refine agD (aC (l:=[(nG, .pure nT),(JW, .pure Lh),(iZ, .pure iF),(vX, .pure yP)]) (au ah) (by simp only [List.forall_mem_cons];exact ⟨⟨QE,OT⟩,⟨auu,arh⟩,⟨yL,wG⟩,⟨ac9,abt⟩,fun x hx=>by cases hx⟩)) ?_
 intro fs f0 f1 f2 f3 f4 hin hp
 have hlen:f4.length≤maxLen:=hin.2.1.2.2.2.2.1.1
 rw [maxLen_eq] at hlen
 refine jH f4.length hlen (fun n=>∀ i,i<n→Sp.lZ fs f4 i=true) (fun i hi=>by omega) (fun I μ n hn hJ next=>?_) fun I μ hJ=>?_
 · dsimp only
   have no:Sp.lZ fs f4 n=false→(false,())=(Sp.dA fs (f0,f1,f2,f3,f4,()),()):=fun h=>by rw [Sp.av2 (f:=(f0,f1,f2,f3,f4,())) hn h]
   refine eF (by omega) ⟨⟨by omega,by omega⟩,af (fun h4=>?_) fun h4=>⟨trivial,af (fun h2=>no ?_) fun h2=>⟨rfl,next (fA hJ ?_)⟩⟩⟩
   · have h4:0<n:=by have:=jw h4;omega
     rw [Dt h4 (by omega)]
     refine ⟨⟨by omega,by omega⟩,af (fun h5=>no ?_) fun h5=>⟨trivial,af (fun h2=>no ?_) fun h2=>⟨rfl,next (fA hJ ?_)⟩⟩⟩
     · have h5:Op.bytesLess (Sp.cu f4 (n-1)).1 (Sp.cu f4 n).1=false:=kQ h5
       unfold Sp.lZ;rw [h5,decide_eq_true h4];exact Bool.and_false _
     · have h2:Sp.jb fs (Sp.cu f4 n).1 (Sp.cu f4 n).2.1 (Sp.cu f4 n).2.2.1 (Sp.cu f4 n).2.2.2.1=false:=kQ h2
       unfold Sp.lZ;rw [h2];rfl
     · have h2:Sp.jb fs (Sp.cu f4 n).1 (Sp.cu f4 n).2.1 (Sp.cu f4 n).2.2.1 (Sp.cu f4 n).2.2.2.1=true:=ig h2
       have h5:Op.bytesLess (Sp.cu f4 (n-1)).1 (Sp.cu f4 n).1=true:=ig h5
       unfold Sp.lZ;rw [h2,h5,decide_eq_true h4];rfl
   · have h2:Sp.jb fs (Sp.cu f4 n).1 (Sp.cu f4 n).2.1 (Sp.cu f4 n).2.2.1 (Sp.cu f4 n).2.2.2.1=false:=kQ h2
     unfold Sp.lZ;rw [h2];rfl
   · have h2:Sp.jb fs (Sp.cu f4 n).1 (Sp.cu f4 n).2.1 (Sp.cu f4 n).2.2.1 (Sp.cu f4 n).2.2.2.1=true:=ig h2
     have h4:¬ 0<n:=by have:=jB h4;omega
     unfold Sp.lZ;rw [h2,decide_eq_false h4];rfl
 · dsimp only
   have ha:Sp.lQ fs f4=true:=sQ hJ
   refine eG (by omega) ⟨trivial,af (fun h1=>⟨trivial,af (fun h2=>⟨trivial,af (fun h3=>⟨trivial,?_⟩) fun h3=>?_⟩) fun h2=>?_⟩) fun h1=>?_⟩
   all_goals refine congrArg (·,()) ?_
   · show Sp.fZ fs=(Sp.lQ fs f4&&Sp.fZ fs&&(decide (1≤f0)&&decide (f0≤60))&&(decide (0≤f1)&&decide (f1≤2))&&(decide (0≤f3)&&decide (f3≤60)))
     rw [ha,h1,h2,h3];cases Sp.fZ fs<;>rfl
   · show false=(Sp.lQ fs f4&&Sp.fZ fs&&(decide (1≤f0)&&decide (f0≤60))&&(decide (0≤f1)&&decide (f1≤2))&&(decide (0≤f3)&&decide (f3≤60)))
     rw [h3,Bool.and_false]
   · show false=(Sp.lQ fs f4&&Sp.fZ fs&&(decide (1≤f0)&&decide (f0≤60))&&(decide (0≤f1)&&decide (f1≤2))&&(decide (0≤f3)&&decide (f3≤60)))
     rw [h2,Bool.and_false,Bool.false_and]
   · show false=(Sp.lQ fs f4&&Sp.fZ fs&&(decide (1≤f0)&&decide (f0≤60))&&(decide (0≤f1)&&decide (f1≤2))&&(decide (0≤f3)&&decide (f3≤60)))
     rw [h1,Bool.and_false,Bool.false_and,Bool.false_and]
theorem Tm:aA prog G oK o7:=by
 refine aez (aC (l:=[(iZ, .pure iF),(nG, .pure nT),(pJ, .pure qw)]) (au ah) (by simp only [List.forall_mem_cons];exact ⟨⟨yL,wG⟩,⟨QE,OT⟩,⟨Uw,SI⟩,fun x hx=>by cases hx⟩)) ?_
 intro s0 s1 s2 hin hp
 have hlen:s1.length≤maxLen:=hin.1.2.1.1
 rw [maxLen_eq] at hlen
 refine jH s1.length hlen (fun n=>∀ i,i<n→Sp.nK (s0,s1,s2,()) i=true) (fun i hi=>by omega) (fun I μ n hn hJ next=>?_) fun I μ hJ=>?_
 · dsimp only
   have no:Sp.nK (s0,s1,s2,()) n=false→(false,())=(Sp.aN (s0,s1,s2,()),()):=fun h=>by rw [Sp.arq (s:=(s0,s1,s2,())) hn h]
   refine eF (by omega) ⟨⟨by omega,by omega⟩,trivial,af (fun h2=>no ?_) fun h2=>af (fun h3=>no ?_) fun h3=>af (fun h4=>?_) fun h4=>⟨rfl,next (fA hJ ?_)⟩⟩
   · have h2:Sp.dA s0 (Sp.fileAt s1 n)=false:=kQ h2
     show (Sp.dA s0 (Sp.fileAt s1 n)&&_&&_)=false
     rw [h2];rfl
   · have h2:Sp.dA s0 (Sp.fileAt s1 n)=true:=ig h2
     have h3:¬ (Sp.fileAt s1 n).1<s2:=by have h3:(Sp.fileAt s1 n).1≥s2:=jw h3;omega
     show (Sp.dA s0 (Sp.fileAt s1 n)&&decide ((Sp.fileAt s1 n).1<s2)&&_)=false
     rw [h2,decide_eq_false h3];rfl
   · have h2:Sp.dA s0 (Sp.fileAt s1 n)=true:=ig h2
     have h3:(Sp.fileAt s1 n).1<s2:=by have h3:¬ (Sp.fileAt s1 n).1≥s2:=jB h3;omega
     have h4:0<n:=by have:=jw h4;omega
     rw [Dt h4 (by omega)]
     refine ⟨⟨by omega,by omega⟩,af (fun h5=>no ?_) fun h5=>⟨rfl,next (fA hJ ?_)⟩⟩
     · have h5:¬ (Sp.fileAt s1 (n-1)).1<(Sp.fileAt s1 n).1:=by have h5:(Sp.fileAt s1 (n-1)).1≥(Sp.fileAt s1 n).1:=jw h5;omega
       show (Sp.dA s0 (Sp.fileAt s1 n)&&decide ((Sp.fileAt s1 n).1<s2)&&!(decide (0<n)&&!decide ((Sp.fileAt s1 (n-1)).1<(Sp.fileAt s1 n).1)))=false
       rw [h2,decide_eq_true h3,decide_eq_true h4,decide_eq_false h5];rfl
     · have h5:(Sp.fileAt s1 (n-1)).1<(Sp.fileAt s1 n).1:=by have h5:¬ (Sp.fileAt s1 (n-1)).1≥(Sp.fileAt s1 n).1:=jB h5;omega
       show (Sp.dA s0 (Sp.fileAt s1 n)&&decide ((Sp.fileAt s1 n).1<s2)&&!(decide (0<n)&&!decide ((Sp.fileAt s1 (n-1)).1<(Sp.fileAt s1 n).1)))=true
       rw [h2,decide_eq_true h3,decide_eq_true h4,decide_eq_true h5];rfl
   · have h2:Sp.dA s0 (Sp.fileAt s1 n)=true:=ig h2
     have h3:(Sp.fileAt s1 n).1<s2:=by have h3:¬ (Sp.fileAt s1 n).1≥s2:=jB h3;omega
     have h4:¬ 0<n:=by have:=jB h4;omega
     show (Sp.dA s0 (Sp.fileAt s1 n)&&decide ((Sp.fileAt s1 n).1<s2)&&!(decide (0<n)&&!decide ((Sp.fileAt s1 (n-1)).1<(Sp.fileAt s1 n).1)))=true
     rw [h2,decide_eq_true h3,decide_eq_false h4];rfl
 · dsimp only
   have ha:Sp.lC s1.length (Sp.nK (s0,s1,s2,()))=true:=sQ hJ
   refine eG (by omega) ⟨trivial,af (fun h1=>af (fun h2=>⟨trivial,?_⟩) fun h2=>?_) fun h1=>?_⟩
   · refine congrArg (·,()) ?_
     show _=(Sp.lC s1.length (Sp.nK (s0,s1,s2,()))&&Sp.fZ s0&&decide ((s1.length:Int)≤12)&&(decide (1≤s2)&&decide (s2≤61)))
     rw [ha,h1,h2];rfl
   · refine congrArg (·,()) ?_
     show _=(Sp.lC s1.length (Sp.nK (s0,s1,s2,()))&&Sp.fZ s0&&decide ((s1.length:Int)≤12)&&(decide (1≤s2)&&decide (s2≤61)))
     rw [ha,h1,h2];rfl
   · refine congrArg (·,()) ?_
     show _=(Sp.lC s1.length (Sp.nK (s0,s1,s2,()))&&Sp.fZ s0&&decide ((s1.length:Int)≤12)&&(decide (1≤s2)&&decide (s2≤61)))
     rw [ha,h1];rfl
theorem ax6 {α:Type} {l:List α} {lo:Nat} {news:List α} (h:lo+news.length≤l.length):(iE l lo news).length=l.length:=by
 unfold iE
 simp only [List.length_append,List.length_take,List.length_drop]
 omega
theorem av3 {α:Type} {l:List α} {lo k:Nat} {news:List α} (hk:k≤lo) (h:lo≤l.length):(iE l lo news).take k=l.take k:=by
 unfold iE
 rw [List.append_assoc,List.take_append_of_le_length (by rw [List.length_take];omega),List.take_take,Nat.min_eq_left hk]
theorem al1:aG prog G Dz EP:=by
 refine al2 (aC (l:=[(oQ, .pure oq)]) (au ah) (by simp only [List.forall_mem_cons];exact ⟨⟨PV,Og⟩,fun x hx=>by cases hx⟩)) (fun ⟨l,_⟩ _=>⟨((l,()),()),rfl⟩) ?_
 intro l hin hp
 obtain ⟨h1,h2⟩:l.length≤1000∧∀ f∈l,Sp.dK f:=hp
 refine gQ (fun i (x:List Sp.aQ)=>(((),i,()),x,())) (fun y=>y.1.2.1) (fun _ _=>rfl) l.length (by omega) (fun n x=>x=l.take n) (by simp) (fun I μ n x hn hJ next=>?_) fun I μ x hJ=>?_
 · subst hJ
   have hl:(l.take n).length≤n:=by rw [List.length_take];omega
   dsimp only
   refine eF (by omega) ⟨⟨by omega,by omega⟩,h2 _ (getD_mem (d:=((0:Int),(0:Int),false,(0:Int),[],())) hn),by rw [dU];simp only [List.length_cons,List.length_nil];omega,rfl,next _ ?_⟩
   exact (Sp.take_succ' l n (0,0,false,0,[],()) hn).symm
 · subst hJ
   dsimp only
   refine eG (by omega) ?_
   show List.take l.length l=l
   rw [List.take_length]
theorem Oh:aG prog G nI mM:=by
 refine al3 (aC (l:=[(Dz, .eff (ay wJ) EP),(oU, .pure rH)]) (au ah) (by simp only [List.forall_mem_cons];exact ⟨⟨al1,ai5⟩,⟨WH,VY⟩,fun x hx=>by cases hx⟩)) (fun ⟨(a,l,nx,_),_⟩ _=>⟨(((a,l,nx,()),()),()),rfl⟩) ?_
 intro s0 s1 s2 hin hp
 obtain ⟨h0,h1,h2⟩:s0.length≤1000∧s1.length≤1000∧∀ f∈s1,Sp.dK f:=hp
 refine ⟨h0,⟨h1,h2⟩,?_⟩
 rintro ⟨⟨x,⟨⟩⟩,⟨⟩⟩ e
 have e:x=s1:=e
 subst e
 exact rfl
end Go.Proofs.Tryz
