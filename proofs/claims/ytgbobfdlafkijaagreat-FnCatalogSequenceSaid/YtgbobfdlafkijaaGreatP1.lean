import Derived.Test.YtgbobfdlafkijaaGreatV1
import Derived.Test.YtgbobfdlafkijaaGreatSp
namespace Go.Proofs.Tryz
open Go Go.Fw Go.IntWalk
theorem aEL (x y:Int) (m:Nat) (hm:m<9223372036854775807) (hy:(BitVec.ofInt 64 y).toNat=m):0≤bitsOf .and .i64 x y∧bitsOf .and .i64 x y≤m:=by
 have h:(BitVec.ofInt 64 x&&&BitVec.ofInt 64 y).toNat≤m:=by
  rw [BitVec.toNat_and,hy]
  exact Nat.and_le_right
 show 0≤IntKind.i64.wrap ((BitVec.ofInt 64 x&&&BitVec.ofInt 64 y).toNat:Int)∧IntKind.i64.wrap ((BitVec.ofInt 64 x&&&BitVec.ofInt 64 y).toNat:Int)≤m
 generalize (BitVec.ofInt 64 x&&&BitVec.ofInt 64 y).toNat=z at h ⊢
 rw [iL _ (by omega)]
 omega
theorem aEM (x:Int):0≤bitsOf .and .i64 x 255∧bitsOf .and .i64 x 255≤255:=aEL x 255 255 (by omega) (by decide)
theorem afo:aG prog G Df BB:=by
 refine axU (aB (l:=[]) (au ah) (fun x hx=>by cases hx)) (fun ⟨_,⟨⟩⟩ _=>⟨([],0,0,()),rfl⟩) ?_
 intro code hin hp
 have hp:code.length≤1048576:=hp
 refine ⟨fun y=>∃ n:Nat,y.1.2.1=n∧n≤code.length,fun y=>((code.length:Int)-y.1.2.1).toNat,⟨0,rfl,by omega⟩,?_⟩
 rintro ⟨⟨h,_,⟨⟩⟩,⟨⟩⟩ ⟨n,rfl,hn⟩
 dsimp only
 refine af (fun hc=>?_) fun hc=>?_
 · simp only [decide_eq_true_eq] at hc
   cases decide ((n:Int)<4000) with
   |false=>exact rfl
   |true=>
    have e:IntKind.i64.wrap ((n:Int)+1)=((n+1:Nat):Int):=iL _ (by omega)
    refine ⟨?_,?_,?_,?_⟩
    · exact ⟨by omega,hc⟩
    · exact rfl
    · exact ⟨n+1,e,by omega⟩
    show ((code.length:Int)-IntKind.i64.wrap ((n:Int)+1)).toNat<((code.length:Int)-n).toNat
    rw [e]
    omega
 · exact rfl
theorem auQ:aG prog G Jr KC:=by
 refine auR (aB (l:=[]) (au ah) (fun x hx=>by cases hx)) (fun _ _=>⟨(((0:Int),()),(([],0,0,()),())),⟨by decide,by decide,by decide⟩⟩) ?_
 intro b i h hin hp
 have hp:0≤i:=hp
 refine ⟨by decide,by decide,af (fun hc=>?_) fun hc=>?_⟩<;>simp only [decide_eq_true_eq,decide_eq_false_iff_not] at hc
 · have hl:b.length≤maxLen:=hin.1.1.1
   rw [maxLen_eq] at hl
   refine ⟨⟨hp,hc⟩,?_,aEM _⟩
   show 0≤IntKind.i64.wrap (i+1)
   rw [iL _ (by omega)]
   omega
 · exact ⟨hp,aEM _⟩
theorem tmod_lt {a n:Int} (ha:0≤a) (hn:0<n):0≤a.tmod n∧a.tmod n<n:=⟨Int.tmod_nonneg n ha,Int.tmod_lt_of_pos a hn⟩
theorem kV:aG prog G dU dK:=by
 refine arU (aB (l:=[(Jr, .eff (ax BD) KC)]) (au ah) (by simp only [List.forall_mem_cons];exact ⟨⟨auQ,arC⟩,fun x hx=>by cases hx⟩)) (fun ⟨_,n,⟨⟩⟩ _=>⟨(((0:Int),()),(([],0,0,()),())),⟨Int.le_refl _,Int.le_refl _,fun h=>h,fun _=>rfl⟩⟩) ?_
 intro b i h n hin hp
 have hp:0≤i:=hp
 refine af (fun hc=>?_) fun hc=>?_<;>simp only [decide_eq_true_eq,decide_eq_false_iff_not] at hc
 · exact ⟨hp,Int.le_refl _,fun h=>(by omega),fun _=>rfl⟩
 · refine af (fun hc2=>?_) fun hc2=>?_
   · refine ⟨hp,?_⟩
     rintro ⟨⟨x,⟨⟩⟩,⟨b',i',h',⟨⟩⟩,⟨⟩⟩ ⟨h1,h2,h3⟩
     dsimp only at h1 h2 h3 ⊢
     have:=tmod_lt h2 (show 0<n by omega)
     exact ⟨by omega,h1,this.1,fun _=>this.2,fun h=>(by omega)⟩
   · refine ⟨hp,?_⟩
     rintro ⟨⟨x1,⟨⟩⟩,⟨b1,i1,g1,⟨⟩⟩,⟨⟩⟩ ⟨h1,h2,h3⟩
     refine ⟨h1,?_⟩
     rintro ⟨⟨x2,⟨⟩⟩,⟨b2,i2,g2,⟨⟩⟩,⟨⟩⟩ ⟨k1,k2,k3⟩
     refine ⟨k1,?_⟩
     rintro ⟨⟨x3,⟨⟩⟩,⟨b3,i3,g3,⟨⟩⟩,⟨⟩⟩ ⟨l1,l2,l3⟩
     refine ⟨l1,?_⟩
     rintro ⟨⟨x4,⟨⟩⟩,⟨b4,i4,g4,⟨⟩⟩,⟨⟩⟩ ⟨m1,m2,m3⟩
     dsimp only at*
     rw [iL (x1*16777216) (by omega),iL (x2*65536) (by omega),iL (x3*256) (by omega),iL (x1*16777216+x2*65536) (by omega),iL (x1*16777216+x2*65536+x3*256) (by omega),iL (x1*16777216+x2*65536+x3*256+x4) (by omega)]
     have:=tmod_lt (a:=x1*16777216+x2*65536+x3*256+x4) (n:=n) (by omega) (by omega)
     exact ⟨by omega,m1,this.1,fun _=>this.2,fun h=>(by omega)⟩
theorem Vy:aG prog G sG qF:=by
 refine auS (aB (l:=[(dU, .eff (ax dI) dK)]) (au ah) (by simp only [List.forall_mem_cons];exact ⟨⟨kV,jZ⟩,fun x hx=>by cases hx⟩)) (fun _ _=>⟨((false,()),(([],0,0,()),())),Int.le_refl _⟩) ?_
 intro b i h n hin hp
 refine ⟨hp,?_⟩
 rintro ⟨⟨x,⟨⟩⟩,⟨b',i',h',⟨⟩⟩,⟨⟩⟩ ⟨h1,_⟩
 exact h1
theorem Vz:aG prog G sF qG:=by
 refine auT (aB (l:=[(dU, .eff (ax dI) dK)]) (au ah) (by simp only [List.forall_mem_cons];exact ⟨⟨kV,jZ⟩,fun x hx=>by cases hx⟩)) (fun ⟨_,l,⟨⟩⟩ ⟨_,hl⟩=>(match l,hl with|x::_,_=>⟨((x.1,()),(([],0,0,()),())),⟨Int.le_refl _,List.mem_cons_self⟩⟩)) ?_
 intro b i h l hin hp
 obtain ⟨hp,hl⟩:=hp
 have hpos:0<l.length:=List.length_pos_iff.2 hl
 refine ⟨hp,?_⟩
 rintro ⟨⟨x,⟨⟩⟩,⟨b',i',h',⟨⟩⟩,⟨⟩⟩ ⟨h1,h2,h3,_⟩
 have h3:x<(l.length:Int):=h3 (by omega)
 refine ⟨⟨h2,h3⟩,h1,?_⟩
 exact getD_mem (by dsimp only at h2;omega)
theorem alW:aG prog G Dx FH:=by
 refine alX (aB (l:=[(dU, .eff (ax dI) dK)]) (au ah) (by simp only [List.forall_mem_cons];exact ⟨⟨kV,jZ⟩,fun x hx=>by cases hx⟩)) (fun ⟨_,l,⟨⟩⟩ ⟨_,hl⟩=>(match l,hl with|x::_,_=>⟨((x.1,()),(([],0,0,()),())),⟨Int.le_refl _,List.mem_cons_self⟩⟩)) ?_
 intro b i h l hin hp
 obtain ⟨hp,hl⟩:=hp
 have hpos:0<l.length:=List.length_pos_iff.2 hl
 refine ⟨hp,?_⟩
 rintro ⟨⟨x,⟨⟩⟩,⟨b',i',h',⟨⟩⟩,⟨⟩⟩ ⟨h1,h2,h3,_⟩
 have h3:x<(l.length:Int):=h3 (by omega)
 refine ⟨⟨h2,h3⟩,h1,?_⟩
 exact getD_mem (by dsimp only at h2;omega)
theorem arV:aG prog G G8 IU:=by
 refine arW (aB (l:=[]) (au ah) (fun x hx=>by cases hx)) (fun _ _=>⟨((Sp.usual,()),()),rfl⟩) ?_
 intro hin hp
 exact rfl
theorem SB:aA prog G qj pG:=by
 refine arX (aB (l:=[]) (au ah) (fun x hx=>by cases hx)) ?_
 intro n hin hp
 exact rfl
theorem WG:aA prog G qL rF:=by
 refine ai8 (aB (l:=[]) (au ah) (fun x hx=>by cases hx)) ?_
 intro n hin hp
 exact rfl
theorem rC:aA prog G iq fU:=by
 refine az0 (aB (l:=[]) (au ah) (fun x hx=>by cases hx)) ?_
 intro x a b hin hp
 refine af (fun h=>?_) fun h=>?_
 · have h:=ji h
   show (decide (x≤b),())=(decide (a≤x)&&decide (x≤b),())
   rw [decide_eq_true (show a≤x from h)];rfl
 · have h:=jl h
   show (false,())=(decide (a≤x)&&decide (x≤b),())
   rw [decide_eq_false (show ¬ a≤x from h)];rfl
theorem zU:aA prog G jm iV:=by
 refine axV (aB (l:=[]) (au ah) (fun x hx=>by cases hx)) ?_
 intro x a b hin hp
 refine af (fun h=>?_) fun h=>?_
 · show (decide (x≤b),())=(decide (a≤x)&&decide (x≤b),())
   rw [h];rfl
 · show (false,())=(decide (a≤x)&&decide (x≤b),())
   rw [h];rfl
theorem aap {s:List UInt8} {n:Nat} (hlt:n<s.length) (hl:Sp.lower s=true):97≤(s.getD n 0).toNat∧(s.getD n 0).toNat≤122:=by
 have:=List.all_eq_true.1 hl _ (getD_mem (d:=0) hlt)
 simpa using this
theorem adq:aA prog G zN zD:=by
 refine auU (aB (l:=[(iq, .pure fU)]) (au ah) (by simp only [List.forall_mem_cons];exact ⟨⟨rC,pF⟩,fun x hx=>by cases hx⟩)) ?_
 intro s most hin hp
 have hlen:s.length≤maxLen:=hin.1
 rw [maxLen_eq] at hlen
 refine ⟨fun y=>∃ n:Nat,y.1.1=n∧n≤s.length∧Sp.lower (s.take n)=true,fun y=>((s.length:Int)-y.1.1).toNat,⟨0,rfl,by omega,rfl⟩,?_⟩
 rintro ⟨⟨_,⟨⟩⟩,⟨⟩⟩ ⟨n,rfl,hn,hJ⟩
 dsimp only
 refine af (fun h=>?_) fun h=>?_<;>simp only [decide_eq_true_eq,decide_eq_false_iff_not] at h
 · have hlt:n<s.length:=by omega
   rw [iL _ (by omega),Int.toNat_natCast]
   refine ⟨⟨by omega,by omega⟩,af (fun h2=>?_) fun h2=>⟨⟨by omega,by omega⟩,af (fun h3=>?_) fun h3=>?_⟩⟩<;>simp only [decide_eq_true_eq,decide_eq_false_iff_not] at*
   · cases hl:Sp.lower s with
     |false=>rfl
     |true=>have:=aap hlt hl;omega
   · cases hl:Sp.lower s with
     |false=>rfl
     |true=>have:=aap hlt hl;omega
   · refine ⟨trivial,⟨n+1,by simp,by omega,?_⟩,by omega⟩
     rw [Sp.take_succ' s n 0 hlt]
     unfold Sp.lower at hJ ⊢
     rw [List.all_append,hJ]
     simp only [List.all_cons,List.all_nil,Bool.and_true,Bool.true_and,Bool.and_eq_true,decide_eq_true_eq]
     omega
 · have hge:n=s.length:=by omega
   rw [hge,List.take_length] at hJ
   rw [hJ]
   exact ⟨trivial,rfl⟩
theorem JX:aA prog G kD kG:=by
 refine afp (aB (l:=[(zN, .pure zD)]) (au ah) (by simp only [List.forall_mem_cons];exact ⟨⟨adq,abM⟩,fun x hx=>by cases hx⟩)) ?_
 intro s hin hp
 exact ⟨trivial,rfl⟩
theorem VA:aA prog G pY qy:=by
 refine agR (aB (l:=[(kD, .pure kG),(iq, .pure fU)]) (au ah) (by simp only [List.forall_mem_cons];exact ⟨⟨JX,Iw⟩,⟨rC,pF⟩,fun x hx=>by cases hx⟩)) ?_
 intro k n s hin hp
 refine af (fun h=>?_) fun h=>af (fun h2=>⟨trivial,af (fun h3=>?_) fun h3=>?_⟩) fun h2=>af (fun h3=>⟨trivial,af (fun h4=>?_) fun h4=>?_⟩) fun h3=>?_
 · have e:k=0:=by simpa using h
   subst e
   exact congrArg (·,()) (Bool.eq_iff_iff.2 (by simp [Sp.kY]))
 · have e:k=1:=by simpa using h2
   subst e
   exact congrArg (·,()) (Bool.eq_iff_iff.2 (by simp only [Bool.and_eq_true,decide_eq_true_eq] at h3;simp [Sp.kY,h3]))
 · have e:k=1:=by simpa using h2
   subst e
   exact congrArg (·,()) (Bool.eq_iff_iff.2 (by simp only [Sp.kY,h3];simp))
 · have e:k=2:=by simpa using h3
   subst e
   exact congrArg (·,()) (Bool.eq_iff_iff.2 (by simp [Sp.kY,h4]))
 · have e:k=2:=by simpa using h3
   subst e
   exact congrArg (·,()) (Bool.eq_iff_iff.2 (by simp [Sp.kY,h4]))
 · have e1:k≠0:=by simpa using h
   have e2:k≠1:=by simpa using h2
   have e3:k≠2:=by simpa using h3
   exact congrArg (·,()) (Bool.eq_iff_iff.2 (by simp [Sp.kY,e1,e2,e3]))
theorem PG:aA prog G lV mQ:=by
 refine acE (aB (l:=[(zN, .pure zD)]) (au ah) (by simp only [List.forall_mem_cons];exact ⟨⟨adq,abM⟩,fun x hx=>by cases hx⟩)) ?_
 intro s hin hp
 exact ⟨trivial,rfl⟩
theorem aoL:aA prog G EU Gx:=by
 refine aoM (aB (l:=[]) (au ah) (fun x hx=>by cases hx)) ?_
 intro s name hin hp
 have hlen:s.length≤maxLen:=hin.1.1
 rw [maxLen_eq] at hlen
 refine ku s.length hlen (fun n=>∀ i,i<n→(s.getD i ([],0,())).1≠name) (fun i hi=>by omega) (fun I μ n hn hJ next=>?_) fun I μ hJ=>?_
 · dsimp only
   refine dW (by omega) ⟨⟨by omega,by omega⟩,af (fun h=>⟨⟨by omega,by omega⟩,?_⟩) fun h=>⟨rfl,next fun i hi=>?_⟩⟩
   · exact congrArg (·,()) (Sp.alY s n hn hJ (by simpa only [Int.toNat_natCast,beq_iff_eq] using h)).symm
   · rcases Nat.lt_or_ge i n with h'|h'
     · exact hJ i h'
     · have:i=n:=by omega
       subst this
       have h2:((s.getD i ([],0,())).1==name)=false:=h
       exact fun e=>by rw [e] at h2;simp at h2
 · dsimp only
   exact dX (by omega) (congrArg (·,()) (Sp.adZ s hJ).symm)
theorem TW:aA prog G oJ o6:=by
 refine afq (aB (l:=[(iq, .pure fU),(lV, .pure mQ)]) (au ah) (by simp only [List.forall_mem_cons];exact ⟨⟨rC,pF⟩,⟨PG,OM⟩,fun x hx=>by cases hx⟩)) ?_
 intro s hin hp
 have hlen:s.length≤maxLen:=hin.1.1
 rw [maxLen_eq] at hlen
 refine ku s.length hlen (fun n=>∀ i,i<n→Sp.pW s i=true) (fun i hi=>by omega) (fun I μ n hn hJ next=>?_) fun I μ hJ=>?_
 · dsimp only
   have no:Sp.pW s n=false→(false,())=(Sp.ig s,()):=fun h=>by rw [Sp.aqn hn h]
   refine dW (by omega) ⟨⟨by omega,by omega⟩,trivial,af (fun h2=>no ?_) fun h2=>⟨⟨by omega,by omega⟩,trivial,af (fun h3=>no ?_) fun h3=>af (fun h4=>?_) fun h4=>⟨rfl,next (gI hJ ?_)⟩⟩⟩
   · have h2:Sp.lD (Sp.fieldAt s n).1=false:=jG h2
     unfold Sp.pW;rw [h2];rfl
   · have h2:Sp.lD (Sp.fieldAt s n).1=true:=gQ h2
     have h3:(decide (1≤(Sp.fieldAt s n).2.1)&&decide ((Sp.fieldAt s n).2.1≤2))=false:=jG h3
     unfold Sp.pW;rw [h2,h3];rfl
   · have h2:Sp.lD (Sp.fieldAt s n).1=true:=gQ h2
     have h3:(decide (1≤(Sp.fieldAt s n).2.1)&&decide ((Sp.fieldAt s n).2.1≤2))=true:=gQ h3
     have h4:0<n:=by have:=ji h4;omega
     rw [ES h4 (by omega)]
     refine ⟨⟨by omega,by omega⟩,⟨by omega,by omega⟩,af (fun h5=>no ?_) fun h5=>⟨rfl,next (gI hJ ?_)⟩⟩
     · have h5:Op.bytesLess (Sp.fieldAt s (n-1)).1 (Sp.fieldAt s n).1=false:=jG h5
       unfold Sp.pW;rw [h2,h3,h5,decide_eq_true h4];rfl
     · have h5:Op.bytesLess (Sp.fieldAt s (n-1)).1 (Sp.fieldAt s n).1=true:=gQ h5
       unfold Sp.pW;rw [h2,h3,h5,decide_eq_true h4];rfl
   · have h2:Sp.lD (Sp.fieldAt s n).1=true:=gQ h2
     have h3:(decide (1≤(Sp.fieldAt s n).2.1)&&decide ((Sp.fieldAt s n).2.1≤2))=true:=gQ h3
     have h4:¬ 0<n:=by have:=jl h4;omega
     unfold Sp.pW;rw [h2,h3,decide_eq_false h4];rfl
 · dsimp only
   refine dX (by omega) (congrArg (·,()) ?_)
   unfold Sp.ig
   rw [uQ hJ];rfl
theorem afr:aA prog G xM zX:=by
 refine afs (aB (l:=[(EU, .pure Gx),(pY, .pure qy)]) (au ah) (by simp only [List.forall_mem_cons];exact ⟨⟨aoL,alI⟩,⟨VA,TS⟩,fun x hx=>by cases hx⟩)) ?_
 intro fs s k n w hin hp
 refine ⟨trivial,af (fun h=>af (fun h2=>⟨trivial,?_⟩) fun h2=>?_) fun h=>?_⟩
 · exact congrArg (·,()) (Bool.eq_iff_iff.2 (by simp only [bne_iff_ne,ne_eq] at h2;simp [Sp.jh,h,h2]))
 · exact congrArg (·,()) (Bool.eq_iff_iff.2 (by simp at h2;simp [Sp.jh,h2]))
 · exact congrArg (·,()) (Bool.eq_iff_iff.2 (by simp [Sp.jh,h]))
theorem NM:aA prog G lK lJ:=by
 refine ai9 (aB (l:=[(iq, .pure fU),(oJ, .pure o6),(xM, .pure zX)]) (au ah) (by simp only [List.forall_mem_cons];exact ⟨⟨rC,pF⟩,⟨TW,QZ⟩,⟨afr,adX⟩,fun x hx=>by cases hx⟩)) ?_
 intro fs f0 f1 f2 f3 f4 hin hp
 have hlen:f4.length≤maxLen:=hin.2.1.2.2.2.2.1.1
 rw [maxLen_eq] at hlen
 refine ku f4.length hlen (fun n=>∀ i,i<n→Sp.nI fs f4 i=true) (fun i hi=>by omega) (fun I μ n hn hJ next=>?_) fun I μ hJ=>?_
 · dsimp only
   have no:Sp.nI fs f4 n=false→(false,())=(Sp.dD fs (f0,f1,f2,f3,f4,()),()):=fun h=>by rw [Sp.azo (f:=(f0,f1,f2,f3,f4,())) hn h]
   refine dW (by omega) ⟨⟨by omega,by omega⟩,⟨by omega,by omega⟩,trivial,af (fun h2=>no ?_) fun h2=>af (fun h4=>?_) fun h4=>⟨rfl,next (gI hJ ?_)⟩⟩
   · have h2:Sp.jh fs (Sp.dB f4 n).1 (Sp.dB f4 n).2.1 (Sp.dB f4 n).2.2.1 (Sp.dB f4 n).2.2.2.1=false:=jG h2
     unfold Sp.nI;rw [h2];rfl
   · have h2:Sp.jh fs (Sp.dB f4 n).1 (Sp.dB f4 n).2.1 (Sp.dB f4 n).2.2.1 (Sp.dB f4 n).2.2.2.1=true:=gQ h2
     have h4:0<n:=by have:=ji h4;omega
     rw [ES h4 (by omega)]
     refine ⟨⟨by omega,by omega⟩,⟨by omega,by omega⟩,af (fun h5=>no ?_) fun h5=>⟨rfl,next (gI hJ ?_)⟩⟩
     · have h5:Op.bytesLess (Sp.dB f4 (n-1)).1 (Sp.dB f4 n).1=false:=jG h5
       unfold Sp.nI;rw [h2,h5,decide_eq_true h4];rfl
     · have h5:Op.bytesLess (Sp.dB f4 (n-1)).1 (Sp.dB f4 n).1=true:=gQ h5
       unfold Sp.nI;rw [h2,h5,decide_eq_true h4];rfl
   · have h2:Sp.jh fs (Sp.dB f4 n).1 (Sp.dB f4 n).2.1 (Sp.dB f4 n).2.2.1 (Sp.dB f4 n).2.2.2.1=true:=gQ h2
     have h4:¬ 0<n:=by have:=jl h4;omega
     unfold Sp.nI;rw [h2,decide_eq_false h4];rfl
 · dsimp only
   have ha:Sp.mW fs f4=true:=uQ hJ
   refine dX (by omega) ⟨trivial,af (fun h1=>⟨trivial,af (fun h2=>⟨trivial,af (fun h3=>⟨trivial,?_⟩) fun h3=>?_⟩) fun h2=>?_⟩) fun h1=>?_⟩
   · refine congrArg (·,()) ?_
     unfold Sp.dD
     rw [ha,h1,h2,h3];rfl
   · refine congrArg (·,()) ?_
     unfold Sp.dD
     rw [ha,h1,h2,h3];rfl
   · refine congrArg (·,()) ?_
     unfold Sp.dD
     rw [ha,h1,h2];rfl
   · refine congrArg (·,()) ?_
     unfold Sp.dD
     rw [ha,h1];rfl
theorem yg:aA prog G iM iH:=by
 refine agS (aB (l:=[(iq, .pure fU),(oJ, .pure o6),(lK, .pure lJ)]) (au ah) (by simp only [List.forall_mem_cons];exact ⟨⟨rC,pF⟩,⟨TW,QZ⟩,⟨NM,LG⟩,fun x hx=>by cases hx⟩)) ?_
 intro s0 s1 s2 hin hp
 have hlen:s1.length≤maxLen:=hin.1.2.1.1
 rw [maxLen_eq] at hlen
 refine ku s1.length hlen (fun n=>∀ i,i<n→Sp.oP (s0,s1,s2,()) i=true) (fun i hi=>by omega) (fun I μ n hn hJ next=>?_) fun I μ hJ=>?_
 · dsimp only
   have no:Sp.oP (s0,s1,s2,()) n=false→(false,())=(Sp.aH (s0,s1,s2,()),()):=fun h=>by rw [Sp.auV (s:=(s0,s1,s2,())) hn h]
   refine dW (by omega) ⟨⟨by omega,by omega⟩,trivial,af (fun h2=>no ?_) fun h2=>⟨⟨by omega,by omega⟩,af (fun h3=>no ?_) fun h3=>af (fun h4=>?_) fun h4=>⟨rfl,next (gI hJ ?_)⟩⟩⟩
   · have h2:Sp.dD s0 (Sp.fileAt s1 n)=false:=jG h2
     show (Sp.dD s0 (Sp.fileAt s1 n)&&_&&_)=false
     rw [h2];rfl
   · have h2:Sp.dD s0 (Sp.fileAt s1 n)=true:=gQ h2
     have h3:¬ (Sp.fileAt s1 n).1<s2:=by have h3:(Sp.fileAt s1 n).1≥s2:=ji h3;omega
     show (Sp.dD s0 (Sp.fileAt s1 n)&&decide ((Sp.fileAt s1 n).1<s2)&&_)=false
     rw [h2,decide_eq_false h3];rfl
   · have h2:Sp.dD s0 (Sp.fileAt s1 n)=true:=gQ h2
     have h3:(Sp.fileAt s1 n).1<s2:=by have h3:¬ (Sp.fileAt s1 n).1≥s2:=jl h3;omega
     have h4:0<n:=by have:=ji h4;omega
     rw [ES h4 (by omega)]
     refine ⟨⟨by omega,by omega⟩,⟨by omega,by omega⟩,af (fun h5=>no ?_) fun h5=>⟨rfl,next (gI hJ ?_)⟩⟩
     · have h5:¬ (Sp.fileAt s1 (n-1)).1<(Sp.fileAt s1 n).1:=by have h5:(Sp.fileAt s1 (n-1)).1≥(Sp.fileAt s1 n).1:=ji h5;omega
       show (Sp.dD s0 (Sp.fileAt s1 n)&&decide ((Sp.fileAt s1 n).1<s2)&&!(decide (0<n)&&!decide ((Sp.fileAt s1 (n-1)).1<(Sp.fileAt s1 n).1)))=false
       rw [h2,decide_eq_true h3,decide_eq_true h4,decide_eq_false h5];rfl
     · have h5:(Sp.fileAt s1 (n-1)).1<(Sp.fileAt s1 n).1:=by have h5:¬ (Sp.fileAt s1 (n-1)).1≥(Sp.fileAt s1 n).1:=jl h5;omega
       show (Sp.dD s0 (Sp.fileAt s1 n)&&decide ((Sp.fileAt s1 n).1<s2)&&!(decide (0<n)&&!decide ((Sp.fileAt s1 (n-1)).1<(Sp.fileAt s1 n).1)))=true
       rw [h2,decide_eq_true h3,decide_eq_true h4,decide_eq_true h5];rfl
   · have h2:Sp.dD s0 (Sp.fileAt s1 n)=true:=gQ h2
     have h3:(Sp.fileAt s1 n).1<s2:=by have h3:¬ (Sp.fileAt s1 n).1≥s2:=jl h3;omega
     have h4:¬ 0<n:=by have:=jl h4;omega
     show (Sp.dD s0 (Sp.fileAt s1 n)&&decide ((Sp.fileAt s1 n).1<s2)&&!(decide (0<n)&&!decide ((Sp.fileAt s1 (n-1)).1<(Sp.fileAt s1 n).1)))=true
     rw [h2,decide_eq_true h3,decide_eq_false h4];rfl
 · dsimp only
   have ha:Sp.l9 s1.length (Sp.oP (s0,s1,s2,()))=true:=uQ hJ
   refine dX (by omega) ⟨trivial,af (fun h1=>af (fun h2=>⟨trivial,?_⟩) fun h2=>?_) fun h1=>?_⟩
   · refine congrArg (·,()) ?_
     show _=(Sp.l9 s1.length (Sp.oP (s0,s1,s2,()))&&Sp.ig s0&&decide ((s1.length:Int)≤12)&&(decide (1≤s2)&&decide (s2≤61)))
     rw [ha,h1,h2];rfl
   · refine congrArg (·,()) ?_
     show _=(Sp.l9 s1.length (Sp.oP (s0,s1,s2,()))&&Sp.ig s0&&decide ((s1.length:Int)≤12)&&(decide (1≤s2)&&decide (s2≤61)))
     rw [ha,h1,h2];rfl
   · refine congrArg (·,()) ?_
     show _=(Sp.l9 s1.length (Sp.oP (s0,s1,s2,()))&&Sp.ig s0&&decide ((s1.length:Int)≤12)&&(decide (1≤s2)&&decide (s2≤61)))
     rw [ha,h1];rfl
theorem alZ:aA prog G Dt FI:=by
 refine al0 (aB (l:=[]) (au ah) (fun x hx=>by cases hx)) ?_
 intro a b hin hp
 have hlen:a.length≤maxLen:=hin.1.1
 rw [maxLen_eq] at hlen
 refine af (fun h=>?_) fun h=>?_
 · have h:(a.length:Int)≠b.length:=by simpa using h
   exact congrArg (·,()) (decide_eq_false fun e=>h (by rw [e])).symm
 · have h:(a.length:Int)=b.length:=by simpa using h
   exact aft (K:=fun r=>r=(decide (a=b),())) (fun x y=>!(x.1==y.1&&(x.2.1==y.2.1&&true))) (fun x y=>by simp [Prod.ext_iff]) _ a b _ hlen (by omega) (fun e=>by rw [decide_eq_false e]) fun e=>by rw [decide_eq_true e]
theorem aoN:aA prog G EX Gz:=by
 refine aoO (aB (l:=[]) (au ah) (fun x hx=>by cases hx)) ?_
 intro a b hin hp
 have hlen:a.length≤maxLen:=hin.1.1
 rw [maxLen_eq] at hlen
 refine af (fun h=>?_) fun h=>?_
 · have h:(a.length:Int)≠b.length:=by simpa using h
   exact congrArg (·,()) (decide_eq_false fun e=>h (by rw [e])).symm
 · have h:(a.length:Int)=b.length:=by simpa using h
   exact aft (K:=fun r=>r=(decide (a=b),())) (fun x y=>!(x.1==y.1&&(x.2.1==y.2.1&&(x.2.2.1==y.2.2.1&&(x.2.2.2.1==y.2.2.2.1&&true))))) (fun x y=>by simp [Prod.ext_iff]) _ a b _ hlen (by omega) (fun e=>by rw [decide_eq_false e]) fun e=>by rw [decide_eq_true e]
theorem arY:aA prog G G6 IV:=by
 refine arZ (aB (l:=[(EX, .pure Gz)]) (au ah) (by simp only [List.forall_mem_cons];exact ⟨⟨aoN,alK⟩,fun x hx=>by cases hx⟩)) ?_
 intro a0 a1 a2 a3 a4 b0 b1 b2 b3 b4 hin hp
 refine af (fun h0=>af (fun h1=>af (fun h2=>af (fun h3=>⟨trivial,?_⟩) fun h3=>?_) fun h2=>?_) fun h1=>?_) fun h0=>?_
 all_goals refine congrArg (·,()) (Bool.eq_iff_iff.2 ?_)
 · simp only [beq_iff_eq] at h0 h1 h2 h3
   subst h0 h1 h2 h3
   simp
 · have h3:a3≠b3:=by simpa using h3
   simp [h3]
 · have h2:a2≠b2:=by simpa using h2
   simp [h2]
 · have h1:a1≠b1:=by simpa using h1
   simp [h1]
 · have h0:a0≠b0:=by simpa using h0
   simp [h0]
theorem aoP:aA prog G EY GH:=by
 refine aoQ (aB (l:=[(G6, .pure IV)]) (au ah) (by simp only [List.forall_mem_cons];exact ⟨⟨arY,aoA⟩,fun x hx=>by cases hx⟩)) ?_
 intro a b hin hp
 have hlen:a.length≤maxLen:=hin.1.1
 rw [maxLen_eq] at hlen
 refine af (fun h=>?_) fun h=>?_
 · have h:(a.length:Int)≠b.length:=by simpa using h
   exact congrArg (·,()) (decide_eq_false fun e=>h (by rw [e])).symm
 · have h:(a.length:Int)=b.length:=by simpa using h
   exact ar0 (K:=fun r=>r=(decide (a=b),())) (fun x y=>!decide ((x.1,x.2.1,x.2.2.1,x.2.2.2.1,x.2.2.2.2.1,())=(y.1,y.2.1,y.2.2.1,y.2.2.2.1,y.2.2.2.2.1,()))) (fun x y=>by simp [Prod.ext_iff]) _ a b _ hlen (by omega) (fun e=>by rw [decide_eq_false e]) fun e=>by rw [decide_eq_true e]
theorem aoR:aA prog G Fj GI:=by
 refine aoS (aB (l:=[(EY, .pure GH),(Dt, .pure FI)]) (au ah) (by simp only [List.forall_mem_cons];exact ⟨⟨aoP,alL⟩,⟨alZ,aiR⟩,fun x hx=>by cases hx⟩)) ?_
 intro a0 a1 a2 b0 b1 b2 hin hp
 refine ⟨trivial,af (fun h0=>⟨trivial,af (fun h1=>?_) fun h1=>?_⟩) fun h0=>?_⟩
 all_goals refine congrArg (·,()) (Bool.eq_iff_iff.2 ?_)
 · have h0:=ji h0
   have h1:=ji h1
   subst h0 h1
   simp
 · have h1:=jl h1
   simp [h1]
 · have h0:=jl h0
   simp [h0]
theorem N9:aA prog G ny lQ:=by
 refine auW (aB (l:=[]) (au ah) (fun x hx=>by cases hx)) ?_
 intro f0 f1 f2 f3 f4 hin hp
 have hp:f4.length≤1000:=hp
 exact ⟨by rw [dS];omega,rfl⟩
theorem YU:aA prog G qo tV:=by
 refine YV (aB (l:=[]) (au ah) (fun x hx=>by cases hx)) ?_
 intro l hin hp
 intro g hg
 have hp:l.length≤1000:=hp
 refine af (fun h=>?_) fun h=>⟨by rw [dS];omega,rfl⟩
 have:=List.length_eq_zero_iff.1 (hg h)
 rw [this]
theorem aaq:aA prog G qK uT:=by
 refine aar (aB (l:=[]) (au ah) (fun x hx=>by cases hx)) ?_
 intro l hin hp
 intro g hg
 have hp:l.length≤1000:=hp
 refine af (fun h=>?_) fun h=>⟨by rw [dS];omega,rfl⟩
 have:=List.length_eq_zero_iff.1 (hg h)
 rw [this]
theorem SC:aA prog G qm pI:=by
 refine ar1 (aB (l:=[(qK, .pure uT)]) (au ah) (by simp only [List.forall_mem_cons];exact ⟨⟨aaq,YS⟩,fun x hx=>by cases hx⟩)) ?_
 intro f0 f1 f2 f3 f4 hin hp
 exact ⟨hp,rfl⟩
theorem axW:aA prog G Md NU:=by
 refine axX (aB (l:=[(jm, .pure iV)]) (au ah) (by simp only [List.forall_mem_cons];exact ⟨⟨zU,yc⟩,fun x hx=>by cases hx⟩)) ?_
 intro n hin hp
 exact ⟨trivial,rfl⟩
theorem SE:aA prog G ql pJ:=by
 refine ar2 (aB (l:=[]) (au ah) (fun x hx=>by cases hx)) ?_
 intro s0 s1 s2 id hin hp
 have hlen:s1.length≤maxLen:=hin.1.2.1.1
 rw [maxLen_eq] at hlen
 refine ku s1.length hlen (fun n=>∀ i,i<n→(Sp.fileAt s1 i).1≠id) (fun i hi=>by omega) (fun I μ n hn hJ next=>?_) fun I μ hJ=>?_
 · dsimp only
   refine dW (by omega) ⟨⟨by omega,by omega⟩,af (fun h=>?_) fun h=>⟨rfl,next fun i hi=>?_⟩⟩
   · have h:(Sp.fileAt s1 n).1=id:=ji h
     exact congrArg (·,()) (Sp.Xr hn hJ h).symm
   · rcases Nat.lt_or_ge i n with h'|h'
     · exact hJ i h'
     · have:i=n:=by omega
       subst this
       have h:¬ (Sp.fileAt s1 i).1=id:=jl h
       exact h
 · dsimp only
   exact dX (by omega) (congrArg (·,()) (Sp.agT hJ).symm)
theorem set_self {fs:List Sp.aT} {n:Nat} (hn:n<fs.length):fs.set n (fs.getD n (0,0,false,0,[],()))=fs:=by
 refine List.ext_getElem (by simp) fun i h1 h2=>?_
 rw [List.getElem_set]
 split
 · next e=>subst e;rw [List.getD_eq_getElem?_getD,List.getElem?_eq_getElem hn];rfl
 · rfl
theorem LM {s:List Sp.gZ} (p:Sp.gZ→Bool) {n:Nat} (hn:n<s.length):(s.take (n+1)).filter p=(s.take n).filter p++(if p (Sp.dB s n)=true then [Sp.dB s n] else []):=by
 rw [Sp.take_succ' s n ([],0,0,[],()) hn,List.filter_append]
 congr 1
 show List.filter _ [Sp.dB s n]=_
 by_cases h:p (Sp.dB s n)=true
 · rw [List.filter_cons_of_pos h,if_pos h];rfl
 · rw [List.filter_cons_of_neg h,if_neg h];rfl
theorem adr (s:List Sp.gZ) (p:Sp.gZ→Bool) (n:Nat):((s.take n).filter p).length≤n:=by
 have:=List.length_filter_le p (s.take n)
 rw [List.length_take] at this
 omega
theorem al1 (al:List Sp.gZ) (name:Sp.Bytes) (n:Int) (s:Sp.Bytes):Sp.jQ al name 0 n s=al.filter (Sp.lX name):=rfl
theorem auX {al:List Sp.gZ} {name:Sp.Bytes} {k n:Int} {s:Sp.Bytes} (hk:k≠0) {l:List Sp.gZ} (hl:l=al.filter (Sp.lX name)) {m:Nat} (hm:m≤l.length)
 (h1:∀ i,i<m→Sp.lF name (Sp.dB l i)=true) (h2:m<l.length→Sp.lF name (Sp.dB l m)=false):
 List.drop 0 (List.take m l)++[(name,k,n,s,())]++List.drop m (List.take l.length l)=Sp.jQ al name k n s:=by
 obtain ⟨e1,e2⟩:=Sp.abT (d:=(([]:List UInt8),(0:Int),(0:Int),([]:List UInt8),())) l m hm h1 h2
 unfold Sp.jQ Sp.an1
 rw [decide_eq_false hk,← hl]
 show _=l.takeWhile (Sp.lF name)++_::l.dropWhile (Sp.lF name)
 rw [e1,e2,List.take_length,List.drop_zero,List.append_assoc]
 rfl
theorem auY:aG prog G Js KH:=by
 refine auZ (aB (l:=[]) (au ah) (fun x hx=>by cases hx)) (fun ⟨(i,o,s,l,a,_),name,(k,n,w,_),_⟩ _=>⟨(((i,o,s,l,Sp.jQ a name k n w,()),()),()),⟨rfl,rfl,rfl,rfl,rfl⟩⟩) ?_
 intro f0 f1 f2 f3 f4 name k n s hin hp
 have hp:f4.length≤1000:=hp
 refine eX (fun i (x:List Sp.gZ)=>(((),i,()),x,())) (fun y=>y.1.2.1) (fun _ _=>rfl) f4.length (by omega) (fun m l=>l=(f4.take m).filter (Sp.lX name)) (by simp) (fun I μ m l hm hJ next=>?_) fun I μ l hJ=>?_
 · subst hJ
   have hl:=adr f4 (Sp.lX name) m
   dsimp only
   refine dW (by omega) ⟨⟨by omega,by omega⟩,af (fun h=>⟨⟨by omega,by omega⟩,by rw [dS];simp only [List.length_cons,List.length_nil];omega,rfl,next _ ?_⟩) fun h=>⟨rfl,next _ ?_⟩⟩
   · rw [LM _ hm,if_pos (show Sp.lX name (Sp.dB f4 m)=true from h)];rfl
   · rw [LM _ hm,if_neg (show ¬ Sp.lX name (Sp.dB f4 m)=true from fun h'=>by have h:Sp.lX name (Sp.dB f4 m)=false:=h;rw [h] at h';cases h'),List.append_nil]
 · rw [List.take_length] at hJ
   have hl:l.length≤1000:=by rw [hJ];have:=List.length_filter_le (Sp.lX name) f4;omega
   dsimp only
   refine dX (by omega) (af (fun h=>?_) fun h=>?_)
   · have hk:k≠0:=by simpa using h
     have fin:∀ m:Nat,m≤l.length→(∀ i,i<m→Sp.lF name (Sp.dB l i)=true)→(m<l.length→Sp.lF name (Sp.dB l m)=false)→
      ((0:Int)≤m∧(m:Int)≤l.length)∧0+(List.drop 0 (List.take m l)).length≤big∧(List.drop 0 (List.take m l)).length+[(name,k,n,s,())].length≤big∧((0:Int)≤m∧(m:Int)≤l.length)∧
      (List.drop 0 (List.take m l)++[(name,k,n,s,())]).length+(List.drop m (List.take l.length l)).length≤big∧
      (f0=f0∧f1=f1∧f2=f2∧f3=f3∧List.drop 0 (List.take m l)++[(name,k,n,s,())]++List.drop m (List.take l.length l)=Sp.jQ f4 name k n s):=by
      intro m hm h1 h2
      refine ⟨⟨by omega,by omega⟩,?_,?_,⟨by omega,by omega⟩,?_,rfl,rfl,rfl,rfl,auX hk hJ hm h1 h2⟩
      all_goals
       rw [dS]
       simp only [List.length_append,List.length_drop,List.length_take,List.length_cons,List.length_nil]
       omega
     refine ku l.length (by omega) (fun m=>∀ i,i<m→Sp.lF name (Sp.dB l i)=true) (fun i hi=>by omega) (fun I μ m hm hJ2 next=>?_) fun I μ hJ2=>?_
     · dsimp only
       refine dW (by omega) ⟨⟨by omega,by omega⟩,hm,af (fun h2=>⟨rfl,next (gI (f:=fun i=>Sp.lF name (Sp.dB l i)) hJ2 h2)⟩) fun h2=>?_⟩
       exact fin m (by omega) hJ2 fun _=>h2
     · dsimp only
       exact dX (by omega) (fin l.length (Nat.le_refl _) hJ2 fun h'=>by omega)
   · have hk:k=0:=by simpa using h
     subst hk
     exact ⟨rfl,rfl,rfl,rfl,by rw [al1];exact hJ⟩
theorem ar4:aG prog G G7 IW:=by
 refine ar5 (aB (l:=[]) (au ah) (fun x hx=>by cases hx)) (fun ⟨s,_⟩ _=>⟨(((s,[],1,()),()),()),⟨rfl,rfl,rfl⟩⟩) ?_
 intro s hin hp
 have hp:s.length≤1000:=hp
 exact ⟨by rw [dS];omega,rfl,rfl,rfl⟩
theorem H9:aG prog G kQ jT:=by
 refine au0 (aB (l:=[(ny, .pure lQ)]) (au ah) (by simp only [List.forall_mem_cons];exact ⟨⟨N9,LH⟩,fun x hx=>by cases hx⟩)) (fun ⟨(a,l,nx,_),_⟩ _=>⟨(((a,l,nx,()),()),()),rfl⟩) ?_
 intro s0 s1 s2 hin hp
 obtain ⟨h0,h1,h2⟩:s0.length≤1000∧s1.length≤1000∧∀ f∈s1,Sp.bH f:=hp
 refine ⟨by rw [dS];omega,?_⟩
 refine eX (fun i (x:List Sp.aT)=>((i,()),((),(),s2,()),x,())) (fun y=>y.1.1) (fun _ _=>rfl) s1.length (by omega) (fun n l=>l=s1.take n) (by simp) (fun I μ n l hn hJ next=>?_) fun I μ l hJ=>?_
 · subst hJ
   have hl:(s1.take n).length≤n:=by rw [List.length_take];omega
   dsimp only
   refine dW (by omega) ⟨⟨by omega,by omega⟩,h2 _ (getD_mem (d:=((0:Int),(0:Int),false,(0:Int),[],())) hn),by rw [dS];simp only [List.length_cons,List.length_nil];omega,rfl,next _ ?_⟩
   exact (Sp.take_succ' s1 n (0,0,false,0,[],()) hn).symm
 · subst hJ
   dsimp only
   refine dX (by omega) ?_
   rw [List.take_length]
theorem al2:aG prog G Dv FK:=by
 refine al3 (aB (l:=[(lK, .pure lJ),(iM, .pure iH),(ny, .pure lQ),(kQ, .eff (ax jy) jT)]) (au ah) (by simp only [List.forall_mem_cons];exact ⟨⟨NM,LG⟩,⟨yg,xg⟩,⟨N9,LH⟩,⟨H9,FC⟩,fun x hx=>by cases hx⟩)) (fun ⟨s,f,_⟩ _=>⟨((((Sp.fD s f).1.1,(Sp.fD s f).1.2.1,(Sp.fD s f).1.2.2.1,()),(Sp.fD s f).2.1,(Sp.fD s f).2.2,()),()),⟨rfl,rfl,rfl,rfl,rfl⟩⟩) ?_
 intro s0 s1 s2 f0 f1 f2 f3 f4 hin hp
 refine ⟨hp.1,?_⟩
 rintro ⟨⟨⟨a,l,nx,⟨⟩⟩,⟨⟩⟩,⟨⟩⟩ e
 obtain ⟨rfl,rfl,rfl⟩:a=s0∧l=s1∧nx=s2:=by simpa using e
 have hs:l.length≤1000:=hp.1.2.1
 have no:¬ (Sp.aH (a,l,nx,())=true∧l.length<12∧Sp.dD a (nx,f1,f2,f3,f4,())=true)→Sp.fD (a,l,nx,()) (f0,f1,f2,f3,f4,())=((a,l,nx,()),0,false):=fun h=>by
  rcases Sp.vM (a,l,nx,()) (f0,f1,f2,f3,f4,()) with ⟨e,_⟩|⟨h1,h2,h3,_⟩
  · exact e
  · exact (h ⟨h1,h2,h3⟩).elim
 refine ⟨hp.2,trivial,af (fun h1=>?_) fun h1=>af (fun h2=>?_) fun h2=>⟨trivial,af (fun h3=>?_) fun h3=>?_⟩⟩
 · have:=no fun h=>by have h1:=jG h1;have:=h.1;rw [show Sp.aH (a,l,nx,())=false from h1] at this;cases this
   dsimp only
   rw [this];exact ⟨rfl,rfl,rfl,rfl,rfl⟩
 · have:=no fun h=>by have h2:(l.length:Int)≥12:=ji h2;omega
   dsimp only
   rw [this];exact ⟨rfl,rfl,rfl,rfl,rfl⟩
 · have:=no fun h=>by have h3:=jG h3;have:=h.2.2;rw [show Sp.dD a (nx,f1,f2,f3,f4,())=false from h3] at this;cases this
   dsimp only
   rw [this];exact ⟨rfl,rfl,rfl,rfl,rfl⟩
 · have g1:Sp.aH (a,l,nx,())=true:=gQ h1
   have g2:l.length<12:=by have h2:¬ (l.length:Int)≥12:=jl h2;omega
   have g3:Sp.dD a (nx,f1,f2,f3,f4,())=true:=gQ h3
   rcases Sp.vM (a,l,nx,()) (f0,f1,f2,f3,f4,()) with ⟨_,e⟩|⟨_,_,_,e⟩
   · exact (e ⟨g1,g2,g3⟩).elim
   · have hnx:=(Sp.rD.1 g1).2.2.2
     have w:IntKind.i64.wrap (nx+1)=nx+1:=iL _ (by have h5:nx≤61:=hnx.2;have h6:1≤nx:=hnx.1;omega)
     refine ⟨by rw [dS];simp only [List.length_cons,List.length_nil];omega,?_⟩
     dsimp only
     rw [e,w];exact ⟨rfl,rfl,rfl,rfl,rfl⟩
theorem al4:aG prog G Du FM:=by
 refine al5 (aB (l:=[(iM, .pure iH),(ql, .pure pJ),(kQ, .eff (ax jy) jT)]) (au ah) (by simp only [List.forall_mem_cons];exact ⟨⟨yg,xg⟩,⟨SE,Qr⟩,⟨H9,FC⟩,fun x hx=>by cases hx⟩)) (fun ⟨s,id,_⟩ _=>⟨((((Sp.gJ s id).1.1,(Sp.gJ s id).1.2.1,(Sp.gJ s id).1.2.2.1,()),(Sp.gJ s id).2,()),()),⟨rfl,rfl,rfl,rfl⟩⟩) ?_
 intro s0 s1 s2 id hin hp
 refine ⟨hp,?_⟩
 rintro ⟨⟨⟨a,l,nx,⟨⟩⟩,⟨⟩⟩,⟨⟩⟩ e
 obtain ⟨rfl,rfl,rfl⟩:a=s0∧l=s1∧nx=s2:=by simpa using e
 have hs:l.length≤1000:=hp.2.1
 have no:¬ (Sp.aH (a,l,nx,())=true∧0≤Sp.place l id)→Sp.gJ (a,l,nx,()) id=((a,l,nx,()),false):=fun h=>by
  rcases Sp.FD (a,l,nx,()) id with ⟨e,_⟩|⟨n,hn,h1,h2,_⟩
  · exact e
  · exact (h ⟨h2,by have h1:Sp.place l id=n:=h1;omega⟩).elim
 refine ⟨trivial,trivial,af (fun h1=>?_) fun h1=>af (fun h2=>?_) fun h2=>?_⟩
 · have:=no fun h=>by have h1:=jG h1;have:=h.1;rw [show Sp.aH (a,l,nx,())=false from h1] at this;cases this
   dsimp only
   rw [this];exact ⟨rfl,rfl,rfl,rfl⟩
 · have:=no fun h=>by have h2:Sp.place l id<0:=ji h2;omega
   dsimp only
   rw [this];exact ⟨rfl,rfl,rfl,rfl⟩
 · have g1:Sp.aH (a,l,nx,())=true:=gQ h1
   have g2:0≤Sp.place l id:=by have h2:¬ Sp.place l id<0:=jl h2;omega
   rcases Sp.FD (a,l,nx,()) id with ⟨_,e⟩|⟨n,hn,hpl,_,e⟩
   · exact (e ⟨g1,g2⟩).elim
   · have hn:n<l.length:=hn
     have hpl:Sp.place l id=n:=hpl
     have w:IntKind.i64.wrap ((n:Int)+1)=((n+1:Nat):Int):=iL _ (by omega)
     dsimp only
     rw [hpl,e,w,Int.toNat_natCast,Int.toNat_natCast,List.drop_zero,List.take_length,dS]
     refine ⟨⟨by omega,by omega⟩,by rw [List.length_take];omega,⟨by omega,by omega⟩,by rw [List.length_take,List.length_drop];omega,rfl,?_,rfl,rfl⟩
     exact (List.eraseIdx_eq_take_drop_succ ..).symm
def an2 (L:List (List Sp.gZ)) (name:Sp.Bytes) (vals:List (Int×Int×Sp.Bytes)):List (List Sp.gZ):=L++L.flatMap fun a=>vals.map fun v=>Sp.jQ a name v.1 v.2.1 v.2.2
theorem EL {L:List (List Sp.gZ)} {name:Sp.Bytes} {vals:List (Int×Int×Sp.Bytes)} {a:List Sp.gZ} (h:a∈L):a∈an2 L name vals:=List.mem_append_left _ h
theorem ads {L:List (List Sp.gZ)} {name:Sp.Bytes} {vals:List (Int×Int×Sp.Bytes)} {a:List Sp.gZ} (h:a∈L) {k n:Int} {s:Sp.Bytes} (hv:(k,n,s)∈vals):Sp.jQ a name k n s∈an2 L name vals:=
 List.mem_append_right _ (List.mem_flatMap.2 ⟨a,h,List.mem_map.2 ⟨(k,n,s),hv,rfl⟩⟩)
def ints:List (Int×Int×Sp.Bytes):=[(1,0,[]),(1,1,[]),(1,2,[]),(1,3,[])]
def names:List (Int×Int×Sp.Bytes):=[(2,0,[105,110,107]),(2,0,[115,101,97])]
def tags:List (Int×Int×Sp.Bytes):=[(2,0,[114,101,100]),(2,0,[98,108,117,101])]
def au1:List (List Sp.gZ):=an2 [[]] [97] ints
def au2:List (List Sp.gZ):=an2 au1 [98] ints
def au3:List (List Sp.gZ):=an2 au2 [110] names
def au4:List (List Sp.gZ):=an2 au3 [116] tags
theorem aFy:(au4.all fun a=>Sp.mW Sp.usual a&&decide (a.length≤4))=true:=by kernel_rfl
theorem adt {a:List Sp.gZ} (h:a∈au4):Sp.mW Sp.usual a=true∧a.length≤4:=by
 have:=List.all_eq_true.1 aFy a h
 simpa using this
theorem aGt {a:List Sp.gZ} (h:a∈au1):a.length≤4:=(adt (EL (EL (EL h)))).2
theorem aGu {a:List Sp.gZ} (h:a∈au2):a.length≤4:=(adt (EL (EL h))).2
theorem aGv {a:List Sp.gZ} (h:a∈au3):a.length≤4:=(adt (EL h)).2
theorem aBl {x:Int} (h0:0≤x) (h1:x<4):((1:Int),x,([]:Sp.Bytes))∈ints:=by
 rcases (show x=0∨x=1∨x=2∨x=3 by omega) with h|h|h|h<;>subst h<;>simp [ints]
theorem aEN {w:Sp.Bytes} (h:(w,())∈[(([105,110,107]:Sp.Bytes),()),([115,101,97],())]):((2:Int),(0:Int),w)∈names:=by
 simp only [List.mem_cons,Prod.mk.injEq,and_true,List.not_mem_nil,or_false] at h
 rcases h with h|h<;>subst h<;>simp [names]
theorem aFz {w:Sp.Bytes} (h:(w,())∈[(([114,101,100]:Sp.Bytes),()),([98,108,117,101],())]):((2:Int),(0:Int),w)∈tags:=by
 simp only [List.mem_cons,Prod.mk.injEq,and_true,List.not_mem_nil,or_false] at h
 rcases h with h|h<;>subst h<;>simp [tags]
def Head (id:Int) (f:Int×Int×Bool×Int×Unit×Unit):Prop:=f.1=id∧0≤f.2.1∧f.2.1≤2∧0≤f.2.2.2.1∧f.2.2.2.1≤6
theorem au5:aG prog G Jt KI:=by
 refine au6 (aB (l:=[(qL, .pure rF),(sF, .eff (ax nN) qG),(Js, .eff (ax BF) KH),(qj, .pure pG),(sG, .eff (ax nM) qF),(dU, .eff (ax dI) dK)]) (au ah) (by simp only [List.forall_mem_cons];exact ⟨⟨WG,Vm⟩,⟨Vz,Sz⟩,⟨auY,arD⟩,⟨SB,Qp⟩,⟨Vy,Sv⟩,⟨kV,jZ⟩,fun x hx=>by cases hx⟩)) (fun ⟨_,id,_⟩ _=>⟨(((id,0,false,0,[],()),()),(([],0,0,()),())),⟨by decide,rfl,by decide,by decide,by decide,by decide,rfl,by decide⟩⟩) ?_
 intro b i h id hin hp
 have hp:0≤i:=hp
 refine ⟨hp,?_⟩
 rintro ⟨⟨x0,⟨⟩⟩,⟨b0,i0,g0,⟨⟩⟩,⟨⟩⟩ ⟨p0,q0,q1,_⟩
 refine ⟨p0,?_⟩
 rintro ⟨⟨x1,⟨⟩⟩,⟨b1,i1,g1,⟨⟩⟩,⟨⟩⟩ p1
 have q1:x0<3:=q1 (by decide)
 have q0:0≤x0:=q0
 refine ⟨fun y=>0≤y.2.1.2.1∧Head id y.2.2.1,⟨p1,?_⟩,?_⟩
 · rintro ⟨⟨x3,⟨⟩⟩,⟨b3,i3,g3,⟨⟩⟩,⟨⟩⟩ p3
   refine af (fun _=>⟨p3,?_⟩) fun _=>⟨rfl,p3,rfl,q0,(show x0≤2 by omega),Int.le_refl _,(show (0:Int)≤6 by decide)⟩
   rintro ⟨⟨x4,⟨⟩⟩,⟨b4,i4,g4,⟨⟩⟩,⟨⟩⟩ ⟨p4,q4,q5,_⟩
   have q5:x4<7:=q5 (by decide)
   exact ⟨rfl,p4,rfl,q0,(show x0≤2 by omega),q4,(show x4≤6 by omega)⟩
 rintro ⟨⟨⟩,⟨b5,i5,g5,⟨⟩⟩,f5,⟨⟩⟩ ⟨p5,H5⟩
 refine ⟨fun y=>0≤y.2.1.2.1∧Head id y.2.2.1∧y.2.2.2.1∈au1,⟨p5,?_⟩,?_⟩
 · rintro ⟨⟨x7,⟨⟩⟩,⟨b7,i7,g7,⟨⟩⟩,⟨⟩⟩ p7
   refine af (fun _=>⟨p7,?_⟩) fun _=>⟨rfl,p7,H5,EL List.mem_cons_self⟩
   rintro ⟨⟨x8,⟨⟩⟩,⟨b8,i8,g8,⟨⟩⟩,⟨⟩⟩ ⟨p8,q8,q9,_⟩
   refine ⟨trivial,(show (0:Nat)≤1000 by decide),?_⟩
   rintro ⟨⟨⟨d,o,s,l,a,⟨⟩⟩,⟨⟩⟩,⟨⟩⟩ ⟨e1,e2,e3,e4,e5⟩
   refine ⟨rfl,p8,?_,?_⟩
   · exact ⟨(show d=id from (show d=f5.1 from e1).trans H5.1),by rw [show o=f5.2.1 from e2];exact H5.2.1,by rw [show o=f5.2.1 from e2];exact H5.2.2.1,by rw [show l=f5.2.2.2.1 from e4];exact H5.2.2.2.1,by rw [show l=f5.2.2.2.1 from e4];exact H5.2.2.2.2⟩
   · have e5:a=Sp.jQ [] [97] 1 x8 []:=e5
     show a∈au1
     rw [e5];exact ads List.mem_cons_self (aBl q8 (q9 (by decide)))
 rintro ⟨⟨⟩,⟨b11,i11,g11,⟨⟩⟩,f11,a11,⟨⟩⟩ ⟨p11,H11,m11⟩
 refine ⟨fun y=>0≤y.2.1.2.1∧Head id y.2.2.1∧y.2.2.2.1∈au2,⟨p11,?_⟩,?_⟩
 · rintro ⟨⟨x7,⟨⟩⟩,⟨b7,i7,g7,⟨⟩⟩,⟨⟩⟩ p7
   refine af (fun _=>⟨p7,?_⟩) fun _=>⟨rfl,p7,H11,EL m11⟩
   rintro ⟨⟨x8,⟨⟩⟩,⟨b8,i8,g8,⟨⟩⟩,⟨⟩⟩ ⟨p8,q8,q9,_⟩
   refine ⟨trivial,Nat.le_trans (aGt m11) (by decide),?_⟩
   rintro ⟨⟨⟨d,o,s,l,a,⟨⟩⟩,⟨⟩⟩,⟨⟩⟩ ⟨e1,e2,e3,e4,e5⟩
   refine ⟨rfl,p8,?_,?_⟩
   · exact ⟨(show d=id from (show d=f11.1 from e1).trans H11.1),by rw [show o=f11.2.1 from e2];exact H11.2.1,by rw [show o=f11.2.1 from e2];exact H11.2.2.1,by rw [show l=f11.2.2.2.1 from e4];exact H11.2.2.2.1,by rw [show l=f11.2.2.2.1 from e4];exact H11.2.2.2.2⟩
   · have e5:a=Sp.jQ a11 [98] 1 x8 []:=e5
     show a∈au2
     rw [e5];exact ads m11 (aBl q8 (q9 (by decide)))
 rintro ⟨⟨⟩,⟨b17,i17,g17,⟨⟩⟩,f17,a17,⟨⟩⟩ ⟨p17,H17,m17⟩
 refine ⟨fun y=>0≤y.2.1.2.1∧Head id y.2.2.1∧y.2.2.2.1∈au3,⟨p17,?_⟩,?_⟩
 · rintro ⟨⟨x7,⟨⟩⟩,⟨b7,i7,g7,⟨⟩⟩,⟨⟩⟩ p7
   refine af (fun _=>⟨⟨p7,by simp⟩,?_⟩) fun _=>⟨rfl,p7,H17,EL m17⟩
   rintro ⟨⟨x8,⟨⟩⟩,⟨b8,i8,g8,⟨⟩⟩,⟨⟩⟩ ⟨p8,q8⟩
   refine ⟨trivial,Nat.le_trans (aGu m17) (by decide),?_⟩
   rintro ⟨⟨⟨d,o,s,l,a,⟨⟩⟩,⟨⟩⟩,⟨⟩⟩ ⟨e1,e2,e3,e4,e5⟩
   refine ⟨rfl,p8,?_,?_⟩
   · exact ⟨(show d=id from (show d=f17.1 from e1).trans H17.1),by rw [show o=f17.2.1 from e2];exact H17.2.1,by rw [show o=f17.2.1 from e2];exact H17.2.2.1,by rw [show l=f17.2.2.2.1 from e4];exact H17.2.2.2.1,by rw [show l=f17.2.2.2.1 from e4];exact H17.2.2.2.2⟩
   · have e5:a=Sp.jQ a17 [110] 2 0 x8:=e5
     show a∈au3
     rw [e5];exact ads m17 (aEN q8)
 rintro ⟨⟨⟩,⟨b23,i23,g23,⟨⟩⟩,f23,a23,⟨⟩⟩ ⟨p23,H23,m23⟩
 refine ⟨fun y=>0≤y.2.1.2.1∧Head id y.2.2.1∧y.2.2.2.1∈au4,⟨p23,?_⟩,?_⟩
 · rintro ⟨⟨x7,⟨⟩⟩,⟨b7,i7,g7,⟨⟩⟩,⟨⟩⟩ p7
   refine af (fun _=>⟨⟨p7,by simp⟩,?_⟩) fun _=>⟨rfl,p7,H23,EL m23⟩
   rintro ⟨⟨x8,⟨⟩⟩,⟨b8,i8,g8,⟨⟩⟩,⟨⟩⟩ ⟨p8,q8⟩
   refine ⟨trivial,Nat.le_trans (aGv m23) (by decide),?_⟩
   rintro ⟨⟨⟨d,o,s,l,a,⟨⟩⟩,⟨⟩⟩,⟨⟩⟩ ⟨e1,e2,e3,e4,e5⟩
   refine ⟨rfl,p8,?_,?_⟩
   · exact ⟨(show d=id from (show d=f23.1 from e1).trans H23.1),by rw [show o=f23.2.1 from e2];exact H23.2.1,by rw [show o=f23.2.1 from e2];exact H23.2.2.1,by rw [show l=f23.2.2.2.1 from e4];exact H23.2.2.2.1,by rw [show l=f23.2.2.2.1 from e4];exact H23.2.2.2.2⟩
   · have e5:a=Sp.jQ a23 [116] 2 0 x8:=e5
     show a∈au4
     rw [e5];exact ads m23 (aFz q8)
 rintro ⟨⟨⟩,⟨b29,i29,g29,⟨⟩⟩,f29,a29,⟨⟩⟩ ⟨p29,H29,m29⟩
 have hm:=adt m29
 exact ⟨p29,H29.1,H29.2.1,H29.2.2.1,H29.2.2.2.1,H29.2.2.2.2,hm.1,hm.2⟩
theorem aFA:Sp.ig Sp.usual=true:=by kernel_rfl
theorem aFB:Sp.aH (Sp.usual,[],1,())=true:=by kernel_rfl
theorem aB9:Sp.bC (Sp.usual,[],1,()):=⟨by decide,by decide,fun f hf=>by cases hf⟩
theorem agU {a:List Sp.iZ} {l:List Sp.aT} {nx:Int} {X:Sp.eG} (h1:a=X.1) (h2:l=X.2.1) (h3:nx=X.2.2.1):((a,l,nx,()):Sp.eG)=X:=by subst h1 h2 h3;rfl
theorem aBm (s:Sp.eG) (f:Sp.aT):(Sp.fD s f).1.1=s.1∧((Sp.fD s f).1.2.1.length:Int)-(Sp.fD s f).1.2.2.1=s.2.1.length-s.2.2.1:=by
 rcases Sp.vM s f with ⟨e,_⟩|⟨_,_,_,e⟩
 · rw [e];exact ⟨rfl,rfl⟩
 · rw [e]
   refine ⟨rfl,?_⟩
   show ((s.2.1++[(s.2.2.1,f.2)]).length:Int)-(s.2.2.1+1)=_
   rw [List.length_append,List.length_cons,List.length_nil];omega
theorem al6 (s:Sp.eG) (id:Int):(Sp.gJ s id).1.1=s.1∧(Sp.gJ s id).1.2.2.1=s.2.2.1∧s.2.1.length≤(Sp.gJ s id).1.2.1.length+1:=by
 rcases Sp.FD s id with ⟨e,_⟩|⟨n,hn,_,_,e⟩
 · rw [e];exact ⟨rfl,rfl,Nat.le_succ _⟩
 · rw [e]
   refine ⟨rfl,rfl,?_⟩
   show s.2.1.length≤(s.2.1.eraseIdx n).length+1
   rw [List.length_eraseIdx_of_lt hn];omega
structure Ia (k:Int) (s:Sp.eG):Prop where
 sch:s.1=Sp.usual
 ok:Sp.aH s=true
 nx:s.2.2.1≤s.2.1.length+k
 small:Sp.bC s
theorem Ia.create {k:Int} {s:Sp.eG} (h:Ia k s) {f:Sp.aT} (hf:Sp.bH f):Ia k (Sp.fD s f).1:=by
 obtain ⟨h1,h2⟩:=aBm s f
 exact ⟨h1.trans h.sch,Sp.axY f h.ok,by have:=h.nx;omega,Sp.az1 h.small hf⟩
theorem Ia.delete {k:Int} {s:Sp.eG} (h:Ia k s) (id:Int):Ia (k+1) (Sp.gJ s id).1:=by
 obtain ⟨h1,h2,h3⟩:=al6 s id
 exact ⟨h1.trans h.sch,Sp.axZ id h.ok,by have:=h.nx;omega,Sp.az2 id h.small⟩
theorem Ia.more {k k':Int} {s:Sp.eG} (h:Ia k s) (hk:k≤k'):Ia k' s:=⟨h.sch,h.ok,by have:=h.nx;omega,h.small⟩
theorem Ia.grows {s:Sp.eG} (h:Ia 2 s) (hl:s.2.1.length<12) {f:Sp.aT} (ho:0≤f.2.1∧f.2.1≤2) (hk:0≤f.2.2.2.1∧f.2.2.2.1≤6) (ha:Sp.mW Sp.usual f.2.2.2.2.1=true):(Sp.fD s f).1.2.1.length=s.2.1.length+1:=by
 have hnx:=(Sp.rD.1 h.ok).2.2.2
 have h2:=h.nx
 have hf:Sp.dD s.1 (s.2.2.1,f.2)=true:=by
  rw [h.sch]
  show (Sp.mW Sp.usual f.2.2.2.2.1&&Sp.ig Sp.usual&&(decide (1≤s.2.2.1)&&decide (s.2.2.1≤60))&&(decide (0≤f.2.1)&&decide (f.2.1≤2))&&(decide (0≤f.2.2.2.1)&&decide (f.2.2.2.1≤60)))=true
  rw [ha,aFA,decide_eq_true hnx.1,decide_eq_true (by omega),decide_eq_true ho.1,decide_eq_true ho.2,decide_eq_true hk.1,decide_eq_true (by omega)]
  rfl
 rcases Sp.vM s f with ⟨_,e⟩|⟨_,_,_,e⟩
 · exact (e ⟨h.ok,hl,hf⟩).elim
 · rw [e]
   show (s.2.1++[_]).length=_
   rw [List.length_append];rfl
theorem abU:Sp.aH (Sp.usual,[(1,0,false,0,[],())],2,())=true∧Sp.bC (Sp.usual,[(1,0,false,0,[],())],2,()):=⟨by kernel_rfl,by decide,by decide,fun f hf=>by rw [List.mem_singleton.1 hf];exact Nat.zero_le _⟩
theorem Ia.one {s:Sp.eG} (h:Ia 1 s) {f:Sp.aT} (ho:0≤f.2.1∧f.2.1≤2) (hk:0≤f.2.2.2.1∧f.2.2.2.1≤6) (ha:Sp.mW Sp.usual f.2.2.2.2.1=true):0<(Sp.fD s f).1.2.1.length:=by
 by_cases hl:s.2.1.length<12
 · rw [(h.more (show (1:Int)≤2 by decide)).grows hl ho hk ha];omega
 · rcases Sp.vM s f with ⟨e,_⟩|⟨_,_,_,e⟩
   · rw [e];show 0<s.2.1.length;omega
   · rw [e];show 0<(s.2.1++[_]).length;rw [List.length_append,List.length_singleton];omega
theorem ar6:aG prog G Ht IX:=by
 refine ar7 (aB (l:=[(Du, .eff (ax vW) FM),(sG, .eff (ax nM) qF),(Dv, .eff (ax vV) FK),(Jt, .eff (ax BG) KI),(dU, .eff (ax dI) dK),(G7, .eff (ax zF) IW),(G8, .eff (ax zC) IU)]) (au ah) (by simp only [List.forall_mem_cons];exact ⟨⟨al4,aiT⟩,⟨Vy,Sv⟩,⟨al2,aiS⟩,⟨au5,arE⟩,⟨kV,jZ⟩,⟨ar4,aoB⟩,⟨arV,aoz⟩,fun x hx=>by cases hx⟩)) (fun _ _=>⟨(((Sp.usual,[(1,0,false,0,[],())],2,()),()),(([],0,0,()),())),⟨by decide,rfl,abU.1,by decide,abU.2,by decide⟩⟩) ?_
 intro b i h hin hp
 have hp:0≤i:=hp
 refine ⟨trivial,?_⟩
 rintro ⟨⟨u,⟨⟩⟩,⟨⟩⟩ hu
 have hu:u=Sp.usual:=hu
 subst hu
 refine ⟨(show Sp.usual.length≤1000 by decide),?_⟩
 rintro ⟨⟨⟨a,l,nx,⟨⟩⟩,⟨⟩⟩,⟨⟩⟩ ⟨e1,e2,e3⟩
 have e1:a=Sp.usual:=e1
 have e2:l=[]:=e2
 have e3:nx=1:=e3
 subst e1 e2 e3
 refine ⟨fun y=>0≤y.2.1.2.1∧(0≤y.1.1∧y.1.1≤7)∧Ia 1 (y.2.2.2.1,y.2.2.2.2.1,y.2.2.1.2.2.1,())∧(0<y.1.1→0<y.2.2.2.2.1.length),fun y=>(8-y.1.1).toNat,⟨hp,⟨(show (0:Int)≤0 by decide),(show (0:Int)≤7 by decide)⟩,⟨rfl,aFB,(show (1:Int)≤((0:Nat):Int)+1 by decide),aB9⟩,fun h=>absurd h (Int.lt_irrefl 0)⟩,?_⟩
 rintro ⟨⟨n,⟨⟩⟩,⟨b0,i0,g0,⟨⟩⟩,⟨⟨⟩,⟨⟩,nx,⟨⟩⟩,a,l,⟨⟩⟩ ⟨p0,⟨k0,k1⟩,D,hne⟩
 have p0:0≤i0:=p0
 have k0:0≤n:=k0
 have k1:n≤7:=k1
 have D:Ia 1 (a,l,nx,()):=D
 have hne:0<n→0<l.length:=hne
 refine ⟨p0,?_⟩
 rintro ⟨⟨x1,⟨⟩⟩,⟨b1,i1,g1,⟨⟩⟩,⟨⟩⟩ ⟨p1,q0,q1,_⟩
 have q1:x1<7:=q1 (by decide)
 have q0:0≤x1:=q0
 have w:IntKind.i64.wrap (1+x1)=1+x1:=iL _ (by omega)
 dsimp only
 rw [w]
 refine af (fun hc=>⟨p1,?_⟩) fun hc=>af (fun h2=>⟨p1,?_⟩) fun h2=>?_
 · have hc:=ji hc
   have wn:IntKind.i64.wrap (n+1)=n+1:=iL _ (by omega)
   rw [wn]
   rintro ⟨⟨⟨d,o,s,lk,al,⟨⟩⟩,⟨⟩⟩,⟨b2,i2,g2,⟨⟩⟩,⟨⟩⟩ ⟨p2,_,o1,o2,k3,k4,hat,ha⟩
   have hf:Sp.bH (d,o,s,lk,al,()):=(show al.length≤1000 from Nat.le_trans ha (by decide))
   refine ⟨⟨D.small,hf⟩,?_⟩
   rintro ⟨⟨⟨a3,l3,nx3,⟨⟩⟩,id3,ok3,⟨⟩⟩,⟨⟩⟩ ⟨e1,e2,e3,_⟩
   have e:((a3,l3,nx3,()):Sp.eG)=(Sp.fD (a,l,nx,()) (d,o,s,lk,al,())).1:=agU e1 e2 e3
   refine ⟨rfl,⟨p2,⟨(show 0≤n+1 by omega),(show n+1≤7 by omega)⟩,?_,fun _=>?_⟩,?_⟩
   · show Ia 1 (a3,l3,nx3,())
     rw [e];exact D.create hf
   · have:=D.one (f:=(d,o,s,lk,al,())) ⟨o1,o2⟩ ⟨k3,k4⟩ hat
     rw [← e] at this;exact this
   · show (8-(n+1)).toNat<(8-n).toNat
     omega
 · rintro ⟨⟨x3,⟨⟩⟩,⟨b3,i3,g3,⟨⟩⟩,⟨⟩⟩ p3
   have h2:(l.length:Int)>2:=ji h2
   refine af (fun _=>⟨⟨by decide,(show (1:Int)<l.length by omega)⟩,(show 1<l.length by omega),D.small,?_⟩) fun _=>?_
   · rintro ⟨⟨⟨a3,l3,nx3,⟨⟩⟩,ok3,⟨⟩⟩,⟨⟩⟩ ⟨e1,e2,e3,_⟩
     have e:=agU e1 e2 e3
     have D':=D.delete (List.getD l (Int.toNat 1) (0,0,false,0,[],())).1
     have D':Ia 2 (a3,l3,nx3,()):=by
      have e:((a3,l3,nx3,()):Sp.eG)=(Sp.gJ (a,l,nx,()) (List.getD l (Int.toNat 1) (0,0,false,0,[],())).1).1:=e
      rw [e];exact D'
     refine ⟨p3,D'.sch,D'.ok,D'.nx,D'.small,?_⟩
     have:=(al6 (a,l,nx,()) (List.getD l (Int.toNat 1) (0,0,false,0,[],())).1).2.2
     have e2:l3=(Sp.gJ (a,l,nx,()) (List.getD l (Int.toNat 1) (0,0,false,0,[],())).1).1.2.1:=e2
     rw [← e2] at this
     have this:l.length≤l3.length+1:=this
     show 0<l3.length
     omega
   · have D':=D.more (show (1:Int)≤2 by decide)
     exact ⟨p3,D'.sch,D'.ok,D'.nx,D'.small,hne (by have:=jl hc;omega)⟩
 · have D':=D.more (show (1:Int)≤2 by decide)
   exact ⟨p1,D'.sch,D'.ok,D'.nx,D'.small,hne (by have:=jl hc;omega)⟩
theorem aCa:aA prog G U5 Um:=by
 refine aCb (aB (l:=[]) (au ah) (fun x hx=>by cases hx)) ?_
 intro b hin hp
 exact rfl
theorem JY:aA prog G kE kH:=by
 refine afu (aB (l:=[(jm, .pure iV)]) (au ah) (by simp only [List.forall_mem_cons];exact ⟨⟨zU,yc⟩,fun x hx=>by cases hx⟩)) ?_
 intro s hin hp
 have hlen:s.length≤maxLen:=hin.1
 rw [maxLen_eq] at hlen
 refine ⟨fun y=>∃ n:Nat,y.1.1=n∧n≤s.length∧Sp.lower (s.take n)=true,fun y=>((s.length:Int)-y.1.1).toNat,⟨0,rfl,by omega,rfl⟩,?_⟩
 rintro ⟨⟨_,⟨⟩⟩,⟨⟩⟩ ⟨n,rfl,hn,hJ⟩
 dsimp only
 refine af (fun h=>?_) fun h=>?_<;>simp only [decide_eq_true_eq,decide_eq_false_iff_not] at h
 · have hlt:n<s.length:=by omega
   rw [iL _ (by omega),Int.toNat_natCast]
   refine ⟨⟨by omega,by omega⟩,af (fun h2=>?_) fun h2=>⟨⟨by omega,by omega⟩,af (fun h3=>?_) fun h3=>?_⟩⟩<;>simp only [decide_eq_true_eq,decide_eq_false_iff_not] at*
   · unfold Sp.jB
     cases hl:Sp.lower s with
     |false=>rfl
     |true=>have:=aap hlt hl;omega
   · unfold Sp.jB
     cases hl:Sp.lower s with
     |false=>rfl
     |true=>have:=aap hlt hl;omega
   · refine ⟨trivial,⟨n+1,by simp,by omega,?_⟩,by omega⟩
     rw [Sp.take_succ' s n 0 hlt]
     unfold Sp.lower at hJ ⊢
     rw [List.all_append,hJ]
     simp only [List.all_cons,List.all_nil,Bool.and_true,Bool.true_and,Bool.and_eq_true,decide_eq_true_eq]
     omega
 · have hge:n=s.length:=by omega
   rw [hge,List.take_length] at hJ
   unfold Sp.jB
   rw [hJ]
   exact ⟨trivial,rfl⟩
theorem VB:aA prog G qc qA:=by
 refine agV (aB (l:=[(kE, .pure kH),(jm, .pure iV)]) (au ah) (by simp only [List.forall_mem_cons];exact ⟨⟨JY,Iy⟩,⟨zU,yc⟩,fun x hx=>by cases hx⟩)) ?_
 intro k n s hin hp
 refine af (fun h=>?_) fun h=>af (fun h2=>⟨trivial,af (fun h3=>?_) fun h3=>?_⟩) fun h2=>af (fun h3=>⟨trivial,af (fun h4=>?_) fun h4=>?_⟩) fun h3=>?_
 · have e:k=0:=by simpa using h
   subst e
   exact congrArg (·,()) (Bool.eq_iff_iff.2 (by simp [Sp.kY]))
 · have e:k=1:=by simpa using h2
   subst e
   exact congrArg (·,()) (Bool.eq_iff_iff.2 (by simp only [Bool.and_eq_true,decide_eq_true_eq] at h3;simp [Sp.kY,h3]))
 · have e:k=1:=by simpa using h2
   subst e
   exact congrArg (·,()) (Bool.eq_iff_iff.2 (by simp only [Sp.kY,h3];simp))
 · have e:k=2:=by simpa using h3
   subst e
   exact congrArg (·,()) (Bool.eq_iff_iff.2 (by simp [Sp.kY,h4]))
 · have e:k=2:=by simpa using h3
   subst e
   exact congrArg (·,()) (Bool.eq_iff_iff.2 (by simp [Sp.kY,h4]))
 · have e1:k≠0:=by simpa using h
   have e2:k≠1:=by simpa using h2
   have e3:k≠2:=by simpa using h3
   exact congrArg (·,()) (Bool.eq_iff_iff.2 (by simp [Sp.kY,e1,e2,e3]))
theorem PI:aA prog G lW mV:=by
 refine acF (aB (l:=[]) (au ah) (fun x hx=>by cases hx)) ?_
 intro s hin hp
 refine af (fun h=>?_) fun h=>?_
 · have h:(s.length:Int)=1:=ji h
   match s,h with
   |[c],_=>
    refine ⟨⟨by decide,(by show (0:Int)<1;decide)⟩,af (fun h2=>⟨⟨by decide,(by show (0:Int)<1;decide)⟩,?_⟩) fun h2=>?_⟩
    · have h2:(c.toNat:Int)≥97:=ji h2
      refine congrArg (·,()) (Bool.eq_iff_iff.2 ?_)
      simp only [Sp.lD,Sp.lower,List.all_cons,List.all_nil,Bool.and_true,Bool.and_eq_true,decide_eq_true_eq,List.length_cons,List.length_nil]
      constructor
      · intro h3
        have h3:(c.toNat:Int)≤122:=h3
        exact ⟨⟨⟨by omega,by omega⟩,by decide⟩,by decide⟩
      · rintro ⟨⟨⟨_,h4⟩,_⟩,_⟩
        show (c.toNat:Int)≤122
        omega
    · have h2:¬ (c.toNat:Int)≥97:=jl h2
      refine congrArg (·,()) (Bool.eq_iff_iff.2 ?_)
      simp only [Sp.lD,Sp.lower,List.all_cons,List.all_nil,Bool.and_true,Bool.and_eq_true,decide_eq_true_eq]
      constructor
      · intro h3;cases h3
      · rintro ⟨⟨⟨h4,_⟩,_⟩,_⟩;omega
 · have h:¬ (s.length:Int)=1:=jl h
   refine congrArg (·,()) (Bool.eq_iff_iff.2 ?_)
   simp only [Sp.lD,Bool.and_eq_true,decide_eq_true_eq]
   constructor
   · intro h3;cases h3
   · rintro ⟨⟨_,h4⟩,h5⟩;omega
theorem aoT:aA prog G EW Gy:=by
 refine aoU (aB (l:=[]) (au ah) (fun x hx=>by cases hx)) ?_
 intro s name hin hp
 have hlen:s.length≤maxLen:=hin.1.1
 rw [maxLen_eq] at hlen
 refine ku s.length hlen (fun n=>∀ i,i<n→(s.getD i ([],0,())).1≠name) (fun i hi=>by omega) (fun I μ n hn hJ next=>?_) fun I μ hJ=>?_
 · dsimp only
   refine dW (by omega) ⟨⟨by omega,by omega⟩,af (fun h=>?_) fun h=>⟨rfl,next fun i hi=>?_⟩⟩
   · exact congrArg (·,()) (Sp.alY s n hn hJ (by simpa only [Int.toNat_natCast,beq_iff_eq] using h)).symm
   · rcases Nat.lt_or_ge i n with h'|h'
     · exact hJ i h'
     · have:i=n:=by omega
       subst this
       have h2:((s.getD i ([],0,())).1==name)=false:=h
       exact fun e=>by rw [e] at h2;simp at h2
 · dsimp only
   exact dX (by omega) (congrArg (·,()) (Sp.adZ s hJ).symm)
theorem aEQ {k:Int} (h:(k !=1)=false∨(k !=2)=false):(decide (1≤k)&&decide (k≤2))=true:=by
 have:k=1∨k=2:=h.imp (by simp) (by simp)
 rcases this with h|h<;>subst h<;>rfl
theorem aGw {k:Int} (h1:(k !=1)=true) (h2:(k !=2)=true):(decide (1≤k)&&decide (k≤2))=false:=by
 have h1:k≠1:=by simpa using h1
 have h2:k≠2:=by simpa using h2
 rw [Bool.and_eq_false_iff]
 by_cases h:k<1
 · left;exact decide_eq_false (by omega)
 · right;exact decide_eq_false (by omega)
theorem TY:aA prog G oK o7:=by
 refine afv (aB (l:=[(lW, .pure mV)]) (au ah) (by simp only [List.forall_mem_cons];exact ⟨⟨PI,OO⟩,fun x hx=>by cases hx⟩)) ?_
 intro s hin hp
 have hlen:s.length≤maxLen:=hin.1.1
 rw [maxLen_eq] at hlen
 refine ku s.length hlen (fun n=>∀ i,i<n→Sp.pW s i=true) (fun i hi=>by omega) (fun I μ n hn hJ next=>?_) fun I μ hJ=>?_
 · dsimp only
   have no:Sp.pW s n=false→(false,())=(Sp.ig s,()):=fun h=>by rw [Sp.aqn hn h]
   have rest:Sp.lD (Sp.fieldAt s n).1=true→(decide (1≤(Sp.fieldAt s n).2.1)&&decide ((Sp.fieldAt s n).2.1≤2))=true→
    bif decide ((n:Int)>0) then
     ((0:Int)≤IntKind.i64.wrap ((n:Int)-1)∧IntKind.i64.wrap ((n:Int)-1)<(s.length:Int))∧
       bif !Op.bytesLess (s.getD (IntKind.i64.wrap ((n:Int)-1)).toNat ([],0,())).fst (s.getD (Int.toNat (n:Int)) ([],0,())).fst then (false,())=(Sp.ig s,())
       else True∧I ((IntKind.i64.wrap ((n:Int)+1),()),())∧μ ((IntKind.i64.wrap ((n:Int)+1),()),())<μ (((n:Int),()),())
    else True∧I ((IntKind.i64.wrap ((n:Int)+1),()),())∧μ ((IntKind.i64.wrap ((n:Int)+1),()),())<μ (((n:Int),()),()):=by
    intro h2 h3
    refine af (fun h4=>?_) fun h4=>⟨trivial,next (gI hJ ?_)⟩
    · have h4:0<n:=by have:=ji h4;omega
      rw [ES h4 (by omega)]
      refine ⟨⟨by omega,by omega⟩,af (fun h5=>no ?_) fun h5=>⟨trivial,next (gI hJ ?_)⟩⟩
      · have h5:Op.bytesLess (Sp.fieldAt s (n-1)).1 (Sp.fieldAt s n).1=false:=jG h5
        unfold Sp.pW;rw [h2,h3,h5,decide_eq_true h4];rfl
      · have h5:Op.bytesLess (Sp.fieldAt s (n-1)).1 (Sp.fieldAt s n).1=true:=gQ h5
        unfold Sp.pW;rw [h2,h3,h5,decide_eq_true h4];rfl
    · have h4:¬ 0<n:=by have:=jl h4;omega
      unfold Sp.pW;rw [h2,h3,decide_eq_false h4];rfl
   simp only [true_and] at rest
   refine dW (by omega) ⟨⟨by omega,by omega⟩,trivial,af (fun h2=>no ?_) fun h2=>af (fun h3=>af (fun h4=>no ?_) fun h4=>?_) fun h3=>?_⟩
   · have h2:Sp.lD (Sp.fieldAt s n).1=false:=jG h2
     unfold Sp.pW;rw [h2];rfl
   · have h2:Sp.lD (Sp.fieldAt s n).1=true:=gQ h2
     have h3:(decide (1≤(Sp.fieldAt s n).2.1)&&decide ((Sp.fieldAt s n).2.1≤2))=false:=aGw h3 h4
     unfold Sp.pW;rw [h2,h3];rfl
   · have h2:Sp.lD (Sp.fieldAt s n).1=true:=gQ h2
     have h3:(decide (1≤(Sp.fieldAt s n).2.1)&&decide ((Sp.fieldAt s n).2.1≤2))=true:=aEQ (.inr h4)
     simp only [true_and]
     exact rest h2 h3
   · have h2:Sp.lD (Sp.fieldAt s n).1=true:=gQ h2
     have h3:(decide (1≤(Sp.fieldAt s n).2.1)&&decide ((Sp.fieldAt s n).2.1≤2))=true:=aEQ (.inl h3)
     simp only [true_and]
     exact rest h2 h3
 · dsimp only
   refine dX (by omega) (congrArg (·,()) ?_)
   unfold Sp.ig
   rw [uQ hJ];rfl
theorem afw:aA prog G xO zY:=by
 refine afx (aB (l:=[(EW, .pure Gy),(qc, .pure qA)]) (au ah) (by simp only [List.forall_mem_cons];exact ⟨⟨aoT,alJ⟩,⟨VB,TT⟩,fun x hx=>by cases hx⟩)) ?_
 intro fs s k n w hin hp
 refine ⟨trivial,af (fun h=>af (fun h2=>⟨trivial,?_⟩) fun h2=>?_) fun h=>?_⟩
 · exact congrArg (·,()) (Bool.eq_iff_iff.2 (by simp only [bne_iff_ne,ne_eq] at h2;simp [Sp.jh,h,h2]))
 · exact congrArg (·,()) (Bool.eq_iff_iff.2 (by simp at h2;simp [Sp.jh,h2]))
 · exact congrArg (·,()) (Bool.eq_iff_iff.2 (by simp [Sp.jh,h]))
theorem WH:aA prog G qJ rG:=by
 refine aja (aB (l:=[(oK, .pure o7),(Md, .pure NU),(jm, .pure iV),(xO, .pure zY)]) (au ah) (by simp only [List.forall_mem_cons];exact ⟨⟨TY,Q5⟩,⟨axW,auO⟩,⟨zU,yc⟩,⟨afw,adY⟩,fun x hx=>by cases hx⟩)) ?_
 intro fs f0 f1 f2 f3 f4 hin hp
 have hlen:f4.length≤maxLen:=hin.2.1.2.2.2.2.1.1
 rw [maxLen_eq] at hlen
 refine ku f4.length hlen (fun n=>∀ i,i<n→Sp.nI fs f4 i=true) (fun i hi=>by omega) (fun I μ n hn hJ next=>?_) fun I μ hJ=>?_
 · dsimp only
   have no:Sp.nI fs f4 n=false→(false,())=(Sp.dD fs (f0,f1,f2,f3,f4,()),()):=fun h=>by rw [Sp.azo (f:=(f0,f1,f2,f3,f4,())) hn h]
   refine dW (by omega) ⟨⟨by omega,by omega⟩,af (fun h4=>?_) fun h4=>⟨trivial,af (fun h2=>no ?_) fun h2=>⟨rfl,next (gI hJ ?_)⟩⟩⟩
   · have h4:0<n:=by have:=ji h4;omega
     rw [ES h4 (by omega)]
     refine ⟨⟨by omega,by omega⟩,af (fun h5=>no ?_) fun h5=>⟨trivial,af (fun h2=>no ?_) fun h2=>⟨rfl,next (gI hJ ?_)⟩⟩⟩
     · have h5:Op.bytesLess (Sp.dB f4 (n-1)).1 (Sp.dB f4 n).1=false:=jG h5
       unfold Sp.nI;rw [h5,decide_eq_true h4];exact Bool.and_false _
     · have h2:Sp.jh fs (Sp.dB f4 n).1 (Sp.dB f4 n).2.1 (Sp.dB f4 n).2.2.1 (Sp.dB f4 n).2.2.2.1=false:=jG h2
       unfold Sp.nI;rw [h2];rfl
     · have h2:Sp.jh fs (Sp.dB f4 n).1 (Sp.dB f4 n).2.1 (Sp.dB f4 n).2.2.1 (Sp.dB f4 n).2.2.2.1=true:=gQ h2
       have h5:Op.bytesLess (Sp.dB f4 (n-1)).1 (Sp.dB f4 n).1=true:=gQ h5
       unfold Sp.nI;rw [h2,h5,decide_eq_true h4];rfl
   · have h2:Sp.jh fs (Sp.dB f4 n).1 (Sp.dB f4 n).2.1 (Sp.dB f4 n).2.2.1 (Sp.dB f4 n).2.2.2.1=false:=jG h2
     unfold Sp.nI;rw [h2];rfl
   · have h2:Sp.jh fs (Sp.dB f4 n).1 (Sp.dB f4 n).2.1 (Sp.dB f4 n).2.2.1 (Sp.dB f4 n).2.2.2.1=true:=gQ h2
     have h4:¬ 0<n:=by have:=jl h4;omega
     unfold Sp.nI;rw [h2,decide_eq_false h4];rfl
 · dsimp only
   have ha:Sp.mW fs f4=true:=uQ hJ
   refine dX (by omega) ⟨trivial,af (fun h1=>⟨trivial,af (fun h2=>⟨trivial,af (fun h3=>⟨trivial,?_⟩) fun h3=>?_⟩) fun h2=>?_⟩) fun h1=>?_⟩
   all_goals refine congrArg (·,()) ?_
   · show Sp.ig fs=(Sp.mW fs f4&&Sp.ig fs&&(decide (1≤f0)&&decide (f0≤60))&&(decide (0≤f1)&&decide (f1≤2))&&(decide (0≤f3)&&decide (f3≤60)))
     rw [ha,h1,h2,h3];cases Sp.ig fs<;>rfl
   · show false=(Sp.mW fs f4&&Sp.ig fs&&(decide (1≤f0)&&decide (f0≤60))&&(decide (0≤f1)&&decide (f1≤2))&&(decide (0≤f3)&&decide (f3≤60)))
     rw [h3,Bool.and_false]
   · show false=(Sp.mW fs f4&&Sp.ig fs&&(decide (1≤f0)&&decide (f0≤60))&&(decide (0≤f1)&&decide (f1≤2))&&(decide (0≤f3)&&decide (f3≤60)))
     rw [h2,Bool.and_false,Bool.false_and]
   · show false=(Sp.mW fs f4&&Sp.ig fs&&(decide (1≤f0)&&decide (f0≤60))&&(decide (0≤f1)&&decide (f1≤2))&&(decide (0≤f3)&&decide (f3≤60)))
     rw [h1,Bool.and_false,Bool.false_and,Bool.false_and]
theorem VD:aA prog G qf qB:=by
 refine agW (aB (l:=[(jm, .pure iV),(oK, .pure o7),(qJ, .pure rG)]) (au ah) (by simp only [List.forall_mem_cons];exact ⟨⟨zU,yc⟩,⟨TY,Q5⟩,⟨WH,Vo⟩,fun x hx=>by cases hx⟩)) ?_
 intro s0 s1 s2 hin hp
 have hlen:s1.length≤maxLen:=hin.1.2.1.1
 rw [maxLen_eq] at hlen
 refine ku s1.length hlen (fun n=>∀ i,i<n→Sp.oP (s0,s1,s2,()) i=true) (fun i hi=>by omega) (fun I μ n hn hJ next=>?_) fun I μ hJ=>?_
 · dsimp only
   have no:Sp.oP (s0,s1,s2,()) n=false→(false,())=(Sp.aH (s0,s1,s2,()),()):=fun h=>by rw [Sp.auV (s:=(s0,s1,s2,())) hn h]
   refine dW (by omega) ⟨⟨by omega,by omega⟩,trivial,af (fun h2=>no ?_) fun h2=>af (fun h3=>no ?_) fun h3=>af (fun h4=>?_) fun h4=>⟨rfl,next (gI hJ ?_)⟩⟩
   · have h2:Sp.dD s0 (Sp.fileAt s1 n)=false:=jG h2
     show (Sp.dD s0 (Sp.fileAt s1 n)&&_&&_)=false
     rw [h2];rfl
   · have h2:Sp.dD s0 (Sp.fileAt s1 n)=true:=gQ h2
     have h3:¬ (Sp.fileAt s1 n).1<s2:=by have h3:(Sp.fileAt s1 n).1≥s2:=ji h3;omega
     show (Sp.dD s0 (Sp.fileAt s1 n)&&decide ((Sp.fileAt s1 n).1<s2)&&_)=false
     rw [h2,decide_eq_false h3];rfl
   · have h2:Sp.dD s0 (Sp.fileAt s1 n)=true:=gQ h2
     have h3:(Sp.fileAt s1 n).1<s2:=by have h3:¬ (Sp.fileAt s1 n).1≥s2:=jl h3;omega
     have h4:0<n:=by have:=ji h4;omega
     rw [ES h4 (by omega)]
     refine ⟨⟨by omega,by omega⟩,af (fun h5=>no ?_) fun h5=>⟨rfl,next (gI hJ ?_)⟩⟩
     · have h5:¬ (Sp.fileAt s1 (n-1)).1<(Sp.fileAt s1 n).1:=by have h5:(Sp.fileAt s1 (n-1)).1≥(Sp.fileAt s1 n).1:=ji h5;omega
       show (Sp.dD s0 (Sp.fileAt s1 n)&&decide ((Sp.fileAt s1 n).1<s2)&&!(decide (0<n)&&!decide ((Sp.fileAt s1 (n-1)).1<(Sp.fileAt s1 n).1)))=false
       rw [h2,decide_eq_true h3,decide_eq_true h4,decide_eq_false h5];rfl
     · have h5:(Sp.fileAt s1 (n-1)).1<(Sp.fileAt s1 n).1:=by have h5:¬ (Sp.fileAt s1 (n-1)).1≥(Sp.fileAt s1 n).1:=jl h5;omega
       show (Sp.dD s0 (Sp.fileAt s1 n)&&decide ((Sp.fileAt s1 n).1<s2)&&!(decide (0<n)&&!decide ((Sp.fileAt s1 (n-1)).1<(Sp.fileAt s1 n).1)))=true
       rw [h2,decide_eq_true h3,decide_eq_true h4,decide_eq_true h5];rfl
   · have h2:Sp.dD s0 (Sp.fileAt s1 n)=true:=gQ h2
     have h3:(Sp.fileAt s1 n).1<s2:=by have h3:¬ (Sp.fileAt s1 n).1≥s2:=jl h3;omega
     have h4:¬ 0<n:=by have:=jl h4;omega
     show (Sp.dD s0 (Sp.fileAt s1 n)&&decide ((Sp.fileAt s1 n).1<s2)&&!(decide (0<n)&&!decide ((Sp.fileAt s1 (n-1)).1<(Sp.fileAt s1 n).1)))=true
     rw [h2,decide_eq_true h3,decide_eq_false h4];rfl
 · dsimp only
   have ha:Sp.l9 s1.length (Sp.oP (s0,s1,s2,()))=true:=uQ hJ
   refine dX (by omega) ⟨trivial,af (fun h1=>af (fun h2=>⟨trivial,?_⟩) fun h2=>?_) fun h1=>?_⟩
   · refine congrArg (·,()) ?_
     show _=(Sp.l9 s1.length (Sp.oP (s0,s1,s2,()))&&Sp.ig s0&&decide ((s1.length:Int)≤12)&&(decide (1≤s2)&&decide (s2≤61)))
     rw [ha,h1,h2];rfl
   · refine congrArg (·,()) ?_
     show _=(Sp.l9 s1.length (Sp.oP (s0,s1,s2,()))&&Sp.ig s0&&decide ((s1.length:Int)≤12)&&(decide (1≤s2)&&decide (s2≤61)))
     rw [ha,h1,h2];rfl
   · refine congrArg (·,()) ?_
     show _=(Sp.l9 s1.length (Sp.oP (s0,s1,s2,()))&&Sp.ig s0&&decide ((s1.length:Int)≤12)&&(decide (1≤s2)&&decide (s2≤61)))
     rw [ha,h1];rfl
theorem aBo {α:Type} {l:List α} {lo:Nat} {news:List α} (h:lo+news.length≤l.length):(iU l lo news).length=l.length:=by
 unfold iU
 simp only [List.length_append,List.length_take,List.length_drop]
 omega
theorem azp {α:Type} {l:List α} {lo k:Nat} {news:List α} (hk:k≤lo) (h:lo≤l.length):(iU l lo news).take k=l.take k:=by
 unfold iU
 rw [List.append_assoc,List.take_append_of_le_length (by rw [List.length_take];omega),List.take_take,Nat.min_eq_left hk]
theorem aoV:aG prog G EZ GK:=by
 refine aoW (aB (l:=[(qm, .pure pI)]) (au ah) (by simp only [List.forall_mem_cons];exact ⟨⟨SC,Qq⟩,fun x hx=>by cases hx⟩)) (fun ⟨l,_⟩ _=>⟨((l,()),()),rfl⟩) ?_
 intro l hin hp
 obtain ⟨h1,h2⟩:l.length≤1000∧∀ f∈l,Sp.bH f:=hp
 refine eX (fun i (x:List Sp.aT)=>(((),i,()),x,())) (fun y=>y.1.2.1) (fun _ _=>rfl) l.length (by omega) (fun n x=>x=l.take n) (by simp) (fun I μ n x hn hJ next=>?_) fun I μ x hJ=>?_
 · subst hJ
   have hl:(l.take n).length≤n:=by rw [List.length_take];omega
   dsimp only
   refine dW (by omega) ⟨⟨by omega,by omega⟩,h2 _ (getD_mem (d:=((0:Int),(0:Int),false,(0:Int),[],())) hn),by rw [dS];simp only [List.length_cons,List.length_nil];omega,rfl,next _ ?_⟩
   exact (Sp.take_succ' l n (0,0,false,0,[],()) hn).symm
 · subst hJ
   dsimp only
   refine dX (by omega) ?_
   show List.take l.length l=l
   rw [List.take_length]
theorem Qu:aG prog G oN nS:=by
 refine aoX (aB (l:=[(EZ, .eff (ax yh) GK),(qo, .pure tV)]) (au ah) (by simp only [List.forall_mem_cons];exact ⟨⟨aoV,alN⟩,⟨YU,Yt⟩,fun x hx=>by cases hx⟩)) (fun ⟨(a,l,nx,_),_⟩ _=>⟨(((a,l,nx,()),()),()),rfl⟩) ?_
 intro s0 s1 s2 hin hp
 obtain ⟨h0,h1,h2⟩:s0.length≤1000∧s1.length≤1000∧∀ f∈s1,Sp.bH f:=hp
 refine ⟨h0,⟨h1,h2⟩,?_⟩
 rintro ⟨⟨x,⟨⟩⟩,⟨⟩⟩ e
 have e:x=s1:=e
 subst e
 exact rfl
end Go.Proofs.Tryz
