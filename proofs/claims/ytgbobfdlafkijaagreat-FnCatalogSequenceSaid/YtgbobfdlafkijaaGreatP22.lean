import Derived.Test.YtgbobfdlafkijaaGreatP21
namespace Go.Proofs.Tryz
open Go Go.Fw Go.IntWalk
theorem amN:aG prog G DT F6:=by
 refine amO (aB (l:=[(JF, .eff (ax CO) Ll),(zl, .eff (ax su) CJ),(Fh, .pure GV),(AB, .eff (ax uF) Ej),(Ho, .pure I9),(JG, .eff (ax CB) Lj)]) (au ah) (by simp only [List.forall_mem_cons];exact ⟨⟨avI,arS⟩,⟨ahn,afn⟩,⟨ao5,alR⟩,⟨ajn,agL⟩,⟨asr,aoJ⟩,⟨avw,arR⟩,fun x hx=>by cases hx⟩)) (fun ⟨c,f,_⟩ _=>by obtain ⟨c',df,h⟩:=aqt c f;exact ⟨((((c'.1,c'.2.1,c'.2.2.1,c'.2.2.2.1,c'.2.2.2.2.1,()),df,(Sp.o5 c&&(Sp.aW (Sp.mF c) f).2),()),())),h⟩) ?_
 intro a l nx d r f0 f1 f2 f3 f4 hin hp
 obtain ⟨hc,hf,hhc,hhf⟩:=hp
 refine ⟨hc,?_⟩
 rintro ⟨⟨c',⟨⟩⟩,⟨⟩⟩ ec
 have ec:c'=(a,l,nx,d,r,()):=ec
 subst ec
 refine ⟨hc.1,⟨hc.1,hf⟩,?_⟩
 rintro ⟨⟨⟨sa,sl,sn,⟨⟩⟩,ok,⟨⟩⟩,⟨⟩⟩ ⟨e1,e2,e3,e4⟩
 have es:((sa,sl,sn,()):Sp.eG)=(Sp.aW (a,l,nx,()) (f0,f1,f2,f3,f4,())).1:=agU e1 e2 e3
 have e4:ok=(Sp.aW (a,l,nx,()) (f0,f1,f2,f3,f4,())).2:=e4
 have bad:(Sp.o5 (a,l,nx,d,r,())&&(Sp.aW (a,l,nx,()) (f0,f1,f2,f3,f4,())).2)=false→Sp.updated (a,l,nx,d,r,()) (f0,f1,f2,f3,f4,()) (a,l,nx,d,r,()) [] false:=fun hz=>⟨hz.symm,fun h=>(by cases h),fun _=>⟨rfl,rfl⟩⟩
 dsimp only
 refine ⟨hc,af (fun h2=>bad ?_) fun h2=>af (fun h=>bad ?_) fun h=>?_⟩
 · rw [jG h2];rfl
 · have h:ok=false:=jG h
   rw [← e4,h,Bool.and_false]
 have h:ok=true:=gQ h
 have h2:=gQ h2
 obtain ⟨hst,hok,hev⟩:=VG h2
 have hst:Sp.aF d=true:=hst
 have hlen:=(yJ hst).2
 have hfind:Sp.bH (Sp.fC (a,l,nx,()) f0).1∧Sp.Rl (Sp.fC (a,l,nx,()) f0).1:=by
  rcases Sp.Ae l f0 with ⟨h,_⟩|⟨n,hn,h,_,_⟩
  · have e:Sp.fC (a,l,nx,()) f0=(Sp.amm,false):=by
     show (bif decide (Sp.place l f0<0) then _ else _)=_
     rw [h];rfl
    rw [e];exact ⟨Nat.zero_le _,Nat.zero_le _⟩
  · have e:Sp.fC (a,l,nx,()) f0=(Sp.fileAt l n,true):=by
     show (bif decide (Sp.place l f0<0) then _ else (Sp.fileAt l (Sp.place l f0).toNat,true))=_
     rw [h,decide_eq_false (by omega)];rfl
    rw [e]
    have hm:Sp.fileAt l n∈l:=getD_mem hn
    exact ⟨hc.1.2.2 _ hm,hhc _ hm⟩
 have hh:(Sp.fC (a,l,nx,()) f0).1.2.2.2.2.1.length≤500:=hfind.2
 have hh2:f4.length≤500:=hhf
 have hrep:(Sp.aW (a,l,nx,()) (f0,f1,f2,f3,f4,())).2=true:=e4▸h
 have hz:(Sp.aF d&&Sp.aH (Sp.aW (a,l,nx,()) (f0,f1,f2,f3,f4,())).1)=true:=by rw [hst,ahj hrep];rfl
 have hz2:(Sp.o5 (a,l,nx,d,r,())&&(Sp.aW (a,l,nx,()) (f0,f1,f2,f3,f4,())).2)=true:=by rw [h2,hrep];rfl
 refine ⟨⟨hc.2.1,hlen,hfind.1,hf,by omega⟩,fun r10 aFE=>⟨⟨hc,?_,hc.2.1,?_⟩,fun r11 aBx=>?_⟩⟩
 · rw [es];exact Sp.afD hc.1 hf
 · rw [es];exact hz
 · rw [es] at aBx
   obtain ⟨g1,g2,g3⟩:=aBx
   obtain ⟨k1,k2,k3,k4⟩:=g2 rfl
   exact ⟨hz2.symm,fun _=>⟨k1,k2,Sp.ad8 k3 (fun i hi=>aCN aFE _) fun _ _ _=>rfl,k4⟩,fun hno=>by cases hno⟩
theorem aGC {a b:Sp.EG} (h1:Sp.mF a=Sp.mF b) (h2:Sp.vz a=Sp.vz b) (h3:Sp.J5 a=Sp.J5 b):a=b:=by
 obtain ⟨x1,x2,x3,x4,x5,_⟩:=a
 obtain ⟨y1,y2,y3,y4,y5,_⟩:=b
 have t1:x1=y1:=congrArg (fun s:Sp.eG=>s.1) h1
 have t2:x2=y2:=congrArg (fun s:Sp.eG=>s.2.1) h1
 have t3:x3=y3:=congrArg (fun s:Sp.eG=>s.2.2.1) h1
 have t4:x4=y4:=h2
 have t5:x5=y5:=h3
 rw [t1,t2,t3,t4,t5]
theorem aFI {a b:Sp.EG} (ha:Sp.o5 a=true) (hb:Sp.o5 b=true) (h1:Sp.mF a=Sp.mF b) (h2:Sp.vz a=Sp.vz b):a=b:=by
 obtain ⟨hst,_,e1⟩:=VG ha
 obtain ⟨_,_,e2⟩:=VG hb
 have hf:a.2.1=b.2.1:=congrArg (fun s:Sp.eG=>s.2.1) h1
 rw [← hf,← h2] at e2
 exact aGC h1 h2 (Sp.ab3 (yJ hst).1 e1 e2)
theorem aGD (k:Nat) (hk:k<2):([([97],()),([98],())]:Sp.LS).getD k ([],())=([97],())∨([([97],()),([98],())]:Sp.LS).getD k ([],())=([98],()):=by
 match k,hk with
 |0,_=>exact .inl rfl
 |1,_=>exact .inr rfl
theorem aHL {name:Sp.Bytes} {v:Int} (hn:name=[97]∨name=[98]) (h0:0≤v) (h1:v≤999):Sp.jh Sp.usual name 1 v []=true:=by
 unfold Sp.jh Sp.kY
 rw [decide_eq_false (show ¬ (1:Int)=0 by decide),decide_eq_true h0,decide_eq_true h1]
 rcases hn with rfl|rfl<;>rfl
theorem aaw:aA prog G OW Mc:=by
 refine aax (aB (l:=[(qR, .pure sD),(qw, .eff (ax lT) pU),(AL, .pure Es),(DT, .eff (ax wM) F6),(DU, .eff (ax wL) F5),(wU, .eff (ax pq) yQ),(qj, .pure pG),(vJ, .pure wG),(DV, .eff (ax wO) F8),(AO, .eff (ax uJ) Et),(U5, .pure Um)]) (au ah) (by simp only [List.forall_mem_cons];exact ⟨⟨WN,Vx⟩,⟨SG,Qs⟩,⟨ajv,agP⟩,⟨amN,ai5⟩,⟨amE,ai4⟩,⟨aeh,acD⟩,⟨SB,Qp⟩,⟨ZO,Yy⟩,⟨amI,ai7⟩,⟨ajx,agQ⟩,⟨aCa,aBk⟩,fun x hx=>by cases hx⟩)) ?_
 intro code hin hp
 refine ⟨trivial,af (fun _=>rfl) fun hb=>?_⟩
 have hc:code.length≤1048576:=by have:=jl hb;omega
 refine ⟨hc,?_⟩
 rintro ⟨⟨c0,⟨⟩⟩,⟨⟩⟩ hl
 have hl:Sp.ZU c0:=hl
 obtain ⟨aIK,aHM,hpos0,aHN⟩:=hl
 refine ⟨hc,?_⟩
 rintro ⟨⟨p,⟨⟩⟩,⟨⟩⟩ ⟨p1,p2⟩
 have p1:p.length=12:=p1
 have p2:∀ x∈p,0≤x.1∧x.1<10000:=p2
 have pa:∀ n,n<12→0≤(p.getD n (0,())).1∧(p.getD n (0,())).1<10000:=fun n hn=>p2 _ (getD_mem (d:=((0:Int),())) (by omega))
 dsimp only
 refine eX (fun i (x:Sp.EG)=>((i,()),x,())) (fun y=>y.1.1) (fun _ _=>rfl) 5 (by decide) (fun _ c=>Sp.o5 c=true∧Sp.aO (Sp.vz c)∧c.1=Sp.usual∧0<c.2.1.length) ⟨aHN,aIK.2.1,aHM,hpos0⟩ (fun I μ n c hn hJ next=>?_) fun I μ c hJ=>?_
 · obtain ⟨hcur,hsd,amM,hpos⟩:=hJ
   obtain ⟨hst,hok,hev⟩:=VG hcur
   have hsm:=azu hcur hsd
   dsimp only
   have w1:IntKind.i64.wrap ((n:Int)+1)=((n+1:Nat):Int):=iL _ (by omega)
   have w2:IntKind.i64.wrap ((n:Int)+2)=((n+2:Nat):Int):=by rw [iL _ (by omega)];omega
   have nx:=next
   rw [w1] at next
   rw [w1,w2,Int.toNat_natCast,Int.toNat_natCast,Int.toNat_natCast]
   refine dW (by omega) (af (fun h=>?_) fun _=>?_)
   · have h:(c.2.1.length:Int)=0:=beq_iff_eq.1 h
     omega
   have q0:=Int.tmod_nonneg (c.2.1.length:Int) (pa n (by omega)).1
   have q1:Int.tmod (p.getD n (0,())).1 (c.2.1.length:Int)<c.2.1.length:=Int.tmod_lt_of_pos _ (by omega)
   have q2:=Int.tmod_nonneg (4:Int) (pa (n+2) (by omega)).1
   have q3:Int.tmod (p.getD (n+2) (0,())).1 4<4:=Int.tmod_lt_of_pos _ (by decide)
   have q4:=Int.tmod_nonneg (2:Int) (pa (n+1) (by omega)).1
   have q5:Int.tmod (p.getD (n+1) (0,())).1 2<2:=Int.tmod_lt_of_pos _ (by decide)
   generalize Int.tmod (p.getD (n+2) (0,())).1 4=v at q2 q3
   obtain ⟨m,hm⟩:∃ m:Nat,Int.tmod (p.getD n (0,())).1 (c.2.1.length:Int)=m:=⟨_,(Int.toNat_of_nonneg q0).symm⟩
   obtain ⟨k,hk⟩:∃ k:Nat,Int.tmod (p.getD (n+1) (0,())).1 2=k:=⟨_,(Int.toNat_of_nonneg q4).symm⟩
   rw [hm] at q0 q1 ⊢
   rw [hk] at q4 q5 ⊢
   rw [Int.toNat_natCast,Int.toNat_natCast]
   have hm':m<c.2.1.length:=by omega
   have hname:=aGD k (by omega)
   have hfo:=aCQ hok hm'
   have hfa:=VI hfo
   have hfe:c.2.1.getD m (0,0,false,0,[],())=Sp.fileAt c.2.1 m:=rfl
   rw [hfe]
   generalize hnm:([([97],()),([98],())]:Sp.LS).getD k ([],())=nm at hname
   have aIL:nm.1=[97]∨nm.1=[98]:=by rcases hname with h|h<;>rw [h]<;>simp
   refine ⟨⟨by omega,by omega⟩,by omega,⟨q0,q1⟩,⟨by omega,by omega⟩,by decide,⟨q4,q5⟩,⟨by omega,by omega⟩,by decide,trivial,Nat.le_trans hfa.2 (by decide),?_⟩
   have fit:∀ g:Sp.aT,g.1=(Sp.fileAt c.2.1 m).1∧g.2.1=(Sp.fileAt c.2.1 m).2.1∧g.2.2.1=(Sp.fileAt c.2.1 m).2.2.1∧g.2.2.2.1=(Sp.fileAt c.2.1 m).2.2.2.1∧g.2.2.2.2.1=Sp.jQ (Sp.fileAt c.2.1 m).2.2.2.2.1 nm.1 1 v []→Sp.dD c.1 g=true∧(Sp.jH c∧Sp.bH g∧Sp.XF c∧Sp.Rl g):=fun g ⟨g1,g2,g3,g4,g5⟩=>by
    have hg:Sp.dD c.1 g=true:=aG9 hfo g1 g2 g4 g5 (by rw [amM];exact aHL aIL q2 (by omega)) (by decide)
    have hga:=VI hg
    exact ⟨hg,hsm,Nat.le_trans hga.2 (by decide),aCR hok,Nat.le_trans hga.2 (by decide)⟩
   rintro ⟨⟨g,⟨⟩⟩,⟨⟩⟩ hg
   have hg:g.1=(Sp.fileAt c.2.1 m).1∧g.2.1=(Sp.fileAt c.2.1 m).2.1∧g.2.2.1=(Sp.fileAt c.2.1 m).2.2.1∧g.2.2.2.1=(Sp.fileAt c.2.1 m).2.2.2.1∧g.2.2.2.2.1=Sp.jQ (Sp.fileAt c.2.1 m).2.2.2.2.1 nm.1 1 v []:=hg
   obtain ⟨gok,gsm⟩:=fit g hg
   refine ⟨gsm,?_⟩
   rintro ⟨⟨c1,df1,ok1,⟨⟩⟩,⟨⟩⟩ hu1
   obtain ⟨a1,_,a3,a4,a5⟩:=aBy hcur hm' hg.1.symm gok hu1
   refine ⟨⟨by omega,by omega⟩,by decide,trivial,Nat.le_trans hfa.2 (by decide),?_⟩
   rintro ⟨⟨g',⟨⟩⟩,⟨⟩⟩ hg'
   have hg':g'.1=(Sp.fileAt c.2.1 m).1∧g'.2.1=(Sp.fileAt c.2.1 m).2.1∧g'.2.2.1=(Sp.fileAt c.2.1 m).2.2.1∧g'.2.2.2.1=(Sp.fileAt c.2.1 m).2.2.2.1∧g'.2.2.2.2.1=Sp.jQ (Sp.fileAt c.2.1 m).2.2.2.2.1 nm.1 1 v []:=hg'
   have egg:g'=g:=by
    obtain ⟨h1,h2,h3,h4,h5⟩:=hg
    obtain ⟨k1,k2,k3,k4,k5⟩:=hg'
    exact Prod.ext (k1.trans h1.symm) (Prod.ext (k2.trans h2.symm) (Prod.ext (k3.trans h3.symm) (Prod.ext (k4.trans h4.symm) (Prod.ext (k5.trans h5.symm) rfl))))
   subst egg
   refine ⟨gsm,?_⟩
   rintro ⟨⟨c2,df2,ok2,⟨⟩⟩,⟨⟩⟩ hu2
   obtain ⟨b1,_,b3,b4,b5⟩:=aBy hcur hm' hg'.1.symm gok hu2
   have hcc:c1=c2:=aFI a5 b5 (a3.trans b3.symm) (a4.trans b4.symm)
   dsimp only
   rw [show ok1=true from a1,decide_eq_true hcc]
   refine ⟨trivial,rfl,next c1 ⟨a5,by rw [a4];exact hsd,?_,?_⟩⟩
   · exact (congrArg (fun s:Sp.eG=>s.1) a3).trans amM
   · have:c1.2.1=c.2.1.set m g':=congrArg (fun s:Sp.eG=>s.2.1) a3
     rw [this,List.length_set];exact hpos
 · obtain ⟨hcur,hsd,amM,hpos⟩:=hJ
   obtain ⟨hst,hok,hev⟩:=VG hcur
   have hsm:=azu hcur hsd
   dsimp only
   refine dX (by decide) ⟨⟨hsm.1,hsm.2.1⟩,?_⟩
   rintro ⟨⟨r,ok,⟨⟩⟩,⟨⟩⟩ ⟨e1,e2⟩
   have hz:(Sp.aF (Sp.vz c)&&Sp.aH (Sp.mF c))=true:=by rw [hst,hok];rfl
   have hk:ok=true:=e1.trans hz
   have e:=Sp.ab3 (yJ hst).1 hev (e2 hk)
   dsimp only
   rw [hk]
   refine ⟨trivial,?_⟩
   exact congrArg (·,()) (decide_eq_true e)
end Go.Proofs.Tryz
