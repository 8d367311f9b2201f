import Derived.Test.YtlbkigkbmeckbaaGreatP22
import Derived.Test.YtlbkigkbmeckbaaGreatV9
import Derived.Test.YtlbkigkbmeckbaaGreatSp
namespace Go.Proofs.Tryz
open Go Go.Fw Go.IntWalk
theorem atH {c:Sp.jB} (hok:Sp.aH (Sp.aY c)=true):Sp.ast c:=fun f hf=>by
 obtain ⟨i,hi,rfl⟩:=List.getElem_of_mem hf
 have at_:Sp.fileAt c.2.1 i=c.2.1[i]:=by unfold Sp.fileAt;rw [List.getD_eq_getElem?_getD,List.getElem?_eq_getElem hi];rfl
 have:=(aiW (arb hok hi)).2
 rw [at_] at this
 exact Nat.le_trans this (by decide)
theorem ai1 {a:List Sp.gU} {l:List Sp.aK} {nx:Int} (h:Sp.aH (a,l,nx,())=true):∀ f∈l,f.2.2.2.2.1.length≤400:=atH (c:=(a,l,nx,[],[],())) h
theorem asu {c c':Sp.jB} {f:Sp.aK} {df:List Sp.IX} {ok:Bool} (h:Sp.updated c f c' df ok):Sp.became c (Sp.aP (Sp.aY c) f).1 (Sp.jW c) (Sp.iH c&&(Sp.aP (Sp.aY c) f).2) c' df ok:=by
 have u:=h
 obtain ⟨u1,u2,u3⟩:=h
 refine ⟨u1,fun hok=>?_,u3⟩
 have hz:=u1.symm.trans hok
 rw [Bool.and_eq_true] at hz
 obtain ⟨k1,k2,_,k4⟩:=u2 hok
 rcases Sp.jC (Sp.aY c) f with ⟨e,_⟩|⟨n,hn,h1,h2,h3,e⟩
 · rw [e] at hz;cases hz.2
 · have hid:(Sp.fileAt c.2.1 n).1=f.1:=by
    rcases Sp.kP c.2.1 f.1 with ⟨g,_⟩|⟨k,hk,g1,g2,_⟩
    · have h1:Sp.place c.2.1 f.1=n:=h1
      omega
    · have h1:Sp.place c.2.1 f.1=n:=h1
      have:k=n:=by omega
      subst this;exact g2
   exact ⟨k1,k2,(auw hz.1 hn hid h3 u).2.2.2.2,k4⟩
theorem alK:ai prog G xQ.e:=by
 refine alL (aj ah ⟨KE,IJ,alm,alr,sF,dY,GV,trivial⟩) (fun _ _=>⟨((([],[],0,()),()),(([],0,0,()),())),⟨by decide,⟨by decide,by decide,fun f hf=>by cases hf⟩,fun f hf=>by cases hf⟩⟩) ?_
 intro b i h hin hp
 dsimp only [xQ] at hp ⊢
 have hp:0≤i:=hp
 refine ⟨hp,?_⟩
 rintro ⟨⟨⟨a,l,nx,⟨⟩⟩,⟨⟩⟩,⟨b0,i0,g0,⟨⟩⟩,⟨⟩⟩ ⟨p0,d1,d2,d3,d4,_⟩
 have D:vV 2 (a,l,nx,()):=⟨d1,d2,d3,d4⟩
 obtain ⟨z0,z1,z2⟩:a.length≤1000∧l.length≤1000∧∀ f∈l,Sp.bW f:=d4
 have z3:l.length≤12:=(Sp.lK.1 D.ok).2.2.1
 have hh:=ai1 D.ok
 refine ⟨p0,?_⟩
 rintro ⟨⟨x1,⟨⟩⟩,⟨b1,i1,g1,⟨⟩⟩,⟨⟩⟩ ⟨p1,_⟩
 refine af (fun _=>⟨⟨p1,by simp⟩,?_⟩) fun _=>af (fun _=>⟨p1,?_⟩) fun _=>af (fun _=>⟨p1,?_⟩) fun _=>af (fun _=>?_) fun _=>⟨p1,D.small,hh⟩
 · rintro ⟨⟨x3,⟨⟩⟩,⟨b3,i3,g3,⟨⟩⟩,⟨⟩⟩ ⟨p3,_⟩
   exact ⟨p3,⟨z0,z1,z2⟩,hh⟩
 · rintro ⟨⟨⟨d,o,s,lk,al,⟨⟩⟩,⟨⟩⟩,⟨b2,i2,g2,⟨⟩⟩,⟨⟩⟩ ⟨p2,ha⟩
   have hf:Sp.bW (d,o,s,lk,al,()):=(show al.length≤1000 from Nat.le_trans ha (by decide))
   refine ⟨(show l.length+1≤big by rw [bU];omega),p2,⟨z0,?_,fun f hf'=>?_⟩,fun f hf'=>?_⟩
   · show (l++[_]).length≤1000
     rw [List.length_append,List.length_cons,List.length_nil];omega
   · rcases List.mem_append.1 hf' with h'|h'
     · exact z2 f h'
     · have:f=(d,o,s,lk,al,()):=by simpa using h'
       rw [this];exact hf
   · rcases List.mem_append.1 hf' with h'|h'
     · exact hh f h'
     · have:f=(d,o,s,lk,al,()):=by simpa using h'
       rw [this];exact Nat.le_trans ha (by decide)
 · rintro ⟨⟨x3,⟨⟩⟩,⟨b3,i3,g3,⟨⟩⟩,⟨⟩⟩ ⟨p3,hx⟩
   exact ⟨p3,⟨Nat.le_trans (show x3.length≤6 from hx) (by decide),z1,z2⟩,hh⟩
 · refine ⟨fun y=>0≤y.2.1.2.1∧vV 2 y.2.2.1,fun y=>12-y.2.2.1.2.1.length,⟨p1,D⟩,?_⟩
   rintro ⟨⟨⟩,⟨b2,i2,g2,⟨⟩⟩,⟨a,l,nx,⟨⟩⟩,⟨⟩⟩ ⟨p2,D⟩
   have D:vV 2 (a,l,nx,()):=D
   refine af (fun hc=>⟨p2,?_⟩) fun _=>⟨p2,D.small,ai1 D.ok⟩
   have hc:(l.length:Int)<12:=gG hc
   rintro ⟨⟨⟨d,o,s,lk,al,⟨⟩⟩,⟨⟩⟩,⟨b3,i3,g3,⟨⟩⟩,⟨⟩⟩ ⟨p3,_,ho1,ho2,hl1,hl2,hok,ha⟩
   have hf:Sp.bW (d,o,s,lk,al,()):=(show al.length≤1000 from Nat.le_trans ha (by decide))
   refine ⟨⟨D.small,hf⟩,?_⟩
   rintro ⟨⟨⟨a3,l3,nx3,⟨⟩⟩,id3,ok3,⟨⟩⟩,⟨⟩⟩ ⟨e1,e2,e3,_⟩
   have e:((a3,l3,nx3,()):Sp.bZ)=(Sp.dD (a,l,nx,()) (d,o,s,lk,al,())).1:=Oh e1 e2 e3
   have hg:=D.grows (f:=(d,o,s,lk,al,())) (show l.length<12 by omega) ⟨ho1,ho2⟩ ⟨hl1,hl2⟩ hok
   have e2:l3=(Sp.dD (a,l,nx,()) (d,o,s,lk,al,())).1.2.1:=e2
   refine ⟨rfl,⟨p3,?_⟩,?_⟩
   · show vV 2 (a3,l3,nx3,())
     rw [e];exact D.create hf
   · show 12-l3.length<12-l.length
     have hg:(Sp.dD (a,l,nx,()) (d,o,s,lk,al,())).1.2.1.length=l.length+1:=hg
     rw [e2,hg];omega
theorem ai2:ai prog G vK.e:=by
 refine ai3 (aj ah ⟨jK,trivial⟩) (fun _ _=>⟨(([],()),(([],0,0,()),())),⟨by decide,by decide⟩⟩) ?_
 intro b i h hin hp
 dsimp only [vK] at hp ⊢
 exact ⟨⟨hp,by simp⟩,fun r0 hr0=>⟨hr0.1,(show ∀ y∈_,List.length y.1≤10 from by decide) _ hr0.2⟩⟩
theorem WZ:ai prog G wH.e:=by
 refine anZ (aj ah ⟨sF,trivial⟩) (fun _ _=>⟨((0,()),(([],0,0,()),())),Int.le_refl 0⟩) ?_
 intro b i h hin hp
 dsimp only [wH] at hp ⊢
 exact ⟨⟨hp,by simp⟩,fun r0 hr0=>hr0.1⟩
theorem alM:ai prog G xY.e:=by
 refine alN (aj ah ⟨AB,trivial⟩) (fun _ _=>⟨(([],()),(([],0,0,()),())),⟨by decide,by decide⟩⟩) ?_
 intro b i h hin hp
 dsimp only [xY] at hp ⊢
 refine ⟨fun y=>∃ n:Nat,y.1.2.1=n∧1≤n∧n≤8∧0≤y.2.1.2.1∧y.2.2.1.length+1≤n,fun y=>(8-y.1.2.1).toNat,⟨1,rfl,Nat.le_refl 1,by decide,hp,Nat.le_refl 1⟩,?_⟩
 rintro ⟨⟨_,_,⟨⟩⟩,⟨b,i,h,⟨⟩⟩,l,⟨⟩⟩ ⟨n,rfl,h1,h8,hi,hl⟩
 dsimp only at hi hl ⊢
 have w:IntKind.i64.wrap ((n:Int)+1)=((n+1:Nat):Int):=gu _ (by omega)
 rw [w]
 refine af (fun hc=>⟨hi,?_⟩) fun hc=>⟨hi,by show l.length≤7;omega⟩
 have hc:=gG hc
 rintro ⟨⟨x,⟨⟩⟩,⟨b1,i1,g1,⟨⟩⟩,⟨⟩⟩ q1
 have q1:0≤i1:=q1
 dsimp only
 refine af (fun _=>⟨by rw [bU];simp only [List.length_cons,List.length_nil];omega,rfl,⟨n+1,rfl,by omega,by omega,q1,by simp;omega⟩,by omega⟩) fun _=>⟨rfl,⟨n+1,rfl,by omega,by omega,q1,by omega⟩,by omega⟩
theorem any_some:∃ c,Sp.uF c:=⟨([],[],0,[],[],()),⟨⟨by decide,by decide,fun f hf=>by cases hf⟩,DK,MZ⟩,fun f hf=>(by cases hf),by decide⟩
theorem apM {c:Sp.jB} (h:Sp.LX c):Sp.uF c∧(Sp.zQ c).length=(Sp.jW c).length:=by
 obtain ⟨h1,h2,h3,h4⟩:=h
 obtain ⟨k1,k2,k3⟩:=KN h4
 exact ⟨⟨h1,atH k2,Nat.le_trans (uy k1).2 (by decide)⟩,k3.order.1⟩
theorem alO:ai prog G xZ.e:=by
 refine alP (aj ah ⟨alK,alH,alM,dY,aiQ,trivial⟩) (fun _ _=>by obtain ⟨c,h⟩:=any_some;exact ⟨(((c.1,c.2.1,c.2.2.1,c.2.2.2.1,c.2.2.2.2.1,()),()),(([],0,0,()),())),⟨Int.le_refl 0,h⟩⟩) ?_
 intro b i h hin hp
 dsimp only [xZ] at hp ⊢
 refine ⟨hp,?_⟩
 rintro ⟨⟨⟨a,l,nx,d,r,⟨⟩⟩,⟨⟩⟩,⟨b0,i0,g0,⟨⟩⟩,⟨⟩⟩ ⟨p0,hl,hd⟩
 have hl:Sp.LX (a,l,nx,d,r,()):=hl
 have hd:0<d.length:=hd
 obtain ⟨⟨⟨s1,s2,s3⟩,s4,s5⟩,er⟩:=apM hl
 have s3:Sp.bH r:=s3
 have er:r.length=d.length:=er
 refine ⟨p0,fun r1 hr1=>af (fun _=>⟨hr1.1,fun r2 hr2=>⟨⟨Int.le_refl _,by show (0:Int)<(r.length:Int);omega⟩,(show 0<r.length by omega),hr2.1,?_⟩⟩) fun _=>af (fun _=>⟨hr1.1,fun r3 hr3=>?_⟩) fun _=>af (fun _=>⟨hr1.1,fun r4 hr4=>?_⟩) fun _=>⟨hr1.1,⟨s1,s2,s3⟩,s4,s5⟩⟩
 · refine ⟨⟨s1,s2,by show (r.set 0 _).length≤1000;rw [List.length_set];exact s3.1,fun x hx=>?_⟩,s4,s5⟩
   rcases List.mem_or_eq_of_mem_set hx with hx|rfl
   · exact s3.2 x hx
   · exact Nat.le_trans hr2.2 (by decide)
 · exact ⟨hr3.1,⟨s1,hr3.2.2,s3⟩,s4,hr3.2.1⟩
 · exact ⟨hr4.1,⟨hr4.2.1,s2,s3⟩,hr4.2.2,s5⟩
end Go.Proofs.Tryz
