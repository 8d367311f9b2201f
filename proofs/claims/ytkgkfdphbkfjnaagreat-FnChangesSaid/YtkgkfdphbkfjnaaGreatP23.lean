import Derived.Test.YtkgkfdphbkfjnaaGreatP22
import Derived.Test.YtkgkfdphbkfjnaaGreatV9
import Derived.Test.YtkgkfdphbkfjnaaGreatSp
namespace Go.Proofs.Tryz
open Go Go.Fw Go.IntWalk Sp
theorem ajF {c:gm} (hok:ax (aT c)=true):aou c:=fun f hf=>by
 obtain ⟨i,hi,rfl⟩:=List.getElem_of_mem hf
 have at_:Sp.fileAt c.2.1 i=c.2.1[i]:=by unfold Sp.fileAt;rw [List.getD_eq_getElem?_getD,List.getElem?_eq_getElem hi];rfl
 have:=(aeR (alc hok hi)).2
 rw [at_] at this
 exact Nat.le_trans this (by decide)
theorem aeV {a:List gW} {l:List aN} {nx:Int} (h:ax (a,l,nx,())=true):∀ f∈l,f.2.2.2.2.1.length≤400:=ajF (c:=(a,l,nx,[],[],())) h
theorem UI {c c':gm} {s:bT} {d:List aC} {nm:Sp.Bytes→Bool} {df:List qF} {ok:Bool} (h:Sp.turned c s d nm c' df ok) (hz:(ai d&&ax s)=true)
 (he:∀ R E,fM s.2.1 d (uV c) nm R→fM s.2.1 d [] (fun _=>true) E→R=E):Sp.became c s d true c' df ok:=by
 obtain ⟨u1,u2,_⟩:=h
 have hok:=u1.trans hz
 obtain ⟨k1,k2,k3,k4⟩:=u2 hok
 rw [Bool.and_eq_true] at hz
 obtain ⟨aI,hl⟩:=Om hz.1
 obtain ⟨E,hE⟩:=MX [] (fun _=>true) (ji hz.1).1 hl (rW hz.2)
 have e:=he _ _ k3 hE
 refine ⟨hok,fun _=>⟨k1,k2,?_,k4⟩,fun hno=>by rw [hok] at hno;cases hno⟩
 obtain ⟨a,l,nx,d',r,_⟩:=c'
 have k1':((a,l,nx,()):bT)=s:=k1
 have k2:d'=d:=k2
 have e:r=E:=e
 subst k1' k2 e
 rw [Sj (out:=r) (by rw [hz.1,hz.2];rfl) hE,decide_eq_true rfl]
theorem amj {c c1 c2:gm} {s:bT} {d:List aC} {b ok1 ok2:Bool} {df1 df2:List qF} (h1:Sp.became c s d b c1 df1 ok1) (h2:Sp.became c s d b c2 df2 ok2):c1=c2∧df1=df2∧ok1=ok2:=by
 obtain ⟨a1,a2,a3⟩:=h1
 obtain ⟨b1,b2,b3⟩:=h2
 cases hb:b with
 |true=>
  obtain ⟨x1,x2,x3,x4⟩:=a2 (a1.trans hb)
  obtain ⟨y1,y2,y3,y4⟩:=b2 (b1.trans hb)
  have e:=aot x3 y3 (x1.trans y1.symm) (x2.trans y2.symm)
  exact ⟨e,by rw [x4,y4,e],a1.trans b1.symm⟩
 |false=>
  obtain ⟨x1,x2⟩:=a3 (a1.trans hb)
  obtain ⟨y1,y2⟩:=b3 (b1.trans hb)
  exact ⟨x1.trans y1.symm,x2.trans y2.symm,a1.trans b1.symm⟩
theorem zB (c:gm) (s:bT) (d:List aC) (b:Bool) (hb:b=true→(ai d&&ax s)=true):∃ c' df,Sp.became c s d b c' df b:=by
 cases h:b with
 |false=>exact ⟨c,[],rfl,fun h=>(by cases h),fun _=>⟨rfl,rfl⟩⟩
 |true=>
  have hz:=hb h
  have hz':=hz
  rw [Bool.and_eq_true] at hz'
  obtain ⟨aI,hl⟩:=Om hz'.1
  obtain ⟨E,hE⟩:=MX [] (fun _=>true) (ji hz'.1).1 hl (rW hz'.2)
  obtain ⟨a,l,nx,_⟩:=s
  exact ⟨(a,l,nx,d,E,()),Fb (uV c) E,rfl,fun _=>⟨rfl,rfl,by rw [Sj (out:=E) hz hE,decide_eq_true rfl],rfl⟩,fun h=>(by cases h)⟩
theorem aeW {c c':gm} {f:aN} {df:List qF} {ok:Bool} (h:Sp.updated c f c' df ok):Sp.became c (aV (aT c) f).1 (bJ c) (dF c&&(aV (aT c) f).2) c' df ok:=by
 have u:=h
 obtain ⟨u1,u2,u3⟩:=h
 refine ⟨u1,fun hok=>?_,u3⟩
 have hz:=u1.symm.trans hok
 rw [Bool.and_eq_true] at hz
 obtain ⟨k1,k2,_,k4⟩:=u2 hok
 rcases jl (aT c) f with ⟨e,_⟩|⟨n,hn,h1,h2,h3,e⟩
 · rw [e] at hz;cases hz.2
 · have hid:(Sp.fileAt c.2.1 n).1=f.1:=by
    rcases lZ c.2.1 f.1 with ⟨g,_⟩|⟨k,hk,g1,g2,_⟩
    · have h1:Sp.place c.2.1 f.1=n:=h1
      omega
    · have h1:Sp.place c.2.1 f.1=n:=h1
      have:k=n:=by omega
      subst this;exact g2
   exact ⟨k1,k2,(aop hz.1 hn hid h3 u).2.2.2.2,k4⟩
theorem agC:OK GN.e:=by
 refine XA.ok mixed (au [qG.e,rM.e,GK.e,GL.e,jk.e,dR.e,uh.e] ⟨EL,En,af2,agd,lT,dY,Hw,trivial⟩) ah3 (fun _ _=>⟨((([],[],0,()),()),(([],0,0,()),())),⟨by decide,⟨by decide,by decide,fun f hf=>by cases hf⟩,fun f hf=>by cases hf⟩⟩) (by kernel_rfl) (show ∀ c0 c1 c2,GN.goal (agD c0 c1 c2) ((c0,c1,c2,()),()) from ?_)
 intro b i h hin hp
 dsimp only [GN] at hp ⊢
 have hp:0≤i:=hp
 refine ⟨hp,?_⟩
 rintro ⟨⟨⟨a,l,nx,⟨⟩⟩,⟨⟩⟩,⟨b0,i0,g0,⟨⟩⟩,⟨⟩⟩ ⟨p0,d1,d2,d3,d4,_⟩
 have D:sH 2 (a,l,nx,()):=⟨d1,d2,d3,d4⟩
 obtain ⟨z0,z1,z2⟩:a.length≤1000∧l.length≤1000∧∀ f∈l,cu f:=d4
 have z3:l.length≤12:=(kz.1 D.ok).2.2.1
 have hh:=aeV D.ok
 refine ⟨p0,?_⟩
 rintro ⟨⟨x1,⟨⟩⟩,⟨b1,i1,g1,⟨⟩⟩,⟨⟩⟩ ⟨p1,_⟩
 refine af (fun _=>⟨⟨p1,by simp⟩,?_⟩) fun _=>af (fun _=>⟨p1,?_⟩) fun _=>af (fun _=>⟨p1,?_⟩) fun _=>af (fun _=>?_) fun _=>⟨p1,D.small,hh⟩
 · rintro ⟨⟨x3,⟨⟩⟩,⟨b3,i3,g3,⟨⟩⟩,⟨⟩⟩ ⟨p3,_⟩
   exact ⟨p3,⟨z0,z1,z2⟩,hh⟩
 · rintro ⟨⟨⟨d,o,s,lk,al,⟨⟩⟩,⟨⟩⟩,⟨b2,i2,g2,⟨⟩⟩,⟨⟩⟩ ⟨p2,ha⟩
   have hf:cu (d,o,s,lk,al,()):=(show al.length≤1000 from Nat.le_trans ha (by decide))
   refine ⟨(show l.length+1≤big by rw [bW];omega),p2,⟨z0,?_,fun f hf'=>?_⟩,fun f hf'=>?_⟩
   · show (l++[_]).length≤1000
     rw [List.length_append,List.length_cons,List.length_nil];omega
   · rcases List.mem_append.1 hf' with h'|h'
     · exact z2 f h'
     · have:f=(d,o,s,lk,al,()):=by simpa using h'
       rw [this];exact hf
   · rcases List.mem_append.1 hf' with h'|h'
     · exact hh f h'
     · have:f=(d,o,s,lk,al,()):=by simpa using h'
       rw [this];exact Nat.le_trans ha (by decide)
 · rintro ⟨⟨x3,⟨⟩⟩,⟨b3,i3,g3,⟨⟩⟩,⟨⟩⟩ ⟨p3,hx⟩
   exact ⟨p3,⟨Nat.le_trans (show x3.length≤6 from hx) (by decide),z1,z2⟩,hh⟩
 · refine ⟨fun y=>0≤y.2.1.2.1∧sH 2 y.2.2.1,fun y=>12-y.2.2.1.2.1.length,⟨p1,D⟩,?_⟩
   rintro ⟨⟨⟩,⟨b2,i2,g2,⟨⟩⟩,⟨a,l,nx,⟨⟩⟩,⟨⟩⟩ ⟨p2,D⟩
   have D:sH 2 (a,l,nx,()):=D
   refine af (fun hc=>⟨p2,?_⟩) fun _=>⟨p2,D.small,aeV D.ok⟩
   have hc:(l.length:Int)<12:=fJ hc
   rintro ⟨⟨⟨d,o,s,lk,al,⟨⟩⟩,⟨⟩⟩,⟨b3,i3,g3,⟨⟩⟩,⟨⟩⟩ ⟨p3,_,ho1,ho2,hl1,hl2,hok,ha⟩
   have hf:cu (d,o,s,lk,al,()):=(show al.length≤1000 from Nat.le_trans ha (by decide))
   refine ⟨⟨D.small,hf⟩,?_⟩
   rintro ⟨⟨⟨a3,l3,nx3,⟨⟩⟩,id3,ok3,⟨⟩⟩,⟨⟩⟩ ⟨e1,e2,e3,_⟩
   have e:((a3,l3,nx3,()):bT)=(aH (a,l,nx,()) (d,o,s,lk,al,())).1:=C9 e1 e2 e3
   have hg:=D.grows (f:=(d,o,s,lk,al,())) (show l.length<12 by omega) ⟨ho1,ho2⟩ ⟨hl1,hl2⟩ hok
   have e2:l3=(aH (a,l,nx,()) (d,o,s,lk,al,())).1.2.1:=e2
   refine ⟨rfl,⟨p3,?_⟩,?_⟩
   · show sH 2 (a3,l3,nx3,())
     rw [e];exact D.create hf
   · show 12-l3.length<12-l.length
     have hg:(aH (a,l,nx,()) (d,o,s,lk,al,())).1.2.1.length=l.length+1:=hg
     rw [e2,hg];omega
theorem aeX:OK Fg.e:=by
 refine XA.ok mixed (au [iE.e] ⟨jy,trivial⟩) H0 (fun _ _=>⟨(([],()),(([],0,0,()),())),⟨by decide,by decide⟩⟩) (by kernel_rfl) (show ∀ c0 c1 c2,Fg.goal (aeY c0 c1 c2) ((c0,c1,c2,()),()) from ?_)
 intro b i h hin hp
 dsimp only [Fg] at hp ⊢
 exact ⟨⟨hp,by simp⟩,fun r0 hr0=>⟨hr0.1,(show ∀ y∈_,List.length y.1≤10 from by decide) _ hr0.2⟩⟩
theorem ah4:OK IE.e:=by
 refine XA.ok mixed (au [jk.e] ⟨lT,trivial⟩) H0 (fun _ _=>⟨((0,()),(([],0,0,()),())),Int.le_refl 0⟩) (by kernel_rfl) (show ∀ c0 c1 c2,IE.goal (ah5 c0 c1 c2) ((c0,c1,c2,()),()) from ?_)
 intro b i h hin hp
 dsimp only [IE] at hp ⊢
 exact ⟨⟨hp,by simp⟩,fun r0 hr0=>hr0.1⟩
theorem agE:OK GX.e:=by
 refine XA.ok mixed (au [kQ.e] ⟨uJ,trivial⟩) ah6 (fun _ _=>⟨(([],()),(([],0,0,()),())),⟨by decide,by decide⟩⟩) (by kernel_rfl) (show ∀ c0 c1 c2,GX.goal (agF c0 c1 c2) ((c0,c1,c2,()),()) from ?_)
 intro b i h hin hp
 dsimp only [GX] at hp ⊢
 refine ⟨fun y=>∃ n:Nat,y.1.2.1=n∧1≤n∧n≤8∧0≤y.2.1.2.1∧y.2.2.1.length+1≤n,fun y=>(8-y.1.2.1).toNat,⟨1,rfl,Nat.le_refl 1,by decide,hp,Nat.le_refl 1⟩,?_⟩
 rintro ⟨⟨_,_,⟨⟩⟩,⟨b,i,h,⟨⟩⟩,l,⟨⟩⟩ ⟨n,rfl,h1,h8,hi,hl⟩
 dsimp only at hi hl ⊢
 have w:IntKind.i64.wrap ((n:Int)+1)=((n+1:Nat):Int):=fF _ (by omega)
 rw [w]
 refine af (fun hc=>⟨hi,?_⟩) fun hc=>⟨hi,by show l.length≤7;omega⟩
 have hc:=fJ hc
 rintro ⟨⟨x,⟨⟩⟩,⟨b1,i1,g1,⟨⟩⟩,⟨⟩⟩ q1
 have q1:0≤i1:=q1
 dsimp only
 refine af (fun _=>⟨by rw [bW];simp only [List.length_cons,List.length_nil];omega,rfl,⟨n+1,rfl,by omega,by omega,q1,by simp;omega⟩,by dsimp only;omega⟩) fun _=>⟨rfl,⟨n+1,rfl,by omega,by omega,q1,by dsimp only;omega⟩,by dsimp only;omega⟩
theorem any_some:∃ c,jM c:=⟨([],[],0,[],[],()),⟨⟨by decide,by decide,fun f hf=>by cases hf⟩,Dc,MZ⟩,fun f hf=>(by cases hf),by decide⟩
theorem ajG {c:gm} (h:Pn c):jM c∧(uV c).length=(bJ c).length:=by
 obtain ⟨h1,h2,h3,h4⟩:=h
 obtain ⟨k1,k2,k3⟩:=kG h4
 exact ⟨⟨h1,ajF k2,Nat.le_trans (ji k1).2 (by decide)⟩,k3.order.1⟩
theorem agG:OK GY.e:=by
 refine XA.ok mixed (au [GN.e,GU.e,GX.e,dR.e,Fe.e] ⟨agC,agy,agE,dY,aeL,trivial⟩) ah7 (fun _ _=>by obtain ⟨c,h⟩:=any_some;exact ⟨(((c.1,c.2.1,c.2.2.1,c.2.2.2.1,c.2.2.2.2.1,()),()),(([],0,0,()),())),⟨Int.le_refl 0,h⟩⟩) (by kernel_rfl) (show ∀ c0 c1 c2,GY.goal (agH c0 c1 c2) ((c0,c1,c2,()),()) from ?_)
 intro b i h hin hp
 dsimp only [GY] at hp ⊢
 refine ⟨hp,?_⟩
 rintro ⟨⟨⟨a,l,nx,d,r,⟨⟩⟩,⟨⟩⟩,⟨b0,i0,g0,⟨⟩⟩,⟨⟩⟩ ⟨p0,hl,hd⟩
 have hl:Pn (a,l,nx,d,r,()):=hl
 have hd:0<d.length:=hd
 obtain ⟨⟨⟨s1,s2,s3⟩,s4,s5⟩,er⟩:=ajG hl
 have s3:bH r:=s3
 have er:r.length=d.length:=er
 refine ⟨p0,fun r1 hr1=>af (fun _=>⟨hr1.1,fun r2 hr2=>⟨⟨Int.le_refl _,by show (0:Int)<(r.length:Int);omega⟩,(show 0<r.length by omega),hr2.1,?_⟩⟩) fun _=>af (fun _=>⟨hr1.1,fun r3 hr3=>?_⟩) fun _=>af (fun _=>⟨hr1.1,fun r4 hr4=>?_⟩) fun _=>⟨hr1.1,⟨s1,s2,s3⟩,s4,s5⟩⟩
 · refine ⟨⟨s1,s2,by show (r.set 0 _).length≤1000;rw [List.length_set];exact s3.1,fun x hx=>?_⟩,s4,s5⟩
   rcases List.mem_or_eq_of_mem_set hx with hx|rfl
   · exact s3.2 x hx
   · exact Nat.le_trans hr2.2 (by decide)
 · exact ⟨hr3.1,⟨s1,hr3.2.2,s3⟩,s4,hr3.2.1⟩
 · exact ⟨hr4.1,⟨hr4.2.1,s2,s3⟩,hr4.2.2,s5⟩
end Go.Proofs.Tryz
