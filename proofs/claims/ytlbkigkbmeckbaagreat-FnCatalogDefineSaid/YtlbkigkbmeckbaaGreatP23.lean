import Derived.Test.YtlbkigkbmeckbaaGreatP22
import Derived.Test.YtlbkigkbmeckbaaGreatV9
import Derived.Test.YtlbkigkbmeckbaaGreatSp
namespace Go.Proofs.Tryz
open Go Go.Fw Go.IntWalk
theorem afY {a:List Sp.fV} {l:List Sp.aZ} {nx:Int} (h:Sp.aJ (a,l,nx,())=true):∀ f∈l,f.2.2.2.2.1.length≤500:=aio (c:=(a,l,nx,[],[],())) h
theorem aoM {c c':Sp.ny} {s:Sp.dG} {d:List Sp.aH} {nm:Sp.Bytes→Bool} {df:List Sp.FX} {ok:Bool} (h:Sp.turned c s d nm c' df ok) (hz:(Sp.ax d&&Sp.aJ s)=true)
 (he:∀ R E,Sp.fH s.2.1 d (Sp.CQ c) nm R→Sp.fH s.2.1 d [] (fun _=>true) E→R=E):Sp.became c s d true c' df ok:=by
 obtain ⟨u1,u2,_⟩:=h
 have hok:=u1.trans hz
 obtain ⟨k1,k2,k3,k4⟩:=u2 hok
 rw [Bool.and_eq_true] at hz
 obtain ⟨aC,hl⟩:=RV hz.1
 obtain ⟨E,hE⟩:=Sp.SB [] (fun _=>true) (nV hz.1).1 hl (Sp.xE hz.2)
 have e:=he _ _ k3 hE
 refine ⟨hok,fun _=>⟨k1,k2,?_,k4⟩,fun hno=>by rw [hok] at hno;cases hno⟩
 obtain ⟨a,l,nx,d',r,_⟩:=c'
 have k1':((a,l,nx,()):Sp.dG)=s:=k1
 have k2:d'=d:=k2
 have e:r=E:=e
 subst k1' k2 e
 rw [Qb (out:=r) (by rw [hz.1,hz.2];rfl) hE,decide_eq_true rfl]
theorem aoN {c c1 c2:Sp.ny} {s:Sp.dG} {d:List Sp.aH} {b ok1 ok2:Bool} {df1 df2:List Sp.FX} (h1:Sp.became c s d b c1 df1 ok1) (h2:Sp.became c s d b c2 df2 ok2):c1=c2∧df1=df2∧ok1=ok2:=by
 obtain ⟨a1,a2,a3⟩:=h1
 obtain ⟨b1,b2,b3⟩:=h2
 cases hb:b with
 |true=>
  obtain ⟨x1,x2,x3,x4⟩:=a2 (a1.trans hb)
  obtain ⟨y1,y2,y3,y4⟩:=b2 (b1.trans hb)
  have e:=aqF x3 y3 (x1.trans y1.symm) (x2.trans y2.symm)
  exact ⟨e,by rw [x4,y4,e],a1.trans b1.symm⟩
 |false=>
  obtain ⟨x1,x2⟩:=a3 (a1.trans hb)
  obtain ⟨y1,y2⟩:=b3 (b1.trans hb)
  exact ⟨x1.trans y1.symm,x2.trans y2.symm,a1.trans b1.symm⟩
theorem afZ (c:Sp.ny) (s:Sp.dG) (d:List Sp.aH) (b:Bool) (hb:b=true→(Sp.ax d&&Sp.aJ s)=true):∃ c' df,Sp.became c s d b c' df b:=by
 cases h:b with
 |false=>exact ⟨c,[],rfl,fun h=>(by cases h),fun _=>⟨rfl,rfl⟩⟩
 |true=>
  have hz:=hb h
  have hz':=hz
  rw [Bool.and_eq_true] at hz'
  obtain ⟨aC,hl⟩:=RV hz'.1
  obtain ⟨E,hE⟩:=Sp.SB [] (fun _=>true) (nV hz'.1).1 hl (Sp.xE hz'.2)
  obtain ⟨a,l,nx,_⟩:=s
  exact ⟨(a,l,nx,d,E,()),Sp.He (Sp.CQ c) E,rfl,fun _=>⟨rfl,rfl,by rw [Qb (out:=E) hz hE,decide_eq_true rfl],rfl⟩,fun h=>(by cases h)⟩
theorem Qh:ai prog G rQ.e:=by
 refine aip (ak ah ⟨Ii,FP,ah5,aib,yU,dV,Eo,trivial⟩) (fun _ _=>⟨((([],[],0,()),()),(([],0,0,()),())),⟨by decide,⟨by decide,by decide,fun f hf=>by cases hf⟩,fun f hf=>by cases hf⟩⟩) ?_
 intro b i h hin hp
 dsimp only [rQ] at hp ⊢
 have hp:0≤i:=hp
 refine ⟨hp,?_⟩
 rintro ⟨⟨⟨a,l,nx,⟨⟩⟩,⟨⟩⟩,⟨b0,i0,g0,⟨⟩⟩,⟨⟩⟩ ⟨p0,d1,d2,d3,d4,_⟩
 have D:uD 2 (a,l,nx,()):=⟨d1,d2,d3,d4⟩
 obtain ⟨z0,z1,z2⟩:a.length≤1000∧l.length≤1000∧∀ f∈l,Sp.pU f:=d4
 have z3:l.length≤12:=(Sp.qK.1 D.ok).2.2.1
 have hh:=afY D.ok
 refine ⟨p0,?_⟩
 rintro ⟨⟨x1,⟨⟩⟩,⟨b1,i1,g1,⟨⟩⟩,⟨⟩⟩ ⟨p1,_⟩
 refine af (fun _=>⟨⟨p1,by simp⟩,?_⟩) fun _=>af (fun _=>⟨p1,?_⟩) fun _=>af (fun _=>⟨p1,?_⟩) fun _=>af (fun _=>?_) fun _=>⟨p1,D.small,hh⟩
 · rintro ⟨⟨x3,⟨⟩⟩,⟨b3,i3,g3,⟨⟩⟩,⟨⟩⟩ ⟨p3,_⟩
   exact ⟨p3,⟨z0,z1,z2⟩,hh⟩
 · rintro ⟨⟨⟨d,o,s,lk,al,⟨⟩⟩,⟨⟩⟩,⟨b2,i2,g2,⟨⟩⟩,⟨⟩⟩ ⟨p2,ha⟩
   have hf:Sp.pU (d,o,s,lk,al,()):=(show al.length≤1000 from Nat.le_trans ha (by decide))
   refine ⟨(show l.length+1≤big by rw [bV];omega),p2,⟨z0,?_,fun f hf'=>?_⟩,fun f hf'=>?_⟩
   · show (l++[_]).length≤1000
     rw [List.length_append,List.length_cons,List.length_nil];omega
   · rcases List.mem_append.1 hf' with h'|h'
     · exact z2 f h'
     · have:f=(d,o,s,lk,al,()):=by simpa using h'
       rw [this];exact hf
   · rcases List.mem_append.1 hf' with h'|h'
     · exact hh f h'
     · have:f=(d,o,s,lk,al,()):=by simpa using h'
       rw [this];exact Nat.le_trans ha (by decide)
 · rintro ⟨⟨x3,⟨⟩⟩,⟨b3,i3,g3,⟨⟩⟩,⟨⟩⟩ ⟨p3,hx⟩
   exact ⟨p3,⟨Nat.le_trans (show x3.length≤6 from hx) (by decide),z1,z2⟩,hh⟩
 · refine ⟨fun y=>0≤y.2.1.2.1∧uD 2 y.2.2.1,fun y=>12-y.2.2.1.2.1.length,⟨p1,D⟩,?_⟩
   rintro ⟨⟨⟩,⟨b2,i2,g2,⟨⟩⟩,⟨a,l,nx,⟨⟩⟩,⟨⟩⟩ ⟨p2,D⟩
   have D:uD 2 (a,l,nx,()):=D
   refine af (fun hc=>⟨p2,?_⟩) fun _=>⟨p2,D.small,afY D.ok⟩
   have hc:(l.length:Int)<12:=fD hc
   rintro ⟨⟨⟨d,o,s,lk,al,⟨⟩⟩,⟨⟩⟩,⟨b3,i3,g3,⟨⟩⟩,⟨⟩⟩ ⟨p3,_,ho1,ho2,hl1,hl2,hok,ha⟩
   have hf:Sp.pU (d,o,s,lk,al,()):=(show al.length≤1000 from Nat.le_trans ha (by decide))
   refine ⟨⟨D.small,hf⟩,?_⟩
   rintro ⟨⟨⟨a3,l3,nx3,⟨⟩⟩,id3,ok3,⟨⟩⟩,⟨⟩⟩ ⟨e1,e2,e3,_⟩
   have e:((a3,l3,nx3,()):Sp.dG)=(Sp.bZ (a,l,nx,()) (d,o,s,lk,al,())).1:=ac0 e1 e2 e3
   have hg:=D.grows (f:=(d,o,s,lk,al,())) (show l.length<12 by omega) ⟨ho1,ho2⟩ ⟨hl1,hl2⟩ hok
   have e2:l3=(Sp.bZ (a,l,nx,()) (d,o,s,lk,al,())).1.2.1:=e2
   refine ⟨rfl,⟨p3,?_⟩,?_⟩
   · show uD 2 (a3,l3,nx3,())
     rw [e];exact D.create hf
   · show 12-l3.length<12-l.length
     have hg:(Sp.bZ (a,l,nx,()) (d,o,s,lk,al,())).1.2.1.length=l.length+1:=hg
     rw [e2,hg];omega
theorem af0:ai prog G tZ.e:=by
 refine af2 (ak ah ⟨jg,trivial⟩) (fun _ _=>⟨(([],()),(([],0,0,()),())),⟨by decide,by decide⟩⟩) ?_
 intro b i h hin hp
 dsimp only [tZ] at hp ⊢
 exact ⟨⟨hp,by simp⟩,fun r0 hr0=>⟨hr0.1,(show ∀ y∈_,List.length y.1≤10 from by decide) _ hr0.2⟩⟩
theorem aiq:ai prog G wo.e:=by
 refine air (ak ah ⟨ru,trivial⟩) (fun _ _=>⟨(([],()),(([],0,0,()),())),⟨by decide,by decide⟩⟩) ?_
 intro b i h hin hp
 dsimp only [wo] at hp ⊢
 refine ⟨fun y=>∃ n:Nat,y.1.2.1=n∧1≤n∧n≤8∧0≤y.2.1.2.1∧y.2.2.1.length+1≤n,fun y=>(8-y.1.2.1).toNat,⟨1,rfl,Nat.le_refl 1,by decide,hp,Nat.le_refl 1⟩,?_⟩
 rintro ⟨⟨_,_,⟨⟩⟩,⟨b,i,h,⟨⟩⟩,l,⟨⟩⟩ ⟨n,rfl,h1,h8,hi,hl⟩
 dsimp only at hi hl ⊢
 have w:IntKind.i64.wrap ((n:Int)+1)=((n+1:Nat):Int):=fC _ (by omega)
 rw [w]
 refine af (fun hc=>⟨hi,?_⟩) fun hc=>⟨hi,by show l.length≤7;omega⟩
 have hc:=fD hc
 rintro ⟨⟨x,⟨⟩⟩,⟨b1,i1,g1,⟨⟩⟩,⟨⟩⟩ q1
 have q1:0≤i1:=q1
 dsimp only
 refine af (fun _=>⟨by rw [bV];simp only [List.length_cons,List.length_nil];omega,rfl,⟨n+1,rfl,by omega,by omega,q1,by simp;omega⟩,by omega⟩) fun _=>⟨rfl,⟨n+1,rfl,by omega,by omega,q1,by omega⟩,by omega⟩
theorem af4:ai prog G uf.e:=by
 refine af5 (ak ah ⟨NM,Qg,Qh,ru,Eo,trivial⟩) (fun _ _=>⟨((([],[],0,()),[],()),(([],0,0,()),())),⟨by decide,⟨by decide,by decide,fun f hf=>by cases hf⟩,wV⟩⟩) ?_
 intro b i h hin hp
 dsimp only [uf] at hp ⊢
 refine ⟨hp,fun r0 hr0=>⟨hr0.1,fun r1 hr1=>?_⟩⟩
 have q1:0≤r1.2.1.2.1:=hr1
 refine af (fun _=>⟨q1,fun r2 hr2=>⟨hr2.1,fun r3 hr3=>?_⟩⟩) fun _=>⟨q1,fun r6 P6=>?_⟩
 · have q3:0≤r3.2.1.2.1:=hr3
   exact af (fun _=>⟨q3,fun r4 hr4=>⟨hr4.1,hr2.2.1,hr4.2.2⟩⟩) fun _=>⟨q3,fun r5 Ur=>⟨Ur.1,hr2.2.1,Ur.2.2.1⟩⟩
 · have q6:0≤r6.2.1.2.1:=P6
   exact af (fun _=>⟨q6,fun r7 Uo=>⟨Uo.1,hr0.2.2.2.2.1,Uo.2.2⟩⟩) fun _=>⟨q6,fun r8 hr8=>⟨hr8.1,hr0.2.2.2.2.1,hr8.2.2.1⟩⟩
theorem any_some:∃ c,Sp.zJ c:=⟨([],[],0,[],[],()),⟨⟨by decide,by decide,fun f hf=>by cases hf⟩,wV,JJ⟩,fun f hf=>(by cases hf),by decide⟩
theorem aqG {c:Sp.ny} (h:Sp.Y8 c):Sp.zJ c∧(Sp.CQ c).length=(Sp.fM c).length:=by
 obtain ⟨h1,h2,h3,h4⟩:=h
 obtain ⟨k1,k2,k3⟩:=LU h4
 exact ⟨⟨h1,aio k2,Nat.le_trans (nV k1).2 (by decide)⟩,k3.order.1⟩
theorem Qi:ai prog G rX.e:=by
 refine ais (ak ah ⟨Qh,Qg,aiq,dV,afO,trivial⟩) (fun _ _=>by obtain ⟨c,h⟩:=any_some;exact ⟨(((c.1,c.2.1,c.2.2.1,c.2.2.2.1,c.2.2.2.2.1,()),()),(([],0,0,()),())),⟨Int.le_refl 0,h⟩⟩) ?_
 intro b i h hin hp
 dsimp only [rX] at hp ⊢
 refine ⟨hp,?_⟩
 rintro ⟨⟨⟨a,l,nx,d,r,⟨⟩⟩,⟨⟩⟩,⟨b0,i0,g0,⟨⟩⟩,⟨⟩⟩ ⟨p0,hl,hd⟩
 have hl:Sp.Y8 (a,l,nx,d,r,()):=hl
 have hd:0<d.length:=hd
 obtain ⟨⟨⟨s1,s2,s3⟩,s4,s5⟩,er⟩:=aqG hl
 have s3:Sp.bg r:=s3
 have er:r.length=d.length:=er
 refine ⟨p0,fun r1 hr1=>af (fun _=>⟨hr1.1,fun r2 hr2=>⟨⟨Int.le_refl _,by show (0:Int)<(r.length:Int);omega⟩,(show 0<r.length by omega),hr2.1,?_⟩⟩) fun _=>af (fun _=>⟨hr1.1,fun r3 hr3=>?_⟩) fun _=>af (fun _=>⟨hr1.1,fun r4 hr4=>?_⟩) fun _=>⟨hr1.1,⟨s1,s2,s3⟩,s4,s5⟩⟩
 · refine ⟨⟨s1,s2,by show (r.set 0 _).length≤1000;rw [List.length_set];exact s3.1,fun x hx=>?_⟩,s4,s5⟩
   rcases List.mem_or_eq_of_mem_set hx with hx|rfl
   · exact s3.2 x hx
   · exact Nat.le_trans hr2.2 (by decide)
 · exact ⟨hr3.1,⟨s1,hr3.2.2,s3⟩,s4,hr3.2.1⟩
 · exact ⟨hr4.1,⟨hr4.2.1,s2,s3⟩,hr4.2.2,s5⟩
theorem OC:ai prog G jw.e:=by
 refine OD (ak ah ⟨af4,GR,trivial⟩) (fun _ _=>⟨((([],[],0,()),[],()),()),⟨⟨by decide,by decide,fun f hf=>by cases hf⟩,wV⟩⟩) ?_
 intro code hin hp
 dsimp only [jw] at hp ⊢
 exact ⟨hp,fun r0 hr0=>⟨by rw [hr0];exact Int.le_refl _,fun r1 hr1=>hr1.2⟩⟩
theorem Qj:ai prog G jS.e:=by
 refine Qk (ak ah ⟨Gv,jg,Qe,af0,ru,Qi,GR,trivial⟩) (fun _ _=>by obtain ⟨c,h⟩:=any_some;exact ⟨((((c.1,c.2.1,c.2.2.1,c.2.2.2.1,c.2.2.2.2.1,()),([],[],()),()),())),⟨h,Nat.zero_le _⟩⟩) ?_
 intro code hin hp
 dsimp only [jS] at hp ⊢
 refine ⟨hp,fun r0 hr0=>⟨by rw [hr0];exact Int.le_refl _,fun r1 hr1=>⟨hr1.1,fun r2 hr2=>?_⟩⟩⟩
 have q2:0≤r2.2.1.2.1:=hr2
 exact af (fun _=>⟨q2,fun r3 hr3=>⟨hr3.1,fun r4 hr4=>⟨hr1.2,Nat.le_trans hr4.2 (by decide)⟩⟩⟩) fun _=>⟨⟨q2,by simp⟩,fun r5 Ur=>⟨Ur.1,fun r6 P6=>⟨hr1.2,Nat.le_trans P6.2.2 (by decide)⟩⟩⟩
theorem JL:ai prog G iT.e:=by
 refine JM (ak ah ⟨NR,ru,Qi,GR,trivial⟩) (fun _ _=>by obtain ⟨c,h⟩:=any_some;exact ⟨((((c.1,c.2.1,c.2.2.1,c.2.2.2.1,c.2.2.2.2.1,()),(c.1,c.2.1,c.2.2.1,c.2.2.2.1,c.2.2.2.2.1,()),()),())),⟨h,h⟩⟩) ?_
 intro code hin hp
 dsimp only [iT] at hp ⊢
 refine ⟨hp,fun r0 hr0=>⟨by rw [hr0];exact Int.le_refl _,fun r1 hr1=>⟨hr1.1,fun r2 hr2=>?_⟩⟩⟩
 have q2:0≤r2.2.1.2.1:=hr2
 exact af (fun _=>⟨hr1.2.1,fun r3 hr3=>⟨hr1.2,by have e:r3.1.1=r1.1.1:=hr3;show Sp.zJ r3.1.1;rw [e];exact hr1.2⟩⟩) fun _=>⟨q2,fun r4 hr4=>⟨hr1.2,hr4.2⟩⟩
end Go.Proofs.Tryz
