import Derived.Test.YtlbkigkbmeckbaaGreatP22
import Derived.Test.YtlbkigkbmeckbaaGreatV9
import Derived.Test.YtlbkigkbmeckbaaGreatSp
namespace Go.Proofs.Tryz
open Go Go.Fw Go.IntWalk
theorem arH {c:Sp.jv} (hok:Sp.aB (Sp.bJ c)=true):Sp.asB c:=fun f hf=>by
 obtain ⟨i,hi,rfl⟩:=List.getElem_of_mem hf
 have at_:Sp.fileAt c.2.1 i=c.2.1[i]:=by unfold Sp.fileAt;rw [List.getD_eq_getElem?_getD,List.getElem?_eq_getElem hi];rfl
 have:=(ahI (aps hok hi)).2
 rw [at_] at this
 exact Nat.le_trans this (by decide)
theorem ahN {a:List Sp.gK} {l:List Sp.aN} {nx:Int} (h:Sp.aB (a,l,nx,())=true):∀ f∈l,f.2.2.2.2.1.length≤400:=arH (c:=(a,l,nx,[],[],())) h
theorem aqr {c c':Sp.jv} {s:Sp.bV} {d:List Sp.aQ} {nm:Sp.Bytes→Bool} {df:List Sp.tK} {ok:Bool} (h:Sp.turned c s d nm c' df ok) (hz:(Sp.aF d&&Sp.aB s)=true)
 (he:∀ R E,Sp.gQ s.2.1 d (Sp.jH c) nm R→Sp.gQ s.2.1 d [] (fun _=>true) E→R=E):Sp.became c s d true c' df ok:=by
 obtain ⟨u1,u2,_⟩:=h
 have hok:=u1.trans hz
 obtain ⟨k1,k2,k3,k4⟩:=u2 hok
 rw [Bool.and_eq_true] at hz
 obtain ⟨aG,hl⟩:=MW hz.1
 obtain ⟨E,hE⟩:=Sp.Lc [] (fun _=>true) (kN hz.1).1 hl (Sp.vz hz.2)
 have e:=he _ _ k3 hE
 refine ⟨hok,fun _=>⟨k1,k2,?_,k4⟩,fun hno=>by rw [hok] at hno;cases hno⟩
 obtain ⟨a,l,nx,d',r,_⟩:=c'
 have k1':((a,l,nx,()):Sp.bV)=s:=k1
 have k2:d'=d:=k2
 have e:r=E:=e
 subst k1' k2 e
 rw [RJ (out:=r) (by rw [hz.1,hz.2];rfl) hE,decide_eq_true rfl]
theorem Uz {c c1 c2:Sp.jv} {s:Sp.bV} {d:List Sp.aQ} {b ok1 ok2:Bool} {df1 df2:List Sp.tK} (h1:Sp.became c s d b c1 df1 ok1) (h2:Sp.became c s d b c2 df2 ok2):c1=c2∧df1=df2∧ok1=ok2:=by
 obtain ⟨a1,a2,a3⟩:=h1
 obtain ⟨b1,b2,b3⟩:=h2
 cases hb:b with
 |true=>
  obtain ⟨x1,x2,x3,x4⟩:=a2 (a1.trans hb)
  obtain ⟨y1,y2,y3,y4⟩:=b2 (b1.trans hb)
  have e:=asA x3 y3 (x1.trans y1.symm) (x2.trans y2.symm)
  exact ⟨e,by rw [x4,y4,e],a1.trans b1.symm⟩
 |false=>
  obtain ⟨x1,x2⟩:=a3 (a1.trans hb)
  obtain ⟨y1,y2⟩:=b3 (b1.trans hb)
  exact ⟨x1.trans y1.symm,x2.trans y2.symm,a1.trans b1.symm⟩
theorem Lh (c:Sp.jv) (s:Sp.bV) (d:List Sp.aQ) (b:Bool) (hb:b=true→(Sp.aF d&&Sp.aB s)=true):∃ c' df,Sp.became c s d b c' df b:=by
 cases h:b with
 |false=>exact ⟨c,[],rfl,fun h=>(by cases h),fun _=>⟨rfl,rfl⟩⟩
 |true=>
  have hz:=hb h
  have hz':=hz
  rw [Bool.and_eq_true] at hz'
  obtain ⟨aG,hl⟩:=MW hz'.1
  obtain ⟨E,hE⟩:=Sp.Lc [] (fun _=>true) (kN hz'.1).1 hl (Sp.vz hz'.2)
  obtain ⟨a,l,nx,_⟩:=s
  exact ⟨(a,l,nx,d,E,()),Sp.wQ (Sp.jH c) E,rfl,fun _=>⟨rfl,rfl,by rw [RJ (out:=E) hz hE,decide_eq_true rfl],rfl⟩,fun h=>(by cases h)⟩
theorem amf {c c':Sp.jv} {s:Sp.bV} {b:Bool} {df:List Sp.tK} (hc:b=true→Sp.dS c=true) (h:Sp.became c s (Sp.fF c) b c' df true):Sp.wS (Sp.jH c)∧Sp.wU df∧Sp.iE (Sp.jH c) df=Sp.jH c':=by
 obtain ⟨h1,h2,_⟩:=h
 obtain ⟨k1,k2,k3,k4⟩:=h2 rfl
 have hcur:=hc h1.symm
 obtain ⟨o1,s1,r1,i1⟩:=apr hcur
 obtain ⟨o2,s2,r2,i2⟩:=apr k3
 have hlen:=kN (wF hcur).1
 rw [k2] at o2 s2
 refine ⟨r1,?_,?_⟩
 · rw [k4];exact aoI (by rw [o2.1];exact hlen.2) i2
 · rw [k4];exact Sp.aoK hlen.1 o1 o2 s1 s2
theorem ahO {c c':Sp.jv} {f:Sp.aN} {df:List Sp.tK} {ok:Bool} (h:Sp.updated c f c' df ok):Sp.became c (Sp.aU (Sp.bJ c) f).1 (Sp.fF c) (Sp.dS c&&(Sp.aU (Sp.bJ c) f).2) c' df ok:=by
 have u:=h
 obtain ⟨u1,u2,u3⟩:=h
 refine ⟨u1,fun hok=>?_,u3⟩
 have hz:=u1.symm.trans hok
 rw [Bool.and_eq_true] at hz
 obtain ⟨k1,k2,_,k4⟩:=u2 hok
 rcases Sp.jU (Sp.bJ c) f with ⟨e,_⟩|⟨n,hn,h1,h2,h3,e⟩
 · rw [e] at hz;cases hz.2
 · have hid:(Sp.fileAt c.2.1 n).1=f.1:=by
    rcases Sp.sG c.2.1 f.1 with ⟨g,_⟩|⟨k,hk,g1,g2,_⟩
    · have h1:Sp.place c.2.1 f.1=n:=h1
      omega
    · have h1:Sp.place c.2.1 f.1=n:=h1
      have:k=n:=by omega
      subst this;exact g2
   exact ⟨k1,k2,(asw hz.1 hn hid h3 u).2.2.2.2,k4⟩
theorem akf:ai prog G xq.e:=by
 refine akg (aj ah ⟨Ee,DU,ajU,IG,wu,eF,MS,trivial⟩) (fun _ _=>⟨((([],[],0,()),()),(([],0,0,()),())),⟨by decide,⟨by decide,by decide,fun f hf=>by cases hf⟩,fun f hf=>by cases hf⟩⟩) ?_
 intro b i h hin hp
 dsimp only [xq] at hp ⊢
 have hp:0≤i:=hp
 refine ⟨hp,?_⟩
 rintro ⟨⟨⟨a,l,nx,⟨⟩⟩,⟨⟩⟩,⟨b0,i0,g0,⟨⟩⟩,⟨⟩⟩ ⟨p0,d1,d2,d3,d4,_⟩
 have D:vH 2 (a,l,nx,()):=⟨d1,d2,d3,d4⟩
 obtain ⟨z0,z1,z2⟩:a.length≤1000∧l.length≤1000∧∀ f∈l,Sp.bU f:=d4
 have z3:l.length≤12:=(Sp.jL.1 D.ok).2.2.1
 have hh:=ahN D.ok
 refine ⟨p0,?_⟩
 rintro ⟨⟨x1,⟨⟩⟩,⟨b1,i1,g1,⟨⟩⟩,⟨⟩⟩ ⟨p1,_⟩
 refine af (fun _=>⟨⟨p1,by simp⟩,?_⟩) fun _=>af (fun _=>⟨p1,?_⟩) fun _=>af (fun _=>⟨p1,?_⟩) fun _=>af (fun _=>?_) fun _=>⟨p1,D.small,hh⟩
 · rintro ⟨⟨x3,⟨⟩⟩,⟨b3,i3,g3,⟨⟩⟩,⟨⟩⟩ ⟨p3,_⟩
   exact ⟨p3,⟨z0,z1,z2⟩,hh⟩
 · rintro ⟨⟨⟨d,o,s,lk,al,⟨⟩⟩,⟨⟩⟩,⟨b2,i2,g2,⟨⟩⟩,⟨⟩⟩ ⟨p2,ha⟩
   have hf:Sp.bU (d,o,s,lk,al,()):=(show al.length≤1000 from Nat.le_trans ha (by decide))
   refine ⟨(show l.length+1≤big by rw [bT];omega),p2,⟨z0,?_,fun f hf'=>?_⟩,fun f hf'=>?_⟩
   · show (l++[_]).length≤1000
     rw [List.length_append,List.length_cons,List.length_nil];omega
   · rcases List.mem_append.1 hf' with h'|h'
     · exact z2 f h'
     · have:f=(d,o,s,lk,al,()):=by simpa using h'
       rw [this];exact hf
   · rcases List.mem_append.1 hf' with h'|h'
     · exact hh f h'
     · have:f=(d,o,s,lk,al,()):=by simpa using h'
       rw [this];exact Nat.le_trans ha (by decide)
 · rintro ⟨⟨x3,⟨⟩⟩,⟨b3,i3,g3,⟨⟩⟩,⟨⟩⟩ ⟨p3,hx⟩
   exact ⟨p3,⟨Nat.le_trans (show x3.length≤6 from hx) (by decide),z1,z2⟩,hh⟩
 · refine ⟨fun y=>0≤y.2.1.2.1∧vH 2 y.2.2.1,fun y=>12-y.2.2.1.2.1.length,⟨p1,D⟩,?_⟩
   rintro ⟨⟨⟩,⟨b2,i2,g2,⟨⟩⟩,⟨a,l,nx,⟨⟩⟩,⟨⟩⟩ ⟨p2,D⟩
   have D:vH 2 (a,l,nx,()):=D
   refine af (fun hc=>⟨p2,?_⟩) fun _=>⟨p2,D.small,ahN D.ok⟩
   have hc:(l.length:Int)<12:=gm hc
   rintro ⟨⟨⟨d,o,s,lk,al,⟨⟩⟩,⟨⟩⟩,⟨b3,i3,g3,⟨⟩⟩,⟨⟩⟩ ⟨p3,_,ho1,ho2,hl1,hl2,hok,ha⟩
   have hf:Sp.bU (d,o,s,lk,al,()):=(show al.length≤1000 from Nat.le_trans ha (by decide))
   refine ⟨⟨D.small,hf⟩,?_⟩
   rintro ⟨⟨⟨a3,l3,nx3,⟨⟩⟩,id3,ok3,⟨⟩⟩,⟨⟩⟩ ⟨e1,e2,e3,_⟩
   have e:((a3,l3,nx3,()):Sp.bV)=(Sp.aH (a,l,nx,()) (d,o,s,lk,al,())).1:=Cj e1 e2 e3
   have hg:=D.grows (f:=(d,o,s,lk,al,())) (show l.length<12 by omega) ⟨ho1,ho2⟩ ⟨hl1,hl2⟩ hok
   have e2:l3=(Sp.aH (a,l,nx,()) (d,o,s,lk,al,())).1.2.1:=e2
   refine ⟨rfl,⟨p3,?_⟩,?_⟩
   · show vH 2 (a3,l3,nx3,())
     rw [e];exact D.create hf
   · show 12-l3.length<12-l.length
     have hg:(Sp.aH (a,l,nx,()) (d,o,s,lk,al,())).1.2.1.length=l.length+1:=hg
     rw [e2,hg];omega
theorem amg:ai prog G zi.e:=by
 refine amh (aj ah ⟨wu,trivial⟩) (fun _ _=>⟨((0,()),(([],0,0,()),())),Int.le_refl 0⟩) ?_
 intro b i h hin hp
 dsimp only [zi] at hp ⊢
 exact ⟨⟨hp,by simp⟩,fun r0 hr0=>hr0.1⟩
theorem akh:ai prog G xG.e:=by
 refine aki (aj ah ⟨zZ,trivial⟩) (fun _ _=>⟨(([],()),(([],0,0,()),())),⟨by decide,by decide⟩⟩) ?_
 intro b i h hin hp
 dsimp only [xG] at hp ⊢
 refine ⟨fun y=>∃ n:Nat,y.1.2.1=n∧1≤n∧n≤8∧0≤y.2.1.2.1∧y.2.2.1.length+1≤n,fun y=>(8-y.1.2.1).toNat,⟨1,rfl,Nat.le_refl 1,by decide,hp,Nat.le_refl 1⟩,?_⟩
 rintro ⟨⟨_,_,⟨⟩⟩,⟨b,i,h,⟨⟩⟩,l,⟨⟩⟩ ⟨n,rfl,h1,h8,hi,hl⟩
 dsimp only at hi hl ⊢
 have w:IntKind.i64.wrap ((n:Int)+1)=((n+1:Nat):Int):=fO _ (by omega)
 rw [w]
 refine af (fun hc=>⟨hi,?_⟩) fun hc=>⟨hi,by show l.length≤7;omega⟩
 have hc:=gm hc
 rintro ⟨⟨x,⟨⟩⟩,⟨b1,i1,g1,⟨⟩⟩,⟨⟩⟩ q1
 have q1:0≤i1:=q1
 dsimp only
 refine af (fun _=>⟨by rw [bT];simp only [List.length_cons,List.length_nil];omega,rfl,⟨n+1,rfl,by omega,by omega,q1,by simp;omega⟩,by omega⟩) fun _=>⟨rfl,⟨n+1,rfl,by omega,by omega,q1,by omega⟩,by omega⟩
theorem any_some:∃ c,Sp.yh c:=⟨([],[],0,[],[],()),⟨⟨by decide,by decide,fun f hf=>by cases hf⟩,Cm,Ld⟩,fun f hf=>(by cases hf),by decide⟩
theorem asC {c:Sp.jv} (h:Sp.aaN c):Sp.yh c∧(Sp.jH c).length=(Sp.fF c).length:=by
 obtain ⟨h1,h2,h3,h4⟩:=h
 obtain ⟨k1,k2,k3⟩:=wF h4
 exact ⟨⟨h1,arH k2,Nat.le_trans (kN k1).2 (by decide)⟩,k3.order.1⟩
theorem IZ:ai prog G qA.e:=by
 refine akj (aj ah ⟨akf,akd,akh,eF,ahA,trivial⟩) (fun _ _=>by obtain ⟨c,h⟩:=any_some;exact ⟨(((c.1,c.2.1,c.2.2.1,c.2.2.2.1,c.2.2.2.2.1,()),()),(([],0,0,()),())),⟨Int.le_refl 0,h⟩⟩) ?_
 intro b i h hin hp
 dsimp only [qA] at hp ⊢
 refine ⟨hp,?_⟩
 rintro ⟨⟨⟨a,l,nx,d,r,⟨⟩⟩,⟨⟩⟩,⟨b0,i0,g0,⟨⟩⟩,⟨⟩⟩ ⟨p0,hl,hd⟩
 have hl:Sp.aaN (a,l,nx,d,r,()):=hl
 have hd:0<d.length:=hd
 obtain ⟨⟨⟨s1,s2,s3⟩,s4,s5⟩,er⟩:=asC hl
 have s3:Sp.bF r:=s3
 have er:r.length=d.length:=er
 refine ⟨p0,fun r1 hr1=>af (fun _=>⟨hr1.1,fun r2 hr2=>⟨⟨Int.le_refl _,by show (0:Int)<(r.length:Int);omega⟩,(show 0<r.length by omega),hr2.1,?_⟩⟩) fun _=>af (fun _=>⟨hr1.1,fun r3 hr3=>?_⟩) fun _=>af (fun _=>⟨hr1.1,fun r4 hr4=>?_⟩) fun _=>⟨hr1.1,⟨s1,s2,s3⟩,s4,s5⟩⟩
 · refine ⟨⟨s1,s2,by show (r.set 0 _).length≤1000;rw [List.length_set];exact s3.1,fun x hx=>?_⟩,s4,s5⟩
   rcases List.mem_or_eq_of_mem_set hx with hx|rfl
   · exact s3.2 x hx
   · exact Nat.le_trans hr2.2 (by decide)
 · exact ⟨hr3.1,⟨s1,hr3.2.2,s3⟩,s4,hr3.2.1⟩
 · exact ⟨hr4.1,⟨hr4.2.1,s2,s3⟩,hr4.2.2,s5⟩
theorem P9:ai prog G kz.e:=by
 refine Qa (aj ah ⟨IG,DU,eF,zZ,IZ,IC,trivial⟩) (fun _ _=>by obtain ⟨c,h⟩:=any_some;exact ⟨((((c.1,c.2.1,c.2.2.1,c.2.2.2.1,c.2.2.2.2.1,()),(0,0,false,0,[],()),()),())),⟨h,Nat.zero_le _⟩⟩) ?_
 intro code hin hp
 dsimp only [kz] at hp ⊢
 refine ⟨hp,fun r0 hr0=>⟨by rw [hr0];exact Int.le_refl _,fun r1 hr1=>?_⟩⟩
 refine af (fun hc=>⟨hr1.1,fun r2 hr2=>?_⟩) fun _=>⟨hr1.1,fun r6 Vz=>⟨hr1.2,Vz.2⟩⟩
 have q2:0≤r2.2.1.2.1:=hr2
 have hc:(0:Int)<(r1.1.1.2.1.length:Int):=gm hc
 exact af (fun _=>⟨q2,fun r3 hr3=>⟨⟨hr3.2.1,hr3.2.2.1 hc⟩,hr3.1,fun r4 hr4=>⟨hr1.2,Nat.le_trans hr4.2.2.2.2.2.2.2 (by decide)⟩⟩⟩) fun _=>⟨q2,fun r5 hr5=>⟨hr1.2,hr5.2⟩⟩
theorem WL:ai prog G nH.e:=by
 refine WM (aj ah ⟨IG,IZ,IC,trivial⟩) (fun _ _=>by obtain ⟨c,h⟩:=any_some;exact ⟨((((c.1,c.2.1,c.2.2.1,c.2.2.2.1,c.2.2.2.2.1,()),(0,0,false,0,[],()),()),())),⟨h,Nat.zero_le _⟩⟩) ?_
 intro code hin hp
 dsimp only [nH] at hp ⊢
 exact ⟨hp,fun r0 hr0=>⟨by rw [hr0];exact Int.le_refl _,fun r1 hr1=>⟨hr1.1,fun r2 hr2=>⟨hr1.2,hr2.2⟩⟩⟩⟩
theorem Qb:ai prog G kC.e:=by
 refine Qc (aj ah ⟨amg,IZ,IC,trivial⟩) (fun _ _=>by obtain ⟨c,h⟩:=any_some;exact ⟨((((c.1,c.2.1,c.2.2.1,c.2.2.2.1,c.2.2.2.2.1,()),0,()),())),h⟩) ?_
 intro code hin hp
 dsimp only [kC] at hp ⊢
 exact ⟨hp,fun r0 hr0=>⟨by rw [hr0];exact Int.le_refl _,fun r1 hr1=>⟨hr1.1,fun r2 hr2=>hr1.2⟩⟩⟩
end Go.Proofs.Tryz
