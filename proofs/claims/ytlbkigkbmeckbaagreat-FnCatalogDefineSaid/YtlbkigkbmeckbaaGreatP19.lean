import Derived.Test.YtlbkigkbmeckbaaGreatP18
import Derived.Test.YtlbkigkbmeckbaaGreatV8
namespace Go.Proofs.Tryz
open Go Go.Fw Go.IntWalk
theorem Dz:ai prog G o7.e:=by
 refine aar (ak ah ⟨D6,trivial⟩) ?_
 intro x b hin hp
 dsimp only [o7] at hp ⊢
 exact ⟨trivial,rfl⟩
theorem Bh:ai prog G gB.e:=by
 refine Bj (ak ah ⟨Dz,trivial⟩) ?_
 intro l b hin hp
 dsimp only [gB] at hp ⊢
 exact amf (K:=fun r=>r=(Sp.findAt (fun x:Int×Unit=>Sp.eH b x.1) l,())) (fun x:Int×Unit=>Sp.eH b x.1) (0,()) l _ hin.1.1 rfl
theorem AQ:ai prog G dP.e:=by
 refine AU (ak ah ⟨Bh,Dz,trivial⟩) (fun ⟨s,((b,_),_),_⟩ _=>⟨((s.filter (fun x=>!Sp.eH b x.1),()),()),rfl⟩) ?_
 intro s b hin hp
 dsimp only [dP] at hp ⊢
 exact ⟨trivial,arH (K:=fun r=>r.1.1=s.filter fun x=>!Sp.eH b x.1) (fun x:Int×Unit=>Sp.eH b x.1) (0,()) s _ (by have hp:s.length≤1000:=hp;omega) rfl⟩
theorem afH:ai prog G tK.e:=by
 refine afI (ak ah ⟨AQ,Dz,LK,trivial⟩) (fun ⟨a,b,_⟩ _=>⟨((Sp.without a b,()),()),rfl⟩) ?_
 intro a b hin hp
 dsimp only [tK] at hp ⊢
 have hp:a.length≤1000:=hp
 refine ⟨hp,?_⟩
 rintro ⟨⟨r0,⟨⟩⟩,⟨⟩⟩ e
 have e:r0=a:=e
 subst e
 exact ⟨hp,fun r h=>h⟩
theorem afJ:ai prog G tN.e:=by
 refine afK (ak ah ⟨afH,trivial⟩) (fun ⟨a,b,_⟩ _=>⟨((Sp.without b a,Sp.without a b,()),()),⟨rfl,rfl⟩⟩) ?_
 intro a b hin hp
 dsimp only [tN] at hp ⊢
 exact ⟨hp.2,fun r0 h0=>⟨hp.1,fun r1 h1=>⟨h0,h1⟩⟩⟩
theorem abE (a b:List (Int×Unit)):(Sp.without a b).length≤a.length:=List.length_filter_le _ _
theorem SH {r:List Sp.dn} (h:Sp.bg r) (s:Sp.Bytes):(Sp.eU r s).length≤1000:=by
 have:∀ l:List Sp.dn,(∀ x∈l,x.2.1.length≤1000)→(Sp.eU l s).length≤1000:=by
  intro l
  induction l with
  |nil=>exact fun _=>Nat.zero_le _
  |cons x t ih=>
   intro hl
   rw [Sp.eU]
   cases x.1==s with
   |true=>exact hl x List.mem_cons_self
   |false=>exact ih fun y hy=>hl y (List.mem_cons_of_mem _ hy)
 exact this r h.2
theorem afL (a b:List Sp.dn) {n:Nat} (h:n<b.length):((b.take (n+1)).map (Sp.vG a)).filter Sp.yY=((b.take n).map (Sp.vG a)).filter Sp.yY++(bif Sp.yY (Sp.vG a (b.getD n oQ)) then [Sp.vG a (b.getD n oQ)] else []):=by
 rw [Sp.take_succ' b n oQ h,List.map_append,List.filter_append,List.map_singleton,List.filter_cons]
 cases Sp.yY (Sp.vG a (b.getD n oQ))<;>rfl
theorem U6:ai prog G lJ.e:=by
 refine U7 (ak ah ⟨afJ,Dw,trivial⟩) (fun ⟨a,b,_⟩ _=>⟨((Sp.He a b,()),()),rfl⟩) ?_
 intro a b hin hp
 dsimp only [lJ] at hp ⊢
 obtain ⟨ha,hb⟩:Sp.bg a∧Sp.bg b:=hp
 have hbl:=hb.1
 refine dR (fun i (x:List Sp.FX)=>(((),i,()),x,())) (fun y=>y.1.2.1) (fun _ _=>rfl) b.length (by omega) (fun n l=>l=((b.take n).map (Sp.vG a)).filter Sp.yY) rfl (fun I μ n l hn hJ next=>?_) fun I μ l hJ=>?_
 · subst hJ
   have hl:(((b.take n).map (Sp.vG a)).filter Sp.yY).length≤n:=by
    have:=List.length_filter_le Sp.yY ((b.take n).map (Sp.vG a))
    rw [List.length_map,List.length_take] at this;omega
   have step:=afL a b hn
   have l1:=SH ha (b.getD n oQ).1
   have l2:(b.getD n oQ).2.1.length≤1000:=EO hb hn
   dsimp only
   refine dB (by omega) ⟨⟨by omega,by omega⟩,ha,⟨l1,l2⟩,?_⟩
   rintro ⟨⟨x,y,⟨⟩⟩,⟨⟩⟩ ⟨e1,e2⟩
   have e1:x=Sp.without (b.getD n oQ).2.1 (Sp.eU a (b.getD n oQ).1):=e1
   have e2:y=Sp.without (Sp.eU a (b.getD n oQ).1) (b.getD n oQ).2.1:=e2
   have k1:=abE (b.getD n oQ).2.1 (Sp.eU a (b.getD n oQ).1)
   have k2:=abE (Sp.eU a (b.getD n oQ).1) (b.getD n oQ).2.1
   rw [← e1] at k1
   rw [← e2] at k2
   have w:IntKind.i64.wrap ((x.length:Int)+(y.length:Int))=((x.length+y.length:Nat):Int):=by rw [fC _ (by omega)];omega
   have hd:Sp.vG a (b.getD n oQ)=((b.getD n oQ).1,x,y,()):=by rw [e1,e2];rfl
   have hz:Sp.yY (Sp.vG a (b.getD n oQ))=decide (0<x.length+y.length):=by rw [hd];rfl
   dsimp only
   rw [w]
   refine af (fun h=>⟨by rw [bV];simp only [List.length_cons,List.length_nil];omega,rfl,next _ ?_⟩) fun h=>⟨rfl,next _ ?_⟩
   · have h:=fD h
     rw [step,hz,decide_eq_true (by omega),hd];rfl
   · have h:=fP h
     rw [step,hz,decide_eq_false (by omega)];simp
 · subst hJ
   rw [List.take_length]
   dsimp only
   exact dD (by omega) rfl
theorem U8:ai prog G lM.e:=by
 refine U9 (ak ah ⟨Gq,trivial⟩) (fun ⟨r,_⟩ _=>⟨((r,()),()),rfl⟩) ?_
 intro r hin hp
 dsimp only [lM] at hp ⊢
 have hp:Sp.bg r:=hp
 have hl:=hp.1
 refine dR (fun i (x:List Sp.dn)=>(((),i,()),x,())) (fun y=>y.1.2.1) (fun _ _=>rfl) r.length (by omega) (fun n l=>l=r.take n) (by simp) (fun I μ n l hn hJ next=>?_) fun I μ l hJ=>?_
 · subst hJ
   have hl:(r.take n).length≤n:=by rw [List.length_take];omega
   dsimp only
   refine dB (by omega) ⟨⟨by omega,by omega⟩,EO hp hn,by rw [bV];simp only [List.length_cons,List.length_nil];omega,rfl,next _ ?_⟩
   rw [Sp.take_succ' r n oQ hn];rfl
 · subst hJ
   rw [List.take_length]
   dsimp only
   exact dD (by omega) rfl
theorem Ya:ai prog G mY.e:=by
 refine Yb (ak ah trivial) (fun ⟨r,_⟩ _=>⟨((r,()),()),rfl⟩) ?_
 intro r hin hp
 dsimp only [mY] at hp ⊢
 have hp:Sp.bg r:=hp
 have hl:=hp.1
 refine dR (fun i (x:List Sp.dn)=>(((),i,()),x,())) (fun y=>y.1.2.1) (fun _ _=>rfl) r.length (by omega) (fun n l=>l=r.take n) (by simp) (fun I μ n l hn hJ next=>?_) fun I μ l hJ=>?_
 · subst hJ
   have hl:(r.take n).length≤n:=by rw [List.length_take];omega
   have h2:(r.getD n ([],[],())).2.1.length≤1000:=EO hp hn
   dsimp only
   rw [Int.toNat_natCast]
   refine dB (by omega) ⟨⟨by omega,by omega⟩,⟨by omega,by omega⟩,by rw [bV];omega,by rw [bV];simp only [List.length_cons,List.length_nil];omega,rfl,next _ ?_⟩
   rw [Sp.take_succ' r n oQ hn]
 · subst hJ
   rw [List.take_length]
   dsimp only
   exact dD (by omega) rfl
theorem Gu:ai prog G jK.e:=by
 refine Va (ak ah ⟨U8,Ep,Dv,trivial⟩) (fun ⟨(a,l,nx,d,r,_),_⟩ _=>⟨(((a,l,nx,d,r,()),()),()),rfl⟩) ?_
 intro a l nx d r hin hp
 dsimp only [jK] at hp ⊢
 obtain ⟨h1,h2,h3⟩:Sp.bQ (a,l,nx,())∧Sp.aB d∧Sp.bg r:=hp
 refine ⟨h1,?_⟩
 rintro ⟨⟨⟨a',l',nx',⟨⟩⟩,⟨⟩⟩,⟨⟩⟩ e
 have e:((a',l',nx',()):Sp.dG)=(a,l,nx,()):=e
 refine ⟨h2,h3,?_⟩
 rintro ⟨⟨r',⟨⟩⟩,⟨⟩⟩ e2
 have e2:r'=r:=e2
 simp only [Prod.mk.injEq] at e
 obtain ⟨rfl,rfl,rfl,_⟩:=e
 subst e2
 rfl
theorem NR:ai prog G qp.e:=by
 refine afM (ak ah ⟨Ya,FW,BR,trivial⟩) (fun ⟨(a,l,nx,d,r,_),_⟩ _=>⟨(((a,l,nx,d,r,()),()),()),rfl⟩) ?_
 intro a l nx d r hin hp
 dsimp only [qp] at hp ⊢
 obtain ⟨h1,h2,h3⟩:Sp.bQ (a,l,nx,())∧Sp.aB d∧Sp.bg r:=hp
 refine ⟨h1,?_⟩
 rintro ⟨⟨⟨a',l',nx',⟨⟩⟩,⟨⟩⟩,⟨⟩⟩ e
 have e:((a',l',nx',()):Sp.dG)=(a,l,nx,()):=e
 refine ⟨h2,h3,?_⟩
 rintro ⟨⟨r',⟨⟩⟩,⟨⟩⟩ e2
 have e2:r'=r:=e2
 simp only [Prod.mk.injEq] at e
 obtain ⟨rfl,rfl,rfl,_⟩:=e
 subst e2
 rfl
theorem Hu {fs:List Sp.aZ} {d:List Sp.aH} {r out:List Sp.dn} {nm:Sp.Bytes→Bool} (h:Sp.fH fs d r nm out) (hd:d.length≤1000) (hf:fs.length≤1000) (hr:Sp.bg r):Sp.bg out:=by
 refine ⟨by rw [h.order.1];exact hd,fun x hx=>?_⟩
 obtain ⟨i,hi,rfl⟩:=List.getElem_of_mem hx
 have hi':i<d.length:=by rw [← h.order.1];exact hi
 have e:(out[i]).2.1=Sp.iw out i:=by
  unfold Sp.iw Sp.uH
  rw [List.getD_eq_getElem?_getD,List.getElem?_eq_getElem hi];rfl
 rw [e]
 cases hn:nm (Sp.nameOf d i) with
 |true=>
  rw [h.fix i hi' hn]
  unfold Sp.sel
  rw [List.length_map]
  exact Nat.le_trans (List.length_filter_le _ _) hf
 |false=>rw [h.kept i hi' hn];exact SH hr _
theorem afN (c:Sp.ny) (s:Sp.dG) (d:List Sp.aH) (nm:Sp.Bytes→Bool):∃ c' df,Sp.turned c s d nm c' df (Sp.ax d&&Sp.aJ s):=by
 obtain ⟨a,fs,nx,_⟩:=s
 obtain ⟨out,h⟩:=AP (fs:=fs) (a:=a) (nx:=nx) (d:=d) (Sp.CQ c) nm
 cases hk:(Sp.ax d&&Sp.aJ (a,fs,nx,())) with
 |true=>exact ⟨(a,fs,nx,d,out,()),Sp.He (Sp.CQ c) out,hk.symm,fun _=>⟨rfl,rfl,h hk,rfl⟩,fun h=>(by cases h)⟩
 |false=>exact ⟨c,[],hk.symm,fun h=>(by cases h),fun _=>⟨rfl,rfl⟩⟩
theorem aas:ai prog G o8.e:=by
 refine aat (ak ah ⟨U6,Ep,Dv,Gu,X0,trivial⟩) (fun ⟨c,s,d,names,_⟩ _=>by obtain ⟨c',df,h⟩:=afN c s d (Sp.eP names);exact ⟨((((c'.1,c'.2.1,c'.2.2.1,c'.2.2.2.1,c'.2.2.2.2.1,()),df,(Sp.ax d&&Sp.aJ s),()),())),h⟩) ?_
 intro a l nx d0 r0 sa sl sn d names hin hp
 dsimp only [o8] at hp ⊢
 obtain ⟨hc,hs,hd⟩:=hp
 have hr:Sp.bg r0:=hc.2.2
 refine ⟨⟨hs,hd,hr⟩,?_⟩
 rintro ⟨⟨out,ok,⟨⟩⟩,⟨⟩⟩ ⟨e1,e2⟩
 have e1:ok=(Sp.ax d&&Sp.aJ (sa,sl,sn,())):=e1
 have e2:ok=true→Sp.fH sl d r0 (Sp.eP names) out:=e2
 dsimp only
 refine af (fun h=>⟨hc,fun r1 hr1=>?_⟩) fun h=>⟨hs,?_⟩
 · have h:ok=false:=fQ h
   exact ⟨e1▸h.symm,fun h=>(by cases h),fun _=>⟨hr1,rfl⟩⟩
 · have h:ok=true:=dH h
   rintro ⟨⟨s',⟨⟩⟩,⟨⟩⟩ es
   have es:s'=(sa,sl,sn,()):=es
   subst es
   refine ⟨hd,⟨hr,Hu (e2 h) hd.1 hs.2.1 hr⟩,fun r3 hr3=>⟨e1▸h.symm,fun _=>⟨rfl,rfl,e2 h,hr3⟩,fun h=>(by cases h)⟩⟩
theorem LU {c:Sp.ny} (h:Sp.gy c=true):Sp.ax (Sp.fM c)=true∧Sp.aJ (Sp.mJ c)=true∧Sp.fH c.2.1 (Sp.fM c) [] (fun _=>true) (Sp.CQ c):=by
 have e:Sp.gy c=((Sp.ax (Sp.fM c)&&Sp.aJ (Sp.mJ c))&&@decide (Sp.fH c.2.1 (Sp.fM c) [] (fun _=>true) (Sp.CQ c)) (Classical.propDecidable _)):=rfl
 rw [e,Bool.and_eq_true,Bool.and_eq_true] at h
 exact ⟨h.1.1,h.1.2,(@decide_eq_true_iff _ (Classical.propDecidable _)).1 h.2⟩
theorem LV:ai prog G vP.e:=by
 refine adg (ak ah trivial) ?_
 intro a b hin hp
 dsimp only [vP] at hp ⊢
 exact eqL (K:=fun r=>r=(decide (a=b),())) (fun x y:Int×Unit=>x.1 !=y.1) (fun x y=>by simp [Prod.ext_iff]) _ a b _ hin.1.1 rfl
theorem Yc:ai prog G wG.e:=by
 refine Yd (ak ah ⟨LV,trivial⟩) ?_
 intro a0 a1 b0 b1 hin hp
 dsimp only [wG] at hp ⊢
 refine af (fun h0=>⟨trivial,?_⟩) fun h0=>?_
 all_goals refine congrArg (·,()) (Bool.eq_iff_iff.2 ?_)
 · simp [beq_iff_eq.1 h0]
 · simp [show a0≠b0 by simpa using h0]
theorem Vb:ai prog G uY.e:=by
 refine Vd (ak ah ⟨Yc,trivial⟩) ?_
 intro a b hin hp
 dsimp only [uY] at hp ⊢
 exact amb (K:=fun r=>r=(decide (a=b),())) (fun x y=>!decide (x=y)) (fun x y=>by simp) _ a b _ hin.1.1 rfl
theorem Ve:ai prog G uZ.e:=by
 refine Vf (ak ah ⟨Vb,adh,ZY,trivial⟩) ?_
 intro a0 a1 a2 a3 a4 b0 b1 b2 b3 b4 hin hp
 dsimp only [uZ] at hp ⊢
 refine ⟨trivial,af (fun h0=>⟨trivial,af (fun h1=>⟨trivial,?_⟩) fun h1=>?_⟩) fun h0=>?_⟩
 all_goals refine congrArg (·,()) (Bool.eq_iff_iff.2 ?_)
 · have h0:=fD h0
   have h1:=fD h1
   simp only [Prod.mk.injEq] at h0
   obtain ⟨rfl,rfl,rfl,_⟩:=h0
   subst h1
   simp
 · have h1:=fP h1
   simp [h1]
 · have h0:=fP h0
   simp only [decide_eq_true_eq,Bool.false_eq_true,false_iff,Prod.mk.injEq,and_true] at h0 ⊢
   exact fun h=>h0 ⟨h.1,h.2.1,h.2.2.1⟩
theorem anH {a:List Sp.fV} {fs:List Sp.aZ} {nx:Int} {d:List Sp.aH} {r:List Sp.dn} (h1:a=Sp.usual) (h2:Sp.aJ (a,fs,nx,())=true) (h3:Sp.bQ (a,fs,nx,())) (h4:0<fs.length) (h5:Sp.aB d) (h6:Sp.ax d=true) (h7:Sp.fH fs d [] (fun _=>true) r):Sp.Y8 (a,fs,nx,d,r,()):=by
 refine ⟨⟨h3,h5,Hu h7 h5.1 h3.2.1 JJ⟩,h1,h4,?_⟩
 rw [Qb (by rw [h6,h2];rfl) h7,decide_eq_true rfl]
theorem ap0:∃ c,Sp.Y8 c∧0<c.2.2.2.1.length:=by
 obtain ⟨out,h⟩:=AP (fs:=[(1,0,false,0,[],())]) (a:=Sp.usual) (nx:=2) (d:=[([100,97],[(1,0,0,[],0,0,[],())],())]) [] (fun _=>true)
 exact ⟨_,anH rfl Lm.1 Lm.2 (by decide) (FT wV (by simp) (by simp)) afr (h (by rw [afr,Lm.1];rfl)),Nat.zero_lt_one⟩
theorem afO:ai prog G tY.e:=by
 refine afP (ak ah ⟨Io,NM,Eo,trivial⟩) (fun _ _=>by obtain ⟨c,h⟩:=ap0;exact ⟨(((c.1,c.2.1,c.2.2.1,c.2.2.2.1,c.2.2.2.2.1,()),()),(([],0,0,()),())),⟨Int.le_refl 0,h⟩⟩) ?_
 intro b i h hin hp
 dsimp only [tY] at hp ⊢
 refine ⟨hp,fun r0 hr0=>⟨hr0.1,fun r1 hr1=>⟨⟨hr0.2.2.2.2.1,hr1.2.2.1⟩,?_⟩⟩⟩
 rintro ⟨⟨⟨a,fs,nx,d,r,⟨⟩⟩,ok,⟨⟩⟩,⟨⟩⟩ ⟨e1,e2,_⟩
 have hz:(Sp.ax r1.1.1&&Sp.aJ r0.1.1)=true:=by rw [hr1.2.2.2.1,hr0.2.2.1];rfl
 obtain ⟨k1,k2,k3⟩:=e2 (e1.trans hz)
 have k1:((a,fs,nx,()):Sp.dG)=r0.1.1:=k1
 have k2:d=r1.1.1:=k2
 refine ⟨hr1.1,?_⟩
 subst k2
 rw [← k1] at hr0 k3
 exact ⟨anH hr0.2.1 hr0.2.2.1 hr0.2.2.2.2.1 hr0.2.2.2.2.2 hr1.2.2.1 hr1.2.2.2.1 k3,hr1.2.2.2.2⟩
end Go.Proofs.Tryz
