import Derived.Test.YtkgkfdphbkfjnaaGreatP29
import Derived.Test.YtkgkfdphbkfjnaaGreatV12
import Derived.Test.YtkgkfdphbkfjnaaGreatSp
namespace Go.Proofs.Tryz
open Go Go.Fw Go.IntWalk Sp
theorem aip {d:List aC} {n:Sp.Bytes} (h:(Sp.removeDir d n).2=true):bF d=true∧Sp.removeDir d n=(lH d n,true):=by
 unfold Sp.removeDir at h ⊢
 cases hb:bF d&&decide (0≤aJ d n) with
 |false=>rw [hb] at h;cases h
 |true=>
  have:=hb
  rw [Bool.and_eq_true] at this
  exact ⟨this.1,rfl⟩
theorem UM {d:List aC} {n:Sp.Bytes} (h:aA d):aA (Sp.removeDir d n).1:=by
 unfold Sp.removeDir
 cases bF d&&decide (0≤aJ d n) with
 |false=>exact h
 |true=>exact ⟨Nat.le_trans (List.length_filter_le _ _) h.1,fun x hx=>h.2 x (J5.1 hx).1⟩
theorem abf {c c':gm} {n:Sp.Bytes} {df:List qF} {ok:Bool} {r:Sp.LS} (hcur:dF c=true) (hrm:(Sp.removeDir (bJ c) n).2=true) (hr:Sp.reached (bJ c) [(n,())] r)
 (h:Sp.turned c (aT c) (Sp.removeDir (bJ c) n).1 (dA r) c' df ok):Sp.became c (aT c) (Sp.removeDir (bJ c) n).1 true c' df ok:=by
 obtain ⟨k1,k2,k3⟩:=kG hcur
 obtain ⟨g1,g3⟩:=aip hrm
 have hn:=hr.2
 rw [show (fun s=>dA [(n,())] s=true)=fun t=>t=n from funext fun s=>propext (by rw [gB];simp)] at hn
 rw [g3] at h ⊢
 exact UI h (by rw [Eu k1 n,k2];rfl) fun R E hR hE=>anC g1 hn k3 hR hE
theorem ajK (c:gm) (u:Int) (x:jJ):
 (x.1=1∧yw c x=(aH (aT c) (kN x)).1∧EN c x=bJ c∧xQ c u x=(decide ((kN x).2.1=u)&&(aH (aT c) (kN x)).2.2))∨
 (x.1=2∧yw c x=(aV (aT c) (kN x)).1∧EN c x=bJ c∧xQ c u x=((EO c u (kN x).1&&decide ((kN x).2.1=u))&&(aV (aT c) (kN x)).2))∨
 (x.1=3∧yw c x=(aX (aT c) (QJ x)).1∧EN c x=bJ c∧xQ c u x=(EO c u (QJ x)&&(aX (aT c) (QJ x)).2))∨
 (x.1=4∧yw c x=aT c∧EN c x=(bY (bJ c) (Jk x)).1∧xQ c u x=((bY (bJ c) (Jk x)).2&&ai (bY (bJ c) (Jk x)).1))∨
 (x.1=5∧yw c x=aT c∧EN c x=(Sp.removeDir (bJ c) (Jk x).1).1∧xQ c u x=(Sp.removeDir (bJ c) (Jk x).1).2)∨
 (x.1≠1∧x.1≠2∧x.1≠3∧x.1≠4∧x.1≠5∧xQ c u x=false):=by
 unfold yw EN xQ
 by_cases h1:x.1=1
 · left;rw [h1];exact ⟨rfl,rfl,rfl,rfl⟩
 by_cases h2:x.1=2
 · right;left;rw [h2];exact ⟨rfl,rfl,rfl,rfl⟩
 by_cases h3:x.1=3
 · right;right;left;rw [h3];exact ⟨rfl,rfl,rfl,rfl⟩
 by_cases h4:x.1=4
 · right;right;right;left;rw [h4];exact ⟨rfl,rfl,rfl,rfl⟩
 by_cases h5:x.1=5
 · right;right;right;right;left;rw [h5];exact ⟨rfl,rfl,rfl,rfl⟩
 · right;right;right;right;right
   rw [beq_eq_false_iff_ne.2 h1,beq_eq_false_iff_ne.2 h2,beq_eq_false_iff_ne.2 h3,beq_eq_false_iff_ne.2 h4,beq_eq_false_iff_ne.2 h5]
   exact ⟨h1,h2,h3,h4,h5,rfl⟩
theorem aqZ {c:gm} {u:Int} {x:jJ} (h:Hg c u x=true):(ai (EN c x)&&ax (yw c x))=true:=by
 unfold Hg at h
 rw [Bool.and_eq_true,Bool.and_eq_true] at h
 obtain ⟨⟨_,hcur⟩,hm⟩:=h
 obtain ⟨k1,k2,_⟩:=kG hcur
 rcases ajK c u x with ⟨_,e1,e2,e3⟩|⟨_,e1,e2,e3⟩|⟨_,e1,e2,e3⟩|⟨_,e1,e2,e3⟩|⟨_,e1,e2,e3⟩|⟨_,_,_,_,_,e⟩
 · rw [e1,e2,k1,Bh _ k2];rfl
 · rw [e1,e2,k1,Et _ k2];rfl
 · rw [e1,e2,k1,Bj _ k2];rfl
 · rw [e3,Bool.and_eq_true] at hm
   rw [e1,e2,hm.2,k2];rfl
 · rw [e3] at hm
   rw [e1,e2,(aip hm).2,Eu k1,k2];rfl
 · rw [e] at hm;cases hm
theorem abg (c:gm) (u:Int) (x:jJ):∃ c' df,Sp.applied c u x c' df (Hg c u x):=zB c _ _ _ aqZ
theorem refused {c z:gm} {u:Int} {x:jJ} (hb:Hg c u x=false) (e:z=c):Sp.applied c u x z [] false:=stays hb e
theorem EP {c:gm} {u:Int} {x:jJ} (h:xQ c u x=false):Hg c u x=false:=by unfold Hg;rw [h,Bool.and_false]
theorem made {c z:gm} {u:Int} {x:jJ} {s:bT} {d:List aC} {b ok:Bool} {df:List qF} (hu:Gw u=true) (hc:dF c=true) (h1:yw c x=s) (h2:EN c x=d) (h3:xQ c u x=b) (h:Sp.became c s d b z df ok):Sp.applied c u x z df ok:=by
 unfold Sp.applied Hg
 rw [h1,h2,h3,hu,hc];exact h
theorem apF {c:gm} (h:dF c=true) (hd:aA (bJ c)):jM c:=by
 obtain ⟨k1,k2,_⟩:=kG h
 exact ⟨anz h hd,ajF k2,Nat.le_trans (ji k1).2 (by decide)⟩
theorem aoy {c:gm} {x:jJ} (hc:jM c) (hx:yY x):aA (EN c x):=by
 have h10:=hc.2.2
 rcases ajK c 0 x with ⟨_,_,e,_⟩|⟨_,_,e,_⟩|⟨_,_,e,_⟩|⟨_,_,e,_⟩|⟨_,_,e,_⟩|⟨n1,n2,n3,n4,n5,_⟩
 · rw [e];exact hc.1.2.1
 · rw [e];exact hc.1.2.1
 · rw [e];exact hc.1.2.1
 · rw [e];exact YE hc.1.2.1 (by omega) hx.2
 · rw [e];exact UM hc.1.2.1
 · unfold EN
   rw [beq_eq_false_iff_ne.2 n4,beq_eq_false_iff_ne.2 n5];exact hc.1.2.1
theorem aqf {c c':gm} {u:Int} {x:jJ} {df:List qF} (hc:jM c) (hx:yY x) (h:Sp.applied c u x c' df true):dF c'=true∧jM c':=by
 obtain ⟨k1,k2,k3,_⟩:=h.2.1 rfl
 exact ⟨k3,apF k3 (by rw [k2];exact aoy hc hx)⟩
theorem aoz {c c':gm} {u:Int} {x:jJ} {df:List qF} (h:Sp.applied c u x c' df true):Gw u=true∧dF c=true∧xQ c u x=true:=by
 have:=h.1.symm
 unfold Hg at this
 rw [Bool.and_eq_true,Bool.and_eq_true] at this
 exact ⟨this.1.1,this.1.2,this.2⟩
theorem seen {c z:gm} {u:Int} {x:jJ} {df:List qF} {ok:Bool} (h:Sp.applied c u x z df ok):(ok=false→Hg c u x=false)∧(ok=true→Sp.applied c u x z df true):=
 ⟨fun e=>h.1.symm.trans e,fun e=>by rw [e] at h;exact h⟩
theorem YP {c z:gm} {u:Int} {x:jJ} {df:List qF} {ok:Bool} (h:xQ c u x=false):(false=false→Hg c u x=false)∧(false=true→Sp.applied c u x z df ok):=
 ⟨fun _=>EP h,fun e=>by cases e⟩
theorem SC:OK vO.e:=by
 refine PA.ok mixed (au [iL.e] ⟨jq,trivial⟩) H0 (by kernel_rfl) (show ∀ o0 o1 o2 o3 o4 o5 o6 o7 o8,vO.goal (SE o0 o1 o2 o3 o4 o5 o6 o7 o8) ((o0,o1,o2,o3,o4,o5,o6,o7,o8,()),()) from ?_)
 intro a b c d e f g h i hin hp
 dsimp only [vO] at hp ⊢
 exact ⟨trivial,rfl⟩
theorem SG:OK vP.e:=by
 refine PA.ok mixed (au [kM.e] ⟨pI,trivial⟩) H0 (by kernel_rfl) (show ∀ x0 x1 x2 x3 x4 x5 x6 x7 x8,vP.goal (SH x0 x1 x2 x3 x4 x5 x6 x7 x8) ((x0,x1,x2,x3,x4,x5,x6,x7,x8,()),()) from ?_)
 intro a b c d e f g h i hin hp
 dsimp only [vP] at hp ⊢
 exact ⟨trivial,rfl⟩
theorem Nk:OK qp.e:=by
 refine XA.ok mixed (au [] trivial) OT (fun ⟨s,i,j,_⟩ _=>⟨((s.take i.toNat++s.drop j.toNat,()),()),rfl⟩) (by kernel_rfl) (show ∀ s i j,qp.goal (Nl s i j) (s,i,j,()) from ?_)
 intro s i j hin hp
 dsimp only [qp] at hp ⊢
 obtain ⟨h0,h1,h2⟩:0≤i∧i≤j∧j≤(s.length:Int):=hp
 obtain ⟨a,rfl⟩:∃ a:Nat,i=a:=⟨i.toNat,by omega⟩
 obtain ⟨b,rfl⟩:∃ b:Nat,j=b:=⟨j.toNat,by omega⟩
 refine ⟨⟨h0,h1,h2,Int.le_refl _⟩,af (fun h=>?_) fun h=>?_⟩
 · have h:(a:Int)=b:=by simpa using h
   have:a=b:=by omega
   subst this
   show s=s.take a++s.drop a
   rw [List.take_append_drop]
 · have h:¬ (a:Int)=b:=by simpa using h
   have hb:b≤s.length:=by omega
   have hab:a<b:=by omega
   simp only [Int.toNat_natCast,Nat.sub_zero,Nat.zero_add]
   have hn:(List.take (s.length-b) (List.drop b s)).length=s.length-b:=by rw [List.length_take,List.length_drop];omega
   have hd:List.take (s.length-b) (List.drop b s)=List.drop b s:=List.take_of_length_le (by rw [List.length_drop];omega)
   have l1:(bV s a (List.take (s.length-b) (List.drop b s))).length=s.length:=JU (by rw [hn];omega)
   have l2:(bV (bV s a (List.take (s.length-b) (List.drop b s))) (a+(s.length-b)) (List.replicate (s.length-(a+(s.length-b))) (([],[],()):aC))).length=s.length:=by
    rw [JU (by rw [l1,List.length_replicate];omega),l1]
   rw [l1,l2]
   refine ⟨by omega,⟨by omega,by omega⟩,⟨by omega,by omega⟩,⟨by omega,by omega⟩,⟨by omega,by omega,by omega⟩,by omega,⟨by omega,by omega⟩,?_⟩
   show List.take (a+(s.length-b)) (bV _ _ _)=s.take a++s.drop b
   rw [PY (Nat.le_refl _) (by rw [l1];omega),ajt (by rw [hn]) (by omega),hd]
theorem amn {d:List aC} {n:Sp.Bytes} (h:(bF d&&decide (0≤aJ d n))=false):Sp.removeDir d n=(d,false):=by unfold Sp.removeDir;rw [h];rfl
theorem ajL {d:List aC} {n:Sp.Bytes} (h:bF d=true) (h2:0≤aJ d n):Sp.removeDir d n=(lH d n,true):=by unfold Sp.removeDir;rw [h,decide_eq_true h2];rfl
theorem anD {d:List aC} {n:Sp.Bytes} (h:aJ d n<0):Sp.removeDir d n=(d,false):=amn (by rw [decide_eq_false (by omega),Bool.and_false])
theorem aaz:OK CO.e:=by
 refine XA.ok mixed (au [qp.e,oP.e,AO.e,qo.e] ⟨Nk,D9,LC,Ir,trivial⟩) acX (fun ⟨d,n,_⟩ _=>⟨(((Sp.removeDir d n).1,(Sp.removeDir d n).2,()),()),⟨rfl,rfl⟩⟩) (by kernel_rfl) (show ∀ d name,CO.goal (aaA d name) (d,name,()) from ?_)
 intro d n hin hp
 dsimp only [CO] at hp ⊢
 have hl:d.length≤1000:=hp.1
 refine ⟨hp,?_⟩
 rintro ⟨⟨o,⟨⟩⟩,⟨⟩⟩ e
 obtain rfl:o=d:=e
 refine ⟨trivial,hp,af (fun h=>?_) fun h=>af (fun h2=>?_) fun h2=>?_⟩
 · exact BD (amn (by rw [dS h];rfl)).symm
 · exact BD (anD (fJ h2)).symm
 · have h0:=fZ h2
   rcases pK o n with ⟨e,_⟩|⟨k,hk,e,en,_⟩
   · omega
   · have w:IntKind.i64.wrap ((k:Int)+1)=((k+1:Nat):Int):=fF _ (by omega)
     rw [e,w,Int.toNat_natCast,Int.toNat_natCast]
     refine ⟨⟨by omega,by omega,by dsimp only;omega⟩,fun r1 hr1=>BD ?_⟩
     rw [ajL (bU h) (by omega),← en]
     exact congrArg (·,true) (hr1.trans (Sp.drop_at (bU h) hk))
theorem aaB:OK CP.e:=by
 refine XA.ok mixed (au [rP.e,yF.e,oO.e] ⟨Ep,OU,D8,trivial⟩) acY (fun ⟨d,n,_⟩ _=>⟨(((Sp.removeDir d n).1,(Sp.removeDir d n).2,()),()),⟨rfl,rfl⟩⟩) (by kernel_rfl) (show ∀ d name,CP.goal (aaC d name) (d,name,()) from ?_)
 intro d n hin hp
 dsimp only [CP] at hp ⊢
 have hl:d.length≤1000:=hp.1
 refine ⟨fun _=>bF d=true∧0≤aJ d n,⟨hp,af (fun h=>⟨hp,BD (amn (by rw [dS h];rfl)).symm⟩) fun h=>⟨trivial,af (fun h2=>⟨hp,BD (anD (fJ h2)).symm⟩) fun h2=>⟨rfl,bU h,by have:=fZ h2;omega⟩⟩⟩,fun _ hK=>?_⟩
 refine dN (fun i (x:List aC)=>(((),i,()),x,())) (fun y=>y.1.2.1) (fun _ _=>rfl) d.length (by omega) (fun k l=>l=(d.take k).filter (jY n)) rfl (fun I μ k l hn hJ next=>?_) fun I μ l hJ=>?_
 · subst hJ
   have hl:=List.length_filter_le (jY n) (d.take k)
   rw [List.length_take] at hl
   have st:=Sp.take_succ' d k ([],[],()) hn
   dsimp only
   refine dH (by omega) ⟨⟨by omega,by omega⟩,af (fun h=>⟨⟨by omega,by omega⟩,by rw [bW];simp only [List.length_cons,List.length_nil];omega,rfl,next _ ?_⟩) fun h=>⟨rfl,next _ ?_⟩⟩
   · rw [Int.toNat_natCast,st,List.filter_append,List.filter_cons_of_pos (p:=jY n) (a:=d.getD k ([],[],())) h];rfl
   · rw [st,List.filter_append,List.filter_cons_of_neg (p:=jY n) (by rw [show jY n (d.getD k ([],[],()))=false from h];simp),List.filter_nil,List.append_nil]
 · subst hJ
   dsimp only
   rw [List.take_length]
   refine dI (by omega) ⟨?_,BD ?_⟩
   · have:=UM (n:=n) hp
     rw [ajL hK.1 hK.2] at this
     exact this
   · rw [ajL hK.1 hK.2];rfl
theorem anE {c:gm} {n:Sp.Bytes} (hcur:dF c=true) (hrm:(Sp.removeDir (bJ c) n).2=true):(ai (Sp.removeDir (bJ c) n).1&&ax (aT c))=true:=by
 rw [(aip hrm).2,Eu (kG hcur).1 n,(kG hcur).2.1];rfl
theorem aaD:OK CQ.e:=by
 refine XA.ok mixed (au [oW.e,jg.e,CP.e] ⟨zA,rY,aaB,trivial⟩) H0 (fun ⟨c,n,_⟩ hp=>by obtain ⟨c',df,h⟩:=zB c (aT c) (Sp.removeDir (bJ c) n).1 (Sp.removeDir (bJ c) n).2 (anE hp.2);exact ⟨((((c'.1,c'.2.1,c'.2.2.1,c'.2.2.2.1,c'.2.2.2.2.1,()),df,_,()),())),h⟩) (by kernel_rfl) (show ∀ l0 l1 l2 l3 l4 name,CQ.goal (aaE l0 l1 l2 l3 l4 name) ((l0,l1,l2,l3,l4,()),name,()) from ?_)
 intro a l nx d r n hin hp
 dsimp only [CQ] at hp ⊢
 obtain ⟨hc,hcur⟩:jM (a,l,nx,d,r,())∧dF (a,l,nx,d,r,())=true:=hp
 obtain ⟨k1,k2,k3⟩:=kG hcur
 refine ⟨hc.1.2.1,?_⟩
 rintro ⟨⟨o,ok,⟨⟩⟩,⟨⟩⟩ ⟨e1,e2⟩
 obtain rfl:o=(Sp.removeDir d n).1:=e1
 obtain rfl:ok=(Sp.removeDir d n).2:=e2
 refine af (fun h=>stays (dS h) rfl) fun h=>⟨⟨hc.1.2.1,(ji k1).2,by simp⟩,fun r1 hr1=>⟨⟨hc.1,hc.1.1,UM hc.1.2.1,?_⟩,fun r2 hr2=>?_⟩⟩
 · have e:Sp.removeDir d n=_:=(aip (bU h)).2
   rw [e,show ai (lH d n)=true from Eu k1 n,show ax (a,l,nx,())=true from k2];rfl
 · have:=abf (c:=(a,l,nx,d,r,())) hcur (bU h) hr1 hr2
   rw [show (Sp.removeDir (bJ (a,l,nx,d,r,())) n).2=true from bU h]
   exact this
theorem JE:OK sV.e:=by
 refine XA.ok mixed (au [lN.e,jf.e,CO.e,CB.e,Ai.e,Ad.e,Ei.e,yN.e,Fh.e,jv.e,kJ.e,xX.e] ⟨vJ,rX,aaz,aau,YJ,Yq,acV,Ox,ae5,nM,qK,JR,trivial⟩) YQ (fun ⟨c,u,x,_⟩ _=>by obtain ⟨c',df,h⟩:=abg c u x;exact ⟨((((c'.1,c'.2.1,c'.2.2.1,c'.2.2.2.1,c'.2.2.2.2.1,()),df,_,()),())),h⟩) (by kernel_rfl) (show ∀ c0 c1 c2 c3 c4 user x0 x1 x2 x3 x4 x5 x6 x7 x8,sV.goal (V9 c0 c1 c2 c3 c4 user x0 x1 x2 x3 x4 x5 x6 x7 x8) ((c0,c1,c2,c3,c4,()),user,(x0,x1,x2,x3,x4,x5,x6,x7,x8,()),()) from ?_)
 intro a l nx d r u x0 x1 x2 x3 x4 x5 x6 x7 x8 hin hp
 dsimp only [sV] at hp ⊢
 obtain ⟨hc,h5,h8⟩:jM (a,l,nx,d,r,())∧x5.length≤400∧x8.length≤1000:=hp
 refine ⟨fun _=>Gw u=true∧dF (a,l,nx,d,r,())=true,⟨trivial,af (fun h=>⟨hc.1,fun r2 hr2=>refused ?_ hr2⟩) fun h=>⟨hc.1,af (fun h2=>⟨hc.1,fun r4 hr4=>refused ?_ hr4⟩) fun h2=>⟨rfl,bU h,bU h2⟩⟩⟩,fun _ hJ=>?_⟩
 · show ((Gw u&&_)&&_)=false
   rw [show Gw u=false from dS h];rfl
 · show ((_&&dF (a,l,nx,d,r,()))&&_)=false
   rw [dS h2,Bool.and_false];rfl
 obtain ⟨hu,hcur⟩:=hJ
 have s5:x5.length≤1000:=by omega
 have t5:x5.length≤500:=by omega
 refine af (fun k1=>?_) fun k1=>af (fun k2=>?_) fun k2=>af (fun k3=>?_) fun k3=>af (fun k4=>?_) fun k4=>af (fun k5=>?_) fun k5=>⟨hc.1,fun r34 hr=>refused (EP ?_) hr⟩
 · obtain rfl:x0=1:=by simpa using k1
   refine af (fun e=>⟨⟨hc,s5⟩,fun r6 LV=>made hu hcur rfl rfl ?_ LV.1⟩) fun e=>⟨hc.1,fun r7 YA=>refused (EP ?_) YA⟩
   · show (decide (x2=u)&&_)=_
     rw [decide_eq_true (by simpa using e),hcur];rfl
   · show (decide (x2=u)&&_)=_
     rw [decide_eq_false (by simpa using e)];rfl
 · obtain rfl:x0=2:=by simpa using k2
   refine ⟨hc.1.1,af (fun e1=>⟨trivial,af (fun e2=>af (fun e3=>⟨⟨hc.1,s5,ajM hc.2.1,t5⟩,fun zC h15=>made hu hcur rfl rfl ?_ (aeW h15)⟩) fun e3=>⟨hc.1,fun r hr=>refused (EP ?_) hr⟩) fun e2=>⟨hc.1,fun r hr=>refused (EP ?_) hr⟩⟩) fun e1=>⟨hc.1,fun r hr=>refused (EP ?_) hr⟩⟩
   all_goals show ((((aO (a,l,nx,()) x1).2&&kY (aO (a,l,nx,()) x1).1 u)&&decide (x2=u))&&_)=_
   · rw [e1,show kY (aO (a,l,nx,()) x1).1 u=true from e2,decide_eq_true (by simpa using e3),hcur];rfl
   · rw [decide_eq_false (by simpa using e3),Bool.and_false];rfl
   · rw [show kY (aO (a,l,nx,()) x1).1 u=false from e2,Bool.and_false];rfl
   · rw [e1];rfl
 · obtain rfl:x0=3:=by simpa using k3
   refine ⟨hc.1.1,af (fun e1=>⟨trivial,af (fun e2=>⟨hc,fun zC h15=>made hu hcur rfl rfl ?_ h15⟩) fun e2=>⟨hc.1,fun r hr=>refused (EP ?_) hr⟩⟩) fun e1=>⟨hc.1,fun r hr=>refused (EP ?_) hr⟩⟩
   all_goals show (((aO (a,l,nx,()) x6).2&&kY (aO (a,l,nx,()) x6).1 u)&&_)=_
   · rw [e1,show kY (aO (a,l,nx,()) x6).1 u=true from e2,hcur];rfl
   · rw [show kY (aO (a,l,nx,()) x6).1 u=false from e2,Bool.and_false];rfl
   · rw [e1];rfl
 · obtain rfl:x0=4:=by simpa using k4
   refine ⟨⟨hc,h8⟩,fun r29 h29=>made hu hcur rfl rfl ?_ h29⟩
   rw [hcur];rfl
 · obtain rfl:x0=5:=by simpa using k5
   refine ⟨hc.1.2.1,?_⟩
   rintro ⟨⟨o,ok,⟨⟩⟩,⟨⟩⟩ ⟨e1,e2⟩
   obtain rfl:o=(Sp.removeDir d x7).1:=e1
   obtain rfl:ok=(Sp.removeDir d x7).2:=e2
   exact af (fun e=>⟨⟨hc.1.2.1,(ji (kG hcur).1).2,by simp⟩,fun r31 h31=>⟨⟨hc.1,hc.1.1,UM hc.1.2.1⟩,fun r32 h32=>made (c:=(a,l,nx,d,r,())) hu hcur rfl rfl e (abf hcur e h31 h32)⟩⟩) fun e=>⟨hc.1,fun r hr=>refused (EP e) hr⟩
 · unfold xQ
   show (bif x0==1 then _ else bif x0==2 then _ else bif x0==3 then _ else bif x0==4 then _ else bif x0==5 then _ else _)=_
   rw [k1,k2,k3,k4,k5];rfl
theorem aaF:OK CS.e:=by
 refine XA.ok mixed (au [sV.e] ⟨JE,trivial⟩) H0 (fun ⟨c,u,x,_⟩ _=>⟨((Hg c u x,()),()),rfl⟩) (by kernel_rfl) (show ∀ c0 c1 c2 c3 c4 user x0 x1 x2 x3 x4 x5 x6 x7 x8,CS.goal (aaG c0 c1 c2 c3 c4 user x0 x1 x2 x3 x4 x5 x6 x7 x8) ((c0,c1,c2,c3,c4,()),user,(x0,x1,x2,x3,x4,x5,x6,x7,x8,()),()) from ?_)
 intro a l nx d r u x0 x1 x2 x3 x4 x5 x6 x7 x8 hin hp
 dsimp only [CS] at hp ⊢
 exact ⟨hp,fun r0 hr0=>hr0.1⟩
theorem Wh:OK yZ.e:=by
 refine XA.ok mixed (au [CQ.e,CG.e,Aj.e,Eh.e,Ae.e,uw.e,Fj.e,iL.e,lM.e,oV.e] ⟨aaD,aaw,YL,acT,YB,Hz,ae7,jq,vG,zy,trivial⟩) YR (fun ⟨c,u,x,_⟩ _=>by obtain ⟨c',df,h⟩:=abg c u x;exact ⟨((((c'.1,c'.2.1,c'.2.2.1,c'.2.2.2.1,c'.2.2.2.2.1,()),df,_,()),())),h⟩) (by kernel_rfl) (show ∀ l0 l1 l2 l3 l4 u o0 o1 o2 o3 o4 o5 o6 o7 o8,yZ.goal (Wi l0 l1 l2 l3 l4 u o0 o1 o2 o3 o4 o5 o6 o7 o8) ((l0,l1,l2,l3,l4,()),u,(o0,o1,o2,o3,o4,o5,o6,o7,o8,()),()) from ?_)
 intro a l nx d r u x0 x1 x2 x3 x4 x5 x6 x7 x8 hin hp
 dsimp only [yZ] at hp ⊢
 obtain ⟨hc,h5,h8⟩:jM (a,l,nx,d,r,())∧x5.length≤400∧x8.length≤1000:=hp
 have s5:x5.length≤1000:=by omega
 have t5:x5.length≤500:=by omega
 refine ⟨hc.1,?_⟩
 rintro ⟨⟨c0,⟨⟩⟩,⟨⟩⟩ ec
 obtain rfl:c0=(a,l,nx,d,r,()):=ec
 refine ⟨fun y=>y.1.1=(Gw u&&dF (a,l,nx,d,r,())),⟨hc.1,af (fun h=>⟨trivial,rfl,?_⟩) fun h=>⟨rfl,?_⟩⟩,?_⟩
 · show Gw u=_
   rw [h,Bool.and_true]
 · show false=_
   rw [h,Bool.and_false]
 rintro ⟨⟨ok0,⟨⟩⟩,⟨⟩⟩ hok0
 have hok0:ok0=(Gw u&&dF (a,l,nx,d,r,())):=hok0
 refine ⟨fun y=>(y.1.2.1=false→Hg (a,l,nx,d,r,()) u (x0,x1,x2,x3,x4,x5,x6,x7,x8,())=false)∧(y.1.2.1=true→Sp.applied (a,l,nx,d,r,()) u (x0,x1,x2,x3,x4,x5,x6,x7,x8,()) y.2.1 y.1.1 true),af (fun h=>⟨rfl,?_,?_⟩) fun h=>?_,?_⟩
 · intro _
   show ((Gw u&&dF (a,l,nx,d,r,()))&&_)=false
   rw [← hok0,show ok0=false from dS h];rfl
 · intro e
   rw [show ok0=false from dS h] at e;cases e
 · have h:=bU h
   rw [hok0,Bool.and_eq_true] at h
   obtain ⟨hu,hcur⟩:=h
   refine ⟨fun y=>y.1.1=((x0==1)&&(x2==u)),af (fun k1=>⟨rfl,?_⟩) fun k1=>⟨rfl,?_⟩,?_⟩
   · show (x2==u)=_
     rw [k1];rfl
   · show false=_
     rw [k1];rfl
   rintro ⟨⟨b1,⟨⟩⟩,⟨⟩⟩ hb1
   have hb1:b1=((x0==1)&&(x2==u)):=hb1
   subst hb1
   refine af (fun g1=>⟨⟨hc,s5⟩,fun r8 h8'=>⟨rfl,?_⟩⟩) fun g1=>?_
   · rw [Bool.and_eq_true] at g1
     obtain rfl:x0=1:=by simpa using g1.1
     refine seen (made hu hcur rfl rfl ?_ h8'.1)
     show (decide (x2=u)&&_)=_
     rw [decide_eq_true (by simpa using g1.2),hcur];rfl
   refine ⟨fun y=>y.1.1=((x0==2)&&(x2==u)),af (fun k1=>⟨rfl,?_⟩) fun k1=>⟨rfl,?_⟩,?_⟩
   · show (x2==u)=_
     rw [k1];rfl
   · show false=_
     rw [k1];rfl
   rintro ⟨⟨b2,⟨⟩⟩,⟨⟩⟩ hb2
   have hb2:b2=((x0==2)&&(x2==u)):=hb2
   subst hb2
   refine af (fun g2=>⟨hc.1.1,⟨hc.1,s5,ajM hc.2.1,t5⟩,fun BM h17=>?_⟩) fun g2=>af (fun g3=>⟨hc.1.1,hc,fun r25 h25=>?_⟩) fun g3=>af (fun g4=>⟨⟨hc,h8⟩,fun r27 h27=>⟨rfl,?_⟩⟩) fun g4=>af (fun g5=>⟨⟨hc,hcur⟩,fun r28 h28=>⟨rfl,?_⟩⟩) fun g5=>⟨rfl,YP ?_⟩
   · rw [Bool.and_eq_true] at g2
     obtain rfl:x0=2:=by simpa using g2.1
     have em:xQ (a,l,nx,d,r,()) u (2,x1,x2,x3,x4,x5,x6,x7,x8,())=((((aO (a,l,nx,()) x1).2&&kY (aO (a,l,nx,()) x1).1 u)&&decide (x2=u))&&(aV (a,l,nx,()) (x1,x2,x3,x4,x5,())).2):=rfl
     have h17:=aeW h17
     refine af (fun e1=>af (fun e2=>⟨trivial,rfl,?_⟩) fun e2=>⟨rfl,YP ?_⟩) fun e1=>⟨rfl,YP ?_⟩
     · cases e3:kY (aO (a,l,nx,()) x1).1 u with
       |true=>
        rw [e1] at h17
        refine ⟨(fun e=>by cases e),fun _=>made hu hcur rfl rfl ?_ h17⟩
        rw [em,e2,e3,decide_eq_true (by simpa using g2.2),hcur];rfl
       |false=>exact ⟨fun _=>EP (by rw [em,e3,Bool.and_false];rfl),fun e=>by cases e⟩
     · rw [em,e2];rfl
     · have:=h17.1
       rw [hcur,e1] at this
       rw [em,show (aV (a,l,nx,()) (x1,x2,x3,x4,x5,())).2=false from this.symm,Bool.and_false]
   · obtain rfl:x0=3:=by simpa using g3
     have em:xQ (a,l,nx,d,r,()) u (3,x1,x2,x3,x4,x5,x6,x7,x8,())=(((aO (a,l,nx,()) x6).2&&kY (aO (a,l,nx,()) x6).1 u)&&(aX (a,l,nx,()) x6).2):=rfl
     refine af (fun e1=>af (fun e2=>⟨trivial,rfl,?_⟩) fun e2=>⟨rfl,YP ?_⟩) fun e1=>⟨rfl,YP ?_⟩
     · cases e3:kY (aO (a,l,nx,()) x6).1 u with
       |true=>
        rw [e1] at h25
        refine ⟨(fun e=>by cases e),fun _=>made hu hcur rfl rfl ?_ h25⟩
        rw [em,e2,e3,hcur];rfl
       |false=>exact ⟨fun _=>EP (by rw [em,e3,Bool.and_false];rfl),fun e=>by cases e⟩
     · rw [em,e2];rfl
     · have:=h25.1
       rw [hcur,e1] at this
       rw [em,show (aX (a,l,nx,()) x6).2=false from this.symm,Bool.and_false]
   · obtain rfl:x0=4:=by simpa using g4
     refine seen (made hu hcur rfl rfl ?_ h27)
     rw [hcur];rfl
   · obtain rfl:x0=5:=by simpa using g5
     exact seen (made (c:=(a,l,nx,d,r,())) hu hcur rfl rfl rfl h28)
   · have g1:((x0==1)&&(x2==u))=false:=g1
     have g2:((x0==2)&&(x2==u))=false:=g2
     unfold xQ
     show (bif x0==1 then decide (x2=u)&&_ else bif x0==2 then (_&&decide (x2=u))&&_ else bif x0==3 then _ else bif x0==4 then _ else bif x0==5 then _ else _)=_
     rw [show decide (x2=u)=(x2==u) from rfl,g3,g4,g5]
     cases e1:x0==1 with
     |true=>rw [e1,Bool.true_and] at g1;rw [g1];rfl
     |false=>cases e2:x0==2 with
      |true=>rw [e2,Bool.true_and] at g2;rw [g2,Bool.and_false];rfl
      |false=>rfl
 · rintro ⟨⟨df,ok,⟨⟩⟩,z,⟨⟩⟩ ⟨j1,j2⟩
   exact af (fun h=>⟨hc.1,fun r hr=>refused (j1 (dS h)) hr⟩) fun h=>j2 (bU h)
theorem aia:OK IG.e:=by
 refine XA.ok mixed (au [Fg.e,sN.e,iE.e,rM.e,dR.e,kQ.e,IE.e,xJ.e,jk.e] ⟨aeX,JB,jy,En,dY,uJ,ah4,UK,lT,trivial⟩) ajN (fun _ _=>⟨(((0,0,0,false,0,[],0,[],[],()),()),(([],0,0,()),())),⟨Int.le_refl 0,Nat.zero_le _,Nat.zero_le _⟩⟩) (by kernel_rfl) (show ∀ c0 c1 c2 l0 l1 l2 l3 l4 u,IG.goal (aib c0 c1 c2 l0 l1 l2 l3 l4 u) ((c0,c1,c2,()),(l0,l1,l2,l3,l4,()),u,()) from ?_)
 intro b i h a l nx d r u hin hp
 dsimp only [IG] at hp ⊢
 obtain ⟨h0,hc⟩:0≤i∧jM (a,l,nx,d,r,()):=hp
 refine ⟨⟨h0,by simp⟩,fun r0 hr0=>⟨hc.1.1.2.1,hr0.1,fun r1 hr1=>?_⟩⟩
 have q1:0≤r1.2.1.2.1:=hr1
 refine ⟨fun y=>0≤y.2.1.2.1,af (fun hl=>⟨q1,fun r3 hr3=>af (fun _=>⟨hr3,fun r4 hr4=>⟨⟨hr4.2.1,hr4.2.2.1 (by have:=fJ hl;omega)⟩,rfl,hr4.1⟩⟩) fun _=>⟨rfl,hr3⟩⟩) fun _=>⟨rfl,q1⟩,fun y5 hy=>?_⟩
 have hy:0≤y5.2.1.2.1:=hy
 refine ⟨fun y=>0≤y.2.1.2.1∧y.2.2.2.1.length≤400∧y.2.2.1.2.2.2.2.2.2.2.2.1.length≤1000,af (fun _=>⟨hy,fun r7 h7=>⟨rfl,h7.1,Nat.le_trans h7.2.2.2.2.2.2.2 (by decide),Nat.zero_le _⟩⟩) fun _=>af (fun _=>⟨hy,fun r8 h8=>⟨rfl,h8.1,Nat.le_trans h8.2.2.2.2.2.2.2 (by decide),Nat.zero_le _⟩⟩) fun _=>af (fun _=>⟨rfl,hy,Nat.zero_le _,Nat.zero_le _⟩) fun _=>af (fun _=>⟨⟨hy,by simp⟩,fun r9 h9=>⟨h9.1,fun r10 h10=>⟨rfl,h10.1,Nat.zero_le _,Nat.le_trans h10.2.2 (by decide)⟩⟩⟩) fun _=>⟨hy,fun r11 h11=>⟨rfl,h11.1,Nat.zero_le _,Nat.zero_le _⟩⟩,fun gJ hJ=>?_⟩
 obtain ⟨j1,j2,j3⟩:=hJ
 refine ⟨j1,fun r13 h13=>af (fun _=>⟨h13,fun xR h14=>⟨h14.1,fun zC h15=>af (fun _=>⟨h15,fun r16 h16=>⟨h16.1,j2,j3⟩⟩) fun _=>⟨h15,j2,j3⟩⟩⟩) fun _=>⟨h13,fun BM h17=>af (fun _=>⟨h17,fun P9 h18=>⟨h18.1,j2,j3⟩⟩) fun _=>⟨h17,j2,j3⟩⟩⟩
theorem afb:OK Fq.e:=by
 refine XA.ok mixed (au [Fp.e,GY.e,kQ.e,uD.e] ⟨ae9,agG,uJ,QG,trivial⟩) agO (fun _ _=>by obtain ⟨c,h⟩:=any_some;exact ⟨(((c.1,c.2.1,c.2.2.1,c.2.2.2.1,c.2.2.2.2.1,()),0,()),(([],0,0,()),())),⟨Int.le_refl 0,h⟩⟩) (by kernel_rfl) (show ∀ c0 c1 c2,Fq.goal (afc c0 c1 c2) ((c0,c1,c2,()),()) from ?_)
 intro b i h hin hp
 dsimp only [Fq] at hp ⊢
 refine ⟨hp,fun r0 hr0=>⟨hr0.1,fun r1 hr1=>?_⟩⟩
 have q1:0≤r1.2.1.2.1:=hr1
 refine af (fun _=>⟨q1,fun r2 hr2=>⟨hr2.1,fun r3 hr3=>⟨hr3,hr2.2⟩⟩⟩) fun _=>⟨q1,fun r4 hr4=>⟨hr4,(ajG hr0.2.1).1⟩⟩
theorem O7:OK sD.e:=by
 refine XA.ok mixed (au [IG.e,Fq.e,GI.e] ⟨aia,afb,afZ,trivial⟩) QK (fun _ _=>by obtain ⟨c,h⟩:=any_some;exact ⟨((((c.1,c.2.1,c.2.2.1,c.2.2.2.1,c.2.2.2.2.1,()),0,(0,0,0,false,0,[],0,[],[],()),()),())),⟨h,Nat.zero_le _,Nat.zero_le _⟩⟩) (by kernel_rfl) (show ∀ code,sD.goal (O8 code) (code,()) from ?_)
 intro code hin hp
 dsimp only [sD] at hp ⊢
 exact ⟨hp,fun r0 hr0=>⟨by rw [hr0];exact Int.le_refl _,fun r1 hr1=>⟨hr1,fun r2 hr2=>⟨hr1.2,hr2.2⟩⟩⟩⟩
theorem aaH:OK Hl.e:=by
 refine PA.ok mixed (au [kJ.e,yA.e,uw.e,vO.e,vP.e,CS.e,CJ.e,yV.e,yZ.e,sV.e,sD.e,LY.e] ⟨qK,Oe,Hz,SC,SG,aaF,aas,VY,Wh,JE,O7,aku,trivial⟩) acZ (by kernel_rfl) (show ∀ code,Hl.goal (aaI code) (code,()) from ?_)
 intro code hin hp
 dsimp only [Hl] at hp ⊢
 refine ⟨trivial,af (fun _=>rfl) fun hb=>?_⟩
 have hc:code.length≤1048576:=by have:=fZ hb;omega
 refine ⟨hc,?_⟩
 rintro ⟨⟨c,u,x,⟨⟩⟩,⟨⟩⟩ hd
 have hd:jM c∧yY x:=hd
 refine ⟨hd,?_⟩
 rintro ⟨⟨z,df,ok,⟨⟩⟩,⟨⟩⟩ h2
 have h2:Sp.applied c u x z df ok:=h2
 refine ⟨hd,?_⟩
 rintro ⟨⟨z2,df2,ok2,⟨⟩⟩,⟨⟩⟩ h3
 obtain ⟨rfl,rfl,rfl⟩:=amj h2 h3
 refine ⟨fun _=>True,?_,fun _ _=>?_⟩
 · dsimp only
   rw [show (ok==ok)=true from beq_self_eq_true ok,decide_eq_true (rfl:z=z),decide_eq_true (rfl:df=df)]
   refine ⟨trivial,trivial,hd,fun r7 h7=>?_⟩
   rw [h7,← h2.1,show (ok==ok)=true from beq_self_eq_true ok]
   refine ⟨trivial,trivial,?_⟩
   rw [show ∀ b:Bool,(b==b)=true from beq_self_eq_true]
   exact ⟨rfl,trivial⟩
 · refine af (fun h=>?_) fun h=>?_
   · obtain ⟨e1,e2⟩:=h2.2.2 (dS h)
     have e1:z=c:=e1
     have e2:df=[]:=e2
     subst e1 e2
     dsimp only
     rw [decide_eq_true (rfl:z=z)]
     exact ⟨trivial,rfl⟩
   · have h:=bU h
     have h:ok=true:=h
     subst h
     obtain ⟨p1,p2,p3⟩:=aoz h2
     obtain ⟨k1,k2,_⟩:=h2.2.1 rfl
     obtain ⟨m1,m2⟩:=aqf hd.1 hd.2 h2
     have k1:aT z=yw c x:=k1
     have hl:c.2.1.length≤1000:=hd.1.1.1.2.1
     refine iM c.2.1.length (by omega) (fun _=>True) trivial (fun I μ n hn _ next=>?_) fun I μ _=>?_
     · dsimp only
       have go:=next trivial
       refine dH (by omega) ⟨⟨by omega,by omega⟩,m2.1.1,?_⟩
       rw [Int.toNat_natCast]
       refine af (fun hne=>?_) fun _=>⟨rfl,go⟩
       have hne:((Sp.fileAt c.2.1 n).2.1 !=u)=true:=hne
       have hne:(Sp.fileAt c.2.1 n).2.1≠u:=by simpa using hne
       have:=akz (kG p2).2.1 p3 (FK hn) hne
       rw [← k1] at this
       have e:aO (z.1,z.2.1,z.2.2.1,()) (c.2.1.getD n (0,0,false,0,[],())).1=(Sp.fileAt c.2.1 n,true):=this
       rw [e]
       exact ⟨trivial,af (fun h'=>(fZ (dS h') rfl).elim) fun _=>⟨rfl,go⟩⟩
     · exact dI (by dsimp only;omega) ⟨m2.1,congrArg (·,()) m1⟩
end Go.Proofs.Tryz
