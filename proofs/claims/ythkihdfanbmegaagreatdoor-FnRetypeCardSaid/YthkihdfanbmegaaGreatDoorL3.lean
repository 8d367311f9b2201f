import Derived.Test.YthkihdfanbmegaaGreatDoorF
import Derived.Test.YthkihdfanbmegaaGreatDoorFwC
import Derived.Shelf.Spec.SlicesInsertGrow
namespace Go.Proofs.Tryz
open Go Go.Fw Go.RowKit Go.Lib
set_option linter.unusedVariables false
set_option linter.unusedSimpArgs false
theorem rH{w:World}{g:Nat}{cur:Array Value}{t:TypeId}(hg:w.heap[g]? =some (.cells cur t (0,0)))(off:Nat)(cs:List Value)(h:∀j v,cs[j]? =some v->cur.toList[off+j]? =some v):
 ∀j v,cs[j]? =some v->w.cell? ((⟨g,off,none⟩:Addr).add j)=some v:=by
 intro j v hj;rw[auO];have:=h j v hj;simp only[World.cell?,hg];simpa using this
set_option maxHeartbeats 8000000 in
set_option maxRecDepth 100000 in
theorem adQ(w:World)(g vg n c i vc:Nat)(cur kC:Array Value)(hg:w.heap[g]? =some (.cells cur 115 (0,0)))(hv:w.heap[vg]? =some (.cells kC 115 (0,0)))(hne:vg≠g)
 (hi:i<n) (hroom:n+1<=c) (hc:c<=9223372036854775807) (hsz:cur.size=c*4) (adR:kC.size=vc*4) (hvc:1<=vc) (h1:∀x∈cur.toList.take (n*4),x.oneCell'=true) (h1v:∀x∈kC.toList.take 4,x.oneCell'=true):
 Calls prog 107 #[.slice (some ⟨g,0,none⟩) n c,.int .i64 i,.slice (some ⟨vg,0,none⟩) 1 vc] w λe w'=>
  e=.returned (.slice (some ⟨g,0,none⟩) (n+1) c)/\
  w'=w.drew.setRow g (oZ (oZ cur ((i+1)*4) ((cur.toList.drop (i*4)).take ((n-i)*4))) (i*4) (kC.toList.take 4)):=by
 have mixed:=Tryz.mixed;have u1:=Tryz.underlying64;have u2:=Tryz.underlying3;have u3:=Tryz.underlying4;have u4:=Tryz.underlying115;have hz2:¬((i:Int)=(n:Int)):=by omega
 have hz4:¬((c:Int)<(n:Int)+1):=by omega
 have hsi:(prog.info? 115).map (·.size)=some 4:=by kernel_rfl
 have hov:∀lb cb,(callFunc 145 #[.slice (some ⟨vg,0,none⟩) 1 vc,.slice (some ⟨g,(i+1)*4,none⟩) lb cb]).run prog w=.ok (.value (.bool false)) w:=λlb cb=>by
  rw[run_callFunc_extern Tryz.func145 (by kernel_rfl) (by kernel_rfl) (by kernel_rfl) (e:=Extern.SlicesOverlaps.overlaps #[64,64] #[4]) (by kernel_rfl),
   Lib.run_overlaps_apart w 64 4 115 Tryz.underlying64 4 (λw=>Tryz.sizeOf115 w) ⟨vg,0,none⟩ ⟨g,(i+1)*4,none⟩ 1 vc lb cb hne 115 115 kC.size cur.size (by simp[World.shape?,hv]) (by simp[World.shape?,hg]) (by omega) (by simp[World.frozen?,hv]) (by simp[World.frozen?,hv])]
  rfl
 have hw1:IntKind.i64.wrap ((i:Int)+1)=(i:Int)+1:=by rw[atN];omega
 have hw2:IntKind.i64.wrap ((n:Int)+1)=(n:Int)+1:=by rw[atN];omega
 have hb1:(0:Int)<=(i:Int)+1:=by omega
 have hin:i<=n:=by omega
 have htn:((i:Int)+1).toNat=i+1:=by omega
 have Vj:((n:Int)+1).toNat=n+1:=by omega
 have hb2:¬(c=i+1):=by omega
 have hb3:(i:Int)<=(n:Int)+1:=by omega
 have hb4:¬(c=i):=by omega
 have hsh:((cur.toList.drop (i*4)).take ((n-i)*4)).length=(n-i)*4:=by rw[aro,arY,arL];omega
 have hvl:(kC.toList.take 4).length=4:=by rw[aro,arL];omega
 have hcp1:∀ty dc sc,(Builtin.copy_ #[64,64] ty #[.slice (some ⟨g,(i+1)*4,none⟩) (n-i) dc,.slice (some ⟨g,i*4,none⟩) (n+1-i) sc]).run prog w.drew=
  .ok (goInt ((n-i:Nat):Int)) (w.drew.setRow g (oZ cur ((i+1)*4) ((cur.toList.drop (i*4)).take ((n-i)*4)))):=λty dc sc=>
  Dp w.drew _ _ ty 115 4 g _ _ dc _ _ sc (n-i) cur 115 _ Tryz.underlying64 hsi hg (by simp only[au0];split<;>omega) hsh
   (rH (w:=w.drew) hg _ _ (λj v hj=>by
     rw[arG]at hj;split at hj
     · rwa [arV]at hj
     .cases hj)) (by rw[hsh,hsz];omega)
   (λv hv=>by
     obtain⟨j,hj⟩:=as9 hv;have hjl:j<(n-i)*4:=by have:=(arz.1 hj).1;omega
     rw[arG,if_pos hjl,arV]at hj;refine h1 v (ase (i:=i*4+j) ?_);rw[arG,if_pos (by omega)];exact hj)
 obtain⟨Ri,akk⟩:∃Ri,Ri=oZ cur ((i+1)*4) ((cur.toList.drop (i*4)).take ((n-i)*4)):=⟨_,rfl⟩;have hs1:Ri.size=cur.size:=by rw[akk];exact sO _ _ _ (by rw[hsh,hsz];omega)
 obtain⟨W1,hW1⟩:∃W1,W1=w.drew.setRow g Ri:=⟨_,rfl⟩;have hg1:W1.heap[g]? =some (.cells Ri 115 (0,0)):=by rw[hW1];exact zo hg
 have hv1:W1.heap[vg]? =some (.cells kC 115 (0,0)):=by rw[hW1,ou _ _ _ hne];exact hv
 have hcp2:∀ty dc,(Builtin.copy_ #[64,64] ty #[.slice (some ⟨g,i*4,none⟩) (n+1-i) dc,.slice (some ⟨vg,0,none⟩) 1 vc]).run prog W1=.ok (goInt ((1:Nat):Int)) (W1.setRow g (oZ Ri (i*4) (kC.toList.take 4))):=λty dc=>
  Dp W1 _ _ ty 115 4 g _ _ dc _ _ vc 1 Ri 115 _ Tryz.underlying64 hsi hg1 (by simp only[au0];split<;>omega) (by rw[hvl])
   (rH hv1 _ _ (λj v hj=>by
     rw[arG]at hj;split at hj
     · rwa [arQ]
     .cases hj)) (by rw[hvl,hs1,hsz];omega) h1v
 have hfin:W1.setRow g (oZ Ri (i*4) (kC.toList.take 4))=w.drew.setRow g (oZ Ri (i*4) (kC.toList.take 4)):=by rw[hW1,ahc]
 rw[← akk]at hcp1 ⊢;rw[← hfin];rw[← hW1]at hcp1;clear hfin akk hs1 hg1 hv1 hW1 hsh hvl
 go_enter Tryz.func107,Tryz.ntmps107
 go_wp2_with (simp only[hov])
 go_region_law_o (refine step_copy_runI rfl _ _ 64 64 rfl _ _ (by simp[Act.eval,Act.put]) (by simp[Act.eval,Act.put]) (hcp1 _ _ _) ?_)
 go_wp2_with (at_builtin;refine wpList_copy_runI _ rfl _ _ 64 64 rfl _ _ rfl rfl (hcp2 _ _) ?_)
 go_ret
 exact⟨rfl,rfl⟩
theorem TG:∃(i:TypeInfo)(z:Value),prog.info? 115=some i/\i.size=4/\i.bytes=48/\i.zero=some z/\z.cells.size=4:=⟨Tryz.t115,_,by kernel_rfl,rfl,rfl,rfl,rfl⟩
set_option maxHeartbeats 8000000 in
set_option maxRecDepth 100000 in
theorem afQ(w:World)(g vg n i vc:Nat)(cur kC:Array Value)(hg:w.heap[g]? =some (.cells cur 115 (0,0)))(hv:w.heap[vg]? =some (.cells kC 115 (0,0)))
 (hi:i<n) (hn:n<=1000) (hsz:cur.size=n*4) (adR:kC.size=vc*4) (hvc:1<=vc) (h1:∀x∈cur.toList.take (n*4),x.oneCell'=true) (h1v:∀x∈kC.toList.take 4,x.oneCell'=true):
 Calls prog 107 #[.slice (some ⟨g,0,none⟩) n n,.int .i64 i,.slice (some ⟨vg,0,none⟩) 1 vc] w λe w'=>
  ∃(G:Nat)(R:Array Value),n+1<=G/\G<=maxLen/\R.size=G*4/\R.toList.take (i*4)=cur.toList.take (i*4)/\e=.returned (.slice (some ⟨w.heap.size,0,none⟩) (n+1) G)/\
  w'=(((w.alloc (.cells R 115)).drew.setRow w.heap.size (oZ R (i*4) (kC.toList.take 4))).drew).setRow w.heap.size (oZ (oZ R (i*4) (kC.toList.take 4)) ((i+1)*4) ((cur.toList.drop (i*4)).take ((n-i)*4))):=by
 have mixed:=Tryz.mixed;have u1:=Tryz.underlying64;have u2:=Tryz.underlying3;have u3:=Tryz.underlying4;have u4:=Tryz.underlying115;obtain⟨i0,z0,hi0,hzs,hzb,hz0,hzc⟩:=TG;have hz2:¬((i:Int)=(n:Int)):=by omega
 have hz3:(n:Int)<(n:Int)+1:=by omega
 have hsi:(prog.info? 115).map (·.size)=some 4:=by rw[hi0];simp[hzs]
 have hbw:g<w.heap.size:=(ar5.1 hg).1;have hvw:vg<w.heap.size:=(ar5.1 hv).1;have hkk:(n:Int)+1-(i:Int)=((n+1-i:Nat):Int):=by omega
 have hik:i+(n+1-i)=n+1:=by omega
 have hpl:(cur.toList.take (i*4)).length=i*4:=by rw[aro,arL];omega
 have hold:(Builtin.firstCells i0.size i (.slice (some ⟨g,0,none⟩) i n)).run prog w.drew=.ok (cur.toList.take (i*4)).toArray w.drew:=
  run_firstCells_some w.drew i0.size i ⟨g,0,none⟩ i n (cur.toList.take (i*4)) (by rw[hpl,hzs]) (rH (w:=w.drew) hg 0 _ (λj v hj=>by
   rw[arQ];rw[arG]at hj;split at hj
   .exact hj
   .cases hj))
 have hrz:∀ty,(Builtin.append_ #[64,3] ty #[.slice (some ⟨g,0,none⟩) i n,.int .i64 ((n:Int)+1-(i:Int))]).run prog w=
  .ok (.slice (some ⟨w.heap.size,0,none⟩) (n+1) (grownCap w (n+1) n 115)) (w.drew.alloc (.cells ((cur.toList.take (i*4)).toArray++Builtin.zeroCells z0.cells (n+1-i)++Builtin.zeroCells z0.cells (grownCap w (n+1) n 115-(n+1))) 115)):=λty=>by
  have h:=Lib.run_append_grow_zeros w 64 3 ty 115 i0 _ .i64 .i64 u1 u2 hi0 hz0 (some ⟨g,0,none⟩) i n (cur.toList.take (i*4)) hold (n+1-i) (by omega) (by omega) (by omega) (by omega) (by rw[hzb];omega) (by rw[hzb,hik];exact growslice_fits (by omega) (by omega));rw[hik]at h;rw[hkk];exact h
 obtain⟨G,hG⟩:∃G,G=grownCap w (n+1) n 115:=⟨_,rfl⟩;obtain⟨ROW,hROW⟩:∃ROW:Array Value,ROW=(cur.toList.take (i*4)).toArray++Builtin.zeroCells z0.cells (n+1-i)++Builtin.zeroCells z0.cells (G-(n+1)):=⟨_,rfl⟩;have hGn:n+1<=G:=by rw[hG];exact grownCap_ge w _ _ _
 have hGm:G<=maxLen:=by rw[hG];exact grownCap_le_maxLen w (n+1) n 115 (by rw[maxLen_eq];omega)
 have hG63:G<=9223372036854775807:=by rw[maxLen_eq]at hGm;omega
 rw[← hG,← hROW]at hrz;have hRs:ROW.size=G*4:=by rw[hROW];simp only[Array.size_append,atm,hpl,size_zeroCells,hzc];omega
 have hRt:ROW.toList.take (i*4)=cur.toList.take (i*4):=by rw[hROW];simp only[atb,ar6];rw[asB (by omega),asC (by omega)]
 have hsh:((cur.toList.drop (i*4)).take ((n-i)*4)).length=(n-i)*4:=by rw[aro,arY,arL];omega
 have hvl:(kC.toList.take 4).length=4:=by rw[aro,arL];omega
 obtain⟨W1,hW1⟩:∃W1,W1=w.drew.alloc (.cells ROW 115):=⟨_,rfl⟩;rw[← hW1]at hrz;have hg1:W1.heap[g]? =some (.cells cur 115 (0,0)):=by rw[hW1];exact(heap_alloc_old w.drew _ hbw).trans hg
 have hv1:W1.heap[vg]? =some (.cells kC 115 (0,0)):=by rw[hW1];exact(heap_alloc_old w.drew _ hvw).trans hv
 have hr1:W1.heap[w.heap.size]? =some (.cells ROW 115 (0,0)):=by rw[hW1];exact heap_alloc_new w.drew _
 have hgN:g≠w.heap.size:=by omega
 obtain⟨R1,hR1⟩:∃R1,R1=oZ ROW (i*4) (kC.toList.take 4):=⟨_,rfl⟩;have aob:R1.size=ROW.size:=by rw[hR1];exact sO _ _ _ (by rw[hvl,hRs];omega)
 have hcpA:∀(W:World),W.heap=W1.heap->∀ty dc,(Builtin.copy_ #[64,64] ty #[.slice (some ⟨w.heap.size,i*4,none⟩) (n+1-i) dc,.slice (some ⟨vg,0,none⟩) 1 vc]).run prog W=.ok (goInt ((1:Nat):Int)) (W.setRow w.heap.size R1):=λW hW ty dc=>by
  rw[hR1];exact Dp W _ _ ty 115 4 w.heap.size _ _ dc _ _ vc 1 ROW 115 _ u1 hsi (by rw[hW];exact hr1) (by simp only[au0];split<;>omega) (by rw[hvl])
   (rH (by rw[hW];exact hv1) _ _ (λj v hj=>by
     rw[arG]at hj;split at hj
     · rwa [arQ]
     .cases hj)) (by rw[hvl,hRs];omega) h1v
 obtain⟨R2,hR2⟩:∃R2,R2=oZ R1 ((i+1)*4) ((cur.toList.drop (i*4)).take ((n-i)*4)):=⟨_,rfl⟩;have hcpB:∀(W:World),W.heap=(W1.setRow w.heap.size R1).heap->∀ty dc sc,(Builtin.copy_ #[64,64] ty #[.slice (some ⟨w.heap.size,(i+1)*4,none⟩) (n-i) dc,.slice (some ⟨g,i*4,none⟩) (n-i) sc]).run prog W=.ok (goInt ((n-i:Nat):Int)) (W.setRow w.heap.size R2):=λW hW ty dc sc=>by
  rw[hR2];exact Dp W _ _ ty 115 4 w.heap.size _ _ dc _ _ sc (n-i) R1 115 _ u1 hsi (by rw[hW];exact zo hr1) (by simp only[au0];split<;>omega) hsh
   (rH (by rw[hW,ou _ _ _ hgN];exact hg1) _ _ (λj v hj=>by
     rw[arG]at hj;split at hj
     · rwa [arV]at hj
     .cases hj)) (by rw[hsh,aob,hRs];omega)
   (λv hv=>by
     obtain⟨j,hj⟩:=as9 hv;have hjl:j<(n-i)*4:=by have:=(arz.1 hj).1;omega
     rw[arG,if_pos hjl,arV]at hj;refine h1 v (ase (i:=i*4+j) ?_);rw[arG,if_pos (by omega)];exact hj)
 have hGi:¬(G=i):=by omega
 have hGim:¬(G=i+1):=by omega
 have hci:¬(n=i):=by omega
 have hw1:IntKind.i64.wrap ((i:Int)+1)=(i:Int)+1:=by rw[atN];omega
 have hw2:IntKind.i64.wrap ((n:Int)+1)=(n:Int)+1:=by rw[atN];omega
 have hw3:IntKind.i64.wrap ((n:Int)+1-(i:Int))=(n:Int)+1-(i:Int):=by rw[atN];omega
 have hb1:(0:Int)<=(i:Int)+1:=by omega
 have hin:i<=n:=by omega
 have htn:((i:Int)+1).toNat=i+1:=by omega
 have Vj:((n:Int)+1).toNat=n+1:=by omega
 have hb3:(i:Int)<=(n:Int):=by omega
 have hb4:(i:Int)<=(n:Int)+1:=by omega
 refine Calls.mono (R:=λe w'=>e=.returned (.slice (some ⟨w.heap.size,0,none⟩) (n+1) G)/\w'=(((w.alloc (.cells ROW 115)).drew.setRow w.heap.size R1).drew).setRow w.heap.size R2) ?_ ?_
 rotate_left
 .rintro e w' ⟨rfl,rfl⟩;exact⟨G,ROW,hGn,hGm,hRs,hRt,rfl,by rw[hR2,hR1]⟩
 subst hW1;have hE:((w.alloc (.cells ROW 115)).drew).heap=(w.drew.alloc (.cells ROW 115)).heap:=rfl;have hF:(((w.alloc (.cells ROW 115)).drew.setRow w.heap.size R1).drew).heap=((w.drew.alloc (.cells ROW 115)).setRow w.heap.size R1).heap:=rfl;clear hkk hik hold hROW hG hRs hRt hR1 hR2 aob hg1 hv1 hr1 hsh hvl hpl h1 h1v
 go_enter Tryz.func107,Tryz.ntmps107
 go_wp2_with (first
  |(at_builtin;refine Lib.wpList_append_run _ rfl _ _ _ _ rfl _ _ rfl rfl _ _ (hrz _) ?_)
  |(at_builtin;refine wpList_copy_runI _ rfl _ _ 64 64 rfl _ _ rfl rfl (hcpA _ hE _ _) ?_)
  |(at_builtin;refine wpList_copy_runI _ rfl _ _ 64 64 rfl _ _ rfl rfl (hcpB _ rfl _ _ _) ?_))
 go_region_law_o (refine step_copy_runI rfl _ _ 64 64 rfl (.slice (some ⟨w.heap.size,(i+1)*4,none⟩) (n-i) (G-(i+1))) (.slice (some ⟨g,i*4,none⟩) (n-i) (n-i)) (by simp[Act.eval,Act.put]) (by simp[Act.eval,Act.put]) (hcpB _ hF 3 (G-(i+1)) (n-i)) ?_)
 go_wp2
 go_ret
 exact⟨rfl,rfl⟩
set_option maxHeartbeats 8000000 in
set_option maxRecDepth 100000 in
theorem aht(w:World)(v:Value)(vg n vc:Nat)(xs:List Value)(kC:Array Value)(hown:w.ownsRow 0 115 4 v n xs)(hv:w.heap[vg]? =some (.cells kC 115 (0,0)))
 (hn:n<=1000) (adR:kC.size=vc*4) (hvc:1<=vc) (h1v:∀x∈kC.toList.take 4,x.oneCell'=true):
 Calls prog 107 #[v,.int .i64 n,.slice (some ⟨vg,0,none⟩) 1 vc] w λe w'=>
  ∃v',e=.returned v'/\w'.ownsRow 0 115 4 v' (n+1) (xs++kC.toList.take 4)/\w.grownBy w' v.ownBlock/\(∀g,v'.ownBlock=some g->v.ownBlock=some g\/w.heap.size<=g):=by
 have mixed:=Tryz.mixed;have u1:=Tryz.underlying64;have u2:=Tryz.underlying3;have u3:=Tryz.underlying4;have u4:=Tryz.underlying115;obtain⟨i0,z0,hi0,hzs,hzb,hz0,hzc⟩:=TG;have hvl:(kC.toList.take 4).length=1*4:=by rw[aro,arL];omega
 have hnews:=rH hv 0 (kC.toList.take 4) (λj v hj=>by
  rw[arG]at hj;split at hj
  · rwa [arQ]
  .cases hj)
 obtain⟨v',w',hr,hown',hgr,_⟩:=run_append_own (P:=prog) w 0 64 64 115 i0 z0 4 48 u1 hi0 hz0 hzs hzb hzc (by decide) v n xs hown ⟨vg,0,none⟩ 1 vc _ hvl hnews h1v (by rw[maxLen_eq];omega) (by omega) (ar0 _);have hblk:∀g,v'.ownBlock=some g->v.ownBlock=some g\/w.heap.size<=g:=λg hg=>U9 (P:=prog) u1 hi0 hz0 hzs hzb (by decide) hown ⟨vg,0,none⟩ vc (by decide) hvl hnews h1v (by omega) (by omega) hr hg;refine Calls.mono (R:=λe w''=>e=.returned v'/\w''=w') ?_ ?_
 rotate_left
 .rintro e w'' ⟨rfl,rfl⟩;exact⟨v',rfl,hown',hgr,hblk⟩
 clear hgr hblk hown' hnews h1v hi0 hz0 hzc hvl;rcases hown.2 with⟨rfl,rfl⟩|⟨g,cap,cur,rfl,_,_,hnc,hcm,_⟩
 .clear hown
  go_enter Tryz.func107,Tryz.ntmps107
  go_wp2_with (at_builtin;refine Lib.wpList_append_run _ rfl _ _ _ _ rfl _ _ rfl rfl _ _ hr ?_)
  all_goals (go_ret;exact⟨rfl,rfl⟩)
 .clear hown;rw[maxLen_eq]at hcm
  go_enter Tryz.func107,Tryz.ntmps107
  go_wp2_with (at_builtin;refine Lib.wpList_append_run _ rfl _ _ _ _ rfl _ _ rfl rfl _ _ hr ?_)
  all_goals (go_ret;exact⟨rfl,rfl⟩)
theorem afR:abp prog 107 115 4:=by
 intro w v u n i xs ys hx hy hne hi hn h1 h1y;rcases hy.2 with⟨_,h0⟩|⟨vg,vc,kC,rfl,_,hv,hvc,_,adR,hvt⟩
 .cases h0
 rw[auZ]at hvt;subst hvt;rcases Nat.lt_or_eq_of_le hi with hlt|rfl
 .rcases hx.2 with⟨_,h0⟩|⟨g,c,cur,rfl,_,hg,hnc,hcm,hsz,ht⟩
  .omega
  have hgv:vg≠g:=λe=>hne g rfl (by rw[← e];rfl);subst ht;rw[maxLen_eq]at hcm;have e1:(cur.toList.take (n*4)).take (i*4)=cur.toList.take (i*4):=by rw[atc];congr 1;omega
  have e2:(cur.toList.take (n*4)).drop (i*4)=(cur.toList.drop (i*4)).take ((n-i)*4):=by rw[auu];congr 1;omega
  rw[e1,e2];have hsh:((cur.toList.drop (i*4)).take ((n-i)*4)).length=(n-i)*4:=by rw[aro,arY,arL];omega
  have hvl:(kC.toList.take 4).length=4:=by rw[aro,arL];omega
  by_cases hroom:n+1<=c
  .refine(adQ w g vg n c i vc cur kC hg hv hgv hlt hroom (by omega) hsz adR hvc h1 h1y).mono ?_;rintro e w' ⟨rfl,rfl⟩;have hk:(i+1)*4=i*4+(kC.toList.take 4).length:=by rw[hvl];omega
   refine⟨_,rfl,⟨?_,.inr ⟨g,c,_,rfl,ar0 _,zo hg,hroom,by rw[maxLen_eq];omega,?_,?_⟩⟩,⟨rfl,rfl,rfl,auM (size_setRow w.drew _ _).symm,λk hk hne=>?_⟩,λq hq=>.inl hq⟩
   .simp only[arv,hsh,hvl,aro,arL];omega
   .rw[sO _ _ _ (by rw[hvl,sO _ _ _ (by rw[hsh,hsz];omega),hsz];omega),sO _ _ _ (by rw[hsh,hsz];omega)];exact hsz
   .have:=aj0 cur (i*4) (kC.toList.take 4) ((cur.toList.drop (i*4)).take ((n-i)*4)) (by rw[hsh,hvl,hsz];omega);rw[hk,← this];congr 1;rw[hsh,hvl];omega
   .exact ou _ _ _ (λe=>hne (by rw[e];rfl))
  .have hcn:c=n:=by omega
   subst hcn;refine(afQ w g vg c i vc cur kC hg hv hlt hn hsz adR hvc h1 h1y).mono ?_;rintro e w' ⟨G,R,hG,hGm,hRs,hRt,rfl,rfl⟩;have hk:(i+1)*4=i*4+(kC.toList.take 4).length:=by rw[hvl];omega
   have hs1:(oZ R (i*4) (kC.toList.take 4)).size=R.size:=sO _ _ _ (by rw[hvl,hRs];omega);refine⟨_,rfl,⟨?_,.inr ⟨w.heap.size,G,_,rfl,ar0 _,zo (zo (heap_alloc_new w _)),hG,hGm,?_,?_⟩⟩,⟨rfl,rfl,rfl,by rw[size_setRow];show _<=((w.alloc _).drew.setRow _ _).heap.size;rw[size_setRow];show _<=(w.alloc _).heap.size;simp,λk hk hne=>?_⟩,λq hq=>.inr (auM (Option.some.inj hq))⟩
   .simp only[arv,hsh,hvl,aro,arL];omega
   .rw[sO _ _ _ (by rw[hsh,hs1,hRs];omega),hs1];exact hRs
   .have:=ajZ R (i*4) (kC.toList.take 4) ((cur.toList.drop (i*4)).take ((c-i)*4)) (by rw[hsh,hvl,hRs];omega);rw[hRt]at this;rw[hk,← this];congr 1;rw[hsh,hvl];omega
   .rw[ou _ _ _ (by omega)];exact(ou _ _ _ (by omega)).trans (heap_alloc_old w _ hk)
 .have e1:xs.take (i*4)=xs:=asC (by rw[hx.1];omega);have e2:xs.drop (i*4)=[]:=atz (by rw[hx.1];omega);rw[e1,e2,ash];exact aht w v vg i vc xs kC hx hv hn adR hvc h1y
theorem Jt:jy prog G sW zl:=
 aiq (e:=115) (by decide) afR λ_ _ _ h=>⟨h.1,h.2.1,h.2.2.1,h.2.2.2,rfl⟩
end Go.Proofs.Tryz
