import Derived.Test.YtkgkfdphbkfjnaaGreatF
import Derived.Test.YtkgkfdphbkfjnaaGreatFwC
import Derived.Test.YtkgkfdphbkfjnaaGreatShelf
import Derived.WalkKit
import Derived.Sort.OwnSorted
import Derived.Sort.Grow
import Derived.Lib.OwnBridge
namespace Go.Proofs.Tryz
open Go Go.Fw Go.RowKit Go.Sort
theorem ako (zs:List (List UInt8)) (s:List UInt8):s∈Lib.compact zs↔s∈zs:=by
 have hget:∀ i (h:i<zs.length),zs.toArray[i]! =zs[i]:=fun i h=>by rw [getElem!_pos _ i (by simpa using h)];simp
 unfold Lib.compact Lib.compactUpTo
 simp only [List.mem_map,List.mem_filter,List.mem_range]
 constructor
 · rintro ⟨i,⟨hi,_⟩,rfl⟩
   rw [hget i hi];exact List.getElem_mem hi
 · intro hs
   obtain ⟨i,hi,e⟩:=List.getElem_of_mem hs
   have all:∀ i (hi:i<zs.length),∃ j,(j<zs.length∧Lib.keeps zs.toArray j=true)∧zs.toArray[j]! =zs[i]:=by
    intro i
    induction i with
    |zero=>exact fun hi=>⟨0,⟨hi,Lib.keeps_lt_one _ 0 (by omega)⟩,hget 0 hi⟩
    |succ i ih=>
     intro hi
     by_cases h:zs.toArray[i+1]! =zs.toArray[i+1-1]!
     · obtain ⟨j,h1,h2⟩:=ih (by omega)
       refine ⟨j,h1,?_⟩
       rw [h2,← hget (i+1) hi,h,Nat.add_sub_cancel,hget i (by omega)]
     · exact ⟨i+1,⟨hi,Lib.keeps_pos h⟩,hget (i+1) hi⟩
   rw [← e];exact all i hi
theorem akp (zs:List (List UInt8)):(Lib.compact zs).length≤zs.length:=Lib.compact_length_le zs
def al7 (w:World) (ss:List (List UInt8)) (e:Ending) (w':World):Prop:=
 ∃ g cap,e= .returned (.slice (some ⟨g,0,none⟩) (Lib.compact (ss.mergeSort fun x y=>decide (x≤y))).length cap)∧
   w'.ownsRow w.heap.size 9 1 (.slice (some ⟨g,0,none⟩) (Lib.compact (ss.mergeSort fun x y=>decide (x≤y))).length cap) (Lib.compact (ss.mergeSort fun x y=>decide (x≤y))).length ((Lib.compact (ss.mergeSort fun x y=>decide (x≤y))).map encStr)∧Below w.heap.size w w'
theorem aog {w w1:World} {g cap n nn q:Nat} {os:Array Obj} {ss:List (List UInt8)} (hown:w1.ownsRow w.heap.size 9 1 (.slice (some ⟨g,0,none⟩) n cap) n (ss.map encStr)) (hbel:Below w.heap.size w w1) (hbg:w.heap.size≤g) (hlen:ss.length=n):
 al7 w ss (.returned (.slice (some ⟨g,0,none⟩) (Lib.compact (ss.mergeSort fun x y=>decide (x≤y))).length cap))
  (putRow encStr (Sort.ahead (grow (putRow encStr (Sort.ahead w1 nn) g 0 (ss.mergeSort fun x y=>decide (x≤y)).toArray) os) q) g 0 (Lib.compact (ss.mergeSort fun x y=>decide (x≤y))++List.replicate (n-(Lib.compact (ss.mergeSort fun x y=>decide (x≤y))).length) []).toArray):=by
 have hl2:(ss.mergeSort fun x y=>decide (x≤y)).length=ss.length:=List.length_mergeSort ss
 have hle:=Lib.compact_length_le (ss.mergeSort fun x y=>decide (x≤y))
 subst hlen
 rcases hown.2 with ⟨h0,_⟩|⟨g',cap',cur,hv,hbase,hb,h1,h2,h3,h4⟩
 · cases h0
 cases hv
 have hs:=ownsRow_sorted (n:=nn) (os:=os) (ts:=ss.mergeSort fun x y=>decide (x≤y)) hl2 hbase hb h1 h2 h3
 have hc:=Lib.ownsRow_putRow (q:=q) (k:=(Lib.compact (ss.mergeSort fun x y=>decide (x≤y))).length) (ys:=Lib.compact (ss.mergeSort fun x y=>decide (x≤y))++List.replicate (ss.length-(Lib.compact (ss.mergeSort fun x y=>decide (x≤y))).length) []) hs (by simp;omega) (by omega)
 rw [List.take_left] at hc
 exact ⟨g,cap,rfl,hc,Lib.below_putRow (hbel.grown (grownBy_sorted _) hbel.size (fun j hj=>by cases hj;exact hbase)) hbg⟩
set_option maxHeartbeats 2000000 in
set_option maxRecDepth 100000 in
theorem aa6 (n:Nat) (arg:Value) (ss:List (List UInt8)) (w:World) (hn:n≤4611686018427387903)
 (hclone:Calls prog 137 #[arg] w fun e w'=>∃ v',e= .returned v'∧w'.ownsRow w.heap.size 9 1 v' n (ss.map encStr)∧v'≠ .slice none 0 0∧Below w.heap.size w w'):
 Calls prog 140 #[arg] w (al7 w ss):=by
 have mixed:=Tryz.mixed
 go_enter Tryz.func140,Tryz.ntmps140
 go_wp2_with (first
  |(go_at_call 137;refine hclone.mono ?_;rintro e w1 ⟨v1,rfl,hown,hnn,hbel⟩
    obtain ⟨g,cap,rfl,hbg,hgl,hncap,hcm,hlen,hH⟩:=Lib.holds_of_ownsRow hown hnn
    have hsort:=Tryz.slices_Sort_string g 0 cap ss w1 hH hgl (by omega)
    rw [hlen] at hsort
    have X:Aside (w1.ownsRow w.heap.size 9 1 (.slice (some ⟨g,0,none⟩) n cap) n (ss.map encStr)∧Below w.heap.size w w1∧w.heap.size≤g∧g<w1.heap.size∧n≤cap∧cap≤maxLen∧ss.length=n∧Holds encStr w1 g 0 ss.toArray):=⟨hown,hbel,hbg,hgl,hncap,hcm,hlen,hH⟩
    clear hown hbel hH hnn)
  |(go_at_call 207;refine hsort.mono ?_;rintro e w2 ⟨rfl,nn,os,rfl⟩
    have hl2:(ss.mergeSort fun x y=>decide (x≤y)).length=n:=by rw [List.length_mergeSort];exact X.out.2.2.2.2.2.2.1
    have hH2:Holds encStr (grow (putRow encStr (Sort.ahead w1 nn) g 0 (ss.mergeSort fun x y=>decide (x≤y)).toArray) os) g 0 (ss.mergeSort fun x y=>decide (x≤y)).toArray:=
     holds_grow encStr _ os g 0 _ (by simpa [putRow,mapBlock,Sort.ahead] using X.out.2.2.2.1) (holds_putRow encStr _ g 0 _ _ (holds_ahead encStr w1 nn g 0 _ X.out.2.2.2.2.2.2.2) (by simp))
    have hcomp:=Tryz.slices_Compact_string g 0 cap (ss.mergeSort fun x y=>decide (x≤y)) _ hH2 (by omega) (by have:=X.out.2.2.2.2.1;omega)
    rw [hl2] at hcomp
    clear hH2 hsort)
  |(go_at_call 208;refine hcomp.mono ?_;rintro e w3 ⟨rfl,q,rfl⟩))
 go_ret
 exact aog X.out.1 X.out.2.1 X.out.2.2.1 X.out.2.2.2.2.2.2.1
set_option maxHeartbeats 2000000 in
theorem al8 (n c:Nat) (w:World):Calls prog 140 #[.slice none n c] w fun e w'=>e= .returned (.slice none 0 0)∧w'=w:=by
 have mixed:=Tryz.mixed
 go_enter Tryz.func140,Tryz.ntmps140
 go_wp2_with (first
  |(go_at_call 137;refine (Tryz.slices_Clone_string_nil n c _).mono ?_;rintro e w' ⟨rfl,rfl⟩)
  |(go_at_call 207;refine (Tryz.slices_Sort_string_none none 0 _).mono ?_;rintro e w' ⟨rfl,rfl⟩)
  |(go_at_call 208;refine (Tryz.slices_Compact_string_empty none 0 _).mono ?_;rintro e w' ⟨rfl,rfl⟩))
 go_ret
 exact ⟨rfl,rfl⟩
theorem al9 {w w':World} {S:Nat→Prop} {γ:Nat→Value} {g cap:Nat} {ts:List (List UInt8)} (hown:w'.ownsRow w.heap.size 9 1 (.slice (some ⟨g,0,none⟩) ts.length cap) ts.length (ts.map encStr)) (hl:∀ s∈ts,s.length≤maxLen):
 bC ⟨w',w.heap.size,S,γ,fun _=>none⟩ (.sl 9 dZ (ts.map fun s=>(s,())) true) (.slice (some ⟨g,0,none⟩) ts.length cap):=by
 rcases hown.2 with ⟨h0,_⟩|⟨g',cap',cur,hv,hbase,hb,h1,h2,h3,h4⟩
 · cases h0
 cases hv
 have hlt:g<w'.heap.size:=by
  rcases Nat.lt_or_ge g w'.heap.size with h|h
  · exact h
  · rw [Array.getElem?_eq_none h] at hb;cases hb
 refine ⟨by rw [List.length_map];omega, .inr ⟨g,0,cap,cur,9,(0,0),by rw [List.length_map],by rw [List.length_map];exact h1,⟨⟨hlt,fun h=>absurd (show g<w.heap.size from h) (by omega),(fun o x hx=>by cases hx)⟩,fun _=>hbase⟩,hb,?_⟩⟩
 intro i x hx
 rw [List.getElem?_map,Option.map_eq_some_iff] at hx
 obtain ⟨y,hy,rfl⟩:=hx
 have hi:=(List.getElem?_eq_some_iff.1 hy).1
 have hc:cur.toList[i]? =some (encStr y):=by
  have:(cur.toList.take (ts.length*1))[i]? =(ts.map encStr)[i]? :=by rw [h4]
  rw [List.getElem?_take_of_lt (by omega),List.getElem?_map,hy] at this
  exact this
 obtain ⟨hi2,e⟩:=List.getElem?_eq_some_iff.1 hc
 show bM _ _ (.cons .str .nil) ((cur.toList.drop (0+i*1)).take 1) (y,())
 rw [Nat.zero_add,Nat.mul_one,List.drop_eq_getElem_cons hi2,e]
 exact ⟨encStr y,[],rfl,⟨rfl,hl y (List.mem_of_getElem? hy)⟩,rfl⟩
theorem tC:jV prog G mQ kX:=by
 intro args p ρ hcon hp
 unfold kX qQ at hcon
 split at hcon
 · next x hx=>
   revert x
   show ∀ x:List (List UInt8×Unit)×Unit,_
   rintro ⟨l,⟨⟩⟩ hx hcon
   have hF:=Option.some.inj hcon
   have hp1:(l.length≤1000)=p:=congrArg Prod.fst hF
   have hρ:=congrArg Prod.snd hF
   simp only at hρ
   subst hρ
   have hl:l.length≤1000:=by rw [hp1];exact hp
   obtain ⟨a0,r0,rfl,hx0,h1⟩:=Kr hx
   have:=adM h1
   subst this
   refine ⟨⟨((l,()),()),⟨Nat.le_refl _,fun _=>Iff.rfl⟩⟩,?_⟩
   intro k S γ vs w hG hrep nT hap hk
   match hvs:vs.toList,hrep with
   |[v],hrep=>
    have evs:vs=#[v]:=by
     obtain ⟨vl⟩:=vs
     simp at hvs
     rw [hvs]
    subst evs
    have harg:rD ⟨w,w.heap.size,S,γ,dW [a0]⟩ a0 v:=by
     have hr:=hrep.1
     cases a0 with
     |sv _|kp _|fn _ _=>exact hr
     |own _ _ _|ptr _=>simp [gX.read,jb.read] at hx0
    have hsl:jw w.heap _ (.sl dw dZ) v l:=jb.weak (.v (.one (.sl dw dZ false))) a0 l v hx0 harg
    obtain ⟨hll,hcase⟩:=hsl
    have hno:∀ o x,dW [a0] o=some x→False:=by
     intro o x ho
     unfold dW at ho
     cases a0 with
     |sv _|kp _|fn _ _=>
      rcases Nat.eq_zero_or_pos (o / 64) with h|h
      · rw [h] at ho;cases ho
      · rw [List.getElem?_eq_none (by simp;omega)] at ho;cases ho
     |own _ _ _|ptr _=>simp [gX.read,jb.read] at hx0
    have fin:∀ {e w'} (ss:List (List UInt8)),ss=l.map (·.1)→(∀ s∈ss,s.length≤maxLen)→al7 w ss e w'→∃ t,((LM (l,())).2) t∧Pv S [a0] γ w k ⟨iR DZ t.1,none⟩ (iU jr t.2) e w':=by
     rintro e w' ss rfl hs ⟨g,cap,rfl,hown,hB⟩
     generalize hts:Lib.compact ((l.map (·.1)).mergeSort fun x y=>decide (x≤y))=ts at hown
     have hmem:∀ s,s∈ts↔s∈l.map (·.1):=fun s=>by rw [← hts,ako,List.mem_mergeSort]
     have htl:ts.length≤l.length:=by rw [← hts];have:=akp ((l.map (·.1)).mergeSort fun x y=>decide (x≤y));rw [List.length_mergeSort,List.length_map] at this;exact this
     refine ⟨((ts.map fun s=>(s,()),()),()),⟨by show (ts.map _).length≤_;rw [List.length_map];exact htl,fun s=>?_⟩,_,fun _=>undef,rfl,hB.os,hB.tape,hB.output,hB.size,fun b hb _=>hB.block b hb,?_,(fun o x hx=>by cases hx),(fun o x q y b hx=>by cases hx),fun o x hx=>?_⟩
     · obtain ⟨s,⟨⟩⟩:=s
       show (s,())∈ts.map _↔_
       have:=hmem s
       simp only [List.mem_map,Prod.mk.injEq,and_true,exists_eq_right] at this ⊢
       rw [this]
       constructor
       · rintro ⟨⟨a,⟨⟩⟩,h1,rfl⟩;exact h1
       · exact fun h=>⟨(s,()),h,rfl⟩
     · exact al9 hown fun s hs'=>hs s ((hmem s).1 hs')
     · unfold lQ at hx
       rcases Nat.eq_zero_or_pos (o / 64) with h|h
       · rw [h] at hx;cases hx
       · rw [List.getElem?_eq_none (by show 1≤_;omega)] at hx;cases hx
    rcases hcase with ⟨rfl,a,c,rfl⟩|⟨b,off,cap,cs,t,fz,rfl,hc,hS,hb,hxc⟩
    · cases a with
      |none=>
       refine (al8 0 c w).mono ?_
       rintro e w' ⟨rfl,rfl⟩
       refine ⟨(([],()),()),⟨Nat.le_refl _,fun _=>Iff.rfl⟩,_,fun _=>undef,rfl,rfl,rfl,rfl,Nat.le_refl _,fun b hb _=>rfl,⟨by simp, .inl ⟨rfl,none,0,rfl⟩⟩,(fun o x hx=>by cases hx),(fun o x q y b hx=>by cases hx),fun o x hx=>?_⟩
       unfold lQ at hx
       rcases Nat.eq_zero_or_pos (o / 64) with h|h
       · rw [h] at hx;cases hx
       · rw [List.getElem?_eq_none (by show 1≤_;omega)] at hx;cases hx
      |some a=>exact (aa6 0 _ [] w (by omega) (Tryz.slices_Clone_string_zero a c w)).mono fun e w' h=>fin [] rfl (fun s hs=>by cases hs) h
    · have hcell:∀ j (y:List UInt8×Unit),l[j]? =some y→w.cell? ⟨b,off+j,none⟩=some (.string ⟨y.1.toArray⟩)∧y.1.length≤maxLen:=by
       intro j y hy
       have:=hxc j y hy
       rw [show j*aK.len (.cons .str .nil)=j from Nat.mul_one j] at this
       obtain ⟨v',vs',hvs',hrc,hnil⟩:=this
       have hv1:v'= .string ⟨y.1.toArray⟩:=hrc.1
       have hcell:cs[off+j]? =some v':=by
        have h0:((cs.toList.drop (off+j)).take (aK.len (.cons .str .nil)))[0]? =(v'::vs')[0]? :=by rw [hvs']
        simpa [aK.len] using h0
       refine ⟨?_,hrc.2⟩
       simp only [World.cell?,hb]
       simpa [hv1] using hcell
      have hclone:=Tryz.slices_Clone_string b off l.length cap (l.map fun y:List UInt8×Unit=>(⟨y.1.toArray⟩:ByteArray)) w (by rw [List.length_map];exact Nat.le_refl _) (by omega) (fun j hj=>by
       rw [List.length_map] at hj
       have:=(hcell j l[j] (List.getElem?_eq_getElem hj)).1
       rw [this,List.getD_eq_getElem?_getD,List.getElem?_map,List.getElem?_eq_getElem hj]
       rfl)
      have hmap:((l.map fun y:List UInt8×Unit=>(⟨y.1.toArray⟩:ByteArray)).take l.length).map Value.string=(l.map (·.1)).map encStr:=by
       rw [List.take_of_length_le (by rw [List.length_map];exact Nat.le_refl _),List.map_map,List.map_map]
       rfl
      rw [hmap] at hclone
      exact (aa6 l.length _ (l.map (·.1)) w (by omega) hclone).mono fun e w' h=>fin (l.map (·.1)) rfl (fun s hs=>by
       obtain ⟨y,hy,rfl⟩:=List.mem_map.1 hs
       obtain ⟨j,hj,e⟩:=List.getElem_of_mem hy
       exact (hcell j y (by rw [List.getElem?_eq_getElem hj,e])).2) h
 · cases hcon
end Go.Proofs.Tryz
