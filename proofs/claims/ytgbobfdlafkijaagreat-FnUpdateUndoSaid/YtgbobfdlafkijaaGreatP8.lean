import Derived.Test.YtgbobfdlafkijaaGreatP7
namespace Go.Proofs.Tryz
open Go Go.Fw Go.IntWalk
theorem aa2:aA prog G yI yA:=by
 refine ast (aC (l:=[]) (au ah) (fun x hx=>by cases hx)) ?_
 intro x0 x1 p hin hp
 exact rfl
theorem U7 {d:List Sp.aW} {s:Sp.Bytes} {n:Nat} (hn:n<d.length) (h1:(Sp.eP d n).1=s) (h2:∀ i,i<n→(Sp.eP d i).1≠s):Sp.aU d s=n:=by
 rcases Sp.Nc d s with ⟨_,h⟩|⟨m,g1,g2,g3,g4⟩
 · exact (h _ (getD_mem (d:=(([]:List UInt8),([]:List Sp.bM),())) hn) h1).elim
 · have:m=n:=by
    rcases Nat.lt_trichotomy m n with h|h|h
    · exact (h2 m h g3).elim
    · exact h
    · exact (g4 n h h1).elim
   rw [g2,this]
theorem aym {d:List Sp.aW} {s:Sp.Bytes} (h2:∀ i,i<d.length→(Sp.eP d i).1≠s):Sp.aU d s=-1:=by
 rcases Sp.Nc d s with ⟨h,_⟩|⟨m,g1,_,g3,_⟩
 · exact h
 · exact (h2 m g1 g3).elim
theorem IB:aA prog G iL jq:=by
 refine IC (aC (l:=[(yI, .pure yA)]) (au ah) (by simp only [List.forall_mem_cons];exact ⟨⟨aa2,Zv⟩,fun x hx=>by cases hx⟩)) ?_
 intro d s hin hp
 have hlen:d.length≤maxLen:=hin.1.1
 rw [maxLen_eq] at hlen
 refine jH d.length hlen (fun n=>∀ i,i<n→(Sp.eP d i).1≠s) (fun i hi=>by omega) (fun I μ n hn hJ next=>?_) fun I μ hJ=>?_
 · dsimp only
   refine eF (by omega) ⟨⟨by omega,by omega⟩,trivial,af (fun h=>?_) fun h=>⟨rfl,next fun i hi=>?_⟩⟩
   · rw [U7 hn (beq_iff_eq.1 h) hJ]
   · rcases Nat.lt_or_ge i n with h'|h'
     · exact hJ i h'
     · have:i=n:=by omega
       rw [this];exact beq_eq_false_iff_ne.1 h
 · dsimp only
   refine eG (by omega) ?_
   rw [aym hJ]
theorem awL:aA prog G L6 MQ:=by
 refine awM (aC (l:=[(iL, .pure jq),(yI, .pure yA)]) (au ah) (by simp only [List.forall_mem_cons];exact ⟨⟨IB,Gs⟩,⟨aa2,Zv⟩,fun x hx=>by cases hx⟩)) ?_
 intro d s hin hp
 exact ⟨trivial,rfl⟩
theorem apk:aA prog G Fe Gz:=by
 refine apl (aC (l:=[]) (au ah) (fun x hx=>by cases hx)) ?_
 intro d s hin hp
 have hlen:d.length≤maxLen:=hin.1.1
 rw [maxLen_eq] at hlen
 refine jH d.length hlen (fun n=>∀ i,i<n→(Sp.eP d i).1≠s) (fun i hi=>by omega) (fun I μ n hn hJ next=>?_) fun I μ hJ=>?_
 · dsimp only
   refine eF (by omega) ⟨⟨by omega,by omega⟩,af (fun h=>?_) fun h=>⟨rfl,next fun i hi=>?_⟩⟩
   · rw [U7 hn (beq_iff_eq.1 h) hJ]
   · rcases Nat.lt_or_ge i n with h'|h'
     · exact hJ i h'
     · have:i=n:=by omega
       rw [this];exact beq_eq_false_iff_ne.1 h
 · dsimp only
   refine eG (by omega) ?_
   rw [aym hJ]
theorem agF:aA prog G yZ Cj:=by
 refine ag8 (aC (l:=[(L6, .pure MQ)]) (au ah) (by simp only [List.forall_mem_cons];exact ⟨⟨awL,aur⟩,fun x hx=>by cases hx⟩)) ?_
 intro d aF names more hin hp
 obtain ⟨h1,h2,h3,h4,h5⟩:d.length≤aF.length∧names.length≤1000∧0≤more∧more≤1∧∀ x∈aF,0≤x.1∧x.1≤1000000:=hp
 refine gQ (fun i (c:Int)=>((c,i,()),())) (fun y=>y.1.2.1) (fun _ _=>rfl) names.length (by omega) (fun n c=>∀ B,c≤B↔0≤B∧∀ x∈names.take n,0≤Sp.aU d x.1→Sp.lv aF (Sp.aU d x.1).toNat+more≤B) (fun B=>by simp) (fun I μ n c hn hJ next=>?_) fun I μ c hJ=>?_
 · dsimp only
   rw [Int.toNat_natCast]
   have e:=Sp.take_succ' names n ([],()) hn
   refine eF (by omega) ⟨⟨by omega,by omega⟩,trivial,af (fun h=>?_) fun h=>⟨rfl,next _ fun B=>?_⟩⟩
   · have h:0≤Sp.aU d (names.getD n ([],())).1:=jw h
     have hlt:=Sp.Vo h
     have hb:=h5 _ (Sp.ajv (l:=aF) (i:=(Sp.aU d (names.getD n ([],())).1).toNat) (by omega))
     dsimp only at hb
     have hw:IntKind.i64.wrap (Sp.lv aF (Sp.aU d (names.getD n ([],())).1).toNat+more)=Sp.lv aF (Sp.aU d (names.getD n ([],())).1).toNat+more:=iM _ (by omega)
     have e2:(aF.getD (Sp.aU d (names.getD n ([],())).1).toNat (0,())).1=Sp.lv aF (Sp.aU d (names.getD n ([],())).1).toNat:=rfl
     refine ⟨⟨h,by omega⟩,rfl,next _ fun B=>?_⟩
     rw [e2,hw,e]
     simp only [List.mem_append,List.mem_singleton]
     have:=hJ B
     constructor
     · intro hB
       have hc:c≤B:=by split at hB<;>omega
       have hv:Sp.lv aF (Sp.aU d (names.getD n ([],())).1).toNat+more≤B:=by split at hB<;>omega
       obtain ⟨a,b⟩:=this.1 hc
       refine ⟨a,fun x hx hx0=>?_⟩
       rcases hx with hx|rfl
       · exact b x hx hx0
       · exact hv
     · rintro ⟨a,b⟩
       have hc:=this.2 ⟨a,fun x hx=>b x (.inl hx)⟩
       have hv:=b _ (.inr rfl) h
       split<;>omega
   · have h:¬ 0≤Sp.aU d (names.getD n ([],())).1:=jB h
     rw [hJ B,e]
     simp only [List.mem_append,List.mem_singleton]
     constructor
     · rintro ⟨a,b⟩
       refine ⟨a,fun x hx hx0=>?_⟩
       rcases hx with hx|rfl
       · exact b x hx hx0
       · exact (h hx0).elim
     · exact fun ⟨a,b⟩=>⟨a,fun x hx=>b x (.inl hx)⟩
 · dsimp only
   refine eG (by omega) (congrArg (·,()) ?_)
   rw [List.take_length] at hJ
   have h6:=fun B=>(hJ B).trans (Sp.QF (d:=d) (aF:=aF) (more:=more) names B).symm
   have a:=(h6 c).1 (Int.le_refl _)
   have b:=(h6 (Sp.Du d aF more names)).2 (Int.le_refl _)
   omega
end Go.Proofs.Tryz
