import Derived.Test.YtgbobfdlafkijaaGreatP7
namespace Go.Proofs.Tryz
open Go Go.Fw Go.IntWalk
theorem adA:aA prog G zO zH:=by
 refine avU (aB (l:=[]) (au ah) (fun x hx=>by cases hx)) ?_
 intro x0 x1 p hin hp
 exact rfl
theorem Xr {d:List Sp.aY} {s:Sp.Bytes} {n:Nat} (hn:n<d.length) (h1:(Sp.fO d n).1=s) (h2:∀ i,i<n→(Sp.fO d i).1≠s):Sp.aX d s=n:=by
 rcases Sp.Pj d s with ⟨_,h⟩|⟨m,g1,g2,g3,g4⟩
 · exact (h _ (getD_mem (d:=(([]:List UInt8),([]:List Sp.bY),())) hn) h1).elim
 · have:m=n:=by
    rcases Nat.lt_trichotomy m n with h|h|h
    · exact (h2 m h g3).elim
    · exact h
    · exact (g4 n h h1).elim
   rw [g2,this]
theorem aBB {d:List Sp.aY} {s:Sp.Bytes} (h2:∀ i,i<d.length→(Sp.fO d i).1≠s):Sp.aX d s=-1:=by
 rcases Sp.Pj d s with ⟨h,_⟩|⟨m,g1,_,g3,_⟩
 · exact h
 · exact (h2 m g1 g3).elim
theorem J6:aA prog G jd jO:=by
 refine J7 (aB (l:=[(zO, .pure zH)]) (au ah) (by simp only [List.forall_mem_cons];exact ⟨⟨adA,abP⟩,fun x hx=>by cases hx⟩)) ?_
 intro d s hin hp
 have hlen:d.length≤maxLen:=hin.1.1
 rw [maxLen_eq] at hlen
 refine ku d.length hlen (fun n=>∀ i,i<n→(Sp.fO d i).1≠s) (fun i hi=>by omega) (fun I μ n hn hJ next=>?_) fun I μ hJ=>?_
 · dsimp only
   refine dW (by omega) ⟨⟨by omega,by omega⟩,trivial,af (fun h=>?_) fun h=>⟨rfl,next fun i hi=>?_⟩⟩
   · rw [Xr hn (beq_iff_eq.1 h) hJ]
   · rcases Nat.lt_or_ge i n with h'|h'
     · exact hJ i h'
     · have:i=n:=by omega
       rw [this];exact beq_eq_false_iff_ne.1 h
 · dsimp only
   refine dX (by omega) ?_
   rw [aBB hJ]
theorem az3:aA prog G OD O4:=by
 refine az4 (aB (l:=[(jd, .pure jO),(zO, .pure zH)]) (au ah) (by simp only [List.forall_mem_cons];exact ⟨⟨J6,IL⟩,⟨adA,abP⟩,fun x hx=>by cases hx⟩)) ?_
 intro d s hin hp
 exact ⟨trivial,rfl⟩
theorem asF:aA prog G G9 IY:=by
 refine asG (aB (l:=[]) (au ah) (fun x hx=>by cases hx)) ?_
 intro d s hin hp
 have hlen:d.length≤maxLen:=hin.1.1
 rw [maxLen_eq] at hlen
 refine ku d.length hlen (fun n=>∀ i,i<n→(Sp.fO d i).1≠s) (fun i hi=>by omega) (fun I μ n hn hJ next=>?_) fun I μ hJ=>?_
 · dsimp only
   refine dW (by omega) ⟨⟨by omega,by omega⟩,af (fun h=>?_) fun h=>⟨rfl,next fun i hi=>?_⟩⟩
   · rw [Xr hn (beq_iff_eq.1 h) hJ]
   · rcases Nat.lt_or_ge i n with h'|h'
     · exact hJ i h'
     · have:i=n:=by omega
       rw [this];exact beq_eq_false_iff_ne.1 h
 · dsimp only
   refine dX (by omega) ?_
   rw [aBB hJ]
theorem ajc:aA prog G Ak Ed:=by
 refine ajI (aB (l:=[(OD, .pure O4)]) (au ah) (by simp only [List.forall_mem_cons];exact ⟨⟨az3,axT⟩,fun x hx=>by cases hx⟩)) ?_
 intro d aI names more hin hp
 obtain ⟨h1,h2,h3,h4,h5⟩:d.length≤aI.length∧names.length≤1000∧0≤more∧more≤1∧∀ x∈aI,0≤x.1∧x.1≤1000000:=hp
 refine eX (fun i (c:Int)=>((c,i,()),())) (fun y=>y.1.2.1) (fun _ _=>rfl) names.length (by omega) (fun n c=>∀ B,c≤B↔0≤B∧∀ x∈names.take n,0≤Sp.aX d x.1→Sp.lv aI (Sp.aX d x.1).toNat+more≤B) (fun B=>by simp) (fun I μ n c hn hJ next=>?_) fun I μ c hJ=>?_
 · dsimp only
   rw [Int.toNat_natCast]
   have e:=Sp.take_succ' names n ([],()) hn
   refine dW (by omega) ⟨⟨by omega,by omega⟩,trivial,af (fun h=>?_) fun h=>⟨rfl,next _ fun B=>?_⟩⟩
   · have h:0≤Sp.aX d (names.getD n ([],())).1:=ji h
     have hlt:=Sp.XO h
     have hb:=h5 _ (Sp.ame (l:=aI) (i:=(Sp.aX d (names.getD n ([],())).1).toNat) (by omega))
     dsimp only at hb
     have hw:IntKind.i64.wrap (Sp.lv aI (Sp.aX d (names.getD n ([],())).1).toNat+more)=Sp.lv aI (Sp.aX d (names.getD n ([],())).1).toNat+more:=iL _ (by omega)
     have e2:(aI.getD (Sp.aX d (names.getD n ([],())).1).toNat (0,())).1=Sp.lv aI (Sp.aX d (names.getD n ([],())).1).toNat:=rfl
     refine ⟨⟨h,by omega⟩,rfl,next _ fun B=>?_⟩
     rw [e2,hw,e]
     simp only [List.mem_append,List.mem_singleton]
     have:=hJ B
     constructor
     · intro hB
       have hc:c≤B:=by split at hB<;>omega
       have hv:Sp.lv aI (Sp.aX d (names.getD n ([],())).1).toNat+more≤B:=by split at hB<;>omega
       obtain ⟨a,b⟩:=this.1 hc
       refine ⟨a,fun x hx hx0=>?_⟩
       rcases hx with hx|rfl
       · exact b x hx hx0
       · exact hv
     · rintro ⟨a,b⟩
       have hc:=this.2 ⟨a,fun x hx=>b x (.inl hx)⟩
       have hv:=b _ (.inr rfl) h
       split<;>omega
   · have h:¬ 0≤Sp.aX d (names.getD n ([],())).1:=jl h
     rw [hJ B,e]
     simp only [List.mem_append,List.mem_singleton]
     constructor
     · rintro ⟨a,b⟩
       refine ⟨a,fun x hx hx0=>?_⟩
       rcases hx with hx|rfl
       · exact b x hx hx0
       · exact (h hx0).elim
     · exact fun ⟨a,b⟩=>⟨a,fun x hx=>b x (.inl hx)⟩
 · dsimp only
   refine dX (by omega) (congrArg (·,()) ?_)
   rw [List.take_length] at hJ
   have h6:=fun B=>(hJ B).trans (Sp.Ua (d:=d) (aI:=aI) (more:=more) names B).symm
   have a:=(h6 c).1 (Int.le_refl _)
   have b:=(h6 (Sp.ET d aI more names)).2 (Int.le_refl _)
   omega
end Go.Proofs.Tryz
