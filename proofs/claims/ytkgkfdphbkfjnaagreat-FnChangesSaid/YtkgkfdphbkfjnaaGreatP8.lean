import Derived.Test.YtkgkfdphbkfjnaaGreatP7
namespace Go.Proofs.Tryz
open Go Go.Fw Go.IntWalk Sp
theorem Qb:OK AL.e:=by
 refine PA.ok mixed (au [] trivial) H0 (by kernel_rfl) (show ∀ x0 x1 p10,AL.goal (afp x0 x1 p10) ((x0,x1,()),(p10,()),()) from ?_)
 intro x0 x1 p hin hp
 dsimp only [AL] at hp ⊢
 exact rfl
theorem JS {d:List aC} {s:Sp.Bytes} {n:Nat} (hn:n<d.length) (h1:(bG d n).1=s) (h2:∀ i,i<n→(bG d i).1≠s):aJ d s=n:=by
 rcases pK d s with ⟨_,h⟩|⟨m,g1,g2,g3,g4⟩
 · exact (h _ (getD_mem (d:=(([]:List UInt8),([]:List bK),())) hn) h1).elim
 · have:m=n:=by
    rcases Nat.lt_trichotomy m n with h|h|h
    · exact (h2 m h g3).elim
    · exact h
    · exact (g4 n h h1).elim
   rw [g2,this]
theorem ajO {d:List aC} {s:Sp.Bytes} (h2:∀ i,i<d.length→(bG d i).1≠s):aJ d s=-1:=by
 rcases pK d s with ⟨h,_⟩|⟨m,g1,_,g3,_⟩
 · exact h
 · exact (h2 m g1 g3).elim
theorem BF:OK iK.e:=by
 refine PA.ok mixed (au [AL.e] ⟨Qb,trivial⟩) BH (by kernel_rfl) (show ∀ s mJ,iK.goal (BG s mJ) (s,((mJ,()),()),()) from ?_)
 intro d s hin hp
 dsimp only [iK] at hp ⊢
 have hlen:d.length≤maxLen:=hin.1.1
 rw [maxLen_eq] at hlen
 refine iM d.length hlen (fun n=>∀ i,i<n→(bG d i).1≠s) (fun i hi=>by omega) (fun I μ n hn hJ next=>?_) fun I μ hJ=>?_
 · dsimp only
   refine dH (by omega) ⟨⟨by omega,by omega⟩,trivial,af (fun h=>?_) fun h=>⟨rfl,next fun i hi=>?_⟩⟩
   · rw [JS hn (beq_iff_eq.1 h) hJ]
   · rcases Nat.lt_or_ge i n with h'|h'
     · exact hJ i h'
     · have:i=n:=by omega
       rw [this];exact beq_eq_false_iff_ne.1 h
 · dsimp only
   refine dI (by omega) ?_
   rw [ajO hJ]
theorem LC:OK AO.e:=by
 refine PA.ok mixed (au [iK.e,AL.e] ⟨BF,Qb,trivial⟩) H0 (by kernel_rfl) (show ∀ d name,AO.goal (aid d name) (d,name,()) from ?_)
 intro d s hin hp
 dsimp only [AO] at hp ⊢
 exact ⟨trivial,rfl⟩
theorem OU:OK yF.e:=by
 refine PA.ok mixed (au [] trivial) afq (by kernel_rfl) (show ∀ d name,yF.goal (ac6 d name) (d,name,()) from ?_)
 intro d s hin hp
 dsimp only [yF] at hp ⊢
 have hlen:d.length≤maxLen:=hin.1.1
 rw [maxLen_eq] at hlen
 refine iM d.length hlen (fun n=>∀ i,i<n→(bG d i).1≠s) (fun i hi=>by omega) (fun I μ n hn hJ next=>?_) fun I μ hJ=>?_
 · dsimp only
   refine dH (by omega) ⟨⟨by omega,by omega⟩,af (fun h=>?_) fun h=>⟨rfl,next fun i hi=>?_⟩⟩
   · rw [JS hn (beq_iff_eq.1 h) hJ]
   · rcases Nat.lt_or_ge i n with h'|h'
     · exact hJ i h'
     · have:i=n:=by omega
       rw [this];exact beq_eq_false_iff_ne.1 h
 · dsimp only
   refine dI (by omega) ?_
   rw [ajO hJ]
theorem Vz:OK yG.e:=by
 refine PA.ok mixed (au [AO.e] ⟨LC,trivial⟩) YW (by kernel_rfl) (show ∀ d Jl names more,yG.goal (Wu d Jl names more) (d,Jl,names,more,()) from ?_)
 intro d aI names more hin hp
 dsimp only [yG] at hp ⊢
 obtain ⟨h1,h2,h3,h4,h5⟩:d.length≤aI.length∧names.length≤1000∧0≤more∧more≤1∧∀ x∈aI,0≤x.1∧x.1≤1000000:=hp
 refine dN (fun i (c:Int)=>((c,i,()),())) (fun y=>y.1.2.1) (fun _ _=>rfl) names.length (by omega) (fun n c=>∀ B,c≤B↔0≤B∧∀ x∈names.take n,0≤aJ d x.1→Sp.lv aI (aJ d x.1).toNat+more≤B) (fun B=>by simp) (fun I μ n c hn hJ next=>?_) fun I μ c hJ=>?_
 · dsimp only
   rw [Int.toNat_natCast]
   have e:=Sp.take_succ' names n ([],()) hn
   refine dH (by omega) ⟨⟨by omega,by omega⟩,trivial,af (fun h=>?_) fun h=>⟨rfl,next _ fun B=>?_⟩⟩
   · have h:0≤aJ d (names.getD n ([],())).1:=fJ h
     have hlt:=Gy h
     have hb:=h5 _ (XV (l:=aI) (i:=(aJ d (names.getD n ([],())).1).toNat) (by omega))
     dsimp only at hb
     have hw:IntKind.i64.wrap (Sp.lv aI (aJ d (names.getD n ([],())).1).toNat+more)=Sp.lv aI (aJ d (names.getD n ([],())).1).toNat+more:=fF _ (by omega)
     have e2:(aI.getD (aJ d (names.getD n ([],())).1).toNat (0,())).1=Sp.lv aI (aJ d (names.getD n ([],())).1).toNat:=rfl
     refine ⟨⟨h,by omega⟩,rfl,next _ fun B=>?_⟩
     rw [e2,hw,e]
     simp only [List.mem_append,List.mem_singleton]
     have:=hJ B
     constructor
     · intro hB
       have hc:c≤B:=by split at hB<;>omega
       have hv:Sp.lv aI (aJ d (names.getD n ([],())).1).toNat+more≤B:=by split at hB<;>omega
       obtain ⟨a,b⟩:=this.1 hc
       refine ⟨a,fun x hx hx0=>?_⟩
       rcases hx with hx|rfl
       · exact b x hx hx0
       · exact hv
     · rintro ⟨a,b⟩
       have hc:=this.2 ⟨a,fun x hx=>b x (.inl hx)⟩
       have hv:=b _ (.inr rfl) h
       split<;>omega
   · have h:¬ 0≤aJ d (names.getD n ([],())).1:=fZ h
     rw [hJ B,e]
     simp only [List.mem_append,List.mem_singleton]
     constructor
     · rintro ⟨a,b⟩
       refine ⟨a,fun x hx hx0=>?_⟩
       rcases hx with hx|rfl
       · exact b x hx hx0
       · exact (h hx0).elim
     · exact fun ⟨a,b⟩=>⟨a,fun x hx=>b x (.inl hx)⟩
 · dsimp only
   refine dI (by omega) (congrArg (·,()) ?_)
   rw [List.take_length] at hJ
   have h6:=fun B=>(hJ B).trans (Io (d:=d) (aI:=aI) (more:=more) names B).symm
   have a:=(h6 c).1 (Int.le_refl _)
   have b:=(h6 (yH d aI more names)).2 (Int.le_refl _)
   omega
end Go.Proofs.Tryz
