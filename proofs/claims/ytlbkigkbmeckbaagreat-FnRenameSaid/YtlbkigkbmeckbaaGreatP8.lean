import Derived.Test.YtlbkigkbmeckbaaGreatP7
namespace Go.Proofs.Tryz
open Go Go.Fw Go.IntWalk
theorem Qj:ai prog G yZ.e:=by
 refine ajn (aj ah trivial) ?_
 intro x0 x1 p hin hp
 dsimp only [yZ] at hp ⊢
 exact rfl
theorem JE {d:List Sp.aT} {s:Sp.Bytes} {n:Nat} (hn:n<d.length) (h1:(Sp.dX d n).1=s) (h2:∀ i,i<n→(Sp.dX d i).1≠s):Sp.aU d s=n:=by
 rcases Sp.Fv d s with ⟨_,h⟩|⟨m,g1,g2,g3,g4⟩
 · exact (h _ (getD_mem (d:=(([]:List UInt8),([]:List Sp.bJ),())) hn) h1).elim
 · have:m=n:=by
    rcases Nat.lt_trichotomy m n with h|h|h
    · exact (h2 m h g3).elim
    · exact h
    · exact (g4 n h h1).elim
   rw [g2,this]
theorem apR {d:List Sp.aT} {s:Sp.Bytes} (h2:∀ i,i<d.length→(Sp.dX d i).1≠s):Sp.aU d s=-1:=by
 rcases Sp.Fv d s with ⟨h,_⟩|⟨m,g1,_,g3,_⟩
 · exact h
 · exact (h2 m g1 g3).elim
theorem C9:ai prog G gQ.e:=by
 refine Dc (aj ah ⟨Qj,trivial⟩) ?_
 intro d s hin hp
 dsimp only [gQ] at hp ⊢
 have hlen:d.length≤maxLen:=hin.1.1
 rw [maxLen_eq] at hlen
 refine jd d.length hlen (fun n=>∀ i,i<n→(Sp.dX d i).1≠s) (fun i hi=>by omega) (fun I μ n hn hJ next=>?_) fun I μ hJ=>?_
 · dsimp only
   refine dh (by omega) ⟨⟨by omega,by omega⟩,trivial,af (fun h=>?_) fun h=>⟨rfl,next fun i hi=>?_⟩⟩
   · rw [JE hn (beq_iff_eq.1 h) hJ]
   · rcases Nat.lt_or_ge i n with h'|h'
     · exact hJ i h'
     · have:i=n:=by omega
       rw [this];exact beq_eq_false_iff_ne.1 h
 · dsimp only
   refine dm (by omega) ?_
   rw [apR hJ]
theorem an1:ai prog G EM.e:=by
 refine an2 (aj ah ⟨C9,Qj,trivial⟩) ?_
 intro d s hin hp
 dsimp only [EM] at hp ⊢
 exact ⟨trivial,rfl⟩
theorem agi:ai prog G Ai.e:=by
 refine agj (aj ah trivial) ?_
 intro d s hin hp
 dsimp only [Ai] at hp ⊢
 have hlen:d.length≤maxLen:=hin.1.1
 rw [maxLen_eq] at hlen
 refine jd d.length hlen (fun n=>∀ i,i<n→(Sp.dX d i).1≠s) (fun i hi=>by omega) (fun I μ n hn hJ next=>?_) fun I μ hJ=>?_
 · dsimp only
   refine dh (by omega) ⟨⟨by omega,by omega⟩,af (fun h=>?_) fun h=>⟨rfl,next fun i hi=>?_⟩⟩
   · rw [JE hn (beq_iff_eq.1 h) hJ]
   · rcases Nat.lt_or_ge i n with h'|h'
     · exact hJ i h'
     · have:i=n:=by omega
       rw [this];exact beq_eq_false_iff_ne.1 h
 · dsimp only
   refine dm (by omega) ?_
   rw [apR hJ]
theorem XD:ai prog G wz.e:=by
 refine Yh (aj ah ⟨an1,trivial⟩) ?_
 intro d aG names more hin hp
 dsimp only [wz] at hp ⊢
 obtain ⟨h1,h2,h3,h4,h5⟩:d.length≤aG.length∧names.length≤1000∧0≤more∧more≤1∧∀ x∈aG,0≤x.1∧x.1≤1000000:=hp
 refine dM (fun i (c:Int)=>((c,i,()),())) (fun y=>y.1.2.1) (fun _ _=>rfl) names.length (by omega) (fun n c=>∀ B,c≤B↔0≤B∧∀ x∈names.take n,0≤Sp.aU d x.1→Sp.lv aG (Sp.aU d x.1).toNat+more≤B) (fun B=>by simp) (fun I μ n c hn hJ next=>?_) fun I μ c hJ=>?_
 · dsimp only
   rw [Int.toNat_natCast]
   have e:=Sp.take_succ' names n ([],()) hn
   refine dh (by omega) ⟨⟨by omega,by omega⟩,trivial,af (fun h=>?_) fun h=>⟨rfl,next _ fun B=>?_⟩⟩
   · have h:0≤Sp.aU d (names.getD n ([],())).1:=gG h
     have hlt:=Sp.J6 h
     have hb:=h5 _ (Sp.aap (l:=aG) (i:=(Sp.aU d (names.getD n ([],())).1).toNat) (by omega))
     dsimp only at hb
     have hw:IntKind.i64.wrap (Sp.lv aG (Sp.aU d (names.getD n ([],())).1).toNat+more)=Sp.lv aG (Sp.aU d (names.getD n ([],())).1).toNat+more:=gu _ (by omega)
     have e2:(aG.getD (Sp.aU d (names.getD n ([],())).1).toNat (0,())).1=Sp.lv aG (Sp.aU d (names.getD n ([],())).1).toNat:=rfl
     refine ⟨⟨h,by omega⟩,rfl,next _ fun B=>?_⟩
     rw [e2,hw,e]
     simp only [List.mem_append,List.mem_singleton]
     have:=hJ B
     constructor
     · intro hB
       have hc:c≤B:=by split at hB<;>omega
       have hv:Sp.lv aG (Sp.aU d (names.getD n ([],())).1).toNat+more≤B:=by split at hB<;>omega
       obtain ⟨a,b⟩:=this.1 hc
       refine ⟨a,fun x hx hx0=>?_⟩
       rcases hx with hx|rfl
       · exact b x hx hx0
       · exact hv
     · rintro ⟨a,b⟩
       have hc:=this.2 ⟨a,fun x hx=>b x (.inl hx)⟩
       have hv:=b _ (.inr rfl) h
       split<;>omega
   · have h:¬ 0≤Sp.aU d (names.getD n ([],())).1:=iw h
     rw [hJ B,e]
     simp only [List.mem_append,List.mem_singleton]
     constructor
     · rintro ⟨a,b⟩
       refine ⟨a,fun x hx hx0=>?_⟩
       rcases hx with hx|rfl
       · exact b x hx hx0
       · exact (h hx0).elim
     · exact fun ⟨a,b⟩=>⟨a,fun x hx=>b x (.inl hx)⟩
 · dsimp only
   refine dm (by omega) (congrArg (·,()) ?_)
   rw [List.take_length] at hJ
   have h6:=fun B=>(hJ B).trans (Sp.Hy (d:=d) (aG:=aG) (more:=more) names B).symm
   have a:=(h6 c).1 (Int.le_refl _)
   have b:=(h6 (Sp.Aj d aG more names)).2 (Int.le_refl _)
   omega
end Go.Proofs.Tryz
