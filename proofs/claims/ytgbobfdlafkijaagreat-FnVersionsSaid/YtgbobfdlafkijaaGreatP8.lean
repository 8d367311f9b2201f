import Derived.Test.YtgbobfdlafkijaaGreatP7
namespace Go.Proofs.Tryz
open Go Go.Fw Go.IntWalk
theorem YC:aG prog G xY xM:=by
 refine amX (aF (l:=[]) (ay ah) (fun x hx=>by cases hx)) ?_
 intro x0 x1 p hin hp
 exact rfl
theorem WH {d:List Sp.gK} {s:Sp.Bytes} {n:Nat} (hn:n<d.length) (h1:(Sp.iF d n).1=s) (h2:∀ i,i<n→(Sp.iF d i).1≠s):Sp.aT d s=n:=by
 rcases Sp.QI d s with ⟨_,h⟩|⟨m,g1,g2,g3,g4⟩
 · exact (h _ (getD_mem (d:=(([]:List UInt8),([]:List Sp.jv),())) hn) h1).elim
 · have:m=n:=by
    rcases Nat.lt_trichotomy m n with h|h|h
    · exact (h2 m h g3).elim
    · exact h
    · exact (g4 n h h1).elim
   rw [g2,this]
theorem asv {d:List Sp.gK} {s:Sp.Bytes} (h2:∀ i,i<d.length→(Sp.iF d i).1≠s):Sp.aT d s=-1:=by
 rcases Sp.QI d s with ⟨h,_⟩|⟨m,g1,_,g3,_⟩
 · exact h
 · exact (h2 m g1 g3).elim
theorem Gf:aG prog G iq jl:=by
 refine Gg (aF (l:=[(xY, .pure xM)]) (ay ah) (by simp only [List.forall_mem_cons];exact ⟨⟨YC,Wy⟩,fun x hx=>by cases hx⟩)) ?_
 intro d s hin hp
 have hlen:d.length≤maxLen:=hin.1.1
 rw [maxLen_eq] at hlen
 refine kW d.length hlen (fun n=>∀ i,i<n→(Sp.iF d i).1≠s) (fun i hi=>by omega) (fun I μ n hn hJ next=>?_) fun I μ hJ=>?_
 · dsimp only
   refine iK (by omega) ⟨⟨by omega,by omega⟩,trivial,af (fun h=>?_) fun h=>⟨rfl,next fun i hi=>?_⟩⟩
   · rw [WH hn (beq_iff_eq.1 h) hJ]
   · rcases Nat.lt_or_ge i n with h'|h'
     · exact hJ i h'
     · have:i=n:=by omega
       rw [this];exact beq_eq_false_iff_ne.1 h
 · dsimp only
   refine iL (by omega) ?_
   rw [asv hJ]
theorem aqG:aG prog G JL J6:=by
 refine aqH (aF (l:=[(iq, .pure jl),(xY, .pure xM)]) (ay ah) (by simp only [List.forall_mem_cons];exact ⟨⟨Gf,EN⟩,⟨YC,Wy⟩,fun x hx=>by cases hx⟩)) ?_
 intro d s hin hp
 exact ⟨trivial,rfl⟩
theorem aky:aG prog G Ec EX:=by
 refine akz (aF (l:=[]) (ay ah) (fun x hx=>by cases hx)) ?_
 intro d s hin hp
 have hlen:d.length≤maxLen:=hin.1.1
 rw [maxLen_eq] at hlen
 refine kW d.length hlen (fun n=>∀ i,i<n→(Sp.iF d i).1≠s) (fun i hi=>by omega) (fun I μ n hn hJ next=>?_) fun I μ hJ=>?_
 · dsimp only
   refine iK (by omega) ⟨⟨by omega,by omega⟩,af (fun h=>?_) fun h=>⟨rfl,next fun i hi=>?_⟩⟩
   · rw [WH hn (beq_iff_eq.1 h) hJ]
   · rcases Nat.lt_or_ge i n with h'|h'
     · exact hJ i h'
     · have:i=n:=by omega
       rw [this];exact beq_eq_false_iff_ne.1 h
 · dsimp only
   refine iL (by omega) ?_
   rw [asv hJ]
theorem aeb:aG prog G yX AX:=by
 refine aex (aF (l:=[(JL, .pure J6)]) (ay ah) (by simp only [List.forall_mem_cons];exact ⟨⟨aqG,aoo⟩,fun x hx=>by cases hx⟩)) ?_
 intro d bC names more hin hp
 obtain ⟨h1,h2,h3,h4,h5⟩:d.length≤bC.length∧names.length≤1000∧0≤more∧more≤1∧∀ x∈bC,0≤x.1∧x.1≤1000000:=hp
 refine nR (fun i (c:Int)=>((c,i,()),())) (fun y=>y.1.2.1) (fun _ _=>rfl) names.length (by omega) (fun n c=>∀ B,c≤B↔0≤B∧∀ x∈names.take n,0≤Sp.aT d x.1→Sp.lv bC (Sp.aT d x.1).toNat+more≤B) (fun B=>by simp) (fun I μ n c hn hJ next=>?_) fun I μ c hJ=>?_
 · dsimp only
   rw [Int.toNat_natCast]
   have e:=Sp.take_succ' names n ([],()) hn
   refine iK (by omega) ⟨⟨by omega,by omega⟩,trivial,af (fun h=>?_) fun h=>⟨rfl,next _ fun B=>?_⟩⟩
   · have h:0≤Sp.aT d (names.getD n ([],())).1:=iO h
     have hlt:=Sp.QV h
     have hb:=h5 _ (Sp.asw (l:=bC) (i:=(Sp.aT d (names.getD n ([],())).1).toNat) (by omega))
     dsimp only at hb
     have hw:IntKind.i64.wrap (Sp.lv bC (Sp.aT d (names.getD n ([],())).1).toNat+more)=Sp.lv bC (Sp.aT d (names.getD n ([],())).1).toNat+more:=iI _ (by omega)
     have e2:(bC.getD (Sp.aT d (names.getD n ([],())).1).toNat (0,())).1=Sp.lv bC (Sp.aT d (names.getD n ([],())).1).toNat:=rfl
     refine ⟨⟨h,by omega⟩,rfl,next _ fun B=>?_⟩
     rw [e2,hw,e]
     simp only [List.mem_append,List.mem_singleton]
     have:=hJ B
     constructor
     · intro hB
       have hc:c≤B:=by split at hB<;>omega
       have hv:Sp.lv bC (Sp.aT d (names.getD n ([],())).1).toNat+more≤B:=by split at hB<;>omega
       obtain ⟨a,b⟩:=this.1 hc
       refine ⟨a,fun x hx hx0=>?_⟩
       rcases hx with hx|rfl
       · exact b x hx hx0
       · exact hv
     · rintro ⟨a,b⟩
       have hc:=this.2 ⟨a,fun x hx=>b x (.inl hx)⟩
       have hv:=b _ (.inr rfl) h
       split<;>omega
   · have h:¬ 0≤Sp.aT d (names.getD n ([],())).1:=ji h
     rw [hJ B,e]
     simp only [List.mem_append,List.mem_singleton]
     constructor
     · rintro ⟨a,b⟩
       refine ⟨a,fun x hx hx0=>?_⟩
       rcases hx with hx|rfl
       · exact b x hx hx0
       · exact (h hx0).elim
     · exact fun ⟨a,b⟩=>⟨a,fun x hx=>b x (.inl hx)⟩
 · dsimp only
   refine iL (by omega) (congrArg (·,()) ?_)
   rw [List.take_length] at hJ
   have h6:=fun B=>(hJ B).trans (Sp.NU (d:=d) (bC:=bC) (more:=more) names B).symm
   have a:=(h6 c).1 (Int.le_refl _)
   have b:=(h6 (Sp.Cc d bC more names)).2 (Int.le_refl _)
   omega
end Go.Proofs.Tryz
