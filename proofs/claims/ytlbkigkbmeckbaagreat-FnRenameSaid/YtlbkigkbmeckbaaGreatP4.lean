import Derived.Test.YtlbkigkbmeckbaaGreatP3
namespace Go.Proofs.Tryz
open Go Go.Fw Go.IntWalk
theorem EI:ai prog G rH.e:=by
 refine ajd (aj ah trivial) ?_
 intro a b hin hp
 dsimp only [rH] at hp ⊢
 have hlen:a.length≤maxLen:=hin.1.1
 rw [maxLen_eq] at hlen
 refine af (fun h=>?_) fun h=>?_
 · have h:(a.length:Int)≠b.length:=by simpa using h
   exact congrArg (·,()) (decide_eq_false fun e=>h (by rw [e])).symm
 · have h:(a.length:Int)=b.length:=by simpa using h
   exact Tz (K:=fun r=>r=(decide (a=b),())) (fun x y=>x.1 !=y.1) (fun x y=>by simp [Prod.ext_iff]) _ a b _ hlen (by omega) (fun e=>by rw [decide_eq_false e]) fun e=>by rw [decide_eq_true e]
theorem adr:ai prog G zF.e:=by
 refine ads (aj ah trivial) ?_
 intro a b hin hp
 dsimp only [zF] at hp ⊢
 have hlen:a.length≤maxLen:=hin.1.1
 rw [maxLen_eq] at hlen
 refine af (fun h=>?_) fun h=>?_
 · have h:(a.length:Int)≠b.length:=by simpa using h
   exact congrArg (·,()) (decide_eq_false fun e=>h (by rw [e])).symm
 · have h:(a.length:Int)=b.length:=by simpa using h
   exact Tz (K:=fun r=>r=(decide (a=b),())) (fun x y=>!(x.1==y.1&&(x.2.1==y.2.1&&(x.2.2.1==y.2.2.1&&(x.2.2.2.1==y.2.2.2.1&&(x.2.2.2.2.1==y.2.2.2.2.1&&(x.2.2.2.2.2.1==y.2.2.2.2.2.1&&(x.2.2.2.2.2.2.1==y.2.2.2.2.2.2.1&&true)))))))) (fun x y=>by simp [Prod.ext_iff]) _ a b _ hlen (by omega) (fun e=>by rw [decide_eq_false e]) fun e=>by rw [decide_eq_true e]
theorem aje:ai prog G BV.e:=by
 refine ajf (aj ah ⟨adr,trivial⟩) ?_
 intro a0 a1 b0 b1 hin hp
 dsimp only [BV] at hp ⊢
 refine af (fun h0=>⟨trivial,?_⟩) fun h0=>?_
 all_goals refine congrArg (·,()) (Bool.eq_iff_iff.2 ?_)
 · simp only [beq_iff_eq] at h0
   subst h0
   simp
 · have h0:a0≠b0:=by simpa using h0
   simp [h0]
theorem af4:ai prog G Ak.e:=by
 refine agc (aj ah ⟨aje,trivial⟩) ?_
 intro a b hin hp
 dsimp only [Ak] at hp ⊢
 have hlen:a.length≤maxLen:=hin.1.1
 rw [maxLen_eq] at hlen
 refine af (fun h=>?_) fun h=>?_
 · have h:(a.length:Int)≠b.length:=by simpa using h
   exact congrArg (·,()) (decide_eq_false fun e=>h (by rw [e])).symm
 · have h:(a.length:Int)=b.length:=by simpa using h
   exact afC (K:=fun r=>r=(decide (a=b),())) (fun x y=>!decide ((x.1,x.2.1,())=(y.1,y.2.1,()))) (fun x y=>by simp [Prod.ext_iff]) _ a b _ hlen (by omega) (fun e=>by rw [decide_eq_false e]) fun e=>by rw [decide_eq_true e]
theorem Oy:ai prog G xq.e:=by
 refine agd (aj ah trivial) ?_
 intro n0 n1 n2 n3 n4 n5 n6 hin hp
 dsimp only [xq] at hp ⊢
 exact af (fun h=>by rw [h];rfl) fun h=>by rw [h];rfl
theorem Nc:ai prog G nG.e:=by
 refine Nh (aj ah trivial) ?_
 intro s hin hp
 dsimp only [nG] at hp ⊢
 have hp:s.length≤1000:=hp
 refine fun g hg=>af (fun h=>?_) fun h=>⟨by rw [bU];omega,rfl⟩
 have:=hg h
 rw [List.eq_nil_of_length_eq_zero this]
theorem ajg:ai prog G BU.e:=by
 refine ajh (aj ah ⟨Nc,trivial⟩) ?_
 intro x0 x1 hin hp
 dsimp only [BU] at hp ⊢
 exact ⟨hp,rfl⟩
theorem qW {d:List Sp.aT} (h:Sp.aV d) {n:Nat} (hn:n<d.length):(d.getD n ([],[],())).2.1.length≤1000:=h.2 _ (getD_mem hn)
theorem OG:ai prog G xu.e:=by
 refine agf (aj ah ⟨ajg,trivial⟩) ?_
 intro d hin hp
 dsimp only [xu] at hp ⊢
 have hp:Sp.aV d:=hp
 have hlen:d.length≤1000:=hp.1
 refine dM (fun i (x:List Sp.aT)=>(((),i,()),x,())) (fun y=>y.1.2.1) (fun _ _=>rfl) d.length (by omega) (fun n l=>l=d.take n) (by simp) (fun I μ n l hn hJ next=>?_) fun I μ l hJ=>?_
 · subst hJ
   have hl:(d.take n).length≤n:=by rw [List.length_take];omega
   dsimp only
   refine dh (by omega) ⟨⟨by omega,by omega⟩,qW hp hn,by rw [bU];simp only [List.length_cons,List.length_nil];omega,rfl,next _ ?_⟩
   exact (Sp.take_succ' d n ([],[],()) hn).symm
 · subst hJ
   dsimp only
   refine dm (by omega) ?_
   rw [List.take_length]
theorem Qc:ai prog G zf.e:=by
 refine aji (aj ah trivial) ?_
 intro d hin hp
 dsimp only [zf] at hp ⊢
 have hp:Sp.aV d:=hp
 have hlen:d.length≤1000:=hp.1
 refine dM (fun i (x:List Sp.aT)=>(((),i,()),x,())) (fun y=>y.1.2.1) (fun _ _=>rfl) d.length (by omega) (fun n l=>l=d.take n) (by simp) (fun I μ n l hn hJ next=>?_) fun I μ l hJ=>?_
 · subst hJ
   have hl:(d.take n).length≤n:=by rw [List.length_take];omega
   dsimp only
   refine dh (by omega) ⟨⟨by omega,by omega⟩,⟨by omega,by omega⟩,by rw [bU];have:=qW hp hn;show 0+(d.getD n ([],[],())).2.1.length≤_;omega,by rw [bU];simp only [List.length_cons,List.length_nil];omega,rfl,next _ ?_⟩
   exact (Sp.take_succ' d n ([],[],()) hn).symm
 · subst hJ
   dsimp only
   refine dm (by omega) ?_
   rw [List.take_length]
end Go.Proofs.Tryz
