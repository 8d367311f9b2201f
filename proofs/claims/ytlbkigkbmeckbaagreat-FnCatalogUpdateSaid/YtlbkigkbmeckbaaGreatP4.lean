import Derived.Test.YtlbkigkbmeckbaaGreatP3
namespace Go.Proofs.Tryz
open Go Go.Fw Go.IntWalk
theorem DV:ai prog G rC.e:=by
 refine ahX (aj ah trivial) ?_
 intro a b hin hp
 dsimp only [rC] at hp ⊢
 have hlen:a.length≤maxLen:=hin.1.1
 rw [maxLen_eq] at hlen
 refine af (fun h=>?_) fun h=>?_
 · have h:(a.length:Int)≠b.length:=by simpa using h
   exact congrArg (·,()) (decide_eq_false fun e=>h (by rw [e])).symm
 · have h:(a.length:Int)=b.length:=by simpa using h
   exact Ru (K:=fun r=>r=(decide (a=b),())) (fun x y=>x.1 !=y.1) (fun x y=>by simp [Prod.ext_iff]) _ a b _ hlen (by omega) (fun e=>by rw [decide_eq_false e]) fun e=>by rw [decide_eq_true e]
theorem ace:ai prog G yZ.e:=by
 refine acf (aj ah trivial) ?_
 intro a b hin hp
 dsimp only [yZ] at hp ⊢
 have hlen:a.length≤maxLen:=hin.1.1
 rw [maxLen_eq] at hlen
 refine af (fun h=>?_) fun h=>?_
 · have h:(a.length:Int)≠b.length:=by simpa using h
   exact congrArg (·,()) (decide_eq_false fun e=>h (by rw [e])).symm
 · have h:(a.length:Int)=b.length:=by simpa using h
   exact Ru (K:=fun r=>r=(decide (a=b),())) (fun x y=>!(x.1==y.1&&(x.2.1==y.2.1&&(x.2.2.1==y.2.2.1&&(x.2.2.2.1==y.2.2.2.1&&(x.2.2.2.2.1==y.2.2.2.2.1&&(x.2.2.2.2.2.1==y.2.2.2.2.2.1&&(x.2.2.2.2.2.2.1==y.2.2.2.2.2.2.1&&true)))))))) (fun x y=>by simp [Prod.ext_iff]) _ a b _ hlen (by omega) (fun e=>by rw [decide_eq_false e]) fun e=>by rw [decide_eq_true e]
theorem ahY:ai prog G AY.e:=by
 refine ahZ (aj ah ⟨ace,trivial⟩) ?_
 intro a0 a1 b0 b1 hin hp
 dsimp only [AY] at hp ⊢
 refine af (fun h0=>⟨trivial,?_⟩) fun h0=>?_
 all_goals refine congrArg (·,()) (Bool.eq_iff_iff.2 ?_)
 · simp only [beq_iff_eq] at h0
   subst h0
   simp
 · have h0:a0≠b0:=by simpa using h0
   simp [h0]
theorem aeV:ai prog G zO.e:=by
 refine ae1 (aj ah ⟨ahY,trivial⟩) ?_
 intro a b hin hp
 dsimp only [zO] at hp ⊢
 have hlen:a.length≤maxLen:=hin.1.1
 rw [maxLen_eq] at hlen
 refine af (fun h=>?_) fun h=>?_
 · have h:(a.length:Int)≠b.length:=by simpa using h
   exact congrArg (·,()) (decide_eq_false fun e=>h (by rw [e])).symm
 · have h:(a.length:Int)=b.length:=by simpa using h
   exact aex (K:=fun r=>r=(decide (a=b),())) (fun x y=>!decide ((x.1,x.2.1,())=(y.1,y.2.1,()))) (fun x y=>by simp [Prod.ext_iff]) _ a b _ hlen (by omega) (fun e=>by rw [decide_eq_false e]) fun e=>by rw [decide_eq_true e]
theorem Nk:ai prog G wM.e:=by
 refine ae2 (aj ah trivial) ?_
 intro n0 n1 n2 n3 n4 n5 n6 hin hp
 dsimp only [wM] at hp ⊢
 exact af (fun h=>by rw [h];rfl) fun h=>by rw [h];rfl
theorem Ll:ai prog G mY.e:=by
 refine Lm (aj ah trivial) ?_
 intro s hin hp
 dsimp only [mY] at hp ⊢
 have hp:s.length≤1000:=hp
 refine fun g hg=>af (fun h=>?_) fun h=>⟨by rw [bT];omega,rfl⟩
 have:=hg h
 rw [List.eq_nil_of_length_eq_zero this]
theorem ah0:ai prog G AX.e:=by
 refine ah1 (aj ah ⟨Ll,trivial⟩) ?_
 intro x0 x1 hin hp
 dsimp only [AX] at hp ⊢
 exact ⟨hp,rfl⟩
theorem qR {d:List Sp.aQ} (h:Sp.aS d) {n:Nat} (hn:n<d.length):(d.getD n ([],[],())).2.1.length≤1000:=h.2 _ (getD_mem hn)
theorem Nv:ai prog G wO.e:=by
 refine ae3 (aj ah ⟨ah0,trivial⟩) ?_
 intro d hin hp
 dsimp only [wO] at hp ⊢
 have hp:Sp.aS d:=hp
 have hlen:d.length≤1000:=hp.1
 refine dI (fun i (x:List Sp.aQ)=>(((),i,()),x,())) (fun y=>y.1.2.1) (fun _ _=>rfl) d.length (by omega) (fun n l=>l=d.take n) (by simp) (fun I μ n l hn hJ next=>?_) fun I μ l hJ=>?_
 · subst hJ
   have hl:(d.take n).length≤n:=by rw [List.length_take];omega
   dsimp only
   refine dh (by omega) ⟨⟨by omega,by omega⟩,qR hp hn,by rw [bT];simp only [List.length_cons,List.length_nil];omega,rfl,next _ ?_⟩
   exact (Sp.take_succ' d n ([],[],()) hn).symm
 · subst hJ
   dsimp only
   refine dm (by omega) ?_
   rw [List.take_length]
theorem OX:ai prog G yJ.e:=by
 refine ah2 (aj ah trivial) ?_
 intro d hin hp
 dsimp only [yJ] at hp ⊢
 have hp:Sp.aS d:=hp
 have hlen:d.length≤1000:=hp.1
 refine dI (fun i (x:List Sp.aQ)=>(((),i,()),x,())) (fun y=>y.1.2.1) (fun _ _=>rfl) d.length (by omega) (fun n l=>l=d.take n) (by simp) (fun I μ n l hn hJ next=>?_) fun I μ l hJ=>?_
 · subst hJ
   have hl:(d.take n).length≤n:=by rw [List.length_take];omega
   dsimp only
   refine dh (by omega) ⟨⟨by omega,by omega⟩,⟨by omega,by omega⟩,by rw [bT];have:=qR hp hn;show 0+(d.getD n ([],[],())).2.1.length≤_;omega,by rw [bT];simp only [List.length_cons,List.length_nil];omega,rfl,next _ ?_⟩
   exact (Sp.take_succ' d n ([],[],()) hn).symm
 · subst hJ
   dsimp only
   refine dm (by omega) ?_
   rw [List.take_length]
end Go.Proofs.Tryz
