import Derived.Test.YtgbobfdlafkijaaGreatP3
namespace Go.Proofs.Tryz
open Go Go.Fw Go.IntWalk
theorem aaX:aA prog G yJ yC:=by
 refine asf (aC (l:=[]) (au ah) (fun x hx=>by cases hx)) ?_
 intro a b hin hp
 have hlen:a.length≤maxLen:=hin.1.1
 rw [maxLen_eq] at hlen
 refine af (fun h=>?_) fun h=>?_
 · have h:(a.length:Int)≠b.length:=by simpa using h
   exact congrArg (·,()) (decide_eq_false fun e=>h (by rw [e])).symm
 · have h:(a.length:Int)=b.length:=by simpa using h
   exact ac6 (K:=fun r=>r=(decide (a=b),())) (fun x y=>x.1 !=y.1) (fun x y=>by simp [Prod.ext_iff]) _ a b _ hlen (by omega) (fun e=>by rw [decide_eq_false e]) fun e=>by rw [decide_eq_true e]
theorem amj:aA prog G DC ET:=by
 refine amk (aC (l:=[]) (au ah) (fun x hx=>by cases hx)) ?_
 intro a b hin hp
 have hlen:a.length≤maxLen:=hin.1.1
 rw [maxLen_eq] at hlen
 refine af (fun h=>?_) fun h=>?_
 · have h:(a.length:Int)≠b.length:=by simpa using h
   exact congrArg (·,()) (decide_eq_false fun e=>h (by rw [e])).symm
 · have h:(a.length:Int)=b.length:=by simpa using h
   exact ac6 (K:=fun r=>r=(decide (a=b),())) (fun x y=>!(x.1==y.1&&(x.2.1==y.2.1&&(x.2.2.1==y.2.2.1&&(x.2.2.2.1==y.2.2.2.1&&(x.2.2.2.2.1==y.2.2.2.2.1&&(x.2.2.2.2.2.1==y.2.2.2.2.2.1&&(x.2.2.2.2.2.2.1==y.2.2.2.2.2.2.1&&true)))))))) (fun x y=>by simp [Prod.ext_iff]) _ a b _ hlen (by omega) (fun e=>by rw [decide_eq_false e]) fun e=>by rw [decide_eq_true e]
theorem asg:aA prog G HY Jm:=by
 refine ash (aC (l:=[(DC, .pure ET)]) (au ah) (by simp only [List.forall_mem_cons];exact ⟨⟨amj,ai6⟩,fun x hx=>by cases hx⟩)) ?_
 intro a0 a1 b0 b1 hin hp
 refine af (fun h0=>⟨trivial,?_⟩) fun h0=>?_
 all_goals refine congrArg (·,()) (Bool.eq_iff_iff.2 ?_)
 · simp only [beq_iff_eq] at h0
   subst h0
   simp
 · have h0:a0≠b0:=by simpa using h0
   simp [h0]
theorem apc:aA prog G Fv GI:=by
 refine apf (aC (l:=[(HY, .pure Jm)]) (au ah) (by simp only [List.forall_mem_cons];exact ⟨⟨asg,aoy⟩,fun x hx=>by cases hx⟩)) ?_
 intro a b hin hp
 have hlen:a.length≤maxLen:=hin.1.1
 rw [maxLen_eq] at hlen
 refine af (fun h=>?_) fun h=>?_
 · have h:(a.length:Int)≠b.length:=by simpa using h
   exact congrArg (·,()) (decide_eq_false fun e=>h (by rw [e])).symm
 · have h:(a.length:Int)=b.length:=by simpa using h
   exact aoN (K:=fun r=>r=(decide (a=b),())) (fun x y=>!decide ((x.1,x.2.1,())=(y.1,y.2.1,()))) (fun x y=>by simp [Prod.ext_iff]) _ a b _ hlen (by omega) (fun e=>by rw [decide_eq_false e]) fun e=>by rw [decide_eq_true e]
theorem ZH:aA prog G vY wK:=by
 refine apg (aC (l:=[]) (au ah) (fun x hx=>by cases hx)) ?_
 intro n0 n1 n2 n3 n4 n5 n6 hin hp
 exact af (fun h=>by rw [h];rfl) fun h=>by rw [h];rfl
theorem Yj:aA prog G pR sV:=by
 refine Yk (aC (l:=[]) (au ah) (fun x hx=>by cases hx)) ?_
 intro s hin hp
 have hp:s.length≤1000:=hp
 refine fun g hg=>af (fun h=>?_) fun h=>⟨by rw [dU];omega,rfl⟩
 have:=hg h
 rw [List.eq_nil_of_length_eq_zero this]
theorem asi:aA prog G Hz Jk:=by
 refine asj (aC (l:=[(pR, .pure sV)]) (au ah) (by simp only [List.forall_mem_cons];exact ⟨⟨Yj,WG⟩,fun x hx=>by cases hx⟩)) ?_
 intro x0 x1 hin hp
 exact ⟨hp,rfl⟩
theorem Bh {d:List Sp.aW} (h:Sp.aS d) {n:Nat} (hn:n<d.length):(d.getD n ([],[],())).2.1.length≤1000:=h.2 _ (getD_mem hn)
theorem ZM:aA prog G wz wM:=by
 refine aph (aC (l:=[(Hz, .pure Jk)]) (au ah) (by simp only [List.forall_mem_cons];exact ⟨⟨asi,aow⟩,fun x hx=>by cases hx⟩)) ?_
 intro d hin hp
 have hp:Sp.aS d:=hp
 have hlen:d.length≤1000:=hp.1
 refine gQ (fun i (x:List Sp.aW)=>(((),i,()),x,())) (fun y=>y.1.2.1) (fun _ _=>rfl) d.length (by omega) (fun n l=>l=d.take n) (by simp) (fun I μ n l hn hJ next=>?_) fun I μ l hJ=>?_
 · subst hJ
   have hl:(d.take n).length≤n:=by rw [List.length_take];omega
   dsimp only
   refine eF (by omega) ⟨⟨by omega,by omega⟩,Bh hp hn,by rw [dU];simp only [List.length_cons,List.length_nil];omega,rfl,next _ ?_⟩
   exact (Sp.take_succ' d n ([],[],()) hn).symm
 · subst hJ
   dsimp only
   refine eG (by omega) ?_
   rw [List.take_length]
theorem arW:aA prog G Ia Jl:=by
 refine asl (aC (l:=[]) (au ah) (fun x hx=>by cases hx)) ?_
 intro d hin hp
 have hp:Sp.aS d:=hp
 have hlen:d.length≤1000:=hp.1
 refine gQ (fun i (x:List Sp.aW)=>(((),i,()),x,())) (fun y=>y.1.2.1) (fun _ _=>rfl) d.length (by omega) (fun n l=>l=d.take n) (by simp) (fun I μ n l hn hJ next=>?_) fun I μ l hJ=>?_
 · subst hJ
   have hl:(d.take n).length≤n:=by rw [List.length_take];omega
   dsimp only
   refine eF (by omega) ⟨⟨by omega,by omega⟩,⟨by omega,by omega⟩,by rw [dU];have:=Bh hp hn;show 0+(d.getD n ([],[],())).2.1.length≤_;omega,by rw [dU];simp only [List.length_cons,List.length_nil];omega,rfl,next _ ?_⟩
   exact (Sp.take_succ' d n ([],[],()) hn).symm
 · subst hJ
   dsimp only
   refine eG (by omega) ?_
   rw [List.take_length]
end Go.Proofs.Tryz
