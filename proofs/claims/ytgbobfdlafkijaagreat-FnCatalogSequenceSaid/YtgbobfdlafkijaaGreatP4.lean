import Derived.Test.YtgbobfdlafkijaaGreatP3
namespace Go.Proofs.Tryz
open Go Go.Fw Go.IntWalk
theorem Oa:aA prog G nC lS:=by
 refine avK (aB (l:=[]) (au ah) (fun x hx=>by cases hx)) ?_
 intro a b hin hp
 have hlen:a.length≤maxLen:=hin.1.1
 rw [maxLen_eq] at hlen
 refine af (fun h=>?_) fun h=>?_
 · have h:(a.length:Int)≠b.length:=by simpa using h
   exact congrArg (·,()) (decide_eq_false fun e=>h (by rw [e])).symm
 · have h:(a.length:Int)=b.length:=by simpa using h
   exact aft (K:=fun r=>r=(decide (a=b),())) (fun x y=>x.1 !=y.1) (fun x y=>by simp [Prod.ext_iff]) _ a b _ hlen (by omega) (fun e=>by rw [decide_eq_false e]) fun e=>by rw [decide_eq_true e]
theorem aph:aA prog G E5 GR:=by
 refine apj (aB (l:=[]) (au ah) (fun x hx=>by cases hx)) ?_
 intro a b hin hp
 have hlen:a.length≤maxLen:=hin.1.1
 rw [maxLen_eq] at hlen
 refine af (fun h=>?_) fun h=>?_
 · have h:(a.length:Int)≠b.length:=by simpa using h
   exact congrArg (·,()) (decide_eq_false fun e=>h (by rw [e])).symm
 · have h:(a.length:Int)=b.length:=by simpa using h
   exact aft (K:=fun r=>r=(decide (a=b),())) (fun x y=>!(x.1==y.1&&(x.2.1==y.2.1&&(x.2.2.1==y.2.2.1&&(x.2.2.2.1==y.2.2.2.1&&(x.2.2.2.2.1==y.2.2.2.2.1&&(x.2.2.2.2.2.1==y.2.2.2.2.2.1&&(x.2.2.2.2.2.2.1==y.2.2.2.2.2.2.1&&true)))))))) (fun x y=>by simp [Prod.ext_iff]) _ a b _ hlen (by omega) (fun e=>by rw [decide_eq_false e]) fun e=>by rw [decide_eq_true e]
theorem avL:aA prog G Jy KW:=by
 refine avM (aB (l:=[(E5, .pure GR)]) (au ah) (by simp only [List.forall_mem_cons];exact ⟨⟨aph,alO⟩,fun x hx=>by cases hx⟩)) ?_
 intro a0 a1 b0 b1 hin hp
 refine af (fun h0=>⟨trivial,?_⟩) fun h0=>?_
 all_goals refine congrArg (·,()) (Bool.eq_iff_iff.2 ?_)
 · simp only [beq_iff_eq] at h0
   subst h0
   simp
 · have h0:a0≠b0:=by simpa using h0
   simp [h0]
theorem asz:aA prog G Hr I4:=by
 refine asB (aB (l:=[(Jy, .pure KW)]) (au ah) (by simp only [List.forall_mem_cons];exact ⟨⟨avL,arJ⟩,fun x hx=>by cases hx⟩)) ?_
 intro a b hin hp
 have hlen:a.length≤maxLen:=hin.1.1
 rw [maxLen_eq] at hlen
 refine af (fun h=>?_) fun h=>?_
 · have h:(a.length:Int)≠b.length:=by simpa using h
   exact congrArg (·,()) (decide_eq_false fun e=>h (by rw [e])).symm
 · have h:(a.length:Int)=b.length:=by simpa using h
   exact ar0 (K:=fun r=>r=(decide (a=b),())) (fun x y=>!decide ((x.1,x.2.1,())=(y.1,y.2.1,()))) (fun x y=>by simp [Prod.ext_iff]) _ a b _ hlen (by omega) (fun e=>by rw [decide_eq_false e]) fun e=>by rw [decide_eq_true e]
theorem ab4:aA prog G xP yj:=by
 refine asC (aB (l:=[]) (au ah) (fun x hx=>by cases hx)) ?_
 intro n0 n1 n2 n3 n4 n5 n6 hin hp
 exact af (fun h=>by rw [h];rfl) fun h=>by rw [h];rfl
theorem aaz:aA prog G qM uU:=by
 refine aaA (aB (l:=[]) (au ah) (fun x hx=>by cases hx)) ?_
 intro s hin hp
 have hp:s.length≤1000:=hp
 refine fun g hg=>af (fun h=>?_) fun h=>⟨by rw [dS];omega,rfl⟩
 have:=hg h
 rw [List.eq_nil_of_length_eq_zero this]
theorem avN:aA prog G Jw KU:=by
 refine avO (aB (l:=[(qM, .pure uU)]) (au ah) (by simp only [List.forall_mem_cons];exact ⟨⟨aaz,YT⟩,fun x hx=>by cases hx⟩)) ?_
 intro x0 x1 hin hp
 exact ⟨hp,rfl⟩
theorem vN {d:List Sp.aY} (h:Sp.aO d) {n:Nat} (hn:n<d.length):(d.getD n ([],[],())).2.1.length≤1000:=h.2 _ (getD_mem hn)
theorem ace:aA prog G xW yu:=by
 refine asD (aB (l:=[(Jw, .pure KU)]) (au ah) (by simp only [List.forall_mem_cons];exact ⟨⟨avN,arI⟩,fun x hx=>by cases hx⟩)) ?_
 intro d hin hp
 have hp:Sp.aO d:=hp
 have hlen:d.length≤1000:=hp.1
 refine eX (fun i (x:List Sp.aY)=>(((),i,()),x,())) (fun y=>y.1.2.1) (fun _ _=>rfl) d.length (by omega) (fun n l=>l=d.take n) (by simp) (fun I μ n l hn hJ next=>?_) fun I μ l hJ=>?_
 · subst hJ
   have hl:(d.take n).length≤n:=by rw [List.length_take];omega
   dsimp only
   refine dW (by omega) ⟨⟨by omega,by omega⟩,vN hp hn,by rw [dS];simp only [List.length_cons,List.length_nil];omega,rfl,next _ ?_⟩
   exact (Sp.take_succ' d n ([],[],()) hn).symm
 · subst hJ
   dsimp only
   refine dX (by omega) ?_
   rw [List.take_length]
theorem adw:aA prog G zS zJ:=by
 refine avP (aB (l:=[]) (au ah) (fun x hx=>by cases hx)) ?_
 intro d hin hp
 have hp:Sp.aO d:=hp
 have hlen:d.length≤1000:=hp.1
 refine eX (fun i (x:List Sp.aY)=>(((),i,()),x,())) (fun y=>y.1.2.1) (fun _ _=>rfl) d.length (by omega) (fun n l=>l=d.take n) (by simp) (fun I μ n l hn hJ next=>?_) fun I μ l hJ=>?_
 · subst hJ
   have hl:(d.take n).length≤n:=by rw [List.length_take];omega
   dsimp only
   refine dW (by omega) ⟨⟨by omega,by omega⟩,⟨by omega,by omega⟩,by rw [dS];have:=vN hp hn;show 0+(d.getD n ([],[],())).2.1.length≤_;omega,by rw [dS];simp only [List.length_cons,List.length_nil];omega,rfl,next _ ?_⟩
   exact (Sp.take_succ' d n ([],[],()) hn).symm
 · subst hJ
   dsimp only
   refine dX (by omega) ?_
   rw [List.take_length]
end Go.Proofs.Tryz
