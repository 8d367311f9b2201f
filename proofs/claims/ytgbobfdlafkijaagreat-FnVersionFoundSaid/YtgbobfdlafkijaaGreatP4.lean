import Derived.Test.YtgbobfdlafkijaaGreatP3
namespace Go.Proofs.Tryz
open Go Go.Fw Go.IntWalk
theorem ahr:aG prog G Bo CY:=by
 refine ahF (aF (l:=[]) (aA ah) (fun x hx=>by cases hx)) ?_
 intro a b hin hp
 have hlen:a.length≤maxLen:=hin.1.1
 rw [maxLen_eq] at hlen
 refine af (fun h=>?_) fun h=>?_
 · have h:(a.length:Int)≠b.length:=by simpa using h
   exact congrArg (·,()) (decide_eq_false fun e=>h (by rw [e])).symm
 · have h:(a.length:Int)=b.length:=by simpa using h
   exact acF (K:=fun r=>r=(decide (a=b),())) (fun x y=>x.1 !=y.1) (fun x y=>by simp [Prod.ext_iff]) _ a b _ hlen (by omega) (fun e=>by rw [decide_eq_false e]) fun e=>by rw [decide_eq_true e]
theorem ado:aG prog G yD zC:=by
 refine adp (aF (l:=[]) (aA ah) (fun x hx=>by cases hx)) ?_
 intro a b hin hp
 have hlen:a.length≤maxLen:=hin.1.1
 rw [maxLen_eq] at hlen
 refine af (fun h=>?_) fun h=>?_
 · have h:(a.length:Int)≠b.length:=by simpa using h
   exact congrArg (·,()) (decide_eq_false fun e=>h (by rw [e])).symm
 · have h:(a.length:Int)=b.length:=by simpa using h
   exact acF (K:=fun r=>r=(decide (a=b),())) (fun x y=>!(x.1==y.1&&(x.2.1==y.2.1&&(x.2.2.1==y.2.2.1&&(x.2.2.2.1==y.2.2.2.1&&(x.2.2.2.2.1==y.2.2.2.2.1&&(x.2.2.2.2.2.1==y.2.2.2.2.2.1&&(x.2.2.2.2.2.2.1==y.2.2.2.2.2.2.1&&true)))))))) (fun x y=>by simp [Prod.ext_iff]) _ a b _ hlen (by omega) (fun e=>by rw [decide_eq_false e]) fun e=>by rw [decide_eq_true e]
theorem ahG:aG prog G Bz Di:=by
 refine ahH (aF (l:=[(yD, .pure zC)]) (aA ah) (by simp only [List.forall_mem_cons];exact ⟨⟨ado,abu⟩,fun x hx=>by cases hx⟩)) ?_
 intro a0 a1 b0 b1 hin hp
 refine af (fun h0=>⟨trivial,?_⟩) fun h0=>?_
 all_goals refine congrArg (·,()) (Bool.eq_iff_iff.2 ?_)
 · simp only [beq_iff_eq] at h0
   subst h0
   simp
 · have h0:a0≠b0:=by simpa using h0
   simp [h0]
theorem afl:aG prog G zN AU:=by
 refine afm (aF (l:=[(Bz, .pure Di)]) (aA ah) (by simp only [List.forall_mem_cons];exact ⟨⟨ahG,aeX⟩,fun x hx=>by cases hx⟩)) ?_
 intro a b hin hp
 have hlen:a.length≤maxLen:=hin.1.1
 rw [maxLen_eq] at hlen
 refine af (fun h=>?_) fun h=>?_
 · have h:(a.length:Int)≠b.length:=by simpa using h
   exact congrArg (·,()) (decide_eq_false fun e=>h (by rw [e])).symm
 · have h:(a.length:Int)=b.length:=by simpa using h
   exact ae5 (K:=fun r=>r=(decide (a=b),())) (fun x y=>!decide ((x.1,x.2.1,())=(y.1,y.2.1,()))) (fun x y=>by simp [Prod.ext_iff]) _ a b _ hlen (by omega) (fun e=>by rw [decide_eq_false e]) fun e=>by rw [decide_eq_true e]
theorem Kv:aG prog G kW lM:=by
 refine XF (aF (l:=[(zN, .pure AU),(yE, .pure zu)]) (aA ah) (by simp only [List.forall_mem_cons];exact ⟨⟨afl,ac3⟩,⟨ada,abp⟩,fun x hx=>by cases hx⟩)) ?_
 intro a0 a1 a2 a3 b0 b1 b2 b3 hin hp
 refine ⟨trivial,af (fun h0=>⟨trivial,?_⟩) fun h0=>?_⟩
 all_goals refine congrArg (·,()) (Bool.eq_iff_iff.2 ?_)
 · have h0:=iV h0
   simp only [Prod.mk.injEq] at h0
   simp [h0]
 · have h0:=jh h0
   simp only [Prod.mk.injEq] at h0
   simp only [decide_eq_true_eq,Prod.mk.injEq,Bool.false_eq_true,false_iff]
   exact fun h=>h0 ⟨h.1,h.2.1,h.2.2.1,trivial⟩
theorem ZA:aG prog G uK wY:=by
 refine ZB (aF (l:=[(kW, .pure lM)]) (aA ah) (by simp only [List.forall_mem_cons];exact ⟨⟨Kv,IZ⟩,fun x hx=>by cases hx⟩)) ?_
 intro a0 a1 a2 a3 a4 a5 b0 b1 b2 b3 b4 b5 hin hp
 refine af (fun h0=>⟨trivial,af (fun h1=>?_) fun h1=>?_⟩) fun h0=>?_
 all_goals refine congrArg (·,()) (Bool.eq_iff_iff.2 ?_)
 · have h1:=iV h1
   simp only [Prod.mk.injEq,beq_iff_eq] at h0 h1
   simp [h1,h0]
 · have h1:=jh h1
   simp only [Prod.mk.injEq] at h1
   simp only [decide_eq_true_eq,Prod.mk.injEq,Bool.false_eq_true,false_iff]
   exact fun h=>h1 ⟨h.2.1,h.2.2.1,h.2.2.2.1,h.2.2.2.2.1,trivial⟩
 · have h0:a0≠b0:=by simpa using h0
   simp [h0]
theorem XC:aG prog G sJ vN:=by
 refine XG (aF (l:=[(uK, .pure wY)]) (aA ah) (by simp only [List.forall_mem_cons];exact ⟨⟨ZA,Xk⟩,fun x hx=>by cases hx⟩)) ?_
 intro a b hin hp
 have hlen:a.length≤maxLen:=hin.1.1
 rw [maxLen_eq] at hlen
 refine af (fun h=>?_) fun h=>?_
 · have h:(a.length:Int)≠b.length:=by simpa using h
   exact congrArg (·,()) (decide_eq_false fun e=>h (by rw [e])).symm
 · have h:(a.length:Int)=b.length:=by simpa using h
   exact ae5 (K:=fun r=>r=(decide (a=b),())) (fun x y=>!decide ((x.1,x.2.1,x.2.2.1,x.2.2.2.1,x.2.2.2.2.1,x.2.2.2.2.2.1,())=(y.1,y.2.1,y.2.2.1,y.2.2.2.1,y.2.2.2.2.1,y.2.2.2.2.2.1,()))) (fun x y=>by simp [Prod.ext_iff]) _ a b _ hlen (by omega) (fun e=>by rw [decide_eq_false e]) fun e=>by rw [decide_eq_true e]
theorem afn:aG prog G zJ AL:=by
 refine afo (aF (l:=[]) (aA ah) (fun x hx=>by cases hx)) ?_
 intro n0 n1 n2 n3 n4 n5 n6 hin hp
 exact af (fun h=>by rw [h];rfl) fun h=>by rw [h];rfl
theorem Pg:aG prog G l9 oZ:=by
 refine Ph (aF (l:=[]) (aA ah) (fun x hx=>by cases hx)) ?_
 intro s hin hp
 have hp:s.length≤1000:=hp
 refine fun g hg=>af (fun h=>?_) fun h=>⟨by rw [fD];omega,rfl⟩
 have:=hg h
 rw [List.eq_nil_of_length_eq_zero this]
theorem ahI:aG prog G Bq C9:=by
 refine ahJ (aF (l:=[(l9, .pure oZ)]) (aA ah) (by simp only [List.forall_mem_cons];exact ⟨⟨Pg,NM⟩,fun x hx=>by cases hx⟩)) ?_
 intro x0 x1 hin hp
 exact ⟨hp,rfl⟩
theorem FC {d:List Sp.eY} (h:Sp.bJ d) {n:Nat} (hn:n<d.length):(d.getD n ([],[],())).2.1.length≤1000:=h.2 _ (getD_mem hn)
theorem afh:aG prog G zM AQ:=by
 refine afp (aF (l:=[(Bq, .pure C9)]) (aA ah) (by simp only [List.forall_mem_cons];exact ⟨⟨ahI,aeV⟩,fun x hx=>by cases hx⟩)) ?_
 intro d hin hp
 have hp:Sp.bJ d:=hp
 have hlen:d.length≤1000:=hp.1
 refine mM (fun i (x:List Sp.eY)=>(((),i,()),x,())) (fun y=>y.1.2.1) (fun _ _=>rfl) d.length (by omega) (fun n l=>l=d.take n) (by simp) (fun I μ n l hn hJ next=>?_) fun I μ l hJ=>?_
 · subst hJ
   have hl:(d.take n).length≤n:=by rw [List.length_take];omega
   dsimp only
   refine gW (by omega) ⟨⟨by omega,by omega⟩,FC hp hn,by rw [fD];simp only [List.length_cons,List.length_nil];omega,rfl,next _ ?_⟩
   exact (Sp.take_succ' d n ([],[],()) hn).symm
 · subst hJ
   dsimp only
   refine gX (by omega) ?_
   rw [List.take_length]
theorem aht:aG prog G Bv Dc:=by
 refine ahK (aF (l:=[]) (aA ah) (fun x hx=>by cases hx)) ?_
 intro d hin hp
 have hp:Sp.bJ d:=hp
 have hlen:d.length≤1000:=hp.1
 refine mM (fun i (x:List Sp.eY)=>(((),i,()),x,())) (fun y=>y.1.2.1) (fun _ _=>rfl) d.length (by omega) (fun n l=>l=d.take n) (by simp) (fun I μ n l hn hJ next=>?_) fun I μ l hJ=>?_
 · subst hJ
   have hl:(d.take n).length≤n:=by rw [List.length_take];omega
   dsimp only
   refine gW (by omega) ⟨⟨by omega,by omega⟩,⟨by omega,by omega⟩,by rw [fD];have:=FC hp hn;show 0+(d.getD n ([],[],())).2.1.length≤_;omega,by rw [fD];simp only [List.length_cons,List.length_nil];omega,rfl,next _ ?_⟩
   exact (Sp.take_succ' d n ([],[],()) hn).symm
 · subst hJ
   dsimp only
   refine gX (by omega) ?_
   rw [List.take_length]
end Go.Proofs.Tryz
