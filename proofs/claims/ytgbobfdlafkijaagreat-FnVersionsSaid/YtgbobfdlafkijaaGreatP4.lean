import Derived.Test.YtgbobfdlafkijaaGreatP3
namespace Go.Proofs.Tryz
open Go Go.Fw Go.IntWalk
theorem amz:aG prog G FK GY:=by
 refine amM (aF (l:=[]) (ay ah) (fun x hx=>by cases hx)) ?_
 intro a b hin hp
 have hlen:a.length≤maxLen:=hin.1.1
 rw [maxLen_eq] at hlen
 refine af (fun h=>?_) fun h=>?_
 · have h:(a.length:Int)≠b.length:=by simpa using h
   exact congrArg (·,()) (decide_eq_false fun e=>h (by rw [e])).symm
 · have h:(a.length:Int)=b.length:=by simpa using h
   exact aaq (K:=fun r=>r=(decide (a=b),())) (fun x y=>x.1 !=y.1) (fun x y=>by simp [Prod.ext_iff]) _ a b _ hlen (by omega) (fun e=>by rw [decide_eq_false e]) fun e=>by rw [decide_eq_true e]
theorem aim:aG prog G CQ DZ:=by
 refine ain (aF (l:=[]) (ay ah) (fun x hx=>by cases hx)) ?_
 intro a b hin hp
 have hlen:a.length≤maxLen:=hin.1.1
 rw [maxLen_eq] at hlen
 refine af (fun h=>?_) fun h=>?_
 · have h:(a.length:Int)≠b.length:=by simpa using h
   exact congrArg (·,()) (decide_eq_false fun e=>h (by rw [e])).symm
 · have h:(a.length:Int)=b.length:=by simpa using h
   exact aaq (K:=fun r=>r=(decide (a=b),())) (fun x y=>!(x.1==y.1&&(x.2.1==y.2.1&&(x.2.2.1==y.2.2.1&&(x.2.2.2.1==y.2.2.2.1&&(x.2.2.2.2.1==y.2.2.2.2.1&&(x.2.2.2.2.2.1==y.2.2.2.2.2.1&&(x.2.2.2.2.2.2.1==y.2.2.2.2.2.2.1&&true)))))))) (fun x y=>by simp [Prod.ext_iff]) _ a b _ hlen (by omega) (fun e=>by rw [decide_eq_false e]) fun e=>by rw [decide_eq_true e]
theorem amN:aG prog G FO G9:=by
 refine amO (aF (l:=[(CQ, .pure DZ)]) (ay ah) (by simp only [List.forall_mem_cons];exact ⟨⟨aim,agl⟩,fun x hx=>by cases hx⟩)) ?_
 intro a0 a1 b0 b1 hin hp
 refine af (fun h0=>⟨trivial,?_⟩) fun h0=>?_
 all_goals refine congrArg (·,()) (Bool.eq_iff_iff.2 ?_)
 · simp only [beq_iff_eq] at h0
   subst h0
   simp
 · have h0:a0≠b0:=by simpa using h0
   simp [h0]
theorem aks:aG prog G Ef E5:=by
 refine akt (aF (l:=[(FO, .pure G9)]) (ay ah) (by simp only [List.forall_mem_cons];exact ⟨⟨amN,aj2⟩,fun x hx=>by cases hx⟩)) ?_
 intro a b hin hp
 have hlen:a.length≤maxLen:=hin.1.1
 rw [maxLen_eq] at hlen
 refine af (fun h=>?_) fun h=>?_
 · have h:(a.length:Int)≠b.length:=by simpa using h
   exact congrArg (·,()) (decide_eq_false fun e=>h (by rw [e])).symm
 · have h:(a.length:Int)=b.length:=by simpa using h
   exact abR (K:=fun r=>r=(decide (a=b),())) (fun x y=>!decide ((x.1,x.2.1,())=(y.1,y.2.1,()))) (fun x y=>by simp [Prod.ext_iff]) _ a b _ hlen (by omega) (fun e=>by rw [decide_eq_false e]) fun e=>by rw [decide_eq_true e]
theorem Px:aG prog G nM oJ:=by
 refine acj (aF (l:=[(Ef, .pure E5),(CS, .pure DV)]) (ay ah) (by simp only [List.forall_mem_cons];exact ⟨⟨aks,ah2⟩,⟨ah9,agi⟩,fun x hx=>by cases hx⟩)) ?_
 intro a0 a1 a2 a3 b0 b1 b2 b3 hin hp
 refine ⟨trivial,af (fun h0=>⟨trivial,?_⟩) fun h0=>?_⟩
 all_goals refine congrArg (·,()) (Bool.eq_iff_iff.2 ?_)
 · have h0:=iO h0
   simp only [Prod.mk.injEq] at h0
   simp [h0]
 · have h0:=ji h0
   simp only [Prod.mk.injEq] at h0
   simp only [decide_eq_true_eq,Prod.mk.injEq,Bool.false_eq_true,false_iff]
   exact fun h=>h0 ⟨h.1,h.2.1,h.2.2.1,trivial⟩
theorem aes:aG prog G y7 A8:=by
 refine aeu (aF (l:=[(nM, .pure oJ)]) (ay ah) (by simp only [List.forall_mem_cons];exact ⟨⟨Px,NR⟩,fun x hx=>by cases hx⟩)) ?_
 intro a0 a1 a2 a3 a4 a5 b0 b1 b2 b3 b4 b5 hin hp
 refine af (fun h0=>⟨trivial,af (fun h1=>?_) fun h1=>?_⟩) fun h0=>?_
 all_goals refine congrArg (·,()) (Bool.eq_iff_iff.2 ?_)
 · have h1:=iO h1
   simp only [Prod.mk.injEq,beq_iff_eq] at h0 h1
   simp [h1,h0]
 · have h1:=ji h1
   simp only [Prod.mk.injEq] at h1
   simp only [decide_eq_true_eq,Prod.mk.injEq,Bool.false_eq_true,false_iff]
   exact fun h=>h1 ⟨h.2.1,h.2.2.1,h.2.2.2.1,h.2.2.2.2.1,trivial⟩
 · have h0:a0≠b0:=by simpa using h0
   simp [h0]
theorem ach:aG prog G wW zN:=by
 refine ack (aF (l:=[(y7, .pure A8)]) (ay ah) (by simp only [List.forall_mem_cons];exact ⟨⟨aes,abN⟩,fun x hx=>by cases hx⟩)) ?_
 intro a b hin hp
 have hlen:a.length≤maxLen:=hin.1.1
 rw [maxLen_eq] at hlen
 refine af (fun h=>?_) fun h=>?_
 · have h:(a.length:Int)≠b.length:=by simpa using h
   exact congrArg (·,()) (decide_eq_false fun e=>h (by rw [e])).symm
 · have h:(a.length:Int)=b.length:=by simpa using h
   exact abR (K:=fun r=>r=(decide (a=b),())) (fun x y=>!decide ((x.1,x.2.1,x.2.2.1,x.2.2.2.1,x.2.2.2.2.1,x.2.2.2.2.2.1,())=(y.1,y.2.1,y.2.2.1,y.2.2.2.1,y.2.2.2.2.1,y.2.2.2.2.2.1,()))) (fun x y=>by simp [Prod.ext_iff]) _ a b _ hlen (by omega) (fun e=>by rw [decide_eq_false e]) fun e=>by rw [decide_eq_true e]
theorem aku:aG prog G Eb EW:=by
 refine akv (aF (l:=[]) (ay ah) (fun x hx=>by cases hx)) ?_
 intro n0 n1 n2 n3 n4 n5 n6 hin hp
 exact af (fun h=>by rw [h];rfl) fun h=>by rw [h];rfl
theorem UZ:aG prog G o5 sN:=by
 refine U0 (aF (l:=[]) (ay ah) (fun x hx=>by cases hx)) ?_
 intro s hin hp
 have hp:s.length≤1000:=hp
 refine fun g hg=>af (fun h=>?_) fun h=>⟨by rw [gy];omega,rfl⟩
 have:=hg h
 rw [List.eq_nil_of_length_eq_zero this]
theorem amP:aG prog G FM G5:=by
 refine amQ (aF (l:=[(o5, .pure sN)]) (ay ah) (by simp only [List.forall_mem_cons];exact ⟨⟨UZ,SL⟩,fun x hx=>by cases hx⟩)) ?_
 intro x0 x1 hin hp
 exact ⟨hp,rfl⟩
theorem JZ {d:List Sp.gK} (h:Sp.bY d) {n:Nat} (hn:n<d.length):(d.getD n ([],[],())).2.1.length≤1000:=h.2 _ (getD_mem hn)
theorem ako:aG prog G Ee EZ:=by
 refine akw (aF (l:=[(FM, .pure G5)]) (ay ah) (by simp only [List.forall_mem_cons];exact ⟨⟨amP,aj0⟩,fun x hx=>by cases hx⟩)) ?_
 intro d hin hp
 have hp:Sp.bY d:=hp
 have hlen:d.length≤1000:=hp.1
 refine nR (fun i (x:List Sp.gK)=>(((),i,()),x,())) (fun y=>y.1.2.1) (fun _ _=>rfl) d.length (by omega) (fun n l=>l=d.take n) (by simp) (fun I μ n l hn hJ next=>?_) fun I μ l hJ=>?_
 · subst hJ
   have hl:(d.take n).length≤n:=by rw [List.length_take];omega
   dsimp only
   refine iK (by omega) ⟨⟨by omega,by omega⟩,JZ hp hn,by rw [gy];simp only [List.length_cons,List.length_nil];omega,rfl,next _ ?_⟩
   exact (Sp.take_succ' d n ([],[],()) hn).symm
 · subst hJ
   dsimp only
   refine iL (by omega) ?_
   rw [List.take_length]
theorem amB:aG prog G FN G6:=by
 refine amR (aF (l:=[]) (ay ah) (fun x hx=>by cases hx)) ?_
 intro d hin hp
 have hp:Sp.bY d:=hp
 have hlen:d.length≤1000:=hp.1
 refine nR (fun i (x:List Sp.gK)=>(((),i,()),x,())) (fun y=>y.1.2.1) (fun _ _=>rfl) d.length (by omega) (fun n l=>l=d.take n) (by simp) (fun I μ n l hn hJ next=>?_) fun I μ l hJ=>?_
 · subst hJ
   have hl:(d.take n).length≤n:=by rw [List.length_take];omega
   dsimp only
   refine iK (by omega) ⟨⟨by omega,by omega⟩,⟨by omega,by omega⟩,by rw [gy];have:=JZ hp hn;show 0+(d.getD n ([],[],())).2.1.length≤_;omega,by rw [gy];simp only [List.length_cons,List.length_nil];omega,rfl,next _ ?_⟩
   exact (Sp.take_succ' d n ([],[],()) hn).symm
 · subst hJ
   dsimp only
   refine iL (by omega) ?_
   rw [List.take_length]
end Go.Proofs.Tryz
