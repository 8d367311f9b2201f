import Derived.Test.YtgbobfdlafkijaaGreatP10
namespace Go.Proofs.Tryz
open Go Go.Fw Go.IntWalk
abbrev V0:Sp.gX:=(0,[],[],0,[],0,())
theorem BI {v:List Sp.gX} (h:Sp.aH v) {n:Nat} (hn:n<v.length):Sp.fV (Sp.uN (Sp.bM v n)):=h.2 _ (getD_mem (d:=V0) hn)
theorem yL:Sp.aH []:=⟨by simp,fun x hx=>by cases hx⟩
theorem ab1 {v:List Sp.gX} {x:Sp.gX} (h:Sp.aH v) (hl:v.length<1000) (hx:Sp.fV (Sp.uN x)):Sp.aH (v++[x]):=
 ⟨by simp;omega,fun y hy=>by rcases List.mem_append.1 hy with hy|hy;exact h.2 y hy;rw [List.mem_singleton.1 hy];exact hx⟩
theorem Pq {v:List Sp.gX} {x:Sp.gX} (n:Nat) (h:Sp.aH v) (hx:Sp.fV (Sp.uN x)):Sp.aH (v.set n x):=
 ⟨by simp;exact h.1,fun y hy=>by rcases List.mem_or_eq_of_mem_set hy with hy|hy;exact h.2 y hy;rw [hy];exact hx⟩
theorem Hw:aC prog G jY kC:=by
 refine ab2 (aF (l:=[(Ee, .pure EZ),(CP, .eff (ai vY) DX)]) (ay ah) (by simp only [List.forall_mem_cons];exact ⟨⟨ako,ah1⟩,⟨aif,agk⟩,fun x hx=>by cases hx⟩)) (fun ⟨(a,l,nx,d,_),_⟩ _=>⟨(((a,l,nx,d,()),()),()),rfl⟩) ?_
 intro x0 x1 x2 x3 hin hp
 refine ⟨hp.1,?_⟩
 rintro ⟨⟨⟨a,l,nx,⟨⟩⟩,⟨⟩⟩,⟨⟩⟩ e
 obtain ⟨rfl,rfl,rfl⟩:a=x0∧l=x1∧nx=x2:=by simpa using e
 exact ⟨hp.2,rfl⟩
theorem ML:aC prog G nU ni:=by
 refine akp (aF (l:=[(FN, .pure G6),(qm, .eff (ai lQ) oO)]) (ay ah) (by simp only [List.forall_mem_cons];exact ⟨⟨amB,aj1⟩,⟨Pj,MJ⟩,fun x hx=>by cases hx⟩)) (fun ⟨(a,l,nx,d,_),_⟩ _=>⟨(((a,l,nx,d,()),()),()),rfl⟩) ?_
 intro x0 x1 x2 x3 hin hp
 refine ⟨hp.1,?_⟩
 rintro ⟨⟨⟨a,l,nx,⟨⟩⟩,⟨⟩⟩,⟨⟩⟩ e
 obtain ⟨rfl,rfl,rfl⟩:a=x0∧l=x1∧nx=x2:=by simpa using e
 exact ⟨hp.2,rfl⟩
theorem Hy:aC prog G jZ kD:=by
 refine ab3 (aF (l:=[(jY, .eff (ai jb) kC)]) (ay ah) (by simp only [List.forall_mem_cons];exact ⟨⟨Hw,F5⟩,fun x hx=>by cases hx⟩)) (fun ⟨v,_⟩ _=>⟨((v,()),()),rfl⟩) ?_
 intro v hin hp
 have hp:Sp.aH v:=hp
 have hlen:v.length≤1000:=hp.1
 refine nR (fun i (x:List Sp.gX)=>(((),i,()),x,())) (fun y=>y.1.2.1) (fun _ _=>rfl) v.length (by omega) (fun n l=>l=v.take n) (by simp) (fun I μ n l hn hJ next=>?_) fun I μ l hJ=>?_
 · subst hJ
   have hl:(v.take n).length≤n:=by rw [List.length_take];omega
   dsimp only
   refine iK (by omega) ⟨⟨by omega,by omega⟩,BI hp hn,?_⟩
   rintro ⟨⟨⟨a,l,nx,d,⟨⟩⟩,⟨⟩⟩,⟨⟩⟩ e
   refine ⟨by rw [gy];simp only [List.length_cons,List.length_nil];omega,rfl,next _ ?_⟩
   rw [Sp.take_succ' v n V0 hn]
   have e:(a,l,nx,d,())=Sp.uN (v.getD n V0):=e
   unfold Sp.uN at e
   simp only [Prod.mk.injEq] at e
   rw [Int.toNat_natCast]
   dsimp only
   rw [e.1,e.2.1,e.2.2.1,e.2.2.2.1]
 · subst hJ
   dsimp only
   refine iL (by omega) ?_
   show List.take v.length v=v
   rw [List.take_length]
theorem Es:aC prog G jV jy:=by
 refine amC (aF (l:=[(nU, .eff (ai kP) ni)]) (ay ah) (by simp only [List.forall_mem_cons];exact ⟨⟨ML,KW⟩,fun x hx=>by cases hx⟩)) (fun ⟨v,_⟩ _=>⟨((v,()),()),rfl⟩) ?_
 intro v hin hp
 have hp:Sp.aH v:=hp
 have hlen:v.length≤1000:=hp.1
 refine nR (fun i (x:List Sp.gX)=>(((),i,()),x,())) (fun y=>y.1.2.1) (fun _ _=>rfl) v.length (by omega) (fun n l=>l=v.take n) (by simp) (fun I μ n l hn hJ next=>?_) fun I μ l hJ=>?_
 · subst hJ
   have hl:(v.take n).length≤n:=by rw [List.length_take];omega
   dsimp only
   refine iK (by omega) ⟨⟨by omega,by omega⟩,⟨by omega,by omega⟩,BI hp hn,?_⟩
   rintro ⟨⟨⟨a,l,nx,d,⟨⟩⟩,⟨⟩⟩,⟨⟩⟩ e
   refine ⟨⟨by omega,by omega⟩,by rw [gy];simp only [List.length_cons,List.length_nil];omega,rfl,next _ ?_⟩
   rw [Sp.take_succ' v n V0 hn]
   have e:(a,l,nx,d,())=Sp.uN (v.getD n V0):=e
   unfold Sp.uN at e
   simp only [Prod.mk.injEq] at e
   rw [Int.toNat_natCast]
   dsimp only
   rw [e.1,e.2.1,e.2.2.1,e.2.2.2.1]
 · subst hJ
   dsimp only
   refine iL (by omega) ?_
   show List.take v.length v=v
   rw [List.take_length]
theorem Xm:aG prog G rX ve:=by
 refine Xn (aF (l:=[(wS, .pure zM),(wU, .pure zA)]) (ay ah) (by simp only [List.forall_mem_cons];exact ⟨⟨abX,aag⟩,⟨abT,Z5⟩,fun x hx=>by cases hx⟩)) ?_
 intro x0 x1 x2 x3 hin hp
 refine ⟨trivial,af (fun h=>⟨hp.2,?_⟩) fun h=>?_⟩
 · have h:Sp.dF (Sp.NW (x0,x1,x2,x3,()))=true:=h
   unfold Sp.Ai;rw [h];rfl
 · have h:Sp.dF (Sp.NW (x0,x1,x2,x3,()))=false:=h
   unfold Sp.Ai;rw [h];rfl
theorem Xo:aG prog G rY vg:=by
 refine Xp (aF (l:=[(nI, .pure oH),(jX, .pure ku)]) (ay ah) (by simp only [List.forall_mem_cons];exact ⟨⟨Po,NQ⟩,⟨Hu,FZ⟩,fun x hx=>by cases hx⟩)) ?_
 intro x0 x1 x2 x3 hin hp
 refine ⟨trivial,af (fun h=>⟨hp.2,?_⟩) fun h=>?_⟩
 · have h:Sp.dF (Sp.NW (x0,x1,x2,x3,()))=true:=h
   unfold Sp.Ai;rw [h];rfl
 · have h:Sp.dF (Sp.NW (x0,x1,x2,x3,()))=false:=h
   unfold Sp.Ai;rw [h];rfl
theorem ap2 {v:List Sp.gX} {n:Nat} (hn:n<v.length) (h:Sp.oL v n=false):Sp.fZ v=false:=by
 unfold Sp.fZ;rw [DL hn h];rfl
theorem vU:aG prog G gu gG:=by
 refine WM (aF (l:=[(rX, .pure ve),(fO, .pure eF)]) (ay ah) (by simp only [List.forall_mem_cons];exact ⟨⟨Xm,WA⟩,⟨qx,nY⟩,fun x hx=>by cases hx⟩)) ?_
 intro v hin hp
 have hp:Sp.aH v:=hp
 have hlen:v.length≤1000:=hp.1
 refine kW v.length (by omega) (fun n=>∀ i,i<n→Sp.oL v i=true) (fun i hi=>by omega) (fun I μ n hn hJ next=>?_) fun I μ hJ=>?_
 · dsimp only
   have no:Sp.oL v n=false→(false,())=(Sp.fZ v,()):=fun h=>by rw [ap2 hn h]
   refine iK (by omega) ⟨⟨by omega,by omega⟩,trivial,af (fun h2=>no ?_) fun h2=>?_⟩
   · have h2:(decide (1≤(Sp.bM v n).1)&&decide ((Sp.bM v n).1≤1000000000))=false:=jE h2
     unfold Sp.oL;rw [h2];rfl
   have h2:(decide (1≤(Sp.bM v n).1)&&decide ((Sp.bM v n).1≤1000000000))=true:=fJ h2
   have rest:∀ A:Prop,(Sp.oL v n=true→A)→(!(decide (0<n)&&decide ((Sp.bM v (n-1)).1≥(Sp.bM v n).1)))=true→Sp.fV (Sp.uN (Sp.bM v n))∧(bif !Sp.Ai (Sp.uN (Sp.bM v n)) then (false,())=(Sp.fZ v,()) else
    True∧bif !(decide (0≤(Sp.bM v n).2.2.2.2.2.1)&&decide ((Sp.bM v n).2.2.2.2.2.1≤99)) then (false,())=(Sp.fZ v,()) else A):=by
    intro A hA hord
    refine ⟨BI hp hn,af (fun h3=>no ?_) fun h3=>⟨trivial,af (fun h4=>no ?_) fun h4=>hA ?_⟩⟩
    · have h3:=jE h3
      unfold Sp.oL;rw [h3,hord,h2];rfl
    · have h3:=fJ h3
      have h4:=jE h4
      unfold Sp.oL;rw [h3,h4,hord,h2];rfl
    · have h3:=fJ h3
      have h4:=fJ h4
      unfold Sp.oL;rw [h3,h4,hord,h2];rfl
   refine af (fun h5=>?_) fun h5=>rest _ (fun h=>⟨rfl,next (dD hJ h)⟩) ?_
   · have h5:0<n:=by have:=iO h5;omega
     rw [wz h5 (by omega)]
     refine ⟨⟨by omega,by omega⟩,af (fun h6=>no ?_) fun h6=>rest _ (fun h=>⟨rfl,next (dD hJ h)⟩) ?_⟩
     · have h6:decide ((Sp.bM v (n-1)).1≥(Sp.bM v n).1)=true:=h6
       unfold Sp.oL;rw [h6,h2,decide_eq_true h5];rfl
     · have h6:decide ((Sp.bM v (n-1)).1≥(Sp.bM v n).1)=false:=h6
       rw [h6,Bool.and_false];rfl
   · have h5:¬ 0<n:=by have:=ji h5;omega
     rw [decide_eq_false h5];rfl
 · dsimp only
   refine iL (by omega) (congrArg (·,()) ?_)
   unfold Sp.fZ
   rw [mO hJ];rfl
theorem pK:aG prog G dY dV:=by
 refine WN (aF (l:=[(rY, .pure vg),(gU, .pure fD)]) (ay ah) (by simp only [List.forall_mem_cons];exact ⟨⟨Xo,WB⟩,⟨tq,qw⟩,fun x hx=>by cases hx⟩)) ?_
 intro v hin hp
 have hp:Sp.aH v:=hp
 have hlen:v.length≤1000:=hp.1
 refine kW v.length (by omega) (fun n=>∀ i,i<n→Sp.oL v i=true) (fun i hi=>by omega) (fun I μ n hn hJ next=>?_) fun I μ hJ=>?_
 · dsimp only
   have no:Sp.oL v n=false→(false,())=(Sp.fZ v,()):=fun h=>by rw [ap2 hn h]
   refine iK (by omega) ⟨⟨by omega,by omega⟩,trivial,af (fun h2=>no ?_) fun h2=>⟨⟨by omega,by omega⟩,BI hp hn,af (fun h3=>no ?_) fun h3=>⟨⟨by omega,by omega⟩,trivial,af (fun h4=>no ?_) fun h4=>af (fun h5=>?_) fun h5=>⟨rfl,next (dD hJ ?_)⟩⟩⟩⟩
   · have h2:(decide (1≤(Sp.bM v n).1)&&decide ((Sp.bM v n).1≤1000000000))=false:=jE h2
     unfold Sp.oL;rw [h2];rfl
   · have h3:Sp.Ai (Sp.uN (Sp.bM v n))=false:=jE h3
     unfold Sp.oL;rw [h3];simp
   · have h4:(decide (0≤(Sp.bM v n).2.2.2.2.2.1)&&decide ((Sp.bM v n).2.2.2.2.2.1≤99))=false:=jE h4
     unfold Sp.oL;rw [h4];simp
   · have h2:(decide (1≤(Sp.bM v n).1)&&decide ((Sp.bM v n).1≤1000000000))=true:=fJ h2
     have h3:Sp.Ai (Sp.uN (Sp.bM v n))=true:=fJ h3
     have h4:(decide (0≤(Sp.bM v n).2.2.2.2.2.1)&&decide ((Sp.bM v n).2.2.2.2.2.1≤99))=true:=fJ h4
     have h5:0<n:=by have:=iO h5;omega
     rw [wz h5 (by omega)]
     refine ⟨⟨by omega,by omega⟩,⟨by omega,by omega⟩,af (fun h6=>no ?_) fun h6=>⟨rfl,next (dD hJ ?_)⟩⟩
     · have h6:decide ((Sp.bM v (n-1)).1≥(Sp.bM v n).1)=true:=h6
       unfold Sp.oL;rw [h6,h2,decide_eq_true h5];rfl
     · have h6:decide ((Sp.bM v (n-1)).1≥(Sp.bM v n).1)=false:=h6
       unfold Sp.oL;rw [h6,h2,h3,h4,Bool.and_false];rfl
   · have h2:(decide (1≤(Sp.bM v n).1)&&decide ((Sp.bM v n).1≤1000000000))=true:=fJ h2
     have h3:Sp.Ai (Sp.uN (Sp.bM v n))=true:=fJ h3
     have h4:(decide (0≤(Sp.bM v n).2.2.2.2.2.1)&&decide ((Sp.bM v n).2.2.2.2.2.1≤99))=true:=fJ h4
     have h5:¬ 0<n:=by have:=ji h5;omega
     unfold Sp.oL;rw [decide_eq_false h5,h2,h3,h4];rfl
 · dsimp only
   refine iL (by omega) (congrArg (·,()) ?_)
   unfold Sp.fZ
   rw [mO hJ];rfl
theorem agy (s:Int):∀ (d:List Sp.gX) (k:Int),(Sp.Kq k d s=-1∧∀ x∈d,x.1≠s)∨∃ n,n<d.length∧Sp.Kq k d s=k+n∧(Sp.bM d n).1=s∧∀ i,i<n→(Sp.bM d i).1≠s
 |[],k=> .inl ⟨rfl,fun x hx=>by cases hx⟩
 |x::r,k=>by
  by_cases h:x.1=s
  · right
    refine ⟨0,by simp,?_,h,fun i hi=>by omega⟩
    rw [Sp.Kq,beq_iff_eq.2 h];simp
  · rcases agy s r (k+1) with ⟨h1,h2⟩|⟨n,h1,h2,h3,h4⟩
    · left
      refine ⟨by rw [Sp.Kq,beq_eq_false_iff_ne.2 h];exact h1,fun y hy=>?_⟩
      rcases List.mem_cons.1 hy with rfl|hy
      · exact h
      · exact h2 y hy
    · right
      refine ⟨n+1,by simp;omega,by rw [Sp.Kq,beq_eq_false_iff_ne.2 h];show Sp.Kq (k+1) r s=_;omega,h3,fun i hi=>?_⟩
      cases i with
      |zero=>exact h
      |succ i=>exact h4 i (by omega)
theorem F9 (d:List Sp.gX) (s:Int):(Sp.aB d s=-1∧∀ x∈d,x.1≠s)∨∃ n,n<d.length∧Sp.aB d s=n∧(Sp.bM d n).1=s∧∀ i,i<n→(Sp.bM d i).1≠s:=by
 rcases agy s d 0 with h|⟨n,h1,h2,h3⟩
 · exact .inl h
 · exact .inr ⟨n,h1,by show Sp.Kq 0 d s=_;omega,h3⟩
theorem EM {d:List Sp.gX} {s:Int} (h:0≤Sp.aB d s):Sp.aB d s<d.length:=by
 rcases F9 d s with ⟨h1,_⟩|⟨n,h1,h2,_⟩<;>omega
theorem ai9 {d:List Sp.gX} {s:Int} {n:Nat} (hn:n<d.length) (h1:(Sp.bM d n).1=s) (h2:∀ i,i<n→(Sp.bM d i).1≠s):Sp.aB d s=n:=by
 rcases F9 d s with ⟨_,h⟩|⟨m,g1,g2,g3,g4⟩
 · exact (h _ (getD_mem (d:=V0) hn) h1).elim
 · have:m=n:=by
    rcases Nat.lt_trichotomy m n with h|h|h
    · exact (h2 m h g3).elim
    · exact h
    · exact (g4 n h h1).elim
   rw [g2,this]
theorem aja {d:List Sp.gX} {s:Int} (h2:∀ i,i<d.length→(Sp.bM d i).1≠s):Sp.aB d s=-1:=by
 rcases F9 d s with ⟨h,_⟩|⟨m,g1,_,g3,_⟩
 · exact h
 · exact (h2 m g1 g3).elim
theorem Qd:aG prog G o6 qf:=by
 refine aed (aF (l:=[]) (ay ah) (fun x hx=>by cases hx)) ?_
 intro x0 x1 x2 x3 x4 x5 p hin hp
 exact rfl
theorem Bz:aG prog G fE ig:=by
 refine BA (aF (l:=[(o6, .pure qf)]) (ay ah) (by simp only [List.forall_mem_cons];exact ⟨⟨Qd,Pe⟩,fun x hx=>by cases hx⟩)) ?_
 intro d s hin hp
 have hlen:d.length≤maxLen:=hin.1.1
 rw [maxLen_eq] at hlen
 refine kW d.length hlen (fun n=>∀ i,i<n→(Sp.bM d i).1≠s) (fun i hi=>by omega) (fun I μ n hn hJ next=>?_) fun I μ hJ=>?_
 · dsimp only
   refine iK (by omega) ⟨⟨by omega,by omega⟩,trivial,af (fun h=>?_) fun h=>⟨rfl,next fun i hi=>?_⟩⟩
   · rw [ai9 hn (beq_iff_eq.1 h) hJ]
   · rcases Nat.lt_or_ge i n with h'|h'
     · exact hJ i h'
     · have:i=n:=by omega
       rw [this];exact beq_eq_false_iff_ne.1 h
 · dsimp only
   refine iL (by omega) ?_
   rw [aja hJ]
theorem Ui:aG prog G tJ uy:=by
 refine aij (aF (l:=[(fE, .pure ig),(o6, .pure qf)]) (ay ah) (by simp only [List.forall_mem_cons];exact ⟨⟨Bz,Au⟩,⟨Qd,Pe⟩,fun x hx=>by cases hx⟩)) ?_
 intro d s hin hp
 exact ⟨trivial,rfl⟩
theorem MN:aG prog G nV nC:=by
 refine akq (aF (l:=[]) (ay ah) (fun x hx=>by cases hx)) ?_
 intro d s hin hp
 have hlen:d.length≤maxLen:=hin.1.1
 rw [maxLen_eq] at hlen
 refine kW d.length hlen (fun n=>∀ i,i<n→(Sp.bM d i).1≠s) (fun i hi=>by omega) (fun I μ n hn hJ next=>?_) fun I μ hJ=>?_
 · dsimp only
   refine iK (by omega) ⟨⟨by omega,by omega⟩,af (fun h=>?_) fun h=>⟨rfl,next fun i hi=>?_⟩⟩
   · rw [ai9 hn (beq_iff_eq.1 h) hJ]
   · rcases Nat.lt_or_ge i n with h'|h'
     · exact hJ i h'
     · have:i=n:=by omega
       rw [this];exact beq_eq_false_iff_ne.1 h
 · dsimp only
   refine iL (by omega) ?_
   rw [aja hJ]
theorem LW {v:List Sp.gX} {n:Int} {x:Sp.QT} (h:Sp.fZ v=false∨Sp.fZ (v++[(n,x.1,x.2.1,x.2.2.1,x.2.2.2.1,0,())])=false):Sp.iD v n x=(v,false):=by
 unfold Sp.iD
 rcases h with h|h<;>rw [h]<;>simp
theorem aaw {v:List Sp.gX} {n:Int} {x:Sp.QT} (h1:Sp.fZ v=true) (h2:Sp.fZ (v++[(n,x.1,x.2.1,x.2.2.1,x.2.2.2.1,0,())])=true):Sp.iD v n x=(v++[(n,x.1,x.2.1,x.2.2.1,x.2.2.2.1,0,())],true):=by
 unfold Sp.iD
 rw [h1,h2];rfl
theorem aax:aC prog G vM yE:=by
 refine aay (aF (l:=[(gu, .pure gG),(jY, .eff (ai jb) kC),(jZ, .eff (ai jc) kD)]) (ay ah) (by simp only [List.forall_mem_cons];exact ⟨⟨vU,uU⟩,⟨Hw,F5⟩,⟨Hy,F6⟩,fun x hx=>by cases hx⟩)) (fun ⟨v,n,x,_⟩ _=>⟨((((Sp.iD v n x).1,(Sp.iD v n x).2,()),())),⟨rfl,rfl⟩⟩) ?_
 intro v n x0 x1 x2 x3 hin hp
 obtain ⟨h1,h2,h3⟩:=hp
 refine ⟨h1,?_⟩
 rintro ⟨⟨r,⟨⟩⟩,⟨⟩⟩ e
 have e:r=v:=e
 subst e
 refine ⟨h3,?_⟩
 rintro ⟨⟨⟨a,l,nx,d,⟨⟩⟩,⟨⟩⟩,⟨⟩⟩ e
 obtain ⟨rfl,rfl,rfl,rfl⟩:a=x0∧l=x1∧nx=x2∧d=x3:=by simpa using e
 refine ⟨by rw [gy];simp only [List.length_cons,List.length_nil];omega,h1,af (fun g=>⟨h1,fun r2 e2=>?_⟩) fun g=>⟨ab1 (v:=r) h1 (by omega) h3,af (fun g2=>⟨h1,fun r4 e4=>?_⟩) fun g2=>?_⟩⟩
 · have:=LW (n:=n) (x:=(a,l,nx,d,())) (.inl (jE g))
   dsimp only
   rw [this]
   exact ⟨e2,rfl⟩
 · have:=LW (n:=n) (x:=(a,l,nx,d,())) (.inr (jE g2))
   dsimp only
   rw [this]
   exact ⟨e4,rfl⟩
 · have:=aaw (n:=n) (x:=(a,l,nx,d,())) (fJ g) (fJ g2)
   dsimp only
   rw [this]
   exact ⟨rfl,rfl⟩
theorem NY:aC prog G mD mW:=by
 refine aaz (aF (l:=[(dY, .pure dV),(nU, .eff (ai kP) ni),(jV, .eff (ai iQ) jy)]) (ay ah) (by simp only [List.forall_mem_cons];exact ⟨⟨pK,nZ⟩,⟨ML,KW⟩,⟨Es,Dc⟩,fun x hx=>by cases hx⟩)) (fun ⟨v,n,x,_⟩ _=>⟨((((Sp.iD v n x).1,(Sp.iD v n x).2,()),())),⟨rfl,rfl⟩⟩) ?_
 intro v n x0 x1 x2 x3 hin hp
 obtain ⟨h1,h2,h3⟩:=hp
 refine ⟨h1,?_⟩
 rintro ⟨⟨r,⟨⟩⟩,⟨⟩⟩ e
 have e:r=v:=e
 subst e
 refine ⟨h3,?_⟩
 rintro ⟨⟨⟨a,l,nx,d,⟨⟩⟩,⟨⟩⟩,⟨⟩⟩ e
 obtain ⟨rfl,rfl,rfl,rfl⟩:a=x0∧l=x1∧nx=x2∧d=x3:=by simpa using e
 refine ⟨by rw [gy];simp only [List.length_cons,List.length_nil];omega,h1,af (fun g=>⟨h1,fun r2 e2=>?_⟩) fun g=>⟨ab1 (v:=r) h1 (by omega) h3,af (fun g2=>⟨h1,fun r4 e4=>?_⟩) fun g2=>?_⟩⟩
 · have:=LW (n:=n) (x:=(a,l,nx,d,())) (.inl (jE g))
   dsimp only
   rw [this]
   exact ⟨e2,rfl⟩
 · have:=LW (n:=n) (x:=(a,l,nx,d,())) (.inr (jE g2))
   dsimp only
   rw [this]
   exact ⟨e4,rfl⟩
 · have:=aaw (n:=n) (x:=(a,l,nx,d,())) (fJ g) (fJ g2)
   dsimp only
   rw [this]
   exact ⟨rfl,rfl⟩
theorem avr {v:List Sp.gX} (h:Sp.fZ v=true) {n:Nat} (hn:n<v.length):Sp.oL v n=true:=by
 unfold Sp.fZ at h
 rw [Bool.and_eq_true] at h
 exact Zd.1 h.1 n hn
theorem aaA {v:List Sp.gX} (h:Sp.fZ v=true) {n:Nat} (hn:n<v.length):0≤Sp.jk (Sp.bM v n)∧Sp.jk (Sp.bM v n)≤99:=by
 have:=avr h hn
 unfold Sp.oL at this
 simp only [Bool.and_eq_true,decide_eq_true_eq] at this
 exact this.2.2.2
theorem zq {v:List Sp.gX} {n m:Int} (h:Sp.fZ v=false∨Sp.uO v n m=false):Sp.dJ v n m=(v,false):=by
 unfold Sp.dJ
 rcases h with h|h<;>rw [h]<;>simp
theorem Pv {v:List Sp.gX} {n m:Int} (h1:Sp.fZ v=true) (h2:Sp.uO v n m=true):
 Sp.dJ v n m=(v.set (Sp.aB v n).toNat (Sp.ab4 (Sp.bM v (Sp.aB v n).toNat) (Sp.jk (Sp.bM v (Sp.aB v n).toNat)+m)),true):=by
 unfold Sp.dJ;rw [h1,h2];rfl
theorem agz {v:List Sp.gX} {n m:Int} (h:¬ 0≤Sp.aB v n):Sp.uO v n m=false:=by
 unfold Sp.uO;rw [decide_eq_false h];rfl
theorem agA {v:List Sp.gX} {n m:Int} (h:Sp.aH v):Sp.aH (Sp.dJ v n m).1∧(Sp.dJ v n m).1.length=v.length:=by
 cases h1:Sp.fZ v&&Sp.uO v n m with
 |false=>
  rw [Bool.and_eq_false_iff] at h1
  rw [zq h1];exact ⟨h,rfl⟩
 |true=>
  rw [Bool.and_eq_true] at h1
  rw [Pv h1.1 h1.2]
  have hg:0≤Sp.aB v n:=by
   have:=h1.2
   unfold Sp.uO at this
   simp only [Bool.and_eq_true,decide_eq_true_eq] at this
   exact this.1
  exact ⟨Pq _ h (BI h (n:=(Sp.aB v n).toNat) (by have:=EM hg;omega)),by simp⟩
theorem RI:aC prog G qE rH:=by
 refine agB (aF (l:=[(dY, .pure dV),(nV, .pure nC),(jV, .eff (ai iQ) jy)]) (ay ah) (by simp only [List.forall_mem_cons];exact ⟨⟨pK,nZ⟩,⟨MN,KX⟩,⟨Es,Dc⟩,fun x hx=>by cases hx⟩)) (fun ⟨v,n,_⟩ hp=>⟨((((Sp.dJ v n 1).1,(Sp.dJ v n 1).2,()),())),⟨rfl,rfl⟩⟩) ?_
 intro v n hin hp
 obtain ⟨h1,h2⟩:Sp.aH v∧v.length≤100:=hp
 refine ⟨h1,?_⟩
 rintro ⟨⟨r,⟨⟩⟩,⟨⟩⟩ e
 have e:r=v:=e
 subst e
 refine ⟨trivial,h1,af (fun g=>?_) fun g=>af (fun g2=>?_) fun g2=>?_⟩
 · dsimp only;rw [zq (.inl (jE g))];exact ⟨rfl,rfl⟩
 · dsimp only;rw [zq (.inr (agz (by have:=iO g2;omega)))];exact ⟨rfl,rfl⟩
 have g2:0≤Sp.aB r n:=by have:=ji g2;omega
 have hlt:=EM g2
 have hp:=aaA (fJ g) (n:=(Sp.aB r n).toNat) (by omega)
 refine ⟨⟨g2,hlt⟩,af (fun g3=>?_) fun g3=>⟨⟨g2,hlt⟩,by dsimp only;omega,⟨g2,hlt⟩,by dsimp only;omega,?_⟩⟩
 · have g3:Sp.jk (Sp.bM r (Sp.aB r n).toNat)≥99:=iO g3
   have hm:Sp.uO r n 1=false:=by
    unfold Sp.uO
    rw [decide_eq_false (p:=Sp.jk (Sp.bM r (Sp.aB r n).toNat)+1≤99) (by omega)];simp
   dsimp only;rw [zq (.inr hm)];exact ⟨rfl,rfl⟩
 · have g3:¬ Sp.jk (Sp.bM r (Sp.aB r n).toNat)≥99:=ji g3
   have hm:Sp.uO r n 1=true:=by
    unfold Sp.uO
    rw [decide_eq_true g2,decide_eq_true (p:=0≤Sp.jk (Sp.bM r (Sp.aB r n).toNat)+1) (by omega),decide_eq_true (p:=Sp.jk (Sp.bM r (Sp.aB r n).toNat)+1≤99) (by omega)];rfl
   have hw:IntKind.i64.wrap (Sp.jk (Sp.bM r (Sp.aB r n).toNat)+1)=Sp.jk (Sp.bM r (Sp.aB r n).toNat)+1:=iI _ (by omega)
   unfold Sp.jk Sp.bM at hw
   dsimp only;rw [hw,Pv (fJ g) hm];exact ⟨rfl,rfl⟩
theorem QU {v:List Sp.gX} {n:Int} (h:0≤Sp.aB v n):Sp.jg v n=(Sp.uN (Sp.bM v (Sp.aB v n).toNat),true):=by
 unfold Sp.jg;rw [decide_eq_true h];rfl
theorem ab5 {v:List Sp.gX} {n:Int} (h:¬ 0≤Sp.aB v n):Sp.jg v n=(([],[],0,[],()),false):=by
 unfold Sp.jg;rw [decide_eq_false h];rfl
theorem aee:aC prog G zi AZ:=by
 refine aef (aF (l:=[(jY, .eff (ai jb) kC),(tJ, .pure uy)]) (ay ah) (by simp only [List.forall_mem_cons];exact ⟨⟨Hw,F5⟩,⟨Ui,RD⟩,fun x hx=>by cases hx⟩)) (fun ⟨v,n,_⟩ hp=>⟨((((Sp.jg v n).1.1,(Sp.jg v n).1.2.1,(Sp.jg v n).1.2.2.1,(Sp.jg v n).1.2.2.2.1,()),(Sp.jg v n).2,()),()),⟨rfl,rfl⟩⟩) ?_
 intro v n hin hp
 have hp:Sp.aH v:=hp
 refine ⟨trivial,af (fun g=>?_) fun g=>?_⟩
 · have g:0≤Sp.aB v n:=iO g
   have hlt:=EM g
   refine ⟨⟨g,hlt⟩,BI hp (by omega),?_⟩
   intro r e
   dsimp only
   rw [QU g]
   exact ⟨e,rfl⟩
 · have g:¬ 0≤Sp.aB v n:=ji g
   dsimp only
   rw [ab5 g]
   exact ⟨rfl,rfl⟩
theorem aeg:aC prog G zh A7:=by
 refine aeh (aF (l:=[(nU, .eff (ai kP) ni),(nV, .pure nC)]) (ay ah) (by simp only [List.forall_mem_cons];exact ⟨⟨ML,KW⟩,⟨MN,KX⟩,fun x hx=>by cases hx⟩)) (fun ⟨v,n,_⟩ hp=>⟨((((Sp.jg v n).1.1,(Sp.jg v n).1.2.1,(Sp.jg v n).1.2.2.1,(Sp.jg v n).1.2.2.2.1,()),(Sp.jg v n).2,()),()),⟨rfl,rfl⟩⟩) ?_
 intro v n hin hp
 have hp:Sp.aH v:=hp
 refine ⟨trivial,af (fun g=>?_) fun g=>?_⟩
 · have g:¬ 0≤Sp.aB v n:=by have:=iO g;omega
   dsimp only
   rw [ab5 g]
   exact ⟨rfl,rfl⟩
 · have g:0≤Sp.aB v n:=by have:=ji g;omega
   have hlt:=EM g
   refine ⟨⟨g,hlt⟩,BI hp (by omega),?_⟩
   intro r e
   dsimp only
   rw [QU g]
   exact ⟨e,rfl⟩
end Go.Proofs.Tryz
