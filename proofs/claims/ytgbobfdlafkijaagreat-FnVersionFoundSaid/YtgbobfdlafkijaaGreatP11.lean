import Derived.Test.YtgbobfdlafkijaaGreatP10
namespace Go.Proofs.Tryz
open Go Go.Fw Go.IntWalk
abbrev V0:Sp.iF:=(0,[],[],0,[],0,())
theorem zX {v:List Sp.iF} (h:Sp.bn v) {n:Nat} (hn:n<v.length):Sp.eF (Sp.qp (Sp.bW v n)):=h.2 _ (getD_mem (d:=V0) hn)
theorem Ku:Sp.bn []:=⟨by simp,fun x hx=>by cases hx⟩
theorem Xw {v:List Sp.iF} {x:Sp.iF} (h:Sp.bn v) (hl:v.length<1000) (hx:Sp.eF (Sp.qp x)):Sp.bn (v++[x]):=
 ⟨by simp;omega,fun y hy=>by rcases List.mem_append.1 hy with hy|hy;exact h.2 y hy;rw [List.mem_singleton.1 hy];exact hx⟩
theorem O7 {v:List Sp.iF} {x:Sp.iF} (n:Nat) (h:Sp.bn v) (hx:Sp.eF (Sp.qp x)):Sp.bn (v.set n x):=
 ⟨by simp;exact h.1,fun y hy=>by rcases List.mem_or_eq_of_mem_set hy with hy|hy;exact h.2 y hy;rw [hy];exact hx⟩
theorem Dw:aC prog G jc jf:=by
 refine Xx (aF (l:=[(zM, .pure AQ),(yB, .eff (aj rD) zy)]) (aA ah) (by simp only [List.forall_mem_cons];exact ⟨⟨afh,ac2⟩,⟨adi,abr⟩,fun x hx=>by cases hx⟩)) (fun ⟨(a,l,nx,d,_),_⟩ _=>⟨(((a,l,nx,d,()),()),()),rfl⟩) ?_
 intro x0 x1 x2 x3 hin hp
 refine ⟨hp.1,?_⟩
 rintro ⟨⟨⟨a,l,nx,⟨⟩⟩,⟨⟩⟩,⟨⟩⟩ e
 obtain ⟨rfl,rfl,rfl⟩:a=x0∧l=x1∧nx=x2:=by simpa using e
 exact ⟨hp.2,rfl⟩
theorem Ia:aC prog G lC kM:=by
 refine afi (aF (l:=[(Bv, .pure Dc),(ny, .eff (aj jP) lT)]) (aA ah) (by simp only [List.forall_mem_cons];exact ⟨⟨aht,aeW⟩,⟨Ko,H8⟩,fun x hx=>by cases hx⟩)) (fun ⟨(a,l,nx,d,_),_⟩ _=>⟨(((a,l,nx,d,()),()),()),rfl⟩) ?_
 intro x0 x1 x2 x3 hin hp
 refine ⟨hp.1,?_⟩
 rintro ⟨⟨⟨a,l,nx,⟨⟩⟩,⟨⟩⟩,⟨⟩⟩ e
 obtain ⟨rfl,rfl,rfl⟩:a=x0∧l=x1∧nx=x2:=by simpa using e
 exact ⟨hp.2,rfl⟩
theorem Xy:aC prog G sH vM:=by
 refine Xz (aF (l:=[(jc, .eff (aj gV) jf)]) (aA ah) (by simp only [List.forall_mem_cons];exact ⟨⟨Dw,BL⟩,fun x hx=>by cases hx⟩)) (fun ⟨v,_⟩ _=>⟨((v,()),()),rfl⟩) ?_
 intro v hin hp
 have hp:Sp.bn v:=hp
 have hlen:v.length≤1000:=hp.1
 refine mM (fun i (x:List Sp.iF)=>(((),i,()),x,())) (fun y=>y.1.2.1) (fun _ _=>rfl) v.length (by omega) (fun n l=>l=v.take n) (by simp) (fun I μ n l hn hJ next=>?_) fun I μ l hJ=>?_
 · subst hJ
   have hl:(v.take n).length≤n:=by rw [List.length_take];omega
   dsimp only
   refine gW (by omega) ⟨⟨by omega,by omega⟩,zX hp hn,?_⟩
   rintro ⟨⟨⟨a,l,nx,d,⟨⟩⟩,⟨⟩⟩,⟨⟩⟩ e
   refine ⟨by rw [fD];simp only [List.length_cons,List.length_nil];omega,rfl,next _ ?_⟩
   rw [Sp.take_succ' v n V0 hn]
   have e:(a,l,nx,d,())=Sp.qp (v.getD n V0):=e
   unfold Sp.qp at e
   simp only [Prod.mk.injEq] at e
   rw [Int.toNat_natCast]
   dsimp only
   rw [e.1,e.2.1,e.2.2.1,e.2.2.2.1]
 · subst hJ
   dsimp only
   refine gX (by omega) ?_
   show List.take v.length v=v
   rw [List.take_length]
theorem TJ:aC prog G ug tJ:=by
 refine ahu (aF (l:=[(lC, .eff (aj jw) kM)]) (aA ah) (by simp only [List.forall_mem_cons];exact ⟨⟨Ia,Gp⟩,fun x hx=>by cases hx⟩)) (fun ⟨v,_⟩ _=>⟨((v,()),()),rfl⟩) ?_
 intro v hin hp
 have hp:Sp.bn v:=hp
 have hlen:v.length≤1000:=hp.1
 refine mM (fun i (x:List Sp.iF)=>(((),i,()),x,())) (fun y=>y.1.2.1) (fun _ _=>rfl) v.length (by omega) (fun n l=>l=v.take n) (by simp) (fun I μ n l hn hJ next=>?_) fun I μ l hJ=>?_
 · subst hJ
   have hl:(v.take n).length≤n:=by rw [List.length_take];omega
   dsimp only
   refine gW (by omega) ⟨⟨by omega,by omega⟩,⟨by omega,by omega⟩,zX hp hn,?_⟩
   rintro ⟨⟨⟨a,l,nx,d,⟨⟩⟩,⟨⟩⟩,⟨⟩⟩ e
   refine ⟨⟨by omega,by omega⟩,by rw [fD];simp only [List.length_cons,List.length_nil];omega,rfl,next _ ?_⟩
   rw [Sp.take_succ' v n V0 hn]
   have e:(a,l,nx,d,())=Sp.qp (v.getD n V0):=e
   unfold Sp.qp at e
   simp only [Prod.mk.injEq] at e
   rw [Int.toNat_natCast]
   dsimp only
   rw [e.1,e.2.1,e.2.2.1,e.2.2.2.1]
 · subst hJ
   dsimp only
   refine gX (by omega) ?_
   show List.take v.length v=v
   rw [List.take_length]
theorem Rt:aG prog G oN qI:=by
 refine Ru (aF (l:=[(sF, .pure vK),(sG, .pure uY)]) (aA ah) (by simp only [List.forall_mem_cons];exact ⟨⟨Xt,Vt⟩,⟨Xo,Vk⟩,fun x hx=>by cases hx⟩)) ?_
 intro x0 x1 x2 x3 hin hp
 refine ⟨trivial,af (fun h=>⟨hp.2,?_⟩) fun h=>?_⟩
 · have h:Sp.dh (Sp.Ja (x0,x1,x2,x3,()))=true:=h
   unfold Sp.wz;rw [h];rfl
 · have h:Sp.dh (Sp.Ja (x0,x1,x2,x3,()))=false:=h
   unfold Sp.wz;rw [h];rfl
theorem Rw:aG prog G oO qJ:=by
 refine Rx (aF (l:=[(kT, .pure lJ),(jb, .pure jd)]) (aA ah) (by simp only [List.forall_mem_cons];exact ⟨⟨Kt,IY⟩,⟨Dv,BK⟩,fun x hx=>by cases hx⟩)) ?_
 intro x0 x1 x2 x3 hin hp
 refine ⟨trivial,af (fun h=>⟨hp.2,?_⟩) fun h=>?_⟩
 · have h:Sp.dh (Sp.Ja (x0,x1,x2,x3,()))=true:=h
   unfold Sp.wz;rw [h];rfl
 · have h:Sp.dh (Sp.Ja (x0,x1,x2,x3,()))=false:=h
   unfold Sp.wz;rw [h];rfl
theorem akR {v:List Sp.iF} {n:Nat} (hn:n<v.length) (h:Sp.kJ v n=false):Sp.fO v=false:=by
 unfold Sp.fO;rw [zk hn h];rfl
theorem FD:aG prog G jk jD:=by
 refine QW (aF (l:=[(oN, .pure qI),(fF, .pure eu)]) (aA ah) (by simp only [List.forall_mem_cons];exact ⟨⟨Rt,QM⟩,⟨qo,oC⟩,fun x hx=>by cases hx⟩)) ?_
 intro v hin hp
 have hp:Sp.bn v:=hp
 have hlen:v.length≤1000:=hp.1
 refine jL v.length (by omega) (fun n=>∀ i,i<n→Sp.kJ v i=true) (fun i hi=>by omega) (fun I μ n hn hJ next=>?_) fun I μ hJ=>?_
 · dsimp only
   have no:Sp.kJ v n=false→(false,())=(Sp.fO v,()):=fun h=>by rw [akR hn h]
   refine gW (by omega) ⟨⟨by omega,by omega⟩,trivial,af (fun h2=>no ?_) fun h2=>?_⟩
   · have h2:(decide (1≤(Sp.bW v n).1)&&decide ((Sp.bW v n).1≤1000000000))=false:=jB h2
     unfold Sp.kJ;rw [h2];rfl
   have h2:(decide (1≤(Sp.bW v n).1)&&decide ((Sp.bW v n).1≤1000000000))=true:=fJ h2
   have rest:∀ A:Prop,(Sp.kJ v n=true→A)→(!(decide (0<n)&&decide ((Sp.bW v (n-1)).1≥(Sp.bW v n).1)))=true→Sp.eF (Sp.qp (Sp.bW v n))∧(bif !Sp.wz (Sp.qp (Sp.bW v n)) then (false,())=(Sp.fO v,()) else
    True∧bif !(decide (0≤(Sp.bW v n).2.2.2.2.2.1)&&decide ((Sp.bW v n).2.2.2.2.2.1≤99)) then (false,())=(Sp.fO v,()) else A):=by
    intro A hA hord
    refine ⟨zX hp hn,af (fun h3=>no ?_) fun h3=>⟨trivial,af (fun h4=>no ?_) fun h4=>hA ?_⟩⟩
    · have h3:=jB h3
      unfold Sp.kJ;rw [h3,hord,h2];rfl
    · have h3:=fJ h3
      have h4:=jB h4
      unfold Sp.kJ;rw [h3,h4,hord,h2];rfl
    · have h3:=fJ h3
      have h4:=fJ h4
      unfold Sp.kJ;rw [h3,h4,hord,h2];rfl
   refine af (fun h5=>?_) fun h5=>rest _ (fun h=>⟨rfl,next (cZ hJ h)⟩) ?_
   · have h5:0<n:=by have:=iV h5;omega
     rw [vT h5 (by omega)]
     refine ⟨⟨by omega,by omega⟩,af (fun h6=>no ?_) fun h6=>rest _ (fun h=>⟨rfl,next (cZ hJ h)⟩) ?_⟩
     · have h6:decide ((Sp.bW v (n-1)).1≥(Sp.bW v n).1)=true:=h6
       unfold Sp.kJ;rw [h6,h2,decide_eq_true h5];rfl
     · have h6:decide ((Sp.bW v (n-1)).1≥(Sp.bW v n).1)=false:=h6
       rw [h6,Bool.and_false];rfl
   · have h5:¬ 0<n:=by have:=jh h5;omega
     rw [decide_eq_false h5];rfl
 · dsimp only
   refine gX (by omega) (congrArg (·,()) ?_)
   unfold Sp.fO
   rw [kC hJ];rfl
theorem FH:aG prog G jl jE:=by
 refine QX (aF (l:=[(oO, .pure qJ),(fC, .pure dV)]) (aA ah) (by simp only [List.forall_mem_cons];exact ⟨⟨Rw,QN⟩,⟨o9,nG⟩,fun x hx=>by cases hx⟩)) ?_
 intro v hin hp
 have hp:Sp.bn v:=hp
 have hlen:v.length≤1000:=hp.1
 refine jL v.length (by omega) (fun n=>∀ i,i<n→Sp.kJ v i=true) (fun i hi=>by omega) (fun I μ n hn hJ next=>?_) fun I μ hJ=>?_
 · dsimp only
   have no:Sp.kJ v n=false→(false,())=(Sp.fO v,()):=fun h=>by rw [akR hn h]
   refine gW (by omega) ⟨⟨by omega,by omega⟩,trivial,af (fun h2=>no ?_) fun h2=>⟨⟨by omega,by omega⟩,zX hp hn,af (fun h3=>no ?_) fun h3=>⟨⟨by omega,by omega⟩,trivial,af (fun h4=>no ?_) fun h4=>af (fun h5=>?_) fun h5=>⟨rfl,next (cZ hJ ?_)⟩⟩⟩⟩
   · have h2:(decide (1≤(Sp.bW v n).1)&&decide ((Sp.bW v n).1≤1000000000))=false:=jB h2
     unfold Sp.kJ;rw [h2];rfl
   · have h3:Sp.wz (Sp.qp (Sp.bW v n))=false:=jB h3
     unfold Sp.kJ;rw [h3];simp
   · have h4:(decide (0≤(Sp.bW v n).2.2.2.2.2.1)&&decide ((Sp.bW v n).2.2.2.2.2.1≤99))=false:=jB h4
     unfold Sp.kJ;rw [h4];simp
   · have h2:(decide (1≤(Sp.bW v n).1)&&decide ((Sp.bW v n).1≤1000000000))=true:=fJ h2
     have h3:Sp.wz (Sp.qp (Sp.bW v n))=true:=fJ h3
     have h4:(decide (0≤(Sp.bW v n).2.2.2.2.2.1)&&decide ((Sp.bW v n).2.2.2.2.2.1≤99))=true:=fJ h4
     have h5:0<n:=by have:=iV h5;omega
     rw [vT h5 (by omega)]
     refine ⟨⟨by omega,by omega⟩,⟨by omega,by omega⟩,af (fun h6=>no ?_) fun h6=>⟨rfl,next (cZ hJ ?_)⟩⟩
     · have h6:decide ((Sp.bW v (n-1)).1≥(Sp.bW v n).1)=true:=h6
       unfold Sp.kJ;rw [h6,h2,decide_eq_true h5];rfl
     · have h6:decide ((Sp.bW v (n-1)).1≥(Sp.bW v n).1)=false:=h6
       unfold Sp.kJ;rw [h6,h2,h3,h4,Bool.and_false];rfl
   · have h2:(decide (1≤(Sp.bW v n).1)&&decide ((Sp.bW v n).1≤1000000000))=true:=fJ h2
     have h3:Sp.wz (Sp.qp (Sp.bW v n))=true:=fJ h3
     have h4:(decide (0≤(Sp.bW v n).2.2.2.2.2.1)&&decide ((Sp.bW v n).2.2.2.2.2.1≤99))=true:=fJ h4
     have h5:¬ 0<n:=by have:=jh h5;omega
     unfold Sp.kJ;rw [decide_eq_false h5,h2,h3,h4];rfl
 · dsimp only
   refine gX (by omega) (congrArg (·,()) ?_)
   unfold Sp.fO
   rw [kC hJ];rfl
theorem abG (s:Int):∀ (d:List Sp.iF) (k:Int),(Sp.FT k d s=-1∧∀ x∈d,x.1≠s)∨∃ n,n<d.length∧Sp.FT k d s=k+n∧(Sp.bW d n).1=s∧∀ i,i<n→(Sp.bW d i).1≠s
 |[],k=> .inl ⟨rfl,fun x hx=>by cases hx⟩
 |x::r,k=>by
  by_cases h:x.1=s
  · right
    refine ⟨0,by simp,?_,h,fun i hi=>by omega⟩
    rw [Sp.FT,beq_iff_eq.2 h];simp
  · rcases abG s r (k+1) with ⟨h1,h2⟩|⟨n,h1,h2,h3,h4⟩
    · left
      refine ⟨by rw [Sp.FT,beq_eq_false_iff_ne.2 h];exact h1,fun y hy=>?_⟩
      rcases List.mem_cons.1 hy with rfl|hy
      · exact h
      · exact h2 y hy
    · right
      refine ⟨n+1,by simp;omega,by rw [Sp.FT,beq_eq_false_iff_ne.2 h];show Sp.FT (k+1) r s=_;omega,h3,fun i hi=>?_⟩
      cases i with
      |zero=>exact h
      |succ i=>exact h4 i (by omega)
theorem LQ (d:List Sp.iF) (s:Int):(Sp.aP d s=-1∧∀ x∈d,x.1≠s)∨∃ n,n<d.length∧Sp.aP d s=n∧(Sp.bW d n).1=s∧∀ i,i<n→(Sp.bW d i).1≠s:=by
 rcases abG s d 0 with h|⟨n,h1,h2,h3⟩
 · exact .inl h
 · exact .inr ⟨n,h1,by show Sp.FT 0 d s=_;omega,h3⟩
theorem Md {d:List Sp.iF} {s:Int} (h:0≤Sp.aP d s):Sp.aP d s<d.length:=by
 rcases LQ d s with ⟨h1,_⟩|⟨n,h1,h2,_⟩<;>omega
theorem Uz {d:List Sp.iF} {s:Int} {n:Nat} (hn:n<d.length) (h1:(Sp.bW d n).1=s) (h2:∀ i,i<n→(Sp.bW d i).1≠s):Sp.aP d s=n:=by
 rcases LQ d s with ⟨_,h⟩|⟨m,g1,g2,g3,g4⟩
 · exact (h _ (getD_mem (d:=V0) hn) h1).elim
 · have:m=n:=by
    rcases Nat.lt_trichotomy m n with h|h|h
    · exact (h2 m h g3).elim
    · exact h
    · exact (g4 n h h1).elim
   rw [g2,this]
theorem ad7 {d:List Sp.iF} {s:Int} (h2:∀ i,i<d.length→(Sp.bW d i).1≠s):Sp.aP d s=-1:=by
 rcases LQ d s with ⟨h,_⟩|⟨m,g1,_,g3,_⟩
 · exact h
 · exact (h2 m g1 g3).elim
theorem KU:aG prog G mg ng:=by
 refine Zo (aF (l:=[]) (aA ah) (fun x hx=>by cases hx)) ?_
 intro x0 x1 x2 x3 x4 x5 p hin hp
 exact rfl
theorem xB:aG prog G dW fK:=by
 refine xC (aF (l:=[(mg, .pure ng)]) (aA ah) (by simp only [List.forall_mem_cons];exact ⟨⟨KU,J8⟩,fun x hx=>by cases hx⟩)) ?_
 intro d s hin hp
 have hlen:d.length≤maxLen:=hin.1.1
 rw [maxLen_eq] at hlen
 refine jL d.length hlen (fun n=>∀ i,i<n→(Sp.bW d i).1≠s) (fun i hi=>by omega) (fun I μ n hn hJ next=>?_) fun I μ hJ=>?_
 · dsimp only
   refine gW (by omega) ⟨⟨by omega,by omega⟩,trivial,af (fun h=>?_) fun h=>⟨rfl,next fun i hi=>?_⟩⟩
   · rw [Uz hn (beq_iff_eq.1 h) hJ]
   · rcases Nat.lt_or_ge i n with h'|h'
     · exact hJ i h'
     · have:i=n:=by omega
       rw [this];exact beq_eq_false_iff_ne.1 h
 · dsimp only
   refine gX (by omega) ?_
   rw [ad7 hJ]
theorem adl:aG prog G yC zB:=by
 refine adn (aF (l:=[(dW, .pure fK),(mg, .pure ng)]) (aA ah) (by simp only [List.forall_mem_cons];exact ⟨⟨xB,wI⟩,⟨KU,J8⟩,fun x hx=>by cases hx⟩)) ?_
 intro d s hin hp
 exact ⟨trivial,rfl⟩
theorem QY:aG prog G qQ rG:=by
 refine afj (aF (l:=[]) (aA ah) (fun x hx=>by cases hx)) ?_
 intro d s hin hp
 have hlen:d.length≤maxLen:=hin.1.1
 rw [maxLen_eq] at hlen
 refine jL d.length hlen (fun n=>∀ i,i<n→(Sp.bW d i).1≠s) (fun i hi=>by omega) (fun I μ n hn hJ next=>?_) fun I μ hJ=>?_
 · dsimp only
   refine gW (by omega) ⟨⟨by omega,by omega⟩,af (fun h=>?_) fun h=>⟨rfl,next fun i hi=>?_⟩⟩
   · rw [Uz hn (beq_iff_eq.1 h) hJ]
   · rcases Nat.lt_or_ge i n with h'|h'
     · exact hJ i h'
     · have:i=n:=by omega
       rw [this];exact beq_eq_false_iff_ne.1 h
 · dsimp only
   refine gX (by omega) ?_
   rw [ad7 hJ]
theorem G9 {v:List Sp.iF} {n:Int} {x:Sp.Me} (h:Sp.fO v=false∨Sp.fO (v++[(n,x.1,x.2.1,x.2.2.1,x.2.2.2.1,0,())])=false):Sp.fM v n x=(v,false):=by
 unfold Sp.fM
 rcases h with h|h<;>rw [h]<;>simp
theorem LU {v:List Sp.iF} {n:Int} {x:Sp.Me} (h1:Sp.fO v=true) (h2:Sp.fO (v++[(n,x.1,x.2.1,x.2.2.1,x.2.2.2.1,0,())])=true):Sp.fM v n x=(v++[(n,x.1,x.2.1,x.2.2.1,x.2.2.2.1,0,())],true):=by
 unfold Sp.fM
 rw [h1,h2];rfl
theorem VJ:aC prog G qR uw:=by
 refine VK (aF (l:=[(jk, .pure jD),(jc, .eff (aj gV) jf),(sH, .eff (aj mZ) vM)]) (aA ah) (by simp only [List.forall_mem_cons];exact ⟨⟨FD,EO⟩,⟨Dw,BL⟩,⟨Xy,Vu⟩,fun x hx=>by cases hx⟩)) (fun ⟨v,n,x,_⟩ _=>⟨((((Sp.fM v n x).1,(Sp.fM v n x).2,()),())),⟨rfl,rfl⟩⟩) ?_
 intro v n x0 x1 x2 x3 hin hp
 obtain ⟨h1,h2,h3⟩:=hp
 refine ⟨h1,?_⟩
 rintro ⟨⟨r,⟨⟩⟩,⟨⟩⟩ e
 have e:r=v:=e
 subst e
 refine ⟨h3,?_⟩
 rintro ⟨⟨⟨a,l,nx,d,⟨⟩⟩,⟨⟩⟩,⟨⟩⟩ e
 obtain ⟨rfl,rfl,rfl,rfl⟩:a=x0∧l=x1∧nx=x2∧d=x3:=by simpa using e
 refine ⟨by rw [fD];simp only [List.length_cons,List.length_nil];omega,h1,af (fun g=>⟨h1,fun r2 e2=>?_⟩) fun g=>⟨Xw (v:=r) h1 (by omega) h3,af (fun g2=>⟨h1,fun r4 e4=>?_⟩) fun g2=>?_⟩⟩
 · have:=G9 (n:=n) (x:=(a,l,nx,d,())) (.inl (jB g))
   dsimp only
   rw [this]
   exact ⟨e2,rfl⟩
 · have:=G9 (n:=n) (x:=(a,l,nx,d,())) (.inr (jB g2))
   dsimp only
   rw [this]
   exact ⟨e4,rfl⟩
 · have:=LU (n:=n) (x:=(a,l,nx,d,())) (fJ g) (fJ g2)
   dsimp only
   rw [this]
   exact ⟨rfl,rfl⟩
theorem Jb:aC prog G ku kG:=by
 refine VL (aF (l:=[(jl, .pure jE),(lC, .eff (aj jw) kM),(ug, .eff (aj nV) tJ)]) (aA ah) (by simp only [List.forall_mem_cons];exact ⟨⟨FH,EP⟩,⟨Ia,Gp⟩,⟨TJ,QL⟩,fun x hx=>by cases hx⟩)) (fun ⟨v,n,x,_⟩ _=>⟨((((Sp.fM v n x).1,(Sp.fM v n x).2,()),())),⟨rfl,rfl⟩⟩) ?_
 intro v n x0 x1 x2 x3 hin hp
 obtain ⟨h1,h2,h3⟩:=hp
 refine ⟨h1,?_⟩
 rintro ⟨⟨r,⟨⟩⟩,⟨⟩⟩ e
 have e:r=v:=e
 subst e
 refine ⟨h3,?_⟩
 rintro ⟨⟨⟨a,l,nx,d,⟨⟩⟩,⟨⟩⟩,⟨⟩⟩ e
 obtain ⟨rfl,rfl,rfl,rfl⟩:a=x0∧l=x1∧nx=x2∧d=x3:=by simpa using e
 refine ⟨by rw [fD];simp only [List.length_cons,List.length_nil];omega,h1,af (fun g=>⟨h1,fun r2 e2=>?_⟩) fun g=>⟨Xw (v:=r) h1 (by omega) h3,af (fun g2=>⟨h1,fun r4 e4=>?_⟩) fun g2=>?_⟩⟩
 · have:=G9 (n:=n) (x:=(a,l,nx,d,())) (.inl (jB g))
   dsimp only
   rw [this]
   exact ⟨e2,rfl⟩
 · have:=G9 (n:=n) (x:=(a,l,nx,d,())) (.inr (jB g2))
   dsimp only
   rw [this]
   exact ⟨e4,rfl⟩
 · have:=LU (n:=n) (x:=(a,l,nx,d,())) (fJ g) (fJ g2)
   dsimp only
   rw [this]
   exact ⟨rfl,rfl⟩
theorem akS {v:List Sp.iF} (h:Sp.fO v=true) {n:Nat} (hn:n<v.length):Sp.kJ v n=true:=by
 unfold Sp.fO at h
 rw [Bool.and_eq_true] at h
 exact UA.1 h.1 n hn
theorem ara {v:List Sp.iF} (h:Sp.fO v=true) {n:Nat} (hn:n<v.length):0≤Sp.zY (Sp.bW v n)∧Sp.zY (Sp.bW v n)≤99:=by
 have:=akS h hn
 unfold Sp.kJ at this
 simp only [Bool.and_eq_true,decide_eq_true_eq] at this
 exact this.2.2.2
theorem TL {v:List Sp.iF} {n m:Int} (h:Sp.fO v=false∨Sp.FI v n m=false):Sp.yj v n m=(v,false):=by
 unfold Sp.yj
 rcases h with h|h<;>rw [h]<;>simp
theorem ahv {v:List Sp.iF} {n m:Int} (h1:Sp.fO v=true) (h2:Sp.FI v n m=true):
 Sp.yj v n m=(v.set (Sp.aP v n).toNat (Sp.am3 (Sp.bW v (Sp.aP v n).toNat) (Sp.zY (Sp.bW v (Sp.aP v n).toNat)+m)),true):=by
 unfold Sp.yj;rw [h1,h2];rfl
theorem apX {v:List Sp.iF} {n m:Int} (h:¬ 0≤Sp.aP v n):Sp.FI v n m=false:=by
 unfold Sp.FI;rw [decide_eq_false h];rfl
theorem am4 {v:List Sp.iF} {n m:Int} (h:Sp.bn v):Sp.bn (Sp.yj v n m).1∧(Sp.yj v n m).1.length=v.length:=by
 cases h1:Sp.fO v&&Sp.FI v n m with
 |false=>
  rw [Bool.and_eq_false_iff] at h1
  rw [TL h1];exact ⟨h,rfl⟩
 |true=>
  rw [Bool.and_eq_true] at h1
  rw [ahv h1.1 h1.2]
  have hg:0≤Sp.aP v n:=by
   have:=h1.2
   unfold Sp.FI at this
   simp only [Bool.and_eq_true,decide_eq_true_eq] at this
   exact this.1
  exact ⟨O7 _ h (zX h (n:=(Sp.aP v n).toNat) (by have:=Md hg;omega)),by simp⟩
theorem abH:aC prog G wF yS:=by
 refine abI (aF (l:=[(jl, .pure jE),(qQ, .pure rG),(ug, .eff (aj nV) tJ)]) (aA ah) (by simp only [List.forall_mem_cons];exact ⟨⟨FH,EP⟩,⟨QY,OG⟩,⟨TJ,QL⟩,fun x hx=>by cases hx⟩)) (fun ⟨v,n,_⟩ hp=>⟨((((Sp.yj v n 1).1,(Sp.yj v n 1).2,()),())),⟨rfl,rfl⟩⟩) ?_
 intro v n hin hp
 obtain ⟨h1,h2⟩:Sp.bn v∧v.length≤100:=hp
 refine ⟨h1,?_⟩
 rintro ⟨⟨r,⟨⟩⟩,⟨⟩⟩ e
 have e:r=v:=e
 subst e
 refine ⟨trivial,h1,af (fun g=>?_) fun g=>af (fun g2=>?_) fun g2=>?_⟩
 · dsimp only;rw [TL (.inl (jB g))];exact ⟨rfl,rfl⟩
 · dsimp only;rw [TL (.inr (apX (by have:=iV g2;omega)))];exact ⟨rfl,rfl⟩
 have g2:0≤Sp.aP r n:=by have:=jh g2;omega
 have hlt:=Md g2
 have hp:=ara (fJ g) (n:=(Sp.aP r n).toNat) (by omega)
 refine ⟨⟨g2,hlt⟩,af (fun g3=>?_) fun g3=>⟨⟨g2,hlt⟩,by dsimp only;omega,⟨g2,hlt⟩,by dsimp only;omega,?_⟩⟩
 · have g3:Sp.zY (Sp.bW r (Sp.aP r n).toNat)≥99:=iV g3
   have hm:Sp.FI r n 1=false:=by
    unfold Sp.FI
    rw [decide_eq_false (p:=Sp.zY (Sp.bW r (Sp.aP r n).toNat)+1≤99) (by omega)];simp
   dsimp only;rw [TL (.inr hm)];exact ⟨rfl,rfl⟩
 · have g3:¬ Sp.zY (Sp.bW r (Sp.aP r n).toNat)≥99:=jh g3
   have hm:Sp.FI r n 1=true:=by
    unfold Sp.FI
    rw [decide_eq_true g2,decide_eq_true (p:=0≤Sp.zY (Sp.bW r (Sp.aP r n).toNat)+1) (by omega),decide_eq_true (p:=Sp.zY (Sp.bW r (Sp.aP r n).toNat)+1≤99) (by omega)];rfl
   have hw:IntKind.i64.wrap (Sp.zY (Sp.bW r (Sp.aP r n).toNat)+1)=Sp.zY (Sp.bW r (Sp.aP r n).toNat)+1:=gK _ (by omega)
   unfold Sp.zY Sp.bW at hw
   dsimp only;rw [hw,ahv (fJ g) hm];exact ⟨rfl,rfl⟩
theorem UB {v:List Sp.iF} {n:Int} (h:0≤Sp.aP v n):Sp.iq v n=(Sp.qp (Sp.bW v (Sp.aP v n).toNat),true):=by
 unfold Sp.iq;rw [decide_eq_true h];rfl
theorem ahw {v:List Sp.iF} {n:Int} (h:¬ 0≤Sp.aP v n):Sp.iq v n=(([],[],0,[],()),false):=by
 unfold Sp.iq;rw [decide_eq_false h];rfl
theorem Zp:aC prog G uN wW:=by
 refine Zq (aF (l:=[(jc, .eff (aj gV) jf),(yC, .pure zB)]) (aA ah) (by simp only [List.forall_mem_cons];exact ⟨⟨Dw,BL⟩,⟨adl,abt⟩,fun x hx=>by cases hx⟩)) (fun ⟨v,n,_⟩ hp=>⟨((((Sp.iq v n).1.1,(Sp.iq v n).1.2.1,(Sp.iq v n).1.2.2.1,(Sp.iq v n).1.2.2.2.1,()),(Sp.iq v n).2,()),()),⟨rfl,rfl⟩⟩) ?_
 intro v n hin hp
 have hp:Sp.bn v:=hp
 refine ⟨trivial,af (fun g=>?_) fun g=>?_⟩
 · have g:0≤Sp.aP v n:=iV g
   have hlt:=Md g
   refine ⟨⟨g,hlt⟩,zX hp (by omega),?_⟩
   intro r e
   dsimp only
   rw [UB g]
   exact ⟨e,rfl⟩
 · have g:¬ 0≤Sp.aP v n:=jh g
   dsimp only
   rw [ahw g]
   exact ⟨rfl,rfl⟩
theorem Zr:aC prog G uM wX:=by
 refine Zt (aF (l:=[(lC, .eff (aj jw) kM),(qQ, .pure rG)]) (aA ah) (by simp only [List.forall_mem_cons];exact ⟨⟨Ia,Gp⟩,⟨QY,OG⟩,fun x hx=>by cases hx⟩)) (fun ⟨v,n,_⟩ hp=>⟨((((Sp.iq v n).1.1,(Sp.iq v n).1.2.1,(Sp.iq v n).1.2.2.1,(Sp.iq v n).1.2.2.2.1,()),(Sp.iq v n).2,()),()),⟨rfl,rfl⟩⟩) ?_
 intro v n hin hp
 have hp:Sp.bn v:=hp
 refine ⟨trivial,af (fun g=>?_) fun g=>?_⟩
 · have g:¬ 0≤Sp.aP v n:=by have:=iV g;omega
   dsimp only
   rw [ahw g]
   exact ⟨rfl,rfl⟩
 · have g:0≤Sp.aP v n:=by have:=jh g;omega
   have hlt:=Md g
   refine ⟨⟨g,hlt⟩,zX hp (by omega),?_⟩
   intro r e
   dsimp only
   rw [UB g]
   exact ⟨e,rfl⟩
end Go.Proofs.Tryz
