import Derived.Test.YtpipombdnmdimaaGreatDoorP10
import Derived.Test.YtpipombdnmdimaaGreatDoorSp
import Derived.Test.YtpipombdnmdimaaGreatDoorL4
import Derived.Test.YtpipombdnmdimaaGreatDoorV20
import Derived.Test.YtpipombdnmdimaaGreatDoorFwC
namespace Go.Proofs.Tryz
open Go Go.Fw Go.IntWalk Sp
theorem ajB:OK Gq.e:=by
 refine aO [] ⟨⟩ H0 λn=>show Gq.goal (ajC n) (n,())fromλN C=>?_
 dsimp only[Gq]at C ⊢;exact rfl
theorem acB:OK zQ.e:=by
 refine aO [] ⟨⟩ H0 λn=>show zQ.goal (acC n) (n,())fromλN C=>?_
 dsimp only[zQ]at C ⊢;exact rfl
theorem acD:OK Aj.e:=by
 refine aO [] ⟨⟩ H0 λw=>show Aj.goal (acE w) (w,())fromλN C=>?_
 dsimp only[Aj]at C ⊢;exact rfl
theorem aaD:OK yK.e:=by
 refine aO [zI.e] ⟨PE,⟨⟩⟩ H0 λd=>show yK.goal (aaE d) (d,())fromλN C=>?_
 dsimp only[yK]at C ⊢;refine⟨C,λr W=>?_⟩;exact Prod.ext W.1 rfl
theorem aaF:OK yL.e:=by
 refine aO [zJ.e] ⟨PD,⟨⟩⟩ H0 λd=>show yL.goal (aaG d) (d,())fromλN C=>?_
 dsimp only[yL]at C ⊢;refine⟨C,λr W=>?_⟩;exact Prod.ext W.1 rfl
theorem tu:OK je.e:=by
 refine aO [yK.e,o9.e] ⟨aaD,EZ,⟨⟩⟩ H0 λk t a b=>show je.goal (Vl k t a b) ((k,t,a,b,()),())fromλN C=>?_
 dsimp only[je]at C ⊢;refine⟨trivial,af (λh=>⟨C.2,?_⟩) λh=>?_⟩
 .have h:bg (Ea (k,t,a,b,()))=true:=h;unfold dS;rw[h];rfl
 .have h:bg (Ea (k,t,a,b,()))=false:=h;unfold dS;rw[h];rfl
theorem sZ:OK jf.e:=by
 refine aO [yL.e,o8.e] ⟨aaF,EX,⟨⟩⟩ H0 λk t a b=>show jf.goal (Vm k t a b) ((k,t,a,b,()),())fromλN C=>?_
 dsimp only[jf]at C ⊢;refine⟨trivial,af (λh=>⟨C.2,?_⟩) λh=>?_⟩
 .have h:bg (Ea (k,t,a,b,()))=true:=h;unfold dS;rw[h];rfl
 .have h:bg (Ea (k,t,a,b,()))=false:=h;unfold dS;rw[h];rfl
theorem UA:OK sU.e:=by
 refine aO [je.e,jc.e] ⟨tu,jE,⟨⟩⟩ Vo λv=>show sU.goal (UG v) (v,())fromλN C=>?_
 dsimp only[sU]at C ⊢;have C:Zr v:=C;have Y:v.length<=2000000:=C.1;refine dY v.length lu (λn=>∀i,i<n->oJ v i=true) (λi D=>lu) (λI P n H o next=>?_) λI P o=>?_
 .dsimp only;have d:oJ v n=false->(false,())=(pF v,()):=λh=>by rw[aqh H h]
  refine bT lu ⟨⟨lu,lu⟩,trivial,af (λO=>d ?_) λO=>?_⟩
  .have O:(decide (1<=(fM v n).1)&&decide ((fM v n).1<=1000000000))=false:=dD O;unfold oJ;rw[O];rfl
  have O:(decide (1<=(fM v n).1)&&decide ((fM v n).1<=1000000000))=true:=bI O;have e:∀A:Prop,(oJ v n=true->A)->(!(decide (0<n)&&decide ((fM v (n-1)).1>=(fM v n).1)))=true->C9 (uw (fM v n))/\(bif !dS (uw (fM v n))then(false,())=(pF v,())else
   True/\bif !(decide (0<=(fM v n).2.2.2.2.2.1)&&decide ((fM v n).2.2.2.2.2.1<=99))then(false,())=(pF v,())else A):=by
   intro A f a;refine⟨avF C H,af (λU=>d ?_) λU=>⟨trivial,af (λj=>d ?_) λj=>f ?_⟩⟩
   .have U:=dD U;unfold oJ;rw[U,a,O];rfl
   .have U:=bI U;have j:=dD j;unfold oJ;rw[U,j,a,O];rfl
   .have U:=bI U;have j:=bI j;unfold oJ;rw[U,j,a,O];rfl
  refine af (λM=>?_) λM=>e _ (λh=>⟨rfl,next (bV o h)⟩) ?_
  .have M:0<n:=by have:=fG M;omega
   rw[nH M lu];refine⟨⟨lu,lu⟩,af (λb=>d ?_) λb=>e _ (λh=>⟨rfl,next (bV o h)⟩) ?_⟩
   .have b:decide ((fM v (n-1)).1>=(fM v n).1)=true:=b;unfold oJ;rw[b,O,aHF M];rfl
   .have b:decide ((fM v (n-1)).1>=(fM v n).1)=false:=b;rw[b,aH8];rfl
  .have M:¬0<n:=by have:=fK M;omega
   rw[aHD M];rfl
 .dsimp only;refine bP lu (congrArg (·,()) ?_);unfold pF;rw[kG o];rfl
theorem UB:OK sV.e:=by
 refine aO [jf.e,gX.e] ⟨sZ,jd,⟨⟩⟩ Vp λv=>show sV.goal (UH v) (v,())fromλN C=>?_
 dsimp only[sV]at C ⊢;have C:Zr v:=C;have Y:v.length<=2000000:=C.1;refine dY v.length lu (λn=>∀i,i<n->oJ v i=true) (λi D=>lu) (λI P n H o next=>?_) λI P o=>?_
 .dsimp only;have b:oJ v n=false->(false,())=(pF v,()):=λh=>by rw[aqh H h]
  refine bT lu ⟨⟨lu,lu⟩,trivial,af (λO=>b ?_) λO=>⟨⟨lu,lu⟩,avF C H,af (λU=>b ?_) λU=>⟨⟨lu,lu⟩,trivial,af (λj=>b ?_) λj=>af (λM=>?_) λM=>⟨rfl,next (bV o ?_)⟩⟩⟩⟩
  .have O:(decide (1<=(fM v n).1)&&decide ((fM v n).1<=1000000000))=false:=dD O;unfold oJ;rw[O];rfl
  .have U:dS (uw (fM v n))=false:=dD U;unfold oJ;rw[U];simp
  .have j:(decide (0<=(fM v n).2.2.2.2.2.1)&&decide ((fM v n).2.2.2.2.2.1<=99))=false:=dD j;unfold oJ;rw[j];simp
  .have O:(decide (1<=(fM v n).1)&&decide ((fM v n).1<=1000000000))=true:=bI O;have U:dS (uw (fM v n))=true:=bI U;have j:(decide (0<=(fM v n).2.2.2.2.2.1)&&decide ((fM v n).2.2.2.2.2.1<=99))=true:=bI j;have M:0<n:=by have:=fG M;omega
   rw[nH M lu];refine⟨⟨lu,lu⟩,⟨lu,lu⟩,af (λa=>b ?_) λa=>⟨rfl,next (bV o ?_)⟩⟩
   .have a:decide ((fM v (n-1)).1>=(fM v n).1)=true:=a;unfold oJ;rw[a,O,aHF M];rfl
   .have a:decide ((fM v (n-1)).1>=(fM v n).1)=false:=a;unfold oJ;rw[a,O,U,j,aH8];rfl
  .have O:(decide (1<=(fM v n).1)&&decide ((fM v n).1<=1000000000))=true:=bI O;have U:dS (uw (fM v n))=true:=bI U;have j:(decide (0<=(fM v n).2.2.2.2.2.1)&&decide ((fM v n).2.2.2.2.2.1<=99))=true:=bI j;have M:¬0<n:=by have:=fK M;omega
   unfold oJ;rw[aHD M,O,U,j];rfl
 .dsimp only;refine bP lu (congrArg (·,()) ?_);unfold pF;rw[kG o];rfl
theorem KP:OK qx.e:=by
 refine aO [qw.e] ⟨Gm,⟨⟩⟩ H0 λa d b e=>show qx.goal (XF a d b e) ((a,d,()),(b,e,()),())fromλN C=>?_
 dsimp only[qx]at C ⊢;refine af (λS=>⟨trivial,?_⟩) λS=>?_
 all_goals refine congrArg (·,()) (aHX.2 ?_)
 .simp[aHE.1 S]
 .simp[show a≠b by simpa using S]
theorem qh:OK eH.e:=by
 refine aO [qx.e] ⟨KP,⟨⟩⟩ qM λa b=>show eH.goal (qi a b) (a,b,(()),())fromλN C=>?_
 dsimp only[eH]at C ⊢;exact aFS (K:=λr=>r=(decide (a=b),())) (λx y=>!decide (x=y)) (λx y=>vk) _ a b _ N.1.1 rfl
theorem aaH:OK yM.e:=by
 refine aO [qx.e,eH.e] ⟨KP,qh,⟨⟩⟩ H0 λa b=>show yM.goal (aaI a b) (a,b,())fromλN C=>?_
 dsimp only[yM]at C ⊢;exact⟨trivial,rfl⟩
theorem aaJ:OK yN.e:=by
 refine aO [tV.e] ⟨Hr,⟨⟩⟩ acF λa b=>show yN.goal (aaK a b) (a,b,())fromλN C=>?_
 dsimp only[yN]at C ⊢;have Y:a.length<=maxLen:=N.1.1;rw[maxLen_eq]at Y;refine af (λh=>?_) λh=>?_
 .have h:(a.length:Int)≠b.length:=y7;exact congrArg (·,()) (aHD λe=>h am1).symm
 .have h:(a.length:Int)=b.length:=y7;refine dY a.length Y (λn=>∀i,i<n->a.getD i WG=b.getD i WG) (λi D=>lu) (λI P n H o next=>?_) λI P o=>(by dsimp only;exact bP lu (by rw[aHF (UI lu o)]));dsimp only;have j:a.getD n WG≠b.getD n WG->(false,())=(decide (a=b),()):=λf=>by rw[aHD λe=>f am1]
  refine bT lu ⟨⟨lu,lu⟩,⟨lu,lu⟩,af (λg=>j λe=>?_) λg=>⟨⟨lu,lu⟩,⟨lu,lu⟩,trivial,af (λd=>j λe=>?_) λd=>⟨rfl,next λi D=>?_⟩⟩⟩
  .have g:¬(a.getD n WG).1=(b.getD n WG).1:=aHt.1 (dD g);exact g am1
  .have d:¬(a.getD n WG).2.1=(b.getD n WG).2.1:=fK (dD d);exact d am1
  .rcases aHU i n with h'|h'
   .exact o i h'
   .have:i=n:=lu;subst this;have g:(a.getD i WG).1=(b.getD i WG).1:=aHE.1 (bI g);have d:(a.getD i WG).2.1=(b.getD i WG).2.1:=fG (bI d);exact Prod.ext g (Prod.ext d rfl)
theorem agm:OK En.e:=by
 refine aO [yM.e,Ag.e] ⟨aaH,UJ,⟨⟩⟩ H0 λa e f d r=>show En.goal (agP a e f d r) ((a,e,f,d,r,()),())fromλN C=>?_
 dsimp only[En]at C ⊢;refine⟨C,λg b=>af (λh=>⟨trivial,?_⟩) λh=>?_⟩
 .rw[ayA (b.1.symm.trans h) (b.2.1 h)]
 .rw[ayB (b.1.symm.trans h)]
theorem agn:OK Eo.e:=by
 refine aO [yN.e,Ah.e] ⟨aaJ,UK,⟨⟩⟩ H0 λa e f d r=>show Eo.goal (agQ a e f d r) ((a,e,f,d,r,()),())fromλN C=>?_
 dsimp only[Eo]at C ⊢;refine⟨C,λg b=>af (λh=>⟨trivial,?_⟩) λh=>?_⟩
 .rw[ayA (b.1.symm.trans h) (b.2.1 h)]
 .rw[ayB (b.1.symm.trans h)]
theorem CV:OK pY.e:=by
 refine aO [(Pv,.pure LV)] ⟨⟨ak0,aiC⟩,⟨⟩⟩ H0 λn=>show pY.goal (agX n) (n,())fromλN C=>?_
 dsimp only[pY]at C ⊢;exact⟨N.1,rfl⟩
theorem agY:OK Es.e:=by
 refine aO [] ⟨⟩ H0 λx=>show Es.goal (agZ x) (x,())fromλN C=>?_
 dsimp only[Es]at C ⊢;obtain⟨S,E⟩:=C;refine af (λh=>?_) λh=>?_<;>simp only[aHM,aHW]at h
 .rw[i64_in (48+x) lu,u8_in (48+x) lu]
 .omega
theorem apb{c:Int}(h:¬c.tmod 10<0):c.tmod 10=((c.natAbs%10:Nat):Int):=by have:(c.tmod 10).natAbs=c.natAbs%10:=aJ8 c 10;omega
theorem auV{c:Int}(h:c.tmod 10<0):0-c.tmod 10=((c.natAbs%10:Nat):Int):=by have:(c.tmod 10).natAbs=c.natAbs%10:=aJ8 c 10;omega
theorem aeQ(k:Nat):byteRow [((48:Int)+(k:Int),())]=[UInt8.ofNat (48+k)]:=by have:((48:Int)+(k:Int)).toNat=48+k:=lu;simp[byteRow,anQ,this]
variable {n:Nat}
theorem axb{c:Nat}{s:List UInt8}(L:c≠0)(o:Lib.decDigits n=(if c=0 then[]else Lib.decDigits c)++s):
 Lib.decDigits n=(if c / 10=0 then[]else Lib.decDigits (c / 10))++(UInt8.ofNat (48+c%10)::s):=by
 rw[o,if_neg L,apc c];simp
theorem wB:OK nM.e:=by
 refine aO [Es.e] ⟨agY,⟨⟩⟩ ajO λn=>show nM.goal (ag0 n) (n,())fromλN C=>?_
 dsimp only[nM]at C ⊢;have S:(-9223372036854775808:Int)<=n/\n<=9223372036854775807:=N.1;have f:=Lib.itoa_length_le n S.1 S.2;have j:(Lib.decDigits n.natAbs).length<=21:=by
  unfold Lib.itoa at f;split at f
  .simp at f;omega
  .rw[show n.natAbs=n.toNat from lu];exact f
 refine af (λh=>?_) λh=>?_
 .have:n=0:=y7;subst this;simp[Lib.itoa,Lib.decDigits]
 .have hn0:n≠0:=y7;refine⟨λy=>-9223372036854775808<=y.1.1/\y.1.1<=9223372036854775807/\Lib.decDigits n.natAbs=(if y.1.1.natAbs=0 then[]else Lib.decDigits y.1.1.natAbs)++y.1.2.1,λy=>y.1.1.natAbs,⟨S.1,S.2,?_⟩,?_⟩
  .show _=(if n.natAbs=0 then _ else _)++_;rw[if_neg lu];simp
  rintro⟨⟨c,s,⟨⟩⟩,⟨⟩⟩ ⟨hc1,hc2,o⟩;dsimp only at hc1 hc2 o ⊢;have X:s.length<=21:=by rw[o,aHu]at j;omega
  have i:(c.tdiv 10).natAbs=c.natAbs / 10:=Int.natAbs_tdiv c 10;have g:∀k:Nat,(byteRow [((48:Int)+(k:Int),())]).length=1:=λk=>by rw[aeQ];rfl
  refine af (λh=>?_) λh=>?_
  .have hc:c.natAbs≠0:=by simp at h;omega
   have a:=axb hc o;have l:c.natAbs%10<10:=Nat.mod_lt _ lZ;have d:c.natAbs / 10<c.natAbs:=Nat.div_lt_self lu lZ;have x:IntKind.i64.wrap (c.tdiv 10)=c.tdiv 10:=fU _ lu;refine⟨lZ,af (λb=>?_) λb=>?_⟩<;>simp only[aHM,aHW]at b
   .have e:=auV b;rw[fU (0-c.tmod 10) lu,e,x,aeQ];refine⟨⟨lu,lu⟩,ahY,lZ,rfl,⟨X3,X3,?_⟩,?_⟩
    .show _=(if(c.tdiv 10).natAbs=0 then[]else Lib.decDigits (c.tdiv 10).natAbs)++_;rw[i];exact a
    .show(c.tdiv 10).natAbs<c.natAbs;rw[i];exact d
   .have e:=apb b;rw[e,x,aeQ];refine⟨⟨lu,lu⟩,ahY,lZ,rfl,⟨X3,X3,?_⟩,?_⟩
    .show _=(if(c.tdiv 10).natAbs=0 then[]else Lib.decDigits (c.tdiv 10).natAbs)++_;rw[i];exact a
    .show(c.tdiv 10).natAbs<c.natAbs;rw[i];exact d
  .have hc:c=0:=y7;subst hc;have o:Lib.decDigits n.natAbs=s:=by simpa using o
   subst o;refine af (λb=>?_) λb=>?_<;>simp only[aHM,aHW]at b
   .refine⟨ahY,?_⟩;rw[Lib.itoa,if_pos b];rfl
   .rw[Lib.itoa,if_neg b,show n.toNat=n.natAbs from lu]
variable {left:Int}{K:Int×Unit->Prop}
theorem sz1(H:n<=maxLen)(S:0<=left)(E:left<=1048576)(a:K (aT n left,())):
 bif decide (IntKind.i64.wrap (left-(n:Int))<(0:Int))then K ((-1:Int),())else K (IntKind.i64.wrap (left-(n:Int)),()):=by
 rw[maxLen_eq]at H;rw[fU _ lu];unfold aT at a;refine af (λh=>?_) λh=>?_<;>simp only[aHM,aHW]at h
 .rw[if_pos h]at a;exact a
 .rw[if_neg h]at a;exact a
theorem szr(a:K (aT n left,())):
 bif decide (aT n left<(0:Int))then K ((-1:Int),())else K (aT n left,()):=by
 refine af (λh=>?_) λh=>?_<;>simp only[aHM,aHW]at h
 .have:=aa0 (m:=0) h;rw[aJn]at this;rw[this]at a;exact a
 .exact a
theorem sz2{m:Nat}(H:n<=maxLen)(S:0<=left)(E:left<=1048576)(a:K (aT (n+m) left,())):
 bif decide (IntKind.i64.wrap (left-(n:Int))<(0:Int))then K ((-1:Int),())
 else((0:Int)<=IntKind.i64.wrap (left-(n:Int))/\IntKind.i64.wrap (left-(n:Int))<=(1048576:Int))/\
  (bif decide (aT m (IntKind.i64.wrap (left-(n:Int)))<(0:Int))then K ((-1:Int),())else K (aT m (IntKind.i64.wrap (left-(n:Int))),())):=by
 rw[maxLen_eq]at H;rw[fU _ lu];refine af (λh=>?_) λh=>?_<;>simp only[aHM,aHW]at h
 .rw[aa0 (by unfold aT;rw[if_pos h];omega)]at a;exact a
 .refine⟨⟨lu,lu⟩,szr ?_⟩;rw[← aeR h,aeS (by rw[aeR h];omega)];exact a
theorem sz3{m:Nat}(S:0<=left)(E:left<=1048576)(a:K (aT (n+m) left,())):
 ((0:Int)<=left/\left<=(1048576:Int))/\
 (bif decide (aT n left<(0:Int))then K ((-1:Int),())
 else((0:Int)<=aT n left/\aT n left<=(1048576:Int))/\
  (bif decide (aT m (aT n left)<(0:Int))then K ((-1:Int),())else K (aT m (aT n left),()))):=by
 refine⟨⟨S,E⟩,af (λh=>?_) λh=>?_⟩<;>simp only[aHM,aHW]at h
 .rw[aa0 h]at a;exact a
 .have:=aqo (n:=n) S;refine⟨⟨lu,lu⟩,szr ?_⟩;rw[aeS lu];exact a
theorem aa1(x y:List UInt8):Lib.join [x,y] [32]=x++[32]++y:=by simp[Lib.join_cons,Lib.joinTail]
theorem amQ(x y z:List UInt8):Lib.join [x,y,z] [32]=x++[32]++y++[32]++z:=by simp[Lib.join_cons,Lib.joinTail]
theorem JY:OK uf.e:=by
 refine aO [nM.e] ⟨wB,⟨⟩⟩ ajP λa=>show uf.goal (ag1 a) (a,())fromλN C=>?_
 dsimp only[uf]at C ⊢;refine af (λh=>?_) λh=>?_
 .exact UR (adO asw)
 .have hl:a.length<=10:=afi;refine dI (mk:=λi v=>((v,i,()),())) (λy=>y.1.2.1) (λ_ _=>rfl) a.length lu
   (λn v=>v=mZ (a.take n)/\∀i,i<n->48<=(a.getD i 0).toNat/\(a.getD i 0).toNat<=57) ⟨rfl,λi D=>absurd D (aIg _)⟩ (λI P n v H o next=>?_) λI P v o=>?_
  .obtain⟨rfl,hd⟩:=o;obtain⟨k,l⟩:=atv H hl hd;dsimp only;rw[aHB];refine bT lu ⟨⟨lu,lu⟩,af (λO=>?_) λO=>⟨⟨lu,lu⟩,af (λU=>?_) λU=>⟨⟨lu,lu⟩,rfl,?_⟩⟩⟩
   .exact UR (WI H afq)
   .exact UR (WI H arU)
   .have g2:=fK O;have m:=fK U;have d:IntKind.i64.wrap (10*mZ (a.take n))=10*mZ (a.take n):=fU _ lu;have f:IntKind.i64.wrap ((a.getD n 0).toNat:Int)=(a.getD n 0).toNat:=fU _ lu;have g:IntKind.i64.wrap (10*mZ (a.take n)+(a.getD n 0).toNat)=10*mZ (a.take n)+(a.getD n 0).toNat:=fU _ lu;have j:IntKind.i64.wrap (10*mZ (a.take n)+(a.getD n 0).toNat-48)=10*mZ (a.take n)+(a.getD n 0).toNat-48:=fU _ lu;refine next _ ⟨?_,λi D=>?_⟩
    .rw[d,f,g,j,auW H];omega
    .rcases aHU i n with h5|h5
     .exact hd i h5
     .rw[show i=n from lu];omega
  .obtain⟨rfl,hd⟩:=o;dsimp only;rw[aIa (aHv _)];refine bP lu (af (λO=>?_) λO=>⟨trivial,af (λU=>?_) λU=>?_⟩)
   .refine UR ?_;cases u:bW a with
    |false=>rfl
    |true=>have:=(lU.1 (Qh.1 u).1).2;have:=fG O;omega
   .refine UR ?_;cases u:bW a with
    |false=>rfl
    |true=>exact absurd (Qh.1 u).2 (ne_of_beq_false (dD U))
   .have e:=aHE.1 (bI U);have S:0<=mZ a:=(UU a.length a rfl (λb J=>by obtain⟨i,D,rfl⟩:=aJr.1 J;have:=hd i D;rw[aHI,aHK D]at this;exact this)).1;have:=ZQ (lU.2 ⟨S,by have:=fK O;omega⟩) e;rw[this.1,this.2]
theorem OZ:OK nN.e:=by
 refine aO [] ⟨⟩ aeT λa=>show nN.goal (acS a) (a,())fromλN C=>?_
 dsimp only[nN]at C ⊢;have C:a.length<=1048576:=C;refine af (λh=>?_) λh=>?_
 .exact(Md λg=>asw).symm
 .have hl:a.length<=600:=afi;refine dI (mk:=λi(s:Int×Sp.LS)=>(((),s.1,i,()),s.2,())) (λy=>y.1.2.2.1) (λ_ _=>rfl) (a.length+1) lu
   (λn s=>∃b:Nat,s.1=b/\Sp.splitAt a n b s.2) (s0:=((0:Int),[])) ⟨0,rfl,atw a⟩ (λI P n s H o next=>?_) λI P s o=>?_
  .obtain⟨b,d⟩:=s;obtain⟨b,rfl,X⟩:=o;dsimp only at X ⊢;have J:=X.1;have l:=X.2.2.1;have x:IntKind.i64.wrap ((n:Int)+1)=((n+1:Nat):Int):=fU _ lu;rw[aHB,aHB];refine bT lu ⟨λ_=>n<a.length->oN (a.getD n 0)=true,?_,λ_ k=>?_⟩
   .refine af (λO=>⟨⟨lu,afq⟩,af (λU=>?_) λU=>⟨⟨lu,afq⟩,af (λj=>?_) λj=>⟨rfl,λ_=>?_⟩⟩⟩) λO=>⟨rfl,λg=>?_⟩
    .exact(Md λg=>by have M:=Fb.1 (ajQ g.2.1 (show n<a.length from afq));have:=fG U;omega).symm
    .exact(Md λg=>by have M:=Fb.1 (ajQ g.2.1 (show n<a.length from afq));have:=fG j;omega).symm
    .exact Fb.2 ⟨asr,ab3⟩
    .have:=fK O;omega
   .have tail:(n<a.length->oN (a.getD n 0)=true/\a.getD n 0=32)->
     bif decide ((b:Int)<n)then((0:Int)<=b/\(b:Int)<=n/\(n:Int)<=a.length)/\List.length d+[(List.drop b (List.take n a),())].length<=big/\(((a,()),())=((a,()),()))/\
         I (((),IntKind.i64.wrap ((n:Int)+1),IntKind.i64.wrap ((n:Int)+1),()),d++[(List.drop b (List.take n a),())],())/\P (((),IntKind.i64.wrap ((n:Int)+1),IntKind.i64.wrap ((n:Int)+1),()),d++[(List.drop b (List.take n a),())],())<P (((),(b:Int),(n:Int),()),d,())
      else(((a,()),())=((a,()),()))/\I (((),IntKind.i64.wrap ((n:Int)+1),IntKind.i64.wrap ((n:Int)+1),()),d,())/\P (((),IntKind.i64.wrap ((n:Int)+1),IntKind.i64.wrap ((n:Int)+1),()),d,())<P (((),(b:Int),(n:Int),()),d,()):=by
     intro F;refine af (λU=>⟨⟨lu,lu,lu⟩,?_,rfl,?_⟩) λU=>⟨rfl,?_⟩
     .rw[dJ];show _+1<=_;omega
     .exact next (IntKind.i64.wrap ((n:Int)+1),d++[((a.take n).drop b,())]) ⟨n+1,x,atx X lu arU F⟩
     .exact next (IntKind.i64.wrap ((n:Int)+1),d) ⟨n+1,x,aty X lu asr F⟩
    refine af (λO=>⟨⟨lu,afq⟩,af (λU=>⟨rfl,?_⟩) λU=>?_⟩) λO=>?_
    .have f:n<a.length:=afq;exact next ((b:Int),d) ⟨b,rfl,atz X f (k f) λe=>by rw[e]at U;revert U;decide⟩
    .refine tail λf=>⟨k f,?_⟩;have U:((a.getD n 0).toNat:Int)=32:=ah6;exact aKe.1 (by show _=32;omega)
    .exact tail λf=>by have:=fK O;omega
  .obtain⟨b,d⟩:=s;obtain⟨b,rfl,X⟩:=o;dsimp only at X ⊢;obtain⟨E,O⟩:=auX X;subst O;refine bP lu (af (λO=>?_) λO=>?_)
   .exact(Md λg=>by have:=fG O;rw[yx]at this;omega).symm
   .exact(aqp (uN.2 ⟨hl,E,by have:=fK O;rw[yx]at this;omega⟩)).symm
theorem V9:OK ug.e:=by
 refine aO [] ⟨⟩ apd λp=>show ug.goal (amR p) (p,())fromλN C=>?_
 dsimp only[ug]at C ⊢;have d:p.length<=1000:=C.1;have f:(gI p).length<=2097152:=C.2;refine dI (mk:=λi s=>((s,i,()),())) (λy=>y.1.2.1) (λ_ _=>rfl) p.length lu (λn s=>s=gI (p.take n)) rfl (λI P n s H o next=>?_) λI P s o=>?_
 .subst o;have e:=axc H;have b:=arl p (n+1);have a:=congrArg List.length e;have E:([32]:Sp.Bytes).length=1:=rfl;dsimp only;rw[aHB];refine bT lu (af (λO=>?_) λO=>?_)
  .have hn0:n≠0:=afq;rw[if_neg hn0]at e a;rw[aHu,aHu,E]at a;refine⟨?_,⟨lu,lu⟩,?_,rfl,next _ e.symm⟩
   .rw[maxLen_eq,E];omega
   .rw[maxLen_eq,aHu,E];omega
  .have hn0:n=0:=by have:=fK O;omega
   subst hn0;refine⟨⟨lu,lu⟩,?_,rfl,next _ e.symm⟩;have S:(gI (p.take 0)).length=0:=rfl;rw[maxLen_eq,S];rw[if_pos rfl,aIG]at a;omega
 .subst o;dsimp only;refine bP lu ?_;rw[aIa (aHv _)]
theorem acT:OK qy.e:=by
 refine aO [(L6,.pure H6),jc.e] ⟨⟨afZ,adQ⟩,jE,⟨⟩⟩ aeU λa=>show qy.goal (acU a) (a,())fromλN C=>?_
 dsimp only[qy]at C ⊢;refine af (λh=>?_) λh=>?_
 .exact(Md λd=>asw).symm
 .have hl:a.length<=600:=afi;refine dY a.length lu (λn=>∀i,i<n->oN (a.getD i 0)=true) (λi D=>absurd D (aIg _)) (λI P n H o next=>?_) λI P o=>?_
  .dsimp only;rw[aHB,axd];refine bT lu ⟨⟨lu,lu⟩,trivial,af (λO=>?_) λO=>⟨rfl,next λi D=>?_⟩⟩
   .exact(Md λd=>by have:=ajQ d.2.1 H;rw[dD O]at this;cases this).symm
   .rcases aHU i n with h5|h5
    .exact o i h5
    .rw[show i=n from lu];exact bI O
  .dsimp only;have b:=atA o;refine bP lu ⟨⟨C,az3 b⟩,af (λO=>?_) λO=>?_⟩
   .exact(Md λd=>by have:=fG O;rw[yx]at this;omega).symm
   .exact(aqp (uN.2 ⟨hl,b,by have:=fK O;rw[yx]at this;omega⟩)).symm
theorem Ol:OK oq.e:=by
 refine aO [] ⟨⟩ H0 λw i=>show oq.goal (amS w i) (w,i,())fromλN C=>?_
 dsimp only[oq]at C ⊢;refine af (λh=>?_) λh=>⟨⟨C,afi⟩,?_⟩
 .rw[xC (fG h)]
 .rw[xB afi]
theorem aok:OK zK.e:=by
 refine aO [uf.e,oq.e] ⟨JY,Ol,⟨⟩⟩ H0 λw i=>show zK.goal (ape w i) (w,i,())fromλN C=>?_
 dsimp only[zK]at C ⊢;exact⟨C,trivial,rfl⟩
theorem KL:OK kW.e:=by
 refine aO [] ⟨⟩ Y5 λa b=>show kW.goal (XM a b) (a,b,())fromλN C=>?_
 dsimp only[kW]at C ⊢;have Y:a.length<=maxLen:=N.1.1;rw[maxLen_eq]at Y;refine af (λh=>?_) λh=>?_
 .have h:(a.length:Int)≠b.length:=y7;exact congrArg (·,()) (aHD λe=>h am1).symm
 .have h:(a.length:Int)=b.length:=y7;exact afJ (K:=λr=>r=(decide (a=b),())) (λx y=>!(x.1==y.1)) (λx y=>by simp[aJR]) _ a b _ Y lu (λe=>by rw[aHD e]) λe=>by rw[aHF e]
theorem O3:OK qA.e:=by
 refine aO [pY.e,mJ.e] ⟨CV,wW,⟨⟩⟩ H0 λa b d=>show qA.goal (acV a b d) ((a,b,d,()),())fromλN C=>?_
 dsimp only[qA]at C ⊢;refine⟨trivial,?_⟩;unfold dM;dsimp only;cases !dB a b d with
 |true=>exact rfl
 |false=>
 cases a==1 with
 |true=>exact⟨trivial,rfl⟩
 |false=>cases a==2<;>exact rfl
theorem Gp:OK nO.e:=by
 refine aO [nM.e,mG.e] ⟨wB,wV,⟨⟩⟩ H0 λa b d=>show nO.goal (acW a b d) ((a,b,d,()),())fromλN C=>?_
 dsimp only[nO]at C ⊢;refine⟨trivial,?_⟩;unfold dM;dsimp only;cases !dB a b d with
 |true=>exact rfl
 |false=>
 cases a==1 with
 |true=>exact⟨trivial,rfl⟩
 |false=>cases a==2<;>exact rfl
theorem apf{n:Int}(h:0<=n):dB 1 n []=decide (n<=999):=by unfold dB;simp[h]
theorem apg(s:List UInt8):dB 2 0 s=bK s:=by unfold dB;simp
theorem axe:bW [45]=false:=lZ
theorem ajR:OK GI.e:=by
 refine aO [] ⟨⟩ H0 λn=>show GI.goal (ajS n) (n,())fromλN C=>?_
 dsimp only[GI]at C ⊢;exact rfl
theorem QO:OK oU.e:=by
 refine aO [mJ.e,Aj.e,GI.e,(yu,.pure uS)] ⟨wW,acD,ajR,⟨CP,Io⟩,⟨⟩⟩ H0 λs=>show oU.goal (aeV s) (s,())fromλN C=>?_
 dsimp only[oU]at C ⊢;have S:=(lU.1 (FI s)).1;refine⟨trivial,?_⟩;unfold bU;cases u:bW s with
 |true=>
  refine⟨trivial,trivial,?_⟩;dsimp only;rw[apf S];cases decide (Sp.parseNum s<=999)<;>exact rfl
 |false=>
  cases X:s==[45]with
  |true=>exact⟨trivial,rfl⟩
  |false=>refine⟨trivial,trivial,?_⟩;dsimp only;rw[apg];cases bK s<;>exact rfl
theorem QI:OK mD.e:=by
 refine aO [nO.e,mG.e,Gq.e,zQ.e,uf.e] ⟨Gp,wV,ajB,acB,JY,⟨⟩⟩ H0 λs=>show mD.goal (aeW s) (s,())fromλN C=>?_
 dsimp only[mD]at C ⊢;have S:=(lU.1 (FI s)).1;unfold bU;refine af (λh=>?_) λh=>?_
 .have e:s=[45]:=aHE.1 h;subst e;rw[axe,h];rfl
 rw[h];refine⟨trivial,trivial,?_⟩;cases u:bW s with
 |true=>
  refine⟨trivial,trivial,?_⟩;dsimp only;rw[apf S];cases a:decide (Sp.parseNum s<=999)with
  |false=>exact rfl
  |true=>
   refine⟨trivial,?_⟩;have e:dM (1,Sp.parseNum s,[],())=s:=by unfold dM;dsimp only;rw[apf S,a];exact(kV u).1
   rw[e,aJJ];exact rfl
 |false=>
  refine⟨trivial,?_⟩;dsimp only;rw[apg];cases b:bK s with
  |false=>exact rfl
  |true=>
   refine⟨trivial,?_⟩;have e:dM (2,0,s,())=s:=by unfold dM;dsimp only;rw[apg,b];rfl
   rw[e,aJJ];exact rfl
theorem ayH{op:Int}(h:(decide (1<=op)&&decide (op<=9))=false):iU op=[63]:=by rw[aJK,aHW,aHW]at h;unfold iU;rw[aHt.2 (show op≠1 from lu),aHt.2 (show op≠2 from lu),aHt.2 (show op≠3 from lu),aHt.2 (show op≠4 from lu),aHt.2 (show op≠5 from lu),aHt.2 (show op≠6 from lu),aHt.2 (show op≠7 from lu),aHt.2 (show op≠8 from lu),aHt.2 (show op≠9 from lu)];rfl
theorem aBb{op:Int}(h:(decide (1<=op)&&decide (op<=9))=true):op=1\/op=2\/op=3\/op=4\/op=5\/op=6\/op=7\/op=8\/op=9:=by rw[aHy,aHM,aHM]at h;omega
theorem RI:OK nP.e:=by
 refine aO [jc.e] ⟨jE,⟨⟩⟩ H0 λop=>show nP.goal (ag2 op) (op,())fromλN C=>?_
 dsimp only[nP]at C ⊢;refine⟨trivial,af (λh=>?_) λh=>?_⟩
 .exact congrArg (·,()) (ayH (dD h)).symm
 .rcases aBb (bI h)with e|e|e|e|e|e|e|e|e<;>subst e<;>exact⟨lZ,rfl⟩
theorem RJ:OK qc.e:=by
 refine aO [gX.e] ⟨jd,⟨⟩⟩ H0 λop=>show qc.goal (ag3 op) (op,())fromλN C=>?_
 dsimp only[qc]at C ⊢;refine⟨trivial,af (λh=>?_) λh=>?_⟩
 .exact congrArg (·,()) (ayH (dD h)).symm
 .rcases aBb (bI h)with e|e|e|e|e|e|e|e|e<;>subst e<;>exact⟨lZ,rfl⟩
theorem cO(h:n<=100000000000):n<=maxLen:=y8
theorem xM(h:n<=4000000000):n<=big:=FT
theorem WJ(h:Nat.ble n 10=true):n<=big:=xM (aHw (aIm h) lZ)
theorem OC(h:Nat.ble n 10=true):n<=140737488355328:=aHw (aIm h) lZ
theorem VA[kQ](d:fF prog G vJ zx):fF prog G KH H9:=by
 refine VB (ZR [(DC,.pure xX),(vJ,.pure zx),qA.e,nP.e] ⟨⟨N9,Un⟩,⟨d,Vd⟩,O3,RI,trivial⟩) ?_;intro q i N C;obtain⟨⟨F,S,Q⟩,g⟩:=C;have a:(Lib.join (dW (i.toNat+1) q i) [32]).length<=140737488355328:=aHw (atB F S Q) lZ;have Y:=(Sp.iH F).2;have H:=(kH F (show i.toNat<q.length from lu)).1;refine⟨⟨S,Q⟩,trivial,?_⟩;have f:q.getD i.toNat (0,0,0,[],0,0,[],())=Sp.nodeAt q i.toNat:=rfl;dsimp only;rw[f];rcases WL H with c|c|c
 .have e:=avM (q:=q) (i:=i) i.toNat c;rw[e]at a ⊢;generalize Sp.nodeAt q i.toNat=n at c a;obtain⟨op,l,r,s,v⟩:=n;dsimp only at c a ⊢;rcases c with rfl|rfl|rfl|rfl|rfl|rfl
  .exact jq ((false,()),()) ⟨rfl,rfl⟩ ⟨⟨OC rfl,a⟩,rfl⟩
  .exact jq ((true,()),()) ⟨rfl,rfl⟩ ⟨WJ rfl,⟨OC rfl,a⟩,rfl⟩
  .exact jq ((false,()),()) ⟨rfl,rfl⟩ ⟨trivial,WJ rfl,⟨OC rfl,a⟩,rfl⟩
  .exact jq ((false,()),()) ⟨rfl,rfl⟩ ⟨trivial,WJ rfl,⟨OC rfl,a⟩,rfl⟩
  .exact jq ((true,()),()) ⟨rfl,rfl⟩ ⟨WJ rfl,⟨OC rfl,a⟩,rfl⟩
  .exact jq ((true,()),()) ⟨rfl,rfl⟩ ⟨WJ rfl,⟨OC rfl,a⟩,rfl⟩
 .obtain⟨e,k0,k1⟩:=ayI F S Q c;rw[e]at a ⊢;have T:=amT (iU 5) (Tj (Sp.nodeAt q i.toNat).2.1.toNat q (Sp.nodeAt q i.toNat).2.1);rw[← T]at a ⊢;have u:(ax q=true/\0<=(Sp.nodeAt q i.toNat).2.1/\(Sp.nodeAt q i.toNat).2.1<(q.length:Int))/\(Sp.nodeAt q i.toNat).2.1.toNat<iP:=⟨⟨F,k0,lu⟩,lu⟩;rw[c];exact jq ((false,()),()) ⟨rfl,rfl⟩ ⟨u,WJ rfl,⟨OC rfl,a⟩,rfl⟩
 .obtain⟨e,⟨k0,k1⟩,m0,m1⟩:=ayJ F S Q c;rw[e]at a ⊢;have T:=amU (iU (Sp.nodeAt q i.toNat).1) (Tj (Sp.nodeAt q i.toNat).2.1.toNat q (Sp.nodeAt q i.toNat).2.1) (Tj (Sp.nodeAt q i.toNat).2.2.1.toNat q (Sp.nodeAt q i.toNat).2.2.1);rw[← T]at a ⊢;have u:(ax q=true/\0<=(Sp.nodeAt q i.toNat).2.1/\(Sp.nodeAt q i.toNat).2.1<(q.length:Int))/\(Sp.nodeAt q i.toNat).2.1.toNat<iP:=⟨⟨F,k0,lu⟩,lu⟩;have b:(ax q=true/\0<=(Sp.nodeAt q i.toNat).2.2.1/\(Sp.nodeAt q i.toNat).2.2.1<(q.length:Int))/\(Sp.nodeAt q i.toNat).2.2.1.toNat<iP:=⟨⟨F,m0,lu⟩,lu⟩;rcases c with c|c<;>rw[c]at a ⊢
  .exact jq ((false,()),()) ⟨rfl,rfl⟩ ⟨u,b,WJ rfl,⟨OC rfl,a⟩,rfl⟩
  .exact jq ((false,()),()) ⟨rfl,rfl⟩ ⟨u,b,WJ rfl,⟨OC rfl,a⟩,rfl⟩
theorem ag4:fF prog G L9 Qs:=
 akN (λn=>@MF ⟨n⟩) (λn=>@Kq ⟨n⟩) (by rintro⟨q,b,⟨⟩⟩ h;exact aIg _ h.2) aks (by rintro⟨q,b,⟨⟩⟩ h;exact⟨_,h,aIY _⟩) aks λn h=>@VA ⟨n⟩ h
theorem Y6[kQ](b:fF prog G yY Dl):fF prog G Oc Kt:=by
 refine Y7 (ZR [(yY,.pure Dl),nO.e,qc.e] ⟨⟨b,Yv⟩,Gp,RJ,trivial⟩) ?_;intro q i N C;obtain⟨⟨F,S,Q⟩,g⟩:=C;have a:=atB F S Q;have Y:=(Sp.iH F).2;have H:=(kH F (show i.toNat<q.length from lu)).1;refine⟨⟨S,Q⟩,trivial,?_⟩;have f:q.getD i.toNat (0,0,0,[],0,0,[],())=Sp.nodeAt q i.toNat:=rfl;dsimp only;rw[f];rcases WL H with c|c|c
 .have e:=avM (q:=q) (i:=i) i.toNat c;rw[e]at a ⊢;generalize Sp.nodeAt q i.toNat=n at c a;obtain⟨op,l,r,s,v⟩:=n;dsimp only at c a ⊢;rcases c with rfl|rfl|rfl|rfl|rfl|rfl
  .exact jq ((false,()),()) ⟨rfl,rfl⟩ rfl
  .have T:Lib.join (kP (2,l,r,s,v)) [32]=iU 2++[32]++s:=aa1 _ _;rw[T]at a ⊢;simp only[aHu]at a;exact jq ((true,()),()) ⟨rfl,rfl⟩ ⟨cO lu,cO (by rw[aHu];omega),rfl⟩
  .have T:Lib.join (kP (3,l,r,s,v)) [32]=iU 3++[32]++s++[32]++dM v:=amQ _ _ _;rw[T]at a ⊢;simp only[aHu]at a;exact jq ((false,()),()) ⟨rfl,rfl⟩ ⟨cO lu,cO WX,cO WX,trivial,cO WX,rfl⟩
  .have T:Lib.join (kP (4,l,r,s,v)) [32]=iU 4++[32]++s++[32]++dM v:=amQ _ _ _;rw[T]at a ⊢;simp only[aHu]at a;exact jq ((false,()),()) ⟨rfl,rfl⟩ ⟨cO lu,cO WX,cO WX,trivial,cO WX,rfl⟩
  .have T:Lib.join (kP (8,l,r,s,v)) [32]=iU 8++[32]++s:=aa1 _ _;rw[T]at a ⊢;simp only[aHu]at a;exact jq ((true,()),()) ⟨rfl,rfl⟩ ⟨cO lu,cO (by rw[aHu];omega),rfl⟩
  .have T:Lib.join (kP (9,l,r,s,v)) [32]=iU 9++[32]++s:=aa1 _ _;rw[T]at a ⊢;simp only[aHu]at a;exact jq ((true,()),()) ⟨rfl,rfl⟩ ⟨cO lu,cO (by rw[aHu];omega),rfl⟩
 .obtain⟨e,k0,k1⟩:=ayI F S Q c;rw[e]at a ⊢;have T:=amT (iU 5) (Tj (Sp.nodeAt q i.toNat).2.1.toNat q (Sp.nodeAt q i.toNat).2.1);rw[aa1]at T;rw[← T]at a ⊢;simp only[aHu]at a;have u:(ax q=true/\0<=(Sp.nodeAt q i.toNat).2.1/\(Sp.nodeAt q i.toNat).2.1<(q.length:Int))/\(Sp.nodeAt q i.toNat).2.1.toNat<iP:=⟨⟨F,k0,lu⟩,lu⟩;rw[c];exact jq ((false,()),()) ⟨rfl,rfl⟩ ⟨cO lu,u,cO WX,rfl⟩
 .obtain⟨e,⟨k0,k1⟩,m0,m1⟩:=ayJ F S Q c;rw[e]at a ⊢;have T:=amU (iU (Sp.nodeAt q i.toNat).1) (Tj (Sp.nodeAt q i.toNat).2.1.toNat q (Sp.nodeAt q i.toNat).2.1) (Tj (Sp.nodeAt q i.toNat).2.2.1.toNat q (Sp.nodeAt q i.toNat).2.2.1);rw[amQ]at T;rw[← T]at a ⊢;simp only[aHu]at a;have u:(ax q=true/\0<=(Sp.nodeAt q i.toNat).2.1/\(Sp.nodeAt q i.toNat).2.1<(q.length:Int))/\(Sp.nodeAt q i.toNat).2.1.toNat<iP:=⟨⟨F,k0,lu⟩,lu⟩;have d:(ax q=true/\0<=(Sp.nodeAt q i.toNat).2.2.1/\(Sp.nodeAt q i.toNat).2.2.1<(q.length:Int))/\(Sp.nodeAt q i.toNat).2.2.1.toNat<iP:=⟨⟨F,m0,lu⟩,lu⟩;rcases c with c|c<;>rw[c]at a ⊢
  .exact jq ((false,()),()) ⟨rfl,rfl⟩ ⟨cO lu,u,cO WX,cO WX,d,cO WX,rfl⟩
  .exact jq ((false,()),()) ⟨rfl,rfl⟩ ⟨cO lu,u,cO WX,cO WX,d,cO WX,rfl⟩
theorem amV:fF prog G Py TL:=
 akN (λn=>@OT ⟨n⟩) (λn=>@Nq ⟨n⟩) (by rintro⟨q,b,⟨⟩⟩ h;exact aIg _ h.2) aks (by rintro⟨q,b,⟨⟩⟩ h;exact⟨_,h,aIY _⟩) aks λn h=>@Y6 ⟨n⟩ h
theorem atC{q:List aA}(h:ax q=true):dW (((q.length:Int)-1).toNat+1) q ((q.length:Int)-1)=dW 9 q ((q.length:Int)-1):=by have Q:=Sp.iH h;exact IA h _ _ _ lu lu lu lu
theorem acX:OK Ak.e:=by
 refine aO [(L9,.pure Qs),jr.e] ⟨⟨ag4,adR⟩,rZ,⟨⟩⟩ H0 λq=>show Ak.goal (acY q) (q,())fromλN C=>?_
 dsimp only[Ak]at C ⊢;have C:q.length<=2000000:=C;refine⟨C,?_⟩;unfold Sp.textOf;cases h:ax q with
 |false=>exact rfl
 |true=>have Q:=Sp.iH h;have x:IntKind.i64.wrap ((q.length:Int)-1)=(q.length:Int)-1:=fU _ lu;rw[x];dsimp only;rw[atC h];exact⟨⟨rfl,lu,lu⟩,rfl⟩
theorem O4:OK uT.e:=by
 refine aO [(Py,.pure TL),mM.e] ⟨⟨amV,aiD⟩,xg,⟨⟩⟩ H0 λq=>show uT.goal (acZ q) (q,())fromλN C=>?_
 dsimp only[uT]at C ⊢;have C:q.length<=2000000:=C;refine⟨C,?_⟩;unfold Sp.textOf;cases h:ax q with
 |false=>exact rfl
 |true=>have Q:=Sp.iH h;have x:IntKind.i64.wrap ((q.length:Int)-1)=(q.length:Int)-1:=fU _ lu;rw[x];dsimp only;rw[atC h];exact⟨⟨rfl,lu,lu⟩,rfl⟩
theorem wrap_in{z:Int}(h:-1000000000000<=z/\z<=1000000000000):IntKind.i64.wrap z=z:=fU z lu
theorem Y8[kQ](aa5:rP prog G yZ Dp):rP prog G Oe Kv:=by
 refine Y9 (ZR [(yZ,.eff (X8 rD) Dp),gX.e,mD.e,qc.e,oq.e] ⟨⟨aa5,Yw⟩,jd,QI,RJ,Ol,trivial⟩) (λ_ _=>⟨((_,_,()),()),⟨rfl,rfl⟩⟩) ?_;intro p b q a N C;obtain⟨⟨L,W,J,hd0,hd1,E,i⟩,hfuel⟩:=C;have hp3:(1:Nat)<=2 ^ (10-a).toNat:=aJ0;refine⟨λy=>∃n:Nat,y=((OE (Sp.wordAt p b) n,(n:Int)+1,()),())/\n<=9,λy=>(10-y.1.2.1).toNat,⟨0,rfl,aHV _⟩,?_⟩;rintro _ ⟨n,rfl,H⟩;dsimp only;refine af (λh=>⟨W,trivial,?_⟩) λh=>?_
 .have h:=fG h;have hw:IntKind.i64.wrap ((n:Int)+1+1)=((n+1:Nat):Int)+1:=(wrap_in lu).trans lu;rw[hw];have e:OE (Sp.wordAt p b) (n+1)=bif Sp.wordAt p b==iU ((n:Int)+1)then(n:Int)+1 else OE (Sp.wordAt p b) n:=rfl
  refine af (λO=>⟨rfl,⟨n+1,?_,lu⟩,X3⟩) λO=>⟨rfl,⟨n+1,?_,lu⟩,X3⟩
  .rw[e,O];rfl
  .rw[e,O];rfl
 have hn9:n=9:=afi;subst hn9;rw[amY];have D:=amZ (Sp.wordAt p b);have hw0:Sp.wordAt p b=Sp.wordAt (p.drop b.toNat) 0:=by rw[Sp.xE p b 0 W (aIe _),aI9]
 have e1:IntKind.i64.wrap (b+1)=b+1:=wrap_in lu;have T:IntKind.i64.wrap (b+2)=b+2:=wrap_in lu;have ed:IntKind.i64.wrap (a+1)=a+1:=wrap_in lu;have hw1:Sp.wordAt p (b+1)=Sp.wordAt (p.drop b.toNat) 1:=(Sp.xE p b 1 W lZ).symm;have hw2:Sp.wordAt p (b+2)=Sp.wordAt (p.drop b.toNat) 2:=(Sp.xE p b 2 W lZ).symm;have g:(Sp.wordAt p (b+2)).length<=1048576:=by
  by_cases hh:b+2<(p.length:Int)
  .rw[xB hh];exact aHw (E _ (getD_mem lu)) lZ
  .rw[xC lu];exact aHV _
 rw[e1,T,ed];have f:∀k:Nat,k<=1000->k<=big:=λk u=>xM lu;rw[hw1];rw[hw2]at g ⊢;rw[hw0]at D ⊢;have aFV:(p.drop b.toNat).drop 1=p.drop (b+1).toNat:=by rw[aJV,show b.toNat+1=(b+1).toNat from lu]
 refine⟨λy=>y=(((dX (Sp.wordAt (p.drop b.toNat) 0)==0||(decide (a>9)||decide ((q.length:Int)>9)),()),())),?_,?_⟩
 .cases dX (Sp.wordAt (p.drop b.toNat) 0)==0 with
  |true=>exact⟨rfl,rfl⟩
  |false=>cases decide (a>9)<;>exact⟨rfl,rfl⟩
 rintro _ rfl;dsimp only;by_cases Z:a>9
 .have hd10:a=10:=lu;subst hd10;rw[aHF (show(10:Int)>9 from lZ),Bool.true_or,Bool.or_true];exact⟨rfl,rfl⟩
 rw[aHD Z,Bool.false_or];have X:(10-a).toNat=(10-(a+1)).toNat+1:=lu;have F:2 ^ (10-a).toNat=2*2 ^ (10-(a+1)).toNat:=by rw[X,Nat.pow_succ,Nat.mul_comm]
 have hp4:(1:Nat)<=2 ^ (10-(a+1)).toNat:=aJ0;rw[F]at J;have B:(10-(a+1)).toNat<iP:=lu;rw[X,Sp.rs,aFV];have o:=λw s=>WN (10-(a+1)).toNat w s;have hdd:∀k:Int,0<=k->(p.drop b.toNat).drop (1+k).toNat=p.drop (b+(1+k)).toNat:=λk u=>by rw[aJV,show b.toNat+(1+k).toNat=(b+(1+k)).toNat from lu]
 rw[hdd _ (o (p.drop (b+1).toNat) q).2.1];have hfl:(10-(a+1)).toNat<=10:=lu;have hpc:((3*2 ^ (10-(a+1)).toNat:Nat):Int)=3*2 ^ (10-(a+1)).toNat:=by push_cast;rfl
 generalize (10-(a+1)).toNat=d at o J B hp4 hfl hpc ⊢;generalize hv:Sp.wordAt (p.drop b.toNat) 0=w0;rw[hv]at D;generalize dX w0=op at D ⊢;refine af (λS=>?_) λS=>?_
 .rw[S];exact⟨rfl,rfl⟩
 rw[S];have pJ:q.length<=9:=by have:=fK (aID.1 S).2;omega
 have ho0:op≠0:=aHt.1 (aID.1 S).1;clear S F;have l:0<=a+1/\a+1<=10:=lu;have Y:p.length<=1000/\0<=b+1/\(b+1).toNat+3*2 ^ d<=1000000/\0<=a+1/\a+1<=10/\(∀x,x∈p->List.length x.1<=1000)/\q.length<=100:=⟨L,lu,lu,l.1,l.2,E,lu⟩;have j:0<=b+1:=lu;have I:0<=b+2:=lu;clear N;rcases(show op=1\/op=2\/op=3\/op=4\/(op=5\/op=6\/op=7)\/op=8\/op=9 from lu)with rfl|rfl|rfl|rfl|h5|rfl|rfl
 .exact⟨λy=>y=((false,()),()),⟨rfl,rfl⟩,by rintro _ rfl;exact⟨λy=>y=((false,()),()),⟨rfl,rfl⟩,by rintro _ rfl;exact⟨trivial,f _ Zm,rfl,rfl⟩⟩⟩
 .exact⟨λy=>y=((true,()),()),⟨rfl,rfl⟩,by rintro _ rfl;exact⟨j,f _ Zm,rfl,rfl⟩⟩
 .exact⟨λy=>y=((false,()),()),⟨rfl,rfl⟩,by rintro _ rfl;exact⟨λy=>y=((true,()),()),⟨rfl,rfl⟩,by rintro _ rfl;exact⟨j,I,g,f _ Zm,rfl,rfl⟩⟩⟩
 .exact⟨λy=>y=((false,()),()),⟨rfl,rfl⟩,by rintro _ rfl;exact⟨λy=>y=((true,()),()),⟨rfl,rfl⟩,by rintro _ rfl;exact⟨j,I,g,f _ Zm,rfl,rfl⟩⟩⟩
 .have g2:(op==2)=false:=aHt.2 lu;have g3:(op==3)=false:=aHt.2 lu;have g4:(op==4)=false:=aHt.2 lu;have g8:(op==8)=false:=aHt.2 lu;have g9:(op==9)=false:=aHt.2 lu;have g57:(decide (5<=op)&&decide (op<=7))=true:=by rw[aHF lu,aHF lu];rfl
  have aFW:(op==5||(op==6||op==7))=true:=by rcases h5 with rfl|rfl|rfl<;>rfl
  rw[g2,g3,g4,g8,g9,g57,aFW];refine⟨λy=>y=((false,()),()),⟨rfl,rfl⟩,?_⟩;rintro _ rfl;refine⟨λy=>y=((false,()),()),⟨rfl,rfl⟩,?_⟩;rintro _ rfl;refine⟨trivial,⟨Y,B⟩,?_⟩;rintro⟨⟨r,k,⟨⟩⟩,⟨⟩⟩ ⟨R,P⟩;have R:r=(Sp.rs d (p.drop (b+1).toNat) q).1:=R;have P:k=(Sp.rs d (p.drop (b+1).toNat) q).2:=P;have z:=o (p.drop (b+1).toNat) q;rw[← R,← P]at z ⊢;clear R P;dsimp only;have hrl:r.length<=20:=by have:=z.1;omega
  have hk3:k<3*2 ^ d:=z.2.2;have hk1:IntKind.i64.wrap (1+k)=1+k:=wrap_in lu;have hk2:IntKind.i64.wrap (b+(1+k))=b+(1+k):=wrap_in lu;have aFX:IntKind.i64.wrap ((r.length:Int)-1)=(r.length:Int)-1:=wrap_in lu;rw[hk1,hk2,aFX];refine af (λh=>?_) λh=>?_
  .rw[h];exact⟨rfl,rfl⟩
  rw[h];have hc2:p.length<=1000/\0<=b+(1+k)/\(b+(1+k)).toNat+3*2 ^ d<=1000000/\0<=a+1/\a+1<=10/\(∀x,x∈p->List.length x.1<=1000)/\r.length<=100:=⟨L,lu,lu,l.1,l.2,E,lu⟩;by_cases t:op=5
  .subst t;exact⟨f _ Zm,rfl,rfl⟩
  have gn:(op !=5)=true:=aI0.2 t;have g5:(op==5)=false:=aHt.2 t;rw[gn,g5];refine⟨⟨hc2,B⟩,?_⟩;rintro⟨⟨s,m,⟨⟩⟩,⟨⟩⟩ ⟨U,Q⟩;have U:s=(Sp.rs d (p.drop (b+(1+k)).toNat) r).1:=U;have Q:m=(Sp.rs d (p.drop (b+(1+k)).toNat) r).2:=Q;have A:=o (p.drop (b+(1+k)).toNat) r;rw[← U,← Q]at A ⊢;clear U Q;dsimp only;have hsl:s.length<=20:=by have:=A.1;omega
  have hm3:m<3*2 ^ d:=A.2.2;have hm1:IntKind.i64.wrap (1+k+m)=1+k+m:=wrap_in lu;have M:IntKind.i64.wrap ((s.length:Int)-1)=(s.length:Int)-1:=wrap_in lu;rw[hm1,M];refine af (λO=>?_) λO=>?_
  .rw[O];exact⟨rfl,rfl⟩
  rw[O];exact⟨f _ Zm,rfl,rfl⟩
 .exact⟨λy=>y=((true,()),()),⟨rfl,rfl⟩,by rintro _ rfl;exact⟨j,f _ Zm,rfl,rfl⟩⟩
 .exact⟨λy=>y=((true,()),()),⟨rfl,rfl⟩,by rintro _ rfl;exact⟨j,f _ Zm,rfl,rfl⟩⟩
theorem am2:rP prog G Pz TN:=
 aBs (λn=>@OU ⟨n⟩) (λn=>@wK ⟨n⟩) (by rintro⟨p,b,q,a,⟨⟩⟩ h;exact aIg _ h.2) (by rintro _ ⟨p,b,q,a,⟨⟩⟩;rfl) (by rintro⟨p,b,q,a,⟨⟩⟩ h;exact⟨_,h,aIY _⟩) (by rintro _ ⟨p,b,q,a,⟨⟩⟩;rfl) λn h=>@Y8 ⟨n⟩ h
theorem auY(s:List UInt8)(h:lQ s=true):iE s=((Sp.rs 10 (Sp.wordsOf s) []).2==((Sp.wordsOf s).length:Int)&&(!(Sp.textOf (Sp.rs 10 (Sp.wordsOf s) []).1==[])&&Sp.textOf (Sp.rs 10 (Sp.wordsOf s) []).1==gI (Sp.wordsOf s))):=by rw[← am3,afM,h,aIK]
theorem WO{s:List UInt8}(h:iE s=false):(([]:List aA),false,())=(iJ s,iE s,()):=by unfold iJ;rw[h];rfl
theorem ad2:OK su.e:=by
 refine aO [ug.e,uT.e,(Pz,.eff (X8 GH) TN),nN.e] ⟨V9,O4,⟨am2,aiE⟩,OZ,⟨⟩⟩ ag5 λs=>show su.goal (ae0 s) (s,())fromλN C=>?_
 dsimp only[su]at C ⊢;have C:s.length<=1048576:=C;refine⟨C,af (λh=>?_) λh=>?_⟩
 .refine WO ?_;rw[← am3,afM,dD h];rfl
 have d:=bI h;obtain⟨l,Q,j,_,_⟩:=ahH d;have a:=auY s d;have g:∀x∈Sp.wordsOf s,x.1.length<=1000:=λx Z=>aHw (aaf x Z) (aHw (uN.1 d).1 lZ);rw[l];refine⟨⟨Q,lZ,lZ,lZ,lZ,g,lZ⟩,?_⟩;rintro⟨⟨r,k,⟨⟩⟩,⟨⟩⟩ ⟨f,e⟩;have f:r=(Sp.rs 10 (Sp.wordsOf s) []).1:=f;have e:k=(Sp.rs 10 (Sp.wordsOf s) []).2:=e;have J:=(WN 10 (Sp.wordsOf s) []).1;have b:=λi:iE s=true=>aa6 i;rw[← f]at J a b;rw[← e]at a;clear f e;dsimp only;refine⟨aHw J lZ,af (λE=>WO ?_) λE=>af (λO=>WO ?_) λO=>⟨⟨Q,j⟩,af (λU=>WO ?_) λU=>?_⟩⟩
 .have E:(k==((Sp.wordsOf s).length:Int))=false:=dD E;rw[a,E];rfl
 .rw[a,O,Bool.not_true,aIO,aH8]
 .rw[a,dD U,aH8,aH8]
 .have E:(k==((Sp.wordsOf s).length:Int))=true:=bI E;have i:iE s=true:=by rw[a,E,O,bI U];rfl
  obtain⟨m,o,_⟩:=b i;rw[i,o,← m]
theorem atI(a b:List (List UInt8)):Sp.ls (a++b)=Sp.ls a++Sp.ls b:=aIk
theorem ae1:OK BR.e:=by
 refine aO [(DC,.pure xX),qA.e,pY.e] ⟨⟨N9,Un⟩,O3,CV,⟨⟩⟩ ag6 λj k h l g=>show BR.goal (ae2 j k h l g) ((j,k,h,l,g,()),())fromλN C=>?_
 dsimp only[BR]at C ⊢;obtain⟨Q,r⟩:g.length<=1048576/\(iZ g).length<=1073741824:=C;have m:=(atJ (f:=(j,k,h,l,g,())) N.1.1 N.1.2.1 N.1.2.2.2.1).1;refine jq (((bif h then[115]else[111],()),())) ?_ ⟨trivial,trivial,trivial,?_⟩
 .cases h<;>exact⟨rfl,rfl⟩
 refine dI (mk:=λi(s:Sp.LS)=>(((),i,()),s,())) (λy=>y.1.2.1) (λ_ _=>rfl) g.length lu
  (λn s=>s=Sp.ls (mY::Lib.itoa j::Lib.itoa k::(bif h then[115]else[111])::Lib.itoa l::fP (g.take n))) rfl (λI P n s H o next=>?_) λI P s o=>?_
 .subst o;dsimp only;rw[aHB];refine bT lu ⟨⟨lu,lu⟩,trivial,xM ?_,rfl,next _ ?_⟩
  .have:=PW (g.take n);rw[aHP]at this;simp only[Sp.ls,aHL,aHx,aHG];omega
  .rw[am4 H];rw[show∀a b c d e,mY::a::b::c::d::(fP (g.take n)++e)=(mY::a::b::c::d::fP (g.take n))++e fromλ_ _ _ _ _=>rfl,atI];rfl
 .subst o;dsimp only;rw[aIa (aHv _)];have e:List.map (λ(x:List UInt8×Unit)=>x.1) (Sp.ls (mY::Lib.itoa j::Lib.itoa k::(bif h then[115]else[111])::Lib.itoa l::fP g))=mY::Lib.itoa j::ng (j,k,h,l,g,()):=atK _;rw[e];refine bP lu ⟨⟨?_,aHw m (by have r:(iZ (j,k,h,l,g,()).2.2.2.2.1).length<=1073741824:=r;omega)⟩,rfl⟩;have:=PW g;simp only[Sp.ls,aHL,aHx];omega
end Go.Proofs.Tryz
