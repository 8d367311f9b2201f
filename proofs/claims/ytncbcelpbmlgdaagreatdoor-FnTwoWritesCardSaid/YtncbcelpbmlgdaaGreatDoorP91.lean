import Derived.Test.YtncbcelpbmlgdaaGreatDoorP62
import Derived.Test.YtncbcelpbmlgdaaGreatDoorV25
import Derived.Test.YtncbcelpbmlgdaaGreatDoorSp
import Derived.Deep.AppendLies
import Derived.Deep.RegionLaw
import Derived.BigRegion
import Derived.Laws.ResultCell
namespace Go.Proofs.Tryz
open Go Go.Fw Go.IntWalk Sp
set_option maxRecDepth 100000
theorem six(a b c d e f:UInt8):([a,b,c,d,e,f]:List UInt8).length=6:=rfl
theorem PX:OK sO.e:=by
 refine PA.ok mixed (aO [jw.e] ⟨rE,trivial⟩) H0 (by kernel_rfl) (show∀f0 f1,sO.goal (PY f0 f1) ((f0,f1,()),())from ?_);intro f0 f1 hin hp;dsimp only[sO]at hp ⊢;have hl:f0.length<=1048576:=hp;have e1:∀z:List UInt8,iJ++32::(f0++32::z)=[102,105,101,108,100,32]++f0++32::z:=λz=>by rw[aoX];rfl
 have e:cu (f0,f1,())=bif !bZ f0 then[]else bif f1==1 then[102,105,101,108,100,32]++f0++[32,105,110,116]else bif f1==2 then[102,105,101,108,100,32]++f0++[32,115,116,114,105,110,103]else[]:=by show(bif !bZ f0 then[]else bif f1==1 then iJ++32::(f0++32::Jg)else bif f1==2 then iJ++32::(f0++32::pz)else[])=_;rw[e1,e1];rfl
 refine⟨trivial,?_⟩;rw[e];refine af (λh=>by rw[h];rfl) λh=>af (λh1=>⟨aX (by rw[six];omega),aX (by rw[aoK,six,aoO,aoO,aoO,aoO,ao5];omega),by rw[h,h1];rfl⟩) λh1=>af (λh2=>⟨aX (by rw[six];omega),aX (by simp only[aoK,aoO,ao5];omega),by rw[h,h1,h2];rfl⟩) λh2=>by rw[h,h1,h2];rfl
theorem PZ:OK sQ.e:=by
 refine PA.ok mixed (aO [jy.e] ⟨rF,trivial⟩) H0 (by kernel_rfl) (show∀f0 f1,sQ.goal (P5 f0 f1) ((f0,f1,()),())from ?_);intro f0 f1 hin hp;dsimp only[sQ]at hp ⊢;have hl:f0.length<=1048576:=hp;have e1:∀z:List UInt8,iJ++32::(f0++32::z)=[102,105,101,108,100,32]++f0++32::z:=λz=>by rw[aoX];rfl
 have e:cu (f0,f1,())=bif !bZ f0 then[]else bif f1==1 then[102,105,101,108,100,32]++f0++[32,105,110,116]else bif f1==2 then[102,105,101,108,100,32]++f0++[32,115,116,114,105,110,103]else[]:=by show(bif !bZ f0 then[]else bif f1==1 then iJ++32::(f0++32::Jg)else bif f1==2 then iJ++32::(f0++32::pz)else[])=_;rw[e1,e1];rfl
 refine⟨trivial,?_⟩;rw[e];refine af (λh=>by rw[h];rfl) λh=>af (λh1=>⟨aX (by rw[six];omega),aX (by rw[aoK,six,aoO,aoO,aoO,aoO,ao5];omega),by rw[h,h1];rfl⟩) λh1=>af (λh2=>⟨aX (by rw[six];omega),aX (by simp only[aoK,aoO,ao5];omega),by rw[h,h1,h2];rfl⟩) λh2=>by rw[h,h1,h2];rfl
theorem RU:OK uF.e:=by
 refine PA.ok mixed (aO [mD.e,jS.e] ⟨Dv,pO,trivial⟩) Uz (by kernel_rfl) (show∀f0 f1 f2 f3 f4,uF.goal (RV f0 f1 f2 f3 f4) ((f0,f1,f2,f3,f4,()),())from ?_);intro f0 f1 f2 f3 f4 hin hp;dsimp only[uF]at hp ⊢;obtain⟨hl,ht⟩:f4.length<=1048576/\(eP f4).length<=1073741824:=hp;have q0:=zn (n:=f0) hin.1.1;have q1:=zn (n:=f1) hin.1.2.1;have q3:=zn (n:=f3) hin.1.2.2.2.1;have h5:∀a b c d e:UInt8,([a,b,c,d,e]:List UInt8).length=5:=λ_ _ _ _ _=>rfl;have h3:∀a b c:UInt8,([a,b,c]:List UInt8).length=3:=λ_ _ _=>rfl;have h1:([32]:List UInt8).length=1:=rfl;refine⟨trivial,aX (by rw[h5];omega),aX (by rw[aoK,h5,h1];omega),trivial,aX (by rw[aoK,aoK,h5,h1];omega),
  gB (([102,105,108,101,32]++Lib.itoa f0++[32]++Lib.itoa f1++[32,(bif f2 then 115 else 111),32],()),()) ?_ ?_⟩
 .cases f2 with
  |true=>exact⟨aX (by simp only[aoK,h5,h1,h3];omega),rfl,rfl⟩
  |false=>exact⟨aX (by simp only[aoK,h5,h1,h3];omega),rfl,rfl⟩
 refine⟨trivial,aX (by simp only[aoK,h5,h1,h3];omega),?_⟩;have hh:([102,105,108,101,32]++Lib.itoa f0++[32]++Lib.itoa f1++[32,(bif f2 then 115 else 111),32]++Lib.itoa f3:List UInt8).length<=80:=by simp only[aoK,h5,h1,h3];omega
 have he:eG (f0,f1,f2,f3,f4,())=[102,105,108,101,32]++Lib.itoa f0++[32]++Lib.itoa f1++[32,(bif f2 then 115 else 111),32]++Lib.itoa f3++eP f4:=by
  have e1:eG (f0,f1,f2,f3,f4,())=lK++32::(Lib.itoa f0++32::Lib.join (iT (f0,f1,f2,f3,f4,())) [32]):=by unfold eG;rw[show iT (f0,f1,f2,f3,f4,())=Lib.itoa f1::((bif f2 then[115]else[111])::Lib.itoa f3::dJ f4)from rfl,iZ,iZ]
  rw[e1,aaL];cases f2<;>simp[lK]
 generalize ([102,105,108,101,32]++Lib.itoa f0++[32]++Lib.itoa f1++[32,(bif f2 then 115 else 111),32]++Lib.itoa f3:List UInt8)=H at hh he ⊢;rw[he];refine fZ (mk:=λi(s:List UInt8)=>((s,i,()),())) (λy=>y.1.2.1) (λ_ _=>rfl) f4.length (by omega) (λn s=>s=H++eP (f4.take n)) (by rw[aqH];exact(ape _).symm) (λI μ n s hn hJ next=>?_) λI μ s hJ=>?_
 .subst hJ;have hm:=@ZM f4 (n+1);have hk:=ahX hn;rw[hk]at hm;simp only[aoK,aoO]at hm;dsimp only;rw[ao6];have hi:(0:Int)<=n/\(n:Int)<f4.length:=by omega
  refine eX (by omega) ⟨aX (by simp only[aoK,h1];omega),hi,aX (by simp only[aoK,h1];omega),aX (by simp only[aoK,h1];omega),hi,trivial,aX (by simp only[aoK,h1];omega),rfl,next _ ?_⟩;rw[hk];simp
 .subst hJ;dsimp only;rw[apl (aoP _)];exact eY (by omega) rfl
theorem Bv(a:List (List UInt8))(x:List UInt8):Sp.ls (a++[x])=Sp.ls a++[(x,())]:=by rw[Sp.RJ];rfl
theorem map_take{α β:Type}(f:α->β)(l:List α){n:Nat}(h:n<l.length)(d:α):(l.take (n+1)).map f=(l.take n).map f++[f (l.getD n d)]:=by rw[apX h,apG,aoN,aoQ h];rfl
theorem afa{x:aQ}(h:bK x=true){f:aT}(hf:f∈x.2.1):f.2.2.2.2.1.length<=1048576/\(eP f.2.2.2.2.1).length<=1073741824:=by
 obtain⟨k1,k2⟩:=(wU h).2.1 f hf;have:=N9 _ (tK.1 k1).1;have hj:(eP f.2.2.2.2.1).length<=oN (dJ f.2.2.2.2.1):=by
  rw[← Oa];have:∀w:List (List UInt8),(Lib.joinTail [32] w).length<=oN w:=by
   intro w
   induction w with
   |nil=>exact apb _
   |cons y r ih=>show([32]++y++Lib.joinTail [32] r).length<=_;rw[eU,aoK,aoK,aoO,ao5];omega
  exact this _
 exact⟨by omega,by omega⟩
theorem zZ:OK jd.e:=by
 refine PA.ok mixed (aO [sJ.e,uD.e,lV.e,sQ.e,gX.e] ⟨PO,RN,uP,PZ,rG,trivial⟩) LG (by kernel_rfl) (show∀x0 x1 x2 x3,jd.goal (JU x0 x1 x2 x3) ((x0,x1,x2,x3,()),())from ?_);intro x0 x1 x2 x3 hin hp;dsimp only[jd]at hp ⊢;have hp:gq (x0,x1,x2,x3,()):=hp;refine⟨hp,af (λh=>?_) λh=>?_⟩
 .have h:bK (x0,x1,x2,x3,())=false:=iW h;rw[ahY h]
 have h:bK (x0,x1,x2,x3,())=true:=fC h;obtain⟨p1,p2,p3,p4,p5,p6,p7⟩:=wU h;have few:=λf hf=>afa h (f:=f) hf;rw[Aa h];dsimp only at p1 p2 p3 p4 p5 p6 p7 few;have hn:=(fU p3).2.2.2.2;have h5:∀a b c d e:UInt8,([a,b,c,d,e]:List UInt8).length=5:=λ_ _ _ _ _=>rfl;have h4:∀a b c d:UInt8,([a,b,c,d]:List UInt8).length=4:=λ_ _ _ _=>rfl;have one:∀x:List UInt8×Unit,[x].length=1:=λ_=>rfl;refine fZ (mk:=λi(s:Sp.LS)=>(((),i,()),s,())) (λy=>y.1.2.1) (λ_ _=>rfl) x0.length (by omega) (λn s=>s=Sp.ls ((x0.take n).map cu)) rfl (λI μ n s hn hJ next=>?_) λI μ s hJ=>?_
 .subst hJ;dsimp only;rw[ao6];have hm:=p1 _ (getD_mem (d:=([],0,())) hn);refine eX (by omega) ⟨⟨by omega,by omega⟩,aoW (WO hm.1) (by decide),vN (by rw[one];simp only[Sp.ls,ao0,ao2];omega),rfl,next _ ?_⟩;rw[map_take _ _ hn ([],0,()),Bv]
 subst hJ;dsimp only;rw[apl (aoP _)];refine eY (by omega) ⟨trivial,aX (by rw[h5];omega),vN (by rw[one];simp only[Sp.ls,ao0];omega),?_⟩;have e1:Sp.ls (x0.map cu)++[([110,101,120,116,32]++Lib.itoa x2,())]=Sp.ls (x0.map cu++[iE x2]):=(Bv _ _).symm;rw[e1];refine fZ (mk:=λi(s:Sp.LS)=>(((),i,()),s,())) (λy=>y.1.2.1) (λ_ _=>rfl) x1.length (by omega) (λn s=>s=Sp.ls (x0.map cu++[iE x2]++(x1.take n).map eG)) (by show Sp.ls _=Sp.ls (_++[]);rw[ape]) (λI μ n s hn hJ next=>?_) λI μ s hJ=>?_
 .subst hJ;dsimp only;rw[ao6];refine eX (by omega) ⟨⟨by omega,by omega⟩,few _ (getD_mem (d:=(0,0,false,0,[],())) hn),vN (by rw[one];simp only[Sp.ls,ao0,aoK,ao2,aoO,ao5];omega),rfl,next _ ?_⟩;rw[map_take _ _ hn (0,0,false,0,[],()),← aoX,Bv]
 subst hJ;dsimp only;rw[apl (aoP _)];refine eY (by omega) ?_;refine fZ (mk:=λi(s:Sp.LS)=>(((),i,()),s,())) (λy=>y.1.2.1) (λ_ _=>rfl) x3.length (by omega) (λn s=>s=Sp.ls (x0.map cu++[iE x2]++x1.map eG++(x3.take n).map iq)) (by show Sp.ls _=Sp.ls (_++[]);rw[ape]) (λI μ n s hn hJ next=>?_) λI μ s hJ=>?_
 .subst hJ;dsimp only;rw[ao6];have hm:=p4 _ (getD_mem (d:=([],[],())) hn);have hv:=oh hm.1;have hq:=(Sp.fG hm.2).2;have ht:=Yw (x3.getD n ([],[],())).2.1;refine eX (by omega) ⟨⟨by omega,by omega⟩,aX (by rw[h4];omega),aX (by rw[aoK,h4];show _+1<=_;omega),(by omega),aX (by rw[aoK,aoK,h4];show 4+_+1+_<=_;omega),vN (by rw[one];simp only[Sp.ls,ao0,aoK,ao2,aoO,ao5];omega),rfl,next _ ?_⟩;rw[map_take _ _ hn ([],[],()),← aoX,Bv];have e:iq (x3.getD n ([],[],()))=[100,105,114,32]++(x3.getD n ([],[],())).1++[32]++Sp.textOf (x3.getD n ([],[],())).2.1:=by unfold iq;simp[jQ]
  rw[e]
 .subst hJ;dsimp only;rw[apl (aoP _)];refine eY (by omega) ?_;have e:jr (x0,x1,x2,x3,())=x0.map cu++[iE x2]++x1.map eG++x3.map iq:=by unfold jr;simp
  rw[e]
theorem JV:OK oQ.e:=by
 refine PA.ok mixed (aO [sK.e,uF.e,jS.e,sO.e,lG.e] ⟨PU,RU,pO,PX,zy,trivial⟩) LH (by kernel_rfl) (show∀x0 x1 x2 x3,oQ.goal (JW x0 x1 x2 x3) ((x0,x1,x2,x3,()),())from ?_);intro x0 x1 x2 x3 hin hp;dsimp only[oQ]at hp ⊢;have hp:gq (x0,x1,x2,x3,()):=hp;refine⟨hp,af (λh=>?_) λh=>?_⟩
 .have h:bK (x0,x1,x2,x3,())=false:=iW h;rw[ahY h]
 have h:bK (x0,x1,x2,x3,())=true:=fC h;obtain⟨p1,p2,p3,p4,p5,p6,p7⟩:=wU h;have few:=λf hf=>afa h (f:=f) hf;rw[Aa h];dsimp only at p1 p2 p3 p4 p5 p6 p7 few;have hn:=(fU p3).2.2.2.2;have h5:∀a b c d e:UInt8,([a,b,c,d,e]:List UInt8).length=5:=λ_ _ _ _ _=>rfl;have h4:∀a b c d:UInt8,([a,b,c,d]:List UInt8).length=4:=λ_ _ _ _=>rfl;have one:∀x:List UInt8×Unit,[x].length=1:=λ_=>rfl;refine fZ (mk:=λi(s:Sp.LS)=>(((),i,()),s,())) (λy=>y.1.2.1) (λ_ _=>rfl) x0.length (by omega) (λn s=>s=Sp.ls ((x0.take n).map cu)) rfl (λI μ n s hn hJ next=>?_) λI μ s hJ=>?_
 .subst hJ;dsimp only;rw[ao6];have hm:=p1 _ (getD_mem (d:=([],0,())) hn);refine eX (by omega) ⟨⟨by omega,by omega⟩,aoW (WO hm.1) (by decide),vN (by rw[one];simp only[Sp.ls,ao0,ao2];omega),rfl,next _ ?_⟩;rw[map_take _ _ hn ([],0,()),Bv]
 subst hJ;dsimp only;rw[apl (aoP _)];refine eY (by omega) ⟨trivial,aX (by rw[h5];omega),vN (by rw[one];simp only[Sp.ls,ao0];omega),?_⟩;have e1:Sp.ls (x0.map cu)++[([110,101,120,116,32]++Lib.itoa x2,())]=Sp.ls (x0.map cu++[iE x2]):=(Bv _ _).symm;rw[e1];refine fZ (mk:=λi(s:Sp.LS)=>(((),i,()),s,())) (λy=>y.1.2.1) (λ_ _=>rfl) x1.length (by omega) (λn s=>s=Sp.ls (x0.map cu++[iE x2]++(x1.take n).map eG)) (by show Sp.ls _=Sp.ls (_++[]);rw[ape]) (λI μ n s hn hJ next=>?_) λI μ s hJ=>?_
 .subst hJ;dsimp only;rw[ao6];refine eX (by omega) ⟨⟨by omega,by omega⟩,few _ (getD_mem (d:=(0,0,false,0,[],())) hn),vN (by rw[one];simp only[Sp.ls,ao0,aoK,ao2,aoO,ao5];omega),rfl,next _ ?_⟩;rw[map_take _ _ hn (0,0,false,0,[],()),← aoX,Bv]
 subst hJ;dsimp only;rw[apl (aoP _)];refine eY (by omega) ?_;refine fZ (mk:=λi(s:Sp.LS)=>(((),i,()),s,())) (λy=>y.1.2.1) (λ_ _=>rfl) x3.length (by omega) (λn s=>s=Sp.ls (x0.map cu++[iE x2]++x1.map eG++(x3.take n).map iq)) (by show Sp.ls _=Sp.ls (_++[]);rw[ape]) (λI μ n s hn hJ next=>?_) λI μ s hJ=>?_
 .subst hJ;dsimp only;rw[ao6];have hm:=p4 _ (getD_mem (d:=([],[],())) hn);have hv:=oh hm.1;have hq:=(Sp.fG hm.2).2;have ht:=Yw (x3.getD n ([],[],())).2.1;refine eX (by omega) ⟨⟨by omega,by omega⟩,aX (by rw[h4];omega),aX (by rw[aoK,h4];show _+1<=_;omega),⟨by omega,by omega⟩,(by omega),aX (by rw[aoK,aoK,h4];show 4+_+1+_<=_;omega),vN (by rw[one];simp only[Sp.ls,ao0,aoK,ao2,aoO,ao5];omega),rfl,next _ ?_⟩;rw[map_take _ _ hn ([],[],()),← aoX,Bv];have e:iq (x3.getD n ([],[],()))=[100,105,114,32]++(x3.getD n ([],[],())).1++[32]++Sp.textOf (x3.getD n ([],[],())).2.1:=by unfold iq;simp[jQ]
  rw[e]
 .subst hJ;dsimp only;rw[apl (aoP _)];refine eY (by omega) ?_;have e:jr (x0,x1,x2,x3,())=x0.map cu++[iE x2]++x1.map eG++x3.map iq:=by unfold jr;simp
  rw[e]
end Go.Proofs.Tryz
namespace Go.Proofs.Tryz
open Go Go.Fw Go.IntWalk Sp
set_option maxRecDepth 100000
theorem adv(s:List UInt8){n:Nat}(h:n<s.length):Sp.sumOf (s.take (n+1))=(33*Sp.sumOf (s.take n)+((s.getD n 0).toNat:Int)).tmod 65521:=by unfold Sp.sumOf;rw[apX h,List.foldl_append,aoN,aoQ h];rfl
theorem WQ:OK yt.e:=by
 refine PA.ok mixed (aO [] trivial) Yx (by kernel_rfl) (show∀s,yt.goal (WR s) (s,())from ?_);intro s hin hp;dsimp only[yt]at hp ⊢;have hs:s.length<=1048576:=hp;refine fZ (mk:=λi(v:Int)=>((v,i,()),())) (λy=>y.1.2.1) (λ_ _=>rfl) s.length (by omega) (λn v=>v=Sp.sumOf (s.take n)) rfl (λI μ n v hn hJ next=>?_) λI μ v hJ=>?_
 .subst hJ;have hr:=RX (s.take n);have hb:(s.getD n 0).toNat<256:=(s.getD n 0).toNat_lt;dsimp only;rw[ao6];have e:(IntKind.i64.wrap (IntKind.i64.wrap (Sp.sumOf (s.take n)*33)+IntKind.i64.wrap ((s.getD n 0).toNat:Int)))=33*Sp.sumOf (s.take n)+((s.getD n 0).toNat:Int):=by rw[wrap_in (z:=Sp.sumOf (s.take n)*33) (by omega),wrap_in (z:=((s.getD n 0).toNat:Int)) (by omega),wrap_in (by omega)];omega
  rw[e];exact eX (by omega) ⟨⟨by omega,by omega⟩,by decide,rfl,next _ (adv s hn).symm⟩
 .subst hJ;dsimp only;rw[apl (aoP _)];exact eY (by omega) rfl
theorem WS:OK yu.e:=by
 refine PA.ok mixed (aO [] trivial) Yy (by kernel_rfl) (show∀s,yu.goal (WT s) (s,())from ?_);intro s hin hp;dsimp only[yu]at hp ⊢;have hs:s.length<=1048576:=hp;refine fZ (mk:=λi(v:Int)=>((v,i,()),())) (λy=>y.1.2.1) (λ_ _=>rfl) s.length (by omega) (λn v=>v=Sp.sumOf (s.take n)) rfl (λI μ n v hn hJ next=>?_) λI μ v hJ=>?_
 .subst hJ;have hr:=RX (s.take n);have hb:(s.getD n 0).toNat<256:=(s.getD n 0).toNat_lt;dsimp only;rw[ao6];have e:(IntKind.i64.wrap (IntKind.i64.wrap (33*Sp.sumOf (s.take n))+IntKind.i64.wrap ((s.getD n 0).toNat:Int)))=33*Sp.sumOf (s.take n)+((s.getD n 0).toNat:Int):=by rw[wrap_in (z:=33*Sp.sumOf (s.take n)) (by omega),wrap_in (z:=((s.getD n 0).toNat:Int)) (by omega),wrap_in (by omega)]
  rw[e];exact eX (by omega) ⟨⟨by omega,by omega⟩,by decide,rfl,next _ (adv s hn).symm⟩
 .subst hJ;dsimp only;rw[apl (aoP _)];exact eY (by omega) rfl
theorem D8{n:Int}{x:aQ}(h:bK x=true)(h1:1<=n)(h2:n<=1000000000)(m:Nat):(Sp.linesT (Lib.itoa n::(jr x).take m)).length<=14424:=by
 obtain⟨e1,e2⟩:=Bz h;have hn:=(fU (gG.2 (show 0<=n/\n<=1000000000 by omega))).2.2.2.2;have:=agw (Lib.itoa n::(jr x).take m) λw hw=>by
  rcases aoU.1 hw with rfl|hw
  .omega
  .exact(e1 w (aqp hw)).1
 rw[aoO,ao2]at this;have h3:(min m (jr x).length+1)*601<=24*601:=ao8 _ (by omega);omega
theorem afb(l:List (List UInt8))(n:Nat):((Sp.ls l).getD n ([],())).1=l.getD n []:=by unfold Sp.ls;rw[aoN,aoN,apB];cases l[n]? <;>rfl
theorem getD_in{α:Type}{l:List α}{n:Nat}{d:α}(h:n<l.length):l.getD n d∈l:=by rw[aoN,aoQ h];exact ap2 h
theorem aaM(l:List (List UInt8)){n:Nat}(h:n<l.length):l.take (n+1)=l.take n++[l.getD n []]:=by rw[apX h,aoN,aoQ h];rfl
theorem ahZ:OK zD.e:=by
 refine PA.ok mixed (aO [yt.e,oQ.e,jS.e,jc.e,lG.e] ⟨WQ,JV,pO,kz,zy,trivial⟩) UA (by kernel_rfl) (show∀version x0 x1 x2 x3,zD.goal (RY version x0 x1 x2 x3) (version,(x0,x1,x2,x3,()),())from ?_);intro v x0 x1 x2 x3 hin hp;dsimp only[zD]at hp ⊢;have hp:gq (x0,x1,x2,x3,()):=hp;refine⟨λ_=>bK (x0,x1,x2,x3,())=true/\1<=v/\v<=1000000000,⟨hp,?_⟩,λ_ hy=>?_⟩
 .refine af (λh=>?_) λh=>⟨trivial,af (λg=>?_) λg=>?_⟩
  .unfold Sp.slot;rw[iW h];rfl
  .have g:(decide (1<=v)&&decide (v<=1000000000))=false:=iW g;unfold Sp.slot;rw[g,aqd];rfl
  .have g:(decide (1<=v)&&decide (v<=1000000000))=true:=fC g;rw[aoJ,aoS,aoS]at g;exact⟨rfl,fC h,g.1,g.2⟩
 obtain⟨h,h1,h2⟩:=hy;obtain⟨e1,e2⟩:=Bz h;have hn:=(fU (gG.2 (show 0<=v/\v<=1000000000 by omega))).2.2.2.2;have one:∀x:UInt8,[x].length=1:=λ_=>rfl;rw[BA h h1 h2];refine⟨trivial,aX (by rw[one];omega),hp,?_⟩;dsimp only;rw[Aa h,adw];refine fZ (mk:=λi(s:List UInt8)=>((s,i,()),())) (λy=>y.1.2.1) (λ_ _=>rfl) (jr (x0,x1,x2,x3,())).length (by omega) (λn s=>s=Sp.linesT (Lib.itoa v::(jr (x0,x1,x2,x3,())).take n)) (by show Lib.itoa v++[10]=Lib.itoa v++[10]++[];rw[ape]) (λI μ n s hnl hJ next=>?_) λI μ s hJ=>?_
 .have hb:=D8 h h1 h2 n;rw[← hJ]at hb;have hl:=(e1 _ (getD_in (d:=[]) hnl)).1;dsimp only;rw[ao6,afb];refine eX (by omega) ⟨⟨by omega,by omega⟩,aX (by omega),aX (by rw[aoK,one];omega),rfl,next _ ?_⟩;rw[aaM _ hnl,hJ,show Lib.itoa v::((jr (x0,x1,x2,x3,())).take n++[(jr (x0,x1,x2,x3,())).getD n []])=(Lib.itoa v::(jr (x0,x1,x2,x3,())).take n)++[(jr (x0,x1,x2,x3,())).getD n []]from rfl,U7,aoX]
 .have hb:=D8 h h1 h2 (jr (x0,x1,x2,x3,())).length;rw[← hJ]at hb;rw[apl (aoP _)]at hJ;have hJ:s=iF v (x0,x1,x2,x3,()):=hJ;have hs:=(fU (Hu s)).2.2.2.2;dsimp only;rw[← hJ];refine eY (by omega) ⟨by omega,trivial,aX (by omega),aX (by rw[aoK,one];omega),?_⟩;rw[aoX]
theorem Ey:OK pF.e:=by
 refine PA.ok mixed (aO [yu.e,jd.e,lV.e,iL.e,gX.e] ⟨WS,zZ,uP,jB,rG,trivial⟩) UB (by kernel_rfl) (show∀version x0 x1 x2 x3,pF.goal (RZ version x0 x1 x2 x3) (version,(x0,x1,x2,x3,()),())from ?_);intro v x0 x1 x2 x3 hin hp;dsimp only[pF]at hp ⊢;have hp:gq (x0,x1,x2,x3,()):=hp;refine⟨λ_=>bK (x0,x1,x2,x3,())=true/\1<=v/\v<=1000000000,⟨hp,?_⟩,λ_ hy=>?_⟩
 .refine af (λh=>?_) λh=>⟨trivial,af (λg=>?_) λg=>?_⟩
  .unfold Sp.slot;rw[iW h];rfl
  .have g:(decide (1<=v)&&decide (v<=1000000000))=false:=iW g;unfold Sp.slot;rw[g,aqd];rfl
  .have g:(decide (1<=v)&&decide (v<=1000000000))=true:=fC g;rw[aoJ,aoS,aoS]at g;exact⟨rfl,fC h,g.1,g.2⟩
 obtain⟨h,h1,h2⟩:=hy;obtain⟨e1,e2⟩:=Bz h;have hn:=(fU (gG.2 (show 0<=v/\v<=1000000000 by omega))).2.2.2.2;have one:∀x:UInt8,[x].length=1:=λ_=>rfl;rw[BA h h1 h2];refine⟨trivial,aX (by rw[one];omega),hp,?_⟩;dsimp only;rw[Aa h,adw];refine fZ (mk:=λi(s:List UInt8)=>((s,i,()),())) (λy=>y.1.2.1) (λ_ _=>rfl) (jr (x0,x1,x2,x3,())).length (by omega) (λn s=>s=Sp.linesT (Lib.itoa v::(jr (x0,x1,x2,x3,())).take n)) (by show Lib.itoa v++[10]=Lib.itoa v++[10]++[];rw[ape]) (λI μ n s hnl hJ next=>?_) λI μ s hJ=>?_
 .have hb:=D8 h h1 h2 n;rw[← hJ]at hb;have hl:=(e1 _ (getD_in (d:=[]) hnl)).1;dsimp only;rw[ao6,afb];refine eX (by omega) ⟨⟨by omega,by omega⟩,aX (by rw[one];omega),aX (by rw[aoK,one];omega),rfl,next _ ?_⟩;rw[aaM _ hnl,hJ,show Lib.itoa v::((jr (x0,x1,x2,x3,())).take n++[(jr (x0,x1,x2,x3,())).getD n []])=(Lib.itoa v::(jr (x0,x1,x2,x3,())).take n)++[(jr (x0,x1,x2,x3,())).getD n []]from rfl,U7]
 .have hb:=D8 h h1 h2 (jr (x0,x1,x2,x3,())).length;rw[← hJ]at hb;rw[apl (aoP _)]at hJ;have hJ:s=iF v (x0,x1,x2,x3,()):=hJ;have hs:=(fU (Hu s)).2.2.2.2;dsimp only;rw[← hJ];refine eY (by omega) ⟨by omega,trivial,aX (by omega),aX (by rw[aoK,one];omega),?_⟩;rw[aoX]
theorem abm:OK BM.e:=by refine PA.ok mixed (aO [] trivial) H0 (by kernel_rfl) (show∀n low high,BM.goal (abr n low high) (n,low,high,())from ?_);intro n lo hi hin hp;dsimp only[BM]at hp ⊢;have hp:lo<=hi:=hp;show(_,())=(max lo (min n hi),());refine congrArg (·,()) ?_;split<;>split<;>omega
end Go.Proofs.Tryz
namespace Go.Proofs.Tryz
open Go Go.Fw Go.IntWalk Sp
set_option maxRecDepth 100000
theorem Tt:bY []:=⟨by decide,λy hy=>by have hy:y∈[(([]:List UInt8),())]:=hy;rw[ao7.1 hy];exact apb _⟩
end Go.Proofs.Tryz
namespace Go.Proofs.Tryz
open Go Go.Fw Go.RowKit Sp
set_option maxRecDepth 100000
theorem o6{h:Array Obj}{S:Nat->Prop}{e:TypeId}{r:au}{v:Value}{l:List r.den}(H:dF h S (.sl e r) v l):∃a c,v=.slice a l.length c:=by
 rcases H.2 with⟨rfl,a,c,e⟩|⟨b,off,cap,cs,t,fz,e,_⟩
 .exact⟨a,c,e⟩
 .exact⟨_,_,e⟩
theorem CX(c:UInt8)(hc32:c=32\/c=10)(s:List UInt8)(hs:s.length<=1048576)(w:World)(hG:G.ok w):Calls prog 86 #[.string ⟨s.toArray⟩,.string ⟨#[c]⟩] w λe w'=>
 ∃v,e=.returned v/\FW w'.heap.size w' v (Sp.pieces c s)/\Below w.heap.size w w':=by
 have hc:gu prog G 86 (iV wF zA Iw):=GZ;refine(hc [.sv (.one (.str s)),.sv (.one (.str [c]))] (s.length<=4294960000/\(([c]:List UInt8)=[32]\/([c]:List UInt8)=[10])) _ 0 (λ_=>True) #[.string ⟨s.toArray⟩,.string ⟨#[c]⟩] w rfl ⟨by omega,hc32.imp (λe=>by rw[e]) λe=>by rw[e]⟩ hG ⟨⟨rfl,by rw[maxLen_eq];omega⟩,⟨rfl,by rw[maxLen_eq];show 1<=_;decide⟩,trivial⟩).mono ?_;rintro e w' ⟨v,vals,rfl,h1,h2,h3,h4,h5,h6,_,_⟩;have ha:dF w'.heap _ (.sl bW fP) v (Sp.pieces c s):=h6;refine⟨v,rfl,⟨ha.1,?_⟩,h1,h2,h3,h4,h5⟩;rcases ha.2 with h|⟨b,off,cap,cs,t,fz,e1,e2,e3,e4,e5⟩
 .exact .inl h
 .exact .inr ⟨b,off,cap,cs,t,fz,e1,e2,e3.1.1,e4,λi x hx=>aG.flat (S:=_) _ _ _ rfl (e5 i x hx)⟩
theorem akC(s:List UInt8)(hs:s.length<=1048576)(w:World)(hG:G.ok w):Calls prog 87 #[.string ⟨s.toArray⟩] w λe w'=>
 e=.returned (.tuple #[.int .i64 (Sp.parseNum s),.bool (aU s)])/\Below w.heap.size w w':=by
 have hc:gu prog G 87 (iV uz yB Gm):=uM;refine(hc [.sv (.one (.str s))] True _ 0 (λ_=>True) #[.string ⟨s.toArray⟩] w rfl trivial hG ⟨⟨rfl,by rw[maxLen_eq];omega⟩,trivial⟩).mono ?_;rintro e w' ⟨v,vals,rfl,h1,h2,h3,h4,h5,h6,_,_⟩;obtain⟨vs,rfl,h7⟩:=h6;obtain⟨l⟩:=vs
 match l,h7 with
 |[x,y],h7=>obtain⟨hx,hy,_⟩:=h7;have hx:x=.int .i64 (Sp.parseNum s):=hx.1;have hy:y=.bool (aU s):=hy;rw[hx,hy];exact⟨rfl,h1,h2,h3,h4,h5⟩
theorem Jh{w:World}{v:Value}{f:Sp.LS}(h:FW w.heap.size w v f):mJ ⟨w,w.heap.size,λ_=>True,λ_=>undef,λ_=>none⟩ (.sv (.one (.sl bW fP f false))) v:=
 dF.mono (S':=V.bM ⟨w,w.heap.size,λ_=>True,λ_=>undef,λ_=>none⟩ false) (h':=w.heap) (λb hb=>⟨⟨⟨hb,λ_=>trivial,λo x hx=>by cases hx⟩,λe=>by cases e⟩,rfl⟩) _ _ _ h
theorem akD(v:Value)(f:Sp.LS)(w:World)(hv:FW w.heap.size w v f)(hf:f.length<=1000)(hx:∀x∈f,x.1.length<=1048576)(hG:G.ok w):Calls prog 106 #[v] w λe w'=>
 ∃a c,e=.returned (.tuple #[.agg #[.int .i64 (iQ f).1.1,.int .i64 (iQ f).1.2.1,.bool (iQ f).1.2.2.1,.int .i64 (iQ f).1.2.2.2.1,.slice a (iQ f).1.2.2.2.2.1.length c],.bool (iQ f).2])/\Below w.heap.size w w'/\
  dF w'.heap (λb=>w.heap.size<=b/\b<w'.heap.size) (.sl fE iM) (.slice a (iQ f).1.2.2.2.2.1.length c) (iQ f).1.2.2.2.2.1/\zk (iQ f).1.1/\zk (iQ f).1.2.1/\zk (iQ f).1.2.2.2.1:=by
 have hcon:gu prog G 106 (iV rJ.sh rJ.cO rJ.F):=ZH.1;refine(hcon [.sv (.one (.sl bW fP f false))] (f.length<=1000/\(∀x∈f,x.1.length<=1048576)) _ 0 (λ_=>True) #[v] w rfl ⟨hf,hx⟩ hG ⟨Jh hv,trivial⟩).mono ?_;rintro e w' ⟨v,vals,rfl,h1,h2,h3,h4,h5,h6,_,_⟩;obtain⟨vs,rfl,h7⟩:=h6;obtain⟨l⟩:=vs
 match l,h7 with
 |[x,y],h7=>
  obtain⟨⟨us,rfl,h8⟩,hy,_⟩:=h7;have hy:y=.bool (iQ f).2:=hy;obtain⟨ul⟩:=us
  match ul,h8 with
  |[a1,a2,a3,a4,a5],h8=>obtain⟨b1,b2,b3,b4,b5,_⟩:=h8;have b3:a3=.bool (iQ f).1.2.2.1:=b3;have b5:dF w'.heap _ (.sl fE iM) a5 (iQ f).1.2.2.2.2.1:=b5;obtain⟨a,c,e5⟩:=o6 b5;rw[e5]at b5;rw[hy,b1.1,b2.1,b3,b4.1,e5];exact⟨a,c,rfl,⟨h1,h2,h3,h4,h5⟩,dF.mono (λb hb=>⟨⟨hb.2 rfl,hb.1.1⟩,rfl⟩) _ _ _ b5,b1.2,b2.2,b4.2⟩
theorem akE(v:Value)(f:Sp.LS)(w:World)(hv:FW w.heap.size w v f)(hf:f.length<=1000)(hj:(kT f).length<=1048576)(hG:G.ok w):Calls prog 74 #[v,.string ⟨#[32]⟩] w λe w'=>
 e=.returned (.string ⟨(kT f).toArray⟩)/\Below w.heap.size w w':=by
 have hcon:gu prog G 74 (iV yh AA J9):=CJ;refine(hcon [.sv (.one (.sl bW fP f false)),.sv (.one (.str [32]))] (f.length<=140737488355328/\(Lib.join (f.map (·.1)) [32]).length<=140737488355328) _ 0 (λ_=>True) #[v,.string ⟨#[32]⟩] w rfl ⟨by omega,by have:(Lib.join (f.map (·.1)) [32]).length<=1048576:=hj;omega⟩ hG ⟨Jh hv,⟨rfl,by rw[maxLen_eq];decide⟩,trivial⟩).mono ?_;rintro e w' ⟨v,vals,rfl,h1,h2,h3,h4,h5,h6,_,_⟩;have h6:v=.string ⟨(kT f).toArray⟩/\_:=h6;rw[h6.1];exact⟨rfl,h1,h2,h3,h4,h5⟩
theorem akF(s:List UInt8)(hs:s.length<=1048576)(w:World)(hG:G.ok w):Calls prog 107 #[.string ⟨s.toArray⟩] w λe w'=>
 ∃a c,e=.returned (.tuple #[.slice a (gY s).length c,.bool (iP s)])/\Below w.heap.size w w'/\dF w'.heap (λb=>w.heap.size<=b/\b<w'.heap.size) (.sl bD dL) (.slice a (gY s).length c) (gY s):=by
 have hcon:gu prog G 107 (iV sN xP E5):=RQ;refine(hcon [.sv (.one (.str s))] (s.length<=1048576) _ 0 (λ_=>True) #[.string ⟨s.toArray⟩] w rfl hs hG ⟨⟨rfl,by rw[maxLen_eq];omega⟩,trivial⟩).mono ?_;rintro e w' ⟨v,vals,rfl,h1,h2,h3,h4,h5,h6,_,_⟩;obtain⟨vs,rfl,h7⟩:=h6;obtain⟨l⟩:=vs
 match l,h7 with
 |[x,y],h7=>obtain⟨hx,hy,_⟩:=h7;have hx:dF w'.heap _ (.sl bD dL) x (gY s):=hx;have hy:y=.bool (iP s):=hy;obtain⟨a,c,ex⟩:=o6 hx;rw[ex]at hx;rw[hy,ex];exact⟨a,c,rfl,⟨h1,h2,h3,h4,h5⟩,dF.mono (λb hb=>⟨⟨hb.2 rfl,hb.1.1⟩,rfl⟩) _ _ _ hx⟩
end Go.Proofs.Tryz
namespace Go.Proofs.Tryz
open Go Go.Fw Go.RowKit Sp
set_option maxRecDepth 100000
def OL(w:World)(B:Nat)(F:Nat->Prop)(e:TypeId)(r:au)(v:Value)(l:List r.den):Prop:=
 ∃xs,w.ownsRow B e r.len v l.length xs/\∀i x,l[i]? =some x->aG w.heap F r ((xs.drop (i*r.len)).take r.len) x
structure Sn(B:Nat)(w:World)(va vl vd:Value)(x:aQ)(F:Nat->Prop):Prop where
 fa:OL w B F 54 dD va x.1
 fl:OL w B F 51 fA vl x.2.1
 fd:OL w B F 93 dX vd x.2.2.2.1
 nx:zk x.2.2.1
 ne:∀g,(va.ownBlock=some g->vl.ownBlock≠some g/\vd.ownBlock≠some g)/\(vl.ownBlock=some g->vd.ownBlock≠some g)
 foot:∀b,F b->B<=b/\b<w.heap.size/\va.ownBlock≠some b/\vl.ownBlock≠some b/\vd.ownBlock≠some b
theorem OL.keep{w w':World}{B:Nat}{F:Nat->Prop}{e:TypeId}{r:au}{v:Value}{l:List r.den}(h:OL w B F e r v l)(hk:∀b,v.ownBlock=some b->w'.heap[b]? =w.heap[b]?)(hF:∀b,F b->w'.heap[b]? =w.heap[b]?):OL w' B F e r v l:=by obtain⟨xs,h1,h2⟩:=h;exact⟨xs,Hf h1 hk,λi x hx=>aG.mono (λb hb=>⟨hb,hF b hb⟩) _ _ _ (h2 i x hx)⟩
theorem OL.mono{w:World}{B:Nat}{F F':Nat->Prop}{e:TypeId}{r:au}{v:Value}{l:List r.den}(h:OL w B F e r v l)(hF:∀b,F b->F' b):OL w B F' e r v l:=by obtain⟨xs,h1,h2⟩:=h;exact⟨xs,h1,λi x hx=>aG.mono (λb hb=>⟨hF b hb,rfl⟩) _ _ _ (h2 i x hx)⟩
theorem OL.lt{w:World}{B:Nat}{F:Nat->Prop}{e:TypeId}{r:au}{v:Value}{l:List r.den}(h:OL w B F e r v l){g:Nat}(hg:v.ownBlock=some g):B<=g/\g<w.heap.size:=by obtain⟨xs,h1,_⟩:=h;exact h1.lt g hg
theorem OL.form{w:World}{B:Nat}{F:Nat->Prop}{e:TypeId}{r:au}{v:Value}{l:List r.den}(h:OL w B F e r v l):∃a c,v=.slice a l.length c:=by
 obtain⟨xs,h1,_⟩:=h;rcases h1.2 with⟨e1,e2⟩|⟨g,cap,cur,e1,_⟩
 .exact⟨none,0,by rw[e1,e2]⟩
 .exact⟨_,_,e1⟩
theorem OL.nil{w:World}{B:Nat}{F:Nat->Prop}{e:TypeId}{r:au}:OL w B F e r (.slice none 0 0) []:=⟨[],aqT _ _ _ _,λi x hx=>by simp at hx⟩
theorem OL.rep{w:World}{B:Nat}{F S:Nat->Prop}{e:TypeId}{r:au}{v:Value}{l:List r.den}(h:OL w B F e r v l)(hr:0<r.len)(hS:∀b,F b\/v.ownBlock=some b->S b):dF w.heap S (.sl e r) v l:=by
 obtain⟨xs,h1,h2⟩:=h;rcases h1.2 with⟨e1,e2⟩|⟨g,cap,cur,e1,e2,e3,e4,e5,e6,e7⟩
 .exact⟨by rw[e2];exact apb _,.inl ⟨apE.1 e2,none,0,e1⟩⟩
 .refine⟨aoW e4 e5,.inr ⟨g,0,cap,cur,e,(0,0),e1,e4,hS g (.inr (by rw[e1];rfl)),e3,λi x hx=>?_⟩⟩;have hi:=(aoY.1 hx).1;have:=h2 i x hx;have hmul:(i+1)*r.len<=l.length*r.len:=ao8 _ hi;rw[apq,arj]at hmul;rw[← e7,arE,ard,aq6 (by omega)]at this;rw[apg];exact aG.mono (λb hb=>⟨hS b (.inl hb),rfl⟩) _ _ _ this
theorem aja{xs ys:List Value}{n z j:Nat}(h:xs.length=n*z)(hj:j<n):((xs++ys).drop (j*z)).take z=(xs.drop (j*z)).take z:=by have:(j+1)*z<=n*z:=ao8 _ hj;rw[apq,arj]at this;rw[ap8 (by omega),aqw (by rw[apj];omega)]
theorem OL.push{w w':World}{B:Nat}{F F':Nat->Prop}{e:TypeId}{r:au}{v':Value}{l:List r.den}{x:r.den}{xs ys:List Value}(h2:∀i x,l[i]? =some x->aG w.heap F r ((xs.drop (i*r.len)).take r.len) x)(hl:xs.length=l.length*r.len)
 (ho:w'.ownsRow B e r.len v' (l.length+1) (xs++ys)) (hk:∀b,F b->F' b/\w'.heap[b]? =w.heap[b]?) (hx:aG w'.heap F' r ys x):OL w' B F' e r v' (l++[x]):=by
 refine⟨xs++ys,by rw[aoK];exact ho,λi y hi=>?_⟩;rcases apa i l.length with hi'|hi'
 .rw[apt hi']at hi;rw[aja hl hi'];exact aG.mono hk _ _ _ (h2 i y hi)
 .rw[apk hi']at hi;have e0:i=l.length:=by have:=(aoY.1 hi).1;simp at this;omega
  subst e0;rw[aqV]at hi;cases hi;have hy:=aG.length _ _ _ hx;rw[← hl,arF,← hy,ap3];exact hx
theorem Sn.below{B:Nat}{w w':World}{va vl vd:Value}{x:aQ}{F:Nat->Prop}(h:Sn B w va vl vd x F)(k:Below w.heap.size w w'):Sn B w' va vl vd x F:=by have hf:∀b,F b->w'.heap[b]? =w.heap[b]? :=λb hb=>k.block b (h.foot b hb).2.1;exact⟨h.fa.keep (λb hb=>k.block b (h.fa.lt hb).2) hf,h.fl.keep (λb hb=>k.block b (h.fl.lt hb).2) hf,h.fd.keep (λb hb=>k.block b (h.fd.lt hb).2) hf,h.nx,h.ne,λb hb=>⟨(h.foot b hb).1,apd (h.foot b hb).2.1 k.size,(h.foot b hb).2.2⟩⟩
theorem Sn.keep{B:Nat}{w w':World}{va vl vd:Value}{x:aQ}{F:Nat->Prop}(h:Sn B w va vl vd x F)(hs:w.heap.size<=w'.heap.size)(k:∀b,B<=b->b<w.heap.size->w'.heap[b]? =w.heap[b]?):Sn B w' va vl vd x F:=by have hf:∀b,F b->w'.heap[b]? =w.heap[b]? :=λb hb=>k b (h.foot b hb).1 (h.foot b hb).2.1;exact⟨h.fa.keep (λb hb=>k b (h.fa.lt hb).1 (h.fa.lt hb).2) hf,h.fl.keep (λb hb=>k b (h.fl.lt hb).1 (h.fl.lt hb).2) hf,h.fd.keep (λb hb=>k b (h.fd.lt hb).1 (h.fd.lt hb).2) hf,h.nx,h.ne,λb hb=>⟨(h.foot b hb).1,apd (h.foot b hb).2.1 hs,(h.foot b hb).2.2⟩⟩
theorem Sn.ajW{B:Nat}{w w0 w5:World}{va vl vd:Value}{x:aQ}{F N:Nat->Prop}(h:Sn B w va vl vd x F)(hB:B<=w.heap.size)(hb:Below w.heap.size w w0){y:dH}{xs ys:List Value}(hown:w.ownsRow B 54 2 va x.1.length xs)
 (hrep:∀i z,x.1[i]? =some z->aG w.heap F dD ((xs.drop (i*2)).take 2) z) {g cap:Nat} (h5:w5.ownsRow B 54 2 (.slice (some ⟨g,0,none⟩) (x.1.length+1) cap) (x.1.length+1) (xs++ys)) (hg:w0.grownBy w5 va.ownBlock) (hat:va.ownBlock=some g\/g=w0.heap.size) (hlt:g<w5.heap.size)
 (hN:∀b,N b->w.heap.size<=b/\b<w0.heap.size) (hx:aG w0.heap N dD ys y):Sn B w5 (.slice (some ⟨g,0,none⟩) (x.1.length+1) cap) vl vd (x.1++[y],x.2.1,x.2.2.1,x.2.2.2.1,()) (λb=>F b\/N b):=by
 have hs0:=hb.size;have hs5:=hg.size;have same:∀b,b<w.heap.size->va.ownBlock≠some b->w5.heap[b]? =w.heap[b]? :=λb hlb hnb=>(hg.block b (apd hlb hs0) (λe=>hnb e.symm)).trans (hb.block b hlb);have hF:∀b,F b->w5.heap[b]? =w.heap[b]? :=λb hb2=>same b (h.foot b hb2).2.1 (h.foot b hb2).2.2.1;have own:∀b,va.ownBlock=some b->b<w.heap.size:=λb e=>(h.fa.lt e).2;have o1:∀b,vl.ownBlock=some b->b<w.heap.size/\va.ownBlock≠some b/\g≠b:=λb e=>by
  have hl:=(h.fl.lt e).2;have hn:va.ownBlock≠some b:=λe2=>((h.ne b).1 e2).1 e;refine⟨hl,hn,λe2=>?_⟩;subst e2;rcases hat with e3|e3
  .exact hn e3
  .omega
 have o2:∀b,vd.ownBlock=some b->b<w.heap.size/\va.ownBlock≠some b/\g≠b:=λb e=>by
  have hl:=(h.fd.lt e).2;have hn:va.ownBlock≠some b:=λe2=>((h.ne b).1 e2).2 e;refine⟨hl,hn,λe2=>?_⟩;subst e2;rcases hat with e3|e3
  .exact hn e3
  .omega
 refine⟨OL.push (r:=dD) hrep hown.1 h5 (λb hb2=>⟨.inl hb2,hF b hb2⟩) (aG.mono (λb hb2=>⟨.inr hb2,hg.block b (hN b hb2).2 λe=>by have:=own b e.symm;have:=(hN b hb2).1;omega⟩) _ _ _ hx),(h.fl.keep (λb e=>same b (o1 b e).1 (o1 b e).2.1) hF).mono λb hb2=>.inl hb2,(h.fd.keep (λb e=>same b (o2 b e).1 (o2 b e).2.1) hF).mono λb hb2=>.inl hb2,h.nx,λb=>⟨λe=>?_,λe=>?_⟩,λb hb2=>?_⟩
 .obtain rfl:g=b:=Option.some.inj e;exact⟨λe2=>(o1 g e2).2.2 rfl,λe2=>(o2 g e2).2.2 rfl⟩
 .exact(h.ne b).2 e
 rcases hb2 with hb2|hb2
 .obtain⟨f1,f2,f3,f4,f5⟩:=h.foot b hb2;exact⟨f1,by omega,λe=>by
   obtain rfl:g=b:=Option.some.inj e;rcases hat with e3|e3
   .exact f3 e3
   .omega,
   f4,
   f5⟩
 .obtain⟨f1,f2⟩:=hN b hb2;exact⟨by omega,by omega,λe=>by
   obtain rfl:g=b:=Option.some.inj e;rcases hat with e3|e3
   .have:=own g e3;omega
   .omega,
   λe=>by have:=(o1 b e).1;omega,
   λe=>by have:=(o2 b e).1;omega⟩
theorem Sn.amy{B:Nat}{w w0 w5:World}{va vl vd:Value}{x:aQ}{F N:Nat->Prop}(h:Sn B w va vl vd x F)(hB:B<=w.heap.size)(hb:Below w.heap.size w w0){y:aT}{xs ys:List Value}(hown:w.ownsRow B 51 5 vl x.2.1.length xs)
 (hrep:∀i z,x.2.1[i]? =some z->aG w.heap F fA ((xs.drop (i*5)).take 5) z) {g cap:Nat} (h5:w5.ownsRow B 51 5 (.slice (some ⟨g,0,none⟩) (x.2.1.length+1) cap) (x.2.1.length+1) (xs++ys)) (hg:w0.grownBy w5 vl.ownBlock) (hat:vl.ownBlock=some g\/g=w0.heap.size) (hlt:g<w5.heap.size)
 (hN:∀b,N b->w.heap.size<=b/\b<w0.heap.size) (hx:aG w0.heap N fA ys y):Sn B w5 va (.slice (some ⟨g,0,none⟩) (x.2.1.length+1) cap) vd (x.1,x.2.1++[y],x.2.2.1,x.2.2.2.1,()) (λb=>F b\/N b):=by
 have hs0:=hb.size;have hs5:=hg.size;have same:∀b,b<w.heap.size->vl.ownBlock≠some b->w5.heap[b]? =w.heap[b]? :=λb hlb hnb=>(hg.block b (apd hlb hs0) (λe=>hnb e.symm)).trans (hb.block b hlb);have hF:∀b,F b->w5.heap[b]? =w.heap[b]? :=λb hb2=>same b (h.foot b hb2).2.1 (h.foot b hb2).2.2.2.1;have own:∀b,vl.ownBlock=some b->b<w.heap.size:=λb e=>(h.fl.lt e).2;have o1:∀b,va.ownBlock=some b->b<w.heap.size/\vl.ownBlock≠some b/\g≠b:=λb e=>by
  have hl:=(h.fa.lt e).2;have hn:vl.ownBlock≠some b:=λe2=>((h.ne b).1 e).1 e2;refine⟨hl,hn,λe2=>?_⟩;subst e2;rcases hat with e3|e3
  .exact hn e3
  .omega
 have o2:∀b,vd.ownBlock=some b->b<w.heap.size/\vl.ownBlock≠some b/\g≠b:=λb e=>by
  have hl:=(h.fd.lt e).2;have hn:vl.ownBlock≠some b:=λe2=>(h.ne b).2 e2 e;refine⟨hl,hn,λe2=>?_⟩;subst e2;rcases hat with e3|e3
  .exact hn e3
  .omega
 refine⟨(h.fa.keep (λb e=>same b (o1 b e).1 (o1 b e).2.1) hF).mono λb hb2=>.inl hb2,OL.push (r:=fA) hrep hown.1 h5 (λb hb2=>⟨.inl hb2,hF b hb2⟩) (aG.mono (λb hb2=>⟨.inr hb2,hg.block b (hN b hb2).2 λe=>by have:=own b e.symm;have:=(hN b hb2).1;omega⟩) _ _ _ hx),(h.fd.keep (λb e=>same b (o2 b e).1 (o2 b e).2.1) hF).mono λb hb2=>.inl hb2,h.nx,λb=>⟨λe=>?_,λe=>?_⟩,λb hb2=>?_⟩
 .exact⟨λe2=>(o1 b e).2.2 (Option.some.inj e2),((h.ne b).1 e).2⟩
 .obtain rfl:g=b:=Option.some.inj e;exactλe2=>(o2 g e2).2.2 rfl
 rcases hb2 with hb2|hb2
 .obtain⟨f1,f2,f3,f4,f5⟩:=h.foot b hb2;exact⟨f1,by omega,f3,
   λe=>by
   obtain rfl:g=b:=Option.some.inj e;rcases hat with e3|e3
   .exact f4 e3
   .omega,
   f5⟩
 .obtain⟨f1,f2⟩:=hN b hb2;exact⟨by omega,by omega,λe=>by have:=(o1 b e).1;omega,
   λe=>by
   obtain rfl:g=b:=Option.some.inj e;rcases hat with e3|e3
   .have:=own g e3;omega
   .omega,
   λe=>by have:=(o2 b e).1;omega⟩
theorem Sn.amz{B:Nat}{w w0 w5:World}{va vl vd:Value}{x:aQ}{F N:Nat->Prop}(h:Sn B w va vl vd x F)(hB:B<=w.heap.size)(hb:Below w.heap.size w w0){y:bf}{xs ys:List Value}(hown:w.ownsRow B 93 2 vd x.2.2.2.1.length xs)
 (hrep:∀i z,x.2.2.2.1[i]? =some z->aG w.heap F dX ((xs.drop (i*2)).take 2) z) {g cap:Nat} (h5:w5.ownsRow B 93 2 (.slice (some ⟨g,0,none⟩) (x.2.2.2.1.length+1) cap) (x.2.2.2.1.length+1) (xs++ys)) (hg:w0.grownBy w5 vd.ownBlock) (hat:vd.ownBlock=some g\/g=w0.heap.size) (hlt:g<w5.heap.size)
 (hN:∀b,N b->w.heap.size<=b/\b<w0.heap.size) (hx:aG w0.heap N dX ys y):Sn B w5 va vl (.slice (some ⟨g,0,none⟩) (x.2.2.2.1.length+1) cap) (x.1,x.2.1,x.2.2.1,x.2.2.2.1++[y],()) (λb=>F b\/N b):=by
 have hs0:=hb.size;have hs5:=hg.size;have same:∀b,b<w.heap.size->vd.ownBlock≠some b->w5.heap[b]? =w.heap[b]? :=λb hlb hnb=>(hg.block b (apd hlb hs0) (λe=>hnb e.symm)).trans (hb.block b hlb);have hF:∀b,F b->w5.heap[b]? =w.heap[b]? :=λb hb2=>same b (h.foot b hb2).2.1 (h.foot b hb2).2.2.2.2;have own:∀b,vd.ownBlock=some b->b<w.heap.size:=λb e=>(h.fd.lt e).2;have o1:∀b,va.ownBlock=some b->b<w.heap.size/\vd.ownBlock≠some b/\g≠b:=λb e=>by
  have hl:=(h.fa.lt e).2;have hn:vd.ownBlock≠some b:=λe2=>((h.ne b).1 e).2 e2;refine⟨hl,hn,λe2=>?_⟩;subst e2;rcases hat with e3|e3
  .exact hn e3
  .omega
 have o2:∀b,vl.ownBlock=some b->b<w.heap.size/\vd.ownBlock≠some b/\g≠b:=λb e=>by
  have hl:=(h.fl.lt e).2;have hn:vd.ownBlock≠some b:=λe2=>(h.ne b).2 e e2;refine⟨hl,hn,λe2=>?_⟩;subst e2;rcases hat with e3|e3
  .exact hn e3
  .omega
 refine⟨(h.fa.keep (λb e=>same b (o1 b e).1 (o1 b e).2.1) hF).mono λb hb2=>.inl hb2,(h.fl.keep (λb e=>same b (o2 b e).1 (o2 b e).2.1) hF).mono λb hb2=>.inl hb2,OL.push (r:=dX) hrep hown.1 h5 (λb hb2=>⟨.inl hb2,hF b hb2⟩) (aG.mono (λb hb2=>⟨.inr hb2,hg.block b (hN b hb2).2 λe=>by have:=own b e.symm;have:=(hN b hb2).1;omega⟩) _ _ _ hx),h.nx,λb=>⟨λe=>?_,λe=>?_⟩,λb hb2=>?_⟩
 .exact⟨((h.ne b).1 e).1,λe2=>(o1 b e).2.2 (Option.some.inj e2)⟩
 .exactλe2=>(o2 b e).2.2 (Option.some.inj e2)
 rcases hb2 with hb2|hb2
 .obtain⟨f1,f2,f3,f4,f5⟩:=h.foot b hb2;exact⟨f1,by omega,f3,
   f4,
   λe=>by
   obtain rfl:g=b:=Option.some.inj e;rcases hat with e3|e3
   .exact f5 e3
   .omega⟩
 .obtain⟨f1,f2⟩:=hN b hb2;exact⟨by omega,by omega,λe=>by have:=(o1 b e).1;omega,
   λe=>by have:=(o2 b e).1;omega,
   λe=>by
   obtain rfl:g=b:=Option.some.inj e;rcases hat with e3|e3
   .have:=own g e3;omega
   .omega⟩
end Go.Proofs.Tryz
namespace Go.Proofs.Tryz
open Go Go.Fw Go.RowKit Sp
set_option maxRecDepth 100000
theorem FW.cell{B:Nat}{w:World}{a:Option Addr}{c:Nat}{f:Sp.LS}(h:FW B w (.slice a f.length c) f){n:Nat}(hn:n<f.length):∃b off,a=some ⟨b,off,none⟩/\b<B/\w.cell? ⟨b,off+n,none⟩=some (.string ⟨(f.getD n ([],())).1.toArray⟩):=by
 rcases h.2 with⟨rfl,_⟩|⟨b,off,cap,cs,t,fz,e,e2,e3,e4,e5⟩
 .exact absurd hn (apP _)
 .injection e with ea;refine⟨b,off,ea,e3,?_⟩;have hx:f[n]? =some (f.getD n ([],())):=by rw[aoN,aoQ hn];rfl
  generalize f.getD n ([],())=x at hx ⊢;obtain⟨u,us,e6,⟨e7,_⟩,_⟩:=e5 n x hx;rw[ak e4,← e7];have h0:=congrArg (λl=>l[0]?) e6;have h0:((cs.toList.drop (off+n*1)).take 1)[0]? =some u:=h0;simpa[apm,apo]using h0
def adx:Value:=.agg #[.string ⟨#[]⟩,.int .i64 0]
def ah0:Value:=.agg #[.int .i64 0,.int .i64 0,.bool false,.int .i64 0,.slice none 0 0]
def ah1:Value:=.agg #[.string ⟨#[]⟩,.slice none 0 0]
theorem alp:(prog.info? 54).map (λi=>(i.zero,i.size,i.bytes))=some (some adx,2,24):=by kernel_rfl
theorem alq:(prog.info? 51).map (λi=>(i.zero,i.size,i.bytes))=some (some ah0,5,56):=by kernel_rfl
theorem alr:(prog.info? 93).map (λi=>(i.zero,i.size,i.bytes))=some (some ah1,2,40):=by kernel_rfl
structure Kp(B P:Nat)(W w:World):Prop where
 os:w.os=W.os
 tape:w.tape=W.tape
 output:w.output=W.output
 size:W.heap.size<=w.heap.size
 block:∀b,b<B->b≠P->w.heap[b]? =W.heap[b]?
theorem Kp.below{B P:Nat}{W w w':World}(hB:B<=W.heap.size)(h:Kp B P W w)(k:Below w.heap.size w w'):Kp B P W w':=
 ⟨k.os.trans h.os,k.tape.trans h.tape,k.output.trans h.output,aoW h.size k.size,λb hb hn=>(k.block b (by have:=h.size;omega)).trans (h.block b hb hn)⟩
theorem Kp.set{B P:Nat}{W w:World}(h:Kp B P W w){k:Nat}{v:Value}:Kp B P W (w.setCell ⟨P,k,none⟩ v):=
 ⟨h.os,h.tape,h.output,by simpa[World.setCell]using h.size,λb hb hn=>(Gg v hn).trans (h.block b hb hn)⟩
theorem Kp.grown{B P:Nat}{W w w':World}(hB:B<=W.heap.size)(h:Kp B P W w){o:Option Nat}(k:w.grownBy w' o)(ho:∀b,o=some b->B<=b):Kp B P W w':=
 ⟨k.os.trans h.os,k.tape.trans h.tape,k.output.trans h.output,aoW h.size k.size,λb hb hn=>(k.block b (by have:=h.size;omega) λe=>by have:=ho b e.symm;omega).trans (h.block b hb hn)⟩
def Held(B P:Nat)(w:World)(x:aQ):Prop:=∃va vl vd F,w.heap[P]? =some (.cells #[va,vl,.int .i64 x.2.2.1,vd] 33 (0,0))/\Sn B w va vl vd x F
theorem four{w:World}{g:Nat}{x0 x1 x2 x3:Value}{t:TypeId}(h:w.heap[g]? =some (.cells #[x0,x1,x2,x3] t (0,0))):
 (w.cell? ⟨g,0,none⟩=some x0/\w.cell? ⟨g,1,none⟩=some x1/\w.cell? ⟨g,2,none⟩=some x2/\w.cell? ⟨g,3,none⟩=some x3)/\w.frozen? ⟨g,0,none⟩=false/\w.frozen? ⟨g,1,none⟩=false/\w.frozen? ⟨g,2,none⟩=false/\w.frozen? ⟨g,3,none⟩=false:=
 ⟨⟨ak h 0,ak h 1,ak h 2,ak h 3⟩,bI h 0,bI h 1,bI h 2,bI h 3⟩
theorem Held.below{B P:Nat}{w w':World}{x:aQ}(h:Held B P w x)(k:Below w.heap.size w w'):Held B P w' x:=by obtain⟨va,vl,vd,F,h1,h2⟩:=h;exact⟨va,vl,vd,F,(k.block P (aoV.1 h1).1).trans h1,h2.below k⟩
theorem Kp.of{B P:Nat}{W w:World}(hB:B<=W.heap.size)(k:Below W.heap.size W w):Kp B P W w:=⟨k.os,k.tape,k.output,k.size,λb hb _=>k.block b (by omega)⟩
set_option maxHeartbeats 16000000 in
theorem akG(B P:Nat)(W:World)(x:aQ)(x0:List UInt8)(r:Sp.LS)(line:List UInt8)(hl:line.length<=1000)(hf:Sp.pieces 32 line=(x0,())::r)(hG:G.ok W)(hS:Held B P W x)(hB:B<=W.heap.size)
 (h1:¬x0=[102,105,101,108,100]\/((r.length:Int)+1==3)=false) (h2:¬x0=[110,101,120,116]\/((r.length:Int)+1==2)=false) (h3:¬x0=[102,105,108,101]) (h4:¬x0=[100,105,114]\/¬(2:Int)<(r.length:Int)+1):
 Calls prog 60 #[.pointer (some ⟨P,0,none⟩),.string ⟨line.toArray⟩] W λe w'=>e=.returned (.bool false)/\Held B P w' x/\Kp B P W w':=by
 have mixed:=Tryz.mixed;have sp:=CX 32 (.inl rfl) line (by omega) W hG;rw[hf]at sp;clear hf;by_cases k1:x0=[102,105,101,108,100]
 .subst k1;have hn:((r.length:Int)+1==3)=false:=h1.elim (λh=>absurd rfl h) id;clear h1 h2 h3 h4
  go_enter Tryz.func60,Tryz.ntmps60
  go_wp2_with (first
   |(go_at_call 86;refine apN sp ?_;rintro e w1 ⟨v1,rfl,hf1,hb1⟩;obtain⟨a1,c1,e1⟩:=o6 hf1;have e1:v1=.slice a1 (r.length+1) c1:=e1;subst e1;obtain⟨b2,o2,e2,-,cw⟩:=FW.cell (a:=a1) (c:=c1) (f:=([102,105,101,108,100],())::r) hf1 (n:=0) (ap5 _);subst e2;have cw:w1.cell? ⟨b2,o2,none⟩=some (.string ⟨([102,105,101,108,100]:List UInt8).toArray⟩):=cw;clear sp))
  all_goals go_ret
  all_goals exact⟨rfl,hS.below hb1,Kp.of hB hb1⟩
 by_cases k2:x0=[110,101,120,116]
 .subst k2;have hn:((r.length:Int)+1==2)=false:=h2.elim (λh=>absurd rfl h) id;clear h1 h2 h3 h4
  go_enter Tryz.func60,Tryz.ntmps60
  go_wp2_with (first
   |(go_at_call 86;refine apN sp ?_;rintro e w1 ⟨v1,rfl,hf1,hb1⟩;obtain⟨a1,c1,e1⟩:=o6 hf1;have e1:v1=.slice a1 (r.length+1) c1:=e1;subst e1;obtain⟨b2,o2,e2,-,cw⟩:=FW.cell (a:=a1) (c:=c1) (f:=([110,101,120,116],())::r) hf1 (n:=0) (ap5 _);subst e2;have cw:w1.cell? ⟨b2,o2,none⟩=some (.string ⟨([110,101,120,116]:List UInt8).toArray⟩):=cw;clear sp))
  all_goals go_ret
  all_goals exact⟨rfl,hS.below hb1,Kp.of hB hb1⟩
 by_cases k4:x0=[100,105,114]
 .subst k4;have hn:¬(2:Int)<(r.length:Int)+1:=h4.elim (λh=>absurd rfl h) id;clear h1 h2 h3 h4
  go_enter Tryz.func60,Tryz.ntmps60
  go_wp2_with (first
   |(go_at_call 86;refine apN sp ?_;rintro e w1 ⟨v1,rfl,hf1,hb1⟩;obtain⟨a1,c1,e1⟩:=o6 hf1;have e1:v1=.slice a1 (r.length+1) c1:=e1;subst e1;obtain⟨b2,o2,e2,-,cw⟩:=FW.cell (a:=a1) (c:=c1) (f:=([100,105,114],())::r) hf1 (n:=0) (ap5 _);subst e2;have cw:w1.cell? ⟨b2,o2,none⟩=some (.string ⟨([100,105,114]:List UInt8).toArray⟩):=cw;clear sp))
  all_goals go_ret
  all_goals exact⟨rfl,hS.below hb1,Kp.of hB hb1⟩
 have g1:(x0==[102,105,101,108,100])=false:=aoL.2 k1;have g2:(x0==[110,101,120,116])=false:=aoL.2 k2;have g3:(x0==[102,105,108,101])=false:=aoL.2 h3;have g4:(x0==[100,105,114])=false:=aoL.2 k4;clear h1 h2 h4
 go_enter Tryz.func60,Tryz.ntmps60
 go_wp2_with (first
  |(go_at_call 86;refine apN sp ?_;rintro e w1 ⟨v1,rfl,hf1,hb1⟩;obtain⟨a1,c1,e1⟩:=o6 hf1;have e1:v1=.slice a1 (r.length+1) c1:=e1;subst e1;obtain⟨b2,o2,e2,-,cw⟩:=FW.cell (a:=a1) (c:=c1) (f:=(x0,())::r) hf1 (n:=0) (ap5 _);subst e2;have cw:w1.cell? ⟨b2,o2,none⟩=some (.string ⟨(x0:List UInt8).toArray⟩):=cw;clear sp))
 all_goals go_ret
 all_goals exact⟨rfl,hS.below hb1,Kp.of hB hb1⟩
theorem Sn.next{B:Nat}{w:World}{va vl vd:Value}{x:aQ}{F:Nat->Prop}(h:Sn B w va vl vd x F){n:Int}(hn:zk n):Sn B w va vl vd (x.1,x.2.1,n,x.2.2.2.1,()) F:=⟨h.fa,h.fl,h.fd,hn,h.ne,h.foot⟩
theorem Sn.set{B P k:Nat}{w:World}{va vl vd v:Value}{x:aQ}{F:Nat->Prop}(h:Sn B w va vl vd x F)(hP:P<B):Sn B (w.setCell ⟨P,k,none⟩ v) va vl vd x F:=
 h.keep (by simp[World.setCell]) λb hb _=>Gg v (by show b≠P;omega)
theorem ah2(s:List UInt8):zk (Sp.parseNum s):=by have:=gG.1 (Ar s);exact⟨by omega,by omega⟩
set_option maxHeartbeats 16000000 in
theorem ah3(B P:Nat)(W:World)(x:aQ)(y:List UInt8)(line:List UInt8)(hl:line.length<=1000)(hf:Sp.pieces 32 line=[(tN,()),(y,())])(hG:G.ok W)(hS:Held B P W x)(LJ:P<B)(hB:B<=W.heap.size):
 Calls prog 60 #[.pointer (some ⟨P,0,none⟩),.string ⟨line.toArray⟩] W λe w'=>e=.returned (.bool (aU y))/\Held B P w' (x.1,x.2.1,Sp.parseNum y,x.2.2.2.1,())/\Kp B P W w':=by
 have mixed:=Tryz.mixed;obtain⟨va,vl,vd,F,hP,Ew⟩:=hS;have hPl:=(aoV.1 hP).1;have sp:=CX 32 (.inl rfl) line (by omega) W hG;have hy:y.length<=1000:=aoW (yM (c:=32) (s:=line) (y,()) (by rw[hf];simp)) hl;rw[hf]at sp;clear hf;unfold tN at sp;have pu:=λw hG=>akC y (by omega) w hG;have hno:=ah2 y;generalize Sp.parseNum y=n at pu hno ⊢;generalize aU y=ok at pu ⊢
 go_enter Tryz.func60,Tryz.ntmps60
 go_wp2_with (first
  |(go_at_call 86;refine apN sp ?_;rintro e w1 ⟨v1,rfl,hf1,hb1⟩;obtain⟨a1,c1,e1⟩:=o6 hf1;have e1:v1=.slice a1 2 c1:=e1;subst e1;obtain⟨b2,o2,e2,-,cw⟩:=FW.cell (a:=a1) (c:=c1) (f:=[([110,101,120,116],()),(y,())]) hf1 (n:=0) (by simp);subst e2;have cw:w1.cell? ⟨b2,o2,none⟩=some (.string ⟨([110,101,120,116]:List UInt8).toArray⟩):=cw;obtain⟨b3,o3,e3,-,OV⟩:=FW.cell (a:=some ⟨b2,o2,none⟩) (c:=c1) (f:=[([110,101,120,116],()),(y,())]) hf1 (n:=1) (by simp);cases e3;have OV:w1.cell? ⟨b2,o2+1,none⟩=some (.string ⟨(y:List UInt8).toArray⟩):=OV;clear sp)
  |(go_at_call 87;refine apN (pu w1 (iR hG hb1)) ?_;rintro e w2 ⟨rfl,hb2⟩;have ZN:=hb1.trans (hb2.mono hb1.size);have hP2:=(ZN.block P hPl).trans hP;obtain⟨⟨d0,d1,d2,d3⟩,z0,z1,z2,z3⟩:=four hP2))
 all_goals go_ret
 all_goals exact⟨rfl,⟨va,vl,vd,F,fF hP2 2 _,(((Ew.below ZN).next hno).set LJ)⟩,(Kp.of hB ZN).set⟩
set_option maxHeartbeats 16000000 in
theorem agx(B P:Nat)(W:World)(x:aQ)(y k3:List UInt8)(line:List UInt8)(hl:line.length<=1000)(hf:Sp.pieces 32 line=[(iJ,()),(y,()),(k3,())])(hG:G.ok W)(hS:Held B P W x)(LJ:P<B)(hB:B<=W.heap.size)(hz:x.1.length<=200):
 Calls prog 60 #[.pointer (some ⟨P,0,none⟩),.string ⟨line.toArray⟩] W λe w'=>e=.returned (.bool true)/\Held B P w' (x.1++[(y,(bif k3==pz then 2 else 1),())],x.2.1,x.2.2.1,x.2.2.2.1,())/\Kp B P W w':=by
 have mixed:=Tryz.mixed;obtain⟨va,vl,vd,F,hP,Ew⟩:=hS;have hPl:=(aoV.1 hP).1;have sp:=CX 32 (.inl rfl) line (by omega) W hG;have hy:y.length<=1000:=aoW (yM (c:=32) (s:=line) (y,()) (by rw[hf];simp)) hl;rw[hf]at sp;clear hf;unfold iJ at sp;obtain⟨i0,hi,hz0,hz1,hz2⟩:=ap7 alp;have hqm:x.1.length+1<=maxLen:=by rw[maxLen_eq];omega
 have qZ:(x.1.length+1)*24<=140737488355328:=by omega
 by_cases hk:k3=[115,116,114,105,110,103]
 .subst hk;rw[show(([115,116,114,105,110,103]:List UInt8)==pz)=true from rfl]
  go_enter Tryz.func60,Tryz.ntmps60
  go_wp2_with (first
   |(go_at_call 86;refine apN sp ?_;rintro e w1 ⟨v1,rfl,hf1,hb1⟩;obtain⟨a1,c1,e1⟩:=o6 hf1;have e1:v1=.slice a1 3 c1:=e1;subst e1;obtain⟨b2,o2,e2,-,cw⟩:=FW.cell (a:=a1) (c:=c1) (f:=[([102,105,101,108,100],()),(y,()),([115,116,114,105,110,103],())]) hf1 (n:=0) (by simp);subst e2;have cw:w1.cell? ⟨b2,o2,none⟩=some (.string ⟨([102,105,101,108,100]:List UInt8).toArray⟩):=cw;obtain⟨b3,o3,e3,-,OV⟩:=FW.cell (a:=some ⟨b2,o2,none⟩) (c:=c1) (f:=[([102,105,101,108,100],()),(y,()),([115,116,114,105,110,103],())]) hf1 (n:=1) (by simp);cases e3;have OV:w1.cell? ⟨b2,o2+1,none⟩=some (.string ⟨(y:List UInt8).toArray⟩):=OV;obtain⟨b3,o3,e3,-,cw4⟩:=FW.cell (a:=some ⟨b2,o2,none⟩) (c:=c1) (f:=[([102,105,101,108,100],()),(y,()),([115,116,114,105,110,103],())]) hf1 (n:=2) (by simp);cases e3;have cw4:w1.cell? ⟨b2,o2+2,none⟩=some (.string ⟨([115,116,114,105,110,103]:List UInt8).toArray⟩):=cw4;have hP1:=(hb1.block P hPl).trans hP;obtain⟨⟨d0,d1,d2,d3⟩,z0,z1,z2,z3⟩:=four hP1;have um:=Ew.below hb1;have lY:P<w1.heap.size:=(aoV.1 hP1).1;clear sp))
  obtain⟨xs,hown,hrep⟩:=um.fa;have hown:w1.ownsRow B 54 2 va x.1.length xs:=hown;have hrep:∀i z,x.1[i]? =some z->aG w1.heap F dD ((xs.drop (i*2)).take 2) z:=hrep;have qJ:va.ownBlock≠some P:=λe=>by have:=(um.fa.lt e).1;omega
  have hBr:B<=w1.heap.size:=aoW hB hb1.size
  go_region_law (refine step_append_lies _ rfl (.tmp 34) (.tmp 40) 26 rfl B 54 i0 adx 2 24 Tryz.underlying26 hi hz0 hz1 hz2 rfl (by decide) va x.1.length xs (by simp[Act.eval]) ((apC hown).alloc _) ⟨w1.heap.size,0,none⟩ 1 1 [.string ⟨y.toArray⟩,.int .i64 2] (by simp[Act.eval]) rfl (World.news_of_block (apv _ _)) (by intro u hu;simp at hu;rcases hu with rfl|rfl<;>rfl) (by decide) hqm qZ (by simp;omega) _ rfl ?_;intro g cap w5 hown5 dB lZ l7;have iU:=(dB.block P (by simp;omega) (λe=>qJ e.symm)).trans ((heap_alloc_old w1.drew _ lY).trans hP1);have k5:w5.cell? ⟨P,0,none⟩=some va:=ak iU 0;have z5:=bI iU 0)
  all_goals go_wp2
  all_goals go_ret
  all_goals exact⟨rfl,⟨_,vl,vd,_,fF iU 0 _,((um.ajW (y:=(y,2,())) hBr (((Below.refl _ w1).drew).alloc (aoP _) _) hown hrep hown5 dB lZ l7 (N:=λ_=>False) (λb hb=>hb.elim) ⟨_,_,rfl,⟨rfl,by rw[maxLen_eq];omega⟩,_,_,rfl,⟨rfl,by decide,by decide⟩,rfl⟩).set LJ)⟩,(((Kp.of hB hb1).below hB (((Below.refl _ w1).drew).alloc (aoP _) _)).grown hB dB (λb e=>(um.fa.lt e).1)).set⟩
 .have g3:(k3==[115,116,114,105,110,103])=false:=aoL.2 hk;rw[show(k3==pz)=false from g3]
  go_enter Tryz.func60,Tryz.ntmps60
  go_wp2_with (first
   |(go_at_call 86;refine apN sp ?_;rintro e w1 ⟨v1,rfl,hf1,hb1⟩;obtain⟨a1,c1,e1⟩:=o6 hf1;have e1:v1=.slice a1 3 c1:=e1;subst e1;obtain⟨b2,o2,e2,-,cw⟩:=FW.cell (a:=a1) (c:=c1) (f:=[([102,105,101,108,100],()),(y,()),(k3,())]) hf1 (n:=0) (by simp);subst e2;have cw:w1.cell? ⟨b2,o2,none⟩=some (.string ⟨([102,105,101,108,100]:List UInt8).toArray⟩):=cw;obtain⟨b3,o3,e3,-,OV⟩:=FW.cell (a:=some ⟨b2,o2,none⟩) (c:=c1) (f:=[([102,105,101,108,100],()),(y,()),(k3,())]) hf1 (n:=1) (by simp);cases e3;have OV:w1.cell? ⟨b2,o2+1,none⟩=some (.string ⟨(y:List UInt8).toArray⟩):=OV;obtain⟨b3,o3,e3,-,cw4⟩:=FW.cell (a:=some ⟨b2,o2,none⟩) (c:=c1) (f:=[([102,105,101,108,100],()),(y,()),(k3,())]) hf1 (n:=2) (by simp);cases e3;have cw4:w1.cell? ⟨b2,o2+2,none⟩=some (.string ⟨(k3:List UInt8).toArray⟩):=cw4;have hP1:=(hb1.block P hPl).trans hP;obtain⟨⟨d0,d1,d2,d3⟩,z0,z1,z2,z3⟩:=four hP1;have um:=Ew.below hb1;have lY:P<w1.heap.size:=(aoV.1 hP1).1;clear sp))
  obtain⟨xs,hown,hrep⟩:=um.fa;have hown:w1.ownsRow B 54 2 va x.1.length xs:=hown;have hrep:∀i z,x.1[i]? =some z->aG w1.heap F dD ((xs.drop (i*2)).take 2) z:=hrep;have qJ:va.ownBlock≠some P:=λe=>by have:=(um.fa.lt e).1;omega
  have hBr:B<=w1.heap.size:=aoW hB hb1.size
  go_region_law (refine step_append_lies _ rfl (.tmp 34) (.tmp 40) 26 rfl B 54 i0 adx 2 24 Tryz.underlying26 hi hz0 hz1 hz2 rfl (by decide) va x.1.length xs (by simp[Act.eval]) ((apC hown).alloc _) ⟨w1.heap.size,0,none⟩ 1 1 [.string ⟨y.toArray⟩,.int .i64 1] (by simp[Act.eval]) rfl (World.news_of_block (apv _ _)) (by intro u hu;simp at hu;rcases hu with rfl|rfl<;>rfl) (by decide) hqm qZ (by simp;omega) _ rfl ?_;intro g cap w5 hown5 dB lZ l7;have iU:=(dB.block P (by simp;omega) (λe=>qJ e.symm)).trans ((heap_alloc_old w1.drew _ lY).trans hP1);have k5:w5.cell? ⟨P,0,none⟩=some va:=ak iU 0;have z5:=bI iU 0)
  all_goals go_wp2
  all_goals go_ret
  all_goals exact⟨rfl,⟨_,vl,vd,_,fF iU 0 _,((um.ajW (y:=(y,1,())) hBr (((Below.refl _ w1).drew).alloc (aoP _) _) hown hrep hown5 dB lZ l7 (N:=λ_=>False) (λb hb=>hb.elim) ⟨_,_,rfl,⟨rfl,by rw[maxLen_eq];omega⟩,_,_,rfl,⟨rfl,by decide,by decide⟩,rfl⟩).set LJ)⟩,(((Kp.of hB hb1).below hB (((Below.refl _ w1).drew).alloc (aoP _) _)).grown hB dB (λb e=>(um.fa.lt e).1)).set⟩
end Go.Proofs.Tryz
namespace Go.Proofs.Tryz
open Go Go.Fw Go.RowKit Sp
set_option maxRecDepth 100000
theorem FW.tail{B:Nat}{w:World}{b off cap:Nat}{x:List UInt8×Unit}{r:Sp.LS}(h:FW B w (.slice (some ⟨b,off,none⟩) (r.length+1) cap) (x::r)):(cap=1->FW B w (.slice (some ⟨b,off,none⟩) r.length 0) r)/\(¬cap=1->FW B w (.slice (some ⟨b,off+1,none⟩) r.length (cap-1)) r):=by
 have hm:r.length+1<=maxLen:=h.1;rcases h.2 with⟨e,_⟩|⟨b',off',cap',cs,t,fz,e,e2,e3,e4,e5⟩
 .cases e
 .cases e;have e2:r.length+1<=cap:=e2;refine⟨λh1=>⟨by omega,.inl ⟨apE.1 (by omega),?_⟩⟩,λ_=>⟨by omega,.inr ⟨b,off+1,cap-1,cs,t,fz,rfl,by omega,e3,e4,λi y hy=>?_⟩⟩⟩
  .exact⟨_,_,by rw[show r.length=0 by omega]⟩
  .have:=e5 (i+1) y (by simpa using hy);rw[show off+1+i*fP.len=off+(i+1)*fP.len by show off+1+i*1=off+(i+1)*1;omega];exact this
set_option maxHeartbeats 16000000 in
theorem ah5(B P:Nat)(W:World)(x:aQ)(r:Sp.LS)(line:List UInt8)(hl:line.length<=1000)(hf:Sp.pieces 32 line=(lK,())::r)(hG:G.ok W)(hS:Held B P W x)(LJ:P<B)(hB:B<=W.heap.size)(hz:x.2.1.length<=200):
 Calls prog 60 #[.pointer (some ⟨P,0,none⟩),.string ⟨line.toArray⟩] W λe w'=>e=.returned (.bool (iQ r).2)/\Held B P w' (x.1,x.2.1++[(iQ r).1],x.2.2.1,x.2.2.2.1,())/\Kp B P W w':=by
 have mixed:=Tryz.mixed;obtain⟨va,vl,vd,F,hP,Ew⟩:=hS;have hPl:=(aoV.1 hP).1;have sp:=CX 32 (.inl rfl) line (by omega) W hG;have hwl:∀x∈r,x.1.length<=1048576:=λy hy=>aoW (yM (c:=32) (s:=line) y (by rw[hf];exact aoR _ hy)) (by omega);have hrl:r.length<=1000:=by have:=Sp.pieces_len 32 line;rw[hf,aoO]at this;omega
 rw[hf]at sp;clear hf;unfold lK at sp;have fi:=λv w hv hG=>akD v r w hv hrl hwl hG;generalize iQ r=fr at fi ⊢;obtain⟨⟨id,ow,sh,lk,at',⟨⟩⟩,ok⟩:=fr;dsimp only at fi;obtain⟨i0,hi,hz0,hz1,hz2⟩:=ap7 alq;have hqm:x.2.1.length+1<=maxLen:=by rw[maxLen_eq];omega
 have qZ:(x.2.1.length+1)*56<=140737488355328:=by omega
 go_enter Tryz.func60,Tryz.ntmps60
 go_wp2_with (first
  |(go_at_call 86;refine apN sp ?_;rintro e w1 ⟨v1,rfl,hf1,hb1⟩;obtain⟨a1,c1,e1⟩:=o6 hf1;have e1:v1=.slice a1 (r.length+1) c1:=e1;subst e1;obtain⟨b2,o2,e2,-,cw⟩:=FW.cell (a:=a1) (c:=c1) (f:=([102,105,108,101],())::r) hf1 (n:=0) (by simp);subst e2;have cw:w1.cell? ⟨b2,o2,none⟩=some (.string ⟨([102,105,108,101]:List UInt8).toArray⟩):=cw;obtain⟨ht1,ht2⟩:=hf1.tail;have hG1:=iR hG hb1;clear sp hf1)
  |(go_at_call 106;(first|refine apN (fi _ _ (ht1 (by assumption)) hG1) ?_|refine apN (fi _ _ (ht2 (by assumption)) hG1) ?_);rintro e w2 ⟨a6,c6,rfl,hb2,hra,n1,n2,n4⟩;have ZN:=hb1.trans (hb2.mono hb1.size)))
 all_goals
  have um:=Ew.below hb1;obtain⟨xs,hown1,Ob⟩:=um.fl;have hown1:w1.ownsRow B 51 5 vl x.2.1.length xs:=hown1;have Ob:∀i z,x.2.1[i]? =some z->aG w1.heap F fA ((xs.drop (i*5)).take 5) z:=Ob;have hs1:=hb1.size;have hs2:=hb2.size;have qJ:vl.ownBlock≠some P:=λe=>by have:=(um.fl.lt e).1;omega
  have hBr:B<=w1.heap.size:=aoW hB hs1;have hrow:=apv w2 (Obj.cells #[.int .i64 id,.int .i64 ow,.bool sh,.int .i64 lk,.slice a6 at'.length c6] 51 (0,0));have Oc:Below w2.heap.size w2 (w2.alloc (Obj.cells #[.int .i64 id,.int .i64 ow,.bool sh,.int .i64 lk,.slice a6 at'.length c6] 51 (0,0))):=(Below.refl _ w2).alloc (aoP _) _;generalize w2.alloc (Obj.cells #[.int .i64 id,.int .i64 ow,.bool sh,.int .i64 lk,.slice a6 at'.length c6] 51 (0,0))=w3 at hrow Oc ⊢;have hs3:=Oc.size;have ajb:=hb2.trans (Oc.mono hs2);have hb3:=hb1.trans (ajb.mono hs1);have hP3:=(hb3.block P hPl).trans hP;obtain⟨⟨d0,d1,d2,d3⟩,z0,z1,z2,z3⟩:=four hP3;have e0:w3.cell? ⟨w2.heap.size,0,none⟩=some (.int .i64 id):=ak hrow 0;have e1:w3.cell? ⟨w2.heap.size,1,none⟩=some (.int .i64 ow):=ak hrow 1;have e2:w3.cell? ⟨w2.heap.size,2,none⟩=some (.bool sh):=ak hrow 2;have e3:w3.cell? ⟨w2.heap.size,3,none⟩=some (.int .i64 lk):=ak hrow 3;have e4:w3.cell? ⟨w2.heap.size,4,none⟩=some (.slice a6 at'.length c6):=ak hrow 4;have lY:P<w3.heap.size:=(aoV.1 hP3).1;have hown3:w3.ownsRow B 51 5 vl x.2.1.length xs:=Hf hown1 λb e=>ajb.block b (um.fl.lt e).2;have anI:B<=w3.heap.size:=by omega
  go_region_law (refine step_append_lies _ rfl (.tmp 84) (.tmp 86) 27 rfl B 51 i0 ah0 5 56 Tryz.underlying27 hi hz0 hz1 hz2 rfl (by decide) vl x.2.1.length xs (by simp[Act.eval]) ((apC hown3).alloc _) ⟨w3.heap.size,0,none⟩ 1 1 [.int .i64 id,.int .i64 ow,.bool sh,.int .i64 lk,.slice a6 at'.length c6] (by simp[Act.eval]) rfl (World.news_of_block (apv _ _)) (by intro u hu;simp at hu;rcases hu with rfl|rfl|rfl|rfl|rfl<;>rfl) (by decide) hqm qZ (by simp;omega) _ rfl ?_;intro g cap w5 hown5 dB lZ l7;have iU:=(dB.block P (by simp;omega) (λe=>qJ e.symm)).trans ((heap_alloc_old w3.drew _ lY).trans hP3);have k5:w5.cell? ⟨P,1,none⟩=some vl:=ak iU 1;have z5:=bI iU 1)
  all_goals go_wp2
  all_goals go_ret
  all_goals
   have hbd:Below w3.heap.size w3 (w3.drew.alloc (Obj.cells #[.int .i64 id,.int .i64 ow,.bool sh,.int .i64 lk,.slice a6 at'.length c6] 51 (0,0))):=((Below.refl _ w3).drew).alloc (aoP _) _;have ady:=ajb.trans (hbd.mono (aoW hs2 hs3));exact⟨rfl,⟨va,_,vd,_,fF iU 1 _,((um.amy (y:=(id,ow,sh,lk,at',())) hBr ady hown1 Ob hown5 dB lZ l7 (N:=λb=>w1.heap.size<=b/\b<w2.heap.size) (λb hb=>⟨hb.1,by have:=hbd.size;omega⟩)
    ⟨_,_,rfl,⟨rfl,n1⟩,_,_,rfl,⟨rfl,n2⟩,_,_,rfl,rfl,_,_,rfl,⟨rfl,n4⟩,_,_,rfl,dF.mono (λb hb=>⟨hb,(hbd.block b (by omega)).trans (Oc.block b hb.2)⟩) _ _ _ hra,rfl⟩).set LJ)⟩,(((Kp.of hB hb1).below hB ady).grown hB dB (λb e=>(um.fl.lt e).1)).set⟩
end Go.Proofs.Tryz
namespace Go.Proofs.Tryz
open Go Go.Fw Go.RowKit Sp
set_option maxRecDepth 100000
theorem FW.amA{B:Nat}{w:World}{b off cap:Nat}{x y:List UInt8×Unit}{r:Sp.LS}(h:FW B w (.slice (some ⟨b,off,none⟩) (r.length+2) cap) (x::y::r))(hr:0<r.length):¬cap=2/\FW B w (.slice (some ⟨b,off+2,none⟩) r.length (cap-2)) r:=by
 have hm:r.length+2<=maxLen:=h.1;rcases h.2 with⟨e,_⟩|⟨b',off',cap',cs,t,fz,e,e2,e3,e4,e5⟩
 .cases e
 .cases e;have e2:r.length+2<=cap:=e2;refine⟨by omega,by omega,.inr ⟨b,off+2,cap-2,cs,t,fz,rfl,by omega,e3,e4,λi z hz=>?_⟩⟩;have:=e5 (i+2) z (by simpa using hz);rw[show off+2+i*fP.len=off+(i+2)*fP.len by show off+2+i*1=off+(i+2)*1;omega];exact this
set_option maxHeartbeats 16000000 in
theorem ajc(B P:Nat)(W:World)(x:aQ)(y:List UInt8)(r:Sp.LS)(line:List UInt8)(hl:line.length<=1000)(hf:Sp.pieces 32 line=(jQ,())::(y,())::r)(hr:0<r.length)(hG:G.ok W)(hS:Held B P W x)(LJ:P<B)(hB:B<=W.heap.size)(hz:x.2.2.2.1.length<=200):
 Calls prog 60 #[.pointer (some ⟨P,0,none⟩),.string ⟨line.toArray⟩] W λe w'=>e=.returned (.bool (iP (kT r)))/\Held B P w' (x.1,x.2.1,x.2.2.1,x.2.2.2.1++[(y,gY (kT r),())],())/\Kp B P W w':=by
 have mixed:=Tryz.mixed;obtain⟨va,vl,vd,F,hP,Ew⟩:=hS;have hPl:=(aoV.1 hP).1;have sp:=CX 32 (.inl rfl) line (by omega) W hG;have hwl:∀x∈r,x.1.length<=1000:=λz hz=>aoW (yM (c:=32) (s:=line) z (by rw[hf];exact aoR _ (aoR _ hz))) hl;have hy:y.length<=1000:=aoW (yM (c:=32) (s:=line) (y,()) (by rw[hf];simp)) hl;have hrl:r.length<=1000:=by have:=Sp.pieces_len 32 line;rw[hf,aoO,aoO]at this;omega
 have hj:(kT r).length<=1040000:=aoW (adz (m:=1000) hwl) (by omega);rw[hf]at sp;clear hf;unfold jQ at sp;have jn:=λv w hv hG=>akE v r w hv hrl (by omega) hG;generalize kT r=t at jn hj ⊢;have pq:=λw hG=>akF t (by omega) w hG;generalize gY t=q at pq ⊢;generalize iP t=ok at pq ⊢;have hlt2:(2:Int)<(r.length:Int)+2:=by omega
 have hi1:(1:Int)<(r.length:Int)+2:=by omega
 have hi2:(1:Int)<(r.length:Int)+1+1:=by omega
 have hi3:1<r.length+2:=by omega
 have hi4:(1:Int)<=(r.length:Int)+1:=by omega
 have hlt3:(2:Int)<(r.length:Int)+1+1:=by omega
 obtain⟨i0,hi,hz0,hz1,hz2⟩:=ap7 alr;have hqm:x.2.2.2.1.length+1<=maxLen:=by rw[maxLen_eq];omega
 have qZ:(x.2.2.2.1.length+1)*40<=140737488355328:=by omega
 go_enter Tryz.func60,Tryz.ntmps60
 go_wp2_with (first
  |(go_at_call 86;refine apN sp ?_;rintro e w1 ⟨v1,rfl,hf1,hb1⟩;obtain⟨a1,c1,e1⟩:=o6 hf1;have e1:v1=.slice a1 (r.length+2) c1:=e1;subst e1;obtain⟨b2,o2,e2,-,cw⟩:=FW.cell (a:=a1) (c:=c1) (f:=([100,105,114],())::(y,())::r) hf1 (n:=0) (by simp);subst e2;have cw:w1.cell? ⟨b2,o2,none⟩=some (.string ⟨([100,105,114]:List UInt8).toArray⟩):=cw;obtain⟨b3,o3,e3,-,OV⟩:=FW.cell (a:=some ⟨b2,o2,none⟩) (c:=c1) (f:=([100,105,114],())::(y,())::r) hf1 (n:=1) (by simp);cases e3;have OV:w1.cell? ⟨b2,o2+1,none⟩=some (.string ⟨(y:List UInt8).toArray⟩):=OV;obtain⟨hc2,ht⟩:=hf1.amA hr;have anJ:=(aoV.1 (show∃o,w1.heap[b2]? =some o from by cases h:w1.heap[b2]? with|some o=>exact⟨o,rfl⟩|none=>simp[World.cell?,h]at cw).choose_spec).1;have hG1:=iR hG hb1;clear sp hf1)
  |(go_at_call 74;refine apN (jn _ w1 ht hG1) ?_;rintro e w2 ⟨rfl,hb2⟩;have ZN:=hb1.trans (hb2.mono hb1.size))
  |(go_at_call 107;refine apN (pq w2 (iR hG ZN)) ?_;rintro e w3 ⟨a6,c6,rfl,hb3,hra⟩;have Oc:=hb2.trans (hb3.mono hb2.size)))
 all_goals
  have um:=Ew.below hb1;obtain⟨xs,hown1,Ob⟩:=um.fd;have hown1:w1.ownsRow B 93 2 vd x.2.2.2.1.length xs:=hown1;have Ob:∀i z,x.2.2.2.1[i]? =some z->aG w1.heap F dX ((xs.drop (i*2)).take 2) z:=Ob;have hs1:=hb1.size;have hs2:=hb2.size;have hs3:=hb3.size;have qJ:vd.ownBlock≠some P:=λe=>by have:=(um.fd.lt e).1;omega
  have hBr:B<=w1.heap.size:=aoW hB hs1;have anK:=hb1.trans (Oc.mono hs1);have hP3:=(anK.block P hPl).trans hP;obtain⟨⟨d0,d1,d2,d3⟩,z0,z1,z2,z3⟩:=four hP3;have cy:w3.cell? ⟨b2,o2+1,none⟩=some (.string ⟨(y:List UInt8).toArray⟩):=(aqD (a:=⟨b2,o2+1,none⟩) (Oc.block b2 anJ)).trans OV;have lY:P<w3.heap.size:=(aoV.1 hP3).1;have hown3:w3.ownsRow B 93 2 vd x.2.2.2.1.length xs:=Hf hown1 λb e=>Oc.block b (um.fd.lt e).2;have anI:B<=w3.heap.size:=by omega
  go_region_law (refine step_append_lies _ rfl (.tmp 113) (.tmp 119) 31 rfl B 93 i0 ah1 2 40 Tryz.underlying31 hi hz0 hz1 hz2 rfl (by decide) vd x.2.2.2.1.length xs (by simp[Act.eval]) ((apC hown3).alloc _) ⟨w3.heap.size,0,none⟩ 1 1 [.string ⟨y.toArray⟩,.slice a6 q.length c6] (by simp[Act.eval]) rfl (World.news_of_block (apv _ _)) (by intro u hu;simp at hu;rcases hu with rfl|rfl<;>rfl) (by decide) hqm qZ (by simp;omega) _ rfl ?_;intro g cap w5 hown5 dB lZ l7;have iU:=(dB.block P (by simp;omega) (λe=>qJ e.symm)).trans ((heap_alloc_old w3.drew _ lY).trans hP3);have k5:w5.cell? ⟨P,3,none⟩=some vd:=ak iU 3;have z5:=bI iU 3)
  all_goals go_wp2
  all_goals go_ret
  all_goals
   have hbd:Below w3.heap.size w3 (w3.drew.alloc (Obj.cells #[.string ⟨y.toArray⟩,.slice a6 q.length c6] 93 (0,0))):=((Below.refl _ w3).drew).alloc (aoP _) _;have ady:=Oc.trans (hbd.mono (aoW hs2 hs3));exact⟨rfl,⟨va,vl,_,_,fF iU 3 _,((um.amz (y:=(y,q,())) hBr ady hown1 Ob hown5 dB lZ l7 (N:=λb=>w2.heap.size<=b/\b<w3.heap.size) (λb hb=>⟨by omega,by have:=hbd.size;omega⟩)
    ⟨_,_,rfl,⟨rfl,by rw[maxLen_eq];omega⟩,_,_,rfl,dF.mono (λb hb=>⟨hb,hbd.block b hb.2⟩) _ _ _ hra,rfl⟩).set LJ)⟩,(((Kp.of hB hb1).below hB ady).grown hB dB (λb e=>(um.fd.lt e).1)).set⟩
end Go.Proofs.Tryz
namespace Go.Proofs.Tryz
open Go Go.Fw Go.RowKit Sp
set_option maxRecDepth 100000
theorem ahL(B P:Nat)(W:World)(x:aQ)(line:List UInt8)(hl:line.length<=1000)(hG:G.ok W)(hS:Held B P W x)(LJ:P<B)(hB:B<=W.heap.size)(hz:szX 200 x):
 Calls prog 60 #[.pointer (some ⟨P,0,none⟩),.string ⟨line.toArray⟩] W λe w'=>e=.returned (.bool (jP x (Sp.pieces 32 line)).2)/\Held B P w' (jP x (Sp.pieces 32 line)).1/\Kp B P W w':=by
 have hp:=Hw 32 line [];have hp:0<(Sp.pieces 32 line).length:=hp;obtain⟨x0,r,hf⟩:∃x0 r,Sp.pieces 32 line=(x0,())::r:=by
  cases h:Sp.pieces 32 line with
  |nil=>rw[h]at hp;exact absurd hp (apP _)
  |cons a r=>exact⟨a.1,r,rfl⟩
 rw[hf];by_cases h1:x0=iJ/\r.length=2
 .obtain⟨rfl,hr⟩:=h1
  match r,hr with
  |[(y,_),(k,_)],_=>rw[aeA];exact agx B P W x y k line hl hf hG hS LJ hB hz.1
 by_cases h2:x0=tN/\r.length=1
 .obtain⟨rfl,hr⟩:=h2
  match r,hr with
  |[(y,_)],_=>rw[agy];exact ah3 B P W x y line hl hf hG hS LJ hB
 by_cases h3:x0=lK
 .subst h3;rw[agz];exact ah5 B P W x r line hl hf hG hS LJ hB hz.2.1
 by_cases h4:x0=jQ/\2<=r.length
 .obtain⟨rfl,hr⟩:=h4
  match r,hr with
  |(y,_)::r,hr=>
   have hr:0<r.length:=by rw[aoO]at hr;omega
   rw[ah6 _ _ _ hr];exact ajc B P W x y r line hl hf hr hG hS LJ hB hz.2.2.2.1
 rw[agA x x0 r h1 h2 h3 h4];refine akG B P W x x0 r line hl hf hG hS hB ?_ ?_ h3 ?_
 .by_cases e:x0=iJ
  .exact .inr (aoL.2 λg=>h1 ⟨e,by omega⟩)
  .exact .inl e
 .by_cases e:x0=tN
  .exact .inr (aoL.2 λg=>h2 ⟨e,by omega⟩)
  .exact .inl e
 .by_cases e:x0=jQ
  .exact .inr λg=>h4 ⟨e,by omega⟩
  .exact .inl e
def snV(va vl vd:Value)(nx:Int):Value:=.agg #[va,vl,.int .i64 nx,vd]
def ajd(x:aQ):Arg:=.sv (.agg [.sl aI dD x.1 false,.sl aW fA x.2.1 false,.int .i64 x.2.2.1,.sl bH dX x.2.2.2.1 false])
theorem Sn.als{B:Nat}{w:World}{va vl vd:Value}{x:aQ}{F S:Nat->Prop}(h:Sn B w va vl vd x F)(hS:∀b,B<=b->b<w.heap.size->S b):
 dF w.heap S (.sl aI dD) va x.1/\dF w.heap S (.sl aW fA) vl x.2.1/\dF w.heap S (.sl bH dX) vd x.2.2.2.1:=by
 have ff:∀b,F b->S b:=λb hb=>hS b (h.foot b hb).1 (h.foot b hb).2.1;exact⟨h.fa.rep (by decide) λb hb=>hb.elim (ff b) λe=>hS b (h.fa.lt e).1 (h.fa.lt e).2,h.fl.rep (by decide) λb hb=>hb.elim (ff b) λe=>hS b (h.fl.lt e).1 (h.fl.lt e).2,h.fd.rep (by decide) λb hb=>hb.elim (ff b) λe=>hS b (h.fd.lt e).1 (h.fd.lt e).2⟩
theorem ah7{B:Nat}{w:World}{va vl vd:Value}{x:aQ}{F:Nat->Prop}(h:Sn B w va vl vd x F):mJ ⟨w,w.heap.size,λ_=>True,λ_=>undef,λ_=>none⟩ (ajd x) (snV va vl vd x.2.2.1):=by obtain⟨r1,r2,r3⟩:=h.als (S:=V.bM ⟨w,w.heap.size,λ_=>True,λ_=>undef,λ_=>none⟩ false) λb _ hb=>⟨⟨hb,λ_=>trivial,λo x hx=>by cases hx⟩,λe=>by cases e⟩;exact⟨_,rfl,r1,r2,⟨rfl,h.nx⟩,r3,trivial⟩
theorem akt{B:Nat}{w:World}{va vl vd:Value}{x:aQ}{F:Nat->Prop}(h:Sn B w va vl vd x F)(hx:gq x)(hG:G.ok w):Calls prog 28 #[snV va vl vd x.2.2.1] w λe w'=>e=.returned (.bool (bK x))/\Below w.heap.size w w':=by have hc:gu prog G 28 (iV gX.sh gX.cO gX.F):=rG.1;refine(hc [ajd x] (gq x) ⟨[(false,[.plain (.bool (bK x))])],none⟩ 0 (λ_=>True) #[snV va vl vd x.2.2.1] w rfl hx hG ⟨ah7 h,trivial⟩).mono ?_;rintro e w' ⟨v,vals,rfl,h1,h2,h3,h4,h5,h6,_,_⟩;have h6:v=.bool (bK x):=h6;exact⟨by rw[h6],h1,h2,h3,h4,h5⟩
theorem aku{B:Nat}{w:World}{va vl vd:Value}{x:aQ}{F:Nat->Prop}(h:Sn B w va vl vd x F)(hx:gq x)(hG:G.ok w):Calls prog 14 #[snV va vl vd x.2.2.1] w λe w'=>∃v,e=.returned v/\FW w'.heap.size w' v (Sp.enc x)/\Below w.heap.size w w':=by have hc:gu prog G 14 (iV jd.sh jd.cO jd.F):=zZ.1;refine(hc [ajd x] (gq x) _ 0 (λ_=>True) #[snV va vl vd x.2.2.1] w rfl hx hG ⟨ah7 h,trivial⟩).mono ?_;rintro e w' ⟨v,vals,rfl,h1,h2,h3,h4,h5,h6,_,_⟩;have h6:dF w'.heap _ (.sl bW fP) v (Sp.enc x):=h6;exact⟨v,rfl,dF.mono (λb hb=>⟨hb.1.1,rfl⟩) _ _ _ h6,h1,h2,h3,h4,h5⟩
theorem ae3{w:World}{u v:Value}{a b:Sp.LS}(ha:FW w.heap.size w u a)(hb:FW w.heap.size w v b)(hG:G.ok w):Calls prog 61 #[u,v] w λe w'=>e=.returned (.bool (decide (a=b)))/\Below w.heap.size w w':=by have hc:gu prog G 61 (iV jO.sh jO.cO jO.F):=JQ.1;refine(hc [.sv (.one (.sl bW fP a false)),.sv (.one (.sl bW fP b false))] True ⟨[(false,[.plain (.bool (decide (a=b)))])],none⟩ 0 (λ_=>True) #[u,v] w rfl trivial hG ⟨Jh ha,Jh hb,trivial⟩).mono ?_;rintro e w' ⟨v,vals,rfl,h1,h2,h3,h4,h5,h6,_,_⟩;have h6:v=.bool (decide (a=b)):=h6;exact⟨by rw[h6],h1,h2,h3,h4,h5⟩
def Gives(W w':World)(e:Ending)(x:aQ)(ok:Bool):Prop:=
 ∃va vl vd,e=.returned (.tuple #[snV va vl vd x.2.2.1,.bool ok])/\Below W.heap.size W w'/\zk x.2.2.1/\dF w'.heap (λb=>W.heap.size<=b/\b<w'.heap.size) (.sl aI dD) va x.1/\
  dF w'.heap (λb=>W.heap.size<=b/\b<w'.heap.size) (.sl aW fA) vl x.2.1/\dF w'.heap (λb=>W.heap.size<=b/\b<w'.heap.size) (.sl bH dX) vd x.2.2.2.1
theorem Nw{W w':World}(h:Below W.heap.size W w'):Gives W w' (.returned (.tuple #[.agg #[.slice none 0 0,.slice none 0 0,.int .i64 0,.slice none 0 0],.bool false])) dw false:=
 ⟨_,_,_,rfl,h,⟨by decide,by decide⟩,⟨apb _,.inl ⟨rfl,none,0,rfl⟩⟩,⟨apb _,.inl ⟨rfl,none,0,rfl⟩⟩,⟨apb _,.inl ⟨rfl,none,0,rfl⟩⟩⟩
theorem ai2{B:Nat}{W w':World}{va vl vd:Value}{x:aQ}{F:Nat->Prop}(hB:W.heap.size<=B)(h:Below W.heap.size W w')(hs:Sn B w' va vl vd x F):Gives W w' (.returned (.tuple #[.agg #[va,vl,.int .i64 x.2.2.1,vd],.bool true])) x true:=by obtain⟨r1,r2,r3⟩:=hs.als (S:=λb=>W.heap.size<=b/\b<w'.heap.size) λb h1 h2=>⟨by omega,h2⟩;exact⟨va,vl,vd,rfl,h,hs.nx,r1,r2,r3⟩
end Go.Proofs.Tryz
namespace Go.Proofs.Tryz
open Go Go.Fw Go.RowKit Sp
set_option maxRecDepth 100000
theorem Kp.low{P:Nat}{W W2 w:World}(h:Kp (W.heap.size+2) P W2 w)(hP:W.heap.size<=P)(k:Below W.heap.size W W2):Below W.heap.size W w:=
 ⟨h.os.trans k.os,h.tape.trans k.tape,h.output.trans k.output,aoW k.size h.size,λb hb=>(h.block b (by omega) (by omega)).trans (k.block b hb)⟩
def I8:Array Value:=#[.slice none 0 0,.slice none 0 0,.int .i64 0,.slice none 0 0]
theorem Sn.zero(B:Nat)(w:World):Sn B w (.slice none 0 0) (.slice none 0 0) (.slice none 0 0) dw λ_=>False:=
 ⟨OL.nil,OL.nil,OL.nil,⟨by decide,by decide⟩,λg=>⟨λe=>(by cases e),λe=>(by cases e)⟩,λb hb=>hb.elim⟩
theorem anE(w:World)(o p:Obj):((w.alloc o).alloc p).heap[w.heap.size+1]? =some p:=by have:=apv (w.alloc o) p;rw[show(w.alloc o).heap.size=w.heap.size+1 by simp]at this;exact this
theorem box1(w:World)(o p:Obj):((w.alloc o).alloc p).heap[w.heap.size]? =some o:=(heap_alloc_old _ p (by simp)).trans (apv w o)
theorem below2(w:World)(o p:Obj):Below w.heap.size w ((w.alloc o).alloc p):=((Below.refl _ _).alloc (aoP _) o).alloc (by simp) p
theorem aiY(w:World)(o p:Obj):((w.alloc o).alloc p).heap.size=w.heap.size+2:=by simp
theorem Kp.trans{B P:Nat}{a b c:World}(h:Kp B P a b)(k:Kp B P b c):Kp B P a c:=
 ⟨k.os.trans h.os,k.tape.trans h.tape,k.output.trans h.output,aoW h.size k.size,λx hx hn=>(k.block x hx hn).trans (h.block x hx hn)⟩
theorem akq{ls:Sp.LS}(h:(fD dw ls).2=true)(k:(bK (fD dw ls).1&&decide (Sp.enc (fD dw ls).1=ls))=false):Sp.dec ls=(dw,false):=by rw[← Wh];unfold ac3;rw[h,k];rfl
theorem aiZ{ls:Sp.LS}(h:(fD dw ls).2=true)(k1:bK (fD dw ls).1=true)(k2:decide (Sp.enc (fD dw ls).1=ls)=true):Sp.dec ls=((fD dw ls).1,true):=by rw[← Wh];unfold ac3;rw[h,k1,k2];rfl
theorem FW.keep'{W w:World}{v:Value}{f:Sp.LS}(h:FW W.heap.size W v f)(k:Below W.heap.size W w):FW w.heap.size w v f:=dF.mono (λb hb=>⟨apd hb k.size,k.block b hb⟩) _ _ _ h
def Wi(w:World)(g:Nat)(y0 y1 y2 y3:Value):World:=(((w.setCell ⟨g,0,none⟩ y0).setCell ⟨g,1,none⟩ y1).setCell ⟨g,2,none⟩ y2).setCell ⟨g,3,none⟩ y3
theorem Nv{w:World}{g:Nat}{x0 x1 x2 x3 y0 y1 y2 y3:Value}{t:TypeId}(h:w.heap[g]? =some (.cells #[x0,x1,x2,x3] t (0,0))):(Wi w g y0 y1 y2 y3).heap[g]? =some (.cells #[y0,y1,y2,y3] t (0,0)):=
 fF (fF (fF (fF h 0 y0) 1 y1) 2 y2) 3 y3
theorem FO{W w:World}{g:Nat}{y0 y1 y2 y3:Value}(h:Below W.heap.size W w)(hg:W.heap.size<=g):Below W.heap.size W (Wi w g y0 y1 y2 y3):=(((h.setCell hg _).setCell hg _).setCell hg _).setCell hg _
theorem akr{B g:Nat}{w:World}{va vl vd y0 y1 y2 y3:Value}{x:aQ}{F:Nat->Prop}(h:Sn B w va vl vd x F)(hg:g<B):Sn B (Wi w g y0 y1 y2 y3) va vl vd x F:=(((h.set hg).set hg).set hg).set hg
set_option maxHeartbeats 16000000 in
theorem aks(ls:Sp.LS)(v:Value)(W:World)(hv:FW W.heap.size W v ls)(hfit:Gq ls)(hG:G.ok W):Calls prog 15 #[v] W λe w'=>Gives W w' e (Sp.dec ls).1 (Sp.dec ls).2:=by
 have mixed:=Tryz.mixed;obtain⟨aon,hlx⟩:=hfit;obtain⟨al,cl,rfl⟩:=o6 hv;have hbase:=below2 W (Obj.cells I8 33 (0,0)) (Obj.cells I8 33 (0,0));have hsize:=aiY W (Obj.cells I8 33 (0,0)) (Obj.cells I8 33 (0,0));have hN0:=box1 W (Obj.cells I8 33 (0,0)) (Obj.cells I8 33 (0,0));have hdec:∀z,Sp.dec ls=z->Sp.dec ls=z:=λ_ h=>h
 go_enter Tryz.func15,Tryz.ntmps15
 go_wp2
 go_loopw [10] (λi wr=>∃n:Nat,n<=ls.length/\i=.int .i64 n/\(fD dw (ls.take n)).2=true/\szX n (fD dw (ls.take n)).1/\Held (W.heap.size+2) (W.heap.size+1) wr (fD dw (ls.take n)).1/\Kp (W.heap.size+2) (W.heap.size+1) ((W.alloc (Obj.cells I8 33 (0,0))).alloc (Obj.cells I8 33 (0,0))) wr)
  (λi _=>ls.length-(intOf i).toNat)
 case atStart=>exact⟨0,apb _,rfl,rfl,ai0,⟨_,_,_,_,anE W _ _,Sn.zero _ _⟩,rfl,rfl,rfl,aoP _,λ_ _ _=>rfl⟩
 case round=>
  obtain⟨n,hn,rfl,hok,hsz,hH,hK⟩:=hrel;have hlow:=hK.low (by omega) hbase;have hGr:G.ok wr:=iR hG hlow;have hwr:=hK.size;rw[hsize]at hwr;rcases apa n ls.length with hlt|hge
  .have hlt':((n:Nat):Int)<ls.length:=by omega
   obtain⟨bl,off,rfl,hbl,hcl⟩:=hv.cell hlt;have hcl:=(aqD (a:=⟨bl,off+n,none⟩) (hlow.block bl hbl)).trans hcl;have hLl:=hlx _ (getD_in (d:=([],())) hlt);have hnext:=ahJ hlt hok;have hstop:=ai1 (l:=ls) (n:=n+1);rw[hnext]at hstop;have agl:szX (n+1) (jP (fD dw (ls.take n)).1 (Sp.pieces 32 (ls.getD n ([],())).1)).1:=ahK hsz (by have:=Sp.pieces_len 32 (ls.getD n ([],())).1;omega) λy hy=>aoW (yM y hy) hLl;generalize (ls.getD n ([],())).1=L at hcl hLl hnext hstop agl;have rr:=ahL (W.heap.size+2) (W.heap.size+1) wr _ L hLl hGr hH (by omega) hwr ⟨aoW hsz.1 (by omega),aoW hsz.2.1 (by omega),hsz.2.2.1,aoW hsz.2.2.2.1 (by omega),hsz.2.2.2.2⟩;generalize jP (fD dw (ls.take n)).1 (Sp.pieces 32 L)=z at rr hnext hstop agl;obtain⟨x',b⟩:=z;dsimp only at rr hstop agl;cases b with
   |false=>
    have hd:=hstop rfl;clear hstop hnext
    go_wp2_with (first
     |(go_at_call 60;refine apN rr ?_;rintro e w' ⟨rfl,-,hK'⟩;have hKK:=hK.trans hK';have hlow':=hKK.low (by omega) hbase;have hq:=(hKK.block W.heap.size (by omega) (by omega)).trans hN0;obtain⟨⟨d0,d1,d2,d3⟩,z0,z1,z2,z3⟩:=four hq))
    all_goals (try simp only[Exit.inBlock,Exit.then])
    have r9:=Nv (y0:=.slice none 0 0) (y1:=.slice none 0 0) (y2:=.int .i64 0) (y3:=.slice none 0 0) hq;have Rh:=FO (y0:=.slice none 0 0) (y1:=.slice none 0 0) (y2:=.int .i64 0) (y3:=.slice none 0 0) hlow' (aoP _);unfold Wi at r9 Rh;clear d0 d1 d2 d3 z0 z1 z2 z3;refine arS (v:=.tuple #[.agg #[.slice none 0 0,.slice none 0 0,.int .i64 0,.slice none 0 0],.bool false]) ?_ rfl (by rw[hd];exact Nw Rh);obtain⟨⟨d0,d1,d2,d3⟩,z0,z1,z2,z3⟩:=four r9;rw[arl rfl]
    go_simp
   |true=>
    go_wp2_with (first
     |(go_at_call 60;refine apN rr ?_;rintro e w' ⟨rfl,hH',hK'⟩))
    exact⟨⟨n+1,hlt,rfl,by rw[hnext],by rw[hnext];exact agl,by rw[hnext];exact hH',hK.trans hK'⟩,by simp only[intOf];omega⟩
  .have hge':¬((n:Nat):Int)<ls.length:=by omega
   obtain rfl:n=ls.length:=by omega
   rw[ap3]at hok hsz hH;have hsm:=ahM hsz (by omega);obtain⟨va,vl,vd,F,hP,Ew⟩:=hH;have hdb:=akq hok;have hdg:=aiZ hok;generalize (fD dw ls).1=x at hsz hsm hP Ew hdb hdg;have hPl:=(aoV.1 hP).1;have hq:=(hK.block W.heap.size (by omega) (by omega)).trans hN0;have vs:=akt Ew hsm hGr;unfold snV at vs;obtain⟨⟨d0,d1,d2,d3⟩,z0,z1,z2,z3⟩:=four hP;cases hval:bK x with
   |false=>
    rw[hval]at vs hdb;have hd:=hdb rfl
    go_wp2_with (first
     |(go_at_call 28;refine apN vs ?_;rintro e w5 ⟨rfl,hb5⟩;have FP:=hlow.trans (hb5.mono hlow.size);have hq5:=(hb5.block W.heap.size (by omega)).trans hq;clear d0 d1 d2 d3 z0 z1 z2 z3;obtain⟨⟨d0,d1,d2,d3⟩,z0,z1,z2,z3⟩:=four hq5))
    all_goals (try simp only[Exit.inBlock,Exit.then])
    have r9:=Nv (y0:=.slice none 0 0) (y1:=.slice none 0 0) (y2:=.int .i64 0) (y3:=.slice none 0 0) hq5;have Rh:=FO (y0:=.slice none 0 0) (y1:=.slice none 0 0) (y2:=.int .i64 0) (y3:=.slice none 0 0) FP (aoP _);unfold Wi at r9 Rh;clear d0 d1 d2 d3 z0 z1 z2 z3;refine arS (v:=.tuple #[.agg #[.slice none 0 0,.slice none 0 0,.int .i64 0,.slice none 0 0],.bool false]) ?_ rfl (by rw[hd];exact Nw Rh);obtain⟨⟨d0,d1,d2,d3⟩,z0,z1,z2,z3⟩:=four r9;rw[arl rfl]
    go_simp
   |true=>
    rw[hval]at vs hdb;have es:=λw(hs:Sn (W.heap.size+2) w va vl vd x F) hG=>aku hs hsm hG;unfold snV at es;cases heq:decide (Sp.enc x=ls)with
    |false=>
     rw[heq]at hdb;have hd:=hdb rfl
     go_wp2_with (first
      |(go_at_call 28;refine apN vs ?_;rintro e w5 ⟨rfl,hb5⟩;have FP:=hlow.trans (hb5.mono hlow.size);have iU:=(hb5.block _ hPl).trans hP;clear d0 d1 d2 d3 z0 z1 z2 z3;obtain⟨⟨d0,d1,d2,d3⟩,z0,z1,z2,z3⟩:=four iU)
      |(go_at_call 14;refine apN (es w5 (Ew.below hb5) (iR hG FP)) ?_;rintro e w6 ⟨v6,rfl,hf6,hb6⟩;obtain⟨a6,c6,e6⟩:=o6 hf6;subst e6;have ac5:=hb5.trans (hb6.mono hb5.size);have FQ:=FP.trans (hb6.mono FP.size))
      |(go_at_call 61;refine apN (ae3 hf6 (hv.keep' FQ) (iR hG FQ)) ?_;rintro e w7 ⟨rfl,hb7⟩;rw[heq];have ac6:=ac5.trans (hb7.mono ac5.size);have agm:=FQ.trans (hb7.mono FQ.size);have hq7:=(ac6.block W.heap.size (by omega)).trans hq;clear d0 d1 d2 d3 z0 z1 z2 z3;obtain⟨⟨d0,d1,d2,d3⟩,z0,z1,z2,z3⟩:=four hq7))
     all_goals (try simp only[Exit.inBlock,Exit.then])
     have r9:=Nv (y0:=.slice none 0 0) (y1:=.slice none 0 0) (y2:=.int .i64 0) (y3:=.slice none 0 0) hq7;have Rh:=FO (y0:=.slice none 0 0) (y1:=.slice none 0 0) (y2:=.int .i64 0) (y3:=.slice none 0 0) agm (aoP _);unfold Wi at r9 Rh;clear d0 d1 d2 d3 z0 z1 z2 z3;refine arS (v:=.tuple #[.agg #[.slice none 0 0,.slice none 0 0,.int .i64 0,.slice none 0 0],.bool false]) ?_ rfl (by rw[hd];exact Nw Rh);obtain⟨⟨d0,d1,d2,d3⟩,z0,z1,z2,z3⟩:=four r9;rw[arl rfl]
     go_simp
    |true=>
     have hd:=hdg hval heq;obtain⟨aa,ca,rfl⟩:=Ew.fa.form;obtain⟨ab,cb,rfl⟩:=Ew.fl.form;obtain⟨ad,cd,rfl⟩:=Ew.fd.form
     go_wp2_with (first
      |(go_at_call 28;refine apN vs ?_;rintro e w5 ⟨rfl,hb5⟩;have FP:=hlow.trans (hb5.mono hlow.size);have iU:=(hb5.block _ hPl).trans hP;clear d0 d1 d2 d3 z0 z1 z2 z3;obtain⟨⟨d0,d1,d2,d3⟩,z0,z1,z2,z3⟩:=four iU)
      |(go_at_call 14;refine apN (es w5 (Ew.below hb5) (iR hG FP)) ?_;rintro e w6 ⟨v6,rfl,hf6,hb6⟩;obtain⟨a6,c6,e6⟩:=o6 hf6;subst e6;have ac5:=hb5.trans (hb6.mono hb5.size);have FQ:=FP.trans (hb6.mono FP.size))
      |(go_at_call 61;refine apN (ae3 hf6 (hv.keep' FQ) (iR hG FQ)) ?_;rintro e w7 ⟨rfl,hb7⟩;rw[heq];have ac6:=ac5.trans (hb7.mono ac5.size);have agm:=FQ.trans (hb7.mono FQ.size);have hq7:=(ac6.block W.heap.size (by omega)).trans hq;have hP7:=(ac6.block _ hPl).trans hP;have anF:=Ew.below ac6;clear d0 d1 d2 d3 z0 z1 z2 z3;obtain⟨⟨d0,d1,d2,d3⟩,z0,z1,z2,z3⟩:=four hq7;obtain⟨⟨p0,p1,p2,p3⟩,y0,y1,y2,y3⟩:=four hP7))
     all_goals (try simp only[Exit.inBlock,Exit.then])
     have r9:=Nv (y0:=.slice aa x.1.length ca) (y1:=.slice ab x.2.1.length cb) (y2:=.int .i64 x.2.2.1) (y3:=.slice ad x.2.2.2.1.length cd) hq7;have Rh:=FO (y0:=.slice aa x.1.length ca) (y1:=.slice ab x.2.1.length cb) (y2:=.int .i64 x.2.2.1) (y3:=.slice ad x.2.2.2.1.length cd) agm (aoP _);have hs9:=akr (y0:=.slice aa x.1.length ca) (y1:=.slice ab x.2.1.length cb) (y2:=.int .i64 x.2.2.1) (y3:=.slice ad x.2.2.2.1.length cd) anF (show W.heap.size<W.heap.size+2 by omega);unfold Wi at r9 Rh hs9;clear d0 d1 d2 d3 z0 z1 z2 z3;refine arS (v:=.tuple #[.agg #[.slice aa x.1.length ca,.slice ab x.2.1.length cb,.int .i64 x.2.2.1,.slice ad x.2.2.2.1.length cd],.bool true]) ?_ rfl (by rw[hd];exact ai2 (by omega) Rh hs9);obtain⟨⟨d0,d1,d2,d3⟩,z0,z1,z2,z3⟩:=four r9;rw[arl rfl]
     go_simp
theorem JH:gu prog G vI rD:=by
 intro args p out k S vs w hcon hp hG hrep;unfold rD iV uI at hcon;split at hcon
 .next x hx=>
  obtain⟨ls,⟨⟩⟩:=x;have hv:=Ci tX args _ vs.toList hx hrep
  match hvs:vs.toList,hv with
  |[v],hv=>
   have e1:dF w.heap _ (.sl bW fP) v ls:=hv.1;have e2:vs=#[v]:=by obtain⟨l⟩:=vs;simp at hvs;rw[hvs]
   subst e2;have hF:=Option.some.inj hcon;have hp1:p=Gq ls:=(congrArg Prod.fst hF).symm;have hout:out=⟨[(true,[.plain (.sl aI dD (Sp.dec ls).1.1 true),.plain (.sl aW fA (Sp.dec ls).1.2.1 true),.plain (.int .i64 (Sp.dec ls).1.2.2.1),.plain (.sl bH dX (Sp.dec ls).1.2.2.2.1 true)]),(false,[.plain (.bool (Sp.dec ls).2)])],none⟩:=(congrArg Prod.snd hF).symm;subst hp1 hout;refine(aks ls v w (dF.mono (λb hb=>⟨hb.1.1,rfl⟩) _ _ _ e1) hp hG).mono ?_;rintro e w' ⟨va,vl,vd,rfl,hb,hn,r1,r2,r3⟩;refine⟨_,λ_=>undef,rfl,hb.os,hb.tape,hb.output,hb.size,hb.block,?_,(λo x hx=>by cases hx),(λo x q y b hx=>by cases hx)⟩;exact⟨_,rfl,⟨_,rfl,dF.mono (λb hb=>⟨⟨⟨hb.2,λh=>absurd h (Nat.not_lt.2 hb.1),λo x hx=>by cases hx⟩,λ_=>hb.1⟩,rfl⟩) _ _ _ r1,dF.mono (λb hb=>⟨⟨⟨hb.2,λh=>absurd h (Nat.not_lt.2 hb.1),λo x hx=>by cases hx⟩,λ_=>hb.1⟩,rfl⟩) _ _ _ r2,⟨rfl,hn⟩,dF.mono (λb hb=>⟨⟨⟨hb.2,λh=>absurd h (Nat.not_lt.2 hb.1),λo x hx=>by cases hx⟩,λ_=>hb.1⟩,rfl⟩) _ _ _ r3,trivial⟩,rfl,trivial⟩
 .cases hcon
end Go.Proofs.Tryz
