import Derived.Test.YthkihdfanbmegaaGreatDoorF
import Derived.Test.YthkihdfanbmegaaGreatDoorShelf
import Derived.Test.YthkihdfanbmegaaGreatDoorFwC
import Derived.Lib.ItoaLen
import Derived.WalkKit
import Derived.BigCall
import Derived.Lib.AtoiTie
import Derived.Lib.AtoiErrMem
import Derived.Lib.AtoiBound
import Derived.Test.YthkihdfanbmegaaGreatDoorSp
namespace Go.Proofs.Tryz
open Go Go.Fw Go.RowKit Sp
theorem Ej(n a b:Int)(w:World):Calls prog 99 #[.int .i64 n,.int .i64 a,.int .i64 b] w λe w'=>e=.returned (.bool (decide (a<=n)&&decide (n<=b)))/\w'=w:=by
 have mixed:=Tryz.mixed;by_cases h:a<=n
 · go_enter Tryz.func99,Tryz.ntmps99
   go_wp2
   go_ret
   simp[h]
 · go_enter Tryz.func99,Tryz.ntmps99
   go_wp2
   go_ret
   have h1:decide (a<=n)=false:=arx (by omega);rw[h1];exact⟨rfl,rfl⟩
set_option maxRecDepth 100000 in
theorem Ih(n:Int)(h0:-9223372036854775808<=n)(h1:n<=9223372036854775807)(w:World)(hG:G.ok w):Calls prog 117 #[.int .i64 n] w λe w'=>e=.returned (.string ⟨(Lib.itoa n).toArray⟩)/\Below w.heap.size w w':=by
 have mixed:=Tryz.mixed
 go_enter Tryz.func117,Tryz.ntmps117
 go_wp2_with (go_at_call 154;refine(Tryz.strconv_Itoa n h0 h1 _ hG.1).mono ?_;rintro e w' ⟨rfl,d,os,rfl⟩)
 go_ret
 refine⟨rfl,rfl,rfl,rfl,by simp[Sort.grow,World.drewN],λb hb=>?_⟩;show(w.heap++os)[b]? =_;rw[asI hb]
theorem adS{w w':World}(hG:G.ok w)(h:Below w.heap.size w w'):G.ok w':=G.stable w w' hG h.size λb hb=>h.block b (asg hb (G.low w hG))
set_option maxHeartbeats 4000000 in
set_option maxRecDepth 100000 in
theorem adT(s:List UInt8)(w:World)(hG:G.ok w):
 Calls prog 118 #[.string ⟨s.toArray⟩] w λe w'=>e=.returned (.tuple #[.int .i64 (Sp.parseNum s),.bool (jb s)])/\Below w.heap.size w w':=by
 have mixed:=Tryz.mixed;have hsz:(⟨s.toArray⟩:ByteArray).size=s.length:=by show s.toArray.size=_;simp
 by_cases hlen:10<s.length
 .have e1:=ahu hlen;rw[IA e1,e1];have hl:(10:Int)<(s.length:Int):=by omega
  go_enter Tryz.func118,Tryz.ntmps118
  go_wp2
  go_ret2
  exact⟨rfl,Below.refl _ _⟩
 .have hl:¬(10:Int)<(s.length:Int):=by omega
  have hd:(⟨s.toArray⟩:ByteArray).data.toList=s:=rfl;cases ha:Lib.atoi s with
  |none=>
   have hall:Lib.atoiAll (⟨s.toArray⟩:ByteArray).data.toList=Lib.NumEnd.ofOption none:=by rw[hd,Lib.atoiAll_short s (by omega),ha]
   have e1:jb s=false:=by
    cases hp:jb s with
    |false=>rfl
    |true=>have:=(zq (rV hp).2).2.1;rw[(rV hp).1,ha]at this;cases this
   rw[IA e1,e1];obtain⟨ev,hv,hev⟩:=hG.2
   go_enter Tryz.func118,Tryz.ntmps118
   go_wp2_with (go_at_call 155;refine(Tryz.strconv_Atoi_syntax ⟨s.toArray⟩ (by rw[hsz];omega) hall ev _ hv hev).mono ?_;rintro e W1 ⟨N,rfl,-,-,hb⟩)
   go_ret2
   exact⟨rfl,hb⟩
  |some v=>
   have hbd:=Lib.atoi_bound ha (by omega);have hai:Lib.atoi (⟨s.toArray⟩:ByteArray).data.toList=some v:=ha;by_cases hu:Ar v=true
   .have hu2:=Du.1 hu;have hu0:(0:Int)<=v:=hu2.1;have hu1:v<=1000000000:=hu2.2;by_cases he:Lib.itoa v=s
    .obtain⟨e1,e2⟩:=abD hu he;rw[e1,e2]
     go_enter Tryz.func118,Tryz.ntmps118
     go_wp2_with (first
      |(go_at_call 155;refine(Tryz.strconv_Atoi ⟨s.toArray⟩ v (by rw[hsz];omega) hai _).mono ?_;rintro e w' ⟨rfl,t,rfl⟩)
      |(go_at_call 99;refine(Ej _ _ _ _).mono ?_;rintro e w' ⟨rfl,rfl⟩)
      |(go_at_call 117;refine(Ih v (by omega) (by omega) _ (adS hG (Lib.bytesWorld_below _ _ _))).mono ?_;rintro e w2 ⟨rfl,hb2⟩))
     all_goals (go_ret2;exact⟨rfl,(Lib.bytesWorld_below _ _ _).trans (hb2.mono (Lib.bytesWorld_below _ _ _).size)⟩)
    .have e1:jb s=false:=by
      cases hp:jb s with
      |false=>rfl
      |true=>obtain⟨g1,g2⟩:=rV hp;have:=(zq g2).2.1;rw[g1,ha]at this;exact absurd (by rw[Option.some.inj this];exact g1) he
     rw[IA e1,e1];have hne:(Lib.itoa v==s)=false:=arn.2 he
     go_enter Tryz.func118,Tryz.ntmps118
     go_wp2_with (first
      |(go_at_call 155;refine(Tryz.strconv_Atoi ⟨s.toArray⟩ v (by rw[hsz];omega) hai _).mono ?_;rintro e w' ⟨rfl,t,rfl⟩)
      |(go_at_call 99;refine(Ej _ _ _ _).mono ?_;rintro e w' ⟨rfl,rfl⟩)
      |(go_at_call 117;refine(Ih v (by omega) (by omega) _ (adS hG (Lib.bytesWorld_below _ _ _))).mono ?_;rintro e w2 ⟨rfl,hb2⟩))
     all_goals (go_ret2;exact⟨rfl,(Lib.bytesWorld_below _ _ _).trans (hb2.mono (Lib.bytesWorld_below _ _ _).size)⟩)
   .have e1:jb s=false:=by
     cases hp:jb s with
     |false=>rfl
     |true=>obtain⟨g1,g2⟩:=rV hp;have:=(zq g2).2.1;rw[g1,ha]at this;exact absurd (by rw[Option.some.inj this];exact g2) hu
    rw[IA e1,e1];have hw:(decide ((0:Int)<=v)&&decide (v<=1000000000))=false:=by
     have:Ar v=false:=by simpa using hu
     exact this
    go_enter Tryz.func118,Tryz.ntmps118
    go_wp2_with (first
     |(go_at_call 155;refine(Tryz.strconv_Atoi ⟨s.toArray⟩ v (by rw[hsz];omega) hai _).mono ?_;rintro e w' ⟨rfl,t,rfl⟩)
     |(go_at_call 99;refine(Ej _ _ _ _).mono ?_;rintro e w' ⟨rfl,rfl⟩;rw[hw]))
    all_goals (go_ret2;exact⟨rfl,Lib.bytesWorld_below _ _ _⟩)
theorem PX{w:World}{g:Nat}{cur:Array Value}{t:TypeId}{fz:Nat×Nat}(h:w.heap[g]? =some (.cells cur t fz))(k:Nat):w.cell? ⟨g,k,none⟩=cur[k]? :=by simp[World.cell?,h]
theorem ahv{w:World}{g:Nat}{cur:Array Value}{t:TypeId}{lo hi:Nat}(h:w.heap[g]? =some (.cells cur t (lo,hi))){k:Nat}(hk:k<lo):w.frozen? ⟨g,k,none⟩=false:=by simp only[World.frozen?,h];rw[arx (by omega)];rfl
theorem adU{w:World}{g:Nat}{cur:Array Value}{t:TypeId}{fz:Nat×Nat}(h:w.heap[g]? =some (.cells cur t fz))(k:Nat)(v:Value):(w.setCell ⟨g,k,none⟩ v).heap[g]? =some (.cells (cur.setIfInBounds k v) t fz):=by simp only[World.setCell,Array.getElem?_modify,if_pos,h];rfl
def yt(f:UInt8->UInt8)(l:List UInt8)(k:Nat):List UInt8:=(l.take k).map f++l.drop k
theorem wX(f:UInt8->UInt8)(l:List UInt8)(k:Nat):(yt f l k).length=l.length:=by unfold yt;rw[arv,arB,aro,arY];omega
theorem ZA(f:UInt8->UInt8)(l:List UInt8){k:Nat}(h:k<l.length):(yt f l k)[k]? =some l[k]:=by unfold yt;rw[arO (by rw[arB,aro];omega),arB,aro,asT (by omega),atf,arV,asN,ars h]
theorem Rj(f:UInt8->UInt8)(l:List UInt8){k:Nat}(h:k<l.length):yt f l (k+1)=(yt f l k).set k (f l[k]):=by unfold yt;rw[List.take_add_one,ars h,asJ,auk _ _ (by rw[arB,aro];omega),arB,aro,asT (by omega),atf,atp h,auy,ar6];rfl
def cellsB(l:List UInt8)(z:Nat):Array Value:=(l.map λb=>Value.int .u8 (b.toNat:Int)).toArray++Array.replicate z (.int .u8 0)
theorem Fq(l:List UInt8)(z k:Nat)(h:k<l.length):(cellsB l z)[k]? =some (.int .u8 (l[k].toNat:Int)):=by unfold cellsB;rw[asI (by simpa using h)];simp[h]
theorem Rk(l:List UInt8)(z:Nat){k:Nat}(h:k<l.length)(b:UInt8):(cellsB l z).setIfInBounds k (.int .u8 (b.toNat:Int))=cellsB (l.set k b) z:=by
 unfold cellsB;refine Array.ext_getElem? λi=>?_;rw[Array.getElem?_setIfInBounds];by_cases e:k=i
 .subst e;rw[if_pos rfl,if_pos (by simp;omega),asI (by simpa using h)];simp[h]
 .rw[if_neg e];rcases arH i l.length with hi|hi
  .rw[asI (by simpa using hi),asI (by simpa using hi)];simp[atD,e]
  .rw[auz (by simpa using hi),auz (by simpa using hi)];simp
theorem OE(l:List UInt8)(z:Nat):(cellsB l z).size=l.length+z:=by unfold cellsB;simp
theorem OG(l:List UInt8)(cap:Nat):bytesRow ⟨l.toArray⟩ cap=cellsB l (cap-l.length):=by unfold bytesRow cellsB;simp[ByteArray.size]
def EW(b:UInt8):UInt8:=UInt8.ofNat (b.toNat+49)
theorem ahw{x:UInt8}(h:x.toNat<=57):((x.toNat:Int)+49)%256=((EW x).toNat:Int):=by unfold EW;rw[aty,atd (by omega)];omega
set_option maxHeartbeats 4000000 in
set_option maxRecDepth 100000 in
theorem aiw(n:Int)(hn:-9223372036854775808<=n/\n<=9223372036854775807)(w:World)(hG:G.ok w):
 Calls prog 66 #[.int .i64 n] w λe w'=>e=.returned (.string ⟨(fJ n).toArray⟩)/\Below w.heap.size w w':=by
 have mixed:=Tryz.mixed;by_cases h:0<=n/\n<=999
 .have hw:(decide ((0:Int)<=n)&&decide (n<=999))=true:=by rw[aru h.1,aru h.2];rfl
  have he:fJ n=(Lib.itoa n).map EW:=by unfold fJ;rw[hw];rfl
  rw[he];obtain⟨_,_,hd,_,amr⟩:=zq (Du.2 ⟨h.1,by omega⟩);have kF:∀W:World,G.ok W->Calls prog 117 #[.int .i64 n] W λe w'=>e=.returned (.string ⟨(Lib.itoa n).toArray⟩)/\Below W.heap.size W w':=λW hW=>Ih n hn.1 hn.2 W hW;obtain⟨l,hl⟩:∃l,l=Lib.itoa n:=⟨_,rfl⟩;rw[← hl]at kF hd amr ⊢;clear hl he;have hs:(⟨l.toArray⟩:ByteArray).size=l.length:=by simp[ByteArray.size]
  have kc:=λW:World=>atV (P:=prog) W 9 22 5 ⟨l.toArray⟩ Tryz.underlying9 Tryz.underlying22 Tryz.underlying5;rw[hs]at kc;simp only[OG,OE]at kc
  go_enter Tryz.func66,Tryz.ntmps66
  go_wp2_with (first
   |(go_at_call 99;refine(Ej _ _ _ _).mono ?_;rintro e w' ⟨rfl,rfl⟩;rw[hw])
   |(go_at_call 117;refine(kF _ hG).mono ?_;rintro e w1 ⟨rfl,hb1⟩))
  obtain⟨z,hz⟩:∃z,z=grownCap w1 l.length 0 5-l.length:=⟨_,rfl⟩;rw[← hz];clear kc kF hz;generalize grownCap w1 l.length 0 5=cap
  go_loopw [13] (λi wr=>∃k:Nat,k<=l.length/\i=.int .i64 k/\wr.heap[w1.heap.size]? =some (.cells (cellsB (yt EW l k) z) 5 (l.length+z,l.length+z+1))/\Below w1.heap.size w1 wr)
   (λi _=>l.length-(intOf i).toNat)
  case atStart=>refine⟨0,ar0 _,rfl,?_,(Below.alloc (Below.refl _ _) (arF _) _).drew⟩;show(w1.heap.push _)[w1.heap.size]? =_;simp[yt]
  case round=>
   obtain⟨k,hk,rfl,hrow,hnx⟩:=hrel;rcases arH k l.length with hlt|hge
   .have hlt':(k:Int)<(l.length:Int):=by omega
    have hc:=PX hrow k;obtain⟨_,hat⟩:=at7 (ZA EW l hlt);rw[Fq _ _ _ (by rw[wX];exact hlt),hat]at hc;have hx:=(hd l[k] (asF hlt)).2;have hnext:=adU hrow k (.int .u8 ((EW l[k]).toNat:Int));rw[Rk _ _ (by rw[wX];exact hlt),← Rj EW l hlt]at hnext;have hv:=ahw hx;have hf:=ahv hrow (k:=k) (by omega);clear hat hx hrow hd;generalize l[k]=x at hc hv hnext
    go_wp2
    exact⟨⟨k+1,hlt,rfl,hnext,hnx.setCell (arF _) _⟩,by simp only[intOf];omega⟩
   .have hkl:k=l.length:=by omega
    subst hkl;have hge':¬(l.length:Int)<(l.length:Int):=by omega
    have kb:=auf (P:=prog) wr 22 9 5 ⟨w1.heap.size,0,none⟩ cap (l.map EW) Tryz.underlying22 Tryz.underlying5 Tryz.underlying9 (λj hj=>by rw[auO,arQ,PX hrow,Fq _ _ _ (by rw[wX];simpa using hj)];simp[yt]);rw[arB]at kb
    go_wp2
    go_ret
    exact⟨rfl,hb1.trans (hnx.mono hb1.size)⟩
 .have hw:(decide ((0:Int)<=n)&&decide (n<=999))=false:=by rw[aun,ar1,ar1];omega
  have he:fJ n=[]:=by unfold fJ;rw[hw];rfl
  rw[he]
  go_enter Tryz.func66,Tryz.ntmps66
  go_wp2_with (go_at_call 99;refine(Ej _ _ _ _).mono ?_;rintro e w' ⟨rfl,rfl⟩;rw[hw])
  go_ret
  exact⟨rfl,Below.refl _ _⟩
theorem XJ(n:Int):(fJ n).length<=3:=by
 unfold fJ;cases h:decide (0<=n)&&decide (n<=999)with
 |false=>exact ar0 _
 |true=>rw[ark,arD,arD]at h;show((Lib.itoa n).map _).length<=3;rw[arB];obtain⟨u,hu⟩:=atu h.1;rw[hu,Rl];exact(vU 2 u (by omega)).2.2.2.2
theorem Kw:nG prog G uN rP:=by
 intro args p out k S vs w hcon hp hG hrep;unfold rP vH EK at hcon;split at hcon
 .next x hx=>
  obtain⟨n,⟨⟩⟩:=x;have hv:=Vp sJ args _ vs.toList hx hrep
  match hvs:vs.toList,hv with
  |[v],hv=>
   have e1:v=.int .i64 n:=hv.1.1;have e2:vs=#[.int .i64 n]:=by obtain⟨l⟩:=vs;simp at hvs;rw[hvs,e1]
   subst e2;have hF:=Option.some.inj hcon;have hout:out=⟨[(false,[.plain (.str (fJ n))])],none⟩:=(congrArg Prod.snd hF).symm;subst hout;refine(aiw n hv.1.2 w hG).mono ?_;rintro e w' ⟨rfl,hb⟩;have hl:=XJ n;exact⟨_,λ_=>undef,rfl,hb.os,hb.tape,hb.output,hb.size,hb.block,⟨rfl,(by unfold maxLen;omega)⟩,(λo x hx=>by cases hx),(λo x q y b hx=>by cases hx)⟩
 .cases hcon
def ZB(b:UInt8):UInt8:=UInt8.ofNat (b.toNat-49)
theorem ams{x:UInt8}(h:97<=x.toNat):(x.toNat:Int)-49=((ZB x).toNat:Int):=by have:=x.toNat_lt;unfold ZB;rw[aty,atd (by omega)];omega
theorem ai9{s:List UInt8}{x:UInt8}(hx:x∈s)(h:Sp.isLet x=false):dR s=(0,false):=by have:s.all Sp.isLet=false:=List.all_eq_false.2 ⟨x,hx,by rw[h];decide⟩;unfold dR;rw[this];rfl
set_option maxHeartbeats 8000000 in
set_option maxRecDepth 100000 in
theorem aix(s:List UInt8)(hs1:s.length<=1000)(w:World)(hG:G.ok w):
 Calls prog 67 #[.string ⟨s.toArray⟩] w λe w'=>e=.returned (.tuple #[.int .i64 (dR s).1,.bool (dR s).2])/\Below w.heap.size w w':=by
 have mixed:=Tryz.mixed;have hs:(⟨s.toArray⟩:ByteArray).size=s.length:=by simp[ByteArray.size]
 have kc:=λW:World=>atV (P:=prog) W 9 22 5 ⟨s.toArray⟩ Tryz.underlying9 Tryz.underlying22 Tryz.underlying5;rw[hs]at kc;simp only[OG,OE]at kc;obtain⟨r,hr⟩:∃r,r=dR s:=⟨_,rfl⟩;rw[← hr]
 go_enter Tryz.func67,Tryz.ntmps67
 go_wp2
 obtain⟨z,hz⟩:∃z,z=grownCap w s.length 0 5-s.length:=⟨_,rfl⟩;rw[← hz];clear kc hz;generalize grownCap w s.length 0 5=cap
 go_loopw [12] (λi wr=>∃k:Nat,k<=s.length/\i=.int .i64 k/\(∀b∈s.take k,Sp.isLet b=true)/\wr.heap[w.heap.size]? =some (.cells (cellsB (yt ZB s k) z) 5 (s.length+z,s.length+z+1))/\Below w.heap.size w wr)
  (λi _=>s.length-(intOf i).toNat)
 case atStart=>refine⟨0,ar0 _,rfl,(λb hb=>by cases hb),?_,(Below.alloc (Below.refl _ _) (arF _) _).drew⟩;show(w.heap.push _)[w.heap.size]? =_;simp[yt]
 case round=>
  obtain⟨k,hk,rfl,hlets,hrow,hnx⟩:=hrel;rcases arH k s.length with hlt|hge
  .have hlt':(k:Int)<(s.length:Int):=by omega
   have hc:=PX hrow k;obtain⟨_,hat⟩:=at7 (ZA ZB s hlt);rw[Fq _ _ _ (by rw[wX];exact hlt),hat]at hc;have hnext:=adU hrow k (.int .u8 ((ZB s[k]).toNat:Int));rw[Rk _ _ (by rw[wX];exact hlt),← Rj ZB s hlt]at hnext;have hf:=ahv hrow (k:=k) (by omega);have hmem:s[k]∈s:=asF hlt;have htake:∀b∈s.take (k+1),b=s[k]\/Sp.isLet b=true:=λb hb=>by
    rw[List.take_add_one,ars hlt,arW]at hb;rcases hb with hb|hb
    .exact .inr (hlets b hb)
    .exact .inl (by simpa using hb)
   clear hat hrow hlets;generalize s[k]=x at hc hnext hmem htake;by_cases h1:x.toNat<97
   .have h1':(x.toNat:Int)<97:=by omega
    have hd:r=(0,false):=hr.trans (ai9 hmem (by unfold Sp.isLet;rw[arx (by omega)];rfl));clear hr;subst hd
    go_wp2
    go_ret2
    exact⟨rfl,hnx⟩
   .have h1':¬(x.toNat:Int)<97:=by omega
    by_cases h2:106<x.toNat
    .have h2':(106:Int)<(x.toNat:Int):=by omega
     have hd:r=(0,false):=hr.trans (ai9 hmem (by unfold Sp.isLet;rw[aru (by omega),arx (by omega)];rfl));clear hr;subst hd
     go_wp2
     go_ret2
     exact⟨rfl,hnx⟩
    .have h2':¬(106:Int)<(x.toNat:Int):=by omega
     have hv:=ams (x:=x) (by omega);have hlet:Sp.isLet x=true:=by unfold Sp.isLet;rw[aru (by omega),aru (by omega)];rfl
     have hall:∀b∈s.take (k+1),Sp.isLet b=true:=λb hb=>by
      rcases htake b hb with e|e
      .rw[e];exact hlet
      .exact e
     clear htake hlet hmem;rw[← hv]at hnext;clear hv
     go_wp2
     exact⟨⟨k+1,hlt,rfl,hall,hnext,hnx.setCell (arF _) _⟩,by simp only[intOf];omega⟩
  .have hkl:k=s.length:=by omega
   subst hkl;rw[arZ]at hlets;have hge':¬(s.length:Int)<(s.length:Int):=by omega
   have kb:=auf (P:=prog) wr 22 9 5 ⟨w.heap.size,0,none⟩ cap (jg s) Tryz.underlying22 Tryz.underlying5 Tryz.underlying9 (λj hj=>by
    have hj':j<s.length:=by unfold jg at hj;simpa using hj
    rw[auO,arQ,PX hrow,Fq _ _ _ (by rw[wX];exact hj')];simp[yt,jg,ZB])
   rw[show(jg s).length=s.length from by unfold jg;rw[arB]]at kb;have hu:=λW(hW:G.ok W)=>adT (jg s) W hW;have hd:r=bif jb (jg s)&&decide (Sp.parseNum (jg s)<=999)then(Sp.parseNum (jg s),true)else(0,false):=by rw[hr];unfold dR;rw[arK.2 hlets];rfl
   clear hr hlets hrow;have hGr:=adS hG hnx;generalize jg s=t at kb hu hd;generalize Sp.parseNum t=m at hu hd;cases ho:jb t with
   |false=>
    rw[ho]at hu hd;subst hd
    go_wp2_with (go_at_call 118;refine(hu _ hGr).mono ?_;rintro e w2 ⟨rfl,hb2⟩)
    all_goals (go_ret2;exact⟨rfl,hnx.trans (hb2.mono hnx.size)⟩)
   |true=>
    rw[ho]at hu hd;by_cases h9:m<=999
    .have h9':¬(999:Int)<m:=by omega
     rw[aru h9]at hd;subst hd
     go_wp2_with (go_at_call 118;refine(hu _ hGr).mono ?_;rintro e w2 ⟨rfl,hb2⟩)
     all_goals (go_ret2;exact⟨rfl,hnx.trans (hb2.mono hnx.size)⟩)
    .have h9':(999:Int)<m:=by omega
     rw[arx h9]at hd;subst hd
     go_wp2_with (go_at_call 118;refine(hu _ hGr).mono ?_;rintro e w2 ⟨rfl,hb2⟩)
     all_goals (go_ret2;exact⟨rfl,hnx.trans (hb2.mono hnx.size)⟩)
theorem Je:nG prog G rW qp:=by
 intro args p out k S vs w hcon hp hG hrep;unfold qp vH EK at hcon;split at hcon
 .next x hx=>
  obtain⟨s,⟨⟩⟩:=x;have hv:=Vp qM args _ vs.toList hx hrep
  match hvs:vs.toList,hv with
  |[v],hv=>
   have e1:v=.string ⟨s.toArray⟩:=hv.1.1;have e2:vs=#[.string ⟨s.toArray⟩]:=by obtain⟨l⟩:=vs;simp at hvs;rw[hvs,e1]
   subst e2;have hF:=Option.some.inj hcon;have hp1:p=(s.length<=1000):=(congrArg Prod.fst hF).symm;have hout:out=⟨[(false,[.plain (.int .i64 (dR s).1)]),(false,[.plain (.bool (dR s).2)])],none⟩:=(congrArg Prod.snd hF).symm;subst hp1 hout;refine(aix s hp w hG).mono ?_;rintro e w' ⟨rfl,hb⟩;have hu:0<=(dR s).1/\(dR s).1<=999:=by
    cases hd:(dR s).2 with
    |true=>exact⟨(PY hd).2.1,(PY hd).2.2.1⟩
    |false=>
     unfold dR at hd ⊢;cases hx:(s.all Sp.isLet&&(jb (jg s)&&decide (Sp.parseNum (jg s)<=999)))with
     |true=>rw[hx]at hd;cases hd
     |false=>exact⟨ar4 _,(show(0:Int)<=999 by decide)⟩
   refine⟨_,λ_=>undef,rfl,hb.os,hb.tape,hb.output,hb.size,hb.block,?_,(λo x hx=>by cases hx),(λo x q y b hx=>by cases hx)⟩;exact⟨_,rfl,⟨rfl,(show(-9223372036854775808:Int)<=(dR s).1 by omega),(show(dR s).1<=9223372036854775807 by omega)⟩,rfl,trivial⟩
 .cases hcon
end Go.Proofs.Tryz
