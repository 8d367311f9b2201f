import Derived.Test.YtlmamafnoigopaaGreatDoorF
import Derived.Test.YtlmamafnoigopaaGreatDoorFwC
import Derived.Test.YtlmamafnoigopaaGreatDoorShelf
import Derived.Lib.ItoaLen
namespace Go.Proofs.Tryz
open Go Go.Fw
theorem aaD:iM prog G Gh DX:=by
 intro args p out k S vs w hcon hp hG hrep;unfold DX lZ Dz at hcon;split at hcon
 .next x hx=>
  obtain⟨n,⟨⟩⟩:=x;have hv:=Td Eu args _ vs.toList hx hrep
  match hvs:vs.toList,hv with
  |[v],hv=>
   have e1:v=.int .i64 n:=hv.1.1;have e2:vs=#[.int .i64 n]:=by obtain⟨l⟩:=vs;simp at hvs;rw[hvs,e1]
   subst e2;have hF:=Option.some.inj hcon;have hp1:p=((-9223372036854775808:Int)<=n/\n<=9223372036854775807):=(congrArg Prod.fst hF).symm;have hout:out=⟨[(false,[.plain (.str (Lib.itoa n))])],none⟩:=(congrArg Prod.snd hF).symm;subst hp1 hout;refine(Tryz.strconv_Itoa n hp.1 hp.2 w hG).mono ?_;rintro e w' ⟨rfl,d,os,rfl⟩;have hlen:=Lib.itoa_length_le n hp.1 hp.2;refine⟨_,λ_=>undef,rfl,rfl,rfl,rfl,by simp[Sort.grow,World.drewN],λb hb=>?_,⟨rfl,(by unfold maxLen;omega)⟩,(λo x hx=>by cases hx),(λo x q y b hx=>by cases hx)⟩;show(w.heap++os)[b]? =_;rw[auz hb]
 .cases hcon
theorem aaE:iM prog G Gi DY:=by
 intro args p out k S vs w hcon hp hG hrep;unfold DY lZ Dz at hcon;split at hcon
 .next x hx=>
  obtain⟨l,sep,⟨⟩⟩:=x;have hv:=Td Ew args _ vs.toList hx hrep
  match hvs:vs.toList,hv with
  |[v,u],hv=>
   have e1:u=.string ⟨sep.toArray⟩:=hv.2.1.1;have hsl:dW w.heap _ (.sl dF fO) v l:=hv.1;have e2:vs=#[v,.string ⟨sep.toArray⟩]:=by obtain⟨l⟩:=vs;simp at hvs;rw[hvs,e1]
   subst e2;have hF:=Option.some.inj hcon;have hp1:p=(l.length<=140737488355328/\(Lib.join (l.map (·.1)) sep).length<=140737488355328):=(congrArg Prod.fst hF).symm;have hout:out=⟨[(false,[.plain (.str (Lib.join (l.map (·.1)) sep))])],none⟩:=(congrArg Prod.snd hF).symm;subst hp1 hout;obtain⟨hl,hcase⟩:=hsl;have hjl:(Lib.join (l.map (·.1)) sep).length<=maxLen:=by have:=hp.2;unfold maxLen;omega
   rcases hcase with⟨rfl,a,c,rfl⟩|⟨b,off,cap,cs,t,fz,rfl,hc,hS,hb,hx⟩
   .refine(Tryz.strings_Join_none a c ⟨sep.toArray⟩ w).mono ?_;rintro e w' ⟨rfl,rfl⟩;exact agZ rfl rfl rfl (as7 _) (λ_ _=>rfl) hjl
   .have hcells:∀(j:Nat)(x:ByteArray),(l.map λy:Bytes×Unit=>(⟨y.1.toArray⟩:ByteArray))[j]? =some x->w.cell? ⟨b,off+j,none⟩=some (.string x):=by
     intro j x hj;rw[atU,Option.map_eq_some_iff]at hj;obtain⟨y,hy,rfl⟩:=hj;have:=hx j y hy;rw[show j*ak.len (.cons .str .nil)=j from Nat.mul_one j]at this;obtain⟨v',vs',hvs',hrc,hnil⟩:=this;have hv1:v'=.string ⟨y.1.toArray⟩:=hrc.1;have hcell:cs[off+j]? =some v':=by
      have h0:((cs.toList.drop (off+j)).take (ak.len (.cons .str .nil)))[0]? =(v'::vs')[0]? :=by rw[hvs']
      simpa[ak.len]using h0
     simp only[World.cell?,hb];simpa[hv1]using hcell
    have hmap:(l.map λy:Bytes×Unit=>(⟨y.1.toArray⟩:ByteArray)).map (λx:ByteArray=>x.data.toList)=l.map (·.1):=by rw[aud];rfl
    have hbk:b<w.heap.size:=by
     rcases atm b w.heap.size with h|h
     .exact h
     .rw[auM h]at hb;cases hb
    have:=Tryz.strings_Join b off cap (l.map λy:Bytes×Unit=>(⟨y.1.toArray⟩:ByteArray)) ⟨sep.toArray⟩ w hcells hbk (by rw[atb];exact hp.1) (by rw[atb];exact hc) (by rw[hmap];exact hp.2);rw[atb,hmap]at this;refine this.mono ?_;rintro e w' ⟨rfl,hB⟩;exact agZ hB.os hB.tape hB.output hB.size hB.block hjl
 .cases hcon
end Go.Proofs.Tryz
