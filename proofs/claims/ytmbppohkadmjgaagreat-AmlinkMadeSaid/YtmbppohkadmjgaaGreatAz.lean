import Derived.Test.YtmbppohkadmjgaaGreatSt
import Derived.Maps.AppendAt
namespace Go.Sx
open Go.RowKit
theorem Ae2(k:IntKind)(m:Nat):Builtin.zeroCells #[.int k 0] m=(List.replicate m (Value.int k 0)).toArray:=by
 apply Array.ext';apply cX
 ·simp[Builtin.zeroCells]
 ·intro i h1 h2;simp[Builtin.zeroCells,Nat.mod_one]
section
variable{P:Program}{w:World}
theorem Akk(base:Nat)(t u ty e:TypeId)(i:TypeInfo)(k k2:IntKind)(bytes:Nat)(ht:P.underlying t=some (.slice e))(hu:P.underlying u=some (.int k2))(hi:P.info? e=some i)(hz:i.zero=some (.int k 0))
 (hsize:i.size=1) (hby:i.bytes=bytes) (g n cap:Nat) (xs:List Value) (hown:w.ownsRow base e 1 (.slice (some ⟨g,0,none⟩) n cap) n xs) (m:Nat)
 (h63:n+m<=maxLen) (hbytes:(n+m)*bytes<=140737488355328) (hbase:base<=w.heap.size):
 ∃v' w',(Builtin.append_ #[t,u] ty #[.slice (some ⟨g,0,none⟩) n cap,.int .i64 (m:Int)]).run P w=.ok v' w'/\w'.ownsRow base e 1 v' (n+m) (xs++List.replicate m (.int k 0))/\w.grownBy w' (some g)/\
  (v'.ownBlock=some g\/v'.ownBlock=some w.heap.size):=by
 subst hby
 have hmx:maxLen<=9223372036854775807:=by unfold maxLen;omega
 have hw:IntKind.i64.wrap (m:Int)=m:=IntWalk.i64_in _ (by omega);have hmb:m*i.bytes<=140737488355328:=cG (cR _ (Nat.le_add_left _ _)) hbytes;have h48:¬((281474976710656:Int)<(m:Int)*(i.bytes:Int)):=by
  have:((m*i.bytes:Nat):Int)=(m:Int)*(i.bytes:Int):=by simp
  omega
 have hlen:(xs++List.replicate m (Value.int k 0)).length=(n+m)*1:=by rw[aP,hown.1,cY];omega
 have hm0:¬((m:Int)<0):=by omega
 have hzv:(Value.int k 0).cells=#[.int k 0]:=rfl;rcases hown.2 with ⟨hv,_⟩|⟨g',cap',cur,hv,hbg,hg,hnc,hcm,hcs,htake⟩
 ·cases hv
 injection hv with hv1 _ hv2
 injection hv1 with hv1
 injection hv1 with hv1
 subst hv1;subst hv2;by_cases hroom:n+m<=cap
 ·have hfit:n*1+(List.replicate m (Value.int k 0)).length<=cur.size:=by rw[cY];omega
  have hst:=run_storeCells_at P g (n*1) e (List.replicate m (Value.int k 0)) 0 cur w hg (by simpa using hfit) (fun u hu=>by rw[List.eq_of_mem_replicate hu];rfl);simp only[Nat.add_zero]at hst;refine⟨_,_,?_,⟨hlen,.inr ⟨g,cap,_,rfl,hbg,setRow_heap w g cur (cur.toList.take (n*1)++List.replicate m (Value.int k 0)++cur.toList.drop (n*1+(List.replicate m (Value.int k 0)).length)).toArray e _ hg,hroom,hcm,?_,?_⟩⟩,⟨rfl,rfl,rfl,by simp,fun k _ hk=>setRow_other w g k _ (fun e=>hk (by simp[e]))⟩,Or.inl rfl⟩
  ·have hadd:(⟨g,0,none⟩:Addr).add (n*1)=⟨g,n*1,none⟩:=by rw[Bd,aN]
   rw[<-hadd]at hst;by_cases h0:m=0
   ·subst h0;have hw0:IntKind.i64.wrap 0=0:=IntWalk.i64_in 0 (by omega);simp only[dB,List.replicate_zero]at hst;simp[Builtin.append_,run_underlying ht,run_underlying hu,sizeOf,typeInfo,hi,hw0,hnc,hsize,asInt,asIntOf,hst]
   ·simp only[dB]at hst;simp[Builtin.append_,run_underlying ht,run_underlying hu,sizeOf,typeInfo,hi,hw,hroom,hsize,h0,hm0,asInt,asIntOf,h48,zeroValue,hz,hzv,Ae2,hst]
  ·simp only[List.size_toArray,aP,aU,bJ,Array.length_toList];omega
  ·rw[htake,<-hlen];exact dP
 ·have hge:=grownCap_ge w (n+m) cap e;have hcm:grownCap w (n+m) cap e<=maxLen:=grownCap_le_maxLen w (n+m) cap e h63;have holds:∀j u,xs[j]?=some u->w.cell? ((⟨g,0,none⟩:Addr).add j)=some u:=hown.cells (g:=g) rfl;have hfo:=run_firstCells_some (P:=P) w.drew 1 n ⟨g,0,none⟩ n cap xs hown.1 (by simpa using holds);have hfit:=growslice_fits (need:=n+m) (old:=cap) (bytes:=i.bytes) (by omega) hbytes;refine⟨_,w.drew.alloc (.cells (xs.toArray++(List.replicate m (Value.int k 0)).toArray++Builtin.zeroCells #[.int k 0] (grownCap w (n+m) cap e-(n+m))) e),?_,⟨hlen,.inr ⟨w.heap.size,grownCap w (n+m) cap e,_,rfl,hbase,heap_alloc_new w.drew _,hge,hcm,?_,?_⟩⟩,⟨rfl,rfl,rfl,by simp,fun k hk _=>heap_alloc_old w.drew _ hk⟩,Or.inr rfl⟩
  ·have hn:¬(n+m<=cap):=hroom;have h63':¬(9223372036854775807<((n:Int)+(m:Int))):=by omega
   have h48':¬(281474976710656<Builtin.nextslicecap (n+m) cap*i.bytes):=by omega
   by_cases h0:m=0
   ·subst h0;omega
   ·simp[Builtin.append_,run_underlying ht,run_underlying hu,sizeOf,typeInfo,hi,hw,hn,hsize,h0,hm0,asInt,asIntOf,h48,h63',h48',zeroValue,hz,hzv,Ae2,Question.forced,hfo,newRow,grownCap]
  ·simp only[Array.size_append,List.size_toArray,size_zeroCells,hown.1,cY];simp;omega
  ·simp only[Array.toList_append,aZ];rw[<-aZ,<-hlen];exact dP
end
section
variable{A0:Nat->Prop}{M:List Nat}{w0 w:World}{R:List Res}{P:World->Prop}{i b o:Nat}{t e:TypeId}{c bytes:Nat}{a:Option Addr}{Pr:Program}
theorem St.appZ(H:St A0 M w0 w R P){k k2:IntKind}{ys:List Int}(hi:R[i]?=some (.ints e k a c ys))(hT:SlTy Pr t e 1 bytes (.int k 0)){u:TypeId}(hu:Pr.underlying u=some (.int k2))(h0:0<ys.length)(m:Nat){x:Int}(hx:x=m)
 (hbytes:(ys.length+m)*bytes<=140737488355328) (h63:ys.length+m<=4611686018427387904) {ty:TypeId} {F:Option Addr->Nat->Nat->World->Prop}
 (h:∀a' c' w',St A0 M w0 w' (R.set i (.ints e k a' c' (ys++List.replicate m 0))) P->F a' (ys++List.replicate m 0).length c' w'):Da Pr #[t,u] ty #[.slice a ys.length c,.int .i64 x] w F:=by
 subst hx;obtain⟨inf,hinf,h1,h2,h3⟩:=hT.info;obtain⟨g,rfl,hat,hnc⟩:=H.rowSome hi h0;obtain⟨v',w',hr,ho,hg,hb⟩:=Akk (P:=Pr) (w:=w) 0 t u ty e inf k k2 bytes hT.ht hu hinf h1 h2 h3 g ys.length c _ (H.row hi) m (by unfold maxLen;omega) hbytes (aX _);have hl:(ys++List.replicate m (0:Int)).length=ys.length+m:=by simp
 have hm:(ys++List.replicate m (0:Int)).map (Value.int k)=ys.map (Value.int k)++List.replicate m (.int k 0):=by simp
 obtain⟨g',c',rfl⟩:∃g' c',v'=.slice (some ⟨g',0,none⟩) (ys.length+m) c':=by
  rcases ho.2 with ⟨rfl,hn⟩|⟨g',cap,cur,hv,_⟩
  ·omega
  ·exact⟨_,_,hv⟩
 refine⟨_,_,_,w',hr,?_⟩;rw[<-hl];refine h _ _ w' (H.upd hi (by rw[hat];exact hg) ?_ fun q hq=>?_)
 ·show Own w' 0 e 1 _ _ c' _;rw[hm,hl];exact ho
 ·rcases hb with hb|hb
  ·left;rw[hat,<-hb];exact hq
  ·right;have:some q=some w.heap.size:=by rw[<-hb];exact hq.symm
   injection this with this;omega
end
end Go.Sx
