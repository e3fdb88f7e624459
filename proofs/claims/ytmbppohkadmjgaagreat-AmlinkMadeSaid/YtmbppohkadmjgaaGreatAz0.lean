import Derived.Test.YtmbppohkadmjgaaGreatEl
import Derived.Maps.AppendAt
namespace Go.Sx
open Go.RowKit
theorem Ak8(m sz:Nat)(a:Option Addr):Ay m 0 sz a=a:=by
 unfold Ay;split
 ·rfl
 ·cases a<;>simp[add_zero]
theorem Ach{P:Program}{w:World}(t u ty e:TypeId)(i:TypeInfo)(k2:IntKind)(z:Value)(ht:P.underlying t=some (.slice e))(hu:P.underlying u=some (.int k2))(hi:P.info? e=some i)(hz:i.zero=some z)
 (hsz:0<i.size) (m:Nat) (hm:0<m) (h63:m<=4611686018427387904) (hbytes:m*i.bytes<=140737488355328):
 (Builtin.append_ #[t,u] ty #[.slice none 0 0,.int .i64 (m:Int)]).run P w=
  .ok (.slice (some ⟨w.heap.size,0,none⟩) m (grownCap w m 0 e)) (w.drew.alloc (.cells (Builtin.zeroCells z.cells m++Builtin.zeroCells z.cells (grownCap w m 0 e-m)) e)):=by
 have hw:IntKind.i64.wrap (m:Int)=m:=IntWalk.i64_in _ (by omega);have h48:¬((281474976710656:Int)<(m:Int)*(i.bytes:Int)):=by
  have:((m*i.bytes:Nat):Int)=(m:Int)*(i.bytes:Int):=by simp
  omega
 have hm0:¬((m:Int)<0):=by omega
 have h0:m≠0:=by omega
 have h63':¬(9223372036854775807<(m:Int)):=by omega
 have h48':¬(281474976710656<Builtin.nextslicecap m 0*i.bytes):=by rw[nextslicecap_zero hm];omega
 have hne:i.size≠0:=by omega
 simp[Builtin.append_,run_underlying ht,run_underlying hu,sizeOf,typeInfo,hi,hw,h0,hne,hm0,asInt,asIntOf,h48,h63',h48',zeroValue,hz,Builtin.firstCells,Question.forced,newRow,grownCap];intro h;rcases Nat.mul_eq_zero.1 h with h|h<;>omega
section
variable{A0:Nat->Prop}{M:List Nat}{w0 w:World}{R:List Res}{P:World->Prop}{t e:TypeId}{sz bytes:Nat}{z:Value}{Pr:Program}
theorem St.appZ0(H:St A0 M w0 w R P)(hT:SlTy Pr t e sz bytes z){k2:IntKind}{u:TypeId}(hu:Pr.underlying u=some (.int k2))(m:Nat){x:Int}(hx:x=m)(hm:0<m)
 (hbytes:m*bytes<=140737488355328) (h63:m<=4611686018427387904) {ty:TypeId} {F:Option Addr->Nat->Nat->World->Prop}
 (h:∀a' c' w',St A0 M w0 w' (R++[.row e sz a' m c' (Builtin.zeroCells z.cells m).toList]) P->F a' m c' w'):Da Pr #[t,u] ty #[.slice none 0 0,.int .i64 x] w F:=by
 subst hx;obtain⟨inf,hinf,h1,h2,h3⟩:=hT.info;have hr:=Ach (P:=Pr) (w:=w) t u ty e inf k2 z hT.ht hu hinf h1 (by rw[h2];exact hT.pos) m hm h63 (by rw[h3];exact hbytes);have hge:=grownCap_ge w m 0 e;have hcm:grownCap w m 0 e<=maxLen:=grownCap_le_maxLen w m 0 e (by unfold maxLen;omega);have hzs:=hT.hz;refine⟨_,_,_,_,hr,h _ _ _ (H.add ⟨rfl,rfl,rfl,by simp,fun k hk=>by
  have:=heap_alloc_old w.drew (.cells (Builtin.zeroCells z.cells m++Builtin.zeroCells z.cells (grownCap w m 0 e-m)) e) (show k<w.drew.heap.size from hk);exact this⟩ (show Own _ _ _ _ _ _ _ _ from⟨?_,.inr ⟨w.heap.size,grownCap w m 0 e,_,rfl,aX _,heap_alloc_new w.drew _,hge,hcm,?_,?_⟩⟩) fun b hb=>?_)⟩
 ·rw[Array.length_toList,size_zeroCells,hzs]
 ·rw[Array.size_append,size_zeroCells,size_zeroCells,hzs,<-Nat.add_mul];congr 1;omega
 ·rw[Array.toList_append,<-hzs,<-size_zeroCells,<-Array.length_toList];exact dP
 ·simp[Res.at,ob]at hb;omega
end
end Go.Sx
