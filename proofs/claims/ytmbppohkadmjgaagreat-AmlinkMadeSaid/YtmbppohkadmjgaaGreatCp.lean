import Derived.Test.YtmbppohkadmjgaaGreatEl2
import Derived.Lib.AppendZerosOnto
import Derived.Lib.Overlaps
import Derived.ArgAppend
namespace Go.Sx
open Go.RowKit
theorem Aqw(P:Program)(w:World)(dT sT ty elem:TypeId)(g o dLen dCap:Nat)(a:Addr)(sLen sCap sz:Nat)(cur:Array Value)(t:TypeId)(cs:List Value)
 (hu:P.underlying dT=some (.slice elem)) (hs:(P.info? elem).map (·.size)=some sz)
 (hg:w.heap[g]?=some (.cells cur t (0,0))) (hn:cs.length=Nat.min sLen dLen*sz)
 (hsrc:∀j v,cs[j]?=some v→w.cell? (a.add j)=some v) (hfit:o+cs.length≤cur.size) (h1:∀v∈cs,v.oneCell'=true):
 (Builtin.copy_ #[dT,sT] ty #[.slice (some ⟨g,o,none⟩) dLen dCap,.slice (some a) sLen sCap]).run P w=
  .ok (goInt (Nat.min sLen dLen)) (w.setRow g (cur.toList.take o++cs++cur.toList.drop (o+cs.length)).toArray):=by
 have hl:=run_loadCells_list (P:=P) w a cs hsrc;have hst:=run_storeCells_at P g o t cs 0 cur w hg (by simpa using hfit) h1;cases hq:P.info? elem with
 |none=>simp[hq]at hs
 |some i=>
  have hi:i.size=sz:=by simpa [hq] using hs
  simp[Builtin.copy_,run_underlying hu,Builtin.lenOf,Builtin.firstCells,sizeOf,typeInfo,hq,hi,←hn,hl,hst]
section
variable{A0:Nat→Prop}{M:List Nat}{w0 w w':World}{R:List Res}{P Q:World→Prop}{i j b o g:Nat}{t e T:TypeId}{sz c n bytes:Nat}{v z:Value}{xs:List Value}{Pr:Program}
variable{α:Type}{enc:α→List Value}{ys zs:List α}
theorem Yo{α:Type}{l:List α}{i:Nat}{x:α}(h:l[i]?=some x):i<l.length:=(List.getElem?_eq_some_iff.1 h).1
theorem St.copyB(H:St A0 M w0 w R P){cur:List Value}(hi:R[i]?=some (.blk g T cur)){dT sT ty elem:TypeId}(hu:Pr.underlying dT=some (.slice elem))(hs:(Pr.info? elem).map (·.size)=some sz)
 {dLen dCap sLen sCap:Nat} {p:Addr} (X Y Z cs:List Value) (hcur:cur=X++Y++Z) (ho:X.length=o) (hY:Y.length=cs.length) (hn:cs.length=Nat.min sLen dLen*sz)
 (hsrc:∀j v,cs[j]?=some v→w.cell? (p.add j)=some v) (h1:∀v∈cs,v.oneCell'=true) {F:Int→World→Prop}
 (h:∀n w',St A0 M w0 w' (R.set i (.blk g T (X++cs++Z))) P→F n w'):Afg Pr #[dT,sT] ty #[.slice (some ⟨g,o,none⟩) dLen dCap,.slice (some p) sLen sCap] w F:=by
 have hB:Blk w g T cur.toArray:=H.ok i _ hi;have hfit:o+cs.length≤cur.toArray.size:=by rw[hcur];simp;omega
 have e:cur.toArray.toList.take o++cs++cur.toArray.toList.drop (o+cs.length)=X++cs++Z:=by
  have e1:cur.take o=X:=by rw[hcur,aZ,←ho];exact dP
  have e2:cur.drop (o+cs.length)=Z:=by
   have:o+cs.length=(X++Y).length:=by simp;omega
   rw[hcur,this];exact List.drop_left
  rw[e1,e2]
 refine⟨_,_,Aqw Pr w dT sT ty elem g o dLen dCap p sLen sCap sz cur.toArray T cs hu hs hB hn hsrc hfit h1,?_⟩;rw[e];refine h _ _ (H.upd hi ⟨rfl,rfl,rfl,by simp[World.setRow],fun k _ hk=>setRow_other w g k _ fun e=>hk (by rw[e];rfl)⟩ (show Blk _ _ _ _ from ?_) fun g hg=>.inl hg);exact setRow_heap w g _ _ T _ hB
theorem St.rowBlk(H:St A0 M w0 w R P)(hi:R[i]?=some (.row e sz (some ⟨g,0,none⟩) n c xs)):∃rest:List Value,xs.length+rest.length=c*sz∧c≤maxLen∧n≤c∧St A0 M w0 w (R.set i (.blk g e (xs++rest))) P:=by
 rcases (H.row hi).2 with ⟨hv,_⟩|⟨g',cap,cur,hv,_,hh,hnc,hcm,hcs,ht⟩
 ·cases hv
 injection hv with hv1 _ hv3
 injection hv1 with hv1
 injection hv1 with hv1 _ _
 subst hv1;subst hv3;have e1:xs++cur.toList.drop (n*sz)=cur.toList:=by rw[←ht];exact bR _ _
 refine⟨cur.toList.drop (n*sz),?_,hcm,hnc,H.upd hi ⟨rfl,rfl,rfl,aG _,fun _ _ _=>rfl⟩ (show Blk _ _ _ _ from ?_) fun g hg=>.inl hg⟩
 ·rw[←aP,e1];simpa using hcs
 ·rw[e1,Array.toArray_toList];exact hh
theorem St.growZ(H:St A0 M w0 w R P)(hE:Enc enc sz){a:Option Addr}(hi:R[i]?=some (.els enc e sz a c ys))(hT:SlTy Pr t e sz bytes z){u:TypeId}{k2:IntKind}(hu:Pr.underlying u=some (.int k2))(k m:Nat)(hk:k≤ys.length)(h0:0<ys.length)(hm:0<m)(hg:c<k+m){x:Int}(hx:x=m)
 (hbytes:(k+m)*bytes≤140737488355328) (h63:k+m≤4611686018427387904) {ty:TypeId} {F:Option Addr→Nat→Nat→World→Prop}
 (h:∀g' c' w' Z,k+m≤c'→c'≤maxLen→k*sz+Z.length=c'*sz→St A0 M w0 w' (R++[.blk g' e ((ys.take k).flatMap enc++Z)]) P→F (some ⟨g',0,none⟩) (k+m) c' w'):Da Pr #[t,u] ty #[.slice a k c,.int .i64 x] w F:=by
 subst hx;obtain⟨inf,hinf,hz,hs,hb⟩:=hT.info;obtain⟨g,rfl,hat,hnc⟩:=H.rowSome hi h0;have hO:Own w 0 e sz (some ⟨g,0,none⟩) ys.length c (ys.flatMap enc):=H.ok i _ hi;have hol:((ys.take k).flatMap enc).length=k*sz:=by rw[Gl hE,aU,bQ hk]
 have holds:∀j u,((ys.take k).flatMap enc)[j]?=some u→w.cell? ((⟨g,0,none⟩:Addr).add j)=some u:=fun j u hj=>by
  have e1:ys.flatMap enc=(ys.take k).flatMap enc++(ys.drop k).flatMap enc:=by rw[←dW,bR]
  refine World.ownsRow.cells hO (g:=g) rfl j u ?_;rw[e1,List.getElem?_append_left (Yo hj)];exact hj
 have hfo:=run_firstCells_some (P:=Pr) w.drew sz k ⟨g,0,none⟩ k c _ hol (by simpa using holds);have hfit:=growslice_fits (need:=k+m) (old:=c) (bytes:=inf.bytes) (by omega) (by rw[hb];exact hbytes);have hge:=grownCap_ge w (k+m) c e;have hcm:grownCap w (k+m) c e≤maxLen:=grownCap_le_maxLen w (k+m) c e (by unfold maxLen;omega);have hmb:m*bytes≤(k+m)*bytes:=cR _ (Nat.le_add_left _ _);refine⟨_,_,_,_,Go.Lib.run_append_grow_zeros (P:=Pr) w t u ty e inf z .i64 k2 hT.ht hu hinf hz (some ⟨g,0,none⟩) k c _ (by rw[hs];exact hfo) m hm (by rw[hs];exact hT.pos) hg (by omega) (by rw[hb];omega) hfit,?_⟩;refine h _ _ _ ((Builtin.zeroCells z.cells m).toList++(Builtin.zeroCells z.cells (grownCap w (k+m) c e-(k+m))).toList) hge hcm ?_ ?_
 ·simp only[aP,Array.length_toList,size_zeroCells,hT.hz];rw[←Nat.add_mul,←Nat.add_mul];congr 1;omega
 ·refine H.add ⟨rfl,rfl,rfl,by simp,fun k hk=>heap_alloc_old w.drew _ hk⟩ (show Blk _ _ _ _ from ?_) (fun b hb=>by simp[Res.at]at hb;omega);have:=heap_alloc_new w.drew (.cells (((ys.take k).flatMap enc).toArray++Builtin.zeroCells z.cells m++Builtin.zeroCells z.cells (grownCap w (k+m) c e-(k+m))) e);unfold Blk;have e9:((ys.take k).flatMap enc++((Builtin.zeroCells z.cells m).toList++(Builtin.zeroCells z.cells (grownCap w (k+m) c e-(k+m))).toList)).toArray=((ys.take k).flatMap enc).toArray++Builtin.zeroCells z.cells m++Builtin.zeroCells z.cells (grownCap w (k+m) c e-(k+m)):=by
   apply Array.ext';simp
  rw[e9];exact this
theorem St.lastAt{r:Res}(H:St A0 M w0 w (R++[r]) P)(hi:i<R.length):St A0 M w0 w (R.set i r) P:=by
 refine H.sub (fun k=>if k=i then R.length else k) (fun k s hk=>?_) (fun k l hk hl h=>?_)
 ·by_cases hki:k=i
  ·subst hki;rw[List.getElem?_set_self hi]at hk;rw[aF rfl,List.getElem?_append_right (aG _)];simpa using hk
  ·rw[List.getElem?_set_ne (Ne.symm hki)]at hk;rw[aE hki,List.getElem?_append_left (Yo hk)];exact hk
 ·simp only[bE]at hk hl;split at h<;>split at h<;>omega
theorem Asa{fn:Func}{f tS tR el:Nat}(hf:Pr.funcs[f]?=some fn)(hname:(fn.name == "runtime.NumGoroutine")=false)(hb:fn.body.isNone=true)(hn:Extern.findNext fn=none)(he:Extern.find fn=some (Extern.SlicesOverlaps.overlaps #[tS,tS] #[tR]))
 (ht:Pr.underlying tS=some (.slice el)) (hs:(Pr.info? el).map (·.size)=some sz) {g1 g2 o1 o2 l1 l2 c1 c2:Nat} {T1 T2:TypeId} {cs1 cs2:Array Value} (hne:g1≠g2) (h1:Blk w g1 T1 cs1) (h2:Blk w g2 T2 cs2) (h0:0<cs2.size) {R:Ending→World→Prop}
 (h:R (.returned (.bool false)) w):Bbq Pr f #[.slice (some ⟨g1,o1,none⟩) l1 c1,.slice (some ⟨g2,o2,none⟩) l2 c2] w R:=by
 refine⟨.bool false,w,?_,h⟩;rw[run_callFunc_extern hf hname hb hn he];have hz:∀w,(Go.sizeOf el).run Pr w=.ok sz w:=fun w=>by
  cases hq:Pr.info? el with
  |none=>simp[hq]at hs
  |some i=>
   have hi:i.size=sz:=by simpa [hq] using hs
   simp[sizeOf,typeInfo,hq,hi]
 rw[Go.Lib.run_overlaps_apart w tS tR el ht sz hz ⟨g1,o1,none⟩ ⟨g2,o2,none⟩ l1 c1 l2 c2 hne T1 T2 cs1.size cs2.size (by unfold World.shape?;rw[show w.heap[g1]?=_ from h1]) (by unfold World.shape?;rw[show w.heap[g2]?=_ from h2]) (by omega)
  (by unfold World.frozen?;simp[show w.heap[g1]?=_ from h1]) (by unfold World.frozen?;simp[show w.heap[g1]?=_ from h1])]
 rfl
end
end Go.Sx
