import Derived.Test.YtmbppohkadmjgaaGreatSt
namespace Go.Sx
open Go.RowKit
structure Enc {α:Type} (enc:α->List Value) (sz:Nat):Prop where
 len:∀x,(enc x).length=sz
 one:∀x,(enc x).all (·.oneCell')=true
def CE{α:Type}(enc:α->List Value)(w:World)(p:Addr)(x:α):Prop:=cellsAt w p 0 (enc x)
abbrev Res.els{α:Type}(enc:α->List Value)(e:TypeId)(sz:Nat)(a:Option Addr)(c:Nat)(xs:List α):Res:=.row e sz a xs.length c (xs.flatMap enc)
theorem He{w w':World}:∀ {vs:List Value} {a:Addr} {i:Nat},(∀p u,w.cell? p=some u->p.block=a.block->w'.cell? p=some u)->cellsAt w a i vs->cellsAt w' a i vs
 | [],_,_,_,_=>trivial
 |_::_,a,i,h,hc=>⟨h _ _ hc.1 (Qo a i),He h hc.2⟩
section
variable{α:Type}{enc:α->List Value}{sz:Nat}{w w':World}{a:Option Addr}{xs ys zs:List α}
theorem Gl(hE:Enc enc sz):(xs.flatMap enc).length=xs.length*sz:=by
 induction xs with
 |nil=>simp
 |cons x xs ih=>simp[ih,hE.len,dI];omega
theorem Ahx(hE:Enc enc sz):∀ {xs:List α} {i j:Nat} (hi:i<xs.length),j<sz->(xs.flatMap enc)[i*sz+j]?=(enc xs[i])[j]?
 |x::xs,0,j,_,hj=>by
  rw[cB,Nat.zero_mul,aN,List.getElem?_append_left (by rw[hE.len];exact hj)];rfl
 |x::xs,i+1,j,hi,hj=>by
  rw[cB,List.getElem?_append_right (by rw[hE.len,dI];omega),hE.len,show (i+1)*sz+j-sz=i*sz+j by rw[dI];omega,Ahx hE (by simpa using hi) hj];rfl
theorem Aon(hE:Enc enc sz):∀u∈xs.flatMap enc,u.oneCell'=true:=fun u hu=>by
 simp only[List.mem_flatMap]at hu;obtain⟨x,_,hx⟩:=hu;exact bN.1 (hE.one x) u hx
theorem Ayg(hE:Enc enc sz){p:Addr}(h:SlR (CE enc) sz w (some p) xs):∀j u,(xs.flatMap enc)[j]?=some u->w.cell? (p.add j)=some u:=by
 intro j u hu;have hlt:j<xs.length*sz:=by rw[<-Gl hE];exact(List.getElem?_eq_some_iff.1 hu).1
 have hsz:0<sz:=by
  rcases dK sz with h|h
  ·subst h;simp at hlt
  ·exact h
 have hi:j/sz<xs.length:=Nat.div_lt_of_lt_mul (by rw[Nat.mul_comm];exact hlt);have hm:=Nat.mod_lt j hsz;have e:j/sz*sz+j%sz=j:=by rw[Nat.mul_comm];exact Nat.div_add_mod j sz
 rw[<-e,Ahx hE hi hm]at hu;obtain⟨b,hb,hc⟩:=h.get hi;injection hb with hb;subst hb
 have:=Bc hc (j%sz) u hu;rw[aN,Ls,e]at this;exact this
theorem An6(hE:Enc enc sz){p:Addr}(h:∀j u,(xs.flatMap enc)[j]?=some u->w.cell? (p.add j)=some u):SlR (CE enc) sz w (some p) xs:=by
 refine .inr ⟨p,rfl,fun i hi=>?_⟩;refine cellsAt_of' fun j hj=>?_;have hj':j<sz:=by rw[hE.len]at hj;exact hj
 rw[aN,Ls];have e:=Ahx hE hi hj';rw[List.getElem?_eq_getElem hj]at e ⊢;exact h _ _ e
where cellsAt_of' {w:World} {a:Addr}:∀ {es:List Value} {i:Nat},(∀j,j<es.length->w.cell? (a.add (i+j))=es[j]?)->cellsAt w a i es
 | [],_,_=>trivial
 |v::vs,i,h=>⟨by simpa using h 0 (by simp),cellsAt_of' fun j hj=>by
  have:=h (j+1) (by simp;omega);rw[show i+1+j=i+(j+1) by omega,this];simp⟩
theorem SlR.belowE(h:SlR (CE enc) sz w a xs)(hb:Below w.heap.size w w'):SlR (CE enc) sz w' a xs:=
 h.keep fun _ _ hc=>He (fun _ _ hp _=>hb.get hp) hc
theorem Atv(h:SlR (CE enc) sz w a xs):Held (All w) w fun w=>SlR (CE enc) sz w a xs:=
 ⟨fun _ h=>h,fun w' hw=>h.keep fun p x hc=>He (fun q u hq _=>(World.cell?_of_block (w:=w) (hw q.block (Dv hq))).trans hq) hc⟩
theorem ixE{E:World->Addr->α->Prop}(hs:SlR E sz w a xs)(i:Nat){j:Int}(hj:j=i)(hi:i<xs.length){F:Addr->Prop}
 (h:∀b x,xs[i]?=some x->E w (b.add (j.toNat*sz)) x->F b):kIx a xs.length j F:=by
 subst hj;obtain⟨b,rfl,hb⟩:=hs.get hi;exact⟨b,rfl,⟨by omega,by omega⟩,h b _ (List.getElem?_eq_getElem hi) (by rw[bK];exact hb)⟩
theorem Kh{p:Addr}{vs:List Value}(h:cellsAt w p 0 vs)(j:Nat){k:IntKind}{x:Int}(hv:vs[j]?=some (.int k x)){F:Int->Prop}(hF:F x):kLd w (p.add j) k F:=
 ⟨x,by have:=Bc h j _ hv;rwa[aN]at this,hF⟩
theorem SlR.cutE{E:World->Addr->α->Prop}(h:SlR E sz w a xs){m l:Nat}(hm:xs.length<=m)(n:Nat):SlR E sz w (Ay m l sz a) ((xs.drop l).take n):=by
 rcases h with rfl|⟨b,rfl,hc⟩
 ·exact .inl (by simp)
 unfold Ay;by_cases hl:m=l
 ·rw[aF hl];exact .inl (by rw[bZ (by omega)];simp)
 ·rw[aE hl];refine .inr ⟨_,rfl,fun i hi=>?_⟩;simp only[aU,bJ]at hi;have:=hc (l+i) (by omega);simp only[bX,cT];rw[Ls,<-Nat.add_mul];exact this
theorem SlR.tailE{E:World->Addr->α->Prop}(h:SlR E sz w a xs){m l:Nat}(hm:xs.length<=m):SlR E sz w (Ay m l sz a) (xs.drop l):=by
 have:=h.cutE (l:=l) hm (xs.length);rwa[bY (by simp)]at this
theorem SlR.preE{E:World->Addr->α->Prop}(h:SlR E sz w a xs)(m n:Nat):SlR E sz w (Ay m 0 sz a) (xs.take n):=by
 have e:Ay m 0 sz a=a:=by
  unfold Ay;split
  ·rfl
  ·cases a<;>simp[add_zero]
 rw[e];rcases h with rfl|⟨b,rfl,hc⟩
 ·exact .inl (by simp)
 ·refine .inr ⟨b,rfl,fun i hi=>?_⟩;simp only[bX];exact hc i (by simp at hi;omega)
end
section
variable{A0:Nat->Prop}{M:List Nat}{w0 w w':World}{R:List Res}{P Q:World->Prop}{i b o:Nat}{t e:TypeId}{sz c bytes:Nat}{a:Option Addr}{z:Value}{Pr:Program}
variable{α:Type}{enc:α->List Value}{ys zs:List α}
theorem Sb(hE:Enc enc sz)(h:(Res.els enc e sz a c ys).ok w):SlR (CE enc) sz w a ys:=by
 have h:Own w 0 e sz a ys.length c (ys.flatMap enc):=h;rcases dK (ys.flatMap enc).length with h0|h0
 ·rcases dK ys.length with hy|hy
  ·exact .inl (aK hy)
  ·obtain⟨g,cap,cur,hv,_⟩:∃g cap cur,Value.slice a ys.length c=.slice (some ⟨g,0,none⟩) ys.length cap/\w.heap[g]?=some (.cells cur e (0,0)):=by
    rcases h.2 with ⟨_,h⟩|⟨g,cap,cur,hv,_,hh,_⟩
    ·omega
    ·exact⟨g,cap,cur,hv,hh⟩
   injection hv with ha
   subst ha;refine An6 hE fun j u hu=>?_;rw[List.getElem?_eq_none (by omega)]at hu;cases hu
 ·obtain⟨g,rfl,hc⟩:=h.cells h0;exact An6 hE hc
theorem St.slE(H:St A0 M w0 w R P)(hE:Enc enc sz)(hi:R[i]?=some (.els enc e sz a c ys)):SlR (CE enc) sz w a ys:=Sb hE (H.ok i _ hi)
theorem St.capE(H:St A0 M w0 w R P)(hi:R[i]?=some (.els enc e sz a c ys)):ys.length<=c:=by
 have h:Own w 0 e sz a ys.length c (ys.flatMap enc):=H.ok i _ hi;rcases h.2 with ⟨hv,h0⟩|⟨g,cap,cur,hv,_,_,hnc,_⟩
 ·omega
 ·injection hv with _ _ h3;omega
theorem St.shareE(H:St A0 [] w0 w R P)(hE:Enc enc sz)(hi:R[i]?=some (.els enc e sz a c ys)):St A0 [] w0 w (R.set i .gone) fun w=>SlR (CE enc) sz w a ys/\P w:=
 (H.share hi).imp fun _ h=>⟨Sb hE h.1,h.2⟩
theorem St.nilE(H:St A0 M w0 w R P)(enc:α->List Value)(e:TypeId)(sz:Nat):St A0 M w0 w (R++[.els enc e sz none 0 []]) P:=H.newRow e sz
theorem Aws(hE:Enc enc sz)(a':Option Addr)(c':Nat):Res.row e sz a' (ys.length+zs.length) c' (ys.flatMap enc++zs.flatMap enc)=.els enc e sz a' c' (ys++zs):=by simp[Res.els]
theorem St.appE(H:St A0 M w0 w R P)(hE:Enc enc sz)(hi:R[i]?=some (.els enc e sz a c ys))(hT:SlTy Pr t e sz bytes z){p:Option Addr}{c2:Nat}(hs:SlR (CE enc) sz w p zs)
 (hbytes:(ys.length+zs.length)*bytes<=140737488355328) (h63:ys.length+zs.length<=4611686018427387904) {ty:TypeId} {F:Option Addr->Nat->Nat->World->Prop}
 (h:∀a' c' w',St A0 M w0 w' (R.set i (.els enc e sz a' c' (ys++zs))) P->F a' (ys++zs).length c' w'):Da Pr #[t,t] ty #[.slice a ys.length c,.slice p zs.length c2] w F:=by
 cases p with
 |none=>
  obtain rfl:zs=[]:=by
   rcases hs with h|⟨b,hb,_⟩
   ·exact h
   ·cases hb
  refine H.appNil hi hT ?_;have:=h a c w (by rw[aL];rw[Ds hi];exact H);simpa using this
 |some p=>
  refine H.app hi hT (news:=zs.flatMap enc) (Gl hE) (Ayg hE hs) (Aon hE) hbytes h63 fun a' c' w' H'=>?_;have e1:(ys++zs).length=ys.length+zs.length:=by simp
  rw[<-e1];refine h a' c' w' ?_;rwa[Aws hE]at H'
theorem St.appEB(H:St A0 M w0 w R P)(hE:Enc enc sz)(hi:R[i]?=some (.els enc e sz a c ys)){j g:Nat}{t0:TypeId}(zs:List α)(hj:R[j]?=some (.blk g t0 (zs.flatMap enc)))(hT:SlTy Pr t e sz bytes z){c2 m:Nat}(hm:m=zs.length)
 (hbytes:(ys.length+zs.length)*bytes<=140737488355328) (h63:ys.length+zs.length<=4611686018427387904) {ty:TypeId} {F:Option Addr->Nat->Nat->World->Prop}
 (h:∀a' c' w',St A0 M w0 w' ((R.set i (.els enc e sz a' c' (ys++zs))).set j .gone) P->F a' (ys++zs).length c' w'):Da Pr #[t,t] ty #[.slice a ys.length c,.slice (some ⟨g,0,none⟩) m c2] w F:=by
 subst hm;refine H.appBlk hi hj hT (Gl hE) (bN.2 (Aon hE)) hbytes h63 fun a' c' w' H'=>?_;have e1:(ys++zs).length=ys.length+zs.length:=by simp
 rw[<-e1];refine h a' c' w' ?_;rwa[Aws hE]at H'
theorem St.litE(H:St A0 M w0 w R P)(hE:Enc enc sz)(zs:List α)(hi:R[i]?=some (.blk b t (zs.flatMap enc)))(hm:zs.length<=maxLen):St A0 M w0 w (R.set i (.els enc t sz (some ⟨b,0,none⟩) zs.length zs)) P:=by
 have:=H.blkRow hi sz zs.length zs.length (Gl hE) (aG _) hm;have e2:(zs.flatMap enc).take (zs.length*sz)=zs.flatMap enc:=bY (by rw[Gl hE];exact aG _);rwa[e2]at this
theorem St.slBlk(H:St A0 M w0 w R P)(hE:Enc enc sz)(zs:List α)(hi:R[i]?=some (.blk b t (zs.flatMap enc))):SlR (CE enc) sz w (some ⟨b,0,none⟩) zs:=
 An6 hE fun j u hu=>by rw[Bd,aN];exact H.cell hi hu
theorem St.nat(H:St A0 M w0 w R P){i j:Nat}{r s:Res}{b:Nat}(hi:R[i]?=some r)(hj:R[j]?=some s)(hij:i≠j)(hr:r.at=some b):b∉s.at.toList:=fun h=>H.apart i j r s hi hj hij b hr (by simpa using h)
theorem St.shareM(H:St A0 M w0 w R P){r:Res}(hi:R[i]?=some r)(hm:∀b,r.at=some b->b∉M):St A0 M w0 w (R.set i .gone) fun w=>r.ok w/\P w:=by
 have H1:=H.upd (r':=.gone) (w':=w) hi ⟨rfl,rfl,rfl,aG _,fun _ _ _=>rfl⟩ trivial (fun b hb=>by cases hb);obtain⟨A,hA,hA1,hA2⟩:=H.held;have hlt:i<R.length:=by
  rcases aT i R.length with h|h
  ·exact h
  ·rw[List.getElem?_eq_none h]at hi;cases hi
 refine⟨H1.fr,H1.ok,H1.mine,H1.apart,fun b=>r.at=some b\/A b,⟨fun b hb=>?_,fun w' hw=>⟨?_,hA.out w' fun b hb=>hw b (.inr hb)⟩⟩,fun b hb=>?_,?_⟩
 ·rcases hb with hb|hb
  ·exact(H.ok i r hi).lt hb
  ·exact hA.lt b hb
 ·exact(H.ok i r hi).keep fun b hb=>hw b (.inl hb)
 ·rcases hb with hb|hb
  ·rcases H.mine i r hi b hb with h|h
   ·exact .inr h
   ·exact absurd h (hm b hb)
  ·exact hA1 b hb
 ·intro j s hj b hb hAb;by_cases hji:j=i
  ·subst hji;rw[List.getElem?_set_self hlt]at hj;injection hj with hj;subst hj;cases hb
  ·rw[List.getElem?_set_ne (Ne.symm hji)]at hj;rcases hAb with h|h
   ·exact H.apart j i s r hj hi hji b hb h
   ·exact hA2 j s hj b hb h
theorem St.shareMI(H:St A0 M w0 w R P){k:IntKind}{ys:List Int}(hi:R[i]?=some (.ints e k a c ys))(hm:∀b,(Res.ints e k a c ys).at=some b->b∉M):St A0 M w0 w (R.set i .gone) fun w=>SlR (Bp k) 1 w a ys/\P w:=
 (H.shareM hi hm).imp fun _ h=>⟨(Oj h.1).sl,h.2⟩
theorem St.hold(H:St (All w0) [] w0 w R P)(h:Held (All w0) w0 Q):St (All w0) [] w0 w R fun w=>Q w/\P w:=by
 obtain⟨A,hA,hA1,hA2⟩:=H.held;have h':=h.below H.below;refine⟨H.fr,H.ok,H.mine,H.apart,fun b=>All w0 b\/A b,h'.and hA,?_,?_⟩
 ·rintro b (hb|hb)
  ·exact .inl hb
  ·exact hA1 b hb
 ·intro i r hi b hb hAb;rcases hAb with h2|h2
  ·rcases H.mine i r hi b hb with h3|h3
   ·unfold All at h2;omega
   ·simp at h3
  ·exact hA2 i r hi b hb h2
theorem St.freshRow(H:St A0 [] w0 w R P){r:Res}(hi:R[i]?=some r):Ti w0 w r.ok:=by
 refine⟨H.fr,fun i r h=>by simp at h,fun i r h=>by simp at h,fun i j r s h=>by simp at h,fun b=>r.at=some b,⟨fun b hb=>(H.ok i r hi).lt hb,fun w' hw=>(H.ok i r hi).keep fun b hb=>hw b hb⟩,fun b hb=>?_,fun i r h=>by simp at h⟩;rcases H.mine i r hi b hb with h|h
 ·exact .inr h
 ·simp at h
theorem St.freshI(H:St A0 [] w0 w R P){k:IntKind}{ys:List Int}(hi:R[i]?=some (.ints e k a c ys)):Ti w0 w fun w=>SlR (Bp k) 1 w a ys:=(H.freshRow hi).imp fun _ h=>(Oj h).sl
theorem St.startA(w:World):St (All w) [] w w [] fun _=>True:=.start ⟨fun _ h=>h,fun _ _=>trivial⟩
end
theorem Au9{B:Nat}{a b c:World}(h:Below B a b)(k:Below B a c):KeepsB (· <B) b c:=fun p _ hp hc=>(World.cell?_of_block (w:=b) ((k.block p.block hp).trans (h.block p.block hp).symm)).trans hc
end Go.Sx
