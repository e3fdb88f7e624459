import Derived.Test.YtmbppohkadmjgaaGreatKc
import Derived.Test.YtmbppohkadmjgaaGreatHp
namespace Go.Sx
open Go.RowKit
structure Held (A:Nat->Prop) (w:World) (P:World->Prop):Prop where
 lt:∀b,A b->b<w.heap.size
 out:∀w':World,(∀b,A b->w'.heap[b]?=w.heap[b]?)->P w'
section
variable{A A':Nat->Prop}{w w':World}{P Q:World->Prop}
theorem Held.get(h:Held A w P):P w:=h.out w fun _ _=>rfl
theorem Held.mono(h:Held A w P)(f:∀w,P w->Q w):Held A w Q:=⟨h.lt,fun w' k=>f _ (h.out w' k)⟩
theorem Held.step(h:Held A w P)(hs:w.heap.size<=w'.heap.size)(hb:∀b,A b->w'.heap[b]?=w.heap[b]?):Held A w' P:=
 ⟨fun b hA=>Nat.lt_of_lt_of_le (h.lt b hA) hs,fun w2 k=>h.out w2 fun b hA=>(k b hA).trans (hb b hA)⟩
theorem Held.below(h:Held A w P)(hb:Below w.heap.size w w'):Held A w' P:=h.step hb.size fun b hA=>hb.block b (h.lt b hA)
theorem Held.and(h:Held A w P)(k:Held A' w Q):Held (fun b=>A b\/A' b) w fun w=>P w/\Q w:=
 ⟨fun b hA=>hA.elim (h.lt b) (k.lt b),fun w' hk=>⟨h.out w' fun b hA=>hk b (.inl hA),k.out w' fun b hA=>hk b (.inr hA)⟩⟩
theorem Held.no(w:World):Held (fun _=>False) w fun _=>True:=⟨fun _ h=>h.elim,fun _ _=>trivial⟩
end
structure Fr (M:List Nat) (w w':World):Prop where
 os:w'.os=w.os
 tape:w'.tape=w.tape
 output:w'.output=w.output
 size:w.heap.size<=w'.heap.size
 block:∀k,k<w.heap.size->k∉M->w'.heap[k]?=w.heap[k]?
theorem Fr.refl(M:List Nat)(w:World):Fr M w w:=⟨rfl,rfl,rfl,aG _,fun _ _ _=>rfl⟩
theorem Fr.below{w w':World}(h:Fr [] w w'):Below w.heap.size w w':=⟨h.os,h.tape,h.output,h.size,fun k hk=>h.block k hk (by simp)⟩
theorem Fr.trans{M M':List Nat}{a b c:World}(h:Fr M a b)(k:Fr M' b c)(hM:∀x∈M',x∈M\/a.heap.size<=x):Fr M a c:=
 ⟨k.os.trans h.os,k.tape.trans h.tape,k.output.trans h.output,cG h.size k.size,fun i hi hn=>
  (k.block i (Nat.lt_of_lt_of_le hi h.size) (fun hm=>(hM i hm).elim hn (fun h2=>by omega))).trans (h.block i hi hn)⟩
theorem Fr.keeps{M:List Nat}{w w':World}(h:Fr M w w'):KeepsB (fun x=>x<w.heap.size/\x∉M) w w':=fun p _ hp hc=>(World.cell?_of_block (w:=w) (h.block p.block hp.1 hp.2)).trans hc
theorem _root_.Go.RowKit.Below.fr{w w':World}(h:Below w.heap.size w w')(M:List Nat):Fr M w w':=⟨h.os,h.tape,h.output,h.size,fun k hk _=>h.block k hk⟩
theorem Fr.tr{M M':List Nat}{a b c:World}(h:Fr M a b)(k:Fr M' b c)(hM:∀x∈M',x∈M):Fr M a c:=h.trans k fun x hx=>.inl (hM x hx)
theorem Bbh{S:Nat->Prop}{a b c:World}(h:KeepsB S a b)(k:KeepsB (fun _=>True) b c):KeepsB S a c:=fun p u hp hc=>k p u trivial (h p u hp hc)
theorem _root_.Go.RowKit.Below.frs{B:Nat}{a w w':World}{M:List Nat}(h:Below B a w)(f:Fr M w w')(hM:∀x∈M,B<=x)(hB:B<=w.heap.size):Below B a w':=
 h.trans ⟨f.os,f.tape,f.output,f.size,fun k hk=>f.block k (by omega) fun hm=>by have:=hM k hm;omega⟩
theorem SlR.pre{k:IntKind}{w:World}{a:Option Addr}{xs:List Int}(h:SlR (Bp k) 1 w a xs)(m n:Nat):SlR (Bp k) 1 w (Ay m 0 1 a) (xs.take n):=by
 have e:Ay m 0 1 a=a:=by
  unfold Ay;split
  ·rfl
  ·cases a<;>simp[add_zero]
 rw[e];rcases h with rfl|⟨b,rfl,hc⟩
 ·exact .inl (by simp)
 ·refine .inr ⟨b,rfl,fun i hi=>?_⟩;simp only[bX];exact hc i (by simp at hi;omega)
theorem Ay3{x a:Nat}(h:x≠a):x∉[a]:=by simpa using h
theorem Bdc{x a b:Nat}(h:x≠a)(k:x≠b):x∉[a,b]:=by simp[h,k]
inductive Res where
 |gone
 |blk (b:Nat) (t:TypeId) (cs:List Value)
 |row (e:TypeId) (sz:Nat) (a:Option Addr) (n c:Nat) (xs:List Value)
 |map (r:Nat) (es:List (Int×Int))
def Res.at:Res->Option Nat
 |.gone=>none
 |.blk b _ _=>some b
 |.row _ _ a _ _ _=>ob a
 |.map r _=>some r
def Res.ok(w:World):Res->Prop
 |.gone=>True
 |.blk b t cs=>Blk w b t cs.toArray
 |.row e sz a n c xs=>Own w 0 e sz a n c xs
 |.map r es=>Az6 w r es
section
variable{w w':World}{r:Res}
theorem Res.ok.lt(h:r.ok w){b:Nat}(hb:r.at=some b):b<w.heap.size:=by
 cases r with
 |gone=>cases hb
 |blk b' t cs=>simp only[Res.at,Option.some.injEq]at hb;subst hb;exact Blk.lt h
 |row e sz a n c xs=>exact(Own.lt h hb).2
 |map r es=>
  simp only[Res.at,Option.some.injEq]at hb;subst hb;obtain⟨arr,clock,h,_⟩:=h;rcases aT r w.heap.size with h'|h'
  ·exact h'
  ·rw[Array.getElem?_eq_none h']at h;cases h
theorem Res.ok.keep(h:r.ok w)(hk:∀b,r.at=some b->w'.heap[b]?=w.heap[b]?):r.ok w':=by
 cases r with
 |gone=>trivial
 |blk b t cs=>exact(hk b rfl).trans h
 |row e sz a n c xs=>exact Own.keep h hk
 |map r es=>
  obtain⟨arr,clock,h,h2⟩:=h;exact⟨arr,clock,(hk r rfl).trans h,h2⟩
end
structure St (A0:Nat->Prop) (M:List Nat) (w0 w:World) (R:List Res) (P:World->Prop):Prop where
 fr:Fr M w0 w
 ok:∀(i:Nat) (r:Res),R[i]?=some r->r.ok w
 mine:∀(i:Nat) (r:Res),R[i]?=some r->∀b,r.at=some b->w0.heap.size<=b\/b∈M
 apart:∀(i j:Nat) (r s:Res),R[i]?=some r->R[j]?=some s->i≠j->∀b,r.at=some b->s.at≠some b
 held:∃A,Held A w P/\(∀b,A b->A0 b\/w0.heap.size<=b)/\∀(i:Nat) (r:Res),R[i]?=some r->∀b,r.at=some b->¬A b
theorem Ds{α:Type}{l:List α}{i:Nat}{x:α}(h:l[i]?=some x):l.set i x=l:=by
 apply List.ext_getElem?;intro j;by_cases hj:i=j
 ·subst hj;have:i<l.length:=by
   rcases aT i l.length with h'|h'
   ·exact h'
   ·rw[List.getElem?_eq_none h']at h;cases h
  rw[List.getElem?_set_self this,h]
 ·rw[List.getElem?_set_ne hj]
section
variable{A0:Nat->Prop}{M:List Nat}{w0 w w':World}{R:List Res}{P Q:World->Prop}
theorem St.get(H:St A0 M w0 w R P):P w:=by obtain⟨A,h,_⟩:=H.held;exact h.get
theorem St.below(H:St A0 [] w0 w R P):Below w0.heap.size w0 w:=H.fr.below
theorem St.imp(H:St A0 M w0 w R P)(f:∀w,P w->Q w):St A0 M w0 w R Q:=by
 obtain⟨A,h,k⟩:=H.held;exact⟨H.fr,H.ok,H.mine,H.apart,A,h.mono f,k⟩
theorem St.start(h:Held A0 w P):St A0 [] w w [] P:=
 ⟨.refl _ _,fun i r h=>by simp at h,fun i r h=>by simp at h,fun i j r s h=>by simp at h,A0,h,fun b hb=>.inl hb,fun i r h=>by simp at h⟩
theorem St.nil(w:World):St (fun _=>False) [] w w [] fun _=>True:=.start (.no w)
theorem St.startM{r:Res}(h:Held A0 w P)(hr:r.ok w)(hn:∀b,r.at=some b->¬A0 b):St A0 r.at.toList w w [r] P:=by
 have one:∀(i:Nat) (s:Res),[r][i]?=some s->i=0/\s=r:=fun i s h=>by
  cases i with
  |zero=>simp at h;exact⟨rfl,h.symm⟩
  |succ i=>simp at h
 refine⟨.refl _ _,?_,?_,?_,A0,h,fun b hb=>.inl hb,?_⟩
 ·intro i s h;obtain⟨rfl,rfl⟩:=one i s h;exact hr
 ·intro i s h g hg;obtain⟨rfl,rfl⟩:=one i s h;exact .inr (by rw[hg];simp)
 ·intro i j s u hi hj hij;exact absurd ((one i s hi).1.trans (one j u hj).1.symm) hij
 ·intro i s h g hg;obtain⟨rfl,rfl⟩:=one i s h;exact hn g hg
theorem St.upd(H:St A0 M w0 w R P){i:Nat}{r r':Res}(hi:R[i]?=some r)(hw:w.grownBy w' r.at)(hr:r'.ok w')(hat:∀b,r'.at=some b->r.at=some b\/w.heap.size<=b):St A0 M w0 w' (R.set i r') P:=by
 have hlt:i<R.length:=by
  rcases aT i R.length with h|h
  ·exact h
  ·rw[List.getElem?_eq_none h]at hi;cases hi
 have get:∀(j:Nat) (s:Res),(R.set i r')[j]?=some s->(j=i/\s=r')\/(j≠i/\R[j]?=some s):=fun j s h=>by
  by_cases hji:j=i
  ·subst hji;rw[List.getElem?_set_self hlt]at h;injection h with h;exact .inl ⟨rfl,h.symm⟩
  ·rw[List.getElem?_set_ne (Ne.symm hji)]at h;exact .inr ⟨hji,h⟩
 obtain⟨A,hA,hA1,hA2⟩:=H.held;have other:∀(j:Nat) (s:Res),j≠i->R[j]?=some s->∀b,s.at=some b->b<w.heap.size/\some b≠r.at:=fun j s hji hj b hb=>
  ⟨(H.ok j s hj).lt hb,fun e=>H.apart i j r s hi hj (Ne.symm hji) b e.symm hb⟩
 refine⟨?_,?_,?_,?_,A,?_,hA1,?_⟩
 ·refine⟨hw.os.trans H.fr.os,hw.tape.trans H.fr.tape,hw.output.trans H.fr.output,cG H.fr.size hw.size,fun k hk hn=>?_⟩;refine(hw.block k (Nat.lt_of_lt_of_le hk H.fr.size) fun e=>?_).trans (H.fr.block k hk hn);rcases H.mine i r hi k e.symm with h|h
  ·omega
  ·exact hn h
 ·intro j s hj;rcases get j s hj with ⟨_,rfl⟩|⟨hji,hj⟩
  ·exact hr
  ·exact(H.ok j s hj).keep fun b hb=>hw.block b (other j s hji hj b hb).1 (other j s hji hj b hb).2
 ·intro j s hj b hb;rcases get j s hj with ⟨_,rfl⟩|⟨hji,hj⟩
  ·rcases hat b hb with h|h
   ·exact H.mine i r hi b h
   ·exact .inl (cG H.fr.size h)
  ·exact H.mine j s hj b hb
 ·intro j k s u hj hk hjk b hb hb';rcases get j s hj with ⟨e1,rfl⟩|⟨hji,hj⟩<;>rcases get k u hk with ⟨e2,rfl⟩|⟨hki,hk⟩
  ·exact hjk (e1.trans e2.symm)
  ·rcases hat b hb with h|h
   ·exact H.apart i k r u hi hk (Ne.symm hki) b h hb'
   ·exact absurd ((H.ok k u hk).lt hb') (by omega)
  ·rename_i hjR;rcases hat b hb' with h|h
   ·exact H.apart j i s r hjR hi hji b hb h
   ·exact absurd ((H.ok j s hjR).lt hb) (by omega)
  ·exact H.apart j k s u hj hk hjk b hb hb'
 ·exact hA.step hw.size fun b hb=>hw.block b (hA.lt b hb) fun e=>hA2 i r hi b e.symm hb
 ·intro j s hj b hb hAb;rcases get j s hj with ⟨_,rfl⟩|⟨hji,hj⟩
  ·rcases hat b hb with h|h
   ·exact hA2 i r hi b h hAb
   ·exact absurd (hA.lt b hAb) (by omega)
  ·exact hA2 j s hj b hb hAb
theorem St.adds(H:St A0 M w0 w R P){R':List Res}(hw:Below w.heap.size w w')(hr:∀(i:Nat) (r:Res),R'[i]?=some r->r.ok w')(hat:∀(i:Nat) (r:Res),R'[i]?=some r->∀b,r.at=some b->w.heap.size<=b)
 (hap:∀(i j:Nat) (r s:Res),R'[i]?=some r->R'[j]?=some s->i≠j->∀b,r.at=some b->s.at≠some b):St A0 M w0 w' (R++R') P:=by
 have get:∀(j:Nat) (s:Res),(R++R')[j]?=some s->(j<R.length/\R[j]?=some s)\/(R.length<=j/\R'[j-R.length]?=some s):=fun j s h=>by
  rcases aT j R.length with hj|hj
  ·rw[List.getElem?_append_left hj]at h;exact .inl ⟨hj,h⟩
  ·rw[List.getElem?_append_right hj]at h;exact .inr ⟨hj,h⟩
 obtain⟨A,hA,hA1,hA2⟩:=H.held;refine⟨H.fr.trans (M':=[]) ⟨hw.os,hw.tape,hw.output,hw.size,fun k hk _=>hw.block k hk⟩ (by simp),?_,?_,?_,A,hA.below hw,hA1,?_⟩
 ·intro j s hj;rcases get j s hj with ⟨_,hj⟩|⟨_,hj⟩
  ·exact(H.ok j s hj).keep fun b hb=>hw.block b ((H.ok j s hj).lt hb)
  ·exact hr _ s hj
 ·intro j s hj b hb;rcases get j s hj with ⟨_,hj⟩|⟨_,hj⟩
  ·exact H.mine j s hj b hb
  ·exact .inl (cG H.fr.size (hat _ s hj b hb))
 ·intro j k s u hj hk hjk b hb hb';rcases get j s hj with ⟨l1,hj⟩|⟨l1,hj⟩<;>rcases get k u hk with ⟨l2,hk⟩|⟨l2,hk⟩
  ·exact H.apart j k s u hj hk hjk b hb hb'
  ·have h1:=(H.ok j s hj).lt hb;have h2:=hat _ u hk b hb';omega
  ·have h1:=(H.ok k u hk).lt hb';have h2:=hat _ s hj b hb;omega
  ·exact hap _ _ s u hj hk (by omega) b hb hb'
 ·intro j s hj b hb hAb;rcases get j s hj with ⟨_,hj⟩|⟨_,hj⟩
  ·exact hA2 j s hj b hb hAb
  ·have h1:=hA.lt b hAb;have h2:=hat _ s hj b hb;omega
theorem St.pass(H:St A0 M w0 w R P)(hw:Below w.heap.size w w'):St A0 M w0 w' R P:=by
 have:=H.adds (R':=[]) hw (fun i r h=>by simp at h) (fun i r h=>by simp at h) (fun i j r s h=>by simp at h);simpa using this
theorem St.add(H:St A0 M w0 w R P){r:Res}(hw:Below w.heap.size w w')(hr:r.ok w')(hat:∀b,r.at=some b->w.heap.size<=b):St A0 M w0 w' (R++[r]) P:=by
 have one:∀(i:Nat) (s:Res),[r][i]?=some s->i=0/\s=r:=fun i s h=>by
  cases i with
  |zero=>simp at h;exact⟨rfl,h.symm⟩
  |succ i=>simp at h
 refine H.adds hw ?_ ?_ ?_
 ·intro i s h;obtain⟨_,rfl⟩:=one i s h;exact hr
 ·intro i s h;obtain⟨_,rfl⟩:=one i s h;exact hat
 ·intro i j s u hi hj hij;exact absurd ((one i s hi).1.trans (one j u hj).1.symm) hij
theorem St.share(H:St A0 [] w0 w R P){i:Nat}{r:Res}(hi:R[i]?=some r):St A0 [] w0 w (R.set i .gone) fun w=>r.ok w/\P w:=by
 have H1:=H.upd (r':=.gone) (w':=w) hi ⟨rfl,rfl,rfl,aG _,fun _ _ _=>rfl⟩ trivial (fun b hb=>by cases hb);obtain⟨A,hA,hA1,hA2⟩:=H.held;have hlt:i<R.length:=by
  rcases aT i R.length with h|h
  ·exact h
  ·rw[List.getElem?_eq_none h]at hi;cases hi
 refine⟨H1.fr,H1.ok,H1.mine,H1.apart,fun b=>r.at=some b\/A b,⟨fun b hb=>?_,fun w' hw=>⟨?_,hA.out w' fun b hb=>hw b (.inr hb)⟩⟩,fun b hb=>?_,?_⟩
 ·rcases hb with hb|hb
  ·exact(H.ok i r hi).lt hb
  ·exact hA.lt b hb
 ·exact(H.ok i r hi).keep fun b hb=>hw b (.inl hb)
 ·rcases hb with hb|hb
  ·rcases H.mine i r hi b hb with h|h
   ·exact .inr h
   ·simp at h
  ·exact hA1 b hb
 ·intro j s hj b hb hAb;by_cases hji:j=i
  ·subst hji;rw[List.getElem?_set_self hlt]at hj;injection hj with hj;subst hj;cases hb
  ·rw[List.getElem?_set_ne (Ne.symm hji)]at hj;rcases hAb with h|h
   ·exact H.apart j i s r hj hi hji b hb h
   ·exact hA2 j s hj b hb h
theorem St.drop(H:St A0 M w0 w R P){i:Nat}{r:Res}(hi:R[i]?=some r):St A0 M w0 w (R.set i .gone) P:=
 H.upd (r':=.gone) (w':=w) hi ⟨rfl,rfl,rfl,aG _,fun _ _ _=>rfl⟩ trivial (fun b hb=>by cases hb)
theorem St.call(H:St A0 M w0 w R P):∃A,Held A w P/\∀ {w':World} {R':List Res} {Q:World->Prop},St A [] w w' R' Q->St A0 M w0 w' (R++R') fun w=>Q w/\P w:=by
 obtain⟨A,hA,hA1,hA2⟩:=H.held;refine⟨A,hA,fun {w' R' Q} K=>?_⟩;have H1:=H.adds K.below K.ok (fun i r h b hb=>(K.mine i r h b hb).elim id (fun h=>by simp at h)) K.apart;have get:∀(j:Nat) (s:Res),(R++R')[j]?=some s->(j<R.length/\R[j]?=some s)\/(R.length<=j/\R'[j-R.length]?=some s):=fun j s h=>by
  rcases aT j R.length with hj|hj
  ·rw[List.getElem?_append_left hj]at h;exact .inl ⟨hj,h⟩
  ·rw[List.getElem?_append_right hj]at h;exact .inr ⟨hj,h⟩
 obtain⟨B,hB,hB1,hB2⟩:=K.held;refine⟨H1.fr,H1.ok,H1.mine,H1.apart,fun b=>B b\/A b,hB.and (hA.below K.below),?_,?_⟩
 ·rintro b (h|h)
  ·rcases hB1 b h with h|h
   ·exact hA1 b h
   ·exact .inr (cG H.fr.size h)
  ·exact hA1 b h
 ·intro j s hj b hb hAb;rcases get j s hj with ⟨_,hj⟩|⟨_,hj⟩
  ·have hlt:=(H.ok j s hj).lt hb;rcases hAb with h|h
   ·rcases hB1 b h with h|h
    ·exact hA2 j s hj b hb h
    ·omega
   ·exact hA2 j s hj b hb h
  ·rcases hAb with h|h
   ·exact hB2 _ s hj b hb h
   ·have h1:=hA.lt b h;rcases K.mine _ s hj b hb with h|h
    ·omega
    ·simp at h
theorem St.callM(H:St A0 M w0 w R P){i:Nat}{r:Res}(hi:R[i]?=some r):∃A,Held A w P/\(∀b,r.at=some b->¬A b)/\r.ok w/\
 ∀ {w':World} {r':Res} {R':List Res} {Q:World->Prop},St A r.at.toList w w' (r'::R') Q->St A0 M w0 w' (R.set i r'++R') fun w=>Q w/\P w:=by
 obtain⟨A,hA,hA1,hA2⟩:=H.held;have hAb:=hA2 i _ hi;refine⟨A,hA,hAb,H.ok i _ hi,fun {w' r' R' Q} K=>?_⟩;have hbs:∀b,r.at=some b->b<w.heap.size:=fun b hb=>(H.ok i _ hi).lt hb;have hlt:i<R.length:=by
  rcases aT i R.length with h|h
  ·exact h
  ·rw[List.getElem?_eq_none h]at hi;cases hi
 have get:∀(j:Nat) (s:Res),(R.set i r'++R')[j]?=some s->(j=i/\s=r')\/(j<R.length/\j≠i/\R[j]?=some s)\/(R.length<=j/\(r'::R')[j-R.length+1]?=some s):=fun j s h=>by
  rcases aT j R.length with hj|hj
  ·rw[List.getElem?_append_left (by simpa using hj)]at h;by_cases hji:j=i
   ·subst hji;rw[List.getElem?_set_self hlt]at h;injection h with h;exact .inl ⟨rfl,h.symm⟩
   ·rw[List.getElem?_set_ne (Ne.symm hji)]at h;exact .inr (.inl ⟨hj,hji,h⟩)
  ·rw[List.getElem?_append_right (by simpa using hj)]at h;exact .inr (.inr ⟨hj,by simpa using h⟩)
 have notM:∀g,r.at≠some g->g∉r.at.toList:=fun g hg h=>hg (by simpa using h);have inM:∀g,g∈r.at.toList->r.at=some g:=fun g h=>by simpa using h
 have old:∀(j:Nat) (s:Res),j≠i->R[j]?=some s->∀g,s.at=some g->g<w.heap.size/\r.at≠some g/\¬A g:=fun j s hji hj g hg=>
  ⟨(H.ok j s hj).lt hg,fun e=>H.apart j i s _ hj hi hji g hg e,hA2 j s hj g hg⟩
 have new:∀(j:Nat) (s:Res),(r'::R')[j]?=some s->∀g,s.at=some g->w.heap.size<=g\/r.at=some g:=fun j s hj g hg=>by
  rcases K.mine _ s hj g hg with h|h
  ·exact .inl h
  ·exact .inr (inM g h)
 obtain⟨B,hB,hB1,hB2⟩:=K.held;have keepA:∀g,A g->w'.heap[g]?=w.heap[g]?:=fun g hg=>K.fr.block g (hA.lt g hg) (notM g fun e=>hAb g e hg);have mine':∀g,(w.heap.size<=g\/r.at=some g)->w0.heap.size<=g\/g∈M:=fun g h=>by
  rcases h with h|h
  ·exact .inl (cG H.fr.size h)
  ·exact H.mine i _ hi g h
 refine⟨H.fr.trans K.fr (fun x hx=>(H.mine i _ hi x (inM x hx)).symm),?_,?_,?_,fun g=>B g\/A g,hB.and (hA.step K.fr.size keepA),?_,?_⟩
 ·intro j s hj;rcases get j s hj with ⟨_,rfl⟩|⟨_,hji,hj⟩|⟨_,hj⟩
  ·exact K.ok 0 _ rfl
  ·exact(H.ok j s hj).keep fun g hg=>K.fr.block g (old j s hji hj g hg).1 (notM g (old j s hji hj g hg).2.1)
  ·exact K.ok _ s hj
 ·intro j s hj g hg;rcases get j s hj with ⟨_,rfl⟩|⟨_,hji,hj⟩|⟨_,hj⟩
  ·exact mine' g (new 0 _ rfl g hg)
  ·exact H.mine j s hj g hg
  ·exact mine' g (new _ s hj g hg)
 ·intro j k s u hj hk hjk g hg hg';have cross:∀(j':Nat) (s':Res),(r'::R')[j']?=some s'->s'.at=some g->∀(k':Nat) (u':Res),k'≠i->R[k']?=some u'->u'.at=some g->False:=fun j' s' h1 h2 k' u' h3 h4 h5=>by
   obtain⟨o1,o2,_⟩:=old k' u' h3 h4 g h5;rcases new j' s' h1 g h2 with h|h
   ·omega
   ·exact o2 h
  rcases get j s hj with ⟨e1,e1'⟩|⟨l1,hji,hj2⟩|⟨l1,hj2⟩<;>rcases get k u hk with ⟨e2,e2'⟩|⟨l2,hki,hk2⟩|⟨l2,hk2⟩
  ·exact hjk (e1.trans e2.symm)
  ·exact cross 0 s (by rw[e1'];rfl) hg k u hki hk2 hg'
  ·exact K.apart 0 _ s u (by rw[e1'];rfl) hk2 (by omega) g hg hg'
  ·exact cross 0 u (by rw[e2'];rfl) hg' j s hji hj2 hg
  ·exact H.apart j k s u hj2 hk2 hjk g hg hg'
  ·exact cross _ u hk2 hg' j s hji hj2 hg
  ·exact K.apart _ 0 s u hj2 (by rw[e2'];rfl) (by omega) g hg hg'
  ·exact cross _ s hj2 hg k u hki hk2 hg'
  ·exact K.apart _ _ s u hj2 hk2 (by omega) g hg hg'
 ·rintro g (h|h)
  ·rcases hB1 g h with h|h
   ·exact hA1 g h
   ·exact .inr (cG H.fr.size h)
  ·exact hA1 g h
 ·intro j s hj g hg hAg;have fresh:∀(j':Nat) (s':Res),(r'::R')[j']?=some s'->s'.at=some g->False:=fun j' s' h1 h2=>by
   rcases hAg with h|h
   ·exact hB2 j' s' h1 g h2 h
   ·rcases new j' s' h1 g h2 with h3|h3
    ·have:=hA.lt g h;omega
    ·exact hAb g h3 h
  rcases get j s hj with ⟨_,rfl⟩|⟨_,hji,hj⟩|⟨_,hj⟩
  ·exact fresh 0 _ rfl hg
  ·obtain⟨o1,o2,o3⟩:=old j s hji hj g hg;rcases hAg with h|h
   ·rcases hB1 g h with h|h
    ·exact o3 h
    ·omega
   ·exact o3 h
  ·exact fresh _ s hj hg
theorem St.drew(H:St A0 M w0 w R P){F:World->Prop}(h:∀w',St A0 M w0 w' R P->F w'):Bl w F:=h _ (H.pass ⟨rfl,rfl,rfl,aG _,fun _ _=>rfl⟩)
theorem St.alloc(H:St A0 M w0 w R P){cs:Array Value}{t:TypeId}{F:Nat->World->Prop}(h:∀b w',St A0 M w0 w' (R++[.blk b t cs.toList]) P->F b w'):Aj w cs t F:=by
 refine h _ _ (H.add ?_ (show Blk _ _ _ _ from ?_) (fun b hb=>by simp[Res.at]at hb;omega))
 ·exact(Below.refl _ _).alloc (aG _) _
 ·exact Blk.new w t cs
theorem St.look(H:St A0 M w0 w R P){i r:Nat}{es:List (Int×Int)}(hi:R[i]?=some (.map r es)){x:Int}{F:Int->Bool->Prop}(h:F ((Afe es x).getD 0) (Afe es x).isSome):Bbi w r x F:=⟨es,H.ok i _ hi,h⟩
variable{i b o:Nat}{t:TypeId}{cs:List Value}{v:Value}
theorem St.set(H:St A0 M w0 w R P)(hi:R[i]?=some (.blk b t cs))(ho:o<cs.length){F:World->Prop}(h:∀w',St A0 M w0 w' (R.set i (.blk b t (cs.set o v))) P->F w'):Bj w ⟨b,o,none⟩ v F:=by
 have hB:Blk w b t cs.toArray:=H.ok i _ hi;refine⟨hB.has (by simpa using ho),hB.frozen _,h _ (H.upd hi ?_ (show Blk _ _ _ _ from ?_) fun g hg=>.inl hg)⟩
 ·have:=But.setCell w ⟨b,o,none⟩ v;exact⟨this.os,this.tape,this.output,by rw[this.size];exact aG _,fun k _ hk=>this.block k fun e=>hk (by rw[e];rfl)⟩
 ·have:=hB.set o v;simpa using this
theorem St.cell(H:St A0 M w0 w R P)(hi:R[i]?=some (.blk b t cs))(hv:cs[o]?=some v):w.cell? ⟨b,o,none⟩=some v:=(H.ok i _ hi:Blk w b t cs.toArray).cell0 o (by simpa using hv)
theorem St.cells(H:St A0 M w0 w R P)(hi:R[i]?=some (.blk b t cs)):cellsAt w ⟨b,0,none⟩ 0 cs:=As2 (H.ok i _ hi:Blk w b t cs.toArray)
theorem St.cellsAt(H:St A0 M w0 w R P)(hi:R[i]?=some (.blk b t cs)){vs:List Value}(hv:(cs.drop o).take vs.length=vs):cellsAt w ⟨b,o,none⟩ 0 vs:=
 Ac9 (H.ok i _ hi:Blk w b t cs.toArray) fun j hj=>by
  have h:=cI (fun l=>l[j]?) hv;simp only[List.getElem?_take,hj,dO,List.getElem?_drop]at h;simpa using h
theorem St.storeAt(H:St A0 M w0 w R P)(hi:R[i]?=some (.blk b t cs)){vs:List Value}(hl:o+vs.length<=cs.length)(h1:vs.all (·.oneCell')=true){F:World->Prop}
 (h:∀w',St A0 M w0 w' (R.set i (.blk b t (cs.take o++vs++cs.drop (o+vs.length)))) P->F w'):Ad w ⟨b,o,none⟩ 0 vs F:=by
 refine Aj2 (H.ok i _ hi:Blk w b t cs.toArray) (by simpa using hl) h1 fun w' cs' hB hsz hcs hs=>h w' (H.upd hi ?_ (show Blk _ _ _ _ from ?_) fun g hg=>.inl hg)
 ·exact⟨hs.os,hs.tape,hs.output,by rw[hs.size];exact aG _,fun k _ hk=>hs.block k fun e=>hk (by rw[e];rfl)⟩
 ·have:cs'=(cs.take o++vs++cs.drop (o+vs.length)).toArray:=by
   apply Array.ext_getElem?;intro j;rw[hcs j];simp only[Nat.add_zero,List.getElem?_toArray];by_cases h1:j<o
   ·rw[aE (by omega),aZ,List.getElem?_append_left (by simp;omega),List.getElem?_take,aF h1]
   ·by_cases h2:j<o+vs.length
    ·rw[aF (by omega),aZ,List.getElem?_append_right (by simp;omega),List.getElem?_append_left (by simp;omega)];congr 1;simp;omega
    ·rw[aE (by omega),aZ,List.getElem?_append_right (by simp;omega),List.getElem?_append_right (by simp;omega),List.getElem?_drop];congr 1;simp;omega
  rw[<-this];exact hB
theorem St.store(H:St A0 M w0 w R P)(hi:R[i]?=some (.blk b t cs)){vs:List Value}(hl:vs.length=cs.length)(h1:vs.all (·.oneCell')=true){F:World->Prop}
 (h:∀w',St A0 M w0 w' (R.set i (.blk b t vs)) P->F w'):Ad w ⟨b,0,none⟩ 0 vs F:=by
 refine H.storeAt hi (by omega) h1 fun w' H'=>h w' ?_;have:cs.take 0++vs++cs.drop (0+vs.length)=vs:=by rw[bZ (by omega)];simp
 rwa[this]at H'
variable{e:TypeId}{sz n c bytes:Nat}{a:Option Addr}{xs:List Value}{z:Value}{Pr:Program}
theorem St.row(H:St A0 M w0 w R P)(hi:R[i]?=some (.row e sz a n c xs)):Own w 0 e sz a n c xs:=H.ok i _ hi
theorem St.newRow(H:St A0 M w0 w R P)(e:TypeId)(sz:Nat):St A0 M w0 w (R++[.row e sz none 0 0 []]) P:=
 H.add (.refl _ _) (Own.nil_ w 0 e sz) (fun b hb=>by cases hb)
theorem St.blkRow(H:St A0 M w0 w R P)(hi:R[i]?=some (.blk b t cs))(sz n c:Nat)(hc:cs.length=c*sz)(hn:n<=c)(hm:c<=maxLen):St A0 M w0 w (R.set i (.row t sz (some ⟨b,0,none⟩) n c (cs.take (n*sz)))) P:=by
 refine H.upd hi ⟨rfl,rfl,rfl,aG _,fun _ _ _=>rfl⟩ (show Own _ _ _ _ _ _ _ _ from⟨?_,.inr ⟨b,c,cs.toArray,rfl,aX _,H.ok i _ hi,hn,hm,by simpa using hc,by simp⟩⟩) fun g hg=>.inl hg;rw[aU,hc];exact bQ (cR _ hn)
theorem St.app(H:St A0 M w0 w R P)(hi:R[i]?=some (.row e sz a n c xs))(hT:SlTy Pr t e sz bytes z){p:Addr}{m c2:Nat}{news:List Value}
 (hl:news.length=m*sz) (hnews:∀j u,news[j]?=some u->w.cell? (p.add j)=some u) (h1:∀u∈news,u.oneCell'=true) (hbytes:(n+m)*bytes<=140737488355328) (h63:n+m<=4611686018427387904)
 {ty:TypeId} {F:Option Addr->Nat->Nat->World->Prop} (h:∀a' c' w',St A0 M w0 w' (R.set i (.row e sz a' (n+m) c' (xs++news))) P->F a' (n+m) c' w'):
 Da Pr #[t,t] ty #[.slice a n c,.slice (some p) m c2] w F:=by
 refine Aw1 hT (H.row hi) hl hnews h1 hbytes h63 (aX _) fun a' c' w' ho hg hb=>h a' c' w' (H.upd hi hg ho fun g hgg=>?_);rcases hb with hb|hb
 ·exact .inl (by simpa [Res.at,<-hb] using hgg)
 ·right;simp only[Res.at]at hgg;rw[hb]at hgg;injection hgg with hgg;omega
theorem St.appBlk(H:St A0 M w0 w R P)(hi:R[i]?=some (.row e sz a n c xs)){j g:Nat}{t0:TypeId}(hj:R[j]?=some (.blk g t0 cs))(hT:SlTy Pr t e sz bytes z){m c2:Nat}
 (hl:cs.length=m*sz) (h1:cs.all (·.oneCell')=true) (hbytes:(n+m)*bytes<=140737488355328) (h63:n+m<=4611686018427387904)
 {ty:TypeId} {F:Option Addr->Nat->Nat->World->Prop} (h:∀a' c' w',St A0 M w0 w' ((R.set i (.row e sz a' (n+m) c' (xs++cs))).set j .gone) P->F a' (n+m) c' w'):
 Da Pr #[t,t] ty #[.slice a n c,.slice (some ⟨g,0,none⟩) m c2] w F:=by
 have hij:j≠i:=by rintro rfl;rw[hi]at hj;cases hj
 refine H.app hi hT hl (fun k u hk=>?_) (fun u hu=>bN.1 h1 u hu) hbytes h63 fun a' c' w' H'=>h a' c' w' (H'.drop (r:=.blk g t0 cs) ?_)
 ·rw[Bd,aN];exact H.cell hj hk
 ·rw[List.getElem?_set_ne (Ne.symm hij)];exact hj
theorem St.appNil(H:St A0 M w0 w R P)(hi:R[i]?=some (.row e sz a n c xs))(hT:SlTy Pr t e sz bytes z){c2:Nat}{ty:TypeId}{F:Option Addr->Nat->Nat->World->Prop}(h:F a n c w):Da Pr #[t,t] ty #[.slice a n c,.slice none 0 c2] w F:=by
 obtain⟨inf,hinf,_⟩:=hT.info;exact⟨a,n,c,w,Alv 0 t ty e inf sz hT.ht hinf _ n c2 xs (H.row hi),h⟩
abbrev Ti(w w':World)(Q:World->Prop):Prop:=St (fun _=>False) [] w w' [] Q
abbrev Cg(w w':World)(R:List Res):Prop:=St (fun _=>False) [] w w' R fun _=>True
theorem St.lt(H:St A0 M w0 w R P){r:Res}(hi:R[i]?=some r)(hb:r.at=some b):b<w.heap.size:=(H.ok i r hi).lt hb
theorem St.ld(H:St A0 M w0 w R P){k:IntKind}{x:Int}{F:Int->Prop}(hi:R[i]?=some (.blk b t cs))(hv:cs[o]?=some (.int k x))(h:F x):kLd w ⟨b,o,none⟩ k F:=⟨x,H.cell hi hv,h⟩
theorem St.ldB(H:St A0 M w0 w R P){x:Bool}{F:Bool->Prop}(hi:R[i]?=some (.blk b t cs))(hv:cs[o]?=some (.bool x))(h:F x):Nw w ⟨b,o,none⟩ F:=⟨x,H.cell hi hv,h⟩
theorem St.ldS(H:St A0 M w0 w R P){p:Option Addr}{l d:Nat}{F:Option Addr->Nat->Nat->Prop}(hi:R[i]?=some (.blk b t cs))(hv:cs[o]?=some (.slice p l d))(h:F p l d):Au w ⟨b,o,none⟩ F:=⟨p,l,d,H.cell hi hv,h⟩
theorem St.l(H:St A0 M w0 w R P){k:IntKind}{x:Int}{F:Int->Prop}(i:Nat)(h:F x)(hi:R[i]?=some (.blk b t cs):=by rfl)(hv:cs[o]?=some (.int k x):=by rfl):kLd w ⟨b,o,none⟩ k F:=H.ld hi hv h
theorem St.m(H:St A0 M w0 w R P){p:Option Addr}{l d:Nat}{F:Option Addr->Nat->Nat->Prop}(i:Nat)(h:F p l d)(hi:R[i]?=some (.blk b t cs):=by rfl)(hv:cs[o]?=some (.slice p l d):=by rfl):Au w ⟨b,o,none⟩ F:=H.ldS hi hv h
theorem St.B(H:St A0 M w0 w R P){x:Bool}{F:Bool->Prop}(i:Nat)(h:F x)(hi:R[i]?=some (.blk b t cs):=by rfl)(hv:cs[o]?=some (.bool x):=by rfl):Nw w ⟨b,o,none⟩ F:=H.ldB hi hv h
theorem St.s(H:St A0 M w0 w R P)(i:Nat){vs:List Value}{F:World->Prop}(h:∀w',St A0 M w0 w' (R.set i (.blk b t vs)) P->F w')(hi:R[i]?=some (.blk b t cs):=by rfl)(hl:vs.length=cs.length:=by rfl)(h1:vs.all (·.oneCell')=true:=by rfl):Ad w ⟨b,0,none⟩ 0 vs F:=H.store hi hl h1 h
theorem St.U(H:St A0 M w0 w R P)(i:Nat){F:World->Prop}(h:∀w',St A0 M w0 w' (R.set i (.blk b t (cs.set o v))) P->F w')(hi:R[i]?=some (.blk b t cs):=by rfl)(ho:o<cs.length:=by exact Nat.le_of_ble_eq_true rfl):Bj w ⟨b,o,none⟩ v F:=H.set hi ho h
abbrev Res.ints(e:TypeId)(k:IntKind)(a:Option Addr)(c:Nat)(xs:List Int):Res:=.row e 1 a xs.length c (xs.map (Value.int k))
theorem Oj{k:IntKind}{ys:List Int}(h:(Res.ints e k a c ys).ok w):OwnI w 0 e k a ys.length c ys:=⟨rfl,h⟩
theorem St.slI(H:St A0 M w0 w R P){k:IntKind}{ys:List Int}(hi:R[i]?=some (.ints e k a c ys)):SlR (Bp k) 1 w a ys:=(Oj (H.ok i _ hi)).sl
theorem St.capI(H:St A0 M w0 w R P){k:IntKind}{ys:List Int}(hi:R[i]?=some (.ints e k a c ys)):ys.length<=c:=by
 have h:Own w 0 e 1 a ys.length c (ys.map (Value.int k)):=H.ok i _ hi;rcases h.2 with ⟨hv,h0⟩|⟨g,cap,cur,hv,_,_,hnc,_⟩
 ·omega
 ·injection hv with _ _ h3;omega
theorem St.shareI(H:St A0 [] w0 w R P){k:IntKind}{ys:List Int}(hi:R[i]?=some (.ints e k a c ys)):St A0 [] w0 w (R.set i .gone) fun w=>SlR (Bp k) 1 w a ys/\P w:=
 (H.share hi).imp fun _ h=>⟨(Oj h.1).sl,h.2⟩
theorem St.nilI(H:St A0 M w0 w R P)(e:TypeId)(k:IntKind):St A0 M w0 w (R++[.ints e k none 0 []]) P:=H.newRow e 1
theorem Au8{k:IntKind}{ys:List Int}{p:Addr}(h:SlR (Bp k) 1 w (some p) ys):∀j u,(ys.map (Value.int k))[j]?=some u->w.cell? (p.add j)=some u:=by
 intro j u hu;simp only[List.getElem?_map,Option.map_eq_some_iff]at hu;obtain⟨x,hx,rfl⟩:=hu;obtain⟨hj,hx⟩:=List.getElem?_eq_some_iff.1 hx;obtain⟨b,hb,hc⟩:=h.get hj;injection hb with hb;subst hb
 rw[dB]at hc;rw[<-hx];exact hc
theorem St.appI(H:St A0 M w0 w R P){k:IntKind}{ys zs:List Int}(hi:R[i]?=some (.ints e k a c ys))(hT:SlTy Pr t e 1 bytes z){p:Option Addr}{c2:Nat}(hs:SlR (Bp k) 1 w p zs)
 (hbytes:(ys.length+zs.length)*bytes<=140737488355328) (h63:ys.length+zs.length<=4611686018427387904) {ty:TypeId} {F:Option Addr->Nat->Nat->World->Prop}
 (h:∀a' c' w',St A0 M w0 w' (R.set i (.ints e k a' c' (ys++zs))) P->F a' (ys++zs).length c' w'):Da Pr #[t,t] ty #[.slice a ys.length c,.slice p zs.length c2] w F:=by
 cases p with
 |none=>
  obtain rfl:zs=[]:=by
   rcases hs with h|⟨b,hb,_⟩
   ·exact h
   ·cases hb
  refine H.appNil hi hT ?_;have:=h a c w (by rw[aL];rw[Ds hi];exact H);simpa using this
 |some p=>
  refine H.app hi hT (news:=zs.map (Value.int k)) (by simp) (Au8 hs) (fun u hu=>?_) hbytes h63 fun a' c' w' H'=>?_
  ·simp only[cZ]at hu;obtain⟨x,_,rfl⟩:=hu;rfl
  ·have e1:(ys++zs).length=ys.length+zs.length:=by simp
   rw[<-e1];refine h a' c' w' ?_;have e2:Res.row e 1 a' (ys.length+zs.length) c' (ys.map (Value.int k)++zs.map (Value.int k))=.ints e k a' c' (ys++zs):=by simp[Res.ints]
   rwa[e2]at H'
theorem St.appIB(H:St A0 M w0 w R P){k:IntKind}{ys:List Int}(hi:R[i]?=some (.ints e k a c ys)){j g:Nat}{t0:TypeId}(zs:List Int)(hj:R[j]?=some (.blk g t0 (zs.map (Value.int k))))(hT:SlTy Pr t e 1 bytes z){c2 m:Nat}(hm:m=zs.length)
 (hbytes:(ys.length+zs.length)*bytes<=140737488355328) (h63:ys.length+zs.length<=4611686018427387904) {ty:TypeId} {F:Option Addr->Nat->Nat->World->Prop}
 (h:∀a' c' w',St A0 M w0 w' ((R.set i (.ints e k a' c' (ys++zs))).set j .gone) P->F a' (ys++zs).length c' w'):Da Pr #[t,t] ty #[.slice a ys.length c,.slice (some ⟨g,0,none⟩) m c2] w F:=by
 subst hm;refine H.appBlk hi hj hT (by simp) (by simp[Value.oneCell']) hbytes h63 fun a' c' w' H'=>?_;have e1:(ys++zs).length=ys.length+zs.length:=by simp
 rw[<-e1];refine h a' c' w' ?_;have e2:Res.row e 1 a' (ys.length+zs.length) c' (ys.map (Value.int k)++zs.map (Value.int k))=.ints e k a' c' (ys++zs):=by simp[Res.ints]
 rwa[e2]at H'
theorem St.litI(H:St A0 M w0 w R P){k:IntKind}(zs:List Int)(hi:R[i]?=some (.blk b t (zs.map (Value.int k))))(hm:zs.length<=maxLen):St A0 M w0 w (R.set i (.ints t k (some ⟨b,0,none⟩) zs.length zs)) P:=by
 have:=H.blkRow hi 1 zs.length zs.length (by simp) (aG _) hm;have e2:(zs.map (Value.int k)).take (zs.length*1)=zs.map (Value.int k):=bY (by simp);rwa[e2]at this
theorem St.allocB(H:St A0 M w0 w R P){cs:Array Value}{t:TypeId}{F:Nat->World->Prop}(h:∀b w',Below w.heap.size w w'->St A0 M w0 w' (R++[.blk b t cs.toList]) P->F b w'):Aj w cs t F:=
 h _ _ ((Below.refl _ _).alloc (aG _) _) (H.add ((Below.refl _ _).alloc (aG _) _) (show Blk _ _ _ _ from Blk.new w t cs) (fun b hb=>by simp[Res.at]at hb;omega))
theorem St.weaken0{A:Nat->Prop}(K:St (fun _=>False) M w0 w R P):St A M w0 w R P:=by
 obtain⟨B,hB,hB1,hB2⟩:=K.held;exact⟨K.fr,K.ok,K.mine,K.apart,B,hB,fun b hb=>.inr ((hB1 b hb).elim (fun h=>h.elim) id),hB2⟩
theorem St.callF(H:St A0 M w0 w R P){R':List Res}{Q:World->Prop}(K:St (fun _=>False) [] w w' R' Q):St A0 M w0 w' (R++R') fun w=>Q w/\P w:=by
 obtain⟨A,_,hc⟩:=H.call;exact hc K.weaken0
theorem St.callR(H:St A0 M w0 w R P){R':List Res}(K:St (fun _=>False) [] w w' R' fun _=>True):St A0 M w0 w' (R++R') P:=(H.callF K).imp fun _ h=>h.2
theorem St.fin(H:St A0 [] w0 w R P):St A0 [] w0 w [] P:=by
 obtain⟨A,h,k,_⟩:=H.held;exact⟨H.fr,fun i r h=>by simp at h,fun i r h=>by simp at h,fun i j r s h=>by simp at h,A,h,k,fun i r h=>by simp at h⟩
theorem St.dropLast{r:Res}(H:St A0 M w0 w (R++[r]) P):St A0 M w0 w R P:=by
 have get:∀(j:Nat) (s:Res),R[j]?=some s->(R++[r])[j]?=some s:=fun j s h=>by
  have hj:j<R.length:=by
   rcases aT j R.length with h'|h'
   ·exact h'
   ·rw[List.getElem?_eq_none h']at h;cases h
  rw[List.getElem?_append_left hj];exact h
 obtain⟨A,h1,h2,h3⟩:=H.held;exact⟨H.fr,fun i r h=>H.ok i r (get i r h),fun i r h=>H.mine i r (get i r h),fun i j r s hi hj=>H.apart i j r s (get i r hi) (get j s hj),A,h1,h2,fun i r h=>h3 i r (get i r h)⟩
theorem St.ne(H:St A0 M w0 w R P){i j:Nat}{r s:Res}{b c:Nat}(hi:R[i]?=some r)(hj:R[j]?=some s)(hij:i≠j)(hr:r.at=some b)(hs:s.at=some c):b≠c:=by
 rintro rfl;exact H.apart i j r s hi hj hij b hr hs
theorem St.setF(H:St A0 M w0 w R P)(hi:R[i]?=some (.blk b t cs))(ho:o<cs.length){F:World->Prop}(h:∀w',Fr [b] w w'->St A0 M w0 w' (R.set i (.blk b t (cs.set o v))) P->F w'):Bj w ⟨b,o,none⟩ v F:=by
 refine H.set hi ho (F:=fun w'=>Fr [b] w w'->F w') (fun w' H' hf=>h w' hf H') |> fun⟨h1,h2,h3⟩=>⟨h1,h2,h3 ?_⟩;have:=But.setCell w ⟨b,o,none⟩ v;exact⟨this.os,this.tape,this.output,by rw[this.size];exact aG _,fun k _ hk=>this.block k (by simpa using hk)⟩
theorem St.storeF(H:St A0 M w0 w R P)(hi:R[i]?=some (.blk b t cs)){vs:List Value}(hl:vs.length=cs.length)(h1:vs.all (·.oneCell')=true){F:World->Prop}
 (h:∀w',Fr [b] w w'->St A0 M w0 w' (R.set i (.blk b t vs)) P->F w'):Ad w ⟨b,0,none⟩ 0 vs F:=by
 refine Aj2 (H.ok i _ hi:Blk w b t cs.toArray) (by simpa using Nat.le_of_eq hl) h1 fun w' cs' hB hsz hcs hs=>?_;have hf:Fr [b] w w':=⟨hs.os,hs.tape,hs.output,by rw[hs.size];exact aG _,fun k _ hk=>hs.block k (by simpa using hk)⟩;refine h w' hf (H.upd hi ?_ (show Blk _ _ _ _ from ?_) fun g hg=>.inl hg)
 ·exact⟨hs.os,hs.tape,hs.output,by rw[hs.size];exact aG _,fun k _ hk=>hs.block k fun e=>hk (by rw[e];rfl)⟩
 ·have:cs'=vs.toArray:=by
   apply Array.ext_getElem?;intro j;rw[hcs j];by_cases hj:j<vs.length
   ·rw[aF (by omega)];simp
   ·rw[aE (by omega),List.getElem?_toArray,List.getElem?_eq_none (by omega),Array.getElem?_eq_none (by simp;omega)]
  rw[<-this];exact hB
theorem St.storeK(H:St A0 M w0 w R P)(hi:R[i]?=some (.blk b t cs))(h1:cs.all (·.oneCell')=true){F:World->Prop}
 (h:∀w',KeepsB (fun _=>True) w w'->St A0 M w0 w' R P->F w'):Ad w ⟨b,0,none⟩ 0 cs F:=by
 have key:∀w',Fr [b] w w'->St A0 M w0 w' (R.set i (.blk b t cs)) P->F w':=fun w' hf H'=>by
  have H'':=H';rw[Ds hi]at H'';refine h w' (fun p u _ hc=>?_) H'';by_cases hp:p.block=b
  ·have o1:Blk w b t cs.toArray:=H.ok i _ hi;have o2:Blk w' b t cs.toArray:=H''.ok i _ hi;rw[<-hc];refine World.cell?_of_block (w:=w) ?_;rw[hp];exact o2.trans o1.symm
  ·exact(World.cell?_of_block (w:=w) (hf.block p.block (Dv hc) (by simpa using hp))).trans hc
 exact H.storeF hi rfl h1 key
theorem St.sub(H:St A0 M w0 w R P){R':List Res}(f:Nat->Nat)(hf:∀(i:Nat) (r:Res),R'[i]?=some r->R[f i]?=some r)(inj:∀i j,i<R'.length->j<R'.length->f i=f j->i=j):St A0 M w0 w R' P:=by
 have lt:∀(i:Nat) (r:Res),R'[i]?=some r->i<R'.length:=fun i r h=>by
  rcases aT i R'.length with h'|h'
  ·exact h'
  ·rw[List.getElem?_eq_none h']at h;cases h
 obtain⟨A,h1,h2,h3⟩:=H.held;exact⟨H.fr,fun i r h=>H.ok _ r (hf i r h),fun i r h=>H.mine _ r (hf i r h),fun i j r s hi hj hij=>H.apart _ _ r s (hf i r hi) (hf j s hj) (fun e=>hij (inj i j (lt i r hi) (lt j s hj) e)),A,h1,h2,fun i r h=>h3 _ r (hf i r h)⟩
theorem St.allocN(H:St A0 M w0 w R P){cs:Array Value}{t:TypeId}{F:Nat->World->Prop}(h:∀b w',b=w.heap.size->Below w.heap.size w w'->St A0 M w0 w' (R++[.blk b t cs.toList]) P->F b w'):Aj w cs t F:=
 h _ _ rfl ((Below.refl _ _).alloc (aG _) _) (H.add ((Below.refl _ _).alloc (aG _) _) (show Blk _ _ _ _ from Blk.new w t cs) (fun b hb=>by simp[Res.at]at hb;omega))
theorem St.rowSome(H:St A0 M w0 w R P)(hi:R[i]?=some (.row e sz a n c xs))(hn:0<n):∃g,a=some ⟨g,0,none⟩/\(Res.row e sz a n c xs).at=some g/\n<=c:=by
 rcases (H.row hi).2 with ⟨_,h⟩|⟨g,cap,cur,hv,_,_,hc,_⟩
 ·omega
 ·injection hv with h1 h2 h3;subst h1;subst h3;exact⟨g,rfl,rfl,hc⟩
theorem St.shrink(H:St A0 M w0 w R P)(hi:R[i]?=some (.row e sz a n c xs))(k:Nat)(hk:k<=n):St A0 M w0 w (R.set i (.row e sz a k c (xs.take (k*sz)))) P:=by
 have ho:=H.row hi;have hl:(xs.take (k*sz)).length=k*sz:=by
  rw[aU,ho.1];exact bQ (cR _ hk)
 refine H.upd hi ⟨rfl,rfl,rfl,aG _,fun _ _ _=>rfl⟩ (show Own _ _ _ _ _ _ _ _ from⟨hl,?_⟩) fun g hg=>.inl hg;rcases ho.2 with ⟨hv,h0⟩|⟨g,cap,cur,hv,hb,hh,hnc,hcm,hcs,ht⟩
 ·injection hv with h1 _ h3;subst h1;subst h3
  left;exact⟨by rw[show k=0 by omega],by omega⟩
 ·injection hv with h1 _ h3;subst h1;subst h3
  refine .inr ⟨g,_,cur,rfl,hb,hh,by omega,hcm,hcs,?_⟩;rw[<-ht,List.take_take,bQ (cR _ hk)]
theorem St.setRow(H:St A0 M w0 w R P){g:Nat}(hi:R[i]?=some (.row e sz (some ⟨g,0,none⟩) n c xs))(ho:o<n*sz){F:World->Prop}
 (h:∀w',Fr [g] w w'->St A0 M w0 w' (R.set i (.row e sz (some ⟨g,0,none⟩) n c (xs.set o v))) P->F w'):Bj w ⟨g,o,none⟩ v F:=by
 have hO:=H.row hi;have hc:=World.ownsRow.cellAt hO o ho;have hlt:o<xs.length:=by rw[hO.1];exact ho
 refine⟨⟨xs[o],by rw[hc];simp[hlt]⟩,World.ownsRow.frozenAt hO o,?_⟩;have hb:=But.setCell w ⟨g,o,none⟩ v;refine h _ ⟨hb.os,hb.tape,hb.output,by rw[hb.size];exact aG _,fun k _ hk=>hb.block k (by simpa using hk)⟩ (H.upd hi ?_ (show Own _ _ _ _ _ _ _ _ from(World.ownsRow.stored hO o v).1) fun b hb=>.inl hb);exact⟨hb.os,hb.tape,hb.output,by rw[hb.size];exact aG _,fun k _ hk=>hb.block k fun e=>hk (by rw[e];rfl)⟩
theorem St.cellRow(H:St A0 M w0 w R P){g:Nat}(hi:R[i]?=some (.row e sz (some ⟨g,0,none⟩) n c xs))(hv:xs[o]?=some v):w.cell? ⟨g,o,none⟩=some v:=by
 have hO:=H.row hi;have hlt:o<n*sz:=by rw[<-hO.1];exact(List.getElem?_eq_some_iff.1 hv).1
 rw[World.ownsRow.cellAt hO o hlt];exact hv
theorem St.setI(H:St A0 M w0 w R P){k:IntKind}{ys:List Int}{g:Nat}(hi:R[i]?=some (.ints e k (some ⟨g,0,none⟩) c ys))(ho:o<ys.length){x:Int}{F:World->Prop}
 (h:∀w',Fr [g] w w'->St A0 M w0 w' (R.set i (.ints e k (some ⟨g,0,none⟩) c (ys.set o x))) P->F w'):Bj w ⟨g,o,none⟩ (.int k x) F:=by
 refine H.setRow hi (by omega) fun w' hf H'=>h w' hf ?_;have e2:Res.row e 1 (some ⟨g,0,none⟩) ys.length c ((ys.map (Value.int k)).set o (.int k x))=.ints e k (some ⟨g,0,none⟩) c (ys.set o x):=by
  simp only[Res.ints,bE,bG]
 rwa[e2]at H'
end
def All(w:World)(b:Nat):Prop:=b<w.heap.size
theorem Tv{k:IntKind}{w:World}{a:Option Addr}{xs:List Int}(h:SlR (Bp k) 1 w a xs):Held (All w) w fun w=>SlR (Bp k) 1 w a xs:=
 ⟨fun _ h=>h,fun w' hw=>h.keep fun p x hc=>(World.cell?_of_block (w:=w) (hw p.block (Dv hc))).trans hc⟩
end Go.Sx
