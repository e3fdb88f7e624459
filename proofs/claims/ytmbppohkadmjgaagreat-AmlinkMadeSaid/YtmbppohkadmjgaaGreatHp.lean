import Derived.Test.YtmbppohkadmjgaaGreatSx
import Derived.Below
import Derived.IntWalk
import Derived.Maps.AppendAt
import Derived.Laws.OwnMore
import Derived.Laws.BytesArg
import Derived.Laws.CopyRow
import Derived.ChangeKeysEq
namespace Go.Sx
open Go.RowKit
theorem Bd(b o k:Nat):(⟨b,o,none⟩:Addr).add k=⟨b,o+k,none⟩:=by
 unfold Addr.add;split
 ·subst_vars;rfl
 ·rfl
theorem Bb5(w:World):nb w=⟨w.heap.size,0,none⟩:=rfl
theorem Ls(a:Addr)(i j:Nat):(a.add i).add j=a.add (i+j):=by
 unfold Addr.add;by_cases hi:i=0<;>by_cases hj:j=0<;>simp[hi,hj,Nat.add_assoc]
theorem add_zero(a:Addr):a.add 0=a:=rfl
theorem Qo(a:Addr)(n:Nat):(a.add n).block=a.block:=by unfold Addr.add;split<;>rfl
def Blk(w:World)(b:Nat)(t:TypeId)(cs:Array Value):Prop:=w.heap[b]?=some (.cells cs t (0,0))
section
variable{w w':World}{b b':Nat}{t t':TypeId}{cs cs':Array Value}
theorem Blk.lt(h:Blk w b t cs):b<w.heap.size:=by
 rcases aT b w.heap.size with hlt|hge
 ·exact hlt
 ·unfold Blk at h;rw[Array.getElem?_eq_none hge]at h;cases h
theorem Blk.cell(h:Blk w b t cs)(i:Nat):w.cell? ⟨b,i,none⟩=cs[i]?:=by
 unfold Blk at h;simp[World.cell?,h]
theorem Blk.cell0(h:Blk w b t cs)(i:Nat){v:Value}(hv:cs[i]?=some v):w.cell? ⟨b,i,none⟩=some v:=(h.cell i).trans hv
theorem Blk.has(h:Blk w b t cs){i:Nat}(hi:i<cs.size):∃u,w.cell? ⟨b,i,none⟩=some u:=⟨cs[i],by rw[h.cell];simp[hi]⟩
theorem Blk.frozen(h:Blk w b t cs)(i:Nat):w.frozen? ⟨b,i,none⟩=false:=by
 unfold Blk at h;simp[World.frozen?,h]
theorem Blk.new(w:World)(t:TypeId)(cs:Array Value):Blk (w.alloc (.cells cs t)) w.heap.size t cs:=by
 unfold Blk World.alloc;simp
theorem Blk.drew(h:Blk w b t cs):Blk w.drew b t cs:=h
theorem Blk.alloc(h:Blk w b t cs)(o:Obj):Blk (w.alloc o) b t cs:=(Below.heap_alloc w o b h.lt).trans h
theorem Blk.set(h:Blk w b t cs)(i:Nat)(v:Value):Blk (w.setCell ⟨b,i,none⟩ v) b t (cs.setIfInBounds i v):=by
 unfold Blk at h ⊢;simp[World.setCell,Array.getElem?_modify,h]
theorem Blk.far(h:Blk w b t cs){p:Addr}(hp:b≠p.block)(v:Value):Blk (w.setCell p v) b t cs:=(Below.heap_setCell w p v b hp).trans h
theorem Blk.below{B:Nat}(h:Blk w b t cs)(hb:Below B w w')(hlt:b<B):Blk w' b t cs:=(hb.block b hlt).trans h
structure But (b:Nat) (w w':World):Prop where
 os:w'.os=w.os
 tape:w'.tape=w.tape
 output:w'.output=w.output
 size:w'.heap.size=w.heap.size
 block:∀k,k≠b->w'.heap[k]?=w.heap[k]?
theorem But.refl(b:Nat)(w:World):But b w w:=⟨rfl,rfl,rfl,rfl,fun _ _=>rfl⟩
theorem But.setCell(w:World)(p:Addr)(v:Value):But p.block w (w.setCell p v):=⟨rfl,rfl,rfl,by simp,fun _ hk=>Below.heap_setCell _ _ _ _ hk⟩
theorem But.trans{a b c:World}{g:Nat}(h:But g a b)(k:But g b c):But g a c:=
 ⟨k.os.trans h.os,k.tape.trans h.tape,k.output.trans h.output,k.size.trans h.size,fun i hi=>(k.block i hi).trans (h.block i hi)⟩
theorem But.cell{a b:World}{g:Nat}(h:But g a b){p:Addr}(hp:p.block≠g):b.cell? p=a.cell? p:=World.cell?_of_block (h.block _ hp)
theorem Blk.but{g:Nat}(h:Blk w b t cs)(hb:But g w w')(hne:b≠g):Blk w' b t cs:=(hb.block b hne).trans h
theorem _root_.Go.RowKit.Below.but{B g:Nat}{a w w':World}(h:Below B a w)(hs:But g w w')(hg:B<=g):Below B a w':=
 h.trans ⟨hs.os,hs.tape,hs.output,by rw[hs.size];exact aG _,fun k hk=>hs.block k (by omega)⟩
theorem Aj2{T:TypeId}:∀ {vs:List Value} {i o:Nat} {w:World} {cs:Array Value} {F:World->Prop},Blk w b T cs->o+i+vs.length<=cs.size->vs.all (·.oneCell')=true->
 (∀w' cs',Blk w' b T cs'->cs'.size=cs.size->(∀j,cs'[j]?=if o+i<=j/\j<o+i+vs.length then vs[j-(o+i)]? else cs[j]?)->But b w w'->F w')->
 Ad w ⟨b,o,none⟩ i vs F
 | [],i,o,w,cs,F,h,_,_,hF=>hF w cs h rfl (fun j=>by rw[aE (by simp only[cU];omega)]) (But.refl _ _)
 |v::vs,i,o,w,cs,F,h,hl,h1,hF=>by
  simp only[Ad,Db];rw[Bd];have hlt:o+i<cs.size:=by simp at hl;omega
  simp only[List.all_cons,aH]at h1;refine⟨h1.1,⟨cs[o+i],by rw[h.cell];simp[hlt]⟩,h.frozen _,?_⟩;refine Aj2 (h.set (o+i) v) (by simp at hl ⊢;omega) h1.2 ?_;intro w' cs' hB hsz hcs hs;refine hF w' cs' hB (by simpa using hsz) (fun j=>?_) ((But.setCell w ⟨b,o+i,none⟩ v).trans hs);rw[hcs j];by_cases hj:j=o+i
  ·subst hj;rw[aE (by omega),aF (by simp)];simp[hlt]
  ·by_cases hj2:o+i<=j/\j<o+i+(v::vs).length
   ·rw[aF hj2,aF (by simp at hj2;omega)];obtain⟨d,hd⟩:∃d,j-(o+i)=d+1:=⟨j-(o+i)-1,by omega⟩;rw[hd,show j-(o+(i+1))=d by omega];simp
   ·rw[aE hj2,aE (by simp at hj2;omega)];rw[Array.getElem?_setIfInBounds_ne (by omega)]
theorem Ac9:∀ {vs:List Value} {o i:Nat},Blk w b t cs->(∀j,j<vs.length->cs[o+i+j]?=vs[j]?)->cellsAt w ⟨b,o,none⟩ i vs
 | [],_,_,_,_=>trivial
 |v::vs,o,i,h,hv=>by
  refine⟨?_,Ac9 h fun j hj=>?_⟩
  ·rw[Bd,h.cell];simpa using hv 0 (by simp)
  ·have:=hv (j+1) (by simp;omega);rw[show o+(i+1)+j=o+i+(j+1) by omega,this];simp
theorem As2{vs:List Value}(h:Blk w b t vs.toArray):cellsAt w ⟨b,0,none⟩ 0 vs:=Ac9 h fun j hj=>by simp
end
theorem _root_.Go.RowKit.Below.nothing(w:World):Below w.heap.size w w:=.refl _ _
theorem Asx(n:Int)(h: -9223372036854775808<=n/\n<=9223372036854775807):IntKind.wrap .i64 n=n:=IntWalk.i64_in n h
theorem Ax{B:Nat}{w w1 w2:World}(h:Below B w w1)(hB:B<=w.heap.size)(k:Below w1.heap.size w1 w2):Below B w w2:=h.trans (k.mono (cG hB h.size))
theorem _root_.Go.RowKit.Below.keeps{B:Nat}{w w':World}(h:Below B w w'):KeepsB (· <B) w w':=fun p _ hp hc=>(h.cell hp).trans hc
theorem Dv{w:World}{p:Addr}{v:Value}(h:w.cell? p=some v):p.block<w.heap.size:=World.block_lt_of_cell? w p h
theorem _root_.Go.RowKit.Below.get{w w':World}{p:Addr}{v:Value}(h:Below w.heap.size w w')(hc:w.cell? p=some v):w'.cell? p=some v:=(h.cell (Dv hc)).trans hc
theorem Sv{α:Type}{l:List α}{i:Nat}{d:α}(h:i<l.length):l.getD i d=l[i]:=by simp[List.getD,h]
def Bp(k:IntKind)(w:World)(p:Addr)(n:Int):Prop:=w.cell? p=some (.int k n)
def SlR{α:Type}(E:World->Addr->α->Prop)(sz:Nat)(w:World)(a:Option Addr)(xs:List α):Prop:=
 xs=[]\/∃b,a=some b/\∀i (h:i<xs.length),E w (b.add (i*sz)) xs[i]
section
variable{α:Type}{E:World->Addr->α->Prop}{sz:Nat}{w w':World}{a:Option Addr}{xs:List α}
theorem SlR.get(h:SlR E sz w a xs){i:Nat}(hi:i<xs.length):∃b,a=some b/\E w (b.add (i*sz)) xs[i]:=by
 rcases h with rfl|⟨b,rfl,h⟩
 ·simp at hi
 ·exact⟨b,rfl,h i hi⟩
theorem SlR.keep(h:SlR E sz w a xs)(hE:∀p x,E w p x->E w' p x):SlR E sz w' a xs:=by
 rcases h with rfl|⟨b,rfl,h⟩
 ·exact .inl rfl
 ·exact .inr ⟨b,rfl,fun i hi=>hE _ _ (h i hi)⟩
theorem SlR.below{k:IntKind}{ys:List Int}(h:SlR (Bp k) 1 w a ys)(hb:Below w.heap.size w w'):SlR (Bp k) 1 w' a ys:=
 h.keep fun _ _ hc=>hb.get hc
theorem SlR.nil:SlR E sz w a ([]:List α):=.inl rfl
end
def Bdl(k:IntKind)(n:Nat)(s:Nat->Int):Array Value:=((List.range n).map fun i=>Value.int k (s i)).toArray
structure SlTy (P:Program) (t e:TypeId) (size bytes:Nat) (z:Value):Prop where
 ht:P.underlying t=some (.slice e)
 hi:(P.info? e).map (fun i=>(i.zero,i.size,i.bytes))=some (some z,size,bytes)
 hz:z.cells.size=size
 pos:0<size
theorem SlTy.info{P:Program}{t e:TypeId}{size bytes:Nat}{z:Value}(h:SlTy P t e size bytes z):∃i,P.info? e=some i/\i.zero=some z/\i.size=size/\i.bytes=bytes:=by
 have:=h.hi;cases hi:P.info? e with
 |none=>simp[hi]at this
 |some i=>simp[hi]at this;exact⟨i,rfl,this.1,this.2.1,this.2.2⟩
def Own(w:World)(base:Nat)(e:TypeId)(sz:Nat)(a:Option Addr)(n c:Nat)(xs:List Value):Prop:=w.ownsRow base e sz (.slice a n c) n xs
def ob(a:Option Addr):Option Nat:=a.map (·.block)
theorem Acy(a:Option Addr)(n c:Nat):(Value.slice a n c).ownBlock=ob a:=by cases a<;>rfl
section
variable{w w':World}{base:Nat}{e:TypeId}{sz:Nat}{a:Option Addr}{n c:Nat}{xs:List Value}
theorem Own.nil_(w:World)(base:Nat)(e:TypeId)(sz:Nat):Own w base e sz none 0 0 []:=World.ownsRow_nil w base e sz
theorem Own.len(h:Own w base e sz a n c xs):xs.length=n*sz:=h.1
theorem Own.lt(h:Own w base e sz a n c xs){g:Nat}(hg:ob a=some g):base<=g/\g<w.heap.size:=World.ownsRow.lt h g (by rw[Acy];exact hg)
theorem Own.keep(h:Own w base e sz a n c xs)(hs:∀g,ob a=some g->w'.heap[g]?=w.heap[g]?):Own w' base e sz a n c xs:=by
 refine⟨h.1,?_⟩;rcases h.2 with h|⟨g,cap,cur,hv,hb,hh,r⟩
 ·exact .inl h
 ·refine .inr ⟨g,cap,cur,hv,hb,?_,r⟩;have:ob a=some g:=by injection hv with ha;rw[ha];rfl
  rw[hs g this];exact hh
theorem Own.alloc(h:Own w base e sz a n c xs)(o:Obj):Own (w.alloc o) base e sz a n c xs:=h.keep fun g hg=>Below.heap_alloc w o g (h.lt hg).2
theorem Own.drew(h:Own w base e sz a n c xs):Own w.drew base e sz a n c xs:=h
theorem Own.far(h:Own w base e sz a n c xs){p:Addr}(hp:ob a≠some p.block)(v:Value):Own (w.setCell p v) base e sz a n c xs:=
 h.keep fun g hg=>Below.heap_setCell w p v g (fun e=>hp (by rw[<-e];exact hg))
theorem Own.below{B:Nat}(h:Own w base e sz a n c xs)(hb:Below B w w')(hB:w.heap.size<=B):Own w' base e sz a n c xs:=
 h.keep fun g hg=>hb.block g (Nat.lt_of_lt_of_le (h.lt hg).2 hB)
theorem Own.cells(h:Own w base e sz a n c xs)(hn:0<xs.length):∃b,a=some b/\∀j u,xs[j]?=some u->w.cell? (b.add j)=some u:=by
 rcases h.2 with ⟨_,hn0⟩|⟨g,cap,cur,hv,hb,hh,_⟩
 ·have:=h.1;rw[hn0]at this;omega
 ·injection hv with ha
  subst ha;exact⟨_,rfl,World.ownsRow.cells h rfl⟩
theorem Aw1{P:Program}{t:TypeId}{bytes:Nat}{z:Value}(hT:SlTy P t e sz bytes z)(h:Own w base e sz a n c xs){b:Addr}{m c2:Nat}{news:List Value}
 (hl:news.length=m*sz) (hnews:∀j u,news[j]?=some u->w.cell? (b.add j)=some u) (h1:∀u∈news,u.oneCell'=true)
 (hbytes:(n+m)*bytes<=140737488355328) (h63:n+m<=4611686018427387904) (hbase:base<=w.heap.size) {ty:TypeId} {F:Option Addr->Nat->Nat->World->Prop}
 (hF:∀a' c' w',Own w' base e sz a' (n+m) c' (xs++news)->w.grownBy w' (ob a)->(ob a'=ob a\/ob a'=some w.heap.size)->F a' (n+m) c' w'):
 Da P #[t,t] ty #[.slice a n c,.slice (some b) m c2] w F:=by
 obtain⟨i,hi,hz,hs,hy⟩:=hT.info;obtain⟨v',w',hr,h2,h3,_,h5⟩:=run_append_own_at (P:=P) w base t ty e i z sz bytes hT.ht hi hz hs hy hT.hz hT.pos _ n xs h b m c2 news hl hnews h1 (by unfold maxLen;omega) hbytes hbase;rw[Acy]at h3 h5;rcases h2.2 with ⟨hv,hn⟩|⟨g,cap,cur,hv,hb',hh,r⟩
 ·subst hv;refine⟨none,0,0,w',hr,?_⟩;have:=hF none 0 w' (by rw[hn];rw[hn]at h2;exact h2) h3 (by simpa [Value.ownBlock,ob] using h5);rw[hn]at this;exact this
 ·subst hv;exact⟨_,_,_,w',hr,hF _ _ w' h2 h3 (by simpa [Value.ownBlock,ob] using h5)⟩
end
def OwnI(w:World)(base:Nat)(e:TypeId)(k:IntKind)(a:Option Addr)(n c:Nat)(zs:List Int):Prop:=n=zs.length/\Own w base e 1 a n c (zs.map (Value.int k))
section
variable{w w':World}{base:Nat}{e:TypeId}{k:IntKind}{a:Option Addr}{n c:Nat}{zs:List Int}
theorem OwnI.nil_(w:World)(base:Nat)(e:TypeId)(k:IntKind):OwnI w base e k none 0 0 []:=⟨rfl,Own.nil_ ..⟩
theorem OwnI.sl(h:OwnI w base e k a n c zs):SlR (Bp k) 1 w a zs:=by
 rcases dK zs.length with h0|h0
 ·exact .inl (aK h0)
 ·obtain⟨b,rfl,hc⟩:=h.2.cells (by simpa using h0);exact .inr ⟨b,rfl,fun i hi=>hc (i*1) _ (by simp[hi])⟩
theorem OwnI.keep(h:OwnI w base e k a n c zs)(hs:∀g,ob a=some g->w'.heap[g]?=w.heap[g]?):OwnI w' base e k a n c zs:=⟨h.1,h.2.keep hs⟩
theorem OwnI.lt(h:OwnI w base e k a n c zs){g:Nat}(hg:ob a=some g):base<=g/\g<w.heap.size:=h.2.lt hg
theorem OwnI.app{P:Program}{t:TypeId}{bytes:Nat}{z:Value}(hT:SlTy P t e 1 bytes z)(h:OwnI w base e k a n c zs){b:Addr}{m c2:Nat}{news:List Int}
 (hl:m=news.length) (hnews:∀j x,news[j]?=some x->w.cell? (b.add j)=some (.int k x))
 (hbytes:(n+m)*bytes<=140737488355328) (h63:n+m<=4611686018427387904) (hbase:base<=w.heap.size) {ty:TypeId} {F:Option Addr->Nat->Nat->World->Prop}
 (hF:∀a' c' w',OwnI w' base e k a' (n+m) c' (zs++news)->w.grownBy w' (ob a)->(ob a'=ob a\/ob a'=some w.heap.size)->F a' (n+m) c' w'):
 Da P #[t,t] ty #[.slice a n c,.slice (some b) m c2] w F:=by
 refine Aw1 hT h.2 (news:=news.map (Value.int k)) (by simp[hl]) (fun j u hu=>?_) (fun u hu=>?_) hbytes h63 hbase fun a' c' w' ho hg hb=>hF a' c' w' ⟨by simp[hl,h.1],by simpa using ho⟩ hg hb
 ·simp only[List.getElem?_map,Option.map_eq_some_iff]at hu;obtain⟨x,hx,rfl⟩:=hu;exact hnews j x hx
 ·simp only[cZ]at hu;obtain⟨x,_,rfl⟩:=hu;rfl
end
theorem _root_.Go.RowKit.Below.app{B:Nat}{a w w':World}{row:Option Nat}(h:Below B a w)(hg:w.grownBy w' row)(hB:B<=w.heap.size)(hr:∀k,row=some k->B<=k):Below B a w':=h.grown hg hB hr
theorem Alv{P:Program}{w:World}(base:Nat)(t ty e:TypeId)(i:TypeInfo)(size:Nat)(ht:P.underlying t=some (.slice e))(hi:P.info? e=some i)
 (v:Value) (n c:Nat) (xs:List Value) (hown:w.ownsRow base e size v n xs):
 (Builtin.append_ #[t,t] ty #[v,.slice none 0 c]).run P w=.ok v w:=by
 rcases hown.2 with ⟨rfl,rfl⟩|⟨g,cap,cur,rfl,_,_,hnc,_⟩
 ·simp[Builtin.append_,run_underlying ht,sizeOf,typeInfo,hi,Builtin.lenOf,Builtin.firstCells]
 ·simp[Builtin.append_,run_underlying ht,sizeOf,typeInfo,hi,Builtin.lenOf,Builtin.firstCells,hnc,storeCells]
section
variable{w w':World}{base:Nat}{e:TypeId}{k:IntKind}{a:Option Addr}{n c:Nat}{zs:List Int}
theorem OwnI.lit(w:World)(e:TypeId)(k:IntKind)(zs:List Int){cs:Array Value}(hcs:cs=(zs.map (Value.int k)).toArray)(hb:base<=w.heap.size)(hm:zs.length<=maxLen):OwnI (w.alloc (.cells cs e)) base e k (some (nb w)) zs.length zs.length zs:=by
 subst hcs;refine⟨rfl,?_⟩;have:=World.ownsRow_lit (base:=base) (e:=e) (size:=1) w (zs.map (Value.int k)).toArray zs.length hb hm (by simp);simpa [Own,Bb5] using this
theorem OwnI.cell{g:Nat}(h:OwnI w base e k (some ⟨g,0,none⟩) n c zs){j:Nat}(hj:j<zs.length):w.cell? ⟨g,j,none⟩=some (.int k zs[j]):=by
 have:=World.ownsRow.cellAt h.2 j (by rw[h.1];omega);rw[this];simp[hj]
theorem OwnI.frozen{g:Nat}(h:OwnI w base e k (some ⟨g,0,none⟩) n c zs)(j:Nat):w.frozen? ⟨g,j,none⟩=false:=World.ownsRow.frozenAt h.2 j
theorem OwnI.set{g:Nat}(h:OwnI w base e k (some ⟨g,0,none⟩) n c zs)(j:Nat)(x:Int):OwnI (w.setCell ⟨g,j,none⟩ (.int k x)) base e k (some ⟨g,0,none⟩) n c (zs.set j x):=by
 refine⟨by simpa using h.1,?_⟩;have:=(World.ownsRow.stored h.2 j (.int k x)).1;rwa[<-bG]at this
theorem OwnI.alloc(h:OwnI w base e k a n c zs)(o:Obj):OwnI (w.alloc o) base e k a n c zs:=⟨h.1,h.2.alloc o⟩
theorem OwnI.drew(h:OwnI w base e k a n c zs):OwnI w.drew base e k a n c zs:=h
theorem OwnI.far(h:OwnI w base e k a n c zs){p:Addr}(hp:ob a≠some p.block)(v:Value):OwnI (w.setCell p v) base e k a n c zs:=⟨h.1,h.2.far hp v⟩
theorem OwnI.below{B:Nat}(h:OwnI w base e k a n c zs)(hb:Below B w w')(hB:w.heap.size<=B):OwnI w' base e k a n c zs:=⟨h.1,h.2.below hb hB⟩
end
section
variable{w:World}{base:Nat}{e:TypeId}{k:IntKind}{a:Option Addr}{n c:Nat}{zs:List Int}
end
theorem Atz(k:IntKind)(a b:Nat)(ha:a<2^k.bits)(hb:b<2^k.bits):bAnd k (a:Int) (b:Int)=k.wrap ((a &&& b:Nat):Int):=by
 unfold bAnd;simp only[BitVec.ofInt_natCast,BitVec.toNat_and,BitVec.toNat_ofNat,dU ha,dU hb]
theorem Awp(k:IntKind)(a b:Nat)(ha:a<2^k.bits)(hb:b<2^k.bits):bOr k (a:Int) (b:Int)=k.wrap ((a ||| b:Nat):Int):=by
 unfold bOr;simp only[BitVec.ofInt_natCast,BitVec.toNat_or,BitVec.toNat_ofNat,dU ha,dU hb]
theorem Xj{n:Int}(h:0<=n):∃m:Nat,n=m:=⟨n.toNat,by omega⟩
def Bytes(xs:List Int):Prop:=∀i (h:i<xs.length),0<=xs[i]/\xs[i]<256
theorem Bytes.get{xs:List Int}(h:Bytes xs){i:Nat}(hi:i<xs.length):∃m:Nat,xs[i]=m/\m<256:=by
 obtain⟨h0,h1⟩:=h i hi;exact⟨xs[i].toNat,by omega,by omega⟩
theorem Aqp:∀ {xs ys:List Int},Bytes xs->Bytes ys->strOfNums xs=strOfNums ys->xs=ys:=by
 intro xs ys hx hy h;have h2:xs.map (fun n=>UInt8.ofNat n.toNat)=ys.map (fun n=>UInt8.ofNat n.toNat):=by
  have:=cI (fun s=>s.data.toList) h;simpa [strOfNums_data] using this
 have hl:xs.length=ys.length:=by simpa using cI List.length h2
 apply cX hl;intro i h1 h3;have h4:=cI (fun l=>l[i]?) h2;simp only[List.getElem?_map,List.getElem?_eq_getElem h1,List.getElem?_eq_getElem h3,cM,Option.some.injEq]at h4;obtain⟨m,hm,hm2⟩:=hx.get h1;obtain⟨n,hn,hn2⟩:=hy.get h3;rw[hm,hn]at h4 ⊢;have:=cI UInt8.toNat h4;simp only[bK,UInt8.toNat_ofNat']at this;rw[dU (by omega),dU (by omega)]at this;rw[this]
theorem Oa{P:Program}{s d e:TypeId}(hs:P.underlying s=some (.slice e))(he:P.underlying e=some (.int .u8))(hd:P.underlying d=some .string){w:World}{a:Option Addr}{c:Nat}{xs:List Int}
 (h:SlR (Bp .u8) 1 w a xs) {F:ByteArray->Prop} (hF:F (strOfNums xs)):Arf P s d (.slice a xs.length c) w F:=by
 cases a with
 |none=>
  obtain rfl:xs=[]:=by
   rcases h with h|⟨b,hb,_⟩
   ·exact h
   ·cases hb
  refine⟨ByteArray.empty,run_convert_bytes_nil w s e hs he _ _ d hd,?_⟩;have:strOfNums []=ByteArray.empty:=rfl;rw[<-this];exact hF
 |some b=>
  refine⟨strOfNums xs,?_,hF⟩;have hl:(loadCells b xs.length).run P w=.ok (xs.map (Value.int .u8)).toArray w:=by
   have:=run_loadCells_list (P:=P) w b (xs.map (Value.int .u8)) (fun j v hj=>by
    have hjl:j<xs.length:=by
     rcases aT j xs.length with h|h
     ·exact h
     ·rw[List.getElem?_eq_none (by simpa using h)]at hj;cases hj
    obtain⟨b',hb,hc⟩:=h.get hjl;injection hb with hb
    subst hb;rw[dB]at hc;simp only[List.getElem?_map,List.getElem?_eq_getElem hjl,cM,Option.some.injEq]at hj;subst hj;exact hc)
   simpa using this
  rw[run_convert_bytes_string w s d e _ _ c hs he hd,run_bytesToString w _ _ c xs hl,foldl_push_bytes];simp[strOfNums,ByteArray.empty,ByteArray.emptyWithCapacity];rfl
theorem Asd{xs ys:List Int}(hx:Bytes xs)(hy:Bytes ys):(strOfNums xs == strOfNums ys)=decide (xs=ys):=by
 have e:∀a b:ByteArray,(a == b)=decide (a.data=b.data):=by
  rintro⟨x⟩ ⟨y⟩;show (x == y)=_;by_cases h:x=y
  ·subst h;simp
  ·simp[h]
 rw[e];apply bT.2;constructor
 ·intro h;refine Aqp hx hy ?_;exact cI ByteArray.mk h
 ·rintro rfl;rfl
theorem SlR.cut{k:IntKind}{w:World}{a:Option Addr}{xs:List Int}(h:SlR (Bp k) 1 w a xs){m l:Nat}(hm:xs.length<=m)(n:Nat):SlR (Bp k) 1 w (Ay m l 1 a) ((xs.drop l).take n):=by
 rcases h with rfl|⟨b,rfl,hc⟩
 ·exact .inl (by simp)
 unfold Ay;by_cases hl:m=l
 ·rw[aF hl];exact .inl (by rw[bZ (by omega)];simp)
 ·rw[aE hl];refine .inr ⟨_,rfl,fun i hi=>?_⟩;simp only[aU,bJ]at hi;have:=hc (l+i) (by omega);simp only[bX,cT];rw[Ls];have e:l*1+i*1=(l+i)*1:=by omega
  rw[e];exact this
theorem SlR.tail{k:IntKind}{w:World}{a:Option Addr}{xs:List Int}(h:SlR (Bp k) 1 w a xs){m l:Nat}(hm:xs.length<=m):SlR (Bp k) 1 w (Ay m l 1 a) (xs.drop l):=by
 have:=h.cut (l:=l) hm (xs.length);rwa[bY (by simp)]at this
end Go.Sx
