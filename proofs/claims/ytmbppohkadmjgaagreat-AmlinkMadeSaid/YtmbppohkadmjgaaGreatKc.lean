import Derived.Test.YtmbppohkadmjgaaGreatSx
import Derived.IntWalk
namespace Go.Sx
open Go.RowKit
def Bl(w:World)(F:World->Prop):Prop:=F w.drew
def Aj(w:World)(cs:Array Value)(t:TypeId)(F:Nat->World->Prop):Prop:=F w.heap.size (w.alloc (.cells cs t))
def Bj(w:World)(a:Addr)(v:Value)(F:World->Prop):Prop:=(∃u,w.cell? a=some u)/\w.frozen? a=false/\F (w.setCell a v)
def Bs{α:Type}(x:α)(F:α->Prop):Prop:=F x
def kW(k:IntKind)(e:Int)(F:Int->Prop):Prop:=F (k.wrap e)
def kLd(w:World)(a:Addr)(k:IntKind)(F:Int->Prop):Prop:=∃n:Int,w.cell? a=some (.int k n)/\F n
def Nw(w:World)(a:Addr)(F:Bool->Prop):Prop:=∃n:Bool,w.cell? a=some (.bool n)/\F n
def Au(w:World)(a:Addr)(F:Option Addr->Nat->Nat->Prop):Prop:=∃(p:Option Addr) (l c:Nat),w.cell? a=some (.slice p l c)/\F p l c
def kIx(a:Option Addr)(l:Nat)(j:Int)(F:Addr->Prop):Prop:=∃b:Addr,a=some b/\(0<=j/\j<(l:Int))/\F b
def Bdj(w:World)(by_:Nat)(l c:Int)(z:Array Value)(sz:Nat)(t:TypeId)(F:Nat->World->Prop):Prop:=
 (0<=l/\l<=c/\(by_:Int)*c<=281474976710656/\c<=9223372036854775807)/\F w.heap.size (w.alloc (.cells (madeCells z (c.toNat*sz)) t))
theorem Nu{α:Type}{x:α}{F:α->Prop}(h:∀y,y=x->F y):Bs x F:=h _ rfl
theorem Pq{α:Type}{x y:α}{F:α->Prop}(e:x=y)(h:F y):Bs x F:=by subst e;exact h
theorem Azq{k:IntKind}{e:Int}{F:Int->Prop}(h:∀y,y=k.wrap e->F y):kW k e F:=h _ rfl
theorem Aw{α:Type}{x:α}{F:α->Prop}(h:F x):Bs x F:=h
theorem Ao{e:Int}{F:Int->Prop}(he: -9223372036854775808<=e/\e<=9223372036854775807)(h:F e):kW .i64 e F:=by
 unfold kW;rw[IntWalk.i64_in e he];exact h
theorem Pk{e:Int}{F:Int->Prop}(he:0<=e/\e<=18446744073709551615)(h:F e):kW .u64 e F:=by
 unfold kW;have:IntKind.wrap .u64 e=e:=by
  unfold IntKind.wrap;simp[IntKind.signed,IntKind.bits];omega
 rw[this];exact h
theorem Aas{e:Int}{F:Int->Prop}(h:F (e%256)):kW .u8 e F:=h
theorem Ui{x:Int}{k:Nat}{F:Int->Prop}(h:F (x/2^k)):Bs (Int.fdiv x (2^k)) F:=by
 unfold Bs;rw[Int.fdiv_eq_ediv_of_nonneg]
 ·exact h
 ·have:(2:Int)^k=((2^k:Nat):Int):=by simp
  rw[this];exact Int.natCast_nonneg _
theorem Aw5{n:Nat}(h:n<=62):(1:Int)<=2^n/\(2:Int)^n<=4611686018427387904:=by
 have h1:(2:Nat)^n<=2^62:=dD (by decide) h;have h2:0<(2:Nat)^n:=Nat.pow_pos (by decide);have e:(2:Int)^n=((2^n:Nat):Int):=by simp
 rw[e];omega
theorem Kv{b:Int}{F:Int->Prop}(hb:b.toNat<=62)(h:F (2^b.toNat)):kW .i64 (1*2^(min b.toNat (IntKind.bits .i64))) F:=by
 have e:min b.toNat (IntKind.bits .i64)=b.toNat:=bQ (by show b.toNat<=64;omega);have:=Aw5 hb;refine Ao ?_ ?_
 ·rw[e];omega
 ·rw[e,Int.one_mul];exact h
theorem An{p:Prop}[Decidable p] {X Y:Prop}(h1:¬p->X)(h2:p->Y):bsplit (!decide p) X Y:=
 Al (fun h=>h1 (by simpa using h)) (fun h=>h2 (by simpa using h))
theorem Bq{b:Bool}{X Y:Prop}(h1:b=false->X)(h2:b=true->Y):bsplit (!b) X Y:=
 Al (fun h=>h1 (by simpa using h)) (fun h=>h2 (by simpa using h))
theorem Apv{p:Prop}[Decidable p] (h:p):Ending.returned (.bool true)=.returned (.bool (decide p)):=by rw[aM h]
theorem Hd{p:Prop}[Decidable p] (h:¬p):Ending.returned (.bool false)=.returned (.bool (decide p)):=by rw[aI h]
theorem Nq{p q:Prop}[Decidable p][Decidable q] (h:p↔q):Ending.returned (.bool (decide p))=.returned (.bool (decide q)):=by rw[bT.2 h]
theorem Jx{a:Addr}{l:Nat}{j:Int}{F:Addr->Prop}(hj:0<=j/\j<(l:Int))(h:F a):kIx (some a) l j F:=⟨_,rfl,hj,h⟩
end Go.Sx
