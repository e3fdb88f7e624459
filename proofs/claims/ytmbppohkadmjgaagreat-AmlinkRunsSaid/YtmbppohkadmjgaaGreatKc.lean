import Derived.Test.YtmbppohkadmjgaaGreatSx
import Derived.IntWalk
namespace Go.Sx
open Go.RowKit
def Bo(w:World)(F:World->Prop):Prop:=F w.drew
def Aj(w:World)(cs:Array Value)(t:TypeId)(F:Nat->World->Prop):Prop:=F w.heap.size (w.alloc (.cells cs t))
def Bk(w:World)(a:Addr)(v:Value)(F:World->Prop):Prop:=(∃u,w.cell? a=some u)/\w.frozen? a=false/\F (w.setCell a v)
def Bu{α:Type}(x:α)(F:α->Prop):Prop:=F x
def kW(k:IntKind)(e:Int)(F:Int->Prop):Prop:=F (k.wrap e)
def kLd(w:World)(a:Addr)(k:IntKind)(F:Int->Prop):Prop:=∃n:Int,w.cell? a=some (.int k n)/\F n
def Nu(w:World)(a:Addr)(F:Bool->Prop):Prop:=∃n:Bool,w.cell? a=some (.bool n)/\F n
def Au(w:World)(a:Addr)(F:Option Addr->Nat->Nat->Prop):Prop:=∃(p:Option Addr) (l c:Nat),w.cell? a=some (.slice p l c)/\F p l c
def kIx(a:Option Addr)(l:Nat)(j:Int)(F:Addr->Prop):Prop:=∃b:Addr,a=some b/\(0<=j/\j<(l:Int))/\F b
def Bb1(w:World)(by_:Nat)(l c:Int)(z:Array Value)(sz:Nat)(t:TypeId)(F:Nat->World->Prop):Prop:=
 (0<=l/\l<=c/\(by_:Int)*c<=281474976710656/\c<=9223372036854775807)/\F w.heap.size (w.alloc (.cells (madeCells z (c.toNat*sz)) t))
theorem My{α:Type}{x:α}{F:α->Prop}(h:∀y,y=x->F y):Bu x F:=h _ rfl
theorem Oa{α:Type}{x y:α}{F:α->Prop}(e:x=y)(h:F y):Bu x F:=by subst e;exact h
theorem Aw4{k:IntKind}{e:Int}{F:Int->Prop}(h:∀y,y=k.wrap e->F y):kW k e F:=h _ rfl
theorem Ay{α:Type}{x:α}{F:α->Prop}(h:F x):Bu x F:=h
theorem Ap{e:Int}{F:Int->Prop}(he: -9223372036854775808<=e/\e<=9223372036854775807)(h:F e):kW .i64 e F:=by
 unfold kW;rw[IntWalk.i64_in e he];exact h
theorem Oz{e:Int}{F:Int->Prop}(he:0<=e/\e<=18446744073709551615)(h:F e):kW .u64 e F:=by
 unfold kW;have:IntKind.wrap .u64 e=e:=by
  unfold IntKind.wrap;simp[IntKind.signed,IntKind.bits];omega
 rw[this];exact h
theorem Ade{e:Int}{F:Int->Prop}(h:F (e%256)):kW .u8 e F:=h
theorem Tf{x:Int}{k:Nat}{F:Int->Prop}(h:F (x/2^k)):Bu (Int.fdiv x (2^k)) F:=by
 unfold Bu;rw[fS]
 ·exact h
 ·have:(2:Int)^k=((2^k:Nat):Int):=by simp
  rw[this];exact fF _
theorem Avs{n:Nat}(h:n<=62):(1:Int)<=2^n/\(2:Int)^n<=4611686018427387904:=by
 have h1:(2:Nat)^n<=2^62:=dB (by decide) h;have h2:0<(2:Nat)^n:=fP (by decide);have e:(2:Int)^n=((2^n:Nat):Int):=by simp
 rw[e];omega
theorem Kl{b:Int}{F:Int->Prop}(hb:b.toNat<=62)(h:F (2^b.toNat)):kW .i64 (1*2^(min b.toNat (IntKind.bits .i64))) F:=by
 have e:min b.toNat (IntKind.bits .i64)=b.toNat:=bR (by show b.toNat<=64;omega);have:=Avs hb;refine Ap ?_ ?_
 ·rw[e];omega
 ·rw[e,Int.one_mul];exact h
theorem Al{p:Prop}[Decidable p] {X Y:Prop}(h1:¬p->X)(h2:p->Y):bsplit (!decide p) X Y:=
 An (fun h=>h1 (by simpa using h)) (fun h=>h2 (by simpa using h))
theorem Bq{b:Bool}{X Y:Prop}(h1:b=false->X)(h2:b=true->Y):bsplit (!b) X Y:=
 An (fun h=>h1 (by simpa using h)) (fun h=>h2 (by simpa using h))
theorem Aoj{p:Prop}[Decidable p] (h:p):Ending.returned (.bool true)=.returned (.bool (decide p)):=by rw[aL h]
theorem Gx{p:Prop}[Decidable p] (h:¬p):Ending.returned (.bool false)=.returned (.bool (decide p)):=by rw[aI h]
theorem Ng{p q:Prop}[Decidable p][Decidable q] (h:p↔q):Ending.returned (.bool (decide p))=.returned (.bool (decide q)):=by rw[bS.2 h]
theorem Lb{a:Addr}{l:Nat}{j:Int}{F:Addr->Prop}(hj:0<=j/\j<(l:Int))(h:F a):kIx (some a) l j F:=⟨_,rfl,hj,h⟩
end Go.Sx
