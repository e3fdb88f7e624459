import Derived.Test.YtmbppohkadmjgaaGreatBl
import Derived.WalkKit
import Derived.OrdersHeld
import Derived.Deep.RegionHeld3
import Derived.WalkSpells
import Derived.WalkLawsBesides
import Derived.MapKept
namespace Go.Sx
open Go.RowKit
abbrev Env:=Nat→Value
def Env.put(e:Env)(d:Nat)(v:Value):Env:=fun t=>bif Nat.beq t d then v else e t
def ev(e:Env):Operand→Value
 |.tmp t=>e t
 |.const v=>v
 |.global g=>.pointer (some ⟨g,0,none⟩)
 |.func f=>.func (.func f) #[] #[]
def Ux(e:Env)(d:Option Nat)(v:Value):Env:=
 match d with
 |some d=>e.put d v
 |none=>e
def Ce(a:Act):Env:=fun t=>a.tmps.getD t undef
theorem Jp(a:Act):ev (Ce a)=a.eval:=by
 funext x;cases x<;>rfl
theorem Env.put_eq{e:Env}{d:Nat}{v:Value}(h:e d=v):e.put d v=e:=by
 funext t;unfold Env.put;cases hb:Nat.beq t d
 ·rfl
 ·have:=bO hb;subst this;simp[h]
theorem Env.put_ne{e:Env}{d t:Nat}{v:Value}(h:t≠d):e.put d v t=e t:=by
 unfold Env.put;cases hb:Nat.beq t d
 ·rfl
 ·exact absurd (bO hb) h
theorem Env.put_self{e:Env}{d:Nat}{v:Value}:e.put d v d=v:=by
 unfold Env.put;simp
theorem Aqz(a:Act)(d:Option Nat)(v:Value)(h:∀x,d=some x→x<a.tmps.size):Ce (a.put d v)=Ux (Ce a) d v:=by
 cases d with
 |none=>rfl
 |some d=>
  have hd:=h d rfl;funext t;simp only[Ux,Ce,Act.put];by_cases ht:t=d
  ·subst ht;rw[Env.put_self];simp[hd]
  ·rw[Env.put_ne ht];simp[Ce,Array.getElem?_setIfInBounds_ne (Ne.symm ht)]
inductive Prim where
 |int (k:IntKind)|bool|slice|ptr|addr|str|val|fn
inductive Kind where
 |p (q:Prim)
 |agg (l:List Prim)
 |raw (n:Nat)
def exPrim:Prim→(Value→Prop)→Prop
 |.int k,F=>∃n:Int,F (.int k n)
 |.bool,F=>∃b:Bool,F (.bool b)
 |.slice,F=>∃(a:Option Addr) (l c:Nat),F (.slice a l c)
 |.ptr,F=>∃a:Option Addr,F (.pointer a)
 |.addr,F=>∃a:Addr,F (.pointer (some a))
 |.str,F=>∃s:ByteArray,F (.string s)
 |.val,F=>∃v:Value,F v
 |.fn,F=>∃(g:Nat) (ff fc:Array Value),F (.func (.func g) ff fc)
def Vl:List Prim→(List Value→Prop)→Prop
 | [],F=>F []
 |q::qs,F=>exPrim q fun v=>Vl qs fun vs=>F (v::vs)
def Ayt:Kind→(Value→Prop)→Prop
 |.p q,F=>exPrim q F
 |.agg l,F=>Vl l fun vs=>F (.agg vs.toArray)
 |.raw _,F=>∃cs:Array Value,F (.agg cs)
def Asb:List Kind→(List Value→Prop)→Prop
 | [],F=>F []
 |q::qs,F=>Ayt q fun v=>Asb qs fun vs=>F (v::vs)
def Tx:List Value→Value
 | [v]=>v
 |vs=>.tuple vs.toArray
theorem Xo:∀ {q:Prim} {F:Value→Prop},exPrim q F→∃v,F v:=by
 intro q F h;cases q<;>simp only[exPrim]at h
 case slice=>obtain⟨a,l,c,h⟩:=h;exact⟨_,h⟩
 case fn=>obtain⟨a,l,c,h⟩:=h;exact⟨_,h⟩
 all_goals (obtain⟨n,h⟩:=h;exact⟨_,h⟩)
theorem Agl:∀ {qs:List Prim} {F:List Value→Prop},Vl qs F→∃vs,F vs
 | [],_,h=>⟨_,h⟩
 |_::qs,_,h=>by
  obtain⟨v,h⟩:=Xo h;obtain⟨vs,h⟩:=Agl h;exact⟨_,h⟩
theorem Ayd{q:Kind}{F:Value→Prop}(h:Ayt q F):∃v,F v:=by
 cases q with
 |p q=>exact Xo h
 |agg l=>obtain⟨vs,h⟩:=Agl h;exact⟨_,h⟩
 |raw n=>obtain⟨cs,h⟩:=h;exact⟨_,h⟩
theorem Aoq:∀ {qs:List Kind} {F:List Value→Prop},Asb qs F→∃vs,F vs
 | [],_,h=>⟨_,h⟩
 |_::qs,_,h=>by
  obtain⟨v,h⟩:=Ayd h;obtain⟨vs,h⟩:=Aoq h;exact⟨_,h⟩
theorem Ak5{q:Prim}{F G:Value→Prop}(hFG:∀v,F v→G v)(h:exPrim q F):exPrim q G:=by
 cases q<;>simp only[exPrim]at h ⊢
 case slice=>obtain⟨a,l,c,h⟩:=h;exact⟨_,_,_,hFG _ h⟩
 case fn=>obtain⟨a,l,c,h⟩:=h;exact⟨_,_,_,hFG _ h⟩
 all_goals (obtain⟨n,h⟩:=h;exact⟨_,hFG _ h⟩)
theorem Ahk:∀ {qs:List Prim} {F G:List Value→Prop},(∀v,F v→G v)→Vl qs F→Vl qs G
 | [],_,_,hFG,h=>hFG _ h
 |_::_,_,_,hFG,h=>Ak5 (fun _ h=>Ahk (fun _ h=>hFG _ h) h) h
def Prim.Arr:Prim→Type→Type
 |.int _,R=>Int→R
 |.bool,R=>Bool→R
 |.slice,R=>Option Addr→Nat→Nat→R
 |.ptr,R=>Option Addr→R
 |.addr,R=>Addr→R
 |.str,R=>ByteArray→R
 |.val,R=>Value→R
 |.fn,R=>Value→R
def Js:List Prim→Type→Type
 | [],R=>R
 |q::qs,R=>q.Arr (Js qs R)
def Kind.Arr:Kind→Type→Type
 |.p q,R=>q.Arr R
 |.agg l,R=>Js l R
 |.raw _,R=>Array Value→R
def Ah2:List (Nat×Kind)→Type→Type
 | [],R=>R
 |(_,k)::ks,R=>k.Arr (Ah2 ks R)
def rdPrim{R:Type}(d:R):(q:Prim)→q.Arr R→Value→R
 |.int k,J,.int k' n=>if k'=k then J n else d
 |.bool,J,.bool b=>J b
 |.slice,J,.slice a l c=>J a l c
 |.ptr,J,.pointer a=>J a
 |.addr,J,.pointer (some a)=>J a
 |.str,J,.string s=>J s
 |.val,J,v=>J v
 |.fn,J,v=>J v
 |_,_,_=>d
def dPrim{R:Type}(d:R):(q:Prim)→q.Arr R
 |.int _=>fun _=>d
 |.bool=>fun _=>d
 |.slice=>fun _ _ _=>d
 |.ptr=>fun _=>d
 |.addr=>fun _=>d
 |.str=>fun _=>d
 |.val=>fun _=>d
 |.fn=>fun _=>d
def Ab5{R:Type}(d:R):(qs:List Prim)→Js qs R
 | []=>d
 |q::qs=>dPrim (R:=Js qs R) (Ab5 d qs) q
def dKind{R:Type}(d:R):(k:Kind)→k.Arr R
 |.p q=>dPrim d q
 |.agg l=>Ab5 d l
 |.raw _=>fun _=>d
def Anh{R:Type}(d:R):(ks:List (Nat×Kind))→Ah2 ks R
 | []=>d
 |(_,k)::ks=>dKind (R:=Ah2 ks R) (Anh d ks) k
def Vi{R:Type}(d:R):(qs:List Prim)→Js qs R→List Value→R
 | [],J,[]=>J
 |q::qs,J,v::vs=>Vi d qs (rdPrim (R:=Js qs R) (Ab5 d qs) q J v) vs
 |_,_,_=>d
def rdKind{R:Type}(d:R):(k:Kind)→k.Arr R→Value→R
 |.p q,J,v=>rdPrim d q J v
 |.agg l,J,.agg cs=>Vi d l J cs.toList
 |.raw _,J,.agg cs=>J cs
 |_,_,_=>d
def Jc{R:Type}(d:R):(ks:List (Nat×Kind))→Ah2 ks R→Env→R
 | [],J,_=>J
 |(t,k)::ks,J,e=>Jc d ks (rdKind (R:=Ah2 ks R) (Anh d ks) k J (e t)) e
def allPrim{R:Type}:(q:Prim)→q.Arr R→(Value→R→Prop)→Prop
 |.int k,J,F=>∀n:Int,F (.int k n) (J n)
 |.bool,J,F=>∀b:Bool,F (.bool b) (J b)
 |.slice,J,F=>∀(a:Option Addr) (l c:Nat),F (.slice a l c) (J a l c)
 |.ptr,J,F=>∀a:Option Addr,F (.pointer a) (J a)
 |.addr,J,F=>∀a:Addr,F (.pointer (some a)) (J a)
 |.str,J,F=>∀s:ByteArray,F (.string s) (J s)
 |.val,J,F=>∀v:Value,F v (J v)
 |.fn,J,F=>∀v:Value,F v (J v)
def Aoc{R:Type}:(qs:List Prim)→Js qs R→(List Value→R→Prop)→Prop
 | [],J,F=>F [] J
 |q::qs,J,F=>allPrim (R:=Js qs R) q J fun v J=>Aoc qs J fun vs r=>F (v::vs) r
def Awy{R:Type}:(k:Kind)→k.Arr R→(Value→R→Prop)→Prop
 |.p q,J,F=>allPrim q J F
 |.agg l,J,F=>Aoc l J fun vs r=>F (.agg vs.toArray) r
 |.raw _,J,F=>∀cs:Array Value,F (.agg cs) (J cs)
def Ag8{R:Type}:(ks:List (Nat×Kind))→Ah2 ks R→Env→(Env→R→Prop)→Prop
 | [],J,e,F=>F e J
 |(t,k)::ks,J,e,F=>Awy (R:=Ah2 ks R) k J fun v J=>Ag8 ks J (e.put t v) F
theorem Anl{R:Type}(ok:R→Prop){q:Prim}{J:q.Arr R}{d:R}{F:Value→R→Prop}{v:Value}(hd:¬ok d)
 (h:allPrim q J F) (hr:ok (rdPrim d q J v)):F v (rdPrim d q J v):=by
 cases q<;>cases v<;>simp only[rdPrim,allPrim]at h hr ⊢
 case int.int k k' n=>
  by_cases hk:k'=k
  ·subst hk;simp only[dO]at hr ⊢;exact h n
  ·rw[aE hk]at hr;exact absurd hr hd
 case addr.pointer a=>
  cases a with
  |none=>exact absurd hr hd
  |some a=>exact h a
 all_goals first
  |exact h _
  |exact h _ _ _
  |exact absurd hr hd
theorem Atp{R:Type}(d:R)(q:Prim)(v:Value):rdPrim d q (dPrim d q) v=d:=by
 cases q<;>cases v<;>simp[rdPrim,dPrim]
 case addr.pointer a=>cases a<;>rfl
theorem Ai0{R:Type}(d:R):∀(qs:List Prim) (vs:List Value),Vi d qs (Ab5 d qs) vs=d
 | [],[]=>rfl
 | [],_::_=>rfl
 |_::_,[]=>rfl
 |q::qs,v::vs=>
  have h1:=cI (fun J=>Vi d qs J vs) (Atp (R:=Js qs R) (Ab5 d qs) q v)
  Eq.trans h1 (Ai0 d qs vs)
theorem Azo{R:Type}(d:R)(k:Kind)(v:Value):rdKind d k (dKind d k) v=d:=by
 cases k with
 |p q=>exact Atp d q v
 |agg l=>cases v<;>simp only[rdKind,dKind];exact Ai0 d l _
 |raw n=>cases v<;>simp[rdKind,dKind]
theorem Ava{R:Type}(d:R):∀(ks:List (Nat×Kind)) (e:Env),Jc d ks (Anh d ks) e=d
 | [],_=>rfl
 |(t,k)::ks,e=>
  have h1:=cI (fun J=>Jc d ks J e) (Azo (R:=Ah2 ks R) (Anh d ks) k (e t))
  Eq.trans h1 (Ava d ks e)
theorem Ak6{R:Type}(ok:R→Prop){d:R}(hd:¬ok d):∀ {qs:List Prim} {J:Js qs R} {F:List Value→R→Prop} {vs:List Value},
 Aoc qs J F→ok (Vi d qs J vs)→F vs (Vi d qs J vs)
 | [],_,_,[],h,_=>h
 | [],_,_,_::_,_,hr=>absurd hr hd
 |_::_,_,_,[],_,hr=>absurd hr hd
 |q::qs,J,F,v::vs,h,hr=>
  have hd':¬(fun J'=>ok (Vi d qs J' vs)) (Ab5 d qs):=fun hh=>hd ((cI ok (Ai0 d qs vs)).mp hh);have h1:=Anl (R:=Js qs R) (fun J'=>ok (Vi d qs J' vs)) (d:=Ab5 d qs) (v:=v) hd' h hr
  Ak6 ok hd (qs:=qs) (J:=rdPrim (R:=Js qs R) (Ab5 d qs) q J v) (F:=fun vs r=>F (v::vs) r) (vs:=vs) h1 hr
theorem Avn{R:Type}(ok:R→Prop){d:R}(hd:¬ok d){k:Kind}{J:k.Arr R}{F:Value→R→Prop}{v:Value}
 (h:Awy k J F) (hr:ok (rdKind d k J v)):F v (rdKind d k J v):=by
 cases k with
 |p q=>exact Anl ok hd h hr
 |agg l=>
  cases v<;>simp only[rdKind]at hr ⊢
  case agg cs=>
   have:=Ak6 ok hd (vs:=cs.toList) h hr;simpa using this
  all_goals exact absurd hr hd
 |raw n=>
  cases v<;>simp only[rdKind]at hr ⊢
  case agg cs=>exact h cs
  all_goals exact absurd hr hd
theorem Ys{R:Type}(ok:R→Prop){d:R}(hd:¬ok d):∀ {ks:List (Nat×Kind)} {J:Ah2 ks R} {e b:Env} {F:Env→R→Prop},
 Ag8 ks J b F→ok (Jc d ks J e)→(∀t,t∉ks.map (·.1)→b t=e t)→F e (Jc d ks J e)
 | [],J,e,b,F,h,hr,hb=>by
  have:b=e:=funext fun t=>hb t (by simp);subst this;exact h
 |(t,k)::ks,J,e,b,F,h,hr,hb=>by
  have hd':¬(fun J'=>ok (Jc d ks J' e)) (Anh d ks):=fun hh=>hd ((cI ok (Ava d ks e)).mp hh);have h1:=Avn (R:=Ah2 ks R) (fun J'=>ok (Jc d ks J' e)) (d:=Anh d ks) (v:=e t) hd' h hr;refine Ys ok hd (ks:=ks) (J:=rdKind (R:=Ah2 ks R) (Anh d ks) k J (e t)) (e:=e) (F:=F) (b:=b.put t (e t)) h1 hr fun u hu=>?_;by_cases hut:u=t
  ·subst hut;rw[Env.put_self]
  ·rw[Env.put_ne hut];exact hb u (by simp[hut,hu])
end Go.Sx
namespace Go.Sx
open Go.RowKit
def bAnd(k:IntKind)(a b:Int):Int:=k.wrap ((BitVec.ofInt k.bits a &&& BitVec.ofInt k.bits b).toNat:Int)
def bOr(k:IntKind)(a b:Int):Int:=k.wrap ((BitVec.ofInt k.bits a ||| BitVec.ofInt k.bits b).toNat:Int)
def bXor(k:IntKind)(a b:Int):Int:=k.wrap ((BitVec.ofInt k.bits a ^^^ BitVec.ofInt k.bits b).toNat:Int)
def bAndNot(k:IntKind)(a b:Int):Int:=k.wrap ((BitVec.ofInt k.bits a &&& ~~~ BitVec.ofInt k.bits b).toNat:Int)
def Avq(op:BinOp)(k:IntKind)(a b:Int):Option Value:=
 match op with
 |.add=>some (.int k (k.wrap (a+b)))
 |.sub=>some (.int k (k.wrap (a-b)))
 |.mul=>some (.int k (k.wrap (a*b)))
 |.and=>some (.int k (bAnd k a b))
 |.or=>some (.int k (bOr k a b))
 |.xor=>some (.int k (bXor k a b))
 |.andNot=>some (.int k (bAndNot k a b))
 |.eql=>some (.bool (a == b))
 |.neq=>some (.bool (a != b))
 |.lss=>some (.bool (decide (a<b)))
 |.leq=>some (.bool (decide (a≤b)))
 |.gtr=>some (.bool (decide (a>b)))
 |.geq=>some (.bool (decide (a≥b)))
 |_=>none
def Apj(op:BinOp)(k:IntKind)(a:Int)(b:Int):Option Value:=
 match op with
 |.quo=>if b=0 then none else some (.int k (k.wrap (a.tdiv b)))
 |.rem=>if b=0 then none else some (.int k (a.tmod b))
 |_=>none
def Afk(op:BinOp)(k:IntKind)(a:Int)(b:Int):Option Value:=
 match op with
 |.shl=>if b<0 then none else some (.int k (k.wrap (a*2^(min b.toNat k.bits))))
 |.shr=>if b<0 then none else some (.int k (a.fdiv (2^(min b.toNat k.bits))))
 |_=>none
def Adn:Operand→Bool
 |.const _=>true
 |_=>false
def isSh:BinOp→Bool
 |.shl|.shr=>true
 |_=>false
def isDiv:BinOp→Bool
 |.quo|.rem=>true
 |_=>false
def binVal(P:Program)(op:BinOp)(t:TypeId)(y:Operand):Value→Value→Option Value
 |.int k a,.int k' b=>
  bif isSh op then (bif Adn y then Afk op k a b else none)
  else if k=k' then (bif isDiv op then (bif Adn y then Apj op k a b else none) else Avq op k a b) else none
 |.bool a,.bool b=>match P.underlying t,op with
  |some .bool,.eql=>some (.bool (a == b))
  |some .bool,.neq=>some (.bool (!(a == b)))
  |_,_=>none
 |.string a,.string b=>match op with
  |.eql=>some (.bool (a == b))
  |.neq=>some (.bool (!(a == b)))
  |_=>none
 |.slice a _ _,.slice none _ _=>match P.underlying t,op with
  |some (.slice _),.eql=>some (.bool a.isNone)
  |some (.slice _),.neq=>some (.bool (!a.isNone))
  |_,_=>none
 |.pointer a,.pointer none=>match P.underlying t,op with
  |some (.pointer _),.eql=>some (.bool a.isNone)
  |some (.pointer _),.neq=>some (.bool (!a.isNone))
  |_,_=>none
 |_,_=>none
def Atb(P:Program)(t:TypeId)(cs:Array Value)(off:Nat):Option Value:=
 match P.underlying t,P.info? t with
 |some (.struct _),some i|some (.array _ _),some i=>some (.agg (cs.extract off (off+i.size)))
 |some _,_=>cs[off]?
 |none,_=>none
def Av3(P:Program)(t:TypeId):Value→Option Value
 |.slice _ n _=>match P.underlying t with|some (.slice _)=>some (.int .i64 n)|_=>none
 |.string s=>match P.underlying t with|some .string=>some (.int .i64 s.size)|_=>none
 |.pointer _=>match P.underlying t with
  |some (.pointer arr)=>(match P.underlying arr with|some (.array n _)=>some (.int .i64 n)|_=>none)
  |_=>none
 |.agg _=>match P.underlying t with|some (.array n _)=>some (.int .i64 n)|_=>none
 |_=>none
def Azf(P:Program)(t:TypeId):Value→Option Value
 |.slice _ _ n=>match P.underlying t with|some (.slice _)=>some (.int .i64 n)|_=>none
 |_=>none
def Av8:List Value→Option Value
 | [.int k x,.int _ y]=>some (.int k (if y<x then y else x))
 | [.int k x,.int _ y,.int _ z]=>some (.int k (if z<(if y<x then y else x) then z else (if y<x then y else x)))
 |_=>none
def Avw:List Value→Option Value
 | [.int k x,.int _ y]=>some (.int k (if y>x then y else x))
 | [.int k x,.int _ y,.int _ z]=>some (.int k (if z>(if y>x then y else x) then z else (if y>x then y else x)))
 |_=>none
def Amy(P:Program)(o:Oper)(e:Env):Option Value:=
 match o.op with
 |.move x|.assign x=>some (ev e x)
 |.pick c a b=>match ev e c with|.bool true=>some (ev e a)|.bool false=>some (ev e b)|_=>none
 |.binOp op t x y _=>binVal P op t y (ev e x) (ev e y)
 |.unOp op _ x=>match op,ev e x with
  |.not,.bool b=>some (.bool (!b))
  |.neg,.int k n=>some (.int k (k.wrap (0-n)))
  |.xor,.int k n=>some (.int k (bXor k (if k.signed then-1 else k.max) n))
  |_,_=>none
 |.convert s d x=>match P.underlying s,P.underlying d,ev e x with
  |some _,some (.int k),.int _ n=>some (.int k (k.wrap n))
  |_,_,_=>none
 |.fieldAddr s x f=>match P.underlying s,ev e x with
  |some (.struct fs),.pointer (some a)=>(match fs[f]? with
   |some fd=>(match P.info? fd.type with|some i=>if i.size=0 then none else some (.pointer (some (a.add fd.offset)))|none=>none)
   |none=>none)
  |_,_=>none
 |.field t x f=>match P.underlying t,ev e x with
  |some (.struct fs),.agg cs=>(match fs[f]? with|some fd=>Atb P fd.type cs fd.offset|none=>none)
  |_,_=>none
 |.extract x ix=>match ev e x with|.tuple vs=>vs[ix]?|_=>none
 |.makeFunc fn first captured=>some (.func fn (first.map (ev e)) (captured.map (ev e)))
 |.nilCheck x=>match ev e x with
  |.pointer (some a)=>some (.pointer (some a))
  |.func (.func f) first captured=>some (.func (.func f) first captured)
  |_=>none
 |.call c=>match c.callee with
  |.builtin .len=>match (c.argTypes[0]?),((c.args.map (ev e))[0]?)with|some t,some v=>Av3 P t v|_,_=>none
  |.builtin .cap=>match (c.argTypes[0]?),((c.args.map (ev e))[0]?)with|some t,some v=>Azf P t v|_,_=>none
  |.builtin .min=>Av8 (c.args.map (ev e)).toList
  |.builtin .max=>Avw (c.args.map (ev e)).toList
  |_=>none
 |_=>none
theorem Ar0{P:Program}{op:BinOp}{k:IntKind}{a b:Int}{v:Value}(h:Apj op k a b=some v)(w:World):(Op.intDiv op k a b).run P w=.ok v w:=by
 unfold Apj at h;cases op<;>simp at h
 all_goals (obtain⟨hb,rfl⟩:=h;simp[Op.intDiv,hb])
theorem Am4{P:Program}{op:BinOp}{k yk:IntKind}{a b:Int}{v:Value}(h:Afk op k a b=some v)(w:World):(Op.shift op k a yk b).run P w=.ok v w:=by
 unfold Afk at h;cases op<;>simp at h
 all_goals
  obtain⟨hb,rfl⟩:=h;have hn:¬b<0:=by omega
  unfold Op.shift;rw[aE hn];rfl
theorem Avz{P:Program}{op:BinOp}{k:IntKind}{a b:Int}{v:Value}(h:Avq op k a b=some v)(t:TypeId)(w:World):(binOp op t (.int k a) (.int k b)).run P w=.ok v w:=by
 unfold Avq at h;cases op<;>simp at h<;>subst h<;>simp[binOp,Op.intArith,Op.intBits,Op.intCmp,bAnd,bOr,bXor,bAndNot]
theorem Cb{α β:Type}{P:Program}{w w':World}{s:Sem α}{f:α→Sem β}{a:α}(h:s.run P w=.ok a w'):(s>>=f).run P w=(f a).run P w':=by
 rw[Sem.run_bind,h,Result.andThen_ok]
theorem Ack{P:Program}{op:BinOp}{t:TypeId}{x y:Operand}{a b:Value}(w:World)(h1:a≠.nilIface)(h2:∀cs,a≠.agg cs):(eqGuard op t x y a b).run P w=.ok () w:=by
 cases op
 case eql=>cases a<;>first|exact absurd rfl h1|exact absurd rfl (h2 _)|(cases b<;>rfl)
 case neq=>cases a<;>first|exact absurd rfl h1|exact absurd rfl (h2 _)|(cases b<;>rfl)
 all_goals rfl
theorem Av1{P:Program}{op:BinOp}{t:TypeId}{x y:Operand}{a b v:Value}(h:binVal P op t y a b=some v)(w:World):(do eqGuard op t x y a b;binOp op t a b:Sem Value).run P w=.ok v w:=by
 have hg:a≠.nilIface∧∀cs,a≠.agg cs:=by
  constructor
  ·rintro rfl;simp[binVal]at h
  ·rintro cs rfl;simp[binVal]at h
 rw[Cb (Ack w hg.1 hg.2)];unfold binVal at h;split at h
 ·rename_i k a k' b;cases hs:isSh op
  ·simp only[hs,cond_false]at h;by_cases hk:k=k'
   ·subst hk;simp only[dO]at h;cases hd:isDiv op
    ·simp only[hd,cond_false]at h;exact Avz h t w
    ·simp only[hd,cond_true]at h;cases hc:Adn y
     ·simp[hc]at h
     ·simp only[hc,cond_true]at h;have:=Ar0 (P:=P) h w;cases op<;>simp[isDiv]at hd<;>simpa [binOp] using this
   ·rw[aE hk]at h;cases h
  ·simp only[hs,cond_true]at h;cases hc:Adn y
   ·simp[hc]at h
   ·simp only[hc,cond_true]at h;have:=Am4 (P:=P) (yk:=k') h w;cases op<;>simp[isSh]at hs<;>simpa [binOp] using this
 ·rename_i a b;split at h<;>cases h<;>rename_i ht
  ·simp[binOp,Op.equal,Op.maxDepth,run_equalIn_bool' w 9999 t a b ht]
  ·simp[binOp,Op.equal,Op.maxDepth,run_equalIn_bool' w 9999 t a b ht]
 ·rename_i a b;split at h<;>cases h
  ·simp[binOp,Op.stringOp];exact(beq_toListBytes a b).symm
  ·simp[binOp,Op.stringOp];exact(beq_toListBytes a b).symm
 ·rename_i a l c l' c';split at h<;>cases h<;>rename_i e ht
  ·exact Lib.run_eql_slice_nil w t e a l c l' c' ht
  ·exact run_neq_slice_nil_any w t e a l c l' c' ht
 ·rename_i a;split at h<;>cases h<;>rename_i e ht
  ·exact run_eql_pointer_nil _ t a (by rw[ht];simp[Program.pointee,ht])
  ·exact run_neq_pointer_nil _ t a (by rw[ht];simp[Program.pointee,ht])
 ·cases h
theorem Au6{P:Program}{t:TypeId}{cs:Array Value}{off:Nat}{v:Value}(h:Atb P t cs off=some v)(w:World):(part t cs off).run P w=.ok v w:=by
 unfold Atb at h;split at h
 ·rename_i fs i hu hi;cases h
  simp[part,isAgg,run_underlying hu,sizeOf,typeInfo,hi]
 ·rename_i n el i hu hi;cases h
  simp[part,isAgg,run_underlying hu,sizeOf,typeInfo,hi]
 ·rename_i d hu hd1 hd2;have hna:(isAgg t).run P w=.ok false w∨P.info? t=none:=by
   cases hi:P.info? t with
   |none=>exact .inr rfl
   |some i=>
    left;simp only[isAgg];rw[Cb (run_underlying (P:=P) (w:=w) hu)];cases d<;>first|rfl|(exact(hd1 _ i hi rfl).elim)|(exact(hd2 _ _ i hi rfl).elim)
  rcases hna with hna|hna
  ·simp only[part];rw[Cb hna];simp[h]
  ·exfalso;simp[Program.underlying,hna]at hu
 ·cases h
theorem Axz{P:Program}{args:Array Value}{r:Value}(h:Av8 args.toList=some r)(ats:Array TypeId)(ty:TypeId)(w:World):(Builtin.min_ ats ty args).run P w=.ok r w:=by
 unfold Builtin.min_;generalize args.toList=l at h;unfold Av8 at h;split at h<;>cases h<;>simp[Builtin.min2]
theorem Axv{P:Program}{args:Array Value}{r:Value}(h:Avw args.toList=some r)(ats:Array TypeId)(ty:TypeId)(w:World):(Builtin.max_ ats ty args).run P w=.ok r w:=by
 unfold Builtin.max_;generalize args.toList=l at h;unfold Avw at h;split at h<;>cases h<;>simp[Builtin.max2]
theorem Axw{P:Program}{t ty:TypeId}{v r:Value}(h:Av3 P t v=some r)(ats:Array TypeId)(args:Array Value)(ha:ats[0]?=some t)(hv:args[0]?=some v)(w:World):(Builtin.len_ ats ty args).run P w=.ok r w:=by
 unfold Av3 at h;unfold Builtin.len_;simp only[ha,hv];split at h
 ·split at h<;>cases h;rename_i e hu;simp[run_underlying hu,goInt]
 ·split at h<;>cases h;rename_i hu;simp[run_underlying hu,goInt]
 ·split at h
  ·rename_i arr hu;split at h<;>cases h
   rename_i n e hn;rw[Cb (run_underlying (P:=P) (w:=w) hu)];simp[run_underlying hn,goInt]
  ·cases h
 ·split at h<;>cases h;rename_i hu;simp[run_underlying hu,goInt]
 ·cases h
theorem Abj{P:Program}{o:Oper}{e:Env}{v:Value}(h:Amy P o e=some v)(w:World):(execOp (ev e) o).run P w=.ok (.value v) w:=by
 unfold Amy at h;obtain⟨dst,op,type,pos,after,guard⟩:=o;cases op<;>simp only at h<;>try (cases h;done)
 case move x=>cases h;rfl
 case assign x=>cases h;rfl
 case pick c a b=>
  split at h<;>cases h<;>rename_i hc<;>simp[execOp,hc,asBool]
 case binOp op t x y yt=>
  have:=Av1 h w (x:=x);simp only[execOp];exact Cb this
 case unOp op t x=>
  split at h<;>cases h<;>rename_i hx<;>simp[execOp,hx,Op.unary,Op.intArith,Op.intBits,bXor]
 case convert s d x=>
  split at h<;>cases h
  rename_i hs hd hx;simp[execOp,hx,convert,run_underlying hs,run_underlying hd,Conv.intToInt]
 case fieldAddr s x f=>
  split at h
  ·rename_i fs a hu hx;split at h
   ·rename_i fd hf;split at h
    ·rename_i i hi;split at h<;>cases h
     rename_i hz;simp[execOp,hx,Instr.fieldAt,run_underlying hu,hf,Instr.sureAddr,fieldPlace,sizeOf,typeInfo,hi,hz]
    ·cases h
   ·cases h
  ·cases h
 case field t x f=>
  split at h
  ·rename_i fs cs hu hx;split at h
   ·rename_i fd hf;have:=Au6 h w;simp[execOp,hx,Instr.field,run_underlying hu,hf,asAgg,this]
   ·cases h
  ·cases h
 case extract x ix=>
  split at h
  ·rename_i vs hx;simp[execOp,hx,Instr.extract,h]
  ·cases h
 case makeFunc fn first captured=>cases h;rfl
 case nilCheck x=>
  split at h<;>cases h<;>rename_i hx<;>simp[execOp,hx]
 case call c=>
  obtain⟨callee,args,ats⟩:=c;simp only at h;split at h
  ·split at h
   ·rename_i t u ht hv;have:=Axw (ty:=type) h ats _ ht hv w;simp[execOp,resolve,invoke,builtin,this]
   ·cases h
  ·split at h
   ·rename_i t u ht hv;unfold Azf at h;split at h
    ·split at h<;>cases h
     rename_i hu;simp only[Array.getElem?_map,Option.map_eq_some_iff]at hv;obtain⟨x0,hx0,hx1⟩:=hv;simp[execOp,resolve,invoke,builtin,Builtin.cap_,ht,hx0,hx1,run_underlying hu,goInt]
    ·cases h
   ·cases h
  ·have:=Axz (P:=P) h ats type w;simp[execOp,resolve,invoke,builtin,this]
  ·have:=Axv (P:=P) h ats type w;simp[execOp,resolve,invoke,builtin,this]
  ·cases h
end Go.Sx
namespace Go.Sx
open Go.RowKit
def bcond(c:Bool)(p:Prop):Prop:=match c with|true=>p|false=>False
theorem Db{c:Bool}{p:Prop}:bcond c p↔c=true∧p:=by cases c<;>simp[bcond]
def Ak3(P:Program)(t:TypeId):Option (Option Nat):=
 match P.underlying t,P.info? t with
 |some (.struct _),some i|some (.array _ _),some i=>some (some i.size)
 |some _,some _=>some none
 |_,_=>none
def cellsAt(w:World)(a:Addr):Nat→List Value→Prop
 |_,[]=>True
 |i,v::vs=>w.cell? (a.add i)=some v∧cellsAt w a (i+1) vs
def Ac3(P:Program)(t:TypeId)(k:Kind)(w:World)(a:Addr)(F:Value→Prop):Prop:=
 match Ak3 P t,k with
 |some none,.p q=>exPrim q fun v=>w.cell? a=some v∧F v
 |some (some n),.agg l=>bcond (Nat.beq l.length n) (Vl l fun vs=>cellsAt w a 0 vs∧F (.agg vs.toArray))
 |some (some n),.raw m=>bcond (Nat.beq m n) (∃cs:Array Value,cs.size=n∧cellsAt w a 0 cs.toList∧F (.agg cs))
 |_,_=>False
def Ad(w:World)(a:Addr):Nat→List Value→(World→Prop)→Prop
 |_,[],F=>F w
 |i,v::vs,F=>bcond v.oneCell' ((∃u,w.cell? (a.add i)=some u)∧w.frozen? (a.add i)=false∧Ad (w.setCell (a.add i) v) a (i+1) vs F)
def Am0(rs:List Kind)(K:Value→World→Prop):Ending→World→Prop:=
 fun e w=>Asb rs fun vs=>e=.returned (Tx vs)∧K (Tx vs) w
def Bcv(P:Program)(f:FuncId):Bool:=match P.funcs[f]? with|some fn=>fn.body.isNone|none=>false
def Bbq(P:Program)(f:FuncId)(args:Array Value)(w:World)(R:Ending→World→Prop):Prop:=
 ∃v w',(callFunc f args).run P w=.ok (.value v) w'∧R (.returned v) w'
def Vy(P:Program)(f:FuncId):Bool:=match P.funcs[f]? with|some fn=>!(fn.name == "runtime.NumGoroutine")&&fn.body.isSome|none=>false
structure Cx where
 k:TypeId→List Kind
 pq:Option (List PanicEntry→World→Prop)
def PqH:Option (List PanicEntry→World→Prop)→List PanicEntry→World→Prop
 |none,_,_=>False
 |some F,ch,w=>F ch w
def Ayv(rs:List Kind)(K:Value→World→Prop):Option (List PanicEntry→World→Prop)→Ending→World→Prop
 |none=>Am0 rs K
 |some F=>fun e w=>Am0 rs K e w∨∃ch,e=.panicked ch∧F ch w
def Bae(P:Program)(T:Cx)(t:TypeId)(w:World)(f:FuncId)(args:Array Value)(K:Value→World→Prop):Prop:=
 Calls P f args w (Ayv (T.k t) K T.pq)
def bnd(v:Option Value)(y dflt:Nat)(F:Nat→Prop):Prop:=
 match v with
 |none=>F dflt
 |some (.int _ i)=>(0≤i∧i≤(y:Int))∧F i.toNat
 |_=>False
def mxOr(mx:Option Value)(cap m:Nat):Nat:=match mx with|none=>cap|some _=>m
def Ay(m l size:Nat)(a:Option Addr):Option Addr:=if m=l then a else a.map (·.add (l*size))
def Amu(P:Program)(t:TypeId)(x:Value)(lo hi mx:Option Value)(F:Value→Prop):Prop:=
 match P.underlying t,x with
 |some (.slice el),.slice a len cap=>match P.info? el with
  |some i=>bcond (mx.isNone||hi.isSome)<|bnd mx cap cap fun m=>bnd hi (mxOr mx cap m) len fun h=>bnd lo h 0 fun l=>
   F (.slice (Ay m l i.size a) (h-l) (m-l))
  |none=>False
 |some (.array n el),.pointer (some a)=>match P.info? el with
  |some i=>bcond (mx.isNone||hi.isSome)<|bnd mx n n fun m=>bnd hi (mxOr mx n m) n fun h=>bnd lo h 0 fun l=>F (.slice (Ay m l i.size (some a)) (h-l) (m-l))
  |none=>False
 |_,_=>False
def Vc(P:Program)(t:TypeId)(cst:Bool)(x i:Value)(F:Value→Prop):Prop:=
 match P.underlying t,x,i with
 |some (.slice el),.slice a l _,.int _ j=>match P.info? el with
  |some inf=>∃b,a=some b∧(0≤j∧j<(l:Int))∧F (.pointer (some (b.add (j.toNat*inf.size))))
  |none=>False
 |some (.array n el),.pointer (some b),.int _ j=>match P.info? el with
  |some inf=>match cst with
   |true=>if 0≤j∧j<(n:Int) then F (.pointer (some (b.add (j.toNat*inf.size)))) else False
   |false=>(0≤j∧j<(n:Int))∧F (.pointer (some (b.add (j.toNat*inf.size))))
  |none=>False
 |_,_,_=>False
def Amt(P:Program)(t:TypeId)(k:Kind)(x i:Value)(F:Value→Prop):Prop:=
 match P.underlying t,x,i with
 |some (.array n el),.agg cs,.int _ j=>match Ak3 P el,k with
  |some none,.p q=>(0≤j∧j<(n:Int))∧exPrim q fun v=>cs[j.toNat*P.cellsOf el]?=some v∧F v
  |some (some m),.agg l=>(0≤j∧j<(n:Int))∧Vl l fun vs=>cs.extract (j.toNat*P.cellsOf el) (j.toNat*P.cellsOf el+m)=vs.toArray∧F (.agg vs.toArray)
  |_,_=>False
 |some .string,.string s,.int _ j=>(0≤j∧j<(s.size:Int))∧∃b:UInt8,s[j.toNat]?=some b∧F (.int .u8 b.toNat)
 |_,_,_=>False
def Awr(op:BinOp)(x y:Value)(F:Value→Prop):Prop:=
 match op,x,y with
 |.quo,.int k a,.int k' b=>bcond (decide (k=k')) (b≠0∧F (.int k (k.wrap (a.tdiv b))))
 |.rem,.int k a,.int k' b=>bcond (decide (k=k')) (b≠0∧F (.int k (a.tmod b)))
 |.shl,.int k a,.int _ b=>0≤b∧F (.int k (k.wrap (a*2^(min b.toNat k.bits))))
 |.shr,.int k a,.int _ b=>0≤b∧F (.int k (a.fdiv (2^(min b.toNat k.bits))))
 |_,_,_=>False
def EqP(P:Program)(op:BinOp)(t:TypeId)(x y:Operand)(a b:Value)(F:Bool→Prop):Prop:=
 ∃r:Bool,(∀w:World,(do eqGuard op t x y a b;binOp op t a b:Sem Value).run P w=.ok (.bool r) w)∧F r
def Da(P:Program)(ats:Array TypeId)(ty:TypeId)(args:Array Value)(w:World)(F:Option Addr→Nat→Nat→World→Prop):Prop:=
 ∃a l c w',(Builtin.append_ ats ty args).run P w=.ok (.slice a l c) w'∧F a l c w'
def Afg(P:Program)(ats:Array TypeId)(ty:TypeId)(args:Array Value)(w:World)(F:Int→World→Prop):Prop:=
 ∃n w',(Builtin.copy_ ats ty args).run P w=.ok (.int .i64 n) w'∧F n w'
def Bb1(P:Program)(ats:Array TypeId)(ty:TypeId)(args:Array Value)(w:World)(F:World→Prop):Prop:=
 ∃w',(Builtin.clear_ ats ty args).run P w=.ok (.tuple #[]) w'∧F w'
def Ay2(P:Program)(t:TypeId)(l c:Value)(w:World)(K:Value→World→Prop):Prop:=
 match P.underlying t,l,c with
 |some (.slice el),.int _ l,.int _ c=>match P.info? el with
  |some i=>match i.zero with
   |some z=>(0≤l∧l≤c∧(i.bytes:Int)*c≤281474976710656∧c≤9223372036854775807)∧
    K (.slice (some ⟨w.heap.size,0,none⟩) l.toNat c.toNat) (w.alloc (.cells (madeCells z.cells (c.toNat*i.size)) el))
   |none=>False
  |none=>False
 |_,_,_=>False
def Arf(P:Program)(s d:TypeId)(v:Value)(w:World)(F:ByteArray→Prop):Prop:=∃r:ByteArray,(convert s d v).run P w=.ok (.string r) w∧F r
def Bcq(P:Program)(s d:TypeId)(v:Value)(w:World)(F:Option Addr→Nat→Nat→World→Prop):Prop:=∃a l c w',(convert s d v).run P w=.ok (.slice a l c) w'∧F a l c w'
def Aq7(P:Program)(T:Cx)(o:Oper)(e:Env)(w:World)(K:Value→World→Prop):Prop:=
 match (execOp (ev e) o).run P w with
 |.ok (.value v) w'=>K v w'
 |.ok .skip w'=>K undef w'
 |.ok (.enter f args) w'=>Bae P T o.type w' f args K
 |.halt (.panic v) w'=>PqH T.pq [{ v,recovered:=false }] w'
 |_=>False
def Avc(P:Program)(T:Cx)(o:Oper)(e:Env)(w:World)(K:Value→World→Prop):Prop:=
 match o.op with
 |.load t x=>match ev e x,T.k t with
  |.pointer (some a),[k]=>Ac3 P t k w a fun v=>K v w
  |_,_=>False
 |.store t x y=>match ev e x,P.info? t with
  |.pointer (some a),some i=>bcond (Nat.beq (ev e y).cells.size i.size) (Ad w a 0 (ev e y).cells.toList fun w'=>K undef w')
  |_,_=>False
 |.indexAddr t x i=>Vc P t (Adn i) (ev e x) (ev e i) fun v=>K v w
 |.index t x i=>match T.k o.type with
  | [k]=>Amt P t k (ev e x) (ev e i) fun v=>K v w
  |_=>False
 |.slice t x lo hi mx=>Amu P t (ev e x) (lo.map (ev e)) (hi.map (ev e)) (mx.map (ev e)) fun v=>K v w
 |.makeSlice t l c=>Ay2 P t (ev e l) (ev e c) w K
 |.convert s d x=>match P.underlying d with
  |some .string=>Arf P s d (ev e x) w fun r=>K (.string r) w
  |some (.slice _)=>Bcq P s d (ev e x) w fun a l c w'=>K (.slice a l c) w'
  |_=>Aq7 P T o e w K
 |.nilCheck x=>match ev e x with
  |.pointer a=>∃b:Addr,a=some b∧K (.pointer (some b)) w
  |_=>False
 |.binOp op t x y _=>match ev e x with
  |.agg _=>EqP P op t x y (ev e x) (ev e y) fun r=>K (.bool r) w
  |_=>Awr op (ev e x) (ev e y) fun v=>K v w
 |.call c=>match c.callee with
  |.builtin .append=>Da P c.argTypes o.type (c.args.map (ev e)) w fun a l k w'=>K (.slice a l k) w'
  |.builtin .copy=>Afg P c.argTypes o.type (c.args.map (ev e)) w fun n w'=>K (.int .i64 n) w'
  |.builtin .clear=>Bb1 P c.argTypes o.type (c.args.map (ev e)) w fun w'=>K (.tuple #[]) w'
  |.value (.tmp f)=>match ev e (.tmp f)with
   |.func (.func g) first cap=>Vy P g=true∧Bae P T o.type w g (first++c.args.map (ev e)++cap) K
   |_=>False
  |.value (.func g)=>match Bcv P g with
   |true=>Bbq P g (c.args.map (ev e)) w (Am0 (T.k o.type) K)
   |false=>Aq7 P T o e w K
  |_=>Aq7 P T o e w K
 |_=>Aq7 P T o e w K
def Cz(p:Option Addr)(F:Addr→Prop):Prop:=match p with|some b=>F b|none=>False
theorem Aph{p:Option Addr}{F:Addr→Prop}(h:Cz p F):∃b,p=some b∧F b:=by
 cases p with
 |none=>exact h.elim
 |some b=>exact⟨b,rfl,h⟩
def Aw4(P:Program)(T:Cx)(o:Oper)(e:Env)(w:World)(K:Value→World→Prop):Prop:=
 match Amy P o e with
 |some v=>K v w
 |none=>Avc P T o e w K
def Az6(w:World)(r:Nat)(es:List (Int×Int)):Prop:=
 ∃arr clock,w.heap[r]?=some (.map arr clock)∧arr.toList.map (fun e=>(e.key,e.val))=es.map fun p=>(Value.int .i64 p.1,Value.int .i64 p.2)
def Afe:List (Int×Int)→Int→Option Int
 | [],_=>none
 |p::es,x=>if p.1=x then some p.2 else Afe es x
def Auw:List (Int×Int)→Int→Int→List (Int×Int)
 | [],x,y=>[(x,y)]
 |p::es,x,y=>if p.1=x then (x,y)::es else p::Auw es x y
structure MapNew (w w':World) (r:Nat):Prop where
 at_:r=w.heap.size
 below:Below w.heap.size w w'
 map:Az6 w' r []
structure MapSet (w w':World) (r:Nat) (es:List (Int×Int)):Prop where
 os:w'.os=w.os
 tape:w'.tape=w.tape
 output:w'.output=w.output
 size:w'.heap.size=w.heap.size
 block:∀k,k≠r→w'.heap[k]?=w.heap[k]?
 map:Az6 w' r es
def Bb7(w:World)(F:Nat→World→Prop):Prop:=∀r w',MapNew w w' r→F r w'
def Bbi(w:World)(r:Nat)(x:Int)(F:Int→Bool→Prop):Prop:=∃es,Az6 w r es∧F ((Afe es x).getD 0) (Afe es x).isSome
def Ba8(w:World)(r:Nat)(x y:Int)(F:World→Prop):Prop:=∃es,Az6 w r es∧∀w',MapSet w w' r (Auw es x y)→F w'
def Awm(P:Program)(t:TypeId):Bool:=match P.underlying t with
 |some (.map kt et)=>(match P.underlying kt with
  |some (.int .i64)=>true
  |_=>false)&&(match P.info? et with
  |some i=>(match i.zero with
   |some (.int .i64 z)=>decide (z=0)
   |_=>false)
  |none=>false)
 |_=>false
def Azx(P:Program)(o:Oper)(e:Env)(w:World)(K:Value→World→Prop)(other:Prop):Prop:=
 match o.op with
 |.makeMap _ none=>Bb7 w fun r w'=>K (.map (some r)) w'
 |.lookup t m k ok=>match ev e m,ev e k with
  |.map (some r),.int .i64 x=>bcond (Awm P t) (Bbi w r x fun y b=>K (bif ok then .tuple #[.int .i64 y,.bool b] else .int .i64 y) w)
  |_,_=>other
 |.mapUpdate t m k v=>match ev e m,ev e k,ev e v with
  |.map (some r),.int .i64 x,.int .i64 y=>bcond (Awm P t) (Ba8 w r x y fun w'=>K undef w')
  |_,_,_=>other
 |_=>other
def As9(P:Program)(T:Cx)(o:Oper)(e:Env)(w:World)(K:Value→World→Prop):Prop:=
 match o.op with
 |.nilCheck x=>match ev e x with
  |.pointer p=>Cz p fun b=>K (.pointer (some b)) w
  |_=>Aw4 P T o e w K
 |_=>Azx P o e w K (Aw4 P T o e w K)
inductive Does (P:Program) (pq:Option (List PanicEntry→World→Prop)) (o:Oper) (e:Env) (w:World) (K:Value→World→Prop):Prop
 |value (v:Value) (w':World) (h:(execOp (ev e) o).run P w=.ok (.value v) w') (k:K v w')
 |skip (w':World) (h:(execOp (ev e) o).run P w=.ok .skip w') (k:K undef w')
 |enter (f:FuncId) (args:Array Value) (w':World) (h:(execOp (ev e) o).run P w=.ok (.enter f args) w')
  (k:Calls P f args w' fun e w''=>(∃v,e=.returned v∧K v w'')∨∃ch,e=.panicked ch∧PqH pq ch w'')
 |panic (v:Value) (w':World) (h:(execOp (ev e) o).run P w=.halt (.panic v) w') (k:PqH pq [{ v,recovered:=false }] w')
theorem Does.wp{P:Program}{pq:Option (List PanicEntry→World→Prop)}{o:Oper}{e:Env}{w:World}{K:Value→World→Prop}(h:Does P pq o e w K){a:Act}(ha:Ce a=e)
 {next:Act→World→Prop} {Q:Exit→Act→World→Prop} (hP:∀ch w',PqH pq ch w'→Q (.panic ch) a w') (hK:∀v w',K v w'→next (a.put o.dst v) w'):o.wp P a w next Q:=by
 subst ha;unfold Oper.wp;cases h with
 |value v w' h k=>rw[Jp]at h;rw[h];exact hK _ _ k
 |skip w' h k=>rw[Jp]at h;rw[h];exact hK _ _ k
 |enter f args w' h k=>
  rw[Jp]at h;rw[h];refine Calls.mono k ?_;rintro _ w'' (⟨v,rfl,hk⟩|⟨ch,rfl,hk⟩)
  ·exact hK _ _ hk
  ·exact hP _ _ hk
 |panic v w' h k=>rw[Jp]at h;rw[h];exact hP _ _ k
theorem Ala:∀ {qs:List Prim} {F:List Value→Prop},Vl qs F→∃vs,vs.length=qs.length∧F vs
 | [],_,h=>⟨[],rfl,h⟩
 |_::qs,_,h=>by
  obtain⟨v,h⟩:=Xo h;obtain⟨vs,hl,h⟩:=Ala h;exact⟨_,by simp[hl],h⟩
theorem Bc{w:World}{a:Addr}:∀ {i:Nat} {vs:List Value},cellsAt w a i vs→∀j v,vs[j]?=some v→w.cell? (a.add (i+j))=some v
 |_,[],_,j,v,h=>by simp at h
 |i,u::vs,hc,0,v,h=>by simp at h;subst h;exact hc.1
 |i,u::vs,hc,j+1,v,h=>by
  have:=Bc hc.2 j v (by simpa using h);rw[show i+(j+1)=i+1+j by omega];exact this
theorem Qe{P:Program}{t:TypeId}{n:Nat}(h:Ak3 P t=some (some n)):∀w,(isAgg t).run P w=.ok true w∧(sizeOf t).run P w=.ok n w:=by
 intro w;unfold Ak3 at h;split at h<;>first|cases h|skip
 ·rename_i fs i hu hi;exact⟨by simp[isAgg,run_underlying hu],by simp[sizeOf,typeInfo,hi]⟩
 ·rename_i m el i hu hi;exact⟨by simp[isAgg,run_underlying hu],by simp[sizeOf,typeInfo,hi]⟩
theorem Apg{P:Program}{t:TypeId}(h:Ak3 P t=some none):∀w,(isAgg t).run P w=.ok false w:=by
 intro w;unfold Ak3 at h;split at h<;>first|cases h|skip
 rename_i d i hd1 hd2 hu hi;simp only[isAgg];rw[Cb (run_underlying (P:=P) (w:=w) hu)];cases d<;>first|rfl|(exact(hd1 _ rfl).elim)|(exact(hd2 _ _ rfl).elim)
def Af1:Kind→Nat
 |.p _=>1
 |.agg l=>l.length
 |.raw n=>n
theorem Afv{P:Program}{t:TypeId}{k:Kind}{w:World}{a:Addr}{F:Value→Prop}(h:Ac3 P t k w a F):∃v,F v∧(loadVar t a).run P w=.ok v w∧
  ∀w',(∀j u,j<Af1 k→w.cell? (a.add j)=some u→w'.cell? (a.add j)=some u)→(loadVar t a).run P w'=.ok v w':=by
 have key:∃v,F v∧∀w',(∀j u,j<Af1 k→w.cell? (a.add j)=some u→w'.cell? (a.add j)=some u)→(loadVar t a).run P w'=.ok v w':=by
  unfold Ac3 at h;split at h
  ·rename_i hk;obtain⟨v,hc,hF⟩:=Xo h;refine⟨v,hF,fun w' hw=>?_⟩;simp only[loadVar];rw[Cb (Apg hk w')];have h0:w'.cell? a=some v:=hw 0 _ (by simp[Af1]) hc;simp[h0]
  ·rename_i n l hk;rw[Db]at h;obtain⟨hn,h⟩:=h;obtain⟨vs,hl,hc,hF⟩:=Ala h;refine⟨_,hF,fun w' hw=>?_⟩;have hlen:vs.length=n:=by rw[hl];exact bO hn
   simp only[loadVar];rw[Cb (Qe hk w').1];simp only[dO];rw[Cb (Qe hk w').2,←hlen,Cb (run_loadCells_list (P:=P) w' a vs (fun j v hv=>hw _ _ (by have:=(List.getElem?_eq_some_iff.1 hv).1;simp only[Af1];omega) (by simpa using Bc hc j v hv)))];rfl
  ·rename_i n m hk;rw[Db]at h;obtain⟨hn,cs,hl,hc,hF⟩:=h;refine⟨_,hF,fun w' hw=>?_⟩;simp only[loadVar];rw[Cb (Qe hk w').1];simp only[dO];have hl':cs.toList.length=n:=by simpa using hl
   rw[Cb (Qe hk w').2,←hl',Cb (run_loadCells_list (P:=P) w' a cs.toList (fun j v hv=>hw _ _ (by have:=(List.getElem?_eq_some_iff.1 hv).1;have:=bO hn;simp only[Af1];omega) (by simpa using Bc hc j v hv)))];rfl
  ·exact h.elim
 obtain⟨v,hF,hw⟩:=key;exact⟨v,hF,hw w fun _ _ _ h=>h,hw⟩
theorem Ak7{P:Program}{a:Addr}{F:World→Prop}:∀ {vs:List Value} {i:Nat} {w:World},Ad w a i vs F→
 ∃w',(storeCells a vs i).run P w=.ok () w'∧F w'
 | [],i,w,h=>⟨w,rfl,h⟩
 |v::vs,i,w,h=>by
  simp only[Ad,Db]at h;obtain⟨h1,⟨u,hu⟩,hf,h⟩:=h;obtain⟨w',hr,hF⟩:=Ak7 (P:=P) h;refine⟨w',?_,hF⟩;unfold storeCells;have hs:(store (a.add i) v).run P w=.ok () (w.setCell (a.add i) v):=by
   rw[run_store P w _ v _ h1,hu];simp[hf]
  rw[Cb hs];exact hr
theorem Acm{rs:List Kind}{K:Value→World→Prop}{e:Ending}{w:World}(h:Am0 rs K e w):∃v,e=.returned v∧K v w:=by
 obtain⟨vs,he,hk⟩:=Aoq h;exact⟨_,he,hk⟩
theorem Any{rs:List Kind}{K:Value→World→Prop}{pq:Option (List PanicEntry→World→Prop)}{e:Ending}{w:World}(h:Ayv rs K pq e w):(∃v,e=.returned v∧K v w)∨∃ch,e=.panicked ch∧PqH pq ch w:=by
 cases pq with
 |none=>exact .inl (Acm h)
 |some F=>
  rcases h with h|⟨ch,he,hF⟩
  ·exact .inl (Acm h)
  ·exact .inr ⟨ch,he,hF⟩
theorem Asi{v:Option Value}{y d:Nat}{F:Nat→Prop}(h:bnd v y d F):(v=none∧F d)∨∃k i,v=some (.int k i)∧0≤i∧i≤(y:Int)∧F i.toNat:=by
 unfold bnd at h;split at h
 ·exact .inl ⟨rfl,h⟩
 ·rename_i k i;exact .inr ⟨k,i,rfl,h.1.1,h.1.2,h.2⟩
 ·exact h.elim
theorem Zz{P:Program}{b:Bool}{len cap:Nat}{lo hi mx:Option Value}{F:Nat→Nat→Nat→Prop}
 (hmh:(mx.isNone||hi.isSome)=true) (h:bnd mx cap cap fun m=>bnd hi (mxOr mx cap m) len fun h=>bnd lo h 0 fun l=>F m h l):
 ∃m h l,F m h l∧∀w,(Instr.sliceBounds b len cap lo hi mx).run P w=.ok (l,h,m) w:=by
 rcases Asi h with ⟨e1,h1⟩|⟨km,m,e1,m0,m1,h1⟩<;>subst e1<;>rcases Asi h1 with ⟨e2,h2⟩|⟨kh,x,e2,x0,x1,h2⟩<;>subst e2<;>
  rcases Asi h2 with ⟨e3,h3⟩|⟨kl,l,e3,l0,l1,h3⟩<;>subst e3<;>simp only[mxOr]at*
 ·exact⟨_,_,_,h3,fun w=>by simp[Instr.sliceBounds]⟩
 ·exact⟨_,_,_,h3,fun w=>by simp[Instr.sliceBounds,run_sliceBound w kl l len _ l0 l1]⟩
 ·exact⟨_,_,_,h3,fun w=>by simp[Instr.sliceBounds,run_sliceBound w kh x cap _ x0 x1]⟩
 ·exact⟨_,_,_,h3,fun w=>by simp[Instr.sliceBounds,run_sliceBound w kh x cap _ x0 x1,run_sliceBound w kl l x.toNat _ l0 l1]⟩
 ·simp at hmh
 ·simp at hmh
 ·exact⟨_,_,_,h3,fun w=>by simp[Instr.sliceBounds,run_sliceBound w km m cap _ m0 m1,run_sliceBound w kh x m.toNat _ x0 x1]⟩
 ·exact⟨_,_,_,h3,fun w=>by simp[Instr.sliceBounds,run_sliceBound w km m cap _ m0 m1,run_sliceBound w kh x m.toNat _ x0 x1,run_sliceBound w kl l x.toNat _ l0 l1]⟩
theorem Ac4{P:Program}{t:TypeId}{x:Value}{lo hi mx:Option Value}{F:Value→Prop}(h:Amu P t x lo hi mx F):∃v,F v∧∀w,(Instr.sliceAt t x lo hi mx).run P w=.ok v w:=by
 unfold Amu at h;split at h
 ·rename_i el a len cap hu;split at h
  ·rename_i inf hinf;rw[Db]at h;obtain⟨m,hh,l,hF,hr⟩:=Zz (P:=P) (b:=true) h.1 h.2;refine⟨_,hF,fun w=>?_⟩;simp only[Instr.sliceAt];rw[Cb (run_underlying (P:=P) (w:=w) hu)];simp only[Instr.slice];rw[Cb (run_underlying (P:=P) (w:=w) hu)];simp only;rw[Cb (hr w)];simp[sizeOf,typeInfo,hinf,Ay]
  ·exact h.elim
 ·rename_i n el a hu;split at h
  ·rename_i inf hinf;rw[Db]at h;obtain⟨m,hh,l,hF,hr⟩:=Zz (P:=P) (b:=false) h.1 h.2;refine⟨_,hF,fun w=>?_⟩;simp only[Instr.sliceAt];rw[Cb (run_underlying (P:=P) (w:=w) hu)];simp only[Instr.sureAddr];rw[Cb (a:=a) (w':=w) rfl,Cb (hr w)];simp only[Ay];rw[Cb (a:=inf.size) (w':=w) (by simp[sizeOf,typeInfo,hinf])];by_cases hml:m=l<;>simp[hml]
  ·exact h.elim
 ·exact h.elim
theorem Ru{P:Program}{t:TypeId}{c:Bool}{x i:Value}{F:Value→Prop}(h:Vc P t c x i F):∃v,F v∧∀w,(Instr.indexAt t x i).run P w=.ok v w:=by
 unfold Vc at h;split at h
 ·rename_i el a l cap k j hu;split at h
  ·rename_i inf hinf;obtain⟨b,rfl,⟨h0,h1⟩,hF⟩:=h;refine⟨_,hF,fun w=>?_⟩;simp[Instr.indexAt,asIntOf,run_underlying hu,h0,h1,sizeOf,typeInfo,hinf]
  ·exact h.elim
 ·rename_i n el b k j hu;split at h
  ·rename_i inf hinf;have h':(0≤j∧j<(n:Int))∧F (.pointer (some (b.add (j.toNat*inf.size)))):=by
    cases c
    ·exact h
    ·by_cases hj:0≤j∧j<(n:Int)
     ·simp only[aF hj]at h;exact⟨hj,h⟩
     ·simp only[aE hj]at h
   obtain⟨⟨h0,h1⟩,hF⟩:=h';refine⟨_,hF,fun w=>?_⟩;simp[Instr.indexAt,asIntOf,run_underlying hu,h0,h1,sizeOf,typeInfo,hinf,Instr.sureAddr]
  ·exact h.elim
 ·exact h.elim
theorem Acz{P:Program}{t:TypeId}{k:Kind}{x i:Value}{F:Value→Prop}(h:Amt P t k x i F):∃v,F v∧∀w,(Instr.index t x i).run P w=.ok v w:=by
 unfold Amt at h;split at h
 ·rename_i n el cs kk j hu;split at h
  ·rename_i q hk;obtain⟨⟨h0,h1⟩,h⟩:=h;obtain⟨v,hc,hF⟩:=Xo h;refine⟨v,hF,fun w=>?_⟩;have hsz:(sizeOf el).run P w=.ok (P.cellsOf el) w:=by
    unfold Ak3 at hk;split at hk<;>first|cases hk|skip
    rename_i inf _ _ _ hinf;simp[sizeOf,typeInfo,Program.cellsOf,hinf]
   simp only[Instr.index,asIntOf];rw[Cb (a:=(kk,j)) (w':=w) rfl];simp only;rw[Cb (run_underlying (P:=P) (w:=w) hu)];simp only[aF (And.intro h0 h1)];rw[Cb hsz];simp only[part];rw[Cb (Apg hk w)];simp[hc]
  ·rename_i m l hk;obtain⟨⟨h0,h1⟩,h⟩:=h;obtain⟨vs,hc,hF⟩:=Agl h;refine⟨_,hF,fun w=>?_⟩;have hsz:(sizeOf el).run P w=.ok (P.cellsOf el) w:=by
    unfold Ak3 at hk;split at hk<;>first|cases hk|skip
    all_goals
     rename_i hinf;simp[sizeOf,typeInfo,Program.cellsOf,hinf]
   simp only[Instr.index,asIntOf];rw[Cb (a:=(kk,j)) (w':=w) rfl];simp only;rw[Cb (run_underlying (P:=P) (w:=w) hu)];simp only[aF (And.intro h0 h1)];rw[Cb hsz];simp only[part];rw[Cb (Qe hk w).1];simp only[dO];rw[Cb (Qe hk w).2,hc];rfl
  ·exact h.elim
 ·rename_i s kk j hu;obtain⟨⟨h0,h1⟩,b,hb,hF⟩:=h;refine⟨_,hF,fun w=>?_⟩;simp only[Instr.index,asIntOf];rw[Cb (a:=(kk,j)) (w':=w) rfl];simp only;rw[Cb (run_underlying (P:=P) (w:=w) hu)];simp only[aF h0,hb];rfl
 ·exact h.elim
theorem Aj3{P:Program}{op:BinOp}{t:TypeId}{x y:Operand}{a b:Value}{F:Value→Prop}(h:Awr op a b F):∃v,F v∧∀w,(do eqGuard op t x y a b;binOp op t a b:Sem Value).run P w=.ok v w:=by
 unfold Awr at h;split at h
 ·rw[Db]at h;obtain⟨hk,hb,hF⟩:=h;have hk:=of_decide_eq_true hk;subst hk;exact⟨_,hF,fun w=>by rw[Cb (Ack w (by simp) (by simp))];simp[binOp,Op.intDiv,hb]⟩
 ·rw[Db]at h;obtain⟨hk,hb,hF⟩:=h;have hk:=of_decide_eq_true hk;subst hk;exact⟨_,hF,fun w=>by rw[Cb (Ack w (by simp) (by simp))];simp[binOp,Op.intDiv,hb]⟩
 ·obtain⟨hb,hF⟩:=h;refine⟨_,hF,fun w=>?_⟩;rw[Cb (Ack w (by simp) (by simp))];simp only[binOp,Op.shift];rw[aE (by omega)];rfl
 ·obtain⟨hb,hF⟩:=h;refine⟨_,hF,fun w=>?_⟩;rw[Cb (Ack w (by simp) (by simp))];simp only[binOp,Op.shift];rw[aE (by omega)];rfl
 ·exact h.elim
theorem Zc{P:Program}{T:Cx}{o:Oper}{e:Env}{w:World}{K:Value→World→Prop}(h:Aq7 P T o e w K):Does P T.pq o e w K:=by
 unfold Aq7 at h;split at h
 ·rename_i v w' hr;exact .value v w' hr h
 ·rename_i w' hr;exact .skip w' hr h
 ·rename_i f args w' hr;exact .enter f args w' hr (Calls.mono h fun _ _ h=>Any h)
 ·rename_i v w' hr;exact .panic v w' hr h
 ·exact h.elim
theorem At2{P:Program}{f:FuncId}(h:Vy P f=true)(args:Array Value)(w:World):(callFunc f args).run P w=.ok (.enter f args) w:=by
 unfold Vy at h;split at h
 ·rename_i fn hf;simp only[aH,bP,beq_eq_false_iff_ne,ne_eq]at h;obtain⟨hn,hb⟩:=h;cases hbd:fn.body with
  |none=>simp[hbd]at hb
  |some c=>simp[callFunc,hf,hn,hbd]
 ·cases h
theorem Atn{P:Program}{T:Cx}{o:Oper}{e:Env}{w:World}{K:Value→World→Prop}(h:Avc P T o e w K):Does P T.pq o e w K:=by
 obtain⟨dst,op,type,pos,after,guard⟩:=o;unfold Avc at h;cases op<;>simp only at h<;>try exact Zc h
 case load t x=>
  split at h
  ·rename_i a k hx ht;obtain⟨v,hF,hr,-⟩:=Afv h;refine .value v w ?_ hF;simp[execOp,Instr.loadAt,hx,Instr.sureAddr,hr]
  ·exact h.elim
 case store t x y=>
  split at h
  ·rename_i a i hx hi;rw[Db]at h;obtain⟨w',hr,hF⟩:=Ak7 (P:=P) h.2;refine .skip w' ?_ hF;have hs:(ev e y).cells.size=i.size:=bO h.1;simp[execOp,Instr.storeAt,hx,Instr.sureAddr,storeVar,sizeOf,typeInfo,hi,hs,hr]
  ·exact h.elim
 case indexAddr t x i=>
  obtain⟨v,hF,hr⟩:=Ru h;exact .value v w (by simp[execOp,hr]) hF
 case index t x i=>
  split at h
  ·obtain⟨v,hF,hr⟩:=Acz h;exact .value v w (by simp[execOp,hr]) hF
  ·exact h.elim
 case slice t x lo hi mx=>
  obtain⟨v,hF,hr⟩:=Ac4 h;exact .value v w (by simp[execOp,hr]) hF
 case makeSlice t l c=>
  unfold Ay2 at h;split at h
  ·rename_i el kl l' kc c' hu hl hc;split at h
   ·rename_i i hi;split at h
    ·rename_i z hz;obtain⟨⟨h0,h1,h2,h3⟩,hK⟩:=h;refine .value _ _ ?_ hK;simp[execOp,hl,hc,run_make w t el i z hu hi hz kl kc l' c' h0 h1 h2 h3]
    ·exact h.elim
   ·exact h.elim
  ·exact h.elim
 case convert s d x=>
  split at h
  ·obtain⟨r,hr,hF⟩:=h;exact .value _ w (by simp[execOp,hr]) hF
  ·obtain⟨a,l,c,w',hr,hF⟩:=h;exact .value _ w' (by simp[execOp,hr]) hF
  ·exact Zc h
 case nilCheck x=>
  split at h
  ·rename_i a hx;obtain⟨b,rfl,hF⟩:=h;exact .value _ w (by simp[execOp,hx]) hF
  ·exact h.elim
 case binOp op t x y yt=>
  split at h
  ·rename_i cs hx;obtain⟨r,hr,hF⟩:=h;exact .value _ w (by simp only[execOp];exact Cb (hr w)) hF
  ·obtain⟨v,hF,hr⟩:=Aj3 (P:=P) (t:=t) (x:=x) (y:=y) h;exact .value v w (by simp only[execOp];exact Cb (hr w)) hF
 case call c=>
  obtain⟨callee,args,ats⟩:=c;simp only at h;split at h
  ·obtain⟨a,l,k,w',hr,hF⟩:=h;exact .value _ w' (by simp[execOp,resolve,invoke,builtin,hr]) hF
  ·obtain⟨n,w',hr,hF⟩:=h;exact .value _ w' (by simp[execOp,resolve,invoke,builtin,hr]) hF
  ·obtain⟨w',hr,hF⟩:=h;exact .value _ w' (by simp[execOp,resolve,invoke,builtin,hr]) hF
  ·rename_i f;split at h
   ·rename_i g first cap hf;obtain⟨hok,hc⟩:=h;refine .enter g _ w ?_ (Calls.mono hc fun _ _ h=>Any h);simp[execOp,resolve,hf,Deferred.ofValue,invoke,At2 hok]
   ·exact h.elim
  ·rename_i g;split at h
   ·obtain⟨v,w',hr,hR⟩:=h;obtain⟨v',hv,hK⟩:=Acm hR;cases hv
    refine .value v w' ?_ hK;simp[execOp,resolve,ev,Deferred.ofValue,invoke,hr]
   ·exact Zc h
  ·exact Zc h
theorem Anq{P:Program}{T:Cx}{o:Oper}{e:Env}{w:World}{K:Value→World→Prop}(h:Aw4 P T o e w K):Does P T.pq o e w K:=by
 unfold Aw4 at h;split at h
 ·rename_i v hv;exact .value v w (Abj hv w) h
 ·exact Atn h
theorem Yh{kt:TypeDesc}(hk:kt=.int .i64){x y:Int}:∀(l:List MapEntry) (es:List (Int×Int)) (n:Nat),l.map (fun e=>(e.key,e.val))=es.map (fun p=>(Value.int .i64 p.1,Value.int .i64 p.2))→
 (Instr.findNow kt (.int .i64 x) l n=some none∧Afe es x=none∧Auw es x y=es++[(x,y)])∨
 (∃(i:Nat) (v:Int) (e0:MapEntry),Instr.findNow kt (.int .i64 x) l n=some (some (n+i,.int .i64 v))∧Afe es x=some v∧l[i]?=some e0∧e0.key=.int .i64 x∧Auw es x y=es.set i (x,y))
 | [],[],n,_=>.inl ⟨rfl,rfl,rfl⟩
 | [],p::es,n,h=>by simp at h
 |e::l,[],n,h=>by simp at h
 |e::l,p::es,n,h=>by
  subst hk;simp only[bS,List.cons.injEq,Prod.mk.injEq]at h;obtain⟨⟨h1,h2⟩,h3⟩:=h;by_cases hp:p.1=x
  ·refine .inr ⟨0,p.2,e,?_,by rw[Afe,aF hp],rfl,by rw[h1,hp],by rw[Auw,aF hp];rfl⟩;have e1:Instr.sameNow (.int .i64) (.int .i64 x) e.key=some true:=by rw[h1];simp[Instr.sameNow,hp]
   simp only[Instr.findNow,e1];rw[h2];rfl
  ·have e1:Instr.sameNow (.int .i64) (.int .i64 x) e.key=some false:=by rw[h1];simp[Instr.sameNow];exact fun h=>hp h.symm
   have e2:Instr.findNow (.int .i64) (.int .i64 x) (e::l) n=Instr.findNow (.int .i64) (.int .i64 x) l (n+1):=by simp only[Instr.findNow,e1]
   rcases Yh (kt:=.int .i64) rfl (x:=x) (y:=y) l es (n+1) h3 with ⟨g1,g2,g3⟩|⟨i,v,e0,g1,g2,g3,g4,g5⟩
   ·exact .inl ⟨by rw[e2,g1],by rw[Afe,aE hp,g2],by rw[Auw,aE hp,g3];rfl⟩
   ·exact .inr ⟨i+1,v,e0,by rw[e2,g1];congr 3;omega,by rw[Afe,aE hp,g2],by simpa using g3,g4,by rw[Auw,aE hp,g5];rfl⟩
theorem Aq2{P:Program}{t:TypeId}(h:Awm P t=true):∃kt et i,P.underlying t=some (.map kt et)∧P.underlying kt=some (.int .i64)∧P.info? et=some i∧i.zero=some (.int .i64 0):=by
 unfold Awm at h;split at h
 ·rename_i kt et hu;rw[aH]at h;obtain⟨h1,h2⟩:=h;split at h1
  ·rename_i hk;split at h2
   ·rename_i i hi;split at h2
    ·rename_i z hz;rw[of_decide_eq_true h2]at hz;exact⟨kt,et,i,hu,hk,hi,hz⟩
    ·cases h2
   ·cases h2
  ·cases h1
 ·cases h
theorem Avk{P:Program}{T:Cx}{o:Oper}{e:Env}{w:World}{K:Value→World→Prop}{other:Prop}(h:Azx P o e w K other)(ho:other→Does P T.pq o e w K):Does P T.pq o e w K:=by
 unfold Azx at h;split at h
 ·rename_i t hop;refine .value (.map (some w.heap.size)) (w.alloc (.map #[] 0)) ?_ (h _ _ ⟨rfl,(Below.refl _ _).alloc (aG _) _,#[],0,(MapKept.heap_alloc w _).1,rfl⟩);simp[execOp,hop,Instr.makeMap,newObj,Sem.run]
 ·rename_i t m k ok hop;split at h
  ·rename_i r x hm hk;obtain⟨hty,h⟩:=Db.1 h;obtain⟨kt,et,i,hu,hkt,hi,hz⟩:=Aq2 hty;obtain⟨es,⟨arr,clock,hb,hes⟩,hK⟩:=h;have hck:(Instr.checkKey arr.isEmpty 10000 kt (.int .i64 x)).run P w=.ok () w:=MapKept.run_checkKey hkt (show MapKept.IsKey (.int .i64) (.int .i64 x) from rfl) _ _;have hget:=MapKept.run_getObj_map (P:=P) hb;refine .value _ w ?_ hK;rcases Yh (kt:=.int .i64) rfl (x:=x) (y:=0) arr.toList es 0 hes with ⟨g1,g2,_⟩|⟨j,v,e0,g1,g2,_⟩
   ·have hf:=MapKept.run_findKey (P:=P) (w:=w) hkt g1;rw[g2];cases ok<;>simp[execOp,hop,hm,hk,Instr.lookup,run_underlying hu,hget,hck,hf,zeroValue,typeInfo,hi,hz]
   ·have hf:=MapKept.run_findKey (P:=P) (w:=w) hkt g1;rw[g2];cases ok<;>simp[execOp,hop,hm,hk,Instr.lookup,run_underlying hu,hget,hck,hf]
  ·exact ho h
 ·rename_i t m k v hop;split at h
  ·rename_i r x y hm hk hv;obtain⟨hty,h⟩:=Db.1 h;obtain⟨kt,et,i,hu,hkt,hi,hz⟩:=Aq2 hty;obtain⟨es,⟨arr,clock,hb,hes⟩,hK⟩:=h;have hck:(Instr.checkKey false 10000 kt (.int .i64 x)).run P w=.ok () w:=MapKept.run_checkKey hkt (show MapKept.IsKey (.int .i64) (.int .i64 x) from rfl) _ _;have hget:=MapKept.run_getObj_map (P:=P) hb;have hset:∀o',MapSet w { w with heap:=w.heap.setIfInBounds r o' } r (Auw es x y)→K undef { w with heap:=w.heap.setIfInBounds r o' }:=fun o' h=>hK _ h;have rest:∀o',(({ w with heap:=w.heap.setIfInBounds r o' }:World).os=w.os)∧(({ w with heap:=w.heap.setIfInBounds r o' }:World).heap.size=w.heap.size)∧(∀k,k≠r→({ w with heap:=w.heap.setIfInBounds r o' }:World).heap[k]?=w.heap[k]?)∧({ w with heap:=w.heap.setIfInBounds r o' }:World).heap[r]?=some o':=fun o'=>
    ⟨rfl,by simp,(MapKept.heap_set hb).2,(MapKept.heap_set hb).1⟩
   rcases Yh (kt:=.int .i64) rfl (x:=x) (y:=y) arr.toList es 0 hes with ⟨g1,_,g3⟩|⟨j,v0,e0,g1,_,g4,g5,g6⟩
   ·have hf:=MapKept.run_findKey (P:=P) (w:=w) hkt g1;refine .skip { w with heap:=w.heap.setIfInBounds r (.map (arr.push { key:=.int .i64 x,val:=.int .i64 y,born:=clock }) (clock+1)) } ?_ (hset _ ?_)
    ·simp[execOp,hop,hm,hk,hv,Instr.mapUpdate,run_underlying hu,hget,hck,hf,MapKept.run_setObj_map _ hb]
    ·obtain⟨q1,q2,q3,q4⟩:=rest (.map (arr.push { key:=.int .i64 x,val:=.int .i64 y,born:=clock }) (clock+1));exact⟨q1,rfl,rfl,q2,q3,_,_,q4,by rw[g3];simp[hes]⟩
   ·have hf:=MapKept.run_findKey (P:=P) (w:=w) hkt g1;have hj:arr[j]?=some e0:=by simpa using g4
    have hst:(Instr.keyThatStays (.int .i64 x) (.int .i64 x)).run P w=.ok (.int .i64 x) w:=MapKept.run_keyThatStays (d:=.int .i64) (show MapKept.IsKey (.int .i64) (.int .i64 x) from rfl);refine .skip { w with heap:=w.heap.setIfInBounds r (.map (arr.modify j fun e=>{ e with key:=.int .i64 x,val:=.int .i64 y }) clock) } ?_ (hset _ ?_)
    ·simp[execOp,hop,hm,hk,hv,Instr.mapUpdate,run_underlying hu,hget,hck,hf,hj,g5,hst,MapKept.run_setObj_map _ hb]
    ·obtain⟨q1,q2,q3,q4⟩:=rest (.map (arr.modify j fun e=>{ e with key:=.int .i64 x,val:=.int .i64 y }) clock);refine⟨q1,rfl,rfl,q2,q3,_,_,q4,?_⟩;rw[g6];apply List.ext_getElem?;intro k;have hk2:=cI (fun l=>l[k]?) hes;simp only[List.getElem?_map]at hk2;simp only[List.getElem?_map,Array.getElem?_toList,Array.getElem?_modify];by_cases hjk:j=k
     ·subst hjk;rw[List.getElem?_set];have hjl:j<es.length:=by
       have h1:=cI List.length hes;simp at h1;have:=(Array.getElem?_eq_some_iff.1 hj).1;omega
      simp[hj,hjl]
     ·rw[List.getElem?_set_ne hjk];simp only[hjk,if_false];simpa using hk2
  ·exact ho h
 ·exact ho h
theorem Xw{P:Program}{T:Cx}{o:Oper}{e:Env}{w:World}{K:Value→World→Prop}(h:As9 P T o e w K):Does P T.pq o e w K:=by
 unfold As9 at h;split at h
 ·rename_i x hx;split at h
  ·rename_i p hp;obtain⟨b,rfl,hF⟩:=Aph h;exact .value _ w (by simp[execOp,hx,hp]) hF
  ·exact Anq h
 ·exact Avk h Anq
theorem Anx{c:Bool}{p q:Prop}(h:p→q):bcond c p→bcond c q:=by cases c<;>simp[bcond];exact h
end Go.Sx
namespace Go.Sx
open Go.RowKit
section
variable{P:Program}{ops:Array Oper}{Q:Exit→Act→World→Prop}{md:Region.Mode}{S:Array Bool→World→Prop}
def Yv(P:Program)(md:Region.Mode)(ops:Array Oper)(Q:Exit→Act→World→Prop)(S:Array Bool→World→Prop):Nat→Array Bool→Act→World→Prop
 |0,listed,a,w=>Region.ready md ops listed=[]∧Q .normal a w
 |fuel+1,listed,a,w=>
  (Region.ready md ops listed=[]→Q .normal a w)∧
  ∀i∈Region.ready md ops listed,wpOp P ops Q i (fun a' w'=>S (listed.setIfInBounds i true) w'∧Yv P md ops Q S fuel (listed.setIfInBounds i true) a' w') a w
theorem Ao1:∀(fuel:Nat) (listed:Array Bool) (a:Act) (w:World),Yv P md ops Q S fuel listed a w→wpAny P md ops Q fuel listed a w
 |0,_,_,_,h=>h
 |fuel+1,_,_,_,h=>⟨h.1,fun i hi=>wpOp_mono (fun a' w' h'=>Ao1 fuel _ a' w' h'.2) (h.2 i hi)⟩
theorem Yj{C:World→Prop}{last cl:List Nat}{i:Nat}{oi:Oper}{v:Value}(hi:ops[i]?=some oi)(hsel:∀(j:Nat) (o:Oper) cs b,ops[j]?=some o→o.op≠.select cs b)
 (hQ:∀c a w,Q (.panic c) (a.put oi.dst v) w→Q (.panic c) a w)
 (hSC:∀(listed:Array Bool) w,(∀j∈last,listed.getD j false=false)→S listed w→C w) (hSi:∀(listed:Array Bool) w,S listed w→S (listed.setIfInBounds i true) w) (hSi':∀(listed:Array Bool) w,S (listed.setIfInBounds i true) w→S listed w)
 (hsub:∀j∈last,j∈cl) (hil:i∉cl) (hwait:∀j∈cl,∀oj,ops[j]?=some oj→∃e∈oj.after,Region.binds md e=true∧(e.on=i∨e.on∈cl)):
 ∀(fuel:Nat) (listed:Array Bool) (a:Act) (w:World),
  (∀j oj,ops[j]?=some oj→j≠i→listed.getD j true=false→(∀e∈oj.after,Region.binds md e=true→e.on≠i)→oi.apart ops oj=true)→
  (∀j∈cl,listed.getD j false=false)→
  i∈Region.ready md ops listed→YieldsIf P ops C oi v a→S listed w→
  Yv P md ops Q S fuel (listed.setIfInBounds i true) (a.put oi.dst v) w→Yv P md ops Q S (fuel+1) listed a w:=by
 intro fuel;induction fuel with
 |zero=>
  intro listed a w _ hlast hr hy hS H;have hC:=hSC _ _ (fun j hj=>hlast j (hsub j hj)) hS;refine⟨fun h=>(by rw[h]at hr;cases hr),fun j hj=>?_⟩;by_cases hji:j=i
  ·subst hji;exact hy.wpOp hi hC ⟨hSi _ _ hS,H⟩
  ·have:=ready_mono hj hji;rw[H.1]at this;cases this
 |succ fuel ih=>
  intro listed a w hfree hlast hr hy hS H;have hC:=hSC _ _ (fun j hj=>hlast j (hsub j hj)) hS;refine⟨fun h=>(by rw[h]at hr;cases hr),fun j hj=>?_⟩;by_cases hji:j=i
  ·subst hji;exact hy.wpOp hi hC ⟨hSi _ _ hS,H⟩
  ·have h1:=H.2 j (ready_mono hj hji);obtain⟨hjun,oj,hoj,hall⟩:=mem_ready.1 hj;have hiun:=(mem_ready.1 hr).1;have hif:listed.getD i false=false:=by
    rcases aT i listed.size with h'|h'
    ·simpa [h'] using hiun
    ·simp[Array.getElem?_eq_none h']
   have hnot:∀e∈oj.after,Region.binds md e=true→e.on≠i:=fun e he hb heq=>by
    have h1:=hall e he hb;rw[heq,hif]at h1;cases h1
   have hjl:j∉cl:=fun hjl=>by
    obtain⟨e,he,hb,hon⟩:=hwait j hjl oj hoj;rcases hon with hon|hon
    ·exact hnot e he hb hon
    ·have h1:=hall e he hb;rw[hlast _ hon]at h1;cases h1
   have h2:=wpOp_putIf hoj (hfree j oj hoj hji hjun hnot) (fun cs b=>hsel i oi cs b hi) (fun cs b=>hsel j oj cs b hoj) hQ hy h1;have hfree':∀k ok,ops[k]?=some ok→k≠i→(listed.setIfInBounds j true).getD k true=false→
    (∀e∈ok.after,Region.binds md e=true→e.on≠i)→oi.apart ops ok=true:=fun k ok hk hki hun hno=>by
    refine hfree k ok hk hki ?_ hno;by_cases hjk:j=k
    ·subst hjk;exact hjun
    ·rw[getD_set_ne true hjk]at hun;exact hun
   have hlast':∀k∈cl,(listed.setIfInBounds j true).getD k false=false:=fun k hk=>by
    rw[getD_set_ne false (fun e:j=k=>hjl (by rw[e];exact hk))];exact hlast k hk
   have hlast'':∀k∈cl,((listed.setIfInBounds i true).setIfInBounds j true).getD k false=false:=fun k hk=>by
    rw[getD_set_ne false (fun e:j=k=>hjl (by rw[e];exact hk)),getD_set_ne false (fun e:i=k=>hil (by rw[e];exact hk))];exact hlast k hk
   refine wpOp_mono (fun a' w' h3=>?_) h2;have hS':S (listed.setIfInBounds j true) w':=by
    refine hSi' _ _ ?_;have:=h3.2.1;rwa[Array.setIfInBounds_comm _ _ (Ne.symm hji)]at this
   refine⟨hS',ih (listed.setIfInBounds j true) a' w' hfree' hlast' (ready_mono hr (Ne.symm hji)) h3.1 hS' ?_⟩;rw[Array.setIfInBounds_comm _ _ hji];exact h3.2.2
end
def bsplit(b:Bool)(X Y:Prop):Prop:=match b with|true=>X|false=>Y
theorem Al{b:Bool}{X Y:Prop}(h1:b=true→X)(h2:b=false→Y):bsplit b X Y:=by
 cases b
 ·exact h2 rfl
 ·exact h1 rfl
theorem Aa{p:Prop}[Decidable p] {X Y:Prop}(h1:p→X)(h2:¬p→Y):bsplit (decide p) X Y:=
 Al (fun h=>h1 (of_decide_eq_true h)) (fun h=>h2 (of_decide_eq_false h))
def Aha(ops:Array Oper)(o:Oper)(e:Env)(act skip:Env→Prop):Prop:=
 match o.guard with
 |none=>act e
 |some (j,want)=>match (ops[j]?).bind (·.dst)with
  |none=>skip e
  |some t=>match e t with
   |.bool b=>bsplit b (match want with|true=>act (e.put t (.bool true))|false=>skip (e.put t (.bool true)))
    (match want with|false=>act (e.put t (.bool false))|true=>skip (e.put t (.bool false)))
   |_=>skip e
theorem Le{ops:Array Oper}{o:Oper}{a:Act}{act skip:Env→Prop}(h:Aha ops o (Ce a) act skip):(Region.wanted o (yielded ops a.tmps)=true∧act (Ce a))∨(Region.wanted o (yielded ops a.tmps)=false∧skip (Ce a)):=by
 unfold Aha at h;unfold Region.wanted;split at h
 ·rename_i hg;rw[hg];exact .inl ⟨rfl,h⟩
 ·rename_i j want hg;simp only[hg];split at h
  ·rename_i hj;right;refine⟨?_,h⟩;simp[yielded,hj]
  ·rename_i t hj;split at h
   ·rename_i b hb;have hy:yielded ops a.tmps j=some b:=by
     have hlt:t<a.tmps.size:=by
      rcases aT t a.tmps.size with h'|h'
      ·exact h'
      ·simp[Ce,Array.getElem?_eq_none h',undef]at hb
     have:a.tmps[t]?=some (.bool b):=by
      simp[Ce,hlt]at hb;simp[hlt,hb]
     simp[yielded,hj,this]
    rw[hy];cases b<;>cases want<;>simp only[bsplit,Env.put_eq hb]at h
    ·exact .inl ⟨rfl,h⟩
    ·exact .inr ⟨rfl,h⟩
    ·exact .inr ⟨rfl,h⟩
    ·exact .inl ⟨rfl,h⟩
   ·rename_i hb;right;refine⟨?_,h⟩;have:∀b,yielded ops a.tmps j≠some b:=by
     intro b hy;simp only[yielded,hj,Option.bind_some]at hy;split at hy
     ·rename_i b' hb';have:Ce a t=.bool b':=by simp[Ce,hb']
      exact hb _ this
     ·cases hy
    cases hy:yielded ops a.tmps j with
    |none=>rfl
    |some b=>exact absurd hy (this b)
def Eh(l:List Oper):List Nat:=l.filterMap (·.dst)
def Ahw(P:Program)(T:Cx)(ops:Array Oper):List Oper→Env→World→(Env→World→Prop)→Prop
 | [],e,w,K=>K e w
 |o::rest,e,w,K=>Aha ops o e (fun e=>As9 P T o e w fun v w'=>Ahw P T ops rest (Ux e o.dst v) w' K)
  (fun e=>Ahw P T ops rest (Ux e o.dst undef) w K)
theorem Apd(a:Act)(d:Option Nat)(v:Value):(a.put d v).tmps.size=a.tmps.size:=by cases d<;>simp[Act.put]
theorem Agn(a:Act)(d:Option Nat)(v:Value):(a.put d v).defers=a.defers:=by cases d<;>rfl
theorem Zd{P:Program}{T:Cx}{ops:Array Oper}{n:Nat}{ds:List Deferred}{e0:Env}{Q:Exit→Act→World→Prop}{K:Env→World→Prop}{tail:List Oper}(hP:∀ch (a:Act) w,PqH T.pq ch w→a.defers=ds→(∀t,t∉Eh ops.toList→Ce a t=e0 t)→Q (.panic ch) a w):∀(l:List Oper) (a:Act) (w:World),Ahw P T ops l (Ce a) w K→a.tmps.size=n→a.defers=ds→(∀d∈Eh l,d<n)→
  (∀t,t∉Eh ops.toList→Ce a t=e0 t)→(∀d∈Eh l,d∈Eh ops.toList)→
  (∀a' w',K (Ce a') w'→a'.tmps.size=n→a'.defers=ds→(∀t,t∉Eh ops.toList→Ce a' t=e0 t)→wpList P ops Q tail a' w')→
  wpList P ops Q (l++tail) a w
 | [],a,w,h,hn,hd,_,hf,_,hK=>hK a w h hn hd hf
 |o::rest,a,w,h,hn,hd,hb,hf,hs,hK=>by
  have hbr:∀d∈Eh rest,d<n:=fun d hd=>hb d (by unfold Eh at*;rw[List.filterMap_cons];split<;>simp_all);have hsr:∀d∈Eh rest,d∈Eh ops.toList:=fun d hd=>hs d (by unfold Eh at*;rw[List.filterMap_cons];split<;>simp_all);have hbo:∀d,o.dst=some d→d<n:=fun d hd=>hb d (by unfold Eh;rw[List.filterMap_cons,hd];simp);have hso:∀d,o.dst=some d→d∈Eh ops.toList:=fun d hd=>hs d (by unfold Eh;rw[List.filterMap_cons,hd];simp);have hput:∀v,Ce (a.put o.dst v)=Ux (Ce a) o.dst v:=fun v=>Aqz a o.dst v (fun d hd=>by rw[hn];exact hbo d hd);have hfr:∀v t,t∉Eh ops.toList→Ce (a.put o.dst v) t=e0 t:=fun v t ht=>by
   rw[hput];cases ho:o.dst with
   |none=>exact hf t ht
   |some d=>
    simp only[Ux];rw[Env.put_ne (fun e:t=d=>ht (by rw[e];exact hso d ho))];exact hf t ht
  have hgo:∀v w',Ahw P T ops rest (Ux (Ce a) o.dst v) w' K→wpList P ops Q (rest++tail) (a.put o.dst v) w':=fun v w' h=>
   Zd hP rest (a.put o.dst v) w' (by rw[hput];exact h) (by rw[Apd,hn]) (by rw[Agn,hd]) hbr (hfr v) hsr hK
  simp only[Ahw]at h;rw[aD];unfold wpList;rcases Le h with ⟨hw,h⟩|⟨hw,h⟩
  ·rw[aF hw];left;exact(Xw h).wp rfl (fun ch w' h=>hP ch a w' h hd hf) hgo
  ·rw[aE (by rw[hw];decide)];exact hgo _ _ h
theorem Aus{P:Program}{T:Cx}{ops:Array Oper}{n:Nat}{ds:List Deferred}{e0:Env}{Q:Exit→Act→World→Prop}{K:Env→World→Prop}(hP:∀ch (a:Act) w,PqH T.pq ch w→a.defers=ds→(∀t,t∉Eh ops.toList→Ce a t=e0 t)→Q (.panic ch) a w)
 (l:List Oper) (a:Act) (w:World) (h:Ahw P T ops l (Ce a) w K) (hn:a.tmps.size=n) (hd:a.defers=ds) (hb:∀d∈Eh l,d<n)
 (hf:∀t,t∉Eh ops.toList→Ce a t=e0 t) (hs:∀d∈Eh l,d∈Eh ops.toList)
 (hK:∀a' w',K (Ce a') w'→a'.tmps.size=n→a'.defers=ds→(∀t,t∉Eh ops.toList→Ce a' t=e0 t)→Q .normal a' w'):wpList P ops Q l a w:=by
 have:=Zd (tail:=[]) (Q:=Q) hP l a w h hn hd hb hf hs (fun a' w' h1 h2 h3 h4=>hK a' w' h1 h2 h3 h4);rwa[aL]at this
end Go.Sx
namespace Go.Sx
open Go.RowKit
def KeepsB(S:Nat→Prop)(w0 w:World):Prop:=∀p u,S p.block→w0.cell? p=some u→w.cell? p=some u
theorem KeepsB.refl(S:Nat→Prop)(w:World):KeepsB S w w:=fun _ _ _ h=>h
def Lz(S:Addr→Prop)(w0 w:World):Prop:=∀p u,S p→w0.cell? p=some u→w.cell? p=some u
inductive SM where
 |no|blk (S:Nat→Prop)|cel (S:Addr→Prop)
def keepS:SM→World→World→Prop
 |.no=>KeepsB (fun _=>True)
 |.blk S=>KeepsB S
 |.cel S=>Lz S
theorem keepS.refl(S:SM)(w:World):keepS S w w:=by cases S<;>exact fun _ _ _ h=>h
def Bcs(S:SM)(k:Kind)(a:Addr)(p:Prop):Prop:=
 match S with
 |.no=>p
 |.blk S=>S a.block∧p
 |.cel S=>match k with
  |.p _=>S a∧p
  |.agg l=>(∀j,j<l.length→S (a.add j))∧p
  |.raw n=>(∀j,j<n→S (a.add j))∧p
theorem Bac{S:SM}{k:Kind}{a:Addr}{p:Prop}(h:Bcs S k a p):(∀w0 w,keepS S w0 w→∀j u,j<Af1 k→w0.cell? (a.add j)=some u→w.cell? (a.add j)=some u)∧p:=by
 have hblk:∀j,(a.add j).block=a.block:=fun j=>by unfold Addr.add;split<;>rfl
 cases S with
 |no=>exact⟨fun w0 w hw j u _ hc=>hw _ u trivial hc,h⟩
 |blk S=>exact⟨fun w0 w hw j u _ hc=>hw _ u (by rw[hblk];exact h.1) hc,h.2⟩
 |cel S=>
  cases k with
  |p q=>
   refine⟨fun w0 w hw j u hj hc=>hw _ u ?_ hc,h.2⟩;have:j=0:=by simp[Af1]at hj;exact hj
   subst this;exact h.1
  |agg l=>exact⟨fun w0 w hw j u hj hc=>hw _ u (h.1 j hj) hc,h.2⟩
  |raw n=>exact⟨fun w0 w hw j u hj hc=>hw _ u (h.1 j hj) hc,h.2⟩
inductive Md where
 |stable|pre|keep|last|pur
def Td(P:Program)(T:Cx)(S:SM)(o:Oper)(e:Env)(w0:World)(F:Value→Prop):Prop:=
 match Amy P o e with
 |some v=>F v
 |none=>match o.op with
  |.load t x=>match ev e x,T.k t with
   |.pointer (some a),[k]=>Bcs S k a (Ac3 P t k w0 a F)
   |_,_=>False
  |.indexAddr t x i=>Vc P t (Adn i) (ev e x) (ev e i) F
  |.index t x i=>match T.k o.type with
   | [k]=>Amt P t k (ev e x) (ev e i) F
   |_=>False
  |.slice t x lo hi mx=>Amu P t (ev e x) (lo.map (ev e)) (hi.map (ev e)) (mx.map (ev e)) F
  |.binOp op t x y _=>match ev e x with
   |.agg _=>EqP P op t x y (ev e x) (ev e y) fun r=>F (.bool r)
   |_=>Awr op (ev e x) (ev e y) F
  |.nilCheck x=>match ev e x with
   |.pointer a=>∃b:Addr,a=some b∧F (.pointer (some b))
   |_=>False
  |_=>False
def Uk(P:Program)(T:Cx)(S:SM)(o:Oper)(e:Env)(w0:World)(F:Value→Prop):Prop:=
 match o.op with
 |.nilCheck x=>match ev e x with
  |.pointer p=>Cz p fun b=>F (.pointer (some b))
  |_=>Td P T S o e w0 F
 |_=>Td P T S o e w0 F
theorem Afd{P:Program}{T:Cx}{S:SM}{o:Oper}{e:Env}{w0:World}{F:Value→Prop}(h:Td P T S o e w0 F):∃v,F v∧∀w,keepS S w0 w→(execOp (ev e) o).run P w=.ok (.value v) w:=by
 unfold Td at h;split at h
 ·rename_i v hv;exact⟨v,h,fun w _=>Abj hv w⟩
 ·obtain⟨dst,op,type,pos,after,guard⟩:=o;cases op<;>simp only at h
  case load t x=>
   split at h
   ·rename_i a k hx ht;obtain⟨hS,h⟩:=Bac h;obtain⟨v,hF,-,hr⟩:=Afv h;exact⟨v,hF,fun w hw=>by simp[execOp,Instr.loadAt,hx,Instr.sureAddr,hr w (hS w0 w hw)]⟩
   ·exact h.elim
  case indexAddr t x i=>
   obtain⟨v,hF,hr⟩:=Ru h;exact⟨v,hF,fun w _=>by simp[execOp,hr]⟩
  case index t x i=>
   split at h
   ·obtain⟨v,hF,hr⟩:=Acz h;exact⟨v,hF,fun w _=>by simp[execOp,hr]⟩
   ·exact h.elim
  case slice t x lo hi mx=>
   obtain⟨v,hF,hr⟩:=Ac4 h;exact⟨v,hF,fun w _=>by simp[execOp,hr]⟩
  case nilCheck x=>
   split at h
   ·rename_i a hx;obtain⟨b,rfl,hF⟩:=h;exact⟨_,hF,fun w _=>by simp[execOp,hx]⟩
   ·exact h.elim
  case binOp op t x y yt _hn=>
   split at h
   ·obtain⟨r,hr,hF⟩:=h;exact⟨_,hF,fun w _=>by simp only[execOp];exact Cb (hr w)⟩
   ·obtain⟨v,hF,hr⟩:=Aj3 (P:=P) (t:=t) (x:=x) (y:=y) h;exact⟨v,hF,fun w _=>by simp only[execOp];exact Cb (hr w)⟩
theorem Air{P:Program}{T:Cx}{S:SM}{o:Oper}{e:Env}{w0:World}{F:Value→Prop}(h:Uk P T S o e w0 F):∃v,F v∧∀w,keepS S w0 w→(execOp (ev e) o).run P w=.ok (.value v) w:=by
 unfold Uk at h;split at h
 ·rename_i x hx;split at h
  ·rename_i p hp;obtain⟨b,rfl,hF⟩:=Aph h;exact⟨_,hF,fun w _=>by simp[execOp,hx,hp]⟩
  ·exact Afd h
 ·exact Afd h
def As8(o:Oper):Bool:=match o.op with
 |.load _ _=>false
 |_=>true
theorem Afh{P:Program}{T:Cx}{S:SM}{o:Oper}{e:Env}{w0:World}{F:Value→Prop}(hl:As8 o=true)(h:Td P T S o e w0 F):∃v,F v∧∀w,(execOp (ev e) o).run P w=.ok (.value v) w:=by
 unfold Td at h;split at h
 ·rename_i v hv;exact⟨v,h,fun w=>Abj hv w⟩
 ·obtain⟨dst,op,type,pos,after,guard⟩:=o;cases op<;>simp only at h
  case load t x=>simp[As8]at hl
  case indexAddr t x i=>
   obtain⟨v,hF,hr⟩:=Ru h;exact⟨v,hF,fun w=>by simp[execOp,hr]⟩
  case index t x i=>
   split at h
   ·obtain⟨v,hF,hr⟩:=Acz h;exact⟨v,hF,fun w=>by simp[execOp,hr]⟩
   ·exact h.elim
  case slice t x lo hi mx=>
   obtain⟨v,hF,hr⟩:=Ac4 h;exact⟨v,hF,fun w=>by simp[execOp,hr]⟩
  case nilCheck x=>
   split at h
   ·rename_i a hx;obtain⟨b,rfl,hF⟩:=h;exact⟨_,hF,fun w=>by simp[execOp,hx]⟩
   ·exact h.elim
  case binOp op t x y yt _hn=>
   split at h
   ·obtain⟨r,hr,hF⟩:=h;exact⟨_,hF,fun w=>by simp only[execOp];exact Cb (hr w)⟩
   ·obtain⟨v,hF,hr⟩:=Aj3 (P:=P) (t:=t) (x:=x) (y:=y) h;exact⟨v,hF,fun w=>by simp only[execOp];exact Cb (hr w)⟩
theorem Ar1{P:Program}{T:Cx}{S:SM}{o:Oper}{e:Env}{w0:World}{F:Value→Prop}(hl:As8 o=true)(h:Uk P T S o e w0 F):∃v,F v∧∀w,(execOp (ev e) o).run P w=.ok (.value v) w:=by
 unfold Uk at h;split at h
 ·rename_i x hx;split at h
  ·rename_i p hp;obtain⟨b,rfl,hF⟩:=Aph h;exact⟨_,hF,fun w=>by simp[execOp,hx,hp]⟩
  ·exact Afh hl h
 ·exact Afh hl h
inductive Can where
 |nil
 |one (i:Nat) (m:Md) (r:Can)
 |alt (i:Nat) (r more:Can)
 |endAlt
def Avs:Can→List Nat
 |.alt i _ more=>i::Avs more
 |_=>[]
def Gs(P:Program)(T:Cx)(S:SM)(ops:Array Oper)(w0:World):Can→Env→World→(Env→World→Prop)→Prop
 |.nil,e,w,K=>K e w
 |.endAlt,_,_,_=>True
 |.one i m rest,e,w,K=>match ops[i]? with
  |none=>False
  |some o=>Aha ops o e (fun e=>match m with
   |.stable=>Uk P T S o e w0 fun v=>Gs P T S ops w0 rest (Ux e o.dst v) w K
   |.pre=>Uk P T .no o e w0 fun v=>Gs P T S ops w0 rest (Ux e o.dst v) w K
   |.pur=>Uk P T .no o e w0 fun v=>Gs P T S ops w0 rest (Ux e o.dst v) w K
   |.keep=>As9 P T o e w fun v w'=>keepS S w0 w'∧Gs P T S ops w0 rest (Ux e o.dst v) w' K
   |.last=>As9 P T o e w fun v w'=>Gs P T S ops w0 rest (Ux e o.dst v) w' K)
   (fun e=>Gs P T S ops w0 rest (Ux e o.dst undef) w K)
 |.alt i rest more,e,w,K=>(match ops[i]? with
  |none=>False
  |some o=>Aha ops o e (fun e=>As9 P T o e w fun v w'=>keepS S w0 w'∧Gs P T S ops w0 rest (Ux e o.dst v) w' K)
   (fun e=>Gs P T S ops w0 rest (Ux e o.dst undef) w K))∧Gs P T S ops w0 more e w K
def Zy:Can→List Nat
 |.one i .last r=>i::Zy r
 |.one _ _ r=>Zy r
 |.alt _ r more=>Zy r++Zy more
 |_=>[]
def Acr:Can→List Nat
 |.one i .keep r=>i::Acr r
 |.one i .last r=>i::Acr r
 |.one _ _ r=>Acr r
 |.alt i r more=>i::(Acr r++Acr more)
 |_=>[]
def Ado(ops:Array Oper)(i:Nat)(j:Nat):Bool:=match ops[j]? with|some o=>o.after.any fun e=>Region.binds .any e&&e.on == i|none=>true
def reach(ops:Array Oper)(i:Nat):List Nat:=(List.range ops.size).foldl (fun cl j=>if !(Nat.beq j i)&&(Ado ops i j||cl.any fun k=>Ado ops k j) then j::cl else cl) []
def Yy(ops:Array Oper)(i:Nat)(cl last:List Nat)(listed:Array Bool):Bool:=
 last.all cl.contains&& !cl.contains i&&cl.all (fun j=>!(listed.getD j false))&&cl.all fun j=>Ado ops i j||cl.any fun k=>Ado ops k j
theorem Abu{ops:Array Oper}{i:Nat}{cl last:List Nat}{listed:Array Bool}(h:Yy ops i cl last listed=true):(∀j∈last,j∈cl)∧i∉cl∧(∀j∈cl,listed.getD j false=false)∧∀j∈cl,∀oj,ops[j]?=some oj→∃e∈oj.after,Region.binds .any e=true∧(e.on=i∨e.on∈cl):=by
 simp only[Yy,aH,bP,bN]at h;obtain⟨⟨⟨h1,h2⟩,h3⟩,h4⟩:=h;have out:∀ {k j:Nat} {oj:Oper},ops[j]?=some oj→Ado ops k j=true→∃e∈oj.after,Region.binds .any e=true∧e.on=k:=fun hoj hw=>by
  simp only[Ado,hoj]at hw;obtain⟨e,he,hb⟩:=Array.any_eq_true'.1 hw;simp only[aH,beq_iff_eq]at hb;exact⟨e,he,hb.1,hb.2⟩
 refine⟨fun j hj=>by simpa using h1 j hj,by simpa using h2,h3,fun j hj oj hoj=>?_⟩;have:=h4 j hj;rw[Bool.or_eq_true]at this;rcases this with h|h
 ·obtain⟨e,he,hb,hon⟩:=out hoj h;exact⟨e,he,hb,.inl hon⟩
 ·obtain⟨k,hk,hw⟩:=dF.1 h;obtain⟨e,he,hb,hon⟩:=out hoj hw;exact⟨e,he,hb,.inr (by rw[hon];exact hk)⟩
def Ky(ops:Array Oper)(last chg:List Nat):Can→Nat→Array Bool→Bool→Bool→Bool
 |.nil,n,listed,_,top=>top&&Nat.beq n 0&&(Region.ready .any ops listed).isEmpty
 |.endAlt,_,_,_,top=>!top
 |.one i m rest,n,listed,fl,top=>top&& !(Nat.beq n 0)&&(match m with
  |.stable=>!fl&&(Region.ready .any ops listed).contains i&&Region.free .any ops listed i&& !last.contains i&& !chg.contains i&&Yy ops i (reach ops i) last listed&&Ky ops last chg rest (n-1) (listed.setIfInBounds i true) false true
  |.pre=>!fl&&(Region.ready .any ops listed).contains i&&Region.free .any ops listed i&& !last.contains i&& !chg.contains i&&Yy ops i (reach ops i) chg listed&&Ky ops last chg rest (n-1) (listed.setIfInBounds i true) false true
  |.pur=>(match ops[i]? with|some o=>As8 o|none=>false)&&(Region.ready .any ops listed).contains i&&Region.free .any ops listed i&& !last.contains i&& !chg.contains i&&Ky ops last chg rest (n-1) (listed.setIfInBounds i true) fl true
  |.keep=>(Region.ready .any ops listed == [i])&& !last.contains i&&chg.contains i&&Ky ops last chg rest (n-1) (listed.setIfInBounds i true) fl true
  |.last=>(Region.ready .any ops listed == [i])&&last.contains i&&chg.contains i&&Ky ops last chg rest (n-1) (listed.setIfInBounds i true) true true)
 |.alt i rest more,n,listed,fl,top=>!(Nat.beq n 0)&&(!top||Region.ready .any ops listed == i::Avs more)&& !last.contains i&&chg.contains i&&
  Ky ops last chg rest (n-1) (listed.setIfInBounds i true) fl true&&Ky ops last chg more n listed fl false
def Ape(ops:Array Oper)(can:Can):Bool:=
 Region.noSelect ops&&Ky ops (Zy can) (Acr can) can ops.size (Array.replicate ops.size false) false true
def SS(S:SM)(w0:World)(last chg:List Nat)(listed:Array Bool)(w:World):Prop:=
 ((∃j∈last,listed.getD j false=true)∨keepS S w0 w)∧((∃j∈chg,listed.getD j false=true)∨KeepsB (fun _=>True) w0 w)
theorem Ai2{S:SM}{w0:World}{last chg:List Nat}{i:Nat}(h1:i∉last)(h2:i∉chg)(listed:Array Bool)(w:World):SS S w0 last chg (listed.setIfInBounds i true) w↔SS S w0 last chg listed w:=by
 have e:∀l:List Nat,i∉l→((∃j∈l,(listed.setIfInBounds i true).getD j false=true)↔∃j∈l,listed.getD j false=true):=fun l hl=>by
  constructor
  ·rintro⟨j,hj,h⟩;refine⟨j,hj,?_⟩;rwa[getD_set_ne false (fun e:i=j=>hl (by rw[e];exact hj))]at h
  ·rintro⟨j,hj,h⟩;exact⟨j,hj,by rw[getD_set_ne false (fun e:i=j=>hl (by rw[e];exact hj))];exact h⟩
 unfold SS;rw[e last h1,e chg h2]
theorem Ah9{ops:Array Oper}{listed:Array Bool}{i:Nat}(h:i∈Region.ready .any ops listed):(listed.setIfInBounds i true).getD i false=true:=by
 have:=(mem_ready.1 h).1;rcases aT i listed.size with h'|h'
 ·simp[h']
 ·simp[Array.getElem?_eq_none h']at this
theorem As3{P:Program}{T:Cx}{S:SM}{ops:Array Oper}{n:Nat}{w0:World}{last chg:List Nat}{e0:Env}{ds:List Deferred}{Q:Exit→Act→World→Prop}{K:Env→World→Prop}(hP:∀ch (a:Act) w,PqH T.pq ch w→a.defers=ds→Q (.panic ch) a w)
 (hsel:Region.noSelect ops=true) (hQ:∀c a w d v,Q (.panic c) (Act.put a d v) w→Q (.panic c) a w)
 (hb:∀d∈Eh ops.toList,d<n)
 (hK:∀a' w',K (Ce a') w'→a'.tmps.size=n→a'.defers=ds→(∀t,t∉Eh ops.toList→Ce a' t=e0 t)→Q .normal a' w') (can:Can):
 (∀(len:Nat) (listed:Array Bool) (fl:Bool) (a:Act) (w:World),Ky ops last chg can len listed fl true=true→Gs P T S ops w0 can (Ce a) w K→
  (fl=false→keepS S w0 w∧∀j∈last,listed.getD j false=false)→(fl=true→∃j∈last,listed.getD j false=true)→((∃j∈chg,listed.getD j false=true)∨KeepsB (fun _=>True) w0 w)→listed.size=ops.size→
  a.tmps.size=n→a.defers=ds→(∀t,t∉Eh ops.toList→Ce a t=e0 t)→
  Yv P .any ops Q (SS S w0 last chg) len listed a w)∧
 (∀(len:Nat) (listed:Array Bool) (fl:Bool) (top:Bool) (a:Act) (w:World),Ky ops last chg can len listed fl top=true→Gs P T S ops w0 can (Ce a) w K→
  (fl=false→keepS S w0 w∧∀j∈last,listed.getD j false=false)→(fl=true→∃j∈last,listed.getD j false=true)→((∃j∈chg,listed.getD j false=true)∨KeepsB (fun _=>True) w0 w)→listed.size=ops.size→
  a.tmps.size=n→a.defers=ds→(∀t,t∉Eh ops.toList→Ce a t=e0 t)→
  ∀i∈Avs can,wpOp P ops Q i (fun a' w'=>SS S w0 last chg (listed.setIfInBounds i true) w'∧Yv P .any ops Q (SS S w0 last chg) (len-1) (listed.setIfInBounds i true) a' w') a w):=by
 have hgrow:∀(listed:Array Bool) (i:Nat),(∃j∈last,listed.getD j false=true)→∃j∈last,(listed.setIfInBounds i true).getD j false=true:=
  fun listed i ⟨j,hj,hl⟩=>⟨j,hj,getD_set_true hl⟩
 have hgrowC:∀(listed:Array Bool) (i:Nat),(∃j∈chg,listed.getD j false=true)→∃j∈chg,(listed.setIfInBounds i true).getD j false=true:=
  fun listed i ⟨j,hj,hl⟩=>⟨j,hj,getD_set_true hl⟩
 have hnl:∀(listed:Array Bool) (i:Nat),i∉last→(∀j∈last,listed.getD j false=false)→∀j∈last,(listed.setIfInBounds i true).getD j false=false:=fun listed i hi h j hj=>by
  rw[getD_set_ne false (fun e:i=j=>hi (by rw[e];exact hj))];exact h j hj
 have hput:∀(a:Act) (i:Nat) (o:Oper),ops[i]?=some o→a.tmps.size=n→∀v,Ce (a.put o.dst v)=Ux (Ce a) o.dst v:=fun a i o ho hn v=>
  Aqz a o.dst v (fun d hd=>by
   rw[hn];refine hb d ?_;unfold Eh;rw[dM];exact⟨o,by simpa using Array.mem_of_getElem? ho,hd⟩)
 have hfr:∀(a:Act) (i:Nat) (o:Oper),ops[i]?=some o→a.tmps.size=n→(∀t,t∉Eh ops.toList→Ce a t=e0 t)→∀v t,t∉Eh ops.toList→Ce (a.put o.dst v) t=e0 t:=fun a i o ho hn hf v t ht=>by
  rw[hput a i o ho hn];cases hdst:o.dst with
  |none=>exact hf t ht
  |some d=>
   simp only[Ux];rw[Env.put_ne (fun e:t=d=>ht (by
    rw[e];unfold Eh;rw[dM];exact⟨o,by simpa using Array.mem_of_getElem? ho,hdst⟩))]
   exact hf t ht
 induction can with
 |nil=>
  refine⟨fun len listed fl a w hg h _ _ _ _ hn hd hf=>?_,fun len listed fl top a w hg h _ _ _ _ hn hd hf i hi=>by simp[Avs]at hi⟩;simp only[Ky,aH,List.isEmpty_iff,bH]at hg;obtain⟨hlen,hg⟩:=hg;have:=bO hlen;subst this;exact⟨hg,hK a w h hn hd hf⟩
 |endAlt=>
  refine⟨fun len listed fl a w hg=>by simp[Ky]at hg,fun len listed fl top a w hg h _ _ _ _ hn hd hf i hi=>by simp[Avs]at hi⟩
 |one i m rest ih=>
  refine⟨fun len listed fl a w hg h h0 h1 h2 hsz hn hd hf=>?_,fun len listed fl top a w hg h _ _ _ _ hn hd hf i hi=>by simp[Avs]at hi⟩;simp only[Gs]at h;split at h
  ·exact h.elim
  ·rename_i o ho;simp only[Ky,bH,aH,bP]at hg;obtain⟨hlen,hg⟩:=hg;obtain⟨len,rfl⟩:∃k,len=k+1:=⟨len-1,by cases len with|zero=>simp at hlen|succ k=>rfl⟩;simp only[dL]at hg;have go:∀fl' v w',Ky ops last chg rest len (listed.setIfInBounds i true) fl' true=true→Gs P T S ops w0 rest (Ux (Ce a) o.dst v) w' K→
    (fl'=false→keepS S w0 w'∧∀j∈last,(listed.setIfInBounds i true).getD j false=false)→(fl'=true→∃j∈last,(listed.setIfInBounds i true).getD j false=true)→((∃j∈chg,(listed.setIfInBounds i true).getD j false=true)∨KeepsB (fun _=>True) w0 w')→
    Yv P .any ops Q (SS S w0 last chg) len (listed.setIfInBounds i true) (a.put o.dst v) w':=fun fl' v w' hg' h' h0' h1' h2'=>
    ih.1 len _ fl' (a.put o.dst v) w' hg' (by rw[hput a i o ho hn];exact h') h0' h1' h2' (by simpa using hsz) (by rw[Apd,hn]) (by rw[Agn,hd]) (hfr a i o ho hn hf v)
   cases m with
   |stable=>
    simp only[aH,bP]at hg;obtain⟨⟨⟨⟨⟨⟨hfl,hr⟩,hfree⟩,hnotl⟩,hnotc⟩,hwait⟩,hrest⟩:=hg;subst hfl;obtain⟨hkeep,hl⟩:=h0 rfl;have hil:i∉last:=by simpa using hnotl
    have hic:i∉chg:=by simpa using hnotc
    obtain⟨hsub,hicl,hlcl,hw'⟩:=Abu hwait;have key:∃v,YieldsIf P ops (keepS S w0) o v a∧Gs P T S ops w0 rest (Ux (Ce a) o.dst v) w K:=by
     rcases Le h with ⟨hw,h⟩|⟨hw,h⟩
     ·obtain⟨v,hF,hr⟩:=Air h;rw[Jp]at hr;exact⟨v,.inl ⟨hw,hr⟩,hF⟩
     ·exact⟨_,.inr ⟨hw,rfl⟩,h⟩
    obtain⟨v,hy,hF⟩:=key;exact Yj ho (Region.noSelect_spec hsel) (fun c a w=>hQ c a w _ _)
     (fun listed w hnl hS=>hS.1.elim (fun⟨j,hj,hl⟩=>by rw[hnl j hj]at hl;cases hl) id) (fun _ _ h=>(Ai2 hil hic _ _).2 h) (fun _ _ h=>(Ai2 hil hic _ _).1 h) hsub hicl hw' _ listed a w
     (Region.free_spec ho hfree) hlcl (by simpa using hr) hy ⟨.inr hkeep,h2⟩ (go false v w hrest hF (fun _=>⟨hkeep,hnl _ _ hil hl⟩) (fun h=>by cases h) (h2.imp (hgrowC listed i) id))
   |pre=>
    simp only[aH,bP]at hg;obtain⟨⟨⟨⟨⟨⟨hfl,hr⟩,hfree⟩,hnotl⟩,hnotc⟩,hwait⟩,hrest⟩:=hg;subst hfl;obtain⟨hkeep,hl⟩:=h0 rfl;have hil:i∉last:=by simpa using hnotl
    have hic:i∉chg:=by simpa using hnotc
    obtain⟨hsub,hicl,hlcl,hw'⟩:=Abu hwait;have hcl:∀j∈chg,listed.getD j false=false:=fun j hj=>hlcl j (hsub j hj);have hk1:KeepsB (fun _=>True) w0 w:=h2.elim (fun⟨j,hj,hl⟩=>by rw[hcl j hj]at hl;cases hl) id;have key:∃v,YieldsIf P ops (KeepsB (fun _=>True) w0) o v a∧Gs P T S ops w0 rest (Ux (Ce a) o.dst v) w K:=by
     rcases Le h with ⟨hw,h⟩|⟨hw,h⟩
     ·obtain⟨v,hF,hr⟩:=Air h;rw[Jp]at hr;exact⟨v,.inl ⟨hw,hr⟩,hF⟩
     ·exact⟨_,.inr ⟨hw,rfl⟩,h⟩
    obtain⟨v,hy,hF⟩:=key;exact Yj ho (Region.noSelect_spec hsel) (fun c a w=>hQ c a w _ _)
     (fun listed w hnl hS=>hS.2.elim (fun⟨j,hj,hl⟩=>by rw[hnl j hj]at hl;cases hl) id) (fun _ _ h=>(Ai2 hil hic _ _).2 h) (fun _ _ h=>(Ai2 hil hic _ _).1 h) hsub hicl hw' _ listed a w
     (Region.free_spec ho hfree) hlcl (by simpa using hr) hy ⟨.inr hkeep,h2⟩ (go false v w hrest hF (fun _=>⟨hkeep,hnl _ _ hil hl⟩) (fun h=>by cases h) (.inr hk1))
   |pur=>
    simp only[ho,aH,bP]at hg;obtain⟨⟨⟨⟨⟨hnl2,hr⟩,hfree⟩,hnotl⟩,hnotc⟩,hrest⟩:=hg;have hil:i∉last:=by simpa using hnotl
    have hic:i∉chg:=by simpa using hnotc
    have key:∃v,YieldsIf P ops (fun _=>True) o v a∧Gs P T S ops w0 rest (Ux (Ce a) o.dst v) w K:=by
     rcases Le h with ⟨hw,h⟩|⟨hw,h⟩
     ·obtain⟨v,hF,hr⟩:=Ar1 hnl2 h;rw[Jp]at hr;exact⟨v,.inl ⟨hw,fun w _=>hr w⟩,hF⟩
     ·exact⟨_,.inr ⟨hw,rfl⟩,h⟩
    obtain⟨v,hy,hF⟩:=key;have hSS:SS S w0 last chg listed w:=⟨by
     cases fl with
     |false=>exact .inr (h0 rfl).1
     |true=>exact .inl (h1 rfl),h2⟩
    exact Yj (last:=[]) (cl:=[]) ho (Region.noSelect_spec hsel) (fun c a w=>hQ c a w _ _)
     (fun _ _ _ _=>trivial) (fun _ _ h=>(Ai2 hil hic _ _).2 h) (fun _ _ h=>(Ai2 hil hic _ _).1 h) (fun _ hj=>by simp at hj) (by simp) (fun _ hj=>by simp at hj) _ listed a w
     (Region.free_spec ho hfree) (fun _ hj=>by simp at hj) (by simpa using hr) hy hSS (go fl v w hrest hF (fun hf=>⟨(h0 hf).1,hnl _ _ hil (h0 hf).2⟩) (fun hf=>hgrow _ _ (h1 hf)) (h2.imp (hgrowC listed i) id))
   |keep=>
    simp only[aH,bP,beq_iff_eq]at hg;obtain⟨⟨⟨hr,hnotl⟩,hinc⟩,hrest⟩:=hg;have hil:i∉last:=by simpa using hnotl
    have hic:i∈chg:=by simpa using hinc
    have hexc:∃j∈chg,(listed.setIfInBounds i true).getD j false=true:=⟨i,hic,Ah9 (ops:=ops) (by rw[hr];simp)⟩;refine⟨fun he=>(by rw[hr]at he;cases he),fun i' hi'=>?_⟩;rw[hr]at hi';obtain rfl:i'=i:=by simpa using hi'
    unfold wpOp;simp only[ho];rcases Le h with ⟨hw,h⟩|⟨hw,h⟩
    ·rw[aF hw];left;refine(Xw h).wp rfl (fun ch w' h=>hP ch a w' h hd) fun v w' ⟨hk,h⟩=>?_;exact⟨⟨.inr hk,.inl hexc⟩,go fl v w' hrest h (fun hf=>⟨hk,hnl _ _ hil (h0 hf).2⟩) (fun hf=>hgrow _ _ (h1 hf)) (.inl hexc)⟩
    ·rw[aE (by rw[hw];decide)];refine⟨⟨?_,.inl hexc⟩,go fl _ w hrest h (fun hf=>⟨(h0 hf).1,hnl _ _ hil (h0 hf).2⟩) (fun hf=>hgrow _ _ (h1 hf)) (.inl hexc)⟩;cases fl with
     |false=>exact .inr (h0 rfl).1
     |true=>exact .inl (hgrow _ _ (h1 rfl))
   |last=>
    simp only[aH,beq_iff_eq]at hg;obtain⟨⟨⟨hr,hl⟩,hinc⟩,hrest⟩:=hg;have hil:i∈last:=by simpa using hl
    have hic:i∈chg:=by simpa using hinc
    have hset:(listed.setIfInBounds i true).getD i false=true:=Ah9 (ops:=ops) (by rw[hr];simp);have hex:∃j∈last,(listed.setIfInBounds i true).getD j false=true:=⟨i,hil,hset⟩;have hexc:∃j∈chg,(listed.setIfInBounds i true).getD j false=true:=⟨i,hic,hset⟩;refine⟨fun he=>(by rw[hr]at he;cases he),fun i' hi'=>?_⟩;rw[hr]at hi';obtain rfl:i'=i:=by simpa using hi'
    unfold wpOp;simp only[ho];rcases Le h with ⟨hw,h⟩|⟨hw,h⟩
    ·rw[aF hw];left;refine(Xw h).wp rfl (fun ch w' h=>hP ch a w' h hd) fun v w' h=>?_;exact⟨⟨.inl hex,.inl hexc⟩,go true v w' hrest h (fun hf=>by cases hf) (fun _=>hex) (.inl hexc)⟩
    ·rw[aE (by rw[hw];decide)];exact⟨⟨.inl hex,.inl hexc⟩,go true _ w hrest h (fun hf=>by cases hf) (fun _=>hex) (.inl hexc)⟩
 |alt i rest more ihr ihm=>
  have B:∀(len:Nat) (listed:Array Bool) (fl:Bool) (top:Bool) (a:Act) (w:World),Ky ops last chg (.alt i rest more) len listed fl top=true→Gs P T S ops w0 (.alt i rest more) (Ce a) w K→
   (fl=false→keepS S w0 w∧∀j∈last,listed.getD j false=false)→(fl=true→∃j∈last,listed.getD j false=true)→((∃j∈chg,listed.getD j false=true)∨KeepsB (fun _=>True) w0 w)→listed.size=ops.size→
   a.tmps.size=n→a.defers=ds→(∀t,t∉Eh ops.toList→Ce a t=e0 t)→
   ∀j∈Avs (.alt i rest more),wpOp P ops Q j (fun a' w'=>SS S w0 last chg (listed.setIfInBounds j true) w'∧Yv P .any ops Q (SS S w0 last chg) (len-1) (listed.setIfInBounds j true) a' w') a w:=by
   intro len listed fl top a w hg h h0 h1 h2 hsz hn hd hf j hj;simp only[Ky,aH,bP]at hg;obtain⟨⟨⟨⟨⟨hlen,hr⟩,hnotl⟩,hinc⟩,hrest⟩,hmore⟩:=hg;obtain⟨h,hmo⟩:=h;rcases bB.1 hj with rfl|hj
   ·have hil:j∉last:=by simpa using hnotl
    have hic:j∈chg:=by simpa using hinc
    cases ho:ops[j]? with
    |none=>simp[ho]at h
    |some o=>
     simp only[ho]at h;have hjlt:j<listed.size:=by
      rcases aT j ops.size with h'|h'
      ·omega
      ·rw[Array.getElem?_eq_none h']at ho;cases ho
     have hexc:∃k∈chg,(listed.setIfInBounds j true).getD k false=true:=⟨j,hic,by simp[hjlt]⟩;have go:∀v w',Gs P T S ops w0 rest (Ux (Ce a) o.dst v) w' K→(fl=false→keepS S w0 w')→
      Yv P .any ops Q (SS S w0 last chg) (len-1) (listed.setIfInBounds j true) (a.put o.dst v) w':=fun v w' h' hk'=>
      ihr.1 (len-1) _ fl (a.put o.dst v) w' hrest (by rw[hput a j o ho hn];exact h') (fun hf=>⟨hk' hf,hnl _ _ hil (h0 hf).2⟩) (fun hf=>hgrow _ _ (h1 hf)) (.inl hexc) (by simpa using hsz) (by rw[Apd,hn]) (by rw[Agn,hd]) (hfr a j o ho hn hf v)
     unfold wpOp;simp only[ho];rcases Le h with ⟨hw,h⟩|⟨hw,h⟩
     ·rw[aF hw];left;refine(Xw h).wp rfl (fun ch w' h=>hP ch a w' h hd) fun v w' ⟨hk,h⟩=>?_;exact⟨⟨.inr hk,.inl hexc⟩,go v w' h (fun _=>hk)⟩
     ·rw[aE (by rw[hw];decide)];refine⟨⟨?_,.inl hexc⟩,go _ w h (fun hf=>(h0 hf).1)⟩;cases fl with
      |false=>exact .inr (h0 rfl).1
      |true=>exact .inl (hgrow _ _ (h1 rfl))
   ·exact ihm.2 len listed fl false a w hmore hmo h0 h1 h2 hsz hn hd hf j hj
  refine⟨fun len listed fl a w hg h h0 h1 h2 hsz hn hd hf=>?_,B⟩;have hg':=hg;simp only[Ky,aH,bP,Bool.not_true,Bool.false_or,beq_iff_eq]at hg';obtain⟨⟨⟨⟨⟨hlen,hr⟩,hnotl⟩,hinc⟩,hrest⟩,hmore⟩:=hg';obtain⟨len,rfl⟩:∃k,len=k+1:=⟨len-1,by cases len with|zero=>simp at hlen|succ k=>rfl⟩;have hB:=B (len+1) listed fl true a w hg h h0 h1 h2 hsz hn hd hf;refine⟨fun he=>(by rw[hr]at he;cases he),fun j hj=>?_⟩;rw[hr]at hj;exact hB j hj
end Go.Sx
namespace Go.Sx
open Go.RowKit
inductive DM where
 |no|blk|cel
inductive H where
 |leaf|reg
 |draw (s:DM) (can:Can)
 |seq (a b:H)
 |cut (live:List (Nat×Kind)) (wr:List Nat) (a b:H)
 |cond (a b:H)
 |block (a:H)
 |loop (live:List (Nat×Kind)) (wr:List Nat) (a:H)
 |loopG (live:List (Nat×Kind)) (wr:List Nat) (a:H)
def Mc:Code→List Nat
 |.region _ ops _=>Eh ops.toList
 |.seq a b=>Mc a++Mc b
 |.cond _ a b=>Mc a++Mc b
 |.block _ b=>Mc b
 |.loop b=>Mc b
 |_=>[]
def Ap2:List Nat→Nat→Bool
 | [],_=>false
 |x::xs,t=>match Nat.beq x t with|true=>true|false=>Ap2 xs t
theorem Xc:∀ {l:List Nat} {t:Nat},Ap2 l t=true↔t∈l
 | [],t=>by simp[Ap2]
 |x::xs,t=>by
  unfold Ap2;cases h:Nat.beq x t
  ·have:t≠x:=fun e=>by subst e;simp at h
   simp[Xc,this]
  ·have:=bO h;simp[this]
def Adh(e:Env)(wr:List Nat)(junk:Env):Env:=fun t=>match Ap2 wr t with|true=>junk t|false=>e t
def Arh(N:Env→World→Prop)(Q:Exit→Env→World→Prop):Exit→Env→World→Prop
 |.normal,e,w=>N e w
 |x,e,w=>Q x e w
def At4(id:Nat)(Q:Exit→Env→World→Prop):Exit→Env→World→Prop
 |.exit id',e,w=>match Nat.beq id' id with|true=>Q .normal e w|false=>Q (.exit id') e w
 |x,e,w=>Q x e w
def Aio(n:Nat):List Nat→Bool
 | []=>true
 |x::xs=>match Nat.blt x n with|true=>Aio n xs|false=>false
theorem Adz{n:Nat}:∀ {l:List Nat},Aio n l=true→∀d∈l,d<n
 | [],_,d,hd=>by simp at hd
 |x::xs,h,d,hd=>by
  unfold Aio at h;cases hx:Nat.blt x n
  ·rw[hx]at h;cases h
  ·rw[hx]at h;rcases bB.1 hd with rfl|hd
   ·simpa [Nat.blt_eq] using hx
   ·exact Adz h d hd
def Bar(l m:List Nat):Bool:=l.all (Ap2 m)
theorem Ani{l m:List Nat}(h:Bar l m=true):∀d∈l,d∈m:=fun d hd=>Xc.1 (bN.1 h d hd)
abbrev noJ:World→Prop:=fun _=>False
abbrev noI:Nat×(World→Prop):=(0,fun _=>False)
abbrev noG:Nat→World→Prop:=fun _ _=>False
theorem Ar3{X:Nat→Prop}:(∃m,X m)→∃m,X m∧∀k,X k→m≤k:=by
 rintro⟨m,hm⟩;induction m using Nat.strongRecOn with
 |ind m ih=>
  by_cases h:∃k,k<m∧X k
  ·obtain⟨k,hk,hx⟩:=h;exact ih k hk hx
  ·exact⟨m,hm,fun k hk=>Nat.le_of_not_lt fun hlt=>h ⟨k,hlt,hk⟩⟩
open Classical in
noncomputable def Aou(X:Nat→Prop):Nat:=if h:∃m,X m then (Ar3 h).choose else 0
theorem Axk{X:Nat→Prop}(h:∃m,X m):X (Aou X):=by
 unfold Aou;rw[dif_pos h];exact(Ar3 h).choose_spec.1
theorem Axl{X:Nat→Prop}{k:Nat}(h:X k):Aou X≤k:=by
 unfold Aou;rw[dif_pos ⟨k,h⟩];exact(Ar3 ⟨k,h⟩).choose_spec.2 k h
def sxCode(P:Program)(T:Cx)(n:Nat):H→Code→(Exit→Env→World→Prop)→Env→World→Prop
 |.leaf,.skip,Q,e,w=>Q .normal e w
 |.leaf,.ret,Q,e,w=>Q .ret e w
 |.leaf,.exit id,Q,e,w=>Q (.exit id) e w
 |.reg,.region _ ops false,Q,e,w=>bcond (Aio n (Eh ops.toList)) (Ahw P T ops ops.toList e w (Q .normal))
 |.draw .no can,.region _ ops true,Q,e,w=>bcond (Aio n (Eh ops.toList)&&Ape ops can) (Gs P ⟨T.k,none⟩ .no ops w.drew can e w.drew (Q .normal))
 |.draw .blk can,.region _ ops true,Q,e,w=>bcond (Aio n (Eh ops.toList)&&Ape ops can) (∃S:Nat→Prop,Gs P ⟨T.k,none⟩ (.blk S) ops w.drew can e w.drew (Q .normal))
 |.draw .cel can,.region _ ops true,Q,e,w=>bcond (Aio n (Eh ops.toList)&&Ape ops can) (∃S:Addr→Prop,Gs P ⟨T.k,none⟩ (.cel S) ops w.drew can e w.drew (Q .normal))
 |.seq h1 h2,.seq a b,Q,e,w=>sxCode P T n h1 a (Arh (fun e w=>sxCode P T n h2 b Q e w) Q) e w
 |.cut live wr h1 h2,.seq a b,Q,e,w=>bcond (Bar (Mc a) wr) (∃J:Ah2 live (World→Prop),
  (∀junk:Env,Ag8 live J (Adh e wr junk) fun e' j=>∀w':World,j w'→sxCode P T n h2 b Q e' w')∧
  sxCode P T n h1 a (Arh (fun e' w'=>Jc noJ live J e' w') Q) e w)
 |.cond h1 h2,.cond c x y,Q,e,w=>match ev e c with
  |.bool b=>bsplit b (sxCode P T n h1 x Q e w) (sxCode P T n h2 y Q e w)
  |_=>False
 |.block h,.block id body,Q,e,w=>sxCode P T n h body (At4 id Q) e w
 |.loop live wr h,.loop body,Q,e,w=>bcond (Bar (Mc body) wr) (∃I:Ah2 live (Nat×(World→Prop)),
  (Jc noI live I e).2 w∧
  ∀junk:Env,Ag8 live I (Adh e wr junk) fun e' i=>∀w':World,i.2 w'→
   sxCode P T n h body (Arh (fun e'' w''=>(Jc noI live I e'').2 w''∧(Jc noI live I e'').1<i.1) Q) e' w')
 |.loopG live wr h,.loop body,Q,e,w=>bcond (Bar (Mc body) wr) (∃I:Ah2 live (Nat→World→Prop),
  (∃m,Jc noG live I e m w)∧
  ∀junk:Env,Ag8 live I (Adh e wr junk) fun e' i=>∀(m:Nat) (w':World),i m w'→
   sxCode P T n h body (Arh (fun e'' w''=>∃m',m'<m∧Jc noG live I e'' m' w'') Q) e' w')
 |_,_,_,_,_=>False
def LQ(pq:Option (List PanicEntry→World→Prop))(ds:List Deferred)(n:Nat)(e0:Env)(D:List Nat)(Q:Exit→Env→World→Prop):Exit→Act→World→Prop
 |.panic ch,a,w=>PqH pq ch w∧a.defers=ds∧(∀t,t∉D→Ce a t=e0 t)
 |.outgrown,_,_=>False
 |x,a,w=>a.tmps.size=n∧a.defers=ds∧(∀t,t∉D→Ce a t=e0 t)∧Q x (Ce a) w
theorem Vf{pq:Option (List PanicEntry→World→Prop)}{ds:List Deferred}{n:Nat}{e0 e1:Env}{D D':List Nat}{Q Q':Exit→Env→World→Prop}{x:Exit}{a:Act}{w:World}(h:LQ pq ds n e0 D Q x a w)
 (hD:∀d∈D,d∈D') (he:∀t,t∉D'→e0 t=e1 t) (hQ:∀x e w,Q x e w→Q' x e w):LQ pq ds n e1 D' Q' x a w:=by
 cases x<;>first|exact(h:False).elim|exact⟨h.1,h.2.1,fun t ht=>(h.2.2 t (fun hd=>ht (hD t hd))).trans (he t ht)⟩|exact⟨h.1,h.2.1,fun t ht=>(h.2.2.1 t (fun hd=>ht (hD t hd))).trans (he t ht),hQ _ _ _ h.2.2.2⟩
theorem Ahc{pq:Option (List PanicEntry→World→Prop)}{ds:List Deferred}{n:Nat}{e0:Env}{D:List Nat}{N:Env→World→Prop}{Q:Exit→Env→World→Prop}{x:Exit}{a:Act}{w:World}(hx:x≠.normal)
 (h:LQ pq ds n e0 D (Arh N Q) x a w):LQ pq ds n e0 D Q x a w:=by
 cases x<;>first|exact absurd rfl hx|exact h
theorem Dx{P:Program}{T:Cx}{ds:List Deferred}{n:Nat}(hm:P.follows .mixedOrders=true):∀(h:H) (c:Code) (Q:Exit→Env→World→Prop) (a:Act) (w:World),sxCode P T n h c Q (Ce a) w→a.tmps.size=n→a.defers=ds→
  c.wp P (LQ T.pq ds n (Ce a) (Mc c) Q) a w
 |.leaf,c,Q,a,w,hs,hn,hd=>by
  cases c<;>simp only[sxCode]at hs
  case skip=>exact wp_skip ⟨hn,hd,fun _ _=>rfl,hs⟩
  case ret=>exact wp_ret ⟨hn,hd,fun _ _=>rfl,hs⟩
  case exit id=>exact wp_exit ⟨hn,hd,fun _ _=>rfl,hs⟩
 |.reg,c,Q,a,w,hs,hn,hd=>by
  cases c<;>try (simp only[sxCode]at hs;done)
  case region id ops d=>
   cases d<;>first|exact hs.elim|skip
   change bcond _ _ at hs;rw[Db]at hs;exact wp_region_list (Aus (ds:=ds) (Q:=LQ T.pq ds n (Ce a) (Mc (.region id ops false)) Q) (fun ch a w h hd hf=>⟨h,hd,hf⟩) ops.toList a w hs.2 hn hd (Adz hs.1) (fun _ _=>rfl) (fun _ h=>h)
    (fun a' w' h1 h2 h3 h4=>⟨h2,h3,h4,h1⟩))
 |.draw sb can,c,Q,a,w,hs,hn,hd=>by
  cases c<;>try (cases sb<;>simp only[sxCode]at hs;done)
  case region id ops d=>
   have key:d=true∧∃S,(Aio n (Eh ops.toList)&&Ape ops can)=true∧Gs P ⟨T.k,none⟩ S ops w.drew can (Ce a) w.drew (Q .normal):=by
    cases d<;>cases sb<;>first|exact hs.elim|skip
    ·change bcond _ _ at hs;rw[Db]at hs;exact⟨rfl,.no,hs.1,hs.2⟩
    ·change bcond _ _ at hs;rw[Db]at hs;obtain⟨S,h⟩:=hs.2;exact⟨rfl,.blk S,hs.1,h⟩
    ·change bcond _ _ at hs;rw[Db]at hs;obtain⟨S,h⟩:=hs.2;exact⟨rfl,.cel S,hs.1,h⟩
   obtain⟨rfl,S,hc,hs⟩:=key;rw[aH]at hc;obtain⟨hlt,hok⟩:=hc;unfold Ape at hok;rw[aH]at hok;obtain⟨hsel,hgo⟩:=hok;have key:(Code.region id ops true).wp P (fun x a' w'=>match x with|.panic _=>False|x=>LQ T.pq ds n (Ce a) (Mc (.region id ops true)) Q x a' w') a w:=by
    refine wp_region_any hm (Ao1 (S:=SS S w.drew (Zy can) (Acr can)) _ _ _ _ ?_);exact(As3 (S:=S) (w0:=w.drew) (last:=Zy can) (chg:=Acr can) (e0:=Ce a) (n:=n) (K:=Q .normal) (ds:=ds) (T:=⟨T.k,none⟩) (fun ch a w h hd=>h.elim) hsel (fun _ _ _ _ _ h=>h) (Adz hlt)
     (fun a' w' h1 h2 h3 h4=>⟨h2,h3,h4,h1⟩) can).1 _ _ false a w.drew hgo hs (fun _=>⟨keepS.refl _ _,fun j _=>by simp[Array.getElem?_replicate];split<;>rfl⟩) (fun h=>by cases h) (.inr (KeepsB.refl _ _)) (by simp) hn hd (fun _ _=>rfl)
   exact wp_mono key fun x a' w' h=>by cases x<;>first|exact(h:False).elim|exact h
 |.seq h1 h2,c,Q,a,w,hs,hn,hd=>by
  cases c<;>simp only[sxCode]at hs
  case seq x y=>
   refine wp_seq (wp_mono (Dx hm h1 x _ a w hs hn hd) fun ex a' w' hl=>?_);cases ex<;>first|exact(hl:False).elim|skip
   case normal=>
    obtain⟨hn',hd',hf,hq⟩:=hl;exact wp_mono (Dx hm h2 y Q a' w' hq hn' hd') fun ex a'' w'' hl'=>
     Vf hl' (fun d hd=>by simp[Mc,hd]) (fun t ht=>hf t (fun h=>ht (by simp[Mc,h]))) (fun _ _ _ h=>h)
   all_goals exact Vf (Ahc (by simp) hl) (fun d hd=>by simp[Mc,hd]) (fun t ht=>rfl) (fun _ _ _ h=>h)
 |.cut live wr h1 h2,c,Q,a,w,hs,hn,hd=>by
  cases c<;>simp only[sxCode]at hs
  case seq x y=>
   rw[Db]at hs;obtain⟨hsub,J,hJ,hs⟩:=hs;refine wp_seq (wp_mono (Dx hm h1 x _ a w hs hn hd) fun ex a' w' hl=>?_);cases ex<;>first|exact(hl:False).elim|skip
   case normal=>
    obtain⟨hn',hd',hf,hq⟩:=hl;have hq:Jc noJ live J (Ce a') w':=hq;have hcode:=Ys (fun j:World→Prop=>j w') (d:=noJ) (fun h=>h) (hJ (Ce a')) hq (fun t ht=>by
     unfold Adh;cases hb:Ap2 wr t
     ·exact(hf t (fun hx=>by rw[Xc.2 (Ani hsub t hx)]at hb;cases hb)).symm
     ·rfl)
    exact wp_mono (Dx hm h2 y Q a' w' (hcode w' hq) hn' hd') fun ex a'' w'' hl'=>
     Vf hl' (fun d hd=>by simp[Mc,hd]) (fun t ht=>hf t (fun h=>ht (by simp[Mc,h]))) (fun _ _ _ h=>h)
   all_goals exact Vf (Ahc (by simp) hl) (fun d hd=>by simp[Mc,hd]) (fun t ht=>rfl) (fun _ _ _ h=>h)
 |.cond h1 h2,c,Q,a,w,hs,hn,hd=>by
  cases c<;>simp only[sxCode]at hs
  case cond t x y=>
   split at hs
   ·rename_i b hb;rw[Jp]at hb;cases b
    ·exact wp_cond_false hb (wp_mono (Dx hm h2 y Q a w hs hn hd) fun ex a' w' hl=>Vf hl (fun d hd=>by simp[Mc,hd]) (fun _ _=>rfl) (fun _ _ _ h=>h))
    ·exact wp_cond_true hb (wp_mono (Dx hm h1 x Q a w hs hn hd) fun ex a' w' hl=>Vf hl (fun d hd=>by simp[Mc,hd]) (fun _ _=>rfl) (fun _ _ _ h=>h))
   ·exact hs.elim
 |.block h,c,Q,a,w,hs,hn,hd=>by
  cases c<;>simp only[sxCode]at hs
  case block id body=>
   refine wp_block (wp_mono (Dx hm h body _ a w hs hn hd) fun ex a' w' hl=>?_);cases ex<;>first|exact(hl:False).elim|skip
   case exit id'=>
    obtain⟨hn',hd',hf,hq⟩:=hl;simp only[Exit.inBlock];simp only[At4]at hq;by_cases hid:id'=id
    ·rw[aF hid];subst hid;have:Nat.beq id' id'=true:=by simp
     rw[this]at hq;exact⟨hn',hd',hf,hq⟩
    ·rw[aE hid];have:Nat.beq id' id=false:=by cases hb:Nat.beq id' id with|false=>rfl|true=>exact absurd (bO hb) hid
     rw[this]at hq;exact⟨hn',hd',hf,hq⟩
   all_goals exact hl
 |.loop live wr h,c,Q,a,w,hs,hn,hd=>by
  cases c<;>simp only[sxCode]at hs
  case loop body=>
   rw[Db]at hs;obtain⟨hsub,I,h0,hround⟩:=hs;refine wp_loop (fun a' w'=>a'.tmps.size=n∧a'.defers=ds∧(∀t,t∉Mc body→Ce a' t=Ce a t)∧(Jc noI live I (Ce a')).2 w')
    (fun a' _=>(Jc noI live I (Ce a')).1) ⟨hn,hd,fun _ _=>rfl,h0⟩ ?_
   rintro a' w' ⟨hn',hd',hf,hI⟩;have hcode:=Ys (fun r:Nat×(World→Prop)=>r.2 w') (d:=noI) (fun h=>h) (hround (Ce a')) hI (fun t ht=>by
    unfold Adh;cases hb:Ap2 wr t
    ·exact(hf t (fun hx=>by rw[Xc.2 (Ani hsub t hx)]at hb;cases hb)).symm
    ·rfl)
   refine wp_mono (Dx hm h body _ a' w' (hcode w' hI) hn' hd') fun ex a'' w'' hl=>?_;cases ex<;>first|exact(hl:False).elim|skip
   case normal=>
    obtain⟨hn'',hd'',hf'',hq,hlt⟩:=hl;exact⟨⟨hn'',hd'',fun t ht=>(hf'' t ht).trans (hf t ht),hq⟩,hlt⟩
   all_goals exact Vf (Ahc (by simp) hl) (fun d hd=>by simpa [Mc] using hd) (fun t ht=>hf t (by simpa [Mc] using ht)) (fun _ _ _ h=>h)
 |.loopG live wr h,c,Q,a,w,hs,hn,hd=>by
  cases c<;>simp only[sxCode]at hs
  case loop body=>
   rw[Db]at hs;obtain⟨hsub,I,h0,hround⟩:=hs;refine wp_loop (fun a' w'=>a'.tmps.size=n∧a'.defers=ds∧(∀t,t∉Mc body→Ce a' t=Ce a t)∧∃m,Jc noG live I (Ce a') m w')
    (fun a' w'=>Aou fun m=>Jc noG live I (Ce a') m w') ⟨hn,hd,fun _ _=>rfl,h0⟩ ?_
   rintro a' w' ⟨hn',hd',hf,hI⟩;have hcode:=Ys (fun r:Nat→World→Prop=>∃m,r m w') (d:=noG) (fun⟨_,h⟩=>h) (hround (Ce a')) hI (fun t ht=>by
    unfold Adh;cases hb:Ap2 wr t
    ·exact(hf t (fun hx=>by rw[Xc.2 (Ani hsub t hx)]at hb;cases hb)).symm
    ·rfl)
   refine wp_mono (Dx hm h body _ a' w' (hcode _ w' (Axk hI)) hn' hd') fun ex a'' w'' hl=>?_;cases ex<;>first|exact(hl:False).elim|skip
   case normal=>
    obtain⟨hn'',hd'',hf'',m',hlt,hq⟩:=hl;exact⟨⟨hn'',hd'',fun t ht=>(hf'' t ht).trans (hf t ht),m',hq⟩,Nat.lt_of_le_of_lt (Axl (X:=fun m=>Jc noG live I (Ce a'') m w'') hq) hlt⟩
   all_goals exact Vf (Ahc (by simp) hl) (fun d hd=>by simpa [Mc] using hd) (fun t ht=>hf t (by simpa [Mc] using ht)) (fun _ _ _ h=>h)
def Ge(P:Program)(T:Cx):List ResultVar→Env→World→(List Value→Prop)→Prop
 | [],_,_,F=>F []
 |.tmp t::rs,e,w,F=>Ge P T rs e w fun vs=>F (e t::vs)
 |.cell a ty::rs,e,w,F=>match e a,T.k ty with
  |.pointer (some ad),[k]=>Ac3 P ty k w ad fun v=>Ge P T rs e w fun vs=>F (v::vs)
  |_,_=>False
theorem Rh{P:Program}{T:Cx}{a:Act}{w:World}:∀ {rs:List ResultVar} {F:List Value→Prop},Ge P T rs (Ce a) w F→
 ∃vs,F vs∧vs.length=rs.length∧(rs.mapM fun
  |.tmp t=>pure (a.tmps.getD t undef)
  |.cell ad t=>do loadVar t (←asAddr (a.tmps.getD ad undef)):Sem (List Value)).run P w=.ok vs w
 | [],F,h=>⟨[],h,rfl,by simp⟩
 |.tmp t::rs,F,h=>by
  obtain⟨vs,hF,hl,hr⟩:=Rh (rs:=rs) h;refine⟨_,hF,by simp[hl],?_⟩;rw[List.mapM_cons,Cb (a:=a.tmps.getD t undef) (w':=w) rfl,Cb hr];rfl
 |.cell ad ty::rs,F,h=>by
  simp only[Ge]at h;split at h
  ·rename_i p k hp ht;obtain⟨v,h,hr,-⟩:=Afv h;obtain⟨vs,hF,hl,hrs⟩:=Rh (rs:=rs) h;refine⟨_,hF,by simp[hl],?_⟩;have hld:(do loadVar ty (←asAddr (a.tmps.getD ad undef)):Sem Value).run P w=.ok v w:=by
    have:a.tmps.getD ad undef=.pointer (some p):=hp;rw[this];exact hr
   rw[List.mapM_cons,Cb hld,Cb hrs];rfl
  ·exact h.elim
def Ajl(args:Array Value):Env:=fun t=>args.getD t undef
def Bcl(P:Program)(T:Cx)(rs:List ResultVar)(R:Value→World→Prop):Exit→Env→World→Prop
 |.normal,e,w=>Ge P T rs e w fun vs=>R (Tx vs) w
 |.ret,e,w=>Ge P T rs e w fun vs=>R (Tx vs) w
 |_,_,_=>False
def Ba5(P:Program)(T:Cx)(h:H)(fn:Func)(args:Array Value)(w:World)(R:Value→World→Prop):Prop:=
 match fn.body with
 |some c=>bcond (Nat.ble args.size fn.ntmps) (sxCode P T fn.ntmps h c (Bcl P T fn.results.toList R) (Ajl args) w)
 |none=>False
theorem Aq8(vs:List Value):(if h:vs.toArray.size=1 then vs.toArray[0] else Value.tuple vs.toArray)=Tx vs:=by
 match vs with
 | []=>rfl
 | [v]=>rfl
 |_::_::_=>simp[Tx]
theorem An1{P:Program}{T:Cx}{h:H}{f:FuncId}{fn:Func}{args:Array Value}{w:World}{R:Value→World→Prop}
 (hm:P.follows .mixedOrders=true) (hf:P.funcs[f]?=some fn) (hs:Ba5 P T h fn args w R):
 Calls P f args w fun e w'=>(∃v,e=.returned v∧R v w')∨∃ch,e=.panicked ch∧PqH T.pq ch w':=by
 unfold Ba5 at hs;split at hs
 ·rename_i c hb;rw[Db]at hs;obtain⟨hle,hs⟩:=hs;have hle:args.size≤fn.ntmps:=Nat.le_of_ble_eq_true hle;refine calls_of_wp hf hb ?_;have henv:Ce { tmps:=args++Array.replicate (fn.ntmps-args.size) undef,defers:=[] }=Ajl args:=by
   funext t;simp only[Ce,Ajl];by_cases ht:t<args.size
   ·simp[Array.getElem?_append,ht]
   ·simp[Array.getElem?_append,ht,Array.getElem?_replicate];split<;>rfl
  rw[←henv]at hs;refine wp_mono (Dx (ds:=[]) hm h c _ _ w hs (by simp;omega) rfl) fun ex a' w' hl=>?_;have fin:∀ {Q':Prop},Ge P T fn.results.toList (Ce a') w' (fun vs=>R (Tx vs) w')→
   ∃v,(results fn a'.tmps).run P w'=.ok v w'∧((∃v',Ending.returned v=Ending.returned v'∧R v' w')∨∃ch,Ending.returned v=.panicked ch∧PqH T.pq ch w'):=fun hr=>by
   obtain⟨vs,hR,hlen,hrun⟩:=Rh hr;refine⟨Tx vs,?_,.inl ⟨_,rfl,hR⟩⟩;unfold results;have hrun':(fn.results.mapM fun
    |.tmp t=>pure (a'.tmps.getD t undef)
    |.cell ad t=>do loadVar t (←asAddr (a'.tmps.getD ad undef)):Sem (Array Value)).run P w'=.ok vs.toArray w':=by
    rw[Array.mapM_eq_mapM_toList];rw[Sem.run_map,hrun];rfl
   refine(Cb (P:=P) hrun').trans ?_;rw[Aq8];rfl
  cases ex<;>first|exact(hl:False).elim|skip
  case normal=>exact⟨hl.2.1,fin (Q':=True) hl.2.2.2⟩
  case ret=>exact⟨hl.2.1,fin (Q':=True) hl.2.2.2⟩
  case panic ch=>exact⟨hl.2.1,.inr ⟨ch,rfl,hl.1⟩⟩
  all_goals exact hl.2.2.2.elim
 ·exact hs.elim
end Go.Sx
namespace Go.Sx
theorem Ak{P:Program}{k:TypeId→List Kind}{h:H}{f:FuncId}{fn:Func}{args:Array Value}{w:World}{R:Ending→World→Prop}
 (hm:P.follows .mixedOrders=true) (hf:P.funcs[f]?=some fn) (hs:Ba5 P ⟨k,none⟩ h fn args w fun v w'=>R (.returned v) w'):Calls P f args w R:=
 (An1 hm hf hs).mono fun e w' h=>by
  rcases h with ⟨v,rfl,h⟩|⟨_,_,h⟩
  ·exact h
  ·exact h.elim
theorem Axq{P:Program}{k:TypeId→List Kind}{h:H}{f:FuncId}{fn:Func}{args:Array Value}{w:World}{R:Ending→World→Prop}
 (hm:P.follows .mixedOrders=true) (hf:P.funcs[f]?=some fn) (hs:Ba5 P ⟨k,some fun ch w'=>R (.panicked ch) w'⟩ h fn args w fun v w'=>R (.returned v) w'):Calls P f args w R:=
 (An1 hm hf hs).mono fun e w' h=>by
  rcases h with ⟨v,rfl,h⟩|⟨ch,rfl,h⟩
  ·exact h
  ·exact h
def nb(w:World):Addr:=⟨w.heap.size,0,none⟩
end Go.Sx
namespace Go.Sx
open Go.RowKit
inductive HD where
 |seq (h:H) (r:HD)
 |dfr (h:H)
def Aiq(P:Program)(k:TypeId→List Kind)(pd:Deferred→Env→List PanicEntry→World→Prop)(n:Nat):HD→Code→(Exit→Env→World→Prop)→(Deferred→Exit→Env→World→Prop)→Env→World→Prop
 |.seq h r,.seq a b,Q,QD,e,w=>sxCode P ⟨k,none⟩ n h a (Arh (fun e w=>Aiq P k pd n r b Q QD e w) Q) e w
 |.dfr h,.seq (.region _ ops false) b,_,QD,e,w=>bcond (Aio n (Eh ops.toList)) (Ahw P ⟨k,none⟩ ops ops.toList.dropLast e w fun e w=>match ops.toList.getLast? with
  |some o=>match o.dst,o.guard with
   |none,none=>match (execOp (ev e) o).run P w with
    |.ok (.defer d) w'=>sxCode P ⟨k,some (pd d e)⟩ n h b (QD d) e w'
    |_=>False
   |_,_=>False
  |none=>False)
 |_,_,_,_,_,_=>False
def Az8:HD→Code→Code
 |.seq _ r,.seq _ b=>Az8 r b
 |.dfr _,.seq _ b=>b
 |_,c=>c
def LD(pd:Deferred→Env→List PanicEntry→World→Prop)(n:Nat)(D:List Nat)(Q:Exit→Env→World→Prop)(QD:Deferred→Exit→Env→World→Prop)(x:Exit)(a:Act)(w:World):Prop:=
 (∃e0 D0,LQ none [] n e0 D0 Q x a w∧x≠.normal)∨∃d e0,LQ (some (pd d e0)) [d] n e0 D (QD d) x a w
theorem Ae3{P:Program}{k:TypeId→List Kind}{pd:Deferred→Env→List PanicEntry→World→Prop}{n:Nat}{Q:Exit→Env→World→Prop}{QD:Deferred→Exit→Env→World→Prop}(hm:P.follows .mixedOrders=true):∀(r:HD) (c:Code) (a:Act) (w:World),Aiq P k pd n r c Q QD (Ce a) w→a.tmps.size=n→a.defers=[]→c.wp P (LD pd n (Mc (Az8 r c)) Q QD) a w
 |.seq h r,c,a,w,hs,hn,hd=>by
  cases c<;>try exact hs.elim
  case seq x y=>
   simp only[Aiq]at hs;refine wp_seq (wp_mono (Dx (T:=⟨k,none⟩) (ds:=[]) hm h x _ a w hs hn hd) fun ex a' w' hl=>?_);cases ex<;>first|exact(hl:False).elim|skip
   case normal=>
    obtain⟨hn',hd',hf,hq⟩:=hl;exact Ae3 hm r y a' w' hq hn' hd'
   all_goals exact .inl ⟨_,_,Ahc (by simp) hl,by simp⟩
 |.dfr h,c,a,w,hs,hn,hd=>by
  cases c<;>try exact hs.elim
  case seq x y=>
   cases x<;>try exact hs.elim
   case region id ops dr=>
    cases dr<;>first|exact hs.elim|skip
    simp only[Aiq]at hs;rw[Db]at hs;obtain⟨hlt,hs⟩:=hs;refine wp_seq (wp_region_list ?_);cases hl:ops.toList.getLast? with
    |none=>
     have h0:ops.toList=[]:=by simpa using hl
     rw[h0]at hs;simp[Ahw]at hs
    |some o=>
     have hsplit:ops.toList=ops.toList.dropLast++[o]:=by
      obtain⟨l,hll⟩:=List.getLast?_eq_some_iff.1 hl;rw[hll];simp
     have hsub:∀d∈Eh ops.toList.dropLast,d∈Eh ops.toList:=fun d hd'=>by
      rw[hsplit];unfold Eh at hd' ⊢;rw[List.filterMap_append];exact List.mem_append_left _ hd'
     have key:=Zd (T:=⟨k,none⟩) (ds:=[]) (e0:=Ce a) (tail:=[o]) (Q:=Exit.then (y.wp P (LD pd n (Mc y) Q QD)) (LD pd n (Mc y) Q QD)) (fun _ _ _ h=>h.elim) ops.toList.dropLast a w hs hn hd
      (fun d hd'=>Adz hlt d (hsub d hd')) (fun _ _=>rfl) hsub fun a' w' h1 h2 h3 h4=>?_
     ·rw[←hsplit]at key;exact key
     ·rw[hl]at h1;simp only at h1;split at h1<;>first|exact h1.elim|skip
      rename_i hdst hgu;split at h1<;>first|exact h1.elim|skip
      rename_i d w2 hrun;unfold wpList;have hw:Region.wanted o (yielded ops a'.tmps)=true:=by simp[Region.wanted,hgu]
      rw[aF hw];left;unfold Oper.wp;rw[Jp]at hrun;rw[hrun];show Exit.then (y.wp P (LD pd n (Mc y) Q QD)) (LD pd n (Mc y) Q QD) .normal (Act.put { a' with defers:=d::a'.defers } o.dst undef) w2;rw[hdst];show y.wp P (LD pd n (Mc y) Q QD) { a' with defers:=d::a'.defers } w2;have h5:(({ a' with defers:=d::a'.defers }:Act)).defers=[d]:=by simp[h3]
      exact wp_mono (Dx (T:=⟨k,some (pd d (Ce a'))⟩) (ds:=[d]) (n:=n) hm h y (QD d) { a' with defers:=d::a'.defers } w2 h1 h2 h5) fun x a2 w3 h=>.inr ⟨d,Ce a',h⟩
def Avy:ResultVar→Nat
 |.tmp t=>t
 |.cell a _=>a
theorem Sa{P:Program}{T:Cx}{e e':Env}{w:World}:∀ {rs:List ResultVar} {F:List Value→Prop},(∀r∈rs,e (Avy r)=e' (Avy r))→Ge P T rs e w F→Ge P T rs e' w F
 | [],F,_,h=>h
 |.tmp t::rs,F,hr,h=>by
  have h0:e t=e' t:=hr (.tmp t) (by simp);simp only[Ge]at h ⊢;rw[←h0];exact Sa (fun r hr'=>hr r (by simp[hr'])) h
 |.cell a ty::rs,F,hr,h=>by
  have h0:e a=e' a:=hr (.cell a ty) (by simp);have ih:=fun {F}=>Sa (P:=P) (T:=T) (w:=w) (rs:=rs) (F:=F) (fun r hr'=>hr r (by simp[hr']));have mono:∀ {t:TypeId} {q:Kind} {b:Addr} {F G:Value→Prop},(∀v,F v→G v)→Ac3 P t q w b F→Ac3 P t q w b G:=by
   intro t q b F G hFG h;unfold Ac3 at h ⊢;split at h<;>first|exact h.elim|skip
   ·exact Ak5 (fun v h=>⟨h.1,hFG _ h.2⟩) h
   ·exact Anx (Ahk fun vs h=>⟨h.1,hFG _ h.2⟩) h
   ·exact Anx (fun⟨cs,h1,h2,h3⟩=>⟨cs,h1,h2,hFG _ h3⟩) h
  simp only[Ge]at h ⊢;rw[←h0];split at h<;>first|exact h.elim|skip
  rename_i ad k hp ht;exact mono (fun v h=>ih h) h
def Afs(P:Program)(k:TypeId→List Kind)(rs:List ResultVar)(R:Value→World→Prop)(d:Deferred)(u:FrameMode)(e:Env)(w:World):Prop:=
 match d.target with
 |.fn (.func g) cap=>Vy P g=true∧CallsD P g (d.args++cap) u w fun x u' w'=>(∃v,x=.returned v)∧settle u'=.returning∧Ge P ⟨k,none⟩ rs e w' fun vs=>R (Tx vs) w'
 |_=>False
def Bb0(P:Program)(k:TypeId→List Kind)(rs:List ResultVar)(R:Value→World→Prop)(d:Deferred):Exit→Env→World→Prop
 |.normal,e,w=>Afs P k rs R d .returning e w
 |.ret,e,w=>Afs P k rs R d .returning e w
 |_,_,_=>False
def Bbj(P:Program)(k:TypeId→List Kind)(h:HD)(fn:Func)(args:Array Value)(w:World)(R:Value→World→Prop):Prop:=
 match fn.body with
 |some c=>bcond (Nat.ble args.size fn.ntmps&&fn.results.toList.all (fun r=>!Ap2 (Mc (Az8 h c)) (Avy r)))
  (Aiq P k (fun d e ch w=>Afs P k fn.results.toList R d (.panicking ch) e w) fn.ntmps h c (Bcl P ⟨k,none⟩ fn.results.toList R) (Bb0 P k fn.results.toList R) (Ajl args) w)
 |none=>False
theorem Vp{P:Program}{k:TypeId→List Kind}{fn:Func}{a:Act}{w:World}{F:Value→Prop}(h:Ge P ⟨k,none⟩ fn.results.toList (Ce a) w fun vs=>F (Tx vs)):∃v,(results fn a.tmps).run P w=.ok v w∧F v:=by
 obtain⟨vs,hR,hlen,hrun⟩:=Rh h;refine⟨Tx vs,?_,hR⟩;unfold results;have hrun':(fn.results.mapM fun
  |.tmp t=>pure (a.tmps.getD t undef)
  |.cell ad t=>do loadVar t (←asAddr (a.tmps.getD ad undef)):Sem (Array Value)).run P w=.ok vs.toArray w:=by
  rw[Array.mapM_eq_mapM_toList];rw[Sem.run_map,hrun];rfl
 refine(Cb (P:=P) hrun').trans ?_;rw[Aq8];rfl
theorem Aka{P:Program}{k:TypeId→List Kind}{fn:Func}{R:Ending→World→Prop}{d:Deferred}{u:FrameMode}{a:Act}{w:World}(hu:u≠.run)
 (h:Afs P k fn.results.toList (fun v w=>R (.returned v) w) d u (Ce a) w):Leaves P fn a.tmps R [d] u w:=by
 unfold Afs at h;split at h<;>first|exact h.elim|skip
 rename_i g cap ht;obtain⟨hok,hc⟩:=h;refine⟨hu,.func g,cap,g,d.args++cap,ht,?_,hc.mono ?_⟩
 ·rw[ht];simp only[invoke];exact At2 hok _ _
 rintro _ u' w' ⟨⟨v,rfl⟩,hs,hr⟩;obtain⟨v,hrun,hR⟩:=Vp (F:=fun v=>R (.returned v) w') hr;simp only;rw[hs];exact⟨v,hrun,hR⟩
theorem Axp{P:Program}{k:TypeId→List Kind}{h:HD}{f:FuncId}{fn:Func}{args:Array Value}{w:World}{R:Ending→World→Prop}
 (hm:P.follows .mixedOrders=true) (hf:P.funcs[f]?=some fn) (hs:Bbj P k h fn args w fun v w'=>R (.returned v) w'):Calls P f args w R:=by
 unfold Bbj at hs;split at hs
 ·rename_i c hb;rw[Db,aH]at hs;obtain⟨⟨hle,hrs⟩,hs⟩:=hs;have hle:args.size≤fn.ntmps:=Nat.le_of_ble_eq_true hle;refine calls_of_wp_defers hf hb ?_;have henv:Ce { tmps:=args++Array.replicate (fn.ntmps-args.size) undef,defers:=[] }=Ajl args:=by
   funext t;simp only[Ce,Ajl];by_cases ht:t<args.size
   ·simp[Array.getElem?_append,ht]
   ·simp[Array.getElem?_append,ht,Array.getElem?_replicate];split<;>rfl
  rw[←henv]at hs;refine wp_mono (Ae3 hm h c _ w hs (by simp;omega) rfl) fun ex a' w' hl=>?_;rcases hl with ⟨e0,D0,hl,hx⟩|⟨d,e0,hl⟩
  ·cases ex<;>first|exact(hl:False).elim|exact absurd rfl hx|skip
   case ret=>
    obtain⟨_,hd,_,hq⟩:=hl;obtain⟨v,hrun,hR⟩:=Vp (F:=fun v=>R (.returned v) w') hq;show Leaves P fn a'.tmps R a'.defers .returning w';rw[hd];exact⟨v,hrun,hR⟩
   case panic ch=>exact hl.1.elim
   all_goals exact hl.2.2.2.elim
  ·cases ex<;>first|exact(hl:False).elim|skip
   case normal=>
    obtain⟨_,hd,_,hq⟩:=hl;show Leaves P fn a'.tmps R a'.defers .returning w';rw[hd];exact Aka (by simp) hq
   case ret=>
    obtain⟨_,hd,_,hq⟩:=hl;show Leaves P fn a'.tmps R a'.defers .returning w';rw[hd];exact Aka (by simp) hq
   case panic ch=>
    obtain⟨hq,hd,hfr⟩:=hl;show Leaves P fn a'.tmps R a'.defers (.panicking ch) w';rw[hd];refine Aka (k:=k) (by simp) ?_;have hq:Afs P k fn.results.toList (fun v w=>R (.returned v) w) d (.panicking ch) e0 w':=hq;unfold Afs at hq ⊢;split at hq<;>first|exact hq.elim|skip
    obtain⟨hok,hc⟩:=hq;refine⟨hok,hc.mono ?_⟩;rintro x u' w2 ⟨hv,hs,hr⟩;refine⟨hv,hs,Sa (fun r hr=>(hfr _ fun hm=>?_).symm) hr⟩;have:=bN.1 hrs r hr;rw[Xc.2 hm]at this;cases this
   all_goals exact hl.2.2.2.elim
 ·exact hs.elim
end Go.Sx
