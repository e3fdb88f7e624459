import Derived.Test.YtmbppohkadmjgaaGreatRows
import Derived.Test.YtmbppohkadmjgaaGreatHp
import Derived.ProofKit
import Derived.Carry
import Derived.SizedLaws
import Derived.OpenShut
namespace Go.Sx
open Go.ChangeShapes Go.WideShapes Go.ChangeAt Go.RowKit
theorem Afc{H:Type}{enc:TypeId×Value->H}{P:Program}(hl:laidOutB P=true){W W':World}(hb:Below W.heap.size W W'):∀ {ts:List TypeId} {vs:List Value} {ds:List (DataW H)} {ps:List MemPlace},(∀t∈ts,P.readableRec t=true/\t<P.types.size)->
  DataW.TrodAll enc P W 0 (fun _=>true) true ts vs ds ps->(∀x∈ps,x.block<W.heap.size)->
  DataW.TrodAll enc P W' 0 (fun b=>decide (b<W.heap.size)) true ts vs ds ps
 | [],[],[],ps,_,h,_=>h
 |t::ts,v::vs,d::ds,ps,hr,h,hlt=>by
  obtain⟨p,q,h1,h2,rfl⟩:=h;exact⟨p,q,Below.trod hl (hr t (by simp)).1 (hr t (by simp)).2 h1 hb (fun x hx=>hlt x (by simp[hx])),Afc hl hb (fun t ht=>hr t (by simp[ht])) h2 (fun x hx=>hlt x (by simp[hx])),rfl⟩
 | [],[],_::_,_,_,h,_=>h.elim
 | [],_::_,_,_,_,h,_=>h.elim
 |_::_,[],_,_,_,h,_=>h.elim
 |_::_,_::_,[],_,_,h,_=>h.elim
theorem Acw{H:Type}{enc:TypeId×Value->H}{P:Program}{W:World}{base:Nat}{spare:Nat->Bool}{held:Bool}:∀ {ts:List TypeId} {vs:List Value} {ds:List (DataW H)} {ps:List MemPlace},DataW.TrodAll enc P W base spare held ts vs ds ps->ds.length=ts.length/\vs.length=ts.length
 | [],[],[],_,_=>⟨rfl,rfl⟩
 |_::_,_::_,_::_,_,h=>by
  obtain⟨p,q,_,h2,_⟩:=h;have:=Acw h2;simp[this.1,this.2]
 | [],[],_::_,_,h=>h.elim
 | [],_::_,_,_,h=>h.elim
 |_::_,[],_,_,h=>h.elim
 |_::_,_::_,[],_,h=>h.elim
structure LawArgs {H:Type} (enc:TypeId×Value->H) (P:Program) (fn:Func) (W:World) (base:Nat) (args:Array Value) (ds:List (DataW H)) (ps:List MemPlace):Prop where
 ok:∀(j:Nat) t v,fn.params[j]?=some t->args[j]?=some v->Value.okWide P W .any base t v
 trod:DataW.TrodAll enc P W 0 (fun _=>true) true fn.params.toList args.toList ds ps
 reach:(DataW.weightsEach P fn.params.toList ds).all (· <=reachBytes)=true
theorem law_lift{C:Checked}{os:Os}{f:FuncId}{fn:Func}{s:ChangeSpec}{H:Type}{enc:TypeId×Value->H}{T:TypeId}
 (own:ownKnob C.prog.godebug=none) (started:os.Started) (noInit:C.prog.inits.idxOf? f=none) (hfn:C.prog.funcs[f]?=some fn)
 (witness:∃(w:World) (tape:Tape) (i:Input),w.os=os/\(w.forCall tape i).Shaped C.prog/\i.vars=[]/\Input.okWide C.prog (w.forCall tape i) .any w.heap.size f i/\
  s.pre6 enc C.prog fn [] false (w.forCall tape i).memory i.args/\Assume.holds {} C.prog (lone (Frame.enter C.prog f i.args .normal) [] (w.forCall tape i)))
 (hl:laidOutB C.prog=true) (hr:(fn.params.toList.all fun t=>C.prog.readableRec t&&decide (t<C.prog.types.size))=true)
 (hv:s.vars=[]) (hres:fn.resultTypes=#[T]) (hT:C.prog.underlying T=some .bool)
 (hs:∀ds:List (DataW H),ds.length=fn.params.toList.length->(s.fn H ds).results=[.lit (.bool true)]/\(s.fn H ds).args=ds/\(s.fn H ds).vars=[])
 (contract:∀(W:World) (base:Nat) (args:Array Value) (ds:List (DataW H)) (ps:List MemPlace),LawArgs enc C.prog fn W base args ds ps->
  Calls C.prog f args W fun e W'=>e=.returned (.bool true)/\Below W.heap.size W W'):
 ReturnsInHanded {} C os f .any (s.pre6 enc C.prog fn [] false) (s.post enc C.prog fn false true false false):=by
 refine returnsInHanded_of_change_sized own started noInit hfn witness ?_;intro W base args ds gs before hval hW _ hsz _;have hW':=hW;obtain⟨p,q,hA,hV,rfl,hfz,hnd⟩:=hW;rw[hv]at hV;obtain⟨rfl,rfl⟩:=trodVars_none hV;have hlen:=Acw hA;have hvt:s.plain.varTypes C.prog=[]:=by simp[ChangeSpec.plain,hv,WideSpec.plain,DataSpec.varTypes]
 refine(contract W base args ds p ⟨hval,hA,by simpa [hvt] using hsz⟩).mono fun e W' ⟨he,hb⟩=>⟨_,he,?_⟩;obtain⟨e1,e2,e3⟩:=hs ds hlen.1;have hlt:∀x∈p,x.block<W.heap.size:=fun x hx=>hW'.lt x (by simp[hx]);refine⟨ds,[],p++[],[],p,[],hW',?_,?_,?_,?_,fun h=>by cases h⟩
 ·rw[aL,e1,hres];exact trodAll_mk1 (shut_bool hT _)
 ·rw[aL,e2];refine Afc hl hb (fun t ht=>?_) hA hlt;have:=bN.1 hr t ht;simpa using this
 ·rw[aL,e3,hv];rfl
 ·exact hb.frame _
theorem Ba2{H:Type}{enc:TypeId×Value->H}{P:Program}{W:World}{base b0:Nat}{spare:Nat->Bool}{held:Bool}{r:Reach}{t e:TypeId}{k:IntKind}{v:Value}{d:DataW H}{p:List MemPlace}
 (ht:P.underlying t=some (.slice e)) (he:P.underlying e=some (.int k)) (hc:P.cellsOf e=1) (hv:Value.okWide P W r b0 t v) (h:DataW.Trod enc P W base spare held t v d p):
 ∃(a:Option Addr) (c:Nat) (xs:List Int),v=.slice a xs.length c/\SlR (Bp k) 1 W a xs/\(∀i (h:i<xs.length),(Lit.int k xs[i]).wf=true)/\xs.length<=maxLen/\
  ((d=.nil/\xs=[])\/∃rest,d=.slice (xs.map fun n=>.lit (.int k n)) rest):=by
 obtain⟨a0,len,cap,rfl⟩:=okWide_slice ht hv;obtain⟨fuel,hf⟩:=h;rcases open_ints ht he hc hf with ⟨hcs,hx⟩|⟨a,len',cap',zs,hcs,_,hl,hm,hz,hx,hcell,hwz⟩
 ·simp only[Value.cells]at hcs;injection hcs with hcs _
  injection hcs with e1 e2 e3
  subst e1;subst e2;subst e3;simp only[Prod.mk.injEq]at hx;exact⟨none,0,[],rfl,.inl rfl,fun i h=>by simp at h,by simp,.inl ⟨hx.1,rfl⟩⟩
 ·simp only[Value.cells]at hcs;injection hcs with hcs _
  injection hcs with e1 e2 e3
  subst e1;subst e2;subst e3;have hlz:len<=zs.length:=by rw[hz];split<;>omega
  have hlen:(zs.take len).length=len:=by simp;omega
  simp only[Prod.mk.injEq]at hx;refine⟨some a,cap,zs.take len,by rw[hlen],.inr ⟨a,rfl,fun i hi=>?_⟩,fun i hi=>?_,by rw[hlen];omega,.inr ⟨_,hx.1⟩⟩
  ·rw[hlen]at hi;have:=hcell i (by omega);rw[Sv (by omega)]at this;simpa [Bp] using this
  ·exact hwz _ (by simp only[bX];exact aJ _)
def Bdh:Value->Int
 |.int _ n=>n
 |_=>0
theorem open_slc{H:Type}{enc:TypeId×Value->H}{P:Program}{W:World}{base b0:Nat}{spare:Nat->Bool}{held:Bool}{r:Reach}{t e:TypeId}{k:IntKind}{v:Value}{d:DataW H}{p:List MemPlace}
 (ht:P.underlying t=some (.slice e)) (he:P.underlying e=some (.int k)) (hc:P.cellsOf e=1) (hv:Value.okWide P W r b0 t v) (h:DataW.Trod enc P W base spare held t v d p):
 ∃(a:Option Addr) (c:Nat) (xs:List Int),v=.slice a xs.length c/\xs.length<=c/\SlR (Bp k) 1 W a xs/\(∀i (h:i<xs.length),(Lit.int k xs[i]).wf=true)/\xs.length<=maxLen:=by
 obtain⟨a0,c,xs,rfl,h1,h2,h3,_⟩:=Ba2 ht he hc hv h;refine⟨a0,c,xs,rfl,?_,h1,h2,h3⟩;obtain⟨fuel,hf⟩:=h;rcases open_ints ht he hc hf with ⟨hcs,hx⟩|⟨a,len',cap',zs,hcs,_,hl,hm,hz,hx,hcell,hwz⟩
 ·simp only[Value.cells]at hcs;injection hcs with hcs _
  injection hcs with e1 e2 e3
  omega
 ·simp only[Value.cells]at hcs;injection hcs with hcs _
  injection hcs with e1 e2 e3
  omega
end Go.Sx
