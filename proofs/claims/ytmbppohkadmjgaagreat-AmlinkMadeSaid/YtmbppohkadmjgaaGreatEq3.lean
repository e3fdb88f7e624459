import Derived.Test.YtmbppohkadmjgaaGreatHp
import Derived.ChangeKeysEq
namespace Go.Sx
theorem Afb{P:Program}(d:Nat)(e:TypeId)(k k':IntKind)(he:P.underlying e=some (.int k'))(hk:P.plainKey e=true)(w:World):∀(fs:List Field) (xs ys:List Int) (A B:Array Value) (o:Nat),
 fs.map (fun f=>(f.name != "_",f.type,f.offset))=(List.range' o xs.length).map (fun i=>(true,e,i))→ys.length=xs.length→(∀i (h:i<xs.length),A[o+i]?=some (.int k xs[i]))→(∀i (h:i<ys.length),B[o+i]?=some (.int k ys[i]))→
 (Op.eqFields (d+1) A B fs).run P w=.ok (decide (xs=ys)) w
 |fs,[],ys,A,B,o,hf,hl,_,_=>by
  obtain rfl:fs=[]:=by simpa using hf
  obtain rfl:ys=[]:=aK hl;simp[Op.eqFields]
 | [],x::xs,ys,A,B,o,hf,_,_,_=>by simp at hf
 |f::fs,x::xs,[],A,B,o,hf,hl,_,_=>by simp at hl
 |f::fs,x::xs,y::ys,A,B,o,hf,hl,hA,hB=>by
  simp only[bS,aQ,List.range'_succ,List.cons.injEq,Prod.mk.injEq]at hf;obtain⟨⟨h1,h2,h3⟩,h4⟩:=hf;have ih:=Afb d e k k' he hk w fs xs ys A B (o+1) h4 (by simpa using hl) (fun i h=>by have:=hA (i+1) (by simpa using h);rw[show o+1+i=o+(i+1) by omega];simpa using this) (fun i h=>by have:=hB (i+1) (by simpa using h);rw[show o+1+i=o+(i+1) by omega];simpa using this);have p1:=run_part_plain (P:=P) w hk (xs:=A) (off:=o) (by simpa using hA 0 (by simp));have p2:=run_part_plain (P:=P) w hk (xs:=B) (off:=o) (by simpa using hB 0 (by simp));have hn:f.name≠ "_" :=by simpa using h1
  have h5:=run_equalIn_int (P:=P) w d e k k' x y he;simp only[Op.eqFields,hn,ne_eq,not_false_eq_true,dO,Sem.run_bind,h2,h3,p1,p2,Result.andThen_ok,h5];by_cases hxy:x=y
  ·subst hxy;simp[ih,h5]
  ·simp[hxy,h5]
theorem Auu{P:Program}{t e:TypeId}{k k':IntKind}(ht:P.underlying t=some (.struct (P.fieldsOf t)))(hp:P.stoodInHeld t=false)(hg:P.eqGuardType P.depth t=false)(he:P.underlying e=some (.int k'))(hk:P.plainKey e=true)
 {xs ys:List Int} (hf:(P.fieldsOf t).toList.map (fun f=>(f.name != "_",f.type,f.offset))=(List.range' 0 xs.length).map (fun i=>(true,e,i))) (hl:ys.length=xs.length)
 {x y:Operand} {F:Bool→Prop} (hF:F (!decide (xs=ys))):EqP P .neq t x y (.agg (xs.map (Value.int k)).toArray) (.agg (ys.map (Value.int k)).toArray) F:=by
 refine⟨_,fun w=>?_,hF⟩;have h1:=run_eqGuard_agg (P:=P) w .neq t x y (xs.map (Value.int k)).toArray (ys.map (Value.int k)).toArray hg;rw[Cb h1,run_neq_struct,run_equalIn_struct w 9999 _ _ _ ht hp,Afb 9998 e k k' he hk w _ xs ys _ _ 0 hf hl (fun i h=>by simp[h]) (fun i h=>by simp[h])];rfl
end Go.Sx
