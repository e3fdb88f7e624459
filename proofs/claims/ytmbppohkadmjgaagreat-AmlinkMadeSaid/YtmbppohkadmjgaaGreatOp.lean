import Derived.Test.YtmbppohkadmjgaaGreatLift
import Derived.Test.YtmbppohkadmjgaaGreatSt
namespace Go.Sx
open Go.RowKit Go.WideShapes Go.ChangeShapes Go.ChangeAt
inductive Shape where
 |int (k:IntKind)
 |bool
 |sl (sz:Nat) (s:Shape)
 |nil
 |cons (n:Nat) (s:Shape) (rest:Shape)
def Shape.R(w:World):Shape->List Value->Prop
 |.int k,cs=>∃n,cs=[.int k n]/\(Lit.int k n).wf=true
 |.bool,cs=>∃b,cs=[.bool b]
 |.sl sz s,cs=>∃a l c,cs=[.slice a l c]/\l<=c/\c<=maxLen/\(0<l->∃b,a=some b/\∀i,i<l->∃es,cellsAt w (b.add (i*sz)) 0 es/\es.length=sz/\s.R w es)
 |.nil,cs=>cs=[]
 |.cons n s rest,cs=>s.R w (cs.take n)/\rest.R w (cs.drop n)
mutual
def Shape.ok(P:Program):Shape->TypeId->Bool
 |.int k,t=>match P.underlying t with|some (.int k')=>decide (k=k')|_=>false
 |.bool,t=>match P.underlying t with|some .bool=>true|_=>false
 |.sl sz s,t=>match P.underlying t with|some (.slice e)=>Nat.beq (P.cellsOf e) sz&&s.ok P e|_=>false
 |.nil,t=>match P.underlying t with|some (.struct fs)=>fs.toList.isEmpty&&Nat.beq 0 (P.cellsOf t)|_=>false
 |.cons n s rest,t=>match P.underlying t with
  |some (.struct fs)=>(match fs.toList with
   |f::fs=>Nat.beq f.offset 0&&Nat.beq (P.cellsOf f.type) n&&s.ok P f.type&&rest.okF P fs n (P.cellsOf t)
   | []=>false)
  |_=>false
def Shape.okF(P:Program):Shape->List Field->Nat->Nat->Bool
 |.nil,[],off,tot=>Nat.beq off tot
 |.cons n s rest,f::fs,off,tot=>Nat.beq f.offset off&&Nat.beq (P.cellsOf f.type) n&&s.ok P f.type&&rest.okF P fs (off+n) tot
 |_,_,_,_=>false
end
theorem An7{w:World}{a:Addr}:∀ {es:List Value} {i:Nat},(∀j,j<es.length->w.cell? (a.add (i+j))=es[j]?)->cellsAt w a i es
 | [],_,_=>trivial
 |v::vs,i,h=>⟨by simpa using h 0 (by simp),An7 fun j hj=>by
  have:=h (j+1) (by simp;omega);rw[show i+1+j=i+(j+1) by omega,this];simp⟩
theorem Tg{H:Type}{enc:TypeId×Value->H}{P:Program}{w:World}{base:Nat}{spare:Nat->Bool}{held:Bool}:∀(sh:Shape),
 (∀(t:TypeId) (fuel:Nat) (cs:List Value) (x:DataW H×List MemPlace),sh.ok P t=true->DataW.trod enc P w base spare held fuel t cs=some x->sh.R w cs)/\
 (∀(fs:List Field) (off tot n:Nat) (cs:List Value),sh.okF P fs off tot=true->cs.length=tot->(∀f∈fs,∃y,DataW.trod enc P w base spare held n f.type ((cs.drop f.offset).take (P.cellsOf f.type))=some y)->sh.R w (cs.drop off))
 |.int k=>by
  refine⟨fun t fuel cs x hok h=>?_,fun fs off tot n cs hok=>by simp[Shape.okF]at hok⟩;simp only[Shape.ok]at hok;split at hok
  ·rename_i k' hu;have:=of_decide_eq_true hok;subst this;obtain⟨n,rfl,_,hw⟩:=DataW.trod_int hu h;exact⟨n,rfl,hw⟩
  ·cases hok
 |.bool=>by
  refine⟨fun t fuel cs x hok h=>?_,fun fs off tot n cs hok=>by simp[Shape.okF]at hok⟩;simp only[Shape.ok]at hok;split at hok
  ·rename_i hu;obtain⟨b,rfl,_⟩:=DataW.trod_bool hu h;exact⟨b,rfl⟩
  ·cases hok
 |.sl sz s=>by
  refine⟨fun t fuel cs x hok h=>?_,fun fs off tot n cs hok=>by simp[Shape.okF]at hok⟩;have ih:=(Tg (enc:=enc) (P:=P) (w:=w) (base:=base) (spare:=spare) (held:=held) s).1;simp only[Shape.ok]at hok;split at hok
  ·rename_i e hu;simp only[aH]at hok;have hsz:=bO hok.1;rcases DataW.trod_slice hu h with ⟨rfl,_⟩|⟨a,len,cap,elems,rest,n,_,rfl,_,_,hl,hm,hlen,hel,_,_⟩
   ·exact⟨none,0,0,rfl,aG _,aX _,fun h=>by omega⟩
   ·refine⟨some a,len,cap,rfl,hl,hm,fun _=>⟨a,rfl,fun i hi=>?_⟩⟩;have h1:=hel i hi;rw[List.getElem?_eq_getElem (by omega),Option.bind_eq_some_iff]at h1;obtain⟨es,hes,ht⟩:=h1;obtain⟨_,h3,h4⟩:=World.cells?_some hes;rw[hsz]at h3 h4;refine⟨es,An7 fun j hj=>?_,h3,ih e n es _ hok.2 ht⟩;rw[aN];exact h4 j (by omega)
  ·cases hok
 |.nil=>by
  refine⟨fun t fuel cs x hok h=>?_,fun fs off tot n cs hok hl hf=>?_⟩
  ·simp only[Shape.ok]at hok;split at hok
   ·rename_i fs hu;simp only[aH]at hok;obtain⟨xs,n,_,_,hl,_⟩:=DataW.trod_struct hu h;have:=bO hok.2;exact aK (by omega)
   ·cases hok
  ·cases fs with
   |nil=>
    simp only[Shape.okF]at hok;have:=bO hok;exact bZ (by omega)
   |cons f fs=>simp[Shape.okF]at hok
 |.cons k s rest=>by
  have ih1:=Tg (enc:=enc) (P:=P) (w:=w) (base:=base) (spare:=spare) (held:=held) s;have ih2:=Tg (enc:=enc) (P:=P) (w:=w) (base:=base) (spare:=spare) (held:=held) rest;have step:∀(fs:List Field) (off tot n:Nat) (cs:List Value),(Shape.cons k s rest).okF P fs off tot=true->cs.length=tot->(∀f∈fs,∃y,DataW.trod enc P w base spare held n f.type ((cs.drop f.offset).take (P.cellsOf f.type))=some y)->(Shape.cons k s rest).R w (cs.drop off):=by
   intro fs off tot n cs hok hl hf;cases fs with
   |nil=>simp[Shape.okF]at hok
   |cons f fs=>
    simp only[Shape.okF,aH]at hok;obtain⟨⟨⟨h1,h2⟩,h3⟩,h4⟩:=hok;have h1:=bO h1;have h2:=bO h2;obtain⟨y,hy⟩:=hf f (by simp);rw[h1,h2]at hy;refine⟨ih1.1 f.type n _ y h3 hy,?_⟩;have:=ih2.2 fs (off+k) tot n cs h4 hl fun g hg=>hf g (by simp[hg]);rw[List.drop_drop];exact this
  refine⟨fun t fuel cs x hok h=>?_,step⟩;simp only[Shape.ok]at hok;split at hok
  ·rename_i fs hu;obtain⟨xs,n,_,_,hl,hlen,hfs⟩:=DataW.trod_struct hu h;split at hok
   ·rename_i f fs' hfl;have hok2:(Shape.cons k s rest).okF P (f::fs') 0 (P.cellsOf t)=true:=by simpa [Shape.okF] using hok
    have:=step (f::fs') 0 (P.cellsOf t) n cs hok2 hl fun g hg=>by
     rw[<-hfl]at hg;obtain⟨i,hi⟩:=List.getElem?_of_mem hg;have hi':fs[i]?=some g:=by simpa using hi
     have h5:=hfs i g hi';have hlt:i<xs.length:=by rw[hlen];exact(Array.getElem?_eq_some_iff.1 hi').1
     rw[List.getElem?_eq_getElem hlt]at h5;exact⟨_,h5⟩
    simpa using this
   ·cases hok
  ·cases hok
theorem open_shape{H:Type}{enc:TypeId×Value->H}{P:Program}{W:World}{base b0:Nat}{spare:Nat->Bool}{held:Bool}{r:Reach}{t:TypeId}{fs:Array Field}{v:Value}{d:DataW H}{p:List MemPlace}(sh:Shape)
 (ht:P.underlying t=some (.struct fs)) (hs:sh.ok P t=true) (hv:Value.okWide P W r b0 t v) (h:DataW.Trod enc P W base spare held t v d p):∃cs,v=.agg cs/\sh.R W cs.toList:=by
 obtain⟨cs,rfl,_⟩:=okWide_struct ht hv;obtain⟨fuel,hf⟩:=h;exact⟨cs,rfl,(Tg sh).1 t fuel _ _ hs hf⟩
theorem open_shapeS{H:Type}{enc:TypeId×Value->H}{P:Program}{W:World}{base b0:Nat}{spare:Nat->Bool}{held:Bool}{r:Reach}{t e:TypeId}{v:Value}{d:DataW H}{p:List MemPlace}(sz:Nat)(sh:Shape)
 (ht:P.underlying t=some (.slice e)) (hs:(Shape.sl sz sh).ok P t=true) (hv:Value.okWide P W r b0 t v) (h:DataW.Trod enc P W base spare held t v d p):
 ∃a l c,v=.slice a l c/\l<=c/\c<=maxLen/\(0<l->∃b,a=some b/\∀i,i<l->∃es,cellsAt W (b.add (i*sz)) 0 es/\es.length=sz/\sh.R W es):=by
 obtain⟨a0,l0,c0,rfl⟩:=okWide_slice ht hv;obtain⟨fuel,hf⟩:=h;obtain⟨a,l,c,he,h1,h2,h3⟩:=(Tg (.sl sz sh)).1 t fuel _ _ hs hf;have e:[Value.slice a0 l0 c0]=[.slice a l c]:=he;injection e with e _
 exact⟨a,l,c,e,h1,h2,h3⟩
theorem Abl{α:Type}{Q:Nat->α->Prop}:∀(n:Nat),(∀i,i<n->∃x,Q i x)->∃xs:List α,xs.length=n/\∀i (h:i<xs.length),Q i xs[i]
 |0,_=>⟨[],rfl,fun i h=>by simp at h⟩
 |n+1,h=>by
  obtain⟨xs,hl,hx⟩:=Abl n fun i hi=>h i (by omega);obtain⟨x,hq⟩:=h n (by omega);refine⟨xs++[x],by simp[hl],fun i hi=>?_⟩;by_cases hlt:i<xs.length
  ·rw[eE hlt];exact hx i hlt
  ·have:i=n:=by simp at hi;omega
   subst this;have e:(xs++[x])[i]=x:=by simp[List.getElem_append,hl]
   rw[e];exact hq
end Go.Sx
