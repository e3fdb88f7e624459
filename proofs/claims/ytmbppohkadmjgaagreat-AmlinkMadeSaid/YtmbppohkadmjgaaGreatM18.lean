import Derived.Test.YtmbppohkadmjgaaGreatBl
import Derived.Test.YtmbppohkadmjgaaGreatForms
import Derived.Test.YtmbppohkadmjgaaGreatTys
import Derived.Test.YtmbppohkadmjgaaGreatSt
import Derived.Test.YtmbppohkadmjgaaGreatBt
import Derived.Test.YtmbppohkadmjgaaGreatEl
import Derived.Test.YtmbppohkadmjgaaGreatEq3
import Derived.Test.YtmbppohkadmjgaaGreatAz0
import Derived.Test.YtmbppohkadmjgaaGreatHp
import Derived.Test.YtmbppohkadmjgaaGreatEl2
import Derived.Recover
namespace Go.Sx
structure Pc where
 sn:Int
 part:Int
 poll:Int
 off:Int
 data:List Int
def Pc.zero:Pc:=⟨0,0,0,0,[]⟩
def Sh(part:Int):Bool:=decide (part=0\/part=1)
def Agr(part:Int):Bool:=decide (part=0\/part=2)
def headN(part:Int):Nat:=if part=0\/part=1 then 2 else 4
def Bv(b:Int):Prop:=5<=b/\b<=9
instance (b:Int):Decidable (Bv b):=inferInstanceAs (Decidable (_/\_))
def pOk(b sn part poll off:Int)(n:Nat):Prop:=
 Bv b/\(0<=sn/\sn<2^b.toNat)/\(0<=part/\part<=3)/\(0<=poll/\poll<=1)/\((part=0\/part=1)↔off=0)/\(0<=off/\off<=2054)/\1<=n/\off+n<=2054
instance (b sn part poll off:Int) (n:Nat):Decidable (pOk b sn part poll off n):=inferInstanceAs (Decidable (_/\_))
def Pc.ok(b:Int)(p:Pc):Prop:=pOk b p.sn p.part p.poll p.off p.data.length
instance (b:Int) (p:Pc):Decidable (p.ok b):=inferInstanceAs (Decidable (pOk _ _ _ _ _ _))
theorem Cm{b:Int}(h:Bv b):((2:Int)^b.toNat=32\/(2:Int)^b.toNat=64\/(2:Int)^b.toNat=128\/(2:Int)^b.toNat=256\/(2:Int)^b.toNat=512):=by
 obtain⟨h1,h2⟩:=h;rcases (show b=5\/b=6\/b=7\/b=8\/b=9 by omega)with rfl|rfl|rfl|rfl|rfl<;>decide
def Pc.first(p:Pc):Int:=32768+16384*p.poll+4096*p.part+p.sn
def Pc.bytes(p:Pc):List Int:=[p.first/256,p.first%256]++(if p.part=0\/p.part=1 then [] else [p.off/256,p.off%256])++p.data
theorem Pc.first_range{b:Int}{p:Pc}(h:p.ok b):32768<=p.first/\p.first<65536:=by
 obtain⟨hb,h1,h2,h3,_⟩:=h;have:=Cm hb;unfold Pc.first;omega
def Qq(b:Int)(p:Pc):List Int×Int:=if p.ok b then (p.bytes,0) else ([],1)
def Kb(bs:List Int):Pc:=
 let f:=256*bs.getD 0 0+bs.getD 1 0
 let part:=f/4096%4
 ⟨f%4096,part,f/16384%2,if part=0\/part=1 then 0 else 256*bs.getD 2 0+bs.getD 3 0,bs.drop (headN part)⟩
def Ip(b:Int)(bs:List Int):Pc×Int:=
 if ¬Bv b then (.zero,3) else if bs.length<2 then (.zero,5) else if bs.length<=headN (Kb bs).part then (.zero,5)
 else if bs.getD 0 0<128\/¬(Kb bs).ok b then (.zero,4) else (Kb bs,0)
def Jb(first last:Bool):Int:=if first then (if last then 0 else 1) else (if last then 2 else 3)
def Hz(b:Int)(p:Pc)(size:Int):Pc×Pc×Int:=
 if ¬p.ok b then (.zero,.zero,1) else if size<headN p.part+1 then (.zero,.zero,15)
 else if headN p.part+p.data.length<=size then (p,.zero,0)
 else (⟨p.sn,Jb (Sh p.part) false,p.poll,p.off,p.data.take (size-headN p.part).toNat⟩,
  ⟨p.sn,Jb false (Agr p.part),p.poll,p.off+(size-headN p.part),p.data.drop (size-headN p.part).toNat⟩,0)
structure Rg where
 sn:Int
 f:Int
 t:Int
deriving DecidableEq
def Cc(prev:Int):List Rg->Bool
 | []=>true
 |r::l=>decide (prev<r.f/\r.f<r.t)&&Cc r.t l
theorem Agb(p:Int)(l:List Rg)(k:Nat)(h:k<l.length):Cc p (l.drop k)=(decide (p<l[k].f/\l[k].f<l[k].t)&&Cc l[k].t (l.drop (k+1))):=by
 rw[aR h];rfl
def prevT(l:List Rg):Nat->Int
 |0=>-1
 |k+1=>(l[k]?.map (·.t)).getD (-1)
theorem Lf{l:List Rg}{k:Nat}(h:k<l.length):prevT l (k+1)=l[k].t:=by
 simp[prevT,List.getElem?_eq_getElem h]
def Cn(sn:Int):List Rg->Int->Int->List Rg
 | [],f,t=>[⟨sn,f,t⟩]
 |x::l,f,t=>if x.t<f then ⟨sn,x.f,x.t⟩::Cn sn l f t else if x.f>t then ⟨sn,f,t⟩::(x::l).map fun y=>⟨sn,y.f,y.t⟩ else Cn sn l (if x.f<f then x.f else f) (if x.t>t then x.t else t)
def gapsS(sn:Int):List Rg->Int->Int->List Rg
 | [],at_,len=>if at_<len then [⟨sn,at_,len⟩] else []
 |x::l,at_,len=>if x.f>at_ then ⟨sn,at_,x.f⟩::gapsS sn l x.t len else gapsS sn l x.t len
def Qk(k:Int)(l:List Rg):Bool:=l.any fun r=>decide (r.f<=k/\k<r.t)
def Aac(sn:Int):List Rg->Int->List Rg
 | [],_=>[]
 |x::l,at_=>if x.f>at_ then ⟨sn,at_,x.f⟩::Aac sn l x.t else Aac sn l x.t
theorem Aq4(sn len:Int):∀(l:List Rg) (at_:Int),Aac sn (l++[⟨0,len,len⟩]) at_=gapsS sn l at_ len
 | [],at_=>by simp[Aac,gapsS]
 |x::l,at_=>by
  simp only[aD,Aac,gapsS,Aq4 sn len l]
theorem Awk(sn:Int)(l:List Rg)(k:Nat)(at_:Int)(h:k<l.length):Aac sn (l.drop k) at_=if l[k].f>at_ then ⟨sn,at_,l[k].f⟩::Aac sn (l.drop (k+1)) l[k].t else Aac sn (l.drop (k+1)) l[k].t:=by
 rw[aR h];rfl
theorem Av6(sn len:Int)(l:List Rg)(k:Nat)(at_:Int)(h:k<l.length):gapsS sn (l.drop k) at_ len=if l[k].f>at_ then ⟨sn,at_,l[k].f⟩::gapsS sn (l.drop (k+1)) l[k].t len else gapsS sn (l.drop (k+1)) l[k].t len:=by
 rw[aR h];rfl
def sn_(sn:Int)(y:Rg):Rg:=⟨sn,y.f,y.t⟩
theorem Vh(sn:Int)(l:List Rg)(k:Nat)(f t:Int)(h:k<l.length):Cn sn (l.drop k) f t=if l[k].t<f then sn_ sn l[k]::Cn sn (l.drop (k+1)) f t else if l[k].f>t then ⟨sn,f,t⟩::(sn_ sn l[k]::(l.drop (k+1)).map (sn_ sn)) else Cn sn (l.drop (k+1)) (if l[k].f<f then l[k].f else f) (if l[k].t>t then l[k].t else t):=by
 rw[aR h];rfl
def Ou(l:List Rg)(r:Rg):List Rg×Int:=if Cc (-1) l=false\/Cc (-1) [r]=false then ([],4) else (Cn r.sn l r.f r.t,0)
def UnionI(sn:Int)(l:List Rg)(f0 t0:Int)(k:Nat)(before behind:List Rg)(f t:Int):Prop:=
 f<t/\before.length+behind.length<=k/\ -1<=prevT l k/\Cc (prevT l k) (l.drop k)=true/\
 ((behind=[]/\Cn sn l f0 t0=before++Cn sn (l.drop k) f t)\/(Cn sn l f0 t0=before++⟨sn,f,t⟩::(behind++(l.drop k).map (sn_ sn))/\t<prevT l k))
theorem UnionI.step{sn:Int}{l:List Rg}{f0 t0:Int}{k:Nat}{before behind:List Rg}{f t:Int}(h:UnionI sn l f0 t0 k before behind f t)(hlt:k<l.length):(l[k].t<f->UnionI sn l f0 t0 (k+1) (before++[sn_ sn l[k]]) behind f t)/\(¬l[k].t<f->l[k].f>t->UnionI sn l f0 t0 (k+1) before (behind++[sn_ sn l[k]]) f t)/\
 (¬l[k].t<f->¬l[k].f>t->UnionI sn l f0 t0 (k+1) before behind (if l[k].f<f then l[k].f else f) (if l[k].t>t then l[k].t else t)):=by
 obtain⟨h1,h2,h3,h4,h5⟩:=h;have hp:=Lf hlt;rw[Agb _ _ _ hlt,aH,aV]at h4;obtain⟨⟨n1,n2⟩,n3⟩:=h4;have hm:(l.drop k).map (sn_ sn)=sn_ sn l[k]::(l.drop (k+1)).map (sn_ sn):=by rw[aR hlt];rfl
 rw[Vh _ _ _ _ _ hlt,hm]at h5;refine⟨fun c=>⟨h1,by simp;omega,by omega,by rw[hp];exact n3,?_⟩,fun c d=>⟨h1,by simp;omega,by omega,by rw[hp];exact n3,?_⟩,fun c d=>⟨by split<;>split<;>omega,by omega,by omega,by rw[hp];exact n3,?_⟩⟩
 ·rcases h5 with ⟨rfl,h5⟩|⟨h5,h6⟩
  ·rw[aF c]at h5;left;exact⟨rfl,by rw[h5];simp⟩
  ·omega
 ·right;rw[hp];rcases h5 with ⟨rfl,h5⟩|⟨h5,h6⟩
  ·rw[aE c,aF d]at h5;exact⟨by rw[h5];simp,by omega⟩
  ·exact⟨by rw[h5];simp,by omega⟩
 ·rcases h5 with ⟨rfl,h5⟩|⟨h5,h6⟩
  ·rw[aE c,aE d]at h5;left;exact⟨rfl,h5⟩
  ·omega
theorem UnionI.done{sn:Int}{l:List Rg}{f0 t0:Int}{before behind:List Rg}{f t:Int}(h:UnionI sn l f0 t0 l.length before behind f t):Cn sn l f0 t0=before++⟨sn,f,t⟩::behind:=by
 obtain⟨h1,h2,h3,h4,h5⟩:=h;rw[bU]at h5;rcases h5 with ⟨rfl,h5⟩|⟨h5,h6⟩
 ·rw[h5];rfl
 ·rw[h5];simp
theorem UnionI.zero{sn:Int}{l:List Rg}{f0 t0:Int}(h:f0<t0)(hn:Cc (-1) l=true):UnionI sn l f0 t0 0 [] [] f0 t0:=
 ⟨h,by simp,bV _,by simpa [prevT] using hn,.inl ⟨rfl,by simp⟩⟩
def Alj(l:List Rg)(sn len:Int):List Rg×Int:=
 if Cc (-1) l=false then ([],4) else if len<0\/(0<l.length/\len<prevT l l.length) then ([],3) else (gapsS sn l 0 len,0)
theorem Av7{sn:Int}{l:List Rg}{k:Nat}{f t:Int}(hlt:k<l.length)(h:l[k].t<f):Cn sn (l.drop k) f t=sn_ sn l[k]::Cn sn (l.drop (k+1)) f t:=by
 rw[Vh _ _ _ _ _ hlt,aF h]
theorem Awj{sn:Int}{l:List Rg}{k:Nat}{f t:Int}(hlt:k<l.length)(h:¬l[k].t<f)(h2:l[k].f<=t):Cn sn (l.drop k) f t=Cn sn (l.drop (k+1)) (if l[k].f<f then l[k].f else f) (if l[k].t>t then l[k].t else t):=by
 rw[Vh _ _ _ _ _ hlt,aE h,aE (by omega)]
theorem Aoe{sn:Int}{l:List Rg}{k:Nat}{f t:Int}(h:∀hlt:k<l.length,¬l[k].t<f/\l[k].f>t):Cn sn (l.drop k) f t=⟨sn,f,t⟩::(l.drop k).map (sn_ sn):=by
 rcases aT k l.length with hlt|hge
 ·obtain⟨h1,h2⟩:=h hlt;rw[Vh _ _ _ _ _ hlt,aE h1,aF h2,aR hlt];rfl
 ·rw[bZ hge];rfl
theorem Ba1{l:List Rg}(h:Cc (-1) l=true):∀k (hk:k<l.length),l[k].f<l[k].t/\∀hk2:k+1<l.length,l[k].t<l[k+1].f:=by
 have key:∀(l:List Rg) (p:Int),Cc p l=true->∀k (hk:k<l.length),l[k].f<l[k].t/\∀hk2:k+1<l.length,l[k].t<l[k+1].f:=by
  intro l;induction l with
  |nil=>intro p _ k hk;simp at hk
  |cons x l ih=>
   intro p hn k hk;simp only[Cc,aH,aV]at hn;cases k with
   |zero=>
    refine⟨hn.1.2,fun hk2=>?_⟩;cases l with
    |nil=>simp at hk2
    |cons y l=>
     have:=hn.2;simp only[Cc,aH,aV]at this;exact this.1.1
   |succ k=>
    have:=ih _ hn.2 k (by simpa using hk);exact⟨this.1,fun hk2=>this.2 (by simpa using hk2)⟩
 exact key l _ h
def Ae7(p:Int):List Rg->Int
 | []=>p
 |x::l=>Ae7 x.t l
theorem Afi(x:Rg):∀(l:List Rg) (p:Int),Ae7 p (l++[x])=x.t
 | [],_=>rfl
 |y::l,_=>Afi x l y.t
theorem Lv(k:Int)(x:Rg)(l:List Rg):Qk k (x::l)=(decide (x.f<=k/\k<x.t)||Qk k l):=rfl
theorem Ayu(k sn:Int)(l:List Rg):Qk k (l.map fun y=>⟨sn,y.f,y.t⟩)=Qk k l:=by
 induction l with
 |nil=>rfl
 |cons x l ih=>rw[bS,Lv,Lv,ih]
theorem Ayc(sn:Int)(l:List Rg)(p:Int):Cc p (l.map fun y=>⟨sn,y.f,y.t⟩)=Cc p l:=by
 induction l generalizing p with
 |nil=>rfl
 |cons x l ih=>simp only[bS,Cc,ih]
theorem Ex{p:Int}{x:Rg}{l:List Rg}:Cc p (x::l)=true↔(p<x.f/\x.f<x.t)/\Cc x.t l=true:=by
 simp only[Cc,aH,aV]
theorem Adu{p q:Int}{l:List Rg}(h:Cc p l=true)(hq:q<=p):Cc q l=true:=by
 cases l with
 |nil=>rfl
 |cons x l=>rw[Ex]at h ⊢;exact⟨⟨by omega,h.1.2⟩,h.2⟩
theorem Bax{p k:Int}{l:List Rg}(h:Cc p l=true)(hk:k<=p):Qk k l=false:=by
 induction l generalizing p with
 |nil=>rfl
 |cons x l ih=>
  rw[Ex]at h;rw[Lv,ih h.2 (by omega),aI (by omega)];rfl
theorem Zg(sn:Int):∀(l:List Rg) (p f t:Int),Cc p l=true->p<f->f<t->Cc p (Cn sn l f t)=true
 | [],p,f,t,_,hf,ht=>by simp[Cn,Cc,hf,ht]
 |x::l,p,f,t,h,hf,ht=>by
  rw[Ex]at h;unfold Cn;split
  ·rename_i c;rw[Ex];exact⟨h.1,Zg sn l x.t f t h.2 c ht⟩
  ·split
   ·rename_i c d;rw[Ex];refine⟨⟨hf,ht⟩,?_⟩;rw[Ayc,Ex];exact⟨⟨by simp only;omega,h.1.2⟩,h.2⟩
   ·refine Zg sn l p _ _ (Adu h.2 (by omega)) ?_ ?_
    ·split<;>omega
    ·split<;>split<;>omega
theorem Xn(sn k:Int):∀(l:List Rg) (f t:Int),f<t->(∀x∈l,x.f<x.t)->Qk k (Cn sn l f t)=(decide (f<=k/\k<t)||Qk k l)
 | [],f,t,_,_=>by simp[Cn,Qk]
 |x::l,f,t,ht,hx=>by
  have h1:=hx x (by simp);have h2:∀y∈l,y.f<y.t:=fun y hy=>hx y (by simp[hy]);unfold Cn;split
  ·rw[Lv,Xn sn k l f t ht h2,Lv];cases decide (f<=k/\k<t)<;>cases decide (x.f<=k/\k<x.t)<;>rfl
  ·split
   ·rw[Lv,Ayu]
   ·rename_i c d;rw[Xn sn k l _ _ (by split<;>split<;>omega) h2,Lv,<-Bool.or_assoc];congr 1;rw[<-Bool.decide_or,bT];split<;>split<;>omega
theorem Atr(sn k len:Int):∀(l:List Rg) (at_:Int),Cc (at_-1) l=true->(∀x∈l,x.t<=len)->Qk k (gapsS sn l at_ len)=(decide (at_<=k/\k<len)&& !Qk k l)
 | [],at_,_,_=>by
  unfold gapsS;split
  ·simp[Qk]
  ·rw[aI (by omega)];rfl
 |x::l,at_,h,hx=>by
  rw[Ex]at h;have h1:=hx x (by simp);have ih:=Atr sn k len l x.t (Adu h.2 (by omega)) fun y hy=>hx y (by simp[hy]);have e:Qk k (gapsS sn (x::l) at_ len)=(decide (at_<=k/\k<x.f)||(decide (x.t<=k/\k<len)&& !Qk k l)):=by
   unfold gapsS;split
   ·rw[Lv,ih]
   ·rw[ih,aI (show ¬(at_<=k/\k<x.f) by omega),Bool.false_or]
  rw[e,Lv];by_cases c:k<=x.t
  ·rw[Bax h.2 c];simp only[Bool.not_false,eG,Bool.or_false];rw[<-decide_not,<-Bool.decide_or,<-Bool.decide_and,bT];omega
  ·rw[aI (show ¬(at_<=k/\k<x.f) by omega),aI (show ¬(x.f<=k/\k<x.t) by omega),Bool.false_or,Bool.false_or];congr 1;rw[bT];omega
theorem Xy(sn len:Int):∀(l:List Rg) (p at_:Int),Cc (at_-1) l=true->p<at_->Cc p (gapsS sn l at_ len)=true
 | [],p,at_,_,hp=>by
  unfold gapsS;split
  ·rw[Ex];exact⟨⟨hp,by simp only;omega⟩,rfl⟩
  ·rfl
 |x::l,p,at_,h,hp=>by
  rw[Ex]at h;unfold gapsS;split
  ·rw[Ex];exact⟨⟨hp,by simp only;omega⟩,Xy sn len l x.f x.t (Adu h.2 (by omega)) h.1.2⟩
  ·exact Xy sn len l p x.t (Adu h.2 (by omega)) (by omega)
theorem Apm(sn:Int):∀(l:List Rg) (f t:Int),∀x∈Cn sn l f t,x.sn=sn
 | [],f,t,x,hx=>by simp[Cn]at hx;subst hx;rfl
 |y::l,f,t,x,hx=>by
  unfold Cn at hx;split at hx
  ·rcases bB.1 hx with rfl|hx
   ·rfl
   ·exact Apm sn l _ _ x hx
  ·split at hx
   ·rcases bB.1 hx with rfl|hx
    ·rfl
    ·simp only[cZ]at hx;obtain⟨z,_,rfl⟩:=hx;rfl
   ·exact Apm sn l _ _ x hx
theorem Aid(sn len:Int):∀(l:List Rg) (at_:Int),(∀x∈l,x.f<=len)->∀x∈gapsS sn l at_ len,x.t<=len
 | [],at_,_,x,hx=>by
  unfold gapsS at hx;split at hx
  ·simp at hx;subst hx;exact bV _
  ·simp at hx
 |y::l,at_,h,x,hx=>by
  have h2:∀x∈l,x.f<=len:=fun z hz=>h z (by simp[hz]);unfold gapsS at hx;split at hx
  ·rcases bB.1 hx with rfl|hx
   ·exact h y (by simp)
   ·exact Aid sn len l _ h2 x hx
  ·exact Aid sn len l _ h2 x hx
theorem Aoz(sn:Int):∀(l:List Rg) (f t m:Int),(∀x∈l,x.t<=m)->t<=m->∀x∈Cn sn l f t,x.t<=m
 | [],f,t,m,_,ht,x,hx=>by simp[Cn]at hx;subst hx;exact ht
 |y::l,f,t,m,h,ht,x,hx=>by
  have h1:=h y (by simp);have h2:∀x∈l,x.t<=m:=fun z hz=>h z (by simp[hz]);unfold Cn at hx;split at hx
  ·rcases bB.1 hx with rfl|hx
   ·exact h1
   ·exact Aoz sn l _ _ m h2 ht x hx
  ·split at hx
   ·rcases bB.1 hx with rfl|hx
    ·exact ht
    ·simp only[cZ]at hx;obtain⟨z,hz,rfl⟩:=hx;rcases bB.1 hz with rfl|hz
     ·exact h1
     ·exact h2 z hz
   ·exact Aoz sn l _ _ m h2 (by split<;>omega) x hx
theorem Lo:∀(l:List Rg) (p:Int),Cc p l=true->∀x∈l,p<x.f/\x.f<x.t
 | [],_,_,x,hx=>by simp at hx
 |y::l,p,h,x,hx=>by
  rw[Ex]at h;rcases bB.1 hx with rfl|hx
  ·exact h.1
  ·have:=Lo l y.t h.2 x hx;omega
end Go.Sx
namespace Go.Proofs.YtmbppohkadmjgaaGreat
open Go.Sx Go.RowKit
theorem counter_Bits_ct{bits:Int}{w:World}:Calls Tryz.prog Gk #[(.int .i64 bits)] w fun e w'=>e=.returned (.bool (decide (Bv bits)))/\Below w.heap.size w w':=by
 apply Aia;have H:=St.nil w;apply Aa<;>intro c
 ·refine Aw ?_;exact⟨Nq (by unfold Bv;omega),H.below⟩
 ·exact⟨Hd (by unfold Bv;omega),H.below⟩
theorem ref15_Bits_ct{n:Int}{w:World}:Calls Tryz.prog Ja #[(.int .i64 n)] w fun e w'=>e=.returned (.bool (decide (Bv n)))/\Below w.heap.size w w':=by
 apply Alw;have H:=St.nil w;apply Aa<;>intro c
 ·refine Aw ?_;exact⟨Nq (by unfold Bv;omega),H.below⟩
 ·exact⟨Hd (by unfold Bv;omega),H.below⟩
theorem segment_begins_ct{part:Int}{w:World}:Calls Tryz.prog Gg #[(.int .i64 part)] w fun e w'=>e=.returned (.bool (Sh part))/\Below w.heap.size w w':=by
 apply Aef;unfold Sh;have H:=St.nil w;apply Aa<;>intro c
 ·exact⟨Apv (by omega),H.below⟩
 ·refine Aw ?_;exact⟨Nq (by omega),H.below⟩
theorem segment_Ends_ct{part:Int}{w:World}:Calls Tryz.prog Lb #[(.int .i64 part)] w fun e w'=>e=.returned (.bool (Agr part))/\Below w.heap.size w w':=by
 apply Agv;unfold Agr;have H:=St.nil w;apply Aa<;>intro c
 ·exact⟨Apv (by omega),H.below⟩
 ·refine Aw ?_;exact⟨Nq (by omega),H.below⟩
theorem segment_head_ct{part:Int}{w:World}:Calls Tryz.prog Ok #[(.int .i64 part)] w fun e w'=>e=.returned (.int .i64 (headN part:Nat))/\Below w.heap.size w w':=by
 apply Ahs;have H:=St.nil w;refine segment_begins_ct.mono ?_;rintro _ w1 ⟨rfl,hb1⟩;have H1:=H.pass hb1;clear H;refine⟨_,rfl,?_⟩;unfold headN Sh;apply Aa<;>intro c
 ·exact⟨by rw[aF c];rfl,H1.below⟩
 ·exact⟨by rw[aE c];rfl,H1.below⟩
theorem segment_Part_ct{first:Bool}{last:Bool}{w:World}:Calls Tryz.prog Ih #[(.bool first),(.bool last)] w fun e w'=>e=.returned (.int .i64 (Jb first last))/\Below w.heap.size w w':=by
 apply Ahf;refine⟨fun x w1=>w1=w/\x=(first&&last),?_,?_⟩
 ·rintro _ x w1 ⟨rfl,rfl⟩;have H1:=St.nil w1;apply Al<;>intro c3
  ·exact⟨by simp at c3;simp[Jb,c3],H1.below⟩
  ·apply Al<;>intro c2
   ·exact⟨by subst c2;simp at c3;simp[Jb,c3],H1.below⟩
   ·apply Al<;>intro c1
    ·exact⟨by simp[Jb,c1,c2],H1.below⟩
    ·exact⟨by simp[Jb,c1,c2],H1.below⟩
 ·apply Al<;>intro c
  ·exact⟨rfl,by simp[c]⟩
  ·exact⟨rfl,by simp[c]⟩
theorem ref18_Head_ct{part:Int}{w:World}:Calls Tryz.prog Pw #[(.int .i64 part)] w fun e w'=>e=.returned (.int .i64 (headN part:Nat))/\Below w.heap.size w w':=by
 apply Al7;unfold headN;have H:=St.nil w;apply Aa<;>intro c1
 ·exact⟨by rw[aF (by omega)];rfl,H.below⟩
 ·apply Aa<;>intro c
  ·exact⟨by rw[aF (by omega)];rfl,H.below⟩
  ·exact⟨by rw[aE (by omega)];rfl,H.below⟩
section
variable{bits:Int}{p_0:Int}{p_1:Int}{p_2:Int}{p_3:Int}{p_4_a:Option Addr}{p_4_l:Nat}{p_4_c:Nat}{w:World}
theorem Qw(hl:p_4_l<=140737488355328):Calls Tryz.prog Jr #[(.int .i64 bits),(.agg #[.int .i64 p_0,.int .i64 p_1,.int .i64 p_2,.int .i64 p_3,.slice p_4_a p_4_l p_4_c])] w fun e w'=>e=.returned (.bool (decide (pOk bits p_0 p_1 p_2 p_3 p_4_l)))/\Below w.heap.size w w':=by
 apply Afz
 have H:=St.nil w;refine H.alloc ?_;clear H;intro b w1 H1;refine⟨fun x7 w4=>St (fun _=>False) [] w w4 [.blk b Ap [(.int .i64 p_0),(.int .i64 p_1),(.int .i64 p_2),(.int .i64 p_3),(.slice p_4_a p_4_l p_4_c)]] (fun _=>True)/\(x7=true->¬pOk bits p_0 p_1 p_2 p_3 p_4_l)/\(x7=false->Bv bits/\(0<=p_0/\p_0<2^bits.toNat)/\(0<=p_1/\p_1<=3)/\(0<=p_2/\p_2<=1)),?_,?_⟩
 ·rintro _ x7 w4 ⟨H4,hj,hj'⟩;apply Al<;>intro c10
  ·exact⟨Hd (hj c10),H4.below⟩
  ·obtain⟨h1,h2,h3,h4⟩:=hj' c10;have hiff:(decide (pOk bits p_0 p_1 p_2 p_3 p_4_l))=decide (((p_1=0\/p_1=1)↔p_3=0)/\(0<=p_3/\p_3<=2054)/\1<=p_4_l/\p_3+p_4_l<=2054):=by
    unfold pOk;simp[h1,h2,h3,h4]
   rw[hiff];refine⟨fun w7=>St (fun _=>False) [] w w7 [.blk b Ap [(.int .i64 p_0),(.int .i64 p_1),(.int .i64 p_2),(.int .i64 p_3),(.slice p_4_a p_4_l p_4_c)]] (fun _=>True)/\((p_1=0\/p_1=1)↔p_3=0)/\(0<=p_3/\p_3<=2054),?_,?_⟩
   ·rintro _ w7 ⟨H7,hj1,hj2⟩;refine H7.m 0 ?_;apply Aa<;>intro c9
    ·refine H7.m 0 ?_;refine H7.l 0 ?_;refine Ao (by omega) ?_;refine Aw ?_;exact⟨Nq (by omega),H7.below⟩
    ·exact⟨Hd (by omega),H7.below⟩
   ·refine H4.drew ?_;clear H4;intro w5 H5;refine⟨(· <w5.heap.size),?_⟩;refine H5.l 0 ?_;refine⟨H5.lt (i:=0) rfl rfl,?_⟩;refine H5.l 0 ?_;refine segment_begins_ct.mono ?_;rintro _ w6 ⟨rfl,hb6⟩;have H6:=H5.pass hb6;refine⟨_,rfl,?_⟩;refine⟨hb6.keeps,?_⟩;apply Bq<;>intro c8
    ·refine⟨Hd (fun h=>?_),H6.below⟩;unfold Sh at c8;simp only[beq_eq_false_iff_ne,ne_eq,bT]at c8;exact c8 h.1
    ·have c8:((p_1=0\/p_1=1)↔p_3=0):=by
      unfold Sh at c8;simpa only[beq_iff_eq,bT] using c8
     refine⟨H5.lt (i:=0) rfl rfl,?_⟩;refine H5.l 0 ?_;apply Aa<;>intro c7
     ·exact⟨Hd (by omega),H6.below⟩
     ·refine⟨H5.lt (i:=0) rfl rfl,?_⟩;refine H5.l 0 ?_;apply Aa<;>intro c6
      ·exact⟨Hd (by omega),H6.below⟩
      ·exact⟨H6,c8,by omega⟩
 ·refine H1.drew ?_;clear H1;intro w2 H2;refine⟨(· <w2.heap.size),?_⟩;refine counter_Bits_ct.mono ?_;rintro _ w3 ⟨rfl,hb3⟩;have H3:=H2.pass hb3;refine⟨_,rfl,?_⟩;refine⟨hb3.keeps,?_⟩;apply An<;>intro c5
  ·exact⟨H3,fun _ h=>c5 h.1,fun h=>by cases h⟩
  ·have hbn:bits.toNat<=62/\0<=bits:=by unfold Bv at c5;omega
   refine⟨H2.lt (i:=0) rfl rfl,?_⟩;refine H2.l 0 ?_;apply Aa<;>intro c4
   ·exact⟨H3,fun _ h=>by have:=h.2.1;omega,fun h=>by cases h⟩
   ·refine⟨H2.lt (i:=0) rfl rfl,?_⟩;refine H2.l 0 ?_;refine⟨by omega,?_⟩;refine Kv (by omega) ?_;apply Aa<;>intro c3
    ·exact⟨H3,fun _ h=>by have:=h.2.1;omega,fun h=>by cases h⟩
    ·refine⟨H2.lt (i:=0) rfl rfl,?_⟩;refine H2.l 0 ?_;apply Aa<;>intro c2
     ·exact⟨H3,fun _ h=>by have:=h.2.2.1;omega,fun h=>by cases h⟩
     ·refine⟨H2.lt (i:=0) rfl rfl,?_⟩;refine H2.l 0 ?_;apply Aa<;>intro c1
      ·exact⟨H3,fun _ h=>by have:=h.2.2.1;omega,fun h=>by cases h⟩
      ·refine⟨H2.lt (i:=0) rfl rfl,?_⟩;refine H2.l 0 ?_;apply Aa<;>intro c
       ·exact⟨H3,fun _ h=>by have:=h.2.2.2.1;omega,fun h=>by cases h⟩
       ·refine⟨H2.lt (i:=0) rfl rfl,?_⟩;refine H2.l 0 ?_;refine⟨H3,fun h h'=>by have:=h'.2.2.2.1;simp at h;omega,fun h=>⟨c5,by omega,by omega,by simp at h;omega⟩⟩
theorem Ue(hl:p_4_l<=140737488355328):Calls Tryz.prog Mr #[(.int .i64 bits),(.agg #[.int .i64 p_0,.int .i64 p_1,.int .i64 p_2,.int .i64 p_3,.slice p_4_a p_4_l p_4_c])] w fun e w'=>e=.returned (.bool (decide (pOk bits p_0 p_1 p_2 p_3 p_4_l)))/\Below w.heap.size w w':=by
 apply Ajd
 have H:=St.nil w;refine H.alloc ?_;clear H;intro b w1 H1;refine⟨fun x12 w3=>St (fun _=>False) [] w w3 [.blk b Ap [(.int .i64 p_0),(.int .i64 p_1),(.int .i64 p_2),(.int .i64 p_3),(.slice p_4_a p_4_l p_4_c)]] (fun _=>True)/\(x12=true->¬pOk bits p_0 p_1 p_2 p_3 p_4_l)/\(x12=false->Bv bits/\(0<=p_0/\p_0<2^bits.toNat)/\(0<=p_1/\p_1<=3)/\(0<=p_2/\p_2<=1)/\(0<=p_3/\p_3<=2054)/\1<=p_4_l/\p_3+p_4_l<=2054),?_,?_⟩
 ·rintro _ x12 w3 ⟨H3,hj,hj'⟩;apply Al<;>intro c12
  ·exact⟨Hd (hj c12),H3.below⟩
  ·obtain⟨h1,h2,h3,h4,h5,h6⟩:=hj' c12;have hiff:(decide (pOk bits p_0 p_1 p_2 p_3 p_4_l))=decide (((p_1=0\/p_1=1)↔p_3=0)):=by
    unfold pOk;simp[h1,h2,h3,h4,h5,h6]
   rw[hiff];refine H3.l 0 ?_;apply Aa<;>intro c11
   ·refine H3.l 0 ?_;refine Aw ?_;exact⟨Nq (by omega),H3.below⟩
   ·refine H3.l 0 ?_;apply Aa<;>intro c10
    ·refine H3.l 0 ?_;refine Aw ?_;exact⟨Nq (by omega),H3.below⟩
    ·refine H3.l 0 ?_;refine Aw ?_;exact⟨Nq (by omega),H3.below⟩
 ·refine ref15_Bits_ct.mono ?_;rintro _ w2 ⟨rfl,hb2⟩;have H2:=H1.pass hb2;clear H1;refine⟨_,rfl,?_⟩;apply An<;>intro c9
  ·exact⟨H2,fun _ h=>c9 h.1,fun h=>by cases h⟩
  ·have hbn:bits.toNat<=62/\0<=bits:=by unfold Bv at c9;omega
   refine H2.l 0 ?_;apply Aa<;>intro c8
   ·exact⟨H2,fun _ h=>by have:=h.2.1;omega,fun h=>by cases h⟩
   ·refine H2.l 0 ?_;refine Pk (by omega) ?_;refine⟨by omega,?_⟩;refine Kv (by omega) ?_;apply Aa<;>intro c7
    ·exact⟨H2,fun _ h=>by have:=h.2.1;omega,fun h=>by cases h⟩
    ·refine H2.l 0 ?_;apply Aa<;>intro c6
     ·exact⟨H2,fun _ h=>by have:=h.2.2.1;omega,fun h=>by cases h⟩
     ·refine H2.l 0 ?_;apply Aa<;>intro c5
      ·exact⟨H2,fun _ h=>by have:=h.2.2.1;omega,fun h=>by cases h⟩
      ·refine H2.l 0 ?_;apply Aa<;>intro c4
       ·exact⟨H2,fun _ h=>by have:=h.2.2.2.1;omega,fun h=>by cases h⟩
       ·refine H2.l 0 ?_;apply Aa<;>intro c3
        ·exact⟨H2,fun _ h=>by have:=h.2.2.2.1;omega,fun h=>by cases h⟩
        ·refine H2.m 0 ?_;apply Aa<;>intro c2
         ·exact⟨H2,fun _ h=>by have:=h.2.2.2.2.2.2;omega,fun h=>by cases h⟩
         ·refine H2.l 0 ?_;apply Aa<;>intro c1
          ·exact⟨H2,fun _ h=>by have:=h.2.2.2.2.2.1;omega,fun h=>by cases h⟩
          ·refine H2.l 0 ?_;apply Aa<;>intro c
           ·exact⟨H2,fun _ h=>by have:=h.2.2.2.2.2.1;omega,fun h=>by cases h⟩
           ·refine H2.l 0 ?_;refine H2.m 0 ?_;refine Ao (by omega) ?_;exact⟨H2,fun h h'=>by have:=h'.2.2.2.2.2;simp at h;omega,fun h=>⟨c9,by omega,by omega,by omega,by omega,by omega,by simp at h;omega⟩⟩
end
theorem Aod{w:World}{a:Option Addr}{xs:List Int}(hs:SlR (Bp .u8) 1 w a xs)(i:Nat){j:Int}(hj:j=i)(hi:i<xs.length){F:Addr->Prop}
 (h:∀b,(∀G:Int->Prop,G (xs.getD i 0)->kLd w (b.add (j.toNat*1)) .u8 G)->F b):kIx a xs.length j F:=by
 subst hj;obtain⟨b,rfl,hb⟩:=hs.get hi;exact⟨b,rfl,⟨by omega,by omega⟩,h b fun G hG=>⟨_,by rw[bK];exact hb,by rwa[Sv hi]at hG⟩⟩
theorem Nl{bs:List Int}(hb:Bytes bs)(i:Nat):0<=bs.getD i 0/\bs.getD i 0<256:=by
 rcases aT i bs.length with h|h
 ·rw[Sv h];exact hb _ h
 ·simp[List.getD,List.getElem?_eq_none h]
theorem Od{s_a:Option Addr}{xs:List Int}{s_c:Nat}{w:World}(hs:SlR (Bp .u8) 1 w s_a xs)(hl:xs.length<=140737488355328):Calls Tryz.prog Cs #[(.slice s_a xs.length s_c)] w fun e w'=>∃a c,e=.returned (.slice a xs.length c)/\Cg w w' [.ints Az .u8 a c xs]:=by
 apply Rt;have H:=St.nil w;cases s_a with
 |none=>
  obtain rfl:xs=[]:=by
   rcases hs with h|⟨b,hb,_⟩
   ·exact h
   ·cases hb
  exact⟨none,0,rfl,H.nilI Az .u8⟩
 |some p=>
  refine Al (fun h=>by cases h) (fun _=>?_);refine H.alloc ?_;clear H;intro b w1 H1;have H1:=H1.litI (i:=0) (k:=.u8) [] rfl (by decide);refine H1.appI (i:=0) rfl sl_Ty_S_uint8 (hs.below H1.below) (by simp;omega) (by simp;omega) ?_;intro x_a x_c w2 H2;exact⟨x_a,x_c,rfl,H2⟩
def Al4:Nat->Int->List Int
 |0,_=>[]
 |n+1,v=>(v/2^(8*n))%256::Al4 n v
theorem Ayq{b_a:Option Addr}{b_c:Nat}{bytes:Nat}{v:Int}{w:World}{ys:List Int}{A:Nat->Prop}{P:World->Prop}(hP:Held A w P)(hb:(Res.ints Az .u8 b_a b_c ys).ok w)
 (hA:∀b,(Res.ints Az .u8 b_a b_c ys).at=some b->¬A b) (hn:bytes<=7) (hl:ys.length<=140737488355000):
 Calls Tryz.prog Ep #[(.slice b_a ys.length b_c),(.int .i64 (bytes:Int)),(.int .i64 v)] w fun e w'=>∃a c,e=.returned (.slice a (ys++Al4 bytes v).length c)/\
  St A (Res.ints Az .u8 b_a b_c ys).at.toList w w' [.ints Az .u8 a c (ys++Al4 bytes v)] P:=by
 apply Abe;have H:=St.startM hP hb hA;refine Ao (by omega) ?_;refine⟨fun b_a1 b_l1 b_c1 i=>((i+1).toNat,fun w1=>∃(k:Nat) (zs:List Int),k<=bytes/\i=(k:Int)-1/\zs++Al4 k v=ys++Al4 bytes v/\b_l1=zs.length/\zs.length+k=ys.length+bytes/\St A (Res.ints Az .u8 b_a b_c ys).at.toList w w1 [.ints Az .u8 b_a1 b_c1 zs] P),⟨bytes,ys,by omega,rfl,rfl,rfl,rfl,H⟩,?_⟩;clear H;rintro _ b_a1 b_l1 b_c1 i w1 ⟨k,zs,hk,rfl,hz,rfl,hzl,H1⟩;apply Aa<;>intro c
 ·obtain⟨m,rfl⟩:∃m,k=m+1:=⟨k-1,by omega⟩;refine Ao (by omega) ?_;refine Pk (by omega) ?_;refine⟨by omega,?_⟩;have e1:min (8*(((m+1:Nat):Int)-1)).toNat (IntKind.bits .i64)=8*m:=by show min _ 64=_;omega
  rw[e1];refine Ui ?_;refine Aas ?_;refine H1.alloc ?_;clear H1;intro b w2 H2;refine H2.appIB (i:=0) (j:=1) rfl [v/2^(8*m)%256] rfl sl_Ty_S_uint8 rfl (by simp;omega) (by simp;omega) ?_;intro x_a x_c w3 H3;refine Ao (by omega) ?_;refine⟨⟨m,zs++[v/2^(8*m)%256],by omega,by omega,by rw[<-hz];simp[Al4],rfl,by simp;omega,?_⟩,by dsimp only;omega⟩;exact H3.dropLast
 ·obtain rfl:k=0:=by omega
  have hz:zs=ys++Al4 bytes v:=by simpa [Al4] using hz
  subst hz;exact⟨b_a1,b_c1,rfl,H1⟩
def Ac1(bs:List Int)(at_:Nat):Nat->Int
 |0=>0
 |n+1=>256*Ac1 bs at_ n+bs.getD (at_+n) 0
theorem Akr{bs:List Int}(hb:Bytes bs)(at_:Nat):∀n,0<=Ac1 bs at_ n/\Ac1 bs at_ n<256^n
 |0=>by simp[Ac1]
 |n+1=>by
  have ih:=Akr hb at_ n;have hd:0<=bs.getD (at_+n) 0/\bs.getD (at_+n) 0<256:=by
   rcases aT (at_+n) bs.length with h|h
   ·rw[Sv h];exact hb _ h
   ·simp[List.getD,List.getElem?_eq_none h]
  rw[Int.pow_succ];simp only[Ac1];omega
theorem Ayy{b_a:Option Addr}{b_c:Nat}{bs:List Int}{at1 bytes:Nat}{w:World}(hs:SlR (Bp .u8) 1 w b_a bs)(hB:Bytes bs)(hl:at1+bytes<=bs.length)(hn:bytes<=7)(hat:at1<=1000000):Calls Tryz.prog Gz #[(.slice b_a bs.length b_c),(.int .i64 (at1:Int)),(.int .i64 (bytes:Int))] w fun e w'=>e=.returned (.int .i64 (Ac1 bs at1 bytes))/\Below w.heap.size w w':=by
 apply Abk;have H:=St.nil w;refine⟨fun v i=>((bytes-i).toNat,fun w1=>∃k:Nat,k<=bytes/\i=k/\v=Ac1 bs at1 k/\Cg w w1 []),⟨0,by omega,rfl,rfl,H⟩,?_⟩;clear H;rintro _ v i w1 ⟨k,hk,rfl,rfl,H1⟩;have hr:=Akr hB at1 k;have hp:(256:Int)^k<=256^7:=by
  have:(256:Nat)^k<=256^7:=dD (by decide) (by omega);have e:(256:Int)^k=((256^k:Nat):Int):=by simp
  rw[e];omega
 apply Aa<;>intro c
 ·have hk2:k<=6:=by omega
  have hp:(256:Int)^k<=256^6:=by
   have:(256:Nat)^k<=256^6:=dD (by decide) hk2;have e:(256:Int)^k=((256^k:Nat):Int):=by simp
   rw[e];omega
  have hx:=Nl hB (at1+k);refine Ao (by omega) ?_;refine Ao (by omega) ?_;refine Aod (hs.below H1.below) (at1+k) (by omega) (by omega) fun b hb=>?_;refine hb _ ?_;refine Ao (by omega) ?_;refine Ao (by omega) ?_;refine Ao (by omega) ?_;exact⟨⟨k+1,by omega,by omega,rfl,H1⟩,by dsimp only;omega⟩
 ·obtain rfl:k=bytes:=by omega
  exact⟨rfl,H1.below⟩
theorem Avb{a b:Option Addr}{c1 c2:Nat}{xs ys:List Int}{w:World}(ha:SlR (Bp .u8) 1 w a xs)(hb:SlR (Bp .u8) 1 w b ys)(hx:Bytes xs)(hy:Bytes ys):Calls Tryz.prog Jd #[.slice a xs.length c1,.slice b ys.length c2] w fun e w'=>e=.returned (.bool (decide (xs=ys)))/\Below w.heap.size w w':=by
 apply Aal;refine Oa (e:=Az) (by kernel_rfl) (by kernel_rfl) (by kernel_rfl) ha ?_;refine Oa (e:=Az) (by kernel_rfl) (by kernel_rfl) (by kernel_rfl) hb ?_;refine⟨?_,.refl _ _⟩;rw[Asd hx hy]
def RetB(w:World)(bs:List Int)(er:Int):Ending->World->Prop:=fun e w'=>∃a c,bs.length<=c/\e=.returned (.tuple #[.slice a bs.length c,.int .i64 er])/\Ti w w' fun w=>SlR (Bp .u8) 1 w a bs
theorem RetB.nil{w w':World}(b:Below w.heap.size w w')(er:Int):RetB w [] er (.returned (.tuple #[.slice none 0 0,.int .i64 er])) w':=
 ⟨none,0,aG _,rfl,((St.nil w).pass b).imp fun _ _=>.nil⟩
theorem Bbn(v:Int):Al4 2 v=[v/256%256,v%256]:=by simp[Al4]
section
variable{bits:Int}{p_0:Int}{p_1:Int}{p_2:Int}{p_3:Int}{p_4_a:Option Addr}{d:List Int}{p_4_c:Nat}{w:World}
theorem Ah1(hs:SlR (Bp .u8) 1 w p_4_a d)(hl:d.length<=140737488355000):Calls Tryz.prog Qg #[(.int .i64 bits),(.agg #[.int .i64 p_0,.int .i64 p_1,.int .i64 p_2,.int .i64 p_3,.slice p_4_a d.length p_4_c])] w
  (RetB w (Qq bits ⟨p_0,p_1,p_2,p_3,d⟩).1 (Qq bits ⟨p_0,p_1,p_2,p_3,d⟩).2):=by
 apply Aek;have H:=St.nil w;refine H.alloc ?_;clear H;intro b w1 H1;refine⟨_,_,_,_,_,_,_,H1.cells (i:=0) rfl,?_⟩;refine(Qw (by omega)).mono ?_;rintro _ w2 ⟨rfl,hb2⟩;have H2:=H1.pass hb2;clear H1;refine⟨_,rfl,?_⟩;apply An<;>intro c1
 ·have e0:Qq bits ⟨p_0,p_1,p_2,p_3,d⟩=([],1):=aE c1;rw[e0];exact .nil H2.below _
 ·have e0:Qq bits ⟨p_0,p_1,p_2,p_3,d⟩=(Pc.bytes ⟨p_0,p_1,p_2,p_3,d⟩,0):=aF c1;rw[e0];clear e0;obtain⟨hb,h0,h1,h2,h3,h4,h5,h6⟩:=c1;have hp:=Cm hb;refine H2.l 0 ?_;refine Ao (by omega) ?_;refine Pq (Adm 15 1 (by decide) (by omega) (by omega) (by omega)) ?_;refine H2.l 0 ?_;refine Ao (by omega) ?_;refine Pq (Adm 14 (2+p_2) (by omega) (by omega) (by omega) (by omega)) ?_;refine H2.l 0 ?_;refine Pq (Adm 12 (8+4*p_2+p_1) (by omega) (by omega) (by omega) (by omega)) ?_;refine Ui ?_;refine Aas ?_;refine Aas ?_;have e1:(32768+p_2*2^14+p_1*2^12+p_0)/2^8%256=(Pc.first ⟨p_0,p_1,p_2,p_3,d⟩)/256:=by simp only[Pc.first];omega
  have e2:(32768+p_2*2^14+p_1*2^12+p_0)%256=(Pc.first ⟨p_0,p_1,p_2,p_3,d⟩)%256:=by simp only[Pc.first];omega
  rw[e1,e2];refine H2.alloc ?_;clear H2;intro b1 w3 H3;refine H3.l 0 ?_;refine segment_begins_ct.mono ?_;rintro _ w4 ⟨rfl,hb4⟩;have H4:=H3.pass hb4;clear H3;refine⟨_,rfl,?_⟩;have H4:=H4.litI (i:=1) (k:=.u8) [(Pc.first ⟨p_0,p_1,p_2,p_3,d⟩)/256,(Pc.first ⟨p_0,p_1,p_2,p_3,d⟩)%256] rfl (by simp[maxLen]);unfold Sh Pc.bytes;apply An<;>intro c
  ·simp only[aE c];refine H4.l 0 ?_;refine Ui ?_;refine Aas ?_;refine H4.l 0 ?_;refine Aas ?_;rw[show p_3/2^8%256=p_3/256 by omega];refine H4.alloc ?_;clear H4;intro b2 w5 H5;refine H5.appIB (i:=1) (j:=2) rfl [p_3/256,p_3%256] rfl sl_Ty_S_uint8 rfl (by simp) (by simp) ?_;intro x_a x_c w6 H6;refine H6.m 0 ?_;refine H6.appI (i:=1) rfl sl_Ty_S_uint8 (hs.below H6.below) (by simp;omega) (by simp;omega) ?_;intro x_a2 x_c2 w7 H7;exact⟨x_a2,x_c2,H7.capI (i:=1) rfl,rfl,((H7.shareI (i:=1) rfl).fin).imp fun _ h=>h.1⟩
  ·simp only[aF c];refine H4.m 0 ?_;refine H4.appI (i:=1) rfl sl_Ty_S_uint8 (hs.below H4.below) (by simp;omega) (by simp;omega) ?_;intro x_a4 x_c4 w8 H8;exact⟨x_a4,x_c4,H8.capI (i:=1) rfl,rfl,((H8.shareI (i:=1) rfl).fin).imp fun _ h=>h.1⟩
theorem Al6(hs:SlR (Bp .u8) 1 w p_4_a d)(hl:d.length<=140737488355000):Calls Tryz.prog Tp #[(.int .i64 bits),(.agg #[.int .i64 p_0,.int .i64 p_1,.int .i64 p_2,.int .i64 p_3,.slice p_4_a d.length p_4_c])] w
  (RetB w (Qq bits ⟨p_0,p_1,p_2,p_3,d⟩).1 (Qq bits ⟨p_0,p_1,p_2,p_3,d⟩).2):=by
 apply Aht;have H:=St.nil w;refine H.alloc ?_;clear H;intro b w1 H1;refine⟨_,_,_,_,_,_,_,H1.cells (i:=0) rfl,?_⟩;refine(Ue (by omega)).mono ?_;rintro _ w2 ⟨rfl,hb2⟩;have H2:=H1.pass hb2;clear H1;refine⟨_,rfl,?_⟩;apply An<;>intro c1
 ·have e0:Qq bits ⟨p_0,p_1,p_2,p_3,d⟩=([],1):=aE c1;rw[e0];exact .nil H2.below _
 ·have e0:Qq bits ⟨p_0,p_1,p_2,p_3,d⟩=(Pc.bytes ⟨p_0,p_1,p_2,p_3,d⟩,0):=aF c1;rw[e0];clear e0;obtain⟨hb,h0,h1,h2,h3,h4,h5,h6⟩:=c1;have hp:=Cm hb;refine H2.l 0 ?_;refine Ao (by omega) ?_;refine Ao (by omega) ?_;refine H2.l 0 ?_;refine Ao (by omega) ?_;refine Ao (by omega) ?_;refine H2.l 0 ?_;refine Ao (by omega) ?_;have H2:=H2.nilI Az .u8;obtain⟨A,hA,hn,hr,hc⟩:=H2.callM (i:=1) rfl;refine(Ayq (bytes:=2) (ys:=[]) hA hr hn (by omega) (by simp)).mono ?_;rintro _ w3 ⟨r_a,r_c,rfl,K⟩;have H3:=(hc K).imp fun _ h=>h.2;clear K hc hr hn hA A H2;refine⟨_,_,_,rfl,?_⟩;have e1:([]++Al4 2 (32768+16384*p_2+4096*p_1+p_0))=[(Pc.first ⟨p_0,p_1,p_2,p_3,d⟩)/256,(Pc.first ⟨p_0,p_1,p_2,p_3,d⟩)%256]:=by
   rw[Bbn];simp only[Pc.first,aC,List.cons.injEq,and_true];omega
  rw[e1]at H3 ⊢;refine H3.l 0 ?_;refine ref18_Head_ct.mono ?_;rintro _ w4 ⟨rfl,hb4⟩;have H4:=H3.pass hb4;clear H3;refine⟨_,rfl,?_⟩;unfold headN Pc.bytes;apply Aa<;>intro c
  ·have c:¬(p_1=0\/p_1=1):=fun h=>by rw[aF h]at c;omega
   simp only[aE c];refine H4.l 0 ?_;obtain⟨A,hA,hn,hr,hc⟩:=H4.callM (i:=1) rfl;refine(Ayq (bytes:=2) hA hr hn (by omega) (by simp)).mono ?_;rintro _ w5 ⟨r_a1,r_c1,rfl,K⟩;have H5:=(hc K).imp fun _ h=>h.2;clear K hc hr hn hA A H4;refine⟨_,_,_,rfl,?_⟩;have e2:Al4 2 p_3=[p_3/256,p_3%256]:=by rw[Bbn];simp only[List.cons.injEq,and_true];omega
   rw[e2]at H5 ⊢;refine H5.m 0 ?_;refine H5.appI (i:=1) rfl sl_Ty_S_uint8 (hs.below H5.below) (by simp;omega) (by simp;omega) ?_;intro x_a1 x_c1 w6 H6;exact⟨x_a1,x_c1,H6.capI (i:=1) rfl,rfl,((H6.shareI (i:=1) rfl).fin).imp fun _ h=>h.1⟩
  ·have c:p_1=0\/p_1=1:=Decidable.byContradiction fun h=>by rw[aE h]at c;omega
   simp only[aF c];refine H4.m 0 ?_;refine H4.appI (i:=1) rfl sl_Ty_S_uint8 (hs.below H4.below) (by simp;omega) (by simp;omega) ?_;intro x_a3 x_c3 w7 H7;exact⟨x_a3,x_c3,H7.capI (i:=1) rfl,rfl,((H7.shareI (i:=1) rfl).fin).imp fun _ h=>h.1⟩
end
def RetP(w:World)(p:Pc)(er:Int):Ending->World->Prop:=fun e w'=>∃a c,p.data.length<=c/\
 e=.returned (.tuple #[.agg #[.int .i64 p.sn,.int .i64 p.part,.int .i64 p.poll,.int .i64 p.off,.slice a p.data.length c],.int .i64 er])/\Ti w w' fun w=>SlR (Bp .u8) 1 w a p.data
theorem RetP.zero{w w':World}(b:Below w.heap.size w w')(er:Int):RetP w .zero er (.returned (.tuple #[.agg #[.int .i64 0,.int .i64 0,.int .i64 0,.int .i64 0,.slice none 0 0],.int .i64 er])) w':=
 ⟨none,0,aG _,rfl,((St.nil w).pass b).imp fun _ _=>.nil⟩
theorem Vb(part:Int):((part=0\/part=1)/\headN part=2)\/(¬(part=0\/part=1)/\headN part=4):=by
 unfold headN;by_cases h:part=0\/part=1
 ·exact .inl ⟨h,aF h⟩
 ·exact .inr ⟨h,aE h⟩
section
variable{bits:Int}{b_a:Option Addr}{bs:List Int}{b_c:Nat}{w:World}
theorem Ah3(hs:SlR (Bp .u8) 1 w b_a bs)(hB:Bytes bs)(hl:bs.length<=140737488355328)(hcap:bs.length<=b_c):Calls Tryz.prog Qr #[(.int .i64 bits),(.slice b_a bs.length b_c)] w (RetP w (Ip bits bs).1 (Ip bits bs).2):=by
 apply Aec;have H:=St.nil w;refine H.alloc ?_;clear H;intro b w1 H1;refine counter_Bits_ct.mono ?_;rintro _ w2 ⟨rfl,hb2⟩;have H2:=H1.pass hb2;clear H1;refine⟨_,rfl,?_⟩;apply An<;>intro c5
 ·refine H2.s 0 ?_;clear H2;intro w3 H3;refine⟨_,_,_,_,_,_,_,H3.cells (i:=0) rfl,?_⟩;have e0:Ip bits bs=(.zero,3):=by unfold Ip;rw[aF c5]
  rw[e0];exact .zero H3.below _
 ·refine Aw ?_;apply Aa<;>intro c4
  ·refine H2.s 0 ?_;clear H2;intro w4 H4;refine⟨_,_,_,_,_,_,_,H4.cells (i:=0) rfl,?_⟩;have e0:Ip bits bs=(.zero,5):=by unfold Ip;rw[aE (by simpa using c5),aF (by omega)]
   rw[e0];exact .zero H4.below _
  ·refine H2.drew ?_;clear H2;intro w5 H5;have b0:=Nl hB 0;have b1:=Nl hB 1;refine Aod (hs.below H5.below) 0 rfl (by omega) fun p0 hp0=>?_;refine hp0 _ ?_;refine Ao (by omega) ?_;refine Ao (by omega) ?_;refine Aod (hs.below H5.below) 1 rfl (by omega) fun p1 hp1=>?_;refine hp1 _ ?_;refine Ao (by omega) ?_;obtain⟨f,hf⟩:∃f,f=256*bs.getD 0 0+bs.getD 1 0:=⟨_,rfl⟩;refine Pq (y:=f) (by rw[Adm 8 (bs.getD 0 0) (by omega) (by omega) (by omega) (by omega)];omega) ?_;refine Ui ?_;refine Pq (y:=f/16384%2) (by rw[Rl (m:=1) 1 (by omega) (by decide) (by decide)];omega) ?_;refine Ui ?_;refine Pq (y:=f/4096%4) (by rw[Rl (m:=3) 2 (by omega) (by decide) (by decide)];omega) ?_;refine Pq (y:=f%4096) (by rw[Rl (m:=4095) 12 (by omega) (by decide) (by decide)];omega) ?_;have hraw:Kb bs=⟨f%4096,f/4096%4,f/16384%2,if f/4096%4=0\/f/4096%4=1 then 0 else 256*bs.getD 2 0+bs.getD 3 0,bs.drop (headN (f/4096%4))⟩:=by rw[hf];rfl
   have hpart:(Kb bs).part=f/4096%4:=by rw[hraw]
   refine H5.alloc ?_;clear H5;intro b3 w6 H6;refine H6.s 1 ?_;clear H6;intro w7 H7;refine H7.l 1 ?_;refine segment_head_ct.mono ?_;rintro _ w8 ⟨rfl,hb8⟩;have H8:=H7.pass hb8;clear H7;refine⟨_,rfl,?_⟩;apply Aa<;>intro c3
   ·refine H8.s 0 ?_;clear H8;intro w9 H9;refine⟨_,_,_,_,_,_,_,H9.cells (i:=0) rfl,?_⟩;have e0:Ip bits bs=(.zero,5):=by unfold Ip;rw[aE (by simpa using c5),aE (by omega),aF (by rw[hpart];omega)]
    rw[e0];exact .zero H9.below _
   ·have hh:=Vb (f/4096%4);have dec:Ip bits bs=if bs.getD 0 0<128\/¬(Kb bs).ok bits then (.zero,4) else (Kb bs,0):=by
     unfold Ip;rw[aE (by simpa using c5),aE (by omega),aE (by rw[hpart];omega)]
    refine⟨fun w12=>St (fun _=>False) [] w w12 [.blk b Ap [(.int .i64 (0:Int)),(.int .i64 (0:Int)),(.int .i64 (0:Int)),(.int .i64 (0:Int)),(.slice none 0 0)],.blk b3 Ap [(.int .i64 (f%4096)),(.int .i64 (f/4096%4)),(.int .i64 (f/16384%2)),.int .i64 (Kb bs).off,.slice none 0 0]] (fun _=>True),?_,?_⟩
    ·rintro _ w12 H12;refine⟨⟨by omega,by omega⟩,?_⟩;have hx:((Kb bs).data).length=bs.length-((headN (f/4096%4):Nat):Int).toNat:=by rw[hraw];simp
     have hs12:SlR (Bp .u8) 1 w12 (Ay b_c ((headN (f/4096%4):Nat):Int).toNat 1 b_a) (Kb bs).data:=by
      rw[hraw];exact(hs.below H12.below).tail hcap
     rw[<-hx];refine(Od hs12 (by omega)).mono ?_;rintro _ w13 ⟨r_a,r_c,rfl,K⟩;have H13:=H12.callR K;clear H12 K;refine⟨_,_,_,rfl,?_⟩;refine H13.U 1 ?_;clear H13;intro w14 H14;refine Ui ?_;apply Aa<;>intro c2
     ·refine H14.s 0 ?_;clear H14;intro w15 H15;refine⟨_,_,_,_,_,_,_,H15.cells (i:=0) rfl,?_⟩;rw[dec,aF (.inl (by omega))];exact .zero H15.below _
     ·refine⟨_,_,_,_,_,_,_,H14.cells (i:=1) rfl,?_⟩;refine(Qw (by omega)).mono ?_;rintro _ w16 ⟨rfl,hb16⟩;have H16:=H14.pass hb16;clear H14;refine⟨_,rfl,?_⟩;have hok:(Kb bs).ok bits↔pOk bits (f%4096) (f/4096%4) (f/16384%2) (Kb bs).off (Kb bs).data.length:=by
       unfold Pc.ok;rw[show (Kb bs).sn=f%4096 by rw[hraw],hpart,show (Kb bs).poll=f/16384%2 by rw[hraw]]
      apply An<;>intro c1
      ·refine H16.s 0 ?_;clear H16;intro w17 H17;refine⟨_,_,_,_,_,_,_,H17.cells (i:=0) rfl,?_⟩;rw[dec,aF (.inr (by rw[hok];exact c1))];exact .zero H17.below _
      ·refine⟨_,_,_,_,_,_,_,H16.cells (i:=1) rfl,?_⟩;refine H16.s 0 ?_;clear H16;intro w18 H18;refine⟨_,_,_,_,_,_,_,H18.cells (i:=0) rfl,?_⟩;rw[dec,aE (by rw[hok];simp only[not_or,Decidable.not_not];exact⟨by omega,c1⟩)];refine⟨r_a,r_c,H18.capI (i:=2) rfl,?_,((H18.shareI (i:=2) rfl).fin).imp fun _ h=>h.1⟩;rw[show (Kb bs).sn=f%4096 by rw[hraw],hpart,show (Kb bs).poll=f/16384%2 by rw[hraw]]
    ·apply Aa<;>intro c
     ·refine H8.drew ?_;clear H8;intro w10 H10;have b2:=Nl hB 2;have b3:=Nl hB 3;refine Aod (hs.below H10.below) 2 rfl (by omega) fun p2 hp2=>?_;refine hp2 _ ?_;refine Ao (by omega) ?_;refine Ao (by omega) ?_;refine Aod (hs.below H10.below) 3 rfl (by omega) fun p3 hp3=>?_;refine hp3 _ ?_;refine Ao (by omega) ?_;refine Pq (y:=(Kb bs).off) (by rw[Adm 8 (bs.getD 2 0) (by omega) (by omega) (by omega) (by omega),hraw];simp only;rw[aE (by omega)];omega) ?_;refine H10.U 1 ?_;intro w11 H11;exact H11
     ·have e:(Kb bs).off=0:=by rw[hraw];simp only;rw[aF (by omega)]
      rw[e];exact H8
theorem Amd(hs:SlR (Bp .u8) 1 w b_a bs)(hB:Bytes bs)(hl:bs.length<=140737488355328)(hcap:bs.length<=b_c):Calls Tryz.prog Ua #[(.int .i64 bits),(.slice b_a bs.length b_c)] w (RetP w (Ip bits bs).1 (Ip bits bs).2):=by
 apply Ahi;have H:=St.nil w;refine H.alloc ?_;clear H;intro b w1 H1;refine ref15_Bits_ct.mono ?_;rintro _ w2 ⟨rfl,hb2⟩;have H2:=H1.pass hb2;clear H1;refine⟨_,rfl,?_⟩;apply An<;>intro c5
 ·refine H2.s 0 ?_;clear H2;intro w3 H3;refine⟨_,_,_,_,_,_,_,H3.cells (i:=0) rfl,?_⟩;have e0:Ip bits bs=(.zero,3):=by unfold Ip;rw[aF c5]
  rw[e0];exact .zero H3.below _
 ·apply Aa<;>intro c4
  ·refine H2.s 0 ?_;clear H2;intro w4 H4;refine⟨_,_,_,_,_,_,_,H4.cells (i:=0) rfl,?_⟩;have e0:Ip bits bs=(.zero,5):=by unfold Ip;rw[aE (by simpa using c5),aF (by omega)]
   rw[e0];exact .zero H4.below _
  ·refine(Ayy (at1:=0) (bytes:=2) (hs.below H2.below) hB (by omega) (by omega) (by omega)).mono ?_;rintro _ w5 ⟨rfl,hb5⟩;have H5:=H2.pass hb5;clear H2;refine⟨_,rfl,?_⟩;have b0:=Nl hB 0;have b1:=Nl hB 1;obtain⟨f,hf⟩:∃f,f=256*bs.getD 0 0+bs.getD 1 0:=⟨_,rfl⟩;have eg:Ac1 bs 0 2=f:=by rw[hf];simp[Ac1]
   rw[eg];refine Ui ?_;refine Pq (y:=f/16384%2) (by rw[Rl (m:=1) 1 (by omega) (by decide) (by decide)];omega) ?_;refine Ui ?_;refine Pq (y:=f/4096%4) (by rw[Rl (m:=3) 2 (by omega) (by decide) (by decide)];omega) ?_;refine Pq (y:=f%4096) (by rw[Rl (m:=4095) 12 (by omega) (by decide) (by decide)];omega) ?_;have hraw:Kb bs=⟨f%4096,f/4096%4,f/16384%2,if f/4096%4=0\/f/4096%4=1 then 0 else 256*bs.getD 2 0+bs.getD 3 0,bs.drop (headN (f/4096%4))⟩:=by rw[hf];rfl
   have hpart:(Kb bs).part=f/4096%4:=by rw[hraw]
   refine H5.alloc ?_;clear H5;intro b1 w6 H6;refine H6.s 1 ?_;clear H6;intro w7 H7;refine H7.l 1 ?_;refine ref18_Head_ct.mono ?_;rintro _ w8 ⟨rfl,hb8⟩;have H8:=H7.pass hb8;clear H7;refine⟨_,rfl,?_⟩;apply Aa<;>intro c3
   ·refine H8.s 0 ?_;clear H8;intro w9 H9;refine⟨_,_,_,_,_,_,_,H9.cells (i:=0) rfl,?_⟩;have e0:Ip bits bs=(.zero,5):=by unfold Ip;rw[aE (by simpa using c5),aE (by omega),aF (by rw[hpart];omega)]
    rw[e0];exact .zero H9.below _
   ·have hh:=Vb (f/4096%4);have dec:Ip bits bs=if bs.getD 0 0<128\/¬(Kb bs).ok bits then (.zero,4) else (Kb bs,0):=by
     unfold Ip;rw[aE (by simpa using c5),aE (by omega),aE (by rw[hpart];omega)]
    refine⟨fun w12=>St (fun _=>False) [] w w12 [.blk b Ap [(.int .i64 (0:Int)),(.int .i64 (0:Int)),(.int .i64 (0:Int)),(.int .i64 (0:Int)),(.slice none 0 0)],.blk b1 Ap [(.int .i64 (f%4096)),(.int .i64 (f/4096%4)),(.int .i64 (f/16384%2)),.int .i64 (Kb bs).off,.slice none 0 0]] (fun _=>True),?_,?_⟩
    ·rintro _ w12 H12;refine⟨⟨by omega,by omega⟩,?_⟩;have hx:((Kb bs).data).length=bs.length-((headN (f/4096%4):Nat):Int).toNat:=by rw[hraw];simp
     have hs12:SlR (Bp .u8) 1 w12 (Ay b_c ((headN (f/4096%4):Nat):Int).toNat 1 b_a) (Kb bs).data:=by
      rw[hraw];exact(hs.below H12.below).tail hcap
     rw[<-hx];have H12:=H12.nilI Az .u8;refine H12.appI (i:=2) rfl sl_Ty_S_uint8 hs12 (by simp;omega) (by simp;omega) ?_;intro x_a x_c w13 H13;rw[aC]at H13 ⊢;refine H13.U 1 ?_;clear H13;intro w14 H14;apply Aa<;>intro c2
     ·refine H14.s 0 ?_;clear H14;intro w15 H15;refine⟨_,_,_,_,_,_,_,H15.cells (i:=0) rfl,?_⟩;rw[dec,aF (.inl (by omega))];exact .zero H15.below _
     ·refine⟨_,_,_,_,_,_,_,H14.cells (i:=1) rfl,?_⟩;refine(Ue (by omega)).mono ?_;rintro _ w16 ⟨rfl,hb16⟩;have H16:=H14.pass hb16;clear H14;refine⟨_,rfl,?_⟩;have hok:(Kb bs).ok bits↔pOk bits (f%4096) (f/4096%4) (f/16384%2) (Kb bs).off (Kb bs).data.length:=by
       unfold Pc.ok;rw[show (Kb bs).sn=f%4096 by rw[hraw],hpart,show (Kb bs).poll=f/16384%2 by rw[hraw]]
      apply An<;>intro c1
      ·refine H16.s 0 ?_;clear H16;intro w17 H17;refine⟨_,_,_,_,_,_,_,H17.cells (i:=0) rfl,?_⟩;rw[dec,aF (.inr (by rw[hok];exact c1))];exact .zero H17.below _
      ·refine⟨_,_,_,_,_,_,_,H16.cells (i:=1) rfl,?_⟩;refine H16.s 0 ?_;clear H16;intro w18 H18;refine⟨_,_,_,_,_,_,_,H18.cells (i:=0) rfl,?_⟩;rw[dec,aE (by rw[hok];simp only[not_or,Decidable.not_not];exact⟨by omega,c1⟩)];refine⟨x_a,x_c,H18.capI (i:=2) rfl,?_,((H18.shareI (i:=2) rfl).fin).imp fun _ h=>h.1⟩;rw[show (Kb bs).sn=f%4096 by rw[hraw],hpart,show (Kb bs).poll=f/16384%2 by rw[hraw]]
    ·apply Aa<;>intro c
     ·refine(Ayy (at1:=2) (bytes:=2) (hs.below H8.below) hB (by omega) (by omega) (by omega)).mono ?_;rintro _ w10 ⟨rfl,hb10⟩;have H10:=H8.pass hb10;clear H8;refine⟨_,rfl,?_⟩;have e2:Ac1 bs 2 2=(Kb bs).off:=by rw[hraw];simp only;rw[aE (by omega)];simp[Ac1]
      rw[e2];refine H10.U 1 ?_;clear H10;intro w11 H11;exact H11
     ·have e:(Kb bs).off=0:=by rw[hraw];simp only;rw[aF (by omega)]
      rw[e];exact H8
end
def RetPP(w:World)(p q:Pc)(er:Int):Ending->World->Prop:=fun e w'=>∃a c a' c',p.data.length<=c/\q.data.length<=c'/\
 e=.returned (.tuple #[.agg #[.int .i64 p.sn,.int .i64 p.part,.int .i64 p.poll,.int .i64 p.off,.slice a p.data.length c],.agg #[.int .i64 q.sn,.int .i64 q.part,.int .i64 q.poll,.int .i64 q.off,.slice a' q.data.length c'],.int .i64 er])/\
 Ti w w' fun w=>SlR (Bp .u8) 1 w a p.data/\SlR (Bp .u8) 1 w a' q.data
theorem RetPP.zero{w w':World}(b:Below w.heap.size w w')(er:Int):RetPP w .zero .zero er (.returned (.tuple #[.agg #[.int .i64 0,.int .i64 0,.int .i64 0,.int .i64 0,.slice none 0 0],.agg #[.int .i64 0,.int .i64 0,.int .i64 0,.int .i64 0,.slice none 0 0],.int .i64 er])) w':=
 ⟨none,0,none,0,aG _,aG _,rfl,((St.nil w).pass b).imp fun _ _=>⟨.nil,.nil⟩⟩
section
variable{bits:Int}{p_0:Int}{p_1:Int}{p_2:Int}{p_3:Int}{p_4_a:Option Addr}{d:List Int}{p_4_c:Nat}{size:Int}{w:World}
theorem Anw(hs:SlR (Bp .u8) 1 w p_4_a d)(hl:d.length<=140737488355000)(hcap:d.length<=p_4_c)(hsz: -9223372036854775808<=size/\size<=9223372036854775807):Calls Tryz.prog Gb #[(.int .i64 bits),(.agg #[.int .i64 p_0,.int .i64 p_1,.int .i64 p_2,.int .i64 p_3,.slice p_4_a d.length p_4_c]),(.int .i64 size)] w
  (RetPP w (Hz bits ⟨p_0,p_1,p_2,p_3,d⟩ size).1 (Hz bits ⟨p_0,p_1,p_2,p_3,d⟩ size).2.1 (Hz bits ⟨p_0,p_1,p_2,p_3,d⟩ size).2.2):=by
 apply Ajk;have H:=St.nil w;have hh:=Vb p_1;refine H.alloc ?_;clear H;intro b w1 H1;refine H1.alloc ?_;clear H1;intro b1 w2 H2;refine H2.alloc ?_;clear H2;intro b2 w3 H3;refine H3.l 0 ?_;refine segment_head_ct.mono ?_;rintro _ w4 ⟨rfl,hb4⟩;have H4:=H3.pass hb4;clear H3;refine⟨_,rfl,?_⟩;refine⟨_,_,_,_,_,_,_,H4.cells (i:=0) rfl,?_⟩;refine(Qw (by omega)).mono ?_;rintro _ w5 ⟨rfl,hb5⟩;have H5:=H4.pass hb5;clear H4;refine⟨_,rfl,?_⟩;apply An<;>intro c2
 ·refine H5.s 1 ?_;clear H5;intro w6 H6;refine H6.s 2 ?_;clear H6;intro w7 H7;refine⟨_,_,_,_,_,_,_,H7.cells (i:=1) rfl,?_⟩;refine⟨_,_,_,_,_,_,_,H7.cells (i:=2) rfl,?_⟩;have e0:Hz bits ⟨p_0,p_1,p_2,p_3,d⟩ size=(.zero,.zero,1):=aF c2;rw[e0];exact .zero H7.below _
 ·refine Ao (by omega) ?_;refine Aw ?_;apply Aa<;>intro c1
  ·refine H5.s 1 ?_;clear H5;intro w8 H8;refine H8.s 2 ?_;clear H8;intro w9 H9;refine⟨_,_,_,_,_,_,_,H9.cells (i:=1) rfl,?_⟩;refine⟨_,_,_,_,_,_,_,H9.cells (i:=2) rfl,?_⟩;have e0:Hz bits ⟨p_0,p_1,p_2,p_3,d⟩ size=(.zero,.zero,15):=(aE (not_not_intro c2)).trans (aF c1);rw[e0];exact .zero H9.below _
  ·refine⟨_,_,_,_,_,_,_,H5.cells (i:=0) rfl,?_⟩;refine H5.s 1 ?_;clear H5;intro w10 H10;refine H10.m 0 ?_;refine(Od (hs.below H10.below) (by omega)).mono ?_;rintro _ w11 ⟨r_a,r_c,rfl,K⟩;have H11:=H10.callR K;clear H10 K;refine⟨_,_,_,rfl,?_⟩;refine H11.U 1 ?_;clear H11;intro w12 H12;refine H12.m 0 ?_;refine Ao (by omega) ?_;apply Aa<;>intro c
   ·refine⟨_,_,_,_,_,_,_,H12.cells (i:=1) rfl,?_⟩;refine H12.s 1 ?_;clear H12;intro w13 H13;refine H13.s 2 ?_;clear H13;intro w14 H14;refine⟨_,_,_,_,_,_,_,H14.cells (i:=1) rfl,?_⟩;refine⟨_,_,_,_,_,_,_,H14.cells (i:=2) rfl,?_⟩;have e0:Hz bits ⟨p_0,p_1,p_2,p_3,d⟩ size=(⟨p_0,p_1,p_2,p_3,d⟩,.zero,0):=(aE (not_not_intro c2)).trans ((aE c1).trans (aF c));rw[e0];exact⟨r_a,r_c,none,0,H14.capI (i:=3) rfl,aG _,rfl,((H14.shareI (i:=3) rfl).fin).imp fun _ h=>⟨h.1,.nil⟩⟩
   ·obtain⟨k,hk⟩:∃k,k=(size-(headN p_1:Nat)).toNat:=⟨_,rfl⟩;have e0:Hz bits ⟨p_0,p_1,p_2,p_3,d⟩ size=(⟨p_0,Jb (Sh p_1) false,p_2,p_3,d.take k⟩,⟨p_0,Jb false (Agr p_1),p_2,p_3+(size-headN p_1),d.drop k⟩,0):=by
     rw[hk];exact(aE (not_not_intro c2)).trans ((aE c1).trans (aE c))
    rw[e0];have hoff:=c2.2.2.2.2.2;refine Ao (by omega) ?_;refine⟨_,_,_,_,_,_,_,H12.cells (i:=0) rfl,?_⟩;refine H12.s 2 ?_;clear H12;intro w15 H15;refine H15.drew ?_;clear H15;intro w16 H16;refine⟨fun x=>x<w16.heap.size/\x∉[b2],?_⟩;have f16:=Fr.refl [b2] w16;refine⟨⟨H16.lt (i:=0) rfl rfl,Ay3 (H16.ne (i:=0) (j:=2) rfl rfl (by decide) rfl rfl)⟩,?_⟩;refine H16.l 0 ?_;refine Ao (by omega) ?_;refine H16.m 0 ?_;refine⟨⟨by omega,by omega⟩,?_⟩;have hx:(d.drop k).length=d.length-(size-(headN p_1:Nat)).toNat:=by simp;omega
    rw[<-hx,<-hk];refine(Od ((hs.below H16.below).tail hcap) (by omega)).mono ?_;rintro _ w17 ⟨r_a1,r_c1,rfl,K⟩;have hb17:=K.below;have H17:=H16.callR K;clear K;refine⟨_,_,_,rfl,?_⟩;have f17:=f16.tr (hb17.fr []) (by simp);refine⟨f17.keeps,?_⟩;refine H17.setF (i:=2) rfl (by simp) ?_;intro w18 g18 H18;have f18:=f17.tr g18 (by simp);refine⟨f18.keeps,?_⟩;refine H18.U 2 ?_;intro w19 H19;refine H19.m 1 ?_;have hrc:=H19.capI (i:=3) rfl;refine⟨⟨by omega,by omega⟩,?_⟩;refine⟨⟨by omega,by omega⟩,?_⟩;refine H19.U 1 ?_;clear H19;intro w20 H20;refine H20.drew ?_;clear H20;intro w21 H21;refine⟨fun x=>x<w21.heap.size/\x∉[b1],?_⟩;have f21:=Fr.refl [b1] w21;refine H21.l 0 ?_;refine⟨⟨H21.lt (i:=0) rfl rfl,Ay3 (H21.ne (i:=0) (j:=1) rfl rfl (by decide) rfl rfl)⟩,?_⟩;refine H21.l 0 ?_;refine segment_begins_ct.mono ?_;rintro _ w22 ⟨rfl,hb22⟩;have H22:=H21.pass hb22;refine⟨_,rfl,?_⟩;have f22:=f21.tr (hb22.fr []) (by simp);refine⟨f22.keeps,?_⟩;refine segment_Part_ct.mono ?_;rintro _ w23 ⟨rfl,hb23⟩;have H23:=H22.pass hb23;refine⟨_,rfl,?_⟩;have f23:=f22.tr (hb23.fr []) (by simp);refine⟨f23.keeps,?_⟩;refine segment_Ends_ct.mono ?_;rintro _ w24 ⟨rfl,hb24⟩;have H24:=H23.pass hb24;refine⟨_,rfl,?_⟩;have f24:=f23.tr (hb24.fr []) (by simp);refine⟨f24.keeps,?_⟩;refine segment_Part_ct.mono ?_;rintro _ w25 ⟨rfl,hb25⟩;have H25:=H24.pass hb25;refine⟨_,rfl,?_⟩;have f25:=f24.tr (hb25.fr []) (by simp);refine⟨f25.keeps,?_⟩;refine H25.setF (i:=1) rfl (by simp) ?_;intro w26 g26 H26;have f26:=f25.tr g26 (by simp);refine⟨f26.keeps,?_⟩;refine H26.U 2 ?_;intro w27 H27;simp only[aD,aC,aA,aB]at H27;refine H27.drew ?_;clear H27;intro w28 H28;refine⟨fun _=>True,?_⟩;have k28:=KeepsB.refl (fun _=>True) w28;refine⟨_,_,_,_,_,_,_,H28.cells (i:=1) rfl,?_⟩;refine⟨trivial,?_⟩;refine⟨_,_,_,_,_,_,_,H28.cells (i:=2) rfl,?_⟩;refine H28.storeK (i:=1) rfl rfl ?_;intro w29 k29 H29;replace k29:=Bbh k28 k29;refine⟨k29,?_⟩;refine H29.storeK (i:=2) rfl rfl ?_;intro w30 k30 H30;replace k30:=Bbh k29 k30;refine⟨k30,?_⟩;refine⟨_,_,_,_,_,_,_,H30.cells (i:=1) rfl,?_⟩;refine⟨_,_,_,_,_,_,_,H30.cells (i:=2) rfl,?_⟩;have hc1:=H30.capI (i:=4) rfl;have H30:=H30.shareI (i:=3) rfl;have H30:=H30.shareI (i:=4) rfl;have el:k-0=(d.take k).length:=by simp;omega
    refine⟨Ay k 0 1 r_a,k-0,r_a1,r_c1,by rw[el];exact aG _,hc1,?_,H30.fin.imp fun _ h=>⟨h.2.1.pre _ _,h.1⟩⟩;rw[<-el]
theorem Atd(hs:SlR (Bp .u8) 1 w p_4_a d)(hl:d.length<=140737488355000)(hcap:d.length<=p_4_c)(hsz: -9223372036854775808<=size/\size<=9223372036854775807):Calls Tryz.prog Ab2 #[(.int .i64 bits),(.agg #[.int .i64 p_0,.int .i64 p_1,.int .i64 p_2,.int .i64 p_3,.slice p_4_a d.length p_4_c]),(.int .i64 size)] w
  (RetPP w (Hz bits ⟨p_0,p_1,p_2,p_3,d⟩ size).1 (Hz bits ⟨p_0,p_1,p_2,p_3,d⟩ size).2.1 (Hz bits ⟨p_0,p_1,p_2,p_3,d⟩ size).2.2):=by
 apply An4;have H:=St.nil w;have hh:=Vb p_1;refine H.alloc ?_;clear H;intro b w1 H1;refine H1.alloc ?_;clear H1;intro b1 w2 H2;refine H2.alloc ?_;clear H2;intro b2 w3 H3;refine⟨_,_,_,_,_,_,_,H3.cells (i:=0) rfl,?_⟩;refine(Ue (by omega)).mono ?_;rintro _ w4 ⟨rfl,hb4⟩;have H4:=H3.pass hb4;clear H3;refine⟨_,rfl,?_⟩;apply An<;>intro c5
 ·refine H4.s 1 ?_;clear H4;intro w5 H5;refine H5.s 2 ?_;clear H5;intro w6 H6;refine⟨_,_,_,_,_,_,_,H6.cells (i:=1) rfl,?_⟩;refine⟨_,_,_,_,_,_,_,H6.cells (i:=2) rfl,?_⟩;have e0:Hz bits ⟨p_0,p_1,p_2,p_3,d⟩ size=(.zero,.zero,1):=aF c5;rw[e0];exact .zero H6.below _
 ·refine H4.l 0 ?_;refine ref18_Head_ct.mono ?_;rintro _ w7 ⟨rfl,hb7⟩;have H7:=H4.pass hb7;clear H4;refine⟨_,rfl,?_⟩;refine Ao (by omega) ?_;apply Aa<;>intro c4
  ·refine H7.s 1 ?_;clear H7;intro w8 H8;refine H8.s 2 ?_;clear H8;intro w9 H9;refine⟨_,_,_,_,_,_,_,H9.cells (i:=1) rfl,?_⟩;refine⟨_,_,_,_,_,_,_,H9.cells (i:=2) rfl,?_⟩;have e0:Hz bits ⟨p_0,p_1,p_2,p_3,d⟩ size=(.zero,.zero,15):=(aE (not_not_intro c5)).trans (aF c4);rw[e0];exact .zero H9.below _
  ·refine H7.m 0 ?_;refine Ao (by omega) ?_;apply Aa<;>intro c3
   ·refine H7.m 0 ?_;have H7:=H7.nilI Az .u8;refine H7.appI (i:=3) rfl sl_Ty_S_uint8 (hs.below H7.below) (by simp;omega) (by simp;omega) ?_;intro x_a2 x_c2 w10 H10;rw[aC]at H10 ⊢;refine H10.U 0 ?_;clear H10;intro w11 H11;refine⟨_,_,_,_,_,_,_,H11.cells (i:=0) rfl,?_⟩;refine H11.s 1 ?_;clear H11;intro w12 H12;refine H12.s 2 ?_;clear H12;intro w13 H13;refine⟨_,_,_,_,_,_,_,H13.cells (i:=1) rfl,?_⟩;refine⟨_,_,_,_,_,_,_,H13.cells (i:=2) rfl,?_⟩;have e0:Hz bits ⟨p_0,p_1,p_2,p_3,d⟩ size=(⟨p_0,p_1,p_2,p_3,d⟩,.zero,0):=(aE (not_not_intro c5)).trans ((aE c4).trans (aF c3));rw[e0];exact⟨x_a2,x_c2,none,0,H13.capI (i:=3) rfl,aG _,rfl,((H13.shareI (i:=3) rfl).fin).imp fun _ h=>⟨h.1,.nil⟩⟩
   ·obtain⟨k,hk⟩:∃k,k=(size-(headN p_1:Nat)).toNat:=⟨_,rfl⟩;have e0:Hz bits ⟨p_0,p_1,p_2,p_3,d⟩ size=(⟨p_0,Jb (Sh p_1) false,p_2,p_3,d.take k⟩,⟨p_0,Jb false (Agr p_1),p_2,p_3+(size-headN p_1),d.drop k⟩,0):=by
     rw[hk];exact(aE (not_not_intro c5)).trans ((aE c4).trans (aE c3))
    rw[e0];have hoff:=c5.2.2.2.2.2;refine Ao (by omega) ?_;refine⟨fun first rest w23=>∃b3 b4,first=⟨b3,0,none⟩/\rest=⟨b4,0,none⟩/\St (fun _=>False) [] w w23 [.blk b Ap [(.int .i64 p_0),(.int .i64 p_1),(.int .i64 p_2),(.int .i64 p_3),(.slice p_4_a d.length p_4_c)],.blk b1 Ap [(.int .i64 (0:Int)),(.int .i64 (0:Int)),(.int .i64 (0:Int)),(.int .i64 (0:Int)),(.slice none 0 0)],.blk b2 Ap [(.int .i64 (0:Int)),(.int .i64 (0:Int)),(.int .i64 (0:Int)),(.int .i64 (0:Int)),(.slice none 0 0)],
     .blk b3 Ap [(.int .i64 p_0),(.int .i64 p_1),(.int .i64 p_2),(.int .i64 p_3),(.slice p_4_a d.length p_4_c)],.blk b4 Ap [(.int .i64 p_0),(.int .i64 p_1),(.int .i64 p_2),(.int .i64 p_3),(.slice p_4_a d.length p_4_c)]] (fun _=>True),?_,?_⟩
    ·rintro _ _ _ w23 ⟨b3,b4,rfl,rfl,H23⟩;refine H23.m 0 ?_;refine⟨⟨by omega,by omega⟩,?_⟩;have hx1:(d.take k).length=(size-(headN p_1:Nat)).toNat-0:=by simp;omega
     rw[<-hx1];have H23:=H23.nilI Az .u8;refine H23.appI (i:=5) rfl sl_Ty_S_uint8 ((hs.below H23.below).pre _ _) (by simp;omega) (by simp;omega) ?_;intro x_a4 x_c4 w24 H24;rw[aC]at H24 ⊢;refine H24.U 3 ?_;clear H24;intro w25 H25;refine H25.m 0 ?_;refine⟨⟨by omega,by omega⟩,?_⟩;have hx2:(d.drop k).length=d.length-(size-(headN p_1:Nat)).toNat:=by simp;omega
     rw[<-hx2,<-hk];have H25:=H25.nilI Az .u8;refine H25.appI (i:=6) rfl sl_Ty_S_uint8 ((hs.below H25.below).tail hcap) (by simp;omega) (by simp;omega) ?_;intro x_a6 x_c6 w26 H26;rw[aC]at H26 ⊢;refine H26.U 4 ?_;clear H26;intro w27 H27;refine H27.l 0 ?_;refine Ao (by omega) ?_;refine H27.U 4 ?_;clear H27;intro w28 H28;refine⟨fun w33=>St (fun _=>False) [] w w33 [.blk b Ap [(.int .i64 p_0),(.int .i64 p_1),(.int .i64 p_2),(.int .i64 p_3),(.slice p_4_a d.length p_4_c)],.blk b1 Ap [(.int .i64 (0:Int)),(.int .i64 (0:Int)),(.int .i64 (0:Int)),(.int .i64 (0:Int)),(.slice none 0 0)],.blk b2 Ap [(.int .i64 (0:Int)),(.int .i64 (0:Int)),(.int .i64 (0:Int)),(.int .i64 (0:Int)),(.slice none 0 0)],
      .blk b3 Ap [(.int .i64 p_0),(.int .i64 (Jb (Sh p_1) false)),(.int .i64 p_2),(.int .i64 p_3),(.slice x_a4 (d.take k).length x_c4)],.blk b4 Ap [(.int .i64 p_0),(.int .i64 (Jb false (Agr p_1))),(.int .i64 p_2),(.int .i64 (p_3+(size-(headN p_1:Nat)))),(.slice x_a6 (d.drop k).length x_c6)],.ints Az .u8 x_a4 x_c4 (d.take k),.ints Az .u8 x_a6 x_c6 (d.drop k)] (fun _=>True),?_,?_⟩
     ·rintro _ w33 H33;refine H33.drew ?_;clear H33;intro w34 H34;refine⟨fun x=>x<w34.heap.size/\x∉[b1,b2],?_⟩;have f34:=Fr.refl [b1,b2] w34;refine⟨_,_,_,_,_,_,_,H34.cells (i:=3) rfl,?_⟩;refine⟨⟨H34.lt (i:=4) rfl rfl,Bdc (H34.ne (i:=4) (j:=1) rfl rfl (by decide) rfl rfl) (H34.ne (i:=4) (j:=2) rfl rfl (by decide) rfl rfl)⟩,?_⟩;refine⟨_,_,_,_,_,_,_,H34.cells (i:=4) rfl,?_⟩;refine H34.storeF (i:=1) rfl (by rfl) (by rfl) ?_;intro w35 g35 H35;have f35:=f34.tr g35 (by simp);refine⟨f35.keeps,?_⟩;refine H35.storeF (i:=2) rfl (by rfl) (by rfl) ?_;intro w36 g36 H36;have f36:=f35.tr g36 (by simp);refine⟨f36.keeps,?_⟩;refine⟨_,_,_,_,_,_,_,H36.cells (i:=1) rfl,?_⟩;refine⟨_,_,_,_,_,_,_,H36.cells (i:=2) rfl,?_⟩;have k1:=H36.capI (i:=5) rfl;have k2:=H36.capI (i:=6) rfl;have H36:=H36.shareI (i:=5) rfl;have H36:=H36.shareI (i:=6) rfl;exact⟨x_a4,x_c4,x_a6,x_c6,k1,k2,rfl,H36.fin.imp fun _ h=>⟨h.2.1,h.1⟩⟩
     ·refine H28.l 0 ?_;refine Aw ?_;apply Aa<;>intro c2
      ·refine H28.U 3 ?_;clear H28;intro w29 H29;refine H29.U 4 ?_;clear H29;intro w30 H30;subst c2;exact H30
      ·refine Aw ?_;apply Aa<;>intro c1
       ·refine H28.U 4 ?_;clear H28;intro w31 H31;subst c1;exact H31
       ·refine Aw ?_;apply Aa<;>intro c
        ·refine H28.U 3 ?_;clear H28;intro w32 H32;subst c;exact H32
        ·have c3:p_1=3:=by have:=c5.2.2.1;omega
         subst c3;exact H28
    ·refine H7.drew ?_;clear H7;intro w14 H14;refine⟨(· <w14.heap.size),?_⟩;refine⟨H14.lt (i:=0) rfl rfl,?_⟩;refine⟨_,_,_,_,_,_,_,H14.cells (i:=0) rfl,?_⟩;refine⟨H14.lt (i:=0) rfl rfl,?_⟩;refine⟨_,_,_,_,_,_,_,H14.cells (i:=0) rfl,?_⟩;refine⟨?_,?_,trivial⟩
     ·refine H14.allocN ?_;intro b3 w15 hN3 hb15 H15;refine⟨hb15.keeps,?_⟩;refine H15.allocN ?_;intro b4 w16 hN4 hb16 H16;have hb16:=Ax hb15 (aG _) hb16;refine⟨hb16.keeps,?_⟩;refine H16.storeF (i:=3) rfl (by rfl) (by rfl) ?_;intro w17 g17 H17;have hb17:=hb16.frs g17 (by simp[hN3]) hb16.size;refine⟨hb17.keeps,?_⟩;refine H17.s 4 ?_;intro w18 H18;exact⟨b3,b4,rfl,rfl,H18⟩
     ·refine H14.allocN ?_;intro b5 w19 hN5 hb19 H19;refine⟨hb19.keeps,?_⟩;refine H19.allocN ?_;intro b6 w20 hN6 hb20 H20;have hb20':=Ax hb19 (aG _) hb20;refine⟨hb20'.keeps,?_⟩;refine H20.storeF (i:=4) rfl (by rfl) (by rfl) ?_;intro w21 g21 H21;have hb21:=hb20'.frs g21 (by have:=hb19.size;simp[hN6];omega) hb20'.size;refine⟨hb21.keeps,?_⟩;refine H21.s 3 ?_;intro w22 H22;refine⟨b6,b5,rfl,rfl,?_⟩;refine H22.sub (fun i=>[0,1,2,4,3].getD i 0) ?_ (by intro i j hi hj;simp only[aQ,cU]at hi hj;rcases i with _|_|_|_|_|i<;>rcases j with _|_|_|_|_|j<;>simp<;>omega);rintro(_|_|_|_|_|_) r h<;>first|exact h|cases h
end
def Bn(x:Rg):List Value:=[.int .i64 x.sn,.int .i64 x.f,.int .i64 x.t]
theorem Br:Enc Bn 3:=⟨fun _=>rfl,fun _=>rfl⟩
theorem Axy{x y:Operand}{a b:Rg}{F:Bool->Prop}(h:F (decide (a≠b))):EqP Tryz.prog .neq Af x y (.agg #[.int .i64 a.sn,.int .i64 a.f,.int .i64 a.t]) (.agg #[.int .i64 b.sn,.int .i64 b.f,.int .i64 b.t]) F:=by
 refine Auu (k':=.i64) (e:=Ib) (xs:=[a.sn,a.f,a.t]) (ys:=[b.sn,b.f,b.t]) (by kernel_rfl) (by kernel_rfl) (by kernel_rfl) (by kernel_rfl) (by kernel_rfl) (by kernel_rfl) rfl ?_;have e:(!decide ([a.sn,a.f,a.t]=[b.sn,b.f,b.t]))=decide (a≠b):=by
  rw[<-decide_not,bT];cases a;cases b;simp
 rw[e];exact h
section
variable{l_a b_a:Option Addr}{l m:List Rg}{l_c b_c:Nat}{k:Int}{w:World}
theorem Hb(hs:SlR (CE Bn) 3 w l_a l)(hl:l.length<=140737488355328):Calls Tryz.prog Ew #[(.slice l_a l.length l_c)] w fun e w'=>e=.returned (.bool (Cc (-1) l))/\Below w.heap.size w w':=by
 apply Aes;have H:=St.nil w;refine⟨fun x=>((l.length-x).toNat,fun w1=>∃k:Nat,k<=l.length/\x=k/\Cc (-1) l=Cc (prevT l k) (l.drop k)/\ -1<=prevT l k/\Cg w w1 []),⟨0,by omega,rfl,rfl,bV _,H⟩,?_⟩;clear H;rintro _ x w1 ⟨k,hk,rfl,hI,hpv,H1⟩;apply Aa<;>intro c4
 ·have hlt:k<l.length:=by omega
  rw[Agb _ _ _ hlt]at hI;have hp:prevT l k=-1\/0<k:=by rcases k with _|k<;>simp[prevT]
  refine ixE (hs.belowE H1.below) k rfl hlt fun b s hsk hb=>?_;obtain rfl:l[k]=s:=by rw[List.getElem?_eq_getElem hlt]at hsk;injection hsk
  refine⟨_,_,_,hb,?_⟩;refine H1.alloc ?_;clear H1;intro b1 w2 H2;refine H2.s 0 ?_;clear H2;intro w3 H3;refine H3.drew ?_;clear H3;intro w4 H4;have no:(l[k].f<0\/l[k].f>=l[k].t\/(0<k/\l[k].f<=prevT l k))->Cc (-1) l=false:=fun h=>by
   rw[hI,aI,Bool.false_and];rintro⟨h1,h2⟩;rcases h with h|h|h
   ·omega
   ·omega
   ·omega
  have go:∀ {w5:World},St (fun _=>False) [] w w5 [.blk b1 Af (Bn l[k])] (fun _=>True)->0<=l[k].f->l[k].f<l[k].t->(0<k->prevT l k<l[k].f)->∃k2:Nat,k2<=l.length/\(k:Int)+1=k2/\Cc (-1) l=Cc (prevT l k2) (l.drop k2)/\ -1<=prevT l k2/\Cg w w5 []:=fun H5 h1 h2 h3=>by
   refine⟨k+1,by omega,by omega,?_,by rw[Lf hlt];omega,H5.fin⟩;rw[hI,Lf hlt,aM,bH];refine⟨?_,h2⟩;rcases hp with hp|hp
   ·omega
   ·exact h3 hp
  refine H4.l 0 ?_;apply Aa<;>intro c3
  ·exact⟨by rw[no (.inl c3)],H4.below⟩
  refine H4.l 0 ?_;refine H4.l 0 ?_;apply Aa<;>intro c2
  ·exact⟨by rw[no (.inr (.inl c2))],H4.below⟩
  apply Aa<;>intro c1
  ·refine H4.l 0 ?_;refine Ao (by omega) ?_;refine ixE (hs.belowE H4.below) (k-1) (by omega) (by omega) fun b s hsk hb=>?_;refine Kh hb 2 rfl ?_;have hs2:s.t=prevT l k:=by
    rcases k with _|k
    ·omega
    ·simp only[dL]at hsk;simp[prevT,hsk]
   apply Aa<;>intro c
   ·exact⟨by rw[no (.inr (.inr ⟨by omega,by rw[<-hs2];exact c⟩))],H4.below⟩
   ·refine Ao (by omega) ?_;exact⟨go H4 (by omega) (by omega) fun _=>by omega,by dsimp only;omega⟩
  ·refine Ao (by omega) ?_;exact⟨go H4 (by omega) (by omega) fun h=>by omega,by dsimp only;omega⟩
 ·obtain rfl:k=l.length:=by omega
  rw[bU]at hI;exact⟨by rw[hI];rfl,H1.below⟩
theorem Sm(hs:SlR (CE Bn) 3 w l_a l)(hm:SlR (CE Bn) 3 w b_a m)(hl:l.length<=140737488355328):Calls Tryz.prog Jg #[(.slice l_a l.length l_c),(.slice b_a m.length b_c)] w fun e w'=>e=.returned (.bool (decide (l=m)))/\Below w.heap.size w w':=by
 apply Aa0;have H:=St.nil w;apply An<;>intro c2
 ·exact⟨Hd (fun h=>by subst h;omega),H.below⟩
 ·have hlen:l.length=m.length:=by omega
  refine⟨fun i=>((l.length-i).toNat,fun w1=>∃k:Nat,k<=l.length/\i=k/\l.take k=m.take k/\Cg w w1 []),⟨0,by omega,rfl,rfl,H⟩,?_⟩;clear H;rintro _ i w1 ⟨k,hk,rfl,hI,H1⟩;apply Aa<;>intro c1
  ·have hlt:k<l.length:=by omega
   have hlt2:k<m.length:=by omega
   refine H1.drew ?_;clear H1;intro w2 H2;refine ixE (hs.belowE H2.below) k rfl hlt fun b s hsk hb=>?_;obtain rfl:l[k]=s:=by rw[List.getElem?_eq_getElem hlt]at hsk;injection hsk
   refine⟨_,_,_,hb,?_⟩;refine ixE (hm.belowE H2.below) k rfl hlt2 fun b' s hsk hb'=>?_;obtain rfl:m[k]=s:=by rw[List.getElem?_eq_getElem hlt2]at hsk;injection hsk
   refine⟨_,_,_,hb',?_⟩;refine Axy ?_;apply Aa<;>intro c
   ·exact⟨Hd (fun e=>c (by subst e;rfl)),H2.below⟩
   ·refine Ao (by omega) ?_;refine⟨⟨k+1,by omega,by omega,?_,H2⟩,by dsimp only;omega⟩;rw[cS,cS,hI,List.getElem?_eq_getElem hlt,List.getElem?_eq_getElem hlt2,Decidable.not_not.1 c]
  ·obtain rfl:k=l.length:=by omega
   rw[bI,hlen,bI]at hI;exact⟨Apv hI,H1.below⟩
end
def RetG(w:World)(l:List Rg)(er:Int):Ending->World->Prop:=fun e w'=>∃a c,l.length<=c/\e=.returned (.tuple #[.slice a l.length c,.int .i64 er])/\Ti w w' fun w=>SlR (CE Bn) 3 w a l
theorem RetG.nil{w w':World}(b:Below w.heap.size w w')(er:Int):RetG w [] er (.returned (.tuple #[.slice none 0 0,.int .i64 er])) w':=
 ⟨none,0,aG _,rfl,((St.nil w).pass b).imp fun _ _=>.inl rfl⟩
theorem RetG.of{w w':World}{R:List Res}{P:World->Prop}(H:St (fun _=>False) [] w w' R P){i:Nat}{a:Option Addr}{c:Nat}{l:List Rg}(hi:R[i]?=some (.els Bn Af 3 a c l))(er:Int):RetG w l er (.returned (.tuple #[.slice a l.length c,.int .i64 er])) w':=⟨a,c,H.capE hi,rfl,(H.freshRow hi).imp fun _ h=>Sb Br h⟩
section
variable{l_a:Option Addr}{l:List Rg}{l_c:Nat}{w:World}{sn len:Int}
theorem Gx(hs:SlR (CE Bn) 3 w l_a l)(hl:l.length<=140737488355328):Calls Tryz.prog Ff #[(.slice l_a l.length l_c)] w fun e w'=>e=.returned (.bool (Cc (-1) l))/\Below w.heap.size w w':=by
 apply Ag4;have H:=St.nil w;refine⟨fun x=>((l.length-x).toNat,fun w1=>∃k:Nat,k<=l.length/\x=k/\Cc (-1) l=Cc (prevT l k) (l.drop k)/\ -1<=prevT l k/\Cg w w1 []),⟨0,by omega,rfl,rfl,bV _,H⟩,?_⟩;clear H;rintro _ x w1 ⟨k,hk,rfl,hI,hpv,H1⟩;apply Aa<;>intro c4
 ·have hlt:k<l.length:=by omega
  rw[Agb _ _ _ hlt]at hI;have hp:prevT l k=-1\/0<k:=by rcases k with _|k<;>simp[prevT]
  have no:(l[k].f<0\/l[k].f>=l[k].t\/(0<k/\l[k].f<=prevT l k))->Cc (-1) l=false:=fun h=>by
   rw[hI,aI,Bool.false_and];rintro⟨h1,h2⟩;rcases h with h|h|h
   ·omega
   ·omega
   ·omega
  have go:∀ {w5:World},St (fun _=>False) [] w w5 [] (fun _=>True)->0<=l[k].f->l[k].f<l[k].t->(0<k->prevT l k<l[k].f)->∃k2:Nat,k2<=l.length/\(k:Int)+1=k2/\Cc (-1) l=Cc (prevT l k2) (l.drop k2)/\ -1<=prevT l k2/\Cg w w5 []:=fun H5 h1 h2 h3=>by
   refine⟨k+1,by omega,by omega,?_,by rw[Lf hlt];omega,H5⟩;rw[hI,Lf hlt,aM,bH];refine⟨?_,h2⟩;rcases hp with hp|hp
   ·omega
   ·exact h3 hp
  refine H1.drew ?_;clear H1;intro w2 H2;have rd:∀ {F:Addr->Prop},(∀b,cellsAt w2 (b.add ((k:Int).toNat*3)) 0 (Bn l[k])->F b)->kIx l_a l.length (k:Int) F:=fun h=>by
   refine ixE (hs.belowE H2.below) k rfl hlt fun b s hsk hb=>?_;obtain rfl:l[k]=s:=by rw[List.getElem?_eq_getElem hlt]at hsk;injection hsk
   exact h b hb
  refine rd fun b hb=>Kh hb 1 rfl ?_;apply Aa<;>intro c3
  ·exact⟨by rw[no (.inl c3)],H2.below⟩
  refine rd fun b hb=>Kh hb 1 rfl ?_;refine rd fun b hb=>Kh hb 2 rfl ?_;apply Aa<;>intro c2
  ·exact⟨by rw[no (.inr (.inl c2))],H2.below⟩
  apply Aa<;>intro c1
  ·refine rd fun b hb=>Kh hb 1 rfl ?_;refine Ao (by omega) ?_;refine ixE (hs.belowE H2.below) (k-1) (by omega) (by omega) fun b s hsk hb=>?_;refine Kh hb 2 rfl ?_;have hs2:s.t=prevT l k:=by
    rcases k with _|k
    ·omega
    ·simp only[dL]at hsk;simp[prevT,hsk]
   apply Aa<;>intro c
   ·exact⟨by rw[no (.inr (.inr ⟨by omega,by rw[<-hs2];exact c⟩))],H2.below⟩
   ·refine Ao (by omega) ?_;exact⟨go H2 (by omega) (by omega) fun _=>by omega,by dsimp only;omega⟩
  ·refine Ao (by omega) ?_;exact⟨go H2 (by omega) (by omega) fun h=>by omega,by dsimp only;omega⟩
 ·obtain rfl:k=l.length:=by omega
  rw[bU]at hI;exact⟨by rw[hI];rfl,H1.below⟩
theorem Sq(hs:SlR (CE Bn) 3 w l_a l)(hl:l.length<=1000000):Calls Tryz.prog Ck #[(.slice l_a l.length l_c)] w fun e w'=>∃a c,e=.returned (.slice a l.length c)/\Cg w w' [.els Bn Af 3 a c l]:=by
 apply Ln;have H:=St.nil w;cases l_a with
 |none=>
  obtain rfl:l=[]:=by
   rcases hs with h|⟨b,hb,_⟩
   ·exact h
   ·cases hb
  exact⟨none,0,rfl,H.nilE Bn Af 3⟩
 |some p=>
  refine Al (fun h=>by cases h) (fun _=>?_);refine H.alloc ?_;clear H;intro b w1 H1;have H1:=H1.litE Br (i:=0) [] rfl (by decide);refine H1.appE Br (i:=0) rfl Bo (hs.belowE H1.below) (by simp;omega) (by simp;omega) ?_;intro x_a x_c w2 H2;exact⟨x_a,x_c,rfl,H2⟩
theorem Wm(hs:SlR (CE Bn) 3 w l_a l)(hl:l.length<=1000000):Calls Tryz.prog Oo #[(.slice l_a l.length l_c),(.int .i64 sn),(.int .i64 len)] w (RetG w (Alj l sn len).1 (Alj l sn len).2):=by
 apply Amj;have H:=St.nil w;refine(Gx hs (by omega)).mono ?_;rintro _ w1 ⟨rfl,hb1⟩;have H1:=H.pass hb1;clear H;refine⟨_,rfl,?_⟩;apply Bq<;>intro c6
 ·have e:Alj l sn len=([],4):=aF c6;rw[e];exact .nil H1.below _
 have e0:Alj l sn len=if len<0\/(0<l.length/\len<prevT l l.length) then ([],3) else (gapsS sn l 0 len,0):=aE (by simp[c6])
 rw[e0];refine⟨fun w2=>w2=w1/\¬(len<0\/(0<l.length/\len<prevT l l.length)),?_,?_⟩
 ·rintro _ w2 ⟨rfl,hno⟩;rw[aE hno];have H1:=H1.nilE Bn Af 3;refine⟨fun out_a out_l out_c at1 i=>((l.length-i).toNat,fun w3=>∃(k:Nat) (out:List Rg),k<=l.length/\i=k/\out_l=out.length/\out.length<=k/\gapsS sn l 0 len=out++gapsS sn (l.drop k) at1 len/\Cg w w3 [.els Bn Af 3 out_a out_c out]),⟨0,[],by omega,rfl,rfl,by simp,rfl,H1⟩,?_⟩;clear H1;rintro _ out_a out_l out_c at1 i w3 ⟨k,out,hk,rfl,rfl,hol,hI,H3⟩;apply Aa<;>intro c5
  ·have hlt:k<l.length:=by omega
   rw[Av6 _ _ _ _ _ hlt]at hI;have rd:∀ {w2:World} {F:Addr->Prop},Below w.heap.size w w2->(∀b,cellsAt w2 (b.add ((k:Int).toNat*3)) 0 (Bn l[k])->F b)->kIx l_a l.length (k:Int) F:=fun hb2 h=>by
    refine ixE (hs.belowE hb2) k rfl hlt fun b s hsk hb=>?_;obtain rfl:l[k]=s:=by rw[List.getElem?_eq_getElem hlt]at hsk;injection hsk
    exact h b hb
   refine rd H3.below fun b hb=>Kh hb 1 rfl ?_;apply Aa<;>intro c3
   ·rw[aF c3]at hI;refine rd H3.below fun b hb=>Kh hb 1 rfl ?_;refine H3.alloc ?_;clear H3;intro b3 w4 H4;refine H4.appEB Br (i:=0) (j:=1) rfl [⟨sn,at1,l[k].f⟩] rfl Bo rfl (by simp;omega) (by simp;omega) ?_;intro x_a x_c w5 H5;refine rd H5.below fun b hb=>Kh hb 2 rfl ?_;refine Ao (by omega) ?_;refine⟨⟨k+1,_,by omega,by omega,rfl,by simp;omega,by rw[hI];simp,H5.sub (fun i=>i) ?_ (fun _ _ _ _ h=>h)⟩,by show Int.toNat _<Int.toNat _;omega⟩;rintro(_|_) r h<;>first|exact h|cases h
   ·rw[aE c3]at hI;refine rd H3.below fun b hb=>Kh hb 2 rfl ?_;refine Ao (by omega) ?_;exact⟨⟨k+1,out,by omega,by omega,rfl,by omega,hI,H3⟩,by show Int.toNat _<Int.toNat _;omega⟩
  ·obtain rfl:k=l.length:=by omega
   rw[bU]at hI;apply Aa<;>intro c4
   ·refine H3.alloc ?_;clear H3;intro b6 w6 H6;refine H6.appEB Br (i:=0) (j:=1) rfl [⟨sn,at1,len⟩] rfl Bo rfl (by simp;omega) (by simp;omega) ?_;intro x_a1 x_c1 w7 H7;rw[show gapsS sn l 0 len=out++[⟨sn,at1,len⟩] by rw[hI];simp[gapsS,c4]];exact .of H7 (i:=0) rfl 0
   ·rw[show gapsS sn l 0 len=out by rw[hI];simp[gapsS,c4]];exact .of H3 (i:=0) rfl 0
 ·apply Aa<;>intro c2
  ·rw[aF (.inl c2)];exact .nil H1.below _
  ·refine Aa (fun c1=>?_) (fun c1=>⟨rfl,by omega⟩);have hlt:l.length-1<l.length:=by omega
   refine Ao (by omega) ?_;refine ixE (hs.belowE H1.below) (l.length-1) (by omega) hlt fun b s hsk hb=>?_;refine Kh hb 2 rfl ?_;have hp:prevT l l.length=s.t:=by
    have:=Lf hlt;rw[show l.length-1+1=l.length by omega]at this;rw[this];rw[List.getElem?_eq_getElem hlt]at hsk;injection hsk with hsk;rw[hsk]
   apply Aa<;>intro c
   ·rw[aF (.inr ⟨by omega,by rw[hp];exact c⟩)];exact .nil H1.below _
   ·exact⟨rfl,by rw[hp];omega⟩
end
section
variable{l_a:Option Addr}{l:List Rg}{l_c:Nat}{w:World}{sn len:Int}
theorem Aai(hs:SlR (CE Bn) 3 w l_a l)(hl:l.length<=1000000):Calls Tryz.prog Oi #[(.slice l_a l.length l_c),(.int .i64 sn),(.int .i64 len)] w (RetG w (Alj l sn len).1 (Alj l sn len).2):=by
 apply Ahp;have H:=St.nil w;refine(Hb hs (by omega)).mono ?_;rintro _ w1 ⟨rfl,hb1⟩;have H1:=H.pass hb1;clear H;refine⟨_,rfl,?_⟩;apply Bq<;>intro c6
 ·have e:Alj l sn len=([],4):=aF c6;rw[e];exact .nil H1.below _
 have e0:Alj l sn len=if len<0\/(0<l.length/\len<prevT l l.length) then ([],3) else (gapsS sn l 0 len,0):=aE (by simp[c6])
 rw[e0];refine⟨fun w2=>w2=w1/\¬(len<0\/(0<l.length/\len<prevT l l.length)),?_,?_⟩
 ·rintro _ w2 ⟨rfl,hno⟩;rw[aE hno,<-Aq4];refine(Sq (hs.belowE H1.below) hl).mono ?_;rintro _ w3 ⟨ca,cc,rfl,K⟩;have H3:=H1.callR K;clear H1;refine⟨_,_,_,rfl,?_⟩;refine H3.alloc ?_;clear H3;intro b1 w4 H4;refine H4.appEB Br (i:=0) (j:=1) rfl [⟨0,len,len⟩] rfl Bo rfl (by simp;omega) (by simp;omega) ?_;intro x_a x_c w5 H5;have H5:=(H5.shareE Br (i:=0) rfl).fin;obtain⟨m,hm⟩:∃m,m=l++[⟨0,len,len⟩]:=⟨_,rfl⟩;have hml:m.length=l.length+1:=by rw[hm];simp
  rw[<-hm]at H5 ⊢;have H5:=H5.nilE Bn Af 3;refine⟨fun out_a out_l out_c at1 i=>((m.length-i).toNat,fun w3=>∃(k:Nat) (out:List Rg),k<=m.length/\i=k/\out_l=out.length/\out.length<=k/\Aac sn m 0=out++Aac sn (m.drop k) at1/\St (fun _=>False) [] w w3 [.els Bn Af 3 out_a out_c out] (fun w=>SlR (CE Bn) 3 w x_a m)),⟨0,[],by omega,rfl,rfl,by simp,rfl,H5.imp fun _ h=>h.1⟩,?_⟩;clear H5;rintro _ out_a out_l out_c at1 i w6 ⟨k,out,hk,rfl,rfl,hol,hI,H6⟩;apply Aa<;>intro c4
  ·have hlt:k<m.length:=by omega
   rw[Awk _ _ _ _ hlt]at hI;refine ixE H6.get k rfl hlt fun b s hsk hb=>?_;obtain rfl:m[k]=s:=by rw[List.getElem?_eq_getElem hlt]at hsk;injection hsk
   refine⟨_,_,_,hb,?_⟩;refine H6.alloc ?_;clear H6;intro b3 w7 H7;refine H7.s 1 ?_;clear H7;intro w8 H8;refine H8.l 1 ?_;apply Aa<;>intro c3
   ·rw[aF c3]at hI;refine H8.l 1 ?_;refine H8.alloc ?_;clear H8;intro b4 w9 H9;refine H9.appEB Br (i:=0) (j:=2) rfl [⟨sn,at1,m[k].f⟩] rfl Bo rfl (by simp;omega) (by simp;omega) ?_;intro x_a1 x_c1 w10 H10;refine H10.l 1 ?_;refine Ao (by omega) ?_;refine⟨⟨k+1,_,by omega,by omega,rfl,by simp;omega,by rw[hI];simp,H10.sub (fun i=>i) ?_ (fun _ _ _ _ h=>h)⟩,by show Int.toNat _<Int.toNat _;omega⟩;rintro(_|_) r h<;>first|exact h|cases h
   ·rw[aE c3]at hI;refine H8.l 1 ?_;refine Ao (by omega) ?_;refine⟨⟨k+1,out,by omega,by omega,rfl,by omega,hI,H8.sub (fun i=>i) ?_ (fun _ _ _ _ h=>h)⟩,by show Int.toNat _<Int.toNat _;omega⟩;rintro(_|_) r h<;>first|exact h|cases h
  ·obtain rfl:k=m.length:=by omega
   rw[bU]at hI;rw[show Aac sn m 0=out by rw[hI];simp[Aac]];exact .of H6 (i:=0) rfl 0
 ·apply Aa<;>intro c2
  ·rw[aF (.inl c2)];exact .nil H1.below _
  ·refine Aa (fun c1=>?_) (fun c1=>⟨rfl,by omega⟩);have hlt:l.length-1<l.length:=by omega
   refine Ao (by omega) ?_;refine ixE (hs.belowE H1.below) (l.length-1) (by omega) hlt fun b s hsk hb=>?_;refine Kh hb 2 rfl ?_;have hp:prevT l l.length=s.t:=by
    have:=Lf hlt;rw[show l.length-1+1=l.length by omega]at this;rw[this];rw[List.getElem?_eq_getElem hlt]at hsk;injection hsk with hsk;rw[hsk]
   apply Aa<;>intro c
   ·rw[aF (.inr ⟨by omega,by rw[hp];exact c⟩)];exact .nil H1.below _
   ·exact⟨rfl,by rw[hp];omega⟩
end
section
variable{w:World}
theorem Aue{n:Nat}(hn:n<=1000000):Calls Tryz.prog Dy #[(.slice none 0 0),(.int .i64 (n:Int))] w fun e w'=>∃a c,e=.returned (.slice a 0 c)/\Cg w w' [.els Bn Af 3 a c []]:=by
 apply Lq;have H:=St.nil w;refine⟨fun w1=>w1=w,?_,Aa (fun c=>by omega) (fun c=>rfl)⟩;rintro _ w1 rfl;refine Ao (by omega) ?_;refine Ao (by omega) ?_;refine Aa (fun c1=>?_) (fun c1=>⟨none,0,rfl,H.nilE Bn Af 3⟩);refine⟨⟨by omega,by omega⟩,?_⟩;rw[Ak8];refine H.appZ0 Bo (k2:=.i64) (by kernel_rfl) n (by omega) (by omega) (by omega) (by omega) ?_;intro x_a x_c w2 H2;refine⟨⟨by omega,by omega⟩,?_⟩;rw[Ak8];have H2:=H2.shrink (i:=0) rfl 0 (aX _);exact⟨x_a,x_c,rfl,by simpa [Res.els] using H2⟩
def PartG(w:World)(p:Addr)(l:List Rg):Prop:=∃a c,w.cell? p=some (.slice a l.length c)/\SlR (CE Bn) 3 w a l
theorem PartG.below{w w':World}{p:Addr}{l:List Rg}(h:PartG w p l)(hb:Below w.heap.size w w'):PartG w' p l:=by
 obtain⟨a,c,h1,h2⟩:=h;exact⟨a,c,hb.get h1,h2.belowE hb⟩
theorem Aqi{pa:Option Addr}{pc:Nat}{ps:List (List Rg)}(hs:SlR PartG 1 w pa ps)(hl:ps.flatten.length<=1000000)(hpl:ps.length<=1000):Calls Tryz.prog Du #[(.slice pa ps.length pc)] w fun e w'=>∃a c,e=.returned (.slice a ps.flatten.length c)/\Cg w w' [.els Bn Af 3 a c ps.flatten]:=by
 apply Kt;have H:=St.nil w;have part:∀k (hk:k<ps.length),(ps.take (k+1)).flatten=(ps.take k).flatten++ps[k]:=fun k hk=>by
  rw[cS,List.getElem?_eq_getElem hk,Option.toList_some,List.flatten_append];simp
 have le:∀k,(ps.take k).flatten.length<=ps.flatten.length:=fun k=>by
  have:ps.flatten.length=(ps.take k).flatten.length+(ps.drop k).flatten.length:=by rw[<-aP,<-List.flatten_append,bR]
  omega
 have rd:∀ {w2:World} (k:Nat) (hk:k<ps.length) {F:Addr->Prop},Below w.heap.size w w2->(∀b,PartG w2 (b.add ((k:Int).toNat*1)) ps[k]->F b)->kIx pa ps.length (k:Int) F:=fun k hk F hb2 h=>by
  refine ixE (hs.keep fun _ _ hc=>hc.below hb2) k rfl hk fun b s hsk hb=>?_;obtain rfl:ps[k]=s:=by rw[List.getElem?_eq_getElem hk]at hsk;injection hsk
  exact h b hb
 refine⟨fun size x=>((ps.length-x).toNat,fun w1=>∃k:Nat,k<=ps.length/\x=k/\size=((ps.take k).flatten.length:Nat)/\Cg w w1 []),⟨0,by omega,rfl,by simp,H⟩,?_⟩;clear H;rintro _ size x w1 ⟨k,hk,rfl,rfl,H1⟩;apply Aa<;>intro c2
 ·have hlt:k<ps.length:=by omega
  have e1:=cI List.length (part k hlt);have e2:=le (k+1);rw[aP]at e1;refine rd k hlt H1.below fun b hb=>?_;obtain⟨a,c,h1,h2⟩:=hb;refine⟨_,_,_,h1,?_⟩;refine Ao (by omega) ?_;refine Aa (fun c=>by omega) (fun c=>?_);refine Ao (by omega) ?_;exact⟨⟨k+1,by omega,by omega,by omega,H1⟩,by dsimp only;omega⟩
 ·obtain rfl:k=ps.length:=by omega
  rw[bI];refine(Aue hl).mono ?_;rintro _ w2 ⟨ga,gc,rfl,K⟩;have H2:=H1.callR K;clear H1;refine⟨_,_,_,rfl,?_⟩;refine⟨fun na nl nc x=>((ps.length-x).toNat,fun w3=>∃k:Nat,k<=ps.length/\x=k/\nl=(ps.take k).flatten.length/\Cg w w3 [.els Bn Af 3 na nc (ps.take k).flatten]),⟨0,by omega,rfl,by simp,by simpa using H2⟩,?_⟩;clear H2;rintro _ na nl nc x w3 ⟨k,hk2,rfl,rfl,H3⟩;apply Aa<;>intro c1
  ·have hlt:k<ps.length:=by omega
   have e1:=cI List.length (part k hlt);have e2:=le (k+1);rw[aP]at e1;refine rd k hlt H3.below fun b hb=>?_;obtain⟨a,c,h1,h2⟩:=hb;refine⟨_,_,_,h1,?_⟩;refine H3.appE Br (i:=0) rfl Bo h2 (by omega) (by omega) ?_;intro x_a2 x_c2 w4 H4;rw[<-part k hlt]at H4 ⊢;refine Ao (by omega) ?_;exact⟨⟨k+1,by omega,by omega,rfl,H4⟩,by show Int.toNat _<Int.toNat _;omega⟩
  ·obtain rfl:k=ps.length:=by omega
   rw[bI]at H3 ⊢;exact⟨_,_,rfl,H3⟩
end
section
variable{l_a:Option Addr}{l:List Rg}{l_c:Nat}{w:World}{r:Rg}
theorem Ajz(hs:SlR (CE Bn) 3 w l_a l)(hl:l.length<=900000):Calls Tryz.prog Rs #[(.slice l_a l.length l_c),(.agg #[.int .i64 r.sn,.int .i64 r.f,.int .i64 r.t])] w (RetG w (Ou l r).1 (Ou l r).2):=by
 apply Af0;have H:=St.nil w;refine H.alloc ?_;clear H;intro b w1 H1;refine⟨fun w5=>St (fun _=>False) [] w w5 [.blk b Af (Bn r)] (fun _=>True)/\Cc (-1) l=true/\Cc (-1) [r]=true,?_,?_⟩
 ·rintro _ w5 ⟨H5,hn,hr⟩;have e0:Ou l r=(Cn r.sn l r.f r.t,0):=aE (by simp[hn,hr]);rw[e0];have hrt:r.f<r.t:=by simp[Cc]at hr;exact hr.2
  have H5:=(H5.nilE Bn Af 3).nilE Bn Af 3;refine⟨fun ba bl bc ha hl_ hc x=>((l.length-x).toNat,fun w6=>∃(k:Nat) (before behind:List Rg) (f t:Int),k<=l.length/\x=k/\bl=before.length/\hl_=behind.length/\UnionI r.sn l r.f r.t k before behind f t/\
   St (fun _=>False) [] w w6 [.blk b Af (Bn ⟨r.sn,f,t⟩),.els Bn Af 3 ba bc before,.els Bn Af 3 ha hc behind] (fun _=>True)),⟨0,[],[],r.f,r.t,by omega,rfl,rfl,rfl,.zero hrt hn,H5⟩,?_⟩
  clear H5;rintro _ ba bl bc ha hl_ hc x w6 ⟨k,before,behind,f,t,hk,rfl,rfl,rfl,hI,H6⟩;have hlen:=hI.2.1;apply Aa<;>intro c4
  ·have hlt:k<l.length:=by omega
   obtain⟨s1,s2,s3⟩:=hI.step hlt;refine ixE (hs.belowE H6.below) k rfl hlt fun b2 s hsk hb=>?_;obtain rfl:l[k]=s:=by rw[List.getElem?_eq_getElem hlt]at hsk;injection hsk
   refine⟨_,_,_,hb,?_⟩;refine H6.alloc ?_;clear H6;intro b3 w7 H7;refine H7.s 3 ?_;clear H7;intro w8 H8;refine H8.l 0 ?_;refine H8.U 3 ?_;clear H8;intro w9 H9;refine H9.l 3 ?_;refine H9.l 0 ?_;refine Aw ?_;apply Aa<;>intro c3
   ·refine⟨_,_,_,H9.cells (i:=3) rfl,?_⟩;refine H9.alloc ?_;clear H9;intro b4 w10 H10;refine H10.appEB Br (i:=1) (j:=4) rfl [sn_ r.sn l[k]] rfl Bo rfl (by simp;omega) (by simp;omega) ?_;intro x_a x_c w11 H11;refine Ao (by omega) ?_;refine⟨⟨k+1,_,behind,f,t,by omega,by omega,rfl,rfl,s1 c3,H11.sub (fun i=>i) ?_ (fun _ _ _ _ h=>h)⟩,by show Int.toNat _<Int.toNat _;omega⟩;rintro(_|_|_|_) r h<;>first|exact h|cases h
   ·refine H9.l 3 ?_;refine H9.l 0 ?_;refine Aw ?_;apply Aa<;>intro c2
    ·refine⟨_,_,_,H9.cells (i:=3) rfl,?_⟩;refine H9.alloc ?_;clear H9;intro b5 w12 H12;refine H12.appEB Br (i:=2) (j:=4) rfl [sn_ r.sn l[k]] rfl Bo rfl (by simp;omega) (by simp;omega) ?_;intro x_a x_c w11 H11;refine Ao (by omega) ?_;refine⟨⟨k+1,before,_,f,t,by omega,by omega,rfl,rfl,s2 c3 c2,H11.sub (fun i=>i) ?_ (fun _ _ _ _ h=>h)⟩,by show Int.toNat _<Int.toNat _;omega⟩;rintro(_|_|_|_) r h<;>first|exact h|cases h
    ·refine H9.drew ?_;clear H9;intro w14 H14;refine⟨fun x=>x<w14.heap.size/\x∉[b],?_⟩;have f14:=Fr.refl [b] w14;refine H14.l 0 ?_;refine H14.l 3 ?_;refine H14.l 0 ?_;refine⟨⟨H14.lt (i:=3) rfl rfl,Ay3 (H14.ne (i:=3) (j:=0) rfl rfl (by decide) rfl rfl)⟩,?_⟩;refine H14.l 3 ?_;refine H14.setF (i:=0) rfl (by simp[Bn]) ?_;intro w15 g15 H15;have f15:=f14.tr g15 (by simp);refine⟨f15.keeps,?_⟩;refine H15.set (i:=0) rfl (by simp[Bn]) ?_;intro w16 H16;refine Ao (by omega) ?_;refine⟨⟨k+1,before,behind,_,_,by omega,by omega,rfl,rfl,s3 c3 c2,H16.sub (fun i=>i) ?_ (fun _ _ _ _ h=>h)⟩,by show Int.toNat _<Int.toNat _;omega⟩;rintro(_|_|_|_) r h<;>first|exact h|cases h
  ·obtain rfl:k=l.length:=by omega
   rw[hI.done];refine⟨_,_,_,H6.cells (i:=0) rfl,?_⟩;refine H6.alloc ?_;clear H6;intro b6 w17 H17;have H17:=H17.shareE Br (i:=1) rfl;have H17:=H17.shareE Br (i:=2) rfl;have H17:=H17.litE Br (i:=3) [⟨r.sn,f,t⟩] rfl (by simp[maxLen]);have H17:=H17.shareE Br (i:=3) rfl;refine H17.alloc ?_;clear H17;intro b7 w18 H18;have h18:=H18.get;have hp:SlR PartG 1 w18 (some ⟨b7,0,none⟩) [before,[⟨r.sn,f,t⟩],behind]:=by
    refine .inr ⟨_,rfl,fun i hi=>?_⟩;rcases i with _|_|_|i
    ·exact⟨_,_,H18.cell (i:=4) rfl rfl,h18.2.2.1⟩
    ·exact⟨_,_,H18.cell (i:=4) rfl rfl,h18.1⟩
    ·exact⟨_,_,H18.cell (i:=4) rfl rfl,h18.2.1⟩
    ·simp at hi;omega
   refine(Aqi (ps:=[before,[⟨r.sn,f,t⟩],behind]) hp (by simp;omega) (by simp)).mono ?_;rintro _ w19 ⟨ra,rc,rfl,K⟩;have H19:=H18.callR K;clear H18;refine⟨_,_,_,rfl,?_⟩;have ef:[before,[⟨r.sn,f,t⟩],behind].flatten=before++⟨r.sn,f,t⟩::behind:=by simp
   rw[ef]at H19 ⊢;exact .of H19 (i:=5) rfl 0
 ·refine(Hb (hs.belowE H1.below) (by omega)).mono ?_;rintro _ w2 ⟨rfl,hb2⟩;have H2:=H1.pass hb2;clear H1;refine⟨_,rfl,?_⟩;apply Bq<;>intro c1
  ·have e:Ou l r=([],4):=aF (.inl c1);rw[e];exact .nil H2.fin.below _
  ·refine⟨_,_,_,H2.cells (i:=0) rfl,?_⟩;refine H2.alloc ?_;clear H2;intro b1 w3 H3;refine(Hb (l:=[r]) (H3.slBlk Br (i:=1) _ rfl) (by simp)).mono ?_;rintro _ w4 ⟨rfl,hb4⟩;have H4:=H3.pass hb4;clear H3;refine⟨_,rfl,?_⟩;apply Bq<;>intro c
   ·have e:Ou l r=([],4):=aF (.inr c);rw[e];exact .nil H4.fin.below _
   ·refine⟨H4.sub (fun i=>i) ?_ (fun _ _ _ _ h=>h),c1,c⟩;rintro(_|_) r h<;>first|exact h|cases h
end
theorem Xt{A0:Nat->Prop}{w0 a c:World}{R R':List Res}{P P':World->Prop}(H:St A0 [] w0 a R P)(K:St A0 [] w0 c R' P'){i j b:Nat}{t:TypeId}{cs:List Value}(hi:R[i]?=some (.blk b t cs))(hj:R'[j]?=some (.blk b t cs)):KeepsB (fun x=>x<w0.heap.size\/x=b) a c:=fun p u hp hc=>by
 rcases hp with hp|hp
 ·exact Au9 H.below K.below p u hp hc
 ·have h1:a.heap[b]?=some (.cells cs.toArray t (0,0)):=H.ok i _ hi;have h2:c.heap[b]?=some (.cells cs.toArray t (0,0)):=K.ok j _ hj;subst hp;exact(World.cell?_of_block (w:=a) (h2.trans h1.symm)).trans hc
section
variable{l_a:Option Addr}{l:List Rg}{l_c:Nat}{w:World}{r:Rg}
theorem Aoa(hs:SlR (CE Bn) 3 w l_a l)(hl:l.length<=900000):Calls Tryz.prog Wh #[(.slice l_a l.length l_c),(.agg #[.int .i64 r.sn,.int .i64 r.f,.int .i64 r.t])] w (RetG w (Ou l r).1 (Ou l r).2):=by
 apply Aj8;have H:=St.nil w;have rd:∀(k:Nat) (hk:k<l.length) {F:Addr->Prop},(∀b,cellsAt w (b.add ((k:Int).toNat*3)) 0 (Bn l[k])->F b)->kIx l_a l.length (k:Int) F:=fun k hk F h=>by
  refine ixE hs k rfl hk fun b s hsk hb=>?_;obtain rfl:l[k]=s:=by rw[List.getElem?_eq_getElem hk]at hsk;injection hsk
  exact h b hb
 have mv:∀ {w2:World} {p:Addr} {vs:List Value},Below w.heap.size w w2->cellsAt w p 0 vs->cellsAt w2 p 0 vs:=fun hb h=>He (fun _ _ hp _=>hb.get hp) h;refine H.alloc ?_;clear H;intro b w1 H1;refine⟨fun w5=>St (fun _=>False) [] w w5 [.blk b Af (Bn r)] (fun _=>True)/\Cc (-1) l=true/\Cc (-1) [r]=true,?_,?_⟩
 ·rintro _ w5 ⟨H5,hn,hr⟩;have e0:Ou l r=(Cn r.sn l r.f r.t,0):=aE (by simp[hn,hr]);rw[e0];have hrt:r.f<r.t:=by simp[Cc]at hr;exact hr.2
  have hna:=Ba1 hn;refine⟨fun oa ol oc i w12=>∃(k:Nat) (out:List Rg),k<=l.length/\i=k/\ol=out.length/\out.length<=k/\Cn r.sn l r.f r.t=out++Cn r.sn (l.drop k) r.f r.t/\(∀hk:k<l.length,¬l[k].t<r.f)/\Cg w w12 [.blk b Af (Bn r),.els Bn Af 3 oa oc out],?_,?_⟩
  ·rintro _ oa ol oc i w12 ⟨k,out,hk,rfl,rfl,hol,hI,hst,H12⟩;refine⟨_,_,_,H12.cells (i:=0) rfl,?_⟩;refine H12.alloc ?_;clear H12;intro b6 w13 H13;refine H13.s 2 ?_;clear H13;intro w14 H14;refine⟨fun i w21=>∃(k:Nat) (f t:Int),k<=l.length/\i=k/\out.length<=k/\Cn r.sn l r.f r.t=out++⟨r.sn,f,t⟩::(l.drop k).map (sn_ r.sn)/\Cg w w21 [.blk b Af (Bn r),.els Bn Af 3 oa oc out,.blk b6 Af (Bn ⟨r.sn,f,t⟩)],?_,?_⟩
   ·rintro _ i w21 ⟨k,f,t,hk,rfl,hol,hI,H21⟩;refine⟨_,_,_,H21.cells (i:=2) rfl,?_⟩;refine H21.alloc ?_;clear H21;intro b10 w22 H22;refine H22.appEB Br (i:=1) (j:=3) rfl [⟨r.sn,f,t⟩] rfl Bo rfl (by simp;omega) (by simp;omega) ?_;intro x_a1 x_c1 w23 H23;refine⟨fun oa ol oc i=>((l.length-i).toNat,fun w24=>∃(k:Nat) (out:List Rg),k<=l.length/\i=k/\ol=out.length/\out.length<=k+1/\Cn r.sn l r.f r.t=out++(l.drop k).map (sn_ r.sn)/\Cg w w24 [.blk b Af (Bn r),.els Bn Af 3 oa oc out]),⟨k,_,hk,rfl,rfl,by simp;omega,by rw[hI];simp,H23.sub (fun i=>i) ?_ (fun _ _ _ _ h=>h)⟩,?_⟩
    ·rintro(_|_|_) r h<;>first|exact h|cases h
    clear H23;rintro _ oa ol oc i w24 ⟨k,out,hk,rfl,rfl,hol,hI,H24⟩;apply Aa<;>intro c6
    ·have hlt:k<l.length:=by omega
     refine H24.drew ?_;clear H24;intro w25 H25;refine⟨(fun x=>x<w.heap.size\/x=b),?_⟩;refine H25.l 0 ?_;refine rd k hlt fun b11 hb=>?_;refine Kh (mv H25.below hb) 1 rfl ?_;refine rd k hlt fun b11 hb=>?_;refine Kh (mv H25.below hb) 2 rfl ?_;refine⟨Xt H25 H25 (i:=0) (j:=0) rfl rfl,?_⟩;refine H25.alloc ?_;intro b13 w26 H26;refine⟨Xt H25 H26 (i:=0) (j:=0) rfl rfl,?_⟩;refine H26.appEB Br (i:=1) (j:=2) rfl [sn_ r.sn l[k]] rfl Bo rfl (by simp;omega) (by simp;omega) ?_;intro x_a2 x_c2 w27 H27;refine⟨Xt H25 H27 (i:=0) (j:=0) rfl rfl,?_⟩;refine Ao (by omega) ?_;refine⟨⟨k+1,_,by omega,by omega,rfl,by simp;omega,?_,H27.sub (fun i=>i) ?_ (fun _ _ _ _ h=>h)⟩,by show Int.toNat _<Int.toNat _;omega⟩
     ·rw[hI,show (l.drop k).map (sn_ r.sn)=sn_ r.sn l[k]::(l.drop (k+1)).map (sn_ r.sn) by rw[aR hlt];rfl];simp
     ·rintro(_|_|_) r h<;>first|exact h|cases h
    ·obtain rfl:k=l.length:=by omega
     rw[hI,bU,List.map_nil,aL];exact .of H24 (i:=1) rfl 0
   ·refine⟨fun i=>((l.length-i).toNat,fun w15=>∃(k:Nat) (f t:Int),k<=l.length/\i=k/\out.length<=k/\f<t/\Cn r.sn l r.f r.t=out++Cn r.sn (l.drop k) f t/\(∀hk:k<l.length,¬l[k].t<f)/\Cg w w15 [.blk b Af (Bn r),.els Bn Af 3 oa oc out,.blk b6 Af (Bn ⟨r.sn,f,t⟩)]),⟨k,r.f,r.t,hk,rfl,hol,hrt,hI,hst,H14⟩,?_⟩;clear H14 hst hI hol hk;rintro _ i w15 ⟨k,f,t,hk,rfl,hol,hft,hI,hst,H15⟩;refine⟨fun w17=>∃hlt:k<l.length,l[k].f<=t/\Cg w w17 [.blk b Af (Bn r),.els Bn Af 3 oa oc out,.blk b6 Af (Bn ⟨r.sn,f,t⟩)],?_,?_⟩
    ·rintro _ w17 ⟨hlt,hft2,H17⟩;refine H17.drew ?_;clear H17;intro w18 H18;refine⟨(· <w.heap.size),?_⟩;refine H18.l 2 ?_;refine rd k hlt fun b8 hb=>Kh (mv H18.below hb) 1 rfl ?_;refine H18.l 2 ?_;refine rd k hlt fun b9 hb=>⟨Dv (Bc hb 2 _ rfl),?_⟩;refine Kh (mv H18.below hb) 2 rfl ?_;refine H18.set (i:=2) rfl (by simp[Bn]) ?_;intro w19 H19;refine⟨Au9 H18.below H19.below,?_⟩;refine H19.set (i:=2) rfl (by simp[Bn]) ?_;intro w20 H20;refine Ao (by omega) ?_;have hx:=hna k hlt;refine⟨⟨k+1,(if l[k].f<f then l[k].f else f),(if l[k].t>t then l[k].t else t),by omega,by omega,by omega,?_,by rw[hI,Awj hlt (hst hlt) hft2],fun hk2=>?_,H20⟩,by show Int.toNat _<Int.toNat _;omega⟩
     ·split<;>split<;>omega
     ·have h1:=(hna (k+1) hk2).1;have h2:=hx.2 hk2;split<;>omega
    ·refine H15.drew ?_;clear H15;intro w16 H16;apply Aa<;>intro c5
     ·have hlt:k<l.length:=by omega
      refine rd k hlt fun b7 hb=>Kh (mv H16.below hb) 1 rfl ?_;refine H16.l 2 ?_;refine Aa (fun c4=>⟨hlt,c4,H16⟩) (fun c4=>?_);have c4':¬l[k].f<=t:=c4;exact⟨k,f,t,hk,rfl,hol,by rw[hI,Aoe fun _=>⟨hst hlt,by omega⟩],H16⟩
     ·exact⟨k,f,t,hk,rfl,hol,by rw[hI,Aoe fun h=>by omega],H16⟩
  ·have H5:=H5.nilE Bn Af 3;refine⟨fun oa ol oc i=>((l.length-i).toNat,fun w6=>∃(k:Nat) (out:List Rg),k<=l.length/\i=k/\ol=out.length/\out.length<=k/\Cn r.sn l r.f r.t=out++Cn r.sn (l.drop k) r.f r.t/\Cg w w6 [.blk b Af (Bn r),.els Bn Af 3 oa oc out]),⟨0,[],by omega,rfl,rfl,by simp,rfl,H5⟩,?_⟩;clear H5;rintro _ oa ol oc i w6 ⟨k,out,hk,rfl,rfl,hol,hI,H6⟩;refine⟨fun w8=>∃hlt:k<l.length,l[k].t<r.f/\Cg w w8 [.blk b Af (Bn r),.els Bn Af 3 oa oc out],?_,?_⟩
   ·rintro _ w8 ⟨hlt,hlf,H8⟩;refine H8.drew ?_;clear H8;intro w9 H9;refine⟨(fun x=>x<w.heap.size\/x=b),?_⟩;refine H9.l 0 ?_;refine rd k hlt fun b11 hb=>?_;refine Kh (mv H9.below hb) 1 rfl ?_;refine rd k hlt fun b11 hb=>?_;refine Kh (mv H9.below hb) 2 rfl ?_;refine⟨Xt H9 H9 (i:=0) (j:=0) rfl rfl,?_⟩;refine H9.alloc ?_;intro b13 w10 H10;refine⟨Xt H9 H10 (i:=0) (j:=0) rfl rfl,?_⟩;refine H10.appEB Br (i:=1) (j:=2) rfl [sn_ r.sn l[k]] rfl Bo rfl (by simp;omega) (by simp;omega) ?_;intro x_a2 x_c2 w11 H11;refine⟨Xt H9 H11 (i:=0) (j:=0) rfl rfl,?_⟩;refine Ao (by omega) ?_;refine⟨⟨k+1,_,by omega,by omega,rfl,by simp;omega,by rw[hI,Av7 hlt hlf];simp,H11.sub (fun i=>i) ?_ (fun _ _ _ _ h=>h)⟩,by show Int.toNat _<Int.toNat _;omega⟩;rintro(_|_|_) r h<;>first|exact h|cases h
   ·refine H6.drew ?_;clear H6;intro w7 H7;refine Aa (fun c3=>?_) (fun c3=>⟨k,out,hk,rfl,rfl,hol,hI,fun h=>by omega,H7⟩);have hlt:k<l.length:=by omega
    refine rd k hlt fun b2 hb=>Kh (mv H7.below hb) 2 rfl ?_;refine H7.l 0 ?_;exact Aa (fun c2=>⟨hlt,c2,H7⟩) (fun c2=>⟨k,out,hk,rfl,rfl,hol,hI,fun h=>c2,H7⟩)
 ·refine(Gx (hs.belowE H1.below) (by omega)).mono ?_;rintro _ w2 ⟨rfl,hb2⟩;have H2:=H1.pass hb2;clear H1;refine⟨_,rfl,?_⟩;apply Bq<;>intro c1
  ·have e:Ou l r=([],4):=aF (.inl c1);rw[e];exact .nil H2.fin.below _
  ·refine⟨_,_,_,H2.cells (i:=0) rfl,?_⟩;refine H2.alloc ?_;clear H2;intro b1 w3 H3;refine(Gx (l:=[r]) (H3.slBlk Br (i:=1) _ rfl) (by simp)).mono ?_;rintro _ w4 ⟨rfl,hb4⟩;have H4:=H3.pass hb4;clear H3;refine⟨_,rfl,?_⟩;apply Bq<;>intro c
   ·have e:Ou l r=([],4):=aF (.inr c);rw[e];exact .nil H4.fin.below _
   ·refine⟨H4.sub (fun i=>i) ?_ (fun _ _ _ _ h=>h),c1,c⟩;rintro(_|_) r h<;>first|exact h|cases h
end
end Go.Proofs.YtmbppohkadmjgaaGreat
namespace Go.Sx
open Go.RowKit
theorem Aol{x:Int}(k:Nat)(hk:k<=62){m:Int}(hm:m=2^k-1):bAnd .i64 x m=x%2^k:=by
 have h1:(2:Nat)^k<=2^62:=dD (by decide) hk;have h2:0<(2:Nat)^k:=Nat.pow_pos (by decide);have e1:bAnd .i64 x m=bAnd .i64 (((x%18446744073709551616).toNat:Nat):Int) m:=by
  have hx:BitVec.ofInt 64 x=BitVec.ofInt 64 (((x%18446744073709551616).toNat:Nat):Int):=by
   apply BitVec.eq_of_toNat_eq;rw[BitVec.toNat_ofInt,BitVec.toNat_ofInt];have:=cV x (show (18446744073709551616:Int)≠0 by decide);rw[Int.toNat_of_nonneg this];show (x%18446744073709551616).toNat=(x%18446744073709551616%18446744073709551616).toNat;rw[Int.emod_emod]
  unfold bAnd;show IntKind.wrap .i64 ((BitVec.ofInt 64 x &&& _).toNat:Int)=IntKind.wrap .i64 ((BitVec.ofInt 64 _ &&& _).toNat:Int);rw[hx]
 rw[e1];rw[Xu]at hm ⊢;have hm2:m=((2^k-1:Nat):Int):=by omega
 subst hm2;have hx0:=cV x (show (18446744073709551616:Int)≠0 by decide);have hx1:=cN x (show (0:Int)<18446744073709551616 by decide);rw[Atz .i64 _ _ (by show _<2^64;omega) (by show _<2^64;omega),Nat.and_two_pow_sub_one_eq_mod];have:=Nat.mod_lt (x%18446744073709551616).toNat h2;rw[Asx _ (by omega),Int.natCast_emod,Int.toNat_of_nonneg hx0];refine Int.emod_emod_of_dvd _ ?_;have:(18446744073709551616:Int)=((2^64:Nat):Int):=by decide
 rw[this];exact Int.natCast_dvd_natCast.2 (Nat.pow_dvd_pow 2 (by omega))
theorem Ayw(e:Int)(k:Nat)(hk:k<=62):IntKind.wrap .i64 e%2^k=e%2^k:=by
 have hd:(2:Int)^k ∣ 18446744073709551616:=by
  have:(18446744073709551616:Int)=((2^64:Nat):Int):=by decide
  rw[this,Xu];exact Int.natCast_dvd_natCast.2 (Nat.pow_dvd_pow 2 (by omega))
 have e0:∃q:Int,IntKind.wrap .i64 e=e+18446744073709551616*q:=by
  have h:=Int.emod_add_mul_ediv e 18446744073709551616;by_cases hc:e%18446744073709551616>=9223372036854775808
  ·refine⟨-(e/18446744073709551616)-1,?_⟩;have:IntKind.wrap .i64 e=e%18446744073709551616-18446744073709551616:=aF (aM hc);rw[this];omega
  ·refine⟨-(e/18446744073709551616),?_⟩;have:IntKind.wrap .i64 e=e%18446744073709551616:=aE (fun h'=>hc (of_decide_eq_true h'));rw[this];omega
 obtain⟨q,hq⟩:=e0;obtain⟨d,hd⟩:=hd;rw[hq,hd,Int.mul_assoc,Int.add_mul_emod_self_left]
def way(n a b:Int):Int:=(b-a)%2^n.toNat
theorem Qf(n a b:Int):0<=way n a b/\way n a b<2^n.toNat:=by
 have:(0:Int)<2^n.toNat:=by rw[Xu];have:=Nat.pow_pos (n:=n.toNat) (show 0<2 by decide);omega
 exact⟨cV _ (by omega),cN _ this⟩
end Go.Sx
namespace Go.Proofs.YtmbppohkadmjgaaGreat
open Go.Sx Go.RowKit
section
variable{n x a b:Int}{w:World}
theorem serial_valid_ct:Calls Tryz.prog Uj #[(.int .i64 n)] w fun e w'=>e=.returned (.bool (decide (1<=n/\n<=32)))/\Below w.heap.size w w':=by
 apply Ah4;have H:=St.nil w;apply Aa<;>intro c
 ·refine Aw ?_;exact⟨Nq (by omega),H.below⟩
 ·exact⟨Hd (by omega),H.below⟩
theorem serial_Low_ct:Calls Tryz.prog Pj #[(.int .i64 n),(.int .i64 x)] w fun e w'=>e=.returned (.int .i64 (if 1<=n/\n<=32 then x%2^n.toNat else-1))/\Below w.heap.size w w':=by
 apply Alo;have H:=St.nil w;refine serial_valid_ct.mono ?_;rintro _ w1 ⟨rfl,hb1⟩;have H1:=H.pass hb1;clear H;refine⟨_,rfl,?_⟩;apply An<;>intro c
 ·exact⟨by rw[aE c],H1.below⟩
 ·have hp:=Aw5 (n:=n.toNat) (by omega);refine⟨by omega,?_⟩;refine Kv (by omega) ?_;refine Ao (by omega) ?_;refine Nu fun x3 hx3=>?_;rw[Aol n.toNat (by omega) rfl]at hx3;exact⟨by rw[aF c,hx3],H1.below⟩
theorem serial_Distance_ct:Calls Tryz.prog Hi #[(.int .i64 n),(.int .i64 a),(.int .i64 b)] w fun e w'=>e=.returned (.int .i64 (if 1<=n/\n<=32 then way n a b else-1))/\Below w.heap.size w w':=by
 apply Abh;have H:=St.nil w;refine Azq fun y hy=>?_;refine serial_Low_ct.mono ?_;rintro _ w1 ⟨rfl,hb1⟩;have H1:=H.pass hb1;clear H;refine⟨_,rfl,?_⟩;refine⟨?_,H1.below⟩;by_cases c:1<=n/\n<=32
 ·rw[aF c,aF c,hy,Ayw _ _ (by omega)];rfl
 ·rw[aE c,aE c]
end
section
variable{n x a b:Int}{w:World}
theorem ref02_valid_ct:Calls Tryz.prog Rd #[(.int .i64 n)] w fun e w'=>e=.returned (.bool (decide (1<=n/\n<=32)))/\Below w.heap.size w w':=by
 apply Akb;have H:=St.nil w;apply Aa<;>intro c
 ·refine Aw ?_;exact⟨Nq (by omega),H.below⟩
 ·exact⟨Hd (by omega),H.below⟩
theorem ref02_Low_ct:Calls Tryz.prog Iw #[(.int .i64 n),(.int .i64 x)] w fun e w'=>e=.returned (.int .i64 (if 1<=n/\n<=32 then x%2^n.toNat else-1))/\Below w.heap.size w w':=by
 apply Apk;have H:=St.nil w;refine ref02_valid_ct.mono ?_;rintro _ w1 ⟨rfl,hb1⟩;have H1:=H.pass hb1;clear H;refine⟨_,rfl,?_⟩;apply An<;>intro c
 ·exact⟨by rw[aE c],H1.below⟩
 ·have hp:=Aw5 (n:=n.toNat) (by omega);refine Pk (by omega) ?_;refine⟨by omega,?_⟩;refine Kv (by omega) ?_;refine Ao (by omega) ?_;refine Nu fun x3 hx3=>?_;rw[Aol n.toNat (by omega) rfl]at hx3;exact⟨by rw[aF c,hx3],H1.below⟩
theorem ref02_Distance_ct:Calls Tryz.prog Hy #[(.int .i64 n),(.int .i64 a),(.int .i64 b)] w fun e w'=>e=.returned (.int .i64 (if 1<=n/\n<=32 then way n a b else-1))/\Below w.heap.size w w':=by
 apply Aet;have H:=St.nil w;refine ref02_valid_ct.mono ?_;rintro _ w1 ⟨rfl,hb1⟩;have H1:=H.pass hb1;clear H;refine⟨_,rfl,?_⟩;apply An<;>intro c
 ·exact⟨by rw[aE c],H1.below⟩
 ·have hp:=Aw5 (n:=n.toNat) (by omega);refine ref02_Low_ct.mono ?_;rintro _ w2 ⟨rfl,hb2⟩;have H2:=H1.pass hb2;clear H1;refine⟨_,rfl,?_⟩;refine ref02_Low_ct.mono ?_;rintro _ w3 ⟨rfl,hb3⟩;have H3:=H2.pass hb3;clear H2;refine⟨_,rfl,?_⟩;simp only[aF c];have ra:0<=a%2^n.toNat/\a%2^n.toNat<2^n.toNat:=⟨cV _ (by omega),cN _ (by omega)⟩;have rb:0<=b%2^n.toNat/\b%2^n.toNat<2^n.toNat:=⟨cV _ (by omega),cN _ (by omega)⟩;refine Ao (by omega) ?_;refine Pk (by omega) ?_;refine⟨by omega,?_⟩;refine Kv (by omega) ?_;refine Ao (by omega) ?_;refine Nu fun x4 hx4=>?_;rw[Aol n.toNat (by omega) rfl]at hx4;refine⟨?_,H3.below⟩;first|rw[aF c,hx4]|rw[hx4]
  unfold way;rw[<-Int.sub_emod]
end
section
variable{l_a b_a:Option Addr}{l m:List Rg}{l_c b_c:Nat}{k:Int}{w:World}
end
theorem Aoj{a b:Option Addr}{c1 c2:Nat}{xs ys:List Int}{w:World}(ha:SlR (Bp .u8) 1 w a xs)(hb:SlR (Bp .u8) 1 w b ys)(hx:Bytes xs)(hy:Bytes ys):Calls Tryz.prog We #[.slice a xs.length c1,.slice b ys.length c2] w fun e w'=>e=.returned (.bool (decide (xs=ys)))/\Below w.heap.size w w':=by
 apply Ai3;refine Oa (e:=Az) (by kernel_rfl) (by kernel_rfl) (by kernel_rfl) ha ?_;refine Oa (e:=Az) (by kernel_rfl) (by kernel_rfl) (by kernel_rfl) hb ?_;refine⟨?_,.refl _ _⟩;rw[Asd hx hy]
theorem Wa{a b:Option Addr}{c1 c2:Nat}{xs ys:List Int}{w:World}(ha:SlR (Bp .u8) 1 w a xs)(hb:SlR (Bp .u8) 1 w b ys)(hx:Bytes xs)(hy:Bytes ys):Calls Tryz.prog Jd #[.slice a xs.length c1,.slice b ys.length c2] w fun e w'=>e=.returned (.bool (decide (xs=ys)))/\Below w.heap.size w w':=by
 apply Aal;refine Oa (e:=Az) (by kernel_rfl) (by kernel_rfl) (by kernel_rfl) ha ?_;refine Oa (e:=Az) (by kernel_rfl) (by kernel_rfl) (by kernel_rfl) hb ?_;refine⟨?_,.refl _ _⟩;rw[Asd hx hy]
end Go.Proofs.YtmbppohkadmjgaaGreat
namespace Go.Sx
open Go.RowKit
def Aju:Nat->Int->List Int
 |0,_=>[]
 |n+1,v=>v/2^(8*n)%256::Aju n v
theorem Aca(v:Int):∀n,(Aju n v).length=n
 |0=>rfl
 |n+1=>by simp[Aju,Aca v n]
def Ts(l:List Int):Int:=l.foldl (fun v x=>256*v+x) 0
theorem Yd(l:List Int)(x:Int):Ts (l++[x])=256*Ts l+x:=by simp[Ts,eC]
theorem Zm{l:List Int}(h:Bytes l):0<=Ts l/\Ts l<256^l.length:=by
 have key:∀n (l:List Int),l.length=n->Bytes l->0<=Ts l/\Ts l<256^l.length:=by
  intro n;induction n with
  |zero=>
   intro l hl _;obtain rfl:=aK hl;simp[Ts]
  |succ n ih=>
   intro l hl hb;rcases List.eq_nil_or_concat l with rfl|⟨l',x,rfl⟩
   ·simp at hl
   ·rw[List.concat_eq_append]at hl hb ⊢;have h1:=ih l' (by simpa using hl) fun i hi=>by
     have:=hb i (by simp;omega);rwa[eE hi]at this
    have h2:0<=x/\x<256:=by
     have:=hb l'.length (by simp);simpa using this
    rw[Yd,aP];simp only[aQ,cU,aN,Int.pow_succ];omega
 exact key _ l rfl h
theorem Adq{n:Nat}(h:n<=7):(256:Int)^n<=72057594037927936:=by
 have:(256:Nat)^n<=256^7:=dD (by decide) h;have e:(256:Int)^n=((256^n:Nat):Int):=by simp
 rw[e];omega
end Go.Sx
namespace Go.Proofs.YtmbppohkadmjgaaGreat
open Go.Sx Go.RowKit
section
variable{a:Option Addr}{c:Nat}{ys:List Int}{w:World}{A:Nat->Prop}{P:World->Prop}{v:Int}
theorem Arv(hP:Held A w P)(hr:(Res.ints Az .u8 a c ys).ok w)(hn:∀b,(Res.ints Az .u8 a c ys).at=some b->¬A b)(n:Nat)(hn7:n<=7)(hl:ys.length<=1000000):Calls Tryz.prog Ep #[(.slice a ys.length c),(.int .i64 n),(.int .i64 v)] w fun e w'=>∃ra rc,e=.returned (.slice ra (ys++Aju n v).length rc)/\St A (Res.ints Az .u8 a c ys).at.toList w w' [.ints Az .u8 ra rc (ys++Aju n v)] P:=by
 apply Abe;have H:=St.startM hP hr hn;obtain⟨zs0,hzs0⟩:∃zs0,zs0=ys++Aju n v:=⟨_,rfl⟩;have hlen:zs0.length=ys.length+n:=by rw[hzs0];simp[Aca]
 rw[<-hzs0];refine Ao (by omega) ?_;refine⟨fun b_a b_l b_c i=>((i+1).toNat,fun w1=>∃(k:Nat) (zs:List Int),i=(k:Int)-1/\k<=n/\b_l=zs.length/\zs0=zs++Aju k v/\St A (Res.ints Az .u8 a c ys).at.toList w w1 [.ints Az .u8 b_a b_c zs] P),⟨n,ys,by omega,aG _,rfl,hzs0,H⟩,?_⟩;clear H;rintro _ b_a1 b_l1 b_c1 i w1 ⟨k,zs,rfl,hk,rfl,hI,H1⟩;apply Aa<;>intro cc
 ·obtain⟨m,rfl⟩:∃m,k=m+1:=⟨k-1,by omega⟩;have em:((m+1:Nat):Int)-1=m:=by omega
  rw[em];refine Ao (by omega) ?_;refine Pk (by omega) ?_;refine⟨by omega,?_⟩;have e8:(min ((8:Int)*m).toNat (IntKind.bits .i64))=8*m:=by
   show min _ 64=_;omega
  rw[e8];refine Ui ?_;refine Aas ?_;refine H1.alloc ?_;clear H1;intro b w2 H2;have hzl:=cI List.length hI;simp only[aP,Aca,hlen]at hzl;refine H2.appIB (i:=0) (j:=1) rfl [v/2^(8*m)%256] rfl sl_Ty_S_uint8 rfl (by simp;omega) (by simp;omega) ?_;intro x_a x_c w3 H3;refine Ao (by omega) ?_;refine⟨⟨m,_,rfl,by omega,rfl,by rw[hI];simp[Aju],H3.dropLast⟩,by dsimp only;omega⟩
 ·obtain rfl:k=0:=by omega
  have:zs0=zs:=by rw[hI];simp[Aju]
  subst this;exact⟨_,_,rfl,H1⟩
end
section
variable{A0:Nat->Prop}{M:List Nat}{w0 w:World}{R:List Res}{P:World->Prop}{i:Nat}{a:Option Addr}{c:Nat}{ys:List Int}{v:Int}
theorem Axi(H:St A0 M w0 w R P)(hi:R[i]?=some (.ints Az .u8 a c ys))(n:Nat)(hn7:n<=7)(hl:ys.length<=1000000){K:Option Addr->Nat->Nat->World->Prop}
 (h:∀ra rc w',Fr (Res.ints Az .u8 a c ys).at.toList w w'->St A0 M w0 w' (R.set i (.ints Az .u8 ra rc (ys++Aju n v))) P->K ra (ys++Aju n v).length rc w'):
 Calls Tryz.prog Ep #[(.slice a ys.length c),(.int .i64 n),(.int .i64 v)] w fun e w'=>∃(ra:Option Addr) (rl rc:Nat),e=.returned (.slice ra rl rc)/\K ra rl rc w':=by
 obtain⟨A,hA,hn',hr,hc⟩:=H.callM hi;refine(Arv hA hr hn' n hn7 hl).mono ?_;rintro _ w2 ⟨ra,rc,rfl,S⟩;have:=hc S;rw[aL]at this;exact⟨_,_,_,rfl,h _ _ w2 S.fr (this.imp fun _ h=>h.2)⟩
theorem Sy{bs:List Int}{w:World}(hs:SlR (Bp .u8) 1 w a bs)(hb:Bytes bs)(hl:bs.length<=140737488355328)(j n:Nat)(hn:n<=7)(hjn:j+n<=bs.length):Calls Tryz.prog Gz #[(.slice a bs.length c),(.int .i64 j),(.int .i64 n)] w fun e w'=>e=.returned (.int .i64 (Ts ((bs.drop j).take n)))/\Below w.heap.size w w':=by
 apply Abk;have H:=St.nil w;refine⟨fun v i=>((n-i).toNat,fun w1=>∃k:Nat,i=k/\k<=n/\v=Ts ((bs.drop j).take k)/\Cg w w1 []),⟨0,rfl,aX _,by simp[Ts],H⟩,?_⟩;clear H;rintro _ v i w1 ⟨k,rfl,hk,rfl,H1⟩;apply Aa<;>intro cc
 ·have hlt:j+k<bs.length:=by omega
  have hr:=Zm (l:=(bs.drop j).take k) fun i hi=>by
   simp only[bX,cT];exact hb _ _
  have hp:=Adq (n:=((bs.drop j).take k).length) (by simp;omega);have hx:=hb (j+k) hlt;have es:(bs.drop j).take (k+1)=(bs.drop j).take k++[bs[j+k]]:=by
   rw[cS,List.getElem?_drop,List.getElem?_eq_getElem hlt];rfl
  have hr2:=Zm (l:=(bs.drop j).take (k+1)) fun i hi=>by
   simp only[bX,cT];exact hb _ _
  have hp2:=Adq (n:=((bs.drop j).take (k+1)).length) (by simp;omega);rw[es,Yd]at hr2;rw[<-es]at hr2;refine Ao (by omega) ?_;refine Ao (by omega) ?_;refine ixE (hs.below H1.below) (j+k) (by omega) hlt fun b x hxk hb1=>?_;obtain rfl:bs[j+k]=x:=by rw[List.getElem?_eq_getElem hlt]at hxk;injection hxk
  refine⟨_,hb1,?_⟩;refine Ao (by omega) ?_;refine Ao (by omega) ?_;refine Ao (by omega) ?_;exact⟨⟨k+1,by omega,by omega,by rw[es,Yd],H1⟩,by dsimp only;omega⟩
 ·obtain rfl:k=n:=by omega
  exact⟨rfl,H1.below⟩
end
end Go.Proofs.YtmbppohkadmjgaaGreat
namespace Go.Sx
structure Stt where
 upto:Int
 miss:List Rg
deriving DecidableEq
def Stt.zero:Stt:=⟨0,[]⟩
def Fa(r:Rg):Prop:=r.f=0/\r.t=0
instance (r:Rg):Decidable (Fa r):=inferInstanceAs (Decidable (_/\_))
def Wn(r:Rg):Prop:=0<=r.f/\r.f<r.t/\r.t<=65535
instance (r:Rg):Decidable (Wn r):=inferInstanceAs (Decidable (_/\_))
def szR(r:Rg):Int:=if Fa r then 2 else 6
def Tn(b u:Int)(r:Rg):Prop:=(0<=r.sn/\r.sn<2^b.toNat)/\(1<=way b r.sn u/\way b r.sn u<=2^(b-1).toNat)/\(Fa r\/Wn r)
instance (b u:Int) (r:Rg):Decidable (Tn b u r):=inferInstanceAs (Decidable (_/\_))
def Akt(b u:Int)(q r:Rg):Prop:=way b r.sn u<=way b q.sn u/\(way b r.sn u=way b q.sn u->¬(Fa q\/Fa r\/r.f<=q.t))
instance (b u:Int) (q r:Rg):Decidable (Akt b u q r):=inferInstanceAs (Decidable (_/\_))
def linkO(b u:Int):Option Rg->Rg->Prop
 |none,_=>True
 |some q,r=>Akt b u q r
instance (b u:Int) (p:Option Rg) (r:Rg):Decidable (linkO b u p r):=by cases p<;>unfold linkO<;>infer_instance
def Ey(b u:Int):Option Rg->List Rg->Bool
 |_,[]=>true
 |p,r::l=>decide (Tn b u r/\linkO b u p r)&&Ey b u (some r) l
def okS(b:Int)(s:Stt):Prop:=Bv b/\(0<=s.upto/\s.upto<2^b.toNat)/\s.miss.length<=64/\Ey b s.upto none s.miss=true
instance (b:Int) (s:Stt):Decidable (okS b s):=inferInstanceAs (Decidable (_/\_))
def Cy(l:List Rg):Nat->Option Rg
 |0=>none
 |k+1=>l[k]?
theorem Apl(b u:Int){l:List Rg}{k:Nat}(h:k<l.length):Ey b u (Cy l k) (l.drop k)=(decide (Tn b u l[k]/\linkO b u (Cy l k) l[k])&&Ey b u (Cy l (k+1)) (l.drop (k+1))):=by
 rw[aR h];simp only[Ey,Cy,List.getElem?_eq_getElem h]
def Jq(b u:Int)(l:List Rg)(k:Nat):Int:=match Cy l k with|none=>2^(b-1).toNat+1|some q=>way b q.sn u
def Oh(x:Int):List Int:=[x/256%256,x%256]
def Zs(r:Rg):List Int:=if Fa r then Oh (16*r.sn) else Oh (16*r.sn+1)++(Oh r.f++Oh r.t)
def Ld(s:Stt):List Int:=Oh s.upto++((s.miss.length:Int)%256)::s.miss.flatMap Zs
def encS(b:Int)(s:Stt):List Int×Int:=if okS b s then (Ld s,0) else ([],1)
def rdR:Nat->List Int->Option (List Rg)
 |0,_=>some []
 |n+1,x::y::l=>if (256*x+y)%16=1 then (match l with
  |p::q::r::s::l=>(rdR n l).map (⟨(256*x+y)/16,256*p+q,256*r+s⟩:: ·)
  |_=>none) else (rdR n l).map (⟨(256*x+y)/16,0,0⟩:: ·)
 |_,_=>none
def rdS:List Int->Option Stt
 |x::y::n::l=>(rdR n.toNat l).map (⟨256*x+y,·⟩)
 |_=>none
def Mv(b:Int)(l:List Int):Stt×Int:=
 if ¬Bv b then (.zero,3) else match rdS l with
  |none=>(.zero,5)
  |some s=>if okS b s/\Ld s=l then (s,0) else (.zero,4)
def Kd(k:Nat)(p:Option Rg)(unit:Nat)(r:Rg):Nat:=match p with|none=>unit|some q=>if r.sn≠q.sn then k else unit
def Aco(sp u:Int)(L:List Rg):Nat->Int->Nat->Option Rg->List Rg->Stt
 |_,_,_,_,[]=>⟨u,L⟩
 |k,used,unit,p,r::l=>
  if used+szR r>sp then ⟨r.sn,L.take (Kd k p unit r)⟩ else Aco sp u L (k+1) (used+szR r) (Kd k p unit r) (some r) l
def fitR(b:Int)(s:Stt)(sp:Int):Stt×Int:=
 if ¬okS b s then (.zero,1) else if sp<3 then (.zero,15) else (Aco sp s.upto s.miss 0 3 0 none s.miss,0)
theorem Oc{b:Int}(h:Bv b):(2:Int)^b.toNat=2*2^(b-1).toNat/\(16:Int)<=2^(b-1).toNat/\(2:Int)^(b-1).toNat<=256:=by
 obtain⟨h1,h2⟩:=h;rcases (show b=5\/b=6\/b=7\/b=8\/b=9 by omega)with rfl|rfl|rfl|rfl|rfl<;>decide
theorem Ano(sp u:Int)(L:List Rg)(k:Nat)(used:Int)(unit:Nat)(h:k<L.length):Aco sp u L k used unit (Cy L k) (L.drop k)=if used+szR L[k]>sp then ⟨L[k].sn,L.take (Kd k (Cy L k) unit L[k])⟩ else Aco sp u L (k+1) (used+szR L[k]) (Kd k (Cy L k) unit L[k]) (Cy L (k+1)) (L.drop (k+1)):=by
 rw[aR h];simp only[Aco,Cy,List.getElem?_eq_getElem h]
def Afp(L:List Rg)(i unit:Nat):Prop:=match Cy L i with|none=>unit=i|some q=>∀h:i<L.length,L[i].sn≠q.sn
theorem Av4{L:List Rg}{i unit:Nat}(h:Afp L i unit)(hi:i<L.length):Kd i (Cy L i) unit L[i]=i:=by
 unfold Afp at h;split at h
 ·rename_i hp;rw[hp];exact h
 ·rename_i q hp;rw[hp];exact aF (h hi)
def InU(sp u:Int)(L:List Rg)(i:Nat)(hi:i<L.length)(n:Int)(unit:Nat)(X:Stt)(k:Nat)(more:Int):Prop:=
 (n+more<=sp/\X=Aco sp u L k (n+more) (if k=i then unit else i) (Cy L k) (L.drop k))\/(n+more>sp/\X=⟨L[i].sn,L.take i⟩)
theorem Amv(r:Rg):2<=szR r/\szR r<=6:=by unfold szR;split<;>omega
theorem InU.step{sp u:Int}{L:List Rg}{i:Nat}{hi:i<L.length}{n:Int}{unit:Nat}{X:Stt}{k:Nat}{more:Int}(h:InU sp u L i hi n unit X k more)(hs:Afp L i unit)(hik:i<=k)(hk:k<L.length)(hsn:L[k].sn=L[i].sn)
 (hpr:∀j (h:j<L.length),i<=j->j<k->L[j].sn=L[i].sn):InU sp u L i hi n unit X (k+1) (more+szR L[k]):=by
 have hp:=Amv L[k];rcases h with ⟨h1,h2⟩|⟨h1,h2⟩
 ·have hu:Kd k (Cy L k) (if k=i then unit else i) L[k]=i:=by
   by_cases hki:k=i
   ·subst hki;rw[aF rfl];exact Av4 hs hi
   ·rw[aE hki];obtain⟨j,rfl⟩:∃j,k=j+1:=⟨k-1,by omega⟩;have hj:j<L.length:=by omega
    simp only[Kd,Cy,List.getElem?_eq_getElem hj];rw[aE];rw[hsn,hpr j hj (by omega) (by omega)];simp
  rw[Ano _ _ _ _ _ _ hk,hu]at h2;by_cases hc:n+more+szR L[k]>sp
  ·rw[aF hc,hsn]at h2;exact .inr ⟨by omega,h2⟩
  ·rw[aE hc]at h2;refine .inl ⟨by omega,?_⟩;rw[aE (by omega),<-Int.add_assoc];exact h2
 ·exact .inr ⟨by omega,h2⟩
end Go.Sx
namespace Go.Proofs.YtmbppohkadmjgaaGreat
open Go.Sx Go.RowKit
section
variable{r:Rg}{w:World}
theorem status_Whole_ct:Calls Tryz.prog Fk #[(.agg #[.int .i64 r.sn,.int .i64 r.f,.int .i64 r.t])] w fun e w'=>e=.returned (.bool (decide (Fa r)))/\Below w.heap.size w w':=by
 apply Ah6;have H:=St.nil w;refine H.alloc ?_;clear H;intro b w1 H1;refine H1.l 0 ?_;apply Aa<;>intro c
 ·refine H1.l 0 ?_;refine Aw ?_;exact⟨Nq (by unfold Fa;omega),H1.below⟩
 ·exact⟨Hd (by unfold Fa;omega),H1.below⟩
theorem status_part_ct:Calls Tryz.prog Vs #[(.agg #[.int .i64 r.sn,.int .i64 r.f,.int .i64 r.t])] w fun e w'=>e=.returned (.bool (decide (Wn r)))/\Below w.heap.size w w':=by
 apply Akd;have H:=St.nil w;refine H.alloc ?_;clear H;intro b w1 H1;refine H1.l 0 ?_;apply Aa<;>intro c1
 ·refine H1.l 0 ?_;refine H1.l 0 ?_;apply Aa<;>intro c
  ·refine H1.l 0 ?_;refine Aw ?_;exact⟨Nq (by unfold Wn;omega),H1.below⟩
  ·exact⟨Hd (by unfold Wn;omega),H1.below⟩
 ·exact⟨Hd (by unfold Wn;omega),H1.below⟩
theorem status_size_ct:Calls Tryz.prog Vw #[(.agg #[.int .i64 r.sn,.int .i64 r.f,.int .i64 r.t])] w fun e w'=>e=.returned (.int .i64 (szR r))/\Below w.heap.size w w':=by
 apply Ajf;have H:=St.nil w;refine H.alloc ?_;clear H;intro b w1 H1;refine⟨_,_,_,H1.cells (i:=0) rfl,?_⟩;refine status_Whole_ct.mono ?_;rintro _ w2 ⟨rfl,hb2⟩;have H2:=H1.pass hb2;clear H1;refine⟨_,rfl,?_⟩;apply Aa<;>intro c
 ·exact⟨by rw[szR,aF c],H2.below⟩
 ·exact⟨by rw[szR,aE c],H2.below⟩
theorem ref19_size_ct:Calls Tryz.prog Su #[(.agg #[.int .i64 r.sn,.int .i64 r.f,.int .i64 r.t])] w fun e w'=>e=.returned (.int .i64 (szR r))/\Below w.heap.size w w':=by
 apply Al9;have H:=St.nil w;refine H.alloc ?_;clear H;intro b w1 H1;refine H1.l 0 ?_;apply Aa<;>intro c1
 ·refine H1.l 0 ?_;apply Aa<;>intro c
  ·exact⟨by rw[szR,aF ⟨c1,c⟩],H1.below⟩
  ·exact⟨by rw[szR,aE fun h=>c h.2],H1.below⟩
 ·exact⟨by rw[szR,aE fun h=>c1 h.1],H1.below⟩
end
section
variable{bits u:Int}{l_a:Option Addr}{l:List Rg}{l_c:Nat}{w:World}
theorem Sc(hs:SlR (CE Bn) 3 w l_a l)(hl:l.length<=140737488355328):Calls Tryz.prog Kx #[(.int .i64 bits),(.agg #[.int .i64 u,.slice l_a l.length l_c])] w fun e w'=>e=.returned (.bool (decide (okS bits ⟨u,l⟩)))/\Below w.heap.size w w':=by
 apply Agx;have H:=St.nil w;refine H.alloc ?_;clear H;intro b w1 H1;have no:∀ {w':World} {R:List Res} {P:World->Prop},¬okS bits ⟨u,l⟩->St (fun _=>False) [] w w' R P->Ending.returned (.bool false)=.returned (.bool (decide (okS bits ⟨u,l⟩)))/\Below w.heap.size w w':=fun h H'=>⟨Hd h,H'.below⟩;refine⟨fun w4=>Bv bits/\(0<=u/\u<2^bits.toNat)/\l.length<=64/\Cg w w4 [.blk b Ai [(.int .i64 u),(.slice l_a l.length l_c)]],?_,?_⟩
 ·rintro _ w4 ⟨hb,hu,hll,H4⟩;have hp:=Oc hb;have hb5:=hb.1;have hb9:=hb.2;refine Ao (by omega) ?_;refine⟨by omega,?_⟩;refine Kv (by omega) ?_;refine Ao (by omega) ?_;refine H4.m 0 ?_;refine⟨fun before x6=>((l.length-x6).toNat,fun w5=>∃k:Nat,k<=l.length/\x6=k/\before=Jq bits u l k/\Ey bits u none l=Ey bits u (Cy l k) (l.drop k)/\Cg w w5 [.blk b Ai [(.int .i64 u),(.slice l_a l.length l_c)]]),⟨0,by omega,rfl,rfl,rfl,H4⟩,?_⟩;clear H4;rintro _ before x6 w5 ⟨k,hk,rfl,rfl,hI,H5⟩;apply Aa<;>intro c16
  ·have hlt:k<l.length:=by omega
   rw[Apl _ _ hlt]at hI;have bad:¬(Tn bits u l[k]/\linkO bits u (Cy l k) l[k])->¬okS bits ⟨u,l⟩:=fun h h'=>by
    have:=h'.2.2.2;simp only at this;rw[hI,aI h,Bool.false_and]at this;cases this
   refine ixE (hs.belowE H5.below) k rfl hlt fun b1 r hr hb1=>?_;obtain rfl:l[k]=r:=by rw[List.getElem?_eq_getElem hlt]at hr;injection hr
   refine⟨_,_,_,hb1,?_⟩;refine H5.alloc ?_;clear H5;intro b2 w6 H6;refine H6.s 1 ?_;clear H6;intro w7 H7;refine H7.l 1 ?_;refine H7.l 0 ?_;refine serial_Distance_ct.mono ?_;rintro _ w8 ⟨rfl,hb8⟩;have H8:=H7.pass hb8;clear H7;refine⟨_,rfl,?_⟩;rw[aF (by omega)];obtain⟨d,hd⟩:∃d,d=way bits l[k].sn u:=⟨_,rfl⟩;have hown:Tn bits u l[k]↔(0<=l[k].sn/\l[k].sn<2^bits.toNat)/\(1<=d/\d<=2^(bits-1).toNat)/\(Fa l[k]\/Wn l[k]):=by rw[hd];exact Iff.rfl
   have hbef:Tn bits u l[k]->linkO bits u (Cy l k) l[k]->d<=Jq bits u l k:=fun h1 h2=>by
    unfold Jq;unfold linkO at h2;split
    ·have:=(hown.1 h1).2.1.2;omega
    ·rename_i q hq;simp only[hq]at h2;rw[hd];exact h2.1
   rw[<-hd];refine⟨fun x14 w12=>(x14=true->¬(Tn bits u l[k]/\linkO bits u (Cy l k) l[k]))/\(x14=false->Tn bits u l[k]/\d<=Jq bits u l k)/\Cg w w12 [.blk b Ai [(.int .i64 u),(.slice l_a l.length l_c)],.blk b2 Af (Bn l[k])],?_,?_⟩
   ·rintro _ x14 w12 ⟨hj1,hj2,H12⟩;apply Al<;>intro c15
    ·exact no (bad (hj1 c15)) H12
    obtain⟨ho,hle⟩:=hj2 c15;have good:linkO bits u (Cy l k) l[k]->Ey bits u none l=Ey bits u (Cy l (k+1)) (l.drop (k+1)):=fun h=>by rw[hI,aM ⟨ho,h⟩,bH]
    have hbn:d=Jq bits u l (k+1):=by simp[Jq,Cy,List.getElem?_eq_getElem hlt,hd]
    refine⟨fun x15 w13=>x15=decide (d=Jq bits u l k/\0<k)/\Cg w w13 [.blk b Ai [(.int .i64 u),(.slice l_a l.length l_c)],.blk b2 Af (Bn l[k])],?_,?_⟩
    ·rintro _ x15 w13 ⟨hx15,H13⟩;have next:∀ {w':World} {R:List Res},linkO bits u (Cy l k) l[k]->Cg w w' (.blk b Ai [(.int .i64 u),(.slice l_a l.length l_c)]::R)->(∃k':Nat,k'<=l.length/\(k:Int)+1=k'/\d=Jq bits u l k'/\Ey bits u none l=Ey bits u (Cy l k') (l.drop k')/\Cg w w' [.blk b Ai [(.int .i64 u),(.slice l_a l.length l_c)]])/\(l.length-((k:Int)+1)).toNat<(l.length-(k:Int)).toNat:=fun h H'=>
      ⟨⟨k+1,by omega,by omega,hbn,good h,H'.sub (fun i=>i) (by rintro(_|_) r h<;>first|exact h|cases h) (fun _ _ _ _ h=>h)⟩,by omega⟩
     apply Al<;>intro c14
     ·rw[c14]at hx15;obtain⟨he,hk0⟩:=of_decide_eq_true hx15.symm;obtain⟨j,rfl⟩:∃j,k=j+1:=⟨k-1,by omega⟩;have hjl:j<l.length:=by omega
      have hprev:Cy l (j+1)=some l[j]:=by simp[Cy,List.getElem?_eq_getElem hjl]
      have hdq:d=way bits l[j].sn u:=by rw[he];simp[Jq,hprev]
      have hlk:linkO bits u (Cy l (j+1)) l[j+1]↔¬(Fa l[j]\/Fa l[j+1]\/l[j+1].f<=l[j].t):=by
       rw[hprev];show Akt _ _ _ _↔_;unfold Akt;rw[<-hd,<-hdq];exact⟨fun h=>h.2 rfl,fun h=>⟨bV _,fun _=>h⟩⟩
      refine H13.m 0 ?_;refine Ao (by omega) ?_;refine ixE (hs.belowE H13.below) j (by omega) hjl fun b3 q hq hb3=>?_;obtain rfl:l[j]=q:=by rw[List.getElem?_eq_getElem hjl]at hq;injection hq
      refine⟨_,_,_,hb3,?_⟩;refine H13.alloc ?_;clear H13;intro b4 w14 H14;refine H14.s 2 ?_;clear H14;intro w15 H15;refine⟨_,_,_,H15.cells (i:=2) rfl,?_⟩;refine status_Whole_ct.mono ?_;rintro _ w16 ⟨rfl,hb16⟩;have H16:=H15.pass hb16;clear H15;refine⟨_,rfl,?_⟩;apply Aa<;>intro c13
      ·exact no (bad fun h=>hlk.1 h.2 (.inl c13)) H16
      ·refine⟨_,_,_,H16.cells (i:=1) rfl,?_⟩;refine status_Whole_ct.mono ?_;rintro _ w17 ⟨rfl,hb17⟩;have H17:=H16.pass hb17;clear H16;refine⟨_,rfl,?_⟩;apply Aa<;>intro c12
       ·exact no (bad fun h=>hlk.1 h.2 (.inr (.inl c12))) H17
       ·refine H17.l 1 ?_;refine H17.l 2 ?_;apply Aa<;>intro c11
        ·exact no (bad fun h=>hlk.1 h.2 (.inr (.inr c11))) H17
        ·refine Ao (by omega) ?_;exact next (hlk.2 fun h=>by rcases h with h|h|h<;>contradiction) H17
     ·have hlk:linkO bits u (Cy l k) l[k]:=by
       rw[c14]at hx15;have hne:=of_decide_eq_false hx15.symm;unfold linkO;split
       ·trivial
       ·rename_i q hq;have hk0:0<k:=by
         cases k with
         |zero=>cases hq
         |succ k=>omega
        have hq2:Jq bits u l k=way bits q.sn u:=by simp[Jq,hq]
        rw[hq2]at hle hne;exact⟨by omega,fun h=>by omega⟩
      refine Ao (by omega) ?_;exact next hlk H13
    ·apply Aa<;>intro c10
     ·exact⟨by rw[bT];omega,H12⟩
     ·exact⟨by rw[aI];intro h;exact c10 h.1,H12⟩
   ·refine H8.drew ?_;clear H8;intro w9 H9;refine⟨(· <w9.heap.size),?_⟩;have bad2:∀ {w':World} {P:Prop},(Tn bits u l[k]->linkO bits u (Cy l k) l[k]->False)->Cg w w' [.blk b Ai [(.int .i64 u),(.slice l_a l.length l_c)],.blk b2 Af (Bn l[k])]->
     (true=true->¬(Tn bits u l[k]/\linkO bits u (Cy l k) l[k]))/\(true=false->Tn bits u l[k]/\d<=Jq bits u l k)/\Cg w w' [.blk b Ai [(.int .i64 u),(.slice l_a l.length l_c)],.blk b2 Af (Bn l[k])]:=
     fun h H'=>⟨fun _ h'=>h h'.1 h'.2,fun h=>by (cases h),H'⟩
    refine H9.l 1 ?_;apply Aa<;>intro c9
    ·exact bad2 (P:=True) (fun h _=>by have:=(hown.1 h).1;omega) H9
    ·refine H9.l 1 ?_;refine⟨by omega,?_⟩;refine Kv (by omega) ?_;apply Aa<;>intro c8
     ·exact bad2 (P:=True) (fun h _=>by have:=(hown.1 h).1;omega) H9
     ·apply Aa<;>intro c7
      ·exact bad2 (P:=True) (fun h _=>by have:=(hown.1 h).2;omega) H9
      ·apply Aa<;>intro c6
       ·exact bad2 (P:=True) (fun h h2=>by have:=hbef h h2;omega) H9
       ·refine Ao (by omega) ?_;refine⟨by omega,?_⟩;refine Kv (by omega) ?_;apply Aa<;>intro c5
        ·exact bad2 (P:=True) (fun h _=>by have:=(hown.1 h).2;omega) H9
        ·refine⟨_,_,_,H9.cells (i:=1) rfl,?_⟩;refine status_Whole_ct.mono ?_;rintro _ w10 ⟨rfl,hb10⟩;have H10:=H9.pass hb10;refine⟨_,rfl,?_⟩;refine⟨hb10.keeps,?_⟩;apply An<;>intro c4
         ·refine⟨H9.lt (i:=1) rfl rfl,?_⟩;refine⟨_,_,_,H9.cells (i:=1) rfl,?_⟩;refine status_part_ct.mono ?_;rintro _ w11 ⟨rfl,hb11⟩;have H11:=H10.pass hb11;refine⟨_,rfl,?_⟩;replace hb11:=Ax hb10 (aG _) hb11;refine⟨hb11.keeps,?_⟩;refine⟨fun h h'=>?_,fun h=>⟨hown.2 ⟨by omega,by omega,.inr ?_⟩,by omega⟩,H11⟩
          ·rcases (hown.1 h'.1).2.2 with h2|h2
           ·exact c4 h2
           ·simp[h2]at h
          ·simpa using h
         ·exact⟨fun h=>(by cases h),fun _=>⟨hown.2 ⟨by omega,by omega,.inl c4⟩,by omega⟩,H10⟩
  ·obtain rfl:k=l.length:=by omega
   rw[bU]at hI;exact⟨Apv ⟨hb,hu,hll,hI⟩,H5.below⟩
 ·refine H1.drew ?_;clear H1;intro w2 H2;refine⟨(· <w2.heap.size),?_⟩;refine counter_Bits_ct.mono ?_;rintro _ w3 ⟨rfl,hb3⟩;have H3:=H2.pass hb3;refine⟨_,rfl,?_⟩;refine⟨hb3.keeps,?_⟩;apply An<;>intro c3
  ·exact no (fun h=>c3 h.1) H3
  ·have hb5:=c3.1;have hb9:=c3.2;refine⟨H2.lt (i:=0) rfl rfl,?_⟩;refine H2.l 0 ?_;apply Aa<;>intro c2
   ·exact no (fun h=>by have:=h.2.1.1;simp only at this;omega) H3
   ·refine⟨H2.lt (i:=0) rfl rfl,?_⟩;refine H2.l 0 ?_;refine⟨by omega,?_⟩;refine Kv (by omega) ?_;apply Aa<;>intro c1
    ·exact no (fun h=>by have:=h.2.1.2;simp only at this;omega) H3
    ·refine⟨H2.lt (i:=0) rfl rfl,?_⟩;refine H2.m 0 ?_;apply Aa<;>intro c
     ·exact no (fun h=>by have:=h.2.2.1;simp only at this;omega) H3
     ·exact⟨c3,by omega,by omega,H3⟩
end
section
variable{bits u:Int}{l_a:Option Addr}{l:List Rg}{l_c:Nat}{w:World}
theorem Uh(hs:SlR (CE Bn) 3 w l_a l)(hl:l.length<=140737488355328):Calls Tryz.prog Mo #[(.int .i64 bits),(.agg #[.int .i64 u,.slice l_a l.length l_c])] w fun e w'=>e=.returned (.bool (decide (okS bits ⟨u,l⟩)))/\Below w.heap.size w w':=by
 apply Ai4;have H:=St.nil w;refine H.alloc ?_;clear H;intro b w1 H1;have no:∀ {w':World} {R:List Res} {P:World->Prop},¬okS bits ⟨u,l⟩->St (fun _=>False) [] w w' R P->Ending.returned (.bool false)=.returned (.bool (decide (okS bits ⟨u,l⟩)))/\Below w.heap.size w w':=fun h H'=>⟨Hd h,H'.below⟩;refine⟨fun w3=>Bv bits/\(0<=u/\u<2^bits.toNat)/\l.length<=64/\Cg w w3 [.blk b Ai [(.int .i64 u),(.slice l_a l.length l_c)]],?_,?_⟩
 ·rintro _ w3 ⟨hb,hu,hll,H3⟩;have hp:=Oc hb;have hb5:=hb.1;have hb9:=hb.2;refine⟨fun i=>((l.length-i).toNat,fun w4=>∃k:Nat,k<=l.length/\i=k/\Ey bits u none l=Ey bits u (Cy l k) (l.drop k)/\(∀q,Cy l k=some q->Tn bits u q)/\Cg w w4 [.blk b Ai [(.int .i64 u),(.slice l_a l.length l_c)]]),⟨0,by omega,rfl,rfl,fun q h=>(by cases h),H3⟩,?_⟩;clear H3;rintro _ i w4 ⟨k,hk,rfl,hI,hprev,H4⟩;refine H4.m 0 ?_;apply Aa<;>intro c19
  ·have hlt:k<l.length:=by omega
   rw[Apl _ _ hlt]at hI;have bad:¬(Tn bits u l[k]/\linkO bits u (Cy l k) l[k])->¬okS bits ⟨u,l⟩:=fun h h'=>by
    have:=h'.2.2.2;simp only at this;rw[hI,aI h,Bool.false_and]at this;cases this
   refine H4.m 0 ?_;refine ixE (hs.belowE H4.below) k rfl hlt fun b1 r hr hb1=>?_;obtain rfl:l[k]=r:=by rw[List.getElem?_eq_getElem hlt]at hr;injection hr
   refine⟨_,_,_,hb1,?_⟩;refine H4.alloc ?_;clear H4;intro b2 w5 H5;refine H5.s 1 ?_;clear H5;intro w6 H6;refine H6.l 1 ?_;refine H6.l 0 ?_;refine ref02_Distance_ct.mono ?_;rintro _ w7 ⟨rfl,hb7⟩;have H7:=H6.pass hb7;clear H6;refine⟨_,rfl,?_⟩;rw[aF (by omega)];obtain⟨d,hd⟩:∃d,d=way bits l[k].sn u:=⟨_,rfl⟩;have hown:Tn bits u l[k]↔(0<=l[k].sn/\l[k].sn<2^bits.toNat)/\(1<=d/\d<=2^(bits-1).toNat)/\(Fa l[k]\/Wn l[k]):=by rw[hd];exact Iff.rfl
   rw[<-hd];have next:∀ {w':World} {R:List Res},Tn bits u l[k]->linkO bits u (Cy l k) l[k]->Cg w w' (.blk b Ai [(.int .i64 u),(.slice l_a l.length l_c)]::R)->(∃k':Nat,k'<=l.length/\(k:Int)+1=k'/\Ey bits u none l=Ey bits u (Cy l k') (l.drop k')/\(∀q,Cy l k'=some q->Tn bits u q)/\Cg w w' [.blk b Ai [(.int .i64 u),(.slice l_a l.length l_c)]])/\(l.length-((k:Int)+1)).toNat<(l.length-(k:Int)).toNat:=fun ho h H'=>
    ⟨⟨k+1,by omega,by omega,by rw[hI,aM ⟨ho,h⟩,bH],fun q hq=>by simp only[Cy,List.getElem?_eq_getElem hlt]at hq;injection hq with hq;subst hq;exact ho,
     H'.sub (fun i=>i) (by rintro(_|_) r h<;>first|exact h|cases h) (fun _ _ _ _ h=>h)⟩,by omega⟩
   refine⟨fun w8=>((0<=l[k].sn/\l[k].sn<2^bits.toNat)/\(1<=d/\d<=2^(bits-1).toNat))/\Cg w w8 [.blk b Ai [(.int .i64 u),(.slice l_a l.length l_c)],.blk b2 Af (Bn l[k])],?_,?_⟩
   ·rintro _ w8 ⟨hj,H8⟩;refine⟨fun wh w9=>wh=decide (Fa l[k])/\Cg w w9 [.blk b Ai [(.int .i64 u),(.slice l_a l.length l_c)],.blk b2 Af (Bn l[k])],?_,?_⟩
    ·rintro _ wh w9 ⟨rfl,H9⟩;refine⟨fun w10=>Tn bits u l[k]/\Cg w w10 [.blk b Ai [(.int .i64 u),(.slice l_a l.length l_c)],.blk b2 Af (Bn l[k])],?_,?_⟩
     ·rintro _ w10 ⟨ho,H10⟩;apply Aa<;>intro c18
      ·refine Ao (by omega) ?_;obtain rfl:k=0:=by omega
       exact next ho trivial H10
      ·obtain⟨j,rfl⟩:∃j,k=j+1:=⟨k-1,by omega⟩;have hjl:j<l.length:=by omega
       have hpr:Cy l (j+1)=some l[j]:=by simp[Cy,List.getElem?_eq_getElem hjl]
       have hoq:=hprev _ hpr;obtain⟨dq,hdq⟩:∃dq,dq=way bits l[j].sn u:=⟨_,rfl⟩;have hlk:linkO bits u (Cy l (j+1)) l[j+1]↔d<=dq/\(d=dq->¬(Fa l[j]\/Fa l[j+1]\/l[j+1].f<=l[j].t)):=by
        rw[hpr,hd,hdq];exact Iff.rfl
       have hw:Fa l[j]↔l[j].t=0:=by
        rcases hoq.2.2 with h|h
        ·exact⟨fun h=>h.2,fun _=>h⟩
        ·obtain⟨h1,h2,_⟩:=h;exact⟨fun h=>h.2,fun h=>by omega⟩
       refine H10.m 0 ?_;refine Ao (by omega) ?_;refine ixE (hs.belowE H10.below) j (by omega) hjl fun b3 q hq hb3=>?_;obtain rfl:l[j]=q:=by rw[List.getElem?_eq_getElem hjl]at hq;injection hq
       refine⟨_,_,_,hb3,?_⟩;refine H10.alloc ?_;clear H10;intro b4 w11 H11;refine H11.s 2 ?_;clear H11;intro w12 H12;refine H12.l 2 ?_;refine H12.l 0 ?_;refine ref02_Distance_ct.mono ?_;rintro _ w13 ⟨rfl,hb13⟩;have H13:=H12.pass hb13;clear H12;refine⟨_,rfl,?_⟩;rw[aF (by omega),<-hdq];refine⟨fun x26 w14=>x26= !decide (linkO bits u (Cy l (j+1)) l[j+1])/\Cg w w14 [.blk b Ai [(.int .i64 u),(.slice l_a l.length l_c)],.blk b2 Af (Bn l[j+1]),.blk b4 Af (Bn l[j])],?_,?_⟩
       ·rintro _ x26 w14 ⟨rfl,H14⟩;apply An<;>intro c17
        ·exact no (bad fun h=>c17 h.2) H14
        ·refine Ao (by omega) ?_;exact next ho c17 H14
       ·have t:∀ {p:Prop} [Decidable p],¬p->true= !decide p:=fun h=>by simp[h]
        have f:∀ {p:Prop} [Decidable p],p->false= !decide p:=fun h=>by simp[h]
        apply Aa<;>intro c16
        ·exact⟨t fun h=>by have:=(hlk.1 h).1;omega,H13⟩
        ·apply Aa<;>intro c15
         ·apply Aa<;>intro c14
          ·exact⟨t fun h=>(hlk.1 h).2 c15.symm (.inr (.inl c14)),H13⟩
          ·refine H13.l 2 ?_;apply Aa<;>intro c13
           ·exact⟨t fun h=>(hlk.1 h).2 c15.symm (.inl (hw.2 c13)),H13⟩
           ·refine H13.l 1 ?_;refine H13.l 2 ?_;refine⟨?_,H13⟩;by_cases c:l[j+1].f<=l[j].t
            ·rw[aM c];exact t fun h=>(hlk.1 h).2 c15.symm (.inr (.inr c))
            ·rw[aI c];exact f (hlk.2 ⟨by omega,fun _ h=>by rcases h with h|h|h;exact c13 (hw.1 h);exact c14 h;exact c h⟩)
         ·exact⟨f (hlk.2 ⟨by omega,fun h=>absurd h.symm c15⟩),H13⟩
     ·apply An<;>intro c12
      ·have nop:¬Wn l[k]->¬Tn bits u l[k]:=fun h h'=>h'.2.2.elim c12 h;refine H9.l 1 ?_;apply Aa<;>intro c11
       ·exact no (bad fun h=>nop (fun h=>by have:=h.1;omega) h.1) H9
       ·refine H9.l 1 ?_;refine H9.l 1 ?_;apply Aa<;>intro c10
        ·exact no (bad fun h=>nop (fun h=>by have:=h.2.1;omega) h.1) H9
        ·refine H9.l 1 ?_;apply Aa<;>intro c9
         ·exact no (bad fun h=>nop (fun h=>by have:=h.2.2;omega) h.1) H9
         ·exact⟨hown.2 ⟨hj.1,hj.2,.inr ⟨by omega,by omega,by omega⟩⟩,H9⟩
      ·exact⟨hown.2 ⟨hj.1,hj.2,.inl c12⟩,H9⟩
    ·refine H8.l 1 ?_;apply Aa<;>intro c8
     ·refine H8.l 1 ?_;refine Aw ?_;exact⟨by rw[bT];unfold Fa;omega,H8⟩
     ·exact⟨by rw[aI];intro h;exact c8 h.1,H8⟩
   ·refine H7.l 1 ?_;apply Aa<;>intro c7
    ·exact no (bad fun h=>by have:=(hown.1 h.1).1;omega) H7
    ·refine H7.l 1 ?_;refine Pk (by omega) ?_;refine⟨by omega,?_⟩;refine Kv (by omega) ?_;apply Aa<;>intro c6
     ·exact no (bad fun h=>by have:=(hown.1 h.1).1;omega) H7
     ·apply Aa<;>intro c5
      ·exact no (bad fun h=>by have:=(hown.1 h.1).2;omega) H7
      ·refine Ao (by omega) ?_;refine Pk (by omega) ?_;refine⟨by omega,?_⟩;refine Kv (by omega) ?_;apply Aa<;>intro c4
       ·exact no (bad fun h=>by have:=(hown.1 h.1).2;omega) H7
       ·exact⟨by omega,H7⟩
  ·obtain rfl:k=l.length:=by omega
   rw[bU]at hI;exact⟨Apv ⟨hb,hu,hll,hI⟩,H4.below⟩
 ·refine ref15_Bits_ct.mono ?_;rintro _ w2 ⟨rfl,hb2⟩;have H2:=H1.pass hb2;clear H1;refine⟨_,rfl,?_⟩;apply An<;>intro c3
  ·exact no (fun h=>c3 h.1) H2
  ·have hb5:=c3.1;have hb9:=c3.2;refine H2.l 0 ?_;apply Aa<;>intro c2
   ·exact no (fun h=>by have:=h.2.1.1;simp only at this;omega) H2
   ·refine H2.l 0 ?_;refine Pk (by omega) ?_;refine⟨by omega,?_⟩;refine Kv (by omega) ?_;apply Aa<;>intro c1
    ·exact no (fun h=>by have:=h.2.1.2;simp only at this;omega) H2
    ·refine H2.m 0 ?_;apply Aa<;>intro c
     ·exact no (fun h=>by have:=h.2.2.1;simp only at this;omega) H2
     ·exact⟨c3,by omega,by omega,H2⟩
end
end Go.Proofs.YtmbppohkadmjgaaGreat
namespace Go.Sx
theorem Bb3{x y:Int}(k:Nat)(m:Int)(hx:x=2^k*m)(hm:0<=m)(hy:0<=y/\y<2^k)(hr:x+y<=255):bOr .u8 x y=x+y:=by
 obtain⟨m,rfl⟩:=Xj hm;obtain⟨y,rfl⟩:=Xj hy.1;rw[Xu]at hx hy;have hx2:x=((2^k*m:Nat):Int):=by rw[hx];simp
 have hy2:y<2^k:=by omega
 subst hx2;rw[Awp .u8 _ _ (by show _<2^8;omega) (by show _<2^8;omega),<-Nat.two_pow_add_eq_or_of_lt hy2,IntWalk.u8_in _ (by omega)];omega
theorem Arb(v:Int):Aju 2 v=Oh v:=by simp[Aju,Oh]
theorem Az1(r:Rg):(Zs r).length<=6:=by unfold Zs;split<;>simp[Oh]
theorem Ae0(L:List Rg):(L.flatMap Zs).length<=6*L.length:=by
 induction L with
 |nil=>simp
 |cons r L ih=>have:=Az1 r;simp only[cB,aP,aQ];omega
theorem Ul(v:Int):Bytes (Oh v):=fun i hi=>by
 rcases i with _|_|i
 ·simp only[Oh,cW];omega
 ·simp only[Oh,eJ,cW];omega
 ·simp[Oh]at hi;omega
theorem Ss{l m:List Int}(h:Bytes l)(k:Bytes m):Bytes (l++m):=fun i hi=>by
 by_cases hlt:i<l.length
 ·rw[eE hlt];exact h i hlt
 ·rw[dZ (by omega)];exact k _ (by simp at hi;omega)
theorem Av5(r:Rg):Bytes (Zs r):=by
 unfold Zs;split
 ·exact Ul _
 ·exact Ss (Ul _) (Ss (Ul _) (Ul _))
theorem At5(L:List Rg):Bytes (L.flatMap Zs):=by
 induction L with
 |nil=>exact fun i hi=>by simp at hi
 |cons r L ih=>rw[cB];exact Ss (Av5 r) ih
theorem Ata(s:Stt):Bytes (Ld s):=by
 refine Ss (Ul _) fun i hi=>?_;cases i with
 |zero=>simp only[cW];omega
 |succ i=>simp only[eJ];exact At5 _ i (by simpa using hi)
theorem Aq6(l:List Rg)(k:Nat)(h:k<l.length):(l.take (k+1)).flatMap Zs=(l.take k).flatMap Zs++Zs l[k]:=by
 rw[cS,List.getElem?_eq_getElem h,dW];simp
theorem Ai5{b u:Int}:∀ {l:List Rg} {p:Option Rg},Ey b u p l=true->∀r∈l,Tn b u r
 | [],_,_,r,hr=>by simp at hr
 |x::l,p,h,r,hr=>by
  simp only[Ey,aH,aV]at h;rcases bB.1 hr with rfl|hr
  ·exact h.1.1
  ·exact Ai5 h.2 r hr
end Go.Sx
namespace Go.Proofs.YtmbppohkadmjgaaGreat
open Go.Sx Go.RowKit
theorem RetB.of{w w':World}{R:List Res}{P:World->Prop}(H:St (fun _=>False) [] w w' R P){i:Nat}{a:Option Addr}{c:Nat}{bs:List Int}(hi:R[i]?=some (.ints Az .u8 a c bs))(er:Int):RetB w bs er (.returned (.tuple #[.slice a bs.length c,.int .i64 er])) w':=⟨a,c,H.capI hi,rfl,H.freshI hi⟩
section
variable{bits u:Int}{l_a:Option Addr}{l:List Rg}{l_c:Nat}{w:World}
theorem Xp(hs:SlR (CE Bn) 3 w l_a l)(hl:l.length<=140737488355328):Calls Tryz.prog Nb #[(.int .i64 bits),(.agg #[.int .i64 u,.slice l_a l.length l_c])] w (RetB w (encS bits ⟨u,l⟩).1 (encS bits ⟨u,l⟩).2):=by
 apply Afj;have H:=St.nil w;refine H.alloc ?_;clear H;intro b w1 H1;refine⟨_,_,_,_,H1.cells (i:=0) rfl,?_⟩;refine(Sc (hs.belowE H1.below) hl).mono ?_;rintro _ w2 ⟨rfl,hb2⟩;have H2:=H1.pass hb2;clear H1;refine⟨_,rfl,?_⟩;apply An<;>intro c2
 ·have e0:encS bits ⟨u,l⟩=([],1):=aE c2;rw[e0];exact .nil H2.below _
 ·have e0:encS bits ⟨u,l⟩=(Ld ⟨u,l⟩,0):=aF c2;rw[e0];have hll:l.length<=64:=c2.2.2.1;have hu:=c2.2.1;have hp:=Cm c2.1;have hown:=Ai5 c2.2.2.2;simp only at hu hown;refine H2.l 0 ?_;refine Ui ?_;refine Aas ?_;refine H2.l 0 ?_;refine Aas ?_;refine H2.m 0 ?_;refine Aas ?_;refine H2.alloc ?_;clear H2;intro b1 w3 H3;have H3:=H3.litI (i:=1) (k:=.u8) (Oh u++[(l.length:Int)%256]) rfl (by simp[Oh,maxLen]);refine H3.m 0 ?_;refine⟨fun b_a b_l b_c x6=>((l.length-x6).toNat,fun w4=>∃(k:Nat) (ys:List Int),x6=k/\k<=l.length/\b_l=ys.length/\ys=Oh u++(l.length:Int)%256::(l.take k).flatMap Zs/\Cg w w4 [.blk b Ai [(.int .i64 u),(.slice l_a l.length l_c)],.ints Az .u8 b_a b_c ys]),⟨0,Oh u++[(l.length:Int)%256],rfl,by omega,rfl,by simp,H3⟩,?_⟩;clear H3;rintro _ b_a b_l b_c x6 w4 ⟨k,ys,rfl,hk,rfl,hys,H4⟩;have hyl:ys.length<=3+6*k:=by
   have:=Ae0 (l.take k);rw[hys];simp only[aP,aQ,Oh,cU,aU]at this ⊢;omega
  apply Aa<;>intro c1
  ·have hlt:k<l.length:=by omega
   have hsn:=(hown l[k] (aJ hlt)).1;refine ixE (hs.belowE H4.below) k rfl hlt fun b2 r hr hb2=>?_;obtain rfl:l[k]=r:=by rw[List.getElem?_eq_getElem hlt]at hr;injection hr
   have hnext:=Aq6 l k hlt;obtain⟨r,hr⟩:∃r,r=l[k]:=⟨_,rfl⟩;rw[<-hr]at hsn hb2 hnext;refine⟨_,_,_,hb2,?_⟩;refine H4.alloc ?_;clear H4;intro b3 w5 H5;refine H5.s 2 ?_;clear H5;intro w6 H6;refine H6.l 2 ?_;refine Ui ?_;refine Aas ?_;refine H6.l 2 ?_;refine Ao (by omega) ?_;refine Aas ?_;refine H6.alloc ?_;clear H6;intro b4 w7 H7;refine H7.appIB (i:=1) (j:=3) rfl [r.sn/2^4%256,r.sn*2^4%256] rfl sl_Ty_S_uint8 rfl (by simp;omega) (by simp;omega) ?_;intro x_a2 x_c2 w8 H8;refine⟨_,_,_,H8.cells (i:=2) rfl,?_⟩;refine status_Whole_ct.mono ?_;rintro _ w9 ⟨rfl,hb9⟩;have H9:=H8.pass hb9;clear H8;refine⟨_,rfl,?_⟩;have ezl:(ys++[r.sn/2^4%256,r.sn*2^4%256]).length=ys.length+2:=by simp
   apply An<;>intro c
   ·have hlen:0<(ys++[r.sn/2^4%256,r.sn*2^4%256]).length:=by omega
    refine Ao (by omega) ?_;obtain⟨g,rfl,-,-⟩:=H9.rowSome (i:=1) rfl hlen;have ej:((ys++[r.sn/2^4%256,r.sn*2^4%256]).length:Int)-1=((ys.length+1:Nat):Int):=by omega
    rw[ej];refine Jx ⟨by omega,by omega⟩ ?_;rw[Bd,aN,dB,bK];have hlast:(ys++[r.sn/2^4%256,r.sn*2^4%256])[ys.length+1]?=some (r.sn*2^4%256):=by
     rw[List.getElem?_append_right (by omega)];simp
    refine⟨r.sn*2^4%256,H9.cellRow (i:=1) rfl (by rw[List.getElem?_map,hlast];rfl),?_⟩;refine Nu fun x15 hx15=>?_;rw[Bb3 4 (r.sn%16) (by omega) (by omega) (by decide) (by omega)]at hx15;refine Jx ⟨by omega,by omega⟩ ?_;rw[Bd,aN];refine H9.setI (i:=1) rfl (by omega) fun w10 _ H10=>?_;have ese:(ys++[r.sn/2^4%256,r.sn*2^4%256]).set (ys.length+1) x15=ys++[r.sn/2^4%256,x15]:=by
     rw[cH _ _ (by omega)];simp
    rw[ese]at H10;refine H10.l 2 ?_;refine Ui ?_;refine Aas ?_;refine H10.l 2 ?_;refine Aas ?_;refine H10.l 2 ?_;refine Ui ?_;refine Aas ?_;refine H10.l 2 ?_;refine Aas ?_;refine H10.alloc ?_;clear H10;intro b7 w11 H11;have ez2:(ys++[r.sn/2^4%256,r.sn*2^4%256]).length=(ys++[r.sn/2^4%256,x15]).length:=by simp
    rw[ez2];refine H11.appIB (i:=1) (j:=4) rfl [r.f/2^8%256,r.f%256,r.t/2^8%256,r.t%256] rfl sl_Ty_S_uint8 rfl (by simp;omega) (by simp;omega) ?_;intro x_a3 x_c3 w12 H12;refine Ao (by omega) ?_;refine⟨⟨k+1,_,by omega,by omega,rfl,?_,H12.sub (fun i=>i) (by rintro(_|_|_) r h<;>first|exact h|cases h) (fun _ _ _ _ h=>h)⟩,by dsimp only;omega⟩;rw[hnext,Zs,aE c,hys,hx15];simp only[Oh,aZ,aD,aC];have q1:(16*r.sn+1)/256%256=r.sn/2^4%256:=by omega
    have q2:(16*r.sn+1)%256=r.sn*2^4%256+1:=by omega
    rw[q1,q2];rfl
   ·refine Ao (by omega) ?_;refine⟨⟨k+1,_,by omega,by omega,rfl,?_,H9.sub (fun i=>i) (by rintro(_|_|_) r h<;>first|exact h|cases h) (fun _ _ _ _ h=>h)⟩,by dsimp only;omega⟩;rw[hnext,Zs,aF c,hys];simp only[Oh,aZ,aD,aC];have q1:16*r.sn/256%256=r.sn/2^4%256:=by omega
    have q2:16*r.sn%256=r.sn*2^4%256:=by omega
    rw[q1,q2]
  ·obtain rfl:k=l.length:=by omega
   rw[bI]at hys;obtain rfl:ys=Ld ⟨u,l⟩:=hys;exact .of H4 (i:=1) rfl 0
theorem Aae(hs:SlR (CE Bn) 3 w l_a l)(hl:l.length<=140737488355328):Calls Tryz.prog Om #[(.int .i64 bits),(.agg #[.int .i64 u,.slice l_a l.length l_c])] w (RetB w (encS bits ⟨u,l⟩).1 (encS bits ⟨u,l⟩).2):=by
 apply Ail;have H:=St.nil w;refine H.alloc ?_;clear H;intro b w1 H1;refine⟨_,_,_,_,H1.cells (i:=0) rfl,?_⟩;refine(Uh (hs.belowE H1.below) hl).mono ?_;rintro _ w2 ⟨rfl,hb2⟩;have H2:=H1.pass hb2;clear H1;refine⟨_,rfl,?_⟩;apply An<;>intro c2
 ·have e0:encS bits ⟨u,l⟩=([],1):=aE c2;rw[e0];exact .nil H2.below _
 have e0:encS bits ⟨u,l⟩=(Ld ⟨u,l⟩,0):=aF c2;rw[e0];have hll:l.length<=64:=c2.2.2.1;have hu:=c2.2.1;have hp:=Cm c2.1;have hown:=Ai5 c2.2.2.2;simp only at hu hown;refine⟨fun b_a b_l b_c w10=>b_l=(Oh u++[(l.length:Int)%256]).length/\Cg w w10 [.blk b Ai [(.int .i64 u),(.slice l_a l.length l_c)],.ints Az .u8 b_a b_c (Oh u++[(l.length:Int)%256])],?_,?_⟩
 ·rintro _ b_a b_l b_c w10 ⟨rfl,H10⟩;refine⟨fun b_a b_l b_c x6=>((l.length-x6).toNat,fun w4=>∃(k:Nat) (ys:List Int),x6=k/\k<=l.length/\b_l=ys.length/\ys=Oh u++(l.length:Int)%256::(l.take k).flatMap Zs/\Cg w w4 [.blk b Ai [(.int .i64 u),(.slice l_a l.length l_c)],.ints Az .u8 b_a b_c ys]),⟨0,Oh u++[(l.length:Int)%256],rfl,by omega,rfl,by simp,H10⟩,?_⟩;clear H10;rintro _ b_a1 b_l1 b_c1 i w11 ⟨k,ys,rfl,hk,rfl,hys,H11⟩;have hyl:ys.length<=3+6*k:=by
   have:=Ae0 (l.take k);rw[hys];simp only[aP,aQ,Oh,cU,aU]at this ⊢;omega
  refine H11.m 0 ?_;apply Aa<;>intro c1
  ·have hlt:k<l.length:=by omega
   have hsn:=(hown l[k] (aJ hlt)).1;refine H11.m 0 ?_;refine ixE (hs.belowE H11.below) k rfl hlt fun b3 r hr hb3=>?_;obtain rfl:l[k]=r:=by rw[List.getElem?_eq_getElem hlt]at hr;injection hr
   have hnext:=Aq6 l k hlt;obtain⟨r,hr⟩:∃r,r=l[k]:=⟨_,rfl⟩;rw[<-hr]at hsn hb3 hnext;refine⟨_,_,_,hb3,?_⟩;refine H11.alloc ?_;clear H11;intro b4 w12 H12;refine H12.s 2 ?_;clear H12;intro w13 H13;refine⟨_,_,_,H13.cells (i:=2) rfl,?_⟩;refine ref19_size_ct.mono ?_;rintro _ w14 ⟨rfl,hb14⟩;have H14:=H13.pass hb14;clear H13;refine⟨_,rfl,?_⟩;have hsz:szR r=2↔Fa r:=by unfold szR;split<;>simp_all
   apply Aa<;>intro c
   ·have c:=hsz.1 c;refine H14.l 2 ?_;refine Ao (by omega) ?_;refine Axi H14 (i:=1) rfl 2 (by omega) (by omega) fun ra rc w15 _ H15=>?_;refine Ao (by omega) ?_;refine⟨⟨k+1,_,by omega,by omega,rfl,?_,H15.sub (fun i=>i) (by rintro(_|_|_) r h<;>first|exact h|cases h) (fun _ _ _ _ h=>h)⟩,by dsimp only;omega⟩;rw[hnext,Zs,aF c,hys,Arb];simp
   ·have c:¬Fa r:=fun h=>c (hsz.2 h);refine H14.drew ?_;clear H14;intro w16 H16;refine⟨fun x=>x=b4,?_⟩;refine H16.l 2 ?_;refine Ao (by omega) ?_;refine Ao (by omega) ?_;refine⟨rfl,?_⟩;refine H16.l 2 ?_;refine⟨rfl,?_⟩;refine H16.l 2 ?_;refine Axi H16 (i:=1) rfl 2 (by omega) (by omega) fun ra rc w17 _ H17=>?_;refine⟨Dt H16 H17 (i:=2) (j:=2) rfl rfl,?_⟩;refine Axi H17 (i:=1) rfl 2 (by omega) (by simp only[aP,Aca];omega) fun ra1 rc1 w18 _ H18=>?_;refine⟨Dt H16 H18 (i:=2) (j:=2) rfl rfl,?_⟩;refine Axi H18 (i:=1) rfl 2 (by omega) (by simp only[aP,Aca];omega) fun ra2 rc2 w19 _ H19=>?_;refine⟨Dt H16 H19 (i:=2) (j:=2) rfl rfl,?_⟩;refine Ao (by omega) ?_;refine⟨⟨k+1,_,by omega,by omega,rfl,?_,H19.sub (fun i=>i) (by rintro(_|_|_) r h<;>first|exact h|cases h) (fun _ _ _ _ h=>h)⟩,by dsimp only;omega⟩;rw[hnext,Zs,aE c,hys,Arb,Arb,Arb];simp
  ·obtain rfl:k=l.length:=by omega
   rw[bI]at hys;obtain rfl:ys=Ld ⟨u,l⟩:=hys;exact .of H11 (i:=1) rfl 0
 ·refine H2.drew ?_;clear H2;intro w3 H3;refine⟨fun x=>x=b,?_⟩;refine⟨rfl,?_⟩;refine H3.l 0 ?_;refine⟨rfl,?_⟩;refine H3.m 0 ?_;refine Aas ?_;have H3:=H3.nilI Az .u8;refine⟨?_,?_,trivial⟩
  ·refine Axi H3 (i:=1) (ys:=[]) rfl 2 (by omega) (by simp) fun ra rc w4 _ H4=>?_;simp only[aC,Arb]at H4 ⊢;refine⟨Dt H3 H4 (i:=0) (j:=0) rfl rfl,?_⟩;refine H4.alloc ?_;intro b1 w5 H5;refine⟨Dt H3 H5 (i:=0) (j:=0) rfl rfl,?_⟩;refine H5.appIB (i:=1) (j:=2) rfl [(l.length:Int)%256] rfl sl_Ty_S_uint8 rfl (by simp[Oh]) (by simp[Oh]) ?_;intro x_a1 x_c1 w6 H6;refine⟨Dt H3 H6 (i:=0) (j:=0) rfl rfl,?_⟩;exact⟨rfl,H6.dropLast⟩
  ·refine H3.alloc ?_;intro b2 w7 H7;refine⟨Dt H3 H7 (i:=0) (j:=0) rfl rfl,?_⟩;refine Axi H7 (i:=1) (ys:=[]) rfl 2 (by omega) (by simp) fun ra rc w8 _ H8=>?_;simp only[aC,Arb]at H8 ⊢;refine⟨Dt H3 H8 (i:=0) (j:=0) rfl rfl,?_⟩;refine H8.appIB (i:=1) (j:=2) rfl [(l.length:Int)%256] rfl sl_Ty_S_uint8 rfl (by simp[Oh]) (by simp[Oh]) ?_;intro x_a2 x_c2 w9 H9;refine⟨Dt H3 H9 (i:=0) (j:=0) rfl rfl,?_⟩;exact⟨rfl,H9.dropLast⟩
end
end Go.Proofs.YtmbppohkadmjgaaGreat
namespace Go.Sx
theorem Ads{b u:Int}:∀ {L:List Rg} {p:Option Rg},Ey b u p L=true↔(∀k (h:k<L.length),Tn b u L[k])/\(∀h:0<L.length,linkO b u p L[0])/\∀k (h:k+1<L.length),Akt b u L[k] L[k+1]
 | [],p=>by simp[Ey]
 |x::L,p=>by
  simp only[Ey,aH,aV,Ads (L:=L)];constructor
  ·rintro⟨⟨h1,h2⟩,h3,h4,h5⟩;refine⟨fun k h=>?_,fun _=>h2,fun k h=>?_⟩
   ·cases k with
    |zero=>exact h1
    |succ k=>exact h3 k (by simpa using h)
   ·cases k with
    |zero=>exact h4 (by simpa using h)
    |succ k=>exact h5 k (by simpa using h)
  ·rintro⟨h1,h2,h3⟩;exact⟨⟨h1 0 (by simp),h2 (by simp)⟩,fun k h=>h1 (k+1) (by simpa using h),fun h=>h3 0 (by simpa using h),fun k h=>h3 (k+1) (by simpa using h)⟩
def sumS:List Rg->Int
 | []=>0
 |r::L=>szR r+sumS L
theorem Aks(L M:List Rg):sumS (L++M)=sumS L+sumS M:=by
 induction L with
 |nil=>simp[sumS]
 |cons r L ih=>simp[sumS,ih];omega
theorem Aun(L:List Rg):0<=sumS L:=by
 induction L with
 |nil=>simp[sumS]
 |cons r L ih=>have:=Amv r;simp[sumS];omega
theorem Yi(s:Stt):((Ld s).length:Int)=3+sumS s.miss:=by
 have key:∀L:List Rg,((L.flatMap Zs).length:Int)=sumS L:=by
  intro L;induction L with
  |nil=>rfl
  |cons r L ih=>
   rw[cB,aP];have:((Zs r).length:Int)=szR r:=by unfold Zs szR;split<;>simp[Oh]
   simp only[sumS];omega
 have:=key s.miss;simp only[Ld,aP,aQ,Oh,cU];omega
theorem Ax5(L:List Rg)(k:Nat)(h:k<L.length):sumS (L.take (k+1))=sumS (L.take k)+szR L[k]:=by
 rw[cS,List.getElem?_eq_getElem h,Aks];simp[sumS]
theorem Arp(L:List Rg){i j:Nat}(h:i<=j):sumS (L.take i)<=sumS (L.take j):=by
 have e:L.take j=L.take i++(L.drop i).take (j-i):=by
  have e1:L.take j=L.take (i+(j-i)):=by rw[show i+(j-i)=j by omega]
  rw[e1,List.take_add]
 rw[e,Aks];have:=Aun ((L.drop i).take (j-i));omega
def Bbs(L:List Rg)(i k:Nat):Prop:=(∀j (h:j+1<L.length),i=j+1->L[j].sn≠L[j+1].sn)/\∀j (h:j<L.length) (h2:i<L.length),i<=j->j<k->L[j].sn=L[i].sn
theorem Auo(sp u:Int)(L:List Rg):∀(n k:Nat) (unit:Nat),n=L.length-k->k<=L.length->3+sumS (L.take k)<=sp->Bbs L unit k->unit<=k->(0<k->unit<k)->
 (Aco sp u L k (3+sumS (L.take k)) unit (Cy L k) (L.drop k)=⟨u,L⟩/\3+sumS L<=sp)\/
 ∃(i m:Nat) (hi:i<L.length),i<=m/\m<L.length/\Aco sp u L k (3+sumS (L.take k)) unit (Cy L k) (L.drop k)=⟨L[i].sn,L.take i⟩/\Bbs L i (m+1)/\3+sumS (L.take m)<=sp/\sp<3+sumS (L.take (m+1))
 |0,k,unit,hn,hk,hs,_,_,_=>by
  obtain rfl:k=L.length:=by omega
  rw[bI]at hs;rw[bU];exact .inl ⟨rfl,hs⟩
 |n+1,k,unit,hn,hk,hs,h1,huk,huk2=>by
  have hlt:k<L.length:=by omega
  have hu:Bbs L (Kd k (Cy L k) unit L[k]) (k+1)/\Kd k (Cy L k) unit L[k]<=k:=by
   cases k with
   |zero=>
    have:unit=0:=by omega
    subst this;have e:Kd 0 (Cy L 0) 0 L[0]=0:=rfl;rw[e];refine⟨⟨fun j h e=>by omega,fun j h h2 a b=>?_⟩,aG _⟩;obtain rfl:j=0:=by omega
    rfl
   |succ j=>
    have hj:j<L.length:=by omega
    have hul:=huk2 (by omega);have e:Kd (j+1) (Cy L (j+1)) unit L[j+1]=if L[j+1].sn≠L[j].sn then j+1 else unit:=by simp only[Kd,Cy,List.getElem?_eq_getElem hj]
    rw[e];by_cases c:L[j+1].sn=L[j].sn
    ·rw[aE (not_not_intro c)];refine⟨⟨h1.1,fun i h h2 a b=>?_⟩,by omega⟩;rcases (show i<j+1\/i=j+1 by omega)with h3|rfl
     ·exact h1.2 i h h2 a h3
     ·rw[c];exact h1.2 j hj h2 (by omega) (by omega)
    ·rw[aF c];refine⟨⟨fun i h e=>?_,fun i h h2 a b=>?_⟩,by omega⟩
     ·obtain rfl:j=i:=by omega
      exact fun h=>c h.symm
     ·obtain rfl:i=j+1:=by omega
      rfl
  rw[Ano _ _ _ _ _ _ hlt];obtain⟨u',hu'⟩:∃u',u'=Kd k (Cy L k) unit L[k]:=⟨_,rfl⟩;rw[<-hu']at hu ⊢;have hst:=Ax5 L k hlt;have hul:u'<L.length:=by omega
  by_cases c:3+sumS (L.take k)+szR L[k]>sp
  ·rw[aF c];have hsn:L[k].sn=L[u'].sn:=hu.1.2 k hlt hul hu.2 (by omega);exact .inr ⟨u',k,hul,hu.2,hlt,by rw[hsn],hu.1,hs,by omega⟩
  ·rw[aE c];have e:3+sumS (L.take k)+szR L[k]=3+sumS (L.take (k+1)):=by omega
   rw[e];exact Auo sp u L n (k+1) u' (by omega) (by omega) (by omega) hu.1 (by omega) (fun _=>by omega)
theorem Ba4{b u x y:Int}(hb:Bv b)(h:way b x u>way b y u):way b x y=way b x u-way b y u:=by
 have hr:=Qf b x u;have hr2:=Qf b y u;unfold way at*;have:(y-x)%2^b.toNat=((u-x)%2^b.toNat-(u-y)%2^b.toNat)%2^b.toNat:=by
  rw[<-Int.sub_emod];congr 1;omega
 rw[this];exact Int.emod_eq_of_lt (by omega) (by omega)
theorem Bba{b u x y:Int}(hx:0<=x/\x<2^b.toNat)(hy:0<=y/\y<2^b.toNat)(h:way b x u=way b y u):x=y:=by
 unfold way at h;have h2:((u-x)-(u-y))%2^b.toNat=0:=by rw[Int.sub_emod,h,Int.sub_self];rfl
 have e:(u-x)-(u-y)=y-x:=by omega
 rw[e]at h2;obtain⟨q,hq⟩:=Int.dvd_of_emod_eq_zero h2;have hp:(0:Int)<2^b.toNat:=by omega
 obtain⟨M,hM⟩:∃M,M=(2:Int)^b.toNat:=⟨_,rfl⟩;rw[<-hM]at hx hy hq hp;rcases Int.lt_trichotomy q 0 with c|c|c
 ·have:M*q<=M*(-1):=Int.mul_le_mul_of_nonneg_left (by omega) (by omega);omega
 ·subst c;omega
 ·have:M*1<=M*q:=Int.mul_le_mul_of_nonneg_left (by omega) (by omega);omega
theorem Anf{b u:Int}{L:List Rg}(h:Ey b u none L=true):∀(d j:Nat) (hj:j+d<L.length),way b L[j+d].sn u<=way b L[j].sn u
 |0,j,hj=>bV _
 |d+1,j,hj=>by
  have:=Anf h d j (by omega);have h2:=((Ads.1 h).2.2 (j+d) (by omega)).1;exact Int.le_trans h2 this
theorem Ayn{b sp u:Int}{L:List Rg}(h:okS b ⟨u,L⟩)(hsp:3<=sp){X:Stt}(hX:X=Aco sp u L 0 3 0 none L):okS b X/\((Ld X).length:Int)<=sp/\(X=⟨u,L⟩\/∃(i:Nat) (hi:i<L.length),X=⟨L[i].sn,L.take i⟩/\(∀j (hj:j+1<L.length),i=j+1->L[j].sn≠L[i].sn)/\1<=way b L[i].sn u/\
  ∀g,i<g->g<=L.length->(∀hg:g<L.length,L[g].sn≠L[i].sn)->sp<((Ld ⟨u,L.take g⟩).length:Int)):=by
 have h0:=h;obtain⟨h1,h2,h3,h4⟩:=h;simp only at h2 h3 h4;have hc:=Ads.1 h4;rcases Auo sp u L L.length 0 0 (by omega) (by omega) (by simpa [sumS] using hsp) ⟨fun j h e=>by omega,fun j h h2 a b=>by omega⟩ (by omega) (by omega)with ⟨f1,f2⟩|⟨i,m,hi,him,hm,f1,f2,f3,f4⟩
 ·have f1:X=⟨u,L⟩:=by rw[hX];simpa [sumS,Cy] using f1
  subst f1;exact⟨h0,by rw[Yi];exact f2,.inl rfl⟩
 ·have f1:X=⟨L[i].sn,L.take i⟩:=by rw[hX];simpa [sumS,Cy] using f1
  have hoi:=hc.1 i hi;have hgt:∀k (hk:k<i),way b (L[k]'(by omega)).sn u>way b L[i].sn u:=fun k hk=>by
   obtain⟨j,rfl⟩:∃j,i=j+1:=⟨i-1,by omega⟩;have hj:j+1<L.length:=hi;have hne:=f2.1 j hj rfl;have hl:=((hc.2.2) j hj).1;have hm:=Anf h4 (j-k) k (by omega);have hoj:=hc.1 j (by omega);have hjk:k+(j-k)=j:=by omega
   simp only[hjk]at hm;have:way b L[j].sn u≠way b L[j+1].sn u:=fun e=>hne (Bba hoj.1 hoi.1 e);omega
  have hwk:∀k (hk:k<i),way b (L[k]'(by omega)).sn L[i].sn=way b (L[k]'(by omega)).sn u-way b L[i].sn u:=fun k hk=>Ba4 h1 (hgt k hk);subst f1;refine⟨⟨h1,hoi.1,by simp;omega,?_⟩,by rw[Yi];have:=Arp L him;simp only;omega,.inr ⟨i,hi,rfl,fun j hj e=>?_,hoi.2.1.1,fun g hg hgl hgn=>?_⟩⟩
  ·rw[Ads];refine⟨fun k hk=>?_,fun _=>trivial,fun k hk=>?_⟩
   ·simp only[aU]at hk;simp only[bX];have ho:=hc.1 k (by omega);have:=hgt k (by omega);refine⟨ho.1,?_,ho.2.2⟩;rw[hwk k (by omega)];have:=ho.2.1;have:=hoi.2.1;omega
   ·simp only[aU]at hk;simp only[bX];have hl:=hc.2.2 k (by omega);unfold Akt at hl ⊢;rw[hwk k (by omega),hwk (k+1) (by omega)];exact⟨by omega,fun e=>hl.2 (by omega)⟩
  ·subst e;exact f2.1 j hj rfl
  ·rw[Yi];have hgm:m+1<=g:=by
    rcases aT m g with h|h
    ·exact h
    ·exact absurd (f2.2 g (by omega) hi (by omega) (by omega)) (hgn (by omega))
   have:=Arp L hgm;simp only;omega
theorem Bc2(x:Int):Ts [x]=x:=by simp[Ts]
theorem Axa(x y:Int):Ts [x,y]=256*x+y:=by simp[Ts]
theorem Bct{l:List Int}(h:¬l.length<1):∃x r,l=x::r:=by
 cases l with
 |nil=>simp at h
 |cons x r=>exact⟨x,r,rfl⟩
theorem Anj{l:List Int}(h:¬l.length<2):∃x y r,l=x::y::r:=by
 rcases l with _|⟨x,_|⟨y,r⟩⟩
 ·simp at h
 ·simp at h
 ·exact⟨x,y,r,rfl⟩
theorem Ab8{x y:Int}{l:List Int}(h:Bytes (x::y::l)):(0<=x/\x<256)/\(0<=y/\y<256)/\Bytes l:=
 ⟨h 0 (by simp),h 1 (by simp),fun i hi=>h (i+2) (by simpa using hi)⟩
theorem Azg{x:Int}{l:List Int}(h:Bytes (x::l)):(0<=x/\x<256)/\Bytes l:=
 ⟨h 0 (by simp),fun i hi=>h (i+1) (by simpa using hi)⟩
def rdX(k:Nat)(v:Int):List Int->Option (List Rg)
 |e::f::g::h::l=>(rdR k l).map (⟨v/16,256*e+f,256*g+h⟩:: ·)
 |_=>none
theorem Atw(k:Nat)(p q:Int)(l:List Int):rdR (k+1) (p::q::l)=if (256*p+q)%16=1 then rdX k (256*p+q) l else (rdR k l).map (⟨(256*p+q)/16,0,0⟩:: ·):=by
 rcases l with _|⟨e,_|⟨f,_|⟨g,_|⟨h,l⟩⟩⟩⟩<;>rfl
end Go.Sx
namespace Go.Proofs.YtmbppohkadmjgaaGreat
open Go.Sx Go.RowKit
abbrev rd(b2:Nat)(a:Option Addr)(c:Nat)(rest:List Int):Res:=.blk b2 Xk [.slice a rest.length c]
def RetS(w:World)(s:Stt)(er:Int):Ending->World->Prop:=fun e w'=>∃a c,s.miss.length<=c/\e=.returned (.tuple #[.agg #[.int .i64 s.upto,.slice a s.miss.length c],.int .i64 er])/\Ti w w' fun w=>SlR (CE Bn) 3 w a s.miss
theorem RetS.zero{w w':World}(b:Below w.heap.size w w')(er:Int):RetS w .zero er (.returned (.tuple #[.agg #[.int .i64 0,.slice none 0 0],.int .i64 er])) w':=
 ⟨none,0,aG _,rfl,((St.nil w).pass b).imp fun _ _=>.inl rfl⟩
end Go.Proofs.YtmbppohkadmjgaaGreat
namespace Go.Sx
open Go.RowKit
section
variable{P:Program}{ops:Array Oper}{Q:Exit→Act→List Frame→World→Prop}{i:Nat}{rest:List Nat}{a:Act}{cs cs':List Frame}{w:World}{o:Oper}{v:Value}
theorem At6(ho:ops[i]?=some o)(hg:o.guard=none)(hr:(execOp a.eval o).run P w=.ok .recover w)(hc:recoverD cs=some (v,cs'))(h:wpOpsS P ops Q rest (a.put o.dst v) cs' w):wpOpsS P ops Q (i::rest) a cs w:=by
 simp only[wpOpsS,ho,Region.wanted,hg,dO,hr,hc];exact h
theorem Au7(ho:ops[i]?=some o)(hg:o.guard=none)(hr:(execOp a.eval o).run P w=.ok .recover w)(hc:recoverD cs=none)(h:wpOpsS P ops Q rest (a.put o.dst .nilIface) cs w):wpOpsS P ops Q (i::rest) a cs w:=by
 simp only[wpOpsS,ho,Region.wanted,hg,dO,hr,hc];exact h
theorem Ny(ho:ops[i]?=some o)(hg:o.guard=none)(hr:(execOp a.eval o).run P w=.ok (.value v) w)(h:wpOpsS P ops Q rest (a.put o.dst v) cs w):wpOpsS P ops Q (i::rest) a cs w:=by
 simp only[wpOpsS,ho,Region.wanted,hg,dO,hr];exact h
theorem Akw{k:TypeId→List Kind}(ho:ops[i]?=some o)(hg:o.guard=none)(h:As9 P ⟨k,none⟩ o (Ce a) w fun v w'=>wpOpsS P ops Q rest (a.put o.dst v) cs w'):wpOpsS P ops Q (i::rest) a cs w:=by
 simp only[wpOpsS,ho,Region.wanted,hg,dO];have hd:=Xw h;cases hd with
 |value v w' hr hk=>rw[Jp]at hr;rw[hr];exact hk
 |skip w' hr hk=>rw[Jp]at hr;rw[hr];exact hk
 |enter f args w' hr hk=>
  rw[Jp]at hr;rw[hr];refine Calls.mono hk ?_;rintro _ w2 (⟨v,rfl,hk⟩|⟨_,_,hk⟩)
  ·exact hk
  ·exact hk.elim
 |panic v w' hr hk=>exact hk.elim
end
end Go.Sx
namespace Go.Proofs.YtmbppohkadmjgaaGreat
open Go.Sx Go.RowKit
set_option maxRecDepth 100000
def Qh:Value:=.iface Gw (.agg #[])
def Bc5:TypeId:=20
theorem Ay5(w:World):(do eqGuard .neq 20 (.tmp 4) (.const .nilIface) (.iface Gw (.agg #[])) .nilIface;binOp .neq 20 (.iface Gw (.agg #[])) .nilIface:Sem Value).run Tryz.prog w=.ok (.bool true) w:=by rfl
theorem Azu(w:World):(do eqGuard .neq 20 (.tmp 4) (.const .nilIface) .nilIface .nilIface;binOp .neq 20 .nilIface .nilIface:Sem Value).run Tryz.prog w=.ok (.bool false) w:=by rfl
theorem Bbd:Tryz.f88.body=some (.seq (.region 0 #[{ dst:=some 3,op:=.call { callee:=.builtin .recover,args:=#[],argTypes:=#[] },type:=20,pos:= "status.go:94",after:=#[],guard:=none },
 { dst:=some 2,op:=.assign (.tmp 3),type:=20,pos:= "status.go:94",after:=#[{ on:=0,ground:=.data },{ on:=0,ground:=.chain },{ on:=0,ground:=.phase }],guard:=none }] false)
 (.seq (.region 1 #[{ dst:=some 4,op:=.move (.tmp 2),type:=20,pos:= "status.go:94",after:=#[],guard:=none },
  { dst:=some 5,op:=.binOp .neq 20 (.tmp 4) (.const .nilIface) 20,type:=4,pos:= "status.go:94",after:=#[{ on:=0,ground:=.data }],guard:=none }] false)
  (.cond (.tmp 5) (.region 2 #[{ dst:=some 6,op:=.build Ai #[],type:=Ai,pos:= "status.go:95",after:=#[],guard:=none },
   { dst:=none,op:=.store Ai (.tmp 0) (.tmp 6),type:=0,pos:= "status.go:95",after:=#[{ on:=0,ground:=.data },{ on:=0,ground:=.phase }],guard:=none },
   { dst:=none,op:=.store Fy (.tmp 1) (.const (.int .i64 5)),type:=0,pos:= "status.go:95",after:=#[{ on:=1,ground:=.chain },{ on:=0,ground:=.phase },{ on:=1,ground:=.phase }],guard:=none }] false) .skip))):=by rfl
theorem Aua{b b1:Nat}{w:World}{Post:World→Prop}(h:Post w):CallsD Tryz.prog Km #[(.pointer (some ⟨b,0,none⟩)),(.pointer (some ⟨b1,0,none⟩))] .returning w fun x u w'=>(∃v,x=.returned v)∧settle u=.returning∧Post w':=by
 refine callsD_of_wpS (fn:=Tryz.f88) Tryz.func88 Bbd fun c₀ cs hu=>?_;refine wpS_seq (wpS_region ?_);have e0:recoverD (c₀::cs)=none:=by simp[recoverD,hu]
 refine Au7 rfl rfl (by rfl) e0 ?_;refine Ny (v:=.nilIface) rfl rfl (by rfl) ?_;show (Code.seq (.region 1 _ false) _).wpS Tryz.prog _ (⟨#[.pointer (some ⟨b,0,none⟩),.pointer (some ⟨b1,0,none⟩),.nilIface,.nilIface,undef,undef,undef],[]⟩:Act) (c₀::cs) w;refine wpS_seq (wpS_region ?_);refine Ny (v:=.nilIface) rfl rfl (by rfl) ?_;refine Ny (v:=.bool false) rfl rfl (by
  show (do let v ←(do eqGuard .neq 20 (.tmp 4) (.const .nilIface) .nilIface .nilIface;binOp .neq 20 .nilIface .nilIface:Sem Value);pure (Next.value v):Sem Next).run _ _=_;rw[Cb (Azu w)];rfl) ?_
 refine wpS_cond (t:=false) (by rfl) ?_;obtain⟨v,hr,-⟩:=Vp (P:=Tryz.prog) (k:=TTk) (fn:=Tryz.f88) (a:=⟨#[.pointer (some ⟨b,0,none⟩),.pointer (some ⟨b1,0,none⟩),.nilIface,.nilIface,.nilIface,.bool false,undef],[]⟩) (w:=w) (F:=fun _=>True) trivial;refine wpS_of_wp (wp_skip ⟨rfl,.returning,?_,v,hr,⟨_,rfl⟩,rfl,h⟩);rw[←hu]
def Ayl(b b1:Nat):Act:=⟨#[.pointer (some ⟨b,0,none⟩),.pointer (some ⟨b1,0,none⟩),Qh,Qh,Qh,.bool true,.agg #[.int .i64 0,.slice none 0 0]],[]⟩
theorem Bcb{b b1:Nat}{w:World}(K:Value→World→Prop):As9 Tryz.prog ⟨TTk,none⟩ { dst:=none,op:=.store Ai (.tmp 0) (.tmp 6),type:=0,pos:= "status.go:95",after:=#[{ on:=0,ground:=.data },{ on:=0,ground:=.phase }],guard:=none } (Ce (Ayl b b1)) w K
 =Ad w ⟨b,0,none⟩ 0 [.int .i64 0,.slice none 0 0] fun w'=>K undef w':=by kernel_rfl
theorem Bb8{b b1:Nat}{w:World}(K:Value→World→Prop):As9 Tryz.prog ⟨TTk,none⟩ { dst:=none,op:=.store Fy (.tmp 1) (.const (.int .i64 5)),type:=0,pos:= "status.go:95",after:=#[{ on:=1,ground:=.chain },{ on:=0,ground:=.phase },{ on:=1,ground:=.phase }],guard:=none } (Ce (Ayl b b1)) w K
 =Ad w ⟨b1,0,none⟩ 0 [.int .i64 5] fun w'=>K undef w':=by kernel_rfl
theorem Aul{b b1:Nat}{w:World}{Post:World→Prop}(h:Ad w ⟨b,0,none⟩ 0 [.int .i64 0,.slice none 0 0] fun w1=>Bj w1 ⟨b1,0,none⟩ (.int .i64 5) Post):CallsD Tryz.prog Km #[(.pointer (some ⟨b,0,none⟩)),(.pointer (some ⟨b1,0,none⟩))] (.panicking [{ v:=Qh,recovered:=false }]) w fun x u w'=>(∃v,x=.returned v)∧settle u=.returning∧Post w':=by
 refine callsD_of_wpS (fn:=Tryz.f88) Tryz.func88 Bbd fun c₀ cs hu=>?_;refine wpS_seq (wpS_region ?_);have e0:recoverD (c₀::cs)=some (Qh,{ c₀ with mode:=.panicking [{ v:=Qh,recovered:=true }] }::cs):=by simp[recoverD,hu]
 refine At6 rfl rfl (by rfl) e0 ?_;refine Ny (v:=Qh) rfl rfl (by rfl) ?_;show (Code.seq (.region 1 _ false) _).wpS Tryz.prog _ (⟨#[.pointer (some ⟨b,0,none⟩),.pointer (some ⟨b1,0,none⟩),Qh,Qh,undef,undef,undef],[]⟩:Act) ({ c₀ with mode:=.panicking [{ v:=Qh,recovered:=true }] }::cs) w;refine wpS_seq (wpS_region ?_);refine Ny (v:=Qh) rfl rfl (by rfl) ?_;refine Ny (v:=.bool true) rfl rfl (by
  show (do let v ←(do eqGuard .neq 20 (.tmp 4) (.const .nilIface) (.iface Gw (.agg #[])) .nilIface;binOp .neq 20 (.iface Gw (.agg #[])) .nilIface:Sem Value);pure (Next.value v):Sem Next).run _ _=_;rw[Cb (Ay5 w)];rfl) ?_
 refine wpS_cond (t:=true) (by rfl) ?_;refine wpS_region ?_;refine Ny (v:=.agg #[.int .i64 0,.slice none 0 0]) rfl rfl (by kernel_rfl) ?_;show wpOpsS Tryz.prog _ _ [1,2] (Ayl b b1) _ w;refine Akw (k:=TTk) rfl rfl (Eq.mpr (Bcb _) ?_);obtain⟨w1,w2,k1,k2,hP⟩:∃w1 w2,(∀K:World→Prop,K w1→Ad w ⟨b,0,none⟩ 0 [.int .i64 0,.slice none 0 0] K)∧(∀K:World→Prop,K w2→Bj w1 ⟨b1,0,none⟩ (.int .i64 5) K)∧Post w2:=by
  simp only[Ad,Db]at h;obtain⟨h1,h2,h3,h4,h5,h6,h7,h8,h9⟩:=h;exact⟨_,_,fun K hK=>by simp only[Ad,Db];exact⟨h1,h2,h3,h4,h5,h6,hK⟩,fun K hK=>⟨h7,h8,hK⟩,h9⟩
 refine k1 _ ?_;show wpOpsS Tryz.prog _ _ [2] (Ayl b b1) _ w1;refine Akw (k:=TTk) rfl rfl (Eq.mpr (Bb8 _) ?_);obtain⟨q1,q2,q3⟩:=k2 (fun w3=>w3=w2) rfl;refine⟨q1,q2,?_⟩;have q3:w1.setCell ⟨b1,0,none⟩ (.int .i64 5)=w2:=q3;subst q3;obtain⟨v,hr,-⟩:=Vp (P:=Tryz.prog) (k:=TTk) (fn:=Tryz.f88) (a:=Ayl b b1) (w:=w1.setCell ⟨b1,0,none⟩ (.int .i64 5)) (F:=fun _=>True) trivial;exact⟨rfl,.panicking [{ v:=Qh,recovered:=true }],rfl,v,hr,⟨_,rfl⟩,rfl,hP⟩
end Go.Proofs.YtmbppohkadmjgaaGreat
namespace Go.Sx

end Go.Sx
namespace Go.Proofs.YtmbppohkadmjgaaGreat
open Go.Sx Go.RowKit
def Aw0:List PanicEntry:=[{ v:=Qh,recovered:=false }]
section
variable{b2:Nat}{a:Option Addr}{c:Nat}{rest:List Int}{w:World}{A:Nat->Prop}{P:World->Prop}
theorem Aar(hP:Held A w P)(hr:(rd b2 a c rest).ok w)(hn:∀b,(rd b2 a c rest).at=some b->¬A b)(hs:∀w,P w->SlR (Bp .u8) 1 w a rest)(hb:Bytes rest)(hc:rest.length<=c)(n:Nat)(hn7:n<=7):Calls Tryz.prog Dg #[(.pointer (some ⟨b2,0,none⟩)),(.int .i64 n)] w fun e w'=>(rest.length<n/\e=.panicked Aw0/\St A [b2] w w' [rd b2 a c rest] P)\/
  (n<=rest.length/\e=.returned (.int .i64 (Ts (rest.take n)))/\St A [b2] w w' [rd b2 (Ay c n 1 a) (c-n) (rest.drop n)] P):=by
 apply Xz;unfold Rm;have H:St A [b2] w w [rd b2 a c rest] P:=St.startM hP hr hn;refine⟨fun w1=>n<=rest.length/\St A [b2] w w1 [rd b2 a c rest] P,?_,?_⟩
 ·rintro _ w1 ⟨hnl,H1⟩;refine H1.m 0 ?_;refine⟨⟨by omega,by omega⟩,?_⟩;rw[bK];refine⟨fun x x1=>((n-x1).toNat,fun w2=>∃k:Nat,x1=k/\k<=n/\x=Ts (rest.take k)/\St A [b2] w w2 [rd b2 a c rest] P),⟨0,rfl,aX _,by simp[Ts],H1⟩,?_⟩;clear H1;rintro _ x x1 w2 ⟨k,rfl,hk,rfl,H2⟩;apply Aa<;>intro c1
  ·have hlt:k<rest.length:=by omega
   have hr:=Zm (l:=rest.take k) fun i hi=>by
    simp only[bX];exact hb _ _
   have hp:=Adq (n:=(rest.take k).length) (by simp;omega);have hx:=hb k hlt;have es:rest.take (k+1)=rest.take k++[rest[k]]:=by rw[cS,List.getElem?_eq_getElem hlt];rfl
   have hr2:=Zm (l:=rest.take (k+1)) fun i hi=>by
    simp only[bX];exact hb _ _
   have hp2:=Adq (n:=(rest.take (k+1)).length) (by simp;omega);rw[es,Yd]at hr2;rw[<-es]at hr2;have hsn:SlR (Bp .u8) 1 w2 (Ay c 0 1 a) (rest.take n):=(hs _ H2.get).pre c n;have eln:n-0=(rest.take n).length:=by simp;omega
   rw[eln];refine ixE hsn k rfl (by simp;omega) fun b x hxk hb1=>?_;obtain rfl:rest[k]=x:=by
    rw[List.getElem?_take,aF (by omega),List.getElem?_eq_getElem hlt]at hxk;injection hxk
   refine⟨_,hb1,?_⟩;refine Ao (by omega) ?_;refine Ao (by omega) ?_;refine Nu fun x5 hx5=>?_;rw[Adm 8 (Ts (rest.take k)) (by omega) (by omega) (by omega) (by omega)]at hx5;refine Ao (by omega) ?_;exact⟨⟨k+1,by omega,by omega,by rw[es,Yd,hx5];omega,H2⟩,by dsimp only;omega⟩
  ·obtain rfl:k=n:=by omega
   refine H2.m 0 ?_;refine⟨⟨by omega,by omega⟩,?_⟩;refine H2.U 0 ?_;clear H2;intro w3 H3;have el:rest.length-k=(rest.drop k).length:=by simp
   rw[el]at H3;exact .inr ⟨hnl,rfl,H3⟩
 ·refine H.m 0 ?_;apply Aa<;>intro cc
  ·exact .inl ⟨by omega,rfl,H⟩
  ·exact⟨by omega,H⟩
end
section
variable{A0:Nat->Prop}{M:List Nat}{w0 w:World}{R:List Res}{P:World->Prop}{i b2:Nat}{a:Option Addr}{c:Nat}{rest:List Int}
theorem Aui(H:St A0 M w0 w R P)(hi:R[i]?=some (rd b2 a c rest))(hs:∀w,P w->SlR (Bp .u8) 1 w a rest)(hb:Bytes rest)(hc:rest.length<=c)(n:Nat)(hn7:n<=7){K:Int->World->Prop}{Pn:List PanicEntry->World->Prop}
 (hp:rest.length<n->∀w',St A0 M w0 w' R P->Pn Aw0 w')
 (h:n<=rest.length->∀w',St A0 M w0 w' (R.set i (rd b2 (Ay c n 1 a) (c-n) (rest.drop n))) P->K (Ts (rest.take n)) w'):
 Calls Tryz.prog Dg #[(.pointer (some ⟨b2,0,none⟩)),(.int .i64 n)] w fun e w'=>(∃r:Int,e=.returned (.int .i64 r)/\K r w')\/∃ch:List PanicEntry,e=.panicked ch/\Pn ch w':=by
 obtain⟨A,hA,hn',hr,hcc⟩:=H.callM hi;refine(Aar hA hr hn' hs hb hc n hn7).mono ?_;rintro _ w2 (⟨h1,rfl,S⟩|⟨h1,rfl,S⟩)
 ·have:=hcc S;rw[aL,Ds hi]at this;exact .inr ⟨_,rfl,hp h1 w2 (this.imp fun _ h=>h.2)⟩
 ·have:=hcc S;rw[aL]at this;exact .inl ⟨_,rfl,h h1 w2 (this.imp fun _ h=>h.2)⟩
end
section
variable{bits:Int}{b_a:Option Addr}{bs:List Int}{b_c:Nat}{w:World}
theorem Ayb{w':World}{R:List Res}{P:World->Prop}{A0:Nat->Prop}{b b1:Nat}{u e:Int}{ma:Option Addr}{ml mc:Nat}(H:St A0 [] w w' R P)(h0:R[0]?=some (.blk b Ai [.int .i64 u,.slice ma ml mc]))(h1:R[1]?=some (.blk b1 Fy [.int .i64 e])):Cv b b1 (fun v w'=>RetS w .zero 5 (.returned v) w') (.panicking Aw0) w':=by
 refine⟨by kernel_rfl,Aul ?_⟩;refine H.store h0 (by rfl) (by rfl) fun w1 H1=>?_;have h1':(R.set 0 (.blk b Ai [.int .i64 0,.slice none 0 0]))[1]?=some (.blk b1 Fy [.int .i64 e]):=by rw[List.getElem?_set_ne (by omega)];exact h1
 refine H1.set h1' (by simp) fun w2 H2=>?_;have l0:0<R.length:=(List.getElem?_eq_some_iff.1 h0).1;have l1:1<R.length:=(List.getElem?_eq_some_iff.1 h1).1;refine⟨_,_,_,_,H2.cells (i:=0) (b:=b) (t:=Ai) (by rw[List.getElem?_set_ne (by omega),List.getElem?_set_self l0]),?_⟩;refine H2.ld (i:=1) (by rw[List.getElem?_set_self (by simpa using l1)]) rfl ?_;exact RetS.zero H2.fin.below _
theorem Aq0{w':World}{R:List Res}{P:World->Prop}{A0:Nat->Prop}{b b1:Nat}{e:Int}{s:Stt}{ma:Option Addr}{mc:Nat}(H:St A0 [] w w' R P)(h0:R[0]?=some (.blk b Ai [.int .i64 s.upto,.slice ma s.miss.length mc]))(h1:R[1]?=some (.blk b1 Fy [.int .i64 e]))
 (hf:s.miss.length<=mc/\Ti w w' fun w=>SlR (CE Bn) 3 w ma s.miss):Cv b b1 (fun v w'=>RetS w s e (.returned v) w') .returning w':=by
 refine⟨by kernel_rfl,Aua ?_⟩;refine⟨_,_,_,_,H.cells h0,?_⟩;refine H.ld h1 rfl ?_;exact⟨_,_,hf.1,rfl,hf.2⟩
theorem Ajh(hs:SlR (Bp .u8) 1 w b_a bs)(hb:Bytes bs)(hc:bs.length<=b_c)(hl:bs.length<=140737488355328):Calls Tryz.prog Sf #[(.int .i64 bits),(.slice b_a bs.length b_c)] w (RetS w (Mv bits bs).1 (Mv bits bs).2):=by
 apply Ags;unfold Aab;have H:=(St.startA w).hold (Tv hs);refine H.alloc ?_;clear H;intro b w1 H1;refine H1.alloc ?_;clear H1;intro b1 w2 H2;refine counter_Bits_ct.mono ?_;rintro _ w3 ⟨rfl,hb3⟩;have H3:=H2.pass hb3;clear H2;refine⟨_,rfl,?_⟩;apply An<;>intro c
 ·have e0:Mv bits bs=(.zero,3):=aF c;rw[e0];refine H3.s 0 ?_;clear H3;intro w4 H4;refine H4.U 1 ?_;clear H4;intro w5 H5;refine⟨_,_,_,_,H5.cells (i:=0) rfl,?_⟩;refine H5.l 1 ?_;exact RetS.zero H5.fin.below _
 ·have e0:Mv bits bs=match rdS bs with|none=>(.zero,5)|some s=>if okS bits s/\Ld s=bs then (s,0) else (.zero,4):=aE (not_not_intro c)
  have none_:∀ {w':World} {R:List Res} {P:World->Prop} {A0:Nat->Prop} {u e:Int} {ma:Option Addr} {ml mc:Nat},rdS bs=none->St A0 [] w w' R P->R[0]?=some (.blk b Ai [.int .i64 u,.slice ma ml mc])->R[1]?=some (.blk b1 Fy [.int .i64 e])->
   Cv b b1 (fun v w'=>RetS w (Mv bits bs).1 (Mv bits bs).2 (.returned v) w') (.panicking Aw0) w':=fun h H h0 h1=>by
   rw[e0,h];exact Ayb H h0 h1
  refine H3.alloc ?_;clear H3;intro b2 w6 H6;refine Aui H6 (i:=2) (c:=b_c) rfl (fun _ h=>h.1) hb hc 2 (by omega) (fun h w' H'=>none_ (by
   rcases bs with _|⟨x,_|⟨y,r⟩⟩
   ·rfl
   ·rfl
   ·(simp only[aQ]at h;omega)) H' rfl rfl) fun h w7 H7=>?_
  obtain⟨x,y,r1,rfl⟩:=Anj (show ¬bs.length<2 by omega);obtain⟨hx,hy,hb1⟩:=Ab8 hb;simp only[dG,dX,dH,dQ,Axa]at H7 ⊢;clear H6;have s1:SlR (Bp .u8) 1 w (Ay b_c 2 1 b_a) r1:=by have:=hs.tail (l:=2) hc;simpa using this
  have c1:r1.length<=b_c-2:=by simp only[aQ]at hc;omega
  have H7:=H7.hold (Tv s1);refine H7.U 0 ?_;clear H7;intro w8 H8;refine Aui H8 (i:=2) (c:=b_c-2) rfl (fun _ h=>h.1) hb1 c1 1 (by omega) (fun h w' H'=>none_ (by
   cases r1 with
   |nil=>rfl
   |cons n r=>simp at h) H' rfl rfl) fun h w9 H9=>?_
  obtain⟨n,r2,rfl⟩:=Bct (show ¬r1.length<1 by omega);obtain⟨hn,hb2⟩:=Azg hb1;simp only[dG,dX,dH,dQ,Bc2]at H9 ⊢;clear H8;have s2:SlR (Bp .u8) 1 w (Ay (b_c-2) 1 1 (Ay b_c 2 1 b_a)) r2:=by have:=s1.tail (l:=1) c1;simpa using this
  have c2:r2.length<=b_c-2-1:=by simp only[aQ]at c1;omega
  obtain⟨m,rfl⟩:=Xj hn.1;have H9:=H9.nilE Bn Af 3;have hrd:rdS (x::y::(m:Int)::r2)=(rdR m r2).map (⟨256*x+y,·⟩):=by simp[rdS]
  refine⟨fun n=>(n.toNat,fun w10=>∃(k:Nat) (a:Option Addr) (c:Nat) (rest:List Int) (L:List Rg) (ma:Option Addr) (mc:Nat),n=k/\k<=255/\SlR (Bp .u8) 1 w a rest/\rest.length<=c/\Bytes rest/\L.length+k<=255/\(rdR m r2).map (⟨256*x+y,·⟩)=(rdR k rest).map (fun L'=>(⟨256*x+y,L++L'⟩:Stt))/\
   St (All w) [] w w10 [.blk b Ai [.int .i64 (256*x+y),.slice ma L.length mc],.blk b1 Fy [.int .i64 0],rd b2 a c rest,.els Bn Af 3 ma mc L] fun w=>SlR (Bp .u8) 1 w b_a (x::y::(m:Int)::r2)),
   ⟨m,_,_,r2,[],none,0,rfl,by omega,s2,c2,hb2,by simp;omega,by simp,H9.imp fun _ h=>h.2.1⟩,?_⟩
  clear H9;rintro _ n w10 ⟨k,a,c,rest,L,ma,mc,rfl,hk,hsr,hcr,hbr,hLk,hrd2,H10⟩;rw[hrd2]at hrd;have H10':=H10.hold (Tv hsr);apply Aa<;>intro cc
  ·obtain⟨k,rfl⟩:∃j,k=j+1:=⟨k-1,by omega⟩;refine Aui H10' (i:=2) rfl (fun _ h=>h.1) hbr hcr 2 (by omega) (fun h w' H'=>none_ (by
    rw[hrd];rcases rest with _|⟨x,_|⟨y,r⟩⟩
    ·rfl
    ·rfl
    ·(simp only[aQ]at h;omega)) H' rfl rfl) fun h w11 H11=>?_
   clear H10 H10';obtain⟨p,q,r3,rfl⟩:=Anj (show ¬rest.length<2 by omega);obtain⟨hp,hq,hb3⟩:=Ab8 hbr;simp only[dG,dX,dH,dQ,Axa]at H11 ⊢;have s3:SlR (Bp .u8) 1 w (Ay c 2 1 a) r3:=by have:=hsr.tail (l:=2) hcr;simpa using this
   have c3:r3.length<=c-2:=by simp only[aQ]at hcr;omega
   obtain⟨v,hv⟩:∃v,v=256*p+q:=⟨_,rfl⟩;have hvr:0<=v/\v<65536:=by omega
   have hstep:rdR (k+1) (p::q::r3)=if v%16=1 then rdX k v r3 else (rdR k r3).map (⟨v/16,0,0⟩:: ·):=by rw[hv,Atw]
   rw[<-hv];refine Ui ?_;have e16:v/2^4=v/16:=rfl;rw[e16];refine H11.alloc ?_;clear H11;intro b3 w12 H12;refine H12.s 4 ?_;clear H12;intro w13 H13;refine Nu fun x1 hx1=>?_;have hx1:x1=v%16:=by rw[hx1];exact Rl 4 (by omega) (by omega) (by decide)
   apply Aa<;>intro c5
   ·rw[aF (by omega)]at hstep;have H13':=H13.hold (Tv s3);refine Aui H13' (i:=2) rfl (fun _ h=>h.1) hb3 c3 2 (by omega) (fun h w' H'=>none_ (by
     rw[hrd,hstep];rcases r3 with _|⟨e,_|⟨f,r⟩⟩
     ·rfl
     ·rfl
     ·(simp only[aQ]at h;omega)) H' rfl rfl) fun h w14 H14=>?_
    clear H13 H13';obtain⟨e,f,r4,rfl⟩:=Anj (show ¬r3.length<2 by omega);obtain⟨he,hf,hb4⟩:=Ab8 hb3;simp only[dG,dX,dH,dQ,Axa]at H14 ⊢;have s4:SlR (Bp .u8) 1 w (Ay (c-2) 2 1 (Ay c 2 1 a)) r4:=by have:=s3.tail (l:=2) c3;simpa using this
    have c4:r4.length<=c-2-2:=by simp only[aQ]at c3;omega
    have H14':=H14.hold (Tv s4);refine Aui H14' (i:=2) rfl (fun _ h=>h.1) hb4 c4 2 (by omega) (fun h w' H'=>none_ (by
     rw[hrd,hstep];rcases r4 with _|⟨g,_|⟨h',r⟩⟩
     ·rfl
     ·rfl
     ·(simp only[aQ]at h;omega)) H' rfl rfl) fun h w15 H15=>?_
    clear H14 H14';obtain⟨g,i,r5,rfl⟩:=Anj (show ¬r4.length<2 by omega);obtain⟨hg,hi,hb5⟩:=Ab8 hb4;simp only[dG,dX,dH,dQ,Axa]at H15 ⊢;have s5:SlR (Bp .u8) 1 w (Ay (c-2-2) 2 1 (Ay (c-2) 2 1 (Ay c 2 1 a))) r5:=by have:=s4.tail (l:=2) c4;simpa using this
    have c5:r5.length<=c-2-2-2:=by simp only[aQ]at c4;omega
    refine H15.U 4 ?_;clear H15;intro w16 H16;refine H16.U 4 ?_;clear H16;intro w17 H17;refine H17.m 0 ?_;refine⟨_,_,_,H17.cells (i:=4) rfl,?_⟩;refine H17.alloc ?_;clear H17;intro b4 w18 H18;refine H18.appEB Br (i:=3) (j:=5) rfl [⟨v/16,256*e+f,256*g+i⟩] rfl Bo rfl (by simp;omega) (by simp;omega) ?_;intro x_a1 x_c1 w19 H19;refine H19.U 0 ?_;clear H19;intro w20 H20;refine Ao (by omega) ?_;refine⟨⟨k,_,_,r5,L++[⟨v/16,256*e+f,256*g+i⟩],x_a1,x_c1,by omega,by omega,s5,c5,hb5,by simp;omega,?_,(H20.sub (fun i=>i) ?_ (fun _ _ _ _ h=>h)).imp fun _ h=>by simp_all⟩,by omega⟩
    ·rw[hrd2,hstep];simp[rdX,Function.comp_def]
    ·rintro(_|_|_|_|_) r h<;>first|exact h|cases h
   ·rw[aE (by omega)]at hstep;refine H13.m 0 ?_;refine⟨_,_,_,H13.cells (i:=4) rfl,?_⟩;refine H13.alloc ?_;clear H13;intro b5 w21 H21;refine H21.appEB Br (i:=3) (j:=5) rfl [⟨v/16,0,0⟩] rfl Bo rfl (by simp;omega) (by simp;omega) ?_;intro x_a3 x_c3 w22 H22;refine H22.U 0 ?_;clear H22;intro w23 H23;refine Ao (by omega) ?_;refine⟨⟨k,_,_,r3,L++[⟨v/16,0,0⟩],x_a3,x_c3,by omega,by omega,s3,c3,hb3,by simp;omega,?_,(H23.sub (fun i=>i) ?_ (fun _ _ _ _ h=>h)).imp fun _ h=>by simp_all⟩,by omega⟩
    ·rw[hrd2,hstep];simp[Function.comp_def]
    ·rintro(_|_|_|_|_) r h<;>first|exact h|cases h
  ·obtain rfl:k=0:=by omega
   have hrd3:rdS (x::y::(m:Int)::r2)=some ⟨256*x+y,L⟩:=by rw[hrd];simp[rdR]
   rw[hrd3]at e0;simp only at e0;obtain⟨zs,hzs⟩:∃zs,zs=x::y::(m:Int)::r2:=⟨_,rfl⟩;rw[<-hzs]at e0 hb hl hc H10;refine⟨_,_,_,_,H10.cells (i:=0) rfl,?_⟩;have hse:=H10.slE Br (i:=3) rfl;have hmc:=H10.capE (i:=3) rfl;refine(Xp hse (by omega)).mono ?_;have bad:∀ {w':World} {R:List Res} {P:World->Prop} {A0:Nat->Prop} {u e:Int} {ma:Option Addr} {ml mc:Nat},¬(okS bits ⟨256*x+y,L⟩/\Ld ⟨256*x+y,L⟩=zs)->St A0 [] w w' (.blk b Ai [.int .i64 u,.slice ma ml mc]::.blk b1 Fy [.int .i64 e]::R) P->
    Ad w' ⟨b,0,none⟩ 0 [(.int .i64 (0:Int)),(.slice none 0 0)] fun w25=>Bj w25 ⟨b1,0,none⟩ (.int .i64 (4:Int)) fun w26=>Cv b b1 (fun v w'=>RetS w (Mv bits zs).1 (Mv bits zs).2 (.returned v) w') .returning w26:=fun h H=>by
    rw[e0,aE h];refine H.store (i:=0) rfl (by rfl) (by rfl) fun w25 H25=>?_;refine H25.set (i:=1) rfl (by simp) fun w26 H26=>?_;exact Aq0 (s:=.zero) H26 rfl rfl ⟨aX _,((St.nil w).pass H26.fin.below).imp fun _ _=>.inl rfl⟩
   rw[<-hzs];by_cases hok:okS bits ⟨256*x+y,L⟩
   ·have ee:encS bits ⟨256*x+y,L⟩=(Ld ⟨256*x+y,L⟩,0):=aF hok;rw[ee];rintro _ w24 ⟨ra,rc,hrc,rfl,K⟩;have H24:=H10.callF K;clear K H10 H10';refine .inl ⟨_,_,_,_,rfl,?_⟩;refine An (fun c4=>absurd rfl c4) (fun _=>?_);refine(Aoj H24.get.1 H24.get.2 (Ata _) hb).mono ?_;rintro _ w29 ⟨rfl,hb29⟩;have H29:=H24.pass hb29;clear H24;refine .inl ⟨_,rfl,?_⟩;apply An<;>intro c3
    ·exact bad (fun h=>c3 h.2) H29
    ·rw[e0,aF ⟨hok,c3⟩];refine⟨_,_,_,_,H29.cells (i:=0) rfl,?_⟩;refine H29.store (i:=0) rfl (by rfl) (by rfl) fun w32 H32=>?_;refine H32.set (i:=1) rfl (by simp) fun w33 H33=>?_;exact Aq0 (s:=⟨256*x+y,L⟩) H33 rfl rfl ⟨hmc,(H33.freshRow (i:=3) rfl).imp fun _ h=>Sb Br h⟩
   ·have ee:encS bits ⟨256*x+y,L⟩=([],1):=aE hok;rw[ee];rintro _ w24 ⟨ra,rc,hrc,rfl,K⟩;have H24:=H10.callF K;clear K H10 H10';refine .inl ⟨_,_,_,_,rfl,?_⟩;refine An (fun _=>?_) (fun c4=>by cases c4);exact bad (fun h=>hok h.1) H24
end
section
variable{bits u sp:Int}{l_a:Option Addr}{l:List Rg}{l_c:Nat}{w:World}
theorem Aqv(hs:SlR (CE Bn) 3 w l_a l)(hl:l.length<=140737488355328):Calls Tryz.prog Zv #[(.int .i64 bits),(.agg #[.int .i64 u,.slice l_a l.length l_c]),(.int .i64 sp)] w (RetS w (fitR bits ⟨u,l⟩ sp).1 (fitR bits ⟨u,l⟩ sp).2):=by
 apply Amb;have H:=St.nil w;refine H.alloc ?_;clear H;intro b w1 H1;refine H1.alloc ?_;clear H1;intro b1 w2 H2;refine⟨_,_,_,_,H2.cells (i:=0) rfl,?_⟩;refine(Sc (hs.belowE H2.below) hl).mono ?_;rintro _ w3 ⟨rfl,hb3⟩;have H3:=H2.pass hb3;clear H2;refine⟨_,rfl,?_⟩;apply An<;>intro c5
 ·have e0:fitR bits ⟨u,l⟩ sp=(.zero,1):=aF c5;rw[e0];refine H3.s 1 ?_;clear H3;intro w4 H4;refine⟨_,_,_,_,H4.cells (i:=1) rfl,?_⟩;exact RetS.zero H4.fin.below _
 have hll:l.length<=64:=c5.2.2.1;refine Aw ?_;apply Aa<;>intro c4
 ·have e0:fitR bits ⟨u,l⟩ sp=(.zero,15):=by unfold fitR;rw[aE (not_not_intro c5),aF c4]
  rw[e0];refine H3.s 1 ?_;clear H3;intro w5 H5;refine⟨_,_,_,_,H5.cells (i:=1) rfl,?_⟩;exact RetS.zero H5.fin.below _
 have e0:fitR bits ⟨u,l⟩ sp=(Aco sp u l 0 3 0 none l,0):=by unfold fitR;rw[aE (not_not_intro c5),aE c4]
 rw[e0];refine H3.m 0 ?_;refine(Sq (hs.belowE H3.below) (by omega)).mono ?_;rintro _ w6 ⟨ra,rc,rfl,K⟩;have H6:=H3.callR K;clear H3 K;refine⟨_,_,_,rfl,?_⟩;have hrc:=H6.capE (i:=2) rfl;refine H6.U 0 ?_;clear H6;intro w7 H7;refine H7.m 0 ?_;refine⟨fun used unit x1=>((l.length-x1).toNat,fun w8=>∃(k un:Nat),x1=k/\k<=l.length/\unit=un/\un<=k/\(3<=used/\used<=3+6*k)/\Aco sp u l 0 3 0 none l=Aco sp u l k used un (Cy l k) (l.drop k)/\
  Cg w w8 [.blk b Ai [(.int .i64 u),(.slice ra l.length rc)],.blk b1 Ai [(.int .i64 (0:Int)),(.slice none 0 0)],.els Bn Af 3 ra rc l]),⟨0,0,rfl,by omega,rfl,by omega,by omega,rfl,H7⟩,?_⟩
 clear H7;rintro _ used unit x1 w8 ⟨k,un,rfl,hk,rfl,hun,hus,hI,H8⟩;apply Aa<;>intro c3
 ·have hlt:k<l.length:=by omega
  rw[Ano _ _ _ _ _ _ hlt]at hI;have hz:=Amv l[k];refine ixE (H8.slE Br (i:=2) rfl) k rfl hlt fun b2 r hr hb2=>?_;obtain rfl:l[k]=r:=by rw[List.getElem?_eq_getElem hlt]at hr;injection hr
  refine⟨_,_,_,hb2,?_⟩;refine H8.alloc ?_;clear H8;intro b3 w9 H9;refine H9.s 3 ?_;clear H9;intro w10 H10;refine⟨fun unit1 w12=>unit1=(Kd k (Cy l k) un l[k]:Nat)/\Cg w w12 [.blk b Ai [(.int .i64 u),(.slice ra l.length rc)],.blk b1 Ai [(.int .i64 (0:Int)),(.slice none 0 0)],.els Bn Af 3 ra rc l,.blk b3 Af (Bn l[k])],?_,?_⟩
  ·rintro _ unit1 w12 ⟨rfl,H12⟩;obtain⟨un2,hun2⟩:∃un2,un2=Kd k (Cy l k) un l[k]:=⟨_,rfl⟩;have hun2k:un2<=k:=by
    rw[hun2];unfold Kd;split
    ·exact hun
    ·split<;>omega
   rw[<-hun2]at hI ⊢;refine⟨_,_,_,H12.cells (i:=3) rfl,?_⟩;refine status_size_ct.mono ?_;rintro _ w13 ⟨rfl,hb13⟩;have H13:=H12.pass hb13;clear H12;refine⟨_,rfl,?_⟩;refine Ao (by omega) ?_;apply Aa<;>intro c2
   ·rw[aF c2]at hI;rw[hI];refine H13.drew ?_;clear H13;intro w14 H14;refine⟨fun x=>x<w14.heap.size/\x∉[b],?_⟩;have f14:=Fr.refl [b] w14;refine H14.l 3 ?_;refine H14.m 0 ?_;refine⟨⟨by omega,by omega⟩,?_⟩;refine H14.setF (i:=0) rfl (by simp) ?_;intro w15 g15 H15;have f15:=f14.tr g15 (by simp);refine⟨f15.keeps,?_⟩;refine H15.U 0 ?_;intro w16 H16;refine⟨_,_,_,_,H16.cells (i:=0) rfl,?_⟩;refine H16.s 1 ?_;clear H16;intro w17 H17;refine⟨_,_,_,_,H17.cells (i:=1) rfl,?_⟩;have el:(un2:Int).toNat-0=(l.take un2).length:=by simp;omega
    rw[el];refine⟨_,_,?_,rfl,(H17.freshRow (i:=2) rfl).imp fun _ h=>(Sb Br h).preE _ _⟩;simp;omega
   ·rw[aE c2]at hI;refine Ao (by omega) ?_;exact⟨⟨k+1,un2,by omega,by omega,rfl,by omega,by omega,hI,H13.sub (fun i=>i) (by rintro(_|_|_|_) r h<;>first|exact h|cases h) (fun _ _ _ _ h=>h)⟩,by dsimp only;omega⟩
  ·refine H10.drew ?_;clear H10;intro w11 H11;apply Aa<;>intro c1
   ·obtain⟨j,rfl⟩:∃j,k=j+1:=⟨k-1,by omega⟩;have hj:j<l.length:=by omega
    have hu:Kd (j+1) (Cy l (j+1)) un l[j+1]=if l[j+1].sn≠l[j].sn then j+1 else un:=by simp only[Kd,Cy,List.getElem?_eq_getElem hj]
    refine H11.l 3 ?_;refine H11.m 0 ?_;refine Ao (by omega) ?_;refine ixE (H11.slE Br (i:=2) rfl) j (by omega) hj fun b4 q hq hb4=>?_;obtain rfl:l[j]=q:=by rw[List.getElem?_eq_getElem hj]at hq;injection hq
    refine Kh hb4 0 rfl ?_;apply An<;>intro c
    ·exact⟨by rw[hu,aF c],H11⟩
    ·exact⟨by rw[hu,aE (not_not_intro c)],H11⟩
   ·obtain rfl:k=0:=by omega
    exact⟨rfl,H11⟩
 ·obtain rfl:k=l.length:=by omega
  have e1:Aco sp u l 0 3 0 none l=⟨u,l⟩:=by rw[hI,bU];rfl
  rw[e1];refine⟨_,_,_,_,H8.cells (i:=0) rfl,?_⟩;refine H8.s 1 ?_;clear H8;intro w18 H18;refine⟨_,_,_,_,H18.cells (i:=1) rfl,?_⟩;exact⟨_,_,hrc,rfl,(H18.freshRow (i:=2) rfl).imp fun _ h=>Sb Br h⟩
theorem Ash(hs:SlR (CE Bn) 3 w l_a l)(hl:l.length<=140737488355328)(hlc:l.length<=l_c):Calls Tryz.prog Acl #[(.int .i64 bits),(.agg #[.int .i64 u,.slice l_a l.length l_c]),(.int .i64 sp)] w (RetS w (fitR bits ⟨u,l⟩ sp).1 (fitR bits ⟨u,l⟩ sp).2):=by
 apply Aor;have H:=St.nil w;refine H.alloc ?_;clear H;intro b w1 H1;refine H1.alloc ?_;clear H1;intro b1 w2 H2;refine⟨_,_,_,_,H2.cells (i:=0) rfl,?_⟩;refine(Uh (hs.belowE H2.below) hl).mono ?_;rintro _ w3 ⟨rfl,hb3⟩;have H3:=H2.pass hb3;clear H2;refine⟨_,rfl,?_⟩;apply An<;>intro c5
 ·have e0:fitR bits ⟨u,l⟩ sp=(.zero,1):=aF c5;rw[e0];refine H3.s 1 ?_;clear H3;intro w4 H4;refine⟨_,_,_,_,H4.cells (i:=1) rfl,?_⟩;exact RetS.zero H4.fin.below _
 have hll:l.length<=64:=c5.2.2.1;apply Aa<;>intro c4
 ·have e0:fitR bits ⟨u,l⟩ sp=(.zero,15):=by unfold fitR;rw[aE (not_not_intro c5),aF c4]
  rw[e0];refine H3.s 1 ?_;clear H3;intro w5 H5;refine⟨_,_,_,_,H5.cells (i:=1) rfl,?_⟩;exact RetS.zero H5.fin.below _
 have e0:fitR bits ⟨u,l⟩ sp=(Aco sp u l 0 3 0 none l,0):=by unfold fitR;rw[aE (not_not_intro c5),aE c4]
 rw[e0];obtain⟨X,hX⟩:∃X,X=Aco sp u l 0 3 0 none l:=⟨_,rfl⟩;rw[<-hX];refine H3.l 0 ?_;refine H3.alloc ?_;clear H3;intro b2 w6 H6;refine H6.s 2 ?_;clear H6;intro w7 H7;have H7:=H7.nilE Bn Af 3;refine⟨fun n i=>((l.length-i).toNat,fun w8=>∃(j un:Nat) (ma:Option Addr) (mc:Nat),i=j/\j<=l.length/\(3<=n/\n<=3+6*j)/\Afp l j un/\n<=sp/\X=Aco sp u l j n un (Cy l j) (l.drop j)/\
  Cg w w8 [.blk b Ai [(.int .i64 u),(.slice l_a l.length l_c)],.blk b1 Ai [(.int .i64 (0:Int)),(.slice none 0 0)],.blk b2 Ai [(.int .i64 u),(.slice ma (l.take j).length mc)],.els Bn Af 3 ma mc (l.take j)]),⟨0,0,none,0,rfl,by omega,by omega,rfl,by omega,hX,H7⟩,?_⟩
 clear H7;rintro _ n i w8 ⟨j,un,ma,mc,rfl,hj,hn,hst,hnsp,hI,H8⟩;refine H8.m 0 ?_;apply Aa<;>intro c3
 ·have hlt:j<l.length:=by omega
  refine⟨fun k1 more1 w12=>∃k:Nat,k1=k/\j<k/\k<=l.length/\(0<=more1/\more1<=6*(k-j))/\InU sp u l j hlt n un X k more1/\Afp l k j/\
   Cg w w12 [.blk b Ai [(.int .i64 u),(.slice l_a l.length l_c)],.blk b1 Ai [(.int .i64 (0:Int)),(.slice none 0 0)],.blk b2 Ai [(.int .i64 u),(.slice ma (l.take j).length mc)],.els Bn Af 3 ma mc (l.take j)],?_,?_⟩
  ·rintro _ k1 more1 w12 ⟨k,rfl,hjk,hk,hmore,hin,hst2,H12⟩;refine Ao (by omega) ?_;apply Aa<;>intro c2
   ·have hX2:X=⟨l[j].sn,l.take j⟩:=by
     rcases hin with h|h
     ·omega
     ·exact h.2
    have hmc:=H12.capE (i:=3) rfl;refine H12.m 0 ?_;refine ixE (hs.belowE H12.below) j rfl hlt fun b6 q hq hb6=>?_;obtain rfl:l[j]=q:=by rw[List.getElem?_eq_getElem hlt]at hq;injection hq
    refine Kh hb6 0 rfl ?_;refine H12.U 2 ?_;clear H12;intro w13 H13;refine⟨_,_,_,_,H13.cells (i:=2) rfl,?_⟩;refine H13.s 1 ?_;clear H13;intro w14 H14;refine⟨_,_,_,_,H14.cells (i:=1) rfl,?_⟩;rw[hX2];exact⟨_,_,hmc,rfl,(H14.freshRow (i:=3) rfl).imp fun _ h=>Sb Br h⟩
   ·have hX2:X=Aco sp u l k (n+more1) j (Cy l k) (l.drop k):=by
     rcases hin with h|h
     ·have:=h.2;rwa[aE (by omega)]at this
     ·omega
    refine H12.drew ?_;clear H12;intro w15 H15;refine⟨fun _=>False,?_⟩;refine H15.m 2 ?_;refine H15.m 0 ?_;refine⟨⟨by omega,by omega⟩,?_⟩;refine⟨⟨by omega,by omega⟩,?_⟩;have hsl:=(hs.belowE H15.below).cutE (m:=l_c) (l:=j) hlc (k-j);have el:(k:Int).toNat-(j:Int).toNat=((l.drop j).take (k-j)).length:=by simp;omega
    have ej:(j:Int).toNat=j:=bK j;have et:l.take j++(l.drop j).take (k-j)=l.take k:=by
     have e1:l.take k=l.take (j+(k-j)):=by rw[show j+(k-j)=k by omega]
     rw[e1,List.take_add]
    rw[el,ej];refine H15.appE Br (i:=3) rfl Bo hsl (by simp;omega) (by simp;omega) ?_;intro x_a8 x_c8 w16 H16;rw[et]at H16 ⊢;refine⟨fun p _ hp _=>hp.elim,?_⟩;refine H16.U 2 ?_;intro w17 H17;refine Ao (by omega) ?_;exact⟨⟨k,j,x_a8,x_c8,rfl,hk,by omega,hst2,by omega,hX2,H17⟩,by dsimp only;omega⟩
  ·refine⟨fun k more=>((l.length-k).toNat,fun w9=>∃m:Nat,k=m/\j<=m/\m<=l.length/\(0<=more/\more<=6*(m-j))/\InU sp u l j hlt n un X m more/\(∀i (h:i<l.length),j<=i->i<m->l[i].sn=l[j].sn)/\
    Cg w w9 [.blk b Ai [(.int .i64 u),(.slice l_a l.length l_c)],.blk b1 Ai [(.int .i64 (0:Int)),(.slice none 0 0)],.blk b2 Ai [(.int .i64 u),(.slice ma (l.take j).length mc)],.els Bn Af 3 ma mc (l.take j)]),
    ⟨j,rfl,by omega,by omega,by omega,.inl ⟨by omega,by rw[aF rfl,Int.add_zero];exact hI⟩,fun i _ _ _=>by omega,H8⟩,?_⟩
   clear H8;rintro _ k more w9 ⟨m,rfl,hjm,hm,hmore,hin,hsame,H9⟩;refine H9.drew ?_;clear H9;intro w10 H10;refine H10.m 0 ?_;apply Aa<;>intro c1
   ·have hml:m<l.length:=by omega
    refine H10.m 0 ?_;refine ixE (hs.belowE H10.below) m rfl hml fun b3 q hq hb3=>?_;obtain rfl:l[m]=q:=by rw[List.getElem?_eq_getElem hml]at hq;injection hq
    refine Kh hb3 0 rfl ?_;refine H10.m 0 ?_;refine ixE (hs.belowE H10.below) j rfl hlt fun b4 q hq hb4=>?_;obtain rfl:l[j]=q:=by rw[List.getElem?_eq_getElem hlt]at hq;injection hq
    refine Kh hb4 0 rfl ?_;apply Aa<;>intro c
    ·have hz:=Amv l[m];refine H10.m 0 ?_;refine ixE (hs.belowE H10.below) m rfl hml fun b5 q hq hb5=>?_;obtain rfl:l[m]=q:=by rw[List.getElem?_eq_getElem hml]at hq;injection hq
     refine⟨_,_,_,hb5,?_⟩;refine ref19_size_ct.mono ?_;rintro _ w11 ⟨rfl,hb11⟩;have H11:=H10.pass hb11;clear H10;refine⟨_,rfl,?_⟩;refine Ao (by omega) ?_;refine Ao (by omega) ?_;refine⟨⟨m+1,by omega,by omega,by omega,by omega,hin.step hst hjm hml c hsame,fun i h h1 h2=>?_,H11⟩,by dsimp only;omega⟩;rcases (show i<m\/i=m by omega)with h3|rfl
     ·exact hsame i h h1 h3
     ·exact c
    ·have hmj:j<m:=by
      rcases (show j=m\/j<m by omega)with rfl|h
      ·exact absurd rfl c
      ·exact h
     obtain⟨m',rfl⟩:∃m',m=m'+1:=⟨m-1,by omega⟩;have hm':m'<l.length:=by omega
     refine⟨m'+1,rfl,hmj,by omega,by omega,hin,?_,H10⟩;simp only[Afp,Cy,List.getElem?_eq_getElem hm'];intro h;rw[hsame m' hm' (by omega) (by omega)];exact c
   ·obtain rfl:m=l.length:=by omega
    refine⟨l.length,rfl,by omega,by omega,by omega,hin,?_,H10⟩;have hp:∀n,n=l.length->∃q,Cy l n=some q:=fun n h=>by
     obtain⟨m,rfl⟩:∃m,n=m+1:=⟨n-1,by omega⟩;exact⟨_,List.getElem?_eq_getElem (show m<l.length by omega)⟩
    obtain⟨q,hq⟩:=hp _ rfl;simp only[Afp,hq];intro h;omega
 ·obtain rfl:j=l.length:=by omega
  rw[bI]at H8;have e1:X=⟨u,l⟩:=by rw[hI,bU];rfl
  rw[e1];have hmc:=H8.capE (i:=3) rfl;refine⟨_,_,_,_,H8.cells (i:=2) rfl,?_⟩;refine H8.s 1 ?_;clear H8;intro w18 H18;refine⟨_,_,_,_,H18.cells (i:=1) rfl,?_⟩;exact⟨_,_,hmc,rfl,(H18.freshRow (i:=3) rfl).imp fun _ h=>Sb Br h⟩
end
end Go.Proofs.YtmbppohkadmjgaaGreat
namespace Go.Sx
theorem Aif{l:List Int}{j:Nat}{x y:Int}{r:List Int}(h:l.drop j=x::y::r):Ts ((l.drop j).take 2)=256*x+y:=by
 rw[h];simp[Ts]
theorem Ao9{l:List Int}{j:Nat}{x y:Int}{r:List Int}(h:l.drop j=x::y::r):l.drop (j+2)=r:=by
 rw[<-List.drop_drop,h];rfl
theorem Az4{l:List Int}{j:Nat}{r:List Int}(h:l.drop j=r)(hj:j<=l.length):l.length=j+r.length:=by
 rw[<-h,bJ];omega
end Go.Sx
namespace Go.Proofs.YtmbppohkadmjgaaGreat
open Go.Sx Go.RowKit
section
variable{bits:Int}{b_a:Option Addr}{bs:List Int}{b_c:Nat}{w:World}
theorem Aak(hs:SlR (Bp .u8) 1 w b_a bs)(hb:Bytes bs)(hl:bs.length<=100000):Calls Tryz.prog Pm #[(.int .i64 bits),(.slice b_a bs.length b_c)] w (RetS w (Mv bits bs).1 (Mv bits bs).2):=by
 apply Aiw;have H:=St.nil w;refine H.alloc ?_;clear H;intro b w1 H1;refine ref15_Bits_ct.mono ?_;rintro _ w2 ⟨rfl,hb2⟩;have H2:=H1.pass hb2;clear H1;refine⟨_,rfl,?_⟩;apply An<;>intro c
 ·have e0:Mv bits bs=(.zero,3):=aF c;rw[e0];refine H2.s 0 ?_;clear H2;intro w3 H3;refine⟨_,_,_,_,H3.cells (i:=0) rfl,?_⟩;exact RetS.zero H3.fin.below _
 have e0:Mv bits bs=match rdS bs with|none=>(.zero,5)|some s=>if okS bits s/\Ld s=bs then (s,0) else (.zero,4):=aE (not_not_intro c)
 have none_:∀ {w':World} {R:List Res} {P:World->Prop} {u:Int} {ma:Option Addr} {ml mc:Nat},rdS bs=none->St (fun _=>False) [] w w' (.blk b Ai [.int .i64 u,.slice ma ml mc]::R) P->
  Ad w' ⟨b,0,none⟩ 0 [(.int .i64 (0:Int)),(.slice none 0 0)] fun w9=>∃r_02:Int,∃r_1_a2:Option Addr,∃r_1_l2:Nat,∃r_1_c2:Nat,cellsAt w9 ⟨b,0,none⟩ 0 [(.int .i64 r_02),(.slice r_1_a2 r_1_l2 r_1_c2)]/\
   RetS w (Mv bits bs).1 (Mv bits bs).2 (.returned (.tuple #[(.agg #[.int .i64 r_02,.slice r_1_a2 r_1_l2 r_1_c2]),(.int .i64 (5:Int))])) w9:=fun h H=>by
  rw[e0,h];refine H.store (i:=0) rfl (by rfl) (by rfl) fun w9 H9=>?_;refine⟨_,_,_,_,H9.cells (i:=0) rfl,?_⟩;exact RetS.zero H9.fin.below _
 apply Aa<;>intro c6
 ·refine none_ ?_ H2;rcases bs with _|⟨x,_|⟨y,_|⟨n,r⟩⟩⟩
  ·rfl
  ·rfl
  ·rfl
  ·simp only[aQ]at c6;omega
 obtain⟨x,y,n,r2,hbs⟩:∃x y n r2,bs=x::y::n::r2:=by
  rcases bs with _|⟨x,_|⟨y,_|⟨n,r⟩⟩⟩
  ·simp at c6
  ·simp at c6
  ·simp at c6
  ·exact⟨x,y,n,r,rfl⟩
 have hbx:Bytes (x::y::n::r2):=hbs ▸ hb;obtain⟨hx,hy,hb1⟩:=Ab8 hbx;obtain⟨hn,hb2'⟩:=Azg hb1;have hg0:Ts ((bs.drop 0).take 2)=256*x+y:=Aif (j:=0) (r:=n::r2) (by rw[hbs];rfl);refine(Sy (hs.below H2.below) hb (by omega) 0 2 (by omega) (by omega)).mono ?_;rw[hg0];rintro _ w5 ⟨rfl,hb5⟩;have H5:=H2.pass hb5;clear H2;refine⟨_,rfl,?_⟩;refine H5.alloc ?_;clear H5;intro b1 w6 H6;refine H6.s 1 ?_;clear H6;intro w7 H7;refine ixE (hs.below H7.below) 2 rfl (by omega) fun b2 n' hn' hb2=>?_;obtain rfl:n=n':=by rw[hbs]at hn';injection hn'
 refine⟨_,hb2,?_⟩;refine Ao (by omega) ?_;obtain⟨m,rfl⟩:=Xj hn.1;have H7:=H7.nilE Bn Af 3;have hrd:rdS bs=(rdR m r2).map (⟨256*x+y,·⟩):=by rw[hbs];simp[rdS]
 refine⟨fun at1 n=>(n.toNat,fun w8=>∃(j k:Nat) (rest:List Int) (L:List Rg) (ma:Option Addr) (mc:Nat),at1=j/\n=k/\k<=255/\j<=bs.length/\bs.drop j=rest/\L.length+k<=255/\rdS bs=(rdR k rest).map (fun L'=>(⟨256*x+y,L++L'⟩:Stt))/\
  Cg w w8 [.blk b Ai [(.int .i64 (0:Int)),(.slice none 0 0)],.blk b1 Ai [(.int .i64 (256*x+y)),(.slice ma L.length mc)],.els Bn Af 3 ma mc L]),
  ⟨3,m,r2,[],none,0,rfl,rfl,by omega,by omega,by rw[hbs];rfl,by simp;omega,by rw[hrd];simp,H7⟩,?_⟩
 clear H7;rintro _ at1 n w8 ⟨j,k,rest,L,ma,mc,rfl,rfl,hk,hj,hrest,hLk,hrd2,H8⟩;have hlen:=Az4 hrest hj;have hbr:Bytes rest:=by rw[<-hrest];exact fun i hi=>by simp only[cT];exact hb _ _
 apply Aa<;>intro c5
 ·obtain⟨k,rfl⟩:∃i,k=i+1:=⟨k-1,by omega⟩;refine Ao (by omega) ?_;apply Aa<;>intro c2
  ·refine none_ ?_ H8;rw[hrd2];rcases rest with _|⟨x,_|⟨y,r⟩⟩
   ·rfl
   ·rfl
   ·simp only[aQ]at hlen;omega
  ·obtain⟨p,q,r3,rfl⟩:=Anj (show ¬rest.length<2 by omega);obtain⟨hp,hq,hb3⟩:=Ab8 hbr;have hg:=Aif hrest;have hd:=Ao9 hrest;simp only[aQ]at hlen;refine(Sy (hs.below H8.below) hb (by omega) j 2 (by omega) (by omega)).mono ?_;rw[hg];rintro _ w10 ⟨rfl,hb10⟩;have H10:=H8.pass hb10;clear H8;refine⟨_,rfl,?_⟩;obtain⟨v,hv⟩:∃v,v=256*p+q:=⟨_,rfl⟩;have hvr:0<=v/\v<65536:=by omega
   have hstep:rdR (k+1) (p::q::r3)=if v%16=1 then rdX k v r3 else (rdR k r3).map (⟨v/16,0,0⟩:: ·):=by rw[hv,Atw]
   rw[hstep]at hrd2;rw[<-hv];refine Ui ?_;have e16:v/2^4=v/16:=rfl;rw[e16];refine H10.alloc ?_;clear H10;intro b3 w11 H11;refine H11.s 3 ?_;clear H11;intro w12 H12;refine Ao (by omega) ?_;refine Nu fun x5 hx5=>?_;have hx5:x5=v%16:=by rw[hx5];exact Rl 4 (by omega) (by omega) (by decide)
   apply Aa<;>intro c1
   ·rw[aF (by omega)]at hrd2;refine Ao (by omega) ?_;apply Aa<;>intro c
    ·refine none_ ?_ H12;rw[hrd2];rcases r3 with _|⟨e,_|⟨f,_|⟨g,_|⟨i,r⟩⟩⟩⟩
     ·rfl
     ·rfl
     ·rfl
     ·rfl
     ·simp only[aQ]at hlen;omega
    ·obtain⟨e,f,r4,rfl⟩:=Anj (show ¬r3.length<2 by omega);obtain⟨he,hf,hb4⟩:=Ab8 hb3;simp only[aQ]at hlen;obtain⟨g,i,r5,rfl⟩:=Anj (show ¬r4.length<2 by omega);obtain⟨hg',hi,hb5⟩:=Ab8 hb4;simp only[aQ]at hlen;have hg1:=Aif hd;have hd1:=Ao9 hd;have hg2:=Aif hd1;have hd2:=Ao9 hd1;have ej:(j:Int)+2=((j+2:Nat):Int):=by omega
     have ej2:((j+2:Nat):Int)+2=((j+2+2:Nat):Int):=by omega
     rw[ej];refine(Sy (hs.below H12.below) hb (by omega) (j+2) 2 (by omega) (by omega)).mono ?_;rw[hg1];rintro _ w14 ⟨rfl,hb14⟩;have H14:=H12.pass hb14;clear H12;refine⟨_,rfl,?_⟩;refine Ao (by omega) ?_;rw[ej2];refine(Sy (hs.below H14.below) hb (by omega) (j+2+2) 2 (by omega) (by omega)).mono ?_;rw[hg2];rintro _ w15 ⟨rfl,hb15⟩;have H15:=H14.pass hb15;clear H14;refine⟨_,rfl,?_⟩;refine H15.U 3 ?_;clear H15;intro w16 H16;refine H16.U 3 ?_;clear H16;intro w17 H17;refine Ao (by omega) ?_;refine H17.m 1 ?_;refine⟨_,_,_,H17.cells (i:=3) rfl,?_⟩;refine H17.alloc ?_;clear H17;intro b4 w18 H18;refine H18.appEB Br (i:=2) (j:=4) rfl [⟨v/16,256*e+f,256*g+i⟩] rfl Bo rfl (by simp;omega) (by simp;omega) ?_;intro x_a1 x_c1 w19 H19;refine H19.U 1 ?_;clear H19;intro w20 H20;refine Ao (by omega) ?_;refine⟨⟨j+6,k,r5,L++[⟨v/16,256*e+f,256*g+i⟩],x_a1,x_c1,by omega,by omega,by omega,by omega,hd2,by simp;omega,by rw[hrd2];simp[rdX,Function.comp_def],H20.sub (fun i=>i) ?_ (fun _ _ _ _ h=>h)⟩,by dsimp only;omega⟩;rintro(_|_|_|_) r h<;>first|exact h|cases h
   ·rw[aE (by omega)]at hrd2;refine H12.m 1 ?_;refine⟨_,_,_,H12.cells (i:=3) rfl,?_⟩;refine H12.alloc ?_;clear H12;intro b5 w21 H21;refine H21.appEB Br (i:=2) (j:=4) rfl [⟨v/16,0,0⟩] rfl Bo rfl (by simp;omega) (by simp;omega) ?_;intro x_a3 x_c3 w22 H22;refine H22.U 1 ?_;clear H22;intro w23 H23;refine Ao (by omega) ?_;refine⟨⟨j+2,k,r3,L++[⟨v/16,0,0⟩],x_a3,x_c3,by omega,by omega,by omega,by omega,hd,by simp;omega,by rw[hrd2];simp[Function.comp_def],H23.sub (fun i=>i) ?_ (fun _ _ _ _ h=>h)⟩,by dsimp only;omega⟩;rintro(_|_|_|_) r h<;>first|exact h|cases h
 ·obtain rfl:k=0:=by omega
  have hrd3:rdS bs=some ⟨256*x+y,L⟩:=by rw[hrd2];simp[rdR]
  rw[hrd3]at e0;simp only at e0;have hse:=H8.slE Br (i:=2) rfl;have hmc:=H8.capE (i:=2) rfl;refine⟨_,_,_,_,H8.cells (i:=1) rfl,?_⟩;refine(Aae hse (by omega)).mono ?_;have bad:∀ {w':World} {R:List Res} {P:World->Prop} {u:Int} {ma:Option Addr} {ml mc:Nat},¬(okS bits ⟨256*x+y,L⟩/\Ld ⟨256*x+y,L⟩=bs)->St (fun _=>False) [] w w' (.blk b Ai [.int .i64 u,.slice ma ml mc]::R) P->
   Ad w' ⟨b,0,none⟩ 0 [(.int .i64 (0:Int)),(.slice none 0 0)] fun w9=>∃r_02:Int,∃r_1_a2:Option Addr,∃r_1_l2:Nat,∃r_1_c2:Nat,cellsAt w9 ⟨b,0,none⟩ 0 [(.int .i64 r_02),(.slice r_1_a2 r_1_l2 r_1_c2)]/\
    RetS w (Mv bits bs).1 (Mv bits bs).2 (.returned (.tuple #[(.agg #[.int .i64 r_02,.slice r_1_a2 r_1_l2 r_1_c2]),(.int .i64 (4:Int))])) w9:=fun h H=>by
   rw[e0,aE h];refine H.store (i:=0) rfl (by rfl) (by rfl) fun w9 H9=>?_;refine⟨_,_,_,_,H9.cells (i:=0) rfl,?_⟩;exact RetS.zero H9.fin.below _
  by_cases hok:okS bits ⟨256*x+y,L⟩
  ·have ee:encS bits ⟨256*x+y,L⟩=(Ld ⟨256*x+y,L⟩,0):=aF hok;rw[ee];rintro _ w24 ⟨ra,rc,hrc,rfl,K⟩;have H24:=H8.callF K;clear K;refine⟨_,_,_,_,rfl,?_⟩;refine An (fun c4=>absurd rfl c4) (fun _=>?_);refine(Wa (hs.below H24.below) H24.get.1 hb (Ata _)).mono ?_;rintro _ w26 ⟨rfl,hb26⟩;have H26:=H24.pass hb26;clear H24;refine⟨_,rfl,?_⟩;apply An<;>intro c3
   ·exact bad (fun h=>c3 h.2.symm) H26
   ·rw[e0,aF ⟨hok,c3.symm⟩];refine⟨_,_,_,_,H26.cells (i:=1) rfl,?_⟩;refine H26.store (i:=0) rfl (by rfl) (by rfl) fun w28 H28=>?_;refine⟨_,_,_,_,H28.cells (i:=0) rfl,?_⟩;exact⟨_,_,hmc,rfl,(H28.freshRow (i:=2) rfl).imp fun _ h=>Sb Br h⟩
  ·have ee:encS bits ⟨256*x+y,L⟩=([],1):=aE hok;rw[ee];rintro _ w24 ⟨ra,rc,hrc,rfl,K⟩;have H24:=H8.callF K;clear K;refine⟨_,_,_,_,rfl,?_⟩;refine An (fun _=>?_) (fun c4=>by cases c4);exact bad (fun h=>hok h.1) H24
end
section
variable{s t:Stt}{a_a b_a:Option Addr}{a_c b_c:Nat}{w:World}
end
end Go.Proofs.YtmbppohkadmjgaaGreat
