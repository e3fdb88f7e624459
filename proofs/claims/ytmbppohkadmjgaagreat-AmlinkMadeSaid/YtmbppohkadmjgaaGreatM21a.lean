import Derived.Test.YtmbppohkadmjgaaGreatEl2
import Derived.Test.YtmbppohkadmjgaaGreatCp
import Derived.Test.YtmbppohkadmjgaaGreatM18
import Derived.Test.YtmbppohkadmjgaaGreatEl
import Derived.Test.YtmbppohkadmjgaaGreatOp
namespace Go.Sx
open Go.RowKit
theorem Ahg{α:Type}{L:List α}{k:Nat}{x:α}(h:k<L.length):(L.set k x).take (k+1)=L.take k++[x]:=by
 rw[List.set_eq_take_append_cons_drop,aF h,List.take_append];simp[aU,bQ (Nat.le_of_lt h)];exact bY (by simp;omega)
theorem Aip{α:Type}{L:List α}{k:Nat}{x:α}:(L.set k x).drop (k+1)=L.drop (k+1):=by
 apply List.ext_getElem?;intro i;rw[List.getElem?_drop,List.getElem?_drop,List.getElem?_set_ne (by omega)]
theorem St.shareLast{A0:Nat->Prop}{w0 w:World}{R:List Res}{r:Res}{P:World->Prop}(H:St A0 [] w0 w (R++[r]) P):St A0 [] w0 w R fun w=>r.ok w/\P w:=by
 have:=H.share (i:=R.length) (r:=r) (by simp);rw[show (R++[r]).set R.length .gone=R++[.gone] by simp]at this;exact this.dropLast
theorem Ajp{w0 w:World}{q:Addr}{v:Value}(h0:w0.cell? q=some v)(h1:w.cell? q=some v):Lz (fun p=>p∈[q]) w0 w:=
 Bca fun p hp=>by simp at hp;subst hp;exact⟨v,h0,h1⟩
theorem Baz(g k j:Nat):((⟨g,0,none⟩:Addr).add ((k:Int).toNat*5)).add j=⟨g,k*5+j,none⟩:=by rw[bK,Bd,Bd,aN]
section
variable{A0:Nat->Prop}{M:List Nat}{w0 w:World}{R:List Res}{P:World->Prop}{i:Nat}{t e t0:TypeId}{sz c bytes g:Nat}{a:Option Addr}{z:Value}{Pr:Program}{α:Type}{enc:α->List Value}{ys:List α}
theorem St.appEL(zs:List α)(H:St A0 M w0 w (R++[.blk g t0 (zs.flatMap enc)]) P)(hE:Enc enc sz)(hi:R[i]?=some (.els enc e sz a c ys))(hT:SlTy Pr t e sz bytes z){c2 m:Nat}(hm:m=zs.length)
 (hbytes:(ys.length+zs.length)*bytes<=140737488355328) (h63:ys.length+zs.length<=4611686018427387904) {ty:TypeId} {F:Option Addr->Nat->Nat->World->Prop}
 (h:∀a' c' w',St A0 M w0 w' (R.set i (.els enc e sz a' c' (ys++zs))) P->F a' (ys++zs).length c' w'):Da Pr #[t,t] ty #[.slice a ys.length c,.slice (some ⟨g,0,none⟩) m c2] w F:=by
 have hlt:i<R.length:=(List.getElem?_eq_some_iff.1 hi).1;refine H.appEB (g:=g) (t0:=t0) hE (i:=i) (j:=R.length) (by rw[List.getElem?_append_left hlt];exact hi) zs (by simp) hT hm hbytes h63 fun a' c' w' H'=>h a' c' w' ?_;have e:(((R++[Res.blk g t0 (zs.flatMap enc)]).set i (.els enc e sz a' c' (ys++zs))).set R.length .gone)=R.set i (.els enc e sz a' c' (ys++zs))++[.gone]:=by
  rw[dV _ _ hlt,cH _ _ (by simp)];simp
 rw[e]at H';exact H'.dropLast
end
theorem Bk{a:Addr}{F:Addr->Prop}(h:F a):Cz (some a) F:=h
section
variable{A0:Nat->Prop}{M:List Nat}{w0 w:World}{R:List Res}{P:World->Prop}{t e:TypeId}{sz bytes:Nat}{z:Value}{Pr:Program}{α:Type}{enc:α->List Value}
theorem St.appNew(H:St A0 M w0 w R P){k:IntKind}{zs:List Int}(hT:SlTy Pr t e 1 bytes z){p:Option Addr}{c2:Nat}(hs:SlR (Bp k) 1 w p zs)(hbytes:zs.length*bytes<=140737488355328)(h63:zs.length<=4611686018427387904)
 {ty:TypeId} {F:Option Addr->Nat->Nat->World->Prop} (h:∀a' c' w',St A0 M w0 w' (R++[.ints e k a' c' zs]) P->F a' zs.length c' w'):Da Pr #[t,t] ty #[.slice none 0 0,.slice p zs.length c2] w F:=by
 have K:=H.nilI e k;refine K.appI (i:=R.length) (ys:=[]) (by simp) hT hs (by simpa using hbytes) (by simpa using h63) ?_;intro a' c' w' H';refine h a' c' w' ?_;simpa using H'
theorem St.appNewE(H:St A0 M w0 w R P)(hE:Enc enc sz){zs:List α}(hT:SlTy Pr t e sz bytes z){p:Option Addr}{c2:Nat}(hs:SlR (CE enc) sz w p zs)(hbytes:zs.length*bytes<=140737488355328)(h63:zs.length<=4611686018427387904)
 {ty:TypeId} {F:Option Addr->Nat->Nat->World->Prop} (h:∀a' c' w',St A0 M w0 w' (R++[.els enc e sz a' c' zs]) P->F a' zs.length c' w'):Da Pr #[t,t] ty #[.slice none 0 0,.slice p zs.length c2] w F:=by
 have K:=H.nilE enc e sz;refine K.appE hE (i:=R.length) (ys:=[]) (by simp) hT hs (by simpa using hbytes) (by simpa using h63) ?_;intro a' c' w' H';refine h a' c' w' ?_;simpa using H'
end
theorem St.lastTo{A0:Nat->Prop}{M:List Nat}{w0 w:World}{X T:List Res}{r:Res}{P:World->Prop}(H:St A0 M w0 w (X++T++[r]) P):St A0 M w0 w (X++r::T) P:=by
 refine H.sub (fun i=>if i<X.length then i else if i=X.length then X.length+T.length else i-1) (fun i s hi=>?_) (fun i j hi hj h=>?_)
 ·by_cases h:i<X.length
  ·rw[List.getElem?_append_left h]at hi;rw[aF h,aZ,List.getElem?_append_left h];exact hi
  ·rw[List.getElem?_append_right (by omega)]at hi;rw[aE h];by_cases h2:i=X.length
   ·rw[aF h2];subst h2;simp at hi;subst hi;simp
   ·rw[aE h2];obtain⟨j,hj⟩:∃j,i=X.length+(j+1):=⟨i-X.length-1,by omega⟩;subst hj;rw[show X.length+(j+1)-X.length=j+1 by omega,List.getElem?_cons_succ]at hi;rw[aZ,List.getElem?_append_right (by omega),show X.length+(j+1)-1-X.length=j by omega,List.getElem?_append_left (List.getElem?_eq_some_iff.1 hi).1];exact hi
 ·simp only[aP,aQ]at hi hj;split at h<;>split at h<;>(try split at h)<;>(try split at h)<;>omega
theorem As6(g k:Nat):(⟨g,0,none⟩:Addr).add ((k:Int).toNat*5)=⟨g,k*5,none⟩:=by rw[bK,Bd,aN]
theorem St.swapLast{A0:Nat->Prop}{M:List Nat}{w0 w:World}{X T:List Res}{r:Res}{P:World->Prop}(k:Nat)(H:St A0 M w0 w (X++T++[r]) P):St A0 M w0 w (X++T.set k r) P:=by
 refine H.sub (fun i=>if i=X.length+k then X.length+T.length else i) (fun i s hi=>?_) (fun i j hi hj h=>?_)
 ·by_cases h:i=X.length+k
  ·rw[aF h];subst h;rw[List.getElem?_append_right (by omega),Nat.add_sub_cancel_left]at hi;have hlt:=(List.getElem?_eq_some_iff.1 hi).1;rw[bE]at hlt;rw[List.getElem?_set_self hlt]at hi;injection hi with hi;subst hi
   simp
  ·rw[aE h];by_cases h1:i<X.length
   ·rw[List.getElem?_append_left h1]at hi;rw[aZ,List.getElem?_append_left h1];exact hi
   ·rw[List.getElem?_append_right (by omega),List.getElem?_set_ne (by omega)]at hi;rw[aZ,List.getElem?_append_right (by omega),List.getElem?_append_left (List.getElem?_eq_some_iff.1 hi).1];exact hi
 ·simp only[aP,bE]at hi hj;split at h<;>split at h<;>omega
theorem St.litLast{A0:Nat->Prop}{M:List Nat}{w0 w:World}{R:List Res}{P:World->Prop}{α:Type}{enc:α->List Value}{sz b:Nat}{t:TypeId}(zs:List α)(hE:Enc enc sz)(H:St A0 M w0 w (R++[.blk b t (zs.flatMap enc)]) P)(hm:zs.length<=maxLen):St A0 M w0 w (R++[.els enc t sz (some ⟨b,0,none⟩) zs.length zs]) P:=by
 have K:=H.litE (b:=b) (t:=t) hE (i:=R.length) zs (by simp) hm;rw[show (R++[Res.blk b t (zs.flatMap enc)]).set R.length (.els enc t sz (some ⟨b,0,none⟩) zs.length zs)=R++[.els enc t sz (some ⟨b,0,none⟩) zs.length zs] by simp]at K;exact K
theorem St.first3{A0:Nat->Prop}{M:List Nat}{w0 w:World}{a b c:Res}{T:List Res}{P:World->Prop}(H:St A0 M w0 w (a::b::c::T) P):St A0 M w0 w [a,b,c] P:=
 H.sub id (fun i r hi=>by
  rcases i with _|_|_|i
  ·exact hi
  ·exact hi
  ·exact hi
  ·simp at hi) (fun i j _ _ h=>h)
section
variable{A0:Nat->Prop}{M:List Nat}{w0 w:World}{X T V:List Res}{r:Res}{P:World->Prop}
theorem St.skip(H:St A0 M w0 w (X++r::V) P):St A0 M w0 w (X++V) P:=by
 refine H.sub (fun i=>if i<X.length then i else i+1) (fun i s hi=>?_) (fun i j hi hj h=>?_)
 ·by_cases h:i<X.length
  ·rw[List.getElem?_append_left h]at hi;rw[aF h,List.getElem?_append_left h];exact hi
  ·rw[List.getElem?_append_right (by omega)]at hi;rw[aE h,List.getElem?_append_right (by omega),show i+1-X.length=(i-X.length)+1 by omega,List.getElem?_cons_succ];exact hi
 ·split at h<;>split at h<;>omega
theorem St.newIn(H:St A0 M w0 w (X++r::(T++V)) P):St A0 M w0 w (X++(T++r::V)) P:=by
 refine H.sub (fun i=>if i<X.length then i else if i<X.length+T.length then i+1 else if i=X.length+T.length then X.length else i) (fun i s hi=>?_) (fun i j hi hj h=>?_)
 ·by_cases h:i<X.length
  ·rw[List.getElem?_append_left h]at hi;rw[aF h,List.getElem?_append_left h];exact hi
  ·rw[List.getElem?_append_right (by omega)]at hi;rw[aE h];by_cases h2:i<X.length+T.length
   ·rw[aF h2,List.getElem?_append_right (by omega),show i+1-X.length=(i-X.length)+1 by omega,List.getElem?_cons_succ,List.getElem?_append_left (by omega)];rw[List.getElem?_append_left (by omega)]at hi;exact hi
   ·rw[aE h2];rw[List.getElem?_append_right (by omega)]at hi;by_cases h3:i=X.length+T.length
    ·subst h3;rw[aF rfl];simp at hi;subst hi;simp
    ·rw[aE h3];obtain⟨j,rfl⟩:∃j,i=X.length+(T.length+(j+1)):=⟨i-X.length-T.length-1,by omega⟩;rw[show X.length+(T.length+(j+1))-X.length-T.length=j+1 by omega,List.getElem?_cons_succ]at hi;rw[List.getElem?_append_right (by omega),show X.length+(T.length+(j+1))-X.length=(T.length+j)+1 by omega,List.getElem?_cons_succ,List.getElem?_append_right (by omega),show T.length+j-T.length=j by omega];exact hi
 ·split at h<;>split at h<;>(try split at h)<;>(try split at h)<;>(try split at h)<;>(try split at h)<;>(try split at h)<;>omega
end
section
variable{A0:Nat->Prop}{M:List Nat}{w0 w:World}{P:World->Prop}
theorem St.left{X Y:List Res}(H:St A0 M w0 w (X++Y) P):St A0 M w0 w X P:=
 H.sub id (fun i r hi=>by rw[id,List.getElem?_append_left (List.getElem?_eq_some_iff.1 hi).1];exact hi) (fun i j _ _ h=>h)
end
theorem Ays{α:Type}{W:List α}{n m:Nat}(h:n+m<=W.length):∃Y Z1 Z2,W=Y++Z1++Z2/\Y.length=n/\Z1.length=m:=
 ⟨W.take n,(W.drop n).take m,(W.drop n).drop m,by rw[aZ,bR,bR],by simp;omega,by simp;omega⟩
theorem slA{m l sz g:Nat}(h:m≠l):Ay m l sz (some ⟨g,0,none⟩)=some ⟨g,l*sz,none⟩:=by
 unfold Ay;rw[aE h];simp[Bd]
theorem As4{m sz:Nat}(a:Option Addr):Ay m 0 sz a=a:=by
 unfold Ay;split
 ·rfl
 ·cases a<;>simp[add_zero]
theorem cat(a b:List Value):∀(j:Nat) (u:Value),b[j]?=some u->(a++b)[a.length+j]?=some u:=fun j u h=>by
 rw[List.getElem?_append_right (by omega),Nat.add_sub_cancel_left];exact h
section
variable{A0:Nat->Prop}{M:List Nat}{w0 w w':World}{R:List Res}{P:World->Prop}
theorem Mk{b:Nat}{T:TypeId}{cs:Array Value}(h:Blk w b T cs)(h':Blk w' b T cs):KeepsB (fun x=>x=b) w w':=fun p u hp hc=>
 (World.cell?_of_block (w:=w) (by rw[hp];exact h'.trans h.symm)).trans hc
theorem Baf{S S':Nat->Prop}(h:KeepsB S w w')(h':KeepsB S' w w'):KeepsB (fun x=>S x\/S' x) w w':=fun p u hp hc=>hp.elim (fun q=>h p u q hc) (fun q=>h' p u q hc)
end
end Go.Sx
namespace Go.Sx
structure Lk where
 bits:Int
 every:Int
 poll:Int
 wait:Int
 quiet:Int
 tries:Int
deriving DecidableEq
structure Un where
 sn:Int
 data:List Int
 sent:Int
 tries:Int
 again:List Rg
deriving DecidableEq
structure Sd where
 lk:Lk
 first:Int
 next:Int
 units:List Un
 pieces:Int
 poll:Int
 left:Int
 failed:Bool
deriving DecidableEq
def Sd.zero:Sd:=⟨⟨0,0,0,0,0,0⟩,0,0,[],0,0,0,false⟩
def Ir(l:Lk):Prop:=Bv l.bits/\(1<=l.every/\l.every<=64)/\(1<=l.poll/\l.poll<=1000)/\(1<=l.wait/\l.wait<=1000)/\(0<=l.quiet/\l.quiet<=1000)/\(1<=l.tries/\l.tries<=32)
instance (l:Lk):Decidable (Ir l):=inferInstanceAs (Decidable (_/\_))
def Bt(b n:Int):Prop:=0<=n/\n<2^b.toNat
instance (b n:Int):Decidable (Bt b n):=inferInstanceAs (Decidable (_/\_))
def Ef(u:Un):Prop:=u.sent=u.data.length
instance (u:Un):Decidable (Ef u):=inferInstanceAs (Decidable (_=_))
def Aah(l:Lk)(u:Un):Prop:=Bt l.bits u.sn/\(1<=u.data.length/\u.data.length<=2054)/\(0<=u.sent/\u.sent<=u.data.length)/\(0<=u.tries/\u.tries<=l.tries)
instance (l:Lk) (u:Un):Decidable (Aah l u):=inferInstanceAs (Decidable (_/\_))
def Ar9(u:Un)(r:Rg):Bool:=decide (r.sn≠u.sn\/u.sent<r.t)
def unB(l:Lk)(u:Un):Bool:=decide (Aah l u)&&Cc (-1) u.again&& !u.again.any (Ar9 u)
def Sd.place(s:Sd)(n:Int):Int:=way s.lk.bits s.first n
def Re(s:Sd)(v u:Un):Bool:=decide (s.place v.sn<s.place u.sn)&&(decide (Ef v)||decide (u.sent<=0))
def Dr(s:Sd):Option Un->List Un->Bool
 |_,[]=>true
 |p,u::l=>unB s.lk u&&decide (s.place u.sn<s.place s.next)&&(match p with|none=>true|some v=>Re s v u)&&Dr s (some u) l
def Tz(l:List Un):Nat->Option Un
 |0=>none
 |k+1=>l[k]?
theorem Pe(s:Sd)(l:List Un)(k:Nat)(h:k<l.length):Dr s (Tz l k) (l.drop k)=
 (unB s.lk l[k]&&decide (s.place l[k].sn<s.place s.next)&&(match Tz l k with|none=>true|some v=>Re s v l[k])&&Dr s (Tz l (k+1)) (l.drop (k+1))):=by
 rw[aR h];simp only[Dr,Tz,List.getElem?_eq_getElem h]
def Gu(s:Sd):Bool:=match s.units with
 | []=>decide (s.next=s.first)
 |u::l=>decide (u.sn=s.first)&&Dr s none (u::l)
def Ade(s:Sd):Bool:=s.units.any fun u=>decide (u.sn=s.poll/\0<u.sent)
def Sd.okB(s:Sd):Bool:=
 decide (Ir s.lk/\Bt s.lk.bits s.first/\Bt s.lk.bits s.next/\s.place s.next<=2^(s.lk.bits-1).toNat)&&Gu s&&decide (0<=s.pieces/\s.pieces<=s.lk.every-1)&&
 if s.poll=-1 then decide (s.left=0) else Ade s&&decide (1<=s.left/\s.left<=s.lk.poll)
def idx{α:Type}(p:α->Bool)(l:List α):Int:=match l.findIdx? p with|some i=>(i:Int)|none=>-1
theorem Acg{α:Type}{p:α->Bool}{l:List α}{k:Nat}(hk:k<l.length)(h:∀j (hj:j<l.length),j<k->p l[j]=false)(hp:p l[k]=true):idx p l=k:=by
 have:l.findIdx? p=some k:=List.findIdx?_eq_some_iff_getElem.2 ⟨hk,hp,fun j hj=>by simp[h j (by omega) hj]⟩;rw[idx,this]
theorem Agi{α:Type}{p:α->Bool}{l:List α}(h:∀j (hj:j<l.length),p l[j]=false):idx p l=-1:=by
 have:l.findIdx? p=none:=List.findIdx?_eq_none_iff.2 fun x hx=>by
  obtain⟨j,hj,rfl⟩:=bF hx;exact h j hj
 rw[idx,this]
theorem Yz{α:Type}(p:α->Bool)(l:List α):decide (idx p l>=0)=l.any p:=by
 unfold idx;cases h:l.findIdx? p with
 |none=>
  rw[List.findIdx?_eq_none_iff]at h;symm;simp[bW];exact fun x hx=>by simpa using h x hx
 |some i=>
  obtain⟨hi,hp,_⟩:=List.findIdx?_eq_some_iff_getElem.1 h;have:l.any p=true:=dF.2 ⟨l[i],aJ hi,hp⟩;rw[this];simp
end Go.Sx
namespace Go.Sx
open Go.RowKit
theorem lq{w:World}{b o j:Nat}{vs:List Value}{v:Value}(h:cellsAt w ⟨b,o,none⟩ 0 vs)(hv:vs[j]?=some v):w.cell? ⟨b,o+j,none⟩=some v:=by
 have:=Bc h j _ hv;rwa[aN,Bd]at this
end Go.Sx
namespace Go.Proofs.YtmbppohkadmjgaaGreat
open Go.Sx Go.RowKit
set_option maxRecDepth 100000
def Ax8(l:Lk):List Value:=[.int .i64 l.bits,.int .i64 l.every,.int .i64 l.poll,.int .i64 l.wait,.int .i64 l.quiet,.int .i64 l.tries]
theorem Av{w w':World}{p:Addr}{vs:List Value}(h:cellsAt w p 0 vs)(hb:Below w.heap.size w w'):cellsAt w' p 0 vs:=He (fun _ _ hp _=>hb.get hp) h
theorem Tr{w:World}{b o:Nat}{v:Value}{vs:List Value}(h:cellsAt w ⟨b,o,none⟩ 0 (v::vs)):b<w.heap.size:=Dv (p:=⟨b,o,none⟩) (lq (j:=0) h rfl)
theorem sender_between_ct{x least most:Int}{w:World}:Calls Tryz.prog Cl #[(.int .i64 x),(.int .i64 least),(.int .i64 most)] w fun e w'=>e=.returned (.bool (decide (least<=x/\x<=most)))/\Below w.heap.size w w':=by
 apply Aeu;have H:=St.nil w;apply Aa<;>intro c
 ·refine Aw ?_;exact⟨Nq (by omega),H.below⟩
 ·exact⟨Hd (by omega),H.below⟩
section
variable{l:Lk}{w:World}
theorem sender_ValidLink_ct:Calls Tryz.prog Ev #[(.agg #[.int .i64 l.bits,.int .i64 l.every,.int .i64 l.poll,.int .i64 l.wait,.int .i64 l.quiet,.int .i64 l.tries])] w fun e w'=>e=.returned (.bool (decide (Ir l)))/\Below w.heap.size w w':=by
 apply Aaq;have H:=St.nil w;refine H.alloc ?_;clear H;intro b w1 H1;simp only[aC]at H1;refine⟨fun times w5=>St (fun _=>False) [] w w5 [.blk b Bz [(.int .i64 l.bits),(.int .i64 l.every),(.int .i64 l.poll),(.int .i64 l.wait),(.int .i64 l.quiet),(.int .i64 l.tries)]] (fun _=>True)/\(times=true↔(1<=l.poll/\l.poll<=1000)/\(1<=l.wait/\l.wait<=1000)/\(0<=l.quiet/\l.quiet<=1000)),?_,?_⟩
 ·rintro _ times w5 ⟨H5,hj⟩;refine H5.l 0 ?_;refine counter_Bits_ct.mono ?_;rintro _ w6 ⟨rfl,hb6⟩;have H6:=H5.pass hb6;clear H5;refine⟨_,rfl,?_⟩;apply Aa<;>intro c4
  ·refine H6.l 0 ?_;refine sender_between_ct.mono ?_;rintro _ w7 ⟨rfl,hb7⟩;have H7:=H6.pass hb7;clear H6;refine⟨_,rfl,?_⟩;apply Aa<;>intro c3
   ·apply Al<;>intro c2
    ·refine H7.l 0 ?_;refine sender_between_ct.mono ?_;rintro _ w8 ⟨rfl,hb8⟩;have H8:=H7.pass hb8;clear H7;refine⟨_,rfl,?_⟩;have:=hj.1 c2;exact⟨Nq ⟨fun h=>⟨c4,c3,this.1,this.2.1,this.2.2,h⟩,fun h=>h.2.2.2.2.2⟩,H8.below⟩
    ·exact⟨Hd (fun h=>by rw[hj.2 ⟨h.2.2.1,h.2.2.2.1,h.2.2.2.2.1⟩]at c2;cases c2),H7.below⟩
   ·exact⟨Hd (fun h=>c3 h.2.1),H7.below⟩
  ·exact⟨Hd (fun h=>c4 h.1),H6.below⟩
 ·refine H1.l 0 ?_;refine sender_between_ct.mono ?_;rintro _ w2 ⟨rfl,hb2⟩;have H2:=H1.pass hb2;clear H1;refine⟨_,rfl,?_⟩;apply Aa<;>intro c1
  ·refine H2.l 0 ?_;refine sender_between_ct.mono ?_;rintro _ w3 ⟨rfl,hb3⟩;have H3:=H2.pass hb3;clear H2;refine⟨_,rfl,?_⟩;apply Aa<;>intro c
   ·refine H3.l 0 ?_;refine sender_between_ct.mono ?_;rintro _ w4 ⟨rfl,hb4⟩;have H4:=H3.pass hb4;clear H3;refine⟨_,rfl,?_⟩;exact⟨H4,by rw[aV];omega⟩
   ·exact⟨H3,by simp only[Bool.false_eq_true,false_iff];omega⟩
  ·exact⟨H2,by simp only[Bool.false_eq_true,false_iff];omega⟩
theorem ref20_ValidLink_ct:Calls Tryz.prog Fp #[(.agg #[.int .i64 l.bits,.int .i64 l.every,.int .i64 l.poll,.int .i64 l.wait,.int .i64 l.quiet,.int .i64 l.tries])] w fun e w'=>e=.returned (.bool (decide (Ir l)))/\Below w.heap.size w w':=by
 apply Abt;have H:=St.nil w;refine H.alloc ?_;clear H;intro b w1 H1;refine H1.l 0 ?_;refine ref15_Bits_ct.mono ?_;rintro _ w2 ⟨rfl,hb2⟩;have H2:=H1.pass hb2;clear H1;refine⟨_,rfl,?_⟩;refine Aa (fun c0=>?_) (fun c0=>⟨Hd (fun h=>c0 h.1),H2.below⟩);refine H2.l 0 ?_;refine Aa (fun c1=>?_) (fun c1=>⟨Hd (fun h=>by unfold Ir at h;omega),H2.below⟩);refine H2.l 0 ?_;refine Aa (fun c2=>?_) (fun c2=>⟨Hd (fun h=>by unfold Ir at h;omega),H2.below⟩);refine H2.l 0 ?_;refine Aa (fun c3=>?_) (fun c3=>⟨Hd (fun h=>by unfold Ir at h;omega),H2.below⟩);refine H2.l 0 ?_;refine Aa (fun c4=>?_) (fun c4=>⟨Hd (fun h=>by unfold Ir at h;omega),H2.below⟩);refine H2.l 0 ?_;refine Aa (fun c5=>?_) (fun c5=>⟨Hd (fun h=>by unfold Ir at h;omega),H2.below⟩);refine H2.l 0 ?_;refine Aa (fun c6=>?_) (fun c6=>⟨Hd (fun h=>by unfold Ir at h;omega),H2.below⟩);refine H2.l 0 ?_;refine Aa (fun c7=>?_) (fun c7=>⟨Hd (fun h=>by unfold Ir at h;omega),H2.below⟩);refine H2.l 0 ?_;refine Aa (fun c8=>?_) (fun c8=>⟨Hd (fun h=>by unfold Ir at h;omega),H2.below⟩);refine H2.l 0 ?_;refine Aa (fun c9=>?_) (fun c9=>⟨Hd (fun h=>by unfold Ir at h;omega),H2.below⟩);refine H2.l 0 ?_;refine Aw ?_;exact⟨Nq (by unfold Ir;exact⟨fun h=>⟨c0,by omega,by omega,by omega,by omega,by omega⟩,fun h=>by omega⟩),H2.below⟩
end
end Go.Proofs.YtmbppohkadmjgaaGreat
namespace Go.Sx
structure Pa where
 sn:Int
 done:Bool
 len:Int
 data:List Int
 come:List Rg
deriving DecidableEq
structure Rc where
 lk:Lk
 first:Int
 next:Int
 upto:Int
 mark:Int
 left:Int
 quiet:Int
 due:Bool
 parts:List Pa
deriving DecidableEq
def Rc.zero:Rc:=⟨⟨0,0,0,0,0,0⟩,0,0,0,0,0,0,false,[]⟩
def Rc.place(s:Rc)(n:Int):Int:=way s.lk.bits s.first n
def Rc.behind(s:Rc)(n:Int):Int:=(n+1)%2^s.lk.bits.toNat
def endT(l:List Rg):Int:=Ae7 0 l
def Lx(p:Pa):Bool:=match p.come with
 | [r]=>decide (0<p.len/\r.f=0/\r.t=p.len)
 |_=>false
def Ak9(p:Pa):Bool:=(gapsS p.sn p.come 0 p.data.length).all fun g=>((p.data.drop g.f.toNat).take (g.t.toNat-g.f.toNat)).all fun c=>decide (c=0)
def Ab6(p:Pa):Prop:=(p.len=-1\/(1<=p.len/\p.len<=2054/\(p.data.length:Int)<=p.len))/\p.come≠[]/\Cc (-1) p.come=true/\(∀r∈p.come,r.sn=p.sn)/\(p.data.length:Int)=endT p.come/\p.data.length<=2054/\Lx p=false
instance (p:Pa):Decidable (Ab6 p):=inferInstanceAs (Decidable (_/\_))
def paB(p:Pa):Bool:=if p.done then decide (p.len=0/\p.data=[]/\p.come=[]) else decide (Ab6 p)&&Ak9 p
def Aqx(s:Rc)(last:Int)(p:Pa):Bool:=decide (Bt s.lk.bits p.sn/\last<s.place p.sn/\s.place p.sn<s.place s.next)&&(!p.done|| !decide (p.sn=s.first))&&paB p
def Fv(s:Rc)(last:Int):List Pa->Bool
 | []=>decide (last=s.place s.next-1)
 |p::l=>Aqx s last p&&Fv s (s.place p.sn) l
def Nz(s:Rc)(l:List Pa):Nat->Int
 |0=>-1
 |k+1=>((l[k]?).map fun p=>s.place p.sn).getD (-1)
theorem Tf{s:Rc}{l:List Pa}{k:Nat}(h:k<l.length):Nz s l (k+1)=s.place l[k].sn:=by
 simp[Nz,List.getElem?_eq_getElem h]
theorem Ac2(s:Rc)(l:List Pa)(k:Nat)(last:Int)(h:k<l.length):Fv s last (l.drop k)=(Aqx s last l[k]&&Fv s (Nz s l (k+1)) (l.drop (k+1))):=by
 rw[aR h,Tf h];rfl
def Vg(s:Rc):Bool:=if s.mark=-1 then decide (s.left=0) else decide (Bt s.lk.bits s.mark/\1<=s.place s.mark/\s.place s.mark<=s.place s.next/\1<=s.left/\s.left<=s.lk.wait)
def Adg(s:Rc):Bool:=decide (Ir s.lk/\Bt s.lk.bits s.first/\Bt s.lk.bits s.next/\Bt s.lk.bits s.upto/\s.place s.next<=2^(s.lk.bits-1).toNat/\s.place s.upto<=s.place s.next/\0<=s.quiet/\s.quiet<=s.lk.quiet)
def Rc.okB(s:Rc):Bool:=Adg s&&Fv s (-1) s.parts&&Vg s
def Akx(l:Lk):Rc×Int:=if Ir l then (⟨l,0,0,0,-1,0,0,false,[]⟩,0) else (.zero,3)
def Mg(s:Rc):Rc:=if s.mark≠ -1/\(s.place s.mark=0\/s.place s.mark>s.place s.next) then { s with mark:=-1,left:=0 } else s
def Za(t:Rc):Rc:=if t.mark=-1/\t.first≠t.next then { t with mark:=t.next,left:=t.lk.wait } else t
def startR(s:Rc):Rc:=Za (Mg s)
theorem Ob(s:Rc):(startR s).parts=s.parts/\(startR s).lk=s.lk/\(startR s).first=s.first/\(startR s).next=s.next/\(startR s).upto=s.upto/\(startR s).quiet=s.quiet/\(startR s).due=s.due:=by
 unfold startR Za;have h:(Mg s).parts=s.parts/\(Mg s).lk=s.lk/\(Mg s).first=s.first/\(Mg s).next=s.next/\(Mg s).upto=s.upto/\(Mg s).quiet=s.quiet/\(Mg s).due=s.due:=by
  unfold Mg;split<;>exact⟨rfl,rfl,rfl,rfl,rfl,rfl,rfl⟩
 split
 ·exact h
 ·exact h
def pollR(s:Rc)(p:Pc):Rc:=if p.poll=1 then { s with due:=true,upto:=s.next } else s
def Pc.en(p:Pc):Int:=p.off+p.data.length
def Ee(x:Pa)(p:Pc):Bool:=if Agr p.part=true then decide (x.len≠ -1/\x.len≠p.en\/p.en<endT x.come) else decide (x.len≠ -1/\x.len<=p.en)
def Aly(x:Pa)(p:Pc):Bool:=x.come.any (fun r=>decide (r.f<=p.off/\p.en<=r.t))&&(!Agr p.part|| !decide (x.len=-1))
def Ap5(d:List Int)(o:Nat)(b:List Int):List Int:=
 let d':=d++List.replicate (o+b.length-d.length) 0
 d'.take o++b++d'.drop (o+b.length)
theorem At9(d:List Int)(o:Nat)(b:List Int):(Ap5 d o b).length=max d.length (o+b.length):=by
 simp only[Ap5,aP,aU,bJ,cY];omega
def Es(x:Pa)(p:Pc):Pa:={ x with data:=Ap5 x.data p.off.toNat p.data,come:=Cn p.sn x.come p.off p.en,len:=if Agr p.part=true then p.en else x.len }
def atP(s:Rc)(n:Int):Nat:=(s.parts.takeWhile fun p=>decide (s.place p.sn<s.place n)).length
def Ho(s:Rc)(n:Int):Bool:=match s.parts[atP s n]? with
 |some x=>decide (x.sn=n)
 |none=>false
def Ek(s:Rc)(p:Pc):Int:=
 if s.place p.sn>=2^(s.lk.bits-1).toNat then 11 else match s.parts[atP s p.sn]? with
  |some x=>if x.sn=p.sn then if x.done then 12 else if Ee x p then 4 else if Aly x p then 12 else 0 else 0
  |none=>0
def Iu(n:Int):Pa:=⟨n,false,-1,[],[]⟩
def Si(n:Int):Pa:=⟨n,true,0,[],[]⟩
def Mw(s:Rc)(p:Pc):List Pa:=if Ho s p.sn then s.parts else s.parts.take (atP s p.sn)++Iu p.sn::s.parts.drop (atP s p.sn)
def Dk(s:Rc)(p:Pc):Pa:=Es (((Mw s p)[atP s p.sn]?).getD (Iu p.sn)) p
def Gc(s:Rc)(p:Pc):List Int:=if Lx (Dk s p) then (Dk s p).data else []
def putP(s:Rc)(p:Pc):Rc:=
 { s with parts:=(Mw s p).set (atP s p.sn) (if Lx (Dk s p) then Si p.sn else Dk s p),next:=if s.place p.sn>=s.place s.next then s.behind p.sn else s.next }
def Mu(b:Int):Int->List Pa->Int×List Pa
 |f,[]=>(f,[])
 |f,p::l=>if p.sn=f/\p.done=true then Mu b ((f+1)%2^b.toNat) l else (f,p::l)
def Aea(s:Rc):Rc:={ s with first:=(Mu s.lk.bits s.first s.parts).1,parts:=(Mu s.lk.bits s.first s.parts).2 }
def Akc(t:Rc):Rc:=if t.place t.upto>t.place t.next then { t with upto:=t.first } else t
def Qa(s:Rc):Rc:=Akc (Aea s)
def It(s:Rc)(bs:List Int):Rc×List Int×Int:=
 if s.okB=false then (.zero,[],1) else
 let q:=Ip s.lk.bits bs
 if q.2≠0 then (s,[],q.2) else
 if Ek s q.1≠0 then (pollR s q.1,[],Ek s q.1) else
 (pollR (startR (Qa (putP s q.1))) q.1,Gc s q.1,0)
def Ah0(s:Rc):Rc:={ s with quiet:=if s.quiet-1>0 then s.quiet-1 else 0 }
def Ak2(u:Rc):Rc:=if u.left>0 then u else startR { u with upto:=if u.place u.mark>u.place u.upto then u.mark else u.upto,due:=true,mark:=-1 }
def Gv(s:Rc):Rc×Int:=
 if s.okB=false then (.zero,1) else (if s.left=0 then Ah0 s else Ak2 { Ah0 s with left:=s.left-1 },0)
theorem Ace(u:Rc):(Ak2 u).parts=u.parts:=by
 unfold Ak2;split
 ·rfl
 ·exact(Ob _).1
def Ve(n:Int):Option Pa->List Rg
 |none=>[⟨n,0,0⟩]
 |some p=>if p.done then [] else gapsS n p.come 0 (if p.len=-1 then 65535 else p.len)
def Sn(s:Rc)(n:Int):List Rg:=Ve n (if idx (fun p=>decide (p.sn=n)) s.parts<0 then none else s.parts[(idx (fun p=>decide (p.sn=n)) s.parts).toNat]?)
theorem Ayp{α:Type}(p:α->Bool)(l:List α):(idx p l=-1/\∀x∈l,p x=false)\/∃k,∃h:k<l.length,idx p l=k/\p l[k]=true:=by
 unfold idx;cases h:l.findIdx? p with
 |none=>
  rw[List.findIdx?_eq_none_iff]at h;exact .inl ⟨rfl,fun x hx=>by simpa using h x hx⟩
 |some i=>
  obtain⟨hi,hp,_⟩:=List.findIdx?_eq_some_iff_getElem.1 h;exact .inr ⟨i,hi,rfl,hp⟩
def Aaa(s:Rc):Nat->Int->List Rg->Stt
 |0,_,out=>⟨s.upto,out⟩
 |k+1,n,out=>if out.length+(Sn s n).length>64 then ⟨n,out⟩ else Aaa s k (s.behind n) (out++Sn s n)
def Lm(s:Rc):Stt×Int:=if s.okB=false then (.zero,1) else (Aaa s (s.place s.upto).toNat s.first [],0)
def Fu(s:Rc)(size:Int):Rc×List Int×Int:=
 if s.okB=false then (.zero,[],1) else if size<0\/size>4096 then (.zero,[],3) else if s.due=false\/s.quiet>0 then (.zero,[],14) else
 let x:=fitR s.lk.bits (Lm s).1 size
 if x.2≠0 then (.zero,[],x.2) else ({ s with due:=false,quiet:=s.lk.quiet },(encS s.lk.bits x.1).1,0)
theorem Mn:∀ {l:List Rg} {p q:Int},Cc p l=true->(∀x∈l,x.t<=Ae7 q l)/\(l≠[]->∃x∈l,x.t=Ae7 q l)
 | [],p,q,_=>⟨fun x hx=>by simp at hx,fun h=>absurd rfl h⟩
 | [y],p,q,_=>⟨fun x hx=>by simp at hx;subst hx;exact bV _,fun _=>⟨y,by simp,rfl⟩⟩
 |y::z::l,p,q,h=>by
  rw[Ex]at h;obtain⟨h1,h2⟩:=Mn (q:=y.t) h.2;have h3:=h.2;rw[Ex]at h3;refine⟨fun x hx=>?_,fun _=>?_⟩
  ·rcases bB.1 hx with rfl|hx
   ·have:=h1 z (by simp);show x.t<=Ae7 x.t (z::l);omega
   ·exact h1 x hx
  ·obtain⟨x,hx,e⟩:=h2 (by simp);exact⟨x,by simp only[bB]at hx ⊢;exact .inr hx,e⟩
theorem Amw{k:Int}{l:List Rg}:Qk k l=true↔∃r∈l,r.f<=k/\k<r.t:=by simp[Qk]
theorem Axm{sn f t:Int}{l:List Rg}(h:Cc (-1) l=true)(hf:0<=f)(ht:f<t):endT (Cn sn l f t)=max (endT l) t:=by
 have hn:=Zg sn l (-1) f t h (by omega) ht;have hne:Cn sn l f t≠[]:=by
  intro e;have:=Xn sn f l f t ht fun x hx=>(Lo l _ h x hx).2;rw[e]at this;simp[Qk,ht]at this
 obtain⟨a1,a2⟩:=Mn (q:=0) hn;obtain⟨b1,b2⟩:=Mn (q:=0) h;have hm:∀x∈Cn sn l f t,x.t<=max (endT l) t:=Aoz sn l f t _ (fun x hx=>by have:=b1 x hx;unfold endT;omega) (by omega);obtain⟨y,hy,e⟩:=a2 hne;have h1:=hm y hy;have h2:max (endT l) t<=endT (Cn sn l f t):=by
  have hc:Qk (max (endT l) t-1) (Cn sn l f t)=true:=by
   rw[Xn sn _ l f t ht fun x hx=>(Lo l _ h x hx).2];rcases Int.lt_or_le t (endT l)with h3|h3
   ·have hl:l≠[]:=by
     rintro rfl;simp only[endT,Ae7]at h3;omega
    obtain⟨x,hx,e2⟩:=b2 hl;have:Qk (max (endT l) t-1) l=true:=Amw.2 ⟨x,hx,by
     have:=(Lo l _ h x hx).2;unfold endT at h3 ⊢;omega,by unfold endT at h3 ⊢;omega⟩
    rw[this];simp
   ·have:decide (f<=max (endT l) t-1/\max (endT l) t-1<t)=true:=aM (by omega);rw[this];rfl
  obtain⟨z,hz,hz1,hz2⟩:=Amw.1 hc;have:=a1 z hz;unfold endT at*;omega
 unfold endT at*;omega
theorem Adr:∀ {l:List Rg} {p m:Int},Cc p l=true->(∀r∈l,r.t<=m)->l=[]\/p+l.length<=m
 | [],_,_,_,_=>.inl rfl
 |x::l,p,m,h,hm=>by
  simp only[Cc,aH,aO]at h;have h1:=hm x (by simp);right;rcases Adr h.2 (fun r hr=>hm r (by simp[hr]))with rfl|h2
  ·simp;omega
  ·simp;omega
theorem Ao6{l:List Rg}(h:l.length-1<l.length):endT l=l[l.length-1].t:=by
 have e:l=l.take (l.length-1)++[l[l.length-1]]:=by
  rw[<-cA h,bY (by omega)]
 exact(cI (Ae7 0) e).trans (Afi _ _ _)
theorem Awl:∀ {l:List Rg} {p:Int},Cc p l=true->0<=p+1->0<=endT l
 | [],_,_,_=>bV _
 |x::l,p,h,hp=>by
  obtain⟨y,hy,e⟩:=(Mn (q:=0) h).2 (by simp);have:=Lo _ _ h y hy;unfold endT;omega
theorem Ams{l:List Rg}{sn m:Int}(h:Cc (-1) l=true)(hm:endT l<=m)(h0:0<=m):Alj l sn m=(gapsS sn l 0 m,0):=by
 unfold Alj;rw[aE (by rw[h];decide),aE];rintro(h1|⟨h1,h2⟩)
 ·omega
 ·have hl:l.length-1<l.length:=by omega
  have e:prevT l l.length=endT l:=by
   rw[Ao6 hl];obtain⟨n,hn⟩:∃n,l.length=n+1:=⟨l.length-1,by omega⟩;have e2:∀m,m=n+1->∀hm:m-1<l.length,prevT l m=l[m-1].t:=by
    rintro _ rfl hm;rw[Lf (by omega)];rfl
   exact e2 _ hn _
  omega
theorem Ad0{x:Pa}(h:Ab6 x):x.come.length<=2055:=by
 obtain⟨_,_,hn,_,he,hd,_⟩:=h;have h1:=(Mn (q:=0) hn).1;rcases Adr (m:=2054) hn (fun r hr=>by have:=h1 r hr;unfold endT at he;omega)with h|h
 ·rw[h];simp
 ·omega
theorem Ay8(d:List Int)(o:Nat)(b:List Int)(k:Nat):(Ap5 d o b).getD k 0=if o<=k/\k<o+b.length then b.getD (k-o) 0 else d.getD k 0:=by
 have e1:∀j,(d++List.replicate (o+b.length-d.length) (0:Int)).getD j 0=d.getD j 0:=fun j=>by
  simp only[List.getD_eq_getElem?_getD];rcases aT j d.length with h|h
  ·rw[List.getElem?_append_left h]
  ·rw[List.getElem?_append_right h,List.getElem?_eq_none h,List.getElem?_replicate];split<;>rfl
 have hl:o<=(d++List.replicate (o+b.length-d.length) (0:Int)).length:=by simp;omega
 have hp:Ap5 d o b=(d++List.replicate (o+b.length-d.length) (0:Int)).take o++b++(d++List.replicate (o+b.length-d.length) (0:Int)).drop (o+b.length):=rfl;rw[<-e1 k,hp];generalize d++List.replicate (o+b.length-d.length) (0:Int)=d' at hl;simp only[List.getD_eq_getElem?_getD];by_cases h1:k<o
 ·rw[aE (by omega),aZ,List.getElem?_append_left (by simp;omega),List.getElem?_take,aF h1]
 ·by_cases h2:k<o+b.length
  ·rw[aF (by omega),aZ,List.getElem?_append_right (by simp;omega),List.getElem?_append_left (by simp;omega),aU,bQ hl]
  ·rw[aE (by omega),aZ,List.getElem?_append_right (by simp;omega),List.getElem?_append_right (by simp;omega),List.getElem?_drop,aU,bQ hl];congr 2;omega
def Rc.num(s:Rc)(j:Nat):Int:=(s.first+j)%2^s.lk.bits.toNat
theorem Ao5{s:Rc}(hf:Bt s.lk.bits s.first):s.num 0=s.first:=by
 unfold Rc.num Bt at*;rw[Int.emod_eq_of_lt (by omega) (by omega)];omega
theorem Awf{s:Rc}(hb:Bv s.lk.bits)(j:Nat):Bt s.lk.bits (s.num j):=by
 unfold Rc.num Bt;rcases Cm hb with h|h|h|h|h<;>rw[h]<;>omega
theorem Akp{s:Rc}(hb:Bv s.lk.bits)(hf:Bt s.lk.bits s.first){j:Nat}(hj:(j:Int)<2^s.lk.bits.toNat):s.place (s.num j)=j:=by
 unfold Rc.num Rc.place way Bt at*;rcases Cm hb with h|h|h|h|h<;>rw[h]at hj hf ⊢ <;>omega
theorem Auv{s:Rc}(hb:Bv s.lk.bits)(j:Nat):s.behind (s.num j)=s.num (j+1):=by
 unfold Rc.num Rc.behind;rcases Cm hb with h|h|h|h|h<;>rw[h]<;>omega
theorem Xm{s:Rc}{x y:Int}(hb:Bv s.lk.bits)(hx:Bt s.lk.bits x)(hy:Bt s.lk.bits y)(h:s.place x=s.place y):x=y:=by
 unfold Rc.place way Bt at*;rcases Cm hb with e|e|e|e|e<;>rw[e]at hx hy h<;>omega
theorem Av9{s:Rc}{n:Int}(h:∀x∈s.parts,x.sn≠n):Sn s n=[⟨n,0,0⟩]:=by
 unfold Sn;rcases Ayp (fun p:Pa=>decide (p.sn=n)) s.parts with ⟨e,_⟩|⟨k,hk,e,h2⟩
 ·rw[aF (by omega)];rfl
 ·exact absurd (of_decide_eq_true h2) (h _ (aJ hk))
theorem Avm{s:Rc}{n:Int}{k:Nat}(hk:k<s.parts.length)(h:s.parts[k].sn=n)(hn:∀j (hj:j<s.parts.length),j<k->s.parts[j].sn≠n):Sn s n=Ve n (some s.parts[k]):=by
 unfold Sn;have e:=Acg (p:=fun p:Pa=>decide (p.sn=n)) hk (fun j hj hjk=>by simpa using hn j hj hjk) (by simpa using h);rw[e,aE (by omega),bK,List.getElem?_eq_getElem hk]
theorem Ax0{n:Int}{o:Option Pa}(h:∀x,o=some x->x.come.length<=3000):(Ve n o).length<=3001:=by
 have gl:∀(sn m:Int) (l:List Rg) (p:Int),(gapsS sn l p m).length<=l.length+1:=by
  intro sn m l;induction l with
  |nil=>intro p;unfold gapsS;split<;>simp
  |cons x l ih=>intro p;unfold gapsS;have:=ih x.t;split<;>simp<;>omega
 unfold Ve;split
 ·simp
 ·rename_i x;split
  ·simp
  ·have:=gl n (if x.len=-1 then 65535 else x.len) x.come 0;have:=h x rfl;omega
theorem Ard{s:Rc}{n:Int}(h:∀x∈s.parts,x.come.length<=3000):(Sn s n).length<=3001:=by
 refine Ax0 fun x hx=>?_;split at hx
 ·cases hx
 ·exact h x (bL hx)
end Go.Sx
namespace Go.Proofs.YtmbppohkadmjgaaGreat
open Go.Sx Go.RowKit
set_option maxRecDepth 100000
def Ix(x:Pa)(a:Option Addr)(c:Nat)(a2:Option Addr)(c2:Nat):List Value:=[.int .i64 x.sn,.bool x.done,.int .i64 x.len,.slice a x.data.length c,.slice a2 x.come.length c2]
abbrev Va(x:Pa)(a:Option Addr)(c:Nat)(a2:Option Addr)(c2:Nat):Value:=.agg #[.int .i64 x.sn,.bool x.done,.int .i64 x.len,.slice a x.data.length c,.slice a2 x.come.length c2]
def PaC(w:World)(p:Addr)(x:Pa):Prop:=∃a c a2 c2,cellsAt w p 0 (Ix x a c a2 c2)/\SlR (Bp .u8) 1 w a x.data/\SlR (CE Bn) 3 w a2 x.come/\x.data.length<=c
abbrev PaR(w:World)(a:Option Addr)(L:List Pa):Prop:=SlR PaC 5 w a L
def Bi(s:Rc)(a:Option Addr)(c:Nat):List Value:=
 [.int .i64 s.lk.bits,.int .i64 s.lk.every,.int .i64 s.lk.poll,.int .i64 s.lk.wait,.int .i64 s.lk.quiet,.int .i64 s.lk.tries,.int .i64 s.first,.int .i64 s.next,.int .i64 s.upto,.int .i64 s.mark,.int .i64 s.left,.int .i64 s.quiet,.bool s.due,.slice a s.parts.length c]
abbrev Fw(s:Rc)(a:Option Addr)(c:Nat):Value:=
 .agg #[.int .i64 s.lk.bits,.int .i64 s.lk.every,.int .i64 s.lk.poll,.int .i64 s.lk.wait,.int .i64 s.lk.quiet,.int .i64 s.lk.tries,.int .i64 s.first,.int .i64 s.next,.int .i64 s.upto,.int .i64 s.mark,.int .i64 s.left,.int .i64 s.quiet,.bool s.due,.slice a s.parts.length c]
theorem PaC.keep{w w':World}{p:Addr}{x:Pa}(h:PaC w p x)(hb:Below w.heap.size w w'):PaC w' p x:=by
 obtain⟨a,c,a2,c2,h1,h2,h3,h4⟩:=h;exact⟨a,c,a2,c2,He (fun _ _ hp _=>hb.get hp) h1,h2.below hb,h3.belowE hb,h4⟩
theorem Cw{w w':World}{a:Option Addr}{L:List Pa}(h:PaR w a L)(hb:Below w.heap.size w w'):PaR w' a L:=by
 rcases h with rfl|⟨b,rfl,h⟩
 ·exact .inl rfl
 ·exact .inr ⟨b,rfl,fun i hi=>(h i hi).keep hb⟩
theorem Uu{w:World}{a:Option Addr}{L:List Pa}(hs:PaR w a L)(i:Nat){j:Int}(hj:j=i)(hi:i<L.length){F:Addr->Prop}
 (h:∀b,PaC w (b.add (j.toNat*5)) L[i]->F b):kIx a L.length j F:=
 ixE hs i hj hi fun b x hx hb=>by
  rw[List.getElem?_eq_getElem hi]at hx;injection hx with hx;subst hx;exact h b hb
section
variable{s:Rc}{a:Option Addr}{c:Nat}{s_b s_o:Nat}{n:Int}{w:World}
theorem Bh(hc:cellsAt w ⟨s_b,s_o,none⟩ 0 (Bi s a c))(hb:Bv s.lk.bits):Calls Tryz.prog Be #[(.pointer (some ⟨s_b,s_o,none⟩)),(.int .i64 n)] w fun e w'=>e=.returned (.int .i64 (s.place n))/\Below w.heap.size w w':=by
 apply Vt;have H:=St.nil w;refine H.drew ?_;clear H;intro w1 H1;refine⟨(· <w1.heap.size),?_⟩;refine⟨_,lq (j:=0) (Av hc H1.below) rfl,?_⟩;refine⟨_,lq (j:=6) (Av hc H1.below) rfl,?_⟩;refine serial_Distance_ct.mono ?_;rintro _ w2 ⟨rfl,hb2⟩;have H2:=H1.pass hb2;refine⟨_,rfl,?_⟩;refine⟨hb2.keeps,?_⟩;obtain⟨hb1,hb3⟩:=hb;exact⟨by rw[aF (by omega)];rfl,H2.below⟩
theorem Eb(hc:cellsAt w ⟨s_b,s_o,none⟩ 0 (Bi s a c))(hb:Bv s.lk.bits)(hn: -1000000<=n/\n<=1000000):Calls Tryz.prog Di #[(.pointer (some ⟨s_b,s_o,none⟩)),(.int .i64 n)] w fun e w'=>e=.returned (.int .i64 (s.behind n))/\Below w.heap.size w w':=by
 apply Uq;have H:=St.nil w;refine⟨_,lq (j:=0) (Av hc H.below) rfl,?_⟩;refine Ao (by omega) ?_;refine serial_Low_ct.mono ?_;rintro _ w1 ⟨rfl,hb1⟩;have H1:=H.pass hb1;clear H;refine⟨_,rfl,?_⟩;obtain⟨hb1,hb3⟩:=hb;exact⟨by rw[aF (by omega)];rfl,H1.below⟩
theorem Ec(hc:cellsAt w ⟨s_b,s_o,none⟩ 0 (Bi s a c))(hb:Bv s.lk.bits):Calls Tryz.prog Dh #[(.pointer (some ⟨s_b,s_o,none⟩)),(.int .i64 n)] w fun e w'=>e=.returned (.bool (decide (Bt s.lk.bits n)))/\Below w.heap.size w w':=by
 apply Ut;have H:=St.nil w;have hp:=Cm hb;obtain⟨hb1,hb3⟩:=hb;apply Aa<;>intro c
 ·refine⟨_,lq (j:=0) (Av hc H.below) rfl,?_⟩;refine⟨by omega,?_⟩;refine Kv (by omega) ?_;refine Aw ?_;exact⟨Nq (by unfold Bt;omega),H.below⟩
 ·exact⟨Hd (by unfold Bt;omega),H.below⟩
end
section
variable{l_a:Option Addr}{l:List Rg}{l_c:Nat}{w:World}
theorem Rv(hs:SlR (CE Bn) 3 w l_a l)(hl:l.length<=140737488355328):Calls Tryz.prog Lg #[(.slice l_a l.length l_c)] w fun e w'=>e=.returned (.int .i64 (endT l))/\Below w.heap.size w w':=by
 apply Ahy;have H:=St.nil w;apply Aa<;>intro c
 ·obtain rfl:l=[]:=aK (by omega);exact⟨rfl,H.below⟩
 ·refine Ao (by omega) ?_;have hlt:l.length-1<l.length:=by omega
  refine ixE hs (l.length-1) (by omega) hlt fun b r hr hb=>?_;obtain rfl:l[l.length-1]=r:=by rw[List.getElem?_eq_getElem hlt]at hr;injection hr
  refine⟨_,by have:=Bc hb 2 _ rfl;rwa[aN]at this,?_⟩;refine⟨?_,H.below⟩;have e:l=l.take (l.length-1)++[l[l.length-1]]:=by
   rw[<-cA hlt,bY (by omega)]
  have e2:endT l=l[l.length-1].t:=by
   unfold endT;exact(cI (Ae7 0) e).trans (Afi _ _ _)
  rw[e2]
end
section
variable{x:Pa}{a a2:Option Addr}{c c2:Nat}{w:World}
theorem Akh{p:Pa}:Lx p=true↔0<p.len/\∃r,p.come=[r]/\r.f=0/\r.t=p.len:=by
 unfold Lx;split
 ·rename_i r h;simp only[aO,h,List.cons.injEq,and_true,exists_eq_left']
 ·rename_i h;simp only[Bool.false_eq_true,false_iff];rintro⟨_,r,h2,_⟩;exact h r h2
theorem Adk{p:Pa}(h:¬(0<p.len/\∃r,p.come=[r]/\r.f=0/\r.t=p.len)):Lx p=false:=by
 rw[Bool.eq_false_iff];exact fun h'=>h (Akh.1 h')
theorem Rp(hu:SlR (CE Bn) 3 w a2 x.come):Calls Tryz.prog Hu #[Va x a c a2 c2] w fun e w'=>e=.returned (.bool (Lx x))/\Below w.heap.size w w':=by
 apply Yu;have H:=St.nil w;refine H.alloc ?_;clear H;intro b w1 H1;refine H1.drew ?_;clear H1;intro w2 H2;refine H2.l 0 ?_;apply Aa<;>intro c2
 ·refine H2.m 0 ?_;apply Aa<;>intro c1
  ·refine H2.m 0 ?_;have hlt:0<x.come.length:=by omega
   refine ixE (hu.belowE H2.below) 0 rfl hlt fun b1 r hr hb1=>?_;obtain rfl:x.come[0]=r:=by rw[List.getElem?_eq_getElem hlt]at hr;injection hr
   refine⟨_,by have:=Bc hb1 1 _ rfl;rwa[aN]at this,?_⟩;apply Aa<;>intro c
   ·refine H2.m 0 ?_;refine ixE (hu.belowE H2.below) 0 rfl hlt fun b2 r hr hb2=>?_;obtain rfl:x.come[0]=r:=by rw[List.getElem?_eq_getElem hlt]at hr;injection hr
    refine⟨_,by have:=Bc hb2 2 _ rfl;rwa[aN]at this,?_⟩;refine H2.l 0 ?_;refine Aw ?_;have h1:x.come=[x.come[0]]:=by
     apply cX (by simp;omega);intro i h1 h2;obtain rfl:i=0:=by omega
     rfl
    refine⟨?_,H2.below⟩;have e:Lx x=decide (x.come[0].t=x.len):=by
     rw[Bool.eq_iff_iff,Akh,aV];constructor
     ·rintro⟨_,r,h2,_,h3⟩;have:x.come[0]=r:=by simp[h2]
      rw[this];exact h3
     ·intro h;exact⟨c2,_,h1,by omega,h⟩
    rw[e]
   ·refine⟨?_,H2.below⟩;rw[Adk];rintro⟨_,r,h2,h3,_⟩;have:x.come[0]=r:=by simp[h2]
    rw[this]at c;omega
  ·refine⟨?_,H2.below⟩;rw[Adk];rintro⟨_,r,h2,_⟩;rw[h2]at c1;exact c1 rfl
 ·refine⟨?_,H2.below⟩;rw[Adk];rintro⟨h,_⟩;omega
end
section
variable{L:List Rg}{a:Option Addr}{c g:Nat}{ff fc:Array Value}{w:World}
theorem Aqu(hs:SlR (CE Bn) 3 w a L)(hl:L.length<=140737488355328)(p:Rg->Bool)(hok:Vy Tryz.prog g=true)
 (hf:∀(w':World) (r:Rg),r∈L->Below w.heap.size w w'->Calls Tryz.prog g (ff++#[.agg #[.int .i64 r.sn,.int .i64 r.f,.int .i64 r.t]]++fc) w' fun e w''=>e=.returned (.bool (p r))/\Below w'.heap.size w' w''):
 Calls Tryz.prog Dp #[(.slice a L.length c),.func (.func g) ff fc] w fun e w'=>e=.returned (.int .i64 (idx p L))/\Below w.heap.size w w':=by
 apply Jh;have H:=St.nil w;refine⟨fun x=>((L.length-x).toNat,fun w1=>∃k:Nat,x=k/\k<=L.length/\(∀j (hj:j<L.length),j<k->p L[j]=false)/\Cg w w1 []),⟨0,rfl,by omega,fun j _ h=>by omega,H⟩,?_⟩;clear H;rintro _ x w1 ⟨k,rfl,hk,hno,H1⟩;apply Aa<;>intro c1
 ·have hlt:k<L.length:=by omega
  refine ixE (hs.belowE H1.below) k rfl hlt fun b s hsk hb=>?_;obtain rfl:L[k]=s:=by rw[List.getElem?_eq_getElem hlt]at hsk;injection hsk
  refine⟨_,_,_,hb,?_⟩;refine⟨hok,?_⟩;refine(hf w1 _ (aJ hlt) H1.below).mono ?_;rintro _ w2 ⟨rfl,hb2⟩;have H2:=H1.pass hb2;clear H1;refine⟨_,rfl,?_⟩;apply Al<;>intro c
  ·exact⟨by rw[Acg hlt hno c],H2.below⟩
  ·refine Ao (by omega) ?_;exact⟨⟨k+1,by omega,by omega,fun j hj h=>by
    rcases aT j k with h'|h'
    ·exact hno j hj h'
    ·obtain rfl:j=k:=by omega
     exact c,H2⟩,by dsimp only;omega⟩
 ·obtain rfl:k=L.length:=by omega
  exact⟨by rw[Agi fun j hj=>hno j hj hj],H1.below⟩
theorem Qs(hs:SlR (CE Bn) 3 w a L)(hl:L.length<=140737488355328)(p:Rg->Bool)(hok:Vy Tryz.prog g=true)
 (hf:∀(w':World) (r:Rg),r∈L->Below w.heap.size w w'->Calls Tryz.prog g (ff++#[.agg #[.int .i64 r.sn,.int .i64 r.f,.int .i64 r.t]]++fc) w' fun e w''=>e=.returned (.bool (p r))/\Below w'.heap.size w' w''):
 Calls Tryz.prog Ci #[(.slice a L.length c),.func (.func g) ff fc] w fun e w'=>e=.returned (.bool (L.any p))/\Below w.heap.size w w':=by
 apply Hs;refine(Aqu hs hl p hok hf).mono ?_;rintro _ w1 ⟨rfl,hb1⟩;refine⟨_,rfl,?_⟩;refine Aw ?_;exact⟨by rw[Yz],hb1⟩
end
section
variable{L:List Pa}{a:Option Addr}{c g:Nat}{ff fc:Array Value}{w:World}
theorem Apy(hs:PaR w a L)(hl:L.length<=140737488355328)(p:Pa->Bool)(hok:Vy Tryz.prog g=true)
 (hf:∀(w':World) (x:Pa) (a1:Option Addr) (c1:Nat) (a2:Option Addr) (c2:Nat),x∈L->Below w.heap.size w w'->Calls Tryz.prog g (ff++#[Va x a1 c1 a2 c2]++fc) w' fun e w''=>e=.returned (.bool (p x))/\Below w'.heap.size w' w''):
 Calls Tryz.prog De #[(.slice a L.length c),.func (.func g) ff fc] w fun e w'=>e=.returned (.int .i64 (idx p L))/\Below w.heap.size w w':=by
 apply Hn;have H:=St.nil w;refine⟨fun x=>((L.length-x).toNat,fun w1=>∃k:Nat,x=k/\k<=L.length/\(∀j (hj:j<L.length),j<k->p L[j]=false)/\Cg w w1 []),⟨0,rfl,by omega,fun j _ h=>by omega,H⟩,?_⟩;clear H;rintro _ x w1 ⟨k,rfl,hk,hno,H1⟩;apply Aa<;>intro c1
 ·have hlt:k<L.length:=by omega
  refine Uu (Cw hs H1.below) k rfl hlt fun b hb=>?_;obtain⟨a1,c1,a2,c2,hb,_,_⟩:=hb;refine⟨_,_,_,_,_,_,_,_,_,hb,?_⟩;refine⟨hok,?_⟩;refine(hf w1 _ a1 c1 a2 c2 (aJ hlt) H1.below).mono ?_;rintro _ w2 ⟨rfl,hb2⟩;have H2:=H1.pass hb2;clear H1;refine⟨_,rfl,?_⟩;apply Al<;>intro c
  ·exact⟨by rw[Acg hlt hno c],H2.below⟩
  ·refine Ao (by omega) ?_;exact⟨⟨k+1,by omega,by omega,fun j hj h=>by
    rcases aT j k with h'|h'
    ·exact hno j hj h'
    ·obtain rfl:j=k:=by omega
     exact c,H2⟩,by dsimp only;omega⟩
 ·obtain rfl:k=L.length:=by omega
  exact⟨by rw[Agi fun j hj=>hno j hj hj],H1.below⟩
end
section
variable{L:List Int}{a:Option Addr}{c g:Nat}{ff fc:Array Value}{w:World}
theorem Aqf(hs:SlR (Bp .u8) 1 w a L)(hl:L.length<=140737488355328)(p:Int->Bool)(hok:Vy Tryz.prog g=true)
 (hf:∀(w':World) (x:Int),x∈L->Below w.heap.size w w'->Calls Tryz.prog g (ff++#[.int .u8 x]++fc) w' fun e w''=>e=.returned (.bool (p x))/\Below w'.heap.size w' w''):
 Calls Tryz.prog Fl #[(.slice a L.length c),.func (.func g) ff fc] w fun e w'=>e=.returned (.int .i64 (idx p L))/\Below w.heap.size w w':=by
 apply Pt;have H:=St.nil w;refine⟨fun x=>((L.length-x).toNat,fun w1=>∃k:Nat,x=k/\k<=L.length/\(∀j (hj:j<L.length),j<k->p L[j]=false)/\Cg w w1 []),⟨0,rfl,by omega,fun j _ h=>by omega,H⟩,?_⟩;clear H;rintro _ x w1 ⟨k,rfl,hk,hno,H1⟩;apply Aa<;>intro c1
 ·have hlt:k<L.length:=by omega
  refine Aod (hs.below H1.below) k rfl hlt fun b hb=>?_;refine hb _ ?_;rw[Sv hlt];refine⟨hok,?_⟩;refine(hf w1 _ (aJ hlt) H1.below).mono ?_;rintro _ w2 ⟨rfl,hb2⟩;have H2:=H1.pass hb2;clear H1;refine⟨_,rfl,?_⟩;apply Al<;>intro c
  ·exact⟨by rw[Acg hlt hno c],H2.below⟩
  ·refine Ao (by omega) ?_;exact⟨⟨k+1,by omega,by omega,fun j hj h=>by
    rcases aT j k with h'|h'
    ·exact hno j hj h'
    ·obtain rfl:j=k:=by omega
     exact c,H2⟩,by dsimp only;omega⟩
 ·obtain rfl:k=L.length:=by omega
  exact⟨by rw[Agi fun j hj=>hno j hj hj],H1.below⟩
theorem Akl(hs:SlR (Bp .u8) 1 w a L)(hl:L.length<=140737488355328)(p:Int->Bool)(hok:Vy Tryz.prog g=true)
 (hf:∀(w':World) (x:Int),x∈L->Below w.heap.size w w'->Calls Tryz.prog g (ff++#[.int .u8 x]++fc) w' fun e w''=>e=.returned (.bool (p x))/\Below w'.heap.size w' w''):
 Calls Tryz.prog El #[(.slice a L.length c),.func (.func g) ff fc] w fun e w'=>e=.returned (.bool (L.any p))/\Below w.heap.size w w':=by
 apply Mp;have H:=St.nil w;refine(Aqf hs hl p hok hf).mono ?_;rintro _ w1 ⟨rfl,hb1⟩;have H1:=H.pass hb1;clear H;refine⟨_,rfl,?_⟩;refine Aw ?_;exact⟨by rw[Yz],H1.below⟩
end
theorem Aaz{r:Rg}{x:Pa}{a a2:Option Addr}{c c2 b0:Nat}{w:World}(hc:cellsAt w ⟨b0,0,none⟩ 0 (Ix x a c a2 c2)):Calls Tryz.prog Kz #[(.agg #[.int .i64 r.sn,.int .i64 r.f,.int .i64 r.t]),(.pointer (some ⟨b0,0,none⟩))] w fun e w'=>e=.returned (.bool (!decide (r.sn=x.sn)))/\Below w.heap.size w w':=by
 apply Ya;have H:=St.nil w;refine H.alloc ?_;clear H;intro b w1 H1;refine H1.l 0 ?_;refine⟨_,lq (j:=0) (Av hc H1.below) rfl,?_⟩;refine Aw ?_;exact⟨rfl,H1.below⟩
theorem Aa1{c:Int}{w:World}:Calls Tryz.prog La #[(.int .u8 c)] w fun e w'=>e=.returned (.bool (!decide (c=0)))/\Below w.heap.size w w':=by
 apply Xd;have H:=St.nil w;refine Aw ?_;exact⟨rfl,H.below⟩
def Awu(p:Pc)(a:Option Addr)(c:Nat):List Value:=[.int .i64 p.sn,.int .i64 p.part,.int .i64 p.poll,.int .i64 p.off,.slice a p.data.length c,.int .i64 p.en,.bool (Agr p.part)]
abbrev Aw7(p:Pc)(a:Option Addr)(c:Nat):Value:=.agg #[.int .i64 p.sn,.int .i64 p.part,.int .i64 p.poll,.int .i64 p.off,.slice a p.data.length c,.int .i64 p.en,.bool (Agr p.part)]
abbrev An0(p:Pc)(a:Option Addr)(c:Nat):Value:=.agg #[.int .i64 p.sn,.int .i64 p.part,.int .i64 p.poll,.int .i64 p.off,.slice a p.data.length c]
section
variable{p:Pc}{pa:Option Addr}{pc:Nat}{x:Pa}{a a2:Option Addr}{c c2:Nat}{w:World}
theorem Ro(hu:SlR (CE Bn) 3 w a2 x.come)(hl:x.come.length<=140737488355328):Calls Tryz.prog Fq #[Aw7 p pa pc,Va x a c a2 c2] w fun e w'=>e=.returned (.bool (Ee x p))/\Below w.heap.size w w':=by
 apply Qc;have H:=St.nil w;refine H.alloc ?_;clear H;intro b w1 H1;refine H1.alloc ?_;clear H1;intro b1 w2 H2;refine H2.l 1 ?_;refine Aw ?_;refine H2.B 0 ?_;apply Al<;>intro c3
 ·refine H2.drew ?_;clear H2;intro w3 H3;refine⟨(· <w3.heap.size),?_⟩;apply An<;>intro c1
  ·refine H3.l 1 ?_;refine H3.l 0 ?_;apply An<;>intro c
   ·exact⟨by rw[Ee,aF c3];exact Apv (.inl ⟨c1,c⟩),H3.below⟩
   ·refine H3.m 1 ?_;refine⟨H3.lt (i:=0) rfl rfl,?_⟩;refine H3.l 0 ?_;refine(Rv (hu.belowE H3.below) hl).mono ?_;rintro _ w4 ⟨rfl,hb4⟩;have H4:=H3.pass hb4;refine⟨_,rfl,?_⟩;refine⟨hb4.keeps,?_⟩;refine Aw ?_;exact⟨by rw[Ee,aF c3];exact Nq ⟨fun h=>.inr h,fun h=>h.elim (fun h=>absurd c h.2) id⟩,H4.below⟩
  ·refine H3.m 1 ?_;refine⟨H3.lt (i:=0) rfl rfl,?_⟩;refine H3.l 0 ?_;refine(Rv (hu.belowE H3.below) hl).mono ?_;rintro _ w5 ⟨rfl,hb5⟩;have H5:=H3.pass hb5;refine⟨_,rfl,?_⟩;refine⟨hb5.keeps,?_⟩;refine Aw ?_;exact⟨by rw[Ee,aF c3];exact Nq ⟨fun h=>.inr h,fun h=>h.elim (fun h=>absurd c1 h.1) id⟩,H5.below⟩
 ·refine Aw ?_;apply An<;>intro c2
  ·refine H2.l 0 ?_;refine H2.l 1 ?_;refine Aw ?_;exact⟨by rw[Ee,aE (by rw[c3];decide)];exact Nq ⟨fun h=>⟨c2,h⟩,fun h=>h.2⟩,H2.below⟩
  ·exact⟨by rw[Ee,aE (by rw[c3];decide)];exact Hd (fun h=>h.1 c2),H2.below⟩
theorem Us{r:Rg}{b0:Nat}(hc:cellsAt w ⟨b0,0,none⟩ 0 (Awu p pa pc)):Calls Tryz.prog Hp #[(.agg #[.int .i64 r.sn,.int .i64 r.f,.int .i64 r.t]),(.pointer (some ⟨b0,0,none⟩))] w fun e w'=>e=.returned (.bool (decide (r.f<=p.off/\p.en<=r.t)))/\Below w.heap.size w w':=by
 apply Sw;have H:=St.nil w;refine H.alloc ?_;clear H;intro b w1 H1;refine H1.l 0 ?_;refine⟨_,lq (j:=3) (Av hc H1.below) rfl,?_⟩;apply Aa<;>intro c
 ·refine H1.l 0 ?_;refine⟨_,lq (j:=5) (Av hc H1.below) rfl,?_⟩;refine Aw ?_;exact⟨Nq ⟨fun h=>⟨c,h⟩,fun h=>h.2⟩,H1.below⟩
 ·exact⟨Hd (fun h=>c h.1),H1.below⟩
theorem Xe(hu:SlR (CE Bn) 3 w a2 x.come)(hl:x.come.length<=140737488355328):Calls Tryz.prog Iy #[Aw7 p pa pc,Va x a c a2 c2] w fun e w'=>e=.returned (.bool (Aly x p))/\Below w.heap.size w w':=by
 apply Uv;have H:=St.nil w;refine H.alloc ?_;clear H;intro b w1 H1;refine H1.alloc ?_;clear H1;intro b1 w2 H2;refine H2.m 1 ?_;refine(Qs (ff:=#[]) (hu.belowE H2.below) hl (fun r=>decide (r.f<=p.off/\p.en<=r.t)) (by kernel_rfl) fun w' r hr hw'=>?_).mono ?_
 ·exact Us (p:=p) (pa:=pa) (pc:=pc) (Av (H2.cells (i:=0) rfl) hw')
 rintro _ w3 ⟨rfl,hb3⟩;have H3:=H2.pass hb3;clear H2;refine⟨_,rfl,?_⟩;refine Al (fun c1=>?_) (fun c1=>⟨by rw[Aly,c1];rfl,H3.below⟩)
 ·refine H3.B 0 ?_;apply Bq<;>intro c
  ·exact⟨by rw[Aly,c1,c];rfl,H3.below⟩
  ·refine H3.l 1 ?_;refine Aw ?_;exact⟨by rw[Aly,c1,c];rfl,H3.below⟩
end
section
variable{s:Rc}{a:Option Addr}{c:Nat}{s_b s_o:Nat}{p:Pc}{pa:Option Addr}{pc:Nat}{w:World}
def Aeg(s:Rc)(p:Pc)(o:Option Pa):Int:=
 if s.place p.sn>=2^(s.lk.bits-1).toNat then 11 else match o with
  |none=>0
  |some x=>if x.done then 12 else if Ee x p then 4 else if Aly x p then 12 else 0
theorem Az3(h:s.place p.sn>=2^(s.lk.bits-1).toNat)(o:Option Pa):Aeg s p o=11:=by unfold Aeg;rw[aF h]
theorem Ax4(h:¬s.place p.sn>=2^(s.lk.bits-1).toNat):Aeg s p none=0:=by unfold Aeg;rw[aE h]
theorem Axn(h:¬s.place p.sn>=2^(s.lk.bits-1).toNat)(x:Pa):Aeg s p (some x)=if x.done then 12 else if Ee x p then 4 else if Aly x p then 12 else 0:=by unfold Aeg;rw[aE h]
theorem Yx{s:Rc}{p:Pc}:Ek s p=Aeg s p (if Ho s p.sn then s.parts[atP s p.sn]? else none):=by
 unfold Ek Aeg Ho;cases h:s.parts[atP s p.sn]? with
 |none=>simp
 |some x=>
  by_cases hx:x.sn=p.sn
  ·simp[hx]
  ·simp[hx]
theorem Wj{k:Nat}{found:Bool}(hc:cellsAt w ⟨s_b,s_o,none⟩ 0 (Bi s a c))(hu:PaR w a s.parts)(hb:Bv s.lk.bits)(hk:found=true->k<s.parts.length)(hl:∀x∈s.parts,x.come.length<=140737488355328):Calls Tryz.prog Ij #[(.pointer (some ⟨s_b,s_o,none⟩)),Aw7 p pa pc,(.int .i64 k),(.bool found)] w fun e w'=>e=.returned (.int .i64 (Aeg s p (if found then s.parts[k]? else none)))/\Below w.heap.size w w':=by
 apply Tu;have H:=St.nil w;have hp:=Oc hb;have hb':=hb;obtain⟨hb1,hb2⟩:=hb';refine H.alloc ?_;clear H;intro b w1 H1;refine H1.drew ?_;clear H1;intro w2 H2;refine⟨(· <w2.heap.size),?_⟩;refine H2.l 0 ?_;refine⟨Tr (Av hc H2.below),?_⟩;refine⟨_,lq (j:=0) (Av hc H2.below) rfl,?_⟩;refine Ao (by omega) ?_;refine⟨by omega,?_⟩;refine Kv (by omega) ?_;refine(Bh (Av hc H2.below) hb).mono ?_;rintro _ w3 ⟨rfl,hb3⟩;have H3:=H2.pass hb3;refine⟨_,rfl,?_⟩;refine⟨hb3.keeps,?_⟩;refine Aw ?_;apply Aa<;>intro c4
 ·exact⟨by rw[Az3 c4],H3.below⟩
 ·refine Bq (fun c3=>⟨by rw[c3,aE (by decide),Ax4 c4],H3.below⟩) (fun c3=>?_);have hlt:=hk c3;have hm:=aJ hlt;obtain⟨y,hy⟩:∃y,y=s.parts[k]:=⟨_,rfl⟩;have e:Aeg s p (if found then s.parts[k]? else none)=if y.done then 12 else if Ee y p then 4 else if Aly y p then 12 else 0:=by
   rw[c3,aF rfl,List.getElem?_eq_getElem hlt,<-hy,Axn c4]
  rw[e];rw[<-hy]at hm
  ·refine⟨_,_,_,lq (j:=13) (Av hc H3.below) rfl,?_⟩;refine Uu (Cw hu H3.below) k rfl hlt fun b1 hb1=>?_;rw[<-hy]at hb1;obtain⟨a1,c1,a2,c2,hb1,_,_,_⟩:=hb1;refine⟨_,by have:=Bc hb1 1 _ rfl;rwa[aN]at this,?_⟩;apply Al<;>intro c2
   ·exact⟨by rw[aF c2],H3.below⟩
   ·refine H3.drew ?_;clear H3;intro w4 H4;refine⟨(· <w4.heap.size),?_⟩;refine⟨_,_,_,_,_,_,_,_,_,H4.cells (i:=0) rfl,?_⟩;refine⟨_,_,_,lq (j:=13) (Av hc H4.below) rfl,?_⟩;refine Uu (Cw hu H4.below) k rfl hlt fun b2 hb2=>?_;rw[<-hy]at hb2;obtain⟨a3,c3',a4,c4',hb2,_,hr2,_⟩:=hb2;refine⟨_,_,_,_,_,_,_,_,_,hb2,?_⟩;refine(Ro hr2 (hl y hm)).mono ?_;rintro _ w5 ⟨rfl,hb5⟩;have H5:=H4.pass hb5;refine⟨_,rfl,?_⟩;refine⟨hb5.keeps,?_⟩;apply Al<;>intro c1
    ·exact⟨by rw[aE (by rw[c2];decide),aF c1],H5.below⟩
    ·refine H5.drew ?_;clear H5;intro w6 H6;refine⟨(· <w6.heap.size),?_⟩;refine⟨_,_,_,_,_,_,_,_,_,H6.cells (i:=0) rfl,?_⟩;refine⟨_,_,_,lq (j:=13) (Av hc H6.below) rfl,?_⟩;refine Uu (Cw hu H6.below) k rfl hlt fun b3 hb3=>?_;rw[<-hy]at hb3;obtain⟨a5,c5,a6,c6,hb3,_,hr3,_⟩:=hb3;refine⟨_,_,_,_,_,_,_,_,_,hb3,?_⟩;refine(Xe hr3 (hl y hm)).mono ?_;rintro _ w7 ⟨rfl,hb7⟩;have H7:=H6.pass hb7;refine⟨_,rfl,?_⟩;refine⟨hb7.keeps,?_⟩;apply Al<;>intro c
     ·exact⟨by rw[aE (by rw[c2];decide),aE (by rw[c1];decide),aF c],H7.below⟩
     ·exact⟨by rw[aE (by rw[c2];decide),aE (by rw[c1];decide),aE (by rw[c];decide)],H7.below⟩
end
section
variable{A:Nat->Prop}{P:World->Prop}{s:Rc}{a:Option Addr}{c g:Nat}{p:Pc}{pa:Option Addr}{pc:Nat}{w:World}
abbrev Gj(g:Nat)(s:Rc)(a:Option Addr)(c:Nat):Res:=.blk g Cd (Bi s a c)
theorem Aax(hP:Held A w P)(hB:(Gj g s a c).ok w)(hn:∀b,(Gj g s a c).at=some b->¬A b):Calls Tryz.prog Fi #[(.pointer (some ⟨g,0,none⟩)),An0 p pa pc] w fun e w'=>e=.returned (.tuple #[])/\St A [g] w w' [Gj g (pollR s p) a c] P:=by
 apply Xv;have H:St A [g] w w [Gj g s a c] P:=St.startM hP hB hn;refine H.alloc ?_;clear H;intro b w1 H1;refine H1.l 1 ?_;apply Aa<;>intro c
 ·refine H1.l 0 ?_;refine H1.set (i:=0) rfl (by simp[Bi]) ?_;clear H1;intro w2 H2;refine H2.set (i:=0) rfl (by simp[Bi]) ?_;clear H2;intro w3 H3;refine⟨rfl,?_⟩;rw[pollR,aF c];exact H3.sub (fun i=>i) (fun i r h=>by
   cases i with
   |zero=>exact h
   |succ i=>simp at h) (fun i j _ _ h=>h)
 ·refine⟨rfl,?_⟩;rw[pollR,aE c];exact St.dropLast (R:=[_]) H1
theorem Yp(hb:Bv s.lk.bits)(hP:Held A w P)(hB:(Gj g s a c).ok w)(hn:∀b,(Gj g s a c).at=some b->¬A b):Calls Tryz.prog Dw #[(.pointer (some ⟨g,0,none⟩))] w fun e w'=>e=.returned (.tuple #[])/\St A [g] w w' [Gj g (startR s) a c] P:=by
 apply Wq;have H:St A [g] w w [Gj g s a c] P:=St.startM hP hB hn;obtain⟨t,ht⟩:∃t:Rc,t=if s.mark≠ -1/\(s.place s.mark=0\/s.place s.mark>s.place s.next) then { s with mark:=-1,left:=0 } else s:=⟨_,rfl⟩
 have e0:startR s=if t.mark=-1/\t.first≠t.next then { t with mark:=t.next,left:=t.lk.wait } else t:=by rw[ht];rfl
 refine⟨fun w8=>St A [g] w w8 [Gj g t a c] P,?_,?_⟩
 ·rintro _ w8 H8;refine⟨fun x8 w10=>St A [g] w w10 [Gj g t a c] P/\(x8=true↔t.mark=-1/\t.first≠t.next),?_,?_⟩
  ·rintro _ x8 w10 ⟨H10,hj⟩;apply Al<;>intro c4
   ·refine H10.drew ?_;clear H10;intro w11 H11;refine⟨fun x=>x<w11.heap.size/\x∉[g],?_⟩;have f11:=Fr.refl [g] w11;refine H11.l 0 ?_;refine H11.l 0 ?_;refine H11.setF (i:=0) rfl (by simp[Bi]) ?_;intro w12 g12 H12;have f12:=f11.tr g12 (by simp);refine⟨f12.keeps,?_⟩;refine H12.set (i:=0) rfl (by simp[Bi]) ?_;intro w13 H13;refine⟨rfl,?_⟩;rw[e0,aF (hj.1 c4)];exact H13
   ·refine⟨rfl,?_⟩;rw[e0,aE (fun h=>by rw[hj.2 h]at c4;cases c4)];exact H10
  ·refine H8.drew ?_;clear H8;intro w9 H9;refine H9.l 0 ?_;apply Aa<;>intro c3
   ·refine H9.l 0 ?_;refine H9.l 0 ?_;exact⟨H9,by simp only[bP,cC];exact⟨fun h=>⟨c3,h⟩,fun h=>h.2⟩⟩
   ·exact⟨H9,bA (by decide) fun h=>c3 h.1⟩
 ·refine⟨fun x4 w5=>St A [g] w w5 [Gj g s a c] P/\(x4=true↔s.mark≠ -1/\(s.place s.mark=0\/s.place s.mark>s.place s.next)),?_,?_⟩
  ·rintro _ x4 w5 ⟨H5,hj⟩;apply Al<;>intro c2
   ·refine H5.set (i:=0) rfl (by simp[Bi]) ?_;clear H5;intro w6 H6;refine H6.set (i:=0) rfl (by simp[Bi]) ?_;clear H6;intro w7 H7;rw[ht,aF (hj.1 c2)];exact H7
   ·rw[ht,aE (fun h=>by rw[hj.2 h]at c2;cases c2)];exact H5
  ·refine H.drew ?_;clear H;intro w1 H1;refine⟨(· <w1.heap.size),?_⟩;refine H1.l 0 ?_;apply An<;>intro c1
   ·refine H1.l 0 ?_;refine(Bh (H1.cells (i:=0) rfl) hb).mono ?_;rintro _ w2 ⟨rfl,hb2⟩;have H2:=H1.pass hb2;refine⟨_,rfl,?_⟩;refine⟨hb2.keeps,?_⟩;apply Aa<;>intro c
    ·exact⟨H2,cP rfl ⟨c1,.inl c⟩⟩
    ·refine⟨H1.lt (i:=0) rfl rfl,?_⟩;refine H1.l 0 ?_;refine⟨H1.lt (i:=0) rfl rfl,?_⟩;refine H1.l 0 ?_;refine(Bh (H2.cells (i:=0) rfl) hb).mono ?_;rintro _ w3 ⟨rfl,hb3⟩;have H3:=H2.pass hb3;refine⟨_,rfl,?_⟩;replace hb3:=Ax hb2 (aG _) hb3;refine⟨hb3.keeps,?_⟩;refine(Bh (H3.cells (i:=0) rfl) hb).mono ?_;rintro _ w4 ⟨rfl,hb4⟩;have H4:=H3.pass hb4;refine⟨_,rfl,?_⟩;replace hb4:=Ax hb3 (aG _) hb4;refine⟨hb4.keeps,?_⟩;exact⟨H4,by rw[aV];exact⟨fun h=>⟨c1,.inr h⟩,fun h=>h.2.elim (fun h'=>absurd h' c) id⟩⟩
   ·exact⟨H1,bA (by decide) fun h=>h.1 c1⟩
end
section
variable{l:Lk}{w:World}
def Bcw(w:World)(x:Rc×Int)(e:Ending)(w':World):Prop:=e=.returned (.tuple #[Fw x.1 none 0,.int .i64 x.2])/\x.1.parts=[]/\Below w.heap.size w w'
theorem Alm:Calls Tryz.prog Ug #[(.agg #[.int .i64 l.bits,.int .i64 l.every,.int .i64 l.poll,.int .i64 l.wait,.int .i64 l.quiet,.int .i64 l.tries])] w (Bcw w (Akx l)):=by
 apply Ais;have H:=St.nil w;refine H.alloc ?_;clear H;intro b w1 H1;refine H1.alloc ?_;clear H1;intro b1 w2 H2;refine⟨_,_,_,_,_,_,H2.cells (i:=0) rfl,?_⟩;refine sender_ValidLink_ct.mono ?_;rintro _ w3 ⟨rfl,hb3⟩;have H3:=H2.pass hb3;clear H2;refine⟨_,rfl,?_⟩;apply An<;>intro c
 ·refine H3.s 1 ?_;clear H3;intro w4 H4;refine⟨_,_,_,_,_,_,_,_,_,_,_,_,_,_,_,_,H4.cells (i:=1) rfl,?_⟩;rw[Akx,aE c];exact⟨rfl,rfl,H4.below⟩
 ·refine⟨_,_,_,_,_,_,H3.cells (i:=0) rfl,?_⟩;refine H3.s 1 ?_;clear H3;intro w5 H5;refine⟨_,_,_,_,_,_,_,_,_,_,_,_,_,_,_,_,H5.cells (i:=1) rfl,?_⟩;rw[Akx,aF c];exact⟨rfl,rfl,H5.below⟩
theorem Ass:Calls Tryz.prog Adb #[(.agg #[.int .i64 l.bits,.int .i64 l.every,.int .i64 l.poll,.int .i64 l.wait,.int .i64 l.quiet,.int .i64 l.tries])] w (Bcw w (Akx l)):=by
 apply Anp;have H:=St.nil w;refine H.alloc ?_;clear H;intro b w1 H1;refine H1.alloc ?_;clear H1;intro b1 w2 H2;refine⟨_,_,_,_,_,_,H2.cells (i:=0) rfl,?_⟩;refine ref20_ValidLink_ct.mono ?_;rintro _ w3 ⟨rfl,hb3⟩;have H3:=H2.pass hb3;clear H2;refine⟨_,rfl,?_⟩;apply An<;>intro c
 ·refine H3.s 1 ?_;clear H3;intro w4 H4;refine⟨_,_,_,_,_,_,_,_,_,_,_,_,_,_,_,_,H4.cells (i:=1) rfl,?_⟩;rw[Akx,aE c];exact⟨rfl,rfl,H4.below⟩
 ·refine⟨_,_,_,_,_,_,H3.cells (i:=0) rfl,?_⟩;refine H3.s 1 ?_;clear H3;intro w5 H5;refine⟨_,_,_,_,_,_,_,_,_,_,_,_,_,_,_,_,H5.cells (i:=1) rfl,?_⟩;rw[Akx,aF c];exact⟨rfl,rfl,H5.below⟩
end
section
variable{x:Pa}{a a2:Option Addr}{c c2:Nat}{s:Rc}{n:Int}{p:Pc}{pa:Option Addr}{pc:Nat}{w:World}
theorem Ac8(hu:SlR (CE Bn) 3 w a2 x.come):Calls Tryz.prog Rf #[Va x a c a2 c2] w fun e w'=>e=.returned (.bool (Lx x))/\Below w.heap.size w w':=by
 apply Ajw;have H:=St.nil w;refine H.alloc ?_;clear H;intro b w1 H1;refine H1.drew ?_;clear H1;intro w2 H2;refine H2.l 0 ?_;apply Aa<;>intro c2
 ·refine H2.m 0 ?_;apply Aa<;>intro c1
  ·refine H2.m 0 ?_;have hlt:0<x.come.length:=by omega
   refine ixE (hu.belowE H2.below) 0 rfl hlt fun b1 r hr hb1=>?_;obtain rfl:x.come[0]=r:=by rw[List.getElem?_eq_getElem hlt]at hr;injection hr
   refine⟨_,by have:=Bc hb1 1 _ rfl;rwa[aN]at this,?_⟩;apply Aa<;>intro c
   ·refine H2.m 0 ?_;refine ixE (hu.belowE H2.below) 0 rfl hlt fun b2 r hr hb2=>?_;obtain rfl:x.come[0]=r:=by rw[List.getElem?_eq_getElem hlt]at hr;injection hr
    refine⟨_,by have:=Bc hb2 2 _ rfl;rwa[aN]at this,?_⟩;refine H2.l 0 ?_;refine Aw ?_;have h1:x.come=[x.come[0]]:=by
     apply cX (by simp;omega);intro i h1 h2;obtain rfl:i=0:=by omega
     rfl
    refine⟨?_,H2.below⟩;have e:Lx x=decide (x.come[0].t=x.len):=by
     rw[Bool.eq_iff_iff,Akh,aV];constructor
     ·rintro⟨_,r,h2,_,h3⟩;have:x.come[0]=r:=by simp[h2]
      rw[this];exact h3
     ·intro h;exact⟨c2,_,h1,by omega,h⟩
    rw[e]
   ·refine⟨?_,H2.below⟩;rw[Adk];rintro⟨_,r,h2,h3,_⟩;have:x.come[0]=r:=by simp[h2]
    rw[this]at c;omega
  ·refine⟨?_,H2.below⟩;rw[Adk];rintro⟨_,r,h2,_⟩;rw[h2]at c1;exact c1 rfl
 ·refine⟨?_,H2.below⟩;rw[Adk];rintro⟨h,_⟩;omega
theorem Amk(hb:Bv s.lk.bits):Calls Tryz.prog Dl #[(.int .i64 s.lk.bits),(.int .i64 s.first),(.int .i64 n)] w fun e w'=>e=.returned (.int .i64 (s.place n))/\Below w.heap.size w w':=by
 apply Xs;have H:=St.nil w;refine ref02_Distance_ct.mono ?_;rintro _ w1 ⟨rfl,hb1⟩;have H1:=H.pass hb1;clear H;refine⟨_,rfl,?_⟩;obtain⟨hb1,hb3⟩:=hb;exact⟨by rw[aF (by omega)];rfl,H1.below⟩
theorem Bw(hb:Bv s.lk.bits):Calls Tryz.prog Bx #[Fw s a c,(.int .i64 n)] w fun e w'=>e=.returned (.int .i64 (s.place n))/\Below w.heap.size w w':=by
 apply Aje;have H:=St.nil w;refine H.alloc ?_;clear H;intro b w1 H1;refine H1.l 0 ?_;refine H1.l 0 ?_;refine(Amk hb).mono ?_;rintro _ w2 ⟨rfl,hb2⟩;have H2:=H1.pass hb2;clear H1;refine⟨_,rfl,?_⟩;exact⟨rfl,H2.below⟩
theorem ref21_ends_ct:Calls Tryz.prog Oz #[An0 p pa pc] w fun e w'=>e=.returned (.bool (Agr p.part))/\Below w.heap.size w w':=by
 apply Alt;have H:=St.nil w;refine H.alloc ?_;clear H;intro b w1 H1;refine H1.l 0 ?_;apply Aa<;>intro c
 ·exact⟨Apv (.inl c),H1.below⟩
 ·refine H1.l 0 ?_;refine Aw ?_;exact⟨Nq ⟨fun h=>.inr h,fun h=>h.elim (fun h'=>absurd h' c) id⟩,H1.below⟩
theorem Abm(he:(x.data.length:Int)=endT x.come)(hd:x.data.length<=100000)(hp:0<=p.off/\p.off<=100000/\p.data.length<=100000):Calls Tryz.prog Mh #[Va x a c a2 c2,An0 p pa pc] w fun e w'=>e=.returned (.bool (Ee x p))/\Below w.heap.size w w':=by
 apply Yk;have H:=St.nil w;refine H.alloc ?_;clear H;intro b w1 H1;refine H1.alloc ?_;clear H1;intro b1 w2 H2;refine H2.l 1 ?_;refine H2.m 1 ?_;refine Ao (by omega) ?_;refine⟨_,_,_,_,_,_,_,H2.cells (i:=1) rfl,?_⟩;refine ref21_ends_ct.mono ?_;rintro _ w3 ⟨rfl,hb3⟩;have H3:=H2.pass hb3;clear H2;refine⟨_,rfl,?_⟩;apply Al<;>intro c3
 ·refine H3.l 0 ?_;apply An<;>intro c1
  ·refine H3.l 0 ?_;apply An<;>intro c
   ·exact⟨by rw[Ee,aF c3];exact Apv (.inl ⟨c1,c⟩),H3.below⟩
   ·refine H3.m 0 ?_;refine Aw ?_;exact⟨by rw[Ee,aF c3,he];exact Nq ⟨fun h=>.inr h,fun h=>h.elim (fun h=>absurd c h.2) id⟩,H3.below⟩
  ·refine H3.m 0 ?_;refine Aw ?_;exact⟨by rw[Ee,aF c3,he];exact Nq ⟨fun h=>.inr h,fun h=>h.elim (fun h=>absurd c1 h.1) id⟩,H3.below⟩
 ·refine H3.l 0 ?_;apply An<;>intro c2
  ·refine H3.l 0 ?_;refine Aw ?_;exact⟨by rw[Ee,aE (by rw[c3];decide)];exact Nq ⟨fun h=>⟨c2,h⟩,fun h=>h.2⟩,H3.below⟩
  ·exact⟨by rw[Ee,aE (by rw[c3];decide)];exact Hd (fun h=>h.1 c2),H3.below⟩
theorem Asr(hu:SlR (CE Bn) 3 w a2 x.come)(hl:x.come.length<=100000)(hp:0<=p.off/\p.off<=100000/\p.data.length<=100000):Calls Tryz.prog Adc #[Va x a c a2 c2,An0 p pa pc] w fun e w'=>e=.returned (.bool (Aly x p))/\Below w.heap.size w w':=by
 apply Api;have H:=St.nil w;refine H.alloc ?_;clear H;intro b w1 H1;refine H1.alloc ?_;clear H1;intro b1 w2 H2;have hex:∀k (hk:k<x.come.length),x.come[k].f<=p.off->p.en<=x.come[k].t->Aly x p=(!Agr p.part|| !decide (x.len=-1)):=fun k hk h1 h2=>by
  have:x.come.any (fun r=>decide (r.f<=p.off/\p.en<=r.t))=true:=dF.2 ⟨_,aJ hk,aM ⟨h1,h2⟩⟩;rw[Aly,this,bH]
 refine⟨fun i=>((x.come.length-i).toNat,fun w3=>∃k:Nat,i=k/\k<=x.come.length/\(∀j (hj:j<x.come.length),j<k->¬(x.come[j].f<=p.off/\p.en<=x.come[j].t))/\St (fun _=>False) [] w w3 [.blk b Ac (Ix x a c a2 c2),.blk b1 Ap [.int .i64 p.sn,.int .i64 p.part,.int .i64 p.poll,.int .i64 p.off,.slice pa p.data.length pc]] (fun _=>True)),⟨0,rfl,by omega,fun j _ h=>by omega,H2⟩,?_⟩;clear H2;rintro _ i w3 ⟨k,rfl,hk,hno,H3⟩;refine H3.m 0 ?_;apply Aa<;>intro c3
 ·have hlt:k<x.come.length:=by omega
  have next:∀ {w':World},¬(x.come[k].f<=p.off/\p.en<=x.come[k].t)->∀j (hj:j<x.come.length),j<k+1->¬(x.come[j].f<=p.off/\p.en<=x.come[j].t):=fun {_} hn j hj h=>by
   rcases aT j k with h'|h'
   ·exact hno j hj h'
   ·obtain rfl:j=k:=by omega
    exact hn
  refine H3.drew ?_;clear H3;intro w4 H4;refine H4.m 0 ?_;refine ixE (hu.belowE H4.below) k rfl hlt fun b2 r hr hb2=>?_;obtain rfl:x.come[k]=r:=by rw[List.getElem?_eq_getElem hlt]at hr;injection hr
  refine⟨_,by have:=Bc hb2 1 _ rfl;rwa[aN]at this,?_⟩;refine H4.l 1 ?_;apply Aa<;>intro c2
  ·refine H4.m 0 ?_;refine ixE (hu.belowE H4.below) k rfl hlt fun b3 r hr hb3=>?_;obtain rfl:x.come[k]=r:=by rw[List.getElem?_eq_getElem hlt]at hr;injection hr
   refine⟨_,by have:=Bc hb3 2 _ rfl;rwa[aN]at this,?_⟩;refine H4.l 1 ?_;refine H4.m 1 ?_;refine Ao (by omega) ?_;apply Aa<;>intro c1
   ·refine H4.l 0 ?_;apply An<;>intro c
    ·refine⟨?_,H4.below⟩;rw[hex k hlt c2 c1,aI c];simp
    ·refine⟨_,_,_,_,_,_,_,H4.cells (i:=1) rfl,?_⟩;refine ref21_ends_ct.mono ?_;rintro _ w5 ⟨rfl,hb5⟩;have H5:=H4.pass hb5;clear H4;refine⟨_,rfl,?_⟩;refine⟨?_,H5.below⟩;rw[hex k hlt c2 c1,aM c];simp
   ·refine Ao (by omega) ?_;exact⟨⟨k+1,by omega,by omega,next (w':=w) fun h=>c1 h.2,H4⟩,by dsimp only;omega⟩
  ·refine Ao (by omega) ?_;exact⟨⟨k+1,by omega,by omega,next (w':=w) fun h=>c2 h.1,H4⟩,by dsimp only;omega⟩
 ·refine⟨?_,H3.below⟩;have:x.come.any (fun r=>decide (r.f<=p.off/\p.en<=r.t))=false:=by
   rw[bW];intro r hr;obtain⟨j,hj,rfl⟩:=bF hr;simpa using hno j hj (by omega)
  rw[Aly,this];rfl
end
theorem Baw{l:List Int}:l.any (fun c=>!decide (c=0))= !l.all fun c=>decide (c=0):=by
 rw[List.all_eq_not_any_not,Bool.not_not]
theorem Ba6{x:Pa}(h:Ab6 x){k:Nat}(hk:k<(gapsS x.sn x.come 0 x.data.length).length):0<=(gapsS x.sn x.come 0 x.data.length)[k].f/\(gapsS x.sn x.come 0 x.data.length)[k].f<(gapsS x.sn x.come 0 x.data.length)[k].t/\(gapsS x.sn x.come 0 x.data.length)[k].t<=x.data.length:=by
 obtain⟨_,_,hn,_,he,hd,_⟩:=h;have h1:=(Mn (q:=0) hn).1;have h2:=Lo _ _ (Xy x.sn x.data.length x.come (-1) 0 (by simpa using hn) (by omega)) _ (aJ hk);have h3:=Aid x.sn x.data.length x.come 0 (fun y hy=>by have:=h1 y hy;have:=(Lo _ _ hn y hy).2;unfold endT at he;omega) _ (aJ hk);omega
theorem Azj{x:Pa}(hn:Cc (-1) x.come=true)(he:(x.data.length:Int)=endT x.come){k:Nat}(hk:k<(gapsS x.sn x.come 0 x.data.length).length):0<=(gapsS x.sn x.come 0 x.data.length)[k].f/\(gapsS x.sn x.come 0 x.data.length)[k].f<(gapsS x.sn x.come 0 x.data.length)[k].t/\(gapsS x.sn x.come 0 x.data.length)[k].t<=x.data.length:=by
 have h1:=(Mn (q:=0) hn).1;have h2:=Lo _ _ (Xy x.sn x.data.length x.come (-1) 0 (by simpa using hn) (by omega)) _ (aJ hk);have h3:=Aid x.sn x.data.length x.come 0 (fun y hy=>by have:=h1 y hy;have:=(Lo _ _ hn y hy).2;unfold endT at he;omega) _ (aJ hk);omega
theorem Akn(sn m:Int):∀(l:List Rg) (p:Int),(gapsS sn l p m).length<=l.length+1
 | [],p=>by unfold gapsS;split<;>simp
 |x::l,p=>by
  unfold gapsS;have:=Akn sn m l x.t;split<;>simp<;>omega
section
variable{x:Pa}{a a2:Option Addr}{c c2:Nat}{w:World}
theorem Ad7(hd:SlR (Bp .u8) 1 w a x.data)(hu:SlR (CE Bn) 3 w a2 x.come)(hcap:x.data.length<=c)(hl:x.come.length<=140737488355328)(hl2:x.data.length<=140737488355328):Calls Tryz.prog Ns #[Va x a c a2 c2] w fun e w'=>e=.returned (.bool (paB x))/\Below w.heap.size w w':=by
 apply Aa5;have H:=St.nil w;have e1:x.done=true->paB x=decide (x.len=0/\x.data=[]/\x.come=[]):=fun h=>by rw[paB,aF h]
 refine H.alloc ?_;clear H;intro b w1 H1;refine H1.B 0 ?_;apply Al<;>intro c14
 ·refine H1.l 0 ?_;apply Aa<;>intro c1
  ·refine H1.m 0 ?_;apply Aa<;>intro c
   ·refine H1.m 0 ?_;refine Aw ?_;exact⟨by rw[e1 c14];exact Nq ⟨fun h=>⟨c1,aK (by omega),aK (by omega)⟩,fun h=>by rw[h.2.2];rfl⟩,H1.below⟩
   ·exact⟨by rw[e1 c14];exact Hd (fun h=>c (by rw[h.2.1];rfl)),H1.below⟩
  ·exact⟨by rw[e1 c14];exact Hd (fun h=>c1 h.1),H1.below⟩
 ·have e2:paB x=(decide (Ab6 x)&&Ak9 x):=by rw[paB,aE (by rw[c14];decide)]
  refine⟨fun w2=>St (fun _=>False) [] w w2 [.blk b Ac (Ix x a c a2 c2)] (fun _=>True)/\(x.len=-1\/(1<=x.len/\x.len<=2054/\(x.data.length:Int)<=x.len)),?_,?_⟩
  ·rintro _ w2 ⟨H2,hj⟩;refine⟨fun x7 w8=>St (fun _=>False) [] w w8 [.blk b Ac (Ix x a c a2 c2)] (fun _=>True)/\(x7=false↔Ab6 x),?_,?_⟩
   ·rintro _ x7 w8 ⟨H8,hj⟩;apply Al<;>intro c13
    ·exact⟨by rw[e2,aI (fun h=>by rw[hj.2 h]at c13;cases c13)];rfl,H8.below⟩
    ·have hn:=hj.1 c13;have hlen:=Ad0 hn;have hgap:=Ams (sn:=x.sn) hn.2.2.1 (Int.le_of_eq hn.2.2.2.2.1.symm) (Int.natCast_nonneg _);have hgi:=fun k hk=>Ba6 (k:=k) hn hk;have hgl:=Akn x.sn x.data.length x.come 0;rw[aM hn,bH,Ak9]at e2;refine H8.m 0 ?_;refine H8.l 0 ?_;refine H8.m 0 ?_;have C:=Aai (l_c:=c2) (sn:=x.sn) (len:=x.data.length) (hu.belowE H8.below) (by omega);rw[hgap]at C;dsimp only at C;refine C.mono ?_;clear C;obtain⟨G,hG⟩:∃G,G=gapsS x.sn x.come 0 x.data.length:=⟨_,rfl⟩;rw[<-hG]at e2 hgi hgl ⊢;rintro _ w9 ⟨r_a,r_c,_,rfl,K⟩;have H9:=H8.callF K;clear H8;refine⟨_,_,_,_,rfl,?_⟩;refine⟨fun x9=>((G.length-x9).toNat,fun w10=>∃k:Nat,x9=k/\k<=G.length/\(∀j (hj:j<G.length),j<k->((x.data.drop G[j].f.toNat).take (G[j].t.toNat-G[j].f.toNat)).all (fun c=>decide (c=0))=true)/\St (fun _=>False) [] w w10 [.blk b Ac (Ix x a c a2 c2)] (fun w=>SlR (CE Bn) 3 w r_a G)),⟨0,rfl,by omega,fun j _ h=>by omega,H9.imp fun _ h=>h.1⟩,?_⟩;clear H9;rintro _ x9 w10 ⟨k,rfl,hk,hno,H10⟩;apply Aa<;>intro c12
     ·have hlt:k<G.length:=by omega
      refine ixE H10.get k rfl hlt fun b1 g hg hb1=>?_;obtain rfl:G[k]=g:=by rw[List.getElem?_eq_getElem hlt]at hg;injection hg
      obtain⟨h1,h2,h3⟩:=hgi k hlt;refine⟨_,_,_,hb1,?_⟩;refine H10.alloc ?_;clear H10;intro b2 w11 H11;refine H11.s 1 ?_;clear H11;intro w12 H12;refine H12.m 0 ?_;refine H12.l 1 ?_;refine H12.l 1 ?_;refine⟨⟨by omega,by omega⟩,?_⟩;refine⟨⟨by omega,by omega⟩,?_⟩;have hll:((x.data.drop G[k].f.toNat).take (G[k].t.toNat-G[k].f.toNat)).length=G[k].t.toNat-G[k].f.toNat:=by rw[aU,bJ];omega
      have C:=Akl (ff:=#[]) (fc:=#[]) (c:=c-G[k].f.toNat) (SlR.cut (hd.below H12.below) hcap (l:=G[k].f.toNat) (G[k].t.toNat-G[k].f.toNat)) (by rw[hll];omega) (fun c=>!decide (c=0)) (by kernel_rfl) fun w' x _ _=>Aa1;rw[hll]at C;refine C.mono ?_;clear C;rintro _ w13 ⟨rfl,hb13⟩;have H13:=H12.pass hb13;clear H12;refine⟨_,rfl,?_⟩;apply Al<;>intro c11<;>rw[Baw]at c11
      ·refine⟨?_,H13.below⟩;have e3:(G.all fun g=>((x.data.drop g.f.toNat).take (g.t.toNat-g.f.toNat)).all fun c=>decide (c=0))=false:=by
        rw[Bool.eq_false_iff];intro h;rw[bN.1 h _ (aJ hlt)]at c11;cases c11
       rw[e2,e3]
      ·refine Ao (by omega) ?_;exact⟨⟨k+1,by omega,by omega,fun j hj h=>by
        rcases aT j k with h'|h'
        ·exact hno j hj h'
        ·obtain rfl:j=k:=by omega
         simpa using c11,St.dropLast (R:=[_]) H13⟩,by dsimp only;omega⟩
     ·refine⟨?_,H10.below⟩;rw[e2,bN.2];intro g hg;obtain⟨j,hj,rfl⟩:=bF hg;exact hno j hj (by omega)
   ·refine H2.drew ?_;clear H2;intro w3 H3;refine⟨(· <w3.heap.size),?_⟩;refine H3.m 0 ?_;apply Aa<;>intro c10
    ·exact⟨H3,bA (by decide) fun h=>h.2.1 (aK (by omega))⟩
    ·refine H3.m 0 ?_;refine(Hb (hu.belowE H3.below) hl).mono ?_;rintro _ w4 ⟨rfl,hb4⟩;have H4:=H3.pass hb4;refine⟨_,rfl,?_⟩;refine⟨hb4.keeps,?_⟩;apply Bq<;>intro c9
     ·exact⟨H4,bA (by decide) fun h=>by rw[h.2.2.1]at c9;cases c9⟩
     ·refine⟨H3.lt (i:=0) rfl rfl,?_⟩;refine H3.m 0 ?_;refine(Qs (ff:=#[]) (hu.belowE H4.below) hl (fun r=>!decide (r.sn=x.sn)) (by kernel_rfl) fun w' r hr hw'=>?_).mono ?_
      ·exact Aaz (x:=x) (a:=a) (c:=c) (a2:=a2) (c2:=c2) (Av (H4.cells (i:=0) rfl) hw')
      rintro _ w5 ⟨rfl,hb5⟩;have H5:=H4.pass hb5;refine⟨_,rfl,?_⟩;replace hb5:=Ax hb4 (aG _) hb5;refine⟨hb5.keeps,?_⟩;apply Al<;>intro c8
      ·refine⟨H5,bA (by decide) fun h=>?_⟩;obtain⟨r,hr,h2⟩:=dF.1 c8;have:=h.2.2.2.1 r hr;simp[this]at h2
      ·have hsn:∀r∈x.come,r.sn=x.sn:=fun r hr=>by
        have:=bW.1 c8 r hr;simpa using this
       refine⟨H3.lt (i:=0) rfl rfl,?_⟩;refine H3.m 0 ?_;refine⟨H3.lt (i:=0) rfl rfl,?_⟩;refine H3.m 0 ?_;refine(Rv (hu.belowE H5.below) hl).mono ?_;rintro _ w6 ⟨rfl,hb6⟩;have H6:=H5.pass hb6;refine⟨_,rfl,?_⟩;replace hb6:=Ax hb5 (aG _) hb6;refine⟨hb6.keeps,?_⟩;apply An<;>intro c7
       ·exact⟨H6,bA (by decide) fun h=>c7 h.2.2.2.2.1⟩
       ·refine⟨H3.lt (i:=0) rfl rfl,?_⟩;refine H3.m 0 ?_;apply Aa<;>intro c6
        ·exact⟨H6,bA (by decide) fun h=>by have:=h.2.2.2.2.2.1;omega⟩
        ·refine⟨H3.lt (i:=0) rfl rfl,?_⟩;refine⟨_,_,_,_,_,_,_,_,_,H3.cells (i:=0) rfl,?_⟩;refine(Rp (hu.belowE H6.below)).mono ?_;rintro _ w7 ⟨rfl,hb7⟩;have H7:=H6.pass hb7;refine⟨_,rfl,?_⟩;replace hb7:=Ax hb6 (aG _) hb7;refine⟨hb7.keeps,?_⟩;exact⟨H7,⟨fun hc=>⟨hj,fun e=>c10 (by rw[e];rfl),c9,hsn,c7,by omega,hc⟩,fun h=>h.2.2.2.2.2.2⟩⟩
  ·refine H1.l 0 ?_;apply An<;>intro c5
   ·refine H1.l 0 ?_;apply Aa<;>intro c4
    ·exact⟨by rw[e2,aI (fun h=>by have:=h.1;omega)];rfl,H1.below⟩
    ·refine H1.l 0 ?_;apply Aa<;>intro c3
     ·exact⟨by rw[e2,aI (fun h=>by have:=h.1;omega)];rfl,H1.below⟩
     ·refine H1.m 0 ?_;refine H1.l 0 ?_;apply Aa<;>intro c2
      ·exact⟨by rw[e2,aI (fun h=>by have:=h.1;omega)];rfl,H1.below⟩
      ·exact⟨H1,.inr ⟨by omega,by omega,by omega⟩⟩
   ·exact⟨H1,.inl c5⟩
theorem Aiz(hd:SlR (Bp .u8) 1 w a x.data)(hu:SlR (CE Bn) 3 w a2 x.come)(hdn:x.done=false)(hl:x.come.length<=140737488355328)(hl2:x.data.length<=140737488355328):Calls Tryz.prog Nd #[Va x a c a2 c2] w fun e w'=>e=.returned (.bool (paB x))/\Below w.heap.size w w':=by
 apply Af8;have H:=St.nil w;refine H.alloc ?_;clear H;intro b w1 H1;have e2:paB x=(decide (Ab6 x)&&Ak9 x):=by rw[paB,aE (by rw[hdn];decide)]
 have e3:Ab6 x↔((x.len=-1\/(1<=x.len/\x.len<=2054/\(x.data.length:Int)<=x.len))/\x.come≠[]/\Cc (-1) x.come=true/\(x.data.length:Int)=endT x.come/\x.data.length<=2054)/\(∀r∈x.come,r.sn=x.sn)/\Lx x=false:=by
  unfold Ab6;constructor
  ·rintro⟨h1,h2,h3,h4,h5,h6,h7⟩;exact⟨⟨h1,h2,h3,h5,h6⟩,h4,h7⟩
  ·rintro⟨⟨h1,h2,h3,h5,h6⟩,h4,h7⟩;exact⟨h1,h2,h3,h4,h5,h6,h7⟩
 refine⟨fun x15 w5=>St (fun _=>False) [] w w5 [.blk b Ac (Ix x a c a2 c2)] (fun _=>True)/\(x15=false↔((x.len=-1\/(1<=x.len/\x.len<=2054/\(x.data.length:Int)<=x.len))/\x.come≠[]/\Cc (-1) x.come=true/\(x.data.length:Int)=endT x.come/\x.data.length<=2054)),?_,?_⟩
 ·rintro _ x15 w5 ⟨H5,hj⟩;apply Al<;>intro c18
  ·exact⟨by rw[e2,aI (fun h=>by rw[hj.2 (e3.1 h).1]at c18;cases c18)];rfl,H5.below⟩
  ·have hn:=hj.1 c18;obtain⟨hn1,hn2,hn3,hn4,hn5⟩:=hn;refine⟨fun i=>((x.come.length-i).toNat,fun w6=>∃k:Nat,i=k/\k<=x.come.length/\(∀j (hj:j<x.come.length),j<k->x.come[j].sn=x.sn)/\St (fun _=>False) [] w w6 [.blk b Ac (Ix x a c a2 c2)] (fun _=>True)),⟨0,rfl,by omega,fun j _ h=>by omega,H5⟩,?_⟩;clear H5;rintro _ i w6 ⟨k,rfl,hk,hno,H6⟩;refine H6.m 0 ?_;apply Aa<;>intro c17
   ·have hlt:k<x.come.length:=by omega
    refine H6.drew ?_;clear H6;intro w7 H7;refine H7.m 0 ?_;refine ixE (hu.belowE H7.below) k rfl hlt fun b5 r hr hb5=>?_;obtain rfl:x.come[k]=r:=by rw[List.getElem?_eq_getElem hlt]at hr;injection hr
    refine⟨_,by have:=Bc hb5 0 _ rfl;rwa[Ls]at this,?_⟩;refine H7.l 0 ?_;apply An<;>intro c13
    ·exact⟨by rw[e2,aI (fun h=>c13 ((e3.1 h).2.1 _ (aJ hlt)))];rfl,H7.below⟩
    ·refine Ao (by omega) ?_;exact⟨⟨k+1,by omega,by omega,fun j hj h=>by
      rcases aT j k with h'|h'
      ·exact hno j hj h'
      ·obtain rfl:j=k:=by omega
       exact c13,H7⟩,by dsimp only;omega⟩
   ·have hsn:∀r∈x.come,r.sn=x.sn:=fun r hr=>by
     obtain⟨j,hj,rfl⟩:=bF hr;exact hno j hj (by omega)
    have e4:paB x=(!Lx x&&Ak9 x):=by
     rw[e2];cases hc:Lx x with
     |true=>rw[aI (fun h=>by have:=(e3.1 h).2.2;rw[hc]at this;cases this)];rfl
     |false=>rw[aM (e3.2 ⟨⟨hn1,hn2,hn3,hn4,hn5⟩,hsn,hc⟩)];rfl
    have hlen:x.come.length<=2055:=by
     have h1:=(Mn (q:=0) hn3).1;rcases Adr (m:=2054) hn3 (fun r hr=>by have:=h1 r hr;unfold endT at hn4;omega)with h|h
     ·rw[h];simp
     ·omega
    have hgap:=Ams (sn:=x.sn) hn3 (Int.le_of_eq hn4.symm) (Int.natCast_nonneg _);have hgi:∀k (hk:k<(gapsS x.sn x.come 0 x.data.length).length),0<=(gapsS x.sn x.come 0 x.data.length)[k].f/\(gapsS x.sn x.come 0 x.data.length)[k].f<(gapsS x.sn x.come 0 x.data.length)[k].t/\(gapsS x.sn x.come 0 x.data.length)[k].t<=x.data.length:=fun k hk=>Azj hn3 hn4 hk;have hgl:=Akn x.sn x.data.length x.come 0;rw[Ak9]at e4;refine H6.m 0 ?_;refine H6.l 0 ?_;refine H6.m 0 ?_;have C:=Wm (l_c:=c2) (sn:=x.sn) (len:=x.data.length) (hu.belowE H6.below) (by omega);rw[hgap]at C;dsimp only at C;refine C.mono ?_;clear C;obtain⟨G,hG⟩:∃G,G=gapsS x.sn x.come 0 x.data.length:=⟨_,rfl⟩;rw[<-hG]at e4 hgi hgl ⊢;rintro _ w8 ⟨r_a,r_c,_,rfl,K⟩;have H8:=H6.callF K;clear H6;refine⟨_,_,_,_,rfl,?_⟩;refine⟨fun i1=>((G.length-i1).toNat,fun w9=>∃k:Nat,i1=k/\k<=G.length/\(∀j (hj:j<G.length),j<k->((x.data.drop G[j].f.toNat).take (G[j].t.toNat-G[j].f.toNat)).all (fun c=>decide (c=0))=true)/\St (fun _=>False) [] w w9 [.blk b Ac (Ix x a c a2 c2)] (fun w=>SlR (CE Bn) 3 w r_a G)),⟨0,rfl,by omega,fun j _ h=>by omega,H8.imp fun _ h=>h.1⟩,?_⟩;clear H8;rintro _ i1 w9 ⟨k,rfl,hk,hno,H9⟩;apply Aa<;>intro c16
    ·have hlt:k<G.length:=by omega
     refine ixE H9.get k rfl hlt fun b6 g hg hb6=>?_;obtain rfl:G[k]=g:=by rw[List.getElem?_eq_getElem hlt]at hg;injection hg
     obtain⟨h1,h2,h3⟩:=hgi k hlt;obtain⟨g,hgg⟩:∃g,g=G[k]:=⟨_,rfl⟩;rw[<-hgg]at h1 h2 h3 hb6;refine⟨_,by have:=Bc hb6 1 _ rfl;rwa[aN]at this,?_⟩;refine⟨fun q=>((g.t-q).toNat,fun w10=>∃m:Nat,q=m/\g.f<=m/\m<=g.t/\(∀j:Nat,g.f<=j->j<m->x.data.getD j 0=0)/\St (fun _=>False) [] w w10 [.blk b Ac (Ix x a c a2 c2)] (fun w=>SlR (CE Bn) 3 w r_a G)),⟨g.f.toNat,by omega,by omega,by omega,fun j _ h=>by omega,H9⟩,?_⟩;clear H9;rintro _ q w10 ⟨m,rfl,hm1,hm2,hz,H10⟩;refine ixE H10.get k rfl hlt fun b7 g' hg' hb7=>?_;obtain rfl:g=g':=by rw[List.getElem?_eq_getElem hlt]at hg';injection hg' with hg';rw[hgg,hg']
     refine⟨_,by have:=Bc hb7 2 _ rfl;rwa[aN]at this,?_⟩;apply Aa<;>intro c15
     ·have hmd:m<x.data.length:=by omega
      refine H10.m 0 ?_;refine Aod (hd.below H10.below) m rfl hmd fun b8 hb8=>?_;refine hb8 _ ?_;apply An<;>intro c14
      ·refine⟨?_,H10.below⟩;have e5:(G.all fun g=>((x.data.drop g.f.toNat).take (g.t.toNat-g.f.toNat)).all fun c=>decide (c=0))=false:=by
        rw[Bool.eq_false_iff];intro h;have h4:=bN.1 h _ (aJ hlt);rw[<-hgg]at h4;have h5:=bN.1 h4 (x.data[m]) (List.mem_take_iff_getElem.2 ⟨m-g.f.toNat,by rw[bJ];omega,by rw[cT];congr 1;omega⟩);rw[Sv hmd]at c14;exact c14 (by simpa using h5)
       rw[e4,e5,dY]
      ·refine Ao (by omega) ?_;exact⟨⟨m+1,by omega,by omega,by omega,fun j hj h=>by
        rcases aT j m with h'|h'
        ·exact hz j hj h'
        ·obtain rfl:j=m:=by omega
         exact c14,H10⟩,by dsimp only;omega⟩
     ·refine Ao (by omega) ?_;refine⟨⟨k+1,by omega,by omega,fun j hj h=>?_,H10⟩,by dsimp only;omega⟩;rcases aT j k with h'|h'
      ·exact hno j hj h'
      ·obtain rfl:j=k:=by omega
       rw[<-hgg,bN];intro y hy;obtain⟨i,hi,rfl⟩:=List.mem_take_iff_getElem.1 hy;rw[bJ]at hi;have h6:=hz (g.f.toNat+i) (by omega) (by omega);rw[Sv (by omega)]at h6;rw[cT];simpa using h6
    ·refine⟨_,_,_,_,_,_,_,_,_,H9.cells (i:=0) rfl,?_⟩;refine(Ac8 (hu.belowE H9.below)).mono ?_;rintro _ w11 ⟨rfl,hb11⟩;have H11:=H9.pass hb11;clear H9;refine⟨_,rfl,?_⟩;refine⟨?_,H11.below⟩;rw[e4,bN.2,eG];intro g hg;obtain⟨j,hj,rfl⟩:=bF hg;exact hno j hj (by omega)
 ·refine H1.drew ?_;clear H1;intro w2 H2;refine⟨(· <w2.heap.size),?_⟩;refine H2.l 0 ?_;apply An<;>intro c12
  ·refine H2.l 0 ?_;apply Aa<;>intro c6
   ·exact⟨H2,bA (by decide) fun h=>by have:=h.1;omega⟩
   ·refine H2.l 0 ?_;apply Aa<;>intro c5
    ·exact⟨H2,bA (by decide) fun h=>by have:=h.1;omega⟩
    ·refine H2.m 0 ?_;apply Aa<;>intro c4
     ·exact⟨H2,bA (by decide) fun h=>h.2.1 (aK (by omega))⟩
     ·refine H2.m 0 ?_;refine(Gx (hu.belowE H2.below) hl).mono ?_;rintro _ w3 ⟨rfl,hb3⟩;have H3:=H2.pass hb3;refine⟨_,rfl,?_⟩;refine⟨hb3.keeps,?_⟩;apply Bq<;>intro c3
      ·exact⟨H3,bA (by decide) fun h=>by rw[h.2.2.1]at c3;cases c3⟩
      ·refine⟨H2.lt (i:=0) rfl rfl,?_⟩;refine H2.m 0 ?_;apply Aa<;>intro c2
       ·exact⟨H3,bA (by decide) fun h=>by have:=h.2.2.2.2;omega⟩
       ·refine⟨H2.lt (i:=0) rfl rfl,?_⟩;refine H2.l 0 ?_;apply An<;>intro c1
        ·refine⟨H2.lt (i:=0) rfl rfl,?_⟩;refine H2.m 0 ?_;refine⟨H2.lt (i:=0) rfl rfl,?_⟩;refine H2.l 0 ?_;apply Aa<;>intro c
         ·exact⟨H3,bA (by decide) fun h=>by have:=h.1;omega⟩
         ·refine⟨H2.lt (i:=0) rfl rfl,?_⟩;refine H2.m 0 ?_;refine⟨H2.lt (i:=0) rfl rfl,?_⟩;refine H2.m 0 ?_;refine Ao (by omega) ?_;have hlt:x.come.length-1<x.come.length:=by omega
          refine ixE (hu.belowE H2.below) (x.come.length-1) (by omega) hlt fun b1 r hr hb1=>?_;obtain rfl:x.come[x.come.length-1]=r:=by rw[List.getElem?_eq_getElem hlt]at hr;injection hr
          refine⟨by have h9:=Dv (Bc hb1 0 _ rfl);rw[Qo]at h9;exact h9,?_⟩;refine⟨_,by have:=Bc hb1 2 _ rfl;rwa[aN]at this,?_⟩;refine⟨H2.lt (i:=0) rfl rfl,?_⟩;refine H2.m 0 ?_;exact⟨H3,by rw[<-Ao6 hlt];simp only[dN,aO];exact⟨fun h=>⟨.inr ⟨by omega,by omega,by omega⟩,fun e=>c4 (by rw[e];rfl),c3,h.symm,by omega⟩,fun h=>h.2.2.2.1.symm⟩⟩
        ·refine⟨H2.lt (i:=0) rfl rfl,?_⟩;refine H2.m 0 ?_;refine⟨H2.lt (i:=0) rfl rfl,?_⟩;refine H2.m 0 ?_;refine Ao (by omega) ?_;have hlt:x.come.length-1<x.come.length:=by omega
         refine ixE (hu.belowE H2.below) (x.come.length-1) (by omega) hlt fun b2 r hr hb2=>?_;obtain rfl:x.come[x.come.length-1]=r:=by rw[List.getElem?_eq_getElem hlt]at hr;injection hr
         refine⟨by have h9:=Dv (Bc hb2 0 _ rfl);rw[Qo]at h9;exact h9,?_⟩;refine⟨_,by have:=Bc hb2 2 _ rfl;rwa[aN]at this,?_⟩;refine⟨H2.lt (i:=0) rfl rfl,?_⟩;refine H2.m 0 ?_;exact⟨H3,by rw[<-Ao6 hlt];simp only[dN,aO];exact⟨fun h=>⟨.inl (by omega),fun e=>c4 (by rw[e];rfl),c3,h.symm,by omega⟩,fun h=>h.2.2.2.1.symm⟩⟩
  ·refine H2.m 0 ?_;apply Aa<;>intro c11
   ·exact⟨H2,bA (by decide) fun h=>h.2.1 (aK (by omega))⟩
   ·refine H2.m 0 ?_;refine(Gx (hu.belowE H2.below) hl).mono ?_;rintro _ w4 ⟨rfl,hb4⟩;have H4:=H2.pass hb4;refine⟨_,rfl,?_⟩;refine⟨hb4.keeps,?_⟩;apply Bq<;>intro c10
    ·exact⟨H4,bA (by decide) fun h=>by rw[h.2.2.1]at c10;cases c10⟩
    ·refine⟨H2.lt (i:=0) rfl rfl,?_⟩;refine H2.m 0 ?_;apply Aa<;>intro c9
     ·exact⟨H4,bA (by decide) fun h=>by have:=h.2.2.2.2;omega⟩
     ·refine⟨H2.lt (i:=0) rfl rfl,?_⟩;refine H2.l 0 ?_;apply An<;>intro c8
      ·refine⟨H2.lt (i:=0) rfl rfl,?_⟩;refine H2.m 0 ?_;refine⟨H2.lt (i:=0) rfl rfl,?_⟩;refine H2.l 0 ?_;apply Aa<;>intro c7
       ·exact⟨H4,bA (by decide) fun h=>by have:=h.1;omega⟩
       ·refine⟨H2.lt (i:=0) rfl rfl,?_⟩;refine H2.m 0 ?_;refine⟨H2.lt (i:=0) rfl rfl,?_⟩;refine H2.m 0 ?_;refine Ao (by omega) ?_;have hlt:x.come.length-1<x.come.length:=by omega
        refine ixE (hu.belowE H2.below) (x.come.length-1) (by omega) hlt fun b3 r hr hb3=>?_;obtain rfl:x.come[x.come.length-1]=r:=by rw[List.getElem?_eq_getElem hlt]at hr;injection hr
        refine⟨by have h9:=Dv (Bc hb3 0 _ rfl);rw[Qo]at h9;exact h9,?_⟩;refine⟨_,by have:=Bc hb3 2 _ rfl;rwa[aN]at this,?_⟩;refine⟨H2.lt (i:=0) rfl rfl,?_⟩;refine H2.m 0 ?_;exact⟨H4,by rw[<-Ao6 hlt];simp only[dN,aO];exact⟨fun h=>⟨.inl (by omega),fun e=>c11 (by rw[e];rfl),c10,h.symm,by omega⟩,fun h=>h.2.2.2.1.symm⟩⟩
      ·refine⟨H2.lt (i:=0) rfl rfl,?_⟩;refine H2.m 0 ?_;refine⟨H2.lt (i:=0) rfl rfl,?_⟩;refine H2.m 0 ?_;refine Ao (by omega) ?_;have hlt:x.come.length-1<x.come.length:=by omega
       refine ixE (hu.belowE H2.below) (x.come.length-1) (by omega) hlt fun b4 r hr hb4=>?_;obtain rfl:x.come[x.come.length-1]=r:=by rw[List.getElem?_eq_getElem hlt]at hr;injection hr
       refine⟨by have h9:=Dv (Bc hb4 0 _ rfl);rw[Qo]at h9;exact h9,?_⟩;refine⟨_,by have:=Bc hb4 2 _ rfl;rwa[aN]at this,?_⟩;refine⟨H2.lt (i:=0) rfl rfl,?_⟩;refine H2.m 0 ?_;exact⟨H4,by rw[<-Ao6 hlt];simp only[dN,aO];exact⟨fun h=>⟨.inl (by omega),fun e=>c11 (by rw[e];rfl),c10,h.symm,by omega⟩,fun h=>h.2.2.2.1.symm⟩⟩
end
end Go.Proofs.YtmbppohkadmjgaaGreat
namespace Go.Sx
theorem Avg{s:Rc}{n:Int}(hb:Bv s.lk.bits)(hn:Bt s.lk.bits n)(hx:Bt s.lk.bits s.next)(hlt:s.place n<s.place s.next):s.behind n=s.next↔s.place n=s.place s.next-1:=by
 unfold Rc.behind Rc.place way Bt at*;rcases Cm hb with h|h|h|h|h<;>rw[h]at hn hx hlt ⊢ <;>omega
theorem Aky{s:Rc}{n:Int}(hb:Bv s.lk.bits)(hn:Bt s.lk.bits n)(hf:Bt s.lk.bits s.first):s.place n=0↔n=s.first:=by
 unfold Rc.place way Bt at*;rcases Cm hb with h|h|h|h|h<;>rw[h]at hn hf ⊢ <;>omega
theorem Fb(s:Rc)(n:Int):0<=s.place n/\s.place n<2^s.lk.bits.toNat:=Qf _ _ _
def Agw(s:Rc)(last:Int)(p:Pa):Bool:=decide (Bt s.lk.bits p.sn/\last<s.place p.sn/\s.place p.sn<s.place s.next)&&paB p
def hdB(s:Rc)(p:Pa):Bool:=!p.done|| !decide (p.sn=s.first)
theorem Axh(s:Rc)(last:Int)(p:Pa):Aqx s last p=(hdB s p&&Agw s last p):=by
 unfold Aqx hdB Agw;rw[Bool.and_comm (decide _) (_||_),Bool.and_assoc]
theorem Ayz{s:Rc}{last:Int}{p:Pa}(hb:Bv s.lk.bits)(hf:Bt s.lk.bits s.first)(hl:0<=last):Aqx s last p=Agw s last p:=by
 rw[Axh];by_cases h:Bt s.lk.bits p.sn/\last<s.place p.sn/\s.place p.sn<s.place s.next
 ·have:hdB s p=true:=by
   unfold hdB;rw[aI,Bool.not_false,Bool.or_true];intro e;have:=(Aky hb h.1 hf).2 e;omega
  rw[this,bH]
 ·rw[Agw,aI h];simp
def Abz(s:Rc):Nat->Bool
 |0=>((s.parts[0]?).map (Agw s (-1))).getD true&&Fv s (Nz s s.parts 1) (s.parts.drop 1)
 |k+1=>Fv s (Nz s s.parts (k+1)) (s.parts.drop (k+1))
theorem Aye{s:Rc}(h:0<s.parts.length):Fv s (-1) s.parts=(hdB s s.parts[0]&&Abz s 0):=by
 have:=Ac2 s s.parts 0 (-1) h;rw[dQ]at this;rw[this,Axh,Bool.and_assoc];simp only[Abz,List.getElem?_eq_getElem h,cM,cQ]
theorem Axj{s:Rc}{k:Nat}(hb:Bv s.lk.bits)(hf:Bt s.lk.bits s.first)(h:k<s.parts.length):Abz s k=(Agw s (Nz s s.parts k) s.parts[k]&&Abz s (k+1)):=by
 cases k with
 |zero=>
  simp only[Abz,List.getElem?_eq_getElem h,cM,cQ];rfl
 |succ k=>
  have e:Abz s (k+1)=Fv s (Nz s s.parts (k+1)) (s.parts.drop (k+1)):=rfl;have h0:0<=Nz s s.parts (k+1):=by rw[Tf (by omega)];exact(Fb s _).1
  rw[e,Ac2 _ _ _ _ h,Ayz hb hf h0];rfl
def SmP(L:List Pa):Prop:=L.length<=140737488355328/\∀x∈L,x.come.length<=140737488355328/\x.data.length<=140737488355328
end Go.Sx
namespace Go.Proofs.YtmbppohkadmjgaaGreat
open Go.Sx Go.RowKit
set_option maxRecDepth 100000
section
variable{s:Rc}{a:Option Addr}{c:Nat}{s_b s_o:Nat}{w:World}
theorem Uy(hc:cellsAt w ⟨s_b,s_o,none⟩ 0 (Bi s a c))(hu:PaR w a s.parts)(hb:Bv s.lk.bits)(hf:Bt s.lk.bits s.first)(hnx:Bt s.lk.bits s.next)(hl:SmP s.parts):Calls Tryz.prog Hm #[(.pointer (some ⟨s_b,s_o,none⟩))] w fun e w'=>e=.returned (.bool (Fv s (-1) s.parts))/\Below w.heap.size w w':=by
 apply Sz;have H:=St.nil w;obtain⟨hl0,hl1⟩:=hl;have hp:=Cm hb;refine⟨_,_,_,lq (j:=13) (Av hc H.below) rfl,?_⟩;apply Aa<;>intro c8
 ·refine H.drew ?_;clear H;intro w1 H1;refine⟨_,lq (j:=7) (Av hc H1.below) rfl,?_⟩;refine⟨_,lq (j:=6) (Av hc H1.below) rfl,?_⟩;refine Aw ?_;have hnil:s.parts=[]:=aK (by omega);refine⟨?_,H1.below⟩;have hz:=Aky hb hnx hf;rw[hnil,Fv,bT.2 (show-1=s.place s.next-1↔s.next=s.first by rw[<-hz];omega)]
 ·have hpos:0<s.parts.length:=by omega
  rw[Aye hpos];refine⟨_,_,_,lq (j:=13) (Av hc H.below) rfl,?_⟩;refine⟨fun x3=>((s.parts.length-x3).toNat,fun w2=>∃k:Nat,x3=k/\k<=s.parts.length/\Abz s 0=Abz s k/\(∀j (hj:j<s.parts.length),j<k->Bt s.lk.bits s.parts[j].sn/\s.place s.parts[j].sn<s.place s.next)/\Cg w w2 []),⟨0,rfl,by omega,rfl,fun j _ h=>by omega,H⟩,?_⟩;clear H;rintro _ x3 w2 ⟨k,rfl,hk,hT,hno,H2⟩;apply Aa<;>intro c7
  ·have hlt:k<s.parts.length:=by omega
   have hm:=aJ hlt;rw[Axj hb hf hlt]at hT;obtain⟨x,hx⟩:∃x,x=s.parts[k]:=⟨_,rfl⟩;rw[<-hx]at hm hT;refine Uu hu k rfl hlt fun b hb'=>?_;rw[<-hx]at hb';obtain⟨a1,c1,a2,c2,hb',hd,hr,hcap⟩:=hb';obtain⟨hxl,hxd⟩:=hl1 x hm;refine⟨_,_,_,_,_,_,_,_,_,Av hb' H2.below,?_⟩;refine H2.alloc ?_;clear H2;intro b1 w3 H3;refine H3.s 0 ?_;clear H3;intro w4 H4;refine⟨fun x10 w12=>St (fun _=>False) [] w w12 [.blk b1 Ac (Ix x a1 c1 a2 c2)] (fun _=>True)/\x10= !Agw s (Nz s s.parts k) x,?_,?_⟩
   ·rintro _ x10 w12 ⟨H12,rfl⟩;apply Al<;>intro c4
    ·have c4:Agw s (Nz s s.parts k) x=false:=by simpa using c4
     exact⟨by rw[hT,c4];simp,H12.below⟩
    ·have c4:Agw s (Nz s s.parts k) x=true:=by simpa using c4
     refine Ao (by omega) ?_;refine⟨⟨k+1,by omega,by omega,by rw[hT,c4,bH],fun j hj h=>?_,St.dropLast (R:=[]) H12⟩,by dsimp only;omega⟩;rcases aT j k with h'|h'
     ·exact hno j hj h'
     ·obtain rfl:j=k:=by omega
      unfold Agw at c4;rw[aH,aV]at c4;rw[<-hx];exact⟨c4.1.1,c4.1.2.2⟩
   ·have bad:∀ {w':World},¬(Bt s.lk.bits x.sn/\Nz s s.parts k<s.place x.sn/\s.place x.sn<s.place s.next)\/paB x=false->St (fun _=>False) [] w w' [.blk b1 Ac (Ix x a1 c1 a2 c2)] (fun _=>True)->St (fun _=>False) [] w w' [.blk b1 Ac (Ix x a1 c1 a2 c2)] (fun _=>True)/\true= !Agw s (Nz s s.parts k) x:=fun h H=>⟨H,by
     unfold Agw;rcases h with h|h
     ·rw[aI h];rfl
     ·rw[h,dY];rfl⟩
    refine H4.drew ?_;clear H4;intro w5 H5;refine⟨(· <w5.heap.size),?_⟩;refine H5.l 0 ?_;refine(Ec (Av hc H5.below) hb).mono ?_;rintro _ w6 ⟨rfl,hb6⟩;have H6:=H5.pass hb6;refine⟨_,rfl,?_⟩;refine⟨hb6.keeps,?_⟩;apply An<;>intro c3
    ·exact bad (.inl fun h=>c3 h.1) H6
    ·refine⟨H5.lt (i:=0) rfl rfl,?_⟩;refine⟨_,_,_,_,_,_,_,_,_,H5.cells (i:=0) rfl,?_⟩;refine(Ad7 (hd.below H6.below) (hr.belowE H6.below) hcap hxl hxd).mono ?_;rintro _ w7 ⟨rfl,hb7⟩;have H7:=H6.pass hb7;refine⟨_,rfl,?_⟩;replace hb7:=Ax hb6 (aG _) hb7;refine⟨hb7.keeps,?_⟩;apply Bq<;>intro c2
     ·exact bad (.inr c2) H7
     ·refine⟨H5.lt (i:=0) rfl rfl,?_⟩;refine H5.l 0 ?_;refine⟨Tr (Av hc H5.below),?_⟩;refine⟨_,lq (j:=7) (Av hc H5.below) rfl,?_⟩;refine(Bh (Av hc H7.below) hb).mono ?_;rintro _ w8 ⟨rfl,hb8⟩;have H8:=H7.pass hb8;refine⟨_,rfl,?_⟩;replace hb8:=Ax hb7 (aG _) hb8;refine⟨hb8.keeps,?_⟩;refine(Bh (Av hc H8.below) hb).mono ?_;rintro _ w9 ⟨rfl,hb9⟩;have H9:=H8.pass hb9;refine⟨_,rfl,?_⟩;replace hb9:=Ax hb8 (aG _) hb9;refine⟨hb9.keeps,?_⟩;apply Aa<;>intro c1
      ·exact bad (.inl fun h=>by omega) H9
      ·apply Aa<;>intro c
       ·refine⟨H5.lt (i:=0) rfl rfl,?_⟩;refine H5.l 0 ?_;refine⟨Tr (Av hc H5.below),?_⟩;refine⟨_,_,_,lq (j:=13) (Av hc H5.below) rfl,?_⟩;refine Ao (by omega) ?_;have hlt1:k-1<s.parts.length:=by omega
        have el:Nz s s.parts k=s.place s.parts[k-1].sn:=by
         have e:∀m,k=m+1->∀hm:m<s.parts.length,Nz s s.parts k=s.place s.parts[m].sn:=by rintro m rfl hm;exact Tf hm
         exact e (k-1) (by omega) hlt1
        refine Uu hu (k-1) (by omega) hlt1 fun b2 hb2=>?_;obtain⟨a3,c3',a4,c4',hb2,_,_,_⟩:=hb2;have hb2:=Av hb2 H5.below;refine⟨by have h9:=Dv (Bc hb2 0 _ rfl);rw[Qo]at h9;exact h9,?_⟩;refine⟨_,by have:=Bc hb2 0 _ rfl;rwa[Ls]at this,?_⟩;refine(Bh (Av hc H9.below) hb).mono ?_;rintro _ w10 ⟨rfl,hb10⟩;have H10:=H9.pass hb10;refine⟨_,rfl,?_⟩;replace hb10:=Ax hb9 (aG _) hb10;refine⟨hb10.keeps,?_⟩;refine(Bh (Av hc H10.below) hb).mono ?_;rintro _ w11 ⟨rfl,hb11⟩;have H11:=H10.pass hb11;refine⟨_,rfl,?_⟩;replace hb11:=Ax hb10 (aG _) hb11;refine⟨hb11.keeps,?_⟩;refine⟨H11,?_⟩;unfold Agw;rw[c2,eG,<-decide_not,bT,el];constructor
        ·intro h h';omega
        ·intro h;rcases Int.lt_or_le (s.place s.parts[k-1].sn) (s.place x.sn)with h'|h'
         ·exact absurd ⟨c3,h',by omega⟩ h
         ·exact h'
       ·refine⟨H9,?_⟩;obtain rfl:k=0:=by omega
        unfold Agw;rw[c2,eG,aM ⟨c3,by have:=(Fb s x.sn).1;show-1<_;omega,by omega⟩];rfl
  ·obtain rfl:k=s.parts.length:=by omega
   have hlt1:s.parts.length-1<s.parts.length:=by omega
   obtain⟨g1,g2⟩:=hno _ hlt1 (by omega);obtain⟨y,hy⟩:∃y,y=s.parts[s.parts.length-1]:=⟨_,rfl⟩;rw[<-hy]at g1 g2;have eT:Abz s 0=decide (s.behind y.sn=s.next):=by
    have e:∀m,s.parts.length=m+1->∀hm:m<s.parts.length,Abz s s.parts.length=decide (s.place s.parts[m].sn=s.place s.next-1):=by
     intro m em hm;have e1:Abz s (m+1)=Fv s (Nz s s.parts (m+1)) (s.parts.drop (m+1)):=rfl;rw[em,e1,<-em,bU,em,Tf hm];rfl
    rw[hT,e _ (by omega) hlt1,<-hy,bT.2 (Avg hb g1 hnx g2)]
   obtain⟨x,hx⟩:∃x,x=s.parts[0]:=⟨_,rfl⟩;rw[<-hx,eT];have hyr:0<=y.sn/\y.sn<=512:=by unfold Bt at g1;omega
   refine⟨_,_,_,lq (j:=13) (Av hc H2.below) rfl,?_⟩;refine Uu hu 0 rfl hpos fun b3 hb3=>?_;rw[<-hx]at hb3;obtain⟨a1,c1,a2,c2,hb3,_,_,_⟩:=hb3;refine⟨_,_,_,_,_,_,_,_,_,Av hb3 H2.below,?_⟩;refine H2.alloc ?_;clear H2;intro b4 w13 H13;refine H13.s 0 ?_;clear H13;intro w14 H14;refine H14.drew ?_;clear H14;intro w15 H15;refine⟨(· <w15.heap.size),?_⟩;refine H15.B 0 ?_;apply Al<;>intro c6
   ·refine H15.l 0 ?_;refine⟨_,lq (j:=6) (Av hc H15.below) rfl,?_⟩;apply An<;>intro c5
    ·refine⟨_,_,_,lq (j:=13) (Av hc H15.below) rfl,?_⟩;refine Ao (by omega) ?_;refine Uu hu (s.parts.length-1) (by omega) hlt1 fun b5 hb5=>?_;rw[<-hy]at hb5;obtain⟨a3,c3',a4,c4',hb5,_,_,_⟩:=hb5;have hb5:=Av hb5 H15.below;refine⟨_,by have:=Bc hb5 0 _ rfl;rwa[Ls]at this,?_⟩;refine⟨Tr (Av hc H15.below),?_⟩;refine⟨_,lq (j:=7) (Av hc H15.below) rfl,?_⟩;refine(Eb (Av hc H15.below) hb (by omega)).mono ?_;rintro _ w16 ⟨rfl,hb16⟩;have H16:=H15.pass hb16;refine⟨_,rfl,?_⟩;refine⟨hb16.keeps,?_⟩;refine Aw ?_;exact⟨by rw[hdB,aI c5];simp,H16.below⟩
    ·exact⟨by rw[hdB,c6,aM c5];simp,H15.below⟩
   ·refine⟨_,_,_,lq (j:=13) (Av hc H15.below) rfl,?_⟩;refine Ao (by omega) ?_;refine Uu hu (s.parts.length-1) (by omega) hlt1 fun b6 hb6=>?_;rw[<-hy]at hb6;obtain⟨a3,c3',a4,c4',hb6,_,_,_⟩:=hb6;have hb6:=Av hb6 H15.below;refine⟨_,by have:=Bc hb6 0 _ rfl;rwa[Ls]at this,?_⟩;refine⟨Tr (Av hc H15.below),?_⟩;refine⟨_,lq (j:=7) (Av hc H15.below) rfl,?_⟩;refine(Eb (Av hc H15.below) hb (by omega)).mono ?_;rintro _ w17 ⟨rfl,hb17⟩;have H17:=H15.pass hb17;refine⟨_,rfl,?_⟩;refine⟨hb17.keeps,?_⟩;refine Aw ?_;exact⟨by rw[hdB,c6];simp,H17.below⟩
end
theorem Vd{s:Rc}(h:¬(Ir s.lk/\Bt s.lk.bits s.first/\Bt s.lk.bits s.next/\Bt s.lk.bits s.upto/\s.place s.next<=2^(s.lk.bits-1).toNat/\s.place s.upto<=s.place s.next/\0<=s.quiet/\s.quiet<=s.lk.quiet)):s.okB=false:=by
 unfold Rc.okB Adg;rw[aI h];rfl
theorem Bbt{b:Int}(hb:Bv b):Int.tdiv (2^b.toNat) 2=2^(b-1).toNat:=by
 obtain⟨h1,h2⟩:=hb;rcases (show b=5\/b=6\/b=7\/b=8\/b=9 by omega)with rfl|rfl|rfl|rfl|rfl<;>decide
section
variable{s:Rc}{a:Option Addr}{c:Nat}{w:World}
theorem Oq(hu:PaR w a s.parts)(hl:SmP s.parts):Calls Tryz.prog Ii #[Fw s a c] w fun e w'=>e=.returned (.bool s.okB)/\Below w.heap.size w w':=by
 apply Ad2;have H:=St.nil w;refine H.alloc ?_;clear H;intro b w1 H1;refine⟨_,_,_,_,_,_,_,_,_,_,_,_,_,_,_,_,H1.cells (i:=0) rfl,?_⟩;refine H1.alloc ?_;clear H1;intro b1 w2 H2;replace H2:St (fun _=>False) [] w w2 [.blk b Ag (Bi s a c),.blk b1 Cd (Bi s a c)] (fun _=>True):=H2;refine⟨fun w7=>St (fun _=>False) [] w w7 [.blk b Ag (Bi s a c),.blk b1 Cd (Bi s a c)] (fun _=>True)/\Ir s.lk/\Bt s.lk.bits s.first/\Bt s.lk.bits s.next/\Bt s.lk.bits s.upto,?_,?_⟩
 ·rintro _ w7 ⟨H7,hj1,hj2,hj3,hj4⟩;have hb:=hj1.1;have hb':=hb;obtain⟨hb1,hb2⟩:=hb';refine H7.l 0 ?_;refine(Bh (H7.cells (i:=1) rfl) hb).mono ?_;rintro _ w8 ⟨rfl,hb8⟩;have H8:=H7.pass hb8;clear H7;refine⟨_,rfl,?_⟩;refine⟨fun x11 w11=>St (fun _=>False) [] w w11 [.blk b Ag (Bi s a c),.blk b1 Cd (Bi s a c)] (fun _=>True)/\x11= !(Adg s&&Fv s (-1) s.parts),?_,?_⟩
  ·rintro _ x11 w11 ⟨H11,rfl⟩;apply Al<;>intro c13
   ·have c13:(Adg s&&Fv s (-1) s.parts)=false:=by rw[bP]at c13;exact c13
    exact⟨by rw[Rc.okB,c13];rfl,H11.below⟩
   ·have c13:(Adg s&&Fv s (-1) s.parts)=true:=by rw[dN]at c13;exact c13
    have e:s.okB=Vg s:=by rw[Rc.okB,c13,bH]
    rw[e];refine H11.l 0 ?_;apply Aa<;>intro c12
    ·refine H11.l 0 ?_;refine Aw ?_;exact⟨by rw[Vg,aF c12],H11.below⟩
    ·refine H11.l 0 ?_;refine(Ec (H11.cells (i:=1) rfl) hb).mono ?_;rintro _ w12 ⟨rfl,hb12⟩;have H12:=H11.pass hb12;clear H11;refine⟨_,rfl,?_⟩;apply Aa<;>intro c11
     ·refine H12.l 0 ?_;refine(Bh (H12.cells (i:=1) rfl) hb).mono ?_;rintro _ w13 ⟨rfl,hb13⟩;have H13:=H12.pass hb13;clear H12;refine⟨_,rfl,?_⟩;apply Aa<;>intro c10
      ·refine H13.l 0 ?_;refine(Bh (H13.cells (i:=1) rfl) hb).mono ?_;rintro _ w14 ⟨rfl,hb14⟩;have H14:=H13.pass hb14;clear H13;refine⟨_,rfl,?_⟩;apply Aa<;>intro c9
       ·refine H14.l 0 ?_;apply Aa<;>intro c8
        ·refine H14.l 0 ?_;refine H14.l 0 ?_;refine Aw ?_;exact⟨by rw[Vg,aE c12];exact Nq ⟨fun h=>⟨c11,c10,c9,c8,h⟩,fun h=>h.2.2.2.2⟩,H14.below⟩
        ·exact⟨by rw[Vg,aE c12];exact Hd (fun h=>c8 h.2.2.2.1),H14.below⟩
       ·exact⟨by rw[Vg,aE c12];exact Hd (fun h=>c9 h.2.2.1),H14.below⟩
      ·exact⟨by rw[Vg,aE c12];exact Hd (fun h=>c10 h.2.1),H13.below⟩
     ·exact⟨by rw[Vg,aE c12];exact Hd (fun h=>c11 h.1),H12.below⟩
  ·have bad:∀ {w':World},¬(s.place s.next<=2^(s.lk.bits-1).toNat/\s.place s.upto<=s.place s.next/\0<=s.quiet/\s.quiet<=s.lk.quiet)->St (fun _=>False) [] w w' [.blk b Ag (Bi s a c),.blk b1 Cd (Bi s a c)] (fun _=>True)->St (fun _=>False) [] w w' [.blk b Ag (Bi s a c),.blk b1 Cd (Bi s a c)] (fun _=>True)/\true= !(Adg s&&Fv s (-1) s.parts):=fun h H=>⟨H,by
    unfold Adg;rw[aI (fun h'=>h h'.2.2.2.2)];rfl⟩
   refine H8.l 0 ?_;refine Ao (by omega) ?_;refine⟨by omega,?_⟩;refine Kv (by omega) ?_;apply Aa<;>intro c7
   ·exact bad (fun h=>by omega) H8
   ·refine H8.l 0 ?_;refine(Bh (H8.cells (i:=1) rfl) hb).mono ?_;rintro _ w9 ⟨rfl,hb9⟩;have H9:=H8.pass hb9;clear H8;refine⟨_,rfl,?_⟩;apply Aa<;>intro c6
    ·exact bad (fun h=>by omega) H9
    ·refine H9.l 0 ?_;apply Aa<;>intro c5
     ·exact bad (fun h=>by omega) H9
     ·refine H9.l 0 ?_;refine H9.l 0 ?_;apply Aa<;>intro c4
      ·exact bad (fun h=>by omega) H9
      ·refine(Uy (H9.cells (i:=1) rfl) (Cw hu H9.below) hb hj2 hj3 hl).mono ?_;rintro _ w10 ⟨rfl,hb10⟩;have H10:=H9.pass hb10;clear H9;refine⟨_,rfl,?_⟩;refine⟨H10,?_⟩;rw[Adg,aM ⟨hj1,hj2,hj3,hj4,by omega,by omega,by omega,by omega⟩,bH]
 ·refine⟨_,_,_,_,_,_,H2.cellsAt (i:=0) rfl (by rfl),?_⟩;refine sender_ValidLink_ct.mono ?_;rintro _ w3 ⟨rfl,hb3⟩;have H3:=H2.pass hb3;clear H2;refine⟨_,rfl,?_⟩;apply An<;>intro c3
  ·exact⟨by rw[Vd fun h=>c3 h.1],H3.below⟩
  ·have hb:=c3.1;refine H3.l 0 ?_;refine(Ec (H3.cells (i:=1) rfl) hb).mono ?_;rintro _ w4 ⟨rfl,hb4⟩;have H4:=H3.pass hb4;clear H3;refine⟨_,rfl,?_⟩;apply An<;>intro c2
   ·exact⟨by rw[Vd fun h=>c2 h.2.1],H4.below⟩
   ·refine H4.l 0 ?_;refine(Ec (H4.cells (i:=1) rfl) hb).mono ?_;rintro _ w5 ⟨rfl,hb5⟩;have H5:=H4.pass hb5;clear H4;refine⟨_,rfl,?_⟩;apply An<;>intro c1
    ·exact⟨by rw[Vd fun h=>c1 h.2.2.1],H5.below⟩
    ·refine H5.l 0 ?_;refine(Ec (H5.cells (i:=1) rfl) hb).mono ?_;rintro _ w6 ⟨rfl,hb6⟩;have H6:=H5.pass hb6;clear H5;refine⟨_,rfl,?_⟩;apply An<;>intro c
     ·exact⟨by rw[Vd fun h=>c h.2.2.2.1],H6.below⟩
     ·exact⟨H6,c3,c2,c1,c⟩
theorem Uo{s:Rc}:Vg s=true↔(s.mark=-1/\s.left=0)\/(s.mark≠ -1/\Bt s.lk.bits s.mark/\1<=s.place s.mark/\s.place s.mark<=s.place s.next/\1<=s.left/\s.left<=s.lk.wait):=by
 unfold Vg;split
 ·rename_i h;simp[h]
 ·rename_i h;simp[h]
theorem Pf(hu:PaR w a s.parts)(hl:SmP s.parts):Calls Tryz.prog Ju #[Fw s a c] w fun e w'=>e=.returned (.bool s.okB)/\Below w.heap.size w w':=by
 apply Ajr;have H:=St.nil w;refine H.alloc ?_;clear H;intro b w1 H1;refine⟨_,_,_,_,_,_,H1.cellsAt (i:=0) rfl (by rfl),?_⟩;refine ref20_ValidLink_ct.mono ?_;rintro _ w2 ⟨rfl,hb2⟩;have H2:=H1.pass hb2;clear H1;refine⟨_,rfl,?_⟩;apply An<;>intro c38
 ·exact⟨by rw[Vd fun h=>c38 h.1],H2.below⟩
 ·have hb:=c38.1;have hp:=Cm hb;have hb':=hb;obtain⟨hb1,hb2⟩:=hb';obtain⟨hl0,hl1⟩:=hl;replace H2:St (fun _=>False) [] w w2 [.blk b Ag (Bi s a c)] (fun _=>True):=H2;refine H2.l 0 ?_;refine Pk (by omega) ?_;refine⟨by omega,?_⟩;refine Kv (by omega) ?_;refine⟨fun x12 w3=>St (fun _=>False) [] w w3 [.blk b Ag (Bi s a c)] (fun _=>True)/\(x12=false↔Bt s.lk.bits s.first/\Bt s.lk.bits s.next/\Bt s.lk.bits s.upto/\0<=s.quiet/\s.quiet<=s.lk.quiet),?_,?_⟩
  ·rintro _ x12 w3 ⟨H3,hj⟩;apply Al<;>intro c37
   ·exact⟨by rw[Vd fun h=>by rw[hj.2 ⟨h.2.1,h.2.2.1,h.2.2.2.1,h.2.2.2.2.2.2⟩]at c37;cases c37],H3.below⟩
   ·obtain⟨hj2,hj3,hj4,hj5⟩:=hj.1 c37;refine⟨_,_,_,_,_,_,_,_,_,_,_,_,_,_,_,_,H3.cells (i:=0) rfl,?_⟩;refine H3.l 0 ?_;refine(Bw hb).mono ?_;rintro _ w4 ⟨rfl,hb4⟩;have H4:=H3.pass hb4;clear H3;refine⟨_,rfl,?_⟩;refine⟨fun w6=>St (fun _=>False) [] w w6 [.blk b Ag (Bi s a c)] (fun _=>True)/\s.place s.next<=2^(s.lk.bits-1).toNat/\s.place s.upto<=s.place s.next,?_,?_⟩
    ·rintro _ w6 ⟨H6,hj6,hj7⟩;have eh:s.okB=(Fv s (-1) s.parts&&Vg s):=by rw[Rc.okB,Adg,aM ⟨c38,hj2,hj3,hj4,hj6,hj7,hj5⟩,bH]
     refine⟨fun x34 w11=>St (fun _=>False) [] w w11 [.blk b Ag (Bi s a c)] (fun _=>True)/\(x34=false↔(s.mark=-1/\s.left=0)\/(s.mark≠ -1/\Bt s.lk.bits s.mark/\1<=s.place s.mark/\s.place s.mark<=s.place s.next/\1<=s.left/\s.left<=s.lk.wait)),?_,?_⟩
     ·rintro _ x34 w11 ⟨H11,hj⟩;apply Al<;>intro c36
      ·refine⟨?_,H11.below⟩;have:Vg s=false:=by rw[Bool.eq_false_iff];intro h;rw[hj.2 (Uo.1 h)]at c36;cases c36
       rw[eh,this,dY]
      ·rw[Uo.2 (hj.1 c36),eG]at eh;refine⟨fun last i=>((s.parts.length-i).toNat,fun w12=>∃k:Nat,i=k/\k<=s.parts.length/\last=Nz s s.parts k/\s.okB=Fv s (Nz s s.parts k) (s.parts.drop k)/\St (fun _=>False) [] w w12 [.blk b Ag (Bi s a c)] (fun _=>True)),⟨0,rfl,by omega,rfl,eh,H11⟩,?_⟩;clear H11;rintro _ last i w12 ⟨k,rfl,hk,rfl,hT,H12⟩;refine H12.m 0 ?_;apply Aa<;>intro c35
       ·have hlt:k<s.parts.length:=by omega
        have hm:=aJ hlt;rw[Ac2 _ _ _ _ hlt]at hT;have els:=Tf (s:=s) hlt;obtain⟨x,hx⟩:∃x,x=s.parts[k]:=⟨_,rfl⟩;rw[<-hx]at hm hT els;obtain⟨hxl,hxd⟩:=hl1 x hm;have no:∀ {w':World},¬(Bt s.lk.bits x.sn/\Nz s s.parts k<s.place x.sn/\s.place x.sn<s.place s.next)->Below w.heap.size w w'->Ending.returned (.bool false)=.returned (.bool s.okB)/\Below w.heap.size w w':=fun h hb=>⟨by rw[hT,Aqx,aI h];rfl,hb⟩;refine H12.m 0 ?_;refine Uu hu k rfl hlt fun b1 hb'=>?_;rw[<-hx]at hb';obtain⟨a1,c1,a2,c2,hb',hd,hr,hcap⟩:=hb';refine⟨_,_,_,_,_,_,_,_,_,Av hb' H12.below,?_⟩;refine H12.alloc ?_;clear H12;intro b2 w13 H13;refine H13.s 1 ?_;clear H13;intro w14 H14;replace H14:St (fun _=>False) [] w w14 [.blk b Ag (Bi s a c),.blk b2 Ac (Ix x a1 c1 a2 c2)] (fun _=>True):=H14;refine⟨fun w17=>St (fun _=>False) [] w w17 [.blk b Ag (Bi s a c),.blk b2 Ac (Ix x a1 c1 a2 c2)] (fun _=>True)/\Bt s.lk.bits x.sn/\Nz s s.parts k<s.place x.sn/\s.place x.sn<s.place s.next,?_,?_⟩
        ·rintro _ w17 ⟨H17,hj8⟩;rw[Aqx,aM hj8,bH]at hT;refine⟨_,_,_,_,_,_,_,_,_,_,_,_,_,_,_,_,H17.cells (i:=0) rfl,?_⟩;refine H17.l 1 ?_;refine(Bw hb).mono ?_;rintro _ w18 ⟨rfl,hb18⟩;have H18:=H17.pass hb18;clear H17;refine⟨_,rfl,?_⟩;refine⟨fun x46 w21=>St (fun _=>False) [] w w21 [.blk b Ag (Bi s a c),.blk b2 Ac (Ix x a1 c1 a2 c2)] (fun _=>True)/\x46= !((!x.done|| !decide (x.sn=s.first))&&paB x),?_,?_⟩
         ·rintro _ x46 w21 ⟨H21,rfl⟩;apply Al<;>intro c34
          ·rw[bP]at c34;exact⟨by rw[hT,c34];rfl,H21.below⟩
          ·rw[dN]at c34;rw[c34,bH]at hT;refine Ao (by omega) ?_;exact⟨⟨k+1,by omega,by omega,els.symm,hT,St.dropLast (R:=[_]) H21⟩,by dsimp only;omega⟩
         ·have ed:x.done=true->paB x=decide (x.len=0/\x.data=[]/\x.come=[]):=fun h=>by rw[paB,aF h]
          refine H18.B 1 ?_;apply Al<;>intro c33
          ·refine H18.l 1 ?_;refine H18.l 0 ?_;apply Aa<;>intro c31
           ·exact⟨H18,by rw[c33,aM c31];rfl⟩
           ·refine H18.l 1 ?_;apply An<;>intro c30
            ·exact⟨H18,by rw[ed c33,aI (p:=x.len=0/\x.data=[]/\x.come=[]) (fun h=>c30 h.1),dY];rfl⟩
            ·refine H18.m 1 ?_;apply Aa<;>intro c29
             ·exact⟨H18,by rw[ed c33,aI (p:=x.len=0/\x.data=[]/\x.come=[]) (fun h=>by rw[h.2.1]at c29;simp at c29),dY];rfl⟩
             ·refine H18.m 1 ?_;apply Aa<;>intro c28
              ·exact⟨H18,by rw[ed c33,aI (p:=x.len=0/\x.data=[]/\x.come=[]) (fun h=>by rw[h.2.2]at c28;simp at c28),dY];rfl⟩
              ·refine H18.B 1 ?_;refine Bq (fun c27=>by rw[c33]at c27;cases c27) (fun c27=>?_)
               ·refine⟨H18,?_⟩;rw[aI c31,ed c33,aM ⟨c30,aK (by omega),aK (by omega)⟩];simp
          ·refine H18.B 1 ?_;refine Bq (fun c32=>?_) (fun c32=>by rw[c33]at c32;cases c32)
           ·refine⟨_,_,_,_,_,_,_,_,_,H18.cells (i:=1) rfl,?_⟩;refine(Aiz (hd.below H18.below) (hr.belowE H18.below) c33 hxl hxd).mono ?_;rintro _ w20 ⟨rfl,hb20⟩;have H20:=H18.pass hb20;clear H18;refine⟨_,rfl,?_⟩;exact⟨H20,by rw[c33];rfl⟩
        ·refine H14.l 1 ?_;apply Aa<;>intro c26
         ·exact no (fun h=>by have:=h.1.1;omega) H14.below
         ·refine H14.l 1 ?_;apply Aa<;>intro c25
          ·exact no (fun h=>by have:=h.1.2;omega) H14.below
          ·refine⟨_,_,_,_,_,_,_,_,_,_,_,_,_,_,_,_,H14.cells (i:=0) rfl,?_⟩;refine H14.l 1 ?_;refine(Bw hb).mono ?_;rintro _ w15 ⟨rfl,hb15⟩;have H15:=H14.pass hb15;clear H14;refine⟨_,rfl,?_⟩;apply Aa<;>intro c24
           ·exact no (fun h=>by omega) H15.below
           ·refine⟨_,_,_,_,_,_,_,_,_,_,_,_,_,_,_,_,H15.cells (i:=0) rfl,?_⟩;refine H15.l 1 ?_;refine(Bw hb).mono ?_;rintro _ w16 ⟨rfl,hb16⟩;have H16:=H15.pass hb16;clear H15;refine⟨_,rfl,?_⟩;apply Aa<;>intro c23
            ·exact no (fun h=>by omega) H16.below
            ·exact⟨H16,⟨by omega,by omega⟩,by omega,by omega⟩
       ·obtain rfl:k=s.parts.length:=by omega
        rw[bU]at hT;have hr:=Fb s s.next;refine Ao (by omega) ?_;refine Aw ?_;exact⟨by rw[hT];rfl,H12.below⟩
     ·refine H6.l 0 ?_;apply Aa<;>intro c22
      ·refine H6.l 0 ?_;apply An<;>intro c15
       ·exact⟨H6,bA (by decide) fun h=>by unfold Bt at h;omega⟩
       ·refine H6.l 0 ?_;apply An<;>intro c14
        ·refine H6.l 0 ?_;apply Aa<;>intro c13
         ·exact⟨H6,bA (by decide) fun h=>by unfold Bt at h;omega⟩
         ·refine H6.l 0 ?_;apply Aa<;>intro c12
          ·exact⟨H6,bA (by decide) fun h=>by unfold Bt at h;omega⟩
          ·refine⟨_,_,_,_,_,_,_,_,_,_,_,_,_,_,_,_,H6.cells (i:=0) rfl,?_⟩;refine H6.l 0 ?_;refine(Bw hb).mono ?_;rintro _ w7 ⟨rfl,hb7⟩;have H7:=H6.pass hb7;clear H6;refine⟨_,rfl,?_⟩;apply Aa<;>intro c11
           ·exact⟨H7,bA (by decide) fun h=>by unfold Bt at h;omega⟩
           ·refine⟨_,_,_,_,_,_,_,_,_,_,_,_,_,_,_,_,H7.cells (i:=0) rfl,?_⟩;refine H7.l 0 ?_;refine(Bw hb).mono ?_;rintro _ w8 ⟨rfl,hb8⟩;have H8:=H7.pass hb8;clear H7;refine⟨_,rfl,?_⟩;apply Aa<;>intro c10
            ·exact⟨H8,bA (by decide) fun h=>by unfold Bt at h;omega⟩
            ·refine H8.l 0 ?_;apply Aa<;>intro c9
             ·exact⟨H8,bA (by decide) fun h=>by unfold Bt at h;omega⟩
             ·refine H8.l 0 ?_;refine H8.l 0 ?_;exact⟨H8,by rw[cC];unfold Bt;omega⟩
        ·exact⟨H6,cP rfl (.inl ⟨c22,by omega⟩)⟩
      ·refine H6.l 0 ?_;apply An<;>intro c21
       ·refine H6.l 0 ?_;apply Aa<;>intro c20
        ·exact⟨H6,bA (by decide) fun h=>by unfold Bt at h;omega⟩
        ·refine H6.l 0 ?_;apply Aa<;>intro c19
         ·exact⟨H6,bA (by decide) fun h=>by unfold Bt at h;omega⟩
         ·refine⟨_,_,_,_,_,_,_,_,_,_,_,_,_,_,_,_,H6.cells (i:=0) rfl,?_⟩;refine H6.l 0 ?_;refine(Bw hb).mono ?_;rintro _ w9 ⟨rfl,hb9⟩;have H9:=H6.pass hb9;clear H6;refine⟨_,rfl,?_⟩;apply Aa<;>intro c18
          ·exact⟨H9,bA (by decide) fun h=>by unfold Bt at h;omega⟩
          ·refine⟨_,_,_,_,_,_,_,_,_,_,_,_,_,_,_,_,H9.cells (i:=0) rfl,?_⟩;refine H9.l 0 ?_;refine(Bw hb).mono ?_;rintro _ w10 ⟨rfl,hb10⟩;have H10:=H9.pass hb10;clear H9;refine⟨_,rfl,?_⟩;apply Aa<;>intro c17
           ·exact⟨H10,bA (by decide) fun h=>by unfold Bt at h;omega⟩
           ·refine H10.l 0 ?_;apply Aa<;>intro c16
            ·exact⟨H10,bA (by decide) fun h=>by unfold Bt at h;omega⟩
            ·refine H10.l 0 ?_;refine H10.l 0 ?_;exact⟨H10,by rw[cC];unfold Bt;omega⟩
       ·exact absurd c21 c22
    ·rw[Bbt hb];refine Ao (by have:=Oc hb;omega) ?_;apply Aa<;>intro c8
     ·exact⟨by rw[Vd fun h=>by have:=h.2.2.2.2.1;omega],H4.below⟩
     ·refine⟨_,_,_,_,_,_,_,_,_,_,_,_,_,_,_,_,H4.cells (i:=0) rfl,?_⟩;refine H4.l 0 ?_;refine(Bw hb).mono ?_;rintro _ w5 ⟨rfl,hb5⟩;have H5:=H4.pass hb5;clear H4;refine⟨_,rfl,?_⟩;apply Aa<;>intro c7
      ·exact⟨by rw[Vd fun h=>by have:=h.2.2.2.2.2.1;omega],H5.below⟩
      ·exact⟨H5,by omega,by omega⟩
  ·refine H2.l 0 ?_;apply Aa<;>intro c6
   ·exact⟨H2,bA (by decide) fun h=>by unfold Bt at h;omega⟩
   ·refine H2.l 0 ?_;apply Aa<;>intro c5
    ·exact⟨H2,bA (by decide) fun h=>by unfold Bt at h;omega⟩
    ·refine H2.l 0 ?_;apply Aa<;>intro c4
     ·exact⟨H2,bA (by decide) fun h=>by unfold Bt at h;omega⟩
     ·refine H2.l 0 ?_;apply Aa<;>intro c3
      ·exact⟨H2,bA (by decide) fun h=>by unfold Bt at h;omega⟩
      ·refine H2.l 0 ?_;apply Aa<;>intro c2
       ·exact⟨H2,bA (by decide) fun h=>by unfold Bt at h;omega⟩
       ·refine H2.l 0 ?_;apply Aa<;>intro c1
        ·exact⟨H2,bA (by decide) fun h=>by unfold Bt at h;omega⟩
        ·refine H2.l 0 ?_;apply Aa<;>intro c
         ·exact⟨H2,bA (by decide) fun h=>by unfold Bt at h;omega⟩
         ·refine H2.l 0 ?_;refine H2.l 0 ?_;exact⟨H2,by rw[cC];unfold Bt;omega⟩
end
end Go.Proofs.YtmbppohkadmjgaaGreat
namespace Go.Sx
theorem Aof{s:Rc}:∀ {L:List Pa} {last:Int},Fv s last L=true->last+L.length<=s.place s.next-1/\∀x∈L,paB x=true/\Bt s.lk.bits x.sn
 | [],last,h=>by
  simp only[Fv,aO]at h;exact⟨by simp;omega,fun x hx=>by simp at hx⟩
 |p::l,last,h=>by
  simp only[Fv,aH]at h;obtain⟨h1,h2⟩:=h;obtain⟨h3,h4⟩:=Aof h2;unfold Aqx at h1;simp only[aH,aO]at h1;refine⟨by simp only[aQ];omega,fun x hx=>?_⟩;rcases bB.1 hx with rfl|hx
  ·exact⟨h1.2,h1.1.1.1⟩
  ·exact h4 x hx
def FitP(L:List Pa):Prop:=L.length<=600/\∀x∈L,x.come.length<=3000/\x.data.length<=3000
theorem Ban{x:Pa}(h:paB x=true):x.come.length<=2055/\x.data.length<=2054:=by
 unfold paB at h;split at h
 ·rw[aV]at h;rw[h.2.1,h.2.2];simp
 ·rw[aH,aV]at h;exact⟨Ad0 h.1,h.1.2.2.2.2.2.1⟩
theorem Ty{s:Rc}(h:s.okB=true):FitP s.parts/\Ir s.lk/\Bt s.lk.bits s.first/\Bt s.lk.bits s.next/\Bt s.lk.bits s.upto/\(0<=s.quiet/\s.quiet<=s.lk.quiet)/\∀x∈s.parts,paB x=true/\Bt s.lk.bits x.sn:=by
 unfold Rc.okB Adg at h;simp only[aH,aO]at h;obtain⟨⟨⟨h1,h2,h3,h4,h5,h6,h7,h8⟩,hp⟩,_⟩:=h;have hb:=Oc h1.1;obtain⟨h9,h10⟩:=Aof hp;exact⟨⟨by omega,fun x hx=>by have:=Ban (h10 x hx).1;omega⟩,h1,h2,h3,h4,⟨h7,h8⟩,h10⟩
theorem FitP.sm{L:List Pa}(h:FitP L):SmP L:=⟨by have:=h.1;omega,fun x hx=>by have:=h.2 x hx;omega⟩
end Go.Sx
namespace Go.Proofs.YtmbppohkadmjgaaGreat
open Go.Sx Go.RowKit
set_option maxRecDepth 100000
structure PP where
 p:Pa
 a:Option Addr
 c:Nat
 a2:Option Addr
 c2:Nat
def Bf(x:PP):List Value:=Ix x.p x.a x.c x.a2 x.c2
theorem encPP_ok:Enc Bf 5:=⟨fun _=>rfl,fun _=>rfl⟩
def agP(x:PP):Res:=.ints Az .u8 x.a x.c x.p.data
def CoR(L:List PP)(w:World):Prop:=∀x∈L,SlR (CE Bn) 3 w x.a2 x.p.come
def DaP(L:List PP)(w:World):Prop:=∀x∈L,SlR (Bp .u8) 1 w x.a x.p.data/\x.p.data.length<=x.c
theorem Ayr{w:World}{e:TypeId}{k:IntKind}{a:Option Addr}{c:Nat}{ys:List Int}(h:(Res.ints e k a c ys).ok w):ys.length<=c:=by
 have h:Own w 0 e 1 a ys.length c (ys.map (Value.int k)):=h;rcases h.2 with ⟨hv,h0⟩|⟨g,cap,cur,hv,_,_,hnc,_⟩
 ·omega
 ·injection hv with _ _ h3;omega
theorem Bbx{w:World}{a:Option Addr}{L:List Pa}(h:PaR w a L):∃P:List PP,P.map (·.p)=L/\SlR (CE Bf) 5 w a P/\DaP P w/\CoR P w:=by
 rcases h with rfl|⟨b,rfl,hb⟩
 ·exact⟨[],rfl,.inl rfl,fun x hx=>by simp at hx,fun x hx=>by simp at hx⟩
 obtain⟨P,hP,hq⟩:=Abl (Q:=fun i (x:PP)=>∃h:i<L.length,x.p=L[i]/\cellsAt w (b.add (i*5)) 0 (Bf x)/\(SlR (Bp .u8) 1 w x.a x.p.data/\x.p.data.length<=x.c)/\SlR (CE Bn) 3 w x.a2 x.p.come) L.length fun i hi=>by
  obtain⟨a,c,a2,c2,h1,h2,h3,h4⟩:=hb i hi;exact⟨⟨L[i],a,c,a2,c2⟩,hi,rfl,h1,⟨h2,h4⟩,h3⟩
 refine⟨P,?_,.inr ⟨b,rfl,fun i hi=>?_⟩,fun x hx=>?_,fun x hx=>?_⟩
 ·apply cX (by simpa using hP);intro i h1 h2;obtain⟨_,e,_⟩:=hq i (by simpa using h1);simpa using e
 ·obtain⟨_,_,h,_⟩:=hq i hi;exact h
 ·obtain⟨i,hi,rfl⟩:=bF hx;obtain⟨_,_,_,h,_⟩:=hq i hi;exact h
 ·obtain⟨i,hi,rfl⟩:=bF hx;obtain⟨_,_,_,_,h⟩:=hq i hi;exact h
theorem Atc{w:World}{a:Option Addr}{P:List PP}(h:SlR (CE Bf) 5 w a P)(hd:DaP P w)(hr:CoR P w):PaR w a (P.map (·.p)):=by
 rcases h with rfl|⟨b,rfl,hb⟩
 ·exact .inl rfl
 refine .inr ⟨b,rfl,fun i hi=>?_⟩;have hi':i<P.length:=by simpa using hi
 have:=aJ hi';rw[eI];exact⟨P[i].a,P[i].c,P[i].a2,P[i].c2,hb i hi',(hd _ this).1,hr _ this,(hd _ this).2⟩
theorem Aik{A0:Nat->Prop}{w0 w:World}:∀ {L:List PP} {R:List Res} {P:World->Prop},St A0 [] w0 w (R++L.map agP) P->St A0 [] w0 w R fun w=>DaP L w/\P w
 | [],R,P,H=>by
  have:=H.imp (Q:=fun w=>DaP [] w/\P w) fun _ h=>⟨fun x hx=>by simp at hx,h⟩;simpa using this
 |x::L,R,P,H=>by
  have e:(R++(x::L).map agP)[R.length]?=some (agP x):=by simp
  have K:=(H.share e).sub (R':=R++L.map agP) (fun i=>if i<R.length then i else i+1) (fun i r hi=>by
   by_cases h:i<R.length
   ·rw[List.getElem?_append_left h]at hi;rw[aF h,List.getElem?_set_ne (by omega),List.getElem?_append_left h];exact hi
   ·rw[List.getElem?_append_right (by omega)]at hi;rw[aE h,List.getElem?_set_ne (by omega),List.getElem?_append_right (by omega),show i+1-R.length=(i-R.length)+1 by omega];simpa using hi) (fun i j _ _ h=>by
   by_cases h1:i<R.length<;>by_cases h2:j<R.length<;>simp only[h1,h2,dO,if_false]at h<;>omega)
  have K2:=Aik K;exact K2.imp fun _ h=>⟨fun y hy=>by
   rcases bB.1 hy with rfl|hy
   ·exact⟨(Oj h.2.1).sl,Ayr h.2.1⟩
   ·exact h.1 y hy,h.2.2⟩
theorem Bc4{A0:Nat->Prop}{w0 w:World}{X:List Res}{P:World->Prop}{L:List PP}{ua:Option Addr}{uc:Nat}(H:St A0 [] w0 w (X++.els Bf Ac 5 ua uc L::L.map agP) P)(hc:∀w,P w->CoR L w):PaR w ua (L.map (·.p)):=by
 have H':St A0 [] w0 w ((X++[.els Bf Ac 5 ua uc L])++L.map agP) P:=by simpa using H
 have K:=Aik H';exact Atc (K.slE (e:=Ac) (c:=uc) encPP_ok (i:=X.length) (by simp)) K.get.1 (hc _ K.get.2)
theorem Auf{L:List PP}{s_a:Option Addr}{s_c:Nat}{w:World}(hs:SlR (CE Bf) 5 w s_a L)(hl:L.length<=1000000):Calls Tryz.prog Dq #[(.slice s_a L.length s_c)] w fun e w'=>∃ra rc,e=.returned (.slice ra L.length rc)/\Cg w w' [.els Bf Ac 5 ra rc L]:=by
 apply Iz;have H:=St.nil w;cases s_a with
 |none=>
  obtain rfl:L=[]:=by
   rcases hs with h|⟨b,hb,_⟩
   ·exact h
   ·cases hb
  exact⟨none,0,rfl,H.nilE Bf Ac 5⟩
 |some p=>
  refine Al (fun h=>by cases h) (fun _=>?_);refine H.alloc ?_;clear H;intro b w1 H1;have H1:=H1.litE encPP_ok (i:=0) [] rfl (by decide);refine H1.appE encPP_ok (i:=0) rfl sl_Ty_S_api_Partial (hs.belowE H1.below) (by simp;omega) (by simp;omega) ?_;intro x_a x_c w2 H2;exact⟨x_a,x_c,rfl,H2⟩
def Bcg(w:World)(s:Rc)(e:Ending)(w':World):Prop:=
 ∃b ua uc L,L.map (·.p)=s.parts/\e=.returned (.pointer (some ⟨b,0,none⟩))/\
  St (fun _=>False) [] w w' (.blk b Cd (Bi s ua uc)::.els Bf Ac 5 ua uc L::L.map agP) (CoR L)
def Bci(w:World)(x:Rc)(e:Ending)(w':World):Prop:=
 ∃a c L,L.map (·.p)=x.parts/\e=.returned (Fw x a c)/\St (fun _=>False) [] w w' (.els Bf Ac 5 a c L::L.map agP) (CoR L)
section
variable{s:Rc}{a:Option Addr}{c:Nat}{w:World}
theorem Ps(hu:PaR w a s.parts)(hf:FitP s.parts):Calls Tryz.prog Ie #[Fw s a c] w (Bcg w s):=by
 apply Aeb;have H:=St.nil w;obtain⟨hf1,hf2⟩:=hf;obtain⟨L0,hL0,hs0,hd0,hr0⟩:=Bbx hu;have hlen:L0.length=s.parts.length:=by rw[<-hL0,bC]
 refine H.alloc ?_;clear H;intro b w1 H1;refine H1.m 0 ?_;rw[<-hlen];refine(Auf (hs0.belowE H1.below) (by omega)).mono ?_;rintro _ w2 ⟨ua,uc,rfl,K2⟩;have H2:=H1.callR K2;clear H1;simp only[aD,aC]at H2;refine⟨_,_,_,rfl,?_⟩;refine H2.U 0 ?_;clear H2;intro w3 H3;simp only[aA]at H3;replace H3:St (fun _=>False) [] w w3 [.blk b Ag (Bi s ua uc),.els Bf Ac 5 ua uc L0] (fun _=>True):=by
  have e:(Bi s a c).set 13 (.slice ua L0.length uc)=Bi s ua uc:=by rw[hlen];rfl
  rw[<-e];exact H3
 refine H3.m 0 ?_;refine⟨fun x1=>((s.parts.length-x1).toNat,fun w5=>∃(k:Nat) (L:List PP),x1=k/\k<=s.parts.length/\L.map (·.p)=s.parts/\L.drop k=L0.drop k/\
  St (fun _=>False) [] w w5 (.blk b Ag (Bi s ua uc)::.els Bf Ac 5 ua uc L::(L.take k).map agP) (CoR (L.take k))),
  ⟨0,L0,rfl,by omega,hL0,rfl,H3.imp fun _ _=>fun x hx=>by simp at hx⟩,?_⟩
 clear H3 K2;rintro _ x1 w4 ⟨k,L,rfl,hk,hL,hdr,H4⟩;have hlen5:L.length=s.parts.length:=by rw[<-hL,bC]
 apply Aa<;>intro c
 ·have hlt:k<L.length:=by omega
  have hlt0:k<L0.length:=by omega
  have hx0:L[k]=L0[k]:=by
   have h1:=aR hlt;have h2:=aR hlt0;rw[h1,h2]at hdr;injection hdr
  obtain⟨x,hx⟩:∃x,x=L[k]:=⟨_,rfl⟩;have hmem:x∈L0:=by rw[hx,hx0];exact aJ _
  have hmu:x.p∈s.parts:=by rw[<-hL0];exact cZ.2 ⟨x,hmem,rfl⟩
  obtain⟨hfr,hfd⟩:=hf2 _ hmu;refine H4.m 0 ?_;obtain⟨g,rfl,hg1,hg2⟩:=H4.rowSome (i:=1) rfl (by omega);refine Jx ⟨by omega,by omega⟩ ?_;refine H4.drew ?_;clear H4;intro w5 H5;simp only[Baz];refine⟨fun p=>p∈[(⟨g,k*5+4,none⟩:Addr)],?_⟩;have c53:=H5.cellEl encPP_ok (i:=1) rfl hlt (j:=3) (v:=.slice x.a x.p.data.length x.c) (by decide) (by rw[<-hx];rfl);have c54:=H5.cellEl encPP_ok (i:=1) rfl hlt (j:=4) (v:=.slice x.a2 x.p.come.length x.c2) (by decide) (by rw[<-hx];rfl);refine⟨_,_,_,c53,?_⟩;refine⟨by simp,?_⟩;refine⟨_,_,_,c54,?_⟩;refine(Od ((hd0 x hmem).1.below H5.below) (by omega)).mono ?_;rintro _ w6 ⟨ra,rc,rfl,K6⟩;have H6:=H5.callR K6;simp only[aD]at H6;refine⟨_,_,_,rfl,?_⟩;refine⟨Ajp c54 (H6.cellEl encPP_ok (i:=1) rfl hlt (j:=4) (by decide) (by rw[<-hx];rfl)),?_⟩;refine(Sq ((hr0 x hmem).belowE H6.below) (by omega)).mono ?_;rintro _ w7 ⟨ra2,rc2,rfl,K7⟩;have H7:=St.shareLast (R:=.blk b Ag (Bi s (some ⟨g,0,none⟩) uc)::.els Bf Ac 5 (some ⟨g,0,none⟩) uc L::((L.take k).map agP++[.ints Az .u8 ra rc x.p.data])) (H6.callR K7);refine⟨_,_,_,rfl,?_⟩;refine⟨Ajp c54 (H7.cellEl encPP_ok (i:=1) rfl hlt (j:=4) (by decide) (by rw[<-hx];rfl)),?_⟩;refine H7.setEl encPP_ok (i:=1) rfl hlt (j:=3) (by decide) ⟨x.p,ra,rc,x.a2,x.c2⟩ (by rw[<-hx];rfl) ?_;intro w8 f8 H8;simp only[aB,aA]at H8;have hlt9:k<(L.set k ⟨x.p,ra,rc,x.a2,x.c2⟩).length:=by simpa using hlt
  refine⟨Ajp c54 (H8.cellEl encPP_ok (i:=1) rfl hlt9 (j:=4) (by decide) (by simp;rfl)),?_⟩;refine H8.setEl encPP_ok (i:=1) rfl hlt9 (j:=4) (by decide) ⟨x.p,ra,rc,ra2,rc2⟩ (by simp;rfl) ?_;intro w9 f9 H9;simp only[aB,aA]at H9;rw[cF]at H9;refine Ao (by omega) ?_;refine⟨⟨k+1,L.set k ⟨x.p,ra,rc,ra2,rc2⟩,by omega,by omega,?_,?_,?_⟩,by omega⟩
  ·rw[<-hL];apply cX (by simp);intro i h1 h2;simp only[eI,List.getElem_set];split
   ·rename_i h;subst h;rw[hx]
   ·rfl
  ·rw[Aip];have h1:=aR hlt;have h2:=aR hlt0;rw[h1,h2]at hdr;injection hdr
  ·rw[Ahg hlt,bD];exact H9.imp fun _ h=>fun y hy=>by
    rcases aW.1 hy with hy|hy
    ·exact h.2 y hy
    ·simp at hy;subst hy;exact Sb Br h.1
 ·obtain rfl:k=s.parts.length:=by omega
  rw[bY (by omega)]at H4;refine⟨_,_,_,_,_,_,_,_,_,_,_,_,_,_,_,_,H4.cells (i:=0) rfl,?_⟩;refine H4.alloc ?_;clear H4;intro b2 w10 H10;refine⟨b2,ua,uc,L,hL,rfl,?_⟩;exact St.skip (X:=[]) (St.lastTo (X:=[_]) H10) |> fun H=>H
end
def RetR(w:World)(x:Rc)(E:Int)(e:Ending)(w':World):Prop:=
 ∃a c L,L.map (·.p)=x.parts/\e=.returned (.tuple #[Fw x a c,.int .i64 E])/\St (fun _=>False) [] w w' (.els Bf Ac 5 a c L::L.map agP) (CoR L)
theorem RetR.read{w w':World}{x:Rc}{E:Int}{e:Ending}(h:RetR w x E e w'):∃a c,e=.returned (.tuple #[Fw x a c,.int .i64 E])/\Ti w w' fun w=>PaR w a x.parts:=by
 obtain⟨a,c,L,hL,he,H⟩:=h;have K:=Aik (R:=[.els Bf Ac 5 a c L]) H;refine⟨a,c,he,?_⟩;rw[<-hL];exact(K.shareE encPP_ok (i:=0) rfl).fin.imp fun _ h=>Atc h.1 h.2.1 h.2.2
theorem Bcz{A0:Nat->Prop}{w w':World}{P:World->Prop}{x:Rc}{ua:Option Addr}{uc:Nat}{L:List PP}{X:List Res}(H:St A0 [] w w' (X++.els Bf Ac 5 ua uc L::L.map agP) P)(hP:∀w,P w->CoR L w):St A0 [] w w' (.els Bf Ac 5 ua uc L::L.map agP) (CoR L):=
 (H.sub (fun i=>i+X.length) (fun i r h=>by rw[List.getElem?_append_right (by omega),dL];exact h) (fun i j _ _ h=>by omega)).imp hP
theorem Axr{w w':World}{P:World->Prop}{ua:Option Addr}{uc:Nat}{L:List PP}{X:List Res}(x:Rc){E:Int}(H:St (fun _=>False) [] w w' (X++.els Bf Ac 5 ua uc L::L.map agP) P)(hL:L.map (·.p)=x.parts)(hP:∀w,P w->CoR L w):RetR w x E (.returned (.tuple #[Fw x ua uc,.int .i64 E])) w':=⟨ua,uc,L,hL,rfl,Bcz (x:=x) H hP⟩
theorem Bbl{w w':World}{P:World->Prop}{R:List Res}{E:Int}(H:St (fun _=>False) [] w w' R P):RetR w .zero E (.returned (.tuple #[Fw .zero none 0,.int .i64 E])) w':=
 ⟨none,0,[],rfl,rfl,(H.fin.nilE Bf Ac 5).weaken0.imp fun _ _=>fun x hx=>by simp at hx⟩
section
variable{s:Rc}{a:Option Addr}{c:Nat}{w:World}
theorem Ws(hu:PaR w a s.parts)(hf:FitP s.parts):Calls Tryz.prog Pp #[Fw s a c] w (Bci w s):=by
 apply Amp;have H:=St.nil w;obtain⟨hf1,hf2⟩:=hf;refine H.alloc ?_;clear H;intro b w1 H1;refine H1.alloc ?_;clear H1;intro b1 w2 H2;refine⟨_,_,_,_,_,_,_,_,_,_,_,_,_,_,_,_,H2.cells (i:=0) rfl,?_⟩;refine H2.alloc ?_;clear H2;intro b2 w3 H3;refine H3.s 2 ?_;clear H3;intro w4 H4;refine H4.U 2 ?_;clear H4;intro w5 H5;have H5:=H5.nilE Bf Ac 5;simp only[aB,aA,aD,aC]at H5;refine⟨fun i=>((s.parts.length-i).toNat,fun w6=>∃(k:Nat) (L:List PP) (ra:Option Addr) (rc:Nat),i=k/\k<=s.parts.length/\L.map (·.p)=s.parts.take k/\
  St (fun _=>False) [] w w6 (.blk b Ag (Bi s a c)::.blk b1 Ag (Bi .zero none 0)::.blk b2 Ag (Bi { s with parts:=s.parts.take k } ra rc)::.els Bf Ac 5 ra rc L::L.map agP) (CoR L)),
  ⟨0,[],none,0,rfl,by omega,rfl,H5.imp fun _ _=>fun x hx=>by simp at hx⟩,?_⟩
 clear H5;rintro _ i w6 ⟨k,L,ra,rc,rfl,hk,hL,H6⟩;have hlen:L.length=(s.parts.take k).length:=by rw[<-hL,bC]
 have hlen':L.length=k:=by rw[hlen,aU];omega
 refine H6.m 0 ?_;apply Aa<;>intro c0
 ·have hlt:k<s.parts.length:=by omega
  refine H6.m 0 ?_;refine Uu (Cw hu H6.below) k rfl hlt fun b3 hb3=>?_;obtain⟨u,hue⟩:∃u,u=s.parts[k]:=⟨_,rfl⟩;rw[<-hue]at hb3;have hmu:u∈s.parts:=by rw[hue];exact aJ _
  obtain⟨hfr,hfd⟩:=hf2 u hmu;obtain⟨a1,c1',a2,c2,hb3,hd,hr,_⟩:=hb3;refine⟨_,_,_,_,_,_,_,_,_,hb3,?_⟩;have K:=St.nil w6;refine K.alloc ?_;clear K;intro b4 w7 K7;simp only[aC]at K7;refine K7.s 0 ?_;clear K7;intro w8 K8;simp only[aA]at K8;refine K8.m 0 ?_;refine K8.appNew sl_Ty_S_uint8 (hd.below K8.below) (by omega) (by omega) ?_;intro da dc w9 K9;clear K8;simp only[aD,aC]at K9;refine K9.U 0 ?_;clear K9;intro w10 K10;simp only[aA]at K10;refine K10.m 0 ?_;refine K10.appNewE Br Bo (hr.belowE K10.below) (by omega) (by omega) ?_;intro qa qc w11 K11;simp only[aD,aC]at K11;refine K11.U 0 ?_;clear K11 K10;intro w12 K12;simp only[aA]at K12;obtain⟨nw,hnw⟩:∃nw:PP,nw=PP.mk u da dc qa qc:=⟨_,rfl⟩;have K12:=St.shareLast (R:=[_,_]) K12;replace K12:St (fun _=>False) [] w6 w12 [.blk b4 Ac (Bf nw),agP nw] (fun w=>(Res.els Bn Af 3 qa qc u.come).ok w/\True):=by rw[hnw];exact K12
  have H12:=H6.callF (K12.sub (R':=[agP nw]) (fun i=>i+1) (fun i r hi=>by simpa using hi) (fun i j _ _ h=>by omega));simp only[aD]at H12;refine H12.m 2 ?_;have c12:=K12.cells (i:=0) rfl;rw[hnw]at c12;refine⟨_,_,_,_,_,_,_,_,_,c12,?_⟩;refine H12.alloc ?_;clear H12 K12;intro b5 w13 H13;rw[<-hlen];have e13:[(Value.int .i64 u.sn),(.bool u.done),(.int .i64 u.len),(.slice da u.data.length dc),(.slice qa u.come.length qc)]=[nw].flatMap Bf:=by rw[hnw];rfl
  replace H13:St (fun _=>False) [] w w13 ((.blk b Ag (Bi s a c)::.blk b1 Ag (Bi .zero none 0)::.blk b2 Ag (Bi { s with parts:=s.parts.take k } ra rc)::.els Bf Ac 5 ra rc L::(L.map agP++[agP nw]))++[.blk b5 Ac ([nw].flatMap Bf)]) (fun w=>((Res.els Bn Af 3 qa qc u.come).ok w/\True)/\CoR L w):=by rw[<-e13];exact H13
  refine H13.appEL [nw] encPP_ok (i:=3) rfl sl_Ty_S_api_Partial rfl (by simp;omega) (by simp;omega) ?_;intro x_a x_c w14 H14;simp only[aB,aA]at H14;have hn:(s.parts.take (k+1))=s.parts.take k++[u]:=by rw[cA hlt,<-hue]
  rw[show (L++[nw]).length=(s.parts.take (k+1)).length by rw[hn,aP,aP,hlen];rfl];refine H14.U 2 ?_;clear H14 H13;intro w15 H15;simp only[aB,aA]at H15;refine Ao (by omega) ?_;refine⟨⟨k+1,L++[nw],x_a,x_c,by omega,by omega,?_,?_⟩,by first|omega|(dsimp only;omega)⟩
  ·rw[bD,hL,hn,hnw];rfl
  ·rw[bD];exact H15.imp fun _ h=>fun y hy=>by
    rcases aW.1 hy with hy|hy
    ·exact h.2 y hy
    ·simp at hy;subst hy;rw[hnw];exact Sb Br h.1.1
 ·obtain rfl:k=s.parts.length:=by omega
  rw[bI]at H6 hL;refine⟨_,_,_,_,_,_,_,_,_,_,_,_,_,_,_,_,H6.cells (i:=2) rfl,?_⟩;refine H6.s 1 ?_;clear H6;intro w16 H16;refine⟨_,_,_,_,_,_,_,_,_,_,_,_,_,_,_,_,H16.cells (i:=1) rfl,?_⟩;refine⟨ra,rc,L,hL,rfl,?_⟩;exact Bcz (x:=s) (X:=[_,_,_]) H16 fun _ h=>h
theorem St.startR{A0:Nat->Prop}{M:List Nat}{w0 w:World}{R:List Res}{P:World->Prop}{g i:Nat}(H:St A0 M w0 w R P)(hi:R[i]?=some (Gj g s a c))(hb:Bv s.lk.bits){K:Ending->World->Prop}
 (h:∀w',St A0 M w0 w' (R.set i (Gj g (startR s) a c)) P->K (.returned (.tuple #[])) w'):Calls Tryz.prog Dw #[(.pointer (some ⟨g,0,none⟩))] w K:=by
 obtain⟨A,hA,hn',hr,hc⟩:=H.callM hi;refine(Yp hb hA hr hn').mono ?_;rintro _ w2 ⟨rfl,S⟩;have:=hc S;rw[aL]at this;exact h w2 (this.imp fun _ h=>h.2)
theorem St.pollR{A0:Nat->Prop}{M:List Nat}{w0 w:World}{R:List Res}{P:World->Prop}{g i:Nat}{p:Pc}{pa:Option Addr}{pc:Nat}(H:St A0 M w0 w R P)(hi:R[i]?=some (Gj g s a c)){K:Ending->World->Prop}
 (h:∀w',St A0 M w0 w' (R.set i (Gj g (pollR s p) a c)) P->K (.returned (.tuple #[])) w'):Calls Tryz.prog Fi #[(.pointer (some ⟨g,0,none⟩)),An0 p pa pc] w K:=by
 obtain⟨A,hA,hn',hr,hc⟩:=H.callM hi;refine(Aax (p:=p) (pa:=pa) (pc:=pc) hA hr hn').mono ?_;rintro _ w2 ⟨rfl,S⟩;have:=hc S;rw[aL]at this;exact h w2 (this.imp fun _ h=>h.2)
theorem Aq1{s:Rc}(h:s.okB=true):0<=s.left/\s.left<=1000:=by
 have hf:=(Ty h).2.1;unfold Rc.okB at h;rw[aH]at h;have h1:=Uo.1 h.2;have:=hf.2.2.2.1;omega
theorem Akj(hu:PaR w a s.parts)(hl:SmP s.parts):Calls Tryz.prog Rw #[Fw s a c] w (RetR w (Gv s).1 (Gv s).2):=by
 apply Af5;have H:=St.nil w;refine H.alloc ?_;clear H;intro b w1 H1;refine H1.alloc ?_;clear H1;intro b1 w2 H2;refine⟨_,_,_,_,_,_,_,_,_,_,_,_,_,_,_,_,H2.cells (i:=0) rfl,?_⟩;refine(Oq (Cw hu H2.below) hl).mono ?_;rintro _ w3 ⟨rfl,hb3⟩;have H3:=H2.pass hb3;clear H2;refine⟨_,rfl,?_⟩;apply Bq<;>intro c3
 ·refine H3.s 1 ?_;clear H3;intro w4 H4;refine⟨_,_,_,_,_,_,_,_,_,_,_,_,_,_,_,_,H4.cells (i:=1) rfl,?_⟩;rw[Gv,aF c3];exact Bbl H4
 ·obtain⟨hf,hlk,hs1,hs2,hs3,hq,-⟩:=Ty c3;have hb:=hlk.1;have hlq:=hlk.2.2.2.2.1;have hlf:=Aq1 c3;rw[Gv,aE (by rw[c3];decide)];refine⟨_,_,_,_,_,_,_,_,_,_,_,_,_,_,_,_,H3.cells (i:=0) rfl,?_⟩;refine(Ps (Cw hu H3.below) hf).mono ?_;rintro _ w5 ⟨g5,ua5,uc5,L5,hL5,rfl,K5⟩;have H5:=H3.callF K5;clear H3;simp only[aD,aC]at H5;refine⟨_,rfl,?_⟩;refine Bk ?_;try rw[Bd]
  refine H5.l 2 ?_;refine Ao (by omega) ?_;refine Bk ?_;try rw[Bd]
  obtain⟨t,ht⟩:∃t:Rc,t=Ah0 s:=⟨_,rfl⟩;have htl:t.left=s.left:=by rw[ht];rfl
  have htk:t.lk=s.lk:=by rw[ht];rfl
  rw[<-ht];have hL5:L5.map (·.p)=t.parts:=by rw[hL5,ht];rfl
  refine H5.U 2 ?_;clear H5;intro w6 H6;replace H6:St (fun _=>False) [] w w6 (.blk b Ag (Bi s a c)::.blk b1 Ag (Bi .zero none 0)::.blk g5 Cd (Bi t ua5 uc5)::.els Bf Ac 5 ua5 uc5 L5::L5.map agP) (fun w=>CoR L5 w/\True):=by rw[ht];exact H6
  refine Bk ?_;try rw[Bd]
  refine H6.l 2 ?_;rw[show s.left=t.left from htl.symm];apply Aa<;>intro c2
  ·refine Bk ?_;try rw[Bd]
   refine⟨_,_,_,_,_,_,_,_,_,_,_,_,_,_,_,_,H6.cells (i:=2) rfl,?_⟩;refine H6.s 1 ?_;clear H6;intro w7 H7;refine⟨_,_,_,_,_,_,_,_,_,_,_,_,_,_,_,_,H7.cells (i:=1) rfl,?_⟩;rw[aF c2];exact Axr (X:=[_,_,_]) t H7 hL5 fun _ h=>h.1
  ·rw[aE c2];obtain⟨u,hu'⟩:∃u:Rc,u={ t with left:=t.left-1 }:=⟨_,rfl⟩;have hul:u.left=t.left-1:=by rw[hu']
   have huk:u.lk=t.lk:=by rw[hu']
   have hL6:L5.map (·.p)=u.parts:=by rw[hL5,hu']
   rw[<-hu'];obtain⟨v,hv⟩:∃v:Rc,v=Ak2 u:=⟨_,rfl⟩;have hvp:v.parts=u.parts:=by rw[hv,Ace]
   rw[<-hv];unfold Ak2 at hv;refine⟨fun w19=>St (fun _=>False) [] w w19 (.blk b Ag (Bi s a c)::.blk b1 Ag (Bi .zero none 0)::.blk g5 Cd (Bi v ua5 uc5)::.els Bf Ac 5 ua5 uc5 L5::L5.map agP) (fun w=>CoR L5 w/\True),?_,?_⟩
   ·rintro _ w19 H19;refine Bk ?_;try rw[Bd]
    refine⟨_,_,_,_,_,_,_,_,_,_,_,_,_,_,_,_,H19.cells (i:=2) rfl,?_⟩;refine H19.s 1 ?_;clear H19;intro w20 H20;refine⟨_,_,_,_,_,_,_,_,_,_,_,_,_,_,_,_,H20.cells (i:=1) rfl,?_⟩;exact Axr (X:=[_,_,_]) v H20 (by rw[hL6,hvp]) fun _ h=>h.1
   ·refine Bk ?_;try rw[Bd]
    refine H6.l 2 ?_;refine Ao (by omega) ?_;refine Bk ?_;try rw[Bd]
    refine H6.U 2 ?_;clear H6;intro w8 H8;replace H8:St (fun _=>False) [] w w8 (.blk b Ag (Bi s a c)::.blk b1 Ag (Bi .zero none 0)::.blk g5 Cd (Bi u ua5 uc5)::.els Bf Ac 5 ua5 uc5 L5::L5.map agP) (fun w=>CoR L5 w/\True):=by rw[hu'];exact H8
    refine Bk ?_;try rw[Bd]
    refine H8.l 2 ?_;apply Aa<;>intro c1
    ·rw[aE (by omega)]at hv;refine H8.drew ?_;clear H8;intro w9 H9;refine⟨(· <w9.heap.size),?_⟩;refine Bk ?_;try rw[Bd]
     refine H9.l 2 ?_;refine Bk ?_;try rw[Bd]
     refine⟨H9.lt (i:=2) rfl rfl,?_⟩;refine H9.l 2 ?_;have hb':Bv u.lk.bits:=by rw[huk,htk];exact hb
     refine(Bh (H9.cells (i:=2) rfl) hb').mono ?_;rintro _ w10 ⟨rfl,hb10⟩;have H10:=H9.pass hb10;refine⟨_,rfl,?_⟩;refine⟨hb10.keeps,?_⟩;refine(Bh (H10.cells (i:=2) rfl) hb').mono ?_;rintro _ w11 ⟨rfl,hb11⟩;have H11:=H10.pass hb11;refine⟨_,rfl,?_⟩;replace hb11:=Ax hb10 (aG _) hb11;refine⟨hb11.keeps,?_⟩;apply Aa<;>intro c
     ·refine Bk ?_;try rw[Bd]
      refine H11.l 2 ?_;refine Bk ?_;try rw[Bd]
      refine H11.U 2 ?_;clear H11;intro w12 H12;refine Bk ?_;try rw[Bd]
      refine H12.U 2 ?_;clear H12;intro w13 H13;refine Bk ?_;try rw[Bd]
      refine H13.U 2 ?_;clear H13;intro w14 H14;rw[aF c]at hv;refine St.startR (s:={ u with upto:=u.mark,due:=true,mark:=-1 }) H14 (i:=2) rfl hb' ?_;intro w15 H15;refine⟨rfl,?_⟩;rw[hv];exact H15
     ·refine Bk ?_;try rw[Bd]
      refine H11.U 2 ?_;clear H11;intro w16 H16;refine Bk ?_;try rw[Bd]
      refine H16.U 2 ?_;clear H16;intro w17 H17;rw[aE c]at hv;refine St.startR (s:={ u with upto:=u.upto,due:=true,mark:=-1 }) H17 (i:=2) rfl hb' ?_;intro w18 H18;refine⟨rfl,?_⟩;rw[hv];exact H18
    ·rw[aF (by omega)]at hv;rw[hv];exact H8
end
section
variable{s:Rc}{a:Option Addr}{c:Nat}{w:World}
theorem Ol(hb:Bv s.lk.bits):Calls Tryz.prog Jt #[Fw s a c] w fun e w'=>e=.returned (Fw (startR s) a c)/\Below w.heap.size w w':=by
 apply Ako;have H:=St.nil w;obtain⟨t,ht⟩:∃t:Rc,t=Mg s:=⟨_,rfl⟩;have e0:startR s=Za t:=by rw[ht];rfl
 rw[e0];unfold Mg at ht;refine H.alloc ?_;clear H;intro b w1 H1;refine H1.alloc ?_;clear H1;intro b1 w2 H2;refine⟨fun w11=>St (fun _=>False) [] w w11 [.blk b Ag (Bi t a c),.blk b1 Ag (Bi .zero none 0)] (fun _=>True),?_,?_⟩
 ·rintro _ w11 H11;refine H11.l 0 ?_;apply Aa<;>intro c4
  ·refine H11.l 0 ?_;refine H11.l 0 ?_;apply An<;>intro c3
   ·refine H11.l 0 ?_;refine H11.l 0 ?_;refine H11.set (i:=0) rfl (by simp[Bi]) ?_;clear H11;intro w12 H12;refine H12.set (i:=0) rfl (by simp[Bi]) ?_;clear H12;intro w13 H13;refine⟨_,_,_,_,_,_,_,_,_,_,_,_,_,_,_,_,H13.cells (i:=0) rfl,?_⟩;refine H13.s 1 ?_;clear H13;intro w14 H14;refine⟨_,_,_,_,_,_,_,_,_,_,_,_,_,_,_,_,H14.cells (i:=1) rfl,?_⟩;exact⟨by rw[Za,aF ⟨c4,c3⟩],H14.below⟩
   ·refine⟨_,_,_,_,_,_,_,_,_,_,_,_,_,_,_,_,H11.cells (i:=0) rfl,?_⟩;refine H11.s 1 ?_;clear H11;intro w15 H15;refine⟨_,_,_,_,_,_,_,_,_,_,_,_,_,_,_,_,H15.cells (i:=1) rfl,?_⟩;exact⟨by rw[Za,aE (fun h=>h.2 c3)],H15.below⟩
  ·refine⟨_,_,_,_,_,_,_,_,_,_,_,_,_,_,_,_,H11.cells (i:=0) rfl,?_⟩;refine H11.s 1 ?_;clear H11;intro w16 H16;refine⟨_,_,_,_,_,_,_,_,_,_,_,_,_,_,_,_,H16.cells (i:=1) rfl,?_⟩;exact⟨by rw[Za,aE (fun h=>c4 h.1)],H16.below⟩
 ·refine H2.drew ?_;clear H2;intro w3 H3;refine⟨(· <w3.heap.size),?_⟩;refine H3.l 0 ?_;apply An<;>intro c2
  ·refine⟨_,_,_,_,_,_,_,_,_,_,_,_,_,_,_,_,H3.cells (i:=0) rfl,?_⟩;refine H3.l 0 ?_;refine(Bw hb).mono ?_;rintro _ w4 ⟨rfl,hb4⟩;have H4:=H3.pass hb4;refine⟨_,rfl,?_⟩;refine⟨hb4.keeps,?_⟩;apply Aa<;>intro c1
   ·refine H4.set (i:=0) rfl (by simp[Bi]) ?_;clear H4;intro w5 H5;refine H5.set (i:=0) rfl (by simp[Bi]) ?_;clear H5;intro w6 H6;rw[ht,aF ⟨c2,.inl c1⟩];exact H6
   ·refine⟨H3.lt (i:=0) rfl rfl,?_⟩;refine⟨_,_,_,_,_,_,_,_,_,_,_,_,_,_,_,_,H3.cells (i:=0) rfl,?_⟩;refine⟨H3.lt (i:=0) rfl rfl,?_⟩;refine H3.l 0 ?_;refine⟨H3.lt (i:=0) rfl rfl,?_⟩;refine⟨_,_,_,_,_,_,_,_,_,_,_,_,_,_,_,_,H3.cells (i:=0) rfl,?_⟩;refine⟨H3.lt (i:=0) rfl rfl,?_⟩;refine H3.l 0 ?_;refine(Bw hb).mono ?_;rintro _ w7 ⟨rfl,hb7⟩;have H7:=H4.pass hb7;refine⟨_,rfl,?_⟩;replace hb7:=Ax hb4 (aG _) hb7;refine⟨hb7.keeps,?_⟩;refine(Bw hb).mono ?_;rintro _ w8 ⟨rfl,hb8⟩;have H8:=H7.pass hb8;refine⟨_,rfl,?_⟩;replace hb8:=Ax hb7 (aG _) hb8;refine⟨hb8.keeps,?_⟩;apply Aa<;>intro c0
    ·refine H8.set (i:=0) rfl (by simp[Bi]) ?_;clear H8;intro w9 H9;refine H9.set (i:=0) rfl (by simp[Bi]) ?_;clear H9;intro w10 H10;rw[ht,aF ⟨c2,.inr c0⟩];exact H10
    ·rw[ht,aE (fun h=>h.2.elim c1 c0)];exact H8
  ·rw[ht,aE (fun h=>h.1 c2)];exact H3
theorem Ap0(hu:PaR w a s.parts)(hl:SmP s.parts):Calls Tryz.prog Ze #[Fw s a c] w (RetR w (Gv s).1 (Gv s).2):=by
 apply Amm;have H:=St.nil w;refine H.alloc ?_;clear H;intro b w1 H1;refine H1.alloc ?_;clear H1;intro b1 w2 H2;refine⟨_,_,_,_,_,_,_,_,_,_,_,_,_,_,_,_,H2.cells (i:=0) rfl,?_⟩;refine(Pf (Cw hu H2.below) hl).mono ?_;rintro _ w3 ⟨rfl,hb3⟩;have H3:=H2.pass hb3;clear H2;refine⟨_,rfl,?_⟩;apply Bq<;>intro c3
 ·refine H3.s 1 ?_;clear H3;intro w4 H4;refine⟨_,_,_,_,_,_,_,_,_,_,_,_,_,_,_,_,H4.cells (i:=1) rfl,?_⟩;rw[Gv,aF c3];exact Bbl H4
 ·obtain⟨hf,hlk,hs1,hs2,hs3,hq,-⟩:=Ty c3;have hb:=hlk.1;have hlq:=hlk.2.2.2.2.1;have hlf:=Aq1 c3;rw[Gv,aE (by rw[c3];decide)];refine⟨_,_,_,_,_,_,_,_,_,_,_,_,_,_,_,_,H3.cells (i:=0) rfl,?_⟩;refine(Ws (Cw hu H3.below) hf).mono ?_;rintro _ w5 ⟨ua5,uc5,L5,hL5,rfl,K5⟩;have H5:=H3.callF K5;clear H3;simp only[aD,aC]at H5;refine⟨_,_,_,_,_,_,_,_,_,_,_,_,_,_,_,_,rfl,?_⟩;refine H5.alloc ?_;clear H5;intro b2 w6 H6;have H6:=St.lastTo (X:=[_,_,_]) H6;simp only[aD,aC]at H6;refine H6.s 3 ?_;clear H6;intro w7 H7;refine H7.l 3 ?_;refine Ao (by omega) ?_;obtain⟨t,ht⟩:∃t:Rc,t=Ah0 s:=⟨_,rfl⟩;have htl:t.left=s.left:=by rw[ht];rfl
  have htk:t.lk=s.lk:=by rw[ht];rfl
  rw[<-ht];have hL5:L5.map (·.p)=t.parts:=by rw[hL5,ht];rfl
  refine H7.U 3 ?_;clear H7;intro w8 H8;replace H8:St (fun _=>False) [] w w8 (.blk b Ag (Bi s a c)::.blk b1 Ag (Bi .zero none 0)::.els Bf Ac 5 ua5 uc5 L5::.blk b2 Ag (Bi t ua5 uc5)::L5.map agP) (fun w=>CoR L5 w/\True):=by rw[ht];exact H8
  refine H8.l 3 ?_;rw[show s.left=t.left from htl.symm];apply Aa<;>intro c2
  ·refine⟨_,_,_,_,_,_,_,_,_,_,_,_,_,_,_,_,H8.cells (i:=3) rfl,?_⟩;refine H8.s 1 ?_;clear H8;intro w9 H9;refine⟨_,_,_,_,_,_,_,_,_,_,_,_,_,_,_,_,H9.cells (i:=1) rfl,?_⟩;rw[aF c2];exact Axr (X:=[_,_]) t (St.skip (X:=[_,_,_]) H9) hL5 fun _ h=>h.1
  ·rw[aE c2];obtain⟨u,hu'⟩:∃u:Rc,u={ t with left:=t.left-1 }:=⟨_,rfl⟩;have hul:u.left=t.left-1:=by rw[hu']
   have huk:u.lk=t.lk:=by rw[hu']
   have hb':Bv u.lk.bits:=by rw[huk,htk];exact hb
   have hL6:L5.map (·.p)=u.parts:=by rw[hL5,hu']
   rw[<-hu'];obtain⟨v,hv⟩:∃v:Rc,v=Ak2 u:=⟨_,rfl⟩;have hvp:v.parts=u.parts:=by rw[hv,Ace]
   rw[<-hv];unfold Ak2 at hv;refine H8.l 3 ?_;refine Ao (by omega) ?_;refine H8.U 3 ?_;clear H8;intro w10 H10;replace H10:St (fun _=>False) [] w w10 (.blk b Ag (Bi s a c)::.blk b1 Ag (Bi .zero none 0)::.els Bf Ac 5 ua5 uc5 L5::.blk b2 Ag (Bi u ua5 uc5)::L5.map agP) (fun w=>CoR L5 w/\True):=by rw[hu'];exact H10
   refine H10.l 3 ?_;apply Aa<;>intro c1
   ·refine⟨_,_,_,_,_,_,_,_,_,_,_,_,_,_,_,_,H10.cells (i:=3) rfl,?_⟩;refine H10.s 1 ?_;clear H10;intro w11 H11;refine⟨_,_,_,_,_,_,_,_,_,_,_,_,_,_,_,_,H11.cells (i:=1) rfl,?_⟩;have e:v=u:=by rw[hv,aF c1]
    rw[e,hu']at*;exact Axr (X:=[_,_]) _ (St.skip (X:=[_,_,_]) H11) hL6 fun _ h=>h.1
   ·rw[aE c1]at hv;refine H10.drew ?_;clear H10;intro w12 H12;refine⟨(· <w12.heap.size),?_⟩;refine⟨_,_,_,_,_,_,_,_,_,_,_,_,_,_,_,_,H12.cells (i:=3) rfl,?_⟩;refine H12.l 3 ?_;refine⟨H12.lt (i:=3) rfl rfl,?_⟩;refine⟨_,_,_,_,_,_,_,_,_,_,_,_,_,_,_,_,H12.cells (i:=3) rfl,?_⟩;refine⟨H12.lt (i:=3) rfl rfl,?_⟩;refine H12.l 3 ?_;refine(Bw (s:=u) hb').mono ?_;rintro _ w13 ⟨rfl,hb13⟩;have H13:=H12.pass hb13;refine⟨_,rfl,?_⟩;refine⟨hb13.keeps,?_⟩;refine(Bw (s:=u) hb').mono ?_;rintro _ w14 ⟨rfl,hb14⟩;have H14:=H13.pass hb14;refine⟨_,rfl,?_⟩;replace hb14:=Ax hb13 (aG _) hb14;refine⟨hb14.keeps,?_⟩;apply Aa<;>intro c0
    ·refine H14.l 3 ?_;refine H14.U 3 ?_;clear H14;intro w15 H15;refine H15.U 3 ?_;clear H15;intro w16 H16;refine H16.U 3 ?_;clear H16;intro w17 H17;rw[aF c0]at hv;refine⟨_,_,_,_,_,_,_,_,_,_,_,_,_,_,_,_,H17.cells (i:=3) rfl,?_⟩;refine(Ol (s:={ u with upto:=u.mark,due:=true,mark:=-1 }) hb').mono ?_;rw[<-hv];rintro _ w18 ⟨rfl,hb18⟩;have H18:=H17.pass hb18;clear H17;refine⟨_,_,_,_,_,_,_,_,_,_,_,_,_,_,_,_,rfl,?_⟩;refine H18.s 1 ?_;clear H18;intro w19 H19;refine⟨_,_,_,_,_,_,_,_,_,_,_,_,_,_,_,_,H19.cells (i:=1) rfl,?_⟩;exact Axr (X:=[_,_]) v (St.skip (X:=[_,_,_]) H19) (by rw[hL6,hvp]) fun _ h=>h.1
    ·refine H14.U 3 ?_;clear H14;intro w20 H20;refine H20.U 3 ?_;clear H20;intro w21 H21;rw[aE c0]at hv;refine⟨_,_,_,_,_,_,_,_,_,_,_,_,_,_,_,_,H21.cells (i:=3) rfl,?_⟩;refine(Ol (s:={ u with upto:=u.upto,due:=true,mark:=-1 }) hb').mono ?_;rw[<-hv];rintro _ w22 ⟨rfl,hb22⟩;have H22:=H21.pass hb22;clear H21;refine⟨_,_,_,_,_,_,_,_,_,_,_,_,_,_,_,_,rfl,?_⟩;refine H22.s 1 ?_;clear H22;intro w23 H23;refine⟨_,_,_,_,_,_,_,_,_,_,_,_,_,_,_,_,H23.cells (i:=1) rfl,?_⟩;exact Axr (X:=[_,_]) v (St.skip (X:=[_,_,_]) H23) (by rw[hL6,hvp]) fun _ h=>h.1
end
end Go.Proofs.YtmbppohkadmjgaaGreat
