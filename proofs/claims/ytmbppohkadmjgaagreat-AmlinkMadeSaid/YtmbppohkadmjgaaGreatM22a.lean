import Derived.Test.YtmbppohkadmjgaaGreatM21a
import Derived.Test.YtmbppohkadmjgaaGreatM18
import Derived.Test.YtmbppohkadmjgaaGreatM20
import Derived.Test.YtmbppohkadmjgaaGreatM20b
import Derived.Test.YtmbppohkadmjgaaGreatM21b
import Derived.Test.YtmbppohkadmjgaaGreatDead
namespace Go.Proofs.YtmbppohkadmjgaaGreat
open Go.Sx Go.RowKit
structure Pl where
 s:Sd
 r:Rc
 us:List (List Int)
 wy:List (List Int)
 bk:List (List Int)
 ot:List (List Int)
def Mq(p:Pl):Pl×Bool:=match p.us with
 | []=>(p,false)
 |d::l=>if (Lj p.s d (Cq p.s)).2=0 then ({ p with s:=(Lj p.s d (Cq p.s)).1,us:=l },true) else (p,false)
def Kc(p:Pl)(size:Int):Pl×Bool:=
 if (Ca p.s size (Cq p.s)).2.2=0 then ({ p with s:=(Ca p.s size (Cq p.s)).1,wy:=p.wy++[(Ca p.s size (Cq p.s)).2.1] },true) else (p,false)
def Em(p:Pl)(keep:Bool):Pl:=match p.wy with
 | []=>p
 |d::l=>{ p with r:=if (It p.r d).2.2=1 then p.r else (It p.r d).1,ot:=if (It p.r d).2.1=[] then p.ot else p.ot++[(It p.r d).2.1],wy:=if keep then p.wy else l }
def Ra(p:Pl)(size:Int):Pl:=if (Fu p.r size).2.2=0 then { p with r:=(Fu p.r size).1,bk:=p.bk++[(Fu p.r size).2.1] } else p
def Tc(s:Sd)(bs:List Int):Sd:=if (Mv s.lk.bits bs).2=0/\(Sp s (Mv s.lk.bits bs).1).2=0 then (Sp s (Mv s.lk.bits bs).1).1 else s
def Ht(p:Pl)(keep:Bool):Pl:=match p.bk with
 | []=>p
 |d::l=>{ p with s:=Tc p.s d,bk:=if keep then p.bk else l }
def Ag1(p:Pl):Pl:={ p with s:=if (Hr p.s (Cq p.s)).2=0 then (Hr p.s (Cq p.s)).1 else p.s,r:=if (Gv p.r).2=0 then (Gv p.r).1 else p.r }
end Go.Proofs.YtmbppohkadmjgaaGreat
namespace Go.Sx
open Go.RowKit
structure BL where
 d:List Int
 a:Option Addr
 c:Nat
def Ic(x:BL):List Value:=[.slice x.a x.d.length x.c]
theorem Eu:Enc Ic 1:=⟨fun _=>rfl,fun _=>rfl⟩
def DaB(L:List BL)(w:World):Prop:=∀x∈L,SlR (Bp .u8) 1 w x.a x.d/\x.d.length<=x.c
def QC(w:World)(p:Addr)(d:List Int):Prop:=∃a c,cellsAt w p 0 [.slice a d.length c]/\SlR (Bp .u8) 1 w a d/\d.length<=c
abbrev QR(w:World)(a:Option Addr)(Q:List (List Int)):Prop:=SlR QC 1 w a Q
theorem QC.keep{w w':World}{p:Addr}{x:List Int}(h:QC w p x)(hb:Below w.heap.size w w'):QC w' p x:=by
 obtain⟨a,c,h1,h2,h3⟩:=h;exact⟨a,c,He (fun _ _ hp _=>hb.get hp) h1,h2.below hb,h3⟩
theorem DaB.below{w w':World}{L:List BL}(h:DaB L w)(hb:Below w.heap.size w w'):DaB L w':=fun x hx=>⟨(h x hx).1.below hb,(h x hx).2⟩
abbrev QL(L:List BL)(a:Option Addr)(w:World):Prop:=SlR (CE Ic) 1 w a L/\DaB L w
structure Qu where
 a:Option Addr
 c:Nat
 all:List BL
 n:Nat
 p:Option Addr
def Qu.live(q:Qu):List BL:=q.all.drop q.n
def Qu.nil:Qu:=⟨none,0,[],0,none⟩
abbrev Qu.sl(q:Qu):Value:=.slice q.p (q.all.length-q.n) (q.c-q.n)
def Qu.ok(q:Qu):Prop:=q.n<=q.all.length/\q.all.length<=1000000/\(q.p=Ay q.c q.n 1 q.a\/(q.c=q.n/\q.all.length=q.n/\∃b,q.p=some b))
theorem Qu.nil_ok:Qu.nil.ok:=⟨aG _,aX _,.inl rfl⟩
def Qu.next(q:Qu):Qu:={ q with n:=q.n+1,p:=Ay (q.c-q.n) 1 1 q.p }
theorem Qu.next_ok{q:Qu}(h:q.ok)(hl:q.n<q.all.length)(hc:q.all.length<=q.c)(ha:∃g,q.a=some g):q.next.ok:=by
 obtain⟨a,c,all,n,p⟩:=q;obtain⟨h1,h2,h3⟩:=h;obtain⟨g,rfl⟩:=ha;dsimp only at*;refine⟨by show n+1<=all.length;omega,h2,?_⟩;rcases h3 with rfl|⟨rfl,h4,_⟩
 ·show Ay (c-n) 1 1 (Ay c n 1 (some g))=Ay c (n+1) 1 (some g)\/(c=n+1/\all.length=n+1/\∃b,Ay (c-n) 1 1 (Ay c n 1 (some g))=some b);have e1:Ay c n 1 (some g)=some (g.add (n*1)):=by unfold Ay;rw[aE (by omega)];rfl
  rw[e1];by_cases e:c-n=1
  ·refine .inr ⟨by omega,by omega,g.add (n*1),?_⟩;unfold Ay;rw[aF e]
  ·refine .inl ?_;unfold Ay;rw[aE e,aE (by omega)];show some ((g.add (n*1)).add (1*1))=some (g.add ((n+1)*1));congr 1;unfold Addr.add;by_cases hn:n=0
   ·subst hn;simp
   ·simp[hn,Nat.add_assoc]
 ·omega
theorem Qu.sl_live{q:Qu}{w:World}(h:q.ok)(hc:q.all.length<=q.c)(hs:SlR (CE Ic) 1 w q.a q.all):SlR (CE Ic) 1 w q.p q.live:=by
 rcases h.2.2 with e|⟨e1,e2,_⟩
 ·rw[e];exact hs.tailE hc
 ·exact .inl (bZ (by omega))
section
variable{A0:Nat->Prop}{M:List Nat}{w0 w:World}{R:List Res}{P:World->Prop}{i j lit:Nat}{t e t0:TypeId}{sz c bytes:Nat}{z:Value}{Pr:Program}{α:Type}{enc:α->List Value}{all:List α}{a:Option Addr}
theorem St.appEmpty(H:St A0 M w0 w R P)(hE:Enc enc sz)(hi:R[i]?=some (.els enc e sz a c all))(b:Addr)(x:α)(hj:R[j]?=some (.blk lit t0 (enc x)))(hT:SlTy Pr t e sz bytes z)(hby:bytes<=1000){ty:TypeId}{F:Option Addr->Nat->Nat->World->Prop}
 (h:∀(g2 c2:Nat) (w':World),St A0 M w0 w' (R.set i (.els enc e sz (some ⟨g2,0,none⟩) c2 [x])) P->F (some ⟨g2,0,none⟩) 1 c2 w'):
 Da Pr #[t,t] ty #[.slice (some b) 0 0,.slice (some ⟨lit,0,none⟩) 1 1] w F:=by
 obtain⟨inf,hinf,hz,hs,hb⟩:=hT.info;have hpos:=hT.pos;have hnews:∀k u,(enc x)[k]?=some u->w.cell? ((⟨lit,0,none⟩:Addr).add k)=some u:=fun k u hk=>by
  rw[Bd,aN];exact H.cell hj hk
 have hxl:(enc x).length=1*sz:=by rw[hE.len];omega
 obtain⟨v',w',hrun,hown,hgrow⟩:=run_append_arg_grows (P:=Pr) w t ty e inf z sz bytes hT.ht hinf hz hs hb hT.hz hpos b 0 0 [] (by simp) (fun k u hk=>by simp at hk) ⟨lit,0,none⟩ 1 1 (enc x) hxl hnews (by omega) (by unfold maxLen;omega) (by omega);obtain⟨hl2,hv2|⟨g2,cap2,cur2,hv2,hg2,hh2,hnc2,hcm2,hcs2,ht2⟩⟩:=hown
 ·omega
 subst hv2;have hnew:(Res.els enc e sz (some ⟨g2,0,none⟩) cap2 [x]).ok w':=by
  show Own w' 0 e sz (some ⟨g2,0,none⟩) [x].length cap2 ([x].flatMap enc);have e5:[x].flatMap enc=[]++enc x:=by simp
  rw[e5];exact⟨hl2,.inr ⟨g2,cap2,cur2,rfl,aX _,hh2,hnc2,hcm2,hcs2,ht2⟩⟩
 have H2:=H.upd hi (w':=w') (r':=.els enc e sz (some ⟨g2,0,none⟩) cap2 [x]) ⟨hgrow.os,hgrow.tape,hgrow.output,hgrow.size,fun k hk _=>hgrow.block k hk (by simp)⟩ hnew (fun b' hb'=>by
  right;have hb':some g2=some b':=hb';injection hb' with hb'
  omega)
 exact⟨_,_,_,_,hrun,h g2 cap2 w' H2⟩
end
end Go.Sx
namespace Go.Proofs.YtmbppohkadmjgaaGreat
open Go.Sx Go.RowKit
set_option maxRecDepth 100000
abbrev Qu.row(q:Qu):Res:=.els Ic As 1 q.a q.c q.all
section
variable{A0:Nat->Prop}{M:List Nat}{w0 w:World}{R:List Res}{P:World->Prop}{i j g lit:Nat}{t t0:TypeId}{z:Value}
theorem As4(c:Nat)(a:Option Addr):Ay c 0 1 a=a:=by
 unfold Ay;split
 ·rfl
 ·cases a<;>simp[add_zero]
theorem Bah(H:St A0 M w0 w R P){q:Qu}(hi:R[i]?=some (Qu.row q))(hq:q.ok)(hlen:q.all.length<1000000)(x:BL)(hj:R[j]?=some (.blk lit t0 (Ic x)))(hij:i≠j)(hT:SlTy Tryz.prog t As 1 24 z){ty:TypeId}{F:Option Addr->Nat->Nat->World->Prop}
 (h:∀(q':Qu) (w':World),q'.ok->q'.live=q.live++[x]->q'.all.length<=q.all.length+1->St A0 M w0 w' ((R.set i (Qu.row q')).set j .gone) P->F q'.p (q'.all.length-q'.n) (q'.c-q'.n) w'):
 Da Tryz.prog #[t,t] ty #[q.sl,.slice (some ⟨lit,0,none⟩) 1 1] w F:=by
 obtain⟨a,c,all,n,p⟩:=q;obtain⟨hn,hlm,hp⟩:=hq;dsimp only at hn hlm hp hlen hi;have hgone:∀ {w':World} {r:Res},St A0 M w0 w' (R.set i r) P->St A0 M w0 w' ((R.set i r).set j .gone) P:=fun {w' r} H'=>H'.drop (i:=j) (by rw[List.getElem?_set_ne hij];exact hj);rcases hp with rfl|⟨rfl,hal,b,rfl⟩
 ·rcases dK all.length with h0|h0
  ·have hal:all=[]:=aK h0;subst hal;obtain rfl:n=0:=by simpa using hn
   show Da Tryz.prog #[t,t] ty #[.slice (Ay c 0 1 a) (0-0) (c-0),.slice (some ⟨lit,0,none⟩) 1 1] w F;rw[As4,dJ,dJ];refine H.appEB Eu (i:=i) (j:=j) (ys:=[]) hi [x] (by simpa using hj) hT rfl (by simp) (by simp) ?_;intro a' c' w' H';exact h ⟨a',c',[x],0,a'⟩ w' ⟨by simp,by simp,.inl (As4 _ _).symm⟩ rfl (by simp) H'
  ·obtain⟨g,rfl,-⟩:=H.rowSome hi h0;refine H.appDead Eu hi n hn x hj hT (by omega) (by omega) ?_;intro a0 c0 all' n' w' h1 h2 h3 H';have hl:all'.length-n'=all.length-n+1:=by
    have:=cI List.length h3;simpa using this
   have:=h ⟨a0,c0,all',n',Ay c0 n' 1 a0⟩ w' ⟨h2,by dsimp only;omega,.inl rfl⟩ h3 (by dsimp only;omega) (hgone H');dsimp only at this;rw[hl]at this;exact this
 ·show Da Tryz.prog #[t,t] ty #[.slice (some b) (all.length-c) (c-c),.slice (some ⟨lit,0,none⟩) 1 1] w F;rw[hal,cL];refine H.appEmpty Eu hi b x hj hT (by omega) ?_;intro g2 c2 w' H';refine h ⟨some ⟨g2,0,none⟩,c2,[x],0,some ⟨g2,0,none⟩⟩ w' ⟨by simp,by simp,.inl (As4 _ _).symm⟩ ?_ (by simp) (hgone H');show [x]=all.drop c++[x];rw[bZ (by omega)];rfl
end
section
variable{A0:Nat->Prop}{M:List Nat}{w0 w:World}{R:List Res}{P:World->Prop}{i j b o:Nat}{t:TypeId}{cs:List Value}
theorem Sl(H:St A0 M w0 w R P){q:Qu}(hb:R[i]?=some (.blk b t cs))(hc:cs[o]?=some q.sl)(hj:R[j]?=some (Qu.row q))(hij:i≠j)(hq:q.ok)(hlen:q.all.length<1000000)(x:BL){K:Ending->World->Prop}
 (h:∀(q':Qu) (w':World),q'.ok->q'.live=q.live++[x]->q'.all.length<=q.all.length+1->St A0 M w0 w' ((R.set j (Qu.row q')).set i (.blk b t (cs.set o q'.sl))) P->K (.returned (.tuple #[])) w'):
 Calls Tryz.prog Jk #[.pointer (some ⟨b,o,none⟩),.slice x.a x.d.length x.c] w K:=by
 apply Aan;have hil:=(List.getElem?_eq_some_iff.1 hb).1;have hjl:=(List.getElem?_eq_some_iff.1 hj).1;refine H.ldS (i:=i) hb hc ?_;refine H.alloc ?_;clear H;intro lit w1 H1;refine Bah H1 (i:=j) (j:=R.length) (q:=q) (by rw[List.getElem?_append_left hjl];exact hj) hq hlen x (show (R++[Res.blk lit As (Ic x)])[R.length]?=some (.blk lit As (Ic x)) by simp) (by omega) Agm ?_;intro q' w2 h1 h2 h3 H2;have e:((R++[Res.blk lit As [.slice x.a x.d.length x.c]]).set j (Qu.row q')).set R.length .gone=R.set j (Qu.row q')++[.gone]:=by
  rw[dV _ _ hjl,cH _ _ (by simp)];simp
 rw[e]at H2;have H2:=St.dropLast H2;refine H2.set (i:=i) (by rw[List.getElem?_set_ne (Ne.symm hij)];exact hb) (List.getElem?_eq_some_iff.1 hc).1 ?_;intro w3 H3;exact h q' w3 h1 h2 h3 H3
end
structure Am where
 s:Sd
 sa:Option Addr
 sc:Nat
 r:Rc
 ra:Option Addr
 rc:Nat
 u:Qu
 wy:Qu
 bk:Qu
 ot:Qu
def Am.enc(B:Bool)(x:Am):List Value:=match B with
 |false=>[.int .i64 x.s.lk.bits,.int .i64 x.s.lk.every,.int .i64 x.s.lk.poll,.int .i64 x.s.lk.wait,.int .i64 x.s.lk.quiet,.int .i64 x.s.lk.tries,.int .i64 x.s.first,.int .i64 x.s.next,.slice x.sa x.s.units.length x.sc,.int .i64 x.s.pieces,.int .i64 x.s.poll,.int .i64 x.s.left,.bool x.s.failed,
  .int .i64 x.r.lk.bits,.int .i64 x.r.lk.every,.int .i64 x.r.lk.poll,.int .i64 x.r.lk.wait,.int .i64 x.r.lk.quiet,.int .i64 x.r.lk.tries,.int .i64 x.r.first,.int .i64 x.r.next,.int .i64 x.r.upto,.int .i64 x.r.mark,.int .i64 x.r.left,.int .i64 x.r.quiet,.bool x.r.due,.slice x.ra x.r.parts.length x.rc,
  x.u.sl,x.wy.sl,x.bk.sl,x.ot.sl]
 |true=>[.int .i64 x.s.lk.bits,.int .i64 x.s.lk.every,.int .i64 x.s.lk.poll,.int .i64 x.s.lk.wait,.int .i64 x.s.lk.quiet,.int .i64 x.s.lk.tries,.int .i64 x.s.first,.int .i64 x.s.next,.slice x.sa x.s.units.length x.sc,.int .i64 x.s.pieces,.int .i64 x.s.poll,.int .i64 x.s.left,.bool x.s.failed,
  .int .i64 x.r.lk.bits,.int .i64 x.r.lk.every,.int .i64 x.r.lk.poll,.int .i64 x.r.lk.wait,.int .i64 x.r.lk.quiet,.int .i64 x.r.lk.tries,.int .i64 x.r.first,.int .i64 x.r.next,.int .i64 x.r.upto,.int .i64 x.r.mark,.int .i64 x.r.left,.int .i64 x.r.quiet,.bool x.r.due,.slice x.ra x.r.parts.length x.rc,
  .slice x.u.a x.u.all.length x.u.c,.int .i64 x.u.n,x.wy.sl,x.bk.sl,x.ot.sl]
def kTy(B:Bool):TypeId:=match B with
 |false=>Afa
 |true=>Ot
abbrev Am.hold(x:Am)(w:World):Prop:=UnR w x.sa x.s.units/\PaR w x.ra x.r.parts/\QL x.u.all x.u.a w/\DaB x.wy.live w/\DaB x.bk.live w/\DaB x.ot.live w
structure Am.ok (m:Nat) (x:Am):Prop where
 su:SmU x.s.units
 gp:GP x.r.parts
 uo:x.u.ok
 uc:x.u.all.length<=x.u.c
 wo:x.wy.ok
 wl:x.wy.all.length<=m
 wb:∀y∈x.wy.live,Bytes y.d/\y.d.length<=100000
 bo:x.bk.ok
 bl:x.bk.all.length<=m
 bb:∀y∈x.bk.live,Bytes y.d/\y.d.length<=100000
 oo:x.ot.ok
 ol:x.ot.all.length<=m
abbrev Ae9(B:Bool)(b:Nat)(x:Am):List Res:=[.blk b (kTy B) (x.enc B),Qu.row x.wy,Qu.row x.bk,Qu.row x.ot]
abbrev AmS(B:Bool)(A0:Nat->Prop)(w0 w:World)(b:Nat)(x:Am)(P:World->Prop):Prop:=St A0 [] w0 w (Ae9 B b x) fun w=>x.hold w/\P w
section
variable{A0:Nat->Prop}{M:List Nat}{w0 w:World}{R:List Res}{P:World->Prop}{i j b o:Nat}{t:TypeId}{cs:List Value}
theorem Gn(H:St A0 M w0 w R P){q:Qu}(hb:R[i]?=some (.blk b t cs))(hc:cs[o]?=some q.sl)(hj:R[j]?=some (Qu.row q))(hij:i≠j)(hq:q.ok)(keep:Bool){K:Ending->World->Prop}
 (h0:q.live=[]->K (.returned (.tuple #[.slice none 0 0,.bool false])) w)
 (h1:∀(y:BL) (l:List BL) (w':World),q.live=y::l->(keep=false->q.next.ok/\q.next.live=l)->St A0 M w0 w' (R.set i (.blk b t (if keep then cs else cs.set o q.next.sl))) P->K (.returned (.tuple #[.slice y.a y.d.length y.c,.bool true])) w'):
 Calls Tryz.prog Df #[.pointer (some ⟨b,o,none⟩),.bool keep] w K:=by
 apply Xr;have hcap:q.all.length<=q.c:=H.capE hj;have hll:q.live.length=q.all.length-q.n:=by simp[Qu.live]
 refine H.ldS (i:=i) hb hc ?_;apply Aa<;>intro c
 ·exact h0 (aK (by omega))
 obtain⟨y,l,hl⟩:∃y l,q.live=y::l:=by
  cases hq':q.live with
  |nil=>rw[hq']at hll;simp at hll;omega
  |cons y l=>exact⟨y,l,rfl⟩
 refine H.ldS (i:=i) hb hc ?_;have hs:=Qu.sl_live hq hcap (H.slE Eu hj);have hix:∀ {F:Addr->Prop},(∀b y,q.live[0]?=some y->CE Ic w (b.add ((0:Int).toNat*1)) y->F b)->kIx q.p (q.all.length-q.n) 0 F:=fun {F} hF=>by
  rw[<-hll];exact ixE hs 0 rfl (by rw[hl];simp) hF
 refine hix fun b1 y' hy' hb1=>?_;obtain rfl:y=y':=by rw[hl]at hy';exact Option.some.inj hy'
 refine⟨_,_,_,hb1.1,?_⟩;cases keep with
 |true=>
  refine Bq (fun c=>by cases c) (fun _=>?_);refine h1 y l w hl (fun h=>by cases h) ?_;rw[aF rfl,Ds hb];exact H
 |false=>
  refine Bq (fun _=>?_) (fun c=>by cases c);refine H.ldS (i:=i) hb hc ?_;refine⟨⟨by omega,by omega⟩,?_⟩;refine H.set (i:=i) hb (List.getElem?_eq_some_iff.1 hc).1 ?_;clear H;intro w1 H1;have hlt:q.n<q.all.length:=by omega
  refine h1 y l w1 hl (fun _=>⟨Qu.next_ok hq hlt hcap (by obtain⟨g,hg,-⟩:=H1.rowSome (i:=j) (by rw[List.getElem?_set_ne hij];exact hj) (by omega);exact⟨_,hg⟩),?_⟩) ?_
  ·show q.all.drop (q.n+1)=l;have:q.all.drop q.n=y::l:=hl;rw[<-List.tail_drop,this];rfl
  ·have e:q.next.sl=.slice (Ay (q.c-q.n) ((1:Int).toNat) 1 q.p) (q.all.length-q.n-(1:Int).toNat) (q.c-q.n-(1:Int).toNat):=by
    show Value.slice (Ay (q.c-q.n) 1 1 q.p) (q.all.length-(q.n+1)) (q.c-(q.n+1))=_;rw[Nat.sub_sub,Nat.sub_sub];rfl
   simp only[Bool.false_eq_true,if_false];rw[e];exact H1
end
def Avr(B:Bool)(f:Nat):Prop:=∀ {A0:Nat->Prop} {w0 w:World} {b:Nat} {x:Am} {P:World->Prop} {m:Nat} {K:Ending->World->Prop} {size:Int} (H:AmS B A0 w0 w b x P) (hx:x.ok m) (hm:m<1000000) (hsz: -9223372036854775808<=size/\size<=9223372036854775807)
 (hbs:Bytes (Ca x.s size (Cq x.s)).2.1/\(Ca x.s size (Cq x.s)).2.1.length<=100000) (hsu:SmU (Ca x.s size (Cq x.s)).1.units)
 (h0:∀w',(Ca x.s size (Cq x.s)).2.2≠0->AmS B A0 w0 w' b x P->K (.returned (.bool false)) w')
 (h1:∀(sa:Option Addr) (sc:Nat) (wy:Qu) (w':World),(Ca x.s size (Cq x.s)).2.2=0->wy.live.map (·.d)=x.wy.live.map (·.d)++[(Ca x.s size (Cq x.s)).2.1]->
  Am.ok (m+1) { x with s:=(Ca x.s size (Cq x.s)).1,sa:=sa,sc:=sc,wy:=wy }->AmS B A0 w0 w' b { x with s:=(Ca x.s size (Cq x.s)).1,sa:=sa,sc:=sc,wy:=wy } P->K (.returned (.bool true)) w'),
 Calls Tryz.prog f #[.pointer (some ⟨b,0,none⟩),.int .i64 size] w K
section
variable{A0:Nat->Prop}{w0 w:World}{b:Nat}{x:Am}{P:World->Prop}{m:Nat}{K:Ending->World->Prop}
theorem Sk:Avr false Jl:=by
 intro A0 w0 w b x P m K size H hx hm hsz hbs hsu h0 h1;apply Aa2;refine⟨_,_,_,_,_,_,_,_,_,_,_,_,_,_,_,H.cellsAt (i:=0) (o:=0) (vs:=Aq x.s x.sa x.sc) rfl rfl,?_⟩;refine(Alk H.get.1.1 hx.su hsz).mono ?_;obtain⟨B,hB⟩:∃B,B=Ca x.s size (Cq x.s):=⟨_,rfl⟩;rw[<-hB]at hbs hsu h0 h1 ⊢;rintro _ w1 ⟨sa,sc,ba,bc,hbc,rfl,K1⟩;have H1:=H.callF K1;clear H K1;rw[aL]at H1;refine⟨_,_,_,_,_,_,_,_,_,_,_,_,_,_,_,_,_,_,_,rfl,?_⟩;refine H1.alloc ?_;clear H1;intro b1 w2 H2;simp only[aD,aC]at H2;refine H2.s 4 ?_;clear H2;intro w3 H3;simp only[aB,aA]at H3;apply An<;>intro c
 ·exact h0 w3 c ((St.left (X:=[_,_,_,_]) H3).imp fun w h=>h.2)
 ·refine⟨_,_,_,_,_,_,_,_,_,_,_,_,_,_,_,H3.cells (i:=4) rfl,?_⟩;refine H3.storeAt (i:=0) (o:=0) rfl (by show 0+13<=31;decide) (by rfl) ?_;clear H3;intro w4 H4;simp only[aA]at H4;replace H4:St A0 [] w0 w4 (Ae9 false b { x with s:=B.1,sa:=sa,sc:=sc }) (fun w=>(UnR w sa B.1.units/\SlR (Bp .u8) 1 w ba B.2.1)/\x.hold w/\P w):=St.left (X:=[_,_,_,_]) H4;refine Sl (q:=x.wy) H4 (i:=0) (j:=1) (o:=28) rfl rfl rfl (by decide) hx.wo (by have:=hx.wl;omega) ⟨B.2.1,ba,bc⟩ ?_;intro q' w5 g1 g2 g3 H5;refine⟨rfl,?_⟩;refine h1 sa sc q' w5 c (by rw[g2,bD];rfl) ?_ ?_
  ·refine⟨hsu,hx.gp,hx.uo,hx.uc,g1,by have:=hx.wl;show q'.all.length<=m+1;omega,fun y hy=>?_,hx.bo,aY hx.bl,hx.bb,hx.oo,aY hx.ol⟩;rw[show ({ x with s:=B.1,sa:=sa,sc:=sc,wy:=q' }:Am).wy.live=q'.live from rfl,g2]at hy;rcases aW.1 hy with hy|hy
   ·exact hx.wb y hy
   ·obtain rfl:y=⟨B.2.1,ba,bc⟩:=by simpa using hy
    exact hbs
  ·refine St.imp (P:=fun w=>(UnR w sa B.1.units/\SlR (Bp .u8) 1 w ba B.2.1)/\x.hold w/\P w) H5 fun w h=>⟨⟨h.1.1,h.2.1.2.1,h.2.1.2.2.1,?_,h.2.1.2.2.2.2⟩,h.2.2⟩;intro y hy;rw[show ({ x with s:=B.1,sa:=sa,sc:=sc,wy:=q' }:Am).wy.live=q'.live from rfl,g2]at hy;rcases aW.1 hy with hy|hy
   ·exact h.2.1.2.2.2.1 y hy
   ·obtain rfl:y=⟨B.2.1,ba,bc⟩:=by simpa using hy
    exact⟨h.1.2,hbc⟩
end
def Asz(B:Bool)(f:Nat):Prop:=∀ {A0:Nat->Prop} {w0 w:World} {b:Nat} {x:Am} {P:World->Prop} {m:Nat} {K:Ending->World->Prop} {size:Int} (H:AmS B A0 w0 w b x P) (hx:x.ok m) (hm:m<1000000)
 (hbs:Bytes (Fu x.r size).2.1/\(Fu x.r size).2.1.length<=100000) (hgp:GP (Fu x.r size).1.parts)
 (h0:∀w',(Fu x.r size).2.2≠0->AmS B A0 w0 w' b x P->K (.returned (.tuple #[])) w')
 (h1:∀(ra:Option Addr) (rc:Nat) (bk:Qu) (w':World),(Fu x.r size).2.2=0->bk.live.map (·.d)=x.bk.live.map (·.d)++[(Fu x.r size).2.1]->
  Am.ok (m+1) { x with r:=(Fu x.r size).1,ra:=ra,rc:=rc,bk:=bk }->AmS B A0 w0 w' b { x with r:=(Fu x.r size).1,ra:=ra,rc:=rc,bk:=bk } P->K (.returned (.tuple #[])) w'),
 Calls Tryz.prog f #[.pointer (some ⟨b,0,none⟩),.int .i64 size] w K
section
variable{A0:Nat->Prop}{w0 w:World}{b:Nat}{x:Am}{P:World->Prop}{m:Nat}{K:Ending->World->Prop}
theorem Ri:Asz false Hw:=by
 intro A0 w0 w b x P m K size H hx hm hbs hgp h0 h1;apply Yg;refine⟨_,_,_,_,_,_,_,_,_,_,_,_,_,_,_,_,H.cellsAt (i:=0) (o:=13) (vs:=Bi x.r x.ra x.rc) rfl rfl,?_⟩;refine(Aft H.get.1.2.1 hx.gp.sm).mono ?_;obtain⟨B,hB⟩:∃B,B=Fu x.r size:=⟨_,rfl⟩;rw[<-hB]at hbs hgp h0 h1 ⊢;rintro _ w1 hh;obtain⟨ra,rc,ba,bc,hbc,rfl,K1⟩:=hh.read;have H1:=H.callF K1;clear H K1 hh;rw[aL]at H1;refine⟨_,_,_,_,_,_,_,_,_,_,_,_,_,_,_,_,_,_,_,_,rfl,?_⟩;refine H1.alloc ?_;clear H1;intro b1 w2 H2;simp only[aD,aC]at H2;refine H2.s 4 ?_;clear H2;intro w3 H3;simp only[aB,aA]at H3;apply Aa<;>intro c
 ·refine⟨_,_,_,_,_,_,_,_,_,_,_,_,_,_,_,_,H3.cells (i:=4) rfl,?_⟩;refine H3.storeAt (i:=0) (o:=13) rfl (by show 13+14<=31;decide) (by rfl) ?_;clear H3;intro w4 H4;simp only[aA]at H4;replace H4:St A0 [] w0 w4 (Ae9 false b { x with r:=B.1,ra:=ra,rc:=rc }) (fun w=>(PaR w ra B.1.parts/\SlR (Bp .u8) 1 w ba B.2.1)/\x.hold w/\P w):=St.left (X:=[_,_,_,_]) H4;refine Sl (q:=x.bk) H4 (i:=0) (j:=2) (o:=29) rfl rfl rfl (by decide) hx.bo (by have:=hx.bl;omega) ⟨B.2.1,ba,bc⟩ ?_;intro q' w5 g1 g2 g3 H5;refine⟨rfl,?_⟩;refine h1 ra rc q' w5 c (by rw[g2,bD];rfl) ?_ ?_
  ·refine⟨hx.su,hgp,hx.uo,hx.uc,hx.wo,aY hx.wl,hx.wb,g1,by have:=hx.bl;show q'.all.length<=m+1;omega,fun y hy=>?_,hx.oo,aY hx.ol⟩;rw[show ({ x with r:=B.1,ra:=ra,rc:=rc,bk:=q' }:Am).bk.live=q'.live from rfl,g2]at hy;rcases aW.1 hy with hy|hy
   ·exact hx.bb y hy
   ·obtain rfl:y=⟨B.2.1,ba,bc⟩:=by simpa using hy
    exact hbs
  ·refine St.imp (P:=fun w=>(PaR w ra B.1.parts/\SlR (Bp .u8) 1 w ba B.2.1)/\x.hold w/\P w) H5 fun w h=>⟨⟨h.2.1.1,h.1.1,h.2.1.2.2.1,h.2.1.2.2.2.1,?_,h.2.1.2.2.2.2.2⟩,h.2.2⟩;intro y hy;rw[show ({ x with r:=B.1,ra:=ra,rc:=rc,bk:=q' }:Am).bk.live=q'.live from rfl,g2]at hy;rcases aW.1 hy with hy|hy
   ·exact h.2.1.2.2.2.2.1 y hy
   ·obtain rfl:y=⟨B.2.1,ba,bc⟩:=by simpa using hy
    exact⟨h.1.2,hbc⟩
 ·exact h0 w3 c ((St.left (X:=[_,_,_,_]) H3).imp fun w h=>h.2)
def Am.tS(x:Am):Sd:=if (Hr x.s (Cq x.s)).2=0 then (Hr x.s (Cq x.s)).1 else x.s
def Am.tR(x:Am):Rc:=if (Gv x.r).2=0 then (Gv x.r).1 else x.r
def Azp(B:Bool)(f:Nat):Prop:=∀ {A0:Nat->Prop} {w0 w:World} {b:Nat} {x:Am} {P:World->Prop} {m:Nat} {K:Ending->World->Prop} (H:AmS B A0 w0 w b x P) (hx:x.ok m) (hsu:SmU x.tS.units)
 (h:∀(sa:Option Addr) (sc:Nat) (ra:Option Addr) (rc:Nat) (w':World),Am.ok m { x with s:=x.tS,sa:=sa,sc:=sc,r:=x.tR,ra:=ra,rc:=rc }->
  AmS B A0 w0 w' b { x with s:=x.tS,sa:=sa,sc:=sc,r:=x.tR,ra:=ra,rc:=rc } P->K (.returned (.tuple #[])) w'),
 Calls Tryz.prog f #[.pointer (some ⟨b,0,none⟩)] w K
theorem Uf:Azp false Ko:=by
 intro A0 w0 w b x P m K H hx hsu h;apply Aci;refine⟨fun w5=>∃(sa:Option Addr) (sc:Nat),AmS false A0 w0 w5 b { x with s:=x.tS,sa:=sa,sc:=sc } P,?_,?_⟩
 ·rintro _ w5 ⟨sa,sc,H5⟩;clear H;refine⟨_,_,_,_,_,_,_,_,_,_,_,_,_,_,_,_,H5.cellsAt (i:=0) (o:=13) (vs:=Bi x.r x.ra x.rc) rfl rfl,?_⟩;refine(Akj H5.get.1.2.1 hx.gp.sm).mono ?_;have hg:=Ar5 hx.gp;have hte:x.tR=if (Gv x.r).2=0 then (Gv x.r).1 else x.r:=rfl
  obtain⟨T,hT⟩:∃T,T=Gv x.r:=⟨_,rfl⟩;rw[<-hT]at hg hte ⊢;rintro _ w6 hh;obtain⟨ra,rc,rfl,K1⟩:=hh.read;have H6:=H5.callF K1;clear H5 K1 hh;rw[aL]at H6;refine⟨_,_,_,_,_,_,_,_,_,_,_,_,_,_,_,_,_,rfl,?_⟩;refine H6.alloc ?_;clear H6;intro b1 w7 H7;simp only[aD,aC]at H7;refine H7.s 4 ?_;clear H7;intro w8 H8;simp only[aB,aA]at H8;apply Aa<;>intro c
  ·refine⟨_,_,_,_,_,_,_,_,_,_,_,_,_,_,_,_,H8.cells (i:=4) rfl,?_⟩;refine H8.storeAt (i:=0) (o:=13) rfl (by show 13+14<=31;decide) (by rfl) ?_;clear H8;intro w9 H9;simp only[aA]at H9;rw[aF c]at hte;refine h sa sc ra rc w9 ⟨hsu,by show GP x.tR.parts;rw[hte];exact hg,hx.uo,hx.uc,hx.wo,hx.wl,hx.wb,hx.bo,hx.bl,hx.bb,hx.oo,hx.ol⟩ ?_;rw[hte];exact St.imp (P:=fun w=>PaR w ra T.1.parts/\Am.hold { x with s:=x.tS,sa:=sa,sc:=sc } w/\P w) (St.left (X:=[_,_,_,_]) H9) fun w h=>⟨⟨h.2.1.1,h.1,h.2.1.2.2⟩,h.2.2⟩
  ·rw[aE c]at hte;refine h sa sc x.ra x.rc w8 ⟨hsu,by show GP x.tR.parts;rw[hte];exact hx.gp,hx.uo,hx.uc,hx.wo,hx.wl,hx.wb,hx.bo,hx.bl,hx.bb,hx.oo,hx.ol⟩ ?_;rw[hte];exact(St.left (X:=[_,_,_,_]) H8).imp fun w h=>h.2
 ·refine⟨_,_,_,_,_,_,_,_,_,_,_,_,_,_,_,H.cellsAt (i:=0) (o:=0) (vs:=Aq x.s x.sa x.sc) rfl rfl,?_⟩;refine(Anu H.get.1.1 hx.su).mono ?_;have hte:x.tS=if (Hr x.s (Cq x.s)).2=0 then (Hr x.s (Cq x.s)).1 else x.s:=rfl
  obtain⟨T,hT⟩:∃T,T=Hr x.s (Cq x.s):=⟨_,rfl⟩;rw[<-hT]at hte ⊢;rintro _ w1 hh;obtain⟨sa,sc,L,hL,rfl,K0⟩:=hh;have K1:=(Gp (R:=[.els Ba Ae 5 sa sc L]) K0).shareE Bm (i:=0) rfl;have H1:=H.callF K1.fin;clear H K0 K1;rw[aL]at H1;refine⟨_,_,_,_,_,_,_,_,_,_,_,_,_,_,_,_,rfl,?_⟩;refine H1.alloc ?_;clear H1;intro b1 w2 H2;simp only[aD,aC]at H2;refine H2.s 4 ?_;clear H2;intro w3 H3;simp only[aB,aA]at H3;apply Aa<;>intro c
  ·refine⟨_,_,_,_,_,_,_,_,_,_,_,_,_,_,_,H3.cells (i:=4) rfl,?_⟩;refine H3.storeAt (i:=0) (o:=0) rfl (by show 0+13<=31;decide) (by rfl) ?_;clear H3;intro w4 H4;simp only[aA]at H4;rw[aF c]at hte;refine⟨sa,sc,?_⟩;rw[hte];refine St.imp (St.left (X:=[_,_,_,_]) H4) fun w h=>⟨⟨?_,h.2.1.2⟩,h.2.2⟩;rw[<-hL];exact Nt h.1.1 h.1.2.2.out h.1.2.1
  ·rw[aE c]at hte;refine⟨x.sa,x.sc,?_⟩;rw[hte];exact(St.left (X:=[_,_,_,_]) H3).imp fun w h=>h.2
end
def Am.dR(x:Am)(bs:List Int):Rc:=if (It x.r bs).2.2=1 then x.r else (It x.r bs).1
def Am.took(x:Am)(keep:Bool):Am:=if keep then x else { x with wy:=x.wy.next }
def Ao2(B:Bool)(f:Nat):Prop:=∀ {A0:Nat->Prop} {w0 w:World} {b:Nat} {x:Am} {P:World->Prop} {m:Nat} {K:Ending->World->Prop} (keep:Bool) (H:AmS B A0 w0 w b x P) (hx:x.ok m) (hm:m<1000000)
 (h0:x.wy.live=[]->K (.returned (.tuple #[])) w)
 (h1:∀(y:BL) (l:List BL) (ra:Option Addr) (rc:Nat) (ot:Qu) (w':World),x.wy.live=y::l->(keep=false->x.wy.next.live=l)->((It x.r y.d).2.1=[]->ot=x.ot)->((It x.r y.d).2.1≠[]->ot.live.map (·.d)=x.ot.live.map (·.d)++[(It x.r y.d).2.1])->
  Am.ok (m+1) { x.took keep with r:=x.dR y.d,ra:=ra,rc:=rc,ot:=ot }->AmS B A0 w0 w' b { x.took keep with r:=x.dR y.d,ra:=ra,rc:=rc,ot:=ot } P->K (.returned (.tuple #[])) w'),
 Calls Tryz.prog f #[.pointer (some ⟨b,0,none⟩),.bool keep] w K
section
variable{A0:Nat->Prop}{w0 w:World}{b:Nat}{x:Am}{P:World->Prop}{m:Nat}{K:Ending->World->Prop}
theorem Gm:Ao2 false Ed:=by
 intro A0 w0 w b x P m K keep H hx hm h0 h1;apply Xi;refine Gn (q:=x.wy) H (i:=0) (j:=1) (o:=28) rfl rfl rfl (by decide) hx.wo keep ?_ ?_
 ·intro hl;refine⟨_,_,_,_,rfl,?_⟩;exact Bq (fun _=>h0 hl) (fun c=>by cases c)
 intro y l w1 hl hnx H1;have hyl:y∈x.wy.live:=by rw[hl];simp
 obtain⟨hyB,hyL⟩:=hx.wb y hyl;have ht:(x.took keep).s=x.s/\(x.took keep).r=x.r/\(x.took keep).sa=x.sa/\(x.took keep).sc=x.sc/\(x.took keep).ra=x.ra/\(x.took keep).rc=x.rc/\(x.took keep).u=x.u/\(x.took keep).bk=x.bk/\(x.took keep).ot=x.ot:=by
  unfold Am.took;split<;>exact⟨rfl,rfl,rfl,rfl,rfl,rfl,rfl,rfl,rfl⟩
 have H2:AmS false A0 w0 w1 b (x.took keep) fun w=>(SlR (Bp .u8) 1 w y.a y.d/\y.d.length<=y.c)/\P w:=by
  cases keep with
  |true=>exact St.imp (P:=fun w=>x.hold w/\P w) H1 fun w h=>⟨h.1,h.1.2.2.2.1 y hyl,h.2⟩
  |false=>
   refine St.imp (P:=fun w=>x.hold w/\P w) H1 fun w h=>⟨⟨h.1.1,h.1.2.1,h.1.2.2.1,fun z hz=>h.1.2.2.2.1 z ?_,h.1.2.2.2.2⟩,h.1.2.2.2.1 y hyl,h.2⟩;have hz:z∈x.wy.next.live:=hz;rw[(hnx rfl).2]at hz;rw[hl];exact cE _ hz
 have hx2:Am.ok m (x.took keep):=by
  cases keep with
  |true=>exact hx
  |false=>
   refine⟨hx.su,hx.gp,hx.uo,hx.uc,(hnx rfl).1,hx.wl,fun z hz=>hx.wb z ?_,hx.bo,hx.bl,hx.bb,hx.oo,hx.ol⟩;have hz:z∈x.wy.next.live:=hz;rw[(hnx rfl).2]at hz;rw[hl];exact cE _ hz
 clear H H1;have h1:=fun ra rc ot w'=>h1 y l ra rc ot w' hl fun e=>(hnx e).2;obtain⟨t1,t2,t3,t4,t5,t6,t7,t8,t9⟩:=ht;obtain⟨z,hz⟩:∃z,z=x.took keep:=⟨_,rfl⟩;rw[<-hz]at H2 hx2 h1 t1 t2 t3 t4 t5 t6 t7 t8 t9;unfold Am.dR at h1;rw[<-t2,<-t9]at h1;refine⟨_,_,_,_,rfl,?_⟩;refine Bq (fun c=>by cases c) (fun _=>?_);refine⟨_,_,_,_,_,_,_,_,_,_,_,_,_,_,_,_,H2.cellsAt (i:=0) (o:=13) (vs:=Bi z.r z.ra z.rc) rfl rfl,?_⟩;refine(Ad6 H2.get.1.2.1 hx2.gp.sm H2.get.2.1.1 hyB (by omega) H2.get.2.1.2).mono ?_;have hgp:=(Asq hx2.gp hyB).1;obtain⟨T,hT⟩:∃T,T=It z.r y.d:=⟨_,rfl⟩;rw[<-hT]at h1 hgp ⊢;rintro _ w2 ⟨ra,rc,ba,bc,rfl,hbc,K1⟩;have H3:=H2.callF K1;clear H2 K1;rw[aL]at H3;refine⟨_,_,_,_,_,_,_,_,_,_,_,_,_,_,_,_,_,_,_,_,rfl,?_⟩;refine H3.alloc ?_;clear H3;intro b1 w4 H4;simp only[aD,aC]at H4;refine H4.s 4 ?_;clear H4;intro w5 H5;simp only[aB,aA]at H5;refine⟨fun w6=>∃(ra:Option Addr) (rc:Nat),GP (if T.2.2=1 then z.r else T.1).parts/\AmS false A0 w0 w6 b { z with r:=if T.2.2=1 then z.r else T.1,ra:=ra,rc:=rc } (fun w=>SlR (Bp .u8) 1 w ba T.2.1/\P w),?_,?_⟩
 ·rintro _ w6 ⟨ra,rc,hg6,H6⟩;clear H5;apply Aa<;>intro c
  ·have hne:T.2.1≠[]:=fun e=>by rw[e]at c;simp at c
   refine H6.ldS (i:=0) (o:=30) rfl rfl ?_;refine H6.alloc ?_;clear H6;intro lit w7 H7;simp only[aD,aC]at H7;refine Bah H7 (i:=3) (j:=4) (q:=z.ot) rfl hx2.oo (by have:=hx2.ol;omega) ⟨T.2.1,ba,bc⟩ rfl (by decide) Gy ?_;intro q' w8 g1 g2 g3 H8;simp only[aB,aA]at H8;refine H8.U 0 ?_;clear H8;intro w9 H9;simp only[aA]at H9;refine h1 ra rc q' w9 (fun e=>absurd e hne) (fun _=>by rw[g2,bD];rfl) ?_ ?_
   ·exact⟨hx2.su,hg6,hx2.uo,hx2.uc,hx2.wo,aY hx2.wl,hx2.wb,hx2.bo,aY hx2.bl,hx2.bb,g1,by have:=hx2.ol;show q'.all.length<=m+1;omega⟩
   ·refine St.imp (P:=fun w=>Am.hold { z with r:=if T.2.2=1 then z.r else T.1,ra:=ra,rc:=rc } w/\SlR (Bp .u8) 1 w ba T.2.1/\P w) (St.left (X:=[_,_,_,_]) H9) fun w h=>⟨⟨h.1.1,h.1.2.1,h.1.2.2.1,h.1.2.2.2.1,h.1.2.2.2.2.1,fun v hv=>?_⟩,h.2.2⟩;have hv:v∈q'.live:=hv;rw[g2]at hv;rcases aW.1 hv with hv|hv
    ·exact h.1.2.2.2.2.2 v hv
    ·obtain rfl:v=⟨T.2.1,ba,bc⟩:=by simpa using hv
     exact⟨h.2.1,hbc⟩
  ·have he:T.2.1=[]:=aK (by omega);refine h1 ra rc z.ot w6 (fun _=>rfl) (fun e=>absurd he e) ?_ ?_
   ·exact⟨hx2.su,hg6,hx2.uo,hx2.uc,hx2.wo,aY hx2.wl,hx2.wb,hx2.bo,aY hx2.bl,hx2.bb,hx2.oo,aY hx2.ol⟩
   ·exact H6.imp fun w h=>⟨h.1,h.2.2⟩
 ·apply An<;>intro c
  ·refine⟨_,_,_,_,_,_,_,_,_,_,_,_,_,_,_,_,H5.cells (i:=4) rfl,?_⟩;refine H5.storeAt (i:=0) (o:=13) rfl (by show 13+14<=31;decide) (by rfl) ?_;clear H5;intro w6 H6;simp only[aA]at H6;refine⟨ra,rc,by rw[aE c];exact hgp,?_⟩;rw[aE c];exact St.imp (P:=fun w=>(PaR w ra T.1.parts/\SlR (Bp .u8) 1 w ba T.2.1)/\z.hold w/\(SlR (Bp .u8) 1 w y.a y.d/\y.d.length<=y.c)/\P w) (St.left (X:=[_,_,_,_]) H6) fun w h=>⟨⟨h.2.1.1,h.1.1,h.2.1.2.2⟩,h.1.2,h.2.2.2⟩
  ·refine⟨z.ra,z.rc,by rw[aF c];exact hx2.gp,?_⟩;rw[aF c];exact St.imp (P:=fun w=>(PaR w ra T.1.parts/\SlR (Bp .u8) 1 w ba T.2.1)/\z.hold w/\(SlR (Bp .u8) 1 w y.a y.d/\y.d.length<=y.c)/\P w) (St.left (X:=[_,_,_,_]) H5) fun w h=>⟨h.2.1,h.1.2,h.2.2.2⟩
end
theorem Jo{A0:Nat->Prop}{M:List Nat}{w0 w:World}{R:List Res}{P:World->Prop}(H:St A0 M w0 w R P){cs:Array Value}{t:TypeId}{F:Nat->World->Prop}(h:∀b w',w.heap.size<=b->Below w.heap.size w w'->St A0 M w0 w' (R++[.blk b t cs.toList]) P->F b w'):Aj w cs t F:=
 h _ _ (aG _) ((Below.refl _ _).alloc (aG _) _) (H.add ((Below.refl _ _).alloc (aG _) _) (show Blk _ _ _ _ from Blk.new w t cs) (fun b hb=>by simp[Res.at]at hb;omega))
def Azz(B:Bool)(f:Nat):Prop:=∀ {A0:Nat->Prop} {w0 w:World} {b:Nat} {x:Am} {P:World->Prop} {m:Nat} {K:Ending->World->Prop} (H:AmS B A0 w0 w b x P) (hx:x.ok m) (hua:x.u.all≠[]->∃g,x.u.a=some g) (hsu:∀(y:BL) (l:List BL),x.u.live=y::l->SmU (Lj x.s y.d (Cq x.s)).1.units)
 (h0:∀w',(x.u.live=[]\/∃(y:BL) (l:List BL),x.u.live=y::l/\(Lj x.s y.d (Cq x.s)).2≠0)->AmS B A0 w0 w' b x P->K (.returned (.bool false)) w')
 (h1:∀(y:BL) (l:List BL) (sa:Option Addr) (sc:Nat) (w':World),x.u.live=y::l->(Lj x.s y.d (Cq x.s)).2=0->x.u.next.live=l->
  Am.ok m { x with s:=(Lj x.s y.d (Cq x.s)).1,sa:=sa,sc:=sc,u:=x.u.next }->AmS B A0 w0 w' b { x with s:=(Lj x.s y.d (Cq x.s)).1,sa:=sa,sc:=sc,u:=x.u.next } P->K (.returned (.bool true)) w'),
 Calls Tryz.prog f #[.pointer (some ⟨b,0,none⟩)] w K
section
variable{A0:Nat->Prop}{w0 w:World}{b:Nat}{x:Am}{P:World->Prop}{m:Nat}{K:Ending->World->Prop}
theorem Uc:Azz false Kq:=by
 intro A0 w0 w b x P m K H hx hua hsu h0 h1;apply Abn;have hll:x.u.live.length=x.u.all.length-x.u.n:=by simp[Qu.live]
 refine H.ldS (i:=0) (o:=27) rfl rfl ?_;apply Aa<;>intro c
 ·exact h0 w (.inl (aK (by omega))) H
 obtain⟨y,l,hl⟩:∃y l,x.u.live=y::l:=by
  cases hq':x.u.live with
  |nil=>rw[hq']at hll;simp at hll;omega
  |cons y l=>exact⟨y,l,rfl⟩
 have hsu:=hsu y l hl;have hlt:x.u.n<x.u.all.length:=by omega
 have hno:=Qu.next_ok hx.uo hlt hx.uc (hua fun e=>by rw[e]at hlt;simp at hlt);have hnl:x.u.next.live=l:=by
  show x.u.all.drop (x.u.n+1)=l;have:x.u.all.drop x.u.n=y::l:=hl;rw[<-List.tail_drop,this];rfl
 have hyl:y∈x.u.all:=cD (show y∈x.u.live by rw[hl];simp);obtain⟨T,hT⟩:∃T,T=Lj x.s y.d (Cq x.s):=⟨_,rfl⟩;refine⟨fun s e1 w8=>e1=T.2/\∃(b2:Nat) (sa:Option Addr) (sc:Nat),s=⟨b2,0,none⟩/\St A0 [] w0 w8 (Ae9 false b x++[.blk b2 Ab (Aq T.1 sa sc)]) (fun w=>UnR w sa T.1.units/\x.hold w/\P w),?_,?_⟩
 ·rintro _ s _ w8 ⟨rfl,b2,sa,sc,rfl,H8⟩;clear H;apply An<;>intro c
  ·exact h0 w8 (.inr ⟨y,l,hl,by rw[<-hT];exact c⟩) ((St.left H8).imp fun w h=>h.2)
  refine H8.drew ?_;clear H8;intro w9 H9;simp only[aD,aC]at H9;refine⟨fun z=>z=b2,?_⟩;refine⟨_,_,_,_,_,_,_,_,_,_,_,_,_,_,_,H9.cells (i:=4) rfl,?_⟩;refine H9.ldS (i:=0) (o:=27) rfl rfl ?_;refine⟨⟨by omega,by omega⟩,?_⟩;refine H9.storeAt (i:=0) (o:=0) rfl (by show 0+13<=31;decide) (by rfl) ?_;intro w10 H10;simp only[aA]at H10;refine⟨Mk (H9.ok 4 _ rfl) (H10.ok 4 _ rfl),?_⟩;clear H9;refine H10.set (i:=0) (o:=27) rfl (by show 27<31;decide) ?_;clear H10;intro w11 H11;simp only[aA]at H11;have h1:=h1 y l sa sc w11 hl (by rw[<-hT];exact c) hnl;rw[<-hT]at h1 hsu;refine h1 ⟨hsu,hx.gp,hno,hx.uc,hx.wo,hx.wl,hx.wb,hx.bo,hx.bl,hx.bb,hx.oo,hx.ol⟩ ?_;have e:({ x with s:=T.1,sa:=sa,sc:=sc,u:=x.u.next }:Am).u.sl=.slice (Ay (x.u.c-x.u.n) ((1:Int).toNat) 1 x.u.p) (x.u.all.length-x.u.n-(1:Int).toNat) (x.u.c-x.u.n-(1:Int).toNat):=by
   show Value.slice (Ay (x.u.c-x.u.n) 1 1 x.u.p) (x.u.all.length-(x.u.n+1)) (x.u.c-(x.u.n+1))=_;rw[Nat.sub_sub,Nat.sub_sub];rfl
  have e2:Am.enc false { x with s:=T.1,sa:=sa,sc:=sc,u:=x.u.next }=(Am.enc false { x with s:=T.1,sa:=sa,sc:=sc }).set 27 (.slice (Ay (x.u.c-x.u.n) ((1:Int).toNat) 1 x.u.p) (x.u.all.length-x.u.n-(1:Int).toNat) (x.u.c-x.u.n-(1:Int).toNat)):=by
   rw[<-e];rfl
  refine St.imp (P:=fun w=>UnR w sa T.1.units/\x.hold w/\P w) ?_ fun w h=>⟨⟨h.1,h.2.1.2⟩,h.2.2⟩;unfold Ae9;rw[e2];exact St.left (X:=[_,_,_,_]) H11
 ·refine H.drew ?_;clear H;intro w1 H1;refine⟨fun z=>z<w1.heap.size,?_⟩;refine⟨H1.lt (i:=0) rfl rfl,?_⟩;refine⟨_,_,_,_,_,_,_,_,_,_,_,_,_,_,_,H1.cellsAt (i:=0) (o:=0) (vs:=Aq x.s x.sa x.sc) rfl rfl,?_⟩;refine⟨H1.lt (i:=0) rfl rfl,?_⟩;refine H1.ldS (i:=0) (o:=27) rfl rfl ?_;have hs:=Qu.sl_live hx.uo hx.uc H1.get.1.2.2.1.1;have hix:∀ {F:Addr->Prop},(∀b y,x.u.live[0]?=some y->CE Ic w1 (b.add ((0:Int).toNat*1)) y->F b)->kIx x.u.p (x.u.all.length-x.u.n) 0 F:=fun {F} hF=>by
   rw[<-hll];exact ixE hs 0 rfl (by rw[hl];simp) hF
  refine hix fun b1 y' hy' hb1=>?_;obtain rfl:y=y':=by rw[hl]at hy';exact Option.some.inj hy'
  refine⟨Dv hb1.1,?_⟩;refine⟨_,_,_,hb1.1,?_⟩;have hyd:=(H1.get.1.2.2.1.2 y hyl).1;refine⟨?_,?_,trivial⟩
  ·refine(Xl H1.get.1.1 hx.su hyd).mono ?_;rw[<-hT];rintro _ w5 ⟨sa,sc,L,hL,rfl,K0⟩;have hb5:=K0.below;have K1:=(Gp (R:=[.els Ba Ae 5 sa sc L]) K0).shareE Bm (i:=0) rfl;have H5:=H1.callF K1.fin;clear K0 K1;rw[aL]at H5;refine⟨_,_,_,_,_,_,_,_,_,_,_,_,_,_,_,_,rfl,?_⟩;refine⟨hb5.keeps,?_⟩;refine Jo H5 ?_;intro b2 w6 hbn hb6 H6;have hbn:w1.heap.size<=b2:=cG hb5.size hbn;have hb6':=Ax hb5 (aG _) hb6;refine⟨hb6'.keeps,?_⟩;refine H6.storeF (i:=4) rfl (by rfl) (by rfl) ?_;intro w7 hf7 H7;refine⟨(hb6'.frs hf7 (by simpa using hbn) hb6'.size).keeps,?_⟩;refine⟨rfl,b2,sa,sc,rfl,?_⟩;refine H7.imp fun w h=>⟨?_,h.2⟩;rw[<-hL];exact Nt h.1.1 h.1.2.2.out h.1.2.1
  ·refine Jo H1 ?_;intro b2 w2 hbn hb2 H2;refine⟨hb2.keeps,?_⟩;refine(Xl H2.get.1.1 hx.su (H2.get.1.2.2.1.2 y hyl).1).mono ?_;rw[<-hT];rintro _ w3 ⟨sa,sc,L,hL,rfl,K0⟩;have hb3:=Ax hb2 (aG _) K0.below;have K1:=(Gp (R:=[.els Ba Ae 5 sa sc L]) K0).shareE Bm (i:=0) rfl;have H3:=H2.callF K1.fin;clear K0 K1;rw[aL]at H3;refine⟨_,_,_,_,_,_,_,_,_,_,_,_,_,_,_,_,rfl,?_⟩;refine⟨hb3.keeps,?_⟩;refine H3.storeF (i:=4) rfl (by rfl) (by rfl) ?_;intro w4 hf4 H4;refine⟨(hb3.frs hf4 (by simpa using hbn) hb3.size).keeps,?_⟩;refine⟨rfl,b2,sa,sc,rfl,?_⟩;refine H4.imp fun w h=>⟨?_,h.2⟩;rw[<-hL];exact Nt h.1.1 h.1.2.2.out h.1.2.1
end
def Am.aS(x:Am)(bs:List Int):Sd:=if (Mv x.s.lk.bits bs).2=0/\(Sp x.s (Mv x.s.lk.bits bs).1).2=0 then (Sp x.s (Mv x.s.lk.bits bs).1).1 else x.s
def Am.tookB(x:Am)(keep:Bool):Am:=if keep then x else { x with bk:=x.bk.next }
def Asp(B:Bool)(f:Nat):Prop:=∀ {A0:Nat->Prop} {w0 w:World} {b:Nat} {x:Am} {P:World->Prop} {m:Nat} {K:Ending->World->Prop} (keep:Bool) (H:AmS B A0 w0 w b x P) (hx:x.ok m)
 (hml:∀(y:BL) (l:List BL),x.bk.live=y::l->(Mv x.s.lk.bits y.d).1.miss.length<=1000000/\SmU (x.aS y.d).units)
 (h0:x.bk.live=[]->K (.returned (.tuple #[])) w)
 (h1:∀(y:BL) (l:List BL) (sa:Option Addr) (sc:Nat) (w':World),x.bk.live=y::l->(keep=false->x.bk.next.live=l)->
  Am.ok m { x.tookB keep with s:=x.aS y.d,sa:=sa,sc:=sc }->AmS B A0 w0 w' b { x.tookB keep with s:=x.aS y.d,sa:=sa,sc:=sc } P->K (.returned (.tuple #[])) w'),
 Calls Tryz.prog f #[.pointer (some ⟨b,0,none⟩),.bool keep] w K
section
variable{A0:Nat->Prop}{w0 w:World}{b:Nat}{x:Am}{P:World->Prop}{m:Nat}{K:Ending->World->Prop}
theorem Hf:Asp false Eo:=by
 intro A0 w0 w b x P m K keep H hx hml h0 h1;apply Yl;refine Gn (q:=x.bk) H (i:=0) (j:=2) (o:=29) rfl rfl rfl (by decide) hx.bo keep ?_ ?_
 ·intro hl;refine⟨_,_,_,_,rfl,?_⟩;exact Bq (fun _=>h0 hl) (fun c=>by cases c)
 intro y l w1 hl hnx H1;obtain⟨hml,hsu⟩:=hml y l hl;have hyl:y∈x.bk.live:=by rw[hl];simp
 obtain⟨hyB,hyL⟩:=hx.bb y hyl;have ht:(x.tookB keep).s=x.s/\(x.tookB keep).sa=x.sa/\(x.tookB keep).sc=x.sc:=by
  unfold Am.tookB;split<;>exact⟨rfl,rfl,rfl⟩
 have H2:AmS false A0 w0 w1 b (x.tookB keep) fun w=>(SlR (Bp .u8) 1 w y.a y.d/\y.d.length<=y.c)/\P w:=by
  cases keep with
  |true=>exact St.imp (P:=fun w=>x.hold w/\P w) H1 fun w h=>⟨h.1,h.1.2.2.2.2.1 y hyl,h.2⟩
  |false=>
   refine St.imp (P:=fun w=>x.hold w/\P w) H1 fun w h=>⟨⟨h.1.1,h.1.2.1,h.1.2.2.1,h.1.2.2.2.1,fun z hz=>h.1.2.2.2.2.1 z ?_,h.1.2.2.2.2.2⟩,h.1.2.2.2.2.1 y hyl,h.2⟩;have hz:z∈x.bk.next.live:=hz;rw[(hnx rfl).2]at hz;rw[hl];exact cE _ hz
 have hx2:Am.ok m (x.tookB keep):=by
  cases keep with
  |true=>exact hx
  |false=>
   refine⟨hx.su,hx.gp,hx.uo,hx.uc,hx.wo,hx.wl,hx.wb,(hnx rfl).1,hx.bl,fun z hz=>hx.bb z ?_,hx.oo,hx.ol⟩;have hz:z∈x.bk.next.live:=hz;rw[(hnx rfl).2]at hz;rw[hl];exact cE _ hz
 clear H H1;have h1:=fun sa sc w'=>h1 y l sa sc w' hl fun e=>(hnx e).2;obtain⟨t1,t2,t3⟩:=ht;obtain⟨z,hz⟩:∃z,z=x.tookB keep:=⟨_,rfl⟩;rw[<-hz]at H2 hx2 h1 t1 t2 t3;have hte:x.aS y.d=if (Mv x.s.lk.bits y.d).2=0/\(Sp x.s (Mv x.s.lk.bits y.d).1).2=0 then (Sp x.s (Mv x.s.lk.bits y.d).1).1 else x.s:=rfl
 rw[<-t1]at hml hte;have hsame:∀ {w':World},(x.aS y.d)=z.s->AmS false A0 w0 w' b z P->K (.returned (.tuple #[])) w':=fun {w'} e H=>by
  have:=h1 z.sa z.sc w';rw[e]at this;exact this hx2 H
 refine⟨_,_,_,_,rfl,?_⟩;refine Bq (fun c=>by cases c) (fun _=>?_);refine H2.ld (i:=0) (o:=0) rfl rfl ?_;refine(Ajh (bits:=z.s.lk.bits) H2.get.2.1.1 hyB H2.get.2.1.2 (by omega)).mono ?_;obtain⟨D,hD⟩:∃D,D=Mv z.s.lk.bits y.d:=⟨_,rfl⟩;rw[<-hD]at hml hte ⊢;rintro _ w2 ⟨ma,mc,hmc,rfl,K1⟩;have H3:=H2.callF K1;clear H2 K1;rw[aL]at H3;refine⟨_,_,_,_,_,rfl,?_⟩;refine H3.alloc ?_;clear H3;intro b3 w3 H4;simp only[aD,aC]at H4;refine H4.s 4 ?_;clear H4;intro w4 H5;simp only[aB,aA]at H5;apply An<;>intro c
 ·exact hsame (by rw[hte,aE (fun h=>c h.1)]) ((St.left (X:=[_,_,_,_]) H5).imp fun w h=>⟨h.2.1,h.2.2.2⟩)
 refine H5.drew ?_;clear H5;intro w5 H6;refine⟨fun q=>q<w5.heap.size,?_⟩;refine⟨H6.lt (i:=0) rfl rfl,?_⟩;refine⟨_,_,_,_,_,_,_,_,_,_,_,_,_,_,_,H6.cellsAt (i:=0) (o:=0) (vs:=Aq z.s z.sa z.sc) rfl rfl,?_⟩;refine⟨H6.lt (i:=4) rfl rfl,?_⟩;refine⟨_,_,_,_,H6.cells (i:=4) rfl,?_⟩;obtain⟨T,hT⟩:∃T,T=Sp z.s D.1:=⟨_,rfl⟩;rw[<-hT]at hte;have hend:∀ {w':World} {b2:Nat} {X:Res} {sa:Option Addr} {sc:Nat} {Q:World->Prop},(∀w,Q w->UnR w sa T.1.units/\z.hold w/\P w)->St A0 [] w0 w' [.blk b (kTy false) (z.enc false),Qu.row z.wy,Qu.row z.bk,Qu.row z.ot,X,.blk b2 Ab (Aq T.1 sa sc)] Q->
  (T.2=0->cellsAt w' ⟨b2,0,none⟩ 0 (Aq T.1 sa sc)/\Ad w' ⟨b,0,none⟩ 0 (Aq T.1 sa sc) fun w''=>K (.returned (.tuple #[])) w'')/\(T.2≠0->K (.returned (.tuple #[])) w'):=fun {w' b2 X sa sc Q} hQ H=>by
  refine⟨fun e=>⟨H.cells (i:=5) rfl,?_⟩,fun e=>?_⟩
  ·refine H.storeAt (i:=0) (o:=0) rfl (by show 0+13<=31;decide) (by rfl) ?_;intro w'' H';have h1:=h1 sa sc w'';have ee:x.aS y.d=T.1:=by rw[hte,aF ⟨c,e⟩]
   rw[ee]at h1 hsu;refine h1 ⟨hsu,hx2.gp,hx2.uo,hx2.uc,hx2.wo,hx2.wl,hx2.wb,hx2.bo,hx2.bl,hx2.bb,hx2.oo,hx2.ol⟩ ?_;exact St.imp (P:=Q) (St.left (X:=[_,_,_,_]) H') fun w h=>⟨⟨(hQ w h).1,(hQ w h).2.1.2⟩,(hQ w h).2.2⟩
  ·exact hsame (by rw[hte,aE (fun h=>e h.2)]) ((St.left (X:=[_,_,_,_]) H).imp fun w h=>(hQ w h).2)
 have hup:∀ {w:World} {sa:Option Addr} {L:List UP},L.map (·.u)=T.1.units->SlR (CE Ba) 5 w sa L->Yq L w->Ad1 L w->UnR w sa T.1.units:=fun {w sa L} hL h1 h2 h3=>by
  rw[<-hL];exact Nt h1 h2 h3
 refine⟨?_,?_,trivial⟩
 ·refine(Xa H6.get.2.1.1 hx2.su H6.get.1 hml).mono ?_;rw[<-hT];rintro _ w6 ⟨sa,sc,L,hL,rfl,K0⟩;have hb6:=K0.below;have K1:=(Gp (R:=[.els Ba Ae 5 sa sc L]) K0).shareE Bm (i:=0) rfl;have H7:=H6.callF K1.fin;clear K0 K1;rw[aL]at H7;refine⟨_,_,_,_,_,_,_,_,_,_,_,_,_,_,_,_,rfl,?_⟩;refine⟨hb6.keeps,?_⟩;refine Jo H7 ?_;intro b2 w7 hbn hb7 H8;have hbn:w5.heap.size<=b2:=cG hb6.size hbn;have hb7':=Ax hb6 (aG _) hb7;refine⟨hb7'.keeps,?_⟩;refine H8.storeF (i:=5) rfl (by rfl) (by rfl) ?_;intro w8 hf8 H9;refine⟨(hb7'.frs hf8 (by simpa using hbn) hb7'.size).keeps,?_⟩;obtain⟨e1,e2⟩:=hend (fun w h=>⟨hup hL h.1.1 h.1.2.2.out h.1.2.1,h.2.2.1,h.2.2.2.2⟩) H9;refine Aa (fun c=>?_) (fun c=>e2 c);obtain⟨f1,f2⟩:=e1 c;exact⟨_,_,_,_,_,_,_,_,_,_,_,_,_,_,_,f1,f2⟩
 ·refine Jo H6 ?_;intro b2 w7 hbn hb7 H8;refine⟨hb7.keeps,?_⟩;refine(Xa H8.get.2.1.1 hx2.su H8.get.1 hml).mono ?_;rw[<-hT];rintro _ w6 ⟨sa,sc,L,hL,rfl,K0⟩;have hb6:=Ax hb7 (aG _) K0.below;have K1:=(Gp (R:=[.els Ba Ae 5 sa sc L]) K0).shareE Bm (i:=0) rfl;have H7:=H8.callF K1.fin;clear K0 K1;rw[aL]at H7;refine⟨_,_,_,_,_,_,_,_,_,_,_,_,_,_,_,_,rfl,?_⟩;refine⟨hb6.keeps,?_⟩;refine H7.storeF (i:=5) rfl (by rfl) (by rfl) ?_;intro w8 hf8 H9;refine⟨(hb6.frs hf8 (by simpa using hbn) hb6.size).keeps,?_⟩;obtain⟨e1,e2⟩:=hend (fun w h=>⟨hup hL h.1.1 h.1.2.2.out h.1.2.1,h.2.2.1,h.2.2.2.2⟩) H9;refine Aa (fun c=>?_) (fun c=>e2 c);obtain⟨f1,f2⟩:=e1 c;exact⟨_,_,_,_,_,_,_,_,_,_,_,_,_,_,_,f1,f2⟩
end
end Go.Proofs.YtmbppohkadmjgaaGreat
