import Derived.Test.YtmbppohkadmjgaaGreatM22a
import Derived.Test.YtmbppohkadmjgaaGreatM20
import Derived.Test.YtmbppohkadmjgaaGreatM21a
import Derived.Test.YtmbppohkadmjgaaGreatM21b
import Derived.Test.YtmbppohkadmjgaaGreatM20b
import Derived.Test.YtmbppohkadmjgaaGreatM18
namespace Go.Proofs.YtmbppohkadmjgaaGreat
open Go.Sx Go.RowKit
set_option maxRecDepth 100000
def ds(L:List BL):List (List Int):=L.map (·.d)
def Am.pl(x:Am):Pl:=⟨x.s,x.r,ds x.u.live,ds x.wy.live,ds x.bk.live,ds x.ot.live⟩
def Sim(B:Bool)(A0:Nat->Prop)(w0 w:World)(b m:Nat)(p:Pl)(P:World->Prop):Prop:=
 ∃x:Am,x.pl=p/\x.ok m/\(x.u.all≠[]->∃g,x.u.a=some g)/\AmS B A0 w0 w b x P
theorem Afn{L:List BL}:ds L=[]↔L=[]:=by unfold ds;simp
section
variable{B:Bool}{f:Nat}{A0:Nat->Prop}{w0 w:World}{b m:Nat}{p:Pl}{P:World->Prop}{K:Ending->World->Prop}
theorem Adw{size:Int}(C:Avr B f)(H:Sim B A0 w0 w b m p P)(hm:m<1000000)(hsz: -9223372036854775808<=size/\size<=9223372036854775807)
 (hbs:Bytes (Ca p.s size (Cq p.s)).2.1/\(Ca p.s size (Cq p.s)).2.1.length<=100000) (hsu:SmU (Ca p.s size (Cq p.s)).1.units)
 (h:∀w',Sim B A0 w0 w' b (m+1) (Kc p size).1 P->K (.returned (.bool (Kc p size).2)) w'):
 Calls Tryz.prog f #[.pointer (some ⟨b,0,none⟩),.int .i64 size] w K:=by
 obtain⟨x,rfl,hx,hua,H⟩:=H;have hmono:Am.ok (m+1) x:=⟨hx.su,hx.gp,hx.uo,hx.uc,hx.wo,aY hx.wl,hx.wb,hx.bo,aY hx.bl,hx.bb,hx.oo,aY hx.ol⟩;refine C H hx hm hsz hbs hsu ?_ ?_
 ·intro w' he H';have e:Kc x.pl size=(x.pl,false):=by unfold Kc;exact aE he
  rw[e]at h;exact h w' ⟨x,rfl,hmono,hua,H'⟩
 ·intro sa sc wy w' he hw hok H';have e:Kc x.pl size=({ x.pl with s:=(Ca x.s size (Cq x.s)).1,wy:=x.pl.wy++[(Ca x.s size (Cq x.s)).2.1] },true):=by unfold Kc;exact aF he
  rw[e]at h;refine h w' ⟨_,?_,hok,hua,H'⟩;show Pl.mk _ _ _ (ds wy.live) _ _=_;have hw:ds wy.live=ds x.wy.live++[(Ca x.s size (Cq x.s)).2.1]:=hw;rw[hw];rfl
theorem Zi{size:Int}(C:Asz B f)(H:Sim B A0 w0 w b m p P)(hm:m<1000000)
 (hbs:Bytes (Fu p.r size).2.1/\(Fu p.r size).2.1.length<=100000) (hgp:GP (Fu p.r size).1.parts)
 (h:∀w',Sim B A0 w0 w' b (m+1) (Ra p size) P->K (.returned (.tuple #[])) w'):
 Calls Tryz.prog f #[.pointer (some ⟨b,0,none⟩),.int .i64 size] w K:=by
 obtain⟨x,rfl,hx,hua,H⟩:=H;have hmono:Am.ok (m+1) x:=⟨hx.su,hx.gp,hx.uo,hx.uc,hx.wo,aY hx.wl,hx.wb,hx.bo,aY hx.bl,hx.bb,hx.oo,aY hx.ol⟩;refine C H hx hm hbs hgp ?_ ?_
 ·intro w' he H';have e:Ra x.pl size=x.pl:=by unfold Ra;exact aE he
  rw[e]at h;exact h w' ⟨x,rfl,hmono,hua,H'⟩
 ·intro ra rc bk w' he hw hok H';have e:Ra x.pl size={ x.pl with r:=(Fu x.r size).1,bk:=x.pl.bk++[(Fu x.r size).2.1] }:=by unfold Ra;exact aF he
  rw[e]at h;refine h w' ⟨_,?_,hok,hua,H'⟩;show Pl.mk _ _ _ _ (ds bk.live) _=_;have hw:ds bk.live=ds x.bk.live++[(Fu x.r size).2.1]:=hw;rw[hw];rfl
theorem Ag6(C:Azp B f)(H:Sim B A0 w0 w b m p P)(hsu:SmU (Ag1 p).s.units)(h:∀w',Sim B A0 w0 w' b m (Ag1 p) P->K (.returned (.tuple #[])) w'):Calls Tryz.prog f #[.pointer (some ⟨b,0,none⟩)] w K:=by
 obtain⟨x,rfl,hx,hua,H⟩:=H;exact C H hx hsu fun sa sc ra rc w' hok H'=>h w' ⟨_,rfl,hok,hua,H'⟩
theorem Kw(keep:Bool)(C:Ao2 B f)(H:Sim B A0 w0 w b m p P)(hm:m<1000000)(h:∀w',Sim B A0 w0 w' b (m+1) (Em p keep) P->K (.returned (.tuple #[])) w'):Calls Tryz.prog f #[.pointer (some ⟨b,0,none⟩),.bool keep] w K:=by
 obtain⟨x,rfl,hx,hua,H⟩:=H;have hmono:Am.ok (m+1) x:=⟨hx.su,hx.gp,hx.uo,hx.uc,hx.wo,aY hx.wl,hx.wb,hx.bo,aY hx.bl,hx.bb,hx.oo,aY hx.ol⟩;refine C keep H hx hm ?_ ?_
 ·intro hl;have e:Em x.pl keep=x.pl:=by
   have:x.pl.wy=[]:=Afn.2 hl;unfold Em;rw[this]
  rw[e]at h;exact h w ⟨x,rfl,hmono,hua,H⟩
 ·intro y l ra rc ot w' hl hn h1 h2 hok H';refine h w' ⟨_,?_,hok,?_,H'⟩
  ·have hw:x.pl.wy=y.d::ds l:=by show ds x.wy.live=_;rw[hl];rfl
   have e:Em x.pl keep={ x.pl with r:=x.dR y.d,ot:=if (It x.r y.d).2.1=[] then x.pl.ot else x.pl.ot++[(It x.r y.d).2.1],wy:=if keep then x.pl.wy else ds l }:=by
    unfold Em;rw[hw];rfl
   rw[e];have eot:ds ot.live=if (It x.r y.d).2.1=[] then x.pl.ot else x.pl.ot++[(It x.r y.d).2.1]:=by
    split
    ·rename_i hc;rw[h1 hc];rfl
    ·rename_i hc;exact h2 hc
   rw[<-eot];cases keep with
   |true=>rfl
   |false=>
    show Pl.mk _ _ _ (ds x.wy.next.live) _ _=Pl.mk _ _ _ (ds l) _ _;rw[hn rfl];rfl
  ·cases keep<;>exact hua
theorem Nj(keep:Bool)(C:Asp B f)(H:Sim B A0 w0 w b m p P)(hml:∀d l,p.bk=d::l->(Mv p.s.lk.bits d).1.miss.length<=1000000/\SmU (Tc p.s d).units)
 (h:∀w',Sim B A0 w0 w' b m (Ht p keep) P->K (.returned (.tuple #[])) w'):
 Calls Tryz.prog f #[.pointer (some ⟨b,0,none⟩),.bool keep] w K:=by
 obtain⟨x,rfl,hx,hua,H⟩:=H;refine C keep H hx (fun y l hl=>hml y.d (ds l) (by show ds x.bk.live=_;rw[hl];rfl)) ?_ ?_
 ·intro hl;have e:Ht x.pl keep=x.pl:=by
   have:x.pl.bk=[]:=Afn.2 hl;unfold Ht;rw[this]
  rw[e]at h;exact h w ⟨x,rfl,hx,hua,H⟩
 ·intro y l sa sc w' hl hn hok H';refine h w' ⟨_,?_,hok,?_,H'⟩
  ·have hw:x.pl.bk=y.d::ds l:=by show ds x.bk.live=_;rw[hl];rfl
   have e:Ht x.pl keep={ x.pl with s:=x.aS y.d,bk:=if keep then x.pl.bk else ds l }:=by unfold Ht;rw[hw];rfl
   rw[e];cases keep with
   |true=>rfl
   |false=>
    show Pl.mk _ _ _ _ (ds x.bk.next.live) _=Pl.mk _ _ _ _ (ds l) _;rw[hn rfl];rfl
  ·cases keep<;>exact hua
theorem Ag3(C:Azz B f)(H:Sim B A0 w0 w b m p P)(hsu:∀d l,p.us=d::l->SmU (Lj p.s d (Cq p.s)).1.units)
 (h:∀w',Sim B A0 w0 w' b m (Mq p).1 P->K (.returned (.bool (Mq p).2)) w'):
 Calls Tryz.prog f #[.pointer (some ⟨b,0,none⟩)] w K:=by
 obtain⟨x,rfl,hx,hua,H⟩:=H;refine C H hx hua (fun y l hl=>hsu y.d (ds l) (by show ds x.u.live=_;rw[hl];rfl)) ?_ ?_
 ·intro w' he H';have e:Mq x.pl=(x.pl,false):=by
   rcases he with he|⟨y,l,hl,he⟩
   ·have:x.pl.us=[]:=Afn.2 he;unfold Mq;rw[this]
   ·have:x.pl.us=y.d::ds l:=by show ds x.u.live=_;rw[hl];rfl
    unfold Mq;rw[this];exact aE he
  rw[e]at h;exact h w' ⟨x,rfl,hx,hua,H'⟩
 ·intro y l sa sc w' hl he hn hok H';have hw:x.pl.us=y.d::ds l:=by show ds x.u.live=_;rw[hl];rfl
  have e:Mq x.pl=({ x.pl with s:=(Lj x.s y.d (Cq x.s)).1,us:=ds l },true):=by
   unfold Mq;rw[hw];exact aF he
  rw[e]at h;refine h w' ⟨_,?_,hok,hua,H'⟩;show Pl.mk _ _ (ds x.u.next.live) _ _ _=Pl.mk _ _ (ds l) _ _ _;rw[hn];rfl
end
def Aw3(p:Pl):Pl:={ p with wy:=p.wy.tail }
def Aso(p:Pl):Pl:={ p with bk:=p.bk.tail }
def Ae6(p:Pl)(k a:Int):Pl:=
 if k=1 then (Mq p).1 else if k=2 then (Kc p a).1 else if k=3 then Em p false else if k=5 then Em p true else if k=4 then Aw3 p else
 if k=7 then Ra p a else if k=8 then Ht p false else if k=10 then Ht p true else if k=9 then Aso p else if k=11 then Ag1 p else p
structure Fits (p:Pl):Prop where
 bu:∀size:Int,Bytes (Ca p.s size (Cq p.s)).2.1/\(Ca p.s size (Cq p.s)).2.1.length<=100000/\SmU (Ca p.s size (Cq p.s)).1.units
 re:∀size:Int,Bytes (Fu p.r size).2.1/\(Fu p.r size).2.1.length<=100000/\GP (Fu p.r size).1.parts
 ti:SmU (Ag1 p).s.units
 an:∀d l,p.bk=d::l->(Mv p.s.lk.bits d).1.miss.length<=1000000/\SmU (Tc p.s d).units
 se:∀d l,p.us=d::l->SmU (Lj p.s d (Cq p.s)).1.units
def Bbf(B:Bool)(f:Nat):Prop:=∀ {A0:Nat->Prop} {w0 w:World} {b m:Nat} {p:Pl} {P:World->Prop} {K:Ending->World->Prop} {k a:Int} (H:Sim B A0 w0 w b m p P) (hf:Fits p) (hm:m<1000000) (ha: -9223372036854775808<=a/\a<=9223372036854775807)
 (h:∀w',Sim B A0 w0 w' b (m+1) (Ae6 p k a) P->K (.returned (.tuple #[])) w'),
 Calls Tryz.prog f #[.pointer (some ⟨b,0,none⟩),.agg #[.int .i64 k,.int .i64 a]] w K
section
variable{B:Bool}{A0:Nat->Prop}{w0 w:World}{b m:Nat}{p:Pl}{P:World->Prop}{K:Ending->World->Prop}
theorem Sim.up(H:Sim B A0 w0 w b m p P):Sim B A0 w0 w b (m+1) p P:=by
 obtain⟨x,h,hx,hua,H⟩:=H;exact⟨x,h,⟨hx.su,hx.gp,hx.uo,hx.uc,hx.wo,aY hx.wl,hx.wb,hx.bo,aY hx.bl,hx.bb,hx.oo,aY hx.ol⟩,hua,H⟩
theorem Azw(H:Sim false A0 w0 w b m p P)(h:∀(a:Option Addr) (l c:Nat) (r:Bool) (w':World),Sim false A0 w0 w' b m (Aw3 p) P->K (.returned (.tuple #[.slice a l c,.bool r])) w'):Calls Tryz.prog Df #[.pointer (some ⟨b,28,none⟩),.bool false] w K:=by
 obtain⟨x,rfl,hx,hua,H⟩:=H;refine Gn (q:=x.wy) H (i:=0) (j:=1) (o:=28) rfl rfl rfl (by decide) hx.wo false ?_ ?_
 ·intro hl;refine h _ _ _ _ w ⟨x,?_,hx,hua,H⟩;have e:ds x.wy.live=[]:=Afn.2 hl;show x.pl={ x.pl with wy:=(ds x.wy.live).tail };rw[e];show Pl.mk _ _ _ (ds x.wy.live) _ _=_;rw[e];rfl
 ·intro y l w' hl hn H';obtain⟨n1,n2⟩:=hn rfl;have hsub:∀z∈x.wy.next.live,z∈x.wy.live:=fun z hz=>by rw[n2]at hz;rw[hl];exact cE _ hz
  refine h _ _ _ _ w' ⟨{ x with wy:=x.wy.next },?_,⟨hx.su,hx.gp,hx.uo,hx.uc,n1,hx.wl,fun z hz=>hx.wb z (hsub z hz),hx.bo,hx.bl,hx.bb,hx.oo,hx.ol⟩,hua,?_⟩
  ·show Pl.mk _ _ _ (ds x.wy.next.live) _ _=Pl.mk _ _ _ (ds x.wy.live).tail _ _;rw[n2,hl];rfl
  ·exact St.imp (P:=fun w=>x.hold w/\P w) H' fun w h=>⟨⟨h.1.1,h.1.2.1,h.1.2.2.1,fun z hz=>h.1.2.2.2.1 z (hsub z hz),h.1.2.2.2.2⟩,h.2⟩
theorem Axt(H:Sim false A0 w0 w b m p P)(h:∀(a:Option Addr) (l c:Nat) (r:Bool) (w':World),Sim false A0 w0 w' b m (Aso p) P->K (.returned (.tuple #[.slice a l c,.bool r])) w'):Calls Tryz.prog Df #[.pointer (some ⟨b,29,none⟩),.bool false] w K:=by
 obtain⟨x,rfl,hx,hua,H⟩:=H;refine Gn (q:=x.bk) H (i:=0) (j:=2) (o:=29) rfl rfl rfl (by decide) hx.bo false ?_ ?_
 ·intro hl;refine h _ _ _ _ w ⟨x,?_,hx,hua,H⟩;have e:ds x.bk.live=[]:=Afn.2 hl;show x.pl={ x.pl with bk:=(ds x.bk.live).tail };rw[e];show Pl.mk _ _ _ _ (ds x.bk.live) _=_;rw[e];rfl
 ·intro y l w' hl hn H';obtain⟨n1,n2⟩:=hn rfl;have hsub:∀z∈x.bk.next.live,z∈x.bk.live:=fun z hz=>by rw[n2]at hz;rw[hl];exact cE _ hz
  refine h _ _ _ _ w' ⟨{ x with bk:=x.bk.next },?_,⟨hx.su,hx.gp,hx.uo,hx.uc,hx.wo,hx.wl,hx.wb,n1,hx.bl,fun z hz=>hx.bb z (hsub z hz),hx.oo,hx.ol⟩,hua,?_⟩
  ·show Pl.mk _ _ _ _ (ds x.bk.next.live) _=Pl.mk _ _ _ _ (ds x.bk.live).tail _;rw[n2,hl];rfl
  ·exact St.imp (P:=fun w=>x.hold w/\P w) H' fun w h=>⟨⟨h.1.1,h.1.2.1,h.1.2.2.1,h.1.2.2.2.1,fun z hz=>h.1.2.2.2.2.1 z (hsub z hz),h.1.2.2.2.2.2⟩,h.2⟩
theorem Afu:Bbf false Ki:=by
 intro A0 w0 w b m p P K k a H hf hm ha h;apply Ab1;obtain⟨x,hp,hx,hua,H⟩:=H;refine H.alloc ?_;clear H;intro b1 w1 H1;simp only[aD,aC]at H1;have H2:Sim false A0 w0 w1 b m p P:=⟨x,hp,hx,hua,St.left (X:=[_,_,_,_]) H1⟩;unfold Ae6 at h;refine H1.ld (i:=4) (o:=0) rfl rfl ?_;refine Aw ?_;apply Aa<;>intro c
 ·rw[aF c]at h;exact Ag3 Uc H2 hf.se fun w' H'=>⟨_,rfl,h w' H'.up⟩
 rw[aE c]at h;refine Aw ?_;apply Aa<;>intro c
 ·rw[aF c]at h;refine H1.ld (i:=4) (o:=1) rfl rfl ?_;exact Adw Sk H2 hm ha ⟨(hf.bu a).1,(hf.bu a).2.1⟩ (hf.bu a).2.2 fun w' H'=>⟨_,rfl,h w' H'⟩
 rw[aE c]at h;refine Aw ?_;apply Aa<;>intro c
 ·rw[aF c]at h;exact Kw false Gm H2 hm fun w' H'=>⟨rfl,h w' H'⟩
 rw[aE c]at h;refine Aw ?_;apply Aa<;>intro c
 ·rw[aF c]at h;exact Kw true Gm H2 hm fun w' H'=>⟨rfl,h w' H'⟩
 rw[aE c]at h;refine Aw ?_;apply Aa<;>intro c
 ·rw[aF c]at h;exact Azw H2 fun _ _ _ _ w' H'=>⟨_,_,_,_,rfl,h w' H'.up⟩
 rw[aE c]at h;refine Aw ?_;apply Aa<;>intro c
 ·rw[aF c]at h;refine H1.ld (i:=4) (o:=1) rfl rfl ?_;exact Zi Ri H2 hm ⟨(hf.re a).1,(hf.re a).2.1⟩ (hf.re a).2.2 fun w' H'=>⟨rfl,h w' H'⟩
 rw[aE c]at h;refine Aw ?_;apply Aa<;>intro c
 ·rw[aF c]at h;exact Nj false Hf H2 hf.an fun w' H'=>⟨rfl,h w' H'.up⟩
 rw[aE c]at h;refine Aw ?_;apply Aa<;>intro c
 ·rw[aF c]at h;exact Nj true Hf H2 hf.an fun w' H'=>⟨rfl,h w' H'.up⟩
 rw[aE c]at h;refine Aw ?_;apply Aa<;>intro c
 ·rw[aF c]at h;exact Axt H2 fun _ _ _ _ w' H'=>⟨_,_,_,_,rfl,h w' H'.up⟩
 rw[aE c]at h;refine Aw ?_;apply Aa<;>intro c
 ·rw[aF c]at h;exact Ag6 Uf H2 hf.ti fun w' H'=>⟨rfl,h w' H'.up⟩
 rw[aE c]at h;exact h w1 H2.up
end
def Gq:Nat->Pl->Pl
 |0,p=>p
 |n+1,p=>if (Mq p).2=true then Gq n (Mq p).1 else (Mq p).1
def Hk:Nat->Pl->Pl
 |0,p=>p
 |n+1,p=>if (Kc p 4096).2=true then Hk n (Em (Kc p 4096).1 false) else (Kc p 4096).1
def Bat(p:Pl):Pl:=Ag1 (Ht (Ra p 4096) false)
structure Inv (I:Pl->Prop) (mu:Pl->Nat):Prop where
 fits:∀p,I p->Fits p
 send:∀p,I p->I (Mq p).1
 build:∀p,I p->I (Kc p 4096).1
 deliver:∀p,I p->I (Em p false)
 report:∀p,I p->I (Ra p 4096)
 answer:∀p,I p->I (Ht p false)
 less:∀p,I p->(Kc p 4096).2=true->mu (Em (Kc p 4096).1 false)<mu p
theorem Arl{p:Pl}(h:(Mq p).2=true):(Mq p).1.us.length<p.us.length:=by
 unfold Mq at h ⊢;cases hu:p.us with
 |nil=>rw[hu]at h;cases h
 |cons d l=>
  rw[hu]at h;dsimp only at h ⊢;split
  ·simp
  ·rename_i hc;rw[aE hc]at h;cases h
section
variable{B:Bool}{A0:Nat->Prop}{w0 w:World}{b m:Nat}{p:Pl}{P:World->Prop}{K:Ending->World->Prop}{I:Pl->Prop}{mu:Pl->Nat}
theorem Sim.upTo{n:Nat}(H:Sim B A0 w0 w b m p P)(h:m<=n):Sim B A0 w0 w b n p P:=by
 induction h with
 |refl=>exact H
 |step _ ih=>exact ih.up
end
def Azv(B:Bool)(f:Nat):Prop:=∀ {A0:Nat->Prop} {w0 w:World} {b m:Nat} {p:Pl} {P:World->Prop} {K:Ending->World->Prop} {I:Pl->Prop} {mu:Pl->Nat} (hI:Inv I mu) (H:Sim B A0 w0 w b m p P) (hp:I p) (hm:m+2*mu (Gq (p.us.length+1) p)+10<1000000)
 (h:∀w',Sim B A0 w0 w' b (m+2*mu (Gq (p.us.length+1) p)+4) (Bat (Hk (mu (Gq (p.us.length+1) p)+1) (Gq (p.us.length+1) p))) P->K (.returned (.tuple #[])) w'),
 Calls Tryz.prog f #[.pointer (some ⟨b,0,none⟩)] w K
theorem Aed:Azv false Nx:=by
 intro A0 w0 w b m p P K I mu hI H hp hm h;apply Aa4;obtain⟨Y,hY⟩:∃Y,Y=Gq (p.us.length+1) p:=⟨_,rfl⟩;rw[<-hY]at hm h;refine⟨fun k w1=>∃p',Sim false A0 w0 w1 b m p' P/\I p'/\p'.us.length<k/\Gq k p'=Y,⟨p.us.length+1,p,H,hp,dA _,hY.symm⟩,?_⟩;clear H hp hY;rintro _ k w1 ⟨p1,H1,hp1,hl,hs⟩;obtain⟨k,rfl⟩:∃j,k=j+1:=⟨k-1,by omega⟩;refine Ag3 Uc H1 (hI.fits p1 hp1).se fun w2 H2=>?_;refine⟨_,rfl,?_⟩;apply Al<;>intro c
 ·refine⟨k,dA _,(Mq p1).1,H2,hI.send p1 hp1,by have:=Arl c;omega,?_⟩;rw[<-hs,Gq,aF c]
 have eY:(Mq p1).1=Y:=by rw[<-hs,Gq,aE (by rw[c];decide)]
 have hIY:=hI.send p1 hp1;rw[eY]at H2 hIY;clear H1;obtain⟨Z,hZ⟩:∃Z,Z=Hk (mu Y+1) Y:=⟨_,rfl⟩;rw[<-hZ]at h;refine⟨fun k w3=>∃p',k<=mu Y+1/\Sim false A0 w0 w3 b (m+2*(mu Y+1-k)) p' P/\I p'/\mu p'<k/\Hk k p'=Z,⟨mu Y+1,Y,aG _,by rw[cL];exact H2,hIY,dA _,hZ.symm⟩,?_⟩;clear H2 hIY hZ hs eY hp1;rintro _ k w3 ⟨p3,hk,H3,hp3,hmu,hb⟩;obtain⟨k,rfl⟩:∃j,k=j+1:=⟨k-1,by omega⟩;have hf:=hI.fits p3 hp3;refine Adw Sk H3 (by omega) (by omega) ⟨(hf.bu 4096).1,(hf.bu 4096).2.1⟩ (hf.bu 4096).2.2 fun w4 H4=>?_;refine⟨_,rfl,?_⟩;apply Al<;>intro c
 ·refine Kw false Gm H4 (by omega) fun w5 H5=>?_;refine⟨rfl,k,dA _,_,by omega,H5.upTo (by omega),hI.deliver _ (hI.build p3 hp3),by have:=hI.less p3 hp3 c;omega,?_⟩;rw[<-hb,Hk,aF c]
 have eZ:(Kc p3 4096).1=Z:=by rw[<-hb,Hk,aE (by rw[c];decide)]
 have hIZ:=hI.build p3 hp3;rw[eZ]at H4 hIZ;have hfZ:=hI.fits Z hIZ;refine Zi Ri H4 (by omega) ⟨(hfZ.re 4096).1,(hfZ.re 4096).2.1⟩ (hfZ.re 4096).2.2 fun w6 H6=>?_;refine⟨rfl,?_⟩;have hI6:=hI.report Z hIZ;refine Nj false Hf H6 (hI.fits _ hI6).an fun w7 H7=>?_;refine⟨rfl,?_⟩;refine Ag6 Uf H7 (hI.fits _ (hI.answer _ hI6)).ti fun w8 H8=>?_;exact⟨rfl,h w8 (H8.upTo (by omega))⟩
def Gt(d:List Int):Bool:=decide ((d.length:Int)<1)||decide ((d.length:Int)>2054)
theorem Ag5{a:Option Addr}{c:Nat}{d:List Int}{w:World}:Calls Tryz.prog Ik #[.slice a d.length c] w fun e w'=>e=.returned (.bool (Gt d))/\Below w.heap.size w w':=by
 apply Aeh;apply Aa<;>intro c
 ·exact⟨by unfold Gt;rw[aM c];rfl,.refl _ _⟩
 ·refine Aw ?_;exact⟨by unfold Gt;rw[aI c];rfl,.refl _ _⟩
section
variable{L:List BL}{a:Option Addr}{c:Nat}{w:World}
theorem Aqc(hs:SlR (CE Ic) 1 w a L)(hl:L.length<=140737488355328):Calls Tryz.prog Er #[(.slice a L.length c),.func (.func Ik) #[] #[]] w fun e w'=>e=.returned (.int .i64 (idx (fun y:BL=>Gt y.d) L))/\Below w.heap.size w w':=by
 apply Nv;have H:=St.nil w;refine⟨fun x=>((L.length-x).toNat,fun w1=>∃k:Nat,x=k/\k<=L.length/\(∀j (hj:j<L.length),j<k->Gt L[j].d=false)/\Cg w w1 []),⟨0,rfl,by omega,fun j _ h=>by omega,H⟩,?_⟩;clear H;rintro _ x w1 ⟨k,rfl,hk,hno,H1⟩;apply Aa<;>intro c1
 ·have hlt:k<L.length:=by omega
  refine ixE (hs.belowE H1.below) k rfl hlt fun b s hsk hb=>?_;obtain rfl:L[k]=s:=by rw[List.getElem?_eq_getElem hlt]at hsk;injection hsk
  refine⟨_,_,_,hb.1,?_⟩;refine⟨by kernel_rfl,?_⟩;refine(Ag5 (a:=L[k].a) (c:=L[k].c) (d:=L[k].d)).mono ?_;rintro _ w2 ⟨rfl,hb2⟩;have H2:=H1.pass hb2;clear H1;refine⟨_,rfl,?_⟩;apply Al<;>intro c
  ·exact⟨by rw[Acg (p:=fun y:BL=>Gt y.d) hlt hno c],H2.below⟩
  ·refine Ao (by omega) ?_;exact⟨⟨k+1,by omega,by omega,fun j hj h=>by
    rcases aT j k with h'|h'
    ·exact hno j hj h'
    ·obtain rfl:j=k:=by omega
     exact c,H2⟩,by dsimp only;omega⟩
 ·obtain rfl:k=L.length:=by omega
  exact⟨by rw[Agi (p:=fun y:BL=>Gt y.d) fun j hj=>hno j hj hj],H1.below⟩
theorem Akq(hs:SlR (CE Ic) 1 w a L)(hl:L.length<=140737488355328):Calls Tryz.prog Dz #[(.slice a L.length c),.func (.func Ik) #[] #[]] w fun e w'=>e=.returned (.bool (L.any fun y=>Gt y.d))/\Below w.heap.size w w':=by
 apply Lp;refine(Aqc hs hl).mono ?_;rintro _ w1 ⟨rfl,hb1⟩;refine⟨_,rfl,?_⟩;refine Aw ?_;exact⟨by rw[Yz],hb1⟩
theorem Aqg(hs:SlR (CE Ic) 1 w a L)(hl:L.length<=1000000):Calls Tryz.prog Fz #[(.slice a L.length c)] w fun e w'=>∃(a':Option Addr) (c':Nat),e=.returned (.slice a' L.length c')/\Cg w w' [.els Ic As 1 a' c' L]:=by
 apply Ql;have H:=St.nil w;apply Al<;>intro c1
 ·have hL:L=[]:=by
   rcases hs with h|⟨b,rfl,_⟩
   ·exact h
   ·cases c1
  subst hL;exact⟨none,0,rfl,H.nilE Ic As 1⟩
 ·refine H.alloc ?_;clear H;intro b w1 H1;have H1:=H1.litE Eu (i:=0) [] rfl (by decide);refine H1.appE Eu (i:=0) rfl Gy (hs.belowE H1.below) (by simp;omega) (by simp;omega) ?_;intro x_a x_c w2 H2;rw[aC]at H2 ⊢;exact⟨x_a,x_c,rfl,H2⟩
end
theorem Az0{A0:Nat->Prop}{M:List Nat}{w0 w:World}{R:List Res}{P:World->Prop}(H:St A0 M w0 w R P){i:Nat}{r:Res}(hi:R[i]?=some r):St A0 M w0 w [r] P:=
 H.sub (fun _=>i) (fun j s h=>by cases j with
  |zero=>simp at h;subst h;exact hi
  |succ j=>simp at h) (fun i j hi hj _=>by simp at hi hj;omega)
def Oe(y:Int×Int):List Value:=[.int .i64 y.1,.int .i64 y.2]
theorem Abi:Enc Oe 2:=⟨fun _=>rfl,fun _=>rfl⟩
def En(l:Lk)(us:List (List Int)):Pl:=⟨⟨l,0,0,[],0,-1,0,false⟩,⟨l,0,0,0,-1,0,0,false,[]⟩,us,[],[],[]⟩
def Hl(p:Pl)(ST:List (Int×Int)):Pl:=ST.foldl (fun p y=>Ae6 p y.1 y.2) p
def Ku(l:Lk)(U:List BL)(n:Nat):Int:=if Ir l then (if n<=400/\U.length<=256/\(U.any fun y=>Gt y.d)=false then 0 else 2) else 3
theorem Ara{l:Lk}{U:List BL}{n:Nat}(h:Ku l U n=0):Ir l/\n<=400/\U.length<=256/\(U.any fun y=>Gt y.d)=false:=by
 unfold Ku at h;split at h
 ·rename_i h1;split at h
  ·rename_i h2;exact⟨h1,h2⟩
  ·cases h
 ·cases h
theorem Auh{l:Lk}{U:List BL}{n:Nat}(hl:Ir l)(h:¬(n<=400/\U.length<=256/\(U.any fun y=>Gt y.d)=false)):Ku l U n=2:=by
 unfold Ku;rw[aF hl,aE h]
theorem Art{l:Lk}{U:List BL}{n:Nat}(hl:Ir l)(h:n<=400/\U.length<=256/\(U.any fun y=>Gt y.d)=false):Ku l U n=0:=by
 unfold Ku;rw[aF hl,aF h]
abbrev Bdg(l:Lk)(U:List BL)(ua sta:Option Addr)(uc stc:Nat)(ST:List (Int×Int)):List Value:=
 [.agg #[.int .i64 l.bits,.int .i64 l.every,.int .i64 l.poll,.int .i64 l.wait,.int .i64 l.quiet,.int .i64 l.tries],.slice ua U.length uc,.slice sta ST.length stc]
def Az5(B:Bool)(f:Nat):Prop:=∀ {A:Nat->Prop} {l:Lk} {U:List BL} {ua sta:Option Addr} {uc stc:Nat} {ST:List (Int×Int)} {w:World} {I:Pl->Prop} (hQ:Held A w fun w=>QL U ua w/\SlR (CE Oe) 2 w sta ST) (hul:U.length<=1000) (huc:U.length<=uc)
 (ha:∀y∈ST,-9223372036854775808<=y.2/\y.2<=9223372036854775807) (hI:∀p,I p->Fits p) (hIs:∀p k a,I p->I (Ae6 p k a)) (hI0:Ku l U ST.length=0->I (En l (ds U))),
 Calls Tryz.prog f #[.agg #[.int .i64 l.bits,.int .i64 l.every,.int .i64 l.poll,.int .i64 l.wait,.int .i64 l.quiet,.int .i64 l.tries],.slice ua U.length uc,.slice sta ST.length stc] w fun e w'=>
  (Ku l U ST.length≠0->e=.returned (.tuple #[.pointer none,.int .i64 (Ku l U ST.length)])/\St A [] w w' [] (fun _=>True))/\
  (Ku l U ST.length=0->∃b,e=.returned (.tuple #[.pointer (some ⟨b,0,none⟩),.int .i64 0])/\Sim B A w w' b 500 (Hl (En l (ds U)) ST) (fun _=>True)/\I (Hl (En l (ds U)) ST))
theorem Vm{p:Pl}{ST:List (Int×Int)}{n:Nat}(hlt:n<ST.length):Hl p (ST.take (n+1))=Ae6 (Hl p (ST.take n)) ST[n].1 ST[n].2:=by
 unfold Hl;rw[cS,List.getElem?_eq_getElem hlt,eC];rfl
theorem Aam:Az5 false Pg:=by
 intro A l U ua sta uc stc ST w I hQ hul huc ha hI hIs hI0;apply Ag9;have H:=St.start hQ;refine H.alloc ?_;clear H;intro b w1 H1;simp only[aC]at H1;refine⟨_,_,_,_,_,_,H1.cells (i:=0) rfl,?_⟩;have C:=Aqo (l:=l) (w:=w1);by_cases hlk:¬Ir l
 ·rw[Aej,aE hlk]at C;refine C.mono ?_;clear C;rintro _ w2 hh;obtain⟨sa,sc,rfl,-,hb2⟩:=hh.read;have H2:=H1.pass hb2;clear H1 hh;refine⟨_,_,_,_,_,_,_,_,_,_,_,_,_,_,_,_,rfl,?_⟩;refine H2.alloc ?_;clear H2;intro b1 w3 H3;simp only[aD,aC]at H3;refine H3.s 1 ?_;clear H3;intro w4 H4;refine An (fun _=>?_) (fun c=>absurd c (by decide));have hE:Ku l U ST.length=3:=by unfold Ku;rw[aE hlk]
  rw[hE];exact⟨fun _=>⟨rfl,H4.fin.imp fun _ _=>trivial⟩,fun h=>absurd h (by decide)⟩
 have hlk:Ir l:=Classical.not_not.1 hlk;rw[Aej,aF hlk]at C;refine C.mono ?_;clear C;rintro _ w2 hh;obtain⟨sa,sc,rfl,-,hb2⟩:=hh.read;have H2:=H1.pass hb2;clear H1 hh;refine⟨_,_,_,_,_,_,_,_,_,_,_,_,_,_,_,_,rfl,?_⟩;refine H2.alloc ?_;clear H2;intro b1 w3 H3;simp only[aD,aC]at H3;refine H3.s 1 ?_;clear H3;intro w4 H4;simp only[aB,aA]at H4;refine An (fun c=>absurd rfl c) (fun _=>?_);refine⟨_,_,_,_,_,_,H4.cells (i:=0) rfl,?_⟩;have C:=Alm (l:=l) (w:=w4);rw[Akx,aF hlk]at C;refine C.mono ?_;clear C;rintro _ w5 ⟨rfl,-,hb5⟩;have H5:=H4.pass hb5;clear H4;refine⟨_,_,_,_,_,_,_,_,_,_,_,_,_,_,_,_,_,rfl,?_⟩;refine H5.alloc ?_;clear H5;intro b2 w6 H6;simp only[aD,aC]at H6;refine H6.s 2 ?_;clear H6;intro w7 H7;simp only[aB,aA]at H7;refine An (fun c=>absurd rfl c) (fun _=>?_);have hbad:∀ {w':World},St A [] w w' [] (fun _=>True)->¬(ST.length<=400/\U.length<=256/\(U.any fun y=>Gt y.d)=false)->
  (Ku l U ST.length≠0->Ending.returned (.tuple #[.pointer none,.int .i64 2])=.returned (.tuple #[.pointer none,.int .i64 (Ku l U ST.length)])/\St A [] w w' [] (fun _=>True))/\
  (Ku l U ST.length=0->∃b,Ending.returned (.tuple #[.pointer none,.int .i64 2])=.returned (.tuple #[.pointer (some ⟨b,0,none⟩),.int .i64 0])/\Sim false A w w' b 500 (Hl (En l (ds U)) ST) (fun _=>True)/\I (Hl (En l (ds U)) ST)):=fun H c=>by
  rw[Auh hlk c];exact⟨fun _=>⟨rfl,H⟩,fun h=>absurd h (by decide)⟩
 refine⟨fun w9=>Ku l U ST.length=0/\St A [] w w9 [.blk b Bz [.int .i64 l.bits,.int .i64 l.every,.int .i64 l.poll,.int .i64 l.wait,.int .i64 l.quiet,.int .i64 l.tries],.blk b1 Ab (Aq ⟨l,0,0,[],0,-1,0,false⟩ sa sc),.blk b2 Ag (Bi ⟨l,0,0,0,-1,0,0,false,[]⟩ none 0)] (fun w=>QL U ua w/\SlR (CE Oe) 2 w sta ST),?_,?_⟩
 ·rintro _ w9 ⟨hE,H9⟩;clear H7 hbad;have hI0:=hI0 hE;obtain⟨-,hsl,hul,-⟩:=Ara hE;refine H9.drew ?_;clear H9;intro w10 H10;refine⟨fun q=>q<w10.heap.size,?_⟩;refine⟨H10.lt (i:=1) rfl rfl,?_⟩;refine⟨_,_,_,_,_,_,_,_,_,_,_,_,_,_,_,H10.cells (i:=1) rfl,?_⟩;refine⟨H10.lt (i:=2) rfl rfl,?_⟩;refine⟨_,_,_,_,_,_,_,_,_,_,_,_,_,_,_,_,H10.cells (i:=2) rfl,?_⟩;refine(Aqg H10.get.1.1 (by omega)).mono ?_;rintro _ w11 ⟨ca,cc,rfl,K⟩;have hb11:=K.below;have H11:=H10.callR K;clear H10 K;refine⟨_,_,_,rfl,?_⟩;refine⟨hb11.keeps,hb11.keeps,?_⟩;simp only[aD,aC]at H11;have hcap:=H11.capE (i:=3) rfl;have hca:U≠[]->∃g,ca=some g:=fun hne=>by
   obtain⟨g,hg,-⟩:=H11.rowSome (i:=3) rfl (by cases U with|nil=>exact absurd rfl hne|cons x y=>simp);exact⟨_,hg⟩
  have H11:=H11.shareE Eu (i:=3) rfl;simp only[aB,aA]at H11;refine H11.allocB ?_;clear H11;intro b3 w12 hb12 H12;refine⟨(Ax hb11 (aG _) hb12).keeps,?_⟩;have H13:=((((Az0 H12 (i:=4) rfl).nilE Ic As 1).nilE Ic As 1).nilE Ic As 1);clear H12;obtain⟨x0,hx0⟩:∃x0:Am,x0=⟨⟨l,0,0,[],0,-1,0,false⟩,sa,sc,⟨l,0,0,0,-1,0,0,false,[]⟩,none,0,⟨ca,cc,U,0,ca⟩,Qu.nil,Qu.nil,Qu.nil⟩:=⟨_,rfl⟩;have hS:Sim false A w w12 b3 0 (En l (ds U)) fun w=>SlR (CE Oe) 2 w sta ST:=by
   refine⟨x0,by rw[hx0];rfl,?_,?_,?_⟩
   ·rw[hx0];refine⟨⟨aX _,fun u hu=>(by cases hu)⟩,Wl,⟨aX _,by show U.length<=1000000;omega,.inl (As4 _ _).symm⟩,hcap,Qu.nil_ok,aG _,fun y hy=>(by cases hy),Qu.nil_ok,aG _,fun y hy=>(by cases hy),Qu.nil_ok,aG _⟩
   ·rw[hx0];exact hca
   ·rw[hx0];exact St.imp (P:=fun w=>SlR (CE Ic) 1 w ca U/\QL U ua w/\SlR (CE Oe) 2 w sta ST) H13 fun w h=>⟨⟨.nil,.nil,⟨h.1,h.2.1.2⟩,fun y hy=>(by cases hy),fun y hy=>(by cases hy),fun y hy=>(by cases hy)⟩,h.2.2⟩
  clear H13;refine⟨fun k=>((ST.length-k).toNat,fun w13=>∃n:Nat,k=n/\n<=ST.length/\Sim false A w w13 b3 n (Hl (En l (ds U)) (ST.take n)) (fun w=>SlR (CE Oe) 2 w sta ST)/\I (Hl (En l (ds U)) (ST.take n))),⟨0,rfl,aX _,hS,hI0⟩,?_⟩;clear hS;rintro _ k w13 ⟨n,rfl,hn,H13,hIn⟩;apply Aa<;>intro c
  ·have hlt:n<ST.length:=by omega
   obtain⟨x,hxp,hxo,hxu,H14⟩:=H13;refine ixE H14.get.2 n rfl hlt fun b4 y hy hb4=>?_;obtain rfl:ST[n]=y:=by rw[List.getElem?_eq_getElem hlt]at hy;exact Option.some.inj hy
   refine⟨_,_,hb4,?_⟩;refine H14.alloc ?_;clear H14;intro b5 w14 H15;simp only[aD,aC]at H15;refine H15.s 4 ?_;clear H15;intro w15 H16;simp only[aB,aA]at H16;refine⟨_,_,H16.cells (i:=4) rfl,?_⟩;refine⟨by kernel_rfl,?_⟩;have H17:Sim false A w w15 b3 n (Hl (En l (ds U)) (ST.take n)) (fun w=>SlR (CE Oe) 2 w sta ST):=⟨x,hxp,hxo,hxu,St.left (X:=[_,_,_,_]) H16⟩;refine Afu H17 (hI _ hIn) (by omega) (ha _ (aJ hlt)) fun w16 H18=>?_;refine⟨rfl,?_⟩;refine Ao (by omega) ?_;exact⟨⟨n+1,by omega,by omega,by rw[Vm hlt];exact H18,by rw[Vm hlt];exact hIs _ _ _ hIn⟩,by dsimp only;omega⟩
  ·obtain rfl:n=ST.length:=by omega
   rw[bI]at H13 hIn;refine⟨fun h=>absurd hE h,fun _=>⟨b3,rfl,?_,hIn⟩⟩;obtain⟨x,h1,h2,h3,h4⟩:=H13.upTo (n:=500) (by omega);exact⟨x,h1,h2,h3,h4.imp fun w h=>⟨h.1,trivial⟩⟩
 ·refine Aa (fun c=>hbad (H7.fin.imp fun _ _=>trivial) fun h=>by omega) (fun c4=>?_);refine Aa (fun c=>hbad (H7.fin.imp fun _ _=>trivial) fun h=>by omega) (fun c5=>?_);refine(Akq H7.get.1.1 (by omega)).mono ?_;rintro _ w8 ⟨rfl,hb8⟩;have H8:=H7.pass hb8;clear H7;refine⟨_,rfl,?_⟩;exact Al (fun c=>hbad (H8.fin.imp fun _ _=>trivial) fun h=>by rw[h.2.2]at c;cases c) (fun c=>⟨Art hlk ⟨by omega,by omega,c⟩,H8⟩)
def Am6:Nat->Pl->Pl
 |0,p=>p
 |n+1,p=>Am6 n (Em p false)
def Ahv:Nat->Pl->Pl
 |0,p=>p
 |n+1,p=>Ahv n (Ht p false)
def Bb6(mu:Pl->Nat)(p:Pl):Pl:=Bat (Hk (mu (Gq (p.us.length+1) p)+1) (Gq (p.us.length+1) p))
def Nc(mu:Pl->Nat):Nat->Pl->Pl
 |0,p=>p
 |n+1,p=>Bb6 mu (Nc mu n p)
theorem Aij(p:Pl):(Em p false).wy.length=p.wy.length-1:=by
 unfold Em;cases h:p.wy with
 |nil=>simp[h]
 |cons d l=>simp
theorem Akv(p:Pl):(Ht p false).bk.length=p.bk.length-1:=by
 unfold Ht;cases h:p.bk with
 |nil=>simp[h]
 |cons d l=>simp
def Bck(B:Bool)(f:Nat):Prop:=∀ {A:Nat->Prop} {l:Lk} {U:List BL} {ua sta:Option Addr} {uc stc:Nat} {ST:List (Int×Int)} {w:World} {I:Pl->Prop} {mu:Pl->Nat} {rounds:Int} (hQ:Held A w fun w=>QL U ua w/\SlR (CE Oe) 2 w sta ST) (hul:U.length<=1000) (huc:U.length<=uc)
 (ha:∀y∈ST,-9223372036854775808<=y.2/\y.2<=9223372036854775807) (hI:Inv I mu) (hIs:∀p k a,I p->I (Ae6 p k a)) (hIt:∀p,I p->I (Bat p)) (hIsa:∀n p,I p->I (Gq n p)) (hIba:∀n p,I p->I (Hk n p)) (hmu:∀p,I p->mu p<=26000) (hI0:Ku l U ST.length=0->I (En l (ds U))) (hr:rounds<=10)
 {Y W:Pl} (hY:Y=Am6 (Hl (En l (ds U)) ST).wy.length (Hl (En l (ds U)) ST)) (hW:W=Ahv Y.bk.length Y) {E:Int} (hE:E=if Ku l U ST.length≠0 then Ku l U ST.length else if rounds<0 then 3 else 0),
 Calls Tryz.prog f #[.agg #[.int .i64 l.bits,.int .i64 l.every,.int .i64 l.poll,.int .i64 l.wait,.int .i64 l.quiet,.int .i64 l.tries],.slice ua U.length uc,.slice sta ST.length stc,.int .i64 rounds] w fun e w'=>
  ∃(L:List BL) (a:Option Addr) (c:Nat),L.length<=1000000/\ds L=(if E=0 then (Nc mu rounds.toNat W).ot else [])/\e=.returned (.tuple #[.slice a L.length c,.bool (decide (E=0)&& !(Nc mu rounds.toNat W).s.failed),.int .i64 E])/\(E=0->I (Nc mu rounds.toNat W))/\St A [] w w' [] (QL L a)
theorem Yf:Bck false Mz:=by
 intro A l U ua sta uc stc ST w I mu rounds hQ hul huc ha hI hIs hIt hIsa hIba hmu hI0 hr Y W hY hW E hE;apply Agd;have H:=St.start hQ;refine H.alloc ?_;clear H;intro b w1 H1;simp only[aC]at H1;refine⟨_,_,_,_,_,_,H1.cells (i:=0) rfl,?_⟩;obtain⟨A1,hA1,hc1⟩:=H1.call;refine(Aam (A:=A1) hA1 hul huc ha hI.fits hIs hI0).mono ?_;rintro e w2 ⟨k1,k2⟩;by_cases hz:Ku l U ST.length≠0
 ·obtain⟨rfl,H2⟩:=k1 hz;rw[aF hz]at hE;have H3:=hc1 H2;refine⟨_,_,rfl,?_⟩;refine⟨fun _=>False,fun _ _ h=>h.elim,?_⟩;refine Aw ?_;refine An (fun _=>?_) (fun c=>absurd c hz);exact⟨[],none,0,aX _,by rw[aE (by rw[hE];exact hz)];rfl,by rw[aI (by rw[hE];exact hz),hE];rfl,fun h=>absurd h (by rw[hE];exact hz),H3.fin.imp fun _ _=>⟨.inl rfl,fun y hy=>by cases hy⟩⟩
 have hz:Ku l U ST.length=0:=by omega
 rw[aE (fun h=>h hz)]at hE;obtain⟨b1,rfl,H2,hI2⟩:=k2 hz;clear k1 k2;obtain⟨p0,hp0⟩:∃p0,p0=Hl (En l (ds U)) ST:=⟨_,rfl⟩;rw[<-hp0]at H2 hI2 hY;have H3:Sim false A w w2 b1 500 p0 (fun _=>True):=by
  obtain⟨x,h1,h2,h3,h4⟩:=H2;exact⟨x,h1,h2,h3,((hc1 h4).sub (fun i=>i+1) (fun i r hi=>by simpa using hi) (fun i j _ _ h=>by omega)).imp fun w h=>⟨h.1.1,trivial⟩⟩
 clear H2 hc1 H1;refine⟨_,_,rfl,?_⟩;refine⟨fun w3=>E=0/\0<=rounds/\Sim false A w w3 b1 500 p0 (fun _=>True),?_,?_⟩
 ·clear H3;rintro _ w3 ⟨hE0,h0,H3⟩;have hN:p0.wy.length<=500:=by
   obtain⟨x,h1,h2,_⟩:=H3;rw[<-h1];have:=h2.wl;show (ds x.wy.live).length<=500;unfold ds Qu.live;simp;omega
  refine⟨fun k w4=>∃p',k=p'.wy.length/\k<=p0.wy.length/\Sim false A w w4 b1 (500+(p0.wy.length-k)) p' (fun _=>True)/\I p'/\Am6 k p'=Y,⟨p0.wy.length,p0,rfl,aG _,by rw[cL];exact H3,hI2,hY.symm⟩,?_⟩;clear H3;rintro _ k w4 ⟨p',rfl,hk,H4,hI4,hY4⟩;have hld:∃(q:Option Addr) (c:Nat),w4.cell? ⟨b1,28,none⟩=some (.slice q p'.wy.length c):=by
   obtain⟨x,h1,_,_,h4⟩:=H4;refine⟨x.wy.p,x.wy.c-x.wy.n,?_⟩;have:=h4.cell (i:=0) (o:=28) rfl (show (x.enc false)[28]?=some x.wy.sl from rfl);rw[this,<-h1];show some (Value.slice _ _ _)=some (.slice _ (ds x.wy.live).length _);unfold ds Qu.live;simp
  obtain⟨q,c,hld⟩:=hld;refine Bk ?_;rw[Bd,aN];refine⟨q,p'.wy.length,c,hld,?_⟩;apply Aa<;>intro c1
  ·refine Kw false Gm H4 (by omega) fun w5 H5=>?_;have hl:=Aij p';refine⟨rfl,p'.wy.length-1,by omega,Em p' false,hl.symm,by omega,H5.upTo (by omega),hI.deliver _ hI4,?_⟩;rw[<-hY4];obtain⟨j,hj⟩:∃j,p'.wy.length=j+1:=⟨p'.wy.length-1,by omega⟩;rw[hj];rfl
  have hY5:p'=Y:=by rw[<-hY4,show p'.wy.length=0 by omega];rfl
  rw[hY5]at H4 hI4;replace H4:=H4.upTo (n:=1000) (by omega);clear hld hY4 hY5 hk;have hN:Y.bk.length<=1000:=by
   obtain⟨x,h1,h2,_⟩:=H4;rw[<-h1];have:=h2.bl;show (ds x.bk.live).length<=1000;unfold ds Qu.live;simp;omega
  refine⟨fun k w6=>∃p',k=p'.bk.length/\Sim false A w w6 b1 1000 p' (fun _=>True)/\I p'/\Ahv k p'=W,⟨Y.bk.length,Y,rfl,H4,hI4,hW.symm⟩,?_⟩;clear H4 hI4;rintro _ k w6 ⟨p',rfl,H6,hI6,hW6⟩;have hld:∃(q:Option Addr) (c:Nat),w6.cell? ⟨b1,29,none⟩=some (.slice q p'.bk.length c):=by
   obtain⟨x,h1,_,_,h4⟩:=H6;refine⟨x.bk.p,x.bk.c-x.bk.n,?_⟩;have:=h4.cell (i:=0) (o:=29) rfl (show (x.enc false)[29]?=some x.bk.sl from rfl);rw[this,<-h1];show some (Value.slice _ _ _)=some (.slice _ (ds x.bk.live).length _);unfold ds Qu.live;simp
  obtain⟨q,c,hld⟩:=hld;refine Bk ?_;rw[Bd,aN];refine⟨q,p'.bk.length,c,hld,?_⟩;apply Aa<;>intro c1
  ·refine Nj false Hf H6 (hI.fits _ hI6).an fun w7 H7=>?_;have hl:=Akv p';refine⟨rfl,p'.bk.length-1,by omega,Ht p' false,hl.symm,H7,hI.answer _ hI6,?_⟩;rw[<-hW6];obtain⟨j,hj⟩:∃j,p'.bk.length=j+1:=⟨p'.bk.length-1,by omega⟩;rw[hj];rfl
  have hW7:p'=W:=by rw[<-hW6,show p'.bk.length=0 by omega];rfl
  rw[hW7]at H6 hI6;clear hld hW6 hW7;refine⟨fun k=>((rounds-k).toNat,fun w8=>∃n:Nat,k=n/\k<=rounds/\Sim false A w w8 b1 (1000+52004*n) (Nc mu n W) (fun _=>True)/\I (Nc mu n W)),⟨0,rfl,h0,H6,hI6⟩,?_⟩;clear H6 hI6;rintro _ k w8 ⟨n,rfl,hk,H8,hI8⟩;apply Aa<;>intro c2
  ·have hm:=hmu _ (hIsa ((Nc mu n W).us.length+1) _ hI8);refine Aed hI H8 hI8 (by omega) fun w9 H9=>?_;refine⟨rfl,?_⟩;refine Ao (by omega) ?_;exact⟨⟨n+1,by omega,by omega,H9.upTo (by omega),hIt _ (hIba _ _ (hIsa _ _ hI8))⟩,by dsimp only;omega⟩
  ·have hn:n=rounds.toNat:=by omega
   rw[<-hn];obtain⟨x,h1,h2,_,H9⟩:=H8;refine H9.drew ?_;clear H9;intro w10 H10;have hcap:=H10.capE (i:=3) rfl;refine Bk ?_;rw[Bd,aN];refine H10.ldS (i:=0) (o:=30) rfl rfl ?_;refine Bk ?_;rw[Bd,aN];refine⟨x.s.failed,H10.cell (i:=0) (o:=12) rfl rfl,?_⟩;refine⟨x.ot.live,x.ot.p,x.ot.c-x.ot.n,by have:=h2.oo.2.1;simp[Qu.live];omega,by rw[aF hE0,<-h1];rfl,?_,fun _=>hI8,?_⟩
   ·rw[<-h1,aM hE0,hE0,bH];have:x.ot.live.length=x.ot.all.length-x.ot.n:=by simp[Qu.live]
    rw[this];rfl
   ·exact((H10.shareE Eu (i:=3) rfl).fin).imp fun w h=>⟨Qu.sl_live h2.oo hcap h.1,h.2.1.2.2.2.2.2⟩
 ·refine Aw ?_;refine An (fun c=>absurd rfl c) (fun _=>?_);apply Aa<;>intro c
  ·rw[aF c]at hE;obtain⟨x,_,_,_,h4⟩:=H3;exact⟨[],none,0,aX _,by rw[aE (by rw[hE];exact(by decide))];rfl,by rw[aI (by rw[hE];exact(by decide)),hE];rfl,fun h=>absurd h (by rw[hE];exact(by decide)),h4.fin.imp fun _ _=>⟨.inl rfl,fun y hy=>by cases hy⟩⟩
  rw[aE c]at hE;refine Aw ?_;exact Aa (fun c=>absurd c (by omega)) (fun _=>⟨hE,by omega,H3⟩)
def Bc1(B:Bool)(f:Nat):Prop:=∀ {A:Nat->Prop} {l:Lk} {U:List BL} {ua sta:Option Addr} {uc stc:Nat} {ST:List (Int×Int)} {w:World} {I:Pl->Prop} (hQ:Held A w fun w=>QL U ua w/\SlR (CE Oe) 2 w sta ST) (hul:U.length<=1000) (huc:U.length<=uc)
 (ha:∀y∈ST,-9223372036854775808<=y.2/\y.2<=9223372036854775807) (hI:∀p,I p->Fits p) (hIs:∀p k a,I p->I (Ae6 p k a)) (hI0:Ku l U ST.length=0->I (En l (ds U))) {Z:Pl} {E:Int} (hE:E=Ku l U ST.length) (hZ:Z=if E=0 then Hl (En l (ds U)) ST else ⟨.zero,.zero,[],[],[],[]⟩),
 Calls Tryz.prog f #[.agg #[.int .i64 l.bits,.int .i64 l.every,.int .i64 l.poll,.int .i64 l.wait,.int .i64 l.quiet,.int .i64 l.tries],.slice ua U.length uc,.slice sta ST.length stc] w fun e w'=>
  ∃(L:List BL) (a:Option Addr) (c:Nat) (sa:Option Addr) (sc:Nat) (ra:Option Addr) (rc:Nat),L.length<=1000000/\ds L=Z.ot/\e=.returned (.tuple #[.slice a L.length c,Sg Z.s sa sc,Fw Z.r ra rc,.int .i64 E])/\(E=0->I Z)/\St A [] w w' [] (fun w=>QL L a w/\UnR w sa Z.s.units/\PaR w ra Z.r.parts)
theorem Apt:Bc1 false Zw:=by
 intro A l U ua sta uc stc ST w I hQ hul huc ha hI hIs hI0 Z E hE hZ;apply Aml;have H:=St.start hQ;refine H.alloc ?_;clear H;intro b w1 H1;refine H1.alloc ?_;clear H1;intro b1 w2 H2;refine H2.alloc ?_;clear H2;intro b2 w3 H3;simp only[aD,aC]at H3;refine⟨_,_,_,_,_,_,H3.cells (i:=0) rfl,?_⟩;obtain⟨A1,hA1,hc1⟩:=H3.call;refine(Aam (A:=A1) hA1 hul huc ha hI hIs hI0).mono ?_;rintro e w4 ⟨k1,k2⟩;rw[<-hE]at k1 k2;by_cases hE0:E≠0
 ·obtain⟨rfl,h4⟩:=k1 hE0;have H4:=hc1 h4;clear hc1 H3;simp only[aL]at H4;refine⟨_,_,rfl,?_⟩;refine An (fun _=>?_) (fun c=>absurd c hE0);refine H4.s 1 ?_;clear H4;intro w8 H8;simp only[aB,aA]at H8;refine H8.s 2 ?_;clear H8;intro w9 H9;simp only[aB,aA]at H9;refine⟨_,_,_,_,_,_,_,_,_,_,_,_,_,_,_,H9.cells (i:=1) rfl,?_⟩;refine⟨_,_,_,_,_,_,_,_,_,_,_,_,_,_,_,_,H9.cells (i:=2) rfl,?_⟩;rw[aE hE0]at hZ;subst hZ;exact⟨[],none,0,none,0,none,0,aX _,rfl,rfl,fun h=>absurd h hE0,H9.fin.imp fun _ _=>⟨⟨.inl rfl,fun y hy=>by cases hy⟩,.nil,.nil⟩⟩
 have hE0:E=0:=by omega
 rw[aF hE0]at hZ;obtain⟨bb,rfl,⟨x,h1,h2,h3,h4⟩,hI2⟩:=k2 hE0;rw[<-hZ]at h1 hI2;have H4:=hc1 h4;clear hc1 H3 k1 k2;simp only[aD,aC]at H4;refine⟨_,_,rfl,?_⟩;refine An (fun c=>absurd rfl c) (fun _=>?_);refine H4.drew ?_;clear H4;intro w7 H7;refine⟨fun q=>q=bb,?_⟩;have hcap:=H7.capE (i:=6) rfl;refine Bk ?_;rw[Bd,aN];refine H7.ldS (i:=3) (o:=30) rfl rfl ?_;refine Bk ?_;refine⟨_,_,_,_,_,_,_,_,_,_,_,_,_,_,_,H7.cellsAt (i:=3) (o:=0) (vs:=Aq x.s x.sa x.sc) rfl rfl,?_⟩;refine Bk ?_;rw[Bd,aN];refine⟨rfl,?_⟩;refine⟨_,_,_,_,_,_,_,_,_,_,_,_,_,_,_,_,H7.cellsAt (i:=3) (o:=13) (vs:=Bi x.r x.ra x.rc) rfl rfl,?_⟩;refine H7.s 1 ?_;intro w8 H8;simp only[aB,aA]at H8;refine⟨Mk (H7.ok 3 _ rfl) (H8.ok 3 _ rfl),?_⟩;refine H8.s 2 ?_;intro w9 H9;simp only[aB,aA]at H9;refine⟨Mk (H7.ok 3 _ rfl) (H9.ok 3 _ rfl),?_⟩;refine⟨_,_,_,_,_,_,_,_,_,_,_,_,_,_,_,H9.cells (i:=1) rfl,?_⟩;refine⟨_,_,_,_,_,_,_,_,_,_,_,_,_,_,_,_,H9.cells (i:=2) rfl,?_⟩;refine⟨x.ot.live,x.ot.p,x.ot.c-x.ot.n,x.sa,x.sc,x.ra,x.rc,by have:=h2.oo.2.1;simp[Qu.live];omega,by rw[<-h1];rfl,?_,fun _=>hI2,?_⟩
 ·rw[<-h1,hE0];have:x.ot.live.length=x.ot.all.length-x.ot.n:=by simp[Qu.live]
  rw[this];rfl
 ·rw[<-h1];exact((H9.shareE Eu (i:=6) rfl).fin).imp fun w h=>⟨⟨Qu.sl_live h2.oo hcap h.1,h.2.1.1.2.2.2.2.2⟩,h.2.1.1.1,h.2.1.1.2.1⟩
def SA(b1 n b o:Nat)(q:Addr):Prop:=(∃j,j<n/\q=⟨b1,j,none⟩)\/q=⟨b,o,none⟩
theorem Bcj{b1 n b o:Nat}:∀j,j<n->SA b1 n b o ((⟨b1,0,none⟩:Addr).add j):=fun j h=>.inl ⟨j,h,by rw[Bd,aN]⟩
theorem Aj7{A0:Nat->Prop}{M M':List Nat}{w0 w w':World}{R R':List Res}{P P':World->Prop}{i b1 b n o:Nat}{t1 t:TypeId}{c1 cs cs':List Value}{v:Value}(H:St A0 M w0 w R P)(H':St A0 M' w0 w' R' P')
 (hi:R[i]?=some (.blk b1 t1 c1)) (hi':R'[i]?=some (.blk b1 t1 c1)) (hj:R[0]?=some (.blk b t cs)) (hj':R'[0]?=some (.blk b t cs')) (hn:n=c1.length) (ho:cs[o]?=some v) (ho':cs'[o]?=some v):
 Lz (SA b1 n b o) w w':=by
 intro p u hp hc;rcases hp with ⟨j,hjn,rfl⟩|rfl
 ·have hv:c1[j]?=some c1[j]:=List.getElem?_eq_getElem (by omega);rw[H.cell hi hv]at hc;rw[H'.cell hi' hv,hc]
 ·rw[H.cell hj ho]at hc;rw[H'.cell hj' ho',hc]
section
variable{A0:Nat->Prop}{w0 w:World}{b:Nat}{x:Am}{P:World->Prop}{m:Nat}{K:Ending->World->Prop}
theorem So:Avr true Jj:=by
 intro A0 w0 w b x P m K size H hx hm hsz hbs hsu h0 h1;apply Abb;refine⟨_,_,_,_,_,_,_,_,_,_,_,_,_,_,_,H.cellsAt (i:=0) (o:=0) (vs:=Aq x.s x.sa x.sc) rfl rfl,?_⟩;refine(Ank H.get.1.1 hx.su hsz).mono ?_;obtain⟨B,hB⟩:∃B,B=Ca x.s size (Cq x.s):=⟨_,rfl⟩;rw[<-hB]at hbs hsu h0 h1 ⊢;rintro _ w1 ⟨sa,sc,ba,bc,hbc,rfl,K1⟩;have H1:=H.callF K1;clear H K1;rw[aL]at H1;refine⟨_,_,_,_,_,_,_,_,_,_,_,_,_,_,_,_,_,_,_,rfl,?_⟩;refine H1.alloc ?_;clear H1;intro b1 w2 H2;simp only[aD,aC]at H2;refine H2.s 4 ?_;clear H2;intro w3 H3;simp only[aB,aA]at H3;apply An<;>intro c
 ·exact h0 w3 c ((St.left (X:=[_,_,_,_]) H3).imp fun w h=>h.2)
 ·refine H3.drew ?_;clear H3;intro w4 H4;refine⟨SA b1 13 b 29,Bcj,?_⟩;refine⟨_,_,_,_,_,_,_,_,_,_,_,_,_,_,_,H4.cells (i:=4) rfl,?_⟩;refine⟨.inr rfl,?_⟩;refine H4.ldS (i:=0) (o:=29) rfl rfl ?_;refine H4.alloc ?_;intro lit w5 H5;simp only[aD,aC]at H5;refine⟨Aj7 H4 H5 (i:=4) rfl rfl rfl rfl rfl rfl rfl,?_⟩;refine Bah H5 (i:=1) (j:=5) (q:=x.wy) rfl hx.wo (by have:=hx.wl;omega) ⟨B.2.1,ba,bc⟩ rfl (by decide) Gy ?_;intro q' w6 g1 g2 g3 H6;simp only[aB,aA]at H6;refine⟨Aj7 H4 H6 (i:=4) rfl rfl rfl rfl rfl rfl rfl,?_⟩;refine H6.storeAt (i:=0) (o:=0) rfl (by show 0+13<=32;decide) (by rfl) ?_;intro w7 H7;simp only[aA]at H7;refine⟨Aj7 H4 H7 (i:=4) rfl rfl rfl rfl rfl rfl rfl,?_⟩;refine H7.set (i:=0) (o:=29) rfl (by show 29<32;decide) ?_;intro w8 H8;simp only[aA]at H8;replace H8:St A0 [] w0 w8 (Ae9 true b { x with s:=B.1,sa:=sa,sc:=sc,wy:=q' }) (fun w=>(UnR w sa B.1.units/\SlR (Bp .u8) 1 w ba B.2.1)/\x.hold w/\P w):=St.left (X:=[_,_,_,_]) H8;refine h1 sa sc q' w8 c (by rw[g2,bD];rfl) ?_ ?_
  ·refine⟨hsu,hx.gp,hx.uo,hx.uc,g1,by have:=hx.wl;show q'.all.length<=m+1;omega,fun y hy=>?_,hx.bo,aY hx.bl,hx.bb,hx.oo,aY hx.ol⟩;rw[show ({ x with s:=B.1,sa:=sa,sc:=sc,wy:=q' }:Am).wy.live=q'.live from rfl,g2]at hy;rcases aW.1 hy with hy|hy
   ·exact hx.wb y hy
   ·obtain rfl:y=⟨B.2.1,ba,bc⟩:=by simpa using hy
    exact hbs
  ·refine St.imp (P:=fun w=>(UnR w sa B.1.units/\SlR (Bp .u8) 1 w ba B.2.1)/\x.hold w/\P w) H8 fun w h=>⟨⟨h.1.1,h.2.1.2.1,h.2.1.2.2.1,?_,h.2.1.2.2.2.2⟩,h.2.2⟩;intro y hy;rw[show ({ x with s:=B.1,sa:=sa,sc:=sc,wy:=q' }:Am).wy.live=q'.live from rfl,g2]at hy;rcases aW.1 hy with hy|hy
   ·exact h.2.1.2.2.2.1 y hy
   ·obtain rfl:y=⟨B.2.1,ba,bc⟩:=by simpa using hy
    exact⟨h.1.2,hbc⟩
theorem Rj:Asz true Hv:=by
 intro A0 w0 w b x P m K size H hx hm hbs hgp h0 h1;apply Zn;refine⟨_,_,_,_,_,_,_,_,_,_,_,_,_,_,_,_,H.cellsAt (i:=0) (o:=13) (vs:=Bi x.r x.ra x.rc) rfl rfl,?_⟩;refine(Als H.get.1.2.1 hx.gp.sm).mono ?_;obtain⟨B,hB⟩:∃B,B=Fu x.r size:=⟨_,rfl⟩;rw[<-hB]at hbs hgp h0 h1 ⊢;rintro _ w1 hh;obtain⟨ra,rc,ba,bc,hbc,rfl,K1⟩:=hh.read;have H1:=H.callF K1;clear H K1 hh;rw[aL]at H1;refine⟨_,_,_,_,_,_,_,_,_,_,_,_,_,_,_,_,_,_,_,_,rfl,?_⟩;refine H1.alloc ?_;clear H1;intro b1 w2 H2;simp only[aD,aC]at H2;refine H2.s 4 ?_;clear H2;intro w3 H3;simp only[aB,aA]at H3;apply Aa<;>intro c
 ·refine H3.drew ?_;clear H3;intro w4 H4;refine⟨SA b1 14 b 30,Bcj,?_⟩;refine⟨_,_,_,_,_,_,_,_,_,_,_,_,_,_,_,_,H4.cells (i:=4) rfl,?_⟩;refine⟨.inr rfl,?_⟩;refine H4.ldS (i:=0) (o:=30) rfl rfl ?_;refine H4.alloc ?_;intro lit w5 H5;simp only[aD,aC]at H5;refine⟨Aj7 H4 H5 (i:=4) rfl rfl rfl rfl rfl rfl rfl,?_⟩;refine Bah H5 (i:=2) (j:=5) (q:=x.bk) rfl hx.bo (by have:=hx.bl;omega) ⟨B.2.1,ba,bc⟩ rfl (by decide) Gy ?_;intro q' w6 g1 g2 g3 H6;simp only[aB,aA]at H6;refine⟨Aj7 H4 H6 (i:=4) rfl rfl rfl rfl rfl rfl rfl,?_⟩;refine H6.storeAt (i:=0) (o:=13) rfl (by show 13+14<=32;decide) (by rfl) ?_;intro w7 H7;simp only[aA]at H7;refine⟨Aj7 H4 H7 (i:=4) rfl rfl rfl rfl rfl rfl rfl,?_⟩;refine H7.set (i:=0) (o:=30) rfl (by show 30<32;decide) ?_;intro w8 H8;simp only[aA]at H8;replace H8:St A0 [] w0 w8 (Ae9 true b { x with r:=B.1,ra:=ra,rc:=rc,bk:=q' }) (fun w=>(PaR w ra B.1.parts/\SlR (Bp .u8) 1 w ba B.2.1)/\x.hold w/\P w):=St.left (X:=[_,_,_,_]) H8;refine h1 ra rc q' w8 c (by rw[g2,bD];rfl) ?_ ?_
  ·refine⟨hx.su,hgp,hx.uo,hx.uc,hx.wo,aY hx.wl,hx.wb,g1,by have:=hx.bl;show q'.all.length<=m+1;omega,fun y hy=>?_,hx.oo,aY hx.ol⟩;rw[show ({ x with r:=B.1,ra:=ra,rc:=rc,bk:=q' }:Am).bk.live=q'.live from rfl,g2]at hy;rcases aW.1 hy with hy|hy
   ·exact hx.bb y hy
   ·obtain rfl:y=⟨B.2.1,ba,bc⟩:=by simpa using hy
    exact hbs
  ·refine St.imp (P:=fun w=>(PaR w ra B.1.parts/\SlR (Bp .u8) 1 w ba B.2.1)/\x.hold w/\P w) H8 fun w h=>⟨⟨h.2.1.1,h.1.1,h.2.1.2.2.1,h.2.1.2.2.2.1,?_,h.2.1.2.2.2.2.2⟩,h.2.2⟩;intro y hy;rw[show ({ x with r:=B.1,ra:=ra,rc:=rc,bk:=q' }:Am).bk.live=q'.live from rfl,g2]at hy;rcases aW.1 hy with hy|hy
   ·exact h.2.1.2.2.2.2.1 y hy
   ·obtain rfl:y=⟨B.2.1,ba,bc⟩:=by simpa using hy
    exact⟨h.1.2,hbc⟩
 ·exact h0 w3 c ((St.left (X:=[_,_,_,_]) H3).imp fun w h=>h.2)
theorem Tk:Azp true Kn:=by
 intro A0 w0 w b x P m K H hx hsu h;apply Acu;refine⟨fun w5=>∃(sa:Option Addr) (sc:Nat),AmS true A0 w0 w5 b { x with s:=x.tS,sa:=sa,sc:=sc } P,?_,?_⟩
 ·rintro _ w5 ⟨sa,sc,H5⟩;clear H;refine⟨_,_,_,_,_,_,_,_,_,_,_,_,_,_,_,_,H5.cellsAt (i:=0) (o:=13) (vs:=Bi x.r x.ra x.rc) rfl rfl,?_⟩;refine(Ap0 H5.get.1.2.1 hx.gp.sm).mono ?_;have hg:=Ar5 hx.gp;have hte:x.tR=if (Gv x.r).2=0 then (Gv x.r).1 else x.r:=rfl
  obtain⟨T,hT⟩:∃T,T=Gv x.r:=⟨_,rfl⟩;rw[<-hT]at hg hte ⊢;rintro _ w6 hh;obtain⟨ra,rc,rfl,K1⟩:=hh.read;have H6:=H5.callF K1;clear H5 K1 hh;rw[aL]at H6;refine⟨_,_,_,_,_,_,_,_,_,_,_,_,_,_,_,_,_,rfl,?_⟩;refine H6.alloc ?_;clear H6;intro b1 w7 H7;simp only[aD,aC]at H7;refine H7.s 4 ?_;clear H7;intro w8 H8;simp only[aB,aA]at H8;apply Aa<;>intro c
  ·refine⟨_,_,_,_,_,_,_,_,_,_,_,_,_,_,_,_,H8.cells (i:=4) rfl,?_⟩;refine H8.storeAt (i:=0) (o:=13) rfl (by show 13+14<=32;decide) (by rfl) ?_;clear H8;intro w9 H9;simp only[aA]at H9;rw[aF c]at hte;refine h sa sc ra rc w9 ⟨hsu,by show GP x.tR.parts;rw[hte];exact hg,hx.uo,hx.uc,hx.wo,hx.wl,hx.wb,hx.bo,hx.bl,hx.bb,hx.oo,hx.ol⟩ ?_;rw[hte];exact St.imp (P:=fun w=>PaR w ra T.1.parts/\Am.hold { x with s:=x.tS,sa:=sa,sc:=sc } w/\P w) (St.left (X:=[_,_,_,_]) H9) fun w h=>⟨⟨h.2.1.1,h.1,h.2.1.2.2⟩,h.2.2⟩
  ·rw[aE c]at hte;refine h sa sc x.ra x.rc w8 ⟨hsu,by show GP x.tR.parts;rw[hte];exact hx.gp,hx.uo,hx.uc,hx.wo,hx.wl,hx.wb,hx.bo,hx.bl,hx.bb,hx.oo,hx.ol⟩ ?_;rw[hte];exact(St.left (X:=[_,_,_,_]) H8).imp fun w h=>h.2
 ·refine⟨_,_,_,_,_,_,_,_,_,_,_,_,_,_,_,H.cellsAt (i:=0) (o:=0) (vs:=Aq x.s x.sa x.sc) rfl rfl,?_⟩;refine(Aqk H.get.1.1 hx.su).mono ?_;have hte:x.tS=if (Hr x.s (Cq x.s)).2=0 then (Hr x.s (Cq x.s)).1 else x.s:=rfl
  obtain⟨T,hT⟩:∃T,T=Hr x.s (Cq x.s):=⟨_,rfl⟩;rw[<-hT]at hte ⊢;rintro _ w1 hh;obtain⟨sa,sc,L,hL,rfl,K0⟩:=hh;have K1:=(Gp (R:=[.els Ba Ae 5 sa sc L]) K0).shareE Bm (i:=0) rfl;have H1:=H.callF K1.fin;clear H K0 K1;rw[aL]at H1;refine⟨_,_,_,_,_,_,_,_,_,_,_,_,_,_,_,_,rfl,?_⟩;refine H1.alloc ?_;clear H1;intro b1 w2 H2;simp only[aD,aC]at H2;refine H2.s 4 ?_;clear H2;intro w3 H3;simp only[aB,aA]at H3;apply Aa<;>intro c
  ·refine⟨_,_,_,_,_,_,_,_,_,_,_,_,_,_,_,H3.cells (i:=4) rfl,?_⟩;refine H3.storeAt (i:=0) (o:=0) rfl (by show 0+13<=32;decide) (by rfl) ?_;clear H3;intro w4 H4;simp only[aA]at H4;rw[aF c]at hte;refine⟨sa,sc,?_⟩;rw[hte];refine St.imp (St.left (X:=[_,_,_,_]) H4) fun w h=>⟨⟨?_,h.2.1.2⟩,h.2.2⟩;rw[<-hL];exact Nt h.1.1 h.1.2.2.out h.1.2.1
  ·rw[aE c]at hte;refine⟨x.sa,x.sc,?_⟩;rw[hte];exact(St.left (X:=[_,_,_,_]) H3).imp fun w h=>h.2
end
end Go.Proofs.YtmbppohkadmjgaaGreat
namespace Go.Sx
theorem Qu.live_cons{q:Qu}(h:q.live≠[]):∃y l,q.live=y::l:=by
 cases hq:q.live with
 |nil=>exact absurd hq h
 |cons y l=>exact⟨y,l,rfl⟩
theorem Qu.live_len(q:Qu):q.live.length=q.all.length-q.n:=by simp[Qu.live]
theorem Qu.next_live{q:Qu}{y:BL}{l:List BL}(h:q.live=y::l):q.next.live=l:=by
 show q.all.drop (q.n+1)=l;have:q.all.drop q.n=y::l:=h;rw[<-List.tail_drop,this];rfl
theorem Qu.next_sl(q:Qu):q.next.sl=.slice (Ay (q.c-q.n) ((1:Int).toNat) 1 q.p) (q.all.length-q.n-(1:Int).toNat) (q.c-q.n-(1:Int).toNat):=by
 show Value.slice (Ay (q.c-q.n) 1 1 q.p) (q.all.length-(q.n+1)) (q.c-(q.n+1))=_;rw[Nat.sub_sub,Nat.sub_sub];rfl
end Go.Sx
namespace Go.Proofs.YtmbppohkadmjgaaGreat
open Go.Sx Go.RowKit
set_option maxRecDepth 100000
theorem Ay9{s:Rc}{bs:List Int}(h:(It s bs).2.2≠0):(It s bs).2.1=[]:=by
 unfold It at h ⊢;by_cases h1:s.okB=false
 ·rw[aF h1]
 rw[aE h1]at h ⊢;dsimp only at h ⊢;by_cases h2:(Ip s.lk.bits bs).2≠0
 ·rw[aF h2]
 rw[aE h2]at h ⊢;by_cases h3:Ek s (Ip s.lk.bits bs).1≠0
 ·rw[aF h3]
 rw[aE h3]at h;exact absurd rfl h
section
variable{A0:Nat->Prop}{w0 w:World}{b:Nat}{x:Am}{P:World->Prop}{m:Nat}{K:Ending->World->Prop}
theorem Kg:Ao2 true Fh:=by
 intro A0 w0 w b x P m K keep H hx hm h0 h1;apply Xx;have hll:=x.wy.live_len;have hcap:x.wy.all.length<=x.wy.c:=H.capE (i:=1) rfl;refine H.ldS (i:=0) (o:=29) rfl rfl ?_;apply Aa<;>intro c
 ·exact h0 (aK (by omega))
 obtain⟨y,l,hl⟩:=Qu.live_cons (q:=x.wy) (fun e=>by rw[e]at hll;simp at hll;omega);have hyl:y∈x.wy.live:=by rw[hl];simp
 obtain⟨hyB,hyL⟩:=hx.wb y hyl;have hlt:x.wy.n<x.wy.all.length:=by rw[hl]at hll;simp at hll;omega
 have hnl:=Qu.next_live hl;have hgp:=(Asq hx.gp hyB).1;have h1:=fun ra rc ot w'=>h1 y l ra rc ot w' hl fun _=>hnl;have hrn:(It x.r y.d).2.2≠0->(It x.r y.d).2.1=[]:=Ay9;unfold Am.dR at h1;obtain⟨T,hT⟩:∃T,T=It x.r y.d:=⟨_,rfl⟩;rw[<-hT]at h1 hgp hrn;obtain⟨D,hD⟩:∃D,D=if T.2.2=1 then x.r else T.1:=⟨_,rfl⟩
 rw[<-hD]at h1;have hgD:GP D.parts:=by rw[hD];split;exact hx.gp;exact hgp
 refine⟨fun r2 ua ul uc e1 w8=>e1=T.2.2/\∃(b2:Nat) (ra:Option Addr) (rc:Nat),r2=⟨b2,0,none⟩/\ul=T.2.1.length/\ul<=uc/\St A0 [] w0 w8 (Ae9 true b x++[.blk b2 Ag (Bi T.1 ra rc)]) (fun w=>(PaR w ra T.1.parts/\SlR (Bp .u8) 1 w ua T.2.1)/\x.hold w/\P w),?_,?_⟩
 ·rintro _ r2 ua _ uc _ w8 ⟨rfl,b2,ra,rc,rfl,rfl,huc,H8⟩;clear H;simp only[aD,aC]at H8;refine⟨fun w10=>∃(ra:Option Addr) (rc:Nat),AmS true A0 w0 w10 b { x with r:=D,ra:=ra,rc:=rc } fun w=>SlR (Bp .u8) 1 w ua T.2.1/\P w,?_,?_⟩
  ·rintro _ w10 ⟨ra,rc,H10⟩;clear H8;refine⟨fun w15=>∃ot:Qu,(T.2.1=[]->ot=x.ot)/\(T.2.1≠[]->ot.live.map (·.d)=x.ot.live.map (·.d)++[T.2.1])/\ot.ok/\ot.all.length<=m+1/\AmS true A0 w0 w15 b { x with r:=D,ra:=ra,rc:=rc,ot:=ot } P,?_,?_⟩
   ·rintro _ w15 ⟨ot,g1,g2,g3,g4,H15⟩;clear H10;cases keep with
    |true=>
     refine Bq (fun c=>by cases c) (fun _=>?_);exact h1 ra rc ot w15 g1 g2 ⟨hx.su,hgD,hx.uo,hx.uc,hx.wo,aY hx.wl,hx.wb,hx.bo,aY hx.bl,hx.bb,g3,g4⟩ H15
    |false=>
     refine Bq (fun _=>?_) (fun c=>by cases c);refine H15.ldS (i:=0) (o:=29) rfl rfl ?_;refine⟨⟨by omega,by show (1:Int)<=((x.wy.all.length-x.wy.n:Nat):Int);omega⟩,?_⟩;obtain⟨g,hg,-⟩:=H15.rowSome (i:=1) rfl (show 0<x.wy.all.length by omega);have hno:=Qu.next_ok hx.wo hlt hcap ⟨_,hg⟩;have hsub:∀z∈x.wy.next.live,z∈x.wy.live:=fun z hz=>by rw[hnl]at hz;rw[hl];exact cE _ hz
     refine H15.set (i:=0) (o:=29) rfl (by show 29<32;decide) ?_;clear H15;intro w16 H16;simp only[aA]at H16;refine h1 ra rc ot w16 g1 g2 ⟨hx.su,hgD,hx.uo,hx.uc,hno,aY hx.wl,fun z hz=>hx.wb z (hsub z hz),hx.bo,aY hx.bl,hx.bb,g3,g4⟩ ?_;have e:(Am.enc true { x with r:=D,ra:=ra,rc:=rc,ot:=ot }).set 29 x.wy.next.sl=Am.enc true { x with wy:=x.wy.next,r:=D,ra:=ra,rc:=rc,ot:=ot }:=rfl;rw[Qu.next_sl]at e;refine St.imp (P:=fun w=>Am.hold { x with r:=D,ra:=ra,rc:=rc,ot:=ot } w/\P w) ?_ fun w h=>⟨⟨h.1.1,h.1.2.1,h.1.2.2.1,fun z hz=>h.1.2.2.2.1 z (hsub z hz),h.1.2.2.2.2⟩,h.2⟩;show St A0 [] w0 w16 (.blk b (kTy true) (Am.enc true { x with wy:=x.wy.next,r:=D,ra:=ra,rc:=rc,ot:=ot })::_) _;rw[<-e];exact H16
   ·refine⟨fun bb w11=>bb=decide ((T.2.1.length:Int)>0)/\w11=w10,?_,?_⟩
    ·rintro _ _ w11 ⟨rfl,rfl⟩;apply Aa<;>intro c
     ·have hne:T.2.1≠[]:=fun e=>by rw[e]at c;simp at c
      refine H10.ldS (i:=0) (o:=31) rfl rfl ?_;refine H10.alloc ?_;clear H10;intro lit w12 H12;simp only[aD,aC]at H12;refine Bah H12 (i:=3) (j:=4) (q:=x.ot) rfl hx.oo (by have:=hx.ol;omega) ⟨T.2.1,ua,uc⟩ rfl (by decide) Gy ?_;intro q' w13 g1 g2 g3 H13;simp only[aB,aA]at H13;refine H13.set (i:=0) (o:=31) rfl (by show 31<32;decide) ?_;clear H13;intro w14 H14;simp only[aA]at H14;refine⟨q',fun e=>absurd e hne,fun _=>by rw[g2,bD];rfl,g1,by have:=hx.ol;omega,?_⟩;refine St.imp (P:=fun w=>Am.hold { x with r:=D,ra:=ra,rc:=rc } w/\SlR (Bp .u8) 1 w ua T.2.1/\P w) (St.left (X:=[_,_,_,_]) H14) fun w h=>⟨⟨h.1.1,h.1.2.1,h.1.2.2.1,h.1.2.2.2.1,h.1.2.2.2.2.1,fun v hv=>?_⟩,h.2.2⟩;have hv:v∈q'.live:=hv;rw[g2]at hv;rcases aW.1 hv with hv|hv
      ·exact h.1.2.2.2.2.2 v hv
      ·obtain rfl:v=⟨T.2.1,ua,uc⟩:=by simpa using hv
       exact⟨h.2.1,huc⟩
     ·have he:T.2.1=[]:=aK (by omega);exact⟨x.ot,fun _=>rfl,fun e=>absurd he e,hx.oo,aY hx.ol,H10.imp fun w h=>⟨h.1,h.2.2⟩⟩
    ·refine Aa (fun c=>⟨rfl,rfl⟩) (fun c=>⟨?_,rfl⟩);rw[hrn c];rfl
  ·apply An<;>intro c
   ·refine⟨_,_,_,_,_,_,_,_,_,_,_,_,_,_,_,_,H8.cells (i:=4) rfl,?_⟩;refine H8.storeAt (i:=0) (o:=13) rfl (by show 13+14<=32;decide) (by rfl) ?_;clear H8;intro w9 H9;simp only[aA]at H9;rw[aE c]at hD;subst hD;exact⟨ra,rc,St.imp (P:=fun w=>(PaR w ra T.1.parts/\SlR (Bp .u8) 1 w ua T.2.1)/\x.hold w/\P w) (St.left (X:=[_,_,_,_]) H9) fun w h=>⟨⟨h.2.1.1,h.1.1,h.2.1.2.2⟩,h.1.2,h.2.2⟩⟩
   ·rw[aF c]at hD;subst hD;exact⟨x.ra,x.rc,St.imp (P:=fun w=>(PaR w ra T.1.parts/\SlR (Bp .u8) 1 w ua T.2.1)/\x.hold w/\P w) (St.left (X:=[_,_,_,_]) H8) fun w h=>⟨h.2.1,h.1.2,h.2.2⟩⟩
 ·refine H.drew ?_;clear H;intro w1 H1;refine⟨fun q=>q<w1.heap.size,?_⟩;refine⟨H1.lt (i:=0) rfl rfl,?_⟩;refine⟨_,_,_,_,_,_,_,_,_,_,_,_,_,_,_,_,H1.cellsAt (i:=0) (o:=13) (vs:=Bi x.r x.ra x.rc) rfl rfl,?_⟩;refine⟨H1.lt (i:=0) rfl rfl,?_⟩;refine H1.ldS (i:=0) (o:=29) rfl rfl ?_;have hs:=Qu.sl_live hx.wo hcap (H1.slE Eu (i:=1) rfl);have hix:∀ {F:Addr->Prop},(∀b y,x.wy.live[0]?=some y->CE Ic w1 (b.add ((0:Int).toNat*1)) y->F b)->kIx x.wy.p (x.wy.all.length-x.wy.n) 0 F:=fun {F} hF=>by
   rw[<-hll];exact ixE hs 0 rfl (by rw[hl];simp) hF
  refine hix fun b1 y' hy' hb1=>?_;obtain rfl:y=y':=by rw[hl]at hy';exact Option.some.inj hy'
  refine⟨Dv hb1.1,?_⟩;refine⟨_,_,_,hb1.1,?_⟩;refine⟨?_,?_,trivial⟩
  ·refine(Wu H1.get.1.2.1 hx.gp.sm (H1.get.1.2.2.2.1 y hyl).1 hyB (by omega) (H1.get.1.2.2.2.1 y hyl).2).mono ?_;rw[<-hT];rintro _ w5 ⟨ra,rc,ba,bc,rfl,hbc,K0⟩;have hb5:=K0.below;have H5:=H1.callF K0;clear K0;rw[aL]at H5;refine⟨_,_,_,_,_,_,_,_,_,_,_,_,_,_,_,_,_,_,_,_,rfl,?_⟩;refine⟨hb5.keeps,?_⟩;refine Jo H5 ?_;intro b2 w6 hbn hb6 H6;have hbn:w1.heap.size<=b2:=cG hb5.size hbn;have hb6':=Ax hb5 (aG _) hb6;refine⟨hb6'.keeps,?_⟩;refine H6.storeF (i:=4) rfl (by rfl) (by rfl) ?_;intro w7 hf7 H7;exact⟨(hb6'.frs hf7 (by simpa using hbn) hb6'.size).keeps,rfl,b2,ra,rc,rfl,rfl,hbc,H7⟩
  ·refine Jo H1 ?_;intro b2 w2 hbn hb2 H2;refine⟨hb2.keeps,?_⟩;refine(Wu H2.get.1.2.1 hx.gp.sm (H2.get.1.2.2.2.1 y hyl).1 hyB (by omega) (H2.get.1.2.2.2.1 y hyl).2).mono ?_;rw[<-hT];rintro _ w3 ⟨ra,rc,ba,bc,rfl,hbc,K0⟩;have hb3:=Ax hb2 (aG _) K0.below;have H3:=H2.callF K0;clear K0;rw[aL]at H3;refine⟨_,_,_,_,_,_,_,_,_,_,_,_,_,_,_,_,_,_,_,_,rfl,?_⟩;refine⟨hb3.keeps,?_⟩;refine H3.storeF (i:=4) rfl (by rfl) (by rfl) ?_;intro w4 hf4 H4;exact⟨(hb3.frs hf4 (by simpa using hbn) hb3.size).keeps,rfl,b2,ra,rc,rfl,rfl,hbc,H4⟩
end
section
variable{A0:Nat->Prop}{w0 w:World}{b:Nat}{x:Am}{P:World->Prop}{m:Nat}{K:Ending->World->Prop}
theorem Um:Azz true Kp:=by
 intro A0 w0 w b x P m K H hx hua hsu h0 h1;apply Abw;have hll:=x.u.live_len;have hun:=hx.uo.1;have hum:=hx.uo.2.1;refine H.drew ?_;clear H;intro w1 H;refine H.ld (i:=0) (o:=28) rfl rfl ?_;refine H.ldS (i:=0) (o:=27) rfl rfl ?_;apply Aa<;>intro c
 ·exact h0 w1 (.inl (aK (by omega))) H
 have hlt:x.u.n<x.u.all.length:=by omega
 obtain⟨y,l,hl⟩:=Qu.live_cons (q:=x.u) (fun e=>by rw[e]at hll;simp at hll;omega);have hsu:=hsu y l hl;have hno:=Qu.next_ok hx.uo hlt hx.uc (hua fun e=>by rw[e]at hlt;simp at hlt);have hnl:=Qu.next_live hl;have hyn:x.u.all[x.u.n]?=some y:=by
  have:x.u.all.drop x.u.n=y::l:=hl;have:=cI (fun L=>L[0]?) this;simpa using this
 have hyl:y∈x.u.all:=bL hyn;obtain⟨T,hT⟩:∃T,T=Lj x.s y.d (Cq x.s):=⟨_,rfl⟩;refine⟨fun s e1 w8=>e1=T.2/\∃(b2:Nat) (sa:Option Addr) (sc:Nat),s=⟨b2,0,none⟩/\St A0 [] w0 w8 (Ae9 true b x++[.blk b2 Ab (Aq T.1 sa sc)]) (fun w=>UnR w sa T.1.units/\x.hold w/\P w),?_,?_⟩
 ·rintro _ s _ w8 ⟨rfl,b2,sa,sc,rfl,H8⟩;clear H;apply An<;>intro c
  ·exact h0 w8 (.inr ⟨y,l,hl,by rw[<-hT];exact c⟩) ((St.left H8).imp fun w h=>h.2)
  simp only[aD,aC]at H8;refine⟨_,_,_,_,_,_,_,_,_,_,_,_,_,_,_,H8.cells (i:=4) rfl,?_⟩;refine H8.storeAt (i:=0) (o:=0) rfl (by show 0+13<=32;decide) (by rfl) ?_;clear H8;intro w10 H10;simp only[aA]at H10;refine H10.ld (i:=0) (o:=28) rfl rfl ?_;refine Ao (by omega) ?_;refine H10.set (i:=0) (o:=28) rfl (by show 28<32;decide) ?_;clear H10;intro w11 H11;simp only[aA]at H11;have h1:=h1 y l sa sc w11 hl (by rw[<-hT];exact c) hnl;rw[<-hT]at h1 hsu;refine h1 ⟨hsu,hx.gp,hno,hx.uc,hx.wo,hx.wl,hx.wb,hx.bo,hx.bl,hx.bb,hx.oo,hx.ol⟩ ?_;exact St.imp (P:=fun w=>UnR w sa T.1.units/\x.hold w/\P w) (St.left (X:=[_,_,_,_]) H11) fun w h=>⟨⟨h.1,h.2.1.2⟩,h.2.2⟩
 ·refine H.drew ?_;clear H;intro w1 H1;refine⟨fun z=>z<w1.heap.size,?_⟩;refine⟨H1.lt (i:=0) rfl rfl,?_⟩;refine⟨_,_,_,_,_,_,_,_,_,_,_,_,_,_,_,H1.cellsAt (i:=0) (o:=0) (vs:=Aq x.s x.sa x.sc) rfl rfl,?_⟩;refine⟨H1.lt (i:=0) rfl rfl,?_⟩;refine H1.ldS (i:=0) (o:=27) rfl rfl ?_;refine⟨H1.lt (i:=0) rfl rfl,?_⟩;refine H1.ld (i:=0) (o:=28) rfl rfl ?_;refine ixE H1.get.1.2.2.1.1 x.u.n rfl hlt fun b1 y' hy' hb1=>?_;obtain rfl:y=y':=by rw[hyn]at hy';exact Option.some.inj hy'
  refine⟨Dv hb1.1,?_⟩;refine⟨_,_,_,hb1.1,?_⟩;have hyd:=(H1.get.1.2.2.1.2 y hyl).1;refine⟨?_,?_,trivial⟩
  ·refine(Aaj H1.get.1.1 hx.su hyd).mono ?_;rw[<-hT];rintro _ w5 ⟨sa,sc,L,hL,rfl,K0⟩;have hb5:=K0.below;have K1:=(Gp (R:=[.els Ba Ae 5 sa sc L]) K0).shareE Bm (i:=0) rfl;have H5:=H1.callF K1.fin;clear K0 K1;rw[aL]at H5;refine⟨_,_,_,_,_,_,_,_,_,_,_,_,_,_,_,_,rfl,?_⟩;refine⟨hb5.keeps,?_⟩;refine Jo H5 ?_;intro b2 w6 hbn hb6 H6;have hbn:w1.heap.size<=b2:=cG hb5.size hbn;have hb6':=Ax hb5 (aG _) hb6;refine⟨hb6'.keeps,?_⟩;refine H6.storeF (i:=4) rfl (by rfl) (by rfl) ?_;intro w7 hf7 H7;refine⟨(hb6'.frs hf7 (by simpa using hbn) hb6'.size).keeps,?_⟩;refine⟨rfl,b2,sa,sc,rfl,?_⟩;refine H7.imp fun w h=>⟨?_,h.2⟩;rw[<-hL];exact Nt h.1.1 h.1.2.2.out h.1.2.1
  ·refine Jo H1 ?_;intro b2 w2 hbn hb2 H2;refine⟨hb2.keeps,?_⟩;refine(Aaj H2.get.1.1 hx.su (H2.get.1.2.2.1.2 y hyl).1).mono ?_;rw[<-hT];rintro _ w3 ⟨sa,sc,L,hL,rfl,K0⟩;have hb3:=Ax hb2 (aG _) K0.below;have K1:=(Gp (R:=[.els Ba Ae 5 sa sc L]) K0).shareE Bm (i:=0) rfl;have H3:=H2.callF K1.fin;clear K0 K1;rw[aL]at H3;refine⟨_,_,_,_,_,_,_,_,_,_,_,_,_,_,_,_,rfl,?_⟩;refine⟨hb3.keeps,?_⟩;refine H3.storeF (i:=4) rfl (by rfl) (by rfl) ?_;intro w4 hf4 H4;refine⟨(hb3.frs hf4 (by simpa using hbn) hb3.size).keeps,?_⟩;refine⟨rfl,b2,sa,sc,rfl,?_⟩;refine H4.imp fun w h=>⟨?_,h.2⟩;rw[<-hL];exact Nt h.1.1 h.1.2.2.out h.1.2.1
end
section
variable{A0:Nat->Prop}{w0 w:World}{b:Nat}{x:Am}{P:World->Prop}{m:Nat}{K:Ending->World->Prop}
theorem Li:Asp true Fx:=by
 intro A0 w0 w b x P m K keep H hx hml h0 h1;apply Yt;have hll:=x.bk.live_len;have hcap:x.bk.all.length<=x.bk.c:=H.capE (i:=2) rfl;refine H.ldS (i:=0) (o:=30) rfl rfl ?_;apply Aa<;>intro c
 ·exact h0 (aK (by omega))
 obtain⟨y,l,hl⟩:=Qu.live_cons (q:=x.bk) (fun e=>by rw[e]at hll;simp at hll;omega);obtain⟨hml,hsu⟩:=hml y l hl;have hyl:y∈x.bk.live:=by rw[hl];simp
 obtain⟨hyB,hyL⟩:=hx.bb y hyl;have hlt:x.bk.n<x.bk.all.length:=by rw[hl]at hll;simp at hll;omega
 have hnl:=Qu.next_live hl;have h1:=fun sa sc w'=>h1 y l sa sc w' hl fun _=>hnl;obtain⟨V,hV⟩:∃V,V=x.aS y.d:=⟨_,rfl⟩;rw[<-hV]at h1 hsu;unfold Am.aS at hV;obtain⟨D,hD⟩:∃D,D=Mv x.s.lk.bits y.d:=⟨_,rfl⟩;rw[<-hD]at hml hV;refine⟨fun w18=>∃(sa:Option Addr) (sc:Nat),AmS true A0 w0 w18 b { x with s:=V,sa:=sa,sc:=sc } P,?_,?_⟩
 ·rintro _ w15 ⟨sa,sc,H15⟩;clear H;cases keep with
  |true=>
   refine Bq (fun c=>by cases c) (fun _=>?_);exact h1 sa sc w15 ⟨hsu,hx.gp,hx.uo,hx.uc,hx.wo,hx.wl,hx.wb,hx.bo,hx.bl,hx.bb,hx.oo,hx.ol⟩ H15
  |false=>
   refine Bq (fun _=>?_) (fun c=>by cases c);refine H15.ldS (i:=0) (o:=30) rfl rfl ?_;refine⟨⟨by omega,by show (1:Int)<=((x.bk.all.length-x.bk.n:Nat):Int);omega⟩,?_⟩;obtain⟨g,hg,-⟩:=H15.rowSome (i:=2) rfl (show 0<x.bk.all.length by omega);have hno:=Qu.next_ok hx.bo hlt hcap ⟨_,hg⟩;have hsub:∀z∈x.bk.next.live,z∈x.bk.live:=fun z hz=>by rw[hnl]at hz;rw[hl];exact cE _ hz
   refine H15.set (i:=0) (o:=30) rfl (by show 30<32;decide) ?_;clear H15;intro w16 H16;simp only[aA]at H16;refine h1 sa sc w16 ⟨hsu,hx.gp,hx.uo,hx.uc,hx.wo,hx.wl,hx.wb,hno,hx.bl,fun z hz=>hx.bb z (hsub z hz),hx.oo,hx.ol⟩ ?_;have e:(Am.enc true { x with s:=V,sa:=sa,sc:=sc }).set 30 x.bk.next.sl=Am.enc true { x with bk:=x.bk.next,s:=V,sa:=sa,sc:=sc }:=rfl;rw[Qu.next_sl]at e;refine St.imp (P:=fun w=>Am.hold { x with s:=V,sa:=sa,sc:=sc } w/\P w) ?_ fun w h=>⟨⟨h.1.1,h.1.2.1,h.1.2.2.1,h.1.2.2.2.1,fun z hz=>h.1.2.2.2.2.1 z (hsub z hz),h.1.2.2.2.2.2⟩,h.2⟩;show St A0 [] w0 w16 (.blk b (kTy true) (Am.enc true { x with bk:=x.bk.next,s:=V,sa:=sa,sc:=sc })::_) _;rw[<-e];exact H16
 refine⟨fun t e1 w8=>e1=D.2/\∃(b2:Nat) (ma:Option Addr) (mc:Nat),t=⟨b2,0,none⟩/\St A0 [] w0 w8 (Ae9 true b x++[.blk b2 Ai [.int .i64 D.1.upto,.slice ma D.1.miss.length mc]]) (fun w=>SlR (CE Bn) 3 w ma D.1.miss/\x.hold w/\P w),?_,?_⟩
 ·rintro _ t _ w8 ⟨rfl,b2,ma,mc,rfl,H8⟩;clear H;simp only[aD,aC]at H8;apply Aa<;>intro c
  rotate_left
  ·rw[aE (fun h=>c h.1)]at hV;subst hV;exact⟨x.sa,x.sc,(St.left (X:=[_,_,_,_]) H8).imp fun w h=>h.2⟩
  refine H8.drew ?_;clear H8;intro w9 H6;refine⟨fun q=>q<w9.heap.size,?_⟩;refine⟨H6.lt (i:=0) rfl rfl,?_⟩;refine⟨_,_,_,_,_,_,_,_,_,_,_,_,_,_,_,H6.cellsAt (i:=0) (o:=0) (vs:=Aq x.s x.sa x.sc) rfl rfl,?_⟩;refine⟨H6.lt (i:=4) rfl rfl,?_⟩;refine⟨_,_,_,_,H6.cells (i:=4) rfl,?_⟩;obtain⟨T,hT⟩:∃T,T=Sp x.s D.1:=⟨_,rfl⟩;rw[<-hT]at hV;have hend:∀ {w':World} {b2:Nat} {X:Res} {sa:Option Addr} {sc:Nat} {Q:World->Prop},(∀w,Q w->UnR w sa T.1.units/\x.hold w/\P w)->St A0 [] w0 w' [.blk b (kTy true) (x.enc true),Qu.row x.wy,Qu.row x.bk,Qu.row x.ot,X,.blk b2 Ab (Aq T.1 sa sc)] Q->
   (T.2=0->cellsAt w' ⟨b2,0,none⟩ 0 (Aq T.1 sa sc)/\Ad w' ⟨b,0,none⟩ 0 (Aq T.1 sa sc) fun w''=>∃(sa:Option Addr) (sc:Nat),AmS true A0 w0 w'' b { x with s:=V,sa:=sa,sc:=sc } P)/\(T.2≠0->∃(sa:Option Addr) (sc:Nat),AmS true A0 w0 w' b { x with s:=V,sa:=sa,sc:=sc } P):=fun {w' b2 X sa sc Q} hQ H=>by
   refine⟨fun e=>⟨H.cells (i:=5) rfl,?_⟩,fun e=>?_⟩
   ·refine H.storeAt (i:=0) (o:=0) rfl (by show 0+13<=32;decide) (by rfl) ?_;intro w'' H';rw[aF ⟨c,e⟩]at hV;subst hV;exact⟨sa,sc,St.imp (P:=Q) (St.left (X:=[_,_,_,_]) H') fun w h=>⟨⟨(hQ w h).1,(hQ w h).2.1.2⟩,(hQ w h).2.2⟩⟩
   ·rw[aE (fun h=>e h.2)]at hV;subst hV;exact⟨x.sa,x.sc,(St.left (X:=[_,_,_,_]) H).imp fun w h=>(hQ w h).2⟩
  have hup:∀ {w:World} {sa:Option Addr} {L:List UP},L.map (·.u)=T.1.units->SlR (CE Ba) 5 w sa L->Yq L w->Ad1 L w->UnR w sa T.1.units:=fun {w sa L} hL h1 h2 h3=>by
   rw[<-hL];exact Nt h1 h2 h3
  refine⟨?_,?_,trivial⟩
  ·refine(Aad H6.get.2.1.1 hx.su H6.get.1 hml).mono ?_;rw[<-hT];rintro _ w6 ⟨sa,sc,L,hL,rfl,K0⟩;have hb6:=K0.below;have K1:=(Gp (R:=[.els Ba Ae 5 sa sc L]) K0).shareE Bm (i:=0) rfl;have H7:=H6.callF K1.fin;clear K0 K1;rw[aL]at H7;refine⟨_,_,_,_,_,_,_,_,_,_,_,_,_,_,_,_,rfl,?_⟩;refine⟨hb6.keeps,?_⟩;refine Jo H7 ?_;intro b2 w7 hbn hb7 H8;have hbn:w9.heap.size<=b2:=cG hb6.size hbn;have hb7':=Ax hb6 (aG _) hb7;refine⟨hb7'.keeps,?_⟩;refine H8.storeF (i:=5) rfl (by rfl) (by rfl) ?_;intro w8 hf8 H9;refine⟨(hb7'.frs hf8 (by simpa using hbn) hb7'.size).keeps,?_⟩;obtain⟨e1,e2⟩:=hend (fun w h=>⟨hup hL h.1.1 h.1.2.2.out h.1.2.1,h.2.2⟩) H9;refine Aa (fun c=>?_) (fun c=>e2 c);obtain⟨f1,f2⟩:=e1 c;exact⟨_,_,_,_,_,_,_,_,_,_,_,_,_,_,_,f1,f2⟩
  ·refine Jo H6 ?_;intro b2 w7 hbn hb7 H8;refine⟨hb7.keeps,?_⟩;refine(Aad H8.get.2.1.1 hx.su H8.get.1 hml).mono ?_;rw[<-hT];rintro _ w6 ⟨sa,sc,L,hL,rfl,K0⟩;have hb6:=Ax hb7 (aG _) K0.below;have K1:=(Gp (R:=[.els Ba Ae 5 sa sc L]) K0).shareE Bm (i:=0) rfl;have H7:=H8.callF K1.fin;clear K0 K1;rw[aL]at H7;refine⟨_,_,_,_,_,_,_,_,_,_,_,_,_,_,_,_,rfl,?_⟩;refine⟨hb6.keeps,?_⟩;refine H7.storeF (i:=5) rfl (by rfl) (by rfl) ?_;intro w8 hf8 H9;refine⟨(hb6.frs hf8 (by simpa using hbn) hb6.size).keeps,?_⟩;obtain⟨e1,e2⟩:=hend (fun w h=>⟨hup hL h.1.1 h.1.2.2.out h.1.2.1,h.2.2⟩) H9;refine Aa (fun c=>?_) (fun c=>e2 c);obtain⟨f1,f2⟩:=e1 c;exact⟨_,_,_,_,_,_,_,_,_,_,_,_,_,_,_,f1,f2⟩
 ·refine H.drew ?_;clear H;intro w1 H1;refine⟨fun q=>q<w1.heap.size,?_⟩;refine⟨H1.lt (i:=0) rfl rfl,?_⟩;refine H1.ld (i:=0) (o:=0) rfl rfl ?_;refine⟨H1.lt (i:=0) rfl rfl,?_⟩;refine H1.ldS (i:=0) (o:=30) rfl rfl ?_;have hs:=Qu.sl_live hx.bo hcap (H1.slE Eu (i:=2) rfl);have hix:∀ {F:Addr->Prop},(∀b y,x.bk.live[0]?=some y->CE Ic w1 (b.add ((0:Int).toNat*1)) y->F b)->kIx x.bk.p (x.bk.all.length-x.bk.n) 0 F:=fun {F} hF=>by
   rw[<-hll];exact ixE hs 0 rfl (by rw[hl];simp) hF
  refine hix fun b1 y' hy' hb1=>?_;obtain rfl:y=y':=by rw[hl]at hy';exact Option.some.inj hy'
  refine⟨Dv hb1.1,?_⟩;refine⟨_,_,_,hb1.1,?_⟩;refine⟨?_,?_,trivial⟩
  ·refine(Aak (bits:=x.s.lk.bits) (H1.get.1.2.2.2.2.1 y hyl).1 hyB hyL).mono ?_;rw[<-hD];rintro _ w5 ⟨ma,mc,hmc,rfl,K0⟩;have hb5:=K0.below;have H5:=H1.callF K0;clear K0;rw[aL]at H5;refine⟨_,_,_,_,_,rfl,?_⟩;refine⟨hb5.keeps,?_⟩;refine Jo H5 ?_;intro b2 w6 hbn hb6 H6;have hbn:w1.heap.size<=b2:=cG hb5.size hbn;have hb6':=Ax hb5 (aG _) hb6;refine⟨hb6'.keeps,?_⟩;refine H6.storeF (i:=4) rfl (by rfl) (by rfl) ?_;intro w7 hf7 H7;exact⟨(hb6'.frs hf7 (by simpa using hbn) hb6'.size).keeps,rfl,b2,ma,mc,rfl,H7⟩
  ·refine Jo H1 ?_;intro b2 w2 hbn hb2 H2;refine⟨hb2.keeps,?_⟩;refine(Aak (bits:=x.s.lk.bits) (H2.get.1.2.2.2.2.1 y hyl).1 hyB hyL).mono ?_;rw[<-hD];rintro _ w3 ⟨ma,mc,hmc,rfl,K0⟩;have hb3:=Ax hb2 (aG _) K0.below;have H3:=H2.callF K0;clear K0;rw[aL]at H3;refine⟨_,_,_,_,_,rfl,?_⟩;refine⟨hb3.keeps,?_⟩;refine H3.storeF (i:=4) rfl (by rfl) (by rfl) ?_;intro w4 hf4 H4;exact⟨(hb3.frs hf4 (by simpa using hbn) hb3.size).keeps,rfl,b2,ma,mc,rfl,H4⟩
end
section
variable{A0:Nat->Prop}{w0 w:World}{b m:Nat}{p:Pl}{P:World->Prop}{G:World->Prop}
theorem Ay1(H:Sim true A0 w0 w b m p P)(h:∀w',Sim true A0 w0 w' b m (Aw3 p) P->G w'):Au w ⟨b,29,none⟩ fun _ l _=>bsplit (decide ((l:Int)>(0:Int))) (Au w ⟨b,29,none⟩ fun a l c=>(0<=(1:Int)/\(1:Int)<=((l:Nat):Int))/\Bj w ⟨b,29,none⟩ (.slice (Ay c ((1:Int).toNat) 1 a) (l-(1:Int).toNat) (c-(1:Int).toNat)) G) (G w):=by
 obtain⟨x,rfl,hx,hua,H⟩:=H;have hll:=x.wy.live_len;refine H.ldS (i:=0) (o:=29) rfl rfl ?_;apply Aa<;>intro c
 ·obtain⟨y,l,hl⟩:=Qu.live_cons (q:=x.wy) (fun e=>by rw[e]at hll;simp at hll;omega);have hnl:=Qu.next_live hl;have hsub:∀z∈x.wy.next.live,z∈x.wy.live:=fun z hz=>by rw[hnl]at hz;rw[hl];exact cE _ hz
  obtain⟨g,hg,-⟩:=H.rowSome (i:=1) rfl (show 0<x.wy.all.length by omega);have hno:=Qu.next_ok hx.wo (by omega) (H.capE (i:=1) rfl) ⟨_,hg⟩;refine H.ldS (i:=0) (o:=29) rfl rfl ?_;refine⟨⟨by omega,by omega⟩,?_⟩;refine H.set (i:=0) (o:=29) rfl (by show 29<32;decide) ?_;clear H;intro w6 H6;simp only[aA]at H6;refine h w6 ⟨{ x with wy:=x.wy.next },?_,⟨hx.su,hx.gp,hx.uo,hx.uc,hno,hx.wl,fun z hz=>hx.wb z (hsub z hz),hx.bo,hx.bl,hx.bb,hx.oo,hx.ol⟩,hua,?_⟩
  ·show Pl.mk _ _ _ (ds x.wy.next.live) _ _=Pl.mk _ _ _ (ds x.wy.live).tail _ _;rw[hnl,hl];rfl
  ·have e:(x.enc true).set 29 x.wy.next.sl=Am.enc true { x with wy:=x.wy.next }:=rfl;rw[Qu.next_sl]at e;refine St.imp (P:=fun w=>x.hold w/\P w) ?_ fun w h=>⟨⟨h.1.1,h.1.2.1,h.1.2.2.1,fun z hz=>h.1.2.2.2.1 z (hsub z hz),h.1.2.2.2.2⟩,h.2⟩;show St A0 [] w0 w6 (.blk b (kTy true) (Am.enc true { x with wy:=x.wy.next })::_) _;rw[<-e];exact H6
 ·refine h w ⟨x,?_,hx,hua,H⟩;have e:ds x.wy.live=[]:=Afn.2 (aK (by omega));show x.pl={ x.pl with wy:=(ds x.wy.live).tail };rw[e];show Pl.mk _ _ _ (ds x.wy.live) _ _=_;rw[e];rfl
theorem Axs(H:Sim true A0 w0 w b m p P)(h:∀w',Sim true A0 w0 w' b m (Aso p) P->G w'):Au w ⟨b,30,none⟩ fun _ l _=>bsplit (decide ((l:Int)>(0:Int))) (Au w ⟨b,30,none⟩ fun a l c=>(0<=(1:Int)/\(1:Int)<=((l:Nat):Int))/\Bj w ⟨b,30,none⟩ (.slice (Ay c ((1:Int).toNat) 1 a) (l-(1:Int).toNat) (c-(1:Int).toNat)) G) (G w):=by
 obtain⟨x,rfl,hx,hua,H⟩:=H;have hll:=x.bk.live_len;refine H.ldS (i:=0) (o:=30) rfl rfl ?_;apply Aa<;>intro c
 ·obtain⟨y,l,hl⟩:=Qu.live_cons (q:=x.bk) (fun e=>by rw[e]at hll;simp at hll;omega);have hnl:=Qu.next_live hl;have hsub:∀z∈x.bk.next.live,z∈x.bk.live:=fun z hz=>by rw[hnl]at hz;rw[hl];exact cE _ hz
  obtain⟨g,hg,-⟩:=H.rowSome (i:=2) rfl (show 0<x.bk.all.length by omega);have hno:=Qu.next_ok hx.bo (by omega) (H.capE (i:=2) rfl) ⟨_,hg⟩;refine H.ldS (i:=0) (o:=30) rfl rfl ?_;refine⟨⟨by omega,by omega⟩,?_⟩;refine H.set (i:=0) (o:=30) rfl (by show 30<32;decide) ?_;clear H;intro w6 H6;simp only[aA]at H6;refine h w6 ⟨{ x with bk:=x.bk.next },?_,⟨hx.su,hx.gp,hx.uo,hx.uc,hx.wo,hx.wl,hx.wb,hno,hx.bl,fun z hz=>hx.bb z (hsub z hz),hx.oo,hx.ol⟩,hua,?_⟩
  ·show Pl.mk _ _ _ _ (ds x.bk.next.live) _=Pl.mk _ _ _ _ (ds x.bk.live).tail _;rw[hnl,hl];rfl
  ·have e:(x.enc true).set 30 x.bk.next.sl=Am.enc true { x with bk:=x.bk.next }:=rfl;rw[Qu.next_sl]at e;refine St.imp (P:=fun w=>x.hold w/\P w) ?_ fun w h=>⟨⟨h.1.1,h.1.2.1,h.1.2.2.1,h.1.2.2.2.1,fun z hz=>h.1.2.2.2.2.1 z (hsub z hz),h.1.2.2.2.2.2⟩,h.2⟩;show St A0 [] w0 w6 (.blk b (kTy true) (Am.enc true { x with bk:=x.bk.next })::_) _;rw[<-e];exact H6
 ·refine h w ⟨x,?_,hx,hua,H⟩;have e:ds x.bk.live=[]:=Afn.2 (aK (by omega));show x.pl={ x.pl with bk:=(ds x.bk.live).tail };rw[e];show Pl.mk _ _ _ _ (ds x.bk.live) _=_;rw[e];rfl
end
theorem Afm:Bbf true Px:=by
 intro A0 w0 w b m p P K k a H hf hm ha h;apply Ac5;obtain⟨x,hp,hx,hua,H⟩:=H;refine H.alloc ?_;clear H;intro b1 w1 H1;simp only[aD,aC]at H1;have H2:Sim true A0 w0 w1 b m p P:=⟨x,hp,hx,hua,St.left (X:=[_,_,_,_]) H1⟩;unfold Ae6 at h;refine H1.ld (i:=4) (o:=0) rfl rfl ?_;refine Aw ?_;apply Aa<;>intro c
 ·rw[aF c]at h;exact Ag3 Um H2 hf.se fun w' H'=>⟨_,rfl,h w' H'.up⟩
 rw[aE c]at h;refine Aw ?_;apply Aa<;>intro c
 ·rw[aF c]at h;refine H1.ld (i:=4) (o:=1) rfl rfl ?_;exact Adw So H2 hm ha ⟨(hf.bu a).1,(hf.bu a).2.1⟩ (hf.bu a).2.2 fun w' H'=>⟨_,rfl,h w' H'⟩
 rw[aE c]at h;refine⟨fun y w4=>y=(decide (k=3)||decide (k=5))/\w4=w1,?_,?_⟩
 ·rintro _ _ w4 ⟨rfl,rfl⟩;apply Al<;>intro c
  ·refine H1.ld (i:=4) (o:=0) rfl rfl ?_;refine Kw (decide (k=5)) Kg H2 hm fun w' H'=>⟨rfl,h w' ?_⟩;by_cases c3:k=3
   ·rw[aF c3];rw[aI (by omega)]at H';exact H'
   ·have c5:k=5:=by simpa [c3] using c
    rw[aE c3,aF c5];rw[aM c5]at H';exact H'
  have c3:¬k=3:=fun e=>by simp[e]at c
  have c5:¬k=5:=fun e=>by simp[e]at c
  rw[aE c3,aE c5]at h;refine Aw ?_;apply Aa<;>intro c
  ·rw[aF c]at h;exact Ay1 H2 fun w' H'=>h w' H'.up
  rw[aE c]at h;refine Aw ?_;apply Aa<;>intro c
  ·rw[aF c]at h;refine H1.ld (i:=4) (o:=1) rfl rfl ?_;exact Zi Rj H2 hm ⟨(hf.re a).1,(hf.re a).2.1⟩ (hf.re a).2.2 fun w' H'=>⟨rfl,h w' H'⟩
  rw[aE c]at h;refine⟨fun y w8=>y=(decide (k=8)||decide (k=10))/\w8=w4,?_,?_⟩
  ·rintro _ _ w8 ⟨rfl,rfl⟩;apply Al<;>intro c
   ·refine H1.ld (i:=4) (o:=0) rfl rfl ?_;refine Nj (decide (k=10)) Li H2 hf.an fun w' H'=>⟨rfl,h w' ?_⟩;by_cases c8:k=8
    ·rw[aF c8];rw[aI (by omega)]at H';exact H'.up
    ·have c10:k=10:=by simpa [c8] using c
     rw[aE c8,aF c10];rw[aM c10]at H';exact H'.up
   have c8:¬k=8:=fun e=>by simp[e]at c
   have c10:¬k=10:=fun e=>by simp[e]at c
   rw[aE c8,aE c10]at h;refine Aw ?_;apply Aa<;>intro c
   ·rw[aF c]at h;exact Axs H2 fun w' H'=>h w' H'.up
   rw[aE c]at h;refine Aw ?_;apply Aa<;>intro c
   ·rw[aF c]at h;exact Ag6 Tk H2 hf.ti fun w' H'=>⟨rfl,h w' H'.up⟩
   rw[aE c]at h;exact h w8 H2.up
  ·refine Aw ?_;refine Aa (fun c=>⟨by simp[c],rfl⟩) (fun c=>?_);refine Aw ?_;exact⟨by simp[c],rfl⟩
 ·refine Aw ?_;refine Aa (fun c=>⟨by simp[c],rfl⟩) (fun c=>?_);refine Aw ?_;exact⟨by simp[c],rfl⟩
theorem Aey:Azv true Np:=by
 intro A0 w0 w b m p P K I mu hI H hp hm h;apply Aa3;obtain⟨Y,hY⟩:∃Y,Y=Gq (p.us.length+1) p:=⟨_,rfl⟩;rw[<-hY]at hm h;refine⟨fun k w1=>∃p',Sim true A0 w0 w1 b m p' P/\I p'/\p'.us.length<k/\Gq k p'=Y,⟨p.us.length+1,p,H,hp,dA _,hY.symm⟩,?_⟩;clear H hp hY;rintro _ k w1 ⟨p1,H1,hp1,hl,hs⟩;obtain⟨k,rfl⟩:∃j,k=j+1:=⟨k-1,by omega⟩;refine Ag3 Um H1 (hI.fits p1 hp1).se fun w2 H2=>?_;refine⟨_,rfl,?_⟩;apply Al<;>intro c
 ·refine⟨k,dA _,(Mq p1).1,H2,hI.send p1 hp1,by have:=Arl c;omega,?_⟩;rw[<-hs,Gq,aF c]
 have eY:(Mq p1).1=Y:=by rw[<-hs,Gq,aE (by rw[c];decide)]
 have hIY:=hI.send p1 hp1;rw[eY]at H2 hIY;clear H1;obtain⟨Z,hZ⟩:∃Z,Z=Hk (mu Y+1) Y:=⟨_,rfl⟩;rw[<-hZ]at h;refine⟨fun k w3=>∃p',k<=mu Y+1/\Sim true A0 w0 w3 b (m+2*(mu Y+1-k)) p' P/\I p'/\mu p'<k/\Hk k p'=Z,⟨mu Y+1,Y,aG _,by rw[cL];exact H2,hIY,dA _,hZ.symm⟩,?_⟩;clear H2 hIY hZ hs eY hp1;rintro _ k w3 ⟨p3,hk,H3,hp3,hmu,hb⟩;obtain⟨k,rfl⟩:∃j,k=j+1:=⟨k-1,by omega⟩;have hf:=hI.fits p3 hp3;refine Adw So H3 (by omega) (by omega) ⟨(hf.bu 4096).1,(hf.bu 4096).2.1⟩ (hf.bu 4096).2.2 fun w4 H4=>?_;refine⟨_,rfl,?_⟩;apply Al<;>intro c
 ·refine Kw false Kg H4 (by omega) fun w5 H5=>?_;refine⟨rfl,k,dA _,_,by omega,H5.upTo (by omega),hI.deliver _ (hI.build p3 hp3),by have:=hI.less p3 hp3 c;omega,?_⟩;rw[<-hb,Hk,aF c]
 have eZ:(Kc p3 4096).1=Z:=by rw[<-hb,Hk,aE (by rw[c];decide)]
 have hIZ:=hI.build p3 hp3;rw[eZ]at H4 hIZ;have hfZ:=hI.fits Z hIZ;refine Zi Rj H4 (by omega) ⟨(hfZ.re 4096).1,(hfZ.re 4096).2.1⟩ (hfZ.re 4096).2.2 fun w6 H6=>?_;refine⟨rfl,?_⟩;have hI6:=hI.report Z hIZ;refine Nj false Li H6 (hI.fits _ hI6).an fun w7 H7=>?_;refine⟨rfl,?_⟩;refine Ag6 Tk H7 (hI.fits _ (hI.answer _ hI6)).ti fun w8 H8=>?_;exact⟨rfl,h w8 (H8.upTo (by omega))⟩
theorem Acp:Az5 true Rb:=by
 intro A l U ua sta uc stc ST w I hQ hul huc ha hI hIs hI0;apply Ajg;have H:=St.start hQ;refine H.alloc ?_;clear H;intro b w1 H1;simp only[aC]at H1;refine⟨_,_,_,_,_,_,H1.cells (i:=0) rfl,?_⟩;have C:=Asw (l:=l) (w:=w1);by_cases hlk:¬Ir l
 ·rw[Aej,aE hlk]at C;refine C.mono ?_;clear C;rintro _ w2 hh;obtain⟨sa,sc,rfl,-,hb2⟩:=hh.read;have H2:=H1.pass hb2;clear H1 hh;refine⟨_,_,_,_,_,_,_,_,_,_,_,_,_,_,_,_,rfl,?_⟩;refine H2.alloc ?_;clear H2;intro b1 w3 H3;simp only[aD,aC]at H3;refine H3.s 1 ?_;clear H3;intro w4 H4;refine An (fun _=>?_) (fun c=>absurd c (by decide));have hE:Ku l U ST.length=3:=by unfold Ku;rw[aE hlk]
  rw[hE];exact⟨fun _=>⟨rfl,H4.fin.imp fun _ _=>trivial⟩,fun h=>absurd h (by decide)⟩
 have hlk:Ir l:=Classical.not_not.1 hlk;rw[Aej,aF hlk]at C;refine C.mono ?_;clear C;rintro _ w2 hh;obtain⟨sa,sc,rfl,-,hb2⟩:=hh.read;have H2:=H1.pass hb2;clear H1 hh;refine⟨_,_,_,_,_,_,_,_,_,_,_,_,_,_,_,_,rfl,?_⟩;refine H2.alloc ?_;clear H2;intro b1 w3 H3;simp only[aD,aC]at H3;refine H3.s 1 ?_;clear H3;intro w4 H4;simp only[aB,aA]at H4;refine An (fun c=>absurd rfl c) (fun _=>?_);have hbad:∀ {w':World},St A [] w w' [] (fun _=>True)->¬(ST.length<=400/\U.length<=256/\(U.any fun y=>Gt y.d)=false)->
  (Ku l U ST.length≠0->Ending.returned (.tuple #[.pointer none,.int .i64 2])=.returned (.tuple #[.pointer none,.int .i64 (Ku l U ST.length)])/\St A [] w w' [] (fun _=>True))/\
  (Ku l U ST.length=0->∃b,Ending.returned (.tuple #[.pointer none,.int .i64 2])=.returned (.tuple #[.pointer (some ⟨b,0,none⟩),.int .i64 0])/\Sim true A w w' b 500 (Hl (En l (ds U)) ST) (fun _=>True)/\I (Hl (En l (ds U)) ST)):=fun H c=>by
  rw[Auh hlk c];exact⟨fun _=>⟨rfl,H⟩,fun h=>absurd h (by decide)⟩
 refine⟨fun w5=>ST.length<=400/\U.length<=256/\w5=w4,?_,?_⟩
 ·rintro _ w5 ⟨hsl,hul,rfl⟩;refine⟨fun i=>((U.length-i).toNat,fun w6=>∃k:Nat,i=k/\k<=U.length/\(∀j (hj:j<U.length),j<k->Gt U[j].d=false)/\w6=w5),⟨0,rfl,by omega,fun j _ h=>by omega,rfl⟩,?_⟩;rintro _ x w6 ⟨k,rfl,hk,hno,rfl⟩;apply Aa<;>intro c1
  ·have hlt:k<U.length:=by omega
   have hw:∀v:Bool,Gt U[k].d=v->(v=true->¬(ST.length<=400/\U.length<=256/\(U.any fun y=>Gt y.d)=false)):=fun v hv h=>by
    subst h;rintro⟨-,-,h3⟩;have:=bW.1 h3 _ (aJ hlt);exact this hv
   refine ixE H4.get.1.1 k rfl hlt fun b2 s hsk hb=>?_;obtain rfl:U[k]=s:=by rw[List.getElem?_eq_getElem hlt]at hsk;injection hsk
   refine⟨_,_,_,hb.1,?_⟩;refine Aa (fun c=>hbad (H4.fin.imp fun _ _=>trivial) (hw true (by unfold Gt;rw[aM c];rfl) rfl)) (fun c=>?_);refine ixE H4.get.1.1 k rfl hlt fun b3 s hsk hb=>?_;obtain rfl:U[k]=s:=by rw[List.getElem?_eq_getElem hlt]at hsk;injection hsk
   refine⟨_,_,_,hb.1,?_⟩;refine Aa (fun c'=>hbad (H4.fin.imp fun _ _=>trivial) (hw true (by unfold Gt;rw[aM c',Bool.or_true]) rfl)) (fun c'=>?_);refine Ao (by omega) ?_;exact⟨⟨k+1,by omega,by omega,fun j hj h=>by
    rcases aT j k with h'|h'
    ·exact hno j hj h'
    ·obtain rfl:j=k:=by omega
     unfold Gt;rw[aI c,aI c'];rfl,rfl⟩,by dsimp only;omega⟩
  have hE:Ku l U ST.length=0:=Art hlk ⟨hsl,hul,bW.2 fun y hy=>by
   obtain⟨j,hj,rfl⟩:=bF hy;rw[hno j hj (by omega)];decide⟩
  clear hbad hno;have hI0:=hI0 hE;refine⟨_,_,_,_,_,_,H4.cells (i:=0) rfl,?_⟩;have C:=Ass (l:=l) (w:=w6);rw[Akx,aF hlk]at C;refine C.mono ?_;clear C;rintro _ w7 ⟨rfl,-,hb7⟩;have H7:=H4.pass hb7;clear H4;refine⟨_,_,_,_,_,_,_,_,_,_,_,_,_,_,_,_,_,rfl,?_⟩;refine H7.alloc ?_;clear H7;intro b4 w8 H8;simp only[aD,aC]at H8;refine H8.s 2 ?_;clear H8;intro w9 H9;simp only[aB,aA]at H9;refine⟨_,_,_,_,_,_,_,_,_,_,_,_,_,_,_,H9.cells (i:=1) rfl,?_⟩;refine⟨_,_,_,_,_,_,_,_,_,_,_,_,_,_,_,_,H9.cells (i:=2) rfl,?_⟩;refine H9.alloc ?_;clear H9;intro b3 w12 H12;have hca:U≠[]->∃g,ua=some g:=fun hne=>by
   rcases H12.get.1.1 with h|⟨g,h,-⟩
   ·exact absurd h hne
   ·exact⟨g,h⟩
  have H13:=((((Az0 H12 (i:=3) rfl).nilE Ic As 1).nilE Ic As 1).nilE Ic As 1);clear H12;obtain⟨x0,hx0⟩:∃x0:Am,x0=⟨⟨l,0,0,[],0,-1,0,false⟩,sa,sc,⟨l,0,0,0,-1,0,0,false,[]⟩,none,0,⟨ua,uc,U,0,ua⟩,Qu.nil,Qu.nil,Qu.nil⟩:=⟨_,rfl⟩;have hS:Sim true A w w12 b3 0 (En l (ds U)) fun w=>SlR (CE Oe) 2 w sta ST:=by
   refine⟨x0,by rw[hx0];rfl,?_,?_,?_⟩
   ·rw[hx0];refine⟨⟨aX _,fun u hu=>(by cases hu)⟩,Wl,⟨aX _,by show U.length<=1000000;omega,.inl (As4 _ _).symm⟩,huc,Qu.nil_ok,aG _,fun y hy=>(by cases hy),Qu.nil_ok,aG _,fun y hy=>(by cases hy),Qu.nil_ok,aG _⟩
   ·rw[hx0];exact hca
   ·rw[hx0];exact St.imp (P:=fun w=>QL U ua w/\SlR (CE Oe) 2 w sta ST) H13 fun w h=>⟨⟨.nil,.nil,h.1,fun y hy=>(by cases hy),fun y hy=>(by cases hy),fun y hy=>(by cases hy)⟩,h.2⟩
  clear H13;refine⟨fun k=>((ST.length-k).toNat,fun w13=>∃n:Nat,k=n/\n<=ST.length/\Sim true A w w13 b3 n (Hl (En l (ds U)) (ST.take n)) (fun w=>SlR (CE Oe) 2 w sta ST)/\I (Hl (En l (ds U)) (ST.take n))),⟨0,rfl,aX _,hS,hI0⟩,?_⟩;clear hS;rintro _ k w13 ⟨n,rfl,hn,H13,hIn⟩;apply Aa<;>intro c
  ·have hlt:n<ST.length:=by omega
   obtain⟨x,hxp,hxo,hxu,H14⟩:=H13;refine ixE H14.get.2 n rfl hlt fun b4 y hy hb4=>?_;obtain rfl:ST[n]=y:=by rw[List.getElem?_eq_getElem hlt]at hy;exact Option.some.inj hy
   refine⟨_,_,hb4,?_⟩;refine Afm ⟨x,hxp,hxo,hxu,H14⟩ (hI _ hIn) (by omega) (ha _ (aJ hlt)) fun w16 H18=>?_;refine⟨rfl,?_⟩;refine Ao (by omega) ?_;exact⟨⟨n+1,by omega,by omega,by rw[Vm hlt];exact H18,by rw[Vm hlt];exact hIs _ _ _ hIn⟩,by dsimp only;omega⟩
  ·obtain rfl:n=ST.length:=by omega
   rw[bI]at H13 hIn;refine⟨fun h=>absurd hE h,fun _=>⟨b3,rfl,?_,hIn⟩⟩;obtain⟨x,h1,h2,h3,h4⟩:=H13.upTo (n:=500) (by omega);exact⟨x,h1,h2,h3,h4.imp fun w h=>⟨h.1,trivial⟩⟩
 ·refine Aa (fun c=>hbad (H4.fin.imp fun _ _=>trivial) fun h=>by omega) (fun c4=>?_);exact Aa (fun c=>hbad (H4.fin.imp fun _ _=>trivial) fun h=>by omega) (fun c5=>⟨by omega,by omega,rfl⟩)
theorem Alu:Bck true Te:=by
 intro A l U ua sta uc stc ST w I mu rounds hQ hul huc ha hI hIs hIt hIsa hIba hmu hI0 hr Y W hY hW E hE;apply Ah7;have H:=St.start hQ;refine H.alloc ?_;clear H;intro b w1 H1;simp only[aC]at H1;refine⟨_,_,_,_,_,_,H1.cells (i:=0) rfl,?_⟩;obtain⟨A1,hA1,hc1⟩:=H1.call;refine(Acp (A:=A1) hA1 hul huc ha hI.fits hIs hI0).mono ?_;rintro e w2 ⟨k1,k2⟩;by_cases hz:Ku l U ST.length≠0
 ·obtain⟨rfl,H2⟩:=k1 hz;rw[aF hz]at hE;have H3:=hc1 H2;refine⟨_,_,rfl,?_⟩;refine An (fun _=>?_) (fun c=>absurd c hz);exact⟨[],none,0,aX _,by rw[aE (by rw[hE];exact hz)];rfl,by rw[aI (by rw[hE];exact hz),hE];rfl,fun h=>absurd h (by rw[hE];exact hz),H3.fin.imp fun _ _=>⟨.inl rfl,fun y hy=>by cases hy⟩⟩
 have hz:Ku l U ST.length=0:=by omega
 rw[aE (fun h=>h hz)]at hE;obtain⟨b1,rfl,H2,hI2⟩:=k2 hz;clear k1 k2;obtain⟨p0,hp0⟩:∃p0,p0=Hl (En l (ds U)) ST:=⟨_,rfl⟩;rw[<-hp0]at H2 hI2 hY;have H3:Sim true A w w2 b1 500 p0 (fun _=>True):=by
  obtain⟨x,h1,h2,h3,h4⟩:=H2;exact⟨x,h1,h2,h3,((hc1 h4).sub (fun i=>i+1) (fun i r hi=>by simpa using hi) (fun i j _ _ h=>by omega)).imp fun w h=>⟨h.1.1,trivial⟩⟩
 clear H2 hc1 H1;refine⟨_,_,rfl,?_⟩;refine An (fun c=>absurd rfl c) (fun _=>?_);refine⟨fun w3=>E=0/\0<=rounds/\Sim true A w w3 b1 500 p0 (fun _=>True),?_,?_⟩
 ·clear H3;rintro _ w3 ⟨hE0,h0,H3⟩;have hN:p0.wy.length<=500:=by
   obtain⟨x,h1,h2,_⟩:=H3;rw[<-h1];have:=h2.wl;show (ds x.wy.live).length<=500;unfold ds Qu.live;simp;omega
  refine⟨fun k w4=>∃p',k=p'.wy.length/\k<=p0.wy.length/\Sim true A w w4 b1 (500+(p0.wy.length-k)) p' (fun _=>True)/\I p'/\Am6 k p'=Y,⟨p0.wy.length,p0,rfl,aG _,by rw[cL];exact H3,hI2,hY.symm⟩,?_⟩;clear H3;rintro _ k w4 ⟨p',rfl,hk,H4,hI4,hY4⟩;have hld:∃(q:Option Addr) (c:Nat),w4.cell? ⟨b1,29,none⟩=some (.slice q p'.wy.length c):=by
   obtain⟨x,h1,_,_,h4⟩:=H4;refine⟨x.wy.p,x.wy.c-x.wy.n,?_⟩;have:=h4.cell (i:=0) (o:=29) rfl (show (x.enc true)[29]?=some x.wy.sl from rfl);rw[this,<-h1];show some (Value.slice _ _ _)=some (.slice _ (ds x.wy.live).length _);unfold ds Qu.live;simp
  obtain⟨q,c,hld⟩:=hld;refine Bk ?_;rw[Bd,aN];refine⟨q,p'.wy.length,c,hld,?_⟩;apply Aa<;>intro c1
  ·refine Kw false Kg H4 (by omega) fun w5 H5=>?_;have hl:=Aij p';refine⟨rfl,p'.wy.length-1,by omega,Em p' false,hl.symm,by omega,H5.upTo (by omega),hI.deliver _ hI4,?_⟩;rw[<-hY4];obtain⟨j,hj⟩:∃j,p'.wy.length=j+1:=⟨p'.wy.length-1,by omega⟩;rw[hj];rfl
  have hY5:p'=Y:=by rw[<-hY4,show p'.wy.length=0 by omega];rfl
  rw[hY5]at H4 hI4;replace H4:=H4.upTo (n:=1000) (by omega);clear hld hY4 hY5 hk;have hN:Y.bk.length<=1000:=by
   obtain⟨x,h1,h2,_⟩:=H4;rw[<-h1];have:=h2.bl;show (ds x.bk.live).length<=1000;unfold ds Qu.live;simp;omega
  refine⟨fun k w6=>∃p',k=p'.bk.length/\Sim true A w w6 b1 1000 p' (fun _=>True)/\I p'/\Ahv k p'=W,⟨Y.bk.length,Y,rfl,H4,hI4,hW.symm⟩,?_⟩;clear H4 hI4;rintro _ k w6 ⟨p',rfl,H6,hI6,hW6⟩;have hld:∃(q:Option Addr) (c:Nat),w6.cell? ⟨b1,30,none⟩=some (.slice q p'.bk.length c):=by
   obtain⟨x,h1,_,_,h4⟩:=H6;refine⟨x.bk.p,x.bk.c-x.bk.n,?_⟩;have:=h4.cell (i:=0) (o:=30) rfl (show (x.enc true)[30]?=some x.bk.sl from rfl);rw[this,<-h1];show some (Value.slice _ _ _)=some (.slice _ (ds x.bk.live).length _);unfold ds Qu.live;simp
  obtain⟨q,c,hld⟩:=hld;refine Bk ?_;rw[Bd,aN];refine⟨q,p'.bk.length,c,hld,?_⟩;apply Aa<;>intro c1
  ·refine Nj false Li H6 (hI.fits _ hI6).an fun w7 H7=>?_;have hl:=Akv p';refine⟨rfl,p'.bk.length-1,by omega,Ht p' false,hl.symm,H7,hI.answer _ hI6,?_⟩;rw[<-hW6];obtain⟨j,hj⟩:∃j,p'.bk.length=j+1:=⟨p'.bk.length-1,by omega⟩;rw[hj];rfl
  have hW7:p'=W:=by rw[<-hW6,show p'.bk.length=0 by omega];rfl
  rw[hW7]at H6 hI6;clear hld hW6 hW7;refine⟨fun k=>((rounds-k).toNat,fun w8=>∃n:Nat,k=n/\k<=rounds/\Sim true A w w8 b1 (1000+52004*n) (Nc mu n W) (fun _=>True)/\I (Nc mu n W)),⟨0,rfl,h0,H6,hI6⟩,?_⟩;clear H6 hI6;rintro _ k w8 ⟨n,rfl,hk,H8,hI8⟩;apply Aa<;>intro c2
  ·have hm:=hmu _ (hIsa ((Nc mu n W).us.length+1) _ hI8);refine Aey hI H8 hI8 (by omega) fun w9 H9=>?_;refine⟨rfl,?_⟩;refine Ao (by omega) ?_;exact⟨⟨n+1,by omega,by omega,H9.upTo (by omega),hIt _ (hIba _ _ (hIsa _ _ hI8))⟩,by dsimp only;omega⟩
  ·have hn:n=rounds.toNat:=by omega
   rw[<-hn];obtain⟨x,h1,h2,_,H9⟩:=H8;refine H9.drew ?_;clear H9;intro w10 H10;have hcap:=H10.capE (i:=3) rfl;refine Bk ?_;rw[Bd,aN];refine H10.ldS (i:=0) (o:=31) rfl rfl ?_;refine Bk ?_;rw[Bd,aN];refine⟨x.s.failed,H10.cell (i:=0) (o:=12) rfl rfl,?_⟩;refine⟨x.ot.live,x.ot.p,x.ot.c-x.ot.n,by have:=h2.oo.2.1;simp[Qu.live];omega,by rw[aF hE0,<-h1];rfl,?_,fun _=>hI8,?_⟩
   ·rw[<-h1,aM hE0,hE0,bH];have:x.ot.live.length=x.ot.all.length-x.ot.n:=by simp[Qu.live]
    rw[this];rfl
   ·exact((H10.shareE Eu (i:=3) rfl).fin).imp fun w h=>⟨Qu.sl_live h2.oo hcap h.1,h.2.1.2.2.2.2.2⟩
 ·apply Aa<;>intro c
  ·rw[aF c]at hE;obtain⟨x,_,_,_,h4⟩:=H3;exact⟨[],none,0,aX _,by rw[aE (by rw[hE];exact(by decide))];rfl,by rw[aI (by rw[hE];exact(by decide)),hE];rfl,fun h=>absurd h (by rw[hE];exact(by decide)),h4.fin.imp fun _ _=>⟨.inl rfl,fun y hy=>by cases hy⟩⟩
  rw[aE c]at hE;exact Aa (fun c=>absurd c (by omega)) (fun _=>⟨hE,by omega,H3⟩)
theorem Ary:Bc1 true Acn:=by
 intro A l U ua sta uc stc ST w I hQ hul huc ha hI hIs hI0 Z E hE hZ;apply Apa;have H:=St.start hQ;refine H.alloc ?_;clear H;intro b w1 H1;refine H1.alloc ?_;clear H1;intro b1 w2 H2;refine H2.alloc ?_;clear H2;intro b2 w3 H3;simp only[aD,aC]at H3;refine⟨_,_,_,_,_,_,H3.cells (i:=0) rfl,?_⟩;obtain⟨A1,hA1,hc1⟩:=H3.call;refine(Acp (A:=A1) hA1 hul huc ha hI hIs hI0).mono ?_;rintro e w4 ⟨k1,k2⟩;rw[<-hE]at k1 k2;by_cases hE0:E≠0
 ·obtain⟨rfl,h4⟩:=k1 hE0;have H4:=hc1 h4;clear hc1 H3;simp only[aL]at H4;refine⟨_,_,rfl,?_⟩;refine An (fun _=>?_) (fun c=>absurd c hE0);refine H4.s 1 ?_;clear H4;intro w8 H8;simp only[aB,aA]at H8;refine H8.s 2 ?_;clear H8;intro w9 H9;simp only[aB,aA]at H9;refine⟨_,_,_,_,_,_,_,_,_,_,_,_,_,_,_,H9.cells (i:=1) rfl,?_⟩;refine⟨_,_,_,_,_,_,_,_,_,_,_,_,_,_,_,_,H9.cells (i:=2) rfl,?_⟩;rw[aE hE0]at hZ;subst hZ;exact⟨[],none,0,none,0,none,0,aX _,rfl,rfl,fun h=>absurd h hE0,H9.fin.imp fun _ _=>⟨⟨.inl rfl,fun y hy=>by cases hy⟩,.nil,.nil⟩⟩
 have hE0:E=0:=by omega
 rw[aF hE0]at hZ;obtain⟨bb,rfl,⟨x,h1,h2,h3,h4⟩,hI2⟩:=k2 hE0;rw[<-hZ]at h1 hI2;have H4:=hc1 h4;clear hc1 H3 k1 k2;simp only[aD,aC]at H4;refine⟨_,_,rfl,?_⟩;refine An (fun c=>absurd rfl c) (fun _=>?_);refine H4.drew ?_;clear H4;intro w7 H7;refine⟨fun q=>q=bb,?_⟩;have hcap:=H7.capE (i:=6) rfl;refine Bk ?_;rw[Bd,aN];refine H7.ldS (i:=3) (o:=31) rfl rfl ?_;refine Bk ?_;refine⟨_,_,_,_,_,_,_,_,_,_,_,_,_,_,_,H7.cellsAt (i:=3) (o:=0) (vs:=Aq x.s x.sa x.sc) rfl rfl,?_⟩;refine Bk ?_;rw[Bd,aN];refine⟨rfl,?_⟩;refine⟨_,_,_,_,_,_,_,_,_,_,_,_,_,_,_,_,H7.cellsAt (i:=3) (o:=13) (vs:=Bi x.r x.ra x.rc) rfl rfl,?_⟩;refine H7.s 1 ?_;intro w8 H8;simp only[aB,aA]at H8;refine⟨Mk (H7.ok 3 _ rfl) (H8.ok 3 _ rfl),?_⟩;refine H8.s 2 ?_;intro w9 H9;simp only[aB,aA]at H9;refine⟨Mk (H7.ok 3 _ rfl) (H9.ok 3 _ rfl),?_⟩;refine⟨_,_,_,_,_,_,_,_,_,_,_,_,_,_,_,H9.cells (i:=1) rfl,?_⟩;refine⟨_,_,_,_,_,_,_,_,_,_,_,_,_,_,_,_,H9.cells (i:=2) rfl,?_⟩;refine⟨x.ot.live,x.ot.p,x.ot.c-x.ot.n,x.sa,x.sc,x.ra,x.rc,by have:=h2.oo.2.1;simp[Qu.live];omega,by rw[<-h1];rfl,?_,fun _=>hI2,?_⟩
 ·rw[<-h1,hE0];have:x.ot.live.length=x.ot.all.length-x.ot.n:=by simp[Qu.live]
  rw[this];rfl
 ·rw[<-h1];exact((H9.shareE Eu (i:=6) rfl).fin).imp fun w h=>⟨⟨Qu.sl_live h2.oo hcap h.1,h.2.1.1.2.2.2.2.2⟩,h.2.1.1.1,h.2.1.1.2.1⟩
end Go.Proofs.YtmbppohkadmjgaaGreat
