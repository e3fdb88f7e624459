import Derived.Test.YtmbppohkadmjgaaGreatM21a
import Derived.Test.YtmbppohkadmjgaaGreatM18
import Derived.Test.YtmbppohkadmjgaaGreatEl2
import Derived.Test.YtmbppohkadmjgaaGreatOp
namespace Go.Sx
open Go.RowKit

end Go.Sx
namespace Go.Proofs.YtmbppohkadmjgaaGreat
open Go.Sx Go.RowKit
set_option maxRecDepth 100000
def Mb(u:Un)(a:Option Addr)(c:Nat)(a2:Option Addr)(c2:Nat):List Value:=[.int .i64 u.sn,.slice a u.data.length c,.int .i64 u.sent,.int .i64 u.tries,.slice a2 u.again.length c2]
def UnC(w:World)(p:Addr)(u:Un):Prop:=∃a c a2 c2,cellsAt w p 0 (Mb u a c a2 c2)/\SlR (Bp .u8) 1 w a u.data/\SlR (CE Bn) 3 w a2 u.again
abbrev UnR(w:World)(a:Option Addr)(L:List Un):Prop:=SlR UnC 5 w a L
def Aq(s:Sd)(a:Option Addr)(c:Nat):List Value:=
 [.int .i64 s.lk.bits,.int .i64 s.lk.every,.int .i64 s.lk.poll,.int .i64 s.lk.wait,.int .i64 s.lk.quiet,.int .i64 s.lk.tries,.int .i64 s.first,.int .i64 s.next,.slice a s.units.length c,.int .i64 s.pieces,.int .i64 s.poll,.int .i64 s.left,.bool s.failed]
abbrev SdC(w:World)(b o:Nat)(s:Sd):Prop:=∃a c,cellsAt w ⟨b,o,none⟩ 0 (Aq s a c)/\UnR w a s.units
theorem UnC.keep{w w':World}{p:Addr}{u:Un}(h:UnC w p u)(hb:Below w.heap.size w w'):UnC w' p u:=by
 obtain⟨a,c,a2,c2,h1,h2,h3⟩:=h;exact⟨a,c,a2,c2,He (fun _ _ hp _=>hb.get hp) h1,h2.below hb,h3.belowE hb⟩
theorem Cf{w w':World}{a:Option Addr}{L:List Un}(h:UnR w a L)(hb:Below w.heap.size w w'):UnR w' a L:=by
 rcases h with rfl|⟨b,rfl,h⟩
 ·exact .inl rfl
 ·exact .inr ⟨b,rfl,fun i hi=>(h i hi).keep hb⟩
theorem Jw{w w':World}{b o:Nat}{s:Sd}(h:SdC w b o s)(hb:Below w.heap.size w w'):SdC w' b o s:=by
 obtain⟨a,c,h1,h2⟩:=h;exact⟨a,c,Av h1 hb,Cf h2 hb⟩
abbrev Am2(u:Un)(a:Option Addr)(c:Nat)(a2:Option Addr)(c2:Nat):Value:=.agg #[.int .i64 u.sn,.slice a u.data.length c,.int .i64 u.sent,.int .i64 u.tries,.slice a2 u.again.length c2]
abbrev Sg(s:Sd)(a:Option Addr)(c:Nat):Value:=.agg #[.int .i64 s.lk.bits,.int .i64 s.lk.every,.int .i64 s.lk.poll,.int .i64 s.lk.wait,.int .i64 s.lk.quiet,.int .i64 s.lk.tries,.int .i64 s.first,.int .i64 s.next,.slice a s.units.length c,.int .i64 s.pieces,.int .i64 s.poll,.int .i64 s.left,.bool s.failed]
section
variable{l:Lk}{w:World}
end
section
variable{s:Sd}{b o:Nat}{n:Int}{w:World}
theorem Ea(hs:SdC w b o s)(hb:Bv s.lk.bits):Calls Tryz.prog Cj #[(.pointer (some ⟨b,o,none⟩)),(.int .i64 n)] w fun e w'=>e=.returned (.int .i64 (s.place n))/\Below w.heap.size w w':=by
 apply Pd;have H:=St.nil w;obtain⟨a,c,hc,_⟩:=hs;refine H.drew ?_;clear H;intro w1 H1;have hc1:=Av hc H1.below;refine⟨(· <w1.heap.size),?_⟩;refine⟨_,lq (j:=0) hc1 rfl,?_⟩;refine⟨_,lq (j:=6) hc1 rfl,?_⟩;refine serial_Distance_ct.mono ?_;rintro _ w2 ⟨rfl,hb2⟩;have H2:=H1.pass hb2;refine⟨_,rfl,?_⟩;refine⟨hb2.keeps,?_⟩;obtain⟨hb1,hb3⟩:=hb;exact⟨by rw[aF (by omega)];rfl,H2.below⟩
theorem Ka(hs:SdC w b o s)(hb:Bv s.lk.bits):Calls Tryz.prog Fg #[(.pointer (some ⟨b,o,none⟩)),(.int .i64 n)] w fun e w'=>e=.returned (.bool (decide (Bt s.lk.bits n)))/\Below w.heap.size w w':=by
 apply Yb;have H:=St.nil w;obtain⟨a,c,hc,_⟩:=hs;have hp:=Cm hb;obtain⟨hb1,hb3⟩:=hb;refine⟨_,lq (j:=0) hc rfl,?_⟩;refine⟨by omega,?_⟩;refine Kv (by omega) ?_;refine Ao (by omega) ?_;refine sender_between_ct.mono ?_;rintro _ w1 ⟨rfl,hb1⟩;have H1:=H.pass hb1;clear H;refine⟨_,rfl,?_⟩;exact⟨Nq (by unfold Bt;omega),H1.below⟩
end
theorem sender_whole_ct{u:Un}{a a2:Option Addr}{c c2:Nat}{w:World}:Calls Tryz.prog Lh #[Am2 u a c a2 c2] w fun e w'=>e=.returned (.bool (decide (Ef u)))/\Below w.heap.size w w':=by
 apply Ain;have H:=St.nil w;refine H.alloc ?_;clear H;intro b w1 H1;refine H1.l 0 ?_;refine H1.m 0 ?_;refine Aw ?_;exact⟨rfl,H1.below⟩
section
variable{L:List Rg}{a:Option Addr}{c g:Nat}{ff fc:Array Value}{w:World}
end
section
variable{L:List Un}{a:Option Addr}{c g:Nat}{ff fc:Array Value}{w:World}
theorem ixU(hs:UnR w a L)(i:Nat){j:Int}(hj:j=i)(hi:i<L.length){F:Addr->Prop}
 (h:∀b,UnC w (b.add (j.toNat*5)) L[i]->F b):kIx a L.length j F:=
 ixE hs i hj hi fun b x hx hb=>by
  rw[List.getElem?_eq_getElem hi]at hx;injection hx with hx;subst hx;exact h b hb
theorem Wg(hs:UnR w a L)(hl:L.length<=140737488355328)(p:Un->Bool)(hok:Vy Tryz.prog g=true)
 (hf:∀(w':World) (u:Un) (a1:Option Addr) (c1:Nat) (a2:Option Addr) (c2:Nat),u∈L->Below w.heap.size w w'->Calls Tryz.prog g (ff++#[Am2 u a1 c1 a2 c2]++fc) w' fun e w''=>e=.returned (.bool (p u))/\Below w'.heap.size w' w''):
 Calls Tryz.prog Cp #[(.slice a L.length c),.func (.func g) ff fc] w fun e w'=>e=.returned (.int .i64 (idx p L))/\Below w.heap.size w w':=by
 apply Jz;have H:=St.nil w;refine⟨fun x=>((L.length-x).toNat,fun w1=>∃k:Nat,x=k/\k<=L.length/\(∀j (hj:j<L.length),j<k->p L[j]=false)/\Cg w w1 []),⟨0,rfl,by omega,fun j _ h=>by omega,H⟩,?_⟩;clear H;rintro _ x w1 ⟨k,rfl,hk,hno,H1⟩;apply Aa<;>intro c1
 ·have hlt:k<L.length:=by omega
  refine ixU (Cf hs H1.below) k rfl hlt fun b hb=>?_;obtain⟨a1,c1,a2,c2,hb,_,_⟩:=hb;refine⟨_,_,_,_,_,_,_,_,_,hb,?_⟩;refine⟨hok,?_⟩;refine(hf w1 _ a1 c1 a2 c2 (aJ hlt) H1.below).mono ?_;rintro _ w2 ⟨rfl,hb2⟩;have H2:=H1.pass hb2;clear H1;refine⟨_,rfl,?_⟩;apply Al<;>intro c
  ·exact⟨by rw[Acg hlt hno c],H2.below⟩
  ·refine Ao (by omega) ?_;exact⟨⟨k+1,by omega,by omega,fun j hj h=>by
    rcases aT j k with h'|h'
    ·exact hno j hj h'
    ·obtain rfl:j=k:=by omega
     exact c,H2⟩,by dsimp only;omega⟩
 ·obtain rfl:k=L.length:=by omega
  exact⟨by rw[Agi fun j hj=>hno j hj hj],H1.below⟩
theorem Akf(hs:UnR w a L)(hl:L.length<=140737488355328)(p:Un->Bool)(hok:Vy Tryz.prog g=true)
 (hf:∀(w':World) (u:Un) (a1:Option Addr) (c1:Nat) (a2:Option Addr) (c2:Nat),u∈L->Below w.heap.size w w'->Calls Tryz.prog g (ff++#[Am2 u a1 c1 a2 c2]++fc) w' fun e w''=>e=.returned (.bool (p u))/\Below w'.heap.size w' w''):
 Calls Tryz.prog Dn #[(.slice a L.length c),.func (.func g) ff fc] w fun e w'=>e=.returned (.bool (L.any p))/\Below w.heap.size w w':=by
 apply Iq;refine(Wg hs hl p hok hf).mono ?_;rintro _ w1 ⟨rfl,hb1⟩;refine⟨_,rfl,?_⟩;refine Aw ?_;exact⟨by rw[Yz],hb1⟩
end
theorem Aa6{r:Rg}{u:Un}{a a2:Option Addr}{c c2 b:Nat}{w:World}(hc:cellsAt w ⟨b,0,none⟩ 0 (Mb u a c a2 c2)):Calls Tryz.prog Lc #[(.agg #[.int .i64 r.sn,.int .i64 r.f,.int .i64 r.t]),(.pointer (some ⟨b,0,none⟩))] w fun e w'=>e=.returned (.bool (Ar9 u r))/\Below w.heap.size w w':=by
 apply Xg;have H:=St.nil w;refine H.alloc ?_;clear H;intro b0 w1 H1;have hc1:=Av hc H1.below;refine H1.l 0 ?_;refine⟨_,lq (j:=0) hc1 rfl,?_⟩;apply An<;>intro c
 ·exact⟨Apv (.inl c),H1.below⟩
 ·refine H1.l 0 ?_;refine⟨_,lq (j:=2) hc1 rfl,?_⟩;refine Aw ?_;exact⟨Nq ⟨fun h=>.inr h,fun h=>by omega⟩,H1.below⟩
section
variable{s:Sd}{b o:Nat}{u:Un}{a1 a2:Option Addr}{c1 c2:Nat}{w:World}
theorem Aer(hs:SdC w b o s)(hb:Bv s.lk.bits)(hu:SlR (CE Bn) 3 w a2 u.again)(hl:u.again.length<=140737488355328):Calls Tryz.prog Nm #[(.pointer (some ⟨b,o,none⟩)),Am2 u a1 c1 a2 c2] w fun e w'=>e=.returned (.bool (unB s.lk u))/\Below w.heap.size w w':=by
 apply Aa7;have H:=St.nil w;refine H.alloc ?_;clear H;intro b0 w1 H1;replace H1:St (fun _=>False) [] w w1 [.blk b0 Ae (Mb u a1 c1 a2 c2)] (fun _=>True):=H1;refine⟨fun x4 w8=>St (fun _=>False) [] w w8 [.blk b0 Ae (Mb u a1 c1 a2 c2)] (fun _=>True)/\(!x4)=(decide (Aah s.lk u)&&Cc (-1) u.again),?_,?_⟩
 ·rintro _ x4 w8 ⟨H8,hj⟩;apply Al<;>intro c4
  ·refine⟨?_,H8.below⟩;subst c4;rw[unB,<-hj];rfl
  ·refine H8.m 0 ?_;refine(Qs (hu.belowE H8.below) hl (Ar9 u) (by kernel_rfl) fun w' r hr hw'=>?_).mono ?_
   ·exact Aa6 (Av (H8.cells (i:=0) rfl) hw')
   rintro _ w9 ⟨rfl,hb9⟩;have H9:=H8.pass hb9;clear H8;refine⟨_,rfl,?_⟩;refine⟨?_,H9.below⟩;subst c4;rw[unB,<-hj];rfl
 ·refine H1.drew ?_;clear H1;intro w2 H2;have hs2:=Jw hs H2.below;obtain⟨sa,sc,hc,_⟩:=hs2;have hlt:=Tr hc;refine⟨(· <w2.heap.size),?_⟩;refine H2.l 0 ?_;refine(Ka (Jw hs H2.below) hb).mono ?_;rintro _ w3 ⟨rfl,hb3⟩;have H3:=H2.pass hb3;refine⟨_,rfl,?_⟩;refine⟨hb3.keeps,?_⟩;have bad:∀ {w':World},¬Aah s.lk u->St (fun _=>False) [] w w' [.blk b0 Ae (Mb u a1 c1 a2 c2)] (fun _=>True)->St (fun _=>False) [] w w' [.blk b0 Ae (Mb u a1 c1 a2 c2)] (fun _=>True)/\(!true)=(decide (Aah s.lk u)&&Cc (-1) u.again):=
   fun h H=>⟨H,by rw[aI h];rfl⟩
  apply An<;>intro c3
  ·exact bad (fun h=>c3 h.1) H3
  ·refine⟨H2.lt (i:=0) rfl rfl,?_⟩;refine H2.m 0 ?_;refine sender_between_ct.mono ?_;rintro _ w4 ⟨rfl,hb4⟩;have H4:=H3.pass hb4;refine⟨_,rfl,?_⟩;replace hb4:=Ax hb3 (aG _) hb4;refine⟨hb4.keeps,?_⟩;apply An<;>intro c2
   ·exact bad (fun h=>c2 (by have:=h.2.1;omega)) H4
   ·refine⟨H2.lt (i:=0) rfl rfl,?_⟩;refine H2.l 0 ?_;refine⟨H2.lt (i:=0) rfl rfl,?_⟩;refine H2.m 0 ?_;refine sender_between_ct.mono ?_;rintro _ w5 ⟨rfl,hb5⟩;have H5:=H4.pass hb5;refine⟨_,rfl,?_⟩;replace hb5:=Ax hb4 (aG _) hb5;refine⟨hb5.keeps,?_⟩;apply An<;>intro c1
    ·exact bad (fun h=>c1 (by have:=h.2.2.1;omega)) H5
    ·refine⟨H2.lt (i:=0) rfl rfl,?_⟩;refine H2.l 0 ?_;refine⟨hlt,?_⟩;refine⟨_,lq (j:=5) hc rfl,?_⟩;refine sender_between_ct.mono ?_;rintro _ w6 ⟨rfl,hb6⟩;have H6:=H5.pass hb6;refine⟨_,rfl,?_⟩;replace hb6:=Ax hb5 (aG _) hb6;refine⟨hb6.keeps,?_⟩;apply An<;>intro c
     ·exact bad (fun h=>c h.2.2.2) H6
     ·refine⟨H2.lt (i:=0) rfl rfl,?_⟩;refine H2.m 0 ?_;refine(Hb (hu.belowE H6.below) hl).mono ?_;rintro _ w7 ⟨rfl,hb7⟩;have H7:=H6.pass hb7;refine⟨_,rfl,?_⟩;replace hb7:=Ax hb6 (aG _) hb7;refine⟨hb7.keeps,?_⟩;exact⟨H7,by rw[aM (show Aah s.lk u from⟨c3,by omega,by omega,c⟩)];simp⟩
theorem Yn{q:Nat}(hq:w.cell? ⟨q,0,none⟩=some (.pointer (some ⟨b,o,none⟩)))(hs:SdC w b o s):Calls Tryz.prog Ke #[Am2 u a1 c1 a2 c2,(.pointer (some ⟨q,0,none⟩))] w fun e w'=>e=.returned (.bool (decide (u.sn=s.poll/\0<u.sent)))/\Below w.heap.size w w':=by
 apply Wc;have H:=St.nil w;refine H.alloc ?_;clear H;intro b0 w1 H1;refine H1.drew ?_;clear H1;intro w2 H2;obtain⟨sa,sc,hc,_⟩:=Jw hs H2.below;refine H2.l 0 ?_;refine⟨_,H2.below.get hq,?_⟩;refine⟨_,by rw[Bd];exact lq (j:=10) hc rfl,?_⟩;apply Aa<;>intro c
 ·refine H2.l 0 ?_;refine Aw ?_;exact⟨Nq ⟨fun h=>⟨c,h⟩,fun h=>h.2⟩,H2.below⟩
 ·exact⟨Hd (fun h=>c h.1),H2.below⟩
theorem Abg(hs:SdC w b o s)(hl:s.units.length<=140737488355328):Calls Tryz.prog Mj #[(.pointer (some ⟨b,o,none⟩))] w fun e w'=>e=.returned (.bool (Ade s))/\Below w.heap.size w w':=by
 apply Yr;have H:=St.nil w;refine H.alloc ?_;clear H;intro b0 w1 H1;have hs1:=Jw hs H1.below;have hs2:=hs1;obtain⟨sa,sc,hc,hu⟩:=hs2;refine⟨_,H1.cell (i:=0) rfl rfl,?_⟩;refine⟨_,_,_,by rw[Bd];exact lq (j:=8) hc rfl,?_⟩;refine(Akf hu hl (fun u=>decide (u.sn=s.poll/\0<u.sent)) (by kernel_rfl) fun w' u a1 c1 a2 c2 hu' hw'=>?_).mono ?_
 ·exact Yn (b:=b) (o:=o) (hw'.get (H1.cell (i:=0) rfl rfl)) (Jw hs1 hw')
 rintro _ w2 ⟨rfl,hb2⟩;have H2:=H1.pass hb2;clear H1;refine⟨_,rfl,?_⟩;exact⟨rfl,H2.below⟩
end
def SmU(L:List Un):Prop:=L.length<=140737488355328/\∀u∈L,u.again.length<=140737488355328/\u.data.length<=140737488355328
section
variable{s:Sd}{b o:Nat}{w:World}
theorem Acq(hs:SdC w b o s)(hb:Bv s.lk.bits)(hl:SmU s.units):Calls Tryz.prog Ma #[(.pointer (some ⟨b,o,none⟩))] w fun e w'=>e=.returned (.bool (Gu s))/\Below w.heap.size w w':=by
 apply Zp;have H:=St.nil w;obtain⟨hl0,hl1⟩:=hl;have hs0:=hs;obtain⟨a,c,hc,hu⟩:=hs0;refine⟨_,_,_,lq (j:=8) hc rfl,?_⟩;apply Aa<;>intro c8
 ·have hnil:s.units=[]:=aK (by omega);refine H.drew ?_;clear H;intro w1 H1;have hc1:=Av hc H1.below;refine⟨_,lq (j:=7) hc1 rfl,?_⟩;refine⟨_,lq (j:=6) hc1 rfl,?_⟩;refine Aw ?_;refine⟨?_,H1.below⟩;unfold Gu;rw[hnil]
 ·have hpos:0<s.units.length:=by omega
  have e0:Gu s=(decide (s.units[0].sn=s.first)&&Dr s none s.units):=by
   unfold Gu;split
   ·rename_i h;rw[h]at hpos;simp at hpos
   ·rename_i u l h;simp[h]
  refine H.drew ?_;clear H;intro w2 H2;have hc2:=Av hc H2.below;refine⟨_,_,_,lq (j:=8) hc2 rfl,?_⟩;refine ixU (Cf hu H2.below) 0 rfl hpos fun b1 hb1=>?_;obtain⟨a1,c1,a2,c2,hb1,_,_⟩:=hb1;refine⟨_,by have:=Bc hb1 0 _ rfl;rwa[Ls]at this,?_⟩;refine⟨_,lq (j:=6) hc2 rfl,?_⟩;apply An<;>intro c7
  ·refine⟨?_,H2.below⟩;rw[e0,aI c7];rfl
  ·refine⟨_,_,_,lq (j:=8) hc2 rfl,?_⟩;refine⟨fun x5=>((s.units.length-x5).toNat,fun w3=>∃k:Nat,x5=k/\k<=s.units.length/\Gu s=Dr s (Tz s.units k) (s.units.drop k)/\Cg w w3 []),⟨0,rfl,by omega,by rw[e0,aM c7];rfl,H2⟩,?_⟩;clear H2 hc2 hb1;rintro _ x5 w3 ⟨k,rfl,hk,hI,H3⟩;apply Aa<;>intro c6
   ·have hlt:k<s.units.length:=by omega
    have hmem:=aJ hlt;obtain⟨u,hue⟩:∃u,u=s.units[k]:=⟨_,rfl⟩;rw[<-hue]at hmem;rw[Pe _ _ _ hlt,<-hue]at hI;refine ixU (Cf hu H3.below) k rfl hlt fun b1 hb1=>?_;rw[<-hue]at hb1;obtain⟨a1,c1,a2,c2,hb1,hd1,hr1⟩:=hb1;refine⟨_,_,_,_,_,_,_,_,_,hb1,?_⟩;have hr1:=fun {w':World} (h:Below w3.heap.size w3 w')=>hr1.belowE h;have L:=St.nil w3;refine L.alloc ?_;clear L;intro b2 w4 H4;simp only[aC]at H4;refine H4.s 0 ?_;clear H4;intro w5 H5;replace H5:St (fun _=>False) [] w3 w5 [.blk b2 Ae (Mb u a1 c1 a2 c2)] (fun _=>True):=H5;refine⟨fun w10=>St (fun _=>False) [] w3 w10 [.blk b2 Ae (Mb u a1 c1 a2 c2)] (fun _=>True)/\(unB s.lk u&&decide (s.place u.sn<s.place s.next))=true,?_,?_⟩
    ·rintro _ w10 ⟨H10,hj⟩;rw[hj,bH]at hI;have G10:=H3.pass H10.below;apply Aa<;>intro c5
     ·have hc10:=Av hc G10.below;have hu10:=Cf hu G10.below;refine⟨_,_,_,lq (j:=8) hc10 rfl,?_⟩;refine Ao (by omega) ?_;have hlt1:k-1<s.units.length:=by omega
      obtain⟨v,hve⟩:∃v,v=s.units[k-1]:=⟨_,rfl⟩;have hp:Tz s.units k=some v:=by
       rw[show k=(k-1)+1 by omega,Tz,List.getElem?_eq_getElem hlt1,hve]
      rw[hp]at hI;simp only at hI;refine ixU hu10 (k-1) (by omega) hlt1 fun b3 hb3=>?_;rw[<-hve]at hb3;obtain⟨a3,c3,a4,c4,hb3,_,_⟩:=hb3;refine⟨_,_,_,_,_,_,_,_,_,hb3,?_⟩;refine H10.alloc ?_;clear H10;intro b4 w11 H11;simp only[aD,aC]at H11;refine H11.s 1 ?_;clear H11;intro w12 H12;simp only[aB,aA]at H12;replace H12:St (fun _=>False) [] w3 w12 [.blk b2 Ae (Mb u a1 c1 a2 c2),.blk b4 Ae (Mb v a3 c3 a4 c4)] (fun _=>True):=H12;refine H12.drew ?_;clear H12;intro w13 H13;have G13:=H3.pass H13.below;refine⟨(· <w13.heap.size),?_⟩;refine H13.l 0 ?_;refine⟨H13.lt (i:=1) rfl rfl,?_⟩;refine H13.l 1 ?_;refine(Ea (Jw hs G13.below) hb).mono ?_;rintro _ w14 ⟨rfl,hb14⟩;have G14:=G13.pass hb14;refine⟨_,rfl,?_⟩;refine⟨hb14.keeps,?_⟩;refine(Ea (Jw hs G14.below) hb).mono ?_;rintro _ w15 ⟨rfl,hb15⟩;have G15:=G14.pass hb15;refine⟨_,rfl,?_⟩;replace hb15:=Ax hb14 (aG _) hb15;refine⟨hb15.keeps,?_⟩;refine Aa (fun c4'=>?_) (fun c4'=>?_)
      ·refine⟨?_,G15.below⟩;rw[hI,Re,aI (by omega)];rfl
      ·refine⟨H13.lt (i:=1) rfl rfl,?_⟩;refine⟨_,_,_,_,_,_,_,_,_,H13.cells (i:=1) rfl,?_⟩;refine sender_whole_ct.mono ?_;rintro _ w16 ⟨rfl,hb16⟩;have G16:=G15.pass hb16;refine⟨_,rfl,?_⟩;replace hb16:=Ax hb15 (aG _) hb16;refine⟨hb16.keeps,?_⟩;have hI2:Gu s=((decide (Ef v)||decide (u.sent<=0))&&Dr s (Tz s.units (k+1)) (s.units.drop (k+1))):=by
        rw[hI,Re,aM (show s.place v.sn<s.place u.sn by omega),bH]
       refine An (fun c3'=>?_) (fun c3'=>?_)
       ·refine⟨H13.lt (i:=0) rfl rfl,?_⟩;refine H13.l 0 ?_;refine Aa (fun c2'=>?_) (fun c2'=>?_)
        ·refine⟨?_,G16.below⟩;rw[hI2,aI c3',aI (by omega)];rfl
        ·refine Ao (by omega) ?_;refine⟨⟨k+1,by omega,by omega,?_,G16⟩,by dsimp only;omega⟩;rw[hI2,aM (show u.sent<=0 by omega)];simp
       ·refine Ao (by omega) ?_;refine⟨⟨k+1,by omega,by omega,?_,G16⟩,by dsimp only;omega⟩;rw[hI2,aM c3'];simp
     ·refine Ao (by omega) ?_;obtain rfl:k=0:=by omega
      refine⟨⟨1,by omega,by omega,?_,G10⟩,by dsimp only;omega⟩;rw[hI];rfl
    ·refine H5.drew ?_;clear H5;intro w6 H6;have G6:=H3.pass H6.below;refine⟨(· <w6.heap.size),?_⟩;refine⟨_,_,_,_,_,_,_,_,_,H6.cells (i:=0) rfl,?_⟩;refine(Aer (Jw hs G6.below) hb (hr1 H6.below) (hl1 u hmem).1).mono ?_;rintro _ w7 ⟨rfl,hb7⟩;have H7:=H6.pass hb7;have G7:=G6.pass hb7;refine⟨_,rfl,?_⟩;refine⟨hb7.keeps,?_⟩;refine Bq (fun c1'=>?_) (fun c1'=>?_)
     ·refine⟨?_,G7.below⟩;rw[hI,c1'];rfl
     ·have hc6:=Av hc G6.below;refine⟨H6.lt (i:=0) rfl rfl,?_⟩;refine H6.l 0 ?_;refine⟨Tr hc6,?_⟩;refine⟨_,lq (j:=7) hc6 rfl,?_⟩;refine(Ea (Jw hs G7.below) hb).mono ?_;rintro _ w8 ⟨rfl,hb8⟩;have H8:=H7.pass hb8;have G8:=G7.pass hb8;refine⟨_,rfl,?_⟩;replace hb8:=Ax hb7 (aG _) hb8;refine⟨hb8.keeps,?_⟩;refine(Ea (Jw hs G8.below) hb).mono ?_;rintro _ w9 ⟨rfl,hb9⟩;have H9:=H8.pass hb9;have G9:=G8.pass hb9;refine⟨_,rfl,?_⟩;replace hb9:=Ax hb8 (aG _) hb9;refine⟨hb9.keeps,?_⟩;refine Aa (fun c'=>?_) (fun c'=>?_)
      ·refine⟨?_,G9.below⟩;rw[hI,c1',aI (by omega)];rfl
      ·exact⟨H9,by rw[c1',aM (by omega)];rfl⟩
   ·obtain rfl:k=s.units.length:=by omega
    refine⟨?_,H3.below⟩;rw[hI,bU];rfl
end
section
variable{s:Sd}{a:Option Addr}{c:Nat}{w:World}
theorem Aag(hu:UnR w a s.units)(hl:SmU s.units):Calls Tryz.prog Py #[Sg s a c] w fun e w'=>e=.returned (.bool s.okB)/\Below w.heap.size w w':=by
 apply Aie;have H:=St.nil w;refine H.alloc ?_;clear H;intro b w1 H1;simp only[aC]at H1;refine⟨_,_,_,_,_,_,_,_,_,_,_,_,_,_,_,H1.cells (i:=0) rfl,?_⟩;refine H1.alloc ?_;clear H1;intro b1 w2 H2;simp only[aD,aC]at H2;replace H2:St (fun _=>False) [] w w2 [.blk b Ab (Aq s a c),.blk b1 Bb (Aq s a c)] (fun _=>True):=H2;have side:∀ {w':World},St (fun _=>False) [] w w' [.blk b Ab (Aq s a c),.blk b1 Bb (Aq s a c)] (fun _=>True)->SdC w' b1 0 s:=fun H=>⟨a,c,H.cells (i:=1) rfl,Cf hu H.below⟩;refine⟨fun x9 w10=>St (fun _=>False) [] w w10 [.blk b Ab (Aq s a c),.blk b1 Bb (Aq s a c)] (fun _=>True)/\
  (!x9)=(decide (Ir s.lk/\Bt s.lk.bits s.first/\Bt s.lk.bits s.next/\s.place s.next<=2^(s.lk.bits-1).toNat)&&Gu s&&decide (0<=s.pieces/\s.pieces<=s.lk.every-1)),?_,?_⟩
 ·rintro _ x9 w10 ⟨H10,hj⟩;apply Al<;>intro c7
  ·refine⟨?_,H10.below⟩;subst c7;rw[Sd.okB,<-hj];rfl
  ·subst c7;have e:s.okB=if s.poll=-1 then decide (s.left=0) else Ade s&&decide (1<=s.left/\s.left<=s.lk.poll):=by rw[Sd.okB,<-hj];rfl
   refine H10.l 0 ?_;apply Aa<;>intro c6
   ·refine H10.l 0 ?_;refine Aw ?_;exact⟨by rw[e,aF c6],H10.below⟩
   ·refine(Abg (side H10) hl.1).mono ?_;rintro _ w11 ⟨rfl,hb11⟩;have H11:=H10.pass hb11;clear H10;refine⟨_,rfl,?_⟩;rw[aE c6]at e;apply Al<;>intro c5
    ·refine H11.l 0 ?_;refine H11.l 0 ?_;refine sender_between_ct.mono ?_;rintro _ w12 ⟨rfl,hb12⟩;have H12:=H11.pass hb12;clear H11;refine⟨_,rfl,?_⟩;exact⟨by rw[e,c5];rfl,H12.below⟩
    ·exact⟨by rw[e,c5];rfl,H11.below⟩
 ·have bad:∀ {w':World},(decide (Ir s.lk/\Bt s.lk.bits s.first/\Bt s.lk.bits s.next/\s.place s.next<=2^(s.lk.bits-1).toNat)&&Gu s)=false->St (fun _=>False) [] w w' [.blk b Ab (Aq s a c),.blk b1 Bb (Aq s a c)] (fun _=>True)->St (fun _=>False) [] w w' [.blk b Ab (Aq s a c),.blk b1 Bb (Aq s a c)] (fun _=>True)/\
   (!true)=(decide (Ir s.lk/\Bt s.lk.bits s.first/\Bt s.lk.bits s.next/\s.place s.next<=2^(s.lk.bits-1).toNat)&&Gu s&&decide (0<=s.pieces/\s.pieces<=s.lk.every-1)):=
   fun h H=>⟨H,by rw[h];rfl⟩
  refine H2.drew ?_;clear H2;intro w3 H3;refine⟨(· <w3.heap.size),?_⟩;refine⟨_,_,_,_,_,_,H3.cellsAt (i:=0) rfl (by rfl),?_⟩;refine sender_ValidLink_ct.mono ?_;rintro _ w4 ⟨rfl,hb4⟩;have H4:=H3.pass hb4;refine⟨_,rfl,?_⟩;refine⟨hb4.keeps,?_⟩;apply An<;>intro c4
  ·exact bad (by rw[aI fun h=>c4 h.1];rfl) H4
  ·have hb:=c4.1;have hp:=Cm hb;have hev:=c4.2.1;refine⟨H3.lt (i:=0) rfl rfl,?_⟩;refine H3.l 0 ?_;refine(Ka (side H4) hb).mono ?_;rintro _ w5 ⟨rfl,hb5⟩;have H5:=H4.pass hb5;refine⟨_,rfl,?_⟩;replace hb5:=Ax hb4 (aG _) hb5;refine⟨hb5.keeps,?_⟩;apply An<;>intro c3
   ·exact bad (by rw[aI fun h=>c3 h.2.1];rfl) H5
   ·refine⟨H3.lt (i:=0) rfl rfl,?_⟩;refine H3.l 0 ?_;refine(Ka (side H5) hb).mono ?_;rintro _ w6 ⟨rfl,hb6⟩;have H6:=H5.pass hb6;refine⟨_,rfl,?_⟩;replace hb6:=Ax hb5 (aG _) hb6;refine⟨hb6.keeps,?_⟩;apply An<;>intro c2
    ·exact bad (by rw[aI fun h=>c2 h.2.2.1];rfl) H6
    ·have hb':=hb;obtain⟨hb1,hb2⟩:=hb';refine⟨H3.lt (i:=0) rfl rfl,?_⟩;refine H3.l 0 ?_;refine⟨H3.lt (i:=0) rfl rfl,?_⟩;refine H3.l 0 ?_;refine Ao (by omega) ?_;refine⟨by omega,?_⟩;refine Kv (by omega) ?_;refine(Ea (side H6) hb).mono ?_;rintro _ w7 ⟨rfl,hb7⟩;have H7:=H6.pass hb7;refine⟨_,rfl,?_⟩;replace hb7:=Ax hb6 (aG _) hb7;refine⟨hb7.keeps,?_⟩;apply Aa<;>intro c1
     ·exact bad (by rw[aI fun h=>by have:=h.2.2.2;omega];rfl) H7
     ·have hd:decide (Ir s.lk/\Bt s.lk.bits s.first/\Bt s.lk.bits s.next/\s.place s.next<=2^(s.lk.bits-1).toNat)=true:=aM ⟨c4,c3,c2,by omega⟩;refine(Acq (side H7) hb hl).mono ?_;rintro _ w8 ⟨rfl,hb8⟩;have H8:=H7.pass hb8;refine⟨_,rfl,?_⟩;replace hb8:=Ax hb7 (aG _) hb8;refine⟨hb8.keeps,?_⟩;apply Bq<;>intro c
      ·exact bad (by rw[c];simp) H8
      ·refine⟨H3.lt (i:=0) rfl rfl,?_⟩;refine H3.l 0 ?_;refine⟨H3.lt (i:=0) rfl rfl,?_⟩;refine H3.l 0 ?_;refine Ao (by omega) ?_;refine sender_between_ct.mono ?_;rintro _ w9 ⟨rfl,hb9⟩;have H9:=H8.pass hb9;refine⟨_,rfl,?_⟩;replace hb9:=Ax hb8 (aG _) hb9;refine⟨hb9.keeps,?_⟩;exact⟨H9,by rw[hd,c];simp⟩
end
end Go.Proofs.YtmbppohkadmjgaaGreat
namespace Go.Sx
theorem Aq3{b x a:Int}(hb:Bv b)(hx:Bt b x)(ha:Bt b a):way b a x=0↔x=a:=by
 unfold Bt at hx ha;unfold way;rcases Cm hb with h|h|h|h|h<;>rw[h]at hx ha ⊢ <;>omega
theorem Ax7{b:Int}(hb:Bv b):Int.tdiv (2^b.toNat) 2=2^(b-1).toNat:=by
 obtain⟨h1,h2⟩:=hb;rcases (show b=5\/b=6\/b=7\/b=8\/b=9 by omega)with rfl|rfl|rfl|rfl|rfl<;>decide
def Ig(s:Sd)(k:Nat)(v u:Un):Prop:=
 s.place u.sn>=s.place s.next\/(k=0/\s.place u.sn≠0)\/(0<k/\s.place u.sn<=s.place v.sn)\/(0<k/\0<u.sent/\v.sent<v.data.length)
instance (s:Sd) (k:Nat) (v u:Un):Decidable (Ig s k v u):=inferInstanceAs (Decidable (_\/_))
def Wr(s:Sd):Nat->Bool
 |0=>Gu s
 |k+1=>Dr s (Tz s.units (k+1)) (s.units.drop (k+1))
theorem Atu{s:Sd}{k:Nat}(hb:Bv s.lk.bits)(hf:Bt s.lk.bits s.first)(hlt:k<s.units.length)(hv:∀h:0<k,(s.units[k-1]'(by omega)).sent<=(s.units[k-1]'(by omega)).data.length):Wr s k=(unB s.lk s.units[k]&&(decide (¬Ig s k (s.units.getD (k-1) s.units[k]) s.units[k])&&Wr s (k+1))):=by
 by_cases hu:unB s.lk s.units[k]=false
 ·rw[hu];cases k with
  |zero=>
   show Gu s=_;unfold Gu;split
   ·rename_i h;rw[h]at hlt;simp at hlt
   ·rename_i u l h;have:s.units[0]=u:=by simp[h]
    rw[this]at hu;simp[Dr,hu]
  |succ k=>
   show Dr s (Tz s.units (k+1)) (s.units.drop (k+1))=_;rw[Pe _ _ _ hlt,hu];rfl
 rw[Bool.not_eq_false]at hu;have hn:Aah s.lk s.units[k]:=by
  unfold unB at hu;simp only[aH,aO]at hu;exact hu.1.1
 rw[hu,bH];cases k with
 |zero=>
  have hz:=Aq3 hb hn.1 hf;have e:Wr s 0=(decide (s.units[0].sn=s.first)&&(decide (s.place s.units[0].sn<s.place s.next)&&Wr s 1)):=by
   show Gu s=_;have h1:Gu s=(decide (s.units[0].sn=s.first)&&Dr s (Tz s.units 0) (s.units.drop 0)):=by
    unfold Gu;split
    ·rename_i h;rw[h]at hlt;simp at hlt
    ·rename_i u l h;simp[h,Tz]
   rw[h1,Pe _ _ _ hlt,hu];simp only[Tz,bH,eG];rfl
  rw[e];by_cases h1:s.units[0].sn=s.first
  ·by_cases h2:s.place s.units[0].sn<s.place s.next
   ·rw[aM h1,aM h2,aM (show ¬Ig s 0 _ _ from fun h=>by
     have:=hz.2 h1;unfold Ig Sd.place at*;omega)];rfl
   ·rw[aI h2,aI (show ¬ ¬Ig s 0 _ _ from fun h=>h (.inl (by omega)))];simp
  ·rw[aI h1,aI (show ¬ ¬Ig s 0 _ _ from fun h=>h (.inr (.inl ⟨rfl,fun e=>h1 (hz.1 e)⟩)))];rfl
 |succ k=>
  have hlt1:k<s.units.length:=by omega
  have hv':=hv (by omega);obtain⟨v,hve⟩:∃v,v=s.units[k]:=⟨_,rfl⟩;have hg:s.units.getD (k+1-1) s.units[k+1]=v:=by rw[dL,hve,Sv hlt1]
  have e0:s.units[k+1-1]=v:=by rw[hve];congr 1
  rw[e0]at hv';rw[hg];have e:Wr s (k+1)=(decide (s.place s.units[k+1].sn<s.place s.next)&&(Re s v s.units[k+1]&&Wr s (k+1+1))):=by
   show Dr s (Tz s.units (k+1)) (s.units.drop (k+1))=_;rw[Pe _ _ _ hlt,hu];simp only[Tz,List.getElem?_eq_getElem hlt1,<-hve,bH,Bool.and_assoc];rfl
  rw[e];by_cases h2:s.place s.units[k+1].sn<s.place s.next
  ·rw[aM h2,bH];have hbd:Re s v s.units[k+1]=decide (¬Ig s (k+1) v s.units[k+1]):=by
    by_cases h3:s.place v.sn<s.place s.units[k+1].sn
    ·by_cases h4:Ef v\/s.units[k+1].sent<=0
     ·rw[aM (show ¬Ig s (k+1) _ _ from fun h=>by unfold Ig at h;unfold Ef at h4;omega)];unfold Re;rw[aM h3];rcases h4 with h4|h4
      ·rw[aM h4];rfl
      ·rw[aM h4];simp
     ·rw[aI (show ¬ ¬Ig s (k+1) _ _ from fun h=>h (by unfold Ig;unfold Ef at h4;omega))];unfold Re;rw[aI (fun h=>h4 (.inl h)),aI (fun h=>h4 (.inr h))];simp
    ·rw[aI (show ¬ ¬Ig s (k+1) _ _ from fun h=>h (by unfold Ig;omega))];unfold Re;rw[aI h3];rfl
   rw[hbd]
  ·rw[aI h2,aI (show ¬ ¬Ig s (k+1) _ _ from fun h=>h (.inl (by omega)))];rfl
end Go.Sx
namespace Go.Proofs.YtmbppohkadmjgaaGreat
open Go.Sx Go.RowKit
set_option maxRecDepth 100000
theorem Fe{s:Sd}{n:Int}{w:World}(hb:Bv s.lk.bits):Calls Tryz.prog Dl #[(.int .i64 s.lk.bits),(.int .i64 s.first),(.int .i64 n)] w fun e w'=>e=.returned (.int .i64 (s.place n))/\Below w.heap.size w w':=by
 apply Xs;have H:=St.nil w;refine ref02_Distance_ct.mono ?_;rintro _ w1 ⟨rfl,hb1⟩;have H1:=H.pass hb1;clear H;refine⟨_,rfl,?_⟩;obtain⟨hb1,hb3⟩:=hb;exact⟨by rw[aF (by omega)];rfl,H1.below⟩
section
variable{s:Sd}{u:Un}{a a1 a2:Option Addr}{c c1 c2:Nat}{w:World}
theorem Apr(hb:Bv s.lk.bits)(hu:SlR (CE Bn) 3 w a2 u.again)(hl:u.again.length<=140737488355328):Calls Tryz.prog Zx #[Sg s a c,Am2 u a1 c1 a2 c2] w fun e w'=>e=.returned (.bool (unB s.lk u))/\Below w.heap.size w w':=by
 apply Alc;have H:=St.nil w;refine H.alloc ?_;clear H;intro b w1 H1;refine H1.alloc ?_;clear H1;intro b1 w2 H2;simp only[aD,aC]at H2;replace H2:St (fun _=>False) [] w w2 [.blk b Ab (Aq s a c),.blk b1 Ae (Mb u a1 c1 a2 c2)] (fun _=>True):=H2;have hp:=Cm hb;have hb':=hb;obtain⟨hb1,hb2⟩:=hb';refine⟨fun x10 w4=>St (fun _=>False) [] w w4 [.blk b Ab (Aq s a c),.blk b1 Ae (Mb u a1 c1 a2 c2)] (fun _=>True)/\(!x10)=(decide (Aah s.lk u)&&Cc (-1) u.again),?_,?_⟩
 ·rintro _ x10 w4 ⟨H4,hj⟩;apply Al<;>intro c11
  ·subst c11;exact⟨by rw[unB,<-hj];rfl,H4.below⟩
  ·subst c11;refine⟨fun i=>((u.again.length-i).toNat,fun w5=>∃k:Nat,i=k/\k<=u.again.length/\(∀j (hj:j<u.again.length),j<k->Ar9 u u.again[j]=false)/\
    St (fun _=>False) [] w w5 [.blk b Ab (Aq s a c),.blk b1 Ae (Mb u a1 c1 a2 c2)] (fun _=>True)),⟨0,rfl,by omega,fun j _ h=>by omega,H4⟩,?_⟩
   clear H4;rintro _ i w5 ⟨k,rfl,hk,hno,H5⟩;refine H5.m 1 ?_;apply Aa<;>intro c10
   ·have hlt:k<u.again.length:=by omega
    have bad:Ar9 u u.again[k]=true->unB s.lk u=false:=fun h=>by
     rw[unB,<-hj,dF.2 ⟨_,aJ hlt,h⟩];rfl
    refine H5.drew ?_;clear H5;intro w6 H6;refine H6.m 1 ?_;refine ixE (hu.belowE H6.below) k rfl hlt fun b2 r hrk hb2=>?_;obtain rfl:u.again[k]=r:=by rw[List.getElem?_eq_getElem hlt]at hrk;injection hrk
    refine⟨_,by have:=Bc hb2 0 _ rfl;rwa[Ls]at this,?_⟩;refine H6.l 1 ?_;apply An<;>intro c9
    ·exact⟨by rw[bad (aM (.inl c9))],H6.below⟩
    ·refine H6.m 1 ?_;refine ixE (hu.belowE H6.below) k rfl hlt fun b3 r hrk hb3=>?_;obtain rfl:u.again[k]=r:=by rw[List.getElem?_eq_getElem hlt]at hrk;injection hrk
     refine⟨_,by have:=Bc hb3 2 _ rfl;rwa[aN]at this,?_⟩;refine H6.l 1 ?_;apply Aa<;>intro c8
     ·exact⟨by rw[bad (aM (.inr c8))],H6.below⟩
     ·refine Ao (by omega) ?_;exact⟨⟨k+1,by omega,by omega,fun j hj' h=>by
       rcases aT j k with h'|h'
       ·exact hno j hj' h'
       ·obtain rfl:j=k:=by omega
        exact aI (fun h=>by rcases h with h|h<;>omega),H6⟩,by dsimp only;omega⟩
   ·obtain rfl:k=u.again.length:=by omega
    refine⟨?_,H5.below⟩;have:u.again.any (Ar9 u)=false:=by
     rw[bW];intro x hx;obtain⟨j,hj',rfl⟩:=bF hx;rw[hno j hj' hj'];decide
    rw[unB,<-hj,this];rfl
 ·have bad:∀ {w':World},¬Aah s.lk u->St (fun _=>False) [] w w' [.blk b Ab (Aq s a c),.blk b1 Ae (Mb u a1 c1 a2 c2)] (fun _=>True)->St (fun _=>False) [] w w' [.blk b Ab (Aq s a c),.blk b1 Ae (Mb u a1 c1 a2 c2)] (fun _=>True)/\(!true)=(decide (Aah s.lk u)&&Cc (-1) u.again):=
   fun h H=>⟨H,by rw[aI h];rfl⟩
  refine H2.m 1 ?_;apply Aa<;>intro c7
  ·exact bad (fun h=>by have:=h.2.1;omega) H2
  ·refine H2.m 1 ?_;apply Aa<;>intro c6
   ·exact bad (fun h=>by have:=h.2.1;omega) H2
   ·refine H2.l 1 ?_;apply Aa<;>intro c5
    ·exact bad (fun h=>by have:=h.2.2.1;omega) H2
    ·refine H2.l 1 ?_;refine H2.m 1 ?_;apply Aa<;>intro c4
     ·exact bad (fun h=>by have:=h.2.2.1;omega) H2
     ·refine H2.l 1 ?_;apply Aa<;>intro c3
      ·exact bad (fun h=>by have:=h.2.2.2;omega) H2
      ·refine H2.l 1 ?_;refine H2.l 0 ?_;apply Aa<;>intro c2
       ·exact bad (fun h=>by have:=h.2.2.2;omega) H2
       ·refine H2.l 1 ?_;apply Aa<;>intro c1
        ·exact bad (fun h=>by have:=h.1;unfold Bt at this;omega) H2
        ·refine H2.l 1 ?_;refine H2.l 0 ?_;refine Pk (by omega) ?_;refine⟨by omega,?_⟩;refine Kv (by omega) ?_;apply Aa<;>intro c
         ·exact bad (fun h=>by have:=h.1;unfold Bt at this;omega) H2
         ·refine H2.m 1 ?_;refine(Gx (hu.belowE H2.below) hl).mono ?_;rintro _ w3 ⟨rfl,hb3⟩;have H3:=H2.pass hb3;clear H2;refine⟨_,rfl,?_⟩;exact⟨H3,by rw[aM (show Aah s.lk u from⟨⟨by omega,by omega⟩,by omega,by omega,by omega⟩)];simp⟩
end
section
variable{s:Sd}{a:Option Addr}{c:Nat}{w:World}
theorem Pz(hu:UnR w a s.units)(hl:SmU s.units):Calls Tryz.prog Jv #[Sg s a c] w fun e w'=>e=.returned (.bool s.okB)/\Below w.heap.size w w':=by
 apply Ai6;have H:=St.nil w;obtain⟨hl0,hl1⟩:=hl;refine H.alloc ?_;clear H;intro b w1 H1;simp only[aC]at H1;replace H1:St (fun _=>False) [] w w1 [.blk b Ab (Aq s a c)] (fun _=>True):=H1;refine⟨_,_,_,_,_,_,H1.cellsAt (i:=0) rfl (by rfl),?_⟩;refine ref20_ValidLink_ct.mono ?_;rintro _ w2 ⟨rfl,hb2⟩;have H2:=H1.pass hb2;clear H1;refine⟨_,rfl,?_⟩;apply An<;>intro c33
 ·exact⟨by rw[Sd.okB,aI fun h=>c33 h.1];rfl,H2.below⟩
 ·have hb:=c33.1;have hp:=Cm hb;have hev:=c33.2.1;have hb':=hb;obtain⟨hb1,hb2'⟩:=hb';refine H2.l 0 ?_;refine Pk (by omega) ?_;refine⟨by omega,?_⟩;refine Kv (by omega) ?_;refine⟨fun w3=>St (fun _=>False) [] w w3 [.blk b Ab (Aq s a c)] (fun _=>True)/\Bt s.lk.bits s.first/\Bt s.lk.bits s.next,?_,?_⟩
  ·rintro _ w3 ⟨H3,hf,hn⟩;refine H3.l 0 ?_;refine H3.l 0 ?_;refine(Fe hb).mono ?_;rintro _ w4 ⟨rfl,hb4⟩;have H4:=H3.pass hb4;clear H3;refine⟨_,rfl,?_⟩;have hz:=Aq3 hb hn hf;refine⟨fun x16 w5=>St (fun _=>False) [] w w5 [.blk b Ab (Aq s a c)] (fun _=>True)/\(x16=true↔s.place s.next>2^(s.lk.bits-1).toNat\/(s.units.length=0/\s.place s.next≠0)\/s.pieces<0\/s.pieces>=s.lk.every),?_,?_⟩
   ·rintro _ x16 w5 ⟨H5,hj⟩;apply Al<;>intro c32
    ·refine⟨?_,H5.below⟩;rcases hj.1 c32 with h|h|h
     ·rw[Sd.okB,aI fun h'=>by have:=h'.2.2.2;omega];rfl
     ·have hnil:s.units=[]:=aK h.1;have:Gu s=false:=by
       unfold Gu;rw[hnil];exact aI fun e=>h.2 (hz.2 e)
      rw[Sd.okB,this];simp
     ·rw[Sd.okB,aI (p:=0<=s.pieces/\s.pieces<=s.lk.every-1) (by omega)];simp
    ·have hno:¬(s.place s.next>2^(s.lk.bits-1).toNat\/(s.units.length=0/\s.place s.next≠0)\/s.pieces<0\/s.pieces>=s.lk.every):=fun h=>by rw[hj.2 h]at c32;cases c32
     have hok:s.okB=(Wr s 0&&if s.poll=-1 then decide (s.left=0) else Ade s&&decide (1<=s.left/\s.left<=s.lk.poll)):=by
      rw[Sd.okB,aM ⟨c33,hf,hn,by omega⟩,aM (p:=0<=s.pieces/\s.pieces<=s.lk.every-1) (by omega)];simp[Wr]
     obtain⟨T,hT⟩:∃T,T=(if s.poll=-1 then decide (s.left=0) else Ade s&&decide (1<=s.left/\s.left<=s.lk.poll)):=⟨_,rfl⟩;rw[<-hT]at hok;refine⟨fun i=>((s.units.length-i).toNat,fun w6=>∃k:Nat,i=k/\k<=s.units.length/\s.okB=(Wr s k&&T)/\(∀j (hj:j<s.units.length),j<k->s.units[j].sent<=s.units[j].data.length)/\
      St (fun _=>False) [] w w6 [.blk b Ab (Aq s a c)] (fun _=>True)),⟨0,rfl,by omega,hok,fun j _ h=>by omega,H5⟩,?_⟩
     clear H5;rintro _ i w6 ⟨k,rfl,hk,hI,hse,H6⟩;refine H6.m 0 ?_;apply Aa<;>intro c31
     ·have hlt:k<s.units.length:=by omega
      have hmem:=aJ hlt;have hstep:=Atu (k:=k) hb hf hlt fun h=>hse (k-1) (by omega) (by omega);obtain⟨u,hue⟩:∃u,u=s.units[k]:=⟨_,rfl⟩;obtain⟨v,hve⟩:∃v,v=s.units.getD (k-1) u:=⟨_,rfl⟩;rw[<-hue,<-hve]at hstep;rw[<-hue]at hmem;rw[hstep]at hI;refine H6.m 0 ?_;refine ixU (Cf hu H6.below) k rfl hlt fun b1 hb1=>?_;rw[<-hue]at hb1;obtain⟨a1,c1,a2,c2,hb1,hd1,hr1⟩:=hb1;refine⟨_,_,_,_,_,_,_,_,_,hb1,?_⟩;have L:=St.nil w6;refine L.alloc ?_;clear L;intro b2 w7 L7;simp only[aC]at L7;refine L7.s 0 ?_;clear L7;intro w8 L8;simp only[aA]at L8;replace L8:St (fun _=>False) [] w6 w8 [.blk b2 Ae (Mb u a1 c1 a2 c2)] (fun _=>True):=L8;refine⟨_,_,_,_,_,_,_,_,_,_,_,_,_,_,_,(H6.pass L8.below).cells (i:=0) rfl,?_⟩;refine⟨_,_,_,_,_,_,_,_,_,L8.cells (i:=0) rfl,?_⟩;refine(Apr hb (hr1.belowE L8.below) (hl1 u hmem).1).mono ?_;rintro _ w9 ⟨rfl,hb9⟩;have L9:=L8.pass hb9;clear L8;refine⟨_,rfl,?_⟩;apply Bq<;>intro c25
      ·exact⟨by rw[hI,c25];rfl,(H6.pass L9.below).below⟩
      ·rw[c25,bH]at hI;have hus:u.sent<=u.data.length:=by
        unfold unB at c25;simp only[aH,aO]at c25;exact c25.1.1.2.2.1.2
       refine(H6.pass L9.below).ld (i:=0) rfl rfl ?_;refine L9.l 0 ?_;refine(Fe hb).mono ?_;rintro _ w10 ⟨rfl,hb10⟩;have L10:=L9.pass hb10;clear L9;refine⟨_,rfl,?_⟩;refine⟨fun x41 w14=>St (fun _=>False) [] w w14 [.blk b Ab (Aq s a c)] (fun _=>True)/\(x41=true↔Ig s k v u),?_,?_⟩
       ·rintro _ x41 w14 ⟨H14,hj2⟩;apply Al<;>intro c24
        ·exact⟨by rw[hI,aI (show ¬ ¬Ig s k v u from fun h=>h (hj2.1 c24))];rfl,H14.below⟩
        ·refine Ao (by omega) ?_;refine⟨⟨k+1,by omega,by omega,?_,fun j hj' h=>?_,H14⟩,by dsimp only;omega⟩
         ·rw[hI,aM (show ¬Ig s k v u from fun h=>by rw[hj2.2 h]at c24;cases c24),bH]
         ·rcases aT j k with h'|h'
          ·exact hse j hj' h'
          ·obtain rfl:j=k:=by omega
           rw[<-hue];exact hus
       ·refine L10.drew ?_;clear L10;intro w11 L11;have H11:=H6.pass L11.below;have hu11:=Cf hu H11.below;have hvp:∀h:0<k,s.units[k-1]'(by omega)=v:=fun h=>by rw[hve,Sv (show k-1<s.units.length by omega)]
        refine⟨(· <w11.heap.size),?_⟩;apply Aa<;>intro c23
        ·exact⟨H11,cP rfl (.inl c23)⟩
        ·apply Aa<;>intro c22
         ·apply An<;>intro c15
          ·exact⟨H11,cP rfl (.inr (.inl ⟨by omega,c15⟩))⟩
          ·apply Aa<;>intro c14
           ·omega
           ·apply Aa<;>intro c13
            ·omega
            ·exact⟨H11,bA (by decide) (by unfold Ig;omega)⟩
         ·apply Aa<;>intro c21
          ·have hk0:0<k:=by omega
           have hk1:k-1<s.units.length:=by omega
           refine H11.l 0 ?_;refine H11.m 0 ?_;refine Ao (by omega) ?_;refine ixU hu11 (k-1) (by omega) hk1 fun b8 hb8=>?_;rw[hvp hk0]at hb8;obtain⟨a3,c3,a4,c4,hb8,_,_⟩:=hb8;refine⟨_,by have:=Bc hb8 0 _ rfl;rwa[Ls]at this,?_⟩;refine(Fe hb).mono ?_;rintro _ w13 ⟨rfl,hb13⟩;have H13:=H11.pass hb13;refine⟨_,rfl,?_⟩;refine⟨hb13.keeps,?_⟩;apply Aa<;>intro c18
           ·exact⟨H13,cP rfl (.inr (.inr (.inl ⟨hk0,c18⟩)))⟩
           ·refine Aa (fun c17=>?_) (fun c17=>by omega);refine⟨L11.lt (i:=0) rfl rfl,?_⟩;refine L11.l 0 ?_;apply Aa<;>intro c16
            ·refine⟨H11.lt (i:=0) rfl rfl,?_⟩;refine H11.m 0 ?_;refine Ao (by omega) ?_;refine ixU hu11 (k-1) (by omega) hk1 fun b9 hb9=>?_;rw[hvp hk0]at hb9;obtain⟨a5,c5,a6,c6,hb9,_,_⟩:=hb9;have g2:=Bc hb9 2 _ rfl;rw[aN]at g2;refine⟨Dv g2,?_⟩;refine⟨_,g2,?_⟩;refine⟨H11.lt (i:=0) rfl rfl,?_⟩;refine H11.m 0 ?_;refine Ao (by omega) ?_;refine ixU hu11 (k-1) (by omega) hk1 fun b10 hb10=>?_;rw[hvp hk0]at hb10;obtain⟨a7,c7,a8,c8,hb10,_,_⟩:=hb10;have g1:=Bc hb10 1 _ rfl;rw[aN]at g1;refine⟨Dv g1,?_⟩;refine⟨_,_,_,g1,?_⟩;exact⟨H13,by rw[aV];unfold Ig;omega⟩
            ·exact⟨H13,bA (by decide) (by unfold Ig;omega)⟩
          ·omega
     ·obtain rfl:k=s.units.length:=by omega
      have hT0:s.okB=T:=by
       have:Wr s s.units.length=true:=by
        cases hln:s.units.length with
        |zero=>
         have hnil:s.units=[]:=aK hln;show Gu s=true;unfold Gu;rw[hnil];exact aM (hz.1 (by
          by_cases h0:s.place s.next=0
          ·exact h0
          ·exact(hno (.inr (.inl ⟨hln,h0⟩))).elim))
        |succ n=>
         show Dr s _ (s.units.drop (n+1))=true;rw[<-hln,bU];rfl
       rw[hI,this,bH]
      refine H6.l 0 ?_;apply Aa<;>intro c30
      ·refine H6.l 0 ?_;refine Aw ?_;exact⟨by rw[hT0,hT,aF c30],H6.below⟩
      ·rw[aE c30]at hT;refine⟨fun i1=>((s.units.length-i1).toNat,fun w15=>∃k:Nat,i1=k/\k<=s.units.length/\(∀j (hj:j<s.units.length),j<k->¬(s.units[j].sn=s.poll/\0<s.units[j].sent))/\
        St (fun _=>False) [] w w15 [.blk b Ab (Aq s a c)] (fun _=>True)),⟨0,rfl,by omega,fun j _ h=>by omega,H6⟩,?_⟩
       clear H6;rintro _ i1 w15 ⟨k,rfl,hk,hnp,H15⟩;refine H15.m 0 ?_;apply Aa<;>intro c29
       ·have hlt:k<s.units.length:=by omega
        refine⟨fun x49 w17=>St (fun _=>False) [] w w17 [.blk b Ab (Aq s a c)] (fun _=>True)/\(x49=true↔s.units[k].sn=s.poll/\0<s.units[k].sent),?_,?_⟩
        ·rintro _ x49 w17 ⟨H17,hj3⟩;apply Al<;>intro c28
         ·have hask:Ade s=true:=dF.2 ⟨_,aJ hlt,aM (hj3.1 c28)⟩;rw[hask,bH]at hT;refine H17.l 0 ?_;apply Aa<;>intro c27
          ·refine H17.l 0 ?_;refine H17.l 0 ?_;refine Aw ?_;exact⟨by rw[hT0,hT];exact Nq ⟨fun h=>⟨c27,h⟩,fun h=>h.2⟩,H17.below⟩
          ·exact⟨by rw[hT0,hT];exact Hd (fun h=>c27 h.1),H17.below⟩
         ·refine Ao (by omega) ?_;refine⟨⟨k+1,by omega,by omega,fun j hj' h=>?_,H17⟩,by dsimp only;omega⟩;rcases aT j k with h'|h'
          ·exact hnp j hj' h'
          ·obtain rfl:j=k:=by omega
           exact fun e=>by rw[hj3.2 e]at c28;cases c28
        ·refine H15.drew ?_;clear H15;intro w16 H16;have hu16:=Cf hu H16.below;refine H16.m 0 ?_;refine ixU hu16 k rfl hlt fun b13 hb13=>?_;obtain⟨a3,c3,a4,c4,hb13,_,_⟩:=hb13;refine⟨_,by have:=Bc hb13 0 _ rfl;rwa[Ls]at this,?_⟩;refine H16.l 0 ?_;apply Aa<;>intro c26
         ·refine H16.m 0 ?_;refine ixU hu16 k rfl hlt fun b14 hb14=>?_;obtain⟨a5,c5,a6,c6,hb14,_,_⟩:=hb14;refine⟨_,by have:=Bc hb14 2 _ rfl;rwa[aN]at this,?_⟩;exact⟨H16,by rw[aV];exact⟨fun h=>⟨c26,h⟩,fun h=>h.2⟩⟩
         ·exact⟨H16,bA (by decide) (fun h=>c26 h.1)⟩
       ·obtain rfl:k=s.units.length:=by omega
        refine⟨?_,H15.below⟩;have hask:Ade s=false:=by
         unfold Ade;rw[bW];intro x hx;obtain⟨j,hj',rfl⟩:=bF hx;simpa using hnp j hj' hj'
        rw[hT0,hT,hask];rfl
   ·have e2:Int.tdiv (2^s.lk.bits.toNat) 2=2^(s.lk.bits-1).toNat:=Ax7 hb;have hp2:(2:Int)^(s.lk.bits-1).toNat<=512/\0<=(2:Int)^(s.lk.bits-1).toNat:=by
     rw[<-e2];rcases hp with h|h|h|h|h<;>rw[h]<;>decide
    refine Ao (by rw[e2];omega) ?_;rw[e2];apply Aa<;>intro c8
    ·exact⟨H4,cP rfl (.inl c8)⟩
    ·refine H4.m 0 ?_;apply Aa<;>intro c7
     ·apply An<;>intro c5
      ·exact⟨H4,cP rfl (.inr (.inl ⟨by omega,c5⟩))⟩
      ·refine H4.l 0 ?_;apply Aa<;>intro c4
       ·exact⟨H4,cP rfl (.inr (.inr (.inl c4)))⟩
       ·refine H4.l 0 ?_;refine H4.l 0 ?_;exact⟨H4,by rw[aV];omega⟩
     ·refine H4.l 0 ?_;apply Aa<;>intro c6
      ·exact⟨H4,cP rfl (.inr (.inr (.inl c6)))⟩
      ·refine H4.l 0 ?_;refine H4.l 0 ?_;exact⟨H4,by rw[aV];omega⟩
  ·have bad:¬(Bt s.lk.bits s.first/\Bt s.lk.bits s.next)->Ending.returned (.bool false)=.returned (.bool s.okB):=fun h=>by
    rw[Sd.okB,aI fun h'=>h ⟨h'.2.1,h'.2.2.1⟩];rfl
   refine H2.l 0 ?_;apply Aa<;>intro c3
   ·exact⟨bad (fun h=>by unfold Bt at h;omega),H2.below⟩
   ·refine H2.l 0 ?_;apply Aa<;>intro c2
    ·exact⟨bad (fun h=>by unfold Bt at h;omega),H2.below⟩
    ·refine H2.l 0 ?_;apply Aa<;>intro c1
     ·exact⟨bad (fun h=>by unfold Bt at h;omega),H2.below⟩
     ·refine H2.l 0 ?_;apply Aa<;>intro c
      ·exact⟨bad (fun h=>by unfold Bt at h;omega),H2.below⟩
      ·exact⟨H2,⟨by omega,by omega⟩,⟨by omega,by omega⟩⟩
end
end Go.Proofs.YtmbppohkadmjgaaGreat
namespace Go.Sx
open Go.RowKit
theorem Ayk{l:Lk}{u:Un}(h:unB l u=true):u.again.length<=2055/\u.data.length<=2054:=by
 unfold unB at h;simp only[aH,aO,bP]at h;obtain⟨⟨hn,h1⟩,h2⟩:=h;obtain⟨_,h3,h4,_⟩:=hn;refine⟨?_,by omega⟩;rcases Adr (m:=2054) h1 (fun r hr=>by
  have:=bW.1 h2 r hr;simp only[Ar9,aO]at this;omega)with h|h
 ·rw[h];simp
 ·omega
theorem Vr{s:Sd}:∀ {l:List Un} {p:Option Un},Dr s p l=true->∀u∈l,unB s.lk u=true/\s.place u.sn<s.place s.next
 | [],_,_,u,hu=>by simp at hu
 |x::l,p,h,u,hu=>by
  simp only[Dr,aH,aO]at h;rcases bB.1 hu with rfl|hu
  ·exact h.1.1
  ·exact Vr h.2 u hu
theorem Ae8{s:Sd}:∀ {l:List Un} {u:Un} {p:Option Un},Dr s p (u::l)=true->s.place u.sn+l.length<s.place s.next
 | [],u,p,h=>by
  have:=(Vr h u (by simp)).2;simpa using this
 |v::l,u,p,h=>by
  have h':=h;simp only[Dr,aH,aO]at h';have h2:Dr s (some u) (v::l)=true:=by simp only[Dr,aH,aO];exact h'.2
  have:=Ae8 h2;have h3:=h'.2.1.2;simp only[Re,aH,aO]at h3;simp only[aQ];omega
def Bch(L:List Un):Prop:=L.length<=600/\∀u∈L,u.again.length<=3000/\u.data.length<=3000
theorem Na{s:Sd}(h:s.okB=true):Bch s.units/\Ir s.lk/\Bt s.lk.bits s.first/\Bt s.lk.bits s.next/\∀u∈s.units,unB s.lk u=true/\s.place u.sn<s.place s.next:=by
 unfold Sd.okB at h;simp only[aH,aO]at h;obtain⟨⟨⟨⟨h1,h2,h3,h4⟩,hu⟩,_⟩,_⟩:=h;have hp:=Cm h1.1;have hall:∀u∈s.units,unB s.lk u=true/\s.place u.sn<s.place s.next:=by
  intro u hu';unfold Gu at hu;split at hu
  ·rename_i hn;rw[hn]at hu';simp at hu'
  ·rename_i x l hx;simp only[aH]at hu;rw[hx]at hu';exact Vr hu.2 u hu'
 refine⟨⟨?_,fun u hu'=>by have:=Ayk (hall u hu').1;omega⟩,h1,h2,h3,hall⟩;have hlt:s.place s.next<2^s.lk.bits.toNat:=(Qf _ _ _).2;unfold Gu at hu;split at hu
 ·rename_i hn;rw[hn];simp
 ·rename_i x l hx;simp only[aH]at hu;have:=Ae8 hu.2;have h0:0<=s.place x.sn:=(Qf _ _ _).1;rw[hx,aQ];omega
def Aej(l:Lk):Sd×Int:=if Ir l then (⟨l,0,0,[],0,-1,0,false⟩,0) else (.zero,3)
end Go.Sx
namespace Go.Proofs.YtmbppohkadmjgaaGreat
open Go.Sx Go.RowKit
set_option maxRecDepth 100000
structure UP where
 u:Un
 a:Option Addr
 c:Nat
 a2:Option Addr
 c2:Nat
def Ba(x:UP):List Value:=Mb x.u x.a x.c x.a2 x.c2
theorem Bm:Enc Ba 5:=⟨fun _=>rfl,fun _=>rfl⟩
def agR(x:UP):Res:=.els Bn Af 3 x.a2 x.c2 x.u.again
def DatR(L:List UP)(w:World):Prop:=∀x∈L,SlR (Bp .u8) 1 w x.a x.u.data/\x.u.data.length<=x.c
def Yq(L:List UP)(w:World):Prop:=∀x∈L,SlR (Bp .u8) 1 w x.a x.u.data
theorem DatR.out{L:List UP}{w:World}(h:DatR L w):Yq L w:=fun x hx=>(h x hx).1
theorem Ah5{w:World}{e:TypeId}{k:IntKind}{a:Option Addr}{c:Nat}{ys:List Int}(h:(Res.ints e k a c ys).ok w):ys.length<=c:=by
 have h:Own w 0 e 1 a ys.length c (ys.map (Value.int k)):=h;rcases h.2 with ⟨hv,h0⟩|⟨g,cap,cur,hv,_,_,hnc,_⟩
 ·omega
 ·injection hv with _ _ h3;omega
def Ad1(L:List UP)(w:World):Prop:=∀x∈L,SlR (CE Bn) 3 w x.a2 x.u.again
theorem Bce{w:World}{a:Option Addr}{L:List Un}(h:UnR w a L):∃P:List UP,P.map (·.u)=L/\SlR (CE Ba) 5 w a P/\Yq P w/\Ad1 P w:=by
 rcases h with rfl|⟨b,rfl,hb⟩
 ·exact⟨[],rfl,.inl rfl,fun x hx=>by simp at hx,fun x hx=>by simp at hx⟩
 obtain⟨P,hP,hq⟩:=Abl (Q:=fun i (x:UP)=>∃h:i<L.length,x.u=L[i]/\cellsAt w (b.add (i*5)) 0 (Ba x)/\SlR (Bp .u8) 1 w x.a x.u.data/\SlR (CE Bn) 3 w x.a2 x.u.again) L.length fun i hi=>by
  obtain⟨a,c,a2,c2,h1,h2,h3⟩:=hb i hi;exact⟨⟨L[i],a,c,a2,c2⟩,hi,rfl,h1,h2,h3⟩
 refine⟨P,?_,.inr ⟨b,rfl,fun i hi=>?_⟩,fun x hx=>?_,fun x hx=>?_⟩
 ·apply cX (by simpa using hP);intro i h1 h2;obtain⟨_,e,_⟩:=hq i (by simpa using h1);simpa using e
 ·obtain⟨_,_,h,_⟩:=hq i hi;exact h
 ·obtain⟨i,hi,rfl⟩:=bF hx;obtain⟨_,_,_,h,_⟩:=hq i hi;exact h
 ·obtain⟨i,hi,rfl⟩:=bF hx;obtain⟨_,_,_,_,h⟩:=hq i hi;exact h
theorem Nt{w:World}{a:Option Addr}{P:List UP}(h:SlR (CE Ba) 5 w a P)(hd:Yq P w)(hr:Ad1 P w):UnR w a (P.map (·.u)):=by
 rcases h with rfl|⟨b,rfl,hb⟩
 ·exact .inl rfl
 refine .inr ⟨b,rfl,fun i hi=>?_⟩;have hi':i<P.length:=by simpa using hi
 have:=aJ hi';rw[eI];exact⟨P[i].a,P[i].c,P[i].a2,P[i].c2,hb i hi',hd _ this,hr _ this⟩
theorem Gp{A0:Nat->Prop}{w0 w:World}:∀ {L:List UP} {R:List Res} {P:World->Prop},St A0 [] w0 w (R++L.map agR) P->St A0 [] w0 w R fun w=>Ad1 L w/\P w
 | [],R,P,H=>by
  have:=H.imp (Q:=fun w=>Ad1 [] w/\P w) fun _ h=>⟨fun x hx=>by simp at hx,h⟩;simpa using this
 |x::L,R,P,H=>by
  have e:(R++(x::L).map agR)[R.length]?=some (agR x):=by simp
  have K:=(H.shareE Br e).sub (R':=R++L.map agR) (fun i=>if i<R.length then i else i+1) (fun i r hi=>by
   by_cases h:i<R.length
   ·rw[List.getElem?_append_left h]at hi;rw[aF h,List.getElem?_set_ne (by omega),List.getElem?_append_left h];exact hi
   ·rw[List.getElem?_append_right (by omega)]at hi;rw[aE h,List.getElem?_set_ne (by omega),List.getElem?_append_right (by omega),show i+1-R.length=(i-R.length)+1 by omega];simpa using hi) (fun i j _ _ h=>by
   by_cases h1:i<R.length<;>by_cases h2:j<R.length<;>simp only[h1,h2,dO,if_false]at h<;>omega)
  have K2:=Gp K;exact K2.imp fun _ h=>⟨fun y hy=>by
   rcases bB.1 hy with rfl|hy
   ·exact h.2.1
   ·exact h.1 y hy,h.2.2⟩
def RetO(w:World)(x:Sd)(E:Int)(e:Ending)(w':World):Prop:=
 ∃a c L,L.map (·.u)=x.units/\e=.returned (.tuple #[Sg x a c,.int .i64 E])/\St (fun _=>False) [] w w' (.els Ba Ae 5 a c L::L.map agR) (DatR L)
theorem RetO.read{w w':World}{x:Sd}{E:Int}{e:Ending}(h:RetO w x E e w'):∃a c,e=.returned (.tuple #[Sg x a c,.int .i64 E])/\UnR w' a x.units/\Below w.heap.size w w':=by
 obtain⟨a,c,L,hL,he,H⟩:=h;have K:=Gp (R:=[.els Ba Ae 5 a c L]) H;refine⟨a,c,he,?_,H.below⟩;rw[<-hL];exact Nt (K.slE Bm (i:=0) rfl) K.get.2.out K.get.1
section
variable{l:Lk}{w:World}
theorem Aqo:Calls Tryz.prog Zh #[(.agg #[.int .i64 l.bits,.int .i64 l.every,.int .i64 l.poll,.int .i64 l.wait,.int .i64 l.quiet,.int .i64 l.tries])] w (RetO w (Aej l).1 (Aej l).2):=by
 apply Alf;have H:=St.nil w;refine H.alloc ?_;clear H;intro b w1 H1;refine H1.alloc ?_;clear H1;intro b1 w2 H2;refine⟨_,_,_,_,_,_,H2.cells (i:=0) rfl,?_⟩;refine sender_ValidLink_ct.mono ?_;rintro _ w3 ⟨rfl,hb3⟩;have H3:=H2.pass hb3;clear H2;refine⟨_,rfl,?_⟩;apply An<;>intro c
 ·refine H3.s 1 ?_;clear H3;intro w4 H4;refine⟨_,_,_,_,_,_,_,_,_,_,_,_,_,_,_,H4.cells (i:=1) rfl,?_⟩;refine⟨none,0,[],?_,?_,(H4.fin.nilE Ba Ae 5).imp fun _ _=>fun x hx=>by simp at hx⟩
  ·rw[Aej,aE c];rfl
  ·rw[Aej,aE c];rfl
 ·refine⟨_,_,_,_,_,_,H3.cells (i:=0) rfl,?_⟩;refine H3.s 1 ?_;clear H3;intro w5 H5;refine⟨_,_,_,_,_,_,_,_,_,_,_,_,_,_,_,H5.cells (i:=1) rfl,?_⟩;refine⟨none,0,[],?_,?_,(H5.fin.nilE Ba Ae 5).imp fun _ _=>fun x hx=>by simp at hx⟩
  ·rw[Aej,aF c];rfl
  ·rw[Aej,aF c];rfl
theorem Asw:Calls Tryz.prog Acj #[(.agg #[.int .i64 l.bits,.int .i64 l.every,.int .i64 l.poll,.int .i64 l.wait,.int .i64 l.quiet,.int .i64 l.tries])] w (RetO w (Aej l).1 (Aej l).2):=by
 apply Apf;have H:=St.nil w;refine H.alloc ?_;clear H;intro b w1 H1;refine H1.alloc ?_;clear H1;intro b1 w2 H2;refine⟨_,_,_,_,_,_,H2.cells (i:=0) rfl,?_⟩;refine ref20_ValidLink_ct.mono ?_;rintro _ w3 ⟨rfl,hb3⟩;have H3:=H2.pass hb3;clear H2;refine⟨_,rfl,?_⟩;apply An<;>intro c
 ·refine H3.s 1 ?_;clear H3;intro w4 H4;refine⟨_,_,_,_,_,_,_,_,_,_,_,_,_,_,_,H4.cells (i:=1) rfl,?_⟩;refine⟨none,0,[],?_,?_,(H4.fin.nilE Ba Ae 5).imp fun _ _=>fun x hx=>by simp at hx⟩
  ·rw[Aej,aE c];rfl
  ·rw[Aej,aE c];rfl
 ·refine⟨_,_,_,_,_,_,H3.cells (i:=0) rfl,?_⟩;refine H3.s 1 ?_;clear H3;intro w5 H5;refine⟨_,_,_,_,_,_,_,_,_,_,_,_,_,_,_,H5.cells (i:=1) rfl,?_⟩;refine⟨none,0,[],?_,?_,(H5.fin.nilE Ba Ae 5).imp fun _ _=>fun x hx=>by simp at hx⟩
  ·rw[Aej,aF c];rfl
  ·rw[Aej,aF c];rfl
end
theorem Aty{L:List UP}{s_a:Option Addr}{s_c:Nat}{w:World}(hs:SlR (CE Ba) 5 w s_a L)(hl:L.length<=1000000):Calls Tryz.prog Eg #[(.slice s_a L.length s_c)] w fun e w'=>∃ra rc,e=.returned (.slice ra L.length rc)/\Cg w w' [.els Ba Ae 5 ra rc L]:=by
 apply Mm;have H:=St.nil w;cases s_a with
 |none=>
  obtain rfl:L=[]:=by
   rcases hs with h|⟨b,hb,_⟩
   ·exact h
   ·cases hb
  exact⟨none,0,rfl,H.nilE Ba Ae 5⟩
 |some p=>
  refine Al (fun h=>by cases h) (fun _=>?_);refine H.alloc ?_;clear H;intro b w1 H1;have H1:=H1.litE Bm (i:=0) [] rfl (by decide);refine H1.appE Bm (i:=0) rfl Gh (hs.belowE H1.below) (by simp;omega) (by simp;omega) ?_;intro x_a x_c w2 H2;exact⟨x_a,x_c,rfl,H2⟩
end Go.Proofs.YtmbppohkadmjgaaGreat
namespace Go.Sx
open Go.RowKit

end Go.Sx
namespace Go.Proofs.YtmbppohkadmjgaaGreat
open Go.Sx Go.RowKit
set_option maxRecDepth 100000
def Bcx(w:World)(s:Sd)(e:Ending)(w':World):Prop:=
 ∃b ua uc L,L.map (·.u)=s.units/\e=.returned (.tuple #[.pointer (some ⟨b,0,none⟩),.int .i64 0])/\
  St (fun _=>False) [] w w' (.blk b Bb (Aq s ua uc)::.els Ba Ae 5 ua uc L::L.map agR) (DatR L)
def Cq(s:Sd):Int:=if s.okB=false then 1 else if s.failed=true then 16 else 0
def Bcd(w:World)(s:Sd)(e:Ending)(w':World):Prop:=
 (Cq s≠0/\e=.returned (.tuple #[.pointer none,.int .i64 (Cq s)])/\Below w.heap.size w w')\/(Cq s=0/\Bcx w s e w')
theorem My{s:Sd}{a:Option Addr}{c:Nat}{w:World}(hu:UnR w a s.units)(hl:SmU s.units):Calls Tryz.prog Hx #[Sg s a c] w (Bcd w s):=by
 apply Ag0;have H:=St.nil w;refine H.alloc ?_;clear H;intro b w1 H1;simp only[aC]at H1;refine⟨_,_,_,_,_,_,_,_,_,_,_,_,_,_,_,H1.cells (i:=0) rfl,?_⟩;refine(Aag (Cf hu H1.below) hl).mono ?_;rintro _ w2 ⟨rfl,hb2⟩;have H2:=H1.pass hb2;clear H1;replace H2:St (fun _=>False) [] w w2 [.blk b Ab (Aq s a c)] (fun _=>True):=H2;refine⟨_,rfl,?_⟩;apply Bq<;>intro c3
 ·have hE:Cq s=1:=by rw[Cq,aF c3]
  exact .inl ⟨by omega,by rw[hE],H2.below⟩
 refine H2.B 0 ?_;apply Al<;>intro c4
 ·have hE:Cq s=16:=by rw[Cq,aE (by rw[c3];decide),aF c4]
  exact .inl ⟨by omega,by rw[hE],H2.below⟩
 have hE:Cq s=0:=by rw[Cq,aE (by rw[c3];decide),aE (by rw[c4];decide)]
 obtain⟨⟨hf1,hf2⟩,-⟩:=Na c3;obtain⟨L0,hL0,hs0,hd0,hr0⟩:=Bce hu;have hlen:L0.length=s.units.length:=by rw[<-hL0,bC]
 refine H2.m 0 ?_;rw[<-hlen];refine(Aty (hs0.belowE H2.below) (by omega)).mono ?_;rintro _ w3 ⟨ua,uc,rfl,K3⟩;have H3:=H2.callR K3;clear H2;simp only[aD,aC]at H3;refine⟨_,_,_,rfl,?_⟩;refine H3.U 0 ?_;clear H3;intro w4 H4;simp only[aA]at H4;replace H4:St (fun _=>False) [] w w4 [.blk b Ab (Aq s ua uc),.els Ba Ae 5 ua uc L0] (fun _=>True):=by
  have e:(Aq s a c).set 8 (.slice ua L0.length uc)=Aq s ua uc:=by rw[hlen];rfl
  rw[e]at H4;exact H4
 refine H4.m 0 ?_;refine⟨fun x1=>((s.units.length-x1).toNat,fun w5=>∃(k:Nat) (L:List UP),x1=k/\k<=s.units.length/\L.map (·.u)=s.units/\L.drop k=L0.drop k/\
  St (fun _=>False) [] w w5 (.blk b Ab (Aq s ua uc)::.els Ba Ae 5 ua uc L::(L.take k).map agR) (DatR (L.take k))),
  ⟨0,L0,rfl,by omega,hL0,rfl,H4.imp fun _ _=>fun x hx=>by simp at hx⟩,?_⟩
 clear H4 K3;rintro _ x1 w5 ⟨k,L,rfl,hk,hL,hdr,H5⟩;have hlen5:L.length=s.units.length:=by rw[<-hL,bC]
 apply Aa<;>intro c1
 ·have hlt:k<L.length:=by omega
  have hlt0:k<L0.length:=by omega
  have hx0:L[k]=L0[k]:=by
   have h1:=aR hlt;have h2:=aR hlt0;rw[h1,h2]at hdr;injection hdr
  obtain⟨x,hx⟩:∃x,x=L[k]:=⟨_,rfl⟩;have hmem:x∈L0:=by rw[hx,hx0];exact aJ _
  have hmu:x.u∈s.units:=by rw[<-hL0];exact cZ.2 ⟨x,hmem,rfl⟩
  obtain⟨hfr,hfd⟩:=hf2 _ hmu;refine H5.m 0 ?_;obtain⟨g,rfl,hg1,hg2⟩:=H5.rowSome (i:=1) rfl (by omega);refine Jx ⟨by omega,by omega⟩ ?_;refine H5.drew ?_;clear H5;intro w6 H6;simp only[Baz];refine⟨fun p=>p∈[(⟨g,k*5+4,none⟩:Addr)],?_⟩;have c61:=H6.cellEl Bm (i:=1) rfl hlt (j:=1) (v:=.slice x.a x.u.data.length x.c) (by decide) (by rw[<-hx];rfl);have c64:=H6.cellEl Bm (i:=1) rfl hlt (j:=4) (v:=.slice x.a2 x.u.again.length x.c2) (by decide) (by rw[<-hx];rfl);refine⟨_,_,_,c61,?_⟩;refine⟨by simp,?_⟩;refine⟨_,_,_,c64,?_⟩;refine(Od ((hd0 x hmem).below H6.below) (by omega)).mono ?_;rintro _ w7 ⟨ra,rc,rfl,K7⟩;have H7:=(H6.callR K7).shareLast;refine⟨_,_,_,rfl,?_⟩;refine⟨Ajp c64 (H7.cellEl Bm (i:=1) rfl hlt (j:=4) (by decide) (by rw[<-hx];rfl)),?_⟩;refine(Sq ((hr0 x hmem).belowE H7.below) (by omega)).mono ?_;rintro _ w8 ⟨ra2,rc2,rfl,K8⟩;have H8:=H7.callR K8;simp only[aD]at H8;refine⟨_,_,_,rfl,?_⟩;refine⟨Ajp c64 (H8.cellEl Bm (i:=1) rfl hlt (j:=4) (by decide) (by rw[<-hx];rfl)),?_⟩;refine H8.setEl Bm (i:=1) rfl hlt (j:=1) (by decide) ⟨x.u,ra,rc,x.a2,x.c2⟩ (by rw[<-hx];rfl) ?_;intro w9 f9 H9;simp only[aB,aA]at H9;have hlt9:k<(L.set k ⟨x.u,ra,rc,x.a2,x.c2⟩).length:=by simpa using hlt
  refine⟨Ajp c64 (H9.cellEl Bm (i:=1) rfl hlt9 (j:=4) (by decide) (by simp;rfl)),?_⟩;refine H9.setEl Bm (i:=1) rfl hlt9 (j:=4) (by decide) ⟨x.u,ra,rc,ra2,rc2⟩ (by simp;rfl) ?_;intro w10 f10 H10;simp only[aB,aA]at H10;rw[cF]at H10;refine Ao (by omega) ?_;refine⟨⟨k+1,L.set k ⟨x.u,ra,rc,ra2,rc2⟩,by omega,by omega,?_,?_,?_⟩,by omega⟩
  ·rw[<-hL];apply cX (by simp);intro i h1 h2;simp only[eI,List.getElem_set];split
   ·rename_i h;subst h;rw[hx]
   ·rfl
  ·rw[Aip];have h1:=aR hlt;have h2:=aR hlt0;rw[h1,h2]at hdr;injection hdr
  ·rw[Ahg hlt,bD];exact H10.imp fun _ h=>fun y hy=>by
    rcases aW.1 hy with hy|hy
    ·exact h.2 y hy
    ·simp at hy;subst hy;exact⟨(Oj h.1).sl,Ah5 h.1⟩
 ·obtain rfl:k=s.units.length:=by omega
  rw[bY (by omega)]at H5;refine⟨_,_,_,_,_,_,_,_,_,_,_,_,_,_,_,H5.cells (i:=0) rfl,?_⟩;refine H5.alloc ?_;clear H5;intro b2 w11 H11;refine .inr ⟨hE,b2,ua,uc,L,hL,rfl,?_⟩;refine H11.sub (fun i=>if i=0 then L.length+2 else i) (fun i r hi=>?_) (fun i j hi hj h=>?_)
  ·rcases i with _|i
   ·simp at hi;subst hi;simp[Aq]
   ·rw[aE (by omega)];rw[aD,List.getElem?_cons_succ];rw[List.getElem?_cons_succ]at hi;rw[List.getElem?_append_left (List.getElem?_eq_some_iff.1 hi).1];exact hi
  ·simp at hi hj;by_cases h1:i=0<;>by_cases h2:j=0<;>simp only[h1,h2,dO,if_false]at h<;>omega
end Go.Proofs.YtmbppohkadmjgaaGreat
namespace Go.Sx
open Go.RowKit
section
variable{A0:Nat->Prop}{M:List Nat}{w0 w:World}{R:List Res}{P:World->Prop}{i:Nat}{t e t0:TypeId}{sz c bytes g:Nat}{a:Option Addr}{z:Value}{Pr:Program}{α:Type}{enc:α->List Value}{ys:List α}
end
def Lj(s:Sd)(d:List Int)(E0:Int):Sd×Int:=
 if E0≠0 then (.zero,E0) else if ¬(1<=d.length/\d.length<=2054) then (.zero,2) else if s.place s.next=2^(s.lk.bits-1).toNat then (.zero,13)
 else ({ s with units:=s.units++[⟨s.next,d,0,0,[]⟩],next:=(s.next+1)%2^s.lk.bits.toNat },0)
end Go.Sx
namespace Go.Proofs.YtmbppohkadmjgaaGreat
open Go.Sx Go.RowKit
set_option maxRecDepth 100000
theorem Ahj{w w':World}{R:List Res}{P:World->Prop}{x:Sd}{a:Option Addr}{c b1:Nat}{L:List UP}{E:Int}{cs:List Value}{i:Nat}(H:St (fun _=>False) [] w w' R P)(hi:R[i]?=some (.blk b1 Ab cs))(hl:cs.length=13)
 (hL:L.map (·.u)=x.units) (hK:∀w4,St (fun _=>False) [] w w4 (R.set i (.blk b1 Ab (Aq x a c))) P->St (fun _=>False) [] w w4 (.els Ba Ae 5 a c L::L.map agR) (DatR L)):
 Ad w' ⟨b1,0,none⟩ 0 (Aq x a c) fun w4=>
  ∃r_0 r_1 r_2 r_3 r_4 r_5 r_6 r_7:Int,∃r_8_a:Option Addr,∃r_8_l r_8_c:Nat,∃r_9 r_10 r_11:Int,∃r_12:Bool,
   cellsAt w4 ⟨b1,0,none⟩ 0 [(.int .i64 r_0),(.int .i64 r_1),(.int .i64 r_2),(.int .i64 r_3),(.int .i64 r_4),(.int .i64 r_5),(.int .i64 r_6),(.int .i64 r_7),(.slice r_8_a r_8_l r_8_c),(.int .i64 r_9),(.int .i64 r_10),(.int .i64 r_11),(.bool r_12)]/\
   RetO w x E (.returned (.tuple #[(.agg #[.int .i64 r_0,.int .i64 r_1,.int .i64 r_2,.int .i64 r_3,.int .i64 r_4,.int .i64 r_5,.int .i64 r_6,.int .i64 r_7,.slice r_8_a r_8_l r_8_c,.int .i64 r_9,.int .i64 r_10,.int .i64 r_11,.bool r_12]),(.int .i64 E)])) w4:=by
 refine H.store hi (by rw[hl];rfl) (by rfl) ?_;intro w4 H4;have hi4:(R.set i (.blk b1 Ab (Aq x a c)))[i]?=some (.blk b1 Ab (Aq x a c)):=by
  have:=(List.getElem?_eq_some_iff.1 hi).1;simp[this]
 refine⟨_,_,_,_,_,_,_,_,_,_,_,_,_,_,_,H4.cells hi4,?_⟩;exact⟨a,c,L,hL,rfl,hK w4 H4⟩
theorem Ab0{w w':World}{R:List Res}{P:World->Prop}{b1:Nat}{E:Int}{cs:List Value}{i:Nat}(H:St (fun _=>False) [] w w' R P)(hi:R[i]?=some (.blk b1 Ab cs))(hl:cs.length=13):Ad w' ⟨b1,0,none⟩ 0 (Aq .zero none 0) fun w4=>
  ∃r_0 r_1 r_2 r_3 r_4 r_5 r_6 r_7:Int,∃r_8_a:Option Addr,∃r_8_l r_8_c:Nat,∃r_9 r_10 r_11:Int,∃r_12:Bool,
   cellsAt w4 ⟨b1,0,none⟩ 0 [(.int .i64 r_0),(.int .i64 r_1),(.int .i64 r_2),(.int .i64 r_3),(.int .i64 r_4),(.int .i64 r_5),(.int .i64 r_6),(.int .i64 r_7),(.slice r_8_a r_8_l r_8_c),(.int .i64 r_9),(.int .i64 r_10),(.int .i64 r_11),(.bool r_12)]/\
   RetO w .zero E (.returned (.tuple #[(.agg #[.int .i64 r_0,.int .i64 r_1,.int .i64 r_2,.int .i64 r_3,.int .i64 r_4,.int .i64 r_5,.int .i64 r_6,.int .i64 r_7,.slice r_8_a r_8_l r_8_c,.int .i64 r_9,.int .i64 r_10,.int .i64 r_11,.bool r_12]),(.int .i64 E)])) w4:=
 Ahj (L:=[]) H hi hl rfl fun w4 H4=>(H4.fin.nilE Ba Ae 5).imp fun _ _=>fun x hx=>by simp at hx
theorem Xl{s:Sd}{a:Option Addr}{c:Nat}{da:Option Addr}{dc:Nat}{d:List Int}{w:World}(hu:UnR w a s.units)(hl:SmU s.units)(hd:SlR (Bp .u8) 1 w da d):Calls Tryz.prog Ng #[Sg s a c,.slice da d.length dc] w (RetO w (Lj s d (Cq s)).1 (Lj s d (Cq s)).2):=by
 apply Af7;have H:=St.nil w;refine H.alloc ?_;clear H;intro b0 w1 H1;refine H1.alloc ?_;clear H1;intro b1 w2 H2;simp only[aD,aC]at H2;refine⟨_,_,_,_,_,_,_,_,_,_,_,_,_,_,_,H2.cells (i:=0) rfl,?_⟩;refine(My (Cf hu H2.below) hl).mono ?_;rintro _ w3 (⟨hE,rfl,hb3⟩|⟨hE,b,ua,uc,L,hL,rfl,K3⟩)
 ·have H3:=H2.pass hb3;clear H2;refine⟨_,_,rfl,?_⟩;refine Aw ?_;refine An (fun _=>?_) (fun h=>absurd h hE);rw[Lj,aF hE];exact Ab0 H3 (i:=1) rfl rfl
 have H3:=H2.callF K3;clear H2;simp only[aD,aC]at H3;refine⟨_,_,rfl,?_⟩;refine Aw ?_;refine An (fun h=>absurd rfl h) (fun _=>?_);obtain⟨hok,hfa⟩:s.okB=true/\s.failed=false:=by
  unfold Cq at hE;split at hE
  ·omega
  ·split at hE
   ·omega
   ·rename_i h1 h2;exact⟨by simpa using h1,by simpa using h2⟩
 obtain⟨⟨hf1,hf2⟩,hlk,hsf,hsn,hall⟩:=Na hok;have hlen:L.length=s.units.length:=by rw[<-hL,bC]
 have hb:=hlk.1;have hp:=Cm hb;have hb':=hb;obtain⟨hb1,hb2⟩:=hb';refine sender_between_ct.mono ?_;rintro _ w5 ⟨rfl,hb5⟩;have H5:=H3.pass hb5;clear H3;refine⟨_,rfl,?_⟩;apply An<;>intro c1
 ·rw[Lj,aE (by omega),aF (by omega)];exact Ab0 H5 (i:=1) rfl rfl
 refine H5.drew ?_;clear H5;intro w7 H7;have hside:∀ {w':World},St (fun _=>False) [] w w' (.blk b0 Ab (Aq s a c)::.blk b1 Ab (Aq .zero none 0)::.blk b Bb (Aq s ua uc)::.els Ba Ae 5 ua uc L::L.map agR) (fun w=>DatR L w/\True)->SdC w' b 0 s:=fun H=>by
  refine⟨ua,uc,H.cells (i:=2) rfl,?_⟩;have K:=Gp (R:=[.blk b0 Ab (Aq s a c),.blk b1 Ab (Aq .zero none 0),.blk b Bb (Aq s ua uc),.els Ba Ae 5 ua uc L]) H;rw[<-hL];exact Nt (K.slE Bm (i:=3) rfl) K.get.2.1.out K.get.1
 refine⟨(· <w7.heap.size),?_⟩;have c7:=H7.cells (i:=2) rfl;refine⟨_,by rw[Bd];exact lq (j:=7) c7 rfl,?_⟩;refine⟨H7.lt (i:=2) rfl rfl,?_⟩;refine⟨_,lq (j:=0) c7 rfl,?_⟩;refine Ao (by omega) ?_;refine⟨by omega,?_⟩;refine Kv (by omega) ?_;refine(Ea (hside H7) hb).mono ?_;rintro _ w8 ⟨rfl,hb8⟩;have H8:=H7.pass hb8;refine⟨_,rfl,?_⟩;refine⟨hb8.keeps,?_⟩;refine Aw ?_;apply Aa<;>intro c
 ·rw[Lj,aE (by omega),aE (by omega),aF c];exact Ab0 H8 (i:=1) rfl rfl
 rw[Lj,aE (by omega),aE (by omega),aE c];clear H7;refine H8.drew ?_;clear H8;intro w10 H10;refine⟨(· =b),?_⟩;have c10:=H10.cells (i:=2) rfl;refine⟨rfl,?_⟩;refine⟨_,_,_,by rw[Bd];exact lq (j:=8) c10 rfl,?_⟩;refine⟨rfl,?_⟩;refine⟨_,by rw[Bd];exact lq (j:=7) c10 rfl,?_⟩;refine(Od (hd.below H10.below) (by omega)).mono ?_;rintro _ w11 ⟨ra,rc,rfl,K11⟩;have H11:=(H10.callR K11).shareLast;refine⟨_,_,_,rfl,?_⟩;refine⟨Dt H10 H11 (i:=2) (j:=2) rfl rfl,?_⟩;refine⟨Dt H10 H11 (i:=2) (j:=2) rfl rfl,?_⟩;refine H11.alloc ?_;intro b2 w12 H12;refine⟨Dt H10 H12 (i:=2) (j:=2) rfl rfl,?_⟩;rw[<-hlen];refine H12.appEL [UP.mk (Un.mk s.next d 0 0 []) ra rc none 0] Bm (i:=3) rfl Gh rfl (by simp;omega) (by simp;omega) ?_;intro x_a1 x_c1 w13 H13;obtain⟨nw,hnw⟩:∃nw:UP,nw=UP.mk (Un.mk s.next d 0 0 []) ra rc none 0:=⟨_,rfl⟩;rw[<-hnw]at H13 ⊢;rw[show (L++[nw]).length=(s.units++[Un.mk s.next d 0 0 []]).length by simp[hlen]];simp only[aB,aA]at H13;refine⟨Dt H10 H13 (i:=2) (j:=2) rfl rfl,?_⟩;refine Bk ?_;rw[Bd];refine H13.U 2 ?_;clear H13 H12 H11 H10;intro w14 H14;simp only[aB,aA]at H14;refine H14.drew ?_;clear H14;intro w15 H15;have c15:=H15.cells (i:=2) rfl;refine⟨(· =b),?_⟩;refine⟨_,lq (j:=0) c15 rfl,?_⟩;refine⟨_,by rw[Bd];exact lq (j:=7) c15 rfl,?_⟩;have hsn':=hsn;unfold Bt at hsn';refine Ao (by omega) ?_;refine serial_Low_ct.mono ?_;rintro _ w16 ⟨rfl,hb16⟩;have H16:=H15.pass hb16;refine⟨_,rfl,?_⟩;refine⟨Dt H15 H16 (i:=2) (j:=2) rfl rfl,?_⟩;rw[aF (by omega)];refine Bk ?_;rw[Bd];refine H16.U 2 ?_;clear H16 H15;intro w17 H17;simp only[aB,aA]at H17;refine⟨_,_,_,_,_,_,_,_,_,_,_,_,_,_,_,H17.cells (i:=2) rfl,?_⟩;refine Ahj (x:={ s with units:=s.units++[⟨s.next,d,0,0,[]⟩],next:=(s.next+1)%2^s.lk.bits.toNat }) (a:=x_a1) (c:=x_c1) (L:=L++[nw]) (i:=1) H17 rfl rfl (by rw[bD,hL,hnw];rfl) fun w4 H4=>?_;have H5:=H4.nilE Bn Af 3;have e:(Res.els Bn Af 3 none 0 []:Res)=agR nw:=by rw[hnw];rfl
 rw[e]at H5;have H6:=H5.sub (R':=.els Ba Ae 5 x_a1 x_c1 (L++[nw])::(L++[nw]).map agR) (fun i=>i+3) (fun i r hi=>by rw[bD]at hi;exact hi) (fun i j _ _ h=>by omega);exact H6.imp fun _ h=>fun y hy=>by
  rcases aW.1 hy with hy|hy
  ·exact h.2.1 y hy
  ·simp at hy;subst hy;rw[hnw];exact⟨(Oj h.1).sl,Ah5 h.1⟩
end Go.Proofs.YtmbppohkadmjgaaGreat
namespace Go.Sx
open Go.RowKit
section
variable{A0:Nat->Prop}{M:List Nat}{w0 w:World}{R:List Res}{P:World->Prop}{t e:TypeId}{sz bytes:Nat}{z:Value}{Pr:Program}{α:Type}{enc:α->List Value}
end
end Go.Sx
namespace Go.Proofs.YtmbppohkadmjgaaGreat
open Go.Sx Go.RowKit
set_option maxRecDepth 100000
def Bc6(w:World)(x:Sd)(e:Ending)(w':World):Prop:=
 ∃a c L,L.map (·.u)=x.units/\e=.returned (Sg x a c)/\St (fun _=>False) [] w w' (.els Ba Ae 5 a c L::L.map agR) (DatR L)
theorem Mx{s:Sd}{a:Option Addr}{c:Nat}{w:World}(hu:UnR w a s.units)(hf:Bch s.units):Calls Tryz.prog Je #[Sg s a c] w (Bc6 w s):=by
 apply Al0;obtain⟨hf1,hf2⟩:=hf;have H:=St.nil w;refine H.alloc ?_;clear H;intro b w1 H1;refine H1.alloc ?_;clear H1;intro b1 w2 H2;simp only[aD,aC]at H2;refine⟨_,_,_,_,_,_,_,_,_,_,_,_,_,_,_,H2.cells (i:=0) rfl,?_⟩;refine H2.alloc ?_;clear H2;intro b2 w3 H3;simp only[aD,aC]at H3;refine H3.s 2 ?_;clear H3;intro w4 H4;simp only[aB,aA]at H4;refine H4.U 2 ?_;clear H4;intro w5 H5;simp only[aB,aA]at H5;have H5:=H5.nilE Ba Ae 5;simp only[aD,aC]at H5;refine⟨fun i=>((s.units.length-i).toNat,fun w6=>∃(k:Nat) (L:List UP) (ra:Option Addr) (rc:Nat),i=k/\k<=s.units.length/\L.map (·.u)=s.units.take k/\
  St (fun _=>False) [] w w6 (.blk b Ab (Aq s a c)::.blk b1 Ab (Aq .zero none 0)::.blk b2 Ab (Aq { s with units:=s.units.take k } ra rc)::.els Ba Ae 5 ra rc L::L.map agR) (DatR L)),
  ⟨0,[],none,0,rfl,by omega,rfl,H5.imp fun _ _=>fun x hx=>by simp at hx⟩,?_⟩
 clear H5;rintro _ i w6 ⟨k,L,ra,rc,rfl,hk,hL,H6⟩;have hlen:L.length=(s.units.take k).length:=by rw[<-hL,bC]
 have hlen':L.length=k:=by rw[hlen,aU];omega
 refine H6.m 0 ?_;apply Aa<;>intro c1
 ·have hlt:k<s.units.length:=by omega
  refine H6.m 0 ?_;refine ixU (Cf hu H6.below) k rfl hlt fun b3 hb3=>?_;obtain⟨u,hue⟩:∃u,u=s.units[k]:=⟨_,rfl⟩;rw[<-hue]at hb3;have hmu:u∈s.units:=by rw[hue];exact aJ _
  obtain⟨hfr,hfd⟩:=hf2 u hmu;obtain⟨a1,c1',a2,c2,hb3,hd,hr⟩:=hb3;refine⟨_,_,_,_,_,_,_,_,_,hb3,?_⟩;have K:=St.nil w6;refine K.alloc ?_;clear K;intro b4 w7 K7;simp only[aC]at K7;refine K7.s 0 ?_;clear K7;intro w8 K8;simp only[aA]at K8;refine K8.m 0 ?_;refine K8.appNew sl_Ty_S_uint8 (hd.below K8.below) (by omega) (by omega) ?_;intro da dc w9 K9;have K9:=K9.shareLast;clear K8;refine K9.U 0 ?_;clear K9;intro w10 K10;simp only[aA]at K10;refine K10.m 0 ?_;refine K10.appNewE Br Bo (hr.belowE K10.below) (by omega) (by omega) ?_;intro qa qc w11 K11;simp only[aD,aC]at K11;refine K11.U 0 ?_;clear K11 K10;intro w12 K12;simp only[aA]at K12;obtain⟨nw,hnw⟩:∃nw:UP,nw=UP.mk u da dc qa qc:=⟨_,rfl⟩;replace K12:St (fun _=>False) [] w6 w12 [.blk b4 Ae (Ba nw),agR nw] (fun w=>(Res.ints Az .u8 da dc u.data).ok w/\True):=by rw[hnw];exact K12
  have H12:=H6.callF (K12.sub (R':=[agR nw]) (fun i=>i+1) (fun i r hi=>by simpa using hi) (fun i j _ _ h=>by omega));simp only[aD]at H12;refine H12.m 2 ?_;have c12:=K12.cells (i:=0) rfl;rw[hnw]at c12;refine⟨_,_,_,_,_,_,_,_,_,c12,?_⟩;refine H12.alloc ?_;clear H12 K12;intro b5 w13 H13;rw[<-hlen];have e13:[(Value.int .i64 u.sn),(.slice da u.data.length dc),(.int .i64 u.sent),(.int .i64 u.tries),(.slice qa u.again.length qc)]=[nw].flatMap Ba:=by rw[hnw];rfl
  replace H13:St (fun _=>False) [] w w13 ((.blk b Ab (Aq s a c)::.blk b1 Ab (Aq .zero none 0)::.blk b2 Ab (Aq { s with units:=s.units.take k } ra rc)::.els Ba Ae 5 ra rc L::(L.map agR++[agR nw]))++[.blk b5 Ae ([nw].flatMap Ba)]) (fun w=>((Res.ints Az .u8 da dc u.data).ok w/\True)/\DatR L w):=by rw[<-e13];exact H13
  refine H13.appEL [nw] Bm (i:=3) rfl Gh rfl (by simp;omega) (by simp;omega) ?_;intro x_a x_c w14 H14;simp only[aB,aA]at H14;have hn:(s.units.take (k+1))=s.units.take k++[u]:=by rw[cA hlt,<-hue]
  rw[show (L++[nw]).length=(s.units.take (k+1)).length by rw[hn,aP,aP,hlen];rfl];refine H14.U 2 ?_;clear H14 H13;intro w15 H15;simp only[aB,aA]at H15;refine Ao (by omega) ?_;refine⟨⟨k+1,L++[nw],x_a,x_c,by omega,by omega,?_,?_⟩,by first|omega|(dsimp only;omega)⟩
  ·rw[bD,hL,hn,hnw];rfl
  ·rw[bD];exact H15.imp fun _ h=>fun y hy=>by
    rcases aW.1 hy with hy|hy
    ·exact h.2 y hy
    ·simp at hy;subst hy;rw[hnw];exact⟨(Oj h.1.1).sl,Ah5 h.1.1⟩
 ·obtain rfl:k=s.units.length:=by omega
  rw[bI]at H6 hL;refine⟨_,_,_,_,_,_,_,_,_,_,_,_,_,_,_,H6.cells (i:=2) rfl,?_⟩;refine H6.s 1 ?_;clear H6;intro w16 H16;simp only[aB,aA]at H16;refine⟨_,_,_,_,_,_,_,_,_,_,_,_,_,_,_,H16.cells (i:=1) rfl,?_⟩;refine⟨ra,rc,L,hL,rfl,?_⟩;exact H16.sub (fun i=>i+3) (fun i r hi=>hi) (fun i j _ _ h=>by omega)
end Go.Proofs.YtmbppohkadmjgaaGreat
namespace Go.Sx
open Go.RowKit

end Go.Sx
namespace Go.Proofs.YtmbppohkadmjgaaGreat
open Go.Sx Go.RowKit
set_option maxRecDepth 100000
theorem Aaj{s:Sd}{a:Option Addr}{c:Nat}{da:Option Addr}{dc:Nat}{d:List Int}{w:World}(hu:UnR w a s.units)(hl:SmU s.units)(hd:SlR (Bp .u8) 1 w da d):Calls Tryz.prog Pu #[Sg s a c,.slice da d.length dc] w (RetO w (Lj s d (Cq s)).1 (Lj s d (Cq s)).2):=by
 apply Ah8;have H:=St.nil w;refine H.alloc ?_;clear H;intro b w1 H1;refine H1.alloc ?_;clear H1;intro b1 w2 H2;simp only[aD,aC]at H2;refine⟨_,_,_,_,_,_,_,_,_,_,_,_,_,_,_,H2.cells (i:=0) rfl,?_⟩;refine(Pz (Cf hu H2.below) hl).mono ?_;rintro _ w3 ⟨rfl,hb3⟩;have H3:=H2.pass hb3;clear H2;replace H3:St (fun _=>False) [] w w3 [.blk b Ab (Aq s a c),.blk b1 Ab (Aq .zero none 0)] (fun _=>True):=H3;refine⟨_,rfl,?_⟩;apply Bq<;>intro c4
 ·have hE:Cq s=1:=by rw[Cq,aF c4]
  rw[Lj,aF (by omega),hE];exact Ab0 H3 (i:=1) rfl rfl
 refine H3.B 0 ?_;apply Al<;>intro c3
 ·have hE:Cq s=16:=by rw[Cq,aE (by rw[c4];decide),aF c3]
  rw[Lj,aF (by omega),hE];exact Ab0 H3 (i:=1) rfl rfl
 have hE:Cq s=0:=by rw[Cq,aE (by rw[c4];decide),aE (by rw[c3];decide)]
 obtain⟨hfit,hlk,hsf,hsn,hall⟩:=Na c4;have hf1:=hfit.1;have hb:=hlk.1;have hp:=Cm hb;have hb':=hb;obtain⟨hb1,hb2⟩:=hb';have hsn':=hsn;unfold Bt at hsn';refine⟨fun x2 w6=>St (fun _=>False) [] w w6 [.blk b Ab (Aq s a c),.blk b1 Ab (Aq .zero none 0)] (fun _=>True)/\(x2=true↔¬(1<=d.length/\d.length<=2054)),?_,?_⟩
 ·rintro _ x2 w6 ⟨H6,hj⟩;apply Al<;>intro c2
  ·rw[Lj,aE (by omega),aF (hj.1 c2)];exact Ab0 H6 (i:=1) rfl rfl
  have hdl:1<=d.length/\d.length<=2054:=Decidable.byContradiction fun h=>by rw[hj.2 h]at c2;cases c2
  refine H6.drew ?_;clear H6;intro w8 H8;refine⟨(· <w8.heap.size),?_⟩;refine H8.l 0 ?_;refine H8.l 0 ?_;refine H8.l 0 ?_;refine⟨H8.lt (i:=0) rfl rfl,?_⟩;refine H8.l 0 ?_;refine Ao (by omega) ?_;refine Pk (by omega) ?_;refine⟨by omega,?_⟩;refine Kv (by omega) ?_;refine(Fe hb).mono ?_;rintro _ w9 ⟨rfl,hb9⟩;have H9:=H8.pass hb9;refine⟨_,rfl,?_⟩;refine⟨hb9.keeps,?_⟩;refine Aw ?_;apply Aa<;>intro c1
  ·rw[Lj,aE (by omega),aE (by omega),aF c1];exact Ab0 H9 (i:=1) rfl rfl
  rw[Lj,aE (by omega),aE (by omega),aE c1];refine⟨_,_,_,_,_,_,_,_,_,_,_,_,_,_,_,H9.cells (i:=0) rfl,?_⟩;refine(Mx (Cf hu H9.below) hfit).mono ?_;rintro _ w11 ⟨ra,rc,L,hL,rfl,K11⟩;have H11:=H9.callF K11;clear H9 H8;have hlen:L.length=s.units.length:=by rw[<-hL,bC]
  refine⟨_,_,_,_,_,_,_,_,_,_,_,_,_,_,_,rfl,?_⟩;refine H11.alloc ?_;clear H11;intro b2 w12 H12;have H12:=H12.lastTo;simp only[aD,aC]at H12;refine H12.s 2 ?_;clear H12;intro w13 H13;simp only[aB,aA]at H13;refine H13.drew ?_;clear H13;intro w14 H14;refine⟨fun x=>x=b2\/x=b,?_⟩;refine⟨.inl rfl,?_⟩;refine H14.m 2 ?_;refine⟨.inr rfl,?_⟩;refine H14.l 0 ?_;refine H14.appNew sl_Ty_S_uint8 (hd.below H14.below) (by omega) (by omega) ?_;intro qa qc w15 H15;have H15:=H15.shareLast;refine⟨Amz (Dt H14 H15 (i:=2) (j:=2) rfl rfl) (Dt H14 H15 (i:=0) (j:=0) rfl rfl),?_⟩;refine⟨Amz (Dt H14 H15 (i:=2) (j:=2) rfl rfl) (Dt H14 H15 (i:=0) (j:=0) rfl rfl),?_⟩;refine H15.alloc ?_;intro b3 w16 H16;refine⟨Amz (Dt H14 H16 (i:=2) (j:=2) rfl rfl) (Dt H14 H16 (i:=0) (j:=0) rfl rfl),?_⟩;rw[<-hlen];refine H16.appEL [UP.mk (Un.mk s.next d 0 0 []) qa qc none 0] Bm (i:=3) rfl Gh rfl (by simp;omega) (by simp;omega) ?_;intro x_a1 x_c1 w17 H17;obtain⟨nw,hnw⟩:∃nw:UP,nw=UP.mk (Un.mk s.next d 0 0 []) qa qc none 0:=⟨_,rfl⟩;rw[<-hnw]at H17 ⊢;rw[show (L++[nw]).length=(s.units++[Un.mk s.next d 0 0 []]).length by simp[hlen]];simp only[aB,aA]at H17;refine⟨Amz (Dt H14 H17 (i:=2) (j:=2) rfl rfl) (Dt H14 H17 (i:=0) (j:=0) rfl rfl),?_⟩;refine H17.U 2 ?_;clear H17 H16 H15 H14;intro w18 H18;simp only[aB,aA]at H18;refine H18.l 0 ?_;refine H18.l 0 ?_;refine Ao (by omega) ?_;refine ref02_Low_ct.mono ?_;rintro _ w19 ⟨rfl,hb19⟩;have H19:=H18.pass hb19;clear H18;refine⟨_,rfl,?_⟩;rw[aF (by omega)];refine H19.U 2 ?_;clear H19;intro w20 H20;simp only[aB,aA]at H20;refine⟨_,_,_,_,_,_,_,_,_,_,_,_,_,_,_,H20.cells (i:=2) rfl,?_⟩;refine Ahj (x:={ s with units:=s.units++[⟨s.next,d,0,0,[]⟩],next:=(s.next+1)%2^s.lk.bits.toNat }) (a:=x_a1) (c:=x_c1) (L:=L++[nw]) (i:=1) H20 rfl rfl (by rw[bD,hL,hnw];rfl) fun w4 H4=>?_;have H5:=H4.nilE Bn Af 3;have e:(Res.els Bn Af 3 none 0 []:Res)=agR nw:=by rw[hnw];rfl
  rw[e]at H5;have H6:=H5.sub (R':=.els Ba Ae 5 x_a1 x_c1 (L++[nw])::(L++[nw]).map agR) (fun i=>i+3) (fun i r hi=>by rw[bD]at hi;exact hi) (fun i j _ _ h=>by omega);exact H6.imp fun _ h=>fun y hy=>by
   rcases aW.1 hy with hy|hy
   ·exact h.2.1 y hy
   ·simp at hy;subst hy;rw[hnw];exact⟨(Oj h.1).sl,Ah5 h.1⟩
 ·apply Aa<;>intro c
  ·exact⟨H3,cP rfl (by omega)⟩
  ·refine Aw ?_;exact⟨H3,by rw[aV];omega⟩
end Go.Proofs.YtmbppohkadmjgaaGreat
namespace Go.Sx
def Up(u:Un):Bool:=decide (0<u.again.length)
def Ly(u:Un):Bool:=!decide (Ef u)
def Ej(L:List Un):Int:=if idx Up L>=0 then idx Up L else idx Ly L
def Dc(u:Un):Rg:=match u.again with|r::_=>r| []=>⟨u.sn,u.sent,u.data.length⟩
theorem Aix{α:Type}{p:α->Bool}{l:List α}(h:0<=idx p l):∃(k:Nat) (hk:k<l.length),idx p l=k/\p l[k]=true:=by
 unfold idx at h ⊢;cases hf:l.findIdx? p with
 |none=>rw[hf]at h;simp at h
 |some i=>
  obtain⟨hi,hp,_⟩:=List.findIdx?_eq_some_iff_getElem.1 hf;exact⟨i,hi,rfl,hp⟩
theorem Apc{L:List Un}(h:0<=Ej L):∃(k:Nat) (hk:k<L.length),Ej L=k:=by
 unfold Ej at h ⊢;split at h
 ·rename_i h1;obtain⟨k,hk,e,_⟩:=Aix h1;exact⟨k,hk,by rw[aF h1,e]⟩
 ·rename_i h1;obtain⟨k,hk,e,_⟩:=Aix h;exact⟨k,hk,by rw[aE h1,e]⟩
end Go.Sx
namespace Go.Proofs.YtmbppohkadmjgaaGreat
open Go.Sx Go.RowKit
set_option maxRecDepth 100000
section
variable{u:Un}{a1 a2:Option Addr}{c1 c2:Nat}{w:World}
theorem Aa8:Calls Tryz.prog Hg #[Am2 u a1 c1 a2 c2] w fun e w'=>e=.returned (.bool (Up u))/\Below w.heap.size w w':=by
 apply Xq;have H:=St.nil w;refine H.alloc ?_;clear H;intro b w1 H1;refine H1.m 0 ?_;refine Aw ?_;exact⟨Nq (by omega),H1.below⟩
theorem Abc:Calls Tryz.prog Ha #[Am2 u a1 c1 a2 c2] w fun e w'=>e=.returned (.bool (Ly u))/\Below w.heap.size w w':=by
 apply Ww;have H:=St.nil w;refine H.alloc ?_;clear H;intro b w1 H1;refine⟨_,_,_,_,_,_,_,_,_,H1.cells (i:=0) rfl,?_⟩;refine sender_whole_ct.mono ?_;rintro _ w2 ⟨rfl,hb2⟩;exact⟨_,rfl,rfl,(H1.pass hb2).below⟩
end
theorem Mf{s:Sd}{b o:Nat}{w:World}(hs:SdC w b o s)(hl:s.units.length<=140737488355328):Calls Tryz.prog Gi #[(.pointer (some ⟨b,o,none⟩))] w fun e w'=>e=.returned (.int .i64 (Ej s.units))/\Below w.heap.size w w':=by
 apply Aaw;have H:=St.nil w;obtain⟨a,c,hc,hu⟩:=hs;refine⟨_,_,_,lq (j:=8) hc rfl,?_⟩;refine(Wg hu hl Up (ff:=#[]) (fc:=#[]) (g:=Hg) (by kernel_rfl) fun w' u a1 c1 a2 c2 _ _=>?_).mono ?_
 ·have h:=@Aa8 u a1 a2 c1 c2 w';exact h
 rintro _ w1 ⟨rfl,hb1⟩;have H1:=H.pass hb1;clear H;refine⟨_,rfl,?_⟩;apply Aa<;>intro c
 ·exact⟨by rw[Ej,aF c],H1.below⟩
 ·refine⟨_,_,_,lq (j:=8) (Av hc H1.below) rfl,?_⟩;refine(Wg (Cf hu H1.below) hl Ly (ff:=#[]) (fc:=#[]) (g:=Ha) (by kernel_rfl) fun w' u a1 c1 a2 c2 _ _=>?_).mono ?_
  ·have h:=@Abc u a1 a2 c1 c2 w';exact h
  rintro _ w2 ⟨rfl,hb2⟩;have H2:=H1.pass hb2;clear H1;refine⟨_,rfl,?_⟩;exact⟨by rw[Ej,aE c],H2.below⟩
def Bcr(L:List Un)(e:Ending):Prop:=(Ej L<0/\e=.returned (.tuple #[.int .i64 0,.int .i64 0,.int .i64 0,.bool false]))\/
 ∃(k:Nat) (hk:k<L.length),Ej L=k/\e=.returned (.tuple #[.int .i64 k,.int .i64 (Dc L[k]).f,.int .i64 (Dc L[k]).t,.bool true])
theorem Aff{s:Sd}{a:Option Addr}{c:Nat}{w:World}(hu:UnR w a s.units)(hl:s.units.length<=140737488355328)(hse:∀u∈s.units,u.sent<=u.data.length):Calls Tryz.prog Sr #[Sg s a c] w fun e w'=>Bcr s.units e/\Below w.heap.size w w':=by
 apply Ama;have H:=St.nil w;refine H.alloc ?_;clear H;intro b w1 H1;simp only[aC]at H1;replace H1:St (fun _=>False) [] w w1 [.blk b Ab (Aq s a c)] (fun _=>True):=H1;refine⟨fun i=>((s.units.length-i).toNat,fun w2=>∃k:Nat,i=k/\k<=s.units.length/\(∀j (hj:j<s.units.length),j<k->Up s.units[j]=false)/\St (fun _=>False) [] w w2 [.blk b Ab (Aq s a c)] (fun _=>True)),
  ⟨0,rfl,by omega,fun j _ h=>by omega,H1⟩,?_⟩
 clear H1;rintro _ i w2 ⟨k,rfl,hk,hno,H2⟩;refine H2.m 0 ?_;apply Aa<;>intro c3
 ·have hlt:k<s.units.length:=by omega
  refine H2.m 0 ?_;refine ixU (Cf hu H2.below) k rfl hlt fun b1 hb1=>?_;obtain⟨a1,c1,a2,c2,hb1,_,_⟩:=hb1;have g4:=Bc hb1 4 _ rfl;rw[aN]at g4;refine⟨_,_,_,g4,?_⟩;apply Aa<;>intro c
  ·have hak:Up s.units[k]=true:=aM (by omega);have hix:=Acg hlt hno hak;refine H2.m 0 ?_;refine ixU (Cf hu H2.below) k rfl hlt fun b2 hb2=>?_;obtain⟨a3,c3,a4,c4,hb2,_,hr2⟩:=hb2;have g4:=Bc hb2 4 _ rfl;rw[aN]at g4;refine⟨_,_,_,g4,?_⟩;refine ixE hr2 0 rfl (by omega) fun b3 r hr hb3=>?_;have hr3:=hb3;refine⟨_,_,_,hb3,?_⟩;refine H2.alloc ?_;clear H2;intro b4 w3 H3;refine H3.s 1 ?_;clear H3;intro w4 H4;refine H4.drew ?_;clear H4;intro w5 H5;refine H5.l 1 ?_;refine H5.l 1 ?_;refine⟨.inr ⟨k,hlt,?_,?_⟩,H5.below⟩
   ·rw[Ej,aF (by rw[hix];omega),hix]
   ·have hp:Dc s.units[k]=r:=by
     unfold Dc;cases h:s.units[k].again with
     |nil=>rw[h]at c;simp at c
     |cons x l=>rw[h]at hr;simp at hr;exact hr
    rw[hp]
  ·refine Ao (by omega) ?_;refine⟨⟨k+1,by omega,by omega,fun j hj h=>?_,H2⟩,by dsimp only;omega⟩;rcases aT j k with h'|h'
   ·exact hno j hj h'
   ·obtain rfl:j=k:=by omega
    exact aI (by omega)
 ·obtain rfl:k=s.units.length:=by omega
  have hna:¬idx Up s.units>=0:=by rw[Agi fun j hj=>hno j hj hj];decide
  refine⟨fun i=>((s.units.length-i).toNat,fun w2=>∃k:Nat,i=k/\k<=s.units.length/\(∀j (hj:j<s.units.length),j<k->Ly s.units[j]=false)/\St (fun _=>False) [] w w2 [.blk b Ab (Aq s a c)] (fun _=>True)),
   ⟨0,rfl,by omega,fun j _ h=>by omega,H2⟩,?_⟩
  clear H2;rintro _ i1 w6 ⟨k,rfl,hk,hno2,H6⟩;refine H6.m 0 ?_;apply Aa<;>intro c2
  ·have hlt:k<s.units.length:=by omega
   have hsk:=hse _ (aJ hlt);refine H6.drew ?_;clear H6;intro w7 H7;have hu7:=Cf hu H7.below;refine H7.m 0 ?_;refine ixU hu7 k rfl hlt fun b5 hb5=>?_;obtain⟨a1,c1,a2,c2',hb5,_,_⟩:=hb5;refine⟨_,by have:=Bc hb5 2 _ rfl;rwa[aN]at this,?_⟩;refine H7.m 0 ?_;refine ixU hu7 k rfl hlt fun b6 hb6=>?_;obtain⟨a3,c3,a4,c4,hb6,_,_⟩:=hb6;refine⟨_,_,_,by have:=Bc hb6 1 _ rfl;rwa[aN]at this,?_⟩;refine Aa (fun c1'=>?_) (fun c1'=>?_)
   ·have hrk:Ly s.units[k]=true:=by unfold Ly;rw[aI (show ¬Ef _ from by unfold Ef;omega)];rfl
    have hix:=Acg hlt hno2 hrk;refine H7.drew ?_;clear H7 hu7;intro w8 H8;have hu8:=Cf hu H8.below;refine H8.m 0 ?_;refine ixU hu8 k rfl hlt fun b7 hb7=>?_;obtain⟨a1,c1,a2,c2',hb7,_,_⟩:=hb7;refine⟨_,by have:=Bc hb7 2 _ rfl;rwa[aN]at this,?_⟩;refine H8.m 0 ?_;refine ixU hu8 k rfl hlt fun b8 hb8=>?_;obtain⟨a3,c3,a4,c4,hb8,_,_⟩:=hb8;refine⟨_,_,_,by have:=Bc hb8 1 _ rfl;rwa[aN]at this,?_⟩;refine⟨.inr ⟨k,hlt,?_,?_⟩,H8.below⟩
    ·rw[Ej,aE hna,hix]
    ·have hp:Dc s.units[k]=⟨s.units[k].sn,s.units[k].sent,s.units[k].data.length⟩:=by
      unfold Dc;have:=hno k hlt hlt;cases h:s.units[k].again with
      |nil=>rfl
      |cons x l=>unfold Up at this;rw[h]at this;simp at this
     rw[hp]
   ·refine Ao (by omega) ?_;refine⟨⟨k+1,by omega,by omega,fun j hj h=>?_,H7⟩,by dsimp only;omega⟩;rcases aT j k with h'|h'
    ·exact hno2 j hj h'
    ·obtain rfl:j=k:=by omega
     unfold Ly;rw[aM (show Ef _ from by unfold Ef;omega)];rfl
  ·obtain rfl:k=s.units.length:=by omega
   refine⟨.inl ⟨?_,rfl⟩,H6.below⟩;rw[Ej,aE hna,Agi fun j hj=>hno2 j hj hj];decide
theorem Ae1{s:Sd}{a:Option Addr}{c:Nat}{w:World}(hu:UnR w a s.units)(hl:s.units.length<=140737488355328)(hse:∀u∈s.units,u.sent<=u.data.length):Calls Tryz.prog Ta #[Sg s a c] w fun e w'=>e=.returned (.bool (decide (0<=Ej s.units)))/\Below w.heap.size w w':=by
 apply Amg;have H:=St.nil w;refine H.alloc ?_;clear H;intro b w1 H1;refine⟨_,_,_,_,_,_,_,_,_,_,_,_,_,_,_,H1.cells (i:=0) rfl,?_⟩;refine(Aff (Cf hu H1.below) hl hse).mono ?_;rintro _ w2 ⟨⟨h,rfl⟩|⟨k,hk,h,rfl⟩,hb2⟩
 ·exact⟨_,_,_,_,rfl,Hd (by omega),(H1.pass hb2).below⟩
 ·exact⟨_,_,_,_,rfl,Apv (by omega),(H1.pass hb2).below⟩
end Go.Proofs.YtmbppohkadmjgaaGreat
namespace Go.Sx
def Ch(u:Un):Pc:=⟨u.sn,Jb (decide ((Dc u).f=0)) (decide ((Dc u).t=u.data.length)),0,(Dc u).f,(u.data.take (Dc u).t.toNat).drop (Dc u).f.toNat⟩
def Dj(u:Un)(n:Int):Un:=match u.again with
 | []=>{ u with sent:=u.sent+n }
 |r::l=>if r.f+n=r.t then { u with again:=l } else { u with again:=⟨r.sn,r.f+n,r.t⟩::l }
def Qp(L:List Un)(d:Int):Int:=L.foldl (fun q u=>if 0<u.sent then u.sn else q) d
def Baa(s:Sd):Sd:={ s with pieces:=0,left:=s.lk.poll,poll:=Qp s.units s.poll }
def Qv(s:Sd)(k:Nat)(u:Un)(q:Pc):Sd×List Int×Int:=
 let s1:Sd:={ s with units:=s.units.set k (Dj u q.data.length),pieces:=s.pieces+1 }
 if s1.pieces=s.lk.every\/Ej s1.units<0 then (Baa s1,(Qq s.lk.bits { q with poll:=1 }).1,0) else (s1,(Qq s.lk.bits q).1,0)
def Ca(s:Sd)(size:Int)(E0:Int):Sd×List Int×Int:=
 if E0≠0 then (.zero,[],E0) else if ¬(0<=size/\size<=4096) then (.zero,[],3)
 else if Ej s.units<0 then (.zero,[],14) else match s.units[(Ej s.units).toNat]? with
  |none=>(.zero,[],14)
  |some u=>if (Hz s.lk.bits (Ch u) size).2.2≠0 then (.zero,[],(Hz s.lk.bits (Ch u) size).2.2) else Qv s (Ej s.units).toNat u (Hz s.lk.bits (Ch u) size).1
theorem Abs{l:Lk}{u:Un}(h:unB l u=true)(hl:Up u=true\/Ly u=true):0<=(Dc u).f/\(Dc u).f<(Dc u).t/\(Dc u).t<=u.data.length:=by
 unfold unB at h;simp only[aH,aO,bP]at h;obtain⟨⟨hn,h1⟩,h2⟩:=h;obtain⟨_,h3,h4,_⟩:=hn;unfold Dc;cases ha:u.again with
 |nil=>
  have:Ly u=true:=by
   rcases hl with h|h
   ·unfold Up at h;rw[ha]at h;simp at h
   ·exact h
  have hw:¬Ef u:=by
   unfold Ly at this;simpa using this
  unfold Ef at hw;dsimp only;omega
 |cons r t=>
  rw[ha]at h1 h2;simp only[Cc,aH,aO]at h1;have:=bW.1 h2 r (by simp);simp only[Ar9,aO]at this;dsimp only;omega
theorem Awg{b:Int}{p:Pc}{size:Int}(h:(Hz b p size).2.2=0):(Hz b p size).1.ok b/\(Hz b p size).1.poll=p.poll:=by
 unfold Hz at h ⊢;split at h
 ·exact absurd h (by decide)
 ·rename_i hp;rw[aE hp];have hp:=Decidable.not_not.1 hp;split at h
  ·exact absurd h (by decide)
  ·rename_i hs;rw[aE hs];split
   ·exact⟨hp,rfl⟩
   ·rename_i hlt;refine⟨?_,rfl⟩;obtain⟨h1,h2,h3,h4,h5,h6,h7,h8⟩:=hp;have hlen:(p.data.take (size-headN p.part).toNat).length=(size-headN p.part).toNat:=by rw[aU];omega
    refine⟨h1,h2,?_,h4,?_,h6,?_,?_⟩
    ·unfold Jb Sh;split<;>simp
    ·unfold Jb Sh;by_cases hb:p.part=0\/p.part=1
     ·simp[hb,h5.1 hb]
     ·simp only[aI hb];have:¬p.off=0:=fun e=>hb (h5.2 e);simp[this]
    ·dsimp only;rw[hlen];omega
    ·dsimp only;rw[hlen];omega
end Go.Sx
namespace Go.Sx
open Go.RowKit
theorem At0{s:Sd}(h:s.okB=true):0<=s.left/\s.left<=1000:=by
 obtain⟨-,hlk,-⟩:=Na h;unfold Sd.okB at h;simp only[aH]at h;have h2:=h.2;have h3:=hlk.2.2.1;split at h2
 ·rw[aV]at h2;omega
 ·simp only[aH,aO]at h2;omega
def Rz(u:Un):Un:={ u with again:=[⟨u.sn,0,u.sent⟩] }
def Acx(s:Sd):Sd:=match s.units[s.units.length-1]? with
 |none=>s
 |some u=>if u.tries=s.lk.tries then { s with units:=s.units.set (s.units.length-1) (Rz u),failed:=true } else { s with units:=s.units.set (s.units.length-1) { Rz u with tries:=u.tries+1 } }
def Ahu(s:Sd):Sd:=if 0<=Ej s.units then { s with left:=s.left-1,poll:=-1,pieces:=s.lk.every-1 } else Acx { s with left:=s.left-1,poll:=-1 }
def Hr(s:Sd)(E0:Int):Sd×Int:=if E0≠0 then (.zero,E0) else if s.left=0 then (s,0) else if s.left-1>0 then ({ s with left:=s.left-1 },0) else (Ahu s,0)
end Go.Sx
namespace Go.Proofs.YtmbppohkadmjgaaGreat
open Go.Sx Go.RowKit
set_option maxRecDepth 100000
theorem Arx{w w':World}{X0 X1 X2:Res}{a:Option Addr}{c:Nat}{L:List UP}{Q:World->Prop}(H:St (fun _=>False) [] w w' (X0::X1::X2::.els Ba Ae 5 a c L::L.map agR) Q)(h:∀w,Q w->DatR L w):St (fun _=>False) [] w w' (.els Ba Ae 5 a c L::L.map agR) (DatR L):=
 (H.sub (fun i=>i+3) (fun i r hi=>hi) (fun i j _ _ h=>by omega)).imp h
theorem Azn{w w':World}{X0 X1 X2:Res}{a:Option Addr}{c:Nat}{L:List UP}{Q:World->Prop}{s:Sd}(H:St (fun _=>False) [] w w' (X0::X1::X2::.els Ba Ae 5 a c L::L.map agR) Q)(h:∀w,Q w->DatR L w)(hL:L.map (·.u)=s.units):UnR w' a s.units:=by
 have K:=Gp (R:=[X0,X1,X2,.els Ba Ae 5 a c L]) H;rw[<-hL];exact Nt (K.slE Bm (i:=3) rfl) (h _ K.get.2).out K.get.1
theorem Amx{s:Sd}(hE:Cq s=0):s.okB=true/\s.failed=false:=by
 unfold Cq at hE;split at hE
 ·omega
 ·split at hE
  ·omega
  ·rename_i h1 h2;exact⟨by simpa using h1,by simpa using h2⟩
theorem Anu{s:Sd}{a:Option Addr}{c:Nat}{w:World}(hu:UnR w a s.units)(hl:SmU s.units):Calls Tryz.prog Wd #[Sg s a c] w (RetO w (Hr s (Cq s)).1 (Hr s (Cq s)).2):=by
 apply Aj1;have H:=St.nil w;refine H.alloc ?_;clear H;intro b0 w1 H1;refine H1.alloc ?_;clear H1;intro b1 w2 H2;simp only[aD,aC]at H2;refine⟨_,_,_,_,_,_,_,_,_,_,_,_,_,_,_,H2.cells (i:=0) rfl,?_⟩;refine(My (Cf hu H2.below) hl).mono ?_;rintro _ w3 (⟨hE,rfl,hb3⟩|⟨hE,b,ua,uc,L,hL,rfl,K3⟩)
 ·have H3:=H2.pass hb3;clear H2;refine⟨_,_,rfl,?_⟩;refine An (fun _=>?_) (fun h=>absurd h hE);rw[Hr,aF hE];exact Ab0 H3 (i:=1) rfl rfl
 have H3:=H2.callF K3;clear H2;simp only[aD,aC]at H3;refine⟨_,_,rfl,?_⟩;refine An (fun h=>absurd rfl h) (fun _=>?_);obtain⟨hok,hfa⟩:=Amx hE;obtain⟨⟨hf1,hf2⟩,hlk,hsf,hsn,hall⟩:=Na hok;have hlf:=At0 hok;have hlen:L.length=s.units.length:=by rw[<-hL,bC]
 rw[Hr,aE (by omega)];refine Bk ?_;rw[Bd];refine H3.l 2 ?_;apply Aa<;>intro c3
 ·rw[aF c3];refine Bk ?_;refine⟨_,_,_,_,_,_,_,_,_,_,_,_,_,_,_,H3.cells (i:=2) rfl,?_⟩;exact Ahj (x:=s) (a:=ua) (c:=uc) (L:=L) (i:=1) H3 rfl rfl hL fun w4 H4=>Arx H4 fun _ h=>h.1
 rw[aE c3];refine Bk ?_;rw[Bd];refine H3.l 2 ?_;refine Ao (by omega) ?_;refine Bk ?_;rw[Bd];refine H3.U 2 ?_;clear H3;intro w6 H6;simp only[aB,aA]at H6;refine Bk ?_;rw[Bd];refine H6.l 2 ?_;apply Aa<;>intro c2
 ·rw[aF c2];refine Bk ?_;refine⟨_,_,_,_,_,_,_,_,_,_,_,_,_,_,_,H6.cells (i:=2) rfl,?_⟩;exact Ahj (x:={ s with left:=s.left-1 }) (a:=ua) (c:=uc) (L:=L) (i:=1) H6 rfl rfl hL fun w4 H4=>Arx H4 fun _ h=>h.1
 rw[aE c2];refine Bk ?_;rw[Bd];refine H6.U 2 ?_;clear H6;intro w8 H8;simp only[aB,aA]at H8;obtain⟨t,ht⟩:∃t:Sd,t={ s with left:=s.left-1,poll:=-1 }:=⟨_,rfl⟩;have htu:t.units=s.units:=by rw[ht]
 have htl:t.lk=s.lk:=by rw[ht]
 replace H8:St (fun _=>False) [] w w8 (.blk b0 Ab (Aq s a c)::.blk b1 Ab (Aq .zero none 0)::.blk b Bb (Aq t ua uc)::.els Ba Ae 5 ua uc L::L.map agR) (fun w=>DatR L w/\True):=by rw[ht];exact H8
 have hT:Ahu s=if 0<=Ej t.units then { t with pieces:=t.lk.every-1 } else Acx t:=by rw[ht];rfl
 rw[<-htu]at hL hf1 hf2 hall hlen;rw[<-htl]at hlk;refine Bk ?_;rw[Bd];refine H8.m 2 ?_;refine⟨fun w15=>∃(x:Sd) (L':List UP),Ahu s=x/\L'.map (·.u)=x.units/\St (fun _=>False) [] w w15 (.blk b0 Ab (Aq s a c)::.blk b1 Ab (Aq .zero none 0)::.blk b Bb (Aq x ua uc)::.els Ba Ae 5 ua uc L'::L'.map agR) (DatR L'),?_,?_⟩
 ·rintro _ w15 ⟨x,L',hx,hL',H15⟩;refine Bk ?_;refine⟨_,_,_,_,_,_,_,_,_,_,_,_,_,_,_,H15.cells (i:=2) rfl,?_⟩;rw[hx];exact Ahj (x:=x) (a:=ua) (c:=uc) (L:=L') (i:=1) H15 rfl rfl hL' fun w4 H4=>Arx H4 fun _ h=>h
 refine(Mf (s:=t) (b:=b) (o:=0) ⟨ua,uc,H8.cells (i:=2) rfl,Azn H8 (fun _ h=>h.1) hL⟩ (by omega)).mono ?_;rintro _ w9 ⟨rfl,hb9⟩;have H9:=H8.pass hb9;clear H8;refine⟨_,rfl,?_⟩;refine Aw ?_;apply Aa<;>intro c1
 ·have hev:=hlk.2.1;refine Bk ?_;rw[Bd];refine H9.l 2 ?_;refine Ao (by omega) ?_;refine Bk ?_;rw[Bd];refine H9.U 2 ?_;clear H9;intro w10 H10;simp only[aB,aA]at H10;exact⟨{ t with pieces:=t.lk.every-1 },L,by rw[hT,aF c1],hL,H10.imp fun _ h=>h.1⟩
 refine Aw ?_;rw[aE c1]at hT;apply Aa<;>intro c0
 ·obtain⟨k,hk⟩:∃k,k=t.units.length-1:=⟨_,rfl⟩;have hkt:k<t.units.length:=by omega
  have hkL:k<L.length:=by omega
  obtain⟨x,hx⟩:∃x,x=L[k]:=⟨_,rfl⟩;have hxu:t.units[k]=x.u:=by rw[hx];simp[<-hL]
  have hmu:x.u∈s.units:=by rw[<-htu,<-hxu];exact aJ _
  have htr:x.u.tries<=32/\0<=x.u.tries:=by
   have h1:=(hall x.u (by rw[htu];exact hmu)).1;unfold unB at h1;simp only[aH,aO]at h1;have h2:=h1.1.1.2.2.2;have h3:=hlk.2.2.2.2.2;rw[htl]at h3;omega
  have hTl:Ahu s=if x.u.tries=t.lk.tries then { t with units:=t.units.set k (Rz x.u),failed:=true } else { t with units:=t.units.set k { Rz x.u with tries:=x.u.tries+1 } }:=by
   rw[hT,Acx,<-hk,List.getElem?_eq_getElem hkt,hxu]
  refine Bk ?_;rw[Bd];refine H9.m 2 ?_;refine Ao (by omega) ?_;have e1:((t.units.length:Int)-1)=(k:Int):=by omega
  rw[e1];obtain⟨g,rfl,hg1,hg2⟩:=H9.rowSome (i:=3) rfl (by omega);refine Jx ⟨by omega,by omega⟩ ?_;refine H9.drew ?_;clear H9;intro w11 H11;simp only[Baz,As6];refine⟨(· <w11.heap.size),?_⟩;refine⟨_,H11.cellEl Bm (i:=3) rfl hkL (j:=0) (v:=.int .i64 x.u.sn) (by decide) (by rw[<-hx];rfl),?_⟩;refine⟨_,H11.cellEl Bm (i:=3) rfl hkL (j:=2) (v:=.int .i64 x.u.sent) (by decide) (by rw[<-hx];rfl),?_⟩;refine⟨fun _ _ _ h=>h,?_⟩;refine H11.allocB ?_;clear H11;intro b3 w12 hb12 H12;refine⟨hb12.keeps,?_⟩;have H12:=St.litLast [Rg.mk x.u.sn 0 x.u.sent] Br H12 (by show 1<=maxLen;decide);simp only[aD]at H12;obtain⟨y,hy⟩:∃y:UP,y=⟨Rz x.u,x.a,x.c,some ⟨b3,0,none⟩,1⟩:=⟨_,rfl⟩;refine H12.setEl Bm (i:=3) rfl hkL (j:=4) (by decide) y (by rw[<-hx,hy];rfl) ?_;clear H12;intro w13 f13 H13;simp only[aB,aA]at H13;have H13:=St.swapLast (X:=[_,_,_,_]) k H13;have eA:(L.map agR).set k (.els Bn Af 3 (some ⟨b3,0,none⟩) [Rg.mk x.u.sn 0 x.u.sent].length [Rg.mk x.u.sn 0 x.u.sent])=(L.set k y).map agR:=by
   rw[bG,hy];rfl
  rw[eA]at H13;simp only[aD,aC]at H13;have hdat:∀ {z:UP},(z.a=x.a/\z.c=x.c)->z.u.data=x.u.data->∀w,DatR L w->DatR (L.set k z) w:=fun h1 h2 w h v hv=>by
   rcases bM hv with hv|rfl
   ·exact h v hv
   ·rw[h1.1,h1.2,h2];exact h x (by rw[hx];exact aJ _)
  have hmap:∀(z:UP),(L.set k z).map (·.u)=t.units.set k z.u:=fun z=>by rw[bG,hL]
  have hkL':k<(L.set k y).length:=by simpa using hkL
  refine Oy b 0 g (k*5) w13 ?_;refine H13.drew ?_;clear H13;intro w15 H15;have c3:=H15.cellEl Bm (i:=3) rfl hkL' (j:=3) (v:=.int .i64 x.u.tries) (by decide) (by rw[dS,hy];rfl);refine⟨_,c3,?_⟩;refine H15.l 2 ?_;apply Aa<;>intro c9
  ·refine H15.U 2 ?_;clear H15;intro w16 H16;simp only[aB,aA]at H16;refine⟨rfl,{ t with units:=t.units.set k (Rz x.u),failed:=true },L.set k y,?_,?_,?_⟩
   ·rw[hTl,aF c9]
   ·rw[hmap,hy]
   ·have e2:(Aq t (some ⟨g,0,none⟩) uc).set (0+12) (.bool true)=Aq { t with units:=t.units.set k (Rz x.u),failed:=true } (some ⟨g,0,none⟩) uc:=by
     simp only[Aq,bE];rfl
    rw[e2]at H16;exact H16.imp fun w h=>hdat (by rw[hy];exact⟨rfl,rfl⟩) (by rw[hy];rfl) w h.1
  ·refine⟨_,c3,?_⟩;refine Ao (by omega) ?_;obtain⟨z,hz⟩:∃z:UP,z=⟨{ Rz x.u with tries:=x.u.tries+1 },x.a,x.c,some ⟨b3,0,none⟩,1⟩:=⟨_,rfl⟩;refine H15.setEl Bm (i:=3) rfl hkL' (j:=3) (by decide) z (by rw[dS,hy,hz];rfl) ?_;clear H15;intro w16 f16 H16;simp only[aB,aA]at H16;rw[cF]at H16;have eB:(L.set k y).map agR=(L.set k z).map agR:=by rw[bG,bG,hy,hz];rfl
   rw[eB]at H16;refine⟨rfl,{ t with units:=t.units.set k { Rz x.u with tries:=x.u.tries+1 } },L.set k z,?_,?_,?_⟩
   ·rw[hTl,aE c9]
   ·rw[hmap,hz]
   ·have e2:Aq t (some ⟨g,0,none⟩) uc=Aq { t with units:=t.units.set k { Rz x.u with tries:=x.u.tries+1 } } (some ⟨g,0,none⟩) uc:=by
     simp only[Aq,bE]
    rw[e2]at H16;exact H16.imp fun w h=>hdat (by rw[hz];exact⟨rfl,rfl⟩) (by rw[hz];rfl) w h.1
 ·have h0:t.units.length=0:=by omega
  refine⟨t,L,?_,hL,H9.imp fun _ h=>h.1⟩;rw[hT,Acx,List.getElem?_eq_none (by omega)]
theorem Rq{l:Lk}{u:Un}(h:unB l u=true):u.sent<=u.data.length/\0<=u.sent/\0<=u.tries/\u.tries<=l.tries:=by
 unfold unB at h;simp only[aH,aO]at h;have:=h.1.1.2.2;omega
theorem Aqk{s:Sd}{a:Option Addr}{c:Nat}{w:World}(hu:UnR w a s.units)(hl:SmU s.units):Calls Tryz.prog Yw #[Sg s a c] w (RetO w (Hr s (Cq s)).1 (Hr s (Cq s)).2):=by
 apply Ame;have H:=St.nil w;refine H.alloc ?_;clear H;intro b w1 H1;refine H1.alloc ?_;clear H1;intro b1 w2 H2;simp only[aD,aC]at H2;refine⟨_,_,_,_,_,_,_,_,_,_,_,_,_,_,_,H2.cells (i:=0) rfl,?_⟩;refine(Pz (Cf hu H2.below) hl).mono ?_;rintro _ w3 ⟨rfl,hb3⟩;have H3:=H2.pass hb3;clear H2;replace H3:St (fun _=>False) [] w w3 [.blk b Ab (Aq s a c),.blk b1 Ab (Aq .zero none 0)] (fun _=>True):=H3;refine⟨_,rfl,?_⟩;apply Bq<;>intro c5
 ·have hE:Cq s=1:=by rw[Cq,aF c5]
  rw[Hr,aF (by omega),hE];exact Ab0 H3 (i:=1) rfl rfl
 refine H3.B 0 ?_;apply Al<;>intro c4
 ·have hE:Cq s=16:=by rw[Cq,aE (by rw[c5];decide),aF c4]
  rw[Hr,aF (by omega),hE];exact Ab0 H3 (i:=1) rfl rfl
 have hE:Cq s=0:=by rw[Cq,aE (by rw[c5];decide),aE (by rw[c4];decide)]
 obtain⟨hfit,hlk,hsf,hsn,hall⟩:=Na c5;have hf1:=hfit.1;have hlf:=At0 c5;rw[Hr,aE (by omega)];refine⟨_,_,_,_,_,_,_,_,_,_,_,_,_,_,_,H3.cells (i:=0) rfl,?_⟩;refine(Mx (Cf hu H3.below) hfit).mono ?_;rintro _ w6 ⟨ua,uc,L,hL,rfl,K6⟩;have H6:=H3.callF K6;clear H3;have hlen:L.length=s.units.length:=by rw[<-hL,bC]
 refine⟨_,_,_,_,_,_,_,_,_,_,_,_,_,_,_,rfl,?_⟩;refine H6.alloc ?_;clear H6;intro b2 w7 H7;have H7:=H7.lastTo;simp only[aD,aC]at H7;refine H7.s 2 ?_;clear H7;intro w8 H8;simp only[aB,aA]at H8;refine H8.l 2 ?_;apply Aa<;>intro c3
 ·rw[aF c3];refine⟨_,_,_,_,_,_,_,_,_,_,_,_,_,_,_,H8.cells (i:=2) rfl,?_⟩;exact Ahj (x:=s) (a:=ua) (c:=uc) (L:=L) (i:=1) H8 rfl rfl hL fun w4 H4=>Arx H4 fun _ h=>h.1
 rw[aE c3];refine H8.l 2 ?_;refine Ao (by omega) ?_;refine H8.U 2 ?_;clear H8;intro w10 H10;simp only[aB,aA]at H10;refine H10.l 2 ?_;apply Aa<;>intro c2
 ·rw[aF c2];refine⟨_,_,_,_,_,_,_,_,_,_,_,_,_,_,_,H10.cells (i:=2) rfl,?_⟩;exact Ahj (x:={ s with left:=s.left-1 }) (a:=ua) (c:=uc) (L:=L) (i:=1) H10 rfl rfl hL fun w4 H4=>Arx H4 fun _ h=>h.1
 rw[aE c2];refine H10.U 2 ?_;clear H10;intro w12 H12;simp only[aB,aA]at H12;obtain⟨t,ht⟩:∃t:Sd,t={ s with left:=s.left-1,poll:=-1 }:=⟨_,rfl⟩;have htu:t.units=s.units:=by rw[ht]
 have htl:t.lk=s.lk:=by rw[ht]
 replace H12:St (fun _=>False) [] w w12 (.blk b Ab (Aq s a c)::.blk b1 Ab (Aq .zero none 0)::.blk b2 Ab (Aq t ua uc)::.els Ba Ae 5 ua uc L::L.map agR) (fun w=>DatR L w/\True):=by rw[ht];exact H12
 have hT:Ahu s=if 0<=Ej t.units then { t with pieces:=t.lk.every-1 } else Acx t:=by rw[ht];rfl
 rw[<-htu]at hL hf1 hall hlen;have hev:=hlk.2.1;have htr0:=hlk.2.2.2.2.2;refine⟨_,_,_,_,_,_,_,_,_,_,_,_,_,_,_,H12.cells (i:=2) rfl,?_⟩;refine(Ae1 (s:=t) (Azn H12 (fun _ h=>h.1) hL) (by omega) (fun u hu=>(Rq (hall u hu).1).1)).mono ?_;rintro _ w13 ⟨rfl,hb13⟩;have H13:=H12.pass hb13;clear H12;refine⟨_,rfl,?_⟩;apply Aa<;>intro c1
 ·rw[aF c1]at hT;refine H13.l 0 ?_;rw[<-htl];refine Ao (by rw[htl];omega) ?_;refine H13.U 2 ?_;clear H13;intro w14 H14;simp only[aB,aA]at H14;refine⟨_,_,_,_,_,_,_,_,_,_,_,_,_,_,_,H14.cells (i:=2) rfl,?_⟩;rw[hT];exact Ahj (x:={ t with pieces:=t.lk.every-1 }) (a:=ua) (c:=uc) (L:=L) (i:=1) H14 rfl rfl hL fun w4 H4=>Arx H4 fun _ h=>h.1
 rw[aE c1]at hT;refine H13.m 2 ?_;apply Aa<;>intro c0
 ·obtain⟨k,hk⟩:∃k,k=t.units.length-1:=⟨_,rfl⟩;have hkt:k<t.units.length:=by omega
  have hkL:k<L.length:=by omega
  obtain⟨x,hx⟩:∃x,x=L[k]:=⟨_,rfl⟩;have hxu:t.units[k]=x.u:=by rw[hx];simp[<-hL]
  have hmu:x.u∈t.units:=by rw[<-hxu];exact aJ _
  have htr:=Rq (hall x.u hmu).1;have hTl:Ahu s=if x.u.tries=t.lk.tries then { t with units:=t.units.set k (Rz x.u),failed:=true } else { t with units:=t.units.set k { Rz x.u with tries:=x.u.tries+1 } }:=by
   rw[hT,Acx,<-hk,List.getElem?_eq_getElem hkt,hxu]
  refine H13.m 2 ?_;refine Ao (by omega) ?_;have e1:((t.units.length:Int)-1)=(k:Int):=by omega
  rw[e1];obtain⟨g,rfl,hg1,hg2⟩:=H13.rowSome (i:=3) rfl (by omega);refine Jx ⟨by omega,by omega⟩ ?_;refine H13.drew ?_;clear H13;intro w11 H11;simp only[Baz,As6];refine⟨(· <w11.heap.size),?_⟩;refine⟨_,H11.cellEl Bm (i:=3) rfl hkL (j:=0) (v:=.int .i64 x.u.sn) (by decide) (by rw[<-hx];rfl),?_⟩;refine⟨_,H11.cellEl Bm (i:=3) rfl hkL (j:=2) (v:=.int .i64 x.u.sent) (by decide) (by rw[<-hx];rfl),?_⟩;refine⟨fun _ _ _ h=>h,?_⟩;refine H11.allocB ?_;clear H11;intro b3 w12 hb12 H12;refine⟨hb12.keeps,?_⟩;have H12:=St.litLast [Rg.mk x.u.sn 0 x.u.sent] Br H12 (by show 1<=maxLen;decide);simp only[aD]at H12;obtain⟨y,hy⟩:∃y:UP,y=⟨Rz x.u,x.a,x.c,some ⟨b3,0,none⟩,1⟩:=⟨_,rfl⟩;refine H12.setEl Bm (i:=3) rfl hkL (j:=4) (by decide) y (by rw[<-hx,hy];rfl) ?_;clear H12;intro w13 f13 H13;simp only[aB,aA]at H13;have H13:=St.swapLast (X:=[_,_,_,_]) k H13;have eA:(L.map agR).set k (.els Bn Af 3 (some ⟨b3,0,none⟩) [Rg.mk x.u.sn 0 x.u.sent].length [Rg.mk x.u.sn 0 x.u.sent])=(L.set k y).map agR:=by
   rw[bG,hy];rfl
  rw[eA]at H13;simp only[aD,aC]at H13;have hdat:∀ {z:UP},(z.a=x.a/\z.c=x.c)->z.u.data=x.u.data->∀w,DatR L w->DatR (L.set k z) w:=fun h1 h2 w h v hv=>by
   rcases bM hv with hv|rfl
   ·exact h v hv
   ·rw[h1.1,h1.2,h2];exact h x (by rw[hx];exact aJ _)
  have hmap:∀(z:UP),(L.set k z).map (·.u)=t.units.set k z.u:=fun z=>by rw[bG,hL]
  have hkL':k<(L.set k y).length:=by simpa using hkL
  refine Yc b2 0 g (k*5) w13 ?_;refine H13.drew ?_;clear H13;intro w15 H15;have c3:=H15.cellEl Bm (i:=3) rfl hkL' (j:=3) (v:=.int .i64 x.u.tries) (by decide) (by rw[dS,hy];rfl);refine⟨_,c3,?_⟩;refine H15.l 2 ?_;rw[hTl];apply Aa<;>intro c9
  ·refine H15.U 2 ?_;clear H15;intro w16 H16;simp only[aB,aA]at H16;have e2:(Aq t (some ⟨g,0,none⟩) uc).set (0+12) (.bool true)=Aq { t with units:=t.units.set k (Rz x.u),failed:=true } (some ⟨g,0,none⟩) uc:=by
    simp only[Aq,bE];rfl
   rw[e2]at H16;refine⟨rfl,?_⟩;refine⟨_,_,_,_,_,_,_,_,_,_,_,_,_,_,_,H16.cells (i:=2) rfl,?_⟩;rw[aF c9];exact Ahj (x:={ t with units:=t.units.set k (Rz x.u),failed:=true }) (a:=some ⟨g,0,none⟩) (c:=uc) (L:=L.set k y) (i:=1) H16 rfl rfl (by rw[hmap,hy]) fun w4 H4=>Arx H4 fun w h=>hdat (by rw[hy];exact⟨rfl,rfl⟩) (by rw[hy];rfl) w h.1
  ·refine⟨_,c3,?_⟩;refine Ao (by omega) ?_;obtain⟨z,hz⟩:∃z:UP,z=⟨{ Rz x.u with tries:=x.u.tries+1 },x.a,x.c,some ⟨b3,0,none⟩,1⟩:=⟨_,rfl⟩;refine H15.setEl Bm (i:=3) rfl hkL' (j:=3) (by decide) z (by rw[dS,hy,hz];rfl) ?_;clear H15;intro w16 f16 H16;simp only[aB,aA]at H16;rw[cF]at H16;have eB:(L.set k y).map agR=(L.set k z).map agR:=by rw[bG,bG,hy,hz];rfl
   rw[eB]at H16;have e2:Aq t (some ⟨g,0,none⟩) uc=Aq { t with units:=t.units.set k { Rz x.u with tries:=x.u.tries+1 } } (some ⟨g,0,none⟩) uc:=by
    simp only[Aq,bE]
   rw[e2]at H16;refine⟨rfl,?_⟩;refine⟨_,_,_,_,_,_,_,_,_,_,_,_,_,_,_,H16.cells (i:=2) rfl,?_⟩;rw[aE c9];exact Ahj (x:={ t with units:=t.units.set k { Rz x.u with tries:=x.u.tries+1 } }) (a:=some ⟨g,0,none⟩) (c:=uc) (L:=L.set k z) (i:=1) H16 rfl rfl (by rw[hmap,hz]) fun w4 H4=>Arx H4 fun w h=>hdat (by rw[hz];exact⟨rfl,rfl⟩) (by rw[hz];rfl) w h.1
 ·refine⟨_,_,_,_,_,_,_,_,_,_,_,_,_,_,_,H13.cells (i:=2) rfl,?_⟩;rw[hT,Acx,List.getElem?_eq_none (by omega)];exact Ahj (x:=t) (a:=ua) (c:=uc) (L:=L) (i:=1) H13 rfl rfl hL fun w4 H4=>Arx H4 fun _ h=>h.1
end Go.Proofs.YtmbppohkadmjgaaGreat
namespace Go.Sx
open Go.RowKit
def Pb(u:Un)(x:Rg):Rg:=⟨x.sn,x.f,if u.sent<(if Fa x then u.sent else x.t) then u.sent else if Fa x then u.sent else x.t⟩
def Ms(u:Un)(p:List Rg×Bool)(x:Rg):List Rg×Bool:=if x.sn≠u.sn then p else (if (Pb u x).f<(Pb u x).t then p.1++[Pb u x] else p.1,true)
def Cu(u:Un)(M:List Rg):List Rg×Bool:=M.foldl (Ms u) ([],false)
theorem Af6{u:Un}{M:List Rg}{k:Nat}(h:k<M.length):Cu u (M.take (k+1))=Ms u (Cu u (M.take k)) M[k]:=by
 rw[cA h,Cu,eC];rfl
theorem Asn(u:Un)(p:List Rg×Bool)(x:Rg):(Ms u p x).1.length<=p.1.length+1:=by
 unfold Ms;split
 ·omega
 ·dsimp only;split<;>simp
theorem Adl{u:Un}{M:List Rg}:∀ {k:Nat},k<=M.length->(Cu u (M.take k)).1.length<=k
 |0,_=>by simp[Cu]
 |k+1,h=>by
  rw[Af6 (by omega)];have:=Asn u (Cu u (M.take k)) (M[k]'(by omega));have:=Adl (u:=u) (M:=M) (k:=k) (by omega);omega
end Go.Sx
namespace Go.Proofs.YtmbppohkadmjgaaGreat
open Go.Sx Go.RowKit
set_option maxRecDepth 100000
section
variable{u:Un}{a1 a2 a:Option Addr}{c1 c2 c:Nat}{upto:Int}{M:List Rg}{w:World}
def Bcp(w:World)(l:List Rg)(named:Bool)(e:Ending)(w':World):Prop:=
 ∃a c,e=.returned (.tuple #[.slice a l.length c,.bool named])/\Cg w w' [.els Bn Af 3 a c l]
theorem Ag7(hM:SlR (CE Bn) 3 w a M)(hl:M.length<=1000000):Calls Tryz.prog Qt #[Am2 u a1 c1 a2 c2,(.agg #[.int .i64 upto,.slice a M.length c])] w (Bcp w (Cu u M).1 (Cu u M).2):=by
 apply Aee;have H:=St.nil w;refine H.alloc ?_;clear H;intro b w1 H1;refine H1.alloc ?_;clear H1;intro b1 w2 H2;have H2:=H2.nilE Bn Af 3;simp only[aD,aC]at H2;replace H2:St (fun _=>False) [] w w2 [.blk b Ae (Mb u a1 c1 a2 c2),.blk b1 Ai [(.int .i64 upto),(.slice a M.length c)],.els Bn Af 3 none 0 []] (fun _=>True):=H2;refine H2.m 1 ?_;refine⟨fun out_a out_l out_c named x=>((M.length-x).toNat,fun w3=>∃k:Nat,x=k/\k<=M.length/\out_l=(Cu u (M.take k)).1.length/\named=(Cu u (M.take k)).2/\
  St (fun _=>False) [] w w3 [.blk b Ae (Mb u a1 c1 a2 c2),.blk b1 Ai [(.int .i64 upto),(.slice a M.length c)],.els Bn Af 3 out_a out_c (Cu u (M.take k)).1] (fun _=>True)),⟨0,rfl,by omega,rfl,rfl,H2⟩,?_⟩
 clear H2;rintro _ out_a out_l out_c named x w3 ⟨k,rfl,hk,rfl,rfl,H3⟩;apply Aa<;>intro c3
 ·have hlt:k<M.length:=by omega
  have hstep:=Af6 (u:=u) hlt;have hlen:=Adl (u:=u) (M:=M) hk;obtain⟨p,hp⟩:∃p,p=Cu u (M.take k):=⟨_,rfl⟩;rw[<-hp]at hstep hlen H3 ⊢;obtain⟨x,hx⟩:∃x,x=M[k]:=⟨_,rfl⟩;rw[<-hx]at hstep;refine ixE (hM.belowE H3.below) k rfl hlt fun b2 r hr hb2=>?_;obtain rfl:x=r:=by rw[List.getElem?_eq_getElem hlt]at hr;injection hr with hr;rw[hx];exact hr
  refine⟨_,_,_,hb2,?_⟩;refine H3.alloc ?_;clear H3;intro b3 w4 H4;simp only[aD,aC]at H4;refine H4.s 3 ?_;clear H4;intro w5 H5;simp only[aB,aA]at H5;refine H5.l 3 ?_;refine H5.l 0 ?_;apply An<;>intro cn
  ·refine Ao (by omega) ?_;have e:Cu u (M.take (k+1))=p:=by rw[hstep,Ms,aF cn]
   exact⟨⟨k+1,by omega,by omega,by rw[e],by rw[e],by rw[e];exact H5.first3⟩,by dsimp only;omega⟩
  ·obtain⟨q,hq⟩:∃q,q=if Fa x then u.sent else x.t:=⟨_,rfl⟩
   refine⟨fun w8=>St (fun _=>False) [] w w8 [.blk b Ae (Mb u a1 c1 a2 c2),.blk b1 Ai [(.int .i64 upto),(.slice a M.length c)],.els Bn Af 3 out_a out_c p.1,.blk b3 Af [(.int .i64 x.sn),(.int .i64 x.f),(.int .i64 q)]] (fun _=>True),?_,?_⟩
   ·rintro _ w8 H8;refine H8.l 3 ?_;refine H8.l 0 ?_;refine H8.U 3 ?_;clear H8;intro w9 H9;simp only[aB,aA]at H9;refine H9.l 3 ?_;refine H9.l 3 ?_;have hcl:Pb u x=⟨x.sn,x.f,if u.sent<q then u.sent else q⟩:=by rw[hq];rfl
    have e:Cu u (M.take (k+1))=(if (Pb u x).f<(Pb u x).t then p.1++[Pb u x] else p.1,true):=by rw[hstep,Ms,aE (by omega)]
    refine Aa (fun c1'=>?_) (fun c1'=>?_)
    ·have e2:Cu u (M.take (k+1))=(p.1++[Rg.mk x.sn x.f (if u.sent<q then u.sent else q)],true):=by rw[e,hcl,aF c1']
     refine⟨_,_,_,H9.cells (i:=3) rfl,?_⟩;refine H9.alloc ?_;clear H9;intro b4 w10 H10;refine H10.appEL [Rg.mk x.sn x.f (if u.sent<q then u.sent else q)] Br (i:=2) rfl Bo rfl (by simp;omega) (by simp;omega) ?_;intro x_a1 x_c1 w11 H11;simp only[aB,aA]at H11;refine Ao (by omega) ?_;exact⟨⟨k+1,by omega,by omega,by rw[e2],by rw[e2],by rw[e2];exact H11.first3⟩,by dsimp only;omega⟩
    ·have e2:Cu u (M.take (k+1))=(p.1,true):=by rw[e,aE (by rw[hcl];exact c1')]
     refine Ao (by omega) ?_;exact⟨⟨k+1,by omega,by omega,by rw[e2],by rw[e2],by rw[e2];exact H9.first3⟩,by dsimp only;omega⟩
   ·refine⟨_,_,_,H5.cells (i:=3) rfl,?_⟩;refine status_Whole_ct.mono ?_;rintro _ w6 ⟨rfl,hb6⟩;have H6:=H5.pass hb6;clear H5;refine⟨_,rfl,?_⟩;apply Aa<;>intro c
    ·refine H6.l 0 ?_;refine H6.U 3 ?_;clear H6;intro w7 H7;simp only[aB,aA]at H7;rw[hq,aF c];exact H7
    ·rw[hq,aE c];exact H6
 ·obtain rfl:k=M.length:=by omega
  rw[bI]at H3 ⊢;exact⟨_,_,rfl,H3.sub (R':=[_]) (fun i=>i+2) (fun i r hi=>by
   rcases i with _|i
   ·exact hi
   ·simp at hi) (fun i j _ _ h=>by omega)⟩
theorem Aki(hM:SlR (CE Bn) 3 w a M)(hl:M.length<=1000000):Calls Tryz.prog Ry #[Am2 u a1 c1 a2 c2,(.agg #[.int .i64 upto,.slice a M.length c])] w (Bcp w (Cu u M).1 (Cu u M).2):=by
 apply Agh;have H:=St.nil w;refine H.alloc ?_;clear H;intro b w1 H1;refine H1.alloc ?_;clear H1;intro b1 w2 H2;have H2:=H2.nilE Bn Af 3;simp only[aD,aC]at H2;replace H2:St (fun _=>False) [] w w2 [.blk b Ae (Mb u a1 c1 a2 c2),.blk b1 Ai [(.int .i64 upto),(.slice a M.length c)],.els Bn Af 3 none 0 []] (fun _=>True):=H2;refine⟨fun out_a out_l out_c named x=>((M.length-x).toNat,fun w3=>∃k:Nat,x=k/\k<=M.length/\out_l=(Cu u (M.take k)).1.length/\named=(Cu u (M.take k)).2/\
  St (fun _=>False) [] w w3 [.blk b Ae (Mb u a1 c1 a2 c2),.blk b1 Ai [(.int .i64 upto),(.slice a M.length c)],.els Bn Af 3 out_a out_c (Cu u (M.take k)).1] (fun _=>True)),⟨0,rfl,by omega,rfl,rfl,H2⟩,?_⟩
 clear H2;rintro _ out_a out_l out_c named x w3 ⟨k,rfl,hk,rfl,rfl,H3⟩;refine H3.m 1 ?_;apply Aa<;>intro c3
 ·have hlt:k<M.length:=by omega
  have hstep:=Af6 (u:=u) hlt;have hlen:=Adl (u:=u) (M:=M) hk;obtain⟨p,hp⟩:∃p,p=Cu u (M.take k):=⟨_,rfl⟩;rw[<-hp]at hstep hlen H3 ⊢;obtain⟨x,hx⟩:∃x,x=M[k]:=⟨_,rfl⟩;rw[<-hx]at hstep;refine H3.m 1 ?_;refine ixE (hM.belowE H3.below) k rfl hlt fun b2 r hr hb2=>?_;obtain rfl:x=r:=by rw[List.getElem?_eq_getElem hlt]at hr;injection hr with hr;rw[hx];exact hr
  refine⟨_,_,_,hb2,?_⟩;refine H3.alloc ?_;clear H3;intro b3 w4 H4;simp only[aD,aC]at H4;refine H4.s 3 ?_;clear H4;intro w5 H5;simp only[aB,aA]at H5;refine H5.l 3 ?_;refine H5.l 0 ?_;apply An<;>intro cn
  ·refine Ao (by omega) ?_;have e:Cu u (M.take (k+1))=p:=by rw[hstep,Ms,aF cn]
   exact⟨⟨k+1,by omega,by omega,by rw[e],by rw[e],by rw[e];exact H5.first3⟩,by dsimp only;omega⟩
  ·obtain⟨q,hq⟩:∃q,q=if Fa x then u.sent else x.t:=⟨_,rfl⟩
   refine⟨fun w8=>St (fun _=>False) [] w w8 [.blk b Ae (Mb u a1 c1 a2 c2),.blk b1 Ai [(.int .i64 upto),(.slice a M.length c)],.els Bn Af 3 out_a out_c p.1,.blk b3 Af [(.int .i64 x.sn),(.int .i64 x.f),(.int .i64 q)]] (fun _=>True),?_,?_⟩
   ·rintro _ w8 H8;refine H8.l 3 ?_;refine H8.l 0 ?_;refine H8.U 3 ?_;clear H8;intro w9 H9;simp only[aB,aA]at H9;refine H9.l 3 ?_;refine H9.l 3 ?_;have hcl:Pb u x=⟨x.sn,x.f,if u.sent<q then u.sent else q⟩:=by rw[hq];rfl
    have e:Cu u (M.take (k+1))=(if (Pb u x).f<(Pb u x).t then p.1++[Pb u x] else p.1,true):=by rw[hstep,Ms,aE (by omega)]
    refine Aa (fun c1'=>?_) (fun c1'=>?_)
    ·have e2:Cu u (M.take (k+1))=(p.1++[Rg.mk x.sn x.f (if u.sent<q then u.sent else q)],true):=by rw[e,hcl,aF c1']
     refine⟨_,_,_,H9.cells (i:=3) rfl,?_⟩;refine H9.alloc ?_;clear H9;intro b4 w10 H10;refine H10.appEL [Rg.mk x.sn x.f (if u.sent<q then u.sent else q)] Br (i:=2) rfl Bo rfl (by simp;omega) (by simp;omega) ?_;intro x_a1 x_c1 w11 H11;simp only[aB,aA]at H11;refine Ao (by omega) ?_;exact⟨⟨k+1,by omega,by omega,by rw[e2],by rw[e2],by rw[e2];exact H11.first3⟩,by dsimp only;omega⟩
    ·have e2:Cu u (M.take (k+1))=(p.1,true):=by rw[e,aE (by rw[hcl];exact c1')]
     refine Ao (by omega) ?_;exact⟨⟨k+1,by omega,by omega,by rw[e2],by rw[e2],by rw[e2];exact H9.first3⟩,by dsimp only;omega⟩
   ·have no:¬Fa x->St (fun _=>False) [] w w5 [.blk b Ae (Mb u a1 c1 a2 c2),.blk b1 Ai [(.int .i64 upto),(.slice a M.length c)],.els Bn Af 3 out_a out_c p.1,.blk b3 Af [(.int .i64 x.sn),(.int .i64 x.f),(.int .i64 q)]] (fun _=>True):=fun c=>by
     rw[hq,aE c];exact H5
    refine H5.l 3 ?_;refine Aa (fun c1'=>?_) (fun c1'=>?_)
    ·refine H5.l 3 ?_;apply Aa<;>intro c
     ·refine H5.l 0 ?_;refine H5.U 3 ?_;intro w6 H6;simp only[aB,aA]at H6;rw[hq,aF (show Fa x from⟨c1',c⟩)];exact H6
     ·exact no (fun h=>c h.2)
    ·exact no (fun h=>c1' h.1)
 ·obtain rfl:k=M.length:=by omega
  rw[bI]at H3 ⊢;exact⟨_,_,rfl,H3.sub (R':=[_]) (fun i=>i+2) (fun i r hi=>by
   rcases i with _|i
   ·exact hi
   ·simp at hi) (fun i j _ _ h=>by omega)⟩
end
end Go.Proofs.YtmbppohkadmjgaaGreat
namespace Go.Sx
open Go.RowKit
section
variable{A0:Nat->Prop}{M:List Nat}{w0 w:World}{X T V:List Res}{r:Res}{P:World->Prop}
end
def Kj(s:Sd)(upto:Int)(M:List Rg)(p:List Un×Bool)(u:Un):List Un×Bool:=
 if upto<=s.place u.sn then (p.1++[u],p.2)
 else if (Cu u M).2=true then
  (if u.again.length=0/\0<(Cu u M).1.length then
   (if u.tries=s.lk.tries then (p.1++[{ u with again:=(Cu u M).1 }],true) else (p.1++[{ u with again:=(Cu u M).1,tries:=u.tries+1 }],p.2))
   else (p.1++[{ u with again:=(Cu u M).1 }],p.2))
 else if Ef u then p else (p.1++[u],p.2)
def Ad3(s:Sd)(r:Stt):Sd:=
 let p:=s.units.foldl (Kj s (s.place r.upto) r.miss) ([],false)
 let cut:=s.poll≠ -1/\s.place s.poll<s.place r.upto
 { s with units:=p.1,failed:=p.2,first:=(match p.1 with|u::_=>u.sn| []=>s.next),poll:=if cut then-1 else s.poll,left:=if cut then 0 else s.left }
def Sp(s:Sd)(r:Stt):Sd×Int:=
 if s.okB=false\/¬okS s.lk.bits r then (.zero,1) else if s.failed=true then (.zero,16) else if s.place r.upto>s.place s.next then (.zero,3) else (Ad3 s r,0)
end Go.Sx
namespace Go.Proofs.YtmbppohkadmjgaaGreat
open Go.Sx Go.RowKit
set_option maxRecDepth 100000
theorem Vo{s:Sd}{a:Option Addr}{c b o:Nat}{n:Int}{w:World}(hc:cellsAt w ⟨b,o,none⟩ 0 (Aq s a c))(hb:Bv s.lk.bits):Calls Tryz.prog Cj #[(.pointer (some ⟨b,o,none⟩)),(.int .i64 n)] w fun e w'=>e=.returned (.int .i64 (s.place n))/\Below w.heap.size w w':=by
 apply Pd;have H:=St.nil w;refine H.drew ?_;clear H;intro w1 H1;have hc1:=Av hc H1.below;refine⟨(· <w1.heap.size),?_⟩;refine⟨_,lq (j:=0) hc1 rfl,?_⟩;refine⟨_,lq (j:=6) hc1 rfl,?_⟩;refine serial_Distance_ct.mono ?_;rintro _ w2 ⟨rfl,hb2⟩;have H2:=H1.pass hb2;refine⟨_,rfl,?_⟩;refine⟨hb2.keeps,?_⟩;obtain⟨hb1,hb3⟩:=hb;exact⟨by rw[aF (by omega)];rfl,H2.below⟩
end Go.Proofs.YtmbppohkadmjgaaGreat
