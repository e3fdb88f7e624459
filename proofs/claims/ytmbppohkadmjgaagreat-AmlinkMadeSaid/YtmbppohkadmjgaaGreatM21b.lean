import Derived.Test.YtmbppohkadmjgaaGreatM21a
import Derived.Test.YtmbppohkadmjgaaGreatM18
import Derived.Test.YtmbppohkadmjgaaGreatAz
import Derived.Test.YtmbppohkadmjgaaGreatAz0
import Derived.Test.YtmbppohkadmjgaaGreatHp
import Derived.Test.YtmbppohkadmjgaaGreatDice
namespace Go.Proofs.YtmbppohkadmjgaaGreat
open Go.Sx Go.RowKit
set_option maxRecDepth 100000
def Bdb(w:World)(l:List Rg):Ending->World->Prop:=fun e w'=>∃a c,l.length<=c/\e=.returned (.slice a l.length c)/\Ti w w' fun w=>SlR (CE Bn) 3 w a l
section
variable{s:Rc}{a:Option Addr}{c:Nat}{s_b s_o:Nat}{n:Int}{w:World}
theorem Th{x:Pa}{a a2:Option Addr}{c c2 q:Nat}(hq:w.cell? ⟨q,0,none⟩=some (.int .i64 n)):Calls Tryz.prog Et #[Va x a c a2 c2,(.pointer (some ⟨q,0,none⟩))] w fun e w'=>e=.returned (.bool (decide (x.sn=n)))/\Below w.heap.size w w':=by
 apply Se;have H:=St.nil w;refine H.alloc ?_;clear H;intro b w1 H1;refine H1.l 0 ?_;refine⟨_,H1.below.get hq,?_⟩;refine Aw ?_;exact⟨rfl,H1.below⟩
theorem Vv(hc:cellsAt w ⟨s_b,s_o,none⟩ 0 (Bi s a c))(hu:PaR w a s.parts)(hf:FitP s.parts)(hall:∀x∈s.parts,paB x=true):Calls Tryz.prog Ia #[(.pointer (some ⟨s_b,s_o,none⟩)),(.int .i64 n)] w (Bdb w (Sn s n)):=by
 apply Tt;have H:=St.nil w;obtain⟨hf1,hf2⟩:=hf;have hidx:=Ayp (fun p:Pa=>decide (p.sn=n)) s.parts;refine H.alloc ?_;clear H;intro b w1 H1;refine⟨_,_,_,lq (j:=13) (Av hc H1.below) rfl,?_⟩;refine(Apy (ff:=#[]) (fc:=#[(.pointer (some ⟨b,0,none⟩))]) (g:=Et) (Cw hu H1.below) (by omega) (fun x=>decide (x.sn=n)) (by kernel_rfl) fun w' x a1 c1 a2 c2 hx hw'=>?_).mono ?_
 ·exact Th (hw'.get (H1.cell (i:=0) (o:=0) rfl rfl))
 rintro _ w2 ⟨rfl,hb2⟩;have H2:=H1.pass hb2;clear H1;refine⟨_,rfl,?_⟩;apply Aa<;>intro c2
 ·have e:Sn s n=[⟨n,0,0⟩]:=by unfold Sn;rw[aF c2];rfl
  rw[e];refine H2.l 0 ?_;refine H2.alloc ?_;clear H2;intro b1 w3 H3;have H3:=H3.litE Br (i:=1) [Rg.mk n 0 0] rfl (show 1<=maxLen by decide);exact⟨some ⟨b1,0,none⟩,1,aG _,rfl,((H3.shareE Br (i:=1) rfl).fin).imp fun _ h=>h.1⟩
 ·obtain⟨k,hk,hi,hpk⟩:=hidx.resolve_left fun h=>c2 (by omega);have hm:=aJ hk;obtain⟨x,hx⟩:∃x,x=s.parts[k]:=⟨_,rfl⟩;rw[<-hx]at hm hpk;have hxn:x.sn=n:=of_decide_eq_true hpk;obtain⟨hxc,hxd⟩:=hf2 x hm;have hpa:=hall x hm;have e:Sn s n=Ve n (some x):=by unfold Sn;rw[aE c2,hi,bK,List.getElem?_eq_getElem hk,<-hx]
  rw[e];refine⟨_,_,_,lq (j:=13) (Av hc H2.below) rfl,?_⟩;refine Uu hu k hi hk fun b2 hb2=>?_;rw[<-hx]at hb2;obtain⟨a1,c1',a2,c2',hb2,hd,hr,_⟩:=hb2;refine⟨_,_,_,_,_,_,_,_,_,Av hb2 H2.below,?_⟩;refine H2.alloc ?_;clear H2;intro b3 w4 H4;refine H4.s 1 ?_;clear H4;intro w5 H5;refine H5.B 1 ?_;apply Al<;>intro c1
  ·refine⟨none,0,?_,?_,(H5.fin.imp fun _ _=>?_)⟩
   ·rw[Ve,aF c1];exact aG _
   ·rw[Ve,aF c1];rfl
   ·rw[Ve,aF c1];exact .inl rfl
  ·obtain⟨ln,hln⟩:∃ln,ln=if x.len=-1 then (65535:Int) else x.len:=⟨_,rfl⟩
   have em:Ve n (some x)=gapsS n x.come 0 ln:=by rw[Ve,aE (by rw[c1];decide),hln]
   rw[em];have hnum:Ab6 x:=by rw[paB,aE (by rw[c1];decide),aH,aV]at hpa;exact hpa.1
   have hg:Alj x.come n ln=(gapsS n x.come 0 ln,0):=by
    obtain⟨h1,_,h3,_,h5,h6,_⟩:=hnum;have h7:=Awl h3 (by omega);exact Ams h3 (by rw[hln];split<;>omega) (by rw[hln];split<;>omega)
   refine H5.l 1 ?_;refine⟨fun length w6=>St (fun _=>False) [] w w6 [.blk b Ib [(.int .i64 n)],.blk b3 Ac (Ix x a1 c1' a2 c2')] (fun _=>True)/\length=ln,?_,?_⟩
   ·rintro _ length w6 ⟨H6,rfl⟩;refine H6.m 1 ?_;refine H6.l 0 ?_;have C:=Aai (l_c:=c2') (sn:=n) (len:=length) (hr.belowE H6.below) (by omega);rw[hg]at C;dsimp only at C;refine C.mono ?_;clear C;rintro _ w7 ⟨r_a,r_c,hlc,rfl,K⟩;have H7:=H6.callF K;clear H6;refine⟨_,_,_,_,rfl,?_⟩;exact⟨r_a,r_c,hlc,rfl,H7.fin.imp fun _ h=>h.1⟩
   ·apply Aa<;>intro c3
    ·exact⟨H5,by rw[hln,aF c3]⟩
    ·exact⟨H5,by rw[hln,aE c3]⟩
theorem Agt(hu:PaR w a s.parts)(hl:SmP s.parts):Calls Tryz.prog Ph #[Fw s a c] w (RetS w (Lm s).1 (Lm s).2):=by
 apply Acs;have H:=St.nil w;refine H.alloc ?_;clear H;intro b w1 H1;refine H1.alloc ?_;clear H1;intro b1 w2 H2;refine⟨_,_,_,_,_,_,_,_,_,_,_,_,_,_,_,_,H2.cells (i:=0) rfl,?_⟩;refine(Oq (Cw hu H2.below) hl).mono ?_;rintro _ w3 ⟨rfl,hb3⟩;have H3:=H2.pass hb3;clear H2;refine⟨_,rfl,?_⟩;apply Bq<;>intro c2
 ·refine H3.s 1 ?_;clear H3;intro w4 H4;refine⟨_,_,_,_,H4.cells (i:=1) rfl,?_⟩;rw[Lm,aF c2];exact RetS.zero H4.below _
 ·obtain⟨hf,hlk,hs1,hs2,hs3,hq,hall⟩:=Ty c2;have hb:=hlk.1;have hp:=Cm hb;have hpr:=Fb s s.upto;rw[Lm,aE (by rw[c2];decide)];obtain⟨d,hd⟩:∃d,d=(s.place s.upto).toNat:=⟨_,rfl⟩;rw[<-hd];refine⟨_,_,_,_,_,_,_,_,_,_,_,_,_,_,_,_,H3.cells (i:=0) rfl,?_⟩;refine H3.alloc ?_;clear H3;intro b2 w5 H5;refine H5.l 0 ?_;refine H5.alloc ?_;clear H5;intro b3 w6 H6;refine H6.s 3 ?_;clear H6;intro w7 H7;refine H7.l 0 ?_;replace H7:St (fun _=>False) [] w w7 [.blk b Ag (Bi s a c),.blk b1 Ai [.int .i64 0,.slice none 0 0],.blk b2 Cd (Bi s a c),.blk b3 Ai [.int .i64 s.upto,.slice none 0 0]] (fun _=>True):=H7;have H7:=H7.nilE Bn Af 3;simp only[aD,aC]at H7;refine⟨fun n=>((2^s.lk.bits.toNat-s.place n).toNat,fun w8=>∃(j:Nat) (O:List Rg) (oa:Option Addr) (oc:Nat),n=s.num j/\j<=d/\Aaa s d s.first []=Aaa s (d-j) (s.num j) O/\O.length<=64/\St (fun _=>False) [] w w8 [.blk b Ag (Bi s a c),.blk b1 Ai [.int .i64 0,.slice none 0 0],.blk b2 Cd (Bi s a c),.blk b3 Ai [.int .i64 s.upto,.slice oa O.length oc],.els Bn Af 3 oa oc O] (fun _=>True)),⟨0,[],none,0,(Ao5 hs1).symm,by omega,by rw[Ao5 hs1];rfl,by simp,H7⟩,?_⟩;clear H7;rintro _ n w8 ⟨j,O,oa,oc,rfl,hj,hT,hO,H8⟩;have hjp:s.place (s.num j)=j:=Akp hb hs1 (by omega);refine H8.l 0 ?_;apply An<;>intro c1
  ·have hjd:j<d:=by
    rcases aT j d with h|h
    ·exact h
    ·exact absurd (Xm hb (Awf hb j) hs3 (by omega)) c1
   have ej:d-j=(d-(j+1))+1:=by omega
   have hml:=Ard (s:=s) (n:=s.num j) fun x hx=>(hf.2 x hx).1;rw[ej,Aaa]at hT;refine(Vv (n:=s.num j) (H8.cells (i:=2) rfl) (Cw hu H8.below) hf fun x hx=>(hall x hx).1).mono ?_;rintro _ w9 ⟨r_a,r_c,_,rfl,K⟩;have H9:=H8.callF K;clear H8;obtain⟨M,hM⟩:∃M,M=Sn s (s.num j):=⟨_,rfl⟩;rw[<-hM]at hT hml H9 ⊢;refine⟨_,_,_,rfl,?_⟩;refine H9.m 3 ?_;refine Ao (by omega) ?_;apply Aa<;>intro c0
   ·rw[aF (by omega)]at hT;rw[hT];refine H9.U 3 ?_;clear H9;intro w10 H10;refine⟨_,_,_,_,H10.cells (i:=3) rfl,?_⟩;refine H10.s 1 ?_;clear H10;intro w11 H11;refine⟨_,_,_,_,H11.cells (i:=1) rfl,?_⟩;have hc:=H11.capE (i:=4) rfl;exact⟨oa,oc,hc,rfl,((St.shareE (H11.imp fun _ h=>h.2) Br (i:=4) rfl).fin).imp fun _ h=>h.1⟩
   ·rw[aE (by omega)]at hT;refine H9.m 3 ?_;refine H9.appE Br (i:=4) rfl Bo H9.get.1 (by omega) (by omega) ?_;intro x_a2 x_c2 w12 H12;refine H12.U 3 ?_;clear H12;intro w13 H13;have hnj:=Awf hb j;unfold Bt at hnj;refine(Eb (H13.cells (i:=2) rfl) hb (by omega)).mono ?_;rintro _ w14 ⟨rfl,hb14⟩;have H14:=H13.pass hb14;clear H13;refine⟨_,rfl,?_⟩;have hsu:=Auv (s:=s) hb j;have hj1:s.place (s.num (j+1))=(j+1:Nat):=Akp hb hs1 (by omega);rw[hsu]at hT ⊢;refine⟨⟨j+1,O++M,x_a2,x_c2,rfl,by omega,hT,by rw[aP];omega,H14.imp fun _ _=>trivial⟩,?_⟩;dsimp only;rw[hjp,hj1];omega
  ·have hjd:j=d:=by rw[c1]at hjp;omega
   subst hjd;rw[cL,Aaa]at hT;rw[hT];refine⟨_,_,_,_,H8.cells (i:=3) rfl,?_⟩;refine H8.s 1 ?_;clear H8;intro w15 H15;refine⟨_,_,_,_,H15.cells (i:=1) rfl,?_⟩;have hc:=H15.capE (i:=4) rfl;exact⟨oa,oc,hc,rfl,((H15.shareE Br (i:=4) rfl).fin).imp fun _ h=>h.1⟩
end
end Go.Proofs.YtmbppohkadmjgaaGreat
namespace Go.Sx
theorem Aot{s:Rc}:∀ {L:List Pa} {last:Int},Fv s last L=true->(∀x∈L,last<s.place x.sn)/\L.Pairwise fun x y=>s.place x.sn<s.place y.sn
 | [],last,_=>⟨fun x hx=>by simp at hx,.nil⟩
 |p::l,last,h=>by
  simp only[Fv,aH]at h;obtain⟨h1,h2⟩:=h;obtain⟨h3,h4⟩:=Aot h2;unfold Aqx at h1;simp only[aH,aO]at h1;refine⟨fun x hx=>?_,cJ.2 ⟨h3,h4⟩⟩;rcases bB.1 hx with rfl|hx
  ·exact h1.1.1.2.1
  ·have:=h3 x hx;have:=h1.1.1.2.1;omega
theorem Ayi{s:Rc}(h:s.okB=true):∀i j (hi:i<s.parts.length) (hj:j<s.parts.length),i<j->s.place s.parts[i].sn<s.place s.parts[j].sn:=by
 unfold Rc.okB at h;simp only[aH]at h;exact fun i j hi hj hij=>cK.1 (Aot h.1.2).2 i j hi hj hij
end Go.Sx
namespace Go.Proofs.YtmbppohkadmjgaaGreat
open Go.Sx Go.RowKit
set_option maxRecDepth 100000
section
variable{s:Rc}{a:Option Addr}{c:Nat}{w:World}
theorem Amc(hu:PaR w a s.parts)(hl:SmP s.parts):Calls Tryz.prog Tj #[Fw s a c] w (RetS w (Lm s).1 (Lm s).2):=by
 apply Ahz;have H:=St.nil w;refine H.alloc ?_;clear H;intro b w1 H1;refine H1.alloc ?_;clear H1;intro b1 w2 H2;refine⟨_,_,_,_,_,_,_,_,_,_,_,_,_,_,_,_,H2.cells (i:=0) rfl,?_⟩;refine(Pf (Cw hu H2.below) hl).mono ?_;rintro _ w3 ⟨rfl,hb3⟩;have H3:=H2.pass hb3;clear H2;refine⟨_,rfl,?_⟩;apply Bq<;>intro c6
 ·refine H3.s 1 ?_;clear H3;intro w4 H4;refine⟨_,_,_,_,H4.cells (i:=1) rfl,?_⟩;rw[Lm,aF c6];exact RetS.zero H4.below _
 ·obtain⟨hf,hlk,hs1,hs2,hs3,hq,hall⟩:=Ty c6;have hasc:=Ayi c6;have hb:=hlk.1;have hp:=Cm hb;have hb':=hb;obtain⟨hb1,hb2⟩:=hb';have hpr:=Fb s s.upto;rw[Lm,aE (by rw[c6];decide)];obtain⟨d,hd⟩:∃d,d=(s.place s.upto).toNat:=⟨_,rfl⟩;rw[<-hd];have hdi:(d:Int)=s.place s.upto:=by omega
  clear hd;have hs1':=hs1;unfold Bt at hs1';have hf1:=hf.1;refine H3.l 0 ?_;refine H3.alloc ?_;clear H3;intro b2 w5 H5;refine H5.s 2 ?_;clear H5;intro w6 H6;replace H6:St (fun _=>False) [] w w6 [.blk b Ag (Bi s a c),.blk b1 Ai [.int .i64 0,.slice none 0 0],.blk b2 Ai [.int .i64 s.upto,.slice none 0 0]] (fun _=>True):=H6;have H6:=H6.nilE Bn Af 3;simp only[aD,aC]at H6;refine⟨fun k i=>((d-i).toNat,fun w7=>∃(j kk:Nat) (O:List Rg) (oa:Option Addr) (oc:Nat),k=kk/\i=j/\kk<=s.parts.length/\j<=d/\(∀q (hq:q<s.parts.length),q<kk->s.place s.parts[q].sn<j)/\(∀q (hq:q<s.parts.length),kk<=q->j<=s.place s.parts[q].sn)/\
   Aaa s d s.first []=Aaa s (d-j) (s.num j) O/\O.length<=64/\St (fun _=>False) [] w w7 [.blk b Ag (Bi s a c),.blk b1 Ai [.int .i64 0,.slice none 0 0],.blk b2 Ai [.int .i64 s.upto,.slice oa O.length oc],.els Bn Af 3 oa oc O] (fun _=>True)),⟨0,0,[],none,0,rfl,rfl,by omega,by omega,fun q _ h=>by omega,fun q _ _=>(Fb s _).1,by rw[Ao5 hs1];rfl,by simp,H6⟩,?_⟩
  clear H6;rintro _ _ _ w7 ⟨j,kk,O,oa,oc,rfl,rfl,hk,hj,hlo,hhi,hT,hO,H7⟩;refine⟨_,_,_,_,_,_,_,_,_,_,_,_,_,_,_,_,H7.cells (i:=0) rfl,?_⟩;refine H7.l 0 ?_;refine(Bw hb).mono ?_;rintro _ w8 ⟨rfl,hb8⟩;have H8:=H7.pass hb8;clear H7;refine⟨_,rfl,?_⟩;apply Aa<;>intro c5
  ·have hjd:j<d:=by omega
   have h9j: -9223372036854775808<=(j:Int)+1/\(j:Int)+1<=9223372036854775807:=by omega
   have h9k: -9223372036854775808<=(kk:Int)+1/\(kk:Int)+1<=9223372036854775807:=by omega
   have h9s: -9223372036854775808<=s.first+(j:Int)/\s.first+(j:Int)<=9223372036854775807:=by omega
   clear hp;have ej:d-j=(d-(j+1))+1:=by omega
   have hml:=Ard (s:=s) (n:=s.num j) fun x hx=>(hf.2 x hx).1;have hjp:s.place (s.num j)=j:=Akp hb hs1 (by omega);have hsu:=Auv (s:=s) hb j;rw[ej,Aaa,hsu]at hT;have none_:(∀h:kk<s.parts.length,s.parts[kk].sn≠s.num j)->Sn s (s.num j)=[⟨s.num j,0,0⟩]/\∀q (hq:q<s.parts.length),kk<=q->(j:Int)+1<=s.place s.parts[q].sn:=fun h=>by
    have key:∀q (hq:q<s.parts.length),kk<=q->(j:Int)+1<=s.place s.parts[q].sn:=fun q hq hkq=>by
     have h1:=hhi q hq hkq;rcases aT kk q with h2|h2
     ·have:=hasc kk q (by omega) hq h2;have:=hhi kk (by omega) (aG _);omega
     ·obtain rfl:kk=q:=by omega
      have h3:s.place s.parts[kk].sn≠j:=fun e=>h hq (Xm hb (hall _ (aJ _)).2 (Awf hb j) (by rw[e,hjp]));omega
    refine⟨Av9 fun x hx e=>?_,key⟩;obtain⟨q,hq,rfl⟩:=bF hx;rw[<-e]at hjp;rcases aT q kk with h2|h2
    ·have:=hlo q hq h2;omega
    ·have:=key q hq h2;omega
   refine H8.l 0 ?_;refine H8.l 0 ?_;refine Ao h9s ?_;refine ref02_Low_ct.mono ?_;rintro _ w9 ⟨rfl,hb9⟩;have H9:=H8.pass hb9;clear H8;refine⟨_,rfl,?_⟩;rw[aF (by omega)];have enum:(s.first+(j:Int))%2^s.lk.bits.toNat=s.num j:=rfl;rw[enum];refine H9.alloc ?_;clear H9;intro b3 w10 H10;refine⟨fun k1 more_a more_l more_c w16=>∃(kk':Nat) (M:List Rg),k1=kk'/\more_l=M.length/\M=Sn s (s.num j)/\kk'<=s.parts.length/\(∀q (hq:q<s.parts.length),q<kk'->s.place s.parts[q].sn<j+1)/\(∀q (hq:q<s.parts.length),kk'<=q->(j:Int)+1<=s.place s.parts[q].sn)/\
    St (fun _=>False) [] w w16 [.blk b Ag (Bi s a c),.blk b1 Ai [.int .i64 0,.slice none 0 0],.blk b2 Ai [.int .i64 s.upto,.slice oa O.length oc],.els Bn Af 3 oa oc O] (fun w=>SlR (CE Bn) 3 w more_a M),?_,?_⟩
   ·rintro _ k1 more_a more_l more_c w16 ⟨kk',M,rfl,rfl,hM,hk',hlo',hhi',H16⟩;rw[<-hM]at hT hml;refine H16.m 2 ?_;refine Ao (by omega) ?_;apply Aa<;>intro c4
    ·rw[aF (by omega)]at hT;rw[hT];refine H16.U 2 ?_;clear H16;intro w17 H17;refine⟨_,_,_,_,H17.cells (i:=2) rfl,?_⟩;refine H17.s 1 ?_;clear H17;intro w18 H18;refine⟨_,_,_,_,H18.cells (i:=1) rfl,?_⟩;have hc:=H18.capE (i:=3) rfl;exact⟨oa,oc,hc,rfl,((H18.shareE Br (i:=3) rfl).fin).imp fun _ h=>h.1⟩
    ·rw[aE (by omega)]at hT;refine H16.m 2 ?_;refine H16.appE Br (i:=3) rfl Bo H16.get (by omega) (by omega) ?_;intro x_a7 x_c7 w19 H19;refine H19.U 2 ?_;clear H19;intro w20 H20;refine Ao h9j ?_;exact⟨⟨j+1,kk',O++M,x_a7,x_c7,rfl,by omega,hk',by omega,fun q hq h=>by have:=hlo' q hq h;omega,fun q hq h=>by have:=hhi' q hq h;omega,hT,by rw[aP];omega,H20.imp fun _ _=>trivial⟩,by dsimp only;omega⟩
   ·replace H10:St (fun _=>False) [] w w10 [.blk b Ag (Bi s a c),.blk b1 Ai [.int .i64 0,.slice none 0 0],.blk b2 Ai [.int .i64 s.upto,.slice oa O.length oc],.els Bn Af 3 oa oc O,.blk b3 Af ([Rg.mk (s.num j) 0 0].flatMap Bn)] (fun _=>True):=H10;refine⟨fun x6 w11=>St (fun _=>False) [] w w11 [.blk b Ag (Bi s a c),.blk b1 Ai [.int .i64 0,.slice none 0 0],.blk b2 Ai [.int .i64 s.upto,.slice oa O.length oc],.els Bn Af 3 oa oc O,.blk b3 Af ([Rg.mk (s.num j) 0 0].flatMap Bn)] (fun _=>True)/\(x6=true↔∃h:kk<s.parts.length,s.parts[kk].sn=s.num j),?_,?_⟩
    ·rintro _ x6 w11 ⟨H11,hj⟩;apply Al<;>intro c3
     ·obtain⟨hlt,hsn⟩:=hj.1 c3;have hm:=aJ hlt;obtain⟨x,hx⟩:∃x,x=s.parts[kk]:=⟨_,rfl⟩;rw[<-hx]at hm hsn;obtain⟨hxc,hxd⟩:=hf.2 x hm;have hpa:=(hall x hm).1;have hM0:Sn s (s.num j)=Ve (s.num j) (some x):=by
       rw[hx];refine Avm hlt (by rw[<-hx];exact hsn) fun q hq hqk e=>?_;have:=hlo q hq hqk;rw[e,hjp]at this;omega
      have hxp:s.place s.parts[kk].sn=j:=by rw[<-hx,hsn,hjp]
      have hlo':∀q (hq:q<s.parts.length),q<kk+1->s.place s.parts[q].sn<(j:Int)+1:=fun q hq h=>by
       rcases aT q kk with h2|h2
       ·have:=hlo q hq h2;omega
       ·obtain rfl:q=kk:=by omega
        omega
      have hhi':∀q (hq:q<s.parts.length),kk+1<=q->(j:Int)+1<=s.place s.parts[q].sn:=fun q hq h=>by
       have:=hasc kk q hlt hq (by omega);omega
      refine H11.m 0 ?_;refine Uu hu kk rfl hlt fun b5 hb5=>?_;rw[<-hx]at hb5;obtain⟨a1,c1',a2,c2',hb5,hd5,hr5,_⟩:=hb5;refine⟨_,_,_,_,_,_,_,_,_,Av hb5 H11.below,?_⟩;refine H11.alloc ?_;clear H11;intro b6 w12 H12;refine H12.s 5 ?_;clear H12;intro w13 H13;refine Ao h9k ?_;refine H13.B 5 ?_;apply Al<;>intro c2
      ·rw[hM0,Ve,aF c2,cU,aL,aE (by omega)]at hT;refine Ao h9j ?_;exact⟨⟨j+1,kk+1,O,oa,oc,by omega,by omega,by omega,by omega,fun q hq h=>by have:=hlo' q hq h;omega,fun q hq h=>by have:=hhi' q hq h;omega,hT,hO,St.left (X:=[_,_,_,_]) H13⟩,by dsimp only;omega⟩
      ·obtain⟨ln,hln⟩:∃ln,ln=if x.len=-1 then (65535:Int) else x.len:=⟨_,rfl⟩
       have em:Ve (s.num j) (some x)=gapsS (s.num j) x.come 0 ln:=by rw[Ve,aE (by rw[c2];decide),hln]
       have hnum:Ab6 x:=by rw[paB,aE (by rw[c2];decide),aH,aV]at hpa;exact hpa.1
       have hg:Alj x.come (s.num j) ln=(gapsS (s.num j) x.come 0 ln,0):=by
        obtain⟨h1,_,h3,_,h5,h6,_⟩:=hnum;have h7:=Awl h3 (by omega);exact Ams h3 (by rw[hln];split<;>omega) (by rw[hln];split<;>omega)
       refine H13.l 5 ?_;apply Aa<;>intro c1
       ·refine H13.m 5 ?_;have C:=Wm (l_c:=c2') (sn:=s.num j) (len:=ln) (hr5.belowE H13.below) (by omega);rw[hg]at C;rw[hln,aF c1]at C;rw[hln,aF c1]at em;dsimp only at C;refine C.mono ?_;clear C;rintro _ w14 ⟨r_a,r_c,hlc,rfl,K⟩;have H14:=H13.callF K;clear H13;refine⟨_,_,_,_,rfl,?_⟩;exact⟨kk+1,_,by omega,rfl,by rw[hM0,em],by omega,hlo',hhi',St.left (X:=[_,_,_,_]) (H14.imp fun _ h=>h.1)⟩
       ·refine H13.m 5 ?_;have C:=Wm (l_c:=c2') (sn:=s.num j) (len:=ln) (hr5.belowE H13.below) (by omega);rw[hg]at C;rw[hln,aE c1]at C;rw[hln,aE c1]at em;dsimp only at C;refine C.mono ?_;clear C;rintro _ w15 ⟨r_a,r_c,hlc,rfl,K⟩;have H15:=H13.callF K;clear H13;refine⟨_,_,_,_,rfl,?_⟩;exact⟨kk+1,_,by omega,rfl,by rw[hM0,em],by omega,hlo',hhi',St.left (X:=[_,_,_,_]) (H15.imp fun _ h=>h.1)⟩
     ·obtain⟨hn1,hn2⟩:=none_ fun h e=>by rw[hj.2 ⟨h,e⟩]at c3;cases c3
      have H11:=H11.litE Br (i:=4) [Rg.mk (s.num j) 0 0] rfl (show 1<=maxLen by decide);have H11:=H11.shareE Br (i:=4) rfl;exact⟨kk,[⟨s.num j,0,0⟩],rfl,rfl,hn1.symm,hk,fun q hq h=>by have:=hlo q hq h;omega,hn2,St.left (X:=[_,_,_,_]) (H11.imp fun _ h=>h.1)⟩
    ·refine H10.m 0 ?_;apply Aa<;>intro c0
     ·have hlt:kk<s.parts.length:=by omega
      refine H10.m 0 ?_;refine Uu hu kk rfl hlt fun b4 hb4=>?_;obtain⟨a1,c1',a2,c2',hb4,_,_,_⟩:=hb4;refine⟨_,by have:=Bc (Av hb4 H10.below) 0 _ rfl;rwa[Ls]at this,?_⟩;exact⟨H10,by rw[aV];exact⟨fun h=>⟨hlt,h⟩,fun⟨_,h⟩=>h⟩⟩
     ·exact⟨H10,bA (by decide) fun⟨h,_⟩=>c0 (by omega)⟩
  ·obtain rfl:j=d:=by omega
   rw[cL,Aaa]at hT;rw[hT];refine⟨_,_,_,_,H8.cells (i:=2) rfl,?_⟩;refine H8.s 1 ?_;clear H8;intro w21 H21;refine⟨_,_,_,_,H21.cells (i:=1) rfl,?_⟩;have hc:=H21.capE (i:=3) rfl;exact⟨oa,oc,hc,rfl,((H21.shareE Br (i:=3) rfl).fin).imp fun _ h=>h.1⟩
end
end Go.Proofs.YtmbppohkadmjgaaGreat
namespace Go.Sx
theorem Asl{b sp:Int}{x:Stt}(h:(fitR b x sp).2=0):okS b (fitR b x sp).1:=by
 unfold fitR at h ⊢;by_cases h1:¬okS b x
 ·rw[aF h1]at h;exact absurd h (by decide)
 rw[aE h1]at h ⊢;by_cases h2:sp<3
 ·rw[aF h2]at h;exact absurd h (by decide)
 rw[aE h2]at h ⊢;exact(Ayn (u:=x.upto) (L:=x.miss) (by simpa using h1) (by omega) rfl).1
theorem Ay6{b sp:Int}{x:Stt}(h:(fitR b x sp).2=0):(fitR b x sp).1.miss.length<=64:=(Asl h).2.2.1
theorem Arj(s:Rc):∀(k:Nat) (n:Int) (O:List Rg),O.length<=64->(Aaa s k n O).miss.length<=64
 |0,_,O,h=>h
 |k+1,n,O,h=>by
  unfold Aaa;split
  ·exact h
  ·exact Arj s k _ _ (by rw[aP];omega)
theorem Arc(s:Rc):(Lm s).1.miss.length<=64:=by
 unfold Lm;split
 ·simp[Stt.zero]
 ·exact Arj s _ _ _ (by simp)
theorem Awq{b sp:Int}{x:Stt}(h:x.miss.length<=64):(fitR b x sp).1.miss.length<=64:=by
 rcases (show (fitR b x sp).2=0\/(fitR b x sp).1=.zero by
  unfold fitR;split
  ·exact .inr rfl
  ·split
   ·exact .inr rfl
   ·exact .inl rfl)with h1|h1
 ·exact Ay6 h1
 ·rw[h1];simp[Stt.zero]
end Go.Sx
namespace Go.Proofs.YtmbppohkadmjgaaGreat
open Go.Sx Go.RowKit
set_option maxRecDepth 100000
def RetRB(w:World)(x:Rc)(bs:List Int)(E:Int)(e:Ending)(w':World):Prop:=
 ∃a c L ba bc,L.map (·.p)=x.parts/\bs.length<=bc/\e=.returned (.tuple #[Fw x a c,.slice ba bs.length bc,.int .i64 E])/\St (fun _=>False) [] w w' (.els Bf Ac 5 a c L::L.map agP) (fun w=>CoR L w/\SlR (Bp .u8) 1 w ba bs)
theorem RetRB.read{w w':World}{x:Rc}{bs:List Int}{E:Int}{e:Ending}(h:RetRB w x bs E e w'):∃a c ba bc,bs.length<=bc/\e=.returned (.tuple #[Fw x a c,.slice ba bs.length bc,.int .i64 E])/\Ti w w' fun w=>PaR w a x.parts/\SlR (Bp .u8) 1 w ba bs:=by
 obtain⟨a,c,L,ba,bc,hL,hbc,he,H⟩:=h;have K:=Aik (R:=[.els Bf Ac 5 a c L]) H;refine⟨a,c,ba,bc,hbc,he,?_⟩;rw[<-hL];exact(K.shareE encPP_ok (i:=0) rfl).fin.imp fun _ h=>⟨Atc h.1 h.2.1 h.2.2.1,h.2.2.2⟩
theorem Vx{w w':World}{P:World->Prop}{R:List Res}{E:Int}(H:St (fun _=>False) [] w w' R P):RetRB w .zero [] E (.returned (.tuple #[Fw .zero none 0,.slice none 0 0,.int .i64 E])) w':=
 ⟨none,0,[],none,0,rfl,aG _,rfl,(H.fin.nilE Bf Ac 5).weaken0.imp fun _ _=>⟨fun x hx=>by simp at hx,.nil⟩⟩
theorem Bbc{A0:Nat->Prop}{w w':World}{P:World->Prop}{ua ba:Option Addr}{uc:Nat}{bs:List Int}{L:List PP}{X:List Res}(H:St A0 [] w w' (X++.els Bf Ac 5 ua uc L::L.map agP) P)(hP:∀w,P w->CoR L w/\SlR (Bp .u8) 1 w ba bs):St A0 [] w w' (.els Bf Ac 5 ua uc L::L.map agP) (fun w=>CoR L w/\SlR (Bp .u8) 1 w ba bs):=
 (H.sub (fun i=>i+X.length) (fun i r h=>by rw[List.getElem?_append_right (by omega),dL];exact h) (fun i j _ _ h=>by omega)).imp hP
section
variable{s:Rc}{a:Option Addr}{c:Nat}{size:Int}{w:World}
theorem Au5(h:s.okB=false):Fu s size=(.zero,[],1):=by unfold Fu;rw[aF h]
theorem Auz(h:s.okB=true)(h2:size<0\/size>4096):Fu s size=(.zero,[],3):=by unfold Fu;rw[aE (by rw[h];decide),aF h2]
theorem Ahe(h:s.okB=true)(h2:¬(size<0\/size>4096))(h3:s.due=false\/s.quiet>0):Fu s size=(.zero,[],14):=by unfold Fu;rw[aE (by rw[h];decide),aE h2,aF h3]
theorem Atq(h:s.okB=true)(h2:¬(size<0\/size>4096))(h3:¬(s.due=false\/s.quiet>0))(h4:(fitR s.lk.bits (Lm s).1 size).2≠0):Fu s size=(.zero,[],(fitR s.lk.bits (Lm s).1 size).2):=by unfold Fu;rw[aE (by rw[h];decide),aE h2,aE h3];exact aF h4
theorem Axc(h:s.okB=true)(h2:¬(size<0\/size>4096))(h3:¬(s.due=false\/s.quiet>0))(h4:(fitR s.lk.bits (Lm s).1 size).2=0):Fu s size=({ s with due:=false,quiet:=s.lk.quiet },(encS s.lk.bits (fitR s.lk.bits (Lm s).1 size).1).1,0):=by unfold Fu;rw[aE (by rw[h];decide),aE h2,aE h3];exact aE (by rw[h4];decide)
theorem Azs{b:Int}{x:Stt}(h:okS b x):(Go.Sx.encS b x).2=0:=by unfold Go.Sx.encS;rw[aF h]
theorem Aft(hu:PaR w a s.parts)(hl:SmP s.parts):Calls Tryz.prog Po #[Fw s a c,.int .i64 size] w (RetRB w (Fu s size).1 (Fu s size).2.1 (Fu s size).2.2):=by
 apply Acd;have H:=St.nil w;refine H.alloc ?_;clear H;intro b w1 H1;refine H1.alloc ?_;clear H1;intro b1 w2 H2;refine⟨_,_,_,_,_,_,_,_,_,_,_,_,_,_,_,_,H2.cells (i:=0) rfl,?_⟩;refine(Agt (Cw hu H2.below) hl).mono ?_;rintro _ w3 ⟨sa,sc,hsc,rfl,K3⟩;have H3:=H2.callF K3;clear H2;have hse:(Lm s).2=if s.okB=false then 1 else 0:=by unfold Lm;split<;>rfl
 have hml:=Arc s;obtain⟨x,hx⟩:∃x,x=(Lm s).1:=⟨_,rfl⟩;rw[<-hx]at hml hsc H3 ⊢;refine⟨_,_,_,_,_,rfl,?_⟩;refine H3.alloc ?_;clear H3;intro b2 w4 H4;refine H4.s 2 ?_;clear H4;intro w5 H5;replace H5:St (fun _=>False) [] w w5 [.blk b Ag (Bi s a c),.blk b1 Ag (Bi .zero none 0),.blk b2 Ai [.int .i64 x.upto,.slice sa x.miss.length sc]] (fun w=>SlR (CE Bn) 3 w sa x.miss/\True):=H5;refine⟨fun w11=>St (fun _=>False) [] w w11 [.blk b Ag (Bi s a c),.blk b1 Ag (Bi .zero none 0),.blk b2 Ai [.int .i64 x.upto,.slice sa x.miss.length sc]] (fun w=>SlR (CE Bn) 3 w sa x.miss/\True)/\s.okB=true/\¬(size<0\/size>4096)/\¬(s.due=false\/s.quiet>0),?_,?_⟩
 ·rintro _ w11 ⟨H11,j1,j2,j3⟩;obtain⟨hf,hlk,hs1,hs2,hs3,hq,hall⟩:=Ty j1;refine H11.l 0 ?_;refine⟨_,_,_,_,H11.cells (i:=2) rfl,?_⟩;refine(Aqv (bits:=s.lk.bits) (u:=x.upto) (l:=x.miss) (sp:=size) H11.get.1 (by omega)).mono ?_;rintro _ w12 ⟨fa,fc,hfc,rfl,K12⟩;have H12:=H11.callF K12;clear H11;have hfl:=Awq (b:=s.lk.bits) (sp:=size) hml;have hfo:=Asl (b:=s.lk.bits) (sp:=size) (x:=x);have r1:=Atq j1 j2 j3;have r2:=Axc j1 j2 j3;rw[<-hx]at r1 r2;replace H12:St (fun _=>False) [] w w12 [.blk b Ag (Bi s a c),.blk b1 Ag (Bi .zero none 0),.blk b2 Ai [.int .i64 x.upto,.slice sa x.miss.length sc]] (fun w=>SlR (CE Bn) 3 w fa (fitR s.lk.bits x size).1.miss/\SlR (CE Bn) 3 w sa x.miss/\True):=H12;show ∃r_05 r_1_a r_1_l r_1_c r_14,(Ending.returned (.tuple #[.agg #[.int .i64 (fitR s.lk.bits x size).1.upto,.slice fa (fitR s.lk.bits x size).1.miss.length fc],.int .i64 (fitR s.lk.bits x size).2]))=_/\_;obtain⟨F,hF⟩:∃F,F=fitR s.lk.bits x size:=⟨_,rfl⟩;rw[<-hF]at hfc hfl hfo r1 r2 H12 ⊢;refine⟨_,_,_,_,_,rfl,?_⟩;refine H12.s 2 ?_;clear H12;intro w13 H13;apply An<;>intro c5
  ·refine H13.s 1 ?_;clear H13;intro w14 H14;refine⟨_,_,_,_,_,_,_,_,_,_,_,_,_,_,_,_,H14.cells (i:=1) rfl,?_⟩;rw[r1 c5];exact Vx H14
  ·refine H13.l 0 ?_;refine⟨_,_,_,_,H13.cells (i:=2) rfl,?_⟩;refine(Xp (bits:=s.lk.bits) (u:=F.1.upto) (l:=F.1.miss) H13.get.1 (by omega)).mono ?_;rintro _ w15 ⟨ea,ec,hec,rfl,K15⟩;have H15:=H13.callF K15;clear H13;rw[r2 c5];show ∃b_a b_l b_c e,Ending.returned (.tuple #[.slice ea (Go.Sx.encS s.lk.bits F.1).1.length ec,.int .i64 (Go.Sx.encS s.lk.bits F.1).2])=_/\_;rw[Azs (hfo c5)];refine⟨_,_,_,_,rfl,?_⟩;refine⟨_,_,_,_,_,_,_,_,_,_,_,_,_,_,_,_,H15.cells (i:=0) rfl,?_⟩;refine(Ps (Cw hu H15.below) hf).mono ?_;rintro _ w16 ⟨g16,ua16,uc16,L16,hL16,rfl,K16⟩;have H16:=H15.callF K16;clear H15;try simp only[aD,aC]at H16
   refine⟨_,rfl,?_⟩;refine H16.drew ?_;clear H16;intro w17 H17;refine⟨fun x=>x<w17.heap.size/\x∉[g16],?_⟩;have f17:=Fr.refl [g16] w17;refine⟨⟨H17.lt (i:=0) rfl rfl,Ay3 (H17.ne (i:=0) (j:=3) rfl rfl (by decide) rfl rfl)⟩,?_⟩;refine H17.l 0 ?_;refine Bk ?_;try rw[Bd]
   refine H17.setF (i:=3) rfl (by show 12<14;decide) ?_;intro w18 g18 H18;have f18:=f17.tr g18 (by simp);refine⟨f18.keeps,?_⟩;refine Bk ?_;try rw[Bd]
   refine H18.U 3 ?_;intro w19 H19;refine Bk ?_;try rw[Bd]
   refine⟨_,_,_,_,_,_,_,_,_,_,_,_,_,_,_,_,H19.cells (i:=3) rfl,?_⟩;refine H19.s 1 ?_;clear H19;intro w20 H20;refine⟨_,_,_,_,_,_,_,_,_,_,_,_,_,_,_,_,H20.cells (i:=1) rfl,?_⟩;exact⟨ua16,uc16,L16,ea,ec,hL16,hec,rfl,Bbc (X:=[_,_,_,_]) H20 fun _ h=>⟨h.1,h.2.1⟩⟩
 ·refine Aw ?_;apply An<;>intro c4
  ·refine H5.s 1 ?_;clear H5;intro w6 H6;refine⟨_,_,_,_,_,_,_,_,_,_,_,_,_,_,_,_,H6.cells (i:=1) rfl,?_⟩;have ho:s.okB=false:=by
    rcases Bool.eq_false_or_eq_true s.okB with h|h
    ·rw[hse,h]at c4;exact absurd rfl c4
    ·exact h
   rw[hse,aF ho,Au5 ho];exact Vx H6
  ·have ho:s.okB=true:=by
    rcases Bool.eq_false_or_eq_true s.okB with h|h
    ·exact h
    ·rw[hse,h]at c4;exact absurd c4 (by decide)
   refine⟨fun x2 w7=>St (fun _=>False) [] w w7 [.blk b Ag (Bi s a c),.blk b1 Ag (Bi .zero none 0),.blk b2 Ai [.int .i64 x.upto,.slice sa x.miss.length sc]] (fun w=>SlR (CE Bn) 3 w sa x.miss/\True)/\(x2=true↔size<0\/size>4096),?_,?_⟩
   ·rintro _ x2 w7 ⟨H7,hj⟩;apply Al<;>intro c3
    ·refine H7.s 1 ?_;clear H7;intro w8 H8;refine⟨_,_,_,_,_,_,_,_,_,_,_,_,_,_,_,_,H8.cells (i:=1) rfl,?_⟩;rw[Auz ho (hj.1 c3)];exact Vx H8
    ·have hn:¬(size<0\/size>4096):=fun h=>by rw[hj.2 h]at c3;cases c3
     refine H7.B 0 ?_;apply Bq<;>intro c2
     ·refine H7.s 1 ?_;clear H7;intro w9 H9;refine⟨_,_,_,_,_,_,_,_,_,_,_,_,_,_,_,_,H9.cells (i:=1) rfl,?_⟩;rw[Ahe ho hn (.inl c2)];exact Vx H9
     ·refine H7.l 0 ?_;refine Aw ?_;apply Aa<;>intro c1
      ·refine H7.s 1 ?_;clear H7;intro w10 H10;refine⟨_,_,_,_,_,_,_,_,_,_,_,_,_,_,_,_,H10.cells (i:=1) rfl,?_⟩;rw[Ahe ho hn (.inr c1)];exact Vx H10
      ·exact⟨H7,ho,hn,fun h=>h.elim (fun h=>by rw[h]at c2;cases c2) c1⟩
   ·apply Aa<;>intro c0
    ·exact⟨H5,cP rfl (.inl c0)⟩
    ·refine Aw ?_;exact⟨H5,by rw[aV];exact⟨fun h=>.inr h,fun h=>h.elim (fun h=>absurd h c0) id⟩⟩
theorem Als(hu:PaR w a s.parts)(hl:SmP s.parts):Calls Tryz.prog Tq #[Fw s a c,.int .i64 size] w (RetRB w (Fu s size).1 (Fu s size).2.1 (Fu s size).2.2):=by
 apply Ag2;have H:=St.nil w;refine H.alloc ?_;clear H;intro b w1 H1;refine H1.alloc ?_;clear H1;intro b1 w2 H2;replace H2:St (fun _=>False) [] w w2 [.blk b Ag (Bi s a c),.blk b1 Ag (Bi .zero none 0)] (fun _=>True):=H2;refine⟨fun w9=>St (fun _=>False) [] w w9 [.blk b Ag (Bi s a c),.blk b1 Ag (Bi .zero none 0)] (fun _=>True)/\s.okB=true/\¬(size<0\/size>4096)/\¬(s.due=false\/s.quiet>0),?_,?_⟩
 ·rintro _ w9 ⟨H9,j1,j2,j3⟩;obtain⟨hf,hlk,hs1,hs2,hs3,hq,hall⟩:=Ty j1;refine⟨_,_,_,_,_,_,_,_,_,_,_,_,_,_,_,_,H9.cells (i:=0) rfl,?_⟩;refine(Amc (Cw hu H9.below) hl).mono ?_;rintro _ w10 ⟨sa,sc,hsc,rfl,K10⟩;have H10:=H9.callF K10;clear H9;have hml:=Arc s;obtain⟨x,hx⟩:∃x,x=(Lm s).1:=⟨_,rfl⟩;rw[<-hx]at hml hsc H10 ⊢;refine⟨_,_,_,_,_,rfl,?_⟩;refine H10.alloc ?_;clear H10;intro b2 w11 H11;refine H11.s 2 ?_;clear H11;intro w12 H12;refine H12.l 0 ?_;refine⟨_,_,_,_,H12.cells (i:=2) rfl,?_⟩;refine(Ash (bits:=s.lk.bits) (u:=x.upto) (l:=x.miss) (sp:=size) H12.get.1 (by omega) hsc).mono ?_;rintro _ w13 ⟨fa,fc,hfc,rfl,K13⟩;have H13:=H12.callF K13;clear H12;have hfl:=Awq (b:=s.lk.bits) (sp:=size) hml;have hfo:=Asl (b:=s.lk.bits) (sp:=size) (x:=x);have r1:=Atq j1 j2 j3;have r2:=Axc j1 j2 j3;rw[<-hx]at r1 r2;replace H13:St (fun _=>False) [] w w13 [.blk b Ag (Bi s a c),.blk b1 Ag (Bi .zero none 0),.blk b2 Ai [.int .i64 x.upto,.slice sa x.miss.length sc]] (fun w=>SlR (CE Bn) 3 w fa (fitR s.lk.bits x size).1.miss/\SlR (CE Bn) 3 w sa x.miss/\True):=H13;show ∃r_05 r_1_a r_1_l r_1_c r_14,(Ending.returned (.tuple #[.agg #[.int .i64 (fitR s.lk.bits x size).1.upto,.slice fa (fitR s.lk.bits x size).1.miss.length fc],.int .i64 (fitR s.lk.bits x size).2]))=_/\_;obtain⟨F,hF⟩:∃F,F=fitR s.lk.bits x size:=⟨_,rfl⟩;rw[<-hF]at hfc hfl hfo r1 r2 H13 ⊢;refine⟨_,_,_,_,_,rfl,?_⟩;refine H13.s 2 ?_;clear H13;intro w14 H14;apply An<;>intro c5
  ·refine H14.s 1 ?_;clear H14;intro w15 H15;refine⟨_,_,_,_,_,_,_,_,_,_,_,_,_,_,_,_,H15.cells (i:=1) rfl,?_⟩;rw[r1 c5];exact Vx H15
  ·refine H14.l 0 ?_;refine⟨_,_,_,_,H14.cells (i:=2) rfl,?_⟩;refine(Aae (bits:=s.lk.bits) (u:=F.1.upto) (l:=F.1.miss) H14.get.1 (by omega)).mono ?_;rintro _ w16 ⟨ea,ec,hec,rfl,K16⟩;have H16:=H14.callF K16;clear H14;rw[r2 c5];refine⟨_,_,_,_,rfl,?_⟩;refine⟨_,_,_,_,_,_,_,_,_,_,_,_,_,_,_,_,H16.cells (i:=0) rfl,?_⟩;refine(Ws (Cw hu H16.below) hf).mono ?_;rintro _ w17 ⟨ua17,uc17,L17,hL17,rfl,K17⟩;have H17:=H16.callF K17;clear H16;try simp only[aD,aC]at H17
   refine⟨_,_,_,_,_,_,_,_,_,_,_,_,_,_,_,_,rfl,?_⟩;refine H17.alloc ?_;clear H17;intro b3 w18 H18;have H18:=St.lastTo (X:=[_,_,_,_]) H18;try simp only[aD,aC]at H18
   refine H18.s 4 ?_;clear H18;intro w19 H19;refine H19.drew ?_;clear H19;intro w20 H20;refine⟨fun x=>x<w20.heap.size/\x∉[b3],?_⟩;have f20:=Fr.refl [b3] w20;refine⟨⟨H20.lt (i:=0) rfl rfl,Ay3 (H20.ne (i:=0) (j:=4) rfl rfl (by decide) rfl rfl)⟩,?_⟩;refine H20.l 0 ?_;refine H20.setF (i:=4) rfl (by show 12<14;decide) ?_;intro w21 g21 H21;have f21:=f20.tr g21 (by simp);refine⟨f21.keeps,?_⟩;refine H21.U 4 ?_;intro w22 H22;refine⟨_,_,_,_,_,_,_,_,_,_,_,_,_,_,_,_,H22.cells (i:=4) rfl,?_⟩;refine H22.s 1 ?_;clear H22;intro w23 H23;refine⟨_,_,_,_,_,_,_,_,_,_,_,_,_,_,_,_,H23.cells (i:=1) rfl,?_⟩;exact⟨ua17,uc17,L17,ea,ec,hL17,hec,rfl,Bbc (X:=[_,_,_]) (St.skip (X:=[_,_,_,_]) H23) fun _ h=>⟨h.1,h.2.1⟩⟩
 ·refine⟨_,_,_,_,_,_,_,_,_,_,_,_,_,_,_,_,H2.cells (i:=0) rfl,?_⟩;refine(Pf (Cw hu H2.below) hl).mono ?_;rintro _ w3 ⟨rfl,hb3⟩;have H3:=H2.pass hb3;clear H2;refine⟨_,rfl,?_⟩;apply Bq<;>intro c4
  ·refine H3.s 1 ?_;clear H3;intro w4 H4;refine⟨_,_,_,_,_,_,_,_,_,_,_,_,_,_,_,_,H4.cells (i:=1) rfl,?_⟩;rw[Au5 c4];exact Vx H4
  ·refine⟨fun x1 w5=>St (fun _=>False) [] w w5 [.blk b Ag (Bi s a c),.blk b1 Ag (Bi .zero none 0)] (fun _=>True)/\(x1=true↔size<0\/size>4096),?_,?_⟩
   ·rintro _ x1 w5 ⟨H5,hj⟩;apply Al<;>intro c3
    ·refine H5.s 1 ?_;clear H5;intro w6 H6;refine⟨_,_,_,_,_,_,_,_,_,_,_,_,_,_,_,_,H6.cells (i:=1) rfl,?_⟩;rw[Auz c4 (hj.1 c3)];exact Vx H6
    ·have hn:¬(size<0\/size>4096):=fun h=>by rw[hj.2 h]at c3;cases c3
     refine H5.B 0 ?_;apply Bq<;>intro c2
     ·refine H5.s 1 ?_;clear H5;intro w7 H7;refine⟨_,_,_,_,_,_,_,_,_,_,_,_,_,_,_,_,H7.cells (i:=1) rfl,?_⟩;rw[Ahe c4 hn (.inl c2)];exact Vx H7
     ·refine H5.l 0 ?_;refine Aw ?_;apply Aa<;>intro c1
      ·refine H5.s 1 ?_;clear H5;intro w8 H8;refine⟨_,_,_,_,_,_,_,_,_,_,_,_,_,_,_,_,H8.cells (i:=1) rfl,?_⟩;rw[Ahe c4 hn (.inr c1)];exact Vx H8
      ·exact⟨H5,c4,hn,fun h=>h.elim (fun h=>by rw[h]at c2;cases c2) c1⟩
   ·apply Aa<;>intro c0
    ·exact⟨H3,cP rfl (.inl c0)⟩
    ·refine Aw ?_;exact⟨H3,by rw[aV];exact⟨fun h=>.inr h,fun h=>h.elim (fun h=>absurd h c0) id⟩⟩
end
end Go.Proofs.YtmbppohkadmjgaaGreat
namespace Go.Sx
theorem Aj6{α:Type}{p:α->Bool}:∀ {l:List α} {k:Nat},k<=l.length->(∀j (hj:j<l.length),j<k->p l[j]=true)->(∀hk:k<l.length,p l[k]=false)->(l.takeWhile p).length=k
 | [],k,hk,_,_=>by simp at hk;subst hk;rfl
 |y::ys,0,hk,h1,h2=>by
  have:=h2 (by simp);simp only[cW]at this;simp[List.takeWhile,this]
 |y::ys,k+1,hk,h1,h2=>by
  have h0:=h1 0 (by simp) (by omega);simp only[cW]at h0;have:=Aj6 (l:=ys) (k:=k) (by simpa using hk) (fun j hj hjk=>by have:=h1 (j+1) (by simpa using hj) (by omega);simpa using this) (fun hk'=>by have:=h2 (by simpa using hk');simpa using this);simp[List.takeWhile,h0,this]
theorem At8{α:Type}(p:α->Bool)(l:List α):(l.takeWhile p).length<=l.length:=by
 have:=cI List.length (List.takeWhile_append_dropWhile (p:=p) (l:=l));rw[aP]at this;omega
def Bbz(f:Pa->Int)(t:Int):Option Pa->Bool
 |some x=>decide (f x=t)
 |none=>false
end Go.Sx
namespace Go.Proofs.YtmbppohkadmjgaaGreat
open Go.Sx Go.RowKit
set_option maxRecDepth 100000
section
variable{L:List Pa}{a:Option Addr}{c g:Nat}{ff fc:Array Value}{target:Int}{w:World}
theorem Avl(hs:PaR w a L)(hl:L.length<=1000000)(f:Pa->Int)(hok:Vy Tryz.prog g=true)(hr:(-1000000<=target/\target<=1000000)/\∀x∈L,-1000000<=f x/\f x<=1000000)(hasc:∀i j (hi:i<L.length) (hj:j<L.length),i<j->f L[i]<f L[j])
 (hf:∀(w':World) (x:Pa) (a1:Option Addr) (c1:Nat) (a2:Option Addr) (c2:Nat),x∈L->Below w.heap.size w w'->Calls Tryz.prog g (ff++#[Va x a1 c1 a2 c2,.int .i64 target]++fc) w' fun e w''=>e=.returned (.int .i64 (f x-target))/\Below w'.heap.size w' w''):
 Calls Tryz.prog Cr #[(.slice a L.length c),(.int .i64 target),.func (.func g) ff fc] w fun e w'=>e=.returned (.tuple #[.int .i64 ((L.takeWhile fun x=>decide (f x<target)).length:Nat),.bool (Bbz f target L[(L.takeWhile fun x=>decide (f x<target)).length]?)])/\Below w.heap.size w w':=by
 apply Fc;have H:=St.nil w;refine⟨fun i j=>((j-i).toNat,fun w1=>∃p q:Nat,i=p/\j=q/\p<=q/\q<=L.length/\(∀k (hk:k<L.length),k<p->f L[k]<target)/\(∀k (hk:k<L.length),q<=k->target<=f L[k])/\Cg w w1 []),⟨0,L.length,rfl,rfl,by omega,by omega,fun k _ h=>by omega,fun k hk h=>by omega,H⟩,?_⟩;clear H;rintro _ i j w1 ⟨p,q,rfl,rfl,hpq,hq,h1,h2,H1⟩;apply Aa<;>intro c2
 ·refine Ao (by omega) ?_;refine Pk (by omega) ?_;refine Aw ?_;have ed:Int.fdiv ((p:Int)+q) (2^1)=((p+q)/2:Nat):=by
   rw[Int.fdiv_eq_ediv_of_nonneg _ (by decide)];omega
  rw[ed];refine Ao (by omega) ?_;have hlt:(p+q)/2<L.length:=by omega
  have hp:p<=(p+q)/2:=by omega
  have hq2:(p+q)/2<q:=by omega
  generalize hmid:(p+q)/2=m at hlt hp hq2;clear hmid ed;refine Uu hs m rfl hlt fun b hb=>?_;obtain⟨a1,c1',a2,c2',hb,_,_,_⟩:=hb;refine⟨_,_,_,_,_,_,_,_,_,Av hb H1.below,?_⟩;refine⟨hok,?_⟩;refine(hf w1 _ a1 c1' a2 c2' (aJ hlt) H1.below).mono ?_;rintro _ w2 ⟨rfl,hb2⟩;have H2:=H1.pass hb2;clear H1;refine⟨_,rfl,?_⟩;apply Aa<;>intro c0
  ·refine Ao (by omega) ?_;refine⟨⟨m+1,q,by omega,rfl,by omega,hq,fun k hk h=>?_,h2,H2⟩,by dsimp only;omega⟩;rcases aT k m with h'|h'
   ·have:=hasc k m hk hlt h';omega
   ·obtain rfl:k=m:=by omega
    omega
  ·refine⟨⟨p,m,rfl,rfl,hp,by omega,h1,fun k hk h=>?_,H2⟩,by dsimp only;omega⟩;rcases aT m k with h'|h'
   ·have:=hasc m k hlt hk h';omega
   ·obtain rfl:k=m:=by omega
    omega
 ·obtain rfl:p=q:=by omega
  have hk:(L.takeWhile fun x=>decide (f x<target)).length=p:=Aj6 hq (fun j hj h=>aM (h1 j hj h)) fun h=>aI (by have:=h2 p h (aG _);omega);rw[hk];apply Aa<;>intro c1
  ·have hlt:p<L.length:=by omega
   refine Uu hs p rfl hlt fun b1 hb1=>?_;obtain⟨a1,c1',a2,c2',hb1,_,_,_⟩:=hb1;refine⟨_,_,_,_,_,_,_,_,_,Av hb1 H1.below,?_⟩;refine⟨hok,?_⟩;refine(hf w1 _ a1 c1' a2 c2' (aJ hlt) H1.below).mono ?_;rintro _ w3 ⟨rfl,hb3⟩;have H3:=H1.pass hb3;clear H1;refine⟨_,rfl,?_⟩;refine Aw ?_;refine⟨?_,H3.below⟩;rw[List.getElem?_eq_getElem hlt,Bbz,bT.2 (show f L[p]-target=0↔f L[p]=target by omega)]
  ·refine⟨?_,H1.below⟩;rw[List.getElem?_eq_none (by omega)];rfl
end
theorem Aa9{s:Rc}{a:Option Addr}{c q g:Nat}{x:Pa}{a1 a2:Option Addr}{c1 c2:Nat}{n:Int}{w:World}(hq:w.cell? ⟨q,0,none⟩=some (.pointer (some ⟨g,0,none⟩)))(hc:cellsAt w ⟨g,0,none⟩ 0 (Bi s a c))(hb:Bv s.lk.bits)(hn: -1000000<=n/\n<=1000000):Calls Tryz.prog Hj #[Va x a1 c1 a2 c2,(.int .i64 n),(.pointer (some ⟨q,0,none⟩))] w fun e w'=>e=.returned (.int .i64 (s.place x.sn-n))/\Below w.heap.size w w':=by
 apply Wy;have H:=St.nil w;have hp:=Cm hb;have hpl:=Fb s x.sn;refine H.alloc ?_;clear H;intro b w1 H1;refine⟨_,H1.below.get hq,?_⟩;refine H1.l 0 ?_;refine(Bh (Av hc H1.below) hb).mono ?_;rintro _ w2 ⟨rfl,hb2⟩;have H2:=H1.pass hb2;clear H1;refine⟨_,rfl,?_⟩;refine Ao (by omega) ?_;exact⟨rfl,H2.below⟩
section
variable{A0:Nat->Prop}{M:List Nat}{w0 w:World}{R:List Res}{P:World->Prop}
theorem Awi(H:St A0 M w0 w R P){i j g:Nat}{a:Option Addr}{c k:Nat}{l:List PP}{x:PP}{t0:TypeId}(hi:R[i]?=some (.els Bf Ac 5 a c l))(hj:R[j]?=some (.blk g t0 (Bf x)))(hk:k<=l.length)(hl:l.length<=1000000)
 {F:Ending->World->Prop} (h:∀a' c' w',St A0 M w0 w' (R.set i (.els Bf Ac 5 a' c' (l.take k++x::l.drop k))) P->F (.returned (.slice a' (l.length+1) c')) w'):
 Calls Tryz.prog Dm #[.slice a l.length c,.int .i64 k,.slice (some ⟨g,0,none⟩) 1 1] w F:=by
 have hij:i≠j:=by rintro rfl;rw[hi]at hj;cases hj
 have hut:Tryz.prog.underlying Bg=some (.slice Ac):=sl_Ty_S_api_Partial.ht;have hsz:(Tryz.prog.info? Ac).map (·.size)=some 5:=by
  obtain⟨inf,hinf,_,h2,_⟩:=sl_Ty_S_api_Partial.info;rw[hinf];simp[h2]
 have hxs:SlR (CE Bf) 5 w (some ⟨g,0,none⟩) [x]:=H.slBlk encPP_ok [x] (i:=j) (by simpa using hj);have hxc:∀ {w1:World} {R1:List Res},St A0 M w0 w1 R1 P->R1[j]?=some (.blk g t0 (Bf x))->∀j v,(Bf x)[j]?=some v->w1.cell? ((⟨g,0,none⟩:Addr).add j)=some v:=fun H1 h1 q v hv=>by
  rw[Bd,aN];exact H1.cell h1 hv
 have hone:∀v∈Bf x,v.oneCell'=true:=fun v hv=>bN.1 (encPP_ok.one x) v hv;have hsp:l.flatMap Bf=(l.take k).flatMap Bf++(l.drop k).flatMap Bf:=by rw[<-dW,bR]
 have hl1:((l.take k).flatMap Bf).length=k*5:=by rw[Gl encPP_ok,aU,bQ hk]
 have hl2:((l.drop k).flatMap Bf).length=(l.length-k)*5:=by rw[Gl encPP_ok,bJ]
 have hone2:∀v∈(l.drop k).flatMap Bf,v.oneCell'=true:=Aon encPP_ok
 have fin:∀ {w1:World} {R1:List Res} {g' c':Nat} {Z:List Value},St A0 M w0 w1 R1 P->R1[i]?=some (.blk g' Ac ((l.take k).flatMap Bf++Bf x++(l.drop k).flatMap Bf++Z))->R1.set i (.els Bf Ac 5 (some ⟨g',0,none⟩) c' (l.take k++x::l.drop k))=R.set i (.els Bf Ac 5 (some ⟨g',0,none⟩) c' (l.take k++x::l.drop k))->
  l.length+1<=c'->c'<=maxLen->(l.length+1)*5+Z.length=c'*5->St A0 M w0 w1 (R.set i (.els Bf Ac 5 (some ⟨g',0,none⟩) c' (l.take k++x::l.drop k))) P:=fun {w1 R1 g' c' Z} H1 h1 hR hn hc hZ=>by
  have e:(l.take k).flatMap Bf++Bf x++(l.drop k).flatMap Bf=(l.take k++x::l.drop k).flatMap Bf:=by simp
  have el:(l.take k++x::l.drop k).length=l.length+1:=by simp;omega
  rw[e]at h1;have:=H1.blkRow h1 5 (l.length+1) c' (by rw[aP,Gl encPP_ok,el];exact hZ) hn hc;have e2:((l.take k++x::l.drop k).flatMap Bf++Z).take ((l.length+1)*5)=(l.take k++x::l.drop k).flatMap Bf:=by
   rw[<-el,<-Gl encPP_ok];exact dP
  rw[e2,<-el]at this;rw[<-hR];exact this
 apply Il;refine⟨⟨by omega,by omega⟩,?_⟩;refine Aa (fun c1=>by simp at c1) (fun _=>?_);apply Aa<;>intro c1
 ·obtain rfl:k=l.length:=by omega
  refine H.appE encPP_ok hi sl_Ty_S_api_Partial (zs:=[x]) hxs (by simp;omega) (by simp;omega) ?_;intro a' c' w' H';have:=h a' c' w' (by simpa using H');simpa using this
 have hlt:k<l.length:=by omega
 obtain⟨g0,rfl,hat,hnc⟩:=H.rowSome hi (by omega);have hne:g≠g0:=H.ne hj hi (Ne.symm hij) rfl hat;refine Ao (by omega) ?_;apply Aa<;>intro c2
 ·
  refine⟨⟨by omega,by omega⟩,?_⟩;refine Ao (by omega) ?_;refine Ao (by omega) ?_;rw[As4,bK,dJ,dJ];refine H.growZ encPP_ok hi sl_Ty_S_api_Partial (k2:=.i64) (by kernel_rfl) k (l.length+1-k) hk (by omega) (by omega) (by omega) (by omega) (by omega) (by omega) ?_;intro g' c' w1 Z hc' hcm hZ H1;have hlen:k+(l.length+1-k)=l.length+1:=by omega
  rw[hlen]at hc' ⊢;refine⟨⟨by omega,by omega⟩,?_⟩;rw[slA (by omega)];obtain⟨Y,Z1,Z2,rfl,hY,hZ1⟩:=Ays (W:=Z) (n:=5) (m:=(l.length-k)*5) (by omega);have hjl:j<R.length:=Yo hj;have hil:i<R.length:=Yo hi;have jj:∀ {r:Res},(R++[r])[j]?=some (.blk g t0 (Bf x)):=by intro r;rw[List.getElem?_append_left hjl];exact hj
  have ii:∀ {r:Res},(R++[r])[i]?=some (.els Bf Ac 5 (some ⟨g0,0,none⟩) c l):=by intro r;rw[List.getElem?_append_left hil];exact hi
  have nn:∀ {r:Res},(R++[r])[R.length]?=some r:=by intro r;simp
  have st:∀ {r s:Res},(R++[r]).set R.length s=R++[s]:=by intro r s;simp
  refine H1.copyB nn hut hsz ((l.take k).flatMap Bf) Y (Z1++Z2) (Bf x) (by simp) hl1 (by rw[hY];rfl) ?_ (hxc H1 jj) hone ?_
  ·have:Nat.min 1 (l.length+1-k)=1:=bQ (by omega);rw[this];rfl
  intro _ w2 H2;rw[st]at H2;refine H2.drew ?_;clear H2;intro w3 H3;refine Ao (by omega) ?_;refine⟨⟨by omega,by omega⟩,⟨by omega,by omega⟩,?_⟩;have ek:((k:Int)+((1:Nat):Int)).toNat=k+1:=by omega
  rw[ek,slA (by omega),slA (by omega)];refine H3.copyB nn hut hsz ((l.take k).flatMap Bf++Bf x) Z1 Z2 ((l.drop k).flatMap Bf) (by simp) (by rw[aP,hl1,encPP_ok.len];omega) (by rw[hZ1,hl2]) ?_ ?_ hone2 ?_
  ·have:Nat.min (l.length-k) (l.length+1-(k+1))=l.length-k:=bQ (by omega);rw[this,hl2]
  ·intro q v hv;have:=H3.cellRow (o:=k*5+q) ii (by rw[hsp,<-hl1];exact cat _ _ q v hv);rwa[Bd]
  intro _ w4 H4;rw[st]at H4;have H5:=H4.lastAt (i:=i) hil;refine h _ _ _ (fin (Z:=Z2) H5 (by rw[List.getElem?_set_self hil]) (by simp) (by omega) hcm ?_);simp only[aP]at hZ;omega
 ·
  refine Ao (by omega) ?_;refine⟨⟨by omega,by omega⟩,?_⟩;refine Ao (by omega) ?_;have ek:((k:Int)+((1:Nat):Int)).toNat=k+1:=by omega
  have en:((l.length:Int)+((1:Nat):Int)).toNat=l.length+1:=by omega
  simp only[ek,en,As4,dJ,bK];refine⟨⟨by omega,by omega⟩,?_⟩;obtain⟨rest,hr1,hcm,_,H1⟩:=H.rowBlk hi;rw[Gl encPP_ok]at hr1;have hil:i<R.length:=Yo hi;have jj:∀ {r:Res},(R.set i r)[j]?=some (.blk g t0 (Bf x)):=by intro r;rw[List.getElem?_set_ne hij];exact hj
  have ii:∀ {r:Res},(R.set i r)[i]?=some r:=by intro r;rw[List.getElem?_set_self hil]
  have st:∀ {r s:Res},(R.set i r).set i s=R.set i s:=by intro r s;simp
  rw[slA (by omega)];refine Asa (tR:=Ba0) (Tryz.func133) (by kernel_rfl) (by kernel_rfl) (by kernel_rfl) (by kernel_rfl) hut hsz hne (H1.ok j _ jj) (H1.ok i _ ii) (by simp;omega) ?_;refine⟨_,rfl,?_⟩;refine Al (fun _=>?_) (fun c=>by cases c);refine H1.drew ?_;clear H1;intro w2 H2;refine Ao (by omega) ?_;simp only[ek];refine⟨⟨by omega,by omega⟩,⟨by omega,by omega⟩,?_⟩;rw[slA (by omega),slA (by omega)];rw[hsp,aZ]at H2;obtain⟨Y,Z1,Z2,hYZ,hY,hZ1⟩:=Ays (W:=(l.drop k).flatMap Bf++rest) (n:=5) (m:=(l.length-k)*5) (by simp only[aP,hl2];omega);refine H2.copyB ii hut hsz ((l.take k).flatMap Bf++Y) Z1 Z2 ((l.drop k).flatMap Bf) (by rw[hYZ];simp) (by rw[aP,hl1,hY];omega) (by rw[hZ1,hl2]) ?_ ?_ hone2 ?_
  ·have:Nat.min (l.length+1-k) (l.length+1-(k+1))=l.length-k:=by
    rw[show l.length+1-(k+1)=l.length-k by omega];exact Nat.min_eq_right (by omega)
   rw[this,hl2]
  ·intro q v hv;have h9:((l.take k).flatMap Bf++((l.drop k).flatMap Bf++rest))[k*5+q]?=some v:=by
    rw[<-hl1];refine cat _ _ q v ?_;rw[List.getElem?_append_left (Yo hv)];exact hv
   have:=H2.cell (o:=k*5+q) ii h9;rwa[Bd]
  intro _ w3 H3;rw[st]at H3;refine⟨⟨by omega,by omega⟩,?_⟩;refine H3.copyB ii hut hsz ((l.take k).flatMap Bf) Y ((l.drop k).flatMap Bf++Z2) (Bf x) (by simp) hl1 (by rw[hY];rfl) ?_ (hxc H3 jj) hone ?_
  ·have:Nat.min 1 (l.length+1-k)=1:=bQ (by omega);rw[this];rfl
  intro _ w4 H4;rw[st]at H4;refine h _ _ _ (fin (Z:=Z2) H4 (by rw[List.getElem?_set_self hil];simp) (by simp) (by omega) hcm ?_);have:=cI List.length hYZ;simp only[aP,hl2,hY,hZ1]at this;omega
end
end Go.Proofs.YtmbppohkadmjgaaGreat
namespace Go.Sx
open Go.RowKit
section
variable{A0:Nat->Prop}{M:List Nat}{w0 w:World}{R Y T:List Res}{r q s:Res}{P:World->Prop}{k:Nat}
theorem Hq:(Y++r::T)[Y.length]?=some r:=by simp
theorem Adx:(Y++r::T).set Y.length s=Y++s::T:=by simp
theorem Aw8(h:T[k]?=some q):(Y++r::T)[Y.length+1+k]?=some q:=by
 rw[List.getElem?_append_right (by omega),show Y.length+1+k-Y.length=k+1 by omega];simpa using h
theorem An9:(Y++r::T).set (Y.length+1+k) s=Y++r::T.set k s:=by
 rw[cH _ _ (by omega),show Y.length+1+k-Y.length=k+1 by omega];rfl
theorem St.copyI{Pr:Program}{i g c:Nat}{e:TypeId}{ki:IntKind}{ys zs:List Int}(H:St A0 M w0 w R P)(hi:R[i]?=some (.ints e ki (some ⟨g,0,none⟩) c ys)){dT sT ty elem:TypeId}(hu:Pr.underlying dT=some (.slice elem))(hs:(Pr.info? elem).map (·.size)=some 1)
 {o dLen dCap sLen sCap:Nat} {p:Option Addr} (hz:SlR (Bp ki) 1 w p zs) (h0:0<zs.length) (ho:o+zs.length<=ys.length) (hn:zs.length=Nat.min sLen dLen) {F:Int->World->Prop}
 (h:∀n w',St A0 M w0 w' (R.set i (.ints e ki (some ⟨g,0,none⟩) c (ys.take o++zs++ys.drop (o+zs.length)))) P->F n w'):Afg Pr #[dT,sT] ty #[.slice (some ⟨g,o,none⟩) dLen dCap,.slice p sLen sCap] w F:=by
 obtain⟨rest,hr1,hcm,hnc,H1⟩:=H.rowBlk hi;have hil:i<R.length:=Yo hi;cases p with
 |none=>
  rcases hz with h|⟨b,hb,_⟩
  ·rw[h]at h0;simp at h0
  ·cases hb
 |some p=>
  have hl:ys=ys.take o++((ys.drop o).take zs.length++ys.drop (o+zs.length)):=by
   rw[<-List.drop_drop,bR,bR]
  refine H1.copyB (i:=i) (by rw[List.getElem?_set_self hil]) hu hs ((ys.take o).map (Value.int ki)) (((ys.drop o).take zs.length).map (Value.int ki)) ((ys.drop (o+zs.length)).map (Value.int ki)++rest) (zs.map (Value.int ki)) ?_ (by simp;omega) (by simp;omega) (by simp only[bC,dB];exact hn) (Au8 hz) (fun v hv=>?_) ?_
  ·rw[<-aZ,<-bD,<-bD,aZ,<-hl]
  ·simp only[cZ]at hv;obtain⟨x,_,rfl⟩:=hv;rfl
  intro n w2 H2;rw[cF]at H2;have e1:(ys.take o).map (Value.int ki)++zs.map (Value.int ki)++((ys.drop (o+zs.length)).map (Value.int ki)++rest)=(ys.take o++zs++ys.drop (o+zs.length)).map (Value.int ki)++rest:=by simp
  rw[e1]at H2;have el:(ys.take o++zs++ys.drop (o+zs.length)).length=ys.length:=by simp;omega
  have hyl:(ys.map (Value.int ki)).length=ys.length:=by simp
  have H3:=H2.blkRow (i:=i) (by rw[List.getElem?_set_self hil]) 1 ys.length c (by rw[aP,bC,el];rw[hyl]at hr1;omega) hnc hcm;have e2:((ys.take o++zs++ys.drop (o+zs.length)).map (Value.int ki)++rest).take (ys.length*1)=(ys.take o++zs++ys.drop (o+zs.length)).map (Value.int ki):=by
   have:ys.length*1=((ys.take o++zs++ys.drop (o+zs.length)).map (Value.int ki)).length:=by rw[bC,el];omega
   rw[this];exact dP
  rw[e2,cF]at H3;refine h n w2 ?_;have e3:Res.ints e ki (some ⟨g,0,none⟩) c (ys.take o++zs++ys.drop (o+zs.length))=.row e 1 (some ⟨g,0,none⟩) ys.length c ((ys.take o++zs++ys.drop (o+zs.length)).map (Value.int ki)):=by
   simp only[Res.ints,el]
  rw[e3];exact H3
end
end Go.Sx
namespace Go.Proofs.YtmbppohkadmjgaaGreat
open Go.Sx Go.RowKit
set_option maxRecDepth 100000
theorem Bcf(m:Nat):(Builtin.zeroCells (Value.int .u8 0).cells m).toList=(List.replicate m (0:Int)).map (Value.int .u8):=by
 apply cX
 ·simp[Builtin.zeroCells,Value.cells]
 ·intro i h1 h2;simp[Builtin.zeroCells,Value.cells,Nat.mod_one]
section
variable{A0:Nat->Prop}{M:List Nat}{w0 w:World}{X:List Res}{P:World->Prop}{g uc k:Nat}{L:List PP}{p:Pc}{pa:Option Addr}{pc:Nat}
theorem St.putP(H:St A0 [] w0 w (X++.els Bf Ac 5 (some ⟨g,0,none⟩) uc L::L.map agP) P)(hk:k<L.length)(y:PP)(hy:L[k]=y)(hp:(0<=p.off/\p.off<=2054)/\1<=p.data.length/\p.off+p.data.length<=2054)
 (hd:y.p.data.length<=3000) (h0:0<y.p.data.length\/(y.p.data=[]/\y.a=none/\y.c=0)) (hcl:y.p.come.length<=3000) (hn:Cc (-1) y.p.come=true) (hs:∀w,P w->SlR (Bp .u8) 1 w pa p.data) (hcome:∀w,P w->SlR (CE Bn) 3 w y.a2 y.p.come) {K:Ending->World->Prop}
 (h:∀w' (z:PP),z.p=Es y.p p->z.p.data.length<=z.c->St A0 [] w0 w' (X++.els Bf Ac 5 (some ⟨g,0,none⟩) uc (L.set k z)::(L.set k z).map agP) (fun w=>SlR (CE Bn) 3 w z.a2 z.p.come/\P w)->K (.returned (.tuple #[])) w'):
 Calls Tryz.prog Ll #[Aw7 p pa pc,(.pointer (some ⟨g,k*5,none⟩))] w K:=by
 apply Wv;obtain⟨⟨hp1,hp2⟩,hp3,hp4⟩:=hp;have hen:p.en=p.off+p.data.length:=rfl;have hul:(L.map agP)[k]?=some (agP y):=by rw[List.getElem?_map,List.getElem?_eq_getElem hk,hy];rfl
 refine H.alloc ?_;clear H;intro b w1 H1;have H1:=St.lastTo (X:=[]) (T:=X++.els Bf Ac 5 (some ⟨g,0,none⟩) uc L::L.map agP) H1;obtain⟨Y,hY⟩:∃Y,Y=Res.blk b Dd (Awu p pa pc)::X:=⟨_,rfl⟩;have hY0:∀(r:Res) (T:List Res),(Y++r::T)[0]?=some (.blk b Dd (Awu p pa pc)):=fun r T=>by rw[hY];rfl
 replace H1:St A0 [] w0 w1 (Y++.els Bf Ac 5 (some ⟨g,0,none⟩) uc L::L.map agP) P:=by rw[hY];exact H1
 refine⟨fun w5=>∃(da:Option Addr) (dc:Nat),St A0 [] w0 w5 (Y++.els Bf Ac 5 (some ⟨g,0,none⟩) uc (L.set k ⟨{ y.p with data:=y.p.data++List.replicate (p.off.toNat+p.data.length-y.p.data.length) 0 },da,dc,y.a2,y.c2⟩)::(L.set k ⟨{ y.p with data:=y.p.data++List.replicate (p.off.toNat+p.data.length-y.p.data.length) 0 },da,dc,y.a2,y.c2⟩).map agP) P,?_,?_⟩
 ·rintro _ w5 ⟨da,dc,H5⟩;obtain⟨D,hD⟩:∃D,D=y.p.data++List.replicate (p.off.toNat+p.data.length-y.p.data.length) (0:Int):=⟨_,rfl⟩;have hDl:p.off.toNat+p.data.length<=D.length/\D.length<=6000:=by rw[hD,aP,cY];omega
  rw[<-hD]at H5;obtain⟨y1,hy1⟩:∃y1:PP,y1=⟨{ y.p with data:=D },da,dc,y.a2,y.c2⟩:=⟨_,rfl⟩;rw[<-hy1]at H5;have hk5:k<(L.set k y1).length:=by simpa using hk
  have hg5:(L.set k y1)[k]=y1:=by simp
  have hu5:((L.set k y1).map agP)[k]?=some (agP y1):=by rw[List.getElem?_map,List.getElem?_eq_getElem hk5,hg5];rfl
  refine H5.drew ?_;clear H5;intro w6 H6;refine⟨da,D.length,dc,H6.cellEl encPP_ok (i:=Y.length) Hq hk5 (j:=3) (by decide) (by rw[hg5,hy1];rfl),?_⟩;refine H6.ld (i:=0) (hY0 _ _) rfl ?_;refine⟨⟨by omega,by omega⟩,?_⟩;refine H6.ldS (i:=0) (hY0 _ _) rfl ?_;have hi6:(Y++Res.els Bf Ac 5 (some ⟨g,0,none⟩) uc (L.set k y1)::(L.set k y1).map agP)[Y.length+1+k]?=some (.ints Az .u8 da dc D):=by
   rw[Aw8 hu5,hy1];rfl
  obtain⟨g2,rfl,_,hdc⟩:=H6.rowSome hi6 (by omega);rw[slA (by omega),dB];refine H6.copyI hi6 (elem:=Az) sl_Ty_S_uint8.ht (by kernel_rfl) (hs _ H6.get) (by omega) (o:=p.off.toNat) (by omega) (bQ (by omega)).symm ?_;intro _ w7 H7;rw[An9]at H7;obtain⟨D2,hD2⟩:∃D2,D2=D.take p.off.toNat++p.data++D.drop (p.off.toNat+p.data.length):=⟨_,rfl⟩;have hlay:Ap5 y.p.data p.off.toNat p.data=D2:=by rw[hD2,hD];rfl
  have hD2l:D2.length=D.length:=by rw[hD2];simp;omega
  rw[<-hD2]at H7;obtain⟨y2,hy2⟩:∃y2:PP,y2=⟨{ y.p with data:=D2 },some ⟨g2,0,none⟩,dc,y.a2,y.c2⟩:=⟨_,rfl⟩;have e7:((L.set k y1).map agP).set k (.ints Az .u8 (some ⟨g2,0,none⟩) dc D2)=(L.set k y2).map agP:=by
   rw[bG,bG,cF,hy2];rfl
  have e7':Res.els Bf Ac 5 (some ⟨g,0,none⟩) uc (L.set k y1)=.els Bf Ac 5 (some ⟨g,0,none⟩) uc (L.set k y2):=by
   have:(L.set k y1).flatMap Bf=(L.set k y2).flatMap Bf:=by
    rw[List.flatMap_def,List.flatMap_def,bG,bG];congr 2;rw[hy1,hy2];show Ix _ _ _ _ _=Ix _ _ _ _ _;simp only[Ix,hD2l]
   simp only[Res.els,bE,this]
  rw[e7,e7']at H7;have hk7:k<(L.set k y2).length:=by simpa using hk
  have hg7:(L.set k y2)[k]=y2:=by simp
  refine H7.drew ?_;clear H7;intro w8 H8;refine⟨(· <w8.heap.size),?_⟩;refine⟨H8.lt (i:=Y.length) Hq rfl,?_⟩;refine⟨y.a2,y.p.come.length,y.c2,H8.cellEl encPP_ok (i:=Y.length) Hq hk7 (j:=4) (by decide) (by rw[hg7,hy2];rfl),?_⟩;refine H8.ld (i:=0) (hY0 _ _) rfl ?_;refine H8.ld (i:=0) (hY0 _ _) rfl ?_;refine H8.ld (i:=0) (hY0 _ _) rfl ?_;refine⟨KeepsB.refl _ _,?_⟩;have hU:Ou y.p.come ⟨p.sn,p.off,p.en⟩=(Cn p.sn y.p.come p.off p.en,0):=by
   unfold Ou;rw[aE];rw[hn];simp[Cc];omega
  have C:=Ajz (l:=y.p.come) (l_c:=y.c2) (r:=⟨p.sn,p.off,p.en⟩) (hcome _ H8.get) (by omega);rw[hU]at C;dsimp only at C;refine C.mono ?_;clear C;rintro _ w9 ⟨ca,cc,hcc,rfl,K9⟩;have H9:=H8.callF K9;rw[aL]at H9;refine⟨_,_,_,_,rfl,?_⟩;obtain⟨y3,hy3⟩:∃y3:PP,y3=⟨{ y.p with data:=D2,come:=Cn p.sn y.p.come p.off p.en },some ⟨g2,0,none⟩,dc,ca,cc⟩:=⟨_,rfl⟩;refine H9.setEl encPP_ok (i:=Y.length) Hq hk7 (j:=4) (by decide) y3 (by rw[hg7,hy2,hy3];rfl) ?_;intro w10 _ H10;rw[Adx,cF]at H10;have e10:(L.set k y2).map agP=(L.set k y3).map agP:=by rw[bG,bG,hy2,hy3];rfl
  rw[e10]at H10;have hk10:k<(L.set k y3).length:=by simpa using hk
  have hg10:(L.set k y3)[k]=y3:=by simp
  refine H10.ldB (i:=0) (hY0 _ _) rfl ?_;have fin:∀ {w':World} {z:PP} {Q:World->Prop},St A0 [] w0 w' (Y++.els Bf Ac 5 (some ⟨g,0,none⟩) uc (L.set k z)::(L.set k z).map agP) Q->St A0 [] w0 w' (X++.els Bf Ac 5 (some ⟨g,0,none⟩) uc (L.set k z)::(L.set k z).map agP) Q:=fun {w' z Q} H=>by
   rw[hY]at H;exact St.skip (X:=[]) H
  apply Al<;>intro c1
  ·refine H10.ld (i:=0) (hY0 _ _) rfl ?_;obtain⟨y4,hy4⟩:∃y4:PP,y4=⟨{ y.p with data:=D2,come:=Cn p.sn y.p.come p.off p.en,len:=p.en },some ⟨g2,0,none⟩,dc,ca,cc⟩:=⟨_,rfl⟩;refine H10.setEl encPP_ok (i:=Y.length) Hq hk10 (j:=2) (by decide) y4 (by rw[hg10,hy3,hy4];rfl) ?_;intro w11 _ H11;rw[Adx,cF]at H11;have e11:(L.set k y3).map agP=(L.set k y4).map agP:=by rw[bG,bG,hy3,hy4];rfl
   rw[e11]at H11;refine h w11 y4 (by rw[hy4,Es,aF c1,hlay]) (by rw[hy4];show D2.length<=dc;omega) ((fin H11).imp fun _ h=>⟨?_,h.2⟩);rw[hy4];exact h.1
  ·refine h w10 y3 (by rw[hy3,Es,aE (by rw[c1];decide),hlay]) (by rw[hy3];show D2.length<=dc;omega) ((fin H10).imp fun _ h=>⟨?_,h.2⟩);rw[hy3];exact h.1
 ·refine H1.drew ?_;clear H1;intro w2 H2;have hi2:(Y++Res.els Bf Ac 5 (some ⟨g,0,none⟩) uc L::L.map agP)[Y.length+1+k]?=some (.ints Az .u8 y.a y.c y.p.data):=by
   rw[Aw8 hul];rfl
  have c3:=H2.cellEl encPP_ok (i:=Y.length) Hq hk (j:=3) (v:=.slice y.a y.p.data.length y.c) (by decide) (by rw[hy];rfl);refine H2.ld (i:=0) (hY0 _ _) rfl ?_;refine⟨_,_,_,c3,?_⟩;refine Ao (by omega) ?_;apply Aa<;>intro c0
  ·refine⟨_,_,_,c3,?_⟩;obtain⟨m,hm⟩:∃m,m=p.off.toNat+p.data.length-y.p.data.length:=⟨_,rfl⟩;have hxm:p.en-(y.p.data.length:Int)=(m:Nat):=by omega
   have step:∀(da:Option Addr) (dc:Nat) (w3:World),St A0 [] w0 w3 (Y++.els Bf Ac 5 (some ⟨g,0,none⟩) uc L::(L.map agP).set k (.ints Az .u8 da dc (y.p.data++List.replicate m 0))) P->
    Bj w3 ⟨g,k*5+3,none⟩ (.slice da (y.p.data++List.replicate m (0:Int)).length dc) fun w4=>∃(da:Option Addr) (dc:Nat),St A0 [] w0 w4 (Y++.els Bf Ac 5 (some ⟨g,0,none⟩) uc (L.set k ⟨{ y.p with data:=y.p.data++List.replicate (p.off.toNat+p.data.length-y.p.data.length) 0 },da,dc,y.a2,y.c2⟩)::(L.set k ⟨{ y.p with data:=y.p.data++List.replicate (p.off.toNat+p.data.length-y.p.data.length) 0 },da,dc,y.a2,y.c2⟩).map agP) P:=fun da dc w3 H3=>by
    refine H3.setEl encPP_ok (i:=Y.length) Hq hk (j:=3) (by decide) ⟨{ y.p with data:=y.p.data++List.replicate m 0 },da,dc,y.a2,y.c2⟩ (by rw[hy];rfl) ?_;intro w4 _ H4;rw[Adx]at H4;refine⟨da,dc,?_⟩;rw[<-hm];have e4:(L.set k ⟨{ y.p with data:=y.p.data++List.replicate m 0 },da,dc,y.a2,y.c2⟩).map agP=(L.map agP).set k (.ints Az .u8 da dc (y.p.data++List.replicate m 0)):=by rw[bG];rfl
    rw[e4];exact H4
   rcases h0 with h0|⟨h1,h2,h3⟩
   ·refine H2.appZ hi2 sl_Ty_S_uint8 (k2:=.i64) (by kernel_rfl) h0 m hxm (by omega) (by omega) ?_;intro da dc w3 H3;rw[An9]at H3;exact step da dc w3 H3
   ·rw[h2,h3,h1,cU];rw[h1,cU]at hxm;refine H2.appZ0 (e:=Az) (z:=.int .u8 0) sl_Ty_S_uint8 (k2:=.i64) (by kernel_rfl) m (by simpa using hxm) (by omega) (by omega) (by omega) ?_;intro da dc w3 H3;rw[Bcf]at H3;have H3:=H3.lastAt (i:=Y.length+1+k) (by simp;omega);rw[An9]at H3;have:=step da dc w3 (by
     rw[h1,aC];have e:Res.ints Az .u8 da dc (List.replicate m (0:Int))=.row Az 1 da m dc ((List.replicate m (0:Int)).map (Value.int .u8)):=by simp only[Res.ints,cY]
     rw[e];exact H3)
    rw[h1,aC,cY]at this;exact this
  ·refine⟨y.a,y.c,?_⟩;have e:p.off.toNat+p.data.length-y.p.data.length=0:=by omega
   have e2:L.set k ⟨{ y.p with data:=y.p.data++List.replicate (p.off.toNat+p.data.length-y.p.data.length) 0 },y.a,y.c,y.a2,y.c2⟩=L:=by
    rw[e,List.replicate_zero,aL];exact Ds (by rw[List.getElem?_eq_getElem hk,hy])
   rw[e2];exact H2
end
section
variable{s:Rc}{a:Option Addr}{c g:Nat}{A:Nat->Prop}{w:World}{P:World->Prop}
theorem Wo(hb:Bv s.lk.bits)(hf:0<=s.first/\s.first<=1000000)(hcap:s.parts.length<=c)(hp:∀w,P w->PaR w a s.parts)(hP:Held A w P)(hB:(Gj g s a c).ok w)(hn:∀b,(Gj g s a c).at=some b->¬A b):Calls Tryz.prog Fo #[(.pointer (some ⟨g,0,none⟩))] w fun e w'=>∃a' c',e=.returned (.tuple #[])/\(∀w,P w->PaR w a' (Qa s).parts)/\St A [g] w w' [Gj g (Qa s) a' c'] P:=by
 apply Tl;have H:St A [g] w w [Gj g s a c] P:=St.startM hP hB hn;obtain⟨v,hv⟩:∃v:Rc,v=Aea s:=⟨_,rfl⟩;have e0:Qa s=Akc v:=by rw[hv];rfl
 have hvk:v.lk=s.lk:=by rw[hv];rfl
 rw[e0];unfold Akc;refine⟨fun w7=>∃a' c',(∀w,P w->PaR w a' v.parts)/\St A [g] w w7 [Gj g v a' c'] P,?_,?_⟩
 ·rintro _ w7 ⟨a',c',hp',H7⟩;have hb':Bv v.lk.bits:=by rw[hvk];exact hb
  refine H7.drew ?_;clear H7;intro w8 H8;refine⟨(· <w8.heap.size),?_⟩;refine H8.l 0 ?_;refine⟨H8.lt (i:=0) rfl rfl,?_⟩;refine H8.l 0 ?_;refine(Bh (H8.cells (i:=0) rfl) hb').mono ?_;rintro _ w9 ⟨rfl,hb9⟩;have H9:=H8.pass hb9;refine⟨_,rfl,?_⟩;refine⟨hb9.keeps,?_⟩;refine(Bh (H9.cells (i:=0) rfl) hb').mono ?_;rintro _ w10 ⟨rfl,hb10⟩;have H10:=H9.pass hb10;refine⟨_,rfl,?_⟩;replace hb10:=Ax hb9 (aG _) hb10;refine⟨hb10.keeps,?_⟩;apply Aa<;>intro c3
  ·refine H10.l 0 ?_;refine H10.U 0 ?_;clear H10;intro w11 H11;exact⟨a',c',rfl,by rw[aF c3];exact hp',by rw[aF c3];exact H11⟩
  ·exact⟨a',c',rfl,by rw[aE c3];exact hp',by rw[aE c3];exact H10⟩
 ·refine⟨fun m w1=>∃(t:Rc) (ta:Option Addr) (tc:Nat),m=t.parts.length/\t={ s with first:=t.first,parts:=t.parts }/\Mu s.lk.bits t.first t.parts=Mu s.lk.bits s.first s.parts/\(0<=t.first/\t.first<=1000000)/\t.parts.length<=tc/\(∀w,P w->PaR w ta t.parts)/\St A [g] w w1 [Gj g t ta tc] P,
   ⟨_,s,a,c,rfl,rfl,rfl,hf,hcap,hp,H⟩,?_⟩
  clear H;rintro _ m w1 ⟨t,ta,tc,rfl,ht,hd,hft,htc,hpt,H1⟩;have hbt:Bv t.lk.bits:=by rw[ht];exact hb
  have hex:(∀p l,t.parts=p::l->p.sn=t.first->p.done=true->False)->∀w3,St A [g] w w3 [Gj g t ta tc] P->∃a' c',(∀w,P w->PaR w a' v.parts)/\St A [g] w w3 [Gj g v a' c'] P:=fun hno w3 H3=>by
   have e:v=t:=by
    rw[hv,ht];unfold Aea;rw[<-hd];have:Mu s.lk.bits t.first t.parts=(t.first,t.parts):=by
     cases hl:t.parts with
     |nil=>rfl
     |cons p l=>rw[Mu,aE (fun h=>hno p l hl h.1 h.2)]
    rw[this]
   rw[e];exact⟨ta,tc,hpt,H3⟩
  refine⟨fun w3=>(∃p l,t.parts=p::l/\p.sn=t.first/\p.done=true)/\St A [g] w w3 [Gj g t ta tc] P,?_,?_⟩
  ·rintro _ w3 ⟨⟨p,l,hl,hps,hpd⟩,H3⟩;have hll:t.parts.length=l.length+1:=by rw[hl];rfl
   refine H3.m 0 ?_;refine⟨⟨by omega,by omega⟩,?_⟩;refine H3.U 0 ?_;clear H3;intro w4 H4;replace H4:St A [g] w w4 [Gj g { t with parts:=l } (Ay tc (1:Int).toNat 5 ta) (tc-(1:Int).toNat)] P:=by
    have:l.length=t.parts.length-(1:Int).toNat:=by rw[hll];rfl
    show St A [g] w w4 [.blk g Cd (Bi { t with parts:=l } _ _)] P;unfold Bi;rw[show ({ t with parts:=l }:Rc).parts.length=t.parts.length-(1:Int).toNat from this];exact H4
   refine H4.l 0 ?_;refine(Eb (s:={ t with parts:=l }) (n:=t.first) (H4.cells (i:=0) rfl) hbt ⟨by omega,by omega⟩).mono ?_;rintro _ w5 ⟨rfl,hb5⟩;have H5:=H4.pass hb5;clear H4;refine⟨_,rfl,?_⟩;refine H5.U 0 ?_;clear H5;intro w6 H6;have hpw:=Cm hbt;refine⟨_,?_,{ t with parts:=l,first:=t.behind t.first },_,_,rfl,?_,?_,?_,?_,?_,H6⟩
   ·rw[hll];show l.length<l.length+1;omega
   ·rw[ht]
   ·rw[<-hd,hl,Mu,aF ⟨hps,hpd⟩];show Mu s.lk.bits (t.behind t.first) l=_;rw[Rc.behind,show t.lk=s.lk by rw[ht]]
   ·show 0<=t.behind t.first/\t.behind t.first<=1000000;unfold Rc.behind;have h1:=cV (t.first+1) (b:=2^t.lk.bits.toNat) (by omega);have h2:=cN (t.first+1) (b:=2^t.lk.bits.toNat) (by omega);omega
   ·show l.length<=tc-1;omega
   ·intro w9 h9;have h3:=hpt w9 h9;have h4:=h3.tailE (m:=tc) (l:=1) htc;rw[hl]at h4;exact h4
  ·refine H1.drew ?_;clear H1;intro w2 H2;refine H2.m 0 ?_;apply Aa<;>intro c2
   ·refine H2.m 0 ?_;have hlt:0<t.parts.length:=by omega
    refine Uu (hpt _ H2.get) 0 rfl hlt fun b hbb=>?_;obtain⟨p,l,hl⟩:∃p l,t.parts=p::l:=by
     cases h:t.parts with
     |nil=>rw[h]at hlt;simp at hlt
     |cons p l=>exact⟨p,l,rfl⟩
    have hp0:t.parts[0]=p:=by simp[hl]
    rw[hp0]at hbb;obtain⟨a1,c1',a2,c2',hbb,_,_,_⟩:=hbb;refine⟨_,by have:=Bc hbb 0 _ rfl;rwa[aN,add_zero]at this,?_⟩;refine H2.l 0 ?_;apply Aa<;>intro c1
    ·refine H2.m 0 ?_;refine Uu (hpt _ H2.get) 0 rfl hlt fun b1 hb1=>?_;rw[hp0]at hb1;obtain⟨a3,c3',a4,c4',hb1,_,_,_⟩:=hb1;refine⟨_,by have:=Bc hb1 1 _ rfl;rwa[aN]at this,?_⟩;apply Al<;>intro c
     ·exact⟨⟨p,l,hl,c1,c⟩,H2⟩
     ·exact hex (fun p' l' h1 h2 h3=>by rw[hl]at h1;injection h1 with h1 _;subst h1;rw[h3]at c;cases c) _ H2
    ·exact hex (fun p' l' h1 h2 h3=>by rw[hl]at h1;injection h1 with h1 _;subst h1;exact c1 h2) _ H2
   ·exact hex (fun p' l' h1 h2 h3=>by rw[h1]at c2;simp at c2) _ H2
theorem St.advR{A0:Nat->Prop}{M:List Nat}{w0 w:World}{R:List Res}{P:World->Prop}{g i:Nat}(H:St A0 M w0 w R P)(hi:R[i]?=some (Gj g s a c))(hb:Bv s.lk.bits)(hf:0<=s.first/\s.first<=1000000)(hcap:s.parts.length<=c)(hp:∀w,P w->PaR w a s.parts){K:Ending->World->Prop}
 (h:∀a' c' w',(∀w,P w->PaR w a' (Qa s).parts)->St A0 M w0 w' (R.set i (Gj g (Qa s) a' c')) P->K (.returned (.tuple #[])) w'):Calls Tryz.prog Fo #[(.pointer (some ⟨g,0,none⟩))] w K:=by
 obtain⟨A,hA,hn',hr,hc⟩:=H.callM hi;refine(Wo hb hf hcap hp hA hr hn').mono ?_;rintro _ w2 ⟨a',c',rfl,hp',S⟩;have:=hc S;rw[aL]at this;exact h a' c' w2 hp' (this.imp fun _ h=>h.2)
end
end Go.Proofs.YtmbppohkadmjgaaGreat
namespace Go.Sx
theorem Adp{b:Int}{bs:List Int}(h:(Ip b bs).2=0):(Ip b bs).1.ok b:=by
 unfold Ip at h ⊢;by_cases h1:¬Bv b
 ·rw[aF h1]at h;cases h
 rw[aE h1]at h ⊢;by_cases h2:bs.length<2
 ·rw[aF h2]at h;cases h
 rw[aE h2]at h ⊢;by_cases h3:bs.length<=headN (Kb bs).part
 ·rw[aF h3]at h;cases h
 rw[aE h3]at h ⊢;by_cases h4:bs.getD 0 0<128\/¬(Kb bs).ok b
 ·rw[aF h4]at h;cases h
 rw[aE h4];exact Classical.byContradiction fun h5=>h4 (.inr h5)
theorem Bbw{s:Rc}{n:Int}(hb:Bv s.lk.bits)(hn:Bt s.lk.bits n)(hall:∀x∈s.parts,Bt s.lk.bits x.sn):Bbz (fun x=>s.place x.sn) (s.place n) s.parts[atP s n]?=Ho s n:=by
 unfold Ho;cases h:s.parts[atP s n]? with
 |none=>rfl
 |some x=>
  have hx:=hall x (bL h);show decide _=decide _;rw[bT];exact⟨fun e=>Xm hb hx hn e,fun e=>by show s.place x.sn=_;rw[e]⟩
theorem Anm{s:Rc}{n:Int}(h:Ho s n=true):∃hk:atP s n<s.parts.length,s.parts[atP s n].sn=n:=by
 unfold Ho at h;split at h
 ·rename_i x hx;obtain⟨hk,e⟩:=List.getElem?_eq_some_iff.1 hx;exact⟨hk,by rw[e];exact of_decide_eq_true h⟩
 ·cases h
theorem Axd{l:List Rg}(h:Cc (-1) l=true)(hl:l≠[]):0<endT l:=by
 obtain⟨_,h2⟩:=Mn (q:=0) h;obtain⟨x,hx,e⟩:=h2 hl;have:=Lo l _ h x hx;unfold endT;omega
theorem Vk(s:Rc)(p:Pc):(pollR s p).parts=s.parts:=by unfold pollR;split<;>rfl
theorem Ba7(s:Rc):(Qa s).lk=s.lk:=by unfold Qa Akc;split<;>rfl
end Go.Sx
namespace Go.Proofs.YtmbppohkadmjgaaGreat
open Go.Sx Go.RowKit
set_option maxRecDepth 100000
theorem Ayj{s:Rc}{p:Pc}(h:Ho s p.sn=true)(hr:Ek s p=0):∀x,s.parts[atP s p.sn]?=some x->x.done=false:=by
 intro x hx;rw[Yx,aF h,hx]at hr;unfold Aeg at hr;cases hd:x.done with
 |false=>rfl
 |true=>
  split at hr
  ·cases hr
  ·simp[hd]at hr
def Bbm(w:World)(x:Rc)(u:List Int)(E:Int)(e:Ending)(w':World):Prop:=
 ∃a c ba bc,e=.returned (.tuple #[Fw x a c,.slice ba u.length bc,.int .i64 E])/\u.length<=bc/\Ti w w' fun w=>PaR w a x.parts/\SlR (Bp .u8) 1 w ba u
def Soft(w:World)(a:Option Addr):Prop:=∀b q:Addr,a=some b->q.block=b.block->w.frozen? q=false
theorem Soft.none_(w:World):Soft w none:=fun _ _ h=>by cases h
theorem Soft.tail{w:World}{a:Option Addr}(h:Soft w a)(m l sz:Nat):Soft w (Ay m l sz a):=by
 intro b q hb hq;unfold Ay at hb;split at hb
 ·exact h b q hb hq
 ·cases ha:a with
  |none=>rw[ha]at hb;cases hb
  |some x=>
   rw[ha]at hb;have e:x.add (l*sz)=b:=Option.some.inj hb;exact h x q ha (by rw[hq,<-e];exact Qo _ _)
theorem Baj{w:World}{base:Nat}{e:TypeId}{sz n c:Nat}{a:Option Addr}{xs:List Value}(h:Own w base e sz a n c xs):Soft w a:=by
 intro b q hb hq;subst hb;rcases h.2 with ⟨h',_⟩|⟨g,_,_,h',_⟩
 ·cases h'
 ·injection h' with h1 _ _
  injection h1 with h1
  subst h1;have e:w.frozen? q=w.frozen? ⟨g,q.off,none⟩:=by unfold World.frozen?;rw[hq]
  rw[e];exact World.ownsRow.frozenAt h _
abbrev PaS(w:World)(a:Option Addr)(L:List Pa):Prop:=PaR w a L/\Soft w a
theorem Ao0{A0:Nat->Prop}{w0 w:World}{X:List Res}{P:World->Prop}{L:List PP}{ua:Option Addr}{uc:Nat}(H:St A0 [] w0 w (X++.els Bf Ac 5 ua uc L::L.map agP) P)(hc:∀w,P w->CoR L w):St A0 [] w0 w X fun w=>PaS w ua (L.map (·.p))/\P w:=by
 have H':St A0 [] w0 w ((X++[.els Bf Ac 5 ua uc L])++L.map agP) P:=by simpa using H
 have K:=(Aik H').share (i:=X.length) (r:=.els Bf Ac 5 ua uc L) (by simp);rw[cH _ _ (aG _)]at K;exact K.left.imp fun w h=>⟨⟨Atc (Sb encPP_ok h.1) h.2.1 (hc w h.2.2),Baj h.1⟩,h.2.2⟩
theorem Azt{A0:Nat->Prop}{w0 w:World}{X:List Res}{P:World->Prop}{L:List PP}{ua:Option Addr}{uc:Nat}(H:St A0 [] w0 w (X++.els Bf Ac 5 ua uc L::L.map agP) P)(hc:∀w,P w->CoR L w):St A0 [] w0 w X fun w=>PaR w ua (L.map (·.p))/\P w:=
 (Ao0 H hc).imp fun _ h=>⟨h.1.1,h.2⟩
theorem Ayo{A0:Nat->Prop}{w0 w:World}{X:List Res}{r:Res}{P:World->Prop}{L:List PP}{k:Nat}(H:St A0 [] w0 w (X++r::L.map agP) P)(hk:k<L.length)(z:PP)(hz:agP z=.ints Az .u8 none 0 []):St A0 [] w0 w (X++r::(L.set k z).map agP) fun w=>(agP L[k]).ok w/\P w:=by
 have hu:(L.map agP)[k]?=some (agP L[k]):=by rw[List.getElem?_map,List.getElem?_eq_getElem hk];rfl
 have K:=H.share (Aw8 hu);rw[An9]at K;have K:=K.nilI Az .u8;have e:X++r::(L.map agP).set k .gone++[Res.ints Az .u8 none 0 []]=(X++[r])++(L.map agP).set k .gone++[agP z]:=by rw[hz];simp
 rw[e]at K;have K:=St.swapLast k K;rw[cF,<-bG]at K;have e2:X++r::(L.set k z).map agP=(X++[r])++(L.set k z).map agP:=by simp
 rw[e2];exact K
theorem Bbk{A0:Nat->Prop}{w0 w:World}{X:List Res}{r:Res}{P:World->Prop}{L:List PP}{k:Nat}(H:St A0 [] w0 w (X++r::L.map agP) P)(z:PP)(hz:agP z=.ints Az .u8 none 0 []):St A0 [] w0 w (X++r::(L.take k++z::L.drop k).map agP) P:=by
 have K:=H.nilI Az .u8;have e:X++r::L.map agP++[Res.ints Az .u8 none 0 []]=(X++[r])++L.map agP++[agP z]:=by rw[hz];simp
 rw[e]at K;have K:=St.lastTo K;have e2:L.map agP=(L.take k).map agP++(L.drop k).map agP:=by rw[<-bD,bR]
 rw[e2]at K;have K:=St.newIn K;have e3:X++r::(L.take k++z::L.drop k).map agP=X++[r]++((L.take k).map agP++agP z::(L.drop k).map agP):=by simp
 rw[e3];exact K
def Bbg(L:List PP)(k:Nat):Prop:=∃hk:k<L.length,L[k].p.data.length<=3000/\(0<L[k].p.data.length\/(L[k].p.data=[]/\L[k].a=none/\L[k].c=0))/\L[k].p.come.length<=3000/\Cc (-1) L[k].p.come=true
abbrev Akz(b b1 g b2 b3 pb:Nat)(s:Rc)(a:Option Addr)(c:Nat)(t:Rc)(ua:Option Addr)(uc:Nat)(p:Pc)(pa:Option Addr)(pc:Nat)(L:List PP):List Res:=
 .blk b Ag (Bi s a c)::.blk b1 Ag (Bi .zero none 0)::Gj g t ua uc::.blk b2 Ub [.pointer (some ⟨g,0,none⟩)]::.blk b3 Ap [.int .i64 p.sn,.int .i64 p.part,.int .i64 p.poll,.int .i64 p.off,.slice pa p.data.length pc]::.blk pb Dd (Awu p pa pc)::.els Bf Ac 5 ua uc L::L.map agP
section
variable{s:Rc}{a:Option Addr}{c:Nat}{b_a:Option Addr}{b_c:Nat}{bs:List Int}{w:World}
theorem Ad6(hu:PaR w a s.parts)(hl:SmP s.parts)(hs:SlR (Bp .u8) 1 w b_a bs)(hB:Bytes bs)(hlb:bs.length<=140737488355328)(hcap:bs.length<=b_c):Calls Tryz.prog Nn #[Fw s a c,.slice b_a bs.length b_c] w (Bbm w (It s bs).1 (It s bs).2.1 (It s bs).2.2):=by
 apply Aao;have H:=St.nil w;refine H.alloc ?_;clear H;intro b w1 H1;refine H1.alloc ?_;clear H1;intro b1 w2 H2;refine⟨_,_,_,_,_,_,_,_,_,_,_,_,_,_,_,_,H2.cells (i:=0) rfl,?_⟩;refine(Oq (Cw hu H2.below) hl).mono ?_;rintro _ w3 ⟨rfl,hb3⟩;have H3:=H2.pass hb3;clear H2;refine⟨_,rfl,?_⟩;apply Bq<;>intro c5
 ·refine H3.s 1 ?_;clear H3;intro w4 H4;refine⟨_,_,_,_,_,_,_,_,_,_,_,_,_,_,_,_,H4.cells (i:=1) rfl,?_⟩;rw[It,aF c5];exact⟨none,0,none,0,rfl,aG _,H4.fin.imp fun _ _=>⟨.nil,.nil⟩⟩
 ·obtain⟨hf,hlk,hs1,hs2,hs3,hq,hall⟩:=Ty c5;have hb:=hlk.1;have hasc:=Ayi c5;obtain⟨q,hq⟩:∃q,q=Ip s.lk.bits bs:=⟨_,rfl⟩;have e0:It s bs=if q.2≠0 then (s,[],q.2) else if Ek s q.1≠0 then (pollR s q.1,[],Ek s q.1) else (pollR (startR (Qa (putP s q.1))) q.1,Gc s q.1,0):=by
   rw[hq,It,aE (by rw[c5];decide)]
  rw[e0];refine⟨_,_,_,_,_,_,_,_,_,_,_,_,_,_,_,_,H3.cells (i:=0) rfl,?_⟩;refine(Ps (Cw hu H3.below) hf).mono ?_;rintro _ w5 ⟨g5,ua5,uc5,L5,hL5,rfl,K5⟩;have H5:=H3.callF K5;clear H3;try simp only[aD,aC]at H5
  have hlen5:s.parts.length=L5.length:=by rw[<-hL5,bC]
  refine⟨_,rfl,?_⟩;refine H5.alloc ?_;clear H5;intro b2 w6 H6;have H6:=St.lastTo (X:=[_,_,_]) H6;try simp only[aD,aC]at H6
  refine H6.set (i:=3) rfl (by decide) ?_;clear H6;intro w7 H7;refine H7.l 0 ?_;have C8:=Ah3 (bits:=s.lk.bits) (b_c:=b_c) (hs.below H7.below) hB hlb hcap;rw[<-hq]at C8;refine C8.mono ?_;clear C8;rintro _ w8 ⟨pa,pc,hpc,rfl,K8⟩;have H8:=H7.callF K8;clear H7;rw[aL]at H8;refine⟨_,_,_,_,_,_,_,_,rfl,?_⟩;refine H8.alloc ?_;clear H8;intro b3 w9 H9;have H9:=St.lastTo (X:=[_,_,_,_]) H9;try simp only[aD,aC]at H9
  refine H9.s 4 ?_;clear H9;intro w10 H10;apply An<;>intro c4
  ·refine⟨_,H10.cell (i:=3) rfl rfl,?_⟩;refine Bk ?_;try rw[Bd]
   refine⟨_,_,_,_,_,_,_,_,_,_,_,_,_,_,_,_,H10.cells (i:=2) rfl,?_⟩;refine H10.s 1 ?_;clear H10;intro w11 H11;refine⟨_,_,_,_,_,_,_,_,_,_,_,_,_,_,_,_,H11.cells (i:=1) rfl,?_⟩;rw[aF c4];exact⟨ua5,uc5,none,0,rfl,aG _,(Azt (X:=[_,_,_,_,_]) H11 fun _ h=>h.2.1).fin.imp fun _ h=>⟨by rw[<-hL5];exact h.1,.nil⟩⟩
  ·have hq0:q.2=0:=by simpa using c4
   rw[aE (by rw[hq0];decide)];obtain⟨pcc,hpcc⟩:∃pcc,pcc=q.1:=⟨_,rfl⟩;have hpok:pcc.ok s.lk.bits:=by rw[hpcc];rw[hq]at hq0 ⊢;exact Adp hq0
   obtain⟨-,hpsn,hpart,hppoll,hpoff,hpo,hpd,hpe⟩:=hpok;rw[<-hpcc]at H10 hpc ⊢;have hsn:Bt s.lk.bits pcc.sn:=hpsn;have hfnd:=Bbw hb hsn fun x hx=>(hall x hx).2;obtain⟨k,hk⟩:∃k,k=atP s pcc.sn:=⟨_,rfl⟩;have hkl:k<=s.parts.length:=by rw[hk];exact At8 _ _
   have hl6:s.parts.length<=600:=hf.1;have hb0:=Cm hb;refine⟨fun pp w21=>∃pb,pp=(⟨pb,0,none⟩:Addr)/\St (fun _=>False) [] w w21 (Akz b b1 g5 b2 b3 pb s a c s ua5 uc5 pcc pa pc L5) (fun w=>SlR (Bp .u8) 1 w pa pcc.data/\CoR L5 w/\True),?_,?_⟩
   ·rintro _ _ w21 ⟨pb,rfl,H21⟩;refine H21.drew ?_;clear H21;intro w22 H22;refine⟨(· <w22.heap.size),?_⟩;refine⟨H22.lt (i:=3) rfl rfl,?_⟩;refine⟨_,H22.cell (i:=3) rfl rfl,?_⟩;refine Bk ?_;try rw[Bd]
    refine⟨H22.lt (i:=2) rfl rfl,?_⟩;refine H22.m 2 ?_;refine⟨_,H22.cell (i:=3) rfl rfl,?_⟩;refine⟨_,H22.cell (i:=5) rfl rfl,?_⟩;refine(Bh (H22.cells (i:=2) rfl) hb).mono ?_;rintro _ w23 ⟨rfl,hb23⟩;have H23:=H22.pass hb23;refine⟨_,rfl,?_⟩;refine⟨hb23.keeps,?_⟩;have hpa23:PaR w23 ua5 s.parts:=by
     have:=Bc4 (X:=[_,_,_,_,_,_]) H23 fun _ h=>h.2.1;rwa[hL5]at this
    have C24:=Avl (c:=uc5) (g:=Hj) (ff:=#[]) (fc:=#[.pointer (some ⟨b2,0,none⟩)]) (target:=s.place pcc.sn) hpa23 (by omega) (fun x=>s.place x.sn) (by kernel_rfl) ⟨by have:=Fb s pcc.sn;omega,fun x _=>by have:=Fb s x.sn;omega⟩ hasc
     (fun w9 x a1 c1 a2 c2 _ hb9=>Aa9 (hb9.get (H23.cell (i:=3) rfl rfl)) (Av (H23.cells (i:=2) rfl) hb9) hb (by have:=Fb s pcc.sn;omega))
    rw[show (s.parts.takeWhile fun x=>decide (s.place x.sn<s.place pcc.sn)).length=atP s pcc.sn from rfl,hfnd]at C24;refine C24.mono ?_;clear C24;rintro _ w24 ⟨rfl,hb24⟩;have H24:=H23.pass hb24;have hb24':=hb24;refine⟨_,_,rfl,?_⟩;replace hb24:=Ax hb23 (aG _) hb24;refine⟨hb24.keeps,?_⟩;refine⟨_,H24.cell (i:=3) rfl rfl,?_⟩;refine⟨_,_,_,_,_,_,_,_,_,H24.cells (i:=5) rfl,?_⟩;refine(Wj (p:=pcc) (pa:=pa) (pc:=pc) (k:=atP s pcc.sn) (found:=Ho s pcc.sn) (H24.cells (i:=2) rfl) (Cw hpa23 hb24') hb (fun h=>(Anm h).1) (fun x hx=>by have:=(hf.2 x hx).1;omega)).mono ?_;rintro _ w25 ⟨rfl,hb25⟩;have H25:=H24.pass hb25;clear H24;rw[<-Yx];refine⟨_,rfl,?_⟩;apply An<;>intro c3
    ·refine⟨_,H25.cell (i:=3) rfl rfl,?_⟩;refine⟨_,_,_,_,_,_,_,H25.cells (i:=4) rfl,?_⟩;refine St.pollR (p:=pcc) (pa:=pa) (pc:=pc) H25 (i:=2) rfl ?_;intro w26 H26;refine⟨rfl,?_⟩;refine⟨_,H26.cell (i:=3) rfl rfl,?_⟩;refine Bk ?_;try rw[Bd]
     refine⟨_,_,_,_,_,_,_,_,_,_,_,_,_,_,_,_,H26.cells (i:=2) rfl,?_⟩;refine H26.s 1 ?_;clear H26;intro w27 H27;refine⟨_,_,_,_,_,_,_,_,_,_,_,_,_,_,_,_,H27.cells (i:=1) rfl,?_⟩;rw[aF c3];exact⟨ua5,uc5,none,0,rfl,aG _,(Azt (X:=[_,_,_,_,_,_]) H27 fun _ h=>h.2.1).fin.imp fun _ h=>⟨by rw[Vk,<-hL5];exact h.1,.nil⟩⟩
    ·have hr0:Ek s pcc=0:=by simpa using c3
     rw[aE (by rw[hr0];decide)];refine⟨fun w32=>∃(L6:List PP) (ua6:Option Addr) (uc6:Nat),L6.map (·.p)=Mw s pcc/\Bbg L6 k/\St (fun _=>False) [] w w32 (Akz b b1 g5 b2 b3 pb s a c { s with parts:=Mw s pcc } ua6 uc6 pcc pa pc L6) (fun w=>SlR (Bp .u8) 1 w pa pcc.data/\CoR L6 w),?_,?_⟩
     ·rintro _ w32 ⟨L6,ua6,uc6,hL6,hrd,H32⟩;obtain⟨hkL,hr1,hr2,hr3,hr4⟩:=hrd;have hlen6:(Mw s pcc).length=L6.length:=by rw[<-hL6,bC]
      have hmg:Dk s pcc=Es L6[k].p pcc:=by
       unfold Dk;rw[<-hL6,<-hk,List.getElem?_map,List.getElem?_eq_getElem hkL];rfl
      have hins:(Mw s pcc).length<=601:=by
       unfold Mw;split
       ·omega
       ·simp only[aP,aQ,aU,bJ];omega
      obtain⟨t2,ht2⟩:∃t2:Rc,t2={ s with parts:=Mw s pcc,next:=if s.place pcc.sn>=s.place s.next then s.behind pcc.sn else s.next }:=⟨_,rfl⟩;refine⟨fun w39=>St (fun _=>False) [] w w39 (Akz b b1 g5 b2 b3 pb s a c t2 ua6 uc6 pcc pa pc L6) (fun w=>SlR (Bp .u8) 1 w pa pcc.data/\CoR L6 w),?_,?_⟩
      ·rintro _ w39 H39;obtain⟨g6,rfl,-,hc6⟩:=H39.rowSome (i:=6) rfl (by omega);obtain⟨v,hv⟩:∃v:Rc,v=putP s pcc:=⟨_,rfl⟩;have e2:Bi t2 (some ⟨g6,0,none⟩) uc6=Bi v (some ⟨g6,0,none⟩) uc6:=by rw[hv,ht2];unfold Bi putP;simp only[bE]
       have e2':∀L,Akz b b1 g5 b2 b3 pb s a c t2 (some ⟨g6,0,none⟩) uc6 pcc pa pc L=Akz b b1 g5 b2 b3 pb s a c v (some ⟨g6,0,none⟩) uc6 pcc pa pc L:=fun L=>by unfold Akz Gj;rw[e2]
       rw[e2']at H39;have ht2l:t2.parts.length=L6.length:=by rw[ht2];exact hlen6
       have hvp:v.parts=(Mw s pcc).set k (if Lx (Dk s pcc) then Si pcc.sn else Dk s pcc):=by rw[hv,hk];rfl
       have hvl:v.parts.length=L6.length:=by rw[hvp,bE,hlen6]
       have hvk:v.lk=s.lk:=by rw[hv];rfl
       have hvf:v.first=s.first:=by rw[hv];rfl
       rw[<-hv];refine⟨_,H39.cell (i:=3) rfl rfl,?_⟩;refine Bk ?_;try rw[Bd]
       refine H39.m 2 ?_;refine⟨⟨g6,0,none⟩,rfl,⟨by omega,by omega⟩,?_⟩;dsimp only;rw[<-hk,As6];refine⟨_,_,_,_,_,_,_,_,_,H39.cells (i:=5) rfl,?_⟩;refine St.putP (X:=[_,_,_,_,_,_]) (p:=pcc) (pa:=pa) (pc:=pc) H39 hkL L6[k] rfl ⟨hpo,hpd,hpe⟩ hr1 hr2 hr3 hr4 (fun _ h=>h.1) (fun _ h=>h.2 _ (aJ _)) ?_;intro w40 z hz hzc H40;have hzk:k<(L6.set k z).length:=by simpa using hkL
       have hzg:(L6.set k z)[k]=z:=by simp
       have hco:∀w,(SlR (CE Bn) 3 w z.a2 z.p.come/\SlR (Bp .u8) 1 w pa pcc.data/\CoR L6 w)->∀y:PP,(∀w,(SlR (CE Bn) 3 w z.a2 z.p.come)->SlR (CE Bn) 3 w y.a2 y.p.come)->CoR (L6.set k y) w:=fun w h y hy x hx=>by
        rcases bM hx with hx|rfl
        ·exact h.2.2 x hx
        ·exact hy w h.1
       rw[<-hmg]at hz;refine⟨rfl,?_⟩;refine⟨fun out_a out_l out_c w43=>∃(L7:List PP),L7.map (·.p)=v.parts/\out_l=(Gc s pcc).length/\out_l<=out_c/\St (fun _=>False) [] w w43 (Akz b b1 g5 b2 b3 pb s a c v (some ⟨g6,0,none⟩) uc6 pcc pa pc L7) (fun w=>SlR (Bp .u8) 1 w out_a (Gc s pcc)/\CoR L7 w),?_,?_⟩
       ·rintro _ out_a _ out_c w43 ⟨L7,hL7,rfl,hoc,H43⟩;have H43:=Azt (X:=[_,_,_,_,_,_]) H43 fun _ h=>h.2;rw[hL7]at H43;refine⟨_,H43.cell (i:=3) rfl rfl,?_⟩;refine St.advR (s:=v) H43 (i:=2) rfl (by rw[hvk];exact hb) (by rw[hvf];unfold Bt at hs1;omega) (by omega) (fun _ h=>h.1) ?_;intro aa ac w44 hp44 H44;clear H43;refine⟨rfl,?_⟩;refine⟨_,H44.cell (i:=3) rfl rfl,?_⟩;refine St.startR (s:=Qa v) H44 (i:=2) rfl (by rw[Ba7,hvk];exact hb) ?_;intro w45 H45;refine⟨rfl,?_⟩;refine⟨_,H45.cell (i:=3) rfl rfl,?_⟩;refine⟨_,_,_,_,_,_,_,H45.cells (i:=4) rfl,?_⟩;refine St.pollR (p:=pcc) (pa:=pa) (pc:=pc) H45 (i:=2) rfl ?_;intro w46 H46;refine⟨rfl,?_⟩;refine⟨_,H46.cell (i:=3) rfl rfl,?_⟩;refine Bk ?_;try rw[Bd]
        refine⟨_,_,_,_,_,_,_,_,_,_,_,_,_,_,_,_,H46.cells (i:=2) rfl,?_⟩;refine H46.s 1 ?_;clear H46;intro w47 H47;refine⟨_,_,_,_,_,_,_,_,_,_,_,_,_,_,_,_,H47.cells (i:=1) rfl,?_⟩;have ep:(pollR (startR (Qa v)) pcc).parts=(Qa v).parts:=by rw[Vk,(Ob _).1]
        exact⟨aa,ac,out_a,out_c,rfl,hoc,H47.fin.imp fun _ h=>⟨by rw[ep];exact hp44 _ h,h.2.1⟩⟩
       ·have hcz:=H40.cellsEl encPP_ok (i:=6) rfl hzk;rw[hzg]at hcz;refine⟨_,_,_,_,_,_,_,_,_,hcz,?_⟩;refine(Rp (x:=z.p) H40.get.1).mono ?_;rw[hz];rintro _ w41 ⟨rfl,hb41⟩;have H41:=H40.pass hb41;clear H40;refine⟨_,rfl,?_⟩;apply Al<;>intro c2
        ·refine⟨_,_,_,by have:=H41.cellEl encPP_ok (i:=6) rfl hzk (j:=3) (by decide) (by rw[hzg];rfl);rwa[Bd],?_⟩;refine⟨_,H41.cell (i:=5) rfl rfl,?_⟩;refine H41.storeEl encPP_ok (i:=6) rfl hzk ⟨Si pcc.sn,none,0,none,0⟩ ?_;intro w42 _ H42;have K:=Ayo (X:=[_,_,_,_,_,_]) H42 hzk ⟨Si pcc.sn,none,0,none,0⟩ rfl;rw[cF,hzg]at K;exact⟨L6.set k ⟨Si pcc.sn,none,0,none,0⟩,by rw[bG,hL6,hvp,aF c2],by rw[Gc,aF c2,<-hz],hzc,K.imp fun w h=>⟨by rw[Gc,aF c2,<-hz];exact(Oj h.1).sl,hco w h.2 _ fun _ _=>.nil⟩⟩
        ·have c2':¬Lx (Dk s pcc)=true:=by rw[c2];decide
         exact⟨L6.set k z,by rw[bG,hL6,hvp,aE c2',hz],by rw[Gc,aE c2'];rfl,aX _,H41.imp fun w h=>⟨by rw[Gc,aE c2'];exact .nil,hco w h _ fun _ h=>h⟩⟩
      ·refine H32.drew ?_;clear H32;intro w33 H33;refine⟨(· <w33.heap.size),?_⟩;refine⟨_,H33.cell (i:=3) rfl rfl,?_⟩;refine⟨_,H33.cell (i:=5) rfl rfl,?_⟩;refine⟨H33.lt (i:=3) rfl rfl,?_⟩;refine⟨_,H33.cell (i:=3) rfl rfl,?_⟩;refine⟨H33.lt (i:=3) rfl rfl,?_⟩;refine⟨_,H33.cell (i:=3) rfl rfl,?_⟩;refine Bk ?_;try rw[Bd]
       refine⟨H33.lt (i:=2) rfl rfl,?_⟩;refine H33.l 2 ?_;refine(Bh (H33.cells (i:=2) rfl) hb).mono ?_;rintro _ w34 ⟨rfl,hb34⟩;have H34:=H33.pass hb34;refine⟨_,rfl,?_⟩;refine⟨hb34.keeps,?_⟩;refine(Bh (H34.cells (i:=2) rfl) hb).mono ?_;rintro _ w35 ⟨rfl,hb35⟩;have H35:=H34.pass hb35;refine⟨_,rfl,?_⟩;replace hb35:=Ax hb34 (aG _) hb35;refine⟨hb35.keeps,?_⟩;apply Aa<;>intro c1
       ·refine H35.drew ?_;clear H35;intro w36 H36;refine⟨(· <w36.heap.size),?_⟩;refine⟨H36.lt (i:=3) rfl rfl,?_⟩;refine⟨_,H36.cell (i:=3) rfl rfl,?_⟩;refine⟨_,H36.cell (i:=3) rfl rfl,?_⟩;refine⟨_,H36.cell (i:=5) rfl rfl,?_⟩;refine(Eb (n:=pcc.sn) (H36.cells (i:=2) rfl) hb (by unfold Bt at hsn;omega)).mono ?_;rintro _ w37 ⟨rfl,hb37⟩;have H37:=H36.pass hb37;refine⟨_,rfl,?_⟩;refine⟨hb37.keeps,?_⟩;refine Bk ?_;try rw[Bd]
        refine H37.U 2 ?_;intro w38 H38;rw[ht2,aF (show s.place pcc.sn>=s.place s.next from c1)];exact H38
       ·rw[ht2,aE (show ¬s.place pcc.sn>=s.place s.next from c1)];exact H35
     ·apply Bq<;>intro c
      ·refine H25.drew ?_;clear H25;intro w28 H28;refine⟨fun x=>x=b2\/x=g5,?_⟩;refine⟨.inl rfl,?_⟩;refine⟨_,H28.cell (i:=3) rfl rfl,?_⟩;refine⟨.inl rfl,?_⟩;refine⟨_,H28.cell (i:=3) rfl rfl,?_⟩;refine Bk ?_;try rw[Bd]
       refine⟨.inr rfl,?_⟩;refine H28.m 2 ?_;refine⟨_,H28.cell (i:=5) rfl rfl,?_⟩;refine⟨KeepsB.refl _ _,?_⟩;refine H28.allocB ?_;intro b7 w29 hb29 H29;have H29:=St.lastTo (X:=[_,_,_,_,_,_]) H29;try simp only[aD,aC]at H29
       refine⟨Baf (Mk (H28.ok 3 _ rfl) (H29.ok 3 _ rfl)) (Mk (H28.ok 2 _ rfl) (H29.ok 2 _ rfl)),?_⟩;rw[<-hk,hlen5];refine Awi (x:=⟨Iu pcc.sn,none,0,none,0⟩) H29 (i:=7) (j:=6) rfl rfl (by omega) (by omega) ?_;intro ua6 uc6 w30 H30;refine⟨_,_,_,rfl,?_⟩;skip;refine⟨Baf (Mk (H28.ok 3 _ rfl) (H30.ok 3 _ rfl)) (Mk (H28.ok 2 _ rfl) (H30.ok 2 _ rfl)),?_⟩;refine Bk ?_;try rw[Bd]
       refine H30.U 2 ?_;intro w31 H31;have H31:=St.skip (X:=[_,_,_,_,_,_]) H31;have H31:=Bbk (X:=[_,_,_,_,_,_]) (k:=k) H31 ⟨Iu pcc.sn,none,0,none,0⟩ rfl;have hi6:Mw s pcc=s.parts.take k++Iu pcc.sn::s.parts.drop k:=by rw[Mw,aE (by rw[c];decide),hk]
       have el:(Mw s pcc).length=L5.length+1:=by rw[hi6];simp;omega
       have e:Gj g5 { s with parts:=Mw s pcc } ua6 uc6=.blk g5 Cd ((Bi s ua5 uc5).set 13 (.slice ua6 (L5.length+1) uc6)):=by unfold Gj Bi;simp only[el];rfl
       have hkn:k<(L5.take k++(⟨Iu pcc.sn,none,0,none,0⟩:PP)::L5.drop k).length:=by simp;omega
       have hgn:(L5.take k++(⟨Iu pcc.sn,none,0,none,0⟩:PP)::L5.drop k)[k]=⟨Iu pcc.sn,none,0,none,0⟩:=by
        rw[dZ (by simp;omega)];simp[show k-min k L5.length=0 by omega]
       refine⟨_,ua6,uc6,?_,⟨hkn,?_⟩,?_⟩
       ·rw[bD,bS,List.map_take,List.map_drop,hL5,hi6]
       ·rw[hgn];exact⟨aX _,.inr ⟨rfl,rfl,rfl⟩,aX _,rfl⟩
       ·unfold Akz;rw[e];exact H31.imp fun w h=>⟨h.1,fun x hx=>by
         rcases aW.1 hx with hx|hx
         ·exact h.2.1 x (dE hx)
         ·rcases bB.1 hx with rfl|hx
          ·exact .nil
          ·exact h.2.1 x (cD hx)⟩
      ·obtain⟨hk1,hk2⟩:=Anm c;have hi6:Mw s pcc=s.parts:=by rw[Mw,aF c]
       rw[hi6];have hkL:k<L5.length:=by rw[hk];omega
       have hx:L5[k].p=s.parts[atP s pcc.sn]:=by
        have:(L5.map (·.p))[k]?=some L5[k].p:=by rw[List.getElem?_map,List.getElem?_eq_getElem hkL];rfl
        rw[hL5]at this;have h3:s.parts[k]?=some s.parts[atP s pcc.sn]:=by rw[hk];exact List.getElem?_eq_getElem hk1
        exact Option.some.inj (this.symm.trans h3)
       have hnd:=Ayj c hr0 _ (List.getElem?_eq_getElem hk1);have hpb:=(hall _ (aJ hk1)).1;rw[<-hx]at hnd hpb;rw[paB,aE (by rw[hnd];decide),aH,aV]at hpb;have hcl:=Ad0 hpb.1;obtain⟨⟨-,hne,hno,-,hen,hdl,-⟩,-⟩:=hpb;have hpos:=Axd hno hne;refine⟨L5,ua5,uc5,hL5,⟨hkL,by omega,.inl (by omega),by omega,hno⟩,?_⟩;exact H25.imp fun w h=>⟨h.1,h.2.1⟩
   ·refine H10.drew ?_;clear H10;intro w12 H12;refine⟨(· <w12.heap.size),?_⟩;refine⟨H12.lt (i:=4) rfl rfl,?_⟩;refine⟨_,_,_,_,_,_,_,H12.cells (i:=4) rfl,?_⟩;refine⟨H12.lt (i:=4) rfl rfl,?_⟩;refine H12.l 4 ?_;refine⟨H12.lt (i:=4) rfl rfl,?_⟩;refine H12.m 4 ?_;refine Ao (by omega) ?_;refine⟨H12.lt (i:=4) rfl rfl,?_⟩;refine H12.l 4 ?_;refine⟨?_,?_,trivial⟩
    ·refine segment_Ends_ct.mono ?_;rintro _ w13 ⟨rfl,hb13⟩;have H13:=H12.pass hb13;refine⟨_,rfl,?_⟩;refine⟨hb13.keeps,?_⟩;refine⟨?_,?_,trivial⟩
     ·refine⟨hb13.keeps,?_⟩;refine H13.allocB ?_;intro b4 w14 hb14 H14;have H14:=St.lastTo (X:=[_,_,_,_,_]) H14;try simp only[aD,aC]at H14
      refine⟨(Ax hb13 (aG _) hb14).keeps,?_⟩;refine H14.s 5 ?_;intro w15 H15;exact⟨b4,rfl,H15⟩
     ·refine H13.allocB ?_;intro b5 w16 hb16 H16;have H16:=St.lastTo (X:=[_,_,_,_,_]) H16;try simp only[aD,aC]at H16
      refine⟨(Ax hb13 (aG _) hb16).keeps,(Ax hb13 (aG _) hb16).keeps,?_⟩;refine H16.s 5 ?_;intro w17 H17;exact⟨b5,rfl,H17⟩
    ·refine H12.allocB ?_;intro b6 w18 hb18 H18;have H18:=St.lastTo (X:=[_,_,_,_,_]) H18;try simp only[aD,aC]at H18
     refine⟨hb18.keeps,?_⟩;refine segment_Ends_ct.mono ?_;rintro _ w19 ⟨rfl,hb19⟩;have H19:=H18.pass hb19;refine⟨_,rfl,?_⟩;replace hb19:=Ax hb18 (aG _) hb19;refine⟨hb19.keeps,?_⟩;refine⟨hb19.keeps,?_⟩;refine H19.s 5 ?_;intro w20 H20;exact⟨b6,rfl,H20⟩
end
abbrev Ahd(x:Pa)(j:Nat):Pa:={ x with data:=x.data++List.replicate j 0 }
abbrev Are(b2 b1 b:Nat)(p:Pc)(pa:Option Addr)(pc:Nat)(x:Pa)(da:Option Addr)(dc:Nat)(a2:Option Addr)(c2:Nat)(T:List Res):List Res:=
 .blk b2 Ac [.int .i64 0,.bool false,.int .i64 0,.slice none 0 0,.slice none 0 0]::.blk b1 Ap [.int .i64 p.sn,.int .i64 p.part,.int .i64 p.poll,.int .i64 p.off,.slice pa p.data.length pc]::.blk b Ac (Ix x da dc a2 c2)::T
section
variable{A0:Nat->Prop}{M:List Nat}{w0 w:World}{R:List Res}{P:World->Prop}{i:Nat}{x:Pa}{a a2:Option Addr}{c c2:Nat}{p:Pc}{pa:Option Addr}{pc:Nat}
theorem St.mergeR(H:St A0 M w0 w R P)(hi:R[i]?=some (.ints Az .u8 a c x.data))(hp:(0<=p.off/\p.off<=2054)/\1<=p.data.length/\p.off+p.data.length<=2054)
 (hd:x.data.length<=3000) (hcl:x.come.length<=3000) (hn:Cc (-1) x.come=true) (hs:∀w,P w->SlR (Bp .u8) 1 w pa p.data) (hcome:∀w,P w->SlR (CE Bn) 3 w a2 x.come) {K:Ending->World->Prop}
 (h:∀da dc ca cc w',(Es x p).data.length<=dc->St A0 M w0 w' (R.set i (.ints Az .u8 da dc (Es x p).data)) (fun w=>SlR (CE Bn) 3 w ca (Es x p).come/\P w)->K (.returned (Va (Es x p) da dc ca cc)) w'):
 Calls Tryz.prog Vu #[Va x a c a2 c2,An0 p pa pc] w K:=by
 apply Ai9;obtain⟨⟨hp1,hp2⟩,hp3,hp4⟩:=hp;have hen:p.en=p.off+p.data.length:=rfl;have hil:i<R.length:=Yo hi;have hset:∀r,(R.set i r)[i]?=some r:=fun r=>List.getElem?_set_self hil;obtain⟨n,hnn⟩:∃n,n=p.off.toNat+p.data.length-x.data.length:=⟨_,rfl⟩;refine H.alloc ?_;clear H;intro b w1 H1;have H1:=St.lastTo (X:=[]) (T:=R) H1;refine H1.alloc ?_;clear H1;intro b1 w2 H2;have H2:=St.lastTo (X:=[]) (T:=_::R) H2;refine H2.alloc ?_;clear H2;intro b2 w3 H3;have H3:=St.lastTo (X:=[]) (T:=_::_::R) H3;replace H3:St A0 M w0 w3 (Are b2 b1 b p pa pc x a c a2 c2 R) P:=H3;refine H3.l 1 ?_;refine H3.m 1 ?_;refine Ao (by omega) ?_;refine⟨fun m w4=>∃(j:Nat) (da:Option Addr) (dc:Nat),m=n-j/\j<=n/\St A0 M w0 w4 (Are b2 b1 b p pa pc (Ahd x j) da dc a2 c2 (R.set i (.ints Az .u8 da dc (x.data++List.replicate j 0)))) P,⟨_,0,a,c,rfl,aX _,?_⟩,?_⟩
 ·rw[Ds (by simpa using hi)];have:Ahd x 0=x:=by unfold Ahd;simp
  rw[this];exact H3
 clear H3;rintro _ m w4 ⟨j,da,dc,rfl,hj,H4⟩;have hjl:(x.data++List.replicate j (0:Int)).length=x.data.length+j:=by simp
 refine H4.m 2 ?_;apply Aa<;>intro c1
 ·refine H4.m 2 ?_;have hjl2:(Ahd x j).data.length=x.data.length+j:=hjl;refine H4.alloc ?_;clear H4;intro b3 w5 H5;have H5:=St.lastTo (X:=[]) (T:=Are _ _ _ _ _ _ _ _ _ _ _ (R.set i _)) H5;refine H5.appIB (i:=i+4) (hset _) (j:=0) [0] rfl sl_Ty_S_uint8 rfl (by simp;omega) (by simp;omega) ?_;intro da' dc' w6 H6;replace H6:St A0 M w0 w6 (Are b2 b1 b p pa pc (Ahd x j) da dc a2 c2 ((R.set i (.ints Az .u8 da dc (x.data++List.replicate j 0))).set i (.ints Az .u8 da' dc' (x.data++List.replicate j 0++[0])))) P:=St.skip (X:=[]) H6;have ej:x.data++List.replicate j (0:Int)++[0]=x.data++List.replicate (j+1) 0:=by rw[aZ,List.replicate_succ']
  rw[cF,ej]at H6;refine H6.U 2 ?_;clear H6;intro w7 H7;refine⟨_,?_,j+1,da',dc',rfl,by omega,?_⟩
  ·omega
  ·rw[<-ej]at H7 ⊢;have e:Ix (Ahd x (j+1)) da' dc' a2 c2=(Ix (Ahd x j) da dc a2 c2).set 3 (.slice da' (x.data++List.replicate j 0++[0]).length dc'):=by rw[ej];rfl
   unfold Are;rw[e];exact H7
 ·have hjn:j=n:=by have hjl2:(Ahd x j).data.length=x.data.length+j:=hjl;omega
  subst hjn;obtain⟨D,hD⟩:∃D,D=x.data++List.replicate j (0:Int):=⟨_,rfl⟩;have hDl:p.off.toNat+p.data.length<=D.length/\D.length<=6000:=by rw[hD,hjl];omega
  obtain⟨y,hy⟩:∃y,y=Ahd x j:=⟨_,rfl⟩;have hyd:y.data=D:=by rw[hy,hD]
  have hyr:y={ x with data:=D }:=by rw[hy,hD]
  rw[<-hD,<-hy]at H4;refine H4.drew ?_;clear H4;intro w8 H8;obtain⟨g2,rfl,_,hdc⟩:=H8.rowSome (i:=i+3) (hset _) (by omega);refine H8.m 2 ?_;refine H8.l 1 ?_;refine⟨⟨by omega,by rw[hyd];omega⟩,?_⟩;refine H8.m 1 ?_;rw[hyd,slA (by omega),dB];refine H8.copyI (i:=i+3) (hset _) (elem:=Az) sl_Ty_S_uint8.ht (by kernel_rfl) (hs _ H8.get) (by omega) (o:=p.off.toNat) (by omega) (bQ (by omega)).symm ?_;intro _ w9 H9;obtain⟨D2,hD2⟩:∃D2,D2=D.take p.off.toNat++p.data++D.drop (p.off.toNat+p.data.length):=⟨_,rfl⟩;have hlay:Ap5 x.data p.off.toNat p.data=D2:=by rw[hD2,hD,hnn];rfl
  have hD2l:D2.length=D.length:=by rw[hD2];simp;omega
  replace H9:St A0 M w0 w9 (Are b2 b1 b p pa pc y (some ⟨g2,0,none⟩) dc a2 c2 ((R.set i (.ints Az .u8 (some ⟨g2,0,none⟩) dc D)).set i (.ints Az .u8 (some ⟨g2,0,none⟩) dc D2))) P:=by rw[hD2];exact H9
  rw[cF]at H9;refine H9.m 2 ?_;refine H9.l 1 ?_;refine H9.l 1 ?_;have hU:Ou x.come ⟨p.sn,p.off,p.en⟩=(Cn p.sn x.come p.off p.en,0):=by
   unfold Ou;rw[aE];rw[hn];simp[Cc];omega
  have C:=Aoa (l:=x.come) (l_c:=c2) (r:=⟨p.sn,p.off,p.en⟩) (hcome _ H9.get) (by omega);rw[hU]at C;dsimp only at C;have hyc:y.come=x.come:=by rw[hy]
  rw[hyc];refine C.mono ?_;clear C;rintro _ w10 ⟨ca,cc,hcc,rfl,K9⟩;have H10:=H9.callF K9;clear H9;rw[aL]at H10;refine⟨_,_,_,_,rfl,?_⟩;refine H10.U 2 ?_;clear H10;intro w11 H11;refine⟨_,_,_,_,_,_,_,H11.cells (i:=1) rfl,?_⟩;refine(ref21_ends_ct (p:=p)).mono ?_;have fin:∀ {w':World} {r1 r2 r3:Res} {Q:World->Prop},St A0 M w0 w' (r1::r2::r3::R.set i (.ints Az .u8 (some ⟨g2,0,none⟩) dc D2)) Q->St A0 M w0 w' (R.set i (.ints Az .u8 (some ⟨g2,0,none⟩) dc D2)) Q:=fun H=>St.skip (X:=[]) (St.skip (X:=[]) (St.skip (X:=[]) H));rintro _ w12 ⟨rfl,hb12⟩;have H12:=H11.pass hb12;clear H11;refine⟨_,rfl,?_⟩;apply Al<;>intro c1
  ·refine H12.U 2 ?_;clear H12;intro w13 H13;refine⟨_,_,_,_,_,_,_,_,_,H13.cells (i:=2) rfl,?_⟩;refine H13.s 0 ?_;clear H13;intro w14 H14;refine⟨_,_,_,_,_,_,_,_,_,H14.cells (i:=0) rfl,?_⟩;have hm:Es x p={ x with data:=D2,come:=Cn p.sn x.come p.off p.en,len:=p.en }:=by rw[Es,aF c1,hlay]
   have:=h (some ⟨g2,0,none⟩) dc ca cc w14 (by rw[hm];show D2.length<=dc;omega) (by rw[hm];exact fin H14);rw[hm]at this;rw[hyd,<-hD2l,hyr];exact this
  ·refine⟨_,_,_,_,_,_,_,_,_,H12.cells (i:=2) rfl,?_⟩;refine H12.s 0 ?_;clear H12;intro w15 H15;refine⟨_,_,_,_,_,_,_,_,_,H15.cells (i:=0) rfl,?_⟩;have hm:Es x p={ x with data:=D2,come:=Cn p.sn x.come p.off p.en }:=by rw[Es,aE (by rw[c1];decide),hlay]
   have:=h (some ⟨g2,0,none⟩) dc ca cc w15 (by rw[hm];show D2.length<=dc;omega) (by rw[hm];exact fin H15);rw[hm]at this;rw[hyd,<-hD2l,hyr];exact this
end
end Go.Proofs.YtmbppohkadmjgaaGreat
namespace Go.Sx
def Af3(s:Rc)(p:Pc):Rc×List Int×Int:=if Ek s p≠0 then (s,[],Ek s p) else (startR (Qa (putP s p)),Gc s p,0)
open Go.RowKit
theorem St.trimE{A0:Nat->Prop}{M:List Nat}{w0 w:World}{R:List Res}{P:World->Prop}{α:Type}{enc:α->List Value}{sz:Nat}{e:TypeId}{a:Option Addr}{c i:Nat}{ys:List α}(H:St A0 M w0 w R P)(hE:Enc enc sz)(hi:R[i]?=some (.els enc e sz a c ys))(k:Nat)(hk:k<=ys.length):St A0 M w0 w (R.set i (.els enc e sz a c (ys.take k))) P:=by
 by_cases h:k=ys.length
 ·rw[h,bI,Ds hi];exact H
 obtain⟨g,rfl,-,hnc⟩:=H.rowSome hi (by omega);obtain⟨rest,hr1,hcm,_,H1⟩:=H.rowBlk hi;have hil:i<R.length:=Yo hi;have:=H1.blkRow (i:=i) (by rw[List.getElem?_set_self hil]) sz k c (by rw[aP];omega) (by omega) hcm;have e1:(ys.flatMap enc++rest).take (k*sz)=(ys.take k).flatMap enc:=by
  have e2:ys.flatMap enc=(ys.take k).flatMap enc++(ys.drop k).flatMap enc:=by rw[<-dW,bR]
  have e3:((ys.take k).flatMap enc).length=k*sz:=by rw[Gl hE,aU,bQ hk]
  rw[e2,aZ,<-e3];exact dP
 rw[e1,cF]at this;have e4:Res.els enc e sz (some ⟨g,0,none⟩) c (ys.take k)=.row e sz (some ⟨g,0,none⟩) k c ((ys.take k).flatMap enc):=by
  simp only[Res.els,aU,bQ hk]
 rw[e4];exact this
theorem St.appEn{Pr:Program}{A0:Nat->Prop}{M:List Nat}{w0 w:World}{R:List Res}{P:World->Prop}{α:Type}{enc:α->List Value}{sz bytes:Nat}{e t:TypeId}{z:Value}{a:Option Addr}{c i n m:Nat}{ys zs:List α}(H:St A0 M w0 w R P)(hE:Enc enc sz)(hi:R[i]?=some (.els enc e sz a c ys))(hT:SlTy Pr t e sz bytes z){p:Option Addr}{c2:Nat}(hs:SlR (CE enc) sz w p zs)(hn:n=ys.length)(hm:m=zs.length)
 (hbytes:(ys.length+zs.length)*bytes<=140737488355328) (h63:ys.length+zs.length<=4611686018427387904) {ty:TypeId} {F:Option Addr->Nat->Nat->World->Prop}
 (h:∀a' c' w',St A0 M w0 w' (R.set i (.els enc e sz a' c' (ys++zs))) P->F a' (ys++zs).length c' w'):Da Pr #[t,t] ty #[.slice a n c,.slice p m c2] w F:=by
 subst hn;subst hm;exact H.appE hE hi hT hs hbytes h63 h
end Go.Sx
namespace Go.Proofs.YtmbppohkadmjgaaGreat
open Go.Sx Go.RowKit
set_option maxRecDepth 100000
abbrev Ei(b b1 b2:Nat)(t:Rc)(a:Option Addr)(c:Nat)(p:Pc)(pa:Option Addr)(pc:Nat)(X:List Res):List Res:=
 .blk b Ag (Bi t a c)::.blk b1 Ap [.int .i64 p.sn,.int .i64 p.part,.int .i64 p.poll,.int .i64 p.off,.slice pa p.data.length pc]::.blk b2 Ag (Bi .zero none 0)::X
section
variable{A0:Nat->Prop}{w0 w:World}{X:List Res}{P:World->Prop}{L:List PP}{s:Rc}{a:Option Addr}{c:Nat}{p:Pc}{pa:Option Addr}{pc:Nat}
theorem Ax3(H:St A0 [] w0 w (X++.els Bf Ac 5 a c L::L.map agP) P)(hL:L.map (·.p)=s.parts)(hok:s.okB=true)(hpok:p.ok s.lk.bits)(hs:∀w,P w->SlR (Bp .u8) 1 w pa p.data)(hco:∀w,P w->CoR L w){K:Ending->World->Prop}
 (h:∀a' c' ba bc w',(Af3 s p).2.1.length<=bc->St A0 [] w0 w' X (fun w=>PaS w a' (Af3 s p).1.parts/\SlR (Bp .u8) 1 w ba (Af3 s p).2.1/\P w)->K (.returned (.tuple #[Fw (Af3 s p).1 a' c',.slice ba (Af3 s p).2.1.length bc,.int .i64 (Af3 s p).2.2])) w'):
 Calls Tryz.prog Acf #[Fw s a c,An0 p pa pc] w K:=by
 apply Aov;obtain⟨hf,hlk,hs1,hs2,hs3,hq,hall⟩:=Ty hok;have hb:=hlk.1;have hb':=hb;obtain⟨hb1,hb2⟩:=hb';have hb0:=Cm hb;obtain⟨-,hpsn,hpart,hppoll,hpoff,hpo,hpd,hpe⟩:=hpok;have hsn:Bt s.lk.bits p.sn:=hpsn;have hlen:s.parts.length=L.length:=by rw[<-hL,bC]
 have hl6:s.parts.length<=600:=hf.1;obtain⟨k,hk⟩:∃k,k=atP s p.sn:=⟨_,rfl⟩;have hkl:k<=L.length:=by rw[<-hlen,hk];exact At8 _ _
 have hLp:∀j (hj:j<L.length),∃hj':j<s.parts.length,L[j].p=s.parts[j]:=fun j hj=>⟨by omega,by
  have:(L.map (·.p))[j]?=some L[j].p:=by rw[List.getElem?_map,List.getElem?_eq_getElem hj];rfl
  rw[hL,List.getElem?_eq_getElem (by omega)]at this;exact(Option.some.inj this).symm⟩
 have efin:∀ {w':World} {r1 r2 r3:Res} (E:Int),Ek s p=E->E≠0->St A0 [] w0 w' ((r1::r2::r3::X)++.els Bf Ac 5 a c L::L.map agP) P->K (.returned (.tuple #[Fw s a c,.slice none 0 0,.int .i64 E])) w':=fun E e1 e2 H=>by
  have e:Af3 s p=(s,[],E):=by rw[Af3,aF (by rw[e1];exact e2),e1]
  rw[e]at h;have K1:=Ao0 H hco;rw[hL]at K1;exact h a c none 0 _ (aG _) ((St.skip (X:=[]) (St.skip (X:=[]) (St.skip (X:=[]) K1))).imp fun w hw=>⟨hw.1,.nil,hw.2⟩)
 refine H.alloc ?_;clear H;intro b w1 H1;have H1:=St.lastTo (X:=[]) H1;refine H1.alloc ?_;clear H1;intro b1 w2 H2;have H2:=St.lastTo (X:=[_]) (T:=X++.els Bf Ac 5 a c L::L.map agP) H2;refine H2.alloc ?_;clear H2;intro b2 w3 H3;have H3:=St.lastTo (X:=[_,_]) (T:=X++.els Bf Ac 5 a c L::L.map agP) H3;replace H3:St A0 [] w0 w3 (Ei b b1 b2 s a c p pa pc X++.els Bf Ac 5 a c L::L.map agP) P:=H3;refine H3.drew ?_;clear H3;intro w4 H4;refine⟨(· <w4.heap.size),?_⟩;refine⟨_,_,_,_,_,_,_,_,_,_,_,_,_,_,_,_,H4.cells (i:=0) rfl,?_⟩;refine H4.l 1 ?_;refine⟨H4.lt (i:=0) rfl rfl,?_⟩;refine H4.l 0 ?_;refine Ao (by omega) ?_;refine Pk (by omega) ?_;refine⟨by omega,?_⟩;refine Kv (by omega) ?_;refine(Bw (s:=s) hb).mono ?_;rintro _ w5 ⟨rfl,hb5⟩;have H5:=H4.pass hb5;refine⟨_,rfl,?_⟩;refine⟨hb5.keeps,?_⟩;apply Aa<;>intro c14
 ·refine⟨_,_,_,_,_,_,_,_,_,_,_,_,_,_,_,_,H5.cells (i:=0) rfl,?_⟩;refine H5.s 2 ?_;clear H5;intro w6 H6;refine⟨_,_,_,_,_,_,_,_,_,_,_,_,_,_,_,_,H6.cells (i:=2) rfl,?_⟩;exact efin 11 (by rw[Ek,aF c14]) (by decide) H6
 ·refine⟨fun k1 w11=>k1=(k:Int)/\St A0 [] w0 w11 (Ei b b1 b2 s a c p pa pc X++.els Bf Ac 5 a c L::L.map agP) P,?_,?_⟩
  ·rintro _ _ w11 ⟨rfl,H11⟩;refine H11.l 1 ?_;refine H11.alloc ?_;clear H11;intro b4 w12 H12;have H12:=St.lastTo (X:=[_,_,_]) (T:=X++.els Bf Ac 5 a c L::L.map agP) H12;refine H12.s 3 ?_;clear H12;intro w13 H13;refine⟨fun found1 w15=>found1=Ho s p.sn/\St A0 [] w0 w15 (Ei b b1 b2 s a c p pa pc (.blk b4 Ac (Bf ⟨Iu p.sn,none,0,none,0⟩)::X)++.els Bf Ac 5 a c L::L.map agP) P,?_,?_⟩
   ·rintro _ _ w15 ⟨rfl,H15⟩;refine⟨fun w22=>∃(L6:List PP) (y:PP),L6.map (·.p)=Mw s p/\Bbg L6 k/\L6[k]?=some y/\(Ho s p.sn=true->L6=L)/\(Ho s p.sn=false->L6=L.take k++⟨Iu p.sn,none,0,none,0⟩::L.drop k)/\Ek s p=0/\St A0 [] w0 w22 (Ei b b1 b2 s a c p pa pc (.blk b4 Ac (Bf y)::X)++.els Bf Ac 5 a c L::L6.map agP) P,?_,?_⟩
    ·rintro _ w22 ⟨L6,y,hL6,hrd,hy,hLf,hLn,hr0,H22⟩;obtain⟨hkL,hr1,hr2,hr3,hr4⟩:=hrd;obtain rfl:L6[k]=y:=by rw[List.getElem?_eq_getElem hkL]at hy;exact Option.some.inj hy
     have hlen6:(Mw s p).length=L6.length:=by rw[<-hL6,bC]
     have hmg:Dk s p=Es L6[k].p p:=by
      unfold Dk;rw[<-hL6,<-hk,List.getElem?_map,List.getElem?_eq_getElem hkL];rfl
     have hco6:∀w,P w->CoR L6 w:=fun w hw x hx=>by
      cases hfb:Ho s p.sn with
      |true=>rw[hLf hfb]at hx;exact hco w hw x hx
      |false=>
       rw[hLn hfb]at hx;rcases aW.1 hx with hx|hx
       ·exact hco w hw x (dE hx)
       ·rcases bB.1 hx with rfl|hx
        ·exact .nil
        ·exact hco w hw x (cD hx)
     have eP:Af3 s p=(startR (Qa (putP s p)),Gc s p,0):=by rw[Af3,aE (by rw[hr0];decide)]
     rw[eP]at h;dsimp only at h;obtain⟨v,hv⟩:∃v:Rc,v=putP s p:=⟨_,rfl⟩;have hvp:v.parts=(Mw s p).set k (if Lx (Dk s p) then Si p.sn else Dk s p):=by rw[hv,hk];rfl
     have hvl:v.parts.length=L6.length:=by rw[hvp,bE,hlen6]
     have hvk:v.lk=s.lk:=by rw[hv];rfl
     have hvf:v.first=s.first:=by rw[hv];rfl
     have hvn:v.next=if s.place p.sn>=s.place s.next then s.behind p.sn else s.next:=by rw[hv];rfl
     have hvr:v={ s with parts:=v.parts,next:=v.next }:=by rw[hv];rfl
     rw[<-hv]at h;refine⟨_,_,_,_,_,_,_,_,_,H22.cells (i:=3) rfl,?_⟩;refine⟨_,_,_,_,_,_,_,H22.cells (i:=1) rfl,?_⟩;refine St.mergeR H22 (i:=(Ei b b1 b2 s a c p pa pc (.blk b4 Ac (Bf L6[k])::X)).length+1+k) (x:=L6[k].p) (a:=L6[k].a) (c:=L6[k].c) (a2:=L6[k].a2) (c2:=L6[k].c2) (p:=p) (pa:=pa) (pc:=pc) (Aw8 (by rw[List.getElem?_map,List.getElem?_eq_getElem hkL];rfl)) ⟨hpo,hpd,hpe⟩ hr1 hr3 hr4 hs (fun w hw=>hco6 w hw _ (aJ _)) ?_;intro da dc ca cc w23 hdc H23;rw[An9,<-hmg]at H23;rw[<-hmg]at hdc;obtain⟨z,hz⟩:∃z:PP,z=⟨Dk s p,da,dc,ca,cc⟩:=⟨_,rfl⟩;have hzp:z.p=Dk s p:=by rw[hz]
     have e23:(L6.map agP).set k (.ints Az .u8 da dc (Dk s p).data)=(L6.set k z).map agP:=by rw[bG,hz];rfl
     rw[e23]at H23;rw[<-hmg];refine⟨_,_,_,_,_,_,_,_,_,rfl,?_⟩;refine H23.s 3 ?_;clear H23;intro w24 H24;replace H24:St A0 [] w0 w24 (Ei b b1 b2 s a c p pa pc (.blk b4 Ac (Bf z)::X)++.els Bf Ac 5 a c L::(L6.set k z).map agP) (fun w=>SlR (CE Bn) 3 w z.a2 z.p.come/\P w):=by rw[hz]at H24 ⊢;exact H24
     have hzk:k<(L6.set k z).length:=by simpa using hkL
     have hzg:(L6.set k z)[k]=z:=by simp
     refine⟨fun ua ul uc w27=>∃(z':PP),z'.p=(if Lx (Dk s p) then Si p.sn else Dk s p)/\ul=(Gc s p).length/\ul<=uc/\St A0 [] w0 w27 (Ei b b1 b2 s a c p pa pc (.blk b4 Ac (Bf z')::X)++.els Bf Ac 5 a c L::(L6.set k z').map agP) (fun w=>SlR (Bp .u8) 1 w ua (Gc s p)/\SlR (CE Bn) 3 w z'.a2 z'.p.come/\P w),?_,?_⟩
     ·rintro _ ua _ uc w27 ⟨z',hz',rfl,huc,H27⟩;have hco7:∀w,(SlR (Bp .u8) 1 w ua (Gc s p)/\SlR (CE Bn) 3 w z'.a2 z'.p.come/\P w)->CoR (L6.set k z') w:=fun w hw x hx=>by
       rcases bM hx with hx|rfl
       ·exact hco6 w hw.2.2 x hx
       ·exact hw.2.1
      have hL7:(L6.set k z').map (·.p)=v.parts:=by rw[bG,hL6,hvp,hz']
      refine⟨fun w34=>∃(a7:Option Addr) (c7:Nat),St A0 [] w0 w34 (Ei b b1 b2 { s with parts:=v.parts } a7 c7 p pa pc X++.els Bf Ac 5 a7 c7 (L6.set k z')::(L6.set k z').map agP) (fun w=>SlR (Bp .u8) 1 w ua (Gc s p)/\SlR (CE Bn) 3 w z'.a2 z'.p.come/\P w),?_,?_⟩
      ·rintro _ w34 ⟨a7,c7,H34⟩;refine⟨fun w40=>v.parts.length<=c7/\St A0 [] w0 w40 (Ei b b1 b2 v a7 c7 p pa pc X) (fun w=>PaS w a7 v.parts/\SlR (Bp .u8) 1 w ua (Gc s p)/\P w),?_,?_⟩
       ·rintro _ w40 ⟨hc7,H40⟩;obtain⟨u,hu⟩:∃u:Rc,u=Aea v:=⟨_,rfl⟩;have huk:u.lk=s.lk:=by rw[hu];exact hvk
        have eU:Qa v=Akc u:=by rw[hu];rfl
        rw[eU]at h;refine⟨fun w47=>∃(a8:Option Addr) (c8:Nat),(∀w,(PaS w a7 v.parts/\SlR (Bp .u8) 1 w ua (Gc s p)/\P w)->PaS w a8 u.parts)/\St A0 [] w0 w47 (Ei b b1 b2 u a8 c8 p pa pc X) (fun w=>PaS w a7 v.parts/\SlR (Bp .u8) 1 w ua (Gc s p)/\P w),?_,?_⟩
        ·rintro _ w47 ⟨a8,c8,hp8,H47⟩;have hbu:Bv u.lk.bits:=by rw[huk];exact hb
         have h:=h a8 c8 ua uc;refine H47.drew ?_;clear H47;intro w48 H48;refine⟨(· <w48.heap.size),?_⟩;refine⟨_,_,_,_,_,_,_,_,_,_,_,_,_,_,_,_,H48.cells (i:=0) rfl,?_⟩;refine H48.l 0 ?_;refine⟨H48.lt (i:=0) rfl rfl,?_⟩;refine⟨_,_,_,_,_,_,_,_,_,_,_,_,_,_,_,_,H48.cells (i:=0) rfl,?_⟩;refine⟨H48.lt (i:=0) rfl rfl,?_⟩;refine H48.l 0 ?_;refine(Bw (s:=u) hbu).mono ?_;rintro _ w49 ⟨rfl,hb49⟩;have H49:=H48.pass hb49;refine⟨_,rfl,?_⟩;refine⟨hb49.keeps,?_⟩;refine(Bw (s:=u) hbu).mono ?_;rintro _ w50 ⟨rfl,hb50⟩;have H50:=H49.pass hb50;refine⟨_,rfl,?_⟩;replace hb50:=Ax hb49 (aG _) hb50;refine⟨hb50.keeps,?_⟩;apply Aa<;>intro c13
         ·refine H50.l 0 ?_;refine H50.U 0 ?_;clear H50;intro w51 H51;have e2:Akc u={ u with upto:=u.first }:=by rw[Akc,aF c13]
          refine⟨_,_,_,_,_,_,_,_,_,_,_,_,_,_,_,_,H51.cells (i:=0) rfl,?_⟩;refine(Ol (s:={ u with upto:=u.first }) hbu).mono ?_;rw[<-e2];rintro _ w52 ⟨rfl,hb52⟩;have H52:=H51.pass hb52;clear H51;refine⟨_,_,_,_,_,_,_,_,_,_,_,_,_,_,_,_,rfl,?_⟩;refine H52.s 2 ?_;clear H52;intro w53 H53;refine⟨_,_,_,_,_,_,_,_,_,_,_,_,_,_,_,_,H53.cells (i:=2) rfl,?_⟩;have:=h w53 huc ((St.skip (X:=[]) (St.skip (X:=[]) (St.skip (X:=[]) H53))).imp fun w hw=>⟨by rw[(Ob _).1,e2];exact hp8 w hw,hw.2⟩);exact this
         ·refine⟨_,_,_,_,_,_,_,_,_,_,_,_,_,_,_,_,H50.cells (i:=0) rfl,?_⟩;have e2:Akc u=u:=by rw[Akc,aE c13]
          refine(Ol (s:=u) hbu).mono ?_;rintro _ w54 ⟨rfl,hb54⟩;have H54:=H50.pass hb54;clear H50;refine⟨_,_,_,_,_,_,_,_,_,_,_,_,_,_,_,_,rfl,?_⟩;refine H54.s 2 ?_;clear H54;intro w55 H55;refine⟨_,_,_,_,_,_,_,_,_,_,_,_,_,_,_,_,H55.cells (i:=2) rfl,?_⟩;rw[e2]at h;exact h w55 huc ((St.skip (X:=[]) (St.skip (X:=[]) (St.skip (X:=[]) H55))).imp fun w hw=>⟨by rw[(Ob _).1];exact hp8 w hw,hw.2⟩)
        ·refine⟨fun m w41=>∃(t:Rc) (ta:Option Addr) (tc:Nat),m=t.parts.length/\t={ v with first:=t.first,parts:=t.parts }/\Mu v.lk.bits t.first t.parts=Mu v.lk.bits v.first v.parts/\(0<=t.first/\t.first<=1000000)/\t.parts.length<=tc/\(∀w,(PaS w a7 v.parts/\SlR (Bp .u8) 1 w ua (Gc s p)/\P w)->PaS w ta t.parts)/\St A0 [] w0 w41 (Ei b b1 b2 t ta tc p pa pc X) (fun w=>PaS w a7 v.parts/\SlR (Bp .u8) 1 w ua (Gc s p)/\P w),
          ⟨_,v,a7,c7,rfl,rfl,rfl,by rw[hvf];unfold Bt at hs1;omega,hc7,fun _ hw=>hw.1,H40⟩,?_⟩
         clear H40;rintro _ m w41 ⟨t,ta,tc,rfl,ht,hd,hft,htc,hpt,H41⟩;have htk:t.lk=s.lk:=by rw[ht];exact hvk
         have hbt:Bv t.lk.bits:=by rw[htk];exact hb
         have hex:(∀p l,t.parts=p::l->p.sn=t.first->p.done=true->False)->∀w3,St A0 [] w0 w3 (Ei b b1 b2 t ta tc p pa pc X) (fun w=>PaS w a7 v.parts/\SlR (Bp .u8) 1 w ua (Gc s p)/\P w)->∃(a8:Option Addr) (c8:Nat),(∀w,(PaS w a7 v.parts/\SlR (Bp .u8) 1 w ua (Gc s p)/\P w)->PaS w a8 u.parts)/\St A0 [] w0 w3 (Ei b b1 b2 u a8 c8 p pa pc X) (fun w=>PaS w a7 v.parts/\SlR (Bp .u8) 1 w ua (Gc s p)/\P w):=fun hno w3 H3=>by
          have e:u=t:=by
           rw[hu,ht];unfold Aea;rw[<-hd];have:Mu v.lk.bits t.first t.parts=(t.first,t.parts):=by
            cases hl:t.parts with
            |nil=>rfl
            |cons p l=>rw[Mu,aE (fun h=>hno p l hl h.1 h.2)]
           rw[this]
          rw[e];exact⟨ta,tc,hpt,H3⟩
         refine⟨fun w43=>(∃p l,t.parts=p::l/\p.sn=t.first/\p.done=true)/\St A0 [] w0 w43 (Ei b b1 b2 t ta tc p pa pc X) (fun w=>PaS w a7 v.parts/\SlR (Bp .u8) 1 w ua (Gc s p)/\P w),?_,?_⟩
         ·rintro _ w43 ⟨⟨p0,l,hl,hps,hpd0⟩,H43⟩;have hll:t.parts.length=l.length+1:=by rw[hl];rfl
          refine H43.m 0 ?_;refine⟨⟨by omega,by omega⟩,?_⟩;refine H43.U 0 ?_;clear H43;intro w44 H44;replace H44:St A0 [] w0 w44 (Ei b b1 b2 { t with parts:=l } (Ay tc (1:Int).toNat 5 ta) (tc-(1:Int).toNat) p pa pc X) (fun w=>PaS w a7 v.parts/\SlR (Bp .u8) 1 w ua (Gc s p)/\P w):=by
           have:l.length=t.parts.length-(1:Int).toNat:=by rw[hll];rfl
           unfold Ei Bi;rw[show ({ t with parts:=l }:Rc).parts.length=t.parts.length-(1:Int).toNat from this];exact H44
          refine H44.l 0 ?_;refine H44.l 0 ?_;show kW .i64 (t.first+1) _;refine Ao (by omega) ?_;refine ref02_Low_ct.mono ?_;rintro _ w45 ⟨rfl,hb45⟩;have H45:=H44.pass hb45;clear H44;rw[aF (by obtain⟨h1,h2⟩:=hbt;exact⟨by show 1<=t.lk.bits;omega,by show t.lk.bits<=32;omega⟩)];refine⟨_,rfl,?_⟩;refine H45.U 0 ?_;clear H45;intro w46 H46;have hpw:=Cm hbt;refine⟨_,?_,{ t with parts:=l,first:=t.behind t.first },_,_,rfl,?_,?_,?_,?_,?_,H46⟩
          ·rw[hll];show l.length<l.length+1;omega
          ·rw[ht]
          ·rw[<-hd,hl,Mu,aF ⟨hps,hpd0⟩];show Mu v.lk.bits (t.behind t.first) l=_;rw[Rc.behind,show t.lk=v.lk by rw[ht]]
          ·show 0<=t.behind t.first/\t.behind t.first<=1000000;unfold Rc.behind;have h1:=cV (t.first+1) (b:=2^t.lk.bits.toNat) (by omega);have h2:=cN (t.first+1) (b:=2^t.lk.bits.toNat) (by omega);omega
          ·show l.length<=tc-1;omega
          ·intro w9 h9;have h3:=hpt w9 h9;have h4:=h3.1.tailE (m:=tc) (l:=1) htc;rw[hl]at h4;exact⟨h4,h3.2.tail _ _ _⟩
         ·refine H41.drew ?_;clear H41;intro w42 H42;refine H42.m 0 ?_;apply Aa<;>intro c12
          ·refine H42.m 0 ?_;have hlt:0<t.parts.length:=by omega
           refine Uu (hpt _ H42.get).1 0 rfl hlt fun b9 hbb=>?_;obtain⟨p0,l,hl⟩:∃p l,t.parts=p::l:=by
            cases h:t.parts with
            |nil=>rw[h]at hlt;simp at hlt
            |cons p l=>exact⟨p,l,rfl⟩
           have hp0:t.parts[0]=p0:=by simp[hl]
           rw[hp0]at hbb;obtain⟨a1,c1',a2,c2',hbb,_,_,_⟩:=hbb;refine⟨_,by have:=Bc hbb 1 _ rfl;rwa[aN]at this,?_⟩;apply Al<;>intro c11
           ·refine H42.m 0 ?_;refine Uu (hpt _ H42.get).1 0 rfl hlt fun b10 hb1=>?_;rw[hp0]at hb1;obtain⟨a3,c3',a4,c4',hb1,_,_,_⟩:=hb1;refine⟨_,by have:=Bc hb1 0 _ rfl;rwa[aN,add_zero]at this,?_⟩;refine H42.l 0 ?_;apply Aa<;>intro c10
            ·exact⟨⟨p0,l,hl,c10,c11⟩,H42⟩
            ·exact hex (fun p' l' h1 h2 h3=>by rw[hl]at h1;injection h1 with h1 _;subst h1;exact c10 h2) _ H42
           ·exact hex (fun p' l' h1 h2 h3=>by rw[hl]at h1;injection h1 with h1 _;subst h1;rw[h3]at c11;cases c11) _ H42
          ·exact hex (fun p' l' h1 h2 h3=>by rw[h1]at c12;simp at c12) _ H42
       ·refine H34.drew ?_;clear H34;intro w35 H35;refine⟨(· <w35.heap.size),?_⟩;refine⟨_,_,_,_,_,_,_,_,_,_,_,_,_,_,_,_,H35.cells (i:=0) rfl,?_⟩;refine H35.l 1 ?_;refine⟨H35.lt (i:=0) rfl rfl,?_⟩;refine⟨_,_,_,_,_,_,_,_,_,_,_,_,_,_,_,_,H35.cells (i:=0) rfl,?_⟩;refine⟨H35.lt (i:=0) rfl rfl,?_⟩;refine H35.l 0 ?_;refine(Bw (s:={ s with parts:=v.parts }) hb).mono ?_;rintro _ w36 ⟨rfl,hb36⟩;have H36:=H35.pass hb36;refine⟨_,rfl,?_⟩;refine⟨hb36.keeps,?_⟩;refine(Bw (s:={ s with parts:=v.parts }) hb).mono ?_;rintro _ w37 ⟨rfl,hb37⟩;have H37:=H36.pass hb37;refine⟨_,rfl,?_⟩;replace hb37:=Ax hb36 (aG _) hb37;refine⟨hb37.keeps,?_⟩;apply Aa<;>intro c9
        ·refine H37.l 0 ?_;refine H37.l 1 ?_;refine Ao (by unfold Bt at hsn;omega) ?_;refine ref02_Low_ct.mono ?_;rintro _ w38 ⟨rfl,hb38⟩;have H38:=H37.pass hb38;clear H37;rw[aF (by exact⟨by show 1<=s.lk.bits;omega,by show s.lk.bits<=32;omega⟩)];refine⟨_,rfl,?_⟩;refine H38.U 0 ?_;clear H38;intro w39 H39;rw[aF (show s.place p.sn>=s.place s.next from c9)]at hvn;have hcap:=H39.capE (i:=(Ei b b1 b2 s a c p pa pc X).length) Hq;refine⟨by rw[hvl];simpa using hcap,?_⟩;have K:=Ao0 (X:=Ei b b1 b2 v a7 c7 p pa pc X) (by rw[hvr,hvn];exact H39) hco7;rw[hL7]at K;exact K.imp fun w hw=>⟨hw.1,hw.2.1,hw.2.2.2⟩
        ·rw[aE (show ¬s.place p.sn>=s.place s.next from c9)]at hvn;have hcap:=H37.capE (i:=(Ei b b1 b2 s a c p pa pc X).length) Hq;refine⟨by rw[hvl];simpa using hcap,?_⟩;have K:=Ao0 (X:=Ei b b1 b2 v a7 c7 p pa pc X) (by rw[hvr,hvn];exact H37) hco7;rw[hL7]at K;exact K.imp fun w hw=>⟨hw.1,hw.2.1,hw.2.2.2⟩
      ·apply Al<;>intro c8
       ·have hLL:=hLf c8;subst hLL;refine H27.m 0 ?_;refine⟨_,_,_,_,_,_,_,_,_,H27.cells (i:=3) rfl,?_⟩;obtain⟨g,rfl,-,-⟩:=H27.rowSome (i:=(Ei b b1 b2 s a c p pa pc (.blk b4 Ac (Bf z')::X)).length) Hq (by omega);refine⟨⟨g,0,none⟩,rfl,⟨by omega,by omega⟩,?_⟩;dsimp only;rw[As6];refine H27.storeEl encPP_ok (i:=(Ei b b1 b2 s (some ⟨g,0,none⟩) c p pa pc (.blk b4 Ac (Bf z')::X)).length) Hq hkL z' ?_;intro w28 _ H28;rw[Adx]at H28;have H28:=St.skip (X:=[_,_,_]) H28;refine⟨some ⟨g,0,none⟩,c,?_⟩;have e:Bi { s with parts:=v.parts } (some ⟨g,0,none⟩) c=Bi s (some ⟨g,0,none⟩) c:=by unfold Bi;simp only[hvl,hlen]
        unfold Ei;rw[e];exact H28
       ·have hLL:=hLn (by simpa using c8);have hcap:=H27.capE (i:=(Ei b b1 b2 s a c p pa pc (.blk b4 Ac (Bf z')::X)).length) Hq;refine H27.drew ?_;clear H27;intro w29 H29;refine⟨fun x=>x=b,?_⟩;refine⟨rfl,?_⟩;refine H29.m 0 ?_;refine⟨⟨by omega,by omega⟩,?_⟩;refine⟨_,_,_,_,_,_,_,_,_,H29.cells (i:=3) rfl,?_⟩;refine⟨rfl,?_⟩;refine H29.m 0 ?_;refine⟨⟨by omega,by omega⟩,?_⟩;refine H29.allocB ?_;intro b8 w30 hb30 H30;have H30:=St.lastTo (X:=[]) (St.litLast [z'] encPP_ok (b:=b8) (t:=Ac) (show St A0 [] w0 w30 ((Ei b b1 b2 s a c p pa pc (.blk b4 Ac (Bf z')::X)++.els Bf Ac 5 a c L::(L6.set k z').map agP)++[.blk b8 Ac ([z'].flatMap Bf)]) _ from H30) (by show 1<=maxLen;decide));replace H30:St A0 [] w0 w30 ((.els Bf Ac 5 (some ⟨b8,0,none⟩) 1 [z']::Ei b b1 b2 s a c p pa pc (.blk b4 Ac (Bf z')::X))++.els Bf Ac 5 a c L::(L6.set k z').map agP) (fun w=>SlR (Bp .u8) 1 w ua (Gc s p)/\SlR (CE Bn) 3 w z'.a2 z'.p.come/\P w):=H30;have hs30:SlR (CE Bf) 5 w30 (Ay c k 5 a) (L.drop k):=(H30.slE encPP_ok (i:=(Res.els Bf Ac 5 (some ⟨b8,0,none⟩) 1 [z']::Ei b b1 b2 s a c p pa pc (.blk b4 Ac (Bf z')::X)).length) Hq).tailE hcap;refine⟨Mk (H29.ok 0 _ rfl) (H30.ok 1 _ rfl),?_⟩;rw[bK];refine H30.appEn encPP_ok (i:=0) rfl sl_Ty_S_api_Partial (zs:=L.drop k) hs30 rfl (by rw[bJ,hlen]) (by simp;omega) (by simp;omega) ?_;intro a9 c9 w31 H31;replace H31:St A0 [] w0 w31 ((.els Bf Ac 5 a9 c9 ([z']++L.drop k)::Ei b b1 b2 s a c p pa pc (.blk b4 Ac (Bf z')::X))++.els Bf Ac 5 a c L::(L6.set k z').map agP) (fun w=>SlR (Bp .u8) 1 w ua (Gc s p)/\SlR (CE Bn) 3 w z'.a2 z'.p.come/\P w):=H31;refine⟨Mk (H29.ok 0 _ rfl) (H31.ok 1 _ rfl),?_⟩;have H31:=H31.trimE encPP_ok (i:=(Res.els Bf Ac 5 a9 c9 ([z']++L.drop k)::Ei b b1 b2 s a c p pa pc (.blk b4 Ac (Bf z')::X)).length) Hq k hkl;rw[Adx]at H31;rw[As4,dJ,dJ];have ek:(L.take k).length=k:=by rw[aU];omega
        have hdl:([z']++L.drop k).length<=700:=by simp;omega
        refine H31.appEn encPP_ok (i:=(Res.els Bf Ac 5 a9 c9 ([z']++L.drop k)::Ei b b1 b2 s a c p pa pc (.blk b4 Ac (Bf z')::X)).length) Hq sl_Ty_S_api_Partial (zs:=[z']++L.drop k) (H31.slE encPP_ok (i:=0) rfl) ek.symm rfl (by rw[ek];omega) (by rw[ek];omega) ?_;intro a10 c10 w32 H32;rw[Adx]at H32;refine⟨Mk (H29.ok 0 _ rfl) (H32.ok 1 _ rfl),?_⟩;refine H32.U 1 ?_;intro w33 H33;have H33:=St.skip (X:=[_,_,_]) (St.skip (X:=[]) H33);have e7:L6.set k z'=L.take k++([z']++L.drop k):=by
         rw[hLL,cH _ _ (by omega),ek,cL];rfl
        have e8:v.parts.length=(L.take k++([z']++L.drop k)).length:=by rw[hvl,<-e7,bE]
        refine⟨a10,c10,?_⟩;have e:Bi { s with parts:=v.parts } a10 c10=(Bi s a c).set 13 (.slice a10 (L.take k++([z']++L.drop k)).length c10):=by unfold Bi;simp only[e8];rfl
        unfold Ei;rw[e,e7];rw[e7]at H33;exact H33
     ·refine⟨_,_,_,_,_,_,_,_,_,H24.cells (i:=3) rfl,?_⟩;refine(Ac8 (x:=z.p) H24.get.1).mono ?_;rw[hzp];rintro _ w25 ⟨rfl,hb25⟩;have H25:=H24.pass hb25;clear H24;refine⟨_,rfl,?_⟩;apply Al<;>intro c7
      ·refine H25.m 3 ?_;refine H25.l 1 ?_;refine H25.s 3 ?_;clear H25;intro w26 H26;have K:=Ayo (X:=Ei b b1 b2 s a c p pa pc (.blk b4 Ac (Bf ⟨Si p.sn,none,0,none,0⟩)::X)) H26 hzk ⟨Si p.sn,none,0,none,0⟩ rfl;rw[cF,hzg]at K;refine⟨⟨Si p.sn,none,0,none,0⟩,by rw[aF c7],by rw[Gc,aF c7,<-hzp],by rw[hzp,hz];exact hdc,K.imp fun w hw=>⟨by rw[Gc,aF c7,<-hzp];exact(Oj hw.1).sl,.nil,hw.2.2⟩⟩
      ·have c7':¬Lx (Dk s p)=true:=by rw[c7];decide
       exact⟨z,by rw[aE c7',hzp],by rw[Gc,aE c7'];rfl,aX _,H25.imp fun w hw=>⟨by rw[Gc,aE c7'];exact .nil,hw⟩⟩
    ·apply Al<;>intro c6
     ·obtain⟨hk1,hk2⟩:=Anm c6;have hkL:k<L.length:=by rw[hk];omega
      have hx:s.parts[atP s p.sn]?=some L[k].p:=by rw[<-hk,<-hL,List.getElem?_map,List.getElem?_eq_getElem hkL];rfl
      obtain⟨g,rfl,-,-⟩:=H15.rowSome (i:=(Ei b b1 b2 s a c p pa pc (.blk b4 Ac (Bf ⟨Iu p.sn,none,0,none,0⟩)::X)).length) Hq (by omega);refine H15.m 0 ?_;refine⟨⟨g,0,none⟩,rfl,⟨by omega,by omega⟩,?_⟩;dsimp only;rw[As6];refine⟨_,_,_,_,_,_,_,_,_,H15.cellsEl encPP_ok (i:=(Ei b b1 b2 s (some ⟨g,0,none⟩) c p pa pc (.blk b4 Ac (Bf ⟨Iu p.sn,none,0,none,0⟩)::X)).length) Hq hkL,?_⟩;refine H15.s 3 ?_;clear H15;intro w16 H16;replace H16:St A0 [] w0 w16 (Ei b b1 b2 s (some ⟨g,0,none⟩) c p pa pc (.blk b4 Ac (Bf L[k])::X)++.els Bf Ac 5 (some ⟨g,0,none⟩) c L::L.map agP) P:=H16;refine H16.B 3 ?_;apply Al<;>intro c5
      ·refine⟨_,_,_,_,_,_,_,_,_,_,_,_,_,_,_,_,H16.cells (i:=0) rfl,?_⟩;refine H16.s 2 ?_;clear H16;intro w17 H17;refine⟨_,_,_,_,_,_,_,_,_,_,_,_,_,_,_,_,H17.cells (i:=2) rfl,?_⟩;exact efin 12 (by rw[Yx,aF c6,hx,Aeg,aE c14];exact aF c5) (by decide) (St.skip (X:=[_,_,_]) H17)
      ·have hpb:=(hall _ (bL hx)).1;rw[paB,aE (by rw[c5];decide),aH,aV]at hpb;have hcl:=Ad0 hpb.1;obtain⟨⟨-,hne,hno,-,hen,hdl,-⟩,-⟩:=hpb;have hpos:=Axd hno hne;have c5':¬L[k].p.done=true:=by rw[c5];decide
       refine⟨_,_,_,_,_,_,_,_,_,H16.cells (i:=3) rfl,?_⟩;refine⟨_,_,_,_,_,_,_,H16.cells (i:=1) rfl,?_⟩;refine(Abm (x:=L[k].p) (p:=p) hen (by omega) ⟨by omega,by omega,by omega⟩).mono ?_;rintro _ w18 ⟨rfl,hb18⟩;have H18:=H16.pass hb18;clear H16;refine⟨_,rfl,?_⟩;apply Al<;>intro c4
       ·refine⟨_,_,_,_,_,_,_,_,_,_,_,_,_,_,_,_,H18.cells (i:=0) rfl,?_⟩;refine H18.s 2 ?_;clear H18;intro w19 H19;refine⟨_,_,_,_,_,_,_,_,_,_,_,_,_,_,_,_,H19.cells (i:=2) rfl,?_⟩;exact efin 4 (by rw[Yx,aF c6,hx,Aeg,aE c14];rw[aE c5',aF c4]) (by decide) (St.skip (X:=[_,_,_]) H19)
       ·refine⟨_,_,_,_,_,_,_,_,_,H18.cells (i:=3) rfl,?_⟩;refine⟨_,_,_,_,_,_,_,H18.cells (i:=1) rfl,?_⟩;refine(Asr (x:=L[k].p) (p:=p) (hco _ H18.get _ (aJ hkL)) (by omega) ⟨by omega,by omega,by omega⟩).mono ?_;rintro _ w20 ⟨rfl,hb20⟩;have H20:=H18.pass hb20;clear H18;refine⟨_,rfl,?_⟩;apply Al<;>intro c3
        ·refine⟨_,_,_,_,_,_,_,_,_,_,_,_,_,_,_,_,H20.cells (i:=0) rfl,?_⟩;refine H20.s 2 ?_;clear H20;intro w21 H21;refine⟨_,_,_,_,_,_,_,_,_,_,_,_,_,_,_,_,H21.cells (i:=2) rfl,?_⟩;exact efin 12 (by rw[Yx,aF c6,hx,Aeg,aE c14];rw[aE c5',aE (by rw[c4];decide),aF c3]) (by decide) (St.skip (X:=[_,_,_]) H21)
        ·exact⟨L,L[k],by rw[Mw,aF c6,hL],⟨hkL,by omega,.inl (by omega),by omega,hno⟩,List.getElem?_eq_getElem hkL,fun _=>rfl,fun h=>absurd h (by rw[c6];decide),by rw[Yx,aF c6,hx,Aeg,aE c14];rw[aE c5',aE (by rw[c4];decide),aE (by rw[c3];decide)],H20⟩
     ·have c6':¬Ho s p.sn=true:=by rw[c6];decide
      have hkn:k<(L.take k++(⟨Iu p.sn,none,0,none,0⟩:PP)::L.drop k).length:=by simp;omega
      have hgn:(L.take k++(⟨Iu p.sn,none,0,none,0⟩:PP)::L.drop k)[k]=⟨Iu p.sn,none,0,none,0⟩:=by
       rw[dZ (by simp;omega)];simp[show k-min k L.length=0 by omega]
      refine⟨_,⟨Iu p.sn,none,0,none,0⟩,?_,⟨hkn,?_⟩,?_,fun h=>absurd h c6',fun _=>rfl,?_,Bbk (k:=k) H15 ⟨Iu p.sn,none,0,none,0⟩ rfl⟩
      ·rw[Mw,aE c6',bD,bS,List.map_take,List.map_drop,hL,hk]
      ·rw[hgn];exact⟨aX _,.inr ⟨rfl,rfl,rfl⟩,aX _,rfl⟩
      ·rw[List.getElem?_eq_getElem hkn,hgn]
      ·rw[Yx,aE c6',Aeg,aE c14]
   ·refine H13.drew ?_;clear H13;intro w14 H14;refine H14.m 0 ?_;apply Aa<;>intro c2
    ·have hkL:k<L.length:=by omega
     have hx:s.parts[atP s p.sn]?=some L[k].p:=by rw[<-hk,<-hL,List.getElem?_map,List.getElem?_eq_getElem hkL];rfl
     obtain⟨g,rfl,-,-⟩:=H14.rowSome (i:=(Ei b b1 b2 s a c p pa pc (.blk b4 Ac (Bf ⟨Iu p.sn,none,0,none,0⟩)::X)).length) Hq (by omega);refine H14.m 0 ?_;refine⟨⟨g,0,none⟩,rfl,⟨by omega,by omega⟩,?_⟩;dsimp only;rw[As6];refine⟨_,H14.cellEl encPP_ok (i:=(Ei b b1 b2 s (some ⟨g,0,none⟩) c p pa pc (.blk b4 Ac (Bf ⟨Iu p.sn,none,0,none,0⟩)::X)).length) Hq hkL (j:=0) (by decide) rfl,?_⟩;refine H14.l 1 ?_;refine Aw ?_;exact⟨by unfold Ho;rw[hx],H14⟩
    ·exact⟨by unfold Ho;rw[<-hk,List.getElem?_eq_none (by omega)],H14⟩
  ·have kfin:∀j:Nat,j<=L.length->(∀i (hi:i<s.parts.length),i<j->s.place s.parts[i].sn<s.place p.sn)->(∀hj:j<s.parts.length,¬s.place s.parts[j].sn<s.place p.sn)->(j:Int)=(k:Int):=fun j hj h1 h2=>by
    have:k=j:=by rw[hk];exact Aj6 (by omega) (fun i hi h=>aM (h1 i hi h)) fun hj=>aI (h2 hj)
    rw[this]
   refine⟨fun k1=>((L.length-k1).toNat,fun w7=>∃j:Nat,k1=j/\j<=L.length/\(∀i (hi:i<s.parts.length),i<j->s.place s.parts[i].sn<s.place p.sn)/\St A0 [] w0 w7 (Ei b b1 b2 s a c p pa pc X++.els Bf Ac 5 a c L::L.map agP) P),⟨0,rfl,by omega,fun i _ h=>by omega,H5⟩,?_⟩;clear H5;rintro _ k1 w7 ⟨j,rfl,hj,hlt,H7⟩;refine H7.drew ?_;clear H7;intro w8 H8;refine⟨(· <w8.heap.size),?_⟩;refine H8.m 0 ?_;apply Aa<;>intro c1
   ·have hjL:j<L.length:=by omega
    obtain⟨hj',hjp⟩:=hLp j hjL;obtain⟨g,rfl,-,-⟩:=H8.rowSome (i:=(Ei b b1 b2 s a c p pa pc X).length) Hq (by omega);refine⟨_,_,_,_,_,_,_,_,_,_,_,_,_,_,_,_,H8.cells (i:=0) rfl,?_⟩;refine H8.m 0 ?_;refine⟨⟨g,0,none⟩,rfl,⟨by omega,by omega⟩,?_⟩;dsimp only;rw[As6];refine⟨_,H8.cellEl encPP_ok (i:=(Ei b b1 b2 s (some ⟨g,0,none⟩) c p pa pc X).length) Hq hjL (j:=0) (by decide) rfl,?_⟩;refine⟨H8.lt (i:=0) rfl rfl,?_⟩;refine⟨_,_,_,_,_,_,_,_,_,_,_,_,_,_,_,_,H8.cells (i:=0) rfl,?_⟩;refine⟨H8.lt (i:=1) rfl rfl,?_⟩;refine H8.l 1 ?_;refine(Bw (s:=s) hb).mono ?_;rintro _ w9 ⟨rfl,hb9⟩;have H9:=H8.pass hb9;refine⟨_,rfl,?_⟩;refine⟨hb9.keeps,?_⟩;refine(Bw (s:=s) hb).mono ?_;rintro _ w10 ⟨rfl,hb10⟩;have H10:=H9.pass hb10;refine⟨_,rfl,?_⟩;replace hb10:=Ax hb9 (aG _) hb10;refine⟨hb10.keeps,?_⟩;apply Aa<;>intro c0
    ·rw[hjp]at c0;refine Ao (by omega) ?_;exact⟨⟨j+1,by omega,by omega,fun i hi h=>by
      rcases aT i j with h'|h'
      ·exact hlt i hi h'
      ·obtain rfl:i=j:=by omega
       exact c0,H10⟩,by omega⟩
    ·rw[hjp]at c0;exact⟨kfin j hj hlt fun _=>c0,H10⟩
   ·exact⟨kfin j hj hlt fun h=>by omega,H8⟩
end
section
variable{s:Rc}{a:Option Addr}{c:Nat}{b_a:Option Addr}{b_c:Nat}{bs:List Int}{w:World}
def Bcy(w:World)(x:Rc)(u:List Int)(E:Int)(e:Ending)(w':World):Prop:=
 ∃a c ba bc,e=.returned (.tuple #[Fw x a c,.slice ba u.length bc,.int .i64 E])/\u.length<=bc/\Ti w w' fun w=>PaS w a x.parts/\SlR (Bp .u8) 1 w ba u
theorem Agj(hu:PaR w a s.parts)(hl:SmP s.parts)(hs:SlR (Bp .u8) 1 w b_a bs)(hB:Bytes bs)(hlb:bs.length<=140737488355328)(hcap:bs.length<=b_c):Calls Tryz.prog Jn #[Fw s a c,.slice b_a bs.length b_c] w (Bcy w (It s bs).1 (It s bs).2.1 (It s bs).2.2):=by
 apply Ago;have H:=St.nil w;refine H.alloc ?_;clear H;intro b w1 H1;refine H1.alloc ?_;clear H1;intro b1 w2 H2;refine⟨_,_,_,_,_,_,_,_,_,_,_,_,_,_,_,_,H2.cells (i:=0) rfl,?_⟩;refine(Pf (Cw hu H2.below) hl).mono ?_;rintro _ w3 ⟨rfl,hb3⟩;have H3:=H2.pass hb3;clear H2;refine⟨_,rfl,?_⟩;apply Bq<;>intro c2
 ·refine H3.s 1 ?_;clear H3;intro w4 H4;refine⟨_,_,_,_,_,_,_,_,_,_,_,_,_,_,_,_,H4.cells (i:=1) rfl,?_⟩;rw[It,aF c2];exact⟨none,0,none,0,rfl,aG _,H4.fin.imp fun w _=>⟨⟨.nil,Soft.none_ w⟩,.nil⟩⟩
 ·obtain⟨hf,hlk,hs1,hs2,hs3,hqq,hall⟩:=Ty c2;obtain⟨q,hq⟩:∃q,q=Ip s.lk.bits bs:=⟨_,rfl⟩;have e0:It s bs=if q.2≠0 then (s,[],q.2) else (pollR (Af3 s q.1).1 q.1,(Af3 s q.1).2.1,(Af3 s q.1).2.2):=by
   rw[hq,It,aE (by rw[c2];decide)];dsimp only;congr 1;unfold Af3;split<;>rfl
  rw[e0];refine⟨_,_,_,_,_,_,_,_,_,_,_,_,_,_,_,_,H3.cells (i:=0) rfl,?_⟩;refine(Ws (Cw hu H3.below) hf).mono ?_;rintro _ w5 ⟨ua5,uc5,L5,hL5,rfl,K5⟩;have H5:=H3.callF K5;clear H3;try simp only[aD,aC]at H5
  refine⟨_,_,_,_,_,_,_,_,_,_,_,_,_,_,_,_,rfl,?_⟩;refine H5.alloc ?_;clear H5;intro b2 w6 H6;have H6:=St.lastTo (X:=[_,_]) H6;try simp only[aD,aC]at H6
  refine H6.s 2 ?_;clear H6;intro w7 H7;refine H7.l 0 ?_;have C8:=Amd (bits:=s.lk.bits) (b_c:=b_c) (hs.below H7.below) hB hlb hcap;rw[<-hq]at C8;refine C8.mono ?_;clear C8;rintro _ w8 ⟨pa,pc,hpc,rfl,K8⟩;have H8:=H7.callF K8;clear H7;rw[aL]at H8;refine⟨_,_,_,_,_,_,_,_,rfl,?_⟩;refine H8.alloc ?_;clear H8;intro b3 w9 H9;have H9:=St.lastTo (X:=[_,_,_]) H9;try simp only[aD,aC]at H9
  refine H9.s 3 ?_;clear H9;intro w10 H10;apply An<;>intro c1
  ·refine⟨_,_,_,_,_,_,_,_,_,_,_,_,_,_,_,_,H10.cells (i:=2) rfl,?_⟩;refine H10.s 1 ?_;clear H10;intro w11 H11;refine⟨_,_,_,_,_,_,_,_,_,_,_,_,_,_,_,_,H11.cells (i:=1) rfl,?_⟩;rw[aF c1];exact⟨ua5,uc5,none,0,rfl,aG _,(Ao0 (X:=[_,_,_,_]) H11 fun _ h=>h.2.1).fin.imp fun _ h=>⟨by rw[<-hL5];exact h.1,.nil⟩⟩
  ·have hq0:q.2=0:=by simpa using c1
   rw[aE (by rw[hq0];decide)];obtain⟨pcc,hpcc⟩:∃pcc,pcc=q.1:=⟨_,rfl⟩;have hpok:pcc.ok s.lk.bits:=by rw[hpcc];rw[hq]at hq0 ⊢;exact Adp hq0
   rw[<-hpcc]at H10 hpc ⊢;obtain⟨R,hR⟩:∃R,R=Af3 s pcc:=⟨_,rfl⟩;rw[<-hR];refine⟨_,_,_,_,_,_,_,_,_,_,_,_,_,_,_,_,H10.cells (i:=2) rfl,?_⟩;refine⟨_,_,_,_,_,_,_,H10.cells (i:=3) rfl,?_⟩;refine Ax3 (X:=[_,_,_,_]) (p:=pcc) H10 hL5 c2 hpok (fun _ h=>h.1) (fun _ h=>h.2.1) ?_;rw[<-hR];intro a' c' ba bc w12 hbc H12;refine⟨_,_,_,_,_,_,_,_,_,_,_,_,_,_,_,_,_,_,_,_,rfl,?_⟩;refine H12.s 2 ?_;clear H12;intro w13 H13;refine H13.l 3 ?_;have e1:∀(h:pcc.poll=1),pollR R.1 pcc={ R.1 with due:=true,upto:=R.1.next }:=fun h=>by rw[pollR,aF h]
   have e2:∀(h:¬pcc.poll=1),pollR R.1 pcc=R.1:=fun h=>by rw[pollR,aE h]
   apply Aa<;>intro c
   ·refine H13.l 2 ?_;refine H13.set (i:=2) rfl (by simp[Bi]) ?_;clear H13;intro w14 H14;refine H14.set (i:=2) rfl (by simp[Bi]) ?_;clear H14;intro w15 H15;refine⟨_,_,_,_,_,_,_,_,_,_,_,_,_,_,_,_,H15.cells (i:=2) rfl,?_⟩;refine H15.s 1 ?_;clear H15;intro w16 H16;refine⟨_,_,_,_,_,_,_,_,_,_,_,_,_,_,_,_,H16.cells (i:=1) rfl,?_⟩;rw[e1 c];exact⟨a',c',ba,bc,rfl,hbc,H16.fin.imp fun _ h=>⟨h.1,h.2.1⟩⟩
   ·refine⟨_,_,_,_,_,_,_,_,_,_,_,_,_,_,_,_,H13.cells (i:=2) rfl,?_⟩;refine H13.s 1 ?_;clear H13;intro w17 H17;refine⟨_,_,_,_,_,_,_,_,_,_,_,_,_,_,_,_,H17.cells (i:=1) rfl,?_⟩;rw[e2 c];exact⟨a',c',ba,bc,rfl,hbc,H17.fin.imp fun _ h=>⟨h.1,h.2.1⟩⟩
theorem Wu(hu:PaR w a s.parts)(hl:SmP s.parts)(hs:SlR (Bp .u8) 1 w b_a bs)(hB:Bytes bs)(hlb:bs.length<=140737488355328)(hcap:bs.length<=b_c):Calls Tryz.prog Jn #[Fw s a c,.slice b_a bs.length b_c] w (Bbm w (It s bs).1 (It s bs).2.1 (It s bs).2.2):=
 (Agj hu hl hs hB hlb hcap).mono fun _ _ ⟨a,c,ba,bc,h1,h2,h3⟩=>⟨a,c,ba,bc,h1,h2,h3.imp fun _ h=>⟨h.1.1,h.2⟩⟩
end
theorem Auq{x y:Operand}{l:Lk}{F:Bool->Prop}(h:F false):EqP Tryz.prog .neq Bz x y (.agg #[.int .i64 l.bits,.int .i64 l.every,.int .i64 l.poll,.int .i64 l.wait,.int .i64 l.quiet,.int .i64 l.tries]) (.agg #[.int .i64 l.bits,.int .i64 l.every,.int .i64 l.poll,.int .i64 l.wait,.int .i64 l.quiet,.int .i64 l.tries]) F:=by
 refine Auu (k':=.i64) (e:=Ib) (xs:=[l.bits,l.every,l.poll,l.wait,l.quiet,l.tries]) (ys:=[l.bits,l.every,l.poll,l.wait,l.quiet,l.tries]) (by kernel_rfl) (by kernel_rfl) (by kernel_rfl) (by kernel_rfl) (by kernel_rfl) (by kernel_rfl) rfl ?_;rw[aM rfl];exact h
theorem Sj{w:World}{p:Addr}{u:Pa}{a:Option Addr}{c:Nat}{a2:Option Addr}{c2:Nat}(h:cellsAt w p 0 (Ix u a c a2 c2))(j:Nat){v:Value}(hv:(Ix u a c a2 c2)[j]?=some v):w.cell? (p.add j)=some v:=by
 have:=Bc h j _ hv;rwa[aN]at this
theorem Aqq{s:Rc}{a a':Option Addr}{c c':Nat}{w:World}(hu:PaR w a s.parts)(hu':PaR w a' s.parts)(hl:SmP s.parts)(hby:∀u∈s.parts,Bytes u.data):Calls Tryz.prog Zq #[Fw s a c,Fw s a' c'] w fun e w'=>e=.returned (.bool true)/\Below w.heap.size w w':=by
 apply Ald;have H:=St.nil w;obtain⟨hl0,hl1⟩:=hl;refine H.alloc ?_;clear H;intro b w1 H1;refine H1.alloc ?_;clear H1;intro b1 w2 H2;simp only[aD,aC]at H2;replace H2:St (fun _=>False) [] w w2 [.blk b Ag (Bi s a c),.blk b1 Ag (Bi s a' c')] (fun _=>True):=H2;refine⟨fun x12 w3=>St (fun _=>False) [] w w3 [.blk b Ag (Bi s a c),.blk b1 Ag (Bi s a' c')] (fun _=>True)/\x12=false,?_,?_⟩
 ·rintro _ x12 w3 ⟨H3,rfl⟩;refine Al (fun c13=>by cases c13) (fun _=>?_);refine⟨fun i=>((s.parts.length-i).toNat,fun w4=>∃k:Nat,i=k/\k<=s.parts.length/\St (fun _=>False) [] w w4 [.blk b Ag (Bi s a c),.blk b1 Ag (Bi s a' c')] (fun _=>True)),⟨0,rfl,by omega,H3⟩,?_⟩;clear H3;rintro _ i w4 ⟨k,rfl,hk,H4⟩;refine H4.m 0 ?_;refine Aa (fun c12=>?_) (fun c12=>⟨rfl,H4.below⟩);have hlt:k<s.parts.length:=by omega
  obtain⟨u,hue⟩:∃u,u=s.parts[k]:=⟨_,rfl⟩;have hmu:u∈s.parts:=by rw[hue];exact aJ _
  refine⟨fun x13 y w14=>St (fun _=>False) [] w w14 [.blk b Ag (Bi s a c),.blk b1 Ag (Bi s a' c')] (fun _=>True)/\PaC w14 x13 u/\PaC w14 y u,?_,?_⟩
  ·rintro _ x13 y w14 ⟨H14,hx,hy⟩;obtain⟨xa,xc,xa2,xc2,hx,hxd,hxr,hxc⟩:=hx;obtain⟨ya,yc,ya2,yc2,hy,hyd,hyr,hyc⟩:=hy;refine⟨fun x20 w17=>St (fun _=>False) [] w w17 [.blk b Ag (Bi s a c),.blk b1 Ag (Bi s a' c')] (fun _=>True)/\x20=false,?_,?_⟩
   ·rintro _ x20 w17 ⟨H17,rfl⟩;refine Al (fun c=>by cases c) (fun _=>?_);refine Ao (by omega) ?_;exact⟨⟨k+1,by omega,by omega,H17⟩,by dsimp only;omega⟩
   ·refine⟨_,Sj hx 0 rfl,?_⟩;refine⟨_,Sj hy 0 rfl,?_⟩;refine An (fun h=>absurd rfl h) (fun _=>?_);refine⟨_,Sj hx 1 rfl,?_⟩;refine⟨_,Sj hy 1 rfl,?_⟩;refine Bq (fun h=>by simp at h) (fun _=>?_);refine⟨_,Sj hx 2 rfl,?_⟩;refine⟨_,Sj hy 2 rfl,?_⟩;refine An (fun h=>absurd rfl h) (fun _=>?_);refine⟨_,_,_,Sj hx 3 rfl,?_⟩;refine⟨_,_,_,Sj hy 3 rfl,?_⟩;refine(Wa hxd hyd (hby u hmu) (hby u hmu)).mono ?_;rintro _ w15 ⟨rfl,hb15⟩;have H15:=H14.pass hb15;refine⟨_,rfl,?_⟩;refine Bq (fun h=>by simp at h) (fun _=>?_);refine⟨_,_,_,Sj (Av hx hb15) 4 rfl,?_⟩;refine⟨_,_,_,Sj (Av hy hb15) 4 rfl,?_⟩;refine(Sm (hxr.belowE hb15) (hyr.belowE hb15) (hl1 u hmu).1).mono ?_;rintro _ w16 ⟨rfl,hb16⟩;refine⟨_,rfl,?_⟩;exact⟨H15.pass hb16,by simp⟩
  ·refine H4.drew ?_;clear H4;intro w5 H5;have hu5:=Cw hu H5.below;have hu5':=Cw hu' H5.below;refine⟨(· <w5.heap.size),?_⟩;refine⟨H5.lt (i:=0) rfl rfl,?_⟩;refine H5.m 0 ?_;refine Uu hu5 k rfl hlt fun b2 hb2=>?_;rw[<-hue]at hb2;obtain⟨xa,xc,xa2,xc2,hx,hxd,hxr,hxc⟩:=hb2;refine⟨Dv (Sj hx 0 rfl),?_⟩;refine⟨_,_,_,_,_,_,_,_,_,hx,?_⟩;refine⟨H5.lt (i:=1) rfl rfl,?_⟩;refine H5.m 1 ?_;refine Uu hu5' k rfl hlt fun b3 hb3=>?_;rw[<-hue]at hb3;obtain⟨ya,yc,ya2,yc2,hy,hyd,hyr,hyc⟩:=hb3;refine⟨Dv (Sj hy 0 rfl),?_⟩;refine⟨_,_,_,_,_,_,_,_,_,hy,?_⟩;refine⟨?_,?_,trivial⟩
   ·have L:=St.nil w5;refine L.alloc ?_;clear L;intro b6 w10 L10;refine⟨L10.below.keeps,?_⟩;refine L10.alloc ?_;clear L10;intro b7 w11 L11;refine⟨L11.below.keeps,?_⟩;simp only[aD,aC]at L11;refine L11.s 0 ?_;clear L11;intro w12 L12;refine⟨L12.below.keeps,?_⟩;simp only[aA]at L12;refine L12.s 1 ?_;clear L12;intro w13 L13;simp only[aB,aA]at L13;exact⟨H5.pass L13.below,⟨xa,xc,xa2,xc2,L13.cells (i:=0) rfl,hxd.below L13.below,hxr.belowE L13.below,hxc⟩,⟨ya,yc,ya2,yc2,L13.cells (i:=1) rfl,hyd.below L13.below,hyr.belowE L13.below,hyc⟩⟩
   ·have L:=St.nil w5;refine L.alloc ?_;clear L;intro b6 w10 L10;refine⟨L10.below.keeps,?_⟩;refine L10.alloc ?_;clear L10;intro b7 w11 L11;refine⟨L11.below.keeps,?_⟩;simp only[aD,aC]at L11;refine L11.s 1 ?_;clear L11;intro w12 L12;refine⟨L12.below.keeps,?_⟩;simp only[aB,aA]at L12;refine L12.s 0 ?_;clear L12;intro w13 L13;simp only[aB,aA]at L13;exact⟨H5.pass L13.below,⟨xa,xc,xa2,xc2,L13.cells (i:=1) rfl,hxd.below L13.below,hxr.belowE L13.below,hxc⟩,⟨ya,yc,ya2,yc2,L13.cells (i:=0) rfl,hyd.below L13.below,hyr.belowE L13.below,hyc⟩⟩
 ·refine⟨_,_,_,_,_,_,H2.cellsAt (i:=0) rfl (by rfl),?_⟩;refine⟨_,_,_,_,_,_,H2.cellsAt (i:=1) rfl (by rfl),?_⟩;refine Auq ?_;refine Al (fun h=>by cases h) (fun _=>?_);refine H2.l 0 ?_;refine H2.l 1 ?_;refine An (fun h=>absurd rfl h) (fun _=>?_);refine H2.l 0 ?_;refine H2.l 1 ?_;refine An (fun h=>absurd rfl h) (fun _=>?_);refine H2.l 0 ?_;refine H2.l 1 ?_;refine An (fun h=>absurd rfl h) (fun _=>?_);refine H2.l 0 ?_;refine H2.l 1 ?_;refine An (fun h=>absurd rfl h) (fun _=>?_);refine H2.l 0 ?_;refine H2.l 1 ?_;refine An (fun h=>absurd rfl h) (fun _=>?_);refine H2.l 0 ?_;refine H2.l 1 ?_;refine An (fun h=>absurd rfl h) (fun _=>?_);refine H2.B 0 ?_;refine H2.B 1 ?_;refine Bq (fun h=>by simp at h) (fun _=>?_);refine H2.m 0 ?_;refine H2.m 1 ?_;exact⟨H2,by simp⟩
end Go.Proofs.YtmbppohkadmjgaaGreat
namespace Go.Sx
theorem Adi{xs:List Int}:Bytes xs↔∀x∈xs,0<=x/\x<256:=
 ⟨fun h x hx=>by obtain⟨i,hi,rfl⟩:=bF hx;exact h i hi,fun h i hi=>h _ (aJ _)⟩
theorem Ez:Bytes []:=fun i hi=>by simp at hi
theorem Avx{d b:List Int}{o:Nat}(hd:Bytes d)(hb:Bytes b):Bytes (Ap5 d o b):=by
 rw[Adi]at*;have h:∀x∈d++List.replicate (o+b.length-d.length) (0:Int),0<=x/\x<256:=fun x hx=>by
  rcases aW.1 hx with hx|hx
  ·exact hd x hx
  ·rw[(List.mem_replicate.1 hx).2];omega
 intro x hx;unfold Ap5 at hx;rcases aW.1 hx with hx|hx
 ·rcases aW.1 hx with hx|hx
  ·exact h x (dE hx)
  ·exact hb x hx
 ·exact h x (cD hx)
theorem Arg(sn:Int):∀(l:List Rg) (f t:Int),(Cn sn l f t).length<=l.length+1
 | [],f,t=>by simp[Cn]
 |x::l,f,t=>by
  have ih:=Arg sn l;unfold Cn;split
  ·have:=ih f t;simp only[aQ];omega
  ·split
   ·simp only[aQ,bC];omega
   ·have:=ih (if x.f<f then x.f else f) (if x.t>t then x.t else t);simp only[aQ];omega
theorem Avt{b:Int}{bs:List Int}(h:Bytes bs):Bytes (Ip b bs).1.data:=by
 have hz:Bytes Pc.zero.data:=Ez;unfold Ip;split
 ·exact hz
 ·split
  ·exact hz
  ·split
   ·exact hz
   ·split
    ·exact hz
    ·rw[Adi]at*;exact fun x hx=>h x (cD hx)
def GPa(x:Pa):Prop:=x.come.length<=140737488355328/\x.data.length<=140737488355328/\Bytes x.data
def GP(L:List Pa):Prop:=L.length<=140737488355328/\∀x∈L,GPa x
theorem Wl:GP []:=⟨aX _,fun x hx=>by simp at hx⟩
theorem Arm(b:Int):∀(l:List Pa) (f:Int),(Mu b f l).2.length<=l.length/\∀x∈(Mu b f l).2,x∈l
 | [],f=>⟨aG _,fun x hx=>hx⟩
 |p::l,f=>by
  unfold Mu;split
  ·obtain⟨h1,h2⟩:=Arm b l ((f+1)%2^b.toNat);exact⟨by simp only[aQ];omega,fun x hx=>.tail _ (h2 x hx)⟩
  ·exact⟨aG _,fun x hx=>hx⟩
theorem Awd(s:Rc):(Qa s).parts=(Mu s.lk.bits s.first s.parts).2:=by
 unfold Qa Akc;split<;>rfl
theorem Aww{s:Rc}{p:Pc}{x:Pa}(h:x∈Mw s p):x∈s.parts\/x=Iu p.sn:=by
 unfold Mw at h;split at h
 ·exact .inl h
 ·rcases aW.1 h with h|h
  ·exact .inl (dE h)
  ·rcases bB.1 h with h|h
   ·exact .inr h
   ·exact .inl (cD h)
theorem Bal(s:Rc)(p:Pc):(Mw s p).length<=s.parts.length+1:=by
 unfold Mw;split
 ·omega
 ·simp only[aP,aQ,aU,bJ];omega
theorem Am7{s:Rc}{p:Pc}(h:∀x∈s.parts,x.come.length<=3000/\x.data.length<=3000/\Bytes x.data)(hb:Bytes p.data)(ho:0<=p.off/\p.off+p.data.length<=2054):GPa (Dk s p):=by
 have key:∀x:Pa,(x.come.length<=3000/\x.data.length<=3000/\Bytes x.data)->GPa (Es x p):=fun x ⟨h1,h2,h3⟩=>by
  refine⟨?_,?_,?_⟩
  ·have:=Arg p.sn x.come p.off p.en;show (Cn p.sn x.come p.off p.en).length<=_;omega
  ·show (Ap5 x.data p.off.toNat p.data).length<=_;rw[At9];omega
  ·exact Avx h3 hb
 unfold Dk;cases hx:(Mw s p)[atP s p.sn]? with
 |none=>exact key _ ⟨aX _,aX _,Ez⟩
 |some x=>
  rcases Aww (bL hx)with h1|rfl
  ·exact key _ (h x h1)
  ·exact key _ ⟨aX _,aX _,Ez⟩
theorem Bb9{s:Rc}{p:Pc}(hl:s.parts.length<=600)(h:∀x∈s.parts,x.come.length<=3000/\x.data.length<=3000/\Bytes x.data)(hb:Bytes p.data)(ho:0<=p.off/\p.off+p.data.length<=2054):GP (putP s p).parts:=by
 have hm:=Am7 h hb ho;have hl2:=Bal s p;refine⟨?_,fun x hx=>?_⟩
 ·show ((Mw s p).set _ _).length<=_;rw[bE];omega
 ·have hx:x∈(Mw s p).set (atP s p.sn) (if Lx (Dk s p) then Si p.sn else Dk s p):=hx;rcases bM hx with hx|rfl
  ·rcases Aww hx with h1|rfl
   ·obtain⟨h2,h3,h4⟩:=h x h1;exact⟨by omega,by omega,h4⟩
   ·exact⟨aX _,aX _,Ez⟩
  ·split
   ·exact⟨aX _,aX _,Ez⟩
   ·exact hm
theorem GP.sm{L:List Pa}(h:GP L):SmP L:=⟨by have:=h.1;omega,fun x hx=>by obtain⟨h1,h2,_⟩:=h.2 x hx;omega⟩
theorem Avj{s:Rc}{p:Pc}(h:GPa (Dk s p)):Bytes (Gc s p):=by
 unfold Gc;split
 ·exact h.2.2
 ·exact Ez
theorem Asq{s:Rc}{bs:List Int}(h:GP s.parts)(hB:Bytes bs):GP (It s bs).1.parts/\Bytes (It s bs).2.1:=by
 unfold It;by_cases h1:s.okB=false
 ·rw[aF h1];exact⟨Wl,Ez⟩
 rw[aE h1];dsimp only;by_cases h2:(Ip s.lk.bits bs).2≠0
 ·rw[aF h2];exact⟨h,Ez⟩
 rw[aE h2];by_cases h3:Ek s (Ip s.lk.bits bs).1≠0
 ·rw[aF h3];exact⟨by rw[Vk];exact h,Ez⟩
 rw[aE h3];have hok:s.okB=true:=by simpa using h1
 obtain⟨hf,-⟩:=Ty hok;have hp:=Adp (by simpa using h2);obtain⟨-,-,-,-,-,ho,hd,he⟩:=hp;have hx:∀x∈s.parts,x.come.length<=3000/\x.data.length<=3000/\Bytes x.data:=fun x hx=>⟨(hf.2 x hx).1,(hf.2 x hx).2,(h.2 x hx).2.2⟩;have hb:=Avt (b:=s.lk.bits) hB;have g:=Bb9 hf.1 hx hb ⟨ho.1,he⟩;refine⟨?_,Avj (Am7 hx hb ⟨ho.1,he⟩)⟩;rw[Vk,(Ob _).1,Awd];obtain⟨k1,k2⟩:=Arm (putP s (Ip s.lk.bits bs).1).lk.bits (putP s (Ip s.lk.bits bs).1).parts (putP s (Ip s.lk.bits bs).1).first;exact⟨cG k1 g.1,fun x hx=>g.2 x (k2 x hx)⟩
theorem Ar5{s:Rc}(h:GP s.parts):GP (Gv s).1.parts:=by
 unfold Gv;split
 ·exact Wl
 ·dsimp only;split
  ·exact h
  ·rw[Ace];exact h
theorem Avf(bits:Int)(s:Stt):Bytes (encS bits s).1:=by
 unfold encS;split
 ·exact Ata _
 ·exact Ez
theorem As1{s:Rc}{size:Int}(h:GP s.parts):GP (Fu s size).1.parts/\Bytes (Fu s size).2.1:=by
 unfold Fu;by_cases h1:s.okB=false
 ·rw[aF h1];exact⟨Wl,Ez⟩
 rw[aE h1];by_cases h2:size<0\/size>4096
 ·rw[aF h2];exact⟨Wl,Ez⟩
 rw[aE h2];by_cases h3:s.due=false\/s.quiet>0
 ·rw[aF h3];exact⟨Wl,Ez⟩
 rw[aE h3];dsimp only;by_cases h4:(fitR s.lk.bits (Lm s).1 size).2≠0
 ·rw[aF h4];exact⟨Wl,Ez⟩
 ·rw[aE h4];exact⟨h,Avf _ _⟩
theorem Aza{x:Pa}(h:Cc (-1) x.come=true)(e:(x.data.length:Int)=endT x.come):∀r∈x.come,r.t<=x.data.length:=by
 intro r hr;have:=(Mn (q:=0) h).1 r hr;unfold endT at e;omega
theorem Att{d:List Int}{k:Nat}(h:k<d.length):d.getD k 0=d[k]:=by simp[List.getD,List.getElem?_eq_getElem h]
theorem Auk{x:Pa}(h:Cc (-1) x.come=true)(e:(x.data.length:Int)=endT x.come):Ak9 x=true↔∀k:Nat,k<x.data.length->Qk k x.come=false->x.data.getD k 0=0:=by
 have ht:=Aza h e;have hc:=fun k:Int=>Atr x.sn k x.data.length x.come 0 (by simpa using h) ht;have hn:=Xy x.sn x.data.length x.come (-1) 0 (by simpa using h) (by omega);have hg:=Lo _ _ hn;have hle:∀g∈gapsS x.sn x.come 0 x.data.length,g.t<=x.data.length:=Aid x.sn x.data.length x.come 0 fun r hr=>by
  have:=Lo _ _ h r hr;have:=ht r hr;omega
 unfold Ak9;rw[bN];constructor
 ·intro hz k hk hck;have h1:=hc k;rw[hck]at h1;have h2:Qk (k:Int) (gapsS x.sn x.come 0 x.data.length)=true:=by rw[h1];simp;omega
  obtain⟨g,hg1,hg2,hg3⟩:=Amw.1 h2;have h3:=hz g hg1;rw[bN]at h3;have h4:=hg g hg1;have h5:=hle g hg1;have hi:k-g.f.toNat<((x.data.drop g.f.toNat).take (g.t.toNat-g.f.toNat)).length:=by simp only[aU,bJ];omega
  have h6:=h3 _ (aJ hi);simp only[bX,cT,aO]at h6;rw[Att hk];rw[<-h6];congr 1;omega
 ·intro hz g hg1;rw[bN];intro c hcm;obtain⟨j,hj,rfl⟩:=bF hcm;simp only[bX,cT,aO];simp only[aU,bJ]at hj;have h4:=hg g hg1;have h5:=hle g hg1;have hk:g.f.toNat+j<x.data.length:=by omega
  have h1:=hc ((g.f.toNat+j:Nat):Int);have h2:Qk ((g.f.toNat+j:Nat):Int) (gapsS x.sn x.come 0 x.data.length)=true:=Amw.2 ⟨g,hg1,by omega,by omega⟩;rw[h2]at h1;have h3:Qk ((g.f.toNat+j:Nat):Int) x.come=false:=by
   cases hb:Qk ((g.f.toNat+j:Nat):Int) x.come with
   |false=>rfl
   |true=>rw[hb]at h1;simp at h1
  have:=hz _ hk h3;rwa[Att hk]at this
theorem Avi(n:Int)(p:Pc)(h:1<=p.en):Ee (Iu n) p=false:=by
 unfold Ee;split
 ·rw[cC];rintro(⟨h1,_⟩|h1)
  ·exact h1 rfl
  ·simp only[Iu,endT,Ae7]at h1;omega
 ·rw[cC];rintro⟨h1,_⟩;exact h1 rfl
def Ax9(x:Pa):Prop:=x.done=false/\(x.len=-1\/(1<=x.len/\x.len<=2054/\(x.data.length:Int)<=x.len))/\Cc (-1) x.come=true/\(x.data.length:Int)=endT x.come/\x.data.length<=2054/\∀k:Nat,k<x.data.length->Qk k x.come=false->x.data.getD k 0=0
theorem Az2(n:Int):Ax9 (Iu n):=⟨rfl,.inl rfl,rfl,rfl,aX _,fun k h=>by simp[Iu]at h⟩
theorem Bas{x:Pa}(hd:x.done=false)(h:paB x=true):Ax9 x:=by
 rw[paB,aE (by rw[hd];decide),aH,aV]at h;obtain⟨⟨h1,h2,h3,h4,h5,h6,h7⟩,hz⟩:=h;exact⟨hd,h1,h3,h5,h6,(Auk h3 h5).1 hz⟩
theorem Av0{x:Pa}{p:Pc}(h:Ax9 x)(hp:(0<=p.off/\p.off<=2054)/\1<=p.data.length/\p.off+p.data.length<=2054)(hc:Ee x p=false):Ax9 (Es x p)/\(Es x p).come≠[]/\∀r∈(Es x p).come,r.sn=p.sn:=by
 obtain⟨h1,h2,h3,h4,h5,h6⟩:=h;obtain⟨⟨p1,p2⟩,p3,p4⟩:=hp;have hen:p.en=p.off+p.data.length:=rfl;have hlt:p.off<p.en:=by omega
 have hl:(Es x p).data.length=max x.data.length (p.off.toNat+p.data.length):=At9 _ _ _;have hcome:(Es x p).come=Cn p.sn x.come p.off p.en:=rfl;have hnorm:Cc (-1) (Es x p).come=true:=Zg p.sn x.come (-1) p.off p.en h3 (by omega) hlt;have hend:endT (Es x p).come=max (endT x.come) p.en:=Axm h3 p1 hlt;have hcov:∀k:Int,Qk k (Es x p).come=(decide (p.off<=k/\k<p.en)||Qk k x.come):=fun k=>Xn p.sn k x.come p.off p.en hlt fun r hr=>(Lo _ _ h3 r hr).2;refine⟨⟨h1,?_,hnorm,?_,?_,?_⟩,?_,Apm p.sn x.come p.off p.en⟩
 ·have hlen:(Es x p).len=if Agr p.part=true then p.en else x.len:=rfl
  rw[hlen];unfold Ee at hc;by_cases he:Agr p.part=true
  ·rw[aF he]at hc ⊢;rw[cC]at hc;right;have:¬p.en<endT x.come:=fun hh=>hc (.inr hh);omega
  ·rw[aE he]at hc ⊢;rw[cC]at hc;rcases h2 with h2|⟨g1,g2,g3⟩
   ·exact .inl h2
   ·right;have:¬x.len<=p.en:=fun hh=>hc ⟨by omega,hh⟩;omega
 ·rw[hend,hl];omega
 ·rw[hl];omega
 ·intro k hk hck;rw[hcov,Bool.or_eq_false_iff,cC]at hck;have hd:(Es x p).data.getD k 0=_:=Ay8 x.data p.off.toNat p.data k;rw[hd,aE (by omega)];by_cases hkd:k<x.data.length
  ·exact h6 k hkd hck.2
  ·simp[List.getD,List.getElem?_eq_none (by omega:x.data.length<=k)]
 ·intro e;have:=hcov p.off;rw[e]at this;simp[Qk,hlt]at this
theorem Azl{x:Pa}{p:Pc}(h:Ax9 x)(hs:x.sn=p.sn)(hp:(0<=p.off/\p.off<=2054)/\1<=p.data.length/\p.off+p.data.length<=2054)(hc:Ee x p=false)(hn:Lx (Es x p)=false):paB (Es x p)=true:=by
 obtain⟨⟨h1,h2,h3,h4,h5,h6⟩,h7,h8⟩:=Av0 h hp hc;rw[paB,aE (by rw[h1];decide),aH,aV];refine⟨⟨h2,h7,h3,fun r hr=>?_,h4,h5,hn⟩,(Auk h3 h4).2 h6⟩;rw[h8 r hr];exact hs.symm
end Go.Sx
namespace Go.Sx
open Go.Proofs.YtmbppohkadmjgaaGreat
structure Core (s:Rc):Prop where
 lk:Ir s.lk
 f:Bt s.lk.bits s.first
 n:Bt s.lk.bits s.next
 u:Bt s.lk.bits s.upto
 half:s.place s.next<=2^(s.lk.bits-1).toNat
 q:0<=s.quiet/\s.quiet<=s.lk.quiet
 all:∀x∈s.parts,paB x=true/\Bt s.lk.bits x.sn/\s.place x.sn<s.place s.next
 asc:s.parts.Pairwise fun x y=>s.place x.sn<s.place y.sn
 last:((s.parts.getLast?).map fun x=>s.place x.sn).getD (-1)=s.place s.next-1
def Amq(s:Rc):Prop:=∀x∈s.parts,¬(x.done=true/\x.sn=s.first)
theorem An2{s:Rc}:∀ {L:List Pa} {last:Int},Fv s last L=true↔(∀x∈L,paB x=true/\Bt s.lk.bits x.sn/\last<s.place x.sn/\s.place x.sn<s.place s.next/\¬(x.done=true/\x.sn=s.first))/\(L.Pairwise fun x y=>s.place x.sn<s.place y.sn)/\((L.getLast?).map fun x=>s.place x.sn).getD last=s.place s.next-1
 | [],last=>by simp[Fv]
 |p::l,last=>by
  have ih:=An2 (s:=s) (L:=l) (last:=s.place p.sn);have hl:(((p::l).getLast?).map fun x=>s.place x.sn).getD last=((l.getLast?).map fun x=>s.place x.sn).getD (s.place p.sn):=by
   rw[List.getLast?_cons];cases l.getLast?<;>rfl
  rw[hl,cJ];simp only[Fv,aH,ih,Aqx,aO,bB,forall_eq_or_imp];have hd:(!p.done|| !decide (p.sn=s.first))=true↔¬(p.done=true/\p.sn=s.first):=by
   cases p.done<;>simp
  rw[hd];constructor
  ·rintro⟨⟨⟨⟨h1,h2,h3⟩,h4⟩,h5⟩,h6,h7,h8⟩;exact⟨⟨⟨h5,h1,h2,h3,h4⟩,fun x hx=>⟨(h6 x hx).1,(h6 x hx).2.1,by have:=(h6 x hx).2.2.1;omega,(h6 x hx).2.2.2⟩⟩,⟨fun x hx=>(h6 x hx).2.2.1,h7⟩,h8⟩
  ·rintro⟨⟨⟨h5,h1,h2,h3,h4⟩,h6⟩,⟨h9,h7⟩,h8⟩;exact⟨⟨⟨⟨h1,h2,h3⟩,h4⟩,h5⟩,fun x hx=>⟨(h6 x hx).1,(h6 x hx).2.1,h9 x hx,(h6 x hx).2.2.2⟩,h7,h8⟩
theorem Xb(s:Rc)(n:Int):0<=s.place n:=(Qf _ _ _).1
theorem Wf{s:Rc}:s.okB=true↔Core s/\s.place s.upto<=s.place s.next/\Amq s/\Vg s=true:=by
 unfold Rc.okB Adg;simp only[aH,aO,An2];constructor
 ·rintro⟨⟨⟨h1,h2,h3,h4,h5,h6,h7,h8⟩,h9,h10,h11⟩,h12⟩;exact⟨⟨h1,h2,h3,h4,h5,⟨h7,h8⟩,fun x hx=>⟨(h9 x hx).1,(h9 x hx).2.1,(h9 x hx).2.2.2.1⟩,h10,h11⟩,h6,fun x hx=>(h9 x hx).2.2.2.2,h12⟩
 ·rintro⟨⟨h1,h2,h3,h4,h5,⟨h7,h8⟩,h9,h10,h11⟩,h6,h13,h12⟩;exact⟨⟨⟨h1,h2,h3,h4,h5,h6,h7,h8⟩,fun x hx=>⟨(h9 x hx).1,(h9 x hx).2.1,by have:=Xb s x.sn;omega,(h9 x hx).2.2,h13 x hx⟩,h10,h11⟩,h12⟩
def Azm(s:Rc):Prop:=(s.mark=-1->s.left=0)/\(s.mark≠ -1->Bt s.lk.bits s.mark/\1<=s.left/\s.left<=s.lk.wait)
theorem Bb4{s:Rc}(h:Vg s=true):Azm s:=by
 rcases Uo.1 h with ⟨h1,h2⟩|⟨h1,h2,h3,h4,h5,h6⟩
 ·exact⟨fun _=>h2,fun hh=>absurd h1 hh⟩
 ·exact⟨fun hh=>absurd hh h1,fun _=>⟨h2,h5,h6⟩⟩
theorem Qn(s:Rc):s.place s.first=0:=by unfold Rc.place way;rw[Int.sub_self,Int.zero_emod]
theorem Core.same{s t:Rc}(h:Core s)(h1:t.lk=s.lk)(h2:t.first=s.first)(h3:t.next=s.next)(h4:Bt s.lk.bits t.upto)(h5:0<=t.quiet/\t.quiet<=s.lk.quiet)(h6:t.parts=s.parts):Core t:=by
 have hp:∀n,t.place n=s.place n:=fun n=>by unfold Rc.place;rw[h1,h2]
 refine⟨by rw[h1];exact h.lk,by rw[h1,h2];exact h.f,by rw[h1,h3];exact h.n,by rw[h1];exact h4,by rw[hp,h1,h3];exact h.half,by rw[h1];exact h5,?_,?_,?_⟩
 ·intro x hx;rw[h6]at hx;rw[h1,hp,hp,h3];exact h.all x hx
 ·rw[h6];exact h.asc.imp fun {a b} hab=>by rw[hp,hp];exact hab
 ·rw[h6,hp,h3];have:(fun x:Pa=>t.place x.sn)=fun x=>s.place x.sn:=funext fun x=>hp x.sn;rw[this];exact h.last
theorem Au4{s:Rc}(h:Core s)(hu:s.place s.upto<=s.place s.next)(hf:Amq s)(hm:Azm s):(startR s).okB=true:=by
 obtain⟨e1,e2,e3,e4,e5,e6,e7⟩:=Ob s;have hp:∀n,(startR s).place n=s.place n:=fun n=>by unfold Rc.place;rw[e2,e3]
 refine Wf.2 ⟨h.same e2 e3 e4 (by rw[e5];exact h.u) (by rw[e6];exact h.q) e1,by rw[hp,hp,e5,e4];exact hu,fun x hx=>by rw[e1]at hx;rw[e3];exact hf x hx,Uo.2 ?_⟩;obtain⟨m1,m2⟩:=hm;have hn0:s.first≠s.next->1<=s.place s.next:=fun hne=>by
  have:=Xb s s.next;rcases Int.lt_or_le 0 (s.place s.next)with h1|h1
  ·omega
  ·exact absurd (Xm h.lk.1 h.f h.n (by rw[Qn];omega)) hne
 have hp1:∀n,(Mg s).place n=s.place n:=fun n=>by unfold Mg;split<;>rfl
 obtain⟨t,ht⟩:∃t,t=Mg s:=⟨_,rfl⟩;have hl:=h.lk;obtain⟨-,-,-,hw,-,-⟩:=hl;have ht0:t.lk=s.lk/\t.first=s.first/\t.next=s.next:=by rw[ht];unfold Mg;split<;>exact⟨rfl,rfl,rfl⟩
 have htm:(t.mark=-1/\t.left=0)\/(t.mark≠ -1/\Bt s.lk.bits t.mark/\1<=s.place t.mark/\s.place t.mark<=s.place s.next/\1<=t.left/\t.left<=s.lk.wait):=by
  rw[ht];unfold Mg;by_cases c:s.mark≠ -1/\(s.place s.mark=0\/s.place s.mark>s.place s.next)
  ·rw[aF c];exact .inl ⟨rfl,rfl⟩
  ·rw[aE c];by_cases c2:s.mark=-1
   ·exact .inl ⟨c2,m1 c2⟩
   ·have:=Xb s s.mark;have c3:¬(s.place s.mark=0\/s.place s.mark>s.place s.next):=fun hh=>c ⟨c2,hh⟩;obtain⟨m3,m4,m5⟩:=m2 c2;exact .inr ⟨c2,m3,by omega,by omega,m4,m5⟩
 have hst:startR s=Za t:=by rw[ht];rfl
 have hpt:∀n,(Za t).place n=s.place n:=fun n=>by rw[<-hst];exact hp n
 rw[hst];unfold Za;by_cases c:t.mark=-1/\t.first≠t.next
 ·rw[aF c];right;have h1:=hn0 (by rw[<-ht0.2.1,<-ht0.2.2];exact c.2);have hpp:∀n,Rc.place { t with mark:=t.next,left:=t.lk.wait } n=s.place n:=fun n=>by show way t.lk.bits t.first n=_;rw[ht0.1,ht0.2.1];rfl
  refine⟨?_,?_,?_,?_,?_,?_⟩
  ·show t.next≠ -1;rw[ht0.2.2];have:=h.n.1;omega
  ·show Bt t.lk.bits t.next;rw[ht0.1,ht0.2.2];exact h.n
  ·rw[hpp];show 1<=s.place t.next;rw[ht0.2.2];exact h1
  ·rw[hpp];exact bV _
  ·show 1<=t.lk.wait;rw[ht0.1];omega
  ·exact bV _
 ·rw[aE c];have hpp:∀n,t.place n=s.place n:=fun n=>by unfold Rc.place;rw[ht0.1,ht0.2.1]
  rcases htm with h1|⟨h1,h2,h3,h4,h5,h6⟩
  ·exact .inl h1
  ·exact .inr ⟨h1,by rw[ht0.1];exact h2,by rw[hpp];exact h3,by rw[hpp,hpp,ht0.2.2];exact h4,h5,by rw[ht0.1];exact h6⟩
theorem tick_ok{s:Rc}(h:s.okB=true):(Gv s).1.okB=true:=by
 obtain⟨hc,hu,hf,hm⟩:=Wf.1 h;unfold Gv;rw[aE (by rw[h];decide)];dsimp only;have hq:0<=(Ah0 s).quiet/\(Ah0 s).quiet<=s.lk.quiet:=by
  have:=hc.q;unfold Ah0;dsimp only;split<;>omega
 by_cases c:s.left=0
 ·rw[aF c];refine Wf.2 ⟨hc.same rfl rfl rfl hc.u hq rfl,hu,hf,?_⟩;exact hm
 ·rw[aE c];rcases Uo.1 hm with ⟨_,h2⟩|⟨m1,m2,m3,m4,m5,m6⟩
  ·exact absurd h2 c
  unfold Ak2;by_cases c2:s.left-1>0
  ·rw[aF (show ({ Ah0 s with left:=s.left-1 }:Rc).left>0 from c2)];refine Wf.2 ⟨hc.same rfl rfl rfl hc.u hq rfl,hu,hf,Uo.2 (.inr ⟨m1,m2,m3,m4,?_,?_⟩)⟩
   ·show 1<=s.left-1;omega
   ·show s.left-1<=s.lk.wait;omega
  ·rw[aE (show ¬({ Ah0 s with left:=s.left-1 }:Rc).left>0 from c2)];refine Au4 (hc.same rfl rfl rfl ?_ hq rfl) ?_ hf ⟨fun _=>?_,fun hh=>absurd rfl hh⟩
   ·show Bt s.lk.bits (if s.place s.mark>s.place s.upto then s.mark else s.upto);split
    ·exact m2
    ·exact hc.u
   ·show s.place (if s.place s.mark>s.place s.upto then s.mark else s.upto)<=s.place s.next;split
    ·exact m4
    ·exact hu
   ·show s.left-1=0;omega
theorem rep_ok{s:Rc}{size:Int}(h:s.okB=true)(h0:(Fu s size).2.2=0):(Fu s size).1={ s with due:=false,quiet:=s.lk.quiet }/\(Fu s size).1.okB=true:=by
 obtain⟨hc,hu,hf,hm⟩:=Wf.1 h;have e:(Fu s size).1={ s with due:=false,quiet:=s.lk.quiet }:=by
  unfold Fu at h0 ⊢;rw[aE (by rw[h];decide)]at h0 ⊢;by_cases h2:size<0\/size>4096
  ·rw[aF h2]at h0;cases h0
  rw[aE h2]at h0 ⊢;by_cases h3:s.due=false\/s.quiet>0
  ·rw[aF h3]at h0;cases h0
  rw[aE h3]at h0 ⊢;dsimp only at h0 ⊢;by_cases h4:(fitR s.lk.bits (Lm s).1 size).2≠0
  ·rw[aF h4]at h0;exact absurd h0 h4
  ·rw[aE h4]
 refine⟨e,?_⟩;rw[e];have hl:=hc.lk;obtain⟨-,-,-,-,hq,-⟩:=hl;refine Wf.2 ⟨hc.same rfl rfl rfl hc.u ⟨hq.1,bV _⟩ rfl,hu,hf,hm⟩
theorem Aw2{s:Rc}{p:Pc}(h:s.okB=true):(pollR s p).okB=true:=by
 obtain⟨hc,hu,hf,hm⟩:=Wf.1 h;unfold pollR;split
 ·exact Wf.2 ⟨hc.same rfl rfl rfl hc.n hc.q rfl,bV _,hf,hm⟩
 ·exact h
theorem Aq5{s:Rc}{x:Int}{l:List Pa}(hb:Bv s.lk.bits)(hf:Bt s.lk.bits s.first)(hx:Bt s.lk.bits x)(h:1<=s.place x):Rc.place { s with first:=s.behind s.first,parts:=l } x=s.place x-1:=by
 show way s.lk.bits (s.behind s.first) x=way s.lk.bits s.first x-1;have h:1<=way s.lk.bits s.first x:=h;unfold Rc.behind;unfold way Bt at*;rcases Cm hb with e|e|e|e|e<;>rw[e]at hf hx h ⊢ <;>omega
theorem Ari{s:Rc}(hb:Bv s.lk.bits)(n:Int):Bt s.lk.bits (s.behind n):=by
 unfold Rc.behind Bt;rcases Cm hb with e|e|e|e|e<;>rw[e]<;>omega
theorem Asu{s:Rc}{n:Int}(hb:Bv s.lk.bits)(hf:Bt s.lk.bits s.first)(hn:Bt s.lk.bits n)(h:s.place n<2^(s.lk.bits-1).toNat):s.place (s.behind n)=s.place n+1:=by
 have h1:=(Oc hb).1;unfold Rc.behind Rc.place way Bt at*;rcases Cm hb with e|e|e|e|e<;>rw[e]at hf hn h h1 ⊢ <;>omega
theorem Az7{s:Rc}{p:Pa}{l:List Pa}(h:Core s)(hp:s.parts=p::l)(hf:p.sn=s.first):Core { s with first:=s.behind s.first,parts:=l }:=by
 have hb:=h.lk.1;have h0:s.place p.sn=0:=by rw[hf];exact Qn s
 have hall:=h.all;have hasc:=h.asc;have hlast:=h.last;rw[hp]at hall hasc hlast;rw[cJ]at hasc;have hn1:1<=s.place s.next:=by have:=(hall p (by simp)).2.2;omega
 have hpl:∀x∈l,Rc.place { s with first:=s.behind s.first,parts:=l } x.sn=s.place x.sn-1:=fun x hx=>Aq5 hb h.f (hall x (by simp[hx])).2.1 (by have:=hasc.1 x hx;omega);have hpn:Rc.place { s with first:=s.behind s.first,parts:=l } s.next=s.place s.next-1:=Aq5 hb h.f h.n hn1;refine⟨h.lk,Ari hb _,h.n,h.u,?_,h.q,?_,?_,?_⟩
 ·show Rc.place { s with first:=s.behind s.first,parts:=l } s.next<=2^(s.lk.bits-1).toNat;rw[hpn];have:=h.half;omega
 ·intro x hx;have h2:=hall x (by simp[show x∈l from hx]);refine⟨h2.1,h2.2.1,?_⟩;show Rc.place { s with first:=s.behind s.first,parts:=l } x.sn<Rc.place { s with first:=s.behind s.first,parts:=l } s.next;rw[hpl x hx,hpn];have:=h2.2.2;omega
 ·exact hasc.2.imp_of_mem fun {x y} hx hy hxy=>by rw[hpl x hx,hpl y hy];omega
 ·show ((l.getLast?).map fun x=>Rc.place { s with first:=s.behind s.first,parts:=l } x.sn).getD (-1)=Rc.place { s with first:=s.behind s.first,parts:=l } s.next-1;rw[hpn];rw[List.getLast?_cons]at hlast;cases hg:l.getLast? with
  |none=>
   rw[hg]at hlast;simp only[eH,cM,cQ]at hlast;simp only[Option.map_none,eH];omega
  |some x=>
   rw[hg]at hlast;simp only[cQ,cM]at hlast;simp only[cM,cQ];rw[hpl x (List.mem_of_getLast? hg)];omega
theorem Awt:∀(l:List Pa) (s:Rc),s.parts=l->Core s->Core (Aea s)/\Amq (Aea s)
 | [],s,hs,h=>by
  have e:Aea s=s:=by
   unfold Aea;rw[hs];show ({ s with first:=s.first,parts:=[] }:Rc)=s;rw[<-hs]
  rw[e];exact⟨h,fun x hx=>by rw[hs]at hx;simp at hx⟩
 |p::l,s,hs,h=>by
  by_cases c:p.sn=s.first/\p.done=true
  ·have e:Aea s=Aea { s with first:=s.behind s.first,parts:=l }:=by
    unfold Aea;rw[hs,Mu,aF c];rfl
   rw[e];exact Awt l _ rfl (Az7 h hs c.1)
  ·have e:Aea s=s:=by
    unfold Aea;rw[hs,Mu,aE c];show ({ s with first:=s.first,parts:=p::l }:Rc)=s;rw[<-hs]
   rw[e];refine⟨h,fun x hx=>?_⟩;have hasc:=h.asc;rw[hs]at hx hasc;rw[cJ]at hasc;rcases bB.1 hx with rfl|hx
   ·exact fun hh=>c ⟨hh.2,hh.1⟩
   ·intro hh;have h1:=hasc.1 x hx;rw[hh.2,Qn]at h1;have:=Xb s p.sn;omega
theorem Bbr{s:Rc}(h:Core s):Core (Qa s)/\(Qa s).place (Qa s).upto<=(Qa s).place (Qa s).next/\Amq (Qa s):=by
 obtain⟨h1,h2⟩:=Awt _ s rfl h;have e:Qa s=Akc (Aea s):=rfl;rw[e];obtain⟨t,ht⟩:∃t,t=Aea s:=⟨_,rfl⟩;rw[<-ht]at h1 h2 ⊢;unfold Akc;by_cases c:t.place t.upto>t.place t.next
 ·rw[aF c];refine⟨h1.same rfl rfl rfl h1.f h1.q rfl,?_,h2⟩;show t.place t.first<=t.place t.next;rw[Qn];exact Xb t t.next
 ·rw[aE c];exact⟨h1,by omega,h2⟩
theorem Ak4{α:Type}(q:α->Bool):∀l:List α,(∀x∈l.take (l.takeWhile q).length,q x=true)/\∀x,(l.drop (l.takeWhile q).length).head? =some x->q x=false
 | []=>⟨fun x hx=>by simp at hx,fun x hx=>by simp at hx⟩
 |y::l=>by
  obtain⟨h1,h2⟩:=Ak4 q l;cases hy:q y with
  |false=>
   simp only[List.takeWhile_cons,hy];exact⟨fun x hx=>by simp at hx,fun x hx=>by simp at hx;rw[<-hx];exact hy⟩
  |true=>
   simp only[List.takeWhile_cons,hy,dO,aQ,dG,dH];refine⟨fun x hx=>?_,h2⟩;rcases bB.1 hx with rfl|hx
   ·exact hy
   ·exact h1 x hx
theorem Azy{s:Rc}(h:Core s){n:Int}(hn:Bt s.lk.bits n):(∀x∈s.parts.take (atP s n),s.place x.sn<s.place n)/\((Ho s n=false/\∀x∈s.parts.drop (atP s n),s.place n<s.place x.sn)\/
  ∃y l,Ho s n=true/\s.parts.drop (atP s n)=y::l/\s.parts[atP s n]?=some y/\y.sn=n/\∀x∈l,s.place n<s.place x.sn):=by
 obtain⟨h1,h2⟩:=Ak4 (fun p:Pa=>decide (s.place p.sn<s.place n)) s.parts;refine⟨fun x hx=>of_decide_eq_true (h1 x hx),?_⟩;have hasc:=h.asc.drop (i:=atP s n);have h2:∀x,(s.parts.drop (atP s n)).head? =some x->s.place n<=s.place x.sn:=fun x hx=>by have:=of_decide_eq_false (h2 x hx);omega
 have hgd:s.parts[atP s n]?=(s.parts.drop (atP s n)).head?:=by rw[List.head?_drop]
 cases hd:s.parts.drop (atP s n)with
 |nil=>
  left;refine⟨?_,fun x hx=>by simp at hx⟩;unfold Ho;rw[hgd,hd];rfl
 |cons y l=>
  rw[hd]at hasc h2 hgd;rw[cJ]at hasc;have h3:=h2 y rfl;have hy:y∈s.parts:=cD (i:=atP s n) (by rw[hd];simp);by_cases c:y.sn=n
  ·right;refine⟨y,l,?_,rfl,hgd,c,fun x hx=>?_⟩
   ·unfold Ho;rw[hgd];exact aM c
   ·have:=hasc.1 x hx;rw[c]at this;exact this
  ·left;have h4:s.place n≠s.place y.sn:=fun e=>c (Xm h.lk.1 (h.all y hy).2.1 hn e.symm);refine⟨?_,fun x hx=>?_⟩
   ·unfold Ho;rw[hgd];exact aI c
   ·rcases bB.1 hx with rfl|hx
    ·omega
    ·have:=hasc.1 x hx;omega
theorem Ao8{A:List Pa}{y:Pa}{B:List Pa}:(A++y::B).getLast? =some (B.getLast?.getD y):=by
 rw[List.getLast?_append,List.getLast?_cons];rfl
theorem Az9{s:Rc}{p:Pc}(h:Core s)(hp:p.ok s.lk.bits)(hr:Ek s p=0):Core (putP s p):=by
 obtain⟨hb,hsn,-,-,-,hpo,hpd,hpe⟩:=hp;have hsn:Bt s.lk.bits p.sn:=hsn;have hp3:(0<=p.off/\p.off<=2054)/\1<=p.data.length/\p.off+p.data.length<=2054:=⟨hpo,hpd,hpe⟩;have hold:s.place p.sn<2^(s.lk.bits-1).toNat:=by
  unfold Ek at hr;split at hr
  ·cases hr
  ·omega
 have hold':¬s.place p.sn>=2^(s.lk.bits-1).toNat:=by omega
 obtain⟨hA,hsp⟩:=Azy h hsn;obtain⟨A,hAe⟩:∃A,A=s.parts.take (atP s p.sn):=⟨_,rfl⟩;have hpl:s.parts=A++s.parts.drop (atP s p.sn):=by rw[hAe,bR]
 have hkl:atP s p.sn<=s.parts.length:=by
  have:=cI List.length (List.takeWhile_append_dropWhile (p:=fun p':Pa=>decide (s.place p'.sn<s.place p.sn)) (l:=s.parts));rw[aP]at this;show (s.parts.takeWhile _).length<=_;omega
 have hAl:A.length=atP s p.sn:=by rw[hAe,aU];omega
 obtain⟨y',hy'⟩:∃y',y'=if Lx (Dk s p) then Si p.sn else Dk s p:=⟨_,rfl⟩
 have hput:(putP s p).parts=(Mw s p).set (atP s p.sn) y':=by rw[hy'];rfl
 have key:∃(x:Pa) (B:List Pa),Ax9 x/\x.sn=p.sn/\Ee x p=false/\Dk s p=Es x p/\(putP s p).parts=A++y'::B/\(∀z∈B,z∈s.parts/\s.place p.sn<s.place z.sn)/\(B.Pairwise fun x y=>s.place x.sn<s.place y.sn)/\
  (B=[]->s.place p.sn>=s.place s.next\/s.place p.sn=s.place s.next-1)/\(B≠[]->B.getLast? =s.parts.getLast?):=by
  have hascd:=h.asc.drop (i:=atP s p.sn);have hlast:=h.last;rcases hsp with ⟨hf,hB⟩|⟨y,B,hf,hd,hg,hysn,hB⟩
  ·have hi:Mw s p=A++Iu p.sn::s.parts.drop (atP s p.sn):=by rw[Mw,aE (by rw[hf];decide),hAe]
   refine⟨Iu p.sn,s.parts.drop (atP s p.sn),Az2 _,rfl,Avi _ _ (by show 1<=p.off+p.data.length;omega),?_,?_,fun z hz=>⟨cD hz,hB z hz⟩,hascd,fun hn=>?_,fun hn=>?_⟩
   ·unfold Dk;rw[hi,List.getElem?_append_right (by omega),hAl,cL];rfl
   ·rw[hput,hi,cH _ _ (by omega),hAl,cL];rfl
   ·left;rw[hn,aL]at hpl;rw[hpl]at hlast;cases hg:A.getLast? with
    |none=>
     rw[hg]at hlast;simp only[Option.map_none,eH]at hlast;have:=Xb s p.sn;omega
    |some x=>
     rw[hg]at hlast;simp only[cM,cQ]at hlast;have:=hA x (by rw[<-hAe];exact List.mem_of_getLast? hg);omega
   ·rw[hpl,List.getLast?_append];rw[List.drop_append,hAl,cL,dQ,List.drop_of_length_le (by omega),aC];cases hg:(s.parts.drop (atP s p.sn)).getLast? with
    |none=>exact absurd (List.getLast?_eq_none_iff.1 hg) hn
    |some x=>rfl
  ·have hi:Mw s p=A++y::B:=by rw[Mw,aF hf,hpl,hd]
   rw[hd,cJ]at hascd;have hym:y∈s.parts:=bL hg;have hr2:=hr;unfold Ek at hr2;rw[aE hold',hg]at hr2;dsimp only at hr2;rw[aF hysn]at hr2;have hyd:y.done=false:=by
    cases hyd:y.done with
    |false=>rfl
    |true=>rw[hyd]at hr2;simp at hr2
   rw[aE (by rw[hyd];decide)]at hr2;have hyc:Ee y p=false:=by
    cases hyc:Ee y p with
    |false=>rfl
    |true=>rw[hyc]at hr2;simp at hr2
   refine⟨y,B,Bas hyd (h.all y hym).1,hysn,hyc,?_,?_,fun z hz=>⟨cD (i:=atP s p.sn) (by rw[hd];simp[hz]),hB z hz⟩,hascd.2,fun hn=>?_,fun hn=>?_⟩
   ·unfold Dk;rw[hi,List.getElem?_append_right (by omega),hAl,cL];rfl
   ·rw[hput,hi,cH _ _ (by omega),hAl,cL];rfl
   ·right;rw[hn]at hd;rw[hpl,hd,Ao8]at hlast;simp only[List.getLast?_nil,eH,cM,cQ,hysn]at hlast;exact hlast
   ·rw[hpl,hd,Ao8];cases hg2:B.getLast? with
    |none=>exact absurd (List.getLast?_eq_none_iff.1 hg2) hn
    |some x=>rfl
 obtain⟨x,B,hox,hxs,hxc,hmg,hparts,hBm,hBa,hB0,hB1⟩:=key;have hys:y'.sn=p.sn:=by
  rw[hy'];split
  ·rfl
  ·rw[hmg];exact hxs
 have hyp:paB y'=true:=by
  rw[hy'];by_cases hc:Lx (Dk s p)=true
  ·rw[aF hc];rfl
  ·rw[aE hc,hmg];exact Azl hox hxs hp3 hxc (by rw[<-hmg];simpa using hc)
 have hpl2:∀n,(putP s p).place n=s.place n:=fun _=>rfl;have hnx:(putP s p).next=if s.place p.sn>=s.place s.next then s.behind p.sn else s.next:=rfl
 have hpn:s.place (putP s p).next=if s.place p.sn>=s.place s.next then s.place p.sn+1 else s.place s.next:=by
  rw[hnx];split
  ·exact Asu hb h.f hsn hold
  ·rfl
 have hge:s.place s.next<=s.place (putP s p).next:=by rw[hpn];split<;>omega
 have hge2:s.place p.sn<s.place (putP s p).next:=by rw[hpn];split<;>omega
 refine⟨h.lk,h.f,?_,h.u,?_,h.q,?_,?_,?_⟩
 ·show Bt s.lk.bits (putP s p).next;rw[hnx];split
  ·exact Ari hb _
  ·exact h.n
 ·show s.place (putP s p).next<=2^(s.lk.bits-1).toNat;have:=h.half;rw[hpn];split<;>omega
 ·intro z hz;rw[hparts]at hz;show paB z=true/\Bt s.lk.bits z.sn/\s.place z.sn<s.place (putP s p).next;rcases aW.1 hz with hz|hz
  ·have:=h.all z (by rw[hpl];exact List.mem_append_left _ hz);exact⟨this.1,this.2.1,by omega⟩
  ·rcases bB.1 hz with rfl|hz
   ·exact⟨hyp,by rw[hys];exact hsn,by rw[hys];exact hge2⟩
   ·have:=h.all z (hBm z hz).1;exact⟨this.1,this.2.1,by omega⟩
 ·show (putP s p).parts.Pairwise fun x y=>s.place x.sn<s.place y.sn;rw[hparts,List.pairwise_append];refine⟨?_,cJ.2 ⟨fun z hz=>?_,hBa⟩,fun z hz u hu=>?_⟩
  ·have:=h.asc.take (i:=atP s p.sn);rwa[<-hAe]at this
  ·rw[hys];exact(hBm z hz).2
  ·have h1:=hA z (by rw[<-hAe];exact hz);rcases bB.1 hu with rfl|hu
   ·rw[hys];exact h1
   ·have:=(hBm u hu).2;omega
 ·show (((putP s p).parts.getLast?).map fun x=>s.place x.sn).getD (-1)=s.place (putP s p).next-1;rw[hparts,Ao8,hpn];simp only[cM,cQ];by_cases hBe:B=[]
  ·rw[hBe];simp only[List.getLast?_nil,eH,hys];rcases hB0 hBe with h1|h1
   ·rw[aF h1];omega
   ·rw[aE (by omega)];omega
  ·have h1:=hB1 hBe;cases hg:B.getLast? with
   |none=>rw[List.getLast?_eq_none_iff]at hg;exact absurd hg hBe
   |some z=>
    have hl:=h.last;rw[<-h1,hg]at hl;simp only[cM,cQ]at hl;have:=(hBm z (List.mem_of_getLast? hg)).2;rw[aE (by omega)];simp only[cQ];exact hl
theorem Bbv{s:Rc}{bs:List Int}(h:s.okB=true)(hg:∀b bs,(Ip b bs).2=0->(Ip b bs).1.ok b):(It s bs).1.okB=true:=by
 obtain⟨hc,hu,hf,hm⟩:=Wf.1 h;unfold It;rw[aE (by rw[h];decide)];dsimp only;by_cases h2:(Ip s.lk.bits bs).2≠0
 ·rw[aF h2];exact h
 rw[aE h2];by_cases h3:Ek s (Ip s.lk.bits bs).1≠0
 ·rw[aF h3];exact Aw2 h
 rw[aE h3];refine Aw2 ?_;have hk:=Az9 hc (hg _ _ (by simpa using h2)) (by simpa using h3);obtain⟨a1,a2,a3⟩:=Bbr hk;refine Au4 a1 a2 a3 ?_;have hw:=Bb4 hm;have e:∀t:Rc,(Qa t).mark=t.mark/\(Qa t).left=t.left/\(Qa t).lk=t.lk:=fun t=>by unfold Qa Akc;split<;>exact⟨rfl,rfl,rfl⟩
 obtain⟨e1,e2,e3⟩:=e (putP s (Ip s.lk.bits bs).1);unfold Azm;rw[e1,e2,e3];exact hw
theorem new_ok{l:Lk}(h:Ir l){f:Int}(hf:Bt l.bits f):Rc.okB ⟨l,f,f,f,-1,0,0,false,[]⟩=true:=by
 refine Wf.2 ⟨⟨h,hf,hf,hf,?_,⟨bV _,h.2.2.2.2.1.1⟩,fun x hx=>by simp at hx,.nil,?_⟩,bV _,fun x hx=>by simp at hx,rfl⟩
 ·have:=Oc h.1;rw[show Rc.place ⟨l,f,f,f,-1,0,0,false,[]⟩ f=0 from Qn _];show (0:Int)<=2^(l.bits-1).toNat;omega
 ·rw[show Rc.place ⟨l,f,f,f,-1,0,0,false,[]⟩ f=0 from Qn _];rfl
end Go.Sx
namespace Go.Proofs.YtmbppohkadmjgaaGreat
open Go.Sx Go.RowKit
set_option maxRecDepth 100000
def Bdk(seed:Int)(n:Nat):List Int:=(List.range n).map fun i:Nat=>(seed+7*(i:Int)+(i:Int)/16)%256
section
variable{g:Nat}{a:Option Addr}{c:Nat}{ts:List Int}{p:Nat}{w:World}{A:Nat->Prop}{P:World->Prop}
theorem Asj(hP:Held A w P)(hts:Rolls a ts P)(hB:(Hh g a c ts p).ok w)(hn:∀b,(Hh g a c ts p).at=some b->¬A b)(hp:p<=ts.length):Calls Tryz.prog Qx #[(.pointer (some ⟨g,0,none⟩))] w fun e w'=>∃(l:Lk) (p':Nat),e=.returned (.agg #[.int .i64 l.bits,.int .i64 l.every,.int .i64 l.poll,.int .i64 l.wait,.int .i64 l.quiet,.int .i64 l.tries])/\Ir l/\p'<=ts.length/\St A [g] w w' [Hh g a c ts p'] P:=by
 apply Ael;have H:St A [g] w w [Hh g a c ts p] P:=St.startM hP hB hn;refine H.alloc ?_;clear H;intro b w1 H1;refine Bcm H1 (i:=0) rfl hts hp fun v0 p1 w2 h0 hp1 H2=>?_;refine Rk H2 (i:=0) rfl hts hp1 (by omega) fun v1 p2 w3 _ h1 hp2 H3=>?_;have h1:=h1 (by omega);refine Ao (by omega) ?_;refine Rk H3 (i:=0) rfl hts hp2 (by omega) fun v2 p3 w4 _ h2 hp3 H4=>?_;have h2:=h2 (by omega);refine Ao (by omega) ?_;refine Rk H4 (i:=0) rfl hts hp3 (by omega) fun v3 p4 w5 _ h3 hp4 H5=>?_;have h3:=h3 (by omega);refine Ao (by omega) ?_;refine Rk H5 (i:=0) rfl hts hp4 (by omega) fun v4 p5 w6 _ h4 hp5 H6=>?_;have h4:=h4 (by omega);refine Rk H6 (i:=0) rfl hts hp5 (by omega) fun v5 p6 w7 _ h5 hp6 H7=>?_;have h5:=h5 (by omega);refine Ao (by omega) ?_;simp only[aD,aC,aA]at H7;refine H7.s 1 ?_;intro w8 H8;simp only[aB,aA]at H8;refine⟨_,_,_,_,_,_,H8.cells (i:=1) rfl,?_⟩;exact⟨⟨v0,1+v1,1+v2,1+v3,v4,1+v5⟩,p6,rfl,⟨h0,⟨by dsimp only;omega,by dsimp only;omega⟩,⟨by dsimp only;omega,by dsimp only;omega⟩,⟨by dsimp only;omega,by dsimp only;omega⟩,⟨by dsimp only;omega,by dsimp only;omega⟩,by dsimp only;omega,by dsimp only;omega⟩,hp6,St.dropLast (R:=[_]) H8⟩
end
section
variable{A0:Nat->Prop}{M:List Nat}{w0 w:World}{R:List Res}{P:World->Prop}{i g:Nat}{a:Option Addr}{c:Nat}{ts:List Int}{p:Nat}
end
section
variable{g:Nat}{a:Option Addr}{c:Nat}{ts:List Int}{p:Nat}{w:World}{A:Nat->Prop}{P:World->Prop}
theorem Amo{l:Lk}(hP:Held A w P)(hts:Rolls a ts P)(hB:(Hh g a c ts p).ok w)(hn:∀b,(Hh g a c ts p).at=some b->¬A b)(hp:p<=ts.length):Calls Tryz.prog Ml #[(.pointer (some ⟨g,0,none⟩)),(.agg #[.int .i64 l.bits,.int .i64 l.every,.int .i64 l.poll,.int .i64 l.wait,.int .i64 l.quiet,.int .i64 l.tries])] w fun e w'=>
  ∃(l:Lk) (p':Nat),e=.returned (.agg #[.int .i64 l.bits,.int .i64 l.every,.int .i64 l.poll,.int .i64 l.wait,.int .i64 l.quiet,.int .i64 l.tries])/\p'<=ts.length/\St A [g] w w' [Hh g a c ts p'] P:=by
 apply Ym;have H:St A [g] w w [Hh g a c ts p] P:=St.startM hP hB hn;refine H.alloc ?_;clear H;intro b w1 H1;refine H1.alloc ?_;clear H1;intro b1 w2 H2;refine H2.alloc ?_;clear H2;intro b2 w3 H3;simp only[aD,aC]at H3;refine Rk H3 (i:=0) rfl hts hp (by omega) fun v p1 w4 _ hv hp1 H4=>?_;have hv:=hv (by omega);simp only[aA]at H4;obtain⟨k,rfl⟩:=Xj hv.1;refine Jx ⟨by omega,by omega⟩ ?_;obtain⟨x,hx⟩:∃x:Int,([Value.int .i64 (-1),.int .i64 0,.int .i64 1,.int .i64 4,.int .i64 10,.int .i64 64,.int .i64 65,.int .i64 1000,.int .i64 1001,.int .i64 33]:List Value)[k]?=some (.int .i64 x):=by
  rcases (show k=0\/k=1\/k=2\/k=3\/k=4\/k=5\/k=6\/k=7\/k=8\/k=9 by omega)with rfl|rfl|rfl|rfl|rfl|rfl|rfl|rfl|rfl|rfl<;>exact⟨_,rfl⟩
 rw[Bd,aN,bK,dB];refine⟨x,H4.cell (i:=3) rfl hx,?_⟩;refine⟨fun w12=>∃(m:Lk) (p':Nat),p'<=ts.length/\St A [g] w w12 [Hh g a c ts p',.blk b Bz (Ax8 m),.blk b1 Bz (Ax8 ⟨0,0,0,0,0,0⟩)] P,?_,?_⟩
 ·rintro _ w12 ⟨m,p',hp',H12⟩;refine⟨_,_,_,_,_,_,H12.cells (i:=1) rfl,?_⟩;refine H12.s 2 ?_;clear H12;intro w13 H13;simp only[aB,aA]at H13;refine⟨_,_,_,_,_,_,H13.cells (i:=2) rfl,?_⟩;exact⟨m,p',rfl,hp',St.left (X:=[_]) H13⟩
 ·refine Rk H4 (i:=0) rfl hts hp1 (by omega) fun v2 p2 w5 _ hv2 hp2 H5=>?_;simp only[aA]at H5;have fin:∀ {w6:World} (m:Lk),St A [g] w w6 [Hh g a c ts p2,.blk b Bz (Ax8 m),.blk b1 Bz (Ax8 ⟨0,0,0,0,0,0⟩),.blk b2 Ib [Value.int .i64 (-1),.int .i64 0,.int .i64 1,.int .i64 4,.int .i64 10,.int .i64 64,.int .i64 65,.int .i64 1000,.int .i64 1001,.int .i64 33]] P->
   ∃(m:Lk) (p':Nat),p'<=ts.length/\St A [g] w w6 [Hh g a c ts p',.blk b Bz (Ax8 m),.blk b1 Bz (Ax8 ⟨0,0,0,0,0,0⟩)] P:=fun m H=>⟨m,p2,hp2,St.left (X:=[_,_,_]) H⟩
  refine Aw ?_;apply Aa<;>intro c4
  ·refine H5.U 1 ?_;intro w6 H6;simp only[aB,aA]at H6;exact fin { l with bits:=x } H6
  refine Aw ?_;apply Aa<;>intro c4
  ·refine H5.U 1 ?_;intro w6 H6;simp only[aB,aA]at H6;exact fin { l with every:=x } H6
  refine Aw ?_;apply Aa<;>intro c4
  ·refine H5.U 1 ?_;intro w6 H6;simp only[aB,aA]at H6;exact fin { l with poll:=x } H6
  refine Aw ?_;apply Aa<;>intro c4
  ·refine H5.U 1 ?_;intro w6 H6;simp only[aB,aA]at H6;exact fin { l with wait:=x } H6
  refine Aw ?_;apply Aa<;>intro c4
  ·refine H5.U 1 ?_;intro w6 H6;simp only[aB,aA]at H6;exact fin { l with quiet:=x } H6
  ·refine H5.U 1 ?_;intro w6 H6;simp only[aB,aA]at H6;exact fin { l with tries:=x } H6
end
theorem Am8{b:Int}{p:Pc}(h:Bytes p.data):Bytes (Qq b p).1:=by
 unfold Qq;split
 ·rename_i hp;have hf:=Pc.first_range hp;obtain⟨_,_,_,_,_,ho,_⟩:=hp;rw[Adi]at h ⊢;intro x hx;unfold Pc.bytes at hx;simp only[aW]at hx;rcases hx with (hx|hx)|hx
  ·simp at hx;omega
  ·split at hx
   ·simp at hx
   ·simp at hx;omega
  ·exact h x hx
 ·exact Ez
abbrev Bdi(g:Nat)(a:Option Addr)(c:Nat)(ts:List Int)(p b b1:Nat)(s:Rc)(sa:Option Addr)(sc:Nat)(T:List Res):List Res:=
 Hh g a c ts p::.blk b Ag (Bi s sa sc)::.blk b1 Ap [.int .i64 0,.int .i64 0,.int .i64 0,.int .i64 0,.slice none 0 0]::T
section
variable{g:Nat}{a:Option Addr}{c:Nat}{ts:List Int}{p:Nat}{w:World}{A:Nat->Prop}{P:World->Prop}{s:Rc}{sa:Option Addr}{sc:Nat}
end
end Go.Proofs.YtmbppohkadmjgaaGreat
