import Derived.Test.YtmbppohkadmjgaaGreatM20
import Derived.Test.YtmbppohkadmjgaaGreatM18
import Derived.Test.YtmbppohkadmjgaaGreatM21b
namespace Go.Sx
def Io(s:Sd)(r:Stt)(k:Nat):List Un×Bool:=(s.units.take k).foldl (Kj s (s.place r.upto) r.miss) ([],false)
theorem Adv{s:Sd}{r:Stt}{k:Nat}(h:k<s.units.length):Io s r (k+1)=Kj s (s.place r.upto) r.miss (Io s r k) s.units[k]:=by
 rw[Io,cA h,eC];rfl
theorem Au2(s:Sd)(t:Int)(M:List Rg)(p:List Un×Bool)(u:Un):(Kj s t M p u).1.length<=p.1.length+1:=by
 unfold Kj;split
 ·simp
 ·split
  ·split
   ·split<;>simp
   ·simp
  ·split
   ·omega
   ·simp
theorem Aib{s:Sd}{r:Stt}:∀ {k:Nat},k<=s.units.length->(Io s r k).1.length<=k
 |0,_=>by simp[Io]
 |k+1,h=>by
  rw[Adv (by omega)];have:=Au2 s (s.place r.upto) r.miss (Io s r k) (s.units[k]'(by omega));have:=Aib (s:=s) (r:=r) (k:=k) (by omega);omega
end Go.Sx
namespace Go.Proofs.YtmbppohkadmjgaaGreat
open Go.Sx Go.RowKit
set_option maxRecDepth 100000
def Ats(L O:List UP):Prop:=∀y∈O,∃x∈L,(y.a=x.a/\y.c=x.c)/\y.u.data=x.u.data
theorem Arn{L O:List UP}{w:World}(h:Ats L O)(hd:DatR L w):DatR O w:=fun y hy=>by
 obtain⟨x,hx,h1,h2⟩:=h y hy;rw[h1.1,h1.2,h2];exact hd x hx
theorem Apb{L O:List UP}{x v:UP}(h:Ats L O)(hx:x∈L)(h1:v.a=x.a/\v.c=x.c)(h2:v.u.data=x.u.data):Ats L (O++[v]):=fun y hy=>by
 rcases aW.1 hy with hy|hy
 ·exact h y hy
 ·simp at hy;subst hy;exact⟨x,hx,h1,h2⟩
theorem Xa{s:Sd}{r:Stt}{a ma:Option Addr}{c mc:Nat}{w:World}(hu:UnR w a s.units)(hl:SmU s.units)(hM:SlR (CE Bn) 3 w ma r.miss)(hml:r.miss.length<=1000000):Calls Tryz.prog Nf #[Sg s a c,(.agg #[.int .i64 r.upto,.slice ma r.miss.length mc])] w (RetO w (Sp s r).1 (Sp s r).2):=by
 apply Agf;have H:=St.nil w;refine H.alloc ?_;clear H;intro b0 w1 H1;refine H1.alloc ?_;clear H1;intro b1 w2 H2;refine H2.alloc ?_;clear H2;intro b2 w3 H3;simp only[aD,aC]at H3;replace H3:St (fun _=>False) [] w w3 [.blk b0 Ab (Aq s a c),.blk b1 Ai [.int .i64 r.upto,.slice ma r.miss.length mc],.blk b2 Ab (Aq .zero none 0)] (fun _=>True):=H3;refine⟨fun w8=>St (fun _=>False) [] w w8 [.blk b0 Ab (Aq s a c),.blk b1 Ai [.int .i64 r.upto,.slice ma r.miss.length mc],.blk b2 Ab (Aq .zero none 0)] (fun _=>True)/\s.okB=true/\okS s.lk.bits r,?_,?_⟩
 ·rintro _ w8 ⟨H8,hok,hst⟩;refine⟨_,_,_,_,_,_,_,_,_,_,_,_,_,_,_,H8.cells (i:=0) rfl,?_⟩;refine(My (Cf hu H8.below) hl).mono ?_;have hno:¬(s.okB=false\/¬okS s.lk.bits r):=fun h=>by
   rcases h with h|h
   ·rw[hok]at h;cases h
   ·exact h hst
  rw[Sp,aE hno];rintro _ w9 (⟨hE,rfl,hb9⟩|⟨hE,b,ua,uc,L,hL,rfl,K9⟩)
  ·have H9:=H8.pass hb9;clear H8;have hfa:s.failed=true:=by
    unfold Cq at hE;rw[aE (by rw[hok];decide)]at hE;split at hE
    ·assumption
    ·exact absurd rfl hE
   have hE16:Cq s=16:=by rw[Cq,aE (by rw[hok];decide),aF hfa]
   refine⟨_,_,rfl,?_⟩;refine An (fun _=>?_) (fun h=>absurd h hE);rw[aF hfa,hE16];exact Ab0 H9 (i:=2) rfl rfl
  have H9:=H8.callF K9;clear H8;refine⟨_,_,rfl,?_⟩;refine An (fun h=>absurd rfl h) (fun _=>?_);obtain⟨-,hfa⟩:=Amx hE;rw[aE (by rw[hfa];decide)];obtain⟨⟨hf1,hf2⟩,hlk,hsf,hsn,hall⟩:=Na hok;have hlen:L.length=s.units.length:=by rw[<-hL,bC]
  have hb:=hlk.1;simp only[aD,aC]at H9;refine H9.l 1 ?_;refine(Vo (H9.cells (i:=3) rfl) hb).mono ?_;rintro _ w11 ⟨rfl,hb11⟩;have H11:=H9.pass hb11;clear H9;refine⟨_,rfl,?_⟩;refine Bk ?_;rw[Bd];refine H11.l 3 ?_;refine(Vo (H11.cells (i:=3) rfl) hb).mono ?_;rintro _ w12 ⟨rfl,hb12⟩;have H12:=H11.pass hb12;clear H11;refine⟨_,rfl,?_⟩;apply Aa<;>intro c11
  ·rw[aF c11];exact Ab0 H12 (i:=2) rfl rfl
  rw[aE c11];obtain⟨t,ht⟩:∃t:Sd,t={ s with poll:=if s.poll≠ -1/\s.place s.poll<s.place r.upto then-1 else s.poll,left:=if s.poll≠ -1/\s.place s.poll<s.place r.upto then 0 else s.left }:=⟨_,rfl⟩;refine⟨fun w17=>St (fun _=>False) [] w w17 (.blk b0 Ab (Aq s a c)::.blk b1 Ai [.int .i64 r.upto,.slice ma r.miss.length mc]::.blk b2 Ab (Aq .zero none 0)::.blk b Bb (Aq t ua uc)::.els Ba Ae 5 ua uc L::L.map agR) (fun w=>DatR L w/\True),?_,?_⟩
  ·rintro _ w17 H17;have htu:t.units=s.units:=by rw[ht]
   have htl:t.lk=s.lk:=by rw[ht]
   have htf:t.first=s.first:=by rw[ht]
   have htn:t.next=s.next:=by rw[ht]
   have htfa:t.failed=false:=by rw[ht];exact hfa
   refine Bk ?_;rw[Bd];refine H17.m 3 ?_;have H17:=(H17.nilE Ba Ae 5);have H17:=St.lastTo (X:=[_,_,_,_,_]) H17;simp only[aD,aC]at H17;have hb':Bv t.lk.bits:=by rw[htl];exact hb
   have hpl:∀(fl:Bool) (n:Int),({ t with failed:=fl }:Sd).place n=s.place n:=fun fl n=>by rw[ht];rfl
   have e0:({ t with failed:=false }:Sd)=t:=by rw[ht]at htfa ⊢;cases s;simp at htfa ⊢;exact htfa
   refine⟨fun left_a left_l left_c x=>((s.units.length-x).toNat,fun w18=>∃(k:Nat) (O:List UP),x=k/\k<=s.units.length/\left_l=O.length/\O.map (·.u)=(Io s r k).1/\Ats L O/\
    St (fun _=>False) [] w w18 (.blk b0 Ab (Aq s a c)::.blk b1 Ai [.int .i64 r.upto,.slice ma r.miss.length mc]::.blk b2 Ab (Aq .zero none 0)::.blk b Bb (Aq { t with failed:=(Io s r k).2 } ua uc)::.els Ba Ae 5 ua uc L::.els Ba Ae 5 left_a left_c O::(O.map agR++(L.drop k).map agR)) (DatR L)),
    ⟨0,[],rfl,by omega,rfl,rfl,fun y hy=>by simp at hy,by
     have:(Io s r 0).2=false:=rfl;rw[this,e0];exact H17.imp fun _ h=>h.1⟩,?_⟩
   clear H17;rintro _ left_a left_l left_c x11 w18 ⟨k,O,rfl,hk,rfl,hO,hF,H18⟩;rw[show t.units.length=s.units.length by rw[htu]];have hOl:O.length<=k:=by have:=Aib (s:=s) (r:=r) hk;rw[<-hO,bC]at this;exact this
   apply Aa<;>intro c10
   ·have hlt:k<s.units.length:=by omega
    have hkL:k<L.length:=by omega
    obtain⟨x,hx⟩:∃x,x=L[k]:=⟨_,rfl⟩;have hxm:x∈L:=by rw[hx];exact aJ _
    have hxu:s.units[k]=x.u:=by rw[hx];simp[<-hL]
    have hmu:x.u∈s.units:=by rw[<-hxu];exact aJ _
    have hstep:=Adv (r:=r) hlt;rw[hxu]at hstep;have hdr:L.drop k=x::L.drop (k+1):=by rw[aR hkL,<-hx]
    rw[hdr,bS]at H18;have htr:=Rq (hall x.u hmu).1;have htr0:=hlk.2.2.2.2.2;obtain⟨f,hf⟩:∃f,f=(Io s r k).2:=⟨_,rfl⟩;rw[<-hf]at H18;obtain⟨p,hp⟩:∃p,p=Io s r k:=⟨_,rfl⟩;rw[<-hp]at hstep hO hf;obtain⟨g,hg,hg1,hg2⟩:=H18.rowSome (i:=4) rfl (by omega);subst hg;refine Jx ⟨by omega,by omega⟩ ?_;simp only[As6];have cx:=H18.cellsEl Bm (i:=4) rfl hkL;rw[<-hx]at cx;refine⟨_,_,_,_,_,_,_,_,_,cx,?_⟩;refine H18.alloc ?_;clear H18;intro b4 w19 H19;have H19:=St.lastTo (X:=[_,_,_,_,_,_]) H19;simp only[aD,aC]at H19;refine H19.s 6 ?_;clear H19;intro w20 H20;simp only[aB,aA]at H20;replace H20:St (fun _=>False) [] w w20 (.blk b0 Ab (Aq s a c)::.blk b1 Ai [.int .i64 r.upto,.slice ma r.miss.length mc]::.blk b2 Ab (Aq .zero none 0)::.blk b Bb (Aq { t with failed:=f } (some ⟨g,0,none⟩) uc)::.els Ba Ae 5 (some ⟨g,0,none⟩) uc L::.els Ba Ae 5 left_a left_c O::.blk b4 Ae (Mb x.u x.a x.c x.a2 x.c2)::(O.map agR++agR x::(L.drop (k+1)).map agR)) (DatR L):=H20;refine⟨_,_,_,_,_,_,_,_,_,H20.cells (i:=6) rfl,?_⟩;refine⟨_,_,_,_,H20.cells (i:=1) rfl,?_⟩;refine(Ag7 (hM.belowE H20.below) hml).mono ?_;rintro _ w21 ⟨qa,qc,rfl,K21⟩;have H21:=H20.callR K21;clear H20;have H21:=St.lastTo (X:=[_,_,_,_,_,_,_]) H21;simp only[aD,aC]at H21;refine⟨_,_,_,_,rfl,?_⟩;refine⟨fun w26=>∃(v:UP) (fl:Bool),Io s r (k+1)=(p.1++[v.u],fl)/\(v.a=x.a/\v.c=x.c)/\v.u.data=x.u.data/\
     St (fun _=>False) [] w w26 (.blk b0 Ab (Aq s a c)::.blk b1 Ai [.int .i64 r.upto,.slice ma r.miss.length mc]::.blk b2 Ab (Aq .zero none 0)::.blk b Bb (Aq { t with failed:=fl } (some ⟨g,0,none⟩) uc)::.els Ba Ae 5 (some ⟨g,0,none⟩) uc L::.els Ba Ae 5 left_a left_c O::.blk b4 Ae (Ba v)::(O.map agR++([agR v]++(L.drop (k+1)).map agR))) (DatR L),?_,?_⟩
    ·rintro _ w26 ⟨v,fl,hv,hva,hvd,H26⟩;refine⟨_,_,_,_,_,_,_,_,_,H26.cells (i:=6) rfl,?_⟩;refine H26.alloc ?_;clear H26;intro b5 w27 H27;refine H27.appEL [v] Bm (i:=5) rfl Gh rfl (by simp;omega) (by simp;omega) ?_;clear H27;intro x_a2 x_c2 w28 H28;simp only[aB,aA]at H28;have H28:=St.skip (X:=[_,_,_,_,_,_]) H28;simp only[aD,aC]at H28;refine Ao (by omega) ?_;refine⟨⟨k+1,O++[v],by omega,by omega,rfl,?_,Apb hF hxm hva hvd,?_⟩,by first|omega|(dsimp only;omega)⟩
     ·rw[bD,hO,hv];rfl
     ·rw[hv,bD,aZ];exact H28
    ·have keep:∀ {w':World},Io s r (k+1)=(p.1++[x.u],f)->St (fun _=>False) [] w w' (.blk b0 Ab (Aq s a c)::.blk b1 Ai [.int .i64 r.upto,.slice ma r.miss.length mc]::.blk b2 Ab (Aq .zero none 0)::.blk b Bb (Aq { t with failed:=f } (some ⟨g,0,none⟩) uc)::.els Ba Ae 5 (some ⟨g,0,none⟩) uc L::.els Ba Ae 5 left_a left_c O::.blk b4 Ae (Mb x.u x.a x.c x.a2 x.c2)::.els Bn Af 3 qa qc (Cu x.u r.miss).1::(O.map agR++agR x::(L.drop (k+1)).map agR)) (DatR L)->
      ∃(v:UP) (fl:Bool),Io s r (k+1)=(p.1++[v.u],fl)/\(v.a=x.a/\v.c=x.c)/\v.u.data=x.u.data/\St (fun _=>False) [] w w' (.blk b0 Ab (Aq s a c)::.blk b1 Ai [.int .i64 r.upto,.slice ma r.miss.length mc]::.blk b2 Ab (Aq .zero none 0)::.blk b Bb (Aq { t with failed:=fl } (some ⟨g,0,none⟩) uc)::.els Ba Ae 5 (some ⟨g,0,none⟩) uc L::.els Ba Ae 5 left_a left_c O::.blk b4 Ae (Ba v)::(O.map agR++([agR v]++(L.drop (k+1)).map agR))) (DatR L):=fun h H=>
      ⟨x,f,h,⟨rfl,rfl⟩,rfl,St.skip (X:=[_,_,_,_,_,_,_]) H⟩
     have new:∀ {w':World} {v:UP} {fl:Bool},Io s r (k+1)=(p.1++[v.u],fl)->(v.a=x.a/\v.c=x.c)->v.u.data=x.u.data->agR v=.els Bn Af 3 qa qc (Cu x.u r.miss).1->St (fun _=>False) [] w w' (.blk b0 Ab (Aq s a c)::.blk b1 Ai [.int .i64 r.upto,.slice ma r.miss.length mc]::.blk b2 Ab (Aq .zero none 0)::.blk b Bb (Aq { t with failed:=fl } (some ⟨g,0,none⟩) uc)::.els Ba Ae 5 (some ⟨g,0,none⟩) uc L::.els Ba Ae 5 left_a left_c O::.blk b4 Ae (Ba v)::.els Bn Af 3 qa qc (Cu x.u r.miss).1::(O.map agR++agR x::(L.drop (k+1)).map agR)) (DatR L)->
      ∃(v:UP) (fl:Bool),Io s r (k+1)=(p.1++[v.u],fl)/\(v.a=x.a/\v.c=x.c)/\v.u.data=x.u.data/\St (fun _=>False) [] w w' (.blk b0 Ab (Aq s a c)::.blk b1 Ai [.int .i64 r.upto,.slice ma r.miss.length mc]::.blk b2 Ab (Aq .zero none 0)::.blk b Bb (Aq { t with failed:=fl } (some ⟨g,0,none⟩) uc)::.els Ba Ae 5 (some ⟨g,0,none⟩) uc L::.els Ba Ae 5 left_a left_c O::.blk b4 Ae (Ba v)::(O.map agR++([agR v]++(L.drop (k+1)).map agR))) (DatR L):=fun {w' v fl} h h1 h2 h3 H=>by
      refine⟨v,fl,h,h1,h2,?_⟩;have H1:=St.newIn (X:=[_,_,_,_,_,_,_]) H;rw[<-aZ,show ∀(A B:List Res) (y z:Res),A++y::z::B=(A++[y])++z::B from fun A B y z=>by simp]at H1;have H2:=St.skip H1;rw[h3];simpa using H2
     refine H21.l 6 ?_;refine(Vo (H21.cells (i:=3) rfl) hb').mono ?_;rintro _ w22 ⟨rfl,hb22⟩;have H22:=H21.pass hb22;clear H21;refine⟨_,rfl,?_⟩;rw[hpl];refine Aw ?_;apply Aa<;>intro c8
     ·exact keep (by rw[hstep,Kj,aF c8,hf]) H22
     ·rw[Kj,aE (by omega)]at hstep;apply Al<;>intro c7
      ·rw[aF c7]at hstep;refine H22.m 6 ?_;refine Aw ?_;refine H22.U 6 ?_;clear H22;intro w23 H23;simp only[aB,aA]at H23;obtain⟨y,hy⟩:∃y:UP,y=⟨{ x.u with again:=(Cu x.u r.miss).1 },x.a,x.c,qa,qc⟩:=⟨_,rfl⟩;have e6:(Mb x.u x.a x.c x.a2 x.c2).set 4 (.slice qa (Cu x.u r.miss).1.length qc)=Ba y:=by rw[hy];rfl
       rw[e6]at H23;have eqn:y.u={ x.u with again:=(Cu x.u r.miss).1 }:=by rw[hy]
       have same:∀ {w':World},Io s r (k+1)=(p.1++[{ x.u with again:=(Cu x.u r.miss).1 }],p.2)->St (fun _=>False) [] w w' (.blk b0 Ab (Aq s a c)::.blk b1 Ai [.int .i64 r.upto,.slice ma r.miss.length mc]::.blk b2 Ab (Aq .zero none 0)::.blk b Bb (Aq { t with failed:=f } (some ⟨g,0,none⟩) uc)::.els Ba Ae 5 (some ⟨g,0,none⟩) uc L::.els Ba Ae 5 left_a left_c O::.blk b4 Ae (Ba y)::.els Bn Af 3 qa qc (Cu x.u r.miss).1::(O.map agR++agR x::(L.drop (k+1)).map agR)) (DatR L)->_:=fun {w'} h H=>
        new (w':=w') (v:=y) (fl:=f) (by rw[h,eqn,hf]) (by rw[hy];exact⟨rfl,rfl⟩) (by rw[hy]) (by rw[hy];rfl) H
       apply Aa<;>intro c5
       ·apply Aa<;>intro c4
        ·rw[aF ⟨by omega,by omega⟩]at hstep;refine Oy b 0 b4 0 w23 ?_;refine H23.drew ?_;clear H23;intro w24 H24;refine H24.ld (i:=6) (x:=x.u.tries) rfl (by rw[hy];rfl) ?_;refine H24.l 3 ?_;rw[<-htl]at hstep;apply Aa<;>intro c9
         ·rw[aF c9]at hstep;refine H24.U 3 ?_;clear H24;intro w25 H25;simp only[aB,aA]at H25;exact⟨rfl,new (v:=y) (fl:=true) (by rw[hstep,eqn]) (by rw[hy];exact⟨rfl,rfl⟩) (by rw[hy]) (by rw[hy];rfl) H25⟩
         ·rw[aE c9]at hstep;refine H24.ld (i:=6) (x:=x.u.tries) rfl (by rw[hy];rfl) ?_;refine Ao (by omega) ?_;refine H24.set (i:=6) rfl (by rw[hy];show 0+3<5;decide) ?_;clear H24;intro w25 H25;simp only[aB,aA]at H25;obtain⟨z,hz⟩:∃z:UP,z=⟨{ x.u with again:=(Cu x.u r.miss).1,tries:=x.u.tries+1 },x.a,x.c,qa,qc⟩:=⟨_,rfl⟩;have e7:(Ba y).set (0+3) (.int .i64 (x.u.tries+1))=Ba z:=by rw[hy,hz];rfl
          rw[e7]at H25;exact⟨rfl,new (v:=z) (fl:=f) (by rw[hstep,hz,hf]) (by rw[hz];exact⟨rfl,rfl⟩) (by rw[hz]) (by rw[hz];rfl) H25⟩
        ·rw[aE (by omega)]at hstep;exact same hstep H23
       ·rw[aE (by omega)]at hstep;exact same hstep H23
      ·rw[aE (by rw[c7];decide)]at hstep;refine⟨_,_,_,_,_,_,_,_,_,H22.cells (i:=6) rfl,?_⟩;refine(sender_whole_ct (u:=x.u) (a:=x.a) (c:=x.c) (a2:=x.a2) (c2:=x.c2)).mono ?_;rintro _ w25 ⟨rfl,hb25⟩;have H25:=H22.pass hb25;clear H22;refine⟨_,rfl,?_⟩;apply Aa<;>intro c6
       ·rw[aF c6]at hstep;refine Ao (by omega) ?_;have H26:=St.skip (X:=[_,_,_,_,_,_,_]) H25;have H27:=St.skip (X:=[_,_,_,_,_,_]) H26;simp only[aD,aC]at H27;have H28:=St.skip (X:=((.blk b0 Ab (Aq s a c)::.blk b1 Ai [.int .i64 r.upto,.slice ma r.miss.length mc]::.blk b2 Ab (Aq .zero none 0)::.blk b Bb (Aq { t with failed:=f } (some ⟨g,0,none⟩) uc)::.els Ba Ae 5 (some ⟨g,0,none⟩) uc L::.els Ba Ae 5 left_a left_c O::O.map agR):List Res)) H27;refine⟨⟨k+1,O,by omega,by omega,rfl,by rw[hstep];exact hO,hF,?_⟩,by first|omega|(dsimp only;omega)⟩;rw[hstep,<-hf];simpa using H28
       ·rw[aE c6]at hstep;exact keep (by rw[hstep,hf]) H25
   ·obtain rfl:k=s.units.length:=by omega
    have hfull:Io s r s.units.length=s.units.foldl (Kj s (s.place r.upto) r.miss) ([],false):=by rw[Io,bI]
    obtain⟨p,hp⟩:∃p,p=Io s r s.units.length:=⟨_,rfl⟩;rw[<-hp]at hO H18 hfull;have hOn:O.length=p.1.length:=by rw[<-hO,bC]
    rw[List.drop_of_length_le (by omega),List.map_nil,aL]at H18;have hT:Ad3 s r={ t with units:=p.1,failed:=p.2,first:=(match p.1 with|u::_=>u.sn| []=>s.next) }:=by rw[ht,hfull];rfl
    refine Bk ?_;rw[Bd];refine H18.ld (i:=3) (x:=t.next) rfl rfl ?_;refine Bk ?_;rw[Bd];refine H18.U 3 ?_;clear H18;intro w32 H32;simp only[aB,aA]at H32;refine Bk ?_;rw[Bd];refine H32.U 3 ?_;clear H32;intro w33 H33;simp only[aB,aA]at H33;have fin:∀ {w':World} {x:Sd},Ad3 s r=x->O.map (·.u)=x.units->St (fun _=>False) [] w w' (.blk b0 Ab (Aq s a c)::.blk b1 Ai [.int .i64 r.upto,.slice ma r.miss.length mc]::.blk b2 Ab (Aq .zero none 0)::.blk b Bb (Aq x left_a left_c)::.els Ba Ae 5 ua uc L::.els Ba Ae 5 left_a left_c O::O.map agR) (DatR L)->
     Ad w' ⟨b2,0,none⟩ 0 (Aq x left_a left_c) fun w4=>
      ∃r_0 r_1 r_2 r_3 r_4 r_5 r_6 r_7:Int,∃r_8_a:Option Addr,∃r_8_l r_8_c:Nat,∃r_9 r_10 r_11:Int,∃r_12:Bool,
       cellsAt w4 ⟨b2,0,none⟩ 0 [(.int .i64 r_0),(.int .i64 r_1),(.int .i64 r_2),(.int .i64 r_3),(.int .i64 r_4),(.int .i64 r_5),(.int .i64 r_6),(.int .i64 r_7),(.slice r_8_a r_8_l r_8_c),(.int .i64 r_9),(.int .i64 r_10),(.int .i64 r_11),(.bool r_12)]/\
       RetO w (Ad3 s r) 0 (.returned (.tuple #[(.agg #[.int .i64 r_0,.int .i64 r_1,.int .i64 r_2,.int .i64 r_3,.int .i64 r_4,.int .i64 r_5,.int .i64 r_6,.int .i64 r_7,.slice r_8_a r_8_l r_8_c,.int .i64 r_9,.int .i64 r_10,.int .i64 r_11,.bool r_12]),(.int .i64 0)])) w4:=fun {w' x} hx hu H=>by
     rw[hx];exact Ahj (x:=x) (a:=left_a) (c:=left_c) (L:=O) (i:=2) H rfl rfl hu fun w4 H4=>(H4.sub (fun i=>i+5) (fun i r hi=>hi) (fun i j _ _ h=>by omega)).imp fun w h=>Arn hF h
    apply Aa<;>intro c9
    ·obtain⟨g',hg',_,_⟩:=H33.rowSome (i:=5) rfl (by omega);subst hg';have hO0:0<O.length:=by omega
     refine Jx ⟨by omega,by omega⟩ ?_;have c0:=H33.cellEl Bm (i:=5) rfl hO0 (j:=0) (v:=.int .i64 O[0].u.sn) (by decide) rfl;refine⟨_,by rw[show ((0:Int).toNat*5)=0 from rfl,Bd];exact c0,?_⟩;refine Bk ?_;rw[Bd];refine H33.U 3 ?_;clear H33;intro w34 H34;simp only[aB,aA]at H34;obtain⟨x,hx⟩:∃x:Sd,x={ t with units:=p.1,failed:=p.2,first:=O[0].u.sn }:=⟨_,rfl⟩;have hTx:Ad3 s r=x:=by
      rw[hT,hx];have:p.1=O[0].u::(O.drop 1).map (·.u):=by rw[<-hO,<-bS (f:=fun y:UP=>y.u),<-aR hO0];rfl
      rw[this]
     have e:((((Aq { t with failed:=p.2 } ua uc).set (0+8) (.slice (some ⟨g',0,none⟩) O.length left_c)).set (0+6) (.int .i64 t.next)).set (0+6) (.int .i64 O[0].u.sn))=Aq x (some ⟨g',0,none⟩) left_c:=by
      rw[hx,hOn];rfl
     rw[e]at H34;refine Bk ?_;refine⟨_,_,_,_,_,_,_,_,_,_,_,_,_,_,_,H34.cells (i:=3) rfl,?_⟩;exact fin hTx (by rw[hx];exact hO) H34
    ·have hO0:O=[]:=aK (by omega);obtain⟨x,hx⟩:∃x:Sd,x={ t with units:=p.1,failed:=p.2,first:=t.next }:=⟨_,rfl⟩;have hTx:Ad3 s r=x:=by
      rw[hT,hx];have:p.1=[]:=by rw[<-hO,hO0];rfl
      rw[this,htn]
     have e:(((Aq { t with failed:=p.2 } ua uc).set (0+8) (.slice left_a O.length left_c)).set (0+6) (.int .i64 t.next))=Aq x left_a left_c:=by
      rw[hx,hOn];rfl
     rw[e]at H33;refine Bk ?_;refine⟨_,_,_,_,_,_,_,_,_,_,_,_,_,_,_,H33.cells (i:=3) rfl,?_⟩;exact fin hTx (by rw[hx];exact hO) H33
  ·refine Bk ?_;rw[Bd];refine H12.l 3 ?_;apply An<;>intro c3
   ·refine Bk ?_;rw[Bd];refine H12.l 3 ?_;refine(Vo (H12.cells (i:=3) rfl) hb).mono ?_;rintro _ w14 ⟨rfl,hb14⟩;have H14:=H12.pass hb14;clear H12;refine⟨_,rfl,?_⟩;apply Aa<;>intro c2
    ·refine Bk ?_;rw[Bd];refine H14.U 3 ?_;clear H14;intro w15 H15;simp only[aB,aA]at H15;refine Bk ?_;rw[Bd];refine H15.U 3 ?_;clear H15;intro w16 H16;simp only[aB,aA]at H16;rw[ht,aF ⟨c3,c2⟩,aF ⟨c3,c2⟩];exact H16
    ·rw[ht,aE (fun h=>c2 h.2),aE (fun h=>c2 h.2)];exact H14
   ·rw[ht,aE (fun h=>h.1 c3),aE (fun h=>h.1 c3)];exact H12
 ·refine⟨_,_,_,_,_,_,_,_,_,_,_,_,_,_,_,H3.cells (i:=0) rfl,?_⟩;refine(Aag (Cf hu H3.below) hl).mono ?_;rintro _ w4 ⟨rfl,hb4⟩;have H4:=H3.pass hb4;clear H3;refine⟨_,rfl,?_⟩;apply Bq<;>intro c1
  ·rw[Sp,aF (.inl c1)];exact Ab0 H4 (i:=2) rfl rfl
  ·refine H4.l 0 ?_;refine⟨_,_,_,_,H4.cells (i:=1) rfl,?_⟩;refine(Sc (hM.belowE H4.below) (by omega)).mono ?_;rintro _ w6 ⟨rfl,hb6⟩;have H6:=H4.pass hb6;clear H4;refine⟨_,rfl,?_⟩;apply An<;>intro c
   ·rw[Sp,aF (.inr c)];exact Ab0 H6 (i:=2) rfl rfl
   ·exact⟨H6,c1,c⟩
end Go.Proofs.YtmbppohkadmjgaaGreat
namespace Go.Sx
theorem Aym{s:Sd}(h:s.okB=true):s.poll≠ -1↔0<=s.poll:=by
 obtain⟨-,-,-,-,hall⟩:=Na h;unfold Sd.okB at h;simp only[aH]at h;have h2:=h.2;split at h2
 ·omega
 ·simp only[aH]at h2;obtain⟨u,hu,hq⟩:=dF.1 h2.1;simp only[aO]at hq;have h1:=(hall u hu).1;unfold unB at h1;simp only[aH,aO]at h1;have h3:=h1.1.1.1;unfold Bt at h3;omega
end Go.Sx
namespace Go.Proofs.YtmbppohkadmjgaaGreat
open Go.Sx Go.RowKit
set_option maxRecDepth 100000
theorem Aad{s:Sd}{r:Stt}{a ma:Option Addr}{c mc:Nat}{w:World}(hu:UnR w a s.units)(hl:SmU s.units)(hM:SlR (CE Bn) 3 w ma r.miss)(hml:r.miss.length<=1000000):Calls Tryz.prog Ow #[Sg s a c,(.agg #[.int .i64 r.upto,.slice ma r.miss.length mc])] w (RetO w (Sp s r).1 (Sp s r).2):=by
 apply Ahb;have H:=St.nil w;refine H.alloc ?_;clear H;intro b0 w1 H1;refine H1.alloc ?_;clear H1;intro b1 w2 H2;refine H2.alloc ?_;clear H2;intro b2 w3 H3;simp only[aD,aC]at H3;replace H3:St (fun _=>False) [] w w3 [.blk b0 Ab (Aq s a c),.blk b1 Ai [.int .i64 r.upto,.slice ma r.miss.length mc],.blk b2 Ab (Aq .zero none 0)] (fun _=>True):=H3;refine⟨fun x1 w6=>St (fun _=>False) [] w w6 [.blk b0 Ab (Aq s a c),.blk b1 Ai [.int .i64 r.upto,.slice ma r.miss.length mc],.blk b2 Ab (Aq .zero none 0)] (fun _=>True)/\(x1=true↔s.okB=false\/¬okS s.lk.bits r),?_,?_⟩
 ·rintro _ x1 w6 ⟨H6,hj⟩;apply Al<;>intro c13
  ·rw[Sp,aF (hj.1 c13)];exact Ab0 H6 (i:=2) rfl rfl
  have hno:¬(s.okB=false\/¬okS s.lk.bits r):=fun h=>by rw[hj.2 h]at c13;cases c13
  have hok:s.okB=true:=by
   cases h:s.okB
   ·exact absurd (.inl h) hno
   ·rfl
  rw[Sp,aE hno];refine H6.B 0 ?_;apply Al<;>intro c12
  ·rw[aF c12];exact Ab0 H6 (i:=2) rfl rfl
  have hfa:s.failed=false:=c12;rw[aE (by rw[hfa];decide)];obtain⟨hfit,hlk,hsf,hsn,hall⟩:=Na hok;have hf1:=hfit.1;have hb:=hlk.1;refine H6.l 0 ?_;refine H6.l 0 ?_;refine H6.l 1 ?_;refine(Fe hb).mono ?_;rintro _ w9 ⟨rfl,hb9⟩;have H9:=H6.pass hb9;clear H6;refine⟨_,rfl,?_⟩;refine H9.l 0 ?_;refine H9.l 0 ?_;refine(Fe hb).mono ?_;rintro _ w10 ⟨rfl,hb10⟩;have H10:=H9.pass hb10;clear H9;refine⟨_,rfl,?_⟩;apply Aa<;>intro c11
  ·rw[aF c11];exact Ab0 H10 (i:=2) rfl rfl
  rw[aE c11];refine⟨_,_,_,_,_,_,_,_,_,_,_,_,_,_,_,H10.cells (i:=0) rfl,?_⟩;refine(Mx (Cf hu H10.below) hfit).mono ?_;rintro _ w12 ⟨oa,oc,L1,hL1,rfl,K12⟩;have H12:=H10.pass K12.below;clear H10 K12;refine⟨_,_,_,_,_,_,_,_,_,_,_,_,_,_,_,rfl,?_⟩;refine H12.alloc ?_;clear H12;intro b3 w13 H13;simp only[aD,aC]at H13;refine H13.s 3 ?_;clear H13;intro w14 H14;simp only[aB,aA]at H14;refine H14.U 3 ?_;clear H14;intro w15 H15;simp only[aB,aA]at H15;refine⟨_,_,_,_,_,_,_,_,_,_,_,_,_,_,_,H15.cells (i:=0) rfl,?_⟩;refine(Mx (Cf hu H15.below) hfit).mono ?_;rintro _ w16 ⟨ua,uc,L,hL,rfl,K16⟩;have hlen:L.length=s.units.length:=by rw[<-hL,bC]
  have H16:=H15.callF K16;clear H15;refine⟨_,_,_,_,_,_,_,_,_,_,_,_,_,_,_,rfl,?_⟩;refine H16.alloc ?_;clear H16;intro b4 w17 H17;have H17:=St.lastTo (X:=[_,_,_,_]) H17;simp only[aD,aC]at H17;refine H17.s 4 ?_;clear H17;intro w18 H18;simp only[aB,aA]at H18;have H18:=(H18.nilE Ba Ae 5);have H18:=St.lastTo (X:=[_,_,_,_,_,_]) H18;simp only[aD,aC]at H18;refine⟨fun i=>((s.units.length-i).toNat,fun w19=>∃(k:Nat) (O:List UP) (la:Option Addr) (lc:Nat),i=k/\k<=s.units.length/\O.map (·.u)=(Io s r k).1/\Ats L O/\
   St (fun _=>False) [] w w19 (.blk b0 Ab (Aq s a c)::.blk b1 Ai [.int .i64 r.upto,.slice ma r.miss.length mc]::.blk b2 Ab (Aq .zero none 0)::.blk b3 Ab (Aq { s with units:=(Io s r k).1,failed:=(Io s r k).2 } la lc)::.blk b4 Ab (Aq s ua uc)::.els Ba Ae 5 ua uc L::.els Ba Ae 5 la lc O::(O.map agR++(L.drop k).map agR)) (DatR L)),⟨0,[],none,0,rfl,by omega,rfl,fun y hy=>by simp at hy,by
    have e1:(Io s r 0).2=s.failed:=hfa.symm;have e2:(Io s r 0).1=[]:=rfl;rw[e1,e2];exact H18.imp fun _ h=>h.1⟩,?_⟩
  clear H18;rintro _ i w19 ⟨k,O,la,lc,rfl,hk,hO,hF,H19⟩;have hOl:O.length<=k:=by have:=Aib (s:=s) (r:=r) hk;rw[<-hO,bC]at this;exact this
  have hOn:O.length=(Io s r k).1.length:=by rw[<-hO,bC]
  refine H19.m 4 ?_;apply Aa<;>intro c10
  ·have hlt:k<s.units.length:=by omega
   have hkL:k<L.length:=by omega
   obtain⟨x,hx⟩:∃x,x=L[k]:=⟨_,rfl⟩;have hxm:x∈L:=by rw[hx];exact aJ _
   have hxu:s.units[k]=x.u:=by rw[hx];simp[<-hL]
   have hmu:x.u∈s.units:=by rw[<-hxu];exact aJ _
   have hstep:=Adv (r:=r) hlt;rw[hxu]at hstep;have hdr:L.drop k=x::L.drop (k+1):=by rw[aR hkL,<-hx]
   rw[hdr,bS]at H19;have htr:=Rq (hall x.u hmu).1;have htr0:=hlk.2.2.2.2.2;obtain⟨p,hp⟩:∃p,p=Io s r k:=⟨_,rfl⟩;rw[<-hp]at hstep hO H19 hOn;refine H19.m 4 ?_;obtain⟨g,hg,hg1,hg2⟩:=H19.rowSome (i:=5) rfl (by omega);subst hg;refine Jx ⟨by omega,by omega⟩ ?_;simp only[As6];have cx:=H19.cellsEl Bm (i:=5) rfl hkL;rw[<-hx]at cx;refine⟨_,_,_,_,_,_,_,_,_,cx,?_⟩;refine H19.alloc ?_;clear H19;intro b6 w20 H20;have H20:=St.lastTo (X:=[_,_,_,_,_,_,_]) H20;simp only[aD,aC]at H20;refine H20.s 7 ?_;clear H20;intro w21 H21;simp only[aB,aA]at H21;replace H21:St (fun _=>False) [] w w21 (.blk b0 Ab (Aq s a c)::.blk b1 Ai [.int .i64 r.upto,.slice ma r.miss.length mc]::.blk b2 Ab (Aq .zero none 0)::.blk b3 Ab (Aq { s with units:=p.1,failed:=p.2 } la lc)::.blk b4 Ab (Aq s (some ⟨g,0,none⟩) uc)::.els Ba Ae 5 (some ⟨g,0,none⟩) uc L::.els Ba Ae 5 la lc O::.blk b6 Ae (Ba x)::(O.map agR++agR x::(L.drop (k+1)).map agR)) (DatR L):=H21;refine⟨fun w27=>∃(v:UP) (fl:Bool),Io s r (k+1)=(p.1++[v.u],fl)/\(v.a=x.a/\v.c=x.c)/\v.u.data=x.u.data/\
    St (fun _=>False) [] w w27 (.blk b0 Ab (Aq s a c)::.blk b1 Ai [.int .i64 r.upto,.slice ma r.miss.length mc]::.blk b2 Ab (Aq .zero none 0)::.blk b3 Ab (Aq { s with units:=p.1,failed:=fl } la lc)::.blk b4 Ab (Aq s (some ⟨g,0,none⟩) uc)::.els Ba Ae 5 (some ⟨g,0,none⟩) uc L::.els Ba Ae 5 la lc O::.blk b6 Ae (Ba v)::(O.map agR++([agR v]++(L.drop (k+1)).map agR))) (DatR L),?_,?_⟩
   ·rintro _ w27 ⟨v,fl,hv,hva,hvd,H27⟩;refine H27.m 3 ?_;refine⟨_,_,_,_,_,_,_,_,_,H27.cells (i:=7) rfl,?_⟩;refine H27.alloc ?_;clear H27;intro b7 w28 H28;rw[<-hOn];refine H28.appEL [v] Bm (i:=6) rfl Gh rfl (by simp;omega) (by simp;omega) ?_;clear H28;intro x_a5 x_c5 w29 H29;simp only[aB,aA]at H29;have H29:=St.skip (X:=[_,_,_,_,_,_,_]) H29;simp only[aD,aC]at H29;refine H29.U 3 ?_;clear H29;intro w30 H30;simp only[aB,aA]at H30;refine Ao (by omega) ?_;have e3:(Aq { s with units:=p.1,failed:=fl } la lc).set 8 (.slice x_a5 (O++[v]).length x_c5)=Aq { s with units:=p.1++[v.u],failed:=fl } x_a5 x_c5:=by
     rw[show (O++[v]).length=(p.1++[v.u]).length by simp[hOn]];rfl
    rw[e3]at H30;refine⟨⟨k+1,O++[v],x_a5,x_c5,by omega,by omega,?_,Apb hF hxm hva hvd,?_⟩,by first|omega|(dsimp only;omega)⟩
    ·rw[bD,hO,hv];rfl
    ·rw[hv,bD,aZ];exact H30
   ·have keep:∀ {w':World},Io s r (k+1)=(p.1++[x.u],p.2)->St (fun _=>False) [] w w' (.blk b0 Ab (Aq s a c)::.blk b1 Ai [.int .i64 r.upto,.slice ma r.miss.length mc]::.blk b2 Ab (Aq .zero none 0)::.blk b3 Ab (Aq { s with units:=p.1,failed:=p.2 } la lc)::.blk b4 Ab (Aq s (some ⟨g,0,none⟩) uc)::.els Ba Ae 5 (some ⟨g,0,none⟩) uc L::.els Ba Ae 5 la lc O::.blk b6 Ae (Ba x)::(O.map agR++agR x::(L.drop (k+1)).map agR)) (DatR L)->
     ∃(v:UP) (fl:Bool),Io s r (k+1)=(p.1++[v.u],fl)/\(v.a=x.a/\v.c=x.c)/\v.u.data=x.u.data/\St (fun _=>False) [] w w' (.blk b0 Ab (Aq s a c)::.blk b1 Ai [.int .i64 r.upto,.slice ma r.miss.length mc]::.blk b2 Ab (Aq .zero none 0)::.blk b3 Ab (Aq { s with units:=p.1,failed:=fl } la lc)::.blk b4 Ab (Aq s (some ⟨g,0,none⟩) uc)::.els Ba Ae 5 (some ⟨g,0,none⟩) uc L::.els Ba Ae 5 la lc O::.blk b6 Ae (Ba v)::(O.map agR++([agR v]++(L.drop (k+1)).map agR))) (DatR L):=fun h H=>⟨x,p.2,h,⟨rfl,rfl⟩,rfl,H⟩
    have new:∀ {w':World} {v:UP} {fl:Bool} {qa:Option Addr} {qc:Nat},Io s r (k+1)=(p.1++[v.u],fl)->(v.a=x.a/\v.c=x.c)->v.u.data=x.u.data->agR v=.els Bn Af 3 qa qc (Cu x.u r.miss).1->St (fun _=>False) [] w w' (.blk b0 Ab (Aq s a c)::.blk b1 Ai [.int .i64 r.upto,.slice ma r.miss.length mc]::.blk b2 Ab (Aq .zero none 0)::.blk b3 Ab (Aq { s with units:=p.1,failed:=fl } la lc)::.blk b4 Ab (Aq s (some ⟨g,0,none⟩) uc)::.els Ba Ae 5 (some ⟨g,0,none⟩) uc L::.els Ba Ae 5 la lc O::.blk b6 Ae (Ba v)::.els Bn Af 3 qa qc (Cu x.u r.miss).1::(O.map agR++agR x::(L.drop (k+1)).map agR)) (DatR L)->
     ∃(v:UP) (fl:Bool),Io s r (k+1)=(p.1++[v.u],fl)/\(v.a=x.a/\v.c=x.c)/\v.u.data=x.u.data/\St (fun _=>False) [] w w' (.blk b0 Ab (Aq s a c)::.blk b1 Ai [.int .i64 r.upto,.slice ma r.miss.length mc]::.blk b2 Ab (Aq .zero none 0)::.blk b3 Ab (Aq { s with units:=p.1,failed:=fl } la lc)::.blk b4 Ab (Aq s (some ⟨g,0,none⟩) uc)::.els Ba Ae 5 (some ⟨g,0,none⟩) uc L::.els Ba Ae 5 la lc O::.blk b6 Ae (Ba v)::(O.map agR++([agR v]++(L.drop (k+1)).map agR))) (DatR L):=fun {w' v fl qa qc} h h1 h2 h3 H=>by
     refine⟨v,fl,h,h1,h2,?_⟩;have H1:=St.newIn (X:=[_,_,_,_,_,_,_,_]) H;rw[<-aZ,show ∀(A B:List Res) (y z:Res),A++y::z::B=(A++[y])++z::B from fun A B y z=>by simp]at H1;have H2:=St.skip H1;rw[h3];simpa using H2
    refine H21.l 0 ?_;refine H21.l 7 ?_;refine(Fe hb).mono ?_;rintro _ w22 ⟨rfl,hb22⟩;have H22:=H21.pass hb22;clear H21;refine⟨_,rfl,?_⟩;apply Aa<;>intro c6
    ·rw[Kj,aE (by omega)]at hstep;refine⟨_,_,_,_,_,_,_,_,_,H22.cells (i:=7) rfl,?_⟩;refine⟨_,_,_,_,H22.cells (i:=1) rfl,?_⟩;refine(Aki (u:=x.u) (a1:=x.a) (c1:=x.c) (a2:=x.a2) (c2:=x.c2) (hM.belowE H22.below) hml).mono ?_;rintro _ w23 ⟨qa,qc,rfl,K23⟩;have H23:=H22.callR K23;clear H22;have H23:=St.lastTo (X:=[_,_,_,_,_,_,_,_]) H23;simp only[aD,aC]at H23;refine⟨_,_,_,_,rfl,?_⟩;refine⟨fun w24=>St (fun _=>False) [] w w24 (.blk b0 Ab (Aq s a c)::.blk b1 Ai [.int .i64 r.upto,.slice ma r.miss.length mc]::.blk b2 Ab (Aq .zero none 0)::.blk b3 Ab (Aq { s with units:=p.1,failed:=p.2 } la lc)::.blk b4 Ab (Aq s (some ⟨g,0,none⟩) uc)::.els Ba Ae 5 (some ⟨g,0,none⟩) uc L::.els Ba Ae 5 la lc O::.blk b6 Ae (Mb x.u x.a x.c x.a2 x.c2)::.els Bn Af 3 qa qc (Cu x.u r.miss).1::(O.map agR++agR x::(L.drop (k+1)).map agR)) (DatR L)/\((Cu x.u r.miss).2=true\/¬Ef x.u),?_,?_⟩
     ·rintro _ w24 ⟨H24,hj4⟩;apply Al<;>intro c5
      ·rw[aF c5]at hstep;refine H24.m 7 ?_;refine Aw ?_;refine H24.U 7 ?_;clear H24;intro w25 H25;simp only[aB,aA]at H25;obtain⟨y,hy⟩:∃y:UP,y=⟨{ x.u with again:=(Cu x.u r.miss).1 },x.a,x.c,qa,qc⟩:=⟨_,rfl⟩;have e6:(Mb x.u x.a x.c x.a2 x.c2).set 4 (.slice qa (Cu x.u r.miss).1.length qc)=Ba y:=by rw[hy];rfl
       rw[e6]at H25;have eqn:y.u={ x.u with again:=(Cu x.u r.miss).1 }:=by rw[hy]
       have same:∀ {w':World},Io s r (k+1)=(p.1++[{ x.u with again:=(Cu x.u r.miss).1 }],p.2)->St (fun _=>False) [] w w' (.blk b0 Ab (Aq s a c)::.blk b1 Ai [.int .i64 r.upto,.slice ma r.miss.length mc]::.blk b2 Ab (Aq .zero none 0)::.blk b3 Ab (Aq { s with units:=p.1,failed:=p.2 } la lc)::.blk b4 Ab (Aq s (some ⟨g,0,none⟩) uc)::.els Ba Ae 5 (some ⟨g,0,none⟩) uc L::.els Ba Ae 5 la lc O::.blk b6 Ae (Ba y)::.els Bn Af 3 qa qc (Cu x.u r.miss).1::(O.map agR++agR x::(L.drop (k+1)).map agR)) (DatR L)->_:=fun {w'} h H=>
        new (w':=w') (v:=y) (fl:=p.2) (by rw[h,eqn]) (by rw[hy];exact⟨rfl,rfl⟩) (by rw[hy]) (by rw[hy];rfl) H
       apply Aa<;>intro c4
       ·apply An<;>intro c3
        ·rw[aF ⟨by omega,by omega⟩]at hstep;refine Yc b3 0 b6 0 w25 ?_;refine H25.drew ?_;clear H25;intro w26 H26;refine H26.ld (i:=7) (x:=x.u.tries) rfl (by rw[hy];rfl) ?_;refine H26.l 3 ?_;apply Aa<;>intro c9
         ·rw[aF c9]at hstep;refine H26.U 3 ?_;clear H26;intro w27 H27;simp only[aB,aA]at H27;exact⟨rfl,new (v:=y) (fl:=true) (by rw[hstep,eqn]) (by rw[hy];exact⟨rfl,rfl⟩) (by rw[hy]) (by rw[hy];rfl) H27⟩
         ·rw[aE c9]at hstep;refine H26.ld (i:=7) (x:=x.u.tries) rfl (by rw[hy];rfl) ?_;refine Ao (by omega) ?_;refine H26.set (i:=7) rfl (by rw[hy];show 0+3<5;decide) ?_;clear H26;intro w27 H27;simp only[aB,aA]at H27;obtain⟨z,hz⟩:∃z:UP,z=⟨{ x.u with again:=(Cu x.u r.miss).1,tries:=x.u.tries+1 },x.a,x.c,qa,qc⟩:=⟨_,rfl⟩;have e7:(Ba y).set (0+3) (.int .i64 (x.u.tries+1))=Ba z:=by rw[hy,hz];rfl
          rw[e7]at H27;exact⟨rfl,new (v:=z) (fl:=p.2) (by rw[hstep,hz]) (by rw[hz];exact⟨rfl,rfl⟩) (by rw[hz]) (by rw[hz];rfl) H27⟩
        ·rw[aE (by omega)]at hstep;exact same hstep H25
       ·rw[aE (by omega)]at hstep;exact same hstep H25
      ·rw[aE (by rw[c5];decide)]at hstep;have hnw:¬Ef x.u:=by
        rcases hj4 with h|h
        ·rw[c5]at h;cases h
        ·exact h
       rw[aE hnw]at hstep;exact keep hstep (St.skip (X:=[_,_,_,_,_,_,_,_]) H24)
     ·apply Bq<;>intro c2
      ·rw[aE (by rw[c2];decide)]at hstep;refine H23.l 7 ?_;refine H23.m 7 ?_;apply Aa<;>intro c1
       ·rw[aF (show Ef x.u from c1)]at hstep;refine Ao (by omega) ?_;have H26:=St.skip (X:=[_,_,_,_,_,_,_,_]) H23;have H27:=St.skip (X:=[_,_,_,_,_,_,_]) H26;simp only[aD,aC]at H27;have H28:=St.skip (X:=((.blk b0 Ab (Aq s a c)::.blk b1 Ai [.int .i64 r.upto,.slice ma r.miss.length mc]::.blk b2 Ab (Aq .zero none 0)::.blk b3 Ab (Aq { s with units:=p.1,failed:=p.2 } la lc)::.blk b4 Ab (Aq s (some ⟨g,0,none⟩) uc)::.els Ba Ae 5 (some ⟨g,0,none⟩) uc L::.els Ba Ae 5 la lc O::O.map agR):List Res)) H27;refine⟨⟨k+1,O,la,lc,by omega,by omega,by rw[hstep];exact hO,hF,?_⟩,by first|omega|(dsimp only;omega)⟩;rw[hstep];simpa using H28
       ·exact⟨H23,.inr c1⟩
      ·exact⟨H23,.inl c2⟩
    ·rw[Kj,aF (by omega)]at hstep;exact keep hstep H22
  ·obtain rfl:k=s.units.length:=by omega
   have hfull:Io s r s.units.length=s.units.foldl (Kj s (s.place r.upto) r.miss) ([],false):=by rw[Io,bI]
   obtain⟨p,hp⟩:∃p,p=Io s r s.units.length:=⟨_,rfl⟩;rw[<-hp]at hO H19 hfull hOn;rw[List.drop_of_length_le (by omega),List.map_nil,aL]at H19;obtain⟨t,ht⟩:∃t:Sd,t={ s with poll:=if s.poll≠ -1/\s.place s.poll<s.place r.upto then-1 else s.poll,left:=if s.poll≠ -1/\s.place s.poll<s.place r.upto then 0 else s.left }:=⟨_,rfl⟩;have hT:Ad3 s r={ t with units:=p.1,failed:=p.2,first:=(match p.1 with|u::_=>u.sn| []=>s.next) }:=by rw[ht,hfull];rfl
   have hpo:=Aym hok;refine⟨fun w34=>St (fun _=>False) [] w w34 (.blk b0 Ab (Aq s a c)::.blk b1 Ai [.int .i64 r.upto,.slice ma r.miss.length mc]::.blk b2 Ab (Aq .zero none 0)::.blk b3 Ab (Aq { t with units:=p.1,failed:=p.2 } la lc)::.blk b4 Ab (Aq s ua uc)::.els Ba Ae 5 ua uc L::.els Ba Ae 5 la lc O::O.map agR) (DatR L),?_,?_⟩
   ·rintro _ w34 H34;refine H34.l 0 ?_;refine H34.U 3 ?_;clear H34;intro w33 H33;simp only[aB,aA]at H33;have fin:∀ {w':World} {x:Sd},Ad3 s r=x->O.map (·.u)=x.units->St (fun _=>False) [] w w' (.blk b0 Ab (Aq s a c)::.blk b1 Ai [.int .i64 r.upto,.slice ma r.miss.length mc]::.blk b2 Ab (Aq .zero none 0)::.blk b3 Ab (Aq x la lc)::.blk b4 Ab (Aq s ua uc)::.els Ba Ae 5 ua uc L::.els Ba Ae 5 la lc O::O.map agR) (DatR L)->
     Ad w' ⟨b2,0,none⟩ 0 (Aq x la lc) fun w4=>
      ∃r_0 r_1 r_2 r_3 r_4 r_5 r_6 r_7:Int,∃r_8_a:Option Addr,∃r_8_l r_8_c:Nat,∃r_9 r_10 r_11:Int,∃r_12:Bool,
       cellsAt w4 ⟨b2,0,none⟩ 0 [(.int .i64 r_0),(.int .i64 r_1),(.int .i64 r_2),(.int .i64 r_3),(.int .i64 r_4),(.int .i64 r_5),(.int .i64 r_6),(.int .i64 r_7),(.slice r_8_a r_8_l r_8_c),(.int .i64 r_9),(.int .i64 r_10),(.int .i64 r_11),(.bool r_12)]/\
       RetO w (Ad3 s r) 0 (.returned (.tuple #[(.agg #[.int .i64 r_0,.int .i64 r_1,.int .i64 r_2,.int .i64 r_3,.int .i64 r_4,.int .i64 r_5,.int .i64 r_6,.int .i64 r_7,.slice r_8_a r_8_l r_8_c,.int .i64 r_9,.int .i64 r_10,.int .i64 r_11,.bool r_12]),(.int .i64 0)])) w4:=fun {w' x} hx hu H=>by
     rw[hx];exact Ahj (x:=x) (a:=la) (c:=lc) (L:=O) (i:=2) H rfl rfl hu fun w4 H4=>(H4.sub (fun i=>i+6) (fun i r hi=>hi) (fun i j _ _ h=>by omega)).imp fun w h=>Arn hF h
    refine H33.m 3 ?_;apply Aa<;>intro c9
    ·have c9':0<O.length:=by rw[hOn];have:(0:Int)<(p.1.length:Int):=c9;omega
     obtain⟨g',hg',_,_⟩:=H33.rowSome (i:=6) rfl c9';subst hg';refine H33.m 3 ?_;refine Jx ⟨by omega,c9⟩ ?_;have c0:=H33.cellEl Bm (i:=6) rfl c9' (j:=0) (v:=.int .i64 O[0].u.sn) (by decide) rfl;refine⟨_,by rw[show ((0:Int).toNat*5)=0 from rfl,Bd];exact c0,?_⟩;refine H33.U 3 ?_;clear H33;intro w34 H34;simp only[aB,aA]at H34;obtain⟨x,hx⟩:∃x:Sd,x={ t with units:=p.1,failed:=p.2,first:=O[0].u.sn }:=⟨_,rfl⟩;have hTx:Ad3 s r=x:=by
      rw[hT,hx];have:p.1=O[0].u::(O.drop 1).map (·.u):=by rw[<-hO,<-bS (f:=fun y:UP=>y.u),<-aR c9'];rfl
      rw[this]
     have e:(((Aq { t with units:=p.1,failed:=p.2 } (some ⟨g',0,none⟩) lc).set 6 (.int .i64 s.next)).set 6 (.int .i64 O[0].u.sn))=Aq x (some ⟨g',0,none⟩) lc:=by
      rw[hx];rfl
     rw[e]at H34;refine⟨_,_,_,_,_,_,_,_,_,_,_,_,_,_,_,H34.cells (i:=3) rfl,?_⟩;exact fin hTx (by rw[hx];exact hO) H34
    ·have h0:p.1.length=0:=by have:¬(0:Int)<(p.1.length:Int):=c9;omega
     obtain⟨x,hx⟩:∃x:Sd,x={ t with units:=p.1,failed:=p.2,first:=s.next }:=⟨_,rfl⟩;have hTx:Ad3 s r=x:=by
      rw[hT,hx,aK h0]
     have e:((Aq { t with units:=p.1,failed:=p.2 } la lc).set 6 (.int .i64 s.next))=Aq x la lc:=by
      rw[hx];rfl
     rw[e]at H33;refine⟨_,_,_,_,_,_,_,_,_,_,_,_,_,_,_,H33.cells (i:=3) rfl,?_⟩;exact fin hTx (by rw[hx];exact hO) H33
   ·refine H19.l 0 ?_;apply Aa<;>intro c8
    ·refine H19.l 0 ?_;refine H19.l 0 ?_;refine(Fe hb).mono ?_;rintro _ w31 ⟨rfl,hb31⟩;have H31:=H19.pass hb31;clear H19;refine⟨_,rfl,?_⟩;apply Aa<;>intro c7
     ·refine H31.U 3 ?_;clear H31;intro w32 H32;simp only[aB,aA]at H32;refine H32.U 3 ?_;clear H32;intro w33 H33;simp only[aB,aA]at H33;rw[ht,aF ⟨hpo.2 c8,c7⟩,aF ⟨hpo.2 c8,c7⟩];exact H33
     ·rw[ht,aE (fun h=>c7 h.2),aE (fun h=>c7 h.2)];exact H31
    ·rw[ht,aE (fun h=>c8 (hpo.1 h.1)),aE (fun h=>c8 (hpo.1 h.1))];exact H19
 ·refine⟨_,_,_,_,_,_,_,_,_,_,_,_,_,_,_,H3.cells (i:=0) rfl,?_⟩;refine(Pz (Cf hu H3.below) hl).mono ?_;rintro _ w4 ⟨rfl,hb4⟩;have H4:=H3.pass hb4;clear H3;refine⟨_,rfl,?_⟩;apply Bq<;>intro c
  ·exact⟨H4,cP rfl (.inl c)⟩
  ·refine H4.l 0 ?_;refine⟨_,_,_,_,H4.cells (i:=1) rfl,?_⟩;refine(Uh (hM.belowE H4.below) (by omega)).mono ?_;rintro _ w5 ⟨rfl,hb5⟩;have H5:=H4.pass hb5;clear H4;refine⟨_,rfl,?_⟩;refine⟨H5,?_⟩;rw[<-decide_not,aV];exact⟨fun h=>.inr h,fun h=>by
    rcases h with h|h
    ·rw[c]at h;cases h
    ·exact h⟩
theorem Ox{w:World}{p:Addr}{u:Un}{a:Option Addr}{c:Nat}{a2:Option Addr}{c2:Nat}(h:cellsAt w p 0 (Mb u a c a2 c2))(j:Nat){v:Value}(hv:(Mb u a c a2 c2)[j]?=some v):w.cell? (p.add j)=some v:=by
 have:=Bc h j _ hv;rwa[aN]at this
theorem Aql{s:Sd}{a a':Option Addr}{c c':Nat}{w:World}(hu:UnR w a s.units)(hu':UnR w a' s.units)(hl:SmU s.units)(hby:∀u∈s.units,Bytes u.data):Calls Tryz.prog Zj #[Sg s a c,Sg s a' c'] w fun e w'=>e=.returned (.bool true)/\Below w.heap.size w w':=by
 apply Ale;have H:=St.nil w;obtain⟨hl0,hl1⟩:=hl;refine H.alloc ?_;clear H;intro b w1 H1;refine H1.alloc ?_;clear H1;intro b1 w2 H2;simp only[aD,aC]at H2;replace H2:St (fun _=>False) [] w w2 [.blk b Ab (Aq s a c),.blk b1 Ab (Aq s a' c')] (fun _=>True):=H2;refine⟨fun x12 w3=>St (fun _=>False) [] w w3 [.blk b Ab (Aq s a c),.blk b1 Ab (Aq s a' c')] (fun _=>True)/\x12=false,?_,?_⟩
 ·rintro _ x12 w3 ⟨H3,rfl⟩;refine Al (fun c13=>by cases c13) (fun _=>?_);refine⟨fun i=>((s.units.length-i).toNat,fun w4=>∃k:Nat,i=k/\k<=s.units.length/\St (fun _=>False) [] w w4 [.blk b Ab (Aq s a c),.blk b1 Ab (Aq s a' c')] (fun _=>True)),⟨0,rfl,by omega,H3⟩,?_⟩;clear H3;rintro _ i w4 ⟨k,rfl,hk,H4⟩;refine H4.m 0 ?_;refine Aa (fun c12=>?_) (fun c12=>⟨rfl,H4.below⟩);have hlt:k<s.units.length:=by omega
  obtain⟨u,hue⟩:∃u,u=s.units[k]:=⟨_,rfl⟩;have hmu:u∈s.units:=by rw[hue];exact aJ _
  refine⟨fun x13 y w14=>St (fun _=>False) [] w w14 [.blk b Ab (Aq s a c),.blk b1 Ab (Aq s a' c')] (fun _=>True)/\UnC w14 x13 u/\UnC w14 y u,?_,?_⟩
  ·rintro _ x13 y w14 ⟨H14,hx,hy⟩;obtain⟨xa,xc,xa2,xc2,hx,hxd,hxr⟩:=hx;obtain⟨ya,yc,ya2,yc2,hy,hyd,hyr⟩:=hy;refine⟨fun x20 w17=>St (fun _=>False) [] w w17 [.blk b Ab (Aq s a c),.blk b1 Ab (Aq s a' c')] (fun _=>True)/\x20=false,?_,?_⟩
   ·rintro _ x20 w17 ⟨H17,rfl⟩;refine Al (fun c=>by cases c) (fun _=>?_);refine Ao (by omega) ?_;exact⟨⟨k+1,by omega,by omega,H17⟩,by dsimp only;omega⟩
   ·refine⟨_,Ox hx 0 rfl,?_⟩;refine⟨_,Ox hy 0 rfl,?_⟩;refine An (fun h=>absurd rfl h) (fun _=>?_);refine⟨_,Ox hx 2 rfl,?_⟩;refine⟨_,Ox hy 2 rfl,?_⟩;refine An (fun h=>absurd rfl h) (fun _=>?_);refine⟨_,Ox hx 3 rfl,?_⟩;refine⟨_,Ox hy 3 rfl,?_⟩;refine An (fun h=>absurd rfl h) (fun _=>?_);refine⟨_,_,_,Ox hx 1 rfl,?_⟩;refine⟨_,_,_,Ox hy 1 rfl,?_⟩;refine(Avb hxd hyd (hby u hmu) (hby u hmu)).mono ?_;rintro _ w15 ⟨rfl,hb15⟩;have H15:=H14.pass hb15;refine⟨_,rfl,?_⟩;refine An (fun h=>absurd rfl h) (fun _=>?_);refine⟨_,_,_,Ox (Av hx hb15) 4 rfl,?_⟩;refine⟨_,_,_,Ox (Av hy hb15) 4 rfl,?_⟩;refine(Sm (hxr.belowE hb15) (hyr.belowE hb15) (hl1 u hmu).1).mono ?_;rintro _ w16 ⟨rfl,hb16⟩;refine⟨_,rfl,?_⟩;exact⟨H15.pass hb16,by simp⟩
  ·refine H4.drew ?_;clear H4;intro w5 H5;have hu5:=Cf hu H5.below;have hu5':=Cf hu' H5.below;refine⟨(· <w5.heap.size),?_⟩;refine⟨H5.lt (i:=0) rfl rfl,?_⟩;refine H5.m 0 ?_;refine ixU hu5 k rfl hlt fun b2 hb2=>?_;rw[<-hue]at hb2;obtain⟨xa,xc,xa2,xc2,hx,hxd,hxr⟩:=hb2;refine⟨Dv (Ox hx 0 rfl),?_⟩;refine⟨_,_,_,_,_,_,_,_,_,hx,?_⟩;refine⟨H5.lt (i:=1) rfl rfl,?_⟩;refine H5.m 1 ?_;refine ixU hu5' k rfl hlt fun b3 hb3=>?_;rw[<-hue]at hb3;obtain⟨ya,yc,ya2,yc2,hy,hyd,hyr⟩:=hb3;refine⟨Dv (Ox hy 0 rfl),?_⟩;refine⟨_,_,_,_,_,_,_,_,_,hy,?_⟩;refine⟨?_,?_,trivial⟩
   ·have L:=St.nil w5;refine L.alloc ?_;clear L;intro b6 w10 L10;refine⟨L10.below.keeps,?_⟩;refine L10.alloc ?_;clear L10;intro b7 w11 L11;refine⟨L11.below.keeps,?_⟩;simp only[aD,aC]at L11;refine L11.s 0 ?_;clear L11;intro w12 L12;refine⟨L12.below.keeps,?_⟩;simp only[aA]at L12;refine L12.s 1 ?_;clear L12;intro w13 L13;simp only[aB,aA]at L13;exact⟨H5.pass L13.below,⟨xa,xc,xa2,xc2,L13.cells (i:=0) rfl,hxd.below L13.below,hxr.belowE L13.below⟩,⟨ya,yc,ya2,yc2,L13.cells (i:=1) rfl,hyd.below L13.below,hyr.belowE L13.below⟩⟩
   ·have L:=St.nil w5;refine L.alloc ?_;clear L;intro b6 w10 L10;refine⟨L10.below.keeps,?_⟩;refine L10.alloc ?_;clear L10;intro b7 w11 L11;refine⟨L11.below.keeps,?_⟩;simp only[aD,aC]at L11;refine L11.s 1 ?_;clear L11;intro w12 L12;refine⟨L12.below.keeps,?_⟩;simp only[aB,aA]at L12;refine L12.s 0 ?_;clear L12;intro w13 L13;simp only[aB,aA]at L13;exact⟨H5.pass L13.below,⟨xa,xc,xa2,xc2,L13.cells (i:=1) rfl,hxd.below L13.below,hxr.belowE L13.below⟩,⟨ya,yc,ya2,yc2,L13.cells (i:=0) rfl,hyd.below L13.below,hyr.belowE L13.below⟩⟩
 ·refine⟨_,_,_,_,_,_,H2.cellsAt (i:=0) rfl (by rfl),?_⟩;refine⟨_,_,_,_,_,_,H2.cellsAt (i:=1) rfl (by rfl),?_⟩;refine Auq ?_;refine Al (fun h=>by cases h) (fun _=>?_);refine H2.l 0 ?_;refine H2.l 1 ?_;refine An (fun h=>absurd rfl h) (fun _=>?_);refine H2.l 0 ?_;refine H2.l 1 ?_;refine An (fun h=>absurd rfl h) (fun _=>?_);refine H2.l 0 ?_;refine H2.l 1 ?_;refine An (fun h=>absurd rfl h) (fun _=>?_);refine H2.l 0 ?_;refine H2.l 1 ?_;refine An (fun h=>absurd rfl h) (fun _=>?_);refine H2.l 0 ?_;refine H2.l 1 ?_;refine An (fun h=>absurd rfl h) (fun _=>?_);refine H2.B 0 ?_;refine H2.B 1 ?_;refine Bq (fun h=>by simp at h) (fun _=>?_);refine H2.m 0 ?_;refine H2.m 1 ?_;exact⟨H2,by simp⟩
end Go.Proofs.YtmbppohkadmjgaaGreat
namespace Go.Sx
theorem Qm{L:List Un}{k:Nat}(hk:k<L.length)(h:Ej L=k):Up L[k]=true\/Ly L[k]=true:=by
 unfold Ej at h;split at h
 ·rename_i h1;obtain⟨j,hj,e,hp⟩:=Aix h1;have:j=k:=by omega
  subst this;exact .inl hp
 ·obtain⟨j,hj,e,hp⟩:=Aix (p:=Ly) (l:=L) (by omega);have:j=k:=by omega
  subst this;exact .inr hp
theorem Ans{s:Sd}(h:s.okB=true):0<=s.pieces/\s.pieces<=s.lk.every-1:=by
 unfold Sd.okB at h;simp only[aH,aO]at h;exact h.1.2
theorem Ak1{L:List Un}{j:Nat}{d:Int}(h:j<L.length):Qp (L.take (j+1)) d=if 0<L[j].sent then L[j].sn else Qp (L.take j) d:=by
 rw[cA h,Qp,eC];rfl
theorem Aw9(b:Int)(p:Pc)(size:Int):(Hz b p size).1.data.length<=p.data.length:=by
 unfold Hz;split
 ·simp[Pc.zero]
 ·split
  ·simp[Pc.zero]
  ·split
   ·exact aG _
   ·dsimp only;rw[aU];omega
theorem Avh{u:Un}{n:Int}(h:u.again=[]->u.sent+n<=u.data.length)(hs:u.sent<=u.data.length):(Dj u n).sent<=(Dj u n).data.length:=by
 unfold Dj;cases ha:u.again with
 |nil=>exact h ha
 |cons r l=>dsimp only;split<;>exact hs
end Go.Sx
namespace Go.Proofs.YtmbppohkadmjgaaGreat
open Go.Sx Go.RowKit
set_option maxRecDepth 100000
def Fm(p:Pc)(a:Option Addr)(c:Nat):List Value:=[.int .i64 p.sn,.int .i64 p.part,.int .i64 p.poll,.int .i64 p.off,.slice a p.data.length c]
def Bam(w:World)(x:Sd)(bs:List Int)(E:Int)(e:Ending)(w':World):Prop:=
 ∃a c ba bc,bs.length<=bc/\e=.returned (.tuple #[Sg x a c,.slice ba bs.length bc,.int .i64 E])/\Ti w w' fun w=>UnR w a x.units/\SlR (Bp .u8) 1 w ba bs
structure DP where
 a0:Option Addr
 c0:Nat
 all:List Rg
def Alq(y:DP):Res:=.els Bn Af 3 y.a0 y.c0 y.all
def toD(x:UP):DP:=⟨x.a2,x.c2,x.u.again⟩
def Bbo(x:UP)(y:DP):Prop:=∃n,n<=1/\n<=y.all.length/\x.u.again=y.all.drop n/\x.a2=Ay y.c0 n 3 y.a0/\x.c2=y.c0-n
def An5(L:List UP)(D:List DP):Prop:=D.length=L.length/\∀i (h:i<L.length) (h':i<D.length),Bbo L[i] D[i]
theorem Awv(c sz:Nat)(a:Option Addr):Ay c 0 sz a=a:=by
 unfold Ay;split
 ·rfl
 ·cases a<;>simp[add_zero]
theorem Bbe(x:UP):Bbo x (toD x):=⟨0,aX _,aX _,rfl,by rw[Awv];rfl,rfl⟩
theorem Ave(L:List UP):An5 L (L.map toD):=⟨by simp,fun i h h'=>by rw[eI];exact Bbe _⟩
theorem Ajc{L:List UP}{D:List DP}(h:An5 L D){k:Nat}{x:UP}{y:DP}(hxy:Bbo x y):An5 (L.set k x) (D.set k y):=by
 refine⟨by simp[h.1],fun i h1 h2=>?_⟩;simp only[bE]at h1 h2;simp only[List.getElem_set];split
 ·exact hxy
 ·exact h.2 i h1 h2
theorem Avd{A0:Nat->Prop}{w0 w:World}:∀ {L:List UP} {D:List DP} {R:List Res} {P:World->Prop},An5 L D->St A0 [] w0 w (R++D.map Alq) P->St A0 [] w0 w R fun w=>Ad1 L w/\P w
 | [],D,R,P,hO,H=>by
  obtain rfl:D=[]:=aK hO.1;have:=H.imp (Q:=fun w=>Ad1 [] w/\P w) fun _ h=>⟨fun x hx=>by simp at hx,h⟩;simpa using this
 |x::L,[],R,P,hO,H=>by have:=hO.1;simp at this
 |x::L,y::D,R,P,hO,H=>by
  have e:(R++(y::D).map Alq)[R.length]?=some (Alq y):=by simp
  have hcap:y.all.length<=y.c0:=H.capE e;have K:=(H.shareE Br e).sub (R':=R++D.map Alq) (fun i=>if i<R.length then i else i+1) (fun i r hi=>by
   by_cases h:i<R.length
   ·rw[List.getElem?_append_left h]at hi;rw[aF h,List.getElem?_set_ne (by omega),List.getElem?_append_left h];exact hi
   ·rw[List.getElem?_append_right (by omega)]at hi;rw[aE h,List.getElem?_set_ne (by omega),List.getElem?_append_right (by omega),show i+1-R.length=(i-R.length)+1 by omega];simpa using hi) (fun i j _ _ h=>by
   by_cases h1:i<R.length<;>by_cases h2:j<R.length<;>simp only[h1,h2,dO,if_false]at h<;>omega)
  have hO2:An5 L D:=⟨by have:=hO.1;simpa using this,fun i h h'=>by
   have:=hO.2 (i+1) (by simpa using h) (by simpa using h');simpa using this⟩
  have K2:=Avd hO2 K;refine K2.imp fun w h=>⟨fun z hz=>?_,h.2.2⟩;rcases bB.1 hz with rfl|hz
  ·obtain⟨n,_,hn,h1,h2,h3⟩:=hO.2 0 (by simp) (by simp);simp only[cW]at hn h1 h2 h3;rw[h1,h2];exact h.2.1.tailE (l:=n) hcap
  ·exact h.1 z hz
def RetPB(w:World)(x:Sd)(bs:List Int)(E:Int)(e:Ending)(w':World):Prop:=
 ∃a c ba bc L D,bs.length<=bc/\L.map (·.u)=x.units/\An5 L D/\e=.returned (.tuple #[Sg x a c,.slice ba bs.length bc,.int .i64 E])/\St (fun _=>False) [] w w' (.els Ba Ae 5 a c L::D.map Alq) (fun w=>SlR (Bp .u8) 1 w ba bs/\Yq L w)
theorem RetPB.read{w w':World}{x:Sd}{bs:List Int}{E:Int}{e:Ending}(h:RetPB w x bs E e w'):Bam w x bs E e w':=by
 obtain⟨a,c,ba,bc,L,D,hbc,hL,hO,he,H⟩:=h;have K:=(Avd (R:=[.els Ba Ae 5 a c L]) hO H).shareE Bm (i:=0) rfl;exact⟨a,c,ba,bc,hbc,he,K.fin.imp fun w h=>⟨by rw[<-hL];exact Nt h.1 h.2.2.2 h.2.1,h.2.2.1⟩⟩
theorem Arq{w w':World}{R:List Res}{P:World->Prop}{b1:Nat}{E:Int}{cs:List Value}{i:Nat}(H:St (fun _=>False) [] w w' R P)(hi:R[i]?=some (.blk b1 Ab cs))(hl:cs.length=13):Ad w' ⟨b1,0,none⟩ 0 (Aq .zero none 0) fun w4=>
  ∃r_0 r_1 r_2 r_3 r_4 r_5 r_6 r_7:Int,∃r_8_a:Option Addr,∃r_8_l r_8_c:Nat,∃r_9 r_10 r_11:Int,∃r_12:Bool,
   cellsAt w4 ⟨b1,0,none⟩ 0 [(.int .i64 r_0),(.int .i64 r_1),(.int .i64 r_2),(.int .i64 r_3),(.int .i64 r_4),(.int .i64 r_5),(.int .i64 r_6),(.int .i64 r_7),(.slice r_8_a r_8_l r_8_c),(.int .i64 r_9),(.int .i64 r_10),(.int .i64 r_11),(.bool r_12)]/\
   RetPB w .zero [] E (.returned (.tuple #[(.agg #[.int .i64 r_0,.int .i64 r_1,.int .i64 r_2,.int .i64 r_3,.int .i64 r_4,.int .i64 r_5,.int .i64 r_6,.int .i64 r_7,.slice r_8_a r_8_l r_8_c,.int .i64 r_9,.int .i64 r_10,.int .i64 r_11,.bool r_12]),(.slice none 0 0),(.int .i64 E)])) w4:=by
 refine H.store hi (by rw[hl];rfl) (by rfl) ?_;intro w4 H4;have hi4:(R.set i (.blk b1 Ab (Aq .zero none 0)))[i]?=some (.blk b1 Ab (Aq .zero none 0)):=by
  have:=(List.getElem?_eq_some_iff.1 hi).1;simp[this]
 refine⟨_,_,_,_,_,_,_,_,_,_,_,_,_,_,_,H4.cells hi4,?_⟩;exact⟨none,0,none,0,[],[],aG _,rfl,⟨rfl,fun i h=>by simp at h⟩,rfl,(H4.fin.nilE Ba Ae 5).imp fun _ _=>⟨.nil,fun x hx=>by simp at hx⟩⟩
theorem Aw6{w w':World}{R:List Res}{P:World->Prop}{b1:Nat}{E:Int}{cs:List Value}{i:Nat}(H:St (fun _=>False) [] w w' R P)(hi:R[i]?=some (.blk b1 Ab cs))(hl:cs.length=13):Ad w' ⟨b1,0,none⟩ 0 (Aq .zero none 0) fun w4=>
  ∃r_0 r_1 r_2 r_3 r_4 r_5 r_6 r_7:Int,∃r_8_a:Option Addr,∃r_8_l r_8_c:Nat,∃r_9 r_10 r_11:Int,∃r_12:Bool,
   cellsAt w4 ⟨b1,0,none⟩ 0 [(.int .i64 r_0),(.int .i64 r_1),(.int .i64 r_2),(.int .i64 r_3),(.int .i64 r_4),(.int .i64 r_5),(.int .i64 r_6),(.int .i64 r_7),(.slice r_8_a r_8_l r_8_c),(.int .i64 r_9),(.int .i64 r_10),(.int .i64 r_11),(.bool r_12)]/\
   Bam w .zero [] E (.returned (.tuple #[(.agg #[.int .i64 r_0,.int .i64 r_1,.int .i64 r_2,.int .i64 r_3,.int .i64 r_4,.int .i64 r_5,.int .i64 r_6,.int .i64 r_7,.slice r_8_a r_8_l r_8_c,.int .i64 r_9,.int .i64 r_10,.int .i64 r_11,.bool r_12]),(.slice none 0 0),(.int .i64 E)])) w4:=by
 refine H.store hi (by rw[hl];rfl) (by rfl) ?_;intro w4 H4;have hi4:(R.set i (.blk b1 Ab (Aq .zero none 0)))[i]?=some (.blk b1 Ab (Aq .zero none 0)):=by
  have:=(List.getElem?_eq_some_iff.1 hi).1;simp[this]
 refine⟨_,_,_,_,_,_,_,_,_,_,_,_,_,_,_,H4.cells hi4,?_⟩;exact⟨none,0,none,0,aG _,rfl,H4.fin.imp fun _ _=>⟨.inl rfl,.nil⟩⟩
theorem Alp{s:Sd}{a:Option Addr}{c:Nat}{size:Int}{w:World}(hu:UnR w a s.units)(hl:SmU s.units)(hsz: -9223372036854775808<=size/\size<=9223372036854775807):Calls Tryz.prog Qy #[Sg s a c,.int .i64 size] w (RetPB w (Ca s size (Cq s)).1 (Ca s size (Cq s)).2.1 (Ca s size (Cq s)).2.2):=by
 apply Aj4;have H:=St.nil w;refine H.alloc ?_;clear H;intro b w1 H1;refine H1.alloc ?_;clear H1;intro b1 w2 H2;simp only[aD,aC]at H2;replace H2:St (fun _=>False) [] w w2 [.blk b Ab (Aq s a c),.blk b1 Ab (Aq .zero none 0)] (fun _=>True):=H2;refine⟨fun w8=>St (fun _=>False) [] w w8 [.blk b Ab (Aq s a c),.blk b1 Ab (Aq .zero none 0)] (fun _=>True)/\s.okB=true/\s.failed=false/\0<=size/\size<=4096,?_,?_⟩
 ·rintro _ w8 ⟨H8,hok,hfa,hs0,hs1⟩;have hE:Cq s=0:=by rw[Cq,aE (by rw[hok];decide),aE (by rw[hfa];decide)]
  obtain⟨hfit,hlk,hsf,hsn,hall⟩:=Na hok;have hf1:=hfit.1;have hb:=hlk.1;rw[Ca,aE (by omega),aE (by omega)];refine⟨_,_,_,_,_,_,_,_,_,_,_,_,_,_,_,H8.cells (i:=0) rfl,?_⟩;refine(Aff (Cf hu H8.below) (by omega) (fun u hu=>(Rq (hall u hu).1).1)).mono ?_;rintro _ w9 ⟨⟨h0,rfl⟩|⟨k,hk,hlk0,rfl⟩,hb9⟩
  ·have H9:=H8.pass hb9;refine⟨_,_,_,_,rfl,?_⟩;refine Bq (fun _=>?_) (fun h=>by cases h);rw[aF h0];exact Arq H9 (i:=1) rfl rfl
  have H9:=H8.pass hb9;clear H8;refine⟨_,_,_,_,rfl,?_⟩;refine Bq (fun h=>by cases h) (fun _=>?_);rw[aE (by omega),hlk0,bK,List.getElem?_eq_getElem hk];obtain⟨u,hue⟩:∃u,u=s.units[k]:=⟨_,rfl⟩;have hmu:u∈s.units:=by rw[hue];exact aJ _
  have hau:=Qm hk hlk0;rw[<-hue]at hau ⊢;have hin:=Abs (hall u hmu).1 hau;have hfu:=hfit.2 u hmu;obtain⟨r,hr⟩:∃r,r=Dc u:=⟨_,rfl⟩;rw[<-hr]at hin ⊢;dsimp only;refine⟨_,_,_,_,_,_,_,_,_,_,_,_,_,_,_,H9.cells (i:=0) rfl,?_⟩;refine(Mx (Cf hu H9.below) hfit).mono ?_;rintro _ w11 ⟨ua,uc,L,hL,rfl,K11⟩;have hlen:L.length=s.units.length:=by rw[<-hL,bC]
  have H11:=H9.callF K11;clear H9;refine⟨_,_,_,_,_,_,_,_,_,_,_,_,_,_,_,rfl,?_⟩;refine H11.alloc ?_;clear H11;intro b2 w12 H12;have H12:=H12.lastTo;simp only[aD,aC]at H12;refine H12.s 2 ?_;clear H12;intro w13 H13;simp only[aB,aA]at H13;refine H13.m 2 ?_;have hkL:k<L.length:=by omega
  obtain⟨x,hx⟩:∃x,x=L[k]:=⟨_,rfl⟩;have hxm:x∈L:=by rw[hx];exact aJ _
  have hxu:x.u=u:=by rw[hue,hx];simp[<-hL]
  obtain⟨g,hg,hg1,hg2⟩:=H13.rowSome (i:=3) rfl (by omega);subst hg;refine Jx ⟨by omega,by omega⟩ ?_;simp only[Bd,aN];refine⟨fun p w19=>∃(q:Nat) (da:Option Addr) (dc:Nat),p=⟨q,0,none⟩/\(Ch u).data.length<=dc/\
   St (fun _=>False) [] w w19 (.blk b Ab (Aq s a c)::.blk b1 Ab (Aq .zero none 0)::.blk b2 Ab (Aq s (some ⟨g,0,none⟩) uc)::.els Ba Ae 5 (some ⟨g,0,none⟩) uc L::.blk q Ap (Fm ⟨u.sn,3,0,r.f,(Ch u).data⟩ da dc)::L.map agR) (fun w=>SlR (Bp .u8) 1 w da (Ch u).data/\DatR L w),?_,?_⟩
  ·rintro _ p w19 ⟨q,da,dc,rfl,hdc,H19⟩;have hp:∀v,Jb (decide (r.f=0)) (decide (r.t=u.data.length))=v->Fm ⟨u.sn,v,0,r.f,(Ch u).data⟩ da dc=Fm (Ch u) da dc:=fun v h=>by rw[<-h,hr];rfl
   have set1:∀(v:Int),(Fm ⟨u.sn,3,0,r.f,(Ch u).data⟩ da dc).set (0+1) (.int .i64 v)=Fm ⟨u.sn,v,0,r.f,(Ch u).data⟩ da dc:=fun v=>rfl;have hpl:(Ch u).data.length<=3000:=by
    have:(Ch u).data.length<=u.data.length:=by
     show ((u.data.take _).drop _).length<=_;rw[bJ,aU];omega
    omega
   have ld:∀ {w':World} {P:World->Prop} {pc:List Value},St (fun _=>False) [] w w' (.blk b Ab (Aq s a c)::.blk b1 Ab (Aq .zero none 0)::.blk b2 Ab (Aq s (some ⟨g,0,none⟩) uc)::.els Ba Ae 5 (some ⟨g,0,none⟩) uc L::.blk q Ap pc::L.map agR) P->
    w'.cell? ⟨g,k*5+1,none⟩=some (.slice x.a u.data.length x.c):=fun H=>H.cellEl Bm (i:=3) rfl hkL (j:=1) (by decide) (by rw[<-hx,<-hxu];rfl)
   refine⟨fun w24=>St (fun _=>False) [] w w24 (.blk b Ab (Aq s a c)::.blk b1 Ab (Aq .zero none 0)::.blk b2 Ab (Aq s (some ⟨g,0,none⟩) uc)::.els Ba Ae 5 (some ⟨g,0,none⟩) uc L::.blk q Ap (Fm (Ch u) da dc)::L.map agR) (fun w=>SlR (Bp .u8) 1 w da (Ch u).data/\DatR L w),?_,?_⟩
   ·rintro _ w24 H24;refine H24.l 0 ?_;refine⟨_,_,_,_,_,_,_,H24.cells (i:=4) rfl,?_⟩;refine(Atd H24.get.1 (by omega) hdc hsz).mono ?_;rintro _ w25 ⟨pa,pc,pa',pc',hpc,hpc',rfl,K25⟩;have H25:=H24.callF K25;clear H24;simp only[aL]at H25;obtain⟨cu,hcu⟩:∃cu,cu=Hz s.lk.bits (Ch u) size:=⟨_,rfl⟩;change St _ _ _ _ _ (fun w=>(SlR (Bp .u8) 1 w pa (Hz s.lk.bits (Ch u) size).1.data/\SlR (Bp .u8) 1 w pa' (Hz s.lk.bits (Ch u) size).2.1.data)/\_)at H25;rw[<-hcu]at H25 ⊢;refine⟨_,_,_,_,_,_,_,_,_,_,_,_,_,_,_,rfl,?_⟩;refine H25.alloc ?_;clear H25;intro b6 w26 H26;have H26:=St.lastTo (X:=[_,_,_,_,_]) H26;simp only[aD,aC]at H26;refine H26.s 4 ?_;clear H26;intro w27 H27;simp only[aB,aA]at H27;refine H27.s 5 ?_;clear H27;intro w28 H28;simp only[aB,aA]at H28;replace H28:St (fun _=>False) [] w w28 (.blk b Ab (Aq s a c)::.blk b1 Ab (Aq .zero none 0)::.blk b2 Ab (Aq s (some ⟨g,0,none⟩) uc)::.els Ba Ae 5 (some ⟨g,0,none⟩) uc L::.blk q Ap (Fm cu.1 pa pc)::.blk b6 Ap (Fm cu.2.1 pa' pc')::L.map agR) (fun w=>SlR (Bp .u8) 1 w pa cu.1.data/\DatR L w):=H28.imp fun _ h=>⟨h.1.1,h.2.2⟩;apply An<;>intro c14
    ·rw[aF c14];exact Arq H28 (i:=1) rfl rfl
    rw[aE (by omega)];obtain⟨hqo,hqp⟩:=Awg (b:=s.lk.bits) (p:=Ch u) (size:=size) (by rw[<-hcu];exact c14);rw[<-hcu]at hqo hqp;obtain⟨q1,hq1⟩:∃q1,q1=cu.1:=⟨_,rfl⟩;rw[<-hq1]at hqo hqp H28 ⊢;have hml:q1.data.length<=2054:=by have h6:=hqo.2.2.2.2.2.1;have:=hqo.2.2.2.2.2.2;omega
    have hun:=Rq (hall u hmu).1;obtain⟨m,hm⟩:∃m,m=q1.data.length:=⟨_,rfl⟩;rw[Bd];refine H28.m 4 ?_;rw[<-hm];refine Ao (by omega) ?_;refine⟨fun w33=>∃(L':List UP) (D':List DP),L'.map (·.u)=s.units.set k (Dj u m)/\An5 L' D'/\St (fun _=>False) [] w w33 (.blk b Ab (Aq s a c)::.blk b1 Ab (Aq .zero none 0)::.blk b2 Ab (Aq s (some ⟨g,0,none⟩) uc)::.els Ba Ae 5 (some ⟨g,0,none⟩) uc L'::.blk q Ap (Fm q1 pa pc)::D'.map Alq) (fun w=>SlR (Bp .u8) 1 w pa q1.data/\Yq L' w),?_,?_⟩
    ·rintro _ w33 ⟨L',D',hL',hO',H33⟩;have hpc1:=Ans hok;have hev:=hlk.2.1;obtain⟨s1,hs1'⟩:∃s1:Sd,s1={ s with units:=s.units.set k (Dj u m),pieces:=s.pieces+1 }:=⟨_,rfl⟩;have hu1:s1.units=s.units.set k (Dj u m):=by rw[hs1']
     have hl1:s1.lk=s.lk:=by rw[hs1']
     have hn1:s1.units.length=s.units.length:=by rw[hu1,bE]
     have hbT:Qv s k u q1=if s1.pieces=s.lk.every\/Ej s1.units<0 then (Baa s1,(Qq s.lk.bits { q1 with poll:=1 }).1,0) else (s1,(Qq s.lk.bits q1).1,0):=by rw[hs1',hm];rfl
     refine H33.l 2 ?_;refine Ao (by omega) ?_;refine H33.U 2 ?_;clear H33;intro w34 H34;simp only[aB,aA]at H34;have e9:(Aq s (some ⟨g,0,none⟩) uc).set 9 (.int .i64 (s.pieces+1))=Aq s1 (some ⟨g,0,none⟩) uc:=by
      rw[hs1'];simp only[Aq,bE];rfl
     rw[e9]at H34;have hUn:∀ {w':World} {x0 x1 x2 x4:Res},St (fun _=>False) [] w w' (x0::x1::x2::.els Ba Ae 5 (some ⟨g,0,none⟩) uc L'::x4::D'.map Alq) (fun w=>SlR (Bp .u8) 1 w pa q1.data/\Yq L' w)->UnR w' (some ⟨g,0,none⟩) s1.units:=fun {w' x0 x1 x2 x4} H=>by
      have K:=Avd (R:=[x0,x1,x2,.els Ba Ae 5 (some ⟨g,0,none⟩) uc L',x4]) hO' H;rw[hu1,<-hL'];exact Nt (H.slE Bm (i:=3) rfl) K.get.2.2 K.get.1
     refine⟨fun w42=>∃(t:Sd) (q2:Pc),Qv s k u q1=(t,(Qq s.lk.bits q2).1,0)/\q2.data=q1.data/\t.units=s1.units/\St (fun _=>False) [] w w42 (.blk b Ab (Aq s a c)::.blk b1 Ab (Aq .zero none 0)::.blk b2 Ab (Aq t (some ⟨g,0,none⟩) uc)::.els Ba Ae 5 (some ⟨g,0,none⟩) uc L'::.blk q Ap (Fm q2 pa pc)::D'.map Alq) (fun w=>SlR (Bp .u8) 1 w pa q1.data/\Yq L' w),?_,?_⟩
     ·rintro _ w42 ⟨t,q2,hbt,hqd,htu,H42⟩;refine H42.l 0 ?_;refine⟨_,_,_,_,_,_,_,H42.cells (i:=4) rfl,?_⟩;refine(Al6 (d:=q2.data) (by rw[hqd];exact H42.get.1) (by rw[hqd];omega)).mono ?_;rintro _ w43 ⟨ba,bc,hbl,rfl,K43⟩;have H43:=H42.callF K43;clear H42;simp only[aL]at H43;refine⟨_,_,_,_,rfl,?_⟩;refine⟨_,_,_,_,_,_,_,_,_,_,_,_,_,_,_,H43.cells (i:=2) rfl,?_⟩;refine H43.s 1 ?_;clear H43;intro w44 H44;simp only[aB,aA]at H44;refine⟨_,_,_,_,_,_,_,_,_,_,_,_,_,_,_,H44.cells (i:=1) rfl,?_⟩;rw[hbt];have H45:=St.skip (X:=[_,_,_,_]) H44;have H46:=St.skip (X:=[_,_]) H45;have H47:=St.skip (X:=[_]) H46;have H48:=St.skip (X:=[]) H47;exact⟨_,_,_,_,L',D',hbl,by rw[htu,hu1,hL'],hO',rfl,H48.imp fun w h=>⟨h.1,h.2.2⟩⟩
     ·refine⟨fun x13 w36=>St (fun _=>False) [] w w36 (.blk b Ab (Aq s a c)::.blk b1 Ab (Aq .zero none 0)::.blk b2 Ab (Aq s1 (some ⟨g,0,none⟩) uc)::.els Ba Ae 5 (some ⟨g,0,none⟩) uc L'::.blk q Ap (Fm q1 pa pc)::D'.map Alq) (fun w=>SlR (Bp .u8) 1 w pa q1.data/\Yq L' w)/\(x13=true↔s1.pieces=s.lk.every\/Ej s1.units<0),?_,?_⟩
      ·rintro _ x13 w36 ⟨H36,hj⟩;apply Al<;>intro c13
       ·rw[aF (hj.1 c13)]at hbT;rw[Bd];refine H36.U 4 ?_;clear H36;intro w37 H37;simp only[aB,aA]at H37;refine H37.U 2 ?_;clear H37;intro w38 H38;simp only[aB,aA]at H38;refine⟨fun i=>((s1.units.length-i).toNat,fun w39=>∃j:Nat,i=j/\j<=s1.units.length/\St (fun _=>False) [] w w39 (.blk b Ab (Aq s a c)::.blk b1 Ab (Aq .zero none 0)::.blk b2 Ab (Aq { s1 with pieces:=0,poll:=Qp (s1.units.take j) s1.poll } (some ⟨g,0,none⟩) uc)::.els Ba Ae 5 (some ⟨g,0,none⟩) uc L'::.blk q Ap (Fm { q1 with poll:=1 } pa pc)::D'.map Alq) (fun w=>SlR (Bp .u8) 1 w pa q1.data/\Yq L' w)),⟨0,rfl,by omega,H38⟩,?_⟩;clear H38;rintro _ i w39 ⟨j,rfl,hj39,H39⟩;refine H39.m 2 ?_;apply Aa<;>intro c12
        ·have hjl:j<s1.units.length:=by have:(j:Int)<(s1.units.length:Int):=c12;omega
         have hstp:=Ak1 (d:=s1.poll) hjl;have hu39:=hUn H39;refine H39.m 2 ?_;refine ixU hu39 j rfl hjl fun b8 hb8=>?_;obtain⟨_,_,_,_,hb8,_,_⟩:=hb8;refine⟨_,Ox hb8 2 rfl,?_⟩;apply Aa<;>intro c11
         ·rw[aF c11]at hstp;refine H39.m 2 ?_;refine ixU hu39 j rfl hjl fun b9 hb9=>?_;obtain⟨_,_,_,_,hb9,_,_⟩:=hb9;refine⟨_,Ox hb9 0 rfl,?_⟩;refine H39.U 2 ?_;clear H39;intro w40 H40;simp only[aB,aA]at H40;refine Ao (by omega) ?_;exact⟨⟨j+1,by omega,by omega,by rw[hstp];exact H40⟩,by first|omega|(dsimp only;omega)⟩
         ·rw[aE c11]at hstp;refine Ao (by omega) ?_;exact⟨⟨j+1,by omega,by omega,by rw[hstp];exact H39⟩,by first|omega|(dsimp only;omega)⟩
        ·obtain rfl:j=s1.units.length:=by have:¬(j:Int)<(s1.units.length:Int):=c12;omega
         rw[bI]at H39;refine H39.l 0 ?_;refine H39.U 2 ?_;clear H39;intro w41 H41;simp only[aB,aA]at H41;exact⟨Baa s1,{ q1 with poll:=1 },hbT,rfl,rfl,by rw[show s.lk.poll=s1.lk.poll by rw[hl1]]at H41;exact H41⟩
       ·rw[aE (fun h=>by rw[hj.2 h]at c13;cases c13)]at hbT;exact⟨s1,q1,hbT,rfl,rfl,H36⟩
      ·refine H34.ld (i:=2) (x:=s1.pieces) rfl rfl ?_;refine H34.l 0 ?_;apply Aa<;>intro c10
       ·exact⟨H34,cP rfl (.inl c10)⟩
       ·refine⟨_,_,_,_,_,_,_,_,_,_,_,_,_,_,_,H34.cells (i:=2) rfl,?_⟩;refine(Ae1 (s:=s1) (hUn H34) (by omega) (fun v hv=>?_)).mono ?_
        ·rw[hu1]at hv;rcases bM hv with hv|rfl
         ·exact(Rq (hall v hv).1).1
         ·refine Avh (fun hag=>?_) hun.1;have h1:=Aw9 s.lk.bits (Ch u) size;rw[<-hcu,<-hq1,<-hm]at h1;have h2:(Ch u).data.length=r.t.toNat-r.f.toNat:=by
           show ((u.data.take (Dc u).t.toNat).drop (Dc u).f.toNat).length=_;rw[<-hr,bJ,aU];omega
          have h3:r.f=u.sent:=by rw[hr,Dc,hag]
          omega
        rintro _ w35 ⟨rfl,hb35⟩;refine⟨_,rfl,?_⟩;refine⟨H34.pass hb35,?_⟩;rw[<-decide_not,aV];exact⟨fun h=>.inr (by omega),fun h=>by
         rcases h with h|h
         ·exact absurd h c10
         ·omega⟩
    ·have ha4:∀ {w':World} {P:World->Prop} {T:List Res},St (fun _=>False) [] w w' (.blk b Ab (Aq s a c)::.blk b1 Ab (Aq .zero none 0)::.blk b2 Ab (Aq s (some ⟨g,0,none⟩) uc)::.els Ba Ae 5 (some ⟨g,0,none⟩) uc L::T) P->
      w'.cell? ⟨g,k*5+4,none⟩=some (.slice x.a2 u.again.length x.c2):=fun H=>H.cellEl Bm (i:=3) rfl hkL (j:=4) (by decide) (by rw[<-hx,<-hxu];rfl)
     have hmap:∀(z:UP),(L.set k z).map (·.u)=s.units.set k z.u:=fun z=>by rw[bG,hL]
     have hdat:∀ {z:UP} {w:World},z.a=x.a->z.u.data=x.u.data->DatR L w->Yq (L.set k z) w:=fun h1 h2 h v hv=>by
      rcases bM hv with hv|rfl
      ·exact(h v hv).1
      ·rw[h1,h2];exact(h x hxm).1
     refine⟨_,_,_,ha4 H28,?_⟩;apply Aa<;>intro c9
     ·obtain⟨r0,l,hag⟩:∃r0 l,u.again=r0::l:=by
       cases h:u.again with
       |nil=>rw[h]at c9;simp at c9
       |cons r0 l=>exact⟨r0,l,rfl⟩
      have hr0:r=r0:=by rw[hr,Dc,hag]
      have hi:(.blk b Ab (Aq s a c)::.blk b1 Ab (Aq .zero none 0)::.blk b2 Ab (Aq s (some ⟨g,0,none⟩) uc)::.els Ba Ae 5 (some ⟨g,0,none⟩) uc L::.blk q Ap (Fm q1 pa pc)::.blk b6 Ap (Fm cu.2.1 pa' pc')::L.map agR:List Res)[k+6]?=some (.els Bn Af 3 x.a2 x.c2 (r0::l)):=by
       show (L.map agR)[k]?=_;rw[List.getElem?_map,List.getElem?_eq_getElem hkL,<-hx];show some (agR x)=_;rw[agR,hxu,hag]
      have hcap:(r0::l).length<=x.c2:=H28.capE hi;obtain⟨ga,hga,_,_⟩:=H28.rowSome hi (by simp);refine⟨_,_,_,ha4 H28,?_⟩;rw[hga];refine Jx ⟨by omega,by omega⟩ ?_;rw[show ((⟨ga,0,none⟩:Addr).add ((0:Int).toNat*3)).add 1=⟨ga,0*3+1,none⟩ by rw[Bd,Bd];rfl];rw[hga]at hi;refine H28.setEl Br hi (k:=0) (by simp) (j:=1) (by decide) ⟨r0.sn,r.f+m,r0.t⟩ (by rfl) ?_;clear H28;intro w29 f29 H29;simp only[aB,aA]at H29;obtain⟨z1,hz1⟩:∃z1:UP,z1=⟨{ u with again:=⟨r0.sn,r.f+m,r0.t⟩::l },x.a,x.c,x.a2,x.c2⟩:=⟨_,rfl⟩;obtain⟨y1,hy1⟩:∃y:DP,y=⟨x.a2,x.c2,⟨r0.sn,r.f+m,r0.t⟩::l⟩:=⟨_,rfl⟩;have eD:(L.map agR).set k (.els Bn Af 3 (some ⟨ga,0,none⟩) x.c2 (⟨r0.sn,r.f+m,r0.t⟩::l))=((L.map toD).set k y1).map Alq:=by
       rw[bG,List.map_map,hy1,<-hga];rfl
      have H30:=St.skip (X:=[_,_,_,_,_]) H29;simp only[aD,aC]at H30;rw[eD]at H30;apply Aa<;>intro c8
      ·refine⟨_,_,_,ha4 H30,?_⟩;refine⟨⟨by omega,by omega⟩,?_⟩;have htk:Dj u m={ u with again:=l }:=by unfold Dj;rw[hag];rw[hr0]at c8;exact aF c8
       obtain⟨z,hz⟩:∃z:UP,z=⟨Dj u m,x.a,x.c,Ay x.c2 1 3 x.a2,x.c2-1⟩:=⟨_,rfl⟩;refine H30.setEl Bm (i:=3) rfl hkL (j:=4) (by decide) z (by rw[<-hx,hz,htk,hag,<-hxu];rfl) ?_;clear H30;intro w31 f31 H31;simp only[aB,aA]at H31;exact⟨L.set k z,(L.map toD).set k y1,by rw[hmap,hz],Ajc (Ave L) ⟨1,aG _,by rw[hy1];simp,by rw[hz,htk,hy1];rfl,by rw[hz,hy1],by rw[hz,hy1]⟩,H31.imp fun w h=>⟨h.1,hdat (by rw[hz]) (by rw[hz,htk,hxu]) h.2⟩⟩
      ·have htk:Dj u m={ u with again:=⟨r0.sn,r.f+m,r0.t⟩::l }:=by unfold Dj;rw[hag];rw[hr0]at c8 ⊢;exact aE c8
       have e2:(.els Ba Ae 5 (some ⟨g,0,none⟩) uc L:Res)=.els Ba Ae 5 (some ⟨g,0,none⟩) uc (L.set k z1):=by
        have e3:Ba z1=Ba L[k]:=by rw[<-hx,hz1];simp only[Ba,Mb,hxu,hag,aQ]
        have e4:(L.set k z1).map Ba=L.map Ba:=by
         rw[bG,e3];exact Ds (by rw[List.getElem?_map,List.getElem?_eq_getElem hkL];rfl)
        simp only[Res.els,bE,List.flatMap_def,e4]
       rw[e2]at H30;exact⟨L.set k z1,(L.map toD).set k y1,by rw[hmap,hz1,htk],Ajc (Ave L) ⟨0,aX _,aX _,by rw[hz1,hy1];rfl,by rw[hz1,hy1,Awv],by rw[hz1,hy1];rfl⟩,H30.imp fun w h=>⟨h.1,hdat (by rw[hz1]) (by rw[hz1,hxu]) h.2⟩⟩
     ·have hag:u.again=[]:=aK (by omega);have hr2:r=⟨u.sn,u.sent,u.data.length⟩:=by rw[hr,Dc,hag]
      obtain⟨z,hz⟩:∃z:UP,z=⟨Dj u m,x.a,x.c,x.a2,x.c2⟩:=⟨_,rfl⟩;have htk:Dj u m={ u with sent:=r.f+m }:=by unfold Dj;rw[hag,hr2]
      refine H28.setEl Bm (i:=3) rfl hkL (j:=2) (by decide) z (by rw[<-hx,hz,htk,<-hxu];rfl) ?_;clear H28;intro w29 f29 H29;simp only[aB,aA]at H29;have H30:=St.skip (X:=[_,_,_,_,_]) H29;simp only[aD,aC]at H30;have eD:L.map agR=(L.map toD).map Alq:=by rw[List.map_map];rfl
      rw[eD]at H30;exact⟨L.set k z,(L.map toD).set k (toD z),by rw[hmap,hz],Ajc (Ave L) (Bbe z),by
       have e:(L.map toD).set k (toD z)=L.map toD:=by
        have:toD z=toD L[k]:=by rw[<-hx,hz,htk];unfold toD;rw[hxu]
        rw[this];exact Ds (by rw[List.getElem?_map,List.getElem?_eq_getElem hkL];rfl)
       rw[e];exact H30.imp fun w h=>⟨h.1,hdat (by rw[hz]) (by rw[hz,htk,hxu]) h.2⟩⟩
   ·refine⟨fun x4 w20=>St (fun _=>False) [] w w20 (.blk b Ab (Aq s a c)::.blk b1 Ab (Aq .zero none 0)::.blk b2 Ab (Aq s (some ⟨g,0,none⟩) uc)::.els Ba Ae 5 (some ⟨g,0,none⟩) uc L::.blk q Ap (Fm ⟨u.sn,3,0,r.f,(Ch u).data⟩ da dc)::L.map agR) (fun w=>SlR (Bp .u8) 1 w da (Ch u).data/\DatR L w)/\(x4=true↔r.f=0/\r.t=u.data.length),?_,?_⟩
    ·rintro _ x4 w20 ⟨H20,hj⟩;apply Al<;>intro c7
     ·have h7:=hj.1 c7;rw[Bd];refine H20.U 4 ?_;clear H20;intro w21 H21;simp only[aB,aA]at H21;rw[set1,hp 0 (by rw[aM h7.1,aM h7.2];rfl)]at H21;exact H21
     ·have h7:¬(r.f=0/\r.t=u.data.length):=fun h=>by rw[hj.2 h]at c7;cases c7
      refine Aw ?_;apply Aa<;>intro c6
      ·rw[Bd];refine H20.U 4 ?_;clear H20;intro w21 H21;simp only[aB,aA]at H21;rw[set1,hp 1 (by rw[aM c6,aI (fun h=>h7 ⟨c6,h⟩)];rfl)]at H21;exact H21
      ·refine⟨_,_,_,ld H20,?_⟩;refine Aw ?_;apply Aa<;>intro c5
       ·rw[Bd];refine H20.U 4 ?_;clear H20;intro w21 H21;simp only[aB,aA]at H21;rw[set1,hp 2 (by rw[aI c6,aM c5];rfl)]at H21;exact H21
       ·rw[hp 3 (by rw[aI c6,aI c5];rfl)]at H20;exact H20
    ·apply Aa<;>intro c4
     ·refine⟨_,_,_,ld H19,?_⟩;refine Aw ?_;exact⟨H19,by rw[aV];exact⟨fun h=>⟨c4,h⟩,fun h=>h.2⟩⟩
     ·exact⟨H19,bA (by decide) (fun h=>c4 h.1)⟩
  ·have hpd:(Ch u).data=(u.data.drop r.f.toNat).take (r.t.toNat-r.f.toNat):=by
    show (u.data.take (Dc u).t.toNat).drop (Dc u).f.toNat=_;rw[<-hr,List.drop_take]
   have hpl:(Ch u).data.length=r.t.toNat-r.f.toNat:=by rw[hpd,aU,bJ];omega
   refine H13.drew ?_;clear H13;intro w14 H14;obtain⟨hxd,hxc⟩:=H14.get.1 x hxm;rw[hxu]at hxd hxc;refine⟨(· <w14.heap.size),?_⟩;have c0:=H14.cellEl Bm (i:=3) rfl hkL (j:=0) (v:=.int .i64 u.sn) (by decide) (by rw[<-hx,<-hxu];rfl);have c1:=H14.cellEl Bm (i:=3) rfl hkL (j:=1) (v:=.slice x.a u.data.length x.c) (by decide) (by rw[<-hx,<-hxu];rfl);refine⟨Dv c0,?_⟩;refine⟨_,c0,?_⟩;refine⟨Dv c1,?_⟩;refine⟨_,_,_,c1,?_⟩;refine⟨⟨by omega,by omega⟩,?_⟩;refine⟨⟨by omega,by omega⟩,?_⟩;have hda:∀w,DatR L w->SlR (Bp .u8) 1 w (Ay x.c r.f.toNat 1 x.a) (Ch u).data:=fun w h=>by
    have h1:=(h x hxm).1;rw[hxu]at h1;rw[hpd];exact h1.cutE hxc _
   refine⟨?_,?_,trivial⟩
   ·refine⟨fun _ _ _ h=>h,?_⟩;refine H14.allocB ?_;intro b4 w15 hb15 H15;refine⟨hb15.keeps,?_⟩;have H15:=St.lastTo (X:=[_,_,_,_]) H15;simp only[aD,aC]at H15;refine H15.s 4 ?_;intro w16 H16;simp only[aB,aA]at H16;refine⟨b4,Ay x.c r.f.toNat 1 x.a,x.c-r.f.toNat,rfl,by omega,?_⟩;unfold Fm;rw[hpl];exact H16.imp fun w h=>⟨hda w h.1,h.1⟩
   ·refine H14.allocB ?_;intro b5 w17 hb17 H17;refine⟨hb17.keeps,?_⟩;refine⟨hb17.keeps,?_⟩;have H17:=St.lastTo (X:=[_,_,_,_]) H17;simp only[aD,aC]at H17;refine H17.s 4 ?_;intro w18 H18;simp only[aB,aA]at H18;refine⟨b5,Ay x.c r.f.toNat 1 x.a,x.c-r.f.toNat,rfl,by omega,?_⟩;unfold Fm;rw[hpl];exact H18.imp fun w h=>⟨hda w h.1,h.1⟩
 ·refine⟨_,_,_,_,_,_,_,_,_,_,_,_,_,_,_,H2.cells (i:=0) rfl,?_⟩;refine(Pz (Cf hu H2.below) hl).mono ?_;rintro _ w3 ⟨rfl,hb3⟩;have H3:=H2.pass hb3;clear H2;refine⟨_,rfl,?_⟩;apply Bq<;>intro c3
  ·have hE:Cq s=1:=by rw[Cq,aF c3]
   rw[Ca,aF (by omega),hE];exact Arq H3 (i:=1) rfl rfl
  refine H3.B 0 ?_;apply Al<;>intro c2
  ·have hE:Cq s=16:=by rw[Cq,aE (by rw[c3];decide),aF c2]
   rw[Ca,aF (by omega),hE];exact Arq H3 (i:=1) rfl rfl
  have hE:Cq s=0:=by rw[Cq,aE (by rw[c3];decide),aE (by rw[c2];decide)]
  apply Aa<;>intro c1
  ·rw[Ca,aE (by omega),aF (by omega)];exact Arq H3 (i:=1) rfl rfl
  ·refine Aw ?_;apply Aa<;>intro c
   ·rw[Ca,aE (by omega),aF (by omega)];exact Arq H3 (i:=1) rfl rfl
   ·exact⟨H3,c3,c2,by omega,by omega⟩
theorem Ank{s:Sd}{a:Option Addr}{c:Nat}{size:Int}{w:World}(hu:UnR w a s.units)(hl:SmU s.units)(hsz: -9223372036854775808<=size/\size<=9223372036854775807):Calls Tryz.prog Qy #[Sg s a c,.int .i64 size] w (Bam w (Ca s size (Cq s)).1 (Ca s size (Cq s)).2.1 (Ca s size (Cq s)).2.2):=
 (Alp hu hl hsz).mono fun _ _ h=>h.read
theorem Ao3{u:Un}{a a2:Option Addr}{c c2:Nat}{w:World}(hr:SlR (CE Bn) 3 w a2 u.again):Calls Tryz.prog Vq #[Am2 u a c a2 c2] w fun e w'=>e=.returned (.agg #[.int .i64 (Dc u).sn,.int .i64 (Dc u).f,.int .i64 (Dc u).t])/\Below w.heap.size w w':=by
 apply Ai1;have H:=St.nil w;refine H.alloc ?_;clear H;intro b w1 H1;refine H1.alloc ?_;clear H1;intro b1 w2 H2;simp only[aD,aC]at H2;refine H2.m 0 ?_;apply Aa<;>intro cc
 ·refine H2.m 0 ?_;refine ixE (hr.belowE H2.below) 0 rfl (by omega) fun b2 r h hb2=>?_;refine⟨_,_,_,hb2,?_⟩;refine H2.s 1 ?_;clear H2;intro w3 H3;refine⟨_,_,_,H3.cells (i:=1) rfl,?_⟩;have hp:Dc u=r:=by
   unfold Dc;cases hh:u.again with
   |nil=>rw[hh]at h;simp at h
   |cons x l=>rw[hh]at h;simp at h;exact h
  exact⟨by rw[hp],H3.below⟩
 ·have hp:Dc u=⟨u.sn,u.sent,u.data.length⟩:=by
   unfold Dc;rw[aK (show u.again.length=0 by omega)]
  refine H2.l 0 ?_;refine H2.l 0 ?_;refine H2.m 0 ?_;refine H2.s 1 ?_;clear H2;intro w4 H4;refine⟨_,_,_,H4.cells (i:=1) rfl,?_⟩;exact⟨by rw[hp],H4.below⟩
theorem Alk{s:Sd}{a:Option Addr}{c:Nat}{size:Int}{w:World}(hu:UnR w a s.units)(hl:SmU s.units)(hsz: -9223372036854775808<=size/\size<=9223372036854775807):Calls Tryz.prog Ud #[Sg s a c,.int .i64 size] w (Bam w (Ca s size (Cq s)).1 (Ca s size (Cq s)).2.1 (Ca s size (Cq s)).2.2):=by
 apply Ahl;have H:=St.nil w;refine H.alloc ?_;clear H;intro b0 w1 H1;refine H1.alloc ?_;clear H1;intro b1 w2 H2;simp only[aD,aC]at H2;refine⟨_,_,_,_,_,_,_,_,_,_,_,_,_,_,_,H2.cells (i:=0) rfl,?_⟩;refine(My (Cf hu H2.below) hl).mono ?_;rintro _ w3 (⟨hE,rfl,hb3⟩|⟨hE,b,ua,uc,L,hL,rfl,K3⟩)
 ·have H3:=H2.pass hb3;clear H2;refine⟨_,_,rfl,?_⟩;refine An (fun _=>?_) (fun h=>absurd h hE);rw[Ca,aF hE];exact Aw6 H3 (i:=1) rfl rfl
 have H3:=H2.callF K3;clear H2;simp only[aD,aC]at H3;refine⟨_,_,rfl,?_⟩;refine An (fun h=>absurd rfl h) (fun _=>?_);obtain⟨hok,hfa⟩:=Amx hE;obtain⟨hfit,hlk,hsf,hsn,hall⟩:=Na hok;have hf1:=hfit.1;have hb:=hlk.1;have hlen:L.length=s.units.length:=by rw[<-hL,bC]
 rw[Ca,aE (by omega)];refine(Mf (s:=s) (b:=b) (o:=0) ⟨ua,uc,H3.cells (i:=2) rfl,Azn H3 (fun _ h=>h.1) hL⟩ (by omega)).mono ?_;rintro _ w5 ⟨rfl,hb5⟩;have H5:=H3.pass hb5;clear H3;refine⟨_,rfl,?_⟩;refine sender_between_ct.mono ?_;rintro _ w6 ⟨rfl,hb6⟩;have H6:=H5.pass hb6;clear H5;refine⟨_,rfl,?_⟩;apply An<;>intro c4
 ·rw[aF c4];exact Aw6 H6 (i:=1) rfl rfl
 rw[aE (by omega)];refine Aw ?_;apply Aa<;>intro c3
 ·rw[aF c3];exact Aw6 H6 (i:=1) rfl rfl
 rw[aE c3];obtain⟨k,hk,hlk0⟩:=Apc (L:=s.units) (by omega);rw[hlk0,bK,List.getElem?_eq_getElem hk];obtain⟨u,hue⟩:∃u,u=s.units[k]:=⟨_,rfl⟩;have hmu:u∈s.units:=by rw[hue];exact aJ _
 have hau:=Qm hk hlk0;rw[<-hue]at hau ⊢;have hin:=Abs (hall u hmu).1 hau;have hfu:=hfit.2 u hmu;obtain⟨r,hr⟩:∃r,r=Dc u:=⟨_,rfl⟩;rw[<-hr]at hin;dsimp only;have hkL:k<L.length:=by omega
 obtain⟨x,hx⟩:∃x,x=L[k]:=⟨_,rfl⟩;have hxm:x∈L:=by rw[hx];exact aJ _
 have hxu:x.u=u:=by rw[hue,hx];simp[<-hL]
 refine Bk ?_;rw[Bd];refine H6.m 2 ?_;obtain⟨g,hg,hg1,hg2⟩:=H6.rowSome (i:=3) rfl (by omega);subst hg;refine Jx ⟨by omega,by omega⟩ ?_;simp only[Bd,aN];have cx:=H6.cellsEl Bm (i:=3) rfl hkL;rw[<-hx]at cx;refine⟨_,_,_,_,_,_,_,_,_,cx,?_⟩;have hrr:SlR (CE Bn) 3 w6 x.a2 x.u.again:=by
  have K:=Gp (R:=[_,_,_,_]) H6;exact K.get.1 x hxm
 refine(Ao3 hrr).mono ?_;rintro _ w9 ⟨rfl,hb9⟩;have H9:=H6.pass hb9;clear H6;refine⟨_,_,_,rfl,?_⟩;rw[hxu,<-hr];refine H9.alloc ?_;clear H9;intro b3 w10 H10;have H10:=St.lastTo (X:=[_,_,_,_]) H10;simp only[aD,aC]at H10;refine H10.s 4 ?_;clear H10;intro w11 H11;simp only[aB,aA]at H11;refine⟨fun p w21=>∃(q:Nat) (da:Option Addr) (dc:Nat),p=⟨q,0,none⟩/\(Ch u).data.length<=dc/\St (fun _=>False) [] w w21 (.blk b0 Ab (Aq s a c)::.blk b1 Ab (Aq .zero none 0)::.blk b Bb (Aq s (some ⟨g,0,none⟩) uc)::.els Ba Ae 5 (some ⟨g,0,none⟩) uc L::.blk b3 Af [.int .i64 r.sn,.int .i64 r.f,.int .i64 r.t]::.blk q Ap (Fm (Ch u) da dc)::L.map agR) (fun w=>SlR (Bp .u8) 1 w da (Ch u).data/\DatR L w),?_,?_⟩
 ·rintro _ p w21 ⟨q,da,dc,rfl,hdc,H21⟩;have H21:=St.skip (X:=[_,_,_,_]) H21;simp only[aD,aC]at H21;have hpl:(Ch u).data.length<=3000:=by
   have:(Ch u).data.length<=u.data.length:=by
    show ((u.data.take _).drop _).length<=_;rw[bJ,aU];omega
   omega
  obtain⟨cu,hcu⟩:∃cu,cu=Hz s.lk.bits (Ch u) size:=⟨_,rfl⟩;rw[<-hcu];refine⟨fun e1 p w50=>e1=cu.2.2/\∃(bp:Nat) (pa:Option Addr) (pc:Nat),p=⟨bp,0,none⟩/\
   St (fun _=>False) [] w w50 (.blk b0 Ab (Aq s a c)::.blk b1 Ab (Aq .zero none 0)::.blk b Bb (Aq s (some ⟨g,0,none⟩) uc)::.els Ba Ae 5 (some ⟨g,0,none⟩) uc L::.blk bp Ap (Fm cu.1 pa pc)::L.map agR) (fun w=>SlR (Bp .u8) 1 w pa cu.1.data/\DatR L w),?_,?_⟩
  ·rintro _ e1 p w50 ⟨rfl,bp,pa,pc,rfl,H50⟩;apply An<;>intro c14
   ·rw[aF c14];exact Aw6 H50 (i:=1) rfl rfl
   have c14:cu.2.2=0:=by omega
   rw[aE (by omega)];obtain⟨hqo,hqp⟩:=Awg (b:=s.lk.bits) (p:=Ch u) (size:=size) (by rw[<-hcu];exact c14);rw[<-hcu]at hqo hqp;obtain⟨q1,hq1⟩:∃q1,q1=cu.1:=⟨_,rfl⟩;rw[<-hq1]at hqo hqp H50 ⊢;have hml:q1.data.length<=2054:=by have h6:=hqo.2.2.2.2.2.1;have:=hqo.2.2.2.2.2.2;omega
   have hun:=Rq (hall u hmu).1;obtain⟨m,hm⟩:∃m,m=q1.data.length:=⟨_,rfl⟩;rw[Bd];refine H50.m 4 ?_;rw[<-hm];have htake:Calls Tryz.prog Wk #[(.pointer (some ⟨g,k*5,none⟩)),(.int .i64 (m:Int))] w50 fun e w52=>e=.returned (.tuple #[])/\
    ∃L':List UP,L'.map (·.u)=s.units.set k (Dj u m)/\St (fun _=>False) [] w w52 [.blk b0 Ab (Aq s a c),.blk b1 Ab (Aq .zero none 0),.blk b Bb (Aq s (some ⟨g,0,none⟩) uc),.els Ba Ae 5 (some ⟨g,0,none⟩) uc L',.blk bp Ap (Fm q1 pa pc)] (fun w=>SlR (Bp .u8) 1 w pa q1.data/\Yq L' w/\Ad1 L' w):=by
    have ha4:∀ {w':World} {P:World->Prop} {T:List Res},St (fun _=>False) [] w w' (.blk b0 Ab (Aq s a c)::.blk b1 Ab (Aq .zero none 0)::.blk b Bb (Aq s (some ⟨g,0,none⟩) uc)::.els Ba Ae 5 (some ⟨g,0,none⟩) uc L::T) P->
     w'.cell? ⟨g,k*5+4,none⟩=some (.slice x.a2 u.again.length x.c2):=fun H=>H.cellEl Bm (i:=3) rfl hkL (j:=4) (by decide) (by rw[<-hx,<-hxu];rfl)
    have hmap:∀(z:UP),(L.set k z).map (·.u)=s.units.set k z.u:=fun z=>by rw[bG,hL]
    have hdat:∀ {z:UP} {w:World},z.a=x.a->z.u.data=x.u.data->DatR L w->Yq (L.set k z) w:=fun h1 h2 h v hv=>by
     rcases bM hv with hv|rfl
     ·exact(h v hv).1
     ·rw[h1,h2];exact(h x hxm).1
    refine Ajs g (k*5) m w50 ?_;refine⟨_,_,_,ha4 H50,?_⟩;apply Aa<;>intro c9
    ·have hag:u.again=[]:=aK (by omega);have hr2:r=⟨u.sn,u.sent,u.data.length⟩:=by rw[hr,Dc,hag]
     obtain⟨z,hz⟩:∃z:UP,z=⟨Dj u m,x.a,x.c,x.a2,x.c2⟩:=⟨_,rfl⟩;have htk:Dj u m={ u with sent:=u.sent+m }:=by unfold Dj;rw[hag]
     refine⟨_,H50.cellEl Bm (i:=3) rfl hkL (j:=2) (v:=.int .i64 u.sent) (by decide) (by rw[<-hx,<-hxu];rfl),?_⟩;refine Ao (by omega) ?_;refine H50.setEl Bm (i:=3) rfl hkL (j:=2) (by decide) z (by rw[<-hx,hz,htk,<-hxu];rfl) ?_;clear H50;intro w29 f29 H29;simp only[aB,aA]at H29;have H31:=Gp (R:=[_,_,_,_,_]) H29;refine⟨rfl,L.set k z,by rw[hmap,hz],H31.imp fun w h=>⟨h.2.1,hdat (by rw[hz]) (by rw[hz,htk,hxu]) h.2.2,fun v hv=>?_⟩⟩;rcases bM hv with hv|rfl
     ·exact h.1 v hv
     ·rw[hz,htk];have:=h.1 x hxm;rw[hxu]at this;exact this
    ·obtain⟨r0,l,hag⟩:∃r0 l,u.again=r0::l:=by
      cases h:u.again with
      |nil=>rw[h]at c9;simp at c9
      |cons r0 l=>exact⟨r0,l,rfl⟩
     have hr0:r=r0:=by rw[hr,Dc,hag]
     have hi:∀T:List Res,(.blk b0 Ab (Aq s a c)::.blk b1 Ab (Aq .zero none 0)::.blk b Bb (Aq s (some ⟨g,0,none⟩) uc)::.els Ba Ae 5 (some ⟨g,0,none⟩) uc L::.blk bp Ap (Fm q1 pa pc)::L.map agR:List Res)[k+5]?=some (.els Bn Af 3 x.a2 x.c2 (r0::l)):=by
      intro _;show (L.map agR)[k]?=_;rw[List.getElem?_map,List.getElem?_eq_getElem hkL,<-hx];show some (agR x)=_;rw[agR,hxu,hag]
     have hi:=hi [];have hcap:(r0::l).length<=x.c2:=H50.capE hi;obtain⟨ga,hga,_,_⟩:=H50.rowSome hi (by simp);have hi':=hi;rw[hga]at hi';have el0:((⟨ga,0,none⟩:Addr).add ((0:Int).toNat*3)).add 1=⟨ga,0*3+1,none⟩:=by rw[Bd,Bd];rfl
     have el2:((⟨ga,0,none⟩:Addr).add ((0:Int).toNat*3)).add 2=⟨ga,0*3+2,none⟩:=by rw[Bd,Bd];rfl
     refine⟨_,_,_,ha4 H50,?_⟩;rw[hga];refine Jx ⟨by omega,by omega⟩ ?_;rw[el0];refine⟨_,H50.cellEl Br hi' (k:=0) (by simp) (j:=1) (v:=.int .i64 r.f) (by decide) (by rw[hr0];rfl),?_⟩;refine Ao (by omega) ?_;refine Jx ⟨by omega,by omega⟩ ?_;rw[el0];refine H50.setEl Br hi' (k:=0) (by simp) (j:=1) (by decide) ⟨r0.sn,r.f+m,r0.t⟩ (by rfl) ?_;clear H50;intro w29 f29 H29;simp only[aB,aA]at H29;obtain⟨z1,hz1⟩:∃z1:UP,z1=⟨{ u with again:=⟨r0.sn,r.f+m,r0.t⟩::l },x.a,x.c,x.a2,x.c2⟩:=⟨_,rfl⟩;refine H29.drew ?_;clear H29;intro w30 H29;have hi2:(.blk b0 Ab (Aq s a c)::.blk b1 Ab (Aq .zero none 0)::.blk b Bb (Aq s (some ⟨g,0,none⟩) uc)::.els Ba Ae 5 (some ⟨g,0,none⟩) uc L::.blk bp Ap (Fm q1 pa pc)::(L.map agR).set k (.els Bn Af 3 (some ⟨ga,0,none⟩) x.c2 (⟨r0.sn,r.f+m,r0.t⟩::l)):List Res)[k+5]?=some (.els Bn Af 3 (some ⟨ga,0,none⟩) x.c2 (⟨r0.sn,r.f+m,r0.t⟩::l)):=by
      show ((L.map agR).set k _)[k]?=_;rw[List.getElem?_set_self (by rw[bC];exact hkL)]
     have a4:=ha4 H29;rw[hga]at a4;refine⟨_,_,_,a4,?_⟩;refine Jx ⟨by omega,by omega⟩ ?_;rw[el0];refine⟨_,H29.cellEl Br hi2 (k:=0) (by simp) (j:=1) (v:=.int .i64 (r.f+m)) (by decide) (by rfl),?_⟩;refine⟨_,_,_,a4,?_⟩;refine Jx ⟨by omega,by omega⟩ ?_;rw[el2];refine⟨_,H29.cellEl Br hi2 (k:=0) (by simp) (j:=2) (v:=.int .i64 r0.t) (by decide) (by rfl),?_⟩;have e1:(L.map agR).set k (.els Bn Af 3 (some ⟨ga,0,none⟩) x.c2 (⟨r0.sn,r.f+m,r0.t⟩::l))=(L.set k z1).map agR:=by
      rw[bG,hz1,<-hga];rfl
     rw[e1]at H29;have H30:=Gp (R:=[_,_,_,_,_]) H29;have rng:∀ {z:UP} {w:World},(SlR (CE Bn) 3 w x.a2 (⟨r0.sn,r.f+m,r0.t⟩::l)->SlR (CE Bn) 3 w z.a2 z.u.again)->Ad1 (L.set k z1) w->Ad1 (L.set k z) w:=fun {z w} hzz h v hv=>by
      obtain⟨j,hj,rfl⟩:=bF hv;have hj':j<(L.set k z1).length:=by simpa using hj
      have h1:=h _ (aJ hj');by_cases hjk:k=j
      ·subst hjk;simp only[dS]at h1 ⊢;rw[hz1]at h1;exact hzz h1
      ·simp only[List.getElem_set_ne hjk]at h1 ⊢;exact h1
     apply Aa<;>intro c8
     ·refine⟨_,_,_,a4,?_⟩;refine⟨⟨by omega,by omega⟩,?_⟩;have htk:Dj u m={ u with again:=l }:=by unfold Dj;rw[hag];rw[hr0]at c8;exact aF c8
      obtain⟨z,hz⟩:∃z:UP,z=⟨Dj u m,x.a,x.c,Ay x.c2 1 3 x.a2,x.c2-1⟩:=⟨_,rfl⟩;rw[<-hga];refine H30.setEl Bm (i:=3) rfl hkL (j:=4) (by decide) z (by rw[<-hx,hz,htk,hag,<-hxu];rfl) ?_;clear H30;intro w31 f31 H31;simp only[aB,aA]at H31;exact⟨rfl,L.set k z,by rw[hmap,hz],H31.imp fun w h=>⟨h.2.1,hdat (by rw[hz]) (by rw[hz,htk,hxu]) h.2.2,rng (fun hs=>by rw[hz,htk];exact hs.tailE (l:=1) hcap) h.1⟩⟩
     ·have htk:Dj u m={ u with again:=⟨r0.sn,r.f+m,r0.t⟩::l }:=by unfold Dj;rw[hag];rw[hr0]at c8 ⊢;exact aE c8
      have e2:(.els Ba Ae 5 (some ⟨g,0,none⟩) uc L:Res)=.els Ba Ae 5 (some ⟨g,0,none⟩) uc (L.set k z1):=by
       have e3:Ba z1=Ba L[k]:=by rw[<-hx,hz1];simp only[Ba,Mb,hxu,hag,aQ]
       have e4:(L.set k z1).map Ba=L.map Ba:=by
        rw[bG,e3];exact Ds (by rw[List.getElem?_map,List.getElem?_eq_getElem hkL];rfl)
       simp only[Res.els,bE,List.flatMap_def,e4]
      rw[e2]at H30;exact⟨rfl,L.set k z1,by rw[hmap,hz1,htk],H30.imp fun w h=>⟨h.2.1,hdat (by rw[hz1]) (by rw[hz1,hxu]) h.2.2,h.1⟩⟩
   refine htake.mono ?_;clear htake H50;rintro _ w33 ⟨rfl,L',hL',H33⟩;refine⟨rfl,?_⟩;have hpc1:=Ans hok;have hev:=hlk.2.1;obtain⟨s1,hs1'⟩:∃s1:Sd,s1={ s with units:=s.units.set k (Dj u m),pieces:=s.pieces+1 }:=⟨_,rfl⟩;have hu1:s1.units=s.units.set k (Dj u m):=by rw[hs1']
   have hl1:s1.lk=s.lk:=by rw[hs1']
   have hn1:s1.units.length=s.units.length:=by rw[hu1,bE]
   have hbT:Qv s k u q1=if s1.pieces=s.lk.every\/Ej s1.units<0 then (Baa s1,(Qq s.lk.bits { q1 with poll:=1 }).1,0) else (s1,(Qq s.lk.bits q1).1,0):=by rw[hs1',hm];rfl
   refine Bk ?_;rw[Bd];refine H33.l 2 ?_;refine Ao (by omega) ?_;refine Bk ?_;rw[Bd];refine H33.U 2 ?_;clear H33;intro w34 H34;simp only[aB,aA]at H34;have e9:(Aq s (some ⟨g,0,none⟩) uc).set (0+9) (.int .i64 (s.pieces+1))=Aq s1 (some ⟨g,0,none⟩) uc:=by
    rw[hs1'];simp only[Aq,bE];rfl
   rw[e9]at H34;have hUn:∀ {w':World},Yq L' w'->Ad1 L' w'->SlR (CE Ba) 5 w' (some ⟨g,0,none⟩) L'->UnR w' (some ⟨g,0,none⟩) s1.units:=fun h1 h2 h3=>by
    rw[hu1,<-hL'];exact Nt h3 h1 h2
   refine⟨fun w42=>∃(t:Sd) (q2:Pc),Qv s k u q1=(t,(Qq s.lk.bits q2).1,0)/\(Qq s.lk.bits q2).2=0/\q2.data=q1.data/\t.units=s1.units/\t.lk=s.lk/\St (fun _=>False) [] w w42 [.blk b0 Ab (Aq s a c),.blk b1 Ab (Aq .zero none 0),.blk b Bb (Aq t (some ⟨g,0,none⟩) uc),.els Ba Ae 5 (some ⟨g,0,none⟩) uc L',.blk bp Ap (Fm q2 pa pc)] (fun w=>SlR (Bp .u8) 1 w pa q1.data/\Yq L' w/\Ad1 L' w),?_,?_⟩
   ·rintro _ w42 ⟨t,q2,hbt,hq0,hqd,htu,htl,H42⟩;refine H42.drew ?_;clear H42;intro w43 H43;refine⟨(· <w43.heap.size),?_⟩;refine Bk ?_;refine H43.l 2 ?_;refine⟨_,_,_,_,_,_,_,H43.cells (i:=4) rfl,?_⟩;refine(Ah1 (d:=q2.data) (by rw[hqd];exact H43.get.1) (by rw[hqd];omega)).mono ?_;rintro _ w44 ⟨ba,bc,hbl,rfl,K44⟩;have hb44:=K44.below;have H44:=H43.callF K44;clear H43;simp only[aL]at H44;refine⟨_,_,_,_,rfl,?_⟩;refine⟨hb44.keeps,?_⟩;refine Bk ?_;refine⟨_,_,_,_,_,_,_,_,_,_,_,_,_,_,_,H44.cells (i:=2) rfl,?_⟩;refine H44.s 1 ?_;clear H44;intro w45 H45;simp only[aB,aA]at H45;refine⟨_,_,_,_,_,_,_,_,_,_,_,_,_,_,_,H45.cells (i:=1) rfl,?_⟩;rw[hbt];have hE:Qq t.lk.bits ⟨q2.sn,q2.part,q2.poll,q2.off,q2.data⟩=Qq s.lk.bits q2:=by rw[htl]
    rw[hE]at H45 hbl ⊢;rw[hq0];refine⟨_,_,_,_,hbl,rfl,(H45.shareE Bm (i:=3) rfl).fin.imp fun w h=>⟨?_,h.2.1⟩⟩;rw[htu];exact hUn h.2.2.2.1 h.2.2.2.2 h.1
   ·have hask:∀ {w':World} {K:Value->World->Prop},(s1.pieces=s.lk.every\/Ej s1.units<0)->St (fun _=>False) [] w w' [.blk b0 Ab (Aq s a c),.blk b1 Ab (Aq .zero none 0),.blk b Bb (Aq s1 (some ⟨g,0,none⟩) uc),.els Ba Ae 5 (some ⟨g,0,none⟩) uc L',.blk bp Ap (Fm q1 pa pc)] (fun w=>SlR (Bp .u8) 1 w pa q1.data/\Yq L' w/\Ad1 L' w)->
     Calls Tryz.prog Kl #[(.pointer (some ⟨b,0,none⟩)),(.pointer (some ⟨bp,0,none⟩))] w' fun e w42=>e=.returned (.tuple #[])/\∃(t:Sd) (q2:Pc),Qv s k u q1=(t,(Qq s.lk.bits q2).1,0)/\(Qq s.lk.bits q2).2=0/\q2.data=q1.data/\t.units=s1.units/\t.lk=s.lk/\St (fun _=>False) [] w w42 [.blk b0 Ab (Aq s a c),.blk b1 Ab (Aq .zero none 0),.blk b Bb (Aq t (some ⟨g,0,none⟩) uc),.els Ba Ae 5 (some ⟨g,0,none⟩) uc L',.blk bp Ap (Fm q2 pa pc)] (fun w=>SlR (Bp .u8) 1 w pa q1.data/\Yq L' w/\Ad1 L' w):=fun {w' K} hc H36=>by
     rw[aF hc]at hbT;refine Ac0 b 0 bp 0 w' ?_;refine H36.U 4 ?_;clear H36;intro w37 H37;simp only[aB,aA]at H37;refine H37.l 2 ?_;refine H37.U 2 ?_;clear H37;intro w38 H38;simp only[aB,aA]at H38;refine H38.U 2 ?_;clear H38;intro w39 H39;simp only[aB,aA]at H39;refine H39.m 2 ?_;refine⟨fun i=>((s1.units.length-i).toNat,fun w39=>∃j:Nat,i=j/\j<=s1.units.length/\St (fun _=>False) [] w w39 [.blk b0 Ab (Aq s a c),.blk b1 Ab (Aq .zero none 0),.blk b Bb (Aq { s1 with pieces:=0,left:=s1.lk.poll,poll:=Qp (s1.units.take j) s1.poll } (some ⟨g,0,none⟩) uc),.els Ba Ae 5 (some ⟨g,0,none⟩) uc L',.blk bp Ap (Fm { q1 with poll:=1 } pa pc)] (fun w=>SlR (Bp .u8) 1 w pa q1.data/\Yq L' w/\Ad1 L' w)),⟨0,rfl,by omega,H39⟩,?_⟩;clear H39;rintro _ i w39 ⟨j,rfl,hj39,H39⟩;apply Aa<;>intro c12
     ·have hjl:j<s1.units.length:=by omega
      have hstp:=Ak1 (d:=s1.poll) hjl;have hu39:=hUn H39.get.2.1 H39.get.2.2 (H39.slE Bm (i:=3) rfl);refine ixU hu39 j rfl hjl fun b8 hb8=>?_;obtain⟨_,_,_,_,hb8,_,_⟩:=hb8;refine⟨_,_,_,_,_,_,_,_,_,hb8,?_⟩;refine H39.alloc ?_;clear H39;intro b9 w40 H40;simp only[aD,aC]at H40;refine H40.s 5 ?_;clear H40;intro w41 H41;simp only[aB,aA]at H41;refine H41.l 5 ?_;apply Aa<;>intro c11
      ·rw[aF c11]at hstp;refine H41.l 5 ?_;refine H41.U 2 ?_;clear H41;intro w42 H42;simp only[aB,aA]at H42;refine Ao (by omega) ?_;exact⟨⟨j+1,by omega,by omega,by rw[hstp];exact St.dropLast (R:=[_,_,_,_,_]) H42⟩,by first|omega|(dsimp only;omega)⟩
      ·rw[aE c11]at hstp;refine Ao (by omega) ?_;exact⟨⟨j+1,by omega,by omega,by rw[hstp];exact St.dropLast (R:=[_,_,_,_,_]) H41⟩,by first|omega|(dsimp only;omega)⟩
     ·obtain rfl:j=s1.units.length:=by omega
      rw[bI]at H39;have hok2:Pc.ok s.lk.bits { q1 with poll:=1 }:=⟨hqo.1,hqo.2.1,hqo.2.2.1,⟨by show (0:Int)<=1;decide,by show (1:Int)<=1;decide⟩,hqo.2.2.2.2⟩;exact⟨rfl,Baa s1,{ q1 with poll:=1 },hbT,by rw[Qq,aF hok2],rfl,rfl,hl1,H39⟩
    refine H34.drew ?_;clear H34;intro w35 H35;refine⟨(· <w35.heap.size),?_⟩;refine Bk ?_;rw[Bd];refine H35.ld (i:=2) (x:=s1.pieces) rfl rfl ?_;refine Bk ?_;rw[Bd];refine H35.ld (i:=2) (x:=s1.lk.every) rfl rfl ?_;apply Aa<;>intro c10
    ·exact hask (K:=fun _ _=>True) (.inl (by rw[c10,hl1])) H35
    ·refine(Mf (s:=s1) (b:=b) (o:=0) ⟨_,uc,H35.cells (i:=2) rfl,hUn H35.get.2.1 H35.get.2.2 (H35.slE Bm (i:=3) rfl)⟩ (by omega)).mono ?_;rintro _ w36 ⟨rfl,hb36⟩;have H36:=H35.pass hb36;clear H35;refine⟨_,rfl,?_⟩;refine⟨hb36.keeps,?_⟩;apply Aa<;>intro c11
     ·exact hask (K:=fun _ _=>True) (.inr c11) H36
     ·rw[aE (fun h=>by
       rcases h with h|h
       ·exact c10 (by rw[h,hl1])
       ·exact c11 h)]at hbT
      refine⟨s1,q1,hbT,by rw[Qq,aF hqo],rfl,rfl,hl1,H36⟩
  ·
   refine H21.drew ?_;clear H21;intro w22 H22;refine⟨(· <w22.heap.size),?_⟩;refine Bk ?_;refine⟨H22.lt (i:=2) rfl rfl,?_⟩;refine H22.l 2 ?_;refine⟨H22.lt (i:=4) rfl rfl,?_⟩;refine⟨_,_,_,_,_,_,_,H22.cells (i:=4) rfl,?_⟩;have hcut:∀ {w':World} (T:List Res) {P:World->Prop} {K:Ending->World->Prop},St (fun _=>False) [] w w' T (fun w=>SlR (Bp .u8) 1 w da (Ch u).data/\P w)->
    (∀pa pc pa' pc' w'',Below w'.heap.size w' w''->St (fun _=>False) [] w w'' T (fun w=>SlR (Bp .u8) 1 w pa cu.1.data/\P w)->K (.returned (.tuple #[(.agg #[.int .i64 cu.1.sn,.int .i64 cu.1.part,.int .i64 cu.1.poll,.int .i64 cu.1.off,.slice pa cu.1.data.length pc]),(.agg #[.int .i64 cu.2.1.sn,.int .i64 cu.2.1.part,.int .i64 cu.2.1.poll,.int .i64 cu.2.1.off,.slice pa' cu.2.1.data.length pc']),.int .i64 cu.2.2])) w'')->
    Calls Tryz.prog Gb #[(.int .i64 s.lk.bits),(.agg #[.int .i64 (Ch u).sn,.int .i64 (Ch u).part,.int .i64 (Ch u).poll,.int .i64 (Ch u).off,.slice da (Ch u).data.length dc]),(.int .i64 size)] w' K:=fun {w'} T {P K} H hK=>by
    refine(Anw H.get.1 (by omega) hdc hsz).mono ?_;rintro _ w25 ⟨pa,pc,pa',pc',hpc,hpc',rfl,K25⟩;have H25:=H.callF K25;simp only[aL]at H25;have:=hK pa pc pa' pc' w25 K25.below (H25.imp fun w h=>⟨by rw[hcu];exact h.1.1,h.2.2⟩);rw[hcu]at this;exact this
   have fin2:∀ {w':World} {bp bq:Nat} {pa pa':Option Addr} {pc pc':Nat} {cs1 cs2:List Value},cs1.length=5->cs2.length=5->Below w22.heap.size w22 w'->w22.heap.size<=bp->w22.heap.size<=bq->
    St (fun _=>False) [] w w' (.blk b0 Ab (Aq s a c)::.blk b1 Ab (Aq .zero none 0)::.blk b Bb (Aq s (some ⟨g,0,none⟩) uc)::.els Ba Ae 5 (some ⟨g,0,none⟩) uc L::.blk q Ap (Fm (Ch u) da dc)::.blk bp Ap cs1::.blk bq Ap cs2::L.map agR) (fun w=>SlR (Bp .u8) 1 w pa cu.1.data/\DatR L w)->
    Ad w' ⟨bp,0,none⟩ 0 (Fm cu.1 pa pc) fun w48=>KeepsB (· <w22.heap.size) w22 w48/\Ad w48 ⟨bq,0,none⟩ 0 (Fm cu.2.1 pa' pc') fun w49=>KeepsB (· <w22.heap.size) w22 w49/\
     (cu.2.2=cu.2.2/\∃(bp':Nat) (pa:Option Addr) (pc:Nat),(⟨bp,0,none⟩:Addr)=⟨bp',0,none⟩/\
      St (fun _=>False) [] w w49 (.blk b0 Ab (Aq s a c)::.blk b1 Ab (Aq .zero none 0)::.blk b Bb (Aq s (some ⟨g,0,none⟩) uc)::.els Ba Ae 5 (some ⟨g,0,none⟩) uc L::.blk bp' Ap (Fm cu.1 pa pc)::L.map agR) (fun w=>SlR (Bp .u8) 1 w pa cu.1.data/\DatR L w)):=fun {w' bp bq pa pa' pc pc' cs1 cs2} h1 h2 hb hbp hbq H=>by
    refine H.storeF (i:=5) rfl (by rw[h1];rfl) (by rfl) ?_;intro w48 f48 H48;simp only[aB,aA]at H48;have hb48:=hb.frs f48 (by simpa using hbp) hb.size;refine⟨hb48.keeps,?_⟩;refine H48.storeF (i:=6) rfl (by rw[h2];rfl) (by rfl) ?_;intro w49 f49 H49;simp only[aB,aA]at H49;have hb49:=hb48.frs f49 (by simpa using hbq) hb48.size;refine⟨hb49.keeps,rfl,bp,pa,pc,rfl,?_⟩;have H50:=St.skip (X:=[_,_,_,_]) H49;exact St.skip (X:=[_,_,_,_,_]) H50
   have H22:St (fun _=>False) [] w w22 (.blk b0 Ab (Aq s a c)::.blk b1 Ab (Aq .zero none 0)::.blk b Bb (Aq s (some ⟨g,0,none⟩) uc)::.els Ba Ae 5 (some ⟨g,0,none⟩) uc L::.blk q Ap (Fm (Ch u) da dc)::L.map agR) (fun w=>SlR (Bp .u8) 1 w da (Ch u).data/\DatR L w):=H22;have hb0:=Below.refl w22.heap.size w22;refine⟨?_,?_,?_,trivial⟩
   ·refine hcut _ H22 fun pa pc pa' pc' wc hbc Hc=>?_;refine⟨_,_,_,_,_,_,_,_,_,_,_,_,_,_,_,rfl,?_⟩;have jc:=Ax hb0 (aG _) hbc;have jz:=jc.size;refine⟨jc.keeps,?_,?_,trivial⟩
    ·refine Hc.allocN ?_;intro x1 v1 e1 k1 K1;have K1:=St.lastTo (X:=[_,_,_,_,_]) K1;simp only[aD,aC]at K1;have j1:=Ax jc (aG _) k1;refine⟨j1.keeps,?_⟩;refine K1.allocN ?_;intro x2 v2 e2 k2 K2;have K2:=St.lastTo (X:=[_,_,_,_,_,_]) K2;simp only[aD,aC]at K2;have j2:=Ax j1 (aG _) k2;refine⟨j2.keeps,?_⟩;have jz1:=j1.size;exact fin2 rfl rfl j2 (by omega) (by omega) K2
    ·refine Hc.allocN ?_;intro x1 v1 e1 k1 K1;have K1:=St.lastTo (X:=[_,_,_,_,_]) K1;simp only[aD,aC]at K1;have j1:=Ax jc (aG _) k1;refine⟨j1.keeps,?_⟩;refine K1.allocN ?_;intro x2 v2 e2 k2 K2;have K2:=St.lastTo (X:=[_,_,_,_,_]) K2;simp only[aD,aC]at K2;have j2:=Ax j1 (aG _) k2;refine⟨j2.keeps,?_⟩;have jz1:=j1.size;exact fin2 rfl rfl j2 (by omega) (by omega) K2
   ·refine H22.allocN ?_;intro x1 v1 e1 k1 K1;have K1:=St.lastTo (X:=[_,_,_,_,_]) K1;simp only[aD,aC]at K1;have j1:=Ax hb0 (aG _) k1;have jz1:=j1.size;refine⟨j1.keeps,?_,?_,trivial⟩
    ·refine hcut _ K1 fun pa pc pa' pc' wc hbc Hc=>?_;refine⟨_,_,_,_,_,_,_,_,_,_,_,_,_,_,_,rfl,?_⟩;have jc:=Ax j1 (aG _) hbc;have jz:=jc.size;refine⟨jc.keeps,?_⟩;refine Hc.allocN ?_;intro x2 v2 e2 k2 K2;have K2:=St.lastTo (X:=[_,_,_,_,_,_]) K2;simp only[aD,aC]at K2;have j2:=Ax jc (aG _) k2;refine⟨j2.keeps,?_⟩;exact fin2 rfl rfl j2 (by omega) (by omega) K2
    ·refine K1.allocN ?_;intro x2 v2 e2 k2 K2;have K2:=St.lastTo (X:=[_,_,_,_,_,_]) K2;simp only[aD,aC]at K2;have j2:=Ax j1 (aG _) k2;refine⟨j2.keeps,?_⟩;refine hcut _ K2 fun pa pc pa' pc' wc hbc Hc=>?_;refine⟨_,_,_,_,_,_,_,_,_,_,_,_,_,_,_,rfl,?_⟩;have jc:=Ax j2 (aG _) hbc;refine⟨jc.keeps,?_⟩;exact fin2 rfl rfl jc (by omega) (by omega) Hc
   ·refine H22.allocN ?_;intro x1 v1 e1 k1 K1;have K1:=St.lastTo (X:=[_,_,_,_,_]) K1;simp only[aD,aC]at K1;have j1:=Ax hb0 (aG _) k1;have jz1:=j1.size;refine⟨j1.keeps,?_,?_,trivial⟩
    ·refine hcut _ K1 fun pa pc pa' pc' wc hbc Hc=>?_;refine⟨_,_,_,_,_,_,_,_,_,_,_,_,_,_,_,rfl,?_⟩;have jc:=Ax j1 (aG _) hbc;have jz:=jc.size;refine⟨jc.keeps,?_⟩;refine Hc.allocN ?_;intro x2 v2 e2 k2 K2;have K2:=St.lastTo (X:=[_,_,_,_,_]) K2;simp only[aD,aC]at K2;have j2:=Ax jc (aG _) k2;refine⟨j2.keeps,?_⟩;exact fin2 rfl rfl j2 (by omega) (by omega) K2
    ·refine K1.allocN ?_;intro x2 v2 e2 k2 K2;have K2:=St.lastTo (X:=[_,_,_,_,_]) K2;simp only[aD,aC]at K2;have j2:=Ax j1 (aG _) k2;refine⟨j2.keeps,?_⟩;refine hcut _ K2 fun pa pc pa' pc' wc hbc Hc=>?_;refine⟨_,_,_,_,_,_,_,_,_,_,_,_,_,_,_,rfl,?_⟩;have jc:=Ax j2 (aG _) hbc;refine⟨jc.keeps,?_⟩;exact fin2 rfl rfl jc (by omega) (by omega) Hc
 ·have hpd:(Ch u).data=(u.data.drop r.f.toNat).take (r.t.toNat-r.f.toNat):=by
   show (u.data.take (Dc u).t.toNat).drop (Dc u).f.toNat=_;rw[<-hr,List.drop_take]
  have hpl:(Ch u).data.length=r.t.toNat-r.f.toNat:=by rw[hpd,aU,bJ];omega
  refine H11.drew ?_;clear H11;intro w12 H12;obtain⟨hxd,hxc⟩:=H12.get.1 x hxm;rw[hxu]at hxd hxc;refine⟨(· <w12.heap.size),?_⟩;have c0:=H12.cellEl Bm (i:=3) rfl hkL (j:=0) (v:=.int .i64 u.sn) (by decide) (by rw[<-hx,<-hxu];rfl);have c1:=H12.cellEl Bm (i:=3) rfl hkL (j:=1) (v:=.slice x.a u.data.length x.c) (by decide) (by rw[<-hx,<-hxu];rfl);have l4:=H12.lt (i:=4) rfl rfl;refine⟨Dv c0,?_⟩;refine⟨_,c0,?_⟩;refine⟨l4,?_⟩;refine H12.l 4 ?_;refine⟨l4,?_⟩;refine H12.l 4 ?_;refine⟨Dv c1,?_⟩;refine⟨_,_,_,c1,?_⟩;refine⟨l4,?_⟩;refine H12.l 4 ?_;refine⟨Dv c1,?_⟩;refine⟨_,_,_,c1,?_⟩;refine⟨l4,?_⟩;refine H12.l 4 ?_;refine⟨l4,?_⟩;refine H12.l 4 ?_;refine⟨⟨by omega,by omega⟩,?_⟩;refine⟨⟨by omega,by omega⟩,?_⟩;have hda:∀w,DatR L w->SlR (Bp .u8) 1 w (Ay x.c r.f.toNat 1 x.a) (Ch u).data:=fun w h=>by
   have h1:=(h x hxm).1;rw[hxu]at h1;rw[hpd];exact h1.cutE hxc _
  have epc:[(.int .i64 u.sn),(.int .i64 (Jb (decide (r.f=0)) (decide (r.t=u.data.length)))),(.int .i64 (0:Int)),(.int .i64 r.f),(.slice (Ay x.c r.f.toNat 1 x.a) (r.t.toNat-r.f.toNat) (x.c-r.f.toNat))]=Fm (Ch u) (Ay x.c r.f.toNat 1 x.a) (x.c-r.f.toNat):=by
   rw[<-hpl];unfold Fm;rw[hr];rfl
  have fin:∀ {w':World} {bq:Nat} {cs:List Value},cs.length=5->St (fun _=>False) [] w w' ((.blk b0 Ab (Aq s a c)::.blk b1 Ab (Aq .zero none 0)::.blk b Bb (Aq s (some ⟨g,0,none⟩) uc)::.els Ba Ae 5 (some ⟨g,0,none⟩) uc L::.blk b3 Af [.int .i64 r.sn,.int .i64 r.f,.int .i64 r.t]::L.map agR)++[.blk bq Ap cs]) (fun w=>DatR L w/\True)->
   Ad w' ⟨bq,0,none⟩ 0 [(.int .i64 u.sn),(.int .i64 (Jb (decide (r.f=0)) (decide (r.t=u.data.length)))),(.int .i64 (0:Int)),(.int .i64 r.f),(.slice (Ay x.c r.f.toNat 1 x.a) (r.t.toNat-r.f.toNat) (x.c-r.f.toNat))] fun w21=>
    ∃(q:Nat) (da:Option Addr) (dc:Nat),(⟨bq,0,none⟩:Addr)=⟨q,0,none⟩/\(Ch u).data.length<=dc/\St (fun _=>False) [] w w21 (.blk b0 Ab (Aq s a c)::.blk b1 Ab (Aq .zero none 0)::.blk b Bb (Aq s (some ⟨g,0,none⟩) uc)::.els Ba Ae 5 (some ⟨g,0,none⟩) uc L::.blk b3 Af [.int .i64 r.sn,.int .i64 r.f,.int .i64 r.t]::.blk q Ap (Fm (Ch u) da dc)::L.map agR) (fun w=>SlR (Bp .u8) 1 w da (Ch u).data/\DatR L w):=fun {w' bq cs} hcs H=>by
   have H1:=St.lastTo (X:=[_,_,_,_,_]) H;simp only[aD,aC]at H1;rw[epc];refine H1.store (i:=5) rfl (by rw[hcs];rfl) (by rfl) ?_;intro w21 H2;simp only[aB,aA]at H2;exact⟨bq,_,_,rfl,by omega,H2.imp fun w h=>⟨hda w h.1,h.1⟩⟩
  refine⟨?_,?_,trivial⟩
  ·refine segment_Part_ct.mono ?_;rintro _ w16 ⟨rfl,hb16⟩;have H16:=H12.pass hb16;refine⟨_,rfl,?_⟩;refine⟨hb16.keeps,?_⟩;refine⟨?_,?_,trivial⟩
   ·refine⟨hb16.keeps,?_⟩;refine H16.allocB ?_;intro b6 w19 hb19 H19;refine⟨(Ax hb16 (aG _) hb19).keeps,?_⟩;exact fin rfl H19
   ·refine H16.allocB ?_;intro b6 w19 hb19 H19;refine⟨(Ax hb16 (aG _) hb19).keeps,?_⟩;refine⟨(Ax hb16 (aG _) hb19).keeps,?_⟩;exact fin rfl H19
  ·refine H12.allocB ?_;intro b4 w13 hb13 H13;refine⟨hb13.keeps,?_⟩;refine segment_Part_ct.mono ?_;rintro _ w14 ⟨rfl,hb14⟩;have H14:=H13.pass hb14;refine⟨_,rfl,?_⟩;replace hb14:=Ax hb13 (aG _) hb14;refine⟨hb14.keeps,?_⟩;refine⟨hb14.keeps,?_⟩;exact fin rfl H14
theorem RetO.fresh{w w':World}{x:Sd}{E:Int}{e:Ending}(h:RetO w x E e w'):∃a c,e=.returned (.tuple #[Sg x a c,.int .i64 E])/\Ti w w' fun w=>UnR w a x.units:=by
 obtain⟨a,c,L,hL,he,H⟩:=h;have K:=(Gp (R:=[.els Ba Ae 5 a c L]) H).shareE Bm (i:=0) rfl;exact⟨a,c,he,K.fin.imp fun w h=>by rw[<-hL];exact Nt h.1 h.2.2.out h.2.1⟩
def GU(L:List Un):Prop:=SmU L/\∀u∈L,Bytes u.data
theorem Aze:GU []:=⟨⟨by simp,fun u hu=>by simp at hu⟩,fun u hu=>by simp at hu⟩
theorem Lw:GU Sd.zero.units:=Aze
theorem Axg{L L':List Un}{n:Nat}(h:GU L)(hn:n<=1000000)(hl:L'.length<=L.length)(hm:∀u∈L',∃v∈L,u.data=v.data/\(u.again.length<=v.again.length\/u.again.length<=n)):GU L':=by
 obtain⟨⟨h1,h2⟩,h3⟩:=h;refine⟨⟨by omega,fun u hu=>?_⟩,fun u hu=>?_⟩
 ·obtain⟨v,hv,e,h⟩:=hm u hu;have:=h2 v hv;rw[e];omega
 ·obtain⟨v,hv,e,_⟩:=hm u hu;rw[e];exact h3 v hv
theorem Azi{s:Sd}{d:List Int}(h:GU s.units)(hd:Bytes d):GU (Lj s d (Cq s)).1.units:=by
 unfold Lj;split
 ·exact Lw
 ·rename_i hE;split
  ·exact Lw
  ·rename_i hl;split
   ·exact Lw
   ·obtain⟨hok,_⟩:=Amx (Decidable.not_not.1 hE);have hf:=(Na hok).1.1;obtain⟨⟨h1,h2⟩,h3⟩:=h;refine⟨⟨by simp only[aP,aQ,cU];omega,fun u hu=>?_⟩,fun u hu=>?_⟩
    ·rcases aW.1 hu with hu|hu
     ·exact h2 u hu
     ·simp at hu;subst hu;simp;omega
    ·rcases aW.1 hu with hu|hu
     ·exact h3 u hu
     ·simp at hu;subst hu;exact hd
theorem Tw(u:Un)(n:Int):(Dj u n).data=u.data/\(Dj u n).sn=u.sn/\(Dj u n).again.length<=u.again.length:=by
 unfold Dj;cases h:u.again with
 |nil=>exact⟨rfl,rfl,by simp[h]⟩
 |cons r l=>dsimp only;split<;>exact⟨rfl,rfl,by simp⟩
theorem Afw{α:Type}{L:List α}{k:Nat}{x u:α}(h:u∈L.set k x):u∈L\/(u=x/\k<L.length):=by
 rcases bM h with h1|h1
 ·exact .inl h1
 ·by_cases hk:k<L.length
  ·exact .inr ⟨h1,hk⟩
  ·rw[List.set_eq_of_length_le (by omega)]at h;exact .inl h
theorem Atx{s:Sd}{size:Int}(h:GU s.units):GU (Ca s size (Cq s)).1.units:=by
 unfold Ca;split
 ·exact Lw
 ·split
  ·exact Lw
  ·split
   ·exact Lw
   ·split
    ·exact Lw
    ·rename_i u hu;split
     ·exact Lw
     ·have key:GU (s.units.set (Ej s.units).toNat (Dj u (Hz s.lk.bits (Ch u) size).1.data.length)):=by
       refine Axg (n:=0) h (by omega) (by simp) fun v hv=>?_;have hum:u∈s.units:=bL hu;rcases Afw hv with hv|⟨rfl,_⟩
       ·exact⟨v,hv,rfl,.inl (aG _)⟩
       ·exact⟨u,hum,(Tw u _).1,.inl (Tw u _).2.2⟩
      unfold Qv;dsimp only;split<;>exact key
theorem Ba9{s:Sd}(h:GU s.units):GU (Hr s (Cq s)).1.units:=by
 have last:∀t:Sd,t.units=s.units->GU (Acx t).units:=fun t ht=>by
  unfold Acx;split
  ·rw[ht];exact h
  ·rename_i u hu;have hum:u∈t.units:=bL hu;rw[ht]at hum;split
   ·refine Axg (n:=1) h (by omega) (by rw[ht];simp) fun v hv=>?_;rw[ht]at hv;rcases Afw hv with hv|⟨rfl,_⟩
    ·exact⟨v,hv,rfl,.inl (aG _)⟩
    ·exact⟨u,hum,rfl,.inr (by simp[Rz])⟩
   ·refine Axg (n:=1) h (by omega) (by rw[ht];simp) fun v hv=>?_;rw[ht]at hv;rcases Afw hv with hv|⟨rfl,_⟩
    ·exact⟨v,hv,rfl,.inl (aG _)⟩
    ·exact⟨u,hum,rfl,.inr (by simp[Rz])⟩
 unfold Hr;split
 ·exact Lw
 ·split
  ·exact h
  ·split
   ·exact h
   ·unfold Ahu;dsimp only;split
    ·exact h
    ·exact last _ rfl
theorem Axf{s:Sd}{r:Stt}:∀(k:Nat),k<=s.units.length->∀u∈(Io s r k).1,∃v∈s.units,u.data=v.data/\u.sn=v.sn/\u.sent=v.sent/\(u.again=v.again\/u.again=(Cu v r.miss).1)
 |0,_,u,hu=>by simp[Io]at hu
 |k+1,hk,u,hu=>by
  have ih:=Axf (s:=s) (r:=r) k (by omega);rw[Adv (by omega)]at hu;have hm:s.units[k]'(by omega)∈s.units:=aJ _;unfold Kj at hu;split at hu
  ·rcases aW.1 hu with hu|hu
   ·exact ih u hu
   ·simp at hu;subst hu;exact⟨_,hm,rfl,rfl,rfl,.inl rfl⟩
  ·split at hu
   ·split at hu
    ·split at hu
     ·rcases aW.1 hu with hu|hu
      ·exact ih u hu
      ·simp at hu;subst hu;exact⟨_,hm,rfl,rfl,rfl,.inr rfl⟩
     ·rcases aW.1 hu with hu|hu
      ·exact ih u hu
      ·simp at hu;subst hu;exact⟨_,hm,rfl,rfl,rfl,.inr rfl⟩
    ·rcases aW.1 hu with hu|hu
     ·exact ih u hu
     ·simp at hu;subst hu;exact⟨_,hm,rfl,rfl,rfl,.inr rfl⟩
   ·split at hu
    ·exact ih u hu
    ·rcases aW.1 hu with hu|hu
     ·exact ih u hu
     ·simp at hu;subst hu;exact⟨_,hm,rfl,rfl,rfl,.inl rfl⟩
theorem Bbp{s:Sd}{r:Stt}(h:GU s.units)(hr:r.miss.length<=1000000):GU (Sp s r).1.units:=by
 unfold Sp;split
 ·exact Lw
 ·split
  ·exact Lw
  ·split
   ·exact Lw
   ·have e:(Ad3 s r).units=(Io s r s.units.length).1:=by
     unfold Ad3 Io;rw[bI]
    rw[e];refine Axg (n:=r.miss.length) h hr (Aib (aG _)) fun u hu=>?_;obtain⟨v,hv,h1,_,_,h2⟩:=Axf _ (aG _) u hu;refine⟨v,hv,h1,?_⟩;rcases h2 with h2|h2
    ·exact .inl (by rw[h2];exact aG _)
    ·refine .inr ?_;rw[h2];have:=Adl (u:=v) (M:=r.miss) (k:=r.miss.length) (aG _);rwa[bI]at this
theorem An8{xs:List Int}:Bytes xs↔∀x∈xs,0<=x/\x<256:=
 ⟨fun h x hx=>by obtain⟨i,hi,rfl⟩:=bF hx;exact h i hi,fun h i hi=>h _ (aJ hi)⟩
theorem Aku{s:Sd}{size:Int}(h:GU s.units):Bytes (Ca s size (Cq s)).2.1:=by
 have nb:Bytes []:=fun i hi=>by simp at hi
 unfold Ca;split
 ·exact nb
 ·split
  ·exact nb
  ·split
   ·exact nb
   ·split
    ·exact nb
    ·rename_i u hu;split
     ·exact nb
     ·have hum:u∈s.units:=bL hu;have hd:=An8.1 (h.2 u hum);have hp:∀x∈(Ch u).data,x∈u.data:=fun x hx=>dE (cD hx);have hc:∀x∈(Hz s.lk.bits (Ch u) size).1.data,x∈(Ch u).data:=fun x hx=>by
       unfold Hz at hx;split at hx
       ·simp[Pc.zero]at hx
       ·split at hx
        ·simp[Pc.zero]at hx
        ·split at hx
         ·exact hx
         ·exact dE hx
      have hb:Bytes (Hz s.lk.bits (Ch u) size).1.data:=An8.2 fun x hx=>hd x (hp x (hc x hx));unfold Qv;dsimp only;split
      ·exact Am8 hb
      ·exact Am8 hb
end Go.Proofs.YtmbppohkadmjgaaGreat
namespace Go.Sx
def As7(s:Sd)(v u:Un):Prop:=s.place v.sn<s.place u.sn/\(0<u.sent->Ef v)
theorem Lu{l:Lk}{u:Un}:unB l u=true↔Aah l u/\Cc (-1) u.again=true/\∀r∈u.again,r.sn=u.sn/\r.t<=u.sent:=by
 unfold unB;simp only[aH,aO,bP,bW,Ar9];constructor
 ·rintro⟨⟨h1,h2⟩,h3⟩;exact⟨h1,h2,fun r hr=>by have:=h3 r hr;omega⟩
 ·rintro⟨h1,h2,h3⟩;exact⟨⟨h1,h2⟩,fun r hr=>by have:=h3 r hr;omega⟩
structure OkS (s:Sd):Prop where
 lk:Ir s.lk
 first:Bt s.lk.bits s.first
 next:Bt s.lk.bits s.next
 win:s.place s.next<=2^(s.lk.bits-1).toNat
 nil:s.units=[]->s.next=s.first
 head:∀u l,s.units=u::l->u.sn=s.first
 all:∀u∈s.units,unB s.lk u=true/\s.place u.sn<s.place s.next
 pw:s.units.Pairwise (As7 s)
 pieces:0<=s.pieces/\s.pieces<=s.lk.every-1
 poll:s.poll=-1->s.left=0
 asked:s.poll≠ -1->(∃u∈s.units,u.sn=s.poll/\0<u.sent)/\1<=s.left/\s.left<=s.lk.poll
theorem Azb{b a x:Int}(hb:Bv b)(h:way b a x+1<2^b.toNat):way b a ((x+1)%2^b.toNat)=way b a x+1:=by
 unfold way at h ⊢;rcases Cm hb with e|e|e|e|e<;>rw[e]at h ⊢ <;>omega
theorem Ax6{b a f x:Int}(hb:Bv b)(h:way b a f<=way b a x):way b f x=way b a x-way b a f:=by
 unfold way at h ⊢;rcases Cm hb with e|e|e|e|e<;>rw[e]at h ⊢ <;>omega
theorem Ayx{b a:Int}:way b a a=0:=by simp[way]
theorem Awn{b:Int}(hb:Bv b):(2:Int)^(b-1).toNat<2^b.toNat/\(16:Int)<=2^(b-1).toNat:=by
 have:=Oc hb;omega
theorem OkS.same{s t:Sd}(h:OkS s)(hlk:t.lk=s.lk)(hf:t.first=s.first)(hn:t.next=s.next)(hu:t.units=s.units)(hp:0<=t.pieces/\t.pieces<=s.lk.every-1)(h1:t.poll=-1->t.left=0)
 (h2:t.poll≠ -1->(∃u∈t.units,u.sn=t.poll/\0<u.sent)/\1<=t.left/\t.left<=s.lk.poll):OkS t:=by
 have hpl:∀x,t.place x=s.place x:=fun x=>by unfold Sd.place;rw[hlk,hf]
 refine⟨by rw[hlk];exact h.lk,by rw[hlk,hf];exact h.first,by rw[hlk,hn];exact h.next,by rw[hpl,hlk,hn];exact h.win,by rw[hu,hn,hf];exact h.nil,by rw[hu,hf];exact h.head,?_,?_,by rw[hlk];exact hp,h1,by rw[hlk];exact h2⟩
 ·rw[hu,hlk,hn];intro u hm;rw[hpl,hpl];exact h.all u hm
 ·rw[hu];refine h.pw.imp fun {v u} hr=>?_;unfold As7;rw[hpl,hpl];exact hr
theorem Bby{s:Sd}{d:List Int}{E:Int}(h:OkS s)(he:(Lj s d E).2=0):OkS (Lj s d E).1/\(Lj s d E).1.lk=s.lk/\(Lj s d E).1.failed=s.failed:=by
 unfold Lj at he ⊢;by_cases hE:E≠0
 ·rw[aF hE]at he;exact absurd he hE
 rw[aE hE]at he ⊢;by_cases hd:¬(1<=d.length/\d.length<=2054)
 ·rw[aF hd]at he;exact absurd he (by decide)
 rw[aE hd]at he ⊢;by_cases hf:s.place s.next=2^(s.lk.bits-1).toNat
 ·rw[aF hf]at he;exact absurd he (by decide)
 rw[aE hf];refine⟨?_,rfl,rfl⟩;have hb:=h.lk.1;have hh:=Awn hb;have hw:=h.win;obtain⟨u0,hu0⟩:∃u:Un,u=⟨s.next,d,0,0,[]⟩:=⟨_,rfl⟩;obtain⟨t,ht⟩:∃t:Sd,t={ s with units:=s.units++[⟨s.next,d,0,0,[]⟩],next:=(s.next+1)%2^s.lk.bits.toNat }:=⟨_,rfl⟩;have hpl:∀x,t.place x=s.place x:=fun x=>by rw[ht];rfl
 have hnx:t.place t.next=s.place s.next+1:=by
  rw[hpl,ht];exact Azb hb (show s.place s.next+1<_ by omega)
 have hmem:∀u∈t.units,u∈s.units\/u=u0:=fun u hu=>by
  rw[ht]at hu;simpa [hu0] using hu
 have hlk:t.lk=s.lk:=by rw[ht]
 have hu:t.units=s.units++[u0]:=by rw[ht,hu0]
 rw[<-ht];refine⟨by rw[hlk];exact h.lk,by rw[ht];exact h.first,?_,?_,?_,?_,?_,?_,by rw[ht];exact h.pieces,by rw[ht];exact h.poll,?_⟩
 ·rw[ht];show Bt s.lk.bits ((s.next+1)%2^s.lk.bits.toNat);unfold Bt;have:(0:Int)<2^s.lk.bits.toNat:=by omega
  exact⟨cV _ (by omega),cN _ this⟩
 ·rw[hnx,hlk];omega
 ·intro hn;rw[hu]at hn;simp at hn
 ·intro v l hv;rw[hu]at hv;rw[show t.first=s.first by rw[ht]];cases hs:s.units with
  |nil=>
   rw[hs]at hv;simp at hv;rw[<-hv.1,hu0];exact h.nil hs
  |cons x m=>
   rw[hs]at hv;simp at hv;rw[<-hv.1];exact h.head x m hs
 ·intro u hm;rw[hnx,hpl,hlk];rcases hmem u hm with hm|rfl
  ·have:=h.all u hm;exact⟨this.1,by omega⟩
  ·rw[hu0];refine⟨Lu.2 ⟨⟨h.next,by dsimp only;omega,by dsimp only;omega,?_⟩,rfl,fun r hr=>by simp at hr⟩,by dsimp only;omega⟩;have:=h.lk.2.2.2.2.2;dsimp only;omega
 ·rw[hu,List.pairwise_append];refine⟨h.pw.imp fun {v u} hr=>by unfold As7;rw[hpl,hpl];exact hr,by simp,fun v hv u hm=>?_⟩;simp at hm;subst hm;unfold As7;rw[hpl,hpl];have:=(h.all v hv).2;rw[hu0];exact⟨this,fun h=>by dsimp only at h;omega⟩
 ·intro hp;rw[ht]at hp ⊢;obtain⟨⟨u,hm,h1,h2⟩,h3⟩:=h.asked hp;exact⟨⟨u,by simp[hm],h1,h2⟩,h3⟩
theorem Awc:∀ {l:List Rg} {p q:Int},q<=p->Cc p l=true->Cc q l=true
 | [],_,_,_,_=>rfl
 |r::l,p,q,hpq,h=>by
  simp only[Cc,aH,aO]at h ⊢;exact⟨⟨by omega,h.1.2⟩,h.2⟩
theorem Ayf{L:List Un}:Ej L<0↔∀u∈L,Up u=false/\Ly u=false:=by
 have key:∀(p:Un->Bool),idx p L<0↔∀u∈L,p u=false:=fun p=>by
  have:=Yz p L;constructor
  ·intro h u hu;have h0:decide (idx p L>=0)=false:=by simp;omega
   rw[h0]at this;simpa using (bW.1 this.symm u hu)
  ·intro h;have:L.any p=false:=bW.2 fun u hu=>by rw[h u hu];decide
   rw[<-Yz p L]at this;simp at this;omega
 unfold Ej;split
 ·rename_i h;constructor
  ·intro h';omega
  ·intro h';have:=(key Up).2 fun u hu=>(h' u hu).1;omega
 ·rename_i h;rw[key Ly];have:=(key Up).1 (by omega);exact⟨fun h u hu=>⟨this u hu,h u hu⟩,fun h u hu=>(h u hu).2⟩
theorem Avp{L:List Un}{k:Nat}(hk:k<L.length)(h:Ej L=k):(Up L[k]=true/\∀j (hj:j<k),Up (L[j]'(by omega))=false)\/((∀u∈L,Up u=false)/\Ly L[k]=true/\∀j (hj:j<k),Ly (L[j]'(by omega))=false):=by
 have first:∀(p:Un->Bool),idx p L=k->p L[k]=true/\∀j (hj:j<k),p (L[j]'(by omega))=false:=fun p hp=>by
  unfold idx at hp;split at hp
  ·rename_i i hi;obtain⟨h1,h2,h3⟩:=List.findIdx?_eq_some_iff_getElem.1 hi;obtain rfl:i=k:=by omega
   exact⟨h2,fun j hj=>by simpa using h3 j hj⟩
  ·omega
 unfold Ej at h;split at h
 ·exact .inl (first _ h)
 ·rename_i hn;refine .inr ⟨fun u hu=>?_,(first _ h).1,(first _ h).2⟩;have:=Yz Up L;rw[show decide (idx Up L>=0)=false by simpa using hn]at this;simpa using bW.1 this.symm u hu
theorem Auc{l:Lk}{u:Un}{n:Int}(h:unB l u=true)(hl:Up u=true\/Ly u=true)(hn:1<=n)(hn2:(Dc u).f+n<=(Dc u).t):unB l (Dj u n)=true/\u.sent<=(Dj u n).sent/\0<(Dj u n).sent/\(u.again≠[]->(Dj u n).sent=u.sent)/\(u.again=[]->(Dj u n).sent=u.sent+n):=by
 have hin:=Abs h hl;obtain⟨h1,h2,h3⟩:=Lu.1 h;obtain⟨hs,hd,ht,hr⟩:=h1;unfold Dj;unfold Dc at hin hn2;cases ha:u.again with
 |nil=>
  rw[ha]at hin hn2;dsimp only at hin hn2 ⊢;refine⟨Lu.2 ⟨⟨hs,hd,by dsimp only;omega,hr⟩,rfl,fun r hr=>(by simp at hr)⟩,by omega,by omega,fun h=>absurd rfl h,fun _=>rfl⟩
 |cons r m=>
  rw[ha]at hin hn2 h2 h3;dsimp only at hin hn2 ⊢;simp only[Cc,aH,aO]at h2;have hr0:=h3 r (by simp);split
  ·refine⟨Lu.2 ⟨⟨hs,hd,ht,hr⟩,Awc (by omega) h2.2,fun x hx=>h3 x (by simp[hx])⟩,bV _,by dsimp only;omega,fun _=>rfl,fun h=>(by cases h)⟩
  ·refine⟨Lu.2 ⟨⟨hs,hd,ht,hr⟩,?_,fun x hx=>?_⟩,bV _,by dsimp only;omega,fun _=>rfl,fun h=>(by cases h)⟩
   ·dsimp only;simp only[Cc,aH,aO];exact⟨by omega,h2.2⟩
   ·rcases bB.1 hx with rfl|hx
    ·exact hr0
    ·exact h3 x (by simp[hx])
theorem Afl:∀(L:List Un) (d:Int),(∃u∈L,0<u.sent)->∃u∈L,u.sn=Qp L d/\0<u.sent
 | [],_,⟨u,hu,_⟩=>by simp at hu
 |x::L,d,⟨u,hu,hs⟩=>by
  have e:Qp (x::L) d=Qp L (if 0<x.sent then x.sn else d):=rfl;rw[e];by_cases h:∃u∈L,0<u.sent
  ·obtain⟨v,hv,h1,h2⟩:=Afl L (if 0<x.sent then x.sn else d) h;exact⟨v,by simp[hv],h1,h2⟩
  ·have hx:u=x:=by
    rcases bB.1 hu with h1|h1
    ·exact h1
    ·exact absurd ⟨u,h1,hs⟩ h
   subst hx;have none:∀(L:List Un) (d:Int),(∀v∈L,¬0<v.sent)->Qp L d=d:=by
    intro L;induction L with
    |nil=>intro d _;rfl
    |cons y L ih=>
     intro d hL;have e:Qp (y::L) d=Qp L (if 0<y.sent then y.sn else d):=rfl;rw[e,aE (hL y (by simp)),ih d fun v hv=>hL v (by simp[hv])]
   rw[aF hs,none L _ fun v hv hp=>h ⟨v,hv,hp⟩];exact⟨u,by simp,rfl,hs⟩
end Go.Sx
namespace Go.Sx
open Go.Proofs.YtmbppohkadmjgaaGreat
theorem OkS.set{s t:Sd}(h:OkS s){k:Nat}(hk:k<s.units.length){u':Un}(hsn:u'.sn=s.units[k].sn)(hub:unB s.lk u'=true)(hb:0<u'.sent->∀j (hj:j<k),Ef (s.units[j]'(by omega)))
 (ha:∀j (hj:j<s.units.length),k<j->0<s.units[j].sent->Ef u') (hlk:t.lk=s.lk) (hf:t.first=s.first) (hn:t.next=s.next) (hu:t.units=s.units.set k u') (hp:0<=t.pieces/\t.pieces<=s.lk.every-1) (h1:t.poll=-1->t.left=0)
 (h2:t.poll≠ -1->(∃u∈t.units,u.sn=t.poll/\0<u.sent)/\1<=t.left/\t.left<=s.lk.poll):OkS t:=by
 have hpl:∀x,t.place x=s.place x:=fun x=>by unfold Sd.place;rw[hlk,hf]
 refine⟨by rw[hlk];exact h.lk,by rw[hlk,hf];exact h.first,by rw[hlk,hn];exact h.next,by rw[hpl,hlk,hn];exact h.win,?_,?_,?_,?_,by rw[hlk];exact hp,h1,by rw[hlk];exact h2⟩
 ·intro hnil;rw[hu]at hnil;have:=cI List.length hnil;simp at this;rw[this]at hk;simp at hk
 ·intro v l hv;rw[hf];have h0:0<s.units.length:=by omega
  have h0':t.units[0]?=some v:=by rw[hv];rfl
  rw[hu]at h0';cases hs:s.units with
  |nil=>rw[hs]at h0;simp at h0
  |cons x m=>
   have hx:=h.head x m hs;rcases dK k with rfl|hk0
   ·rw[List.getElem?_set_self h0]at h0';injection h0' with h0'
    rw[<-h0',hsn];simp only[hs,cW];exact hx
   ·rw[List.getElem?_set_ne (by omega),hs]at h0';injection h0' with h0'
    rw[<-h0'];exact hx
 ·intro u hm;rw[hpl,hpl,hlk,hn];rw[hu]at hm;rcases bM hm with hm|rfl
  ·exact h.all u hm
  ·exact⟨hub,by rw[hsn];exact(h.all _ (aJ hk)).2⟩
 ·rw[hu,cK];intro i j hi hj hij;simp only[bE]at hi hj;have hr:=cK.1 h.pw i j hi hj hij;unfold As7 at hr ⊢;simp only[hpl,List.getElem_set];by_cases e1:k=i<;>by_cases e2:k=j
  ·omega
  ·subst e1;rw[aF rfl,aE e2,hsn];exact⟨hr.1,fun h=>ha j hj hij h⟩
  ·subst e2;rw[aE e1,aF rfl,hsn];exact⟨hr.1,fun h=>hb h i hij⟩
  ·rw[aE e1,aE e2];exact hr
theorem Ark{s:Sd}{size E:Int}(h:OkS s)(he:(Ca s size E).2.2=0):∃(k:Nat) (hk:k<s.units.length) (q:Pc),Ej s.units=k/\q=(Hz s.lk.bits (Ch s.units[k]) size).1/\(Hz s.lk.bits (Ch s.units[k]) size).2.2=0/\Ca s size E=Qv s k s.units[k] q/\
 q.ok s.lk.bits/\q.poll=0/\1<=q.data.length/\(Dc s.units[k]).f+q.data.length<=(Dc s.units[k]).t:=by
 unfold Ca at he;by_cases hE:E≠0
 ·rw[aF hE]at he;exact absurd he hE
 rw[aE hE]at he;by_cases hz:¬(0<=size/\size<=4096)
 ·rw[aF hz]at he;exact absurd he (by decide)
 rw[aE hz]at he;by_cases hl:Ej s.units<0
 ·rw[aF hl]at he;exact absurd he (by decide)
 rw[aE hl]at he;obtain⟨k,hk,hlk⟩:=Apc (L:=s.units) (by omega);have hkn:(Ej s.units).toNat=k:=by omega
 simp only[hkn,List.getElem?_eq_getElem hk]at he;by_cases hc:(Hz s.lk.bits (Ch s.units[k]) size).2.2≠0
 ·rw[aF hc]at he;exact absurd he hc
 rw[aE hc]at he;have hc:=Decidable.not_not.1 hc;obtain⟨hq,hp⟩:=Awg hc;have hlen:=Aw9 s.lk.bits (Ch s.units[k]) size;have hin:=Abs (h.all _ (aJ hk)).1 (Qm hk hlk);have hpl:(Ch s.units[k]).data.length=(Dc s.units[k]).t.toNat-(Dc s.units[k]).f.toNat:=by
  show ((s.units[k].data.take _).drop _).length=_;rw[bJ,aU];omega
 refine⟨k,hk,_,hlk,rfl,hc,?_,hq,by rw[hp];rfl,hq.2.2.2.2.2.2.1,by omega⟩;unfold Ca;rw[aE hE,aE hz,aE hl];simp only[hkn,List.getElem?_eq_getElem hk];rw[aE (by rw[hc];decide)]
theorem Bab{s:Sd}(h:OkS s){k:Nat}(hk:k<s.units.length)(hl:Ej s.units=k){n:Int}(hn:1<=n)(hn2:(Dc s.units[k]).f+n<=(Dc s.units[k]).t):(0<(Dj s.units[k] n).sent->∀j (hj:j<k),Ef (s.units[j]'(by omega)))/\(∀j (hj:j<s.units.length),k<j->0<s.units[j].sent->Ef (Dj s.units[k] n)):=by
 have hau:=Qm hk hl;have htk:=Auc (h.all _ (aJ hk)).1 hau hn hn2;have hd:=(Tw s.units[k] n).1;by_cases hag:s.units[k].again=[]
 ·have hs:(∀u∈s.units,Up u=false)/\Ly s.units[k]=true/\∀j (hj:j<k),Ly (s.units[j]'(by omega))=false:=by
   rcases Avp hk hl with h1|h1
   ·have:=h1.1;unfold Up at this;rw[hag]at this;simp at this
   ·exact h1
  refine⟨fun _ j hj=>?_,fun j hj hkj h0=>?_⟩
  ·have:=hs.2.2 j hj;unfold Ly at this;simpa using this
  ·have:=(cK.1 h.pw k j hk hj hkj).2 h0;have h3:=hs.2.1;unfold Ly at h3;simp at h3;exact absurd this h3
 ·have hse:=htk.2.2.2.1 hag;refine⟨fun h0 j hj=>?_,fun j hj hkj h0=>?_⟩
  ·rw[hse]at h0;exact(cK.1 h.pw j k (by omega) hk hj).2 h0
  ·have:=(cK.1 h.pw k j hk hj hkj).2 h0;unfold Ef at this ⊢;rw[hse,hd];exact this
theorem Ay4{s:Sd}{size E:Int}(h:OkS s)(he:(Ca s size E).2.2=0):OkS (Ca s size E).1/\(Ca s size E).1.lk=s.lk/\(Ca s size E).1.failed=s.failed:=by
 obtain⟨k,hk,q,hl,-,-,hb,-,-,hn,hn2⟩:=Ark h he;have hmu:=aJ hk;have htk:=Auc (n:=q.data.length) (h.all _ hmu).1 (Qm hk hl) (by omega) hn2;have htd:=Tw s.units[k] q.data.length;have hts:=Bab h hk hl (n:=q.data.length) (by omega) hn2;have hmem:Dj s.units[k] q.data.length∈s.units.set k (Dj s.units[k] q.data.length):=bL (List.getElem?_set_self hk);have hkeep:∀x:Int,(∃u∈s.units,u.sn=x/\0<u.sent)->∃u∈s.units.set k (Dj s.units[k] q.data.length),u.sn=x/\0<u.sent:=fun x ⟨u,hu,h1,h2⟩=>by
  obtain⟨j,hj,rfl⟩:=bF hu;by_cases hjk:k=j
  ·subst hjk;exact⟨_,hmem,by rw[htd.2.1];exact h1,htk.2.2.1⟩
  ·exact⟨s.units[j],bL (by rw[List.getElem?_set_ne hjk,List.getElem?_eq_getElem hj]),h1,h2⟩
 rw[hb];unfold Qv;dsimp only;have hpc:=h.pieces;have hev:=h.lk.2.1;split
 ·refine⟨h.set hk (u':=Dj s.units[k] q.data.length) htd.2.1 htk.1 hts.1 hts.2 rfl rfl rfl rfl ⟨bV _,by show (0:Int)<=_;omega⟩ (fun hp=>?_) (fun _=>?_),rfl,rfl⟩
  ·obtain⟨u,hu,h1,h2⟩:=Afl (s.units.set k (Dj s.units[k] q.data.length)) s.poll ⟨_,hmem,htk.2.2.1⟩;have hp:Qp (s.units.set k (Dj s.units[k] q.data.length)) s.poll=-1:=hp;rw[hp]at h1;have:Bt s.lk.bits u.sn:=by
    rcases bM hu with hu|rfl
    ·exact(Lu.1 (h.all _ hu).1).1.1
    ·rw[htd.2.1];exact(Lu.1 (h.all _ hmu).1).1.1
   unfold Bt at this;omega
  ·have:=h.lk.2.2.1;exact⟨Afl _ _ ⟨_,hmem,htk.2.2.1⟩,by show 1<=s.lk.poll;omega,bV _⟩
 ·rename_i hc;refine⟨h.set hk (u':=Dj s.units[k] q.data.length) htd.2.1 htk.1 hts.1 hts.2 rfl rfl rfl rfl ⟨by dsimp only;omega,by dsimp only at hc ⊢;omega⟩ h.poll (fun hp=>?_),rfl,rfl⟩;obtain⟨h1,h2⟩:=h.asked hp;exact⟨hkeep _ h1,h2⟩
theorem Azh{s:Sd}{E:Int}(h:OkS s)(he:(Hr s E).2=0):OkS (Hr s E).1/\(Hr s E).1.lk=s.lk:=by
 unfold Hr at he ⊢;by_cases hE:E≠0
 ·rw[aF hE]at he;exact absurd he hE
 rw[aE hE];by_cases h0:s.left=0
 ·rw[aF h0];exact⟨h,rfl⟩
 rw[aE h0];have hev:=h.lk.2.1;have hasked:=h.asked fun hp=>h0 (h.poll hp);by_cases h1:s.left-1>0
 ·rw[aF h1];exact⟨h.same rfl rfl rfl rfl h.pieces (fun hp=>absurd (h.poll hp) h0) (fun _=>⟨hasked.1,by dsimp only;omega,by dsimp only;omega⟩),rfl⟩
 rw[aE h1];have hz:s.left-1=0:=by omega
 unfold Ahu;split
 ·exact⟨h.same rfl rfl rfl rfl ⟨by dsimp only;omega,by dsimp only;omega⟩ (fun _=>hz) (fun hp=>absurd rfl hp),rfl⟩
 ·rename_i hl;have hl:=Ayf.1 (show Ej s.units<0 by omega);obtain⟨t,ht⟩:∃t:Sd,t={ s with left:=s.left-1,poll:=-1 }:=⟨_,rfl⟩;have hot:OkS t:=h.same (by rw[ht]) (by rw[ht]) (by rw[ht]) (by rw[ht]) (by rw[ht];exact h.pieces) (fun _=>by rw[ht];exact hz) (fun hp=>absurd (by rw[ht]) hp);have htu:t.units=s.units:=by rw[ht]
  have htl:t.lk=s.lk:=by rw[ht]
  rw[<-ht];unfold Acx;split
  ·exact⟨hot,htl⟩
  ·rename_i u hu;obtain⟨hk,hu⟩:=List.getElem?_eq_some_iff.1 hu;have hmu:u∈t.units:=by rw[<-hu];exact aJ _
   have hub:=(hot.all u hmu).1;obtain⟨⟨n1,n2,n3,n4⟩,-,-⟩:=Lu.1 hub;have hw:Ef u:=by
    have:=(hl u (by rw[<-htu];exact hmu)).2;unfold Ly at this;simpa using this
   have hw':=hw;unfold Ef at hw';have ub:∀m:Int,0<=m->m<=t.lk.tries->unB t.lk { Rz u with tries:=m }=true:=fun m h1 h2=>
    Lu.2 ⟨⟨n1,n2,n3,h1,h2⟩,by simp only[Rz,Cc,aH,aO];exact⟨⟨by omega,by omega⟩,trivial⟩,fun r hr=>by simp[Rz]at hr;subst hr;exact⟨rfl,bV _⟩⟩
   have bef:∀v:Un,v.sent=u.sent->(0<v.sent->∀j (hj:j<t.units.length-1),Ef (t.units[j]'(by omega))):=fun v hv h0 j hj=>by
    refine(cK.1 hot.pw j (t.units.length-1) (by omega) hk hj).2 ?_;rw[hu,<-hv];exact h0
   split
   ·refine⟨hot.set hk (u':=Rz u) (by rw[hu];rfl) (ub u.tries n4.1 n4.2) (bef _ rfl) (fun j hj hkj _=>by omega) rfl rfl rfl rfl hot.pieces hot.poll (fun hp=>absurd (by rw[ht]) hp),htl⟩
   ·rename_i htr;refine⟨hot.set hk (u':={ Rz u with tries:=u.tries+1 }) (by rw[hu];rfl) (ub _ (by omega) (by omega)) (bef _ rfl) (fun j hj hkj _=>by omega) rfl rfl rfl rfl hot.pieces hot.poll (fun hp=>absurd (by rw[ht]) hp),htl⟩
def Aaf(u:Un)(x:Rg):Option Rg:=if x.sn≠u.sn then none else if (Pb u x).f<(Pb u x).t then some (Pb u x) else none
theorem Ax2(u:Un)(M:List Rg):Cu u M=(M.filterMap (Aaf u),M.any fun x=>decide (x.sn=u.sn)):=by
 have key:∀(M:List Rg) (p:List Rg×Bool),M.foldl (Ms u) p=(p.1++M.filterMap (Aaf u),p.2||M.any fun x=>decide (x.sn=u.sn)):=by
  intro M;induction M with
  |nil=>intro p;simp
  |cons x M ih=>
   intro p;rw[List.foldl_cons,ih];unfold Ms;by_cases h:x.sn≠u.sn
   ·have:Aaf u x=none:=by unfold Aaf;rw[aF h]
    rw[aF h,eF this,List.any_cons,aI h,Bool.false_or]
   ·have hx:x.sn=u.sn:=Decidable.not_not.1 h;rw[aE h,List.any_cons,aM hx];by_cases h2:(Pb u x).f<(Pb u x).t
    ·have:Aaf u x=some (Pb u x):=by unfold Aaf;rw[aE h,aF h2]
     rw[cO this,aF h2];simp
    ·have:Aaf u x=none:=by unfold Aaf;rw[aE h,aE h2]
     rw[eF this,aE h2];simp
 rw[Cu,key];simp
theorem Ay0{b u x y:Int}(hb:Bv b)(hx:0<=x/\x<2^b.toNat)(hy:0<=y/\y<2^b.toNat)(h:way b x u=way b y u):x=y:=by
 unfold way at h;rcases Cm hb with e|e|e|e|e<;>rw[e]at h hx hy<;>omega
theorem Aug{b up:Int}(hb:Bv b){n:Int}:∀ {L:List Rg} {q:Rg},Ey b up (some q) L=true->q.sn=n->Tn b up q->∀r∈L,r.sn=n->¬Fa q/\¬Fa r/\q.t<r.f
 | [],q,_,_,_,r,hr,_=>by simp at hr
 |r0::l,q,h,hq,ho,r,hr,hn=>by
  simp only[Ey,aH,aO]at h;obtain⟨⟨h1,h2⟩,h3⟩:=h;have h2:Akt b up q r0:=h2;have mono:∀ {L:List Rg} {q:Rg},Ey b up (some q) L=true->∀r∈L,Tn b up r/\way b r.sn up<=way b q.sn up:=by
   intro L;induction L with
   |nil=>intro q _ r hr;simp at hr
   |cons x L ih=>
    intro q h r hr;simp only[Ey,aH,aO]at h;obtain⟨⟨h1,h2⟩,h3⟩:=h;have h2:Akt b up q x:=h2;rcases bB.1 hr with rfl|hr
    ·exact⟨h1,h2.1⟩
    ·have:=ih h3 r hr;exact⟨this.1,by have:=h2.1;omega⟩
  rcases bB.1 hr with rfl|hr
  ·have:=h2.2 (by rw[hn,hq]);simp only[not_or]at this;exact⟨this.1,this.2.1,by omega⟩
  ·have hm:=mono h3 r hr;have h4:=h2.1;have e:way b r0.sn up=way b q.sn up:=by
    rw[hn,<-hq]at hm;omega
   have e2:r0.sn=q.sn:=Ay0 hb h1.1 ho.1 e;have h5:=h2.2 e;simp only[not_or]at h5;have h6:=Aug hb h3 (by rw[e2,hq]) h1 r hr hn;have h7:=h1.2.2;rcases h7 with h7|h7
   ·exact absurd h7 h5.2.1
   ·unfold Wn at h7;exact⟨h5.1,h6.2.1,by omega⟩
theorem At1{b up:Int}(hb:Bv b):∀ {L:List Rg} {p:Option Rg},Ey b up p L=true->(∀r∈L,Tn b up r)/\L.Pairwise fun q r=>q.sn=r.sn->¬Fa q/\¬Fa r/\q.t<r.f
 | [],_,_=>⟨fun r hr=>by simp at hr,.nil⟩
 |x::L,p,h=>by
  simp only[Ey,aH,aO]at h;obtain⟨⟨h1,h2⟩,h3⟩:=h;have ih:=At1 hb h3;refine⟨fun r hr=>?_,cJ.2 ⟨fun r hr he=>Aug hb h3 he h1 r hr rfl,ih.2⟩⟩;rcases bB.1 hr with rfl|hr
  ·exact h1
  ·exact ih.1 r hr
theorem Axb:∀ {L:List Rg} {p:Int},L.Pairwise (fun q r=>q.t<r.f)->(∀x∈L,p<x.f/\x.f<x.t)->Cc p L=true
 | [],_,_,_=>rfl
 |x::L,p,h,h2=>by
  rw[cJ]at h;simp only[Cc,aH,aO];exact⟨h2 x (by simp),Axb h.2 fun y hy=>⟨h.1 y hy,(h2 y (by simp[hy])).2⟩⟩
theorem Aom{u:Un}{x y:Rg}(h:Aaf u x=some y):x.sn=u.sn/\y=Pb u x/\y.f<y.t:=by
 unfold Aaf at h;split at h
 ·cases h
 ·rename_i hn;split at h
  ·rename_i hlt;injection h with h
   exact⟨Decidable.not_not.1 hn,h.symm,by rw[<-h];exact hlt⟩
  ·cases h
theorem Bay{b:Int}{r:Stt}{u:Un}(hr:okS b r):Cc (-1) (Cu u r.miss).1=true/\∀x∈(Cu u r.miss).1,x.sn=u.sn/\x.t<=u.sent/\0<=x.f:=by
 obtain⟨hb,_,_,hc⟩:=hr;obtain⟨ho,hp⟩:=At1 hb hc;rw[Ax2];have each:∀x∈r.miss,∀y,Aaf u x=some y->x.sn=u.sn/\y=Pb u x/\y.f<y.t/\0<=y.f/\y.sn=u.sn/\y.t<=u.sent:=fun x hx y hy=>by
  unfold Aaf at hy;split at hy
  ·cases hy
  ·rename_i hn;split at hy
   ·rename_i hlt;injection hy with hy
    have hw:=(ho x hx).2.2;have hn:=Decidable.not_not.1 hn;refine⟨hn,hy.symm,by rw[<-hy];exact hlt,?_,by rw[<-hy];exact hn,?_⟩
    ·rw[<-hy];show 0<=x.f;rcases hw with hw|hw
     ·rw[hw.1];decide
     ·exact hw.1
    ·rw[<-hy];show (if u.sent<(if Fa x then u.sent else x.t) then u.sent else if Fa x then u.sent else x.t)<=u.sent;split<;>omega
   ·cases hy
 refine⟨Axb ?_ fun y hy=>?_,fun y hy=>?_⟩
 ·refine List.Pairwise.filterMap (R:=fun q r=>(q.sn=r.sn->¬Fa q/\¬Fa r/\q.t<r.f)) _ ?_ hp;intro x x' hxx y hy y' hy';obtain⟨h1,h2,h3⟩:=Aom hy;obtain⟨h4,h5,h6⟩:=Aom hy';obtain⟨h7,h8,h9⟩:=hxx (by rw[h1,h4]);rw[h2,h5];show (if u.sent<(if Fa x then u.sent else x.t) then u.sent else if Fa x then u.sent else x.t)<x'.f;rw[aE h7];split<;>omega
 ·obtain⟨x,hx,hy⟩:=dM.1 hy;have:=each x hx y hy;exact⟨by omega,this.2.2.1⟩
 ·obtain⟨x,hx,hy⟩:=dM.1 hy;have:=each x hx y hy;exact⟨this.2.2.2.2.1,this.2.2.2.2.2,this.2.2.2.1⟩
def Ajn(s:Sd)(upto:Int)(M:List Rg)(u:Un):Option Un:=
 if upto<=s.place u.sn then some u
 else if (Cu u M).2=true then some (if u.again.length=0/\0<(Cu u M).1.length/\u.tries≠s.lk.tries then { u with again:=(Cu u M).1,tries:=u.tries+1 } else { u with again:=(Cu u M).1 })
 else if Ef u then none else some u
theorem Awo(s:Sd)(upto:Int)(M:List Rg):∀(L:List Un) (p:List Un×Bool),(L.foldl (Kj s upto M) p).1=p.1++L.filterMap (Ajn s upto M)
 | [],p=>by simp
 |u::L,p=>by
  rw[List.foldl_cons,Awo s upto M L];unfold Kj;by_cases h1:upto<=s.place u.sn
  ·rw[aF h1,cO (b:=u) (by rw[Ajn,aF h1])];simp
  ·rw[aE h1];by_cases h2:(Cu u M).2=true
   ·rw[aF h2];by_cases h3:u.again.length=0/\0<(Cu u M).1.length
    ·rw[aF h3];by_cases h4:u.tries=s.lk.tries
     ·rw[aF h4,cO (b:={ u with again:=(Cu u M).1 }) (by rw[Ajn,aE h1,aF h2,aE (fun h=>h.2.2 h4)])];simp
     ·rw[aE h4,cO (b:={ u with again:=(Cu u M).1,tries:=u.tries+1 }) (by rw[Ajn,aE h1,aF h2,aF ⟨h3.1,h3.2,h4⟩])];simp
    ·rw[aE h3,cO (b:={ u with again:=(Cu u M).1 }) (by rw[Ajn,aE h1,aF h2,aE (fun h=>h3 ⟨h.1,h.2.1⟩)])];simp
   ·rw[aE h2];by_cases h3:Ef u
    ·rw[aF h3,eF (by rw[Ajn,aE h1,aE h2,aF h3])]
    ·rw[aE h3,cO (b:=u) (by rw[Ajn,aE h1,aE h2,aE h3])];simp
theorem Ady{s:Sd}{upto:Int}{M:List Rg}{u v:Un}(h:Ajn s upto M u=some v):v.sn=u.sn/\v.data=u.data/\v.sent=u.sent/\((v.again=u.again/\v.tries=u.tries)\/(v.again=(Cu u M).1/\(v.tries=u.tries\/(v.tries=u.tries+1/\u.tries≠s.lk.tries)))):=by
 unfold Ajn at h;split at h
 ·injection h with h;subst h;exact⟨rfl,rfl,rfl,.inl ⟨rfl,rfl⟩⟩
 ·split at h
  ·injection h with h
   split at h
   ·rename_i h3;subst h;exact⟨rfl,rfl,rfl,.inr ⟨rfl,.inr ⟨rfl,h3.2.2⟩⟩⟩
   ·subst h;exact⟨rfl,rfl,rfl,.inr ⟨rfl,.inl rfl⟩⟩
  ·split at h
   ·cases h
   ·injection h with h;subst h;exact⟨rfl,rfl,rfl,.inl ⟨rfl,rfl⟩⟩
theorem Bao{s:Sd}{r:Stt}(h:OkS s)(he:(Sp s r).2=0):OkS (Sp s r).1/\(Sp s r).1.lk=s.lk/\(Sp s r).1.units=s.units.filterMap (Ajn s (s.place r.upto) r.miss)/\okS s.lk.bits r/\s.failed=false/\s.place r.upto<=s.place s.next:=by
 unfold Sp at he ⊢;by_cases h1:s.okB=false\/¬okS s.lk.bits r
 ·rw[aF h1]at he;exact absurd he (by decide)
 rw[aE h1]at he ⊢;by_cases h2:s.failed=true
 ·rw[aF h2]at he;exact absurd he (by decide)
 rw[aE h2]at he ⊢;by_cases h3:s.place r.upto>s.place s.next
 ·rw[aF h3]at he;exact absurd he (by decide)
 rw[aE h3];have hr:okS s.lk.bits r:=Decidable.not_not.1 fun h=>h1 (.inr h);have hu:(Ad3 s r).units=s.units.filterMap (Ajn s (s.place r.upto) r.miss):=by
  unfold Ad3;dsimp only;rw[Awo];simp
 refine⟨?_,rfl,hu,hr,by simpa using h2,by omega⟩;obtain⟨t,ht⟩:∃t,t=Ad3 s r:=⟨_,rfl⟩;rw[<-ht]at hu ⊢;have hb:=h.lk.1;have hlk:t.lk=s.lk:=by rw[ht];rfl
 have hnx:t.next=s.next:=by rw[ht];rfl
 have hfi:t.first=match t.units with|u::_=>u.sn| []=>s.next:=by rw[ht];rfl
 have hfrom:∀v∈t.units,∃u∈s.units,Ajn s (s.place r.upto) r.miss u=some v:=fun v hv=>by
  rw[hu]at hv;exact dM.1 hv
 have hpw:t.units.Pairwise (As7 s):=by
  rw[hu];refine List.Pairwise.filterMap (R:=As7 s) _ ?_ h.pw;intro x x' hxx y hy y' hy';obtain⟨a1,a2,a3,_⟩:=Ady hy;obtain⟨b1,b2,b3,_⟩:=Ady hy';unfold As7 Ef at hxx ⊢;rw[a1,a2,a3,b1,b3];exact hxx
 have hall:∀v∈t.units,unB s.lk v=true/\s.place v.sn<s.place s.next:=fun v hv=>by
  obtain⟨u,hm,hg⟩:=hfrom v hv;obtain⟨a1,a2,a3,a4⟩:=Ady hg;obtain⟨q1,q2⟩:=h.all u hm;obtain⟨⟨n1,n2,n3,n4⟩,m1,m2⟩:=Lu.1 q1;rw[a1];refine⟨Lu.2 ⟨⟨by rw[a1];exact n1,by rw[a2];exact n2,by rw[a2,a3];exact n3,?_⟩,?_⟩,q2⟩
  ·rcases a4 with ⟨_,a4⟩|⟨_,a4|a4⟩<;>omega
  ·rcases a4 with ⟨a4,_⟩|⟨a4,_⟩
   ·rw[a4,a1,a3];exact⟨m1,m2⟩
   ·rw[a4,a1,a3];have:=Bay (u:=u) hr;exact⟨this.1,fun x hx=>⟨(this.2 x hx).1,(this.2 x hx).2.1⟩⟩
 have hst:s.place t.first<=s.place s.next/\Bt s.lk.bits t.first/\∀v∈t.units,s.place t.first<=s.place v.sn:=by
  rw[hfi];cases hl:t.units with
  |nil=>exact⟨bV _,h.next,fun v hv=>by simp at hv⟩
  |cons x l=>
   rw[hl]at hall hpw;have hx:=hall x (by simp);refine⟨by have:=hx.2;dsimp only;omega,(Lu.1 hx.1).1.1,fun v hv=>?_⟩;rcases bB.1 hv with rfl|hv
   ·exact bV _
   ·have:=((cJ.1 hpw).1 v hv).1;dsimp only;omega
 have hpl:∀x,s.place t.first<=s.place x->t.place x=s.place x-s.place t.first:=fun x hx=>by
  unfold Sd.place at hx ⊢;rw[hlk];exact Ax6 hb hx
 have hnn:0<=s.place t.first:=(Qf _ _ _).1;refine⟨by rw[hlk];exact h.lk,by rw[hlk];exact hst.2.1,by rw[hlk,hnx];exact h.next,?_,?_,?_,?_,?_,by rw[ht];exact h.pieces,?_,?_⟩
 ·rw[hnx,hpl _ hst.1,hlk];have:=h.win;omega
 ·intro hn;rw[hnx,hfi,hn]
 ·intro u l hl;rw[hfi,hl]
 ·intro v hv;have h5:=hst.2.2 v hv;rw[hnx,hpl _ h5,hpl _ hst.1,hlk];have:=hall v hv;exact⟨this.1,by omega⟩
 ·refine hpw.imp_of_mem fun {x y} hx hy hxy=>?_;unfold As7 at hxy ⊢;rw[hpl _ (hst.2.2 x hx),hpl _ (hst.2.2 y hy)];exact⟨by omega,hxy.2⟩
 ·have e1:t.poll=if s.poll≠ -1/\s.place s.poll<s.place r.upto then-1 else s.poll:=by rw[ht];rfl
  have e2:t.left=if s.poll≠ -1/\s.place s.poll<s.place r.upto then 0 else s.left:=by rw[ht];rfl
  rw[e1,e2];split
  ·intro _;rfl
  ·exact h.poll
 ·have e1:t.poll=if s.poll≠ -1/\s.place s.poll<s.place r.upto then-1 else s.poll:=by rw[ht];rfl
  have e2:t.left=if s.poll≠ -1/\s.place s.poll<s.place r.upto then 0 else s.left:=by rw[ht];rfl
  rw[e1,e2,hlk];split
  ·intro hp;exact absurd rfl hp
  ·rename_i hc;intro hp;obtain⟨⟨u,hm,g1,g2⟩,g3⟩:=h.asked hp;refine⟨⟨u,?_,g1,g2⟩,g3⟩;rw[hu];refine dM.2 ⟨u,hm,?_⟩;unfold Ajn;rw[aF];rw[g1];have:¬s.place s.poll<s.place r.upto:=fun h=>hc ⟨hp,h⟩;omega
theorem Bav{l:Lk}(hl:Ir l){x:Int}(hx:Bt l.bits x):OkS ⟨l,x,x,[],0,-1,0,false⟩:=by
 have hh:=Awn hl.1;refine⟨hl,hx,hx,?_,fun _=>rfl,fun u m h=>(by cases h),fun u hu=>(by simp at hu),List.Pairwise.nil,⟨bV _,?_⟩,fun _=>rfl,fun h=>absurd rfl h⟩
 ·show way l.bits x x<=_;rw[Ayx];dsimp only;omega
 ·have:=hl.2.1;dsimp only;omega
theorem Bb2{b:Int}{p:Pc}{size:Int}(h:(Hz b p size).2.2=0):(Hz b p size).1.sn=p.sn/\(Hz b p size).1.off=p.off/\(Hz b p size).1.data=p.data.take (Hz b p size).1.data.length:=by
 unfold Hz at h ⊢;split at h
 ·exact absurd h (by decide)
 ·rename_i hp;rw[aE hp];split at h
  ·exact absurd h (by decide)
  ·rename_i hs;rw[aE hs];split
   ·exact⟨rfl,rfl,by simp⟩
   ·exact⟨rfl,rfl,by dsimp only;rw[aU,List.take_eq_take_min]⟩
theorem Ak0{s:Sd}{size E:Int}(h:OkS s)(he:(Ca s size E).2.2=0):∃(k:Nat) (hk:k<s.units.length) (q:Pc),Ej s.units=k/\q.ok s.lk.bits/\(Ca s size E).2.1=q.bytes/\q.sn=s.units[k].sn/\q.off=(Dc s.units[k]).f/\
 1<=q.data.length/\(Dc s.units[k]).f+q.data.length<=(Dc s.units[k]).t/\q.data=(s.units[k].data.drop (Dc s.units[k]).f.toNat).take q.data.length/\(Ca s size E).1.units=s.units.set k (Dj s.units[k] q.data.length)/\
 (q.poll=1↔s.pieces+1=s.lk.every\/Ej (Ca s size E).1.units<0)/\(Ej (Ca s size E).1.units<0->(Ca s size E).1.left=s.lk.poll):=by
 obtain⟨k,hk,q,hl,hq,hc,hb,hqo,hqp,hn,hn2⟩:=Ark h he;have ha:=Bb2 hc;rw[<-hq]at ha;have hin:=Abs (h.all _ (aJ hk)).1 (Qm hk hl);have hdata:q.data=(s.units[k].data.drop (Dc s.units[k]).f.toNat).take q.data.length:=by
  have h1:=ha.2.2;have h2:(Ch s.units[k]).data=(s.units[k].data.drop (Dc s.units[k]).f.toNat).take ((Dc s.units[k]).t.toNat-(Dc s.units[k]).f.toNat):=by
   show (s.units[k].data.take _).drop _=_;rw[List.drop_take]
  rw[h2,List.take_take,bQ (by omega)]at h1;exact h1
 have hok2:Pc.ok s.lk.bits { q with poll:=1 }:=⟨hqo.1,hqo.2.1,hqo.2.2.1,⟨by show (0:Int)<=1;decide,by show (1:Int)<=1;decide⟩,hqo.2.2.2.2⟩;rw[hb];unfold Qv;dsimp only;split
 ·rename_i hcnd;refine⟨k,hk,{ q with poll:=1 },hl,hok2,by rw[Qq,aF hok2],ha.1,ha.2.1,hn,hn2,hdata,rfl,cP rfl ?_,fun _=>rfl⟩;exact hcnd
 ·rename_i hcnd;refine⟨k,hk,q,hl,hqo,by rw[Qq,aF hqo],ha.1,ha.2.1,hn,hn2,hdata,rfl,bA (by omega) hcnd,fun h=>absurd (.inr h) hcnd⟩
end Go.Sx
