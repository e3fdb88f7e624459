import Derived.Test.YtmbppohkadmjgaaGreatForms
import Derived.Test.YtmbppohkadmjgaaGreatTys
import Derived.Test.YtmbppohkadmjgaaGreatBt
import Derived.Test.YtmbppohkadmjgaaGreatSt
namespace Go.Proofs.YtmbppohkadmjgaaGreat
open Go.Sx Go.RowKit
theorem made_Light_ct{t_a:Option Addr}{t_l:Nat}{t_c:Nat}{w:World}:Calls Tryz.prog Zu #[(.slice t_a t_l t_c)] w fun e w'=>e=.returned (.bool (decide ((t_l:Int)<=(400:Int))))/\Below w.heap.size w w':=by
 apply Ami;exact⟨rfl,.refl _ _⟩
def Av2(n m:Int):Int:=if m<1 then 0 else n%m
theorem Awa(n m:Int)(h:1<=m):0<=Av2 n m/\Av2 n m<m:=by
 unfold Av2;rw[aE (by omega)];exact⟨cV _ (by omega),cN _ (by omega)⟩
theorem Aur(n m:Int)(hm:m<=9223372036854775807){w:World}:Calls Tryz.prog Af9 #[.int .i64 n,.int .i64 m] w fun e w'=>e=.returned (.int .i64 (Av2 n m))/\Below w.heap.size w w':=by
 apply Aqb;refine Aa (fun h=>?_) (fun h=>⟨by omega,?_⟩)
 ·exact⟨by rw[Av2,aF h],.refl _ _⟩
 have e1:Av2 n m=n%m:=by rw[Av2,aE h]
 have h1:=cV n (show m≠0 by omega);have h2:=cN n (show 0<m by omega);have e2:=@Int.tmod_eq_emod n m;have e3:(m.natAbs:Int)=m:=by omega
 refine Aw ?_;apply Aa<;>intro h
 ·split at e2
  ·omega
  refine Ao (by omega) ?_;exact⟨by rw[e1,show n.tmod m+m=n%m by omega],.refl _ _⟩
 ·have:n.tmod m=n%m:=by
   split at e2<;>omega
  exact⟨by rw[this,e1],.refl _ _⟩
abbrev Hh(g:Nat)(a:Option Addr)(c:Nat)(ts:List Int)(p:Nat):Res:=.blk g Qd [.slice a ts.length c,.int .i64 (p:Int)]
def Rolls(a:Option Addr)(ts:List Int)(P:World->Prop):Prop:=(∀w,P w->SlR (Bp .i64) 1 w a ts)/\ts.length<=1000000
theorem Rolls.and{a:Option Addr}{ts:List Int}{P:World->Prop}(h:Rolls a ts P)(Q:World->Prop):Rolls a ts fun w=>Q w/\P w:=⟨fun w k=>h.1 w k.2,h.2⟩
theorem made_Roll_ct{a:Option Addr}{c:Nat}{ts:List Int}{w:World}:Calls Tryz.prog Abf #[(.slice a ts.length c)] w fun e w'=>∃g,e=.returned (.pointer (some ⟨g,0,none⟩))/\Cg w w' [Hh g a c ts 0]:=by
 apply Apq;have H:=St.nil w;refine H.alloc ?_;clear H;intro b w1 H1;exact⟨b,rfl,H1⟩
section
variable{g:Nat}{a:Option Addr}{c:Nat}{ts:List Int}{p:Nat}{w:World}{A:Nat->Prop}{P:World->Prop}
theorem Ast(hP:Held A w P)(hts:Rolls a ts P)(hB:(Hh g a c ts p).ok w)(hn:∀b,(Hh g a c ts p).at=some b->¬A b)(hp:p<=ts.length){n:Int}(hn2:n<=9223372036854775807):Calls Tryz.prog Bu #[(.pointer (some ⟨g,0,none⟩)),(.int .i64 n)] w fun e w'=>∃v p',e=.returned (.int .i64 v)/\(1<=n->0<=v/\v<n)/\p'<=ts.length/\St A [g] w w' [Hh g a c ts p'] P:=by
 apply Ad9;have hlen:=hts.2;have H:St A [g] w w [Hh g a c ts p] P:=St.startM hP hB hn;refine H.drew ?_;clear H;intro w1 H1;refine H1.l 0 ?_;refine H1.m 0 ?_;apply Aa<;>intro c
 ·exact⟨0,p,rfl,fun h=>by omega,hp,H1⟩
 ·refine H1.l 0 ?_;refine Ao (by omega) ?_;refine H1.U 0 ?_;clear H1;intro w2 H2;refine H2.drew ?_;clear H2;intro w3 H3;have hs:=hts.1 _ H3.get;obtain⟨q,rfl,hq⟩:=hs.get (i:=p) (by omega);refine⟨(· <w3.heap.size),?_⟩;refine H3.m 0 ?_;refine H3.l 0 ?_;refine Ao (by omega) ?_;have e1:((p:Int)+1-1).toNat=p:=by omega
  refine⟨q,rfl,⟨by omega,by omega⟩,?_⟩;rw[e1];refine⟨ts[p],hq,?_⟩;refine(Aur _ _ hn2).mono ?_;rintro _ w4 ⟨rfl,hb4⟩;have H4:=H3.pass hb4;refine⟨_,rfl,?_⟩;refine⟨hb4.keeps,?_⟩;exact⟨_,p+1,rfl,fun h=>Awa _ _ h,by omega,H4⟩
end
section
variable{A0:Nat->Prop}{M:List Nat}{w0 w:World}{R:List Res}{P:World->Prop}{i g:Nat}{a:Option Addr}{c:Nat}{ts:List Int}{p:Nat}
theorem Rk(H:St A0 M w0 w R P)(hi:R[i]?=some (Hh g a c ts p))(hts:Rolls a ts P)(hp:p<=ts.length){n:Int}(hn:n<=9223372036854775807){K:Int->World->Prop}
 (h:∀v p' w',Fr [g] w w'->(1<=n->0<=v/\v<n)->p'<=ts.length->St A0 M w0 w' (R.set i (Hh g a c ts p')) P->K v w'):
 Calls Tryz.prog Bu #[(.pointer (some ⟨g,0,none⟩)),(.int .i64 n)] w fun e w'=>∃r:Int,e=.returned (.int .i64 r)/\K r w':=by
 obtain⟨A,hA,hn',hr,hc⟩:=H.callM hi;refine(Ast hA hts hr hn' hp hn).mono ?_;rintro _ w2 ⟨v,p',rfl,hv,hp',S⟩;have:=hc S;rw[aL]at this;exact⟨v,rfl,h v p' w2 S.fr hv hp' (this.imp fun _ h=>h.2)⟩
theorem Acv(H:St A0 M w0 w R P)(hi:R[i]?=some (Hh g a c ts p))(hts:Rolls a ts P)(hp:p<=ts.length){n:Int}(hn: -9223372036854775807<=n/\n<=9223372036854775807){K:Bool->World->Prop}
 (h:∀v p' w',Fr [g] w w'->p'<=ts.length->St A0 M w0 w' (R.set i (Hh g a c ts p')) P->K v w'):
 Calls Tryz.prog Jm #[(.pointer (some ⟨g,0,none⟩)),(.int .i64 n)] w fun e w'=>∃r:Bool,e=.returned (.bool r)/\K r w':=by
 apply Afx;refine Rk H hi hts hp hn.2 fun v p' w' hf _ hp' H'=>?_;refine Ao (by omega) ?_;refine Aw ?_;exact⟨_,rfl,h _ p' w' hf hp' H'⟩
theorem Bcm(H:St A0 M w0 w R P)(hi:R[i]?=some (Hh g a c ts p))(hts:Rolls a ts P)(hp:p<=ts.length){K:Int->World->Prop}
 (h:∀v p' w',5<=v/\v<=9->p'<=ts.length->St A0 M w0 w' (R.set i (Hh g a c ts p')) P->K v w'):
 Calls Tryz.prog Qj #[(.pointer (some ⟨g,0,none⟩))] w fun e w'=>∃r:Int,e=.returned (.int .i64 r)/\K r w':=by
 apply Ad4;refine H.alloc ?_;intro b w1 H1;have hlt:i<R.length:=by
  rcases aT i R.length with h|h
  ·exact h
  ·rw[List.getElem?_eq_none h]at hi;cases hi
 refine Rk H1 (i:=i) (by rw[List.getElem?_append_left hlt];exact hi) hts hp (by omega) fun v p' w2 hf hv hp' H2=>?_;rw[dV _ _ hlt]at H2;have hv:=hv (by omega);obtain⟨k,rfl⟩:=Xj hv.1;have hj:(R.set i (Hh g a c ts p')++[Res.blk b Ib [.int .i64 5,.int .i64 5,.int .i64 6,.int .i64 9]])[R.length]?=some (.blk b Ib [.int .i64 5,.int .i64 5,.int .i64 6,.int .i64 9]):=by
  rw[List.getElem?_append_right (by simp)];simp
 have hv2:∃x:Int,([Value.int .i64 5,.int .i64 5,.int .i64 6,.int .i64 9]:List Value)[k]?=some (.int .i64 x)/\5<=x/\x<=9:=by
  rcases (show k=0\/k=1\/k=2\/k=3 by omega)with rfl|rfl|rfl|rfl
  ·exact⟨5,rfl,by omega⟩
  ·exact⟨5,rfl,by omega⟩
  ·exact⟨6,rfl,by omega⟩
  ·exact⟨9,rfl,by omega⟩
 obtain⟨x,hx,hr⟩:=hv2;refine⟨⟨b,0,none⟩,rfl,⟨by omega,by omega⟩,?_⟩;rw[bK,dB];show kLd _ (Addr.add ⟨b,0,none⟩ k) _ _;rw[Bd,aN];refine H2.ld hj hx ?_;exact⟨x,rfl,h x p' w2 hr hp' H2.dropLast⟩
theorem Ap6(H:St A0 M w0 w R P)(hi:R[i]?=some (Hh g a c ts p))(hts:Rolls a ts P)(hp:p<=ts.length){most:Int}(hm:0<=most/\most<=1000000){K:Option Addr->Nat->Nat->World->Prop}
 (h:∀ra rc bs p' w',Bytes bs->(bs.length:Int)<=most->p'<=ts.length->St A0 M w0 w' (R.set i (Hh g a c ts p')++[.ints Az .u8 ra rc bs]) P->K ra bs.length rc w'):
 Calls Tryz.prog Ov #[(.pointer (some ⟨g,0,none⟩)),(.int .i64 most)] w fun e w'=>∃(ra:Option Addr) (rl rc:Nat),e=.returned (.slice ra rl rc)/\K ra rl rc w':=by
 apply Ab7;have hlt:i<R.length:=by
  rcases aT i R.length with h|h
  ·exact h
  ·rw[List.getElem?_eq_none h]at hi;cases hi
 refine Ao (by omega) ?_;refine Rk H hi hts hp (by omega) fun v p1 w1 _ hv hp1 H1=>?_;have hv:=hv (by omega);obtain⟨m,rfl⟩:=Xj hv.1;have H1:=H1.nilI Az .u8;refine⟨fun b_a b_l b_c n=>(n.toNat,fun w2=>∃(k:Nat) (bs:List Int) (p2:Nat),n=k/\bs.length+k=m/\b_l=bs.length/\Bytes bs/\p2<=ts.length/\St A0 M w0 w2 (R.set i (Hh g a c ts p2)++[.ints Az .u8 b_a b_c bs]) P),⟨m,[],p1,rfl,by simp,rfl,fun i hi=>by simp at hi,hp1,H1⟩,?_⟩;clear H1;rintro _ b_a b_l b_c n w2 ⟨k,bs,p2,rfl,hk,rfl,hb,hp2,H2⟩;apply Aa<;>intro cc
 ·refine Rk H2 (i:=i) (g:=g) (a:=a) (c:=c) (p:=p2) (by rw[List.getElem?_append_left (by simpa using hlt)];simp[hlt]) hts hp2 (by omega) fun v p3 w3 _ hv hp3 H3=>?_;rw[dV _ _ (by simpa using hlt),cF]at H3;have hv:=hv (by omega);refine Aas ?_;refine H3.alloc ?_;clear H3;intro b w4 H4;have e1:(R.set i (Hh g a c ts p3)++[Res.ints Az .u8 b_a b_c bs]++[.blk b Az (#[Value.int .u8 (v%256)]).toList])[R.length]?=some (.ints Az .u8 b_a b_c bs):=by simp
  have e2:(R.set i (Hh g a c ts p3)++[Res.ints Az .u8 b_a b_c bs]++[.blk b Az (#[Value.int .u8 (v%256)]).toList])[R.length+1]?=some (.blk b Az ([v%256].map (Value.int .u8))):=by
   rw[List.getElem?_append_right (by simp)];simp
  refine H4.appIB (i:=R.length) (j:=R.length+1) e1 [v%256] e2 sl_Ty_S_uint8 rfl (by simp;omega) (by simp;omega) ?_;intro x_a x_c w5 H5;refine Ao (by omega) ?_;refine⟨⟨k-1,bs++[v%256],p3,by omega,by simp;omega,rfl,?_,hp3,?_⟩,by dsimp only;omega⟩
  ·intro j hj;by_cases hlt:j<bs.length
   ·rw[eE hlt];exact hb j hlt
   ·rw[dZ (by omega)];simp;omega
  ·refine St.sub H5 (fun j=>j) (fun j r hr=>?_) (fun _ _ _ _ h=>h);rcases aT j R.length with hj|hj
   ·rw[List.getElem?_append_left (by simpa using hj)]at hr;rw[List.getElem?_set_ne (by omega),List.getElem?_set_ne (by omega),aZ,List.getElem?_append_left (by simpa using hj)];exact hr
   ·rw[List.getElem?_append_right (by simpa using hj)]at hr;simp only[bE]at hr;have:j=R.length:=by
     rcases aT (j-R.length) 1 with h|h
     ·omega
     ·rw[List.getElem?_eq_none (by simpa using h)]at hr;cases hr
    subst this;simp only[cL,List.getElem?_cons_zero]at hr;rw[List.getElem?_set_ne (by omega),List.getElem?_set_self (by simp)];exact hr
 ·obtain rfl:k=0:=by omega
  exact⟨b_a,_,b_c,rfl,h b_a b_c bs p2 w2 hb (by omega) hp2 H2⟩
end
section
variable{g:Nat}{a:Option Addr}{c:Nat}{ts:List Int}{p:Nat}{w:World}{A:Nat->Prop}{P:World->Prop}
theorem As0(hP:Held A w P)(hts:Rolls a ts P)(hB:(Hh g a c ts p).ok w)(hn:∀b,(Hh g a c ts p).at=some b->¬A b)(hp:p<=ts.length){most:Int}(hm:1<=most/\most<=1000000):Calls Tryz.prog Qi #[(.pointer (some ⟨g,0,none⟩)),(.int .i64 most)] w fun e w'=>∃ra rc bs p',e=.returned (.slice ra bs.length rc)/\Bytes bs/\1<=bs.length/\(bs.length:Int)<=most/\p'<=ts.length/\
  St A [g] w w' [Hh g a c ts p',.ints Az .u8 ra rc bs] P:=by
 apply Aep;have H:St A [g] w w [Hh g a c ts p] P:=St.startM hP hB hn;refine Rk H (i:=0) rfl hts hp (by omega) fun v p1 w1 _ hv hp1 H1=>?_;have hv:=hv (by omega);refine Aas ?_;refine H1.alloc ?_;clear H1;intro b w2 H2;refine Ao (by omega) ?_;refine Ap6 H2 (i:=0) rfl hts hp1 (by omega) fun ra rc bs p2 w3 hb hl hp2 H3=>?_;have H3:=H3.litI (i:=1) [v%256] rfl (by simp[maxLen]);refine H3.appI (i:=1) rfl sl_Ty_S_uint8 (H3.slI (i:=2) rfl) (by simp;omega) (by simp;omega) ?_;intro x_a x_c w4 H4;refine⟨x_a,x_c,_,p2,rfl,?_,by simp,by simp;omega,hp2,H4.dropLast⟩;intro j hj;cases j with
 |zero=>simp;omega
 |succ j=>simp only[aD,aC,eJ];exact hb j (by simpa using hj)
end
end Go.Proofs.YtmbppohkadmjgaaGreat
