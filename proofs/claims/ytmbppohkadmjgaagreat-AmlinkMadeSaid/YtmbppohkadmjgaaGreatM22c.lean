import Derived.Test.YtmbppohkadmjgaaGreatM22b
import Derived.Test.YtmbppohkadmjgaaGreatM20b
import Derived.Test.YtmbppohkadmjgaaGreatM21b
import Derived.Test.YtmbppohkadmjgaaGreatM18
import Derived.Test.YtmbppohkadmjgaaGreatFxAmlinkRuns
import Derived.Test.YtmbppohkadmjgaaGreatFxAmlinkMade
namespace Go.Proofs.YtmbppohkadmjgaaGreat
open Go.Sx Go.RowKit
set_option maxRecDepth 100000
def Ur(L:List Un):Nat:=(L.map fun u=>u.data.length).sum
def Apo(L:List (List Int)):Nat:=(L.map fun d=>d.length).sum
def Ae5(u:Un):Nat:=((u.data.length:Int)-u.sent).toNat+(u.again.map fun r=>(r.t-r.f).toNat).sum
def muP(p:Pl):Nat:=(p.s.units.map Ae5).sum
structure IvP (p:Pl):Prop where
 s:OkS p.s
 gu:GU p.s.units
 r:p.r.okB=true
 gp:GP p.r.parts
 us:∀d∈p.us,Bytes d
 wy:∀d∈p.wy,Bytes d
 bk:∀d∈p.bk,Bytes d
 tot:Ur p.s.units+Apo p.us<=26000
 ot:∀d∈p.ot,Bytes d
theorem Am1{α:Type}(f:α->Nat)(x:α):∀(L:List α) (k:Nat) (hk:k<L.length),((L.set k x).map f).sum+f L[k]=(L.map f).sum+f x
 | [],k,hk=>absurd hk (Nat.not_lt_zero _)
 |y::L,0,_=>by simp;omega
 |y::L,k+1,hk=>by
  have:=Am1 f x L k (by simpa using hk);simp only[aB,bS,dC,eJ];omega
theorem Aup:∀ {L:List Rg} {p m:Int},Cc p L=true->(∀r∈L,r.t<=m)->(((L.map fun r=>(r.t-r.f).toNat).sum:Nat):Int)<=max 0 (m-p-1)
 | [],p,m,_,_=>by simp;omega
 |x::L,p,m,h,hm=>by
  simp only[Cc,aH,aO]at h;have h1:=hm x (by simp);have:=Aup (m:=m) h.2 fun r hr=>hm r (by simp[hr]);simp only[bS,dC,Int.natCast_add];omega
theorem Ay7{l:Lk}{u:Un}(h:unB l u=true):Ae5 u<=u.data.length:=by
 obtain⟨⟨-,-,h3,-⟩,h1,h2⟩:=Lu.1 h;have:=Aup (m:=u.sent) h1 fun r hr=>(h2 r hr).2;unfold Ae5;omega
theorem Avu{l:Lk}{u:Un}{n:Int}(h:unB l u=true)(hn:1<=n)(hn2:(Dc u).f+n<=(Dc u).t):Ae5 (Dj u n)<Ae5 u:=by
 unfold Dc at hn2;unfold Dj Ae5;cases ha:u.again with
 |nil=>
  rw[ha]at hn2;dsimp only at hn2 ⊢;simp;omega
 |cons r t=>
  rw[ha]at hn2;dsimp only at hn2 ⊢;split
  ·simp only[bS,dC];omega
  ·simp only[bS,dC];omega
theorem Ayh{p:Pl}(h:IvP p):muP p<=26000:=by
 have key:∀L:List Un,(∀u∈L,unB p.s.lk u=true)->(L.map Ae5).sum<=Ur L:=by
  intro L;induction L with
  |nil=>intro _;exact aG _
  |cons u L ih=>
   intro hu;have h1:=Ay7 (hu u (by simp));have h2:=ih fun v hv=>hu v (by simp[hv]);unfold Ur at h2 ⊢;simp only[bS,dC];omega
 have h1:=key p.s.units fun u hu=>(h.s.all u hu).1;have h2:=h.tot;unfold muP;omega
theorem Axo(s:Sd)(k:Nat)(u:Un)(q:Pc):(Qv s k u q).2.2=0:=by unfold Qv;dsimp only;split<;>rfl
theorem Ax1{s:Sd}{size E:Int}(h:(Ca s size E).2.2≠0):(Ca s size E).2.1=[]:=by
 unfold Ca at h ⊢;by_cases hE:E≠0
 ·rw[aF hE]
 rw[aE hE]at h ⊢;by_cases hz:¬(0<=size/\size<=4096)
 ·rw[aF hz]
 rw[aE hz]at h ⊢;by_cases hl:Ej s.units<0
 ·rw[aF hl]
 rw[aE hl]at h ⊢;cases hu:s.units[(Ej s.units).toNat]? with
 |none=>rfl
 |some u=>
  rw[hu]at h;dsimp only at h ⊢;by_cases hc:(Hz s.lk.bits (Ch u) size).2.2≠0
  ·rw[aF hc]
  rw[aE hc]at h;exact absurd (Axo _ _ _ _) h
theorem Aya{s:Sd}{size E:Int}(h:OkS s):(Ca s size E).2.1.length<=100000:=by
 by_cases c:(Ca s size E).2.2=0
 ·obtain⟨k,hk,q,-,hqo,hb,-⟩:=Ak0 h c;obtain⟨_,_,_,_,_,_,_,h8⟩:=hqo;rw[hb];unfold Pc.bytes;split<;>simp<;>omega
 ·rw[Ax1 c];simp
theorem Bau{s:Rc}{size:Int}(h:(Fu s size).2.1≠[]):(Fu s size).2.1=(encS s.lk.bits (fitR s.lk.bits (Lm s).1 size).1).1:=by
 unfold Fu at h ⊢;by_cases h1:s.okB=false
 ·rw[aF h1]at h;exact absurd rfl h
 rw[aE h1]at h ⊢;by_cases h2:size<0\/size>4096
 ·rw[aF h2]at h;exact absurd rfl h
 rw[aE h2]at h ⊢;by_cases h3:s.due=false\/s.quiet>0
 ·rw[aF h3]at h;exact absurd rfl h
 rw[aE h3]at h ⊢;dsimp only at h ⊢;by_cases h4:(fitR s.lk.bits (Lm s).1 size).2≠0
 ·rw[aF h4]at h;exact absurd rfl h
 rw[aE h4]
theorem Bag(b:Int)(s:Stt):(encS b s).1.length<=100000:=by
 unfold encS;split
 ·rename_i h;have h1:=Yi s;have h2:∀L:List Rg,sumS L<=6*L.length:=by
   intro L;induction L with
   |nil=>exact bV _
   |cons r L ih=>
    have hz:szR r<=6:=by unfold szR;split<;>omega
    simp only[sumS,aQ];omega
  have h3:=h2 s.miss;have h4:=h.2.2.1;dsimp only;omega
 ·simp
theorem Azc{s:Rc}{size:Int}:(Fu s size).2.1.length<=100000:=by
 by_cases c:(Fu s size).2.1=[]
 ·rw[c];simp
 ·rw[Bau c];exact Bag _ _
theorem Ars(b:Int)(bs:List Int):(Mv b bs).1.miss.length<=64:=by
 unfold Mv;split
 ·simp[Stt.zero]
 ·split
  ·simp[Stt.zero]
  ·split
   ·rename_i h;exact h.1.2.2.1
   ·simp[Stt.zero]
theorem Aro{s:Sd}{bs:List Int}(h:GU s.units):GU (Tc s bs).units:=by
 unfold Tc;split
 ·exact Bbp h (by have:=Ars s.lk.bits bs;omega)
 ·exact h
theorem Aux{p:Pl}(h:GU p.s.units):GU (Ag1 p).s.units:=by
 unfold Ag1;dsimp only;split
 ·exact Ba9 h
 ·exact h
theorem Aru{p:Pl}(h:IvP p):Fits p:=
 ⟨fun _=>⟨Aku h.gu,Aya h.s,(Atx h.gu).1⟩,fun _=>⟨(As1 h.gp).2,Azc,(As1 h.gp).1⟩,(Aux h.gu).1,
  fun d l _=>⟨by have:=Ars p.s.lk.bits d;omega,(Aro h.gu).1⟩,fun d l hd=>(Azi h.gu (h.us d (by rw[hd];simp))).1⟩
theorem Amr{p:Pl}(h:IvP p):IvP (Mq p).1:=by
 unfold Mq;cases hu:p.us with
 |nil=>exact h
 |cons d l=>
  dsimp only;split
  ·rename_i he;obtain⟨h1,h2,h3⟩:=Bby h.s he;have hus:=h.us;have ht:=h.tot;rw[hu]at hus ht;refine⟨h1,Azi h.gu (hus d (by simp)),h.r,h.gp,fun x hx=>hus x (by simp[show x∈l from hx]),h.wy,h.bk,?_,h.ot⟩;have e:(Lj p.s d (Cq p.s)).1.units=p.s.units++[⟨p.s.next,d,0,0,[]⟩]:=by
    unfold Lj at he ⊢;split at he
    ·exact absurd he (by assumption)
    ·rename_i c1;rw[aE c1];split at he
     ·exact absurd he (by decide)
     ·rename_i c2;rw[aE c2];split at he
      ·exact absurd he (by decide)
      ·rename_i c3;rw[aE c3]
   show Ur (Lj p.s d (Cq p.s)).1.units+Apo l<=26000;rw[e];unfold Ur Apo at*;simp only[bD,bS,List.map_nil,List.sum_append,dC,List.sum_nil]at ht ⊢;omega
  ·exact h
theorem Aq9{s:Sd}{size E:Int}(h:OkS s)(he:(Ca s size E).2.2=0):Ur (Ca s size E).1.units=Ur s.units/\((Ca s size E).1.units.map Ae5).sum<(s.units.map Ae5).sum:=by
 obtain⟨k,hk,q,-,-,-,-,hqf,h1,h2,-,hu,-⟩:=Ak0 h he;rw[hu];have a1:=Am1 (fun u:Un=>u.data.length) (Dj s.units[k] q.data.length) s.units k hk;have a2:=Am1 Ae5 (Dj s.units[k] q.data.length) s.units k hk;rw[show (Dj s.units[k] q.data.length).data.length=s.units[k].data.length by rw[(Tw _ _).1]]at a1;have a3:=Avu (n:=q.data.length) (h.all _ (aJ hk)).1 (by omega) h2;unfold Ur;exact⟨by omega,by omega⟩
theorem Aic{p:Pl}(h:IvP p)(size:Int):IvP (Kc p size).1:=by
 unfold Kc;split
 ·rename_i he;obtain⟨h1,h2,h3⟩:=Ay4 h.s he;refine⟨h1,Atx h.gu,h.r,h.gp,h.us,fun d hd=>?_,h.bk,?_,h.ot⟩
  ·rcases aW.1 hd with hd|hd
   ·exact h.wy d hd
   ·rw[List.mem_singleton]at hd;rw[hd];exact Aku h.gu
  ·show Ur (Ca p.s size (Cq p.s)).1.units+Apo p.us<=26000;rw[(Aq9 h.s he).1];exact h.tot
 ·exact h
theorem Zr{p:Pl}(h:IvP p)(keep:Bool):IvP (Em p keep):=by
 unfold Em;cases hw:p.wy with
 |nil=>exact h
 |cons d l=>
  have hwy:=h.wy;rw[hw]at hwy;have hd:=hwy d (by simp);refine⟨h.s,h.gu,?_,?_,h.us,?_,h.bk,h.tot,?_⟩
  ·dsimp only;split
   ·exact h.r
   ·exact Bbv h.r fun _ _=>Adp
  ·dsimp only;split
   ·exact h.gp
   ·exact(Asq h.gp hd).1
  ·intro x hx;dsimp only at hx;cases keep with
   |true=>exact hwy x hx
   |false=>exact hwy x (by simp[show x∈l from hx])
  ·intro x hx;dsimp only at hx;split at hx
   ·exact h.ot x hx
   ·rcases aW.1 hx with hx|hx
    ·exact h.ot x hx
    ·rw[List.mem_singleton]at hx;rw[hx];exact(Asq h.gp hd).2
theorem Ajj{p:Pl}(h:IvP p)(size:Int):IvP (Ra p size):=by
 unfold Ra;split
 ·rename_i he;refine⟨h.s,h.gu,(Go.Sx.rep_ok h.r he).2,(As1 h.gp).1,h.us,h.wy,fun d hd=>?_,h.tot,h.ot⟩;rcases aW.1 hd with hd|hd
  ·exact h.bk d hd
  ·rw[List.mem_singleton]at hd;rw[hd];exact(As1 h.gp).2
 ·exact h
theorem Aog{g:Un->Option Un}(hg:∀u v,g u=some v->v.data=u.data):∀L:List Un,Ur (L.filterMap g)<=Ur L
 | []=>aG _
 |u::L=>by
  have:=Aog hg L;unfold Ur at*;cases hu:g u with
  |none=>rw[eF hu];simp only[bS,dC];omega
  |some v=>
   rw[cO hu];have e:=cI List.length (hg u v hu);simp only[bS,dC];omega
theorem Adj{p:Pl}(h:IvP p)(keep:Bool):IvP (Ht p keep):=by
 unfold Ht;cases hw:p.bk with
 |nil=>exact h
 |cons d l=>
  have hbk:=h.bk;rw[hw]at hbk;have hgu:=Aro (bs:=d) h.gu;have key:OkS (Tc p.s d)/\Ur (Tc p.s d).units<=Ur p.s.units:=by
   unfold Tc;split
   ·rename_i he;obtain⟨h1,h2,h3,-⟩:=Bao h.s he.2;exact⟨h1,by rw[h3];exact Aog (fun u v huv=>(Ady huv).2.1) _⟩
   ·exact⟨h.s,aG _⟩
  refine⟨key.1,hgu,h.r,h.gp,h.us,h.wy,?_,?_,h.ot⟩
  ·intro x hx;dsimp only at hx;cases keep with
   |true=>exact hbk x hx
   |false=>exact hbk x (by simp[show x∈l from hx])
  ·show Ur (Tc p.s d).units+Apo p.us<=26000;have:=h.tot;have:=key.2;omega
theorem Awx{L:List Un}{k:Nat}{x:Un}(hk:k<L.length)(hx:x.data=L[k].data):Ur (L.set k x)=Ur L:=by
 have:=Am1 (fun u:Un=>u.data.length) x L k hk;have e:x.data.length=L[k].data.length:=by rw[hx]
 unfold Ur;omega
theorem Azd{s:Sd}{E:Int}(he:(Hr s E).2=0):Ur (Hr s E).1.units=Ur s.units:=by
 unfold Hr at he ⊢;split at he
 ·exact absurd he (by assumption)
 ·rename_i c1;rw[aE c1];split
  ·rfl
  ·split
   ·rfl
   ·dsimp only;unfold Ahu;split
    ·rfl
    ·unfold Acx;dsimp only;split
     ·rfl
     ·rename_i u hu;obtain⟨hk,hku⟩:=List.getElem?_eq_some_iff.1 hu;split
      ·exact Awx hk (by rw[hku];rfl)
      ·exact Awx hk (by rw[hku];rfl)
theorem Awz{p:Pl}(h:IvP p):IvP (Ag1 p):=by
 have hg:=Aux h.gu;unfold Ag1 at hg ⊢;refine⟨?_,hg,?_,?_,h.us,h.wy,h.bk,?_,h.ot⟩
 ·dsimp only;split
  ·rename_i he;exact(Azh h.s he).1
  ·exact h.s
 ·dsimp only;split
  ·exact Go.Sx.tick_ok h.r
  ·exact h.r
 ·dsimp only;split
  ·exact Ar5 h.gp
  ·exact h.gp
 ·dsimp only;split
  ·rename_i he;rw[Azd he];exact h.tot
  ·exact h.tot
theorem Bbb{p:Pl}(h:IvP p):IvP (Aw3 p):=⟨h.s,h.gu,h.r,h.gp,h.us,fun d hd=>h.wy d (List.mem_of_mem_tail hd),h.bk,h.tot,h.ot⟩
theorem Azk{p:Pl}(h:IvP p):IvP (Aso p):=⟨h.s,h.gu,h.r,h.gp,h.us,h.wy,fun d hd=>h.bk d (List.mem_of_mem_tail hd),h.tot,h.ot⟩
theorem Aiu{p:Pl}(k a:Int)(h:IvP p):IvP (Ae6 p k a):=by
 unfold Ae6;split
 ·exact Amr h
 ·split
  ·exact Aic h a
  ·split
   ·exact Zr h _
   ·split
    ·exact Zr h _
    ·split
     ·exact Bbb h
     ·split
      ·exact Ajj h a
      ·split
       ·exact Adj h _
       ·split
        ·exact Adj h _
        ·split
         ·exact Azk h
         ·split
          ·exact Awz h
          ·exact h
theorem Axu(p:Pl)(keep:Bool):(Em p keep).s=p.s:=by unfold Em;split<;>rfl
theorem Avo:Inv IvP muP:=by
 refine⟨fun p h=>Aru h,fun p h=>Amr h,fun p h=>Aic h _,fun p h=>Zr h _,fun p h=>Ajj h _,fun p h=>Adj h _,fun p h hb=>?_⟩;unfold muP;rw[Axu];unfold Kc at hb ⊢;split at hb
 ·rename_i he;rw[aF he];exact(Aq9 h.s he).2
 ·cases hb
theorem Zf:∀(n:Nat) (p:Pl),IvP p->IvP (Gq n p)
 |0,_,h=>h
 |n+1,p,h=>by
  unfold Gq;split
  ·exact Zf n _ (Amr h)
  ·exact Amr h
theorem Vj:∀(n:Nat) (p:Pl),IvP p->IvP (Hk n p)
 |0,_,h=>h
 |n+1,p,h=>by
  unfold Hk;split
  ·exact Vj n _ (Zr (Aic h _) _)
  ·exact Aic h _
theorem Awb{p:Pl}(h:IvP p):IvP (Bat p):=Awz (Adj (Ajj h _) _)
theorem Au3{l:Lk}(hl:Ir l){us:List (List Int)}(hb:∀d∈us,Bytes d)(ht:Apo us<=26000):IvP (En l us):=by
 have h0:Bt l.bits 0:=by
  unfold Bt;rcases Cm hl.1 with h|h|h|h|h<;>rw[h]<;>omega
 exact⟨Bav hl h0,Aze,Go.Sx.new_ok hl h0,Wl,hb,fun d hd=>by simp[En]at hd,fun d hd=>by simp[En]at hd,by show Ur []+Apo us<=26000;unfold Ur;simpa using ht,fun d hd=>by simp[En]at hd⟩
theorem law22_link_ct{w:World}:Calls Tryz.prog Zb #[] w fun e w'=>e=.returned (.agg #[.int .i64 5,.int .i64 4,.int .i64 3,.int .i64 3,.int .i64 0,.int .i64 30])/\Below w.heap.size w w':=by
 apply Al3;have H:=St.nil w;refine H.alloc ?_;clear H;intro b w1 H1;simp only[aC]at H1;refine H1.s 0 ?_;clear H1;intro w2 H2;refine⟨_,_,_,_,_,_,H2.cells (i:=0) rfl,?_⟩;exact⟨rfl,H2.below⟩
def awS:Pl:=Hl (En ⟨5,4,3,3,0,30⟩ [[1,2,3]]) [(1,0),(2,100),(4,0)]
def awY:Pl:=Am6 awS.wy.length awS
def awW:Pl:=Ahv awY.bk.length awY
theorem Bad:(Nc muP 10 awW).ot=[[1,2,3]]/\(Nc muP 10 awW).s.failed=false:=by decide+kernel
theorem Axe:Ir ⟨5,4,3,3,0,30⟩:=by decide
theorem Bco{L:List BL}{k:Nat}{d:List Int}(h:(ds L)[k]?=some d):∃y,L[k]?=some y/\y.d=d:=by
 unfold ds at h;rw[List.getElem?_map]at h;cases hk:L[k]? with
 |none=>rw[hk]at h;cases h
 |some y=>rw[hk]at h;exact⟨y,rfl,Option.some.inj h⟩
theorem law22_awake_ct{w:World}:Calls Tryz.prog Ga #[] w fun e w'=>e=.returned (.bool true)/\Below w.heap.size w w':=by
 apply Ai7;have H:=St.nil w;refine law22_link_ct.mono ?_;rintro _ w1 ⟨rfl,hb1⟩;have H1:=H.pass hb1;clear H;refine⟨_,_,_,_,_,_,rfl,?_⟩;refine H1.alloc ?_;clear H1;intro b w2 H2;refine H2.alloc ?_;clear H2;intro b1 w3 H3;refine H3.alloc ?_;clear H3;intro b2 w4 H4;simp only[aD,aC]at H4;have H5:=H4.litI (k:=.u8) (i:=0) [1,2,3] rfl (by decide);simp only[aA]at H5;have H5:=H5.shareI (i:=0) rfl;have H5:=H5.litE Eu (i:=1) [⟨[1,2,3],some ⟨b,0,none⟩,3⟩] rfl (by show 1<=maxLen;decide);simp only[aA,aB]at H5;have H5:=H5.shareE Eu (i:=1) rfl;have H5:=H5.litE Abi (i:=2) [(1,0),(2,100),(4,0)] rfl (by decide);simp only[aA,aB]at H5;have H5:=H5.shareE Abi (i:=2) rfl;clear H4;obtain⟨A,hA,hc⟩:=H5.call;have hQ:Held A w4 fun w=>QL [⟨[1,2,3],some ⟨b,0,none⟩,3⟩] (some ⟨b1,0,none⟩) w/\SlR (CE Oe) 2 w (some ⟨b2,0,none⟩) [(1,0),(2,100),(4,0)]:=hA.mono fun w h=>by
  refine⟨⟨h.2.1,fun x hx=>?_⟩,h.1⟩;obtain rfl:x=⟨[1,2,3],some ⟨b,0,none⟩,3⟩:=by simpa using hx
  exact⟨h.2.2.1,aG 3⟩
 have hI0:IvP (En ⟨5,4,3,3,0,30⟩ (ds [⟨[1,2,3],some ⟨b,0,none⟩,3⟩])):=Au3 Axe (fun d hd=>by
  obtain rfl:d=[1,2,3]:=by simpa [ds] using hd
  exact Adi.2 (by decide)) (by show Apo [[1,2,3]]<=26000;decide)
 have hz:Ku ⟨5,4,3,3,0,30⟩ [(⟨[1,2,3],some ⟨b,0,none⟩,3⟩:BL)] [((1:Int),(0:Int)),(2,100),(4,0)].length=0:=Art Axe ⟨by decide,by show 1<=256;decide,by rfl⟩;refine(Yf (l:=⟨5,4,3,3,0,30⟩) (U:=[⟨[1,2,3],some ⟨b,0,none⟩,3⟩]) (ST:=[(1,0),(2,100),(4,0)]) (rounds:=10) (I:=IvP) (mu:=muP) hQ (by show 1<=1000;decide) (by show 1<=1;decide)
  (fun y hy=>by
   have hy:y=(1,0)\/y=(2,100)\/y=(4,0):=by simpa using hy
   rcases hy with rfl|rfl|rfl<;>decide)
  Avo (fun p k a h=>Aiu k a h) (fun p h=>Awb h) Zf Vj (fun p h=>Ayh h) (fun _=>hI0) (by decide) (Y:=awY) (W:=awW) rfl rfl (E:=0) (by rw[hz];decide)).mono ?_
 rintro _ w5 ⟨L,a,c,-,hL,rfl,-,K⟩;rw[show (10:Int).toNat=10 from rfl]at hL ⊢;rw[aF rfl,Bad.1]at hL;rw[Bad.2];have hlen:L.length=1:=by have:=cI List.length hL;simpa [ds] using this
 have H6:=hc K;obtain⟨y,hy,hyd⟩:=Bco (L:=L) (k:=0) (d:=[1,2,3]) (by rw[hL];rfl);have hq:=H6.get.1;have hy3:y.d.length=3:=by rw[hyd];rfl
 refine⟨_,_,_,_,_,rfl,?_⟩;refine Aa (fun _=>?_) (fun c=>absurd rfl c);refine Al (fun _=>?_) (fun c=>by cases c);refine Aa (fun _=>?_) (fun c=>absurd (by omega) c);refine ixE hq.1 0 rfl (by omega) fun b3 z hz hb3=>?_;obtain rfl:y=z:=by rw[hy]at hz;exact Option.some.inj hz
 refine⟨_,_,_,hb3.1,?_⟩;refine Aa (fun _=>?_) (fun c=>absurd (by omega) c);refine ixE hq.1 0 rfl (by omega) fun b4 z hz hb4=>?_;obtain rfl:y=z:=by rw[hy]at hz;exact Option.some.inj hz
 refine⟨_,_,_,hb4.1,?_⟩;have hs:=(hq.2 y (bL hy)).1;rw[hyd]at hs ⊢;obtain⟨q,eq,hb5⟩:=hs.get (i:=2) (by decide);refine⟨q,eq,⟨by omega,by show (2:Int)<_;decide⟩,?_⟩;refine⟨_,hb5,?_⟩;refine Aw ?_;exact⟨rfl,H6.below⟩
section
variable{w:World}{L M:List BL}{a b:Option Addr}{c1 c2:Nat}
theorem Wt(ha:QL L a w)(hb:QL M b w)(he:ds L=ds M)(hby:∀d∈ds L,Bytes d)(hl:L.length<=140737488355328):Calls Tryz.prog Ni #[(.slice a L.length c1),(.slice b M.length c2)] w fun e w'=>e=.returned (.bool true)/\Below w.heap.size w w':=by
 apply Aga;have H:=St.nil w;have hlen:L.length=M.length:=by have:=cI List.length he;simpa [ds] using this
 refine An (fun c2=>absurd (by omega) c2) (fun _=>?_);refine⟨fun i=>((L.length-i).toNat,fun w1=>∃k:Nat,i=k/\k<=L.length/\Cg w w1 []),⟨0,rfl,aX _,H⟩,?_⟩;clear H;rintro _ i w1 ⟨k,rfl,hk,H1⟩;apply Aa<;>intro c1
 ·refine H1.drew ?_;clear H1;intro w2 H2;have q1:QL L a w2:=⟨ha.1.belowE H2.below,ha.2.below H2.below⟩;have q2:QL M b w2:=⟨hb.1.belowE H2.below,hb.2.below H2.below⟩;refine⟨(· <w2.heap.size),?_⟩;refine ixE q1.1 k rfl (by omega) fun b1 y hy hb1=>?_;refine⟨_,_,_,hb1.1,?_⟩;refine ixE q2.1 k rfl (by omega) fun b2 z hz hb2=>?_;refine⟨_,_,_,hb2.1,?_⟩;have hd:y.d=z.d:=by
   have h1:(ds L)[k]?=some y.d:=by unfold ds;rw[List.getElem?_map,hy];rfl
   have h2:(ds M)[k]?=some z.d:=by unfold ds;rw[List.getElem?_map,hz];rfl
   rw[he,h2]at h1;exact(Option.some.inj h1).symm
  have hyb:Bytes y.d:=hby y.d (cZ.2 ⟨y,bL hy,rfl⟩);refine(Wa (q1.2 y (bL hy)).1 (q2.2 z (bL hz)).1 hyb (by rw[<-hd];exact hyb)).mono ?_;rintro _ w3 ⟨rfl,hb3⟩;have H3:=H2.pass hb3;refine⟨_,rfl,?_⟩;refine⟨hb3.keeps,?_⟩;rw[aM hd];refine Al (fun c=>by cases c) (fun _=>?_);refine Ao (by omega) ?_;exact⟨⟨k+1,by omega,by omega,H3⟩,by dsimp only;omega⟩
 ·exact⟨rfl,H1.below⟩
end
theorem Bak{w:World}{U:List BL}{ua sta:Option Addr}{ST:List (Int×Int)}(h:QL U ua w/\SlR (CE Oe) 2 w sta ST):Held (All w) w fun w=>QL U ua w/\SlR (CE Oe) 2 w sta ST:=
 ⟨fun _ h=>h,fun w' hw=>⟨⟨(Atv h.1.1).2 w' hw,fun x hx=>⟨(Tv (h.1.2 x hx).1).2 w' hw,(h.1.2 x hx).2⟩⟩,(Atv h.2).2 w' hw⟩⟩
theorem Asf{n:Nat}:∀L:List (List Int),(∀d∈L,d.length<=n)->Apo L<=n*L.length
 | [],_=>aX _
 |d::L,h=>by
  have h1:=h d (by simp);have h2:=Asf L fun x hx=>h x (by simp[hx]);unfold Apo at h2 ⊢;simp only[bS,dC,aQ];rw[Nat.mul_succ];omega
theorem Bai{U:List BL}(h3:3<U.length->∀y∈U,y.d.length<=100)(hl:U.length<=256)(hw:(U.any fun y=>Gt y.d)=false):Apo (ds U)<=26000:=by
 have hlen:(ds U).length=U.length:=by simp[ds]
 by_cases h:3<U.length
 ·have:=Asf (n:=100) (ds U) fun d hd=>by
   obtain⟨y,hy,rfl⟩:=cZ.1 hd;exact h3 h y hy
  omega
 ·have:=Asf (n:=2054) (ds U) fun d hd=>by
   obtain⟨y,hy,rfl⟩:=cZ.1 hd;have:=bW.1 hw y hy;unfold Gt at this;simp only[Bool.or_eq_true,aO,not_or]at this;omega
  omega
section
variable{l:Lk}{U:List BL}{ua sta:Option Addr}{uc stc:Nat}{ST:List (Int×Int)}{w:World}
theorem law22_AmlinkRuns_ct(hQ:QL U ua w/\SlR (CE Oe) 2 w sta ST)(huc:U.length<=uc)(hby:∀y∈U,Bytes y.d)(ha:∀y∈ST,-9223372036854775808<=y.2/\y.2<=9223372036854775807):Calls Tryz.prog Jf #[.agg #[.int .i64 l.bits,.int .i64 l.every,.int .i64 l.poll,.int .i64 l.wait,.int .i64 l.quiet,.int .i64 l.tries],.slice ua U.length uc,.slice sta ST.length stc] w fun e w'=>e=.returned (.bool true)/\Below w.heap.size w w':=by
 apply Aay;have H:=(St.startA w).hold (Bak hQ);refine H.alloc ?_;clear H;intro b w1 H1;simp only[aC]at H1;have haw:∀ {G:Ending->World->Prop},(∀w',Below w.heap.size w w'->G (.returned (.bool true)) w')->Calls Tryz.prog Ga #[] w1 G:=fun h=>law22_awake_ct.mono fun _ w2 ⟨e,hb⟩=>by subst e;exact h w2 (H1.pass hb).below
 refine⟨fun w4=>U.length<=260/\ST.length<=410/\w4=w1,?_,?_⟩
 rotate_left
 ·refine Aa (fun c=>haw fun _ hb=>⟨_,rfl,rfl,hb⟩) (fun c=>?_);exact Aa (fun c=>haw fun _ hb=>⟨_,rfl,rfl,hb⟩) (fun c'=>⟨by omega,by omega,rfl⟩)
 rintro _ w4 ⟨hU,hST,rfl⟩;refine⟨fun i=>((U.length-i).toNat,fun w5=>∃k:Nat,i=k/\k<=U.length/\(3<U.length->∀j (hj:j<U.length),j<k->U[j].d.length<=100)/\w5=w4),⟨0,rfl,by omega,fun _ j _ h=>by omega,rfl⟩,?_⟩;rintro _ x w5 ⟨k,rfl,hk,hno,rfl⟩;apply Aa<;>intro c1
 ·have hlt:k<U.length:=by omega
  have hstep:(3<U.length->U[k].d.length<=100)->(∃j:Nat,(k:Int)+1=j/\j<=U.length/\(3<U.length->∀i (hi:i<U.length),i<j->U[i].d.length<=100)/\w5=w5)/\((U.length:Int)-(k+1)).toNat<((U.length:Int)-k).toNat:=fun h=>
   ⟨⟨k+1,by omega,by omega,fun h3 i hi hij=>by
    rcases aT i k with h'|h'
    ·exact hno h3 i hi h'
    ·obtain rfl:i=k:=by omega
     exact h h3,rfl⟩,by omega⟩
  refine ixE H1.get.1.1.1 k rfl hlt fun b1 y hy hb=>?_;obtain rfl:U[k]=y:=by rw[List.getElem?_eq_getElem hlt]at hy;injection hy
  refine⟨_,_,_,hb.1,?_⟩;apply Aa<;>intro c
  ·refine Aa (fun c3=>haw fun _ hb=>⟨_,rfl,rfl,hb⟩) (fun c3=>?_);refine Ao (by omega) ?_;exact hstep fun h=>by omega
  ·refine Ao (by omega) ?_;exact hstep fun h=>by omega
 have h3:3<U.length->∀y∈U,y.d.length<=100:=fun h y hy=>by
  obtain⟨j,hj,rfl⟩:=bF hy;exact hno h j hj (by omega)
 clear hno haw;have hI0:Ku l U ST.length=0->IvP (En l (ds U)):=fun h=>by
  obtain⟨h1,-,h4,h5⟩:=Ara h;exact Au3 h1 (fun d hd=>by obtain⟨y,hy,rfl⟩:=cZ.1 hd;exact hby y hy) (Bai h3 h4 h5)
 obtain⟨E,hE⟩:∃E,E=Ku l U ST.length:=⟨_,rfl⟩;obtain⟨Z,hZ⟩:∃Z:Pl,Z=if E=0 then Hl (En l (ds U)) ST else ⟨.zero,.zero,[],[],[],[]⟩:=⟨_,rfl⟩
 refine⟨_,_,_,_,_,_,H1.cells (i:=0) rfl,?_⟩;obtain⟨A,hA,hc⟩:=H1.call;refine(Apt (A:=A) (I:=IvP) (hA.mono fun _ h=>h.1) (by omega) huc ha (fun _ h=>Aru h) (fun p k a h=>Aiu k a h) hI0 hE hZ).mono ?_;rintro _ w8 ⟨L1,a1,c1,sa1,sc1,ra1,rc1,hl1,hL1,rfl,hIZ,K⟩;have H8:=hc K;clear H1 hA hc K;simp only[aL]at H8;refine⟨_,_,_,_,_,_,_,_,_,_,_,_,_,_,_,_,_,_,_,_,_,_,_,_,_,_,_,_,_,_,_,_,_,_,_,rfl,?_⟩;refine H8.alloc ?_;clear H8;intro b2 w9 H9;refine H9.alloc ?_;clear H9;intro b3 w10 H10;simp only[aD,aC]at H10;refine H10.s 1 ?_;clear H10;intro w11 H11;refine H11.s 2 ?_;clear H11;intro w12 H12;simp only[aB,aA]at H12;refine⟨_,_,_,_,_,_,H12.cells (i:=0) rfl,?_⟩;obtain⟨A,hA,hc⟩:=H12.call;refine(Ary (A:=A) (I:=IvP) (hA.mono fun _ h=>h.2.1) (by omega) huc ha (fun _ h=>Aru h) (fun p k a h=>Aiu k a h) hI0 hE hZ).mono ?_;rintro _ w13 ⟨L2,a2,c2,sa2,sc2,ra2,rc2,-,hL2,rfl,-,K⟩;have H13:=hc K;clear H12 hA hc K;simp only[aL]at H13;refine⟨_,_,_,_,_,_,_,_,_,_,_,_,_,_,_,_,_,_,_,_,_,_,_,_,_,_,_,_,_,_,_,_,_,_,_,rfl,?_⟩;refine H13.alloc ?_;clear H13;intro b4 w14 H14;refine H14.alloc ?_;clear H14;intro b5 w15 H15;simp only[aD,aC]at H15;refine H15.s 3 ?_;clear H15;intro w16 H16;refine H16.s 4 ?_;clear H16;intro w17 H17;simp only[aB,aA]at H17;refine Aw ?_;have hmod:Int.tmod (U.length:Int) 7=((U.length%7:Nat):Int):=rfl;rw[hmod];have hlt7:U.length%7<7:=Nat.mod_lt _ (by decide);refine Ao (by omega) ?_;obtain⟨n,hn⟩:∃n:Int,n=((U.length%7:Nat):Int)-1:=⟨_,rfl⟩;rw[<-hn];obtain⟨F,hF⟩:∃F:Int,F=if Ku l U ST.length≠0 then Ku l U ST.length else if n<0 then 3 else 0:=⟨_,rfl⟩
 refine⟨_,_,_,_,_,_,H17.cells (i:=0) rfl,?_⟩;obtain⟨A,hA,hc⟩:=H17.call;refine(Yf (A:=A) (I:=IvP) (mu:=muP) (hA.mono fun _ h=>h.2.2.1) (by omega) huc ha Avo (fun p k a h=>Aiu k a h) (fun p h=>Awb h) Zf Vj (fun p h=>Ayh h) hI0 (by omega) rfl rfl hF).mono ?_;rintro _ w18 ⟨L3,a3,c3,hl3,hL3,rfl,hIF,K⟩;have H18:=hc K;clear H17 hA hc K;simp only[aL]at H18;refine⟨_,_,_,_,_,rfl,?_⟩;refine⟨_,_,_,_,_,_,H18.cells (i:=0) rfl,?_⟩;obtain⟨A,hA,hc⟩:=H18.call;refine(Alu (A:=A) (I:=IvP) (mu:=muP) (hA.mono fun _ h=>h.2.2.2.1) (by omega) huc ha Avo (fun p k a h=>Aiu k a h) (fun p h=>Awb h) Zf Vj (fun p h=>Ayh h) hI0 (by omega) rfl rfl hF).mono ?_;rintro _ w19 ⟨L4,a4,c4,-,hL4,rfl,-,K⟩;have H19:=hc K;clear H18 hA hc K;simp only[aL]at H19;refine⟨_,_,_,_,_,rfl,?_⟩;refine law22_awake_ct.mono ?_;rintro _ w20 ⟨rfl,hb20⟩;have H20:=H19.pass hb20;clear H19;refine⟨_,rfl,?_⟩;have hZs:GU Z.s.units/\GP Z.r.parts/\∀d∈Z.ot,Bytes d:=by
  by_cases h:E=0
  ·exact⟨(hIZ h).gu,(hIZ h).gp,(hIZ h).ot⟩
  ·rw[hZ,aE h];exact⟨Lw,Wl,fun d hd=>by cases hd⟩
 have hFo:∀d∈ds L3,Bytes d:=by
  rw[hL3];split
  ·rename_i h;exact(hIF h).ot
  ·intro d hd;cases hd
 clear hIZ hIF hZ;refine Al (fun _=>?_) (fun c=>by cases c);refine Aa (fun _=>?_) (fun c=>absurd rfl c);have g1:QL L1 a1 w20/\UnR w20 sa1 Z.s.units/\PaR w20 ra1 Z.r.parts:=H20.get.2.2.2.1;have g2:QL L2 a2 w20/\UnR w20 sa2 Z.s.units/\PaR w20 ra2 Z.r.parts:=H20.get.2.2.1;refine(Wt g1.1 g2.1 (hL1.trans hL2.symm) (by rw[hL1];exact hZs.2.2) (by omega)).mono ?_;rintro _ w21 ⟨rfl,hb21⟩;have H21:=H20.pass hb21;clear H20;refine⟨_,rfl,?_⟩;refine Al (fun _=>?_) (fun c=>by cases c);refine⟨_,_,_,_,_,_,_,_,_,_,_,_,_,_,_,H21.cells (i:=1) rfl,?_⟩;refine⟨_,_,_,_,_,_,_,_,_,_,_,_,_,_,_,H21.cells (i:=3) rfl,?_⟩;have g1:QL L1 a1 w21/\UnR w21 sa1 Z.s.units/\PaR w21 ra1 Z.r.parts:=H21.get.2.2.2.1;have g2:QL L2 a2 w21/\UnR w21 sa2 Z.s.units/\PaR w21 ra2 Z.r.parts:=H21.get.2.2.1;refine(Aql (s:=Z.s) g1.2.1 g2.2.1 hZs.1.1 hZs.1.2).mono ?_;rintro _ w22 ⟨rfl,hb22⟩;have H22:=H21.pass hb22;clear H21;refine⟨_,rfl,?_⟩;refine Al (fun _=>?_) (fun c=>by cases c);refine⟨_,_,_,_,_,_,_,_,_,_,_,_,_,_,_,_,H22.cells (i:=2) rfl,?_⟩;refine⟨_,_,_,_,_,_,_,_,_,_,_,_,_,_,_,_,H22.cells (i:=4) rfl,?_⟩;have g1:QL L1 a1 w22/\UnR w22 sa1 Z.s.units/\PaR w22 ra1 Z.r.parts:=H22.get.2.2.2.1;have g2:QL L2 a2 w22/\UnR w22 sa2 Z.s.units/\PaR w22 ra2 Z.r.parts:=H22.get.2.2.1;refine(Aqq (s:=Z.r) g1.2.2 g2.2.2 hZs.2.1.sm fun u hu=>(hZs.2.1.2 u hu).2.2).mono ?_;rintro _ w23 ⟨rfl,hb23⟩;have H23:=H22.pass hb23;clear H22;refine⟨_,rfl,?_⟩;refine Al (fun _=>?_) (fun c=>by cases c);refine Aa (fun _=>?_) (fun c=>absurd rfl c);refine Al (fun _=>?_) (fun c=>by simp at c);have g3:QL L3 a3 w23:=H23.get.2.1;have g4:QL L4 a4 w23:=H23.get.1;refine(Wt g3 g4 (hL3.trans hL4.symm) hFo (by omega)).mono ?_;rintro _ w24 ⟨rfl,hb24⟩;have H24:=H23.pass hb24;clear H23;exact⟨_,rfl,rfl,H24.below⟩
end
section
variable{g:Nat}{a:Option Addr}{c:Nat}{ts:List Int}{p:Nat}{w:World}{A:Nat->Prop}{P:World->Prop}
theorem Vn(hP:Held A w P)(hts:Rolls a ts P)(hB:(Hh g a c ts p).ok w)(hn:∀b,(Hh g a c ts p).at=some b->¬A b)(hp:p<=ts.length){most:Int}(hm:0<=most/\most<=400):Calls Tryz.prog Gr #[(.pointer (some ⟨g,0,none⟩)),(.int .i64 most)] w fun e w'=>∃(L:List (Int×Int)) (ra:Option Addr) (rc p':Nat),e=.returned (.slice ra L.length rc)/\(∀y∈L,0<=y.2/\y.2<=100)/\(L.length:Int)<=most/\p'<=ts.length/\
  St A [g] w w' [Hh g a c ts p',.els Oe Gd 2 ra rc L] P:=by
 apply Wb;have H:St A [g] w w [Hh g a c ts p] P:=St.startM hP hB hn;refine Ao (by omega) ?_;refine Rk H (i:=0) rfl hts hp (by omega) fun v p1 w1 _ hv hp1 H1=>?_;have hv:=hv (by omega);obtain⟨m,rfl⟩:=Xj hv.1;have H1:=H1.nilE Oe Gd 2;refine⟨fun l_a l_l l_c n=>(n.toNat,fun w2=>∃(k:Nat) (L:List (Int×Int)) (p2:Nat),n=k/\L.length+k=m/\l_l=L.length/\(∀y∈L,0<=y.2/\y.2<=100)/\p2<=ts.length/\St A [g] w w2 [Hh g a c ts p2,.els Oe Gd 2 l_a l_c L] P),
  ⟨m,[],p1,rfl,by simp,rfl,fun y hy=>(by cases hy),hp1,H1⟩,?_⟩
 clear H1;rintro _ l_a l_l l_c n w2 ⟨k,L,p2,rfl,hk,rfl,hL,hp2,H2⟩;apply Aa<;>intro cc
 ·refine H2.alloc ?_;clear H2;intro b w3 H3;simp only[aD,aC]at H3;refine Rk H3 (i:=0) rfl hts hp2 (by omega) fun v1 p3 w4 _ hv1 hp3 H4=>?_;clear H3;have hv1:=hv1 (by omega);obtain⟨j,rfl⟩:=Xj hv1.1;simp only[aA]at H4;have hv2:∃x:Int,([Value.int .i64 1,.int .i64 2,.int .i64 3,.int .i64 2,.int .i64 3,.int .i64 7,.int .i64 8,.int .i64 11,.int .i64 4,.int .i64 5,.int .i64 10,.int .i64 9,.int .i64 1]:List Value)[j]?=some (.int .i64 x):=by
   rcases (show j=0\/j=1\/j=2\/j=3\/j=4\/j=5\/j=6\/j=7\/j=8\/j=9\/j=10\/j=11\/j=12 by omega)with rfl|rfl|rfl|rfl|rfl|rfl|rfl|rfl|rfl|rfl|rfl|rfl|rfl<;>exact⟨_,rfl⟩
  obtain⟨x,hx⟩:=hv2;refine⟨⟨b,0,none⟩,rfl,⟨by omega,by omega⟩,?_⟩;show kLd w4 (Addr.add ⟨b,0,none⟩ (((j:Int)).toNat*1)) _ _;rw[bK,dB,Bd,aN];refine H4.ld (i:=2) rfl hx ?_;refine⟨fun at1 w9=>∃p4,p4<=ts.length/\(0<=at1/\at1<=100)/\St A [g] w w9 [Hh g a c ts p4,.els Oe Gd 2 l_a l_c L] P,?_,?_⟩
  ·rintro _ at1 w9 ⟨p4,hp4,ha,H9⟩;refine H9.alloc ?_;clear H9;intro b2 w10 H10;simp only[aD,aC]at H10;refine H10.appEB Abi (i:=1) (j:=2) rfl [(x,at1)] rfl Ake rfl (by simp;omega) (by simp;omega) ?_;intro x_a x_c w11 H11;simp only[aB,aA]at H11;refine Ao (by omega) ?_;refine⟨⟨k-1,L++[(x,at1)],p4,by omega,by simp;omega,by simp,fun y hy=>?_,hp4,St.left (X:=[_,_]) H11⟩,by dsimp only;omega⟩;rcases aW.1 hy with hy|hy
   ·exact hL y hy
   ·obtain rfl:y=(x,at1):=by simpa using hy
    exact ha
  ·apply Aa<;>intro c3
   ·refine Rk H4 (i:=0) rfl hts hp3 (by omega) fun v2 p5 w5 _ hv2 hp5 H5=>?_;have hv2:=hv2 (by omega);refine Ao (by omega) ?_;refine Acv H5 (i:=0) rfl hts hp5 (by omega) fun v3 p6 w6 _ hp6 H6=>?_;simp only[aA]at H6;apply Al<;>intro _
    ·exact⟨p6,hp6,by omega,St.left (X:=[_,_]) H6⟩
    ·exact⟨p6,hp6,by omega,St.left (X:=[_,_]) H6⟩
   ·apply Aa<;>intro c2
    ·refine Rk H4 (i:=0) rfl hts hp3 (by omega) fun v2 p5 w5 _ hv2 hp5 H5=>?_;have hv2:=hv2 (by omega);refine Ao (by omega) ?_;refine Acv H5 (i:=0) rfl hts hp5 (by omega) fun v3 p6 w6 _ hp6 H6=>?_;simp only[aA]at H6;apply Al<;>intro _
     ·exact⟨p6,hp6,by omega,St.left (X:=[_,_]) H6⟩
     ·exact⟨p6,hp6,by omega,St.left (X:=[_,_]) H6⟩
    ·exact⟨p3,hp3,by omega,St.left (X:=[_,_]) H4⟩
 ·obtain rfl:k=0:=by omega
  exact⟨L,l_a,l_c,p2,rfl,hL,by omega,hp2,H2⟩
end
section
variable{g:Nat}{a:Option Addr}{c:Nat}{ts:List Int}{p:Nat}{w:World}{A:Nat->Prop}{P:World->Prop}
theorem Ae4(hP:Held A w P)(hts:Rolls a ts P)(hB:(Hh g a c ts p).ok w)(hn:∀b,(Hh g a c ts p).at=some b->¬A b)(hp:p<=ts.length){count most:Int}(hm:0<=count/\count<=400)(hm2:1<=most/\most<=400):Calls Tryz.prog Kk #[(.pointer (some ⟨g,0,none⟩)),(.int .i64 count),(.int .i64 most)] w fun e w'=>∃(L:List BL) (ra:Option Addr) (rc p':Nat),e=.returned (.slice ra L.length rc)/\(∀y∈L,Bytes y.d)/\p'<=ts.length/\
  St A [g] w w' [Hh g a c ts p',.els Ic As 1 ra rc L] fun w=>DaB L w/\P w:=by
 apply Ac7;have H:St A [g] w w [Hh g a c ts p] P:=St.startM hP hB hn;refine Ao (by omega) ?_;refine Rk H (i:=0) rfl hts hp (by omega) fun v p1 w1 _ hv hp1 H1=>?_;have hv:=hv (by omega);obtain⟨m,rfl⟩:=Xj hv.1;have H1:=H1.nilE Ic As 1;refine⟨fun l_a l_l l_c n=>(n.toNat,fun w2=>∃(k:Nat) (L:List BL) (p2:Nat),n=k/\L.length+k=m/\l_l=L.length/\(∀y∈L,Bytes y.d)/\p2<=ts.length/\St A [g] w w2 [Hh g a c ts p2,.els Ic As 1 l_a l_c L] fun w=>DaB L w/\P w),
  ⟨m,[],p1,rfl,by simp,rfl,fun k h=>(by cases h),hp1,H1.imp fun w h=>⟨fun x hx=>(by cases hx),h⟩⟩,?_⟩
 clear H1;rintro _ l_a l_l l_c n w2 ⟨k,L,p2,rfl,hk,rfl,hL,hp2,H2⟩;apply Aa<;>intro cc
 ·have hts2:Rolls a ts fun w=>DaB L w/\P w:=hts.and _;obtain⟨A',hA',hn',hr',hc⟩:=H2.callM (i:=0) rfl;refine(As0 hA' hts2 hr' hn' hp2 (most:=most) (by omega)).mono ?_;rintro _ w3 ⟨ra1,rc1,bs,p3,rfl,hbs,hb1,hbl,hp3,K⟩;have H6:=(hc K).imp fun _ h=>h.2;clear hc K hA' hn' hr' H2;simp only[aA,aD,aC]at H6;refine⟨_,_,_,rfl,?_⟩;have hcap:=H6.capI (i:=2) rfl;have H7:=H6.shareMI (i:=2) rfl fun b hb=>H6.nat (i:=2) (j:=0) rfl rfl (by decide) hb;clear H6;simp only[aB,aA]at H7;refine H7.alloc ?_;clear H7;intro b w6 H8;simp only[aD,aC]at H8;refine H8.appEB Eu (i:=1) (j:=3) rfl [⟨bs,ra1,rc1⟩] rfl Gy rfl (by simp;omega) (by simp;omega) ?_;intro x_a1 x_c1 w7 H9;clear H8;simp only[aB,aA]at H9;refine Ao (by omega) ?_;refine⟨⟨k-1,L++[(⟨bs,ra1,rc1⟩:BL)],p3,by omega,by simp;omega,by simp,fun y hy=>?_,hp3,(St.left (X:=[_,_]) H9).imp fun w h=>⟨fun y hy=>?_,h.2.2⟩⟩,by dsimp only;omega⟩
  ·rcases aW.1 hy with hy|hy
   ·exact hL y hy
   ·obtain rfl:y=⟨bs,ra1,rc1⟩:=by simpa using hy
    exact hbs
  ·rcases aW.1 hy with hy|hy
   ·exact h.2.1 y hy
   ·obtain rfl:y=⟨bs,ra1,rc1⟩:=by simpa using hy
    exact⟨h.1,hcap⟩
 ·obtain rfl:k=0:=by omega
  exact⟨L,l_a,l_c,p2,rfl,hL,hp2,H2⟩
end
section
variable{ta:Option Addr}{tc:Nat}{ts:List Int}{w:World}
theorem law22_AmlinkMade_ct(hts:SlR (Bp .i64) 1 w ta ts):Calls Tryz.prog Tm #[.slice ta ts.length tc] w fun e w'=>e=.returned (.bool true)/\Below w.heap.size w w':=by
 apply Aba;have H:=(St.startA w).hold (Tv hts);refine made_Light_ct.mono ?_;rintro _ w1 ⟨rfl,hb1⟩;have H1:=H.pass hb1;clear H;refine⟨_,rfl,?_⟩;apply An<;>intro c16
 ·refine law22_awake_ct.mono ?_;rintro _ w2 ⟨rfl,hb2⟩;have H2:=H1.pass hb2;clear H1;exact⟨_,rfl,rfl,H2.below⟩
 refine made_Roll_ct.mono ?_;rintro _ w3 ⟨g,rfl,K⟩;have H3:=H1.callR K;clear H1 K;simp only[aC]at H3;have hR0:Rolls ta ts fun w=>SlR (Bp .i64) 1 w ta ts/\True:=⟨fun _ h=>h.1,by omega⟩;refine⟨_,rfl,?_⟩;obtain⟨A',hA',hn',hr',hc⟩:=H3.callM (i:=0) rfl;refine(Asj hA' hR0 hr' hn' (aX _)).mono ?_;rintro _ w5 ⟨l,p2,rfl,hl,hp2,K⟩;have H5:=(hc K).imp fun _ h=>h.2;clear hc K hA' hn' hr' H3;simp only[aA,aL]at H5;refine⟨_,_,_,_,_,_,rfl,?_⟩;refine H5.alloc ?_;clear H5;intro b w6 H6;simp only[aD,aC]at H6;refine H6.s 1 ?_;clear H6;intro w7 H7;simp only[aB,aA]at H7;refine Acv H7 (i:=0) rfl hR0 hp2 (by omega) fun v p3 w8 _ hp3 H8=>?_;clear H7;simp only[aA]at H8;apply Al<;>intro _
 ·refine⟨_,_,_,_,_,_,H8.cells (i:=1) rfl,?_⟩;obtain⟨A',hA',hn',hr',hc⟩:=H8.callM (i:=0) rfl;refine(Amo (l:=l) hA' hR0 hr' hn' hp3).mono ?_;rintro _ w9 ⟨l2,p4,rfl,hp4,K⟩;have H9:=(hc K).imp fun _ h=>h.2;clear hc K hA' hn' hr' H8;simp only[aA,aL]at H9;refine⟨_,_,_,_,_,_,rfl,?_⟩;refine H9.s 1 ?_;clear H9;intro w9 H9;simp only[aB,aA]at H9;refine H9.drew ?_;clear H9;intro w10 H10;refine⟨fun z=>z=b,rfl,?_⟩;refine⟨_,_,_,_,_,_,H10.cells (i:=1) rfl,?_⟩;obtain⟨A',hA',hn',hr',hc⟩:=H10.callM (i:=0) rfl;refine(Ae4 hA' hR0 hr' hn' hp4 (count:=12) (most:=12) (by decide) (by decide)).mono ?_;rintro _ w11 ⟨L,ra,rc,p5,rfl,hL,hp5,K⟩;have H11:=(hc K).imp (Q:=fun w'=>DaB L w'/\SlR (Bp .i64) 1 w' ta ts/\True) fun w' h=>⟨h.1.1,h.2⟩;clear hc K hA' hn' hr';simp only[aA,aD,aC]at H11;refine⟨_,_,_,rfl,?_⟩;refine⟨Mk (H10.ok 1 _ rfl) (H11.ok 1 _ rfl),?_⟩;obtain⟨A',hA',hn',hr',hc⟩:=H11.callM (i:=0) rfl;refine(Vn hA' (hR0.and _) hr' hn' hp5 (most:=150) (by decide)).mono ?_;rintro _ w12 ⟨ST,sa,sc,p6,rfl,hST,_,_,K⟩;have H12:=(hc K).imp fun _ h=>h.2;clear hc K hA' hn' hr' H11;simp only[aA,aD,aC]at H12;refine⟨_,_,_,rfl,?_⟩;refine⟨Mk (H10.ok 1 _ rfl) (H12.ok 1 _ rfl),?_⟩;clear H10;refine(law22_AmlinkRuns_ct (l:=l2) (U:=L) (ST:=ST) ⟨⟨H12.slE Eu (i:=2) rfl,H12.get.1⟩,H12.slE Abi (i:=3) rfl⟩ (H12.capE (i:=2) rfl) hL (fun y hy=>by have:=hST y hy;omega)).mono ?_;rintro _ w13 ⟨rfl,hb13⟩;have H13:=H12.pass hb13;clear H12;exact⟨_,rfl,rfl,H13.below⟩
 ·refine H8.drew ?_;clear H8;intro w10 H10;refine⟨fun z=>z=b,rfl,?_⟩;refine⟨_,_,_,_,_,_,H10.cells (i:=1) rfl,?_⟩;obtain⟨A',hA',hn',hr',hc⟩:=H10.callM (i:=0) rfl;refine(Ae4 hA' hR0 hr' hn' hp3 (count:=12) (most:=12) (by decide) (by decide)).mono ?_;rintro _ w11 ⟨L,ra,rc,p5,rfl,hL,hp5,K⟩;have H11:=(hc K).imp (Q:=fun w'=>DaB L w'/\SlR (Bp .i64) 1 w' ta ts/\True) fun w' h=>⟨h.1.1,h.2⟩;clear hc K hA' hn' hr';simp only[aA,aD,aC]at H11;refine⟨_,_,_,rfl,?_⟩;refine⟨Mk (H10.ok 1 _ rfl) (H11.ok 1 _ rfl),?_⟩;obtain⟨A',hA',hn',hr',hc⟩:=H11.callM (i:=0) rfl;refine(Vn hA' (hR0.and _) hr' hn' hp5 (most:=150) (by decide)).mono ?_;rintro _ w12 ⟨ST,sa,sc,p6,rfl,hST,_,_,K⟩;have H12:=(hc K).imp fun _ h=>h.2;clear hc K hA' hn' hr' H11;simp only[aA,aD,aC]at H12;refine⟨_,_,_,rfl,?_⟩;refine⟨Mk (H10.ok 1 _ rfl) (H12.ok 1 _ rfl),?_⟩;clear H10;refine(law22_AmlinkRuns_ct (l:=l) (U:=L) (ST:=ST) ⟨⟨H12.slE Eu (i:=2) rfl,H12.get.1⟩,H12.slE Abi (i:=3) rfl⟩ (H12.capE (i:=2) rfl) hL (fun y hy=>by have:=hST y hy;omega)).mono ?_;rintro _ w13 ⟨rfl,hb13⟩;have H13:=H12.pass hb13;clear H12;exact⟨_,rfl,rfl,H13.below⟩
end
end Go.Proofs.YtmbppohkadmjgaaGreat
