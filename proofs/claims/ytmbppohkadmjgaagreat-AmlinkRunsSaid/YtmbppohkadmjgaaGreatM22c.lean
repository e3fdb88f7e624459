import Derived.Test.YtmbppohkadmjgaaGreatM22b
import Derived.Test.YtmbppohkadmjgaaGreatM20b
import Derived.Test.YtmbppohkadmjgaaGreatM21b
import Derived.Test.YtmbppohkadmjgaaGreatM18
import Derived.Test.YtmbppohkadmjgaaGreatFxAmlinkRuns
import Derived.Test.YtmbppohkadmjgaaGreatOp
namespace Go.Proofs.YtmbppohkadmjgaaGreat
open Go.Sx Go.RowKit
set_option maxRecDepth 100000
def Ug(L:List Un):Nat:=(L.map fun u=>u.data.length).sum
def Amq(L:List (List Int)):Nat:=(L.map fun d=>d.length).sum
def Ad5(u:Un):Nat:=((u.data.length:Int)-u.sent).toNat+(u.again.map fun r=>(r.t-r.f).toNat).sum
def muP(p:Pl):Nat:=(p.s.units.map Ad5).sum
structure IvP (p:Pl):Prop where
 s:OkS p.s
 gu:GU p.s.units
 r:p.r.okB=true
 gp:GP p.r.parts
 us:∀d∈p.us,Bytes d
 wy:∀d∈p.wy,Bytes d
 bk:∀d∈p.bk,Bytes d
 tot:Ug p.s.units+Amq p.us<=26000
 ot:∀d∈p.ot,Bytes d
theorem Alo{α:Type}(f:α->Nat)(x:α):∀(L:List α) (k:Nat) (hk:k<L.length),((L.set k x).map f).sum+f L[k]=(L.map f).sum+f x
 | [],k,hk=>absurd hk (Nat.not_lt_zero _)
 |y::L,0,_=>by simp;omega
 |y::L,k+1,hk=>by
  have:=Alo f x L k (by simpa using hk);simp only[aB,bV,dE,eW];omega
theorem Atg:∀ {L:List Rg} {p m:Int},Ca p L=true->(∀r∈L,r.t<=m)->(((L.map fun r=>(r.t-r.f).toNat).sum:Nat):Int)<=max 0 (m-p-1)
 | [],p,m,_,_=>by simp;omega
 |x::L,p,m,h,hm=>by
  simp only[Ca,aH,aN]at h;have h1:=hm x (by simp);have:=Atg (m:=m) h.2 fun r hr=>hm r (by simp[hr]);simp only[bV,dE,Int.natCast_add];omega
theorem Ayr{l:Lk}{u:Un}(h:unB l u=true):Ad5 u<=u.data.length:=by
 obtain⟨⟨-,-,h3,-⟩,h1,h2⟩:=Le.1 h;have:=Atg (m:=u.sent) h1 fun r hr=>(h2 r hr).2;unfold Ad5;omega
theorem Auz{l:Lk}{u:Un}{n:Int}(h:unB l u=true)(hn:1<=n)(hn2:(Cz u).f+n<=(Cz u).t):Ad5 (Di u n)<Ad5 u:=by
 unfold Cz at hn2;unfold Di Ad5;cases ha:u.again with
 |nil=>
  rw[ha]at hn2;dsimp only at hn2 ⊢;simp;omega
 |cons r t=>
  rw[ha]at hn2;dsimp only at hn2 ⊢;split
  ·simp only[bV,dE];omega
  ·simp only[bV,dE];omega
theorem Axs{p:Pl}(h:IvP p):muP p<=26000:=by
 have key:∀L:List Un,(∀u∈L,unB p.s.lk u=true)->(L.map Ad5).sum<=Ug L:=by
  intro L;induction L with
  |nil=>intro _;exact aG _
  |cons u L ih=>
   intro hu;have h1:=Ayr (hu u (by simp));have h2:=ih fun v hv=>hu v (by simp[hv]);unfold Ug at h2 ⊢;simp only[bV,dE];omega
 have h1:=key p.s.units fun u hu=>(h.s.all u hu).1;have h2:=h.tot;unfold muP;omega
theorem Av8(s:Sd)(k:Nat)(u:Un)(q:Pc):(Qa s k u q).2.2=0:=by unfold Qa;dsimp only;split<;>rfl
theorem Awd{s:Sd}{size E:Int}(h:(Bx s size E).2.2≠0):(Bx s size E).2.1=[]:=by
 unfold Bx at h ⊢;by_cases hE:E≠0
 ·rw[aF hE]
 rw[aE hE]at h ⊢;by_cases hz:¬(0<=size/\size<=4096)
 ·rw[aF hz]
 rw[aE hz]at h ⊢;by_cases hl:Ei s.units<0
 ·rw[aF hl]
 rw[aE hl]at h ⊢;cases hu:s.units[(Ei s.units).toNat]? with
 |none=>rfl
 |some u=>
  rw[hu]at h;dsimp only at h ⊢;by_cases hc:(Hx s.lk.bits (Ce u) size).2.2≠0
  ·rw[aF hc]
  rw[aE hc]at h;exact absurd (Av8 _ _ _ _) h
theorem Aws{s:Sd}{size E:Int}(h:OkS s):(Bx s size E).2.1.length<=100000:=by
 by_cases c:(Bx s size E).2.2=0
 ·obtain⟨k,hk,q,-,hqo,hb,-⟩:=Ajw h c;obtain⟨_,_,_,_,_,_,_,h8⟩:=hqo;rw[hb];unfold Pc.bytes;split<;>simp<;>omega
 ·rw[Awd c];simp
theorem Azg{s:Rc}{size:Int}(h:(Fp s size).2.1≠[]):(Fp s size).2.1=(encS s.lk.bits (fitR s.lk.bits (Ko s).1 size).1).1:=by
 unfold Fp at h ⊢;by_cases h1:s.okB=false
 ·rw[aF h1]at h;exact absurd rfl h
 rw[aE h1]at h ⊢;by_cases h2:size<0\/size>4096
 ·rw[aF h2]at h;exact absurd rfl h
 rw[aE h2]at h ⊢;by_cases h3:s.due=false\/s.quiet>0
 ·rw[aF h3]at h;exact absurd rfl h
 rw[aE h3]at h ⊢;dsimp only at h ⊢;by_cases h4:(fitR s.lk.bits (Ko s).1 size).2≠0
 ·rw[aF h4]at h;exact absurd rfl h
 rw[aE h4]
theorem Ayd(b:Int)(s:Stt):(encS b s).1.length<=100000:=by
 unfold encS;split
 ·rename_i h;have h1:=Yx s;have h2:∀L:List Rg,sumS L<=6*L.length:=by
   intro L;induction L with
   |nil=>exact bW _
   |cons r L ih=>
    have hz:szR r<=6:=by unfold szR;split<;>omega
    simp only[sumS,aQ];omega
  have h3:=h2 s.miss;have h4:=h.2.2.1;dsimp only;omega
 ·simp
theorem Axb{s:Rc}{size:Int}:(Fp s size).2.1.length<=100000:=by
 by_cases c:(Fp s size).2.1=[]
 ·rw[c];simp
 ·rw[Azg c];exact Ayd _ _
theorem Aqf(b:Int)(bs:List Int):(Me b bs).1.miss.length<=64:=by
 unfold Me;split
 ·simp[Stt.zero]
 ·split
  ·simp[Stt.zero]
  ·split
   ·rename_i h;exact h.1.2.2.1
   ·simp[Stt.zero]
theorem Apy{s:Sd}{bs:List Int}(h:GU s.units):GU (Sa s bs).units:=by
 unfold Sa;split
 ·exact Bab h (by have:=Aqf s.lk.bits bs;omega)
 ·exact h
theorem Atb{p:Pl}(h:GU p.s.units):GU (Ahq p).s.units:=by
 unfold Ahq;dsimp only;split
 ·exact Ay3 h
 ·exact h
theorem Aq8{p:Pl}(h:IvP p):Fits p:=
 ⟨fun _=>⟨Aj0 h.gu,Aws h.s,(Asp h.gu).1⟩,fun _=>⟨(Aro h.gp).2,Axb,(Aro h.gp).1⟩,(Atb h.gu).1,
  fun d l _=>⟨by have:=Aqf p.s.lk.bits d;omega,(Apy h.gu).1⟩,fun d l hd=>(Ax4 h.gu (h.us d (by rw[hd];simp))).1⟩
theorem Alh{p:Pl}(h:IvP p):IvP (Mi p).1:=by
 unfold Mi;cases hu:p.us with
 |nil=>exact h
 |cons d l=>
  dsimp only;split
  ·rename_i he;obtain⟨h1,h2,h3⟩:=Az3 h.s he;have hus:=h.us;have ht:=h.tot;rw[hu]at hus ht;refine⟨h1,Ax4 h.gu (hus d (by simp)),h.r,h.gp,fun x hx=>hus x (by simp[show x∈l from hx]),h.wy,h.bk,?_,h.ot⟩;have e:(Lc p.s d (Co p.s)).1.units=p.s.units++[⟨p.s.next,d,0,0,[]⟩]:=by
    unfold Lc at he ⊢;split at he
    ·exact absurd he (by assumption)
    ·rename_i c1;rw[aE c1];split at he
     ·exact absurd he (by decide)
     ·rename_i c2;rw[aE c2];split at he
      ·exact absurd he (by decide)
      ·rename_i c3;rw[aE c3]
   show Ug (Lc p.s d (Co p.s)).1.units+Amq l<=26000;rw[e];unfold Ug Amq at*;simp only[bE,bV,fK,List.sum_append,dE,List.sum_nil]at ht ⊢;omega
  ·exact h
theorem Aqd{s:Sd}{size E:Int}(h:OkS s)(he:(Bx s size E).2.2=0):Ug (Bx s size E).1.units=Ug s.units/\((Bx s size E).1.units.map Ad5).sum<(s.units.map Ad5).sum:=by
 obtain⟨k,hk,q,-,-,-,-,hqf,h1,h2,-,hu,-⟩:=Ajw h he;rw[hu];have a1:=Alo (fun u:Un=>u.data.length) (Di s.units[k] q.data.length) s.units k hk;have a2:=Alo Ad5 (Di s.units[k] q.data.length) s.units k hk;rw[show (Di s.units[k] q.data.length).data.length=s.units[k].data.length by rw[(Tt _ _).1]]at a1;have a3:=Auz (n:=q.data.length) (h.all _ (aJ hk)).1 (by omega) h2;unfold Ug;exact⟨by omega,by omega⟩
theorem Ahb{p:Pl}(h:IvP p)(size:Int):IvP (Jv p size).1:=by
 unfold Jv;split
 ·rename_i he;obtain⟨h1,h2,h3⟩:=Aw5 h.s he;refine⟨h1,Asp h.gu,h.r,h.gp,h.us,fun d hd=>?_,h.bk,?_,h.ot⟩
  ·rcases aW.1 hd with hd|hd
   ·exact h.wy d hd
   ·rw[fE]at hd;rw[hd];exact Aj0 h.gu
  ·show Ug (Bx p.s size (Co p.s)).1.units+Amq p.us<=26000;rw[(Aqd h.s he).1];exact h.tot
 ·exact h
theorem Yv{p:Pl}(h:IvP p)(keep:Bool):IvP (El p keep):=by
 unfold El;cases hw:p.wy with
 |nil=>exact h
 |cons d l=>
  have hwy:=h.wy;rw[hw]at hwy;have hd:=hwy d (by simp);refine⟨h.s,h.gu,?_,?_,h.us,?_,h.bk,h.tot,?_⟩
  ·dsimp only;split
   ·exact h.r
   ·exact Baf h.r fun _ _=>Ac2
  ·dsimp only;split
   ·exact h.gp
   ·exact(Arf h.gp hd).1
  ·intro x hx;dsimp only at hx;cases keep with
   |true=>exact hwy x hx
   |false=>exact hwy x (by simp[show x∈l from hx])
  ·intro x hx;dsimp only at hx;split at hx
   ·exact h.ot x hx
   ·rcases aW.1 hx with hx|hx
    ·exact h.ot x hx
    ·rw[fE]at hx;rw[hx];exact(Arf h.gp hd).2
theorem Ah2{p:Pl}(h:IvP p)(size:Int):IvP (Ql p size):=by
 unfold Ql;split
 ·rename_i he;refine⟨h.s,h.gu,(Go.Sx.rep_ok h.r he).2,(Aro h.gp).1,h.us,h.wy,fun d hd=>?_,h.tot,h.ot⟩;rcases aW.1 hd with hd|hd
  ·exact h.bk d hd
  ·rw[fE]at hd;rw[hd];exact(Aro h.gp).2
 ·exact h
theorem Ann{g:Un->Option Un}(hg:∀u v,g u=some v->v.data=u.data):∀L:List Un,Ug (L.filterMap g)<=Ug L
 | []=>aG _
 |u::L=>by
  have:=Ann hg L;unfold Ug at*;cases hu:g u with
  |none=>rw[dU hu];simp only[bV,dE];omega
  |some v=>
   rw[cK hu];have e:=cL List.length (hg u v hu);simp only[bV,dE];omega
theorem Acy{p:Pl}(h:IvP p)(keep:Bool):IvP (Hm p keep):=by
 unfold Hm;cases hw:p.bk with
 |nil=>exact h
 |cons d l=>
  have hbk:=h.bk;rw[hw]at hbk;have hgu:=Apy (bs:=d) h.gu;have key:OkS (Sa p.s d)/\Ug (Sa p.s d).units<=Ug p.s.units:=by
   unfold Sa;split
   ·rename_i he;obtain⟨h1,h2,h3,-⟩:=Ay1 h.s he.2;exact⟨h1,by rw[h3];exact Ann (fun u v huv=>(Acz huv).2.1) _⟩
   ·exact⟨h.s,aG _⟩
  refine⟨key.1,hgu,h.r,h.gp,h.us,h.wy,?_,?_,h.ot⟩
  ·intro x hx;dsimp only at hx;cases keep with
   |true=>exact hbk x hx
   |false=>exact hbk x (by simp[show x∈l from hx])
  ·show Ug (Sa p.s d).units+Amq p.us<=26000;have:=h.tot;have:=key.2;omega
theorem Avb{L:List Un}{k:Nat}{x:Un}(hk:k<L.length)(hx:x.data=L[k].data):Ug (L.set k x)=Ug L:=by
 have:=Alo (fun u:Un=>u.data.length) x L k hk;have e:x.data.length=L[k].data.length:=by rw[hx]
 unfold Ug;omega
theorem Axq{s:Sd}{E:Int}(he:(Hk s E).2=0):Ug (Hk s E).1.units=Ug s.units:=by
 unfold Hk at he ⊢;split at he
 ·exact absurd he (by assumption)
 ·rename_i c1;rw[aE c1];split
  ·rfl
  ·split
   ·rfl
   ·dsimp only;unfold Agv;split
    ·rfl
    ·unfold Abl;dsimp only;split
     ·rfl
     ·rename_i u hu;obtain⟨hk,hku⟩:=List.getElem?_eq_some_iff.1 hu;split
      ·exact Avb hk (by rw[hku];rfl)
      ·exact Avb hk (by rw[hku];rfl)
theorem Avf{p:Pl}(h:IvP p):IvP (Ahq p):=by
 have hg:=Atb h.gu;unfold Ahq at hg ⊢;refine⟨?_,hg,?_,?_,h.us,h.wy,h.bk,?_,h.ot⟩
 ·dsimp only;split
  ·rename_i he;exact(Axy h.s he).1
  ·exact h.s
 ·dsimp only;split
  ·exact Go.Sx.tick_ok h.r
  ·exact h.r
 ·dsimp only;split
  ·exact Aqt h.gp
  ·exact h.gp
 ·dsimp only;split
  ·rename_i he;rw[Axq he];exact h.tot
  ·exact h.tot
theorem Azb{p:Pl}(h:IvP p):IvP (Au1 p):=⟨h.s,h.gu,h.r,h.gp,h.us,fun d hd=>h.wy d (List.mem_of_mem_tail hd),h.bk,h.tot,h.ot⟩
theorem Ax8{p:Pl}(h:IvP p):IvP (Aqm p):=⟨h.s,h.gu,h.r,h.gp,h.us,h.wy,fun d hd=>h.bk d (List.mem_of_mem_tail hd),h.tot,h.ot⟩
theorem Ahl{p:Pl}(k a:Int)(h:IvP p):IvP (Aej p k a):=by
 unfold Aej;split
 ·exact Alh h
 ·split
  ·exact Ahb h a
  ·split
   ·exact Yv h _
   ·split
    ·exact Yv h _
    ·split
     ·exact Azb h
     ·split
      ·exact Ah2 h a
      ·split
       ·exact Acy h _
       ·split
        ·exact Acy h _
        ·split
         ·exact Ax8 h
         ·split
          ·exact Avf h
          ·exact h
theorem Awi(p:Pl)(keep:Bool):(El p keep).s=p.s:=by unfold El;split<;>rfl
theorem Aul:Inv IvP muP:=by
 refine⟨fun p h=>Aq8 h,fun p h=>Alh h,fun p h=>Ahb h _,fun p h=>Yv h _,fun p h=>Ah2 h _,fun p h=>Acy h _,fun p h hb=>?_⟩;unfold muP;rw[Awi];unfold Jv at hb ⊢;split at hb
 ·rename_i he;rw[aF he];exact(Aqd h.s he).2
 ·cases hb
theorem Xo:∀(n:Nat) (p:Pl),IvP p->IvP (Gi n p)
 |0,_,h=>h
 |n+1,p,h=>by
  unfold Gi;split
  ·exact Xo n _ (Alh h)
  ·exact Alh h
theorem Uq:∀(n:Nat) (p:Pl),IvP p->IvP (Gy n p)
 |0,_,h=>h
 |n+1,p,h=>by
  unfold Gy;split
  ·exact Uq n _ (Yv (Ahb h _) _)
  ·exact Ahb h _
theorem At4{p:Pl}(h:IvP p):IvP (Aze p):=Avf (Acy (Ah2 h _) _)
theorem Att{l:Lk}(hl:Ip l){us:List (List Int)}(hb:∀d∈us,Bytes d)(ht:Amq us<=26000):IvP (Ek l us):=by
 have h0:Bs l.bits 0:=by
  unfold Bs;rcases Ck hl.1 with h|h|h|h|h<;>rw[h]<;>omega
 exact⟨Azp hl h0,Axf,Go.Sx.new_ok hl h0,Vs,hb,fun d hd=>by simp[Ek]at hd,fun d hd=>by simp[Ek]at hd,by show Ug []+Amq us<=26000;unfold Ug;simpa using ht,fun d hd=>by simp[Ek]at hd⟩
theorem law22_link_ct{w:World}:Calls Tryz.prog Xy #[] w fun e w'=>e=.returned (.agg #[.int .i64 5,.int .i64 4,.int .i64 3,.int .i64 3,.int .i64 0,.int .i64 30])/\Below w.heap.size w w':=by
 apply Ak6;have H:=St.nil w;refine H.alloc ?_;clear H;intro b w1 H1;simp only[aC]at H1;refine H1.store (i:=0) rfl (by rfl) (by rfl) ?_;clear H1;intro w2 H2;refine⟨_,_,_,_,_,_,H2.cells (i:=0) rfl,?_⟩;exact⟨rfl,H2.below⟩
def awS:Pl:=He (Ek ⟨5,4,3,3,0,30⟩ [[1,2,3]]) [(1,0),(2,100),(4,0)]
def awY:Pl:=Anw awS.wy.length awS
def awW:Pl:=Ag5 awY.bk.length awY
theorem Ayv:(Mm muP 10 awW).ot=[[1,2,3]]/\(Mm muP 10 awW).s.failed=false:=by decide+kernel
theorem Avo:Ip ⟨5,4,3,3,0,30⟩:=by decide
theorem Bbd{L:List BL}{k:Nat}{d:List Int}(h:(ds L)[k]?=some d):∃y,L[k]?=some y/\y.d=d:=by
 unfold ds at h;rw[List.getElem?_map]at h;cases hk:L[k]? with
 |none=>rw[hk]at h;cases h
 |some y=>rw[hk]at h;exact⟨y,rfl,Option.some.inj h⟩
theorem law22_awake_ct{w:World}:Calls Tryz.prog Hf #[] w fun e w'=>e=.returned (.bool true)/\Below w.heap.size w w':=by
 apply Aih;have H:=St.nil w;refine law22_link_ct.mono ?_;rintro _ w1 ⟨rfl,hb1⟩;have H1:=H.pass hb1;clear H;refine⟨_,_,_,_,_,_,rfl,?_⟩;refine H1.alloc ?_;clear H1;intro b w2 H2;refine H2.alloc ?_;clear H2;intro b1 w3 H3;refine H3.alloc ?_;clear H3;intro b2 w4 H4;simp only[aD,aC]at H4;have H5:=H4.litI (k:=.u8) (i:=0) [1,2,3] rfl (by decide);simp only[aA]at H5;have H5:=H5.shareI (i:=0) rfl;have H5:=H5.litE Gc (i:=1) [⟨[1,2,3],some ⟨b,0,none⟩,3⟩] rfl (by show 1<=maxLen;decide);simp only[aA,aB]at H5;have H5:=H5.shareE Gc (i:=1) rfl;have H5:=H5.litE Asx (i:=2) [(1,0),(2,100),(4,0)] rfl (by decide);simp only[aA,aB]at H5;have H5:=H5.shareE Asx (i:=2) rfl;clear H4;obtain⟨A,hA,hc⟩:=H5.call;have hQ:Held A w4 fun w=>QL [⟨[1,2,3],some ⟨b,0,none⟩,3⟩] (some ⟨b1,0,none⟩) w/\SlR (CE Pp) 2 w (some ⟨b2,0,none⟩) [(1,0),(2,100),(4,0)]:=hA.mono fun w h=>by
  refine⟨⟨h.2.1,fun x hx=>?_⟩,h.1⟩;obtain rfl:x=⟨[1,2,3],some ⟨b,0,none⟩,3⟩:=by simpa using hx
  exact⟨h.2.2.1,aG 3⟩
 have hI0:IvP (Ek ⟨5,4,3,3,0,30⟩ (ds [⟨[1,2,3],some ⟨b,0,none⟩,3⟩])):=Att Avo (fun d hd=>by
  obtain rfl:d=[1,2,3]:=by simpa [ds] using hd
  exact Aco.2 (by decide)) (by show Amq [[1,2,3]]<=26000;decide)
 have hz:Ki ⟨5,4,3,3,0,30⟩ [(⟨[1,2,3],some ⟨b,0,none⟩,3⟩:BL)] [((1:Int),(0:Int)),(2,100),(4,0)].length=0:=Arq Avo ⟨by decide,by show 1<=256;decide,by rfl⟩;refine(Wi (l:=⟨5,4,3,3,0,30⟩) (U:=[⟨[1,2,3],some ⟨b,0,none⟩,3⟩]) (ST:=[(1,0),(2,100),(4,0)]) (rounds:=10) (I:=IvP) (mu:=muP) hQ (by show 1<=1000;decide) (by show 1<=1;decide)
  (fun y hy=>by
   have hy:y=(1,0)\/y=(2,100)\/y=(4,0):=by simpa using hy
   rcases hy with rfl|rfl|rfl<;>decide)
  Aul (fun p k a h=>Ahl k a h) (fun p h=>At4 h) Xo Uq (fun p h=>Axs h) (fun _=>hI0) (by decide) (Y:=awY) (W:=awW) rfl rfl (E:=0) (by rw[hz];decide)).mono ?_
 rintro _ w5 ⟨L,a,c,-,hL,rfl,-,K⟩;rw[show (10:Int).toNat=10 from rfl]at hL ⊢;rw[aF rfl,Ayv.1]at hL;rw[Ayv.2];have hlen:L.length=1:=by have:=cL List.length hL;simpa [ds] using this
 have H6:=hc K;obtain⟨y,hy,hyd⟩:=Bbd (L:=L) (k:=0) (d:=[1,2,3]) (by rw[hL];rfl);have hq:=H6.get.1;have hy3:y.d.length=3:=by rw[hyd];rfl
 refine⟨_,_,_,_,_,rfl,?_⟩;refine Aa (fun _=>?_) (fun c=>absurd rfl c);refine An (fun _=>?_) (fun c=>by cases c);refine Aa (fun _=>?_) (fun c=>absurd (by omega) c);refine ixE hq.1 0 rfl (by omega) fun b3 z hz hb3=>?_;obtain rfl:y=z:=by rw[hy]at hz;exact Option.some.inj hz
 refine⟨_,_,_,hb3.1,?_⟩;refine Aa (fun _=>?_) (fun c=>absurd (by omega) c);refine ixE hq.1 0 rfl (by omega) fun b4 z hz hb4=>?_;obtain rfl:y=z:=by rw[hy]at hz;exact Option.some.inj hz
 refine⟨_,_,_,hb4.1,?_⟩;have hs:=(hq.2 y (bL hy)).1;rw[hyd]at hs ⊢;obtain⟨q,eq,hb5⟩:=hs.get (i:=2) (by decide);refine⟨q,eq,⟨by omega,by show (2:Int)<_;decide⟩,?_⟩;refine⟨_,hb5,?_⟩;refine Ay ?_;exact⟨rfl,H6.below⟩
section
variable{w:World}{L M:List BL}{a b:Option Addr}{c1 c2:Nat}
theorem Wc(ha:QL L a w)(hb:QL M b w)(he:ds L=ds M)(hby:∀d∈ds L,Bytes d)(hl:L.length<=140737488355328):Calls Tryz.prog Mq #[(.slice a L.length c1),(.slice b M.length c2)] w fun e w'=>e=.returned (.bool true)/\Below w.heap.size w w':=by
 apply Aft;have H:=St.nil w;have hlen:L.length=M.length:=by have:=cL List.length he;simpa [ds] using this
 refine Al (fun c2=>absurd (by omega) c2) (fun _=>?_);refine⟨fun i=>((L.length-i).toNat,fun w1=>∃k:Nat,i=k/\k<=L.length/\Cg w w1 []),⟨0,rfl,aY _,H⟩,?_⟩;clear H;rintro _ i w1 ⟨k,rfl,hk,H1⟩;refine Aa (fun c1=>?_) (fun c1=>?_)
 ·refine H1.drew ?_;clear H1;intro w2 H2;have q1:QL L a w2:=⟨ha.1.belowE H2.below,ha.2.below H2.below⟩;have q2:QL M b w2:=⟨hb.1.belowE H2.below,hb.2.below H2.below⟩;refine⟨(· <w2.heap.size),?_⟩;refine ixE q1.1 k rfl (by omega) fun b1 y hy hb1=>?_;refine⟨_,_,_,hb1.1,?_⟩;refine ixE q2.1 k rfl (by omega) fun b2 z hz hb2=>?_;refine⟨_,_,_,hb2.1,?_⟩;have hd:y.d=z.d:=by
   have h1:(ds L)[k]?=some y.d:=by unfold ds;rw[List.getElem?_map,hy];rfl
   have h2:(ds M)[k]?=some z.d:=by unfold ds;rw[List.getElem?_map,hz];rfl
   rw[he,h2]at h1;exact(Option.some.inj h1).symm
  have hyb:Bytes y.d:=hby y.d (cZ.2 ⟨y,bL hy,rfl⟩);refine(Vm (q1.2 y (bL hy)).1 (q2.2 z (bL hz)).1 hyb (by rw[<-hd];exact hyb)).mono ?_;rintro _ w3 ⟨rfl,hb3⟩;have H3:=H2.pass hb3;refine⟨_,rfl,?_⟩;refine⟨hb3.keeps,?_⟩;rw[aL hd];refine An (fun c=>by cases c) (fun _=>?_);refine Ap (by omega) ?_;exact⟨⟨k+1,by omega,by omega,H3⟩,by dsimp only;omega⟩
 ·exact⟨rfl,H1.below⟩
end
theorem Azi{w:World}{U:List BL}{ua sta:Option Addr}{ST:List (Int×Int)}(h:QL U ua w/\SlR (CE Pp) 2 w sta ST):Held (All w) w fun w=>QL U ua w/\SlR (CE Pp) 2 w sta ST:=
 ⟨fun _ h=>h,fun w' hw=>⟨⟨(Ati h.1.1).2 w' hw,fun x hx=>⟨(Wx (h.1.2 x hx).1).2 w' hw,(h.1.2 x hx).2⟩⟩,(Ati h.2).2 w' hw⟩⟩
theorem Aq6{n:Nat}:∀L:List (List Int),(∀d∈L,d.length<=n)->Amq L<=n*L.length
 | [],_=>aY _
 |d::L,h=>by
  have h1:=h d (by simp);have h2:=Aq6 L fun x hx=>h x (by simp[hx]);unfold Amq at h2 ⊢;simp only[bV,dE,aQ];rw[Nat.mul_succ];omega
theorem Axv{U:List BL}(h3:3<U.length->∀y∈U,y.d.length<=100)(hl:U.length<=256)(hw:(U.any fun y=>Gl y.d)=false):Amq (ds U)<=26000:=by
 have hlen:(ds U).length=U.length:=by simp[ds]
 by_cases h:3<U.length
 ·have:=Aq6 (n:=100) (ds U) fun d hd=>by
   obtain⟨y,hy,rfl⟩:=cZ.1 hd;exact h3 h y hy
  omega
 ·have:=Aq6 (n:=2054) (ds U) fun d hd=>by
   obtain⟨y,hy,rfl⟩:=cZ.1 hd;have:=bU.1 hw y hy;unfold Gl at this;simp only[Bool.or_eq_true,aN,not_or]at this;omega
  omega
section
variable{l:Lk}{U:List BL}{ua sta:Option Addr}{uc stc:Nat}{ST:List (Int×Int)}{w:World}
theorem law22_AmlinkRuns_ct(hQ:QL U ua w/\SlR (CE Pp) 2 w sta ST)(huc:U.length<=uc)(hby:∀y∈U,Bytes y.d)(ha:∀y∈ST,-9223372036854775808<=y.2/\y.2<=9223372036854775807):Calls Tryz.prog Sn #[.agg #[.int .i64 l.bits,.int .i64 l.every,.int .i64 l.poll,.int .i64 l.wait,.int .i64 l.quiet,.int .i64 l.tries],.slice ua U.length uc,.slice sta ST.length stc] w fun e w'=>e=.returned (.bool true)/\Below w.heap.size w w':=by
 apply Aag;have H:=(St.startA w).hold (Azi hQ);refine H.alloc ?_;clear H;intro b w1 H1;simp only[aC]at H1;have haw:∀ {G:Ending->World->Prop},(∀w',Below w.heap.size w w'->G (.returned (.bool true)) w')->Calls Tryz.prog Hf #[] w1 G:=fun h=>law22_awake_ct.mono fun _ w2 ⟨e,hb⟩=>by subst e;exact h w2 (H1.pass hb).below
 refine⟨fun w4=>U.length<=260/\ST.length<=410/\w4=w1,?_,?_⟩
 rotate_left
 ·refine Aa (fun c=>haw fun _ hb=>⟨_,rfl,rfl,hb⟩) (fun c=>?_);exact Aa (fun c=>haw fun _ hb=>⟨_,rfl,rfl,hb⟩) (fun c'=>⟨by omega,by omega,rfl⟩)
 rintro _ w4 ⟨hU,hST,rfl⟩;refine⟨fun i=>((U.length-i).toNat,fun w5=>∃k:Nat,i=k/\k<=U.length/\(3<U.length->∀j (hj:j<U.length),j<k->U[j].d.length<=100)/\w5=w4),⟨0,rfl,by omega,fun _ j _ h=>by omega,rfl⟩,?_⟩;rintro _ x w5 ⟨k,rfl,hk,hno,rfl⟩;refine Aa (fun c1=>?_) (fun c1=>?_)
 ·have hlt:k<U.length:=by omega
  have hstep:(3<U.length->U[k].d.length<=100)->(∃j:Nat,(k:Int)+1=j/\j<=U.length/\(3<U.length->∀i (hi:i<U.length),i<j->U[i].d.length<=100)/\w5=w5)/\((U.length:Int)-(k+1)).toNat<((U.length:Int)-k).toNat:=fun h=>
   ⟨⟨k+1,by omega,by omega,fun h3 i hi hij=>by
    rcases aV i k with h'|h'
    ·exact hno h3 i hi h'
    ·obtain rfl:i=k:=by omega
     exact h h3,rfl⟩,by omega⟩
  refine ixE H1.get.1.1.1 k rfl hlt fun b1 y hy hb=>?_;obtain rfl:U[k]=y:=by rw[List.getElem?_eq_getElem hlt]at hy;injection hy
  refine⟨_,_,_,hb.1,?_⟩;refine Aa (fun c=>?_) (fun c=>?_)
  ·refine Aa (fun c3=>haw fun _ hb=>⟨_,rfl,rfl,hb⟩) (fun c3=>?_);refine Ap (by omega) ?_;exact hstep fun h=>by omega
  ·refine Ap (by omega) ?_;exact hstep fun h=>by omega
 have h3:3<U.length->∀y∈U,y.d.length<=100:=fun h y hy=>by
  obtain⟨j,hj,rfl⟩:=bB hy;exact hno h j hj (by omega)
 clear hno haw;have hI0:Ki l U ST.length=0->IvP (Ek l (ds U)):=fun h=>by
  obtain⟨h1,-,h4,h5⟩:=Apw h;exact Att h1 (fun d hd=>by obtain⟨y,hy,rfl⟩:=cZ.1 hd;exact hby y hy) (Axv h3 h4 h5)
 obtain⟨E,hE⟩:∃E,E=Ki l U ST.length:=⟨_,rfl⟩;obtain⟨Z,hZ⟩:∃Z:Pl,Z=if E=0 then He (Ek l (ds U)) ST else ⟨.zero,.zero,[],[],[],[]⟩:=⟨_,rfl⟩
 refine⟨_,_,_,_,_,_,H1.cells (i:=0) rfl,?_⟩;obtain⟨A,hA,hc⟩:=H1.call;refine(Apm (A:=A) (I:=IvP) (hA.mono fun _ h=>h.1) (by omega) huc ha (fun _ h=>Aq8 h) (fun p k a h=>Ahl k a h) hI0 hE hZ).mono ?_;rintro _ w8 ⟨L1,a1,c1,sa1,sc1,ra1,rc1,hl1,hL1,rfl,hIZ,K⟩;have H8:=hc K;clear H1 hA hc K;simp only[aM]at H8;refine⟨_,_,_,_,_,_,_,_,_,_,_,_,_,_,_,_,_,_,_,_,_,_,_,_,_,_,_,_,_,_,_,_,_,_,_,rfl,?_⟩;refine H8.alloc ?_;clear H8;intro b2 w9 H9;refine H9.alloc ?_;clear H9;intro b3 w10 H10;simp only[aD,aC]at H10;refine H10.store (i:=1) rfl (by rfl) (by rfl) ?_;clear H10;intro w11 H11;refine H11.store (i:=2) rfl (by rfl) (by rfl) ?_;clear H11;intro w12 H12;simp only[aB,aA]at H12;refine⟨_,_,_,_,_,_,H12.cells (i:=0) rfl,?_⟩;obtain⟨A,hA,hc⟩:=H12.call;refine(Aqu (A:=A) (I:=IvP) (hA.mono fun _ h=>h.2.1) (by omega) huc ha (fun _ h=>Aq8 h) (fun p k a h=>Ahl k a h) hI0 hE hZ).mono ?_;rintro _ w13 ⟨L2,a2,c2,sa2,sc2,ra2,rc2,-,hL2,rfl,-,K⟩;have H13:=hc K;clear H12 hA hc K;simp only[aM]at H13;refine⟨_,_,_,_,_,_,_,_,_,_,_,_,_,_,_,_,_,_,_,_,_,_,_,_,_,_,_,_,_,_,_,_,_,_,_,rfl,?_⟩;refine H13.alloc ?_;clear H13;intro b4 w14 H14;refine H14.alloc ?_;clear H14;intro b5 w15 H15;simp only[aD,aC]at H15;refine H15.store (i:=3) rfl (by rfl) (by rfl) ?_;clear H15;intro w16 H16;refine H16.store (i:=4) rfl (by rfl) (by rfl) ?_;clear H16;intro w17 H17;simp only[aB,aA]at H17;refine Ay ?_;have hmod:Int.tmod (U.length:Int) 7=((U.length%7:Nat):Int):=rfl;rw[hmod];have hlt7:U.length%7<7:=fZ _ (by decide);refine Ap (by omega) ?_;obtain⟨n,hn⟩:∃n:Int,n=((U.length%7:Nat):Int)-1:=⟨_,rfl⟩;rw[<-hn];obtain⟨F,hF⟩:∃F:Int,F=if Ki l U ST.length≠0 then Ki l U ST.length else if n<0 then 3 else 0:=⟨_,rfl⟩
 refine⟨_,_,_,_,_,_,H17.cells (i:=0) rfl,?_⟩;obtain⟨A,hA,hc⟩:=H17.call;refine(Wi (A:=A) (I:=IvP) (mu:=muP) (hA.mono fun _ h=>h.2.2.1) (by omega) huc ha Aul (fun p k a h=>Ahl k a h) (fun p h=>At4 h) Xo Uq (fun p h=>Axs h) hI0 (by omega) rfl rfl hF).mono ?_;rintro _ w18 ⟨L3,a3,c3,hl3,hL3,rfl,hIF,K⟩;have H18:=hc K;clear H17 hA hc K;simp only[aM]at H18;refine⟨_,_,_,_,_,rfl,?_⟩;refine⟨_,_,_,_,_,_,H18.cells (i:=0) rfl,?_⟩;obtain⟨A,hA,hc⟩:=H18.call;refine(Akd (A:=A) (I:=IvP) (mu:=muP) (hA.mono fun _ h=>h.2.2.2.1) (by omega) huc ha Aul (fun p k a h=>Ahl k a h) (fun p h=>At4 h) Xo Uq (fun p h=>Axs h) hI0 (by omega) rfl rfl hF).mono ?_;rintro _ w19 ⟨L4,a4,c4,-,hL4,rfl,-,K⟩;have H19:=hc K;clear H18 hA hc K;simp only[aM]at H19;refine⟨_,_,_,_,_,rfl,?_⟩;refine law22_awake_ct.mono ?_;rintro _ w20 ⟨rfl,hb20⟩;have H20:=H19.pass hb20;clear H19;refine⟨_,rfl,?_⟩;have hZs:GU Z.s.units/\GP Z.r.parts/\∀d∈Z.ot,Bytes d:=by
  by_cases h:E=0
  ·exact⟨(hIZ h).gu,(hIZ h).gp,(hIZ h).ot⟩
  ·rw[hZ,aE h];exact⟨Lh,Vs,fun d hd=>by cases hd⟩
 have hFo:∀d∈ds L3,Bytes d:=by
  rw[hL3];split
  ·rename_i h;exact(hIF h).ot
  ·intro d hd;cases hd
 clear hIZ hIF hZ;refine An (fun _=>?_) (fun c=>by cases c);refine Aa (fun _=>?_) (fun c=>absurd rfl c);have g1:QL L1 a1 w20/\UnR w20 sa1 Z.s.units/\PaR w20 ra1 Z.r.parts:=H20.get.2.2.2.1;have g2:QL L2 a2 w20/\UnR w20 sa2 Z.s.units/\PaR w20 ra2 Z.r.parts:=H20.get.2.2.1;refine(Wc g1.1 g2.1 (hL1.trans hL2.symm) (by rw[hL1];exact hZs.2.2) (by omega)).mono ?_;rintro _ w21 ⟨rfl,hb21⟩;have H21:=H20.pass hb21;clear H20;refine⟨_,rfl,?_⟩;refine An (fun _=>?_) (fun c=>by cases c);refine⟨_,_,_,_,_,_,_,_,_,_,_,_,_,_,_,H21.cells (i:=1) rfl,?_⟩;refine⟨_,_,_,_,_,_,_,_,_,_,_,_,_,_,_,H21.cells (i:=3) rfl,?_⟩;have g1:QL L1 a1 w21/\UnR w21 sa1 Z.s.units/\PaR w21 ra1 Z.r.parts:=H21.get.2.2.2.1;have g2:QL L2 a2 w21/\UnR w21 sa2 Z.s.units/\PaR w21 ra2 Z.r.parts:=H21.get.2.2.1;refine(Aom (s:=Z.s) g1.2.1 g2.2.1 hZs.1.1 hZs.1.2).mono ?_;rintro _ w22 ⟨rfl,hb22⟩;have H22:=H21.pass hb22;clear H21;refine⟨_,rfl,?_⟩;refine An (fun _=>?_) (fun c=>by cases c);refine⟨_,_,_,_,_,_,_,_,_,_,_,_,_,_,_,_,H22.cells (i:=2) rfl,?_⟩;refine⟨_,_,_,_,_,_,_,_,_,_,_,_,_,_,_,_,H22.cells (i:=4) rfl,?_⟩;have g1:QL L1 a1 w22/\UnR w22 sa1 Z.s.units/\PaR w22 ra1 Z.r.parts:=H22.get.2.2.2.1;have g2:QL L2 a2 w22/\UnR w22 sa2 Z.s.units/\PaR w22 ra2 Z.r.parts:=H22.get.2.2.1;refine(Ao1 (s:=Z.r) g1.2.2 g2.2.2 hZs.2.1.sm fun u hu=>(hZs.2.1.2 u hu).2.2).mono ?_;rintro _ w23 ⟨rfl,hb23⟩;have H23:=H22.pass hb23;clear H22;refine⟨_,rfl,?_⟩;refine An (fun _=>?_) (fun c=>by cases c);refine Aa (fun _=>?_) (fun c=>absurd rfl c);refine An (fun _=>?_) (fun c=>by simp at c);have g3:QL L3 a3 w23:=H23.get.2.1;have g4:QL L4 a4 w23:=H23.get.1;refine(Wc g3 g4 (hL3.trans hL4.symm) hFo (by omega)).mono ?_;rintro _ w24 ⟨rfl,hb24⟩;have H24:=H23.pass hb24;clear H23;exact⟨_,rfl,rfl,H24.below⟩
end
def shSp:Shape:=.cons 1 (.int .i64) (.cons 1 (.int .i64) .nil)
def shLk:Shape:=.cons 1 (.int .i64) (.cons 1 (.int .i64) (.cons 1 (.int .i64) (.cons 1 (.int .i64) shSp)))
theorem lk_of{W:World}{cs:Array Value}(h:shLk.R W cs.toList):∃l:Lk,cs=#[.int .i64 l.bits,.int .i64 l.every,.int .i64 l.poll,.int .i64 l.wait,.int .i64 l.quiet,.int .i64 l.tries]:=by
 obtain⟨⟨a,e0,_⟩,⟨b,e1,_⟩,⟨c,e2,_⟩,⟨d,e3,_⟩,⟨e,e4,_⟩,⟨f,e5,_⟩,e6⟩:=h;have h5:=tk1 e5;rw[e6]at h5;have h4:=tk1 e4;rw[h5]at h4;have h3:=tk1 e3;rw[h4]at h3;have h2:=tk1 e2;rw[h3]at h2;have h1:=tk1 e1;rw[h2]at h1;have h0:=tk1 e0;rw[h1]at h0;exact⟨⟨a,b,c,d,e,f⟩,Array.toList_inj.1 h0⟩
theorem Baq{xs:List Int}(h:∀i (h:i<xs.length),(Lit.int .u8 xs[i]).wf=true):Bytes xs:=fun i hi=>by have:=bounds_u8 (h i hi);omega
theorem units_of{W:World}{a:Option Addr}{l:Nat}(h:0<l->∃b,a=some b/\∀i,i<l->∃es,cellsAt W (b.add (i*1)) 0 es/\es.length=1/\(Shape.sl 1 (.int .u8)).R W es):∃L:List BL,L.length=l/\QL L a W/\∀y∈L,Bytes y.d:=by
 rcases cN l with rfl|hl0
 ·exact⟨[],rfl,⟨.inl rfl,fun x hx=>by cases hx⟩,fun x hx=>by cases hx⟩
 ·obtain⟨b,rfl,hb⟩:=h hl0;obtain⟨L,hL,hq⟩:=Nn (Q:=fun i (u:BL)=>cellsAt W (b.add (i*1)) 0 (Ji u)/\(SlR (Bp .u8) 1 W u.a u.d/\u.d.length<=u.c)/\Bytes u.d) l fun i hi=>by
   obtain⟨es,hes,_,a1,l1,c1,rfl,h1,h2,h3⟩:=hb i hi;obtain⟨xs,rfl,hx,hw⟩:=Ay9 (k:=.u8) h3;exact⟨⟨xs,a1,c1⟩,hes,⟨hx,h1⟩,Baq hw⟩
  refine⟨L,hL,⟨.inr ⟨b,rfl,fun i hi=>(hq i hi).1⟩,fun x hx=>?_⟩,fun x hx=>?_⟩
  ·obtain⟨i,hi,rfl⟩:=bB hx;exact(hq i hi).2.1
  ·obtain⟨i,hi,rfl⟩:=bB hx;exact(hq i hi).2.2
theorem steps_of{W:World}{a:Option Addr}{l:Nat}(h:0<l->∃b,a=some b/\∀i,i<l->∃es,cellsAt W (b.add (i*2)) 0 es/\es.length=2/\shSp.R W es):∃ST:List (Int×Int),ST.length=l/\SlR (CE Pp) 2 W a ST/\∀y∈ST,-9223372036854775808<=y.2/\y.2<=9223372036854775807:=by
 rcases cN l with rfl|hl0
 ·exact⟨[],rfl,.inl rfl,fun x hx=>by cases hx⟩
 ·obtain⟨b,rfl,hb⟩:=h hl0;obtain⟨L,hL,hq⟩:=Nn (Q:=fun i (u:Int×Int)=>cellsAt W (b.add (i*2)) 0 (Pp u)/\ -9223372036854775808<=u.2/\u.2<=9223372036854775807) l fun i hi=>by
   obtain⟨es,hes,_,⟨x,e0,_⟩,⟨y,e1,hy⟩,e2⟩:=hb i hi;have h1:=tk1 e1;rw[e2]at h1;have h0:=tk1 e0;rw[h1]at h0;subst h0;have:=bounds_i64 hy;exact⟨(x,y),hes,by dsimp only;omega,by dsimp only;omega⟩
  refine⟨L,hL,.inr ⟨b,rfl,fun i hi=>(hq i hi).1⟩,fun x hx=>?_⟩;obtain⟨i,hi,rfl⟩:=bB hx;exact(hq i hi).2
end Go.Proofs.YtmbppohkadmjgaaGreat
