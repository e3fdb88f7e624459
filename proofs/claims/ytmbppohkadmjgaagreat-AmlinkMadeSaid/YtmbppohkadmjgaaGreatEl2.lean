import Derived.Test.YtmbppohkadmjgaaGreatEl
namespace Go.Sx
open Go.RowKit
section
variable{α:Type}{enc:α->List Value}{sz:Nat}
theorem Atm(hE:Enc enc sz){v:Value}{x:α}:∀ {ys:List α} {k j:Nat} (hk:k<ys.length),j<sz->enc x=(enc ys[k]).set j v->(ys.flatMap enc).set (k*sz+j) v=(ys.set k x).flatMap enc
 |y::ys,0,j,_,hj,hx=>by
  rw[aA,cB,cB,Nat.zero_mul,aN,dV _ _ (by rw[hE.len];exact hj)];congr 1;exact hx.symm
 |y::ys,k+1,j,hk,hj,hx=>by
  have ih:=Atm hE (ys:=ys) (k:=k) (j:=j) (x:=x) (v:=v) (by simpa using hk) hj hx;rw[aB,cB,cB,<-ih,cH _ _ (by rw[hE.len,dI];omega)];congr 2;rw[hE.len,dI];omega
theorem Am5(hE:Enc enc sz){x:α}:∀ {ys:List α} {k:Nat} (_:k<ys.length),(ys.flatMap enc).take (k*sz)++enc x++(ys.flatMap enc).drop (k*sz+(enc x).length)=(ys.set k x).flatMap enc
 |y::ys,0,_=>by
  simp only[Nat.zero_mul,dX,aC,aN,aA,cB,hE.len];rw[List.drop_append_of_le_length (by rw[hE.len];exact aG _),bZ (by rw[hE.len];exact aG _),aC]
 |y::ys,k+1,hk=>by
  have ih:=Am5 hE (ys:=ys) (k:=k) (x:=x) (by simpa using hk);rw[aB,cB,cB,<-ih];have e1:(k+1)*sz=(enc y).length+k*sz:=by rw[hE.len,dI];omega
  rw[e1,List.take_append,bY (show (enc y).length<=(enc y).length+k*sz by omega),show (enc y).length+k*sz-(enc y).length=k*sz by omega,Nat.add_assoc,List.drop_append,bZ (show (enc y).length<=(enc y).length+(k*sz+(enc x).length) by omega),aC,
   show (enc y).length+(k*sz+(enc x).length)-(enc y).length=k*sz+(enc x).length by omega]
  simp only[aZ]
end
section
variable{A0:Nat->Prop}{M:List Nat}{w0 w w':World}{R:List Res}{P Q:World->Prop}{i b o:Nat}{t e:TypeId}{sz c n:Nat}{v:Value}{xs:List Value}
variable{α:Type}{enc:α->List Value}{ys zs:List α}
theorem St.setEl(H:St A0 M w0 w R P)(hE:Enc enc sz){g:Nat}(hi:R[i]?=some (.els enc e sz (some ⟨g,0,none⟩) c ys)){k j:Nat}(hk:k<ys.length)(hj:j<sz)(x:α)(hx:enc x=(enc ys[k]).set j v){F:World->Prop}
 (h:∀w',Fr [g] w w'->St A0 M w0 w' (R.set i (.els enc e sz (some ⟨g,0,none⟩) c (ys.set k x))) P->F w'):Bj w ⟨g,k*sz+j,none⟩ v F:=by
 have h1:(k+1)*sz<=ys.length*sz:=cR _ hk;rw[dI]at h1;refine H.setRow hi (by omega) fun w' hf H'=>h w' hf ?_;have e2:Res.row e sz (some ⟨g,0,none⟩) ys.length c ((ys.flatMap enc).set (k*sz+j) v)=.els enc e sz (some ⟨g,0,none⟩) c (ys.set k x):=by
  simp only[Res.els,bE,Atm hE hk hj hx]
 rwa[e2]at H'
theorem St.cellEl(H:St A0 M w0 w R P)(hE:Enc enc sz){g:Nat}(hi:R[i]?=some (.els enc e sz (some ⟨g,0,none⟩) c ys)){k j:Nat}(hk:k<ys.length)(hj:j<sz)(hv:(enc ys[k])[j]?=some v):w.cell? ⟨g,k*sz+j,none⟩=some v:=
 H.cellRow hi (by rw[Ahx hE hk hj];exact hv)
theorem St.cellsEl(H:St A0 M w0 w R P)(hE:Enc enc sz){g:Nat}(hi:R[i]?=some (.els enc e sz (some ⟨g,0,none⟩) c ys)){k:Nat}(hk:k<ys.length):_root_.Go.Sx.cellsAt w ⟨g,k*sz,none⟩ 0 (enc ys[k]):=by
 obtain⟨b,hb,hc⟩:=(H.slE hE hi).get hk;injection hb with hb;subst hb
 rw[Bd,aN]at hc;exact hc
theorem St.storeRow{g:Nat}{F:World->Prop}:∀ {vs:List Value} {w:World} {xs:List Value} {R:List Res} {q o:Nat} (_:St A0 M w0 w R P) (_:R[i]?=some (.row e sz (some ⟨g,0,none⟩) n c xs)) (_:o+q+vs.length<=n*sz) (_:vs.all (·.oneCell')=true)
 (_:∀w',Fr [g] w w'->St A0 M w0 w' (R.set i (.row e sz (some ⟨g,0,none⟩) n c (xs.take (o+q)++vs++xs.drop (o+q+vs.length)))) P->F w'),Ad w ⟨g,o,none⟩ q vs F
 | [],w,xs,R,q,o,H,hi,hl,h1,h=>by
  refine h w (Fr.refl _ _) ?_;have e1:xs.take (o+q)++[]++xs.drop (o+q+([]:List Value).length)=xs:=by simp
  rw[e1,Ds hi];exact H
 |v::vs,w,xs,R,q,o,H,hi,hl,h1,h=>by
  simp only[List.all_cons,aH]at h1;have hlen:xs.length=n*sz:=(H.row hi).1;simp only[aQ]at hl;have hlt:i<R.length:=by
   rcases aT i R.length with h'|h'
   ·exact h'
   ·rw[List.getElem?_eq_none h']at hi;cases hi
  simp only[Ad,Db];rw[Bd];refine⟨h1.1,?_⟩;show Bj w ⟨g,o+q,none⟩ v fun w2=>Ad w2 ⟨g,o,none⟩ (q+1) vs F;refine H.setRow hi (by omega) fun w2 f2 H2=>?_;refine St.storeRow H2 (q:=q+1) (List.getElem?_set_self hlt) (by omega) h1.2 fun w3 f3 H3=>?_;refine h w3 (f2.tr f3 (by simp)) ?_;rw[cF]at H3;have e1:(xs.set (o+q) v).take (o+(q+1))++vs++(xs.set (o+q) v).drop (o+(q+1)+vs.length)=xs.take (o+q)++(v::vs)++xs.drop (o+q+(v::vs).length):=by
   have hq:o+q<xs.length:=by omega
   rw[show o+(q+1)=o+q+1 by omega,cS,List.getElem?_set_self hq,List.take_set_of_le (aG _),List.drop_set_of_lt (by omega)];simp only[Option.toList_some,aZ,aD,aC,aQ];rw[show o+q+1+vs.length=o+q+(vs.length+1) by omega]
  rwa[e1]at H3
theorem St.storeEl(H:St A0 M w0 w R P)(hE:Enc enc sz){g:Nat}(hi:R[i]?=some (.els enc e sz (some ⟨g,0,none⟩) c ys)){k:Nat}(hk:k<ys.length)(x:α){F:World->Prop}
 (h:∀w',Fr [g] w w'->St A0 M w0 w' (R.set i (.els enc e sz (some ⟨g,0,none⟩) c (ys.set k x))) P->F w'):Ad w ⟨g,k*sz,none⟩ 0 (enc x) F:=by
 have h1:(k+1)*sz<=ys.length*sz:=cR _ hk;rw[dI]at h1;refine H.storeRow hi (by rw[hE.len];omega) (hE.one x) fun w' hf H'=>h w' hf ?_;rw[Nat.add_zero,Am5 hE hk]at H';have e2:Res.row e sz (some ⟨g,0,none⟩) ys.length c ((ys.set k x).flatMap enc)=.els enc e sz (some ⟨g,0,none⟩) c (ys.set k x):=by
  simp only[Res.els,bE]
 rwa[e2]at H'
theorem Dt{A1 A2:Nat->Prop}{M1 M2:List Nat}{v1 v2 a c:World}{R1 R2:List Res}{P1 P2:World->Prop}(H:St A1 M1 v1 a R1 P1)(K:St A2 M2 v2 c R2 P2){i j b:Nat}{t:TypeId}{cs:List Value}(hi:R1[i]?=some (.blk b t cs))(hj:R2[j]?=some (.blk b t cs)):KeepsB (fun x=>x=b) a c:=fun p u hp hc=>by
 have h1:a.heap[b]?=some (.cells cs.toArray t (0,0)):=H.ok i _ hi;have h2:c.heap[b]?=some (.cells cs.toArray t (0,0)):=K.ok j _ hj;subst hp;exact(World.cell?_of_block (w:=a) (h2.trans h1.symm)).trans hc
theorem Amz{S S':Nat->Prop}{a c:World}(h:KeepsB S a c)(k:KeepsB S' a c):KeepsB (fun x=>S x\/S' x) a c:=fun p u hp hc=>hp.elim (fun hp=>h p u hp hc) fun hp=>k p u hp hc
theorem Bca{w0 w:World}{l:List Addr}(h:∀p∈l,∃v,w0.cell? p=some v/\w.cell? p=some v):Lz (fun p=>p∈l) w0 w:=fun p u hp hc=>by
 obtain⟨v,h1,h2⟩:=h p hp;rw[hc]at h1;injection h1 with h1;subst h1;exact h2
end
end Go.Sx
