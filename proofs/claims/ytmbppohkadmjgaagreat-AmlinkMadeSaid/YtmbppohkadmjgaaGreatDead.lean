import Derived.Test.YtmbppohkadmjgaaGreatEl2
import Derived.ArgAppend
namespace Go.Sx
open Go.RowKit
section
variable{A0:Nat->Prop}{M:List Nat}{w0 w:World}{R:List Res}{P:World->Prop}{i j g lit:Nat}{t e t0:TypeId}{sz c bytes:Nat}{z:Value}{Pr:Program}{α:Type}{enc:α->List Value}{all:List α}
theorem St.appDead(H:St A0 M w0 w R P)(hE:Enc enc sz)(hi:R[i]?=some (.els enc e sz (some ⟨g,0,none⟩) c all))(n:Nat)(hn:n<=all.length)(x:α)(hj:R[j]?=some (.blk lit t0 (enc x)))(hT:SlTy Pr t e sz bytes z)(hlen:all.length<=1000000)(hby:bytes<=1000){ty:TypeId}{F:Option Addr->Nat->Nat->World->Prop}
 (h:∀(a0:Option Addr) (c0:Nat) (all':List α) (n':Nat) (w':World),n'<=n->n'<=all'.length->all'.drop n'=all.drop n++[x]->St A0 M w0 w' (R.set i (.els enc e sz a0 c0 all')) P->F (Ay c0 n' sz a0) (all.length-n+1) (c0-n') w'):
 Da Pr #[t,t] ty #[.slice (Ay c n sz (some ⟨g,0,none⟩)) (all.length-n) (c-n),.slice (some ⟨lit,0,none⟩) 1 1] w F:=by
 obtain⟨inf,hinf,hz,hs,hb⟩:=hT.info;have hO:Own w 0 e sz (some ⟨g,0,none⟩) all.length c (all.flatMap enc):=H.ok i _ hi;have hpos:=hT.pos;have hbm:(all.length+1)*bytes<=1000001*1000:=Nat.mul_le_mul (by omega) hby
 have hbm2:(all.length-n+1)*bytes<=1000001*1000:=Nat.mul_le_mul (by omega) hby
 obtain⟨hl,hv|⟨g',cap,cur,hv,_,hh,hnc,hcm,hcs,ht⟩⟩:=hO
 ·cases hv.1
 injection hv with hv1 _ hv3
 injection hv1 with hv1
 injection hv1 with hv1 _ _
 subst hv1;subst hv3;have hnews:∀k u,(enc x)[k]?=some u->w.cell? ((⟨lit,0,none⟩:Addr).add k)=some u:=fun k u hk=>by
  rw[Bd,aN];exact H.cell hj hk
 have h1:∀u∈enc x,u.oneCell'=true:=fun u hu=>bN.1 (hE.one x) u hu;have hxl:(enc x).length=1*sz:=by rw[hE.len];omega
 have hfl:(all.flatMap enc).length=all.length*sz:=Gl hE;by_cases hr:all.length+1<=c
 ·
  have hsz:(all.length+1)*sz<=c*sz:=cR _ hr;rw[dI]at hsz;have hcell:∀o,o<c*sz->(w.cell? ⟨g,o,none⟩).isSome=true/\w.frozen? ⟨g,o,none⟩=false:=fun o ho=>by
   constructor
   ·simp[World.cell?,hh,hcs,ho]
   ·simp[World.frozen?,hh]
  have run:∀k,k<=all.length->(Builtin.append_ #[t,t] ty #[.slice (some ⟨g,k*sz,none⟩) (all.length-k) (c-k),.slice (some ⟨lit,0,none⟩) 1 1]).run Pr w=.ok (.slice (some ⟨g,k*sz,none⟩) (all.length-k+1) (c-k)) (w.setCells g (all.length*sz) (enc x)):=fun k hk=>by
   have e1:k*sz+(all.length-k)*sz=all.length*sz:=by rw[<-Nat.add_mul];congr 1;omega
   have:=run_append_room_cells (P:=Pr) w t ty e inf hT.ht hinf g (k*sz) (all.length-k) (c-k) ⟨lit,0,none⟩ 1 1 (enc x) (by rw[hs];exact hxl) hnews h1 (by omega)
    (fun o ho=>by rw[hs,e1];exact(hcell _ (by rw[hE.len]at ho;omega)).1) (fun o ho=>by rw[hs,e1];exact(hcell _ (by rw[hE.len]at ho;omega)).2)
   rw[hs,e1]at this;exact this
  have key:Da Pr #[t,t] ty #[.slice (some ⟨g,0,none⟩) all.length c,.slice (some ⟨lit,0,none⟩) 1 1] w fun a' l' c' w'=>St A0 M w0 w' (R.set i (.els enc e sz a' c' (all++[x]))) P:=by
   refine H.app hi hT (m:=1) (c2:=1) hxl hnews h1 (by omega) (by omega) fun a' c' w' H'=>?_;have e2:Res.row e sz a' (all.length+1) c' (all.flatMap enc++enc x)=.els enc e sz a' c' (all++[x]):=by simp[Res.els]
   rwa[e2]at H'
  obtain⟨a',l',c',w',hrun,hK⟩:=key;have r0:=run 0 (aX _);simp only[Nat.zero_mul,dJ]at r0;rw[r0]at hrun;injection hrun with h2 h3
  injection h2 with h4 h5 h6
  subst h3;subst h4;subst h6;have hsl:Ay c n sz (some ⟨g,0,none⟩)=some ⟨g,n*sz,none⟩:=by
   unfold Ay;rw[aE (by omega)];simp[Bd]
  have hK2:=h (some ⟨g,0,none⟩) c (all++[x]) n _ (aG _) (by simp;omega) (by rw[List.drop_append_of_le_length hn]) hK;rw[hsl]at hK2 ⊢;exact⟨_,_,_,_,run n hn,hK2⟩
 ·
  have hce:c=all.length:=by omega
  obtain⟨b,hsl,holds⟩:∃b,Ay c n sz (some ⟨g,0,none⟩)=some b/\∀k u,((all.drop n).flatMap enc)[k]?=some u->w.cell? (b.add k)=some u:=by
   by_cases hcn:c=n
   ·refine⟨⟨g,0,none⟩,by unfold Ay;rw[aF hcn],fun k u hk=>?_⟩;rw[bZ (by omega)]at hk;simp at hk
   ·refine⟨⟨g,n*sz,none⟩,by unfold Ay;rw[aE hcn];simp[Bd],fun k u hk=>?_⟩;rw[Bd];have e3:all.flatMap enc=(all.take n).flatMap enc++(all.drop n).flatMap enc:=by rw[<-dW,bR]
    have e4:((all.take n).flatMap enc).length=n*sz:=by rw[Gl hE,aU];congr 1;omega
    refine H.cellRow hi ?_;rw[e3,List.getElem?_append_right (by omega),e4,Nat.add_sub_cancel_left];exact hk
  have hdl:((all.drop n).flatMap enc).length=(all.length-n)*sz:=by rw[Gl hE,bJ]
  obtain⟨v',w',hrun,hown,hgrow⟩:=run_append_arg_grows (P:=Pr) w t ty e inf z sz bytes hT.ht hinf hz hs hb hT.hz hpos b (all.length-n) (c-n) ((all.drop n).flatMap enc) hdl holds ⟨lit,0,none⟩ 1 1 (enc x) hxl hnews (by omega) (by unfold maxLen;omega) (by omega);have hown2:=hown;obtain⟨hl2,hv2|⟨g2,cap2,cur2,hv2,hg2,hh2,hnc2,hcm2,hcs2,ht2⟩⟩:=hown
  ·omega
  subst hv2;have e5:(all.drop n).flatMap enc++enc x=(all.drop n++[x]).flatMap enc:=by simp
  have hl3:(all.drop n++[x]).length=all.length-n+1:=by simp
  have hnew:(Res.els enc e sz (some ⟨g2,0,none⟩) cap2 (all.drop n++[x])).ok w':=by
   show Own w' 0 e sz (some ⟨g2,0,none⟩) (all.drop n++[x]).length cap2 ((all.drop n++[x]).flatMap enc);rw[hl3,<-e5];exact⟨hl2,.inr ⟨g2,cap2,cur2,rfl,aX _,hh2,hnc2,hcm2,hcs2,ht2⟩⟩
  have H2:=H.upd hi (w':=w') (r':=.els enc e sz (some ⟨g2,0,none⟩) cap2 (all.drop n++[x])) ⟨hgrow.os,hgrow.tape,hgrow.output,hgrow.size,fun k hk _=>hgrow.block k hk (by simp)⟩ hnew (fun b' hb'=>by
   right;have hb':some g2=some b':=hb';injection hb' with hb'
   omega)
  have hK2:=h (some ⟨g2,0,none⟩) cap2 (all.drop n++[x]) 0 w' (aX _) (aX _) rfl H2;have e6:Ay cap2 0 sz (some ⟨g2,0,none⟩)=some ⟨g2,0,none⟩:=by
   unfold Ay;split
   ·rfl
   ·simp[Bd]
  rw[e6,dJ]at hK2;rw[hsl];exact⟨_,_,_,_,hrun,hK2⟩
end
end Go.Sx
