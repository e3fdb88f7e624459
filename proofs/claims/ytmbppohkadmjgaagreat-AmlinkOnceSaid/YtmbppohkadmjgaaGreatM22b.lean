import Derived.Test.YtmbppohkadmjgaaGreatM22a
import Derived.Test.YtmbppohkadmjgaaGreatM20
import Derived.Test.YtmbppohkadmjgaaGreatM21a
import Derived.Test.YtmbppohkadmjgaaGreatM20b
import Derived.Test.YtmbppohkadmjgaaGreatM21b
import Derived.Test.YtmbppohkadmjgaaGreatM18
import Derived.Test.YtmbppohkadmjgaaGreatFxAmlinkOnce
namespace Go.Proofs.YtmbppohkadmjgaaGreat
open Go.Sx Go.RowKit
set_option maxRecDepth 100000
def ds (L : List BL) : List (List Int) := L.map (·.d)
def Am.pl (x : Am) : Pl := ⟨x.s, x.r, ds x.u.live, ds x.wy.live, ds x.bk.live, ds x.ot.live⟩
def Sim (A0 : Nat -> Prop) (w0 w : World) (b m : Nat) (p : Pl) (P : World -> Prop) : Prop :=
 ∃ x : Am, x.pl = p /\ x.ok m /\ (x.u.all ≠ [] -> ∃ g, x.u.a = some g) /\ AmS A0 w0 w b x P
theorem ds_nil {L : List BL} : ds L = [] ↔ L = [] := by unfold ds; simp
section
variable {A0 : Nat -> Prop} {w0 w : World} {b m : Nat} {p : Pl} {P : World -> Prop} {K : Ending -> World -> Prop}
theorem sim_build {size : Int} (H : Sim A0 w0 w b m p P) (hm : m < 1000000) (hsz : -9223372036854775808 <= size /\ size <= 9223372036854775807)
 (hbs : Bytes (buildS p.s size (begE p.s)).2.1 /\ (buildS p.s size (begE p.s)).2.1.length <= 100000) (hsu : SmU (buildS p.s size (begE p.s)).1.units)
 (h : ∀ w', Sim A0 w0 w' b (m + 1) (buildP p size).1 P -> K (.returned (.bool (buildP p size).2)) w') :
 Calls Tryz.prog N_amlink_run_build #[.pointer (some ⟨b, 0, none⟩), .int .i64 size] w K := by
 obtain ⟨x, rfl, hx, hua, H⟩ := H
 have hmono : Am.ok (m + 1) x := ⟨hx.su, hx.gp, hx.uo, hx.uc, hx.wo, Nat.le_succ_of_le hx.wl, hx.wb, hx.bo, Nat.le_succ_of_le hx.bl, hx.bb, hx.oo, Nat.le_succ_of_le hx.ol⟩
 refine amlink_run_build_ct H hx hm hsz hbs hsu ?_ ?_
 ·intro w' he H'
  have e : buildP x.pl size = (x.pl, false) := by unfold buildP; exact if_neg he
  rw [e] at h
  exact h w' ⟨x, rfl, hmono, hua, H'⟩
 ·intro sa sc wy w' he hw hok H'
  have e : buildP x.pl size = ({ x.pl with s := (buildS x.s size (begE x.s)).1, wy := x.pl.wy ++ [(buildS x.s size (begE x.s)).2.1] }, true) := by unfold buildP; exact if_pos he
  rw [e] at h
  refine h w' ⟨_, ?_, hok, hua, H'⟩
  show Pl.mk _ _ _ (ds wy.live) _ _ = _
  have hw : ds wy.live = ds x.wy.live ++ [(buildS x.s size (begE x.s)).2.1] := hw
  rw [hw]; rfl
theorem sim_report {size : Int} (H : Sim A0 w0 w b m p P) (hm : m < 1000000)
 (hbs : Bytes (repR p.r size).2.1 /\ (repR p.r size).2.1.length <= 100000) (hgp : GP (repR p.r size).1.parts)
 (h : ∀ w', Sim A0 w0 w' b (m + 1) (reportP p size) P -> K (.returned (.tuple #[])) w') :
 Calls Tryz.prog N_amlink_run_report #[.pointer (some ⟨b, 0, none⟩), .int .i64 size] w K := by
 obtain ⟨x, rfl, hx, hua, H⟩ := H
 have hmono : Am.ok (m + 1) x := ⟨hx.su, hx.gp, hx.uo, hx.uc, hx.wo, Nat.le_succ_of_le hx.wl, hx.wb, hx.bo, Nat.le_succ_of_le hx.bl, hx.bb, hx.oo, Nat.le_succ_of_le hx.ol⟩
 refine amlink_run_report_ct H hx hm hbs hgp ?_ ?_
 ·intro w' he H'
  have e : reportP x.pl size = x.pl := by unfold reportP; exact if_neg he
  rw [e] at h
  exact h w' ⟨x, rfl, hmono, hua, H'⟩
 ·intro ra rc bk w' he hw hok H'
  have e : reportP x.pl size = { x.pl with r := (repR x.r size).1, bk := x.pl.bk ++ [(repR x.r size).2.1] } := by unfold reportP; exact if_pos he
  rw [e] at h
  refine h w' ⟨_, ?_, hok, hua, H'⟩
  show Pl.mk _ _ _ _ (ds bk.live) _ = _
  have hw : ds bk.live = ds x.bk.live ++ [(repR x.r size).2.1] := hw
  rw [hw]; rfl
theorem sim_tick (H : Sim A0 w0 w b m p P) (hsu : SmU (tickP p).s.units) (h : ∀ w', Sim A0 w0 w' b m (tickP p) P -> K (.returned (.tuple #[])) w') :
 Calls Tryz.prog N_amlink_run_tick #[.pointer (some ⟨b, 0, none⟩)] w K := by
 obtain ⟨x, rfl, hx, hua, H⟩ := H
 exact amlink_run_tick_ct H hx hsu fun sa sc ra rc w' hok H' => h w' ⟨_, rfl, hok, hua, H'⟩
theorem sim_deliver (keep : Bool) (H : Sim A0 w0 w b m p P) (hm : m < 1000000) (h : ∀ w', Sim A0 w0 w' b (m + 1) (deliverP p keep) P -> K (.returned (.tuple #[])) w') :
 Calls Tryz.prog N_amlink_run_deliver #[.pointer (some ⟨b, 0, none⟩), .bool keep] w K := by
 obtain ⟨x, rfl, hx, hua, H⟩ := H
 have hmono : Am.ok (m + 1) x := ⟨hx.su, hx.gp, hx.uo, hx.uc, hx.wo, Nat.le_succ_of_le hx.wl, hx.wb, hx.bo, Nat.le_succ_of_le hx.bl, hx.bb, hx.oo, Nat.le_succ_of_le hx.ol⟩
 refine amlink_run_deliver_ct keep H hx hm ?_ ?_
 ·intro hl
  have e : deliverP x.pl keep = x.pl := by
   have : x.pl.wy = [] := ds_nil.2 hl
   unfold deliverP; rw [this]
  rw [e] at h
  exact h w ⟨x, rfl, hmono, hua, H⟩
 ·intro y l ra rc ot w' hl hn h1 h2 hok H'
  refine h w' ⟨_, ?_, hok, ?_, H'⟩
  ·have hw : x.pl.wy = y.d :: ds l := by show ds x.wy.live = _; rw [hl]; rfl
   have e : deliverP x.pl keep = { x.pl with r := x.dR y.d, ot := if (recS x.r y.d).2.1 = [] then x.pl.ot else x.pl.ot ++ [(recS x.r y.d).2.1], wy := if keep then x.pl.wy else ds l } := by
    unfold deliverP; rw [hw]; rfl
   rw [e]
   have eot : ds ot.live = if (recS x.r y.d).2.1 = [] then x.pl.ot else x.pl.ot ++ [(recS x.r y.d).2.1] := by
    split
    ·rename_i hc; rw [h1 hc]; rfl
    ·rename_i hc; exact h2 hc
   rw [<- eot]
   cases keep with
   | true => rfl
   | false =>
    show Pl.mk _ _ _ (ds x.wy.next.live) _ _ = Pl.mk _ _ _ (ds l) _ _
    rw [hn rfl]; rfl
  ·cases keep <;> exact hua
theorem sim_answer (keep : Bool) (H : Sim A0 w0 w b m p P) (hml : ∀ d l, p.bk = d :: l -> (decS p.s.lk.bits d).1.miss.length <= 1000000 /\ SmU (answerS p.s d).units)
 (h : ∀ w', Sim A0 w0 w' b m (answerP p keep) P -> K (.returned (.tuple #[])) w') :
 Calls Tryz.prog N_amlink_run_answer #[.pointer (some ⟨b, 0, none⟩), .bool keep] w K := by
 obtain ⟨x, rfl, hx, hua, H⟩ := H
 refine amlink_run_answer_ct keep H hx (fun y l hl => hml y.d (ds l) (by show ds x.bk.live = _; rw [hl]; rfl)) ?_ ?_
 ·intro hl
  have e : answerP x.pl keep = x.pl := by
   have : x.pl.bk = [] := ds_nil.2 hl
   unfold answerP; rw [this]
  rw [e] at h
  exact h w ⟨x, rfl, hx, hua, H⟩
 ·intro y l sa sc w' hl hn hok H'
  refine h w' ⟨_, ?_, hok, ?_, H'⟩
  ·have hw : x.pl.bk = y.d :: ds l := by show ds x.bk.live = _; rw [hl]; rfl
   have e : answerP x.pl keep = { x.pl with s := x.aS y.d, bk := if keep then x.pl.bk else ds l } := by unfold answerP; rw [hw]; rfl
   rw [e]
   cases keep with
   | true => rfl
   | false =>
    show Pl.mk _ _ _ _ (ds x.bk.next.live) _ = Pl.mk _ _ _ _ (ds l) _
    rw [hn rfl]; rfl
  ·cases keep <;> exact hua
theorem sim_send (H : Sim A0 w0 w b m p P) (hsu : ∀ d l, p.us = d :: l -> SmU (subS p.s d (begE p.s)).1.units)
 (h : ∀ w', Sim A0 w0 w' b m (sendP p).1 P -> K (.returned (.bool (sendP p).2)) w') :
 Calls Tryz.prog N_amlink_run_send #[.pointer (some ⟨b, 0, none⟩)] w K := by
 obtain ⟨x, rfl, hx, hua, H⟩ := H
 refine amlink_run_send_ct H hx hua (fun y l hl => hsu y.d (ds l) (by show ds x.u.live = _; rw [hl]; rfl)) ?_ ?_
 ·intro w' he H'
  have e : sendP x.pl = (x.pl, false) := by
   rcases he with he | ⟨y, l, hl, he⟩
   ·have : x.pl.us = [] := ds_nil.2 he
    unfold sendP; rw [this]
   ·have : x.pl.us = y.d :: ds l := by show ds x.u.live = _; rw [hl]; rfl
    unfold sendP; rw [this]; exact if_neg he
  rw [e] at h
  exact h w' ⟨x, rfl, hx, hua, H'⟩
 ·intro y l sa sc w' hl he hn hok H'
  have hw : x.pl.us = y.d :: ds l := by show ds x.u.live = _; rw [hl]; rfl
  have e : sendP x.pl = ({ x.pl with s := (subS x.s y.d (begE x.s)).1, us := ds l }, true) := by
   unfold sendP; rw [hw]; exact if_pos he
  rw [e] at h
  refine h w' ⟨_, ?_, hok, hua, H'⟩
  show Pl.mk _ _ (ds x.u.next.live) _ _ _ = Pl.mk _ _ (ds l) _ _ _
  rw [hn]; rfl
end
end Go.Proofs.YtmbppohkadmjgaaGreat
namespace Go.Proofs.YtmbppohkadmjgaaGreat
open Go.Sx Go.RowKit
set_option maxRecDepth 100000
def loseP (p : Pl) : Pl := { p with wy := p.wy.tail }
def loseBP (p : Pl) : Pl := { p with bk := p.bk.tail }
def stepP (p : Pl) (k a : Int) : Pl :=
 if k = 1 then (sendP p).1 else if k = 2 then (buildP p a).1 else if k = 3 then deliverP p false else if k = 5 then deliverP p true else if k = 4 then loseP p else
 if k = 7 then reportP p a else if k = 8 then answerP p false else if k = 10 then answerP p true else if k = 9 then loseBP p else if k = 11 then tickP p else p
structure Fits (p : Pl) : Prop where
 bu : ∀ size : Int, Bytes (buildS p.s size (begE p.s)).2.1 /\ (buildS p.s size (begE p.s)).2.1.length <= 100000 /\ SmU (buildS p.s size (begE p.s)).1.units
 re : ∀ size : Int, Bytes (repR p.r size).2.1 /\ (repR p.r size).2.1.length <= 100000 /\ GP (repR p.r size).1.parts
 ti : SmU (tickP p).s.units
 an : ∀ d l, p.bk = d :: l -> (decS p.s.lk.bits d).1.miss.length <= 1000000 /\ SmU (answerS p.s d).units
 se : ∀ d l, p.us = d :: l -> SmU (subS p.s d (begE p.s)).1.units
section
variable {A0 : Nat -> Prop} {w0 w : World} {b m : Nat} {p : Pl} {P : World -> Prop} {K : Ending -> World -> Prop}
theorem Sim.up (H : Sim A0 w0 w b m p P) : Sim A0 w0 w b (m + 1) p P := by
 obtain ⟨x, h, hx, hua, H⟩ := H
 exact ⟨x, h, ⟨hx.su, hx.gp, hx.uo, hx.uc, hx.wo, Nat.le_succ_of_le hx.wl, hx.wb, hx.bo, Nat.le_succ_of_le hx.bl, hx.bb, hx.oo, Nat.le_succ_of_le hx.ol⟩, hua, H⟩
theorem sim_lose (H : Sim A0 w0 w b m p P) (h : ∀ (a : Option Addr) (l c : Nat) (r : Bool) (w' : World), Sim A0 w0 w' b m (loseP p) P -> K (.returned (.tuple #[.slice a l c, .bool r])) w') :
 Calls Tryz.prog N_amlink_queue_first #[.pointer (some ⟨b, 28, none⟩), .bool false] w K := by
 obtain ⟨x, rfl, hx, hua, H⟩ := H
 refine amlink_queue_first_ct (q := x.wy) H (i := 0) (j := 1) (o := 28) rfl rfl rfl (by decide) hx.wo false ?_ ?_
 ·intro hl
  refine h _ _ _ _ w ⟨x, ?_, hx, hua, H⟩
  have e : ds x.wy.live = [] := ds_nil.2 hl
  show x.pl = { x.pl with wy := (ds x.wy.live).tail }
  rw [e]
  show Pl.mk _ _ _ (ds x.wy.live) _ _ = _
  rw [e]; rfl
 ·intro y l w' hl hn H'
  obtain ⟨n1, n2⟩ := hn rfl
  have hsub : ∀ z ∈ x.wy.next.live, z ∈ x.wy.live := fun z hz => by rw [n2] at hz; rw [hl]; exact List.mem_cons_of_mem _ hz
  refine h _ _ _ _ w' ⟨{ x with wy := x.wy.next }, ?_, ⟨hx.su, hx.gp, hx.uo, hx.uc, n1, hx.wl, fun z hz => hx.wb z (hsub z hz), hx.bo, hx.bl, hx.bb, hx.oo, hx.ol⟩, hua, ?_⟩
  ·show Pl.mk _ _ _ (ds x.wy.next.live) _ _ = Pl.mk _ _ _ (ds x.wy.live).tail _ _
   rw [n2, hl]; rfl
  ·exact St.imp (P := fun w => x.hold w /\ P w) H' fun w h => ⟨⟨h.1.1, h.1.2.1, h.1.2.2.1, fun z hz => h.1.2.2.2.1 z (hsub z hz), h.1.2.2.2.2⟩, h.2⟩
theorem sim_loseB (H : Sim A0 w0 w b m p P) (h : ∀ (a : Option Addr) (l c : Nat) (r : Bool) (w' : World), Sim A0 w0 w' b m (loseBP p) P -> K (.returned (.tuple #[.slice a l c, .bool r])) w') :
 Calls Tryz.prog N_amlink_queue_first #[.pointer (some ⟨b, 29, none⟩), .bool false] w K := by
 obtain ⟨x, rfl, hx, hua, H⟩ := H
 refine amlink_queue_first_ct (q := x.bk) H (i := 0) (j := 2) (o := 29) rfl rfl rfl (by decide) hx.bo false ?_ ?_
 ·intro hl
  refine h _ _ _ _ w ⟨x, ?_, hx, hua, H⟩
  have e : ds x.bk.live = [] := ds_nil.2 hl
  show x.pl = { x.pl with bk := (ds x.bk.live).tail }
  rw [e]
  show Pl.mk _ _ _ _ (ds x.bk.live) _ = _
  rw [e]; rfl
 ·intro y l w' hl hn H'
  obtain ⟨n1, n2⟩ := hn rfl
  have hsub : ∀ z ∈ x.bk.next.live, z ∈ x.bk.live := fun z hz => by rw [n2] at hz; rw [hl]; exact List.mem_cons_of_mem _ hz
  refine h _ _ _ _ w' ⟨{ x with bk := x.bk.next }, ?_, ⟨hx.su, hx.gp, hx.uo, hx.uc, hx.wo, hx.wl, hx.wb, n1, hx.bl, fun z hz => hx.bb z (hsub z hz), hx.oo, hx.ol⟩, hua, ?_⟩
  ·show Pl.mk _ _ _ _ (ds x.bk.next.live) _ = Pl.mk _ _ _ _ (ds x.bk.live).tail _
   rw [n2, hl]; rfl
  ·exact St.imp (P := fun w => x.hold w /\ P w) H' fun w h => ⟨⟨h.1.1, h.1.2.1, h.1.2.2.1, h.1.2.2.2.1, fun z hz => h.1.2.2.2.2.1 z (hsub z hz), h.1.2.2.2.2.2⟩, h.2⟩
theorem sim_step {k a : Int} (H : Sim A0 w0 w b m p P) (hf : Fits p) (hm : m < 1000000) (ha : -9223372036854775808 <= a /\ a <= 9223372036854775807)
 (h : ∀ w', Sim A0 w0 w' b (m + 1) (stepP p k a) P -> K (.returned (.tuple #[])) w') :
 Calls Tryz.prog N_amlink_run_step #[.pointer (some ⟨b, 0, none⟩), .agg #[.int .i64 k, .int .i64 a]] w K := by
 apply F_amlink_run_step_ok
 unfold F_amlink_run_step
 obtain ⟨x, hp, hx, hua, H⟩ := H
 refine H.alloc ?_; clear H; intro b1 w1 H1
 simp only [List.cons_append, List.nil_append] at H1
 have H2 : Sim A0 w0 w1 b m p P := ⟨x, hp, hx, hua, St.left (X := [_, _, _, _]) H1⟩
 unfold stepP at h
 refine H1.ld (i := 4) (o := 0) rfl rfl ?_
 refine kLet_in ?_
 refine bsplit_dec (fun c => ?_) (fun c => ?_)
 ·rw [if_pos c] at h
  exact sim_send H2 hf.se fun w' H' => ⟨_, rfl, h w' H'.up⟩
 rw [if_neg c] at h
 refine kLet_in ?_
 refine bsplit_dec (fun c => ?_) (fun c => ?_)
 ·rw [if_pos c] at h
  refine H1.ld (i := 4) (o := 1) rfl rfl ?_
  exact sim_build H2 hm ha ⟨(hf.bu a).1, (hf.bu a).2.1⟩ (hf.bu a).2.2 fun w' H' => ⟨_, rfl, h w' H'⟩
 rw [if_neg c] at h
 refine kLet_in ?_
 refine bsplit_dec (fun c => ?_) (fun c => ?_)
 ·rw [if_pos c] at h
  exact sim_deliver false H2 hm fun w' H' => ⟨rfl, h w' H'⟩
 rw [if_neg c] at h
 refine kLet_in ?_
 refine bsplit_dec (fun c => ?_) (fun c => ?_)
 ·rw [if_pos c] at h
  exact sim_deliver true H2 hm fun w' H' => ⟨rfl, h w' H'⟩
 rw [if_neg c] at h
 refine kLet_in ?_
 refine bsplit_dec (fun c => ?_) (fun c => ?_)
 ·rw [if_pos c] at h
  exact sim_lose H2 fun _ _ _ _ w' H' => ⟨_, _, _, _, rfl, h w' H'.up⟩
 rw [if_neg c] at h
 refine kLet_in ?_
 refine bsplit_dec (fun c => ?_) (fun c => ?_)
 ·rw [if_pos c] at h
  refine H1.ld (i := 4) (o := 1) rfl rfl ?_
  exact sim_report H2 hm ⟨(hf.re a).1, (hf.re a).2.1⟩ (hf.re a).2.2 fun w' H' => ⟨rfl, h w' H'⟩
 rw [if_neg c] at h
 refine kLet_in ?_
 refine bsplit_dec (fun c => ?_) (fun c => ?_)
 ·rw [if_pos c] at h
  exact sim_answer false H2 hf.an fun w' H' => ⟨rfl, h w' H'.up⟩
 rw [if_neg c] at h
 refine kLet_in ?_
 refine bsplit_dec (fun c => ?_) (fun c => ?_)
 ·rw [if_pos c] at h
  exact sim_answer true H2 hf.an fun w' H' => ⟨rfl, h w' H'.up⟩
 rw [if_neg c] at h
 refine kLet_in ?_
 refine bsplit_dec (fun c => ?_) (fun c => ?_)
 ·rw [if_pos c] at h
  exact sim_loseB H2 fun _ _ _ _ w' H' => ⟨_, _, _, _, rfl, h w' H'.up⟩
 rw [if_neg c] at h
 refine kLet_in ?_
 refine bsplit_dec (fun c => ?_) (fun c => ?_)
 ·rw [if_pos c] at h
  exact sim_tick H2 hf.ti fun w' H' => ⟨rfl, h w' H'.up⟩
 rw [if_neg c] at h
 exact h w1 H2.up
end
end Go.Proofs.YtmbppohkadmjgaaGreat
namespace Go.Proofs.YtmbppohkadmjgaaGreat
open Go.Sx Go.RowKit
set_option maxRecDepth 100000
def sendAll : Nat -> Pl -> Pl
 | 0, p => p
 | n + 1, p => if (sendP p).2 = true then sendAll n (sendP p).1 else (sendP p).1
def buildAll : Nat -> Pl -> Pl
 | 0, p => p
 | n + 1, p => if (buildP p 4096).2 = true then buildAll n (deliverP (buildP p 4096).1 false) else (buildP p 4096).1
def endP (p : Pl) : Pl := tickP (answerP (reportP p 4096) false)
structure Inv (I : Pl -> Prop) (mu : Pl -> Nat) : Prop where
 fits : ∀ p, I p -> Fits p
 send : ∀ p, I p -> I (sendP p).1
 build : ∀ p, I p -> I (buildP p 4096).1
 deliver : ∀ p, I p -> I (deliverP p false)
 report : ∀ p, I p -> I (reportP p 4096)
 answer : ∀ p, I p -> I (answerP p false)
 less : ∀ p, I p -> (buildP p 4096).2 = true -> mu (deliverP (buildP p 4096).1 false) < mu p
theorem sendP_len {p : Pl} (h : (sendP p).2 = true) : (sendP p).1.us.length < p.us.length := by
 unfold sendP at h ⊢
 cases hu : p.us with
 | nil => rw [hu] at h; cases h
 | cons d l =>
  rw [hu] at h
  dsimp only at h ⊢
  split
  ·simp
  ·rename_i hc; rw [if_neg hc] at h; cases h
section
variable {A0 : Nat -> Prop} {w0 w : World} {b m : Nat} {p : Pl} {P : World -> Prop} {K : Ending -> World -> Prop} {I : Pl -> Prop} {mu : Pl -> Nat}
theorem Sim.upTo {n : Nat} (H : Sim A0 w0 w b m p P) (h : m <= n) : Sim A0 w0 w b n p P := by
 induction h with
 | refl => exact H
 | step _ ih => exact ih.up
theorem sim_round (hI : Inv I mu) (H : Sim A0 w0 w b m p P) (hp : I p) (hm : m + 2 * mu (sendAll (p.us.length + 1) p) + 10 < 1000000)
 (h : ∀ w', Sim A0 w0 w' b (m + 2 * mu (sendAll (p.us.length + 1) p) + 4) (endP (buildAll (mu (sendAll (p.us.length + 1) p) + 1) (sendAll (p.us.length + 1) p))) P -> K (.returned (.tuple #[])) w') :
 Calls Tryz.prog N_amlink_run_round #[.pointer (some ⟨b, 0, none⟩)] w K := by
 apply F_amlink_run_round_ok
 unfold F_amlink_run_round
 obtain ⟨Y, hY⟩ : ∃ Y, Y = sendAll (p.us.length + 1) p := ⟨_, rfl⟩
 rw [<- hY] at hm h
 refine ⟨fun k w1 => ∃ p', Sim A0 w0 w1 b m p' P /\ I p' /\ p'.us.length < k /\ sendAll k p' = Y, ⟨p.us.length + 1, p, H, hp, Nat.lt_succ_self _, hY.symm⟩, ?_⟩
 clear H hp hY
 rintro _ k w1 ⟨p1, H1, hp1, hl, hs⟩
 obtain ⟨k, rfl⟩ : ∃ j, k = j + 1 := ⟨k - 1, by omega⟩
 refine sim_send H1 (hI.fits p1 hp1).se fun w2 H2 => ?_
 refine ⟨_, rfl, ?_⟩
 refine bsplit_intro (fun c => ?_) (fun c => ?_)
 ·refine ⟨k, Nat.lt_succ_self _, (sendP p1).1, H2, hI.send p1 hp1, by have := sendP_len c; omega, ?_⟩
  rw [<- hs, sendAll, if_pos c]
 have eY : (sendP p1).1 = Y := by rw [<- hs, sendAll, if_neg (by rw [c]; decide)]
 have hIY := hI.send p1 hp1
 rw [eY] at H2 hIY
 clear H1
 obtain ⟨Z, hZ⟩ : ∃ Z, Z = buildAll (mu Y + 1) Y := ⟨_, rfl⟩
 rw [<- hZ] at h
 refine ⟨fun k w3 => ∃ p', k <= mu Y + 1 /\ Sim A0 w0 w3 b (m + 2 * (mu Y + 1 - k)) p' P /\ I p' /\ mu p' < k /\ buildAll k p' = Z, ⟨mu Y + 1, Y, Nat.le_refl _, by rw [Nat.sub_self]; exact H2, hIY, Nat.lt_succ_self _, hZ.symm⟩, ?_⟩
 clear H2 hIY hZ hs eY hp1
 rintro _ k w3 ⟨p3, hk, H3, hp3, hmu, hb⟩
 obtain ⟨k, rfl⟩ : ∃ j, k = j + 1 := ⟨k - 1, by omega⟩
 have hf := hI.fits p3 hp3
 refine sim_build H3 (by omega) (by omega) ⟨(hf.bu 4096).1, (hf.bu 4096).2.1⟩ (hf.bu 4096).2.2 fun w4 H4 => ?_
 refine ⟨_, rfl, ?_⟩
 refine bsplit_intro (fun c => ?_) (fun c => ?_)
 ·refine sim_deliver false H4 (by omega) fun w5 H5 => ?_
  refine ⟨rfl, k, Nat.lt_succ_self _, _, by omega, H5.upTo (by omega), hI.deliver _ (hI.build p3 hp3), by have := hI.less p3 hp3 c; omega, ?_⟩
  rw [<- hb, buildAll, if_pos c]
 have eZ : (buildP p3 4096).1 = Z := by rw [<- hb, buildAll, if_neg (by rw [c]; decide)]
 have hIZ := hI.build p3 hp3
 rw [eZ] at H4 hIZ
 have hfZ := hI.fits Z hIZ
 refine sim_report H4 (by omega) ⟨(hfZ.re 4096).1, (hfZ.re 4096).2.1⟩ (hfZ.re 4096).2.2 fun w6 H6 => ?_
 refine ⟨rfl, ?_⟩
 have hI6 := hI.report Z hIZ
 refine sim_answer false H6 (hI.fits _ hI6).an fun w7 H7 => ?_
 refine ⟨rfl, ?_⟩
 refine sim_tick H7 (hI.fits _ (hI.answer _ hI6)).ti fun w8 H8 => ?_
 exact ⟨rfl, h w8 (H8.upTo (by omega))⟩
end
end Go.Proofs.YtmbppohkadmjgaaGreat
namespace Go.Proofs.YtmbppohkadmjgaaGreat
open Go.Sx Go.RowKit
set_option maxRecDepth 100000
def wrongB (d : List Int) : Bool := decide ((d.length : Int) < 1) || decide ((d.length : Int) > 2054)
theorem amlink_begin_1_ct {a : Option Addr} {c : Nat} {d : List Int} {w : World} : Calls Tryz.prog N_amlink_begin_1 #[.slice a d.length c] w fun e w' => e = .returned (.bool (wrongB d)) /\ Below w.heap.size w w' := by
 apply F_amlink_begin_1_ok
 unfold F_amlink_begin_1
 refine bsplit_dec (fun c => ?_) (fun c => ?_)
 ·exact ⟨by unfold wrongB; rw [decide_eq_true c]; rfl, .refl _ _⟩
 ·refine kLet_in ?_
  exact ⟨by unfold wrongB; rw [decide_eq_false c]; rfl, .refl _ _⟩
section
variable {L : List BL} {a : Option Addr} {c : Nat} {w : World}
theorem indexWrong_ct (hs : SlR (CE encBL) 1 w a L) (hl : L.length <= 140737488355328) :
 Calls Tryz.prog N_slices_IndexFunc_SSbyte_Sbyte #[(.slice a L.length c), .func (.func N_amlink_begin_1) #[] #[]] w fun e w' => e = .returned (.int .i64 (idx (fun y : BL => wrongB y.d) L)) /\ Below w.heap.size w w' := by
 apply F_slices_IndexFunc_SSbyte_Sbyte_ok
 unfold F_slices_IndexFunc_SSbyte_Sbyte
 have H := St.nil w
 refine ⟨fun x => ((L.length - x).toNat, fun w1 => ∃ k : Nat, x = k /\ k <= L.length /\ (∀ j (hj : j < L.length), j < k -> wrongB L[j].d = false) /\ FreshR w w1 []), ⟨0, rfl, by omega, fun j _ h => by omega, H⟩, ?_⟩
 clear H
 rintro _ x w1 ⟨k, rfl, hk, hno, H1⟩
 refine bsplit_dec (fun c1 => ?_) (fun c1 => ?_)
 ·have hlt : k < L.length := by omega
  refine ixE (hs.belowE H1.below) k rfl hlt fun b s hsk hb => ?_
  obtain rfl : L[k] = s := by rw [List.getElem?_eq_getElem hlt] at hsk; injection hsk
  refine ⟨_, _, _, hb.1, ?_⟩
  refine ⟨by kernel_rfl, ?_⟩
  refine (amlink_begin_1_ct (a := L[k].a) (c := L[k].c) (d := L[k].d)).mono ?_
  rintro _ w2 ⟨rfl, hb2⟩; have H2 := H1.pass hb2; clear H1
  refine ⟨_, rfl, ?_⟩
  refine bsplit_intro (fun c => ?_) (fun c => ?_)
  ·exact ⟨by rw [idx_at (p := fun y : BL => wrongB y.d) hlt hno c], H2.below⟩
  ·refine kW_i64 (by omega) ?_
   exact ⟨⟨k + 1, by omega, by omega, fun j hj h => by
    rcases Nat.lt_or_ge j k with h' | h'
    ·exact hno j hj h'
    ·obtain rfl : j = k := by omega
     exact c, H2⟩, by dsimp only; omega⟩
 ·obtain rfl : k = L.length := by omega
  exact ⟨by rw [idx_no (p := fun y : BL => wrongB y.d) fun j hj => hno j hj hj], H1.below⟩
theorem containsWrong_ct (hs : SlR (CE encBL) 1 w a L) (hl : L.length <= 140737488355328) :
 Calls Tryz.prog N_slices_ContainsFunc_SSbyte_Sbyte #[(.slice a L.length c), .func (.func N_amlink_begin_1) #[] #[]] w fun e w' => e = .returned (.bool (L.any fun y => wrongB y.d)) /\ Below w.heap.size w w' := by
 apply F_slices_ContainsFunc_SSbyte_Sbyte_ok
 unfold F_slices_ContainsFunc_SSbyte_Sbyte
 refine (indexWrong_ct hs hl).mono ?_
 rintro _ w1 ⟨rfl, hb1⟩
 refine ⟨_, rfl, ?_⟩
 refine kLet_in ?_
 exact ⟨by rw [idx_any], hb1⟩
theorem cloneUnits_ct (hs : SlR (CE encBL) 1 w a L) (hl : L.length <= 1000000) :
 Calls Tryz.prog N_slices_Clone_SSbyte_Sbyte #[(.slice a L.length c)] w fun e w' => ∃ (a' : Option Addr) (c' : Nat), e = .returned (.slice a' L.length c') /\ FreshR w w' [.els encBL Ty_S_uint8 1 a' c' L] := by
 apply F_slices_Clone_SSbyte_Sbyte_ok
 unfold F_slices_Clone_SSbyte_Sbyte
 have H := St.nil w
 refine bsplit_intro (fun c1 => ?_) (fun c1 => ?_)
 ·have hL : L = [] := by
   rcases hs with h | ⟨b, rfl, _⟩
   ·exact h
   ·cases c1
  subst hL
  exact ⟨none, 0, rfl, H.nilE encBL Ty_S_uint8 1⟩
 ·refine H.alloc ?_; clear H; intro b w1 H1
  have H1 := H1.litE encBL_ok (i := 0) [] rfl (by decide)
  refine H1.appE encBL_ok (i := 0) rfl sl_Ty_S_S_uint8 (hs.belowE H1.below) (by simp; omega) (by simp; omega) ?_; intro x_a x_c w2 H2
  rw [List.nil_append] at H2 ⊢
  exact ⟨x_a, x_c, rfl, H2⟩
end
end Go.Proofs.YtmbppohkadmjgaaGreat
namespace Go.Proofs.YtmbppohkadmjgaaGreat
open Go.Sx Go.RowKit
set_option maxRecDepth 100000
theorem stOnly {A0 : Nat -> Prop} {M : List Nat} {w0 w : World} {R : List Res} {P : World -> Prop} (H : St A0 M w0 w R P) {i : Nat} {r : Res} (hi : R[i]? = some r) : St A0 M w0 w [r] P :=
 H.sub (fun _ => i) (fun j s h => by cases j with
  | zero => simp at h; subst h; exact hi
  | succ j => simp at h) (fun i j hi hj _ => by simp at hi hj; omega)
def encSp (y : Int × Int) : List Value := [.int .i64 y.1, .int .i64 y.2]
theorem encSp_ok : Enc encSp 2 := ⟨fun _ => rfl, fun _ => rfl⟩
def startP (l : Lk) (us : List (List Int)) : Pl := ⟨⟨l, 0, 0, [], 0, -1, 0, false⟩, ⟨l, 0, 0, 0, -1, 0, 0, false, []⟩, us, [], [], []⟩
def stepsP (p : Pl) (ST : List (Int × Int)) : Pl := ST.foldl (fun p y => stepP p y.1 y.2) p
section
variable {A : Nat -> Prop} {l : Lk} {U : List BL} {ua sta : Option Addr} {uc stc : Nat} {ST : List (Int × Int)} {w : World} {I : Pl -> Prop}
theorem amlink_begin_ct (hlk : lkOk l) (hQ : Held A w fun w => QL U ua w /\ SlR (CE encSp) 2 w sta ST) (hw : (U.any fun y => wrongB y.d) = false) (hul : U.length <= 256) (hsl : ST.length <= 400)
 (ha : ∀ y ∈ ST, -9223372036854775808 <= y.2 /\ y.2 <= 9223372036854775807) (hI : ∀ p, I p -> Fits p) (hIs : ∀ p k a, I p -> I (stepP p k a)) (hI0 : I (startP l (ds U))) :
 Calls Tryz.prog N_amlink_begin #[.agg #[.int .i64 l.bits, .int .i64 l.every, .int .i64 l.poll, .int .i64 l.wait, .int .i64 l.quiet, .int .i64 l.tries], .slice ua U.length uc, .slice sta ST.length stc] w fun e w' =>
  ∃ b, e = .returned (.tuple #[.pointer (some ⟨b, 0, none⟩), .int .i64 0]) /\ Sim A w w' b 500 (stepsP (startP l (ds U)) ST) (fun _ => True) /\ I (stepsP (startP l (ds U)) ST) := by
 apply F_amlink_begin_ok
 unfold F_amlink_begin
 have H := St.start hQ
 refine H.alloc ?_; clear H; intro b w1 H1
 simp only [List.nil_append] at H1
 refine ⟨_, _, _, _, _, _, H1.cells (i := 0) rfl, ?_⟩
 have C := sender_New_ct (l := l) (w := w1)
 rw [newS, if_pos hlk] at C
 refine C.mono ?_; clear C
 rintro _ w2 hh; obtain ⟨sa, sc, rfl, -, hb2⟩ := hh.read; have H2 := H1.pass hb2; clear H1 hh
 refine ⟨_, _, _, _, _, _, _, _, _, _, _, _, _, _, _, _, rfl, ?_⟩
 refine H2.alloc ?_; clear H2; intro b1 w3 H3
 simp only [List.cons_append, List.nil_append] at H3
 refine H3.store (i := 1) rfl (by rfl) (by rfl) ?_; clear H3; intro w4 H4
 simp only [List.set_cons_succ, List.set_cons_zero] at H4
 refine bsplit_nd (fun c => absurd rfl c) (fun _ => ?_)
 refine ⟨_, _, _, _, _, _, H4.cells (i := 0) rfl, ?_⟩
 have C := receiver_New_ct (l := l) (w := w4)
 rw [newRc, if_pos hlk] at C
 refine C.mono ?_; clear C
 rintro _ w5 ⟨rfl, -, hb5⟩; have H5 := H4.pass hb5; clear H4
 refine ⟨_, _, _, _, _, _, _, _, _, _, _, _, _, _, _, _, _, rfl, ?_⟩
 refine H5.alloc ?_; clear H5; intro b2 w6 H6
 simp only [List.cons_append, List.nil_append] at H6
 refine H6.store (i := 2) rfl (by rfl) (by rfl) ?_; clear H6; intro w7 H7
 simp only [List.set_cons_succ, List.set_cons_zero] at H7
 refine bsplit_nd (fun c => absurd rfl c) (fun _ => ?_)
 refine ⟨fun w9 => St A [] w w9 [.blk b Ty_api_Link [.int .i64 l.bits, .int .i64 l.every, .int .i64 l.poll, .int .i64 l.wait, .int .i64 l.quiet, .int .i64 l.tries], .blk b1 Ty_api_Sender (encSd ⟨l, 0, 0, [], 0, -1, 0, false⟩ sa sc), .blk b2 Ty_api_Receiver (encRc ⟨l, 0, 0, 0, -1, 0, 0, false, []⟩ none 0)] (fun w => QL U ua w /\ SlR (CE encSp) 2 w sta ST), ?_, ?_⟩
 ·rintro _ w9 H9
  clear H7
  refine H9.drew ?_; clear H9; intro w10 H10
  refine ⟨fun q => q < w10.heap.size, ?_⟩
  refine ⟨H10.lt (i := 1) rfl rfl, ?_⟩
  refine ⟨_, _, _, _, _, _, _, _, _, _, _, _, _, _, _, H10.cells (i := 1) rfl, ?_⟩
  refine ⟨H10.lt (i := 2) rfl rfl, ?_⟩
  refine ⟨_, _, _, _, _, _, _, _, _, _, _, _, _, _, _, _, H10.cells (i := 2) rfl, ?_⟩
  refine (cloneUnits_ct H10.get.1.1 (by omega)).mono ?_
  rintro _ w11 ⟨ca, cc, rfl, K⟩
  have hb11 := K.below
  have H11 := H10.callR K; clear H10 K
  refine ⟨_, _, _, rfl, ?_⟩
  refine ⟨hb11.keeps, hb11.keeps, ?_⟩
  simp only [List.cons_append, List.nil_append] at H11
  have hcap := H11.capE (i := 3) rfl
  have hca : U ≠ [] -> ∃ g, ca = some g := fun hne => by
   obtain ⟨g, hg, -⟩ := H11.rowSome (i := 3) rfl (by cases U with | nil => exact absurd rfl hne | cons x y => simp)
   exact ⟨_, hg⟩
  have H11 := H11.shareE encBL_ok (i := 3) rfl
  simp only [List.set_cons_succ, List.set_cons_zero] at H11
  refine H11.allocB ?_; clear H11; intro b3 w12 hb12 H12
  refine ⟨(below_step hb11 (Nat.le_refl _) hb12).keeps, ?_⟩
  have H13 := ((((stOnly H12 (i := 4) rfl).nilE encBL Ty_S_uint8 1).nilE encBL Ty_S_uint8 1).nilE encBL Ty_S_uint8 1)
  clear H12
  obtain ⟨x0, hx0⟩ : ∃ x0 : Am, x0 = ⟨⟨l, 0, 0, [], 0, -1, 0, false⟩, sa, sc, ⟨l, 0, 0, 0, -1, 0, 0, false, []⟩, none, 0, ⟨ca, cc, U, 0, ca⟩, Qu.nil, Qu.nil, Qu.nil⟩ := ⟨_, rfl⟩
  have hS : Sim A w w12 b3 0 (startP l (ds U)) fun w => SlR (CE encSp) 2 w sta ST := by
   refine ⟨x0, by rw [hx0]; rfl, ?_, ?_, ?_⟩
   ·rw [hx0]
    refine ⟨⟨Nat.zero_le _, fun u hu => (by cases hu)⟩, gp_nil, ⟨Nat.zero_le _, by show U.length <= 1000000; omega, .inl (slA0 _ _).symm⟩, hcap, Qu.nil_ok, Nat.le_refl _, fun y hy => (by cases hy), Qu.nil_ok, Nat.le_refl _, fun y hy => (by cases hy), Qu.nil_ok, Nat.le_refl _⟩
   ·rw [hx0]; exact hca
   ·rw [hx0]
    exact St.imp (P := fun w => SlR (CE encBL) 1 w ca U /\ QL U ua w /\ SlR (CE encSp) 2 w sta ST) H13 fun w h => ⟨⟨.nil, .nil, ⟨h.1, h.2.1.2⟩, fun y hy => (by cases hy), fun y hy => (by cases hy), fun y hy => (by cases hy)⟩, h.2.2⟩
  clear H13
  refine ⟨fun k => ((ST.length - k).toNat, fun w13 => ∃ n : Nat, k = n /\ n <= ST.length /\ Sim A w w13 b3 n (stepsP (startP l (ds U)) (ST.take n)) (fun w => SlR (CE encSp) 2 w sta ST) /\ I (stepsP (startP l (ds U)) (ST.take n))), ⟨0, rfl, Nat.zero_le _, hS, hI0⟩, ?_⟩
  clear hS
  rintro _ k w13 ⟨n, rfl, hn, H13, hIn⟩
  refine bsplit_dec (fun c => ?_) (fun c => ?_)
  ·have hlt : n < ST.length := by omega
   obtain ⟨x, hxp, hxo, hxu, H14⟩ := H13
   refine ixE H14.get.2 n rfl hlt fun b4 y hy hb4 => ?_
   obtain rfl : ST[n] = y := by rw [List.getElem?_eq_getElem hlt] at hy; exact Option.some.inj hy
   refine ⟨_, _, hb4, ?_⟩
   refine H14.alloc ?_; clear H14; intro b5 w14 H15
   simp only [List.cons_append, List.nil_append] at H15
   refine H15.store (i := 4) rfl (by rfl) (by rfl) ?_; clear H15; intro w15 H16
   simp only [List.set_cons_succ, List.set_cons_zero] at H16
   refine ⟨_, _, H16.cells (i := 4) rfl, ?_⟩
   refine ⟨by kernel_rfl, ?_⟩
   have H17 : Sim A w w15 b3 n (stepsP (startP l (ds U)) (ST.take n)) (fun w => SlR (CE encSp) 2 w sta ST) := ⟨x, hxp, hxo, hxu, St.left (X := [_, _, _, _]) H16⟩
   refine sim_step H17 (hI _ hIn) (by omega) (ha _ (List.getElem_mem hlt)) fun w16 H18 => ?_
   refine ⟨rfl, ?_⟩
   refine kW_i64 (by omega) ?_
   have e : stepsP (startP l (ds U)) (ST.take (n + 1)) = stepP (stepsP (startP l (ds U)) (ST.take n)) ST[n].1 ST[n].2 := by
    unfold stepsP
    rw [List.take_add_one, List.getElem?_eq_getElem hlt, List.foldl_append]; rfl
   exact ⟨⟨n + 1, by omega, by omega, by rw [e]; exact H18, by rw [e]; exact hIs _ _ _ hIn⟩, by dsimp only; omega⟩
  ·obtain rfl : n = ST.length := by omega
   rw [List.take_length] at H13 hIn
   refine ⟨b3, rfl, ?_, hIn⟩
   obtain ⟨x, h1, h2, h3, h4⟩ := H13.upTo (n := 500) (by omega)
   exact ⟨x, h1, h2, h3, h4.imp fun w h => ⟨h.1, trivial⟩⟩
 ·refine bsplit_dec (fun c => absurd c (by omega)) (fun _ => ?_)
  refine bsplit_dec (fun c => absurd c (by omega)) (fun _ => ?_)
  refine (containsWrong_ct H7.get.1.1 (by omega)).mono ?_
  rintro _ w8 ⟨rfl, hb8⟩; have H8 := H7.pass hb8; clear H7
  refine ⟨_, rfl, ?_⟩
  rw [hw]
  exact bsplit_intro (fun c => by cases c) (fun _ => H8)
end
end Go.Proofs.YtmbppohkadmjgaaGreat
namespace Go.Proofs.YtmbppohkadmjgaaGreat
open Go.Sx Go.RowKit
set_option maxRecDepth 100000
def wayAll : Nat -> Pl -> Pl
 | 0, p => p
 | n + 1, p => wayAll n (deliverP p false)
def backAll : Nat -> Pl -> Pl
 | 0, p => p
 | n + 1, p => backAll n (answerP p false)
def roundP (mu : Pl -> Nat) (p : Pl) : Pl := endP (buildAll (mu (sendAll (p.us.length + 1) p) + 1) (sendAll (p.us.length + 1) p))
def roundsP (mu : Pl -> Nat) : Nat -> Pl -> Pl
 | 0, p => p
 | n + 1, p => roundP mu (roundsP mu n p)
theorem deliverP_len (p : Pl) : (deliverP p false).wy.length = p.wy.length - 1 := by
 unfold deliverP
 cases h : p.wy with
 | nil => simp [h]
 | cons d l => simp
theorem answerP_len (p : Pl) : (answerP p false).bk.length = p.bk.length - 1 := by
 unfold answerP
 cases h : p.bk with
 | nil => simp [h]
 | cons d l => simp
section
variable {A : Nat -> Prop} {l : Lk} {U : List BL} {ua sta : Option Addr} {uc stc : Nat} {ST : List (Int × Int)} {w : World} {I : Pl -> Prop} {mu : Pl -> Nat} {rounds : Int}
theorem amlink_Finish_ct (hlk : lkOk l) (hQ : Held A w fun w => QL U ua w /\ SlR (CE encSp) 2 w sta ST) (hw : (U.any fun y => wrongB y.d) = false) (hul : U.length <= 256) (hsl : ST.length <= 400)
 (ha : ∀ y ∈ ST, -9223372036854775808 <= y.2 /\ y.2 <= 9223372036854775807) (hI : Inv I mu) (hIs : ∀ p k a, I p -> I (stepP p k a)) (hIt : ∀ p, I p -> I (endP p)) (hIsa : ∀ n p, I p -> I (sendAll n p)) (hIba : ∀ n p, I p -> I (buildAll n p)) (hmu : ∀ p, I p -> mu p <= 600) (hI0 : I (startP l (ds U))) (hr : 0 <= rounds /\ rounds <= 400)
 {Y W : Pl} (hY : Y = wayAll (stepsP (startP l (ds U)) ST).wy.length (stepsP (startP l (ds U)) ST)) (hW : W = backAll Y.bk.length Y) :
 Calls Tryz.prog N_amlink_Finish #[.agg #[.int .i64 l.bits, .int .i64 l.every, .int .i64 l.poll, .int .i64 l.wait, .int .i64 l.quiet, .int .i64 l.tries], .slice ua U.length uc, .slice sta ST.length stc, .int .i64 rounds] w fun e w' =>
  ∃ (L : List BL) (a : Option Addr) (c : Nat), ds L = (roundsP mu rounds.toNat W).ot /\ e = .returned (.tuple #[.slice a L.length c, .bool (!(roundsP mu rounds.toNat W).s.failed), .int .i64 0]) /\ St A [] w w' [] (QL L a) := by
 apply F_amlink_Finish_ok
 unfold F_amlink_Finish
 have H := St.start hQ
 refine H.alloc ?_; clear H; intro b w1 H1
 simp only [List.nil_append] at H1
 refine ⟨_, _, _, _, _, _, H1.cells (i := 0) rfl, ?_⟩
 obtain ⟨A1, hA1, hc1⟩ := H1.call
 refine (amlink_begin_ct (A := A1) hlk hA1 hw hul hsl ha hI.fits hIs hI0).mono ?_
 rintro _ w2 ⟨b1, rfl, H2, hI2⟩
 obtain ⟨p0, hp0⟩ : ∃ p0, p0 = stepsP (startP l (ds U)) ST := ⟨_, rfl⟩
 rw [<- hp0] at H2 hI2 hY
 have H3 : Sim A w w2 b1 500 p0 (fun _ => True) := by
  obtain ⟨x, h1, h2, h3, h4⟩ := H2
  exact ⟨x, h1, h2, h3, ((hc1 h4).sub (fun i => i + 1) (fun i r hi => by simpa using hi) (fun i j _ _ h => by omega)).imp fun w h => ⟨h.1.1, trivial⟩⟩
 clear H2 hc1 H1
 refine ⟨_, _, rfl, ?_⟩
 refine ⟨fun w3 => Sim A w w3 b1 500 p0 (fun _ => True), ?_, ?_⟩
 ·clear H3
  rintro _ w3 H3
  have hN : p0.wy.length <= 500 := by
   obtain ⟨x, h1, h2, _⟩ := H3
   rw [<- h1]; have := h2.wl
   show (ds x.wy.live).length <= 500
   unfold ds Qu.live; simp; omega
  refine ⟨fun k w4 => ∃ p', k = p'.wy.length /\ k <= p0.wy.length /\ Sim A w w4 b1 (500 + (p0.wy.length - k)) p' (fun _ => True) /\ I p' /\ wayAll k p' = Y, ⟨p0.wy.length, p0, rfl, Nat.le_refl _, by rw [Nat.sub_self]; exact H3, hI2, hY.symm⟩, ?_⟩
  clear H3
  rintro _ k w4 ⟨p', rfl, hk, H4, hI4, hY4⟩
  have hld : ∃ (q : Option Addr) (c : Nat), w4.cell? ⟨b1, 28, none⟩ = some (.slice q p'.wy.length c) := by
   obtain ⟨x, h1, _, _, h4⟩ := H4
   refine ⟨x.wy.p, x.wy.c - x.wy.n, ?_⟩
   have := h4.cell (i := 0) (o := 28) rfl (show x.enc[28]? = some x.wy.sl from rfl)
   rw [this, <- h1]
   show some (Value.slice _ _ _) = some (.slice _ (ds x.wy.live).length _)
   unfold ds Qu.live; simp
  obtain ⟨q, c, hld⟩ := hld
  refine kNil_in ?_
  rw [add_mk, Nat.zero_add]
  refine ⟨q, p'.wy.length, c, hld, ?_⟩
  refine bsplit_dec (fun c1 => ?_) (fun c1 => ?_)
  ·refine sim_deliver false H4 (by omega) fun w5 H5 => ?_
   have hl := deliverP_len p'
   refine ⟨rfl, p'.wy.length - 1, by omega, deliverP p' false, hl.symm, by omega, H5.upTo (by omega), hI.deliver _ hI4, ?_⟩
   rw [<- hY4]
   obtain ⟨j, hj⟩ : ∃ j, p'.wy.length = j + 1 := ⟨p'.wy.length - 1, by omega⟩
   rw [hj]; rfl
  have hY5 : p' = Y := by rw [<- hY4, show p'.wy.length = 0 by omega]; rfl
  rw [hY5] at H4 hI4
  replace H4 := H4.upTo (n := 1000) (by omega)
  clear hld hY4 hY5 hk
  have hN : Y.bk.length <= 1000 := by
   obtain ⟨x, h1, h2, _⟩ := H4
   rw [<- h1]; have := h2.bl
   show (ds x.bk.live).length <= 1000
   unfold ds Qu.live; simp; omega
  refine ⟨fun k w6 => ∃ p', k = p'.bk.length /\ Sim A w w6 b1 1000 p' (fun _ => True) /\ I p' /\ backAll k p' = W, ⟨Y.bk.length, Y, rfl, H4, hI4, hW.symm⟩, ?_⟩
  clear H4 hI4
  rintro _ k w6 ⟨p', rfl, H6, hI6, hW6⟩
  have hld : ∃ (q : Option Addr) (c : Nat), w6.cell? ⟨b1, 29, none⟩ = some (.slice q p'.bk.length c) := by
   obtain ⟨x, h1, _, _, h4⟩ := H6
   refine ⟨x.bk.p, x.bk.c - x.bk.n, ?_⟩
   have := h4.cell (i := 0) (o := 29) rfl (show x.enc[29]? = some x.bk.sl from rfl)
   rw [this, <- h1]
   show some (Value.slice _ _ _) = some (.slice _ (ds x.bk.live).length _)
   unfold ds Qu.live; simp
  obtain ⟨q, c, hld⟩ := hld
  refine kNil_in ?_
  rw [add_mk, Nat.zero_add]
  refine ⟨q, p'.bk.length, c, hld, ?_⟩
  refine bsplit_dec (fun c1 => ?_) (fun c1 => ?_)
  ·refine sim_answer false H6 (hI.fits _ hI6).an fun w7 H7 => ?_
   have hl := answerP_len p'
   refine ⟨rfl, p'.bk.length - 1, by omega, answerP p' false, hl.symm, H7, hI.answer _ hI6, ?_⟩
   rw [<- hW6]
   obtain ⟨j, hj⟩ : ∃ j, p'.bk.length = j + 1 := ⟨p'.bk.length - 1, by omega⟩
   rw [hj]; rfl
  have hW7 : p' = W := by rw [<- hW6, show p'.bk.length = 0 by omega]; rfl
  rw [hW7] at H6 hI6
  clear hld hW6 hW7
  refine ⟨fun k => ((rounds - k).toNat, fun w8 => ∃ n : Nat, k = n /\ k <= rounds /\ Sim A w w8 b1 (1000 + 1204 * n) (roundsP mu n W) (fun _ => True) /\ I (roundsP mu n W)), ⟨0, rfl, hr.1, H6, hI6⟩, ?_⟩
  clear H6 hI6
  rintro _ k w8 ⟨n, rfl, hk, H8, hI8⟩
  refine bsplit_dec (fun c2 => ?_) (fun c2 => ?_)
  ·have hm := hmu _ (hIsa ((roundsP mu n W).us.length + 1) _ hI8)
   refine sim_round hI H8 hI8 (by omega) fun w9 H9 => ?_
   refine ⟨rfl, ?_⟩
   refine kW_i64 (by omega) ?_
   exact ⟨⟨n + 1, by omega, by omega, H9.upTo (by omega), hIt _ (hIba _ _ (hIsa _ _ hI8))⟩, by dsimp only; omega⟩
  ·have hn : n = rounds.toNat := by omega
   rw [<- hn]
   obtain ⟨x, h1, h2, _, H9⟩ := H8
   refine H9.drew ?_; clear H9; intro w10 H10
   have hcap := H10.capE (i := 3) rfl
   refine kNil_in ?_
   rw [add_mk, Nat.zero_add]
   refine H10.ldS (i := 0) (o := 30) rfl rfl ?_
   refine kNil_in ?_
   rw [add_mk, Nat.zero_add]
   refine ⟨x.s.failed, H10.cell (i := 0) (o := 12) rfl rfl, ?_⟩
   refine ⟨x.ot.live, x.ot.p, x.ot.c - x.ot.n, by rw [<- h1]; rfl, ?_, ?_⟩
   ·rw [<- h1]
    have : x.ot.live.length = x.ot.all.length - x.ot.n := by simp [Qu.live]
    rw [this]; rfl
   ·exact ((H10.shareE encBL_ok (i := 3) rfl).fin).imp fun w h => ⟨Qu.sl_live h2.oo hcap h.1, h.2.1.2.2.2.2.2⟩
 ·refine kLet_in ?_
  refine bsplit_nd (fun c => absurd rfl c) (fun _ => ?_)
  refine bsplit_dec (fun c => absurd c (by omega)) (fun _ => ?_)
  refine kLet_in ?_
  exact bsplit_dec (fun c => absurd c (by omega)) (fun _ => H3)
end
end Go.Proofs.YtmbppohkadmjgaaGreat
namespace Go.Proofs.YtmbppohkadmjgaaGreat
open Go.Sx Go.RowKit
set_option maxRecDepth 100000
section
variable {A : Nat -> Prop} {l : Lk} {U : List BL} {ua sta : Option Addr} {uc stc : Nat} {ST : List (Int × Int)} {w : World} {I : Pl -> Prop}
theorem amlink_Run_ct (hlk : lkOk l) (hQ : Held A w fun w => QL U ua w /\ SlR (CE encSp) 2 w sta ST) (hw : (U.any fun y => wrongB y.d) = false) (hul : U.length <= 256) (hsl : ST.length <= 400)
 (ha : ∀ y ∈ ST, -9223372036854775808 <= y.2 /\ y.2 <= 9223372036854775807) (hI : ∀ p, I p -> Fits p) (hIs : ∀ p k a, I p -> I (stepP p k a)) (hI0 : I (startP l (ds U))) {Z : Pl} (hZ : Z = stepsP (startP l (ds U)) ST) :
 Calls Tryz.prog N_amlink_Run #[.agg #[.int .i64 l.bits, .int .i64 l.every, .int .i64 l.poll, .int .i64 l.wait, .int .i64 l.quiet, .int .i64 l.tries], .slice ua U.length uc, .slice sta ST.length stc] w fun e w' =>
  ∃ (L : List BL) (a : Option Addr) (c : Nat) (sa : Option Addr) (sc : Nat) (ra : Option Addr) (rc : Nat), ds L = Z.ot /\ e = .returned (.tuple #[.slice a L.length c, aggS Z.s sa sc, aggRc Z.r ra rc, .int .i64 0]) /\ I Z /\ St A [] w w' [] (fun w => QL L a w /\ UnR w sa Z.s.units /\ PaR w ra Z.r.parts) := by
 apply F_amlink_Run_ok
 unfold F_amlink_Run
 have H := St.start hQ
 refine H.alloc ?_; clear H; intro b w1 H1
 refine H1.alloc ?_; clear H1; intro b1 w2 H2
 refine H2.alloc ?_; clear H2; intro b2 w3 H3
 simp only [List.cons_append, List.nil_append] at H3
 refine ⟨_, _, _, _, _, _, H3.cells (i := 0) rfl, ?_⟩
 obtain ⟨A1, hA1, hc1⟩ := H3.call
 refine (amlink_begin_ct (A := A1) hlk hA1 hw hul hsl ha hI hIs hI0).mono ?_
 rintro _ w4 ⟨bb, rfl, ⟨x, h1, h2, h3, h4⟩, hI2⟩
 rw [<- hZ] at h1 hI2
 have H4 := hc1 h4
 clear hc1 H3
 simp only [List.cons_append, List.nil_append] at H4
 refine ⟨_, _, rfl, ?_⟩
 refine bsplit_nd (fun c => absurd rfl c) (fun _ => ?_)
 refine H4.drew ?_; clear H4; intro w7 H7
 refine ⟨fun q => q = bb, ?_⟩
 have hcap := H7.capE (i := 6) rfl
 refine kNil_in ?_
 rw [add_mk, Nat.zero_add]
 refine H7.ldS (i := 3) (o := 30) rfl rfl ?_
 refine kNil_in ?_
 refine ⟨_, _, _, _, _, _, _, _, _, _, _, _, _, _, _, H7.cellsAt (i := 3) (o := 0) (vs := encSd x.s x.sa x.sc) rfl rfl, ?_⟩
 refine kNil_in ?_
 rw [add_mk, Nat.zero_add]
 refine ⟨rfl, ?_⟩
 refine ⟨_, _, _, _, _, _, _, _, _, _, _, _, _, _, _, _, H7.cellsAt (i := 3) (o := 13) (vs := encRc x.r x.ra x.rc) rfl rfl, ?_⟩
 refine H7.store (i := 1) rfl (by rfl) (by rfl) ?_; intro w8 H8
 simp only [List.set_cons_succ, List.set_cons_zero] at H8
 refine ⟨keepB1 (H7.ok 3 _ rfl) (H8.ok 3 _ rfl), ?_⟩
 refine H8.store (i := 2) rfl (by rfl) (by rfl) ?_; intro w9 H9
 simp only [List.set_cons_succ, List.set_cons_zero] at H9
 refine ⟨keepB1 (H7.ok 3 _ rfl) (H9.ok 3 _ rfl), ?_⟩
 refine ⟨_, _, _, _, _, _, _, _, _, _, _, _, _, _, _, H9.cells (i := 1) rfl, ?_⟩
 refine ⟨_, _, _, _, _, _, _, _, _, _, _, _, _, _, _, _, H9.cells (i := 2) rfl, ?_⟩
 refine ⟨x.ot.live, x.ot.p, x.ot.c - x.ot.n, x.sa, x.sc, x.ra, x.rc, by rw [<- h1]; rfl, ?_, hI2, ?_⟩
 ·rw [<- h1]
  have : x.ot.live.length = x.ot.all.length - x.ot.n := by simp [Qu.live]
  rw [this]; rfl
 ·rw [<- h1]
  exact ((H9.shareE encBL_ok (i := 6) rfl).fin).imp fun w h => ⟨⟨Qu.sl_live h2.oo hcap h.1, h.2.1.1.2.2.2.2.2⟩, h.2.1.1.1, h.2.1.1.2.1⟩
end
end Go.Proofs.YtmbppohkadmjgaaGreat
namespace Go.Proofs.YtmbppohkadmjgaaGreat
open Go.Sx Go.RowKit
set_option maxRecDepth 100000
def totU (L : List Un) : Nat := (L.map fun u => u.data.length).sum
def totL (L : List (List Int)) : Nat := (L.map fun d => d.length).sum
def leftN (u : Un) : Nat := ((u.data.length : Int) - u.sent).toNat + (u.again.map fun r => (r.t - r.f).toNat).sum
def muP (p : Pl) : Nat := (p.s.units.map leftN).sum
structure IvP (p : Pl) : Prop where
 s : OkS p.s
 gu : GU p.s.units
 r : p.r.okB = true
 gp : GP p.r.parts
 us : ∀ d ∈ p.us, Bytes d
 wy : ∀ d ∈ p.wy, Bytes d
 bk : ∀ d ∈ p.bk, Bytes d
 tot : totU p.s.units + totL p.us <= 600
theorem sum_set {α : Type} (f : α -> Nat) (x : α) : ∀ (L : List α) (k : Nat) (hk : k < L.length), ((L.set k x).map f).sum + f L[k] = (L.map f).sum + f x
 | [], k, hk => absurd hk (Nat.not_lt_zero _)
 | y :: L, 0, _ => by simp; omega
 | y :: L, k + 1, hk => by
  have := sum_set f x L k (by simpa using hk)
  simp only [List.set_cons_succ, List.map_cons, List.sum_cons, List.getElem_cons_succ]
  omega
theorem norm_sum : ∀ {L : List Rg} {p m : Int}, normB p L = true -> (∀ r ∈ L, r.t <= m) -> (((L.map fun r => (r.t - r.f).toNat).sum : Nat) : Int) <= max 0 (m - p - 1)
 | [], p, m, _, _ => by simp; omega
 | x :: L, p, m, h, hm => by
  simp only [normB, Bool.and_eq_true, decide_eq_true_eq] at h
  have h1 := hm x (by simp)
  have := norm_sum (m := m) h.2 fun r hr => hm r (by simp [hr])
  simp only [List.map_cons, List.sum_cons, Int.natCast_add]
  omega
theorem leftN_le {l : Lk} {u : Un} (h : unB l u = true) : leftN u <= u.data.length := by
 obtain ⟨⟨-, -, h3, -⟩, h1, h2⟩ := unB_iff.1 h
 have := norm_sum (m := u.sent) h1 fun r hr => (h2 r hr).2
 unfold leftN
 omega
theorem leftN_take {l : Lk} {u : Un} {n : Int} (h : unB l u = true) (hn : 1 <= n) (hn2 : (partU u).f + n <= (partU u).t) : leftN (takeU u n) < leftN u := by
 unfold partU at hn2
 unfold takeU leftN
 cases ha : u.again with
 | nil =>
  rw [ha] at hn2
  dsimp only at hn2 ⊢
  simp; omega
 | cons r t =>
  rw [ha] at hn2
  dsimp only at hn2 ⊢
  split
  ·simp only [List.map_cons, List.sum_cons]; omega
  ·simp only [List.map_cons, List.sum_cons]; omega
theorem mu_le {p : Pl} (h : IvP p) : muP p <= 600 := by
 have key : ∀ L : List Un, (∀ u ∈ L, unB p.s.lk u = true) -> (L.map leftN).sum <= totU L := by
  intro L
  induction L with
  | nil => intro _; exact Nat.le_refl _
  | cons u L ih =>
   intro hu
   have h1 := leftN_le (hu u (by simp))
   have h2 := ih fun v hv => hu v (by simp [hv])
   unfold totU at h2 ⊢
   simp only [List.map_cons, List.sum_cons]; omega
 have h1 := key p.s.units fun u hu => (h.s.all u hu).1
 have h2 := h.tot
 unfold muP; omega
theorem buildT_ok (s : Sd) (k : Nat) (u : Un) (q : Pc) : (buildT s k u q).2.2 = 0 := by unfold buildT; dsimp only; split <;> rfl
theorem build_err {s : Sd} {size E : Int} (h : (buildS s size E).2.2 ≠ 0) : (buildS s size E).2.1 = [] := by
 unfold buildS at h ⊢
 by_cases hE : E ≠ 0
 ·rw [if_pos hE]
 rw [if_neg hE] at h ⊢
 by_cases hz : ¬ (0 <= size /\ size <= 4096)
 ·rw [if_pos hz]
 rw [if_neg hz] at h ⊢
 by_cases hl : leftI s.units < 0
 ·rw [if_pos hl]
 rw [if_neg hl] at h ⊢
 cases hu : s.units[(leftI s.units).toNat]? with
 | none => rfl
 | some u =>
  rw [hu] at h
  dsimp only at h ⊢
  by_cases hc : (cutP s.lk.bits (pieceU u) size).2.2 ≠ 0
  ·rw [if_pos hc]
  rw [if_neg hc] at h
  exact absurd (buildT_ok _ _ _ _) h
theorem build_len {s : Sd} {size E : Int} (h : OkS s) : (buildS s size E).2.1.length <= 100000 := by
 by_cases c : (buildS s size E).2.2 = 0
 ·obtain ⟨k, hk, q, -, hqo, hb, -⟩ := build_piece h c
  obtain ⟨_, _, _, _, _, _, _, h8⟩ := hqo
  rw [hb]
  unfold Pc.bytes
  split <;> simp <;> omega
 ·rw [build_err c]; simp
theorem rep_err {s : Rc} {size : Int} (h : (repR s size).2.1 ≠ []) : (repR s size).2.1 = (encS s.lk.bits (fitR s.lk.bits (statR s).1 size).1).1 := by
 unfold repR at h ⊢
 by_cases h1 : s.okB = false
 ·rw [if_pos h1] at h; exact absurd rfl h
 rw [if_neg h1] at h ⊢
 by_cases h2 : size < 0 \/ size > 4096
 ·rw [if_pos h2] at h; exact absurd rfl h
 rw [if_neg h2] at h ⊢
 by_cases h3 : s.due = false \/ s.quiet > 0
 ·rw [if_pos h3] at h; exact absurd rfl h
 rw [if_neg h3] at h ⊢
 dsimp only at h ⊢
 by_cases h4 : (fitR s.lk.bits (statR s).1 size).2 ≠ 0
 ·rw [if_pos h4] at h; exact absurd rfl h
 rw [if_neg h4]
theorem encS_len (b : Int) (s : Stt) : (encS b s).1.length <= 100000 := by
 unfold encS
 split
 ·rename_i h
  have h1 := bytesS_sum s
  have h2 : ∀ L : List Rg, sumS L <= 6 * L.length := by
   intro L
   induction L with
   | nil => exact Int.le_refl _
   | cons r L ih =>
    have hz : szR r <= 6 := by unfold szR; split <;> omega
    simp only [sumS, List.length_cons]; omega
  have h3 := h2 s.miss
  have h4 := h.2.2.1
  dsimp only
  omega
 ·simp
theorem repR_len {s : Rc} {size : Int} : (repR s size).2.1.length <= 100000 := by
 by_cases c : (repR s size).2.1 = []
 ·rw [c]; simp
 ·rw [rep_err c]; exact encS_len _ _
theorem decS_miss (b : Int) (bs : List Int) : (decS b bs).1.miss.length <= 64 := by
 unfold decS
 split
 ·simp [Stt.zero]
 ·split
  ·simp [Stt.zero]
  ·split
   ·rename_i h; exact h.1.2.2.1
   ·simp [Stt.zero]
theorem answer_gu {s : Sd} {bs : List Int} (h : GU s.units) : GU (answerS s bs).units := by
 unfold answerS
 split
 ·exact rep_gu h (by have := decS_miss s.lk.bits bs; omega)
 ·exact h
theorem tick_guP {p : Pl} (h : GU p.s.units) : GU (tickP p).s.units := by
 unfold tickP
 dsimp only
 split
 ·exact tick_gu h
 ·exact h
theorem iv_fits {p : Pl} (h : IvP p) : Fits p :=
 ⟨fun _ => ⟨build_bytes h.gu, build_len h.s, (build_gu h.gu).1⟩, fun _ => ⟨(rep_gp h.gp).2, repR_len, (rep_gp h.gp).1⟩, (tick_guP h.gu).1,
  fun d l _ => ⟨by have := decS_miss p.s.lk.bits d; omega, (answer_gu h.gu).1⟩, fun d l hd => (sub_gu h.gu (h.us d (by rw [hd]; simp))).1⟩
theorem iv_send {p : Pl} (h : IvP p) : IvP (sendP p).1 := by
 unfold sendP
 cases hu : p.us with
 | nil => exact h
 | cons d l =>
  dsimp only
  split
  ·rename_i he
   obtain ⟨h1, h2, h3⟩ := sub_ok h.s he
   have hus := h.us
   have ht := h.tot
   rw [hu] at hus ht
   refine ⟨h1, sub_gu h.gu (hus d (by simp)), h.r, h.gp, fun x hx => hus x (by simp [show x ∈ l from hx]), h.wy, h.bk, ?_⟩
   have e : (subS p.s d (begE p.s)).1.units = p.s.units ++ [⟨p.s.next, d, 0, 0, []⟩] := by
    unfold subS at he ⊢
    split at he
    ·exact absurd he (by assumption)
    ·rename_i c1
     rw [if_neg c1]
     split at he
     ·exact absurd he (by decide)
     ·rename_i c2
      rw [if_neg c2]
      split at he
      ·exact absurd he (by decide)
      ·rename_i c3
       rw [if_neg c3]
   show totU (subS p.s d (begE p.s)).1.units + totL l <= 600
   rw [e]
   unfold totU totL at *
   simp only [List.map_append, List.map_cons, List.map_nil, List.sum_append, List.sum_cons, List.sum_nil] at ht ⊢
   omega
  ·exact h
theorem build_tot {s : Sd} {size E : Int} (h : OkS s) (he : (buildS s size E).2.2 = 0) : totU (buildS s size E).1.units = totU s.units /\ ((buildS s size E).1.units.map leftN).sum < (s.units.map leftN).sum := by
 obtain ⟨k, hk, q, -, -, -, -, hqf, h1, h2, -, hu, -⟩ := build_piece h he
 rw [hu]
 have a1 := sum_set (fun u : Un => u.data.length) (takeU s.units[k] q.data.length) s.units k hk
 have a2 := sum_set leftN (takeU s.units[k] q.data.length) s.units k hk
 rw [show (takeU s.units[k] q.data.length).data.length = s.units[k].data.length by rw [(takeU_data _ _).1]] at a1
 have a3 := leftN_take (n := q.data.length) (h.all _ (List.getElem_mem hk)).1 (by omega) h2
 unfold totU
 exact ⟨by omega, by omega⟩
theorem iv_build {p : Pl} (h : IvP p) (size : Int) : IvP (buildP p size).1 := by
 unfold buildP
 split
 ·rename_i he
  obtain ⟨h1, h2, h3⟩ := build_ok h.s he
  refine ⟨h1, build_gu h.gu, h.r, h.gp, h.us, fun d hd => ?_, h.bk, ?_⟩
  ·rcases List.mem_append.1 hd with hd | hd
   ·exact h.wy d hd
   ·rw [List.mem_singleton] at hd
    rw [hd]; exact build_bytes h.gu
  ·show totU (buildS p.s size (begE p.s)).1.units + totL p.us <= 600
   rw [(build_tot h.s he).1]; exact h.tot
 ·exact h
theorem iv_deliver {p : Pl} (h : IvP p) (keep : Bool) : IvP (deliverP p keep) := by
 unfold deliverP
 cases hw : p.wy with
 | nil => exact h
 | cons d l =>
  have hwy := h.wy
  rw [hw] at hwy
  have hd := hwy d (by simp)
  refine ⟨h.s, h.gu, ?_, ?_, h.us, ?_, h.bk, h.tot⟩
  ·dsimp only; split
   ·exact h.r
   ·exact rec_ok h.r fun _ _ => decP_good
  ·dsimp only; split
   ·exact h.gp
   ·exact (rec_gp h.gp hd).1
  ·intro x hx
   dsimp only at hx
   cases keep with
   | true => exact hwy x hx
   | false => exact hwy x (by simp [show x ∈ l from hx])
theorem iv_report {p : Pl} (h : IvP p) (size : Int) : IvP (reportP p size) := by
 unfold reportP
 split
 ·rename_i he
  refine ⟨h.s, h.gu, (Go.Sx.rep_ok h.r he).2, (rep_gp h.gp).1, h.us, h.wy, fun d hd => ?_, h.tot⟩
  rcases List.mem_append.1 hd with hd | hd
  ·exact h.bk d hd
  ·rw [List.mem_singleton] at hd
   rw [hd]; exact (rep_gp h.gp).2
 ·exact h
theorem tot_filter {g : Un -> Option Un} (hg : ∀ u v, g u = some v -> v.data = u.data) : ∀ L : List Un, totU (L.filterMap g) <= totU L
 | [] => Nat.le_refl _
 | u :: L => by
  have := tot_filter hg L
  unfold totU at *
  cases hu : g u with
  | none => rw [List.filterMap_cons_none hu]; simp only [List.map_cons, List.sum_cons]; omega
  | some v =>
   rw [List.filterMap_cons_some hu]
   have e := congrArg List.length (hg u v hu)
   simp only [List.map_cons, List.sum_cons]; omega
theorem iv_answer {p : Pl} (h : IvP p) (keep : Bool) : IvP (answerP p keep) := by
 unfold answerP
 cases hw : p.bk with
 | nil => exact h
 | cons d l =>
  have hbk := h.bk
  rw [hw] at hbk
  have hgu := answer_gu (bs := d) h.gu
  have key : OkS (answerS p.s d) /\ totU (answerS p.s d).units <= totU p.s.units := by
   unfold answerS
   split
   ·rename_i he
    obtain ⟨h1, h2, h3, -⟩ := rep_okD h.s he.2
    exact ⟨h1, by rw [h3]; exact tot_filter (fun u v huv => (repU_some huv).2.1) _⟩
   ·exact ⟨h.s, Nat.le_refl _⟩
  refine ⟨key.1, hgu, h.r, h.gp, h.us, h.wy, ?_, ?_⟩
  ·intro x hx
   dsimp only at hx
   cases keep with
   | true => exact hbk x hx
   | false => exact hbk x (by simp [show x ∈ l from hx])
  ·show totU (answerS p.s d).units + totL p.us <= 600
   have := h.tot
   have := key.2
   omega
theorem tot_set {L : List Un} {k : Nat} {x : Un} (hk : k < L.length) (hx : x.data = L[k].data) : totU (L.set k x) = totU L := by
 have := sum_set (fun u : Un => u.data.length) x L k hk
 have e : x.data.length = L[k].data.length := by rw [hx]
 unfold totU
 omega
theorem tick_tot {s : Sd} {E : Int} (he : (tickS s E).2 = 0) : totU (tickS s E).1.units = totU s.units := by
 unfold tickS at he ⊢
 split at he
 ·exact absurd he (by assumption)
 ·rename_i c1
  rw [if_neg c1]
  split
  ·rfl
  ·split
   ·rfl
   ·dsimp only
    unfold tickT
    split
    ·rfl
    ·unfold lastS
     dsimp only
     split
     ·rfl
     ·rename_i u hu
      obtain ⟨hk, hku⟩ := List.getElem?_eq_some_iff.1 hu
      split
      ·exact tot_set hk (by rw [hku]; rfl)
      ·exact tot_set hk (by rw [hku]; rfl)
theorem iv_tick {p : Pl} (h : IvP p) : IvP (tickP p) := by
 have hg := tick_guP h.gu
 unfold tickP at hg ⊢
 refine ⟨?_, hg, ?_, ?_, h.us, h.wy, h.bk, ?_⟩
 ·dsimp only; split
  ·rename_i he; exact (tick_okD h.s he).1
  ·exact h.s
 ·dsimp only; split
  ·exact Go.Sx.tick_ok h.r
  ·exact h.r
 ·dsimp only; split
  ·exact tick_gp h.gp
  ·exact h.gp
 ·dsimp only; split
  ·rename_i he
   rw [tick_tot he]; exact h.tot
  ·exact h.tot
theorem iv_lose {p : Pl} (h : IvP p) : IvP (loseP p) := ⟨h.s, h.gu, h.r, h.gp, h.us, fun d hd => h.wy d (List.mem_of_mem_tail hd), h.bk, h.tot⟩
theorem iv_loseB {p : Pl} (h : IvP p) : IvP (loseBP p) := ⟨h.s, h.gu, h.r, h.gp, h.us, h.wy, fun d hd => h.bk d (List.mem_of_mem_tail hd), h.tot⟩
theorem iv_step {p : Pl} (k a : Int) (h : IvP p) : IvP (stepP p k a) := by
 unfold stepP
 split
 ·exact iv_send h
 ·split
  ·exact iv_build h a
  ·split
   ·exact iv_deliver h _
   ·split
    ·exact iv_deliver h _
    ·split
     ·exact iv_lose h
     ·split
      ·exact iv_report h a
      ·split
       ·exact iv_answer h _
       ·split
        ·exact iv_answer h _
        ·split
         ·exact iv_loseB h
         ·split
          ·exact iv_tick h
          ·exact h
theorem deliver_s (p : Pl) (keep : Bool) : (deliverP p keep).s = p.s := by unfold deliverP; split <;> rfl
theorem iv_inv : Inv IvP muP := by
 refine ⟨fun p h => iv_fits h, fun p h => iv_send h, fun p h => iv_build h _, fun p h => iv_deliver h _, fun p h => iv_report h _, fun p h => iv_answer h _, fun p h hb => ?_⟩
 unfold muP
 rw [deliver_s]
 unfold buildP at hb ⊢
 split at hb
 ·rename_i he
  rw [if_pos he]
  exact (build_tot h.s he).2
 ·cases hb
theorem iv_sendAll : ∀ (n : Nat) (p : Pl), IvP p -> IvP (sendAll n p)
 | 0, _, h => h
 | n + 1, p, h => by
  unfold sendAll
  split
  ·exact iv_sendAll n _ (iv_send h)
  ·exact iv_send h
theorem iv_buildAll : ∀ (n : Nat) (p : Pl), IvP p -> IvP (buildAll n p)
 | 0, _, h => h
 | n + 1, p, h => by
  unfold buildAll
  split
  ·exact iv_buildAll n _ (iv_deliver (iv_build h _) _)
  ·exact iv_build h _
theorem iv_end {p : Pl} (h : IvP p) : IvP (endP p) := iv_tick (iv_answer (iv_report h _) _)
theorem iv_start {l : Lk} (hl : lkOk l) {us : List (List Int)} (hb : ∀ d ∈ us, Bytes d) (ht : totL us <= 600) : IvP (startP l us) := by
 have h0 : snOk l.bits 0 := by
  unfold snOk
  rcases pow_bits hl.1 with h | h | h | h | h <;> rw [h] <;> omega
 exact ⟨new_okD hl h0, gu_nil, Go.Sx.new_ok hl h0, gp_nil, hb, fun d hd => by simp [startP] at hd, fun d hd => by simp [startP] at hd, by show totU [] + totL us <= 600; unfold totU; simpa using ht⟩
end Go.Proofs.YtmbppohkadmjgaaGreat
namespace Go.Proofs.YtmbppohkadmjgaaGreat
open Go.Sx Go.RowKit
set_option maxRecDepth 100000
theorem law22_link_ct {w : World} : Calls Tryz.prog N_law22_link #[] w fun e w' => e = .returned (.agg #[.int .i64 5, .int .i64 4, .int .i64 3, .int .i64 3, .int .i64 0, .int .i64 30]) /\ Below w.heap.size w w' := by
 apply F_law22_link_ok
 unfold F_law22_link
 have H := St.nil w
 refine H.alloc ?_; clear H; intro b w1 H1
 simp only [List.nil_append] at H1
 refine H1.store (i := 0) rfl (by rfl) (by rfl) ?_; clear H1; intro w2 H2
 refine ⟨_, _, _, _, _, _, H2.cells (i := 0) rfl, ?_⟩
 exact ⟨rfl, H2.below⟩
def awS : Pl := stepsP (startP ⟨5, 4, 3, 3, 0, 30⟩ [[1, 2, 3]]) [(1, 0), (2, 100), (4, 0)]
def awY : Pl := wayAll awS.wy.length awS
def awW : Pl := backAll awY.bk.length awY
theorem aw_all : (roundsP muP 10 awW).ot = [[1, 2, 3]] /\ (roundsP muP 10 awW).s.failed = false := by decide +kernel
theorem aw_link : lkOk ⟨5, 4, 3, 3, 0, 30⟩ := by decide
theorem ds_at {L : List BL} {k : Nat} {d : List Int} (h : (ds L)[k]? = some d) : ∃ y, L[k]? = some y /\ y.d = d := by
 unfold ds at h
 rw [List.getElem?_map] at h
 cases hk : L[k]? with
 | none => rw [hk] at h; cases h
 | some y => rw [hk] at h; exact ⟨y, rfl, Option.some.inj h⟩
theorem law22_awake_ct {w : World} : Calls Tryz.prog N_law22_awake #[] w fun e w' => e = .returned (.bool true) /\ Below w.heap.size w w' := by
 apply F_law22_awake_ok
 unfold F_law22_awake
 have H := St.nil w
 refine law22_link_ct.mono ?_
 rintro _ w1 ⟨rfl, hb1⟩; have H1 := H.pass hb1; clear H
 refine ⟨_, _, _, _, _, _, rfl, ?_⟩
 refine H1.alloc ?_; clear H1; intro b w2 H2
 refine H2.alloc ?_; clear H2; intro b1 w3 H3
 refine H3.alloc ?_; clear H3; intro b2 w4 H4
 simp only [List.cons_append, List.nil_append] at H4
 have H5 := H4.litI (k := .u8) (i := 0) [1, 2, 3] rfl (by decide)
 simp only [List.set_cons_zero] at H5
 have H5 := H5.shareI (i := 0) rfl
 have H5 := H5.litE encBL_ok (i := 1) [⟨[1, 2, 3], some ⟨b, 0, none⟩, 3⟩] rfl (by show 1 <= maxLen; decide)
 simp only [List.set_cons_zero, List.set_cons_succ] at H5
 have H5 := H5.shareE encBL_ok (i := 1) rfl
 have H5 := H5.litE encSp_ok (i := 2) [(1, 0), (2, 100), (4, 0)] rfl (by decide)
 simp only [List.set_cons_zero, List.set_cons_succ] at H5
 have H5 := H5.shareE encSp_ok (i := 2) rfl
 clear H4
 obtain ⟨A, hA, hc⟩ := H5.call
 have hQ : Held A w4 fun w => QL [⟨[1, 2, 3], some ⟨b, 0, none⟩, 3⟩] (some ⟨b1, 0, none⟩) w /\ SlR (CE encSp) 2 w (some ⟨b2, 0, none⟩) [(1, 0), (2, 100), (4, 0)] := hA.mono fun w h => by
  refine ⟨⟨h.2.1, fun x hx => ?_⟩, h.1⟩
  obtain rfl : x = ⟨[1, 2, 3], some ⟨b, 0, none⟩, 3⟩ := by simpa using hx
  exact ⟨h.2.2.1, Nat.le_refl 3⟩
 have hI0 : IvP (startP ⟨5, 4, 3, 3, 0, 30⟩ (ds [⟨[1, 2, 3], some ⟨b, 0, none⟩, 3⟩])) := iv_start aw_link (fun d hd => by
  obtain rfl : d = [1, 2, 3] := by simpa [ds] using hd
  exact bytes_mem.2 (by decide)) (by show totL [[1, 2, 3]] <= 600; decide)
 refine (amlink_Finish_ct (l := ⟨5, 4, 3, 3, 0, 30⟩) (U := [⟨[1, 2, 3], some ⟨b, 0, none⟩, 3⟩]) (ST := [(1, 0), (2, 100), (4, 0)]) (rounds := 10) (I := IvP) (mu := muP) aw_link hQ (by rfl) (by show 1 <= 256; decide) (by decide)
  (fun y hy => by
   have hy : y = (1, 0) \/ y = (2, 100) \/ y = (4, 0) := by simpa using hy
   rcases hy with rfl | rfl | rfl <;> decide)
  iv_inv (fun p k a h => iv_step k a h) (fun p h => iv_end h) iv_sendAll iv_buildAll (fun p h => mu_le h) hI0 (by decide) (Y := awY) (W := awW) rfl rfl).mono ?_
 rintro _ w5 ⟨L, a, c, hL, rfl, K⟩
 rw [show (10 : Int).toNat = 10 from rfl] at hL ⊢
 rw [aw_all.1] at hL
 rw [aw_all.2]
 have hlen : L.length = 1 := by have := congrArg List.length hL; simpa [ds] using this
 have H6 := hc K
 obtain ⟨y, hy, hyd⟩ := ds_at (L := L) (k := 0) (d := [1, 2, 3]) (by rw [hL]; rfl)
 have hq := H6.get.1
 have hy3 : y.d.length = 3 := by rw [hyd]; rfl
 refine ⟨_, _, _, _, _, rfl, ?_⟩
 refine bsplit_dec (fun _ => ?_) (fun c => absurd rfl c)
 refine bsplit_intro (fun _ => ?_) (fun c => by cases c)
 refine bsplit_dec (fun _ => ?_) (fun c => absurd (by omega) c)
 refine ixE hq.1 0 rfl (by omega) fun b3 z hz hb3 => ?_
 obtain rfl : y = z := by rw [hy] at hz; exact Option.some.inj hz
 refine ⟨_, _, _, hb3.1, ?_⟩
 refine bsplit_dec (fun _ => ?_) (fun c => absurd (by omega) c)
 refine ixE hq.1 0 rfl (by omega) fun b4 z hz hb4 => ?_
 obtain rfl : y = z := by rw [hy] at hz; exact Option.some.inj hz
 refine ⟨_, _, _, hb4.1, ?_⟩
 have hs := (hq.2 y (List.mem_of_getElem? hy)).1
 rw [hyd] at hs ⊢
 obtain ⟨q, eq, hb5⟩ := hs.get (i := 2) (by decide)
 refine ⟨q, eq, ⟨by omega, by show (2 : Int) < _; decide⟩, ?_⟩
 refine ⟨_, hb5, ?_⟩
 refine kLet_in ?_
 exact ⟨rfl, H6.below⟩
def Numb (us : List (List Int)) : Prop := ∀ k (h : k < us.length), ∃ bs, us[k] = putN 2 k ++ bs /\ Bytes bs /\ bs.length <= 8
theorem numb_bytes {us : List (List Int)} (h : Numb us) : ∀ d ∈ us, Bytes d /\ 2 <= d.length /\ d.length <= 10 := fun d hd => by
 obtain ⟨k, hk, rfl⟩ := List.getElem_of_mem hd
 obtain ⟨bs, e, h1, h2⟩ := h k hk
 rw [e]
 refine ⟨bytes_mem.2 fun x hx => ?_, by simp [putN_len], by simp [putN_len]; omega⟩
 rcases List.mem_append.1 hx with hx | hx
 ·exact bytes_mem.1 (bytes_putN _ _) x hx
 ·exact bytes_mem.1 h1 x hx
theorem numb_tot {us : List (List Int)} (h : Numb us) {n : Nat} (hn : us.length <= n) : totL us <= 10 * n := by
 have key : ∀ L : List (List Int), (∀ d ∈ L, d.length <= 10) -> totL L <= 10 * L.length := by
  intro L
  induction L with
  | nil => intro _; exact Nat.le_refl _
  | cons d L ih =>
   intro hd
   have h1 := hd d (by simp)
   have h2 := ih fun x hx => hd x (by simp [hx])
   unfold totL at h2 ⊢
   simp only [List.map_cons, List.sum_cons, List.length_cons]; omega
 have := key us fun d hd => (numb_bytes h d hd).2.2
 omega
section
variable {g : Nat} {a : Option Addr} {c : Nat} {ts : List Int} {p : Nat} {w : World} {A : Nat -> Prop} {P : World -> Prop}
theorem law22_numbered_ct (hP : Held A w P) (hts : Rolls a ts P) (hB : (dice g a c ts p).ok w) (hn : ∀ b, (dice g a c ts p).at = some b -> ¬ A b) (hp : p <= ts.length) {most : Int} (hm : 0 <= most /\ most <= 100) :
 Calls Tryz.prog N_law22_numbered #[(.pointer (some ⟨g, 0, none⟩)), (.int .i64 most)] w fun e w' => ∃ (L : List BL) (ra : Option Addr) (rc p' : Nat), e = .returned (.slice ra L.length rc) /\ Numb (ds L) /\ (L.length : Int) <= most /\ p' <= ts.length /\
  St A [g] w w' [dice g a c ts p', .els encBL Ty_S_uint8 1 ra rc L] fun w => DaB L w /\ P w := by
 apply F_law22_numbered_ok
 unfold F_law22_numbered
 have H : St A [g] w w [dice g a c ts p] P := St.startM hP hB hn
 refine kW_i64 (by omega) ?_
 refine dNext H (i := 0) rfl hts hp (by omega) fun v p1 w1 _ hv hp1 H1 => ?_
 have hv := hv (by omega)
 obtain ⟨m, rfl⟩ := natOf hv.1
 have H1 := H1.nilE encBL Ty_S_uint8 1
 refine ⟨fun l_a l_l l_c n => (n.toNat, fun w2 => ∃ (k : Nat) (L : List BL) (p2 : Nat), n = k /\ L.length + k = m /\ l_l = L.length /\ Numb (ds L) /\ p2 <= ts.length /\ St A [g] w w2 [dice g a c ts p2, .els encBL Ty_S_uint8 1 l_a l_c L] fun w => DaB L w /\ P w),
  ⟨m, [], p1, rfl, by simp, rfl, fun k h => absurd h (Nat.not_lt_zero _), hp1, H1.imp fun w h => ⟨fun x hx => (by cases hx), h⟩⟩, ?_⟩
 clear H1
 rintro _ l_a l_l l_c n w2 ⟨k, L, p2, rfl, hk, rfl, hL, hp2, H2⟩
 refine bsplit_dec (fun cc => ?_) (fun cc => ?_)
 ·have hts2 : Rolls a ts fun w => DaB L w /\ P w := hts.and _
  have H3 := H2.nilI Ty_uint8 .u8
  simp only [List.cons_append, List.nil_append] at H3
  refine dPut H3 (i := 2) rfl 2 (by decide) (by simp) fun ra rc w3 _ H4 => ?_
  clear H3 H2
  simp only [List.set_cons_succ, List.set_cons_zero, List.nil_append] at H4 ⊢
  refine made_Bytes_ct H4 (i := 0) rfl hts2 hp2 (most := 8) (by omega) fun ra1 rc1 bs p3 w4 hbs hbl hp3 H5 => ?_
  clear H4
  simp only [List.cons_append, List.nil_append, List.set_cons_zero] at H5
  refine H5.appI (i := 2) rfl sl_Ty_S_uint8 (H5.slI (i := 3) rfl) (by simp [putN_len]; omega) (by simp [putN_len]; omega) ?_; intro x_a x_c w5 H6
  clear H5
  simp only [List.set_cons_succ, List.set_cons_zero] at H6
  obtain ⟨d, hd⟩ : ∃ d, d = putN 2 (L.length : Int) ++ bs := ⟨_, rfl⟩
  rw [<- hd] at H6
  rw [<- hd]
  have hcap := H6.capI (i := 2) rfl
  have H7 := H6.shareMI (i := 2) rfl fun b hb => H6.nat (i := 2) (j := 0) rfl rfl (by decide) hb
  clear H6
  simp only [List.set_cons_succ, List.set_cons_zero] at H7
  refine H7.alloc ?_; clear H7; intro b w6 H8
  simp only [List.cons_append, List.nil_append] at H8
  refine H8.appEB encBL_ok (i := 1) (j := 4) rfl [⟨d, x_a, x_c⟩] rfl sl_Ty_S_S_uint8 rfl (by simp; omega) (by simp; omega) ?_; intro x_a1 x_c1 w7 H9
  clear H8
  simp only [List.set_cons_succ, List.set_cons_zero] at H9
  refine kW_i64 (by omega) ?_
  refine ⟨⟨k - 1, L ++ [(⟨d, x_a, x_c⟩ : BL)], p3, by omega, by simp; omega, by simp, ?_, hp3, (St.left (X := [_, _]) H9).imp fun w h => ⟨?_, h.2.2⟩⟩, by omega⟩
  ·intro j hj
   have e : ds (L ++ [⟨d, x_a, x_c⟩]) = ds L ++ [d] := by simp [ds]
   have hdl' : (ds L).length = L.length := by simp [ds]
   simp only [e] at hj ⊢
   rcases Nat.lt_or_ge j (ds L).length with h | h
   ·rw [List.getElem_append_left h]; exact hL j h
   ·have hj2 : j = L.length := by simp at hj; omega
    subst hj2
    refine ⟨bs, ?_, hbs, by omega⟩
    rw [List.getElem_append_right (by omega)]
    simp [hdl', hd]
  ·intro y hy
   rcases List.mem_append.1 hy with hy | hy
   ·exact h.2.1 y hy
   ·obtain rfl : y = ⟨d, x_a, x_c⟩ := by simpa using hy
    exact ⟨h.1, hcap⟩
 ·obtain rfl : k = 0 := by omega
  exact ⟨L, l_a, l_c, p2, rfl, hL, by omega, hp2, H2⟩
theorem made_LinkSteps_ct (hP : Held A w P) (hts : Rolls a ts P) (hB : (dice g a c ts p).ok w) (hn : ∀ b, (dice g a c ts p).at = some b -> ¬ A b) (hp : p <= ts.length) {most : Int} (hm : 0 <= most /\ most <= 400) :
 Calls Tryz.prog N_made_Dice_LinkSteps #[(.pointer (some ⟨g, 0, none⟩)), (.int .i64 most)] w fun e w' => ∃ (L : List (Int × Int)) (ra : Option Addr) (rc p' : Nat), e = .returned (.slice ra L.length rc) /\ (∀ y ∈ L, 0 <= y.2 /\ y.2 <= 100) /\ (L.length : Int) <= most /\ p' <= ts.length /\
  St A [g] w w' [dice g a c ts p', .els encSp Ty_api_Step 2 ra rc L] P := by
 apply F_made_Dice_LinkSteps_ok
 unfold F_made_Dice_LinkSteps
 have H : St A [g] w w [dice g a c ts p] P := St.startM hP hB hn
 refine kW_i64 (by omega) ?_
 refine dNext H (i := 0) rfl hts hp (by omega) fun v p1 w1 _ hv hp1 H1 => ?_
 have hv := hv (by omega)
 obtain ⟨m, rfl⟩ := natOf hv.1
 have H1 := H1.nilE encSp Ty_api_Step 2
 refine ⟨fun l_a l_l l_c n => (n.toNat, fun w2 => ∃ (k : Nat) (L : List (Int × Int)) (p2 : Nat), n = k /\ L.length + k = m /\ l_l = L.length /\ (∀ y ∈ L, 0 <= y.2 /\ y.2 <= 100) /\ p2 <= ts.length /\ St A [g] w w2 [dice g a c ts p2, .els encSp Ty_api_Step 2 l_a l_c L] P),
  ⟨m, [], p1, rfl, by simp, rfl, fun y hy => (by cases hy), hp1, H1⟩, ?_⟩
 clear H1
 rintro _ l_a l_l l_c n w2 ⟨k, L, p2, rfl, hk, rfl, hL, hp2, H2⟩
 refine bsplit_dec (fun cc => ?_) (fun cc => ?_)
 ·refine H2.alloc ?_; clear H2; intro b w3 H3
  simp only [List.cons_append, List.nil_append] at H3
  refine dNext H3 (i := 0) rfl hts hp2 (by omega) fun v1 p3 w4 _ hv1 hp3 H4 => ?_
  clear H3
  have hv1 := hv1 (by omega)
  obtain ⟨j, rfl⟩ := natOf hv1.1
  simp only [List.set_cons_zero] at H4
  have hv2 : ∃ x : Int, ([Value.int .i64 1, .int .i64 2, .int .i64 3, .int .i64 2, .int .i64 3, .int .i64 7, .int .i64 8, .int .i64 11, .int .i64 4, .int .i64 5, .int .i64 10, .int .i64 9, .int .i64 1] : List Value)[j]? = some (.int .i64 x) := by
   rcases (show j = 0 \/ j = 1 \/ j = 2 \/ j = 3 \/ j = 4 \/ j = 5 \/ j = 6 \/ j = 7 \/ j = 8 \/ j = 9 \/ j = 10 \/ j = 11 \/ j = 12 by omega) with rfl | rfl | rfl | rfl | rfl | rfl | rfl | rfl | rfl | rfl | rfl | rfl | rfl <;> exact ⟨_, rfl⟩
  obtain ⟨x, hx⟩ := hv2
  refine ⟨⟨b, 0, none⟩, rfl, ⟨by omega, by omega⟩, ?_⟩
  show kLd w4 (Addr.add ⟨b, 0, none⟩ (((j : Int)).toNat * 1)) _ _
  rw [Int.toNat_natCast, Nat.mul_one, add_mk, Nat.zero_add]
  refine H4.ld (i := 2) rfl hx ?_
  refine ⟨fun at1 w9 => ∃ p4, p4 <= ts.length /\ (0 <= at1 /\ at1 <= 100) /\ St A [g] w w9 [dice g a c ts p4, .els encSp Ty_api_Step 2 l_a l_c L] P, ?_, ?_⟩
  ·rintro _ at1 w9 ⟨p4, hp4, ha, H9⟩
   refine H9.alloc ?_; clear H9; intro b2 w10 H10
   simp only [List.cons_append, List.nil_append] at H10
   refine H10.appEB encSp_ok (i := 1) (j := 2) rfl [(x, at1)] rfl sl_Ty_S_api_Step rfl (by simp; omega) (by simp; omega) ?_; intro x_a x_c w11 H11
   simp only [List.set_cons_succ, List.set_cons_zero] at H11
   refine kW_i64 (by omega) ?_
   refine ⟨⟨k - 1, L ++ [(x, at1)], p4, by omega, by simp; omega, by simp, fun y hy => ?_, hp4, St.left (X := [_, _]) H11⟩, by dsimp only; omega⟩
   rcases List.mem_append.1 hy with hy | hy
   ·exact hL y hy
   ·obtain rfl : y = (x, at1) := by simpa using hy
    exact ha
  ·refine bsplit_dec (fun c3 => ?_) (fun c3 => ?_)
   ·refine dNext H4 (i := 0) rfl hts hp3 (by omega) fun v2 p5 w5 _ hv2 hp5 H5 => ?_
    have hv2 := hv2 (by omega)
    refine kW_i64 (by omega) ?_
    refine made_One_ct H5 (i := 0) rfl hts hp5 (by omega) fun v3 p6 w6 _ hp6 H6 => ?_
    simp only [List.set_cons_zero] at H6
    refine bsplit_intro (fun _ => ?_) (fun _ => ?_)
    ·exact ⟨p6, hp6, by omega, St.left (X := [_, _]) H6⟩
    ·exact ⟨p6, hp6, by omega, St.left (X := [_, _]) H6⟩
   ·refine bsplit_dec (fun c2 => ?_) (fun c2 => ?_)
    ·refine dNext H4 (i := 0) rfl hts hp3 (by omega) fun v2 p5 w5 _ hv2 hp5 H5 => ?_
     have hv2 := hv2 (by omega)
     refine kW_i64 (by omega) ?_
     refine made_One_ct H5 (i := 0) rfl hts hp5 (by omega) fun v3 p6 w6 _ hp6 H6 => ?_
     simp only [List.set_cons_zero] at H6
     refine bsplit_intro (fun _ => ?_) (fun _ => ?_)
     ·exact ⟨p6, hp6, by omega, St.left (X := [_, _]) H6⟩
     ·exact ⟨p6, hp6, by omega, St.left (X := [_, _]) H6⟩
    ·exact ⟨p3, hp3, by omega, St.left (X := [_, _]) H4⟩
 ·obtain rfl : k = 0 := by omega
  exact ⟨L, l_a, l_c, p2, rfl, hL, by omega, hp2, H2⟩
end
section
variable {w : World} {L M : List BL} {a b : Option Addr} {c1 c2 : Nat}
end
end Go.Proofs.YtmbppohkadmjgaaGreat
namespace Go.Proofs.YtmbppohkadmjgaaGreat
open Go.Sx Go.RowKit
set_option maxRecDepth 100000
def RepOk (G : Nat -> Bool) (t : Stt) : Prop := ∀ k : Nat, (k : Int) < t.upto -> (∀ r ∈ t.miss, r.sn ≠ k) -> G k = true
structure Rq (b : Int) (G : Nat -> Bool) (N : Nat) (y : Stt × (Nat -> Bool) × Nat) : Prop where
 ok : okS b y.1
 lo : (y.2.2 : Int) <= y.1.upto
 hi : y.1.upto <= N
 no : y.2.1 y.2.2 = false
 rep : RepOk y.2.1 y.1
 sub : ∀ k, y.2.1 k = true -> G k = true
structure Wq (us : List (List Int)) (b : Int) (N S : Nat) (x : Nat × Pc) : Prop where
 lt : x.1 < S
 ok : x.2.ok b
 sn : x.2.sn = x.1
 pc : Piece x.2 (us.getD x.1 [])
 win : (N : Int) <= x.1 + 2 ^ (b - 1).toNat
structure Onc (us : List (List Int)) (b : Int) (G : Nat -> Bool) (R N S : Nat) (X : List (Nat × Pc)) (L : List (Stt × (Nat -> Bool) × Nat)) (K : List Nat) (p : Pl) : Prop where
 hN : N <= S
 hS : S <= us.length
 s : OkS p.s
 lk : p.s.lk.bits = b
 nx : p.s.next = S
 un : ∀ u ∈ p.s.units, ∃ k : Nat, k < S /\ u.sn = k /\ u.data = us.getD k []
 uq : p.us = us.drop S
 r : p.r.okB = true
 rlk : p.r.lk.bits = b
 rf : p.r.first = R
 rn : p.r.next = N
 rel : Rel b (fun k => us.getD k []) R R p.r.parts G
 g0 : G R = false
 gp : ∀ k, k < R -> G k = true
 gN : ∀ k, G k = true -> k < N
 wy : p.wy = X.map fun x => x.2.bytes
 wq : ∀ x ∈ X, Wq us b N S x
 wp : X.Pairwise fun x y => (x.1 : Int) < y.1 + 2 ^ (b - 1).toNat
 bk : p.bk = L.map fun y => bytesS y.1
 rq : ∀ y ∈ L, Rq b G N y
 rp : L.Pairwise fun x y => ∀ k, x.2.1 k = true -> y.2.1 k = true
 tk : ∀ k : Nat, k < S -> (∃ u ∈ p.s.units, u.sn = k) \/ (G k = true /\ ∀ y ∈ L, y.2.1 k = true)
 ot : p.ot = K.map fun k => us.getD k []
 kn : K.Nodup
 kg : ∀ k, k ∈ K ↔ G k = true
def OncE (us : List (List Int)) (b : Int) (p : Pl) : Prop := ∃ G R N S X L K, Onc us b G R N S X L K p
section
variable {us : List (List Int)} {b : Int} {G : Nat -> Bool} {R N S : Nat} {X : List (Nat × Pc)} {L : List (Stt × (Nat -> Bool) × Nat)} {K : List Nat} {p : Pl}
theorem Onc.low (h : Onc us b G R N S X L K p) (hb : bitsOk b) (hn : (us.length : Int) < 2 ^ b.toNat) :
 ∃ F : Nat, p.s.first = F /\ F <= S /\ (S : Int) <= F + 2 ^ (b - 1).toNat /\ F <= R /\ (∀ y ∈ L, F <= y.2.2) /\ ∀ u ∈ p.s.units, ∀ k : Nat, u.sn = k -> F <= k := by
 have hf := h.s.first
 have hSn : (S : Int) < 2 ^ b.toNat := by have := h.hS; omega
 rw [h.lk] at hf
 unfold snOk at hf
 obtain ⟨F, hF⟩ : ∃ F : Nat, p.s.first = F := ⟨p.s.first.toNat, by omega⟩
 rw [hF] at hf
 have hFS : F <= S := by
  cases hu : p.s.units with
  | nil => have := h.s.nil hu; rw [h.nx, hF] at this; omega
  | cons u l =>
   have h1 := h.s.head u l hu
   obtain ⟨k, h2, h3, -⟩ := h.un u (by rw [hu]; simp)
   omega
 have hpl : p.s.place p.s.next = S - F := by
  unfold Sd.place way
  rw [h.lk, h.nx, hF]
  exact Int.emod_eq_of_lt (by omega) (by omega)
 have hwin := h.s.win
 rw [hpl, h.lk] at hwin
 have hge : ∀ u ∈ p.s.units, ∀ k : Nat, u.sn = k -> F <= k := fun u hu k hk => by
  have h1 := (h.s.all u hu).2
  rw [hpl] at h1
  obtain ⟨k', h2, h3, -⟩ := h.un u hu
  have hkk : k' = k := by omega
  subst hkk
  unfold Sd.place way at h1
  rw [h.lk, hF, hk] at h1
  rcases Nat.lt_or_ge k' F with h4 | h4
  ·have e : ((k' : Int) - F) % 2 ^ b.toNat = (k' : Int) - F + 2 ^ b.toNat := by
    rw [<- Int.add_emod_right]
    exact Int.emod_eq_of_lt (by omega) (by omega)
   rw [e] at h1
   omega
  ·exact h4
 refine ⟨F, hF, hFS, by omega, ?_, ?_, hge⟩
 ·rcases Nat.lt_or_ge R F with h4 | h4
  ·rcases h.tk R (by omega) with ⟨u, hu, hs⟩ | ⟨h5, -⟩
   ·have := hge u hu R hs; omega
   ·rw [h.g0] at h5; cases h5
  ·exact h4
 ·intro y hy
  rcases Nat.lt_or_ge y.2.2 F with h4 | h4
  ·rcases h.tk y.2.2 (by omega) with ⟨u, hu, hs⟩ | ⟨-, h5⟩
   ·have := hge u hu _ hs; omega
   ·have := h5 y hy; rw [(h.rq y hy).no] at this; cases this
  ·exact h4
theorem once_send (h : Onc us b G R N S X L K p) (hn : (us.length : Int) < 2 ^ b.toNat) : OncE us b (sendP p).1 := by
 unfold sendP
 cases hu : p.us with
 | nil => exact ⟨_, _, _, _, _, _, _, h⟩
 | cons d l =>
  dsimp only
  split
  ·rename_i he
   obtain ⟨h1, h2, h3⟩ := sub_ok h.s he
   have e : (subS p.s d (begE p.s)).1 = { p.s with units := p.s.units ++ [⟨p.s.next, d, 0, 0, []⟩], next := (p.s.next + 1) % 2 ^ p.s.lk.bits.toNat } := by
    unfold subS at he ⊢
    split at he
    ·exact absurd he (by assumption)
    ·rename_i c1
     rw [if_neg c1]
     split at he
     ·exact absurd he (by decide)
     ·rename_i c2
      rw [if_neg c2]
      split at he
      ·exact absurd he (by decide)
      ·rename_i c3
       rw [if_neg c3]
   have huq := h.uq
   rw [hu] at huq
   have hlt : S < us.length := by
    rcases Nat.lt_or_ge S us.length with hh | hh
    ·exact hh
    ·rw [List.drop_of_length_le hh] at huq; cases huq
   rw [List.drop_eq_getElem_cons hlt] at huq
   injection huq with hd hl
   have hd2 : d = us.getD S [] := by rw [hd]; simp [List.getD, List.getElem?_eq_getElem hlt]
   have hnx : (subS p.s d (begE p.s)).1.next = ((S + 1 : Nat) : Int) := by
    rw [e]
    show (p.s.next + 1) % 2 ^ p.s.lk.bits.toNat = _
    rw [h.nx, h.lk]
    rw [Int.emod_eq_of_lt (by omega) (by omega)]; omega
   have hun : (subS p.s d (begE p.s)).1.units = p.s.units ++ [⟨p.s.next, d, 0, 0, []⟩] := by rw [e]
   refine ⟨G, R, N, S + 1, X, L, K, ?_⟩
   refine { h with hN := Nat.le_succ_of_le h.hN, hS := hlt, s := h1, lk := by show (subS p.s d (begE p.s)).1.lk.bits = b; rw [h2]; exact h.lk, nx := hnx, un := ?_, uq := hl, wq := ?_, tk := ?_ }
   ·show ∀ u ∈ (subS p.s d (begE p.s)).1.units, _
    rw [hun]
    intro u hm
    rcases List.mem_append.1 hm with hm | hm
    ·obtain ⟨k, a1, a2, a3⟩ := h.un u hm
     exact ⟨k, by omega, a2, a3⟩
    ·obtain rfl : u = ⟨p.s.next, d, 0, 0, []⟩ := by simpa using hm
     exact ⟨S, by omega, h.nx, hd2⟩
   ·intro x hx
    have := h.wq x hx
    exact ⟨by have := this.lt; omega, this.ok, this.sn, this.pc, this.win⟩
   ·show ∀ k : Nat, k < S + 1 -> (∃ u ∈ (subS p.s d (begE p.s)).1.units, u.sn = k) \/ _
    rw [hun]
    intro k hk
    rcases Nat.lt_or_ge k S with h4 | h4
    ·rcases h.tk k h4 with ⟨u, hm, hs⟩ | h5
     ·exact .inl ⟨u, by simp [hm], hs⟩
     ·exact .inr h5
    ·obtain rfl : k = S := by omega
     exact .inl ⟨⟨p.s.next, d, 0, 0, []⟩, by simp, h.nx⟩
  ·exact ⟨_, _, _, _, _, _, _, h⟩
theorem cut_ends {b : Int} {p : Pc} {size : Int} (h : (cutP b p size).2.2 = 0) : ends (cutP b p size).1.part = true ↔ ends p.part = true /\ (cutP b p size).1.data.length = p.data.length := by
 unfold cutP at h ⊢
 split at h
 ·exact absurd h (by decide)
 ·rename_i hp
  rw [if_neg hp]
  split at h
  ·exact absurd h (by decide)
  ·rename_i hs
   rw [if_neg hs]
   split
   ·exact ⟨fun h => ⟨h, rfl⟩, fun h => h.1⟩
   ·have hlen : (p.data.take (size - headN p.part).toNat).length < p.data.length := by rw [List.length_take]; omega
    have : ends (partOf (begins p.part) false) = false := by unfold partOf; cases begins p.part <;> rfl
    show ends (partOf (begins p.part) false) = true ↔ _
    rw [this]
    exact ⟨fun h => (by cases h), fun hh => by have := hh.2; dsimp only at this; omega⟩
theorem build_pc {s : Sd} {size E : Int} (h : OkS s) (he : (buildS s size E).2.2 = 0) : ∃ (k : Nat) (hk : k < s.units.length) (q : Pc), q.ok s.lk.bits /\ (buildS s size E).2.1 = q.bytes /\ q.sn = s.units[k].sn /\ Piece q s.units[k].data /\
 (buildS s size E).1.units = s.units.set k (takeU s.units[k] q.data.length) /\ (buildS s size E).1.next = s.next := by
 obtain ⟨k, hk, q, hl, hq, hc, hb, hqo, hqp, hn, hn2⟩ := build_inv h he
 have ha := cut_at hc
 have hend := cut_ends hc
 rw [<- hq] at ha hend
 have hin := partU_in (h.all _ (List.getElem_mem hk)).1 (leftI_unit hk hl)
 have hpl : (pieceU s.units[k]).data.length = (partU s.units[k]).t.toNat - (partU s.units[k]).f.toNat := by
  show ((s.units[k].data.take _).drop _).length = _
  rw [List.length_drop, List.length_take]; omega
 have hdata : q.data = (s.units[k].data.drop (partU s.units[k]).f.toNat).take q.data.length := by
  have h1 := ha.2.2
  have h2 : (pieceU s.units[k]).data = (s.units[k].data.drop (partU s.units[k]).f.toNat).take ((partU s.units[k]).t.toNat - (partU s.units[k]).f.toNat) := by
   show (s.units[k].data.take _).drop _ = _
   rw [List.drop_take]
  rw [h2, List.take_take, Nat.min_eq_left (by omega)] at h1
  exact h1
 have hpe : ends (pieceU s.units[k]).part = true ↔ (partU s.units[k]).t = s.units[k].data.length := by
  show ends (partOf (decide ((partU s.units[k]).f = 0)) (decide ((partU s.units[k]).t = s.units[k].data.length))) = true ↔ _
  unfold partOf
  by_cases c : (partU s.units[k]).t = s.units[k].data.length
  ·rw [decide_eq_true c]
   refine iff_of_true ?_ c
   split <;> decide
  ·rw [decide_eq_false c]
   refine iff_of_false ?_ c
   split <;> decide
 have hoff : q.off = (partU s.units[k]).f := ha.2.1
 have hP : Piece q s.units[k].data := by
  refine ⟨by omega, hn, by show q.off + (q.data.length : Int) <= _; omega, fun j h1 h2 => ?_, ?_⟩
  ·have h2 : (j : Int) < q.off + q.data.length := h2
   rw [hdata, hoff]
   simp only [List.getD_eq_getElem?_getD]
   rw [List.getElem?_take, if_pos (by omega), List.getElem?_drop]
   congr 2; omega
  ·rw [hend, hpe]
   show _ ↔ q.off + (q.data.length : Int) = _
   omega
 rw [hb]
 have hok2 : Pc.ok s.lk.bits { q with poll := 1 } := ⟨hqo.1, hqo.2.1, hqo.2.2.1, ⟨by show (0 : Int) <= 1; decide, by show (1 : Int) <= 1; decide⟩, hqo.2.2.2.2⟩
 unfold buildT
 dsimp only
 split
 ·exact ⟨k, hk, { q with poll := 1 }, hok2, by rw [encP, if_pos hok2], ha.1, ⟨hP.pos, hP.one, hP.fit, hP.byt, hP.fin⟩, rfl, rfl⟩
 ·exact ⟨k, hk, q, hqo, by rw [encP, if_pos hqo], ha.1, hP, rfl, rfl⟩
theorem set_units {L L' : List Un} (h : L' = L \/ ∃ (k : Nat) (hk : k < L.length) (x : Un), L' = L.set k x /\ x.sn = L[k].sn /\ x.data = L[k].data) :
 (∀ u ∈ L', ∃ v ∈ L, u.sn = v.sn /\ u.data = v.data) /\ ∀ v ∈ L, ∃ u ∈ L', u.sn = v.sn := by
 rcases h with rfl | ⟨k, hk, x, rfl, h1, h2⟩
 ·exact ⟨fun u hu => ⟨u, hu, rfl, rfl⟩, fun v hv => ⟨v, hv, rfl⟩⟩
 ·refine ⟨fun u hu => ?_, fun v hv => ?_⟩
  ·rcases List.mem_or_eq_of_mem_set hu with hu | rfl
   ·exact ⟨u, hu, rfl, rfl⟩
   ·exact ⟨L[k], List.getElem_mem hk, h1, h2⟩
  ·obtain ⟨j, hj, rfl⟩ := List.getElem_of_mem hv
   by_cases hjk : k = j
   ·subst hjk
    exact ⟨x, List.mem_of_getElem? (List.getElem?_set_self hk), h1⟩
   ·exact ⟨L[j], List.mem_of_getElem? (by rw [List.getElem?_set_ne hjk, List.getElem?_eq_getElem hj]), rfl⟩
theorem once_units (h : Onc us b G R N S X L K p) {s' : Sd} (h1 : OkS s') (h2 : s'.lk = p.s.lk) (h3 : s'.next = p.s.next)
 (hu : s'.units = p.s.units \/ ∃ (k : Nat) (hk : k < p.s.units.length) (x : Un), s'.units = p.s.units.set k x /\ x.sn = p.s.units[k].sn /\ x.data = p.s.units[k].data) : Onc us b G R N S X L K { p with s := s' } := by
 obtain ⟨a1, a2⟩ := set_units hu
 refine { h with s := h1, lk := by show s'.lk.bits = b; rw [h2]; exact h.lk, nx := by show s'.next = _; rw [h3]; exact h.nx, un := fun u hm => ?_, tk := fun k hk => ?_ }
 ·obtain ⟨v, hv, e1, e2⟩ := a1 u hm
  rw [e1, e2]; exact h.un v hv
 ·rcases h.tk k hk with ⟨u, hm, hs⟩ | h5
  ·obtain ⟨v, hv, e⟩ := a2 u hm
   exact .inl ⟨v, hv, e.trans hs⟩
  ·exact .inr h5
theorem once_build (h : Onc us b G R N S X L K p) (hb : bitsOk b) (hn : (us.length : Int) < 2 ^ b.toNat) (size : Int) : OncE us b (buildP p size).1 := by
 unfold buildP
 split
 ·rename_i he
  obtain ⟨F, hF, f1, f2, f3, f4, f5⟩ := h.low hb hn
  obtain ⟨g1, g2, g3⟩ := build_ok h.s he
  obtain ⟨k, hk, q, c1, c2, c3, c4, c5, c6⟩ := build_pc h.s he
  obtain ⟨d1, d2⟩ := takeU_data p.s.units[k] q.data.length
  have h1 := once_units h g1 g2 c6 (.inr ⟨k, hk, _, c5, d2.1, d1⟩)
  obtain ⟨m, m1, m2, m3⟩ := h.un _ (List.getElem_mem hk)
  have hFm := f5 _ (List.getElem_mem hk) m m2
  refine ⟨G, R, N, S, X ++ [(m, q)], L, K, ?_⟩
  refine { h1 with wy := ?_, wq := ?_, wp := ?_ }
  ·show p.wy ++ [(buildS p.s size (begE p.s)).2.1] = _
   rw [h.wy, c2, List.map_append]; rfl
  ·intro x hx
   rcases List.mem_append.1 hx with hx | hx
   ·exact h.wq x hx
   ·obtain rfl : x = (m, q) := by simpa using hx
    refine ⟨m1, by rw [<- h.lk]; exact c1, c3.trans m2, by rw [<- m3]; exact c4, ?_⟩
    have := h.hN
    dsimp only; omega
  ·rw [List.pairwise_append]
   refine ⟨h.wp, List.pairwise_singleton _ _, fun x hx y hy => ?_⟩
   obtain rfl : y = (m, q) := by simpa using hy
   have := (h.wq x hx).lt
   dsimp only; omega
 ·exact ⟨_, _, _, _, _, _, _, h⟩
theorem exists_gap {G : Nat -> Bool} {N : Nat} (h : ∀ k, G k = true -> k < N) : ∀ (n R : Nat), N <= R + n -> ∃ d, (∀ k, k < d -> G (R + k) = true) /\ G (R + d) = false
 | 0, R, hn => by
  refine ⟨0, fun k hk => absurd hk (Nat.not_lt_zero _), ?_⟩
  cases hG : G (R + 0) with
  | false => rfl
  | true => have := h _ hG; omega
 | n + 1, R, hn => by
  cases hG : G R with
  | false => exact ⟨0, fun k hk => absurd hk (Nat.not_lt_zero _), hG⟩
  | true =>
   obtain ⟨d, h1, h2⟩ := exists_gap h n (R + 1) (by omega)
   refine ⟨d + 1, fun k hk => ?_, by rw [<- h2]; congr 1; omega⟩
   cases k with
   | zero => exact hG
   | succ k => rw [show R + (k + 1) = R + 1 + k by omega]; exact h1 k (by omega)
theorem once_deliver (h : Onc us b G R N S X L K p) (hb : bitsOk b) (hn : (us.length : Int) < 2 ^ b.toNat) (hu : ∀ d ∈ us, d ≠ []) (keep : Bool) : OncE us b (deliverP p keep) := by
 unfold deliverP
 cases X with
 | nil => rw [h.wy]; exact ⟨_, _, _, _, _, _, _, h⟩
 | cons x X =>
  obtain ⟨k, q⟩ := x
  rw [h.wy]
  simp only [List.map_cons]
  obtain ⟨F, hF, f1, f2, f3, f4, f5⟩ := h.low hb hn
  obtain ⟨w1, w2, w3, w4, w5⟩ := h.wq (k, q) (by simp)
  dsimp only at w1 w2 w3 w4 w5
  have hwp := h.wp
  rw [List.pairwise_cons] at hwp
  have hrok := h.r
  obtain ⟨hc, hup, hf, hm⟩ := ok_iff.1 h.r
  have hSn : (S : Int) < 2 ^ b.toNat := by have := h.hS; omega
  have hNS := h.hN
  have hpw := pow_bits1 hb
  have hokr : (recS p.r q.bytes).1.okB = true := rec_ok h.r fun _ _ => decP_good
  have hRN : R <= N := by
   rcases Nat.lt_or_ge N R with h4 | h4
   ·have := h.gN N (h.gp N h4); omega
   ·exact h4
  have hplace : ∀ m : Nat, R <= m -> (m : Int) < 2 ^ b.toNat -> p.r.place m = m - R := fun m h1 h2 => by
   unfold Rc.place way
   rw [h.rlk, h.rf]
   exact Int.emod_eq_of_lt (by omega) (by omega)
  have hrec : recS p.r q.bytes = if refusedS p.r q ≠ 0 then (pollR p.r q, [], refusedS p.r q) else (pollR (startR (advS (putP p.r q))) q, unitS p.r q, 0) := by
   unfold recS
   rw [if_neg (by rw [hrok]; decide)]
   dsimp only
   rw [h.rlk, decP_bytesP w2, if_neg (by simp)]
  obtain ⟨p1, p2, p3, p4⟩ := pollR_same p.r q
  have keepX : ∀ N' : Nat, N <= N' -> N' <= S -> (N' : Int) <= k + 2 ^ (b - 1).toNat -> (∀ x ∈ X, (N' : Int) <= x.1 + 2 ^ (b - 1).toNat) -> ∃ Y : List (Nat × Pc), (if keep = true then q.bytes :: X.map (fun x => x.2.bytes) else X.map fun x => x.2.bytes) = Y.map (fun x => x.2.bytes) /\ (∀ x ∈ Y, Wq us b N' S x) /\ Y.Pairwise fun x y => (x.1 : Int) < y.1 + 2 ^ (b - 1).toNat := fun N' h1 h1' h2 h3 => by
   have all : ∀ x ∈ (k, q) :: X, Wq us b N' S x := fun x hx => by
    have h4 := h.wq x hx
    refine ⟨h4.lt, h4.ok, h4.sn, h4.pc, ?_⟩
    rcases List.mem_cons.1 hx with rfl | hx
    ·exact h2
    ·exact h3 x hx
   cases keep with
   | true => exact ⟨(k, q) :: X, rfl, all, h.wp⟩
   | false => exact ⟨X, rfl, fun x hx => all x (by simp [hx]), hwp.2⟩

  have same : refusedS p.r q ≠ 0 -> refusedS p.r q ≠ 1 -> OncE us b { p with r := if (recS p.r q.bytes).2.2 = 1 then p.r else (recS p.r q.bytes).1, ot := if (recS p.r q.bytes).2.1 = [] then p.ot else p.ot ++ [(recS p.r q.bytes).2.1], wy := if keep = true then q.bytes :: X.map (fun x => x.2.bytes) else X.map fun x => x.2.bytes } := fun hr1 hr2 => by
   rw [if_pos hr1] at hrec
   obtain ⟨Y, y1, y2, y3⟩ := keepX N (Nat.le_refl _) hNS w5 fun x hx => (h.wq x (by simp [hx])).win
   rw [hrec] at hokr ⊢
   dsimp only at hokr ⊢
   rw [if_neg hr2, if_pos rfl]
   exact ⟨G, R, N, S, Y, L, K, { h with r := hokr, rlk := by show (pollR p.r q).lk.bits = b; rw [p2]; exact h.rlk, rf := by show (pollR p.r q).first = _; rw [p3]; exact h.rf, rn := by show (pollR p.r q).next = _; rw [p4]; exact h.rn, rel := by show Rel _ _ _ _ (pollR p.r q).parts _; rw [p1]; exact h.rel, wy := y1, wq := y2, wp := y3 }⟩
  rcases Nat.lt_or_ge k R with hold | hnew
  ·have hr : refusedS p.r q = 11 := by
    unfold refusedS
    rw [if_pos]
    rw [h.rlk]
    unfold Rc.place way
    rw [h.rlk, h.rf, w3]
    have e : ((k : Int) - R) % 2 ^ b.toNat = (k : Int) - R + 2 ^ b.toNat := by
     rw [<- Int.add_emod_right]
     exact Int.emod_eq_of_lt (by omega) (by omega)
    rw [e]; omega
   exact same (by rw [hr]; decide) (by rw [hr]; decide)
  ·have hpq : p.r.place q.sn = ((k - R : Nat) : Int) := by rw [w3, hplace k hnew (by omega)]; omega
   have hh : p.r.place q.sn < 2 ^ (p.r.lk.bits - 1).toNat := by rw [hpq, h.rlk]; omega
   have hrel : Rel p.r.lk.bits (fun k => us.getD k []) p.r.first R p.r.parts G := by rw [h.rlk, h.rf]; exact h.rel
   have hkk : R + (k - R) = k := by omega
   obtain ⟨a1, a2⟩ := rel_put hc hrel (by rw [h.rlk]; exact w2) hpq hh (by show Piece q (us.getD (R + (k - R)) []); rw [hkk]; exact w4)
   rw [hkk] at a2
   by_cases hr0 : refusedS p.r q = 0
   ·rw [if_neg (by omega)] at hrec
    obtain ⟨hGk, hcase⟩ := a2 hr0
    obtain ⟨G', hG', hput⟩ : ∃ G' : Nat -> Bool, G' = (if unitS p.r q = [] then G else setG G k) /\ Rel p.r.lk.bits (fun k => us.getD k []) p.r.first R (putP p.r q).parts G' := by
     rcases hcase with ⟨c1, c2⟩ | ⟨c1, c2⟩
     ·exact ⟨G, by rw [if_pos c1], c2⟩
     ·refine ⟨setG G k, ?_, c2⟩
      rw [if_neg]
      rw [c1]
      have hkl : k < us.length := by have := h.hS; omega
      have : us.getD k [] = us[k] := by simp [List.getD, List.getElem?_eq_getElem hkl]
      rw [this]
      exact hu _ (List.getElem_mem hkl)
    have hGG : ∀ m, G m = true -> G' m = true := fun m hm => by
     rw [hG']; split
     ·exact hm
     ·unfold setG; split
      ·rfl
      ·exact hm
    obtain ⟨N', hN'⟩ : ∃ N' : Nat, N' = max N (k + 1) := ⟨_, rfl⟩
    have hGN : ∀ m, G' m = true -> m < N' := fun m hm => by
     rw [hG'] at hm
     split at hm
     ·have := h.gN m hm; omega
     ·unfold setG at hm
      split at hm
      ·omega
      ·have := h.gN m hm; omega
    obtain ⟨d, e1, e2⟩ := exists_gap hGN N' R (by omega)
    have hRd : R + d <= N' := by
     rcases Nat.eq_zero_or_pos d with h4 | h4
     ·omega
     ·have := hGN _ (e1 (d - 1) (by omega)); omega
    have hcp := put_core hc (by rw [h.rlk]; exact w2) hr0
    have hfs := hc.f
    obtain ⟨r1, r2⟩ := rel_drop hc.lk.1 d p.r.first R (putP p.r q).parts hput hfs hcp.asc e1 e2
    rw [h.rlk, h.rf] at r1 r2
    have hRdm : ((R : Int) + d) % 2 ^ b.toNat = ((R + d : Nat) : Int) := by rw [Int.emod_eq_of_lt (by omega) (by omega)]; omega
    rw [hRdm] at r1 r2
    obtain ⟨s1, s2, s3, s4, -⟩ := startR_same (advS (putP p.r q))
    obtain ⟨q1, q2, q3, q4⟩ := pollR_same (startR (advS (putP p.r q))) q
    have hfst : (advS (putP p.r q)).first = (dropS p.r.lk.bits p.r.first (putP p.r q).parts).1 := by unfold advS adv2; split <;> rfl
    have hprt : (advS (putP p.r q)).parts = (dropS p.r.lk.bits p.r.first (putP p.r q).parts).2 := advS_parts _
    have hnxt : (advS (putP p.r q)).next = (putP p.r q).next := by unfold advS adv2; split <;> rfl
    have hlk' : (advS (putP p.r q)).lk = p.r.lk := by unfold advS adv2; split <;> rfl
    have hpn : (putP p.r q).next = (N' : Int) := by
     show (if p.r.place q.sn >= p.r.place p.r.next then p.r.behind q.sn else p.r.next) = _
     rw [h.rn, hplace N hRN (by omega), hpq]
     split
     ·unfold Rc.behind
      rw [h.rlk, w3, Int.emod_eq_of_lt (by omega) (by omega)]; omega
     ·omega
    obtain ⟨Y, y1, y2, y3⟩ := keepX N' (by omega) (by omega) (by omega) fun x hx => by
     have h1 := (h.wq x (by simp [hx])).win
     have h2 := hwp.1 x hx
     dsimp only at h2
     omega
    rw [hrec] at hokr ⊢
    dsimp only at hokr ⊢
    rw [if_neg (by decide)]
    refine ⟨G', R + d, N', S, Y, L, if unitS p.r q = [] then K else K ++ [k], ?_⟩
    refine { h with hN := by omega, r := hokr, rlk := ?_, rf := ?_, rn := ?_, rel := ?_, g0 := e2, gp := fun m hm => ?_, gN := hGN, wy := y1, wq := y2, wp := y3, rq := fun y hy => ?_, tk := fun m hm => ?_, ot := ?_, kn := ?_, kg := fun m => ?_ }
    ·show (pollR (startR (advS (putP p.r q))) q).lk.bits = b
     rw [q2, s2, hlk']; exact h.rlk
    ·show (pollR (startR (advS (putP p.r q))) q).first = _
     rw [q3, s3, hfst, h.rlk, h.rf]; exact r1
    ·show (pollR (startR (advS (putP p.r q))) q).next = _
     rw [q4, s4, hnxt]; exact hpn
    ·show Rel _ _ _ _ (pollR (startR (advS (putP p.r q))) q).parts _
     rw [q1, s1, hprt, h.rlk, h.rf]; exact r2
    ·rcases Nat.lt_or_ge m R with h4 | h4
     ·exact hGG m (h.gp m h4)
     ·have := e1 (m - R) (by omega)
      rwa [show R + (m - R) = m by omega] at this
    ·have h4 := h.rq y hy
     exact ⟨h4.ok, h4.lo, by have := h4.hi; omega, h4.no, h4.rep, fun m hm => hGG m (h4.sub m hm)⟩
    ·rcases h.tk m hm with h4 | ⟨h4, h5⟩
     ·exact .inl h4
     ·exact .inr ⟨hGG m h4, h5⟩
    ·show (if unitS p.r q = [] then p.ot else p.ot ++ [unitS p.r q]) = _
     rcases hcase with ⟨c1, -⟩ | ⟨c1, -⟩
     ·rw [if_pos c1, if_pos c1]; exact h.ot
     ·by_cases c : unitS p.r q = []
      ·rw [if_pos c, if_pos c]; exact h.ot
      ·rw [if_neg c, if_neg c, h.ot, c1, List.map_append]; rfl
    ·by_cases c : unitS p.r q = []
     ·rw [if_pos c]; exact h.kn
     ·rw [if_neg c]
      refine List.nodup_append.2 ⟨h.kn, by simp, fun x hx y hy => ?_⟩
      obtain rfl : y = k := by simpa using hy
      rintro rfl
      rw [(h.kg x).1 hx] at hGk; cases hGk
    ·by_cases c : unitS p.r q = []
     ·rw [if_pos c, hG', if_pos c]; exact h.kg m
     ·rw [if_neg c, hG', if_neg c, List.mem_append, h.kg]
      unfold setG
      by_cases hmk : m = k
      ·simp [hmk]
      ·simp [hmk]
   ·exact same hr0 (by rcases a1 with a1 | a1 <;> omega)
theorem once_lose (h : Onc us b G R N S X L K p) : OncE us b (loseP p) := by
 refine ⟨G, R, N, S, X.tail, L, K, { h with wy := ?_, wq := fun x hx => h.wq x (List.mem_of_mem_tail hx), wp := ?_ }⟩
 ·show p.wy.tail = _
  rw [h.wy, List.map_tail]
 ·have := h.wp
  cases X with
  | nil => exact .nil
  | cons x X => exact (List.pairwise_cons.1 this).2
theorem once_loseB (h : Onc us b G R N S X L K p) : OncE us b (loseBP p) := by
 refine ⟨G, R, N, S, X, L.tail, K, { h with bk := ?_, rq := fun y hy => h.rq y (List.mem_of_mem_tail hy), rp := ?_, tk := fun k hk => (h.tk k hk).imp id fun h5 => ⟨h5.1, fun y hy => h5.2 y (List.mem_of_mem_tail hy)⟩ }⟩
 ·show p.bk.tail = _
  rw [h.bk, List.map_tail]
 ·have := h.rp
  cases L with
  | nil => exact .nil
  | cons x L => exact (List.pairwise_cons.1 this).2
theorem gaps_ne {x : Pa} (h : paNum x) (n : Int) : gapsS n x.come 0 (if x.len = -1 then 65535 else x.len) ≠ [] := by
 obtain ⟨h1, h2, h3, -, h5, h6, h7⟩ := h
 obtain ⟨m, hm⟩ : ∃ m, m = (if x.len = -1 then (65535 : Int) else x.len) := ⟨_, rfl⟩
 rw [<- hm]
 have hm2 : (x.len = -1 /\ m = 65535) \/ (x.len ≠ -1 /\ m = x.len) := by
  rw [hm]
  split
  ·exact .inl ⟨by assumption, rfl⟩
  ·exact .inr ⟨by assumption, rfl⟩
 cases hx : x.come with
 | nil => exact absurd hx h2
 | cons r l =>
  rw [hx] at h3 h5
  rw [normB_cons] at h3
  unfold gapsS
  split
  ·simp
  ·rename_i c0
   cases l with
   | nil =>
    unfold gapsS
    have h5 : (x.data.length : Int) = r.t := h5
    split
    ·simp
    ·rename_i c1
     exfalso
     rcases hm2 with ⟨a1, a2⟩ | ⟨a1, a2⟩
     ·omega
     ·have h8 := h1.resolve_left a1
      have : decide (0 < x.len /\ r.f = 0 /\ r.t = x.len) = true := decide_eq_true ⟨by omega, by omega, by omega⟩
      unfold compB at h7
      rw [hx] at h7
      exact absurd (this.symm.trans h7) (by decide)
   | cons y l =>
    have h8 := h3.2
    rw [normB_cons] at h8
    unfold gapsS
    rw [if_pos (by omega)]; simp
theorem miss_nil {s : Rc} {U : Nat -> List Int} {G : Nat -> Bool} {R n : Nat} (hc : Core s) (hR : Rel s.lk.bits U s.first R s.parts G) (hn : s.place n = ((n - R : Nat) : Int)) (hRn : R <= n) (h : missP s n = []) : G n = true := by
 unfold missP at h
 rcases idx_or (fun p : Pa => decide (p.sn = (n : Int))) s.parts with ⟨e, _⟩ | ⟨k, hk, e, h2⟩
 ·rw [e, if_pos (by decide)] at h; cases h
 ·rw [e, if_neg (by omega), Int.toNat_natCast, List.getElem?_eq_getElem hk] at h
  have hsn : s.parts[k].sn = (n : Int) := of_decide_eq_true h2
  obtain ⟨q1, q2, q3⟩ := hR.pts _ (List.getElem_mem hk)
  have hw : way s.lk.bits s.first s.parts[k].sn = ((n - R : Nat) : Int) := by rw [hsn]; exact hn
  rw [hw, Int.toNat_natCast, show R + (n - R) = n by omega] at q2
  cases hd : s.parts[k].done with
  | true => rw [<- q2]; exact hd
  | false =>
   exfalso
   have hpb := (hc.all _ (List.getElem_mem hk)).1
   unfold paB at hpb
   rw [hd] at hpb
   simp only [Bool.false_eq_true, if_false, Bool.and_eq_true, decide_eq_true_eq] at hpb
   unfold missO at h
   simp only [hd, Bool.false_eq_true, if_false] at h
   exact gaps_ne hpb.1 _ h
theorem stat_num {s : Rc} {U : Nat -> List Int} {G : Nat -> Bool} {R T : Nat} (hc : Core s) (hR : Rel s.lk.bits U s.first R s.parts G) (hf : s.first = R) (hT : s.upto = T) (hTb : (T : Int) < 2 ^ s.lk.bits.toNat) : ∀ (k n : Nat) (O : List Rg), n + k = T -> R <= n ->
 (∀ r ∈ O, ∃ m : Nat, r.sn = m /\ R <= m /\ m < n) -> (∀ m : Nat, R <= m -> m < n -> (∀ r ∈ O, r.sn ≠ m) -> G m = true) ->
 ∃ V : Nat, (statS s k n O).upto = V /\ R <= V /\ V <= T /\ (∀ r ∈ (statS s k n O).miss, ∃ m : Nat, r.sn = m /\ R <= m /\ m < V) /\ ∀ m : Nat, R <= m -> m < V -> (∀ r ∈ (statS s k n O).miss, r.sn ≠ m) -> G m = true
 | 0, n, O, hk, hRn, h1, h2 => ⟨T, hT, by omega, Nat.le_refl _, by rw [show T = n by omega]; exact h1, by rw [show T = n by omega]; exact h2⟩
 | k + 1, n, O, hk, hRn, h1, h2 => by
  unfold statS
  split
  ·exact ⟨n, rfl, hRn, by omega, h1, h2⟩
  ·have hsn : snOk s.lk.bits (n : Int) := ⟨by omega, by omega⟩
   have hpl : s.place (n : Int) = ((n - R : Nat) : Int) := by
    unfold Rc.place way
    rw [hf, Int.emod_eq_of_lt (by omega) (by omega)]; omega
   have hbe : s.behind (n : Int) = ((n + 1 : Nat) : Int) := by
    unfold Rc.behind
    rw [Int.emod_eq_of_lt (by omega) (by omega)]; omega
   have hms := (miss_chP hc hsn).2
   rw [hbe]
   refine stat_num hc hR hf hT hTb k (n + 1) _ (by omega) (by omega) (fun r hr => ?_) fun m hm1 hm2 hno => ?_
   ·rcases List.mem_append.1 hr with hr | hr
    ·obtain ⟨m, e, a1, a2⟩ := h1 r hr
     exact ⟨m, e, a1, by omega⟩
    ·exact ⟨n, hms r hr, hRn, by omega⟩
   ·rcases Nat.lt_or_ge m n with h4 | h4
    ·exact h2 m hm1 h4 fun r hr => hno r (by simp [hr])
    ·obtain rfl : m = n := by omega
     refine miss_nil hc hR hpl hRn ?_
     cases hM : missP s (m : Int) with
     | nil => rfl
     | cons r l =>
      exact absurd (hms r (by rw [hM]; simp)) (hno r (by rw [hM]; simp))
theorem once_report (h : Onc us b G R N S X L K p) (hb : bitsOk b) (hn : (us.length : Int) < 2 ^ b.toNat) (size : Int) : OncE us b (reportP p size) := by
 unfold reportP
 split
 ·rename_i he
  obtain ⟨e1, e2⟩ := Go.Sx.rep_ok h.r he
  obtain ⟨hc, hup, hf, hm⟩ := ok_iff.1 h.r
  have hSn : (S : Int) < 2 ^ b.toNat := by have := h.hS; omega
  have hNS := h.hN
  have hRN : R <= N := by
   rcases Nat.lt_or_ge N R with h4 | h4
   ·have := h.gN N (h.gp N h4); omega
   ·exact h4
  have hrel : Rel p.r.lk.bits (fun k => us.getD k []) p.r.first R p.r.parts G := by rw [h.rlk, h.rf]; exact h.rel

  obtain ⟨T, hT, hRT, hTN⟩ : ∃ T : Nat, p.r.upto = T /\ R <= T /\ T <= N := by
   have hu := hc.u
   rw [h.rlk] at hu
   unfold snOk at hu
   have hpn : p.r.place p.r.next = N - R := by
    unfold Rc.place way
    rw [h.rlk, h.rf, h.rn]
    exact Int.emod_eq_of_lt (by omega) (by omega)
   rw [hpn] at hup
   obtain ⟨T, hT⟩ : ∃ T : Nat, p.r.upto = T := ⟨p.r.upto.toNat, by omega⟩
   rw [hT] at hup hu
   unfold Rc.place way at hup
   rw [h.rlk, h.rf] at hup
   rcases Nat.lt_or_ge T R with h4 | h4
   ·have e : ((T : Int) - R) % 2 ^ b.toNat = (T : Int) - R + 2 ^ b.toNat := by
     rw [<- Int.add_emod_right]
     exact Int.emod_eq_of_lt (by omega) (by omega)
    rw [e] at hup; omega
   ·rw [Int.emod_eq_of_lt (by omega) (by omega)] at hup
    exact ⟨T, hT, h4, by omega⟩
  have hplT : (p.r.place p.r.upto).toNat = T - R := by
   unfold Rc.place way
   rw [h.rlk, h.rf, hT, Int.emod_eq_of_lt (by omega) (by omega)]; omega
  have hstat : (statR p.r).1 = statS p.r (T - R) R [] := by
   unfold statR
   rw [if_neg (by rw [h.r]; decide), hplT, h.rf]
  obtain ⟨V, v1, v2, v3, v4, v5⟩ := stat_num hc hrel h.rf hT (by rw [h.rlk]; omega) (T - R) R [] (by omega) (Nat.le_refl _) (fun r hr => by simp at hr) (fun m h1 h2 => by omega)
  have hso := statR_ok h.r
  rw [h.rlk] at hso
  rw [<- hstat] at v1 v4 v5
  obtain ⟨t, ht⟩ : ∃ t, t = (statR p.r).1 := ⟨_, rfl⟩
  rw [<- ht] at v1 v4 v5 hso

  have hbytes : ∃ Z : Stt, okS b Z /\ (repR p.r size).2.1 = bytesS Z /\ ∃ V' : Nat, Z.upto = V' /\ R <= V' /\ V' <= N /\ ∀ m : Nat, R <= m -> m < V' -> (∀ r ∈ Z.miss, r.sn ≠ m) -> G m = true := by
   unfold repR at he ⊢
   rw [if_neg (by rw [h.r]; decide)] at he ⊢
   by_cases h2 : size < 0 \/ size > 4096
   ·rw [if_pos h2] at he; cases he
   rw [if_neg h2] at he ⊢
   by_cases h3 : p.r.due = false \/ p.r.quiet > 0
   ·rw [if_pos h3] at he; cases he
   rw [if_neg h3] at he ⊢
   dsimp only at he ⊢
   rw [h.rlk, <- ht] at he ⊢
   by_cases h4 : (fitR b t size).2 ≠ 0
   ·rw [if_pos h4] at he; exact absurd he h4
   rw [if_neg h4]
   dsimp only
   have hsz : ¬ size < 3 := fun c => h4 (by
    unfold fitR
    rw [if_neg (fun k => k hso), if_pos c]; decide)
   have hfit : (fitR b t size).1 = fitS size t.upto t.miss 0 3 0 none t.miss := by
    unfold fitR
    rw [if_neg (fun k => k hso), if_neg hsz]
   rw [hfit]
   obtain ⟨z1, -, z3⟩ := fits_law (b := b) (sp := size) (u := t.upto) (L := t.miss) hso (by omega) rfl
   refine ⟨_, z1, by rw [encS, if_pos z1], ?_⟩
   rcases z3 with z3 | ⟨i, hi, z3, -, -, -⟩
   ·rw [z3]
    exact ⟨V, v1, v2, by omega, v5⟩
   ·rw [z3]
    obtain ⟨m0, g1, g2, g3⟩ := v4 _ (List.getElem_mem hi)
    refine ⟨m0, g1, g2, by omega, fun m hm1 hm2 hno => v5 m hm1 (by omega) fun r hr => ?_⟩
    obtain ⟨j, hj, rfl⟩ := List.getElem_of_mem hr
    intro hjm
    rcases Nat.lt_or_ge j i with h5 | h5
    ·refine hno t.miss[j] ?_ hjm
     exact List.mem_take_iff_getElem.2 ⟨j, by omega, rfl⟩
    ·have hmo := chain_mono hso.2.2.2 (j - i) i (by omega)
     have hij : i + (j - i) = j := by omega
     simp only [hij] at hmo
     rw [hjm, g1, v1] at hmo
     unfold way at hmo
     rw [Int.emod_eq_of_lt (by omega) (by omega), Int.emod_eq_of_lt (by omega) (by omega)] at hmo
     omega
  obtain ⟨Z, z1, z2, V', z3, z4, z5, z6⟩ := hbytes
  have hZ : RepOk G Z := fun k hk hno => by
   rcases Nat.lt_or_ge k R with h4 | h4
   ·exact h.gp k h4
   ·exact z6 k h4 (by omega) hno
  refine ⟨G, R, N, S, X, L ++ [(Z, G, R)], K, ?_⟩
  have hre : (repR p.r size).1.lk = p.r.lk /\ (repR p.r size).1.first = p.r.first /\ (repR p.r size).1.next = p.r.next /\ (repR p.r size).1.parts = p.r.parts := by rw [e1]; exact ⟨rfl, rfl, rfl, rfl⟩
  refine { h with r := e2, rlk := by show (repR p.r size).1.lk.bits = b; rw [hre.1]; exact h.rlk, rf := by show (repR p.r size).1.first = _; rw [hre.2.1]; exact h.rf, rn := by show (repR p.r size).1.next = _; rw [hre.2.2.1]; exact h.rn, rel := by show Rel _ _ _ _ (repR p.r size).1.parts _; rw [hre.2.2.2]; exact h.rel, bk := ?_, rq := fun y hy => ?_, rp := ?_, tk := fun k hk => ?_ }
  ·show p.bk ++ [(repR p.r size).2.1] = _
   rw [h.bk, z2, List.map_append]; rfl
  ·rcases List.mem_append.1 hy with hy | hy
   ·exact h.rq y hy
   ·obtain rfl : y = (Z, G, R) := by simpa using hy
    exact ⟨z1, by dsimp only; omega, by dsimp only; omega, h.g0, hZ, fun _ h => h⟩
  ·rw [List.pairwise_append]
   refine ⟨h.rp, List.pairwise_singleton _ _, fun x hx y hy => ?_⟩
   obtain rfl : y = (Z, G, R) := by simpa using hy
   exact (h.rq x hx).sub
  ·refine (h.tk k hk).imp id fun h5 => ⟨h5.1, fun y hy => ?_⟩
   rcases List.mem_append.1 hy with hy | hy
   ·exact h5.2 y hy
   ·obtain rfl : y = (Z, G, R) := by simpa using hy
    exact h5.1
 ·exact ⟨_, _, _, _, _, _, _, h⟩
theorem repU_none {s : Sd} {upto : Int} {M : List Rg} {u : Un} (h : repU s upto M u = none) : s.place u.sn < upto /\ (missS u M).2 = false := by
 unfold repU at h
 split at h
 ·cases h
 ·split at h
  ·cases h
  ·rename_i h1 h2
   exact ⟨by omega, by simpa using h2⟩
theorem once_answer (h : Onc us b G R N S X L K p) (hb : bitsOk b) (hn : (us.length : Int) < 2 ^ b.toNat) (keep : Bool) : OncE us b (answerP p keep) := by
 unfold answerP
 cases L with
 | nil => rw [h.bk]; exact ⟨_, _, _, _, _, _, _, h⟩
 | cons y L =>
  rw [h.bk]
  simp only [List.map_cons]
  obtain ⟨F, hF, f1, f2, f3, f4, f5⟩ := h.low hb hn
  have hy := h.rq y (by simp)
  have hSn : (S : Int) < 2 ^ b.toNat := by have := h.hS; omega
  have hNS := h.hN
  have hrp := h.rp
  rw [List.pairwise_cons] at hrp
  have hFy := f4 y (by simp)

  obtain ⟨L', l1, l2, l3⟩ : ∃ L' : List (Stt × (Nat -> Bool) × Nat), (if keep = true then bytesS y.1 :: L.map (fun y => bytesS y.1) else L.map fun y => bytesS y.1) = L'.map (fun y => bytesS y.1) /\ (∀ z ∈ L', z ∈ y :: L) /\ L'.Pairwise fun x y => ∀ k, x.2.1 k = true -> y.2.1 k = true := by
   cases keep with
   | true => exact ⟨y :: L, rfl, fun z hz => hz, h.rp⟩
   | false => exact ⟨L, rfl, fun z hz => by simp [hz], hrp.2⟩
  have hgrow : ∀ k, y.2.1 k = true -> ∀ z ∈ y :: L, z.2.1 k = true := fun k hk z hz => by
   rcases List.mem_cons.1 hz with rfl | hz
   ·exact hk
   ·exact hrp.1 z hz k hk
  unfold answerS
  split
  ·rename_i he
   have hd : (decS p.s.lk.bits (bytesS y.1)).1 = y.1 := by rw [h.lk, decS_encS hy.ok]
   rw [hd] at he ⊢
   obtain ⟨g1, g2, g3, g4, g5, g6⟩ := rep_okD h.s he.2
   have hnx : (repS p.s y.1).1.next = p.s.next := by
    have he2 := he.2
    unfold repS at he2 ⊢
    split at he2
    ·cases he2
    ·rename_i c1
     rw [if_neg c1]
     split at he2
     ·cases he2
     ·rename_i c2
      rw [if_neg c2]
      split at he2
      ·cases he2
      ·rename_i c3
       rw [if_neg c3]; rfl
   refine ⟨G, R, N, S, X, L', K, ?_⟩
   refine { h with s := g1, lk := by show (repS p.s y.1).1.lk.bits = b; rw [g2]; exact h.lk, nx := by show (repS p.s y.1).1.next = _; rw [hnx]; exact h.nx, un := ?_, bk := l1, rq := fun z hz => h.rq z (l2 z hz), rp := l3, tk := ?_ }
   ·show ∀ u ∈ (repS p.s y.1).1.units, _
    rw [g3]
    intro u hu
    obtain ⟨v, hv, hg⟩ := List.mem_filterMap.1 hu
    obtain ⟨b1, b2, -, -⟩ := repU_some hg
    rw [b1, b2]; exact h.un v hv
   ·show ∀ k : Nat, k < S -> (∃ u ∈ (repS p.s y.1).1.units, u.sn = k) \/ _
    rw [g3]
    intro k hk
    rcases h.tk k hk with ⟨u, hu, hs⟩ | ⟨h5, h6⟩
    ·cases hg : repU p.s (p.s.place y.1.upto) y.1.miss u with
     | some v => exact .inl ⟨v, List.mem_filterMap.2 ⟨u, hu, hg⟩, (repU_some hg).1.trans hs⟩
     | none =>
      right
      obtain ⟨n1, n2⟩ := repU_none hg
      have hFk := f5 u hu k hs
      have hup := hy.ok.2.1
      have hlo := hy.lo
      unfold Sd.place way at n1
      rw [h.lk, hF, hs, Int.emod_eq_of_lt (by omega) (by omega), Int.emod_eq_of_lt (by omega) (by omega)] at n1
      have hyk : y.2.1 k = true := by
       refine hy.rep k (by omega) fun r hr hrk => ?_
       rw [missS_map] at n2
       have := List.any_eq_false.1 n2 r hr
       exact this (decide_eq_true (hrk.trans hs.symm))
      exact ⟨hy.sub k hyk, fun z hz => hgrow k hyk z (l2 z hz)⟩
    ·exact .inr ⟨h5, fun z hz => h6 z (l2 z hz)⟩
  ·refine ⟨G, R, N, S, X, L', K, { h with bk := l1, rq := fun z hz => h.rq z (l2 z hz), rp := l3, tk := fun k hk => (h.tk k hk).imp id fun h5 => ⟨h5.1, fun z hz => h5.2 z (l2 z hz)⟩ }⟩
theorem tick_form {s : Sd} {E : Int} (he : (tickS s E).2 = 0) : (tickS s E).1.next = s.next /\ ((tickS s E).1.units = s.units \/ ∃ (k : Nat) (hk : k < s.units.length) (x : Un), (tickS s E).1.units = s.units.set k x /\ x.sn = s.units[k].sn /\ x.data = s.units[k].data) := by
 unfold tickS at he ⊢
 split at he
 ·exact absurd he (by assumption)
 ·rename_i c1
  rw [if_neg c1]
  split
  ·exact ⟨rfl, .inl rfl⟩
  ·split
   ·exact ⟨rfl, .inl rfl⟩
   ·dsimp only
    unfold tickT
    split
    ·exact ⟨rfl, .inl rfl⟩
    ·unfold lastS
     dsimp only
     split
     ·exact ⟨rfl, .inl rfl⟩
     ·rename_i u hu
      obtain ⟨hk, hku⟩ := List.getElem?_eq_some_iff.1 hu
      split
      ·exact ⟨rfl, .inr ⟨_, hk, _, rfl, by rw [hku]; rfl, by rw [hku]; rfl⟩⟩
      ·exact ⟨rfl, .inr ⟨_, hk, _, rfl, by rw [hku]; rfl, by rw [hku]; rfl⟩⟩
theorem tickRc_form (s : Rc) (he : (tickRc s).2 = 0) : (tickRc s).1.lk = s.lk /\ (tickRc s).1.first = s.first /\ (tickRc s).1.next = s.next /\ (tickRc s).1.parts = s.parts := by
 unfold tickRc at he ⊢
 split at he
 ·cases he
 ·rename_i c1
  rw [if_neg c1]
  dsimp only
  split
  ·exact ⟨rfl, rfl, rfl, rfl⟩
  ·unfold tick2
   split
   ·exact ⟨rfl, rfl, rfl, rfl⟩
   ·obtain ⟨a1, a2, a3, a4, -⟩ := startR_same { tick1 s with left := s.left - 1, upto := if Rc.place { tick1 s with left := s.left - 1 } s.mark > Rc.place { tick1 s with left := s.left - 1 } s.upto then s.mark else s.upto, due := true, mark := -1 }
    exact ⟨a2, a3, a4, a1⟩
theorem once_tick (h : Onc us b G R N S X L K p) : OncE us b (tickP p) := by
 unfold tickP
 have h1 : Onc us b G R N S X L K { p with s := if (tickS p.s (begE p.s)).2 = 0 then (tickS p.s (begE p.s)).1 else p.s } := by
  split
  ·rename_i he
   obtain ⟨a1, a2⟩ := tick_form he
   obtain ⟨b1, b2⟩ := tick_okD h.s he
   exact once_units h b1 b2 a1 a2
  ·exact h
 refine ⟨G, R, N, S, X, L, K, ?_⟩
 by_cases he : (tickRc p.r).2 = 0
 ·obtain ⟨a1, a2, a3, a4⟩ := tickRc_form p.r he
  rw [if_pos he]
  refine { h1 with r := Go.Sx.tick_ok h.r, rlk := by show (tickRc p.r).1.lk.bits = b; rw [a1]; exact h.rlk, rf := by show (tickRc p.r).1.first = _; rw [a2]; exact h.rf, rn := by show (tickRc p.r).1.next = _; rw [a3]; exact h.rn, rel := by show Rel _ _ _ _ (tickRc p.r).1.parts _; rw [a4]; exact h.rel }
 ·rw [if_neg he]; exact h1
theorem once_step (h : OncE us b p) (hb : bitsOk b) (hn : (us.length : Int) < 2 ^ b.toNat) (hu : ∀ d ∈ us, d ≠ []) (k a : Int) : OncE us b (stepP p k a) := by
 have h0 := h
 obtain ⟨G, R, N, S, X, L, K, h⟩ := h
 unfold stepP
 split
 ·exact once_send h hn
 ·split
  ·exact once_build h hb hn a
  ·split
   ·exact once_deliver h hb hn hu _
   ·split
    ·exact once_deliver h hb hn hu _
    ·split
     ·exact once_lose h
     ·split
      ·exact once_report h hb hn a
      ·split
       ·exact once_answer h hb hn _
       ·split
        ·exact once_answer h hb hn _
        ·split
         ·exact once_loseB h
         ·split
          ·exact once_tick h
          ·exact h0
theorem once_start {l : Lk} (hl : lkOk l) (us : List (List Int)) : OncE us l.bits (startP l us) := by
 have h0 : snOk l.bits 0 := by
  unfold snOk
  rcases pow_bits hl.1 with h | h | h | h | h <;> rw [h] <;> omega
 exact ⟨fun _ => false, 0, 0, 0, [], [], [], ⟨Nat.le_refl _, Nat.zero_le _, new_okD hl h0, rfl, rfl, fun u hu => by simp [startP] at hu, rfl, Go.Sx.new_ok hl h0, rfl, rfl, rfl, rel_new _ _, rfl, fun k hk => absurd hk (Nat.not_lt_zero _), fun k hk => (by cases hk), rfl, fun x hx => by simp at hx, .nil, rfl, fun x hx => by simp at hx, .nil, fun k hk => absurd hk (Nat.not_lt_zero _), rfl, .nil, fun k => by simp⟩⟩
theorem once_all {l : Lk} (hl : lkOk l) {us : List (List Int)} (hn : (us.length : Int) < 2 ^ l.bits.toNat) (hu : ∀ d ∈ us, d ≠ []) (ST : List (Int × Int)) : OncE us l.bits (stepsP (startP l us) ST) := by
 have key : ∀ (ST : List (Int × Int)) (p : Pl), OncE us l.bits p -> OncE us l.bits (stepsP p ST) := by
  intro ST
  induction ST with
  | nil => intro p h; exact h
  | cons y ST ih => intro p h; exact ih _ (once_step h hl.1 hn hu _ _)
 exact key ST _ (once_start hl us)
end
end Go.Proofs.YtmbppohkadmjgaaGreat
namespace Go.Proofs.YtmbppohkadmjgaaGreat
open Go.Sx Go.RowKit
set_option maxRecDepth 100000
theorem _root_.Go.Sx.St.makeBo {A0 : Nat -> Prop} {M : List Nat} {w0 w : World} {R : List Res} {P : World -> Prop} (H : St A0 M w0 w R P) {by_ : Nat} {l cc : Int} {t : TypeId} {F : Nat -> World -> Prop} (n : Nat) (hl : l = n) (hc : cc = n) (hb : (by_ : Int) * n <= 281474976710656) (hn : n <= 4611686018427387904)
 (h : ∀ b w', St A0 M w0 w' (R ++ [.blk b t ((List.replicate n false).map Value.bool)]) P -> F b w') : kMake w by_ l cc #[.bool false] 1 t F := by
 subst hl; subst hc
 refine ⟨⟨by omega, by omega, hb, by omega⟩, ?_⟩
 have e : (madeCells #[.bool false] ((n : Int).toNat * 1)).toList = (List.replicate n false).map Value.bool := by
  simp only [madeCells, Int.toNat_natCast, Nat.mul_one]
  apply List.ext_getElem
  ·simp
  ·intro i h1 h2
   simp [Nat.mod_one]
 refine (show kAlloc w (madeCells #[.bool false] ((n : Int).toNat * 1)) t F from H.alloc fun b w' H' => ?_)
 rw [e] at H'
 exact h b w' H'
def bo (B : List Bool) (k : Nat) : Bool := B.getD k false
theorem bo_set {B : List Bool} {c : Nat} (hc : c < B.length) (k : Nat) : bo (B.set c true) k = if k = c then true else bo B k := by
 unfold bo
 by_cases h : k = c
 ·subst h; rw [if_pos rfl]; simp [List.getD, hc]
 ·rw [if_neg h]; simp [List.getD, List.getElem?_set_ne (Ne.symm h)]
theorem bo_no (n k : Nat) : bo (List.replicate n false) k = false := by
 unfold bo
 simp only [List.getD_eq_getElem?_getD, List.getElem?_replicate]
 split <;> rfl
theorem bo_at {B : List Bool} {k : Nat} (hk : k < B.length) : (B.map Value.bool)[k]? = some (.bool (bo B k)) := by
 rw [List.getElem?_map, List.getElem?_eq_getElem hk]
 unfold bo
 simp [List.getD, List.getElem?_eq_getElem hk]
theorem bo_map (B : List Bool) (c : Nat) : (B.map Value.bool).set c (.bool true) = (B.set c true).map Value.bool := by rw [List.map_set]
theorem getN_put2 {k : Nat} (hk : k < 65536) (bs : List Int) : getN (((putN 2 (k : Int) ++ bs).drop 0).take 2) = k := by
 have e : ((putN 2 (k : Int) ++ bs).drop 0).take 2 = [(k : Int) / 2 ^ (8 * 1) % 256, (k : Int) / 2 ^ (8 * 0) % 256] := rfl
 rw [e]
 unfold getN
 simp only [List.foldl_cons, List.foldl_nil]
 rw [show (2 : Int) ^ (8 * 1) = 256 from rfl, show (2 : Int) ^ (8 * 0) = 1 from rfl, Int.ediv_one]
 omega
theorem numb_at {us : List (List Int)} (h : Numb us) {k : Nat} (hk : k < us.length) (hn : us.length <= 1000) : 2 <= (us.getD k []).length /\ (us.getD k []).length <= 10 /\ Bytes (us.getD k []) /\ getN (((us.getD k []).drop 0).take 2) = k := by
 have e : us.getD k [] = us[k] := by simp [List.getD, List.getElem?_eq_getElem hk]
 rw [e]
 have h1 := numb_bytes h _ (List.getElem_mem hk)
 obtain ⟨bs, h2, -, -⟩ := h k hk
 exact ⟨h1.2.1, h1.2.2, h1.1, by rw [h2]; exact getN_put2 (by omega) bs⟩
theorem nodup_len : ∀ (n : Nat) (K : List Nat), K.Nodup -> (∀ k ∈ K, k < n) -> K.length <= n
 | 0, K, _, h => by
  cases K with
  | nil => exact Nat.le_refl _
  | cons x K => exact absurd (h x (by simp)) (Nat.not_lt_zero _)
 | n + 1, K, hK, h => by
  by_cases hn : n ∈ K
  ·have h1 := nodup_len n (K.erase n) (hK.erase n) fun k hk => by
    have h2 := (hK.mem_erase_iff).1 hk
    have := h k h2.2
    have := h2.1
    omega
   rw [List.length_erase_of_mem hn] at h1
   omega
  ·have := nodup_len n K hK fun k hk => by
    have h1 := h k hk
    have : k ≠ n := fun e => hn (e ▸ hk)
    omega
   omega
theorem law22_AmlinkOnce_ct {ta : Option Addr} {tc : Nat} {ts : List Int} {w : World} (hts : SlR (IntC .i64) 1 w ta ts) :
 Calls Tryz.prog N_law22_AmlinkOnce #[(.slice ta ts.length tc)] w fun e w' => e = .returned (.bool true) /\ Below w.heap.size w w' := by
 apply F_law22_AmlinkOnce_ok
 unfold F_law22_AmlinkOnce
 have H := (St.startA w).hold (slr_held hts)
 refine made_Light_ct.mono ?_
 rintro _ w1 ⟨rfl, hb1⟩; have H1 := H.pass hb1; clear H
 refine ⟨_, rfl, ?_⟩
 refine bsplit_nd (fun c16 => ?_) (fun c16 => ?_)
 ·refine law22_awake_ct.mono ?_
  rintro _ w2 ⟨rfl, hb2⟩; have H2 := H1.pass hb2; clear H1
  exact ⟨_, rfl, rfl, H2.below⟩
 refine made_Roll_ct.mono ?_
 rintro _ w3 ⟨g, rfl, K⟩; have H3 := H1.callR K; clear H1 K
 simp only [List.nil_append] at H3
 have hR0 : Rolls ta ts fun w => SlR (IntC .i64) 1 w ta ts /\ True := ⟨fun _ h => h.1, by omega⟩
 refine ⟨_, rfl, ?_⟩
 obtain ⟨A', hA', hn', hr', hc⟩ := H3.callM (i := 0) rfl
 refine (law22_numbered_ct hA' hR0 hr' hn' (Nat.zero_le _) (most := 25) (by decide)).mono ?_
 rintro _ w4 ⟨L, ra, rc, p1, rfl, hL, hLn, hp1, K⟩
 have H4 := (hc K).imp (Q := fun w' => DaB L w' /\ SlR (IntC .i64) 1 w' ta ts /\ True) fun w' h => ⟨h.1.1, h.2⟩
 clear hc K hA' hn' hr' H3
 simp only [List.set_cons_zero, List.cons_append, List.nil_append] at H4
 refine ⟨_, _, _, rfl, ?_⟩
 have hlen : (ds L).length = L.length := by simp [ds]
 have hsz := numb_bytes hL
 obtain ⟨A', hA', hn', hr', hc⟩ := H4.callM (i := 0) rfl
 refine (made_Link_ct hA' (hR0.and _) hr' hn' hp1).mono ?_
 rintro _ w5 ⟨l, p2, rfl, hl, hp2, K⟩
 have H5 := (hc K).imp fun _ h => h.2
 clear hc K hA' hn' hr' H4
 simp only [List.set_cons_zero, List.append_nil] at H5
 refine ⟨_, _, _, _, _, _, rfl, ?_⟩
 obtain ⟨A', hA', hn', hr', hc⟩ := H5.callM (i := 0) rfl
 refine (made_LinkSteps_ct hA' (hR0.and _) hr' hn' hp2 (most := 300) (by decide)).mono ?_
 rintro _ w6 ⟨ST, sta, stc, p3, rfl, hST, hSTn, hp3, K⟩
 have H6 := (hc K).imp fun _ h => h.2
 clear hc K hA' hn' hr' H5
 simp only [List.set_cons_zero, List.cons_append, List.nil_append] at H6
 refine ⟨_, _, _, rfl, ?_⟩
 have H6 := H6.shareE encBL_ok (i := 1) rfl
 have H6 := H6.shareE encSp_ok (i := 2) rfl
 simp only [List.set_cons_succ, List.set_cons_zero] at H6

 have hI0 : IvP (startP l (ds L)) := iv_start hl (fun d hd => (hsz d hd).1) (by have := numb_tot hL (n := 25) (by omega); omega)
 obtain ⟨Z, hZ⟩ : ∃ Z, Z = stepsP (startP l (ds L)) ST := ⟨_, rfl⟩
 have hpw := pow_bits hl.1
 have hne : ∀ d ∈ ds L, d ≠ [] := fun d hd e => by have := (hsz d hd).2.1; rw [e] at this; simp at this
 obtain ⟨G, R, N, S, X, Q, K, hO⟩ := once_all hl (us := ds L) (by omega) hne ST
 rw [<- hZ] at hO
 obtain ⟨A, hA, hc⟩ := H6.call
 have hQ : Held A w6 fun w => QL L ra w /\ SlR (CE encSp) 2 w sta ST := hA.mono fun w h => ⟨⟨h.2.1, h.2.2.1⟩, h.1⟩
 refine (amlink_Run_ct (l := l) (U := L) (uc := rc) (stc := stc) (ST := ST) (I := IvP) hl hQ (by
  rw [List.any_eq_false]
  intro y hy
  have := hsz y.d (List.mem_map.2 ⟨y, hy, rfl⟩)
  unfold wrongB
  rw [decide_eq_false (by omega), decide_eq_false (by omega)]
  decide) (by omega) (by omega) (fun y hy => by have := hST y hy; omega) (fun p h => iv_fits h) (fun p k a h => iv_step k a h) hI0 hZ).mono ?_
 rintro _ w7 ⟨M, ma, mc, sa, sc, pa, pc, hM, rfl, hIZ, KK⟩
 have H7 := hc KK
 clear hc KK H6 hA hQ
 refine ⟨_, _, _, _, _, _, _, _, _, _, _, _, _, _, _, _, _, _, _, _, _, _, _, _, _, _, _, _, _, _, _, _, _, _, _, rfl, ?_⟩
 refine H7.alloc ?_; clear H7; intro b w8 H8
 refine H8.alloc ?_; clear H8; intro b1 w9 H9
 simp only [List.append_nil, List.cons_append, List.nil_append] at H9
 refine H9.store (i := 3) rfl (by rfl) (by rfl) ?_; clear H9; intro w10 H10
 simp only [List.set_cons_succ, List.set_cons_zero] at H10
 refine H10.store (i := 4) rfl (by rfl) (by rfl) ?_; clear H10; intro w11 H11
 simp only [List.set_cons_succ, List.set_cons_zero] at H11
 have H12 : St (All w) [] w w11 [.blk b Ty_api_Sender (encSd Z.s sa sc)] (fun w => QL M ma w /\ UnR w sa Z.s.units /\ QL L ra w) := (stOnly H11 (i := 3) rfl).imp fun w h => ⟨h.1.1, h.1.2.1, h.2.2.1, h.2.2.2.1⟩
 clear H11

 have hML : M.length = K.length := by
  have := congrArg List.length hM
  rw [hO.ot] at this
  simpa [ds] using this
 have hKb : ∀ k ∈ K, k < L.length := fun k hk => by
  have h1 := hO.gN k ((hO.kg k).1 hk)
  have h2 := hO.hN
  have h3 := hO.hS
  omega
 have hKn := nodup_len L.length K hO.kn hKb
 have hMd : ∀ (i : Nat) (hi : i < K.length) (y : BL), M[i]? = some y -> y.d = (ds L).getD K[i] [] := fun i hi y hy => by
  have h1 : (ds M)[i]? = some y.d := by unfold ds; rw [List.getElem?_map, hy]; rfl
  rw [hM, hO.ot, List.getElem?_map, List.getElem?_eq_getElem hi] at h1
  exact (Option.some.inj h1).symm
 refine ⟨fun w13 => St (All w) [] w w13 [.blk b Ty_api_Sender (encSd Z.s sa sc)] (fun w => QL M ma w /\ UnR w sa Z.s.units /\ QL L ra w), ?_, ?_⟩
 ·clear H12
  rintro _ w13 H13
  refine H13.makeBo L.length rfl rfl (by omega) (by omega) ?_
  clear H13; intro b2 w14 H14
  simp only [List.cons_append, List.nil_append] at H14
  refine ⟨fun i => ((M.length - i).toNat, fun w15 => ∃ (k : Nat) (B : List Bool), i = k /\ k <= M.length /\ B.length = L.length /\ (∀ m, bo B m = true ↔ m ∈ K.take k) /\ St (All w) [] w w15 [.blk b Ty_api_Sender (encSd Z.s sa sc), .blk b2 Ty_bool (B.map Value.bool)] (fun w => QL M ma w /\ UnR w sa Z.s.units /\ QL L ra w)),
   ⟨0, List.replicate L.length false, rfl, Nat.zero_le _, List.length_replicate, fun m => by rw [bo_no]; simp, H14⟩, ?_⟩
  clear H14
  rintro _ i w15 ⟨k, B, rfl, hk, hBl, hB, H15⟩
  refine bsplit_dec (fun c1 => ?_) (fun c1 => ?_)
  ·have hkK : k < K.length := by omega
   have hq := H15.get.1
   refine ixE hq.1 k rfl (by omega) fun b3 y hy hb3 => ?_
   have hyd := hMd k hkK y hy
   have hKk := hKb _ (List.getElem_mem hkK)
   obtain ⟨n1, n2, n3, n4⟩ := numb_at hL (k := K[k]) (by omega) (by omega)
   rw [<- hyd] at n1 n2 n3 n4
   refine ⟨_, _, _, hb3.1, ?_⟩
   refine bsplit_dec (fun c2 => absurd c2 (by omega)) (fun _ => ?_)
   refine ixE hq.1 k rfl (by omega) fun b4 y' hy' hb4 => ?_
   obtain rfl : y = y' := by rw [hy] at hy'; exact Option.some.inj hy'
   refine ⟨_, _, _, hb4.1, ?_⟩
   have hys := hq.2 y (List.mem_of_getElem? hy)
   refine (ref01_Get_ct hys.1 n3 (by omega) 0 2 (by decide) (by omega)).mono ?_
   rw [n4]
   rintro _ w16 ⟨rfl, hb16⟩; have H16 := H15.pass hb16; clear H15
   refine ⟨_, rfl, ?_⟩
   refine H16.drew ?_; clear H16; intro w17 H17
   refine bsplit_dec (fun c2 => absurd c2 (by omega)) (fun _ => ?_)
   refine ⟨⟨b2, 0, none⟩, rfl, ⟨by omega, by omega⟩, ?_⟩
   have hno : bo B K[k] = false := by
    cases hb : bo B K[k] with
    | false => rfl
    | true =>
     have h1 := (hB _).1 hb
     obtain ⟨j, hj, e⟩ := List.mem_take_iff_getElem.1 h1
     exact absurd e (List.pairwise_iff_getElem.1 hO.kn j k (by omega) hkK (by omega))
   refine (show kLdB w17 (Addr.add ⟨b2, 0, none⟩ ((K[k] : Int).toNat * 1)) _ from ?_)
   rw [Int.toNat_natCast, Nat.mul_one, add_mk, Nat.zero_add]
   refine H17.ldB (i := 1) rfl (bo_at (by omega)) ?_
   rw [hno]
   refine bsplit_intro (fun c => by cases c) (fun _ => ?_)
   have hq := H17.get.1
   have hl2 := H17.get.2.2
   refine ixE hq.1 k rfl (by omega) fun b5 y' hy' hb5 => ?_
   obtain rfl : y = y' := by rw [hy] at hy'; exact Option.some.inj hy'
   refine ⟨_, _, _, hb5.1, ?_⟩
   refine ixE hl2.1 K[k] rfl (by omega) fun b6 z hz hb6 => ?_
   have e6 := hb6.1
   rw [Int.toNat_natCast, Nat.mul_one] at e6
   refine ⟨_, _, _, e6, ?_⟩
   have hzd : z.d = y.d := by
    rw [hyd]
    have h1 : (ds L)[K[k]]? = some z.d := by unfold ds; rw [List.getElem?_map, hz]; rfl
    rw [List.getD, h1]; rfl
   have hys := hq.2 y (List.mem_of_getElem? hy)
   have hzs := hl2.2 z (List.mem_of_getElem? hz)
   refine (ref01_Same_ct hys.1 hzs.1 n3 (by rw [hzd]; exact n3)).mono ?_
   rintro _ w18 ⟨rfl, hb18⟩; have H18 := H17.pass hb18; clear H17
   refine ⟨_, rfl, ?_⟩
   rw [decide_eq_true hzd.symm]
   refine bsplit_intro (fun c => by cases c) (fun _ => ?_)
   refine ⟨⟨b2, 0, none⟩, rfl, ⟨by omega, by omega⟩, ?_⟩
   refine (show kSet w18 (Addr.add ⟨b2, 0, none⟩ K[k]) _ _ from ?_)
   rw [add_mk, Nat.zero_add]
   refine H18.set (i := 1) rfl (by rw [List.length_map]; omega) ?_; clear H18; intro w19 H19
   simp only [List.set_cons_succ, List.set_cons_zero, bo_map] at H19
   refine kW_i64 (by omega) ?_
   refine ⟨⟨k + 1, B.set K[k] true, by omega, by omega, by rw [List.length_set]; exact hBl, fun m => ?_, H19⟩, by dsimp only; omega⟩
   rw [bo_set (by omega), List.take_add_one, List.getElem?_eq_getElem hkK, List.mem_append]
   by_cases hm : m = K[k]
   ·rw [if_pos hm]; simp [hm]
   ·rw [if_neg hm, hB]; simp [hm]
  ·
   obtain rfl : k = M.length := by omega
   rw [hML, List.take_length] at hB
   refine H15.makeBo L.length rfl rfl (by omega) (by omega) ?_
   clear H15; intro b11 w20 H20
   simp only [List.cons_append, List.nil_append] at H20
   have hul : Z.s.units.length <= 600 := (okB_fit (okB_iff.2 hO.s)).1.1
   refine ⟨fun i => ((Z.s.units.length - i).toNat, fun w21 => ∃ (k : Nat) (C : List Bool), i = k /\ k <= Z.s.units.length /\ C.length = L.length /\ (∀ (m j : Nat) (hj : j < Z.s.units.length), j < k -> Z.s.units[j].sn = m -> bo C m = true) /\
    St (All w) [] w w21 [.blk b Ty_api_Sender (encSd Z.s sa sc), .blk b2 Ty_bool (B.map Value.bool), .blk b11 Ty_bool (C.map Value.bool)] (fun w => QL M ma w /\ UnR w sa Z.s.units /\ QL L ra w)),
    ⟨0, List.replicate L.length false, rfl, Nat.zero_le _, List.length_replicate, fun m j hj h => absurd h (Nat.not_lt_zero _), H20⟩, ?_⟩
   clear H20
   rintro _ i w21 ⟨k, C, rfl, hk, hCl, hC, H21⟩
   refine H21.ldS (i := 0) rfl rfl ?_
   refine bsplit_dec (fun c2 => ?_) (fun c2 => ?_)
   ·have hku : k < Z.s.units.length := by omega
    have hu := H21.get.2.1
    obtain ⟨m, m1, m2, m3⟩ := hO.un _ (List.getElem_mem hku)
    have hmL : m < L.length := by have := hO.hS; omega
    obtain ⟨n1, n2, n3, n4⟩ := numb_at hL (k := m) (by omega) (by omega)
    rw [<- m3] at n1 n2 n3 n4
    refine H21.ldS (i := 0) rfl rfl ?_
    refine ixE hu k rfl hku fun b12 u hku2 hub => ?_
    obtain rfl : Z.s.units[k] = u := by rw [List.getElem?_eq_getElem hku] at hku2; exact Option.some.inj hku2
    obtain ⟨da, dc, aa, ac, hcells, hdat, -⟩ := hub
    refine ldS_at hcells 1 rfl ?_
    refine bsplit_dec (fun c3 => absurd c3 (by omega)) (fun _ => ?_)
    refine H21.ldS (i := 0) rfl rfl ?_
    refine ixE hu k rfl hku fun b13 u hku2 hub => ?_
    obtain rfl : Z.s.units[k] = u := by rw [List.getElem?_eq_getElem hku] at hku2; exact Option.some.inj hku2
    obtain ⟨da, dc, aa, ac, hcells, hdat, -⟩ := hub
    refine ldS_at hcells 1 rfl ?_
    refine (ref01_Get_ct hdat n3 (by omega) 0 2 (by decide) (by omega)).mono ?_
    rw [n4]
    rintro _ w22 ⟨rfl, hb22⟩; have H22 := H21.pass hb22; clear H21
    refine ⟨_, rfl, ?_⟩
    refine bsplit_dec (fun c3 => ?_) (fun c3 => absurd (by omega) c3)
    refine ⟨⟨b11, 0, none⟩, rfl, ⟨by omega, by omega⟩, ?_⟩
    refine (show kSet w22 (Addr.add ⟨b11, 0, none⟩ ((m : Int).toNat * 1)) _ _ from ?_)
    rw [Int.toNat_natCast, Nat.mul_one, add_mk, Nat.zero_add]
    refine H22.set (i := 2) rfl (by rw [List.length_map]; omega) ?_; clear H22; intro w23 H23
    simp only [List.set_cons_succ, List.set_cons_zero, bo_map] at H23
    refine kW_i64 (by omega) ?_
    refine ⟨⟨k + 1, C.set m true, by omega, by omega, by rw [List.length_set]; exact hCl, fun m' j hj hjk hs => ?_, H23⟩, by dsimp only; omega⟩
    rw [bo_set (by omega)]
    by_cases hmm : m' = m
    ·rw [if_pos hmm]
    ·rw [if_neg hmm]
     rcases Nat.lt_or_ge j k with h | h
     ·exact hC m' j hj h hs
     ·have hjk2 : j = k := by omega
      subst hjk2
      rw [m2] at hs
      omega
   ·obtain rfl : k = Z.s.units.length := by omega
    refine H21.ld (i := 0) rfl rfl ?_
    refine H21.ld (i := 0) rfl rfl ?_
    have hzb := hO.lk
    obtain ⟨s0, hs0⟩ : ∃ s0 : Sd, s0 = { Z.s with first := 0 } := ⟨_, rfl⟩
    have C0 := ref20_Place_ct (s := s0) (n := Z.s.next) (w := w21) (by rw [hs0]; exact hO.s.lk.1)
    have hpl : s0.place Z.s.next = S := by
     rw [hs0]
     unfold Sd.place way
     dsimp only
     rw [hzb, hO.nx]
     have := hO.hS
     rw [Int.sub_zero]
     exact Int.emod_eq_of_lt (by omega) (by omega)
    rw [hpl] at C0
    have hs1 : s0.lk = Z.s.lk := by rw [hs0]
    have hs2 : s0.first = 0 := by rw [hs0]
    rw [hs1, hs2] at C0
    refine C0.mono ?_; clear C0
    rintro _ w24 ⟨rfl, hb24⟩; have H24 := H21.pass hb24; clear H21
    refine ⟨_, rfl, ?_⟩
    have hSL := hO.hS
    refine ⟨fun i => ((L.length - i).toNat, fun w25 => ∃ k : Nat, i = k /\ k <= S /\ St (All w) [] w w25 [.blk b Ty_api_Sender (encSd Z.s sa sc), .blk b2 Ty_bool (B.map Value.bool), .blk b11 Ty_bool (C.map Value.bool)] (fun w => QL M ma w /\ UnR w sa Z.s.units /\ QL L ra w)), ⟨0, rfl, Nat.zero_le _, H24⟩, ?_⟩
    clear H24
    rintro _ i w25 ⟨k, rfl, hk3, H25⟩
    refine bsplit_dec (fun c3 => ?_) (fun c3 => ?_)
    ·have hkS : k < S /\ k < L.length := by
      split at c3 <;> omega
     refine H25.ld (i := 0) rfl rfl ?_
     have hbb := hO.s.lk.1
     have hbb2 := hbb.2
     have hbb1 := hbb.1
     refine kW_u64 (by omega) ?_
     refine ⟨by omega, ?_⟩
     refine kShl1 (by omega) ?_
     have next : ∀ w25, St (All w) [] w w25 [.blk b Ty_api_Sender (encSd Z.s sa sc), .blk b2 Ty_bool (B.map Value.bool), .blk b11 Ty_bool (C.map Value.bool)] (fun w => QL M ma w /\ UnR w sa Z.s.units /\ QL L ra w) ->
      ∃ k' : Nat, ((k : Int) + 1) = k' /\ k' <= S /\ St (All w) [] w w25 [.blk b Ty_api_Sender (encSd Z.s sa sc), .blk b2 Ty_bool (B.map Value.bool), .blk b11 Ty_bool (C.map Value.bool)] (fun w => QL M ma w /\ UnR w sa Z.s.units /\ QL L ra w) := fun w25 H => ⟨k + 1, by omega, by omega, H⟩
     refine bsplit_dec (fun _ => ?_) (fun _ => ?_)
     ·refine ⟨⟨b11, 0, none⟩, rfl, ⟨by omega, by omega⟩, ?_⟩
      refine (show kLdB w25 (Addr.add ⟨b11, 0, none⟩ ((k : Int).toNat * 1)) _ from ?_)
      rw [Int.toNat_natCast, Nat.mul_one, add_mk, Nat.zero_add]
      refine H25.ldB (i := 2) rfl (bo_at (by omega)) ?_
      refine bsplit_n (fun c4 => ?_) (fun c4 => ?_)
      ·refine ⟨⟨b2, 0, none⟩, rfl, ⟨by omega, by omega⟩, ?_⟩
       refine (show kLdB w25 (Addr.add ⟨b2, 0, none⟩ k) _ from ?_)
       rw [add_mk, Nat.zero_add]
       refine H25.ldB (i := 1) rfl (bo_at (by omega)) ?_
       have hkt : bo B k = true := by
        rcases hO.tk k hkS.1 with ⟨u, hu, hs⟩ | ⟨h5, -⟩
        ·obtain ⟨j, hj, rfl⟩ := List.getElem_of_mem hu
         rw [hC k j hj hj hs] at c4; cases c4
        ·exact (hB k).2 ((hO.kg k).2 h5)
       rw [hkt]
       refine bsplit_intro (fun c => by cases c) (fun _ => ?_)
       refine kW_i64 (by omega) ?_
       exact ⟨next _ H25, by dsimp only; omega⟩
      ·refine kW_i64 (by omega) ?_
       exact ⟨next _ H25, by dsimp only; omega⟩
     ·refine kW_i64 (by omega) ?_
      exact ⟨next _ H25, by dsimp only; omega⟩
    ·exact ⟨rfl, H25.below⟩
 ·refine law22_awake_ct.mono ?_
  rintro _ w12 ⟨rfl, hb12⟩; have H13 := H12.pass hb12; clear H12
  refine ⟨_, rfl, ?_⟩
  refine bsplit_intro (fun c => by cases c) (fun _ => ?_)
  refine bsplit_nd (fun c => absurd rfl c) (fun _ => H13)
end Go.Proofs.YtmbppohkadmjgaaGreat
