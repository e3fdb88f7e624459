import Derived.Test.YtmbppohkadmjgaaGreatM22a
import Derived.Test.YtmbppohkadmjgaaGreatM20
import Derived.Test.YtmbppohkadmjgaaGreatM21a
import Derived.Test.YtmbppohkadmjgaaGreatM20b
import Derived.Test.YtmbppohkadmjgaaGreatM21b
import Derived.Test.YtmbppohkadmjgaaGreatM18
import Derived.Test.YtmbppohkadmjgaaGreatFxAmlinkClean
namespace Go.Proofs.YtmbppohkadmjgaaGreat
open Go.Sx Go.RowKit
set_option maxRecDepth 100000
def ds (L : List BL) : List (List Int) := L.map (·.d)
def Am.pl (x : Am) : Pl := ⟨x.s, x.r, ds x.u.live, ds x.wy.live, ds x.bk.live, ds x.ot.live⟩
def Sim (A0 : Nat → Prop) (w0 w : World) (b m : Nat) (p : Pl) (P : World → Prop) : Prop :=
  ∃ x : Am, x.pl = p ∧ x.ok m ∧ (x.u.all ≠ [] → ∃ g, x.u.a = some g) ∧ AmS A0 w0 w b x P
theorem ds_nil {L : List BL} : ds L = [] ↔ L = [] := by unfold ds; simp
section
variable {A0 : Nat → Prop} {w0 w : World} {b m : Nat} {p : Pl} {P : World → Prop} {K : Ending → World → Prop}
theorem sim_build {size : Int} (H : Sim A0 w0 w b m p P) (hm : m < 1000000) (hsz : -9223372036854775808 ≤ size ∧ size ≤ 9223372036854775807)
    (hbs : Bytes (buildS p.s size (begE p.s)).2.1 ∧ (buildS p.s size (begE p.s)).2.1.length ≤ 100000) (hsu : SmU (buildS p.s size (begE p.s)).1.units)
    (h : ∀ w', Sim A0 w0 w' b (m + 1) (buildP p size).1 P → K (.returned (.bool (buildP p size).2)) w') :
    Calls Tryz.prog N_amlink_run_build #[.pointer (some ⟨b, 0, none⟩), .int .i64 size] w K := by
  obtain ⟨x, rfl, hx, hua, H⟩ := H
  have hmono : Am.ok (m + 1) x := ⟨hx.su, hx.gp, hx.uo, hx.uc, hx.wo, Nat.le_succ_of_le hx.wl, hx.wb, hx.bo, Nat.le_succ_of_le hx.bl, hx.bb, hx.oo, Nat.le_succ_of_le hx.ol⟩
  refine amlink_run_build_ct H hx hm hsz hbs hsu ?_ ?_
  · intro w' he H'
    have e : buildP x.pl size = (x.pl, false) := by unfold buildP; exact if_neg he
    rw [e] at h
    exact h w' ⟨x, rfl, hmono, hua, H'⟩
  · intro sa sc wy w' he hw hok H'
    have e : buildP x.pl size = ({ x.pl with s := (buildS x.s size (begE x.s)).1, wy := x.pl.wy ++ [(buildS x.s size (begE x.s)).2.1] }, true) := by unfold buildP; exact if_pos he
    rw [e] at h
    refine h w' ⟨_, ?_, hok, hua, H'⟩
    show Pl.mk _ _ _ (ds wy.live) _ _ = _
    have hw : ds wy.live = ds x.wy.live ++ [(buildS x.s size (begE x.s)).2.1] := hw
    rw [hw]; rfl
theorem sim_report {size : Int} (H : Sim A0 w0 w b m p P) (hm : m < 1000000)
    (hbs : Bytes (repR p.r size).2.1 ∧ (repR p.r size).2.1.length ≤ 100000) (hgp : GP (repR p.r size).1.parts)
    (h : ∀ w', Sim A0 w0 w' b (m + 1) (reportP p size) P → K (.returned (.tuple #[])) w') :
    Calls Tryz.prog N_amlink_run_report #[.pointer (some ⟨b, 0, none⟩), .int .i64 size] w K := by
  obtain ⟨x, rfl, hx, hua, H⟩ := H
  have hmono : Am.ok (m + 1) x := ⟨hx.su, hx.gp, hx.uo, hx.uc, hx.wo, Nat.le_succ_of_le hx.wl, hx.wb, hx.bo, Nat.le_succ_of_le hx.bl, hx.bb, hx.oo, Nat.le_succ_of_le hx.ol⟩
  refine amlink_run_report_ct H hx hm hbs hgp ?_ ?_
  · intro w' he H'
    have e : reportP x.pl size = x.pl := by unfold reportP; exact if_neg he
    rw [e] at h
    exact h w' ⟨x, rfl, hmono, hua, H'⟩
  · intro ra rc bk w' he hw hok H'
    have e : reportP x.pl size = { x.pl with r := (repR x.r size).1, bk := x.pl.bk ++ [(repR x.r size).2.1] } := by unfold reportP; exact if_pos he
    rw [e] at h
    refine h w' ⟨_, ?_, hok, hua, H'⟩
    show Pl.mk _ _ _ _ (ds bk.live) _ = _
    have hw : ds bk.live = ds x.bk.live ++ [(repR x.r size).2.1] := hw
    rw [hw]; rfl
theorem sim_tick (H : Sim A0 w0 w b m p P) (hsu : SmU (tickP p).s.units) (h : ∀ w', Sim A0 w0 w' b m (tickP p) P → K (.returned (.tuple #[])) w') :
    Calls Tryz.prog N_amlink_run_tick #[.pointer (some ⟨b, 0, none⟩)] w K := by
  obtain ⟨x, rfl, hx, hua, H⟩ := H
  exact amlink_run_tick_ct H hx hsu fun sa sc ra rc w' hok H' => h w' ⟨_, rfl, hok, hua, H'⟩
theorem sim_deliver (keep : Bool) (H : Sim A0 w0 w b m p P) (hm : m < 1000000) (h : ∀ w', Sim A0 w0 w' b (m + 1) (deliverP p keep) P → K (.returned (.tuple #[])) w') :
    Calls Tryz.prog N_amlink_run_deliver #[.pointer (some ⟨b, 0, none⟩), .bool keep] w K := by
  obtain ⟨x, rfl, hx, hua, H⟩ := H
  have hmono : Am.ok (m + 1) x := ⟨hx.su, hx.gp, hx.uo, hx.uc, hx.wo, Nat.le_succ_of_le hx.wl, hx.wb, hx.bo, Nat.le_succ_of_le hx.bl, hx.bb, hx.oo, Nat.le_succ_of_le hx.ol⟩
  refine amlink_run_deliver_ct keep H hx hm ?_ ?_
  · intro hl
    have e : deliverP x.pl keep = x.pl := by
      have : x.pl.wy = [] := ds_nil.2 hl
      unfold deliverP; rw [this]
    rw [e] at h
    exact h w ⟨x, rfl, hmono, hua, H⟩
  · intro y l ra rc ot w' hl hn h1 h2 hok H'
    refine h w' ⟨_, ?_, hok, ?_, H'⟩
    · have hw : x.pl.wy = y.d :: ds l := by show ds x.wy.live = _; rw [hl]; rfl
      have e : deliverP x.pl keep = { x.pl with r := x.dR y.d, ot := if (recS x.r y.d).2.1 = [] then x.pl.ot else x.pl.ot ++ [(recS x.r y.d).2.1], wy := if keep then x.pl.wy else ds l } := by
        unfold deliverP; rw [hw]; rfl
      rw [e]
      have eot : ds ot.live = if (recS x.r y.d).2.1 = [] then x.pl.ot else x.pl.ot ++ [(recS x.r y.d).2.1] := by
        split
        · rename_i hc; rw [h1 hc]; rfl
        · rename_i hc; exact h2 hc
      rw [← eot]
      cases keep with
      | true => rfl
      | false =>
        show Pl.mk _ _ _ (ds x.wy.next.live) _ _ = Pl.mk _ _ _ (ds l) _ _
        rw [hn rfl]; rfl
    · cases keep <;> exact hua
theorem sim_answer (keep : Bool) (H : Sim A0 w0 w b m p P) (hml : ∀ d l, p.bk = d :: l → (decS p.s.lk.bits d).1.miss.length ≤ 1000000 ∧ SmU (answerS p.s d).units)
    (h : ∀ w', Sim A0 w0 w' b m (answerP p keep) P → K (.returned (.tuple #[])) w') :
    Calls Tryz.prog N_amlink_run_answer #[.pointer (some ⟨b, 0, none⟩), .bool keep] w K := by
  obtain ⟨x, rfl, hx, hua, H⟩ := H
  refine amlink_run_answer_ct keep H hx (fun y l hl => hml y.d (ds l) (by show ds x.bk.live = _; rw [hl]; rfl)) ?_ ?_
  · intro hl
    have e : answerP x.pl keep = x.pl := by
      have : x.pl.bk = [] := ds_nil.2 hl
      unfold answerP; rw [this]
    rw [e] at h
    exact h w ⟨x, rfl, hx, hua, H⟩
  · intro y l sa sc w' hl hn hok H'
    refine h w' ⟨_, ?_, hok, ?_, H'⟩
    · have hw : x.pl.bk = y.d :: ds l := by show ds x.bk.live = _; rw [hl]; rfl
      have e : answerP x.pl keep = { x.pl with s := x.aS y.d, bk := if keep then x.pl.bk else ds l } := by unfold answerP; rw [hw]; rfl
      rw [e]
      cases keep with
      | true => rfl
      | false =>
        show Pl.mk _ _ _ _ (ds x.bk.next.live) _ = Pl.mk _ _ _ _ (ds l) _
        rw [hn rfl]; rfl
    · cases keep <;> exact hua
theorem sim_send (H : Sim A0 w0 w b m p P) (hsu : ∀ d l, p.us = d :: l → SmU (subS p.s d (begE p.s)).1.units)
    (h : ∀ w', Sim A0 w0 w' b m (sendP p).1 P → K (.returned (.bool (sendP p).2)) w') :
    Calls Tryz.prog N_amlink_run_send #[.pointer (some ⟨b, 0, none⟩)] w K := by
  obtain ⟨x, rfl, hx, hua, H⟩ := H
  refine amlink_run_send_ct H hx hua (fun y l hl => hsu y.d (ds l) (by show ds x.u.live = _; rw [hl]; rfl)) ?_ ?_
  · intro w' he H'
    have e : sendP x.pl = (x.pl, false) := by
      rcases he with he | ⟨y, l, hl, he⟩
      · have : x.pl.us = [] := ds_nil.2 he
        unfold sendP; rw [this]
      · have : x.pl.us = y.d :: ds l := by show ds x.u.live = _; rw [hl]; rfl
        unfold sendP; rw [this]; exact if_neg he
    rw [e] at h
    exact h w' ⟨x, rfl, hx, hua, H'⟩
  · intro y l sa sc w' hl he hn hok H'
    have hw : x.pl.us = y.d :: ds l := by show ds x.u.live = _; rw [hl]; rfl
    have e : sendP x.pl = ({ x.pl with s := (subS x.s y.d (begE x.s)).1, us := ds l }, true) := by
      unfold sendP; rw [hw]; exact if_pos he
    rw [e] at h
    refine h w' ⟨_, ?_, hok, hua, H'⟩
    show Pl.mk _ _ (ds x.u.next.live) _ _ _ = Pl.mk _ _ (ds l) _ _ _
    rw [hn]; rfl
end
end Go.Proofs.YtmbppohkadmjgaaGreat
namespace Go.Proofs.YtmbppohkadmjgaaGreat
open Go.Sx Go.RowKit
set_option maxRecDepth 100000
def loseP (p : Pl) : Pl := { p with wy := p.wy.tail }
def loseBP (p : Pl) : Pl := { p with bk := p.bk.tail }
def stepP (p : Pl) (k a : Int) : Pl :=
  if k = 1 then (sendP p).1 else if k = 2 then (buildP p a).1 else if k = 3 then deliverP p false else if k = 5 then deliverP p true else if k = 4 then loseP p else
  if k = 7 then reportP p a else if k = 8 then answerP p false else if k = 10 then answerP p true else if k = 9 then loseBP p else if k = 11 then tickP p else p
structure Fits (p : Pl) : Prop where
  bu : ∀ size : Int, Bytes (buildS p.s size (begE p.s)).2.1 ∧ (buildS p.s size (begE p.s)).2.1.length ≤ 100000 ∧ SmU (buildS p.s size (begE p.s)).1.units
  re : ∀ size : Int, Bytes (repR p.r size).2.1 ∧ (repR p.r size).2.1.length ≤ 100000 ∧ GP (repR p.r size).1.parts
  ti : SmU (tickP p).s.units
  an : ∀ d l, p.bk = d :: l → (decS p.s.lk.bits d).1.miss.length ≤ 1000000 ∧ SmU (answerS p.s d).units
  se : ∀ d l, p.us = d :: l → SmU (subS p.s d (begE p.s)).1.units
section
variable {A0 : Nat → Prop} {w0 w : World} {b m : Nat} {p : Pl} {P : World → Prop} {K : Ending → World → Prop}
theorem Sim.up (H : Sim A0 w0 w b m p P) : Sim A0 w0 w b (m + 1) p P := by
  obtain ⟨x, h, hx, hua, H⟩ := H
  exact ⟨x, h, ⟨hx.su, hx.gp, hx.uo, hx.uc, hx.wo, Nat.le_succ_of_le hx.wl, hx.wb, hx.bo, Nat.le_succ_of_le hx.bl, hx.bb, hx.oo, Nat.le_succ_of_le hx.ol⟩, hua, H⟩
theorem sim_lose (H : Sim A0 w0 w b m p P) (h : ∀ (a : Option Addr) (l c : Nat) (r : Bool) (w' : World), Sim A0 w0 w' b m (loseP p) P → K (.returned (.tuple #[.slice a l c, .bool r])) w') :
    Calls Tryz.prog N_amlink_queue_first #[.pointer (some ⟨b, 28, none⟩), .bool false] w K := by
  obtain ⟨x, rfl, hx, hua, H⟩ := H
  refine amlink_queue_first_ct (q := x.wy) H (i := 0) (j := 1) (o := 28) rfl rfl rfl (by decide) hx.wo false ?_ ?_
  · intro hl
    refine h _ _ _ _ w ⟨x, ?_, hx, hua, H⟩
    have e : ds x.wy.live = [] := ds_nil.2 hl
    show x.pl = { x.pl with wy := (ds x.wy.live).tail }
    rw [e]
    show Pl.mk _ _ _ (ds x.wy.live) _ _ = _
    rw [e]; rfl
  · intro y l w' hl hn H'
    obtain ⟨n1, n2⟩ := hn rfl
    have hsub : ∀ z ∈ x.wy.next.live, z ∈ x.wy.live := fun z hz => by rw [n2] at hz; rw [hl]; exact List.mem_cons_of_mem _ hz
    refine h _ _ _ _ w' ⟨{ x with wy := x.wy.next }, ?_, ⟨hx.su, hx.gp, hx.uo, hx.uc, n1, hx.wl, fun z hz => hx.wb z (hsub z hz), hx.bo, hx.bl, hx.bb, hx.oo, hx.ol⟩, hua, ?_⟩
    · show Pl.mk _ _ _ (ds x.wy.next.live) _ _ = Pl.mk _ _ _ (ds x.wy.live).tail _ _
      rw [n2, hl]; rfl
    · exact St.imp (P := fun w => x.hold w ∧ P w) H' fun w h => ⟨⟨h.1.1, h.1.2.1, h.1.2.2.1, fun z hz => h.1.2.2.2.1 z (hsub z hz), h.1.2.2.2.2⟩, h.2⟩
theorem sim_loseB (H : Sim A0 w0 w b m p P) (h : ∀ (a : Option Addr) (l c : Nat) (r : Bool) (w' : World), Sim A0 w0 w' b m (loseBP p) P → K (.returned (.tuple #[.slice a l c, .bool r])) w') :
    Calls Tryz.prog N_amlink_queue_first #[.pointer (some ⟨b, 29, none⟩), .bool false] w K := by
  obtain ⟨x, rfl, hx, hua, H⟩ := H
  refine amlink_queue_first_ct (q := x.bk) H (i := 0) (j := 2) (o := 29) rfl rfl rfl (by decide) hx.bo false ?_ ?_
  · intro hl
    refine h _ _ _ _ w ⟨x, ?_, hx, hua, H⟩
    have e : ds x.bk.live = [] := ds_nil.2 hl
    show x.pl = { x.pl with bk := (ds x.bk.live).tail }
    rw [e]
    show Pl.mk _ _ _ _ (ds x.bk.live) _ = _
    rw [e]; rfl
  · intro y l w' hl hn H'
    obtain ⟨n1, n2⟩ := hn rfl
    have hsub : ∀ z ∈ x.bk.next.live, z ∈ x.bk.live := fun z hz => by rw [n2] at hz; rw [hl]; exact List.mem_cons_of_mem _ hz
    refine h _ _ _ _ w' ⟨{ x with bk := x.bk.next }, ?_, ⟨hx.su, hx.gp, hx.uo, hx.uc, hx.wo, hx.wl, hx.wb, n1, hx.bl, fun z hz => hx.bb z (hsub z hz), hx.oo, hx.ol⟩, hua, ?_⟩
    · show Pl.mk _ _ _ _ (ds x.bk.next.live) _ = Pl.mk _ _ _ _ (ds x.bk.live).tail _
      rw [n2, hl]; rfl
    · exact St.imp (P := fun w => x.hold w ∧ P w) H' fun w h => ⟨⟨h.1.1, h.1.2.1, h.1.2.2.1, h.1.2.2.2.1, fun z hz => h.1.2.2.2.2.1 z (hsub z hz), h.1.2.2.2.2.2⟩, h.2⟩
theorem sim_step {k a : Int} (H : Sim A0 w0 w b m p P) (hf : Fits p) (hm : m < 1000000) (ha : -9223372036854775808 ≤ a ∧ a ≤ 9223372036854775807)
    (h : ∀ w', Sim A0 w0 w' b (m + 1) (stepP p k a) P → K (.returned (.tuple #[])) w') :
    Calls Tryz.prog N_amlink_run_step #[.pointer (some ⟨b, 0, none⟩), .agg #[.int .i64 k, .int .i64 a]] w K := by
  apply F_amlink_run_step_ok
  unfold F_amlink_run_step
  obtain ⟨x, hp, hx, hua, H⟩ := H
  refine H.alloc ?_; clear H; intro b1 w1 H1
  simp only [List.cons_append, List.nil_append] at H1
  have H2 : Sim A0 w0 w1 b m p P := ⟨x, hp, hx, hua, St.left (X := [_, _, _, _]) H1⟩
  unfold stepP at h
  refine H1.ld (i := 4) (o := 0) rfl rfl ?_
  refine kLet_in ?_
  refine bsplit_dec (fun c => ?_) (fun c => ?_)
  · rw [if_pos c] at h
    exact sim_send H2 hf.se fun w' H' => ⟨_, rfl, h w' H'.up⟩
  rw [if_neg c] at h
  refine kLet_in ?_
  refine bsplit_dec (fun c => ?_) (fun c => ?_)
  · rw [if_pos c] at h
    refine H1.ld (i := 4) (o := 1) rfl rfl ?_
    exact sim_build H2 hm ha ⟨(hf.bu a).1, (hf.bu a).2.1⟩ (hf.bu a).2.2 fun w' H' => ⟨_, rfl, h w' H'⟩
  rw [if_neg c] at h
  refine kLet_in ?_
  refine bsplit_dec (fun c => ?_) (fun c => ?_)
  · rw [if_pos c] at h
    exact sim_deliver false H2 hm fun w' H' => ⟨rfl, h w' H'⟩
  rw [if_neg c] at h
  refine kLet_in ?_
  refine bsplit_dec (fun c => ?_) (fun c => ?_)
  · rw [if_pos c] at h
    exact sim_deliver true H2 hm fun w' H' => ⟨rfl, h w' H'⟩
  rw [if_neg c] at h
  refine kLet_in ?_
  refine bsplit_dec (fun c => ?_) (fun c => ?_)
  · rw [if_pos c] at h
    exact sim_lose H2 fun _ _ _ _ w' H' => ⟨_, _, _, _, rfl, h w' H'.up⟩
  rw [if_neg c] at h
  refine kLet_in ?_
  refine bsplit_dec (fun c => ?_) (fun c => ?_)
  · rw [if_pos c] at h
    refine H1.ld (i := 4) (o := 1) rfl rfl ?_
    exact sim_report H2 hm ⟨(hf.re a).1, (hf.re a).2.1⟩ (hf.re a).2.2 fun w' H' => ⟨rfl, h w' H'⟩
  rw [if_neg c] at h
  refine kLet_in ?_
  refine bsplit_dec (fun c => ?_) (fun c => ?_)
  · rw [if_pos c] at h
    exact sim_answer false H2 hf.an fun w' H' => ⟨rfl, h w' H'.up⟩
  rw [if_neg c] at h
  refine kLet_in ?_
  refine bsplit_dec (fun c => ?_) (fun c => ?_)
  · rw [if_pos c] at h
    exact sim_answer true H2 hf.an fun w' H' => ⟨rfl, h w' H'.up⟩
  rw [if_neg c] at h
  refine kLet_in ?_
  refine bsplit_dec (fun c => ?_) (fun c => ?_)
  · rw [if_pos c] at h
    exact sim_loseB H2 fun _ _ _ _ w' H' => ⟨_, _, _, _, rfl, h w' H'.up⟩
  rw [if_neg c] at h
  refine kLet_in ?_
  refine bsplit_dec (fun c => ?_) (fun c => ?_)
  · rw [if_pos c] at h
    exact sim_tick H2 hf.ti fun w' H' => ⟨rfl, h w' H'.up⟩
  rw [if_neg c] at h
  exact h w1 H2.up
end
end Go.Proofs.YtmbppohkadmjgaaGreat
namespace Go.Proofs.YtmbppohkadmjgaaGreat
open Go.Sx Go.RowKit
set_option maxRecDepth 100000
def sendAll : Nat → Pl → Pl
  | 0, p => p
  | n + 1, p => if (sendP p).2 = true then sendAll n (sendP p).1 else (sendP p).1
def buildAll : Nat → Pl → Pl
  | 0, p => p
  | n + 1, p => if (buildP p 4096).2 = true then buildAll n (deliverP (buildP p 4096).1 false) else (buildP p 4096).1
def endP (p : Pl) : Pl := tickP (answerP (reportP p 4096) false)
structure Inv (I : Pl → Prop) (mu : Pl → Nat) : Prop where
  fits : ∀ p, I p → Fits p
  send : ∀ p, I p → I (sendP p).1
  build : ∀ p, I p → I (buildP p 4096).1
  deliver : ∀ p, I p → I (deliverP p false)
  report : ∀ p, I p → I (reportP p 4096)
  answer : ∀ p, I p → I (answerP p false)
  less : ∀ p, I p → (buildP p 4096).2 = true → mu (deliverP (buildP p 4096).1 false) < mu p
theorem sendP_len {p : Pl} (h : (sendP p).2 = true) : (sendP p).1.us.length < p.us.length := by
  unfold sendP at h ⊢
  cases hu : p.us with
  | nil => rw [hu] at h; cases h
  | cons d l =>
    rw [hu] at h
    dsimp only at h ⊢
    split
    · simp
    · rename_i hc; rw [if_neg hc] at h; cases h
section
variable {A0 : Nat → Prop} {w0 w : World} {b m : Nat} {p : Pl} {P : World → Prop} {K : Ending → World → Prop} {I : Pl → Prop} {mu : Pl → Nat}
theorem Sim.upTo {n : Nat} (H : Sim A0 w0 w b m p P) (h : m ≤ n) : Sim A0 w0 w b n p P := by
  induction h with
  | refl => exact H
  | step _ ih => exact ih.up
theorem sim_round (hI : Inv I mu) (H : Sim A0 w0 w b m p P) (hp : I p) (hm : m + 2 * mu (sendAll (p.us.length + 1) p) + 10 < 1000000)
    (h : ∀ w', Sim A0 w0 w' b (m + 2 * mu (sendAll (p.us.length + 1) p) + 4) (endP (buildAll (mu (sendAll (p.us.length + 1) p) + 1) (sendAll (p.us.length + 1) p))) P → K (.returned (.tuple #[])) w') :
    Calls Tryz.prog N_amlink_run_round #[.pointer (some ⟨b, 0, none⟩)] w K := by
  apply F_amlink_run_round_ok
  unfold F_amlink_run_round
  obtain ⟨Y, hY⟩ : ∃ Y, Y = sendAll (p.us.length + 1) p := ⟨_, rfl⟩
  rw [← hY] at hm h
  refine ⟨fun k w1 => ∃ p', Sim A0 w0 w1 b m p' P ∧ I p' ∧ p'.us.length < k ∧ sendAll k p' = Y, ⟨p.us.length + 1, p, H, hp, Nat.lt_succ_self _, hY.symm⟩, ?_⟩
  clear H hp hY
  rintro _ k w1 ⟨p1, H1, hp1, hl, hs⟩
  obtain ⟨k, rfl⟩ : ∃ j, k = j + 1 := ⟨k - 1, by omega⟩
  refine sim_send H1 (hI.fits p1 hp1).se fun w2 H2 => ?_
  refine ⟨_, rfl, ?_⟩
  refine bsplit_intro (fun c => ?_) (fun c => ?_)
  · refine ⟨k, Nat.lt_succ_self _, (sendP p1).1, H2, hI.send p1 hp1, by have := sendP_len c; omega, ?_⟩
    rw [← hs, sendAll, if_pos c]
  have eY : (sendP p1).1 = Y := by rw [← hs, sendAll, if_neg (by rw [c]; decide)]
  have hIY := hI.send p1 hp1
  rw [eY] at H2 hIY
  clear H1
  obtain ⟨Z, hZ⟩ : ∃ Z, Z = buildAll (mu Y + 1) Y := ⟨_, rfl⟩
  rw [← hZ] at h
  refine ⟨fun k w3 => ∃ p', k ≤ mu Y + 1 ∧ Sim A0 w0 w3 b (m + 2 * (mu Y + 1 - k)) p' P ∧ I p' ∧ mu p' < k ∧ buildAll k p' = Z, ⟨mu Y + 1, Y, Nat.le_refl _, by rw [Nat.sub_self]; exact H2, hIY, Nat.lt_succ_self _, hZ.symm⟩, ?_⟩
  clear H2 hIY hZ hs eY hp1
  rintro _ k w3 ⟨p3, hk, H3, hp3, hmu, hb⟩
  obtain ⟨k, rfl⟩ : ∃ j, k = j + 1 := ⟨k - 1, by omega⟩
  have hf := hI.fits p3 hp3
  refine sim_build H3 (by omega) (by omega) ⟨(hf.bu 4096).1, (hf.bu 4096).2.1⟩ (hf.bu 4096).2.2 fun w4 H4 => ?_
  refine ⟨_, rfl, ?_⟩
  refine bsplit_intro (fun c => ?_) (fun c => ?_)
  · refine sim_deliver false H4 (by omega) fun w5 H5 => ?_
    refine ⟨rfl, k, Nat.lt_succ_self _, _, by omega, H5.upTo (by omega), hI.deliver _ (hI.build p3 hp3), by have := hI.less p3 hp3 c; omega, ?_⟩
    rw [← hb, buildAll, if_pos c]
  have eZ : (buildP p3 4096).1 = Z := by rw [← hb, buildAll, if_neg (by rw [c]; decide)]
  have hIZ := hI.build p3 hp3
  rw [eZ] at H4 hIZ
  have hfZ := hI.fits Z hIZ
  refine sim_report H4 (by omega) ⟨(hfZ.re 4096).1, (hfZ.re 4096).2.1⟩ (hfZ.re 4096).2.2 fun w6 H6 => ?_
  refine ⟨rfl, ?_⟩
  have hI6 := hI.report Z hIZ
  refine sim_answer false H6 (hI.fits _ hI6).an fun w7 H7 => ?_
  refine ⟨rfl, ?_⟩
  refine sim_tick H7 (hI.fits _ (hI.answer _ hI6)).ti fun w8 H8 => ?_
  exact ⟨rfl, h w8 (H8.upTo (by omega))⟩
end
end Go.Proofs.YtmbppohkadmjgaaGreat
namespace Go.Proofs.YtmbppohkadmjgaaGreat
open Go.Sx Go.RowKit
set_option maxRecDepth 100000
def wrongB (d : List Int) : Bool := decide ((d.length : Int) < 1) || decide ((d.length : Int) > 2054)
theorem amlink_begin_1_ct {a : Option Addr} {c : Nat} {d : List Int} {w : World} : Calls Tryz.prog N_amlink_begin_1 #[.slice a d.length c] w fun e w' => e = .returned (.bool (wrongB d)) ∧ Below w.heap.size w w' := by
  apply F_amlink_begin_1_ok
  unfold F_amlink_begin_1
  refine bsplit_dec (fun c => ?_) (fun c => ?_)
  · exact ⟨by unfold wrongB; rw [decide_eq_true c]; rfl, .refl _ _⟩
  · refine kLet_in ?_
    exact ⟨by unfold wrongB; rw [decide_eq_false c]; rfl, .refl _ _⟩
section
variable {L : List BL} {a : Option Addr} {c : Nat} {w : World}
theorem indexWrong_ct (hs : SlR (CE encBL) 1 w a L) (hl : L.length ≤ 140737488355328) :
    Calls Tryz.prog N_slices_IndexFunc_SSbyte_Sbyte #[(.slice a L.length c), .func (.func N_amlink_begin_1) #[] #[]] w fun e w' => e = .returned (.int .i64 (idx (fun y : BL => wrongB y.d) L)) ∧ Below w.heap.size w w' := by
  apply F_slices_IndexFunc_SSbyte_Sbyte_ok
  unfold F_slices_IndexFunc_SSbyte_Sbyte
  have H := St.nil w
  refine ⟨fun x => ((L.length - x).toNat, fun w1 => ∃ k : Nat, x = k ∧ k ≤ L.length ∧ (∀ j (hj : j < L.length), j < k → wrongB L[j].d = false) ∧ FreshR w w1 []), ⟨0, rfl, by omega, fun j _ h => by omega, H⟩, ?_⟩
  clear H
  rintro _ x w1 ⟨k, rfl, hk, hno, H1⟩
  refine bsplit_dec (fun c1 => ?_) (fun c1 => ?_)
  · have hlt : k < L.length := by omega
    refine ixE (hs.belowE H1.below) k rfl hlt fun b s hsk hb => ?_
    obtain rfl : L[k] = s := by rw [List.getElem?_eq_getElem hlt] at hsk; injection hsk
    refine ⟨_, _, _, hb.1, ?_⟩
    refine ⟨by kernel_rfl, ?_⟩
    refine (amlink_begin_1_ct (a := L[k].a) (c := L[k].c) (d := L[k].d)).mono ?_
    rintro _ w2 ⟨rfl, hb2⟩; have H2 := H1.pass hb2; clear H1
    refine ⟨_, rfl, ?_⟩
    refine bsplit_intro (fun c => ?_) (fun c => ?_)
    · exact ⟨by rw [idx_at (p := fun y : BL => wrongB y.d) hlt hno c], H2.below⟩
    · refine kW_i64 (by omega) ?_
      exact ⟨⟨k + 1, by omega, by omega, fun j hj h => by
        rcases Nat.lt_or_ge j k with h' | h'
        · exact hno j hj h'
        · obtain rfl : j = k := by omega
          exact c, H2⟩, by dsimp only; omega⟩
  · obtain rfl : k = L.length := by omega
    exact ⟨by rw [idx_no (p := fun y : BL => wrongB y.d) fun j hj => hno j hj hj], H1.below⟩
theorem containsWrong_ct (hs : SlR (CE encBL) 1 w a L) (hl : L.length ≤ 140737488355328) :
    Calls Tryz.prog N_slices_ContainsFunc_SSbyte_Sbyte #[(.slice a L.length c), .func (.func N_amlink_begin_1) #[] #[]] w fun e w' => e = .returned (.bool (L.any fun y => wrongB y.d)) ∧ Below w.heap.size w w' := by
  apply F_slices_ContainsFunc_SSbyte_Sbyte_ok
  unfold F_slices_ContainsFunc_SSbyte_Sbyte
  refine (indexWrong_ct hs hl).mono ?_
  rintro _ w1 ⟨rfl, hb1⟩
  refine ⟨_, rfl, ?_⟩
  refine kLet_in ?_
  exact ⟨by rw [idx_any], hb1⟩
theorem cloneUnits_ct (hs : SlR (CE encBL) 1 w a L) (hl : L.length ≤ 1000000) :
    Calls Tryz.prog N_slices_Clone_SSbyte_Sbyte #[(.slice a L.length c)] w fun e w' => ∃ (a' : Option Addr) (c' : Nat), e = .returned (.slice a' L.length c') ∧ FreshR w w' [.els encBL Ty_S_uint8 1 a' c' L] := by
  apply F_slices_Clone_SSbyte_Sbyte_ok
  unfold F_slices_Clone_SSbyte_Sbyte
  have H := St.nil w
  refine bsplit_intro (fun c1 => ?_) (fun c1 => ?_)
  · have hL : L = [] := by
      rcases hs with h | ⟨b, rfl, _⟩
      · exact h
      · cases c1
    subst hL
    exact ⟨none, 0, rfl, H.nilE encBL Ty_S_uint8 1⟩
  · refine H.alloc ?_; clear H; intro b w1 H1
    have H1 := H1.litE encBL_ok (i := 0) [] rfl (by decide)
    refine H1.appE encBL_ok (i := 0) rfl sl_Ty_S_S_uint8 (hs.belowE H1.below) (by simp; omega) (by simp; omega) ?_; intro x_a x_c w2 H2
    rw [List.nil_append] at H2 ⊢
    exact ⟨x_a, x_c, rfl, H2⟩
end
end Go.Proofs.YtmbppohkadmjgaaGreat
namespace Go.Proofs.YtmbppohkadmjgaaGreat
open Go.Sx Go.RowKit
set_option maxRecDepth 100000
theorem stOnly {A0 : Nat → Prop} {M : List Nat} {w0 w : World} {R : List Res} {P : World → Prop} (H : St A0 M w0 w R P) {i : Nat} {r : Res} (hi : R[i]? = some r) : St A0 M w0 w [r] P :=
  H.sub (fun _ => i) (fun j s h => by cases j with
    | zero => simp at h; subst h; exact hi
    | succ j => simp at h) (fun i j hi hj _ => by simp at hi hj; omega)
def encSp (y : Int × Int) : List Value := [.int .i64 y.1, .int .i64 y.2]
theorem encSp_ok : Enc encSp 2 := ⟨fun _ => rfl, fun _ => rfl⟩
def startP (l : Lk) (us : List (List Int)) : Pl := ⟨⟨l, 0, 0, [], 0, -1, 0, false⟩, ⟨l, 0, 0, 0, -1, 0, 0, false, []⟩, us, [], [], []⟩
def stepsP (p : Pl) (ST : List (Int × Int)) : Pl := ST.foldl (fun p y => stepP p y.1 y.2) p
section
variable {A : Nat → Prop} {l : Lk} {U : List BL} {ua sta : Option Addr} {uc stc : Nat} {ST : List (Int × Int)} {w : World} {I : Pl → Prop}
theorem amlink_begin_ct (hlk : lkOk l) (hQ : Held A w fun w => QL U ua w ∧ SlR (CE encSp) 2 w sta ST) (hw : (U.any fun y => wrongB y.d) = false) (hul : U.length ≤ 256) (hsl : ST.length ≤ 400)
    (ha : ∀ y ∈ ST, -9223372036854775808 ≤ y.2 ∧ y.2 ≤ 9223372036854775807) (hI : ∀ p, I p → Fits p) (hIs : ∀ p k a, I p → I (stepP p k a)) (hI0 : I (startP l (ds U))) :
    Calls Tryz.prog N_amlink_begin #[.agg #[.int .i64 l.bits, .int .i64 l.every, .int .i64 l.poll, .int .i64 l.wait, .int .i64 l.quiet, .int .i64 l.tries], .slice ua U.length uc, .slice sta ST.length stc] w fun e w' =>
      ∃ b, e = .returned (.tuple #[.pointer (some ⟨b, 0, none⟩), .int .i64 0]) ∧ Sim A w w' b 500 (stepsP (startP l (ds U)) ST) (fun _ => True) ∧ I (stepsP (startP l (ds U)) ST) := by
  apply F_amlink_begin_ok
  unfold F_amlink_begin
  have H := St.start hQ
  refine H.alloc ?_; clear H; intro b w1 H1
  simp only [List.nil_append] at H1
  refine ⟨_, _, _, _, _, _, H1.cells (i := 0) rfl, ?_⟩
  have C := sender_New_ct (l := l) (w := w1)
  rw [newS, if_pos hlk] at C
  refine C.mono ?_; clear C
  rintro _ w2 hh; obtain ⟨sa, sc, rfl, -, hb2⟩ := hh.read; have H2 := H1.pass hb2; clear H1 hh
  refine ⟨_, _, _, _, _, _, _, _, _, _, _, _, _, _, _, _, rfl, ?_⟩
  refine H2.alloc ?_; clear H2; intro b1 w3 H3
  simp only [List.cons_append, List.nil_append] at H3
  refine H3.store (i := 1) rfl (by rfl) (by rfl) ?_; clear H3; intro w4 H4
  simp only [List.set_cons_succ, List.set_cons_zero] at H4
  refine bsplit_nd (fun c => absurd rfl c) (fun _ => ?_)
  refine ⟨_, _, _, _, _, _, H4.cells (i := 0) rfl, ?_⟩
  have C := receiver_New_ct (l := l) (w := w4)
  rw [newRc, if_pos hlk] at C
  refine C.mono ?_; clear C
  rintro _ w5 ⟨rfl, -, hb5⟩; have H5 := H4.pass hb5; clear H4
  refine ⟨_, _, _, _, _, _, _, _, _, _, _, _, _, _, _, _, _, rfl, ?_⟩
  refine H5.alloc ?_; clear H5; intro b2 w6 H6
  simp only [List.cons_append, List.nil_append] at H6
  refine H6.store (i := 2) rfl (by rfl) (by rfl) ?_; clear H6; intro w7 H7
  simp only [List.set_cons_succ, List.set_cons_zero] at H7
  refine bsplit_nd (fun c => absurd rfl c) (fun _ => ?_)
  refine ⟨fun w9 => St A [] w w9 [.blk b Ty_api_Link [.int .i64 l.bits, .int .i64 l.every, .int .i64 l.poll, .int .i64 l.wait, .int .i64 l.quiet, .int .i64 l.tries], .blk b1 Ty_api_Sender (encSd ⟨l, 0, 0, [], 0, -1, 0, false⟩ sa sc), .blk b2 Ty_api_Receiver (encRc ⟨l, 0, 0, 0, -1, 0, 0, false, []⟩ none 0)] (fun w => QL U ua w ∧ SlR (CE encSp) 2 w sta ST), ?_, ?_⟩
  · rintro _ w9 H9
    clear H7
    refine H9.drew ?_; clear H9; intro w10 H10
    refine ⟨fun q => q < w10.heap.size, ?_⟩
    refine ⟨H10.lt (i := 1) rfl rfl, ?_⟩
    refine ⟨_, _, _, _, _, _, _, _, _, _, _, _, _, _, _, H10.cells (i := 1) rfl, ?_⟩
    refine ⟨H10.lt (i := 2) rfl rfl, ?_⟩
    refine ⟨_, _, _, _, _, _, _, _, _, _, _, _, _, _, _, _, H10.cells (i := 2) rfl, ?_⟩
    refine (cloneUnits_ct H10.get.1.1 (by omega)).mono ?_
    rintro _ w11 ⟨ca, cc, rfl, K⟩
    have hb11 := K.below
    have H11 := H10.callR K; clear H10 K
    refine ⟨_, _, _, rfl, ?_⟩
    refine ⟨hb11.keeps, hb11.keeps, ?_⟩
    simp only [List.cons_append, List.nil_append] at H11
    have hcap := H11.capE (i := 3) rfl
    have hca : U ≠ [] → ∃ g, ca = some g := fun hne => by
      obtain ⟨g, hg, -⟩ := H11.rowSome (i := 3) rfl (by cases U with | nil => exact absurd rfl hne | cons x y => simp)
      exact ⟨_, hg⟩
    have H11 := H11.shareE encBL_ok (i := 3) rfl
    simp only [List.set_cons_succ, List.set_cons_zero] at H11
    refine H11.allocB ?_; clear H11; intro b3 w12 hb12 H12
    refine ⟨(below_step hb11 (Nat.le_refl _) hb12).keeps, ?_⟩
    have H13 := ((((stOnly H12 (i := 4) rfl).nilE encBL Ty_S_uint8 1).nilE encBL Ty_S_uint8 1).nilE encBL Ty_S_uint8 1)
    clear H12
    obtain ⟨x0, hx0⟩ : ∃ x0 : Am, x0 = ⟨⟨l, 0, 0, [], 0, -1, 0, false⟩, sa, sc, ⟨l, 0, 0, 0, -1, 0, 0, false, []⟩, none, 0, ⟨ca, cc, U, 0, ca⟩, Qu.nil, Qu.nil, Qu.nil⟩ := ⟨_, rfl⟩
    have hS : Sim A w w12 b3 0 (startP l (ds U)) fun w => SlR (CE encSp) 2 w sta ST := by
      refine ⟨x0, by rw [hx0]; rfl, ?_, ?_, ?_⟩
      · rw [hx0]
        refine ⟨⟨Nat.zero_le _, fun u hu => (by cases hu)⟩, gp_nil, ⟨Nat.zero_le _, by show U.length ≤ 1000000; omega, .inl (slA0 _ _).symm⟩, hcap, Qu.nil_ok, Nat.le_refl _, fun y hy => (by cases hy), Qu.nil_ok, Nat.le_refl _, fun y hy => (by cases hy), Qu.nil_ok, Nat.le_refl _⟩
      · rw [hx0]; exact hca
      · rw [hx0]
        exact St.imp (P := fun w => SlR (CE encBL) 1 w ca U ∧ QL U ua w ∧ SlR (CE encSp) 2 w sta ST) H13 fun w h => ⟨⟨.nil, .nil, ⟨h.1, h.2.1.2⟩, fun y hy => (by cases hy), fun y hy => (by cases hy), fun y hy => (by cases hy)⟩, h.2.2⟩
    clear H13
    refine ⟨fun k => ((ST.length - k).toNat, fun w13 => ∃ n : Nat, k = n ∧ n ≤ ST.length ∧ Sim A w w13 b3 n (stepsP (startP l (ds U)) (ST.take n)) (fun w => SlR (CE encSp) 2 w sta ST) ∧ I (stepsP (startP l (ds U)) (ST.take n))), ⟨0, rfl, Nat.zero_le _, hS, hI0⟩, ?_⟩
    clear hS
    rintro _ k w13 ⟨n, rfl, hn, H13, hIn⟩
    refine bsplit_dec (fun c => ?_) (fun c => ?_)
    · have hlt : n < ST.length := by omega
      obtain ⟨x, hxp, hxo, hxu, H14⟩ := H13
      refine ixE H14.get.2 n rfl hlt fun b4 y hy hb4 => ?_
      obtain rfl : ST[n] = y := by rw [List.getElem?_eq_getElem hlt] at hy; exact Option.some.inj hy
      refine ⟨_, _, hb4, ?_⟩
      refine H14.alloc ?_; clear H14; intro b5 w14 H15
      simp only [List.cons_append, List.nil_append] at H15
      refine H15.store (i := 4) rfl (by rfl) (by rfl) ?_; clear H15; intro w15 H16
      simp only [List.set_cons_succ, List.set_cons_zero] at H16
      refine ⟨_, _, H16.cells (i := 4) rfl, ?_⟩
      refine ⟨by kernel_rfl, ?_⟩
      have H17 : Sim A w w15 b3 n (stepsP (startP l (ds U)) (ST.take n)) (fun w => SlR (CE encSp) 2 w sta ST) := ⟨x, hxp, hxo, hxu, St.left (X := [_, _, _, _]) H16⟩
      refine sim_step H17 (hI _ hIn) (by omega) (ha _ (List.getElem_mem hlt)) fun w16 H18 => ?_
      refine ⟨rfl, ?_⟩
      refine kW_i64 (by omega) ?_
      have e : stepsP (startP l (ds U)) (ST.take (n + 1)) = stepP (stepsP (startP l (ds U)) (ST.take n)) ST[n].1 ST[n].2 := by
        unfold stepsP
        rw [List.take_add_one, List.getElem?_eq_getElem hlt, List.foldl_append]; rfl
      exact ⟨⟨n + 1, by omega, by omega, by rw [e]; exact H18, by rw [e]; exact hIs _ _ _ hIn⟩, by dsimp only; omega⟩
    · obtain rfl : n = ST.length := by omega
      rw [List.take_length] at H13 hIn
      refine ⟨b3, rfl, ?_, hIn⟩
      obtain ⟨x, h1, h2, h3, h4⟩ := H13.upTo (n := 500) (by omega)
      exact ⟨x, h1, h2, h3, h4.imp fun w h => ⟨h.1, trivial⟩⟩
  · refine bsplit_dec (fun c => absurd c (by omega)) (fun _ => ?_)
    refine bsplit_dec (fun c => absurd c (by omega)) (fun _ => ?_)
    refine (containsWrong_ct H7.get.1.1 (by omega)).mono ?_
    rintro _ w8 ⟨rfl, hb8⟩; have H8 := H7.pass hb8; clear H7
    refine ⟨_, rfl, ?_⟩
    rw [hw]
    exact bsplit_intro (fun c => by cases c) (fun _ => H8)
end
end Go.Proofs.YtmbppohkadmjgaaGreat
namespace Go.Proofs.YtmbppohkadmjgaaGreat
open Go.Sx Go.RowKit
set_option maxRecDepth 100000
def wayAll : Nat → Pl → Pl
  | 0, p => p
  | n + 1, p => wayAll n (deliverP p false)
def backAll : Nat → Pl → Pl
  | 0, p => p
  | n + 1, p => backAll n (answerP p false)
def roundP (mu : Pl → Nat) (p : Pl) : Pl := endP (buildAll (mu (sendAll (p.us.length + 1) p) + 1) (sendAll (p.us.length + 1) p))
def roundsP (mu : Pl → Nat) : Nat → Pl → Pl
  | 0, p => p
  | n + 1, p => roundP mu (roundsP mu n p)
theorem deliverP_len (p : Pl) : (deliverP p false).wy.length = p.wy.length - 1 := by
  unfold deliverP
  cases h : p.wy with
  | nil => simp [h]
  | cons d l => simp
theorem answerP_len (p : Pl) : (answerP p false).bk.length = p.bk.length - 1 := by
  unfold answerP
  cases h : p.bk with
  | nil => simp [h]
  | cons d l => simp
section
variable {A : Nat → Prop} {l : Lk} {U : List BL} {ua sta : Option Addr} {uc stc : Nat} {ST : List (Int × Int)} {w : World} {I : Pl → Prop} {mu : Pl → Nat} {rounds : Int}
theorem amlink_Finish_ct (hlk : lkOk l) (hQ : Held A w fun w => QL U ua w ∧ SlR (CE encSp) 2 w sta ST) (hw : (U.any fun y => wrongB y.d) = false) (hul : U.length ≤ 256) (hsl : ST.length ≤ 400)
    (ha : ∀ y ∈ ST, -9223372036854775808 ≤ y.2 ∧ y.2 ≤ 9223372036854775807) (hI : Inv I mu) (hIs : ∀ p k a, I p → I (stepP p k a)) (hIt : ∀ p, I p → I (endP p)) (hIsa : ∀ n p, I p → I (sendAll n p)) (hIba : ∀ n p, I p → I (buildAll n p)) (hmu : ∀ p, I p → mu p ≤ 600) (hI0 : I (startP l (ds U))) (hr : 0 ≤ rounds ∧ rounds ≤ 400)
    {Y W : Pl} (hY : Y = wayAll (stepsP (startP l (ds U)) ST).wy.length (stepsP (startP l (ds U)) ST)) (hW : W = backAll Y.bk.length Y) :
    Calls Tryz.prog N_amlink_Finish #[.agg #[.int .i64 l.bits, .int .i64 l.every, .int .i64 l.poll, .int .i64 l.wait, .int .i64 l.quiet, .int .i64 l.tries], .slice ua U.length uc, .slice sta ST.length stc, .int .i64 rounds] w fun e w' =>
      ∃ (L : List BL) (a : Option Addr) (c : Nat), ds L = (roundsP mu rounds.toNat W).ot ∧ e = .returned (.tuple #[.slice a L.length c, .bool (!(roundsP mu rounds.toNat W).s.failed), .int .i64 0]) ∧ St A [] w w' [] (QL L a) := by
  apply F_amlink_Finish_ok
  unfold F_amlink_Finish
  have H := St.start hQ
  refine H.alloc ?_; clear H; intro b w1 H1
  simp only [List.nil_append] at H1
  refine ⟨_, _, _, _, _, _, H1.cells (i := 0) rfl, ?_⟩
  obtain ⟨A1, hA1, hc1⟩ := H1.call
  refine (amlink_begin_ct (A := A1) hlk hA1 hw hul hsl ha hI.fits hIs hI0).mono ?_
  rintro _ w2 ⟨b1, rfl, H2, hI2⟩
  obtain ⟨p0, hp0⟩ : ∃ p0, p0 = stepsP (startP l (ds U)) ST := ⟨_, rfl⟩
  rw [← hp0] at H2 hI2 hY
  have H3 : Sim A w w2 b1 500 p0 (fun _ => True) := by
    obtain ⟨x, h1, h2, h3, h4⟩ := H2
    exact ⟨x, h1, h2, h3, ((hc1 h4).sub (fun i => i + 1) (fun i r hi => by simpa using hi) (fun i j _ _ h => by omega)).imp fun w h => ⟨h.1.1, trivial⟩⟩
  clear H2 hc1 H1
  refine ⟨_, _, rfl, ?_⟩
  refine ⟨fun w3 => Sim A w w3 b1 500 p0 (fun _ => True), ?_, ?_⟩
  · clear H3
    rintro _ w3 H3
    have hN : p0.wy.length ≤ 500 := by
      obtain ⟨x, h1, h2, _⟩ := H3
      rw [← h1]; have := h2.wl
      show (ds x.wy.live).length ≤ 500
      unfold ds Qu.live; simp; omega
    refine ⟨fun k w4 => ∃ p', k = p'.wy.length ∧ k ≤ p0.wy.length ∧ Sim A w w4 b1 (500 + (p0.wy.length - k)) p' (fun _ => True) ∧ I p' ∧ wayAll k p' = Y, ⟨p0.wy.length, p0, rfl, Nat.le_refl _, by rw [Nat.sub_self]; exact H3, hI2, hY.symm⟩, ?_⟩
    clear H3
    rintro _ k w4 ⟨p', rfl, hk, H4, hI4, hY4⟩
    have hld : ∃ (q : Option Addr) (c : Nat), w4.cell? ⟨b1, 28, none⟩ = some (.slice q p'.wy.length c) := by
      obtain ⟨x, h1, _, _, h4⟩ := H4
      refine ⟨x.wy.p, x.wy.c - x.wy.n, ?_⟩
      have := h4.cell (i := 0) (o := 28) rfl (show x.enc[28]? = some x.wy.sl from rfl)
      rw [this, ← h1]
      show some (Value.slice _ _ _) = some (.slice _ (ds x.wy.live).length _)
      unfold ds Qu.live; simp
    obtain ⟨q, c, hld⟩ := hld
    refine kNil_in ?_
    rw [add_mk, Nat.zero_add]
    refine ⟨q, p'.wy.length, c, hld, ?_⟩
    refine bsplit_dec (fun c1 => ?_) (fun c1 => ?_)
    · refine sim_deliver false H4 (by omega) fun w5 H5 => ?_
      have hl := deliverP_len p'
      refine ⟨rfl, p'.wy.length - 1, by omega, deliverP p' false, hl.symm, by omega, H5.upTo (by omega), hI.deliver _ hI4, ?_⟩
      rw [← hY4]
      obtain ⟨j, hj⟩ : ∃ j, p'.wy.length = j + 1 := ⟨p'.wy.length - 1, by omega⟩
      rw [hj]; rfl
    have hY5 : p' = Y := by rw [← hY4, show p'.wy.length = 0 by omega]; rfl
    rw [hY5] at H4 hI4
    replace H4 := H4.upTo (n := 1000) (by omega)
    clear hld hY4 hY5 hk
    have hN : Y.bk.length ≤ 1000 := by
      obtain ⟨x, h1, h2, _⟩ := H4
      rw [← h1]; have := h2.bl
      show (ds x.bk.live).length ≤ 1000
      unfold ds Qu.live; simp; omega
    refine ⟨fun k w6 => ∃ p', k = p'.bk.length ∧ Sim A w w6 b1 1000 p' (fun _ => True) ∧ I p' ∧ backAll k p' = W, ⟨Y.bk.length, Y, rfl, H4, hI4, hW.symm⟩, ?_⟩
    clear H4 hI4
    rintro _ k w6 ⟨p', rfl, H6, hI6, hW6⟩
    have hld : ∃ (q : Option Addr) (c : Nat), w6.cell? ⟨b1, 29, none⟩ = some (.slice q p'.bk.length c) := by
      obtain ⟨x, h1, _, _, h4⟩ := H6
      refine ⟨x.bk.p, x.bk.c - x.bk.n, ?_⟩
      have := h4.cell (i := 0) (o := 29) rfl (show x.enc[29]? = some x.bk.sl from rfl)
      rw [this, ← h1]
      show some (Value.slice _ _ _) = some (.slice _ (ds x.bk.live).length _)
      unfold ds Qu.live; simp
    obtain ⟨q, c, hld⟩ := hld
    refine kNil_in ?_
    rw [add_mk, Nat.zero_add]
    refine ⟨q, p'.bk.length, c, hld, ?_⟩
    refine bsplit_dec (fun c1 => ?_) (fun c1 => ?_)
    · refine sim_answer false H6 (hI.fits _ hI6).an fun w7 H7 => ?_
      have hl := answerP_len p'
      refine ⟨rfl, p'.bk.length - 1, by omega, answerP p' false, hl.symm, H7, hI.answer _ hI6, ?_⟩
      rw [← hW6]
      obtain ⟨j, hj⟩ : ∃ j, p'.bk.length = j + 1 := ⟨p'.bk.length - 1, by omega⟩
      rw [hj]; rfl
    have hW7 : p' = W := by rw [← hW6, show p'.bk.length = 0 by omega]; rfl
    rw [hW7] at H6 hI6
    clear hld hW6 hW7
    refine ⟨fun k => ((rounds - k).toNat, fun w8 => ∃ n : Nat, k = n ∧ k ≤ rounds ∧ Sim A w w8 b1 (1000 + 1204 * n) (roundsP mu n W) (fun _ => True) ∧ I (roundsP mu n W)), ⟨0, rfl, hr.1, H6, hI6⟩, ?_⟩
    clear H6 hI6
    rintro _ k w8 ⟨n, rfl, hk, H8, hI8⟩
    refine bsplit_dec (fun c2 => ?_) (fun c2 => ?_)
    · have hm := hmu _ (hIsa ((roundsP mu n W).us.length + 1) _ hI8)
      refine sim_round hI H8 hI8 (by omega) fun w9 H9 => ?_
      refine ⟨rfl, ?_⟩
      refine kW_i64 (by omega) ?_
      exact ⟨⟨n + 1, by omega, by omega, H9.upTo (by omega), hIt _ (hIba _ _ (hIsa _ _ hI8))⟩, by dsimp only; omega⟩
    · have hn : n = rounds.toNat := by omega
      rw [← hn]
      obtain ⟨x, h1, h2, _, H9⟩ := H8
      refine H9.drew ?_; clear H9; intro w10 H10
      have hcap := H10.capE (i := 3) rfl
      refine kNil_in ?_
      rw [add_mk, Nat.zero_add]
      refine H10.ldS (i := 0) (o := 30) rfl rfl ?_
      refine kNil_in ?_
      rw [add_mk, Nat.zero_add]
      refine ⟨x.s.failed, H10.cell (i := 0) (o := 12) rfl rfl, ?_⟩
      refine ⟨x.ot.live, x.ot.p, x.ot.c - x.ot.n, by rw [← h1]; rfl, ?_, ?_⟩
      · rw [← h1]
        have : x.ot.live.length = x.ot.all.length - x.ot.n := by simp [Qu.live]
        rw [this]; rfl
      · exact ((H10.shareE encBL_ok (i := 3) rfl).fin).imp fun w h => ⟨Qu.sl_live h2.oo hcap h.1, h.2.1.2.2.2.2.2⟩
  · refine kLet_in ?_
    refine bsplit_nd (fun c => absurd rfl c) (fun _ => ?_)
    refine bsplit_dec (fun c => absurd c (by omega)) (fun _ => ?_)
    refine kLet_in ?_
    exact bsplit_dec (fun c => absurd c (by omega)) (fun _ => H3)
end
end Go.Proofs.YtmbppohkadmjgaaGreat
namespace Go.Proofs.YtmbppohkadmjgaaGreat
open Go.Sx Go.RowKit
set_option maxRecDepth 100000
section
variable {A : Nat → Prop} {l : Lk} {U : List BL} {ua sta : Option Addr} {uc stc : Nat} {ST : List (Int × Int)} {w : World} {I : Pl → Prop}
end
end Go.Proofs.YtmbppohkadmjgaaGreat
namespace Go.Proofs.YtmbppohkadmjgaaGreat
open Go.Sx Go.RowKit
set_option maxRecDepth 100000
def totU (L : List Un) : Nat := (L.map fun u => u.data.length).sum
def totL (L : List (List Int)) : Nat := (L.map fun d => d.length).sum
def leftN (u : Un) : Nat := ((u.data.length : Int) - u.sent).toNat + (u.again.map fun r => (r.t - r.f).toNat).sum
def muP (p : Pl) : Nat := (p.s.units.map leftN).sum
structure IvP (p : Pl) : Prop where
  s : OkS p.s
  gu : GU p.s.units
  r : p.r.okB = true
  gp : GP p.r.parts
  us : ∀ d ∈ p.us, Bytes d
  wy : ∀ d ∈ p.wy, Bytes d
  bk : ∀ d ∈ p.bk, Bytes d
  tot : totU p.s.units + totL p.us ≤ 600
theorem sum_set {α : Type} (f : α → Nat) (x : α) : ∀ (L : List α) (k : Nat) (hk : k < L.length), ((L.set k x).map f).sum + f L[k] = (L.map f).sum + f x
  | [], k, hk => absurd hk (Nat.not_lt_zero _)
  | y :: L, 0, _ => by simp; omega
  | y :: L, k + 1, hk => by
    have := sum_set f x L k (by simpa using hk)
    simp only [List.set_cons_succ, List.map_cons, List.sum_cons, List.getElem_cons_succ]
    omega
theorem norm_sum : ∀ {L : List Rg} {p m : Int}, normB p L = true → (∀ r ∈ L, r.t ≤ m) → (((L.map fun r => (r.t - r.f).toNat).sum : Nat) : Int) ≤ max 0 (m - p - 1)
  | [], p, m, _, _ => by simp; omega
  | x :: L, p, m, h, hm => by
    simp only [normB, Bool.and_eq_true, decide_eq_true_eq] at h
    have h1 := hm x (by simp)
    have := norm_sum (m := m) h.2 fun r hr => hm r (by simp [hr])
    simp only [List.map_cons, List.sum_cons, Int.natCast_add]
    omega
theorem leftN_le {l : Lk} {u : Un} (h : unB l u = true) : leftN u ≤ u.data.length := by
  obtain ⟨⟨-, -, h3, -⟩, h1, h2⟩ := unB_iff.1 h
  have := norm_sum (m := u.sent) h1 fun r hr => (h2 r hr).2
  unfold leftN
  omega
theorem leftN_take {l : Lk} {u : Un} {n : Int} (h : unB l u = true) (hn : 1 ≤ n) (hn2 : (partU u).f + n ≤ (partU u).t) : leftN (takeU u n) < leftN u := by
  unfold partU at hn2
  unfold takeU leftN
  cases ha : u.again with
  | nil =>
    rw [ha] at hn2
    dsimp only at hn2 ⊢
    simp; omega
  | cons r t =>
    rw [ha] at hn2
    dsimp only at hn2 ⊢
    split
    · simp only [List.map_cons, List.sum_cons]; omega
    · simp only [List.map_cons, List.sum_cons]; omega
theorem mu_le {p : Pl} (h : IvP p) : muP p ≤ 600 := by
  have key : ∀ L : List Un, (∀ u ∈ L, unB p.s.lk u = true) → (L.map leftN).sum ≤ totU L := by
    intro L
    induction L with
    | nil => intro _; exact Nat.le_refl _
    | cons u L ih =>
      intro hu
      have h1 := leftN_le (hu u (by simp))
      have h2 := ih fun v hv => hu v (by simp [hv])
      unfold totU at h2 ⊢
      simp only [List.map_cons, List.sum_cons]; omega
  have h1 := key p.s.units fun u hu => (h.s.all u hu).1
  have h2 := h.tot
  unfold muP; omega
theorem buildT_ok (s : Sd) (k : Nat) (u : Un) (q : Pc) : (buildT s k u q).2.2 = 0 := by unfold buildT; dsimp only; split <;> rfl
theorem build_err {s : Sd} {size E : Int} (h : (buildS s size E).2.2 ≠ 0) : (buildS s size E).2.1 = [] := by
  unfold buildS at h ⊢
  by_cases hE : E ≠ 0
  · rw [if_pos hE]
  rw [if_neg hE] at h ⊢
  by_cases hz : ¬ (0 ≤ size ∧ size ≤ 4096)
  · rw [if_pos hz]
  rw [if_neg hz] at h ⊢
  by_cases hl : leftI s.units < 0
  · rw [if_pos hl]
  rw [if_neg hl] at h ⊢
  cases hu : s.units[(leftI s.units).toNat]? with
  | none => rfl
  | some u =>
    rw [hu] at h
    dsimp only at h ⊢
    by_cases hc : (cutP s.lk.bits (pieceU u) size).2.2 ≠ 0
    · rw [if_pos hc]
    rw [if_neg hc] at h
    exact absurd (buildT_ok _ _ _ _) h
theorem build_len {s : Sd} {size E : Int} (h : OkS s) : (buildS s size E).2.1.length ≤ 100000 := by
  by_cases c : (buildS s size E).2.2 = 0
  · obtain ⟨k, hk, q, -, hqo, hb, -⟩ := build_piece h c
    obtain ⟨_, _, _, _, _, _, _, h8⟩ := hqo
    rw [hb]
    unfold Pc.bytes
    split <;> simp <;> omega
  · rw [build_err c]; simp
theorem rep_err {s : Rc} {size : Int} (h : (repR s size).2.1 ≠ []) : (repR s size).2.1 = (encS s.lk.bits (fitR s.lk.bits (statR s).1 size).1).1 := by
  unfold repR at h ⊢
  by_cases h1 : s.okB = false
  · rw [if_pos h1] at h; exact absurd rfl h
  rw [if_neg h1] at h ⊢
  by_cases h2 : size < 0 ∨ size > 4096
  · rw [if_pos h2] at h; exact absurd rfl h
  rw [if_neg h2] at h ⊢
  by_cases h3 : s.due = false ∨ s.quiet > 0
  · rw [if_pos h3] at h; exact absurd rfl h
  rw [if_neg h3] at h ⊢
  dsimp only at h ⊢
  by_cases h4 : (fitR s.lk.bits (statR s).1 size).2 ≠ 0
  · rw [if_pos h4] at h; exact absurd rfl h
  rw [if_neg h4]
theorem encS_len (b : Int) (s : Stt) : (encS b s).1.length ≤ 100000 := by
  unfold encS
  split
  · rename_i h
    have h1 := bytesS_sum s
    have h2 : ∀ L : List Rg, sumS L ≤ 6 * L.length := by
      intro L
      induction L with
      | nil => exact Int.le_refl _
      | cons r L ih =>
        have hz : szR r ≤ 6 := by unfold szR; split <;> omega
        simp only [sumS, List.length_cons]; omega
    have h3 := h2 s.miss
    have h4 := h.2.2.1
    dsimp only
    omega
  · simp
theorem repR_len {s : Rc} {size : Int} : (repR s size).2.1.length ≤ 100000 := by
  by_cases c : (repR s size).2.1 = []
  · rw [c]; simp
  · rw [rep_err c]; exact encS_len _ _
theorem decS_miss (b : Int) (bs : List Int) : (decS b bs).1.miss.length ≤ 64 := by
  unfold decS
  split
  · simp [Stt.zero]
  · split
    · simp [Stt.zero]
    · split
      · rename_i h; exact h.1.2.2.1
      · simp [Stt.zero]
theorem answer_gu {s : Sd} {bs : List Int} (h : GU s.units) : GU (answerS s bs).units := by
  unfold answerS
  split
  · exact rep_gu h (by have := decS_miss s.lk.bits bs; omega)
  · exact h
theorem tick_guP {p : Pl} (h : GU p.s.units) : GU (tickP p).s.units := by
  unfold tickP
  dsimp only
  split
  · exact tick_gu h
  · exact h
theorem iv_fits {p : Pl} (h : IvP p) : Fits p :=
  ⟨fun _ => ⟨build_bytes h.gu, build_len h.s, (build_gu h.gu).1⟩, fun _ => ⟨(rep_gp h.gp).2, repR_len, (rep_gp h.gp).1⟩, (tick_guP h.gu).1,
    fun d l _ => ⟨by have := decS_miss p.s.lk.bits d; omega, (answer_gu h.gu).1⟩, fun d l hd => (sub_gu h.gu (h.us d (by rw [hd]; simp))).1⟩
theorem iv_send {p : Pl} (h : IvP p) : IvP (sendP p).1 := by
  unfold sendP
  cases hu : p.us with
  | nil => exact h
  | cons d l =>
    dsimp only
    split
    · rename_i he
      obtain ⟨h1, h2, h3⟩ := sub_ok h.s he
      have hus := h.us
      have ht := h.tot
      rw [hu] at hus ht
      refine ⟨h1, sub_gu h.gu (hus d (by simp)), h.r, h.gp, fun x hx => hus x (by simp [show x ∈ l from hx]), h.wy, h.bk, ?_⟩
      have e : (subS p.s d (begE p.s)).1.units = p.s.units ++ [⟨p.s.next, d, 0, 0, []⟩] := by
        unfold subS at he ⊢
        split at he
        · exact absurd he (by assumption)
        · rename_i c1
          rw [if_neg c1]
          split at he
          · exact absurd he (by decide)
          · rename_i c2
            rw [if_neg c2]
            split at he
            · exact absurd he (by decide)
            · rename_i c3
              rw [if_neg c3]
      show totU (subS p.s d (begE p.s)).1.units + totL l ≤ 600
      rw [e]
      unfold totU totL at *
      simp only [List.map_append, List.map_cons, List.map_nil, List.sum_append, List.sum_cons, List.sum_nil] at ht ⊢
      omega
    · exact h
theorem build_tot {s : Sd} {size E : Int} (h : OkS s) (he : (buildS s size E).2.2 = 0) : totU (buildS s size E).1.units = totU s.units ∧ ((buildS s size E).1.units.map leftN).sum < (s.units.map leftN).sum := by
  obtain ⟨k, hk, q, -, -, -, -, hqf, h1, h2, -, hu, -⟩ := build_piece h he
  rw [hu]
  have a1 := sum_set (fun u : Un => u.data.length) (takeU s.units[k] q.data.length) s.units k hk
  have a2 := sum_set leftN (takeU s.units[k] q.data.length) s.units k hk
  rw [show (takeU s.units[k] q.data.length).data.length = s.units[k].data.length by rw [(takeU_data _ _).1]] at a1
  have a3 := leftN_take (n := q.data.length) (h.all _ (List.getElem_mem hk)).1 (by omega) h2
  unfold totU
  exact ⟨by omega, by omega⟩
theorem iv_build {p : Pl} (h : IvP p) (size : Int) : IvP (buildP p size).1 := by
  unfold buildP
  split
  · rename_i he
    obtain ⟨h1, h2, h3⟩ := build_ok h.s he
    refine ⟨h1, build_gu h.gu, h.r, h.gp, h.us, fun d hd => ?_, h.bk, ?_⟩
    · rcases List.mem_append.1 hd with hd | hd
      · exact h.wy d hd
      · rw [List.mem_singleton] at hd
        rw [hd]; exact build_bytes h.gu
    · show totU (buildS p.s size (begE p.s)).1.units + totL p.us ≤ 600
      rw [(build_tot h.s he).1]; exact h.tot
  · exact h
theorem iv_deliver {p : Pl} (h : IvP p) (keep : Bool) : IvP (deliverP p keep) := by
  unfold deliverP
  cases hw : p.wy with
  | nil => exact h
  | cons d l =>
    have hwy := h.wy
    rw [hw] at hwy
    have hd := hwy d (by simp)
    refine ⟨h.s, h.gu, ?_, ?_, h.us, ?_, h.bk, h.tot⟩
    · dsimp only; split
      · exact h.r
      · exact rec_ok h.r fun _ _ => decP_good
    · dsimp only; split
      · exact h.gp
      · exact (rec_gp h.gp hd).1
    · intro x hx
      dsimp only at hx
      cases keep with
      | true => exact hwy x hx
      | false => exact hwy x (by simp [show x ∈ l from hx])
theorem iv_report {p : Pl} (h : IvP p) (size : Int) : IvP (reportP p size) := by
  unfold reportP
  split
  · rename_i he
    refine ⟨h.s, h.gu, (Go.Sx.rep_ok h.r he).2, (rep_gp h.gp).1, h.us, h.wy, fun d hd => ?_, h.tot⟩
    rcases List.mem_append.1 hd with hd | hd
    · exact h.bk d hd
    · rw [List.mem_singleton] at hd
      rw [hd]; exact (rep_gp h.gp).2
  · exact h
theorem tot_filter {g : Un → Option Un} (hg : ∀ u v, g u = some v → v.data = u.data) : ∀ L : List Un, totU (L.filterMap g) ≤ totU L
  | [] => Nat.le_refl _
  | u :: L => by
    have := tot_filter hg L
    unfold totU at *
    cases hu : g u with
    | none => rw [List.filterMap_cons_none hu]; simp only [List.map_cons, List.sum_cons]; omega
    | some v =>
      rw [List.filterMap_cons_some hu]
      have e := congrArg List.length (hg u v hu)
      simp only [List.map_cons, List.sum_cons]; omega
theorem iv_answer {p : Pl} (h : IvP p) (keep : Bool) : IvP (answerP p keep) := by
  unfold answerP
  cases hw : p.bk with
  | nil => exact h
  | cons d l =>
    have hbk := h.bk
    rw [hw] at hbk
    have hgu := answer_gu (bs := d) h.gu
    have key : OkS (answerS p.s d) ∧ totU (answerS p.s d).units ≤ totU p.s.units := by
      unfold answerS
      split
      · rename_i he
        obtain ⟨h1, h2, h3, -⟩ := rep_okD h.s he.2
        exact ⟨h1, by rw [h3]; exact tot_filter (fun u v huv => (repU_some huv).2.1) _⟩
      · exact ⟨h.s, Nat.le_refl _⟩
    refine ⟨key.1, hgu, h.r, h.gp, h.us, h.wy, ?_, ?_⟩
    · intro x hx
      dsimp only at hx
      cases keep with
      | true => exact hbk x hx
      | false => exact hbk x (by simp [show x ∈ l from hx])
    · show totU (answerS p.s d).units + totL p.us ≤ 600
      have := h.tot
      have := key.2
      omega
theorem tot_set {L : List Un} {k : Nat} {x : Un} (hk : k < L.length) (hx : x.data = L[k].data) : totU (L.set k x) = totU L := by
  have := sum_set (fun u : Un => u.data.length) x L k hk
  have e : x.data.length = L[k].data.length := by rw [hx]
  unfold totU
  omega
theorem tick_tot {s : Sd} {E : Int} (he : (tickS s E).2 = 0) : totU (tickS s E).1.units = totU s.units := by
  unfold tickS at he ⊢
  split at he
  · exact absurd he (by assumption)
  · rename_i c1
    rw [if_neg c1]
    split
    · rfl
    · split
      · rfl
      · dsimp only
        unfold tickT
        split
        · rfl
        · unfold lastS
          dsimp only
          split
          · rfl
          · rename_i u hu
            obtain ⟨hk, hku⟩ := List.getElem?_eq_some_iff.1 hu
            split
            · exact tot_set hk (by rw [hku]; rfl)
            · exact tot_set hk (by rw [hku]; rfl)
theorem iv_tick {p : Pl} (h : IvP p) : IvP (tickP p) := by
  have hg := tick_guP h.gu
  unfold tickP at hg ⊢
  refine ⟨?_, hg, ?_, ?_, h.us, h.wy, h.bk, ?_⟩
  · dsimp only; split
    · rename_i he; exact (tick_okD h.s he).1
    · exact h.s
  · dsimp only; split
    · exact Go.Sx.tick_ok h.r
    · exact h.r
  · dsimp only; split
    · exact tick_gp h.gp
    · exact h.gp
  · dsimp only; split
    · rename_i he
      rw [tick_tot he]; exact h.tot
    · exact h.tot
theorem iv_lose {p : Pl} (h : IvP p) : IvP (loseP p) := ⟨h.s, h.gu, h.r, h.gp, h.us, fun d hd => h.wy d (List.mem_of_mem_tail hd), h.bk, h.tot⟩
theorem iv_loseB {p : Pl} (h : IvP p) : IvP (loseBP p) := ⟨h.s, h.gu, h.r, h.gp, h.us, h.wy, fun d hd => h.bk d (List.mem_of_mem_tail hd), h.tot⟩
theorem iv_step {p : Pl} (k a : Int) (h : IvP p) : IvP (stepP p k a) := by
  unfold stepP
  split
  · exact iv_send h
  · split
    · exact iv_build h a
    · split
      · exact iv_deliver h _
      · split
        · exact iv_deliver h _
        · split
          · exact iv_lose h
          · split
            · exact iv_report h a
            · split
              · exact iv_answer h _
              · split
                · exact iv_answer h _
                · split
                  · exact iv_loseB h
                  · split
                    · exact iv_tick h
                    · exact h
theorem deliver_s (p : Pl) (keep : Bool) : (deliverP p keep).s = p.s := by unfold deliverP; split <;> rfl
theorem iv_inv : Inv IvP muP := by
  refine ⟨fun p h => iv_fits h, fun p h => iv_send h, fun p h => iv_build h _, fun p h => iv_deliver h _, fun p h => iv_report h _, fun p h => iv_answer h _, fun p h hb => ?_⟩
  unfold muP
  rw [deliver_s]
  unfold buildP at hb ⊢
  split at hb
  · rename_i he
    rw [if_pos he]
    exact (build_tot h.s he).2
  · cases hb
theorem iv_sendAll : ∀ (n : Nat) (p : Pl), IvP p → IvP (sendAll n p)
  | 0, _, h => h
  | n + 1, p, h => by
    unfold sendAll
    split
    · exact iv_sendAll n _ (iv_send h)
    · exact iv_send h
theorem iv_buildAll : ∀ (n : Nat) (p : Pl), IvP p → IvP (buildAll n p)
  | 0, _, h => h
  | n + 1, p, h => by
    unfold buildAll
    split
    · exact iv_buildAll n _ (iv_deliver (iv_build h _) _)
    · exact iv_build h _
theorem iv_end {p : Pl} (h : IvP p) : IvP (endP p) := iv_tick (iv_answer (iv_report h _) _)
theorem iv_round {p : Pl} (h : IvP p) : IvP (roundP muP p) := iv_end (iv_buildAll _ _ (iv_sendAll _ _ h))
theorem iv_start {l : Lk} (hl : lkOk l) {us : List (List Int)} (hb : ∀ d ∈ us, Bytes d) (ht : totL us ≤ 600) : IvP (startP l us) := by
  have h0 : snOk l.bits 0 := by
    unfold snOk
    rcases pow_bits hl.1 with h | h | h | h | h <;> rw [h] <;> omega
  exact ⟨new_okD hl h0, gu_nil, Go.Sx.new_ok hl h0, gp_nil, hb, fun d hd => by simp [startP] at hd, fun d hd => by simp [startP] at hd, by show totU [] + totL us ≤ 600; unfold totU; simpa using ht⟩
end Go.Proofs.YtmbppohkadmjgaaGreat
namespace Go.Proofs.YtmbppohkadmjgaaGreat
open Go.Sx Go.RowKit
set_option maxRecDepth 100000
theorem law22_link_ct {w : World} : Calls Tryz.prog N_law22_link #[] w fun e w' => e = .returned (.agg #[.int .i64 5, .int .i64 4, .int .i64 3, .int .i64 3, .int .i64 0, .int .i64 30]) ∧ Below w.heap.size w w' := by
  apply F_law22_link_ok
  unfold F_law22_link
  have H := St.nil w
  refine H.alloc ?_; clear H; intro b w1 H1
  simp only [List.nil_append] at H1
  refine H1.store (i := 0) rfl (by rfl) (by rfl) ?_; clear H1; intro w2 H2
  refine ⟨_, _, _, _, _, _, H2.cells (i := 0) rfl, ?_⟩
  exact ⟨rfl, H2.below⟩
def awS : Pl := stepsP (startP ⟨5, 4, 3, 3, 0, 30⟩ [[1, 2, 3]]) [(1, 0), (2, 100), (4, 0)]
def awY : Pl := wayAll awS.wy.length awS
def awW : Pl := backAll awY.bk.length awY
theorem aw_all : (roundsP muP 10 awW).ot = [[1, 2, 3]] ∧ (roundsP muP 10 awW).s.failed = false := by decide +kernel
theorem aw_link : lkOk ⟨5, 4, 3, 3, 0, 30⟩ := by decide
theorem ds_at {L : List BL} {k : Nat} {d : List Int} (h : (ds L)[k]? = some d) : ∃ y, L[k]? = some y ∧ y.d = d := by
  unfold ds at h
  rw [List.getElem?_map] at h
  cases hk : L[k]? with
  | none => rw [hk] at h; cases h
  | some y => rw [hk] at h; exact ⟨y, rfl, Option.some.inj h⟩
theorem law22_awake_ct {w : World} : Calls Tryz.prog N_law22_awake #[] w fun e w' => e = .returned (.bool true) ∧ Below w.heap.size w w' := by
  apply F_law22_awake_ok
  unfold F_law22_awake
  have H := St.nil w
  refine law22_link_ct.mono ?_
  rintro _ w1 ⟨rfl, hb1⟩; have H1 := H.pass hb1; clear H
  refine ⟨_, _, _, _, _, _, rfl, ?_⟩
  refine H1.alloc ?_; clear H1; intro b w2 H2
  refine H2.alloc ?_; clear H2; intro b1 w3 H3
  refine H3.alloc ?_; clear H3; intro b2 w4 H4
  simp only [List.cons_append, List.nil_append] at H4
  have H5 := H4.litI (k := .u8) (i := 0) [1, 2, 3] rfl (by decide)
  simp only [List.set_cons_zero] at H5
  have H5 := H5.shareI (i := 0) rfl
  have H5 := H5.litE encBL_ok (i := 1) [⟨[1, 2, 3], some ⟨b, 0, none⟩, 3⟩] rfl (by show 1 ≤ maxLen; decide)
  simp only [List.set_cons_zero, List.set_cons_succ] at H5
  have H5 := H5.shareE encBL_ok (i := 1) rfl
  have H5 := H5.litE encSp_ok (i := 2) [(1, 0), (2, 100), (4, 0)] rfl (by decide)
  simp only [List.set_cons_zero, List.set_cons_succ] at H5
  have H5 := H5.shareE encSp_ok (i := 2) rfl
  clear H4
  obtain ⟨A, hA, hc⟩ := H5.call
  have hQ : Held A w4 fun w => QL [⟨[1, 2, 3], some ⟨b, 0, none⟩, 3⟩] (some ⟨b1, 0, none⟩) w ∧ SlR (CE encSp) 2 w (some ⟨b2, 0, none⟩) [(1, 0), (2, 100), (4, 0)] := hA.mono fun w h => by
    refine ⟨⟨h.2.1, fun x hx => ?_⟩, h.1⟩
    obtain rfl : x = ⟨[1, 2, 3], some ⟨b, 0, none⟩, 3⟩ := by simpa using hx
    exact ⟨h.2.2.1, Nat.le_refl 3⟩
  have hI0 : IvP (startP ⟨5, 4, 3, 3, 0, 30⟩ (ds [⟨[1, 2, 3], some ⟨b, 0, none⟩, 3⟩])) := iv_start aw_link (fun d hd => by
    obtain rfl : d = [1, 2, 3] := by simpa [ds] using hd
    exact bytes_mem.2 (by decide)) (by show totL [[1, 2, 3]] ≤ 600; decide)
  refine (amlink_Finish_ct (l := ⟨5, 4, 3, 3, 0, 30⟩) (U := [⟨[1, 2, 3], some ⟨b, 0, none⟩, 3⟩]) (ST := [(1, 0), (2, 100), (4, 0)]) (rounds := 10) (I := IvP) (mu := muP) aw_link hQ (by rfl) (by show 1 ≤ 256; decide) (by decide)
    (fun y hy => by
      have hy : y = (1, 0) ∨ y = (2, 100) ∨ y = (4, 0) := by simpa using hy
      rcases hy with rfl | rfl | rfl <;> decide)
    iv_inv (fun p k a h => iv_step k a h) (fun p h => iv_end h) iv_sendAll iv_buildAll (fun p h => mu_le h) hI0 (by decide) (Y := awY) (W := awW) rfl rfl).mono ?_
  rintro _ w5 ⟨L, a, c, hL, rfl, K⟩
  rw [show (10 : Int).toNat = 10 from rfl] at hL ⊢
  rw [aw_all.1] at hL
  rw [aw_all.2]
  have hlen : L.length = 1 := by have := congrArg List.length hL; simpa [ds] using this
  have H6 := hc K
  obtain ⟨y, hy, hyd⟩ := ds_at (L := L) (k := 0) (d := [1, 2, 3]) (by rw [hL]; rfl)
  have hq := H6.get.1
  have hy3 : y.d.length = 3 := by rw [hyd]; rfl
  refine ⟨_, _, _, _, _, rfl, ?_⟩
  refine bsplit_dec (fun _ => ?_) (fun c => absurd rfl c)
  refine bsplit_intro (fun _ => ?_) (fun c => by cases c)
  refine bsplit_dec (fun _ => ?_) (fun c => absurd (by omega) c)
  refine ixE hq.1 0 rfl (by omega) fun b3 z hz hb3 => ?_
  obtain rfl : y = z := by rw [hy] at hz; exact Option.some.inj hz
  refine ⟨_, _, _, hb3.1, ?_⟩
  refine bsplit_dec (fun _ => ?_) (fun c => absurd (by omega) c)
  refine ixE hq.1 0 rfl (by omega) fun b4 z hz hb4 => ?_
  obtain rfl : y = z := by rw [hy] at hz; exact Option.some.inj hz
  refine ⟨_, _, _, hb4.1, ?_⟩
  have hs := (hq.2 y (List.mem_of_getElem? hy)).1
  rw [hyd] at hs ⊢
  obtain ⟨q, eq, hb5⟩ := hs.get (i := 2) (by decide)
  refine ⟨q, eq, ⟨by omega, by show (2 : Int) < _; decide⟩, ?_⟩
  refine ⟨_, hb5, ?_⟩
  refine kLet_in ?_
  exact ⟨rfl, H6.below⟩
def Numb (us : List (List Int)) : Prop := ∀ k (h : k < us.length), ∃ bs, us[k] = putN 2 k ++ bs ∧ Bytes bs ∧ bs.length ≤ 8
theorem numb_bytes {us : List (List Int)} (h : Numb us) : ∀ d ∈ us, Bytes d ∧ 2 ≤ d.length ∧ d.length ≤ 10 := fun d hd => by
  obtain ⟨k, hk, rfl⟩ := List.getElem_of_mem hd
  obtain ⟨bs, e, h1, h2⟩ := h k hk
  rw [e]
  refine ⟨bytes_mem.2 fun x hx => ?_, by simp [putN_len], by simp [putN_len]; omega⟩
  rcases List.mem_append.1 hx with hx | hx
  · exact bytes_mem.1 (bytes_putN _ _) x hx
  · exact bytes_mem.1 h1 x hx
theorem numb_tot {us : List (List Int)} (h : Numb us) {n : Nat} (hn : us.length ≤ n) : totL us ≤ 10 * n := by
  have key : ∀ L : List (List Int), (∀ d ∈ L, d.length ≤ 10) → totL L ≤ 10 * L.length := by
    intro L
    induction L with
    | nil => intro _; exact Nat.le_refl _
    | cons d L ih =>
      intro hd
      have h1 := hd d (by simp)
      have h2 := ih fun x hx => hd x (by simp [hx])
      unfold totL at h2 ⊢
      simp only [List.map_cons, List.sum_cons, List.length_cons]; omega
  have := key us fun d hd => (numb_bytes h d hd).2.2
  omega
section
variable {g : Nat} {a : Option Addr} {c : Nat} {ts : List Int} {p : Nat} {w : World} {A : Nat → Prop} {P : World → Prop}
theorem law22_numbered_ct (hP : Held A w P) (hts : Rolls a ts P) (hB : (dice g a c ts p).ok w) (hn : ∀ b, (dice g a c ts p).at = some b → ¬ A b) (hp : p ≤ ts.length) {most : Int} (hm : 0 ≤ most ∧ most ≤ 100) :
    Calls Tryz.prog N_law22_numbered #[(.pointer (some ⟨g, 0, none⟩)), (.int .i64 most)] w fun e w' => ∃ (L : List BL) (ra : Option Addr) (rc p' : Nat), e = .returned (.slice ra L.length rc) ∧ Numb (ds L) ∧ (L.length : Int) ≤ most ∧ p' ≤ ts.length ∧
      St A [g] w w' [dice g a c ts p', .els encBL Ty_S_uint8 1 ra rc L] fun w => DaB L w ∧ P w := by
  apply F_law22_numbered_ok
  unfold F_law22_numbered
  have H : St A [g] w w [dice g a c ts p] P := St.startM hP hB hn
  refine kW_i64 (by omega) ?_
  refine dNext H (i := 0) rfl hts hp (by omega) fun v p1 w1 _ hv hp1 H1 => ?_
  have hv := hv (by omega)
  obtain ⟨m, rfl⟩ := natOf hv.1
  have H1 := H1.nilE encBL Ty_S_uint8 1
  refine ⟨fun l_a l_l l_c n => (n.toNat, fun w2 => ∃ (k : Nat) (L : List BL) (p2 : Nat), n = k ∧ L.length + k = m ∧ l_l = L.length ∧ Numb (ds L) ∧ p2 ≤ ts.length ∧ St A [g] w w2 [dice g a c ts p2, .els encBL Ty_S_uint8 1 l_a l_c L] fun w => DaB L w ∧ P w),
    ⟨m, [], p1, rfl, by simp, rfl, fun k h => absurd h (Nat.not_lt_zero _), hp1, H1.imp fun w h => ⟨fun x hx => (by cases hx), h⟩⟩, ?_⟩
  clear H1
  rintro _ l_a l_l l_c n w2 ⟨k, L, p2, rfl, hk, rfl, hL, hp2, H2⟩
  refine bsplit_dec (fun cc => ?_) (fun cc => ?_)
  · have hts2 : Rolls a ts fun w => DaB L w ∧ P w := hts.and _
    have H3 := H2.nilI Ty_uint8 .u8
    simp only [List.cons_append, List.nil_append] at H3
    refine dPut H3 (i := 2) rfl 2 (by decide) (by simp) fun ra rc w3 _ H4 => ?_
    clear H3 H2
    simp only [List.set_cons_succ, List.set_cons_zero, List.nil_append] at H4 ⊢
    refine made_Bytes_ct H4 (i := 0) rfl hts2 hp2 (most := 8) (by omega) fun ra1 rc1 bs p3 w4 hbs hbl hp3 H5 => ?_
    clear H4
    simp only [List.cons_append, List.nil_append, List.set_cons_zero] at H5
    refine H5.appI (i := 2) rfl sl_Ty_S_uint8 (H5.slI (i := 3) rfl) (by simp [putN_len]; omega) (by simp [putN_len]; omega) ?_; intro x_a x_c w5 H6
    clear H5
    simp only [List.set_cons_succ, List.set_cons_zero] at H6
    obtain ⟨d, hd⟩ : ∃ d, d = putN 2 (L.length : Int) ++ bs := ⟨_, rfl⟩
    rw [← hd] at H6
    rw [← hd]
    have hcap := H6.capI (i := 2) rfl
    have H7 := H6.shareMI (i := 2) rfl fun b hb => H6.nat (i := 2) (j := 0) rfl rfl (by decide) hb
    clear H6
    simp only [List.set_cons_succ, List.set_cons_zero] at H7
    refine H7.alloc ?_; clear H7; intro b w6 H8
    simp only [List.cons_append, List.nil_append] at H8
    refine H8.appEB encBL_ok (i := 1) (j := 4) rfl [⟨d, x_a, x_c⟩] rfl sl_Ty_S_S_uint8 rfl (by simp; omega) (by simp; omega) ?_; intro x_a1 x_c1 w7 H9
    clear H8
    simp only [List.set_cons_succ, List.set_cons_zero] at H9
    refine kW_i64 (by omega) ?_
    refine ⟨⟨k - 1, L ++ [(⟨d, x_a, x_c⟩ : BL)], p3, by omega, by simp; omega, by simp, ?_, hp3, (St.left (X := [_, _]) H9).imp fun w h => ⟨?_, h.2.2⟩⟩, by omega⟩
    · intro j hj
      have e : ds (L ++ [⟨d, x_a, x_c⟩]) = ds L ++ [d] := by simp [ds]
      have hdl' : (ds L).length = L.length := by simp [ds]
      simp only [e] at hj ⊢
      rcases Nat.lt_or_ge j (ds L).length with h | h
      · rw [List.getElem_append_left h]; exact hL j h
      · have hj2 : j = L.length := by simp at hj; omega
        subst hj2
        refine ⟨bs, ?_, hbs, by omega⟩
        rw [List.getElem_append_right (by omega)]
        simp [hdl', hd]
    · intro y hy
      rcases List.mem_append.1 hy with hy | hy
      · exact h.2.1 y hy
      · obtain rfl : y = ⟨d, x_a, x_c⟩ := by simpa using hy
        exact ⟨h.1, hcap⟩
  · obtain rfl : k = 0 := by omega
    exact ⟨L, l_a, l_c, p2, rfl, hL, by omega, hp2, H2⟩
end
section
variable {w : World} {L M : List BL} {a b : Option Addr} {c1 c2 : Nat}
theorem ref01_SameAll_ct (ha : QL L a w) (hb : QL M b w) (he : ds L = ds M) (hby : ∀ d ∈ ds L, Bytes d) (hl : L.length ≤ 140737488355328) :
    Calls Tryz.prog N_ref01_SameAll #[(.slice a L.length c1), (.slice b M.length c2)] w fun e w' => e = .returned (.bool true) ∧ Below w.heap.size w w' := by
  apply F_ref01_SameAll_ok
  unfold F_ref01_SameAll
  have H := St.nil w
  have hlen : L.length = M.length := by have := congrArg List.length he; simpa [ds] using this
  refine bsplit_nd (fun c2 => absurd (by omega) c2) (fun _ => ?_)
  refine ⟨fun i => ((L.length - i).toNat, fun w1 => ∃ k : Nat, i = k ∧ k ≤ L.length ∧ FreshR w w1 []), ⟨0, rfl, Nat.zero_le _, H⟩, ?_⟩
  clear H
  rintro _ i w1 ⟨k, rfl, hk, H1⟩
  refine bsplit_dec (fun c1 => ?_) (fun c1 => ?_)
  · refine H1.drew ?_; clear H1; intro w2 H2
    have q1 : QL L a w2 := ⟨ha.1.belowE H2.below, ha.2.below H2.below⟩
    have q2 : QL M b w2 := ⟨hb.1.belowE H2.below, hb.2.below H2.below⟩
    refine ⟨(· < w2.heap.size), ?_⟩
    refine ixE q1.1 k rfl (by omega) fun b1 y hy hb1 => ?_
    refine ⟨_, _, _, hb1.1, ?_⟩
    refine ixE q2.1 k rfl (by omega) fun b2 z hz hb2 => ?_
    refine ⟨_, _, _, hb2.1, ?_⟩
    have hd : y.d = z.d := by
      have h1 : (ds L)[k]? = some y.d := by unfold ds; rw [List.getElem?_map, hy]; rfl
      have h2 : (ds M)[k]? = some z.d := by unfold ds; rw [List.getElem?_map, hz]; rfl
      rw [he, h2] at h1
      exact (Option.some.inj h1).symm
    have hyb : Bytes y.d := hby y.d (List.mem_map.2 ⟨y, List.mem_of_getElem? hy, rfl⟩)
    refine (ref01_Same_ct (q1.2 y (List.mem_of_getElem? hy)).1 (q2.2 z (List.mem_of_getElem? hz)).1 hyb (by rw [← hd]; exact hyb)).mono ?_
    rintro _ w3 ⟨rfl, hb3⟩; have H3 := H2.pass hb3
    refine ⟨_, rfl, ?_⟩
    refine ⟨hb3.keeps, ?_⟩
    rw [decide_eq_true hd]
    refine bsplit_intro (fun c => by cases c) (fun _ => ?_)
    refine kW_i64 (by omega) ?_
    exact ⟨⟨k + 1, by omega, by omega, H3⟩, by dsimp only; omega⟩
  · exact ⟨rfl, H1.below⟩
end
end Go.Proofs.YtmbppohkadmjgaaGreat
namespace Go.Proofs.YtmbppohkadmjgaaGreat
open Go.Sx Go.RowKit
set_option maxRecDepth 100000
def numN (b f : Int) (n : Nat) : Int := (f + n) % 2 ^ b.toNat
def newU (b f : Int) : List (List Int) → List Un
  | [] => []
  | d :: l => ⟨f, d, 0, 0, []⟩ :: newU b ((f + 1) % 2 ^ b.toNat) l
def oldU (b f : Int) : List (List Int) → List Un
  | [] => []
  | d :: l => ⟨f, d, d.length, 0, []⟩ :: oldU b ((f + 1) % 2 ^ b.toNat) l
theorem numN_zero {b f : Int} (hf : snOk b f) : numN b f 0 = f := by
  unfold numN snOk at *
  rw [Int.emod_eq_of_lt (by omega) (by omega)]; omega
theorem numN_ok {b f : Int} (hb : bitsOk b) (n : Nat) : snOk b (numN b f n) := by
  unfold numN snOk
  rcases pow_bits hb with h | h | h | h | h <;> rw [h] <;> omega
theorem numN_succ {b f : Int} (hb : bitsOk b) (n : Nat) : numN b f (n + 1) = (numN b f n + 1) % 2 ^ b.toNat := by
  unfold numN
  rcases pow_bits hb with h | h | h | h | h <;> rw [h] <;> omega
theorem numN_left {b f : Int} (hb : bitsOk b) (n : Nat) : numN b ((f + 1) % 2 ^ b.toNat) n = numN b f (n + 1) := by
  unfold numN
  rcases pow_bits hb with h | h | h | h | h <;> rw [h] <;> omega
theorem numN_way {b f : Int} (hb : bitsOk b) (hf : snOk b f) {n : Nat} (hn : (n : Int) < 2 ^ b.toNat) : way b f (numN b f n) = n := by
  unfold way numN snOk at *
  rcases pow_bits hb with h | h | h | h | h <;> rw [h] at hn hf ⊢ <;> omega
theorem newU_app {b : Int} (hb : bitsOk b) : ∀ (A B : List (List Int)) (f : Int), snOk b f → newU b f (A ++ B) = newU b f A ++ newU b (numN b f A.length) B
  | [], B, f, hf => by rw [show ([] : List (List Int)).length = 0 from rfl, numN_zero hf]; rfl
  | d :: A, B, f, hf => by
    have hs : snOk b ((f + 1) % 2 ^ b.toNat) := numN_ok hb 1
    show (⟨f, d, 0, 0, []⟩ : Un) :: newU b _ (A ++ B) = ⟨f, d, 0, 0, []⟩ :: (newU b _ A ++ newU b (numN b f (A.length + 1)) B)
    rw [newU_app hb A B _ hs, numN_left hb]
theorem oldU_app {b : Int} (hb : bitsOk b) : ∀ (A B : List (List Int)) (f : Int), snOk b f → oldU b f (A ++ B) = oldU b f A ++ oldU b (numN b f A.length) B
  | [], B, f, hf => by rw [show ([] : List (List Int)).length = 0 from rfl, numN_zero hf]; rfl
  | d :: A, B, f, hf => by
    have hs : snOk b ((f + 1) % 2 ^ b.toNat) := numN_ok hb 1
    show (⟨f, d, d.length, 0, []⟩ : Un) :: oldU b _ (A ++ B) = ⟨f, d, d.length, 0, []⟩ :: (oldU b _ A ++ oldU b (numN b f (A.length + 1)) B)
    rw [oldU_app hb A B _ hs, numN_left hb]
theorem oldU_len (b : Int) : ∀ (A : List (List Int)) (f : Int), (oldU b f A).length = A.length
  | [], _ => rfl
  | d :: A, f => by show (oldU b _ A).length + 1 = A.length + 1; rw [oldU_len b A]
theorem oldU_mem (b : Int) : ∀ (A : List (List Int)) (f : Int), ∀ u ∈ oldU b f A, u.again = [] ∧ wholeU u
  | [], _, u, h => by simp [oldU] at h
  | d :: A, f, u, h => by
    rcases List.mem_cons.1 h with rfl | h
    · exact ⟨rfl, rfl⟩
    · exact oldU_mem b A _ u h
theorem newU_mem (b : Int) : ∀ (A : List (List Int)) (f : Int), ∀ u ∈ newU b f A, u.again = []
  | [], _, u, h => by simp [newU] at h
  | d :: A, f, u, h => by
    rcases List.mem_cons.1 h with rfl | h
    · rfl
    · exact newU_mem b A _ u h
def quietR (l : Lk) (g : Int) (due : Bool) : Rc := ⟨l, g, g, g, -1, 0, 0, due, []⟩
theorem quietR_ok {l : Lk} (h : lkOk l) {g : Int} (hg : snOk l.bits g) (due : Bool) : (quietR l g due).okB = true := Go.Sx.new_ok h hg
theorem rec_whole {l : Lk} (hl : lkOk l) {g : Int} (hg : snOk l.bits g) (due : Bool) {d : List Int} {poll : Int} (hq : Pc.ok l.bits ⟨g, 0, poll, 0, d⟩) :
    recS (quietR l g due) (Pc.bytes ⟨g, 0, poll, 0, d⟩) = (quietR l ((g + 1) % 2 ^ l.bits.toNat) (if poll = 1 then true else due), d, 0) := by
  have hb := hl.1
  have hq0 := hq
  obtain ⟨_, _, _, _, _, _, h1, h2⟩ := hq0
  dsimp only at h1 h2
  have hpl : (quietR l g due).place g = 0 := place_self (quietR l g due)
  have hh := pow_bits1 hb
  have hins : insS (quietR l g due) ⟨g, 0, poll, 0, d⟩ = [newPa g] := rfl
  have hat : atP (quietR l g due) g = 0 := rfl
  have hlay : layD [] 0 d = d := by simp [layD]
  have hmg : mergedS (quietR l g due) ⟨g, 0, poll, 0, d⟩ = ⟨g, false, d.length, d, [⟨g, 0, d.length⟩]⟩ := by
    unfold mergedS
    rw [hins]
    show mergeS (newPa g) ⟨g, 0, poll, 0, d⟩ = _
    unfold mergeS newPa
    dsimp only
    rw [show (0 : Int).toNat = 0 from rfl, hlay]
    show (⟨g, false, 0 + (d.length : Int), d, [⟨g, 0, 0 + (d.length : Int)⟩]⟩ : Pa) = _
    rw [Int.zero_add]
  have hcp : compB (mergedS (quietR l g due) ⟨g, 0, poll, 0, d⟩) = true := by
    rw [hmg]; unfold compB; dsimp only; exact decide_eq_true ⟨by omega, rfl, rfl⟩
  have hput : putP (quietR l g due) ⟨g, 0, poll, 0, d⟩ = { quietR l g due with parts := [donePa g], next := (g + 1) % 2 ^ l.bits.toNat } := by
    unfold putP
    rw [hins, hcp]
    dsimp only
    rw [hpl, if_pos (show (0 : Int) ≥ (quietR l g due).place (quietR l g due).next by show (0 : Int) ≥ (quietR l g due).place g; omega)]
    rfl
  have hadv : advS (putP (quietR l g due) ⟨g, 0, poll, 0, d⟩) = quietR l ((g + 1) % 2 ^ l.bits.toNat) due := by
    rw [hput]
    unfold advS adv1
    have hd : dropS l.bits g [donePa g] = ((g + 1) % 2 ^ l.bits.toNat, []) := by
      show dropS l.bits g (donePa g :: []) = _
      rw [dropS, if_pos ⟨rfl, rfl⟩]; rfl
    show adv2 { quietR l g due with parts := (dropS l.bits g [donePa g]).2, next := (g + 1) % 2 ^ l.bits.toNat, first := (dropS l.bits g [donePa g]).1 } = _
    rw [hd]
    unfold adv2
    have e1 : Rc.place { quietR l g due with parts := [], next := (g + 1) % 2 ^ l.bits.toNat, first := (g + 1) % 2 ^ l.bits.toNat } g > Rc.place { quietR l g due with parts := [], next := (g + 1) % 2 ^ l.bits.toNat, first := (g + 1) % 2 ^ l.bits.toNat } ((g + 1) % 2 ^ l.bits.toNat) := by
      show way l.bits ((g + 1) % 2 ^ l.bits.toNat) g > way l.bits ((g + 1) % 2 ^ l.bits.toNat) ((g + 1) % 2 ^ l.bits.toNat)
      unfold way snOk at *
      rcases pow_bits hb with e | e | e | e | e <;> rw [e] at hg ⊢ <;> omega
    exact if_pos e1
  have href : refusedS (quietR l g due) ⟨g, 0, poll, 0, d⟩ = 0 := by
    unfold refusedS
    have hlk : (quietR l g due).lk = l := rfl
    dsimp only
    rw [hpl, hlk, if_neg (by omega)]; rfl
  have hst : startR (quietR l ((g + 1) % 2 ^ l.bits.toNat) due) = quietR l ((g + 1) % 2 ^ l.bits.toNat) due := by
    unfold startR start1
    rw [if_neg (fun h => h.1 rfl)]
    unfold start2
    rw [if_neg (fun h => h.2 rfl)]
  unfold recS
  rw [if_neg (by rw [quietR_ok hl hg due]; decide)]
  dsimp only
  rw [show (quietR l g due).lk.bits = l.bits from rfl, decP_bytesP hq, if_neg (by simp)]
  dsimp only
  rw [href, if_neg (by simp), hadv, hst]
  have hun : unitS (quietR l g due) ⟨g, 0, poll, 0, d⟩ = d := by unfold unitS; rw [hcp, if_pos rfl, hmg]
  rw [hun]
  unfold pollR
  dsimp only
  by_cases hp : poll = 1
  · rw [if_pos hp, if_pos hp]; rfl
  · rw [if_neg hp, if_neg hp]
structure Mid (l : Lk) (f : Int) (A B C O : List (List Int)) (p : Pl) : Prop where
  s : OkS p.s
  lk : p.s.lk = l
  fl : p.s.failed = false
  un : p.s.units = oldU l.bits f A ++ newU l.bits (numN l.bits f A.length) B
  nx : p.s.next = numN l.bits f (A.length + B.length)
  fi : p.s.first = f
  us : p.us = C
  wy : p.wy = []
  bk : p.bk = []
  ot : p.ot = O ++ A
  r : ∃ due, p.r = quietR l (numN l.bits f A.length) due ∧ (B = [] → A ≠ [] → due = true)
section
variable {l : Lk} {f : Int} {A B C O : List (List Int)} {p : Pl}
theorem Mid.lko (h : Mid l f A B C O p) : lkOk l := h.lk ▸ h.s.lk
theorem Mid.fo (h : Mid l f A B C O p) : snOk l.bits f := by have := h.s.first; rw [h.lk, h.fi] at this; exact this
theorem Mid.place (h : Mid l f A B C O p) (hn : A.length + B.length ≤ 2 ^ (l.bits - 1).toNat) : p.s.place p.s.next = ((A.length + B.length : Nat) : Int) := by
  have hp := pow_bits1 h.lko.1
  unfold Sd.place
  rw [h.lk, h.fi, h.nx]
  refine numN_way h.lko.1 h.fo ?_
  have : ((A.length + B.length : Nat) : Int) ≤ ((2 ^ (l.bits - 1).toNat : Nat) : Int) := by exact_mod_cast hn
  rw [Int.natCast_pow] at this
  have e : ((2 : Nat) : Int) = 2 := rfl
  rw [e] at this
  omega
theorem half_cast (b : Int) (n : Nat) : (n : Int) < 2 ^ (b - 1).toNat ↔ n < 2 ^ (b - 1).toNat := by
  have : ((2 ^ (b - 1).toNat : Nat) : Int) = 2 ^ (b - 1).toNat := by rw [Int.natCast_pow]; rfl
  rw [← this]; exact Int.ofNat_lt
theorem send_all : ∀ (n : Nat) (B C : List (List Int)) (p : Pl), Mid l f [] B C O p → C.length < n → B.length ≤ 2 ^ (l.bits - 1).toNat → (∀ d ∈ C, 1 ≤ d.length ∧ d.length ≤ 2054) →
    ∃ B' C', B' ++ C' = B ++ C ∧ B'.length ≤ 2 ^ (l.bits - 1).toNat ∧ (C' = [] ∨ B'.length = 2 ^ (l.bits - 1).toNat) ∧ Mid l f [] B' C' O (sendAll n p)
  | 0, _, _, _, _, hn, _, _ => absurd hn (Nat.not_lt_zero _)
  | n + 1, B, C, p, h, hn, hB, hC => by
    have hb := h.lko.1
    cases C with
    | nil =>
      refine ⟨B, [], rfl, hB, .inl rfl, ?_⟩
      have e : sendP p = (p, false) := by unfold sendP; rw [h.us]
      rw [sendAll, e]; exact h
    | cons d C =>
      have hd := hC d (by simp)
      have hE := begE_zero h.s h.fl
      have hpl := h.place (by simpa using hB)
      rw [List.length_nil, Nat.zero_add] at hpl
      by_cases c : B.length = 2 ^ (l.bits - 1).toNat
      · refine ⟨B, d :: C, rfl, hB, .inr c, ?_⟩
        have e : (subS p.s d 0).2 ≠ 0 := by
          unfold subS
          rw [if_neg (by omega), if_neg (by omega), if_pos]
          · decide
          · rw [hpl, h.lk, c, Int.natCast_pow]; rfl
        have e2 : sendP p = (p, false) := by unfold sendP; rw [h.us]; dsimp only; rw [hE, if_neg e]
        rw [sendAll, e2]; exact h
      · have hlt : p.s.place p.s.next < 2 ^ (p.s.lk.bits - 1).toNat := by rw [hpl, h.lk, half_cast]; exact Nat.lt_of_le_of_ne hB c
        obtain ⟨g1, g2, -⟩ := sub_go h.s hd hlt
        obtain ⟨g3, g4, g5⟩ := sub_ok h.s g1
        have e2 : sendP p = ({ p with s := (subS p.s d 0).1, us := C }, true) := by unfold sendP; rw [h.us]; dsimp only; rw [hE, if_pos g1]
        have eS : (subS p.s d 0).1 = { p.s with units := p.s.units ++ [⟨p.s.next, d, 0, 0, []⟩], next := (p.s.next + 1) % 2 ^ p.s.lk.bits.toNat } := by
          unfold subS
          rw [if_neg (by omega), if_neg (by omega), if_neg (Int.ne_of_lt hlt)]
        rw [sendAll, e2, if_pos rfl]
        have hM : Mid l f [] (B ++ [d]) C O { p with s := (subS p.s d 0).1, us := C } := by
          refine ⟨g3, g4.trans h.lk, g5.trans h.fl, ?_, ?_, ?_, rfl, h.wy, h.bk, h.ot, ?_⟩
          · show (subS p.s d 0).1.units = _
            rw [g2, h.un, h.nx]
            show [] ++ newU l.bits (numN l.bits f 0) B ++ _ = [] ++ newU l.bits (numN l.bits f 0) (B ++ [d])
            rw [List.nil_append, List.nil_append, newU_app hb _ _ _ (numN_ok hb 0), numN_zero h.fo, List.length_nil, Nat.zero_add]
            rfl
          · show (subS p.s d 0).1.next = _
            rw [eS]
            show (p.s.next + 1) % 2 ^ p.s.lk.bits.toNat = _
            rw [h.nx, h.lk, ← numN_succ hb]
            congr 1
            simp
          · show (subS p.s d 0).1.first = _
            rw [eS]; exact h.fi
          · obtain ⟨due, h1, h2⟩ := h.r
            exact ⟨due, h1, fun _ h => absurd rfl h⟩
        obtain ⟨B', C', q1, q2, q3, q4⟩ := send_all n (B ++ [d]) C _ hM (by simp at hn; omega) (by rw [List.length_append, List.length_singleton]; exact Nat.lt_of_le_of_ne hB c) fun x hx => hC x (by simp [hx])
        exact ⟨B', C', by rw [q1]; simp, q2, q3, q4⟩
theorem leftI_mid {b f g : Int} {A : List (List Int)} {d : List Int} {M : List Un} (hM : ∀ u ∈ M, u.again = []) (hd : 1 ≤ d.length) : leftI (oldU b f A ++ ⟨g, d, 0, 0, []⟩ :: M) = A.length := by
  have hk : A.length < (oldU b f A ++ ⟨g, d, 0, 0, []⟩ :: M).length := by rw [List.length_append, oldU_len]; simp
  have hall : ∀ u ∈ oldU b f A ++ ⟨g, d, 0, 0, []⟩ :: M, u.again = [] := fun u hu => by
    rcases List.mem_append.1 hu with hu | hu
    · exact (oldU_mem b A f u hu).1
    · rcases List.mem_cons.1 hu with rfl | hu
      · rfl
      · exact hM u hu
  have h1 : idx askU (oldU b f A ++ ⟨g, d, 0, 0, []⟩ :: M) = -1 := idx_no fun j hj => by unfold askU; rw [hall _ (List.getElem_mem hj)]; rfl
  have h2 : idx restU (oldU b f A ++ ⟨g, d, 0, 0, []⟩ :: M) = A.length := by
    refine idx_at hk (fun j hj hlt => ?_) ?_
    · have : (oldU b f A ++ ⟨g, d, 0, 0, []⟩ :: M)[j] = (oldU b f A)[j]'(by rw [oldU_len]; exact hlt) := List.getElem_append_left (by rw [oldU_len]; exact hlt)
      rw [this]
      unfold restU
      rw [decide_eq_true (oldU_mem b A f _ (List.getElem_mem _)).2]; rfl
    · have : (oldU b f A ++ ⟨g, d, 0, 0, []⟩ :: M)[A.length] = ⟨g, d, 0, 0, []⟩ := by
        rw [List.getElem_append_right (by rw [oldU_len]; exact Nat.le_refl _)]
        simp [oldU_len]
      rw [this]
      unfold restU
      rw [decide_eq_false]
      · rfl
      · unfold wholeU; dsimp only; omega
  unfold leftI
  rw [h1, if_neg (by omega), h2]
theorem leftI_done {b f : Int} {A : List (List Int)} : leftI (oldU b f A) < 0 := by
  refine leftI_neg.2 fun u hu => ?_
  obtain ⟨h1, h2⟩ := oldU_mem b A f u hu
  exact ⟨by unfold askU; rw [h1]; rfl, by unfold restU; rw [decide_eq_true h2]; rfl⟩
theorem build_one {d : List Int} (h : Mid l f A (d :: B) C O p) (hd : 1 ≤ d.length ∧ d.length ≤ 2054) : (buildP p 4096).2 = true ∧ Mid l f (A ++ [d]) B C O (deliverP (buildP p 4096).1 false) := by
  have hlk := h.lko
  have hb := hlk.1
  have hE := begE_zero h.s h.fl
  obtain ⟨g, hg⟩ : ∃ g, g = numN l.bits f A.length := ⟨_, rfl⟩
  have hgo : snOk l.bits g := by rw [hg]; exact numN_ok hb _
  have hu : p.s.units = oldU l.bits f A ++ ⟨g, d, 0, 0, []⟩ :: newU l.bits ((g + 1) % 2 ^ l.bits.toNat) B := by rw [h.un, ← hg]; rfl
  have hleft : leftI p.s.units = A.length := by rw [hu]; exact leftI_mid (newU_mem _ _ _) hd.1
  have h0 : (buildS p.s 4096 0).2.2 = 0 := by
    rcases build_go (size := 4096) h.s (by omega) with hh | hh
    · omega
    · exact hh.2
  obtain ⟨h1, h2, h3⟩ := build_ok h.s h0
  obtain ⟨k, hk, q, hl, hq, hc, hB, hqo, hqp, hn, hn2⟩ := build_inv h.s h0
  obtain rfl : k = A.length := by omega
  have hku : p.s.units[A.length] = ⟨g, d, 0, 0, []⟩ := by
    have : p.s.units[A.length]? = some ⟨g, d, 0, 0, []⟩ := by rw [hu, List.getElem?_append_right (by rw [oldU_len]; exact Nat.le_refl _), oldU_len, Nat.sub_self]; rfl
    rw [List.getElem?_eq_getElem hk] at this
    exact Option.some.inj this
  rw [hku] at hq hc hB
  have hpc : pieceU ⟨g, d, 0, 0, []⟩ = ⟨g, 0, 0, 0, d⟩ := by
    unfold pieceU partU
    simp [partOf]
  rw [hpc, h.lk] at hc hq
  have hpo : Pc.ok l.bits ⟨g, 0, 0, 0, d⟩ := ⟨hb, hgo, by dsimp only; omega, by dsimp only; omega, by simp, by dsimp only; omega, hd.1, by dsimp only; omega⟩
  have hpo1 : Pc.ok l.bits ⟨g, 0, 1, 0, d⟩ := ⟨hb, hgo, by dsimp only; omega, by dsimp only; omega, by simp, by dsimp only; omega, hd.1, by dsimp only; omega⟩
  have hcut : cutP l.bits ⟨g, 0, 0, 0, d⟩ 4096 = (⟨g, 0, 0, 0, d⟩, .zero, 0) := by
    unfold cutP
    have hh : headN 0 = 2 := rfl
    dsimp only
    rw [hh, if_neg (by simpa using hpo), if_neg (by omega), if_pos (by omega)]
  rw [hcut] at hq
  dsimp only at hq
  subst hq
  have hset : p.s.units.set A.length (takeU ⟨g, d, 0, 0, []⟩ d.length) = oldU l.bits f (A ++ [d]) ++ newU l.bits (numN l.bits f (A ++ [d]).length) B := by
    have e1 : takeU ⟨g, d, 0, 0, []⟩ d.length = ⟨g, d, d.length, 0, []⟩ := by
      unfold takeU; dsimp only; rw [Int.zero_add]
    rw [e1, hu, List.set_append_right _ _ (by rw [oldU_len]; exact Nat.le_refl _), oldU_len, Nat.sub_self, List.set_cons_zero, oldU_app hb _ _ _ h.fo, List.length_append, List.length_singleton, numN_succ hb, ← hg]
    show _ = (oldU l.bits f A ++ [⟨g, d, d.length, 0, []⟩]) ++ _
    simp
  obtain ⟨poll, hpl, hbs, hsu, hfi, hnx, hpoll⟩ : ∃ poll : Int, Pc.ok l.bits ⟨g, 0, poll, 0, d⟩ ∧ (buildS p.s 4096 0).2.1 = Pc.bytes ⟨g, 0, poll, 0, d⟩ ∧ (buildS p.s 4096 0).1.units = oldU l.bits f (A ++ [d]) ++ newU l.bits (numN l.bits f (A ++ [d]).length) B ∧
      (buildS p.s 4096 0).1.first = p.s.first ∧ (buildS p.s 4096 0).1.next = p.s.next ∧ (B = [] → poll = 1) := by
    rw [hB]
    unfold buildT
    dsimp only
    rw [h.lk]
    split
    · refine ⟨1, hpo1, by rw [encP, if_pos hpo1], hset, rfl, rfl, fun _ => rfl⟩
    · rename_i hcn
      refine ⟨0, hpo, by rw [encP, if_pos hpo], hset, rfl, rfl, fun hBe => ?_⟩
      exfalso
      apply hcn
      right
      rw [hset, hBe]
      show leftI (_ ++ []) < 0
      rw [List.append_nil]
      exact leftI_done
  have eb : buildP p 4096 = ({ p with s := (buildS p.s 4096 0).1, wy := [Pc.bytes ⟨g, 0, poll, 0, d⟩] }, true) := by
    unfold buildP
    rw [hE, if_pos h0, hbs, h.wy]; rfl
  obtain ⟨due, hr1, hr2⟩ := h.r
  rw [← hg] at hr1
  have hrec := rec_whole hlk hgo due hpl
  have hdn : d ≠ [] := by rintro rfl; simp at hd
  have ed : deliverP (buildP p 4096).1 false = { p with s := (buildS p.s 4096 0).1, wy := [], r := quietR l ((g + 1) % 2 ^ l.bits.toNat) (if poll = 1 then true else due), ot := p.ot ++ [d] } := by
    rw [eb]
    unfold deliverP
    dsimp only
    rw [hr1, hrec]
    dsimp only
    rw [if_neg (by decide), if_neg hdn]
    rfl
  refine ⟨by rw [eb], ?_⟩
  rw [ed]
  refine ⟨h1, h2.trans h.lk, h3.trans h.fl, hsu, ?_, hfi.trans h.fi, h.us, rfl, h.bk, ?_, ?_⟩
  · show (buildS p.s 4096 0).1.next = _
    rw [hnx, h.nx]
    congr 1
    simp; omega
  · show p.ot ++ [d] = O ++ (A ++ [d])
    rw [h.ot, List.append_assoc]
  · refine ⟨if poll = 1 then true else due, ?_, fun hBe _ => by rw [if_pos (hpoll hBe)]⟩
    show quietR _ _ _ = _
    rw [List.length_append, List.length_singleton, numN_succ hb, ← hg]
theorem build_no (h : Mid l f A [] C O p) : buildP p 4096 = (p, false) := by
  have hE := begE_zero h.s h.fl
  have hl : leftI p.s.units < 0 := by
    rw [h.un]
    show leftI (_ ++ []) < 0
    rw [List.append_nil]; exact leftI_done
  have h0 : (buildS p.s 4096 0).2.2 ≠ 0 := by
    rcases build_go (size := 4096) h.s (by omega) with hh | hh
    · rw [hh.2]; decide
    · omega
  unfold buildP
  rw [hE, if_neg h0]
theorem build_all {I : Pl → Prop} {mu : Pl → Nat} (hI : Inv I mu) : ∀ (n : Nat) (A B : List (List Int)) (p : Pl), I p → mu p < n → Mid l f A B C O p → (∀ d ∈ B, 1 ≤ d.length ∧ d.length ≤ 2054) → Mid l f (A ++ B) [] C O (buildAll n p) ∧ I (buildAll n p)
  | 0, _, _, _, _, hn, _, _ => absurd hn (Nat.not_lt_zero _)
  | n + 1, A, B, p, hp, hn, h, hd => by
    cases B with
    | nil =>
      rw [buildAll, build_no h, List.append_nil]
      exact ⟨h, hp⟩
    | cons d B =>
      obtain ⟨h1, h2⟩ := build_one h (hd d (by simp))
      rw [buildAll, if_pos h1]
      have := build_all hI n (A ++ [d]) B _ (hI.deliver _ (hI.build p hp)) (by have := hI.less p hp h1; omega) h2 fun x hx => hd x (by simp [hx])
      rw [List.append_assoc] at this
      exact this
theorem rep_fold (s : Sd) (upto : Int) : ∀ (L : List Un) (b : Bool), (∀ u ∈ L, s.place u.sn < upto ∧ wholeU u) → L.foldl (repStep s upto []) ([], b) = ([], b)
  | [], b, _ => rfl
  | u :: L, b, h => by
    obtain ⟨h1, h2⟩ := h u (by simp)
    have : repStep s upto [] ([], b) u = ([], b) := by
      unfold repStep
      rw [if_neg (by omega)]
      show (if (false = true) then _ else if wholeU u then ([], b) else _) = _
      rw [if_neg (by decide), if_pos h2]
    rw [List.foldl_cons, this]
    exact rep_fold s upto L b fun v hv => h v (by simp [hv])
theorem end_one (hq : l.quiet = 0) (h : Mid l f A [] C O p) (hn : A.length ≤ 2 ^ (l.bits - 1).toNat) : Mid l (numN l.bits f A.length) [] [] C (O ++ A) (endP p) := by
  have hlk := h.lko
  have hb := hlk.1
  obtain ⟨g, hg⟩ : ∃ g, g = numN l.bits f A.length := ⟨_, rfl⟩
  have hgo : snOk l.bits g := by rw [hg]; exact numN_ok hb _
  obtain ⟨due, hr1, hr2⟩ := h.r
  rw [← hg] at hr1 ⊢
  have hnx : p.s.next = g := by rw [h.nx, hg]; rfl
  have hun : p.s.units = oldU l.bits f A := by
    rw [h.un]; exact List.append_nil _

  have key : ∃ s' : Sd, answerP (reportP p 4096) false = { p with s := s', r := quietR l g false } ∧ OkS s' ∧ s'.lk = l ∧ s'.failed = false ∧ s'.units = [] ∧ s'.next = g := by
    cases due with
    | false =>
      have hA : A = [] := by
        cases A with
        | nil => rfl
        | cons x y => exact Bool.noConfusion (hr2 rfl (by simp))
      have e1 : reportP p 4096 = p := by
        unfold reportP
        have : (repR p.r 4096).2.2 ≠ 0 := by
          rw [hr1]
          unfold repR
          rw [if_neg (by rw [quietR_ok hlk hgo]; decide), if_neg (by omega), if_pos (.inl rfl)]
          decide
        rw [if_neg this]
      have e2 : answerP p false = p := by unfold answerP; rw [h.bk]
      refine ⟨p.s, ?_, h.s, h.lk, h.fl, by rw [hun, hA]; rfl, hnx⟩
      rw [e1, e2, ← hr1]
    | true =>
      have hok := quietR_ok hlk hgo true
      have hre := rep_all hok rfl (by show ¬ (0 : Int) > 0; omega)
      have hst : (statR (quietR l g true)).1 = ⟨g, []⟩ := by
        unfold statR
        rw [if_neg (by rw [hok]; decide)]
        have : (quietR l g true).place (quietR l g true).upto = 0 := place_self (quietR l g true)
        rw [this]; rfl
      have hso := statR_ok hok
      rw [hst] at hre hso
      have hso : okS l.bits ⟨g, []⟩ := hso
      have e1 : reportP p 4096 = { p with r := quietR l g false, bk := [bytesS ⟨g, []⟩] } := by
        unfold reportP
        rw [hr1, hre]
        dsimp only
        rw [if_pos rfl, h.bk]
        show ({ p with r := { quietR l g true with due := false, quiet := l.quiet }, bk := [(encS l.bits ⟨g, []⟩).1] } : Pl) = _
        rw [hq, encS, if_pos hso]; rfl
      have hpn : p.s.place g = ((A.length : Nat) : Int) := by
        have := h.place (by simpa using hn)
        rw [hnx] at this
        simpa using this
      have hr0 : (repS p.s ⟨g, []⟩).2 = 0 := by
        unfold repS
        rw [if_neg, if_neg (by rw [h.fl]; decide), if_neg (by rw [hnx]; dsimp only; omega)]
        rintro (hh | hh)
        · rw [okB_iff.2 h.s] at hh; cases hh
        · rw [h.lk] at hh; exact hh hso
      have hfold : p.s.units.foldl (repStep p.s (p.s.place g) []) ([], false) = ([], false) := by
        refine rep_fold _ _ _ _ fun u hu => ?_
        have h1 := (h.s.all u hu).2
        rw [hnx] at h1
        rw [hun] at hu
        exact ⟨h1, (oldU_mem _ _ _ u hu).2⟩
      have hrT : (repS p.s ⟨g, []⟩).1 = repT p.s ⟨g, []⟩ := by
        unfold repS
        rw [if_neg, if_neg (by rw [h.fl]; decide), if_neg (by rw [hnx]; dsimp only; omega)]
        rintro (hh | hh)
        · rw [okB_iff.2 h.s] at hh; cases hh
        · rw [h.lk] at hh; exact hh hso
      obtain ⟨a1, a2, -⟩ := rep_okD h.s hr0
      have ea : answerS p.s (bytesS ⟨g, []⟩) = (repS p.s ⟨g, []⟩).1 := by
        unfold answerS
        rw [h.lk, decS_encS hso]
        exact if_pos ⟨rfl, hr0⟩
      refine ⟨(repS p.s ⟨g, []⟩).1, ?_, a1, a2.trans h.lk, ?_, ?_, ?_⟩
      · rw [e1]
        unfold answerP
        dsimp only
        rw [ea, h.bk]; rfl
      · rw [hrT]; unfold repT; dsimp only; rw [hfold]
      · rw [hrT]; unfold repT; dsimp only; rw [hfold]
      · rw [hrT]; unfold repT; exact hnx
  obtain ⟨s', e, k1, k2, k3, k4, k5⟩ := key
  have hsE := begE_zero k1 k3
  have hpo : s'.poll = -1 := by
    by_cases c : s'.poll = -1
    · exact c
    · obtain ⟨⟨u, hu, _⟩, _⟩ := k1.asked c
      rw [k4] at hu; simp at hu
  have hti : tickS s' 0 = (s', 0) := by
    unfold tickS
    rw [if_neg (by omega), if_pos (k1.poll hpo)]
  have hrt : tickRc (quietR l g false) = (quietR l g false, 0) := by
    unfold tickRc
    rw [if_neg (by rw [quietR_ok hlk hgo]; decide)]
    rfl
  have ee : endP p = { p with s := s', r := quietR l g false } := by
    unfold endP
    rw [e]
    unfold tickP
    dsimp only
    rw [hsE, hti, hrt]
    rfl
  rw [ee]
  refine ⟨k1, k2, k3, by rw [k4]; rfl, ?_, ?_, h.us, h.wy, h.bk, ?_, ⟨false, ?_, fun _ h => absurd rfl h⟩⟩
  · show s'.next = numN l.bits g 0
    rw [k5, numN_zero hgo]
  · show s'.first = g
    rw [← k1.nil k4, k5]
  · show p.ot = _
    rw [h.ot, List.append_nil]
  · show _ = quietR l (numN l.bits g 0) false
    rw [numN_zero hgo]
theorem round_one {I : Pl → Prop} {mu : Pl → Nat} (hI : Inv I mu) (hIs : ∀ n p, I p → I (sendAll n p)) (hp : I p) (hq : l.quiet = 0) (h : Mid l f [] [] C O p) (hC : ∀ d ∈ C, 1 ≤ d.length ∧ d.length ≤ 2054) :
    ∃ (f' : Int) (B' C' : List (List Int)), B' ++ C' = C ∧ (C' = [] ∨ B'.length = 2 ^ (l.bits - 1).toNat) ∧ Mid l f' [] [] C' (O ++ B') (roundP mu p) := by
  obtain ⟨B', C', q1, q2, q3, q4⟩ := send_all (p.us.length + 1) [] C p h (by rw [h.us]; omega) (by simp) hC
  rw [List.nil_append] at q1
  obtain ⟨h1, -⟩ := build_all hI _ [] B' _ (hIs _ _ hp) (Nat.lt_succ_self _) q4 fun d hd => hC d (by rw [← q1]; simp [hd])
  rw [List.nil_append] at h1
  exact ⟨_, B', C', q1, q3, end_one hq h1 q2⟩
theorem rounds_all {I : Pl → Prop} {mu : Pl → Nat} (hI : Inv I mu) (hIs : ∀ n p, I p → I (sendAll n p)) (hIr : ∀ p, I p → I (roundP mu p)) (hp : I p) (hq : l.quiet = 0) (h : Mid l f [] [] C [] p) (hC : ∀ d ∈ C, 1 ≤ d.length ∧ d.length ≤ 2054) :
    ∀ n : Nat, I (roundsP mu n p) ∧ ∃ (f' : Int) (D C' : List (List Int)), D ++ C' = C ∧ (C' = [] ∨ 16 * n ≤ D.length) ∧ Mid l f' [] [] C' D (roundsP mu n p)
  | 0 => ⟨hp, f, [], C, rfl, .inr (by simp), h⟩
  | n + 1 => by
    obtain ⟨i1, f', D, C', h1, h2, h3⟩ := rounds_all hI hIs hIr hp hq h hC n
    refine ⟨hIr _ i1, ?_⟩
    obtain ⟨f2, B2, C2, g1, g2, g3⟩ := round_one hI hIs i1 hq h3 fun d hd => hC d (by rw [← h1]; simp [hd])
    refine ⟨f2, D ++ B2, C2, by rw [List.append_assoc, g1, h1], ?_, g3⟩
    rcases g2 with g2 | g2
    · exact .inl g2
    · have hh := pow_bits1 h.lko.1
      have h16 : 16 ≤ B2.length := by
        have : (16 : Int) ≤ ((2 ^ (l.bits - 1).toNat : Nat) : Int) := by rw [Int.natCast_pow]; exact hh.2.1
        rw [g2]; exact_mod_cast this
      rcases h2 with h2 | h2
      · subst h2
        have : B2 = [] := (List.append_eq_nil_iff.1 g1).1
        rw [this] at h16
        simp at h16
      · exact .inr (by rw [List.length_append]; omega)
theorem clean_all {I : Pl → Prop} {mu : Pl → Nat} (hI : Inv I mu) (hIs : ∀ n p, I p → I (sendAll n p)) (hIr : ∀ p, I p → I (roundP mu p)) (hl : lkOk l) (hq : l.quiet = 0) {us : List (List Int)} (hp : I (startP l us)) (hu : us.length ≤ 60) (hC : ∀ d ∈ us, 1 ≤ d.length ∧ d.length ≤ 2054) :
    (roundsP mu 6 (startP l us)).ot = us ∧ (roundsP mu 6 (startP l us)).s.failed = false := by
  have h0 : snOk l.bits 0 := by
    unfold snOk
    rcases pow_bits hl.1 with h | h | h | h | h <;> rw [h] <;> omega
  have hM : Mid l 0 [] [] us [] (startP l us) := by
    refine ⟨new_okD hl h0, rfl, rfl, rfl, (numN_zero h0).symm, rfl, rfl, rfl, rfl, rfl, ⟨false, ?_, fun _ h => absurd rfl h⟩⟩
    show _ = quietR l (numN l.bits 0 0) false
    rw [numN_zero h0]; rfl
  obtain ⟨-, f', D, C', h1, h2, h3⟩ := rounds_all hI hIs hIr hp hq hM hC 6
  have hC' : C' = [] := by
    rcases h2 with h2 | h2
    · exact h2
    · have := congrArg List.length h1
      rw [List.length_append] at this
      omega
  subst hC'
  rw [List.append_nil] at h1
  refine ⟨by rw [h3.ot, List.append_nil, h1], h3.fl⟩
end
end Go.Proofs.YtmbppohkadmjgaaGreat
namespace Go.Proofs.YtmbppohkadmjgaaGreat
open Go.Sx Go.RowKit
set_option maxRecDepth 100000
theorem any_wrong {L : List BL} (h : ∀ d ∈ ds L, 1 ≤ d.length ∧ d.length ≤ 2054) : (L.any fun y => wrongB y.d) = false := by
  rw [List.any_eq_false]
  intro y hy
  have := h y.d (List.mem_map.2 ⟨y, hy, rfl⟩)
  unfold wrongB
  rw [decide_eq_false (by omega), decide_eq_false (by omega)]
  decide
theorem law22_AmlinkClean_ct {ta : Option Addr} {tc : Nat} {ts : List Int} {w : World} (hts : SlR (IntC .i64) 1 w ta ts) :
    Calls Tryz.prog N_law22_AmlinkClean #[(.slice ta ts.length tc)] w fun e w' => e = .returned (.bool true) ∧ Below w.heap.size w w' := by
  apply F_law22_AmlinkClean_ok
  unfold F_law22_AmlinkClean
  have H := (St.startA w).hold (slr_held hts)
  refine made_Light_ct.mono ?_
  rintro _ w1 ⟨rfl, hb1⟩; have H1 := H.pass hb1; clear H
  refine ⟨_, rfl, ?_⟩
  refine bsplit_nd (fun c16 => ?_) (fun c16 => ?_)
  · refine law22_awake_ct.mono ?_
    rintro _ w2 ⟨rfl, hb2⟩; have H2 := H1.pass hb2; clear H1
    exact ⟨_, rfl, rfl, H2.below⟩
  refine made_Roll_ct.mono ?_
  rintro _ w3 ⟨g, rfl, K⟩; have H3 := H1.callR K; clear H1 K
  simp only [List.nil_append] at H3
  have hR0 : Rolls ta ts fun w => SlR (IntC .i64) 1 w ta ts ∧ True := ⟨fun _ h => h.1, by omega⟩
  refine ⟨_, rfl, ?_⟩
  obtain ⟨A', hA', hn', hr', hc⟩ := H3.callM (i := 0) rfl
  refine (law22_numbered_ct hA' hR0 hr' hn' (Nat.zero_le _) (most := 60) (by decide)).mono ?_
  rintro _ w4 ⟨L, ra, rc, p1, rfl, hL, hLn, hp1, K⟩
  have H4 := (hc K).imp (Q := fun w' => DaB L w' ∧ SlR (IntC .i64) 1 w' ta ts ∧ True) fun w' h => ⟨h.1.1, h.2⟩
  clear hc K hA' hn' hr' H3
  simp only [List.set_cons_zero, List.cons_append, List.nil_append] at H4
  refine ⟨_, _, _, rfl, ?_⟩
  have hlen : (ds L).length = L.length := by simp [ds]
  have hsz := numb_bytes hL
  obtain ⟨A', hA', hn', hr', hc⟩ := H4.callM (i := 0) rfl
  refine (made_Link_ct hA' (hR0.and _) hr' hn' hp1).mono ?_
  rintro _ w5 ⟨l, p2, rfl, hl, hp2, K⟩
  have H5 := (hc K).imp fun _ h => h.2
  clear hc K hA' hn' hr' H4
  simp only [List.set_cons_zero, List.append_nil] at H5
  refine ⟨_, _, _, _, _, _, rfl, ?_⟩
  refine H5.alloc ?_; clear H5; intro b w6 H6
  simp only [List.cons_append, List.nil_append] at H6
  refine H6.store (i := 2) rfl (by rfl) (by rfl) ?_; clear H6; intro w7 H7
  simp only [List.set_cons_succ, List.set_cons_zero] at H7
  refine H7.set (i := 2) rfl (by simp) ?_; clear H7; intro w8 H8
  simp only [List.set_cons_succ, List.set_cons_zero] at H8
  refine ⟨_, _, _, _, _, _, H8.cells (i := 2) rfl, ?_⟩
  have H9 := H8.shareE encBL_ok (i := 1) rfl
  clear H8
  obtain ⟨l0, hl0⟩ : ∃ l0 : Lk, l0 = ⟨l.bits, l.every, l.poll, l.wait, 0, l.tries⟩ := ⟨_, rfl⟩
  have hlk : lkOk l0 := by
    rw [hl0]
    obtain ⟨h1, h2, h3, h4, h5, h6⟩ := hl
    exact ⟨h1, h2, h3, h4, by dsimp only; omega, h6⟩
  have hq0 : l0.quiet = 0 := by rw [hl0]
  have harg : (Value.agg #[.int .i64 l.bits, .int .i64 l.every, .int .i64 l.poll, .int .i64 l.wait, .int .i64 0, .int .i64 l.tries]) = .agg #[.int .i64 l0.bits, .int .i64 l0.every, .int .i64 l0.poll, .int .i64 l0.wait, .int .i64 l0.quiet, .int .i64 l0.tries] := by rw [hl0]
  rw [harg]
  obtain ⟨A, hA, hc⟩ := H9.call
  have hQ : Held A w8 fun w => QL L ra w ∧ SlR (CE encSp) 2 w none [] := hA.mono fun w h => ⟨⟨h.1, h.2.1⟩, .inl rfl⟩
  have hI0 : IvP (startP l0 (ds L)) := iv_start hlk (fun d hd => (hsz d hd).1) (by have := numb_tot hL (n := 60) (by omega); omega)
  have C := amlink_Finish_ct (l := l0) (U := L) (uc := rc) (sta := none) (stc := 0) (ST := []) (rounds := 6) (I := IvP) (mu := muP) hlk hQ (any_wrong fun d hd => by have := hsz d hd; omega) (by omega) (by decide) (fun y hy => by cases hy)
    iv_inv (fun p k a h => iv_step k a h) (fun p h => iv_end h) iv_sendAll iv_buildAll (fun p h => mu_le h) hI0 (by decide) (Y := startP l0 (ds L)) (W := startP l0 (ds L)) rfl rfl
  rw [show (6 : Int).toNat = 6 from rfl] at C
  obtain ⟨hot, hfl⟩ := clean_all iv_inv iv_sendAll (fun p h => iv_round h) hlk hq0 hI0 (by omega) fun d hd => by have := hsz d hd; omega
  rw [hot, hfl] at C
  refine C.mono ?_; clear C
  rintro _ w9 ⟨M, a, c, hM, rfl, K⟩
  have H10 := hc K
  clear hc K H9
  refine ⟨_, _, _, _, _, rfl, ?_⟩
  refine law22_awake_ct.mono ?_
  rintro _ w10 ⟨rfl, hb10⟩; have H11 := H10.pass hb10; clear H10
  refine ⟨_, rfl, ?_⟩
  refine bsplit_intro (fun _ => ?_) (fun c => by cases c)
  refine bsplit_dec (fun _ => ?_) (fun c => absurd rfl c)
  refine bsplit_intro (fun _ => ?_) (fun c => by cases c)
  have hml : M.length = L.length := by have := congrArg List.length hM; simpa [ds] using this
  refine (ref01_SameAll_ct H11.get.1 ⟨H11.get.2.1, H11.get.2.2.1⟩ hM (fun d hd => by rw [hM] at hd; exact (hsz d hd).1) (by omega)).mono ?_
  rintro _ w11 ⟨rfl, hb11⟩; have H12 := H11.pass hb11; clear H11
  exact ⟨_, rfl, rfl, H12.below⟩
end Go.Proofs.YtmbppohkadmjgaaGreat
