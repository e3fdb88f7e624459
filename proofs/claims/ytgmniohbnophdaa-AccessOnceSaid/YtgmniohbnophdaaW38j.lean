import Derived.Test.YtgmniohbnophdaaW38i
import Derived.Test.YtgmniohbnophdaaEq3
/- CHAPTER 38: Same, SameInts, agree. -/
set_option maxRecDepth 100000
namespace Go.Proofs.Ytgmniohbnophdaa
open Go.Sx Go.RowKit Go.P38
theorem at_eq {x : At} {o1 o2 : Operand} {F : Bool → Prop} (h : F false) : EqP Try.prog .neq Ty_api_Attempt o1 o2 (aggAt x) (aggAt x) F := by
  refine eqP_ints (k' := .i64) (e := Ty_int) (xs := [x.id, x.pre, x.at_, x.tries]) (ys := [x.id, x.pre, x.at_, x.tries]) (by kernel_rfl) (by kernel_rfl) (by kernel_rfl) (by kernel_rfl) (by kernel_rfl) (by kernel_rfl) rfl ?_
  simpa using h
section
variable {A : Nat → Prop} {w : World} {p q : Option Addr} {c d : Nat} {a : Ac} {id tick : Int} {x : At}
theorem ref38_Same_ct (hs : SlR (CE encAt) 4 w p a.l) (hs2 : SlR (CE encAt) 4 w q a.l) (hl : a.l.length ≤ 800000) :
    Calls Try.prog N_ref38_Same #[aggAc a p c, aggAc a q d] w fun e w' => e = .returned (.bool true) ∧ Below w.heap.size w w' := by
  apply F_ref38_Same_ok
  unfold F_ref38_Same
  have H := St.nil w
  refine H.alloc ?_; clear H; intro b w1 H1
  refine H1.alloc ?_; clear H1; intro b1 w2 H2
  replace H2 : FreshR w w2 [acBlk b a p c, acBlk b1 a q d] := H2
  refine ⟨fun w3 => FreshR w w3 [acBlk b a p c, acBlk b1 a q d], ?_, ?_⟩
  · rintro _ w3 H3
    refine ⟨fun i => ((a.l.length - i).toNat, fun w4 => ∃ k : Nat, i = k ∧ k ≤ a.l.length ∧ FreshR w w4 [acBlk b a p c, acBlk b1 a q d]), ⟨0, rfl, by omega, H3⟩, ?_⟩
    clear H3
    rintro _ _ w4 ⟨k, rfl, hk, H4⟩
    refine H4.ldS (i := 0) rfl rfl ?_
    refine bsplit_dec (fun c5 => ?_) (fun c5 => ?_)
    · have hlt : k < a.l.length := by omega
      refine H4.drew ?_; clear H4; intro w5 H5
      refine H5.ldS (i := 0) rfl rfl ?_
      refine ixE (hs.belowE H5.below) k rfl hlt fun b2 s hsk hb2 => ?_
      obtain rfl : a.l[k] = s := by rw [List.getElem?_eq_getElem hlt] at hsk; injection hsk
      refine ⟨_, _, _, _, hb2, ?_⟩
      refine H5.ldS (i := 1) rfl rfl ?_
      refine ixE (hs2.belowE H5.below) k rfl hlt fun b3 s hsk hb3 => ?_
      obtain rfl : a.l[k] = s := by rw [List.getElem?_eq_getElem hlt] at hsk; injection hsk
      refine ⟨_, _, _, _, hb3, ?_⟩
      refine at_eq ?_
      refine bsplit_intro (fun c => by cases c) (fun _ => ?_)
      refine kW_i64 (by omega) ?_
      exact ⟨⟨k + 1, by omega, by omega, H5⟩, by dsimp only; omega⟩
    · exact ⟨rfl, H4.below⟩
  · refine H2.ld (i := 0) rfl rfl ?_
    refine H2.ld (i := 1) rfl rfl ?_
    refine bsplit_nd (fun c => absurd rfl c) (fun _ => ?_)
    refine H2.ld (i := 0) rfl rfl ?_
    refine H2.ld (i := 1) rfl rfl ?_
    refine bsplit_nd (fun c => absurd rfl c) (fun _ => ?_)
    refine H2.ld (i := 0) rfl rfl ?_
    refine H2.ld (i := 1) rfl rfl ?_
    refine bsplit_nd (fun c => absurd rfl c) (fun _ => ?_)
    refine H2.ldS (i := 0) rfl rfl ?_
    refine H2.ldS (i := 1) rfl rfl ?_
    refine bsplit_nd (fun c => absurd rfl c) (fun _ => ?_)
    exact H2
theorem roll_SameInts_ct {xs : List Int} (hs : SlR (IntC .i64) 1 w p xs) (hs2 : SlR (IntC .i64) 1 w q xs) (hl : xs.length ≤ 800000) :
    Calls Try.prog N_roll_SameInts #[(.slice p xs.length c), (.slice q xs.length d)] w fun e w' => e = .returned (.bool true) ∧ Below w.heap.size w w' := by
  apply F_roll_SameInts_ok
  unfold F_roll_SameInts
  have H := St.nil w
  refine bsplit_nd (fun c => absurd rfl c) (fun _ => ?_)
  refine ⟨fun i => ((xs.length - i).toNat, fun w1 => ∃ k : Nat, i = k ∧ k ≤ xs.length ∧ FreshR w w1 []), ⟨0, rfl, by omega, H⟩, ?_⟩
  clear H
  rintro _ _ w1 ⟨k, rfl, hk, H1⟩
  refine bsplit_dec (fun c1 => ?_) (fun c1 => ?_)
  · have hlt : k < xs.length := by omega
    refine H1.drew ?_; clear H1; intro w2 H2
    have h1 := ((slr_held hs).below H2.below).get
    have h2 := ((slr_held hs2).below H2.below).get
    refine ixE h1 k rfl hlt fun b s hsk hb => ?_
    refine ⟨s, hb, ?_⟩
    refine ixE h2 k rfl hlt fun b1 s1 hsk1 hb1 => ?_
    refine ⟨s1, hb1, ?_⟩
    have e : s = s1 := by rw [hsk] at hsk1; injection hsk1
    refine bsplit_nd (fun c => absurd e c) (fun _ => ?_)
    refine kW_i64 (by omega) ?_
    exact ⟨⟨k + 1, by omega, by omega, H2⟩, by dsimp only; omega⟩
  · exact ⟨rfl, H1.below⟩
theorem begin_len (a : Ac) (id tick : Int) : (beginR a id tick).1.l.length ≤ a.l.length + 1 := by
  unfold beginR
  repeat' split
  all_goals (simp only [putR_len]; try omega)
theorem stop_len (a : Ac) (id : Int) : (stopR a id).1.l.length ≤ a.l.length + 1 := by
  unfold stopR
  repeat' split
  · simp
  · have := List.length_filter_le (fun x : At => !decide (x.id = id)) a.l
    simp only; omega
  · simp
theorem tick_len (a : Ac) (tick : Int) : (tickR a tick).1.l.length ≤ 2 * a.l.length + 1 ∧ (tickR a tick).2.1.length ≤ a.l.length ∧ (tickR a tick).2.2.1.length ≤ a.l.length := by
  unfold tickR
  have h1 := now_len a.l tick
  have h2 := foldR_len (a := a) (tick := tick) (k := (nowL a.l tick).length) (Nat.le_refl _)
  repeat' split
  · simp; omega
  · simp; omega
  · simp only; omega
theorem agree_ct (hs : SlR (CE encAt) 4 w p a.l) (hcap : a.l.length ≤ c) (hl : a.l.length ≤ 300000) :
    Calls Try.prog N_law38_agree #[aggAc a p c, .int .i64 id, .int .i64 tick] w fun e w' => e = .returned (.bool true) ∧ Below w.heap.size w w' := by
  apply F_law38_agree_ok
  unfold F_law38_agree
  have hbl := begin_len a id tick
  have hsl := stop_len a id
  have htl := tick_len a tick
  have H := St.start (sle_held hs)
  refine H.alloc ?_; clear H; intro b w1 H1
  replace H1 : St (All w) [] w w1 [acBlk b a p c] (fun w => SlR (CE encAt) 4 w p a.l) := H1
  refine ⟨_, _, _, _, _, _, H1.cells (i := 0) rfl, ?_⟩
  obtain ⟨A1, hA1, k1⟩ := St.callH H1
  refine (access_Begin_ct hA1 hcap (by omega)).mono ?_
  rintro _ w2 ⟨p2, c2, rfl, hc2, K2⟩; have H2 := k1 K2; clear H1 k1 K2 hA1
  refine ⟨_, _, _, _, _, _, _, rfl, ?_⟩
  refine H2.alloc ?_; clear H2; intro b1 w3 H3
  refine H3.store (i := 1) rfl (by rfl) (by rfl) ?_; clear H3; intro w4 H4
  refine ⟨_, _, _, _, _, _, H4.cells (i := 0) rfl, ?_⟩
  obtain ⟨A2, hA2, k2⟩ := St.callH H4
  refine (ref38_Begin_ct (hA2.mono fun _ h => h.2) hcap (by omega)).mono ?_
  rintro _ w5 ⟨p5, c5, rfl, hc5, K5⟩; have H5 := k2 K5; clear H4 k2 K5 hA2
  refine ⟨_, _, _, _, _, _, _, rfl, ?_⟩
  refine H5.alloc ?_; clear H5; intro b2 w6 H6
  refine H6.store (i := 2) rfl (by rfl) (by rfl) ?_; clear H6; intro w7 H7
  replace H7 : St (All w) [] w w7 [acBlk b a p c, acBlk b1 (beginR a id tick).1 p2 c2, acBlk b2 (beginR a id tick).1 p5 c5] (fun w => SlR (CE encAt) 4 w p5 (beginR a id tick).1.l ∧ SlR (CE encAt) 4 w p2 (beginR a id tick).1.l ∧ SlR (CE encAt) 4 w p a.l) := H7
  refine ⟨fun w12 => St (All w) [] w w12 [acBlk b a p c, acBlk b1 (beginR a id tick).1 p2 c2, acBlk b2 (beginR a id tick).1 p5 c5] (fun w => SlR (CE encAt) 4 w p a.l), ?_, ?_⟩
  · clear H7
    rintro _ w12 H12
    refine ⟨_, _, _, _, _, _, H12.cells (i := 0) rfl, ?_⟩
    obtain ⟨A1, hA1, k1⟩ := St.callH H12
    refine (access_Tick_ct (tick := tick) hA1 hcap (by omega)).mono ?_
    rintro _ w13 ⟨p3, c3, g3, gc3, d3, dc3, rfl, hc3, K3⟩; have H13 := k1 K3; clear H12 k1 K3 hA1
    refine ⟨_, _, _, _, _, _, _, _, _, _, _, _, _, rfl, ?_⟩
    refine H13.store (i := 1) rfl (by rfl) (by rfl) ?_; clear H13; intro w14 H14
    refine ⟨_, _, _, _, _, _, H14.cells (i := 0) rfl, ?_⟩
    obtain ⟨A2, hA2, k2⟩ := St.callH H14
    refine (ref38_Tick_ct (tick := tick) (hA2.mono fun _ h => h.2) hcap (by omega)).mono ?_
    rintro _ w15 ⟨p4, c4, g4, gc4, d4, dc4, rfl, hc4, K4⟩; have H15 := k2 K4; clear H14 k2 K4 hA2
    refine ⟨_, _, _, _, _, _, _, _, _, _, _, _, _, rfl, ?_⟩
    refine H15.store (i := 2) rfl (by rfl) (by rfl) ?_; clear H15; intro w16 H16
    replace H16 : St (All w) [] w w16 [acBlk b a p c, acBlk b1 (tickR a tick).1 p3 c3, acBlk b2 (tickR a tick).1 p4 c4] _ := H16
    refine ⟨fun w20 => St (All w) [] w w20 [acBlk b a p c, acBlk b1 (tickR a tick).1 p3 c3, acBlk b2 (tickR a tick).1 p4 c4] (fun w => SlR (CE encAt) 4 w p a.l), ?_, ?_⟩
    · clear H16
      rintro _ w20 H20
      refine ⟨_, _, _, _, _, _, H20.cells (i := 0) rfl, ?_⟩
      obtain ⟨A1, hA1, k1⟩ := St.callH H20
      refine (access_Stop_ct (id := id) hA1 hcap (by omega)).mono ?_
      rintro _ w21 ⟨p6, c6, rfl, hc6, K6⟩; have H21 := k1 K6; clear H20 k1 K6 hA1
      refine ⟨_, _, _, _, _, _, _, rfl, ?_⟩
      refine H21.store (i := 1) rfl (by rfl) (by rfl) ?_; clear H21; intro w22 H22
      refine ⟨_, _, _, _, _, _, H22.cells (i := 0) rfl, ?_⟩
      obtain ⟨A2, hA2, k2⟩ := St.callH H22
      refine (ref38_Stop_ct (id := id) (hA2.mono fun _ h => h.2) hcap (by omega)).mono ?_
      rintro _ w23 ⟨p7, c7, rfl, hc7, K7⟩; have H23 := k2 K7; clear H22 k2 K7 hA2
      refine ⟨_, _, _, _, _, _, _, rfl, ?_⟩
      refine H23.store (i := 2) rfl (by rfl) (by rfl) ?_; clear H23; intro w24 H24
      refine bsplit_intro (fun _ => ?_) (fun c => by simp at c)
      refine ⟨_, _, _, _, _, _, H24.cells (i := 1) rfl, ?_⟩
      refine ⟨_, _, _, _, _, _, H24.cells (i := 2) rfl, ?_⟩
      refine (ref38_Same_ct (a := (stopR a id).1) (c := c6) (d := c7) H24.get.2.1 H24.get.1 (by omega)).mono ?_
      rintro _ w25 ⟨rfl, hb25⟩; have H25 := H24.pass hb25; clear H24
      exact ⟨_, rfl, rfl, H25.below⟩
    · refine bsplit_nd (fun c => absurd rfl c) (fun _ => ?_)
      refine ⟨_, _, _, _, _, _, H16.cells (i := 1) rfl, ?_⟩
      refine ⟨_, _, _, _, _, _, H16.cells (i := 2) rfl, ?_⟩
      refine (ref38_Same_ct (a := (tickR a tick).1) (c := c3) (d := c4) H16.get.2.1.1 H16.get.1.1 (by omega)).mono ?_
      rintro _ w17 ⟨rfl, hb17⟩; have H17 := H16.pass hb17; clear H16
      refine ⟨_, rfl, ?_⟩
      refine bsplit_n (fun c => by cases c) (fun _ => ?_)
      refine (roll_SameInts_ct (c := gc3) (d := gc4) H17.get.2.1.2.1 H17.get.1.2.1 (by omega)).mono ?_
      rintro _ w18 ⟨rfl, hb18⟩; have H18 := H17.pass hb18; clear H17
      refine ⟨_, rfl, ?_⟩
      refine bsplit_n (fun c => by cases c) (fun _ => ?_)
      refine (roll_SameInts_ct (c := dc3) (d := dc4) H18.get.2.1.2.2 H18.get.1.2.2 (by omega)).mono ?_
      rintro _ w19 ⟨rfl, hb19⟩; have H19 := H18.pass hb19; clear H18
      refine ⟨_, rfl, ?_⟩
      refine bsplit_n (fun c => by cases c) (fun _ => ?_)
      exact H19.imp fun _ h => h.2.2
  · refine H7.drew ?_; clear H7; intro w8 H8
    refine ⟨(· < w8.heap.size), ?_⟩
    refine bsplit_nd (fun c => absurd rfl c) (fun _ => ?_)
    refine ⟨_, _, _, _, _, _, H8.cells (i := 1) rfl, ?_⟩
    refine ⟨_, _, _, _, _, _, H8.cells (i := 2) rfl, ?_⟩
    refine (ref38_Same_ct (a := (beginR a id tick).1) (c := c2) (d := c5) H8.get.2.1 H8.get.1 (by omega)).mono ?_
    rintro _ w9 ⟨rfl, hb9⟩; have H9 := H8.pass hb9
    refine ⟨_, rfl, ?_⟩
    refine ⟨hb9.keeps, ?_⟩
    refine bsplit_n (fun c => by cases c) (fun _ => ?_)
    refine ⟨H8.lt (i := 0) rfl rfl, ?_⟩
    refine ⟨_, _, _, _, _, _, H8.cells (i := 0) rfl, ?_⟩
    refine ⟨H8.lt (i := 0) rfl rfl, ?_⟩
    refine ⟨_, _, _, _, _, _, H8.cells (i := 0) rfl, ?_⟩
    refine (access_Check_ct H9.get.2.2 hcap (by omega)).mono ?_
    rintro _ w10 ⟨rfl, hb10⟩; have H10 := H9.pass hb10
    refine ⟨_, rfl, ?_⟩
    replace hb10 := below_step hb9 (Nat.le_refl _) hb10
    refine ⟨hb10.keeps, ?_⟩
    refine (ref38_Check_ct H10.get.2.2 hcap (by omega)).mono ?_
    rintro _ w11 ⟨rfl, hb11⟩; have H11 := H10.pass hb11
    refine ⟨_, rfl, ?_⟩
    refine bsplit_nd (fun c => absurd rfl c) (fun _ => ?_)
    exact H11.imp fun _ h => h.2.2
end
end Go.Proofs.Ytgmniohbnophdaa
