import Derived.Test.YtgmniohbnophdaaW38k
import Derived.Test.YtgmniohbnophdaaRolln
import Derived.Test.YtgmniohbnophdaaFxAccessRuns
/- CHAPTER 38: AccessRuns. -/
set_option maxRecDepth 100000
namespace Go.Proofs.Ytgmniohbnophdaa
open Go.Sx Go.RowKit Go.P38
section
variable {A0 : Nat → Prop} {M : List Nat} {w0 w : World} {R : List Res} {P : World → Prop}
theorem rest_ct (H : St A0 M w0 w R P) {i g : Nat} {a : Option Addr} {c p : Nat} {ts : List Int} (hi : R[i]? = some (rdice g a c ts p)) (hp : p ≤ ts.length) (hl : ts.length ≤ 1000000) :
    Calls Try.prog N_roll_Dice_Rest #[.pointer (some ⟨g, 0, none⟩)] w fun e w' => (∃ r : Int, e = .returned (.int .i64 r)) ∧ Below w.heap.size w w' := by
  have hc0 := H.cell (o := 0) hi rfl
  have hc1 := H.cell (o := 1) hi rfl
  apply F_roll_Dice_Rest_ok
  unfold F_roll_Dice_Rest
  have K := St.nil w
  refine K.drew ?_; intro w1 K1
  refine ⟨_, _, _, K1.below.get hc0, ?_⟩
  refine ⟨_, K1.below.get hc1, ?_⟩
  refine kW_i64 (by omega) ?_
  refine kLet_in ?_
  exact ⟨⟨_, rfl⟩, K1.below⟩
end
theorem tick_len' (a : Ac) (tick : Int) : (tickR a tick).1.l.length ≤ a.l.length := by
  unfold tickR
  have h1 := now_len a.l tick
  have h2 := foldR_len (a := a) (tick := tick) (k := (nowL a.l tick).length) (Nat.le_refl _)
  repeat' split
  · exact Nat.le_refl _
  · exact Nat.le_refl _
  · simp only; omega
section
variable {w : World} {l : List Int} {p : Option Addr} {c : Nat}
theorem law38_AccessRuns_ct (hs : SlR (IntC .i64) 1 w p l) :
    Calls Try.prog N_law38_AccessRuns #[.slice p l.length c] w fun e w' => e = .returned (.bool true) ∧ Below w.heap.size w w' := by
  apply F_law38_AccessRuns_ok
  unfold F_law38_AccessRuns
  have H := St.nil w
  refine roll_Light_ct.mono ?_
  rintro _ w1 ⟨rfl, hb1⟩; have H1 := H.pass hb1; clear H
  refine ⟨_, rfl, ?_⟩
  have last : ∀ {w1 : World} {R : List Res} {P : World → Prop}, St (fun _ => False) [] w w1 R P → Calls Try.prog N_law38_awake #[] w1 fun e_ w2 => ∃ r : Bool, e_ = .returned (.bool r) ∧ (Ending.returned (.bool r) = .returned (.bool true) ∧ Below w.heap.size w w2) := fun {w1 R P} H1 => by
    refine law38_awake_ct.mono ?_
    rintro _ w2 ⟨rfl, hb2⟩; have H2 := H1.pass hb2
    exact ⟨_, rfl, rfl, H2.below⟩
  refine bsplit_n (fun c5 => ?_) (fun c5 => ?_) --  (!r)
  · exact last H1
  · have hll : (l.length : Int) ≤ 300 := of_decide_eq_true c5
    refine (roll_Roll_ct ((slr_held hs).below H1.below).get (by omega)).mono ?_
    rintro _ w3 ⟨g, ta, tc, rfl, K⟩; have H3 := H1.callF K; clear H1 K
    replace H3 : St (fun _ => False) [] w w3 [rdice g ta tc l 0] (fun w => SlR (IntC .i64) 1 w ta l) := H3.imp fun _ h => h.1
    refine ⟨_, rfl, ?_⟩
    have hts : Rolls ta l (fun w => SlR (IntC .i64) 1 w ta l) := ⟨fun _ h => h, by omega⟩
    refine rNext H3 (i := 0) rfl hts (by omega) (by omega) fun r1 p1 w4 _ hr1 hp1 H4 => ?_; clear H3
    refine kW_i64 (by omega) ?_
    refine rNext H4 (i := 0) rfl hts hp1 (by omega) fun r2 p2 w5 _ hr2 hp2 H5 => ?_; clear H4
    refine kW_i64 (by omega) ?_
    refine rNext H5 (i := 0) rfl hts hp2 (by omega) fun r3 p3 w6 _ hr3 hp3 H6 => ?_; clear H5
    refine H6.alloc ?_; clear H6; intro b w7 H7
    refine H7.store (i := 1) rfl (by rfl) (by rfl) ?_; clear H7; intro w8 H8
    refine ⟨fun t => ((60 - t).toNat, fun w9 => ∃ (k : Nat) (a : Ac) (q : Option Addr) (d p' : Nat), t = k ∧ k ≤ 60 ∧ p' ≤ l.length ∧ a.l.length ≤ k ∧ a.l.length ≤ d ∧
      St (fun _ => False) [] w w9 [rdice g ta tc l p', acBlk b a q d] (fun w => SlR (CE encAt) 4 w q a.l ∧ SlR (IntC .i64) 1 w ta l)), ⟨0, ⟨1 + r1, 1 + r2, r3, []⟩, none, 0, p3, rfl, by omega, hp3, by simp, by simp, H8.imp fun _ h => ⟨.inl rfl, h⟩⟩, ?_⟩
    clear H8
    rintro _ _ w9 ⟨k, a, q, d, p', rfl, hk, hp', hal, had, H9⟩
    have hts2 : Rolls ta l (fun w => SlR (CE encAt) 4 w q a.l ∧ SlR (IntC .i64) 1 w ta l) := ⟨fun _ h => h.2, by omega⟩
    refine ⟨fun w13 => k < 60 ∧ ∃ p', p' ≤ l.length ∧ St (fun _ => False) [] w w13 [rdice g ta tc l p', acBlk b a q d] (fun w => SlR (CE encAt) 4 w q a.l ∧ SlR (IntC .i64) 1 w ta l), ?_, ?_⟩
    · clear H9 hp' p'
      rintro _ w13 ⟨hk60, p', hp', H13⟩
      refine rNext H13 (i := 0) rfl hts2 hp' (by omega) fun id p4 w14 _ hid hp4 H14 => ?_; clear H13
      refine ⟨_, _, _, _, _, _, H14.cells (i := 1) rfl, ?_⟩
      refine (agree_ct H14.get.1 had (by omega)).mono ?_
      rintro _ w15 ⟨rfl, hb15⟩; have H15 := H14.pass hb15; clear H14
      refine ⟨_, rfl, ?_⟩
      refine bsplit_n (fun c => by cases c) (fun _ => ?_)
      refine ⟨fun w21 => ∃ (a' : Ac) (q' : Option Addr) (d' p' : Nat), p' ≤ l.length ∧ a'.l.length ≤ k + 1 ∧ a'.l.length ≤ d' ∧
        St (fun _ => False) [] w w21 [rdice g ta tc l p', acBlk b a' q' d'] (fun w => SlR (CE encAt) 4 w q' a'.l ∧ SlR (IntC .i64) 1 w ta l), ?_, ?_⟩
      · clear H15
        rintro _ w21 ⟨a', q', d', p5, hp5, hal', had', H21⟩
        have hts3 : Rolls ta l (fun w => SlR (CE encAt) 4 w q' a'.l ∧ SlR (IntC .i64) 1 w ta l) := ⟨fun _ h => h.2, by omega⟩
        refine rNext H21 (i := 0) rfl hts3 hp5 (by omega) fun r6 p6 w22 _ hr6 hp6 H22 => ?_; clear H21
        refine bsplit_dec (fun c3 => ?_) (fun c3 => ?_)
        · refine ⟨_, _, _, _, _, _, H22.cells (i := 1) rfl, ?_⟩
          obtain ⟨A1, hA1, k1⟩ := St.callH H22
          refine (ref38_Tick_ct (tick := k) (hA1.mono fun _ h => h.1) had' (by omega)).mono ?_
          rintro _ w23 ⟨q7, d7, g7, gc7, e7, ec7, rfl, hc7, K7⟩; have H23 := k1 K7; clear H22 k1 K7 hA1
          refine ⟨_, _, _, _, _, _, _, _, _, _, _, _, _, rfl, ?_⟩
          refine H23.store (i := 1) rfl (by rfl) (by rfl) ?_; clear H23; intro w24 H24
          refine kW_i64 (by omega) ?_
          have htl := tick_len' a' k
          exact ⟨⟨k + 1, (tickR a' k).1, q7, d7, p6, by omega, by omega, hp6, by omega, hc7, H24.imp fun _ h => ⟨h.1.1, h.2.2⟩⟩, by dsimp only; omega⟩
        · refine kW_i64 (by omega) ?_
          exact ⟨⟨k + 1, a', q', d', p6, by omega, by omega, hp6, hal', had', H22⟩, by dsimp only; omega⟩
      · refine rNext H15 (i := 0) rfl hts2 hp4 (by omega) fun r5 p5 w16 _ hr5 hp5 H16 => ?_; clear H15
        refine bsplit_dec (fun c2 => ?_) (fun c2 => ?_)
        · refine ⟨_, _, _, _, _, _, H16.cells (i := 1) rfl, ?_⟩
          obtain ⟨A1, hA1, k1⟩ := St.callH H16
          refine (ref38_Stop_ct (id := id) (hA1.mono fun _ h => h.1) had (by omega)).mono ?_
          rintro _ w17 ⟨q7, d7, rfl, hc7, K7⟩; have H17 := k1 K7; clear H16 k1 K7 hA1
          refine ⟨_, _, _, _, _, _, _, rfl, ?_⟩
          refine H17.store (i := 1) rfl (by rfl) (by rfl) ?_; clear H17; intro w18 H18
          have hsl := stop_len a id
          exact ⟨(stopR a id).1, q7, d7, p5, hp5, by omega, hc7, H18.imp fun _ h => ⟨h.1, h.2.2⟩⟩
        · refine ⟨_, _, _, _, _, _, H16.cells (i := 1) rfl, ?_⟩
          obtain ⟨A1, hA1, k1⟩ := St.callH H16
          refine (ref38_Begin_ct (id := id) (tick := k) (hA1.mono fun _ h => h.1) had (by omega)).mono ?_
          rintro _ w19 ⟨q7, d7, rfl, hc7, K7⟩; have H19 := k1 K7; clear H16 k1 K7 hA1
          refine ⟨_, _, _, _, _, _, _, rfl, ?_⟩
          refine H19.store (i := 1) rfl (by rfl) (by rfl) ?_; clear H19; intro w20 H20
          have hbl := begin_len a id k
          exact ⟨(beginR a id k).1, q7, d7, p5, hp5, by omega, hc7, H20.imp fun _ h => ⟨h.1, h.2.2⟩⟩
    · refine bsplit_dec (fun c1 => ?_) (fun c1 => ?_)
      · refine (rest_ct H9 (i := 0) rfl hp' (by omega)).mono ?_
        rintro _ w10 ⟨⟨r, rfl⟩, hb10⟩; have H10 := H9.pass hb10; clear H9
        refine ⟨_, rfl, ?_⟩
        refine bsplit_dec (fun c => ?_) (fun c => ?_)
        · exact ⟨by omega, p', hp', H10⟩
        · exact last H10
      · exact last H9
end
end Go.Proofs.Ytgmniohbnophdaa
