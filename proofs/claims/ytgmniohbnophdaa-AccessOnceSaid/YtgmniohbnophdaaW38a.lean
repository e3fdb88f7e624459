import Derived.Test.YtgmniohbnophdaaForms
import Derived.Test.YtgmniohbnophdaaTys
import Derived.Test.YtgmniohbnophdaaCp
import Derived.Test.YtgmniohbnophdaaBt
import Derived.Test.YtgmniohbnophdaaP38
/- CHAPTER 38: the library's functions on rows of attempts. -/
set_option maxRecDepth 100000
namespace Go.Proofs.Ytgmniohbnophdaa
open Go.Sx Go.RowKit Go.P38
def encAt (x : At) : List Value := [.int .i64 x.id, .int .i64 x.pre, .int .i64 x.at_, .int .i64 x.tries]
theorem encAt_ok : Enc encAt 4 := ⟨fun _ => rfl, fun _ => rfl⟩
abbrev aggAt (x : At) : Value := .agg #[.int .i64 x.id, .int .i64 x.pre, .int .i64 x.at_, .int .i64 x.tries]
section
variable {w : World} {a : Option Addr} {c : Nat} {l : List At}
theorem clone_ats (hs : SlR (CE encAt) 4 w a l) (hl : l.length ≤ 1000000) :
    Calls Try.prog N_slices_Clone_Sapi_Attempt_api_Attempt #[(.slice a l.length c)] w fun e w' => ∃ a c, e = .returned (.slice a l.length c) ∧ FreshR w w' [.els encAt Ty_api_Attempt 4 a c l] := by
  apply F_slices_Clone_Sapi_Attempt_api_Attempt_ok
  unfold F_slices_Clone_Sapi_Attempt_api_Attempt
  have H := St.nil w
  cases a with
  | none =>
    obtain rfl : l = [] := by
      rcases hs with h | ⟨b, hb, _⟩
      · exact h
      · cases hb
    exact ⟨none, 0, rfl, H.nilE encAt Ty_api_Attempt 4⟩
  | some p =>
    refine bsplit_intro (fun h => by cases h) (fun _ => ?_)
    refine H.alloc ?_; clear H; intro b w1 H1
    have H1 := H1.litE encAt_ok (i := 0) [] rfl (by decide)
    refine H1.appE encAt_ok (i := 0) rfl sl_Ty_S_api_Attempt (hs.belowE H1.below) (by simp; omega) (by simp; omega) ?_; intro x_a x_c w2 H2
    exact ⟨x_a, x_c, rfl, H2⟩
theorem cmp_isNaN_ct (x : Int) : Calls Try.prog N_cmp_isNaN_int #[(.int .i64 x)] w fun e w' => e = .returned (.bool false) ∧ Below w.heap.size w w' := by
  apply F_cmp_isNaN_int_ok
  unfold F_cmp_isNaN_int
  refine kLet_in ?_
  exact ⟨by simp, .refl _ _⟩
theorem cmp_Compare_ct (x y : Int) : Calls Try.prog N_cmp_Compare_int #[(.int .i64 x), (.int .i64 y)] w fun e w' => e = .returned (.int .i64 (cmpI x y)) ∧ Below w.heap.size w w' := by
  apply F_cmp_Compare_int_ok
  unfold F_cmp_Compare_int
  have H := St.nil w
  refine (cmp_isNaN_ct x).mono ?_
  rintro _ w1 ⟨rfl, hb1⟩; have H1 := H.pass hb1; clear H
  refine ⟨_, rfl, ?_⟩
  refine (cmp_isNaN_ct y).mono ?_
  rintro _ w2 ⟨rfl, hb2⟩; have H2 := H1.pass hb2; clear H1
  refine ⟨_, rfl, ?_⟩
  refine bsplit_intro (fun c => by cases c) (fun _ => ?_)
  refine bsplit_intro (fun c => by cases c) (fun _ => ?_)
  refine bsplit_dec (fun c => ?_) (fun c => ?_)
  · exact ⟨by rw [cmpI, if_pos c], H2.below⟩
  refine bsplit_dec (fun c' => ?_) (fun c' => ?_)
  · exact ⟨by rw [cmpI, if_neg c, if_pos c'], H2.below⟩
  · exact ⟨by rw [cmpI, if_neg c, if_neg c'], H2.below⟩
theorem cmp_Or_ct {b c : Nat} (x y : Int) (hs : SlR (IntC .i64) 1 w (some ⟨b, 0, none⟩) [x, y]) : Calls Try.prog N_cmp_Or_int #[(.slice (some ⟨b, 0, none⟩) 2 c)] w fun e w' => e = .returned (.int .i64 (if x ≠ 0 then x else y)) ∧ Below w.heap.size w w' := by
  apply F_cmp_Or_int_ok
  unfold F_cmp_Or_int
  have H := St.nil w
  refine ⟨fun i => ((2 - i).toNat, fun w1 => ∃ k : Nat, i = k ∧ k ≤ 2 ∧ (0 < k → x = 0) ∧ (1 < k → y = 0) ∧ FreshR w w1 []), ⟨0, rfl, by omega, fun h => by omega, fun h => by omega, H⟩, ?_⟩
  clear H
  rintro _ i w1 ⟨k, rfl, hk, h0, h1, H1⟩
  refine bsplit_dec (fun c1 => ?_) (fun c1 => ?_)
  · have hlt : k < 2 := by omega
    have hs1 := (slr_held hs).below H1.below |>.get
    refine ixE (xs := [x, y]) hs1 k rfl hlt fun p s hsk hb => ?_
    refine ⟨s, hb, ?_⟩
    have hk2 : k = 0 ∨ k = 1 := by omega
    refine bsplit_nd (fun c => ?_) (fun c => ?_)
    · refine ⟨?_, H1.below⟩
      rcases hk2 with rfl | rfl
      · injection hsk with hsk; subst hsk; rw [if_pos c]
      · injection hsk with hsk; subst hsk; rw [if_neg (by simp [h0 (by omega)])]
    · refine kW_i64 (by omega) ?_
      refine ⟨⟨k + 1, by omega, by omega, fun _ => ?_, fun h => ?_, H1⟩, by dsimp only; omega⟩
      · rcases hk2 with rfl | rfl
        · injection hsk with hsk; subst hsk; omega
        · exact h0 (by omega)
      · rcases hk2 with rfl | rfl
        · omega
        · injection hsk with hsk; subst hsk; omega
  · obtain rfl : k = 2 := by omega
    exact ⟨by rw [if_neg (by simp [h0 (by omega)]), h1 (by omega)], H1.below⟩
theorem access_order_ct (x y : At) : Calls Try.prog N_access_order #[aggAt x, aggAt y] w fun e w' => e = .returned (.int .i64 (ordR x y)) ∧ Below w.heap.size w w' := by
  apply F_access_order_ok
  unfold F_access_order
  have H := St.nil w
  refine H.alloc ?_; clear H; intro b w1 H1
  refine H1.alloc ?_; clear H1; intro b1 w2 H2
  refine H2.drew ?_; clear H2; intro w3 H3
  refine ⟨fun _ => True, ?_⟩
  refine H3.ld (i := 0) rfl rfl ?_
  refine H3.ld (i := 1) rfl rfl ?_
  refine ⟨trivial, ?_⟩
  refine H3.ld (i := 0) rfl rfl ?_
  refine ⟨trivial, ?_⟩
  refine H3.ld (i := 1) rfl rfl ?_
  refine (cmp_Compare_ct _ _).mono ?_
  rintro _ w4 ⟨rfl, hb4⟩; have H4 := H3.pass hb4
  have K4 : KeepsB (fun _ => True) w3 w4 := fun p _ _ hc => hb4.get hc
  refine ⟨_, rfl, K4, ?_⟩
  refine (cmp_Compare_ct _ _).mono ?_
  rintro _ w5 ⟨rfl, hb5⟩; have H5 := H4.pass hb5
  have K5 : KeepsB (fun _ => True) w3 w5 := fun p _ _ hc => hb5.get (hb4.get hc)
  refine ⟨_, rfl, K5, ?_⟩
  refine H5.allocB ?_; intro b2 w6 hb6 H6
  have K6 : KeepsB (fun _ => True) w3 w6 := fun p _ _ hc => hb6.get (hb5.get (hb4.get hc))
  refine ⟨K6, ?_⟩
  refine (cmp_Or_ct (c := 2) (cmpI x.at_ y.at_) (cmpI x.id y.id) ?_).mono ?_
  · have := H6.litI (k := .i64) [cmpI x.at_ y.at_, cmpI x.id y.id] (i := 2) rfl (by show 2 ≤ maxLen; decide)
    exact this.slI (i := 2) rfl
  rintro _ w7 ⟨rfl, hb7⟩; have H7 := H6.pass hb7
  exact ⟨_, rfl, fun p u hp hc => hb7.get (K6 p u hp hc), rfl, H7.below⟩
end
end Go.Proofs.Ytgmniohbnophdaa
