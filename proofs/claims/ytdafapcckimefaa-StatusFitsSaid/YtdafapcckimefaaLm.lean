import Derived.Test.YtdafapcckimefaaLr
import Derived.Test.YtdafapcckimefaaEl2
import Derived.Test.YtdafapcckimefaaDice
/- The dice's ranges. -/
namespace Go.Proofs.Ytdafapcckimefaa
open Go.Sx Go.RowKit
section
variable {g : Nat} {a : Option Addr} {c : Nat} {ts : List Int} {p : Nat} {w : World} {A : Nat → Prop} {P : World → Prop} {sn most : Int}
theorem made_Ranges_ct (hP : Held A w P) (hts : Rolls a ts P) (hB : (dice g a c ts p).ok w) (hn : ∀ b, (dice g a c ts p).at = some b → ¬ A b) (hp : p ≤ ts.length) (hm : 0 ≤ most ∧ most ≤ 6) :
    Calls Try.prog N_made_Dice_Ranges #[(.pointer (some ⟨g, 0, none⟩)), (.int .i64 sn), (.int .i64 most)] w fun e w' => ∃ ra rc L p', e = .returned (.slice ra L.length rc) ∧ (L.length : Int) ≤ most ∧ (∀ x ∈ L, x.sn = sn) ∧ normB (-1) L = true ∧ (∀ x ∈ L, x.t ≤ 62) ∧ p' ≤ ts.length ∧
      St A [g] w w' [dice g a c ts p', .els encR Ty_api_Range 3 ra rc L] P := by
  apply F_made_Dice_Ranges_ok
  unfold F_made_Dice_Ranges
  have H : St A [g] w w [dice g a c ts p] P := St.startM hP hB hn
  refine dNext H (i := 0) rfl hts hp (by omega) fun r p1 w1 _ hr hp1 H1 => ?_
  have hr := hr (by omega)
  refine kW_i64 (by omega) ?_ -- most + (1 : Int)
  refine dNext H1 (i := 0) rfl hts hp1 (by omega) fun r1 p2 w2 _ hr1 hp2 H2 => ?_
  have hr1 := hr1 (by omega)
  have H2 := H2.nilE encR Ty_api_Range 3
  refine ⟨fun l_a l_l l_c at1 n => (n.toNat, fun w3 => ∃ (L : List Rg) (p3 : Nat), l_l = L.length ∧ 0 ≤ n ∧ (L.length : Int) + n ≤ most ∧ (∀ x ∈ L, x.sn = sn) ∧ normB (-1) L = true ∧ lastT (-1) L < at1 ∧ 0 ≤ at1 ∧ at1 ≤ 2 + 10 * L.length ∧ (∀ x ∈ L, x.t ≤ 62) ∧ p3 ≤ ts.length ∧
    St A [g] w w3 [dice g a c ts p3, .els encR Ty_api_Range 3 l_a l_c L] P), ⟨[], p2, rfl, by omega, by simp; omega, fun x hx => by simp at hx, rfl, by simp only [lastT]; omega, by omega, by simp; omega, fun x hx => by simp at hx, hp2, H2⟩, ?_⟩ --! I none 0 0 r r1
  clear H H1 H2
  rintro _ l_a l_l l_c at1 n w3 ⟨L, p3, rfl, hn0, hnl, hsn, hno, hla, ha0, hal, hL, hp3, H3⟩
  refine bsplit_dec (fun c => ?_) (fun c => ?_) --  (decide (n > (0 : Int)))
  · refine kW_i64 (by omega) ?_ -- at1 + (1 : Int)
    refine dNext H3 (i := 0) rfl hts hp3 (by omega) fun r2 p4 w4 _ hr2 hp4 H4 => ?_
    have hr2 := hr2 (by omega)
    refine kW_i64 (by omega) ?_ -- (at1 + (1 : Int)) + r2
    refine H4.alloc ?_; clear H4; intro b w5 H5
    refine H5.appEB encR_ok (i := 1) (j := 2) rfl [⟨sn, at1, at1 + 1 + r2⟩] rfl sl_Ty_S_api_Range rfl (by simp; omega) (by simp; omega) ?_; intro x_a x_c w6 H6
    refine kW_i64 (by omega) ?_ -- ((at1 + (1 : Int)) + r2) + (1 : Int)
    refine dNext H6 (i := 0) rfl hts hp4 (by omega) fun r3 p5 w7 _ hr3 hp5 H7 => ?_
    have hr3 := hr3 (by omega)
    refine kW_i64 (by omega) ?_ -- (((at1 + (1 : Int)) + r2) + (1 : Int)) + r3
    refine kW_i64 (by omega) ?_ -- n - (1 : Int)
    refine ⟨⟨L ++ [⟨sn, at1, at1 + 1 + r2⟩], p5, rfl, by omega, by simp; omega, fun x hx => ?_, normB_snoc _ _ _ hno hla (by simp only; omega), by rw [lastT_snoc]; simp only; omega, by omega, by simp; omega, fun x hx => ?_, hp5, H7.sub (fun i => i) ?_ (fun _ _ _ _ h => h)⟩, by dsimp only; omega⟩ --! I
    · rcases List.mem_append.1 hx with hx | hx
      · exact hsn x hx
      · simp at hx; subst hx; rfl
    · rcases List.mem_append.1 hx with hx | hx
      · exact hL x hx
      · simp at hx; subst hx; simp only; omega
    · rintro (_ | _ | _) r h <;> first | exact h | cases h
  · exact ⟨_, _, L, p3, rfl, by omega, hsn, hno, hL, hp3, H3⟩ --! (.slice l_a l_l l_c)
end
end Go.Proofs.Ytdafapcckimefaa
