import Derived.Test.YtgmniohbnophdaaForms
import Derived.Test.YtgmniohbnophdaaTys
import Derived.Test.YtgmniohbnophdaaBt
import Derived.Test.YtgmniohbnophdaaEl
/- The dice of radiolinkroll: what a throw gives (without bytes). -/
namespace Go.Proofs.Ytgmniohbnophdaa
open Go.Sx Go.RowKit

theorem roll_Light_ct {t_a : Option Addr} {t_l : Nat} {t_c : Nat} {w : World} :
    Calls Try.prog N_roll_Light #[(.slice t_a t_l t_c)] w fun e w' => e = .returned (.bool (decide ((t_l : Int) ≤ (300 : Int)))) ∧ Below w.heap.size w w' := by
  apply F_roll_Light_ok
  unfold F_roll_Light
  exact ⟨rfl, .refl _ _⟩
def modR (n m : Int) : Int := if m < 1 then 0 else n % m
theorem modR_range (n m : Int) (h : 1 ≤ m) : 0 ≤ modR n m ∧ modR n m < m := by
  unfold modR
  rw [if_neg (by omega)]
  exact ⟨Int.emod_nonneg _ (by omega), Int.emod_lt_of_pos _ (by omega)⟩
theorem roll_Mod_ct (n m : Int) (hm : m ≤ 1000000000000) {w : World} : Calls Try.prog N_roll_Mod #[.int .i64 n, .int .i64 m] w fun e w' => e = .returned (.int .i64 (modR n m)) ∧ Below w.heap.size w w' := by
  apply F_roll_Mod_ok
  unfold F_roll_Mod
  refine bsplit_dec (fun h => ?_) (fun h => ⟨by omega, ?_⟩)
  · exact ⟨by rw [modR, if_pos h], .refl _ _⟩
  have e1 : modR n m = n % m := by rw [modR, if_neg h]
  have h1 := Int.emod_nonneg n (show m ≠ 0 by omega)
  have h2 := Int.emod_lt_of_pos n (show 0 < m by omega)
  have e2 := @Int.tmod_eq_emod n m
  have e3 : (m.natAbs : Int) = m := by omega
  have e4 : n.tmod m = n % m ∨ n.tmod m = n % m - m := by
    split at e2 <;> omega
  refine kLet_in ?_
  refine kW_i64 (by omega) ?_
  refine ⟨by omega, ?_⟩
  refine kTmod (by omega) ?_
  refine ⟨?_, .refl _ _⟩
  rw [e1]
  rcases e4 with e | e
  · rw [e, Int.add_emod_right, Int.emod_emod_of_dvd _ (Int.dvd_refl m)]
  · rw [e, show n % m - m + m = n % m by omega, Int.emod_emod_of_dvd _ (Int.dvd_refl m)]

abbrev rdice (g : Nat) (a : Option Addr) (c : Nat) (ts : List Int) (p : Nat) : Res := .blk g Ty_radiolinkroll_Dice [.slice a ts.length c, .int .i64 (p : Int)]
def Rolls (a : Option Addr) (ts : List Int) (P : World → Prop) : Prop := (∀ w, P w → SlR (IntC .i64) 1 w a ts) ∧ ts.length ≤ 1000000
theorem Rolls.and {a : Option Addr} {ts : List Int} {P : World → Prop} (h : Rolls a ts P) (Q : World → Prop) : Rolls a ts fun w => Q w ∧ P w := ⟨fun w k => h.1 w k.2, h.2⟩
theorem roll_Roll_ct {a : Option Addr} {c : Nat} {ts : List Int} {w : World} (hs : SlR (IntC .i64) 1 w a ts) (hl : ts.length ≤ 1000000) :
    Calls Try.prog N_roll_Roll #[(.slice a ts.length c)] w fun e w' => ∃ g a' c', e = .returned (.pointer (some ⟨g, 0, none⟩)) ∧ St (fun _ => False) [] w w' [rdice g a' c' ts 0] (fun w => SlR (IntC .i64) 1 w a' ts) := by
  apply F_roll_Roll_ok
  unfold F_roll_Roll
  have H := St.nil w
  refine H.alloc ?_; clear H; intro b w1 H1
  have H1 := H1.litI (i := 0) (k := .i64) [] rfl (by decide)
  refine H1.appI (i := 0) rfl sl_Ty_S_int (hs.below H1.below) (by simp; omega) (by simp; omega) ?_; intro x_a x_c w2 H2
  rw [List.nil_append] at H2 ⊢
  refine H2.alloc ?_; clear H2; intro b1 w3 H3
  have H3 := H3.shareI (i := 0) rfl
  refine ⟨b1, x_a, x_c, rfl, (H3.sub (fun _ => 1) ?_ ?_).imp fun _ h => h.1⟩
  · rintro (_ | _) r h <;> first | exact h | cases h
  · intro i j hi hj _; simp only [List.length_cons, List.length_nil] at hi hj; omega
section
variable {g : Nat} {a : Option Addr} {c : Nat} {ts : List Int} {p : Nat} {w : World} {A : Nat → Prop} {P : World → Prop}
theorem roll_Next_ct (hP : Held A w P) (hts : Rolls a ts P) (hB : (rdice g a c ts p).ok w) (hn : ∀ b, (rdice g a c ts p).at = some b → ¬ A b) (hp : p ≤ ts.length) {n : Int} (hn2 : n ≤ 1000000000000) :
    Calls Try.prog N_roll_Dice_Next #[(.pointer (some ⟨g, 0, none⟩)), (.int .i64 n)] w fun e w' => ∃ v p', e = .returned (.int .i64 v) ∧ (1 ≤ n → 0 ≤ v ∧ v < n) ∧ p' ≤ ts.length ∧ St A [g] w w' [rdice g a c ts p'] P := by
  apply F_roll_Dice_Next_ok
  unfold F_roll_Dice_Next
  have hlen := hts.2
  have H : St A [g] w w [rdice g a c ts p] P := St.startM hP hB hn
  refine H.drew ?_; clear H; intro w1 H1
  refine H1.ld (i := 0) rfl rfl ?_
  refine H1.ldS (i := 0) rfl rfl ?_
  refine bsplit_dec (fun c => ?_) (fun c => ?_) --  (decide (x ≥ (x_l : Int)))
  · exact ⟨0, p, rfl, fun h => by omega, hp, H1⟩ --! (.int .i64 0)
  · refine H1.ld (i := 0) rfl rfl ?_
    refine kW_i64 (by omega) ?_ -- x1 + (1 : Int)
    refine H1.set (i := 0) rfl (by simp) ?_; clear H1; intro w2 H2
    refine H2.drew ?_; clear H2; intro w3 H3
    have hs := hts.1 _ H3.get
    obtain ⟨q, rfl, hq⟩ := hs.get (i := p) (by omega)
    refine ⟨(· < w3.heap.size), ?_⟩
    refine H3.ldS (i := 0) rfl rfl ?_
    refine H3.ld (i := 0) rfl rfl ?_
    refine kW_i64 (by omega) ?_ -- x3 - (1 : Int)
    have e1 : ((p : Int) + 1 - 1).toNat = p := by omega
    refine ⟨q, rfl, ⟨by omega, by omega⟩, ?_⟩ --! x_a1 [(x3 - (1 : Int))]
    rw [e1]
    refine ⟨ts[p], hq, ?_⟩
    refine (roll_Mod_ct _ _ hn2).mono ?_ -- (.int .i64 x5), (.int .i64 n)
    rintro _ w4 ⟨rfl, hb4⟩; have H4 := H3.pass hb4
    refine ⟨_, rfl, ?_⟩
    refine ⟨hb4.keeps, ?_⟩
    exact ⟨_, p + 1, rfl, fun h => modR_range _ _ h, by omega, H4⟩ --! (.int .i64 r)
end
section
variable {A0 : Nat → Prop} {M : List Nat} {w0 w : World} {R : List Res} {P : World → Prop} {i g : Nat} {a : Option Addr} {c : Nat} {ts : List Int} {p : Nat}
theorem rNext (H : St A0 M w0 w R P) (hi : R[i]? = some (rdice g a c ts p)) (hts : Rolls a ts P) (hp : p ≤ ts.length) {n : Int} (hn : n ≤ 1000000000000) {K : Int → World → Prop}
    (h : ∀ v p' w', Fr [g] w w' → (1 ≤ n → 0 ≤ v ∧ v < n) → p' ≤ ts.length → St A0 M w0 w' (R.set i (rdice g a c ts p')) P → K v w') :
    Calls Try.prog N_roll_Dice_Next #[(.pointer (some ⟨g, 0, none⟩)), (.int .i64 n)] w fun e w' => ∃ r : Int, e = .returned (.int .i64 r) ∧ K r w' := by
  obtain ⟨A, hA, hn', hr, hc⟩ := H.callM hi
  refine (roll_Next_ct hA hts hr hn' hp hn).mono ?_
  rintro _ w2 ⟨v, p', rfl, hv, hp', S⟩
  have := hc S
  rw [List.append_nil] at this
  exact ⟨v, rfl, h v p' w2 S.fr hv hp' (this.imp fun _ h => h.2)⟩
end
end Go.Proofs.Ytgmniohbnophdaa
