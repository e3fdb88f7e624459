import Derived.Test.YtjmjdjpbgjjhmaaForms
import Derived.Test.YtjmjdjpbgjjhmaaTys
import Derived.Test.YtjmjdjpbgjjhmaaBt
import Derived.Test.YtjmjdjpbgjjhmaaEl
/- The dice of radiolinkroll: what a throw gives. -/
namespace Go.Proofs.Ytjmjdjpbgjjhmaa
open Go.Sx Go.RowKit

theorem roll_Light_ct {t_a : Option Addr} {t_l : Nat} {t_c : Nat} {w : World} :
    Calls Try.prog N_roll_Light #[(.slice t_a t_l t_c)] w fun e w' => e = .returned (.bool (decide ((t_l : Int) ≤ (300 : Int)))) ∧ Below w.heap.size w w' := by
  apply F_roll_Light_ok
  unfold F_roll_Light
  exact ⟨rfl, .refl _ _⟩
def modR (n m : Int) : Int := if m < 1 then 0 else n % m
theorem modR_range (n m : Int) (h : 1 ≤ m) : 0 ≤ modR n m ∧ modR n m < m := by
  unfold modR
  rw [if_neg (by omega)]
  exact ⟨Int.emod_nonneg _ (by omega), Int.emod_lt_of_pos _ (by omega)⟩
theorem roll_Mod_ct (n m : Int) (hm : m ≤ 1000000000000) {w : World} : Calls Try.prog N_roll_Mod #[.int .i64 n, .int .i64 m] w fun e w' => e = .returned (.int .i64 (modR n m)) ∧ Below w.heap.size w w' := by
  apply F_roll_Mod_ok
  unfold F_roll_Mod
  refine bsplit_dec (fun h => ?_) (fun h => ⟨by omega, ?_⟩)
  · exact ⟨by rw [modR, if_pos h], .refl _ _⟩
  have e1 : modR n m = n % m := by rw [modR, if_neg h]
  have h1 := Int.emod_nonneg n (show m ≠ 0 by omega)
  have h2 := Int.emod_lt_of_pos n (show 0 < m by omega)
  have e2 := @Int.tmod_eq_emod n m
  have e3 : (m.natAbs : Int) = m := by omega
  have e4 : n.tmod m = n % m ∨ n.tmod m = n % m - m := by
    split at e2 <;> omega
  refine kLet_in ?_
  refine kW_i64 (by omega) ?_
  refine ⟨by omega, ?_⟩
  refine kTmod (by omega) ?_
  refine ⟨?_, .refl _ _⟩
  rw [e1]
  rcases e4 with e | e
  · rw [e, Int.add_emod_right, Int.emod_emod_of_dvd _ (Int.dvd_refl m)]
  · rw [e, show n % m - m + m = n % m by omega, Int.emod_emod_of_dvd _ (Int.dvd_refl m)]

abbrev rdice (g : Nat) (a : Option Addr) (c : Nat) (ts : List Int) (p : Nat) : Res := .blk g Ty_radiolinkroll_Dice [.slice a ts.length c, .int .i64 (p : Int)]
def Rolls (a : Option Addr) (ts : List Int) (P : World → Prop) : Prop := (∀ w, P w → SlR (IntC .i64) 1 w a ts) ∧ ts.length ≤ 1000000
theorem Rolls.and {a : Option Addr} {ts : List Int} {P : World → Prop} (h : Rolls a ts P) (Q : World → Prop) : Rolls a ts fun w => Q w ∧ P w := ⟨fun w k => h.1 w k.2, h.2⟩
theorem roll_Roll_ct {a : Option Addr} {c : Nat} {ts : List Int} {w : World} (hs : SlR (IntC .i64) 1 w a ts) (hl : ts.length ≤ 1000000) :
    Calls Try.prog N_roll_Roll #[(.slice a ts.length c)] w fun e w' => ∃ g a' c', e = .returned (.pointer (some ⟨g, 0, none⟩)) ∧ St (fun _ => False) [] w w' [rdice g a' c' ts 0] (fun w => SlR (IntC .i64) 1 w a' ts) := by
  apply F_roll_Roll_ok
  unfold F_roll_Roll
  have H := St.nil w
  refine H.alloc ?_; clear H; intro b w1 H1
  have H1 := H1.litI (i := 0) (k := .i64) [] rfl (by decide)
  refine H1.appI (i := 0) rfl sl_Ty_S_int (hs.below H1.below) (by simp; omega) (by simp; omega) ?_; intro x_a x_c w2 H2
  rw [List.nil_append] at H2 ⊢
  refine H2.alloc ?_; clear H2; intro b1 w3 H3
  have H3 := H3.shareI (i := 0) rfl
  refine ⟨b1, x_a, x_c, rfl, (H3.sub (fun _ => 1) ?_ ?_).imp fun _ h => h.1⟩
  · rintro (_ | _) r h <;> first | exact h | cases h
  · intro i j hi hj _; simp only [List.length_cons, List.length_nil] at hi hj; omega
section
variable {g : Nat} {a : Option Addr} {c : Nat} {ts : List Int} {p : Nat} {w : World} {A : Nat → Prop} {P : World → Prop}
theorem roll_Next_ct (hP : Held A w P) (hts : Rolls a ts P) (hB : (rdice g a c ts p).ok w) (hn : ∀ b, (rdice g a c ts p).at = some b → ¬ A b) (hp : p ≤ ts.length) {n : Int} (hn2 : n ≤ 1000000000000) :
    Calls Try.prog N_roll_Dice_Next #[(.pointer (some ⟨g, 0, none⟩)), (.int .i64 n)] w fun e w' => ∃ v p', e = .returned (.int .i64 v) ∧ (1 ≤ n → 0 ≤ v ∧ v < n) ∧ p' ≤ ts.length ∧ St A [g] w w' [rdice g a c ts p'] P := by
  apply F_roll_Dice_Next_ok
  unfold F_roll_Dice_Next
  have hlen := hts.2
  have H : St A [g] w w [rdice g a c ts p] P := St.startM hP hB hn
  refine H.drew ?_; clear H; intro w1 H1
  refine H1.ld (i := 0) rfl rfl ?_
  refine H1.ldS (i := 0) rfl rfl ?_
  refine bsplit_dec (fun c => ?_) (fun c => ?_) --  (decide (x ≥ (x_l : Int)))
  · exact ⟨0, p, rfl, fun h => by omega, hp, H1⟩ --! (.int .i64 0)
  · refine H1.ld (i := 0) rfl rfl ?_
    refine kW_i64 (by omega) ?_ -- x1 + (1 : Int)
    refine H1.set (i := 0) rfl (by simp) ?_; clear H1; intro w2 H2
    refine H2.drew ?_; clear H2; intro w3 H3
    have hs := hts.1 _ H3.get
    obtain ⟨q, rfl, hq⟩ := hs.get (i := p) (by omega)
    refine ⟨(· < w3.heap.size), ?_⟩
    refine ⟨H3.lt (i := 0) rfl rfl, ?_⟩
    refine H3.ldS (i := 0) rfl rfl ?_
    refine ⟨H3.lt (i := 0) rfl rfl, ?_⟩
    refine H3.ld (i := 0) rfl rfl ?_
    refine kW_i64 (by omega) ?_ -- x3 - (1 : Int)
    have e1 : ((p : Int) + 1 - 1).toNat = p := by omega
    refine ⟨q, rfl, ⟨by omega, by omega⟩, ?_⟩ --! x_a1 [(x3 - (1 : Int))]
    rw [e1]
    refine ⟨ts[p], hq, ?_⟩
    refine (roll_Mod_ct _ _ hn2).mono ?_ -- (.int .i64 x5), (.int .i64 n)
    rintro _ w4 ⟨rfl, hb4⟩; have H4 := H3.pass hb4
    refine ⟨_, rfl, ?_⟩
    refine ⟨hb4.keeps, ?_⟩
    exact ⟨_, p + 1, rfl, fun h => modR_range _ _ h, by omega, H4⟩ --! (.int .i64 r)
end
section
variable {A0 : Nat → Prop} {M : List Nat} {w0 w : World} {R : List Res} {P : World → Prop} {i g : Nat} {a : Option Addr} {c : Nat} {ts : List Int} {p : Nat}
theorem rNext (H : St A0 M w0 w R P) (hi : R[i]? = some (rdice g a c ts p)) (hts : Rolls a ts P) (hp : p ≤ ts.length) {n : Int} (hn : n ≤ 1000000000000) {K : Int → World → Prop}
    (h : ∀ v p' w', Fr [g] w w' → (1 ≤ n → 0 ≤ v ∧ v < n) → p' ≤ ts.length → St A0 M w0 w' (R.set i (rdice g a c ts p')) P → K v w') :
    Calls Try.prog N_roll_Dice_Next #[(.pointer (some ⟨g, 0, none⟩)), (.int .i64 n)] w fun e w' => ∃ r : Int, e = .returned (.int .i64 r) ∧ K r w' := by
  obtain ⟨A, hA, hn', hr, hc⟩ := H.callM hi
  refine (roll_Next_ct hA hts hr hn' hp hn).mono ?_
  rintro _ w2 ⟨v, p', rfl, hv, hp', S⟩
  have := hc S
  rw [List.append_nil] at this
  exact ⟨v, rfl, h v p' w2 S.fr hv hp' (this.imp fun _ h => h.2)⟩
end
section
variable {g : Nat} {a : Option Addr} {c : Nat} {ts : List Int} {p : Nat} {w : World} {A : Nat → Prop} {P : World → Prop}
theorem roll_Bytes_ct (hP : Held A w P) (hts : Rolls a ts P) (hB : (rdice g a c ts p).ok w) (hn : ∀ b, (rdice g a c ts p).at = some b → ¬ A b) (hp : p ≤ ts.length) (m : Nat) (hm : m ≤ 1000000) :
    Calls Try.prog N_roll_Dice_Bytes #[(.pointer (some ⟨g, 0, none⟩)), (.int .i64 (m : Int))] w fun e w' => ∃ ra rc bs p', e = .returned (.slice ra bs.length rc) ∧ Bytes bs ∧ bs.length = m ∧ p' ≤ ts.length ∧
      St A [g] w w' [rdice g a c ts p', .ints Ty_uint8 .u8 ra rc bs] P := by
  apply F_roll_Dice_Bytes_ok
  unfold F_roll_Dice_Bytes
  have H : St A [g] w w [rdice g a c ts p] P := St.startM hP hB hn
  refine H.makeI m rfl rfl (by omega) (by omega) fun b w1 _ H1 => ?_
  refine rNext H1 (i := 0) rfl hts hp (by omega) fun r p1 w2 _ hr hp1 H2 => ?_
  have hr := hr (by omega)
  clear H H1
  simp only [List.cons_append, List.nil_append, List.set_cons_zero] at H2
  have hz : Bytes (List.replicate m 0) := fun i hi => by simp
  refine ⟨fun i => ((m - i).toNat, fun w3 => ∃ (k : Nat) (bs : List Int), i = k ∧ k ≤ m ∧ bs.length = m ∧ Bytes bs ∧ St A [g] w w3 [rdice g a c ts p1, .row Ty_uint8 1 (some ⟨b, 0, none⟩) m m (bs.map (Value.int .u8))] P), ⟨0, List.replicate m 0, rfl, by omega, by simp, hz, by simpa [Res.ints] using H2⟩, ?_⟩ --! I (0 : Int)
  clear H2
  rintro _ i w3 ⟨k, bs, rfl, hk, hl, hb, H3⟩
  refine bsplit_dec (fun c => ?_) (fun c => ?_) --  (decide (i < n))
  · have h1 : (k : Int) * (r + 7) ≤ 1000000 * 263 := Int.mul_le_mul (by omega) (by omega) (by omega) (by omega)
    have h2 : 0 ≤ (k : Int) * (r + 7) := Int.mul_nonneg (by omega) (by omega)
    refine kW_i64 (by omega) ?_ -- r + (7 : Int)
    refine kW_i64 (by omega) ?_ -- i * (r + (7 : Int))
    refine kW_i64 (by omega) ?_ -- r + (i * (r + (7 : Int)))
    refine kWu8 ?_
    refine kIx_at ⟨by omega, by omega⟩ ?_
    rw [add_mk, Nat.zero_add, Nat.mul_one, Int.toNat_natCast]
    refine H3.setRow (i := 1) rfl (by omega) fun w4 _ H4 => ?_
    refine kW_i64 (by omega) ?_ -- i + (1 : Int)
    refine ⟨⟨k + 1, bs.set k ((r + (k : Int) * (r + 7)) % 256), by omega, by omega, by simp [hl], ?_, by rw [List.map_set]; exact H4⟩, by dsimp only; omega⟩ --! I (i + (1 : Int))
    intro j hj
    rw [List.getElem_set]; split
    · omega
    · exact hb j (by simpa using hj)
  · have e : Res.row Ty_uint8 1 (some ⟨b, 0, none⟩) m m (bs.map (Value.int .u8)) = .ints Ty_uint8 .u8 (some ⟨b, 0, none⟩) m bs := by simp [Res.ints, hl]
    rw [e] at H3
    refine ⟨_, m, bs, p1, ?_, hb, hl, hp1, H3⟩ --! (.slice (some ⟨b, 0, none⟩) n.toNat n.toNat)
    rw [hl, Int.toNat_natCast]
end
section
variable {A0 : Nat → Prop} {M : List Nat} {w0 w : World} {R : List Res} {P : World → Prop} {i g : Nat} {a : Option Addr} {c : Nat} {ts : List Int} {p : Nat}
theorem rBytes (H : St A0 M w0 w R P) (hi : R[i]? = some (rdice g a c ts p)) (hts : Rolls a ts P) (hp : p ≤ ts.length) (m : Nat) (hm : m ≤ 1000000) {x : Int} (hx : x = m) {K : Option Addr → Nat → Nat → World → Prop}
    (h : ∀ ra rc bs p' w', Bytes bs → bs.length = m → p' ≤ ts.length → St A0 M w0 w' (R.set i (rdice g a c ts p') ++ [.ints Ty_uint8 .u8 ra rc bs]) P → K ra bs.length rc w') :
    Calls Try.prog N_roll_Dice_Bytes #[(.pointer (some ⟨g, 0, none⟩)), (.int .i64 x)] w fun e w' => ∃ (ra : Option Addr) (rl rc : Nat), e = .returned (.slice ra rl rc) ∧ K ra rl rc w' := by
  subst hx
  obtain ⟨A, hA, hn', hr, hc⟩ := H.callM hi
  refine (roll_Bytes_ct hA hts hr hn' hp m hm).mono ?_
  rintro _ w2 ⟨ra, rc, bs, p', rfl, h1, h2, hp', S⟩
  exact ⟨_, _, _, rfl, h _ _ bs p' w2 h1 h2 hp' ((hc S).imp fun _ h => h.2)⟩
end
end Go.Proofs.Ytjmjdjpbgjjhmaa
