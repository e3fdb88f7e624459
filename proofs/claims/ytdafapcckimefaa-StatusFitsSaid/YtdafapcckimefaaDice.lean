import Derived.Test.YtdafapcckimefaaForms
import Derived.Test.YtdafapcckimefaaTys
import Derived.Test.YtdafapcckimefaaBt
import Derived.Test.YtdafapcckimefaaSt
/- The dice of the laws: what a throw gives. -/
namespace Go.Proofs.Ytdafapcckimefaa
open Go.Sx Go.RowKit

theorem made_Light_ct {t_a : Option Addr} {t_l : Nat} {t_c : Nat} {w : World} :
    Calls Try.prog N_made_Light #[(.slice t_a t_l t_c)] w fun e w' => e = .returned (.bool (decide ((t_l : Int) ≤ (400 : Int)))) ∧ Below w.heap.size w w' := by
  apply F_made_Light_ok
  unfold F_made_Light
  exact ⟨rfl, .refl _ _⟩
def modI (n m : Int) : Int := if m < 1 then 0 else n % m
theorem modI_range (n m : Int) (h : 1 ≤ m) : 0 ≤ modI n m ∧ modI n m < m := by
  unfold modI
  rw [if_neg (by omega)]
  exact ⟨Int.emod_nonneg _ (by omega), Int.emod_lt_of_pos _ (by omega)⟩
theorem made_Mod_ct (n m : Int) (hm : m ≤ 9223372036854775807) {w : World} : Calls Try.prog N_made_Mod #[.int .i64 n, .int .i64 m] w fun e w' => e = .returned (.int .i64 (modI n m)) ∧ Below w.heap.size w w' := by
  apply F_made_Mod_ok
  unfold F_made_Mod
  refine bsplit_dec (fun h => ?_) (fun h => ⟨by omega, ?_⟩)
  · exact ⟨by rw [modI, if_pos h], .refl _ _⟩
  have e1 : modI n m = n % m := by rw [modI, if_neg h]
  have h1 := Int.emod_nonneg n (show m ≠ 0 by omega)
  have h2 := Int.emod_lt_of_pos n (show 0 < m by omega)
  have e2 := @Int.tmod_eq_emod n m
  have e3 : (m.natAbs : Int) = m := by omega
  refine kLet_in ?_
  refine bsplit_dec (fun h => ?_) (fun h => ?_)
  · split at e2
    · omega
    refine kW_i64 (by omega) ?_
    exact ⟨by rw [e1, show n.tmod m + m = n % m by omega], .refl _ _⟩
  · have : n.tmod m = n % m := by
      split at e2 <;> omega
    exact ⟨by rw [this, e1], .refl _ _⟩

abbrev dice (g : Nat) (a : Option Addr) (c : Nat) (ts : List Int) (p : Nat) : Res := .blk g Ty_radiolinkmade_Dice [.slice a ts.length c, .int .i64 (p : Int)]
/-- the numbers of the dice are read -/
def Rolls (a : Option Addr) (ts : List Int) (P : World → Prop) : Prop := (∀ w, P w → SlR (IntC .i64) 1 w a ts) ∧ ts.length ≤ 1000000
theorem Rolls.and {a : Option Addr} {ts : List Int} {P : World → Prop} (h : Rolls a ts P) (Q : World → Prop) : Rolls a ts fun w => Q w ∧ P w := ⟨fun w k => h.1 w k.2, h.2⟩
theorem made_Roll_ct {a : Option Addr} {c : Nat} {ts : List Int} {w : World} :
    Calls Try.prog N_made_Roll #[(.slice a ts.length c)] w fun e w' => ∃ g, e = .returned (.pointer (some ⟨g, 0, none⟩)) ∧ FreshR w w' [dice g a c ts 0] := by
  apply F_made_Roll_ok
  unfold F_made_Roll
  have H := St.nil w
  refine H.alloc ?_; clear H; intro b w1 H1
  exact ⟨b, rfl, H1⟩
section
variable {g : Nat} {a : Option Addr} {c : Nat} {ts : List Int} {p : Nat} {w : World} {A : Nat → Prop} {P : World → Prop}
theorem made_Next_ct (hP : Held A w P) (hts : Rolls a ts P) (hB : (dice g a c ts p).ok w) (hn : ∀ b, (dice g a c ts p).at = some b → ¬ A b) (hp : p ≤ ts.length) {n : Int} (hn2 : n ≤ 9223372036854775807) :
    Calls Try.prog N_made_Dice_Next #[(.pointer (some ⟨g, 0, none⟩)), (.int .i64 n)] w fun e w' => ∃ v p', e = .returned (.int .i64 v) ∧ (1 ≤ n → 0 ≤ v ∧ v < n) ∧ p' ≤ ts.length ∧ St A [g] w w' [dice g a c ts p'] P := by
  apply F_made_Dice_Next_ok
  unfold F_made_Dice_Next
  have hlen := hts.2
  have H : St A [g] w w [dice g a c ts p] P := St.startM hP hB hn
  refine H.drew ?_; clear H; intro w1 H1
  refine H1.ld (i := 0) rfl rfl ?_
  refine H1.ldS (i := 0) rfl rfl ?_
  refine bsplit_dec (fun c => ?_) (fun c => ?_) --  (decide (x ≥ (x_l : Int)))
  · exact ⟨0, p, rfl, fun h => by omega, hp, H1⟩ --! (.int .i64 0)
  · refine H1.ld (i := 0) rfl rfl ?_
    refine kW_i64 (by omega) ?_ -- x1 + (1 : Int)
    refine H1.set (i := 0) rfl (by simp) ?_; clear H1; intro w2 H2
    refine H2.drew ?_; clear H2; intro w3 H3
    have hs := hts.1 _ H3.get
    obtain ⟨q, rfl, hq⟩ := hs.get (i := p) (by omega)
    refine ⟨(· < w3.heap.size), ?_⟩
    refine H3.ldS (i := 0) rfl rfl ?_
    refine H3.ld (i := 0) rfl rfl ?_
    refine kW_i64 (by omega) ?_ -- x3 - (1 : Int)
    have e1 : ((p : Int) + 1 - 1).toNat = p := by omega
    refine ⟨q, rfl, ⟨by omega, by omega⟩, ?_⟩ --! x_a1 [(x3 - (1 : Int))]
    rw [e1]
    refine ⟨ts[p], hq, ?_⟩
    refine (made_Mod_ct _ _ hn2).mono ?_ -- (.int .i64 x5), (.int .i64 n)
    rintro _ w4 ⟨rfl, hb4⟩; have H4 := H3.pass hb4
    refine ⟨_, rfl, ?_⟩
    refine ⟨hb4.keeps, ?_⟩
    exact ⟨_, p + 1, rfl, fun h => modI_range _ _ h, by omega, H4⟩ --! (.int .i64 r)
end
section
variable {A0 : Nat → Prop} {M : List Nat} {w0 w : World} {R : List Res} {P : World → Prop} {i g : Nat} {a : Option Addr} {c : Nat} {ts : List Int} {p : Nat}
/-- a throw, for a caller that has the dice -/
theorem dNext (H : St A0 M w0 w R P) (hi : R[i]? = some (dice g a c ts p)) (hts : Rolls a ts P) (hp : p ≤ ts.length) {n : Int} (hn : n ≤ 9223372036854775807) {K : Int → World → Prop}
    (h : ∀ v p' w', Fr [g] w w' → (1 ≤ n → 0 ≤ v ∧ v < n) → p' ≤ ts.length → St A0 M w0 w' (R.set i (dice g a c ts p')) P → K v w') :
    Calls Try.prog N_made_Dice_Next #[(.pointer (some ⟨g, 0, none⟩)), (.int .i64 n)] w fun e w' => ∃ r : Int, e = .returned (.int .i64 r) ∧ K r w' := by
  obtain ⟨A, hA, hn', hr, hc⟩ := H.callM hi
  refine (made_Next_ct hA hts hr hn' hp hn).mono ?_
  rintro _ w2 ⟨v, p', rfl, hv, hp', S⟩
  have := hc S
  rw [List.append_nil] at this
  exact ⟨v, rfl, h v p' w2 S.fr hv hp' (this.imp fun _ h => h.2)⟩
theorem made_One_ct (H : St A0 M w0 w R P) (hi : R[i]? = some (dice g a c ts p)) (hts : Rolls a ts P) (hp : p ≤ ts.length) {n : Int} (hn : -9223372036854775807 ≤ n ∧ n ≤ 9223372036854775807) {K : Bool → World → Prop}
    (h : ∀ v p' w', Fr [g] w w' → p' ≤ ts.length → St A0 M w0 w' (R.set i (dice g a c ts p')) P → K v w') :
    Calls Try.prog N_made_Dice_One #[(.pointer (some ⟨g, 0, none⟩)), (.int .i64 n)] w fun e w' => ∃ r : Bool, e = .returned (.bool r) ∧ K r w' := by
  apply F_made_Dice_One_ok
  unfold F_made_Dice_One
  refine dNext H hi hts hp hn.2 fun v p' w' hf _ hp' H' => ?_
  refine kW_i64 (by omega) ?_ -- n - (1 : Int)
  refine kLet_in ?_
  exact ⟨_, rfl, h _ p' w' hf hp' H'⟩
theorem dBits (H : St A0 M w0 w R P) (hi : R[i]? = some (dice g a c ts p)) (hts : Rolls a ts P) (hp : p ≤ ts.length) {K : Int → World → Prop}
    (h : ∀ v p' w', 5 ≤ v ∧ v ≤ 9 → p' ≤ ts.length → St A0 M w0 w' (R.set i (dice g a c ts p')) P → K v w') :
    Calls Try.prog N_made_Dice_Bits #[(.pointer (some ⟨g, 0, none⟩))] w fun e w' => ∃ r : Int, e = .returned (.int .i64 r) ∧ K r w' := by
  apply F_made_Dice_Bits_ok
  unfold F_made_Dice_Bits
  refine H.alloc ?_; intro b w1 H1
  have hlt : i < R.length := by
    rcases Nat.lt_or_ge i R.length with h | h
    · exact h
    · rw [List.getElem?_eq_none h] at hi; cases hi
  refine dNext H1 (i := i) (by rw [List.getElem?_append_left hlt]; exact hi) hts hp (by omega) fun v p' w2 hf hv hp' H2 => ?_
  rw [List.set_append_left _ _ hlt] at H2
  have hv := hv (by omega)
  obtain ⟨k, rfl⟩ := natOf hv.1
  have hj : (R.set i (dice g a c ts p') ++ [Res.blk b Ty_int [.int .i64 5, .int .i64 5, .int .i64 6, .int .i64 9]])[R.length]? = some (.blk b Ty_int [.int .i64 5, .int .i64 5, .int .i64 6, .int .i64 9]) := by
    rw [List.getElem?_append_right (by simp)]; simp
  have hv2 : ∃ x : Int, ([Value.int .i64 5, .int .i64 5, .int .i64 6, .int .i64 9] : List Value)[k]? = some (.int .i64 x) ∧ 5 ≤ x ∧ x ≤ 9 := by
    rcases (show k = 0 ∨ k = 1 ∨ k = 2 ∨ k = 3 by omega) with rfl | rfl | rfl | rfl
    · exact ⟨5, rfl, by omega⟩
    · exact ⟨5, rfl, by omega⟩
    · exact ⟨6, rfl, by omega⟩
    · exact ⟨9, rfl, by omega⟩
  obtain ⟨x, hx, hr⟩ := hv2
  refine ⟨⟨b, 0, none⟩, rfl, ⟨by omega, by omega⟩, ?_⟩
  rw [Int.toNat_natCast, Nat.mul_one]
  show kLd _ (Addr.add ⟨b, 0, none⟩ k) _ _
  rw [add_mk, Nat.zero_add]
  refine H2.ld hj hx ?_
  exact ⟨x, rfl, h x p' w2 hr hp' H2.dropLast⟩
end

section
variable {g : Nat} {a : Option Addr} {c : Nat} {ts : List Int} {p : Nat} {w : World} {A : Nat → Prop} {P : World → Prop}
/-- a byte is changed, taken away or put in -/
theorem made_Spoil_ct (hP : Held A w P) (hts : Rolls a ts P) (hB : (dice g a c ts p).ok w) (hn : ∀ b, (dice g a c ts p).at = some b → ¬ A b) (hp : p ≤ ts.length) {b_a : Option Addr} {b_c : Nat} {bs : List Int} (hs : SlR (IntC .u8) 1 w b_a bs) (hb : Bytes bs) (hl : bs.length ≤ 1000000) :
    Calls Try.prog N_made_Dice_Spoil #[(.pointer (some ⟨g, 0, none⟩)), (.slice b_a bs.length b_c)] w fun e w' => ∃ ra rc zs p', e = .returned (.slice ra zs.length rc) ∧ Bytes zs ∧ zs.length ≤ bs.length + 1 ∧ p' ≤ ts.length ∧
      St A [g] w w' [dice g a c ts p', .ints Ty_uint8 .u8 ra rc zs] P := by
  have bytes_cons : ∀ {x : Int} {l : List Int}, 0 ≤ x ∧ x < 256 → Bytes l → Bytes (x :: l) := fun {x l} hx h i hi => by
    cases i with
    | zero => exact hx
    | succ i => simp only [List.getElem_cons_succ]; exact h i (by simpa using hi)
  have bytes_app : ∀ {l m : List Int}, Bytes l → Bytes m → Bytes (l ++ m) := fun {l m} h k i hi => by
    by_cases hlt : i < l.length
    · rw [List.getElem_append_left hlt]; exact h i hlt
    · rw [List.getElem_append_right (by omega)]; exact k _ (by simp at hi; omega)
  have bytes_take : ∀ n, Bytes (bs.take n) := fun n i hi => by simp only [List.getElem_take]; exact hb i (by simp at hi; omega)
  have bytes_drop : ∀ n, Bytes (bs.drop n) := fun n i hi => by simp only [List.getElem_drop]; exact hb _ (by simp at hi; omega)
  have bytes_set : ∀ n x, 0 ≤ x ∧ x < 256 → Bytes (bs.set n x) := fun n x hx i hi => by
    rw [List.getElem_set]; split
    · exact hx
    · exact hb i (by simpa using hi)
  apply F_made_Dice_Spoil_ok
  unfold F_made_Dice_Spoil
  have H : St A [g] w w [dice g a c ts p] P := St.startM hP hB hn
  have H := H.nilI Ty_uint8 .u8
  refine H.appI (i := 1) rfl sl_Ty_S_uint8 hs (by simp; omega) (by simp; omega) ?_; intro x_a x_c w1 H1
  rw [List.nil_append] at H1 ⊢
  clear H
  refine dNext H1 (i := 0) rfl hts hp (by omega) fun v p1 w2 _ hv hp1 H2 => ?_
  have hv := hv (by omega)
  clear H1
  refine kWu8 ?_
  have hvb : 0 ≤ v % 256 ∧ v % 256 < 256 := by omega
  refine bsplit_dec (fun c3 => ?_) (fun c3 => ?_) --  (decide ((x_l : Int) = (0 : Int)))
  · refine H2.alloc ?_; clear H2; intro b w3 H3
    have H3 := H3.litI (i := 2) [v % 256] rfl (by simp [maxLen])
    refine ⟨_, _, [v % 256], p1, rfl, bytes_cons hvb (fun i hi => by simp at hi), by simp, hp1, H3.sub (fun i => [0, 2].getD i 0) ?_ ?_⟩
    · rintro (_ | _ | _) r h <;> first | exact h | cases h
    · intro i j hi hj; simp only [List.length_cons, List.length_nil] at hi hj; rcases i with _ | _ | i <;> rcases j with _ | _ | j <;> simp <;> omega
  refine dNext H2 (i := 0) rfl hts hp1 (by omega) fun k p2 w4 _ hk hp2 H4 => ?_
  clear H2
  have hk := hk (by omega)
  obtain ⟨k, rfl⟩ := natOf hk.1
  refine dNext H4 (i := 0) rfl hts hp2 (by omega) fun q p3 w5 _ hq hp3 H5 => ?_
  clear H4
  simp only [List.cons_append, List.nil_append, List.set_cons_zero, List.set_cons_succ] at H5
  obtain ⟨gb, rfl, hat, _⟩ := H5.rowSome (i := 1) rfl (by omega)
  have hcap := H5.capI (i := 1) rfl
  refine kLet_in ?_
  refine bsplit_dec (fun c2 => ?_) (fun c2 => ?_) --  (decide (r2 = (0 : Int)))
  · refine kIx_at ⟨by omega, by omega⟩ ?_
    rw [add_mk, Int.toNat_natCast, Nat.mul_one, Nat.zero_add]
    refine H5.setI (i := 1) rfl (by omega) fun w6 _ H6 => ?_
    exact ⟨_, _, bs.set k (v % 256), p3, by simp, bytes_set _ _ hvb, by simp, hp3, H6⟩
  refine kLet_in ?_
  refine bsplit_dec (fun c1 => ?_) (fun c1 => ?_) --  (decide (r2 = (1 : Int)))
  · refine H5.drew ?_; clear H5; intro w7 H7
    have hne : gb ≠ g := H7.ne (i := 1) (j := 0) rfl rfl (by decide) rfl rfl
    refine ⟨fun x => x < w7.heap.size ∧ x ∉ [g], ?_⟩
    refine kIx_at ⟨by omega, by omega⟩ ?_
    rw [add_mk, Int.toNat_natCast, Nat.mul_one, Nat.zero_add]
    have hcell := H7.cellRow (i := 1) rfl (show (bs.map (Value.int .u8))[k]? = some (.int .u8 bs[k]) by rw [List.getElem?_map, List.getElem?_eq_getElem (by omega)]; rfl)
    refine ⟨⟨H7.lt (i := 1) rfl rfl, nin1 hne⟩, bs[k], hcell, ?_⟩
    refine dNext H7 (i := 0) rfl hts hp3 (by omega) fun u p4 w8 f8 hu hp4 H8 => ?_
    refine ⟨f8.keeps, ?_⟩
    refine kW_u64 (by omega) ?_ -- r3
    refine ⟨by omega, ?_⟩
    refine kWu8 ?_
    refine kLet_intro fun x6 hx6 => ?_
    refine kIx_at ⟨by omega, by omega⟩ ?_
    rw [add_mk, Nat.zero_add]
    have hx : 0 ≤ x6 ∧ x6 < 256 := by
      rw [hx6]; unfold bXor
      show 0 ≤ (_ : Int) % 256 ∧ _ % 256 < 256
      omega
    refine H8.setI (i := 1) rfl (by omega) fun w9 _ H9 => ?_
    exact ⟨_, _, bs.set k x6, p4, by simp, bytes_set _ _ hx, by simp, hp4, H9⟩
  refine kLet_in ?_
  refine bsplit_dec (fun c => ?_) (fun c => ?_) --  (decide (r2 = (2 : Int)))
  · refine H5.drew ?_; clear H5; intro w10 H10
    refine ⟨fun _ => False, ?_⟩
    refine ⟨⟨by omega, by omega⟩, ?_⟩ -- hi
    refine kW_i64 (by omega) ?_ -- r1 + (1 : Int)
    refine ⟨⟨by omega, by omega⟩, ?_⟩ -- lo
    have hold := H10.slI (i := 1) rfl
    have H10 := H10.shrinkI (i := 1) rfl k (by omega)
    have e1 : slAddr x_c 0 1 (some (⟨gb, 0, none⟩ : Addr)) = some ⟨gb, 0, none⟩ := by unfold slAddr; split <;> rfl
    have e2 : (k : Int).toNat - 0 = (bs.take k).length := by simp; omega
    have e3 : bs.length - ((k : Int) + 1).toNat = (bs.drop (k + 1)).length := by simp
    have e4 : ((k : Int) + 1).toNat = k + 1 := by omega
    rw [e1, e2, e3, e4]
    refine H10.appI (i := 1) rfl sl_Ty_S_uint8 (hold.tail hcap) (by simp; omega) (by simp; omega) ?_; intro x_a1 x_c1 w11 H11
    refine ⟨fun _ _ h => h.elim, ?_⟩
    exact ⟨_, _, _, p3, rfl, bytes_app (bytes_take _) (bytes_drop _), by simp only [List.length_append, List.length_take, List.length_drop]; omega, hp3, H11⟩
  · refine H5.drew ?_; clear H5; intro w12 H12
    refine ⟨fun _ => False, ?_⟩
    refine ⟨⟨by omega, by omega⟩, ?_⟩ -- hi
    refine ⟨⟨by omega, by omega⟩, ?_⟩ -- lo
    refine H12.alloc ?_; clear H12; intro b4 w13 H13
    refine ⟨fun _ _ h => h.elim, ?_⟩
    have H13 := H13.litI (i := 2) [v % 256] rfl (by simp [maxLen])
    have e1 : slAddr x_c 0 1 (some (⟨gb, 0, none⟩ : Addr)) = some ⟨gb, 0, none⟩ := by unfold slAddr; split <;> rfl
    have e2 : (k : Int).toNat - 0 = (bs.take k).length := by simp; omega
    have e3 : bs.length - (k : Int).toNat = (bs.drop k).length := by simp
    rw [e1, e2, e3, Int.toNat_natCast]
    refine H13.appI (i := 2) rfl sl_Ty_S_uint8 ((H13.slI (i := 1) rfl).tail hcap) (by simp; omega) (by simp; omega) ?_; intro x_a2 x_c2 w14 H14
    refine ⟨fun _ _ h => h.elim, ?_⟩
    have H14 := H14.shrinkI (i := 1) rfl k (by omega)
    refine H14.appI (i := 1) rfl sl_Ty_S_uint8 (H14.slI (i := 2) rfl) (by simp; omega) (by simp; omega) ?_; intro x_a3 x_c3 w15 H15
    refine ⟨fun _ _ h => h.elim, ?_⟩
    simp only [List.cons_append, List.nil_append, List.set_cons_zero, List.set_cons_succ] at H15
    refine ⟨_, _, _, p3, rfl, bytes_app (bytes_take _) (bytes_cons hvb (bytes_drop _)), by simp only [List.length_append, List.length_take, List.length_cons, List.length_nil, List.length_drop]; omega, hp3, H15.dropLast (R := [_, _])⟩
end
end Go.Proofs.Ytdafapcckimefaa
