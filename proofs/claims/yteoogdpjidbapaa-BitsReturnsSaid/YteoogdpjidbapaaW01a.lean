import Derived.Test.YteoogdpjidbapaaCmMod
import Derived.Test.YteoogdpjidbapaaTys
namespace Go.Proofs.Yteoogdpjidbapaa
open Go.Sx Go.RowKit

/-! ## Bits of bytes -/
def bitI (xs : List Int) (k : Nat) : Int := (xs.getD (k / 8) 0) / 2 ^ (7 - k % 8) % 2
def readV (xs : List Int) (a : Nat) : Nat → Int
  | 0 => 0
  | n + 1 => 2 * readV xs a n + bitI xs (a + n)
theorem bitI_range (xs : List Int) (k : Nat) : 0 ≤ bitI xs k ∧ bitI xs k ≤ 1 := by unfold bitI; omega
theorem readV_range (xs : List Int) (a : Nat) : ∀ n, 0 ≤ readV xs a n ∧ readV xs a n < 2 ^ n
  | 0 => by simp [readV]
  | n + 1 => by
    have h := readV_range xs a n
    have hb := bitI_range xs (a + n)
    have e : (2 : Int) ^ (n + 1) = 2 * 2 ^ n := by rw [Int.pow_succ]; omega
    simp only [readV]
    rw [e]; omega
theorem pow_le32 {n : Nat} (h : n ≤ 32) : (2 : Int) ^ n ≤ 4294967296 := by
  have : (2 : Nat) ^ n ≤ 2 ^ 32 := Nat.pow_le_pow_right (by decide) h
  have h2 : ((2 ^ n : Nat) : Int) ≤ ((2 ^ 32 : Nat) : Int) := by exact_mod_cast this
  simpa using h2
theorem pow_le8 : ∀ p : Nat, p < 8 → (2 : Int) ^ p = ((2 ^ p : Nat) : Int) ∧ 2 ^ p ≤ 128 ∧ 0 < 2 ^ p := by
  intro p hp
  refine ⟨by simp, ?_, Nat.two_pow_pos p⟩
  exact Nat.pow_le_pow_right (n := 2) (by decide) (show p ≤ 7 by omega)
theorem low_bit (x : Nat) (hx : x < 256) (p : Nat) (hp : p < 8) : bAnd .u8 (Int.fdiv (x : Int) (2 ^ (min (p : Int).toNat (IntKind.bits .u8)))) 1 = (x : Int) / 2 ^ p % 2 := by
  rw [Int.toNat_natCast, show min p (IntKind.bits .u8) = p from Nat.min_eq_left (by show p ≤ 8; omega)]
  rw [Int.fdiv_eq_ediv_of_nonneg _ (by obtain ⟨h, _⟩ := pow_le8 p hp; rw [h]; omega)]
  obtain ⟨h, h2, h3⟩ := pow_le8 p hp
  rw [h]
  have hd : x / 2 ^ p < 256 := Nat.lt_of_le_of_lt (Nat.div_le_self _ _) hx
  have e : ((x : Int) / ((2 ^ p : Nat) : Int)) = ((x / 2 ^ p : Nat) : Int) := by rw [Int.natCast_ediv]
  rw [e]
  have := bAnd_nat .u8 (x / 2 ^ p) 1 hd (by decide)
  simp only [Int.cast_ofNat_Int, Int.natCast_one] at this
  rw [show (1 : Int) = ((1 : Nat) : Int) from rfl, bAnd_nat .u8 (x / 2 ^ p) 1 hd (by decide), Nat.and_one_is_mod, IntWalk.u8_in _ (by omega)]
  omega
theorem or_low (v : Int) (b : Int) (hv : 0 ≤ v) (hv2 : v < 4294967296) (hb : 0 ≤ b ∧ b ≤ 1) : bOr .i64 (IntKind.wrap .i64 (v * 2 ^ 1)) (IntKind.wrap .i64 b) = 2 * v + b := by
  obtain ⟨m, rfl⟩ := natOf hv
  obtain ⟨c, rfl⟩ := natOf hb.1
  rw [wrap_id _ (by omega), wrap_id _ (by omega)]
  have e : (m : Int) * 2 ^ 1 = ((2 * m : Nat) : Int) := by omega
  rw [e, bOr_nat _ _ _ (by show 2 * m < 2 ^ 64; omega) (by show c < 2 ^ 64; omega)]
  have : (2 * m ||| c) = 2 * m + c := by
    have := Nat.two_pow_add_eq_or_of_lt (i := 1) (b := c) (by omega) m
    simp at this; omega
  rw [this, wrap_id _ (by omega)]
  omega

/-! ## Read -/
def rdE (xs : List Int) (a n : Int) : Int := if n < 0 ∨ 32 < n ∨ a < 0 then 3 else if 8 * xs.length < a + n then 5 else 0
def rdV (xs : List Int) (a n : Int) : Int := if rdE xs a n = 0 then readV xs a.toNat n.toNat else 0

theorem inside_ok {a : Option Addr} {xs : List Int} {c : Nat} {at1 n : Int} {w : World} (hl : xs.length ≤ 140737488355328) (h0 : 0 ≤ at1) :
    Calls Try.prog N_bits_inside #[.slice a xs.length c, .int .i64 at1, .int .i64 n] w fun e w' => e = .returned (.bool (decide (at1 + n ≤ 8 * xs.length ∧ at1 ≤ 8 * xs.length))) ∧ w' = w := by
  apply F_bits_inside_ok
  unfold F_bits_inside
  rw [wrap_id _ (by omega)]
  refine bsplit_dec (fun h => ?_) (fun h => ?_)
  · rw [wrap_id _ (by omega)]
    intro x
    refine ⟨?_, rfl⟩
    have : x = decide (at1 + n ≤ 8 * xs.length ∧ at1 ≤ 8 * xs.length) := by simp only [x]; exact decide_eq_decide.2 (by omega)
    rw [this]
  · refine ⟨?_, rfl⟩
    rw [decide_eq_false (by omega)]

section
variable {a : Option Addr} {xs : List Int} {c : Nat} {at1 n : Int} {w : World}
/-- the step that both loops take -/
theorem byte_at (ha : SlR (IntC .u8) 1 w a xs) (hb : Bytes xs) (hl : xs.length ≤ 140737488355328) {k : Nat} (hk : k < 8 * xs.length) :
    ∃ b, a = some b ∧ IntKind.wrap .i64 (Int.tdiv (k : Int) 8) = ((k / 8 : Nat) : Int) ∧ k / 8 < xs.length ∧ ∃ x : Nat, x < 256 ∧ xs.getD (k / 8) 0 = x ∧ w.cell? (b.add (k / 8 * 1)) = some (.int .u8 x) := by
  have h8 : k / 8 < xs.length := by omega
  obtain ⟨p, rfl, hp⟩ := ha.get h8
  obtain ⟨x, hx, hx2⟩ := hb.get h8
  have e : Int.tdiv (k : Int) 8 = ((k / 8 : Nat) : Int) := rfl
  refine ⟨p, rfl, by rw [e, wrap_id _ (by omega)], h8, x, hx2, by rw [getD_at h8, hx], ?_⟩
  unfold IntC at hp
  rw [hp, hx]
theorem seven_mod (k : Nat) : IntKind.wrap .i64 (7 - Int.tmod (k : Int) 8) = ((7 - k % 8 : Nat) : Int) := by
  have e : Int.tmod (k : Int) 8 = ((k % 8 : Nat) : Int) := rfl
  rw [e, wrap_id _ (by omega)]; omega

theorem read_ok (ha : SlR (IntC .u8) 1 w a xs) (hb : Bytes xs) (hl : xs.length ≤ 140737488355328) :
    Calls Try.prog N_bits_Read #[.slice a xs.length c, .int .i64 at1, .int .i64 n] w fun e w' => e = .returned (.tuple #[.int .i64 (rdV xs at1 n), .int .i64 (rdE xs at1 n)]) ∧ w' = w := by
  apply F_bits_Read_ok
  unfold F_bits_Read
  refine ⟨fun x w1 => w1 = w ∧ (x = true ↔ (n < 0 ∨ 32 < n ∨ at1 < 0)), ?_, ?_⟩
  · rintro _ x w1 ⟨rfl, hx⟩
    refine bsplit_intro (fun ht => ?_) (fun hf => ?_)
    · have : rdE xs at1 n = 3 := by rw [rdE, if_pos (hx.1 ht)]
      exact ⟨by rw [rdV, if_neg (by omega), this], rfl⟩
    have hg : ¬ (n < 0 ∨ 32 < n ∨ at1 < 0) := fun h => by rw [hx.2 h] at hf; cases hf
    refine (inside_ok hl (by omega)).mono ?_
    rintro _ w2 ⟨rfl, rfl⟩
    refine ⟨_, rfl, bsplit_intro (fun hi => ?_) (fun hi => ?_)⟩
    · simp only [Bool.not_eq_true', decide_eq_false_iff_not] at hi
      have : rdE xs at1 n = 5 := by rw [rdE, if_neg hg, if_pos (by omega)]
      exact ⟨by rw [rdV, if_neg (by omega), this], rfl⟩
    simp only [Bool.not_eq_false', decide_eq_true_eq] at hi
    obtain ⟨A, rfl⟩ := natOf (show 0 ≤ at1 by omega)
    obtain ⟨N, rfl⟩ := natOf (show 0 ≤ n by omega)
    rw [wrap_id ((A : Int) + N) (by omega)]
    refine ⟨fun v i => ((A + N - i).toNat, fun w3 => w3 = w2 ∧ ∃ m : Nat, i = ((A + m : Nat) : Int) ∧ m ≤ N ∧ v = readV xs A m), ⟨rfl, 0, by simp, by omega, rfl⟩, ?_⟩
    rintro _ v i w3 ⟨rfl, m, rfl, hm, rfl⟩
    refine bsplit_dec (fun hlt => ?_) (fun hge => ?_)
    · obtain ⟨b, rfl, e1, h8, x, hx, hxv, hc⟩ := byte_at ha hb hl (k := A + m) (by omega)
      rw [e1, seven_mod]
      refine ⟨b, rfl, ⟨by omega, by omega⟩, x, by rw [Int.toNat_natCast]; exact hc, by omega, ?_⟩
      have hr := readV_range xs A m
      have hp := pow_le32 (n := m) (by omega)
      rw [low_bit x hx (7 - (A + m) % 8) (by omega)]
      rw [or_low _ _ hr.1 (by omega) (by omega), wrap_id (((A + m : Nat) : Int) + 1) (by omega)]
      intro v1 i1
      refine ⟨⟨rfl, m + 1, by simp only [i1]; omega, by omega, ?_⟩, by simp only [i1]; omega⟩
      simp only [v1, readV, bitI]
      rw [hxv]
    · obtain rfl : m = N := by omega
      have : rdE xs (A : Int) m = 0 := by rw [rdE, if_neg hg, if_neg (by omega)]
      exact ⟨by rw [rdV, if_pos this, this, Int.toNat_natCast, Int.toNat_natCast], rfl⟩
  · refine bsplit_dec (fun h => ⟨rfl, by simp [h]⟩) (fun h1 => bsplit_dec (fun h => ⟨rfl, by simp; omega⟩) (fun h2 => ?_))
    intro x
    exact ⟨rfl, by simp only [x, decide_eq_true_eq]; omega⟩

theorem u64_id (n : Nat) (h : n < 18446744073709551616) : IntKind.wrap .u64 (n : Int) = n := IntWalk.u64_in _ (by omega)
theorem refRead_ok (ha : SlR (IntC .u8) 1 w a xs) (hb : Bytes xs) (hl : xs.length ≤ 140737488355328) :
    Calls Try.prog N_ref01_Read #[.slice a xs.length c, .int .i64 at1, .int .i64 n] w fun e w' => e = .returned (.tuple #[.int .i64 (rdV xs at1 n), .int .i64 (rdE xs at1 n)]) ∧ w' = w := by
  apply F_ref01_Read_ok
  unfold F_ref01_Read
  refine ⟨fun w1 => w1 = w ∧ ¬ (n < 0 ∨ 32 < n ∨ at1 < 0), ?_, ?_⟩
  · rintro _ w1 ⟨rfl, hg⟩
    have out : 8 * xs.length < at1 + n → Ending.returned (.tuple #[.int .i64 0, .int .i64 5]) = .returned (.tuple #[.int .i64 (rdV xs at1 n), .int .i64 (rdE xs at1 n)]) ∧ w1 = w1 := fun h => by
      have : rdE xs at1 n = 5 := by rw [rdE, if_neg hg, if_pos (by omega)]
      exact ⟨by rw [rdV, if_neg (by omega), this], rfl⟩
    refine ⟨fun w2 => w2 = w1 ∧ at1 + n ≤ 8 * xs.length, ?_, ?_⟩
    · rintro _ w2 ⟨rfl, hi⟩
      obtain ⟨A, rfl⟩ := natOf (show 0 ≤ at1 by omega)
      obtain ⟨N, rfl⟩ := natOf (show 0 ≤ n by omega)
      rw [wrap_id ((A : Int) + N) (by omega)]
      refine ⟨fun v i => ((A + N - i).toNat, fun w3 => w3 = w2 ∧ ∃ m : Nat, i = ((A + m : Nat) : Int) ∧ m ≤ N ∧ v = readV xs A m), ⟨rfl, 0, by simp, by omega, rfl⟩, ?_⟩
      rintro _ v i w3 ⟨rfl, m, rfl, hm, rfl⟩
      refine bsplit_dec (fun hlt => ?_) (fun hge => ?_)
      · obtain ⟨b, rfl, e1, h8, x, hx, hxv, hc⟩ := byte_at ha hb hl (k := A + m) (by omega)
        rw [e1, seven_mod, u64_id _ (by omega)]
        refine ⟨b, rfl, ⟨by omega, by omega⟩, x, by rw [Int.toNat_natCast]; exact hc, by omega, ?_⟩
        have hr := readV_range xs A m
        have hp := pow_le32 (n := m) (by omega)
        rw [low_bit x hx (7 - (A + m) % 8) (by omega), wrap_id ((x : Int) / 2 ^ (7 - (A + m) % 8) % 2) (by omega), wrap_id (2 * readV xs A m) (by omega), wrap_id _ (by omega), wrap_id (((A + m : Nat) : Int) + 1) (by omega)]
        intro v1 i1
        refine ⟨⟨rfl, m + 1, by simp only [i1]; omega, by omega, ?_⟩, by simp only [i1]; omega⟩
        simp only [v1, readV, bitI]
        rw [hxv]
      · obtain rfl : m = N := by omega
        have : rdE xs (A : Int) m = 0 := by rw [rdE, if_neg hg, if_neg (by omega)]
        exact ⟨by rw [rdV, if_pos this, this, Int.toNat_natCast, Int.toNat_natCast], rfl⟩
    · rw [wrap_id (8 * (xs.length : Int)) (by omega)]
      refine bsplit_dec (fun h => out (by omega)) (fun h1 => ?_)
      rw [wrap_id (at1 + n) (by omega)]
      exact bsplit_dec (fun h => out (by omega)) (fun h2 => ⟨rfl, by omega⟩)
  · have out : (n < 0 ∨ 32 < n ∨ at1 < 0) → Ending.returned (.tuple #[.int .i64 0, .int .i64 3]) = .returned (.tuple #[.int .i64 (rdV xs at1 n), .int .i64 (rdE xs at1 n)]) ∧ w = w := fun h => by
      have : rdE xs at1 n = 3 := by rw [rdE, if_pos h]
      exact ⟨by rw [rdV, if_neg (by omega), this], rfl⟩
    refine bsplit_dec (fun h => out (by omega)) (fun h1 => bsplit_dec (fun h => out (by omega)) (fun h2 => bsplit_dec (fun h => out (by omega)) (fun h3 => ⟨rfl, by omega⟩)))
end

/-! ## Write -/
def setB (x p b : Nat) : Nat := x - x / 2 ^ p % 2 * 2 ^ p + b * 2 ^ p
def setBit (xs : List Int) (k b : Nat) : List Int := xs.set (k / 8) (setB (xs.getD (k / 8) 0).toNat (7 - k % 8) b : Nat)
def wrL (xs : List Int) (A v N : Nat) : Nat → List Int
  | 0 => xs
  | m + 1 => setBit (wrL xs A v N m) (A + m) (v / 2 ^ (N - 1 - m) % 2)
def wrE (xs : List Int) (a n v : Int) : Int := if n < 0 ∨ 32 < n ∨ a < 0 ∨ v < 0 ∨ 2 ^ n.toNat ≤ v then 3 else if 8 * xs.length < a + n then 5 else 0
def wrR (xs : List Int) (a n v : Int) : List Int := if wrE xs a n v = 0 then wrL xs a.toNat v.toNat n.toNat n.toNat else []

theorem setB_or : ∀ x : Nat, x < 256 → ∀ p : Nat, p < 8 → x ||| 2 ^ p = setB x p 1 ∧ x &&& (2 ^ 8 - 1 - 2 ^ p) = setB x p 0 ∧ setB x p 0 < 256 ∧ setB x p 1 < 256 ∧ setB (setB x p 0) p 1 = setB x p 1 := by decide +kernel
theorem setB_bit : ∀ x : Nat, x < 256 → ∀ p : Nat, p < 8 → ∀ q : Nat, q < 8 → ∀ b : Nat, b < 2 → setB x p b / 2 ^ q % 2 = if q = p then b else x / 2 ^ q % 2 := by decide +kernel
theorem setBit_length (xs : List Int) (k b : Nat) : (setBit xs k b).length = xs.length := by simp [setBit]
theorem wrL_length (xs : List Int) (A v N : Nat) : ∀ m, (wrL xs A v N m).length = xs.length
  | 0 => rfl
  | m + 1 => by rw [wrL, setBit_length, wrL_length]
theorem setB_lt {x p b : Nat} (hx : x < 256) (hp : p < 8) (hb : b < 2) : setB x p b < 256 := by
  have := setB_or x hx p hp
  rcases (show b = 0 ∨ b = 1 by omega) with rfl | rfl <;> omega
theorem _root_.Go.Sx.Bytes.getD {xs : List Int} (h : Bytes xs) (i : Nat) : ∃ m : Nat, xs.getD i 0 = m ∧ m < 256 := by
  by_cases hi : i < xs.length
  · obtain ⟨m, h1, h2⟩ := h.get hi; exact ⟨m, by rw [getD_at hi, h1], h2⟩
  · exact ⟨0, by simp [List.getD, List.getElem?_eq_none (show xs.length ≤ i by omega)], by omega⟩
theorem setBit_bytes {xs : List Int} (h : Bytes xs) (k : Nat) {b : Nat} (hb : b < 2) : Bytes (setBit xs k b) := by
  intro i hi
  simp only [setBit, List.getElem_set]
  split
  · obtain ⟨m, h1, h2⟩ := h.getD (k / 8)
    rw [h1, Int.toNat_natCast]
    have := setB_lt h2 (show 7 - k % 8 < 8 by omega) hb
    omega
  · exact h i (by simpa [setBit] using hi)
theorem wrL_bytes {xs : List Int} (h : Bytes xs) (A v N : Nat) : ∀ m, Bytes (wrL xs A v N m)
  | 0 => h
  | m + 1 => setBit_bytes (wrL_bytes h A v N m) _ (by omega)

theorem mask_eq {p : Nat} (hp : p < 8) : IntKind.wrap .u8 (1 * 2 ^ (min ((p : Nat) : Int).toNat (IntKind.bits .u8))) = ((2 ^ p : Nat) : Int) := by
  rw [Int.toNat_natCast, show min p (IntKind.bits .u8) = p from Nat.min_eq_left (by show p ≤ 8; omega)]
  obtain ⟨h, h2, h3⟩ := pow_le8 p hp
  rw [h, IntWalk.u8_in _ (by omega)]; omega
theorem v_bit (v : Nat) (hv : v < 4294967296) (q : Nat) (hq : q < 64) : bAnd .i64 (Int.fdiv (v : Int) (2 ^ (min ((q : Nat) : Int).toNat (IntKind.bits .i64)))) 1 = ((v / 2 ^ q % 2 : Nat) : Int) := by
  rw [Int.toNat_natCast, show min q (IntKind.bits .i64) = q from Nat.min_eq_left (by show q ≤ 64; omega)]
  have h : (2 : Int) ^ q = ((2 ^ q : Nat) : Int) := by simp
  rw [Int.fdiv_eq_ediv_of_nonneg _ (by rw [h]; exact Int.natCast_nonneg _), h, ← Int.natCast_ediv]
  have hd : v / 2 ^ q ≤ v := Nat.div_le_self _ _
  rw [show (1 : Int) = ((1 : Nat) : Int) from rfl, bAnd_nat .i64 (v / 2 ^ q) 1 (by show _ < 2 ^ 64; omega) (by decide), Nat.and_one_is_mod, wrap_id _ (by omega)]
theorem or_mask {x p : Nat} (hx : x < 256) (hp : p < 8) : bOr .u8 (x : Int) ((2 ^ p : Nat) : Int) = ((setB x p 1 : Nat) : Int) := by
  obtain ⟨_, h2, _⟩ := pow_le8 p hp
  have h := setB_or x hx p hp
  rw [bOr_nat .u8 x (2 ^ p) hx (by show _ < 256; omega), h.1, IntWalk.u8_in _ (by omega)]
theorem andnot_mask {x p : Nat} (hx : x < 256) (hp : p < 8) : bAndNot .u8 (x : Int) ((2 ^ p : Nat) : Int) = ((setB x p 0 : Nat) : Int) := by
  obtain ⟨_, h2, _⟩ := pow_le8 p hp
  have h := setB_or x hx p hp
  have := bAndNot_nat .u8 x (2 ^ p) hx (by show _ < 256; omega)
  rw [this, show x &&& (2 ^ IntKind.bits .u8 - 1 - 2 ^ p) = setB x p 0 from h.2.1, IntWalk.u8_in _ (by omega)]

theorem clone_ok {a : Option Addr} {xs : List Int} {c : Nat} {w : World} (ha : SlR (IntC .u8) 1 w a xs) (hl : xs.length ≤ 140737488355328) :
    Calls Try.prog N_slices_Clone_Sbyte_byte #[.slice a xs.length c] w fun e w' => ∃ a' c', e = .returned (.slice a' xs.length c') ∧ OwnI w' w.heap.size Ty_uint8 .u8 a' xs.length c' xs ∧ Below w.heap.size w w' := by
  apply F_slices_Clone_Sbyte_byte_ok
  unfold F_slices_Clone_Sbyte_byte
  refine bsplit_intro (fun h => ?_) (fun h => ?_)
  · obtain rfl : xs = [] := by
      rcases ha with h1 | ⟨b, hb, _⟩
      · exact h1
      · subst hb; simp at h
    exact ⟨none, 0, rfl, OwnI.nil_ .., .refl _ _⟩
  · intro w1
    have h0 : OwnI w1 w.heap.size Ty_uint8 .u8 (some (nb w)) 0 0 [] := OwnI.lit w Ty_uint8 .u8 [] rfl (Nat.le_refl _) (by simp)
    have hb1 : Below w.heap.size w w1 := (Below.refl _ _).alloc (Nat.le_refl _) _
    refine h0.appSl sl_Ty_S_uint8 (ha.below hb1) (by omega) (by omega) (by simp [w1]) fun a' c' w' ho hg hr => ?_
    rw [Nat.zero_add] at *
    refine ⟨a', c', rfl, by simpa using ho, hb1.app hg (by simp [w1]) fun k hk => ?_⟩
    simp [ob, nb_def] at hk; omega

section
variable {a : Option Addr} {xs : List Int} {c : Nat} {w : World} {base : Nat}
theorem set_ok (h : OwnI w base Ty_uint8 .u8 a xs.length c xs) (hb : Bytes xs) (hl : xs.length ≤ 140737488355328) {A N v : Nat} (hN : N ≤ 32) (hi : A + N ≤ 8 * xs.length) (hv : v < 4294967296) :
    Calls Try.prog N_bits_set #[.slice a xs.length c, .int .i64 A, .int .i64 N, .int .i64 v] w fun e w' => e = .returned (.tuple #[]) ∧ OwnI w' base Ty_uint8 .u8 a xs.length c (wrL xs A v N N) ∧ Below base w w' := by
  apply F_bits_set_ok
  unfold F_bits_set
  refine ⟨fun x => ((N - x).toNat, fun w1 => ∃ m : Nat, x = m ∧ m ≤ N ∧ OwnI w1 base Ty_uint8 .u8 a xs.length c (wrL xs A v N m) ∧ Below base w w1), ⟨0, rfl, by omega, h, .refl _ _⟩, ?_⟩
  rintro _ x w1 ⟨m, rfl, hm, ho, hb1⟩
  refine bsplit_dec (fun hlt => ?_) (fun hge => ?_)
  · have hlen := wrL_length xs A v N m
    obtain ⟨g, rfl⟩ := ho.some_ (by omega)
    rw [wrap_id ((A : Int) + m) (by omega), show (A : Int) + m = ((A + m : Nat) : Int) by omega, seven_mod, mask_eq (by omega)]
    refine ⟨by omega, ?_⟩
    rw [wrap_id (IntKind.wrap .i64 ((N : Int) - 1) - m) (by rw [wrap_id _ (by omega)]; omega), wrap_id ((N : Int) - 1) (by omega), show (N : Int) - 1 - m = ((N - 1 - m : Nat) : Int) by omega, v_bit v hv _ (by omega)]
    obtain ⟨b, hbb, e1, h8, y, hy, hyv, hc⟩ := byte_at ho.sl (wrL_bytes hb A v N m) (by omega) (k := A + m) (by omega)
    injection hbb with hbb
    subst hbb
    rw [e1]
    have hfr := ho.frozen ((A + m) / 8)
    have hcc : w1.cell? ⟨g, (A + m) / 8, none⟩ = some (.int .u8 y) := by rw [Nat.mul_one, add_mk, Nat.zero_add] at hc; exact hc
    have hg := (ho.lt (g := g) rfl).1
    have fin : ∀ q : Nat, q < 2 → v / 2 ^ (N - 1 - m) % 2 = q → ∀ w2, w2 = w1.setCell ⟨g, (A + m) / 8, none⟩ (.int .u8 (setB y (7 - (A + m) % 8) q : Nat)) →
        (∃ m' : Nat, (m : Int) + 1 = m' ∧ m' ≤ N ∧ OwnI w2 base Ty_uint8 .u8 (some ⟨g, 0, none⟩) xs.length c (wrL xs A v N m') ∧ Below base w w2) ∧ ((N : Int) - (m + 1)).toNat < ((N : Int) - m).toNat := by
      rintro q hq hvq _ rfl
      refine ⟨⟨m + 1, rfl, by omega, ?_, hb1.setCell hg _⟩, by omega⟩
      have := ho.set ((A + m) / 8) (setB y (7 - (A + m) % 8) q : Nat)
      simp only [wrL, setBit]
      rw [hyv, hvq, Int.toNat_natCast]
      exact this
    obtain ⟨r, hr, hr2⟩ : ∃ r, v / 2 ^ (N - 1 - m) % 2 = r ∧ r < 2 := ⟨_, rfl, Nat.mod_lt _ (by decide)⟩
    rw [hr]
    refine ⟨by omega, bsplit_intro (fun ht => ?_) (fun hf => ?_)⟩
    · have hq : v / 2 ^ (N - 1 - m) % 2 = 1 := by have := eq_of_beq ht; omega
      refine ⟨_, rfl, ⟨by omega, by omega⟩, y, by rw [Int.toNat_natCast]; exact hc, _, rfl, ⟨by omega, by omega⟩, ⟨_, by rw [Int.toNat_natCast]; exact hc⟩, by rw [Int.toNat_natCast, Nat.mul_one, add_mk, Nat.zero_add]; exact hfr, ?_⟩
      intro w2
      rw [wrap_id ((m : Int) + 1) (by omega)]
      refine fin 1 (by omega) hq w2 ?_
      simp only [w2]
      rw [Int.toNat_natCast, Nat.mul_one, add_mk, Nat.zero_add, or_mask hy (by omega)]
    · have hq : v / 2 ^ (N - 1 - m) % 2 = 0 := by have := ne_of_beq_false hf; omega
      refine ⟨_, rfl, ⟨by omega, by omega⟩, y, by rw [Int.toNat_natCast]; exact hc, _, rfl, ⟨by omega, by omega⟩, ⟨_, by rw [Int.toNat_natCast]; exact hc⟩, by rw [Int.toNat_natCast, Nat.mul_one, add_mk, Nat.zero_add]; exact hfr, ?_⟩
      intro w2
      rw [wrap_id ((m : Int) + 1) (by omega)]
      refine fin 0 (by omega) hq w2 ?_
      simp only [w2]
      rw [Int.toNat_natCast, Nat.mul_one, add_mk, Nat.zero_add, andnot_mask hy (by omega)]
  · obtain rfl : m = N := by omega
    exact ⟨rfl, ho, hb1⟩
end

/-! ## Write -/
theorem two_pow_cast (n : Nat) : (2 : Int) ^ n = ((2 ^ n : Nat) : Int) := by simp
theorem shl_one {n : Nat} (h : n ≤ 32) : IntKind.wrap .i64 (1 * 2 ^ (min ((n : Nat) : Int).toNat (IntKind.bits .i64))) = 2 ^ n := by
  rw [Int.toNat_natCast, show min n (IntKind.bits .i64) = n from Nat.min_eq_left (by show n ≤ 64; omega)]
  have := pow_le32 h
  have h0 : (0 : Int) ≤ 2 ^ n := by rw [two_pow_cast]; exact Int.natCast_nonneg _
  rw [Int.one_mul, wrap_id _ (by omega)]
theorem fits_ok (n v : Int) (w : World) : Calls Try.prog N_bits_fits #[.int .i64 n, .int .i64 v] w fun e w' => e = .returned (.bool (decide (0 ≤ n ∧ n ≤ 32 ∧ 0 ≤ v ∧ v < 2 ^ n.toNat))) ∧ w' = w := by
  apply F_bits_fits_ok
  unfold F_bits_fits
  refine bsplit_dec (fun h1 => ?_) (fun h => ⟨by rw [decide_eq_false (by omega)], rfl⟩)
  refine bsplit_dec (fun h2 => ?_) (fun h => ⟨by rw [decide_eq_false (by omega)], rfl⟩)
  refine bsplit_dec (fun h3 => ?_) (fun h => ⟨by rw [decide_eq_false (by omega)], rfl⟩)
  refine ⟨h1, ?_⟩
  intro x
  obtain ⟨N, rfl⟩ := natOf h1
  refine ⟨?_, rfl⟩
  have : x = decide (0 ≤ (N : Int) ∧ (N : Int) ≤ 32 ∧ 0 ≤ v ∧ v < 2 ^ (N : Int).toNat) := by
    simp only [x]
    rw [shl_one (by omega), Int.toNat_natCast]
    exact decide_eq_decide.2 ⟨fun h => ⟨h1, h2, h3, h⟩, fun h => h.2.2.2⟩
  rw [this]

section
variable {a : Option Addr} {xs : List Int} {c : Nat} {at1 n v : Int} {w : World}
def WrOut (w : World) (L : List Int) (E : Int) (e : Ending) (w' : World) : Prop :=
  ∃ a' c', e = .returned (.tuple #[.slice a' L.length c', .int .i64 E]) ∧ OwnI w' w.heap.size Ty_uint8 .u8 a' L.length c' L ∧ Below w.heap.size w w'
theorem WrOut.bad {L : List Int} {E : Int} (hL : L = []) {k : Int} (hE : E = k) : WrOut w L E (.returned (.tuple #[.slice none 0 0, .int .i64 k])) w := by
  subst hL; subst hE; exact ⟨none, 0, rfl, OwnI.nil_ .., .refl _ _⟩
theorem write_ok (ha : SlR (IntC .u8) 1 w a xs) (hb : Bytes xs) (hl : xs.length ≤ 140737488355328) :
    Calls Try.prog N_bits_Write #[.slice a xs.length c, .int .i64 at1, .int .i64 n, .int .i64 v] w (WrOut w (wrR xs at1 n v) (wrE xs at1 n v)) := by
  apply F_bits_Write_ok
  unfold F_bits_Write
  refine ⟨fun x w1 => w1 = w ∧ (x = true ↔ (n < 0 ∨ 32 < n ∨ at1 < 0 ∨ v < 0 ∨ 2 ^ n.toNat ≤ v)), ?_, ?_⟩
  · rintro _ x w1 ⟨rfl, hx⟩
    refine bsplit_intro (fun ht => ?_) (fun hf => ?_)
    · have : wrE xs at1 n v = 3 := by rw [wrE, if_pos (hx.1 ht)]
      exact .bad (by rw [wrR, if_neg (by omega)]) this
    have hg : ¬ (n < 0 ∨ 32 < n ∨ at1 < 0 ∨ v < 0 ∨ 2 ^ n.toNat ≤ v) := fun h => by rw [hx.2 h] at hf; cases hf
    refine (inside_ok hl (by omega)).mono ?_
    rintro _ w2 ⟨rfl, rfl⟩
    refine ⟨_, rfl, bsplit_intro (fun hi => ?_) (fun hi => ?_)⟩
    · simp only [Bool.not_eq_true', decide_eq_false_iff_not] at hi
      have : wrE xs at1 n v = 5 := by rw [wrE, if_neg hg, if_pos (by omega)]
      exact .bad (by rw [wrR, if_neg (by omega)]) this
    simp only [Bool.not_eq_false', decide_eq_true_eq] at hi
    have he : wrE xs at1 n v = 0 := by rw [wrE, if_neg hg, if_neg (by omega)]
    obtain ⟨A, rfl⟩ := natOf (show 0 ≤ at1 by omega)
    obtain ⟨N, rfl⟩ := natOf (show 0 ≤ n by omega)
    obtain ⟨V, rfl⟩ := natOf (show 0 ≤ v by omega)
    refine (clone_ok ha hl).mono ?_
    rintro _ w3 ⟨a', c', rfl, ho, hb3⟩
    refine ⟨_, _, _, rfl, ?_⟩
    have hp := pow_le32 (n := N) (by omega)
    rw [Int.toNat_natCast] at hg
    refine (set_ok ho hb hl (A := A) (N := N) (v := V) (by omega) (by omega) (by omega)).mono ?_
    rintro _ w4 ⟨rfl, ho4, hb4⟩
    refine ⟨rfl, a', c', ?_, ?_, hb3.trans hb4⟩
    · rw [wrR, if_pos he, he, wrL_length]
    · rw [wrR, if_pos he, wrL_length]; exact ho4
  · refine bsplit_dec (fun h => ⟨rfl, by simp; omega⟩) (fun h1 => ?_)
    refine (fits_ok n v w).mono ?_
    rintro _ w1 ⟨rfl, rfl⟩
    refine ⟨_, rfl, rfl, ?_⟩
    simp only [Bool.not_eq_true', decide_eq_false_iff_not]
    omega

theorem refWrite_ok (ha : SlR (IntC .u8) 1 w a xs) (hb : Bytes xs) (hl : xs.length ≤ 140737488355328) :
    Calls Try.prog N_ref01_Write #[.slice a xs.length c, .int .i64 at1, .int .i64 n, .int .i64 v] w (WrOut w (wrR xs at1 n v) (wrE xs at1 n v)) := by
  apply F_ref01_Write_ok
  unfold F_ref01_Write
  refine ⟨fun x w1 => w1 = w ∧ (x = true ↔ (n < 0 ∨ 32 < n ∨ at1 < 0 ∨ v < 0 ∨ 2 ^ n.toNat ≤ v)), ?_, ?_⟩
  · rintro _ x w1 ⟨rfl, hx⟩
    refine bsplit_intro (fun ht => ?_) (fun hf => ?_)
    · have : wrE xs at1 n v = 3 := by rw [wrE, if_pos (hx.1 ht)]
      exact .bad (by rw [wrR, if_neg (by omega)]) this
    have hg : ¬ (n < 0 ∨ 32 < n ∨ at1 < 0 ∨ v < 0 ∨ 2 ^ n.toNat ≤ v) := fun h => by rw [hx.2 h] at hf; cases hf
    have out : 8 * xs.length < at1 + n → WrOut w1 (wrR xs at1 n v) (wrE xs at1 n v) (.returned (.tuple #[.slice none 0 0, .int .i64 5])) w1 := fun h => by
      have : wrE xs at1 n v = 5 := by rw [wrE, if_neg hg, if_pos (by omega)]
      exact .bad (by rw [wrR, if_neg (by omega)]) this
    refine ⟨fun w2 => w2 = w1 ∧ at1 + n ≤ 8 * xs.length, ?_, ?_⟩
    · rintro _ w2 ⟨rfl, hi⟩
      have he : wrE xs at1 n v = 0 := by rw [wrE, if_neg hg, if_neg (by omega)]
      obtain ⟨A, rfl⟩ := natOf (show 0 ≤ at1 by omega)
      obtain ⟨N, rfl⟩ := natOf (show 0 ≤ n by omega)
      obtain ⟨V, rfl⟩ := natOf (show 0 ≤ v by omega)
      have hp := pow_le32 (n := N) (by omega)
      rw [Int.toNat_natCast] at hg
      have hRes : wrR xs A N V = wrL xs A V N N := by rw [wrR, if_pos he]; simp only [Int.toNat_natCast]
      rw [hRes, he]
      refine (OwnI.nil_ w2 w2.heap.size Ty_uint8 .u8).appSl sl_Ty_S_uint8 ha (by omega) (by omega) (Nat.le_refl _) fun a' c' w3 ho hgr hr => ?_
      rw [Nat.zero_add] at *
      rw [List.nil_append] at ho
      have hb3 : Below w2.heap.size w2 w3 := (Below.refl _ _).app hgr (Nat.le_refl _) fun k hk => by simp [ob] at hk
      refine ⟨fun x => ((N - x).toNat, fun w4 => ∃ m : Nat, x = m ∧ m ≤ N ∧ OwnI w4 w2.heap.size Ty_uint8 .u8 a' xs.length c' (wrL xs A V N m) ∧ Below w2.heap.size w2 w4), ⟨0, rfl, by omega, ho, hb3⟩, ?_⟩
      clear hr hgr ho hb3 w3
      rintro _ x w1 ⟨m, rfl, hm, ho, hb1⟩
      refine bsplit_dec (fun hlt => ?_) (fun hge => ?_)
      · have hlen := wrL_length xs A V N m
        obtain ⟨g, rfl⟩ := ho.some_ (by omega)
        rw [wrap_id ((A : Int) + m) (by omega), show (A : Int) + m = ((A + m : Nat) : Int) by omega]
        intro k
        have ek : k = ((A + m : Nat) : Int) := rfl
        clear_value k
        subst ek
        refine ⟨by rw [seven_mod, u64_id _ (by omega)]; omega, ?_⟩
        intro bit
        have eb : bit = ((2 ^ (7 - (A + m) % 8) : Nat) : Int) := by simp only [bit]; rw [seven_mod, u64_id _ (by omega), mask_eq (by omega)]
        clear_value bit
        subst eb
        rw [wrap_id (IntKind.wrap .i64 ((N : Int) - 1) - m) (by rw [wrap_id _ (by omega)]; omega), wrap_id ((N : Int) - 1) (by omega), show (N : Int) - 1 - m = ((N - 1 - m : Nat) : Int) by omega, u64_id _ (by omega), v_bit V (by omega) _ (by omega)]
        obtain ⟨b, hbb, e1, h8, y, hy, hyv, hc⟩ := byte_at ho.sl (wrL_bytes hb A V N m) (by omega) (k := A + m) (by omega)
        injection hbb with hbb
        subst hbb
        rw [e1]
        have hfr := ho.frozen ((A + m) / 8)
        have hcc : w1.cell? ⟨g, (A + m) / 8, none⟩ = some (.int .u8 y) := by rw [Nat.mul_one, add_mk, Nat.zero_add] at hc; exact hc
        have hgl := (ho.lt (g := g) rfl).1
        obtain ⟨r, hr, hr2⟩ : ∃ r, V / 2 ^ (N - 1 - m) % 2 = r ∧ r < 2 := ⟨_, rfl, Nat.mod_lt _ (by decide)⟩
        rw [hr]
        refine ⟨_, rfl, ⟨by omega, by omega⟩, y, by rw [Int.toNat_natCast]; exact hc, _, rfl, ⟨by omega, by omega⟩, ⟨_, by rw [Int.toNat_natCast]; exact hc⟩, by rw [Int.toNat_natCast, Nat.mul_one, add_mk, Nat.zero_add]; exact hfr, ?_⟩
        intro w5
        have e5 : w5 = w1.setCell ⟨g, (A + m) / 8, none⟩ (.int .u8 (setB y (7 - (A + m) % 8) 0 : Nat)) := by
          simp only [w5]; rw [Int.toNat_natCast, Nat.mul_one, add_mk, Nat.zero_add, andnot_mask hy (by omega)]
        clear_value w5
        subst e5
        have hy0 := setB_lt hy (show 7 - (A + m) % 8 < 8 by omega) (show 0 < 2 by omega)
        have ho5 := ho.set ((A + m) / 8) (setB y (7 - (A + m) % 8) 0 : Nat)
        have hb5 := hb1.setCell (p := ⟨g, (A + m) / 8, none⟩) hgl (.int .u8 (setB y (7 - (A + m) % 8) 0 : Nat))
        have hc5 : (w1.setCell ⟨g, (A + m) / 8, none⟩ (.int .u8 (setB y (7 - (A + m) % 8) 0 : Nat))).cell? ⟨g, (A + m) / 8, none⟩ = some (.int .u8 (setB y (7 - (A + m) % 8) 0 : Nat)) := by
          have := ho5.cell (j := (A + m) / 8) (by simpa using h8)
          simpa using this
        refine ⟨by omega, bsplit_intro (fun ht => ?_) (fun hf => ?_)⟩
        · have hq : r = 1 := by have := eq_of_beq ht; omega
          refine ⟨_, rfl, ⟨by omega, by omega⟩, (setB y (7 - (A + m) % 8) 0 : Nat), by rw [Int.toNat_natCast, Nat.mul_one, add_mk, Nat.zero_add]; exact hc5, _, rfl, ⟨by omega, by omega⟩, ⟨_, by rw [Int.toNat_natCast, Nat.mul_one, add_mk, Nat.zero_add]; exact hc5⟩, by rw [Int.toNat_natCast, Nat.mul_one, add_mk, Nat.zero_add]; exact ho5.frozen _, ?_⟩
          intro w6
          have e6 : w6 = (w1.setCell ⟨g, (A + m) / 8, none⟩ (.int .u8 (setB y (7 - (A + m) % 8) 0 : Nat))).setCell ⟨g, (A + m) / 8, none⟩ (.int .u8 (setB y (7 - (A + m) % 8) 1 : Nat)) := by
            simp only [w6]; rw [Int.toNat_natCast, Nat.mul_one, add_mk, Nat.zero_add, or_mask hy0 (by omega), (setB_or y hy _ (by omega)).2.2.2.2]
          clear_value w6
          subst e6
          rw [wrap_id ((m : Int) + 1) (by omega)]
          refine ⟨⟨m + 1, rfl, by omega, ?_, hb5.setCell hgl _⟩, by simp; omega⟩
          have := ho5.set ((A + m) / 8) (setB y (7 - (A + m) % 8) 1 : Nat)
          rw [List.set_set] at this
          simp only [wrL, setBit]
          rw [hyv, hr, hq, Int.toNat_natCast]
          exact this
        · have hq : r = 0 := by have := ne_of_beq_false hf; omega
          rw [wrap_id ((m : Int) + 1) (by omega)]
          refine ⟨⟨m + 1, rfl, by omega, ?_, hb5⟩, by simp; omega⟩
          simp only [wrL, setBit]
          rw [hyv, hr, hq, Int.toNat_natCast]
          exact ho5
      · obtain rfl : m = N := by omega
        exact ⟨a', c', by rw [wrL_length], by rw [wrL_length]; exact ho, hb1⟩
    · rw [wrap_id (8 * (xs.length : Int)) (by omega)]
      refine bsplit_dec (fun h => out (by omega)) (fun h1 => ?_)
      rw [wrap_id (at1 + n) (by omega)]
      exact bsplit_dec (fun h => out (by omega)) (fun h2 => ⟨rfl, by omega⟩)
  · refine bsplit_dec (fun h => ⟨rfl, by simp; omega⟩) (fun h1 => bsplit_dec (fun h => ⟨rfl, by simp; omega⟩) (fun h2 => bsplit_dec (fun h => ⟨rfl, by simp; omega⟩) (fun h3 => bsplit_dec (fun h => ⟨rfl, by simp; omega⟩) (fun h4 => ?_))))
    obtain ⟨N, rfl⟩ := natOf (show 0 ≤ n by omega)
    rw [u64_id N (by omega), shl_one (by omega)]
    refine ⟨by omega, rfl, ?_⟩
    rw [decide_eq_true_eq, Int.toNat_natCast]
    omega
end
end Go.Proofs.Yteoogdpjidbapaa
