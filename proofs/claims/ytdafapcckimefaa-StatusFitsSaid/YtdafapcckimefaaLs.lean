import Derived.Test.YtdafapcckimefaaForms
import Derived.Test.YtdafapcckimefaaTys
import Derived.Test.YtdafapcckimefaaBt
import Derived.Test.YtdafapcckimefaaSt
/- Numbers modulo a power of two. -/
namespace Go.Sx
open Go.RowKit
theorem bAnd_any {x : Int} (k : Nat) (hk : k ≤ 62) {m : Int} (hm : m = 2 ^ k - 1) : bAnd .i64 x m = x % 2 ^ k := by
  have h1 : (2 : Nat) ^ k ≤ 2 ^ 62 := Nat.pow_le_pow_right (by decide) hk
  have h2 : 0 < (2 : Nat) ^ k := Nat.pow_pos (by decide)
  have e1 : bAnd .i64 x m = bAnd .i64 (((x % 18446744073709551616).toNat : Nat) : Int) m := by
    have hx : BitVec.ofInt 64 x = BitVec.ofInt 64 (((x % 18446744073709551616).toNat : Nat) : Int) := by
      apply BitVec.eq_of_toNat_eq
      rw [BitVec.toNat_ofInt, BitVec.toNat_ofInt]
      have := Int.emod_nonneg x (show (18446744073709551616 : Int) ≠ 0 by decide)
      rw [Int.toNat_of_nonneg this]
      show (x % 18446744073709551616).toNat = (x % 18446744073709551616 % 18446744073709551616).toNat
      rw [Int.emod_emod]
    unfold bAnd
    show IntKind.wrap .i64 ((BitVec.ofInt 64 x &&& _).toNat : Int) = IntKind.wrap .i64 ((BitVec.ofInt 64 _ &&& _).toNat : Int)
    rw [hx]
  rw [e1]
  rw [pow_cast] at hm ⊢
  have hm2 : m = ((2 ^ k - 1 : Nat) : Int) := by omega
  subst hm2
  have hx0 := Int.emod_nonneg x (show (18446744073709551616 : Int) ≠ 0 by decide)
  have hx1 := Int.emod_lt_of_pos x (show (0 : Int) < 18446744073709551616 by decide)
  rw [bAnd_nat .i64 _ _ (by show _ < 2 ^ 64; omega) (by show _ < 2 ^ 64; omega), Nat.and_two_pow_sub_one_eq_mod]
  have := Nat.mod_lt (x % 18446744073709551616).toNat h2
  rw [wrap_id _ (by omega), Int.natCast_emod, Int.toNat_of_nonneg hx0]
  refine Int.emod_emod_of_dvd _ ?_
  have : (18446744073709551616 : Int) = ((2 ^ 64 : Nat) : Int) := by decide
  rw [this]
  exact Int.natCast_dvd_natCast.2 (Nat.pow_dvd_pow 2 (by omega))
theorem wrap_mod (e : Int) (k : Nat) (hk : k ≤ 62) : IntKind.wrap .i64 e % 2 ^ k = e % 2 ^ k := by
  have hd : (2 : Int) ^ k ∣ 18446744073709551616 := by
    have : (18446744073709551616 : Int) = ((2 ^ 64 : Nat) : Int) := by decide
    rw [this, pow_cast]
    exact Int.natCast_dvd_natCast.2 (Nat.pow_dvd_pow 2 (by omega))
  have e0 : ∃ q : Int, IntKind.wrap .i64 e = e + 18446744073709551616 * q := by
    have h := Int.emod_add_mul_ediv e 18446744073709551616
    by_cases hc : e % 18446744073709551616 ≥ 9223372036854775808
    · refine ⟨-(e / 18446744073709551616) - 1, ?_⟩
      have : IntKind.wrap .i64 e = e % 18446744073709551616 - 18446744073709551616 := if_pos (decide_eq_true hc)
      rw [this]; omega
    · refine ⟨-(e / 18446744073709551616), ?_⟩
      have : IntKind.wrap .i64 e = e % 18446744073709551616 := if_neg (fun h' => hc (of_decide_eq_true h'))
      rw [this]; omega
  obtain ⟨q, hq⟩ := e0
  obtain ⟨d, hd⟩ := hd
  rw [hq, hd, Int.mul_assoc, Int.add_mul_emod_self_left]
/-- the way from a to b -/
def way (n a b : Int) : Int := (b - a) % 2 ^ n.toNat
theorem way_range (n a b : Int) : 0 ≤ way n a b ∧ way n a b < 2 ^ n.toNat := by
  have : (0 : Int) < 2 ^ n.toNat := by rw [pow_cast]; have := Nat.pow_pos (n := n.toNat) (show 0 < 2 by decide); omega
  exact ⟨Int.emod_nonneg _ (by omega), Int.emod_lt_of_pos _ this⟩
end Go.Sx
namespace Go.Proofs.Ytdafapcckimefaa
open Go.Sx Go.RowKit

section
variable {n x a b : Int} {w : World}
theorem serial_valid_ct :
    Calls Try.prog N_serial_valid #[(.int .i64 n)] w fun e w' => e = .returned (.bool (decide (1 ≤ n ∧ n ≤ 32))) ∧ Below w.heap.size w w' := by
  apply F_serial_valid_ok
  unfold F_serial_valid
  have H := St.nil w
  refine bsplit_dec (fun c => ?_) (fun c => ?_) --  (decide (n ≥ (1 : Int)))
  · refine kLet_in ?_
    exact ⟨retD (by omega), H.below⟩
  · exact ⟨retF (by omega), H.below⟩
theorem serial_Low_ct :
    Calls Try.prog N_serial_Low #[(.int .i64 n), (.int .i64 x)] w fun e w' => e = .returned (.int .i64 (if 1 ≤ n ∧ n ≤ 32 then x % 2 ^ n.toNat else -1)) ∧ Below w.heap.size w w' := by
  apply F_serial_Low_ok
  unfold F_serial_Low
  have H := St.nil w
  refine serial_valid_ct.mono ?_ -- (.int .i64 n)
  rintro _ w1 ⟨rfl, hb1⟩; have H1 := H.pass hb1; clear H
  refine ⟨_, rfl, ?_⟩
  refine bsplit_nd (fun c => ?_) (fun c => ?_) --  (!r)
  · exact ⟨by rw [if_neg c], H1.below⟩ --! (.int .i64 (-1 : Int))
  · have hp := pow62 (n := n.toNat) (by omega)
    refine ⟨by omega, ?_⟩
    refine kShl1 (by omega) ?_
    refine kW_i64 (by omega) ?_ -- (2 ^ n.toNat) - (1 : Int)
    refine kLet_intro fun x3 hx3 => ?_ --! bAnd .i64 x ((2 ^ n.toNat) - (1 : Int))
    rw [bAnd_any n.toNat (by omega) rfl] at hx3
    exact ⟨by rw [if_pos c, hx3], H1.below⟩ --! (.int .i64 x3)
theorem serial_Distance_ct :
    Calls Try.prog N_serial_Distance #[(.int .i64 n), (.int .i64 a), (.int .i64 b)] w fun e w' => e = .returned (.int .i64 (if 1 ≤ n ∧ n ≤ 32 then way n a b else -1)) ∧ Below w.heap.size w w' := by
  apply F_serial_Distance_ok
  unfold F_serial_Distance
  have H := St.nil w
  refine kW_intro fun y hy => ?_ -- b - a
  refine serial_Low_ct.mono ?_ -- (.int .i64 n), (.int .i64 (b - a))
  rintro _ w1 ⟨rfl, hb1⟩; have H1 := H.pass hb1; clear H
  refine ⟨_, rfl, ?_⟩
  refine ⟨?_, H1.below⟩ --! (.int .i64 r)
  by_cases c : 1 ≤ n ∧ n ≤ 32
  · rw [if_pos c, if_pos c, hy, wrap_mod _ _ (by omega)]; rfl
  · rw [if_neg c, if_neg c]
end
section
variable {n x a b : Int} {w : World}
theorem ref02_valid_ct :
    Calls Try.prog N_ref02_valid #[(.int .i64 n)] w fun e w' => e = .returned (.bool (decide (1 ≤ n ∧ n ≤ 32))) ∧ Below w.heap.size w w' := by
  apply F_ref02_valid_ok
  unfold F_ref02_valid
  have H := St.nil w
  refine bsplit_dec (fun c => ?_) (fun c => ?_) --  (decide (n ≥ (1 : Int)))
  · refine kLet_in ?_
    exact ⟨retD (by omega), H.below⟩
  · exact ⟨retF (by omega), H.below⟩
theorem ref02_Low_ct :
    Calls Try.prog N_ref02_Low #[(.int .i64 n), (.int .i64 x)] w fun e w' => e = .returned (.int .i64 (if 1 ≤ n ∧ n ≤ 32 then x % 2 ^ n.toNat else -1)) ∧ Below w.heap.size w w' := by
  apply F_ref02_Low_ok
  unfold F_ref02_Low
  have H := St.nil w
  refine ref02_valid_ct.mono ?_ -- (.int .i64 n)
  rintro _ w1 ⟨rfl, hb1⟩; have H1 := H.pass hb1; clear H
  refine ⟨_, rfl, ?_⟩
  refine bsplit_nd (fun c => ?_) (fun c => ?_) --  (!r)
  · exact ⟨by rw [if_neg c], H1.below⟩ --! (.int .i64 (-1 : Int))
  · have hp := pow62 (n := n.toNat) (by omega)
    refine kW_u64 (by omega) ?_ -- n
    refine ⟨by omega, ?_⟩
    refine kShl1 (by omega) ?_
    refine kW_i64 (by omega) ?_ -- (2 ^ n.toNat) - (1 : Int)
    refine kLet_intro fun x3 hx3 => ?_ --! bAnd .i64 x ((2 ^ n.toNat) - (1 : Int))
    rw [bAnd_any n.toNat (by omega) rfl] at hx3
    exact ⟨by rw [if_pos c, hx3], H1.below⟩ --! (.int .i64 x3)
theorem ref02_Distance_ct :
    Calls Try.prog N_ref02_Distance #[(.int .i64 n), (.int .i64 a), (.int .i64 b)] w fun e w' => e = .returned (.int .i64 (if 1 ≤ n ∧ n ≤ 32 then way n a b else -1)) ∧ Below w.heap.size w w' := by
  apply F_ref02_Distance_ok
  unfold F_ref02_Distance
  have H := St.nil w
  refine ref02_valid_ct.mono ?_ -- (.int .i64 n)
  rintro _ w1 ⟨rfl, hb1⟩; have H1 := H.pass hb1; clear H
  refine ⟨_, rfl, ?_⟩
  refine bsplit_nd (fun c => ?_) (fun c => ?_) --  (!r)
  · exact ⟨by rw [if_neg c], H1.below⟩ --! (.int .i64 (-1 : Int))
  · have hp := pow62 (n := n.toNat) (by omega)
    refine ref02_Low_ct.mono ?_ -- (.int .i64 n), (.int .i64 b)
    rintro _ w2 ⟨rfl, hb2⟩; have H2 := H1.pass hb2; clear H1
    refine ⟨_, rfl, ?_⟩
    refine ref02_Low_ct.mono ?_ -- (.int .i64 n), (.int .i64 a)
    rintro _ w3 ⟨rfl, hb3⟩; have H3 := H2.pass hb3; clear H2
    refine ⟨_, rfl, ?_⟩
    rw [if_pos c, if_pos c]
    have ra : 0 ≤ a % 2 ^ n.toNat ∧ a % 2 ^ n.toNat < 2 ^ n.toNat := ⟨Int.emod_nonneg _ (by omega), Int.emod_lt_of_pos _ (by omega)⟩
    have rb : 0 ≤ b % 2 ^ n.toNat ∧ b % 2 ^ n.toNat < 2 ^ n.toNat := ⟨Int.emod_nonneg _ (by omega), Int.emod_lt_of_pos _ (by omega)⟩
    refine kW_i64 (by omega) ?_ -- r1 - r2
    refine kW_u64 (by omega) ?_ -- n
    refine ⟨by omega, ?_⟩
    refine kShl1 (by omega) ?_
    refine kW_i64 (by omega) ?_ -- (2 ^ n.toNat) - (1 : Int)
    refine kLet_intro fun x4 hx4 => ?_ --! bAnd .i64 (r1 - r2) ((2 ^ n.toNat) - (1 : Int))
    rw [bAnd_any n.toNat (by omega) rfl] at hx4
    refine ⟨?_, H3.below⟩ --! (.int .i64 x4)
    rw [if_pos c, hx4]
    unfold way
    rw [← Int.sub_emod]
end
end Go.Proofs.Ytdafapcckimefaa
