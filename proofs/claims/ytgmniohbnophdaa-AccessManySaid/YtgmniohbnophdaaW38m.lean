import Derived.Test.YtgmniohbnophdaaW38k
import Derived.Test.YtgmniohbnophdaaFxAccessApart
/- CHAPTER 38: AccessApart. -/
set_option maxRecDepth 100000
namespace Go.Proofs.Ytgmniohbnophdaa
open Go.Sx Go.RowKit Go.P38
theorem pre0 {a p : Int} (ha : 0 ≤ a) (ha2 : a < 65536) (hp : 1 ≤ p ∧ p ≤ 64) : preR a 0 p = a % p := by
  unfold preR
  rw [if_neg (by omega), show a + 31 * 0 + 0 * Int.tdiv a p = a by omega, Int.tmod_eq_emod_of_nonneg ha]
theorem pre1 {a p : Int} (ha : 0 ≤ a) (ha2 : a < 65536) (hp : 1 ≤ p ∧ p ≤ 64) : preR a 1 p = (a + 31 + a / p) % p := by
  unfold preR
  have h : 0 ≤ a / p := Int.ediv_nonneg ha (by omega)
  rw [if_neg (by omega), Int.tdiv_eq_ediv_of_nonneg ha, show a + 31 * 1 + 1 * (a / p) = a + 31 + a / p by omega, Int.tmod_eq_emod_of_nonneg (by omega)]
theorem apart {a k p : Int} (ha : 0 ≤ a) (hk : 1 ≤ k) (hkp : k < p) (hp : 2 ≤ p ∧ p ≤ 64) (hb : a + k * p < 65536) : preR a 0 p = preR (a + k * p) 0 p ∧ preR a 1 p ≠ preR (a + k * p) 1 p := by
  have hkp0 : 0 ≤ k * p := Int.mul_nonneg (by omega) (by omega)
  rw [pre0 ha (by omega) (by omega), pre0 (by omega) hb (by omega), pre1 ha (by omega) (by omega), pre1 (by omega) hb (by omega), Int.add_mul_ediv_right _ _ (show p ≠ 0 by omega), Int.add_mul_emod_self_right]
  refine ⟨rfl, fun h => ?_⟩
  rw [show a + k * p + 31 + (a / p + k) = a + 31 + a / p + k + k * p by omega, Int.add_mul_emod_self_right] at h
  have h2 := Int.emod_eq_emod_iff_emod_sub_eq_zero.1 h.symm
  rw [show a + 31 + a / p + k - (a + 31 + a / p) = k by omega, Int.emod_eq_of_lt (by omega) hkp] at h2
  omega
section
variable {w : World} {id st pr : Int}
theorem law38_AccessApart_ct (hi : 0 ≤ id ∧ id ≤ 65535) (hs : 0 ≤ st ∧ st ≤ 255) (hpr : 0 ≤ pr ∧ pr ≤ 255) :
    Calls Try.prog N_law38_AccessApart #[.int .u16 id, .int .u8 st, .int .u8 pr] w fun e w' => e = .returned (.bool true) ∧ Below w.heap.size w w' := by
  apply F_law38_AccessApart_ok
  unfold F_law38_AccessApart
  have H := St.nil w
  refine kW_i64 (by omega) ?_
  refine kTmod (by omega) ?_
  have e1 := emod_small (x := pr) (m := 63) (by omega)
  refine kW_i64 (by omega) ?_
  generalize hp : (2 : Int) + pr % 63 = p
  have hp2 : 2 ≤ p ∧ p ≤ 64 := by omega
  refine kW_i64 (by omega) ?_
  refine kW_i64 (by omega) ?_
  refine ⟨by omega, ?_⟩
  refine kTmod (by omega) ?_
  have e2 := emod_small (x := st) (m := p - 1) (by omega)
  refine kW_i64 (by omega) ?_
  generalize hk : (1 : Int) + st % (p - 1) = k
  have hk2 : 1 ≤ k ∧ k < p := by omega
  have hm0 : 0 ≤ k * p := Int.mul_nonneg (by omega) (by omega)
  have hm1 : k * p ≤ 63 * 64 := Int.mul_le_mul (by omega) (by omega) (by omega) (by omega)
  refine kW_i64 (by omega) ?_
  refine kW_i64 (by omega) ?_
  refine kW_i64 (by omega) ?_
  refine ⟨by omega, ?_⟩
  refine kTmod (by omega) ?_
  have e3 := emod_small (x := id) (m := 65536 - k * p) (by omega)
  generalize id % (65536 - k * p) = a at e3 ⊢
  refine kW_i64 (by omega) ?_
  refine kW_i64 (by omega) ?_
  obtain ⟨a1, a2⟩ := apart (a := a) (k := k) (p := p) (by omega) (by omega) (by omega) hp2 (by omega)
  refine access_Preamble_ct.mono ?_
  rintro _ w1 ⟨rfl, hb1⟩; have H1 := H.pass hb1; clear H
  refine ⟨_, rfl, ?_⟩
  refine access_Preamble_ct.mono ?_
  rintro _ w2 ⟨rfl, hb2⟩; have H2 := H1.pass hb2; clear H1
  refine ⟨_, rfl, ?_⟩
  refine bsplit_dec (fun _ => ?_) (fun c => absurd a1 c)
  refine access_Preamble_ct.mono ?_
  rintro _ w3 ⟨rfl, hb3⟩; have H3 := H2.pass hb3; clear H2
  refine ⟨_, rfl, ?_⟩
  refine access_Preamble_ct.mono ?_
  rintro _ w4 ⟨rfl, hb4⟩; have H4 := H3.pass hb4; clear H3
  refine ⟨_, rfl, ?_⟩
  refine bsplit_nd (fun _ => ?_) (fun c => absurd c a2)
  refine law38_awake_ct.mono ?_
  rintro _ w5 ⟨rfl, hb5⟩; have H5 := H4.pass hb5; clear H4
  exact ⟨_, rfl, rfl, H5.below⟩
end
end Go.Proofs.Ytgmniohbnophdaa
