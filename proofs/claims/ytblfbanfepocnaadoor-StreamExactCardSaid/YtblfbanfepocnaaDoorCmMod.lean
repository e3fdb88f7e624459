import Derived.Test.YtblfbanfepocnaaDoorForms
import Derived.Test.YtblfbanfepocnaaDoorHp
namespace Go.Proofs.YtblfbanfepocnaaDoor
open Go.Sx Go.RowKit

/-- made.Mod: the rest, 0 where the number is below 1 -/
def modI (n m : Int) : Int := if m < 1 then 0 else n % m
theorem modI_range (n m : Int) (h : 1 ≤ m) : 0 ≤ modI n m ∧ modI n m < m := by
  unfold modI
  rw [if_neg (by omega)]
  exact ⟨Int.emod_nonneg _ (by omega), Int.emod_lt_of_pos _ (by omega)⟩
theorem mod_ok (n m : Int) (hm : m ≤ 9223372036854775807) (w : World) : Calls Tryd.prog N_made_Mod #[.int .i64 n, .int .i64 m] w fun e w' => e = .returned (.int .i64 (modI n m)) ∧ w' = w := by
  apply F_made_Mod_ok
  unfold F_made_Mod
  refine bsplit_dec (fun h => ?_) (fun h => ⟨by omega, ?_⟩)
  · exact ⟨by rw [modI, if_pos h], rfl⟩
  have e1 : modI n m = n % m := by rw [modI, if_neg h]
  have h1 := Int.emod_nonneg n (show m ≠ 0 by omega)
  have h2 := Int.emod_lt_of_pos n (show 0 < m by omega)
  have e2 := @Int.tmod_eq_emod n m
  have e3 : (m.natAbs : Int) = m := by omega
  refine bsplit_dec (fun h => ?_) (fun h => ?_)
  · intro n1
    have : n1 = n % m := by
      simp only [n1]
      split at e2
      · omega
      · rw [wrap_id _ (by omega)]; omega
    exact ⟨by rw [this, e1], rfl⟩
  · have : n.tmod m = n % m := by
      split at e2 <;> omega
    exact ⟨by rw [this, e1], rfl⟩
end Go.Proofs.YtblfbanfepocnaaDoor
