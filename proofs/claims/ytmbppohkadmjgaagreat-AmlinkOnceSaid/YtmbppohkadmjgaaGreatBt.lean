import Derived.Test.YtmbppohkadmjgaaGreatHp
namespace Go.Sx
theorem pow_cast (k : Nat) : (2 : Int) ^ k = ((2 ^ k : Nat) : Int) := by simp
theorem bOr_i64 {x y : Int} (k : Nat) (m : Int) (hx : x = 2 ^ k * m) (hm : 0 <= m) (hy : 0 <= y /\ y < 2 ^ k) (hr : x + y <= 9223372036854775807) : bOr .i64 x y = x + y := by
 obtain ⟨m, rfl⟩ := natOf hm
 obtain ⟨y, rfl⟩ := natOf hy.1
 rw [pow_cast] at hx hy
 have hx2 : x = ((2 ^ k * m : Nat) : Int) := by rw [hx]; simp
 have hy2 : y < 2 ^ k := by omega
 subst hx2
 rw [bOr_nat .i64 _ _ (by show _ < 2 ^ 64; omega) (by show _ < 2 ^ 64; omega), <- Nat.two_pow_add_eq_or_of_lt hy2, wrap_id _ (by omega)]
 omega
theorem bAnd_i64 {x : Int} (k : Nat) (hx : 0 <= x /\ x <= 9223372036854775807) (hk : k <= 62) {m : Int} (hm : m = 2 ^ k - 1) : bAnd .i64 x m = x % 2 ^ k := by
 obtain ⟨x, rfl⟩ := natOf hx.1
 have h1 : (2 : Nat) ^ k <= 2 ^ 62 := Nat.pow_le_pow_right (by decide) hk
 have h2 : 0 < (2 : Nat) ^ k := Nat.pow_pos (by decide)
 rw [pow_cast] at hm ⊢
 have hm2 : m = ((2 ^ k - 1 : Nat) : Int) := by omega
 subst hm2
 rw [bAnd_nat .i64 _ _ (by show _ < 2 ^ 64; omega) (by show _ < 2 ^ 64; omega), Nat.and_two_pow_sub_one_eq_mod]
 have := Nat.mod_lt x h2
 rw [wrap_id _ (by omega)]
 omega
end Go.Sx
