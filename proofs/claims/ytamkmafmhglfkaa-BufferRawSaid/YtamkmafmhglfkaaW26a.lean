import Derived.Test.YtamkmafmhglfkaaForms
import Derived.Test.YtamkmafmhglfkaaHp
namespace Go.Proofs.Ytamkmafmhglfkaa
open Go.Sx Go.RowKit

/-! ## The bounds of the levels -/
def bd (k : Nat) : Int := if k = 0 then 0 else if k < 15 then 8 * 2 ^ (k - 1) else 1048576
def bdArr (m : Nat) : Array Value := ((List.range 16).map fun i => Value.int .i64 (if i < m then bd i else 0)).toArray
theorem bdArr_size (m : Nat) : (bdArr m).size = 16 := by simp [bdArr]
theorem bdArr_set (k : Nat) (hk : k < 16) : (bdArr k).setIfInBounds k (.int .i64 (bd k)) = bdArr (k + 1) := by
  apply Array.ext_getElem?
  intro j
  rw [Array.getElem?_setIfInBounds]
  simp only [bdArr_size]
  by_cases h : k = j
  · subst h; simp [hk, bdArr]
  · rw [if_neg h]
    by_cases hj : j < 16
    · have : (j < k) = (j < k + 1) := by simp; omega
      simp [bdArr, hj, this]
    · simp [bdArr, hj]
theorem bdArr_get {i : Nat} (hi : i < 16) : (bdArr 16)[i]? = some (.int .i64 (bd i)) := by simp [bdArr, hi]
theorem bdArr_one (m : Nat) : (bdArr m).toList.all (·.oneCell') = true := by simp [bdArr, Value.oneCell']
theorem bd_wrap : ∀ k : Nat, k < 15 → 1 ≤ k → IntKind.wrap .i64 (8 * 2 ^ (min (IntKind.wrap .i64 ((k : Int) - 1)).toNat (IntKind.bits .i64))) = bd k := by decide

theorem bounds_ok (w : World) : Calls Try.prog N_buffer_bounds #[] w fun e w' => e = .returned (.agg (bdArr 16)) ∧ Below w.heap.size w w' := by
  apply F_buffer_bounds_ok
  unfold F_buffer_bounds
  intro w1 w2
  have hz : Blk w2 w.heap.size Ty_16_int (bdArr 0) := (Blk.new w _ _).alloc _
  have ho : Blk w2 w1.heap.size Ty_16_int (bdArr 0) := Blk.new w1 _ _
  have hb : Below w.heap.size w w2 := ((Below.refl _ _).alloc (Nat.le_refl _) _).alloc (by simp [w1]) _
  have hs : w1.heap.size = w.heap.size + 1 := by simp [w1]
  clear_value w2 w1
  refine ⟨fun l => ((15 - l).toNat, fun w3 => ∃ k : Nat, l = k ∧ 1 ≤ k ∧ k ≤ 15 ∧ Blk w3 w.heap.size Ty_16_int (bdArr 0) ∧ Blk w3 w1.heap.size Ty_16_int (bdArr k) ∧ Below w.heap.size w w3), ?_, ?_⟩
  · exact ⟨1, rfl, by omega, by omega, hz, ho, hb⟩
  · rintro _ l w3 ⟨k, rfl, h1, h2, hz, ho, hb⟩
    refine bsplit_dec (fun hlt => ?_) (fun hge => ?_)
    · have hk : k < 15 := by omega
      rw [bd_wrap k hk h1, wrap_id ((k : Int) + 1) (by omega), nb_add, Int.toNat_natCast, Nat.mul_one]
      refine ⟨by rw [wrap_id _ (by omega)]; omega, by omega, ⟨_, ho.cell0 k (v := .int .i64 0) (by simp [bdArr, show k < 16 by omega])⟩, ho.frozen _, ?_⟩
      intro w4 l1
      refine ⟨⟨k + 1, by simp [l1], by omega, by omega, hz.far (by simp; omega) _, ?_, hb.setCell (by simp; omega) _⟩, by simp [l1]; omega⟩
      rw [← bdArr_set k (by omega)]; exact ho.set k _
    · obtain rfl : k = 15 := by omega
      rw [nb_add]
      refine ⟨⟨_, ho.cell0 15 (v := .int .i64 0) rfl⟩, ho.frozen _, ?_⟩
      intro w5
      have ho : Blk w5 w1.heap.size Ty_16_int (bdArr 16) := ho.set 15 _
      have hz : Blk w5 w.heap.size Ty_16_int (bdArr 0) := hz.far (by simp; omega) _
      have hb : Below w.heap.size w w5 := hb.setCell (by simp; omega) _
      clear_value w5
      refine ⟨bdArr 16, bdArr_size _, blk_cellsAll (vs := (bdArr 16).toList) ho, ?_⟩
      rw [show Nat.beq (bdArr 16).size 16 = true from rfl]
      refine blk_storeAll hz rfl (bdArr_one _) fun w6 hz' hs => ?_
      exact ⟨bdArr 16, bdArr_size _, blk_cellsAll (vs := (bdArr 16).toList) hz', rfl, hb.but hs (Nat.le_refl _)⟩

/-! ## The level of a number -/
def levFrom : Nat → Nat → Int → Nat
  | 0, _, _ => 15
  | f + 1, k, n => if n ≤ bd k then k else levFrom f (k + 1) n
def lev (n : Int) : Nat := levFrom 16 0 n
theorem lev_at {n : Int} : ∀ {k : Nat}, k ≤ 16 → (∀ i, i < k → bd i < n) → lev n = levFrom (16 - k) k n
  | 0, _, _ => rfl
  | k + 1, hk, h => by
    rw [lev_at (k := k) (by omega) (fun i hi => h i (by omega)), show 16 - k = (16 - (k + 1)) + 1 by omega, levFrom, if_neg (by have := h k (by omega); omega)]
theorem lev_eq {n : Int} {k : Nat} (hk : k < 16) (h : ∀ i, i < k → bd i < n) (h2 : n ≤ bd k) : lev n = k := by
  rw [lev_at (by omega) h, show 16 - k = (15 - k) + 1 by omega, levFrom, if_pos h2]
theorem lev_top {n : Int} (h : ∀ i, i < 16 → bd i < n) : lev n = 15 := lev_at (k := 16) (by omega) h

theorem level_ok (n : Int) (w : World) : Calls Try.prog N_buffer_Level #[.int .i64 n] w fun e w' => e = .returned (.int .i64 (lev n)) ∧ Below w.heap.size w w' := by
  apply F_buffer_Level_ok
  unfold F_buffer_Level
  refine (bounds_ok w).mono ?_
  rintro _ w1 ⟨rfl, hb⟩
  refine ⟨bdArr 16, rfl, ?_⟩
  intro w2
  have hB : Blk w2 w1.heap.size Ty_16_int (bdArr 0) := Blk.new w1 _ _
  have hs := hb.size
  have hb : Below w.heap.size w w2 := hb.alloc hb.size _
  clear_value w2
  rw [show Nat.beq (bdArr 16).size 16 = true from rfl]
  refine blk_storeAll hB rfl (bdArr_one _) fun w3 hB hsm => ?_
  have hb : Below w.heap.size w w3 := hb.but hsm hs
  refine ⟨fun x => ((16 - x).toNat, fun w4 => ∃ k : Nat, x = k ∧ k ≤ 16 ∧ (∀ i, i < k → bd i < n) ∧ w4 = w3), ⟨0, rfl, by omega, fun i hi => by omega, rfl⟩, ?_⟩
  rintro _ x w4 ⟨k, rfl, hk, hlt, rfl⟩
  refine bsplit_dec (fun hk' => ?_) (fun hk' => ?_)
  · have hk' : k < 16 := by omega
    refine ⟨by omega, bd k, ?_, ?_⟩
    · rw [nb_add, Int.toNat_natCast, Nat.mul_one]; exact hB.cell0 k (bdArr_get hk')
    · refine bsplit_dec (fun hge => ?_) (fun hge => ?_)
      · exact ⟨by rw [lev_eq hk' hlt hge], hb⟩
      · rw [wrap_id _ (by omega)]
        exact ⟨⟨k + 1, by simp, by omega, fun i hi => by
          by_cases h : i = k
          · subst h; omega
          · exact hlt i (by omega), rfl⟩, by simp; omega⟩
  · obtain rfl : k = 16 := by omega
    exact ⟨by rw [lev_top hlt]; rfl, hb⟩

/-! ## The bound of a level -/
def bound (l : Int) : Int := if l < 0 ∨ 15 < l then -1 else bd l.toNat
theorem bound_ok (l : Int) (w : World) : Calls Try.prog N_buffer_Bound #[.int .i64 l] w fun e w' => e = .returned (.int .i64 (bound l)) ∧ Below w.heap.size w w' := by
  apply F_buffer_Bound_ok
  unfold F_buffer_Bound
  refine bsplit_dec (fun h => ⟨by rw [bound, if_pos (by omega)], .refl _ _⟩) (fun h0 => bsplit_dec (fun h => ⟨by rw [bound, if_pos (by omega)], .refl _ _⟩) (fun h1 => ?_))
  refine (bounds_ok w).mono ?_
  rintro _ w1 ⟨rfl, hb⟩
  refine ⟨bdArr 16, rfl, by omega, bd l.toNat, ?_, ?_⟩
  · rw [Nat.mul_one]; exact bdArr_get (by omega)
  · exact ⟨by rw [bound, if_neg (by omega)], hb⟩

theorem awake_ok (w : World) : Calls Try.prog N_law26_awake #[] w fun e w' => e = .returned (.bool true) ∧ Below w.heap.size w w' := by
  apply F_law26_awake_ok
  unfold F_law26_awake
  refine (level_ok 9 w).mono ?_
  rintro _ w1 ⟨rfl, b1⟩
  refine ⟨_, rfl, ?_⟩
  refine (bound_ok 2 w1).mono ?_
  rintro _ w2 ⟨rfl, b2⟩
  refine ⟨_, rfl, ?_⟩
  refine (level_ok 0 w2).mono ?_
  rintro _ w3 ⟨rfl, b3⟩
  refine ⟨_, rfl, ?_⟩
  refine (bound_ok 16 w3).mono ?_
  rintro _ w4 ⟨rfl, b4⟩
  refine ⟨_, rfl, ?_⟩
  exact ⟨rfl, below_step (below_step (below_step b1 (Nat.le_refl _) b2) (Nat.le_refl _) b3) (Nat.le_refl _) b4⟩

/-! ## BufferLevels -/
theorem bd_mono : ∀ i : Nat, i < 16 → ∀ j : Nat, j < 16 → i ≤ j → bd i ≤ bd j := by decide
theorem levFrom_spec {n : Int} (hn : n ≤ 1048576) : ∀ (f k : Nat), k + f = 16 → (∀ i, i < k → bd i < n) → levFrom f k n < 16 ∧ (∀ i, i < levFrom f k n → bd i < n) ∧ n ≤ bd (levFrom f k n)
  | 0, k, hk, h => by
    have := h 15 (by omega)
    have h15 : bd 15 = 1048576 := rfl
    omega
  | f + 1, k, hk, h => by
    unfold levFrom
    by_cases hb : n ≤ bd k
    · rw [if_pos hb]; exact ⟨by omega, h, hb⟩
    · rw [if_neg hb]
      refine levFrom_spec hn f (k + 1) (by omega) fun i hi => ?_
      by_cases hik : i = k
      · subst hik; omega
      · exact h i (by omega)
theorem lev_spec {n : Int} (hn : n ≤ 1048576) : lev n < 16 ∧ (∀ i, i < lev n → bd i < n) ∧ n ≤ bd (lev n) := levFrom_spec hn 16 0 rfl fun i hi => by omega
theorem lev_mono {a b : Int} (hab : a ≤ b) (hb : b ≤ 1048576) : lev a ≤ lev b := by
  obtain ⟨_, h2, _⟩ := lev_spec (n := a) (by omega)
  obtain ⟨_, _, k3⟩ := lev_spec hb
  rcases Nat.lt_or_ge (lev b) (lev a) with h | h
  · have := h2 _ h; omega
  · exact h
theorem bd_strict : ∀ i : Nat, i < 16 → ∀ j : Nat, j < i → bd j < bd i := by decide
theorem lev_bd {k : Nat} (hk : k < 16) : lev (bd k) = k := lev_eq hk (fun i hi => bd_strict k hk i hi) (by omega)
theorem bd_twice : ∀ k : Nat, k < 15 → 1 ≤ k → bd k ≤ 2 * bd (k - 1) + 8 := by decide
theorem bd_range : ∀ k : Nat, k < 16 → 0 ≤ bd k ∧ bd k ≤ 1048576 := by decide
theorem bound_lev {n : Int} (h : lev n < 16) : bound (lev n : Int) = bd (lev n) := by rw [bound, if_neg (by omega), Int.toNat_natCast]

end Go.Proofs.Ytamkmafmhglfkaa
