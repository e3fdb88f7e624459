import Derived.Test.YtamkmafmhglfkaaW26f
namespace Go.Proofs.Ytamkmafmhglfkaa
open Go.Sx Go.RowKit

section
variable {a b c d : Int}
theorem back4 (h : lvOk (l4 a b c d)) : encE (l4 a b c d) 4 = 0 ∧ encC (l4 a b c d) 4 = 9 ∧ encB (l4 a b c d) 4 = [16 * a + b, 16 * c + d] := by
  have hE : encE (l4 a b c d) 4 = 0 := by unfold encE; rw [if_neg (by simpa using h), if_neg (by decide)]
  exact ⟨hE, by unfold encC; rw [if_neg (by omega), if_neg (by decide)], by unfold encB; rw [if_neg (by omega), if_neg (by decide)]; rfl⟩
theorem dec4 (h : lvOk (l4 a b c d)) : decE 9 [16 * a + b, 16 * c + d] = 0 ∧ ∀ j, j < 4 → decL 9 [16 * a + b, 16 * c + d] j = l4 a b c d j := by
  have hE : decE 9 [16 * a + b, 16 * c + d] = 0 := by unfold decE; rw [if_pos rfl, if_neg (by simp)]
  obtain ⟨h0, h1, h2, h3⟩ := (lvOk_iff a b c d).1 h
  refine ⟨hE, fun j hj => ?_⟩
  unfold decL
  rw [if_neg (by omega), if_pos rfl]
  rcases (show j = 0 ∨ j = 1 ∨ j = 2 ∨ j = 3 by omega) with rfl | rfl | rfl | rfl <;> simp [l4] <;> omega
theorem bytes4 (h : lvOk (l4 a b c d)) : Bytes [16 * a + b, 16 * c + d] := by
  obtain ⟨h0, h1, h2, h3⟩ := (lvOk_iff a b c d).1 h
  intro i hi
  rcases (show i = 0 ∨ i = 1 by simp at hi; omega) with rfl | rfl <;> simp <;> omega
theorem back3 (h : lvOk (l4 a b c d)) : encE (l4 a b c d) 3 = 0 ∧ encC (l4 a b c d) 3 = 8 ∧ encB (l4 a b c d) 3 = [64 * (bst (l4 a b c d) 4 : Int) + l4 a b c d (bst (l4 a b c d) 4)] := by
  have hE : encE (l4 a b c d) 3 = 0 := by unfold encE; rw [if_neg (by simpa using h), if_neg (by decide)]
  exact ⟨hE, by unfold encC; rw [if_neg (by omega), if_pos rfl], by unfold encB; rw [if_neg (by omega), if_pos rfl]⟩
theorem dec3 {q : Nat} {v : Int} (hq : q < 4) (hv : 0 ≤ v ∧ v < 16) : decE 8 [64 * (q : Int) + v] = 0 ∧ ∀ j, j < 4 → decL 8 [64 * (q : Int) + v] j = if j = q then v else 0 := by
  have e0 : ([64 * (q : Int) + v]).getD 0 0 = 64 * (q : Int) + v := rfl
  have hE : decE 8 [64 * (q : Int) + v] = 0 := by
    unfold decE
    rw [if_neg (by decide), if_pos rfl, if_neg (by simp), e0, if_neg (by omega)]
  refine ⟨hE, fun j hj => ?_⟩
  unfold decL
  rw [if_neg (by omega), if_neg (by decide), e0]
  by_cases h : j = q
  · rw [if_pos (by omega), if_pos h]; omega
  · rw [if_neg (by omega), if_neg h]
theorem bytes3 {q : Nat} {v : Int} (hq : q < 4) (hv : 0 ≤ v ∧ v < 16) : Bytes [64 * (q : Int) + v] := by
  intro i hi
  rcases (show i = 0 by simp at hi; omega) with rfl
  simp; omega
theorem back2 (h : lvOk (l4 a b c d)) : encE (l4 a b c d) 2 = 15 := by
  unfold encE; rw [if_neg (by simpa using h), if_pos (by decide)]
end
end Go.Proofs.Ytamkmafmhglfkaa
