import Derived.Test.YtdafapcckimefaaP19
/- Chapter 19, plain: what fits. -/
namespace Go.Sx
theorem fit_step (sp u : Int) (L : List Rg) (k : Nat) (used : Int) (unit : Nat) (h : k < L.length) :
    fitS sp u L k used unit (prevR L k) (L.drop k) = if used + szR L[k] > sp then ⟨L[k].sn, L.take (unitOf k (prevR L k) unit L[k])⟩ else fitS sp u L (k + 1) (used + szR L[k]) (unitOf k (prevR L k) unit L[k]) (prevR L (k + 1)) (L.drop (k + 1)) := by
  rw [List.drop_eq_getElem_cons h]
  simp only [fitS, prevR, List.getElem?_eq_getElem h]
/-- a unit begins at i -/
def StartU (L : List Rg) (i unit : Nat) : Prop := match prevR L i with | none => unit = i | some q => ∀ h : i < L.length, L[i].sn ≠ q.sn
theorem start_unit {L : List Rg} {i unit : Nat} (h : StartU L i unit) (hi : i < L.length) : unitOf i (prevR L i) unit L[i] = i := by
  unfold StartU at h
  split at h
  · rename_i hp; rw [hp]; exact h
  · rename_i q hp; rw [hp]; exact if_pos (h hi)
/-- within the unit that begins at i: X is what the whole gives -/
def InU (sp u : Int) (L : List Rg) (i : Nat) (hi : i < L.length) (n : Int) (unit : Nat) (X : Stt) (k : Nat) (more : Int) : Prop :=
  (n + more ≤ sp ∧ X = fitS sp u L k (n + more) (if k = i then unit else i) (prevR L k) (L.drop k)) ∨ (n + more > sp ∧ X = ⟨L[i].sn, L.take i⟩)
theorem szR_pos (r : Rg) : 2 ≤ szR r ∧ szR r ≤ 6 := by unfold szR; split <;> omega
theorem InU.step {sp u : Int} {L : List Rg} {i : Nat} {hi : i < L.length} {n : Int} {unit : Nat} {X : Stt} {k : Nat} {more : Int} (h : InU sp u L i hi n unit X k more) (hs : StartU L i unit) (hik : i ≤ k) (hk : k < L.length) (hsn : L[k].sn = L[i].sn)
    (hpr : ∀ j (h : j < L.length), i ≤ j → j < k → L[j].sn = L[i].sn) : InU sp u L i hi n unit X (k + 1) (more + szR L[k]) := by
  have hp := szR_pos L[k]
  rcases h with ⟨h1, h2⟩ | ⟨h1, h2⟩
  · have hu : unitOf k (prevR L k) (if k = i then unit else i) L[k] = i := by
      by_cases hki : k = i
      · subst hki; rw [if_pos rfl]; exact start_unit hs hi
      · rw [if_neg hki]
        obtain ⟨j, rfl⟩ : ∃ j, k = j + 1 := ⟨k - 1, by omega⟩
        have hj : j < L.length := by omega
        simp only [unitOf, prevR, List.getElem?_eq_getElem hj]
        rw [if_neg]
        rw [hsn, hpr j hj (by omega) (by omega)]; simp
    rw [fit_step _ _ _ _ _ _ hk, hu] at h2
    by_cases hc : n + more + szR L[k] > sp
    · rw [if_pos hc, hsn] at h2
      exact .inr ⟨by omega, h2⟩
    · rw [if_neg hc] at h2
      refine .inl ⟨by omega, ?_⟩
      rw [if_neg (by omega), ← Int.add_assoc]; exact h2
  · exact .inr ⟨by omega, h2⟩
end Go.Sx
