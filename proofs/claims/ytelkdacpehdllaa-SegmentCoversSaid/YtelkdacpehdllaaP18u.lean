import Derived.Test.YtelkdacpehdllaaP18s
/- Chapter 18, plain: what gaps cover. -/
namespace Go.Sx
theorem gaps_cov (sn k len : Int) : ∀ (l : List Rg) (at_ : Int), normB (at_ - 1) l = true → (∀ x ∈ l, x.t ≤ len) → covB k (gapsS sn l at_ len) = (decide (at_ ≤ k ∧ k < len) && !covB k l)
  | [], at_, _, _ => by
    unfold gapsS
    split
    · simp [covB]
    · rw [decide_eq_false (by omega)]; rfl
  | x :: l, at_, h, hx => by
    rw [normB_cons] at h
    have h1 := hx x (by simp)
    have ih := gaps_cov sn k len l x.t (normB_low h.2 (by omega)) fun y hy => hx y (by simp [hy])
    have e : covB k (gapsS sn (x :: l) at_ len) = (decide (at_ ≤ k ∧ k < x.f) || (decide (x.t ≤ k ∧ k < len) && !covB k l)) := by
      unfold gapsS
      split
      · rw [covB_cons, ih]
      · rw [ih, decide_eq_false (show ¬ (at_ ≤ k ∧ k < x.f) by omega), Bool.false_or]
    rw [e, covB_cons]
    by_cases c : k ≤ x.t
    · rw [cov_low h.2 c]
      simp only [Bool.not_false, Bool.and_true, Bool.or_false]
      rw [← decide_not, ← Bool.decide_or, ← Bool.decide_and, decide_eq_decide]
      omega
    · rw [decide_eq_false (show ¬ (at_ ≤ k ∧ k < x.f) by omega), decide_eq_false (show ¬ (x.f ≤ k ∧ k < x.t) by omega), Bool.false_or, Bool.false_or]
      congr 1
      rw [decide_eq_decide]; omega
theorem gaps_norm (sn len : Int) : ∀ (l : List Rg) (p at_ : Int), normB (at_ - 1) l = true → p < at_ → normB p (gapsS sn l at_ len) = true
  | [], p, at_, _, hp => by
    unfold gapsS
    split
    · rw [normB_cons]; exact ⟨⟨hp, by simp only; omega⟩, rfl⟩
    · rfl
  | x :: l, p, at_, h, hp => by
    rw [normB_cons] at h
    unfold gapsS
    split
    · rw [normB_cons]
      exact ⟨⟨hp, by simp only; omega⟩, gaps_norm sn len l x.f x.t (normB_low h.2 (by omega)) h.1.2⟩
    · exact gaps_norm sn len l p x.t (normB_low h.2 (by omega)) (by omega)
theorem gaps_sn (sn len : Int) : ∀ (l : List Rg) (at_ : Int), ∀ x ∈ gapsS sn l at_ len, x.sn = sn
  | [], at_, x, hx => by
    unfold gapsS at hx
    split at hx
    · simp at hx; subst hx; rfl
    · simp at hx
  | y :: l, at_, x, hx => by
    unfold gapsS at hx
    split at hx
    · rcases List.mem_cons.1 hx with rfl | hx
      · rfl
      · exact gaps_sn sn len l _ x hx
    · exact gaps_sn sn len l _ x hx
theorem union_sn (sn : Int) : ∀ (l : List Rg) (f t : Int), ∀ x ∈ unionS sn l f t, x.sn = sn
  | [], f, t, x, hx => by simp [unionS] at hx; subst hx; rfl
  | y :: l, f, t, x, hx => by
    unfold unionS at hx
    split at hx
    · rcases List.mem_cons.1 hx with rfl | hx
      · rfl
      · exact union_sn sn l _ _ x hx
    · split at hx
      · rcases List.mem_cons.1 hx with rfl | hx
        · rfl
        · simp only [List.mem_map] at hx
          obtain ⟨z, _, rfl⟩ := hx; rfl
      · exact union_sn sn l _ _ x hx
theorem gaps_le (sn len : Int) : ∀ (l : List Rg) (at_ : Int), (∀ x ∈ l, x.f ≤ len) → ∀ x ∈ gapsS sn l at_ len, x.t ≤ len
  | [], at_, _, x, hx => by
    unfold gapsS at hx
    split at hx
    · simp at hx; subst hx; exact Int.le_refl _
    · simp at hx
  | y :: l, at_, h, x, hx => by
    have h2 : ∀ x ∈ l, x.f ≤ len := fun z hz => h z (by simp [hz])
    unfold gapsS at hx
    split at hx
    · rcases List.mem_cons.1 hx with rfl | hx
      · exact h y (by simp)
      · exact gaps_le sn len l _ h2 x hx
    · exact gaps_le sn len l _ h2 x hx
theorem union_le (sn : Int) : ∀ (l : List Rg) (f t m : Int), (∀ x ∈ l, x.t ≤ m) → t ≤ m → ∀ x ∈ unionS sn l f t, x.t ≤ m
  | [], f, t, m, _, ht, x, hx => by simp [unionS] at hx; subst hx; exact ht
  | y :: l, f, t, m, h, ht, x, hx => by
    have h1 := h y (by simp)
    have h2 : ∀ x ∈ l, x.t ≤ m := fun z hz => h z (by simp [hz])
    unfold unionS at hx
    split at hx
    · rcases List.mem_cons.1 hx with rfl | hx
      · exact h1
      · exact union_le sn l _ _ m h2 ht x hx
    · split at hx
      · rcases List.mem_cons.1 hx with rfl | hx
        · exact ht
        · simp only [List.mem_map] at hx
          obtain ⟨z, hz, rfl⟩ := hx
          rcases List.mem_cons.1 hz with rfl | hz
          · exact h1
          · exact h2 z hz
      · exact union_le sn l _ _ m h2 (by split <;> omega) x hx
theorem norm_lt : ∀ (l : List Rg) (p : Int), normB p l = true → ∀ x ∈ l, p < x.f ∧ x.f < x.t
  | [], _, _, x, hx => by simp at hx
  | y :: l, p, h, x, hx => by
    rw [normB_cons] at h
    rcases List.mem_cons.1 hx with rfl | hx
    · exact h.1
    · have := norm_lt l y.t h.2 x hx
      omega
theorem union_comm (sn : Int) {l : List Rg} {p a b c d : Int} (h : normB p l = true) (h1 : p < a) (h2 : a < b) (h3 : p < c) (h4 : c < d) : unionS sn (unionS sn l a b) c d = unionS sn (unionS sn l c d) a b := by
  have n1 := union_norm sn l p a b h h1 h2
  have n2 := union_norm sn l p c d h h3 h4
  refine norm_unique sn _ _ p p (union_norm sn _ p c d n1 h3 h4) (union_norm sn _ p a b n2 h1 h2) (union_sn sn _ _ _) (union_sn sn _ _ _) fun k => ?_
  have hl := fun x hx => (norm_lt l p h x hx).2
  rw [union_cov sn k _ c d h4 fun x hx => (norm_lt _ p n1 x hx).2, union_cov sn k l a b h2 hl, union_cov sn k _ a b h2 fun x hx => (norm_lt _ p n2 x hx).2, union_cov sn k l c d h4 hl]
  cases decide (a ≤ k ∧ k < b) <;> cases decide (c ≤ k ∧ k < d) <;> rfl
theorem cov_high {k m : Int} {l : List Rg} (h : ∀ x ∈ l, x.t ≤ m) (hk : m ≤ k) : covB k l = false := by
  induction l with
  | nil => rfl
  | cons x l ih =>
    have := h x (by simp)
    rw [covB_cons, ih fun y hy => h y (by simp [hy]), decide_eq_false (by omega)]; rfl
theorem gaps_gaps (sn len : Int) {l : List Rg} (h : normB (-1) l = true) (hs : ∀ x ∈ l, x.sn = sn) (ht : ∀ x ∈ l, x.t ≤ len) : gapsS sn (gapsS sn l 0 len) 0 len = l := by
  have n1 := gaps_norm sn len l (-1) 0 (by simpa using h) (by omega)
  have h1 := gaps_le sn len l 0 fun x hx => by have := (norm_lt l _ h x hx).2; have := ht x hx; omega
  refine norm_unique sn _ _ (-1) (-1) (gaps_norm sn len _ (-1) 0 (by simpa using n1) (by omega)) h (gaps_sn sn len _ _) hs fun k => ?_
  rw [gaps_cov sn k len _ 0 (by simpa using n1) h1, gaps_cov sn k len l 0 (by simpa using h) ht]
  by_cases c : 0 ≤ k ∧ k < len
  · simp [c]
  · rw [decide_eq_false c, Bool.false_and]
    rcases Int.lt_or_le k 0 with hk | hk
    · exact (cov_low h (by omega)).symm
    · exact (cov_high ht (by omega)).symm
end Go.Sx
