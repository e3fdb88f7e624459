import Derived.Test.YtelkdacpehdllaaP18r
/- Chapter 18, plain: what ranges cover. -/
namespace Go.Sx
theorem covB_cons (k : Int) (x : Rg) (l : List Rg) : covB k (x :: l) = (decide (x.f ≤ k ∧ k < x.t) || covB k l) := rfl
theorem covB_map (k sn : Int) (l : List Rg) : covB k (l.map fun y => ⟨sn, y.f, y.t⟩) = covB k l := by
  induction l with
  | nil => rfl
  | cons x l ih => rw [List.map_cons, covB_cons, covB_cons, ih]
theorem normB_map (sn : Int) (l : List Rg) (p : Int) : normB p (l.map fun y => ⟨sn, y.f, y.t⟩) = normB p l := by
  induction l generalizing p with
  | nil => rfl
  | cons x l ih => simp only [List.map_cons, normB, ih]
theorem normB_cons {p : Int} {x : Rg} {l : List Rg} : normB p (x :: l) = true ↔ (p < x.f ∧ x.f < x.t) ∧ normB x.t l = true := by
  simp only [normB, Bool.and_eq_true, decide_eq_true_iff]
theorem normB_low {p q : Int} {l : List Rg} (h : normB p l = true) (hq : q ≤ p) : normB q l = true := by
  cases l with
  | nil => rfl
  | cons x l => rw [normB_cons] at h ⊢; exact ⟨⟨by omega, h.1.2⟩, h.2⟩
theorem cov_low {p k : Int} {l : List Rg} (h : normB p l = true) (hk : k ≤ p) : covB k l = false := by
  induction l generalizing p with
  | nil => rfl
  | cons x l ih =>
    rw [normB_cons] at h
    rw [covB_cons, ih h.2 (by omega), decide_eq_false (by omega)]; rfl
theorem union_norm (sn : Int) : ∀ (l : List Rg) (p f t : Int), normB p l = true → p < f → f < t → normB p (unionS sn l f t) = true
  | [], p, f, t, _, hf, ht => by simp [unionS, normB, hf, ht]
  | x :: l, p, f, t, h, hf, ht => by
    rw [normB_cons] at h
    unfold unionS
    split
    · rename_i c
      rw [normB_cons]; exact ⟨h.1, union_norm sn l x.t f t h.2 c ht⟩
    · split
      · rename_i c d
        rw [normB_cons]
        refine ⟨⟨hf, ht⟩, ?_⟩
        rw [normB_map, normB_cons]
        exact ⟨⟨by simp only; omega, h.1.2⟩, h.2⟩
      · refine union_norm sn l p _ _ (normB_low h.2 (by omega)) ?_ ?_
        · split <;> omega
        · split <;> split <;> omega
theorem union_cov (sn k : Int) : ∀ (l : List Rg) (f t : Int), f < t → (∀ x ∈ l, x.f < x.t) → covB k (unionS sn l f t) = (decide (f ≤ k ∧ k < t) || covB k l)
  | [], f, t, _, _ => by simp [unionS, covB]
  | x :: l, f, t, ht, hx => by
    have h1 := hx x (by simp)
    have h2 : ∀ y ∈ l, y.f < y.t := fun y hy => hx y (by simp [hy])
    unfold unionS
    split
    · rw [covB_cons, union_cov sn k l f t ht h2, covB_cons]
      cases decide (f ≤ k ∧ k < t) <;> cases decide (x.f ≤ k ∧ k < x.t) <;> rfl
    · split
      · rw [covB_cons, covB_map]
      · rename_i c d
        rw [union_cov sn k l _ _ (by split <;> split <;> omega) h2, covB_cons, ← Bool.or_assoc]
        congr 1
        rw [← Bool.decide_or, decide_eq_decide]
        split <;> split <;> omega
/-- ranges of one number in order are told by what they cover -/
theorem norm_unique (sn : Int) : ∀ (l m : List Rg) (p q : Int), normB p l = true → normB q m = true → (∀ x ∈ l, x.sn = sn) → (∀ x ∈ m, x.sn = sn) → (∀ k, covB k l = covB k m) → l = m
  | [], [], _, _, _, _, _, _, _ => rfl
  | [], y :: m, p, q, _, hm, _, _, h => by
    rw [normB_cons] at hm
    have := h y.f
    rw [covB_cons, decide_eq_true (by omega), Bool.true_or] at this
    simp [covB] at this
  | x :: l, [], p, q, hl, _, _, _, h => by
    rw [normB_cons] at hl
    have := h x.f
    rw [covB_cons, decide_eq_true (by omega), Bool.true_or] at this
    simp [covB] at this
  | x :: l, y :: m, p, q, hl, hm, hsl, hsm, h => by
    rw [normB_cons] at hl hm
    have cl : ∀ k, k ≤ x.t → covB k l = false := fun k hk => cov_low hl.2 hk
    have cm : ∀ k, k ≤ y.t → covB k m = false := fun k hk => cov_low hm.2 hk
    have hf : x.f = y.f := by
      rcases Int.lt_trichotomy x.f y.f with c | c | c
      · have := h x.f
        rw [covB_cons, covB_cons, decide_eq_true (by omega), decide_eq_false (by omega), cm _ (by omega)] at this
        simp at this
      · exact c
      · have := h y.f
        rw [covB_cons, covB_cons, decide_eq_false (by omega), decide_eq_true (by omega), cl _ (by omega)] at this
        simp at this
    have ht : x.t = y.t := by
      rcases Int.lt_trichotomy x.t y.t with c | c | c
      · have := h x.t
        rw [covB_cons, covB_cons, decide_eq_false (by omega), decide_eq_true (by omega), cl _ (by omega)] at this
        simp at this
      · exact c
      · have := h y.t
        rw [covB_cons, covB_cons, decide_eq_true (by omega), decide_eq_false (by omega), cm _ (by omega)] at this
        simp at this
    have e : x = y := by
      have h1 := hsl x (by simp); have h2 := hsm y (by simp)
      cases x; cases y; simp only at hf ht h1 h2; subst hf ht h1; rw [h2]
    subst e
    rw [norm_unique sn l m x.t x.t hl.2 hm.2 (fun z hz => hsl z (by simp [hz])) (fun z hz => hsm z (by simp [hz])) fun k => ?_]
    have := h k
    rw [covB_cons, covB_cons] at this
    by_cases c : k ≤ x.t
    · rw [cl k c, cm k c]
    · rwa [decide_eq_false (by omega), Bool.false_or, Bool.false_or] at this
end Go.Sx
