import Derived.Test.YtmhggobilcmdmaaM20b
import Derived.Test.YtmhggobilcmdmaaM20a
import Derived.Test.YtmhggobilcmdmaaM18
/- Chapter 20, plain: a step of a valid sender leaves a valid one behind; no program in sight. -/
namespace Go.Sx
def relU (s : Sd) (v u : Un) : Prop := s.place v.sn < s.place u.sn ∧ (0 < u.sent → wholeU v)
theorem unB_iff {l : Lk} {u : Un} : unB l u = true ↔ unNum l u ∧ normB (-1) u.again = true ∧ ∀ r ∈ u.again, r.sn = u.sn ∧ r.t ≤ u.sent := by
  unfold unB
  simp only [Bool.and_eq_true, decide_eq_true_eq, Bool.not_eq_true', List.any_eq_false, offR]
  constructor
  · rintro ⟨⟨h1, h2⟩, h3⟩
    exact ⟨h1, h2, fun r hr => by have := h3 r hr; omega⟩
  · rintro ⟨h1, h2, h3⟩
    exact ⟨⟨h1, h2⟩, fun r hr => by have := h3 r hr; omega⟩
theorem unitsFrom_iff {s : Sd} : ∀ {L : List Un} {p : Option Un}, unitsFrom s p L = true ↔ (∀ u ∈ L, unB s.lk u = true ∧ s.place u.sn < s.place s.next) ∧ L.Pairwise (relU s) ∧ ∀ v, p = some v → ∀ u ∈ L, relU s v u
  | [], p => by simp [unitsFrom]
  | u :: l, p => by
    have ih := unitsFrom_iff (s := s) (L := l) (p := some u)
    simp only [unitsFrom, Bool.and_eq_true, decide_eq_true_eq]
    rw [ih, List.pairwise_cons]
    constructor
    · rintro ⟨⟨⟨h1, h2⟩, h3⟩, h4, h5, h6⟩
      refine ⟨fun v hv => ?_, ⟨fun w hw => h6 u rfl w hw, h5⟩, ?_⟩
      · rcases List.mem_cons.1 hv with rfl | hv
        · exact ⟨h1, h2⟩
        · exact h4 v hv
      · rintro v rfl w hw
        simp only [behindB, Bool.and_eq_true, Bool.or_eq_true, decide_eq_true_eq] at h3
        rcases List.mem_cons.1 hw with rfl | hw
        · exact ⟨h3.1, fun h => h3.2.elim id fun h' => by omega⟩
        · have h7 := h6 u rfl w hw
          refine ⟨by have := h7.1; omega, fun h => ?_⟩
          have hu := h7.2 h
          have hn := (unB_iff.1 h1).1.2.1
          unfold wholeU at hu
          exact h3.2.elim id fun h' => by omega
    · rintro ⟨h1, ⟨h2, h3⟩, h4⟩
      have hu := h1 u (by simp)
      refine ⟨⟨hu, ?_⟩, fun v hv => h1 v (by simp [hv]), h3, ?_⟩
      · cases p with
        | none => rfl
        | some v =>
          have := h4 v rfl u (by simp)
          simp only [behindB, Bool.and_eq_true, Bool.or_eq_true, decide_eq_true_eq]
          refine ⟨this.1, ?_⟩
          rcases Int.lt_or_le 0 u.sent with h | h
          · exact .inl (this.2 h)
          · exact .inr h
      · rintro v hv w hw
        injection hv with hv; subst hv
        exact h2 w hw
structure OkS (s : Sd) : Prop where
  lk : lkOk s.lk
  first : snOk s.lk.bits s.first
  next : snOk s.lk.bits s.next
  win : s.place s.next ≤ 2 ^ (s.lk.bits - 1).toNat
  nil : s.units = [] → s.next = s.first
  head : ∀ u l, s.units = u :: l → u.sn = s.first
  all : ∀ u ∈ s.units, unB s.lk u = true ∧ s.place u.sn < s.place s.next
  pw : s.units.Pairwise (relU s)
  pieces : 0 ≤ s.pieces ∧ s.pieces ≤ s.lk.every - 1
  poll : s.poll = -1 → s.left = 0
  asked : s.poll ≠ -1 → (∃ u ∈ s.units, u.sn = s.poll ∧ 0 < u.sent) ∧ 1 ≤ s.left ∧ s.left ≤ s.lk.poll
theorem okB_iff {s : Sd} : s.okB = true ↔ OkS s := by
  unfold Sd.okB
  simp only [Bool.and_eq_true, decide_eq_true_eq]
  constructor
  · rintro ⟨⟨⟨⟨h1, h2, h3, h4⟩, h5⟩, h6⟩, h7⟩
    have hu : (s.units = [] → s.next = s.first) ∧ (∀ u l, s.units = u :: l → u.sn = s.first) ∧ (∀ u ∈ s.units, unB s.lk u = true ∧ s.place u.sn < s.place s.next) ∧ s.units.Pairwise (relU s) := by
      unfold unitsB at h5
      split at h5
      · rename_i hn
        rw [hn]
        exact ⟨fun _ => (by simpa using h5), fun u l h => (by cases h), fun u hu => (by simp at hu), List.Pairwise.nil⟩
      · rename_i u l hn
        rw [hn]
        simp only [Bool.and_eq_true, decide_eq_true_eq] at h5
        have := unitsFrom_iff.1 h5.2
        exact ⟨fun h => (by cases h), fun v m h => (by injection h with h _; subst h; exact h5.1), this.1, this.2.1⟩
    refine ⟨h1, h2, h3, h4, hu.1, hu.2.1, hu.2.2.1, hu.2.2.2, h6, fun h => ?_, fun h => ?_⟩
    · rw [if_pos h] at h7; simpa using h7
    · rw [if_neg h] at h7
      simp only [Bool.and_eq_true, decide_eq_true_eq, askedB, List.any_eq_true] at h7
      exact h7
  · intro h
    refine ⟨⟨⟨⟨h.lk, h.first, h.next, h.win⟩, ?_⟩, h.pieces⟩, ?_⟩
    · unfold unitsB
      split
      · rename_i hn; simpa using h.nil hn
      · rename_i u l hn
        simp only [Bool.and_eq_true, decide_eq_true_eq]
        refine ⟨h.head u l hn, unitsFrom_iff.2 ⟨?_, ?_, fun v hv => by cases hv⟩⟩
        · rw [← hn]; exact h.all
        · rw [← hn]; exact h.pw
    · split
      · rename_i hp; simpa using h.poll hp
      · rename_i hp
        simp only [Bool.and_eq_true, decide_eq_true_eq, askedB, List.any_eq_true]
        exact h.asked hp
theorem way_succ {b a x : Int} (hb : bitsOk b) (h : way b a x + 1 < 2 ^ b.toNat) : way b a ((x + 1) % 2 ^ b.toNat) = way b a x + 1 := by
  unfold way at h ⊢
  rcases pow_bits hb with e | e | e | e | e <;> rw [e] at h ⊢ <;> omega
theorem way_shift {b a f x : Int} (hb : bitsOk b) (h : way b a f ≤ way b a x) : way b f x = way b a x - way b a f := by
  unfold way at h ⊢
  rcases pow_bits hb with e | e | e | e | e <;> rw [e] at h ⊢ <;> omega
theorem way_self {b a : Int} : way b a a = 0 := by simp [way]
theorem half_lt {b : Int} (hb : bitsOk b) : (2 : Int) ^ (b - 1).toNat < 2 ^ b.toNat ∧ (16 : Int) ≤ 2 ^ (b - 1).toNat := by
  have := pow_bits1 hb; omega
/-- the same units but for what is sent, and a start that stays -/
theorem OkS.same {s t : Sd} (h : OkS s) (hlk : t.lk = s.lk) (hf : t.first = s.first) (hn : t.next = s.next) (hu : t.units = s.units) (hp : 0 ≤ t.pieces ∧ t.pieces ≤ s.lk.every - 1) (h1 : t.poll = -1 → t.left = 0)
    (h2 : t.poll ≠ -1 → (∃ u ∈ t.units, u.sn = t.poll ∧ 0 < u.sent) ∧ 1 ≤ t.left ∧ t.left ≤ s.lk.poll) : OkS t := by
  have hpl : ∀ x, t.place x = s.place x := fun x => by unfold Sd.place; rw [hlk, hf]
  refine ⟨by rw [hlk]; exact h.lk, by rw [hlk, hf]; exact h.first, by rw [hlk, hn]; exact h.next, by rw [hpl, hlk, hn]; exact h.win, by rw [hu, hn, hf]; exact h.nil, by rw [hu, hf]; exact h.head, ?_, ?_, by rw [hlk]; exact hp, h1, by rw [hlk]; exact h2⟩
  · rw [hu, hlk, hn]; intro u hm; rw [hpl, hpl]; exact h.all u hm
  · rw [hu]; refine h.pw.imp fun {v u} hr => ?_
    unfold relU; rw [hpl, hpl]; exact hr
theorem sub_ok {s : Sd} {d : List Int} {E : Int} (h : OkS s) (he : (subS s d E).2 = 0) : OkS (subS s d E).1 ∧ (subS s d E).1.lk = s.lk ∧ (subS s d E).1.failed = s.failed := by
  unfold subS at he ⊢
  by_cases hE : E ≠ 0
  · rw [if_pos hE] at he; exact absurd he hE
  rw [if_neg hE] at he ⊢
  by_cases hd : ¬ (1 ≤ d.length ∧ d.length ≤ 2054)
  · rw [if_pos hd] at he; exact absurd he (by decide)
  rw [if_neg hd] at he ⊢
  by_cases hf : s.place s.next = 2 ^ (s.lk.bits - 1).toNat
  · rw [if_pos hf] at he; exact absurd he (by decide)
  rw [if_neg hf]
  refine ⟨?_, rfl, rfl⟩
  have hb := h.lk.1
  have hh := half_lt hb
  have hw := h.win
  obtain ⟨u0, hu0⟩ : ∃ u : Un, u = ⟨s.next, d, 0, 0, []⟩ := ⟨_, rfl⟩
  obtain ⟨t, ht⟩ : ∃ t : Sd, t = { s with units := s.units ++ [⟨s.next, d, 0, 0, []⟩], next := (s.next + 1) % 2 ^ s.lk.bits.toNat } := ⟨_, rfl⟩
  have hpl : ∀ x, t.place x = s.place x := fun x => by rw [ht]; rfl
  have hnx : t.place t.next = s.place s.next + 1 := by
    rw [hpl, ht]
    exact way_succ hb (show s.place s.next + 1 < _ by omega)
  have hmem : ∀ u ∈ t.units, u ∈ s.units ∨ u = u0 := fun u hu => by
    rw [ht] at hu; simpa [hu0] using hu
  have hlk : t.lk = s.lk := by rw [ht]
  have hu : t.units = s.units ++ [u0] := by rw [ht, hu0]
  rw [← ht]
  refine ⟨by rw [hlk]; exact h.lk, by rw [ht]; exact h.first, ?_, ?_, ?_, ?_, ?_, ?_, by rw [ht]; exact h.pieces, by rw [ht]; exact h.poll, ?_⟩
  · rw [ht]
    show snOk s.lk.bits ((s.next + 1) % 2 ^ s.lk.bits.toNat)
    unfold snOk
    have : (0 : Int) < 2 ^ s.lk.bits.toNat := by omega
    exact ⟨Int.emod_nonneg _ (by omega), Int.emod_lt_of_pos _ this⟩
  · rw [hnx, hlk]; omega
  · intro hn; rw [hu] at hn; simp at hn
  · intro v l hv
    rw [hu] at hv
    rw [show t.first = s.first by rw [ht]]
    cases hs : s.units with
    | nil =>
      rw [hs] at hv
      simp at hv
      rw [← hv.1, hu0]; exact h.nil hs
    | cons x m =>
      rw [hs] at hv
      simp at hv
      rw [← hv.1]; exact h.head x m hs
  · intro u hm
    rw [hnx, hpl, hlk]
    rcases hmem u hm with hm | rfl
    · have := h.all u hm; exact ⟨this.1, by omega⟩
    · rw [hu0]
      refine ⟨unB_iff.2 ⟨⟨h.next, by dsimp only; omega, by dsimp only; omega, ?_⟩, rfl, fun r hr => by simp at hr⟩, by dsimp only; omega⟩
      have := h.lk.2.2.2.2.2
      dsimp only; omega
  · rw [hu, List.pairwise_append]
    refine ⟨h.pw.imp fun {v u} hr => by unfold relU; rw [hpl, hpl]; exact hr, by simp, fun v hv u hm => ?_⟩
    simp at hm; subst hm
    unfold relU
    rw [hpl, hpl]
    have := (h.all v hv).2
    rw [hu0]
    exact ⟨this, fun h => by dsimp only at h; omega⟩
  · intro hp
    rw [ht] at hp ⊢
    obtain ⟨⟨u, hm, h1, h2⟩, h3⟩ := h.asked hp
    exact ⟨⟨u, by simp [hm], h1, h2⟩, h3⟩
theorem normB_mono : ∀ {l : List Rg} {p q : Int}, q ≤ p → normB p l = true → normB q l = true
  | [], _, _, _, _ => rfl
  | r :: l, p, q, hpq, h => by
    simp only [normB, Bool.and_eq_true, decide_eq_true_eq] at h ⊢
    exact ⟨⟨by omega, h.1.2⟩, h.2⟩
theorem leftI_neg {L : List Un} : leftI L < 0 ↔ ∀ u ∈ L, askU u = false ∧ restU u = false := by
  have key : ∀ (p : Un → Bool), idx p L < 0 ↔ ∀ u ∈ L, p u = false := fun p => by
    have := idx_any p L
    constructor
    · intro h u hu
      have h0 : decide (idx p L ≥ 0) = false := by simp; omega
      rw [h0] at this
      simpa using (List.any_eq_false.1 this.symm u hu)
    · intro h
      have : L.any p = false := List.any_eq_false.2 fun u hu => by rw [h u hu]; decide
      rw [← idx_any p L] at this
      simp at this; omega
  unfold leftI
  split
  · rename_i h
    constructor
    · intro h'; omega
    · intro h'
      have := (key askU).2 fun u hu => (h' u hu).1
      omega
  · rename_i h
    rw [key restU]
    have := (key askU).1 (by omega)
    exact ⟨fun h u hu => ⟨this u hu, h u hu⟩, fun h u hu => (h u hu).2⟩
theorem leftI_spec {L : List Un} {k : Nat} (hk : k < L.length) (h : leftI L = k) :
    (askU L[k] = true ∧ ∀ j (hj : j < k), askU (L[j]'(by omega)) = false) ∨ ((∀ u ∈ L, askU u = false) ∧ restU L[k] = true ∧ ∀ j (hj : j < k), restU (L[j]'(by omega)) = false) := by
  have first : ∀ (p : Un → Bool), idx p L = k → p L[k] = true ∧ ∀ j (hj : j < k), p (L[j]'(by omega)) = false := fun p hp => by
    unfold idx at hp
    split at hp
    · rename_i i hi
      obtain ⟨h1, h2, h3⟩ := List.findIdx?_eq_some_iff_getElem.1 hi
      obtain rfl : i = k := by omega
      exact ⟨h2, fun j hj => by simpa using h3 j hj⟩
    · omega
  unfold leftI at h
  split at h
  · exact .inl (first _ h)
  · rename_i hn
    refine .inr ⟨fun u hu => ?_, (first _ h).1, (first _ h).2⟩
    have := idx_any askU L
    rw [show decide (idx askU L ≥ 0) = false by simpa using hn] at this
    simpa using List.any_eq_false.1 this.symm u hu
/-- what is taken out of a unit -/
theorem takeU_ok {l : Lk} {u : Un} {n : Int} (h : unB l u = true) (hl : askU u = true ∨ restU u = true) (hn : 1 ≤ n) (hn2 : (partU u).f + n ≤ (partU u).t) :
    unB l (takeU u n) = true ∧ u.sent ≤ (takeU u n).sent ∧ 0 < (takeU u n).sent ∧ (u.again ≠ [] → (takeU u n).sent = u.sent) ∧ (u.again = [] → (takeU u n).sent = u.sent + n) := by
  have hin := partU_in h hl
  obtain ⟨h1, h2, h3⟩ := unB_iff.1 h
  obtain ⟨hs, hd, ht, hr⟩ := h1
  unfold takeU
  unfold partU at hin hn2
  cases ha : u.again with
  | nil =>
    rw [ha] at hin hn2
    dsimp only at hin hn2 ⊢
    refine ⟨unB_iff.2 ⟨⟨hs, hd, by dsimp only; omega, hr⟩, rfl, fun r hr => (by simp at hr)⟩, by omega, by omega, fun h => absurd rfl h, fun _ => rfl⟩
  | cons r m =>
    rw [ha] at hin hn2 h2 h3
    dsimp only at hin hn2 ⊢
    simp only [normB, Bool.and_eq_true, decide_eq_true_eq] at h2
    have hr0 := h3 r (by simp)
    split
    · refine ⟨unB_iff.2 ⟨⟨hs, hd, ht, hr⟩, normB_mono (by omega) h2.2, fun x hx => h3 x (by simp [hx])⟩, Int.le_refl _, by dsimp only; omega, fun _ => rfl, fun h => (by cases h)⟩
    · refine ⟨unB_iff.2 ⟨⟨hs, hd, ht, hr⟩, ?_, fun x hx => ?_⟩, Int.le_refl _, by dsimp only; omega, fun _ => rfl, fun h => (by cases h)⟩
      · dsimp only
        simp only [normB, Bool.and_eq_true, decide_eq_true_eq]
        exact ⟨by omega, h2.2⟩
      · rcases List.mem_cons.1 hx with rfl | hx
        · exact hr0
        · exact h3 x (by simp [hx])
theorem lastSn_mem : ∀ (L : List Un) (d : Int), (∃ u ∈ L, 0 < u.sent) → ∃ u ∈ L, u.sn = lastSn L d ∧ 0 < u.sent
  | [], _, ⟨u, hu, _⟩ => by simp at hu
  | x :: L, d, ⟨u, hu, hs⟩ => by
    have e : lastSn (x :: L) d = lastSn L (if 0 < x.sent then x.sn else d) := rfl
    rw [e]
    by_cases h : ∃ u ∈ L, 0 < u.sent
    · obtain ⟨v, hv, h1, h2⟩ := lastSn_mem L (if 0 < x.sent then x.sn else d) h
      exact ⟨v, by simp [hv], h1, h2⟩
    · have hx : u = x := by
        rcases List.mem_cons.1 hu with h1 | h1
        · exact h1
        · exact absurd ⟨u, h1, hs⟩ h
      subst hx
      have none : ∀ (L : List Un) (d : Int), (∀ v ∈ L, ¬ 0 < v.sent) → lastSn L d = d := by
        intro L
        induction L with
        | nil => intro d _; rfl
        | cons y L ih =>
          intro d hL
          have e : lastSn (y :: L) d = lastSn L (if 0 < y.sent then y.sn else d) := rfl
          rw [e, if_neg (hL y (by simp)), ih d fun v hv => hL v (by simp [hv])]
      rw [if_pos hs, none L _ fun v hv hp => h ⟨v, hv, hp⟩]
      exact ⟨u, by simp, rfl, hs⟩
end Go.Sx
/- Chapter 20, plain: a step of a valid sender leaves a valid one behind (Build, Tick, Report); no program in sight. -/
namespace Go.Sx
open Go.Proofs.Ytmhggobilcmdmaa
/-- one unit is another one -/
theorem OkS.set {s t : Sd} (h : OkS s) {k : Nat} (hk : k < s.units.length) {u' : Un} (hsn : u'.sn = s.units[k].sn) (hub : unB s.lk u' = true) (hb : 0 < u'.sent → ∀ j (hj : j < k), wholeU (s.units[j]'(by omega)))
    (ha : ∀ j (hj : j < s.units.length), k < j → 0 < s.units[j].sent → wholeU u') (hlk : t.lk = s.lk) (hf : t.first = s.first) (hn : t.next = s.next) (hu : t.units = s.units.set k u') (hp : 0 ≤ t.pieces ∧ t.pieces ≤ s.lk.every - 1) (h1 : t.poll = -1 → t.left = 0)
    (h2 : t.poll ≠ -1 → (∃ u ∈ t.units, u.sn = t.poll ∧ 0 < u.sent) ∧ 1 ≤ t.left ∧ t.left ≤ s.lk.poll) : OkS t := by
  have hpl : ∀ x, t.place x = s.place x := fun x => by unfold Sd.place; rw [hlk, hf]
  refine ⟨by rw [hlk]; exact h.lk, by rw [hlk, hf]; exact h.first, by rw [hlk, hn]; exact h.next, by rw [hpl, hlk, hn]; exact h.win, ?_, ?_, ?_, ?_, by rw [hlk]; exact hp, h1, by rw [hlk]; exact h2⟩
  · intro hnil
    rw [hu] at hnil
    have := congrArg List.length hnil
    simp at this; rw [this] at hk; simp at hk
  · intro v l hv
    rw [hf]
    have h0 : 0 < s.units.length := by omega
    have h0' : t.units[0]? = some v := by rw [hv]; rfl
    rw [hu] at h0'
    cases hs : s.units with
    | nil => rw [hs] at h0; simp at h0
    | cons x m =>
      have hx := h.head x m hs
      rcases Nat.eq_zero_or_pos k with rfl | hk0
      · rw [List.getElem?_set_self h0] at h0'
        injection h0' with h0'
        rw [← h0', hsn]
        simp only [hs, List.getElem_cons_zero]; exact hx
      · rw [List.getElem?_set_ne (by omega), hs] at h0'
        injection h0' with h0'
        rw [← h0']; exact hx
  · intro u hm
    rw [hpl, hpl, hlk, hn]
    rw [hu] at hm
    rcases List.mem_or_eq_of_mem_set hm with hm | rfl
    · exact h.all u hm
    · exact ⟨hub, by rw [hsn]; exact (h.all _ (List.getElem_mem hk)).2⟩
  · rw [hu, List.pairwise_iff_getElem]
    intro i j hi hj hij
    simp only [List.length_set] at hi hj
    have hr := List.pairwise_iff_getElem.1 h.pw i j hi hj hij
    unfold relU at hr ⊢
    simp only [hpl, List.getElem_set]
    by_cases e1 : k = i <;> by_cases e2 : k = j
    · omega
    · subst e1
      rw [if_pos rfl, if_neg e2, hsn]
      exact ⟨hr.1, fun h => ha j hj hij h⟩
    · subst e2
      rw [if_neg e1, if_pos rfl, hsn]
      exact ⟨hr.1, fun h => hb h i hij⟩
    · rw [if_neg e1, if_neg e2]; exact hr
theorem build_inv {s : Sd} {size E : Int} (h : OkS s) (he : (buildS s size E).2.2 = 0) : ∃ (k : Nat) (hk : k < s.units.length) (q : Pc), leftI s.units = k ∧ q = (cutP s.lk.bits (pieceU s.units[k]) size).1 ∧ (cutP s.lk.bits (pieceU s.units[k]) size).2.2 = 0 ∧ buildS s size E = buildT s k s.units[k] q ∧
    q.ok s.lk.bits ∧ q.poll = 0 ∧ 1 ≤ q.data.length ∧ (partU s.units[k]).f + q.data.length ≤ (partU s.units[k]).t := by
  unfold buildS at he
  by_cases hE : E ≠ 0
  · rw [if_pos hE] at he; exact absurd he hE
  rw [if_neg hE] at he
  by_cases hz : ¬ (0 ≤ size ∧ size ≤ 4096)
  · rw [if_pos hz] at he; exact absurd he (by decide)
  rw [if_neg hz] at he
  by_cases hl : leftI s.units < 0
  · rw [if_pos hl] at he; exact absurd he (by decide)
  rw [if_neg hl] at he
  obtain ⟨k, hk, hlk⟩ := leftI_some (L := s.units) (by omega)
  have hkn : (leftI s.units).toNat = k := by omega
  simp only [hkn, List.getElem?_eq_getElem hk] at he
  by_cases hc : (cutP s.lk.bits (pieceU s.units[k]) size).2.2 ≠ 0
  · rw [if_pos hc] at he; exact absurd he hc
  rw [if_neg hc] at he
  have hc := Decidable.not_not.1 hc
  obtain ⟨hq, hp⟩ := cut_ok hc
  have hlen := cut_len s.lk.bits (pieceU s.units[k]) size
  have hin := partU_in (h.all _ (List.getElem_mem hk)).1 (leftI_unit hk hlk)
  have hpl : (pieceU s.units[k]).data.length = (partU s.units[k]).t.toNat - (partU s.units[k]).f.toNat := by
    show ((s.units[k].data.take _).drop _).length = _
    rw [List.length_drop, List.length_take]; omega
  refine ⟨k, hk, _, hlk, rfl, hc, ?_, hq, by rw [hp]; rfl, hq.2.2.2.2.2.2.1, by omega⟩
  unfold buildS
  rw [if_neg hE, if_neg hz, if_neg hl]
  simp only [hkn, List.getElem?_eq_getElem hk]
  rw [if_neg (by rw [hc]; decide)]
/-- the units behind a piece -/
theorem take_set {s : Sd} (h : OkS s) {k : Nat} (hk : k < s.units.length) (hl : leftI s.units = k) {n : Int} (hn : 1 ≤ n) (hn2 : (partU s.units[k]).f + n ≤ (partU s.units[k]).t) :
    (0 < (takeU s.units[k] n).sent → ∀ j (hj : j < k), wholeU (s.units[j]'(by omega))) ∧ (∀ j (hj : j < s.units.length), k < j → 0 < s.units[j].sent → wholeU (takeU s.units[k] n)) := by
  have hau := leftI_unit hk hl
  have htk := takeU_ok (h.all _ (List.getElem_mem hk)).1 hau hn hn2
  have hd := (takeU_data s.units[k] n).1
  by_cases hag : s.units[k].again = []
  · have hs : (∀ u ∈ s.units, askU u = false) ∧ restU s.units[k] = true ∧ ∀ j (hj : j < k), restU (s.units[j]'(by omega)) = false := by
      rcases leftI_spec hk hl with h1 | h1
      · have := h1.1; unfold askU at this; rw [hag] at this; simp at this
      · exact h1
    refine ⟨fun _ j hj => ?_, fun j hj hkj h0 => ?_⟩
    · have := hs.2.2 j hj
      unfold restU at this; simpa using this
    · have := (List.pairwise_iff_getElem.1 h.pw k j hk hj hkj).2 h0
      have h3 := hs.2.1
      unfold restU at h3
      simp at h3
      exact absurd this h3
  · have hse := htk.2.2.2.1 hag
    refine ⟨fun h0 j hj => ?_, fun j hj hkj h0 => ?_⟩
    · rw [hse] at h0
      exact (List.pairwise_iff_getElem.1 h.pw j k (by omega) hk hj).2 h0
    · have := (List.pairwise_iff_getElem.1 h.pw k j hk hj hkj).2 h0
      unfold wholeU at this ⊢
      rw [hse, hd]; exact this
theorem build_ok {s : Sd} {size E : Int} (h : OkS s) (he : (buildS s size E).2.2 = 0) : OkS (buildS s size E).1 ∧ (buildS s size E).1.lk = s.lk ∧ (buildS s size E).1.failed = s.failed := by
  obtain ⟨k, hk, q, hl, -, -, hb, -, -, hn, hn2⟩ := build_inv h he
  have hmu := List.getElem_mem hk
  have htk := takeU_ok (n := q.data.length) (h.all _ hmu).1 (leftI_unit hk hl) (by omega) hn2
  have htd := takeU_data s.units[k] q.data.length
  have hts := take_set h hk hl (n := q.data.length) (by omega) hn2
  have hmem : takeU s.units[k] q.data.length ∈ s.units.set k (takeU s.units[k] q.data.length) := List.mem_of_getElem? (List.getElem?_set_self hk)
  have hkeep : ∀ x : Int, (∃ u ∈ s.units, u.sn = x ∧ 0 < u.sent) → ∃ u ∈ s.units.set k (takeU s.units[k] q.data.length), u.sn = x ∧ 0 < u.sent := fun x ⟨u, hu, h1, h2⟩ => by
    obtain ⟨j, hj, rfl⟩ := List.getElem_of_mem hu
    by_cases hjk : k = j
    · subst hjk
      exact ⟨_, hmem, by rw [htd.2.1]; exact h1, htk.2.2.1⟩
    · exact ⟨s.units[j], List.mem_of_getElem? (by rw [List.getElem?_set_ne hjk, List.getElem?_eq_getElem hj]), h1, h2⟩
  rw [hb]
  unfold buildT
  dsimp only
  have hpc := h.pieces
  have hev := h.lk.2.1
  split
  · refine ⟨h.set hk (u' := takeU s.units[k] q.data.length) htd.2.1 htk.1 hts.1 hts.2 rfl rfl rfl rfl ⟨Int.le_refl _, by show (0 : Int) ≤ _; omega⟩ (fun hp => ?_) (fun _ => ?_), rfl, rfl⟩
    · obtain ⟨u, hu, h1, h2⟩ := lastSn_mem (s.units.set k (takeU s.units[k] q.data.length)) s.poll ⟨_, hmem, htk.2.2.1⟩
      have hp : lastSn (s.units.set k (takeU s.units[k] q.data.length)) s.poll = -1 := hp
      rw [hp] at h1
      have : snOk s.lk.bits u.sn := by
        rcases List.mem_or_eq_of_mem_set hu with hu | rfl
        · exact (unB_iff.1 (h.all _ hu).1).1.1
        · rw [htd.2.1]; exact (unB_iff.1 (h.all _ hmu).1).1.1
      unfold snOk at this; omega
    · have := h.lk.2.2.1
      exact ⟨lastSn_mem _ _ ⟨_, hmem, htk.2.2.1⟩, by show 1 ≤ s.lk.poll; omega, Int.le_refl _⟩
  · rename_i hc
    refine ⟨h.set hk (u' := takeU s.units[k] q.data.length) htd.2.1 htk.1 hts.1 hts.2 rfl rfl rfl rfl ⟨by dsimp only; omega, by dsimp only at hc ⊢; omega⟩ h.poll (fun hp => ?_), rfl, rfl⟩
    obtain ⟨h1, h2⟩ := h.asked hp
    exact ⟨hkeep _ h1, h2⟩
theorem tick_ok {s : Sd} {E : Int} (h : OkS s) (he : (tickS s E).2 = 0) : OkS (tickS s E).1 ∧ (tickS s E).1.lk = s.lk := by
  unfold tickS at he ⊢
  by_cases hE : E ≠ 0
  · rw [if_pos hE] at he; exact absurd he hE
  rw [if_neg hE]
  by_cases h0 : s.left = 0
  · rw [if_pos h0]; exact ⟨h, rfl⟩
  rw [if_neg h0]
  have hev := h.lk.2.1
  have hasked := h.asked fun hp => h0 (h.poll hp)
  by_cases h1 : s.left - 1 > 0
  · rw [if_pos h1]
    exact ⟨h.same rfl rfl rfl rfl h.pieces (fun hp => absurd (h.poll hp) h0) (fun _ => ⟨hasked.1, by dsimp only; omega, by dsimp only; omega⟩), rfl⟩
  rw [if_neg h1]
  have hz : s.left - 1 = 0 := by omega
  unfold tickT
  split
  · exact ⟨h.same rfl rfl rfl rfl ⟨by dsimp only; omega, by dsimp only; omega⟩ (fun _ => hz) (fun hp => absurd rfl hp), rfl⟩
  · rename_i hl
    have hl := leftI_neg.1 (show leftI s.units < 0 by omega)
    obtain ⟨t, ht⟩ : ∃ t : Sd, t = { s with left := s.left - 1, poll := -1 } := ⟨_, rfl⟩
    have hot : OkS t := h.same (by rw [ht]) (by rw [ht]) (by rw [ht]) (by rw [ht]) (by rw [ht]; exact h.pieces) (fun _ => by rw [ht]; exact hz) (fun hp => absurd (by rw [ht]) hp)
    have htu : t.units = s.units := by rw [ht]
    have htl : t.lk = s.lk := by rw [ht]
    rw [← ht]
    unfold lastS
    split
    · exact ⟨hot, htl⟩
    · rename_i u hu
      obtain ⟨hk, hu⟩ := List.getElem?_eq_some_iff.1 hu
      have hmu : u ∈ t.units := by rw [← hu]; exact List.getElem_mem _
      have hub := (hot.all u hmu).1
      obtain ⟨⟨n1, n2, n3, n4⟩, -, -⟩ := unB_iff.1 hub
      have hw : wholeU u := by
        have := (hl u (by rw [← htu]; exact hmu)).2
        unfold restU at this; simpa using this
      have hw' := hw
      unfold wholeU at hw'
      have ub : ∀ m : Int, 0 ≤ m → m ≤ t.lk.tries → unB t.lk { tryU u with tries := m } = true := fun m h1 h2 =>
        unB_iff.2 ⟨⟨n1, n2, n3, h1, h2⟩, by simp only [tryU, normB, Bool.and_eq_true, decide_eq_true_eq]; exact ⟨⟨by omega, by omega⟩, trivial⟩, fun r hr => by simp [tryU] at hr; subst hr; exact ⟨rfl, Int.le_refl _⟩⟩
      have bef : ∀ v : Un, v.sent = u.sent → (0 < v.sent → ∀ j (hj : j < t.units.length - 1), wholeU (t.units[j]'(by omega))) := fun v hv h0 j hj => by
        refine (List.pairwise_iff_getElem.1 hot.pw j (t.units.length - 1) (by omega) hk hj).2 ?_
        rw [hu, ← hv]; exact h0
      split
      · refine ⟨hot.set hk (u' := tryU u) (by rw [hu]; rfl) (ub u.tries n4.1 n4.2) (bef _ rfl) (fun j hj hkj _ => by omega) rfl rfl rfl rfl hot.pieces hot.poll (fun hp => absurd (by rw [ht]) hp), htl⟩
      · rename_i htr
        refine ⟨hot.set hk (u' := { tryU u with tries := u.tries + 1 }) (by rw [hu]; rfl) (ub _ (by omega) (by omega)) (bef _ rfl) (fun j hj hkj _ => by omega) rfl rfl rfl rfl hot.pieces hot.poll (fun hp => absurd (by rw [ht]) hp), htl⟩
/-! ## Reports -/
def missU (u : Un) (x : Rg) : Option Rg := if x.sn ≠ u.sn then none else if (clipR u x).f < (clipR u x).t then some (clipR u x) else none
theorem missS_map (u : Un) (M : List Rg) : missS u M = (M.filterMap (missU u), M.any fun x => decide (x.sn = u.sn)) := by
  have key : ∀ (M : List Rg) (p : List Rg × Bool), M.foldl (missStep u) p = (p.1 ++ M.filterMap (missU u), p.2 || M.any fun x => decide (x.sn = u.sn)) := by
    intro M
    induction M with
    | nil => intro p; simp
    | cons x M ih =>
      intro p
      rw [List.foldl_cons, ih]
      unfold missStep
      by_cases h : x.sn ≠ u.sn
      · have : missU u x = none := by unfold missU; rw [if_pos h]
        rw [if_pos h, List.filterMap_cons_none this, List.any_cons, decide_eq_false h, Bool.false_or]
      · have hx : x.sn = u.sn := Decidable.not_not.1 h
        rw [if_neg h, List.any_cons, decide_eq_true hx]
        by_cases h2 : (clipR u x).f < (clipR u x).t
        · have : missU u x = some (clipR u x) := by unfold missU; rw [if_neg h, if_pos h2]
          rw [List.filterMap_cons_some this, if_pos h2]
          simp
        · have : missU u x = none := by unfold missU; rw [if_neg h, if_neg h2]
          rw [List.filterMap_cons_none this, if_neg h2]
          simp
  rw [missS, key]; simp
theorem way_inj {b u x y : Int} (hb : bitsOk b) (hx : 0 ≤ x ∧ x < 2 ^ b.toNat) (hy : 0 ≤ y ∧ y < 2 ^ b.toNat) (h : way b x u = way b y u) : x = y := by
  unfold way at h
  rcases pow_bits hb with e | e | e | e | e <;> rw [e] at h hx hy <;> omega
theorem chain_sn {b up : Int} (hb : bitsOk b) {n : Int} : ∀ {L : List Rg} {q : Rg}, chainB b up (some q) L = true → q.sn = n → ownR b up q → ∀ r ∈ L, r.sn = n → ¬ whole q ∧ ¬ whole r ∧ q.t < r.f
  | [], q, _, _, _, r, hr, _ => by simp at hr
  | r0 :: l, q, h, hq, ho, r, hr, hn => by
    simp only [chainB, Bool.and_eq_true, decide_eq_true_eq] at h
    obtain ⟨⟨h1, h2⟩, h3⟩ := h
    have h2 : linkR b up q r0 := h2
    have mono : ∀ {L : List Rg} {q : Rg}, chainB b up (some q) L = true → ∀ r ∈ L, ownR b up r ∧ way b r.sn up ≤ way b q.sn up := by
      intro L
      induction L with
      | nil => intro q _ r hr; simp at hr
      | cons x L ih =>
        intro q h r hr
        simp only [chainB, Bool.and_eq_true, decide_eq_true_eq] at h
        obtain ⟨⟨h1, h2⟩, h3⟩ := h
        have h2 : linkR b up q x := h2
        rcases List.mem_cons.1 hr with rfl | hr
        · exact ⟨h1, h2.1⟩
        · have := ih h3 r hr
          exact ⟨this.1, by have := h2.1; omega⟩
    rcases List.mem_cons.1 hr with rfl | hr
    · have := h2.2 (by rw [hn, hq])
      simp only [not_or] at this
      exact ⟨this.1, this.2.1, by omega⟩
    · have hm := mono h3 r hr
      have h4 := h2.1
      have e : way b r0.sn up = way b q.sn up := by
        rw [hn, ← hq] at hm
        omega
      have e2 : r0.sn = q.sn := way_inj hb h1.1 ho.1 e
      have h5 := h2.2 e
      simp only [not_or] at h5
      have h6 := chain_sn hb h3 (by rw [e2, hq]) h1 r hr hn
      have h7 := h1.2.2
      rcases h7 with h7 | h7
      · exact absurd h7 h5.2.1
      · unfold isPart at h7
        exact ⟨h5.1, h6.2.1, by omega⟩
theorem chain_pw {b up : Int} (hb : bitsOk b) : ∀ {L : List Rg} {p : Option Rg}, chainB b up p L = true → (∀ r ∈ L, ownR b up r) ∧ L.Pairwise fun q r => q.sn = r.sn → ¬ whole q ∧ ¬ whole r ∧ q.t < r.f
  | [], _, _ => ⟨fun r hr => by simp at hr, .nil⟩
  | x :: L, p, h => by
    simp only [chainB, Bool.and_eq_true, decide_eq_true_eq] at h
    obtain ⟨⟨h1, h2⟩, h3⟩ := h
    have ih := chain_pw hb h3
    refine ⟨fun r hr => ?_, List.pairwise_cons.2 ⟨fun r hr he => chain_sn hb h3 he h1 r hr rfl, ih.2⟩⟩
    rcases List.mem_cons.1 hr with rfl | hr
    · exact h1
    · exact ih.1 r hr
theorem norm_pw : ∀ {L : List Rg} {p : Int}, L.Pairwise (fun q r => q.t < r.f) → (∀ x ∈ L, p < x.f ∧ x.f < x.t) → normB p L = true
  | [], _, _, _ => rfl
  | x :: L, p, h, h2 => by
    rw [List.pairwise_cons] at h
    simp only [normB, Bool.and_eq_true, decide_eq_true_eq]
    exact ⟨h2 x (by simp), norm_pw h.2 fun y hy => ⟨h.1 y hy, (h2 y (by simp [hy])).2⟩⟩
theorem missU_some {u : Un} {x y : Rg} (h : missU u x = some y) : x.sn = u.sn ∧ y = clipR u x ∧ y.f < y.t := by
  unfold missU at h
  split at h
  · cases h
  · rename_i hn
    split at h
    · rename_i hlt
      injection h with h
      exact ⟨Decidable.not_not.1 hn, h.symm, by rw [← h]; exact hlt⟩
    · cases h
/-- what is missing of a unit is in order -/
theorem miss_ok {b : Int} {r : Stt} {u : Un} (hr : okS b r) : normB (-1) (missS u r.miss).1 = true ∧ ∀ x ∈ (missS u r.miss).1, x.sn = u.sn ∧ x.t ≤ u.sent ∧ 0 ≤ x.f := by
  obtain ⟨hb, _, _, hc⟩ := hr
  obtain ⟨ho, hp⟩ := chain_pw hb hc
  rw [missS_map]
  have each : ∀ x ∈ r.miss, ∀ y, missU u x = some y → x.sn = u.sn ∧ y = clipR u x ∧ y.f < y.t ∧ 0 ≤ y.f ∧ y.sn = u.sn ∧ y.t ≤ u.sent := fun x hx y hy => by
    unfold missU at hy
    split at hy
    · cases hy
    · rename_i hn
      split at hy
      · rename_i hlt
        injection hy with hy
        have hw := (ho x hx).2.2
        have hn := Decidable.not_not.1 hn
        refine ⟨hn, hy.symm, by rw [← hy]; exact hlt, ?_, by rw [← hy]; exact hn, ?_⟩
        · rw [← hy]
          show 0 ≤ x.f
          rcases hw with hw | hw
          · rw [hw.1]; decide
          · exact hw.1
        · rw [← hy]
          show (if u.sent < (if whole x then u.sent else x.t) then u.sent else if whole x then u.sent else x.t) ≤ u.sent
          split <;> omega
      · cases hy
  refine ⟨norm_pw ?_ fun y hy => ?_, fun y hy => ?_⟩
  · refine List.Pairwise.filterMap (R := fun q r => (q.sn = r.sn → ¬ whole q ∧ ¬ whole r ∧ q.t < r.f)) _ ?_ hp
    intro x x' hxx y hy y' hy'
    obtain ⟨h1, h2, h3⟩ := missU_some hy
    obtain ⟨h4, h5, h6⟩ := missU_some hy'
    obtain ⟨h7, h8, h9⟩ := hxx (by rw [h1, h4])
    rw [h2, h5]
    show (if u.sent < (if whole x then u.sent else x.t) then u.sent else if whole x then u.sent else x.t) < x'.f
    rw [if_neg h7]
    split <;> omega
  · obtain ⟨x, hx, hy⟩ := List.mem_filterMap.1 hy
    have := each x hx y hy
    exact ⟨by omega, this.2.2.1⟩
  · obtain ⟨x, hx, hy⟩ := List.mem_filterMap.1 hy
    have := each x hx y hy
    exact ⟨this.2.2.2.2.1, this.2.2.2.2.2, this.2.2.2.1⟩
/-- what becomes of a unit -/
def repU (s : Sd) (upto : Int) (M : List Rg) (u : Un) : Option Un :=
  if upto ≤ s.place u.sn then some u
  else if (missS u M).2 = true then some (if u.again.length = 0 ∧ 0 < (missS u M).1.length ∧ u.tries ≠ s.lk.tries then { u with again := (missS u M).1, tries := u.tries + 1 } else { u with again := (missS u M).1 })
  else if wholeU u then none else some u
theorem rep_map (s : Sd) (upto : Int) (M : List Rg) : ∀ (L : List Un) (p : List Un × Bool), (L.foldl (repStep s upto M) p).1 = p.1 ++ L.filterMap (repU s upto M)
  | [], p => by simp
  | u :: L, p => by
    rw [List.foldl_cons, rep_map s upto M L]
    unfold repStep
    by_cases h1 : upto ≤ s.place u.sn
    · rw [if_pos h1, List.filterMap_cons_some (b := u) (by rw [repU, if_pos h1])]; simp
    · rw [if_neg h1]
      by_cases h2 : (missS u M).2 = true
      · rw [if_pos h2]
        by_cases h3 : u.again.length = 0 ∧ 0 < (missS u M).1.length
        · rw [if_pos h3]
          by_cases h4 : u.tries = s.lk.tries
          · rw [if_pos h4, List.filterMap_cons_some (b := { u with again := (missS u M).1 }) (by rw [repU, if_neg h1, if_pos h2, if_neg (fun h => h.2.2 h4)])]; simp
          · rw [if_neg h4, List.filterMap_cons_some (b := { u with again := (missS u M).1, tries := u.tries + 1 }) (by rw [repU, if_neg h1, if_pos h2, if_pos ⟨h3.1, h3.2, h4⟩])]; simp
        · rw [if_neg h3, List.filterMap_cons_some (b := { u with again := (missS u M).1 }) (by rw [repU, if_neg h1, if_pos h2, if_neg (fun h => h3 ⟨h.1, h.2.1⟩)])]; simp
      · rw [if_neg h2]
        by_cases h3 : wholeU u
        · rw [if_pos h3, List.filterMap_cons_none (by rw [repU, if_neg h1, if_neg h2, if_pos h3])]
        · rw [if_neg h3, List.filterMap_cons_some (b := u) (by rw [repU, if_neg h1, if_neg h2, if_neg h3])]; simp
theorem repU_some {s : Sd} {upto : Int} {M : List Rg} {u v : Un} (h : repU s upto M u = some v) : v.sn = u.sn ∧ v.data = u.data ∧ v.sent = u.sent ∧ ((v.again = u.again ∧ v.tries = u.tries) ∨ (v.again = (missS u M).1 ∧ (v.tries = u.tries ∨ (v.tries = u.tries + 1 ∧ u.tries ≠ s.lk.tries)))) := by
  unfold repU at h
  split at h
  · injection h with h; subst h; exact ⟨rfl, rfl, rfl, .inl ⟨rfl, rfl⟩⟩
  · split at h
    · injection h with h
      split at h
      · rename_i h3
        subst h; exact ⟨rfl, rfl, rfl, .inr ⟨rfl, .inr ⟨rfl, h3.2.2⟩⟩⟩
      · subst h; exact ⟨rfl, rfl, rfl, .inr ⟨rfl, .inl rfl⟩⟩
    · split at h
      · cases h
      · injection h with h; subst h; exact ⟨rfl, rfl, rfl, .inl ⟨rfl, rfl⟩⟩
theorem rep_ok {s : Sd} {r : Stt} (h : OkS s) (he : (repS s r).2 = 0) : OkS (repS s r).1 ∧ (repS s r).1.lk = s.lk ∧ (repS s r).1.units = s.units.filterMap (repU s (s.place r.upto) r.miss) ∧ okS s.lk.bits r ∧ s.failed = false ∧ s.place r.upto ≤ s.place s.next := by
  unfold repS at he ⊢
  by_cases h1 : s.okB = false ∨ ¬ okS s.lk.bits r
  · rw [if_pos h1] at he; exact absurd he (by decide)
  rw [if_neg h1] at he ⊢
  by_cases h2 : s.failed = true
  · rw [if_pos h2] at he; exact absurd he (by decide)
  rw [if_neg h2] at he ⊢
  by_cases h3 : s.place r.upto > s.place s.next
  · rw [if_pos h3] at he; exact absurd he (by decide)
  rw [if_neg h3]
  have hr : okS s.lk.bits r := Decidable.not_not.1 fun h => h1 (.inr h)
  have hu : (repT s r).units = s.units.filterMap (repU s (s.place r.upto) r.miss) := by
    unfold repT
    dsimp only
    rw [rep_map]; simp
  refine ⟨?_, rfl, hu, hr, by simpa using h2, by omega⟩
  obtain ⟨t, ht⟩ : ∃ t, t = repT s r := ⟨_, rfl⟩
  rw [← ht] at hu ⊢
  have hb := h.lk.1
  have hlk : t.lk = s.lk := by rw [ht]; rfl
  have hnx : t.next = s.next := by rw [ht]; rfl
  have hfi : t.first = match t.units with | u :: _ => u.sn | [] => s.next := by rw [ht]; rfl
  have hfrom : ∀ v ∈ t.units, ∃ u ∈ s.units, repU s (s.place r.upto) r.miss u = some v := fun v hv => by
    rw [hu] at hv; exact List.mem_filterMap.1 hv
  have hpw : t.units.Pairwise (relU s) := by
    rw [hu]
    refine List.Pairwise.filterMap (R := relU s) _ ?_ h.pw
    intro x x' hxx y hy y' hy'
    obtain ⟨a1, a2, a3, _⟩ := repU_some hy
    obtain ⟨b1, b2, b3, _⟩ := repU_some hy'
    unfold relU wholeU at hxx ⊢
    rw [a1, a2, a3, b1, b3]; exact hxx
  have hall : ∀ v ∈ t.units, unB s.lk v = true ∧ s.place v.sn < s.place s.next := fun v hv => by
    obtain ⟨u, hm, hg⟩ := hfrom v hv
    obtain ⟨a1, a2, a3, a4⟩ := repU_some hg
    obtain ⟨q1, q2⟩ := h.all u hm
    obtain ⟨⟨n1, n2, n3, n4⟩, m1, m2⟩ := unB_iff.1 q1
    rw [a1]
    refine ⟨unB_iff.2 ⟨⟨by rw [a1]; exact n1, by rw [a2]; exact n2, by rw [a2, a3]; exact n3, ?_⟩, ?_⟩, q2⟩
    · rcases a4 with ⟨_, a4⟩ | ⟨_, a4 | a4⟩ <;> omega
    · rcases a4 with ⟨a4, _⟩ | ⟨a4, _⟩
      · rw [a4, a1, a3]; exact ⟨m1, m2⟩
      · rw [a4, a1, a3]
        have := miss_ok (u := u) hr
        exact ⟨this.1, fun x hx => ⟨(this.2 x hx).1, (this.2 x hx).2.1⟩⟩
  -- the new start
  have hst : s.place t.first ≤ s.place s.next ∧ snOk s.lk.bits t.first ∧ ∀ v ∈ t.units, s.place t.first ≤ s.place v.sn := by
    rw [hfi]
    cases hl : t.units with
    | nil => exact ⟨Int.le_refl _, h.next, fun v hv => by simp at hv⟩
    | cons x l =>
      rw [hl] at hall hpw
      have hx := hall x (by simp)
      refine ⟨by have := hx.2; dsimp only; omega, (unB_iff.1 hx.1).1.1, fun v hv => ?_⟩
      rcases List.mem_cons.1 hv with rfl | hv
      · exact Int.le_refl _
      · have := ((List.pairwise_cons.1 hpw).1 v hv).1; dsimp only; omega
  have hpl : ∀ x, s.place t.first ≤ s.place x → t.place x = s.place x - s.place t.first := fun x hx => by
    unfold Sd.place at hx ⊢
    rw [hlk]
    exact way_shift hb hx
  have hnn : 0 ≤ s.place t.first := (way_range _ _ _).1
  refine ⟨by rw [hlk]; exact h.lk, by rw [hlk]; exact hst.2.1, by rw [hlk, hnx]; exact h.next, ?_, ?_, ?_, ?_, ?_, by rw [ht]; exact h.pieces, ?_, ?_⟩
  · rw [hnx, hpl _ hst.1, hlk]; have := h.win; omega
  · intro hn; rw [hnx, hfi, hn]
  · intro u l hl; rw [hfi, hl]
  · intro v hv
    have h5 := hst.2.2 v hv
    rw [hnx, hpl _ h5, hpl _ hst.1, hlk]
    have := hall v hv
    exact ⟨this.1, by omega⟩
  · refine hpw.imp_of_mem fun {x y} hx hy hxy => ?_
    unfold relU at hxy ⊢
    rw [hpl _ (hst.2.2 x hx), hpl _ (hst.2.2 y hy)]
    exact ⟨by omega, hxy.2⟩
  · have e1 : t.poll = if s.poll ≠ -1 ∧ s.place s.poll < s.place r.upto then -1 else s.poll := by rw [ht]; rfl
    have e2 : t.left = if s.poll ≠ -1 ∧ s.place s.poll < s.place r.upto then 0 else s.left := by rw [ht]; rfl
    rw [e1, e2]
    split
    · intro _; rfl
    · exact h.poll
  · have e1 : t.poll = if s.poll ≠ -1 ∧ s.place s.poll < s.place r.upto then -1 else s.poll := by rw [ht]; rfl
    have e2 : t.left = if s.poll ≠ -1 ∧ s.place s.poll < s.place r.upto then 0 else s.left := by rw [ht]; rfl
    rw [e1, e2, hlk]
    split
    · intro hp; exact absurd rfl hp
    · rename_i hc
      intro hp
      obtain ⟨⟨u, hm, g1, g2⟩, g3⟩ := h.asked hp
      refine ⟨⟨u, ?_, g1, g2⟩, g3⟩
      rw [hu]
      refine List.mem_filterMap.2 ⟨u, hm, ?_⟩
      unfold repU
      rw [if_pos]
      rw [g1]
      have : ¬ s.place s.poll < s.place r.upto := fun h => hc ⟨hp, h⟩
      omega
theorem new_ok {l : Lk} (hl : lkOk l) {x : Int} (hx : snOk l.bits x) : OkS ⟨l, x, x, [], 0, -1, 0, false⟩ := by
  have hh := half_lt hl.1
  refine ⟨hl, hx, hx, ?_, fun _ => rfl, fun u m h => (by cases h), fun u hu => (by simp at hu), List.Pairwise.nil, ⟨Int.le_refl _, ?_⟩, fun _ => rfl, fun h => absurd rfl h⟩
  · show way l.bits x x ≤ _
    rw [way_self]; dsimp only; omega
  · have := hl.2.1; dsimp only; omega
end Go.Sx
namespace Go.Proofs.Ytmhggobilcmdmaa
open Go.Sx Go.RowKit
set_option maxRecDepth 100000
section
variable {g : Nat} {a : Option Addr} {c : Nat} {ts : List Int} {p : Nat} {w : World} {A : Nat → Prop} {P : World → Prop}
theorem made_Link_ct (hP : Held A w P) (hts : Rolls a ts P) (hB : (dice g a c ts p).ok w) (hn : ∀ b, (dice g a c ts p).at = some b → ¬ A b) (hp : p ≤ ts.length) :
    Calls Try.prog N_made_Dice_Link #[(.pointer (some ⟨g, 0, none⟩))] w fun e w' => ∃ (l : Lk) (p' : Nat), e = .returned (.agg #[.int .i64 l.bits, .int .i64 l.every, .int .i64 l.poll, .int .i64 l.wait, .int .i64 l.quiet, .int .i64 l.tries]) ∧ lkOk l ∧ p' ≤ ts.length ∧ St A [g] w w' [dice g a c ts p'] P := by
  apply F_made_Dice_Link_ok
  unfold F_made_Dice_Link
  have H : St A [g] w w [dice g a c ts p] P := St.startM hP hB hn
  refine H.alloc ?_; clear H; intro b w1 H1
  refine dBits H1 (i := 0) rfl hts hp fun v0 p1 w2 h0 hp1 H2 => ?_
  refine dNext H2 (i := 0) rfl hts hp1 (by omega) fun v1 p2 w3 _ h1 hp2 H3 => ?_
  have h1 := h1 (by omega)
  refine kW_i64 (by omega) ?_ -- (1 : Int) + r1
  refine dNext H3 (i := 0) rfl hts hp2 (by omega) fun v2 p3 w4 _ h2 hp3 H4 => ?_
  have h2 := h2 (by omega)
  refine kW_i64 (by omega) ?_ -- (1 : Int) + r2
  refine dNext H4 (i := 0) rfl hts hp3 (by omega) fun v3 p4 w5 _ h3 hp4 H5 => ?_
  have h3 := h3 (by omega)
  refine kW_i64 (by omega) ?_ -- (1 : Int) + r3
  refine dNext H5 (i := 0) rfl hts hp4 (by omega) fun v4 p5 w6 _ h4 hp5 H6 => ?_
  have h4 := h4 (by omega)
  refine dNext H6 (i := 0) rfl hts hp5 (by omega) fun v5 p6 w7 _ h5 hp6 H7 => ?_
  have h5 := h5 (by omega)
  refine kW_i64 (by omega) ?_ -- (1 : Int) + r5
  simp only [List.cons_append, List.nil_append, List.set_cons_zero] at H7
  refine H7.store (i := 1) rfl (by rfl) (by rfl) ?_; intro w8 H8
  simp only [List.set_cons_succ, List.set_cons_zero] at H8
  refine ⟨_, _, _, _, _, _, H8.cells (i := 1) rfl, ?_⟩
  exact ⟨⟨v0, 1 + v1, 1 + v2, 1 + v3, v4, 1 + v5⟩, p6, rfl, ⟨h0, ⟨by dsimp only; omega, by dsimp only; omega⟩, ⟨by dsimp only; omega, by dsimp only; omega⟩, ⟨by dsimp only; omega, by dsimp only; omega⟩, ⟨by dsimp only; omega, by dsimp only; omega⟩, by dsimp only; omega, by dsimp only; omega⟩, hp6, St.dropLast (R := [_]) H8⟩
end
section
variable {A0 : Nat → Prop} {M : List Nat} {w0 w : World} {R : List Res} {P : World → Prop} {i g : Nat} {a : Option Addr} {c : Nat} {ts : List Int} {p : Nat}
theorem dLink (H : St A0 M w0 w R P) (hi : R[i]? = some (dice g a c ts p)) (hts : Rolls a ts P) (hp : p ≤ ts.length) {K : Lk → World → Prop}
    (h : ∀ l p' w', Fr [g] w w' → lkOk l → p' ≤ ts.length → St A0 M w0 w' (R.set i (dice g a c ts p')) P → K l w') :
    Calls Try.prog N_made_Dice_Link #[(.pointer (some ⟨g, 0, none⟩))] w fun e w' => ∃ l : Lk, e = .returned (.agg #[.int .i64 l.bits, .int .i64 l.every, .int .i64 l.poll, .int .i64 l.wait, .int .i64 l.quiet, .int .i64 l.tries]) ∧ K l w' := by
  obtain ⟨A, hA, hn', hr, hc⟩ := H.callM hi
  refine (made_Link_ct hA hts hr hn' hp).mono ?_
  rintro _ w2 ⟨l, p', rfl, hl, hp', S⟩
  have := hc S
  rw [List.append_nil] at this
  exact ⟨l, rfl, h l p' w2 S.fr hl hp' (this.imp fun _ h => h.2)⟩
end
end Go.Proofs.Ytmhggobilcmdmaa
namespace Go.Proofs.Ytmhggobilcmdmaa
open Go.Sx Go.RowKit
set_option maxRecDepth 100000
theorem low_pow {b x : Int} (hb : bitsOk b) : (if 1 ≤ b ∧ b ≤ 32 then x % 2 ^ b.toNat else -1) = x % 2 ^ b.toNat := by
  obtain ⟨h1, h2⟩ := hb
  rw [if_pos (by omega)]
section
variable {g : Nat} {a : Option Addr} {c : Nat} {ts : List Int} {p : Nat} {w : World} {A : Nat → Prop} {P : World → Prop}
/-- a report that a receiver could send -/
theorem law20_report_ct {s : Sd} {sa : Option Addr} {sc : Nat} (hok : OkS s) (hP : Held A w P) (hts : Rolls a ts P) (hB : (dice g a c ts p).ok w) (hn : ∀ b, (dice g a c ts p).at = some b → ¬ A b) (hp : p ≤ ts.length) :
    Calls Try.prog N_law20_report #[(.pointer (some ⟨g, 0, none⟩)), aggS s sa sc] w fun e w' => ∃ (r : Stt) (ma : Option Addr) (mc p' : Nat), e = .returned (.agg #[.int .i64 r.upto, .slice ma r.miss.length mc]) ∧ s.place r.upto ≤ s.place s.next ∧ r.miss.length ≤ 40 ∧ p' ≤ ts.length ∧
      St A [g] w w' [dice g a c ts p', .els encR Ty_api_Range 3 ma mc r.miss] P := by
  have hb := hok.lk.1
  have hh := half_lt hb
  have hpw := pow_bits hb
  have hwin := hok.win
  have hpl := way_range s.lk.bits s.first s.next
  have hf := hok.first
  have hpl : 0 ≤ s.place s.next := hpl.1
  unfold snOk at hf
  apply F_law20_report_ok
  unfold F_law20_report
  have H : St A [g] w w [dice g a c ts p] P := St.startM hP hB hn
  refine H.alloc ?_; clear H; intro b w1 H1
  refine H1.alloc ?_; clear H1; intro b1 w2 H2
  simp only [List.cons_append, List.nil_append] at H2
  refine H2.ld (i := 1) rfl rfl ?_
  refine H2.ld (i := 1) rfl rfl ?_
  refine H2.ld (i := 1) rfl rfl ?_
  refine (ref20_Place_ct (s := s) hb).mono ?_
  rintro _ w3 ⟨rfl, hb3⟩; have H3 := H2.pass hb3; clear H2
  refine ⟨_, rfl, ?_⟩
  refine kW_i64 (by omega) ?_ -- r + (1 : Int)
  refine dNext H3 (i := 0) rfl hts hp (by omega) fun n p1 w4 _ hn1 hp1 H4 => ?_
  have hn1 := hn1 (by omega)
  simp only [List.set_cons_zero] at H4
  refine H4.ld (i := 1) (x := s.first) rfl rfl ?_
  refine kW_i64 (by omega) ?_ -- s_6 + r1
  refine ref02_Low_ct.mono ?_
  rintro _ w5 ⟨rfl, hb5⟩; have H5 := H4.pass hb5; clear H4
  refine ⟨_, rfl, ?_⟩
  rw [low_pow hb]
  obtain ⟨up, hup⟩ : ∃ up, up = (s.first + n) % 2 ^ s.lk.bits.toNat := ⟨_, rfl⟩
  rw [← hup]
  have hupl : s.place up ≤ s.place s.next := by
    have e : s.place up = n := by
      rw [hup]
      unfold Sd.place way
      rcases hpw with e | e | e | e | e <;> rw [e] at hh ⊢ <;> omega
    omega
  refine H5.alloc ?_; clear H5; intro b2 w6 H6
  simp only [List.cons_append, List.nil_append] at H6
  refine H6.store (i := 3) rfl (by rfl) (by rfl) ?_; clear H6; intro w7 H7
  simp only [List.set_cons_succ, List.set_cons_zero] at H7
  have H7 := H7.nilE encR Ty_api_Range 3
  simp only [List.cons_append, List.nil_append] at H7
  refine ⟨fun i => ((20 - i).toNat, fun w8 => ∃ (k p2 : Nat) (ma : Option Addr) (mc : Nat) (L : List Rg), i = k ∧ k ≤ 20 ∧ p2 ≤ ts.length ∧ L.length ≤ 2 * k ∧
    St A [g] w w8 [dice g a c ts p2, .blk b Ty_api_Sender (encS s sa sc), .blk b1 Ty_api_Status [.int .i64 (0 : Int), .slice none 0 0], .blk b2 Ty_api_Status [.int .i64 up, .slice ma L.length mc], .els encR Ty_api_Range 3 ma mc L] P), ⟨0, p1, none, 0, [], rfl, by omega, hp1, by simp, H7⟩, ?_⟩
  clear H7
  rintro _ i w8 ⟨k, p2, ma, mc, L, rfl, hk, hp2, hL, H8⟩
  refine ⟨fun w11 => St A [g] w w11 [dice g a c ts p2, .blk b Ty_api_Sender (encS s sa sc), .blk b1 Ty_api_Status [.int .i64 (0 : Int), .slice none 0 0], .blk b2 Ty_api_Status [.int .i64 up, .slice ma L.length mc], .els encR Ty_api_Range 3 ma mc L] P ∧ k < 20, ?_, ?_⟩
  · rintro _ w11 ⟨H11, hj⟩
    refine H11.ld (i := 1) (x := s.first) rfl rfl ?_
    refine kW_i64 (by omega) ?_ -- s_6 + i
    refine ref02_Low_ct.mono ?_
    rintro _ w12 ⟨rfl, hb12⟩; have H12 := H11.pass hb12; clear H11
    refine ⟨_, rfl, ?_⟩
    rw [low_pow hb]
    obtain ⟨sn, hsn⟩ : ∃ sn, sn = (s.first + (k : Int)) % 2 ^ s.lk.bits.toNat := ⟨_, rfl⟩
    rw [← hsn]
    refine dNext H12 (i := 0) rfl hts hp2 (by omega) fun v p3 w13 _ hv hp3 H13 => ?_
    simp only [List.set_cons_zero] at H13
    clear H12
    refine kLet_in ?_
    refine bsplit_dec (fun c4 => ?_) (fun c4 => ?_) --  (decide (r4 = (0 : Int)))
    · refine H13.ldS (i := 3) rfl rfl ?_
      refine H13.alloc ?_; clear H13; intro b3 w14 H14
      refine St.appEL (R := [_, _, _, _, _]) [Rg.mk sn 0 0] H14 encR_ok (i := 4) rfl sl_Ty_S_api_Range rfl (by simp; omega) (by simp; omega) ?_; intro x_a1 x_c1 w15 H15
      simp only [List.set_cons_succ, List.set_cons_zero] at H15
      refine H15.set (i := 3) rfl (by simp) ?_; clear H15; intro w16 H16
      simp only [List.set_cons_succ, List.set_cons_zero] at H16
      refine kW_i64 (by omega) ?_ -- i + (1 : Int)
      exact ⟨⟨k + 1, p3, _, _, _, by omega, by omega, hp3, by simp; omega, H16⟩, by dsimp only; omega⟩
    · refine kLet_in ?_
      refine bsplit_dec (fun c3 => ?_) (fun c3 => ?_) --  (decide (r4 = (1 : Int)))
      · refine H13.drew ?_; clear H13; intro w17 H17
        refine ⟨fun x => x < w17.heap.size ∧ x ∉ [g], ?_⟩
        refine ⟨⟨H17.lt (i := 3) rfl rfl, nin1 (H17.ne (i := 3) (j := 0) rfl rfl (by decide) rfl rfl)⟩, ?_⟩
        refine H17.ldS (i := 3) rfl rfl ?_
        obtain ⟨A', hA', hn', hr', hc⟩ := H17.callM (i := 0) rfl
        refine (made_Ranges_ct hA' hts hr' hn' hp3 (by omega)).mono ?_
        rintro _ w18 ⟨ra, rc, L2, p4, rfl, hl2, _, _, _, hp4, K⟩
        have H18 := (hc K).imp fun _ h => h.2
        simp only [List.set_cons_zero, List.cons_append, List.nil_append] at H18
        refine ⟨_, _, _, rfl, ?_⟩
        refine ⟨Fr.keeps K.fr, ?_⟩
        refine H18.appE encR_ok (i := 4) rfl sl_Ty_S_api_Range (H18.slE encR_ok (i := 5) rfl) (by omega) (by omega) ?_; intro x_a3 x_c3 w19 H19
        simp only [List.set_cons_succ, List.set_cons_zero] at H19
        refine H19.set (i := 3) rfl (by simp) ?_; intro w20 H20
        simp only [List.set_cons_succ, List.set_cons_zero] at H20
        refine kW_i64 (by omega) ?_ -- i + (1 : Int)
        exact ⟨⟨k + 1, p4, _, _, _, by omega, by omega, hp4, by simp; omega, St.dropLast (R := [_, _, _, _, _]) H20⟩, by dsimp only; omega⟩
      · refine kLet_in ?_
        refine bsplit_dec (fun c2 => ?_) (fun c2 => ?_) --  (decide (r4 = (2 : Int)))
        · refine H13.drew ?_; clear H13; intro w21 H21
          refine ⟨fun x => x < w21.heap.size ∧ x ∉ [g], ?_⟩
          refine ⟨⟨H21.lt (i := 3) rfl rfl, nin1 (H21.ne (i := 3) (j := 0) rfl rfl (by decide) rfl rfl)⟩, ?_⟩
          refine H21.ldS (i := 3) rfl rfl ?_
          refine dNext H21 (i := 0) rfl hts hp3 (by omega) fun v2 p4 w22 f22 _ hp4 H22 => ?_
          simp only [List.set_cons_zero] at H22
          refine ⟨f22.keeps, ?_⟩
          refine ⟨f22.keeps, ?_⟩
          refine H22.allocB ?_; intro b4 w23 hb23 H23
          have f23 := f22.tr (hb23.fr []) (by simp)
          refine ⟨f23.keeps, ?_⟩
          refine St.appEL (R := [_, _, _, _, _]) [Rg.mk sn v2 65535] H23 encR_ok (i := 4) rfl sl_Ty_S_api_Range rfl (by simp; omega) (by simp; omega) ?_; intro x_a5 x_c5 w24 H24
          simp only [List.set_cons_succ, List.set_cons_zero] at H24
          refine H24.set (i := 3) rfl (by simp) ?_; intro w25 H25
          simp only [List.set_cons_succ, List.set_cons_zero] at H25
          refine kW_i64 (by omega) ?_ -- i + (1 : Int)
          exact ⟨⟨k + 1, p4, _, _, _, by omega, by omega, hp4, by simp; omega, H25⟩, by dsimp only; omega⟩
        · refine kW_i64 (by omega) ?_ -- i + (1 : Int)
          exact ⟨⟨k + 1, p3, _, _, _, by omega, by omega, hp3, by omega, H13⟩, by dsimp only; omega⟩
  · have fin : ∃ (x_0 : Int) (x_1_a : Option Addr) (x_1_l x_1_c : Nat), cellsAt w8 ⟨b2, 0, none⟩ 0 [(.int .i64 x_0), (.slice x_1_a x_1_l x_1_c)] ∧
        (sxStore w8 ⟨b1, 0, none⟩ 0 [(.int .i64 x_0), (.slice x_1_a x_1_l x_1_c)] fun w9 =>
        (∃ (r_0 : Int) (r_1_a : Option Addr) (r_1_l r_1_c : Nat), cellsAt w9 ⟨b1, 0, none⟩ 0 [(.int .i64 r_0), (.slice r_1_a r_1_l r_1_c)] ∧
          ∃ (r : Stt) (ma : Option Addr) (mc p' : Nat), (Ending.returned (.agg #[.int .i64 r_0, .slice r_1_a r_1_l r_1_c])) = .returned (.agg #[.int .i64 r.upto, .slice ma r.miss.length mc]) ∧ s.place r.upto ≤ s.place s.next ∧ r.miss.length ≤ 40 ∧ p' ≤ ts.length ∧
            St A [g] w w9 [dice g a c ts p', .els encR Ty_api_Range 3 ma mc r.miss] P)) := by
      refine ⟨_, _, _, _, H8.cells (i := 3) rfl, ?_⟩
      refine H8.store (i := 2) rfl (by rfl) (by rfl) ?_; clear H8; intro w9 H9
      simp only [List.set_cons_succ, List.set_cons_zero] at H9
      refine ⟨_, _, _, _, H9.cells (i := 2) rfl, ?_⟩
      refine ⟨⟨up, L⟩, ma, mc, p2, rfl, hupl, by dsimp only; omega, hp2, H9.sub (fun i => [0, 4].getD i 0) ?_ ?_⟩
      · rintro (_ | _ | _) r h <;> first | exact h | cases h
      · intro i j hi hj; simp only [List.length_cons, List.length_nil] at hi hj; rcases i with _ | _ | i <;> rcases j with _ | _ | j <;> simp <;> omega
    refine bsplit_dec (fun c1 => ?_) (fun c1 => fin) --  (decide (i < r1))
    refine bsplit_dec (fun c => ?_) (fun c => fin) --  (decide (i < (20 : Int)))
    exact ⟨H8, by omega⟩
end
section
variable {A0 : Nat → Prop} {M : List Nat} {w0 w : World} {R : List Res} {P : World → Prop} {i g : Nat} {a : Option Addr} {c : Nat} {ts : List Int} {p : Nat}
theorem dReport (H : St A0 M w0 w R P) (hi : R[i]? = some (dice g a c ts p)) (hts : Rolls a ts P) (hp : p ≤ ts.length) {s : Sd} {sa : Option Addr} {sc : Nat} (hok : OkS s) {K : Stt → Option Addr → Nat → World → Prop}
    (h : ∀ r ma mc p' w', Fr [g] w w' → s.place r.upto ≤ s.place s.next → r.miss.length ≤ 40 → p' ≤ ts.length → St A0 M w0 w' (R.set i (dice g a c ts p') ++ [.els encR Ty_api_Range 3 ma mc r.miss]) P → K r ma mc w') :
    Calls Try.prog N_law20_report #[(.pointer (some ⟨g, 0, none⟩)), aggS s sa sc] w fun e w' => ∃ (r : Stt) (ma : Option Addr) (mc : Nat), e = .returned (.agg #[.int .i64 r.upto, .slice ma r.miss.length mc]) ∧ K r ma mc w' := by
  obtain ⟨A, hA, hn', hr, hc⟩ := H.callM hi
  refine (law20_report_ct hok hA hts hr hn' hp).mono ?_
  rintro _ w2 ⟨r, ma, mc, p', rfl, h1, h2, hp', S⟩
  exact ⟨r, ma, mc, rfl, h r ma mc p' w2 S.fr h1 h2 hp' ((hc S).imp fun _ h => h.2)⟩
end
end Go.Proofs.Ytmhggobilcmdmaa
namespace Go.Sx
open Go.RowKit
section
variable {A0 : Nat → Prop} {M : List Nat} {w0 w : World} {P : World → Prop}
theorem St.left {X Y : List Res} (H : St A0 M w0 w (X ++ Y) P) : St A0 M w0 w X P :=
  H.sub id (fun i r hi => by rw [id, List.getElem?_append_left (List.getElem?_eq_some_iff.1 hi).1]; exact hi) (fun i j _ _ h => h)
theorem St.mid {X Y Z : List Res} (H : St A0 M w0 w (X ++ (Y ++ Z)) P) : St A0 M w0 w (X ++ Z) P := by
  refine H.sub (fun i => if i < X.length then i else i + Y.length) (fun i r hi => ?_) (fun i j hi hj h => ?_)
  · by_cases h : i < X.length
    · rw [List.getElem?_append_left h] at hi
      rw [if_pos h, List.getElem?_append_left h]; exact hi
    · rw [List.getElem?_append_right (by omega)] at hi
      rw [if_neg h, List.getElem?_append_right (by omega), List.getElem?_append_right (by omega), show i + Y.length - X.length - Y.length = i - X.length by omega]; exact hi
  · split at h <;> split at h <;> omega
theorem last_at (R : List Res) (r : Res) : (R ++ [r])[R.length]? = some r := by simp
end
end Go.Sx
namespace Go.Proofs.Ytmhggobilcmdmaa
open Go.Sx Go.RowKit
set_option maxRecDepth 100000
/-- units of the call's own can be read -/
theorem unR_of {A0 : Nat → Prop} {M : List Nat} {w0 w : World} {P : World → Prop} {X Z : List Res} {a : Option Addr} {c : Nat} {L : List UP} {D : List DP} (H : St A0 M w0 w (X ++ (.els encUP Ty_api_Unit 5 a c L :: (D.map resD ++ Z))) P) (hO : OwnDs L D) (hd : Dat0 L w) : UnR w a (L.map (·.u)) := by
  have h0 : (X ++ (Res.els encUP Ty_api_Unit 5 a c L :: (D.map resD ++ Z)))[X.length]? = some (.els encUP Ty_api_Unit 5 a c L) := by simp
  refine up_unR (H.slE encUP_ok h0) hd fun x hx => ?_
  obtain ⟨i, hi, rfl⟩ := List.getElem_of_mem hx
  have hD : i < D.length := by rw [hO.1]; exact hi
  obtain ⟨n, _, hn, h1, h2, h3⟩ := hO.2 i hi hD
  have hr : (X ++ (Res.els encUP Ty_api_Unit 5 a c L :: (D.map resD ++ Z)))[X.length + (i + 1)]? = some (resD D[i]) := by
    rw [List.getElem?_append_right (by omega), show X.length + (i + 1) - X.length = i + 1 by omega, List.getElem?_cons_succ, List.getElem?_append_left (by simpa using hD), List.getElem?_map, List.getElem?_eq_getElem hD]; rfl
  have hs : SlR (CE encR) 3 w D[i].a0 D[i].all := H.slE encR_ok (e := Ty_api_Range) (c := D[i].c0) hr
  have hcap : D[i].all.length ≤ D[i].c0 := H.capE (e := Ty_api_Range) (enc := encR) (sz := 3) (a := D[i].a0) hr
  rw [h1, h2]
  exact hs.tailE (l := n) hcap
/-- a sender whose units are of the call's own, and an error -/
def RetD (w : World) (x : Sd) (E : Int) (e : Ending) (w' : World) : Prop :=
  ∃ a c L D, L.map (·.u) = x.units ∧ OwnDs L D ∧ e = .returned (.tuple #[aggS x a c, .int .i64 E]) ∧ St (fun _ => False) [] w w' (.els encUP Ty_api_Unit 5 a c L :: D.map resD) (Dat0 L)
theorem RetO.own {w w' : World} {x : Sd} {E : Int} {e : Ending} (h : RetO w x E e w') : RetD w x E e w' := by
  obtain ⟨a, c, L, hL, he, H⟩ := h
  have eD : L.map agR = (L.map toD).map resD := by rw [List.map_map]; rfl
  rw [eD] at H
  exact ⟨a, c, L, _, hL, ownDs0 L, he, H.imp fun _ h => h.out⟩
section
variable {g : Nat} {a : Option Addr} {c : Nat} {ts : List Int} {p : Nat} {w : World} {A : Nat → Prop} {P : World → Prop}
/-- a sender behind some steps -/
theorem law20_random_ct (hP : Held A w P) (hts : Rolls a ts P) (hB : (dice g a c ts p).ok w) (hn : ∀ b, (dice g a c ts p).at = some b → ¬ A b) (hp : p ≤ ts.length) :
    Calls Try.prog N_law20_random #[(.pointer (some ⟨g, 0, none⟩))] w fun e w' => ∃ (s : Sd) (ua : Option Addr) (uc : Nat) (L : List UP) (D : List DP) (p' : Nat), e = .returned (aggS s ua uc) ∧ OkS s ∧ GU s.units ∧ L.map (·.u) = s.units ∧ OwnDs L D ∧ p' ≤ ts.length ∧
      St A [g] w w' (dice g a c ts p' :: .els encUP Ty_api_Unit 5 ua uc L :: D.map resD) fun w => Dat0 L w ∧ P w := by
  apply F_law20_random_ok
  unfold F_law20_random
  have H : St A [g] w w [dice g a c ts p] P := St.startM hP hB hn
  refine H.alloc ?_; clear H; intro b w1 H1
  simp only [List.cons_append, List.nil_append] at H1
  obtain ⟨A', hA', hn', hr', hc⟩ := H1.callM (i := 0) rfl
  refine (made_Link_ct hA' hts hr' hn' hp).mono ?_
  rintro _ w2 ⟨l, p1, rfl, hl, hp1, K⟩
  have H2 := (hc K).imp fun _ h => h.2
  clear hc K hA' hn' hr' H1
  simp only [List.set_cons_zero, List.append_nil] at H2
  refine ⟨_, _, _, _, _, _, rfl, ?_⟩
  have hnew : (newS l) = (⟨l, 0, 0, [], 0, -1, 0, false⟩, 0) := by unfold newS; rw [if_pos hl]
  have C := ref20_New_ct (l := l) (w := w2)
  rw [hnew] at C
  refine C.mono ?_; clear C
  rintro _ w3 hh
  obtain ⟨ua, uc, L0, hL0, rfl, K⟩ := hh
  obtain rfl : L0 = [] := by simpa using hL0
  have H3 := H2.callF K
  clear K H2
  simp only [List.map_nil, List.cons_append, List.nil_append] at H3
  refine ⟨_, _, _, _, _, _, _, _, _, _, _, _, _, _, _, _, rfl, ?_⟩
  refine H3.alloc ?_; clear H3; intro b1 w4 H4
  have H4 := St.lastTo (X := [_, _]) (T := [_]) H4
  simp only [List.cons_append, List.nil_append] at H4
  refine H4.store (i := 2) rfl (by rfl) (by rfl) ?_; clear H4; intro w5 H5
  simp only [List.set_cons_succ, List.set_cons_zero] at H5
  have hb := hl.1
  have hpw := pow_bits hb
  have hbb := hb
  unfold bitsOk at hbb
  refine H5.ld (i := 2) (x := l.bits) rfl rfl ?_
  refine kW_u64 (by omega) ?_ -- r_01
  refine ⟨by omega, ?_⟩
  refine kShl1 (by omega) ?_
  have htsD : ∀ (L : List UP), Rolls a ts fun w => Dat0 L w ∧ P w := fun L => hts.and _
  have H5 := H5.imp (Q := fun w => Dat0 [] w ∧ P w) fun _ h => ⟨fun x hx => by simp at hx, h.2⟩
  refine dNext H5 (i := 0) rfl (htsD []) hp1 (by omega) fun x p2 w6 _ hx hp2 H6 => ?_
  have hx := hx (by omega)
  simp only [List.set_cons_zero] at H6
  refine H6.set (i := 2) rfl (by show 6 < 13; decide) ?_; clear H6; intro w7 H7
  simp only [List.set_cons_succ, List.set_cons_zero] at H7
  refine H7.ld (i := 2) (x := x) rfl rfl ?_
  refine H7.set (i := 2) rfl (by show 7 < 13; decide) ?_; clear H7; intro w8 H8
  simp only [List.set_cons_succ, List.set_cons_zero] at H8
  refine dNext H8 (i := 0) rfl (htsD []) hp2 (by omega) fun m p3 w9 _ hm hp3 H9 => ?_
  have hm := hm (by omega)
  simp only [List.set_cons_zero] at H9
  have hnok := new_ok (l := l) hl (x := x) ⟨by omega, by omega⟩
  obtain ⟨s0, hs0⟩ : ∃ s0 : Sd, s0 = ⟨l, x, x, [], 0, -1, 0, false⟩ := ⟨_, rfl⟩
  have hsu : s0.units = [] := by rw [hs0]
  rw [← hs0] at hnok
  replace H9 : St A [g] w w9 (dice g a c ts p3 :: .blk b Ty_api_Sender (encS .zero none 0) :: .blk b1 Ty_api_Sender (encS s0 ua uc) :: .els encUP Ty_api_Unit 5 ua uc [] :: ([] : List DP).map resD) (fun w => Dat0 [] w ∧ P w) := by
    rw [hs0]; exact H9
  refine ⟨fun n => (n.toNat, fun w10 => ∃ (s : Sd) (ua : Option Addr) (uc : Nat) (L : List UP) (D : List DP) (p' : Nat), n ≤ 40 ∧ OkS s ∧ GU s.units ∧ L.map (·.u) = s.units ∧ OwnDs L D ∧ p' ≤ ts.length ∧
    St A [g] w w10 (dice g a c ts p' :: .blk b Ty_api_Sender (encS .zero none 0) :: .blk b1 Ty_api_Sender (encS s ua uc) :: .els encUP Ty_api_Unit 5 ua uc L :: D.map resD) fun w => Dat0 L w ∧ P w), ⟨s0, ua, uc, [], [], p3, by omega, hnok, by rw [hsu]; exact gu_nil, by rw [hsu]; rfl, ⟨rfl, fun i h => by simp at h⟩, hp3, H9⟩, ?_⟩
  clear H9 hnok hsu hs0 s0 hx hm hp3 hp2 hp1
  rintro _ n w10 ⟨s, ua, uc, L, D, p1, hn40, hok, hgu, hL, hO, hp1, H10⟩
  refine bsplit_dec (fun c6 => ?_) (fun c6 => ?_) --  (decide (n > (0 : Int)))
  · refine ⟨_, _, _, _, _, _, _, _, _, _, _, _, _, _, _, H10.cells (i := 2) rfl, ?_⟩
    refine H10.alloc ?_; clear H10; intro b2 w11 H11
    have H11 := St.lastTo (X := [_, _, _]) (T := .els encUP Ty_api_Unit 5 ua uc L :: D.map resD) H11
    simp only [List.cons_append, List.nil_append] at H11
    refine H11.store (i := 3) rfl (by rfl) (by rfl) ?_; clear H11; intro w12 H12
    simp only [List.set_cons_succ, List.set_cons_zero] at H12
    refine ⟨fun e1 w30 => ∃ (x : Sd) (xa : Option Addr) (xc : Nat) (L2 : List UP) (D2 : List DP) (p' : Nat), (e1 = 0 → OkS x) ∧ GU x.units ∧ L2.map (·.u) = x.units ∧ OwnDs L2 D2 ∧ p' ≤ ts.length ∧
      St A [g] w w30 ([dice g a c ts p', .blk b Ty_api_Sender (encS .zero none 0), .blk b1 Ty_api_Sender (encS s ua uc), .blk b2 Ty_api_Sender (encS x xa xc)] ++ ((.els encUP Ty_api_Unit 5 ua uc L :: D.map resD) ++ (.els encUP Ty_api_Unit 5 xa xc L2 :: D2.map resD))) fun w => Dat0 L2 w ∧ Dat0 L w ∧ P w, ?_, ?_⟩
    · rintro _ e1 w30 ⟨x, xa, xc, L2, D2, p2, hx, hgx, hL2, hO2, hp2, H30⟩
      refine bsplit_dec (fun c5 => ?_) (fun c5 => ?_) --  (decide (e1 = (0 : Int)))
      · refine ⟨_, _, _, _, _, _, _, _, _, _, _, _, _, _, _, H30.cells (i := 3) rfl, ?_⟩
        refine H30.store (i := 2) rfl (by rfl) (by rfl) ?_; clear H30; intro w31 H31
        simp only [List.cons_append, List.nil_append, List.set_cons_succ, List.set_cons_zero] at H31
        have H32 := St.mid (X := [_, _, _]) (Y := .blk b2 Ty_api_Sender (encS x xa xc) :: .els encUP Ty_api_Unit 5 ua uc L :: D.map resD) (Z := .els encUP Ty_api_Unit 5 xa xc L2 :: D2.map resD) H31
        refine kW_i64 (by omega) ?_ -- n - (1 : Int)
        exact ⟨⟨x, xa, xc, L2, D2, p2, by omega, hx c5, hgx, hL2, hO2, hp2, H32.imp fun _ h => ⟨h.1, h.2.2⟩⟩, by dsimp only; omega⟩ --! I (n - (1 : Int))
      · refine kW_i64 (by omega) ?_ -- n - (1 : Int)
        have H31 := St.skip (X := [_, _, _]) H30
        have H32 := St.left (X := dice g a c ts p2 :: .blk b Ty_api_Sender (encS .zero none 0) :: .blk b1 Ty_api_Sender (encS s ua uc) :: .els encUP Ty_api_Unit 5 ua uc L :: D.map resD) H31
        exact ⟨⟨s, ua, uc, L, D, p2, by omega, hok, hgu, hL, hO, hp2, H32.imp fun _ h => h.2⟩, by dsimp only; omega⟩ --! I (n - (1 : Int))
    · -- one step
      have gz := hgu.1
      refine dNext H12 (i := 0) rfl (htsD L) hp1 (by omega) fun k p2 w13 _ hk hp2 H13 => ?_
      simp only [List.set_cons_zero] at H13
      clear H12
      have unr : ∀ {w' : World} {P' : World → Prop} {p' : Nat} {Z : List Res}, St A [g] w w' (dice g a c ts p' :: .blk b Ty_api_Sender (encS .zero none 0) :: .blk b1 Ty_api_Sender (encS s ua uc) :: .blk b2 Ty_api_Sender (encS s ua uc) :: .els encUP Ty_api_Unit 5 ua uc L :: (D.map resD ++ Z)) P' → Dat0 L w' → UnR w' ua s.units := fun {w' P' p' Z} H hd => by
        rw [← hL]; exact unR_of (X := [_, _, _, _]) H hO hd
      refine ⟨fun _ w14 => St A [g] w w14 (dice g a c ts p2 :: .blk b Ty_api_Sender (encS .zero none 0) :: .blk b1 Ty_api_Sender (encS s ua uc) :: .blk b2 Ty_api_Sender (encS s ua uc) :: .els encUP Ty_api_Unit 5 ua uc L :: D.map resD) fun w => Dat0 L w ∧ P w, ?_, ?_⟩
      · rintro _ x6 w14 H14
        refine bsplit_intro (fun c4 => ?_) (fun c4 => ?_) --  x6
        · refine H14.drew ?_; clear H14; intro w15 H15
          refine ⟨fun x => x < w15.heap.size ∧ x ∉ [g], ?_⟩
          refine ⟨⟨H15.lt (i := 2) rfl rfl, nin1 (H15.ne (i := 2) (j := 0) rfl rfl (by decide) rfl rfl)⟩, ?_⟩
          refine ⟨_, _, _, _, _, _, _, _, _, _, _, _, _, _, _, H15.cells (i := 2) rfl, ?_⟩
          obtain ⟨A', hA', hn', hr', hc⟩ := H15.callM (i := 0) rfl
          refine (made_Some_ct hA' (htsD L) hr' hn' hp2 (by omega)).mono ?_
          rintro _ w16 ⟨ra, rc, d, p3, rfl, hd, _, _, hp3, K⟩
          have H16 := (hc K).imp fun _ h => h.2
          refine ⟨_, _, _, rfl, ?_⟩
          refine ⟨Fr.keeps K.fr, ?_⟩
          clear hc K hA' hn' hr' H15
          simp only [List.set_cons_zero] at H16
          have hdd := H16.slI (last_at _ _)
          have H17 := H16.dropLast
          have C := ref20_Submit_ct (s := s) (a := ua) (c := uc) (da := ra) (dc := rc) (d := d) (w := w16) (unr (Z := []) (by rw [List.append_nil]; exact H17) H17.get.1) gz hdd
          obtain ⟨pr, hpr⟩ : ∃ pr, pr = subS s d (begE s) := ⟨_, rfl⟩
          have hg1 : GU pr.1.units := by rw [hpr]; exact sub_gu hgu hd
          have hk1 : pr.2 = 0 → OkS pr.1 := fun h => by rw [hpr] at h ⊢; exact (sub_ok hok h).1
          rw [← hpr] at C
          refine C.mono ?_; clear C
          rintro _ w17 hh
          obtain ⟨xa, xc, L2, D2, hL2, hO2, rfl, K⟩ := hh.own
          have H18 := H17.callF K
          refine ⟨_, _, _, _, _, _, _, _, _, _, _, _, _, _, _, _, rfl, ?_⟩
          refine H18.store (i := 3) rfl (by rfl) (by rfl) ?_; intro w18 H19
          simp only [List.cons_append, List.set_cons_succ, List.set_cons_zero] at H19
          exact ⟨pr.1, xa, xc, L2, D2, p3, hk1, hg1, hL2, hO2, hp3, H19⟩
        · refine ⟨fun _ w19 => St A [g] w w19 (dice g a c ts p2 :: .blk b Ty_api_Sender (encS .zero none 0) :: .blk b1 Ty_api_Sender (encS s ua uc) :: .blk b2 Ty_api_Sender (encS s ua uc) :: .els encUP Ty_api_Unit 5 ua uc L :: D.map resD) fun w => Dat0 L w ∧ P w, ?_, ?_⟩
          · rintro _ x9 w19 H19
            refine bsplit_intro (fun c3 => ?_) (fun c3 => ?_) --  x9
            · refine H19.drew ?_; clear H19; intro w20 H20
              refine ⟨fun x => x < w20.heap.size ∧ x ∉ [g], ?_⟩
              refine ⟨⟨H20.lt (i := 2) rfl rfl, nin1 (H20.ne (i := 2) (j := 0) rfl rfl (by decide) rfl rfl)⟩, ?_⟩
              refine ⟨_, _, _, _, _, _, _, _, _, _, _, _, _, _, _, H20.cells (i := 2) rfl, ?_⟩
              refine dNext H20 (i := 0) rfl (htsD L) hp2 (by omega) fun v p3 w21 f21 hv hp3 H21 => ?_
              have hv := hv (by omega)
              simp only [List.set_cons_zero] at H21
              refine ⟨f21.keeps, ?_⟩
              refine kW_i64 (by omega) ?_ -- (3 : Int) + r5
              have C := ref20_BuildP_ct (s := s) (a := ua) (c := uc) (size := 3 + v) (w := w21) (unr (Z := []) (by rw [List.append_nil]; exact H21) H21.get.1) gz (by omega)
              obtain ⟨pr, hpr⟩ : ∃ pr, pr = buildS s (3 + v) (begE s) := ⟨_, rfl⟩
              have hg1 : GU pr.1.units := by rw [hpr]; exact build_gu hgu
              have hk1 : pr.2.2 = 0 → OkS pr.1 := fun h => by rw [hpr] at h ⊢; exact (build_ok hok h).1
              rw [← hpr] at C
              refine C.mono ?_; clear C
              rintro _ w22 ⟨xa, xc, ba, bc, L2, D2, _, hL2, hO2, rfl, K⟩
              have H22 := H21.callF K
              refine ⟨_, _, _, _, _, _, _, _, _, _, _, _, _, _, _, _, _, _, _, rfl, ?_⟩
              refine H22.store (i := 3) rfl (by rfl) (by rfl) ?_; intro w23 H23
              simp only [List.cons_append, List.set_cons_succ, List.set_cons_zero] at H23
              exact ⟨pr.1, xa, xc, L2, D2, p3, hk1, hg1, hL2, hO2, hp3, H23.imp fun _ h => ⟨h.1.2, h.2⟩⟩
            · refine kLet_in ?_
              refine bsplit_dec (fun c2 => ?_) (fun c2 => ?_) --  (decide (r3 = (4 : Int)))
              · refine H19.drew ?_; clear H19; intro w24 H24
                refine ⟨fun x => x < w24.heap.size ∧ x ∉ [g], ?_⟩
                refine ⟨⟨H24.lt (i := 2) rfl rfl, nin1 (H24.ne (i := 2) (j := 0) rfl rfl (by decide) rfl rfl)⟩, ?_⟩
                refine ⟨_, _, _, _, _, _, _, _, _, _, _, _, _, _, _, H24.cells (i := 2) rfl, ?_⟩
                refine ⟨_, _, _, _, _, _, _, _, _, _, _, _, _, _, _, H24.cells (i := 2) rfl, ?_⟩
                obtain ⟨A', hA', hn', hr', hc⟩ := H24.callM (i := 0) rfl
                refine (law20_report_ct hok hA' (htsD L) hr' hn' hp2).mono ?_
                rintro _ w25 ⟨r, ma, mc, p3, rfl, _, hml, hp3, K⟩
                have H25 := (hc K).imp fun _ h => h.2
                refine ⟨_, _, _, _, rfl, ?_⟩
                refine ⟨Fr.keeps K.fr, ?_⟩
                clear hc K hA' hn' hr' H24
                simp only [List.set_cons_zero] at H25
                have hM := H25.slE encR_ok (last_at _ _)
                have H26 := H25.dropLast
                have C := ref20_Report_ct (s := s) (r := r) (a := ua) (c := uc) (ma := ma) (mc := mc) (w := w25) (unr (Z := []) (by rw [List.append_nil]; exact H26) H26.get.1) gz hM (by omega)
                obtain ⟨pr, hpr⟩ : ∃ pr, pr = repS s r := ⟨_, rfl⟩
                have hg1 : GU pr.1.units := by rw [hpr]; exact rep_gu hgu (by omega)
                have hk1 : pr.2 = 0 → OkS pr.1 := fun h => by rw [hpr] at h ⊢; exact (rep_ok hok h).1
                rw [← hpr] at C
                refine C.mono ?_; clear C
                rintro _ w26 hh
                obtain ⟨xa, xc, L2, D2, hL2, hO2, rfl, K⟩ := hh.own
                have H27 := H26.callF K
                refine ⟨_, _, _, _, _, _, _, _, _, _, _, _, _, _, _, _, rfl, ?_⟩
                refine H27.store (i := 3) rfl (by rfl) (by rfl) ?_; intro w27 H28
                simp only [List.cons_append, List.set_cons_succ, List.set_cons_zero] at H28
                exact ⟨pr.1, xa, xc, L2, D2, p3, hk1, hg1, hL2, hO2, hp3, H28⟩
              · refine ⟨_, _, _, _, _, _, _, _, _, _, _, _, _, _, _, H19.cells (i := 2) rfl, ?_⟩
                have C := ref20_Tick_ct (s := s) (a := ua) (c := uc) (w := w19) (unr (Z := []) (by rw [List.append_nil]; exact H19) H19.get.1) gz
                obtain ⟨pr, hpr⟩ : ∃ pr, pr = tickS s (begE s) := ⟨_, rfl⟩
                have hg1 : GU pr.1.units := by rw [hpr]; exact tick_gu hgu
                have hk1 : pr.2 = 0 → OkS pr.1 := fun h => by rw [hpr] at h ⊢; exact (tick_ok hok h).1
                rw [← hpr] at C
                refine C.mono ?_; clear C
                rintro _ w28 hh
                obtain ⟨xa, xc, L2, D2, hL2, hO2, rfl, K⟩ := hh.own
                have H28 := H19.callF K
                refine ⟨_, _, _, _, _, _, _, _, _, _, _, _, _, _, _, _, rfl, ?_⟩
                refine H28.store (i := 3) rfl (by rfl) (by rfl) ?_; intro w29 H29
                simp only [List.cons_append, List.set_cons_succ, List.set_cons_zero] at H29
                exact ⟨pr.1, xa, xc, L2, D2, p2, hk1, hg1, hL2, hO2, hp2, H29⟩
          · refine kLet_in ?_
            refine bsplit_dec (fun c1 => H14) (fun c1 => ?_) --  (decide (r3 = (2 : Int)))
            refine kLet_in ?_
            exact H14
      · refine kLet_in ?_
        refine bsplit_dec (fun c => H13) (fun c => ?_) --  (decide (r3 = (0 : Int)))
        refine kLet_in ?_
        exact H13
  · refine ⟨_, _, _, _, _, _, _, _, _, _, _, _, _, _, _, H10.cells (i := 2) rfl, ?_⟩
    refine H10.store (i := 1) rfl (by rfl) (by rfl) ?_; clear H10; intro w32 H32
    simp only [List.set_cons_succ, List.set_cons_zero] at H32
    refine ⟨_, _, _, _, _, _, _, _, _, _, _, _, _, _, _, H32.cells (i := 1) rfl, ?_⟩
    have H33 := St.skip (X := [_]) H32
    have H34 := St.skip (X := [_]) H33
    exact ⟨s, ua, uc, L, D, p1, rfl, hok, hgu, hL, hO, hp1, H34⟩
end
end Go.Proofs.Ytmhggobilcmdmaa
namespace Go.Proofs.Ytmhggobilcmdmaa
open Go.Sx Go.RowKit
set_option maxRecDepth 100000
section
variable {A0 : Nat → Prop} {w0 w : World} {R : List Res} {P : World → Prop} {i g : Nat} {a : Option Addr} {c : Nat} {ts : List Int} {p : Nat}
/-- units that can be read, with their places -/
def UnL (w : World) (a : Option Addr) (L : List UP) : Prop := SlR (CE encUP) 5 w a L ∧ Dat0 L w ∧ RngR L w
theorem UnL.un {w : World} {a : Option Addr} {L : List UP} {us : List Un} (h : UnL w a L) (hL : L.map (·.u) = us) : UnR w a us := by rw [← hL]; exact up_unR h.1 h.2.1 h.2.2
/-- units of the call's own are handed on -/
theorem shareU {X : List Res} {ua : Option Addr} {uc : Nat} {L : List UP} {D : List DP} (H : St A0 [] w0 w (X ++ (.els encUP Ty_api_Unit 5 ua uc L :: D.map resD)) P) (hO : OwnDs L D) (hd : ∀ w, P w → Dat0 L w) :
    St A0 [] w0 w X fun w => UnL w ua L ∧ P w := by
  have e : X ++ (.els encUP Ty_api_Unit 5 ua uc L :: D.map resD) = (X ++ [.els encUP Ty_api_Unit 5 ua uc L]) ++ D.map resD := by simp
  rw [e] at H
  have K := (shareD hO H).shareE encUP_ok (i := X.length) (last_at _ _)
  have e2 : (X ++ [Res.els encUP Ty_api_Unit 5 ua uc L]).set X.length .gone = X ++ [.gone] := by simp
  rw [e2] at K
  exact K.dropLast.imp fun w h => ⟨⟨h.1, hd w h.2.2, h.2.1⟩, h.2.2⟩
theorem randomF (H : St A0 [] w0 w R P) (hi : R[i]? = some (dice g a c ts p)) (hts : Rolls a ts P) (hp : p ≤ ts.length) :
    Calls Try.prog N_law20_random #[(.pointer (some ⟨g, 0, none⟩))] w fun e w' => ∃ (s : Sd) (ua : Option Addr) (uc : Nat) (L : List UP) (p' : Nat), e = .returned (aggS s ua uc) ∧ OkS s ∧ GU s.units ∧ L.map (·.u) = s.units ∧ p' ≤ ts.length ∧
      St A0 [] w0 w' (R.set i (dice g a c ts p')) fun w => UnL w ua L ∧ P w := by
  obtain ⟨A, hA, hn', hr, hc⟩ := H.callM hi
  refine (law20_random_ct hA hts hr hn' hp).mono ?_
  rintro _ w2 ⟨s, ua, uc, L, D, p', rfl, h1, h2, h3, h4, h5, S⟩
  exact ⟨s, ua, uc, L, p', rfl, h1, h2, h3, h5, (shareU (hc S) h4 fun _ h => h.1.1).imp fun _ h => ⟨h.1, h.2.2⟩⟩
theorem reportF (H : St A0 [] w0 w R P) (hi : R[i]? = some (dice g a c ts p)) (hts : Rolls a ts P) (hp : p ≤ ts.length) {s : Sd} {sa : Option Addr} {sc : Nat} (hok : OkS s) :
    Calls Try.prog N_law20_report #[(.pointer (some ⟨g, 0, none⟩)), aggS s sa sc] w fun e w' => ∃ (r : Stt) (ma : Option Addr) (mc p' : Nat), e = .returned (.agg #[.int .i64 r.upto, .slice ma r.miss.length mc]) ∧ s.place r.upto ≤ s.place s.next ∧ r.miss.length ≤ 40 ∧ p' ≤ ts.length ∧
      St A0 [] w0 w' (R.set i (dice g a c ts p')) fun w => SlR (CE encR) 3 w ma r.miss ∧ P w := by
  obtain ⟨A, hA, hn', hr, hc⟩ := H.callM hi
  refine (law20_report_ct hok hA hts hr hn' hp).mono ?_
  rintro _ w2 ⟨r, ma, mc, p', rfl, h1, h2, h3, S⟩
  have K := hc S
  have K2 := K.shareE encR_ok (i := (R.set i (dice g a c ts p')).length) (last_at _ _)
  have e2 : (R.set i (dice g a c ts p') ++ [Res.els encR Ty_api_Range 3 ma mc r.miss]).set (R.set i (dice g a c ts p')).length .gone = R.set i (dice g a c ts p') ++ [.gone] := by simp
  rw [e2] at K2
  exact ⟨r, ma, mc, p', rfl, h1, h2, h3, K2.dropLast.imp fun _ h => ⟨h.1, h.2.2⟩⟩
end
end Go.Proofs.Ytmhggobilcmdmaa
