/- Chapter 18, plain: ranges of a segment; no program in sight. -/
namespace Go.Sx
structure Rg where
  sn : Int
  f : Int
  t : Int
deriving DecidableEq
/-- ranges in order, apart from each other, none empty -/
def normB (prev : Int) : List Rg → Bool
  | [] => true
  | r :: l => decide (prev < r.f ∧ r.f < r.t) && normB r.t l
theorem normB_drop (p : Int) (l : List Rg) (k : Nat) (h : k < l.length) : normB p (l.drop k) = (decide (p < l[k].f ∧ l[k].f < l[k].t) && normB l[k].t (l.drop (k + 1))) := by
  rw [List.drop_eq_getElem_cons h]; rfl
def prevT (l : List Rg) : Nat → Int
  | 0 => -1
  | k + 1 => (l[k]?.map (·.t)).getD (-1)
theorem prevT_succ {l : List Rg} {k : Nat} (h : k < l.length) : prevT l (k + 1) = l[k].t := by
  simp [prevT, List.getElem?_eq_getElem h]
/-- the ranges with one more, joined where they touch: all of one number -/
def unionS (sn : Int) : List Rg → Int → Int → List Rg
  | [], f, t => [⟨sn, f, t⟩]
  | x :: l, f, t => if x.t < f then ⟨sn, x.f, x.t⟩ :: unionS sn l f t else if x.f > t then ⟨sn, f, t⟩ :: (x :: l).map fun y => ⟨sn, y.f, y.t⟩ else unionS sn l (if x.f < f then x.f else f) (if x.t > t then x.t else t)
/-- what lies between the ranges, from at on -/
def gapsS (sn : Int) : List Rg → Int → Int → List Rg
  | [], at_, len => if at_ < len then [⟨sn, at_, len⟩] else []
  | x :: l, at_, len => if x.f > at_ then ⟨sn, at_, x.f⟩ :: gapsS sn l x.t len else gapsS sn l x.t len
def covB (k : Int) (l : List Rg) : Bool := l.any fun r => decide (r.f ≤ k ∧ k < r.t)
theorem covB_drop (k : Int) (l : List Rg) (i : Nat) (h : i < l.length) : covB k (l.drop i) = (decide (l[i].f ≤ k ∧ k < l[i].t) || covB k (l.drop (i + 1))) := by
  rw [List.drop_eq_getElem_cons h]; rfl
/-- .. without the end -/
def gapsA (sn : Int) : List Rg → Int → List Rg
  | [], _ => []
  | x :: l, at_ => if x.f > at_ then ⟨sn, at_, x.f⟩ :: gapsA sn l x.t else gapsA sn l x.t
theorem gapsA_end (sn len : Int) : ∀ (l : List Rg) (at_ : Int), gapsA sn (l ++ [⟨0, len, len⟩]) at_ = gapsS sn l at_ len
  | [], at_ => by simp [gapsA, gapsS]
  | x :: l, at_ => by
    simp only [List.cons_append, gapsA, gapsS, gapsA_end sn len l]
theorem gapsA_drop (sn : Int) (l : List Rg) (k : Nat) (at_ : Int) (h : k < l.length) : gapsA sn (l.drop k) at_ = if l[k].f > at_ then ⟨sn, at_, l[k].f⟩ :: gapsA sn (l.drop (k + 1)) l[k].t else gapsA sn (l.drop (k + 1)) l[k].t := by
  rw [List.drop_eq_getElem_cons h]; rfl
theorem gapsS_drop (sn len : Int) (l : List Rg) (k : Nat) (at_ : Int) (h : k < l.length) : gapsS sn (l.drop k) at_ len = if l[k].f > at_ then ⟨sn, at_, l[k].f⟩ :: gapsS sn (l.drop (k + 1)) l[k].t len else gapsS sn (l.drop (k + 1)) l[k].t len := by
  rw [List.drop_eq_getElem_cons h]; rfl
def sn_ (sn : Int) (y : Rg) : Rg := ⟨sn, y.f, y.t⟩
theorem unionS_drop (sn : Int) (l : List Rg) (k : Nat) (f t : Int) (h : k < l.length) : unionS sn (l.drop k) f t = if l[k].t < f then sn_ sn l[k] :: unionS sn (l.drop (k + 1)) f t else if l[k].f > t then ⟨sn, f, t⟩ :: (sn_ sn l[k] :: (l.drop (k + 1)).map (sn_ sn)) else unionS sn (l.drop (k + 1)) (if l[k].f < f then l[k].f else f) (if l[k].t > t then l[k].t else t) := by
  rw [List.drop_eq_getElem_cons h]; rfl
def unionR (l : List Rg) (r : Rg) : List Rg × Int := if normB (-1) l = false ∨ normB (-1) [r] = false then ([], 4) else (unionS r.sn l r.f r.t, 0)
/-- what a loop over the ranges keeps -/
def UnionI (sn : Int) (l : List Rg) (f0 t0 : Int) (k : Nat) (before behind : List Rg) (f t : Int) : Prop :=
  f < t ∧ before.length + behind.length ≤ k ∧ -1 ≤ prevT l k ∧ normB (prevT l k) (l.drop k) = true ∧
  ((behind = [] ∧ unionS sn l f0 t0 = before ++ unionS sn (l.drop k) f t) ∨ (unionS sn l f0 t0 = before ++ ⟨sn, f, t⟩ :: (behind ++ (l.drop k).map (sn_ sn)) ∧ t < prevT l k))
theorem UnionI.step {sn : Int} {l : List Rg} {f0 t0 : Int} {k : Nat} {before behind : List Rg} {f t : Int} (h : UnionI sn l f0 t0 k before behind f t) (hlt : k < l.length) :
    (l[k].t < f → UnionI sn l f0 t0 (k + 1) (before ++ [sn_ sn l[k]]) behind f t) ∧ (¬ l[k].t < f → l[k].f > t → UnionI sn l f0 t0 (k + 1) before (behind ++ [sn_ sn l[k]]) f t) ∧
    (¬ l[k].t < f → ¬ l[k].f > t → UnionI sn l f0 t0 (k + 1) before behind (if l[k].f < f then l[k].f else f) (if l[k].t > t then l[k].t else t)) := by
  obtain ⟨h1, h2, h3, h4, h5⟩ := h
  have hp := prevT_succ hlt
  rw [normB_drop _ _ _ hlt, Bool.and_eq_true, decide_eq_true_iff] at h4
  obtain ⟨⟨n1, n2⟩, n3⟩ := h4
  have hm : (l.drop k).map (sn_ sn) = sn_ sn l[k] :: (l.drop (k + 1)).map (sn_ sn) := by rw [List.drop_eq_getElem_cons hlt]; rfl
  rw [unionS_drop _ _ _ _ _ hlt, hm] at h5
  refine ⟨fun c => ⟨h1, by simp; omega, by omega, by rw [hp]; exact n3, ?_⟩, fun c d => ⟨h1, by simp; omega, by omega, by rw [hp]; exact n3, ?_⟩, fun c d => ⟨by split <;> split <;> omega, by omega, by omega, by rw [hp]; exact n3, ?_⟩⟩
  · rcases h5 with ⟨rfl, h5⟩ | ⟨h5, h6⟩
    · rw [if_pos c] at h5
      left; exact ⟨rfl, by rw [h5]; simp⟩
    · omega
  · right
    rw [hp]
    rcases h5 with ⟨rfl, h5⟩ | ⟨h5, h6⟩
    · rw [if_neg c, if_pos d] at h5
      exact ⟨by rw [h5]; simp, by omega⟩
    · exact ⟨by rw [h5]; simp, by omega⟩
  · rcases h5 with ⟨rfl, h5⟩ | ⟨h5, h6⟩
    · rw [if_neg c, if_neg d] at h5
      left; exact ⟨rfl, h5⟩
    · omega
theorem UnionI.done {sn : Int} {l : List Rg} {f0 t0 : Int} {before behind : List Rg} {f t : Int} (h : UnionI sn l f0 t0 l.length before behind f t) : unionS sn l f0 t0 = before ++ ⟨sn, f, t⟩ :: behind := by
  obtain ⟨h1, h2, h3, h4, h5⟩ := h
  rw [List.drop_length] at h5
  rcases h5 with ⟨rfl, h5⟩ | ⟨h5, h6⟩
  · rw [h5]; rfl
  · rw [h5]; simp
theorem UnionI.zero {sn : Int} {l : List Rg} {f0 t0 : Int} (h : f0 < t0) (hn : normB (-1) l = true) : UnionI sn l f0 t0 0 [] [] f0 t0 :=
  ⟨h, by simp, Int.le_refl _, by simpa [prevT] using hn, .inl ⟨rfl, by simp⟩⟩
def gapR (l : List Rg) (sn len : Int) : List Rg × Int :=
  if normB (-1) l = false then ([], 4) else if len < 0 ∨ (0 < l.length ∧ len < prevT l l.length) then ([], 3) else (gapsS sn l 0 len, 0)
end Go.Sx
namespace Go.Sx
theorem union_skip {sn : Int} {l : List Rg} {k : Nat} {f t : Int} (hlt : k < l.length) (h : l[k].t < f) : unionS sn (l.drop k) f t = sn_ sn l[k] :: unionS sn (l.drop (k + 1)) f t := by
  rw [unionS_drop _ _ _ _ _ hlt, if_pos h]
theorem union_take {sn : Int} {l : List Rg} {k : Nat} {f t : Int} (hlt : k < l.length) (h : ¬ l[k].t < f) (h2 : l[k].f ≤ t) : unionS sn (l.drop k) f t = unionS sn (l.drop (k + 1)) (if l[k].f < f then l[k].f else f) (if l[k].t > t then l[k].t else t) := by
  rw [unionS_drop _ _ _ _ _ hlt, if_neg h, if_neg (by omega)]
theorem union_stop {sn : Int} {l : List Rg} {k : Nat} {f t : Int} (h : ∀ hlt : k < l.length, ¬ l[k].t < f ∧ l[k].f > t) : unionS sn (l.drop k) f t = ⟨sn, f, t⟩ :: (l.drop k).map (sn_ sn) := by
  rcases Nat.lt_or_ge k l.length with hlt | hge
  · obtain ⟨h1, h2⟩ := h hlt
    rw [unionS_drop _ _ _ _ _ hlt, if_neg h1, if_pos h2, List.drop_eq_getElem_cons hlt]; rfl
  · rw [List.drop_eq_nil_of_le hge]; rfl
theorem norm_at {l : List Rg} (h : normB (-1) l = true) : ∀ k (hk : k < l.length), l[k].f < l[k].t ∧ ∀ hk2 : k + 1 < l.length, l[k].t < l[k + 1].f := by
  have key : ∀ (l : List Rg) (p : Int), normB p l = true → ∀ k (hk : k < l.length), l[k].f < l[k].t ∧ ∀ hk2 : k + 1 < l.length, l[k].t < l[k + 1].f := by
    intro l
    induction l with
    | nil => intro p _ k hk; simp at hk
    | cons x l ih =>
      intro p hn k hk
      simp only [normB, Bool.and_eq_true, decide_eq_true_iff] at hn
      cases k with
      | zero =>
        refine ⟨hn.1.2, fun hk2 => ?_⟩
        cases l with
        | nil => simp at hk2
        | cons y l =>
          have := hn.2
          simp only [normB, Bool.and_eq_true, decide_eq_true_iff] at this
          exact this.1.1
      | succ k =>
        have := ih _ hn.2 k (by simpa using hk)
        exact ⟨this.1, fun hk2 => this.2 (by simpa using hk2)⟩
  exact key l _ h
end Go.Sx
namespace Go.Sx
def lastT (p : Int) : List Rg → Int
  | [] => p
  | x :: l => lastT x.t l
theorem lastT_snoc (x : Rg) : ∀ (l : List Rg) (p : Int), lastT p (l ++ [x]) = x.t
  | [], _ => rfl
  | y :: l, _ => lastT_snoc x l y.t
theorem normB_snoc (x : Rg) : ∀ (l : List Rg) (p : Int), normB p l = true → lastT p l < x.f → x.f < x.t → normB p (l ++ [x]) = true
  | [], p, _, h, h2 => by simp only [lastT] at h; simp [normB, h, h2]
  | y :: l, p, hn, h, h2 => by
    simp only [normB, List.cons_append, Bool.and_eq_true] at hn ⊢
    exact ⟨hn.1, normB_snoc x l y.t hn.2 h h2⟩
end Go.Sx
