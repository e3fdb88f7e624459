/- LAYER 38 (access), plain. -/
namespace Go.P38
structure At where
  id : Int
  pre : Int
  at_ : Int
  tries : Int
deriving DecidableEq
structure Ac where
  pre : Int
  tries : Int
  back : Int
  l : List At
deriving DecidableEq
def bef (a b : At) : Bool := decide (a.at_ < b.at_) || (decide (a.at_ = b.at_) && decide (a.id < b.id))
def cmpI (x y : Int) : Int := if x < y then -1 else if x > y then 1 else 0
def ordR (a b : At) : Int := if cmpI a.at_ b.at_ ≠ 0 then cmpI a.at_ b.at_ else cmpI a.id b.id
theorem ord_lt (a b : At) : ordR a b < 0 ↔ bef a b = true := by
  unfold ordR cmpI bef
  simp only [Bool.or_eq_true, Bool.and_eq_true, decide_eq_true_eq]
  repeat' split
  all_goals (try omega)
def knownR (id : Int) : Bool := decide (0 ≤ id) && decide (id < 65536)
def preR (id tr p : Int) : Int :=
  if p < 1 ∨ p > 64 ∨ id < 0 ∨ id ≥ 65536 ∨ tr < 0 ∨ tr > 32 then 0 else (id + 31 * tr + tr * (Int.tdiv id p)).tmod p
def hasR (l : List At) (id : Int) : Bool := l.any fun x => decide (x.id = id)
def GoodAt (a : Ac) (i : Nat) (x : At) : Prop :=
  0 ≤ x.id ∧ x.id < 65536 ∧ 0 ≤ x.tries ∧ x.tries < a.tries ∧ x.pre = preR x.id x.tries a.pre ∧ 0 ≤ x.at_ ∧ x.at_ ≤ 2097152 ∧ hasR (a.l.take i) x.id = false ∧ (i = 0 ∨ (a.l[i - 1]?.map fun y => bef y x) = some true)
instance (a : Ac) (i : Nat) (x : At) : Decidable (GoodAt a i x) := by unfold GoodAt; infer_instance
def BadR (a : Ac) : Prop := a.pre < 1 ∨ a.pre > 64 ∨ a.tries < 1 ∨ a.tries > 32 ∨ a.back < 0 ∨ a.back > 1000
instance (a : Ac) : Decidable (BadR a) := by unfold BadR; infer_instance
def GoodL (a : Ac) : Prop := ∀ i : Fin a.l.length, GoodAt a i.1 a.l[i.1]
instance (a : Ac) : Decidable (GoodL a) := by unfold GoodL; infer_instance
def checkR (a : Ac) : Int := if BadR a then 3 else if a.l.length > 16 then 2 else if GoodL a then 0 else 1
/-- where an attempt goes in -/
def putR (l : List At) (x : At) : List At := l.takeWhile (fun y => bef y x) ++ x :: l.dropWhile (fun y => bef y x)
/-- the first k are before x, the others are not -/
theorem putR_at {l : List At} {x : At} {k : Nat} (hk : k ≤ l.length) (h1 : ∀ j (hj : j < l.length), j < k → bef l[j] x = true) (h2 : ∀ hk : k < l.length, bef l[k] x = false) : putR l x = l.take k ++ x :: l.drop k := by
  have aux : ∀ (l : List At) (k : Nat), k ≤ l.length → (∀ j (hj : j < l.length), j < k → bef l[j] x = true) → (∀ hk : k < l.length, bef l[k] x = false) → l.takeWhile (fun y => bef y x) = l.take k ∧ l.dropWhile (fun y => bef y x) = l.drop k := by
    intro l
    induction l with
    | nil => intro k hk _ _; simp
    | cons y ys ih =>
      intro k hk h1 h2
      cases k with
      | zero =>
        have := h2 (by simp)
        simp only [List.getElem_cons_zero] at this
        simp [List.takeWhile, List.dropWhile, this]
      | succ k =>
        have h0 := h1 0 (by simp) (by omega)
        simp only [List.getElem_cons_zero] at h0
        have := ih k (by simpa using hk) (fun j hj hjk => by have := h1 (j + 1) (by simpa using hj) (by omega); simpa using this) (fun hk' => by have := h2 (by simpa using hk'); simpa using this)
        simp [List.takeWhile, List.dropWhile, h0, this]
  obtain ⟨e1, e2⟩ := aux l k hk h1 h2
  rw [putR, e1, e2]
theorem putR_len (l : List At) (x : At) : (putR l x).length = l.length + 1 := by
  unfold putR
  have := congrArg List.length (List.takeWhile_append_dropWhile (p := fun y => bef y x) (l := l))
  simp only [List.length_append] at this
  simp; omega
def beginR (a : Ac) (id tick : Int) : Ac × Int :=
  if checkR a ≠ 0 then (a, checkR a)
  else if id < 0 ∨ id ≥ 65536 ∨ tick < 0 ∨ tick > 1048576 then (a, 3)
  else if hasR a.l id then (a, 12)
  else if a.l.length = 16 then (a, 13)
  else ({ a with l := putR a.l ⟨id, preR id 0 a.pre, tick, 0⟩ }, 0)
def stopR (a : Ac) (id : Int) : Ac × Bool :=
  if checkR a ≠ 0 then (a, false) else if hasR a.l id then ({ a with l := a.l.filter fun x => !decide (x.id = id) }, true) else (a, false)
theorem hasR_iff {l : List At} {id : Int} : hasR l id = true ↔ ∃ x ∈ l, x.id = id := by simp [hasR]
theorem bef_trans {a b c : At} (h1 : bef a b = true) (h2 : bef b c = true) : bef a c = true := by
  unfold bef at *
  simp only [Bool.or_eq_true, Bool.and_eq_true, decide_eq_true_eq] at *
  omega
theorem bef_irr (a : At) : bef a a = false := by simp [bef]
/-- ascending -/
def Asc (l : List At) : Prop := ∀ i j (hi : i < l.length) (hj : j < l.length), i < j → bef l[i] l[j] = true
theorem GoodL.asc {a : Ac} (h : GoodL a) : Asc a.l := by
  have step : ∀ i (hi : i + 1 < a.l.length), bef a.l[i] a.l[i + 1] = true := fun i hi => by
    have := (h ⟨i + 1, hi⟩).2.2.2.2.2.2.2.2
    rcases this with h | h
    · simp at h
    · simp only [Nat.add_sub_cancel] at h
      rw [List.getElem?_eq_getElem (by omega)] at h
      simpa using h
  intro i j hi hj hij
  obtain ⟨d, rfl⟩ : ∃ d, j = i + 1 + d := ⟨j - (i + 1), by omega⟩
  induction d with
  | zero => exact step i hj
  | succ d ih => exact bef_trans (ih (by omega) (by omega)) (step (i + 1 + d) hj)
theorem Asc.mono {l : List At} (h : Asc l) (x : At) : ∀ i j (hi : i < l.length) (hj : j < l.length), i ≤ j → bef l[j] x = true → bef l[i] x = true := fun i j hi hj hij hb => by
  rcases Nat.lt_or_ge i j with h' | h'
  · exact bef_trans (h i j hi hj h') hb
  · obtain rfl : i = j := by omega
    exact hb
theorem checkR_ok {a : Ac} (h : checkR a = 0) : ¬ BadR a ∧ a.l.length ≤ 16 ∧ GoodL a := by
  unfold checkR at h
  split at h
  · omega
  split at h
  · omega
  split at h
  · rename_i h1 h2 h3; exact ⟨h1, by omega, h3⟩
  · omega
/-- the identities are different -/
theorem GoodL.dif {a : Ac} (h : GoodL a) : ∀ i j (hi : i < a.l.length) (hj : j < a.l.length), i < j → a.l[i].id ≠ a.l[j].id := fun i j hi hj hij he => by
  have h1 := (h ⟨j, hj⟩).2.2.2.2.2.2.2.1
  rw [Bool.eq_false_iff] at h1
  refine h1 (hasR_iff.2 ⟨a.l[i], ?_, he⟩)
  exact List.mem_take_iff_getElem.2 ⟨i, by simp; omega, rfl⟩
/-- all but the k-th -/
theorem filter_at {id : Int} : ∀ {l : List At} {k : Nat} (hk : k < l.length), l[k].id = id → (∀ j (hj : j < l.length), j ≠ k → l[j].id ≠ id) → l.filter (fun x => !decide (x.id = id)) = l.take k ++ l.drop (k + 1)
  | x :: xs, 0, _, h, hn => by
    have h : x.id = id := h
    have e : xs.filter (fun x => !decide (x.id = id)) = xs := by
      rw [List.filter_eq_self]
      intro y hy
      obtain ⟨j, hj, rfl⟩ := List.getElem_of_mem hy
      have := hn (j + 1) (by simpa using hj) (by omega)
      simpa using this
    simp [h, e]
  | x :: xs, k + 1, hk, h, hn => by
    have h0 : x.id ≠ id := hn 0 (by simp) (by omega)
    have ih := filter_at (id := id) (l := xs) (k := k) (by simpa using hk) h fun j hj hjk => hn (j + 1) (by simpa using hj) (by omega)
    simp [h0, ih]
/-! ## Tick -/
theorem while_at {α : Type} {p : α → Bool} : ∀ {l : List α} {k : Nat}, k ≤ l.length → (∀ j (hj : j < l.length), j < k → p l[j] = true) → (∀ hk : k < l.length, p l[k] = false) → l.takeWhile p = l.take k ∧ l.dropWhile p = l.drop k
  | [], k, hk, _, _ => by simp
  | y :: ys, 0, hk, h1, h2 => by
    have := h2 (by simp)
    simp only [List.getElem_cons_zero] at this
    simp [List.takeWhile, List.dropWhile, this]
  | y :: ys, k + 1, hk, h1, h2 => by
    have h0 := h1 0 (by simp) (by omega)
    simp only [List.getElem_cons_zero] at h0
    have := while_at (l := ys) (k := k) (by simpa using hk) (fun j hj hjk => by have := h1 (j + 1) (by simpa using hj) (by omega); simpa using this) (fun hk' => by have := h2 (by simpa using hk'); simpa using this)
    simp [List.takeWhile, List.dropWhile, h0, this]
def nowL (l : List At) (t : Int) : List At := l.takeWhile fun x => decide (x.at_ ≤ t)
def restL (l : List At) (t : Int) : List At := l.dropWhile fun x => decide (x.at_ ≤ t)
theorem now_rest (l : List At) (t : Int) : nowL l t ++ restL l t = l := List.takeWhile_append_dropWhile
theorem now_take (l : List At) (t : Int) : l.take (nowL l t).length = nowL l t := by
  have h := now_rest l t
  exact (congrArg (List.take (nowL l t).length) h.symm).trans List.take_left
theorem rest_drop (l : List At) (t : Int) : l.drop (nowL l t).length = restL l t := by
  have h := now_rest l t
  exact (congrArg (List.drop (nowL l t).length) h.symm).trans List.drop_left
theorem now_len (l : List At) (t : Int) : (nowL l t).length + (restL l t).length = l.length := by
  rw [← List.length_append, now_rest]
def movedR (a : Ac) (tick : Int) (x : At) : At := ⟨x.id, preR x.id (x.tries + 1) a.pre, tick + 1 + (17 * x.id + 5 * (x.tries + 1)) % (a.back + 1), x.tries + 1⟩
def stepR (a : Ac) (tick : Int) (now : List At) (s : List At × List Int × List Int) (x : At) : List At × List Int × List Int :=
  if now.countP (fun y => decide (y.pre = x.pre)) = 1 then (s.1, s.2.1 ++ [x.id], s.2.2)
  else if x.tries + 1 = a.tries then (s.1, s.2.1, s.2.2 ++ [x.id])
  else (putR s.1 (movedR a tick x), s.2.1, s.2.2)
def foldR (a : Ac) (tick : Int) (k : Nat) : List At × List Int × List Int := ((nowL a.l tick).take k).foldl (stepR a tick (nowL a.l tick)) (restL a.l tick, [], [])
def tickR (a : Ac) (tick : Int) : Ac × List Int × List Int × Int :=
  if checkR a ≠ 0 then (a, [], [], checkR a)
  else if tick < 0 ∨ tick > 1048576 then (a, [], [], 3)
  else ({ a with l := (foldR a tick (nowL a.l tick).length).1 }, (foldR a tick (nowL a.l tick).length).2.1, (foldR a tick (nowL a.l tick).length).2.2, 0)
theorem foldR_succ {a : Ac} {tick : Int} {k : Nat} (hk : k < (nowL a.l tick).length) : foldR a tick (k + 1) = stepR a tick (nowL a.l tick) (foldR a tick k) (nowL a.l tick)[k] := by
  unfold foldR
  rw [List.take_add_one, List.getElem?_eq_getElem hk, List.foldl_append]
  rfl
theorem foldR_len {a : Ac} {tick : Int} : ∀ {k : Nat}, k ≤ (nowL a.l tick).length → (foldR a tick k).1.length ≤ (restL a.l tick).length + k ∧ (foldR a tick k).2.1.length ≤ k ∧ (foldR a tick k).2.2.length ≤ k
  | 0, _ => by simp [foldR]
  | k + 1, hk => by
    have ih := foldR_len (a := a) (tick := tick) (k := k) (by omega)
    rw [foldR_succ (a := a) (tick := tick) (k := k) (by omega)]
    obtain ⟨i1, i2, i3⟩ := ih
    unfold stepR
    repeat' split
    all_goals (refine ⟨?_, ?_, ?_⟩ <;> dsimp only <;> (try rw [List.length_append]) <;> (try rw [putR_len]) <;> (try rw [List.length_singleton]) <;> omega)
/-- not descending -/
def WAsc (l : List At) : Prop := ∀ i j (hi : i < l.length) (hj : j < l.length), i < j → bef l[j] l[i] = false
theorem bef_w {a b x : At} (h : bef b a = false) (hb : bef b x = true) : bef a x = true := by
  unfold bef at *
  simp only [Bool.or_eq_true, Bool.and_eq_true, decide_eq_true_eq, Bool.or_eq_false_iff, Bool.and_eq_false_iff, decide_eq_false_iff_not] at *
  omega
theorem WAsc.mono {l : List At} (h : WAsc l) (x : At) : ∀ i j (hi : i < l.length) (hj : j < l.length), i ≤ j → bef l[j] x = true → bef l[i] x = true := fun i j hi hj hij hb => by
  rcases Nat.lt_or_ge i j with h' | h'
  · exact bef_w (h i j hi hj h') hb
  · obtain rfl : i = j := by omega
    exact hb
theorem bef_as {a b : At} (h : bef a b = true) : bef b a = false := by
  unfold bef at *
  simp only [Bool.or_eq_true, Bool.and_eq_true, decide_eq_true_eq, Bool.or_eq_false_iff, Bool.and_eq_false_iff, decide_eq_false_iff_not] at *
  omega
theorem Asc.weak {l : List At} (h : Asc l) : WAsc l := fun i j hi hj hij => bef_as (h i j hi hj hij)
theorem wasc_pair {l : List At} : WAsc l ↔ l.Pairwise fun x y => bef y x = false := by
  rw [List.pairwise_iff_getElem]
  exact ⟨fun h i j hi hj hij => h i j hi hj hij, fun h i j hi hj hij => h i j hi hj hij⟩
theorem WAsc.put {l : List At} (h : WAsc l) (x : At) : WAsc (putR l x) := by
  have hm := h.mono x
  rw [wasc_pair] at h ⊢
  have hsplit : l.takeWhile (fun y => bef y x) ++ l.dropWhile (fun y => bef y x) = l := List.takeWhile_append_dropWhile
  have h' := h
  rw [← hsplit, List.pairwise_append] at h'
  obtain ⟨h1, h2, h3⟩ := h'
  unfold putR
  rw [List.pairwise_append, List.pairwise_cons]
  have ht : ∀ y ∈ l.takeWhile (fun y => bef y x), bef y x = true := fun y hy => by
    have := List.all_takeWhile (p := fun y => bef y x) (l := l)
    exact List.all_eq_true.1 this y hy
  have hd : ∀ y ∈ l.dropWhile (fun y => bef y x), bef y x = false := fun y hy => by
    cases hdw : l.dropWhile (fun y => bef y x) with
    | nil => rw [hdw] at hy; cases hy
    | cons z zs =>
      have hz : bef z x = false := by
        have := List.head?_dropWhile_not (fun y => bef y x) l
        rw [hdw] at this
        simpa using this
      rw [hdw] at hy h2
      rcases List.mem_cons.1 hy with rfl | hy
      · exact hz
      · rw [Bool.eq_false_iff]
        intro hyx
        have := bef_w ((List.pairwise_cons.1 h2).1 y hy) hyx
        rw [hz] at this; cases this
  refine ⟨h1, ⟨fun y hy => hd y hy, h2⟩, fun y hy z hz => ?_⟩
  rcases List.mem_cons.1 hz with rfl | hz
  · exact bef_as (ht y hy)
  · exact h3 y hy z hz
theorem foldR_asc {a : Ac} {tick : Int} (h : WAsc a.l) : ∀ {k : Nat}, k ≤ (nowL a.l tick).length → WAsc (foldR a tick k).1
  | 0, _ => by
    have e : (foldR a tick 0).1 = restL a.l tick := rfl
    rw [e, wasc_pair]
    rw [wasc_pair, ← now_rest a.l tick, List.pairwise_append] at h
    exact h.2.1
  | k + 1, hk => by
    have ih := foldR_asc (tick := tick) h (k := k) (by omega)
    rw [foldR_succ (a := a) (tick := tick) (k := k) (by omega)]
    unfold stepR
    repeat' split
    · exact ih
    · exact ih
    · exact ih.put _
theorem count_split {p : At → Bool} {l : List At} {i : Nat} (hi : i < l.length) : l.countP p = (l.take i).countP p + ((l.drop (i + 1)).countP p + if p l[i] then 1 else 0) := by
  have h : (l.take i ++ l.drop i).countP p = l.countP p := by rw [List.take_append_drop]
  rw [← h, List.countP_append, List.drop_eq_getElem_cons hi, List.countP_cons]
/-- alone: one of its preamble -/
theorem alone_iff {l : List At} {i : Nat} (hi : i < l.length) : (∀ j (hj : j < l.length), j ≠ i → l[j].pre ≠ l[i].pre) ↔ l.countP (fun y => decide (y.pre = l[i].pre)) = 1 := by
  have e := count_split (p := fun y => decide (y.pre = l[i].pre)) hi
  simp only [decide_true, if_true] at e
  rw [e]
  constructor
  · intro h
    have h1 : (l.take i).countP (fun y => decide (y.pre = l[i].pre)) = 0 := by
      rw [List.countP_eq_zero]
      intro y hy
      obtain ⟨j, hj, rfl⟩ := List.mem_take_iff_getElem.1 hy
      have := h j (by omega) (by omega)
      simpa using this
    have h2 : (l.drop (i + 1)).countP (fun y => decide (y.pre = l[i].pre)) = 0 := by
      rw [List.countP_eq_zero]
      intro y hy
      obtain ⟨j, hj, rfl⟩ := List.mem_drop_iff_getElem.1 hy
      have := h (i + 1 + j) (by omega) (by omega)
      simpa using this
    omega
  · intro h j hj hji he
    have h1 : (l.take i).countP (fun y => decide (y.pre = l[i].pre)) = 0 := by omega
    have h2 : (l.drop (i + 1)).countP (fun y => decide (y.pre = l[i].pre)) = 0 := by omega
    rw [List.countP_eq_zero] at h1 h2
    rcases Nat.lt_or_ge j i with h' | h'
    · exact h1 l[j] (List.mem_take_iff_getElem.2 ⟨j, by omega, rfl⟩) (by simpa using he)
    · refine h2 l[j] (List.mem_drop_iff_getElem.2 ⟨j - (i + 1), by omega, ?_⟩) (by simpa using he)
      congr 1; omega
end Go.P38
