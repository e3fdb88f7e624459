import Derived.Test.YtgmniohbnophdaaP38
/- LAYER 38 (access), plain: what AccessOnce asks. -/
namespace Go.P38
def ids (l : List At) : List Int := l.map (·.id)
def FldP (a : Ac) (x : At) : Prop := 0 ≤ x.id ∧ x.id < 65536 ∧ 0 ≤ x.tries ∧ x.tries < a.tries ∧ x.pre = preR x.id x.tries a.pre ∧ 0 ≤ x.at_ ∧ x.at_ ≤ 2097152
structure Val (a : Ac) : Prop where
  bad : ¬ BadR a
  len : a.l.length ≤ 16
  fld : ∀ x ∈ a.l, FldP a x
  dif : ∀ z, (ids a.l).count z ≤ 1
  asc : WAsc a.l
theorem bef_total {a b : At} (h : bef b a = false) (hd : a.id ≠ b.id) : bef a b = true := by
  unfold bef at *
  simp only [Bool.or_eq_true, Bool.and_eq_true, decide_eq_true_eq, Bool.or_eq_false_iff, Bool.and_eq_false_iff, decide_eq_false_iff_not] at *
  omega
theorem ids_ne {l : List At} (h : ∀ z, (ids l).count z ≤ 1) {i j : Nat} (hi : i < l.length) (hj : j < l.length) (hij : i < j) : l[i].id ≠ l[j].id := by
  have hn : (ids l).Nodup := List.nodup_iff_count.2 h
  have := List.pairwise_iff_getElem.1 hn i j (by simpa [ids] using hi) (by simpa [ids] using hj) hij
  simpa [ids] using this
theorem Val.check {a : Ac} (h : Val a) : checkR a = 0 := by
  have hlen := h.len
  rw [checkR, if_neg h.bad, if_neg (by omega), if_pos]
  have key : ∀ (j : Nat) (hj : j < a.l.length), GoodAt a j a.l[j] := fun j hj => by
    obtain ⟨f1, f2, f3, f4, f5, f6, f7⟩ := h.fld a.l[j] (List.getElem_mem hj)
    refine ⟨f1, f2, f3, f4, f5, f6, f7, ?_, ?_⟩
    · rw [Bool.eq_false_iff]
      intro hh
      obtain ⟨x, hx, he⟩ := hasR_iff.1 hh
      obtain ⟨i, hi, rfl⟩ := List.mem_take_iff_getElem.1 hx
      exact ids_ne h.dif (by omega) hj (by omega) he
    · rcases Nat.eq_zero_or_pos j with h0 | h0
      · exact .inl h0
      · refine .inr ?_
        have h1 : j - 1 < a.l.length := by omega
        rw [List.getElem?_eq_getElem h1, Option.map_some, bef_total (h.asc (j - 1) j h1 hj (by omega)) (ids_ne h.dif h1 hj (by omega))]
  exact fun j => key j.1 j.2
theorem putR_mem {l : List At} {x y : At} (h : y ∈ putR l x) : y = x ∨ y ∈ l := by
  unfold putR at h
  rcases List.mem_append.1 h with h | h
  · exact .inr ((List.takeWhile_sublist _).subset h)
  · rcases List.mem_cons.1 h with h | h
    · exact .inl h
    · exact .inr ((List.dropWhile_sublist _).subset h)
theorem putR_count {l : List At} {x : At} {z : Int} : (ids (putR l x)).count z = (ids l).count z + if x.id = z then 1 else 0 := by
  have h : l.takeWhile (fun y => bef y x) ++ l.dropWhile (fun y => bef y x) = l := List.takeWhile_append_dropWhile
  have e : (ids l).count z = (ids (l.takeWhile fun y => bef y x)).count z + (ids (l.dropWhile fun y => bef y x)).count z := by
    rw [← List.count_append]
    unfold ids
    rw [← List.map_append, h]
  rw [e]
  unfold putR ids
  rw [List.map_append, List.map_cons, List.count_append, List.count_cons]
  by_cases hz : x.id = z
  · simp [hz]; omega
  · simp [hz]
theorem count_has {l : List At} {z : Int} : hasR l z = true ↔ 0 < (ids l).count z := by
  rw [hasR_iff, List.count_pos_iff]
  simp [ids]
theorem Val.put {a : Ac} (h : Val a) {x : At} (hx : FldP a x) (hno : (ids a.l).count x.id = 0) (hl : a.l.length < 16) : Val { a with l := putR a.l x } := by
  refine ⟨h.bad, by show (putR a.l x).length ≤ 16; rw [putR_len]; omega, fun y hy => ?_, fun z => ?_, h.asc.put x⟩
  · rcases putR_mem hy with rfl | hy
    · exact hx
    · exact h.fld y hy
  · show (ids (putR a.l x)).count z ≤ 1
    rw [putR_count]
    have := h.dif z
    split
    · rename_i e; subst e; omega
    · omega
theorem begin_once {a : Ac} (h : Val a) {id : Int} (hid : 0 ≤ id ∧ id < 65536) (hl : a.l.length < 16) :
    (hasR a.l id = true ∧ beginR a id 0 = (a, 12)) ∨ (hasR a.l id = false ∧ beginR a id 0 = ({ a with l := putR a.l ⟨id, preR id 0 a.pre, 0, 0⟩ }, 0) ∧ Val { a with l := putR a.l ⟨id, preR id 0 a.pre, 0, 0⟩ }) := by
  have hb := h.bad
  unfold BadR at hb
  cases hh : hasR a.l id
  · refine .inr ⟨rfl, ?_, h.put ⟨hid.1, hid.2, Int.le_refl 0, by show (0 : Int) < a.tries; omega, rfl, Int.le_refl 0, by show (0 : Int) ≤ 2097152; decide⟩ ?_ hl⟩
    · rw [beginR, if_neg (by simp [h.check]), if_neg (by omega), if_neg (by simp [hh]), if_neg (by omega)]
    · rw [Bool.eq_false_iff] at hh
      have : ¬ 0 < (ids a.l).count id := fun h' => hh (count_has.2 h')
      show (ids a.l).count id = 0
      omega
  · refine .inl ⟨rfl, ?_⟩
    rw [beginR, if_neg (by simp [h.check]), if_neg (by omega), if_pos hh]
theorem now_le {l : List At} {t : Int} {x : At} (hx : x ∈ nowL l t) : x.at_ ≤ t := by
  have := List.all_eq_true.1 (List.all_takeWhile (p := fun x : At => decide (x.at_ ≤ t)) (l := l)) x hx
  simpa using this
theorem bef_at {a b : At} (h : bef b a = false) : a.at_ ≤ b.at_ := by
  unfold bef at h
  simp only [Bool.or_eq_false_iff, Bool.and_eq_false_iff, decide_eq_false_iff_not] at h
  omega
theorem rest_gt {l : List At} (h : WAsc l) {t : Int} {x : At} (hx : x ∈ restL l t) : t < x.at_ := by
  rw [wasc_pair, ← now_rest l t, List.pairwise_append] at h
  cases hr : restL l t with
  | nil => rw [hr] at hx; cases hx
  | cons z zs =>
    have hz : t < z.at_ := by
      have := List.head?_dropWhile_not (fun x : At => decide (x.at_ ≤ t)) l
      unfold restL at hr
      rw [hr] at this
      simp at this
      omega
    have h2 := h.2.1
    rw [hr] at hx h2
    rcases List.mem_cons.1 hx with rfl | hx
    · exact hz
    · have := bef_at ((List.pairwise_cons.1 h2).1 x hx)
      omega
theorem mem_now {l : List At} {t : Int} {x : At} (hx : x ∈ nowL l t) : x ∈ l := by rw [← now_rest l t]; exact List.mem_append_left _ hx
theorem mem_rest {l : List At} {t : Int} {x : At} (hx : x ∈ restL l t) : x ∈ l := by rw [← now_rest l t]; exact List.mem_append_right _ hx
/-- what the ticks' loop keeps -/
theorem fold_once {a : Ac} (h : Val a) {t : Int} (hb : a.back ≤ 19) (ht : 0 ≤ t ∧ t ≤ 1000) (hT : ∀ x ∈ a.l, t ≤ x.at_ ∧ x.at_ ≤ 20 * x.tries) : ∀ k, k ≤ (nowL a.l t).length →
    (∀ x ∈ (foldR a t k).1, FldP a x ∧ t + 1 ≤ x.at_ ∧ x.at_ ≤ 20 * x.tries) ∧ (∀ z, (ids (foldR a t k).1).count z + (foldR a t k).2.1.count z + (foldR a t k).2.2.count z + (ids ((nowL a.l t).drop k)).count z = (ids a.l).count z) ∧
    (foldR a t k).2.1.length + (foldR a t k).2.2.length ≤ k
  | 0, _ => by
    have e : foldR a t 0 = (restL a.l t, [], []) := rfl
    rw [e]
    refine ⟨fun x hx => ⟨h.fld x (mem_rest hx), ?_, (hT x (mem_rest hx)).2⟩, fun z => ?_, by simp⟩
    · have := rest_gt h.asc hx; omega
    · simp only [List.count_nil, List.drop_zero, Nat.add_zero]
      conv => rhs; rw [← now_rest a.l t]
      unfold ids
      rw [List.map_append, List.count_append]; omega
  | k + 1, hk => by
    obtain ⟨i1, i2, i3⟩ := fold_once h hb ht hT k (by omega)
    have hlt : k < (nowL a.l t).length := by omega
    have hd : (nowL a.l t).drop k = (nowL a.l t)[k] :: (nowL a.l t).drop (k + 1) := List.drop_eq_getElem_cons hlt
    have hym : (nowL a.l t)[k] ∈ nowL a.l t := List.getElem_mem hlt
    rw [foldR_succ hlt]
    generalize (nowL a.l t)[k] = y at hd hym
    have hf := h.fld y (mem_now hym)
    have hyT := hT y (mem_now hym)
    have hyt := now_le hym
    have hc : ∀ z, (ids ((nowL a.l t).drop k)).count z = (ids ((nowL a.l t).drop (k + 1))).count z + if y.id = z then 1 else 0 := fun z => by
      rw [hd]
      unfold ids
      rw [List.map_cons, List.count_cons]
      by_cases hz : y.id = z
      · simp [hz]
      · simp [hz]
    have hone : ∀ (g : List Int) (z : Int), (g ++ [y.id]).count z = g.count z + if y.id = z then 1 else 0 := fun g z => by
      rw [List.count_append]
      by_cases hz : y.id = z
      · simp [hz]
      · simp [hz]
    unfold stepR
    split
    · refine ⟨i1, fun z => ?_, ?_⟩
      · have := i2 z; rw [hc] at this; dsimp only; rw [hone]; omega
      · simp only [List.length_append, List.length_singleton]; omega
    · split
      · refine ⟨i1, fun z => ?_, ?_⟩
        · have := i2 z; rw [hc] at this; dsimp only; rw [hone]; omega
        · simp only [List.length_append, List.length_singleton]; omega
      · rename_i hne
        have hbad := h.bad
        unfold BadR at hbad
        have hm0 : 0 ≤ (17 * y.id + 5 * (y.tries + 1)) % (a.back + 1) := Int.emod_nonneg _ (by omega)
        have hm1 : (17 * y.id + 5 * (y.tries + 1)) % (a.back + 1) < a.back + 1 := Int.emod_lt_of_pos _ (by omega)
        obtain ⟨f1, f2, f3, f4, f5, f6, f7⟩ := hf
        refine ⟨fun x hx => ?_, fun z => ?_, by dsimp only; omega⟩
        · rcases putR_mem hx with rfl | hx
          · have e1 : (movedR a t y).at_ = t + 1 + (17 * y.id + 5 * (y.tries + 1)) % (a.back + 1) := rfl
            have e2 : (movedR a t y).tries = y.tries + 1 := rfl
            refine ⟨⟨f1, f2, by rw [e2]; omega, by rw [e2]; omega, rfl, by rw [e1]; omega, by rw [e1]; omega⟩, by rw [e1]; omega, by rw [e1, e2]; omega⟩
          · exact i1 x hx
        · have := i2 z; rw [hc] at this; dsimp only; rw [putR_count]
          have e : (movedR a t y).id = y.id := rfl
          rw [e]; omega
theorem tick_once {a : Ac} (h : Val a) {t : Int} (hb : a.back ≤ 19) (ht : 0 ≤ t ∧ t ≤ 1000) (hT : ∀ x ∈ a.l, t ≤ x.at_ ∧ x.at_ ≤ 20 * x.tries) :
    ∃ (l : List At) (g d : List Int), tickR a t = ({ a with l := l }, g, d, 0) ∧ Val { a with l := l } ∧ (∀ x ∈ l, t + 1 ≤ x.at_ ∧ x.at_ ≤ 20 * x.tries) ∧ (∀ z, (ids l).count z + g.count z + d.count z = (ids a.l).count z) ∧
      g.length + d.length ≤ a.l.countP (fun x => decide (x.at_ ≤ t)) ∧ (a.l.countP (fun x => decide (x.at_ ≤ t)) = 1 → g.length = 1) := by
  obtain ⟨i1, i2, i3⟩ := fold_once h hb ht hT _ (Nat.le_refl _)
  have hfl := foldR_len (a := a) (tick := t) (k := (nowL a.l t).length) (Nat.le_refl _)
  have hnl := now_len a.l t
  have hlen := h.len
  have hcnt : a.l.countP (fun x => decide (x.at_ ≤ t)) = (nowL a.l t).length := by
    conv => lhs; rw [← now_rest a.l t]
    rw [List.countP_append, List.countP_eq_length.2 (fun x hx => by simpa using now_le hx), List.countP_eq_zero.2 (fun x hx => by have := rest_gt h.asc hx; simp; omega)]
    rfl
  refine ⟨(foldR a t (nowL a.l t).length).1, (foldR a t (nowL a.l t).length).2.1, (foldR a t (nowL a.l t).length).2.2, ?_, ⟨h.bad, ?_, fun x hx => (i1 x hx).1, fun z => ?_, foldR_asc h.asc (Nat.le_refl _)⟩, fun x hx => (i1 x hx).2, fun z => ?_, ?_, fun h1 => ?_⟩
  · rw [tickR, if_neg (by simp [h.check]), if_neg (by omega)]
  · show (foldR a t (nowL a.l t).length).1.length ≤ 16
    omega
  · have h1 := i2 z; have h2 := h.dif z
    show (ids (foldR a t (nowL a.l t).length).1).count z ≤ 1
    omega
  · have h1 := i2 z
    rw [List.drop_length] at h1
    simp only [ids, List.map_nil, List.count_nil] at h1 ⊢
    omega
  · rw [hcnt]; exact i3
  · rw [hcnt] at h1
    rw [h1]
    have h0 : 0 < (nowL a.l t).length := by omega
    rw [foldR_succ (k := 0) h0]
    have hp : (nowL a.l t).countP (fun y => decide (y.pre = (nowL a.l t)[0].pre)) = 1 := (alone_iff h0).1 fun j hj hj0 => by omega
    unfold stepR
    rw [if_pos hp]
    simp [foldR]
end Go.P38
