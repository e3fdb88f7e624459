import Derived.Test.YtjmjdjpbgjjhmaaP24
/- Chapter 24, plain: what is read back. -/
namespace Go.Sx
deriving instance DecidableEq for Sec
theorem parseS_pad (k : Nat) (hk : k ≤ 256) : parseS (padS k) = some [] := by
  rw [parseS, if_pos]
  unfold padS headS
  split
  · left; simp
  · split
    · left; simp
    · right
      simp only [List.cons_append, List.getD_cons_zero]; omega
theorem parseS_body (k : Nat) : ∀ (l : List Sec), (∀ s ∈ l, secE s.ch s.data.length = 0) → usedS l + k ≤ 256 → parseS (bodyS l ++ padS k) = some l
  | [], _, h => by simpa [bodyS] using parseS_pad k (by simpa [usedS] using h)
  | s :: l, hs, h => by
    have h1 := secE_ok (hs s (by simp))
    simp only [usedS] at h
    have ih := parseS_body k l (fun t ht => hs t (by simp [ht])) (by omega)
    have e : bodyS (s :: l) ++ padS k = (16 * s.ch + (s.data.length : Int) / 256) :: ((s.data.length : Int) % 256) :: (s.data ++ (bodyS l ++ padS k)) := by
      simp [bodyS, headS]
    rw [e, parseS]
    have hn : ((16 * s.ch + (s.data.length : Int) / 256) % 16 * 256 + (s.data.length : Int) % 256).toNat = s.data.length := by omega
    simp only [List.getD_cons_zero, List.getD_cons_succ, hn]
    rw [if_neg (by simp only [List.length_cons]; omega), if_neg (by simp only [List.length_cons, List.length_append]; omega)]
    have e2 : (16 * s.ch + (s.data.length : Int) / 256) / 16 = s.ch := by omega
    have e3 : ∀ (a b : Int) (r : List Int), List.drop (2 + s.data.length) (a :: b :: (s.data ++ r)) = r := fun a b r => by
      rw [show 2 + s.data.length = s.data.length + 1 + 1 by omega, List.drop_succ_cons, List.drop_succ_cons, List.drop_left]
    have e4 : ∀ (a b : Int) (r : List Int), List.take s.data.length (List.drop 2 (a :: b :: (s.data ++ r))) = s.data := fun a b r => by simp
    rw [e2, e3, e4, ih]
    rfl
theorem encS_ok {l : List Sec} {room : Int} (h : chkS l room = 0) : encS l room = (bodyS l ++ padS (room.toNat - usedS l), 0) := by
  unfold encS; rw [if_neg (by simpa using h)]
theorem encS_len {l : List Sec} {room : Int} (h : chkS l room = 0) : ((encS l room).1.length : Int) = room := by
  obtain ⟨h1, h2, h3, h4⟩ := chk_ok h
  rw [encS_ok h]; simp only [List.length_append, bodyS_length, padS_length]; omega
theorem decS_enc {l : List Sec} {room : Int} (h : chkS l room = 0) : decS (encS l room).1 = (l, 0) := by
  obtain ⟨h1, h2, h3, h4⟩ := chk_ok h
  have hl := encS_len h
  unfold decS
  rw [if_neg (by omega)]
  have e : parseS (encS l room).1 = some l := by
    rw [encS_ok h]; exact parseS_body _ l (firstE_all h3) (by omega)
  rw [e]
  show (if (encS l _).2 ≠ 0 ∨ (encS l _).1 ≠ (encS l room).1 then _ else _) = _
  rw [hl, if_neg]
  rw [encS_ok h]; simp
theorem encS_inj {l m : List Sec} {room : Int} (h : chkS l room = 0) (k : chkS m room = 0) (e : (encS l room).1 = (encS m room).1) : l = m := by
  have h1 := decS_enc h
  rw [e, decS_enc k] at h1
  injection h1 with h1; exact h1.symm
theorem chk_fit {l : List Sec} {room : Int} (hl : l.length ≤ 32) (hf : firstE l = 0) (hr : 1 ≤ room ∧ room ≤ 256) (hu : (usedS l : Int) ≤ room) : chkS l room = 0 := by
  unfold chkS
  rw [if_neg (by omega), if_neg (by omega), if_neg (by simpa using hf), if_neg (by omega)]
theorem chk_full {l : List Sec} {room : Int} (hl : l.length ≤ 32) (hf : firstE l = 0) (hr : 1 ≤ room ∧ room ≤ 256) (hu : (usedS l : Int) > room) : chkS l room = 15 := by
  unfold chkS
  rw [if_neg (by omega), if_neg (by omega), if_neg (by simpa using hf), if_pos hu]
theorem firstE_append {l m : List Sec} (h : firstE l = 0) (k : firstE m = 0) : firstE (l ++ m) = 0 := by
  induction l with
  | nil => exact k
  | cons s l ih =>
    have hs := firstE_all h s (by simp)
    simp only [firstE, List.cons_append] at h ⊢
    rw [if_neg (by simpa using hs)] at h ⊢
    exact ih h
end Go.Sx
