/- Chapter 24, plain: sections and blocks as lists of numbers; no program in sight. -/
namespace Go.Sx
structure Sec where
  ch : Int
  data : List Int
def usedS : List Sec → Nat
  | [] => 0
  | s :: l => 2 + s.data.length + usedS l
theorem usedS_append (l m : List Sec) : usedS (l ++ m) = usedS l + usedS m := by
  induction l with
  | nil => simp [usedS]
  | cons s l ih => simp only [List.cons_append, usedS, ih]; omega
theorem usedS_take (l : List Sec) (i : Nat) (h : i < l.length) : usedS (l.take (i + 1)) = usedS (l.take i) + (2 + l[i].data.length) := by
  rw [List.take_add_one, List.getElem?_eq_getElem h]
  simp only [Option.toList_some, usedS_append, usedS]; omega
def chOk (c : Int) : Prop := (0 ≤ c ∧ c < 8) ∨ c = 8 ∨ c = 9 ∨ c = 10
instance (c : Int) : Decidable (chOk c) := inferInstanceAs (Decidable (_ ∨ _))
/-- the error of a section -/
def secE (c : Int) (n : Nat) : Int := if ¬ chOk c then 60 else if n = 0 ∨ (c = 8 ∧ n ≠ 1) ∨ ((c = 9 ∨ c = 10) ∧ n ≠ 2) then 2 else 0
def firstE : List Sec → Int
  | [] => 0
  | s :: l => if secE s.ch s.data.length ≠ 0 then secE s.ch s.data.length else firstE l
def chkS (l : List Sec) (room : Int) : Int :=
  if room < 1 ∨ room > 256 then 3 else if l.length > 32 then 2 else if firstE l ≠ 0 then firstE l else if (usedS l : Int) > room then 15 else 0
theorem firstE_drop (l : List Sec) (i : Nat) (h : i < l.length) : firstE (l.drop i) = if secE l[i].ch l[i].data.length ≠ 0 then secE l[i].ch l[i].data.length else firstE (l.drop (i + 1)) := by
  rw [List.drop_eq_getElem_cons h]; rfl
end Go.Sx
namespace Go.Sx
def headS (c : Int) (n : Nat) : List Int := [16 * c + (n : Int) / 256, (n : Int) % 256]
def bodyS : List Sec → List Int
  | [] => []
  | s :: l => headS s.ch s.data.length ++ s.data ++ bodyS l
theorem bodyS_append (l m : List Sec) : bodyS (l ++ m) = bodyS l ++ bodyS m := by
  induction l with
  | nil => rfl
  | cons s l ih => simp only [List.cons_append, bodyS, ih, List.append_assoc]
theorem bodyS_take (l : List Sec) (i : Nat) (h : i < l.length) : bodyS (l.take (i + 1)) = bodyS (l.take i) ++ (headS l[i].ch l[i].data.length ++ l[i].data) := by
  rw [List.take_add_one, List.getElem?_eq_getElem h]
  simp only [Option.toList_some, bodyS_append, bodyS, List.append_nil]
theorem bodyS_length (l : List Sec) : (bodyS l).length = usedS l := by
  induction l with
  | nil => rfl
  | cons s l ih => simp only [bodyS, usedS, List.length_append, ih, headS, List.length_cons, List.length_nil]
def padS (n : Nat) : List Int := if n = 0 then [] else if n = 1 then [240] else headS 15 (n - 2) ++ List.replicate (n - 2) 0
theorem padS_length (n : Nat) : (padS n).length = n := by
  unfold padS headS
  split
  · simp; omega
  · split
    · simp; omega
    · simp; omega
def encS (l : List Sec) (room : Int) : List Int × Int := if chkS l room ≠ 0 then ([], chkS l room) else (bodyS l ++ padS (room.toNat - usedS l), 0)
theorem firstE_all {l : List Sec} (h : firstE l = 0) : ∀ s ∈ l, secE s.ch s.data.length = 0 := by
  induction l with
  | nil => intro s hs; simp at hs
  | cons t l ih =>
    intro s hs
    simp only [firstE] at h
    by_cases ht : secE t.ch t.data.length = 0
    · rw [if_neg (by simpa using ht)] at h
      rcases List.mem_cons.1 hs with rfl | hs
      · exact ht
      · exact ih h s hs
    · rw [if_pos ht] at h; exact absurd h ht
theorem secE_ok {c : Int} {n : Nat} (h : secE c n = 0) : (0 ≤ c ∧ c ≤ 10) ∧ 1 ≤ n := by
  unfold secE at h
  by_cases h1 : chOk c
  · rw [if_neg (by simpa using h1)] at h
    split at h
    · omega
    · rename_i h2; unfold chOk at h1; omega
  · rw [if_pos h1] at h; omega
theorem chk_ok {l : List Sec} {room : Int} (h : chkS l room = 0) : (1 ≤ room ∧ room ≤ 256) ∧ l.length ≤ 32 ∧ firstE l = 0 ∧ (usedS l : Int) ≤ room := by
  unfold chkS at h
  split at h; · omega
  split at h; · omega
  split at h
  · rename_i h3; exact absurd h h3
  split at h; · omega
  rename_i h1 h2 h3 h4
  exact ⟨by omega, by omega, by simpa using h3, by omega⟩
theorem used_mem {l : List Sec} {s : Sec} (h : s ∈ l) : 2 + s.data.length ≤ usedS l := by
  induction l with
  | nil => simp at h
  | cons t l ih =>
    simp only [usedS]
    rcases List.mem_cons.1 h with rfl | h
    · omega
    · have := ih h; omega
end Go.Sx
namespace Go.Sx
/-- the sections that stand in bytes, as far as they go -/
def parseS (b : List Int) : Option (List Sec) :=
  if b.length < 2 ∨ b.getD 0 0 / 16 = 15 then some []
  else if (b.getD 0 0 % 16 * 256 + b.getD 1 0).toNat > b.length - 2 then none
  else (parseS (b.drop (2 + (b.getD 0 0 % 16 * 256 + b.getD 1 0).toNat))).map (⟨b.getD 0 0 / 16, (b.drop 2).take (b.getD 0 0 % 16 * 256 + b.getD 1 0).toNat⟩ :: ·)
termination_by b.length
decreasing_by simp only [List.length_drop]; omega
def decOf (b : List Int) : Option (List Sec) → List Sec × Int
  | none => ([], 4)
  | some l => if (encS l b.length).2 ≠ 0 ∨ (encS l b.length).1 ≠ b then ([], 4) else (l, 0)
def decS (b : List Int) : List Sec × Int := if b.length > 256 then ([], 4) else decOf b (parseS b)
theorem len_used (l : List Sec) : l.length ≤ usedS l := by
  induction l with
  | nil => simp
  | cons s l ih => simp only [usedS, List.length_cons]; omega
end Go.Sx
