import Derived.Test.YtjmjdjpbgjjhmaaP24b
/- Chapter 24, plain: where reading stops, and what sections that were read are written back as. -/
namespace Go.Sx
theorem chk_big {l : List Sec} {room : Int} (h : room < 1 ∨ room > 256) : chkS l room = 3 := if_pos h
theorem encS_err {l : List Sec} {room : Int} (h : chkS l room ≠ 0) : encS l room = ([], chkS l room) := if_pos h
theorem head_split {r : List Int} {n : Nat} (h2 : 2 ≤ r.length) (h0 : 0 ≤ r.getD 0 0 ∧ r.getD 0 0 < 256) (h1 : 0 ≤ r.getD 1 0 ∧ r.getD 1 0 < 256) (hn : n = (r.getD 0 0 % 16 * 256 + r.getD 1 0).toNat) (hle : n ≤ r.length - 2) :
    bodyS [⟨r.getD 0 0 / 16, (r.drop 2).take n⟩] ++ r.drop (2 + n) = r := by
  rcases r with _ | ⟨x, _ | ⟨y, t⟩⟩
  · simp at h2
  · simp at h2
  · simp only [List.getD_cons_zero, List.getD_cons_succ, List.length_cons, List.drop_succ_cons, List.drop_zero] at *
    have hl : (t.take n).length = n := by simp; omega
    simp only [bodyS, headS, hl, List.append_nil]
    rw [show 2 + n = n + 1 + 1 by omega, List.drop_succ_cons, List.drop_succ_cons]
    simp only [List.cons_append, List.nil_append, List.take_append_drop]
    rw [show 16 * (x / 16) + (n : Int) / 256 = x by omega, show (n : Int) % 256 = y by omega]
theorem decS_stop {b r : List Int} {L : List Sec} (hb : bodyS L ++ r = b) (hp : parseS b = (parseS r).map (L ++ ·)) (h0 : 0 ≤ r.getD 0 0 ∧ r.getD 0 0 < 256)
    (h : (r.length < 2 ∨ r.getD 0 0 / 16 = 15) ∨ (2 ≤ r.length ∧ r.getD 0 0 / 16 ≠ 15 ∧ (r.getD 0 0 % 16 * 256 + r.getD 1 0).toNat > r.length - 2)) :
    decS b = if (encS L b.length).2 ≠ 0 ∨ (encS L b.length).1 ≠ b then ([], 4) else (L, 0) := by
  by_cases hl : b.length > 256
  · have hc := chk_big (l := L) (room := (b.length : Int)) (by omega)
    rw [encS_err (by omega), hc]
    unfold decS; rw [if_pos hl, if_pos (by simp)]
  · unfold decS
    rw [if_neg hl]
    rcases h with h | ⟨h2, h15, hn⟩
    · have hr : parseS r = some [] := by rw [parseS, if_pos h]
      rw [hp, hr]
      simp only [Option.map_some, List.append_nil]
      rfl
    · have hr : parseS r = none := by rw [parseS, if_neg (by omega), if_pos hn]
      rw [hp, hr, if_pos]
      · rfl
      by_cases hc : chkS L b.length = 0
      · right
        intro he
        obtain ⟨c1, c2, c3, c4⟩ := chk_ok hc
        have hbl := congrArg List.length hb
        simp only [List.length_append, bodyS_length] at hbl
        rw [encS_ok hc] at he
        have hpad := List.append_cancel_left (he.trans hb.symm)
        have hk : (b.length : Int).toNat - usedS L = r.length := by omega
        rw [hk] at hpad
        have : (padS r.length).getD 0 0 = 240 + ((r.length - 2 : Nat) : Int) / 256 := by
          unfold padS; rw [if_neg (by omega), if_neg (by omega)]; rfl
        rw [hpad] at this
        omega
      · left; rw [encS_err hc]; exact hc
end Go.Sx
