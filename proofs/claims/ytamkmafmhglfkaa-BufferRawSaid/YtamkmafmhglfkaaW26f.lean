import Derived.Test.YtamkmafmhglfkaaW26e
namespace Go.Proofs.Ytamkmafmhglfkaa
open Go.Sx Go.RowKit

def decE (ch : Int) (bs : List Int) : Int :=
  if ch = 9 then (if bs.length ≠ 2 then 2 else 0) else if ch = 8 then (if bs.length ≠ 1 then 2 else if bs.getD 0 0 / 16 % 4 ≠ 0 then 4 else 0) else 7
def decL (ch : Int) (bs : List Int) : Nat → Int := fun j =>
  if decE ch bs ≠ 0 then 0 else if ch = 9 then (if j = 0 then bs.getD 0 0 / 16 else if j = 1 then bs.getD 0 0 % 16 else if j = 2 then bs.getD 1 0 / 16 else bs.getD 1 0 % 16)
  else if j = (bs.getD 0 0 / 64).toNat then bs.getD 0 0 % 16 else 0
theorem and48 : ∀ x : Nat, x < 256 → (x &&& 48 = 0 ↔ x / 16 % 4 = 0) ∧ x &&& 15 = x % 16 ∧ x &&& 48 < 256 := by decide +kernel
theorem and48_ne {x : Int} (h : 0 ≤ x ∧ x < 256) : (bAnd .u8 x 48 != 0) = decide (x / 16 % 4 ≠ 0) := by
  obtain ⟨m, rfl⟩ := natOf h.1
  obtain ⟨h1, _, h3⟩ := and48 m (by omega)
  rw [show (48 : Int) = ((48 : Nat) : Int) from rfl, bAnd_nat .u8 m 48 (by show m < 256; omega) (by decide), IntWalk.u8_in _ (by omega)]
  rw [Bool.eq_iff_iff, bne_iff_ne, decide_eq_true_iff]
  omega
theorem and15 {x : Int} (h : 0 ≤ x ∧ x < 256) : IntKind.wrap .i64 (bAnd .u8 x 15) = x % 16 := by
  obtain ⟨m, rfl⟩ := natOf h.1
  obtain ⟨_, h2, _⟩ := and48 m (by omega)
  rw [show (15 : Int) = ((15 : Nat) : Int) from rfl, bAnd_nat .u8 m 15 (by show m < 256; omega) (by decide), h2, IntWalk.u8_in _ (by omega), wrap_id _ (by omega)]
  omega
theorem fd {x : Int} (h : 0 ≤ x ∧ x < 256) (k : Nat) : Int.fdiv x (2 ^ k) = x / 2 ^ k := by
  rw [Int.fdiv_eq_ediv_of_nonneg]
  have : (2 : Int) ^ k = ((2 ^ k : Nat) : Int) := by simp
  rw [this]; exact Int.natCast_nonneg _

section
variable {ch : Int} {a : Option Addr} {c : Nat} {bs : List Int} {w : World}
theorem decode_ok (ha : SlR (IntC .u8) 1 w a bs) (hb : Bytes bs) :
    Calls Try.prog N_buffer_Decode #[.agg #[.int .i64 ch, .slice a bs.length c]] w fun e w' => e = .returned (.tuple #[.agg (arrN .i64 4 (decL ch bs)), .int .i64 (decE ch bs)]) ∧ Below w.heap.size w w' := by
  apply F_buffer_Decode_ok
  unfold F_buffer_Decode
  intro w1
  have hS1 : Blk w1 w.heap.size Ty_api_Section #[.int .i64 ch, .slice a bs.length c] := Blk.new w _ _
  have b1 : Below w.heap.size w w1 := (Below.refl _ _).alloc (Nat.le_refl _) _
  have hs1 : w1.heap.size = w.heap.size + 1 := by simp [w1]
  clear_value w1
  intro w2
  have hS2 : Blk w2 w.heap.size Ty_api_Section #[.int .i64 ch, .slice a bs.length c] := hS1.alloc _
  have hR2 : Blk w2 w1.heap.size Ty_api_Waiting (arrN .i64 4 fun _ => 0) := Blk.new w1 _ _
  have b2 : Below w.heap.size w w2 := b1.alloc (by omega) _
  have hs2 : w2.heap.size = w.heap.size + 2 := by simp [w2, hs1]
  clear_value w2
  intro w3
  have hS3 : Blk w3 w.heap.size Ty_api_Section #[.int .i64 ch, .slice a bs.length c] := hS2.alloc _
  have hR3 : Blk w3 w1.heap.size Ty_api_Waiting (arrN .i64 4 fun _ => 0) := hR2.alloc _
  have hW3 : Blk w3 w2.heap.size Ty_api_Waiting (arrN .i64 4 fun _ => 0) := Blk.new w2 _ _
  have b3 : Below w.heap.size w w3 := b2.alloc (by omega) _
  clear_value w3
  have out : ∀ {w' : World} {L : Nat → Int} {E : Int}, Blk w' w2.heap.size Ty_api_Waiting (arrN .i64 4 L) → Blk w' w1.heap.size Ty_api_Waiting (arrN .i64 4 fun _ => 0) → Below w.heap.size w w' → (∀ j, j < 4 → L j = decL ch bs j) → E = decE ch bs →
      ∃ x0 x1 x2 x3 : Int, cellsAt w' (nb w2) 0 [.int .i64 x0, .int .i64 x1, .int .i64 x2, .int .i64 x3] ∧ sxStore w' (nb w1) 0 [.int .i64 x0, .int .i64 x1, .int .i64 x2, .int .i64 x3] fun w4 =>
        ∃ r0 r1 r2 r3 : Int, cellsAt w4 (nb w1) 0 [.int .i64 r0, .int .i64 r1, .int .i64 r2, .int .i64 r3] ∧
        (Ending.returned (.tuple #[.agg #[.int .i64 r0, .int .i64 r1, .int .i64 r2, .int .i64 r3], .int .i64 E]) = .returned (.tuple #[.agg (arrN .i64 4 (decL ch bs)), .int .i64 (decE ch bs)]) ∧ Below w.heap.size w w4) := by
    intro w' L E hW hR hb' hL hE
    rw [arrN_congr hL] at hW
    refine ⟨_, _, _, _, blk_cellsAll (vs := [.int .i64 (decL ch bs 0), .int .i64 (decL ch bs 1), .int .i64 (decL ch bs 2), .int .i64 (decL ch bs 3)]) hW, ?_⟩
    refine blk_storeAll hR rfl rfl fun w4 hR4 t4 => ⟨_, _, _, _, blk_cellsAll hR4, ?_, hb'.but t4 (by omega)⟩
    rw [hE]; rfl
  have bad : ∀ {E : Int}, decE ch bs = E → E ≠ 0 → ∃ x0 x1 x2 x3 : Int, cellsAt w3 (nb w2) 0 [.int .i64 x0, .int .i64 x1, .int .i64 x2, .int .i64 x3] ∧ sxStore w3 (nb w1) 0 [.int .i64 x0, .int .i64 x1, .int .i64 x2, .int .i64 x3] fun w4 =>
        ∃ r0 r1 r2 r3 : Int, cellsAt w4 (nb w1) 0 [.int .i64 r0, .int .i64 r1, .int .i64 r2, .int .i64 r3] ∧
        (Ending.returned (.tuple #[.agg #[.int .i64 r0, .int .i64 r1, .int .i64 r2, .int .i64 r3], .int .i64 E]) = .returned (.tuple #[.agg (arrN .i64 4 (decL ch bs)), .int .i64 (decE ch bs)]) ∧ Below w.heap.size w w4) :=
    fun hE hne => out hW3 hR3 b3 (fun j _ => by unfold decL; rw [if_pos (by omega)]) hE.symm
  have cs : w3.cell? ((nb w).add 1) = some (.slice a bs.length c) := by rw [nb_add]; exact hS3.cell0 1 rfl
  have ha3 := ha.below b3
  refine ⟨ch, hS3.cell0 0 rfl, ?_⟩
  intro x1
  refine bsplit_intro (fun h9 => ?_) (fun h9 => ?_)
  · have h9 : ch = 9 := by simpa [x1] using h9
    refine ⟨_, _, _, cs, bsplit_intro (fun h => ?_) (fun h => ?_)⟩
    · exact bad (by unfold decE; rw [if_pos h9, if_pos (by simp at h; omega)]) (by decide)
    have h2 : bs.length = 2 := by simp at h; omega
    have hE : decE ch bs = 0 := by unfold decE; rw [if_pos h9, if_neg (by omega)]
    refine ⟨_, _, _, cs, ?_⟩
    refine ⟨fun i => ((2 - i).toNat, fun w5 => ∃ k : Nat, i = k ∧ k ≤ 2 ∧ Blk w5 w2.heap.size Ty_api_Waiting (arrN .i64 4 fun j => if j < 2 * k then decL ch bs j else 0) ∧ Blk w5 w1.heap.size Ty_api_Waiting (arrN .i64 4 fun _ => 0) ∧ Below w.heap.size w w5), ⟨0, rfl, by omega, by simpa using hW3, hR3, b3⟩, ?_⟩
    rintro _ i w5 ⟨k, rfl, hk2, hW5, hR5, b5⟩
    refine bsplit_dec (fun hlt => ?_) (fun hge => ?_)
    · have hlt : k < 2 := by omega
      obtain ⟨p, rfl, hp⟩ := (ha.below b5).get (i := k) (by omega)
      have hx := hb k (by omega)
      have hx' : bs.getD k 0 = bs[k] := getD_at (by omega)
      rw [wrap_id (2 * (k : Int)) (by omega), wrap_id (2 * (k : Int) + 1) (by omega), show 2 * (k : Int) + 1 = ((2 * k + 1 : Nat) : Int) by omega, show 2 * (k : Int) = ((2 * k : Nat) : Int) by omega, Int.toNat_natCast, Int.toNat_natCast]
      refine ⟨p, rfl, ⟨by omega, by omega⟩, _, hp, ⟨by omega, by omega⟩, ?_, ?_, ?_⟩
      · rw [nb_add, Nat.mul_one]; exact hW5.has (by rw [arrN_size]; omega)
      · rw [nb_add]; exact hW5.frozen _
      intro w6
      have e6 : w6 = w5.setCell ⟨w2.heap.size, 2 * k, none⟩ (.int .i64 (bs[k] / 16)) := by
        simp only [w6]; rw [nb_add, Nat.mul_one, fd hx, wrap_id _ (by omega)]; rfl
      clear_value w6
      have hW6 : Blk w6 w2.heap.size Ty_api_Waiting (arrN .i64 4 fun j => if j = 2 * k then bs[k] / 16 else if j < 2 * k then decL ch bs j else 0) := by
        rw [e6]
        have := hW5.set (2 * k) (.int .i64 (bs[k] / 16))
        rwa [arrN_set] at this
      have hR6 : Blk w6 w1.heap.size Ty_api_Waiting (arrN .i64 4 fun _ => 0) := by rw [e6]; exact hR5.far (by simp; omega) _
      have b6 : Below w.heap.size w w6 := by rw [e6]; exact b5.setCell (by simp; omega) _
      clear e6
      refine ⟨⟨by omega, by omega⟩, ?_, ?_, ?_⟩
      · rw [nb_add, Nat.mul_one]; exact hW6.has (by rw [arrN_size]; omega)
      · rw [nb_add]; exact hW6.frozen _
      intro w7
      have e7 : w7 = w6.setCell ⟨w2.heap.size, 2 * k + 1, none⟩ (.int .i64 (bs[k] % 16)) := by
        simp only [w7]; rw [nb_add, Nat.mul_one, and15 hx]; rfl
      clear_value w7
      have hW7 : Blk w7 w2.heap.size Ty_api_Waiting (arrN .i64 4 fun j => if j = 2 * k + 1 then bs[k] % 16 else if j = 2 * k then bs[k] / 16 else if j < 2 * k then decL ch bs j else 0) := by
        rw [e7]
        have := hW6.set (2 * k + 1) (.int .i64 (bs[k] % 16))
        rwa [arrN_set] at this
      have hR7 : Blk w7 w1.heap.size Ty_api_Waiting (arrN .i64 4 fun _ => 0) := by rw [e7]; exact hR6.far (by simp; omega) _
      have b7 : Below w.heap.size w w7 := by rw [e7]; exact b6.setCell (by simp; omega) _
      rw [wrap_id ((k : Int) + 1) (by omega)]
      refine ⟨⟨k + 1, by omega, by omega, ?_, hR7, b7⟩, by simp; omega⟩
      refine (arrN_congr fun j hj => ?_) ▸ hW7
      have hd : decL ch bs j = (if j = 0 then bs.getD 0 0 / 16 else if j = 1 then bs.getD 0 0 % 16 else if j = 2 then bs.getD 1 0 / 16 else bs.getD 1 0 % 16) := by
        unfold decL; rw [if_neg (by omega), if_pos h9]
      rcases (show k = 0 ∨ k = 1 by omega) with rfl | rfl
      · rcases (show j = 0 ∨ j = 1 ∨ j = 2 ∨ j = 3 by omega) with rfl | rfl | rfl | rfl <;> simp [hd, ← hx']
      · rcases (show j = 0 ∨ j = 1 ∨ j = 2 ∨ j = 3 by omega) with rfl | rfl | rfl | rfl <;> simp [hd, ← hx']
    · obtain rfl : k = 2 := by omega
      exact out hW5 hR5 b5 (fun j hj => by rw [if_pos (by omega)]) hE.symm
  · have h9 : ch ≠ 9 := by simpa [x1] using h9
    intro x4
    refine bsplit_intro (fun h8 => ?_) (fun h8 => ?_)
    · have h8 : ch = 8 := by simpa [x4] using h8
      refine ⟨_, _, _, cs, bsplit_intro (fun h => ?_) (fun h => ?_)⟩
      · exact bad (by unfold decE; rw [if_neg h9, if_pos h8, if_pos (by simp at h; omega)]) (by decide)
      have h1 : bs.length = 1 := by simp at h; omega
      obtain ⟨p, rfl, hp⟩ := ha3.get (i := 0) (by omega)
      have hx := hb 0 (by omega)
      have hx' : bs.getD 0 0 = bs[0] := getD_at (by omega)
      refine ⟨_, _, _, cs, p, rfl, ⟨by omega, by omega⟩, _, hp, ?_⟩
      rw [and48_ne hx]
      refine bsplit_dec (fun h => ?_) (fun h => ?_)
      · exact bad (by unfold decE; rw [if_neg h9, if_pos h8, if_neg (by omega), hx', if_pos h]) (by decide)
      have hE : decE ch bs = 0 := by unfold decE; rw [if_neg h9, if_pos h8, if_neg (by omega), hx', if_neg h]
      intro w11
      have cs11 : w11.cell? ((nb w).add 1) = some (.slice (some p) bs.length c) := cs
      have hp11 : w11.cell? (p.add (0 * 1)) = some (.int .u8 bs[0]) := hp
      have hW11 : Blk w11 w2.heap.size Ty_api_Waiting (arrN .i64 4 fun _ => 0) := hW3
      have hR11 : Blk w11 w1.heap.size Ty_api_Waiting (arrN .i64 4 fun _ => 0) := hR3
      have b11 : Below w.heap.size w w11 := b3.drew
      clear_value w11
      have hq : Int.fdiv bs[0] (2 ^ 6) = ((bs[0] / 64).toNat : Int) := by rw [fd hx]; omega
      have hq4 : (bs[0] / 64).toNat < 4 := by omega
      refine ⟨fun _ => False, _, _, _, cs11, p, rfl, ⟨by omega, by omega⟩, _, hp11, _, _, _, cs11, p, rfl, ⟨by omega, by omega⟩, _, hp11, ?_⟩
      rw [hq, Int.toNat_natCast]
      refine ⟨⟨by omega, by omega⟩, ?_, ?_, ?_⟩
      · rw [nb_add, Nat.mul_one]; exact hW11.has (by rw [arrN_size]; omega)
      · rw [nb_add]; exact hW11.frozen _
      intro w12
      have e12 : w12 = w11.setCell ⟨w2.heap.size, (bs[0] / 64).toNat, none⟩ (.int .i64 (bs[0] % 16)) := by simp only [w12]; rw [nb_add, Nat.mul_one, and15 hx]
      clear_value w12
      have hW12 : Blk w12 w2.heap.size Ty_api_Waiting (arrN .i64 4 fun j => if j = (bs[0] / 64).toNat then bs[0] % 16 else 0) := by
        rw [e12]
        have := hW11.set (bs[0] / 64).toNat (.int .i64 (bs[0] % 16))
        rwa [arrN_set] at this
      have hR12 : Blk w12 w1.heap.size Ty_api_Waiting (arrN .i64 4 fun _ => 0) := by rw [e12]; exact hR11.far (by simp; omega) _
      have b12 : Below w.heap.size w w12 := by rw [e12]; exact b11.setCell (by simp; omega) _
      refine ⟨fun _ _ h => h.elim, ?_⟩
      exact out hW12 hR12 b12 (fun j hj => by unfold decL; rw [if_neg (show ¬ decE ch bs ≠ 0 by omega), if_neg h9, hx']) hE.symm
    · have h8 : ch ≠ 8 := by simpa [x4] using h8
      exact bad (by unfold decE; rw [if_neg h9, if_neg h8]) (by decide)
end
end Go.Proofs.Ytamkmafmhglfkaa
