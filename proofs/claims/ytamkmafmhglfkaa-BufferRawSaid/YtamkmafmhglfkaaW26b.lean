import Derived.Test.YtamkmafmhglfkaaW26a
namespace Go.Proofs.Ytamkmafmhglfkaa
open Go.Sx Go.RowKit

/-! ## Lists that are compared -/
theorem take_eq_step {xs ys : List Int} {k : Nat} (h1 : k < xs.length) (h2 : k < ys.length) (h : xs.take k = ys.take k) (he : xs[k] = ys[k]) : xs.take (k + 1) = ys.take (k + 1) := by
  rw [List.take_succ_eq_append_getElem h1, List.take_succ_eq_append_getElem h2, h, he]
theorem ne_of_getElem {xs ys : List Int} {k : Nat} (h1 : k < xs.length) (h2 : k < ys.length) (he : xs[k] ≠ ys[k]) : xs ≠ ys := by
  rintro rfl; exact he rfl



/-! ## What waits -/
def sumG (ws gs : List Int) (j : Int) : Int := ((ws.zip gs).map fun p => if p.2 = j then p.1 else 0).sum
theorem sumG_step {ws gs : List Int} {k : Nat} (h1 : k < ws.length) (h2 : k < gs.length) (j : Int) :
    sumG (ws.take (k + 1)) (gs.take (k + 1)) j = sumG (ws.take k) (gs.take k) j + if gs[k] = j then ws[k] else 0 := by
  unfold sumG
  rw [List.take_succ_eq_append_getElem h1, List.take_succ_eq_append_getElem h2, List.zip_append (by simp; omega)]
  simp
theorem sumG_bound {ws gs : List Int} {k : Nat} (h : ∀ i (hi : i < ws.length), i < k → 0 ≤ ws[i] ∧ ws[i] ≤ 1048576) (hk : k ≤ ws.length) (hg : k ≤ gs.length) (j : Int) :
    0 ≤ sumG (ws.take k) (gs.take k) j ∧ sumG (ws.take k) (gs.take k) j ≤ 1048576 * k := by
  induction k with
  | zero => simp [sumG]
  | succ k ih =>
    have := ih (fun i hi hik => h i hi (by omega)) (by omega) (by omega)
    have hw := h k (by omega) (by omega)
    rw [sumG_step (by omega) (by omega)]
    split <;> omega

def badAt (n g : Int) : Prop := g < 0 ∨ 4 ≤ g ∨ n < 0 ∨ 1048576 < n
instance (n g : Int) : Decidable (badAt n g) := by unfold badAt; infer_instance
/-- levels and error of a report -/
def ofE (ws gs : List Int) : Int :=
  if 8 < ws.length ∨ ws.length ≠ gs.length then 2 else if ∃ i, i < ws.length ∧ badAt (ws.getD i 0) (gs.getD i 0) then 3 else 0
def ofL (ws gs : List Int) (j : Nat) : Int := if ofE ws gs = 0 then lev (sumG ws gs j) else 0

theorem of_ok {a b : Option Addr} {c1 c2 : Nat} {ws gs : List Int} {w : World} (ha : SlR (IntC .i64) 1 w a ws) (hb : SlR (IntC .i64) 1 w b gs) :
    Calls Try.prog N_buffer_Of #[.slice a ws.length c1, .slice b gs.length c2] w fun e w' =>
      e = .returned (.tuple #[.agg (arrN .i64 4 (ofL ws gs)), .int .i64 (ofE ws gs)]) ∧ Below w.heap.size w w' := by
  apply F_buffer_Of_ok
  unfold F_buffer_Of
  intro w1
  have hB : Blk w1 w.heap.size Ty_api_Waiting (arrN .i64 4 fun _ => 0) := Blk.new w _ _
  have h1 : Below w.heap.size w w1 := (Below.refl _ _).alloc (Nat.le_refl _) _
  have hs1 : w1.heap.size = w.heap.size + 1 := by simp [w1]
  clear_value w1
  have err2 : ofE ws gs = 2 → sxStore w1 (nb w) 0 [(.int .i64 0), (.int .i64 0), (.int .i64 0), (.int .i64 0)] fun w2 => ∃ r0 r1 r2 r3 : Int, cellsAt w2 (nb w) 0 [.int .i64 r0, .int .i64 r1, .int .i64 r2, .int .i64 r3] ∧
      (Ending.returned (.tuple #[.agg #[.int .i64 r0, .int .i64 r1, .int .i64 r2, .int .i64 r3], .int .i64 2]) = .returned (.tuple #[.agg (arrN .i64 4 (ofL ws gs)), .int .i64 (ofE ws gs)]) ∧ Below w.heap.size w w2) := by
    intro he
    refine blk_storeAll hB rfl rfl fun w2 hB2 hs => ⟨_, _, _, _, blk_cellsAll hB2, ?_, h1.but hs (Nat.le_refl _)⟩
    rw [arrN_congr (t := fun _ => 0) (fun i _ => by rw [ofL, if_neg (by omega)]), he]; rfl
  refine ⟨fun w2 => w2 = w1 ∧ ws.length ≤ 8 ∧ ws.length = gs.length, ?_, ?_⟩
  · rintro _ w4 ⟨rfl, hl8, hll⟩
    intro w5
    have hB0 : Blk w5 w.heap.size Ty_api_Waiting (arrN .i64 4 fun _ => 0) := hB.alloc _
    have hS : Blk w5 w4.heap.size Ty_4_int (arrN .i64 4 fun _ => 0) := Blk.new w4 _ _
    have h2 : Below w.heap.size w w5 := h1.alloc (by omega) _
    have hs5 : w5.heap.size = w.heap.size + 2 := by simp [w5, hs1]
    clear_value w5
    refine ⟨fun x => ((ws.length - x).toNat, fun w6 => ∃ k : Nat, x = k ∧ k ≤ ws.length ∧ (∀ i (h1 : i < ws.length) (h2 : i < gs.length), i < k → ¬ badAt ws[i] gs[i]) ∧
      Blk w6 w.heap.size Ty_api_Waiting (arrN .i64 4 fun _ => 0) ∧ Blk w6 w4.heap.size Ty_4_int (arrN .i64 4 fun j => sumG (ws.take k) (gs.take k) j) ∧ Below w.heap.size w w6 ∧ w6.heap.size = w.heap.size + 2), ?_, ?_⟩
    · exact ⟨0, rfl, by omega, fun i _ _ h => by omega, hB0, by simpa [sumG] using hS, h2, hs5⟩
    rintro _ x w6 ⟨k, rfl, hk, hgood, hB6, hS6, h6, hs6⟩
    refine bsplit_dec (fun hlt => ?_) (fun hge => ?_)
    · have hlt : k < ws.length := by omega
      obtain ⟨p, rfl, hp⟩ := (ha.below h6).get hlt
      obtain ⟨q, rfl, hq⟩ := (hb.below h6).get (i := k) (by omega)
      refine ⟨p, rfl, ⟨by omega, by omega⟩, _, hp, q, rfl, ⟨by omega, by omega⟩, _, hq, ?_⟩
      refine ⟨fun x3 w7 => w7 = w6 ∧ (x3 = true ↔ badAt ws[k] (gs[k]'(by omega))), ?_, ?_⟩
      · rintro _ x3 w7 ⟨rfl, hx3⟩
        refine bsplit_intro (fun ht => ?_) (fun hf => ?_)
        · have he : ofE ws gs = 3 := by
            rw [ofE, if_neg (by omega), if_pos ⟨k, hlt, by rw [getD_at hlt, getD_at (show k < gs.length by omega)]; exact hx3.1 ht⟩]
          refine blk_storeAll hB6 rfl rfl fun w2 hB2 hs => ⟨_, _, _, _, blk_cellsAll hB2, ?_, h6.but hs (Nat.le_refl _)⟩
          rw [arrN_congr (t := fun _ => 0) (fun i _ => by rw [ofL, if_neg (by omega)]), he]; rfl
        · have hnb : ¬ badAt ws[k] (gs[k]'(by omega)) := fun hc => by rw [hx3.2 hc] at hf; cases hf
          have hnb' := hnb
          unfold badAt at hnb'
          have hr := sumG_bound (gs := gs) (k := k) (fun i hi hik => by
            have := hgood i hi (by omega) hik; unfold badAt at this; omega) hk (by omega)
          have hg := hr (gs[k]'(by omega)).toNat
          refine ⟨q, rfl, ⟨by omega, by omega⟩, _, hq, ⟨by omega, by omega⟩, sumG (ws.take k) (gs.take k) (gs[k]'(by omega)).toNat, ?_, ⟨by omega, by omega⟩, ?_, ?_, ?_⟩
          · rw [nb_add, Nat.mul_one]; exact hS6.cell0 _ (arrN_get (by omega))
          · rw [nb_add, Nat.mul_one]; exact hS6.has (by rw [arrN_size]; omega)
          · rw [nb_add]; exact hS6.frozen _
          · intro w9
            have e9 : w9 = w7.setCell ⟨w4.heap.size, (gs[k]'(by omega)).toNat, none⟩ (.int .i64 (sumG (ws.take k) (gs.take k) (gs[k]'(by omega)).toNat + ws[k])) := by
              simp only [w9]; rw [nb_add, Nat.mul_one, wrap_id _ (by omega)]
            clear_value w9
            subst e9
            rw [wrap_id _ (by omega)]
            refine ⟨⟨k + 1, rfl, by omega, fun i hi hi2 hik => ?_, hB6.far (by simp; omega) _, ?_, h6.setCell (by simp; omega) _, by simp [hs6]⟩, by simp; omega⟩
            · by_cases hik' : i = k
              · subst hik'; exact hnb
              · exact hgood i hi hi2 (by omega)
            · have := hS6.set (gs[k]'(by omega)).toNat (.int .i64 (sumG (ws.take k) (gs.take k) (gs[k]'(by omega)).toNat + ws[k]))
              rw [arrN_set] at this
              rw [arrN_congr (t := fun j => if j = (gs[k]'(by omega)).toNat then sumG (ws.take k) (gs.take k) (gs[k]'(by omega)).toNat + ws[k] else sumG (ws.take k) (gs.take k) j)]
              · exact this
              · intro j hj
                rw [sumG_step hlt (by omega)]
                by_cases hjg : j = (gs[k]'(by omega)).toNat
                · rw [if_pos hjg, if_pos (by omega), hjg]
                · rw [if_neg hjg, if_neg (by omega)]; omega
      · have hdone : ∀ {c : Prop} [Decidable c] {X Y : Prop}, (c → X) → (¬ c → Y) → bsplit (decide c) X Y := fun h1 h2 => bsplit_dec h1 h2
        refine bsplit_dec (fun h => ⟨rfl, by simp [badAt, h]⟩) (fun h1 => bsplit_dec (fun h => ⟨rfl, by simp [badAt]; omega⟩) (fun h2 => bsplit_dec (fun h => ⟨rfl, by simp [badAt]; omega⟩) (fun h3 => ⟨rfl, ?_⟩)))
        simp only [badAt, decide_eq_true_eq]; omega
    · obtain rfl : k = ws.length := by omega
      have he : ofE ws gs = 0 := by
        rw [ofE, if_neg (by omega), if_neg]
        rintro ⟨i, hi1, hbad⟩
        rw [getD_at hi1, getD_at (show i < gs.length by omega)] at hbad
        exact hgood i hi1 (by omega) hi1 hbad
      intro w10
      have hB10 : Blk w10 w.heap.size Ty_api_Waiting (arrN .i64 4 fun _ => 0) := hB6.alloc _
      have hS10 : Blk w10 w4.heap.size Ty_4_int (arrN .i64 4 fun j => sumG ws gs j) := by
        have := hS6.alloc (.cells #[Value.int .i64 0, .int .i64 0, .int .i64 0, .int .i64 0] Ty_api_Waiting)
        rwa [List.take_length, List.take_of_length_le (by omega)] at this
      have hW10 : Blk w10 w6.heap.size Ty_api_Waiting (arrN .i64 4 fun _ => 0) := Blk.new w6 _ _
      have h10 : Below w.heap.size w w10 := h6.alloc (by omega) _
      have hs10 : w10.heap.size = w.heap.size + 3 := by simp [w10, hs6]
      clear_value w10
      refine ⟨_, _, _, _, blk_cellsAll hS10, ?_⟩
      refine ⟨fun x => ((4 - x).toNat, fun w11 => ∃ k : Nat, x = k ∧ k ≤ 4 ∧ Blk w11 w.heap.size Ty_api_Waiting (arrN .i64 4 fun _ => 0) ∧
        Blk w11 w6.heap.size Ty_api_Waiting (arrN .i64 4 fun j => if j < k then ofL ws gs j else 0) ∧ Below w.heap.size w w11 ∧ w.heap.size + 3 ≤ w11.heap.size), ⟨0, rfl, by omega, hB10, by simpa using hW10, h10, by omega⟩, ?_⟩
      rintro _ x w11 ⟨k, rfl, hk4, hB11, hW11, h11, hs11⟩
      refine bsplit_dec (fun hlt => ?_) (fun hge => ?_)
      · have hlt : k < 4 := by omega
        refine ⟨⟨by omega, by omega⟩, sumG ws gs k, ?_, ?_⟩
        · have : (arrN .i64 4 fun j => sumG ws gs j)[k]? = some (.int .i64 (sumG ws gs k)) := arrN_get hlt
          rw [Int.toNat_natCast, Nat.mul_one]; exact this
        refine (level_ok _ w11).mono ?_
        rintro _ w12 ⟨rfl, h12⟩
        have hB12 := hB11.below h12 (by omega)
        have hW12 := hW11.below h12 (by omega)
        refine ⟨_, rfl, ⟨by omega, by omega⟩, ?_, ?_, ?_⟩
        · rw [nb_add, Int.toNat_natCast, Nat.mul_one]; exact hW12.has (by rw [arrN_size]; omega)
        · rw [nb_add]; exact hW12.frozen _
        · intro w13
          have e13 : w13 = w12.setCell ⟨w6.heap.size, k, none⟩ (.int .i64 (lev (sumG ws gs k))) := by simp only [w13]; rw [nb_add, Int.toNat_natCast, Nat.mul_one]
          clear_value w13
          subst e13
          rw [wrap_id _ (by omega)]
          have hsz := h12.size
          refine ⟨⟨k + 1, rfl, by omega, hB12.far (by simp; omega) _, ?_, (below_step h11 (by omega) h12).setCell (by simp; omega) _, by simp; omega⟩, by simp; omega⟩
          have := hW12.set k (.int .i64 (lev (sumG ws gs k)))
          rw [arrN_set] at this
          refine (arrN_congr fun j hj => ?_) ▸ this
          by_cases hjk : j = k
          · subst hjk; rw [if_pos rfl, if_pos (by omega), ofL, if_pos he]
          · rw [if_neg hjk]
            by_cases hj' : j < k
            · rw [if_pos hj', if_pos (by omega)]
            · rw [if_neg hj', if_neg (by omega)]
      · obtain rfl : k = 4 := by omega
        refine ⟨_, _, _, _, blk_cellsAll hW11, ?_⟩
        refine blk_storeAll hB11 rfl rfl fun w14 hB14 hs14 => ⟨_, _, _, _, blk_cellsAll hB14, ?_, h11.but hs14 (Nat.le_refl _)⟩
        rw [he]; rfl
  · refine bsplit_dec (fun h => err2 (by rw [ofE, if_pos (by omega)])) (fun h8 => ?_)
    refine bsplit_intro (fun h => err2 (by simp at h; rw [ofE, if_pos (by omega)])) (fun h => ⟨rfl, by omega, by simp at h; omega⟩)
end Go.Proofs.Ytamkmafmhglfkaa
