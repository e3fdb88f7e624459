import Derived.Test.YtblfbanfepocnaaDoorW13c
import Derived.Test.YtblfbanfepocnaaDoorCmMod
namespace Go.Proofs.YtblfbanfepocnaaDoor
open Go.Sx Go.RowKit

def laneA : Array Value := (laneL.map fun n : Nat => Value.int .i64 (n : Int)).toArray
theorem laneA_at {m : Nat} (h : m < 32) : laneA[m]? = some (.int .i64 (lane m : Nat)) := by
  have hl : laneL.length = 32 := rfl
  simp [laneA, lane, getD_at (show m < laneL.length by omega), show m < laneL.length by omega]
theorem lane_cells {w : World} {g : Nat} (h : Blk w g Ty_8_4_int laneA) {k : Nat} (hk : k < 8) :
    cellsAt w ⟨g, k * 4, none⟩ 0 [.int .i64 (lane (4 * k) : Nat), .int .i64 (lane (4 * k + 1) : Nat), .int .i64 (lane (4 * k + 2) : Nat), .int .i64 (lane (4 * k + 3) : Nat)] := by
  refine blk_cellsAt h fun j hj => ?_
  simp only [List.length_cons, List.length_nil] at hj
  rw [laneA_at (by omega), show k * 4 + 0 + j = 4 * k + j by omega]
  rcases (show j = 0 ∨ j = 1 ∨ j = 2 ∨ j = 3 by omega) with rfl | rfl | rfl | rfl <;> rfl

/-- what a call that gives bytes or an error gives -/
def BOut (w : World) (L : List Int) (E : Int) (e : Ending) (w' : World) : Prop :=
  ∃ a' c', e = .returned (.tuple #[.slice a' L.length c', .int .i64 E]) ∧ OwnI w' w.heap.size Ty_uint8 .u8 a' L.length c' L ∧ Below w.heap.size w w'
theorem BOut.bad {w : World} {L : List Int} {E : Int} (hL : L = []) {k : Int} (hE : E = k) : BOut w L E (.returned (.tuple #[.slice none 0 0, .int .i64 k])) w := by
  subst hL; subst hE; exact ⟨none, 0, rfl, OwnI.nil_ .., .refl _ _⟩
def blkE (key : List Int) (ctr : Int) (nonce : List Int) : Int := if key.length ≠ 32 then 9 else if nonce.length ≠ 12 then 2 else if ctr < 0 ∨ 4294967295 < ctr then 3 else 0
def blkR (key : List Int) (ctr : Int) (nonce : List Int) : List Int := if blkE key ctr nonce = 0 then blockL key ctr nonce else []
theorem blockL_length (key : List Int) (ctr : Int) (nonce : List Int) : (blockL key ctr nonce).length = 64 := outL_length _ 16

theorem sized_ok {ka na : Option Addr} {kc nc : Nat} {key nonce : List Int} {w : World} : Calls Tryd.prog N_stream_sized #[.slice ka key.length kc, .slice na nonce.length nc] w fun e w' => e = .returned (.int .i64 (if key.length ≠ 32 then 9 else if nonce.length ≠ 12 then 2 else 0)) ∧ w' = w := by
  apply F_stream_sized_ok
  unfold F_stream_sized
  intro x
  refine bsplit_intro (fun h => ?_) (fun h => ?_)
  · have : key.length ≠ 32 := by simp only [x, bne_iff_ne] at h; omega
    rw [if_pos this]; exact ⟨rfl, rfl⟩
  · have h1 : key.length = 32 := by simp only [x, bne_eq_false_iff_eq] at h; omega
    rw [if_neg (by omega)]
    intro x1
    refine bsplit_intro (fun h => ?_) (fun h => ?_)
    · have : nonce.length ≠ 12 := by simp only [x1, bne_iff_ne] at h; omega
      rw [if_pos this]; exact ⟨rfl, rfl⟩
    · have h1 : nonce.length = 12 := by simp only [x1, bne_eq_false_iff_eq] at h; omega
      rw [if_neg (by omega)]; exact ⟨rfl, rfl⟩

section
variable {ka na : Option Addr} {kc nc : Nat} {key nonce : List Int} {ctr : Int} {w : World}
theorem Block_ok (hk : SlR (IntC .u8) 1 w ka key) (hn : SlR (IntC .u8) 1 w na nonce) (hkc : key.length ≤ kc) (hnc : nonce.length ≤ nc) (hT : LaneT w) :
    Calls Tryd.prog N_stream_Block #[.slice ka key.length kc, .int .i64 ctr, .slice na nonce.length nc] w (BOut w (blkR key ctr nonce) (blkE key ctr nonce)) := by
  apply F_stream_Block_ok
  unfold F_stream_Block
  refine sized_ok.mono ?_
  rintro _ w1 ⟨rfl, rfl⟩
  refine ⟨_, rfl, bsplit_intro (fun h => ?_) (fun h => ?_)⟩
  · by_cases h1 : key.length = 32
    · by_cases h2 : nonce.length = 12
      · simp [h1, h2] at h
      · have hE : blkE key ctr nonce = 2 := by unfold blkE; rw [if_neg (by omega), if_pos h2]
        rw [if_neg (by omega), if_pos h2]
        exact .bad (by unfold blkR; rw [if_neg (by omega)]) hE
    · have hE : blkE key ctr nonce = 9 := by unfold blkE; rw [if_pos h1]
      rw [if_pos h1]
      exact .bad (by unfold blkR; rw [if_neg (by omega)]) hE
  · have h1 : key.length = 32 := by
      by_cases h1 : key.length = 32
      · exact h1
      · rw [if_pos h1] at h; simp at h
    have h2 : nonce.length = 12 := by
      by_cases h2 : nonce.length = 12
      · exact h2
      · rw [if_neg (by omega), if_pos h2] at h; simp at h
    have bad : (ctr < 0 ∨ 4294967295 < ctr) → BOut w1 (blkR key ctr nonce) (blkE key ctr nonce) (.returned (.tuple #[.slice none 0 0, .int .i64 3])) w1 := fun hc => by
      have hE : blkE key ctr nonce = 3 := by unfold blkE; rw [if_neg (by omega), if_neg (by omega), if_pos hc]
      exact .bad (by unfold blkR; rw [if_neg (by omega)]) hE
    refine bsplit_dec (fun h => bad (by omega)) (fun hc1 => bsplit_dec (fun h => bad (by omega)) (fun hc2 => ?_))
    have hE : blkE key ctr nonce = 0 := by unfold blkE; rw [if_neg (by omega), if_neg (by omega), if_neg (by omega)]
    refine (block_ok hk hn h1 h2 (by omega) (by omega) hT).mono ?_
    rintro _ w3 ⟨a', c', rfl, ho, b3⟩
    refine ⟨_, _, _, rfl, a', c', ?_, ?_, b3⟩
    · unfold blkR; rw [if_pos hE, hE, blockL_length]
    · unfold blkR; rw [if_pos hE, blockL_length]; exact ho

theorem refBlock_ok (hk : SlR (IntC .u8) 1 w ka key) (hn : SlR (IntC .u8) 1 w na nonce) (hkc : key.length ≤ kc) (hnc : nonce.length ≤ nc) :
    Calls Tryd.prog N_ref13_Block #[.slice ka key.length kc, .int .i64 ctr, .slice na nonce.length nc] w (BOut w (blkR key ctr nonce) (blkE key ctr nonce)) := by
  apply F_ref13_Block_ok
  unfold F_ref13_Block
  refine bsplit_intro (fun h => ?_) (fun h => ?_)
  · have h1 : key.length ≠ 32 := by simp at h; omega
    have hE : blkE key ctr nonce = 9 := by unfold blkE; rw [if_pos h1]
    exact .bad (by unfold blkR; rw [if_neg (by omega)]) hE
  have hkl : key.length = 32 := by simp at h; omega
  refine bsplit_intro (fun h => ?_) (fun h => ?_)
  · have h2 : nonce.length ≠ 12 := by simp at h; omega
    have hE : blkE key ctr nonce = 2 := by unfold blkE; rw [if_neg (by omega), if_pos h2]
    exact .bad (by unfold blkR; rw [if_neg (by omega)]) hE
  have hnl : nonce.length = 12 := by simp at h; omega
  refine ⟨fun w1 => w1 = w ∧ ¬ (ctr < 0 ∨ 4294967295 < ctr), ?_, ?_⟩
  · rintro _ w1 ⟨rfl, hctr⟩
    have hE : blkE key ctr nonce = 0 := by unfold blkE; rw [if_neg (by omega), if_neg (by omega), if_neg hctr]
    have hR : blkR key ctr nonce = blockL key ctr nonce := by unfold blkR; rw [if_pos hE]
    rw [hE, hR]
    intro w2
    have hX2 : Blk w2 w1.heap.size Ty_16_uint32 (arrN .u32 16 fun _ => 0) := Blk.new w1 _ _
    have b2 : Below w1.heap.size w1 w2 := (Below.refl _ _).alloc (Nat.le_refl _) _
    clear_value w2
    refine blk_storeAll hX2 rfl rfl fun w3 hX3 ht3 => ?_
    have b3 := b2.but ht3 (Nat.le_refl _)
    have hX3' : Blk w3 w1.heap.size Ty_16_uint32 (arrN .u32 16 fun j => if j < 4 then constL.getD j 0 else 0) := hX3
    refine ⟨fun x => ((8 - x).toNat, fun w4 => ∃ k : Nat, x = k ∧ k ≤ 8 ∧ Blk w4 w1.heap.size Ty_16_uint32 (arrN .u32 16 fun j => if j < 4 then constL.getD j 0 else if j < 4 + k then word4 (key.drop (4 * (j - 4))) else 0) ∧ Below w1.heap.size w1 w4), ⟨0, rfl, by omega, ?_, b3⟩, ?_⟩
    · refine (arrN_congr fun j hj => ?_) ▸ hX3'
      by_cases h : j < 4
      · rw [if_pos h, if_pos h]
      · rw [if_neg h, if_neg h, if_neg (by omega)]
    clear hX3' hX3 b3 ht3 w3 hX2 b2 w2
    rintro _ x w4 ⟨k, rfl, hk8, hX4, b4⟩
    refine bsplit_dec (fun hlt => ?_) (fun hge => ?_)
    · have hlt : k < 8 := by omega
      rw [show IntKind.wrap .i64 ((4 : Int) * (k : Int)) = ((4 * k : Nat) : Int) from wrap4 (c := 4) (by omega) (by omega), show (((4 * k : Nat) : Int) + 4) = ((4 * k + 4 : Nat) : Int) by omega, wrap_id ((4 * k + 4 : Nat) : Int) (by omega), show ((4 : Int) + (k : Int)) = ((4 + k : Nat) : Int) by omega, wrap_id ((4 + k : Nat) : Int) (by omega)]
      rw [Int.toNat_natCast, Int.toNat_natCast]
      refine ⟨⟨by omega, by omega⟩, ⟨by omega, by omega⟩, ?_⟩
      have hrow := (hk.below b4).cut (m := kc) (l := 4 * k) (by omega) 4
      have := word_ok (c := kc - 4 * k) hrow (by simp; omega)
      rw [show ((key.drop (4 * k)).take 4).length = 4 * k + 4 - 4 * k by simp; omega] at this
      have e4 : word4 ((key.drop (4 * k)).take 4) = word4 (key.drop (4 * k)) := by
        unfold word4
        simp only [List.getD, List.getElem?_take]
        rfl
      rw [e4] at this
      refine this.mono ?_
      rintro _ w5 ⟨rfl, b5⟩
      have hX5 := hX4.below b5 hX4.lt
      refine ⟨_, rfl, ⟨by omega, by omega⟩, ?_, ?_, ?_⟩
      · rw [nb_add, Nat.mul_one]; exact hX5.has (by rw [arrN_size]; omega)
      · rw [nb_add]; exact hX5.frozen _
      · intro w6
        have e6 : w6 = w5.setCell ⟨w1.heap.size, 4 + k, none⟩ (.int .u32 (word4 (key.drop (4 * k)))) := by simp only [w6]; rw [nb_add, Int.toNat_natCast, Nat.mul_one]
        clear_value w6
        subst e6
        intro i1
        have e1 : i1 = ((k + 1 : Nat) : Int) := by simp only [i1]; rw [wrap_id _ (by omega)]; omega
        rw [e1]
        refine ⟨⟨k + 1, rfl, by omega, ?_, (below_step b4 (Nat.le_refl _) b5).setCell (Nat.le_refl _) _⟩, by simp; omega⟩
        have := hX5.set (4 + k) (.int .u32 (word4 (key.drop (4 * k))))
        rw [arrN_set] at this
        refine (arrN_congr fun j hj => ?_) ▸ this
        by_cases hjk : j = 4 + k
        · subst hjk; rw [if_pos rfl, if_neg (by omega), if_pos (by omega), show 4 + k - 4 = k by omega]
        · rw [if_neg hjk]
          by_cases h4 : j < 4
          · rw [if_pos h4, if_pos h4]
          · rw [if_neg h4, if_neg h4]
            by_cases h5 : j < 4 + k
            · rw [if_pos h5, if_pos (by omega)]
            · rw [if_neg h5, if_neg (by omega)]
    · obtain rfl : k = 8 := by omega
      refine ⟨by rw [nb_add]; exact hX4.has (by rw [arrN_size]; omega), by rw [nb_add]; exact hX4.frozen _, ?_⟩
      intro w7
      have hX7 : Blk w7 w1.heap.size Ty_16_uint32 (arrN .u32 16 fun j => if j < 4 then constL.getD j 0 else if j < 12 then word4 (key.drop (4 * (j - 4))) else if j = 12 then w32 ctr else 0) := by
        have := hX4.set 12 (.int .u32 (w32 ctr))
        rw [arrN_set] at this
        have e : w7 = w4.setCell ⟨w1.heap.size, 12, none⟩ (.int .u32 (w32 ctr)) := by simp only [w7]; rw [nb_add]; rfl
        rw [e]
        refine (arrN_congr fun j hj => ?_) ▸ this
        by_cases hj12 : j = 12
        · subst hj12; rfl
        · rw [if_neg hj12, if_neg hj12]
      have b7 : Below w1.heap.size w1 w7 := by simp only [w7]; rw [nb_add]; exact b4.setCell (Nat.le_refl _) _
      clear_value w7
      refine ⟨fun x => ((3 - x).toNat, fun w8 => ∃ k : Nat, x = k ∧ k ≤ 3 ∧ Blk w8 w1.heap.size Ty_16_uint32 (arrN .u32 16 fun j => if j < 4 then constL.getD j 0 else if j < 12 then word4 (key.drop (4 * (j - 4))) else if j = 12 then w32 ctr else if j < 13 + k then word4 (nonce.drop (4 * (j - 13))) else 0) ∧ Below w1.heap.size w1 w8), ⟨0, rfl, by omega, ?_, b7⟩, ?_⟩
      · refine (arrN_congr fun j hj => ?_) ▸ hX7
        by_cases h1 : j < 4
        · rw [if_pos h1, if_pos h1]
        · rw [if_neg h1, if_neg h1]
          by_cases h2 : j < 12
          · rw [if_pos h2, if_pos h2]
          · rw [if_neg h2, if_neg h2]
            by_cases h3 : j = 12
            · rw [if_pos h3, if_pos h3]
            · rw [if_neg h3, if_neg h3, if_neg (by omega)]
      clear hX7 b7 w7 hX4 b4 w4
      rintro _ x w8 ⟨k, rfl, hk3, hX8, b8⟩
      refine bsplit_dec (fun hlt => ?_) (fun hge => ?_)
      · have hlt : k < 3 := by omega
        rw [show IntKind.wrap .i64 ((4 : Int) * (k : Int)) = ((4 * k : Nat) : Int) from wrap4 (c := 4) (by omega) (by omega), show (((4 * k : Nat) : Int) + 4) = ((4 * k + 4 : Nat) : Int) by omega, wrap_id ((4 * k + 4 : Nat) : Int) (by omega), show ((13 : Int) + (k : Int)) = ((13 + k : Nat) : Int) by omega, wrap_id ((13 + k : Nat) : Int) (by omega)]
        rw [Int.toNat_natCast, Int.toNat_natCast]
        refine ⟨⟨by omega, by omega⟩, ⟨by omega, by omega⟩, ?_⟩
        have hrow := (hn.below b8).cut (m := nc) (l := 4 * k) (by omega) 4
        have := word_ok (c := nc - 4 * k) hrow (by simp; omega)
        rw [show ((nonce.drop (4 * k)).take 4).length = 4 * k + 4 - 4 * k by simp; omega] at this
        have e4 : word4 ((nonce.drop (4 * k)).take 4) = word4 (nonce.drop (4 * k)) := by
          unfold word4
          simp only [List.getD, List.getElem?_take]
          rfl
        rw [e4] at this
        refine this.mono ?_
        rintro _ w9 ⟨rfl, b9⟩
        have hX9 := hX8.below b9 hX8.lt
        refine ⟨_, rfl, ⟨by omega, by omega⟩, ?_, ?_, ?_⟩
        · rw [nb_add, Nat.mul_one]; exact hX9.has (by rw [arrN_size]; omega)
        · rw [nb_add]; exact hX9.frozen _
        · intro w10
          have e10 : w10 = w9.setCell ⟨w1.heap.size, 13 + k, none⟩ (.int .u32 (word4 (nonce.drop (4 * k)))) := by simp only [w10]; rw [nb_add, Int.toNat_natCast, Nat.mul_one]
          clear_value w10
          subst e10
          intro i3
          have e3 : i3 = ((k + 1 : Nat) : Int) := by simp only [i3]; rw [wrap_id _ (by omega)]; omega
          rw [e3]
          refine ⟨⟨k + 1, rfl, by omega, ?_, (below_step b8 (Nat.le_refl _) b9).setCell (Nat.le_refl _) _⟩, by simp; omega⟩
          have := hX9.set (13 + k) (.int .u32 (word4 (nonce.drop (4 * k))))
          rw [arrN_set] at this
          refine (arrN_congr fun j hj => ?_) ▸ this
          by_cases hjk : j = 13 + k
          · subst hjk; rw [if_pos rfl, if_neg (by omega), if_neg (by omega), if_neg (by omega), if_pos (by omega), show 13 + k - 13 = k by omega]
          · rw [if_neg hjk]
            by_cases h1 : j < 4
            · rw [if_pos h1, if_pos h1]
            · rw [if_neg h1, if_neg h1]
              by_cases h2 : j < 12
              · rw [if_pos h2, if_pos h2]
              · rw [if_neg h2, if_neg h2]
                by_cases h3 : j = 12
                · rw [if_pos h3, if_pos h3]
                · rw [if_neg h3, if_neg h3]
                  by_cases h5 : j < 13 + k
                  · rw [if_pos h5, if_pos (by omega)]
                  · rw [if_neg h5, if_neg (by omega)]
      · obtain rfl : k = 3 := by omega
        have hX : Blk w8 w1.heap.size Ty_16_uint32 (arrN .u32 16 (st0 key ctr nonce)) := by
          refine (arrN_congr fun j hj => ?_) ▸ hX8
          unfold st0
          by_cases h1 : j < 4
          · rw [if_pos h1, if_pos h1]
          · rw [if_neg h1, if_neg h1]
            by_cases h2 : j < 12
            · rw [if_pos h2, if_pos h2]
            · rw [if_neg h2, if_neg h2]
              by_cases h3 : j = 12
              · rw [if_pos h3, if_pos h3]
              · rw [if_neg h3, if_neg h3, if_pos (by omega)]
        clear hX8
        have hlt0 := hX.lt
        refine ⟨arrN .u32 16 (st0 key ctr nonce), arrN_size _ _ _, blk_cellsAll (by simpa using hX), ?_⟩
        intro w11
        have hS11 : Blk w11 w1.heap.size Ty_16_uint32 (arrN .u32 16 (st0 key ctr nonce)) := hX.alloc _
        have hX11 : Blk w11 w8.heap.size Ty_16_uint32 (arrN .u32 16 fun _ => 0) := Blk.new w8 _ _
        have b11 : Below w1.heap.size w1 w11 := b8.alloc (by omega) _
        clear_value w11
        rw [bcond_iff]
        refine ⟨by rw [arrN_size]; rfl, ?_⟩
        refine blk_storeAll hX11 (by simp [arrN_size]) (arrN_one _ _ _) fun w12 hX12 ht12 => ?_
        have hS12 := hS11.but ht12 (by omega)
        have b12 := b11.but ht12 (by omega)
        have hX12' : Blk w12 w8.heap.size Ty_16_uint32 (arrN .u32 16 (st0 key ctr nonce)) := by simpa using hX12
        have hlt12 := hX12'.lt
        intro w13
        have hX13 : Blk w13 w8.heap.size Ty_16_uint32 (arrN .u32 16 (st0 key ctr nonce)) := hX12'.alloc _
        have hS13 : Blk w13 w1.heap.size Ty_16_uint32 (arrN .u32 16 (st0 key ctr nonce)) := hS12.alloc _
        have hP13 : Blk w13 w12.heap.size Ty_8_4_int (Array.replicate 32 (.int .i64 0)) := Blk.new w12 _ _
        have b13 : Below w1.heap.size w1 w13 := b12.alloc (by omega) _
        clear_value w13
        refine blk_storeAll hP13 rfl rfl fun w14 hP14 ht14 => ?_
        have hX14 := hX13.but ht14 (by omega)
        have hS14 := hS13.but ht14 (by omega)
        have b14 := b13.but ht14 (by omega)
        have hP14' : Blk w14 w12.heap.size Ty_8_4_int laneA := hP14
        clear hP14 ht14 hX13 hS13 hP13 b13 w13
        refine ⟨fun x => ((10 - x).toNat, fun w15 => ∃ r : Nat, x = r ∧ r ≤ 10 ∧ Blk w15 w8.heap.size Ty_16_uint32 (arrN .u32 16 (rnds (st0 key ctr nonce) r)) ∧ Blk w15 w1.heap.size Ty_16_uint32 (arrN .u32 16 (st0 key ctr nonce)) ∧ Blk w15 w12.heap.size Ty_8_4_int laneA ∧ Below w1.heap.size w1 w15), ⟨0, rfl, by omega, hX14, hS14, hP14', b14⟩, ?_⟩
        clear hX14 hS14 hP14' b14 w14
        rintro _ x w15 ⟨r, rfl, hr10, hX15, hS15, hP15, b15⟩
        refine bsplit_dec (fun hlt => ?_) (fun hge => ?_)
        · refine ⟨fun x => ((8 - x).toNat, fun w16 => ∃ k : Nat, x = k ∧ k ≤ 8 ∧ Blk w16 w8.heap.size Ty_16_uint32 (arrN .u32 16 (rnd (rnds (st0 key ctr nonce) r) k)) ∧ Blk w16 w1.heap.size Ty_16_uint32 (arrN .u32 16 (st0 key ctr nonce)) ∧ Blk w16 w12.heap.size Ty_8_4_int laneA ∧ Below w1.heap.size w1 w16), ⟨0, rfl, by omega, hX15, hS15, hP15, b15⟩, ?_⟩
          clear hX15 hS15 hP15 b15 w15
          rintro _ x w16 ⟨k, rfl, hk8, hX17, hS17, hP17, b17⟩
          refine bsplit_dec (fun hlt => ?_) (fun hge => ?_)
          · have hlt : k < 8 := by omega
            refine ⟨⟨by omega, by omega⟩, _, _, _, _, by rw [nb_add, Int.toNat_natCast]; exact lane_cells hP17 hlt, ?_⟩
            obtain ⟨l0, l1, l2, l3⟩ := lane4_lt hlt
            obtain ⟨s, hs⟩ : ∃ s, rnd (rnds (st0 key ctr nonce) r) k = s := ⟨_, rfl⟩
            rw [hs] at hX17
            intro w17
            have hX18 : Blk w17 w8.heap.size Ty_16_uint32 (arrN .u32 16 s) := hX17.alloc _
            have hS18 : Blk w17 w1.heap.size Ty_16_uint32 (arrN .u32 16 (st0 key ctr nonce)) := hS17.alloc _
            have hL18 : Blk w17 w16.heap.size Ty_4_int #[.int .i64 0, .int .i64 0, .int .i64 0, .int .i64 0] := Blk.new w16 _ _
            have b18 : Below w1.heap.size w1 w17 := b17.alloc (by have := hX17.lt; omega) _
            have hP18 : Blk w17 w12.heap.size Ty_8_4_int laneA := hP17.alloc _
            clear_value w17
            refine blk_storeAll hL18 rfl rfl fun w18 hL19 ht19 => ?_
            have hX19 := hX18.but ht19 (show w8.heap.size ≠ w16.heap.size by have := hX17.lt; omega)
            have hS19 := hS18.but ht19 (show w1.heap.size ≠ w16.heap.size by have := hS17.lt; omega)
            have b19 := b18.but ht19 (show w1.heap.size ≤ w16.heap.size by have := hX17.lt; omega)
            have hP19 := hP18.but ht19 (show w12.heap.size ≠ w16.heap.size by have := hP17.lt; omega)
            intro w19
            have hX20 : Blk w19 w8.heap.size Ty_16_uint32 (arrN .u32 16 (s)) := hX19
            have hS20 : Blk w19 w1.heap.size Ty_16_uint32 (arrN .u32 16 (st0 key ctr nonce)) := hS19
            have hL20 : Blk w19 w16.heap.size Ty_4_int [Value.int .i64 (lane (4 * k) : Nat), .int .i64 (lane (4 * k + 1) : Nat), .int .i64 (lane (4 * k + 2) : Nat), .int .i64 (lane (4 * k + 3) : Nat)].toArray := hL19
            have b20 : Below w1.heap.size w1 w19 := b19.drew
            have hP20 : Blk w19 w12.heap.size Ty_8_4_int laneA := hP19
            have hne : w8.heap.size ≠ w16.heap.size := by have := hX17.lt; omega
            have hneS : w1.heap.size ≠ w8.heap.size := by omega
            have hneP : w12.heap.size ≠ w8.heap.size := by omega
            clear_value w19
            have cl : ∀ {w' : World} {cs : Array Value}, Blk w' w8.heap.size Ty_16_uint32 cs → ∀ l : Nat, cs[l]? = some (.int .u32 (s l)) → w'.cell? ((nb w8).add ((l : Int).toNat * 1)) = some (.int .u32 (s l)) := fun h l hl => by
              rw [nb_add, Int.toNat_natCast, Nat.mul_one]; exact h.cell0 l hl
            have cx : ∀ l : Nat, l < 16 → w19.cell? ((nb w8).add ((l : Int).toNat * 1)) = some (.int .u32 (s l)) := fun l hl => cl hX20 l (arrN_get hl)
            have hx0 : w19.cell? (nb w16) = some (.int .i64 (lane (4 * k) : Nat)) := hL20.cell0 0 rfl
            have hx1 : w19.cell? ((nb w16).add 1) = some (.int .i64 (lane (4 * k + 1) : Nat)) := by rw [nb_add]; exact hL20.cell0 1 rfl
            have hx2 : w19.cell? ((nb w16).add 2) = some (.int .i64 (lane (4 * k + 2) : Nat)) := by rw [nb_add]; exact hL20.cell0 2 rfl
            have hx3 : w19.cell? ((nb w16).add 3) = some (.int .i64 (lane (4 * k + 3) : Nat)) := by rw [nb_add]; exact hL20.cell0 3 rfl
            have sb : ∀ j, ((nb w16).add j).block = w16.heap.size := fun j => by rw [add_block]; rfl
            refine ⟨(· = w16.heap.size), rfl, _, hx0, sb 1, _, hx1, sb 2, _, hx2, sb 3, _, hx3,
              rfl, _, hx0, ⟨by omega, by omega⟩, _, cx _ l0, sb 1, _, hx1, ⟨by omega, by omega⟩, _, cx _ l1, sb 2, _, hx2, ⟨by omega, by omega⟩, _, cx _ l2, sb 3, _, hx3, ⟨by omega, by omega⟩, _, cx _ l3, ?_⟩
            refine (refquarter_ok _ _ _ _ w19).mono ?_
            rintro _ w20 ⟨rfl, rfl⟩
            refine ⟨_, _, _, _, rfl, KeepsB.refl _ _, ⟨by omega, by omega⟩, ?_⟩
            have kb : ∀ {w' : World} (l : Nat) (v : Value), KeepsB (· = w16.heap.size) w20 w' → KeepsB (· = w16.heap.size) w20 (w'.setCell ⟨w8.heap.size, l, none⟩ v) := fun l v h p u hp hc => by
              rw [World.cell?_of_block (Below.heap_setCell _ _ _ _ (by have : p.block = w16.heap.size := hp; simp; omega))]
              exact h p u hp hc
            have ad : ∀ l : Nat, (nb w8).add ((l : Int).toNat * 1) = ⟨w8.heap.size, l, none⟩ := fun l => by rw [nb_add, Int.toNat_natCast, Nat.mul_one]
            refine ⟨by rw [ad]; exact hX20.has (by rw [arrN_size]; omega), by rw [ad]; exact hX20.frozen _, ?_⟩
            intro w21
            have e22 : w21 = w20.setCell ⟨w8.heap.size, lane (4 * k), none⟩ (.int .u32 (laneQ s k).a) := by simp only [w21]; rw [ad]; rfl
            clear_value w21
            subst e22
            have hX22 := hX20.set (lane (4 * k)) (.int .u32 (laneQ s k).a)
            refine ⟨kb _ _ (KeepsB.refl _ _), ⟨by omega, by omega⟩, by rw [ad]; exact hX22.has (by simp [arrN_size]; omega), by rw [ad]; exact hX22.frozen _, ?_⟩
            intro w22
            have e23 : w22 = (w20.setCell ⟨w8.heap.size, lane (4 * k), none⟩ (.int .u32 (laneQ s k).a)).setCell ⟨w8.heap.size, lane (4 * k + 1), none⟩ (.int .u32 (laneQ s k).b) := by simp only [w22]; rw [ad]; rfl
            clear_value w22
            subst e23
            have hX23 := hX22.set (lane (4 * k + 1)) (.int .u32 (laneQ s k).b)
            refine ⟨kb _ _ (kb _ _ (KeepsB.refl _ _)), ⟨by omega, by omega⟩, by rw [ad]; exact hX23.has (by simp [arrN_size]; omega), by rw [ad]; exact hX23.frozen _, ?_⟩
            intro w23
            have e24 : w23 = ((w20.setCell ⟨w8.heap.size, lane (4 * k), none⟩ (.int .u32 (laneQ s k).a)).setCell ⟨w8.heap.size, lane (4 * k + 1), none⟩ (.int .u32 (laneQ s k).b)).setCell ⟨w8.heap.size, lane (4 * k + 2), none⟩ (.int .u32 (laneQ s k).c) := by simp only [w23]; rw [ad]; rfl
            clear_value w23
            subst e24
            have hX24 := hX23.set (lane (4 * k + 2)) (.int .u32 (laneQ s k).c)
            refine ⟨kb _ _ (kb _ _ (kb _ _ (KeepsB.refl _ _))), ⟨by omega, by omega⟩, by rw [ad]; exact hX24.has (by simp [arrN_size]; omega), by rw [ad]; exact hX24.frozen _, ?_⟩
            intro w24
            have e25 : w24 = (((w20.setCell ⟨w8.heap.size, lane (4 * k), none⟩ (.int .u32 (laneQ s k).a)).setCell ⟨w8.heap.size, lane (4 * k + 1), none⟩ (.int .u32 (laneQ s k).b)).setCell ⟨w8.heap.size, lane (4 * k + 2), none⟩ (.int .u32 (laneQ s k).c)).setCell ⟨w8.heap.size, lane (4 * k + 3), none⟩ (.int .u32 (laneQ s k).d) := by simp only [w24]; rw [ad]; rfl
            clear_value w24
            subst e25
            have hX25 := hX24.set (lane (4 * k + 3)) (.int .u32 (laneQ s k).d)
            rw [arr_upd4] at hX25
            have hS25 := (((hS20.far (p := ⟨w8.heap.size, lane (4 * k), none⟩) hneS (.int .u32 (laneQ s k).a)).far (p := ⟨w8.heap.size, lane (4 * k + 1), none⟩) hneS (.int .u32 (laneQ s k).b)).far (p := ⟨w8.heap.size, lane (4 * k + 2), none⟩) hneS (.int .u32 (laneQ s k).c)).far (p := ⟨w8.heap.size, lane (4 * k + 3), none⟩) hneS (.int .u32 (laneQ s k).d)
            have hP25 := (((hP20.far (p := ⟨w8.heap.size, lane (4 * k), none⟩) hneP (.int .u32 (laneQ s k).a)).far (p := ⟨w8.heap.size, lane (4 * k + 1), none⟩) hneP (.int .u32 (laneQ s k).b)).far (p := ⟨w8.heap.size, lane (4 * k + 2), none⟩) hneP (.int .u32 (laneQ s k).c)).far (p := ⟨w8.heap.size, lane (4 * k + 3), none⟩) hneP (.int .u32 (laneQ s k).d)
            have b25 := (((b20.setCell (p := ⟨w8.heap.size, lane (4 * k), none⟩) (show w1.heap.size ≤ w8.heap.size by omega) (.int .u32 (laneQ s k).a)).setCell (p := ⟨w8.heap.size, lane (4 * k + 1), none⟩) (show w1.heap.size ≤ w8.heap.size by omega) (.int .u32 (laneQ s k).b)).setCell (p := ⟨w8.heap.size, lane (4 * k + 2), none⟩) (show w1.heap.size ≤ w8.heap.size by omega) (.int .u32 (laneQ s k).c)).setCell (p := ⟨w8.heap.size, lane (4 * k + 3), none⟩) (show w1.heap.size ≤ w8.heap.size by omega) (.int .u32 (laneQ s k).d)
            intro i5
            have e5 : i5 = ((k + 1 : Nat) : Int) := by simp only [i5]; rw [wrap_id _ (by omega)]; omega
            rw [e5]
            refine ⟨⟨k + 1, rfl, by omega, ?_, hS25, hP25, b25⟩, by simp; omega⟩
            have : rnd (rnds (st0 key ctr nonce) r) (k + 1) = upd4 s k := by rw [rnd, hs]
            rw [this]; exact hX25
          · obtain rfl : k = 8 := by omega
            intro r7
            have e7 : r7 = ((r + 1 : Nat) : Int) := by simp only [r7]; rw [wrap_id _ (by omega)]; omega
            rw [e7]
            exact ⟨⟨r + 1, rfl, by omega, hX17, hS17, hP17, b17⟩, by simp; omega⟩
        · obtain rfl : r = 10 := by omega
          refine ⟨fun oa ol oc x => ((16 - x).toNat, fun w25 => ∃ i : Nat, x = i ∧ i ≤ 16 ∧ ol = 4 * i ∧ Blk w25 w8.heap.size Ty_16_uint32 (arrN .u32 16 (rnds (st0 key ctr nonce) 10)) ∧ Blk w25 w1.heap.size Ty_16_uint32 (arrN .u32 16 (st0 key ctr nonce)) ∧ OwnI w25 (w12.heap.size + 1) Ty_uint8 .u8 oa (4 * i) oc (outL (st0 key ctr nonce) i) ∧ Below w1.heap.size w1 w25 ∧ w12.heap.size < w25.heap.size), ⟨0, rfl, by omega, rfl, hX15, hS15, OwnI.nil_ .., b15, hP15.lt⟩, ?_⟩
          clear hX15 hS15 hP15 b15 w15
          rintro _ oa ol oc x w25 ⟨i, rfl, hi16, rfl, hX25, hS25, ho25, b25, hs25⟩
          refine bsplit_dec (fun hlt => ?_) (fun hge => ?_)
          · have hlt : i < 16 := by omega
            intro w26
            have hX26 : Blk w26 w8.heap.size Ty_16_uint32 (arrN .u32 16 (rnds (st0 key ctr nonce) 10)) := hX25
            have hS26 : Blk w26 w1.heap.size Ty_16_uint32 (arrN .u32 16 (st0 key ctr nonce)) := hS25
            have ho26 : OwnI w26 (w12.heap.size + 1) Ty_uint8 .u8 oa (4 * i) oc (outL (st0 key ctr nonce) i) := ho25
            have b26 : Below w1.heap.size w1 w26 := b25.drew
            have hs26 : w12.heap.size < w26.heap.size := hs25
            clear_value w26
            refine ⟨⟨by omega, by omega⟩, rnds (st0 key ctr nonce) 10 i, by rw [nb_add, Int.toNat_natCast, Nat.mul_one]; exact hX26.cell0 i (arrN_get hlt), ⟨by omega, by omega⟩, st0 key ctr nonce i, by rw [nb_add, Int.toNat_natCast, Nat.mul_one]; exact hS26.cell0 i (arrN_get hlt), ?_⟩
            intro v
            have ev : v = w32 (rnds (st0 key ctr nonce) 10 i + st0 key ctr nonce i) := rfl
            clear_value v
            intro w27
            have hs : SlR (IntC .u8) 1 w27 (some (nb w26)) (by4 v) := by
              refine .inr ⟨_, rfl, fun i hi => ?_⟩
              have hB := Blk.new w26 Ty_uint8 ((by4 v).map (Value.int .u8)).toArray
              show World.cell? _ _ = _
              rw [nb_add, Nat.mul_one]
              exact hB.cell0 i (by simp [hi])
            have hX27 : Blk w27 w8.heap.size Ty_16_uint32 (arrN .u32 16 (rnds (st0 key ctr nonce) 10)) := hX26.alloc _
            have hS27 : Blk w27 w1.heap.size Ty_16_uint32 (arrN .u32 16 (st0 key ctr nonce)) := hS26.alloc _
            have ho27 : OwnI w27 (w12.heap.size + 1) Ty_uint8 .u8 oa (4 * i) oc (outL (st0 key ctr nonce) i) := ho26.alloc _
            have b27 : Below w1.heap.size w1 w27 := b26.alloc (by omega) _
            have hs27 : w12.heap.size + 1 ≤ w27.heap.size := by simp [w27]; omega
            clear_value w27
            refine ho27.appSl (b := some (nb w26)) (news := by4 v) (c2 := 4) sl_Ty_S_uint8 hs (by simp [by4]; omega) (by simp [by4]; omega) hs27 fun a' c' w28 ho' hg _ => ?_
            intro i7
            have e7 : i7 = ((i + 1 : Nat) : Int) := by simp only [i7]; rw [wrap_id _ (by omega)]; omega
            rw [e7]
            have hob : ∀ q, ob oa = some q → w12.heap.size < q := fun q hq => by have := (ho27.lt hq).1; omega
            refine ⟨⟨i + 1, rfl, by omega, rfl, ?_, ?_, ?_, ?_, ?_⟩, by simp; omega⟩
            · exact (hg.block _ hX27.lt (fun e => by have := hob _ e.symm; omega)).trans hX27
            · exact (hg.block _ hS27.lt (fun e => by have := hob _ e.symm; omega)).trans hS27
            · have : 4 * i + (by4 v).length = 4 * (i + 1) := by simp [by4]; omega
              rw [this] at ho'
              rw [outL, ← ev]
              exact ho'
            · exact b27.app hg (by omega) fun q hq => by have := hob q hq; omega
            · have := hg.size; omega
          · obtain rfl : i = 16 := by omega
            refine ⟨oa, oc, by rw [blockL_length], ?_, b25⟩
            rw [blockL_length]
            exact ho25.weaken (by omega)
  · have bad : (ctr < 0 ∨ 4294967295 < ctr) → BOut w (blkR key ctr nonce) (blkE key ctr nonce) (.returned (.tuple #[.slice none 0 0, .int .i64 3])) w := fun hc => by
      have hE : blkE key ctr nonce = 3 := by unfold blkE; rw [if_neg (by omega), if_neg (by omega), if_pos hc]
      exact .bad (by unfold blkR; rw [if_neg (by omega)]) hE
    exact bsplit_dec (fun h => bad (by omega)) (fun hc1 => bsplit_dec (fun h => bad (by omega)) (fun hc2 => ⟨rfl, by omega⟩))
end
end Go.Proofs.YtblfbanfepocnaaDoor
