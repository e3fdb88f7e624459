import Derived.Test.YtamkmafmhglfkaaW26p
namespace Go.Proofs.Ytamkmafmhglfkaa
open Go.Sx Go.RowKit
set_option maxRecDepth 100000

section
variable {x0 x1 x2 x3 room : Int} {w : World}
theorem ref26_Encode_ct : Calls Try.prog N_ref26_Encode #[.agg #[.int .i64 x0, .int .i64 x1, .int .i64 x2, .int .i64 x3], .int .i64 room] w
    (SecOut w (encC (l4 x0 x1 x2 x3) room) (encB (l4 x0 x1 x2 x3) room) (encE (l4 x0 x1 x2 x3) room)) := by
  apply F_ref26_Encode_ok
  unfold F_ref26_Encode
  obtain ⟨l, hl⟩ : ∃ l, l = l4 x0 x1 x2 x3 := ⟨_, rfl⟩
  have H := St.nil w
  refine H.alloc ?_; clear H; intro b w1 H1
  refine H1.alloc ?_; clear H1; intro b1 w2 H2
  simp only [List.nil_append, List.cons_append] at H2
  replace H2 : St (fun _ => False) [] w w2 [.blk b Ty_api_Waiting (aL l), .blk b1 Ty_api_Section [(.int .i64 (0 : Int)), (.slice none 0 0)]] (fun _ => True) := by rw [hl]; exact H2
  rw [← hl]
  -- a result without bytes
  have bad : ∀ {w' : World} {R : List Res} {E : Int}, St (fun _ => False) [] w w' R (fun _ => True) → R[1]? = some (.blk b1 Ty_api_Section [(.int .i64 (0 : Int)), (.slice none 0 0)]) → encE l room = E → E ≠ 0 →
      sxStore w' ⟨b1, 0, none⟩ 0 [(.int .i64 (0 : Int)), (.slice none 0 0)] fun w4 =>
        ∃ r_0 : Int, ∃ r_1_a : Option Addr, ∃ r_1_l : Nat, ∃ r_1_c : Nat, cellsAt w4 ⟨b1, 0, none⟩ 0 [(.int .i64 r_0), (.slice r_1_a r_1_l r_1_c)] ∧
          SecOut w (encC l room) (encB l room) (encE l room) (.returned (.tuple #[(.agg #[.int .i64 r_0, .slice r_1_a r_1_l r_1_c]), (.int .i64 E)])) w4 := by
    intro w' R E H hR hE hne
    refine H.store hR (by rfl) (by rfl) ?_; intro w4 H4
    have hi : (R.set 1 (.blk b1 Ty_api_Section [(.int .i64 (0 : Int)), (.slice none 0 0)]))[1]? = some (.blk b1 Ty_api_Section [(.int .i64 (0 : Int)), (.slice none 0 0)]) := by
      have := (List.getElem?_eq_some_iff.1 hR).1
      simp [this]
    refine ⟨_, _, _, _, H4.cells hi, ?_⟩
    have h1 : encC l room = 0 := by unfold encC; rw [if_pos (by omega)]
    have h2 : encB l room = [] := by unfold encB; rw [if_pos (by omega)]
    rw [h1, h2, hE]
    exact ⟨none, 0, rfl, .nil, H4.below⟩
  refine ⟨fun g i => ((4 - i).toNat, fun w3 => ∃ k : Nat, i = k ∧ k ≤ 4 ∧ g = (bst l k : Nat) ∧ (∀ j, j < k → 0 ≤ l j ∧ l j < 16) ∧
    St (fun _ => False) [] w w3 [.blk b Ty_api_Waiting (aL l), .blk b1 Ty_api_Section [(.int .i64 (0 : Int)), (.slice none 0 0)]] (fun _ => True)), ⟨0, rfl, by omega, rfl, fun j h => by omega, H2⟩, ?_⟩
  clear H2
  rintro _ g i w3 ⟨k, rfl, hk, rfl, hgood, H3⟩
  have hbl := bst_lt l k hk
  refine bsplit_dec (fun c5 => ?_) (fun c5 => ?_) --  (decide (i < (4 : Int)))
  · refine ⟨fun w6 => St (fun _ => False) [] w w6 [.blk b Ty_api_Waiting (aL l), .blk b1 Ty_api_Section [(.int .i64 (0 : Int)), (.slice none 0 0)]] (fun _ => True) ∧ 0 ≤ l k ∧ l k < 16, ?_, ?_⟩
    · rintro _  w6 ⟨H6, hj⟩
      refine H6.drew ?_; clear H6; intro w7 H7
      refine ⟨⟨by omega, by omega⟩, ?_⟩
      refine ⟨_, by rw [ad0]; exact H7.cell (i := 0) rfl (aL_get (by omega)), ?_⟩
      refine ⟨⟨by omega, by omega⟩, ?_⟩
      refine ⟨_, by rw [ad0]; exact H7.cell (i := 0) rfl (aL_get (by omega)), ?_⟩
      simp only [Int.toNat_natCast]
      have hg : ∀ j, j < k + 1 → 0 ≤ l j ∧ l j < 16 := fun j h => by
        rcases Nat.lt_or_ge j k with h' | h'
        · exact hgood j h'
        · rw [show j = k by omega]; exact hj
      refine bsplit_dec (fun c2 => ?_) (fun c2 => ?_) --  (decide (x2 > x3))
      · refine kW_i64 (by omega) ?_ -- i + (1 : Int)
        exact ⟨⟨k + 1, by omega, by omega, by simp only [bst]; rw [if_pos c2], hg, H7⟩, by omega⟩
      · refine kW_i64 (by omega) ?_ -- i + (1 : Int)
        exact ⟨⟨k + 1, by omega, by omega, by simp only [bst]; rw [if_neg c2], hg, H7⟩, by omega⟩
    · refine ⟨⟨by omega, by omega⟩, ?_⟩
      refine ⟨_, by rw [ad0]; exact H3.cell (i := 0) rfl (aL_get (by omega)), ?_⟩
      simp only [Int.toNat_natCast]
      have hno : ¬ (0 ≤ l k ∧ l k < 16) → encE l room = 1 := fun h => by
        unfold encE; rw [if_pos (fun hc => h (hc k (by omega)))]
      refine bsplit_dec (fun c1 => ?_) (fun c1 => ?_) --  (decide (x < (0 : Int)))
      · exact bad H3 rfl (hno (by omega)) (by decide)
      · refine ⟨⟨by omega, by omega⟩, ?_⟩
        refine ⟨_, by rw [ad0]; exact H3.cell (i := 0) rfl (aL_get (by omega)), ?_⟩
        simp only [Int.toNat_natCast]
        refine bsplit_dec (fun c => ?_) (fun c => ?_) --  (decide (x1 > (15 : Int)))
        · exact bad H3 rfl (hno (by omega)) (by decide)
        · exact ⟨H3, by omega, by omega⟩
  · obtain rfl : k = 4 := by omega
    have hok : lvOk l := fun j hj => hgood j (by omega)
    have h0 := hok 0 (by omega); have h1 := hok 1 (by omega); have h2 := hok 2 (by omega); have h3 := hok 3 (by omega)
    refine ⟨_, _, _, _, H3.cells (i := 0) rfl, ?_⟩
    refine H3.alloc ?_; clear H3; intro b2 w8 H8
    simp only [List.nil_append, List.cons_append] at H8
    refine H8.store (i := 2) rfl (by rfl) (by rfl) ?_; clear H8; intro w9 H9
    simp only [List.set_cons_succ, List.set_cons_zero] at H9
    replace H9 : St (fun _ => False) [] w w9 [.blk b Ty_api_Waiting (aL l), .blk b1 Ty_api_Section [(.int .i64 (0 : Int)), (.slice none 0 0)], .blk b2 Ty_4_int (aL l)] (fun _ => True) := H9
    refine kLet_in ?_
    refine bsplit_dec (fun c4 => ?_) (fun c4 => ?_) --  (decide (room ≥ (4 : Int)))
    · have hE : encE l room = 0 := by unfold encE; rw [if_neg (by simpa using hok), if_neg (by omega)]
      have hC : encC l room = 9 := by unfold encC; rw [if_neg (by omega), if_neg (by omega)]
      have hB : encB l room = [16 * l 0 + l 1, 16 * l 2 + l 3] := by unfold encB; rw [if_neg (by omega), if_neg (by omega)]
      refine H9.ld (i := 2) rfl (aL_get (by omega)) ?_
      refine kW_i64 (by omega) ?_ -- (16 : Int) * w_0
      refine H9.ld (i := 2) rfl (aL_get (by omega)) ?_
      refine kW_i64 (by omega) ?_ -- ((16 : Int) * w_0) + w_1
      refine kWu8 ?_
      refine H9.ld (i := 2) rfl (aL_get (by omega)) ?_
      refine kW_i64 (by omega) ?_ -- (16 : Int) * w_2
      refine H9.ld (i := 2) rfl (aL_get (by omega)) ?_
      refine kW_i64 (by omega) ?_ -- ((16 : Int) * w_2) + w_3
      refine kWu8 ?_
      rw [Int.emod_eq_of_lt (a := 16 * l 0 + l 1) (by omega) (by omega), Int.emod_eq_of_lt (a := 16 * l 2 + l 3) (by omega) (by omega)]
      refine H9.alloc ?_; clear H9; intro b3 w10 H10
      simp only [List.nil_append, List.cons_append] at H10
      refine H10.store (i := 1) rfl (by rfl) (by rfl) ?_; clear H10; intro w11 H11
      simp only [List.set_cons_succ, List.set_cons_zero] at H11
      refine ⟨_, _, _, _, H11.cells (i := 1) rfl, ?_⟩
      have K := H11.litI (i := 3) [16 * l 0 + l 1, 16 * l 2 + l 3] rfl (by show 2 ≤ maxLen; decide)
      rw [hC, hB, hE]
      exact ⟨_, _, rfl, K.slI (i := 3) rfl, H11.below⟩
    · refine kLet_in ?_
      refine bsplit_dec (fun c3 => ?_) (fun c3 => ?_) --  (decide (room = (3 : Int)))
      · have hE : encE l room = 0 := by unfold encE; rw [if_neg (by simpa using hok), if_neg (by omega)]
        have hC : encC l room = 8 := by unfold encC; rw [if_neg (by omega), if_pos c3]
        have hB : encB l room = [64 * (bst l 4 : Int) + l (bst l 4)] := by unfold encB; rw [if_neg (by omega), if_pos c3]
        have hv := hok _ hbl
        refine kW_i64 (by omega) ?_ -- (64 : Int) * g
        refine ⟨⟨by omega, by omega⟩, ?_⟩
        refine ⟨_, by rw [ad0]; exact H9.cell (i := 2) rfl (aL_get (by omega)), ?_⟩
        simp only [Int.toNat_natCast]
        refine kW_i64 (by omega) ?_ -- ((64 : Int) * g) + x19
        refine kWu8 ?_
        rw [Int.emod_eq_of_lt (by omega) (by omega)]
        refine H9.alloc ?_; clear H9; intro b4 w12 H12
        simp only [List.nil_append, List.cons_append] at H12
        refine H12.store (i := 1) rfl (by rfl) (by rfl) ?_; clear H12; intro w13 H13
        simp only [List.set_cons_succ, List.set_cons_zero] at H13
        refine ⟨_, _, _, _, H13.cells (i := 1) rfl, ?_⟩
        have K := H13.litI (i := 3) [64 * (bst l 4 : Int) + l (bst l 4)] rfl (by show 1 ≤ maxLen; decide)
        rw [hC, hB, hE]
        exact ⟨_, _, rfl, K.slI (i := 3) rfl, H13.below⟩
      · exact bad H9 rfl (by unfold encE; rw [if_neg (by simpa using hok), if_pos (by omega)]) (by decide)
end

section
variable {ch : Int} {a : Option Addr} {c : Nat} {bs : List Int} {w : World}
theorem ref26_Decode_ct (ha : SlR (IntC .u8) 1 w a bs) (hb : Bytes bs) :
    Calls Try.prog N_ref26_Decode #[.agg #[.int .i64 ch, .slice a bs.length c]] w fun e w' => e = .returned (.tuple #[.agg (arrN .i64 4 (decL ch bs)), .int .i64 (decE ch bs)]) ∧ Below w.heap.size w w' := by
  apply F_ref26_Decode_ok
  unfold F_ref26_Decode
  have H := St.nil w
  refine H.alloc ?_; clear H; intro b w1 H1
  refine H1.alloc ?_; clear H1; intro b1 w2 H2
  refine H2.alloc ?_; clear H2; intro b2 w3 H3
  simp only [List.nil_append, List.cons_append] at H3
  refine H3.store (i := 2) rfl (by rfl) (by rfl) ?_; clear H3; intro w4 H4
  simp only [List.set_cons_succ, List.set_cons_zero] at H4
  replace H4 : St (fun _ => False) [] w w4 [.blk b Ty_api_Section [(.int .i64 ch), (.slice a bs.length c)], .blk b1 Ty_api_Waiting (aL fun _ => 0), .blk b2 Ty_api_Waiting (aL fun _ => 0)] (fun _ => True) := H4
  have out : ∀ {w' : World} {L : Nat → Int} {E : Int}, St (fun _ => False) [] w w' [.blk b Ty_api_Section [(.int .i64 ch), (.slice a bs.length c)], .blk b1 Ty_api_Waiting (aL fun _ => 0), .blk b2 Ty_api_Waiting (aL L)] (fun _ => True) → (∀ j, j < 4 → L j = decL ch bs j) → E = decE ch bs →
      ∃ x0 x1 x2 x3 : Int, cellsAt w' ⟨b2, 0, none⟩ 0 [.int .i64 x0, .int .i64 x1, .int .i64 x2, .int .i64 x3] ∧ sxStore w' ⟨b1, 0, none⟩ 0 [.int .i64 x0, .int .i64 x1, .int .i64 x2, .int .i64 x3] fun w4 =>
        ∃ r0 r1 r2 r3 : Int, cellsAt w4 ⟨b1, 0, none⟩ 0 [.int .i64 r0, .int .i64 r1, .int .i64 r2, .int .i64 r3] ∧
        (Ending.returned (.tuple #[.agg #[.int .i64 r0, .int .i64 r1, .int .i64 r2, .int .i64 r3], .int .i64 E]) = .returned (.tuple #[.agg (arrN .i64 4 (decL ch bs)), .int .i64 (decE ch bs)]) ∧ Below w.heap.size w w4) := by
    intro w' L E H hL hE
    rw [aL_congr hL] at H
    refine ⟨_, _, _, _, H.cells (i := 2) rfl, ?_⟩
    refine H.store (i := 1) rfl (by rfl) (by rfl) ?_; intro w6 H6
    refine ⟨_, _, _, _, H6.cells (i := 1) rfl, ?_⟩
    exact ⟨by rw [hE]; rfl, H6.below⟩
  have zero : ∀ {E : Int}, decE ch bs = E → E ≠ 0 → ∀ j, j < 4 → (fun _ => 0 : Nat → Int) j = decL ch bs j := fun hE hne j _ => by unfold decL; rw [if_pos (by omega)]
  refine ⟨fun x3 w5 => St (fun _ => False) [] w w5 [.blk b Ty_api_Section [(.int .i64 ch), (.slice a bs.length c)], .blk b1 Ty_api_Waiting (aL fun _ => 0), .blk b2 Ty_api_Waiting (aL fun _ => 0)] (fun _ => True) ∧ (x3 = true ↔ ch ≠ 9 ∧ ch ≠ 8), ?_, ?_⟩
  · rintro _ x3 w5 ⟨H5, hj⟩
    refine bsplit_intro (fun c9 => ?_) (fun c9 => ?_) --  x3
    · have hE : decE ch bs = 7 := by unfold decE; rw [if_neg (hj.1 c9).1, if_neg (hj.1 c9).2]
      exact out H5 (zero hE (by decide)) hE.symm
    · have hch : ch = 9 ∨ ch = 8 := by
        by_cases h : ch = 9
        · exact .inl h
        · by_cases h2 : ch = 8
          · exact .inr h2
          · rw [hj.2 ⟨h, h2⟩] at c9; cases c9
      refine ⟨fun x10 w7 => St (fun _ => False) [] w w7 [.blk b Ty_api_Section [(.int .i64 ch), (.slice a bs.length c)], .blk b1 Ty_api_Waiting (aL fun _ => 0), .blk b2 Ty_api_Waiting (aL fun _ => 0)] (fun _ => True) ∧ (x10 = true ↔ (ch = 9 ∧ bs.length ≠ 2) ∨ (ch = 8 ∧ bs.length ≠ 1)), ?_, ?_⟩
      · rintro _ x10 w7 ⟨H7, hj2⟩
        refine bsplit_intro (fun c8 => ?_) (fun c8 => ?_) --  x10
        · have hE : decE ch bs = 2 := by
            unfold decE
            rcases hj2.1 c8 with ⟨h, h'⟩ | ⟨h, h'⟩
            · rw [if_pos h, if_pos h']
            · rw [if_neg (by omega), if_pos h, if_pos h']
          exact out H7 (zero hE (by decide)) hE.symm
        · have hn : ¬ ((ch = 9 ∧ bs.length ≠ 2) ∨ (ch = 8 ∧ bs.length ≠ 1)) := fun h => by rw [hj2.2 h] at c8; cases c8
          have hlen : 0 < bs.length := by omega
          have hb0 := hb 0 hlen
          have hd0 : bs.getD 0 0 = bs[0] := getD_at hlen
          refine ⟨fun x15 w9 => St (fun _ => False) [] w w9 [.blk b Ty_api_Section [(.int .i64 ch), (.slice a bs.length c)], .blk b1 Ty_api_Waiting (aL fun _ => 0), .blk b2 Ty_api_Waiting (aL fun _ => 0)] (fun _ => True) ∧ (x15 = true ↔ ch = 8 ∧ bs[0] / 16 % 4 ≠ 0), ?_, ?_⟩
          · rintro _ x15 w9 ⟨H9, hj3⟩
            refine bsplit_intro (fun c7 => ?_) (fun c7 => ?_) --  x15
            · obtain ⟨h8, h48⟩ := hj3.1 c7
              have hE : decE ch bs = 4 := by
                unfold decE
                rw [if_neg (by omega), if_pos h8, if_neg (by omega), hd0, if_pos h48]
              exact out H9 (zero hE (by decide)) hE.symm
            · have hn3 : ¬ (ch = 8 ∧ bs[0] / 16 % 4 ≠ 0) := fun h => by rw [hj3.2 h] at c7; cases c7
              have hE : decE ch bs = 0 := by
                unfold decE
                rcases hch with h | h
                · rw [if_pos h, if_neg (by omega)]
                · rw [if_neg (by omega), if_pos h, if_neg (by omega), hd0, if_neg (by omega)]
              refine H9.ld (i := 0) rfl rfl ?_
              refine kLet_in ?_
              refine bsplit_dec (fun c6 => ?_) (fun c6 => ?_) --  (decide (s_0 = (8 : Int)))
              · refine H9.drew ?_; clear H9; intro w11 H11
                obtain ⟨p, hp, hp0⟩ := (ha.below H11.below).get hlen
                subst hp
                refine H11.ldS (i := 0) rfl rfl ?_
                refine ⟨p, rfl, ⟨by omega, by omega⟩, ?_⟩
                refine ⟨_, hp0, ?_⟩
                refine kFdiv ?_
                refine H11.ldS (i := 0) rfl rfl ?_
                refine ⟨p, rfl, ⟨by omega, by omega⟩, ?_⟩
                refine ⟨_, hp0, ?_⟩
                refine kLet_intro fun x21 hx21 => ?_ --! bAnd .u8 x20 (15 : Int)
                refine kW_to (y := bs[0] % 16) (by rw [hx21]; exact and15 hb0) ?_
                refine ⟨⟨by omega, by omega⟩, ?_⟩
                rw [ad0]
                refine H11.set (i := 2) rfl (by rw [aL_len]; omega) ?_; clear H11; intro w12 H12
                simp only [List.set_cons_succ, List.set_cons_zero, aL_set] at H12
                refine out H12 (fun j hj => ?_) hE.symm
                have hd : decL ch bs j = if j = (bs[0] / 64).toNat then bs[0] % 16 else 0 := by
                  unfold decL; rw [if_neg (by omega), if_neg (by omega), hd0]
                rw [hd]
                by_cases h : j = (bs[0] / 64).toNat
                · rw [if_pos h, if_pos (by simpa using h)]
                · rw [if_neg h, if_neg (by simpa using h)]
              · have h9 : ch = 9 := by omega
                have hl2 : bs.length = 2 := by omega
                have hlen1 : 1 < bs.length := by omega
                have hb1 := hb 1 hlen1
                have hd1 : bs.getD 1 0 = bs[1] := getD_at hlen1
                refine H9.drew ?_; clear H9; intro w14 H14
                obtain ⟨p, hp, hp0⟩ := (ha.below H14.below).get hlen
                subst hp
                obtain ⟨q, hq, hq1⟩ := (ha.below H14.below).get hlen1
                cases hq
                refine ⟨(· < w14.heap.size), ?_⟩
                refine H14.ldS (i := 0) rfl rfl ?_
                refine ⟨p, rfl, ⟨by omega, by omega⟩, ?_⟩
                refine ⟨_, hp0, ?_⟩
                refine kFdiv ?_
                refine kW_i64 (by omega) ?_ -- (x23 / 2 ^ 4)
                refine H14.ldS (i := 0) rfl rfl ?_
                refine ⟨p, rfl, ⟨by omega, by omega⟩, ?_⟩
                refine ⟨_, hp0, ?_⟩
                refine kLet_intro fun x27 hx27 => ?_ --! bAnd .u8 x26 (15 : Int)
                refine kW_to (y := bs[0] % 16) (by rw [hx27]; exact and15 hb0) ?_
                refine H14.ldS (i := 0) rfl rfl ?_
                refine ⟨p, rfl, ⟨by omega, by omega⟩, ?_⟩
                refine ⟨_, hq1, ?_⟩
                refine kFdiv ?_
                refine kW_i64 (by omega) ?_ -- (x29 / 2 ^ 4)
                refine H14.ldS (i := 0) rfl rfl ?_
                refine ⟨p, rfl, ⟨by omega, by omega⟩, ?_⟩
                refine ⟨_, hq1, ?_⟩
                refine kLet_intro fun x33 hx33 => ?_ --! bAnd .u8 x32 (15 : Int)
                refine kW_to (y := bs[1] % 16) (by rw [hx33]; exact and15 hb1) ?_
                refine ⟨fun _ _ _ h => h, ?_⟩
                refine H14.store (i := 2) rfl (by rfl) (by rfl) ?_; intro w15 H15
                simp only [List.set_cons_succ, List.set_cons_zero] at H15
                refine out (L := fun j => if j = 0 then bs[0] / 2 ^ 4 else if j = 1 then bs[0] % 16 else if j = 2 then bs[1] / 2 ^ 4 else bs[1] % 16) H15 (fun j hj => ?_) hE.symm
                have hd : decL ch bs j = if j = 0 then bs[0] / 16 else if j = 1 then bs[0] % 16 else if j = 2 then bs[1] / 16 else bs[1] % 16 := by
                  unfold decL; rw [if_neg (by omega), if_pos h9, hd0, hd1]
                rw [hd]; rfl
          · refine H7.ld (i := 0) rfl rfl ?_
            refine bsplit_dec (fun c5 => ?_) (fun c5 => ?_) --  (decide (s_0 = (8 : Int)))
            · obtain ⟨p, hp, hp0⟩ := (ha.below H7.below).get hlen
              subst hp
              refine H7.ldS (i := 0) rfl rfl ?_
              refine ⟨p, rfl, ⟨by omega, by omega⟩, ?_⟩
              refine ⟨_, hp0, ?_⟩
              refine kLet_intro fun x13 hx13 => ?_ --! bAnd .u8 x12 (48 : Int)
              refine kLet_in ?_
              refine ⟨H7, ?_⟩
              have := and48_ne hb0
              rw [← hx13] at this
              simp only [Bool.not_eq_true', decide_eq_false_iff_not]
              by_cases hz : x13 = 0
              · subst hz
                have h' : bs[0] / 16 % 4 = 0 := by simpa using this.symm
                simp [h']
              · have h' : ¬ bs[0] / 16 % 4 = 0 := by
                  intro e; rw [e] at this; simp [hz] at this
                exact ⟨fun _ => ⟨c5, h'⟩, fun _ => hz⟩
            · exact ⟨H7, by simp [c5]⟩
      · refine H5.ld (i := 0) rfl rfl ?_
        refine bsplit_dec (fun c4 => ?_) (fun c4 => ?_) --  (decide (s_0 = (9 : Int)))
        · refine H5.ldS (i := 0) rfl rfl ?_
          refine kLet_in ?_
          refine bsplit_nd (fun c2 => ?_) (fun c2 => ?_) --  (!decide ((s_1_l : Int) = (2 : Int)))
          · exact ⟨H5, by simp only [Bool.not_eq_true', decide_eq_false_iff_not]; omega⟩
          · refine H5.ld (i := 0) rfl rfl ?_
            refine bsplit_dec (fun c1 => ?_) (fun c1 => ?_) --  (decide (s_0 = (8 : Int)))
            · omega
            · exact ⟨H5, by simp only [Bool.false_eq_true, false_iff]; omega⟩
        · refine H5.ld (i := 0) rfl rfl ?_
          refine bsplit_dec (fun c3 => ?_) (fun c3 => ?_) --  (decide (s_0 = (8 : Int)))
          · refine H5.ldS (i := 0) rfl rfl ?_
            refine kLet_in ?_
            exact ⟨H5, by simp only [Bool.not_eq_true', decide_eq_false_iff_not]; omega⟩
          · exact ⟨H5, by simp only [Bool.false_eq_true, false_iff]; omega⟩
  · refine H4.ld (i := 0) rfl rfl ?_
    refine bsplit_nd (fun c => ?_) (fun c => ?_) --  (!decide (s_0 = (9 : Int)))
    · refine H4.ld (i := 0) rfl rfl ?_
      refine kLet_in ?_
      exact ⟨H4, by simp only [Bool.not_eq_true', decide_eq_false_iff_not]; omega⟩
    · exact ⟨H4, by simp only [Bool.false_eq_true, false_iff]; omega⟩
end

theorem law26_same_ct {x y : Int} {a b : Option Addr} {xs ys : List Int} {c1 c2 : Nat} {w : World} (hx : SlR (IntC .u8) 1 w a xs) (hy : SlR (IntC .u8) 1 w b ys) (hl : xs.length ≤ 140737488355328) :
    Calls Try.prog N_law26_same #[(.agg #[.int .i64 x, .slice a xs.length c1]), (.agg #[.int .i64 y, .slice b ys.length c2])] w fun e w' => e = .returned (.bool (decide (x = y ∧ xs = ys))) ∧ Below w.heap.size w w' := by
  apply F_law26_same_ok
  unfold F_law26_same
  have H := St.nil w
  refine H.alloc ?_; clear H; intro b0 w1 H1
  refine H1.alloc ?_; clear H1; intro b1 w2 H2
  refine H2.ld (i := 0) rfl rfl ?_
  refine H2.ld (i := 1) rfl rfl ?_
  refine bsplit_dec (fun c => ?_) (fun c => ?_) --  (decide (a_0 = b_0))
  · refine H2.ldS (i := 0) rfl rfl ?_
    refine H2.ldS (i := 1) rfl rfl ?_
    refine (ref24_SameBytes_ct (hx.below H2.below) (hy.below H2.below) hl).mono ?_
    rintro _ w3 ⟨rfl, hb3⟩; have H3 := H2.pass hb3; clear H2
    refine ⟨_, rfl, ?_⟩
    exact ⟨retD ⟨fun h => ⟨c, h⟩, fun h => h.2⟩, H3.below⟩
  · exact ⟨retF (fun h => c h.1), H2.below⟩
end Go.Proofs.Ytamkmafmhglfkaa
