import Derived.Test.YtdafapcckimefaaW19a
namespace Go.Proofs.Ytdafapcckimefaa
open Go.Sx Go.RowKit
section
variable {bits u : Int} {l_a : Option Addr} {l : List Rg} {l_c : Nat} {w : World}
theorem ref19_Valid_ct (hs : SlR (CE encR) 3 w l_a l) (hl : l.length ≤ 140737488355328) :
    Calls Try.prog N_ref19_Valid #[(.int .i64 bits), (.agg #[.int .i64 u, .slice l_a l.length l_c])] w fun e w' => e = .returned (.bool (decide (okS bits ⟨u, l⟩))) ∧ Below w.heap.size w w' := by
  apply F_ref19_Valid_ok
  unfold F_ref19_Valid
  have H := St.nil w
  refine H.alloc ?_; clear H; intro b w1 H1
  have no : ∀ {w' : World} {R : List Res} {P : World → Prop}, ¬ okS bits ⟨u, l⟩ → St (fun _ => False) [] w w' R P → Ending.returned (.bool false) = .returned (.bool (decide (okS bits ⟨u, l⟩))) ∧ Below w.heap.size w w' := fun h H' => ⟨retF h, H'.below⟩
  refine ⟨fun w3 => bitsOk bits ∧ (0 ≤ u ∧ u < 2 ^ bits.toNat) ∧ l.length ≤ 64 ∧ FreshR w w3 [.blk b Ty_api_Status [(.int .i64 u), (.slice l_a l.length l_c)]], ?_, ?_⟩ --!
  · rintro _  w3 ⟨hb, hu, hll, H3⟩
    have hp := pow_bits1 hb
    have hb5 := hb.1; have hb9 := hb.2
    refine ⟨fun i => ((l.length - i).toNat, fun w4 => ∃ k : Nat, k ≤ l.length ∧ i = k ∧ chainB bits u none l = chainB bits u (prevR l k) (l.drop k) ∧ (∀ q, prevR l k = some q → ownR bits u q) ∧ FreshR w w4 [.blk b Ty_api_Status [(.int .i64 u), (.slice l_a l.length l_c)]]), ⟨0, by omega, rfl, rfl, fun q h => (by cases h), H3⟩, ?_⟩ --! I (0 : Int)
    clear H3
    rintro _ i w4 ⟨k, hk, rfl, hI, hprev, H4⟩
    refine H4.ldS (i := 0) rfl rfl ?_
    refine bsplit_dec (fun c19 => ?_) (fun c19 => ?_) --  (decide (i < (s_1_l : Int)))
    · have hlt : k < l.length := by omega
      rw [chain_step _ _ hlt] at hI
      have bad : ¬ (ownR bits u l[k] ∧ linkO bits u (prevR l k) l[k]) → ¬ okS bits ⟨u, l⟩ := fun h h' => by
        have := h'.2.2.2
        simp only at this
        rw [hI, decide_eq_false h, Bool.false_and] at this
        cases this
      refine H4.ldS (i := 0) rfl rfl ?_
      refine ixE (hs.belowE H4.below) k rfl hlt fun b1 r hr hb1 => ?_
      obtain rfl : l[k] = r := by rw [List.getElem?_eq_getElem hlt] at hr; injection hr
      refine ⟨_, _, _, hb1, ?_⟩
      refine H4.alloc ?_; clear H4; intro b2 w5 H5
      refine H5.store (i := 1) rfl (by rfl) (by rfl) ?_; clear H5; intro w6 H6
      refine H6.ld (i := 1) rfl rfl ?_
      refine H6.ld (i := 0) rfl rfl ?_
      refine ref02_Distance_ct.mono ?_ -- (.int .i64 bits), (.int .i64 x_0), (.int .i64 s_0)
      rintro _ w7 ⟨rfl, hb7⟩; have H7 := H6.pass hb7; clear H6
      refine ⟨_, rfl, ?_⟩
      rw [if_pos (by omega)]
      obtain ⟨d, hd⟩ : ∃ d, d = way bits l[k].sn u := ⟨_, rfl⟩
      have hown : ownR bits u l[k] ↔ (0 ≤ l[k].sn ∧ l[k].sn < 2 ^ bits.toNat) ∧ (1 ≤ d ∧ d ≤ 2 ^ (bits - 1).toNat) ∧ (whole l[k] ∨ isPart l[k]) := by rw [hd]; exact Iff.rfl
      rw [← hd]
      have next : ∀ {w' : World} {R : List Res}, ownR bits u l[k] → linkO bits u (prevR l k) l[k] → FreshR w w' (.blk b Ty_api_Status [(.int .i64 u), (.slice l_a l.length l_c)] :: R) → (∃ k' : Nat, k' ≤ l.length ∧ (k : Int) + 1 = k' ∧ chainB bits u none l = chainB bits u (prevR l k') (l.drop k') ∧ (∀ q, prevR l k' = some q → ownR bits u q) ∧ FreshR w w' [.blk b Ty_api_Status [(.int .i64 u), (.slice l_a l.length l_c)]]) ∧ (l.length - ((k : Int) + 1)).toNat < (l.length - (k : Int)).toNat := fun ho h H' =>
        ⟨⟨k + 1, by omega, by omega, by rw [hI, decide_eq_true ⟨ho, h⟩, Bool.true_and], fun q hq => by simp only [prevR, List.getElem?_eq_getElem hlt] at hq; injection hq with hq; subst hq; exact ho,
          H'.sub (fun i => i) (by rintro (_ | _) r h <;> first | exact h | cases h) (fun _ _ _ _ h => h)⟩, by omega⟩
      refine ⟨fun w8 => ((0 ≤ l[k].sn ∧ l[k].sn < 2 ^ bits.toNat) ∧ (1 ≤ d ∧ d ≤ 2 ^ (bits - 1).toNat)) ∧ FreshR w w8 [.blk b Ty_api_Status [(.int .i64 u), (.slice l_a l.length l_c)], .blk b2 Ty_api_Range (encR l[k])], ?_, ?_⟩ --!
      · rintro _  w8 ⟨hj, H8⟩
        refine ⟨fun wh w9 => wh = decide (whole l[k]) ∧ FreshR w w9 [.blk b Ty_api_Status [(.int .i64 u), (.slice l_a l.length l_c)], .blk b2 Ty_api_Range (encR l[k])], ?_, ?_⟩ --!
        · rintro _ wh w9 ⟨rfl, H9⟩
          refine ⟨fun w10 => ownR bits u l[k] ∧ FreshR w w10 [.blk b Ty_api_Status [(.int .i64 u), (.slice l_a l.length l_c)], .blk b2 Ty_api_Range (encR l[k])], ?_, ?_⟩ --!
          · rintro _  w10 ⟨ho, H10⟩
            refine bsplit_dec (fun c18 => ?_) (fun c18 => ?_) --  (decide (i = (0 : Int)))
            · refine kW_i64 (by omega) ?_ -- i + (1 : Int)
              obtain rfl : k = 0 := by omega
              exact next ho trivial H10 --! I (i + (1 : Int))
            · obtain ⟨j, rfl⟩ : ∃ j, k = j + 1 := ⟨k - 1, by omega⟩
              have hjl : j < l.length := by omega
              have hpr : prevR l (j + 1) = some l[j] := by simp [prevR, List.getElem?_eq_getElem hjl]
              have hoq := hprev _ hpr
              obtain ⟨dq, hdq⟩ : ∃ dq, dq = way bits l[j].sn u := ⟨_, rfl⟩
              have hlk : linkO bits u (prevR l (j + 1)) l[j + 1] ↔ d ≤ dq ∧ (d = dq → ¬ (whole l[j] ∨ whole l[j + 1] ∨ l[j + 1].f ≤ l[j].t)) := by
                rw [hpr, hd, hdq]; exact Iff.rfl
              have hw : whole l[j] ↔ l[j].t = 0 := by
                rcases hoq.2.2 with h | h
                · exact ⟨fun h => h.2, fun _ => h⟩
                · obtain ⟨h1, h2, _⟩ := h
                  exact ⟨fun h => h.2, fun h => by omega⟩
              refine H10.ldS (i := 0) rfl rfl ?_
              refine kW_i64 (by omega) ?_ -- i - (1 : Int)
              refine ixE (hs.belowE H10.below) j (by omega) hjl fun b3 q hq hb3 => ?_
              obtain rfl : l[j] = q := by rw [List.getElem?_eq_getElem hjl] at hq; injection hq
              refine ⟨_, _, _, hb3, ?_⟩
              refine H10.alloc ?_; clear H10; intro b4 w11 H11
              refine H11.store (i := 2) rfl (by rfl) (by rfl) ?_; clear H11; intro w12 H12
              refine H12.ld (i := 2) rfl rfl ?_
              refine H12.ld (i := 0) rfl rfl ?_
              refine ref02_Distance_ct.mono ?_ -- (.int .i64 bits), (.int .i64 x_01), (.int .i64 s_0)
              rintro _ w13 ⟨rfl, hb13⟩; have H13 := H12.pass hb13; clear H12
              refine ⟨_, rfl, ?_⟩
              rw [if_pos (by omega), ← hdq]
              refine ⟨fun x26 w14 => x26 = !decide (linkO bits u (prevR l (j + 1)) l[j + 1]) ∧ FreshR w w14 [.blk b Ty_api_Status [(.int .i64 u), (.slice l_a l.length l_c)], .blk b2 Ty_api_Range (encR l[j + 1]), .blk b4 Ty_api_Range (encR l[j])], ?_, ?_⟩ --!
              · rintro _ x26 w14 ⟨rfl, H14⟩
                refine bsplit_nd (fun c17 => ?_) (fun c17 => ?_) --  x26
                · exact no (bad fun h => c17 h.2) H14 --! (.bool false)
                · refine kW_i64 (by omega) ?_ -- i + (1 : Int)
                  exact next ho c17 H14 --! I (i + (1 : Int))
              · have t : ∀ {p : Prop} [Decidable p], ¬ p → true = !decide p := fun h => by simp [h]
                have f : ∀ {p : Prop} [Decidable p], p → false = !decide p := fun h => by simp [h]
                refine bsplit_dec (fun c16 => ?_) (fun c16 => ?_) --  (decide (r2 < r1))
                · exact ⟨t fun h => by have := (hlk.1 h).1; omega, H13⟩ --! J4 true
                · refine bsplit_dec (fun c15 => ?_) (fun c15 => ?_) --  (decide (r2 = r1))
                  · refine bsplit_dec (fun c14 => ?_) (fun c14 => ?_) --  whole1
                    · exact ⟨t fun h => (hlk.1 h).2 c15.symm (.inr (.inl c14)), H13⟩ --! J4 true
                    · refine H13.ld (i := 2) rfl rfl ?_
                      refine bsplit_dec (fun c13 => ?_) (fun c13 => ?_) --  (decide (x_21 = (0 : Int)))
                      · exact ⟨t fun h => (hlk.1 h).2 c15.symm (.inl (hw.2 c13)), H13⟩ --! J4 true
                      · refine H13.ld (i := 1) rfl rfl ?_
                        refine H13.ld (i := 2) rfl rfl ?_
                        refine ⟨?_, H13⟩ --! J4 (decide (x_1 ≤ x_21))
                        by_cases c : l[j + 1].f ≤ l[j].t
                        · rw [decide_eq_true c]; exact t fun h => (hlk.1 h).2 c15.symm (.inr (.inr c))
                        · rw [decide_eq_false c]; exact f (hlk.2 ⟨by omega, fun _ h => by rcases h with h | h | h; exact c13 (hw.1 h); exact c14 h; exact c h⟩)
                  · exact ⟨f (hlk.2 ⟨by omega, fun h => absurd h.symm c15⟩), H13⟩ --! J4 false
          · refine bsplit_nd (fun c12 => ?_) (fun c12 => ?_) --  (!whole1)
            · have nop : ¬ isPart l[k] → ¬ ownR bits u l[k] := fun h h' => h'.2.2.elim c12 h
              refine H9.ld (i := 1) rfl rfl ?_
              refine bsplit_dec (fun c11 => ?_) (fun c11 => ?_) --  (decide (x_1 < (0 : Int)))
              · exact no (bad fun h => nop (fun h => by have := h.1; omega) h.1) H9 --! (.bool false)
              · refine H9.ld (i := 1) rfl rfl ?_
                refine H9.ld (i := 1) rfl rfl ?_
                refine bsplit_dec (fun c10 => ?_) (fun c10 => ?_) --  (decide (x_1 ≥ x_2))
                · exact no (bad fun h => nop (fun h => by have := h.2.1; omega) h.1) H9 --! (.bool false)
                · refine H9.ld (i := 1) rfl rfl ?_
                  refine bsplit_dec (fun c9 => ?_) (fun c9 => ?_) --  (decide (x_2 > (65535 : Int)))
                  · exact no (bad fun h => nop (fun h => by have := h.2.2; omega) h.1) H9 --! (.bool false)
                  · exact ⟨hown.2 ⟨hj.1, hj.2, .inr ⟨by omega, by omega, by omega⟩⟩, H9⟩ --! J3 
            · exact ⟨hown.2 ⟨hj.1, hj.2, .inl c12⟩, H9⟩ --! J3 
        · refine H8.ld (i := 1) rfl rfl ?_
          refine bsplit_dec (fun c8 => ?_) (fun c8 => ?_) --  (decide (x_1 = (0 : Int)))
          · refine H8.ld (i := 1) rfl rfl ?_
            refine kLet_in ?_
            exact ⟨by rw [decide_eq_decide]; unfold whole; omega, H8⟩ --! J2 (decide (x_2 = (0 : Int)))
          · exact ⟨by rw [decide_eq_false]; intro h; exact c8 h.1, H8⟩ --! J2 false
      · refine H7.ld (i := 1) rfl rfl ?_
        refine bsplit_dec (fun c7 => ?_) (fun c7 => ?_) --  (decide (x_0 < (0 : Int)))
        · exact no (bad fun h => by have := (hown.1 h.1).1; omega) H7 --! (.bool false)
        · refine H7.ld (i := 1) rfl rfl ?_
          refine kW_u64 (by omega) ?_ -- bits
          refine ⟨by omega, ?_⟩
          refine kShl1 (by omega) ?_
          refine bsplit_dec (fun c6 => ?_) (fun c6 => ?_) --  (decide (x_0 ≥ (2 ^ bits.toNat)))
          · exact no (bad fun h => by have := (hown.1 h.1).1; omega) H7 --! (.bool false)
          · refine bsplit_dec (fun c5 => ?_) (fun c5 => ?_) --  (decide (r1 < (1 : Int)))
            · exact no (bad fun h => by have := (hown.1 h.1).2; omega) H7 --! (.bool false)
            · refine kW_i64 (by omega) ?_ -- bits - (1 : Int)
              refine kW_u64 (by omega) ?_ -- (bits - (1 : Int))
              refine ⟨by omega, ?_⟩
              refine kShl1 (by omega) ?_
              refine bsplit_dec (fun c4 => ?_) (fun c4 => ?_) --  (decide (r1 > (2 ^ ((bits - (1 : Int))).toNat)))
              · exact no (bad fun h => by have := (hown.1 h.1).2; omega) H7 --! (.bool false)
              · exact ⟨by omega, H7⟩ --! J1 
    · obtain rfl : k = l.length := by omega
      rw [List.drop_length] at hI
      exact ⟨retT ⟨hb, hu, hll, hI⟩, H4.below⟩ --! (.bool true)
  · refine ref15_Bits_ct.mono ?_ -- (.int .i64 bits)
    rintro _ w2 ⟨rfl, hb2⟩; have H2 := H1.pass hb2; clear H1
    refine ⟨_, rfl, ?_⟩
    refine bsplit_nd (fun c3 => ?_) (fun c3 => ?_) --  (!r)
    · exact no (fun h => c3 h.1) H2 --! (.bool false)
    · have hb5 := c3.1; have hb9 := c3.2
      refine H2.ld (i := 0) rfl rfl ?_
      refine bsplit_dec (fun c2 => ?_) (fun c2 => ?_) --  (decide (s_0 < (0 : Int)))
      · exact no (fun h => by have := h.2.1.1; simp only at this; omega) H2 --! (.bool false)
      · refine H2.ld (i := 0) rfl rfl ?_
        refine kW_u64 (by omega) ?_ -- bits
        refine ⟨by omega, ?_⟩
        refine kShl1 (by omega) ?_
        refine bsplit_dec (fun c1 => ?_) (fun c1 => ?_) --  (decide (s_0 ≥ (2 ^ bits.toNat)))
        · exact no (fun h => by have := h.2.1.2; simp only at this; omega) H2 --! (.bool false)
        · refine H2.ldS (i := 0) rfl rfl ?_
          refine bsplit_dec (fun c => ?_) (fun c => ?_) --  (decide ((s_1_l : Int) > (64 : Int)))
          · exact no (fun h => by have := h.2.2.1; simp only at this; omega) H2 --! (.bool false)
          · exact ⟨c3, by omega, by omega, H2⟩ --! J 
end
end Go.Proofs.Ytdafapcckimefaa
