import Derived.Test.YtdafapcckimefaaP19
import Derived.Test.YtdafapcckimefaaLb
import Derived.Test.YtdafapcckimefaaLr
namespace Go.Proofs.Ytdafapcckimefaa
open Go.Sx Go.RowKit

section
variable {r : Rg} {w : World}
theorem status_Whole_ct :
    Calls Try.prog N_status_Whole #[(.agg #[.int .i64 r.sn, .int .i64 r.f, .int .i64 r.t])] w fun e w' => e = .returned (.bool (decide (whole r))) ∧ Below w.heap.size w w' := by
  apply F_status_Whole_ok
  unfold F_status_Whole
  have H := St.nil w
  refine H.alloc ?_; clear H; intro b w1 H1
  refine H1.ld (i := 0) rfl rfl ?_
  refine bsplit_dec (fun c => ?_) (fun c => ?_) --  (decide (r_1 = (0 : Int)))
  · refine H1.ld (i := 0) rfl rfl ?_
    refine kLet_in ?_
    exact ⟨retD (by unfold whole; omega), H1.below⟩ --! (.bool (decide (r_2 = (0 : Int))))
  · exact ⟨retF (by unfold whole; omega), H1.below⟩ --! (.bool false)
theorem status_part_ct :
    Calls Try.prog N_status_part #[(.agg #[.int .i64 r.sn, .int .i64 r.f, .int .i64 r.t])] w fun e w' => e = .returned (.bool (decide (isPart r))) ∧ Below w.heap.size w w' := by
  apply F_status_part_ok
  unfold F_status_part
  have H := St.nil w
  refine H.alloc ?_; clear H; intro b w1 H1
  refine H1.ld (i := 0) rfl rfl ?_
  refine bsplit_dec (fun c1 => ?_) (fun c1 => ?_) --  (decide (r_1 ≥ (0 : Int)))
  · refine H1.ld (i := 0) rfl rfl ?_
    refine H1.ld (i := 0) rfl rfl ?_
    refine bsplit_dec (fun c => ?_) (fun c => ?_) --  (decide (r_1 < r_2))
    · refine H1.ld (i := 0) rfl rfl ?_
      refine kLet_in ?_
      exact ⟨retD (by unfold isPart; omega), H1.below⟩ --! (.bool (decide (r_2 ≤ (65535 : Int))))
    · exact ⟨retF (by unfold isPart; omega), H1.below⟩ --! (.bool false)
  · exact ⟨retF (by unfold isPart; omega), H1.below⟩ --! (.bool false)
theorem status_size_ct :
    Calls Try.prog N_status_size #[(.agg #[.int .i64 r.sn, .int .i64 r.f, .int .i64 r.t])] w fun e w' => e = .returned (.int .i64 (szR r)) ∧ Below w.heap.size w w' := by
  apply F_status_size_ok
  unfold F_status_size
  have H := St.nil w
  refine H.alloc ?_; clear H; intro b w1 H1
  refine ⟨_, _, _, H1.cells (i := 0) rfl, ?_⟩
  refine status_Whole_ct.mono ?_ -- (.agg #[.int .i64 r_0, .int .i64 r_1, .int .i64 r_2])
  rintro _ w2 ⟨rfl, hb2⟩; have H2 := H1.pass hb2; clear H1
  refine ⟨_, rfl, ?_⟩
  refine bsplit_dec (fun c => ?_) (fun c => ?_) --  r
  · exact ⟨by rw [szR, if_pos c], H2.below⟩ --! (.int .i64 (2 : Int))
  · exact ⟨by rw [szR, if_neg c], H2.below⟩ --! (.int .i64 (6 : Int))
theorem ref19_size_ct :
    Calls Try.prog N_ref19_size #[(.agg #[.int .i64 r.sn, .int .i64 r.f, .int .i64 r.t])] w fun e w' => e = .returned (.int .i64 (szR r)) ∧ Below w.heap.size w w' := by
  apply F_ref19_size_ok
  unfold F_ref19_size
  have H := St.nil w
  refine H.alloc ?_; clear H; intro b w1 H1
  refine H1.ld (i := 0) rfl rfl ?_
  refine bsplit_dec (fun c1 => ?_) (fun c1 => ?_) --  (decide (x_1 = (0 : Int)))
  · refine H1.ld (i := 0) rfl rfl ?_
    refine bsplit_dec (fun c => ?_) (fun c => ?_) --  (decide (x_2 = (0 : Int)))
    · exact ⟨by rw [szR, if_pos ⟨c1, c⟩], H1.below⟩ --! (.int .i64 (2 : Int))
    · exact ⟨by rw [szR, if_neg fun h => c h.2], H1.below⟩ --! (.int .i64 (6 : Int))
  · exact ⟨by rw [szR, if_neg fun h => c1 h.1], H1.below⟩ --! (.int .i64 (6 : Int))
end
section
variable {bits u : Int} {l_a : Option Addr} {l : List Rg} {l_c : Nat} {w : World}
theorem status_Valid_ct (hs : SlR (CE encR) 3 w l_a l) (hl : l.length ≤ 140737488355328) :
    Calls Try.prog N_status_Valid #[(.int .i64 bits), (.agg #[.int .i64 u, .slice l_a l.length l_c])] w fun e w' => e = .returned (.bool (decide (okS bits ⟨u, l⟩))) ∧ Below w.heap.size w w' := by
  apply F_status_Valid_ok
  unfold F_status_Valid
  have H := St.nil w
  refine H.alloc ?_; clear H; intro b w1 H1
  have no : ∀ {w' : World} {R : List Res} {P : World → Prop}, ¬ okS bits ⟨u, l⟩ → St (fun _ => False) [] w w' R P → Ending.returned (.bool false) = .returned (.bool (decide (okS bits ⟨u, l⟩))) ∧ Below w.heap.size w w' := fun h H' => ⟨retF h, H'.below⟩
  refine ⟨fun w4 => bitsOk bits ∧ (0 ≤ u ∧ u < 2 ^ bits.toNat) ∧ l.length ≤ 64 ∧ FreshR w w4 [.blk b Ty_api_Status [(.int .i64 u), (.slice l_a l.length l_c)]], ?_, ?_⟩ --!
  · rintro _  w4 ⟨hb, hu, hll, H4⟩
    have hp := pow_bits1 hb
    have hb5 := hb.1; have hb9 := hb.2
    refine kW_i64 (by omega) ?_ -- bits - (1 : Int)
    refine ⟨by omega, ?_⟩
    refine kShl1 (by omega) ?_
    refine kW_i64 (by omega) ?_ -- (2 ^ (bits - (1 : Int)).toNat) + (1 : Int)
    refine H4.ldS (i := 0) rfl rfl ?_
    refine ⟨fun before x6 => ((l.length - x6).toNat, fun w5 => ∃ k : Nat, k ≤ l.length ∧ x6 = k ∧ before = beforeOf bits u l k ∧ chainB bits u none l = chainB bits u (prevR l k) (l.drop k) ∧ FreshR w w5 [.blk b Ty_api_Status [(.int .i64 u), (.slice l_a l.length l_c)]]), ⟨0, by omega, rfl, rfl, rfl, H4⟩, ?_⟩ --! I ((2 ^ (bits - (1 : Int)).toNat) + (1 : Int)) (0 : Int)
    clear H4
    rintro _ before x6 w5 ⟨k, hk, rfl, rfl, hI, H5⟩
    refine bsplit_dec (fun c16 => ?_) (fun c16 => ?_) --  (decide (x6 < (s_1_l : Int)))
    · have hlt : k < l.length := by omega
      rw [chain_step _ _ hlt] at hI
      have bad : ¬ (ownR bits u l[k] ∧ linkO bits u (prevR l k) l[k]) → ¬ okS bits ⟨u, l⟩ := fun h h' => by
        have := h'.2.2.2
        simp only at this
        rw [hI, decide_eq_false h, Bool.false_and] at this
        cases this
      refine ixE (hs.belowE H5.below) k rfl hlt fun b1 r hr hb1 => ?_
      obtain rfl : l[k] = r := by rw [List.getElem?_eq_getElem hlt] at hr; injection hr
      refine ⟨_, _, _, hb1, ?_⟩
      refine H5.alloc ?_; clear H5; intro b2 w6 H6
      refine H6.store (i := 1) rfl (by rfl) (by rfl) ?_; clear H6; intro w7 H7
      refine H7.ld (i := 1) rfl rfl ?_
      refine H7.ld (i := 0) rfl rfl ?_
      refine serial_Distance_ct.mono ?_ -- (.int .i64 bits), (.int .i64 x_0), (.int .i64 s_0)
      rintro _ w8 ⟨rfl, hb8⟩; have H8 := H7.pass hb8; clear H7
      refine ⟨_, rfl, ?_⟩
      rw [if_pos (by omega)]
      obtain ⟨d, hd⟩ : ∃ d, d = way bits l[k].sn u := ⟨_, rfl⟩
      have hown : ownR bits u l[k] ↔ (0 ≤ l[k].sn ∧ l[k].sn < 2 ^ bits.toNat) ∧ (1 ≤ d ∧ d ≤ 2 ^ (bits - 1).toNat) ∧ (whole l[k] ∨ isPart l[k]) := by rw [hd]; exact Iff.rfl
      have hbef : ownR bits u l[k] → linkO bits u (prevR l k) l[k] → d ≤ beforeOf bits u l k := fun h1 h2 => by
        unfold beforeOf
        unfold linkO at h2
        split
        · have := (hown.1 h1).2.1.2; omega
        · rename_i q hq
          simp only [hq] at h2
          rw [hd]; exact h2.1
      rw [← hd]
      refine ⟨fun x14 w12 => (x14 = true → ¬ (ownR bits u l[k] ∧ linkO bits u (prevR l k) l[k])) ∧ (x14 = false → ownR bits u l[k] ∧ d ≤ beforeOf bits u l k) ∧ FreshR w w12 [.blk b Ty_api_Status [(.int .i64 u), (.slice l_a l.length l_c)], .blk b2 Ty_api_Range (encR l[k])], ?_, ?_⟩ --!
      · rintro _ x14 w12 ⟨hj1, hj2, H12⟩
        refine bsplit_intro (fun c15 => ?_) (fun c15 => ?_) --  x14
        · exact no (bad (hj1 c15)) H12 --! (.bool false)
        obtain ⟨ho, hle⟩ := hj2 c15
        have good : linkO bits u (prevR l k) l[k] → chainB bits u none l = chainB bits u (prevR l (k + 1)) (l.drop (k + 1)) := fun h => by rw [hI, decide_eq_true ⟨ho, h⟩, Bool.true_and]
        have hbn : d = beforeOf bits u l (k + 1) := by simp [beforeOf, prevR, List.getElem?_eq_getElem hlt, hd]
        refine ⟨fun x15 w13 => x15 = decide (d = beforeOf bits u l k ∧ 0 < k) ∧ FreshR w w13 [.blk b Ty_api_Status [(.int .i64 u), (.slice l_a l.length l_c)], .blk b2 Ty_api_Range (encR l[k])], ?_, ?_⟩ --!
        · rintro _ x15 w13 ⟨hx15, H13⟩
          have next : ∀ {w' : World} {R : List Res}, linkO bits u (prevR l k) l[k] → FreshR w w' (.blk b Ty_api_Status [(.int .i64 u), (.slice l_a l.length l_c)] :: R) → (∃ k' : Nat, k' ≤ l.length ∧ (k : Int) + 1 = k' ∧ d = beforeOf bits u l k' ∧ chainB bits u none l = chainB bits u (prevR l k') (l.drop k') ∧ FreshR w w' [.blk b Ty_api_Status [(.int .i64 u), (.slice l_a l.length l_c)]]) ∧ (l.length - ((k : Int) + 1)).toNat < (l.length - (k : Int)).toNat := fun h H' =>
            ⟨⟨k + 1, by omega, by omega, hbn, good h, H'.sub (fun i => i) (by rintro (_ | _) r h <;> first | exact h | cases h) (fun _ _ _ _ h => h)⟩, by omega⟩
          refine bsplit_intro (fun c14 => ?_) (fun c14 => ?_) --  x15
          · rw [c14] at hx15
            obtain ⟨he, hk0⟩ := of_decide_eq_true hx15.symm
            obtain ⟨j, rfl⟩ : ∃ j, k = j + 1 := ⟨k - 1, by omega⟩
            have hjl : j < l.length := by omega
            have hprev : prevR l (j + 1) = some l[j] := by simp [prevR, List.getElem?_eq_getElem hjl]
            have hdq : d = way bits l[j].sn u := by rw [he]; simp [beforeOf, hprev]
            have hlk : linkO bits u (prevR l (j + 1)) l[j + 1] ↔ ¬ (whole l[j] ∨ whole l[j + 1] ∨ l[j + 1].f ≤ l[j].t) := by
              rw [hprev]
              show linkR _ _ _ _ ↔ _
              unfold linkR
              rw [← hd, ← hdq]
              exact ⟨fun h => h.2 rfl, fun h => ⟨Int.le_refl _, fun _ => h⟩⟩
            refine H13.ldS (i := 0) rfl rfl ?_
            refine kW_i64 (by omega) ?_ -- x6 - (1 : Int)
            refine ixE (hs.belowE H13.below) j (by omega) hjl fun b3 q hq hb3 => ?_
            obtain rfl : l[j] = q := by rw [List.getElem?_eq_getElem hjl] at hq; injection hq
            refine ⟨_, _, _, hb3, ?_⟩
            refine H13.alloc ?_; clear H13; intro b4 w14 H14
            refine H14.store (i := 2) rfl (by rfl) (by rfl) ?_; clear H14; intro w15 H15
            refine ⟨_, _, _, H15.cells (i := 2) rfl, ?_⟩
            refine status_Whole_ct.mono ?_ -- (.agg #[.int .i64 x_03, .int .i64 x_13, .int .i64 x_23])
            rintro _ w16 ⟨rfl, hb16⟩; have H16 := H15.pass hb16; clear H15
            refine ⟨_, rfl, ?_⟩
            refine bsplit_dec (fun c13 => ?_) (fun c13 => ?_) --  r4
            · exact no (bad fun h => hlk.1 h.2 (.inl c13)) H16 --! (.bool false)
            · refine ⟨_, _, _, H16.cells (i := 1) rfl, ?_⟩
              refine status_Whole_ct.mono ?_ -- (.agg #[.int .i64 x_0, .int .i64 x_1, .int .i64 x_2])
              rintro _ w17 ⟨rfl, hb17⟩; have H17 := H16.pass hb17; clear H16
              refine ⟨_, rfl, ?_⟩
              refine bsplit_dec (fun c12 => ?_) (fun c12 => ?_) --  r5
              · exact no (bad fun h => hlk.1 h.2 (.inr (.inl c12))) H17 --! (.bool false)
              · refine H17.ld (i := 1) rfl rfl ?_
                refine H17.ld (i := 2) rfl rfl ?_
                refine bsplit_dec (fun c11 => ?_) (fun c11 => ?_) --  (decide (x_1 ≤ x_23))
                · exact no (bad fun h => hlk.1 h.2 (.inr (.inr c11))) H17 --! (.bool false)
                · refine kW_i64 (by omega) ?_ -- x6 + (1 : Int)
                  exact next (hlk.2 fun h => by rcases h with h | h | h <;> contradiction) H17
          · have hlk : linkO bits u (prevR l k) l[k] := by
              rw [c14] at hx15
              have hne := of_decide_eq_false hx15.symm
              unfold linkO
              split
              · trivial
              · rename_i q hq
                have hk0 : 0 < k := by
                  cases k with
                  | zero => cases hq
                  | succ k => omega
                have hq2 : beforeOf bits u l k = way bits q.sn u := by simp [beforeOf, hq]
                rw [hq2] at hle hne
                exact ⟨by omega, fun h => by omega⟩
            refine kW_i64 (by omega) ?_ -- x6 + (1 : Int)
            exact next hlk H13 --! I r1 (x6 + (1 : Int))
        · refine bsplit_dec (fun c10 => ?_) (fun c10 => ?_) --  (decide (r1 = before))
          · exact ⟨by rw [decide_eq_decide]; omega, H12⟩ --! J2 (decide (x6 > (0 : Int)))
          · exact ⟨by rw [decide_eq_false]; intro h; exact c10 h.1, H12⟩ --! J2 false
      · refine H8.drew ?_; clear H8; intro w9 H9
        refine ⟨(· < w9.heap.size), ?_⟩
        have bad2 : ∀ {w' : World} {P : Prop}, (ownR bits u l[k] → linkO bits u (prevR l k) l[k] → False) → FreshR w w' [.blk b Ty_api_Status [(.int .i64 u), (.slice l_a l.length l_c)], .blk b2 Ty_api_Range (encR l[k])] →
            (true = true → ¬ (ownR bits u l[k] ∧ linkO bits u (prevR l k) l[k])) ∧ (true = false → ownR bits u l[k] ∧ d ≤ beforeOf bits u l k) ∧ FreshR w w' [.blk b Ty_api_Status [(.int .i64 u), (.slice l_a l.length l_c)], .blk b2 Ty_api_Range (encR l[k])] :=
          fun h H' => ⟨fun _ h' => h h'.1 h'.2, fun h => by (cases h), H'⟩
        refine H9.ld (i := 1) rfl rfl ?_
        refine bsplit_dec (fun c9 => ?_) (fun c9 => ?_) --  (decide (x_0 < (0 : Int)))
        · exact bad2 (P := True) (fun h _ => by have := (hown.1 h).1; omega) H9 --! J1 true
        · refine H9.ld (i := 1) rfl rfl ?_
          refine ⟨by omega, ?_⟩
          refine kShl1 (by omega) ?_
          refine bsplit_dec (fun c8 => ?_) (fun c8 => ?_) --  (decide (x_0 ≥ (2 ^ bits.toNat)))
          · exact bad2 (P := True) (fun h _ => by have := (hown.1 h).1; omega) H9 --! J1 true
          · refine bsplit_dec (fun c7 => ?_) (fun c7 => ?_) --  (decide (r1 < (1 : Int)))
            · exact bad2 (P := True) (fun h _ => by have := (hown.1 h).2; omega) H9 --! J1 true
            · refine bsplit_dec (fun c6 => ?_) (fun c6 => ?_) --  (decide (r1 > before))
              · exact bad2 (P := True) (fun h h2 => by have := hbef h h2; omega) H9 --! J1 true
              · refine kW_i64 (by omega) ?_ -- bits - (1 : Int)
                refine ⟨by omega, ?_⟩
                refine kShl1 (by omega) ?_
                refine bsplit_dec (fun c5 => ?_) (fun c5 => ?_) --  (decide (r1 > (2 ^ (bits - (1 : Int)).toNat)))
                · exact bad2 (P := True) (fun h _ => by have := (hown.1 h).2; omega) H9 --! J1 true
                · refine ⟨_, _, _, H9.cells (i := 1) rfl, ?_⟩
                  refine status_Whole_ct.mono ?_ -- (.agg #[.int .i64 x_0, .int .i64 x_1, .int .i64 x_2])
                  rintro _ w10 ⟨rfl, hb10⟩; have H10 := H9.pass hb10
                  refine ⟨_, rfl, ?_⟩
                  refine ⟨hb10.keeps, ?_⟩
                  refine bsplit_nd (fun c4 => ?_) (fun c4 => ?_) --  (!r2)
                  · refine ⟨H9.lt (i := 1) rfl rfl, ?_⟩
                    refine ⟨_, _, _, H9.cells (i := 1) rfl, ?_⟩
                    refine status_part_ct.mono ?_ -- (.agg #[.int .i64 x_0, .int .i64 x_1, .int .i64 x_2])
                    rintro _ w11 ⟨rfl, hb11⟩; have H11 := H10.pass hb11
                    refine ⟨_, rfl, ?_⟩
                    replace hb11 := below_step hb10 (Nat.le_refl _) hb11
                    refine ⟨hb11.keeps, ?_⟩
                    refine ⟨fun h h' => ?_, fun h => ⟨hown.2 ⟨by omega, by omega, .inr ?_⟩, by omega⟩, H11⟩ --! J1 (!r3)
                    · rcases (hown.1 h'.1).2.2 with h2 | h2
                      · exact c4 h2
                      · simp [h2] at h
                    · simpa using h
                  · exact ⟨fun h => (by cases h), fun _ => ⟨hown.2 ⟨by omega, by omega, .inl c4⟩, by omega⟩, H10⟩ --! J1 false
    · obtain rfl : k = l.length := by omega
      rw [List.drop_length] at hI
      exact ⟨retT ⟨hb, hu, hll, hI⟩, H5.below⟩ --! (.bool true)
  · refine H1.drew ?_; clear H1; intro w2 H2
    refine ⟨(· < w2.heap.size), ?_⟩
    refine counter_Bits_ct.mono ?_ -- (.int .i64 bits)
    rintro _ w3 ⟨rfl, hb3⟩; have H3 := H2.pass hb3
    refine ⟨_, rfl, ?_⟩
    refine ⟨hb3.keeps, ?_⟩
    refine bsplit_nd (fun c3 => ?_) (fun c3 => ?_) --  (!r)
    · exact no (fun h => c3 h.1) H3 --! (.bool false)
    · have hb5 := c3.1; have hb9 := c3.2
      refine ⟨H2.lt (i := 0) rfl rfl, ?_⟩
      refine H2.ld (i := 0) rfl rfl ?_
      refine bsplit_dec (fun c2 => ?_) (fun c2 => ?_) --  (decide (s_0 < (0 : Int)))
      · exact no (fun h => by have := h.2.1.1; simp only at this; omega) H3 --! (.bool false)
      · refine ⟨H2.lt (i := 0) rfl rfl, ?_⟩
        refine H2.ld (i := 0) rfl rfl ?_
        refine ⟨by omega, ?_⟩
        refine kShl1 (by omega) ?_
        refine bsplit_dec (fun c1 => ?_) (fun c1 => ?_) --  (decide (s_0 ≥ (2 ^ bits.toNat)))
        · exact no (fun h => by have := h.2.1.2; simp only at this; omega) H3 --! (.bool false)
        · refine ⟨H2.lt (i := 0) rfl rfl, ?_⟩
          refine H2.ldS (i := 0) rfl rfl ?_
          refine bsplit_dec (fun c => ?_) (fun c => ?_) --  (decide ((s_1_l : Int) > (64 : Int)))
          · exact no (fun h => by have := h.2.2.1; simp only at this; omega) H3 --! (.bool false)
          · exact ⟨c3, by omega, by omega, H3⟩ --! J 
end
end Go.Proofs.Ytdafapcckimefaa
