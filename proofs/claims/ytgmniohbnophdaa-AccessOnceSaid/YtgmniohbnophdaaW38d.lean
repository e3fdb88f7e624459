import Derived.Test.YtgmniohbnophdaaW38c
/- CHAPTER 38: Check, both. -/
set_option maxRecDepth 100000
namespace Go.Proofs.Ytgmniohbnophdaa
open Go.Sx Go.RowKit Go.P38
abbrev encAc (a : Ac) (p : Option Addr) (c : Nat) : List Value := [.int .i64 a.pre, .int .i64 a.tries, .int .i64 a.back, .slice p a.l.length c]
abbrev aggAc (a : Ac) (p : Option Addr) (c : Nat) : Value := .agg #[.int .i64 a.pre, .int .i64 a.tries, .int .i64 a.back, .slice p a.l.length c]
theorem slr_take {w : World} {p : Option Addr} {l : List At} (hs : SlR (CE encAt) 4 w p l) (m k : Nat) : SlR (CE encAt) 4 w (slAddr m 0 4 p) (l.take k) := hs.preE m k
theorem below_K {S : Nat → Prop} {w w' : World} (h : Below w.heap.size w w') : KeepsB S w w' := fun p u _ hc => h.get hc
section
variable {w : World} {p : Option Addr} {c : Nat} {a : Ac}
theorem good_at {k : Nat} (hlt : k < a.l.length) (h1 : 0 ≤ a.l[k].id ∧ a.l[k].id < 65536) (h2 : 0 ≤ a.l[k].tries) (h3 : a.l[k].tries < a.tries) (h4 : a.l[k].pre = preR a.l[k].id a.l[k].tries a.pre) (h5 : 0 ≤ a.l[k].at_) (h6 : a.l[k].at_ ≤ 2097152) (h7 : hasR (a.l.take k) a.l[k].id = false) (h8 : ∀ h : 0 < k, bef (a.l[k - 1]'(by omega)) a.l[k] = true) : GoodAt a k a.l[k] := by
  refine ⟨h1.1, h1.2, h2, h3, h4, h5, h6, h7, ?_⟩
  rcases Nat.eq_zero_or_pos k with h | h
  · exact .inl h
  · refine .inr ?_
    rw [List.getElem?_eq_getElem (by omega)]
    simp [h8 h]
theorem bad_at {k : Nat} (hlt : k < a.l.length) (h : ¬ GoodAt a k a.l[k]) (h1 : ¬ BadR a) (h2 : a.l.length ≤ 16) : checkR a = 1 := by
  rw [checkR, if_neg h1, if_neg (by omega), if_neg]
  intro hg
  exact h (hg ⟨k, hlt⟩)
theorem access_Check_ct (hs : SlR (CE encAt) 4 w p a.l) (hcap : a.l.length ≤ c) (hl : a.l.length ≤ 1000000) : Calls Try.prog N_access_Check #[aggAc a p c] w fun e w' => e = .returned (.int .i64 (checkR a)) ∧ Below w.heap.size w w' := by
  apply F_access_Check_ok
  unfold F_access_Check
  have H := St.nil w
  refine H.alloc ?_; clear H; intro b w1 H1
  replace H1 : St (fun _ => False) [] w w1 [.blk b Ty_api_Access (encAc a p c)] (fun _ => True) := H1
  refine ⟨fun x7 w2 => St (fun _ => False) [] w w2 [.blk b Ty_api_Access (encAc a p c)] (fun _ => True) ∧ (x7 = true ↔ BadR a), ?_, ?_⟩
  · rintro _ x7 w2 ⟨H2, hj⟩
    refine bsplit_intro (fun c16 => ?_) (fun c16 => ?_) --  x7
    · exact ⟨by rw [checkR, if_pos (hj.1 c16)], H2.below⟩
    · have hbad : ¬ BadR a := fun h => by rw [hj.2 h] at c16; cases c16
      refine H2.ldS (i := 0) rfl rfl ?_
      refine kLet_in ?_
      refine bsplit_dec (fun c15 => ?_) (fun c15 => ?_)
      · exact ⟨by rw [checkR, if_neg hbad, if_pos (by omega)], H2.below⟩
      · have h16 : a.l.length ≤ 16 := by omega
        refine H2.ldS (i := 0) rfl rfl ?_
        refine ⟨fun x9 => ((a.l.length - x9).toNat, fun w3 => ∃ k : Nat, x9 = k ∧ k ≤ a.l.length ∧ (∀ j (hj : j < a.l.length), j < k → GoodAt a j a.l[j]) ∧ St (fun _ => False) [] w w3 [.blk b Ty_api_Access (encAc a p c)] (fun _ => True)), ⟨0, rfl, by omega, fun j _ h => by omega, H2⟩, ?_⟩
        clear H2 hj
        rintro _ x9 w3 ⟨k, rfl, hk, hI, H3⟩
        refine bsplit_dec (fun c14 => ?_) (fun c14 => ?_)
        · have hlt : k < a.l.length := by omega
          refine ixE (hs.belowE H3.below) k rfl hlt fun b1 s hsk hb => ?_
          obtain rfl : a.l[k] = s := by rw [List.getElem?_eq_getElem hlt] at hsk; injection hsk
          refine ⟨_, _, _, _, hb, ?_⟩
          refine H3.alloc ?_; clear H3; intro b2 w4 H4
          refine H4.store (i := 1) rfl (by rfl) (by rfl) ?_; clear H4; intro w5 H5
          refine ⟨fun x20 w9 => St (fun _ => False) [] w w9 [.blk b Ty_api_Access (encAc a p c), .blk b2 Ty_api_Attempt (encAt a.l[k])] (fun _ => True) ∧ (x20 = false ↔ (0 ≤ a.l[k].id ∧ a.l[k].id < 65536) ∧ 0 ≤ a.l[k].tries ∧ a.l[k].tries < a.tries ∧ a.l[k].pre = preR a.l[k].id a.l[k].tries a.pre ∧ 0 ≤ a.l[k].at_ ∧ a.l[k].at_ ≤ 2097152), ?_, ?_⟩
          · rintro _ x20 w9 ⟨H9, hj⟩
            refine bsplit_intro (fun c13 => ?_) (fun c13 => ?_) --  x20
            · have hng : ¬ GoodAt a k a.l[k] := fun hg => by
                obtain ⟨g1, g2, g3, g4, g5, g6, g7, _⟩ := hg
                rw [hj.2 ⟨⟨g1, g2⟩, g3, g4, g5, g6, g7⟩] at c13; cases c13
              exact ⟨by rw [bad_at hlt hng hbad h16], H9.below⟩
            · obtain ⟨j1, j2, j3, j4, j5, j6⟩ := hj.1 c13
              refine H9.drew ?_; clear H9; intro w10 H10
              refine ⟨(· < w10.heap.size), ?_⟩
              refine H10.ldS (i := 0) rfl rfl ?_
              refine ⟨⟨by omega, by omega⟩, ?_⟩ -- hi
              refine H10.ld (i := 1) rfl rfl ?_
              rw [Int.toNat_natCast, Nat.sub_zero, Nat.sub_zero]
              have htk : (a.l.take k).length = k := by rw [List.length_take]; omega
              have hfd := access_find_ct (id := a.l[k].id) (c := c) (slr_take (hs.belowE H10.below) c k) (by omega)
              rw [htk] at hfd
              refine hfd.mono ?_
              rintro _ w11 ⟨rfl, hb11⟩; have H11 := H10.pass hb11
              refine ⟨_, rfl, ?_⟩
              refine ⟨hb11.keeps, ?_⟩
              have hih := idx_has (l := a.l.take k) (id := a.l[k].id)
              refine bsplit_intro (fun c12 => ?_) (fun c12 => ?_)
              · have hng : ¬ GoodAt a k a.l[k] := fun hg => by rw [hih, hg.2.2.2.2.2.2.2.1] at c12; cases c12
                exact ⟨by rw [bad_at hlt hng hbad h16], H11.below⟩
              · rw [hih] at c12
                refine bsplit_dec (fun c11 => ?_) (fun c11 => ?_)
                · refine ⟨H10.lt (i := 0) rfl rfl, ?_⟩
                  refine H10.ldS (i := 0) rfl rfl ?_
                  refine kW_i64 (by omega) ?_
                  refine ixE (hs.belowE H10.below) (k - 1) (by omega) (by omega) fun b3 s hsk hb3 => ?_
                  obtain rfl : a.l[k - 1] = s := by rw [List.getElem?_eq_getElem (by omega)] at hsk; injection hsk
                  refine ⟨?_, ?_⟩
                  · have h9 := cell_lt (cellsAt_get hb3 0 _ rfl)
                    rw [add_block] at h9; exact h9
                  refine ⟨_, _, _, _, hb3, ?_⟩
                  refine ⟨H10.lt (i := 1) rfl rfl, ?_⟩
                  refine ⟨_, _, _, _, H10.cells (i := 1) rfl, ?_⟩
                  refine (access_order_ct a.l[k - 1] a.l[k]).mono ?_
                  rintro _ w12 ⟨rfl, hb12⟩; have H12 := H11.pass hb12
                  refine ⟨_, rfl, ?_⟩
                  replace hb12 := below_step hb11 (Nat.le_refl _) hb12
                  refine ⟨hb12.keeps, ?_⟩
                  have hol := ord_lt a.l[k - 1] a.l[k]
                  refine bsplit_dec (fun c10 => ?_) (fun c10 => ?_)
                  · have hng : ¬ GoodAt a k a.l[k] := fun hg => by
                      have h9 := hg.2.2.2.2.2.2.2.2
                      rw [List.getElem?_eq_getElem (by omega)] at h9
                      simp only [Option.map_some, Option.some.injEq] at h9
                      rcases h9 with h9 | h9
                      · omega
                      · have := hol.2 h9; omega
                    exact ⟨by rw [bad_at hlt hng hbad h16], H12.below⟩
                  · refine kW_i64 (by omega) ?_
                    have hb9 : bef a.l[k - 1] a.l[k] = true := hol.1 (by omega)
                    exact ⟨⟨k + 1, by omega, by omega, fun j hj h => by
                      rcases Nat.lt_or_ge j k with h' | h'
                      · exact hI j hj h'
                      · obtain rfl : j = k := by omega
                        exact good_at hlt j1 j2 j3 j4 j5 j6 c12 fun _ => hb9, H12.dropLast (R := [_])⟩, by dsimp only; omega⟩
                · refine kW_i64 (by omega) ?_
                  exact ⟨⟨k + 1, by omega, by omega, fun j hj h => by
                      rcases Nat.lt_or_ge j k with h' | h'
                      · exact hI j hj h'
                      · obtain rfl : j = k := by omega
                        exact good_at hlt j1 j2 j3 j4 j5 j6 c12 fun _ => by omega, H11.dropLast (R := [_])⟩, by dsimp only; omega⟩
          · refine H5.drew ?_; clear H5; intro w6 H6
            refine ⟨(· < w6.heap.size), ?_⟩
            refine H6.ld (i := 1) rfl rfl ?_
            refine access_known_ct.mono ?_
            rintro _ w7 ⟨rfl, hb7⟩; have H7 := H6.pass hb7
            refine ⟨_, rfl, ?_⟩
            refine ⟨hb7.keeps, ?_⟩
            refine bsplit_n (fun c9 => ?_) (fun c9 => ?_)
            · have := of_decide_eq_false c9
              exact ⟨H7, by simp; omega⟩
            · have c9 := of_decide_eq_true c9
              refine ⟨H6.lt (i := 1) rfl rfl, ?_⟩
              refine H6.ld (i := 1) rfl rfl ?_
              refine bsplit_dec (fun c8 => ?_) (fun c8 => ?_)
              · exact ⟨H7, by simp; omega⟩
              · refine ⟨H6.lt (i := 1) rfl rfl, ?_⟩
                refine H6.ld (i := 1) rfl rfl ?_
                refine ⟨H6.lt (i := 0) rfl rfl, ?_⟩
                refine H6.ld (i := 0) rfl rfl ?_
                refine bsplit_dec (fun c7 => ?_) (fun c7 => ?_)
                · exact ⟨H7, by simp; omega⟩
                · refine ⟨H6.lt (i := 1) rfl rfl, ?_⟩
                  refine H6.ld (i := 1) rfl rfl ?_
                  refine ⟨H6.lt (i := 1) rfl rfl, ?_⟩
                  refine H6.ld (i := 1) rfl rfl ?_
                  refine ⟨H6.lt (i := 1) rfl rfl, ?_⟩
                  refine H6.ld (i := 1) rfl rfl ?_
                  refine ⟨H6.lt (i := 0) rfl rfl, ?_⟩
                  refine H6.ld (i := 0) rfl rfl ?_
                  refine access_Preamble_ct.mono ?_
                  rintro _ w8 ⟨rfl, hb8⟩; have H8 := H7.pass hb8
                  refine ⟨_, rfl, ?_⟩
                  replace hb8 := below_step hb7 (Nat.le_refl _) hb8
                  refine ⟨hb8.keeps, ?_⟩
                  refine bsplit_nd (fun c6 => ?_) (fun c6 => ?_)
                  · exact ⟨H8, by simp; omega⟩
                  · refine ⟨H6.lt (i := 1) rfl rfl, ?_⟩
                    refine H6.ld (i := 1) rfl rfl ?_
                    refine bsplit_dec (fun c5 => ?_) (fun c5 => ?_)
                    · exact ⟨H8, by simp; omega⟩
                    · refine ⟨H6.lt (i := 1) rfl rfl, ?_⟩
                      refine H6.ld (i := 1) rfl rfl ?_
                      exact ⟨H8, by simp only [decide_eq_false_iff_not]; omega⟩
        · obtain rfl : k = a.l.length := by omega
          refine ⟨?_, H3.below⟩
          rw [checkR, if_neg hbad, if_neg (by omega), if_pos]
          intro i
          exact hI i.1 i.2 i.2
  · refine H1.ld (i := 0) rfl rfl ?_
    refine bsplit_dec (fun c4 => ?_) (fun c4 => ?_)
    · exact ⟨H1, by unfold BadR; simp; omega⟩
    refine H1.ld (i := 0) rfl rfl ?_
    refine bsplit_dec (fun c3 => ?_) (fun c3 => ?_)
    · exact ⟨H1, by unfold BadR; simp; omega⟩
    refine H1.ld (i := 0) rfl rfl ?_
    refine bsplit_dec (fun c2 => ?_) (fun c2 => ?_)
    · exact ⟨H1, by unfold BadR; simp; omega⟩
    refine H1.ld (i := 0) rfl rfl ?_
    refine bsplit_dec (fun c1 => ?_) (fun c1 => ?_)
    · exact ⟨H1, by unfold BadR; simp; omega⟩
    refine H1.ld (i := 0) rfl rfl ?_
    refine bsplit_dec (fun c => ?_) (fun c => ?_)
    · exact ⟨H1, by unfold BadR; simp; omega⟩
    refine H1.ld (i := 0) rfl rfl ?_
    refine kLet_in ?_
    exact ⟨H1, by unfold BadR; simp only [decide_eq_true_eq]; omega⟩
theorem ref38_Check_ct (hs : SlR (CE encAt) 4 w p a.l) (hcap : a.l.length ≤ c) (hl : a.l.length ≤ 1000000) : Calls Try.prog N_ref38_Check #[aggAc a p c] w fun e w' => e = .returned (.int .i64 (checkR a)) ∧ Below w.heap.size w w' := by
  apply F_ref38_Check_ok
  unfold F_ref38_Check
  have H := St.nil w
  refine H.alloc ?_; clear H; intro b w1 H1
  replace H1 : St (fun _ => False) [] w w1 [.blk b Ty_api_Access (encAc a p c)] (fun _ => True) := H1
  refine ⟨fun x7 w2 => St (fun _ => False) [] w w2 [.blk b Ty_api_Access (encAc a p c)] (fun _ => True) ∧ (x7 = true ↔ BadR a), ?_, ?_⟩
  · rintro _ x7 w2 ⟨H2, hj⟩
    refine bsplit_intro (fun c16 => ?_) (fun c16 => ?_) --  x7
    · exact ⟨by rw [checkR, if_pos (hj.1 c16)], H2.below⟩
    · have hbad : ¬ BadR a := fun h => by rw [hj.2 h] at c16; cases c16
      refine H2.ldS (i := 0) rfl rfl ?_
      refine bsplit_dec (fun c15 => ?_) (fun c15 => ?_)
      · exact ⟨by rw [checkR, if_neg hbad, if_pos (by omega)], H2.below⟩
      · have h16 : a.l.length ≤ 16 := by omega
        refine ⟨fun x9 => ((a.l.length - x9).toNat, fun w3 => ∃ k : Nat, x9 = k ∧ k ≤ a.l.length ∧ (∀ j (hj : j < a.l.length), j < k → GoodAt a j a.l[j]) ∧ St (fun _ => False) [] w w3 [.blk b Ty_api_Access (encAc a p c)] (fun _ => True)), ⟨0, rfl, by omega, fun j _ h => by omega, H2⟩, ?_⟩
        clear H2 hj
        rintro _ x9 w3 ⟨k, rfl, hk, hI, H3⟩
        refine H3.ldS (i := 0) rfl rfl ?_
        refine bsplit_dec (fun c14 => ?_) (fun c14 => ?_)
        · have hlt : k < a.l.length := by omega
          refine H3.ldS (i := 0) rfl rfl ?_
          refine ixE (hs.belowE H3.below) k rfl hlt fun b1 s hsk hb => ?_
          obtain rfl : a.l[k] = s := by rw [List.getElem?_eq_getElem hlt] at hsk; injection hsk
          refine ⟨_, _, _, _, hb, ?_⟩
          refine H3.alloc ?_; clear H3; intro b2 w4 H4
          refine H4.store (i := 1) rfl (by rfl) (by rfl) ?_; clear H4; intro w5 H5
          refine ⟨fun x20 w9 => St (fun _ => False) [] w w9 [.blk b Ty_api_Access (encAc a p c), .blk b2 Ty_api_Attempt (encAt a.l[k])] (fun _ => True) ∧ (x20 = false ↔ GoodAt a k a.l[k]), ?_, ?_⟩
          · rintro _ x20 w9 ⟨H9, hj⟩
            refine bsplit_intro (fun c13 => ?_) (fun c13 => ?_) --  x20
            · have hng : ¬ GoodAt a k a.l[k] := fun hg => by rw [hj.2 hg] at c13; cases c13
              exact ⟨by rw [bad_at hlt hng hbad h16], H9.below⟩
            · refine kW_i64 (by omega) ?_
              exact ⟨⟨k + 1, by omega, by omega, fun j hj' h => by
                  rcases Nat.lt_or_ge j k with h' | h'
                  · exact hI j hj' h'
                  · obtain rfl : j = k := by omega
                    exact hj.1 c13, H9.dropLast (R := [_])⟩, by dsimp only; omega⟩
          · have no : ∀ {w' : World}, St (fun _ => False) [] w w' [.blk b Ty_api_Access (encAc a p c), .blk b2 Ty_api_Attempt (encAt a.l[k])] (fun _ => True) → ¬ GoodAt a k a.l[k] → St (fun _ => False) [] w w' [.blk b Ty_api_Access (encAc a p c), .blk b2 Ty_api_Attempt (encAt a.l[k])] (fun _ => True) ∧ (true = false ↔ GoodAt a k a.l[k]) :=
              fun H' h => ⟨H', ⟨fun h' => (by cases h'), fun h' => absurd h' h⟩⟩
            refine H5.drew ?_; clear H5; intro w6 H6
            refine ⟨(· < w6.heap.size), ?_⟩
            refine H6.ld (i := 1) rfl rfl ?_
            refine bsplit_dec (fun c13 => ?_) (fun c13 => ?_)
            · exact no H6 fun hg => by have := hg.1; omega
            refine H6.ld (i := 1) rfl rfl ?_
            refine bsplit_dec (fun c12 => ?_) (fun c12 => ?_)
            · exact no H6 fun hg => by have := hg.2.1; omega
            refine H6.ld (i := 1) rfl rfl ?_
            refine bsplit_dec (fun c11 => ?_) (fun c11 => ?_)
            · exact no H6 fun hg => by have := hg.2.2.1; omega
            refine H6.ld (i := 1) rfl rfl ?_
            refine H6.ld (i := 0) rfl rfl ?_
            refine bsplit_dec (fun c10 => ?_) (fun c10 => ?_)
            · exact no H6 fun hg => by have := hg.2.2.2.1; omega
            refine ⟨H6.lt (i := 1) rfl rfl, ?_⟩
            refine H6.ld (i := 1) rfl rfl ?_
            refine H6.ld (i := 1) rfl rfl ?_
            refine H6.ld (i := 1) rfl rfl ?_
            refine H6.ld (i := 0) rfl rfl ?_
            refine ref38_Preamble_ct.mono ?_
            rintro _ w7 ⟨rfl, hb7⟩; have H7 := H6.pass hb7
            refine ⟨_, rfl, ?_⟩
            refine ⟨hb7.keeps, ?_⟩
            refine bsplit_nd (fun c9 => ?_) (fun c9 => ?_)
            · exact no H7 fun hg => c9 hg.2.2.2.2.1
            refine ⟨H6.lt (i := 1) rfl rfl, ?_⟩
            refine H6.ld (i := 1) rfl rfl ?_
            refine bsplit_dec (fun c8 => ?_) (fun c8 => ?_)
            · exact no H7 fun hg => by have := hg.2.2.2.2.2.1; omega
            refine ⟨H6.lt (i := 1) rfl rfl, ?_⟩
            refine H6.ld (i := 1) rfl rfl ?_
            refine bsplit_dec (fun c7 => ?_) (fun c7 => ?_)
            · exact no H7 fun hg => by have := hg.2.2.2.2.2.2.1; omega
            refine ⟨H6.lt (i := 0) rfl rfl, ?_⟩
            refine H6.ldS (i := 0) rfl rfl ?_
            refine ⟨⟨by omega, by omega⟩, ?_⟩
            refine ⟨H6.lt (i := 1) rfl rfl, ?_⟩
            refine H6.ld (i := 1) rfl rfl ?_
            rw [Int.toNat_natCast, Nat.sub_zero, Nat.sub_zero]
            have htk : (a.l.take k).length = k := by rw [List.length_take]; omega
            have hfd := ref38_has_ct (id := a.l[k].id) (c := c) (slr_take (hs.belowE H7.below) c k) (by omega)
            rw [htk] at hfd
            refine hfd.mono ?_
            rintro _ w8 ⟨rfl, hb8⟩; have H8 := H7.pass hb8
            refine ⟨_, rfl, ?_⟩
            replace hb8 := below_step hb7 (Nat.le_refl _) hb8
            refine ⟨hb8.keeps, ?_⟩
            refine bsplit_intro (fun c6 => ?_) (fun c6 => ?_) --  r1
            · exact no H8 fun hg => by rw [hg.2.2.2.2.2.2.2.1] at c6; cases c6
            have good := good_at hlt ⟨by omega, by omega⟩ (by omega) (by omega) c9 (by omega) (by omega) c6
            refine bsplit_dec (fun c5 => ?_) (fun c5 => ?_)
            · refine ⟨H6.lt (i := 0) rfl rfl, ?_⟩
              refine H6.ldS (i := 0) rfl rfl ?_
              refine kW_i64 (by omega) ?_
              refine ixE (hs.belowE H6.below) (k - 1) (by omega) (by omega) fun b3 s hsk hb3 => ?_
              obtain rfl : a.l[k - 1] = s := by rw [List.getElem?_eq_getElem (by omega)] at hsk; injection hsk
              refine ⟨?_, ?_⟩
              · have h9 := cell_lt (cellsAt_get hb3 0 _ rfl)
                rw [add_block] at h9; exact h9
              refine ⟨_, _, _, _, hb3, ?_⟩
              refine ⟨H6.lt (i := 1) rfl rfl, ?_⟩
              refine ⟨_, _, _, _, H6.cells (i := 1) rfl, ?_⟩
              refine (ref38_before_ct a.l[k - 1] a.l[k]).mono ?_
              rintro _ w9 ⟨rfl, hb9⟩; have H9 := H8.pass hb9
              refine ⟨_, rfl, ?_⟩
              replace hb9 := below_step hb8 (Nat.le_refl _) hb9
              refine ⟨hb9.keeps, ?_⟩
              refine ⟨H9, ?_⟩
              rw [Bool.not_eq_false']
              constructor
              · intro h; exact good fun _ => h
              · intro hg
                have h9 := hg.2.2.2.2.2.2.2.2
                rw [List.getElem?_eq_getElem (by omega)] at h9
                simp only [Option.map_some, Option.some.injEq] at h9
                rcases h9 with h9 | h9
                · omega
                · exact h9
            · exact ⟨H8, ⟨fun _ => good fun h => by omega, fun _ => rfl⟩⟩
        · obtain rfl : k = a.l.length := by omega
          refine ⟨?_, H3.below⟩
          rw [checkR, if_neg hbad, if_neg (by omega), if_pos]
          intro i
          exact hI i.1 i.2 i.2
  · refine H1.ld (i := 0) rfl rfl ?_
    refine bsplit_dec (fun c4 => ?_) (fun c4 => ?_)
    · exact ⟨H1, by unfold BadR; simp; omega⟩
    refine H1.ld (i := 0) rfl rfl ?_
    refine bsplit_dec (fun c3 => ?_) (fun c3 => ?_)
    · exact ⟨H1, by unfold BadR; simp; omega⟩
    refine H1.ld (i := 0) rfl rfl ?_
    refine bsplit_dec (fun c2 => ?_) (fun c2 => ?_)
    · exact ⟨H1, by unfold BadR; simp; omega⟩
    refine H1.ld (i := 0) rfl rfl ?_
    refine bsplit_dec (fun c1 => ?_) (fun c1 => ?_)
    · exact ⟨H1, by unfold BadR; simp; omega⟩
    refine H1.ld (i := 0) rfl rfl ?_
    refine bsplit_dec (fun c => ?_) (fun c => ?_)
    · exact ⟨H1, by unfold BadR; simp; omega⟩
    refine H1.ld (i := 0) rfl rfl ?_
    exact ⟨H1, by unfold BadR; simp only [decide_eq_true_eq]; omega⟩
end
end Go.Proofs.Ytgmniohbnophdaa
