import Derived.Test.YtdafapcckimefaaW19g
namespace Go.Proofs.Ytdafapcckimefaa
open Go.Sx Go.RowKit
section
variable {u n0 n1 : Int} {l : List Rg} {bs : List Int} {l_a b_a : Option Addr} {l_c b_c : Nat} {w : World}
theorem fit_len (bits sp u : Int) (l : List Rg) : (fitR bits ⟨u, l⟩ sp).1.miss.length ≤ l.length := by
  have key : ∀ (r : List Rg) (k : Nat) (used : Int) (unit : Nat) (p : Option Rg), (fitS sp u l k used unit p r).miss.length ≤ l.length := by
    intro r
    induction r with
    | nil => intro k used unit p; exact Nat.le_refl _
    | cons r rs ih =>
      intro k used unit p
      unfold fitS
      split
      · simp; omega
      · exact ih _ _ _ _
  unfold fitR
  split
  · exact Nat.zero_le _
  · split
    · exact Nat.zero_le _
    · exact key _ _ _ _ _
theorem dec_len (bits : Int) (bs : List Int) : (decS bits bs).1.miss.length ≤ 64 := by
  unfold decS
  split
  · exact Nat.zero_le _
  · split
    · exact Nat.zero_le _
    · split
      · rename_i h; exact h.1.2.2.1
      · exact Nat.zero_le _
theorem encS_bytes (bits : Int) (s : Stt) : Bytes (encS bits s).1 := by
  unfold encS
  split
  · exact bytes_S _
  · exact fun i hi => by simp at hi
theorem law19_StatusExact_ct (hl : SlR (CE encR) 3 w l_a l) (hlc : l.length ≤ l_c) (hs : SlR (IntC .u8) 1 w b_a bs) (hb : Bytes bs) (hc : bs.length ≤ b_c) :
    Calls Try.prog N_law19_StatusExact #[(.agg #[.int .i64 u, .slice l_a l.length l_c]), (.slice b_a bs.length b_c), (.agg #[.int .i64 n0, .int .i64 n1])] w fun e w' => e = .returned (.bool true) ∧ Below w.heap.size w w' := by
  apply F_law19_StatusExact_ok
  unfold F_law19_StatusExact
  have H := (St.startA w).hold (slr_held hs)
  have H := H.hold (sle_held hl)
  have awake : ∀ {w' : World} {R : List Res} {P : World → Prop}, St (All w) [] w w' R P → Calls Try.prog N_law19_awake #[] w' fun e w'' => ∃ r : Bool, e = .returned (.bool r) ∧ (Ending.returned (.bool r) = .returned (.bool true) ∧ Below w.heap.size w w'') := fun H' => by
    refine law19_awake_ct.mono ?_
    rintro _ w2 ⟨rfl, hb2⟩
    exact ⟨_, rfl, rfl, (H'.pass hb2).below⟩
  refine H.alloc ?_; clear H; intro b w1 H1
  refine H1.alloc ?_; clear H1; intro b1 w2 H2
  refine ⟨fun w5 => l.length ≤ 200 ∧ bs.length ≤ 3000 ∧ St (All w) [] w w5 [.blk b Ty_api_Status [(.int .i64 u), (.slice l_a l.length l_c)], .blk b1 Ty_2_int [(.int .i64 n0), (.int .i64 n1)]] (fun w => SlR (CE encR) 3 w l_a l ∧ SlR (IntC .u8) 1 w b_a bs), ?_, ?_⟩ --!
  · rintro _  w5 ⟨hll, hbl, H5⟩
    have el := encS_bytes n0 ⟨u, l⟩
    have dl := dec_len n0 bs
    have fl := fit_len n0 n1 u l
    obtain ⟨E, hE⟩ : ∃ E, E = encS n0 ⟨u, l⟩ := ⟨_, rfl⟩
    obtain ⟨D, hD⟩ : ∃ D, D = decS n0 bs := ⟨_, rfl⟩
    obtain ⟨F, hF⟩ : ∃ F, F = fitR n0 ⟨u, l⟩ n1 := ⟨_, rfl⟩
    obtain ⟨E1, E2⟩ := E
    obtain ⟨⟨D0, D1⟩, D2⟩ := D
    obtain ⟨⟨F0, F1⟩, F2⟩ := F
    rw [← hE] at el; rw [← hD] at dl; rw [← hF] at fl
    simp only at el dl fl
    refine H5.ld (i := 1) rfl rfl ?_
    refine ⟨_, _, _, _, H5.cells (i := 0) rfl, ?_⟩
    refine (status_Encode_ct H5.get.1 (by omega)).mono ?_
    rw [← hE]; dsimp only
    rintro _ w6 ⟨ea, ec, hec, rfl, K⟩; have H6 := H5.callF K; clear H5 K
    refine ⟨_, _, _, _, rfl, ?_⟩
    refine H6.ld (i := 1) rfl rfl ?_
    refine ⟨_, _, _, _, H6.cells (i := 0) rfl, ?_⟩
    refine (ref19_Encode_ct H6.get.2.1 (by omega)).mono ?_
    rw [← hE]; dsimp only
    rintro _ w7 ⟨ea1, ec1, hec1, rfl, K⟩; have H7 := H6.callF K; clear H6 K
    refine ⟨_, _, _, _, rfl, ?_⟩
    refine H7.ld (i := 1) rfl rfl ?_
    refine (status_Decode_ct H7.get.2.2.2 hb hc (by omega)).mono ?_
    rw [← hD]; dsimp only
    rintro _ w8 ⟨da, dc, hdc, rfl, K⟩; have H8 := H7.callF K; clear H7 K
    refine ⟨_, _, _, _, _, rfl, ?_⟩
    refine H8.alloc ?_; clear H8; intro b2 w9 H9
    refine H9.store (i := 2) rfl (by rfl) (by rfl) ?_; clear H9; intro w10 H10
    simp only [List.cons_append, List.nil_append, List.append_nil, List.set_cons_zero, List.set_cons_succ] at H10
    refine H10.ld (i := 1) rfl rfl ?_
    refine (ref19_Decode_ct H10.get.2.2.2.2 hb (by omega)).mono ?_
    rw [← hD]; dsimp only
    rintro _ w11 ⟨da1, dc1, hdc1, rfl, K⟩; have H11 := H10.callF K; clear H10 K
    refine ⟨_, _, _, _, _, rfl, ?_⟩
    refine H11.alloc ?_; clear H11; intro b3 w12 H12
    refine H12.store (i := 3) rfl (by rfl) (by rfl) ?_; clear H12; intro w13 H13
    simp only [List.cons_append, List.nil_append, List.append_nil, List.set_cons_zero, List.set_cons_succ] at H13
    refine H13.ld (i := 1) rfl rfl ?_
    refine ⟨_, _, _, _, H13.cells (i := 0) rfl, ?_⟩
    refine H13.ld (i := 1) rfl rfl ?_
    refine (status_Fit_ct H13.get.2.2.2.2.1 (by omega)).mono ?_
    rw [← hF]; dsimp only
    rintro _ w14 ⟨fa, fc, hfc, rfl, K⟩; have H14 := H13.callF K; clear H13 K
    refine ⟨_, _, _, _, _, rfl, ?_⟩
    refine H14.alloc ?_; clear H14; intro b4 w15 H15
    refine H15.store (i := 4) rfl (by rfl) (by rfl) ?_; clear H15; intro w16 H16
    simp only [List.cons_append, List.nil_append, List.append_nil, List.set_cons_zero, List.set_cons_succ] at H16
    refine H16.ld (i := 1) rfl rfl ?_
    refine ⟨_, _, _, _, H16.cells (i := 0) rfl, ?_⟩
    refine H16.ld (i := 1) rfl rfl ?_
    refine (ref19_Fit_ct H16.get.2.2.2.2.2.1 (by omega) hlc).mono ?_
    rw [← hF]; dsimp only
    rintro _ w17 ⟨fa1, fc1, hfc1, rfl, K⟩; have H17 := H16.callF K; clear H16 K
    refine ⟨_, _, _, _, _, rfl, ?_⟩
    refine H17.alloc ?_; clear H17; intro b5 w18 H18
    refine H18.store (i := 5) rfl (by rfl) (by rfl) ?_; clear H18; intro w19 H19
    simp only [List.cons_append, List.nil_append, List.append_nil, List.set_cons_zero, List.set_cons_succ] at H19
    refine H19.drew ?_; clear H19; intro w20 H20
    refine ⟨(· < w20.heap.size), ?_⟩
    refine law19_awake_ct.mono ?_ -- 
    rintro _ w21 ⟨rfl, hb21⟩; have H21 := H20.pass hb21
    refine ⟨_, rfl, ?_⟩
    refine ⟨hb21.keeps, ?_⟩
    refine bsplit_intro (fun _ => ?_) (fun c => by cases c) --  r8
    refine ⟨H20.lt (i := 1) rfl rfl, ?_⟩
    refine H20.ld (i := 1) rfl rfl ?_
    refine ⟨H20.lt (i := 0) rfl rfl, ?_⟩
    refine ⟨_, _, _, _, H20.cells (i := 0) rfl, ?_⟩
    refine ⟨H20.lt (i := 1) rfl rfl, ?_⟩
    refine H20.ld (i := 1) rfl rfl ?_
    refine ⟨H20.lt (i := 0) rfl rfl, ?_⟩
    refine ⟨_, _, _, _, H20.cells (i := 0) rfl, ?_⟩
    obtain ⟨g1, g2, g3, g4, g5, g6, g7, g8⟩ := H20.get
    refine (status_Valid_ct (g7.belowE hb21) (by omega)).mono ?_
    rintro _ w22 ⟨rfl, hb22⟩; have H22 := H21.pass hb22
    refine ⟨_, rfl, ?_⟩
    replace hb22 := below_step hb21 (Nat.le_refl _) hb22
    refine ⟨hb22.keeps, ?_⟩
    refine (ref19_Valid_ct (g7.belowE hb22) (by omega)).mono ?_
    rintro _ w23 ⟨rfl, hb23⟩; have H23 := H22.pass hb23
    refine ⟨_, rfl, ?_⟩
    replace hb23 := below_step hb22 (Nat.le_refl _) hb23
    refine ⟨hb23.keeps, ?_⟩
    refine bsplit_intro (fun _ => ?_) (fun c => by simp at c) --  (r9 == r10)
    refine bsplit_dec (fun _ => ?_) (fun c => absurd rfl c) --  (decide (r2 = r3))
    refine (ref01_Same_ct (g6.below hb23) (g5.below hb23) el el).mono ?_
    rintro _ w24 ⟨rfl, hb24⟩; have H24 := H23.pass hb24
    refine ⟨_, rfl, ?_⟩
    replace hb24 := below_step hb23 (Nat.le_refl _) hb24
    refine ⟨hb24.keeps, ?_⟩
    refine bsplit_dec (fun _ => ?_) (fun c => absurd rfl c) --  r11
    refine bsplit_dec (fun _ => ?_) (fun c => absurd rfl c) --  (decide (r4 = r5))
    refine ⟨H20.lt (i := 2) rfl rfl, ?_⟩
    refine ⟨_, _, _, _, H20.cells (i := 2) rfl, ?_⟩
    refine ⟨H20.lt (i := 3) rfl rfl, ?_⟩
    refine ⟨_, _, _, _, H20.cells (i := 3) rfl, ?_⟩
    refine (ref19_Same_ct (s := ⟨D0, D1⟩) (t := ⟨D0, D1⟩) (g4.belowE hb24) (g3.belowE hb24) (by simp only; omega)).mono ?_
    rintro _ w25 ⟨rfl, hb25⟩; have H25 := H24.pass hb25
    refine ⟨_, rfl, ?_⟩
    replace hb25 := below_step hb24 (Nat.le_refl _) hb25
    refine ⟨hb25.keeps, ?_⟩
    refine bsplit_dec (fun _ => ?_) (fun c => absurd rfl c) --  r12
    refine bsplit_dec (fun _ => ?_) (fun c => absurd rfl c) --  (decide (r6 = r7))
    refine ⟨H20.lt (i := 4) rfl rfl, ?_⟩
    refine ⟨_, _, _, _, H20.cells (i := 4) rfl, ?_⟩
    refine ⟨H20.lt (i := 5) rfl rfl, ?_⟩
    refine ⟨_, _, _, _, H20.cells (i := 5) rfl, ?_⟩
    refine (ref19_Same_ct (s := ⟨F0, F1⟩) (t := ⟨F0, F1⟩) (g2.belowE hb25) (g1.belowE hb25) (by simp only; omega)).mono ?_
    rintro _ w26 ⟨rfl, hb26⟩; have H26 := H25.pass hb26
    refine ⟨_, rfl, ?_⟩
    replace hb26 := below_step hb25 (Nat.le_refl _) hb26
    refine ⟨hb26.keeps, ?_⟩
    exact ⟨by simp, H26.below⟩ --! (.bool r13)
  · refine H2.ldS (i := 0) rfl rfl ?_
    refine bsplit_dec (fun c1 => awake H2) (fun c1 => ?_) --  (decide ((s_1_l : Int) > (200 : Int)))
    refine bsplit_dec (fun c => awake H2) (fun c => ?_) --  (decide ((b_l : Int) > (3000 : Int)))
    exact ⟨by omega, by omega, H2.imp fun _ h => ⟨h.1, h.2.1⟩⟩ --! J 
end
end Go.Proofs.Ytdafapcckimefaa
