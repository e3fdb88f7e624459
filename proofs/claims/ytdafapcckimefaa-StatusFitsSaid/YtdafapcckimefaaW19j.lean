import Derived.Test.YtdafapcckimefaaW19i
namespace Go.Proofs.Ytdafapcckimefaa
open Go.Sx Go.RowKit
section
variable {t_a : Option Addr} {t_c : Nat} {ts : List Int} {w : World}
theorem law19_StatusMade_ct (hs : SlR (IntC .i64) 1 w t_a ts) :
    Calls Try.prog N_law19_StatusMade #[(.slice t_a ts.length t_c)] w fun e w' => e = .returned (.bool true) ∧ Below w.heap.size w w' := by
  apply F_law19_StatusMade_ok
  unfold F_law19_StatusMade
  have H := St.start (A0 := All w) (P := fun w => SlR (IntC .i64) 1 w t_a ts) (slr_held hs)
  refine made_Light_ct.mono ?_ -- (.slice t_a t_l t_c)
  rintro _ w1 ⟨rfl, hb1⟩; have H1 := H.pass hb1; clear H
  refine ⟨_, rfl, ?_⟩
  refine bsplit_nd (fun c4 => ?_) (fun c4 => ?_) --  (!r)
  · refine law19_awake_ct.mono ?_ -- 
    rintro _ w2 ⟨rfl, hb2⟩; have H2 := H1.pass hb2; clear H1
    refine ⟨_, rfl, ?_⟩
    exact ⟨rfl, H2.below⟩ --! (.bool r1)
  have hts : Rolls t_a ts fun w => SlR (IntC .i64) 1 w t_a ts := ⟨fun _ h => h, by omega⟩
  refine (made_Roll_ct (ts := ts)).mono ?_ -- (.slice t_a t_l t_c)
  rintro _ w3 ⟨g, rfl, K⟩; have H3 := H1.callR K; clear H1 K
  refine ⟨_, rfl, ?_⟩
  refine dBits H3 (i := 0) rfl hts (by omega) fun bits p1 w4 hbits hp1 H4 => ?_
  clear H3
  have hbo : bitsOk bits := hbits
  have hpw := pow_bits hbo
  refine dStatus H4 (i := 0) rfl hts hp1 hbo fun ra rc s p2 w5 hok hp2 H5 => ?_
  clear H4
  have hll : s.miss.length ≤ 64 := hok.2.2.1
  have hrc := H5.capE (i := 1) rfl
  have H5 := H5.shareE encR_ok (i := 1) rfl
  refine H5.alloc ?_; clear H5; intro b w6 H6
  refine H6.store (i := 2) rfl (by rfl) (by rfl) ?_; clear H6; intro w7 H7
  refine ⟨_, _, _, _, H7.cells (i := 2) rfl, ?_⟩
  have e0 : encS bits ⟨s.upto, s.miss⟩ = (bytesS s, 0) := if_pos hok
  have hblen := bytesS_len s
  refine (ref19_Encode_ct H7.get.1 (by omega)).mono ?_
  rw [e0]; dsimp only
  rintro _ w8 ⟨ea, ec, hec, rfl, K⟩; have H8 := H7.callF K; clear H7 K
  refine ⟨_, _, _, _, rfl, ?_⟩
  have H8 : St (All w) [] w w8 [dice g t_a t_c ts p2, .gone, .blk b Ty_api_Status [.int .i64 s.upto, .slice ra s.miss.length rc]] (fun w => SlR (IntC .u8) 1 w ea (bytesS s) ∧ SlR (CE encR) 3 w ra s.miss ∧ SlR (IntC .i64) 1 w t_a ts) := H8
  have hbb := bytes_S s
  obtain ⟨bs, hbs⟩ : ∃ bs, bs = bytesS s := ⟨_, rfl⟩
  rw [← hbs] at hblen hbb hec H8 ⊢
  refine ⟨fun b_a b_l b_c w12 => ∃ (zs : List Int) (p4 : Nat), b_l = zs.length ∧ Bytes zs ∧ zs.length ≤ b_c ∧ p4 ≤ ts.length ∧
    St (All w) [] w w12 [dice g t_a t_c ts p4, .gone, .blk b Ty_api_Status [.int .i64 s.upto, .slice ra s.miss.length rc]] (fun w => SlR (IntC .u8) 1 w b_a zs ∧ SlR (CE encR) 3 w ra s.miss ∧ SlR (IntC .i64) 1 w t_a ts), ?_, ?_⟩ --!
  · rintro _ b_a b_l b_c w12 ⟨zs, p4, rfl, hzb, hzc, hp4, H12⟩
    have hts2 : Rolls t_a ts (fun w => SlR (IntC .u8) 1 w b_a zs ∧ SlR (CE encR) 3 w ra s.miss ∧ SlR (IntC .i64) 1 w t_a ts) := ⟨fun _ h => h.2.2, by omega⟩
    refine ⟨fun w16 => ∃ (ma : Option Addr) (L : List Rg) (mc p5 : Nat), L.length ≤ mc ∧ p5 ≤ ts.length ∧ L.length ≤ 1000 ∧
      St (All w) [] w w16 [dice g t_a t_c ts p5, .gone, .blk b Ty_api_Status [.int .i64 s.upto, .slice ma L.length mc]] (fun w => SlR (CE encR) 3 w ma L ∧ SlR (IntC .u8) 1 w b_a zs ∧ SlR (IntC .i64) 1 w t_a ts), ?_, ?_⟩ --!
    · rintro _  w16 ⟨ma, L, mc, p5, hmc, hp5, hL, H16⟩
      have hts3 : Rolls t_a ts (fun w => SlR (CE encR) 3 w ma L ∧ SlR (IntC .u8) 1 w b_a zs ∧ SlR (IntC .i64) 1 w t_a ts) := ⟨fun _ h => h.2.2, by omega⟩
      have fin : ∀ {w' : World} {u : Int} {p6 : Nat}, p6 ≤ ts.length → St (All w) [] w w' [dice g t_a t_c ts p6, .gone, .blk b Ty_api_Status [.int .i64 u, .slice ma L.length mc]] (fun w => SlR (CE encR) 3 w ma L ∧ SlR (IntC .u8) 1 w b_a zs ∧ SlR (IntC .i64) 1 w t_a ts) →
          kDrew w' fun w19 => ∃ S : Nat → Prop, S b ∧ ∃ x_01 : Int, ∃ x_1_a1 : Option Addr, ∃ x_1_l1 : Nat, ∃ x_1_c1 : Nat, cellsAt w19 ⟨b, 0, none⟩ 0 [(.int .i64 x_01), (.slice x_1_a1 x_1_l1 x_1_c1)] ∧
            Calls Try.prog N_made_Dice_Next #[(.pointer (some ⟨g, 0, none⟩)), (.int .i64 (40 : Int))] w19 fun e_12 w20 => ∃ r9 : Int, e_12 = .returned (.int .i64 r9) ∧ (KeepsB S w19 w20 ∧ (kW .i64 (r9 - (1 : Int)) fun x7 =>
            (KeepsB S w19 w20 ∧ (Calls Try.prog N_law19_StatusExact #[(.agg #[.int .i64 x_01, .slice x_1_a1 x_1_l1 x_1_c1]), (.slice b_a zs.length b_c), (.agg #[.int .i64 bits, .int .i64 x7])] w20 fun e_13 w21 =>
            ∃ r10 : Bool, e_13 = .returned (.bool r10) ∧ (KeepsB S w19 w21 ∧ (Ending.returned (.bool r10) = .returned (.bool true) ∧ Below w.heap.size w w21)))))) := fun hp6 H => by
        refine H.drew fun w19 H19 => ?_
        refine ⟨fun x => x = b, rfl, _, _, _, _, H19.cells (i := 2) rfl, ?_⟩
        refine dNext H19 (i := 0) rfl hts3 hp6 (by omega) fun r9 p7 w20 _ hr9 hp7 H20 => ?_
        have hr9 := hr9 (by omega)
        refine ⟨keepsBlk H19 H20 (i := 2) (j := 2) rfl rfl, ?_⟩
        refine kW_i64 (by omega) ?_
        refine ⟨keepsBlk H19 H20 (i := 2) (j := 2) rfl rfl, ?_⟩
        refine (law19_StatusExact_ct H20.get.1 hmc H20.get.2.1 hzb hzc).mono ?_
        rintro _ w21 ⟨rfl, hb21⟩; have H21 := H20.pass hb21
        exact ⟨_, rfl, keepsBlk H19 H21 (i := 2) (j := 2) rfl rfl, rfl, H21.below⟩
      refine made_One_ct H16 (i := 0) rfl hts3 hp5 (by omega) fun v p6 w17 _ hp6 H17 => ?_
      clear H16
      refine bsplit_intro (fun c3 => ?_) (fun c3 => ?_) --  r8
      · have hup := hok.2.1
        refine H17.ld (i := 2) rfl rfl ?_
        refine kW_u64 (by omega) ?_ -- r3
        refine ⟨by omega, ?_⟩
        refine kShl1 (by omega) ?_
        refine kW_i64 (by omega) ?_ -- r_0 + (2 ^ r3.toNat)
        refine H17.set (i := 2) rfl (by simp) ?_; clear H17; intro w18 H18
        exact fin hp6 H18
      · exact fin hp6 H17
    · refine made_One_ct H12 (i := 0) rfl hts2 hp4 (by omega) fun v p5 w13 _ hp5 H13 => ?_
      clear H12
      refine bsplit_intro (fun c2 => ?_) (fun c2 => ?_) --  r7
      · refine H13.ldS (i := 2) rfl rfl ?_
        refine dOddRange H13 (i := 0) rfl hts2 hp5 (fun _ h => h.2.1) (by omega) fun oa oc L p6 w14 hL1 _ hp6 H14 => ?_
        have hoc := H14.capE (i := 3) rfl
        have H14 := H14.shareE encR_ok (i := 3) rfl
        refine H14.set (i := 2) rfl (by simp) ?_; clear H14; intro w15 H15
        refine ⟨oa, L, oc, p6, hoc, hp6, by omega, (H15.sub (fun i => i) ?_ (fun _ _ _ _ h => h)).imp fun _ h => ⟨h.1, h.2.1, h.2.2.2⟩⟩ --! J1 
        rintro (_ | _ | _ | _) r h <;> first | exact h | cases h
      · exact ⟨ra, s.miss, rc, p5, hrc, hp5, by omega, H13.imp fun _ h => ⟨h.2.1, h.1, h.2.2⟩⟩ --! J1 
  · have hts2 : Rolls t_a ts (fun w => SlR (IntC .u8) 1 w ea bs ∧ SlR (CE encR) 3 w ra s.miss ∧ SlR (IntC .i64) 1 w t_a ts) := ⟨fun _ h => h.2.2, by omega⟩
    refine dNext H8 (i := 0) rfl hts2 hp2 (by omega) fun r5 p3 w9 _ hr5 hp3 H9 => ?_
    clear H8
    refine kLet_in ?_
    refine bsplit_dec (fun c1 => ?_) (fun c1 => ?_) --  (decide (r5 = (0 : Int)))
    · refine dSpoil H9 (i := 0) rfl hts2 hp3 (fun _ h => h.1) hbb (by omega) fun sa sc zs p4 w10 hzb hzl hp4 H10 => ?_
      have hsc := H10.capI (i := 3) rfl
      have H10 := H10.shareI (i := 3) rfl
      refine ⟨zs, p4, rfl, hzb, hsc, hp4, (H10.sub (fun i => i) ?_ (fun _ _ _ _ h => h)).imp fun _ h => ⟨h.1, h.2.2⟩⟩ --! J r_a1 r_l1 r_c1
      rintro (_ | _ | _ | _) r h <;> first | exact h | cases h
    · refine kLet_in ?_
      refine bsplit_dec (fun c => ?_) (fun c => ?_) --  (decide (r5 = (1 : Int)))
      · refine kW_i64 (by omega) ?_ -- (r_l : Int) + (1 : Int)
        refine dNext H9 (i := 0) rfl hts2 hp3 (by omega) fun r6 p4 w11 _ hr6 hp4 H11 => ?_
        have hr6 := hr6 (by omega)
        obtain ⟨k, rfl⟩ := natOf hr6.1
        refine ⟨⟨by omega, by omega⟩, ?_⟩ -- hi
        refine ⟨bs.take k, p4, by simp; omega, fun i hi => by simp only [List.getElem_take]; exact hbb _ _, by simp; omega, hp4, H11.imp fun _ h => ⟨h.1.pre ec k, h.2⟩⟩ --! J
      · exact ⟨bs, p3, rfl, hbb, hec, hp3, H9⟩ --! J r_a r_l r_c
theorem law19_StatusReturns_ct (hs : SlR (IntC .i64) 1 w t_a ts) :
    Calls Try.prog N_law19_StatusReturns #[(.slice t_a ts.length t_c)] w fun e w' => e = .returned (.bool true) ∧ Below w.heap.size w w' := by
  apply F_law19_StatusReturns_ok
  unfold F_law19_StatusReturns
  have H := St.start (A0 := All w) (P := fun w => SlR (IntC .i64) 1 w t_a ts) (slr_held hs)
  refine made_Light_ct.mono ?_ -- (.slice t_a t_l t_c)
  rintro _ w1 ⟨rfl, hb1⟩; have H1 := H.pass hb1; clear H
  refine ⟨_, rfl, ?_⟩
  refine bsplit_nd (fun c4 => ?_) (fun c4 => ?_) --  (!r)
  · refine law19_awake_ct.mono ?_ -- 
    rintro _ w2 ⟨rfl, hb2⟩; have H2 := H1.pass hb2; clear H1
    refine ⟨_, rfl, ?_⟩
    exact ⟨rfl, H2.below⟩ --! (.bool r1)
  have hts : Rolls t_a ts fun w => SlR (IntC .i64) 1 w t_a ts := ⟨fun _ h => h, by omega⟩
  refine (made_Roll_ct (ts := ts)).mono ?_ -- (.slice t_a t_l t_c)
  rintro _ w3 ⟨g, rfl, K⟩; have H3 := H1.callR K; clear H1 K
  refine ⟨_, rfl, ?_⟩
  refine dBits H3 (i := 0) rfl hts (by omega) fun bits p1 w4 hbits hp1 H4 => ?_
  clear H3
  have hbo : bitsOk bits := hbits
  refine dStatus H4 (i := 0) rfl hts hp1 hbo fun ra rc s p2 w5 hok hp2 H5 => ?_
  clear H4
  have hll : s.miss.length ≤ 64 := hok.2.2.1
  have H5 := H5.shareE encR_ok (i := 1) rfl
  refine H5.alloc ?_; clear H5; intro b w6 H6
  refine H6.store (i := 2) rfl (by rfl) (by rfl) ?_; clear H6; intro w7 H7
  refine ⟨_, _, _, _, H7.cells (i := 2) rfl, ?_⟩
  have e0 : encS bits ⟨s.upto, s.miss⟩ = (bytesS s, 0) := if_pos hok
  have hblen := bytesS_len s
  refine (status_Encode_ct H7.get.1 (by omega)).mono ?_
  rw [e0]; dsimp only
  rintro _ w8 ⟨ea, ec, hec, rfl, K⟩; have H8 := H7.callF K; clear H7 K
  refine ⟨_, _, _, _, rfl, ?_⟩
  refine (status_Decode_ct (bits := bits) H8.get.1 (bytes_S s) hec (by omega)).mono ?_
  rw [dec_enc hok]; dsimp only
  rintro _ w9 ⟨da, dc, hdc, rfl, K⟩; have H9 := H8.callF K; clear H8 K
  refine ⟨_, _, _, _, _, rfl, ?_⟩
  refine H9.alloc ?_; clear H9; intro b1 w10 H10
  refine H10.store (i := 3) rfl (by rfl) (by rfl) ?_; clear H10; intro w11 H11
  refine law19_awake_ct.mono ?_ -- 
  rintro _ w12 ⟨rfl, hb12⟩; have H12 := H11.pass hb12; clear H11
  refine ⟨_, rfl, ?_⟩
  refine bsplit_intro (fun _ => ?_) (fun c => by cases c) --  r6
  refine ⟨_, _, _, _, H12.cells (i := 2) rfl, ?_⟩
  refine (status_Valid_ct H12.get.2.2.1 (by omega)).mono ?_
  rintro _ w13 ⟨rfl, hb13⟩; have H13 := H12.pass hb13; clear H12
  refine ⟨_, rfl, ?_⟩
  refine bsplit_dec (fun _ => ?_) (fun c => absurd hok c) --  r7
  refine bsplit_dec (fun _ => ?_) (fun c => absurd rfl c)
  refine bsplit_dec (fun _ => ?_) (fun c => absurd rfl c)
  refine ⟨_, _, _, _, H13.cells (i := 2) rfl, ?_⟩
  refine ⟨_, _, _, _, H13.cells (i := 3) rfl, ?_⟩
  refine (ref19_Same_ct (s := s) (t := s) H13.get.2.2.1 H13.get.1 (by omega)).mono ?_
  rintro _ w14 ⟨rfl, hb14⟩; have H14 := H13.pass hb14; clear H13
  refine ⟨_, rfl, ?_⟩
  exact ⟨by simp, H14.below⟩ --! (.bool r8)
end
end Go.Proofs.Ytdafapcckimefaa
