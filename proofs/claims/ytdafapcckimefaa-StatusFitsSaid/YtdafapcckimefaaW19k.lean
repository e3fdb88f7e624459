import Derived.Test.YtdafapcckimefaaW19j
namespace Go.Proofs.Ytdafapcckimefaa
open Go.Sx Go.RowKit
section
variable {t_a : Option Addr} {t_c : Nat} {ts : List Int} {space : Int} {w : World}
theorem law19_StatusFits_ct (hs : SlR (IntC .i64) 1 w t_a ts) :
    Calls Try.prog N_law19_StatusFits #[(.slice t_a ts.length t_c), (.int .i64 space)] w fun e w' => e = .returned (.bool true) ∧ Below w.heap.size w w' := by
  apply F_law19_StatusFits_ok
  unfold F_law19_StatusFits
  have H := St.start (A0 := All w) (P := fun w => SlR (IntC .i64) 1 w t_a ts) (slr_held hs)
  refine made_Light_ct.mono ?_ -- (.slice t_a t_l t_c)
  rintro _ w1 ⟨rfl, hb1⟩; have H1 := H.pass hb1; clear H
  refine ⟨_, rfl, ?_⟩
  refine bsplit_nd (fun c4 => ?_) (fun c4 => ?_) --  (!r)
  · refine law19_awake_ct.mono ?_ -- 
    rintro _ w2 ⟨rfl, hb2⟩; have H2 := H1.pass hb2; clear H1
    refine ⟨_, rfl, ?_⟩
    exact ⟨rfl, H2.below⟩ --! (.bool r1)
  have hts : Rolls t_a ts fun w => SlR (IntC .i64) 1 w t_a ts := ⟨fun _ h => h, by omega⟩
  refine (made_Roll_ct (ts := ts)).mono ?_ -- (.slice t_a t_l t_c)
  rintro _ w3 ⟨g, rfl, K⟩; have H3 := H1.callR K; clear H1 K
  refine ⟨_, rfl, ?_⟩
  refine dBits H3 (i := 0) rfl hts (by omega) fun bits p1 w4 hbits hp1 H4 => ?_
  clear H3
  have hbo : bitsOk bits := hbits
  refine dStatus H4 (i := 0) rfl hts hp1 hbo fun ra rc s p2 w5 hok hp2 H5 => ?_
  clear H4
  obtain ⟨u, L⟩ := s
  have hll : L.length ≤ 64 := hok.2.2.1
  simp only at H5 ⊢
  have H5 := H5.shareE encR_ok (i := 1) rfl
  refine H5.alloc ?_; clear H5; intro b w6 H6
  refine H6.store (i := 2) rfl (by rfl) (by rfl) ?_; clear H6; intro w7 H7
  refine (made_Mod_ct space 120 (by omega)).mono ?_
  rintro _ w8 ⟨rfl, hb8⟩; have H8 := H7.pass hb8; clear H7
  refine ⟨_, rfl, ?_⟩
  have hm := modI_range space 120 (by omega)
  refine kW_i64 (by omega) ?_
  obtain ⟨n, hn⟩ : ∃ n, n = 3 + modI space 120 := ⟨_, rfl⟩
  rw [← hn]
  refine ⟨_, _, _, _, H8.cells (i := 2) rfl, ?_⟩
  obtain ⟨X, hX⟩ : ∃ X, X = fitS n u L 0 3 0 none L := ⟨_, rfl⟩
  have e0 : fitR bits ⟨u, L⟩ n = (X, 0) := by unfold fitR; rw [if_neg (not_not_intro hok), if_neg (by omega), hX]
  obtain ⟨hXok, hXlen, hXform⟩ := fits_law hok (by omega) hX
  refine (status_Fit_ct (bits := bits) (u := u) (sp := n) H8.get.1 (by omega)).mono ?_
  rw [e0]; dsimp only
  rintro _ w9 ⟨fa, fc, hfc, rfl, K⟩; have H9 := H8.callF K; clear H8 K
  refine ⟨_, _, _, _, _, rfl, ?_⟩
  refine H9.alloc ?_; clear H9; intro b1 w10 H10
  refine H10.store (i := 3) rfl (by rfl) (by rfl) ?_; clear H10; intro w11 H11
  have H11 : St (All w) [] w w11 [dice g t_a t_c ts p2, .gone, .blk b Ty_api_Status [.int .i64 u, .slice ra L.length rc], .blk b1 Ty_api_Status [.int .i64 X.upto, .slice fa X.miss.length fc]] (fun w => SlR (CE encR) 3 w fa X.miss ∧ SlR (CE encR) 3 w ra L ∧ SlR (IntC .i64) 1 w t_a ts) := H11
  have hml : X.miss.length ≤ L.length ∧ X.miss = L.take X.miss.length := by
    rcases hXform with rfl | ⟨i, hi, rfl, _⟩
    · simp
    · simp only [List.length_take]
      exact ⟨by omega, by rw [Nat.min_eq_left (by omega)]⟩
  refine ⟨_, _, _, _, H11.cells (i := 3) rfl, ?_⟩
  have e1 : encS bits ⟨X.upto, X.miss⟩ = (bytesS X, 0) := if_pos hXok
  refine (status_Encode_ct H11.get.1 (by omega)).mono ?_
  rw [e1]; dsimp only
  rintro _ w12 ⟨ea, ec, hec, rfl, K⟩; have H12 := (H11.callF K).imp fun _ h => h.2; clear H11 K
  refine ⟨_, _, _, _, rfl, ?_⟩
  have H12 : St (All w) [] w w12 [dice g t_a t_c ts p2, .gone, .blk b Ty_api_Status [.int .i64 u, .slice ra L.length rc], .blk b1 Ty_api_Status [.int .i64 X.upto, .slice fa X.miss.length fc]] (fun w => SlR (CE encR) 3 w fa X.miss ∧ SlR (CE encR) 3 w ra L ∧ SlR (IntC .i64) 1 w t_a ts) := H12
  refine ⟨fun x1 w14 => x1 = false ∧ St (All w) [] w w14 [.blk b Ty_api_Status [.int .i64 u, .slice ra L.length rc], .blk b1 Ty_api_Status [.int .i64 X.upto, .slice fa X.miss.length fc]] (fun w => SlR (CE encR) 3 w fa X.miss ∧ SlR (CE encR) 3 w ra L), ?_, ?_⟩ --!
  · rintro _ x1 w14 ⟨rfl, H14⟩
    refine bsplit_intro (fun c => by cases c) (fun _ => ?_) --  x1
    refine ⟨fun i => ((X.miss.length - i).toNat, fun w15 => ∃ k : Nat, i = k ∧ k ≤ X.miss.length ∧ St (All w) [] w w15 [.blk b Ty_api_Status [.int .i64 u, .slice ra L.length rc], .blk b1 Ty_api_Status [.int .i64 X.upto, .slice fa X.miss.length fc]] (fun w => SlR (CE encR) 3 w fa X.miss ∧ SlR (CE encR) 3 w ra L)), ⟨0, rfl, by omega, H14⟩, ?_⟩ --! I (0 : Int)
    clear H14
    rintro _ i w15 ⟨k, rfl, hk, H15⟩
    refine H15.ldS (i := 1) rfl rfl ?_
    refine bsplit_dec (fun c13 => ?_) (fun c13 => ?_) --  (decide (i < (r_1_l1 : Int)))
    · have hkx : k < X.miss.length := by omega
      have hkl : k < L.length := by omega
      refine H15.drew ?_; clear H15; intro w16 H16
      refine H16.ldS (i := 1) rfl rfl ?_
      refine ixE H16.get.1 k rfl hkx fun b2 q hq hb2 => ?_
      refine ⟨_, _, _, hb2, ?_⟩
      refine H16.ldS (i := 0) rfl rfl ?_
      refine ixE H16.get.2 k rfl hkl fun b3 q' hq' hb3 => ?_
      refine ⟨_, _, _, hb3, ?_⟩
      have hqq : q = q' := by
        rw [hml.2, List.getElem?_take, if_pos hkx, hq'] at hq
        injection hq with h; exact h.symm
      refine eqP_range ?_
      refine bsplit_dec (fun c => absurd hqq c) (fun _ => ?_) --  r8
      refine kW_i64 (by omega) ?_ -- i + (1 : Int)
      exact ⟨⟨k + 1, by omega, by omega, H16⟩, by dsimp only; omega⟩ --! I (i + (1 : Int))
    · refine H15.ldS (i := 1) rfl rfl ?_
      refine H15.ldS (i := 0) rfl rfl ?_
      refine bsplit_dec (fun c12 => ?_) (fun c12 => ?_) --  (decide ((r_1_l1 : Int) = (r_1_l : Int)))
      · refine H15.ld (i := 1) rfl rfl ?_
        refine H15.ld (i := 0) rfl rfl ?_
        refine kLet_in ?_
        have : X.upto = u := by
          rcases hXform with rfl | ⟨i, hi, rfl, _⟩
          · rfl
          · simp only [List.length_take] at c12; omega
        exact ⟨by rw [decide_eq_true this], H15.below⟩ --! (.bool (decide (r_01 = r_0)))
      obtain ⟨m, hm, hXe, hne, hway, hmore⟩ : ∃ (i : Nat) (hi : i < L.length), X = ⟨L[i].sn, L.take i⟩ ∧ (∀ j (hj : j + 1 < L.length), i = j + 1 → L[j].sn ≠ L[i].sn) ∧ 1 ≤ way bits L[i].sn u ∧
          ∀ g, i < g → g ≤ L.length → (∀ hg : g < L.length, L[g].sn ≠ L[i].sn) → n < ((bytesS ⟨u, L.take g⟩).length : Int) := by
        rcases hXform with rfl | h
        · exact absurd rfl c12
        · exact h
      have hxm : X.miss = L.take m := by rw [hXe]
      have hxu : X.upto = L[m].sn := by rw [hXe]
      have hxl : X.miss.length = m := by rw [hxm]; simp; omega
      refine H15.ldS (i := 1) rfl rfl ?_
      refine ⟨_, _, _, _, H15.cells (i := 1) rfl, ?_⟩
      refine H15.alloc ?_; clear H15; intro b4 w17 H17
      refine H17.store (i := 2) rfl (by rfl) (by rfl) ?_; clear H17; intro w18 H18
      refine H18.ld (i := 0) rfl rfl ?_
      refine H18.set (i := 2) rfl (by simp) ?_; clear H18; intro w19 H19
      refine H19.ldS (i := 1) rfl rfl ?_
      have H19 := H19.nilE encR Ty_api_Range 3
      refine H19.appE encR_ok (i := 3) (ys := []) rfl sl_Ty_S_api_Range H19.get.1 (by simp; omega) (by simp; omega) ?_; intro x_a9 x_c9 w20 H20 --! append
      rw [List.nil_append] at H20 ⊢
      refine H20.set (i := 2) rfl (by simp) ?_; clear H20 H19; intro w21 H21
      refine ⟨fun k1 w29 => ∃ (g : Nat) (ma : Option Addr) (mc : Nat), k1 = g ∧ m < g ∧ g ≤ L.length ∧ (∀ hg : g < L.length, L[g].sn ≠ L[m].sn) ∧
        St (All w) [] w w29 [.blk b Ty_api_Status [.int .i64 u, .slice ra L.length rc], .blk b1 Ty_api_Status [.int .i64 X.upto, .slice fa X.miss.length fc], .blk b4 Ty_api_Status [.int .i64 u, .slice ma (L.take g).length mc], .els encR Ty_api_Range 3 ma mc (L.take g)] (fun w => SlR (CE encR) 3 w fa X.miss ∧ SlR (CE encR) 3 w ra L), ?_, ?_⟩ --!
      · rintro _ k1 w29 ⟨g', ma, mc, rfl, hmg, hgl, hgn, H29⟩
        have hmr := hmore g' hmg hgl hgn
        refine ⟨_, _, _, _, H29.cells (i := 2) rfl, ?_⟩
        have e2 : encS bits ⟨u, L.take g'⟩ = (bytesS ⟨u, L.take g'⟩, 0) := if_pos (ok_take hok g')
        refine (status_Encode_ct (H29.slE encR_ok (i := 3) rfl) (by simp; omega)).mono ?_
        rw [e2]; dsimp only
        rintro _ w30 ⟨ea2, ec2, hec2, rfl, K⟩; have H30 := (H29.callF K).imp fun _ h => h.2; clear H29 K
        refine ⟨_, _, _, _, rfl, ?_⟩
        refine H30.drew ?_; clear H30; intro w31 H31
        refine ⟨(· < w31.heap.size), ?_⟩
        have hb5 := hbo.1; have hb9 := hbo.2
        have dist : Calls Try.prog N_ref02_Distance #[.int .i64 bits, .int .i64 X.upto, .int .i64 u] w31 fun e_10 w32 => ∃ r10 : Int, e_10 = .returned (.int .i64 r10) ∧ (KeepsB (· < w31.heap.size) w31 w32 ∧ (kLet (decide (r10 > (0 : Int))) fun x12 => Ending.returned (.bool x12) = .returned (.bool true) ∧ Below w.heap.size w w32)) := by
          refine ref02_Distance_ct.mono ?_
          rintro _ w32 ⟨rfl, hb32⟩; have H32 := H31.pass hb32
          refine ⟨_, rfl, hb32.keeps, ?_⟩
          refine kLet_in ?_
          rw [if_pos (by omega), hxu]
          exact ⟨by rw [decide_eq_true (by omega)], H32.below⟩
        refine H31.ldS (i := 1) rfl rfl ?_
        refine bsplit_dec (fun _ => ?_) (fun c => absurd (show (g' : Int) > X.miss.length by omega) c)
        refine bsplit_dec (fun _ => ?_) (fun c => absurd rfl c)
        refine bsplit_dec (fun _ => ?_) (fun c => absurd hmr c)
        refine H31.ldS (i := 1) rfl rfl ?_
        refine bsplit_dec (fun c8 => ?_) (fun c8 => ?_) --  (decide ((r_1_l1 : Int) = (0 : Int)))
        · refine H31.ld (i := 1) rfl rfl ?_
          refine H31.ld (i := 0) rfl rfl ?_
          exact dist
        · obtain ⟨j, hj⟩ : ∃ j, m = j + 1 := ⟨m - 1, by omega⟩
          have hjl : j + 1 < L.length := by omega
          refine H31.ldS (i := 1) rfl rfl ?_
          refine H31.ldS (i := 1) rfl rfl ?_
          refine kW_i64 (by omega) ?_
          refine ixE H31.get.1 j (by omega) (by omega) fun b8 q hq hb8 => ?_
          refine ld_at hb8 0 rfl ?_
          have hqj : q.sn = L[j].sn := by
            rw [hxm, List.getElem?_take, if_pos (by omega), List.getElem?_eq_getElem (by omega)] at hq
            injection hq with h; rw [h]
          refine H31.ld (i := 1) rfl rfl ?_
          refine bsplit_nd (fun c7 => ?_) (fun c7 => ?_) --  (!decide (x14 = r_01))
          · refine H31.ld (i := 1) rfl rfl ?_
            refine H31.ld (i := 0) rfl rfl ?_
            exact dist
          · exact absurd (hqj.symm.trans (c7.trans hxu)) (hne j hjl hj)
      · refine ⟨fun k => ((L.length - k).toNat, fun w22 => ∃ (i : Nat) (ma : Option Addr) (mc : Nat), k = i ∧ m ≤ i ∧ i ≤ L.length ∧
          St (All w) [] w w22 [.blk b Ty_api_Status [.int .i64 u, .slice ra L.length rc], .blk b1 Ty_api_Status [.int .i64 X.upto, .slice fa X.miss.length fc], .blk b4 Ty_api_Status [.int .i64 u, .slice ma (L.take i).length mc], .els encR Ty_api_Range 3 ma mc (L.take i)] (fun w => SlR (CE encR) 3 w fa X.miss ∧ SlR (CE encR) 3 w ra L)), ⟨m, x_a9, x_c9, by omega, by omega, by omega, by rw [← hxm]; exact H21⟩, ?_⟩ --! I (r_1_l1 : Int)
        clear H21
        rintro _ k w22 ⟨i, ma, mc, rfl, hmi, hil, H22⟩
        refine ⟨fun w24 => i < L.length ∧ St (All w) [] w w24 [.blk b Ty_api_Status [.int .i64 u, .slice ra L.length rc], .blk b1 Ty_api_Status [.int .i64 X.upto, .slice fa X.miss.length fc], .blk b4 Ty_api_Status [.int .i64 u, .slice ma (L.take i).length mc], .els encR Ty_api_Range 3 ma mc (L.take i)] (fun w => SlR (CE encR) 3 w fa X.miss ∧ SlR (CE encR) 3 w ra L), ?_, ?_⟩ --!
        · rintro _  w24 ⟨hi, H24⟩
          refine H24.drew ?_; clear H24; intro w25 H25
          refine ⟨fun x => x = b4, ?_⟩
          refine ⟨rfl, ?_⟩
          refine H25.ldS (i := 2) rfl rfl ?_
          refine H25.ldS (i := 0) rfl rfl ?_
          refine ixE H25.get.2 i rfl hi fun b6 q hq hb6 => ?_
          obtain rfl : L[i] = q := by rw [List.getElem?_eq_getElem hi] at hq; injection hq
          refine ⟨_, _, _, hb6, ?_⟩
          refine H25.alloc ?_; intro b7 w26 H26
          refine ⟨keepsBlk H25 H26 (i := 2) (j := 2) rfl rfl, ?_⟩
          refine H26.appEB encR_ok (i := 3) (j := 4) rfl [L[i]] rfl sl_Ty_S_api_Range rfl (by simp; omega) (by simp; omega) ?_; intro x_a14 x_c14 w27 H27 --! append
          refine ⟨keepsBlk H25 H27 (i := 2) (j := 2) rfl rfl, ?_⟩ --!
          have et : L.take i ++ [L[i]] = L.take (i + 1) := by rw [List.take_add_one, List.getElem?_eq_getElem hi]; rfl
          rw [et] at H27 ⊢
          refine H27.set (i := 2) rfl (by simp) ?_; intro w28 H28
          refine kW_i64 (by omega) ?_ -- k + (1 : Int)
          refine ⟨⟨i + 1, x_a14, x_c14, by omega, by omega, by omega, H28.sub (fun i => i) ?_ (fun _ _ _ _ h => h)⟩, by dsimp only; omega⟩ --! I (k + (1 : Int))
          rintro (_ | _ | _ | _ | _) r h <;> first | exact h | cases h
        · refine H22.drew ?_; clear H22; intro w23 H23
          refine H23.ldS (i := 0) rfl rfl ?_
          refine bsplit_dec (fun c6 => ?_) (fun c6 => ?_) --  (decide (k < (r_1_l : Int)))
          · have hi : i < L.length := by omega
            refine H23.ldS (i := 0) rfl rfl ?_
            refine ixE H23.get.2 i rfl hi fun b5 q hq hb5 => ?_
            obtain rfl : L[i] = q := by rw [List.getElem?_eq_getElem hi] at hq; injection hq
            refine ld_at hb5 0 rfl ?_
            refine H23.ld (i := 1) rfl rfl ?_
            refine bsplit_dec (fun c5 => ?_) (fun c5 => ?_) --  (decide (x7 = r_01))
            · exact ⟨hi, H23⟩ --! J2 
            · rw [hxu] at c5
              refine ⟨i, ma, mc, rfl, ?_, by omega, fun _ => c5, H23⟩ --! J1 k
              rcases (show m = i ∨ m < i by omega) with rfl | h
              · exact absurd rfl c5
              · exact h
          · exact ⟨i, ma, mc, rfl, by omega, by omega, fun h => absurd h (by omega), H23⟩ --! J1 k
  · refine law19_awake_ct.mono ?_ -- 
    rintro _ w13 ⟨rfl, hb13⟩; have H13 := H12.pass hb13; clear H12
    refine ⟨_, rfl, ?_⟩
    refine bsplit_n (fun c => by cases c) (fun _ => ?_) --  (!r7)
    refine bsplit_nd (fun c => absurd rfl c) (fun _ => ?_)
    refine bsplit_nd (fun c => absurd rfl c) (fun _ => ?_)
    refine bsplit_dec (fun c => by omega) (fun c => ?_) --  (decide ((r_l : Int) > ((3 : Int) + r4)))
    refine H13.ldS (i := 3) rfl rfl ?_
    refine H13.ldS (i := 2) rfl rfl ?_
    refine ⟨by rw [decide_eq_false]; omega, (H13.sub (fun i => i + 2) ?_ (fun _ _ _ _ h => by omega)).imp fun _ h => ⟨h.1, h.2.1⟩⟩ --! J
    rintro (_ | _ | _) r h <;> first | exact h | cases h
end
end Go.Proofs.Ytdafapcckimefaa
