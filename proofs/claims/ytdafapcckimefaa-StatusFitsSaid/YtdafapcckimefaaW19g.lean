import Derived.Test.YtdafapcckimefaaW19f
namespace Go.Sx
theorem getN_two {l : List Int} {j : Nat} {x y : Int} {r : List Int} (h : l.drop j = x :: y :: r) : getN ((l.drop j).take 2) = 256 * x + y := by
  rw [h]; simp [getN]
theorem drop_two {l : List Int} {j : Nat} {x y : Int} {r : List Int} (h : l.drop j = x :: y :: r) : l.drop (j + 2) = r := by
  rw [← List.drop_drop, h]; rfl
theorem drop_len {l : List Int} {j : Nat} {r : List Int} (h : l.drop j = r) (hj : j ≤ l.length) : l.length = j + r.length := by
  rw [← h, List.length_drop]; omega
end Go.Sx
namespace Go.Proofs.Ytdafapcckimefaa
open Go.Sx Go.RowKit
section
variable {bits : Int} {b_a : Option Addr} {bs : List Int} {b_c : Nat} {w : World}
theorem ref19_Decode_ct (hs : SlR (IntC .u8) 1 w b_a bs) (hb : Bytes bs) (hl : bs.length ≤ 100000) :
    Calls Try.prog N_ref19_Decode #[(.int .i64 bits), (.slice b_a bs.length b_c)] w (RetS w (decS bits bs).1 (decS bits bs).2) := by
  apply F_ref19_Decode_ok
  unfold F_ref19_Decode
  have H := St.nil w
  refine H.alloc ?_; clear H; intro b w1 H1
  refine ref15_Bits_ct.mono ?_ -- (.int .i64 bits)
  rintro _ w2 ⟨rfl, hb2⟩; have H2 := H1.pass hb2; clear H1
  refine ⟨_, rfl, ?_⟩
  refine bsplit_nd (fun c => ?_) (fun c => ?_) --  (!r)
  · have e0 : decS bits bs = (.zero, 3) := if_pos c
    rw [e0]
    refine H2.store (i := 0) rfl (by rfl) (by rfl) ?_; clear H2; intro w3 H3
    refine ⟨_, _, _, _, H3.cells (i := 0) rfl, ?_⟩
    exact RetS.zero H3.fin.below _
  have e0 : decS bits bs = match rdS bs with | none => (.zero, 5) | some s => if okS bits s ∧ bytesS s = bs then (s, 0) else (.zero, 4) := if_neg (not_not_intro c)
  have none_ : ∀ {w' : World} {R : List Res} {P : World → Prop} {u : Int} {ma : Option Addr} {ml mc : Nat}, rdS bs = none → St (fun _ => False) [] w w' (.blk b Ty_api_Status [.int .i64 u, .slice ma ml mc] :: R) P →
      sxStore w' ⟨b, 0, none⟩ 0 [(.int .i64 (0 : Int)), (.slice none 0 0)] fun w9 => ∃ r_02 : Int, ∃ r_1_a2 : Option Addr, ∃ r_1_l2 : Nat, ∃ r_1_c2 : Nat, cellsAt w9 ⟨b, 0, none⟩ 0 [(.int .i64 r_02), (.slice r_1_a2 r_1_l2 r_1_c2)] ∧
        RetS w (decS bits bs).1 (decS bits bs).2 (.returned (.tuple #[(.agg #[.int .i64 r_02, .slice r_1_a2 r_1_l2 r_1_c2]), (.int .i64 (5 : Int))])) w9 := fun h H => by
    rw [e0, h]
    refine H.store (i := 0) rfl (by rfl) (by rfl) fun w9 H9 => ?_
    refine ⟨_, _, _, _, H9.cells (i := 0) rfl, ?_⟩
    exact RetS.zero H9.fin.below _
  refine bsplit_dec (fun c6 => ?_) (fun c6 => ?_) --  (decide ((b_l : Int) < (3 : Int)))
  · refine none_ ?_ H2
    rcases bs with _ | ⟨x, _ | ⟨y, _ | ⟨n, r⟩⟩⟩
    · rfl
    · rfl
    · rfl
    · simp only [List.length_cons] at c6; omega
  obtain ⟨x, y, n, r2, hbs⟩ : ∃ x y n r2, bs = x :: y :: n :: r2 := by
    rcases bs with _ | ⟨x, _ | ⟨y, _ | ⟨n, r⟩⟩⟩
    · simp at c6
    · simp at c6
    · simp at c6
    · exact ⟨x, y, n, r, rfl⟩
  have hbx : Bytes (x :: y :: n :: r2) := hbs ▸ hb
  obtain ⟨hx, hy, hb1⟩ := bytes2 hbx
  obtain ⟨hn, hb2'⟩ := bytes1 hb1
  have hg0 : getN ((bs.drop 0).take 2) = 256 * x + y := getN_two (j := 0) (r := n :: r2) (by rw [hbs]; rfl)
  refine (ref01_Get_ct (hs.below H2.below) hb (by omega) 0 2 (by omega) (by omega)).mono ?_
  rw [hg0]
  rintro _ w5 ⟨rfl, hb5⟩; have H5 := H2.pass hb5; clear H2
  refine ⟨_, rfl, ?_⟩
  refine H5.alloc ?_; clear H5; intro b1 w6 H6
  refine H6.store (i := 1) rfl (by rfl) (by rfl) ?_; clear H6; intro w7 H7
  refine ixE (hs.below H7.below) 2 rfl (by omega) fun b2 n' hn' hb2 => ?_
  obtain rfl : n = n' := by rw [hbs] at hn'; injection hn'
  refine ⟨_, hb2, ?_⟩
  refine kW_i64 (by omega) ?_ -- x
  obtain ⟨m, rfl⟩ := natOf hn.1
  have H7 := H7.nilE encR Ty_api_Range 3
  have hrd : rdS bs = (rdR m r2).map (⟨256 * x + y, ·⟩) := by rw [hbs]; simp [rdS]
  refine ⟨fun at1 n => (n.toNat, fun w8 => ∃ (j k : Nat) (rest : List Int) (L : List Rg) (ma : Option Addr) (mc : Nat), at1 = j ∧ n = k ∧ k ≤ 255 ∧ j ≤ bs.length ∧ bs.drop j = rest ∧ L.length + k ≤ 255 ∧ rdS bs = (rdR k rest).map (fun L' => (⟨256 * x + y, L ++ L'⟩ : Stt)) ∧
      FreshR w w8 [.blk b Ty_api_Status [(.int .i64 (0 : Int)), (.slice none 0 0)], .blk b1 Ty_api_Status [(.int .i64 (256 * x + y)), (.slice ma L.length mc)], .els encR Ty_api_Range 3 ma mc L]),
      ⟨3, m, r2, [], none, 0, rfl, rfl, by omega, by omega, by rw [hbs]; rfl, by simp; omega, by rw [hrd]; simp, H7⟩, ?_⟩ --! I (3 : Int) x
  clear H7
  rintro _ at1 n w8 ⟨j, k, rest, L, ma, mc, rfl, rfl, hk, hj, hrest, hLk, hrd2, H8⟩
  have hlen := drop_len hrest hj
  have hbr : Bytes rest := by rw [← hrest]; exact fun i hi => by simp only [List.getElem_drop]; exact hb _ _
  refine bsplit_dec (fun c5 => ?_) (fun c5 => ?_) --  (decide (n > (0 : Int)))
  · obtain ⟨k, rfl⟩ : ∃ i, k = i + 1 := ⟨k - 1, by omega⟩
    refine kW_i64 (by omega) ?_ -- at1 + (2 : Int)
    refine bsplit_dec (fun c2 => ?_) (fun c2 => ?_) --  (decide ((b_l : Int) < (at1 + (2 : Int))))
    · refine none_ ?_ H8
      rw [hrd2]
      rcases rest with _ | ⟨x, _ | ⟨y, r⟩⟩
      · rfl
      · rfl
      · simp only [List.length_cons] at hlen; omega
    · obtain ⟨p, q, r3, rfl⟩ := take2 (show ¬ rest.length < 2 by omega)
      obtain ⟨hp, hq, hb3⟩ := bytes2 hbr
      have hg := getN_two hrest
      have hd := drop_two hrest
      simp only [List.length_cons] at hlen
      refine (ref01_Get_ct (hs.below H8.below) hb (by omega) j 2 (by omega) (by omega)).mono ?_
      rw [hg]
      rintro _ w10 ⟨rfl, hb10⟩; have H10 := H8.pass hb10; clear H8
      refine ⟨_, rfl, ?_⟩
      obtain ⟨v, hv⟩ : ∃ v, v = 256 * p + q := ⟨_, rfl⟩
      have hvr : 0 ≤ v ∧ v < 65536 := by omega
      have hstep : rdR (k + 1) (p :: q :: r3) = if v % 16 = 1 then rdX k v r3 else (rdR k r3).map (⟨v / 16, 0, 0⟩ :: ·) := by rw [hv, rdR_step]
      rw [hstep] at hrd2
      rw [← hv]
      refine kFdiv ?_
      have e16 : v / 2 ^ 4 = v / 16 := rfl
      rw [e16]
      refine H10.alloc ?_; clear H10; intro b3 w11 H11
      refine H11.store (i := 3) rfl (by rfl) (by rfl) ?_; clear H11; intro w12 H12
      refine kW_i64 (by omega) ?_ -- at1 + (2 : Int)
      refine kLet_intro fun x5 hx5 => ?_ --! bAnd .i64 r2 (15 : Int)
      have hx5 : x5 = v % 16 := by rw [hx5]; exact bAnd_i64 4 (by omega) (by omega) (by decide)
      refine bsplit_dec (fun c1 => ?_) (fun c1 => ?_) --  (decide (x5 = (1 : Int)))
      · rw [if_pos (by omega)] at hrd2
        refine kW_i64 (by omega) ?_ -- (at1 + (2 : Int)) + (4 : Int)
        refine bsplit_dec (fun c => ?_) (fun c => ?_) --  (decide ((b_l : Int) < ((at1 + (2 : Int)) + (4 : Int))))
        · refine none_ ?_ H12
          rw [hrd2]
          rcases r3 with _ | ⟨e, _ | ⟨f, _ | ⟨g, _ | ⟨i, r⟩⟩⟩⟩
          · rfl
          · rfl
          · rfl
          · rfl
          · simp only [List.length_cons] at hlen; omega
        · obtain ⟨e, f, r4, rfl⟩ := take2 (show ¬ r3.length < 2 by omega)
          obtain ⟨he, hf, hb4⟩ := bytes2 hb3
          simp only [List.length_cons] at hlen
          obtain ⟨g, i, r5, rfl⟩ := take2 (show ¬ r4.length < 2 by omega)
          obtain ⟨hg', hi, hb5⟩ := bytes2 hb4
          simp only [List.length_cons] at hlen
          have hg1 := getN_two hd
          have hd1 := drop_two hd
          have hg2 := getN_two hd1
          have hd2 := drop_two hd1
          have ej : (j : Int) + 2 = ((j + 2 : Nat) : Int) := by omega
          have ej2 : ((j + 2 : Nat) : Int) + 2 = ((j + 2 + 2 : Nat) : Int) := by omega
          rw [ej]
          refine (ref01_Get_ct (hs.below H12.below) hb (by omega) (j + 2) 2 (by omega) (by omega)).mono ?_
          rw [hg1]
          rintro _ w14 ⟨rfl, hb14⟩; have H14 := H12.pass hb14; clear H12
          refine ⟨_, rfl, ?_⟩
          refine kW_i64 (by omega) ?_ -- (at1 + (2 : Int)) + (2 : Int)
          rw [ej2]
          refine (ref01_Get_ct (hs.below H14.below) hb (by omega) (j + 2 + 2) 2 (by omega) (by omega)).mono ?_
          rw [hg2]
          rintro _ w15 ⟨rfl, hb15⟩; have H15 := H14.pass hb15; clear H14
          refine ⟨_, rfl, ?_⟩
          refine H15.set (i := 3) rfl (by simp) ?_; clear H15; intro w16 H16
          refine H16.set (i := 3) rfl (by simp) ?_; clear H16; intro w17 H17
          refine kW_i64 (by omega) ?_ -- (at1 + (2 : Int)) + (4 : Int)
          refine H17.ldS (i := 1) rfl rfl ?_
          refine ⟨_, _, _, H17.cells (i := 3) rfl, ?_⟩
          refine H17.alloc ?_; clear H17; intro b4 w18 H18
          refine H18.appEB encR_ok (i := 2) (j := 4) rfl [⟨v / 16, 256 * e + f, 256 * g + i⟩] rfl sl_Ty_S_api_Range rfl (by simp; omega) (by simp; omega) ?_; intro x_a1 x_c1 w19 H19 --! append
          refine H19.set (i := 1) rfl (by simp) ?_; clear H19; intro w20 H20
          refine kW_i64 (by omega) ?_ -- n - (1 : Int)
          refine ⟨⟨j + 6, k, r5, L ++ [⟨v / 16, 256 * e + f, 256 * g + i⟩], x_a1, x_c1, by omega, by omega, by omega, by omega, hd2, by simp; omega, by rw [hrd2]; simp [rdX, Function.comp_def], H20.sub (fun i => i) ?_ (fun _ _ _ _ h => h)⟩, by dsimp only; omega⟩
          rintro (_ | _ | _ | _) r h <;> first | exact h | cases h
      · rw [if_neg (by omega)] at hrd2
        refine H12.ldS (i := 1) rfl rfl ?_
        refine ⟨_, _, _, H12.cells (i := 3) rfl, ?_⟩
        refine H12.alloc ?_; clear H12; intro b5 w21 H21
        refine H21.appEB encR_ok (i := 2) (j := 4) rfl [⟨v / 16, 0, 0⟩] rfl sl_Ty_S_api_Range rfl (by simp; omega) (by simp; omega) ?_; intro x_a3 x_c3 w22 H22 --! append
        refine H22.set (i := 1) rfl (by simp) ?_; clear H22; intro w23 H23
        refine kW_i64 (by omega) ?_ -- n - (1 : Int)
        refine ⟨⟨j + 2, k, r3, L ++ [⟨v / 16, 0, 0⟩], x_a3, x_c3, by omega, by omega, by omega, by omega, hd, by simp; omega, by rw [hrd2]; simp [Function.comp_def], H23.sub (fun i => i) ?_ (fun _ _ _ _ h => h)⟩, by dsimp only; omega⟩
        rintro (_ | _ | _ | _) r h <;> first | exact h | cases h
  · obtain rfl : k = 0 := by omega
    have hrd3 : rdS bs = some ⟨256 * x + y, L⟩ := by rw [hrd2]; simp [rdR]
    rw [hrd3] at e0
    simp only at e0
    have hse := H8.slE encR_ok (i := 2) rfl
    have hmc := H8.capE (i := 2) rfl
    refine ⟨_, _, _, _, H8.cells (i := 1) rfl, ?_⟩
    refine (ref19_Encode_ct hse (by omega)).mono ?_
    have bad : ∀ {w' : World} {R : List Res} {P : World → Prop} {u : Int} {ma : Option Addr} {ml mc : Nat}, ¬ (okS bits ⟨256 * x + y, L⟩ ∧ bytesS ⟨256 * x + y, L⟩ = bs) → St (fun _ => False) [] w w' (.blk b Ty_api_Status [.int .i64 u, .slice ma ml mc] :: R) P →
        sxStore w' ⟨b, 0, none⟩ 0 [(.int .i64 (0 : Int)), (.slice none 0 0)] fun w9 => ∃ r_02 : Int, ∃ r_1_a2 : Option Addr, ∃ r_1_l2 : Nat, ∃ r_1_c2 : Nat, cellsAt w9 ⟨b, 0, none⟩ 0 [(.int .i64 r_02), (.slice r_1_a2 r_1_l2 r_1_c2)] ∧
          RetS w (decS bits bs).1 (decS bits bs).2 (.returned (.tuple #[(.agg #[.int .i64 r_02, .slice r_1_a2 r_1_l2 r_1_c2]), (.int .i64 (4 : Int))])) w9 := fun h H => by
      rw [e0, if_neg h]
      refine H.store (i := 0) rfl (by rfl) (by rfl) fun w9 H9 => ?_
      refine ⟨_, _, _, _, H9.cells (i := 0) rfl, ?_⟩
      exact RetS.zero H9.fin.below _
    by_cases hok : okS bits ⟨256 * x + y, L⟩
    · have ee : encS bits ⟨256 * x + y, L⟩ = (bytesS ⟨256 * x + y, L⟩, 0) := if_pos hok
      rw [ee]
      rintro _ w24 ⟨ra, rc, hrc, rfl, K⟩; have H24 := H8.callF K; clear K
      refine ⟨_, _, _, _, rfl, ?_⟩
      refine bsplit_nd (fun c4 => absurd rfl c4) (fun _ => ?_)
      refine (ref01_Same_ct (hs.below H24.below) H24.get.1 hb (bytes_S _)).mono ?_
      rintro _ w26 ⟨rfl, hb26⟩; have H26 := H24.pass hb26; clear H24
      refine ⟨_, rfl, ?_⟩
      refine bsplit_nd (fun c3 => ?_) (fun c3 => ?_)
      · exact bad (fun h => c3 h.2.symm) H26
      · rw [e0, if_pos ⟨hok, c3.symm⟩]
        refine ⟨_, _, _, _, H26.cells (i := 1) rfl, ?_⟩
        refine H26.store (i := 0) rfl (by rfl) (by rfl) fun w28 H28 => ?_
        refine ⟨_, _, _, _, H28.cells (i := 0) rfl, ?_⟩
        exact ⟨_, _, hmc, rfl, (H28.freshRow (i := 2) rfl).imp fun _ h => els_sl encR_ok h⟩
    · have ee : encS bits ⟨256 * x + y, L⟩ = ([], 1) := if_neg hok
      rw [ee]
      rintro _ w24 ⟨ra, rc, hrc, rfl, K⟩; have H24 := H8.callF K; clear K
      refine ⟨_, _, _, _, rfl, ?_⟩
      refine bsplit_nd (fun _ => ?_) (fun c4 => by cases c4)
      exact bad (fun h => hok h.1) H24
end
section
variable {s t : Stt} {a_a b_a : Option Addr} {a_c b_c : Nat} {w : World}
theorem ref19_Same_ct (hs : SlR (CE encR) 3 w a_a s.miss) (ht : SlR (CE encR) 3 w b_a t.miss) (hl : s.miss.length ≤ 140737488355328) :
    Calls Try.prog N_ref19_Same #[(.agg #[.int .i64 s.upto, .slice a_a s.miss.length a_c]), (.agg #[.int .i64 t.upto, .slice b_a t.miss.length b_c])] w fun e w' => e = .returned (.bool (decide (s = t))) ∧ Below w.heap.size w w' := by
  apply F_ref19_Same_ok
  unfold F_ref19_Same
  have H := St.nil w
  have hst : s = t ↔ s.upto = t.upto ∧ s.miss = t.miss := by cases s; cases t; simp
  refine H.alloc ?_; clear H; intro b w1 H1
  refine H1.alloc ?_; clear H1; intro b1 w2 H2
  refine H2.ld (i := 0) rfl rfl ?_
  refine H2.ld (i := 1) rfl rfl ?_
  refine bsplit_dec (fun c => ?_) (fun c => ?_) --  (decide (a_0 = b_0))
  · refine H2.ldS (i := 0) rfl rfl ?_
    refine H2.ldS (i := 1) rfl rfl ?_
    refine (ref18_SameRanges_ct (hs.belowE H2.below) (ht.belowE H2.below) hl).mono ?_
    rintro _ w3 ⟨rfl, hb3⟩; have H3 := H2.pass hb3; clear H2
    refine ⟨_, rfl, ?_⟩
    exact ⟨retD (by rw [hst]; exact ⟨fun h => ⟨c, h⟩, fun h => h.2⟩), H3.below⟩ --! (.bool r)
  · exact ⟨retF fun h => c (hst.1 h).1, H2.below⟩ --! (.bool false)
end
theorem law19_awake_ct {w : World} :
    Calls Try.prog N_law19_awake #[] w fun e w' => e = .returned (.bool true) ∧ Below w.heap.size w w' := by
  apply F_law19_awake_ok
  unfold F_law19_awake
  have H := St.nil w
  obtain ⟨L, hL⟩ : ∃ L : List Rg, L = [⟨31, 0, 0⟩, ⟨1, 3, 9⟩] := ⟨_, rfl⟩
  have hok : okS 5 ⟨2, [⟨31, 0, 0⟩, ⟨1, 3, 9⟩]⟩ := by decide +kernel
  have e1 : encS 5 ⟨2, L⟩ = (bytesS ⟨2, L⟩, 0) := by subst hL; exact if_pos hok
  have e2 : (bytesS ⟨2, L⟩).length = 11 := by subst hL; decide +kernel
  have e3 : decS 5 (bytesS ⟨2, L⟩) = (⟨2, L⟩, 0) := by subst hL; decide +kernel
  have e4 : fitR 5 ⟨2, L⟩ 6 = (⟨1, [⟨31, 0, 0⟩]⟩, 0) := by subst hL; decide +kernel
  have hl2 : L.length = 2 := by subst hL; rfl
  refine H.alloc ?_; clear H; intro b w1 H1
  refine H1.alloc ?_; clear H1; intro b1 w2 H2
  refine H2.store (i := 1) rfl (by rfl) (by rfl) ?_; clear H2; intro w3 H3
  have H3 := H3.litE encR_ok (i := 0) [⟨31, 0, 0⟩, ⟨1, 3, 9⟩] rfl (by decide)
  rw [← hL] at H3
  have H3 := H3.shareE encR_ok (i := 0) rfl
  have H3 : St (fun _ => False) [] w w3 [.gone, .blk b1 Ty_api_Status [.int .i64 2, .slice (some ⟨b, 0, none⟩) L.length 2]] (fun w => SlR (CE encR) 3 w (some ⟨b, 0, none⟩) L ∧ True) := by rw [hl2]; exact H3
  refine ⟨_, _, _, _, H3.cells (i := 1) rfl, ?_⟩
  refine (status_Encode_ct H3.get.1 (by omega)).mono ?_
  rw [e1]
  rintro _ w4 ⟨ra, rc, hrc, rfl, K⟩; have H4 := H3.callF K; clear H3 K
  refine ⟨_, _, _, _, rfl, ?_⟩
  refine (status_Decode_ct H4.get.1 (bytes_S _) hrc (by simp only; omega)).mono ?_
  simp only at hrc ⊢
  rw [e3]
  rintro _ w5 ⟨ma, mc, hmc, rfl, K⟩; have H5 := H4.callF K; clear H4 K
  refine ⟨_, _, _, _, _, rfl, ?_⟩
  refine H5.alloc ?_; clear H5; intro b2 w6 H6
  refine H6.store (i := 2) rfl (by rfl) (by rfl) ?_; clear H6; intro w7 H7
  refine ⟨_, _, _, _, H7.cells (i := 1) rfl, ?_⟩
  refine (status_Fit_ct H7.get.2.2.1 (by omega)).mono ?_
  rw [e4]
  rintro _ w8 ⟨fa, fc, hfc, rfl, K⟩; have H8 := H7.callF K; clear H7 K
  refine ⟨_, _, _, _, _, rfl, ?_⟩
  refine H8.alloc ?_; clear H8; intro b3 w9 H9
  refine H9.store (i := 3) rfl (by rfl) (by rfl) ?_; clear H9; intro w10 H10
  refine bsplit_dec (fun _ => ?_) (fun c => by first | exact absurd rfl c | exact absurd trivial c | omega) --  (decide (r = (0 : Int)))
  refine bsplit_dec (fun _ => ?_) (fun c => by first | exact absurd rfl c | exact absurd trivial c | omega)
  refine bsplit_dec (fun _ => ?_) (fun c => by first | exact absurd rfl c | exact absurd trivial c | omega)
  refine bsplit_dec (fun _ => ?_) (fun c => by omega)
  refine ⟨_, _, _, _, H10.cells (i := 1) rfl, ?_⟩
  refine ⟨_, _, _, _, H10.cells (i := 2) rfl, ?_⟩
  refine (ref19_Same_ct (s := ⟨2, L⟩) (t := ⟨2, L⟩) H10.get.2.2.2.1 H10.get.2.1 (by simp only; omega)).mono ?_
  rintro _ w11 ⟨rfl, hb11⟩; have H11 := H10.pass hb11; clear H10
  refine ⟨_, rfl, ?_⟩
  refine bsplit_dec (fun _ => ?_) (fun c => by first | exact absurd rfl c | exact absurd trivial c | omega)
  refine H11.ld (i := 3) rfl rfl ?_
  refine bsplit_dec (fun _ => ?_) (fun c => by first | exact absurd rfl c | exact absurd trivial c | omega)
  refine H11.ldS (i := 3) rfl rfl ?_
  refine kLet_in ?_
  exact ⟨by simp, H11.below⟩
end Go.Proofs.Ytdafapcckimefaa
