import Derived.Test.YtjmjdjpbgjjhmaaW24i
namespace Go.Proofs.Ytjmjdjpbgjjhmaa
open Go.Sx Go.RowKit

section
variable {b_a : Option Addr} {bs : List Int} {b_c : Nat} {w : World}
theorem getD_drop {bs : List Int} (k i : Nat) : (bs.drop k).getD i 0 = bs.getD (k + i) 0 := by
  simp [List.getD, List.getElem?_drop]
set_option maxHeartbeats 600000 in
theorem ref24_Decode_ct (hs : SlR (IntC .u8) 1 w b_a bs) (hB : Bytes bs) (hl : bs.length ≤ 1000000) (hcap : bs.length ≤ b_c) :
    Calls Try.prog N_ref24_Decode #[(.slice b_a bs.length b_c)] w (RetL w (decS bs).1 (decS bs).2) := by
  apply F_ref24_Decode_ok
  unfold F_ref24_Decode
  have H := St.nil w
  refine ⟨fun out_a1 out_l1 out_c1 w8 => ∃ (L : List Sec) (xs : List XSec), out_l1 = xs.length ∧ (decS bs = if (encS L bs.length).2 ≠ 0 ∨ (encS L bs.length).1 ≠ bs then ([], 4) else (L, 0)) ∧ usedS L ≤ bs.length ∧ St (fun _ => False) [] w w8 [.els encX Ty_api_Section 2 out_a1 out_c1 xs] (fun w => DatR w xs L), ?_, ?_⟩ --!
  · rintro _ out_a1 out_l1 out_c1 w8 ⟨L, xs, rfl, ed, hu, H8⟩
    have hsec := secR_of (H8.slE encX_ok (i := 0) rfl) H8.get
    have hxl := H8.get.1
    have hLl := len_used L
    rw [hxl]
    refine (ref24_Encode_ct hsec ⟨by omega, by omega⟩).mono ?_ -- (.slice out_a1 out_l1 out_c1), (.int .i64 (b_l : Int))
    rintro _ w9 ⟨ea, ec, hec, rfl, K⟩; have H9 := H8.callF K; clear H8 K
    refine ⟨_, _, _, _, rfl, ?_⟩
    refine bsplit_nd (fun c4 => ?_) (fun c4 => ?_) --  (!decide (r = (0 : Int)))
    · rw [ed, if_pos (.inl c4)]; exact .nil H9.below _ --! (.tuple #[(.slice none 0 0), (.int .i64 (4 : Int))])
    · have hel : (encS L bs.length).1.length ≤ 140737488355328 := by
        have hc : chkS L bs.length = 0 := by
          rcases Decidable.em (chkS L bs.length = 0) with h | h
          · exact h
          · rw [encS_err h] at c4; exact absurd c4 h
        have := encS_len hc; omega
      refine (ref24_SameBytes_ct (xs := (encS L bs.length).1) H9.get.1 (hs.below H9.below) hel).mono ?_ -- (.slice r_a1 r_l1 r_c1), (.slice b_a b_l b_c)
      rintro _ w10 ⟨rfl, hb10⟩; have H10 := H9.pass hb10; clear H9
      refine ⟨_, rfl, ?_⟩
      refine bsplit_nd (fun c3 => ?_) (fun c3 => ?_) --  (!r1)
      · rw [ed, if_pos (.inr c3)]; exact .nil H10.below _ --! (.tuple #[(.slice none 0 0), (.int .i64 (4 : Int))])
      · rw [ed, if_neg (by simp [c3, c4])]
        refine ⟨out_a1, out_c1, by rw [← hxl]; exact H10.capE (i := 0) rfl, rfl, ?_⟩ --! (.tuple #[(.slice out_a1 out_l1 out_c1), (.int .i64 (0 : Int))])
        exact ((H10.shareE encX_ok (i := 0) rfl).fin).imp fun _ h => secR_of h.1 h.2.2
  · have H := H.nilE encX Ty_api_Section 2
    refine ⟨fun out_a out_l out_c at1 => ((bs.length - at1).toNat, fun w1 => ∃ (L : List Sec) (xs : List XSec), at1 = (usedS L : Nat) ∧ out_l = xs.length ∧ usedS L ≤ bs.length ∧ bodyS L ++ bs.drop (usedS L) = bs ∧ parseS bs = (parseS (bs.drop (usedS L))).map (L ++ ·) ∧
      St (fun _ => False) [] w w1 [.els encX Ty_api_Section 2 out_a out_c xs] (fun w => DatR w xs L)), ⟨[], [], rfl, rfl, by simp [usedS], by simp [usedS, bodyS], by simp only [usedS, List.drop_zero]; cases parseS bs <;> simp, H.imp fun _ _ => .nil _⟩, ?_⟩ --! I none 0 0 (0 : Int)
    clear H
    rintro _ out_a out_l out_c at1 w1 ⟨L, xs, rfl, rfl, hu, hbd, hp, H1⟩
    have b0 := bytes_getD hB (usedS L)
    have b1 := bytes_getD hB (usedS L + 1)
    have g0 := getD_drop (bs := bs) (usedS L) 0
    have g1 := getD_drop (bs := bs) (usedS L) 1
    rw [Nat.add_zero] at g0
    have hdl : (bs.drop (usedS L)).length = bs.length - usedS L := by simp
    obtain ⟨n, hn⟩ : ∃ n : Nat, n = (bs.getD (usedS L) 0 % 16 * 256 + bs.getD (usedS L + 1) 0).toNat := ⟨_, rfl⟩
    have stop : ∀ {w2 : World}, St (fun _ => False) [] w w2 [.els encX Ty_api_Section 2 out_a out_c xs] (fun w => DatR w xs L) → ((bs.length - usedS L < 2 ∨ bs.getD (usedS L) 0 / 16 = 15) ∨ (2 ≤ bs.length - usedS L ∧ bs.getD (usedS L) 0 / 16 ≠ 15 ∧ n > bs.length - usedS L - 2)) → ∃ (L : List Sec) (xs' : List XSec), xs.length = xs'.length ∧ (decS bs = if (encS L bs.length).2 ≠ 0 ∨ (encS L bs.length).1 ≠ bs then ([], 4) else (L, 0)) ∧ usedS L ≤ bs.length ∧ St (fun _ => False) [] w w2 [.els encX Ty_api_Section 2 out_a out_c xs'] (fun w => DatR w xs' L) := fun S h =>
      ⟨L, xs, rfl, decS_stop hbd hp (by rw [g0]; exact b0) (by rw [hdl, g0, g1, ← hn]; exact h), hu, S⟩
    refine kW_i64 (by omega) ?_ -- at1 + (1 : Int)
    refine bsplit_dec (fun c2 => ?_) (fun c2 => stop H1 (.inl (.inl (by omega)))) --  (decide ((at1 + (1 : Int)) < (b_l : Int)))
    refine H1.drew ?_; clear H1; intro w2 H2
    have rd : ∀ (i : Nat) {j : Int} {F : Addr → Prop}, j = (i : Nat) → i < bs.length → (∀ q, w2.cell? (q.add (j.toNat * 1)) = some (.int .u8 (bs.getD i 0)) → F q) → kIx b_a bs.length j F := fun i j F hj hi h => by
      refine ixE (hs.below H2.below) i hj hi fun q x hx hq => ?_
      obtain rfl : bs.getD i 0 = x := by rw [List.getD, hx]; rfl
      exact h q hq
    refine rd (usedS L) rfl (by omega) fun q hq => ⟨_, hq, ?_⟩
    refine kFdiv ?_
    refine kW_i64 (by omega) ?_ -- (x1 / 2 ^ 4)
    refine rd (usedS L) rfl (by omega) fun q hq => ⟨_, hq, ?_⟩
    refine kLet_to (y := bs.getD (usedS L) 0 % 16) (by rw [bAnd_u8 (m := 15) 4 (by omega) (by decide) (by decide)]; omega) ?_
    refine kW_i64 (by omega) ?_ -- x5
    refine kW_i64 (by omega) ?_ -- x5 * 2 ^ 8
    refine kW_i64 (by omega) ?_ -- at1 + (1 : Int)
    refine rd (usedS L + 1) (by omega) (by omega) fun q hq => ⟨_, hq, ?_⟩
    refine kW_i64 (by omega) ?_ -- x9
    refine kLet_to (y := (n : Int)) (by rw [bOr_i64 8 (bs.getD (usedS L) 0 % 16) (by omega) (by omega) (by omega) (by omega)]; omega) ?_
    refine kW_i64 (by omega) ?_ -- at1 + (2 : Int)
    rw [show bs.getD (usedS L) 0 / 2 ^ 4 = bs.getD (usedS L) 0 / 16 by omega]
    refine ⟨fun  w3 => w3 = w2 ∧ bs.getD (usedS L) 0 / 16 ≠ 15 ∧ n ≤ bs.length - usedS L - 2, ?_, ?_⟩ --!
    · rintro _  w3 ⟨rfl, h15, hnl⟩
      refine H2.alloc ?_; intro b3 w4 H4
      refine kW_i64 (by omega) ?_ -- (at1 + (2 : Int)) + x11
      refine ⟨⟨by omega, by omega⟩, ?_⟩ -- hi
      refine ⟨⟨by omega, by omega⟩, ?_⟩ -- lo
      have H4 := H4.litI (i := 1) (k := .u8) [] rfl (by decide)
      have e0 : ((usedS L : Int) + 2).toNat = usedS L + 2 := by omega
      have e1 : (((usedS L : Int) + 2 + (n : Int)).toNat - ((usedS L : Int) + 2).toNat) = ((bs.drop (usedS L + 2)).take n).length := by simp; omega
      simp only [e1]
      simp only [e0]
      have hcut : SlR (IntC .u8) 1 w4 (slAddr b_c (usedS L + 2) 1 b_a) ((bs.drop (usedS L + 2)).take n) := (hs.below H4.below).cut hcap n
      have hdl2 : ((bs.drop (usedS L + 2)).take n).length = n := by simp; omega
      have hsp := head_split (r := bs.drop (usedS L)) (n := n) (by omega) (by rw [g0]; exact b0) (by rw [g1]; exact b1) (by rw [g0, g1]; exact hn) (by omega)
      rw [g0, List.drop_drop, List.drop_drop] at hsp
      have hpr : parseS (bs.drop (usedS L)) = (parseS (bs.drop (usedS L + (2 + n)))).map (⟨bs.getD (usedS L) 0 / 16, (bs.drop (usedS L + 2)).take n⟩ :: ·) := by
        rw [parseS, if_neg (by omega), g0, g1, ← hn, if_neg (by omega), List.drop_drop, List.drop_drop]
      obtain ⟨d, hd⟩ : ∃ d, d = (bs.drop (usedS L + 2)).take n := ⟨_, rfl⟩
      rw [← hd] at hcut hdl2 hsp hpr
      simp only [← hd]
      clear hd
      have hU : usedS (L ++ [⟨bs.getD (usedS L) 0 / 16, d⟩]) = usedS L + (2 + n) := by rw [usedS_append]; simp only [usedS]; omega
      refine H4.appI (i := 1) (ys := []) (zs := d) rfl sl_Ty_S_uint8 hcut (by simp; omega) (by simp; omega) ?_; intro x_a x_c w5 H5 --! append (.slice (some ⟨b3, 0, none⟩) 0 0) (.slice (slAddr b_c ((at1 + (2 : Int)).toNat) 1 b_a) _)
      simp only [List.nil_append] at H5 ⊢
      have hdc := H5.capI (i := 1) rfl
      have H5 := H5.shareI (i := 1) rfl
      refine H5.alloc ?_; clear H5; intro b4 w6 H6
      have hxl := H6.get.2.1
      have hLl := len_used L
      refine H6.appEB encX_ok (i := 0) (j := 2) rfl [(bs.getD (usedS L) 0 / 16, x_a, d.length, x_c)] rfl sl_Ty_S_api_Section rfl (by simp; omega) (by simp; omega) ?_; intro x_a1 x_c1 w7 H7 --! append (.slice l_a l_l l_c) (.slice (some ⟨b4, 0, none⟩) 1 1)
      refine kW_i64 (by omega) ?_ -- (at1 + (2 : Int)) + x11
      refine ⟨⟨L ++ [⟨bs.getD (usedS L) 0 / 16, d⟩], _, by rw [hU]; omega, rfl, by rw [hU]; omega, ?_, ?_, ?_⟩, by show Int.toNat _ < Int.toNat _; omega⟩ --! I x_a1 x_l1 x_c1 ((at1 + (2 : Int)) + x11)
      · rw [hU, bodyS_append, List.append_assoc, hsp]; exact hbd
      · rw [hU, hp, hpr]
        cases parseS (bs.drop (usedS L + (2 + n))) <;> simp
      · refine (H7.sub (fun i => i) ?_ (fun _ _ _ _ h => h)).imp fun w h => DatR.snoc (s := ⟨bs.getD (usedS L) 0 / 16, d⟩) (a := x_a) (c := x_c) h.2 h.1 hdc
        rintro (_ | _) r h <;> first | exact h | cases h
    · refine bsplit_dec (fun c1 => stop H2 (.inl (.inr c1))) (fun c1 => ?_) --  (decide (((x1 / 2 ^ 4)) = (15 : Int)))
      refine kW_i64 (by omega) ?_ -- (b_l : Int) - (at1 + (2 : Int))
      refine bsplit_dec (fun c => stop H2 (.inr ⟨by omega, c1, by omega⟩)) (fun c => ?_) --  (decide (x11 > ((b_l : Int) - (at1 + (2 : Int)))))
      exact ⟨rfl, c1, by omega⟩ --! J1 
end
end Go.Proofs.Ytjmjdjpbgjjhmaa
