import Derived.Test.YtjmjdjpbgjjhmaaW24f
namespace Go.Proofs.Ytjmjdjpbgjjhmaa
open Go.Sx Go.RowKit

theorem DatR.append {w : World} {xs ys : List XSec} {L M : List Sec} (h : DatR w xs L) (k : DatR w ys M) : DatR w (xs ++ ys) (L ++ M) := by
  refine ⟨by simp [h.1, k.1], fun i hi hi' => ?_⟩
  have e := h.1
  by_cases hlt : i < xs.length
  · rw [List.getElem_append_left hlt, List.getElem_append_left (by omega)]
    exact h.2 i hlt _
  · have hge : xs.length ≤ i := by omega
    have hi2 : i - xs.length < ys.length := by simp at hi; omega
    have hi3 : i - xs.length < M.length := by rw [← k.1]; exact hi2
    have := k.2 (i - xs.length) hi2 hi3
    have e1 : (xs ++ ys)[i] = ys[i - xs.length] := List.getElem_append_right hge
    have e2 : (L ++ M)[i] = M[i - xs.length] := by
      rw [List.getElem_append_right (by omega)]; simp only [e]
    rw [e1, e2]; exact this
theorem MadeS.small {L : List Sec} (h : MadeS L) : Small L := ⟨by have := h.len; omega, by have := h.used; omega⟩
theorem MadeS.first {L : List Sec} (h : MadeS L) : firstE L = 0 := firstE_zero fun s hs => (h.ok s hs).1
theorem MadeS.dataL {L : List Sec} (h : MadeS L) : ∀ s ∈ L, s.data.length ≤ 140737488355328 := fun s hs => by have := (h.ok s hs).2.2; omega
theorem MadeS.bytes {L : List Sec} (h : MadeS L) : ∀ s ∈ L, Bytes s.data := fun s hs => (h.ok s hs).2.1
theorem used_ne1 (l : List Sec) : usedS l ≠ 1 := by
  cases l with
  | nil => simp [usedS]
  | cons s l => simp only [usedS]; omega

section
variable {l_a m_a : Option Addr} {l_c m_c : Nat} {ts us : List Int} {more : Int} {w : World}
theorem law24_BlockJoins_ct (hl : SlR (IntC .i64) 1 w l_a ts) (hm : SlR (IntC .i64) 1 w m_a us) :
    Calls Try.prog N_law24_BlockJoins #[(.slice l_a ts.length l_c), (.slice m_a us.length m_c)] w fun e w' => e = .returned (.bool true) ∧ Below w.heap.size w w' := by
  apply F_law24_BlockJoins_ok
  unfold F_law24_BlockJoins
  have H := St.nil w
  have awake : ∀ {w' : World} {R : List Res} {P : World → Prop}, St (fun _ => False) [] w w' R P → Calls Try.prog N_law24_awake #[] w' fun e w'' => ∃ r : Bool, e = .returned (.bool r) ∧ (Ending.returned (.bool r) = .returned (.bool true) ∧ Below w.heap.size w w'') := fun H' => by
    refine law24_awake_ct.mono ?_
    rintro _ w2 ⟨rfl, hb2⟩
    exact ⟨_, rfl, rfl, (H'.pass hb2).below⟩
  refine ⟨fun  w5 => FreshR w w5 [] ∧ ts.length ≤ 300 ∧ us.length ≤ 300, ?_, ?_⟩ --!
  · rintro _  w5 ⟨H5, hts, hus⟩
    refine throwS H5 (hl.below H5.below) (by omega) fun ra rc L xs w7 hL hLc H7 => ?_
    clear H5
    refine throwS H7 (hm.below H7.below) (by omega) fun ra1 rc1 K ys w9 hK hKc H9 => ?_
    clear H7
    have hL1 := hL.len; have hK1 := hK.len; have hL2 := hL.used; have hK2 := hK.used
    refine H9.alloc ?_; clear H9; intro b w10 H10
    have H10 := H10.litE encX_ok (i := 0) [] rfl (by decide)
    have h10 := H10.get
    have e1 := h10.2.1.2.1
    have e2 := h10.1.2.1
    rw [← e1]
    refine H10.appE encX_ok (i := 0) rfl sl_Ty_S_api_Section h10.2.1.1 (by simp; omega) (by simp; omega) ?_; intro x_a x_c w11 H11 --! append (.slice (some ⟨b, 0, none⟩) 0 0) (.slice r_a r_l r_c)
    simp only [List.nil_append] at H11 ⊢
    rw [← e2]
    refine H11.appE encX_ok (i := 0) rfl sl_Ty_S_api_Section H11.get.1.1 (by omega) (by omega) ?_; intro x_a1 x_c1 w12 H12 --! append (.slice x_a x_l x_c) (.slice r_a1 r_l1 r_c1)
    clear H10 H11
    have elm : (xs ++ ys).length = (L ++ K).length := by simp [e1, e2]
    rw [e1, e2, elm]
    have H12 := (H12.shareE encX_ok (i := 0) rfl).fin
    have hLK : Small (L ++ K) := ⟨by simp; omega, by rw [usedS_append]; omega⟩
    have secs : ∀ {w'}, ((SlR (CE encX) 2 w' x_a1 (xs ++ ys)) ∧ (SlR (CE encX) 2 w' ra1 ys ∧ DatR w' ys K) ∧ (SlR (CE encX) 2 w' ra xs ∧ DatR w' xs L) ∧ True) → SecR w' ra L ∧ SecR w' ra1 K ∧ SecR w' x_a1 (L ++ K) := fun h =>
      ⟨secR_of h.2.2.1.1 h.2.2.1.2, secR_of h.2.1.1 h.2.1.2, secR_of h.1 (h.2.2.1.2.append h.2.1.2)⟩
    have H12 := H12.imp fun _ h => secs h
    refine (block_Used_ct H12.get.1 hL.small).mono ?_ -- (.slice r_a r_l r_c)
    rintro _ w13 ⟨rfl, hb13⟩; have H13 := H12.pass hb13; clear H12
    refine ⟨_, rfl, ?_⟩
    refine (block_Used_ct H13.get.2.1 hK.small).mono ?_ -- (.slice r_a1 r_l1 r_c1)
    rintro _ w14 ⟨rfl, hb14⟩; have H14 := H13.pass hb14; clear H13
    refine ⟨_, rfl, ?_⟩
    refine (block_Used_ct H14.get.2.2 hLK).mono ?_ -- (.slice x_a1 x_l1 x_c1)
    rintro _ w15 ⟨rfl, hb15⟩; have H15 := H14.pass hb15; clear H14
    refine ⟨_, rfl, ?_⟩
    have hU := usedS_append L K
    have hne := used_ne1 (L ++ K)
    have hf := firstE_append hL.first hK.first
    have hlen : (L ++ K).length ≤ 32 := by simp; omega
    refine kW_i64 (by omega) ?_ -- r6 + r7
    refine bsplit_nd (fun c7 => absurd (by omega) c7) (fun c7 => ?_) --  (!decide (r8 = (r6 + r7)))
    refine kW_i64 (by omega) ?_ -- r6 + r7
    refine bsplit_dec (fun c6 => awake H15) (fun c6 => ?_) --  (decide ((r6 + r7) < (1 : Int)))
    refine kW_i64 (by omega) ?_ -- r6 + r7
    refine bsplit_dec (fun c5 => awake H15) (fun c5 => ?_) --  (decide ((r6 + r7) > (256 : Int)))
    refine kW_i64 (by omega) ?_ -- r6 + r7
    refine (block_Check_ct H15.get.2.2 hLK).mono ?_ -- (.slice x_a1 x_l1 x_c1), (.int .i64 (r6 + r7))
    rintro _ w18 ⟨rfl, hb18⟩; have H18 := H15.pass hb18; clear H15
    refine ⟨_, rfl, ?_⟩
    refine bsplit_dec (fun c4 => ?_) (fun c4 => absurd (chk_fit hlen hf (by omega) (by omega)) c4) --  (decide (r11 = (0 : Int)))
    refine kW_i64 (by omega) ?_ -- r6 + r7
    refine bsplit_dec (fun c3 => awake H18) (fun c3 => ?_) --  (decide ((r6 + r7) = (1 : Int)))
    refine kW_i64 (by omega) ?_ -- r6 + r7
    refine kW_i64 (by omega) ?_ -- (r6 + r7) - (1 : Int)
    refine (block_Check_ct H18.get.2.2 hLK).mono ?_ -- (.slice x_a1 x_l1 x_c1), (.int .i64 ((r6 + r7) - (1 : Int)))
    rintro _ w20 ⟨rfl, hb20⟩; have H20 := H18.pass hb20; clear H18
    refine ⟨_, rfl, ?_⟩
    refine bsplit_dec (fun c2 => awake H20) (fun c2 => absurd (chk_full hlen hf (by omega) (by omega)) c2) --  (decide (r13 = (15 : Int)))
  · refine roll_Light_ct.mono ?_ -- (.slice l_a l_l l_c)
    rintro _ w1 ⟨rfl, hb1⟩; have H1 := H.pass hb1; clear H
    refine ⟨_, rfl, ?_⟩
    refine bsplit_nd (fun c1 => awake H1) (fun c1 => ?_) --  (!r)
    refine roll_Light_ct.mono ?_ -- (.slice m_a m_l m_c)
    rintro _ w3 ⟨rfl, hb3⟩; have H3 := H1.pass hb3; clear H1
    refine ⟨_, rfl, ?_⟩
    refine bsplit_nd (fun c => awake H3) (fun c => ?_) --  (!r2)
    exact ⟨H3, by omega, by omega⟩ --! J 
end
end Go.Proofs.Ytjmjdjpbgjjhmaa
