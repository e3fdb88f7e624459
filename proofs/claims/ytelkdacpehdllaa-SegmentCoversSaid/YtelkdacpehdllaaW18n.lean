import Derived.Test.YtelkdacpehdllaaW18m
namespace Go.Proofs.Ytelkdacpehdllaa
open Go.Sx Go.RowKit

section
variable {l_a : Option Addr} {l : List Rg} {l_c : Nat} {w : World} {sn len : Int}
theorem segment_Gaps_ct (hs : SlR (CE encR) 3 w l_a l) (hl : l.length ≤ 1000000) :
    Calls Try.prog N_segment_Gaps #[(.slice l_a l.length l_c), (.int .i64 sn), (.int .i64 len)] w (RetG w (gapR l sn len).1 (gapR l sn len).2) := by
  apply F_segment_Gaps_ok
  unfold F_segment_Gaps
  have H := St.nil w
  refine (segment_Normal_ct hs (by omega)).mono ?_ -- (.slice l_a l_l l_c)
  rintro _ w1 ⟨rfl, hb1⟩; have H1 := H.pass hb1; clear H
  refine ⟨_, rfl, ?_⟩
  refine bsplit_n (fun c6 => ?_) (fun c6 => ?_) --  (!r)
  · have e : gapR l sn len = ([], 4) := if_pos c6
    rw [e]; exact .nil H1.below _ --! (.tuple #[(.slice none 0 0), (.int .i64 (4 : Int))])
  have e0 : gapR l sn len = if len < 0 ∨ (0 < l.length ∧ len < prevT l l.length) then ([], 3) else (gapsS sn l 0 len, 0) := if_neg (by simp [c6])
  rw [e0]
  refine ⟨fun w2 => w2 = w1 ∧ ¬ (len < 0 ∨ (0 < l.length ∧ len < prevT l l.length)), ?_, ?_⟩ --!
  · rintro _ w2 ⟨rfl, hno⟩
    rw [if_neg hno, ← gapsA_end]
    refine (clone_ranges (hs.belowE H1.below) hl).mono ?_ -- (.slice l_a l_l l_c)
    rintro _ w3 ⟨ca, cc, rfl, K⟩; have H3 := H1.callR K; clear H1
    refine ⟨_, _, _, rfl, ?_⟩
    refine H3.alloc ?_; clear H3; intro b1 w4 H4
    refine H4.appEB encR_ok (i := 0) (j := 1) rfl [⟨0, len, len⟩] rfl sl_Ty_S_api_Range rfl (by simp; omega) (by simp; omega) ?_; intro x_a x_c w5 H5
    have H5 := (H5.shareE encR_ok (i := 0) rfl).fin
    obtain ⟨m, hm⟩ : ∃ m, m = l ++ [⟨0, len, len⟩] := ⟨_, rfl⟩
    have hml : m.length = l.length + 1 := by rw [hm]; simp
    rw [← hm] at H5 ⊢
    have H5 := H5.nilE encR Ty_api_Range 3
    refine ⟨fun out_a out_l out_c at1 i => ((m.length - i).toNat, fun w3 => ∃ (k : Nat) (out : List Rg), k ≤ m.length ∧ i = k ∧ out_l = out.length ∧ out.length ≤ k ∧ gapsA sn m 0 = out ++ gapsA sn (m.drop k) at1 ∧ St (fun _ => False) [] w w3 [.els encR Ty_api_Range 3 out_a out_c out] (fun w => SlR (CE encR) 3 w x_a m)), ⟨0, [], by omega, rfl, rfl, by simp, rfl, H5.imp fun _ h => h.1⟩, ?_⟩ --! I none 0 0 (0 : Int) (0 : Int)
    clear H5
    rintro _ out_a out_l out_c at1 i w6 ⟨k, out, hk, rfl, rfl, hol, hI, H6⟩
    refine bsplit_dec (fun c4 => ?_) (fun c4 => ?_) --  (decide (x2 < (x_l : Int)))
    · have hlt : k < m.length := by omega
      rw [gapsA_drop _ _ _ _ hlt] at hI
      refine ixE H6.get k rfl hlt fun b s hsk hb => ?_
      obtain rfl : m[k] = s := by rw [List.getElem?_eq_getElem hlt] at hsk; injection hsk
      refine ⟨_, _, _, hb, ?_⟩
      refine H6.alloc ?_; clear H6; intro b3 w7 H7
      refine H7.store (i := 1) rfl (by rfl) (by rfl) ?_; clear H7; intro w8 H8
      refine H8.ld (i := 1) rfl rfl ?_
      refine bsplit_dec (fun c3 => ?_) (fun c3 => ?_) --  (decide (x_1 > at1))
      · rw [if_pos c3] at hI
        refine H8.ld (i := 1) rfl rfl ?_
        refine H8.alloc ?_; clear H8; intro b4 w9 H9
        refine H9.appEB encR_ok (i := 0) (j := 2) rfl [⟨sn, at1, m[k].f⟩] rfl sl_Ty_S_api_Range rfl (by simp; omega) (by simp; omega) ?_; intro x_a1 x_c1 w10 H10
        refine H10.ld (i := 1) rfl rfl ?_
        refine kW_i64 (by omega) ?_ -- x2 + (1 : Int)
        refine ⟨⟨k + 1, _, by omega, by omega, rfl, by simp; omega, by rw [hI]; simp, H10.sub (fun i => i) ?_ (fun _ _ _ _ h => h)⟩, by show Int.toNat _ < Int.toNat _; omega⟩ --! I x_a1 x_l1 x_c1 x_2 (x2 + (1 : Int))
        rintro (_ | _) r h <;> first | exact h | cases h
      · rw [if_neg c3] at hI
        refine H8.ld (i := 1) rfl rfl ?_
        refine kW_i64 (by omega) ?_ -- x2 + (1 : Int)
        refine ⟨⟨k + 1, out, by omega, by omega, rfl, by omega, hI, H8.sub (fun i => i) ?_ (fun _ _ _ _ h => h)⟩, by show Int.toNat _ < Int.toNat _; omega⟩ --! I out_a out_l out_c x_2 (x2 + (1 : Int))
        rintro (_ | _) r h <;> first | exact h | cases h
    · obtain rfl : k = m.length := by omega
      rw [List.drop_length] at hI
      rw [show gapsA sn m 0 = out by rw [hI]; simp [gapsA]]
      exact .of H6 (i := 0) rfl 0 --! (.tuple #[(.slice out_a out_l out_c), (.int .i64 (0 : Int))])
  · refine bsplit_dec (fun c2 => ?_) (fun c2 => ?_) --  (decide (length < (0 : Int)))
    · rw [if_pos (.inl c2)]; exact .nil H1.below _ --! (.tuple #[(.slice none 0 0), (.int .i64 (3 : Int))])
    · refine bsplit_dec (fun c1 => ?_) (fun c1 => ⟨rfl, by omega⟩) --  (decide ((l_l : Int) > (0 : Int)))
      have hlt : l.length - 1 < l.length := by omega
      refine kW_i64 (by omega) ?_ -- (l_l : Int) - (1 : Int)
      refine ixE (hs.belowE H1.below) (l.length - 1) (by omega) hlt fun b s hsk hb => ?_
      refine ld_at hb 2 rfl ?_
      have hp : prevT l l.length = s.t := by
        have := prevT_succ hlt
        rw [show l.length - 1 + 1 = l.length by omega] at this
        rw [this]
        rw [List.getElem?_eq_getElem hlt] at hsk; injection hsk with hsk; rw [hsk]
      refine bsplit_dec (fun c => ?_) (fun c => ?_) --  (decide (length < x1))
      · rw [if_pos (.inr ⟨by omega, by rw [hp]; exact c⟩)]; exact .nil H1.below _ --! (.tuple #[(.slice none 0 0), (.int .i64 (3 : Int))])
      · exact ⟨rfl, by rw [hp]; omega⟩ --! J 
end
end Go.Proofs.Ytelkdacpehdllaa
