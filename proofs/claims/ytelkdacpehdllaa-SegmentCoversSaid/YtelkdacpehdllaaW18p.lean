import Derived.Test.YtelkdacpehdllaaW18o
namespace Go.Proofs.Ytelkdacpehdllaa
open Go.Sx Go.RowKit

section
variable {l_a : Option Addr} {l : List Rg} {l_c : Nat} {w : World} {r : Rg}
theorem segment_Union_ct (hs : SlR (CE encR) 3 w l_a l) (hl : l.length ≤ 900000) :
    Calls Try.prog N_segment_Union #[(.slice l_a l.length l_c), (.agg #[.int .i64 r.sn, .int .i64 r.f, .int .i64 r.t])] w (RetG w (unionR l r).1 (unionR l r).2) := by
  apply F_segment_Union_ok
  unfold F_segment_Union
  have H := St.nil w
  refine H.alloc ?_; clear H; intro b w1 H1
  refine ⟨fun  w5 => St (fun _ => False) [] w w5 [.blk b Ty_api_Range (encR r)] (fun _ => True) ∧ normB (-1) l = true ∧ normB (-1) [r] = true, ?_, ?_⟩ --!
  · rintro _  w5 ⟨H5, hn, hr⟩
    have e0 : unionR l r = (unionS r.sn l r.f r.t, 0) := if_neg (by simp [hn, hr])
    rw [e0]
    have hrt : r.f < r.t := by simp [normB] at hr; exact hr.2
    have H5 := (H5.nilE encR Ty_api_Range 3).nilE encR Ty_api_Range 3
    refine ⟨fun ba bl bc ha hl_ hc x => ((l.length - x).toNat, fun w6 => ∃ (k : Nat) (before behind : List Rg) (f t : Int), k ≤ l.length ∧ x = k ∧ bl = before.length ∧ hl_ = behind.length ∧ UnionI r.sn l r.f r.t k before behind f t ∧
      St (fun _ => False) [] w w6 [.blk b Ty_api_Range (encR ⟨r.sn, f, t⟩), .els encR Ty_api_Range 3 ba bc before, .els encR Ty_api_Range 3 ha hc behind] (fun _ => True)), ⟨0, [], [], r.f, r.t, by omega, rfl, rfl, rfl, .zero hrt hn, H5⟩, ?_⟩ --! I
    clear H5
    rintro _ ba bl bc ha hl_ hc x w6 ⟨k, before, behind, f, t, hk, rfl, rfl, rfl, hI, H6⟩
    have hlen := hI.2.1
    refine bsplit_dec (fun c4 => ?_) (fun c4 => ?_) --  (decide (x < (l_l : Int)))
    · have hlt : k < l.length := by omega
      obtain ⟨s1, s2, s3⟩ := hI.step hlt
      refine ixE (hs.belowE H6.below) k rfl hlt fun b2 s hsk hb => ?_
      obtain rfl : l[k] = s := by rw [List.getElem?_eq_getElem hlt] at hsk; injection hsk
      refine ⟨_, _, _, hb, ?_⟩
      refine H6.alloc ?_; clear H6; intro b3 w7 H7
      refine H7.store (i := 3) rfl (by rfl) (by rfl) ?_; clear H7; intro w8 H8
      refine H8.ld (i := 0) rfl rfl ?_
      refine H8.set (i := 3) rfl (by simp) ?_; clear H8; intro w9 H9
      refine H9.ld (i := 3) rfl rfl ?_
      refine H9.ld (i := 0) rfl rfl ?_
      refine kLet_in ?_
      refine bsplit_dec (fun c3 => ?_) (fun c3 => ?_) --  (decide (x_21 < r_1))
      · refine ⟨_, _, _, H9.cells (i := 3) rfl, ?_⟩
        refine H9.alloc ?_; clear H9; intro b4 w10 H10
        refine H10.appEB encR_ok (i := 1) (j := 4) rfl [sn_ r.sn l[k]] rfl sl_Ty_S_api_Range rfl (by simp; omega) (by simp; omega) ?_; intro x_a x_c w11 H11
        refine kW_i64 (by omega) ?_ -- x + (1 : Int)
        refine ⟨⟨k + 1, _, behind, f, t, by omega, by omega, rfl, rfl, s1 c3, H11.sub (fun i => i) ?_ (fun _ _ _ _ h => h)⟩, by show Int.toNat _ < Int.toNat _; omega⟩
        rintro (_ | _ | _ | _) r h <;> first | exact h | cases h
      · refine H9.ld (i := 3) rfl rfl ?_
        refine H9.ld (i := 0) rfl rfl ?_
        refine kLet_in ?_
        refine bsplit_dec (fun c2 => ?_) (fun c2 => ?_) --  (decide (x_11 > r_2))
        · refine ⟨_, _, _, H9.cells (i := 3) rfl, ?_⟩
          refine H9.alloc ?_; clear H9; intro b5 w12 H12
          refine H12.appEB encR_ok (i := 2) (j := 4) rfl [sn_ r.sn l[k]] rfl sl_Ty_S_api_Range rfl (by simp; omega) (by simp; omega) ?_; intro x_a x_c w11 H11
          refine kW_i64 (by omega) ?_ -- x + (1 : Int)
          refine ⟨⟨k + 1, before, _, f, t, by omega, by omega, rfl, rfl, s2 c3 c2, H11.sub (fun i => i) ?_ (fun _ _ _ _ h => h)⟩, by show Int.toNat _ < Int.toNat _; omega⟩
          rintro (_ | _ | _ | _) r h <;> first | exact h | cases h
        · refine H9.drew ?_; clear H9; intro w14 H14
          refine ⟨fun x => x < w14.heap.size ∧ x ∉ [b], ?_⟩
          have f14 := Fr.refl [b] w14
          refine H14.ld (i := 0) rfl rfl ?_
          refine H14.ld (i := 3) rfl rfl ?_
          refine H14.ld (i := 0) rfl rfl ?_
          refine ⟨⟨H14.lt (i := 3) rfl rfl, nin1 (H14.ne (i := 3) (j := 0) rfl rfl (by decide) rfl rfl)⟩, ?_⟩
          refine H14.ld (i := 3) rfl rfl ?_
          refine H14.setF (i := 0) rfl (by simp [encR]) ?_; intro w15 g15 H15
          have f15 := f14.tr g15 (by simp)
          refine ⟨f15.keeps, ?_⟩
          refine H15.set (i := 0) rfl (by simp [encR]) ?_; intro w16 H16
          refine kW_i64 (by omega) ?_ -- x + (1 : Int)
          refine ⟨⟨k + 1, before, behind, _, _, by omega, by omega, rfl, rfl, s3 c3 c2, H16.sub (fun i => i) ?_ (fun _ _ _ _ h => h)⟩, by show Int.toNat _ < Int.toNat _; omega⟩
          rintro (_ | _ | _ | _) r h <;> first | exact h | cases h
    · obtain rfl : k = l.length := by omega
      rw [hI.done]
      refine ⟨_, _, _, H6.cells (i := 0) rfl, ?_⟩
      refine H6.alloc ?_; clear H6; intro b6 w17 H17
      have H17 := H17.shareE encR_ok (i := 1) rfl
      have H17 := H17.shareE encR_ok (i := 2) rfl
      have H17 := H17.litE encR_ok (i := 3) [⟨r.sn, f, t⟩] rfl (by simp [maxLen])
      have H17 := H17.shareE encR_ok (i := 3) rfl
      refine H17.alloc ?_; clear H17; intro b7 w18 H18
      have h18 := H18.get
      have hp : SlR PartG 1 w18 (some ⟨b7, 0, none⟩) [before, [⟨r.sn, f, t⟩], behind] := by
        refine .inr ⟨_, rfl, fun i hi => ?_⟩
        rcases i with _ | _ | _ | i
        · exact ⟨_, _, H18.cell (i := 4) rfl rfl, h18.2.2.1⟩
        · exact ⟨_, _, H18.cell (i := 4) rfl rfl, h18.1⟩
        · exact ⟨_, _, H18.cell (i := 4) rfl rfl, h18.2.1⟩
        · simp at hi; omega
      refine (concat_ranges (ps := [before, [⟨r.sn, f, t⟩], behind]) hp (by simp; omega) (by simp)).mono ?_ -- (.slice (some ⟨b7, 0, none⟩) 3 3)
      rintro _ w19 ⟨ra, rc, rfl, K⟩; have H19 := H18.callR K; clear H18
      refine ⟨_, _, _, rfl, ?_⟩
      have ef : [before, [⟨r.sn, f, t⟩], behind].flatten = before ++ ⟨r.sn, f, t⟩ :: behind := by simp
      rw [ef] at H19 ⊢
      exact .of H19 (i := 5) rfl 0 --! (.tuple #[(.slice r_a r_l r_c), (.int .i64 (0 : Int))])
  · refine (segment_Normal_ct (hs.belowE H1.below) (by omega)).mono ?_ -- (.slice l_a l_l l_c)
    rintro _ w2 ⟨rfl, hb2⟩; have H2 := H1.pass hb2; clear H1
    refine ⟨_, rfl, ?_⟩
    refine bsplit_n (fun c1 => ?_) (fun c1 => ?_) --  (!r)
    · have e : unionR l r = ([], 4) := if_pos (.inl c1)
      rw [e]; exact .nil H2.fin.below _ --! (.tuple #[(.slice none 0 0), (.int .i64 (4 : Int))])
    · refine ⟨_, _, _, H2.cells (i := 0) rfl, ?_⟩
      refine H2.alloc ?_; clear H2; intro b1 w3 H3
      refine (segment_Normal_ct (l := [r]) (H3.slBlk encR_ok (i := 1) _ rfl) (by simp)).mono ?_ -- (.slice (some ⟨b1, 0, none⟩) 1 1)
      rintro _ w4 ⟨rfl, hb4⟩; have H4 := H3.pass hb4; clear H3
      refine ⟨_, rfl, ?_⟩
      refine bsplit_n (fun c => ?_) (fun c => ?_) --  (!r1)
      · have e : unionR l r = ([], 4) := if_pos (.inr c)
        rw [e]; exact .nil H4.fin.below _ --! (.tuple #[(.slice none 0 0), (.int .i64 (4 : Int))])
      · refine ⟨H4.sub (fun i => i) ?_ (fun _ _ _ _ h => h), c1, c⟩ --! J 
        rintro (_ | _) r h <;> first | exact h | cases h
end
end Go.Proofs.Ytelkdacpehdllaa
