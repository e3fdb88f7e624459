import Derived.Test.YthceaojjeokclaaGreatM21a
import Derived.Test.YthceaojjeokclaaGreatM18
import Derived.Test.YthceaojjeokclaaGreatAz
import Derived.Test.YthceaojjeokclaaGreatAz0
import Derived.Test.YthceaojjeokclaaGreatHp
namespace Go.Proofs.YthceaojjeokclaaGreat
open Go.Sx Go.RowKit
set_option maxRecDepth 100000
def RetL (w : World) (l : List Rg) : Ending → World → Prop := fun e w' => ∃ a c, l.length ≤ c ∧ e = .returned (.slice a l.length c) ∧ Fresh w w' fun w => SlR (CE encR) 3 w a l
section
variable {s : Rc} {a : Option Addr} {c : Nat} {s_b s_o : Nat} {n : Int} {w : World}
theorem receiver_side_missing_1_ct {x : Pa} {a a2 : Option Addr} {c c2 q : Nat} (hq : w.cell? ⟨q, 0, none⟩ = some (.int .i64 n)) :
    Calls Tryz.prog N_receiver_side_missing_1 #[aggPa x a c a2 c2, (.pointer (some ⟨q, 0, none⟩))] w fun e w' => e = .returned (.bool (decide (x.sn = n))) ∧ Below w.heap.size w w' := by
  apply F_receiver_side_missing_1_ok
  unfold F_receiver_side_missing_1
  have H := St.nil w
  refine H.alloc ?_; clear H; intro b w1 H1
  refine H1.ld (i := 0) rfl rfl ?_
  refine ⟨_, H1.below.get hq, ?_⟩
  refine kLet_in ?_
  exact ⟨rfl, H1.below⟩
theorem receiver_side_missing_ct (hc : cellsAt w ⟨s_b, s_o, none⟩ 0 (encRc s a c)) (hu : PaR w a s.parts) (hf : FitP s.parts) (hall : ∀ x ∈ s.parts, paB x = true) :
    Calls Tryz.prog N_receiver_side_missing #[(.pointer (some ⟨s_b, s_o, none⟩)), (.int .i64 n)] w (RetL w (missP s n)) := by
  apply F_receiver_side_missing_ok
  unfold F_receiver_side_missing
  have H := St.nil w
  obtain ⟨hf1, hf2⟩ := hf
  have hidx := idx_or (fun p : Pa => decide (p.sn = n)) s.parts
  refine H.alloc ?_; clear H; intro b w1 H1
  refine ⟨_, _, _, lq (j := 13) (cells_below hc H1.below) rfl, ?_⟩
  refine (indexFuncP_ct (ff := #[]) (fc := #[(.pointer (some ⟨b, 0, none⟩))]) (g := N_receiver_side_missing_1) (paR_below hu H1.below) (by omega) (fun x => decide (x.sn = n)) (by kernel_rfl) fun w' x a1 c1 a2 c2 hx hw' => ?_).mono ?_
  · exact receiver_side_missing_1_ct (hw'.get (H1.cell (i := 0) (o := 0) rfl rfl))
  rintro _ w2 ⟨rfl, hb2⟩; have H2 := H1.pass hb2; clear H1
  refine ⟨_, rfl, ?_⟩
  refine bsplit_dec (fun c2 => ?_) (fun c2 => ?_)
  · have e : missP s n = [⟨n, 0, 0⟩] := by unfold missP; rw [if_pos c2]; rfl
    rw [e]
    refine H2.ld (i := 0) rfl rfl ?_
    refine H2.alloc ?_; clear H2; intro b1 w3 H3
    have H3 := H3.litE encR_ok (i := 1) [Rg.mk n 0 0] rfl (show 1 ≤ maxLen by decide)
    exact ⟨some ⟨b1, 0, none⟩, 1, Nat.le_refl _, rfl, ((H3.shareE encR_ok (i := 1) rfl).fin).imp fun _ h => h.1⟩
  · obtain ⟨k, hk, hi, hpk⟩ := hidx.resolve_left fun h => c2 (by omega)
    have hm := List.getElem_mem hk
    obtain ⟨x, hx⟩ : ∃ x, x = s.parts[k] := ⟨_, rfl⟩
    rw [← hx] at hm hpk
    have hxn : x.sn = n := of_decide_eq_true hpk
    obtain ⟨hxc, hxd⟩ := hf2 x hm
    have hpa := hall x hm
    have e : missP s n = missO n (some x) := by unfold missP; rw [if_neg c2, hi, Int.toNat_natCast, List.getElem?_eq_getElem hk, ← hx]
    rw [e]
    refine ⟨_, _, _, lq (j := 13) (cells_below hc H2.below) rfl, ?_⟩
    refine ixPa hu k hi hk fun b2 hb2 => ?_
    rw [← hx] at hb2
    obtain ⟨a1, c1', a2, c2', hb2, hd, hr, _⟩ := hb2
    refine ⟨_, _, _, _, _, _, _, _, _, cells_below hb2 H2.below, ?_⟩
    refine H2.alloc ?_; clear H2; intro b3 w4 H4
    refine H4.store (i := 1) rfl (by rfl) (by rfl) ?_; clear H4; intro w5 H5
    refine H5.ldB (i := 1) rfl rfl ?_
    refine bsplit_intro (fun c1 => ?_) (fun c1 => ?_)
    · refine ⟨none, 0, ?_, ?_, (H5.fin.imp fun _ _ => ?_)⟩
      · rw [missO, if_pos c1]; exact Nat.le_refl _
      · rw [missO, if_pos c1]; rfl
      · rw [missO, if_pos c1]; exact .inl rfl
    · obtain ⟨ln, hln⟩ : ∃ ln, ln = if x.len = -1 then (65535 : Int) else x.len := ⟨_, rfl⟩
      have em : missO n (some x) = gapsS n x.come 0 ln := by rw [missO, if_neg (by rw [c1]; decide), hln]
      rw [em]
      have hnum : paNum x := by rw [paB, if_neg (by rw [c1]; decide), Bool.and_eq_true, decide_eq_true_iff] at hpa; exact hpa.1
      have hg : gapR x.come n ln = (gapsS n x.come 0 ln, 0) := by
        obtain ⟨h1, _, h3, _, h5, h6, _⟩ := hnum
        have h7 := norm_ge h3 (by omega)
        exact gapR_at h3 (by rw [hln]; split <;> omega) (by rw [hln]; split <;> omega)
      refine H5.ld (i := 1) rfl rfl ?_
      refine ⟨fun length w6 => St (fun _ => False) [] w w6 [.blk b Ty_int [(.int .i64 n)], .blk b3 Ty_api_Partial (encPa x a1 c1' a2 c2')] (fun _ => True) ∧ length = ln, ?_, ?_⟩
      · rintro _ length w6 ⟨H6, rfl⟩
        refine H6.ldS (i := 1) rfl rfl ?_
        refine H6.ld (i := 0) rfl rfl ?_
        have C := segment_Gaps_ct (l_c := c2') (sn := n) (len := length) (hr.belowE H6.below) (by omega)
        rw [hg] at C
        dsimp only at C
        refine C.mono ?_; clear C
        rintro _ w7 ⟨r_a, r_c, hlc, rfl, K⟩; have H7 := H6.callF K; clear H6
        refine ⟨_, _, _, _, rfl, ?_⟩
        exact ⟨r_a, r_c, hlc, rfl, H7.fin.imp fun _ h => h.1⟩
      · refine bsplit_dec (fun c3 => ?_) (fun c3 => ?_)
        · exact ⟨H5, by rw [hln, if_pos c3]⟩
        · exact ⟨H5, by rw [hln, if_neg c3]⟩
theorem receiver_Status_ct (hu : PaR w a s.parts) (hl : SmP s.parts) :
    Calls Tryz.prog N_receiver_Status #[aggRc s a c] w (RetS w (statR s).1 (statR s).2) := by
  apply F_receiver_Status_ok
  unfold F_receiver_Status
  have H := St.nil w
  refine H.alloc ?_; clear H; intro b w1 H1
  refine H1.alloc ?_; clear H1; intro b1 w2 H2
  refine ⟨_, _, _, _, _, _, _, _, _, _, _, _, _, _, _, _, H2.cells (i := 0) rfl, ?_⟩
  refine (receiver_Valid_ct (paR_below hu H2.below) hl).mono ?_
  rintro _ w3 ⟨rfl, hb3⟩; have H3 := H2.pass hb3; clear H2
  refine ⟨_, rfl, ?_⟩
  refine bsplit_n (fun c2 => ?_) (fun c2 => ?_)
  · refine H3.store (i := 1) rfl (by rfl) (by rfl) ?_; clear H3; intro w4 H4
    refine ⟨_, _, _, _, H4.cells (i := 1) rfl, ?_⟩
    rw [statR, if_pos c2]
    exact RetS.zero H4.below _
  · obtain ⟨hf, hlk, hs1, hs2, hs3, hq, hall⟩ := rc_fit c2
    have hb := hlk.1
    have hp := pow_bits hb
    have hpr := placeR_range s s.upto
    rw [statR, if_neg (by rw [c2]; decide)]
    obtain ⟨d, hd⟩ : ∃ d, d = (s.place s.upto).toNat := ⟨_, rfl⟩
    rw [← hd]
    refine ⟨_, _, _, _, _, _, _, _, _, _, _, _, _, _, _, _, H3.cells (i := 0) rfl, ?_⟩
    refine H3.alloc ?_; clear H3; intro b2 w5 H5
    refine H5.ld (i := 0) rfl rfl ?_
    refine H5.alloc ?_; clear H5; intro b3 w6 H6
    refine H6.store (i := 3) rfl (by rfl) (by rfl) ?_; clear H6; intro w7 H7
    refine H7.ld (i := 0) rfl rfl ?_
    replace H7 : St (fun _ => False) [] w w7 [.blk b Ty_api_Receiver (encRc s a c), .blk b1 Ty_api_Status [.int .i64 0, .slice none 0 0], .blk b2 Ty_receiver_side (encRc s a c), .blk b3 Ty_api_Status [.int .i64 s.upto, .slice none 0 0]] (fun _ => True) := H7
    have H7 := H7.nilE encR Ty_api_Range 3
    simp only [List.cons_append, List.nil_append] at H7
    refine ⟨fun n => ((2 ^ s.lk.bits.toNat - s.place n).toNat, fun w8 => ∃ (j : Nat) (O : List Rg) (oa : Option Addr) (oc : Nat), n = s.num j ∧ j ≤ d ∧ statS s d s.first [] = statS s (d - j) (s.num j) O ∧ O.length ≤ 64 ∧ St (fun _ => False) [] w w8 [.blk b Ty_api_Receiver (encRc s a c), .blk b1 Ty_api_Status [.int .i64 0, .slice none 0 0], .blk b2 Ty_receiver_side (encRc s a c), .blk b3 Ty_api_Status [.int .i64 s.upto, .slice oa O.length oc], .els encR Ty_api_Range 3 oa oc O] (fun _ => True)), ⟨0, [], none, 0, (num_zero hs1).symm, by omega, by rw [num_zero hs1]; rfl, by simp, H7⟩, ?_⟩
    clear H7
    rintro _ n w8 ⟨j, O, oa, oc, rfl, hj, hT, hO, H8⟩
    have hjp : s.place (s.num j) = j := num_place hb hs1 (by omega)
    refine H8.ld (i := 0) rfl rfl ?_
    refine bsplit_nd (fun c1 => ?_) (fun c1 => ?_)
    · have hjd : j < d := by
        rcases Nat.lt_or_ge j d with h | h
        · exact h
        · exact absurd (place_inj hb (num_ok hb j) hs3 (by omega)) c1
      have ej : d - j = (d - (j + 1)) + 1 := by omega
      have hml := missP_len (s := s) (n := s.num j) fun x hx => (hf.2 x hx).1
      rw [ej, statS] at hT
      refine (receiver_side_missing_ct (n := s.num j) (H8.cells (i := 2) rfl) (paR_below hu H8.below) hf fun x hx => (hall x hx).1).mono ?_
      rintro _ w9 ⟨r_a, r_c, _, rfl, K⟩; have H9 := H8.callF K; clear H8
      obtain ⟨M, hM⟩ : ∃ M, M = missP s (s.num j) := ⟨_, rfl⟩
      rw [← hM] at hT hml H9 ⊢
      refine ⟨_, _, _, rfl, ?_⟩
      refine H9.ldS (i := 3) rfl rfl ?_
      refine kW_i64 (by omega) ?_
      refine bsplit_dec (fun c0 => ?_) (fun c0 => ?_)
      · rw [if_pos (by omega)] at hT
        rw [hT]
        refine H9.set (i := 3) rfl (by simp) ?_; clear H9; intro w10 H10
        refine ⟨_, _, _, _, H10.cells (i := 3) rfl, ?_⟩
        refine H10.store (i := 1) rfl (by rfl) (by rfl) ?_; clear H10; intro w11 H11
        refine ⟨_, _, _, _, H11.cells (i := 1) rfl, ?_⟩
        have hc := H11.capE (i := 4) rfl
        exact ⟨oa, oc, hc, rfl, ((St.shareE (H11.imp fun _ h => h.2) encR_ok (i := 4) rfl).fin).imp fun _ h => h.1⟩
      · rw [if_neg (by omega)] at hT
        refine H9.ldS (i := 3) rfl rfl ?_
        refine H9.appE encR_ok (i := 4) rfl sl_Ty_S_api_Range H9.get.1 (by omega) (by omega) ?_; intro x_a2 x_c2 w12 H12
        refine H12.set (i := 3) rfl (by simp) ?_; clear H12; intro w13 H13
        have hnj := num_ok hb j
        unfold snOk at hnj
        refine (receiver_side_behind_ct (H13.cells (i := 2) rfl) hb (by omega)).mono ?_
        rintro _ w14 ⟨rfl, hb14⟩; have H14 := H13.pass hb14; clear H13
        refine ⟨_, rfl, ?_⟩
        have hsu := num_succ (s := s) hb j
        have hj1 : s.place (s.num (j + 1)) = (j + 1 : Nat) := num_place hb hs1 (by omega)
        rw [hsu] at hT ⊢
        refine ⟨⟨j + 1, O ++ M, x_a2, x_c2, rfl, by omega, hT, by rw [List.length_append]; omega, H14.imp fun _ _ => trivial⟩, ?_⟩
        dsimp only
        rw [hjp, hj1]; omega
    · have hjd : j = d := by rw [c1] at hjp; omega
      subst hjd
      rw [Nat.sub_self, statS] at hT
      rw [hT]
      refine ⟨_, _, _, _, H8.cells (i := 3) rfl, ?_⟩
      refine H8.store (i := 1) rfl (by rfl) (by rfl) ?_; clear H8; intro w15 H15
      refine ⟨_, _, _, _, H15.cells (i := 1) rfl, ?_⟩
      have hc := H15.capE (i := 4) rfl
      exact ⟨oa, oc, hc, rfl, ((H15.shareE encR_ok (i := 4) rfl).fin).imp fun _ h => h.1⟩
end
end Go.Proofs.YthceaojjeokclaaGreat
namespace Go.Sx
theorem paFrom_asc {s : Rc} : ∀ {L : List Pa} {last : Int}, paFrom s last L = true → (∀ x ∈ L, last < s.place x.sn) ∧ L.Pairwise fun x y => s.place x.sn < s.place y.sn
  | [], last, _ => ⟨fun x hx => by simp at hx, .nil⟩
  | p :: l, last, h => by
    simp only [paFrom, Bool.and_eq_true] at h
    obtain ⟨h1, h2⟩ := h
    obtain ⟨h3, h4⟩ := paFrom_asc h2
    unfold paAt at h1
    simp only [Bool.and_eq_true, decide_eq_true_eq] at h1
    refine ⟨fun x hx => ?_, List.pairwise_cons.2 ⟨h3, h4⟩⟩
    rcases List.mem_cons.1 hx with rfl | hx
    · exact h1.1.1.2.1
    · have := h3 x hx; have := h1.1.1.2.1; omega
theorem rc_asc {s : Rc} (h : s.okB = true) : ∀ i j (hi : i < s.parts.length) (hj : j < s.parts.length), i < j → s.place s.parts[i].sn < s.place s.parts[j].sn := by
  unfold Rc.okB at h
  simp only [Bool.and_eq_true] at h
  exact fun i j hi hj hij => List.pairwise_iff_getElem.1 (paFrom_asc h.1.2).2 i j hi hj hij
end Go.Sx
namespace Go.Proofs.YthceaojjeokclaaGreat
open Go.Sx Go.RowKit
set_option maxRecDepth 100000
section
variable {s : Rc} {a : Option Addr} {c : Nat} {w : World}
theorem ref21_Status_ct (hu : PaR w a s.parts) (hl : SmP s.parts) :
    Calls Tryz.prog N_ref21_Status #[aggRc s a c] w (RetS w (statR s).1 (statR s).2) := by
  apply F_ref21_Status_ok
  unfold F_ref21_Status
  have H := St.nil w
  refine H.alloc ?_; clear H; intro b w1 H1
  refine H1.alloc ?_; clear H1; intro b1 w2 H2
  refine ⟨_, _, _, _, _, _, _, _, _, _, _, _, _, _, _, _, H2.cells (i := 0) rfl, ?_⟩
  refine (ref21_Valid_ct (paR_below hu H2.below) hl).mono ?_
  rintro _ w3 ⟨rfl, hb3⟩; have H3 := H2.pass hb3; clear H2
  refine ⟨_, rfl, ?_⟩
  refine bsplit_n (fun c6 => ?_) (fun c6 => ?_)
  · refine H3.store (i := 1) rfl (by rfl) (by rfl) ?_; clear H3; intro w4 H4
    refine ⟨_, _, _, _, H4.cells (i := 1) rfl, ?_⟩
    rw [statR, if_pos c6]
    exact RetS.zero H4.below _
  · obtain ⟨hf, hlk, hs1, hs2, hs3, hq, hall⟩ := rc_fit c6
    have hasc := rc_asc c6
    have hb := hlk.1
    have hp := pow_bits hb
    have hb' := hb
    obtain ⟨hb1, hb2⟩ := hb'
    have hpr := placeR_range s s.upto
    rw [statR, if_neg (by rw [c6]; decide)]
    obtain ⟨d, hd⟩ : ∃ d, d = (s.place s.upto).toNat := ⟨_, rfl⟩
    rw [← hd]
    have hdi : (d : Int) = s.place s.upto := by omega
    clear hd
    have hs1' := hs1
    unfold snOk at hs1'
    have hf1 := hf.1
    refine H3.ld (i := 0) rfl rfl ?_
    refine H3.alloc ?_; clear H3; intro b2 w5 H5
    refine H5.store (i := 2) rfl (by rfl) (by rfl) ?_; clear H5; intro w6 H6
    replace H6 : St (fun _ => False) [] w w6 [.blk b Ty_api_Receiver (encRc s a c), .blk b1 Ty_api_Status [.int .i64 0, .slice none 0 0], .blk b2 Ty_api_Status [.int .i64 s.upto, .slice none 0 0]] (fun _ => True) := H6
    have H6 := H6.nilE encR Ty_api_Range 3
    simp only [List.cons_append, List.nil_append] at H6
    refine ⟨fun k i => ((d - i).toNat, fun w7 => ∃ (j kk : Nat) (O : List Rg) (oa : Option Addr) (oc : Nat), k = kk ∧ i = j ∧ kk ≤ s.parts.length ∧ j ≤ d ∧ (∀ q (hq : q < s.parts.length), q < kk → s.place s.parts[q].sn < j) ∧ (∀ q (hq : q < s.parts.length), kk ≤ q → j ≤ s.place s.parts[q].sn) ∧
      statS s d s.first [] = statS s (d - j) (s.num j) O ∧ O.length ≤ 64 ∧ St (fun _ => False) [] w w7 [.blk b Ty_api_Receiver (encRc s a c), .blk b1 Ty_api_Status [.int .i64 0, .slice none 0 0], .blk b2 Ty_api_Status [.int .i64 s.upto, .slice oa O.length oc], .els encR Ty_api_Range 3 oa oc O] (fun _ => True)), ⟨0, 0, [], none, 0, rfl, rfl, by omega, by omega, fun q _ h => by omega, fun q _ _ => (placeR_range s _).1, by rw [num_zero hs1]; rfl, by simp, H6⟩, ?_⟩
    clear H6
    rintro _ _ _ w7 ⟨j, kk, O, oa, oc, rfl, rfl, hk, hj, hlo, hhi, hT, hO, H7⟩
    refine ⟨_, _, _, _, _, _, _, _, _, _, _, _, _, _, _, _, H7.cells (i := 0) rfl, ?_⟩
    refine H7.ld (i := 0) rfl rfl ?_
    refine (ref21_place_ct hb).mono ?_
    rintro _ w8 ⟨rfl, hb8⟩; have H8 := H7.pass hb8; clear H7
    refine ⟨_, rfl, ?_⟩
    refine bsplit_dec (fun c5 => ?_) (fun c5 => ?_)
    · have hjd : j < d := by omega
      have h9j : -9223372036854775808 ≤ (j : Int) + 1 ∧ (j : Int) + 1 ≤ 9223372036854775807 := by omega
      have h9k : -9223372036854775808 ≤ (kk : Int) + 1 ∧ (kk : Int) + 1 ≤ 9223372036854775807 := by omega
      have h9s : -9223372036854775808 ≤ s.first + (j : Int) ∧ s.first + (j : Int) ≤ 9223372036854775807 := by omega
      clear hp
      have ej : d - j = (d - (j + 1)) + 1 := by omega
      have hml := missP_len (s := s) (n := s.num j) fun x hx => (hf.2 x hx).1
      have hjp : s.place (s.num j) = j := num_place hb hs1 (by omega)
      have hsu := num_succ (s := s) hb j
      rw [ej, statS, hsu] at hT
      have none_ : (∀ h : kk < s.parts.length, s.parts[kk].sn ≠ s.num j) → missP s (s.num j) = [⟨s.num j, 0, 0⟩] ∧ ∀ q (hq : q < s.parts.length), kk ≤ q → (j : Int) + 1 ≤ s.place s.parts[q].sn := fun h => by
        have key : ∀ q (hq : q < s.parts.length), kk ≤ q → (j : Int) + 1 ≤ s.place s.parts[q].sn := fun q hq hkq => by
          have h1 := hhi q hq hkq
          rcases Nat.lt_or_ge kk q with h2 | h2
          · have := hasc kk q (by omega) hq h2
            have := hhi kk (by omega) (Nat.le_refl _); omega
          · obtain rfl : kk = q := by omega
            have h3 : s.place s.parts[kk].sn ≠ j := fun e => h hq (place_inj hb (hall _ (List.getElem_mem _)).2 (num_ok hb j) (by rw [e, hjp]))
            omega
        refine ⟨missP_none fun x hx e => ?_, key⟩
        obtain ⟨q, hq, rfl⟩ := List.getElem_of_mem hx
        rw [← e] at hjp
        rcases Nat.lt_or_ge q kk with h2 | h2
        · have := hlo q hq h2; omega
        · have := key q hq h2; omega
      refine H8.ld (i := 0) rfl rfl ?_
      refine H8.ld (i := 0) rfl rfl ?_
      refine kW_i64 h9s ?_
      refine ref02_Low_ct.mono ?_
      rintro _ w9 ⟨rfl, hb9⟩; have H9 := H8.pass hb9; clear H8
      refine ⟨_, rfl, ?_⟩
      rw [if_pos (by omega)]
      have enum : (s.first + (j : Int)) % 2 ^ s.lk.bits.toNat = s.num j := rfl
      rw [enum]
      refine H9.alloc ?_; clear H9; intro b3 w10 H10
      refine ⟨fun k1 more_a more_l more_c w16 => ∃ (kk' : Nat) (M : List Rg), k1 = kk' ∧ more_l = M.length ∧ M = missP s (s.num j) ∧ kk' ≤ s.parts.length ∧ (∀ q (hq : q < s.parts.length), q < kk' → s.place s.parts[q].sn < j + 1) ∧ (∀ q (hq : q < s.parts.length), kk' ≤ q → (j : Int) + 1 ≤ s.place s.parts[q].sn) ∧
        St (fun _ => False) [] w w16 [.blk b Ty_api_Receiver (encRc s a c), .blk b1 Ty_api_Status [.int .i64 0, .slice none 0 0], .blk b2 Ty_api_Status [.int .i64 s.upto, .slice oa O.length oc], .els encR Ty_api_Range 3 oa oc O] (fun w => SlR (CE encR) 3 w more_a M), ?_, ?_⟩
      · rintro _ k1 more_a more_l more_c w16 ⟨kk', M, rfl, rfl, hM, hk', hlo', hhi', H16⟩
        rw [← hM] at hT hml
        refine H16.ldS (i := 2) rfl rfl ?_
        refine kW_i64 (by omega) ?_
        refine bsplit_dec (fun c4 => ?_) (fun c4 => ?_)
        · rw [if_pos (by omega)] at hT
          rw [hT]
          refine H16.set (i := 2) rfl (by simp) ?_; clear H16; intro w17 H17
          refine ⟨_, _, _, _, H17.cells (i := 2) rfl, ?_⟩
          refine H17.store (i := 1) rfl (by rfl) (by rfl) ?_; clear H17; intro w18 H18
          refine ⟨_, _, _, _, H18.cells (i := 1) rfl, ?_⟩
          have hc := H18.capE (i := 3) rfl
          exact ⟨oa, oc, hc, rfl, ((H18.shareE encR_ok (i := 3) rfl).fin).imp fun _ h => h.1⟩
        · rw [if_neg (by omega)] at hT
          refine H16.ldS (i := 2) rfl rfl ?_
          refine H16.appE encR_ok (i := 3) rfl sl_Ty_S_api_Range H16.get (by omega) (by omega) ?_; intro x_a7 x_c7 w19 H19
          refine H19.set (i := 2) rfl (by simp) ?_; clear H19; intro w20 H20
          refine kW_i64 h9j ?_
          exact ⟨⟨j + 1, kk', O ++ M, x_a7, x_c7, rfl, by omega, hk', by omega, fun q hq h => by have := hlo' q hq h; omega, fun q hq h => by have := hhi' q hq h; omega, hT, by rw [List.length_append]; omega, H20.imp fun _ _ => trivial⟩, by dsimp only; omega⟩
      · replace H10 : St (fun _ => False) [] w w10 [.blk b Ty_api_Receiver (encRc s a c), .blk b1 Ty_api_Status [.int .i64 0, .slice none 0 0], .blk b2 Ty_api_Status [.int .i64 s.upto, .slice oa O.length oc], .els encR Ty_api_Range 3 oa oc O, .blk b3 Ty_api_Range ([Rg.mk (s.num j) 0 0].flatMap encR)] (fun _ => True) := H10
        refine ⟨fun x6 w11 => St (fun _ => False) [] w w11 [.blk b Ty_api_Receiver (encRc s a c), .blk b1 Ty_api_Status [.int .i64 0, .slice none 0 0], .blk b2 Ty_api_Status [.int .i64 s.upto, .slice oa O.length oc], .els encR Ty_api_Range 3 oa oc O, .blk b3 Ty_api_Range ([Rg.mk (s.num j) 0 0].flatMap encR)] (fun _ => True) ∧ (x6 = true ↔ ∃ h : kk < s.parts.length, s.parts[kk].sn = s.num j), ?_, ?_⟩
        · rintro _ x6 w11 ⟨H11, hj⟩
          refine bsplit_intro (fun c3 => ?_) (fun c3 => ?_)
          · obtain ⟨hlt, hsn⟩ := hj.1 c3
            have hm := List.getElem_mem hlt
            obtain ⟨x, hx⟩ : ∃ x, x = s.parts[kk] := ⟨_, rfl⟩
            rw [← hx] at hm hsn
            obtain ⟨hxc, hxd⟩ := hf.2 x hm
            have hpa := (hall x hm).1
            have hM0 : missP s (s.num j) = missO (s.num j) (some x) := by
              rw [hx]; refine missP_some hlt (by rw [← hx]; exact hsn) fun q hq hqk e => ?_
              have := hlo q hq hqk
              rw [e, hjp] at this; omega
            have hxp : s.place s.parts[kk].sn = j := by rw [← hx, hsn, hjp]
            have hlo' : ∀ q (hq : q < s.parts.length), q < kk + 1 → s.place s.parts[q].sn < (j : Int) + 1 := fun q hq h => by
              rcases Nat.lt_or_ge q kk with h2 | h2
              · have := hlo q hq h2; omega
              · obtain rfl : q = kk := by omega
                omega
            have hhi' : ∀ q (hq : q < s.parts.length), kk + 1 ≤ q → (j : Int) + 1 ≤ s.place s.parts[q].sn := fun q hq h => by
              have := hasc kk q hlt hq (by omega); omega
            refine H11.ldS (i := 0) rfl rfl ?_
            refine ixPa hu kk rfl hlt fun b5 hb5 => ?_
            rw [← hx] at hb5
            obtain ⟨a1, c1', a2, c2', hb5, hd5, hr5, _⟩ := hb5
            refine ⟨_, _, _, _, _, _, _, _, _, cells_below hb5 H11.below, ?_⟩
            refine H11.alloc ?_; clear H11; intro b6 w12 H12
            refine H12.store (i := 5) rfl (by rfl) (by rfl) ?_; clear H12; intro w13 H13
            refine kW_i64 h9k ?_
            refine H13.ldB (i := 5) rfl rfl ?_
            refine bsplit_intro (fun c2 => ?_) (fun c2 => ?_)
            · rw [hM0, missO, if_pos c2, List.length_nil, List.append_nil, if_neg (by omega)] at hT
              refine kW_i64 h9j ?_
              exact ⟨⟨j + 1, kk + 1, O, oa, oc, by omega, by omega, by omega, by omega, fun q hq h => by have := hlo' q hq h; omega, fun q hq h => by have := hhi' q hq h; omega, hT, hO, St.left (X := [_, _, _, _]) H13⟩, by dsimp only; omega⟩
            · obtain ⟨ln, hln⟩ : ∃ ln, ln = if x.len = -1 then (65535 : Int) else x.len := ⟨_, rfl⟩
              have em : missO (s.num j) (some x) = gapsS (s.num j) x.come 0 ln := by rw [missO, if_neg (by rw [c2]; decide), hln]
              have hnum : paNum x := by rw [paB, if_neg (by rw [c2]; decide), Bool.and_eq_true, decide_eq_true_iff] at hpa; exact hpa.1
              have hg : gapR x.come (s.num j) ln = (gapsS (s.num j) x.come 0 ln, 0) := by
                obtain ⟨h1, _, h3, _, h5, h6, _⟩ := hnum
                have h7 := norm_ge h3 (by omega)
                exact gapR_at h3 (by rw [hln]; split <;> omega) (by rw [hln]; split <;> omega)
              refine H13.ld (i := 5) rfl rfl ?_
              refine bsplit_dec (fun c1 => ?_) (fun c1 => ?_)
              · refine H13.ldS (i := 5) rfl rfl ?_
                have C := ref18_Gaps_ct (l_c := c2') (sn := s.num j) (len := ln) (hr5.belowE H13.below) (by omega)
                rw [hg] at C
                rw [hln, if_pos c1] at C
                rw [hln, if_pos c1] at em
                dsimp only at C
                refine C.mono ?_; clear C
                rintro _ w14 ⟨r_a, r_c, hlc, rfl, K⟩; have H14 := H13.callF K; clear H13
                refine ⟨_, _, _, _, rfl, ?_⟩
                exact ⟨kk + 1, _, by omega, rfl, by rw [hM0, em], by omega, hlo', hhi', St.left (X := [_, _, _, _]) (H14.imp fun _ h => h.1)⟩
              · refine H13.ldS (i := 5) rfl rfl ?_
                have C := ref18_Gaps_ct (l_c := c2') (sn := s.num j) (len := ln) (hr5.belowE H13.below) (by omega)
                rw [hg] at C
                rw [hln, if_neg c1] at C
                rw [hln, if_neg c1] at em
                dsimp only at C
                refine C.mono ?_; clear C
                rintro _ w15 ⟨r_a, r_c, hlc, rfl, K⟩; have H15 := H13.callF K; clear H13
                refine ⟨_, _, _, _, rfl, ?_⟩
                exact ⟨kk + 1, _, by omega, rfl, by rw [hM0, em], by omega, hlo', hhi', St.left (X := [_, _, _, _]) (H15.imp fun _ h => h.1)⟩
          · obtain ⟨hn1, hn2⟩ := none_ fun h e => by rw [hj.2 ⟨h, e⟩] at c3; cases c3
            have H11 := H11.litE encR_ok (i := 4) [Rg.mk (s.num j) 0 0] rfl (show 1 ≤ maxLen by decide)
            have H11 := H11.shareE encR_ok (i := 4) rfl
            exact ⟨kk, [⟨s.num j, 0, 0⟩], rfl, rfl, hn1.symm, hk, fun q hq h => by have := hlo q hq h; omega, hn2, St.left (X := [_, _, _, _]) (H11.imp fun _ h => h.1)⟩
        · refine H10.ldS (i := 0) rfl rfl ?_
          refine bsplit_dec (fun c0 => ?_) (fun c0 => ?_)
          · have hlt : kk < s.parts.length := by omega
            refine H10.ldS (i := 0) rfl rfl ?_
            refine ixPa hu kk rfl hlt fun b4 hb4 => ?_
            obtain ⟨a1, c1', a2, c2', hb4, _, _, _⟩ := hb4
            refine ⟨_, by have := cellsAt_get (cells_below hb4 H10.below) 0 _ rfl; rwa [add_add] at this, ?_⟩
            exact ⟨H10, by rw [decide_eq_true_iff]; exact ⟨fun h => ⟨hlt, h⟩, fun ⟨_, h⟩ => h⟩⟩
          · exact ⟨H10, iff_of_false (by decide) fun ⟨h, _⟩ => c0 (by omega)⟩
    · obtain rfl : j = d := by omega
      rw [Nat.sub_self, statS] at hT
      rw [hT]
      refine ⟨_, _, _, _, H8.cells (i := 2) rfl, ?_⟩
      refine H8.store (i := 1) rfl (by rfl) (by rfl) ?_; clear H8; intro w21 H21
      refine ⟨_, _, _, _, H21.cells (i := 1) rfl, ?_⟩
      have hc := H21.capE (i := 3) rfl
      exact ⟨oa, oc, hc, rfl, ((H21.shareE encR_ok (i := 3) rfl).fin).imp fun _ h => h.1⟩
end
end Go.Proofs.YthceaojjeokclaaGreat
namespace Go.Sx
theorem fit_okS {b sp : Int} {x : Stt} (h : (fitR b x sp).2 = 0) : okS b (fitR b x sp).1 := by
  unfold fitR at h ⊢
  by_cases h1 : ¬ okS b x
  · rw [if_pos h1] at h; exact absurd h (by decide)
  rw [if_neg h1] at h ⊢
  by_cases h2 : sp < 3
  · rw [if_pos h2] at h; exact absurd h (by decide)
  rw [if_neg h2] at h ⊢
  exact (fits_law (u := x.upto) (L := x.miss) (by simpa using h1) (by omega) rfl).1
theorem fit_lenR {b sp : Int} {x : Stt} (h : (fitR b x sp).2 = 0) : (fitR b x sp).1.miss.length ≤ 64 := (fit_okS h).2.2.1
theorem statS_len (s : Rc) : ∀ (k : Nat) (n : Int) (O : List Rg), O.length ≤ 64 → (statS s k n O).miss.length ≤ 64
  | 0, _, O, h => h
  | k + 1, n, O, h => by
    unfold statS
    split
    · exact h
    · exact statS_len s k _ _ (by rw [List.length_append]; omega)
theorem statR_len (s : Rc) : (statR s).1.miss.length ≤ 64 := by
  unfold statR
  split
  · simp [Stt.zero]
  · exact statS_len s _ _ _ (by simp)
theorem fit_any {b sp : Int} {x : Stt} (h : x.miss.length ≤ 64) : (fitR b x sp).1.miss.length ≤ 64 := by
  rcases (show (fitR b x sp).2 = 0 ∨ (fitR b x sp).1 = .zero by
    unfold fitR; split
    · exact .inr rfl
    · split
      · exact .inr rfl
      · exact .inl rfl) with h1 | h1
  · exact fit_lenR h1
  · rw [h1]; simp [Stt.zero]
end Go.Sx
namespace Go.Proofs.YthceaojjeokclaaGreat
open Go.Sx Go.RowKit
set_option maxRecDepth 100000
def RetRB (w : World) (x : Rc) (bs : List Int) (E : Int) (e : Ending) (w' : World) : Prop :=
  ∃ a c L ba bc, L.map (·.p) = x.parts ∧ bs.length ≤ bc ∧ e = .returned (.tuple #[aggRc x a c, .slice ba bs.length bc, .int .i64 E]) ∧ St (fun _ => False) [] w w' (.els encPP Ty_api_Partial 5 a c L :: L.map agP) (fun w => CoR L w ∧ SlR (IntC .u8) 1 w ba bs)
theorem RetRB.read {w w' : World} {x : Rc} {bs : List Int} {E : Int} {e : Ending} (h : RetRB w x bs E e w') : ∃ a c ba bc, bs.length ≤ bc ∧ e = .returned (.tuple #[aggRc x a c, .slice ba bs.length bc, .int .i64 E]) ∧ Fresh w w' fun w => PaR w a x.parts ∧ SlR (IntC .u8) 1 w ba bs := by
  obtain ⟨a, c, L, ba, bc, hL, hbc, he, H⟩ := h
  have K := shareDa (R := [.els encPP Ty_api_Partial 5 a c L]) H
  refine ⟨a, c, ba, bc, hbc, he, ?_⟩
  rw [← hL]
  exact (K.shareE encPP_ok (i := 0) rfl).fin.imp fun _ h => ⟨up_paR h.1 h.2.1 h.2.2.1, h.2.2.2⟩
theorem retRBZ {w w' : World} {P : World → Prop} {R : List Res} {E : Int} (H : St (fun _ => False) [] w w' R P) : RetRB w .zero [] E (.returned (.tuple #[aggRc .zero none 0, .slice none 0 0, .int .i64 E])) w' :=
  ⟨none, 0, [], none, 0, rfl, Nat.le_refl _, rfl, (H.fin.nilE encPP Ty_api_Partial 5).weaken0.imp fun _ _ => ⟨fun x hx => by simp at hx, .nil⟩⟩
theorem finPB {A0 : Nat → Prop} {w w' : World} {P : World → Prop} {ua ba : Option Addr} {uc : Nat} {bs : List Int} {L : List PP} {X : List Res} (H : St A0 [] w w' (X ++ .els encPP Ty_api_Partial 5 ua uc L :: L.map agP) P) (hP : ∀ w, P w → CoR L w ∧ SlR (IntC .u8) 1 w ba bs) :
    St A0 [] w w' (.els encPP Ty_api_Partial 5 ua uc L :: L.map agP) (fun w => CoR L w ∧ SlR (IntC .u8) 1 w ba bs) :=
  (H.sub (fun i => i + X.length) (fun i r h => by rw [List.getElem?_append_right (by omega), Nat.add_sub_cancel]; exact h) (fun i j _ _ h => by omega)).imp hP
section
variable {s : Rc} {a : Option Addr} {c : Nat} {size : Int} {w : World}
theorem repR_bad (h : s.okB = false) : repR s size = (.zero, [], 1) := by unfold repR; rw [if_pos h]
theorem repR_rng (h : s.okB = true) (h2 : size < 0 ∨ size > 4096) : repR s size = (.zero, [], 3) := by unfold repR; rw [if_neg (by rw [h]; decide), if_pos h2]
theorem repR_emp (h : s.okB = true) (h2 : ¬ (size < 0 ∨ size > 4096)) (h3 : s.due = false ∨ s.quiet > 0) : repR s size = (.zero, [], 14) := by unfold repR; rw [if_neg (by rw [h]; decide), if_neg h2, if_pos h3]
theorem repR_fit (h : s.okB = true) (h2 : ¬ (size < 0 ∨ size > 4096)) (h3 : ¬ (s.due = false ∨ s.quiet > 0)) (h4 : (fitR s.lk.bits (statR s).1 size).2 ≠ 0) : repR s size = (.zero, [], (fitR s.lk.bits (statR s).1 size).2) := by unfold repR; rw [if_neg (by rw [h]; decide), if_neg h2, if_neg h3]; exact if_pos h4
theorem repR_ok (h : s.okB = true) (h2 : ¬ (size < 0 ∨ size > 4096)) (h3 : ¬ (s.due = false ∨ s.quiet > 0)) (h4 : (fitR s.lk.bits (statR s).1 size).2 = 0) : repR s size = ({ s with due := false, quiet := s.lk.quiet }, (encS s.lk.bits (fitR s.lk.bits (statR s).1 size).1).1, 0) := by unfold repR; rw [if_neg (by rw [h]; decide), if_neg h2, if_neg h3]; exact if_neg (by rw [h4]; decide)
theorem enc_zero {b : Int} {x : Stt} (h : okS b x) : (Go.Sx.encS b x).2 = 0 := by unfold Go.Sx.encS; rw [if_pos h]
theorem receiver_Report_ct (hu : PaR w a s.parts) (hl : SmP s.parts) :
    Calls Tryz.prog N_receiver_Report #[aggRc s a c, .int .i64 size] w (RetRB w (repR s size).1 (repR s size).2.1 (repR s size).2.2) := by
  apply F_receiver_Report_ok
  unfold F_receiver_Report
  have H := St.nil w
  refine H.alloc ?_; clear H; intro b w1 H1
  refine H1.alloc ?_; clear H1; intro b1 w2 H2
  refine ⟨_, _, _, _, _, _, _, _, _, _, _, _, _, _, _, _, H2.cells (i := 0) rfl, ?_⟩
  refine (receiver_Status_ct (paR_below hu H2.below) hl).mono ?_
  rintro _ w3 ⟨sa, sc, hsc, rfl, K3⟩; have H3 := H2.callF K3; clear H2
  have hse : (statR s).2 = if s.okB = false then 1 else 0 := by unfold statR; split <;> rfl
  have hml := statR_len s
  obtain ⟨x, hx⟩ : ∃ x, x = (statR s).1 := ⟨_, rfl⟩
  rw [← hx] at hml hsc H3 ⊢
  refine ⟨_, _, _, _, _, rfl, ?_⟩
  refine H3.alloc ?_; clear H3; intro b2 w4 H4
  refine H4.store (i := 2) rfl (by rfl) (by rfl) ?_; clear H4; intro w5 H5
  replace H5 : St (fun _ => False) [] w w5 [.blk b Ty_api_Receiver (encRc s a c), .blk b1 Ty_api_Receiver (encRc .zero none 0), .blk b2 Ty_api_Status [.int .i64 x.upto, .slice sa x.miss.length sc]] (fun w => SlR (CE encR) 3 w sa x.miss ∧ True) := H5
  refine ⟨fun w11 => St (fun _ => False) [] w w11 [.blk b Ty_api_Receiver (encRc s a c), .blk b1 Ty_api_Receiver (encRc .zero none 0), .blk b2 Ty_api_Status [.int .i64 x.upto, .slice sa x.miss.length sc]] (fun w => SlR (CE encR) 3 w sa x.miss ∧ True) ∧ s.okB = true ∧ ¬ (size < 0 ∨ size > 4096) ∧ ¬ (s.due = false ∨ s.quiet > 0), ?_, ?_⟩
  · rintro _ w11 ⟨H11, j1, j2, j3⟩
    obtain ⟨hf, hlk, hs1, hs2, hs3, hq, hall⟩ := rc_fit j1
    refine H11.ld (i := 0) rfl rfl ?_
    refine ⟨_, _, _, _, H11.cells (i := 2) rfl, ?_⟩
    refine (status_Fit_ct (bits := s.lk.bits) (u := x.upto) (l := x.miss) (sp := size) H11.get.1 (by omega)).mono ?_
    rintro _ w12 ⟨fa, fc, hfc, rfl, K12⟩; have H12 := H11.callF K12; clear H11
    have hfl := fit_any (b := s.lk.bits) (sp := size) hml
    have hfo := fit_okS (b := s.lk.bits) (sp := size) (x := x)
    have r1 := repR_fit j1 j2 j3
    have r2 := repR_ok j1 j2 j3
    rw [← hx] at r1 r2
    replace H12 : St (fun _ => False) [] w w12 [.blk b Ty_api_Receiver (encRc s a c), .blk b1 Ty_api_Receiver (encRc .zero none 0), .blk b2 Ty_api_Status [.int .i64 x.upto, .slice sa x.miss.length sc]] (fun w => SlR (CE encR) 3 w fa (fitR s.lk.bits x size).1.miss ∧ SlR (CE encR) 3 w sa x.miss ∧ True) := H12
    show ∃ r_05 r_1_a r_1_l r_1_c r_14, (Ending.returned (.tuple #[.agg #[.int .i64 (fitR s.lk.bits x size).1.upto, .slice fa (fitR s.lk.bits x size).1.miss.length fc], .int .i64 (fitR s.lk.bits x size).2])) = _ ∧ _
    obtain ⟨F, hF⟩ : ∃ F, F = fitR s.lk.bits x size := ⟨_, rfl⟩
    rw [← hF] at hfc hfl hfo r1 r2 H12 ⊢
    refine ⟨_, _, _, _, _, rfl, ?_⟩
    refine H12.store (i := 2) rfl (by rfl) (by rfl) ?_; clear H12; intro w13 H13
    refine bsplit_nd (fun c5 => ?_) (fun c5 => ?_)
    · refine H13.store (i := 1) rfl (by rfl) (by rfl) ?_; clear H13; intro w14 H14
      refine ⟨_, _, _, _, _, _, _, _, _, _, _, _, _, _, _, _, H14.cells (i := 1) rfl, ?_⟩
      rw [r1 c5]
      exact retRBZ H14
    · refine H13.ld (i := 0) rfl rfl ?_
      refine ⟨_, _, _, _, H13.cells (i := 2) rfl, ?_⟩
      refine (status_Encode_ct (bits := s.lk.bits) (u := F.1.upto) (l := F.1.miss) H13.get.1 (by omega)).mono ?_
      rintro _ w15 ⟨ea, ec, hec, rfl, K15⟩; have H15 := H13.callF K15; clear H13
      rw [r2 c5]
      show ∃ b_a b_l b_c e, Ending.returned (.tuple #[.slice ea (Go.Sx.encS s.lk.bits F.1).1.length ec, .int .i64 (Go.Sx.encS s.lk.bits F.1).2]) = _ ∧ _
      rw [enc_zero (hfo c5)]
      refine ⟨_, _, _, _, rfl, ?_⟩
      refine ⟨_, _, _, _, _, _, _, _, _, _, _, _, _, _, _, _, H15.cells (i := 0) rfl, ?_⟩
      refine (receiver_begin_ct (paR_below hu H15.below) hf).mono ?_
      rintro _ w16 ⟨g16, ua16, uc16, L16, hL16, rfl, K16⟩; have H16 := H15.callF K16; clear H15
      try simp only [List.cons_append, List.nil_append] at H16
      refine ⟨_, rfl, ?_⟩
      refine H16.drew ?_; clear H16; intro w17 H17
      refine ⟨fun x => x < w17.heap.size ∧ x ∉ [g16], ?_⟩
      have f17 := Fr.refl [g16] w17
      refine ⟨⟨H17.lt (i := 0) rfl rfl, nin1 (H17.ne (i := 0) (j := 3) rfl rfl (by decide) rfl rfl)⟩, ?_⟩
      refine H17.ld (i := 0) rfl rfl ?_
      refine kNil_in ?_
      try rw [add_mk]
      refine H17.setF (i := 3) rfl (by show 12 < 14; decide) ?_; intro w18 g18 H18
      have f18 := f17.tr g18 (by simp)
      refine ⟨f18.keeps, ?_⟩
      refine kNil_in ?_
      try rw [add_mk]
      refine H18.set (i := 3) rfl (by show 11 < 14; decide) ?_; intro w19 H19
      refine kNil_in ?_
      try rw [add_mk]
      refine ⟨_, _, _, _, _, _, _, _, _, _, _, _, _, _, _, _, H19.cells (i := 3) rfl, ?_⟩
      refine H19.store (i := 1) rfl (by rfl) (by rfl) ?_; clear H19; intro w20 H20
      refine ⟨_, _, _, _, _, _, _, _, _, _, _, _, _, _, _, _, H20.cells (i := 1) rfl, ?_⟩
      exact ⟨ua16, uc16, L16, ea, ec, hL16, hec, rfl, finPB (X := [_, _, _, _]) H20 fun _ h => ⟨h.1, h.2.1⟩⟩
  · refine kLet_in ?_
    refine bsplit_nd (fun c4 => ?_) (fun c4 => ?_)
    · refine H5.store (i := 1) rfl (by rfl) (by rfl) ?_; clear H5; intro w6 H6
      refine ⟨_, _, _, _, _, _, _, _, _, _, _, _, _, _, _, _, H6.cells (i := 1) rfl, ?_⟩
      have ho : s.okB = false := by
        rcases Bool.eq_false_or_eq_true s.okB with h | h
        · rw [hse, h] at c4; exact absurd rfl c4
        · exact h
      rw [hse, if_pos ho, repR_bad ho]
      exact retRBZ H6
    · have ho : s.okB = true := by
        rcases Bool.eq_false_or_eq_true s.okB with h | h
        · exact h
        · rw [hse, h] at c4; exact absurd c4 (by decide)
      refine ⟨fun x2 w7 => St (fun _ => False) [] w w7 [.blk b Ty_api_Receiver (encRc s a c), .blk b1 Ty_api_Receiver (encRc .zero none 0), .blk b2 Ty_api_Status [.int .i64 x.upto, .slice sa x.miss.length sc]] (fun w => SlR (CE encR) 3 w sa x.miss ∧ True) ∧ (x2 = true ↔ size < 0 ∨ size > 4096), ?_, ?_⟩
      · rintro _ x2 w7 ⟨H7, hj⟩
        refine bsplit_intro (fun c3 => ?_) (fun c3 => ?_)
        · refine H7.store (i := 1) rfl (by rfl) (by rfl) ?_; clear H7; intro w8 H8
          refine ⟨_, _, _, _, _, _, _, _, _, _, _, _, _, _, _, _, H8.cells (i := 1) rfl, ?_⟩
          rw [repR_rng ho (hj.1 c3)]
          exact retRBZ H8
        · have hn : ¬ (size < 0 ∨ size > 4096) := fun h => by rw [hj.2 h] at c3; cases c3
          refine H7.ldB (i := 0) rfl rfl ?_
          refine bsplit_n (fun c2 => ?_) (fun c2 => ?_)
          · refine H7.store (i := 1) rfl (by rfl) (by rfl) ?_; clear H7; intro w9 H9
            refine ⟨_, _, _, _, _, _, _, _, _, _, _, _, _, _, _, _, H9.cells (i := 1) rfl, ?_⟩
            rw [repR_emp ho hn (.inl c2)]
            exact retRBZ H9
          · refine H7.ld (i := 0) rfl rfl ?_
            refine kLet_in ?_
            refine bsplit_dec (fun c1 => ?_) (fun c1 => ?_)
            · refine H7.store (i := 1) rfl (by rfl) (by rfl) ?_; clear H7; intro w10 H10
              refine ⟨_, _, _, _, _, _, _, _, _, _, _, _, _, _, _, _, H10.cells (i := 1) rfl, ?_⟩
              rw [repR_emp ho hn (.inr c1)]
              exact retRBZ H10
            · exact ⟨H7, ho, hn, fun h => h.elim (fun h => by rw [h] at c2; cases c2) c1⟩
      · refine bsplit_dec (fun c0 => ?_) (fun c0 => ?_)
        · exact ⟨H5, iff_of_true rfl (.inl c0)⟩
        · refine kLet_in ?_
          exact ⟨H5, by rw [decide_eq_true_iff]; exact ⟨fun h => .inr h, fun h => h.elim (fun h => absurd h c0) id⟩⟩
theorem ref21_Report_ct (hu : PaR w a s.parts) (hl : SmP s.parts) :
    Calls Tryz.prog N_ref21_Report #[aggRc s a c, .int .i64 size] w (RetRB w (repR s size).1 (repR s size).2.1 (repR s size).2.2) := by
  apply F_ref21_Report_ok
  unfold F_ref21_Report
  have H := St.nil w
  refine H.alloc ?_; clear H; intro b w1 H1
  refine H1.alloc ?_; clear H1; intro b1 w2 H2
  replace H2 : St (fun _ => False) [] w w2 [.blk b Ty_api_Receiver (encRc s a c), .blk b1 Ty_api_Receiver (encRc .zero none 0)] (fun _ => True) := H2
  refine ⟨fun w9 => St (fun _ => False) [] w w9 [.blk b Ty_api_Receiver (encRc s a c), .blk b1 Ty_api_Receiver (encRc .zero none 0)] (fun _ => True) ∧ s.okB = true ∧ ¬ (size < 0 ∨ size > 4096) ∧ ¬ (s.due = false ∨ s.quiet > 0), ?_, ?_⟩
  · rintro _ w9 ⟨H9, j1, j2, j3⟩
    obtain ⟨hf, hlk, hs1, hs2, hs3, hq, hall⟩ := rc_fit j1
    refine ⟨_, _, _, _, _, _, _, _, _, _, _, _, _, _, _, _, H9.cells (i := 0) rfl, ?_⟩
    refine (ref21_Status_ct (paR_below hu H9.below) hl).mono ?_
    rintro _ w10 ⟨sa, sc, hsc, rfl, K10⟩; have H10 := H9.callF K10; clear H9
    have hml := statR_len s
    obtain ⟨x, hx⟩ : ∃ x, x = (statR s).1 := ⟨_, rfl⟩
    rw [← hx] at hml hsc H10 ⊢
    refine ⟨_, _, _, _, _, rfl, ?_⟩
    refine H10.alloc ?_; clear H10; intro b2 w11 H11
    refine H11.store (i := 2) rfl (by rfl) (by rfl) ?_; clear H11; intro w12 H12
    refine H12.ld (i := 0) rfl rfl ?_
    refine ⟨_, _, _, _, H12.cells (i := 2) rfl, ?_⟩
    refine (ref19_Fit_ct (bits := s.lk.bits) (u := x.upto) (l := x.miss) (sp := size) H12.get.1 (by omega) hsc).mono ?_
    rintro _ w13 ⟨fa, fc, hfc, rfl, K13⟩; have H13 := H12.callF K13; clear H12
    have hfl := fit_any (b := s.lk.bits) (sp := size) hml
    have hfo := fit_okS (b := s.lk.bits) (sp := size) (x := x)
    have r1 := repR_fit j1 j2 j3
    have r2 := repR_ok j1 j2 j3
    rw [← hx] at r1 r2
    replace H13 : St (fun _ => False) [] w w13 [.blk b Ty_api_Receiver (encRc s a c), .blk b1 Ty_api_Receiver (encRc .zero none 0), .blk b2 Ty_api_Status [.int .i64 x.upto, .slice sa x.miss.length sc]] (fun w => SlR (CE encR) 3 w fa (fitR s.lk.bits x size).1.miss ∧ SlR (CE encR) 3 w sa x.miss ∧ True) := H13
    show ∃ r_05 r_1_a r_1_l r_1_c r_14, (Ending.returned (.tuple #[.agg #[.int .i64 (fitR s.lk.bits x size).1.upto, .slice fa (fitR s.lk.bits x size).1.miss.length fc], .int .i64 (fitR s.lk.bits x size).2])) = _ ∧ _
    obtain ⟨F, hF⟩ : ∃ F, F = fitR s.lk.bits x size := ⟨_, rfl⟩
    rw [← hF] at hfc hfl hfo r1 r2 H13 ⊢
    refine ⟨_, _, _, _, _, rfl, ?_⟩
    refine H13.store (i := 2) rfl (by rfl) (by rfl) ?_; clear H13; intro w14 H14
    refine bsplit_nd (fun c5 => ?_) (fun c5 => ?_)
    · refine H14.store (i := 1) rfl (by rfl) (by rfl) ?_; clear H14; intro w15 H15
      refine ⟨_, _, _, _, _, _, _, _, _, _, _, _, _, _, _, _, H15.cells (i := 1) rfl, ?_⟩
      rw [r1 c5]
      exact retRBZ H15
    · refine H14.ld (i := 0) rfl rfl ?_
      refine ⟨_, _, _, _, H14.cells (i := 2) rfl, ?_⟩
      refine (ref19_Encode_ct (bits := s.lk.bits) (u := F.1.upto) (l := F.1.miss) H14.get.1 (by omega)).mono ?_
      rintro _ w16 ⟨ea, ec, hec, rfl, K16⟩; have H16 := H14.callF K16; clear H14
      rw [r2 c5]
      refine ⟨_, _, _, _, rfl, ?_⟩
      refine ⟨_, _, _, _, _, _, _, _, _, _, _, _, _, _, _, _, H16.cells (i := 0) rfl, ?_⟩
      refine (ref21_Copy_ct (paR_below hu H16.below) hf).mono ?_
      rintro _ w17 ⟨ua17, uc17, L17, hL17, rfl, K17⟩; have H17 := H16.callF K17; clear H16
      try simp only [List.cons_append, List.nil_append] at H17
      refine ⟨_, _, _, _, _, _, _, _, _, _, _, _, _, _, _, _, rfl, ?_⟩
      refine H17.alloc ?_; clear H17; intro b3 w18 H18
      have H18 := St.lastTo (X := [_, _, _, _]) H18
      try simp only [List.cons_append, List.nil_append] at H18
      refine H18.store (i := 4) rfl (by rfl) (by rfl) ?_; clear H18; intro w19 H19
      refine H19.drew ?_; clear H19; intro w20 H20
      refine ⟨fun x => x < w20.heap.size ∧ x ∉ [b3], ?_⟩
      have f20 := Fr.refl [b3] w20
      refine ⟨⟨H20.lt (i := 0) rfl rfl, nin1 (H20.ne (i := 0) (j := 4) rfl rfl (by decide) rfl rfl)⟩, ?_⟩
      refine H20.ld (i := 0) rfl rfl ?_
      refine H20.setF (i := 4) rfl (by show 12 < 14; decide) ?_; intro w21 g21 H21
      have f21 := f20.tr g21 (by simp)
      refine ⟨f21.keeps, ?_⟩
      refine H21.set (i := 4) rfl (by show 11 < 14; decide) ?_; intro w22 H22
      refine ⟨_, _, _, _, _, _, _, _, _, _, _, _, _, _, _, _, H22.cells (i := 4) rfl, ?_⟩
      refine H22.store (i := 1) rfl (by rfl) (by rfl) ?_; clear H22; intro w23 H23
      refine ⟨_, _, _, _, _, _, _, _, _, _, _, _, _, _, _, _, H23.cells (i := 1) rfl, ?_⟩
      exact ⟨ua17, uc17, L17, ea, ec, hL17, hec, rfl, finPB (X := [_, _, _]) (St.skip (X := [_, _, _, _]) H23) fun _ h => ⟨h.1, h.2.1⟩⟩
  · refine ⟨_, _, _, _, _, _, _, _, _, _, _, _, _, _, _, _, H2.cells (i := 0) rfl, ?_⟩
    refine (ref21_Valid_ct (paR_below hu H2.below) hl).mono ?_
    rintro _ w3 ⟨rfl, hb3⟩; have H3 := H2.pass hb3; clear H2
    refine ⟨_, rfl, ?_⟩
    refine bsplit_n (fun c4 => ?_) (fun c4 => ?_)
    · refine H3.store (i := 1) rfl (by rfl) (by rfl) ?_; clear H3; intro w4 H4
      refine ⟨_, _, _, _, _, _, _, _, _, _, _, _, _, _, _, _, H4.cells (i := 1) rfl, ?_⟩
      rw [repR_bad c4]
      exact retRBZ H4
    · refine ⟨fun x1 w5 => St (fun _ => False) [] w w5 [.blk b Ty_api_Receiver (encRc s a c), .blk b1 Ty_api_Receiver (encRc .zero none 0)] (fun _ => True) ∧ (x1 = true ↔ size < 0 ∨ size > 4096), ?_, ?_⟩
      · rintro _ x1 w5 ⟨H5, hj⟩
        refine bsplit_intro (fun c3 => ?_) (fun c3 => ?_)
        · refine H5.store (i := 1) rfl (by rfl) (by rfl) ?_; clear H5; intro w6 H6
          refine ⟨_, _, _, _, _, _, _, _, _, _, _, _, _, _, _, _, H6.cells (i := 1) rfl, ?_⟩
          rw [repR_rng c4 (hj.1 c3)]
          exact retRBZ H6
        · have hn : ¬ (size < 0 ∨ size > 4096) := fun h => by rw [hj.2 h] at c3; cases c3
          refine H5.ldB (i := 0) rfl rfl ?_
          refine bsplit_n (fun c2 => ?_) (fun c2 => ?_)
          · refine H5.store (i := 1) rfl (by rfl) (by rfl) ?_; clear H5; intro w7 H7
            refine ⟨_, _, _, _, _, _, _, _, _, _, _, _, _, _, _, _, H7.cells (i := 1) rfl, ?_⟩
            rw [repR_emp c4 hn (.inl c2)]
            exact retRBZ H7
          · refine H5.ld (i := 0) rfl rfl ?_
            refine kLet_in ?_
            refine bsplit_dec (fun c1 => ?_) (fun c1 => ?_)
            · refine H5.store (i := 1) rfl (by rfl) (by rfl) ?_; clear H5; intro w8 H8
              refine ⟨_, _, _, _, _, _, _, _, _, _, _, _, _, _, _, _, H8.cells (i := 1) rfl, ?_⟩
              rw [repR_emp c4 hn (.inr c1)]
              exact retRBZ H8
            · exact ⟨H5, c4, hn, fun h => h.elim (fun h => by rw [h] at c2; cases c2) c1⟩
      · refine bsplit_dec (fun c0 => ?_) (fun c0 => ?_)
        · exact ⟨H3, iff_of_true rfl (.inl c0)⟩
        · refine kLet_in ?_
          exact ⟨H3, by rw [decide_eq_true_iff]; exact ⟨fun h => .inr h, fun h => h.elim (fun h => absurd h c0) id⟩⟩
end
end Go.Proofs.YthceaojjeokclaaGreat
namespace Go.Sx
theorem while_len {α : Type} {p : α → Bool} : ∀ {l : List α} {k : Nat}, k ≤ l.length → (∀ j (hj : j < l.length), j < k → p l[j] = true) → (∀ hk : k < l.length, p l[k] = false) → (l.takeWhile p).length = k
  | [], k, hk, _, _ => by simp at hk; subst hk; rfl
  | y :: ys, 0, hk, h1, h2 => by
    have := h2 (by simp)
    simp only [List.getElem_cons_zero] at this
    simp [List.takeWhile, this]
  | y :: ys, k + 1, hk, h1, h2 => by
    have h0 := h1 0 (by simp) (by omega)
    simp only [List.getElem_cons_zero] at h0
    have := while_len (l := ys) (k := k) (by simpa using hk) (fun j hj hjk => by have := h1 (j + 1) (by simpa using hj) (by omega); simpa using this) (fun hk' => by have := h2 (by simpa using hk'); simpa using this)
    simp [List.takeWhile, h0, this]
theorem while_le {α : Type} (p : α → Bool) (l : List α) : (l.takeWhile p).length ≤ l.length := by
  have := congrArg List.length (List.takeWhile_append_dropWhile (p := p) (l := l))
  rw [List.length_append] at this; omega
def fndB (f : Pa → Int) (t : Int) : Option Pa → Bool
  | some x => decide (f x = t)
  | none => false
end Go.Sx
namespace Go.Proofs.YthceaojjeokclaaGreat
open Go.Sx Go.RowKit
set_option maxRecDepth 100000
section
variable {L : List Pa} {a : Option Addr} {c g : Nat} {ff fc : Array Value} {target : Int} {w : World}
theorem searchP_ct (hs : PaR w a L) (hl : L.length ≤ 1000000) (f : Pa → Int) (hok : okFn Tryz.prog g = true) (hr : (-1000000 ≤ target ∧ target ≤ 1000000) ∧ ∀ x ∈ L, -1000000 ≤ f x ∧ f x ≤ 1000000) (hasc : ∀ i j (hi : i < L.length) (hj : j < L.length), i < j → f L[i] < f L[j])
    (hf : ∀ (w' : World) (x : Pa) (a1 : Option Addr) (c1 : Nat) (a2 : Option Addr) (c2 : Nat), x ∈ L → Below w.heap.size w w' → Calls Tryz.prog g (ff ++ #[aggPa x a1 c1 a2 c2, .int .i64 target] ++ fc) w' fun e w'' => e = .returned (.int .i64 (f x - target)) ∧ Below w'.heap.size w' w'') :
    Calls Tryz.prog N_slices_BinarySearchFunc_Sapi_Partial_api_Partial_int #[(.slice a L.length c), (.int .i64 target), .func (.func g) ff fc] w fun e w' => e = .returned (.tuple #[.int .i64 ((L.takeWhile fun x => decide (f x < target)).length : Nat), .bool (fndB f target L[(L.takeWhile fun x => decide (f x < target)).length]?)]) ∧ Below w.heap.size w w' := by
  apply F_slices_BinarySearchFunc_Sapi_Partial_api_Partial_int_ok
  unfold F_slices_BinarySearchFunc_Sapi_Partial_api_Partial_int
  have H := St.nil w
  refine ⟨fun i j => ((j - i).toNat, fun w1 => ∃ p q : Nat, i = p ∧ j = q ∧ p ≤ q ∧ q ≤ L.length ∧ (∀ k (hk : k < L.length), k < p → f L[k] < target) ∧ (∀ k (hk : k < L.length), q ≤ k → target ≤ f L[k]) ∧ FreshR w w1 []), ⟨0, L.length, rfl, rfl, by omega, by omega, fun k _ h => by omega, fun k hk h => by omega, H⟩, ?_⟩
  clear H
  rintro _ i j w1 ⟨p, q, rfl, rfl, hpq, hq, h1, h2, H1⟩
  refine bsplit_dec (fun c2 => ?_) (fun c2 => ?_)
  · refine kW_i64 (by omega) ?_
    refine kW_u64 (by omega) ?_
    refine kLet_in ?_
    have ed : Int.fdiv ((p : Int) + q) (2 ^ 1) = ((p + q) / 2 : Nat) := by
      rw [Int.fdiv_eq_ediv_of_nonneg _ (by decide)]; omega
    rw [ed]
    refine kW_i64 (by omega) ?_
    have hlt : (p + q) / 2 < L.length := by omega
    have hp : p ≤ (p + q) / 2 := by omega
    have hq2 : (p + q) / 2 < q := by omega
    generalize hmid : (p + q) / 2 = m at hlt hp hq2
    clear hmid ed
    refine ixPa hs m rfl hlt fun b hb => ?_
    obtain ⟨a1, c1', a2, c2', hb, _, _, _⟩ := hb
    refine ⟨_, _, _, _, _, _, _, _, _, cells_below hb H1.below, ?_⟩
    refine ⟨hok, ?_⟩
    refine (hf w1 _ a1 c1' a2 c2' (List.getElem_mem hlt) H1.below).mono ?_
    rintro _ w2 ⟨rfl, hb2⟩; have H2 := H1.pass hb2; clear H1
    refine ⟨_, rfl, ?_⟩
    refine bsplit_dec (fun c0 => ?_) (fun c0 => ?_)
    · refine kW_i64 (by omega) ?_
      refine ⟨⟨m + 1, q, by omega, rfl, by omega, hq, fun k hk h => ?_, h2, H2⟩, by dsimp only; omega⟩
      rcases Nat.lt_or_ge k m with h' | h'
      · have := hasc k m hk hlt h'; omega
      · obtain rfl : k = m := by omega
        omega
    · refine ⟨⟨p, m, rfl, rfl, hp, by omega, h1, fun k hk h => ?_, H2⟩, by dsimp only; omega⟩
      rcases Nat.lt_or_ge m k with h' | h'
      · have := hasc m k hlt hk h'; omega
      · obtain rfl : k = m := by omega
        omega
  · obtain rfl : p = q := by omega
    have hk : (L.takeWhile fun x => decide (f x < target)).length = p := while_len hq (fun j hj h => decide_eq_true (h1 j hj h)) fun h => decide_eq_false (by have := h2 p h (Nat.le_refl _); omega)
    rw [hk]
    refine bsplit_dec (fun c1 => ?_) (fun c1 => ?_)
    · have hlt : p < L.length := by omega
      refine ixPa hs p rfl hlt fun b1 hb1 => ?_
      obtain ⟨a1, c1', a2, c2', hb1, _, _, _⟩ := hb1
      refine ⟨_, _, _, _, _, _, _, _, _, cells_below hb1 H1.below, ?_⟩
      refine ⟨hok, ?_⟩
      refine (hf w1 _ a1 c1' a2 c2' (List.getElem_mem hlt) H1.below).mono ?_
      rintro _ w3 ⟨rfl, hb3⟩; have H3 := H1.pass hb3; clear H1
      refine ⟨_, rfl, ?_⟩
      refine kLet_in ?_
      refine ⟨?_, H3.below⟩
      rw [List.getElem?_eq_getElem hlt, fndB, decide_eq_decide.2 (show f L[p] - target = 0 ↔ f L[p] = target by omega)]
    · refine ⟨?_, H1.below⟩
      rw [List.getElem?_eq_none (by omega)]; rfl
end
theorem receiver_Receive_1_ct {s : Rc} {a : Option Addr} {c q g : Nat} {x : Pa} {a1 a2 : Option Addr} {c1 c2 : Nat} {n : Int} {w : World} (hq : w.cell? ⟨q, 0, none⟩ = some (.pointer (some ⟨g, 0, none⟩))) (hc : cellsAt w ⟨g, 0, none⟩ 0 (encRc s a c)) (hb : bitsOk s.lk.bits) (hn : -1000000 ≤ n ∧ n ≤ 1000000) :
    Calls Tryz.prog N_receiver_Receive_1 #[aggPa x a1 c1 a2 c2, (.int .i64 n), (.pointer (some ⟨q, 0, none⟩))] w fun e w' => e = .returned (.int .i64 (s.place x.sn - n)) ∧ Below w.heap.size w w' := by
  apply F_receiver_Receive_1_ok
  unfold F_receiver_Receive_1
  have H := St.nil w
  have hp := pow_bits hb
  have hpl := placeR_range s x.sn
  refine H.alloc ?_; clear H; intro b w1 H1
  refine ⟨_, H1.below.get hq, ?_⟩
  refine H1.ld (i := 0) rfl rfl ?_
  refine (receiver_side_place_ct (cells_below hc H1.below) hb).mono ?_
  rintro _ w2 ⟨rfl, hb2⟩; have H2 := H1.pass hb2; clear H1
  refine ⟨_, rfl, ?_⟩
  refine kW_i64 (by omega) ?_
  exact ⟨rfl, H2.below⟩
section
variable {A0 : Nat → Prop} {M : List Nat} {w0 w : World} {R : List Res} {P : World → Prop}
theorem insertP_ct (H : St A0 M w0 w R P) {i j g : Nat} {a : Option Addr} {c k : Nat} {l : List PP} {x : PP} {t0 : TypeId} (hi : R[i]? = some (.els encPP Ty_api_Partial 5 a c l)) (hj : R[j]? = some (.blk g t0 (encPP x))) (hk : k ≤ l.length) (hl : l.length ≤ 1000000)
    {F : Ending → World → Prop} (h : ∀ a' c' w', St A0 M w0 w' (R.set i (.els encPP Ty_api_Partial 5 a' c' (l.take k ++ x :: l.drop k))) P → F (.returned (.slice a' (l.length + 1) c')) w') :
    Calls Tryz.prog N_slices_Insert_Sapi_Partial_api_Partial #[.slice a l.length c, .int .i64 k, .slice (some ⟨g, 0, none⟩) 1 1] w F := by
  have hij : i ≠ j := by rintro rfl; rw [hi] at hj; cases hj
  have hut : Tryz.prog.underlying Ty_S_api_Partial = some (.slice Ty_api_Partial) := sl_Ty_S_api_Partial.ht
  have hsz : (Tryz.prog.info? Ty_api_Partial).map (·.size) = some 5 := by
    obtain ⟨inf, hinf, _, h2, _⟩ := sl_Ty_S_api_Partial.info
    rw [hinf]; simp [h2]
  have hxs : SlR (CE encPP) 5 w (some ⟨g, 0, none⟩) [x] := H.slBlk encPP_ok [x] (i := j) (by simpa using hj)
  have hxc : ∀ {w1 : World} {R1 : List Res}, St A0 M w0 w1 R1 P → R1[j]? = some (.blk g t0 (encPP x)) → ∀ j v, (encPP x)[j]? = some v → w1.cell? ((⟨g, 0, none⟩ : Addr).add j) = some v := fun H1 h1 q v hv => by
    rw [add_mk, Nat.zero_add]; exact H1.cell h1 hv
  have hone : ∀ v ∈ encPP x, v.oneCell' = true := fun v hv => List.all_eq_true.1 (encPP_ok.one x) v hv
  have hsp : l.flatMap encPP = (l.take k).flatMap encPP ++ (l.drop k).flatMap encPP := by rw [← List.flatMap_append, List.take_append_drop]
  have hl1 : ((l.take k).flatMap encPP).length = k * 5 := by rw [flat_len encPP_ok, List.length_take, Nat.min_eq_left hk]
  have hl2 : ((l.drop k).flatMap encPP).length = (l.length - k) * 5 := by rw [flat_len encPP_ok, List.length_drop]
  have hone2 : ∀ v ∈ (l.drop k).flatMap encPP, v.oneCell' = true := flat_one encPP_ok

  have fin : ∀ {w1 : World} {R1 : List Res} {g' c' : Nat} {Z : List Value}, St A0 M w0 w1 R1 P → R1[i]? = some (.blk g' Ty_api_Partial ((l.take k).flatMap encPP ++ encPP x ++ (l.drop k).flatMap encPP ++ Z)) → R1.set i (.els encPP Ty_api_Partial 5 (some ⟨g', 0, none⟩) c' (l.take k ++ x :: l.drop k)) = R.set i (.els encPP Ty_api_Partial 5 (some ⟨g', 0, none⟩) c' (l.take k ++ x :: l.drop k)) →
      l.length + 1 ≤ c' → c' ≤ maxLen → (l.length + 1) * 5 + Z.length = c' * 5 → St A0 M w0 w1 (R.set i (.els encPP Ty_api_Partial 5 (some ⟨g', 0, none⟩) c' (l.take k ++ x :: l.drop k))) P := fun {w1 R1 g' c' Z} H1 h1 hR hn hc hZ => by
    have e : (l.take k).flatMap encPP ++ encPP x ++ (l.drop k).flatMap encPP = (l.take k ++ x :: l.drop k).flatMap encPP := by simp
    have el : (l.take k ++ x :: l.drop k).length = l.length + 1 := by simp; omega
    rw [e] at h1
    have := H1.blkRow h1 5 (l.length + 1) c' (by rw [List.length_append, flat_len encPP_ok, el]; exact hZ) hn hc
    have e2 : ((l.take k ++ x :: l.drop k).flatMap encPP ++ Z).take ((l.length + 1) * 5) = (l.take k ++ x :: l.drop k).flatMap encPP := by
      rw [← el, ← flat_len encPP_ok]; exact List.take_left
    rw [e2, ← el] at this
    rw [← hR]; exact this
  apply F_slices_Insert_Sapi_Partial_api_Partial_ok
  unfold F_slices_Insert_Sapi_Partial_api_Partial
  refine ⟨⟨by omega, by omega⟩, ?_⟩
  refine bsplit_dec (fun c1 => by simp at c1) (fun _ => ?_)
  refine bsplit_dec (fun c1 => ?_) (fun c1 => ?_)
  · obtain rfl : k = l.length := by omega
    refine H.appE encPP_ok hi sl_Ty_S_api_Partial (zs := [x]) hxs (by simp; omega) (by simp; omega) ?_; intro a' c' w' H'
    have := h a' c' w' (by simpa using H')
    simpa using this
  have hlt : k < l.length := by omega
  obtain ⟨g0, rfl, hat, hnc⟩ := H.rowSome hi (by omega)
  have hne : g ≠ g0 := H.ne hj hi (Ne.symm hij) rfl hat
  refine kW_i64 (by omega) ?_
  refine bsplit_dec (fun c2 => ?_) (fun c2 => ?_)
  ·
    refine ⟨⟨by omega, by omega⟩, ?_⟩
    refine kW_i64 (by omega) ?_
    refine kW_i64 (by omega) ?_
    rw [slA0, Int.toNat_natCast, Nat.sub_zero, Nat.sub_zero]
    refine H.growZ encPP_ok hi sl_Ty_S_api_Partial (k2 := .i64) (by kernel_rfl) k (l.length + 1 - k) hk (by omega) (by omega) (by omega) (by omega) (by omega) (by omega) ?_
    intro g' c' w1 Z hc' hcm hZ H1
    have hlen : k + (l.length + 1 - k) = l.length + 1 := by omega
    rw [hlen] at hc' ⊢
    refine ⟨⟨by omega, by omega⟩, ?_⟩
    rw [slA (by omega)]
    obtain ⟨Y, Z1, Z2, rfl, hY, hZ1⟩ := splits (W := Z) (n := 5) (m := (l.length - k) * 5) (by omega)
    have hjl : j < R.length := get_lt hj
    have hil : i < R.length := get_lt hi
    have jj : ∀ {r : Res}, (R ++ [r])[j]? = some (.blk g t0 (encPP x)) := by intro r; rw [List.getElem?_append_left hjl]; exact hj
    have ii : ∀ {r : Res}, (R ++ [r])[i]? = some (.els encPP Ty_api_Partial 5 (some ⟨g0, 0, none⟩) c l) := by intro r; rw [List.getElem?_append_left hil]; exact hi
    have nn : ∀ {r : Res}, (R ++ [r])[R.length]? = some r := by intro r; simp
    have st : ∀ {r s : Res}, (R ++ [r]).set R.length s = R ++ [s] := by intro r s; simp
    refine H1.copyB nn hut hsz ((l.take k).flatMap encPP) Y (Z1 ++ Z2) (encPP x) (by simp) hl1 (by rw [hY]; rfl) ?_ (hxc H1 jj) hone ?_
    · have : Nat.min 1 (l.length + 1 - k) = 1 := Nat.min_eq_left (by omega)
      rw [this]; rfl
    intro _ w2 H2
    rw [st] at H2
    refine H2.drew ?_; clear H2; intro w3 H3
    refine kW_i64 (by omega) ?_
    refine ⟨⟨by omega, by omega⟩, ⟨by omega, by omega⟩, ?_⟩
    have ek : ((k : Int) + ((1 : Nat) : Int)).toNat = k + 1 := by omega
    rw [ek, slA (by omega), slA (by omega)]
    refine H3.copyB nn hut hsz ((l.take k).flatMap encPP ++ encPP x) Z1 Z2 ((l.drop k).flatMap encPP) (by simp) (by rw [List.length_append, hl1, encPP_ok.len]; omega) (by rw [hZ1, hl2]) ?_ ?_ hone2 ?_
    · have : Nat.min (l.length - k) (l.length + 1 - (k + 1)) = l.length - k := Nat.min_eq_left (by omega)
      rw [this, hl2]
    · intro q v hv
      have := H3.cellRow (o := k * 5 + q) ii (by rw [hsp, ← hl1]; exact cat _ _ q v hv)
      rwa [add_mk]
    intro _ w4 H4
    rw [st] at H4
    have H5 := H4.lastAt (i := i) hil
    refine h _ _ _ (fin (Z := Z2) H5 (by rw [List.getElem?_set_self hil]) (by simp) (by omega) hcm ?_)
    simp only [List.length_append] at hZ
    omega
  ·
    refine kW_i64 (by omega) ?_
    refine ⟨⟨by omega, by omega⟩, ?_⟩
    refine kW_i64 (by omega) ?_
    have ek : ((k : Int) + ((1 : Nat) : Int)).toNat = k + 1 := by omega
    have en : ((l.length : Int) + ((1 : Nat) : Int)).toNat = l.length + 1 := by omega
    simp only [ek, en, slA0, Nat.sub_zero, Int.toNat_natCast]
    refine ⟨⟨by omega, by omega⟩, ?_⟩
    obtain ⟨rest, hr1, hcm, _, H1⟩ := H.rowBlk hi
    rw [flat_len encPP_ok] at hr1
    have hil : i < R.length := get_lt hi
    have jj : ∀ {r : Res}, (R.set i r)[j]? = some (.blk g t0 (encPP x)) := by intro r; rw [List.getElem?_set_ne hij]; exact hj
    have ii : ∀ {r : Res}, (R.set i r)[i]? = some r := by intro r; rw [List.getElem?_set_self hil]
    have st : ∀ {r s : Res}, (R.set i r).set i s = R.set i s := by intro r s; simp
    rw [slA (by omega)]
    refine overlaps_ext (tR := Ty_bool) (Tryz.func85) (by kernel_rfl) (by kernel_rfl) (by kernel_rfl) (by kernel_rfl) hut hsz hne (H1.ok j _ jj) (H1.ok i _ ii) (by simp; omega) ?_
    refine ⟨_, rfl, ?_⟩
    refine bsplit_intro (fun _ => ?_) (fun c => by cases c)
    refine H1.drew ?_; clear H1; intro w2 H2
    refine kW_i64 (by omega) ?_
    simp only [ek]
    refine ⟨⟨by omega, by omega⟩, ⟨by omega, by omega⟩, ?_⟩
    rw [slA (by omega), slA (by omega)]
    rw [hsp, List.append_assoc] at H2
    obtain ⟨Y, Z1, Z2, hYZ, hY, hZ1⟩ := splits (W := (l.drop k).flatMap encPP ++ rest) (n := 5) (m := (l.length - k) * 5) (by simp only [List.length_append, hl2]; omega)
    refine H2.copyB ii hut hsz ((l.take k).flatMap encPP ++ Y) Z1 Z2 ((l.drop k).flatMap encPP) (by rw [hYZ]; simp) (by rw [List.length_append, hl1, hY]; omega) (by rw [hZ1, hl2]) ?_ ?_ hone2 ?_
    · have : Nat.min (l.length + 1 - k) (l.length + 1 - (k + 1)) = l.length - k := by
        rw [show l.length + 1 - (k + 1) = l.length - k by omega]; exact Nat.min_eq_right (by omega)
      rw [this, hl2]
    · intro q v hv
      have h9 : ((l.take k).flatMap encPP ++ ((l.drop k).flatMap encPP ++ rest))[k * 5 + q]? = some v := by
        rw [← hl1]
        refine cat _ _ q v ?_
        rw [List.getElem?_append_left (get_lt hv)]; exact hv
      have := H2.cell (o := k * 5 + q) ii h9
      rwa [add_mk]
    intro _ w3 H3
    rw [st] at H3
    refine ⟨⟨by omega, by omega⟩, ?_⟩
    refine H3.copyB ii hut hsz ((l.take k).flatMap encPP) Y ((l.drop k).flatMap encPP ++ Z2) (encPP x) (by simp) hl1 (by rw [hY]; rfl) ?_ (hxc H3 jj) hone ?_
    · have : Nat.min 1 (l.length + 1 - k) = 1 := Nat.min_eq_left (by omega)
      rw [this]; rfl
    intro _ w4 H4
    rw [st] at H4
    refine h _ _ _ (fin (Z := Z2) H4 (by rw [List.getElem?_set_self hil]; simp) (by simp) (by omega) hcm ?_)
    have := congrArg List.length hYZ
    simp only [List.length_append, hl2, hY, hZ1] at this
    omega
end
end Go.Proofs.YthceaojjeokclaaGreat
namespace Go.Sx
open Go.RowKit
section
variable {A0 : Nat → Prop} {M : List Nat} {w0 w : World} {R Y T : List Res} {r q s : Res} {P : World → Prop} {k : Nat}
theorem at_mid : (Y ++ r :: T)[Y.length]? = some r := by simp
theorem set_mid : (Y ++ r :: T).set Y.length s = Y ++ s :: T := by simp
theorem at_in (h : T[k]? = some q) : (Y ++ r :: T)[Y.length + 1 + k]? = some q := by
  rw [List.getElem?_append_right (by omega), show Y.length + 1 + k - Y.length = k + 1 by omega]; simpa using h
theorem set_in : (Y ++ r :: T).set (Y.length + 1 + k) s = Y ++ r :: T.set k s := by
  rw [List.set_append_right _ _ (by omega), show Y.length + 1 + k - Y.length = k + 1 by omega]; rfl
theorem St.copyI {Pr : Program} {i g c : Nat} {e : TypeId} {ki : IntKind} {ys zs : List Int} (H : St A0 M w0 w R P) (hi : R[i]? = some (.ints e ki (some ⟨g, 0, none⟩) c ys)) {dT sT ty elem : TypeId} (hu : Pr.underlying dT = some (.slice elem)) (hs : (Pr.info? elem).map (·.size) = some 1)
    {o dLen dCap sLen sCap : Nat} {p : Option Addr} (hz : SlR (IntC ki) 1 w p zs) (h0 : 0 < zs.length) (ho : o + zs.length ≤ ys.length) (hn : zs.length = Nat.min sLen dLen) {F : Int → World → Prop}
    (h : ∀ n w', St A0 M w0 w' (R.set i (.ints e ki (some ⟨g, 0, none⟩) c (ys.take o ++ zs ++ ys.drop (o + zs.length)))) P → F n w') : CopyP Pr #[dT, sT] ty #[.slice (some ⟨g, o, none⟩) dLen dCap, .slice p sLen sCap] w F := by
  obtain ⟨rest, hr1, hcm, hnc, H1⟩ := H.rowBlk hi
  have hil : i < R.length := get_lt hi
  cases p with
  | none =>
    rcases hz with h | ⟨b, hb, _⟩
    · rw [h] at h0; simp at h0
    · cases hb
  | some p =>
    have hl : ys = ys.take o ++ ((ys.drop o).take zs.length ++ ys.drop (o + zs.length)) := by
      rw [← List.drop_drop, List.take_append_drop, List.take_append_drop]
    refine H1.copyB (i := i) (by rw [List.getElem?_set_self hil]) hu hs ((ys.take o).map (Value.int ki)) (((ys.drop o).take zs.length).map (Value.int ki)) ((ys.drop (o + zs.length)).map (Value.int ki) ++ rest) (zs.map (Value.int ki)) ?_ (by simp; omega) (by simp; omega) (by simp only [List.length_map, Nat.mul_one]; exact hn) (slr_ints hz) (fun v hv => ?_) ?_
    · rw [← List.append_assoc, ← List.map_append, ← List.map_append, List.append_assoc, ← hl]
    · simp only [List.mem_map] at hv; obtain ⟨x, _, rfl⟩ := hv; rfl
    intro n w2 H2
    rw [List.set_set] at H2
    have e1 : (ys.take o).map (Value.int ki) ++ zs.map (Value.int ki) ++ ((ys.drop (o + zs.length)).map (Value.int ki) ++ rest) = (ys.take o ++ zs ++ ys.drop (o + zs.length)).map (Value.int ki) ++ rest := by simp
    rw [e1] at H2
    have el : (ys.take o ++ zs ++ ys.drop (o + zs.length)).length = ys.length := by simp; omega
    have hyl : (ys.map (Value.int ki)).length = ys.length := by simp
    have H3 := H2.blkRow (i := i) (by rw [List.getElem?_set_self hil]) 1 ys.length c (by rw [List.length_append, List.length_map, el]; rw [hyl] at hr1; omega) hnc hcm
    have e2 : ((ys.take o ++ zs ++ ys.drop (o + zs.length)).map (Value.int ki) ++ rest).take (ys.length * 1) = (ys.take o ++ zs ++ ys.drop (o + zs.length)).map (Value.int ki) := by
      have : ys.length * 1 = ((ys.take o ++ zs ++ ys.drop (o + zs.length)).map (Value.int ki)).length := by rw [List.length_map, el]; omega
      rw [this]; exact List.take_left
    rw [e2, List.set_set] at H3
    refine h n w2 ?_
    have e3 : Res.ints e ki (some ⟨g, 0, none⟩) c (ys.take o ++ zs ++ ys.drop (o + zs.length)) = .row e 1 (some ⟨g, 0, none⟩) ys.length c ((ys.take o ++ zs ++ ys.drop (o + zs.length)).map (Value.int ki)) := by
      simp only [Res.ints, el]
    rw [e3]; exact H3
end
end Go.Sx
namespace Go.Proofs.YthceaojjeokclaaGreat
open Go.Sx Go.RowKit
set_option maxRecDepth 100000
theorem zeroC (m : Nat) : (Builtin.zeroCells (Value.int .u8 0).cells m).toList = (List.replicate m (0 : Int)).map (Value.int .u8) := by
  apply List.ext_getElem
  · simp [Builtin.zeroCells, Value.cells]
  · intro i h1 h2
    simp [Builtin.zeroCells, Value.cells, Nat.mod_one]
section
variable {A0 : Nat → Prop} {M : List Nat} {w0 w : World} {X : List Res} {P : World → Prop} {g uc k : Nat} {L : List PP} {p : Pc} {pa : Option Addr} {pc : Nat}
theorem St.putP (H : St A0 [] w0 w (X ++ .els encPP Ty_api_Partial 5 (some ⟨g, 0, none⟩) uc L :: L.map agP) P) (hk : k < L.length) (y : PP) (hy : L[k] = y) (hp : (0 ≤ p.off ∧ p.off ≤ 2054) ∧ 1 ≤ p.data.length ∧ p.off + p.data.length ≤ 2054)
    (hd : y.p.data.length ≤ 3000) (h0 : 0 < y.p.data.length ∨ (y.p.data = [] ∧ y.a = none ∧ y.c = 0)) (hcl : y.p.come.length ≤ 3000) (hn : normB (-1) y.p.come = true) (hs : ∀ w, P w → SlR (IntC .u8) 1 w pa p.data) (hcome : ∀ w, P w → SlR (CE encR) 3 w y.a2 y.p.come) {K : Ending → World → Prop}
    (h : ∀ w' (z : PP), z.p = mergeS y.p p → z.p.data.length ≤ z.c → St A0 [] w0 w' (X ++ .els encPP Ty_api_Partial 5 (some ⟨g, 0, none⟩) uc (L.set k z) :: (L.set k z).map agP) (fun w => SlR (CE encR) 3 w z.a2 z.p.come ∧ P w) → K (.returned (.tuple #[])) w') :
    Calls Tryz.prog N_receiver_piece_put #[aggPx p pa pc, (.pointer (some ⟨g, k * 5, none⟩))] w K := by
  apply F_receiver_piece_put_ok
  unfold F_receiver_piece_put
  obtain ⟨⟨hp1, hp2⟩, hp3, hp4⟩ := hp
  have hen : p.en = p.off + p.data.length := rfl
  have hul : (L.map agP)[k]? = some (agP y) := by rw [List.getElem?_map, List.getElem?_eq_getElem hk, hy]; rfl
  refine H.alloc ?_; clear H; intro b w1 H1
  have H1 := St.lastTo (X := []) (T := X ++ .els encPP Ty_api_Partial 5 (some ⟨g, 0, none⟩) uc L :: L.map agP) H1
  obtain ⟨Y, hY⟩ : ∃ Y, Y = Res.blk b Ty_receiver_piece (encPx p pa pc) :: X := ⟨_, rfl⟩
  have hY0 : ∀ (r : Res) (T : List Res), (Y ++ r :: T)[0]? = some (.blk b Ty_receiver_piece (encPx p pa pc)) := fun r T => by rw [hY]; rfl
  replace H1 : St A0 [] w0 w1 (Y ++ .els encPP Ty_api_Partial 5 (some ⟨g, 0, none⟩) uc L :: L.map agP) P := by rw [hY]; exact H1
  refine ⟨fun w5 => ∃ (da : Option Addr) (dc : Nat), St A0 [] w0 w5 (Y ++ .els encPP Ty_api_Partial 5 (some ⟨g, 0, none⟩) uc (L.set k ⟨{ y.p with data := y.p.data ++ List.replicate (p.off.toNat + p.data.length - y.p.data.length) 0 }, da, dc, y.a2, y.c2⟩) :: (L.set k ⟨{ y.p with data := y.p.data ++ List.replicate (p.off.toNat + p.data.length - y.p.data.length) 0 }, da, dc, y.a2, y.c2⟩).map agP) P, ?_, ?_⟩
  · rintro _ w5 ⟨da, dc, H5⟩
    obtain ⟨D, hD⟩ : ∃ D, D = y.p.data ++ List.replicate (p.off.toNat + p.data.length - y.p.data.length) (0 : Int) := ⟨_, rfl⟩
    have hDl : p.off.toNat + p.data.length ≤ D.length ∧ D.length ≤ 6000 := by rw [hD, List.length_append, List.length_replicate]; omega
    rw [← hD] at H5
    obtain ⟨y1, hy1⟩ : ∃ y1 : PP, y1 = ⟨{ y.p with data := D }, da, dc, y.a2, y.c2⟩ := ⟨_, rfl⟩
    rw [← hy1] at H5
    have hk5 : k < (L.set k y1).length := by simpa using hk
    have hg5 : (L.set k y1)[k] = y1 := by simp
    have hu5 : ((L.set k y1).map agP)[k]? = some (agP y1) := by rw [List.getElem?_map, List.getElem?_eq_getElem hk5, hg5]; rfl
    refine H5.drew ?_; clear H5; intro w6 H6
    refine ⟨da, D.length, dc, H6.cellEl encPP_ok (i := Y.length) at_mid hk5 (j := 3) (by decide) (by rw [hg5, hy1]; rfl), ?_⟩
    refine H6.ld (i := 0) (hY0 _ _) rfl ?_
    refine ⟨⟨by omega, by omega⟩, ?_⟩
    refine H6.ldS (i := 0) (hY0 _ _) rfl ?_
    have hi6 : (Y ++ Res.els encPP Ty_api_Partial 5 (some ⟨g, 0, none⟩) uc (L.set k y1) :: (L.set k y1).map agP)[Y.length + 1 + k]? = some (.ints Ty_uint8 .u8 da dc D) := by
      rw [at_in hu5, hy1]; rfl
    obtain ⟨g2, rfl, _, hdc⟩ := H6.rowSome hi6 (by omega)
    rw [slA (by omega), Nat.mul_one]
    refine H6.copyI hi6 (elem := Ty_uint8) sl_Ty_S_uint8.ht (by kernel_rfl) (hs _ H6.get) (by omega) (o := p.off.toNat) (by omega) (Nat.min_eq_left (by omega)).symm ?_
    intro _ w7 H7
    rw [set_in] at H7
    obtain ⟨D2, hD2⟩ : ∃ D2, D2 = D.take p.off.toNat ++ p.data ++ D.drop (p.off.toNat + p.data.length) := ⟨_, rfl⟩
    have hlay : layD y.p.data p.off.toNat p.data = D2 := by rw [hD2, hD]; rfl
    have hD2l : D2.length = D.length := by rw [hD2]; simp; omega
    rw [← hD2] at H7
    obtain ⟨y2, hy2⟩ : ∃ y2 : PP, y2 = ⟨{ y.p with data := D2 }, some ⟨g2, 0, none⟩, dc, y.a2, y.c2⟩ := ⟨_, rfl⟩
    have e7 : ((L.set k y1).map agP).set k (.ints Ty_uint8 .u8 (some ⟨g2, 0, none⟩) dc D2) = (L.set k y2).map agP := by
      rw [List.map_set, List.map_set, List.set_set, hy2]; rfl
    have e7' : Res.els encPP Ty_api_Partial 5 (some ⟨g, 0, none⟩) uc (L.set k y1) = .els encPP Ty_api_Partial 5 (some ⟨g, 0, none⟩) uc (L.set k y2) := by
      have : (L.set k y1).flatMap encPP = (L.set k y2).flatMap encPP := by
        rw [List.flatMap_def, List.flatMap_def, List.map_set, List.map_set]
        congr 2
        rw [hy1, hy2]; show encPa _ _ _ _ _ = encPa _ _ _ _ _; simp only [encPa, hD2l]
      simp only [Res.els, List.length_set, this]
    rw [e7, e7'] at H7
    have hk7 : k < (L.set k y2).length := by simpa using hk
    have hg7 : (L.set k y2)[k] = y2 := by simp
    refine H7.drew ?_; clear H7; intro w8 H8
    refine ⟨(· < w8.heap.size), ?_⟩
    refine ⟨H8.lt (i := Y.length) at_mid rfl, ?_⟩
    refine ⟨y.a2, y.p.come.length, y.c2, H8.cellEl encPP_ok (i := Y.length) at_mid hk7 (j := 4) (by decide) (by rw [hg7, hy2]; rfl), ?_⟩
    refine H8.ld (i := 0) (hY0 _ _) rfl ?_
    refine H8.ld (i := 0) (hY0 _ _) rfl ?_
    refine H8.ld (i := 0) (hY0 _ _) rfl ?_
    refine ⟨KeepsB.refl _ _, ?_⟩
    have hU : unionR y.p.come ⟨p.sn, p.off, p.en⟩ = (unionS p.sn y.p.come p.off p.en, 0) := by
      unfold unionR
      rw [if_neg]
      rw [hn]
      simp [normB]; omega
    have C := segment_Union_ct (l := y.p.come) (l_c := y.c2) (r := ⟨p.sn, p.off, p.en⟩) (hcome _ H8.get) (by omega)
    rw [hU] at C
    dsimp only at C
    refine C.mono ?_; clear C
    rintro _ w9 ⟨ca, cc, hcc, rfl, K9⟩
    have H9 := H8.callF K9
    rw [List.append_nil] at H9
    refine ⟨_, _, _, _, rfl, ?_⟩
    obtain ⟨y3, hy3⟩ : ∃ y3 : PP, y3 = ⟨{ y.p with data := D2, come := unionS p.sn y.p.come p.off p.en }, some ⟨g2, 0, none⟩, dc, ca, cc⟩ := ⟨_, rfl⟩
    refine H9.setEl encPP_ok (i := Y.length) at_mid hk7 (j := 4) (by decide) y3 (by rw [hg7, hy2, hy3]; rfl) ?_
    intro w10 _ H10
    rw [set_mid, List.set_set] at H10
    have e10 : (L.set k y2).map agP = (L.set k y3).map agP := by rw [List.map_set, List.map_set, hy2, hy3]; rfl
    rw [e10] at H10
    have hk10 : k < (L.set k y3).length := by simpa using hk
    have hg10 : (L.set k y3)[k] = y3 := by simp
    refine H10.ldB (i := 0) (hY0 _ _) rfl ?_
    have fin : ∀ {w' : World} {z : PP} {Q : World → Prop}, St A0 [] w0 w' (Y ++ .els encPP Ty_api_Partial 5 (some ⟨g, 0, none⟩) uc (L.set k z) :: (L.set k z).map agP) Q → St A0 [] w0 w' (X ++ .els encPP Ty_api_Partial 5 (some ⟨g, 0, none⟩) uc (L.set k z) :: (L.set k z).map agP) Q := fun {w' z Q} H => by
      rw [hY] at H
      exact St.skip (X := []) H
    refine bsplit_intro (fun c1 => ?_) (fun c1 => ?_)
    · refine H10.ld (i := 0) (hY0 _ _) rfl ?_
      obtain ⟨y4, hy4⟩ : ∃ y4 : PP, y4 = ⟨{ y.p with data := D2, come := unionS p.sn y.p.come p.off p.en, len := p.en }, some ⟨g2, 0, none⟩, dc, ca, cc⟩ := ⟨_, rfl⟩
      refine H10.setEl encPP_ok (i := Y.length) at_mid hk10 (j := 2) (by decide) y4 (by rw [hg10, hy3, hy4]; rfl) ?_
      intro w11 _ H11
      rw [set_mid, List.set_set] at H11
      have e11 : (L.set k y3).map agP = (L.set k y4).map agP := by rw [List.map_set, List.map_set, hy3, hy4]; rfl
      rw [e11] at H11
      refine h w11 y4 (by rw [hy4, mergeS, if_pos c1, hlay]) (by rw [hy4]; show D2.length ≤ dc; omega) ((fin H11).imp fun _ h => ⟨?_, h.2⟩)
      rw [hy4]; exact h.1
    · refine h w10 y3 (by rw [hy3, mergeS, if_neg (by rw [c1]; decide), hlay]) (by rw [hy3]; show D2.length ≤ dc; omega) ((fin H10).imp fun _ h => ⟨?_, h.2⟩)
      rw [hy3]; exact h.1
  · refine H1.drew ?_; clear H1; intro w2 H2
    have hi2 : (Y ++ Res.els encPP Ty_api_Partial 5 (some ⟨g, 0, none⟩) uc L :: L.map agP)[Y.length + 1 + k]? = some (.ints Ty_uint8 .u8 y.a y.c y.p.data) := by
      rw [at_in hul]; rfl
    have c3 := H2.cellEl encPP_ok (i := Y.length) at_mid hk (j := 3) (v := .slice y.a y.p.data.length y.c) (by decide) (by rw [hy]; rfl)
    refine H2.ld (i := 0) (hY0 _ _) rfl ?_
    refine ⟨_, _, _, c3, ?_⟩
    refine kW_i64 (by omega) ?_
    refine bsplit_dec (fun c0 => ?_) (fun c0 => ?_)
    · refine ⟨_, _, _, c3, ?_⟩
      obtain ⟨m, hm⟩ : ∃ m, m = p.off.toNat + p.data.length - y.p.data.length := ⟨_, rfl⟩
      have hxm : p.en - (y.p.data.length : Int) = (m : Nat) := by omega
      have step : ∀ (da : Option Addr) (dc : Nat) (w3 : World), St A0 [] w0 w3 (Y ++ .els encPP Ty_api_Partial 5 (some ⟨g, 0, none⟩) uc L :: (L.map agP).set k (.ints Ty_uint8 .u8 da dc (y.p.data ++ List.replicate m 0))) P →
          kSet w3 ⟨g, k * 5 + 3, none⟩ (.slice da (y.p.data ++ List.replicate m (0 : Int)).length dc) fun w4 => ∃ (da : Option Addr) (dc : Nat), St A0 [] w0 w4 (Y ++ .els encPP Ty_api_Partial 5 (some ⟨g, 0, none⟩) uc (L.set k ⟨{ y.p with data := y.p.data ++ List.replicate (p.off.toNat + p.data.length - y.p.data.length) 0 }, da, dc, y.a2, y.c2⟩) :: (L.set k ⟨{ y.p with data := y.p.data ++ List.replicate (p.off.toNat + p.data.length - y.p.data.length) 0 }, da, dc, y.a2, y.c2⟩).map agP) P := fun da dc w3 H3 => by
        refine H3.setEl encPP_ok (i := Y.length) at_mid hk (j := 3) (by decide) ⟨{ y.p with data := y.p.data ++ List.replicate m 0 }, da, dc, y.a2, y.c2⟩ (by rw [hy]; rfl) ?_
        intro w4 _ H4
        rw [set_mid] at H4
        refine ⟨da, dc, ?_⟩
        rw [← hm]
        have e4 : (L.set k ⟨{ y.p with data := y.p.data ++ List.replicate m 0 }, da, dc, y.a2, y.c2⟩).map agP = (L.map agP).set k (.ints Ty_uint8 .u8 da dc (y.p.data ++ List.replicate m 0)) := by rw [List.map_set]; rfl
        rw [e4]; exact H4
      rcases h0 with h0 | ⟨h1, h2, h3⟩
      · refine H2.appZ hi2 sl_Ty_S_uint8 (k2 := .i64) (by kernel_rfl) h0 m hxm (by omega) (by omega) ?_
        intro da dc w3 H3
        rw [set_in] at H3
        exact step da dc w3 H3
      · rw [h2, h3, h1, List.length_nil]
        rw [h1, List.length_nil] at hxm
        refine H2.appZ0 (e := Ty_uint8) (z := .int .u8 0) sl_Ty_S_uint8 (k2 := .i64) (by kernel_rfl) m (by simpa using hxm) (by omega) (by omega) (by omega) ?_
        intro da dc w3 H3
        rw [zeroC] at H3
        have H3 := H3.lastAt (i := Y.length + 1 + k) (by simp; omega)
        rw [set_in] at H3
        have := step da dc w3 (by
          rw [h1, List.nil_append]
          have e : Res.ints Ty_uint8 .u8 da dc (List.replicate m (0 : Int)) = .row Ty_uint8 1 da m dc ((List.replicate m (0 : Int)).map (Value.int .u8)) := by simp only [Res.ints, List.length_replicate]
          rw [e]; exact H3)
        rw [h1, List.nil_append, List.length_replicate] at this
        exact this
    · refine ⟨y.a, y.c, ?_⟩
      have e : p.off.toNat + p.data.length - y.p.data.length = 0 := by omega
      have e2 : L.set k ⟨{ y.p with data := y.p.data ++ List.replicate (p.off.toNat + p.data.length - y.p.data.length) 0 }, y.a, y.c, y.a2, y.c2⟩ = L := by
        rw [e, List.replicate_zero, List.append_nil]
        exact list_set_self (by rw [List.getElem?_eq_getElem hk, hy])
      rw [e2]; exact H2
end
end Go.Proofs.YthceaojjeokclaaGreat
namespace Go.Proofs.YthceaojjeokclaaGreat
open Go.Sx Go.RowKit
set_option maxRecDepth 100000
section
variable {s : Rc} {a : Option Addr} {c g : Nat} {A : Nat → Prop} {w : World} {P : World → Prop}
theorem receiver_side_advance_ct (hb : bitsOk s.lk.bits) (hf : 0 ≤ s.first ∧ s.first ≤ 1000000) (hcap : s.parts.length ≤ c) (hp : ∀ w, P w → PaR w a s.parts) (hP : Held A w P) (hB : (rcBlk g s a c).ok w) (hn : ∀ b, (rcBlk g s a c).at = some b → ¬ A b) :
    Calls Tryz.prog N_receiver_side_advance #[(.pointer (some ⟨g, 0, none⟩))] w fun e w' => ∃ a' c', e = .returned (.tuple #[]) ∧ (∀ w, P w → PaR w a' (advS s).parts) ∧ St A [g] w w' [rcBlk g (advS s) a' c'] P := by
  apply F_receiver_side_advance_ok
  unfold F_receiver_side_advance
  have H : St A [g] w w [rcBlk g s a c] P := St.startM hP hB hn
  obtain ⟨v, hv⟩ : ∃ v : Rc, v = adv1 s := ⟨_, rfl⟩
  have e0 : advS s = adv2 v := by rw [hv]; rfl
  have hvk : v.lk = s.lk := by rw [hv]; rfl
  rw [e0]
  unfold adv2
  refine ⟨fun w7 => ∃ a' c', (∀ w, P w → PaR w a' v.parts) ∧ St A [g] w w7 [rcBlk g v a' c'] P, ?_, ?_⟩
  · rintro _ w7 ⟨a', c', hp', H7⟩
    have hb' : bitsOk v.lk.bits := by rw [hvk]; exact hb
    refine H7.drew ?_; clear H7; intro w8 H8
    refine ⟨(· < w8.heap.size), ?_⟩
    refine H8.ld (i := 0) rfl rfl ?_
    refine ⟨H8.lt (i := 0) rfl rfl, ?_⟩
    refine H8.ld (i := 0) rfl rfl ?_
    refine (receiver_side_place_ct (H8.cells (i := 0) rfl) hb').mono ?_
    rintro _ w9 ⟨rfl, hb9⟩; have H9 := H8.pass hb9
    refine ⟨_, rfl, ?_⟩
    refine ⟨hb9.keeps, ?_⟩
    refine (receiver_side_place_ct (H9.cells (i := 0) rfl) hb').mono ?_
    rintro _ w10 ⟨rfl, hb10⟩; have H10 := H9.pass hb10
    refine ⟨_, rfl, ?_⟩
    replace hb10 := below_step hb9 (Nat.le_refl _) hb10
    refine ⟨hb10.keeps, ?_⟩
    refine bsplit_dec (fun c3 => ?_) (fun c3 => ?_)
    · refine H10.ld (i := 0) rfl rfl ?_
      refine H10.set (i := 0) rfl (by show 8 < 14; decide) ?_; clear H10; intro w11 H11
      exact ⟨a', c', rfl, by rw [if_pos c3]; exact hp', by rw [if_pos c3]; exact H11⟩
    · exact ⟨a', c', rfl, by rw [if_neg c3]; exact hp', by rw [if_neg c3]; exact H10⟩
  · refine ⟨fun m w1 => ∃ (t : Rc) (ta : Option Addr) (tc : Nat), m = t.parts.length ∧ t = { s with first := t.first, parts := t.parts } ∧ dropS s.lk.bits t.first t.parts = dropS s.lk.bits s.first s.parts ∧ (0 ≤ t.first ∧ t.first ≤ 1000000) ∧ t.parts.length ≤ tc ∧ (∀ w, P w → PaR w ta t.parts) ∧ St A [g] w w1 [rcBlk g t ta tc] P,
      ⟨_, s, a, c, rfl, rfl, rfl, hf, hcap, hp, H⟩, ?_⟩
    clear H
    rintro _ m w1 ⟨t, ta, tc, rfl, ht, hd, hft, htc, hpt, H1⟩
    have hbt : bitsOk t.lk.bits := by rw [ht]; exact hb
    have hex : (∀ p l, t.parts = p :: l → p.sn = t.first → p.done = true → False) → ∀ w3, St A [g] w w3 [rcBlk g t ta tc] P → ∃ a' c', (∀ w, P w → PaR w a' v.parts) ∧ St A [g] w w3 [rcBlk g v a' c'] P := fun hno w3 H3 => by
      have e : v = t := by
        rw [hv, ht]
        unfold adv1
        rw [← hd]
        have : dropS s.lk.bits t.first t.parts = (t.first, t.parts) := by
          cases hl : t.parts with
          | nil => rfl
          | cons p l => rw [dropS, if_neg (fun h => hno p l hl h.1 h.2)]
        rw [this]
      rw [e]
      exact ⟨ta, tc, hpt, H3⟩
    refine ⟨fun w3 => (∃ p l, t.parts = p :: l ∧ p.sn = t.first ∧ p.done = true) ∧ St A [g] w w3 [rcBlk g t ta tc] P, ?_, ?_⟩
    · rintro _ w3 ⟨⟨p, l, hl, hps, hpd⟩, H3⟩
      have hll : t.parts.length = l.length + 1 := by rw [hl]; rfl
      refine H3.ldS (i := 0) rfl rfl ?_
      refine ⟨⟨by omega, by omega⟩, ?_⟩
      refine H3.set (i := 0) rfl (by show 13 < 14; decide) ?_; clear H3; intro w4 H4
      replace H4 : St A [g] w w4 [rcBlk g { t with parts := l } (slAddr tc (1 : Int).toNat 5 ta) (tc - (1 : Int).toNat)] P := by
        have : l.length = t.parts.length - (1 : Int).toNat := by rw [hll]; rfl
        show St A [g] w w4 [.blk g Ty_receiver_side (encRc { t with parts := l } _ _)] P
        unfold encRc
        rw [show ({ t with parts := l } : Rc).parts.length = t.parts.length - (1 : Int).toNat from this]
        exact H4
      refine H4.ld (i := 0) rfl rfl ?_
      refine (receiver_side_behind_ct (s := { t with parts := l }) (n := t.first) (H4.cells (i := 0) rfl) hbt ⟨by omega, by omega⟩).mono ?_
      rintro _ w5 ⟨rfl, hb5⟩; have H5 := H4.pass hb5; clear H4
      refine ⟨_, rfl, ?_⟩
      refine H5.set (i := 0) rfl (by show 6 < 14; decide) ?_; clear H5; intro w6 H6
      have hpw := pow_bits hbt
      refine ⟨_, ?_, { t with parts := l, first := t.behind t.first }, _, _, rfl, ?_, ?_, ?_, ?_, ?_, H6⟩
      · rw [hll]; show l.length < l.length + 1; omega
      · rw [ht]
      · rw [← hd, hl, dropS, if_pos ⟨hps, hpd⟩]
        show dropS s.lk.bits (t.behind t.first) l = _
        rw [Rc.behind, show t.lk = s.lk by rw [ht]]
      · show 0 ≤ t.behind t.first ∧ t.behind t.first ≤ 1000000
        unfold Rc.behind
        have h1 := Int.emod_nonneg (t.first + 1) (b := 2 ^ t.lk.bits.toNat) (by omega)
        have h2 := Int.emod_lt_of_pos (t.first + 1) (b := 2 ^ t.lk.bits.toNat) (by omega)
        omega
      · show l.length ≤ tc - 1
        omega
      · intro w9 h9
        have h3 := hpt w9 h9
        have h4 := h3.tailE (m := tc) (l := 1) htc
        rw [hl] at h4
        exact h4
    · refine H1.drew ?_; clear H1; intro w2 H2
      refine H2.ldS (i := 0) rfl rfl ?_
      refine bsplit_dec (fun c2 => ?_) (fun c2 => ?_)
      · refine H2.ldS (i := 0) rfl rfl ?_
        have hlt : 0 < t.parts.length := by omega
        refine ixPa (hpt _ H2.get) 0 rfl hlt fun b hbb => ?_
        obtain ⟨p, l, hl⟩ : ∃ p l, t.parts = p :: l := by
          cases h : t.parts with
          | nil => rw [h] at hlt; simp at hlt
          | cons p l => exact ⟨p, l, rfl⟩
        have hp0 : t.parts[0] = p := by simp [hl]
        rw [hp0] at hbb
        obtain ⟨a1, c1', a2, c2', hbb, _, _, _⟩ := hbb
        refine ⟨_, by have := cellsAt_get hbb 0 _ rfl; rwa [Nat.zero_add, add_zero] at this, ?_⟩
        refine H2.ld (i := 0) rfl rfl ?_
        refine bsplit_dec (fun c1 => ?_) (fun c1 => ?_)
        · refine H2.ldS (i := 0) rfl rfl ?_
          refine ixPa (hpt _ H2.get) 0 rfl hlt fun b1 hb1 => ?_
          rw [hp0] at hb1
          obtain ⟨a3, c3', a4, c4', hb1, _, _, _⟩ := hb1
          refine ⟨_, by have := cellsAt_get hb1 1 _ rfl; rwa [Nat.zero_add] at this, ?_⟩
          refine bsplit_intro (fun c => ?_) (fun c => ?_)
          · exact ⟨⟨p, l, hl, c1, c⟩, H2⟩
          · exact hex (fun p' l' h1 h2 h3 => by rw [hl] at h1; injection h1 with h1 _; subst h1; rw [h3] at c; cases c) _ H2
        · exact hex (fun p' l' h1 h2 h3 => by rw [hl] at h1; injection h1 with h1 _; subst h1; exact c1 h2) _ H2
      · exact hex (fun p' l' h1 h2 h3 => by rw [h1] at c2; simp at c2) _ H2
theorem St.advR {A0 : Nat → Prop} {M : List Nat} {w0 w : World} {R : List Res} {P : World → Prop} {g i : Nat} (H : St A0 M w0 w R P) (hi : R[i]? = some (rcBlk g s a c)) (hb : bitsOk s.lk.bits) (hf : 0 ≤ s.first ∧ s.first ≤ 1000000) (hcap : s.parts.length ≤ c) (hp : ∀ w, P w → PaR w a s.parts) {K : Ending → World → Prop}
    (h : ∀ a' c' w', (∀ w, P w → PaR w a' (advS s).parts) → St A0 M w0 w' (R.set i (rcBlk g (advS s) a' c')) P → K (.returned (.tuple #[])) w') : Calls Tryz.prog N_receiver_side_advance #[(.pointer (some ⟨g, 0, none⟩))] w K := by
  obtain ⟨A, hA, hn', hr, hc⟩ := H.callM hi
  refine (receiver_side_advance_ct hb hf hcap hp hA hr hn').mono ?_
  rintro _ w2 ⟨a', c', rfl, hp', S⟩
  have := hc S
  rw [List.append_nil] at this
  exact h a' c' w2 hp' (this.imp fun _ h => h.2)
end
end Go.Proofs.YthceaojjeokclaaGreat
namespace Go.Sx
theorem decP_good {b : Int} {bs : List Int} (h : (decP b bs).2 = 0) : (decP b bs).1.ok b := by
  unfold decP at h ⊢
  by_cases h1 : ¬ bitsOk b
  · rw [if_pos h1] at h; cases h
  rw [if_neg h1] at h ⊢
  by_cases h2 : bs.length < 2
  · rw [if_pos h2] at h; cases h
  rw [if_neg h2] at h ⊢
  by_cases h3 : bs.length ≤ headN (rawP bs).part
  · rw [if_pos h3] at h; cases h
  rw [if_neg h3] at h ⊢
  by_cases h4 : bs.getD 0 0 < 128 ∨ ¬ (rawP bs).ok b
  · rw [if_pos h4] at h; cases h
  rw [if_neg h4]
  exact Classical.byContradiction fun h5 => h4 (.inr h5)
theorem fnd_eq {s : Rc} {n : Int} (hb : bitsOk s.lk.bits) (hn : snOk s.lk.bits n) (hall : ∀ x ∈ s.parts, snOk s.lk.bits x.sn) : fndB (fun x => s.place x.sn) (s.place n) s.parts[atP s n]? = foundB s n := by
  unfold foundB
  cases h : s.parts[atP s n]? with
  | none => rfl
  | some x =>
    have hx := hall x (List.mem_of_getElem? h)
    show decide _ = decide _
    rw [decide_eq_decide]
    exact ⟨fun e => place_inj hb hx hn e, fun e => by show s.place x.sn = _; rw [e]⟩
theorem found_at {s : Rc} {n : Int} (h : foundB s n = true) : ∃ hk : atP s n < s.parts.length, s.parts[atP s n].sn = n := by
  unfold foundB at h
  split at h
  · rename_i x hx
    obtain ⟨hk, e⟩ := List.getElem?_eq_some_iff.1 hx
    exact ⟨hk, by rw [e]; exact of_decide_eq_true h⟩
  · cases h
theorem end_pos {l : List Rg} (h : normB (-1) l = true) (hl : l ≠ []) : 0 < endT l := by
  obtain ⟨_, h2⟩ := norm_end (q := 0) h
  obtain ⟨x, hx, e⟩ := h2 hl
  have := norm_lt l _ h x hx
  unfold endT; omega
theorem pollR_parts (s : Rc) (p : Pc) : (pollR s p).parts = s.parts := by unfold pollR; split <;> rfl
theorem advS_lk (s : Rc) : (advS s).lk = s.lk := by unfold advS adv2; split <;> rfl
end Go.Sx
namespace Go.Proofs.YthceaojjeokclaaGreat
open Go.Sx Go.RowKit
set_option maxRecDepth 100000
theorem not_done {s : Rc} {p : Pc} (h : foundB s p.sn = true) (hr : refusedS s p = 0) : ∀ x, s.parts[atP s p.sn]? = some x → x.done = false := by
  intro x hx
  rw [refX_eq, if_pos h, hx] at hr
  unfold refX at hr
  cases hd : x.done with
  | false => rfl
  | true =>
    split at hr
    · cases hr
    · simp [hd] at hr
def RetRU (w : World) (x : Rc) (u : List Int) (E : Int) (e : Ending) (w' : World) : Prop :=
  ∃ a c ba bc, e = .returned (.tuple #[aggRc x a c, .slice ba u.length bc, .int .i64 E]) ∧ u.length ≤ bc ∧ Fresh w w' fun w => PaR w a x.parts ∧ SlR (IntC .u8) 1 w ba u
def Soft (w : World) (a : Option Addr) : Prop := ∀ b q : Addr, a = some b → q.block = b.block → w.frozen? q = false
theorem Soft.none_ (w : World) : Soft w none := fun _ _ h => by cases h
theorem Soft.tail {w : World} {a : Option Addr} (h : Soft w a) (m l sz : Nat) : Soft w (slAddr m l sz a) := by
  intro b q hb hq
  unfold slAddr at hb
  split at hb
  · exact h b q hb hq
  · cases ha : a with
    | none => rw [ha] at hb; cases hb
    | some x =>
      rw [ha] at hb
      have e : x.add (l * sz) = b := Option.some.inj hb
      exact h x q ha (by rw [hq, ← e]; exact add_block _ _)
theorem soft_own {w : World} {base : Nat} {e : TypeId} {sz n c : Nat} {a : Option Addr} {xs : List Value} (h : Own w base e sz a n c xs) : Soft w a := by
  intro b q hb hq
  subst hb
  rcases h.2 with ⟨h', _⟩ | ⟨g, _, _, h', _⟩
  · cases h'
  · injection h' with h1 _ _
    injection h1 with h1
    subst h1
    have e : w.frozen? q = w.frozen? ⟨g, q.off, none⟩ := by unfold World.frozen?; rw [hq]
    rw [e]
    exact World.ownsRow.frozenAt h _
abbrev PaS (w : World) (a : Option Addr) (L : List Pa) : Prop := PaR w a L ∧ Soft w a
theorem readFS {A0 : Nat → Prop} {w0 w : World} {X : List Res} {P : World → Prop} {L : List PP} {ua : Option Addr} {uc : Nat} (H : St A0 [] w0 w (X ++ .els encPP Ty_api_Partial 5 ua uc L :: L.map agP) P) (hc : ∀ w, P w → CoR L w) : St A0 [] w0 w X fun w => PaS w ua (L.map (·.p)) ∧ P w := by
  have H' : St A0 [] w0 w ((X ++ [.els encPP Ty_api_Partial 5 ua uc L]) ++ L.map agP) P := by simpa using H
  have K := (shareDa H').share (i := X.length) (r := .els encPP Ty_api_Partial 5 ua uc L) (by simp)
  rw [List.set_append_right _ _ (Nat.le_refl _)] at K
  exact K.left.imp fun w h => ⟨⟨up_paR (els_sl encPP_ok h.1) h.2.1 (hc w h.2.2), soft_own h.1⟩, h.2.2⟩
theorem readF {A0 : Nat → Prop} {w0 w : World} {X : List Res} {P : World → Prop} {L : List PP} {ua : Option Addr} {uc : Nat} (H : St A0 [] w0 w (X ++ .els encPP Ty_api_Partial 5 ua uc L :: L.map agP) P) (hc : ∀ w, P w → CoR L w) : St A0 [] w0 w X fun w => PaR w ua (L.map (·.p)) ∧ P w :=
  (readFS H hc).imp fun _ h => ⟨h.1.1, h.2⟩
theorem swapDa {A0 : Nat → Prop} {w0 w : World} {X : List Res} {r : Res} {P : World → Prop} {L : List PP} {k : Nat} (H : St A0 [] w0 w (X ++ r :: L.map agP) P) (hk : k < L.length) (z : PP) (hz : agP z = .ints Ty_uint8 .u8 none 0 []) :
    St A0 [] w0 w (X ++ r :: (L.set k z).map agP) fun w => (agP L[k]).ok w ∧ P w := by
  have hu : (L.map agP)[k]? = some (agP L[k]) := by rw [List.getElem?_map, List.getElem?_eq_getElem hk]; rfl
  have K := H.share (at_in hu)
  rw [set_in] at K
  have K := K.nilI Ty_uint8 .u8
  have e : X ++ r :: (L.map agP).set k .gone ++ [Res.ints Ty_uint8 .u8 none 0 []] = (X ++ [r]) ++ (L.map agP).set k .gone ++ [agP z] := by rw [hz]; simp
  rw [e] at K
  have K := St.swapLast k K
  rw [List.set_set, ← List.map_set] at K
  have e2 : X ++ r :: (L.set k z).map agP = (X ++ [r]) ++ (L.set k z).map agP := by simp
  rw [e2]; exact K
theorem insDa {A0 : Nat → Prop} {w0 w : World} {X : List Res} {r : Res} {P : World → Prop} {L : List PP} {k : Nat} (H : St A0 [] w0 w (X ++ r :: L.map agP) P) (z : PP) (hz : agP z = .ints Ty_uint8 .u8 none 0 []) :
    St A0 [] w0 w (X ++ r :: (L.take k ++ z :: L.drop k).map agP) P := by
  have K := H.nilI Ty_uint8 .u8
  have e : X ++ r :: L.map agP ++ [Res.ints Ty_uint8 .u8 none 0 []] = (X ++ [r]) ++ L.map agP ++ [agP z] := by rw [hz]; simp
  rw [e] at K
  have K := St.lastTo K
  have e2 : L.map agP = (L.take k).map agP ++ (L.drop k).map agP := by rw [← List.map_append, List.take_append_drop]
  rw [e2] at K
  have K := St.newIn K
  have e3 : X ++ r :: (L.take k ++ z :: L.drop k).map agP = X ++ [r] ++ ((L.take k).map agP ++ agP z :: (L.drop k).map agP) := by simp
  rw [e3]; exact K
def Ready (L : List PP) (k : Nat) : Prop := ∃ hk : k < L.length, L[k].p.data.length ≤ 3000 ∧ (0 < L[k].p.data.length ∨ (L[k].p.data = [] ∧ L[k].a = none ∧ L[k].c = 0)) ∧ L[k].p.come.length ≤ 3000 ∧ normB (-1) L[k].p.come = true
abbrev rowsR (b b1 g b2 b3 pb : Nat) (s : Rc) (a : Option Addr) (c : Nat) (t : Rc) (ua : Option Addr) (uc : Nat) (p : Pc) (pa : Option Addr) (pc : Nat) (L : List PP) : List Res :=
  .blk b Ty_api_Receiver (encRc s a c) :: .blk b1 Ty_api_Receiver (encRc .zero none 0) :: rcBlk g t ua uc :: .blk b2 Ty_P_receiver_side [.pointer (some ⟨g, 0, none⟩)] :: .blk b3 Ty_api_Piece [.int .i64 p.sn, .int .i64 p.part, .int .i64 p.poll, .int .i64 p.off, .slice pa p.data.length pc] :: .blk pb Ty_receiver_piece (encPx p pa pc) :: .els encPP Ty_api_Partial 5 ua uc L :: L.map agP
section
variable {s : Rc} {a : Option Addr} {c : Nat} {b_a : Option Addr} {b_c : Nat} {bs : List Int} {w : World}
theorem receiver_Receive_ct (hu : PaR w a s.parts) (hl : SmP s.parts) (hs : SlR (IntC .u8) 1 w b_a bs) (hB : Bytes bs) (hlb : bs.length ≤ 140737488355328) (hcap : bs.length ≤ b_c) :
    Calls Tryz.prog N_receiver_Receive #[aggRc s a c, .slice b_a bs.length b_c] w (RetRU w (recS s bs).1 (recS s bs).2.1 (recS s bs).2.2) := by
  apply F_receiver_Receive_ok
  unfold F_receiver_Receive
  have H := St.nil w
  refine H.alloc ?_; clear H; intro b w1 H1
  refine H1.alloc ?_; clear H1; intro b1 w2 H2
  refine ⟨_, _, _, _, _, _, _, _, _, _, _, _, _, _, _, _, H2.cells (i := 0) rfl, ?_⟩
  refine (receiver_Valid_ct (paR_below hu H2.below) hl).mono ?_
  rintro _ w3 ⟨rfl, hb3⟩; have H3 := H2.pass hb3; clear H2
  refine ⟨_, rfl, ?_⟩
  refine bsplit_n (fun c5 => ?_) (fun c5 => ?_)
  · refine H3.store (i := 1) rfl (by rfl) (by rfl) ?_; clear H3; intro w4 H4
    refine ⟨_, _, _, _, _, _, _, _, _, _, _, _, _, _, _, _, H4.cells (i := 1) rfl, ?_⟩
    rw [recS, if_pos c5]
    exact ⟨none, 0, none, 0, rfl, Nat.le_refl _, H4.fin.imp fun _ _ => ⟨.nil, .nil⟩⟩
  · obtain ⟨hf, hlk, hs1, hs2, hs3, hq, hall⟩ := rc_fit c5
    have hb := hlk.1
    have hasc := rc_asc c5
    obtain ⟨q, hq⟩ : ∃ q, q = decP s.lk.bits bs := ⟨_, rfl⟩
    have e0 : recS s bs = if q.2 ≠ 0 then (s, [], q.2) else if refusedS s q.1 ≠ 0 then (pollR s q.1, [], refusedS s q.1) else (pollR (startR (advS (putP s q.1))) q.1, unitS s q.1, 0) := by
      rw [hq, recS, if_neg (by rw [c5]; decide)]
    rw [e0]
    refine ⟨_, _, _, _, _, _, _, _, _, _, _, _, _, _, _, _, H3.cells (i := 0) rfl, ?_⟩
    refine (receiver_begin_ct (paR_below hu H3.below) hf).mono ?_
    rintro _ w5 ⟨g5, ua5, uc5, L5, hL5, rfl, K5⟩; have H5 := H3.callF K5; clear H3
    try simp only [List.cons_append, List.nil_append] at H5
    have hlen5 : s.parts.length = L5.length := by rw [← hL5, List.length_map]
    refine ⟨_, rfl, ?_⟩
    refine H5.alloc ?_; clear H5; intro b2 w6 H6
    have H6 := St.lastTo (X := [_, _, _]) H6
    try simp only [List.cons_append, List.nil_append] at H6
    refine H6.set (i := 3) rfl (by decide) ?_; clear H6; intro w7 H7
    refine H7.ld (i := 0) rfl rfl ?_
    have C8 := segment_Decode_ct (bits := s.lk.bits) (b_c := b_c) (hs.below H7.below) hB hlb hcap
    rw [← hq] at C8
    refine C8.mono ?_; clear C8
    rintro _ w8 ⟨pa, pc, hpc, rfl, K8⟩; have H8 := H7.callF K8; clear H7
    rw [List.append_nil] at H8
    refine ⟨_, _, _, _, _, _, _, _, rfl, ?_⟩
    refine H8.alloc ?_; clear H8; intro b3 w9 H9
    have H9 := St.lastTo (X := [_, _, _, _]) H9
    try simp only [List.cons_append, List.nil_append] at H9
    refine H9.store (i := 4) rfl (by rfl) (by rfl) ?_; clear H9; intro w10 H10
    refine bsplit_nd (fun c4 => ?_) (fun c4 => ?_)
    · refine ⟨_, H10.cell (i := 3) rfl rfl, ?_⟩
      refine kNil_in ?_
      try rw [add_mk]
      refine ⟨_, _, _, _, _, _, _, _, _, _, _, _, _, _, _, _, H10.cells (i := 2) rfl, ?_⟩
      refine H10.store (i := 1) rfl (by rfl) (by rfl) ?_; clear H10; intro w11 H11
      refine ⟨_, _, _, _, _, _, _, _, _, _, _, _, _, _, _, _, H11.cells (i := 1) rfl, ?_⟩
      rw [if_pos c4]
      exact ⟨ua5, uc5, none, 0, rfl, Nat.le_refl _, (readF (X := [_, _, _, _, _]) H11 fun _ h => h.2.1).fin.imp fun _ h => ⟨by rw [← hL5]; exact h.1, .nil⟩⟩
    · have hq0 : q.2 = 0 := by simpa using c4
      rw [if_neg (by rw [hq0]; decide)]
      obtain ⟨pcc, hpcc⟩ : ∃ pcc, pcc = q.1 := ⟨_, rfl⟩
      have hpok : pcc.ok s.lk.bits := by rw [hpcc]; rw [hq] at hq0 ⊢; exact decP_good hq0
      obtain ⟨-, hpsn, hpart, hppoll, hpoff, hpo, hpd, hpe⟩ := hpok
      rw [← hpcc] at H10 hpc ⊢
      have hsn : snOk s.lk.bits pcc.sn := hpsn
      have hfnd := fnd_eq hb hsn fun x hx => (hall x hx).2
      obtain ⟨k, hk⟩ : ∃ k, k = atP s pcc.sn := ⟨_, rfl⟩
      have hkl : k ≤ s.parts.length := by rw [hk]; exact while_le _ _
      have hl6 : s.parts.length ≤ 600 := hf.1
      have hb0 := pow_bits hb
      refine ⟨fun pp w21 => ∃ pb, pp = (⟨pb, 0, none⟩ : Addr) ∧ St (fun _ => False) [] w w21 (rowsR b b1 g5 b2 b3 pb s a c s ua5 uc5 pcc pa pc L5) (fun w => SlR (IntC .u8) 1 w pa pcc.data ∧ CoR L5 w ∧ True), ?_, ?_⟩
      · rintro _ _ w21 ⟨pb, rfl, H21⟩
        refine H21.drew ?_; clear H21; intro w22 H22
        refine ⟨(· < w22.heap.size), ?_⟩
        refine ⟨H22.lt (i := 3) rfl rfl, ?_⟩
        refine ⟨_, H22.cell (i := 3) rfl rfl, ?_⟩
        refine kNil_in ?_
        try rw [add_mk]
        refine ⟨H22.lt (i := 2) rfl rfl, ?_⟩
        refine H22.ldS (i := 2) rfl rfl ?_
        refine ⟨_, H22.cell (i := 3) rfl rfl, ?_⟩
        refine ⟨_, H22.cell (i := 5) rfl rfl, ?_⟩
        refine (receiver_side_place_ct (H22.cells (i := 2) rfl) hb).mono ?_
        rintro _ w23 ⟨rfl, hb23⟩; have H23 := H22.pass hb23
        refine ⟨_, rfl, ?_⟩
        refine ⟨hb23.keeps, ?_⟩
        have hpa23 : PaR w23 ua5 s.parts := by
          have := readP (X := [_, _, _, _, _, _]) H23 fun _ h => h.2.1
          rwa [hL5] at this
        have C24 := searchP_ct (c := uc5) (g := N_receiver_Receive_1) (ff := #[]) (fc := #[.pointer (some ⟨b2, 0, none⟩)]) (target := s.place pcc.sn) hpa23 (by omega) (fun x => s.place x.sn) (by kernel_rfl) ⟨by have := placeR_range s pcc.sn; omega, fun x _ => by have := placeR_range s x.sn; omega⟩ hasc
          (fun w9 x a1 c1 a2 c2 _ hb9 => receiver_Receive_1_ct (hb9.get (H23.cell (i := 3) rfl rfl)) (cells_below (H23.cells (i := 2) rfl) hb9) hb (by have := placeR_range s pcc.sn; omega))
        rw [show (s.parts.takeWhile fun x => decide (s.place x.sn < s.place pcc.sn)).length = atP s pcc.sn from rfl, hfnd] at C24
        refine C24.mono ?_; clear C24
        rintro _ w24 ⟨rfl, hb24⟩; have H24 := H23.pass hb24; have hb24' := hb24
        refine ⟨_, _, rfl, ?_⟩
        replace hb24 := below_step hb23 (Nat.le_refl _) hb24
        refine ⟨hb24.keeps, ?_⟩
        refine ⟨_, H24.cell (i := 3) rfl rfl, ?_⟩
        refine ⟨_, _, _, _, _, _, _, _, _, H24.cells (i := 5) rfl, ?_⟩
        refine (receiver_side_refused_ct (p := pcc) (pa := pa) (pc := pc) (k := atP s pcc.sn) (found := foundB s pcc.sn) (H24.cells (i := 2) rfl) (paR_below hpa23 hb24') hb (fun h => (found_at h).1) (fun x hx => by have := (hf.2 x hx).1; omega)).mono ?_
        rintro _ w25 ⟨rfl, hb25⟩; have H25 := H24.pass hb25; clear H24
        rw [← refX_eq]
        refine ⟨_, rfl, ?_⟩
        refine bsplit_nd (fun c3 => ?_) (fun c3 => ?_)
        · refine ⟨_, H25.cell (i := 3) rfl rfl, ?_⟩
          refine ⟨_, _, _, _, _, _, _, H25.cells (i := 4) rfl, ?_⟩
          refine St.pollR (p := pcc) (pa := pa) (pc := pc) H25 (i := 2) rfl ?_
          intro w26 H26
          refine ⟨rfl, ?_⟩
          refine ⟨_, H26.cell (i := 3) rfl rfl, ?_⟩
          refine kNil_in ?_
          try rw [add_mk]
          refine ⟨_, _, _, _, _, _, _, _, _, _, _, _, _, _, _, _, H26.cells (i := 2) rfl, ?_⟩
          refine H26.store (i := 1) rfl (by rfl) (by rfl) ?_; clear H26; intro w27 H27
          refine ⟨_, _, _, _, _, _, _, _, _, _, _, _, _, _, _, _, H27.cells (i := 1) rfl, ?_⟩
          rw [if_pos c3]
          exact ⟨ua5, uc5, none, 0, rfl, Nat.le_refl _, (readF (X := [_, _, _, _, _, _]) H27 fun _ h => h.2.1).fin.imp fun _ h => ⟨by rw [pollR_parts, ← hL5]; exact h.1, .nil⟩⟩
        · have hr0 : refusedS s pcc = 0 := by simpa using c3
          rw [if_neg (by rw [hr0]; decide)]
          refine ⟨fun w32 => ∃ (L6 : List PP) (ua6 : Option Addr) (uc6 : Nat), L6.map (·.p) = insS s pcc ∧ Ready L6 k ∧ St (fun _ => False) [] w w32 (rowsR b b1 g5 b2 b3 pb s a c { s with parts := insS s pcc } ua6 uc6 pcc pa pc L6) (fun w => SlR (IntC .u8) 1 w pa pcc.data ∧ CoR L6 w), ?_, ?_⟩
          · rintro _ w32 ⟨L6, ua6, uc6, hL6, hrd, H32⟩
            obtain ⟨hkL, hr1, hr2, hr3, hr4⟩ := hrd
            have hlen6 : (insS s pcc).length = L6.length := by rw [← hL6, List.length_map]
            have hmg : mergedS s pcc = mergeS L6[k].p pcc := by
              unfold mergedS
              rw [← hL6, ← hk, List.getElem?_map, List.getElem?_eq_getElem hkL]; rfl
            have hins : (insS s pcc).length ≤ 601 := by
              unfold insS; split
              · omega
              · simp only [List.length_append, List.length_cons, List.length_take, List.length_drop]; omega
            obtain ⟨t2, ht2⟩ : ∃ t2 : Rc, t2 = { s with parts := insS s pcc, next := if s.place pcc.sn ≥ s.place s.next then s.behind pcc.sn else s.next } := ⟨_, rfl⟩
            refine ⟨fun w39 => St (fun _ => False) [] w w39 (rowsR b b1 g5 b2 b3 pb s a c t2 ua6 uc6 pcc pa pc L6) (fun w => SlR (IntC .u8) 1 w pa pcc.data ∧ CoR L6 w), ?_, ?_⟩
            · rintro _ w39 H39
              obtain ⟨g6, rfl, -, hc6⟩ := H39.rowSome (i := 6) rfl (by omega)
              obtain ⟨v, hv⟩ : ∃ v : Rc, v = putP s pcc := ⟨_, rfl⟩
              have e2 : encRc t2 (some ⟨g6, 0, none⟩) uc6 = encRc v (some ⟨g6, 0, none⟩) uc6 := by rw [hv, ht2]; unfold encRc putP; simp only [List.length_set]
              have e2' : ∀ L, rowsR b b1 g5 b2 b3 pb s a c t2 (some ⟨g6, 0, none⟩) uc6 pcc pa pc L = rowsR b b1 g5 b2 b3 pb s a c v (some ⟨g6, 0, none⟩) uc6 pcc pa pc L := fun L => by unfold rowsR rcBlk; rw [e2]
              rw [e2'] at H39
              have ht2l : t2.parts.length = L6.length := by rw [ht2]; exact hlen6
              have hvp : v.parts = (insS s pcc).set k (if compB (mergedS s pcc) then donePa pcc.sn else mergedS s pcc) := by rw [hv, hk]; rfl
              have hvl : v.parts.length = L6.length := by rw [hvp, List.length_set, hlen6]
              have hvk : v.lk = s.lk := by rw [hv]; rfl
              have hvf : v.first = s.first := by rw [hv]; rfl
              rw [← hv]
              refine ⟨_, H39.cell (i := 3) rfl rfl, ?_⟩
              refine kNil_in ?_
              try rw [add_mk]
              refine H39.ldS (i := 2) rfl rfl ?_
              refine ⟨⟨g6, 0, none⟩, rfl, ⟨by omega, by omega⟩, ?_⟩
              dsimp only
              rw [← hk, elA0]
              refine ⟨_, _, _, _, _, _, _, _, _, H39.cells (i := 5) rfl, ?_⟩
              refine St.putP (X := [_, _, _, _, _, _]) (p := pcc) (pa := pa) (pc := pc) H39 hkL L6[k] rfl ⟨hpo, hpd, hpe⟩ hr1 hr2 hr3 hr4 (fun _ h => h.1) (fun _ h => h.2 _ (List.getElem_mem _)) ?_
              intro w40 z hz hzc H40
              have hzk : k < (L6.set k z).length := by simpa using hkL
              have hzg : (L6.set k z)[k] = z := by simp
              have hco : ∀ w, (SlR (CE encR) 3 w z.a2 z.p.come ∧ SlR (IntC .u8) 1 w pa pcc.data ∧ CoR L6 w) → ∀ y : PP, (∀ w, (SlR (CE encR) 3 w z.a2 z.p.come) → SlR (CE encR) 3 w y.a2 y.p.come) → CoR (L6.set k y) w := fun w h y hy x hx => by
                rcases List.mem_or_eq_of_mem_set hx with hx | rfl
                · exact h.2.2 x hx
                · exact hy w h.1
              rw [← hmg] at hz
              refine ⟨rfl, ?_⟩
              refine ⟨fun out_a out_l out_c w43 => ∃ (L7 : List PP), L7.map (·.p) = v.parts ∧ out_l = (unitS s pcc).length ∧ out_l ≤ out_c ∧ St (fun _ => False) [] w w43 (rowsR b b1 g5 b2 b3 pb s a c v (some ⟨g6, 0, none⟩) uc6 pcc pa pc L7) (fun w => SlR (IntC .u8) 1 w out_a (unitS s pcc) ∧ CoR L7 w), ?_, ?_⟩
              · rintro _ out_a _ out_c w43 ⟨L7, hL7, rfl, hoc, H43⟩
                have H43 := readF (X := [_, _, _, _, _, _]) H43 fun _ h => h.2
                rw [hL7] at H43
                refine ⟨_, H43.cell (i := 3) rfl rfl, ?_⟩
                refine St.advR (s := v) H43 (i := 2) rfl (by rw [hvk]; exact hb) (by rw [hvf]; unfold snOk at hs1; omega) (by omega) (fun _ h => h.1) ?_
                intro aa ac w44 hp44 H44
                clear H43
                refine ⟨rfl, ?_⟩
                refine ⟨_, H44.cell (i := 3) rfl rfl, ?_⟩
                refine St.startR (s := advS v) H44 (i := 2) rfl (by rw [advS_lk, hvk]; exact hb) ?_
                intro w45 H45
                refine ⟨rfl, ?_⟩
                refine ⟨_, H45.cell (i := 3) rfl rfl, ?_⟩
                refine ⟨_, _, _, _, _, _, _, H45.cells (i := 4) rfl, ?_⟩
                refine St.pollR (p := pcc) (pa := pa) (pc := pc) H45 (i := 2) rfl ?_
                intro w46 H46
                refine ⟨rfl, ?_⟩
                refine ⟨_, H46.cell (i := 3) rfl rfl, ?_⟩
                refine kNil_in ?_
                try rw [add_mk]
                refine ⟨_, _, _, _, _, _, _, _, _, _, _, _, _, _, _, _, H46.cells (i := 2) rfl, ?_⟩
                refine H46.store (i := 1) rfl (by rfl) (by rfl) ?_; clear H46; intro w47 H47
                refine ⟨_, _, _, _, _, _, _, _, _, _, _, _, _, _, _, _, H47.cells (i := 1) rfl, ?_⟩
                have ep : (pollR (startR (advS v)) pcc).parts = (advS v).parts := by rw [pollR_parts, (startR_same _).1]
                exact ⟨aa, ac, out_a, out_c, rfl, hoc, H47.fin.imp fun _ h => ⟨by rw [ep]; exact hp44 _ h, h.2.1⟩⟩
              · have hcz := H40.cellsEl encPP_ok (i := 6) rfl hzk
                rw [hzg] at hcz
                refine ⟨_, _, _, _, _, _, _, _, _, hcz, ?_⟩
                refine (receiver_complete_ct (x := z.p) H40.get.1).mono ?_
                rw [hz]
                rintro _ w41 ⟨rfl, hb41⟩; have H41 := H40.pass hb41; clear H40
                refine ⟨_, rfl, ?_⟩
                refine bsplit_intro (fun c2 => ?_) (fun c2 => ?_)
                · refine ⟨_, _, _, by have := H41.cellEl encPP_ok (i := 6) rfl hzk (j := 3) (by decide) (by rw [hzg]; rfl); rwa [add_mk], ?_⟩
                  refine ⟨_, H41.cell (i := 5) rfl rfl, ?_⟩
                  refine H41.storeEl encPP_ok (i := 6) rfl hzk ⟨donePa pcc.sn, none, 0, none, 0⟩ ?_; intro w42 _ H42
                  have K := swapDa (X := [_, _, _, _, _, _]) H42 hzk ⟨donePa pcc.sn, none, 0, none, 0⟩ rfl
                  rw [List.set_set, hzg] at K
                  exact ⟨L6.set k ⟨donePa pcc.sn, none, 0, none, 0⟩, by rw [List.map_set, hL6, hvp, if_pos c2], by rw [unitS, if_pos c2, ← hz], hzc, K.imp fun w h => ⟨by rw [unitS, if_pos c2, ← hz]; exact (ints_ok h.1).sl, hco w h.2 _ fun _ _ => .nil⟩⟩
                · have c2' : ¬ compB (mergedS s pcc) = true := by rw [c2]; decide
                  exact ⟨L6.set k z, by rw [List.map_set, hL6, hvp, if_neg c2', hz], by rw [unitS, if_neg c2']; rfl, Nat.zero_le _, H41.imp fun w h => ⟨by rw [unitS, if_neg c2']; exact .nil, hco w h _ fun _ h => h⟩⟩
            · refine H32.drew ?_; clear H32; intro w33 H33
              refine ⟨(· < w33.heap.size), ?_⟩
              refine ⟨_, H33.cell (i := 3) rfl rfl, ?_⟩
              refine ⟨_, H33.cell (i := 5) rfl rfl, ?_⟩
              refine ⟨H33.lt (i := 3) rfl rfl, ?_⟩
              refine ⟨_, H33.cell (i := 3) rfl rfl, ?_⟩
              refine ⟨H33.lt (i := 3) rfl rfl, ?_⟩
              refine ⟨_, H33.cell (i := 3) rfl rfl, ?_⟩
              refine kNil_in ?_
              try rw [add_mk]
              refine ⟨H33.lt (i := 2) rfl rfl, ?_⟩
              refine H33.ld (i := 2) rfl rfl ?_
              refine (receiver_side_place_ct (H33.cells (i := 2) rfl) hb).mono ?_
              rintro _ w34 ⟨rfl, hb34⟩; have H34 := H33.pass hb34
              refine ⟨_, rfl, ?_⟩
              refine ⟨hb34.keeps, ?_⟩
              refine (receiver_side_place_ct (H34.cells (i := 2) rfl) hb).mono ?_
              rintro _ w35 ⟨rfl, hb35⟩; have H35 := H34.pass hb35
              refine ⟨_, rfl, ?_⟩
              replace hb35 := below_step hb34 (Nat.le_refl _) hb35
              refine ⟨hb35.keeps, ?_⟩
              refine bsplit_dec (fun c1 => ?_) (fun c1 => ?_)
              · refine H35.drew ?_; clear H35; intro w36 H36
                refine ⟨(· < w36.heap.size), ?_⟩
                refine ⟨H36.lt (i := 3) rfl rfl, ?_⟩
                refine ⟨_, H36.cell (i := 3) rfl rfl, ?_⟩
                refine ⟨_, H36.cell (i := 3) rfl rfl, ?_⟩
                refine ⟨_, H36.cell (i := 5) rfl rfl, ?_⟩
                refine (receiver_side_behind_ct (n := pcc.sn) (H36.cells (i := 2) rfl) hb (by unfold snOk at hsn; omega)).mono ?_
                rintro _ w37 ⟨rfl, hb37⟩; have H37 := H36.pass hb37
                refine ⟨_, rfl, ?_⟩
                refine ⟨hb37.keeps, ?_⟩
                refine kNil_in ?_
                try rw [add_mk]
                refine H37.set (i := 2) rfl (by show 7 < 14; decide) ?_; intro w38 H38
                rw [ht2, if_pos (show s.place pcc.sn ≥ s.place s.next from c1)]
                exact H38
              · rw [ht2, if_neg (show ¬ s.place pcc.sn ≥ s.place s.next from c1)]
                exact H35
          · refine bsplit_n (fun c => ?_) (fun c => ?_)
            · refine H25.drew ?_; clear H25; intro w28 H28
              refine ⟨fun x => x = b2 ∨ x = g5, ?_⟩
              refine ⟨.inl rfl, ?_⟩
              refine ⟨_, H28.cell (i := 3) rfl rfl, ?_⟩
              refine ⟨.inl rfl, ?_⟩
              refine ⟨_, H28.cell (i := 3) rfl rfl, ?_⟩
              refine kNil_in ?_
              try rw [add_mk]
              refine ⟨.inr rfl, ?_⟩
              refine H28.ldS (i := 2) rfl rfl ?_
              refine ⟨_, H28.cell (i := 5) rfl rfl, ?_⟩
              refine ⟨KeepsB.refl _ _, ?_⟩
              refine H28.allocB ?_; intro b7 w29 hb29 H29
              have H29 := St.lastTo (X := [_, _, _, _, _, _]) H29
              try simp only [List.cons_append, List.nil_append] at H29
              refine ⟨keepB2 (keepB1 (H28.ok 3 _ rfl) (H29.ok 3 _ rfl)) (keepB1 (H28.ok 2 _ rfl) (H29.ok 2 _ rfl)), ?_⟩
              rw [← hk, hlen5]
              refine insertP_ct (x := ⟨newPa pcc.sn, none, 0, none, 0⟩) H29 (i := 7) (j := 6) rfl rfl (by omega) (by omega) ?_
              intro ua6 uc6 w30 H30
              refine ⟨_, _, _, rfl, ?_⟩
              skip
              refine ⟨keepB2 (keepB1 (H28.ok 3 _ rfl) (H30.ok 3 _ rfl)) (keepB1 (H28.ok 2 _ rfl) (H30.ok 2 _ rfl)), ?_⟩
              refine kNil_in ?_
              try rw [add_mk]
              refine H30.set (i := 2) rfl (by show 13 < 14; decide) ?_; intro w31 H31
              have H31 := St.skip (X := [_, _, _, _, _, _]) H31
              have H31 := insDa (X := [_, _, _, _, _, _]) (k := k) H31 ⟨newPa pcc.sn, none, 0, none, 0⟩ rfl
              have hi6 : insS s pcc = s.parts.take k ++ newPa pcc.sn :: s.parts.drop k := by rw [insS, if_neg (by rw [c]; decide), hk]
              have el : (insS s pcc).length = L5.length + 1 := by rw [hi6]; simp; omega
              have e : rcBlk g5 { s with parts := insS s pcc } ua6 uc6 = .blk g5 Ty_receiver_side ((encRc s ua5 uc5).set 13 (.slice ua6 (L5.length + 1) uc6)) := by unfold rcBlk encRc; simp only [el]; rfl
              have hkn : k < (L5.take k ++ (⟨newPa pcc.sn, none, 0, none, 0⟩ : PP) :: L5.drop k).length := by simp; omega
              have hgn : (L5.take k ++ (⟨newPa pcc.sn, none, 0, none, 0⟩ : PP) :: L5.drop k)[k] = ⟨newPa pcc.sn, none, 0, none, 0⟩ := by
                rw [List.getElem_append_right (by simp; omega)]
                simp [show k - min k L5.length = 0 by omega]
              refine ⟨_, ua6, uc6, ?_, ⟨hkn, ?_⟩, ?_⟩
              · rw [List.map_append, List.map_cons, List.map_take, List.map_drop, hL5, hi6]
              · rw [hgn]; exact ⟨Nat.zero_le _, .inr ⟨rfl, rfl, rfl⟩, Nat.zero_le _, rfl⟩
              · unfold rowsR
                rw [e]
                exact H31.imp fun w h => ⟨h.1, fun x hx => by
                  rcases List.mem_append.1 hx with hx | hx
                  · exact h.2.1 x (List.mem_of_mem_take hx)
                  · rcases List.mem_cons.1 hx with rfl | hx
                    · exact .nil
                    · exact h.2.1 x (List.mem_of_mem_drop hx)⟩
            · obtain ⟨hk1, hk2⟩ := found_at c
              have hi6 : insS s pcc = s.parts := by rw [insS, if_pos c]
              rw [hi6]
              have hkL : k < L5.length := by rw [hk]; omega
              have hx : L5[k].p = s.parts[atP s pcc.sn] := by
                have : (L5.map (·.p))[k]? = some L5[k].p := by rw [List.getElem?_map, List.getElem?_eq_getElem hkL]; rfl
                rw [hL5] at this
                have h3 : s.parts[k]? = some s.parts[atP s pcc.sn] := by rw [hk]; exact List.getElem?_eq_getElem hk1
                exact Option.some.inj (this.symm.trans h3)
              have hnd := not_done c hr0 _ (List.getElem?_eq_getElem hk1)
              have hpb := (hall _ (List.getElem_mem hk1)).1
              rw [← hx] at hnd hpb
              rw [paB, if_neg (by rw [hnd]; decide), Bool.and_eq_true, decide_eq_true_iff] at hpb
              have hcl := paNum_len hpb.1
              obtain ⟨⟨-, hne, hno, -, hen, hdl, -⟩, -⟩ := hpb
              have hpos := end_pos hno hne
              refine ⟨L5, ua5, uc5, hL5, ⟨hkL, by omega, .inl (by omega), by omega, hno⟩, ?_⟩
              exact H25.imp fun w h => ⟨h.1, h.2.1⟩
      · refine H10.drew ?_; clear H10; intro w12 H12
        refine ⟨(· < w12.heap.size), ?_⟩
        refine ⟨H12.lt (i := 4) rfl rfl, ?_⟩
        refine ⟨_, _, _, _, _, _, _, H12.cells (i := 4) rfl, ?_⟩
        refine ⟨H12.lt (i := 4) rfl rfl, ?_⟩
        refine H12.ld (i := 4) rfl rfl ?_
        refine ⟨H12.lt (i := 4) rfl rfl, ?_⟩
        refine H12.ldS (i := 4) rfl rfl ?_
        refine kW_i64 (by omega) ?_
        refine ⟨H12.lt (i := 4) rfl rfl, ?_⟩
        refine H12.ld (i := 4) rfl rfl ?_
        refine ⟨?_, ?_, trivial⟩
        · refine segment_Ends_ct.mono ?_
          rintro _ w13 ⟨rfl, hb13⟩; have H13 := H12.pass hb13
          refine ⟨_, rfl, ?_⟩
          refine ⟨hb13.keeps, ?_⟩
          refine ⟨?_, ?_, trivial⟩
          · refine ⟨hb13.keeps, ?_⟩
            refine H13.allocB ?_; intro b4 w14 hb14 H14
            have H14 := St.lastTo (X := [_, _, _, _, _]) H14
            try simp only [List.cons_append, List.nil_append] at H14
            refine ⟨(below_step hb13 (Nat.le_refl _) hb14).keeps, ?_⟩
            refine H14.store (i := 5) rfl (by rfl) (by rfl) ?_; intro w15 H15
            exact ⟨b4, rfl, H15⟩
          · refine H13.allocB ?_; intro b5 w16 hb16 H16
            have H16 := St.lastTo (X := [_, _, _, _, _]) H16
            try simp only [List.cons_append, List.nil_append] at H16
            refine ⟨(below_step hb13 (Nat.le_refl _) hb16).keeps, (below_step hb13 (Nat.le_refl _) hb16).keeps, ?_⟩
            refine H16.store (i := 5) rfl (by rfl) (by rfl) ?_; intro w17 H17
            exact ⟨b5, rfl, H17⟩
        · refine H12.allocB ?_; intro b6 w18 hb18 H18
          have H18 := St.lastTo (X := [_, _, _, _, _]) H18
          try simp only [List.cons_append, List.nil_append] at H18
          refine ⟨hb18.keeps, ?_⟩
          refine segment_Ends_ct.mono ?_
          rintro _ w19 ⟨rfl, hb19⟩; have H19 := H18.pass hb19
          refine ⟨_, rfl, ?_⟩
          replace hb19 := below_step hb18 (Nat.le_refl _) hb19
          refine ⟨hb19.keeps, ?_⟩
          refine ⟨hb19.keeps, ?_⟩
          refine H19.store (i := 5) rfl (by rfl) (by rfl) ?_; intro w20 H20
          exact ⟨b6, rfl, H20⟩
end
end Go.Proofs.YthceaojjeokclaaGreat
namespace Go.Proofs.YthceaojjeokclaaGreat
open Go.Sx Go.RowKit
set_option maxRecDepth 100000
abbrev padPa (x : Pa) (j : Nat) : Pa := { x with data := x.data ++ List.replicate j 0 }
abbrev rowsM (b2 b1 b : Nat) (p : Pc) (pa : Option Addr) (pc : Nat) (x : Pa) (da : Option Addr) (dc : Nat) (a2 : Option Addr) (c2 : Nat) (T : List Res) : List Res :=
  .blk b2 Ty_api_Partial [.int .i64 0, .bool false, .int .i64 0, .slice none 0 0, .slice none 0 0] :: .blk b1 Ty_api_Piece [.int .i64 p.sn, .int .i64 p.part, .int .i64 p.poll, .int .i64 p.off, .slice pa p.data.length pc] :: .blk b Ty_api_Partial (encPa x da dc a2 c2) :: T
section
variable {A0 : Nat → Prop} {M : List Nat} {w0 w : World} {R : List Res} {P : World → Prop} {i : Nat} {x : Pa} {a a2 : Option Addr} {c c2 : Nat} {p : Pc} {pa : Option Addr} {pc : Nat}
theorem St.mergeR (H : St A0 M w0 w R P) (hi : R[i]? = some (.ints Ty_uint8 .u8 a c x.data)) (hp : (0 ≤ p.off ∧ p.off ≤ 2054) ∧ 1 ≤ p.data.length ∧ p.off + p.data.length ≤ 2054)
    (hd : x.data.length ≤ 3000) (hcl : x.come.length ≤ 3000) (hn : normB (-1) x.come = true) (hs : ∀ w, P w → SlR (IntC .u8) 1 w pa p.data) (hcome : ∀ w, P w → SlR (CE encR) 3 w a2 x.come) {K : Ending → World → Prop}
    (h : ∀ da dc ca cc w', (mergeS x p).data.length ≤ dc → St A0 M w0 w' (R.set i (.ints Ty_uint8 .u8 da dc (mergeS x p).data)) (fun w => SlR (CE encR) 3 w ca (mergeS x p).come ∧ P w) → K (.returned (aggPa (mergeS x p) da dc ca cc)) w') :
    Calls Tryz.prog N_ref21_merge #[aggPa x a c a2 c2, aggPc p pa pc] w K := by
  apply F_ref21_merge_ok
  unfold F_ref21_merge
  obtain ⟨⟨hp1, hp2⟩, hp3, hp4⟩ := hp
  have hen : p.en = p.off + p.data.length := rfl
  have hil : i < R.length := get_lt hi
  have hset : ∀ r, (R.set i r)[i]? = some r := fun r => List.getElem?_set_self hil
  obtain ⟨n, hnn⟩ : ∃ n, n = p.off.toNat + p.data.length - x.data.length := ⟨_, rfl⟩
  refine H.alloc ?_; clear H; intro b w1 H1; have H1 := St.lastTo (X := []) (T := R) H1
  refine H1.alloc ?_; clear H1; intro b1 w2 H2; have H2 := St.lastTo (X := []) (T := _ :: R) H2
  refine H2.alloc ?_; clear H2; intro b2 w3 H3; have H3 := St.lastTo (X := []) (T := _ :: _ :: R) H3
  replace H3 : St A0 M w0 w3 (rowsM b2 b1 b p pa pc x a c a2 c2 R) P := H3
  refine H3.ld (i := 1) rfl rfl ?_
  refine H3.ldS (i := 1) rfl rfl ?_
  refine kW_i64 (by omega) ?_
  refine ⟨fun m w4 => ∃ (j : Nat) (da : Option Addr) (dc : Nat), m = n - j ∧ j ≤ n ∧ St A0 M w0 w4 (rowsM b2 b1 b p pa pc (padPa x j) da dc a2 c2 (R.set i (.ints Ty_uint8 .u8 da dc (x.data ++ List.replicate j 0)))) P, ⟨_, 0, a, c, rfl, Nat.zero_le _, ?_⟩, ?_⟩
  · rw [list_set_self (by simpa using hi)]
    have : padPa x 0 = x := by unfold padPa; simp
    rw [this]; exact H3
  clear H3
  rintro _ m w4 ⟨j, da, dc, rfl, hj, H4⟩
  have hjl : (x.data ++ List.replicate j (0 : Int)).length = x.data.length + j := by simp
  refine H4.ldS (i := 2) rfl rfl ?_
  refine bsplit_dec (fun c1 => ?_) (fun c1 => ?_)
  · refine H4.ldS (i := 2) rfl rfl ?_
    have hjl2 : (padPa x j).data.length = x.data.length + j := hjl
    refine H4.alloc ?_; clear H4; intro b3 w5 H5; have H5 := St.lastTo (X := []) (T := rowsM _ _ _ _ _ _ _ _ _ _ _ (R.set i _)) H5
    refine H5.appIB (i := i + 4) (hset _) (j := 0) [0] rfl sl_Ty_S_uint8 rfl (by simp; omega) (by simp; omega) ?_; intro da' dc' w6 H6
    replace H6 : St A0 M w0 w6 (rowsM b2 b1 b p pa pc (padPa x j) da dc a2 c2 ((R.set i (.ints Ty_uint8 .u8 da dc (x.data ++ List.replicate j 0))).set i (.ints Ty_uint8 .u8 da' dc' (x.data ++ List.replicate j 0 ++ [0])))) P := St.skip (X := []) H6
    have ej : x.data ++ List.replicate j (0 : Int) ++ [0] = x.data ++ List.replicate (j + 1) 0 := by rw [List.append_assoc, List.replicate_succ']
    rw [List.set_set, ej] at H6
    refine H6.set (i := 2) rfl (by show 3 < 5; decide) ?_; clear H6; intro w7 H7
    refine ⟨_, ?_, j + 1, da', dc', rfl, by omega, ?_⟩
    · omega
    · rw [← ej] at H7 ⊢
      have e : encPa (padPa x (j + 1)) da' dc' a2 c2 = (encPa (padPa x j) da dc a2 c2).set 3 (.slice da' (x.data ++ List.replicate j 0 ++ [0]).length dc') := by rw [ej]; rfl
      unfold rowsM
      rw [e]; exact H7
  · have hjn : j = n := by have hjl2 : (padPa x j).data.length = x.data.length + j := hjl; omega
    subst hjn
    obtain ⟨D, hD⟩ : ∃ D, D = x.data ++ List.replicate j (0 : Int) := ⟨_, rfl⟩
    have hDl : p.off.toNat + p.data.length ≤ D.length ∧ D.length ≤ 6000 := by rw [hD, hjl]; omega
    obtain ⟨y, hy⟩ : ∃ y, y = padPa x j := ⟨_, rfl⟩
    have hyd : y.data = D := by rw [hy, hD]
    have hyr : y = { x with data := D } := by rw [hy, hD]
    rw [← hD, ← hy] at H4
    refine H4.drew ?_; clear H4; intro w8 H8
    obtain ⟨g2, rfl, _, hdc⟩ := H8.rowSome (i := i + 3) (hset _) (by omega)
    refine H8.ldS (i := 2) rfl rfl ?_
    refine H8.ld (i := 1) rfl rfl ?_
    refine ⟨⟨by omega, by rw [hyd]; omega⟩, ?_⟩
    refine H8.ldS (i := 1) rfl rfl ?_
    rw [hyd, slA (by omega), Nat.mul_one]
    refine H8.copyI (i := i + 3) (hset _) (elem := Ty_uint8) sl_Ty_S_uint8.ht (by kernel_rfl) (hs _ H8.get) (by omega) (o := p.off.toNat) (by omega) (Nat.min_eq_left (by omega)).symm ?_
    intro _ w9 H9
    obtain ⟨D2, hD2⟩ : ∃ D2, D2 = D.take p.off.toNat ++ p.data ++ D.drop (p.off.toNat + p.data.length) := ⟨_, rfl⟩
    have hlay : layD x.data p.off.toNat p.data = D2 := by rw [hD2, hD, hnn]; rfl
    have hD2l : D2.length = D.length := by rw [hD2]; simp; omega
    replace H9 : St A0 M w0 w9 (rowsM b2 b1 b p pa pc y (some ⟨g2, 0, none⟩) dc a2 c2 ((R.set i (.ints Ty_uint8 .u8 (some ⟨g2, 0, none⟩) dc D)).set i (.ints Ty_uint8 .u8 (some ⟨g2, 0, none⟩) dc D2))) P := by rw [hD2]; exact H9
    rw [List.set_set] at H9
    refine H9.ldS (i := 2) rfl rfl ?_
    refine H9.ld (i := 1) rfl rfl ?_
    refine H9.ld (i := 1) rfl rfl ?_
    have hU : unionR x.come ⟨p.sn, p.off, p.en⟩ = (unionS p.sn x.come p.off p.en, 0) := by
      unfold unionR
      rw [if_neg]
      rw [hn]
      simp [normB]; omega
    have C := ref18_Union_ct (l := x.come) (l_c := c2) (r := ⟨p.sn, p.off, p.en⟩) (hcome _ H9.get) (by omega)
    rw [hU] at C
    dsimp only at C
    have hyc : y.come = x.come := by rw [hy]
    rw [hyc]
    refine C.mono ?_; clear C
    rintro _ w10 ⟨ca, cc, hcc, rfl, K9⟩; have H10 := H9.callF K9; clear H9
    rw [List.append_nil] at H10
    refine ⟨_, _, _, _, rfl, ?_⟩
    refine H10.set (i := 2) rfl (by show 4 < 5; decide) ?_; clear H10; intro w11 H11
    refine ⟨_, _, _, _, _, _, _, H11.cells (i := 1) rfl, ?_⟩
    refine (ref21_ends_ct (p := p)).mono ?_
    have fin : ∀ {w' : World} {r1 r2 r3 : Res} {Q : World → Prop}, St A0 M w0 w' (r1 :: r2 :: r3 :: R.set i (.ints Ty_uint8 .u8 (some ⟨g2, 0, none⟩) dc D2)) Q → St A0 M w0 w' (R.set i (.ints Ty_uint8 .u8 (some ⟨g2, 0, none⟩) dc D2)) Q := fun H => St.skip (X := []) (St.skip (X := []) (St.skip (X := []) H))
    rintro _ w12 ⟨rfl, hb12⟩; have H12 := H11.pass hb12; clear H11
    refine ⟨_, rfl, ?_⟩
    refine bsplit_intro (fun c1 => ?_) (fun c1 => ?_)
    · refine H12.set (i := 2) rfl (by show 2 < 5; decide) ?_; clear H12; intro w13 H13
      refine ⟨_, _, _, _, _, _, _, _, _, H13.cells (i := 2) rfl, ?_⟩
      refine H13.store (i := 0) rfl (by rfl) (by rfl) ?_; clear H13; intro w14 H14
      refine ⟨_, _, _, _, _, _, _, _, _, H14.cells (i := 0) rfl, ?_⟩
      have hm : mergeS x p = { x with data := D2, come := unionS p.sn x.come p.off p.en, len := p.en } := by rw [mergeS, if_pos c1, hlay]
      have := h (some ⟨g2, 0, none⟩) dc ca cc w14 (by rw [hm]; show D2.length ≤ dc; omega) (by rw [hm]; exact fin H14)
      rw [hm] at this
      rw [hyd, ← hD2l, hyr]
      exact this
    · refine ⟨_, _, _, _, _, _, _, _, _, H12.cells (i := 2) rfl, ?_⟩
      refine H12.store (i := 0) rfl (by rfl) (by rfl) ?_; clear H12; intro w15 H15
      refine ⟨_, _, _, _, _, _, _, _, _, H15.cells (i := 0) rfl, ?_⟩
      have hm : mergeS x p = { x with data := D2, come := unionS p.sn x.come p.off p.en } := by rw [mergeS, if_neg (by rw [c1]; decide), hlay]
      have := h (some ⟨g2, 0, none⟩) dc ca cc w15 (by rw [hm]; show D2.length ≤ dc; omega) (by rw [hm]; exact fin H15)
      rw [hm] at this
      rw [hyd, ← hD2l, hyr]
      exact this
end
end Go.Proofs.YthceaojjeokclaaGreat
namespace Go.Sx
def putR (s : Rc) (p : Pc) : Rc × List Int × Int := if refusedS s p ≠ 0 then (s, [], refusedS s p) else (startR (advS (putP s p)), unitS s p, 0)
open Go.RowKit
theorem St.trimE {A0 : Nat → Prop} {M : List Nat} {w0 w : World} {R : List Res} {P : World → Prop} {α : Type} {enc : α → List Value} {sz : Nat} {e : TypeId} {a : Option Addr} {c i : Nat} {ys : List α} (H : St A0 M w0 w R P) (hE : Enc enc sz) (hi : R[i]? = some (.els enc e sz a c ys)) (k : Nat) (hk : k ≤ ys.length) :
    St A0 M w0 w (R.set i (.els enc e sz a c (ys.take k))) P := by
  by_cases h : k = ys.length
  · rw [h, List.take_length, list_set_self hi]; exact H
  obtain ⟨g, rfl, -, hnc⟩ := H.rowSome hi (by omega)
  obtain ⟨rest, hr1, hcm, _, H1⟩ := H.rowBlk hi
  have hil : i < R.length := get_lt hi
  have := H1.blkRow (i := i) (by rw [List.getElem?_set_self hil]) sz k c (by rw [List.length_append]; omega) (by omega) hcm
  have e1 : (ys.flatMap enc ++ rest).take (k * sz) = (ys.take k).flatMap enc := by
    have e2 : ys.flatMap enc = (ys.take k).flatMap enc ++ (ys.drop k).flatMap enc := by rw [← List.flatMap_append, List.take_append_drop]
    have e3 : ((ys.take k).flatMap enc).length = k * sz := by rw [flat_len hE, List.length_take, Nat.min_eq_left hk]
    rw [e2, List.append_assoc, ← e3]; exact List.take_left
  rw [e1, List.set_set] at this
  have e4 : Res.els enc e sz (some ⟨g, 0, none⟩) c (ys.take k) = .row e sz (some ⟨g, 0, none⟩) k c ((ys.take k).flatMap enc) := by
    simp only [Res.els, List.length_take, Nat.min_eq_left hk]
  rw [e4]; exact this
theorem St.appEn {Pr : Program} {A0 : Nat → Prop} {M : List Nat} {w0 w : World} {R : List Res} {P : World → Prop} {α : Type} {enc : α → List Value} {sz bytes : Nat} {e t : TypeId} {z : Value} {a : Option Addr} {c i n m : Nat} {ys zs : List α} (H : St A0 M w0 w R P) (hE : Enc enc sz) (hi : R[i]? = some (.els enc e sz a c ys)) (hT : SlTy Pr t e sz bytes z) {p : Option Addr} {c2 : Nat} (hs : SlR (CE enc) sz w p zs) (hn : n = ys.length) (hm : m = zs.length)
    (hbytes : (ys.length + zs.length) * bytes ≤ 140737488355328) (h63 : ys.length + zs.length ≤ 4611686018427387904) {ty : TypeId} {F : Option Addr → Nat → Nat → World → Prop}
    (h : ∀ a' c' w', St A0 M w0 w' (R.set i (.els enc e sz a' c' (ys ++ zs))) P → F a' (ys ++ zs).length c' w') : AppP Pr #[t, t] ty #[.slice a n c, .slice p m c2] w F := by
  subst hn; subst hm
  exact H.appE hE hi hT hs hbytes h63 h
end Go.Sx
namespace Go.Proofs.YthceaojjeokclaaGreat
open Go.Sx Go.RowKit
set_option maxRecDepth 100000
abbrev rowsQ (b b1 b2 : Nat) (t : Rc) (a : Option Addr) (c : Nat) (p : Pc) (pa : Option Addr) (pc : Nat) (X : List Res) : List Res :=
  .blk b Ty_api_Receiver (encRc t a c) :: .blk b1 Ty_api_Piece [.int .i64 p.sn, .int .i64 p.part, .int .i64 p.poll, .int .i64 p.off, .slice pa p.data.length pc] :: .blk b2 Ty_api_Receiver (encRc .zero none 0) :: X
section
variable {A0 : Nat → Prop} {w0 w : World} {X : List Res} {P : World → Prop} {L : List PP} {s : Rc} {a : Option Addr} {c : Nat} {p : Pc} {pa : Option Addr} {pc : Nat}
theorem putRef_ct (H : St A0 [] w0 w (X ++ .els encPP Ty_api_Partial 5 a c L :: L.map agP) P) (hL : L.map (·.p) = s.parts) (hok : s.okB = true) (hpok : p.ok s.lk.bits) (hs : ∀ w, P w → SlR (IntC .u8) 1 w pa p.data) (hco : ∀ w, P w → CoR L w) {K : Ending → World → Prop}
    (h : ∀ a' c' ba bc w', (putR s p).2.1.length ≤ bc → St A0 [] w0 w' X (fun w => PaS w a' (putR s p).1.parts ∧ SlR (IntC .u8) 1 w ba (putR s p).2.1 ∧ P w) → K (.returned (.tuple #[aggRc (putR s p).1 a' c', .slice ba (putR s p).2.1.length bc, .int .i64 (putR s p).2.2])) w') :
    Calls Tryz.prog N_ref21_put #[aggRc s a c, aggPc p pa pc] w K := by
  apply F_ref21_put_ok
  unfold F_ref21_put
  obtain ⟨hf, hlk, hs1, hs2, hs3, hq, hall⟩ := rc_fit hok
  have hb := hlk.1
  have hb' := hb
  obtain ⟨hb1, hb2⟩ := hb'
  have hb0 := pow_bits hb
  obtain ⟨-, hpsn, hpart, hppoll, hpoff, hpo, hpd, hpe⟩ := hpok
  have hsn : snOk s.lk.bits p.sn := hpsn
  have hlen : s.parts.length = L.length := by rw [← hL, List.length_map]
  have hl6 : s.parts.length ≤ 600 := hf.1
  obtain ⟨k, hk⟩ : ∃ k, k = atP s p.sn := ⟨_, rfl⟩
  have hkl : k ≤ L.length := by rw [← hlen, hk]; exact while_le _ _
  have hLp : ∀ j (hj : j < L.length), ∃ hj' : j < s.parts.length, L[j].p = s.parts[j] := fun j hj => ⟨by omega, by
    have : (L.map (·.p))[j]? = some L[j].p := by rw [List.getElem?_map, List.getElem?_eq_getElem hj]; rfl
    rw [hL, List.getElem?_eq_getElem (by omega)] at this
    exact (Option.some.inj this).symm⟩
  have efin : ∀ {w' : World} {r1 r2 r3 : Res} (E : Int), refusedS s p = E → E ≠ 0 → St A0 [] w0 w' ((r1 :: r2 :: r3 :: X) ++ .els encPP Ty_api_Partial 5 a c L :: L.map agP) P → K (.returned (.tuple #[aggRc s a c, .slice none 0 0, .int .i64 E])) w' := fun E e1 e2 H => by
    have e : putR s p = (s, [], E) := by rw [putR, if_pos (by rw [e1]; exact e2), e1]
    rw [e] at h
    have K1 := readFS H hco
    rw [hL] at K1
    exact h a c none 0 _ (Nat.le_refl _) ((St.skip (X := []) (St.skip (X := []) (St.skip (X := []) K1))).imp fun w hw => ⟨hw.1, .nil, hw.2⟩)
  refine H.alloc ?_; clear H; intro b w1 H1; have H1 := St.lastTo (X := []) H1
  refine H1.alloc ?_; clear H1; intro b1 w2 H2; have H2 := St.lastTo (X := [_]) (T := X ++ .els encPP Ty_api_Partial 5 a c L :: L.map agP) H2
  refine H2.alloc ?_; clear H2; intro b2 w3 H3; have H3 := St.lastTo (X := [_, _]) (T := X ++ .els encPP Ty_api_Partial 5 a c L :: L.map agP) H3
  replace H3 : St A0 [] w0 w3 (rowsQ b b1 b2 s a c p pa pc X ++ .els encPP Ty_api_Partial 5 a c L :: L.map agP) P := H3
  refine H3.drew ?_; clear H3; intro w4 H4
  refine ⟨(· < w4.heap.size), ?_⟩
  refine ⟨_, _, _, _, _, _, _, _, _, _, _, _, _, _, _, _, H4.cells (i := 0) rfl, ?_⟩
  refine H4.ld (i := 1) rfl rfl ?_
  refine ⟨H4.lt (i := 0) rfl rfl, ?_⟩
  refine H4.ld (i := 0) rfl rfl ?_
  refine kW_i64 (by omega) ?_
  refine kW_u64 (by omega) ?_
  refine ⟨by omega, ?_⟩
  refine kShl1 (by omega) ?_
  refine (ref21_place_ct (s := s) hb).mono ?_
  rintro _ w5 ⟨rfl, hb5⟩; have H5 := H4.pass hb5
  refine ⟨_, rfl, ?_⟩
  refine ⟨hb5.keeps, ?_⟩
  refine bsplit_dec (fun c14 => ?_) (fun c14 => ?_)
  · refine ⟨_, _, _, _, _, _, _, _, _, _, _, _, _, _, _, _, H5.cells (i := 0) rfl, ?_⟩
    refine H5.store (i := 2) rfl (by rfl) (by rfl) ?_; clear H5; intro w6 H6
    refine ⟨_, _, _, _, _, _, _, _, _, _, _, _, _, _, _, _, H6.cells (i := 2) rfl, ?_⟩
    exact efin 11 (by rw [refusedS, if_pos c14]) (by decide) H6
  · refine ⟨fun k1 w11 => k1 = (k : Int) ∧ St A0 [] w0 w11 (rowsQ b b1 b2 s a c p pa pc X ++ .els encPP Ty_api_Partial 5 a c L :: L.map agP) P, ?_, ?_⟩
    · rintro _ _ w11 ⟨rfl, H11⟩
      refine H11.ld (i := 1) rfl rfl ?_
      refine H11.alloc ?_; clear H11; intro b4 w12 H12; have H12 := St.lastTo (X := [_, _, _]) (T := X ++ .els encPP Ty_api_Partial 5 a c L :: L.map agP) H12
      refine H12.store (i := 3) rfl (by rfl) (by rfl) ?_; clear H12; intro w13 H13
      refine ⟨fun found1 w15 => found1 = foundB s p.sn ∧ St A0 [] w0 w15 (rowsQ b b1 b2 s a c p pa pc (.blk b4 Ty_api_Partial (encPP ⟨newPa p.sn, none, 0, none, 0⟩) :: X) ++ .els encPP Ty_api_Partial 5 a c L :: L.map agP) P, ?_, ?_⟩
      · rintro _ _ w15 ⟨rfl, H15⟩
        refine ⟨fun w22 => ∃ (L6 : List PP) (y : PP), L6.map (·.p) = insS s p ∧ Ready L6 k ∧ L6[k]? = some y ∧ (foundB s p.sn = true → L6 = L) ∧ (foundB s p.sn = false → L6 = L.take k ++ ⟨newPa p.sn, none, 0, none, 0⟩ :: L.drop k) ∧ refusedS s p = 0 ∧ St A0 [] w0 w22 (rowsQ b b1 b2 s a c p pa pc (.blk b4 Ty_api_Partial (encPP y) :: X) ++ .els encPP Ty_api_Partial 5 a c L :: L6.map agP) P, ?_, ?_⟩
        · rintro _ w22 ⟨L6, y, hL6, hrd, hy, hLf, hLn, hr0, H22⟩
          obtain ⟨hkL, hr1, hr2, hr3, hr4⟩ := hrd
          obtain rfl : L6[k] = y := by rw [List.getElem?_eq_getElem hkL] at hy; exact Option.some.inj hy
          have hlen6 : (insS s p).length = L6.length := by rw [← hL6, List.length_map]
          have hmg : mergedS s p = mergeS L6[k].p p := by
            unfold mergedS
            rw [← hL6, ← hk, List.getElem?_map, List.getElem?_eq_getElem hkL]; rfl
          have hco6 : ∀ w, P w → CoR L6 w := fun w hw x hx => by
            cases hfb : foundB s p.sn with
            | true => rw [hLf hfb] at hx; exact hco w hw x hx
            | false =>
              rw [hLn hfb] at hx
              rcases List.mem_append.1 hx with hx | hx
              · exact hco w hw x (List.mem_of_mem_take hx)
              · rcases List.mem_cons.1 hx with rfl | hx
                · exact .nil
                · exact hco w hw x (List.mem_of_mem_drop hx)
          have eP : putR s p = (startR (advS (putP s p)), unitS s p, 0) := by rw [putR, if_neg (by rw [hr0]; decide)]
          rw [eP] at h
          dsimp only at h
          obtain ⟨v, hv⟩ : ∃ v : Rc, v = putP s p := ⟨_, rfl⟩
          have hvp : v.parts = (insS s p).set k (if compB (mergedS s p) then donePa p.sn else mergedS s p) := by rw [hv, hk]; rfl
          have hvl : v.parts.length = L6.length := by rw [hvp, List.length_set, hlen6]
          have hvk : v.lk = s.lk := by rw [hv]; rfl
          have hvf : v.first = s.first := by rw [hv]; rfl
          have hvn : v.next = if s.place p.sn ≥ s.place s.next then s.behind p.sn else s.next := by rw [hv]; rfl
          have hvr : v = { s with parts := v.parts, next := v.next } := by rw [hv]; rfl
          rw [← hv] at h
          refine ⟨_, _, _, _, _, _, _, _, _, H22.cells (i := 3) rfl, ?_⟩
          refine ⟨_, _, _, _, _, _, _, H22.cells (i := 1) rfl, ?_⟩
          refine St.mergeR H22 (i := (rowsQ b b1 b2 s a c p pa pc (.blk b4 Ty_api_Partial (encPP L6[k]) :: X)).length + 1 + k) (x := L6[k].p) (a := L6[k].a) (c := L6[k].c) (a2 := L6[k].a2) (c2 := L6[k].c2) (p := p) (pa := pa) (pc := pc) (at_in (by rw [List.getElem?_map, List.getElem?_eq_getElem hkL]; rfl)) ⟨hpo, hpd, hpe⟩ hr1 hr3 hr4 hs (fun w hw => hco6 w hw _ (List.getElem_mem _)) ?_
          intro da dc ca cc w23 hdc H23
          rw [set_in, ← hmg] at H23
          rw [← hmg] at hdc
          obtain ⟨z, hz⟩ : ∃ z : PP, z = ⟨mergedS s p, da, dc, ca, cc⟩ := ⟨_, rfl⟩
          have hzp : z.p = mergedS s p := by rw [hz]
          have e23 : (L6.map agP).set k (.ints Ty_uint8 .u8 da dc (mergedS s p).data) = (L6.set k z).map agP := by rw [List.map_set, hz]; rfl
          rw [e23] at H23
          rw [← hmg]
          refine ⟨_, _, _, _, _, _, _, _, _, rfl, ?_⟩
          refine H23.store (i := 3) rfl (by rfl) (by rfl) ?_; clear H23; intro w24 H24
          replace H24 : St A0 [] w0 w24 (rowsQ b b1 b2 s a c p pa pc (.blk b4 Ty_api_Partial (encPP z) :: X) ++ .els encPP Ty_api_Partial 5 a c L :: (L6.set k z).map agP) (fun w => SlR (CE encR) 3 w z.a2 z.p.come ∧ P w) := by rw [hz] at H24 ⊢; exact H24
          have hzk : k < (L6.set k z).length := by simpa using hkL
          have hzg : (L6.set k z)[k] = z := by simp
          refine ⟨fun ua ul uc w27 => ∃ (z' : PP), z'.p = (if compB (mergedS s p) then donePa p.sn else mergedS s p) ∧ ul = (unitS s p).length ∧ ul ≤ uc ∧ St A0 [] w0 w27 (rowsQ b b1 b2 s a c p pa pc (.blk b4 Ty_api_Partial (encPP z') :: X) ++ .els encPP Ty_api_Partial 5 a c L :: (L6.set k z').map agP) (fun w => SlR (IntC .u8) 1 w ua (unitS s p) ∧ SlR (CE encR) 3 w z'.a2 z'.p.come ∧ P w), ?_, ?_⟩
          · rintro _ ua _ uc w27 ⟨z', hz', rfl, huc, H27⟩
            have hco7 : ∀ w, (SlR (IntC .u8) 1 w ua (unitS s p) ∧ SlR (CE encR) 3 w z'.a2 z'.p.come ∧ P w) → CoR (L6.set k z') w := fun w hw x hx => by
              rcases List.mem_or_eq_of_mem_set hx with hx | rfl
              · exact hco6 w hw.2.2 x hx
              · exact hw.2.1
            have hL7 : (L6.set k z').map (·.p) = v.parts := by rw [List.map_set, hL6, hvp, hz']
            refine ⟨fun w34 => ∃ (a7 : Option Addr) (c7 : Nat), St A0 [] w0 w34 (rowsQ b b1 b2 { s with parts := v.parts } a7 c7 p pa pc X ++ .els encPP Ty_api_Partial 5 a7 c7 (L6.set k z') :: (L6.set k z').map agP) (fun w => SlR (IntC .u8) 1 w ua (unitS s p) ∧ SlR (CE encR) 3 w z'.a2 z'.p.come ∧ P w), ?_, ?_⟩
            · rintro _ w34 ⟨a7, c7, H34⟩
              refine ⟨fun w40 => v.parts.length ≤ c7 ∧ St A0 [] w0 w40 (rowsQ b b1 b2 v a7 c7 p pa pc X) (fun w => PaS w a7 v.parts ∧ SlR (IntC .u8) 1 w ua (unitS s p) ∧ P w), ?_, ?_⟩
              · rintro _ w40 ⟨hc7, H40⟩
                obtain ⟨u, hu⟩ : ∃ u : Rc, u = adv1 v := ⟨_, rfl⟩
                have huk : u.lk = s.lk := by rw [hu]; exact hvk
                have eU : advS v = adv2 u := by rw [hu]; rfl
                rw [eU] at h
                refine ⟨fun w47 => ∃ (a8 : Option Addr) (c8 : Nat), (∀ w, (PaS w a7 v.parts ∧ SlR (IntC .u8) 1 w ua (unitS s p) ∧ P w) → PaS w a8 u.parts) ∧ St A0 [] w0 w47 (rowsQ b b1 b2 u a8 c8 p pa pc X) (fun w => PaS w a7 v.parts ∧ SlR (IntC .u8) 1 w ua (unitS s p) ∧ P w), ?_, ?_⟩
                · rintro _ w47 ⟨a8, c8, hp8, H47⟩
                  have hbu : bitsOk u.lk.bits := by rw [huk]; exact hb
                  have h := h a8 c8 ua uc
                  refine H47.drew ?_; clear H47; intro w48 H48
                  refine ⟨(· < w48.heap.size), ?_⟩
                  refine ⟨_, _, _, _, _, _, _, _, _, _, _, _, _, _, _, _, H48.cells (i := 0) rfl, ?_⟩
                  refine H48.ld (i := 0) rfl rfl ?_
                  refine ⟨H48.lt (i := 0) rfl rfl, ?_⟩
                  refine ⟨_, _, _, _, _, _, _, _, _, _, _, _, _, _, _, _, H48.cells (i := 0) rfl, ?_⟩
                  refine ⟨H48.lt (i := 0) rfl rfl, ?_⟩
                  refine H48.ld (i := 0) rfl rfl ?_
                  refine (ref21_place_ct (s := u) hbu).mono ?_
                  rintro _ w49 ⟨rfl, hb49⟩; have H49 := H48.pass hb49
                  refine ⟨_, rfl, ?_⟩
                  refine ⟨hb49.keeps, ?_⟩
                  refine (ref21_place_ct (s := u) hbu).mono ?_
                  rintro _ w50 ⟨rfl, hb50⟩; have H50 := H49.pass hb50
                  refine ⟨_, rfl, ?_⟩
                  replace hb50 := below_step hb49 (Nat.le_refl _) hb50
                  refine ⟨hb50.keeps, ?_⟩
                  refine bsplit_dec (fun c13 => ?_) (fun c13 => ?_)
                  · refine H50.ld (i := 0) rfl rfl ?_
                    refine H50.set (i := 0) rfl (by show 8 < 14; decide) ?_; clear H50; intro w51 H51
                    have e2 : adv2 u = { u with upto := u.first } := by rw [adv2, if_pos c13]
                    refine ⟨_, _, _, _, _, _, _, _, _, _, _, _, _, _, _, _, H51.cells (i := 0) rfl, ?_⟩
                    refine (ref21_start_ct (s := { u with upto := u.first }) hbu).mono ?_
                    rw [← e2]
                    rintro _ w52 ⟨rfl, hb52⟩; have H52 := H51.pass hb52; clear H51
                    refine ⟨_, _, _, _, _, _, _, _, _, _, _, _, _, _, _, _, rfl, ?_⟩
                    refine H52.store (i := 2) rfl (by rfl) (by rfl) ?_; clear H52; intro w53 H53
                    refine ⟨_, _, _, _, _, _, _, _, _, _, _, _, _, _, _, _, H53.cells (i := 2) rfl, ?_⟩
                    have := h w53 huc ((St.skip (X := []) (St.skip (X := []) (St.skip (X := []) H53))).imp fun w hw => ⟨by rw [(startR_same _).1, e2]; exact hp8 w hw, hw.2⟩)
                    exact this
                  · refine ⟨_, _, _, _, _, _, _, _, _, _, _, _, _, _, _, _, H50.cells (i := 0) rfl, ?_⟩
                    have e2 : adv2 u = u := by rw [adv2, if_neg c13]
                    refine (ref21_start_ct (s := u) hbu).mono ?_
                    rintro _ w54 ⟨rfl, hb54⟩; have H54 := H50.pass hb54; clear H50
                    refine ⟨_, _, _, _, _, _, _, _, _, _, _, _, _, _, _, _, rfl, ?_⟩
                    refine H54.store (i := 2) rfl (by rfl) (by rfl) ?_; clear H54; intro w55 H55
                    refine ⟨_, _, _, _, _, _, _, _, _, _, _, _, _, _, _, _, H55.cells (i := 2) rfl, ?_⟩
                    rw [e2] at h
                    exact h w55 huc ((St.skip (X := []) (St.skip (X := []) (St.skip (X := []) H55))).imp fun w hw => ⟨by rw [(startR_same _).1]; exact hp8 w hw, hw.2⟩)
                · refine ⟨fun m w41 => ∃ (t : Rc) (ta : Option Addr) (tc : Nat), m = t.parts.length ∧ t = { v with first := t.first, parts := t.parts } ∧ dropS v.lk.bits t.first t.parts = dropS v.lk.bits v.first v.parts ∧ (0 ≤ t.first ∧ t.first ≤ 1000000) ∧ t.parts.length ≤ tc ∧ (∀ w, (PaS w a7 v.parts ∧ SlR (IntC .u8) 1 w ua (unitS s p) ∧ P w) → PaS w ta t.parts) ∧ St A0 [] w0 w41 (rowsQ b b1 b2 t ta tc p pa pc X) (fun w => PaS w a7 v.parts ∧ SlR (IntC .u8) 1 w ua (unitS s p) ∧ P w),
                    ⟨_, v, a7, c7, rfl, rfl, rfl, by rw [hvf]; unfold snOk at hs1; omega, hc7, fun _ hw => hw.1, H40⟩, ?_⟩
                  clear H40
                  rintro _ m w41 ⟨t, ta, tc, rfl, ht, hd, hft, htc, hpt, H41⟩
                  have htk : t.lk = s.lk := by rw [ht]; exact hvk
                  have hbt : bitsOk t.lk.bits := by rw [htk]; exact hb
                  have hex : (∀ p l, t.parts = p :: l → p.sn = t.first → p.done = true → False) → ∀ w3, St A0 [] w0 w3 (rowsQ b b1 b2 t ta tc p pa pc X) (fun w => PaS w a7 v.parts ∧ SlR (IntC .u8) 1 w ua (unitS s p) ∧ P w) → ∃ (a8 : Option Addr) (c8 : Nat), (∀ w, (PaS w a7 v.parts ∧ SlR (IntC .u8) 1 w ua (unitS s p) ∧ P w) → PaS w a8 u.parts) ∧ St A0 [] w0 w3 (rowsQ b b1 b2 u a8 c8 p pa pc X) (fun w => PaS w a7 v.parts ∧ SlR (IntC .u8) 1 w ua (unitS s p) ∧ P w) := fun hno w3 H3 => by
                    have e : u = t := by
                      rw [hu, ht]
                      unfold adv1
                      rw [← hd]
                      have : dropS v.lk.bits t.first t.parts = (t.first, t.parts) := by
                        cases hl : t.parts with
                        | nil => rfl
                        | cons p l => rw [dropS, if_neg (fun h => hno p l hl h.1 h.2)]
                      rw [this]
                    rw [e]
                    exact ⟨ta, tc, hpt, H3⟩
                  refine ⟨fun w43 => (∃ p l, t.parts = p :: l ∧ p.sn = t.first ∧ p.done = true) ∧ St A0 [] w0 w43 (rowsQ b b1 b2 t ta tc p pa pc X) (fun w => PaS w a7 v.parts ∧ SlR (IntC .u8) 1 w ua (unitS s p) ∧ P w), ?_, ?_⟩
                  · rintro _ w43 ⟨⟨p0, l, hl, hps, hpd0⟩, H43⟩
                    have hll : t.parts.length = l.length + 1 := by rw [hl]; rfl
                    refine H43.ldS (i := 0) rfl rfl ?_
                    refine ⟨⟨by omega, by omega⟩, ?_⟩
                    refine H43.set (i := 0) rfl (by show 13 < 14; decide) ?_; clear H43; intro w44 H44
                    replace H44 : St A0 [] w0 w44 (rowsQ b b1 b2 { t with parts := l } (slAddr tc (1 : Int).toNat 5 ta) (tc - (1 : Int).toNat) p pa pc X) (fun w => PaS w a7 v.parts ∧ SlR (IntC .u8) 1 w ua (unitS s p) ∧ P w) := by
                      have : l.length = t.parts.length - (1 : Int).toNat := by rw [hll]; rfl
                      unfold rowsQ encRc
                      rw [show ({ t with parts := l } : Rc).parts.length = t.parts.length - (1 : Int).toNat from this]
                      exact H44
                    refine H44.ld (i := 0) rfl rfl ?_
                    refine H44.ld (i := 0) rfl rfl ?_
                    show kW .i64 (t.first + 1) _
                    refine kW_i64 (by omega) ?_
                    refine ref02_Low_ct.mono ?_
                    rintro _ w45 ⟨rfl, hb45⟩; have H45 := H44.pass hb45; clear H44
                    rw [if_pos (by obtain ⟨h1, h2⟩ := hbt; exact ⟨by show 1 ≤ t.lk.bits; omega, by show t.lk.bits ≤ 32; omega⟩)]
                    refine ⟨_, rfl, ?_⟩
                    refine H45.set (i := 0) rfl (by show 6 < 14; decide) ?_; clear H45; intro w46 H46
                    have hpw := pow_bits hbt
                    refine ⟨_, ?_, { t with parts := l, first := t.behind t.first }, _, _, rfl, ?_, ?_, ?_, ?_, ?_, H46⟩
                    · rw [hll]; show l.length < l.length + 1; omega
                    · rw [ht]
                    · rw [← hd, hl, dropS, if_pos ⟨hps, hpd0⟩]
                      show dropS v.lk.bits (t.behind t.first) l = _
                      rw [Rc.behind, show t.lk = v.lk by rw [ht]]
                    · show 0 ≤ t.behind t.first ∧ t.behind t.first ≤ 1000000
                      unfold Rc.behind
                      have h1 := Int.emod_nonneg (t.first + 1) (b := 2 ^ t.lk.bits.toNat) (by omega)
                      have h2 := Int.emod_lt_of_pos (t.first + 1) (b := 2 ^ t.lk.bits.toNat) (by omega)
                      omega
                    · show l.length ≤ tc - 1
                      omega
                    · intro w9 h9
                      have h3 := hpt w9 h9
                      have h4 := h3.1.tailE (m := tc) (l := 1) htc
                      rw [hl] at h4
                      exact ⟨h4, h3.2.tail _ _ _⟩
                  · refine H41.drew ?_; clear H41; intro w42 H42
                    refine H42.ldS (i := 0) rfl rfl ?_
                    refine bsplit_dec (fun c12 => ?_) (fun c12 => ?_)
                    · refine H42.ldS (i := 0) rfl rfl ?_
                      have hlt : 0 < t.parts.length := by omega
                      refine ixPa (hpt _ H42.get).1 0 rfl hlt fun b9 hbb => ?_
                      obtain ⟨p0, l, hl⟩ : ∃ p l, t.parts = p :: l := by
                        cases h : t.parts with
                        | nil => rw [h] at hlt; simp at hlt
                        | cons p l => exact ⟨p, l, rfl⟩
                      have hp0 : t.parts[0] = p0 := by simp [hl]
                      rw [hp0] at hbb
                      obtain ⟨a1, c1', a2, c2', hbb, _, _, _⟩ := hbb
                      refine ⟨_, by have := cellsAt_get hbb 1 _ rfl; rwa [Nat.zero_add] at this, ?_⟩
                      refine bsplit_intro (fun c11 => ?_) (fun c11 => ?_)
                      · refine H42.ldS (i := 0) rfl rfl ?_
                        refine ixPa (hpt _ H42.get).1 0 rfl hlt fun b10 hb1 => ?_
                        rw [hp0] at hb1
                        obtain ⟨a3, c3', a4, c4', hb1, _, _, _⟩ := hb1
                        refine ⟨_, by have := cellsAt_get hb1 0 _ rfl; rwa [Nat.zero_add, add_zero] at this, ?_⟩
                        refine H42.ld (i := 0) rfl rfl ?_
                        refine bsplit_dec (fun c10 => ?_) (fun c10 => ?_)
                        · exact ⟨⟨p0, l, hl, c10, c11⟩, H42⟩
                        · exact hex (fun p' l' h1 h2 h3 => by rw [hl] at h1; injection h1 with h1 _; subst h1; exact c10 h2) _ H42
                      · exact hex (fun p' l' h1 h2 h3 => by rw [hl] at h1; injection h1 with h1 _; subst h1; rw [h3] at c11; cases c11) _ H42
                    · exact hex (fun p' l' h1 h2 h3 => by rw [h1] at c12; simp at c12) _ H42
              · refine H34.drew ?_; clear H34; intro w35 H35
                refine ⟨(· < w35.heap.size), ?_⟩
                refine ⟨_, _, _, _, _, _, _, _, _, _, _, _, _, _, _, _, H35.cells (i := 0) rfl, ?_⟩
                refine H35.ld (i := 1) rfl rfl ?_
                refine ⟨H35.lt (i := 0) rfl rfl, ?_⟩
                refine ⟨_, _, _, _, _, _, _, _, _, _, _, _, _, _, _, _, H35.cells (i := 0) rfl, ?_⟩
                refine ⟨H35.lt (i := 0) rfl rfl, ?_⟩
                refine H35.ld (i := 0) rfl rfl ?_
                refine (ref21_place_ct (s := { s with parts := v.parts }) hb).mono ?_
                rintro _ w36 ⟨rfl, hb36⟩; have H36 := H35.pass hb36
                refine ⟨_, rfl, ?_⟩
                refine ⟨hb36.keeps, ?_⟩
                refine (ref21_place_ct (s := { s with parts := v.parts }) hb).mono ?_
                rintro _ w37 ⟨rfl, hb37⟩; have H37 := H36.pass hb37
                refine ⟨_, rfl, ?_⟩
                replace hb37 := below_step hb36 (Nat.le_refl _) hb37
                refine ⟨hb37.keeps, ?_⟩
                refine bsplit_dec (fun c9 => ?_) (fun c9 => ?_)
                · refine H37.ld (i := 0) rfl rfl ?_
                  refine H37.ld (i := 1) rfl rfl ?_
                  refine kW_i64 (by unfold snOk at hsn; omega) ?_
                  refine ref02_Low_ct.mono ?_
                  rintro _ w38 ⟨rfl, hb38⟩; have H38 := H37.pass hb38; clear H37
                  rw [if_pos (by exact ⟨by show 1 ≤ s.lk.bits; omega, by show s.lk.bits ≤ 32; omega⟩)]
                  refine ⟨_, rfl, ?_⟩
                  refine H38.set (i := 0) rfl (by show 7 < 14; decide) ?_; clear H38; intro w39 H39
                  rw [if_pos (show s.place p.sn ≥ s.place s.next from c9)] at hvn
                  have hcap := H39.capE (i := (rowsQ b b1 b2 s a c p pa pc X).length) at_mid
                  refine ⟨by rw [hvl]; simpa using hcap, ?_⟩
                  have K := readFS (X := rowsQ b b1 b2 v a7 c7 p pa pc X) (by rw [hvr, hvn]; exact H39) hco7
                  rw [hL7] at K
                  exact K.imp fun w hw => ⟨hw.1, hw.2.1, hw.2.2.2⟩
                · rw [if_neg (show ¬ s.place p.sn ≥ s.place s.next from c9)] at hvn
                  have hcap := H37.capE (i := (rowsQ b b1 b2 s a c p pa pc X).length) at_mid
                  refine ⟨by rw [hvl]; simpa using hcap, ?_⟩
                  have K := readFS (X := rowsQ b b1 b2 v a7 c7 p pa pc X) (by rw [hvr, hvn]; exact H37) hco7
                  rw [hL7] at K
                  exact K.imp fun w hw => ⟨hw.1, hw.2.1, hw.2.2.2⟩
            · refine bsplit_intro (fun c8 => ?_) (fun c8 => ?_)
              · have hLL := hLf c8
                subst hLL
                refine H27.ldS (i := 0) rfl rfl ?_
                refine ⟨_, _, _, _, _, _, _, _, _, H27.cells (i := 3) rfl, ?_⟩
                obtain ⟨g, rfl, -, -⟩ := H27.rowSome (i := (rowsQ b b1 b2 s a c p pa pc (.blk b4 Ty_api_Partial (encPP z') :: X)).length) at_mid (by omega)
                refine ⟨⟨g, 0, none⟩, rfl, ⟨by omega, by omega⟩, ?_⟩
                dsimp only
                rw [elA0]
                refine H27.storeEl encPP_ok (i := (rowsQ b b1 b2 s (some ⟨g, 0, none⟩) c p pa pc (.blk b4 Ty_api_Partial (encPP z') :: X)).length) at_mid hkL z' ?_; intro w28 _ H28
                rw [set_mid] at H28
                have H28 := St.skip (X := [_, _, _]) H28
                refine ⟨some ⟨g, 0, none⟩, c, ?_⟩
                have e : encRc { s with parts := v.parts } (some ⟨g, 0, none⟩) c = encRc s (some ⟨g, 0, none⟩) c := by unfold encRc; simp only [hvl, hlen]
                unfold rowsQ
                rw [e]
                exact H28
              · have hLL := hLn (by simpa using c8)
                have hcap := H27.capE (i := (rowsQ b b1 b2 s a c p pa pc (.blk b4 Ty_api_Partial (encPP z') :: X)).length) at_mid
                refine H27.drew ?_; clear H27; intro w29 H29
                refine ⟨fun x => x = b, ?_⟩
                refine ⟨rfl, ?_⟩
                refine H29.ldS (i := 0) rfl rfl ?_
                refine ⟨⟨by omega, by omega⟩, ?_⟩
                refine ⟨_, _, _, _, _, _, _, _, _, H29.cells (i := 3) rfl, ?_⟩
                refine ⟨rfl, ?_⟩
                refine H29.ldS (i := 0) rfl rfl ?_
                refine ⟨⟨by omega, by omega⟩, ?_⟩
                refine H29.allocB ?_; intro b8 w30 hb30 H30
                have H30 := St.lastTo (X := []) (St.litLast [z'] encPP_ok (b := b8) (t := Ty_api_Partial) (show St A0 [] w0 w30 ((rowsQ b b1 b2 s a c p pa pc (.blk b4 Ty_api_Partial (encPP z') :: X) ++ .els encPP Ty_api_Partial 5 a c L :: (L6.set k z').map agP) ++ [.blk b8 Ty_api_Partial ([z'].flatMap encPP)]) _ from H30) (by show 1 ≤ maxLen; decide))
                replace H30 : St A0 [] w0 w30 ((.els encPP Ty_api_Partial 5 (some ⟨b8, 0, none⟩) 1 [z'] :: rowsQ b b1 b2 s a c p pa pc (.blk b4 Ty_api_Partial (encPP z') :: X)) ++ .els encPP Ty_api_Partial 5 a c L :: (L6.set k z').map agP) (fun w => SlR (IntC .u8) 1 w ua (unitS s p) ∧ SlR (CE encR) 3 w z'.a2 z'.p.come ∧ P w) := H30
                have hs30 : SlR (CE encPP) 5 w30 (slAddr c k 5 a) (L.drop k) := (H30.slE encPP_ok (i := (Res.els encPP Ty_api_Partial 5 (some ⟨b8, 0, none⟩) 1 [z'] :: rowsQ b b1 b2 s a c p pa pc (.blk b4 Ty_api_Partial (encPP z') :: X)).length) at_mid).tailE hcap
                refine ⟨keepB1 (H29.ok 0 _ rfl) (H30.ok 1 _ rfl), ?_⟩
                rw [Int.toNat_natCast]
                refine H30.appEn encPP_ok (i := 0) rfl sl_Ty_S_api_Partial (zs := L.drop k) hs30 rfl (by rw [List.length_drop, hlen]) (by simp; omega) (by simp; omega) ?_; intro a9 c9 w31 H31
                replace H31 : St A0 [] w0 w31 ((.els encPP Ty_api_Partial 5 a9 c9 ([z'] ++ L.drop k) :: rowsQ b b1 b2 s a c p pa pc (.blk b4 Ty_api_Partial (encPP z') :: X)) ++ .els encPP Ty_api_Partial 5 a c L :: (L6.set k z').map agP) (fun w => SlR (IntC .u8) 1 w ua (unitS s p) ∧ SlR (CE encR) 3 w z'.a2 z'.p.come ∧ P w) := H31
                refine ⟨keepB1 (H29.ok 0 _ rfl) (H31.ok 1 _ rfl), ?_⟩
                have H31 := H31.trimE encPP_ok (i := (Res.els encPP Ty_api_Partial 5 a9 c9 ([z'] ++ L.drop k) :: rowsQ b b1 b2 s a c p pa pc (.blk b4 Ty_api_Partial (encPP z') :: X)).length) at_mid k hkl
                rw [set_mid] at H31
                rw [slA0, Nat.sub_zero, Nat.sub_zero]
                have ek : (L.take k).length = k := by rw [List.length_take]; omega
                have hdl : ([z'] ++ L.drop k).length ≤ 700 := by simp; omega
                refine H31.appEn encPP_ok (i := (Res.els encPP Ty_api_Partial 5 a9 c9 ([z'] ++ L.drop k) :: rowsQ b b1 b2 s a c p pa pc (.blk b4 Ty_api_Partial (encPP z') :: X)).length) at_mid sl_Ty_S_api_Partial (zs := [z'] ++ L.drop k) (H31.slE encPP_ok (i := 0) rfl) ek.symm rfl (by rw [ek]; omega) (by rw [ek]; omega) ?_; intro a10 c10 w32 H32
                rw [set_mid] at H32
                refine ⟨keepB1 (H29.ok 0 _ rfl) (H32.ok 1 _ rfl), ?_⟩
                refine H32.set (i := 1) rfl (by show 13 < 14; decide) ?_; intro w33 H33
                have H33 := St.skip (X := [_, _, _]) (St.skip (X := []) H33)
                have e7 : L6.set k z' = L.take k ++ ([z'] ++ L.drop k) := by
                  rw [hLL, List.set_append_right _ _ (by omega), ek, Nat.sub_self]; rfl
                have e8 : v.parts.length = (L.take k ++ ([z'] ++ L.drop k)).length := by rw [hvl, ← e7, List.length_set]
                refine ⟨a10, c10, ?_⟩
                have e : encRc { s with parts := v.parts } a10 c10 = (encRc s a c).set 13 (.slice a10 (L.take k ++ ([z'] ++ L.drop k)).length c10) := by unfold encRc; simp only [e8]; rfl
                unfold rowsQ
                rw [e, e7]
                rw [e7] at H33
                exact H33
          · refine ⟨_, _, _, _, _, _, _, _, _, H24.cells (i := 3) rfl, ?_⟩
            refine (ref21_whole_ct (x := z.p) H24.get.1).mono ?_
            rw [hzp]
            rintro _ w25 ⟨rfl, hb25⟩; have H25 := H24.pass hb25; clear H24
            refine ⟨_, rfl, ?_⟩
            refine bsplit_intro (fun c7 => ?_) (fun c7 => ?_)
            · refine H25.ldS (i := 3) rfl rfl ?_
              refine H25.ld (i := 1) rfl rfl ?_
              refine H25.store (i := 3) rfl (by rfl) (by rfl) ?_; clear H25; intro w26 H26
              have K := swapDa (X := rowsQ b b1 b2 s a c p pa pc (.blk b4 Ty_api_Partial (encPP ⟨donePa p.sn, none, 0, none, 0⟩) :: X)) H26 hzk ⟨donePa p.sn, none, 0, none, 0⟩ rfl
              rw [List.set_set, hzg] at K
              refine ⟨⟨donePa p.sn, none, 0, none, 0⟩, by rw [if_pos c7], by rw [unitS, if_pos c7, ← hzp], by rw [hzp, hz]; exact hdc, K.imp fun w hw => ⟨by rw [unitS, if_pos c7, ← hzp]; exact (ints_ok hw.1).sl, .nil, hw.2.2⟩⟩
            · have c7' : ¬ compB (mergedS s p) = true := by rw [c7]; decide
              exact ⟨z, by rw [if_neg c7', hzp], by rw [unitS, if_neg c7']; rfl, Nat.zero_le _, H25.imp fun w hw => ⟨by rw [unitS, if_neg c7']; exact .nil, hw⟩⟩
        · refine bsplit_intro (fun c6 => ?_) (fun c6 => ?_)
          · obtain ⟨hk1, hk2⟩ := found_at c6
            have hkL : k < L.length := by rw [hk]; omega
            have hx : s.parts[atP s p.sn]? = some L[k].p := by rw [← hk, ← hL, List.getElem?_map, List.getElem?_eq_getElem hkL]; rfl
            obtain ⟨g, rfl, -, -⟩ := H15.rowSome (i := (rowsQ b b1 b2 s a c p pa pc (.blk b4 Ty_api_Partial (encPP ⟨newPa p.sn, none, 0, none, 0⟩) :: X)).length) at_mid (by omega)
            refine H15.ldS (i := 0) rfl rfl ?_
            refine ⟨⟨g, 0, none⟩, rfl, ⟨by omega, by omega⟩, ?_⟩
            dsimp only
            rw [elA0]
            refine ⟨_, _, _, _, _, _, _, _, _, H15.cellsEl encPP_ok (i := (rowsQ b b1 b2 s (some ⟨g, 0, none⟩) c p pa pc (.blk b4 Ty_api_Partial (encPP ⟨newPa p.sn, none, 0, none, 0⟩) :: X)).length) at_mid hkL, ?_⟩
            refine H15.store (i := 3) rfl (by rfl) (by rfl) ?_; clear H15; intro w16 H16
            replace H16 : St A0 [] w0 w16 (rowsQ b b1 b2 s (some ⟨g, 0, none⟩) c p pa pc (.blk b4 Ty_api_Partial (encPP L[k]) :: X) ++ .els encPP Ty_api_Partial 5 (some ⟨g, 0, none⟩) c L :: L.map agP) P := H16
            refine H16.ldB (i := 3) rfl rfl ?_
            refine bsplit_intro (fun c5 => ?_) (fun c5 => ?_)
            · refine ⟨_, _, _, _, _, _, _, _, _, _, _, _, _, _, _, _, H16.cells (i := 0) rfl, ?_⟩
              refine H16.store (i := 2) rfl (by rfl) (by rfl) ?_; clear H16; intro w17 H17
              refine ⟨_, _, _, _, _, _, _, _, _, _, _, _, _, _, _, _, H17.cells (i := 2) rfl, ?_⟩
              exact efin 12 (by rw [refX_eq, if_pos c6, hx, refX, if_neg c14]; exact if_pos c5) (by decide) (St.skip (X := [_, _, _]) H17)
            · have hpb := (hall _ (List.mem_of_getElem? hx)).1
              rw [paB, if_neg (by rw [c5]; decide), Bool.and_eq_true, decide_eq_true_iff] at hpb
              have hcl := paNum_len hpb.1
              obtain ⟨⟨-, hne, hno, -, hen, hdl, -⟩, -⟩ := hpb
              have hpos := end_pos hno hne
              have c5' : ¬ L[k].p.done = true := by rw [c5]; decide
              refine ⟨_, _, _, _, _, _, _, _, _, H16.cells (i := 3) rfl, ?_⟩
              refine ⟨_, _, _, _, _, _, _, H16.cells (i := 1) rfl, ?_⟩
              refine (ref21_contradicts_ct (x := L[k].p) (p := p) hen (by omega) ⟨by omega, by omega, by omega⟩).mono ?_
              rintro _ w18 ⟨rfl, hb18⟩; have H18 := H16.pass hb18; clear H16
              refine ⟨_, rfl, ?_⟩
              refine bsplit_intro (fun c4 => ?_) (fun c4 => ?_)
              · refine ⟨_, _, _, _, _, _, _, _, _, _, _, _, _, _, _, _, H18.cells (i := 0) rfl, ?_⟩
                refine H18.store (i := 2) rfl (by rfl) (by rfl) ?_; clear H18; intro w19 H19
                refine ⟨_, _, _, _, _, _, _, _, _, _, _, _, _, _, _, _, H19.cells (i := 2) rfl, ?_⟩
                exact efin 4 (by rw [refX_eq, if_pos c6, hx, refX, if_neg c14]; rw [if_neg c5', if_pos c4]) (by decide) (St.skip (X := [_, _, _]) H19)
              · refine ⟨_, _, _, _, _, _, _, _, _, H18.cells (i := 3) rfl, ?_⟩
                refine ⟨_, _, _, _, _, _, _, H18.cells (i := 1) rfl, ?_⟩
                refine (ref21_has_ct (x := L[k].p) (p := p) (hco _ H18.get _ (List.getElem_mem hkL)) (by omega) ⟨by omega, by omega, by omega⟩).mono ?_
                rintro _ w20 ⟨rfl, hb20⟩; have H20 := H18.pass hb20; clear H18
                refine ⟨_, rfl, ?_⟩
                refine bsplit_intro (fun c3 => ?_) (fun c3 => ?_)
                · refine ⟨_, _, _, _, _, _, _, _, _, _, _, _, _, _, _, _, H20.cells (i := 0) rfl, ?_⟩
                  refine H20.store (i := 2) rfl (by rfl) (by rfl) ?_; clear H20; intro w21 H21
                  refine ⟨_, _, _, _, _, _, _, _, _, _, _, _, _, _, _, _, H21.cells (i := 2) rfl, ?_⟩
                  exact efin 12 (by rw [refX_eq, if_pos c6, hx, refX, if_neg c14]; rw [if_neg c5', if_neg (by rw [c4]; decide), if_pos c3]) (by decide) (St.skip (X := [_, _, _]) H21)
                · exact ⟨L, L[k], by rw [insS, if_pos c6, hL], ⟨hkL, by omega, .inl (by omega), by omega, hno⟩, List.getElem?_eq_getElem hkL, fun _ => rfl, fun h => absurd h (by rw [c6]; decide), by rw [refX_eq, if_pos c6, hx, refX, if_neg c14]; rw [if_neg c5', if_neg (by rw [c4]; decide), if_neg (by rw [c3]; decide)], H20⟩
          · have c6' : ¬ foundB s p.sn = true := by rw [c6]; decide
            have hkn : k < (L.take k ++ (⟨newPa p.sn, none, 0, none, 0⟩ : PP) :: L.drop k).length := by simp; omega
            have hgn : (L.take k ++ (⟨newPa p.sn, none, 0, none, 0⟩ : PP) :: L.drop k)[k] = ⟨newPa p.sn, none, 0, none, 0⟩ := by
              rw [List.getElem_append_right (by simp; omega)]
              simp [show k - min k L.length = 0 by omega]
            refine ⟨_, ⟨newPa p.sn, none, 0, none, 0⟩, ?_, ⟨hkn, ?_⟩, ?_, fun h => absurd h c6', fun _ => rfl, ?_, insDa (k := k) H15 ⟨newPa p.sn, none, 0, none, 0⟩ rfl⟩
            · rw [insS, if_neg c6', List.map_append, List.map_cons, List.map_take, List.map_drop, hL, hk]
            · rw [hgn]; exact ⟨Nat.zero_le _, .inr ⟨rfl, rfl, rfl⟩, Nat.zero_le _, rfl⟩
            · rw [List.getElem?_eq_getElem hkn, hgn]
            · rw [refX_eq, if_neg c6', refX, if_neg c14]
      · refine H13.drew ?_; clear H13; intro w14 H14
        refine H14.ldS (i := 0) rfl rfl ?_
        refine bsplit_dec (fun c2 => ?_) (fun c2 => ?_)
        · have hkL : k < L.length := by omega
          have hx : s.parts[atP s p.sn]? = some L[k].p := by rw [← hk, ← hL, List.getElem?_map, List.getElem?_eq_getElem hkL]; rfl
          obtain ⟨g, rfl, -, -⟩ := H14.rowSome (i := (rowsQ b b1 b2 s a c p pa pc (.blk b4 Ty_api_Partial (encPP ⟨newPa p.sn, none, 0, none, 0⟩) :: X)).length) at_mid (by omega)
          refine H14.ldS (i := 0) rfl rfl ?_
          refine ⟨⟨g, 0, none⟩, rfl, ⟨by omega, by omega⟩, ?_⟩
          dsimp only
          rw [elA0]
          refine ⟨_, H14.cellEl encPP_ok (i := (rowsQ b b1 b2 s (some ⟨g, 0, none⟩) c p pa pc (.blk b4 Ty_api_Partial (encPP ⟨newPa p.sn, none, 0, none, 0⟩) :: X)).length) at_mid hkL (j := 0) (by decide) rfl, ?_⟩
          refine H14.ld (i := 1) rfl rfl ?_
          refine kLet_in ?_
          exact ⟨by unfold foundB; rw [hx], H14⟩
        · exact ⟨by unfold foundB; rw [← hk, List.getElem?_eq_none (by omega)], H14⟩
    · have kfin : ∀ j : Nat, j ≤ L.length → (∀ i (hi : i < s.parts.length), i < j → s.place s.parts[i].sn < s.place p.sn) → (∀ hj : j < s.parts.length, ¬ s.place s.parts[j].sn < s.place p.sn) → (j : Int) = (k : Int) := fun j hj h1 h2 => by
        have : k = j := by rw [hk]; exact while_len (by omega) (fun i hi h => decide_eq_true (h1 i hi h)) fun hj => decide_eq_false (h2 hj)
        rw [this]
      refine ⟨fun k1 => ((L.length - k1).toNat, fun w7 => ∃ j : Nat, k1 = j ∧ j ≤ L.length ∧ (∀ i (hi : i < s.parts.length), i < j → s.place s.parts[i].sn < s.place p.sn) ∧ St A0 [] w0 w7 (rowsQ b b1 b2 s a c p pa pc X ++ .els encPP Ty_api_Partial 5 a c L :: L.map agP) P), ⟨0, rfl, by omega, fun i _ h => by omega, H5⟩, ?_⟩
      clear H5
      rintro _ k1 w7 ⟨j, rfl, hj, hlt, H7⟩
      refine H7.drew ?_; clear H7; intro w8 H8
      refine ⟨(· < w8.heap.size), ?_⟩
      refine H8.ldS (i := 0) rfl rfl ?_
      refine bsplit_dec (fun c1 => ?_) (fun c1 => ?_)
      · have hjL : j < L.length := by omega
        obtain ⟨hj', hjp⟩ := hLp j hjL
        obtain ⟨g, rfl, -, -⟩ := H8.rowSome (i := (rowsQ b b1 b2 s a c p pa pc X).length) at_mid (by omega)
        refine ⟨_, _, _, _, _, _, _, _, _, _, _, _, _, _, _, _, H8.cells (i := 0) rfl, ?_⟩
        refine H8.ldS (i := 0) rfl rfl ?_
        refine ⟨⟨g, 0, none⟩, rfl, ⟨by omega, by omega⟩, ?_⟩
        dsimp only
        rw [elA0]
        refine ⟨_, H8.cellEl encPP_ok (i := (rowsQ b b1 b2 s (some ⟨g, 0, none⟩) c p pa pc X).length) at_mid hjL (j := 0) (by decide) rfl, ?_⟩
        refine ⟨H8.lt (i := 0) rfl rfl, ?_⟩
        refine ⟨_, _, _, _, _, _, _, _, _, _, _, _, _, _, _, _, H8.cells (i := 0) rfl, ?_⟩
        refine ⟨H8.lt (i := 1) rfl rfl, ?_⟩
        refine H8.ld (i := 1) rfl rfl ?_
        refine (ref21_place_ct (s := s) hb).mono ?_
        rintro _ w9 ⟨rfl, hb9⟩; have H9 := H8.pass hb9
        refine ⟨_, rfl, ?_⟩
        refine ⟨hb9.keeps, ?_⟩
        refine (ref21_place_ct (s := s) hb).mono ?_
        rintro _ w10 ⟨rfl, hb10⟩; have H10 := H9.pass hb10
        refine ⟨_, rfl, ?_⟩
        replace hb10 := below_step hb9 (Nat.le_refl _) hb10
        refine ⟨hb10.keeps, ?_⟩
        refine bsplit_dec (fun c0 => ?_) (fun c0 => ?_)
        · rw [hjp] at c0
          refine kW_i64 (by omega) ?_
          exact ⟨⟨j + 1, by omega, by omega, fun i hi h => by
            rcases Nat.lt_or_ge i j with h' | h'
            · exact hlt i hi h'
            · obtain rfl : i = j := by omega
              exact c0, H10⟩, by omega⟩
        · rw [hjp] at c0
          exact ⟨kfin j hj hlt fun _ => c0, H10⟩
      · exact ⟨kfin j hj hlt fun h => by omega, H8⟩
end
end Go.Proofs.YthceaojjeokclaaGreat
namespace Go.Proofs.YthceaojjeokclaaGreat
open Go.Sx Go.RowKit
set_option maxRecDepth 100000
section
variable {s : Rc} {a : Option Addr} {c : Nat} {b_a : Option Addr} {b_c : Nat} {bs : List Int} {w : World}
def RetRS (w : World) (x : Rc) (u : List Int) (E : Int) (e : Ending) (w' : World) : Prop :=
  ∃ a c ba bc, e = .returned (.tuple #[aggRc x a c, .slice ba u.length bc, .int .i64 E]) ∧ u.length ≤ bc ∧ Fresh w w' fun w => PaS w a x.parts ∧ SlR (IntC .u8) 1 w ba u
theorem ref21_Receive_soft (hu : PaR w a s.parts) (hl : SmP s.parts) (hs : SlR (IntC .u8) 1 w b_a bs) (hB : Bytes bs) (hlb : bs.length ≤ 140737488355328) (hcap : bs.length ≤ b_c) :
    Calls Tryz.prog N_ref21_Receive #[aggRc s a c, .slice b_a bs.length b_c] w (RetRS w (recS s bs).1 (recS s bs).2.1 (recS s bs).2.2) := by
  apply F_ref21_Receive_ok
  unfold F_ref21_Receive
  have H := St.nil w
  refine H.alloc ?_; clear H; intro b w1 H1
  refine H1.alloc ?_; clear H1; intro b1 w2 H2
  refine ⟨_, _, _, _, _, _, _, _, _, _, _, _, _, _, _, _, H2.cells (i := 0) rfl, ?_⟩
  refine (ref21_Valid_ct (paR_below hu H2.below) hl).mono ?_
  rintro _ w3 ⟨rfl, hb3⟩; have H3 := H2.pass hb3; clear H2
  refine ⟨_, rfl, ?_⟩
  refine bsplit_n (fun c2 => ?_) (fun c2 => ?_)
  · refine H3.store (i := 1) rfl (by rfl) (by rfl) ?_; clear H3; intro w4 H4
    refine ⟨_, _, _, _, _, _, _, _, _, _, _, _, _, _, _, _, H4.cells (i := 1) rfl, ?_⟩
    rw [recS, if_pos c2]
    exact ⟨none, 0, none, 0, rfl, Nat.le_refl _, H4.fin.imp fun w _ => ⟨⟨.nil, Soft.none_ w⟩, .nil⟩⟩
  · obtain ⟨hf, hlk, hs1, hs2, hs3, hqq, hall⟩ := rc_fit c2
    obtain ⟨q, hq⟩ : ∃ q, q = decP s.lk.bits bs := ⟨_, rfl⟩
    have e0 : recS s bs = if q.2 ≠ 0 then (s, [], q.2) else (pollR (putR s q.1).1 q.1, (putR s q.1).2.1, (putR s q.1).2.2) := by
      rw [hq, recS, if_neg (by rw [c2]; decide)]
      dsimp only
      congr 1
      unfold putR
      split <;> rfl
    rw [e0]
    refine ⟨_, _, _, _, _, _, _, _, _, _, _, _, _, _, _, _, H3.cells (i := 0) rfl, ?_⟩
    refine (ref21_Copy_ct (paR_below hu H3.below) hf).mono ?_
    rintro _ w5 ⟨ua5, uc5, L5, hL5, rfl, K5⟩; have H5 := H3.callF K5; clear H3
    try simp only [List.cons_append, List.nil_append] at H5
    refine ⟨_, _, _, _, _, _, _, _, _, _, _, _, _, _, _, _, rfl, ?_⟩
    refine H5.alloc ?_; clear H5; intro b2 w6 H6
    have H6 := St.lastTo (X := [_, _]) H6
    try simp only [List.cons_append, List.nil_append] at H6
    refine H6.store (i := 2) rfl (by rfl) (by rfl) ?_; clear H6; intro w7 H7
    refine H7.ld (i := 0) rfl rfl ?_
    have C8 := ref18_Decode_ct (bits := s.lk.bits) (b_c := b_c) (hs.below H7.below) hB hlb hcap
    rw [← hq] at C8
    refine C8.mono ?_; clear C8
    rintro _ w8 ⟨pa, pc, hpc, rfl, K8⟩; have H8 := H7.callF K8; clear H7
    rw [List.append_nil] at H8
    refine ⟨_, _, _, _, _, _, _, _, rfl, ?_⟩
    refine H8.alloc ?_; clear H8; intro b3 w9 H9
    have H9 := St.lastTo (X := [_, _, _]) H9
    try simp only [List.cons_append, List.nil_append] at H9
    refine H9.store (i := 3) rfl (by rfl) (by rfl) ?_; clear H9; intro w10 H10
    refine bsplit_nd (fun c1 => ?_) (fun c1 => ?_)
    · refine ⟨_, _, _, _, _, _, _, _, _, _, _, _, _, _, _, _, H10.cells (i := 2) rfl, ?_⟩
      refine H10.store (i := 1) rfl (by rfl) (by rfl) ?_; clear H10; intro w11 H11
      refine ⟨_, _, _, _, _, _, _, _, _, _, _, _, _, _, _, _, H11.cells (i := 1) rfl, ?_⟩
      rw [if_pos c1]
      exact ⟨ua5, uc5, none, 0, rfl, Nat.le_refl _, (readFS (X := [_, _, _, _]) H11 fun _ h => h.2.1).fin.imp fun _ h => ⟨by rw [← hL5]; exact h.1, .nil⟩⟩
    · have hq0 : q.2 = 0 := by simpa using c1
      rw [if_neg (by rw [hq0]; decide)]
      obtain ⟨pcc, hpcc⟩ : ∃ pcc, pcc = q.1 := ⟨_, rfl⟩
      have hpok : pcc.ok s.lk.bits := by rw [hpcc]; rw [hq] at hq0 ⊢; exact decP_good hq0
      rw [← hpcc] at H10 hpc ⊢
      obtain ⟨R, hR⟩ : ∃ R, R = putR s pcc := ⟨_, rfl⟩
      rw [← hR]
      refine ⟨_, _, _, _, _, _, _, _, _, _, _, _, _, _, _, _, H10.cells (i := 2) rfl, ?_⟩
      refine ⟨_, _, _, _, _, _, _, H10.cells (i := 3) rfl, ?_⟩
      refine putRef_ct (X := [_, _, _, _]) (p := pcc) H10 hL5 c2 hpok (fun _ h => h.1) (fun _ h => h.2.1) ?_
      rw [← hR]
      intro a' c' ba bc w12 hbc H12
      refine ⟨_, _, _, _, _, _, _, _, _, _, _, _, _, _, _, _, _, _, _, _, rfl, ?_⟩
      refine H12.store (i := 2) rfl (by rfl) (by rfl) ?_; clear H12; intro w13 H13
      refine H13.ld (i := 3) rfl rfl ?_
      have e1 : ∀ (h : pcc.poll = 1), pollR R.1 pcc = { R.1 with due := true, upto := R.1.next } := fun h => by rw [pollR, if_pos h]
      have e2 : ∀ (h : ¬ pcc.poll = 1), pollR R.1 pcc = R.1 := fun h => by rw [pollR, if_neg h]
      refine bsplit_dec (fun c => ?_) (fun c => ?_)
      · refine H13.ld (i := 2) rfl rfl ?_
        refine H13.set (i := 2) rfl (by simp [encRc]) ?_; clear H13; intro w14 H14
        refine H14.set (i := 2) rfl (by simp [encRc]) ?_; clear H14; intro w15 H15
        refine ⟨_, _, _, _, _, _, _, _, _, _, _, _, _, _, _, _, H15.cells (i := 2) rfl, ?_⟩
        refine H15.store (i := 1) rfl (by rfl) (by rfl) ?_; clear H15; intro w16 H16
        refine ⟨_, _, _, _, _, _, _, _, _, _, _, _, _, _, _, _, H16.cells (i := 1) rfl, ?_⟩
        rw [e1 c]
        exact ⟨a', c', ba, bc, rfl, hbc, H16.fin.imp fun _ h => ⟨h.1, h.2.1⟩⟩
      · refine ⟨_, _, _, _, _, _, _, _, _, _, _, _, _, _, _, _, H13.cells (i := 2) rfl, ?_⟩
        refine H13.store (i := 1) rfl (by rfl) (by rfl) ?_; clear H13; intro w17 H17
        refine ⟨_, _, _, _, _, _, _, _, _, _, _, _, _, _, _, _, H17.cells (i := 1) rfl, ?_⟩
        rw [e2 c]
        exact ⟨a', c', ba, bc, rfl, hbc, H17.fin.imp fun _ h => ⟨h.1, h.2.1⟩⟩
theorem ref21_Receive_ct (hu : PaR w a s.parts) (hl : SmP s.parts) (hs : SlR (IntC .u8) 1 w b_a bs) (hB : Bytes bs) (hlb : bs.length ≤ 140737488355328) (hcap : bs.length ≤ b_c) :
    Calls Tryz.prog N_ref21_Receive #[aggRc s a c, .slice b_a bs.length b_c] w (RetRU w (recS s bs).1 (recS s bs).2.1 (recS s bs).2.2) :=
  (ref21_Receive_soft hu hl hs hB hlb hcap).mono fun _ _ ⟨a, c, ba, bc, h1, h2, h3⟩ => ⟨a, c, ba, bc, h1, h2, h3.imp fun _ h => ⟨h.1.1, h.2⟩⟩
end
end Go.Proofs.YthceaojjeokclaaGreat
namespace Go.Proofs.YthceaojjeokclaaGreat
open Go.Sx Go.RowKit
set_option maxRecDepth 100000
theorem eqP_link {x y : Operand} {l : Lk} {F : Bool → Prop} (h : F false) : EqP Tryz.prog .neq Ty_api_Link x y (.agg #[.int .i64 l.bits, .int .i64 l.every, .int .i64 l.poll, .int .i64 l.wait, .int .i64 l.quiet, .int .i64 l.tries]) (.agg #[.int .i64 l.bits, .int .i64 l.every, .int .i64 l.poll, .int .i64 l.wait, .int .i64 l.quiet, .int .i64 l.tries]) F := by
  refine eqP_ints (k' := .i64) (e := Ty_int) (xs := [l.bits, l.every, l.poll, l.wait, l.quiet, l.tries]) (ys := [l.bits, l.every, l.poll, l.wait, l.quiet, l.tries]) (by kernel_rfl) (by kernel_rfl) (by kernel_rfl) (by kernel_rfl) (by kernel_rfl) (by kernel_rfl) rfl ?_
  rw [decide_eq_true rfl]; exact h
theorem paC_at {w : World} {p : Addr} {u : Pa} {a : Option Addr} {c : Nat} {a2 : Option Addr} {c2 : Nat} (h : cellsAt w p 0 (encPa u a c a2 c2)) (j : Nat) {v : Value} (hv : (encPa u a c a2 c2)[j]? = some v) : w.cell? (p.add j) = some v := by
  have := cellsAt_get h j _ hv; rwa [Nat.zero_add] at this
theorem ref21_Same_ct {s : Rc} {a a' : Option Addr} {c c' : Nat} {w : World} (hu : PaR w a s.parts) (hu' : PaR w a' s.parts) (hl : SmP s.parts) (hby : ∀ u ∈ s.parts, Bytes u.data) :
    Calls Tryz.prog N_ref21_Same #[aggRc s a c, aggRc s a' c'] w fun e w' => e = .returned (.bool true) ∧ Below w.heap.size w w' := by
  apply F_ref21_Same_ok
  unfold F_ref21_Same
  have H := St.nil w
  obtain ⟨hl0, hl1⟩ := hl
  refine H.alloc ?_; clear H; intro b w1 H1
  refine H1.alloc ?_; clear H1; intro b1 w2 H2
  simp only [List.cons_append, List.nil_append] at H2
  replace H2 : St (fun _ => False) [] w w2 [.blk b Ty_api_Receiver (encRc s a c), .blk b1 Ty_api_Receiver (encRc s a' c')] (fun _ => True) := H2
  refine ⟨fun x12 w3 => St (fun _ => False) [] w w3 [.blk b Ty_api_Receiver (encRc s a c), .blk b1 Ty_api_Receiver (encRc s a' c')] (fun _ => True) ∧ x12 = false, ?_, ?_⟩
  · rintro _ x12 w3 ⟨H3, rfl⟩
    refine bsplit_intro (fun c13 => by cases c13) (fun _ => ?_)
    refine ⟨fun i => ((s.parts.length - i).toNat, fun w4 => ∃ k : Nat, i = k ∧ k ≤ s.parts.length ∧ St (fun _ => False) [] w w4 [.blk b Ty_api_Receiver (encRc s a c), .blk b1 Ty_api_Receiver (encRc s a' c')] (fun _ => True)), ⟨0, rfl, by omega, H3⟩, ?_⟩
    clear H3
    rintro _ i w4 ⟨k, rfl, hk, H4⟩
    refine H4.ldS (i := 0) rfl rfl ?_
    refine bsplit_dec (fun c12 => ?_) (fun c12 => ⟨rfl, H4.below⟩)
    have hlt : k < s.parts.length := by omega
    obtain ⟨u, hue⟩ : ∃ u, u = s.parts[k] := ⟨_, rfl⟩
    have hmu : u ∈ s.parts := by rw [hue]; exact List.getElem_mem _
    refine ⟨fun x13 y w14 => St (fun _ => False) [] w w14 [.blk b Ty_api_Receiver (encRc s a c), .blk b1 Ty_api_Receiver (encRc s a' c')] (fun _ => True) ∧ PaC w14 x13 u ∧ PaC w14 y u, ?_, ?_⟩
    · rintro _ x13 y w14 ⟨H14, hx, hy⟩
      obtain ⟨xa, xc, xa2, xc2, hx, hxd, hxr, hxc⟩ := hx
      obtain ⟨ya, yc, ya2, yc2, hy, hyd, hyr, hyc⟩ := hy
      refine ⟨fun x20 w17 => St (fun _ => False) [] w w17 [.blk b Ty_api_Receiver (encRc s a c), .blk b1 Ty_api_Receiver (encRc s a' c')] (fun _ => True) ∧ x20 = false, ?_, ?_⟩
      · rintro _ x20 w17 ⟨H17, rfl⟩
        refine bsplit_intro (fun c => by cases c) (fun _ => ?_)
        refine kW_i64 (by omega) ?_
        exact ⟨⟨k + 1, by omega, by omega, H17⟩, by dsimp only; omega⟩
      · refine ⟨_, paC_at hx 0 rfl, ?_⟩
        refine ⟨_, paC_at hy 0 rfl, ?_⟩
        refine bsplit_nd (fun h => absurd rfl h) (fun _ => ?_)
        refine ⟨_, paC_at hx 1 rfl, ?_⟩
        refine ⟨_, paC_at hy 1 rfl, ?_⟩
        refine bsplit_n (fun h => by simp at h) (fun _ => ?_)
        refine ⟨_, paC_at hx 2 rfl, ?_⟩
        refine ⟨_, paC_at hy 2 rfl, ?_⟩
        refine bsplit_nd (fun h => absurd rfl h) (fun _ => ?_)
        refine ⟨_, _, _, paC_at hx 3 rfl, ?_⟩
        refine ⟨_, _, _, paC_at hy 3 rfl, ?_⟩
        refine (ref01_Same_ct hxd hyd (hby u hmu) (hby u hmu)).mono ?_
        rintro _ w15 ⟨rfl, hb15⟩; have H15 := H14.pass hb15
        refine ⟨_, rfl, ?_⟩
        refine bsplit_n (fun h => by simp at h) (fun _ => ?_)
        refine ⟨_, _, _, paC_at (cells_below hx hb15) 4 rfl, ?_⟩
        refine ⟨_, _, _, paC_at (cells_below hy hb15) 4 rfl, ?_⟩
        refine (ref18_SameRanges_ct (hxr.belowE hb15) (hyr.belowE hb15) (hl1 u hmu).1).mono ?_
        rintro _ w16 ⟨rfl, hb16⟩
        refine ⟨_, rfl, ?_⟩
        exact ⟨H15.pass hb16, by simp⟩
    · refine H4.drew ?_; clear H4; intro w5 H5
      have hu5 := paR_below hu H5.below
      have hu5' := paR_below hu' H5.below
      refine ⟨(· < w5.heap.size), ?_⟩
      refine ⟨H5.lt (i := 0) rfl rfl, ?_⟩
      refine H5.ldS (i := 0) rfl rfl ?_
      refine ixPa hu5 k rfl hlt fun b2 hb2 => ?_
      rw [← hue] at hb2
      obtain ⟨xa, xc, xa2, xc2, hx, hxd, hxr, hxc⟩ := hb2
      refine ⟨cell_lt (paC_at hx 0 rfl), ?_⟩
      refine ⟨_, _, _, _, _, _, _, _, _, hx, ?_⟩
      refine ⟨H5.lt (i := 1) rfl rfl, ?_⟩
      refine H5.ldS (i := 1) rfl rfl ?_
      refine ixPa hu5' k rfl hlt fun b3 hb3 => ?_
      rw [← hue] at hb3
      obtain ⟨ya, yc, ya2, yc2, hy, hyd, hyr, hyc⟩ := hb3
      refine ⟨cell_lt (paC_at hy 0 rfl), ?_⟩
      refine ⟨_, _, _, _, _, _, _, _, _, hy, ?_⟩
      refine ⟨?_, ?_, trivial⟩
      · have L := St.nil w5
        refine L.alloc ?_; clear L; intro b6 w10 L10
        refine ⟨L10.below.keeps, ?_⟩
        refine L10.alloc ?_; clear L10; intro b7 w11 L11
        refine ⟨L11.below.keeps, ?_⟩
        simp only [List.cons_append, List.nil_append] at L11
        refine L11.store (i := 0) rfl (by rfl) (by rfl) ?_; clear L11; intro w12 L12
        refine ⟨L12.below.keeps, ?_⟩
        simp only [List.set_cons_zero] at L12
        refine L12.store (i := 1) rfl (by rfl) (by rfl) ?_; clear L12; intro w13 L13
        simp only [List.set_cons_succ, List.set_cons_zero] at L13
        exact ⟨H5.pass L13.below, ⟨xa, xc, xa2, xc2, L13.cells (i := 0) rfl, hxd.below L13.below, hxr.belowE L13.below, hxc⟩, ⟨ya, yc, ya2, yc2, L13.cells (i := 1) rfl, hyd.below L13.below, hyr.belowE L13.below, hyc⟩⟩
      · have L := St.nil w5
        refine L.alloc ?_; clear L; intro b6 w10 L10
        refine ⟨L10.below.keeps, ?_⟩
        refine L10.alloc ?_; clear L10; intro b7 w11 L11
        refine ⟨L11.below.keeps, ?_⟩
        simp only [List.cons_append, List.nil_append] at L11
        refine L11.store (i := 1) rfl (by rfl) (by rfl) ?_; clear L11; intro w12 L12
        refine ⟨L12.below.keeps, ?_⟩
        simp only [List.set_cons_succ, List.set_cons_zero] at L12
        refine L12.store (i := 0) rfl (by rfl) (by rfl) ?_; clear L12; intro w13 L13
        simp only [List.set_cons_succ, List.set_cons_zero] at L13
        exact ⟨H5.pass L13.below, ⟨xa, xc, xa2, xc2, L13.cells (i := 1) rfl, hxd.below L13.below, hxr.belowE L13.below, hxc⟩, ⟨ya, yc, ya2, yc2, L13.cells (i := 0) rfl, hyd.below L13.below, hyr.belowE L13.below, hyc⟩⟩
  · refine ⟨_, _, _, _, _, _, H2.cellsAt (i := 0) rfl (by rfl), ?_⟩
    refine ⟨_, _, _, _, _, _, H2.cellsAt (i := 1) rfl (by rfl), ?_⟩
    refine eqP_link ?_
    refine bsplit_intro (fun h => by cases h) (fun _ => ?_)
    refine H2.ld (i := 0) rfl rfl ?_
    refine H2.ld (i := 1) rfl rfl ?_
    refine bsplit_nd (fun h => absurd rfl h) (fun _ => ?_)
    refine H2.ld (i := 0) rfl rfl ?_
    refine H2.ld (i := 1) rfl rfl ?_
    refine bsplit_nd (fun h => absurd rfl h) (fun _ => ?_)
    refine H2.ld (i := 0) rfl rfl ?_
    refine H2.ld (i := 1) rfl rfl ?_
    refine bsplit_nd (fun h => absurd rfl h) (fun _ => ?_)
    refine H2.ld (i := 0) rfl rfl ?_
    refine H2.ld (i := 1) rfl rfl ?_
    refine bsplit_nd (fun h => absurd rfl h) (fun _ => ?_)
    refine H2.ld (i := 0) rfl rfl ?_
    refine H2.ld (i := 1) rfl rfl ?_
    refine bsplit_nd (fun h => absurd rfl h) (fun _ => ?_)
    refine H2.ld (i := 0) rfl rfl ?_
    refine H2.ld (i := 1) rfl rfl ?_
    refine bsplit_nd (fun h => absurd rfl h) (fun _ => ?_)
    refine H2.ldB (i := 0) rfl rfl ?_
    refine H2.ldB (i := 1) rfl rfl ?_
    refine bsplit_n (fun h => by simp at h) (fun _ => ?_)
    refine H2.ldS (i := 0) rfl rfl ?_
    refine H2.ldS (i := 1) rfl rfl ?_
    exact ⟨H2, by simp⟩
end Go.Proofs.YthceaojjeokclaaGreat
namespace Go.Sx
theorem bytes_mem {xs : List Int} : Bytes xs ↔ ∀ x ∈ xs, 0 ≤ x ∧ x < 256 :=
  ⟨fun h x hx => by obtain ⟨i, hi, rfl⟩ := List.getElem_of_mem hx; exact h i hi, fun h i hi => h _ (List.getElem_mem _)⟩
theorem bytes_nil : Bytes [] := fun i hi => by simp at hi
theorem layD_bytes {d b : List Int} {o : Nat} (hd : Bytes d) (hb : Bytes b) : Bytes (layD d o b) := by
  rw [bytes_mem] at *
  have h : ∀ x ∈ d ++ List.replicate (o + b.length - d.length) (0 : Int), 0 ≤ x ∧ x < 256 := fun x hx => by
    rcases List.mem_append.1 hx with hx | hx
    · exact hd x hx
    · rw [(List.mem_replicate.1 hx).2]; omega
  intro x hx
  unfold layD at hx
  rcases List.mem_append.1 hx with hx | hx
  · rcases List.mem_append.1 hx with hx | hx
    · exact h x (List.mem_of_mem_take hx)
    · exact hb x hx
  · exact h x (List.mem_of_mem_drop hx)
theorem union_len (sn : Int) : ∀ (l : List Rg) (f t : Int), (unionS sn l f t).length ≤ l.length + 1
  | [], f, t => by simp [unionS]
  | x :: l, f, t => by
    have ih := union_len sn l
    unfold unionS
    split
    · have := ih f t; simp only [List.length_cons]; omega
    · split
      · simp only [List.length_cons, List.length_map]; omega
      · have := ih (if x.f < f then x.f else f) (if x.t > t then x.t else t); simp only [List.length_cons]; omega
theorem decP_bytes {b : Int} {bs : List Int} (h : Bytes bs) : Bytes (decP b bs).1.data := by
  have hz : Bytes Pc.zero.data := bytes_nil
  unfold decP
  split
  · exact hz
  · split
    · exact hz
    · split
      · exact hz
      · split
        · exact hz
        · rw [bytes_mem] at *
          exact fun x hx => h x (List.mem_of_mem_drop hx)
def GPa (x : Pa) : Prop := x.come.length ≤ 140737488355328 ∧ x.data.length ≤ 140737488355328 ∧ Bytes x.data
def GP (L : List Pa) : Prop := L.length ≤ 140737488355328 ∧ ∀ x ∈ L, GPa x
theorem gp_nil : GP [] := ⟨Nat.zero_le _, fun x hx => by simp at hx⟩
theorem dropS_sub (b : Int) : ∀ (l : List Pa) (f : Int), (dropS b f l).2.length ≤ l.length ∧ ∀ x ∈ (dropS b f l).2, x ∈ l
  | [], f => ⟨Nat.le_refl _, fun x hx => hx⟩
  | p :: l, f => by
    unfold dropS
    split
    · obtain ⟨h1, h2⟩ := dropS_sub b l ((f + 1) % 2 ^ b.toNat)
      exact ⟨by simp only [List.length_cons]; omega, fun x hx => .tail _ (h2 x hx)⟩
    · exact ⟨Nat.le_refl _, fun x hx => hx⟩
theorem advS_parts (s : Rc) : (advS s).parts = (dropS s.lk.bits s.first s.parts).2 := by
  unfold advS adv2; split <;> rfl
theorem ins_mem {s : Rc} {p : Pc} {x : Pa} (h : x ∈ insS s p) : x ∈ s.parts ∨ x = newPa p.sn := by
  unfold insS at h
  split at h
  · exact .inl h
  · rcases List.mem_append.1 h with h | h
    · exact .inl (List.mem_of_mem_take h)
    · rcases List.mem_cons.1 h with h | h
      · exact .inr h
      · exact .inl (List.mem_of_mem_drop h)
theorem ins_len (s : Rc) (p : Pc) : (insS s p).length ≤ s.parts.length + 1 := by
  unfold insS
  split
  · omega
  · simp only [List.length_append, List.length_cons, List.length_take, List.length_drop]; omega
theorem merged_gpa {s : Rc} {p : Pc} (h : ∀ x ∈ s.parts, x.come.length ≤ 3000 ∧ x.data.length ≤ 3000 ∧ Bytes x.data) (hb : Bytes p.data) (ho : 0 ≤ p.off ∧ p.off + p.data.length ≤ 2054) : GPa (mergedS s p) := by
  have key : ∀ x : Pa, (x.come.length ≤ 3000 ∧ x.data.length ≤ 3000 ∧ Bytes x.data) → GPa (mergeS x p) := fun x ⟨h1, h2, h3⟩ => by
    refine ⟨?_, ?_, ?_⟩
    · have := union_len p.sn x.come p.off p.en
      show (unionS p.sn x.come p.off p.en).length ≤ _
      omega
    · show (layD x.data p.off.toNat p.data).length ≤ _
      rw [layD_len]; omega
    · exact layD_bytes h3 hb
  unfold mergedS
  cases hx : (insS s p)[atP s p.sn]? with
  | none => exact key _ ⟨Nat.zero_le _, Nat.zero_le _, bytes_nil⟩
  | some x =>
    rcases ins_mem (List.mem_of_getElem? hx) with h1 | rfl
    · exact key _ (h x h1)
    · exact key _ ⟨Nat.zero_le _, Nat.zero_le _, bytes_nil⟩
theorem put_gp {s : Rc} {p : Pc} (hl : s.parts.length ≤ 600) (h : ∀ x ∈ s.parts, x.come.length ≤ 3000 ∧ x.data.length ≤ 3000 ∧ Bytes x.data) (hb : Bytes p.data) (ho : 0 ≤ p.off ∧ p.off + p.data.length ≤ 2054) : GP (putP s p).parts := by
  have hm := merged_gpa h hb ho
  have hl2 := ins_len s p
  refine ⟨?_, fun x hx => ?_⟩
  · show ((insS s p).set _ _).length ≤ _
    rw [List.length_set]; omega
  · have hx : x ∈ (insS s p).set (atP s p.sn) (if compB (mergedS s p) then donePa p.sn else mergedS s p) := hx
    rcases List.mem_or_eq_of_mem_set hx with hx | rfl
    · rcases ins_mem hx with h1 | rfl
      · obtain ⟨h2, h3, h4⟩ := h x h1; exact ⟨by omega, by omega, h4⟩
      · exact ⟨Nat.zero_le _, Nat.zero_le _, bytes_nil⟩
    · split
      · exact ⟨Nat.zero_le _, Nat.zero_le _, bytes_nil⟩
      · exact hm
end Go.Sx
namespace Go.Sx
theorem GP.sm {L : List Pa} (h : GP L) : SmP L := ⟨by have := h.1; omega, fun x hx => by obtain ⟨h1, h2, _⟩ := h.2 x hx; omega⟩
theorem GP.bys {L : List Pa} (h : GP L) : ∀ x ∈ L, Bytes x.data := fun x hx => (h.2 x hx).2.2
theorem unit_bytes {s : Rc} {p : Pc} (h : GPa (mergedS s p)) : Bytes (unitS s p) := by
  unfold unitS; split
  · exact h.2.2
  · exact bytes_nil
theorem rec_gp {s : Rc} {bs : List Int} (h : GP s.parts) (hB : Bytes bs) : GP (recS s bs).1.parts ∧ Bytes (recS s bs).2.1 := by
  unfold recS
  by_cases h1 : s.okB = false
  · rw [if_pos h1]; exact ⟨gp_nil, bytes_nil⟩
  rw [if_neg h1]
  dsimp only
  by_cases h2 : (decP s.lk.bits bs).2 ≠ 0
  · rw [if_pos h2]; exact ⟨h, bytes_nil⟩
  rw [if_neg h2]
  by_cases h3 : refusedS s (decP s.lk.bits bs).1 ≠ 0
  · rw [if_pos h3]; exact ⟨by rw [pollR_parts]; exact h, bytes_nil⟩
  rw [if_neg h3]
  have hok : s.okB = true := by simpa using h1
  obtain ⟨hf, -⟩ := rc_fit hok
  have hp := decP_good (by simpa using h2)
  obtain ⟨-, -, -, -, -, ho, hd, he⟩ := hp
  have hx : ∀ x ∈ s.parts, x.come.length ≤ 3000 ∧ x.data.length ≤ 3000 ∧ Bytes x.data := fun x hx => ⟨(hf.2 x hx).1, (hf.2 x hx).2, (h.2 x hx).2.2⟩
  have hb := decP_bytes (b := s.lk.bits) hB
  have g := put_gp hf.1 hx hb ⟨ho.1, he⟩
  refine ⟨?_, unit_bytes (merged_gpa hx hb ⟨ho.1, he⟩)⟩
  rw [pollR_parts, (startR_same _).1, advS_parts]
  obtain ⟨k1, k2⟩ := dropS_sub (putP s (decP s.lk.bits bs).1).lk.bits (putP s (decP s.lk.bits bs).1).parts (putP s (decP s.lk.bits bs).1).first
  exact ⟨Nat.le_trans k1 g.1, fun x hx => g.2 x (k2 x hx)⟩
theorem tick_gp {s : Rc} (h : GP s.parts) : GP (tickRc s).1.parts := by
  unfold tickRc
  split
  · exact gp_nil
  · dsimp only
    split
    · exact h
    · rw [tick2_parts]; exact h
theorem encS_bytes (bits : Int) (s : Stt) : Bytes (encS bits s).1 := by
  unfold encS
  split
  · exact bytes_S _
  · exact bytes_nil
theorem rep_gp {s : Rc} {size : Int} (h : GP s.parts) : GP (repR s size).1.parts ∧ Bytes (repR s size).2.1 := by
  unfold repR
  by_cases h1 : s.okB = false
  · rw [if_pos h1]; exact ⟨gp_nil, bytes_nil⟩
  rw [if_neg h1]
  by_cases h2 : size < 0 ∨ size > 4096
  · rw [if_pos h2]; exact ⟨gp_nil, bytes_nil⟩
  rw [if_neg h2]
  by_cases h3 : s.due = false ∨ s.quiet > 0
  · rw [if_pos h3]; exact ⟨gp_nil, bytes_nil⟩
  rw [if_neg h3]
  dsimp only
  by_cases h4 : (fitR s.lk.bits (statR s).1 size).2 ≠ 0
  · rw [if_pos h4]; exact ⟨gp_nil, bytes_nil⟩
  · rw [if_neg h4]; exact ⟨h, encS_bytes _ _⟩
end Go.Sx
namespace Go.Proofs.YthceaojjeokclaaGreat
open Go.Sx Go.RowKit
set_option maxRecDepth 100000
section
variable {s : Rc} {a : Option Addr} {c : Nat} {b_a : Option Addr} {b_c : Nat} {bs : List Int} {size : Int} {w : World}
theorem law21_agree_ct (hu : PaR w a s.parts) (hg : GP s.parts) (hs : SlR (IntC .u8) 1 w b_a bs) (hB : Bytes bs) (hlb : bs.length ≤ 140737488355328) (hcap : bs.length ≤ b_c) :
    Calls Tryz.prog N_law21_agree #[aggRc s a c, .slice b_a bs.length b_c, .int .i64 size] w fun e w' => e = .returned (.bool true) ∧ Below w.heap.size w w' := by
  have hl := hg.sm
  obtain ⟨p1, h1⟩ : ∃ p, p = recS s bs := ⟨_, rfl⟩
  obtain ⟨p2, h2⟩ : ∃ p, p = tickRc s := ⟨_, rfl⟩
  obtain ⟨p3, h3⟩ : ∃ p, p = statR s := ⟨_, rfl⟩
  obtain ⟨p4, h4⟩ : ∃ p, p = repR s size := ⟨_, rfl⟩
  obtain ⟨g1, by1⟩ : GP p1.1.parts ∧ Bytes p1.2.1 := by rw [h1]; exact rec_gp hg hB
  have g2 : GP p2.1.parts := by rw [h2]; exact tick_gp hg
  obtain ⟨g4, by4⟩ : GP p4.1.parts ∧ Bytes p4.2.1 := by rw [h4]; exact rep_gp hg
  have l3 : p3.1.miss.length ≤ 64 := by rw [h3]; exact statR_len s
  apply F_law21_agree_ok
  unfold F_law21_agree
  have H := St.nil w
  refine H.alloc ?_; clear H; intro b w1 H1
  refine ⟨_, _, _, _, _, _, _, _, _, _, _, _, _, _, _, _, H1.cells (i := 0) rfl, ?_⟩
  have C := receiver_Receive_ct (s := s) (a := a) (c := c) (bs := bs) (b_a := b_a) (b_c := b_c) (paR_below hu H1.below) hl (hs.below H1.below) hB hlb hcap
  rw [← h1] at C
  refine C.mono ?_; clear C
  rintro _ w2 ⟨a2, c2, ba2, bc2, rfl, hbc2, K⟩; have H2 := H1.callF K; clear K H1
  simp only [List.cons_append, List.nil_append] at H2
  refine ⟨_, _, _, _, _, _, _, _, _, _, _, _, _, _, _, _, _, _, _, _, rfl, ?_⟩
  refine H2.alloc ?_; clear H2; intro b1 w3 H3
  simp only [List.cons_append, List.nil_append] at H3
  refine H3.store (i := 1) rfl (by rfl) (by rfl) ?_; clear H3; intro w4 H4
  simp only [List.set_cons_succ, List.set_cons_zero] at H4
  refine ⟨_, _, _, _, _, _, _, _, _, _, _, _, _, _, _, _, H4.cells (i := 0) rfl, ?_⟩
  have C := ref21_Receive_ct (s := s) (a := a) (c := c) (bs := bs) (b_a := b_a) (b_c := b_c) (paR_below hu H4.below) hl (hs.below H4.below) hB hlb hcap
  rw [← h1] at C
  refine C.mono ?_; clear C
  rintro _ w5 ⟨a5, c5, ba5, bc5, rfl, hbc5, K⟩; have H5 := H4.callF K; clear K H4
  simp only [List.cons_append, List.nil_append, List.append_nil] at H5
  refine ⟨_, _, _, _, _, _, _, _, _, _, _, _, _, _, _, _, _, _, _, _, rfl, ?_⟩
  refine H5.alloc ?_; clear H5; intro b2 w6 H6
  simp only [List.cons_append, List.nil_append] at H6
  refine H6.store (i := 2) rfl (by rfl) (by rfl) ?_; clear H6; intro w7 H7
  simp only [List.set_cons_succ, List.set_cons_zero] at H7
  refine ⟨_, _, _, _, _, _, _, _, _, _, _, _, _, _, _, _, H7.cells (i := 0) rfl, ?_⟩
  have C := receiver_Tick_ct (s := s) (a := a) (c := c) (paR_below hu H7.below) hl
  rw [← h2] at C
  refine C.mono ?_; clear C
  rintro _ w8 hh; obtain ⟨a8, c8, rfl, K⟩ := hh.read; have H8 := H7.callF K; clear hh K H7
  simp only [List.cons_append, List.nil_append, List.append_nil] at H8
  refine ⟨_, _, _, _, _, _, _, _, _, _, _, _, _, _, _, _, _, rfl, ?_⟩
  refine H8.alloc ?_; clear H8; intro b3 w9 H9
  simp only [List.cons_append, List.nil_append] at H9
  refine H9.store (i := 3) rfl (by rfl) (by rfl) ?_; clear H9; intro w10 H10
  simp only [List.set_cons_succ, List.set_cons_zero] at H10
  refine ⟨_, _, _, _, _, _, _, _, _, _, _, _, _, _, _, _, H10.cells (i := 0) rfl, ?_⟩
  have C := ref21_Tick_ct (s := s) (a := a) (c := c) (paR_below hu H10.below) hl
  rw [← h2] at C
  refine C.mono ?_; clear C
  rintro _ w11 hh; obtain ⟨a11, c11, rfl, K⟩ := hh.read; have H11 := H10.callF K; clear hh K H10
  simp only [List.cons_append, List.nil_append, List.append_nil] at H11
  refine ⟨_, _, _, _, _, _, _, _, _, _, _, _, _, _, _, _, _, rfl, ?_⟩
  refine H11.alloc ?_; clear H11; intro b4 w12 H12
  simp only [List.cons_append, List.nil_append] at H12
  refine H12.store (i := 4) rfl (by rfl) (by rfl) ?_; clear H12; intro w13 H13
  simp only [List.set_cons_succ, List.set_cons_zero] at H13
  refine ⟨_, _, _, _, _, _, _, _, _, _, _, _, _, _, _, _, H13.cells (i := 0) rfl, ?_⟩
  have C := receiver_Status_ct (s := s) (a := a) (c := c) (paR_below hu H13.below) hl
  rw [← h3] at C
  refine C.mono ?_; clear C
  rintro _ w14 ⟨a14, c14, _, rfl, K⟩; have H14 := H13.callF K; clear K H13
  simp only [List.cons_append, List.nil_append, List.append_nil] at H14
  refine ⟨_, _, _, _, _, rfl, ?_⟩
  refine H14.alloc ?_; clear H14; intro b5 w15 H15
  simp only [List.cons_append, List.nil_append] at H15
  refine H15.store (i := 5) rfl (by rfl) (by rfl) ?_; clear H15; intro w16 H16
  simp only [List.set_cons_succ, List.set_cons_zero] at H16
  refine ⟨_, _, _, _, _, _, _, _, _, _, _, _, _, _, _, _, H16.cells (i := 0) rfl, ?_⟩
  have C := ref21_Status_ct (s := s) (a := a) (c := c) (paR_below hu H16.below) hl
  rw [← h3] at C
  refine C.mono ?_; clear C
  rintro _ w17 ⟨a17, c17, _, rfl, K⟩; have H17 := H16.callF K; clear K H16
  simp only [List.cons_append, List.nil_append, List.append_nil] at H17
  refine ⟨_, _, _, _, _, rfl, ?_⟩
  refine H17.alloc ?_; clear H17; intro b6 w18 H18
  simp only [List.cons_append, List.nil_append] at H18
  refine H18.store (i := 6) rfl (by rfl) (by rfl) ?_; clear H18; intro w19 H19
  simp only [List.set_cons_succ, List.set_cons_zero] at H19
  refine ⟨_, _, _, _, _, _, _, _, _, _, _, _, _, _, _, _, H19.cells (i := 0) rfl, ?_⟩
  have C := receiver_Report_ct (s := s) (a := a) (c := c) (size := size) (paR_below hu H19.below) hl
  rw [← h4] at C
  refine C.mono ?_; clear C
  rintro _ w20 hh; obtain ⟨a20, c20, ba20, bc20, _, rfl, K⟩ := hh.read; have H20 := H19.callF K; clear hh K H19
  simp only [List.cons_append, List.nil_append, List.append_nil] at H20
  refine ⟨_, _, _, _, _, _, _, _, _, _, _, _, _, _, _, _, _, _, _, _, rfl, ?_⟩
  refine H20.alloc ?_; clear H20; intro b7 w21 H21
  simp only [List.cons_append, List.nil_append] at H21
  refine H21.store (i := 7) rfl (by rfl) (by rfl) ?_; clear H21; intro w22 H22
  simp only [List.set_cons_succ, List.set_cons_zero] at H22
  refine ⟨_, _, _, _, _, _, _, _, _, _, _, _, _, _, _, _, H22.cells (i := 0) rfl, ?_⟩
  have C := ref21_Report_ct (s := s) (a := a) (c := c) (size := size) (paR_below hu H22.below) hl
  rw [← h4] at C
  refine C.mono ?_; clear C
  rintro _ w23 hh; obtain ⟨a23, c23, ba23, bc23, _, rfl, K⟩ := hh.read; have H23 := H22.callF K; clear hh K H22
  simp only [List.cons_append, List.nil_append, List.append_nil] at H23
  refine ⟨_, _, _, _, _, _, _, _, _, _, _, _, _, _, _, _, _, _, _, _, rfl, ?_⟩
  refine H23.alloc ?_; clear H23; intro b8 w24 H24
  simp only [List.cons_append, List.nil_append] at H24
  refine H24.store (i := 8) rfl (by rfl) (by rfl) ?_; clear H24; intro w25 H25
  simp only [List.set_cons_succ, List.set_cons_zero] at H25
  refine H25.drew ?_; clear H25; intro w26 H26
  obtain ⟨⟨u23, d23⟩, ⟨u20, d20⟩, m17, m14, u11, u8, ⟨u5, d5⟩, ⟨u2, d2⟩, -⟩ := H26.get
  refine ⟨(· < w26.heap.size), ?_⟩
  refine ⟨_, _, _, _, _, _, _, _, _, _, _, _, _, _, _, _, H26.cells (i := 0) rfl, ?_⟩
  refine ⟨H26.lt (i := 0) rfl rfl, ?_⟩
  refine ⟨_, _, _, _, _, _, _, _, _, _, _, _, _, _, _, _, H26.cells (i := 0) rfl, ?_⟩
  refine (receiver_Valid_ct (paR_below hu H26.below) hl).mono ?_
  rintro _ w27 ⟨rfl, hb27⟩; have H27 := H26.pass hb27
  refine ⟨_, rfl, ?_⟩
  refine ⟨hb27.keeps, ?_⟩
  refine (ref21_Valid_ct (paR_below hu H27.below) hl).mono ?_
  rintro _ w28 ⟨rfl, hb28⟩; have H28 := H27.pass hb28
  refine ⟨_, rfl, ?_⟩
  replace hb28 := below_step hb27 (Nat.le_refl _) hb28
  refine ⟨hb28.keeps, ?_⟩
  refine bsplit_intro (fun c9 => ?_) (fun c9 => ?_)
  · refine bsplit_dec (fun c8 => ?_) (fun c8 => ?_)
    · refine (ref01_Same_ct (d2.below hb28) (d5.below hb28) by1 by1).mono ?_
      rintro _ w29 ⟨rfl, hb29⟩; have H29 := H28.pass hb29
      refine ⟨_, rfl, ?_⟩
      replace hb29 := below_step hb28 (Nat.le_refl _) hb29
      refine ⟨hb29.keeps, ?_⟩
      refine bsplit_intro (fun c7 => ?_) (fun c7 => ?_)
      · refine ⟨H26.lt (i := 1) rfl rfl, ?_⟩
        refine ⟨_, _, _, _, _, _, _, _, _, _, _, _, _, _, _, _, H26.cells (i := 1) rfl, ?_⟩
        refine ⟨H26.lt (i := 2) rfl rfl, ?_⟩
        refine ⟨_, _, _, _, _, _, _, _, _, _, _, _, _, _, _, _, H26.cells (i := 2) rfl, ?_⟩
        refine (ref21_Same_ct (s := p1.1) (paR_below u2 hb29) (paR_below u5 hb29) g1.sm g1.bys).mono ?_
        rintro _ w30 ⟨rfl, hb30⟩; have H30 := H29.pass hb30
        refine ⟨_, rfl, ?_⟩
        replace hb30 := below_step hb29 (Nat.le_refl _) hb30
        refine ⟨hb30.keeps, ?_⟩
        refine bsplit_intro (fun c6 => ?_) (fun c6 => ?_)
        · refine bsplit_dec (fun c5 => ?_) (fun c5 => ?_)
          · refine ⟨H26.lt (i := 3) rfl rfl, ?_⟩
            refine ⟨_, _, _, _, _, _, _, _, _, _, _, _, _, _, _, _, H26.cells (i := 3) rfl, ?_⟩
            refine ⟨H26.lt (i := 4) rfl rfl, ?_⟩
            refine ⟨_, _, _, _, _, _, _, _, _, _, _, _, _, _, _, _, H26.cells (i := 4) rfl, ?_⟩
            refine (ref21_Same_ct (s := p2.1) (paR_below u8 hb30) (paR_below u11 hb30) g2.sm g2.bys).mono ?_
            rintro _ w31 ⟨rfl, hb31⟩; have H31 := H30.pass hb31
            refine ⟨_, rfl, ?_⟩
            replace hb31 := below_step hb30 (Nat.le_refl _) hb31
            refine ⟨hb31.keeps, ?_⟩
            refine bsplit_intro (fun c4 => ?_) (fun c4 => ?_)
            · refine bsplit_dec (fun c3 => ?_) (fun c3 => ?_)
              · refine ⟨H26.lt (i := 5) rfl rfl, ?_⟩
                refine ⟨_, _, _, _, H26.cells (i := 5) rfl, ?_⟩
                refine ⟨H26.lt (i := 6) rfl rfl, ?_⟩
                refine ⟨_, _, _, _, H26.cells (i := 6) rfl, ?_⟩
                refine (ref19_Same_ct (s := p3.1) (t := p3.1) (m14.belowE hb31) (m17.belowE hb31) (by omega)).mono ?_
                rintro _ w32 ⟨rfl, hb32⟩; have H32 := H31.pass hb32
                refine ⟨_, rfl, ?_⟩
                replace hb32 := below_step hb31 (Nat.le_refl _) hb32
                refine ⟨hb32.keeps, ?_⟩
                refine bsplit_intro (fun c2 => ?_) (fun c2 => ?_)
                · refine bsplit_dec (fun c1 => ?_) (fun c1 => ?_)
                  · refine (ref01_Same_ct (d20.below hb32) (d23.below hb32) by4 by4).mono ?_
                    rintro _ w33 ⟨rfl, hb33⟩; have H33 := H32.pass hb33
                    refine ⟨_, rfl, ?_⟩
                    replace hb33 := below_step hb32 (Nat.le_refl _) hb33
                    refine ⟨hb33.keeps, ?_⟩
                    refine bsplit_intro (fun c => ?_) (fun c => ?_)
                    · refine ⟨H26.lt (i := 7) rfl rfl, ?_⟩
                      refine ⟨_, _, _, _, _, _, _, _, _, _, _, _, _, _, _, _, H26.cells (i := 7) rfl, ?_⟩
                      refine ⟨H26.lt (i := 8) rfl rfl, ?_⟩
                      refine ⟨_, _, _, _, _, _, _, _, _, _, _, _, _, _, _, _, H26.cells (i := 8) rfl, ?_⟩
                      refine (ref21_Same_ct (s := p4.1) (paR_below u20 hb33) (paR_below u23 hb33) g4.sm g4.bys).mono ?_
                      rintro _ w34 ⟨rfl, hb34⟩; have H34 := H33.pass hb34
                      refine ⟨_, rfl, ?_⟩
                      exact ⟨rfl, H34.below⟩
                    · simp at c
                  · exact absurd rfl c1
                · simp at c2
              · exact absurd rfl c3
            · cases c4
          · exact absurd rfl c5
        · cases c6
      · simp at c7
    · exact absurd rfl c8
  · simp at c9
end
end Go.Proofs.YthceaojjeokclaaGreat
namespace Go.Proofs.YthceaojjeokclaaGreat
open Go.Sx Go.RowKit
set_option maxRecDepth 100000
theorem aw_facts : ∃ (p0 : Rc × Int) (ea eb : List Int × Int) (r1 : Rc × List Int × Int) (st : Stt × Int) (r2 : Rc × List Int × Int), p0 = newRc ⟨5, 4, 3, 3, 0, 4⟩ ∧ ea = encP 5 ⟨0, 2, 1, 2, [3]⟩ ∧ eb = encP 5 ⟨0, 1, 0, 0, [1, 2]⟩ ∧ r1 = recS p0.1 ea.1 ∧ st = statR r1.1 ∧ r2 = recS r1.1 eb.1 ∧
    (p0.2 = 0 ∧ r1.2.2 = 0 ∧ st.2 = 0 ∧ r2.2.2 = 0) ∧ r1.2.1.length = 0 ∧ st.1.miss.length = 1 ∧ (st.1.miss.getD 0 ⟨0, 0, 0⟩).t = 2 ∧ r2.1.due = true ∧ r2.2.1.length = 3 ∧ r2.2.1.getD 2 0 = 3 ∧ r2.1.first = 1 ∧ r2.1.okB = true ∧ ea.1.length ≤ 10 ∧ eb.1.length ≤ 10 ∧ (∀ x ∈ ea.1, 0 ≤ x ∧ x < 256) ∧ ∀ x ∈ eb.1, 0 ≤ x ∧ x < 256 :=
  ⟨_, _, _, _, _, _, rfl, rfl, rfl, rfl, rfl, rfl, by decide +kernel⟩
theorem law21_awake_ct {w : World} :
    Calls Tryz.prog N_law21_awake #[] w fun e w' => e = .returned (.bool true) ∧ Below w.heap.size w w' := by
  obtain ⟨p0, ea, eb, r1, st, r2, h0, ha, hb, h1, h2, h3, ⟨f0, f1, f2, f3⟩, f4, f5, f6, f7, f8, f9, f10, f11, la, lb, ba, bb⟩ := aw_facts
  have g0 : GP p0.1.parts := by rw [h0]; exact gp_nil
  have ba := bytes_mem.2 ba
  have bb := bytes_mem.2 bb
  have g1 : GP r1.1.parts := by rw [h1]; exact (rec_gp g0 ba).1
  have g2 : GP r2.1.parts := by rw [h3]; exact (rec_gp g1 bb).1
  apply F_law21_awake_ok
  unfold F_law21_awake
  have H := St.nil w
  have C := receiver_New_ct (l := ⟨5, 4, 3, 3, 0, 4⟩) (w := w)
  rw [← h0] at C
  refine C.mono ?_; clear C
  rintro _ w1 ⟨rfl, hpp, hb1⟩; have H1 := H.pass hb1; clear H
  refine ⟨_, _, _, _, _, _, _, _, _, _, _, _, _, _, _, _, _, rfl, ?_⟩
  refine H1.alloc ?_; clear H1; intro b w2 H2
  refine H2.store (i := 0) rfl (by rfl) (by rfl) ?_; clear H2; intro w3 H3
  refine H3.alloc ?_; clear H3; intro b1 w4 H4
  have C := ref18_Encode_ct (bits := 5) (p_0 := 0) (p_1 := 2) (p_2 := 1) (p_3 := 2) (d := [3]) (p_4_c := 1) ((H4.litI [3] (i := 1) rfl (by decide)).slI (i := 1) rfl) (by simp)
  rw [← ha] at C
  refine C.mono ?_; clear C
  rintro _ w5 ⟨a5, c5, hc5, rfl, K⟩; have H5 := H4.callF K; clear K H4
  simp only [List.cons_append, List.nil_append, List.append_nil, List.set_cons_zero] at H5
  refine ⟨_, _, _, _, rfl, ?_⟩
  refine H5.alloc ?_; clear H5; intro b2 w6 H6
  have C := ref18_Encode_ct (bits := 5) (p_0 := 0) (p_1 := 1) (p_2 := 0) (p_3 := 0) (d := [1, 2]) (p_4_c := 2) ((H6.litI [1, 2] (i := 2) rfl (by decide)).slI (i := 2) rfl) (by simp)
  rw [← hb] at C
  refine C.mono ?_; clear C
  rintro _ w7 ⟨a7, c7, hc7, rfl, K⟩; have H7 := H6.callF K; clear K H6
  simp only [List.cons_append, List.nil_append, List.append_nil] at H7
  refine ⟨_, _, _, _, rfl, ?_⟩
  refine ⟨_, _, _, _, _, _, _, _, _, _, _, _, _, _, _, _, H7.cells (i := 0) rfl, ?_⟩
  have C := receiver_Receive_ct (s := p0.1) (a := none) (c := 0) (bs := ea.1) (b_a := a5) (b_c := c5) (w := w7) (by rw [hpp]; exact .nil) g0.sm H7.get.2.1 ba (by omega) hc5
  rw [← h1] at C
  refine C.mono ?_; clear C
  rintro _ w8 ⟨a8, c8, ba8, bc8, rfl, hbc8, K⟩; have H8 := H7.callF K; clear K H7
  simp only [List.append_nil] at H8
  refine ⟨_, _, _, _, _, _, _, _, _, _, _, _, _, _, _, _, _, _, _, _, rfl, ?_⟩
  refine H8.store (i := 0) rfl (by rfl) (by rfl) ?_; clear H8; intro w9 H9
  simp only [List.set_cons_zero] at H9
  refine ⟨_, _, _, _, _, _, _, _, _, _, _, _, _, _, _, _, H9.cells (i := 0) rfl, ?_⟩
  have C := receiver_Status_ct (s := r1.1) (a := a8) (c := c8) (w := w9) H9.get.1.1 g1.sm
  rw [← h2] at C
  refine C.mono ?_; clear C
  rintro _ w10 ⟨a10, c10, _, rfl, K⟩; have H10 := H9.callF K; clear K H9
  simp only [List.append_nil] at H10
  refine ⟨_, _, _, _, _, rfl, ?_⟩
  refine H10.alloc ?_; clear H10; intro b3 w11 H11
  simp only [List.cons_append, List.nil_append] at H11
  refine H11.store (i := 3) rfl (by rfl) (by rfl) ?_; clear H11; intro w12 H12
  simp only [List.set_cons_succ, List.set_cons_zero] at H12
  refine ⟨_, _, _, _, _, _, _, _, _, _, _, _, _, _, _, _, H12.cells (i := 0) rfl, ?_⟩
  have C := receiver_Receive_ct (s := r1.1) (a := a8) (c := c8) (bs := eb.1) (b_a := a7) (b_c := c7) (w := w12) H12.get.2.1.1 g1.sm H12.get.2.2.1 bb (by omega) hc7
  rw [← h3] at C
  refine C.mono ?_; clear C
  rintro _ w13 ⟨a13, c13, ba13, bc13, rfl, hbc13, K⟩; have H13 := H12.callF K; clear K H12
  simp only [List.append_nil] at H13
  refine ⟨_, _, _, _, _, _, _, _, _, _, _, _, _, _, _, _, _, _, _, _, rfl, ?_⟩
  refine H13.store (i := 0) rfl (by rfl) (by rfl) ?_; clear H13; intro w14 H14
  simp only [List.set_cons_zero] at H14
  refine bsplit_dec (fun c10 => ?_) (fun c10 => ?_)
  · refine bsplit_dec (fun c9 => ?_) (fun c9 => ?_)
    · refine bsplit_dec (fun c8 => ?_) (fun c8 => ?_)
      · refine bsplit_dec (fun c7 => ?_) (fun c7 => ?_)
        · refine bsplit_dec (fun c6 => ?_) (fun c6 => ?_)
          · refine H14.ldS (i := 3) rfl rfl ?_
            refine bsplit_dec (fun c5 => ?_) (fun c5 => ?_)
            · refine H14.ldS (i := 3) rfl rfl ?_
              refine ixE H14.get.2.1 0 rfl (by omega) fun b4 x hx hb4 => ?_
              obtain rfl : st.1.miss[0] = x := by rw [List.getElem?_eq_getElem (by omega)] at hx; exact Option.some.inj hx
              refine ⟨_, by have := cellsAt_get hb4 2 _ rfl; rwa [Nat.zero_add] at this, ?_⟩
              refine bsplit_dec (fun c4 => ?_) (fun c4 => ?_)
              · refine H14.ldB (i := 0) rfl rfl ?_
                refine bsplit_intro (fun c3 => ?_) (fun c3 => ?_)
                · refine bsplit_dec (fun c2 => ?_) (fun c2 => ?_)
                  · refine ix_u8 H14.get.1.2 2 rfl (by omega) fun b5 hb5 => ?_
                    refine hb5 _ ?_
                    rw [f9]
                    refine bsplit_dec (fun c1 => ?_) (fun c1 => ?_)
                    · refine H14.ld (i := 0) rfl rfl ?_
                      refine bsplit_dec (fun c0 => ?_) (fun c0 => ?_)
                      · refine ⟨_, _, _, _, _, _, _, _, _, _, _, _, _, _, _, _, H14.cells (i := 0) rfl, ?_⟩
                        refine (receiver_Valid_ct H14.get.1.1 g2.sm).mono ?_
                        rintro _ w15 ⟨rfl, hb15⟩; have H15 := H14.pass hb15; clear H14
                        refine ⟨_, rfl, ?_⟩
                        exact ⟨by rw [f11], H15.below⟩
                      · exact absurd f10 c0
                    · exact absurd rfl c1
                  · exact absurd (by rw [f8]; rfl) c2
                · rw [f7] at c3; cases c3
              · exact absurd (by rw [← f6]; simp [List.getD, List.getElem?_eq_getElem (show 0 < st.1.miss.length by omega)]) c4
            · exact absurd (by rw [f5]; rfl) c5
          · exact absurd (by rw [f4]; rfl) c6
        · exact absurd f3 c7
      · exact absurd f2 c8
    · exact absurd f1 c9
  · exact absurd f0 c10
end Go.Proofs.YthceaojjeokclaaGreat
