import Derived.Test.YtdafapcckimefaaW19e
import Derived.Test.YtdafapcckimefaaP19b
namespace Go.Proofs.Ytdafapcckimefaa
open Go.Sx Go.RowKit
section
variable {bits u sp : Int} {l_a : Option Addr} {l : List Rg} {l_c : Nat} {w : World}
theorem clone_ranges (hs : SlR (CE encR) 3 w l_a l) (hl : l.length ≤ 1000000) :
    Calls Try.prog N_slices_Clone_Sapi_Range_api_Range #[(.slice l_a l.length l_c)] w fun e w' => ∃ ra rc, e = .returned (.slice ra l.length rc) ∧ FreshR w w' [.els encR Ty_api_Range 3 ra rc l] := by
  apply F_slices_Clone_Sapi_Range_api_Range_ok
  unfold F_slices_Clone_Sapi_Range_api_Range
  have H := St.nil w
  refine bsplit_intro (fun c => ?_) (fun c => ?_) --  s_a.isNone
  · obtain rfl : l = [] := by
      rcases hs with h | ⟨b, rfl, _⟩
      · exact h
      · simp at c
    exact ⟨none, 0, rfl, H.nilE encR Ty_api_Range 3⟩ --! (.slice none 0 0)
  · refine H.alloc ?_; clear H; intro b w1 H1
    have hs1 := hs.belowE H1.below
    have H1 := H1.litE encR_ok (i := 0) [] rfl (by decide)
    refine H1.appE encR_ok (i := 0) (ys := []) rfl sl_Ty_S_api_Range hs1 (by simp; omega) (by simp; omega) ?_; intro x_a x_c w2 H2 --! append
    exact ⟨x_a, x_c, rfl, H2⟩ --! (.slice x_a x_l x_c)
theorem status_Fit_ct (hs : SlR (CE encR) 3 w l_a l) (hl : l.length ≤ 140737488355328) :
    Calls Try.prog N_status_Fit #[(.int .i64 bits), (.agg #[.int .i64 u, .slice l_a l.length l_c]), (.int .i64 sp)] w (RetS w (fitR bits ⟨u, l⟩ sp).1 (fitR bits ⟨u, l⟩ sp).2) := by
  apply F_status_Fit_ok
  unfold F_status_Fit
  have H := St.nil w
  refine H.alloc ?_; clear H; intro b w1 H1
  refine H1.alloc ?_; clear H1; intro b1 w2 H2
  refine ⟨_, _, _, _, H2.cells (i := 0) rfl, ?_⟩
  refine (status_Valid_ct (hs.belowE H2.below) hl).mono ?_
  rintro _ w3 ⟨rfl, hb3⟩; have H3 := H2.pass hb3; clear H2
  refine ⟨_, rfl, ?_⟩
  refine bsplit_nd (fun c5 => ?_) (fun c5 => ?_) --  (!r)
  · have e0 : fitR bits ⟨u, l⟩ sp = (.zero, 1) := if_pos c5
    rw [e0]
    refine H3.store (i := 1) rfl (by rfl) (by rfl) ?_; clear H3; intro w4 H4
    refine ⟨_, _, _, _, H4.cells (i := 1) rfl, ?_⟩
    exact RetS.zero H4.fin.below _
  have hll : l.length ≤ 64 := c5.2.2.1
  refine kLet_in ?_
  refine bsplit_dec (fun c4 => ?_) (fun c4 => ?_) --  (decide (space < (3 : Int)))
  · have e0 : fitR bits ⟨u, l⟩ sp = (.zero, 15) := by unfold fitR; rw [if_neg (not_not_intro c5), if_pos c4]
    rw [e0]
    refine H3.store (i := 1) rfl (by rfl) (by rfl) ?_; clear H3; intro w5 H5
    refine ⟨_, _, _, _, H5.cells (i := 1) rfl, ?_⟩
    exact RetS.zero H5.fin.below _
  have e0 : fitR bits ⟨u, l⟩ sp = (fitS sp u l 0 3 0 none l, 0) := by unfold fitR; rw [if_neg (not_not_intro c5), if_neg c4]
  rw [e0]
  refine H3.ldS (i := 0) rfl rfl ?_
  refine (clone_ranges (hs.belowE H3.below) (by omega)).mono ?_
  rintro _ w6 ⟨ra, rc, rfl, K⟩; have H6 := H3.callR K; clear H3 K
  refine ⟨_, _, _, rfl, ?_⟩
  have hrc := H6.capE (i := 2) rfl
  refine H6.set (i := 0) rfl (by simp) ?_; clear H6; intro w7 H7
  refine H7.ldS (i := 0) rfl rfl ?_
  refine ⟨fun used unit x1 => ((l.length - x1).toNat, fun w8 => ∃ (k un : Nat), x1 = k ∧ k ≤ l.length ∧ unit = un ∧ un ≤ k ∧ (3 ≤ used ∧ used ≤ 3 + 6 * k) ∧ fitS sp u l 0 3 0 none l = fitS sp u l k used un (prevR l k) (l.drop k) ∧
    FreshR w w8 [.blk b Ty_api_Status [(.int .i64 u), (.slice ra l.length rc)], .blk b1 Ty_api_Status [(.int .i64 (0 : Int)), (.slice none 0 0)], .els encR Ty_api_Range 3 ra rc l]), ⟨0, 0, rfl, by omega, rfl, by omega, by omega, rfl, H7⟩, ?_⟩ --! I (3 : Int) (0 : Int) (0 : Int)
  clear H7
  rintro _ used unit x1 w8 ⟨k, un, rfl, hk, rfl, hun, hus, hI, H8⟩
  refine bsplit_dec (fun c3 => ?_) (fun c3 => ?_) --  (decide (x1 < (r_l : Int)))
  · have hlt : k < l.length := by omega
    rw [fit_step _ _ _ _ _ _ hlt] at hI
    have hz := szR_pos l[k]
    refine ixE (H8.slE encR_ok (i := 2) rfl) k rfl hlt fun b2 r hr hb2 => ?_
    obtain rfl : l[k] = r := by rw [List.getElem?_eq_getElem hlt] at hr; injection hr
    refine ⟨_, _, _, hb2, ?_⟩
    refine H8.alloc ?_; clear H8; intro b3 w9 H9
    refine H9.store (i := 3) rfl (by rfl) (by rfl) ?_; clear H9; intro w10 H10
    refine ⟨fun unit1 w12 => unit1 = (unitOf k (prevR l k) un l[k] : Nat) ∧ FreshR w w12 [.blk b Ty_api_Status [(.int .i64 u), (.slice ra l.length rc)], .blk b1 Ty_api_Status [(.int .i64 (0 : Int)), (.slice none 0 0)], .els encR Ty_api_Range 3 ra rc l, .blk b3 Ty_api_Range (encR l[k])], ?_, ?_⟩ --!
    · rintro _ unit1 w12 ⟨rfl, H12⟩
      obtain ⟨un2, hun2⟩ : ∃ un2, un2 = unitOf k (prevR l k) un l[k] := ⟨_, rfl⟩
      have hun2k : un2 ≤ k := by
        rw [hun2]; unfold unitOf
        split
        · exact hun
        · split <;> omega
      rw [← hun2] at hI ⊢
      refine ⟨_, _, _, H12.cells (i := 3) rfl, ?_⟩
      refine status_size_ct.mono ?_
      rintro _ w13 ⟨rfl, hb13⟩; have H13 := H12.pass hb13; clear H12
      refine ⟨_, rfl, ?_⟩
      refine kW_i64 (by omega) ?_ -- used + r1
      refine bsplit_dec (fun c2 => ?_) (fun c2 => ?_) --  (decide ((used + r1) > space))
      · rw [if_pos c2] at hI
        rw [hI]
        refine H13.drew ?_; clear H13; intro w14 H14
        refine ⟨fun x => x < w14.heap.size ∧ x ∉ [b], ?_⟩
        have f14 := Fr.refl [b] w14
        refine H14.ld (i := 3) rfl rfl ?_
        refine H14.ldS (i := 0) rfl rfl ?_
        refine ⟨⟨by omega, by omega⟩, ?_⟩ -- hi
        refine H14.setF (i := 0) rfl (by simp) ?_; intro w15 g15 H15
        have f15 := f14.tr g15 (by simp)
        refine ⟨f15.keeps, ?_⟩
        refine H15.set (i := 0) rfl (by simp) ?_; intro w16 H16
        refine ⟨_, _, _, _, H16.cells (i := 0) rfl, ?_⟩
        refine H16.store (i := 1) rfl (by rfl) (by rfl) ?_; clear H16; intro w17 H17
        refine ⟨_, _, _, _, H17.cells (i := 1) rfl, ?_⟩
        have el : (un2 : Int).toNat - 0 = (l.take un2).length := by simp; omega
        rw [el]
        refine ⟨_, _, ?_, rfl, (H17.freshRow (i := 2) rfl).imp fun _ h => (els_sl encR_ok h).preE _ _⟩
        simp; omega
      · rw [if_neg c2] at hI
        refine kW_i64 (by omega) ?_ -- x1 + (1 : Int)
        exact ⟨⟨k + 1, un2, by omega, by omega, rfl, by omega, by omega, hI, H13.sub (fun i => i) (by rintro (_ | _ | _ | _) r h <;> first | exact h | cases h) (fun _ _ _ _ h => h)⟩, by dsimp only; omega⟩ --! I (used + r1) unit1 (x1 + (1 : Int))
    · refine H10.drew ?_; clear H10; intro w11 H11
      refine bsplit_dec (fun c1 => ?_) (fun c1 => ?_) --  (decide (x1 > (0 : Int)))
      · obtain ⟨j, rfl⟩ : ∃ j, k = j + 1 := ⟨k - 1, by omega⟩
        have hj : j < l.length := by omega
        have hu : unitOf (j + 1) (prevR l (j + 1)) un l[j + 1] = if l[j + 1].sn ≠ l[j].sn then j + 1 else un := by simp only [unitOf, prevR, List.getElem?_eq_getElem hj]
        refine H11.ld (i := 3) rfl rfl ?_
        refine H11.ldS (i := 0) rfl rfl ?_
        refine kW_i64 (by omega) ?_ -- x1 - (1 : Int)
        refine ixE (H11.slE encR_ok (i := 2) rfl) j (by omega) hj fun b4 q hq hb4 => ?_
        obtain rfl : l[j] = q := by rw [List.getElem?_eq_getElem hj] at hq; injection hq
        refine ld_at hb4 0 rfl ?_
        refine bsplit_nd (fun c => ?_) (fun c => ?_) --  (!decide (x_01 = x4))
        · exact ⟨by rw [hu, if_pos c], H11⟩ --! J x1
        · exact ⟨by rw [hu, if_neg (not_not_intro c)], H11⟩ --! J unit
      · obtain rfl : k = 0 := by omega
        exact ⟨rfl, H11⟩ --! J unit
  · obtain rfl : k = l.length := by omega
    have e1 : fitS sp u l 0 3 0 none l = ⟨u, l⟩ := by rw [hI, List.drop_length]; rfl
    rw [e1]
    refine ⟨_, _, _, _, H8.cells (i := 0) rfl, ?_⟩
    refine H8.store (i := 1) rfl (by rfl) (by rfl) ?_; clear H8; intro w18 H18
    refine ⟨_, _, _, _, H18.cells (i := 1) rfl, ?_⟩
    exact ⟨_, _, hrc, rfl, (H18.freshRow (i := 2) rfl).imp fun _ h => els_sl encR_ok h⟩ --!
theorem ref19_Fit_ct (hs : SlR (CE encR) 3 w l_a l) (hl : l.length ≤ 140737488355328) (hlc : l.length ≤ l_c) :
    Calls Try.prog N_ref19_Fit #[(.int .i64 bits), (.agg #[.int .i64 u, .slice l_a l.length l_c]), (.int .i64 sp)] w (RetS w (fitR bits ⟨u, l⟩ sp).1 (fitR bits ⟨u, l⟩ sp).2) := by
  apply F_ref19_Fit_ok
  unfold F_ref19_Fit
  have H := St.nil w
  refine H.alloc ?_; clear H; intro b w1 H1
  refine H1.alloc ?_; clear H1; intro b1 w2 H2
  refine ⟨_, _, _, _, H2.cells (i := 0) rfl, ?_⟩
  refine (ref19_Valid_ct (hs.belowE H2.below) hl).mono ?_
  rintro _ w3 ⟨rfl, hb3⟩; have H3 := H2.pass hb3; clear H2
  refine ⟨_, rfl, ?_⟩
  refine bsplit_nd (fun c5 => ?_) (fun c5 => ?_) --  (!r)
  · have e0 : fitR bits ⟨u, l⟩ sp = (.zero, 1) := if_pos c5
    rw [e0]
    refine H3.store (i := 1) rfl (by rfl) (by rfl) ?_; clear H3; intro w4 H4
    refine ⟨_, _, _, _, H4.cells (i := 1) rfl, ?_⟩
    exact RetS.zero H4.fin.below _
  have hll : l.length ≤ 64 := c5.2.2.1
  refine bsplit_dec (fun c4 => ?_) (fun c4 => ?_) --  (decide (space < (3 : Int)))
  · have e0 : fitR bits ⟨u, l⟩ sp = (.zero, 15) := by unfold fitR; rw [if_neg (not_not_intro c5), if_pos c4]
    rw [e0]
    refine H3.store (i := 1) rfl (by rfl) (by rfl) ?_; clear H3; intro w5 H5
    refine ⟨_, _, _, _, H5.cells (i := 1) rfl, ?_⟩
    exact RetS.zero H5.fin.below _
  have e0 : fitR bits ⟨u, l⟩ sp = (fitS sp u l 0 3 0 none l, 0) := by unfold fitR; rw [if_neg (not_not_intro c5), if_neg c4]
  rw [e0]
  obtain ⟨X, hX⟩ : ∃ X, X = fitS sp u l 0 3 0 none l := ⟨_, rfl⟩
  rw [← hX]
  refine H3.ld (i := 0) rfl rfl ?_
  refine H3.alloc ?_; clear H3; intro b2 w6 H6
  refine H6.store (i := 2) rfl (by rfl) (by rfl) ?_; clear H6; intro w7 H7
  have H7 := H7.nilE encR Ty_api_Range 3
  refine ⟨fun n i => ((l.length - i).toNat, fun w8 => ∃ (j un : Nat) (ma : Option Addr) (mc : Nat), i = j ∧ j ≤ l.length ∧ (3 ≤ n ∧ n ≤ 3 + 6 * j) ∧ StartU l j un ∧ n ≤ sp ∧ X = fitS sp u l j n un (prevR l j) (l.drop j) ∧
    FreshR w w8 [.blk b Ty_api_Status [(.int .i64 u), (.slice l_a l.length l_c)], .blk b1 Ty_api_Status [(.int .i64 (0 : Int)), (.slice none 0 0)], .blk b2 Ty_api_Status [(.int .i64 u), (.slice ma (l.take j).length mc)], .els encR Ty_api_Range 3 ma mc (l.take j)]), ⟨0, 0, none, 0, rfl, by omega, by omega, rfl, by omega, hX, H7⟩, ?_⟩ --! I (3 : Int) (0 : Int)
  clear H7
  rintro _ n i w8 ⟨j, un, ma, mc, rfl, hj, hn, hst, hnsp, hI, H8⟩
  refine H8.ldS (i := 0) rfl rfl ?_
  refine bsplit_dec (fun c3 => ?_) (fun c3 => ?_) --  (decide (i < (s_1_l : Int)))
  · have hlt : j < l.length := by omega
    refine ⟨fun k1 more1 w12 => ∃ k : Nat, k1 = k ∧ j < k ∧ k ≤ l.length ∧ (0 ≤ more1 ∧ more1 ≤ 6 * (k - j)) ∧ InU sp u l j hlt n un X k more1 ∧ StartU l k j ∧
      FreshR w w12 [.blk b Ty_api_Status [(.int .i64 u), (.slice l_a l.length l_c)], .blk b1 Ty_api_Status [(.int .i64 (0 : Int)), (.slice none 0 0)], .blk b2 Ty_api_Status [(.int .i64 u), (.slice ma (l.take j).length mc)], .els encR Ty_api_Range 3 ma mc (l.take j)], ?_, ?_⟩ --!
    · rintro _ k1 more1 w12 ⟨k, rfl, hjk, hk, hmore, hin, hst2, H12⟩
      refine kW_i64 (by omega) ?_ -- n + more1
      refine bsplit_dec (fun c2 => ?_) (fun c2 => ?_) --  (decide ((n + more1) > space))
      · have hX2 : X = ⟨l[j].sn, l.take j⟩ := by
          rcases hin with h | h
          · omega
          · exact h.2
        have hmc := H12.capE (i := 3) rfl
        refine H12.ldS (i := 0) rfl rfl ?_
        refine ixE (hs.belowE H12.below) j rfl hlt fun b6 q hq hb6 => ?_
        obtain rfl : l[j] = q := by rw [List.getElem?_eq_getElem hlt] at hq; injection hq
        refine ld_at hb6 0 rfl ?_
        refine H12.set (i := 2) rfl (by simp) ?_; clear H12; intro w13 H13
        refine ⟨_, _, _, _, H13.cells (i := 2) rfl, ?_⟩
        refine H13.store (i := 1) rfl (by rfl) (by rfl) ?_; clear H13; intro w14 H14
        refine ⟨_, _, _, _, H14.cells (i := 1) rfl, ?_⟩
        rw [hX2]
        exact ⟨_, _, hmc, rfl, (H14.freshRow (i := 3) rfl).imp fun _ h => els_sl encR_ok h⟩ --!
      · have hX2 : X = fitS sp u l k (n + more1) j (prevR l k) (l.drop k) := by
          rcases hin with h | h
          · have := h.2; rwa [if_neg (by omega)] at this
          · omega
        refine H12.drew ?_; clear H12; intro w15 H15
        refine ⟨fun _ => False, ?_⟩
        refine H15.ldS (i := 2) rfl rfl ?_
        refine H15.ldS (i := 0) rfl rfl ?_
        refine ⟨⟨by omega, by omega⟩, ?_⟩ -- hi
        refine ⟨⟨by omega, by omega⟩, ?_⟩ -- lo
        have hsl := (hs.belowE H15.below).cutE (m := l_c) (l := j) hlc (k - j)
        have el : (k : Int).toNat - (j : Int).toNat = ((l.drop j).take (k - j)).length := by simp; omega
        have ej : (j : Int).toNat = j := Int.toNat_natCast j
        have et : l.take j ++ (l.drop j).take (k - j) = l.take k := by
          have e1 : l.take k = l.take (j + (k - j)) := by rw [show j + (k - j) = k by omega]
          rw [e1, List.take_add]
        rw [el, ej]
        refine H15.appE encR_ok (i := 3) rfl sl_Ty_S_api_Range hsl (by simp; omega) (by simp; omega) ?_; intro x_a8 x_c8 w16 H16 --! append
        rw [et] at H16 ⊢
        refine ⟨fun p _ hp _ => hp.elim, ?_⟩ --!
        refine H16.set (i := 2) rfl (by simp) ?_; intro w17 H17
        refine kW_i64 (by omega) ?_ -- n + more1
        exact ⟨⟨k, j, x_a8, x_c8, rfl, hk, by omega, hst2, by omega, hX2, H17⟩, by dsimp only; omega⟩ --! I (n + more1) k1
    · refine ⟨fun k more => ((l.length - k).toNat, fun w9 => ∃ m : Nat, k = m ∧ j ≤ m ∧ m ≤ l.length ∧ (0 ≤ more ∧ more ≤ 6 * (m - j)) ∧ InU sp u l j hlt n un X m more ∧ (∀ i (h : i < l.length), j ≤ i → i < m → l[i].sn = l[j].sn) ∧
        FreshR w w9 [.blk b Ty_api_Status [(.int .i64 u), (.slice l_a l.length l_c)], .blk b1 Ty_api_Status [(.int .i64 (0 : Int)), (.slice none 0 0)], .blk b2 Ty_api_Status [(.int .i64 u), (.slice ma (l.take j).length mc)], .els encR Ty_api_Range 3 ma mc (l.take j)]),
        ⟨j, rfl, by omega, by omega, by omega, .inl ⟨by omega, by rw [if_pos rfl, Int.add_zero]; exact hI⟩, fun i _ _ _ => by omega, H8⟩, ?_⟩ --! I i (0 : Int)
      clear H8
      rintro _ k more w9 ⟨m, rfl, hjm, hm, hmore, hin, hsame, H9⟩
      refine H9.drew ?_; clear H9; intro w10 H10
      refine H10.ldS (i := 0) rfl rfl ?_
      refine bsplit_dec (fun c1 => ?_) (fun c1 => ?_) --  (decide (k < (s_1_l : Int)))
      · have hml : m < l.length := by omega
        refine H10.ldS (i := 0) rfl rfl ?_
        refine ixE (hs.belowE H10.below) m rfl hml fun b3 q hq hb3 => ?_
        obtain rfl : l[m] = q := by rw [List.getElem?_eq_getElem hml] at hq; injection hq
        refine ld_at hb3 0 rfl ?_
        refine H10.ldS (i := 0) rfl rfl ?_
        refine ixE (hs.belowE H10.below) j rfl hlt fun b4 q hq hb4 => ?_
        obtain rfl : l[j] = q := by rw [List.getElem?_eq_getElem hlt] at hq; injection hq
        refine ld_at hb4 0 rfl ?_
        refine bsplit_dec (fun c => ?_) (fun c => ?_) --  (decide (x1 = x2))
        · have hz := szR_pos l[m]
          refine H10.ldS (i := 0) rfl rfl ?_
          refine ixE (hs.belowE H10.below) m rfl hml fun b5 q hq hb5 => ?_
          obtain rfl : l[m] = q := by rw [List.getElem?_eq_getElem hml] at hq; injection hq
          refine ⟨_, _, _, hb5, ?_⟩
          refine ref19_size_ct.mono ?_
          rintro _ w11 ⟨rfl, hb11⟩; have H11 := H10.pass hb11; clear H10
          refine ⟨_, rfl, ?_⟩
          refine kW_i64 (by omega) ?_ -- more + r1
          refine kW_i64 (by omega) ?_ -- k + (1 : Int)
          refine ⟨⟨m + 1, by omega, by omega, by omega, by omega, hin.step hst hjm hml c hsame, fun i h h1 h2 => ?_, H11⟩, by dsimp only; omega⟩ --! I (k + (1 : Int)) (more + r1)
          rcases (show i < m ∨ i = m by omega) with h3 | rfl
          · exact hsame i h h1 h3
          · exact c
        · have hmj : j < m := by
            rcases (show j = m ∨ j < m by omega) with rfl | h
            · exact absurd rfl c
            · exact h
          obtain ⟨m', rfl⟩ : ∃ m', m = m' + 1 := ⟨m - 1, by omega⟩
          have hm' : m' < l.length := by omega
          refine ⟨m' + 1, rfl, hmj, by omega, by omega, hin, ?_, H10⟩ --! J k more
          simp only [StartU, prevR, List.getElem?_eq_getElem hm']
          intro h
          rw [hsame m' hm' (by omega) (by omega)]; exact c
      · obtain rfl : m = l.length := by omega
        refine ⟨l.length, rfl, by omega, by omega, by omega, hin, ?_, H10⟩ --! J k more
        have hp : ∀ n, n = l.length → ∃ q, prevR l n = some q := fun n h => by
          obtain ⟨m, rfl⟩ : ∃ m, n = m + 1 := ⟨n - 1, by omega⟩
          exact ⟨_, List.getElem?_eq_getElem (show m < l.length by omega)⟩
        obtain ⟨q, hq⟩ := hp _ rfl
        simp only [StartU, hq]
        intro h; omega
  · obtain rfl : j = l.length := by omega
    rw [List.take_length] at H8
    have e1 : X = ⟨u, l⟩ := by rw [hI, List.drop_length]; rfl
    rw [e1]
    have hmc := H8.capE (i := 3) rfl
    refine ⟨_, _, _, _, H8.cells (i := 2) rfl, ?_⟩
    refine H8.store (i := 1) rfl (by rfl) (by rfl) ?_; clear H8; intro w18 H18
    refine ⟨_, _, _, _, H18.cells (i := 1) rfl, ?_⟩
    exact ⟨_, _, hmc, rfl, (H18.freshRow (i := 3) rfl).imp fun _ h => els_sl encR_ok h⟩ --!
end
end Go.Proofs.Ytdafapcckimefaa
