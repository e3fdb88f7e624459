import Derived.Test.YtmbppohkadmjgaaGreatM21a
import Derived.Test.YtmbppohkadmjgaaGreatM18
import Derived.Test.YtmbppohkadmjgaaGreatAz
import Derived.Test.YtmbppohkadmjgaaGreatAz0
import Derived.Test.YtmbppohkadmjgaaGreatHp
import Derived.Test.YtmbppohkadmjgaaGreatDice
namespace Go.Proofs.YtmbppohkadmjgaaGreat
open Go.Sx Go.RowKit
set_option maxRecDepth 100000
def RetL (w : World) (l : List Rg) : Ending -> World -> Prop := fun e w' => ∃ a c, l.length <= c /\ e = .returned (.slice a l.length c) /\ Fresh w w' fun w => SlR (CE encR) 3 w a l
section
variable {s : Rc} {a : Option Addr} {c : Nat} {s_b s_o : Nat} {n : Int} {w : World}
theorem receiver_side_missing_1_ct {x : Pa} {a a2 : Option Addr} {c c2 q : Nat} (hq : w.cell? ⟨q, 0, none⟩ = some (.int .i64 n)) :
 Calls Tryz.prog N_receiver_side_missing_1 #[aggPa x a c a2 c2, (.pointer (some ⟨q, 0, none⟩))] w fun e w' => e = .returned (.bool (decide (x.sn = n))) /\ Below w.heap.size w w' := by
 apply F_receiver_side_missing_1_ok
 unfold F_receiver_side_missing_1
 have H := St.nil w
 refine H.alloc ?_; clear H; intro b w1 H1
 refine H1.ld (i := 0) rfl rfl ?_
 refine ⟨_, H1.below.get hq, ?_⟩
 refine kLet_in ?_
 exact ⟨rfl, H1.below⟩
theorem receiver_side_missing_ct (hc : cellsAt w ⟨s_b, s_o, none⟩ 0 (encRc s a c)) (hu : PaR w a s.parts) (hf : FitP s.parts) (hall : ∀ x ∈ s.parts, paB x = true) :
 Calls Tryz.prog N_receiver_side_missing #[(.pointer (some ⟨s_b, s_o, none⟩)), (.int .i64 n)] w (RetL w (missP s n)) := by
 apply F_receiver_side_missing_ok
 unfold F_receiver_side_missing
 have H := St.nil w
 obtain ⟨hf1, hf2⟩ := hf
 have hidx := idx_or (fun p : Pa => decide (p.sn = n)) s.parts
 refine H.alloc ?_; clear H; intro b w1 H1
 refine ⟨_, _, _, lq (j := 13) (cells_below hc H1.below) rfl, ?_⟩
 refine (indexFuncP_ct (ff := #[]) (fc := #[(.pointer (some ⟨b, 0, none⟩))]) (g := N_receiver_side_missing_1) (paR_below hu H1.below) (by omega) (fun x => decide (x.sn = n)) (by kernel_rfl) fun w' x a1 c1 a2 c2 hx hw' => ?_).mono ?_
 ·exact receiver_side_missing_1_ct (hw'.get (H1.cell (i := 0) (o := 0) rfl rfl))
 rintro _ w2 ⟨rfl, hb2⟩; have H2 := H1.pass hb2; clear H1
 refine ⟨_, rfl, ?_⟩
 refine bsplit_dec (fun c2 => ?_) (fun c2 => ?_)
 ·have e : missP s n = [⟨n, 0, 0⟩] := by unfold missP; rw [if_pos c2]; rfl
  rw [e]
  refine H2.ld (i := 0) rfl rfl ?_
  refine H2.alloc ?_; clear H2; intro b1 w3 H3
  have H3 := H3.litE encR_ok (i := 1) [Rg.mk n 0 0] rfl (show 1 <= maxLen by decide)
  exact ⟨some ⟨b1, 0, none⟩, 1, Nat.le_refl _, rfl, ((H3.shareE encR_ok (i := 1) rfl).fin).imp fun _ h => h.1⟩
 ·obtain ⟨k, hk, hi, hpk⟩ := hidx.resolve_left fun h => c2 (by omega)
  have hm := List.getElem_mem hk
  obtain ⟨x, hx⟩ : ∃ x, x = s.parts[k] := ⟨_, rfl⟩
  rw [<- hx] at hm hpk
  have hxn : x.sn = n := of_decide_eq_true hpk
  obtain ⟨hxc, hxd⟩ := hf2 x hm
  have hpa := hall x hm
  have e : missP s n = missO n (some x) := by unfold missP; rw [if_neg c2, hi, Int.toNat_natCast, List.getElem?_eq_getElem hk, <- hx]
  rw [e]
  refine ⟨_, _, _, lq (j := 13) (cells_below hc H2.below) rfl, ?_⟩
  refine ixPa hu k hi hk fun b2 hb2 => ?_
  rw [<- hx] at hb2
  obtain ⟨a1, c1', a2, c2', hb2, hd, hr, _⟩ := hb2
  refine ⟨_, _, _, _, _, _, _, _, _, cells_below hb2 H2.below, ?_⟩
  refine H2.alloc ?_; clear H2; intro b3 w4 H4
  refine H4.store (i := 1) rfl (by rfl) (by rfl) ?_; clear H4; intro w5 H5
  refine H5.ldB (i := 1) rfl rfl ?_
  refine bsplit_intro (fun c1 => ?_) (fun c1 => ?_)
  ·refine ⟨none, 0, ?_, ?_, (H5.fin.imp fun _ _ => ?_)⟩
   ·rw [missO, if_pos c1]; exact Nat.le_refl _
   ·rw [missO, if_pos c1]; rfl
   ·rw [missO, if_pos c1]; exact .inl rfl
  ·obtain ⟨ln, hln⟩ : ∃ ln, ln = if x.len = -1 then (65535 : Int) else x.len := ⟨_, rfl⟩
   have em : missO n (some x) = gapsS n x.come 0 ln := by rw [missO, if_neg (by rw [c1]; decide), hln]
   rw [em]
   have hnum : paNum x := by rw [paB, if_neg (by rw [c1]; decide), Bool.and_eq_true, decide_eq_true_iff] at hpa; exact hpa.1
   have hg : gapR x.come n ln = (gapsS n x.come 0 ln, 0) := by
    obtain ⟨h1, _, h3, _, h5, h6, _⟩ := hnum
    have h7 := norm_ge h3 (by omega)
    exact gapR_at h3 (by rw [hln]; split <;> omega) (by rw [hln]; split <;> omega)
   refine H5.ld (i := 1) rfl rfl ?_
   refine ⟨fun length w6 => St (fun _ => False) [] w w6 [.blk b Ty_int [(.int .i64 n)], .blk b3 Ty_api_Partial (encPa x a1 c1' a2 c2')] (fun _ => True) /\ length = ln, ?_, ?_⟩
   ·rintro _ length w6 ⟨H6, rfl⟩
    refine H6.ldS (i := 1) rfl rfl ?_
    refine H6.ld (i := 0) rfl rfl ?_
    have C := segment_Gaps_ct (l_c := c2') (sn := n) (len := length) (hr.belowE H6.below) (by omega)
    rw [hg] at C
    dsimp only at C
    refine C.mono ?_; clear C
    rintro _ w7 ⟨r_a, r_c, hlc, rfl, K⟩; have H7 := H6.callF K; clear H6
    refine ⟨_, _, _, _, rfl, ?_⟩
    exact ⟨r_a, r_c, hlc, rfl, H7.fin.imp fun _ h => h.1⟩
   ·refine bsplit_dec (fun c3 => ?_) (fun c3 => ?_)
    ·exact ⟨H5, by rw [hln, if_pos c3]⟩
    ·exact ⟨H5, by rw [hln, if_neg c3]⟩
theorem receiver_Status_ct (hu : PaR w a s.parts) (hl : SmP s.parts) :
 Calls Tryz.prog N_receiver_Status #[aggRc s a c] w (RetS w (statR s).1 (statR s).2) := by
 apply F_receiver_Status_ok
 unfold F_receiver_Status
 have H := St.nil w
 refine H.alloc ?_; clear H; intro b w1 H1
 refine H1.alloc ?_; clear H1; intro b1 w2 H2
 refine ⟨_, _, _, _, _, _, _, _, _, _, _, _, _, _, _, _, H2.cells (i := 0) rfl, ?_⟩
 refine (receiver_Valid_ct (paR_below hu H2.below) hl).mono ?_
 rintro _ w3 ⟨rfl, hb3⟩; have H3 := H2.pass hb3; clear H2
 refine ⟨_, rfl, ?_⟩
 refine bsplit_n (fun c2 => ?_) (fun c2 => ?_)
 ·refine H3.store (i := 1) rfl (by rfl) (by rfl) ?_; clear H3; intro w4 H4
  refine ⟨_, _, _, _, H4.cells (i := 1) rfl, ?_⟩
  rw [statR, if_pos c2]
  exact RetS.zero H4.below _
 ·obtain ⟨hf, hlk, hs1, hs2, hs3, hq, hall⟩ := rc_fit c2
  have hb := hlk.1
  have hp := pow_bits hb
  have hpr := placeR_range s s.upto
  rw [statR, if_neg (by rw [c2]; decide)]
  obtain ⟨d, hd⟩ : ∃ d, d = (s.place s.upto).toNat := ⟨_, rfl⟩
  rw [<- hd]
  refine ⟨_, _, _, _, _, _, _, _, _, _, _, _, _, _, _, _, H3.cells (i := 0) rfl, ?_⟩
  refine H3.alloc ?_; clear H3; intro b2 w5 H5
  refine H5.ld (i := 0) rfl rfl ?_
  refine H5.alloc ?_; clear H5; intro b3 w6 H6
  refine H6.store (i := 3) rfl (by rfl) (by rfl) ?_; clear H6; intro w7 H7
  refine H7.ld (i := 0) rfl rfl ?_
  replace H7 : St (fun _ => False) [] w w7 [.blk b Ty_api_Receiver (encRc s a c), .blk b1 Ty_api_Status [.int .i64 0, .slice none 0 0], .blk b2 Ty_receiver_side (encRc s a c), .blk b3 Ty_api_Status [.int .i64 s.upto, .slice none 0 0]] (fun _ => True) := H7
  have H7 := H7.nilE encR Ty_api_Range 3
  simp only [List.cons_append, List.nil_append] at H7
  refine ⟨fun n => ((2 ^ s.lk.bits.toNat - s.place n).toNat, fun w8 => ∃ (j : Nat) (O : List Rg) (oa : Option Addr) (oc : Nat), n = s.num j /\ j <= d /\ statS s d s.first [] = statS s (d - j) (s.num j) O /\ O.length <= 64 /\ St (fun _ => False) [] w w8 [.blk b Ty_api_Receiver (encRc s a c), .blk b1 Ty_api_Status [.int .i64 0, .slice none 0 0], .blk b2 Ty_receiver_side (encRc s a c), .blk b3 Ty_api_Status [.int .i64 s.upto, .slice oa O.length oc], .els encR Ty_api_Range 3 oa oc O] (fun _ => True)), ⟨0, [], none, 0, (num_zero hs1).symm, by omega, by rw [num_zero hs1]; rfl, by simp, H7⟩, ?_⟩
  clear H7
  rintro _ n w8 ⟨j, O, oa, oc, rfl, hj, hT, hO, H8⟩
  have hjp : s.place (s.num j) = j := num_place hb hs1 (by omega)
  refine H8.ld (i := 0) rfl rfl ?_
  refine bsplit_nd (fun c1 => ?_) (fun c1 => ?_)
  ·have hjd : j < d := by
    rcases Nat.lt_or_ge j d with h | h
    ·exact h
    ·exact absurd (place_inj hb (num_ok hb j) hs3 (by omega)) c1
   have ej : d - j = (d - (j + 1)) + 1 := by omega
   have hml := missP_len (s := s) (n := s.num j) fun x hx => (hf.2 x hx).1
   rw [ej, statS] at hT
   refine (receiver_side_missing_ct (n := s.num j) (H8.cells (i := 2) rfl) (paR_below hu H8.below) hf fun x hx => (hall x hx).1).mono ?_
   rintro _ w9 ⟨r_a, r_c, _, rfl, K⟩; have H9 := H8.callF K; clear H8
   obtain ⟨M, hM⟩ : ∃ M, M = missP s (s.num j) := ⟨_, rfl⟩
   rw [<- hM] at hT hml H9 ⊢
   refine ⟨_, _, _, rfl, ?_⟩
   refine H9.ldS (i := 3) rfl rfl ?_
   refine kW_i64 (by omega) ?_
   refine bsplit_dec (fun c0 => ?_) (fun c0 => ?_)
   ·rw [if_pos (by omega)] at hT
    rw [hT]
    refine H9.set (i := 3) rfl (by simp) ?_; clear H9; intro w10 H10
    refine ⟨_, _, _, _, H10.cells (i := 3) rfl, ?_⟩
    refine H10.store (i := 1) rfl (by rfl) (by rfl) ?_; clear H10; intro w11 H11
    refine ⟨_, _, _, _, H11.cells (i := 1) rfl, ?_⟩
    have hc := H11.capE (i := 4) rfl
    exact ⟨oa, oc, hc, rfl, ((St.shareE (H11.imp fun _ h => h.2) encR_ok (i := 4) rfl).fin).imp fun _ h => h.1⟩
   ·rw [if_neg (by omega)] at hT
    refine H9.ldS (i := 3) rfl rfl ?_
    refine H9.appE encR_ok (i := 4) rfl sl_Ty_S_api_Range H9.get.1 (by omega) (by omega) ?_; intro x_a2 x_c2 w12 H12
    refine H12.set (i := 3) rfl (by simp) ?_; clear H12; intro w13 H13
    have hnj := num_ok hb j
    unfold snOk at hnj
    refine (receiver_side_behind_ct (H13.cells (i := 2) rfl) hb (by omega)).mono ?_
    rintro _ w14 ⟨rfl, hb14⟩; have H14 := H13.pass hb14; clear H13
    refine ⟨_, rfl, ?_⟩
    have hsu := num_succ (s := s) hb j
    have hj1 : s.place (s.num (j + 1)) = (j + 1 : Nat) := num_place hb hs1 (by omega)
    rw [hsu] at hT ⊢
    refine ⟨⟨j + 1, O ++ M, x_a2, x_c2, rfl, by omega, hT, by rw [List.length_append]; omega, H14.imp fun _ _ => trivial⟩, ?_⟩
    dsimp only
    rw [hjp, hj1]; omega
  ·have hjd : j = d := by rw [c1] at hjp; omega
   subst hjd
   rw [Nat.sub_self, statS] at hT
   rw [hT]
   refine ⟨_, _, _, _, H8.cells (i := 3) rfl, ?_⟩
   refine H8.store (i := 1) rfl (by rfl) (by rfl) ?_; clear H8; intro w15 H15
   refine ⟨_, _, _, _, H15.cells (i := 1) rfl, ?_⟩
   have hc := H15.capE (i := 4) rfl
   exact ⟨oa, oc, hc, rfl, ((H15.shareE encR_ok (i := 4) rfl).fin).imp fun _ h => h.1⟩
end
end Go.Proofs.YtmbppohkadmjgaaGreat
namespace Go.Sx
theorem paFrom_asc {s : Rc} : ∀ {L : List Pa} {last : Int}, paFrom s last L = true -> (∀ x ∈ L, last < s.place x.sn) /\ L.Pairwise fun x y => s.place x.sn < s.place y.sn
 | [], last, _ => ⟨fun x hx => by simp at hx, .nil⟩
 | p :: l, last, h => by
  simp only [paFrom, Bool.and_eq_true] at h
  obtain ⟨h1, h2⟩ := h
  obtain ⟨h3, h4⟩ := paFrom_asc h2
  unfold paAt at h1
  simp only [Bool.and_eq_true, decide_eq_true_eq] at h1
  refine ⟨fun x hx => ?_, List.pairwise_cons.2 ⟨h3, h4⟩⟩
  rcases List.mem_cons.1 hx with rfl | hx
  ·exact h1.1.1.2.1
  ·have := h3 x hx; have := h1.1.1.2.1; omega
theorem rc_asc {s : Rc} (h : s.okB = true) : ∀ i j (hi : i < s.parts.length) (hj : j < s.parts.length), i < j -> s.place s.parts[i].sn < s.place s.parts[j].sn := by
 unfold Rc.okB at h
 simp only [Bool.and_eq_true] at h
 exact fun i j hi hj hij => List.pairwise_iff_getElem.1 (paFrom_asc h.1.2).2 i j hi hj hij
end Go.Sx
namespace Go.Proofs.YtmbppohkadmjgaaGreat
open Go.Sx Go.RowKit
set_option maxRecDepth 100000
section
variable {s : Rc} {a : Option Addr} {c : Nat} {w : World}
end
end Go.Proofs.YtmbppohkadmjgaaGreat
namespace Go.Sx
theorem fit_okS {b sp : Int} {x : Stt} (h : (fitR b x sp).2 = 0) : okS b (fitR b x sp).1 := by
 unfold fitR at h ⊢
 by_cases h1 : ¬ okS b x
 ·rw [if_pos h1] at h; exact absurd h (by decide)
 rw [if_neg h1] at h ⊢
 by_cases h2 : sp < 3
 ·rw [if_pos h2] at h; exact absurd h (by decide)
 rw [if_neg h2] at h ⊢
 exact (fits_law (u := x.upto) (L := x.miss) (by simpa using h1) (by omega) rfl).1
theorem fit_lenR {b sp : Int} {x : Stt} (h : (fitR b x sp).2 = 0) : (fitR b x sp).1.miss.length <= 64 := (fit_okS h).2.2.1
theorem statS_len (s : Rc) : ∀ (k : Nat) (n : Int) (O : List Rg), O.length <= 64 -> (statS s k n O).miss.length <= 64
 | 0, _, O, h => h
 | k + 1, n, O, h => by
  unfold statS
  split
  ·exact h
  ·exact statS_len s k _ _ (by rw [List.length_append]; omega)
theorem statR_len (s : Rc) : (statR s).1.miss.length <= 64 := by
 unfold statR
 split
 ·simp [Stt.zero]
 ·exact statS_len s _ _ _ (by simp)
theorem fit_any {b sp : Int} {x : Stt} (h : x.miss.length <= 64) : (fitR b x sp).1.miss.length <= 64 := by
 rcases (show (fitR b x sp).2 = 0 \/ (fitR b x sp).1 = .zero by
  unfold fitR; split
  ·exact .inr rfl
  ·split
   ·exact .inr rfl
   ·exact .inl rfl) with h1 | h1
 ·exact fit_lenR h1
 ·rw [h1]; simp [Stt.zero]
end Go.Sx
namespace Go.Proofs.YtmbppohkadmjgaaGreat
open Go.Sx Go.RowKit
set_option maxRecDepth 100000
def RetRB (w : World) (x : Rc) (bs : List Int) (E : Int) (e : Ending) (w' : World) : Prop :=
 ∃ a c L ba bc, L.map (·.p) = x.parts /\ bs.length <= bc /\ e = .returned (.tuple #[aggRc x a c, .slice ba bs.length bc, .int .i64 E]) /\ St (fun _ => False) [] w w' (.els encPP Ty_api_Partial 5 a c L :: L.map agP) (fun w => CoR L w /\ SlR (IntC .u8) 1 w ba bs)
theorem RetRB.read {w w' : World} {x : Rc} {bs : List Int} {E : Int} {e : Ending} (h : RetRB w x bs E e w') : ∃ a c ba bc, bs.length <= bc /\ e = .returned (.tuple #[aggRc x a c, .slice ba bs.length bc, .int .i64 E]) /\ Fresh w w' fun w => PaR w a x.parts /\ SlR (IntC .u8) 1 w ba bs := by
 obtain ⟨a, c, L, ba, bc, hL, hbc, he, H⟩ := h
 have K := shareDa (R := [.els encPP Ty_api_Partial 5 a c L]) H
 refine ⟨a, c, ba, bc, hbc, he, ?_⟩
 rw [<- hL]
 exact (K.shareE encPP_ok (i := 0) rfl).fin.imp fun _ h => ⟨up_paR h.1 h.2.1 h.2.2.1, h.2.2.2⟩
theorem retRBZ {w w' : World} {P : World -> Prop} {R : List Res} {E : Int} (H : St (fun _ => False) [] w w' R P) : RetRB w .zero [] E (.returned (.tuple #[aggRc .zero none 0, .slice none 0 0, .int .i64 E])) w' :=
 ⟨none, 0, [], none, 0, rfl, Nat.le_refl _, rfl, (H.fin.nilE encPP Ty_api_Partial 5).weaken0.imp fun _ _ => ⟨fun x hx => by simp at hx, .nil⟩⟩
theorem finPB {A0 : Nat -> Prop} {w w' : World} {P : World -> Prop} {ua ba : Option Addr} {uc : Nat} {bs : List Int} {L : List PP} {X : List Res} (H : St A0 [] w w' (X ++ .els encPP Ty_api_Partial 5 ua uc L :: L.map agP) P) (hP : ∀ w, P w -> CoR L w /\ SlR (IntC .u8) 1 w ba bs) :
 St A0 [] w w' (.els encPP Ty_api_Partial 5 ua uc L :: L.map agP) (fun w => CoR L w /\ SlR (IntC .u8) 1 w ba bs) :=
 (H.sub (fun i => i + X.length) (fun i r h => by rw [List.getElem?_append_right (by omega), Nat.add_sub_cancel]; exact h) (fun i j _ _ h => by omega)).imp hP
section
variable {s : Rc} {a : Option Addr} {c : Nat} {size : Int} {w : World}
theorem repR_bad (h : s.okB = false) : repR s size = (.zero, [], 1) := by unfold repR; rw [if_pos h]
theorem repR_rng (h : s.okB = true) (h2 : size < 0 \/ size > 4096) : repR s size = (.zero, [], 3) := by unfold repR; rw [if_neg (by rw [h]; decide), if_pos h2]
theorem repR_emp (h : s.okB = true) (h2 : ¬ (size < 0 \/ size > 4096)) (h3 : s.due = false \/ s.quiet > 0) : repR s size = (.zero, [], 14) := by unfold repR; rw [if_neg (by rw [h]; decide), if_neg h2, if_pos h3]
theorem repR_fit (h : s.okB = true) (h2 : ¬ (size < 0 \/ size > 4096)) (h3 : ¬ (s.due = false \/ s.quiet > 0)) (h4 : (fitR s.lk.bits (statR s).1 size).2 ≠ 0) : repR s size = (.zero, [], (fitR s.lk.bits (statR s).1 size).2) := by unfold repR; rw [if_neg (by rw [h]; decide), if_neg h2, if_neg h3]; exact if_pos h4
theorem repR_ok (h : s.okB = true) (h2 : ¬ (size < 0 \/ size > 4096)) (h3 : ¬ (s.due = false \/ s.quiet > 0)) (h4 : (fitR s.lk.bits (statR s).1 size).2 = 0) : repR s size = ({ s with due := false, quiet := s.lk.quiet }, (encS s.lk.bits (fitR s.lk.bits (statR s).1 size).1).1, 0) := by unfold repR; rw [if_neg (by rw [h]; decide), if_neg h2, if_neg h3]; exact if_neg (by rw [h4]; decide)
theorem enc_zero {b : Int} {x : Stt} (h : okS b x) : (Go.Sx.encS b x).2 = 0 := by unfold Go.Sx.encS; rw [if_pos h]
theorem receiver_Report_ct (hu : PaR w a s.parts) (hl : SmP s.parts) :
 Calls Tryz.prog N_receiver_Report #[aggRc s a c, .int .i64 size] w (RetRB w (repR s size).1 (repR s size).2.1 (repR s size).2.2) := by
 apply F_receiver_Report_ok
 unfold F_receiver_Report
 have H := St.nil w
 refine H.alloc ?_; clear H; intro b w1 H1
 refine H1.alloc ?_; clear H1; intro b1 w2 H2
 refine ⟨_, _, _, _, _, _, _, _, _, _, _, _, _, _, _, _, H2.cells (i := 0) rfl, ?_⟩
 refine (receiver_Status_ct (paR_below hu H2.below) hl).mono ?_
 rintro _ w3 ⟨sa, sc, hsc, rfl, K3⟩; have H3 := H2.callF K3; clear H2
 have hse : (statR s).2 = if s.okB = false then 1 else 0 := by unfold statR; split <;> rfl
 have hml := statR_len s
 obtain ⟨x, hx⟩ : ∃ x, x = (statR s).1 := ⟨_, rfl⟩
 rw [<- hx] at hml hsc H3 ⊢
 refine ⟨_, _, _, _, _, rfl, ?_⟩
 refine H3.alloc ?_; clear H3; intro b2 w4 H4
 refine H4.store (i := 2) rfl (by rfl) (by rfl) ?_; clear H4; intro w5 H5
 replace H5 : St (fun _ => False) [] w w5 [.blk b Ty_api_Receiver (encRc s a c), .blk b1 Ty_api_Receiver (encRc .zero none 0), .blk b2 Ty_api_Status [.int .i64 x.upto, .slice sa x.miss.length sc]] (fun w => SlR (CE encR) 3 w sa x.miss /\ True) := H5
 refine ⟨fun w11 => St (fun _ => False) [] w w11 [.blk b Ty_api_Receiver (encRc s a c), .blk b1 Ty_api_Receiver (encRc .zero none 0), .blk b2 Ty_api_Status [.int .i64 x.upto, .slice sa x.miss.length sc]] (fun w => SlR (CE encR) 3 w sa x.miss /\ True) /\ s.okB = true /\ ¬ (size < 0 \/ size > 4096) /\ ¬ (s.due = false \/ s.quiet > 0), ?_, ?_⟩
 ·rintro _ w11 ⟨H11, j1, j2, j3⟩
  obtain ⟨hf, hlk, hs1, hs2, hs3, hq, hall⟩ := rc_fit j1
  refine H11.ld (i := 0) rfl rfl ?_
  refine ⟨_, _, _, _, H11.cells (i := 2) rfl, ?_⟩
  refine (status_Fit_ct (bits := s.lk.bits) (u := x.upto) (l := x.miss) (sp := size) H11.get.1 (by omega)).mono ?_
  rintro _ w12 ⟨fa, fc, hfc, rfl, K12⟩; have H12 := H11.callF K12; clear H11
  have hfl := fit_any (b := s.lk.bits) (sp := size) hml
  have hfo := fit_okS (b := s.lk.bits) (sp := size) (x := x)
  have r1 := repR_fit j1 j2 j3
  have r2 := repR_ok j1 j2 j3
  rw [<- hx] at r1 r2
  replace H12 : St (fun _ => False) [] w w12 [.blk b Ty_api_Receiver (encRc s a c), .blk b1 Ty_api_Receiver (encRc .zero none 0), .blk b2 Ty_api_Status [.int .i64 x.upto, .slice sa x.miss.length sc]] (fun w => SlR (CE encR) 3 w fa (fitR s.lk.bits x size).1.miss /\ SlR (CE encR) 3 w sa x.miss /\ True) := H12
  show ∃ r_05 r_1_a r_1_l r_1_c r_14, (Ending.returned (.tuple #[.agg #[.int .i64 (fitR s.lk.bits x size).1.upto, .slice fa (fitR s.lk.bits x size).1.miss.length fc], .int .i64 (fitR s.lk.bits x size).2])) = _ /\ _
  obtain ⟨F, hF⟩ : ∃ F, F = fitR s.lk.bits x size := ⟨_, rfl⟩
  rw [<- hF] at hfc hfl hfo r1 r2 H12 ⊢
  refine ⟨_, _, _, _, _, rfl, ?_⟩
  refine H12.store (i := 2) rfl (by rfl) (by rfl) ?_; clear H12; intro w13 H13
  refine bsplit_nd (fun c5 => ?_) (fun c5 => ?_)
  ·refine H13.store (i := 1) rfl (by rfl) (by rfl) ?_; clear H13; intro w14 H14
   refine ⟨_, _, _, _, _, _, _, _, _, _, _, _, _, _, _, _, H14.cells (i := 1) rfl, ?_⟩
   rw [r1 c5]
   exact retRBZ H14
  ·refine H13.ld (i := 0) rfl rfl ?_
   refine ⟨_, _, _, _, H13.cells (i := 2) rfl, ?_⟩
   refine (status_Encode_ct (bits := s.lk.bits) (u := F.1.upto) (l := F.1.miss) H13.get.1 (by omega)).mono ?_
   rintro _ w15 ⟨ea, ec, hec, rfl, K15⟩; have H15 := H13.callF K15; clear H13
   rw [r2 c5]
   show ∃ b_a b_l b_c e, Ending.returned (.tuple #[.slice ea (Go.Sx.encS s.lk.bits F.1).1.length ec, .int .i64 (Go.Sx.encS s.lk.bits F.1).2]) = _ /\ _
   rw [enc_zero (hfo c5)]
   refine ⟨_, _, _, _, rfl, ?_⟩
   refine ⟨_, _, _, _, _, _, _, _, _, _, _, _, _, _, _, _, H15.cells (i := 0) rfl, ?_⟩
   refine (receiver_begin_ct (paR_below hu H15.below) hf).mono ?_
   rintro _ w16 ⟨g16, ua16, uc16, L16, hL16, rfl, K16⟩; have H16 := H15.callF K16; clear H15
   try simp only [List.cons_append, List.nil_append] at H16
   refine ⟨_, rfl, ?_⟩
   refine H16.drew ?_; clear H16; intro w17 H17
   refine ⟨fun x => x < w17.heap.size /\ x ∉ [g16], ?_⟩
   have f17 := Fr.refl [g16] w17
   refine ⟨⟨H17.lt (i := 0) rfl rfl, nin1 (H17.ne (i := 0) (j := 3) rfl rfl (by decide) rfl rfl)⟩, ?_⟩
   refine H17.ld (i := 0) rfl rfl ?_
   refine kNil_in ?_
   try rw [add_mk]
   refine H17.setF (i := 3) rfl (by show 12 < 14; decide) ?_; intro w18 g18 H18
   have f18 := f17.tr g18 (by simp)
   refine ⟨f18.keeps, ?_⟩
   refine kNil_in ?_
   try rw [add_mk]
   refine H18.set (i := 3) rfl (by show 11 < 14; decide) ?_; intro w19 H19
   refine kNil_in ?_
   try rw [add_mk]
   refine ⟨_, _, _, _, _, _, _, _, _, _, _, _, _, _, _, _, H19.cells (i := 3) rfl, ?_⟩
   refine H19.store (i := 1) rfl (by rfl) (by rfl) ?_; clear H19; intro w20 H20
   refine ⟨_, _, _, _, _, _, _, _, _, _, _, _, _, _, _, _, H20.cells (i := 1) rfl, ?_⟩
   exact ⟨ua16, uc16, L16, ea, ec, hL16, hec, rfl, finPB (X := [_, _, _, _]) H20 fun _ h => ⟨h.1, h.2.1⟩⟩
 ·refine kLet_in ?_
  refine bsplit_nd (fun c4 => ?_) (fun c4 => ?_)
  ·refine H5.store (i := 1) rfl (by rfl) (by rfl) ?_; clear H5; intro w6 H6
   refine ⟨_, _, _, _, _, _, _, _, _, _, _, _, _, _, _, _, H6.cells (i := 1) rfl, ?_⟩
   have ho : s.okB = false := by
    rcases Bool.eq_false_or_eq_true s.okB with h | h
    ·rw [hse, h] at c4; exact absurd rfl c4
    ·exact h
   rw [hse, if_pos ho, repR_bad ho]
   exact retRBZ H6
  ·have ho : s.okB = true := by
    rcases Bool.eq_false_or_eq_true s.okB with h | h
    ·exact h
    ·rw [hse, h] at c4; exact absurd c4 (by decide)
   refine ⟨fun x2 w7 => St (fun _ => False) [] w w7 [.blk b Ty_api_Receiver (encRc s a c), .blk b1 Ty_api_Receiver (encRc .zero none 0), .blk b2 Ty_api_Status [.int .i64 x.upto, .slice sa x.miss.length sc]] (fun w => SlR (CE encR) 3 w sa x.miss /\ True) /\ (x2 = true ↔ size < 0 \/ size > 4096), ?_, ?_⟩
   ·rintro _ x2 w7 ⟨H7, hj⟩
    refine bsplit_intro (fun c3 => ?_) (fun c3 => ?_)
    ·refine H7.store (i := 1) rfl (by rfl) (by rfl) ?_; clear H7; intro w8 H8
     refine ⟨_, _, _, _, _, _, _, _, _, _, _, _, _, _, _, _, H8.cells (i := 1) rfl, ?_⟩
     rw [repR_rng ho (hj.1 c3)]
     exact retRBZ H8
    ·have hn : ¬ (size < 0 \/ size > 4096) := fun h => by rw [hj.2 h] at c3; cases c3
     refine H7.ldB (i := 0) rfl rfl ?_
     refine bsplit_n (fun c2 => ?_) (fun c2 => ?_)
     ·refine H7.store (i := 1) rfl (by rfl) (by rfl) ?_; clear H7; intro w9 H9
      refine ⟨_, _, _, _, _, _, _, _, _, _, _, _, _, _, _, _, H9.cells (i := 1) rfl, ?_⟩
      rw [repR_emp ho hn (.inl c2)]
      exact retRBZ H9
     ·refine H7.ld (i := 0) rfl rfl ?_
      refine kLet_in ?_
      refine bsplit_dec (fun c1 => ?_) (fun c1 => ?_)
      ·refine H7.store (i := 1) rfl (by rfl) (by rfl) ?_; clear H7; intro w10 H10
       refine ⟨_, _, _, _, _, _, _, _, _, _, _, _, _, _, _, _, H10.cells (i := 1) rfl, ?_⟩
       rw [repR_emp ho hn (.inr c1)]
       exact retRBZ H10
      ·exact ⟨H7, ho, hn, fun h => h.elim (fun h => by rw [h] at c2; cases c2) c1⟩
   ·refine bsplit_dec (fun c0 => ?_) (fun c0 => ?_)
    ·exact ⟨H5, iff_of_true rfl (.inl c0)⟩
    ·refine kLet_in ?_
     exact ⟨H5, by rw [decide_eq_true_iff]; exact ⟨fun h => .inr h, fun h => h.elim (fun h => absurd h c0) id⟩⟩
end
end Go.Proofs.YtmbppohkadmjgaaGreat
namespace Go.Sx
theorem while_len {α : Type} {p : α -> Bool} : ∀ {l : List α} {k : Nat}, k <= l.length -> (∀ j (hj : j < l.length), j < k -> p l[j] = true) -> (∀ hk : k < l.length, p l[k] = false) -> (l.takeWhile p).length = k
 | [], k, hk, _, _ => by simp at hk; subst hk; rfl
 | y :: ys, 0, hk, h1, h2 => by
  have := h2 (by simp)
  simp only [List.getElem_cons_zero] at this
  simp [List.takeWhile, this]
 | y :: ys, k + 1, hk, h1, h2 => by
  have h0 := h1 0 (by simp) (by omega)
  simp only [List.getElem_cons_zero] at h0
  have := while_len (l := ys) (k := k) (by simpa using hk) (fun j hj hjk => by have := h1 (j + 1) (by simpa using hj) (by omega); simpa using this) (fun hk' => by have := h2 (by simpa using hk'); simpa using this)
  simp [List.takeWhile, h0, this]
theorem while_le {α : Type} (p : α -> Bool) (l : List α) : (l.takeWhile p).length <= l.length := by
 have := congrArg List.length (List.takeWhile_append_dropWhile (p := p) (l := l))
 rw [List.length_append] at this; omega
def fndB (f : Pa -> Int) (t : Int) : Option Pa -> Bool
 | some x => decide (f x = t)
 | none => false
end Go.Sx
namespace Go.Proofs.YtmbppohkadmjgaaGreat
open Go.Sx Go.RowKit
set_option maxRecDepth 100000
section
variable {L : List Pa} {a : Option Addr} {c g : Nat} {ff fc : Array Value} {target : Int} {w : World}
theorem searchP_ct (hs : PaR w a L) (hl : L.length <= 1000000) (f : Pa -> Int) (hok : okFn Tryz.prog g = true) (hr : (-1000000 <= target /\ target <= 1000000) /\ ∀ x ∈ L, -1000000 <= f x /\ f x <= 1000000) (hasc : ∀ i j (hi : i < L.length) (hj : j < L.length), i < j -> f L[i] < f L[j])
 (hf : ∀ (w' : World) (x : Pa) (a1 : Option Addr) (c1 : Nat) (a2 : Option Addr) (c2 : Nat), x ∈ L -> Below w.heap.size w w' -> Calls Tryz.prog g (ff ++ #[aggPa x a1 c1 a2 c2, .int .i64 target] ++ fc) w' fun e w'' => e = .returned (.int .i64 (f x - target)) /\ Below w'.heap.size w' w'') :
 Calls Tryz.prog N_slices_BinarySearchFunc_Sapi_Partial_api_Partial_int #[(.slice a L.length c), (.int .i64 target), .func (.func g) ff fc] w fun e w' => e = .returned (.tuple #[.int .i64 ((L.takeWhile fun x => decide (f x < target)).length : Nat), .bool (fndB f target L[(L.takeWhile fun x => decide (f x < target)).length]?)]) /\ Below w.heap.size w w' := by
 apply F_slices_BinarySearchFunc_Sapi_Partial_api_Partial_int_ok
 unfold F_slices_BinarySearchFunc_Sapi_Partial_api_Partial_int
 have H := St.nil w
 refine ⟨fun i j => ((j - i).toNat, fun w1 => ∃ p q : Nat, i = p /\ j = q /\ p <= q /\ q <= L.length /\ (∀ k (hk : k < L.length), k < p -> f L[k] < target) /\ (∀ k (hk : k < L.length), q <= k -> target <= f L[k]) /\ FreshR w w1 []), ⟨0, L.length, rfl, rfl, by omega, by omega, fun k _ h => by omega, fun k hk h => by omega, H⟩, ?_⟩
 clear H
 rintro _ i j w1 ⟨p, q, rfl, rfl, hpq, hq, h1, h2, H1⟩
 refine bsplit_dec (fun c2 => ?_) (fun c2 => ?_)
 ·refine kW_i64 (by omega) ?_
  refine kW_u64 (by omega) ?_
  refine kLet_in ?_
  have ed : Int.fdiv ((p : Int) + q) (2 ^ 1) = ((p + q) / 2 : Nat) := by
   rw [Int.fdiv_eq_ediv_of_nonneg _ (by decide)]; omega
  rw [ed]
  refine kW_i64 (by omega) ?_
  have hlt : (p + q) / 2 < L.length := by omega
  have hp : p <= (p + q) / 2 := by omega
  have hq2 : (p + q) / 2 < q := by omega
  generalize hmid : (p + q) / 2 = m at hlt hp hq2
  clear hmid ed
  refine ixPa hs m rfl hlt fun b hb => ?_
  obtain ⟨a1, c1', a2, c2', hb, _, _, _⟩ := hb
  refine ⟨_, _, _, _, _, _, _, _, _, cells_below hb H1.below, ?_⟩
  refine ⟨hok, ?_⟩
  refine (hf w1 _ a1 c1' a2 c2' (List.getElem_mem hlt) H1.below).mono ?_
  rintro _ w2 ⟨rfl, hb2⟩; have H2 := H1.pass hb2; clear H1
  refine ⟨_, rfl, ?_⟩
  refine bsplit_dec (fun c0 => ?_) (fun c0 => ?_)
  ·refine kW_i64 (by omega) ?_
   refine ⟨⟨m + 1, q, by omega, rfl, by omega, hq, fun k hk h => ?_, h2, H2⟩, by dsimp only; omega⟩
   rcases Nat.lt_or_ge k m with h' | h'
   ·have := hasc k m hk hlt h'; omega
   ·obtain rfl : k = m := by omega
    omega
  ·refine ⟨⟨p, m, rfl, rfl, hp, by omega, h1, fun k hk h => ?_, H2⟩, by dsimp only; omega⟩
   rcases Nat.lt_or_ge m k with h' | h'
   ·have := hasc m k hlt hk h'; omega
   ·obtain rfl : k = m := by omega
    omega
 ·obtain rfl : p = q := by omega
  have hk : (L.takeWhile fun x => decide (f x < target)).length = p := while_len hq (fun j hj h => decide_eq_true (h1 j hj h)) fun h => decide_eq_false (by have := h2 p h (Nat.le_refl _); omega)
  rw [hk]
  refine bsplit_dec (fun c1 => ?_) (fun c1 => ?_)
  ·have hlt : p < L.length := by omega
   refine ixPa hs p rfl hlt fun b1 hb1 => ?_
   obtain ⟨a1, c1', a2, c2', hb1, _, _, _⟩ := hb1
   refine ⟨_, _, _, _, _, _, _, _, _, cells_below hb1 H1.below, ?_⟩
   refine ⟨hok, ?_⟩
   refine (hf w1 _ a1 c1' a2 c2' (List.getElem_mem hlt) H1.below).mono ?_
   rintro _ w3 ⟨rfl, hb3⟩; have H3 := H1.pass hb3; clear H1
   refine ⟨_, rfl, ?_⟩
   refine kLet_in ?_
   refine ⟨?_, H3.below⟩
   rw [List.getElem?_eq_getElem hlt, fndB, decide_eq_decide.2 (show f L[p] - target = 0 ↔ f L[p] = target by omega)]
  ·refine ⟨?_, H1.below⟩
   rw [List.getElem?_eq_none (by omega)]; rfl
end
theorem receiver_Receive_1_ct {s : Rc} {a : Option Addr} {c q g : Nat} {x : Pa} {a1 a2 : Option Addr} {c1 c2 : Nat} {n : Int} {w : World} (hq : w.cell? ⟨q, 0, none⟩ = some (.pointer (some ⟨g, 0, none⟩))) (hc : cellsAt w ⟨g, 0, none⟩ 0 (encRc s a c)) (hb : bitsOk s.lk.bits) (hn : -1000000 <= n /\ n <= 1000000) :
 Calls Tryz.prog N_receiver_Receive_1 #[aggPa x a1 c1 a2 c2, (.int .i64 n), (.pointer (some ⟨q, 0, none⟩))] w fun e w' => e = .returned (.int .i64 (s.place x.sn - n)) /\ Below w.heap.size w w' := by
 apply F_receiver_Receive_1_ok
 unfold F_receiver_Receive_1
 have H := St.nil w
 have hp := pow_bits hb
 have hpl := placeR_range s x.sn
 refine H.alloc ?_; clear H; intro b w1 H1
 refine ⟨_, H1.below.get hq, ?_⟩
 refine H1.ld (i := 0) rfl rfl ?_
 refine (receiver_side_place_ct (cells_below hc H1.below) hb).mono ?_
 rintro _ w2 ⟨rfl, hb2⟩; have H2 := H1.pass hb2; clear H1
 refine ⟨_, rfl, ?_⟩
 refine kW_i64 (by omega) ?_
 exact ⟨rfl, H2.below⟩
section
variable {A0 : Nat -> Prop} {M : List Nat} {w0 w : World} {R : List Res} {P : World -> Prop}
theorem insertP_ct (H : St A0 M w0 w R P) {i j g : Nat} {a : Option Addr} {c k : Nat} {l : List PP} {x : PP} {t0 : TypeId} (hi : R[i]? = some (.els encPP Ty_api_Partial 5 a c l)) (hj : R[j]? = some (.blk g t0 (encPP x))) (hk : k <= l.length) (hl : l.length <= 1000000)
 {F : Ending -> World -> Prop} (h : ∀ a' c' w', St A0 M w0 w' (R.set i (.els encPP Ty_api_Partial 5 a' c' (l.take k ++ x :: l.drop k))) P -> F (.returned (.slice a' (l.length + 1) c')) w') :
 Calls Tryz.prog N_slices_Insert_Sapi_Partial_api_Partial #[.slice a l.length c, .int .i64 k, .slice (some ⟨g, 0, none⟩) 1 1] w F := by
 have hij : i ≠ j := by rintro rfl; rw [hi] at hj; cases hj
 have hut : Tryz.prog.underlying Ty_S_api_Partial = some (.slice Ty_api_Partial) := sl_Ty_S_api_Partial.ht
 have hsz : (Tryz.prog.info? Ty_api_Partial).map (·.size) = some 5 := by
  obtain ⟨inf, hinf, _, h2, _⟩ := sl_Ty_S_api_Partial.info
  rw [hinf]; simp [h2]
 have hxs : SlR (CE encPP) 5 w (some ⟨g, 0, none⟩) [x] := H.slBlk encPP_ok [x] (i := j) (by simpa using hj)
 have hxc : ∀ {w1 : World} {R1 : List Res}, St A0 M w0 w1 R1 P -> R1[j]? = some (.blk g t0 (encPP x)) -> ∀ j v, (encPP x)[j]? = some v -> w1.cell? ((⟨g, 0, none⟩ : Addr).add j) = some v := fun H1 h1 q v hv => by
  rw [add_mk, Nat.zero_add]; exact H1.cell h1 hv
 have hone : ∀ v ∈ encPP x, v.oneCell' = true := fun v hv => List.all_eq_true.1 (encPP_ok.one x) v hv
 have hsp : l.flatMap encPP = (l.take k).flatMap encPP ++ (l.drop k).flatMap encPP := by rw [<- List.flatMap_append, List.take_append_drop]
 have hl1 : ((l.take k).flatMap encPP).length = k * 5 := by rw [flat_len encPP_ok, List.length_take, Nat.min_eq_left hk]
 have hl2 : ((l.drop k).flatMap encPP).length = (l.length - k) * 5 := by rw [flat_len encPP_ok, List.length_drop]
 have hone2 : ∀ v ∈ (l.drop k).flatMap encPP, v.oneCell' = true := flat_one encPP_ok

 have fin : ∀ {w1 : World} {R1 : List Res} {g' c' : Nat} {Z : List Value}, St A0 M w0 w1 R1 P -> R1[i]? = some (.blk g' Ty_api_Partial ((l.take k).flatMap encPP ++ encPP x ++ (l.drop k).flatMap encPP ++ Z)) -> R1.set i (.els encPP Ty_api_Partial 5 (some ⟨g', 0, none⟩) c' (l.take k ++ x :: l.drop k)) = R.set i (.els encPP Ty_api_Partial 5 (some ⟨g', 0, none⟩) c' (l.take k ++ x :: l.drop k)) ->
  l.length + 1 <= c' -> c' <= maxLen -> (l.length + 1) * 5 + Z.length = c' * 5 -> St A0 M w0 w1 (R.set i (.els encPP Ty_api_Partial 5 (some ⟨g', 0, none⟩) c' (l.take k ++ x :: l.drop k))) P := fun {w1 R1 g' c' Z} H1 h1 hR hn hc hZ => by
  have e : (l.take k).flatMap encPP ++ encPP x ++ (l.drop k).flatMap encPP = (l.take k ++ x :: l.drop k).flatMap encPP := by simp
  have el : (l.take k ++ x :: l.drop k).length = l.length + 1 := by simp; omega
  rw [e] at h1
  have := H1.blkRow h1 5 (l.length + 1) c' (by rw [List.length_append, flat_len encPP_ok, el]; exact hZ) hn hc
  have e2 : ((l.take k ++ x :: l.drop k).flatMap encPP ++ Z).take ((l.length + 1) * 5) = (l.take k ++ x :: l.drop k).flatMap encPP := by
   rw [<- el, <- flat_len encPP_ok]; exact List.take_left
  rw [e2, <- el] at this
  rw [<- hR]; exact this
 apply F_slices_Insert_Sapi_Partial_api_Partial_ok
 unfold F_slices_Insert_Sapi_Partial_api_Partial
 refine ⟨⟨by omega, by omega⟩, ?_⟩
 refine bsplit_dec (fun c1 => by simp at c1) (fun _ => ?_)
 refine bsplit_dec (fun c1 => ?_) (fun c1 => ?_)
 ·obtain rfl : k = l.length := by omega
  refine H.appE encPP_ok hi sl_Ty_S_api_Partial (zs := [x]) hxs (by simp; omega) (by simp; omega) ?_; intro a' c' w' H'
  have := h a' c' w' (by simpa using H')
  simpa using this
 have hlt : k < l.length := by omega
 obtain ⟨g0, rfl, hat, hnc⟩ := H.rowSome hi (by omega)
 have hne : g ≠ g0 := H.ne hj hi (Ne.symm hij) rfl hat
 refine kW_i64 (by omega) ?_
 refine bsplit_dec (fun c2 => ?_) (fun c2 => ?_)
 ·
  refine ⟨⟨by omega, by omega⟩, ?_⟩
  refine kW_i64 (by omega) ?_
  refine kW_i64 (by omega) ?_
  rw [slA0, Int.toNat_natCast, Nat.sub_zero, Nat.sub_zero]
  refine H.growZ encPP_ok hi sl_Ty_S_api_Partial (k2 := .i64) (by kernel_rfl) k (l.length + 1 - k) hk (by omega) (by omega) (by omega) (by omega) (by omega) (by omega) ?_
  intro g' c' w1 Z hc' hcm hZ H1
  have hlen : k + (l.length + 1 - k) = l.length + 1 := by omega
  rw [hlen] at hc' ⊢
  refine ⟨⟨by omega, by omega⟩, ?_⟩
  rw [slA (by omega)]
  obtain ⟨Y, Z1, Z2, rfl, hY, hZ1⟩ := splits (W := Z) (n := 5) (m := (l.length - k) * 5) (by omega)
  have hjl : j < R.length := get_lt hj
  have hil : i < R.length := get_lt hi
  have jj : ∀ {r : Res}, (R ++ [r])[j]? = some (.blk g t0 (encPP x)) := by intro r; rw [List.getElem?_append_left hjl]; exact hj
  have ii : ∀ {r : Res}, (R ++ [r])[i]? = some (.els encPP Ty_api_Partial 5 (some ⟨g0, 0, none⟩) c l) := by intro r; rw [List.getElem?_append_left hil]; exact hi
  have nn : ∀ {r : Res}, (R ++ [r])[R.length]? = some r := by intro r; simp
  have st : ∀ {r s : Res}, (R ++ [r]).set R.length s = R ++ [s] := by intro r s; simp
  refine H1.copyB nn hut hsz ((l.take k).flatMap encPP) Y (Z1 ++ Z2) (encPP x) (by simp) hl1 (by rw [hY]; rfl) ?_ (hxc H1 jj) hone ?_
  ·have : Nat.min 1 (l.length + 1 - k) = 1 := Nat.min_eq_left (by omega)
   rw [this]; rfl
  intro _ w2 H2
  rw [st] at H2
  refine H2.drew ?_; clear H2; intro w3 H3
  refine kW_i64 (by omega) ?_
  refine ⟨⟨by omega, by omega⟩, ⟨by omega, by omega⟩, ?_⟩
  have ek : ((k : Int) + ((1 : Nat) : Int)).toNat = k + 1 := by omega
  rw [ek, slA (by omega), slA (by omega)]
  refine H3.copyB nn hut hsz ((l.take k).flatMap encPP ++ encPP x) Z1 Z2 ((l.drop k).flatMap encPP) (by simp) (by rw [List.length_append, hl1, encPP_ok.len]; omega) (by rw [hZ1, hl2]) ?_ ?_ hone2 ?_
  ·have : Nat.min (l.length - k) (l.length + 1 - (k + 1)) = l.length - k := Nat.min_eq_left (by omega)
   rw [this, hl2]
  ·intro q v hv
   have := H3.cellRow (o := k * 5 + q) ii (by rw [hsp, <- hl1]; exact cat _ _ q v hv)
   rwa [add_mk]
  intro _ w4 H4
  rw [st] at H4
  have H5 := H4.lastAt (i := i) hil
  refine h _ _ _ (fin (Z := Z2) H5 (by rw [List.getElem?_set_self hil]) (by simp) (by omega) hcm ?_)
  simp only [List.length_append] at hZ
  omega
 ·
  refine kW_i64 (by omega) ?_
  refine ⟨⟨by omega, by omega⟩, ?_⟩
  refine kW_i64 (by omega) ?_
  have ek : ((k : Int) + ((1 : Nat) : Int)).toNat = k + 1 := by omega
  have en : ((l.length : Int) + ((1 : Nat) : Int)).toNat = l.length + 1 := by omega
  simp only [ek, en, slA0, Nat.sub_zero, Int.toNat_natCast]
  refine ⟨⟨by omega, by omega⟩, ?_⟩
  obtain ⟨rest, hr1, hcm, _, H1⟩ := H.rowBlk hi
  rw [flat_len encPP_ok] at hr1
  have hil : i < R.length := get_lt hi
  have jj : ∀ {r : Res}, (R.set i r)[j]? = some (.blk g t0 (encPP x)) := by intro r; rw [List.getElem?_set_ne hij]; exact hj
  have ii : ∀ {r : Res}, (R.set i r)[i]? = some r := by intro r; rw [List.getElem?_set_self hil]
  have st : ∀ {r s : Res}, (R.set i r).set i s = R.set i s := by intro r s; simp
  rw [slA (by omega)]
  refine overlaps_ext (tR := Ty_bool) (Tryz.func133) (by kernel_rfl) (by kernel_rfl) (by kernel_rfl) (by kernel_rfl) hut hsz hne (H1.ok j _ jj) (H1.ok i _ ii) (by simp; omega) ?_
  refine ⟨_, rfl, ?_⟩
  refine bsplit_intro (fun _ => ?_) (fun c => by cases c)
  refine H1.drew ?_; clear H1; intro w2 H2
  refine kW_i64 (by omega) ?_
  simp only [ek]
  refine ⟨⟨by omega, by omega⟩, ⟨by omega, by omega⟩, ?_⟩
  rw [slA (by omega), slA (by omega)]
  rw [hsp, List.append_assoc] at H2
  obtain ⟨Y, Z1, Z2, hYZ, hY, hZ1⟩ := splits (W := (l.drop k).flatMap encPP ++ rest) (n := 5) (m := (l.length - k) * 5) (by simp only [List.length_append, hl2]; omega)
  refine H2.copyB ii hut hsz ((l.take k).flatMap encPP ++ Y) Z1 Z2 ((l.drop k).flatMap encPP) (by rw [hYZ]; simp) (by rw [List.length_append, hl1, hY]; omega) (by rw [hZ1, hl2]) ?_ ?_ hone2 ?_
  ·have : Nat.min (l.length + 1 - k) (l.length + 1 - (k + 1)) = l.length - k := by
    rw [show l.length + 1 - (k + 1) = l.length - k by omega]; exact Nat.min_eq_right (by omega)
   rw [this, hl2]
  ·intro q v hv
   have h9 : ((l.take k).flatMap encPP ++ ((l.drop k).flatMap encPP ++ rest))[k * 5 + q]? = some v := by
    rw [<- hl1]
    refine cat _ _ q v ?_
    rw [List.getElem?_append_left (get_lt hv)]; exact hv
   have := H2.cell (o := k * 5 + q) ii h9
   rwa [add_mk]
  intro _ w3 H3
  rw [st] at H3
  refine ⟨⟨by omega, by omega⟩, ?_⟩
  refine H3.copyB ii hut hsz ((l.take k).flatMap encPP) Y ((l.drop k).flatMap encPP ++ Z2) (encPP x) (by simp) hl1 (by rw [hY]; rfl) ?_ (hxc H3 jj) hone ?_
  ·have : Nat.min 1 (l.length + 1 - k) = 1 := Nat.min_eq_left (by omega)
   rw [this]; rfl
  intro _ w4 H4
  rw [st] at H4
  refine h _ _ _ (fin (Z := Z2) H4 (by rw [List.getElem?_set_self hil]; simp) (by simp) (by omega) hcm ?_)
  have := congrArg List.length hYZ
  simp only [List.length_append, hl2, hY, hZ1] at this
  omega
end
end Go.Proofs.YtmbppohkadmjgaaGreat
namespace Go.Sx
open Go.RowKit
section
variable {A0 : Nat -> Prop} {M : List Nat} {w0 w : World} {R Y T : List Res} {r q s : Res} {P : World -> Prop} {k : Nat}
theorem at_mid : (Y ++ r :: T)[Y.length]? = some r := by simp
theorem set_mid : (Y ++ r :: T).set Y.length s = Y ++ s :: T := by simp
theorem at_in (h : T[k]? = some q) : (Y ++ r :: T)[Y.length + 1 + k]? = some q := by
 rw [List.getElem?_append_right (by omega), show Y.length + 1 + k - Y.length = k + 1 by omega]; simpa using h
theorem set_in : (Y ++ r :: T).set (Y.length + 1 + k) s = Y ++ r :: T.set k s := by
 rw [List.set_append_right _ _ (by omega), show Y.length + 1 + k - Y.length = k + 1 by omega]; rfl
theorem St.copyI {Pr : Program} {i g c : Nat} {e : TypeId} {ki : IntKind} {ys zs : List Int} (H : St A0 M w0 w R P) (hi : R[i]? = some (.ints e ki (some ⟨g, 0, none⟩) c ys)) {dT sT ty elem : TypeId} (hu : Pr.underlying dT = some (.slice elem)) (hs : (Pr.info? elem).map (·.size) = some 1)
 {o dLen dCap sLen sCap : Nat} {p : Option Addr} (hz : SlR (IntC ki) 1 w p zs) (h0 : 0 < zs.length) (ho : o + zs.length <= ys.length) (hn : zs.length = Nat.min sLen dLen) {F : Int -> World -> Prop}
 (h : ∀ n w', St A0 M w0 w' (R.set i (.ints e ki (some ⟨g, 0, none⟩) c (ys.take o ++ zs ++ ys.drop (o + zs.length)))) P -> F n w') : CopyP Pr #[dT, sT] ty #[.slice (some ⟨g, o, none⟩) dLen dCap, .slice p sLen sCap] w F := by
 obtain ⟨rest, hr1, hcm, hnc, H1⟩ := H.rowBlk hi
 have hil : i < R.length := get_lt hi
 cases p with
 | none =>
  rcases hz with h | ⟨b, hb, _⟩
  ·rw [h] at h0; simp at h0
  ·cases hb
 | some p =>
  have hl : ys = ys.take o ++ ((ys.drop o).take zs.length ++ ys.drop (o + zs.length)) := by
   rw [<- List.drop_drop, List.take_append_drop, List.take_append_drop]
  refine H1.copyB (i := i) (by rw [List.getElem?_set_self hil]) hu hs ((ys.take o).map (Value.int ki)) (((ys.drop o).take zs.length).map (Value.int ki)) ((ys.drop (o + zs.length)).map (Value.int ki) ++ rest) (zs.map (Value.int ki)) ?_ (by simp; omega) (by simp; omega) (by simp only [List.length_map, Nat.mul_one]; exact hn) (slr_ints hz) (fun v hv => ?_) ?_
  ·rw [<- List.append_assoc, <- List.map_append, <- List.map_append, List.append_assoc, <- hl]
  ·simp only [List.mem_map] at hv; obtain ⟨x, _, rfl⟩ := hv; rfl
  intro n w2 H2
  rw [List.set_set] at H2
  have e1 : (ys.take o).map (Value.int ki) ++ zs.map (Value.int ki) ++ ((ys.drop (o + zs.length)).map (Value.int ki) ++ rest) = (ys.take o ++ zs ++ ys.drop (o + zs.length)).map (Value.int ki) ++ rest := by simp
  rw [e1] at H2
  have el : (ys.take o ++ zs ++ ys.drop (o + zs.length)).length = ys.length := by simp; omega
  have hyl : (ys.map (Value.int ki)).length = ys.length := by simp
  have H3 := H2.blkRow (i := i) (by rw [List.getElem?_set_self hil]) 1 ys.length c (by rw [List.length_append, List.length_map, el]; rw [hyl] at hr1; omega) hnc hcm
  have e2 : ((ys.take o ++ zs ++ ys.drop (o + zs.length)).map (Value.int ki) ++ rest).take (ys.length * 1) = (ys.take o ++ zs ++ ys.drop (o + zs.length)).map (Value.int ki) := by
   have : ys.length * 1 = ((ys.take o ++ zs ++ ys.drop (o + zs.length)).map (Value.int ki)).length := by rw [List.length_map, el]; omega
   rw [this]; exact List.take_left
  rw [e2, List.set_set] at H3
  refine h n w2 ?_
  have e3 : Res.ints e ki (some ⟨g, 0, none⟩) c (ys.take o ++ zs ++ ys.drop (o + zs.length)) = .row e 1 (some ⟨g, 0, none⟩) ys.length c ((ys.take o ++ zs ++ ys.drop (o + zs.length)).map (Value.int ki)) := by
   simp only [Res.ints, el]
  rw [e3]; exact H3
end
end Go.Sx
namespace Go.Proofs.YtmbppohkadmjgaaGreat
open Go.Sx Go.RowKit
set_option maxRecDepth 100000
theorem zeroC (m : Nat) : (Builtin.zeroCells (Value.int .u8 0).cells m).toList = (List.replicate m (0 : Int)).map (Value.int .u8) := by
 apply List.ext_getElem
 ·simp [Builtin.zeroCells, Value.cells]
 ·intro i h1 h2
  simp [Builtin.zeroCells, Value.cells, Nat.mod_one]
section
variable {A0 : Nat -> Prop} {M : List Nat} {w0 w : World} {X : List Res} {P : World -> Prop} {g uc k : Nat} {L : List PP} {p : Pc} {pa : Option Addr} {pc : Nat}
theorem St.putP (H : St A0 [] w0 w (X ++ .els encPP Ty_api_Partial 5 (some ⟨g, 0, none⟩) uc L :: L.map agP) P) (hk : k < L.length) (y : PP) (hy : L[k] = y) (hp : (0 <= p.off /\ p.off <= 2054) /\ 1 <= p.data.length /\ p.off + p.data.length <= 2054)
 (hd : y.p.data.length <= 3000) (h0 : 0 < y.p.data.length \/ (y.p.data = [] /\ y.a = none /\ y.c = 0)) (hcl : y.p.come.length <= 3000) (hn : normB (-1) y.p.come = true) (hs : ∀ w, P w -> SlR (IntC .u8) 1 w pa p.data) (hcome : ∀ w, P w -> SlR (CE encR) 3 w y.a2 y.p.come) {K : Ending -> World -> Prop}
 (h : ∀ w' (z : PP), z.p = mergeS y.p p -> z.p.data.length <= z.c -> St A0 [] w0 w' (X ++ .els encPP Ty_api_Partial 5 (some ⟨g, 0, none⟩) uc (L.set k z) :: (L.set k z).map agP) (fun w => SlR (CE encR) 3 w z.a2 z.p.come /\ P w) -> K (.returned (.tuple #[])) w') :
 Calls Tryz.prog N_receiver_piece_put #[aggPx p pa pc, (.pointer (some ⟨g, k * 5, none⟩))] w K := by
 apply F_receiver_piece_put_ok
 unfold F_receiver_piece_put
 obtain ⟨⟨hp1, hp2⟩, hp3, hp4⟩ := hp
 have hen : p.en = p.off + p.data.length := rfl
 have hul : (L.map agP)[k]? = some (agP y) := by rw [List.getElem?_map, List.getElem?_eq_getElem hk, hy]; rfl
 refine H.alloc ?_; clear H; intro b w1 H1
 have H1 := St.lastTo (X := []) (T := X ++ .els encPP Ty_api_Partial 5 (some ⟨g, 0, none⟩) uc L :: L.map agP) H1
 obtain ⟨Y, hY⟩ : ∃ Y, Y = Res.blk b Ty_receiver_piece (encPx p pa pc) :: X := ⟨_, rfl⟩
 have hY0 : ∀ (r : Res) (T : List Res), (Y ++ r :: T)[0]? = some (.blk b Ty_receiver_piece (encPx p pa pc)) := fun r T => by rw [hY]; rfl
 replace H1 : St A0 [] w0 w1 (Y ++ .els encPP Ty_api_Partial 5 (some ⟨g, 0, none⟩) uc L :: L.map agP) P := by rw [hY]; exact H1
 refine ⟨fun w5 => ∃ (da : Option Addr) (dc : Nat), St A0 [] w0 w5 (Y ++ .els encPP Ty_api_Partial 5 (some ⟨g, 0, none⟩) uc (L.set k ⟨{ y.p with data := y.p.data ++ List.replicate (p.off.toNat + p.data.length - y.p.data.length) 0 }, da, dc, y.a2, y.c2⟩) :: (L.set k ⟨{ y.p with data := y.p.data ++ List.replicate (p.off.toNat + p.data.length - y.p.data.length) 0 }, da, dc, y.a2, y.c2⟩).map agP) P, ?_, ?_⟩
 ·rintro _ w5 ⟨da, dc, H5⟩
  obtain ⟨D, hD⟩ : ∃ D, D = y.p.data ++ List.replicate (p.off.toNat + p.data.length - y.p.data.length) (0 : Int) := ⟨_, rfl⟩
  have hDl : p.off.toNat + p.data.length <= D.length /\ D.length <= 6000 := by rw [hD, List.length_append, List.length_replicate]; omega
  rw [<- hD] at H5
  obtain ⟨y1, hy1⟩ : ∃ y1 : PP, y1 = ⟨{ y.p with data := D }, da, dc, y.a2, y.c2⟩ := ⟨_, rfl⟩
  rw [<- hy1] at H5
  have hk5 : k < (L.set k y1).length := by simpa using hk
  have hg5 : (L.set k y1)[k] = y1 := by simp
  have hu5 : ((L.set k y1).map agP)[k]? = some (agP y1) := by rw [List.getElem?_map, List.getElem?_eq_getElem hk5, hg5]; rfl
  refine H5.drew ?_; clear H5; intro w6 H6
  refine ⟨da, D.length, dc, H6.cellEl encPP_ok (i := Y.length) at_mid hk5 (j := 3) (by decide) (by rw [hg5, hy1]; rfl), ?_⟩
  refine H6.ld (i := 0) (hY0 _ _) rfl ?_
  refine ⟨⟨by omega, by omega⟩, ?_⟩
  refine H6.ldS (i := 0) (hY0 _ _) rfl ?_
  have hi6 : (Y ++ Res.els encPP Ty_api_Partial 5 (some ⟨g, 0, none⟩) uc (L.set k y1) :: (L.set k y1).map agP)[Y.length + 1 + k]? = some (.ints Ty_uint8 .u8 da dc D) := by
   rw [at_in hu5, hy1]; rfl
  obtain ⟨g2, rfl, _, hdc⟩ := H6.rowSome hi6 (by omega)
  rw [slA (by omega), Nat.mul_one]
  refine H6.copyI hi6 (elem := Ty_uint8) sl_Ty_S_uint8.ht (by kernel_rfl) (hs _ H6.get) (by omega) (o := p.off.toNat) (by omega) (Nat.min_eq_left (by omega)).symm ?_
  intro _ w7 H7
  rw [set_in] at H7
  obtain ⟨D2, hD2⟩ : ∃ D2, D2 = D.take p.off.toNat ++ p.data ++ D.drop (p.off.toNat + p.data.length) := ⟨_, rfl⟩
  have hlay : layD y.p.data p.off.toNat p.data = D2 := by rw [hD2, hD]; rfl
  have hD2l : D2.length = D.length := by rw [hD2]; simp; omega
  rw [<- hD2] at H7
  obtain ⟨y2, hy2⟩ : ∃ y2 : PP, y2 = ⟨{ y.p with data := D2 }, some ⟨g2, 0, none⟩, dc, y.a2, y.c2⟩ := ⟨_, rfl⟩
  have e7 : ((L.set k y1).map agP).set k (.ints Ty_uint8 .u8 (some ⟨g2, 0, none⟩) dc D2) = (L.set k y2).map agP := by
   rw [List.map_set, List.map_set, List.set_set, hy2]; rfl
  have e7' : Res.els encPP Ty_api_Partial 5 (some ⟨g, 0, none⟩) uc (L.set k y1) = .els encPP Ty_api_Partial 5 (some ⟨g, 0, none⟩) uc (L.set k y2) := by
   have : (L.set k y1).flatMap encPP = (L.set k y2).flatMap encPP := by
    rw [List.flatMap_def, List.flatMap_def, List.map_set, List.map_set]
    congr 2
    rw [hy1, hy2]; show encPa _ _ _ _ _ = encPa _ _ _ _ _; simp only [encPa, hD2l]
   simp only [Res.els, List.length_set, this]
  rw [e7, e7'] at H7
  have hk7 : k < (L.set k y2).length := by simpa using hk
  have hg7 : (L.set k y2)[k] = y2 := by simp
  refine H7.drew ?_; clear H7; intro w8 H8
  refine ⟨(· < w8.heap.size), ?_⟩
  refine ⟨H8.lt (i := Y.length) at_mid rfl, ?_⟩
  refine ⟨y.a2, y.p.come.length, y.c2, H8.cellEl encPP_ok (i := Y.length) at_mid hk7 (j := 4) (by decide) (by rw [hg7, hy2]; rfl), ?_⟩
  refine H8.ld (i := 0) (hY0 _ _) rfl ?_
  refine H8.ld (i := 0) (hY0 _ _) rfl ?_
  refine H8.ld (i := 0) (hY0 _ _) rfl ?_
  refine ⟨KeepsB.refl _ _, ?_⟩
  have hU : unionR y.p.come ⟨p.sn, p.off, p.en⟩ = (unionS p.sn y.p.come p.off p.en, 0) := by
   unfold unionR
   rw [if_neg]
   rw [hn]
   simp [normB]; omega
  have C := segment_Union_ct (l := y.p.come) (l_c := y.c2) (r := ⟨p.sn, p.off, p.en⟩) (hcome _ H8.get) (by omega)
  rw [hU] at C
  dsimp only at C
  refine C.mono ?_; clear C
  rintro _ w9 ⟨ca, cc, hcc, rfl, K9⟩
  have H9 := H8.callF K9
  rw [List.append_nil] at H9
  refine ⟨_, _, _, _, rfl, ?_⟩
  obtain ⟨y3, hy3⟩ : ∃ y3 : PP, y3 = ⟨{ y.p with data := D2, come := unionS p.sn y.p.come p.off p.en }, some ⟨g2, 0, none⟩, dc, ca, cc⟩ := ⟨_, rfl⟩
  refine H9.setEl encPP_ok (i := Y.length) at_mid hk7 (j := 4) (by decide) y3 (by rw [hg7, hy2, hy3]; rfl) ?_
  intro w10 _ H10
  rw [set_mid, List.set_set] at H10
  have e10 : (L.set k y2).map agP = (L.set k y3).map agP := by rw [List.map_set, List.map_set, hy2, hy3]; rfl
  rw [e10] at H10
  have hk10 : k < (L.set k y3).length := by simpa using hk
  have hg10 : (L.set k y3)[k] = y3 := by simp
  refine H10.ldB (i := 0) (hY0 _ _) rfl ?_
  have fin : ∀ {w' : World} {z : PP} {Q : World -> Prop}, St A0 [] w0 w' (Y ++ .els encPP Ty_api_Partial 5 (some ⟨g, 0, none⟩) uc (L.set k z) :: (L.set k z).map agP) Q -> St A0 [] w0 w' (X ++ .els encPP Ty_api_Partial 5 (some ⟨g, 0, none⟩) uc (L.set k z) :: (L.set k z).map agP) Q := fun {w' z Q} H => by
   rw [hY] at H
   exact St.skip (X := []) H
  refine bsplit_intro (fun c1 => ?_) (fun c1 => ?_)
  ·refine H10.ld (i := 0) (hY0 _ _) rfl ?_
   obtain ⟨y4, hy4⟩ : ∃ y4 : PP, y4 = ⟨{ y.p with data := D2, come := unionS p.sn y.p.come p.off p.en, len := p.en }, some ⟨g2, 0, none⟩, dc, ca, cc⟩ := ⟨_, rfl⟩
   refine H10.setEl encPP_ok (i := Y.length) at_mid hk10 (j := 2) (by decide) y4 (by rw [hg10, hy3, hy4]; rfl) ?_
   intro w11 _ H11
   rw [set_mid, List.set_set] at H11
   have e11 : (L.set k y3).map agP = (L.set k y4).map agP := by rw [List.map_set, List.map_set, hy3, hy4]; rfl
   rw [e11] at H11
   refine h w11 y4 (by rw [hy4, mergeS, if_pos c1, hlay]) (by rw [hy4]; show D2.length <= dc; omega) ((fin H11).imp fun _ h => ⟨?_, h.2⟩)
   rw [hy4]; exact h.1
  ·refine h w10 y3 (by rw [hy3, mergeS, if_neg (by rw [c1]; decide), hlay]) (by rw [hy3]; show D2.length <= dc; omega) ((fin H10).imp fun _ h => ⟨?_, h.2⟩)
   rw [hy3]; exact h.1
 ·refine H1.drew ?_; clear H1; intro w2 H2
  have hi2 : (Y ++ Res.els encPP Ty_api_Partial 5 (some ⟨g, 0, none⟩) uc L :: L.map agP)[Y.length + 1 + k]? = some (.ints Ty_uint8 .u8 y.a y.c y.p.data) := by
   rw [at_in hul]; rfl
  have c3 := H2.cellEl encPP_ok (i := Y.length) at_mid hk (j := 3) (v := .slice y.a y.p.data.length y.c) (by decide) (by rw [hy]; rfl)
  refine H2.ld (i := 0) (hY0 _ _) rfl ?_
  refine ⟨_, _, _, c3, ?_⟩
  refine kW_i64 (by omega) ?_
  refine bsplit_dec (fun c0 => ?_) (fun c0 => ?_)
  ·refine ⟨_, _, _, c3, ?_⟩
   obtain ⟨m, hm⟩ : ∃ m, m = p.off.toNat + p.data.length - y.p.data.length := ⟨_, rfl⟩
   have hxm : p.en - (y.p.data.length : Int) = (m : Nat) := by omega
   have step : ∀ (da : Option Addr) (dc : Nat) (w3 : World), St A0 [] w0 w3 (Y ++ .els encPP Ty_api_Partial 5 (some ⟨g, 0, none⟩) uc L :: (L.map agP).set k (.ints Ty_uint8 .u8 da dc (y.p.data ++ List.replicate m 0))) P ->
    kSet w3 ⟨g, k * 5 + 3, none⟩ (.slice da (y.p.data ++ List.replicate m (0 : Int)).length dc) fun w4 => ∃ (da : Option Addr) (dc : Nat), St A0 [] w0 w4 (Y ++ .els encPP Ty_api_Partial 5 (some ⟨g, 0, none⟩) uc (L.set k ⟨{ y.p with data := y.p.data ++ List.replicate (p.off.toNat + p.data.length - y.p.data.length) 0 }, da, dc, y.a2, y.c2⟩) :: (L.set k ⟨{ y.p with data := y.p.data ++ List.replicate (p.off.toNat + p.data.length - y.p.data.length) 0 }, da, dc, y.a2, y.c2⟩).map agP) P := fun da dc w3 H3 => by
    refine H3.setEl encPP_ok (i := Y.length) at_mid hk (j := 3) (by decide) ⟨{ y.p with data := y.p.data ++ List.replicate m 0 }, da, dc, y.a2, y.c2⟩ (by rw [hy]; rfl) ?_
    intro w4 _ H4
    rw [set_mid] at H4
    refine ⟨da, dc, ?_⟩
    rw [<- hm]
    have e4 : (L.set k ⟨{ y.p with data := y.p.data ++ List.replicate m 0 }, da, dc, y.a2, y.c2⟩).map agP = (L.map agP).set k (.ints Ty_uint8 .u8 da dc (y.p.data ++ List.replicate m 0)) := by rw [List.map_set]; rfl
    rw [e4]; exact H4
   rcases h0 with h0 | ⟨h1, h2, h3⟩
   ·refine H2.appZ hi2 sl_Ty_S_uint8 (k2 := .i64) (by kernel_rfl) h0 m hxm (by omega) (by omega) ?_
    intro da dc w3 H3
    rw [set_in] at H3
    exact step da dc w3 H3
   ·rw [h2, h3, h1, List.length_nil]
    rw [h1, List.length_nil] at hxm
    refine H2.appZ0 (e := Ty_uint8) (z := .int .u8 0) sl_Ty_S_uint8 (k2 := .i64) (by kernel_rfl) m (by simpa using hxm) (by omega) (by omega) (by omega) ?_
    intro da dc w3 H3
    rw [zeroC] at H3
    have H3 := H3.lastAt (i := Y.length + 1 + k) (by simp; omega)
    rw [set_in] at H3
    have := step da dc w3 (by
     rw [h1, List.nil_append]
     have e : Res.ints Ty_uint8 .u8 da dc (List.replicate m (0 : Int)) = .row Ty_uint8 1 da m dc ((List.replicate m (0 : Int)).map (Value.int .u8)) := by simp only [Res.ints, List.length_replicate]
     rw [e]; exact H3)
    rw [h1, List.nil_append, List.length_replicate] at this
    exact this
  ·refine ⟨y.a, y.c, ?_⟩
   have e : p.off.toNat + p.data.length - y.p.data.length = 0 := by omega
   have e2 : L.set k ⟨{ y.p with data := y.p.data ++ List.replicate (p.off.toNat + p.data.length - y.p.data.length) 0 }, y.a, y.c, y.a2, y.c2⟩ = L := by
    rw [e, List.replicate_zero, List.append_nil]
    exact list_set_self (by rw [List.getElem?_eq_getElem hk, hy])
   rw [e2]; exact H2
end
end Go.Proofs.YtmbppohkadmjgaaGreat
namespace Go.Proofs.YtmbppohkadmjgaaGreat
open Go.Sx Go.RowKit
set_option maxRecDepth 100000
section
variable {s : Rc} {a : Option Addr} {c g : Nat} {A : Nat -> Prop} {w : World} {P : World -> Prop}
theorem receiver_side_advance_ct (hb : bitsOk s.lk.bits) (hf : 0 <= s.first /\ s.first <= 1000000) (hcap : s.parts.length <= c) (hp : ∀ w, P w -> PaR w a s.parts) (hP : Held A w P) (hB : (rcBlk g s a c).ok w) (hn : ∀ b, (rcBlk g s a c).at = some b -> ¬ A b) :
 Calls Tryz.prog N_receiver_side_advance #[(.pointer (some ⟨g, 0, none⟩))] w fun e w' => ∃ a' c', e = .returned (.tuple #[]) /\ (∀ w, P w -> PaR w a' (advS s).parts) /\ St A [g] w w' [rcBlk g (advS s) a' c'] P := by
 apply F_receiver_side_advance_ok
 unfold F_receiver_side_advance
 have H : St A [g] w w [rcBlk g s a c] P := St.startM hP hB hn
 obtain ⟨v, hv⟩ : ∃ v : Rc, v = adv1 s := ⟨_, rfl⟩
 have e0 : advS s = adv2 v := by rw [hv]; rfl
 have hvk : v.lk = s.lk := by rw [hv]; rfl
 rw [e0]
 unfold adv2
 refine ⟨fun w7 => ∃ a' c', (∀ w, P w -> PaR w a' v.parts) /\ St A [g] w w7 [rcBlk g v a' c'] P, ?_, ?_⟩
 ·rintro _ w7 ⟨a', c', hp', H7⟩
  have hb' : bitsOk v.lk.bits := by rw [hvk]; exact hb
  refine H7.drew ?_; clear H7; intro w8 H8
  refine ⟨(· < w8.heap.size), ?_⟩
  refine H8.ld (i := 0) rfl rfl ?_
  refine ⟨H8.lt (i := 0) rfl rfl, ?_⟩
  refine H8.ld (i := 0) rfl rfl ?_
  refine (receiver_side_place_ct (H8.cells (i := 0) rfl) hb').mono ?_
  rintro _ w9 ⟨rfl, hb9⟩; have H9 := H8.pass hb9
  refine ⟨_, rfl, ?_⟩
  refine ⟨hb9.keeps, ?_⟩
  refine (receiver_side_place_ct (H9.cells (i := 0) rfl) hb').mono ?_
  rintro _ w10 ⟨rfl, hb10⟩; have H10 := H9.pass hb10
  refine ⟨_, rfl, ?_⟩
  replace hb10 := below_step hb9 (Nat.le_refl _) hb10
  refine ⟨hb10.keeps, ?_⟩
  refine bsplit_dec (fun c3 => ?_) (fun c3 => ?_)
  ·refine H10.ld (i := 0) rfl rfl ?_
   refine H10.set (i := 0) rfl (by show 8 < 14; decide) ?_; clear H10; intro w11 H11
   exact ⟨a', c', rfl, by rw [if_pos c3]; exact hp', by rw [if_pos c3]; exact H11⟩
  ·exact ⟨a', c', rfl, by rw [if_neg c3]; exact hp', by rw [if_neg c3]; exact H10⟩
 ·refine ⟨fun m w1 => ∃ (t : Rc) (ta : Option Addr) (tc : Nat), m = t.parts.length /\ t = { s with first := t.first, parts := t.parts } /\ dropS s.lk.bits t.first t.parts = dropS s.lk.bits s.first s.parts /\ (0 <= t.first /\ t.first <= 1000000) /\ t.parts.length <= tc /\ (∀ w, P w -> PaR w ta t.parts) /\ St A [g] w w1 [rcBlk g t ta tc] P,
   ⟨_, s, a, c, rfl, rfl, rfl, hf, hcap, hp, H⟩, ?_⟩
  clear H
  rintro _ m w1 ⟨t, ta, tc, rfl, ht, hd, hft, htc, hpt, H1⟩
  have hbt : bitsOk t.lk.bits := by rw [ht]; exact hb
  have hex : (∀ p l, t.parts = p :: l -> p.sn = t.first -> p.done = true -> False) -> ∀ w3, St A [g] w w3 [rcBlk g t ta tc] P -> ∃ a' c', (∀ w, P w -> PaR w a' v.parts) /\ St A [g] w w3 [rcBlk g v a' c'] P := fun hno w3 H3 => by
   have e : v = t := by
    rw [hv, ht]
    unfold adv1
    rw [<- hd]
    have : dropS s.lk.bits t.first t.parts = (t.first, t.parts) := by
     cases hl : t.parts with
     | nil => rfl
     | cons p l => rw [dropS, if_neg (fun h => hno p l hl h.1 h.2)]
    rw [this]
   rw [e]
   exact ⟨ta, tc, hpt, H3⟩
  refine ⟨fun w3 => (∃ p l, t.parts = p :: l /\ p.sn = t.first /\ p.done = true) /\ St A [g] w w3 [rcBlk g t ta tc] P, ?_, ?_⟩
  ·rintro _ w3 ⟨⟨p, l, hl, hps, hpd⟩, H3⟩
   have hll : t.parts.length = l.length + 1 := by rw [hl]; rfl
   refine H3.ldS (i := 0) rfl rfl ?_
   refine ⟨⟨by omega, by omega⟩, ?_⟩
   refine H3.set (i := 0) rfl (by show 13 < 14; decide) ?_; clear H3; intro w4 H4
   replace H4 : St A [g] w w4 [rcBlk g { t with parts := l } (slAddr tc (1 : Int).toNat 5 ta) (tc - (1 : Int).toNat)] P := by
    have : l.length = t.parts.length - (1 : Int).toNat := by rw [hll]; rfl
    show St A [g] w w4 [.blk g Ty_receiver_side (encRc { t with parts := l } _ _)] P
    unfold encRc
    rw [show ({ t with parts := l } : Rc).parts.length = t.parts.length - (1 : Int).toNat from this]
    exact H4
   refine H4.ld (i := 0) rfl rfl ?_
   refine (receiver_side_behind_ct (s := { t with parts := l }) (n := t.first) (H4.cells (i := 0) rfl) hbt ⟨by omega, by omega⟩).mono ?_
   rintro _ w5 ⟨rfl, hb5⟩; have H5 := H4.pass hb5; clear H4
   refine ⟨_, rfl, ?_⟩
   refine H5.set (i := 0) rfl (by show 6 < 14; decide) ?_; clear H5; intro w6 H6
   have hpw := pow_bits hbt
   refine ⟨_, ?_, { t with parts := l, first := t.behind t.first }, _, _, rfl, ?_, ?_, ?_, ?_, ?_, H6⟩
   ·rw [hll]; show l.length < l.length + 1; omega
   ·rw [ht]
   ·rw [<- hd, hl, dropS, if_pos ⟨hps, hpd⟩]
    show dropS s.lk.bits (t.behind t.first) l = _
    rw [Rc.behind, show t.lk = s.lk by rw [ht]]
   ·show 0 <= t.behind t.first /\ t.behind t.first <= 1000000
    unfold Rc.behind
    have h1 := Int.emod_nonneg (t.first + 1) (b := 2 ^ t.lk.bits.toNat) (by omega)
    have h2 := Int.emod_lt_of_pos (t.first + 1) (b := 2 ^ t.lk.bits.toNat) (by omega)
    omega
   ·show l.length <= tc - 1
    omega
   ·intro w9 h9
    have h3 := hpt w9 h9
    have h4 := h3.tailE (m := tc) (l := 1) htc
    rw [hl] at h4
    exact h4
  ·refine H1.drew ?_; clear H1; intro w2 H2
   refine H2.ldS (i := 0) rfl rfl ?_
   refine bsplit_dec (fun c2 => ?_) (fun c2 => ?_)
   ·refine H2.ldS (i := 0) rfl rfl ?_
    have hlt : 0 < t.parts.length := by omega
    refine ixPa (hpt _ H2.get) 0 rfl hlt fun b hbb => ?_
    obtain ⟨p, l, hl⟩ : ∃ p l, t.parts = p :: l := by
     cases h : t.parts with
     | nil => rw [h] at hlt; simp at hlt
     | cons p l => exact ⟨p, l, rfl⟩
    have hp0 : t.parts[0] = p := by simp [hl]
    rw [hp0] at hbb
    obtain ⟨a1, c1', a2, c2', hbb, _, _, _⟩ := hbb
    refine ⟨_, by have := cellsAt_get hbb 0 _ rfl; rwa [Nat.zero_add, add_zero] at this, ?_⟩
    refine H2.ld (i := 0) rfl rfl ?_
    refine bsplit_dec (fun c1 => ?_) (fun c1 => ?_)
    ·refine H2.ldS (i := 0) rfl rfl ?_
     refine ixPa (hpt _ H2.get) 0 rfl hlt fun b1 hb1 => ?_
     rw [hp0] at hb1
     obtain ⟨a3, c3', a4, c4', hb1, _, _, _⟩ := hb1
     refine ⟨_, by have := cellsAt_get hb1 1 _ rfl; rwa [Nat.zero_add] at this, ?_⟩
     refine bsplit_intro (fun c => ?_) (fun c => ?_)
     ·exact ⟨⟨p, l, hl, c1, c⟩, H2⟩
     ·exact hex (fun p' l' h1 h2 h3 => by rw [hl] at h1; injection h1 with h1 _; subst h1; rw [h3] at c; cases c) _ H2
    ·exact hex (fun p' l' h1 h2 h3 => by rw [hl] at h1; injection h1 with h1 _; subst h1; exact c1 h2) _ H2
   ·exact hex (fun p' l' h1 h2 h3 => by rw [h1] at c2; simp at c2) _ H2
theorem St.advR {A0 : Nat -> Prop} {M : List Nat} {w0 w : World} {R : List Res} {P : World -> Prop} {g i : Nat} (H : St A0 M w0 w R P) (hi : R[i]? = some (rcBlk g s a c)) (hb : bitsOk s.lk.bits) (hf : 0 <= s.first /\ s.first <= 1000000) (hcap : s.parts.length <= c) (hp : ∀ w, P w -> PaR w a s.parts) {K : Ending -> World -> Prop}
 (h : ∀ a' c' w', (∀ w, P w -> PaR w a' (advS s).parts) -> St A0 M w0 w' (R.set i (rcBlk g (advS s) a' c')) P -> K (.returned (.tuple #[])) w') : Calls Tryz.prog N_receiver_side_advance #[(.pointer (some ⟨g, 0, none⟩))] w K := by
 obtain ⟨A, hA, hn', hr, hc⟩ := H.callM hi
 refine (receiver_side_advance_ct hb hf hcap hp hA hr hn').mono ?_
 rintro _ w2 ⟨a', c', rfl, hp', S⟩
 have := hc S
 rw [List.append_nil] at this
 exact h a' c' w2 hp' (this.imp fun _ h => h.2)
end
end Go.Proofs.YtmbppohkadmjgaaGreat
namespace Go.Sx
theorem decP_good {b : Int} {bs : List Int} (h : (decP b bs).2 = 0) : (decP b bs).1.ok b := by
 unfold decP at h ⊢
 by_cases h1 : ¬ bitsOk b
 ·rw [if_pos h1] at h; cases h
 rw [if_neg h1] at h ⊢
 by_cases h2 : bs.length < 2
 ·rw [if_pos h2] at h; cases h
 rw [if_neg h2] at h ⊢
 by_cases h3 : bs.length <= headN (rawP bs).part
 ·rw [if_pos h3] at h; cases h
 rw [if_neg h3] at h ⊢
 by_cases h4 : bs.getD 0 0 < 128 \/ ¬ (rawP bs).ok b
 ·rw [if_pos h4] at h; cases h
 rw [if_neg h4]
 exact Classical.byContradiction fun h5 => h4 (.inr h5)
theorem fnd_eq {s : Rc} {n : Int} (hb : bitsOk s.lk.bits) (hn : snOk s.lk.bits n) (hall : ∀ x ∈ s.parts, snOk s.lk.bits x.sn) : fndB (fun x => s.place x.sn) (s.place n) s.parts[atP s n]? = foundB s n := by
 unfold foundB
 cases h : s.parts[atP s n]? with
 | none => rfl
 | some x =>
  have hx := hall x (List.mem_of_getElem? h)
  show decide _ = decide _
  rw [decide_eq_decide]
  exact ⟨fun e => place_inj hb hx hn e, fun e => by show s.place x.sn = _; rw [e]⟩
theorem found_at {s : Rc} {n : Int} (h : foundB s n = true) : ∃ hk : atP s n < s.parts.length, s.parts[atP s n].sn = n := by
 unfold foundB at h
 split at h
 ·rename_i x hx
  obtain ⟨hk, e⟩ := List.getElem?_eq_some_iff.1 hx
  exact ⟨hk, by rw [e]; exact of_decide_eq_true h⟩
 ·cases h
theorem end_pos {l : List Rg} (h : normB (-1) l = true) (hl : l ≠ []) : 0 < endT l := by
 obtain ⟨_, h2⟩ := norm_end (q := 0) h
 obtain ⟨x, hx, e⟩ := h2 hl
 have := norm_lt l _ h x hx
 unfold endT; omega
theorem pollR_parts (s : Rc) (p : Pc) : (pollR s p).parts = s.parts := by unfold pollR; split <;> rfl
theorem advS_lk (s : Rc) : (advS s).lk = s.lk := by unfold advS adv2; split <;> rfl
end Go.Sx
namespace Go.Proofs.YtmbppohkadmjgaaGreat
open Go.Sx Go.RowKit
set_option maxRecDepth 100000
theorem not_done {s : Rc} {p : Pc} (h : foundB s p.sn = true) (hr : refusedS s p = 0) : ∀ x, s.parts[atP s p.sn]? = some x -> x.done = false := by
 intro x hx
 rw [refX_eq, if_pos h, hx] at hr
 unfold refX at hr
 cases hd : x.done with
 | false => rfl
 | true =>
  split at hr
  ·cases hr
  ·simp [hd] at hr
def RetRU (w : World) (x : Rc) (u : List Int) (E : Int) (e : Ending) (w' : World) : Prop :=
 ∃ a c ba bc, e = .returned (.tuple #[aggRc x a c, .slice ba u.length bc, .int .i64 E]) /\ u.length <= bc /\ Fresh w w' fun w => PaR w a x.parts /\ SlR (IntC .u8) 1 w ba u
def Soft (w : World) (a : Option Addr) : Prop := ∀ b q : Addr, a = some b -> q.block = b.block -> w.frozen? q = false
theorem Soft.none_ (w : World) : Soft w none := fun _ _ h => by cases h
theorem Soft.tail {w : World} {a : Option Addr} (h : Soft w a) (m l sz : Nat) : Soft w (slAddr m l sz a) := by
 intro b q hb hq
 unfold slAddr at hb
 split at hb
 ·exact h b q hb hq
 ·cases ha : a with
  | none => rw [ha] at hb; cases hb
  | some x =>
   rw [ha] at hb
   have e : x.add (l * sz) = b := Option.some.inj hb
   exact h x q ha (by rw [hq, <- e]; exact add_block _ _)
theorem soft_own {w : World} {base : Nat} {e : TypeId} {sz n c : Nat} {a : Option Addr} {xs : List Value} (h : Own w base e sz a n c xs) : Soft w a := by
 intro b q hb hq
 subst hb
 rcases h.2 with ⟨h', _⟩ | ⟨g, _, _, h', _⟩
 ·cases h'
 ·injection h' with h1 _ _
  injection h1 with h1
  subst h1
  have e : w.frozen? q = w.frozen? ⟨g, q.off, none⟩ := by unfold World.frozen?; rw [hq]
  rw [e]
  exact World.ownsRow.frozenAt h _
abbrev PaS (w : World) (a : Option Addr) (L : List Pa) : Prop := PaR w a L /\ Soft w a
theorem readFS {A0 : Nat -> Prop} {w0 w : World} {X : List Res} {P : World -> Prop} {L : List PP} {ua : Option Addr} {uc : Nat} (H : St A0 [] w0 w (X ++ .els encPP Ty_api_Partial 5 ua uc L :: L.map agP) P) (hc : ∀ w, P w -> CoR L w) : St A0 [] w0 w X fun w => PaS w ua (L.map (·.p)) /\ P w := by
 have H' : St A0 [] w0 w ((X ++ [.els encPP Ty_api_Partial 5 ua uc L]) ++ L.map agP) P := by simpa using H
 have K := (shareDa H').share (i := X.length) (r := .els encPP Ty_api_Partial 5 ua uc L) (by simp)
 rw [List.set_append_right _ _ (Nat.le_refl _)] at K
 exact K.left.imp fun w h => ⟨⟨up_paR (els_sl encPP_ok h.1) h.2.1 (hc w h.2.2), soft_own h.1⟩, h.2.2⟩
theorem readF {A0 : Nat -> Prop} {w0 w : World} {X : List Res} {P : World -> Prop} {L : List PP} {ua : Option Addr} {uc : Nat} (H : St A0 [] w0 w (X ++ .els encPP Ty_api_Partial 5 ua uc L :: L.map agP) P) (hc : ∀ w, P w -> CoR L w) : St A0 [] w0 w X fun w => PaR w ua (L.map (·.p)) /\ P w :=
 (readFS H hc).imp fun _ h => ⟨h.1.1, h.2⟩
theorem swapDa {A0 : Nat -> Prop} {w0 w : World} {X : List Res} {r : Res} {P : World -> Prop} {L : List PP} {k : Nat} (H : St A0 [] w0 w (X ++ r :: L.map agP) P) (hk : k < L.length) (z : PP) (hz : agP z = .ints Ty_uint8 .u8 none 0 []) :
 St A0 [] w0 w (X ++ r :: (L.set k z).map agP) fun w => (agP L[k]).ok w /\ P w := by
 have hu : (L.map agP)[k]? = some (agP L[k]) := by rw [List.getElem?_map, List.getElem?_eq_getElem hk]; rfl
 have K := H.share (at_in hu)
 rw [set_in] at K
 have K := K.nilI Ty_uint8 .u8
 have e : X ++ r :: (L.map agP).set k .gone ++ [Res.ints Ty_uint8 .u8 none 0 []] = (X ++ [r]) ++ (L.map agP).set k .gone ++ [agP z] := by rw [hz]; simp
 rw [e] at K
 have K := St.swapLast k K
 rw [List.set_set, <- List.map_set] at K
 have e2 : X ++ r :: (L.set k z).map agP = (X ++ [r]) ++ (L.set k z).map agP := by simp
 rw [e2]; exact K
theorem insDa {A0 : Nat -> Prop} {w0 w : World} {X : List Res} {r : Res} {P : World -> Prop} {L : List PP} {k : Nat} (H : St A0 [] w0 w (X ++ r :: L.map agP) P) (z : PP) (hz : agP z = .ints Ty_uint8 .u8 none 0 []) :
 St A0 [] w0 w (X ++ r :: (L.take k ++ z :: L.drop k).map agP) P := by
 have K := H.nilI Ty_uint8 .u8
 have e : X ++ r :: L.map agP ++ [Res.ints Ty_uint8 .u8 none 0 []] = (X ++ [r]) ++ L.map agP ++ [agP z] := by rw [hz]; simp
 rw [e] at K
 have K := St.lastTo K
 have e2 : L.map agP = (L.take k).map agP ++ (L.drop k).map agP := by rw [<- List.map_append, List.take_append_drop]
 rw [e2] at K
 have K := St.newIn K
 have e3 : X ++ r :: (L.take k ++ z :: L.drop k).map agP = X ++ [r] ++ ((L.take k).map agP ++ agP z :: (L.drop k).map agP) := by simp
 rw [e3]; exact K
def Ready (L : List PP) (k : Nat) : Prop := ∃ hk : k < L.length, L[k].p.data.length <= 3000 /\ (0 < L[k].p.data.length \/ (L[k].p.data = [] /\ L[k].a = none /\ L[k].c = 0)) /\ L[k].p.come.length <= 3000 /\ normB (-1) L[k].p.come = true
abbrev rowsR (b b1 g b2 b3 pb : Nat) (s : Rc) (a : Option Addr) (c : Nat) (t : Rc) (ua : Option Addr) (uc : Nat) (p : Pc) (pa : Option Addr) (pc : Nat) (L : List PP) : List Res :=
 .blk b Ty_api_Receiver (encRc s a c) :: .blk b1 Ty_api_Receiver (encRc .zero none 0) :: rcBlk g t ua uc :: .blk b2 Ty_P_receiver_side [.pointer (some ⟨g, 0, none⟩)] :: .blk b3 Ty_api_Piece [.int .i64 p.sn, .int .i64 p.part, .int .i64 p.poll, .int .i64 p.off, .slice pa p.data.length pc] :: .blk pb Ty_receiver_piece (encPx p pa pc) :: .els encPP Ty_api_Partial 5 ua uc L :: L.map agP
section
variable {s : Rc} {a : Option Addr} {c : Nat} {b_a : Option Addr} {b_c : Nat} {bs : List Int} {w : World}
theorem receiver_Receive_ct (hu : PaR w a s.parts) (hl : SmP s.parts) (hs : SlR (IntC .u8) 1 w b_a bs) (hB : Bytes bs) (hlb : bs.length <= 140737488355328) (hcap : bs.length <= b_c) :
 Calls Tryz.prog N_receiver_Receive #[aggRc s a c, .slice b_a bs.length b_c] w (RetRU w (recS s bs).1 (recS s bs).2.1 (recS s bs).2.2) := by
 apply F_receiver_Receive_ok
 unfold F_receiver_Receive
 have H := St.nil w
 refine H.alloc ?_; clear H; intro b w1 H1
 refine H1.alloc ?_; clear H1; intro b1 w2 H2
 refine ⟨_, _, _, _, _, _, _, _, _, _, _, _, _, _, _, _, H2.cells (i := 0) rfl, ?_⟩
 refine (receiver_Valid_ct (paR_below hu H2.below) hl).mono ?_
 rintro _ w3 ⟨rfl, hb3⟩; have H3 := H2.pass hb3; clear H2
 refine ⟨_, rfl, ?_⟩
 refine bsplit_n (fun c5 => ?_) (fun c5 => ?_)
 ·refine H3.store (i := 1) rfl (by rfl) (by rfl) ?_; clear H3; intro w4 H4
  refine ⟨_, _, _, _, _, _, _, _, _, _, _, _, _, _, _, _, H4.cells (i := 1) rfl, ?_⟩
  rw [recS, if_pos c5]
  exact ⟨none, 0, none, 0, rfl, Nat.le_refl _, H4.fin.imp fun _ _ => ⟨.nil, .nil⟩⟩
 ·obtain ⟨hf, hlk, hs1, hs2, hs3, hq, hall⟩ := rc_fit c5
  have hb := hlk.1
  have hasc := rc_asc c5
  obtain ⟨q, hq⟩ : ∃ q, q = decP s.lk.bits bs := ⟨_, rfl⟩
  have e0 : recS s bs = if q.2 ≠ 0 then (s, [], q.2) else if refusedS s q.1 ≠ 0 then (pollR s q.1, [], refusedS s q.1) else (pollR (startR (advS (putP s q.1))) q.1, unitS s q.1, 0) := by
   rw [hq, recS, if_neg (by rw [c5]; decide)]
  rw [e0]
  refine ⟨_, _, _, _, _, _, _, _, _, _, _, _, _, _, _, _, H3.cells (i := 0) rfl, ?_⟩
  refine (receiver_begin_ct (paR_below hu H3.below) hf).mono ?_
  rintro _ w5 ⟨g5, ua5, uc5, L5, hL5, rfl, K5⟩; have H5 := H3.callF K5; clear H3
  try simp only [List.cons_append, List.nil_append] at H5
  have hlen5 : s.parts.length = L5.length := by rw [<- hL5, List.length_map]
  refine ⟨_, rfl, ?_⟩
  refine H5.alloc ?_; clear H5; intro b2 w6 H6
  have H6 := St.lastTo (X := [_, _, _]) H6
  try simp only [List.cons_append, List.nil_append] at H6
  refine H6.set (i := 3) rfl (by decide) ?_; clear H6; intro w7 H7
  refine H7.ld (i := 0) rfl rfl ?_
  have C8 := segment_Decode_ct (bits := s.lk.bits) (b_c := b_c) (hs.below H7.below) hB hlb hcap
  rw [<- hq] at C8
  refine C8.mono ?_; clear C8
  rintro _ w8 ⟨pa, pc, hpc, rfl, K8⟩; have H8 := H7.callF K8; clear H7
  rw [List.append_nil] at H8
  refine ⟨_, _, _, _, _, _, _, _, rfl, ?_⟩
  refine H8.alloc ?_; clear H8; intro b3 w9 H9
  have H9 := St.lastTo (X := [_, _, _, _]) H9
  try simp only [List.cons_append, List.nil_append] at H9
  refine H9.store (i := 4) rfl (by rfl) (by rfl) ?_; clear H9; intro w10 H10
  refine bsplit_nd (fun c4 => ?_) (fun c4 => ?_)
  ·refine ⟨_, H10.cell (i := 3) rfl rfl, ?_⟩
   refine kNil_in ?_
   try rw [add_mk]
   refine ⟨_, _, _, _, _, _, _, _, _, _, _, _, _, _, _, _, H10.cells (i := 2) rfl, ?_⟩
   refine H10.store (i := 1) rfl (by rfl) (by rfl) ?_; clear H10; intro w11 H11
   refine ⟨_, _, _, _, _, _, _, _, _, _, _, _, _, _, _, _, H11.cells (i := 1) rfl, ?_⟩
   rw [if_pos c4]
   exact ⟨ua5, uc5, none, 0, rfl, Nat.le_refl _, (readF (X := [_, _, _, _, _]) H11 fun _ h => h.2.1).fin.imp fun _ h => ⟨by rw [<- hL5]; exact h.1, .nil⟩⟩
  ·have hq0 : q.2 = 0 := by simpa using c4
   rw [if_neg (by rw [hq0]; decide)]
   obtain ⟨pcc, hpcc⟩ : ∃ pcc, pcc = q.1 := ⟨_, rfl⟩
   have hpok : pcc.ok s.lk.bits := by rw [hpcc]; rw [hq] at hq0 ⊢; exact decP_good hq0
   obtain ⟨-, hpsn, hpart, hppoll, hpoff, hpo, hpd, hpe⟩ := hpok
   rw [<- hpcc] at H10 hpc ⊢
   have hsn : snOk s.lk.bits pcc.sn := hpsn
   have hfnd := fnd_eq hb hsn fun x hx => (hall x hx).2
   obtain ⟨k, hk⟩ : ∃ k, k = atP s pcc.sn := ⟨_, rfl⟩
   have hkl : k <= s.parts.length := by rw [hk]; exact while_le _ _
   have hl6 : s.parts.length <= 600 := hf.1
   have hb0 := pow_bits hb
   refine ⟨fun pp w21 => ∃ pb, pp = (⟨pb, 0, none⟩ : Addr) /\ St (fun _ => False) [] w w21 (rowsR b b1 g5 b2 b3 pb s a c s ua5 uc5 pcc pa pc L5) (fun w => SlR (IntC .u8) 1 w pa pcc.data /\ CoR L5 w /\ True), ?_, ?_⟩
   ·rintro _ _ w21 ⟨pb, rfl, H21⟩
    refine H21.drew ?_; clear H21; intro w22 H22
    refine ⟨(· < w22.heap.size), ?_⟩
    refine ⟨H22.lt (i := 3) rfl rfl, ?_⟩
    refine ⟨_, H22.cell (i := 3) rfl rfl, ?_⟩
    refine kNil_in ?_
    try rw [add_mk]
    refine ⟨H22.lt (i := 2) rfl rfl, ?_⟩
    refine H22.ldS (i := 2) rfl rfl ?_
    refine ⟨_, H22.cell (i := 3) rfl rfl, ?_⟩
    refine ⟨_, H22.cell (i := 5) rfl rfl, ?_⟩
    refine (receiver_side_place_ct (H22.cells (i := 2) rfl) hb).mono ?_
    rintro _ w23 ⟨rfl, hb23⟩; have H23 := H22.pass hb23
    refine ⟨_, rfl, ?_⟩
    refine ⟨hb23.keeps, ?_⟩
    have hpa23 : PaR w23 ua5 s.parts := by
     have := readP (X := [_, _, _, _, _, _]) H23 fun _ h => h.2.1
     rwa [hL5] at this
    have C24 := searchP_ct (c := uc5) (g := N_receiver_Receive_1) (ff := #[]) (fc := #[.pointer (some ⟨b2, 0, none⟩)]) (target := s.place pcc.sn) hpa23 (by omega) (fun x => s.place x.sn) (by kernel_rfl) ⟨by have := placeR_range s pcc.sn; omega, fun x _ => by have := placeR_range s x.sn; omega⟩ hasc
     (fun w9 x a1 c1 a2 c2 _ hb9 => receiver_Receive_1_ct (hb9.get (H23.cell (i := 3) rfl rfl)) (cells_below (H23.cells (i := 2) rfl) hb9) hb (by have := placeR_range s pcc.sn; omega))
    rw [show (s.parts.takeWhile fun x => decide (s.place x.sn < s.place pcc.sn)).length = atP s pcc.sn from rfl, hfnd] at C24
    refine C24.mono ?_; clear C24
    rintro _ w24 ⟨rfl, hb24⟩; have H24 := H23.pass hb24; have hb24' := hb24
    refine ⟨_, _, rfl, ?_⟩
    replace hb24 := below_step hb23 (Nat.le_refl _) hb24
    refine ⟨hb24.keeps, ?_⟩
    refine ⟨_, H24.cell (i := 3) rfl rfl, ?_⟩
    refine ⟨_, _, _, _, _, _, _, _, _, H24.cells (i := 5) rfl, ?_⟩
    refine (receiver_side_refused_ct (p := pcc) (pa := pa) (pc := pc) (k := atP s pcc.sn) (found := foundB s pcc.sn) (H24.cells (i := 2) rfl) (paR_below hpa23 hb24') hb (fun h => (found_at h).1) (fun x hx => by have := (hf.2 x hx).1; omega)).mono ?_
    rintro _ w25 ⟨rfl, hb25⟩; have H25 := H24.pass hb25; clear H24
    rw [<- refX_eq]
    refine ⟨_, rfl, ?_⟩
    refine bsplit_nd (fun c3 => ?_) (fun c3 => ?_)
    ·refine ⟨_, H25.cell (i := 3) rfl rfl, ?_⟩
     refine ⟨_, _, _, _, _, _, _, H25.cells (i := 4) rfl, ?_⟩
     refine St.pollR (p := pcc) (pa := pa) (pc := pc) H25 (i := 2) rfl ?_
     intro w26 H26
     refine ⟨rfl, ?_⟩
     refine ⟨_, H26.cell (i := 3) rfl rfl, ?_⟩
     refine kNil_in ?_
     try rw [add_mk]
     refine ⟨_, _, _, _, _, _, _, _, _, _, _, _, _, _, _, _, H26.cells (i := 2) rfl, ?_⟩
     refine H26.store (i := 1) rfl (by rfl) (by rfl) ?_; clear H26; intro w27 H27
     refine ⟨_, _, _, _, _, _, _, _, _, _, _, _, _, _, _, _, H27.cells (i := 1) rfl, ?_⟩
     rw [if_pos c3]
     exact ⟨ua5, uc5, none, 0, rfl, Nat.le_refl _, (readF (X := [_, _, _, _, _, _]) H27 fun _ h => h.2.1).fin.imp fun _ h => ⟨by rw [pollR_parts, <- hL5]; exact h.1, .nil⟩⟩
    ·have hr0 : refusedS s pcc = 0 := by simpa using c3
     rw [if_neg (by rw [hr0]; decide)]
     refine ⟨fun w32 => ∃ (L6 : List PP) (ua6 : Option Addr) (uc6 : Nat), L6.map (·.p) = insS s pcc /\ Ready L6 k /\ St (fun _ => False) [] w w32 (rowsR b b1 g5 b2 b3 pb s a c { s with parts := insS s pcc } ua6 uc6 pcc pa pc L6) (fun w => SlR (IntC .u8) 1 w pa pcc.data /\ CoR L6 w), ?_, ?_⟩
     ·rintro _ w32 ⟨L6, ua6, uc6, hL6, hrd, H32⟩
      obtain ⟨hkL, hr1, hr2, hr3, hr4⟩ := hrd
      have hlen6 : (insS s pcc).length = L6.length := by rw [<- hL6, List.length_map]
      have hmg : mergedS s pcc = mergeS L6[k].p pcc := by
       unfold mergedS
       rw [<- hL6, <- hk, List.getElem?_map, List.getElem?_eq_getElem hkL]; rfl
      have hins : (insS s pcc).length <= 601 := by
       unfold insS; split
       ·omega
       ·simp only [List.length_append, List.length_cons, List.length_take, List.length_drop]; omega
      obtain ⟨t2, ht2⟩ : ∃ t2 : Rc, t2 = { s with parts := insS s pcc, next := if s.place pcc.sn >= s.place s.next then s.behind pcc.sn else s.next } := ⟨_, rfl⟩
      refine ⟨fun w39 => St (fun _ => False) [] w w39 (rowsR b b1 g5 b2 b3 pb s a c t2 ua6 uc6 pcc pa pc L6) (fun w => SlR (IntC .u8) 1 w pa pcc.data /\ CoR L6 w), ?_, ?_⟩
      ·rintro _ w39 H39
       obtain ⟨g6, rfl, -, hc6⟩ := H39.rowSome (i := 6) rfl (by omega)
       obtain ⟨v, hv⟩ : ∃ v : Rc, v = putP s pcc := ⟨_, rfl⟩
       have e2 : encRc t2 (some ⟨g6, 0, none⟩) uc6 = encRc v (some ⟨g6, 0, none⟩) uc6 := by rw [hv, ht2]; unfold encRc putP; simp only [List.length_set]
       have e2' : ∀ L, rowsR b b1 g5 b2 b3 pb s a c t2 (some ⟨g6, 0, none⟩) uc6 pcc pa pc L = rowsR b b1 g5 b2 b3 pb s a c v (some ⟨g6, 0, none⟩) uc6 pcc pa pc L := fun L => by unfold rowsR rcBlk; rw [e2]
       rw [e2'] at H39
       have ht2l : t2.parts.length = L6.length := by rw [ht2]; exact hlen6
       have hvp : v.parts = (insS s pcc).set k (if compB (mergedS s pcc) then donePa pcc.sn else mergedS s pcc) := by rw [hv, hk]; rfl
       have hvl : v.parts.length = L6.length := by rw [hvp, List.length_set, hlen6]
       have hvk : v.lk = s.lk := by rw [hv]; rfl
       have hvf : v.first = s.first := by rw [hv]; rfl
       rw [<- hv]
       refine ⟨_, H39.cell (i := 3) rfl rfl, ?_⟩
       refine kNil_in ?_
       try rw [add_mk]
       refine H39.ldS (i := 2) rfl rfl ?_
       refine ⟨⟨g6, 0, none⟩, rfl, ⟨by omega, by omega⟩, ?_⟩
       dsimp only
       rw [<- hk, elA0]
       refine ⟨_, _, _, _, _, _, _, _, _, H39.cells (i := 5) rfl, ?_⟩
       refine St.putP (X := [_, _, _, _, _, _]) (p := pcc) (pa := pa) (pc := pc) H39 hkL L6[k] rfl ⟨hpo, hpd, hpe⟩ hr1 hr2 hr3 hr4 (fun _ h => h.1) (fun _ h => h.2 _ (List.getElem_mem _)) ?_
       intro w40 z hz hzc H40
       have hzk : k < (L6.set k z).length := by simpa using hkL
       have hzg : (L6.set k z)[k] = z := by simp
       have hco : ∀ w, (SlR (CE encR) 3 w z.a2 z.p.come /\ SlR (IntC .u8) 1 w pa pcc.data /\ CoR L6 w) -> ∀ y : PP, (∀ w, (SlR (CE encR) 3 w z.a2 z.p.come) -> SlR (CE encR) 3 w y.a2 y.p.come) -> CoR (L6.set k y) w := fun w h y hy x hx => by
        rcases List.mem_or_eq_of_mem_set hx with hx | rfl
        ·exact h.2.2 x hx
        ·exact hy w h.1
       rw [<- hmg] at hz
       refine ⟨rfl, ?_⟩
       refine ⟨fun out_a out_l out_c w43 => ∃ (L7 : List PP), L7.map (·.p) = v.parts /\ out_l = (unitS s pcc).length /\ out_l <= out_c /\ St (fun _ => False) [] w w43 (rowsR b b1 g5 b2 b3 pb s a c v (some ⟨g6, 0, none⟩) uc6 pcc pa pc L7) (fun w => SlR (IntC .u8) 1 w out_a (unitS s pcc) /\ CoR L7 w), ?_, ?_⟩
       ·rintro _ out_a _ out_c w43 ⟨L7, hL7, rfl, hoc, H43⟩
        have H43 := readF (X := [_, _, _, _, _, _]) H43 fun _ h => h.2
        rw [hL7] at H43
        refine ⟨_, H43.cell (i := 3) rfl rfl, ?_⟩
        refine St.advR (s := v) H43 (i := 2) rfl (by rw [hvk]; exact hb) (by rw [hvf]; unfold snOk at hs1; omega) (by omega) (fun _ h => h.1) ?_
        intro aa ac w44 hp44 H44
        clear H43
        refine ⟨rfl, ?_⟩
        refine ⟨_, H44.cell (i := 3) rfl rfl, ?_⟩
        refine St.startR (s := advS v) H44 (i := 2) rfl (by rw [advS_lk, hvk]; exact hb) ?_
        intro w45 H45
        refine ⟨rfl, ?_⟩
        refine ⟨_, H45.cell (i := 3) rfl rfl, ?_⟩
        refine ⟨_, _, _, _, _, _, _, H45.cells (i := 4) rfl, ?_⟩
        refine St.pollR (p := pcc) (pa := pa) (pc := pc) H45 (i := 2) rfl ?_
        intro w46 H46
        refine ⟨rfl, ?_⟩
        refine ⟨_, H46.cell (i := 3) rfl rfl, ?_⟩
        refine kNil_in ?_
        try rw [add_mk]
        refine ⟨_, _, _, _, _, _, _, _, _, _, _, _, _, _, _, _, H46.cells (i := 2) rfl, ?_⟩
        refine H46.store (i := 1) rfl (by rfl) (by rfl) ?_; clear H46; intro w47 H47
        refine ⟨_, _, _, _, _, _, _, _, _, _, _, _, _, _, _, _, H47.cells (i := 1) rfl, ?_⟩
        have ep : (pollR (startR (advS v)) pcc).parts = (advS v).parts := by rw [pollR_parts, (startR_same _).1]
        exact ⟨aa, ac, out_a, out_c, rfl, hoc, H47.fin.imp fun _ h => ⟨by rw [ep]; exact hp44 _ h, h.2.1⟩⟩
       ·have hcz := H40.cellsEl encPP_ok (i := 6) rfl hzk
        rw [hzg] at hcz
        refine ⟨_, _, _, _, _, _, _, _, _, hcz, ?_⟩
        refine (receiver_complete_ct (x := z.p) H40.get.1).mono ?_
        rw [hz]
        rintro _ w41 ⟨rfl, hb41⟩; have H41 := H40.pass hb41; clear H40
        refine ⟨_, rfl, ?_⟩
        refine bsplit_intro (fun c2 => ?_) (fun c2 => ?_)
        ·refine ⟨_, _, _, by have := H41.cellEl encPP_ok (i := 6) rfl hzk (j := 3) (by decide) (by rw [hzg]; rfl); rwa [add_mk], ?_⟩
         refine ⟨_, H41.cell (i := 5) rfl rfl, ?_⟩
         refine H41.storeEl encPP_ok (i := 6) rfl hzk ⟨donePa pcc.sn, none, 0, none, 0⟩ ?_; intro w42 _ H42
         have K := swapDa (X := [_, _, _, _, _, _]) H42 hzk ⟨donePa pcc.sn, none, 0, none, 0⟩ rfl
         rw [List.set_set, hzg] at K
         exact ⟨L6.set k ⟨donePa pcc.sn, none, 0, none, 0⟩, by rw [List.map_set, hL6, hvp, if_pos c2], by rw [unitS, if_pos c2, <- hz], hzc, K.imp fun w h => ⟨by rw [unitS, if_pos c2, <- hz]; exact (ints_ok h.1).sl, hco w h.2 _ fun _ _ => .nil⟩⟩
        ·have c2' : ¬ compB (mergedS s pcc) = true := by rw [c2]; decide
         exact ⟨L6.set k z, by rw [List.map_set, hL6, hvp, if_neg c2', hz], by rw [unitS, if_neg c2']; rfl, Nat.zero_le _, H41.imp fun w h => ⟨by rw [unitS, if_neg c2']; exact .nil, hco w h _ fun _ h => h⟩⟩
      ·refine H32.drew ?_; clear H32; intro w33 H33
       refine ⟨(· < w33.heap.size), ?_⟩
       refine ⟨_, H33.cell (i := 3) rfl rfl, ?_⟩
       refine ⟨_, H33.cell (i := 5) rfl rfl, ?_⟩
       refine ⟨H33.lt (i := 3) rfl rfl, ?_⟩
       refine ⟨_, H33.cell (i := 3) rfl rfl, ?_⟩
       refine ⟨H33.lt (i := 3) rfl rfl, ?_⟩
       refine ⟨_, H33.cell (i := 3) rfl rfl, ?_⟩
       refine kNil_in ?_
       try rw [add_mk]
       refine ⟨H33.lt (i := 2) rfl rfl, ?_⟩
       refine H33.ld (i := 2) rfl rfl ?_
       refine (receiver_side_place_ct (H33.cells (i := 2) rfl) hb).mono ?_
       rintro _ w34 ⟨rfl, hb34⟩; have H34 := H33.pass hb34
       refine ⟨_, rfl, ?_⟩
       refine ⟨hb34.keeps, ?_⟩
       refine (receiver_side_place_ct (H34.cells (i := 2) rfl) hb).mono ?_
       rintro _ w35 ⟨rfl, hb35⟩; have H35 := H34.pass hb35
       refine ⟨_, rfl, ?_⟩
       replace hb35 := below_step hb34 (Nat.le_refl _) hb35
       refine ⟨hb35.keeps, ?_⟩
       refine bsplit_dec (fun c1 => ?_) (fun c1 => ?_)
       ·refine H35.drew ?_; clear H35; intro w36 H36
        refine ⟨(· < w36.heap.size), ?_⟩
        refine ⟨H36.lt (i := 3) rfl rfl, ?_⟩
        refine ⟨_, H36.cell (i := 3) rfl rfl, ?_⟩
        refine ⟨_, H36.cell (i := 3) rfl rfl, ?_⟩
        refine ⟨_, H36.cell (i := 5) rfl rfl, ?_⟩
        refine (receiver_side_behind_ct (n := pcc.sn) (H36.cells (i := 2) rfl) hb (by unfold snOk at hsn; omega)).mono ?_
        rintro _ w37 ⟨rfl, hb37⟩; have H37 := H36.pass hb37
        refine ⟨_, rfl, ?_⟩
        refine ⟨hb37.keeps, ?_⟩
        refine kNil_in ?_
        try rw [add_mk]
        refine H37.set (i := 2) rfl (by show 7 < 14; decide) ?_; intro w38 H38
        rw [ht2, if_pos (show s.place pcc.sn >= s.place s.next from c1)]
        exact H38
       ·rw [ht2, if_neg (show ¬ s.place pcc.sn >= s.place s.next from c1)]
        exact H35
     ·refine bsplit_n (fun c => ?_) (fun c => ?_)
      ·refine H25.drew ?_; clear H25; intro w28 H28
       refine ⟨fun x => x = b2 \/ x = g5, ?_⟩
       refine ⟨.inl rfl, ?_⟩
       refine ⟨_, H28.cell (i := 3) rfl rfl, ?_⟩
       refine ⟨.inl rfl, ?_⟩
       refine ⟨_, H28.cell (i := 3) rfl rfl, ?_⟩
       refine kNil_in ?_
       try rw [add_mk]
       refine ⟨.inr rfl, ?_⟩
       refine H28.ldS (i := 2) rfl rfl ?_
       refine ⟨_, H28.cell (i := 5) rfl rfl, ?_⟩
       refine ⟨KeepsB.refl _ _, ?_⟩
       refine H28.allocB ?_; intro b7 w29 hb29 H29
       have H29 := St.lastTo (X := [_, _, _, _, _, _]) H29
       try simp only [List.cons_append, List.nil_append] at H29
       refine ⟨keepB2 (keepB1 (H28.ok 3 _ rfl) (H29.ok 3 _ rfl)) (keepB1 (H28.ok 2 _ rfl) (H29.ok 2 _ rfl)), ?_⟩
       rw [<- hk, hlen5]
       refine insertP_ct (x := ⟨newPa pcc.sn, none, 0, none, 0⟩) H29 (i := 7) (j := 6) rfl rfl (by omega) (by omega) ?_
       intro ua6 uc6 w30 H30
       refine ⟨_, _, _, rfl, ?_⟩
       skip
       refine ⟨keepB2 (keepB1 (H28.ok 3 _ rfl) (H30.ok 3 _ rfl)) (keepB1 (H28.ok 2 _ rfl) (H30.ok 2 _ rfl)), ?_⟩
       refine kNil_in ?_
       try rw [add_mk]
       refine H30.set (i := 2) rfl (by show 13 < 14; decide) ?_; intro w31 H31
       have H31 := St.skip (X := [_, _, _, _, _, _]) H31
       have H31 := insDa (X := [_, _, _, _, _, _]) (k := k) H31 ⟨newPa pcc.sn, none, 0, none, 0⟩ rfl
       have hi6 : insS s pcc = s.parts.take k ++ newPa pcc.sn :: s.parts.drop k := by rw [insS, if_neg (by rw [c]; decide), hk]
       have el : (insS s pcc).length = L5.length + 1 := by rw [hi6]; simp; omega
       have e : rcBlk g5 { s with parts := insS s pcc } ua6 uc6 = .blk g5 Ty_receiver_side ((encRc s ua5 uc5).set 13 (.slice ua6 (L5.length + 1) uc6)) := by unfold rcBlk encRc; simp only [el]; rfl
       have hkn : k < (L5.take k ++ (⟨newPa pcc.sn, none, 0, none, 0⟩ : PP) :: L5.drop k).length := by simp; omega
       have hgn : (L5.take k ++ (⟨newPa pcc.sn, none, 0, none, 0⟩ : PP) :: L5.drop k)[k] = ⟨newPa pcc.sn, none, 0, none, 0⟩ := by
        rw [List.getElem_append_right (by simp; omega)]
        simp [show k - min k L5.length = 0 by omega]
       refine ⟨_, ua6, uc6, ?_, ⟨hkn, ?_⟩, ?_⟩
       ·rw [List.map_append, List.map_cons, List.map_take, List.map_drop, hL5, hi6]
       ·rw [hgn]; exact ⟨Nat.zero_le _, .inr ⟨rfl, rfl, rfl⟩, Nat.zero_le _, rfl⟩
       ·unfold rowsR
        rw [e]
        exact H31.imp fun w h => ⟨h.1, fun x hx => by
         rcases List.mem_append.1 hx with hx | hx
         ·exact h.2.1 x (List.mem_of_mem_take hx)
         ·rcases List.mem_cons.1 hx with rfl | hx
          ·exact .nil
          ·exact h.2.1 x (List.mem_of_mem_drop hx)⟩
      ·obtain ⟨hk1, hk2⟩ := found_at c
       have hi6 : insS s pcc = s.parts := by rw [insS, if_pos c]
       rw [hi6]
       have hkL : k < L5.length := by rw [hk]; omega
       have hx : L5[k].p = s.parts[atP s pcc.sn] := by
        have : (L5.map (·.p))[k]? = some L5[k].p := by rw [List.getElem?_map, List.getElem?_eq_getElem hkL]; rfl
        rw [hL5] at this
        have h3 : s.parts[k]? = some s.parts[atP s pcc.sn] := by rw [hk]; exact List.getElem?_eq_getElem hk1
        exact Option.some.inj (this.symm.trans h3)
       have hnd := not_done c hr0 _ (List.getElem?_eq_getElem hk1)
       have hpb := (hall _ (List.getElem_mem hk1)).1
       rw [<- hx] at hnd hpb
       rw [paB, if_neg (by rw [hnd]; decide), Bool.and_eq_true, decide_eq_true_iff] at hpb
       have hcl := paNum_len hpb.1
       obtain ⟨⟨-, hne, hno, -, hen, hdl, -⟩, -⟩ := hpb
       have hpos := end_pos hno hne
       refine ⟨L5, ua5, uc5, hL5, ⟨hkL, by omega, .inl (by omega), by omega, hno⟩, ?_⟩
       exact H25.imp fun w h => ⟨h.1, h.2.1⟩
   ·refine H10.drew ?_; clear H10; intro w12 H12
    refine ⟨(· < w12.heap.size), ?_⟩
    refine ⟨H12.lt (i := 4) rfl rfl, ?_⟩
    refine ⟨_, _, _, _, _, _, _, H12.cells (i := 4) rfl, ?_⟩
    refine ⟨H12.lt (i := 4) rfl rfl, ?_⟩
    refine H12.ld (i := 4) rfl rfl ?_
    refine ⟨H12.lt (i := 4) rfl rfl, ?_⟩
    refine H12.ldS (i := 4) rfl rfl ?_
    refine kW_i64 (by omega) ?_
    refine ⟨H12.lt (i := 4) rfl rfl, ?_⟩
    refine H12.ld (i := 4) rfl rfl ?_
    refine ⟨?_, ?_, trivial⟩
    ·refine segment_Ends_ct.mono ?_
     rintro _ w13 ⟨rfl, hb13⟩; have H13 := H12.pass hb13
     refine ⟨_, rfl, ?_⟩
     refine ⟨hb13.keeps, ?_⟩
     refine ⟨?_, ?_, trivial⟩
     ·refine ⟨hb13.keeps, ?_⟩
      refine H13.allocB ?_; intro b4 w14 hb14 H14
      have H14 := St.lastTo (X := [_, _, _, _, _]) H14
      try simp only [List.cons_append, List.nil_append] at H14
      refine ⟨(below_step hb13 (Nat.le_refl _) hb14).keeps, ?_⟩
      refine H14.store (i := 5) rfl (by rfl) (by rfl) ?_; intro w15 H15
      exact ⟨b4, rfl, H15⟩
     ·refine H13.allocB ?_; intro b5 w16 hb16 H16
      have H16 := St.lastTo (X := [_, _, _, _, _]) H16
      try simp only [List.cons_append, List.nil_append] at H16
      refine ⟨(below_step hb13 (Nat.le_refl _) hb16).keeps, (below_step hb13 (Nat.le_refl _) hb16).keeps, ?_⟩
      refine H16.store (i := 5) rfl (by rfl) (by rfl) ?_; intro w17 H17
      exact ⟨b5, rfl, H17⟩
    ·refine H12.allocB ?_; intro b6 w18 hb18 H18
     have H18 := St.lastTo (X := [_, _, _, _, _]) H18
     try simp only [List.cons_append, List.nil_append] at H18
     refine ⟨hb18.keeps, ?_⟩
     refine segment_Ends_ct.mono ?_
     rintro _ w19 ⟨rfl, hb19⟩; have H19 := H18.pass hb19
     refine ⟨_, rfl, ?_⟩
     replace hb19 := below_step hb18 (Nat.le_refl _) hb19
     refine ⟨hb19.keeps, ?_⟩
     refine ⟨hb19.keeps, ?_⟩
     refine H19.store (i := 5) rfl (by rfl) (by rfl) ?_; intro w20 H20
     exact ⟨b6, rfl, H20⟩
end
end Go.Proofs.YtmbppohkadmjgaaGreat
namespace Go.Proofs.YtmbppohkadmjgaaGreat
open Go.Sx Go.RowKit
set_option maxRecDepth 100000
abbrev padPa (x : Pa) (j : Nat) : Pa := { x with data := x.data ++ List.replicate j 0 }
abbrev rowsM (b2 b1 b : Nat) (p : Pc) (pa : Option Addr) (pc : Nat) (x : Pa) (da : Option Addr) (dc : Nat) (a2 : Option Addr) (c2 : Nat) (T : List Res) : List Res :=
 .blk b2 Ty_api_Partial [.int .i64 0, .bool false, .int .i64 0, .slice none 0 0, .slice none 0 0] :: .blk b1 Ty_api_Piece [.int .i64 p.sn, .int .i64 p.part, .int .i64 p.poll, .int .i64 p.off, .slice pa p.data.length pc] :: .blk b Ty_api_Partial (encPa x da dc a2 c2) :: T
section
variable {A0 : Nat -> Prop} {M : List Nat} {w0 w : World} {R : List Res} {P : World -> Prop} {i : Nat} {x : Pa} {a a2 : Option Addr} {c c2 : Nat} {p : Pc} {pa : Option Addr} {pc : Nat}
end
end Go.Proofs.YtmbppohkadmjgaaGreat
namespace Go.Sx
def putR (s : Rc) (p : Pc) : Rc × List Int × Int := if refusedS s p ≠ 0 then (s, [], refusedS s p) else (startR (advS (putP s p)), unitS s p, 0)
open Go.RowKit
end Go.Sx
namespace Go.Proofs.YtmbppohkadmjgaaGreat
open Go.Sx Go.RowKit
set_option maxRecDepth 100000
abbrev rowsQ (b b1 b2 : Nat) (t : Rc) (a : Option Addr) (c : Nat) (p : Pc) (pa : Option Addr) (pc : Nat) (X : List Res) : List Res :=
 .blk b Ty_api_Receiver (encRc t a c) :: .blk b1 Ty_api_Piece [.int .i64 p.sn, .int .i64 p.part, .int .i64 p.poll, .int .i64 p.off, .slice pa p.data.length pc] :: .blk b2 Ty_api_Receiver (encRc .zero none 0) :: X
section
variable {A0 : Nat -> Prop} {w0 w : World} {X : List Res} {P : World -> Prop} {L : List PP} {s : Rc} {a : Option Addr} {c : Nat} {p : Pc} {pa : Option Addr} {pc : Nat}
end
end Go.Proofs.YtmbppohkadmjgaaGreat
namespace Go.Proofs.YtmbppohkadmjgaaGreat
open Go.Sx Go.RowKit
set_option maxRecDepth 100000
section
variable {s : Rc} {a : Option Addr} {c : Nat} {b_a : Option Addr} {b_c : Nat} {bs : List Int} {w : World}
def RetRS (w : World) (x : Rc) (u : List Int) (E : Int) (e : Ending) (w' : World) : Prop :=
 ∃ a c ba bc, e = .returned (.tuple #[aggRc x a c, .slice ba u.length bc, .int .i64 E]) /\ u.length <= bc /\ Fresh w w' fun w => PaS w a x.parts /\ SlR (IntC .u8) 1 w ba u
end
end Go.Proofs.YtmbppohkadmjgaaGreat
namespace Go.Proofs.YtmbppohkadmjgaaGreat
open Go.Sx Go.RowKit
set_option maxRecDepth 100000
end Go.Proofs.YtmbppohkadmjgaaGreat
namespace Go.Sx
theorem bytes_mem {xs : List Int} : Bytes xs ↔ ∀ x ∈ xs, 0 <= x /\ x < 256 :=
 ⟨fun h x hx => by obtain ⟨i, hi, rfl⟩ := List.getElem_of_mem hx; exact h i hi, fun h i hi => h _ (List.getElem_mem _)⟩
theorem bytes_nil : Bytes [] := fun i hi => by simp at hi
theorem layD_bytes {d b : List Int} {o : Nat} (hd : Bytes d) (hb : Bytes b) : Bytes (layD d o b) := by
 rw [bytes_mem] at *
 have h : ∀ x ∈ d ++ List.replicate (o + b.length - d.length) (0 : Int), 0 <= x /\ x < 256 := fun x hx => by
  rcases List.mem_append.1 hx with hx | hx
  ·exact hd x hx
  ·rw [(List.mem_replicate.1 hx).2]; omega
 intro x hx
 unfold layD at hx
 rcases List.mem_append.1 hx with hx | hx
 ·rcases List.mem_append.1 hx with hx | hx
  ·exact h x (List.mem_of_mem_take hx)
  ·exact hb x hx
 ·exact h x (List.mem_of_mem_drop hx)
theorem union_len (sn : Int) : ∀ (l : List Rg) (f t : Int), (unionS sn l f t).length <= l.length + 1
 | [], f, t => by simp [unionS]
 | x :: l, f, t => by
  have ih := union_len sn l
  unfold unionS
  split
  ·have := ih f t; simp only [List.length_cons]; omega
  ·split
   ·simp only [List.length_cons, List.length_map]; omega
   ·have := ih (if x.f < f then x.f else f) (if x.t > t then x.t else t); simp only [List.length_cons]; omega
theorem decP_bytes {b : Int} {bs : List Int} (h : Bytes bs) : Bytes (decP b bs).1.data := by
 have hz : Bytes Pc.zero.data := bytes_nil
 unfold decP
 split
 ·exact hz
 ·split
  ·exact hz
  ·split
   ·exact hz
   ·split
    ·exact hz
    ·rw [bytes_mem] at *
     exact fun x hx => h x (List.mem_of_mem_drop hx)
def GPa (x : Pa) : Prop := x.come.length <= 140737488355328 /\ x.data.length <= 140737488355328 /\ Bytes x.data
def GP (L : List Pa) : Prop := L.length <= 140737488355328 /\ ∀ x ∈ L, GPa x
theorem gp_nil : GP [] := ⟨Nat.zero_le _, fun x hx => by simp at hx⟩
theorem dropS_sub (b : Int) : ∀ (l : List Pa) (f : Int), (dropS b f l).2.length <= l.length /\ ∀ x ∈ (dropS b f l).2, x ∈ l
 | [], f => ⟨Nat.le_refl _, fun x hx => hx⟩
 | p :: l, f => by
  unfold dropS
  split
  ·obtain ⟨h1, h2⟩ := dropS_sub b l ((f + 1) % 2 ^ b.toNat)
   exact ⟨by simp only [List.length_cons]; omega, fun x hx => .tail _ (h2 x hx)⟩
  ·exact ⟨Nat.le_refl _, fun x hx => hx⟩
theorem advS_parts (s : Rc) : (advS s).parts = (dropS s.lk.bits s.first s.parts).2 := by
 unfold advS adv2; split <;> rfl
theorem pollR_same (s : Rc) (p : Pc) : (pollR s p).parts = s.parts /\ (pollR s p).lk = s.lk /\ (pollR s p).first = s.first /\ (pollR s p).next = s.next := by unfold pollR; split <;> exact ⟨rfl, rfl, rfl, rfl⟩
theorem ins_mem {s : Rc} {p : Pc} {x : Pa} (h : x ∈ insS s p) : x ∈ s.parts \/ x = newPa p.sn := by
 unfold insS at h
 split at h
 ·exact .inl h
 ·rcases List.mem_append.1 h with h | h
  ·exact .inl (List.mem_of_mem_take h)
  ·rcases List.mem_cons.1 h with h | h
   ·exact .inr h
   ·exact .inl (List.mem_of_mem_drop h)
theorem ins_len (s : Rc) (p : Pc) : (insS s p).length <= s.parts.length + 1 := by
 unfold insS
 split
 ·omega
 ·simp only [List.length_append, List.length_cons, List.length_take, List.length_drop]; omega
theorem merged_gpa {s : Rc} {p : Pc} (h : ∀ x ∈ s.parts, x.come.length <= 3000 /\ x.data.length <= 3000 /\ Bytes x.data) (hb : Bytes p.data) (ho : 0 <= p.off /\ p.off + p.data.length <= 2054) : GPa (mergedS s p) := by
 have key : ∀ x : Pa, (x.come.length <= 3000 /\ x.data.length <= 3000 /\ Bytes x.data) -> GPa (mergeS x p) := fun x ⟨h1, h2, h3⟩ => by
  refine ⟨?_, ?_, ?_⟩
  ·have := union_len p.sn x.come p.off p.en
   show (unionS p.sn x.come p.off p.en).length <= _
   omega
  ·show (layD x.data p.off.toNat p.data).length <= _
   rw [layD_len]; omega
  ·exact layD_bytes h3 hb
 unfold mergedS
 cases hx : (insS s p)[atP s p.sn]? with
 | none => exact key _ ⟨Nat.zero_le _, Nat.zero_le _, bytes_nil⟩
 | some x =>
  rcases ins_mem (List.mem_of_getElem? hx) with h1 | rfl
  ·exact key _ (h x h1)
  ·exact key _ ⟨Nat.zero_le _, Nat.zero_le _, bytes_nil⟩
theorem put_gp {s : Rc} {p : Pc} (hl : s.parts.length <= 600) (h : ∀ x ∈ s.parts, x.come.length <= 3000 /\ x.data.length <= 3000 /\ Bytes x.data) (hb : Bytes p.data) (ho : 0 <= p.off /\ p.off + p.data.length <= 2054) : GP (putP s p).parts := by
 have hm := merged_gpa h hb ho
 have hl2 := ins_len s p
 refine ⟨?_, fun x hx => ?_⟩
 ·show ((insS s p).set _ _).length <= _
  rw [List.length_set]; omega
 ·have hx : x ∈ (insS s p).set (atP s p.sn) (if compB (mergedS s p) then donePa p.sn else mergedS s p) := hx
  rcases List.mem_or_eq_of_mem_set hx with hx | rfl
  ·rcases ins_mem hx with h1 | rfl
   ·obtain ⟨h2, h3, h4⟩ := h x h1; exact ⟨by omega, by omega, h4⟩
   ·exact ⟨Nat.zero_le _, Nat.zero_le _, bytes_nil⟩
  ·split
   ·exact ⟨Nat.zero_le _, Nat.zero_le _, bytes_nil⟩
   ·exact hm
end Go.Sx
namespace Go.Sx
theorem GP.sm {L : List Pa} (h : GP L) : SmP L := ⟨by have := h.1; omega, fun x hx => by obtain ⟨h1, h2, _⟩ := h.2 x hx; omega⟩
theorem unit_bytes {s : Rc} {p : Pc} (h : GPa (mergedS s p)) : Bytes (unitS s p) := by
 unfold unitS; split
 ·exact h.2.2
 ·exact bytes_nil
theorem rec_gp {s : Rc} {bs : List Int} (h : GP s.parts) (hB : Bytes bs) : GP (recS s bs).1.parts /\ Bytes (recS s bs).2.1 := by
 unfold recS
 by_cases h1 : s.okB = false
 ·rw [if_pos h1]; exact ⟨gp_nil, bytes_nil⟩
 rw [if_neg h1]
 dsimp only
 by_cases h2 : (decP s.lk.bits bs).2 ≠ 0
 ·rw [if_pos h2]; exact ⟨h, bytes_nil⟩
 rw [if_neg h2]
 by_cases h3 : refusedS s (decP s.lk.bits bs).1 ≠ 0
 ·rw [if_pos h3]; exact ⟨by rw [pollR_parts]; exact h, bytes_nil⟩
 rw [if_neg h3]
 have hok : s.okB = true := by simpa using h1
 obtain ⟨hf, -⟩ := rc_fit hok
 have hp := decP_good (by simpa using h2)
 obtain ⟨-, -, -, -, -, ho, hd, he⟩ := hp
 have hx : ∀ x ∈ s.parts, x.come.length <= 3000 /\ x.data.length <= 3000 /\ Bytes x.data := fun x hx => ⟨(hf.2 x hx).1, (hf.2 x hx).2, (h.2 x hx).2.2⟩
 have hb := decP_bytes (b := s.lk.bits) hB
 have g := put_gp hf.1 hx hb ⟨ho.1, he⟩
 refine ⟨?_, unit_bytes (merged_gpa hx hb ⟨ho.1, he⟩)⟩
 rw [pollR_parts, (startR_same _).1, advS_parts]
 obtain ⟨k1, k2⟩ := dropS_sub (putP s (decP s.lk.bits bs).1).lk.bits (putP s (decP s.lk.bits bs).1).parts (putP s (decP s.lk.bits bs).1).first
 exact ⟨Nat.le_trans k1 g.1, fun x hx => g.2 x (k2 x hx)⟩
theorem tick_gp {s : Rc} (h : GP s.parts) : GP (tickRc s).1.parts := by
 unfold tickRc
 split
 ·exact gp_nil
 ·dsimp only
  split
  ·exact h
  ·rw [tick2_parts]; exact h
theorem encS_bytes (bits : Int) (s : Stt) : Bytes (encS bits s).1 := by
 unfold encS
 split
 ·exact bytes_S _
 ·exact bytes_nil
theorem rep_gp {s : Rc} {size : Int} (h : GP s.parts) : GP (repR s size).1.parts /\ Bytes (repR s size).2.1 := by
 unfold repR
 by_cases h1 : s.okB = false
 ·rw [if_pos h1]; exact ⟨gp_nil, bytes_nil⟩
 rw [if_neg h1]
 by_cases h2 : size < 0 \/ size > 4096
 ·rw [if_pos h2]; exact ⟨gp_nil, bytes_nil⟩
 rw [if_neg h2]
 by_cases h3 : s.due = false \/ s.quiet > 0
 ·rw [if_pos h3]; exact ⟨gp_nil, bytes_nil⟩
 rw [if_neg h3]
 dsimp only
 by_cases h4 : (fitR s.lk.bits (statR s).1 size).2 ≠ 0
 ·rw [if_pos h4]; exact ⟨gp_nil, bytes_nil⟩
 ·rw [if_neg h4]; exact ⟨h, encS_bytes _ _⟩
end Go.Sx
namespace Go.Sx
theorem end_come {x : Pa} (h : normB (-1) x.come = true) (e : (x.data.length : Int) = endT x.come) : ∀ r ∈ x.come, r.t <= x.data.length := by
 intro r hr
 have := (norm_end (q := 0) h).1 r hr
 unfold endT at e; omega
theorem getD_at2 {d : List Int} {k : Nat} (h : k < d.length) : d.getD k 0 = d[k] := by simp [List.getD, List.getElem?_eq_getElem h]
theorem zero_iff {x : Pa} (h : normB (-1) x.come = true) (e : (x.data.length : Int) = endT x.come) :
 zeroB x = true ↔ ∀ k : Nat, k < x.data.length -> covB k x.come = false -> x.data.getD k 0 = 0 := by
 have ht := end_come h e
 have hc := fun k : Int => gaps_cov x.sn k x.data.length x.come 0 (by simpa using h) ht
 have hn := gaps_norm x.sn x.data.length x.come (-1) 0 (by simpa using h) (by omega)
 have hg := norm_lt _ _ hn
 have hle : ∀ g ∈ gapsS x.sn x.come 0 x.data.length, g.t <= x.data.length := gaps_le x.sn x.data.length x.come 0 fun r hr => by
  have := norm_lt _ _ h r hr; have := ht r hr; omega
 unfold zeroB
 rw [List.all_eq_true]
 constructor
 ·intro hz k hk hck
  have h1 := hc k
  rw [hck] at h1
  have h2 : covB (k : Int) (gapsS x.sn x.come 0 x.data.length) = true := by rw [h1]; simp; omega
  obtain ⟨g, hg1, hg2, hg3⟩ := cov_iff.1 h2
  have h3 := hz g hg1
  rw [List.all_eq_true] at h3
  have h4 := hg g hg1
  have h5 := hle g hg1
  have hi : k - g.f.toNat < ((x.data.drop g.f.toNat).take (g.t.toNat - g.f.toNat)).length := by simp only [List.length_take, List.length_drop]; omega
  have h6 := h3 _ (List.getElem_mem hi)
  simp only [List.getElem_take, List.getElem_drop, decide_eq_true_eq] at h6
  rw [getD_at2 hk]
  rw [<- h6]
  congr 1; omega
 ·intro hz g hg1
  rw [List.all_eq_true]
  intro c hcm
  obtain ⟨j, hj, rfl⟩ := List.getElem_of_mem hcm
  simp only [List.getElem_take, List.getElem_drop, decide_eq_true_eq]
  simp only [List.length_take, List.length_drop] at hj
  have h4 := hg g hg1
  have h5 := hle g hg1
  have hk : g.f.toNat + j < x.data.length := by omega
  have h1 := hc ((g.f.toNat + j : Nat) : Int)
  have h2 : covB ((g.f.toNat + j : Nat) : Int) (gapsS x.sn x.come 0 x.data.length) = true := cov_iff.2 ⟨g, hg1, by omega, by omega⟩
  rw [h2] at h1
  have h3 : covB ((g.f.toNat + j : Nat) : Int) x.come = false := by
   cases hb : covB ((g.f.toNat + j : Nat) : Int) x.come with
   | false => rfl
   | true => rw [hb] at h1; simp at h1
  have := hz _ hk h3
  rwa [getD_at2 hk] at this
theorem contra_new (n : Int) (p : Pc) (h : 1 <= p.en) : contraB (newPa n) p = false := by
 unfold contraB
 split
 ·rw [decide_eq_false_iff_not]
  rintro (⟨h1, _⟩ | h1)
  ·exact h1 rfl
  ·simp only [newPa, endT, lastT] at h1; omega
 ·rw [decide_eq_false_iff_not]
  rintro ⟨h1, _⟩
  exact h1 rfl
def Open (x : Pa) : Prop := x.done = false /\ (x.len = -1 \/ (1 <= x.len /\ x.len <= 2054 /\ (x.data.length : Int) <= x.len)) /\ normB (-1) x.come = true /\ (x.data.length : Int) = endT x.come /\ x.data.length <= 2054 /\ ∀ k : Nat, k < x.data.length -> covB k x.come = false -> x.data.getD k 0 = 0
theorem open_new (n : Int) : Open (newPa n) := ⟨rfl, .inl rfl, rfl, rfl, Nat.zero_le _, fun k h => by simp [newPa] at h⟩
theorem open_of {x : Pa} (hd : x.done = false) (h : paB x = true) : Open x := by
 rw [paB, if_neg (by rw [hd]; decide), Bool.and_eq_true, decide_eq_true_iff] at h
 obtain ⟨⟨h1, h2, h3, h4, h5, h6, h7⟩, hz⟩ := h
 exact ⟨hd, h1, h3, h5, h6, (zero_iff h3 h5).1 hz⟩
theorem merge_open {x : Pa} {p : Pc} (h : Open x) (hp : (0 <= p.off /\ p.off <= 2054) /\ 1 <= p.data.length /\ p.off + p.data.length <= 2054) (hc : contraB x p = false) :
 Open (mergeS x p) /\ (mergeS x p).come ≠ [] /\ ∀ r ∈ (mergeS x p).come, r.sn = p.sn := by
 obtain ⟨h1, h2, h3, h4, h5, h6⟩ := h
 obtain ⟨⟨p1, p2⟩, p3, p4⟩ := hp
 have hen : p.en = p.off + p.data.length := rfl
 have hlt : p.off < p.en := by omega
 have hl : (mergeS x p).data.length = max x.data.length (p.off.toNat + p.data.length) := layD_len _ _ _
 have hcome : (mergeS x p).come = unionS p.sn x.come p.off p.en := rfl
 have hnorm : normB (-1) (mergeS x p).come = true := union_norm p.sn x.come (-1) p.off p.en h3 (by omega) hlt
 have hend : endT (mergeS x p).come = max (endT x.come) p.en := end_union h3 p1 hlt
 have hcov : ∀ k : Int, covB k (mergeS x p).come = (decide (p.off <= k /\ k < p.en) || covB k x.come) := fun k => union_cov p.sn k x.come p.off p.en hlt fun r hr => (norm_lt _ _ h3 r hr).2
 refine ⟨⟨h1, ?_, hnorm, ?_, ?_, ?_⟩, ?_, union_sn p.sn x.come p.off p.en⟩
 ·have hlen : (mergeS x p).len = if ends p.part = true then p.en else x.len := rfl
  rw [hlen]
  unfold contraB at hc
  by_cases he : ends p.part = true
  ·rw [if_pos he] at hc ⊢
   rw [decide_eq_false_iff_not] at hc
   right
   have : ¬ p.en < endT x.come := fun hh => hc (.inr hh)
   omega
  ·rw [if_neg he] at hc ⊢
   rw [decide_eq_false_iff_not] at hc
   rcases h2 with h2 | ⟨g1, g2, g3⟩
   ·exact .inl h2
   ·right
    have : ¬ x.len <= p.en := fun hh => hc ⟨by omega, hh⟩
    omega
 ·rw [hend, hl]; omega
 ·rw [hl]; omega
 ·intro k hk hck
  rw [hcov, Bool.or_eq_false_iff, decide_eq_false_iff_not] at hck
  have hd : (mergeS x p).data.getD k 0 = _ := layD_get x.data p.off.toNat p.data k
  rw [hd, if_neg (by omega)]
  by_cases hkd : k < x.data.length
  ·exact h6 k hkd hck.2
  ·simp [List.getD, List.getElem?_eq_none (by omega : x.data.length <= k)]
 ·intro e
  have := hcov p.off
  rw [e] at this
  simp [covB, hlt] at this
theorem merge_pa {x : Pa} {p : Pc} (h : Open x) (hs : x.sn = p.sn) (hp : (0 <= p.off /\ p.off <= 2054) /\ 1 <= p.data.length /\ p.off + p.data.length <= 2054) (hc : contraB x p = false) (hn : compB (mergeS x p) = false) : paB (mergeS x p) = true := by
 obtain ⟨⟨h1, h2, h3, h4, h5, h6⟩, h7, h8⟩ := merge_open h hp hc
 rw [paB, if_neg (by rw [h1]; decide), Bool.and_eq_true, decide_eq_true_iff]
 refine ⟨⟨h2, h7, h3, fun r hr => ?_, h4, h5, hn⟩, (zero_iff h3 h4).2 h6⟩
 rw [h8 r hr]; exact hs.symm
end Go.Sx
namespace Go.Sx
open Go.Proofs.YtmbppohkadmjgaaGreat
structure Core (s : Rc) : Prop where
 lk : lkOk s.lk
 f : snOk s.lk.bits s.first
 n : snOk s.lk.bits s.next
 u : snOk s.lk.bits s.upto
 half : s.place s.next <= 2 ^ (s.lk.bits - 1).toNat
 q : 0 <= s.quiet /\ s.quiet <= s.lk.quiet
 all : ∀ x ∈ s.parts, paB x = true /\ snOk s.lk.bits x.sn /\ s.place x.sn < s.place s.next
 asc : s.parts.Pairwise fun x y => s.place x.sn < s.place y.sn
 last : ((s.parts.getLast?).map fun x => s.place x.sn).getD (-1) = s.place s.next - 1
def NoFirst (s : Rc) : Prop := ∀ x ∈ s.parts, ¬ (x.done = true /\ x.sn = s.first)
theorem paFrom_iff {s : Rc} : ∀ {L : List Pa} {last : Int}, paFrom s last L = true ↔ (∀ x ∈ L, paB x = true /\ snOk s.lk.bits x.sn /\ last < s.place x.sn /\ s.place x.sn < s.place s.next /\ ¬ (x.done = true /\ x.sn = s.first)) /\ (L.Pairwise fun x y => s.place x.sn < s.place y.sn) /\ ((L.getLast?).map fun x => s.place x.sn).getD last = s.place s.next - 1
 | [], last => by simp [paFrom]
 | p :: l, last => by
  have ih := paFrom_iff (s := s) (L := l) (last := s.place p.sn)
  have hl : (((p :: l).getLast?).map fun x => s.place x.sn).getD last = ((l.getLast?).map fun x => s.place x.sn).getD (s.place p.sn) := by
   rw [List.getLast?_cons]
   cases l.getLast? <;> rfl
  rw [hl, List.pairwise_cons]
  simp only [paFrom, Bool.and_eq_true, ih, paAt, decide_eq_true_eq, List.mem_cons, forall_eq_or_imp]
  have hd : (!p.done || !decide (p.sn = s.first)) = true ↔ ¬ (p.done = true /\ p.sn = s.first) := by
   cases p.done <;> simp
  rw [hd]
  constructor
  ·rintro ⟨⟨⟨⟨h1, h2, h3⟩, h4⟩, h5⟩, h6, h7, h8⟩
   exact ⟨⟨⟨h5, h1, h2, h3, h4⟩, fun x hx => ⟨(h6 x hx).1, (h6 x hx).2.1, by have := (h6 x hx).2.2.1; omega, (h6 x hx).2.2.2⟩⟩, ⟨fun x hx => (h6 x hx).2.2.1, h7⟩, h8⟩
  ·rintro ⟨⟨⟨h5, h1, h2, h3, h4⟩, h6⟩, ⟨h9, h7⟩, h8⟩
   exact ⟨⟨⟨⟨h1, h2, h3⟩, h4⟩, h5⟩, fun x hx => ⟨(h6 x hx).1, (h6 x hx).2.1, h9 x hx, (h6 x hx).2.2.2⟩, h7, h8⟩
theorem place_ge (s : Rc) (n : Int) : 0 <= s.place n := (way_range _ _ _).1
theorem ok_iff {s : Rc} : s.okB = true ↔ Core s /\ s.place s.upto <= s.place s.next /\ NoFirst s /\ markB s = true := by
 unfold Rc.okB headB
 simp only [Bool.and_eq_true, decide_eq_true_eq, paFrom_iff]
 constructor
 ·rintro ⟨⟨⟨h1, h2, h3, h4, h5, h6, h7, h8⟩, h9, h10, h11⟩, h12⟩
  exact ⟨⟨h1, h2, h3, h4, h5, ⟨h7, h8⟩, fun x hx => ⟨(h9 x hx).1, (h9 x hx).2.1, (h9 x hx).2.2.2.1⟩, h10, h11⟩, h6, fun x hx => (h9 x hx).2.2.2.2, h12⟩
 ·rintro ⟨⟨h1, h2, h3, h4, h5, ⟨h7, h8⟩, h9, h10, h11⟩, h6, h13, h12⟩
  exact ⟨⟨⟨h1, h2, h3, h4, h5, h6, h7, h8⟩, fun x hx => ⟨(h9 x hx).1, (h9 x hx).2.1, by have := place_ge s x.sn; omega, (h9 x hx).2.2, h13 x hx⟩, h10, h11⟩, h12⟩
def MarkW (s : Rc) : Prop := (s.mark = -1 -> s.left = 0) /\ (s.mark ≠ -1 -> snOk s.lk.bits s.mark /\ 1 <= s.left /\ s.left <= s.lk.wait)
theorem mark_w {s : Rc} (h : markB s = true) : MarkW s := by
 rcases mark_iff.1 h with ⟨h1, h2⟩ | ⟨h1, h2, h3, h4, h5, h6⟩
 ·exact ⟨fun _ => h2, fun hh => absurd h1 hh⟩
 ·exact ⟨fun hh => absurd hh h1, fun _ => ⟨h2, h5, h6⟩⟩
theorem place_self (s : Rc) : s.place s.first = 0 := by unfold Rc.place way; rw [Int.sub_self, Int.zero_emod]
theorem Core.same {s t : Rc} (h : Core s) (h1 : t.lk = s.lk) (h2 : t.first = s.first) (h3 : t.next = s.next) (h4 : snOk s.lk.bits t.upto) (h5 : 0 <= t.quiet /\ t.quiet <= s.lk.quiet) (h6 : t.parts = s.parts) : Core t := by
 have hp : ∀ n, t.place n = s.place n := fun n => by unfold Rc.place; rw [h1, h2]
 refine ⟨by rw [h1]; exact h.lk, by rw [h1, h2]; exact h.f, by rw [h1, h3]; exact h.n, by rw [h1]; exact h4, by rw [hp, h1, h3]; exact h.half, by rw [h1]; exact h5, ?_, ?_, ?_⟩
 ·intro x hx; rw [h6] at hx; rw [h1, hp, hp, h3]; exact h.all x hx
 ·rw [h6]; exact h.asc.imp fun {a b} hab => by rw [hp, hp]; exact hab
 ·rw [h6, hp, h3]
  have : (fun x : Pa => t.place x.sn) = fun x => s.place x.sn := funext fun x => hp x.sn
  rw [this]; exact h.last
theorem start_ok {s : Rc} (h : Core s) (hu : s.place s.upto <= s.place s.next) (hf : NoFirst s) (hm : MarkW s) : (startR s).okB = true := by
 obtain ⟨e1, e2, e3, e4, e5, e6, e7⟩ := startR_same s
 have hp : ∀ n, (startR s).place n = s.place n := fun n => by unfold Rc.place; rw [e2, e3]
 refine ok_iff.2 ⟨h.same e2 e3 e4 (by rw [e5]; exact h.u) (by rw [e6]; exact h.q) e1, by rw [hp, hp, e5, e4]; exact hu, fun x hx => by rw [e1] at hx; rw [e3]; exact hf x hx, mark_iff.2 ?_⟩
 obtain ⟨m1, m2⟩ := hm
 have hn0 : s.first ≠ s.next -> 1 <= s.place s.next := fun hne => by
  have := place_ge s s.next
  rcases Int.lt_or_le 0 (s.place s.next) with h1 | h1
  ·omega
  ·exact absurd (place_inj h.lk.1 h.f h.n (by rw [place_self]; omega)) hne
 have hp1 : ∀ n, (start1 s).place n = s.place n := fun n => by unfold start1; split <;> rfl
 obtain ⟨t, ht⟩ : ∃ t, t = start1 s := ⟨_, rfl⟩
 have hl := h.lk
 obtain ⟨-, -, -, hw, -, -⟩ := hl
 have ht0 : t.lk = s.lk /\ t.first = s.first /\ t.next = s.next := by rw [ht]; unfold start1; split <;> exact ⟨rfl, rfl, rfl⟩
 have htm : (t.mark = -1 /\ t.left = 0) \/ (t.mark ≠ -1 /\ snOk s.lk.bits t.mark /\ 1 <= s.place t.mark /\ s.place t.mark <= s.place s.next /\ 1 <= t.left /\ t.left <= s.lk.wait) := by
  rw [ht]; unfold start1
  by_cases c : s.mark ≠ -1 /\ (s.place s.mark = 0 \/ s.place s.mark > s.place s.next)
  ·rw [if_pos c]; exact .inl ⟨rfl, rfl⟩
  ·rw [if_neg c]
   by_cases c2 : s.mark = -1
   ·exact .inl ⟨c2, m1 c2⟩
   ·have := place_ge s s.mark
    have c3 : ¬ (s.place s.mark = 0 \/ s.place s.mark > s.place s.next) := fun hh => c ⟨c2, hh⟩
    obtain ⟨m3, m4, m5⟩ := m2 c2
    exact .inr ⟨c2, m3, by omega, by omega, m4, m5⟩
 have hst : startR s = start2 t := by rw [ht]; rfl
 have hpt : ∀ n, (start2 t).place n = s.place n := fun n => by rw [<- hst]; exact hp n
 rw [hst]
 unfold start2
 by_cases c : t.mark = -1 /\ t.first ≠ t.next
 ·rw [if_pos c]
  right
  have h1 := hn0 (by rw [<- ht0.2.1, <- ht0.2.2]; exact c.2)
  have hpp : ∀ n, Rc.place { t with mark := t.next, left := t.lk.wait } n = s.place n := fun n => by show way t.lk.bits t.first n = _; rw [ht0.1, ht0.2.1]; rfl
  refine ⟨?_, ?_, ?_, ?_, ?_, ?_⟩
  ·show t.next ≠ -1; rw [ht0.2.2]; have := h.n.1; omega
  ·show snOk t.lk.bits t.next; rw [ht0.1, ht0.2.2]; exact h.n
  ·rw [hpp]; show 1 <= s.place t.next; rw [ht0.2.2]; exact h1
  ·rw [hpp]; exact Int.le_refl _
  ·show 1 <= t.lk.wait; rw [ht0.1]; omega
  ·exact Int.le_refl _
 ·rw [if_neg c]
  have hpp : ∀ n, t.place n = s.place n := fun n => by unfold Rc.place; rw [ht0.1, ht0.2.1]
  rcases htm with h1 | ⟨h1, h2, h3, h4, h5, h6⟩
  ·exact .inl h1
  ·exact .inr ⟨h1, by rw [ht0.1]; exact h2, by rw [hpp]; exact h3, by rw [hpp, hpp, ht0.2.2]; exact h4, h5, by rw [ht0.1]; exact h6⟩
theorem tick_ok {s : Rc} (h : s.okB = true) : (tickRc s).1.okB = true := by
 obtain ⟨hc, hu, hf, hm⟩ := ok_iff.1 h
 unfold tickRc
 rw [if_neg (by rw [h]; decide)]
 dsimp only
 have hq : 0 <= (tick1 s).quiet /\ (tick1 s).quiet <= s.lk.quiet := by
  have := hc.q
  unfold tick1; dsimp only; split <;> omega
 by_cases c : s.left = 0
 ·rw [if_pos c]
  refine ok_iff.2 ⟨hc.same rfl rfl rfl hc.u hq rfl, hu, hf, ?_⟩
  exact hm
 ·rw [if_neg c]
  rcases mark_iff.1 hm with ⟨_, h2⟩ | ⟨m1, m2, m3, m4, m5, m6⟩
  ·exact absurd h2 c
  unfold tick2
  by_cases c2 : s.left - 1 > 0
  ·rw [if_pos (show ({ tick1 s with left := s.left - 1 } : Rc).left > 0 from c2)]
   refine ok_iff.2 ⟨hc.same rfl rfl rfl hc.u hq rfl, hu, hf, mark_iff.2 (.inr ⟨m1, m2, m3, m4, ?_, ?_⟩)⟩
   ·show 1 <= s.left - 1; omega
   ·show s.left - 1 <= s.lk.wait; omega
  ·rw [if_neg (show ¬ ({ tick1 s with left := s.left - 1 } : Rc).left > 0 from c2)]
   refine start_ok (hc.same rfl rfl rfl ?_ hq rfl) ?_ hf ⟨fun _ => ?_, fun hh => absurd rfl hh⟩
   ·show snOk s.lk.bits (if s.place s.mark > s.place s.upto then s.mark else s.upto)
    split
    ·exact m2
    ·exact hc.u
   ·show s.place (if s.place s.mark > s.place s.upto then s.mark else s.upto) <= s.place s.next
    split
    ·exact m4
    ·exact hu
   ·show s.left - 1 = 0; omega
theorem rep_ok {s : Rc} {size : Int} (h : s.okB = true) (h0 : (repR s size).2.2 = 0) : (repR s size).1 = { s with due := false, quiet := s.lk.quiet } /\ (repR s size).1.okB = true := by
 obtain ⟨hc, hu, hf, hm⟩ := ok_iff.1 h
 have e : (repR s size).1 = { s with due := false, quiet := s.lk.quiet } := by
  unfold repR at h0 ⊢
  rw [if_neg (by rw [h]; decide)] at h0 ⊢
  by_cases h2 : size < 0 \/ size > 4096
  ·rw [if_pos h2] at h0; cases h0
  rw [if_neg h2] at h0 ⊢
  by_cases h3 : s.due = false \/ s.quiet > 0
  ·rw [if_pos h3] at h0; cases h0
  rw [if_neg h3] at h0 ⊢
  dsimp only at h0 ⊢
  by_cases h4 : (fitR s.lk.bits (statR s).1 size).2 ≠ 0
  ·rw [if_pos h4] at h0; exact absurd h0 h4
  ·rw [if_neg h4]
 refine ⟨e, ?_⟩
 rw [e]
 have hl := hc.lk
 obtain ⟨-, -, -, -, hq, -⟩ := hl
 refine ok_iff.2 ⟨hc.same rfl rfl rfl hc.u ⟨hq.1, Int.le_refl _⟩ rfl, hu, hf, hm⟩
theorem poll_ok {s : Rc} {p : Pc} (h : s.okB = true) : (pollR s p).okB = true := by
 obtain ⟨hc, hu, hf, hm⟩ := ok_iff.1 h
 unfold pollR
 split
 ·exact ok_iff.2 ⟨hc.same rfl rfl rfl hc.n hc.q rfl, Int.le_refl _, hf, hm⟩
 ·exact h
end Go.Sx
namespace Go.Sx
open Go.Proofs.YtmbppohkadmjgaaGreat
theorem place_one {s : Rc} {x : Int} {l : List Pa} (hb : bitsOk s.lk.bits) (hf : snOk s.lk.bits s.first) (hx : snOk s.lk.bits x) (h : 1 <= s.place x) : Rc.place { s with first := s.behind s.first, parts := l } x = s.place x - 1 := by
 show way s.lk.bits (s.behind s.first) x = way s.lk.bits s.first x - 1
 have h : 1 <= way s.lk.bits s.first x := h
 unfold Rc.behind
 unfold way snOk at *
 rcases pow_bits hb with e | e | e | e | e <;> rw [e] at hf hx h ⊢ <;> omega
theorem behind_ok {s : Rc} (hb : bitsOk s.lk.bits) (n : Int) : snOk s.lk.bits (s.behind n) := by
 unfold Rc.behind snOk
 rcases pow_bits hb with e | e | e | e | e <;> rw [e] <;> omega
theorem place_behind {s : Rc} {n : Int} (hb : bitsOk s.lk.bits) (hf : snOk s.lk.bits s.first) (hn : snOk s.lk.bits n) (h : s.place n < 2 ^ (s.lk.bits - 1).toNat) : s.place (s.behind n) = s.place n + 1 := by
 have h1 := (pow_bits1 hb).1
 unfold Rc.behind Rc.place way snOk at *
 rcases pow_bits hb with e | e | e | e | e <;> rw [e] at hf hn h h1 ⊢ <;> omega
theorem drop_one {s : Rc} {p : Pa} {l : List Pa} (h : Core s) (hp : s.parts = p :: l) (hf : p.sn = s.first) : Core { s with first := s.behind s.first, parts := l } := by
 have hb := h.lk.1
 have h0 : s.place p.sn = 0 := by rw [hf]; exact place_self s
 have hall := h.all
 have hasc := h.asc
 have hlast := h.last
 rw [hp] at hall hasc hlast
 rw [List.pairwise_cons] at hasc
 have hn1 : 1 <= s.place s.next := by have := (hall p (by simp)).2.2; omega
 have hpl : ∀ x ∈ l, Rc.place { s with first := s.behind s.first, parts := l } x.sn = s.place x.sn - 1 := fun x hx => place_one hb h.f (hall x (by simp [hx])).2.1 (by have := hasc.1 x hx; omega)
 have hpn : Rc.place { s with first := s.behind s.first, parts := l } s.next = s.place s.next - 1 := place_one hb h.f h.n hn1
 refine ⟨h.lk, behind_ok hb _, h.n, h.u, ?_, h.q, ?_, ?_, ?_⟩
 ·show Rc.place { s with first := s.behind s.first, parts := l } s.next <= 2 ^ (s.lk.bits - 1).toNat
  rw [hpn]; have := h.half; omega
 ·intro x hx
  have h2 := hall x (by simp [show x ∈ l from hx])
  refine ⟨h2.1, h2.2.1, ?_⟩
  show Rc.place { s with first := s.behind s.first, parts := l } x.sn < Rc.place { s with first := s.behind s.first, parts := l } s.next
  rw [hpl x hx, hpn]; have := h2.2.2; omega
 ·exact hasc.2.imp_of_mem fun {x y} hx hy hxy => by rw [hpl x hx, hpl y hy]; omega
 ·show ((l.getLast?).map fun x => Rc.place { s with first := s.behind s.first, parts := l } x.sn).getD (-1) = Rc.place { s with first := s.behind s.first, parts := l } s.next - 1
  rw [hpn]
  rw [List.getLast?_cons] at hlast
  cases hg : l.getLast? with
  | none =>
   rw [hg] at hlast
   simp only [Option.getD_none, Option.map_some, Option.getD_some] at hlast
   simp only [Option.map_none, Option.getD_none]; omega
  | some x =>
   rw [hg] at hlast
   simp only [Option.getD_some, Option.map_some] at hlast
   simp only [Option.map_some, Option.getD_some]
   rw [hpl x (List.mem_of_getLast? hg)]; omega
theorem adv1_ok : ∀ (l : List Pa) (s : Rc), s.parts = l -> Core s -> Core (adv1 s) /\ NoFirst (adv1 s)
 | [], s, hs, h => by
  have e : adv1 s = s := by
   unfold adv1; rw [hs]
   show ({ s with first := s.first, parts := [] } : Rc) = s
   rw [<- hs]
  rw [e]
  exact ⟨h, fun x hx => by rw [hs] at hx; simp at hx⟩
 | p :: l, s, hs, h => by
  by_cases c : p.sn = s.first /\ p.done = true
  ·have e : adv1 s = adv1 { s with first := s.behind s.first, parts := l } := by
    unfold adv1; rw [hs, dropS, if_pos c]; rfl
   rw [e]
   exact adv1_ok l _ rfl (drop_one h hs c.1)
  ·have e : adv1 s = s := by
    unfold adv1; rw [hs, dropS, if_neg c]
    show ({ s with first := s.first, parts := p :: l } : Rc) = s
    rw [<- hs]
   rw [e]
   refine ⟨h, fun x hx => ?_⟩
   have hasc := h.asc
   rw [hs] at hx hasc
   rw [List.pairwise_cons] at hasc
   rcases List.mem_cons.1 hx with rfl | hx
   ·exact fun hh => c ⟨hh.2, hh.1⟩
   ·intro hh
    have h1 := hasc.1 x hx
    rw [hh.2, place_self] at h1
    have := place_ge s p.sn
    omega
theorem adv_ok {s : Rc} (h : Core s) : Core (advS s) /\ (advS s).place (advS s).upto <= (advS s).place (advS s).next /\ NoFirst (advS s) := by
 obtain ⟨h1, h2⟩ := adv1_ok _ s rfl h
 have e : advS s = adv2 (adv1 s) := rfl
 rw [e]
 obtain ⟨t, ht⟩ : ∃ t, t = adv1 s := ⟨_, rfl⟩
 rw [<- ht] at h1 h2 ⊢
 unfold adv2
 by_cases c : t.place t.upto > t.place t.next
 ·rw [if_pos c]
  refine ⟨h1.same rfl rfl rfl h1.f h1.q rfl, ?_, h2⟩
  show t.place t.first <= t.place t.next
  rw [place_self]; exact place_ge t t.next
 ·rw [if_neg c]
  exact ⟨h1, by omega, h2⟩
theorem while_split {α : Type} (q : α -> Bool) : ∀ l : List α, (∀ x ∈ l.take (l.takeWhile q).length, q x = true) /\ ∀ x, (l.drop (l.takeWhile q).length).head? = some x -> q x = false
 | [] => ⟨fun x hx => by simp at hx, fun x hx => by simp at hx⟩
 | y :: l => by
  obtain ⟨h1, h2⟩ := while_split q l
  cases hy : q y with
  | false =>
   simp only [List.takeWhile_cons, hy]
   exact ⟨fun x hx => by simp at hx, fun x hx => by simp at hx; rw [<- hx]; exact hy⟩
  | true =>
   simp only [List.takeWhile_cons, hy, if_true, List.length_cons, List.take_succ_cons, List.drop_succ_cons]
   refine ⟨fun x hx => ?_, h2⟩
   rcases List.mem_cons.1 hx with rfl | hx
   ·exact hy
   ·exact h1 x hx
theorem at_split {s : Rc} (h : Core s) {n : Int} (hn : snOk s.lk.bits n) :
 (∀ x ∈ s.parts.take (atP s n), s.place x.sn < s.place n) /\ ((foundB s n = false /\ ∀ x ∈ s.parts.drop (atP s n), s.place n < s.place x.sn) \/
  ∃ y l, foundB s n = true /\ s.parts.drop (atP s n) = y :: l /\ s.parts[atP s n]? = some y /\ y.sn = n /\ ∀ x ∈ l, s.place n < s.place x.sn) := by
 obtain ⟨h1, h2⟩ := while_split (fun p : Pa => decide (s.place p.sn < s.place n)) s.parts
 refine ⟨fun x hx => of_decide_eq_true (h1 x hx), ?_⟩
 have hasc := h.asc.drop (i := atP s n)
 have h2 : ∀ x, (s.parts.drop (atP s n)).head? = some x -> s.place n <= s.place x.sn := fun x hx => by have := of_decide_eq_false (h2 x hx); omega
 have hgd : s.parts[atP s n]? = (s.parts.drop (atP s n)).head? := by rw [List.head?_drop]
 cases hd : s.parts.drop (atP s n) with
 | nil =>
  left
  refine ⟨?_, fun x hx => by simp at hx⟩
  unfold foundB; rw [hgd, hd]; rfl
 | cons y l =>
  rw [hd] at hasc h2 hgd
  rw [List.pairwise_cons] at hasc
  have h3 := h2 y rfl
  have hy : y ∈ s.parts := List.mem_of_mem_drop (i := atP s n) (by rw [hd]; simp)
  by_cases c : y.sn = n
  ·right
   refine ⟨y, l, ?_, rfl, hgd, c, fun x hx => ?_⟩
   ·unfold foundB; rw [hgd]; exact decide_eq_true c
   ·have := hasc.1 x hx; rw [c] at this; exact this
  ·left
   have h4 : s.place n ≠ s.place y.sn := fun e => c (place_inj h.lk.1 (h.all y hy).2.1 hn e.symm)
   refine ⟨?_, fun x hx => ?_⟩
   ·unfold foundB; rw [hgd]; exact decide_eq_false c
   ·rcases List.mem_cons.1 hx with rfl | hx
    ·omega
    ·have := hasc.1 x hx; omega
theorem last_app {A : List Pa} {y : Pa} {B : List Pa} : (A ++ y :: B).getLast? = some (B.getLast?.getD y) := by
 rw [List.getLast?_append, List.getLast?_cons]; rfl
theorem put_core {s : Rc} {p : Pc} (h : Core s) (hp : p.ok s.lk.bits) (hr : refusedS s p = 0) : Core (putP s p) := by
 obtain ⟨hb, hsn, -, -, -, hpo, hpd, hpe⟩ := hp
 have hsn : snOk s.lk.bits p.sn := hsn
 have hp3 : (0 <= p.off /\ p.off <= 2054) /\ 1 <= p.data.length /\ p.off + p.data.length <= 2054 := ⟨hpo, hpd, hpe⟩
 have hold : s.place p.sn < 2 ^ (s.lk.bits - 1).toNat := by
  unfold refusedS at hr
  split at hr
  ·cases hr
  ·omega
 have hold' : ¬ s.place p.sn >= 2 ^ (s.lk.bits - 1).toNat := by omega
 obtain ⟨hA, hsp⟩ := at_split h hsn
 obtain ⟨A, hAe⟩ : ∃ A, A = s.parts.take (atP s p.sn) := ⟨_, rfl⟩
 have hpl : s.parts = A ++ s.parts.drop (atP s p.sn) := by rw [hAe, List.take_append_drop]
 have hkl : atP s p.sn <= s.parts.length := by
  have := congrArg List.length (List.takeWhile_append_dropWhile (p := fun p' : Pa => decide (s.place p'.sn < s.place p.sn)) (l := s.parts))
  rw [List.length_append] at this
  show (s.parts.takeWhile _).length <= _
  omega
 have hAl : A.length = atP s p.sn := by rw [hAe, List.length_take]; omega
 obtain ⟨y', hy'⟩ : ∃ y', y' = if compB (mergedS s p) then donePa p.sn else mergedS s p := ⟨_, rfl⟩
 have hput : (putP s p).parts = (insS s p).set (atP s p.sn) y' := by rw [hy']; rfl
 have key : ∃ (x : Pa) (B : List Pa), Open x /\ x.sn = p.sn /\ contraB x p = false /\ mergedS s p = mergeS x p /\ (putP s p).parts = A ++ y' :: B /\ (∀ z ∈ B, z ∈ s.parts /\ s.place p.sn < s.place z.sn) /\ (B.Pairwise fun x y => s.place x.sn < s.place y.sn) /\
  (B = [] -> s.place p.sn >= s.place s.next \/ s.place p.sn = s.place s.next - 1) /\ (B ≠ [] -> B.getLast? = s.parts.getLast?) := by
  have hascd := h.asc.drop (i := atP s p.sn)
  have hlast := h.last
  rcases hsp with ⟨hf, hB⟩ | ⟨y, B, hf, hd, hg, hysn, hB⟩
  ·have hi : insS s p = A ++ newPa p.sn :: s.parts.drop (atP s p.sn) := by rw [insS, if_neg (by rw [hf]; decide), hAe]
   refine ⟨newPa p.sn, s.parts.drop (atP s p.sn), open_new _, rfl, contra_new _ _ (by show 1 <= p.off + p.data.length; omega), ?_, ?_, fun z hz => ⟨List.mem_of_mem_drop hz, hB z hz⟩, hascd, fun hn => ?_, fun hn => ?_⟩
   ·unfold mergedS; rw [hi, List.getElem?_append_right (by omega), hAl, Nat.sub_self]; rfl
   ·rw [hput, hi, List.set_append_right _ _ (by omega), hAl, Nat.sub_self]; rfl
   ·left
    rw [hn, List.append_nil] at hpl
    rw [hpl] at hlast
    cases hg : A.getLast? with
    | none =>
     rw [hg] at hlast
     simp only [Option.map_none, Option.getD_none] at hlast
     have := place_ge s p.sn; omega
    | some x =>
     rw [hg] at hlast
     simp only [Option.map_some, Option.getD_some] at hlast
     have := hA x (by rw [<- hAe]; exact List.mem_of_getLast? hg)
     omega
   ·rw [hpl, List.getLast?_append]
    rw [List.drop_append, hAl, Nat.sub_self, List.drop_zero, List.drop_of_length_le (by omega), List.nil_append]
    cases hg : (s.parts.drop (atP s p.sn)).getLast? with
    | none => exact absurd (List.getLast?_eq_none_iff.1 hg) hn
    | some x => rfl
  ·have hi : insS s p = A ++ y :: B := by rw [insS, if_pos hf, hpl, hd]
   rw [hd, List.pairwise_cons] at hascd
   have hym : y ∈ s.parts := List.mem_of_getElem? hg
   have hr2 := hr
   unfold refusedS at hr2
   rw [if_neg hold', hg] at hr2
   dsimp only at hr2
   rw [if_pos hysn] at hr2
   have hyd : y.done = false := by
    cases hyd : y.done with
    | false => rfl
    | true => rw [hyd] at hr2; simp at hr2
   rw [if_neg (by rw [hyd]; decide)] at hr2
   have hyc : contraB y p = false := by
    cases hyc : contraB y p with
    | false => rfl
    | true => rw [hyc] at hr2; simp at hr2
   refine ⟨y, B, open_of hyd (h.all y hym).1, hysn, hyc, ?_, ?_, fun z hz => ⟨List.mem_of_mem_drop (i := atP s p.sn) (by rw [hd]; simp [hz]), hB z hz⟩, hascd.2, fun hn => ?_, fun hn => ?_⟩
   ·unfold mergedS; rw [hi, List.getElem?_append_right (by omega), hAl, Nat.sub_self]; rfl
   ·rw [hput, hi, List.set_append_right _ _ (by omega), hAl, Nat.sub_self]; rfl
   ·right
    rw [hn] at hd
    rw [hpl, hd, last_app] at hlast
    simp only [List.getLast?_nil, Option.getD_none, Option.map_some, Option.getD_some, hysn] at hlast
    exact hlast
   ·rw [hpl, hd, last_app]
    cases hg2 : B.getLast? with
    | none => exact absurd (List.getLast?_eq_none_iff.1 hg2) hn
    | some x => rfl
 obtain ⟨x, B, hox, hxs, hxc, hmg, hparts, hBm, hBa, hB0, hB1⟩ := key
 have hys : y'.sn = p.sn := by
  rw [hy']
  split
  ·rfl
  ·rw [hmg]; exact hxs
 have hyp : paB y' = true := by
  rw [hy']
  by_cases hc : compB (mergedS s p) = true
  ·rw [if_pos hc]; rfl
  ·rw [if_neg hc, hmg]
   exact merge_pa hox hxs hp3 hxc (by rw [<- hmg]; simpa using hc)
 have hpl2 : ∀ n, (putP s p).place n = s.place n := fun _ => rfl
 have hnx : (putP s p).next = if s.place p.sn >= s.place s.next then s.behind p.sn else s.next := rfl
 have hpn : s.place (putP s p).next = if s.place p.sn >= s.place s.next then s.place p.sn + 1 else s.place s.next := by
  rw [hnx]
  split
  ·exact place_behind hb h.f hsn hold
  ·rfl
 have hge : s.place s.next <= s.place (putP s p).next := by rw [hpn]; split <;> omega
 have hge2 : s.place p.sn < s.place (putP s p).next := by rw [hpn]; split <;> omega
 refine ⟨h.lk, h.f, ?_, h.u, ?_, h.q, ?_, ?_, ?_⟩
 ·show snOk s.lk.bits (putP s p).next
  rw [hnx]
  split
  ·exact behind_ok hb _
  ·exact h.n
 ·show s.place (putP s p).next <= 2 ^ (s.lk.bits - 1).toNat
  have := h.half
  rw [hpn]; split <;> omega
 ·intro z hz
  rw [hparts] at hz
  show paB z = true /\ snOk s.lk.bits z.sn /\ s.place z.sn < s.place (putP s p).next
  rcases List.mem_append.1 hz with hz | hz
  ·have := h.all z (by rw [hpl]; exact List.mem_append_left _ hz)
   exact ⟨this.1, this.2.1, by omega⟩
  ·rcases List.mem_cons.1 hz with rfl | hz
   ·exact ⟨hyp, by rw [hys]; exact hsn, by rw [hys]; exact hge2⟩
   ·have := h.all z (hBm z hz).1
    exact ⟨this.1, this.2.1, by omega⟩
 ·show (putP s p).parts.Pairwise fun x y => s.place x.sn < s.place y.sn
  rw [hparts, List.pairwise_append]
  refine ⟨?_, List.pairwise_cons.2 ⟨fun z hz => ?_, hBa⟩, fun z hz u hu => ?_⟩
  ·have := h.asc.take (i := atP s p.sn); rwa [<- hAe] at this
  ·rw [hys]; exact (hBm z hz).2
  ·have h1 := hA z (by rw [<- hAe]; exact hz)
   rcases List.mem_cons.1 hu with rfl | hu
   ·rw [hys]; exact h1
   ·have := (hBm u hu).2; omega
 ·show (((putP s p).parts.getLast?).map fun x => s.place x.sn).getD (-1) = s.place (putP s p).next - 1
  rw [hparts, last_app, hpn]
  simp only [Option.map_some, Option.getD_some]
  by_cases hBe : B = []
  ·rw [hBe]
   simp only [List.getLast?_nil, Option.getD_none, hys]
   rcases hB0 hBe with h1 | h1
   ·rw [if_pos h1]; omega
   ·rw [if_neg (by omega)]; omega
  ·have h1 := hB1 hBe
   cases hg : B.getLast? with
   | none => rw [List.getLast?_eq_none_iff] at hg; exact absurd hg hBe
   | some z =>
    have hl := h.last
    rw [<- h1, hg] at hl
    simp only [Option.map_some, Option.getD_some] at hl
    have := (hBm z (List.mem_of_getLast? hg)).2
    rw [if_neg (by omega)]
    simp only [Option.getD_some]
    exact hl
theorem rec_ok {s : Rc} {bs : List Int} (h : s.okB = true) (hg : ∀ b bs, (decP b bs).2 = 0 -> (decP b bs).1.ok b) : (recS s bs).1.okB = true := by
 obtain ⟨hc, hu, hf, hm⟩ := ok_iff.1 h
 unfold recS
 rw [if_neg (by rw [h]; decide)]
 dsimp only
 by_cases h2 : (decP s.lk.bits bs).2 ≠ 0
 ·rw [if_pos h2]; exact h
 rw [if_neg h2]
 by_cases h3 : refusedS s (decP s.lk.bits bs).1 ≠ 0
 ·rw [if_pos h3]; exact poll_ok h
 rw [if_neg h3]
 refine poll_ok ?_
 have hk := put_core hc (hg _ _ (by simpa using h2)) (by simpa using h3)
 obtain ⟨a1, a2, a3⟩ := adv_ok hk
 refine start_ok a1 a2 a3 ?_
 have hw := mark_w hm
 have e : ∀ t : Rc, (advS t).mark = t.mark /\ (advS t).left = t.left /\ (advS t).lk = t.lk := fun t => by unfold advS adv2; split <;> exact ⟨rfl, rfl, rfl⟩
 obtain ⟨e1, e2, e3⟩ := e (putP s (decP s.lk.bits bs).1)
 unfold MarkW
 rw [e1, e2, e3]
 exact hw
theorem new_ok {l : Lk} (h : lkOk l) {f : Int} (hf : snOk l.bits f) : Rc.okB ⟨l, f, f, f, -1, 0, 0, false, []⟩ = true := by
 refine ok_iff.2 ⟨⟨h, hf, hf, hf, ?_, ⟨Int.le_refl _, h.2.2.2.2.1.1⟩, fun x hx => by simp at hx, .nil, ?_⟩, Int.le_refl _, fun x hx => by simp at hx, rfl⟩
 ·have := pow_bits1 h.1
  rw [show Rc.place ⟨l, f, f, f, -1, 0, 0, false, []⟩ f = 0 from place_self _]
  show (0 : Int) <= 2 ^ (l.bits - 1).toNat
  omega
 ·rw [show Rc.place ⟨l, f, f, f, -1, 0, 0, false, []⟩ f = 0 from place_self _]; rfl
end Go.Sx
namespace Go.Sx
open Go.Proofs.YtmbppohkadmjgaaGreat
def lastO : Option Rg -> List Rg -> Option Rg
 | p, [] => p
 | _, x :: L => lastO (some x) L
theorem lastO_mem : ∀ (L : List Rg) (p : Option Rg) (q : Rg), lastO p L = some q -> q ∈ L \/ p = some q
 | [], p, q, h => .inr h
 | x :: L, p, q, h => by
  rcases lastO_mem L (some x) q h with h | h
  ·exact .inl (by simp [h])
  ·injection h with h; subst h; exact .inl (by simp)
def linkP (s : Rc) : Option Rg -> Rg -> Prop
 | none, _ => True
 | some q, r => s.place q.sn <= s.place r.sn /\ (s.place r.sn = s.place q.sn -> ¬ (whole q \/ whole r \/ r.f <= q.t))
def chP (s : Rc) : Option Rg -> List Rg -> Prop
 | _, [] => True
 | p, r :: l => (snOk s.lk.bits r.sn /\ (whole r \/ isPart r) /\ linkP s p r) /\ chP s (some r) l
theorem chP_app (s : Rc) (M : List Rg) : ∀ (L : List Rg) (p : Option Rg), chP s p (L ++ M) ↔ chP s p L /\ chP s (lastO p L) M
 | [], p => by simp [chP, lastO]
 | x :: L, p => by simp only [List.cons_append, chP, lastO, chP_app s M L, and_assoc]
theorem way_place {s : Rc} {x n : Int} (hb : bitsOk s.lk.bits) (hf : snOk s.lk.bits s.first) (hx : snOk s.lk.bits x) (hn : snOk s.lk.bits n) (h : s.place x <= s.place n) : way s.lk.bits x n = s.place n - s.place x := by
 have h : way s.lk.bits s.first x <= way s.lk.bits s.first n := h
 show way s.lk.bits x n = way s.lk.bits s.first n - way s.lk.bits s.first x
 unfold way snOk at *
 rcases pow_bits hb with e | e | e | e | e <;> rw [e] at hf hx hn h ⊢ <;> omega
theorem chP_chain {s : Rc} {n : Int} (hb : bitsOk s.lk.bits) (hf : snOk s.lk.bits s.first) (hn : snOk s.lk.bits n) (hh : s.place n <= 2 ^ (s.lk.bits - 1).toNat) : ∀ (L : List Rg) (p : Option Rg), chP s p L -> (∀ r ∈ L, s.place r.sn < s.place n) -> (∀ q, p = some q -> snOk s.lk.bits q.sn /\ s.place q.sn < s.place n) -> chainB s.lk.bits n p L = true
 | [], _, _, _, _ => rfl
 | r :: L, p, h, hL, hp => by
  obtain ⟨⟨h1, h2, h3⟩, h4⟩ := h
  have hr := hL r (by simp)
  have hw := way_place hb hf h1 hn (by omega)
  have h0 := place_ge s r.sn
  simp only [chainB, Bool.and_eq_true, decide_eq_true_iff]
  refine ⟨⟨⟨h1, by rw [hw]; omega, h2⟩, ?_⟩, chP_chain hb hf hn hh L (some r) h4 (fun x hx => hL x (by simp [hx])) fun q hq => by injection hq with hq; subst hq; exact ⟨h1, hr⟩⟩
  cases p with
  | none => trivial
  | some q =>
   obtain ⟨hq1, hq2⟩ := hp q rfl
   have hwq := way_place hb hf hq1 hn (by omega)
   obtain ⟨h5, h6⟩ := h3
   exact ⟨by rw [hw, hwq]; omega, fun e => h6 (by rw [hw, hwq] at e; omega)⟩
theorem chP_norm {s : Rc} {n : Int} (hn : snOk s.lk.bits n) : ∀ (M : List Rg) (p : Option Rg) (t : Int), normB t M = true -> -1 <= t -> (∀ r ∈ M, r.sn = n /\ r.t <= 65535) -> (∀ q, p = some q -> q.sn = n /\ ¬ whole q /\ q.t = t) -> chP s p M
 | [], _, _, _, _, _, _ => trivial
 | r :: M, p, t, h, ht, hr, hp => by
  simp only [normB, Bool.and_eq_true, decide_eq_true_iff] at h
  obtain ⟨hr1, hr2⟩ := hr r (by simp)
  have hnw : ¬ whole r := fun h => by have := h.1; have := h.2; omega
  refine ⟨⟨by rw [hr1]; exact hn, .inr ⟨by omega, by omega, hr2⟩, ?_⟩, chP_norm hn M (some r) r.t h.2 (by omega) (fun x hx => hr x (by simp [hx])) fun q hq => by injection hq with hq; subst hq; exact ⟨hr1, hnw, rfl⟩⟩
  cases p with
  | none => trivial
  | some q =>
   obtain ⟨h1, h2, h3⟩ := hp q rfl
   exact ⟨by rw [hr1, h1]; exact Int.le_refl _, fun _ h => by rcases h with h | h | h; exact h2 h; exact hnw h; omega⟩
theorem miss_chP {s : Rc} {n : Int} (h : Core s) (hn : snOk s.lk.bits n) : chP s none (missP s n) /\ ∀ r ∈ missP s n, r.sn = n := by
 have key : ∀ o : Option Pa, (∀ x, o = some x -> x ∈ s.parts /\ x.sn = n) -> chP s none (missO n o) /\ ∀ r ∈ missO n o, r.sn = n := fun o ho => by
  cases o with
  | none => exact ⟨⟨⟨hn, .inl ⟨rfl, rfl⟩, trivial⟩, trivial⟩, fun r hr => by simp [missO] at hr; rw [hr]⟩
  | some x =>
   obtain ⟨hx, hxs⟩ := ho x rfl
   have hpb := (h.all x hx).1
   unfold missO
   by_cases hd : x.done = true
   ·simp only [hd, if_true]
    exact ⟨trivial, fun r hr => by simp at hr⟩
   ·have hd : x.done = false := by simpa using hd
    obtain ⟨-, h2, h3, h4, h5, -⟩ := open_of hd hpb
    simp only [hd, Bool.false_eq_true, if_false]
    have hm := gaps_sn n (if x.len = -1 then 65535 else x.len) x.come 0
    have hend := end_come h3 h4
    refine ⟨chP_norm hn _ none (-1) (gaps_norm n _ x.come (-1) 0 (by simpa using h3) (by omega)) (Int.le_refl _) (fun r hr => ⟨hm r hr, ?_⟩) (fun q hq => by cases hq), hm⟩
    have h6 := gaps_le n (if x.len = -1 then 65535 else x.len) x.come 0 (fun y hy => by
     have h7 := norm_lt _ _ h3 y hy
     have h8 := hend y hy
     split <;> omega) r hr
    split at h6 <;> omega
 refine key _ fun x hx => ?_
 unfold idx at hx
 cases hi : s.parts.findIdx? (fun p => decide (p.sn = n)) with
 | none => rw [hi] at hx; simp at hx
 | some i =>
  rw [hi] at hx
  obtain ⟨h1, h2, _⟩ := List.findIdx?_eq_some_iff_getElem.1 hi
  simp only [Option.map_some, Option.getD_some] at hx
  rw [if_neg (by omega), Int.toNat_natCast, List.getElem?_eq_getElem h1] at hx
  injection hx with hx
  subst hx
  exact ⟨List.getElem_mem h1, by simpa using h2⟩
theorem statS_ok {s : Rc} (h : Core s) (hu : s.place s.upto <= s.place s.next) : ∀ (k : Nat) (n : Int) (O : List Rg), snOk s.lk.bits n -> s.place n + k = s.place s.upto -> O.length <= 64 -> chP s none O -> (∀ r ∈ O, snOk s.lk.bits r.sn /\ s.place r.sn < s.place n) -> okS s.lk.bits (statS s k n O)
 | 0, n, O, hn, hk, hl, hc, hO => by
  have hb := h.lk.1
  have e : n = s.upto := place_inj hb hn h.u (by omega)
  have hh := h.half
  subst e
  exact ⟨hb, h.u, hl, chP_chain hb h.f h.u (by omega) O none hc (fun r hr => (hO r hr).2) fun q hq => by cases hq⟩
 | k + 1, n, O, hn, hk, hl, hc, hO => by
  have hb := h.lk.1
  have hh := h.half
  unfold statS
  by_cases c : O.length + (missP s n).length > 64
  ·rw [if_pos c]
   exact ⟨hb, hn, hl, chP_chain hb h.f hn (by omega) O none hc (fun r hr => (hO r hr).2) fun q hq => by cases hq⟩
  ·rw [if_neg c]
   have hpb := place_behind hb h.f hn (by omega)
   obtain ⟨m1, m2⟩ := miss_chP h hn
   refine statS_ok h hu k (s.behind n) (O ++ missP s n) (behind_ok hb n) (by rw [hpb]; omega) (by rw [List.length_append]; omega) ((chP_app s _ _ _).2 ⟨hc, ?_⟩) fun r hr => ?_
   ·cases hM : missP s n with
    | nil => trivial
    | cons r M =>
     rw [hM] at m1 m2
     obtain ⟨⟨g1, g2, _⟩, g3⟩ := m1
     refine ⟨⟨g1, g2, ?_⟩, g3⟩
     cases hq : lastO none O with
     | none => trivial
     | some q =>
      rcases lastO_mem O none q hq with h1 | h1
      ·have h2 := (hO q h1).2
       have h3 := m2 r (by simp)
       exact ⟨by rw [h3]; omega, fun e => by rw [h3] at e; omega⟩
      ·cases h1
   ·rw [hpb]
    rcases List.mem_append.1 hr with hr | hr
    ·exact ⟨(hO r hr).1, by have := (hO r hr).2; omega⟩
    ·rw [m2 r hr]; exact ⟨hn, by omega⟩
theorem statR_ok {s : Rc} (h : s.okB = true) : okS s.lk.bits (statR s).1 := by
 obtain ⟨hc, hu, -, -⟩ := ok_iff.1 h
 unfold statR
 rw [if_neg (by rw [h]; decide)]
 have := place_ge s s.upto
 refine statS_ok hc hu _ _ [] hc.f (by rw [place_self]; omega) (by simp) trivial fun r hr => by simp at hr
end Go.Sx
namespace Go.Sx
theorem decP_bytesP {b : Int} {p : Pc} (h : p.ok b) : decP b p.bytes = (p, 0) := by
 obtain ⟨sn, part, poll, off, d⟩ := p
 have hf := Pc.first_range h
 obtain ⟨hb, h0, h1, h2, h3, h4, h5, h6⟩ := h
 simp only at h0 h1 h2 h3 h4 h5 h6
 have hp := pow_bits hb
 obtain ⟨f, hfe⟩ : ∃ f, f = Pc.first ⟨sn, part, poll, off, d⟩ := ⟨_, rfl⟩
 have hfe2 := hfe
 simp only [Pc.first] at hfe2
 rw [<- hfe] at hf
 have g0 : (Pc.bytes ⟨sn, part, poll, off, d⟩).getD 0 0 = f / 256 := by rw [hfe]; rfl
 have g1 : (Pc.bytes ⟨sn, part, poll, off, d⟩).getD 1 0 = f % 256 := by rw [hfe]; rfl
 have ef : 256 * (Pc.bytes ⟨sn, part, poll, off, d⟩).getD 0 0 + (Pc.bytes ⟨sn, part, poll, off, d⟩).getD 1 0 = f := by rw [g0, g1]; omega
 have hh2 : (part = 0 \/ part = 1) /\ headN part = 2 \/ ¬ (part = 0 \/ part = 1) /\ headN part = 4 := by
  unfold headN; by_cases hc : part = 0 \/ part = 1
  ·exact .inl ⟨hc, if_pos hc⟩
  ·exact .inr ⟨hc, if_neg hc⟩
 have hraw : rawP (Pc.bytes ⟨sn, part, poll, off, d⟩) = ⟨sn, part, poll, off, d⟩ := by
  unfold rawP
  simp only [ef]
  have e1 : f % 4096 = sn := by omega
  have e2 : f / 4096 % 4 = part := by omega
  have e3 : f / 16384 % 2 = poll := by omega
  rw [e1, e2, e3]
  rcases hh2 with ⟨hc, hh⟩ | ⟨hc, hh⟩
  ·rw [if_pos hc, hh]
   simp only [Pc.bytes, if_pos hc, List.append_nil]
   have : off = 0 := by omega
   rw [this]; rfl
  ·rw [if_neg hc, hh]
   simp only [Pc.bytes, if_neg hc]
   have : 256 * (off / 256) + off % 256 = off := by omega
   simp [this]
 have hlen : (Pc.bytes ⟨sn, part, poll, off, d⟩).length = headN part + d.length := by
  unfold Pc.bytes headN
  split <;> simp <;> omega
 unfold decP
 rw [if_neg (by simpa using hb), if_neg (by rcases hh2 with ⟨_, hh⟩ | ⟨_, hh⟩ <;> omega), hraw, if_neg (by simp only; omega), if_neg (by
  rw [g0]; simp only [not_or, Decidable.not_not]
  exact ⟨by omega, hb, h0, h1, h2, h3, h4, h5, h6⟩)]
def wR (l : Lk) (sn u left : Int) (due : Bool) : Rc := ⟨l, 0, sn + 1, u, sn + 1, left, 0, due, [donePa sn]⟩
section
variable {l : Lk} {sn u left : Int} {due : Bool}
end
end Go.Sx
namespace Go.Sx
def Agr (x : Pa) (u : List Int) : Prop := (x.len = -1 \/ x.len = u.length) /\ (∀ r ∈ x.come, r.t <= u.length) /\ ∀ k : Nat, covB k x.come = true -> x.data.getD k 0 = u.getD k 0
structure Rel (b : Int) (U : Nat -> List Int) (f : Int) (first : Nat) (L : List Pa) (G : Nat -> Bool) : Prop where
 pts : ∀ x ∈ L, snOk b x.sn /\ x.done = G (first + (way b f x.sn).toNat) /\ (x.done = false -> Agr x (U (first + (way b f x.sn).toNat)))
 all : ∀ j : Nat, G (first + j) = true -> ∃ x ∈ L, way b f x.sn = j
theorem way_zero {b f n : Int} (hb : bitsOk b) (hf : snOk b f) (hn : snOk b n) (h : way b f n = 0) : n = f := by
 unfold way snOk at *
 rcases pow_bits hb with e | e | e | e | e <;> rw [e] at hn hf h <;> omega
theorem way_next {b f n : Int} (hb : bitsOk b) (hf : snOk b f) (hn : snOk b n) (h : 1 <= way b f n) : way b ((f + 1) % 2 ^ b.toNat) n = way b f n - 1 := by
 unfold way snOk at *
 rcases pow_bits hb with e | e | e | e | e <;> rw [e] at hn hf h ⊢ <;> omega
theorem next_sn {b f : Int} (hb : bitsOk b) : snOk b ((f + 1) % 2 ^ b.toNat) := by
 unfold snOk
 rcases pow_bits hb with e | e | e | e | e <;> rw [e] <;> omega
theorem rel_drop {b : Int} {U : Nat -> List Int} {G : Nat -> Bool} (hb : bitsOk b) : ∀ (d : Nat) (f : Int) (first : Nat) (L : List Pa), Rel b U f first L G -> snOk b f -> (L.Pairwise fun x y => way b f x.sn < way b f y.sn) ->
 (∀ k, k < d -> G (first + k) = true) -> G (first + d) = false -> (dropS b f L).1 = (f + d) % 2 ^ b.toNat /\ Rel b U ((f + d) % 2 ^ b.toNat) (first + d) (dropS b f L).2 G
 | 0, f, first, L, h, hf, hs, _, hg => by
  have e : dropS b f L = (f, L) := by
   cases L with
   | nil => rfl
   | cons p l =>
    rw [dropS, if_neg]
    rintro ⟨h1, h2⟩
    have h3 := (h.pts p (by simp)).2.1
    have h4 : way b f p.sn = 0 := by rw [h1]; unfold way; rw [Int.sub_self, Int.zero_emod]
    rw [h4] at h3
    rw [h2] at h3
    exact Bool.noConfusion (h3.trans hg)
  have e2 : (f + ((0 : Nat) : Int)) % 2 ^ b.toNat = f := by
   unfold snOk at hf
   rcases pow_bits hb with e | e | e | e | e <;> rw [e] at hf ⊢ <;> omega
  rw [e, e2]
  exact ⟨rfl, h⟩
 | d + 1, f, first, L, h, hf, hs, hk, hg => by
  have h0 := hk 0 (by omega)
  obtain ⟨x, hx, hw⟩ := h.all 0 h0
  cases L with
  | nil => simp at hx
  | cons p l =>
   rw [List.pairwise_cons] at hs
   obtain ⟨hp1, hp2, hp3⟩ := h.pts p (by simp)
   have hwp : way b f p.sn = 0 := by
    rcases List.mem_cons.1 hx with rfl | hx
    ·exact hw
    ·have := hs.1 x hx
     have := (way_range b f p.sn).1
     omega
   have hpf := way_zero hb hf hp1 hwp
   have hpd : p.done = true := by rw [hp2, hwp]; exact h0
   have hl : ∀ y ∈ l, way b ((f + 1) % 2 ^ b.toNat) y.sn = way b f y.sn - 1 /\ 1 <= way b f y.sn := fun y hy => by
    have h1 := hs.1 y hy
    exact ⟨way_next hb hf (h.pts y (by simp [hy])).1 (by omega), by omega⟩
   have hR : Rel b U ((f + 1) % 2 ^ b.toNat) (first + 1) l G := by
    refine ⟨fun y hy => ?_, fun j hj => ?_⟩
    ·obtain ⟨q1, q2, q3⟩ := h.pts y (by simp [hy])
     obtain ⟨e1, e2⟩ := hl y hy
     have e3 : first + 1 + (way b ((f + 1) % 2 ^ b.toNat) y.sn).toNat = first + (way b f y.sn).toNat := by omega
     rw [e3]
     exact ⟨q1, q2, q3⟩
    ·obtain ⟨y, hy, e⟩ := h.all (j + 1) (by rw [<- hj]; congr 1; omega)
     rcases List.mem_cons.1 hy with rfl | hy
     ·omega
     ·exact ⟨y, hy, by rw [(hl y hy).1]; omega⟩
   obtain ⟨r1, r2⟩ := rel_drop hb d _ _ l hR (next_sn hb) (hs.2.imp_of_mem fun {x y} hx hy hxy => by rw [(hl x hx).1, (hl y hy).1]; omega) (fun k hkd => by
    have := hk (k + 1) (by omega)
    rw [<- this]; congr 1; omega) (by rw [<- hg]; congr 1; omega)
   have e4 : dropS b f (p :: l) = dropS b ((f + 1) % 2 ^ b.toNat) l := by rw [dropS, if_pos ⟨hpf, hpd⟩]
   have e5 : ((f + 1) % 2 ^ b.toNat + (d : Int)) % 2 ^ b.toNat = (f + ((d + 1 : Nat) : Int)) % 2 ^ b.toNat := by
    rcases pow_bits hb with e | e | e | e | e <;> rw [e] <;> omega
   rw [e4, r1, e5]
   rw [e5, show first + 1 + d = first + (d + 1) by omega] at r2
   exact ⟨rfl, r2⟩
structure Piece (q : Pc) (u : List Int) : Prop where
 pos : 0 <= q.off
 one : 1 <= q.data.length
 fit : q.en <= u.length
 byt : ∀ k : Nat, q.off <= k -> (k : Int) < q.en -> q.data.getD (k - q.off.toNat) 0 = u.getD k 0
 fin : ends q.part = true ↔ q.en = u.length
theorem agr_new (n : Int) (u : List Int) : Agr (newPa n) u := ⟨.inl rfl, fun r hr => by simp [newPa] at hr, fun k h => by simp [newPa, covB] at h⟩
theorem agr_contra {x : Pa} {q : Pc} {u : List Int} (ho : Open x) (ha : Agr x u) (hq : Piece q u) : contraB x q = false := by
 obtain ⟨h1, h2, h3⟩ := ha
 obtain ⟨-, -, ho3, -, -, -⟩ := ho
 have he : endT x.come <= u.length := by
  by_cases c : x.come = []
  ·rw [c]; show (0 : Int) <= _; omega
  ·obtain ⟨r, hr, e⟩ := (norm_end (q := 0) ho3).2 c
   have := h2 r hr
   unfold endT; omega
 have hf := hq.fit
 unfold contraB
 by_cases c : ends q.part = true
 ·rw [if_pos c, decide_eq_false_iff_not]
  have := hq.fin.1 c
  omega
 ·rw [if_neg c, decide_eq_false_iff_not]
  have : q.en ≠ u.length := fun h => c (hq.fin.2 h)
  omega
theorem agr_merge {x : Pa} {q : Pc} {u : List Int} (ho : Open x) (ha : Agr x u) (hq : Piece q u) : Agr (mergeS x q) u /\ (compB (mergeS x q) = true -> (mergeS x q).data = u) := by
 obtain ⟨h1, h2, h3⟩ := ha
 obtain ⟨ho1, ho2, ho3, ho4, ho5, ho6⟩ := ho
 have hf := hq.fit
 have hp := hq.pos
 have hone := hq.one
 have hen : q.en = q.off + q.data.length := rfl
 have hlt : q.off < q.en := by omega
 have hcov : ∀ k : Int, covB k (mergeS x q).come = (decide (q.off <= k /\ k < q.en) || covB k x.come) := fun k => union_cov q.sn k x.come q.off q.en hlt fun r hr => (norm_lt _ _ ho3 r hr).2
 have hl : (mergeS x q).data.length = max x.data.length (q.off.toNat + q.data.length) := layD_len _ _ _
 have hend : endT (mergeS x q).come = max (endT x.come) q.en := end_union ho3 hp hlt
 have hlen : (mergeS x q).len = if ends q.part = true then q.en else x.len := rfl
 have hA : Agr (mergeS x q) u := by
  refine ⟨?_, union_le q.sn x.come q.off q.en _ h2 hf, fun k hk => ?_⟩
  ·rw [hlen]
   by_cases c : ends q.part = true
   ·rw [if_pos c]; exact .inr (hq.fin.1 c)
   ·rw [if_neg c]; exact h1
  ·have hd : (mergeS x q).data.getD k 0 = _ := layD_get x.data q.off.toNat q.data k
   rw [hd]
   by_cases c : q.off.toNat <= k /\ k < q.off.toNat + q.data.length
   ·rw [if_pos c]; exact hq.byt k (by omega) (by omega)
   ·rw [if_neg c]
    rw [hcov, decide_eq_false (by omega), Bool.false_or] at hk
    exact h3 k hk
 refine ⟨hA, fun hc => ?_⟩
 unfold compB at hc
 cases hcome : (mergeS x q).come with
 | nil => rw [hcome] at hc; cases hc
 | cons r rs =>
  cases rs with
  | cons r2 rs => rw [hcome] at hc; cases hc
  | nil =>
   rw [hcome] at hc
   have hc := of_decide_eq_true hc
   have hL : (mergeS x q).len = u.length := by
    rcases hA.1 with h | h
    ·omega
    ·exact h
   have hE : endT (mergeS x q).come = u.length := by rw [hcome]; show r.t = _; omega
   have hdl : ((mergeS x q).data.length : Int) = u.length := by omega
   apply List.ext_getElem (by omega)
   intro k k1 k2
   have := hA.2.2 k (by rw [hcome]; simp [covB]; omega)
   rw [getD_at2 k1, getD_at2 k2] at this
   exact this
def setG (G : Nat -> Bool) (c : Nat) : Nat -> Bool := fun k => if k = c then true else G k
theorem rel_put {s : Rc} {U : Nat -> List Int} {G : Nat -> Bool} {first j : Nat} {q : Pc} (hc : Core s) (hR : Rel s.lk.bits U s.first first s.parts G) (hq : q.ok s.lk.bits) (hj : s.place q.sn = j) (hh : s.place q.sn < 2 ^ (s.lk.bits - 1).toNat) (hP : Piece q (U (first + j))) :
 (refusedS s q = 0 \/ refusedS s q = 12) /\ (refusedS s q = 0 -> G (first + j) = false /\ ((unitS s q = [] /\ Rel s.lk.bits U s.first first (putP s q).parts G) \/ (unitS s q = U (first + j) /\ Rel s.lk.bits U s.first first (putP s q).parts (setG G (first + j))))) := by
 have hsn : snOk s.lk.bits q.sn := hq.2.1
 have hb := hc.lk.1
 have hold' : ¬ s.place q.sn >= 2 ^ (s.lk.bits - 1).toNat := by omega
 obtain ⟨hA, hsp⟩ := at_split hc hsn
 obtain ⟨A, hAe⟩ : ∃ A, A = s.parts.take (atP s q.sn) := ⟨_, rfl⟩
 have hpl : s.parts = A ++ s.parts.drop (atP s q.sn) := by rw [hAe, List.take_append_drop]
 have hkl : atP s q.sn <= s.parts.length := by
  have := congrArg List.length (List.takeWhile_append_dropWhile (p := fun p' : Pa => decide (s.place p'.sn < s.place q.sn)) (l := s.parts))
  rw [List.length_append] at this
  show (s.parts.takeWhile _).length <= _
  omega
 have hAl : A.length = atP s q.sn := by rw [hAe, List.length_take]; omega
 obtain ⟨y', hy'⟩ : ∃ y', y' = if compB (mergedS s q) then donePa q.sn else mergedS s q := ⟨_, rfl⟩
 have hput : (putP s q).parts = (insS s q).set (atP s q.sn) y' := by rw [hy']; rfl
 have hAm : ∀ x ∈ A, x ∈ s.parts /\ s.place x.sn < s.place q.sn := fun x hx => by rw [hAe] at hx; exact ⟨List.mem_of_mem_take hx, hA x hx⟩
 have hway : ∀ n, way s.lk.bits s.first n = s.place n := fun n => rfl

 have fin : ∀ (x : Pa) (B : List Pa), Open x -> x.sn = q.sn -> Agr x (U (first + j)) -> mergedS s q = mergeS x q -> (putP s q).parts = A ++ y' :: B -> (∀ z ∈ B, z ∈ s.parts /\ s.place q.sn < s.place z.sn) ->
  (∀ z ∈ s.parts, z ∈ A \/ z ∈ B \/ z.sn = q.sn) -> G (first + j) = false ->
  ((unitS s q = [] /\ Rel s.lk.bits U s.first first (putP s q).parts G) \/ (unitS s q = U (first + j) /\ Rel s.lk.bits U s.first first (putP s q).parts (setG G (first + j)))) := fun x B ho hxs hx hm hp hB hsplit hG => by
  obtain ⟨m1, m2⟩ := agr_merge ho hx hP
  have hyo : (mergeS x q).done = false := ho.1
  have hys : (mergeS x q).sn = q.sn := hxs
  cases hcm : compB (mergedS s q) with
  | false =>
   left
   refine ⟨by unfold unitS; rw [hcm]; rfl, ?_⟩
   rw [hcm] at hy'
   have hy2 : y' = mergeS x q := by rw [hy', hm]; rfl
   rw [hp]
   refine ⟨fun z hz => ?_, fun i hi => ?_⟩
   ·rcases List.mem_append.1 hz with hz | hz
    ·exact hR.pts z (hAm z hz).1
    ·rcases List.mem_cons.1 hz with rfl | hz
     ·rw [hy2, hys, hyo, hway, hj, Int.toNat_natCast]
      exact ⟨hsn, hG.symm, fun _ => m1⟩
     ·exact hR.pts z (hB z hz).1
   ·obtain ⟨z, hz, e⟩ := hR.all i hi
    rcases hsplit z hz with h | h | h
    ·exact ⟨z, by simp [h], e⟩
    ·exact ⟨z, by simp [h], e⟩
    ·exact ⟨y', by simp, by rw [hy2, hys, <- h]; exact e⟩
  | true =>
   right
   rw [hcm] at hy'
   have hy2 : y' = donePa q.sn := hy'
   refine ⟨by unfold unitS; rw [hcm, if_pos rfl, hm]; exact m2 (by rw [<- hm]; exact hcm), ?_⟩
   rw [hp]
   have hne : ∀ z, s.place z ≠ s.place q.sn -> setG G (first + j) (first + (way s.lk.bits s.first z).toNat) = G (first + (way s.lk.bits s.first z).toNat) := fun z hz => by
    unfold setG
    have := place_ge s z
    rw [if_neg]
    rw [hway]; omega
   refine ⟨fun z hz => ?_, fun i hi => ?_⟩
   ·rcases List.mem_append.1 hz with hz | hz
    ·rw [hne z.sn (by have := (hAm z hz).2; omega)]
     exact hR.pts z (hAm z hz).1
    ·rcases List.mem_cons.1 hz with rfl | hz
     ·rw [hy2]
      refine ⟨hsn, ?_, fun h => by cases h⟩
      show true = _
      show true = setG G (first + j) (first + (s.place q.sn).toNat)
      rw [hj, Int.toNat_natCast]
      unfold setG; rw [if_pos rfl]
     ·rw [hne z.sn (by have := (hB z hz).2; omega)]
      exact hR.pts z (hB z hz).1
   ·by_cases hij : i = j
    ·exact ⟨y', by simp, by rw [hy2, hij]; exact hj⟩
    ·have hi2 : G (first + i) = true := by
      unfold setG at hi
      rw [if_neg (by omega)] at hi
      exact hi
     obtain ⟨z, hz, e⟩ := hR.all i hi2
     rcases hsplit z hz with h | h | h
     ·exact ⟨z, by simp [h], e⟩
     ·exact ⟨z, by simp [h], e⟩
     ·rw [h, hway, hj] at e
      omega
 rcases hsp with ⟨hf, hB⟩ | ⟨y, B, hf, hd, hg, hysn, hB⟩
 ·have hi : insS s q = A ++ newPa q.sn :: s.parts.drop (atP s q.sn) := by rw [insS, if_neg (by rw [hf]; decide), hAe]
  have hno : ∀ z ∈ s.parts, s.place z.sn ≠ s.place q.sn := fun z hz => by
   rw [hpl] at hz
   rcases List.mem_append.1 hz with hz | hz
   ·have := (hAm z hz).2; omega
   ·have := hB z hz; omega
  have hr0 : refusedS s q = 0 := by
   unfold refusedS
   rw [if_neg hold']
   unfold foundB at hf
   split
   ·rename_i x hx
    rw [hx] at hf
    rw [if_neg (of_decide_eq_false hf)]
   ·rfl
  refine ⟨.inl hr0, fun _ => ?_⟩
  have hG : G (first + j) = false := by
   cases hGj : G (first + j) with
   | false => rfl
   | true =>
    obtain ⟨z, hz, e⟩ := hR.all j hGj
    exact absurd (by rw [hj]; exact e) (hno z hz)
  refine ⟨hG, fin (newPa q.sn) (s.parts.drop (atP s q.sn)) (open_new _) rfl (agr_new _ _) ?_ ?_ (fun z hz => ⟨List.mem_of_mem_drop hz, hB z hz⟩) (fun z hz => ?_) hG⟩
  ·unfold mergedS; rw [hi, List.getElem?_append_right (by omega), hAl, Nat.sub_self]; rfl
  ·rw [hput, hi, List.set_append_right _ _ (by omega), hAl, Nat.sub_self]; rfl
  ·rw [hpl] at hz
   rcases List.mem_append.1 hz with hz | hz
   ·exact .inl hz
   ·exact .inr (.inl hz)
 ·have hi : insS s q = A ++ y :: B := by rw [insS, if_pos hf, hpl, hd]
  have hym : y ∈ s.parts := List.mem_of_getElem? hg
  obtain ⟨q1, q2, q3⟩ := hR.pts y hym
  rw [hway, hysn, hj, Int.toNat_natCast] at q2 q3
  have hr : refusedS s q = if y.done = true then 12 else if contraB y q then 4 else if hasB y q then 12 else 0 := by
   unfold refusedS
   rw [if_neg hold', hg]
   dsimp only
   rw [if_pos hysn]
  cases hyd : y.done with
  | true =>
   rw [hyd, if_pos rfl] at hr
   rw [hr]
   exact ⟨.inr rfl, fun h => by cases h⟩
  | false =>
   have ho := open_of hyd (hc.all y hym).1
   have ha := q3 hyd
   rw [hyd, if_neg (by decide), agr_contra ho ha hP, if_neg (by decide)] at hr
   have hG : G (first + j) = false := by rw [<- q2]; exact hyd
   refine ⟨by rw [hr]; split <;> simp, fun _ => ⟨hG, fin y B ho hysn ha ?_ ?_ (fun z hz => ⟨List.mem_of_mem_drop (i := atP s q.sn) (by rw [hd]; simp [hz]), hB z hz⟩) (fun z hz => ?_) hG⟩⟩
   ·unfold mergedS; rw [hi, List.getElem?_append_right (by omega), hAl, Nat.sub_self]; rfl
   ·rw [hput, hi, List.set_append_right _ _ (by omega), hAl, Nat.sub_self]; rfl
   ·rw [hpl, hd] at hz
    rcases List.mem_append.1 hz with hz | hz
    ·exact .inl hz
    ·rcases List.mem_cons.1 hz with rfl | hz
     ·exact .inr (.inr hysn)
     ·exact .inr (.inl hz)
theorem rel_new (b : Int) (U : Nat -> List Int) : Rel b U 0 0 [] fun _ => false := ⟨fun x hx => by simp at hx, fun j h => by cases h⟩
end Go.Sx
namespace Go.Proofs.YtmbppohkadmjgaaGreat
open Go.Sx Go.RowKit
set_option maxRecDepth 100000
def fillB (seed : Int) (n : Nat) : List Int := (List.range n).map fun i : Nat => (seed + 7 * (i : Int) + (i : Int) / 16) % 256
section
variable {g : Nat} {a : Option Addr} {c : Nat} {ts : List Int} {p : Nat} {w : World} {A : Nat -> Prop} {P : World -> Prop}
theorem made_Link_ct (hP : Held A w P) (hts : Rolls a ts P) (hB : (dice g a c ts p).ok w) (hn : ∀ b, (dice g a c ts p).at = some b -> ¬ A b) (hp : p <= ts.length) :
 Calls Tryz.prog N_made_Dice_Link #[(.pointer (some ⟨g, 0, none⟩))] w fun e w' => ∃ (l : Lk) (p' : Nat), e = .returned (.agg #[.int .i64 l.bits, .int .i64 l.every, .int .i64 l.poll, .int .i64 l.wait, .int .i64 l.quiet, .int .i64 l.tries]) /\ lkOk l /\ p' <= ts.length /\ St A [g] w w' [dice g a c ts p'] P := by
 apply F_made_Dice_Link_ok
 unfold F_made_Dice_Link
 have H : St A [g] w w [dice g a c ts p] P := St.startM hP hB hn
 refine H.alloc ?_; clear H; intro b w1 H1
 refine dBits H1 (i := 0) rfl hts hp fun v0 p1 w2 h0 hp1 H2 => ?_
 refine dNext H2 (i := 0) rfl hts hp1 (by omega) fun v1 p2 w3 _ h1 hp2 H3 => ?_
 have h1 := h1 (by omega)
 refine kW_i64 (by omega) ?_
 refine dNext H3 (i := 0) rfl hts hp2 (by omega) fun v2 p3 w4 _ h2 hp3 H4 => ?_
 have h2 := h2 (by omega)
 refine kW_i64 (by omega) ?_
 refine dNext H4 (i := 0) rfl hts hp3 (by omega) fun v3 p4 w5 _ h3 hp4 H5 => ?_
 have h3 := h3 (by omega)
 refine kW_i64 (by omega) ?_
 refine dNext H5 (i := 0) rfl hts hp4 (by omega) fun v4 p5 w6 _ h4 hp5 H6 => ?_
 have h4 := h4 (by omega)
 refine dNext H6 (i := 0) rfl hts hp5 (by omega) fun v5 p6 w7 _ h5 hp6 H7 => ?_
 have h5 := h5 (by omega)
 refine kW_i64 (by omega) ?_
 simp only [List.cons_append, List.nil_append, List.set_cons_zero] at H7
 refine H7.store (i := 1) rfl (by rfl) (by rfl) ?_; intro w8 H8
 simp only [List.set_cons_succ, List.set_cons_zero] at H8
 refine ⟨_, _, _, _, _, _, H8.cells (i := 1) rfl, ?_⟩
 exact ⟨⟨v0, 1 + v1, 1 + v2, 1 + v3, v4, 1 + v5⟩, p6, rfl, ⟨h0, ⟨by dsimp only; omega, by dsimp only; omega⟩, ⟨by dsimp only; omega, by dsimp only; omega⟩, ⟨by dsimp only; omega, by dsimp only; omega⟩, ⟨by dsimp only; omega, by dsimp only; omega⟩, by dsimp only; omega, by dsimp only; omega⟩, hp6, St.dropLast (R := [_]) H8⟩
end
section
variable {A0 : Nat -> Prop} {M : List Nat} {w0 w : World} {R : List Res} {P : World -> Prop} {i g : Nat} {a : Option Addr} {c : Nat} {ts : List Int} {p : Nat}
end

section
variable {g : Nat} {a : Option Addr} {c : Nat} {ts : List Int} {p : Nat} {w : World} {A : Nat -> Prop} {P : World -> Prop}
end
end Go.Proofs.YtmbppohkadmjgaaGreat
namespace Go.Proofs.YtmbppohkadmjgaaGreat
open Go.Sx Go.RowKit
set_option maxRecDepth 100000
theorem encP_bytes {b : Int} {p : Pc} (h : Bytes p.data) : Bytes (encP b p).1 := by
 unfold encP
 split
 ·rename_i hp
  have hf := Pc.first_range hp
  obtain ⟨_, _, _, _, _, ho, _⟩ := hp
  rw [bytes_mem] at h ⊢
  intro x hx
  unfold Pc.bytes at hx
  simp only [List.mem_append] at hx
  rcases hx with (hx | hx) | hx
  ·simp at hx; omega
  ·split at hx
   ·simp at hx
   ·simp at hx; omega
  ·exact h x hx
 ·exact bytes_nil
abbrev rowsP (g : Nat) (a : Option Addr) (c : Nat) (ts : List Int) (p b b1 : Nat) (s : Rc) (sa : Option Addr) (sc : Nat) (T : List Res) : List Res :=
 dice g a c ts p :: .blk b Ty_api_Receiver (encRc s sa sc) :: .blk b1 Ty_api_Piece [.int .i64 0, .int .i64 0, .int .i64 0, .int .i64 0, .slice none 0 0] :: T
section
variable {g : Nat} {a : Option Addr} {c : Nat} {ts : List Int} {p : Nat} {w : World} {A : Nat -> Prop} {P : World -> Prop} {s : Rc} {sa : Option Addr} {sc : Nat}
end
end Go.Proofs.YtmbppohkadmjgaaGreat
